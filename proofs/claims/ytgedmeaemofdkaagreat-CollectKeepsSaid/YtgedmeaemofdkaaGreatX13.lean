/-
 The statement CollectKeeps: part 13.
 Conditions: none.
-/
import Derived.RangeFuncFrom
import Derived.RangeFuncLeaves
import Derived.Test.YtgedmeaemofdkaaGreatX12
set_option maxRecDepth 100000
set_option maxHeartbeats 2000000
set_option linter.all false
open Option renaming some->M,none->Lb
open Inhabited renaming default->O
open Bool renaming true->La,false->Lc,and_eq_true->LL
open List renaming map->Ld,replicate->Lg,getD_eq_getElem?_getD->Lh,take->Ll,mem_append_left->Ln,mem_cons->Lo,range->Lq,append_assoc->Lr,mem_of_getElem?->Ls,getElem?_eq_getElem->Lt,not_mem_nil->Lu,filter_append->Lv,mem_replicate->Lw,length_map->LA,mem_map->LB,all_eq_true->LQ,getElem?_append->LR,map_append->LS,mem_append_right->LU,drop->L3,map_take->L4,take_append_drop->L5,append_nil->L7,drop_eq_getElem_cons->L8,find?_range_eq_some->L9,getElem?_append_left->Xa,getElem?_eq_some_iff->Xb,length_replicate->Xc,map_drop->Xd,map_set->Xe,mem_append->Xf,pairwise_append->Xg,take_length->Xh,filter_eq_self->Xt,getElem?_of_mem->Xu,getElem?_replicate->Xv,length_append->Xw,map_cons->Xx,map_nil->Xy,mem_filter->Xz,mem_iff_getElem?->XA,pairwise_iff_getElem->XB,take_succ->XC
open Decidable renaming decide->Le,not_not->Xp
open Go.Fence renaming wide->Lf
open Go.Exit renaming inBlock->Li
open Go.World renaming putObj_heap_other->Lj,putObj_heap_same->Lx,putObj_size->Ly,alloc_heap_new->Xk,cell?->XI,setRow->XJ
open Nat renaming le_refl->Lk,le_trans->LV,lt_of_lt_of_le->L6,beq->Xi,add_zero->XD,lt_or_ge->XE,mul_le_mul_right->XF,zero_mul->XG
open Array renaming getElem?_eq_some_iff->Lm,getElem?_append->LH,replicate->LI,size_setIfInBounds->LZ,ext->Xl,getElem?_eq_getElem->Xm
open Go.Obj renaming loop->Lp
open Go.RowKit.Below renaming heap_alloc->Lz
open Go.Oper renaming wp->LC,upon_enter->Xj
open Or renaming inl->LD,inr->LF
open Go.Value renaming int->LG,slice->XH
open Go.Code renaming region->LM,seq->L0,exit->Xn,ret->Xo
open Go.Deferred renaming ofValue->LN
open Int renaming toNat_natCast->LO,mul_comm->L1,mul_nonneg->L2,add_mul->Xq,one_mul->Xr,toNat->Xs
open Option.some renaming injEq->LW
open Go.Region renaming wanted->LY
open Go.Proofs.Tryz
namespace Go.Sx
open Go.RowKit
theorem ZiU{P clk ops hints o t}{H:Heap}{x:Out}(h:Aq P clk ops hints o t H=M x):∀c,o.op≠.defer c:=by intro c hc;unfold Aq Nq Ns act at h;grind
def fen(ro:Option Nat):Fence:={Lf with round:=ro}
theorem IR{P ro n}{o:Oper}{a w next Q}(hd:∀c,o.op≠.defer c)(h:o.wp P a w next Q):o.wpIn (fen ro) n P a w next Q:=by
 refine⟨λ_ _=>trivial, ?_⟩;rw[Oper.semAt_eq _ _ _ hd];unfold LC at h;generalize (execOp a.eval o).run P w=r at h⊢;cases r with
 |ok x g =>
  cases x with|value v=>exact h|skip=>exact h|defer d=>exact h|enter f args=>exact⟨λh=>(by cases h),callsIn_wide.2 h⟩|row s args=>exact⟨λh=>(by cases h),λc b _=>let ⟨v,w2,q,r⟩:=h c b;⟨v,w2,q,stepsIn_wide.2 r⟩⟩|_=>exact h.elim
 |halt e g =>
  cases e with|panic v=>exact h|_=>exact h.elim
def Dh{P Ow Im0 w0 clk hints ops Q ro n l2}:∀{l:List Nat} {tmps:List AV} {H:Heap} {a:Act} {w:World} {out:Out},
  Ry P clk ops hints l tmps H=M out->Sys Ow Im0 w0 tmps H clk a w->B8 out.ph->EW out.eq->(∀b w',Sys Ow Im0 w0 out.tmps out.H clk b w'->wpOpsIn (fen ro) n P ops Q l2 b w')->wpOpsIn (fen ro) n P ops Q (l++l2) a w
 |[],tmps,H,a,w,out,h,hS,_,_,hQ=>by
  grind[Ry]
 |i::l,tmps,H,a,w,out,h,hS,hph,heq,hQ=>by
  simp only[Ry]at h;split at h
  .cases h
  rename_i o e;split at h
  .cases h
  rename_i x g;split at h
  .cases h
  rename_i y j;cases h;obtain⟨k,p2⟩:=Hi.1 hph;have d:=Z3q (next:=wpOpsIn (fen ro) n P ops Q (l++l2)) (Q:=Q) g hS k heq.left λb w' c=>Dh j c p2 heq.right hQ;simp only[List.cons_append,wpOpsIn,e];split
  .grind[IR,ZiU]
  .rename_i f;exact⟨λ_ _=>trivial,d.2 ((Bool.not_eq_true _).mp f)⟩
def Pp{P Ow Im0 w0 clk hints ops}{Q:Exit->Act->World->Prop}{ro n l tmps}{H:Heap}{a w}{out:Out}(h:Ry P clk ops hints l tmps H=M out)(f:Sys Ow Im0 w0 tmps H clk a w)(c:B8 out.ph)(b:EW out.eq)(e:∀d w',Sys Ow Im0 w0 out.tmps out.H clk d w'->Q .normal d w'):wpOpsIn (fen ro) n P ops Q l a w:=by have:=Dh (ro:=ro) (n:=n) (Q:=Q) (l2:=[]) h f c b e;grind
def RJ:Code->Bool|.skip=>La|.region _ _ d=>!d|.seq x y=>RJ x&&RJ y|.cond _ x y=>RJ x&&RJ y|.block _ c=>RJ c|.exit _=>La|.ret=>La|_=>Lc
def CIn(P:Program)(c:Code)(s:St)(e:Ex)(t:St):Prop:=
 ∀(i:Option Nat) (n:Nat) (d:Own) (b:Nat->Prop) (f:World) (a:Act) (w:World),Sys d b f s.tmps s.H s.clk a w->c.wpIn (fen i) n P (λh g j=>h=e.exit/\Sys d b f t.tmps t.H t.clk g j) a w
def Zf2{P:Program}{hints:List (Nat×List Hint)}:∀{c:Code} {s:St} {r:ZL},RJ c=La->Ct P hints [] c s=M r->B8 r.ph->EW r.eq->CIn P c s r.e r.s:=by
 intro c;induction c with
 |skip=>intro s r _ h _ _ p n o d t a w i;simp only[Ct,LW]at h;subst h;exact wpIn_skip ⟨rfl,i⟩
 |region m a3 dr =>
  intro s r l h g f p n o d t a w i;cases dr with
  |true=>cases l
  |false =>
   simp only[Ct]at h;split at h;rotate_left
   .cases h
   rename_i x hx;cases h;exact wpIn_region (Pp hx i g f λa' w' j=>⟨rfl,j.clk pq⟩)
 |seq x y u z =>
  intro s r l h g f p n o d t a w i;simp only[RJ,LL]at l;simp only[Ct]at h;split at h
  .cases h
  rename_i q v;split at h
  .rename_i he;split at h;rotate_left
   .cases h
   rename_i q2 a1;cases h;obtain⟨p1,p2⟩:=Hi.1 g;refine wpIn_seq (wpIn_mono (u l.1 v p1 f.left p n o d t a w i) ?_);rintro e a' w' ⟨rfl,j⟩;rw[he];exact z l.2 a1 p2 f.right p n o d t a' w' j
  .rename_i he;cases h;refine wpIn_seq (wpIn_mono (u l.1 v g f p n o d t a w i) ?_);rintro e a' w' ⟨rfl,j⟩;cases hqe:q.e with
   |nrm=>grind
   |ext n=>exact⟨rfl,j⟩
   |ret=>exact⟨rfl,j⟩
 |cond c x y u z =>
  intro s r l h g f p n o d t a w i;simp only[RJ,LL]at l;simp only[Ct]at h;split at h
  .cases h
  rename_i b hb;have hv:a.eval c=.bool b:=by
   obtain⟨ρ,Im,I,T⟩:=i;have:=Ed T c;rw[PV hb]at this;exact C3 this
  split at h
  .split at h;rotate_left
   .cases h
   rename_i q v;cases h;obtain⟨p1,p2⟩:=Hh.1 g;exact wpIn_cond_true (by rw[hv,p1]) (u l.1 v p2 f p n o d t a w i)
  .split at h;rotate_left
   .cases h
   rename_i q v;cases h;obtain⟨p1,p2⟩:=Hh.1 g;exact wpIn_cond_false (by rw[hv,p1]) (z l.2 v p2 f p n o d t a w i)
  .split at h
   .exact wpIn_cond_true hv (u l.1 h g f p n o d t a w i)
   .exact wpIn_cond_false hv (z l.2 h g f p n o d t a w i)
 |block m c ih =>
  intro s r l h g f p n o d t a w i;simp only[Ct,Tt]at h;split at h
  .cases h
  rename_i q v;refine wpIn_block ?_;split at h
  .rename_i k hm;split at h
   .rename_i a0;cases h;refine wpIn_mono (ih l v g f p n o d t a w i) ?_;grind[Ex.exit,Li]
   .rename_i a0;cases h;refine wpIn_mono (ih l v g f p n o d t a w i) ?_;grind[Ex.exit,Li]
  .rename_i a2;cases h;refine wpIn_mono (ih l v g f p n o d t a w i) ?_;rintro e a' w' ⟨rfl,j⟩;cases hqe:r.e with
   |nrm=>exact⟨rfl,j⟩
   |ext k=>grind
   |ret=>exact⟨rfl,j⟩
 |exit n=>intro s r _ h _ _ p n o d t a w i;simp only[Ct,LW]at h;subst h;exact wpIn_exit ⟨rfl,i⟩
 |ret=>intro s r _ h _ _ p n o d t a w i;simp only[Ct,LW]at h;subst h;exact wpIn_ret ⟨rfl,i⟩
 |_=>intro s r l;cases l
def Z3V{P}(hints:List (Nat×List Hint)) b fl{c s}{e:Ex}{t}{φ:Prop}(j:φ)(o:Sf fl (EM P hints [] b c s t)=φ)(p:N5 fl (EM P hints [] b c s t)=No fl (EM P hints [] b c s t))(u:exO (EM P hints [] b c s t)=M e)(h:RJ c=La):CIn P c s e t.st:=by
 rw[<-o]at j;obtain⟨k1,k⟩:=PG j p;cases hr:EM P hints [] b c s t with
 |none=>rw[hr]at k1;exact k1.elim
 |some r =>
  rw[hr]at k1 k u;have d:EW r.eq:=An k;have x:r.e=e:=by grind[exO]
  unfold EM at hr;split at hr;cases hr;rename_i q y;split at hr;cases hr;rename_i s' i;split at hr;rotate_left;cases hr;rename_i l hl;cases hr;intro z n m f w0 a w v;refine wpIn_mono (Zf2 h y k1 d.left z n m f w0 a w v) ?_;rintro e' a' w' ⟨rfl,g⟩;exact⟨by rw[<-x],Mn hl d.right (Z17 i g)⟩
def IE(k:Nat):Code->Bool
 |.region n _ _=>Xi n k
 |.seq x y=>IE k x||IE k y
 |.cond _ x y=>IE k x||IE k y
 |.block _ c=>IE k c
 |.loop c=>IE k c
 |_=>Lc
def cutAt(k:Nat):Code->Code|.region _ _ _=>.exit 99999|.seq x y=>(match IE k x with|true=>cutAt k x|false=>.seq x (cutAt k y))|.cond c x y=>(match IE k x with|true=>.cond c (cutAt k x) .skip|false=>.cond c .skip (cutAt k y))|.block n c=>.block n (cutAt k c)|c=>c
def noX:Code->Bool|.seq x y=>noX x&&noX y|.cond _ x y=>noX x&&noX y|.block _ c=>noX c|.exit n=>!Nat.beq n 99999|_=>La
def okH(k:Nat):Code->Bool|.region n _ _=>Xi n k|.seq x y=>(match IE k x with|true=>okH k x|false=>noX x&&okH k y)|.cond _ x y=>(match IE k x with|true=>okH k x|false=>okH k y)|.block n c=>!Nat.beq n 99999&&okH k c|_=>Lc
def rest(P:Program)(n k:Nat):Code->(Exit->Act->World->Prop)->Act->World->Prop|.seq x y,Q=>(match IE k x with|true=>rest P n k x (Exit.then (y.wpIn Lf n P Q) Q)|false=>rest P n k y Q)|.cond _ x y,Q=>(match IE k x with|true=>rest P n k x Q|false=>rest P n k y Q)|.block m c,Q=>rest P n k c (Li m Q)|c,Q=>c.wpIn Lf n P Q
theorem Zfg{P hints}:∀{c:Code} {s:St} {r:ZL},noX c=La->Ct P hints [] c s=M r->r.e≠.ext 99999:=by
 intro c;induction c with|region m i dr =>intro s r _ h;simp only[Ct]at h;grind|seq x y b d =>grind[noX,Ct]|cond c x y b d =>grind[noX,Ct]|block m c g =>intro s r a h;simp only[Ct,Tt]at h;split at h;cases h;rename_i q f;have:=g a f;grind|exit n =>intro s r a h;simp only[Ct,LW]at h;subst h;intro e;cases e;cases a|skip=>grind[Ct]|label n=>grind[Ct]|ret=>grind[Ct]|_=>grind[Ct]
def ZaT{P:Program}{hints:List (Nat×List Hint)}{k n:Nat}:∀{c:Code} {s:St} {r:ZL},okH k c=La->Ct P hints [] (cutAt k c) s=M r->B8 r.ph->EW r.eq->r.e=.ext 99999 ->
  ∀(Q:Exit->Act->World->Prop) (Ow:Own) (Im0:Nat->Prop) (w0:World) (a:Act) (w:World),Sys Ow Im0 w0 s.tmps s.H s.clk a w->(∀o w',Sys Ow Im0 w0 r.s.tmps r.s.H r.s.clk o w'->rest P n k c Q o w')->c.wpIn Lf n P Q a w:=by
 intro c;induction c with
 |region m a0 dr =>
  intro s r _ h _ _ _ Q Ow Im0 w0 a w j f;simp only[cutAt,Ct,LW]at h;subst h;exact f a w j
 |seq x y z l =>
  intro s r d h i g t Q Ow Im0 w0 a w j f;simp only[okH]at d;simp only[cutAt]at h;simp only[rest]at f;cases hx:IE k x with
  |true =>
   rw[hx]at d h f;grind[wpIn_seq]
  |false =>
   rw[hx]at d h f;simp only[LL]at d;simp only[Ct]at h;split at h
   .cases h
   rename_i q hq;split at h
   .rename_i v;split at h;rotate_left
    .cases h
    rename_i q2 u;cases h;obtain⟨p1,p2⟩:=Hi.1 i;refine wpIn_seq (wpIn_mono (wpIn_wide.2 (Ty hq p1 g.left Ow Im0 w0 a w j)) ?_);rintro e o w' ⟨rfl,p⟩;rw[v];exact l d.2 u p2 g.right t Q Ow Im0 w0 o w' p f
   grind[Zfg]
 |cond c x y z l =>
  intro s r d h i g t Q Ow Im0 w0 a w j f;simp only[okH]at d;simp only[cutAt]at h;simp only[rest]at f;have hv:∀{b:Bool},asB (ev s.tmps c)=M b->a.eval c=.bool b:=λhb=>by
   obtain⟨ρ,Im,I,T⟩:=j;have:=Ed T c;rw[PV hb]at this;exact C3 this
  cases hx:IE k x with
  |true =>
   rw[hx]at d h f;grind[Ct,Hh,wpIn_cond_true]
  |false =>
   rw[hx]at d h f;grind[Ct,Hh,wpIn_cond_false]
 |block m c ih =>
  intro s r d h i g t Q Ow Im0 w0 a w j f;simp only[okH,LL]at d;simp only[cutAt,Ct,Tt]at h;simp only[rest]at f;grind[wpIn_block]
 |_=>intro s r d;cases d
def Ad(P:Program)(k:Nat)(c:Code)(s t:St):Prop:=
 ∀(n:Nat) (Q:Exit->Act->World->Prop) (d:Own) (b:Nat->Prop) (g:World) (a:Act) (w:World),Sys d b g s.tmps s.H s.clk a w->(∀e f,Sys d b g t.tmps t.H t.clk e f->rest P n k c Q e f)->c.wpIn Lf n P Q a w
def D1{P}(hints:List (Nat×List Hint)) b fl{k c s t}{φ:Prop}(j:φ)(u:Sf fl (EM P hints [] b (cutAt k c) s t)=φ)(v:N5 fl (EM P hints [] b (cutAt k c) s t)=No fl (EM P hints [] b (cutAt k c) s t))(x:exO (EM P hints [] b (cutAt k c) s t)=M (.ext 99999))(g:okH k c=La):Ad P k c s t.st:=by
 rw[<-u]at j;obtain⟨k1,m⟩:=PG j v;cases hr:EM P hints [] b (cutAt k c) s t with
 |none=>rw[hr]at k1;exact k1.elim
 |some r =>
  rw[hr]at k1 m x;have d:EW r.eq:=An m;have z:r.e=.ext 99999:=by grind[exO]
  unfold EM at hr;split at hr;cases hr;rename_i q hq;split at hr;cases hr;rename_i s' i;split at hr;rotate_left;cases hr;rename_i l hl;cases hr;intro n Q o e w0 a w y h;exact ZaT g hq k1 d.left z Q o e w0 a w y λp w' f=>h p w' (Mn hl d.right (Z17 i f))
def Ss(k:Nat):Code->Option (Array Oper)|.region n ops _=>(match Xi n k with|true=>M ops|false=>Lb)|.seq x y=>(match Ss k x with|some o=>M o|none=>Ss k y)|.cond _ x y=>(match Ss k x with|some o=>M o|none=>Ss k y)|.block _ c=>Ss k c|.loop c=>Ss k c|_=>Lb
def BM(fn:Func)(k:Nat):Array Oper:=match fn.body with|some c=>(match Ss k c with|some o=>o|none => #[])|none => #[]
def Z0v{s t}(h1:(wk s t).isSome=La)(h2:((wk s t).getD []).map (·.1)=((wk s t).getD []).map (·.2)){Ow Im0 w0 a w}(S:Sys Ow Im0 w0 s.tmps s.H s.clk a w):Sys Ow Im0 w0 t.st.tmps t.st.H t.st.clk a w:=by grind[wk,Mn,An]
def TR{ρ:ZQ}{w}{Im a:Nat->Prop}{k t:Nat}{e:List DV}{v}{β:Bi}(p:ρ k=M β)(r:RelB ρ w Im β (.box t (e.map .d)))(o:Zj ρ w Im (.pt k 0 0) v)(m:∀g,Im g->a g)(l:∀g,β.g=M g->a g):Zj (λ_=>Lb) w a (.rp e 0) v:=by
 obtain⟨g,s,n,k1,rfl⟩:=Sp o rfl;rw[p]at k1;cases k1;obtain⟨r1,r2,g2,b,r3,r4,r5,r6,q⟩:=r;cases r3;have:=@Zj.rp (λ_=>Lb) w a e 0 ⟨g,0,Lb⟩ rfl (l _ rfl) (λj y f=>by
  have hj:j<e.length:=(Xb.1 f).1;have i:j<b.size:=by grind
  have h:b[j]?=M b[j]:=Xm i;have c:=q j (.d y) b[j] (by simp[f]) h;refine⟨b[j], ?_, ?_⟩;grind[XI];cases c with
  |d c=>exact c.mono (Ext.refl _ _) m)
 grind
def Kept.no{w0 w}(h:Kept (OwA Gl) w0 w):Kept (λ_=>False) w0 w:=h.imp λ_ q=>q.no
def Inv.empty{w:World}{Im:Nat->Prop}{clk:Nat}(a:∀g,Im g->g<w.heap.size)(c:1<=clk):Inv Gl Im w (λ_=>Lb) w Im (C1 []) clk:=by refine⟨Kept.refl _ _, ?_, ?_, ?_, ?_,a,λ_ h=>.inl h, ?_,λ_ _ _=>rfl,c,λb β _ h=>nomatch h⟩;grind;grind;grind;grind;intro b B h;cases h
def Cy.reSet{D ρ w Im tmps a}(T:Cy D ρ w Im tmps a)(t:Nat) y(h:∀v,a.tmps[t]?=M v->Zj ρ w Im y v):Cy D ρ w Im (tmps.set t y) a:=by refine⟨by simp[T.size],λi x v b c=>?_,T.defers⟩;rw[List.getElem?_set]at b;by_cases d:t=i;grind;simp only[d,if_false]at b;exact T.tmp i x v b c
def Cy.pure{D ρ w Im tmps a}(T:Cy D ρ w Im tmps a)(h:tmps.all (Tb [])=La):Cy D (λ_=>Lb) w Im tmps a:=
 ⟨T.size,λi x v c d=>Z7H (ids:=[]) (λb e=>by simp at e) (T.tmp i x v c d) (LQ.1 h _ (Ls c)),T.defers⟩
def Z6n{P}{n l:Nat}{o:Oper}{f x y:Operand}{p:Array Nat}{a:Act}{w}{next:Act->World->Prop}{Q}{args:Array Value}{R}(k:o.op=.call ⟨.value f,#[x,y],p⟩)(j:a.eval f=.func (.yield l) #[] #[])(m: #[a.eval x,a.eval y]=args)(i:YieldAt Lf n P l args w R)(hn:∀e w',R e w'->∃v,e=.returned v/\next (a.put o.dst v) w'):o.wpIn Lf (n+1) P a w next Q:=by
 obtain⟨fn,t,s,b,d,g⟩:=i;refine⟨λ_ _=>trivial, ?_⟩;have c:(o.semAt Lf.round a.eval).run P w=.ok (.round l fn t s b) w:=by(rw[show Lf.round=Lb from rfl,Oper.semAt_none];simp[execOp,k,resolve,j,LN,invoke,m,d])
 rw[c,Oper.uponIn_round];refine⟨λh=>(by cases h),g.mono ?_⟩;grind
end Go.Sx
namespace Go.Proofs.YtgedmeaemofdkaaGreat
open Go.Sx
structure Found where
 addr:Int
 hd:Zz
 deriving DecidableEq,Inhabited
def Found.dv(f:Found):List DV:=[.sc (.int .u64 f.addr),.sc (.int .i64 f.hd.K),.sc (.int .i64 f.hd.length),.sc (.int .u32 f.hd.map)]
def Found.av(f:Found):AV:=.ag [uU f.addr,nI f.hd.K,nI f.hd.length,u32 f.hd.map]
def HF(fn:Func)(n:Nat):Code:=match Zi fn n with|.block _ (.rangeFunc _ _ x _)=>x|_=>.skip
def Hp(fn:Func)(n:Nat):Code:=match Zi fn n with|.block _ (.rangeFunc _ _ _ x)=>x|_=>.skip
def Ag(a:List Found):List (Nat×Z3):=[(8020,.arr 212 4 (a.map Found.dv)),(6,.box 206 [.ow 8020])]
def O2(a:List Found)(x:Found):Tg:=⟨tm 22 [(6,.pt 6 0 0),(12,x.av),(13,nI 0)],Ag a,20⟩
def AT(a:List Found)(x:Found):Tg:=⟨tm 22 [(6,.pt 6 0 0),(7,.pt 160007 0 0),(8,nI 0)],(160007,.box 212 [uU x.addr,nI x.hd.K,nI x.hd.length,u32 x.hd.map])::Ag a,30⟩
def ZhB a x:CIn prog (HF f183 0) (O2 a x).st .nrm (AT a x).st:=by refine Z3V [] [] [] (φ:=True) ?_ kr kr kr kr;exact trivial
def ZeK(a:List Found) x(hl:a.length<=1000):CIn prog (Hp f183 0) (AT a x).st .nrm (Tg.st ⟨tm 22 [(6,.pt 6 0 0),(20,.ow 8020)],Ag (a++[x]),60⟩):=by refine Z3V [((19:Nat),[Hint.els (Ld Found.dv [x])]),((20:Nat),[Hint.els (Ld Found.dv (a++[x]))])] [((248020:Nat),(8020:Nat))] [] (φ:=(Lg (1:Nat) [ZZ (0:Int),Zq (0:Int),Zq (0:Int),DV.sc (LG IntKind.u32 (0:Int))]).set ((0:Nat),Operand.tmp (18:Nat)).1 [ZZ x.addr,Zq x.hd.K,Zq x.hd.length,DV.sc (LG IntKind.u32 x.hd.map)]=Ld Found.dv [x]/\(Ld Found.dv a).length+(Ld Found.dv [x]).length<=(2:Nat)^(30:Nat)/\Ld Found.dv a++Ld Found.dv [x]=Ld Found.dv (a++[x])) ?_ kr kr kr kr;exact⟨rfl,(by(simp[*];omega)),(by simp[L4,Xd,Xe,LS,wD,iD])⟩
def Gw(l:Nat):Value:=.func (.yield l) #[] #[]
def EY(h:Heap)(i:Int):Nat->Int->List Found×Bool|0,_=>([],La)|f+1,o=>if o<(pg h i).U then(if(address h.C i o).2=0/\(Z6 h (Bf h i o)).2=0 then(⟨Bf h i o,(Z6 h (Bf h i o)).1⟩::(EY h i f (o+Z5 (Z6 h (Bf h i o)).1)).1,(EY h i f (o+Z5 (Z6 h (Bf h i o)).1)).2)else([],Lc))else([],La)
def HD(fn:Func):Code:=match fn.body with|some c=>c|none=>.skip
def inE(h:Heap)(l:Nat)(i:Int):Tg:=⟨tm 58 [(0,.d (.sc (Gw l))),(1,.rp h.dvs 0),(2,.rp [Zq i] 0)],[],1⟩
def inP(h:Heap)(l:Nat)(i:Int):Tg:=⟨tm 58 [(0,.d (.sc (Gw l))),(1,.rp h.dvs 0),(2,.rp [Zq i] 0),(4,.pt 8004 0 0)],[(8004,.box 86 [nI (pg h i).K,nI (pg h i).S,nI (pg h i).U,nI (pg h i).N])],20⟩
def ZdF(h:Heap) l(i:Int)(hi:0<=i/\i<h.P.length)(a:(pg h i).K=1\/(pg h i).K=2):Ad prog 2 (HD f234) (inE h l i).st (inP h l i).st:=by unfold inP inE pg;unfold pg at a;refine D1 [((13:Nat),[Hint.el (h.P.getD i.toNat O).dv]),((22:Nat),[Hint.br Lc])] [] [] (φ:=((0:Int)<=i/\(Ld Z0.dv h.P)[i.toNat]?=M (h.P.getD i.toNat O).dv)/\((h.P.getD i.toNat O).K != (1:Int)&&(h.P.getD i.toNat O).K != (2:Int))=Lc/\Lc=Lc) ?_ kr kr kr kr;exact⟨(by exact Zn oq oq oq),(by(simp only[bs];omega)),rfl⟩
def ZeT(h:Heap) l(i:Int)(hi:0<=i/\i<h.P.length)(a:¬ ((pg h i).K=1\/(pg h i).K=2)):CP (HD f234) (inE h l i).st .ret (Tg.st ⟨tm 58 [],[],20⟩):=by unfold inE;unfold pg at a;exact sF [] []<|Fe 13 Z0.dv h.P i<|Ftb 22 ((h.P.getD i.toNat O).K != 1&&(h.P.getD i.toNat O).K != 2) Fz
def inS(h:Heap)(l:Nat)(i o:Int):Tg:=⟨tm 58 [(0,.d (.sc (Gw l))),(1,.rp h.dvs 0),(2,.rp [Zq i] 0),(4,.rp (pg h i).dv 0),(5,nI o)],[],20⟩
def inT(h:Heap)(l:Nat)(i o:Int)(a:Int)(hd:Zz):Tg:=⟨tm 58 [(0,.d (.sc (Gw l))),(1,.rp h.dvs 0),(2,.rp [Zq i] 0),(4,.rp (pg h i).dv 0),(5,nI o),(6,uU a),(8,.pt 184008 0 0)],[(184008,.box 52 [nI hd.K,nI hd.length,u32 hd.map])],30⟩
section
variable(h:Heap)(l:Nat)(i o:Int)(b:Zx h.W)(a:Z9 h=La)(c:0<=o/\o<=1000)
include b a c
theorem Zmd(h1:o<(pg h i).U)(h2:(address h.C i o).2=0)(e:(Z6 h (Bf h i o)).2=0):Ad prog 9 (Zm f234 0) (inS h l i o).st (inT h l i (o+Z5 (Z6 h (Bf h i o)).1) (Bf h i o) (Z6 h (Bf h i o)).1).st:=by have g:=B6 a;have d:=Mt g.1 i o;have j:=Ip (Z6 h (Bf h i o)).1;have f:=Hy b (Bf h i o);unfold Bf at d j f e;refine D1 [((26:Nat),[Hint.br La]),((32:Nat),[Hint.call La (EB h.C i o) []]),((36:Nat),[Hint.br La]),((40:Nat),[Hint.call La (AV.tu [(Z6 h (address h.C i o).1).1.av,nI (Z6 h (address h.C i o).1).2]) []]),((44:Nat),[Hint.br La]),((47:Nat),[Hint.call La (nI (Z5 (Z6 h (address h.C i o).1).1)) []]),((48:Nat),[Hint.int (o+Z5 (Z6 h (address h.C i o).1).1)])] [] [] (φ:=Le (o<(pg h i).U)=La/\La=La/\GP 212 [h.C.av,nI i,nI o] La (EB h.C i o) []/\((address h.C i o).2==(0:Int))=La/\La=La/\GP 109 [h.av,uU (address h.C i o).1] La (AV.tu [(Z6 h (address h.C i o).1).1.av,nI (Z6 h (address h.C i o).1).2]) []/\((Z6 h (address h.C i o).1).2==(0:Int))=La/\La=La/\GP 69 [(Z6 h (address h.C i o).1).1.av] La (nI (Z5 (Z6 h (address h.C i o).1).1)) []/\IntKind.i64.wrap (o+Z5 (Z6 h (address h.C i o).1).1)=o+Z5 (Z6 h (address h.C i o).1).1) ?_ kr kr kr kr;exact⟨(by(simp only[bs];omega)),rfl,(@Tv (h.C) (i) (o)),(by(simp only[bs];omega)),rfl,(@IT (h) ((address h.C i o).1) aa oq),(by(simp only[bs];omega)),rfl,(@EX ((Z6 h (address h.C i o).1).1) aa),(by exact Zf rfl oq oq)⟩
theorem ZfY(h1:o<(pg h i).U)(h2:¬ (address h.C i o).2=0):Ad prog 10 (Zm f234 0) (inS h l i o).st (Tg.st ⟨tm 58 [(0,.d (.sc (Gw l)))],[],30⟩):=by refine D1 [((26:Nat),[Hint.br La]),((32:Nat),[Hint.call La (EB h.C i o) []]),((36:Nat),[Hint.br Lc])] [] [] (φ:=Le (o<(pg h i).U)=La/\La=La/\GP 212 [h.C.av,nI i,nI o] La (EB h.C i o) []/\((address h.C i o).2==(0:Int))=Lc/\Lc=Lc) ?_ kr kr kr kr;exact⟨(by(simp only[bs];omega)),rfl,(@Tv (h.C) (i) (o)),(by(simp only[bs];omega)),rfl⟩
theorem Zfh(h1:o<(pg h i).U)(h2:(address h.C i o).2=0)(e:¬ (Z6 h (Bf h i o)).2=0):Ad prog 10 (Zm f234 0) (inS h l i o).st (Tg.st ⟨tm 58 [(0,.d (.sc (Gw l)))],[],30⟩):=by have f:=B6 a;have d:=Mt f.1 i o;unfold Bf at d e;refine D1 [((26:Nat),[Hint.br La]),((32:Nat),[Hint.call La (EB h.C i o) []]),((36:Nat),[Hint.br La]),((40:Nat),[Hint.call La (AV.tu [(Z6 h (address h.C i o).1).1.av,nI (Z6 h (address h.C i o).1).2]) []]),((44:Nat),[Hint.br Lc])] [] [] (φ:=Le (o<(pg h i).U)=La/\La=La/\GP 212 [h.C.av,nI i,nI o] La (EB h.C i o) []/\((address h.C i o).2==(0:Int))=La/\La=La/\GP 109 [h.av,uU (address h.C i o).1] La (AV.tu [(Z6 h (address h.C i o).1).1.av,nI (Z6 h (address h.C i o).1).2]) []/\((Z6 h (address h.C i o).1).2==(0:Int))=Lc/\Lc=Lc) ?_ kr kr kr kr;exact⟨(by(simp only[bs];omega)),rfl,(@Tv (h.C) (i) (o)),(by(simp only[bs];omega)),rfl,(@IT (h) ((address h.C i o).1) aa oq),(by(simp only[bs];omega)),rfl⟩
omit b a c in
theorem ZmM(h1:(pg h i).U<=o):CP (Zm f234 0) (inS h l i o).st (.ext 0) (Tg.st ⟨tm 58 [],[],30⟩):=by exact sF [] []<|Ffb 26 (Le (o<(pg h i).U)) Fz
end
end Go.Proofs.YtgedmeaemofdkaaGreat
namespace Go.Proofs.YtgedmeaemofdkaaGreat
open Go.Sx Go.RowKit
def Z1E(ids a:List Nat):AV->Bool|.pt b _ _=>Ri b a|.ow b=>Ri b ids|.d (.sc _)=>La|.any=>La|_=>Lc
def Zmu(ids a:List Nat):Z3->Bool|.box _ l=>l.all (Z1E ids a)|.arr .. => La|_=>Lc
def Nl:List (Nat×Z3)->List Nat|[]=>[]|(b,.box ..)::l=>b::Nl l|_::l=>Nl l
def T8{b:Nat}:∀{hl:List (Nat×Z3)},b∈Nl hl->∃ty cells,(b,Z3.box ty cells)∈hl
 |[],h=>by grind[Nl]
 |(c,.box ty cells)::l,h=>by
  simp only[Nl,Lo]at h;rcases h with rfl|h
  .grind
  .obtain⟨ty,cells,h⟩:=T8 h;grind
 |(c,.arr ..)::l,h=>by obtain⟨ty,cells,h⟩:=T8 (hl:=l) h;grind
 |(c,.mp _)::l,h=>by obtain⟨ty,cells,h⟩:=T8 (hl:=l) h;grind
 |(c,.dead)::l,h=>by obtain⟨ty,cells,h⟩:=T8 (hl:=l) h;grind
def Z4B{ρ ρ':ZQ}{w Y Im ids e x v}(h:Zj ρ w Im x v)(i:Z1E ids e x=La)(o:∀b∈e,∀β,ρ b=M β->ρ' b=M β)(n:∀b∈ids,∀β,ρ b=M β->ρ' b=M β\/(ρ' b=M ⟨Lb,β.s,β.n⟩/\∀g,β.g=M g->rows w g<β.s))(hr:∀g,rows Y g=rows w g):Zj ρ' Y (λ_=>False) x v:=by
 cases h with
 |pt j=>exact .pt (o _ (Rz.1 i) _ j)
 |ow j l m f =>rename_i b c a β;rcases n _ (Rz.1 i) _ j with k|⟨k,p⟩;refine .ow k l m (f.imp id λ⟨g,k1,q,r⟩=>⟨g,k1,q, ?_⟩);grind;refine Zj.ow (β:=⟨Lb,β.s,β.n⟩) k l m (.inl ?_);rcases f with f|⟨g,k1,_,r⟩;exact f;have:=p g k1;rcases Nat.eq_zero_or_pos c with h|h;exact h;have:=XF β.s h;omega
 |any=>exact .any _
 |d h =>
  cases h with|sc _ h=>exact .d (.sc _ h)|_=>cases i
 |_=>cases i
theorem Z31{ρ w Im β}{ty g:Nat}{cells:List AV}(h:RelB ρ w Im β (.box ty cells))(hg:β.g=M g):rows w g=cells.length:=by obtain⟨_,_,g',cs,h1,h2,h3,_⟩:=h;grind[rows]
def ZhT{ρ w Im β}{ty g s:Nat}{els:List (List DV)}(h:RelB ρ w Im β (.arr ty s els))(hg:β.g=M g):els.length*s<=rows w g:=by obtain⟨_,_,_,_,⟨a,_⟩|⟨g',cs,a,h2,h3,_⟩⟩:=h;all_goals grind[rows]
def Z7I{Ow Im0 w0 w tmps hl}{clk a0:Nat}{a}(S:Sx.Sys Ow Im0 w0 tmps (C1 hl) clk a w)(hT:tmps.all (Z1E (hl.map (·.1)) (Nl hl))=La)(hB:hl.all (λp=>Zmu (hl.map (·.1)) (Nl hl) p.2)=La)(hN:(hl.map (·.1)).Nodup)(hF:∀b ty s els,(b,Z3.arr ty s els)∈hl->Ce els){Y:World}{l:Nat}{r r':Loop}(a8:w.heap[l]?=M (.loop r))(a9:Y.heap[l]?=M (.loop r'))(hY:Y.heap.size=w.heap.size)(hs:∀g,g≠l->Y.heap[g]?=w.heap[g]?)(hc:1<=a0) :∃ρ:ZQ,(∀b β,ρ b=M β->b∈hl.map (·.1))/\(∀b β g,ρ b=M β->β.g=M g->(w0.heap.size<=g/\8000<=b)\/OwA Ow g)/\(∀b β g,ρ b=M β->β.g=M g->β.s<=rows Y g)/\Inv (H8 ρ) (λ_=>False) Y ρ Y (λ_=>False) (C1 hl) a0/\Cy Ow.ds ρ Y (λ_=>False) tmps a/\Kept (OwA Ow) w0 w:=by
 obtain⟨ρ,Im,I,T⟩:=S;let f:=hl.map (·.1);let ρ':ZQ:=λb=>if Ri b f then(match ρ b with|Lb=>Lb|M β=>match β.g with|M g=>if rows w g<β.s then M ⟨Lb,β.s,β.n⟩else M β|Lb=>M β)else Lb;have t:∀b β,ρ' b=M β->b∈f/\∃κ,ρ b=M κ/\κ.s=β.s/\κ.n=β.n/\∀g,β.g=M g->κ=β/\β.s<=rows w g:=by grind[Rz]
 have z:∀b∈f,∀β,ρ b=M β->ρ' b=M β\/(ρ' b=M ⟨Lb,β.s,β.n⟩/\∀g,β.g=M g->rows w g<β.s):=by grind[Rz]
 have a1:∀g,rows Y g=rows w g:=by grind[rows]
 have m:∀b∈Nl hl,∀β,ρ b=M β->ρ' b=M β:=by
  intro b hb β h;obtain⟨ty,cells,hm⟩:=T8 hb;have a7:b∈f:=LB.2 ⟨_,hm,rfl⟩;rcases z b a7 β h with k|⟨_,k⟩;exact k;cases hq:C1 hl b with
  |none=>grind[NQ]
  |some B =>
   have a6:B=.box ty cells:=by(have u:=NQ.1 B hq;obtain⟨i,hi⟩:=XA.1 u;obtain⟨j,hj⟩:=XA.1 hm;have:i=j:=Z2A b hN (by simp[hi]) (by simp[hj]);subst this;rw[hi]at hj;cases hj;rfl)
   subst a6;obtain⟨β',m1,m2⟩:=I.blk b _ hq;rw[h]at m1;cases m1;have m3:=m2;obtain⟨h0,_,g,_,u,_⟩:=m2;grind[Z31]
 have n:∀b,b∈f->live (C1 hl) b:=by
  intro b hb;cases hq:C1 hl b with|none=>grind[NQ]|some B =>refine⟨B,hq, ?_⟩;rintro rfl;have:=LQ.1 hB _ (NQ.1 _ hq);cases this
 have d:∀b β g,ρ' b=M β->β.g=M g->ρ b=M β:=λb β g h h'=>by(grind)
 refine⟨ρ',λb β h=>(t b β h).1,λb β g h h'=>I.own b β g (d b β g h h') h',λb β g h h'=>by
  grind,⟨Kept.refl _ _,λb b' β β' g _ _ q1 q2 q3 q4=>I.inj b b' β β' g (n _ (t _ _ q1).1) (n _ (t _ _ q2).1) (d _ _ g q1 q3) (d _ _ g q2 q4) q3 q4,λ_ _ _ _ _ _ h=>h,λb β g q1 q2=>by rw[hY];exact I.bnd b β g (d _ _ g q1 q2) q2,λb β g q1 q2=>.inr ⟨b,β,q1,q2⟩,λ_ h=>h.elim,λ_ h=>h.elim,λb B q=>?_,λb _ q=>?_,⟨hc,λ_ _ _ h=>h⟩⟩,⟨T.size,λi x v u h2=>Z4B (T.tmp i x v u h2) (LQ.1 hT _ (Ls u)) m z a1,T.defers⟩,I.kept⟩
 have hm:=NQ.1 B q;have hb:b∈f:=LB.2 ⟨(b,B),hm,rfl⟩;obtain⟨β,m1,m2⟩:=I.blk b B q;have a2:=LQ.1 hB _ hm;cases B with
 |dead=>cases a2
 |mp=>cases a2
 |box ty cells =>
  obtain⟨h0,a4,g,cs,u,h2,h3,a5,h4⟩:=m2;have hg:g≠l:=by grind
  have:b∈Nl hl:=by
   have:∀{k:List (Nat×Z3)},(b,Z3.box ty cells)∈k->b∈Nl k:=by
    intro k;induction k with|nil=>grind|cons p k ih =>obtain⟨c,C⟩:=p;intro h;rcases Lo.1 h with e|e;grind[Nl];cases C<;>simp[Nl,ih e]
   exact this hm
  exact⟨β,m b this β m1,h0,a4,g,cs,u,by grind,h3,a5,λo x v hx hv=>Z4B (h4 o x v hx hv) (LQ.1 a2 _ (Ls hx)) m z a1⟩
 |arr ty s els =>
  have m3:=m2;obtain⟨h0,u,a3,h2,h3⟩:=m2;rcases z b hb β m1 with k|⟨k,k'⟩;refine⟨β,k,h0,u,a3,h2,h3.imp id λ⟨g,cs,h4,h5,h6,h7⟩=>?_⟩;grind[Z1V];refine⟨_,k,h0,u,a3,h2,.inl ⟨rfl, ?_⟩⟩;rcases h3 with⟨_,h⟩|⟨g,_,h4,_⟩;exact h;have e1:=k' g h4;have e2:=ZhT m3 h4;rw[h0]at e1;cases els with|nil=>rfl|cons y ys =>have:1*s<=(y::ys).length*s:=XF s pq;omega
 grind[NQ]
def NX(f:Found):Value:=.agg #[.int .u64 f.addr,.int .i64 f.hd.K,.int .i64 f.hd.length,.int .u32 f.hd.map]
def Np(f:Found)(e:Int):Array Value:=#[NX f,.int .i64 e]
def Z91 ρ w Im(f:Found):Zj ρ w Im f.av (NX f):=by refine .ag _ _ rfl (λi v h=>?_) (λi a v b c=>?_);rcases i with _|_|_|_|i<;>simp at h<;>subst h<;>rfl;rcases i with _|_|_|_|i<;>simp at b c<;>subst b<;>subst c<;>exact .d (.sc _ rfl)
def Oi(l:List Found):Ce (l.map Found.dv):=by intro e a x hx;obtain⟨f,_,rfl⟩:=LB.1 a;grind[Found.dv]
def LJ(g6:Nat)(a:List (Nat×Obj))(A:Nat->Prop)(c:List Found)(W:World):Prop:=
 ∃ρ:ZQ,(∀g,A g↔∃b β,ρ b=M β/\β.g=M g)/\Inv (H8 ρ) (λ_=>False) W ρ W (λ_=>False) (C1 (Ag c)) 20/\(∃s n,ρ 6=M ⟨M g6,s,n⟩)/\(∀b β,ρ b=M β->b∈[8020,6])/\(∀b β g,ρ b=M β->β.g=M g->β.s<=rows W g)/\∀p∈a,W.heap[p.1]?=M p.2/\¬ A p.1
def LJ.keep{g6 a A d X Y}(J:LJ g6 a A d X)(K:Kept (λ_=>False) X Y):LJ g6 a A d Y:=by obtain⟨ρ,m,I,l,r,hr,j⟩:=J;have n:Ext (λ_=>False) X Y:=⟨K.size,λg h=>h.elim,K.rows⟩;refine⟨ρ,m,⟨Kept.refl _ _,I.inj,λ_ _ _ _ _ _ h=>h,λb β g e f=>L6 (I.bnd b β g e f) K.size,λb β g e f=>.inr ⟨b,β,e,f⟩,λ_ h=>h.elim,λ_ h=>h.elim,λb B q=>?_,I.fresh,I.one⟩,l,r,λb β g e f=>?_,λp c=>⟨?_,(j p c).2⟩⟩;obtain⟨β,k,s⟩:=I.blk b B q;exact⟨β,k,s.mono n (λ_ h=>h) (λ_ _ h=>h) I.bnd (λg o=>K.block g (I.bnd b β g k o) (λh=>h))⟩;rw[K.rows g (I.bnd _ _ _ e f)];grind;have i:=(j p c).1;rw[K.block p.1 (Lm.1 i).1 (λh=>h)];exact i
def ZlU{fn:Nat}{a0:Array Value}{D l g6 n:Nat}{prot:List (Nat×Obj)}{A}{pre:List Found}{W}(hl:pre.length<=1000)(ha0:a0.size=22)(ha6:a0[6]?=M (.pointer (M ⟨g6,0,Lb⟩)))(hrec:(l,Lp {state:=.ready,pending:=Lb,fn:=fn,tmps:=a0,params:=#[12,13],assign:=HF f183 0,body:=Hp f183 0,defers:=D})∈prot)(J:LJ g6 prot A pre W) x :
  YieldAt Lf n prog l (Np x 0) W λe W'=>e=.returned (.bool La)/\∃A',LJ g6 prot A' (pre++[x]) W'/\(∀g,A' g->A g\/W.heap.size<=g)/\Kept A W W':=by
 obtain⟨ρ,hA,I,⟨s6,n6,h6⟩,hs,hr,hp⟩:=J;obtain⟨rl,nl⟩:=hp _ hrec;have hAe:OwA (H8 ρ)=A:=by funext g;exact propext (hA g).symm
 refine⟨fn,_,_,_,run_yield rl rfl,roundIn_of_wpIn trivial ?_⟩;have T0:Cy [] ρ W (λ_=>False) (tm 22 [(6,.pt 6 0 0)]) {tmps:=a0,defers:=[]}:=by
  refine⟨by rw[ha0];rfl,λi y v h1 h2=>?_,rfl⟩;by_cases h:i=6;subst h;rw[ha6]at h2;cases h2;cases (show(tm 22 [(6,.pt 6 0 0)])[6]?=M (.pt 6 0 0)from rfl).symm.trans h1;have:=Zj.pt (ρ:=ρ) (w:=W) (Im:=λ_=>False) (i:=0) (o:=0) h6;simpa[ptV,mpO]using this;have:y=.any:=by
   have hi:i<22:=(Xb.1 h1).1;have e:∀j,j<22->j≠6->(tm 22 [(6,.pt 6 0 0)])[j]?=M .any:=by
    intro j hj hj6;have:j∈[0,1,2,3,4,5,7,8,9,10,11,12,13,14,15,16,17,18,19,20,21]:=by(simp only[Lo,Lu,or_false];omega)
    simp only[Lo,Lu,or_false]at this;rcases this with rfl|rfl|rfl|rfl|rfl|rfl|rfl|rfl|rfl|rfl|rfl|rfl|rfl|rfl|rfl|rfl|rfl|rfl|rfl|rfl|rfl<;>rfl
   rw[e i hi h]at h1;cases h1;rfl
  subst this;exact .any _
 have T1:=(T0.put 12 (Z91 ρ W (λ_=>False) x)).put 13 (Zj.d (CR.sc (LG .i64 0) rfl));have S1:Sx.Sys (H8 ρ) (λ_=>False) W (O2 pre x).st.tmps (O2 pre x).st.H (O2 pre x).st.clk {tmps:=(a0.setIfInBounds 12 (NX x)).setIfInBounds 13 (.int .i64 0),defers:=[]} W:=⟨ρ,_,I,T1⟩;have ef:((#[12,13]:Array Nat).zip (Np x 0)).foldl (λtmps (t,a)=>tmps.setIfInBounds t a) a0=(a0.setIfInBounds 12 (NX x)).setIfInBounds 13 (.int .i64 0):=by simp[Np]
 show(HF f183 0).wpIn _ n _ _ {tmps:=((#[12,13]:Array Nat).zip (Np x 0)).foldl (λtmps (t,a)=>tmps.setIfInBounds t a) a0,defers:=[]} W;rw[ef];refine wpIn_mono (ZhB pre x (M l) n _ _ _ _ _ S1) ?_;rintro e a1 w1 ⟨rfl,S2⟩;have K1:Kept A W w1:=by obtain⟨_,_,I1,_⟩:=S2;exact hAe▸I1.kept
 have hlW:l<W.heap.size:=(Lm.1 rl).1;have rl1:w1.heap[l]?=M (Lp {state:=.ready,pending:=Lb,fn:=fn,tmps:=a0,params:=#[12,13],assign:=HF f183 0,body:=Hp f183 0,defers:=D}):=by(rw[K1.block l hlW nl];exact rl)
 refine⟨_,run_beginRound rl1 rfl, ?_⟩;obtain⟨w2,hw2⟩:∃w2,w1.putObj l (Lp {state:=.busy,pending:=Lb,fn:=fn,tmps:=a0,params:=#[12,13],assign:=HF f183 0,body:=Hp f183 0,defers:=D})=w2:=⟨_,rfl⟩;have rl2:w2.heap[l]?=M (Lp {state:=.busy,pending:=Lb,fn:=fn,tmps:=a0,params:=#[12,13],assign:=HF f183 0,body:=Hp f183 0,defers:=D}):=by(rw[<-hw2];exact Lx (Lm.1 rl1).1)
 have hs2:∀g,g≠l->w2.heap[g]?=w1.heap[g]?:=λg hg=>by rw[<-hw2];exact Lj hg
 have hz2:w2.heap.size=w1.heap.size:=by rw[<-hw2];exact Ly
 obtain⟨ρ1,q1,q2,qr,I1,T1',_⟩:=Z7I S2 kr kr (by show([160007,8020,6]:List Nat).Nodup;decide) (by
  intro b ty s els hm;simp only[AT,Ag,Lo,Lu,or_false,Prod.mk.injEq,reduceCtorEq,and_false,Z3.arr.injEq,false_or]at hm;obtain⟨_,_,_,rfl⟩:=hm;exact Oi pre) rl1 rl2 hz2 hs2 (by decide:1<=30)
 show(Hp f183 0).wpIn _ _ _ _ _ _;rw[hw2];refine wpIn_mono (ZeK pre x hl (M l) n _ _ _ _ _ (⟨ρ1,_,I1,T1'⟩:Sx.Sys _ _ w2 (AT pre x).st.tmps (AT pre x).st.H (AT pre x).st.clk a1 w2)) ?_;rintro e a3 w3 ⟨rfl,S3⟩;have K3:Kept (λg=>∃b β,ρ1 b=M β/\β.g=M g) w2 w3:=by obtain⟨_,_,I3,_⟩:=S3;exact I3.kept
 have hrow2:∀g,rows w2 g=rows w1 g:=by(intro g;by_cases hg:g=l;subst hg;simp[rows,rl1,rl2];simp only[rows,hs2 g hg])
 have hw12:W.heap.size<=w1.heap.size:=K1.size;have own1:∀b β g,ρ1 b=M β->β.g=M g->W.heap.size<=g\/A g:=λb β g h h'=>(q2 b β g h h').imp (·.1) λh=>hAe▸h;have hl2:¬ ∃b β,ρ1 b=M β/\β.g=M l:=by(rintro⟨b,β,h,h'⟩;rcases own1 b β l h h' with k|k;omega;exact nl k)
 have box6:∀{ρ:ZQ} {X:World} {H:List (Nat×Z3)} {t:Nat} {x:AV},Inv (H8 ρ) (λ_=>False) X ρ X (λ_=>False) (C1 H) t->C1 H 6=M (.box 206 [x])->∃β g,ρ 6=M β/\β.g=M g/\rows X g=1:=by(intro ρ X H t x I hH;obtain⟨β,k1,k2⟩:=I.blk 6 _ hH;have k3:=k2;obtain⟨_,_,g,_,k4,_⟩:=k2;exact⟨β,g,k1,k4,Z31 k3 k4⟩)
 have arr4:∀{ρ:ZQ} {X:World} {H:List (Nat×Z3)} {t:Nat} {els:List (List DV)} {β:Bi},Inv (H8 ρ) (λ_=>False) X ρ X (λ_=>False) (C1 H) t->C1 H 8020=M (.arr 212 4 els)->ρ 8020=M β->β.s=4:=by(intro ρ X H t els β I hH h;obtain⟨β',k1,k2⟩:=I.blk 8020 _ hH;rw[h]at k1;cases k1;exact k2.1)
 have id1:∀β g,ρ1 6=M β->β.g=M g->rows w2 g=1->g=g6:=by(intro β g h h' h1;rcases q2 6 β g h h' with⟨_,k⟩|k;omega;obtain⟨b,κ,(k1:ρ b=M κ),k2⟩:=k;have hb:=hs b κ k1;simp only[Lo,Lu,or_false]at hb;rcases hb with rfl|rfl;have:=hr _ _ _ k1 k2;rw[arr4 I rfl k1,<-K1.rows g (I.bnd _ _ _ k1 k2),<-hrow2,h1]at this;omega;rw[h6]at k1;cases k1;cases k2;rfl)
 have rl3:w3.heap[l]?=M (Lp {state:=.busy,pending:=Lb,fn:=fn,tmps:=a0,params:=#[12,13],assign:=HF f183 0,body:=Hp f183 0,defers:=D}):=by(rw[K3.block l oq hl2];exact rl2)
 refine⟨_,_,run_endRound Lb rl3,rfl, ?_⟩;obtain⟨W',hW'⟩:∃W',w3.putObj l (Lp {state:=.ready,pending:=Lb,fn:=fn,tmps:=a0,params:=#[12,13],assign:=HF f183 0,body:=Hp f183 0,defers:=D})=W':=⟨_,rfl⟩;have rl4:W'.heap[l]?=M (Lp {state:=.ready,pending:=Lb,fn:=fn,tmps:=a0,params:=#[12,13],assign:=HF f183 0,body:=Hp f183 0,defers:=D}):=by(rw[<-hW'];exact Lx (Lm.1 rl3).1)
 have hs4:∀g,g≠l->W'.heap[g]?=w3.heap[g]?:=λg hg=>by rw[<-hW'];exact Lj hg
 have hz4:W'.heap.size=w3.heap.size:=by rw[<-hW'];exact Ly
 have hrow4:∀g,rows W' g=rows w3 g:=by(intro g;by_cases hg:g=l;subst hg;simp[rows,rl3,rl4];simp only[rows,hs4 g hg])
 have hosw:W'.os=w3.os/\W'.tape=w3.tape/\W'.output=w3.output:=by rw[<-hW'];exact⟨rfl,rfl,rfl⟩
 have hos2:w2.os=w1.os/\w2.tape=w1.tape/\w2.output=w1.output:=by rw[<-hw2];exact⟨rfl,rfl,rfl⟩
 suffices key:∃A',LJ g6 prot A' (pre++[x]) W'/\(∀g,A' g->A g\/W.heap.size<=g)/\Kept A W W' by(rw[<-hW']at key;exact key)
 obtain⟨ρ3,p1,p2,pr,I3,_,_⟩:=Z7I S3 kr kr (by show([8020,6]:List Nat).Nodup;decide) (by
  intro b ty s els hm;simp only[Ag,Lo,Lu,or_false,Prod.mk.injEq,reduceCtorEq,and_false,Z3.arr.injEq]at hm;obtain⟨_,_,_,rfl⟩:=hm;exact Oi _) rl3 rl4 hz4 hs4 (by decide:1<=20)
 have own3:∀b β g,ρ3 b=M β->β.g=M g->A g\/W.heap.size<=g:=by(intro b β g h h';rcases p2 b β g h h' with⟨k,_⟩|⟨c,κ,k1,k2⟩;exact .inr oq;exact(own1 c κ g k1 k2).symm)
 have keep:Kept A W W':=by(refine⟨hosw.1.trans (K3.os.trans (hos2.1.trans K1.os)),hosw.2.1.trans (K3.tape.trans (hos2.2.1.trans K1.tape)),hosw.2.2.trans (K3.output.trans (hos2.2.2.trans K1.output)),by have:=K3.size;omega,λk hk hn=>?_,λk hk=>?_⟩;by_cases hkl:k=l;subst hkl;rw[rl4,rl];rw[hs4 k hkl,K3.block k oq ?_,hs2 k hkl,K1.block k hk hn];rintro⟨b,β,h,h'⟩;rcases own1 b β k h h' with q|q;omega;exact hn q;rw[hrow4,K3.rows k oq,hrow2,K1.rows k hk])
 refine⟨λg=>∃b β,ρ3 b=M β/\β.g=M g,⟨ρ3,λg=>Iff.rfl,I3, ?_,p1,pr,λp hpp=>?_⟩,λg ⟨b,β,h,h'⟩=>own3 b β g h h',keep⟩;obtain⟨β,g,k1,k2,k3⟩:=box6 I3 rfl;rcases p2 6 β g k1 k2 with⟨_,k⟩|⟨c,κ,m1,m2⟩;omega;have hg2:g<w2.heap.size:=I1.bnd _ _ _ m1 m2;have hr2:rows w2 g=1:=by rw[<-k3,hrow4,K3.rows g hg2]
 have hc:=q1 c κ m1;have e:g=g6:=by(simp only[AT,Ag,Xx,Xy,Lo,Lu,or_false]at hc;rcases hc with rfl|rfl|rfl;obtain⟨κ',n1,n2⟩:=I1.blk 160007 _ rfl;rw[m1]at n1;cases n1;rw[Z31 n2 m2]at hr2;simp at hr2;have:=qr _ _ _ m1 m2;rw[arr4 I1 rfl m1,hr2]at this;omega;exact id1 κ g m1 m2 hr2)
 subst e;obtain⟨βg,βs,βn⟩:=β;cases k2;exact⟨βs,βn,k1⟩;obtain⟨h1,h2⟩:=hp p hpp;have hpl:=(Lm.1 h1).1;refine⟨by rw[keep.block p.1 hpl h2];exact h1, ?_⟩;rintro⟨b,β,h,h'⟩;rcases own3 b β p.1 h h' with q|q;exact h2 q;omega
end Go.Proofs.YtgedmeaemofdkaaGreat
namespace Go.Proofs.YtgedmeaemofdkaaGreat
open Go.Sx Go.RowKit
def Hn(h:Heap)(i:Int):List Found×Bool:=if(pg h i).K=1\/(pg h i).K=2 then EY h i 256 0 else([],La)
def HT:Found:=⟨0,⟨0,0,0⟩⟩
structure Rnd (l n:Nat) (J:(Nat->Prop)->List Found->World->Prop) (Jx:World->Prop):Prop where
 keep:∀A pre X Y,J A pre X->Kept (λ_=>False) X Y->J A pre Y
 bnd:∀A pre X,J A pre X->∀g,A g->g<X.heap.size
 yes:∀A pre X x,J A pre X->pre.length<=1000->YieldAt Lf n prog l (Np x 0) X λe X'=>e=.returned (.bool La)/\∃A',J A' (pre++[x]) X'/\(∀g,A' g->A g\/X.heap.size<=g)/\Kept A X X'
 no:∀A pre X,J A pre X->pre.length<=1000->YieldAt Lf n prog l (Np HT 19) X λe X'=>e=.returned (.bool Lc)/\Jx X'
section
variable(h:Heap)(i:Int)(l n:Nat){J:(Nat->Prop)->List Found->World->Prop}{Jx:World->Prop}(R:Rnd l n J Jx)
def InL(J:(Nat->Prop)->List Found->World->Prop)(a:Act)(w:World):Prop:=
 ∃(b:List Found) (A c:Nat->Prop) (f:Nat) (o:Int),(Hn h i).1=b++(EY h i f o).1/\(Hn h i).2=(EY h i f o).2/\(pg h i).U-o<=f/\0<=o/\o<=1000/\b.length+f<=256/\J A b w/\Cy [] (λ_=>Lb) w c (inS h l i o).tmps a/\∀g,c g->g<w.heap.size/\¬ A g
def IH(a:Act):Nat:=match (a.tmps.getD 5 undef:Value)with|.int _ o=>((pg h i).U-o).toNat|_=>0
theorem Z9u{w Im a o}(T:Cy [] (λ_=>Lb) w Im (inS h l i o).tmps a):IH h i a=((pg h i).U-o).toNat:=by have:a.tmps.getD 5 undef=.int .i64 o:=C3 (Ed T (.tmp 5));rw[IH,this]
def Mj(Jx:World->Prop)(e:Ending)(a:World):Prop:=(∃v,e=.returned v)/\(((Hn h i).2=La/\∃A,J A (Hn h i).1 a)\/((Hn h i).2=Lc/\Jx a))
def MP(o:Oper):Array Nat:=match o.op with|.call c=>c.argTypes|_ => #[]
theorem found_eq{ρ w Im}{f:Found}{v}(h:Zj ρ w Im f.av v):v=NX f:=by obtain⟨b,c,d,h3,e⟩:=HK h;rw[c];have g:∀(k:Nat) (a:k<b.size) (v:Value),[uU f.addr,nI f.hd.K,nI f.hd.length,u32 f.hd.map][k]?=M (.d (.sc v))->b[k]=v:=λk a v m=>C3 (e k _ b[k] m (Xm a));have j:b.size=4:=d;simp only[NX];congr 1;apply Xl;simp[j];intro k a _;rcases k with _|_|_|_|k;exact g 0 a _ rfl;exact g 1 a _ rfl;exact g 2 a _ rfl;exact g 3 a _ rfl;omega
theorem Ziv(hw:Zx h.W)(hp:Z9 h=La)(hu:(pg h i).U<=256)(R:Rnd l n J Jx) a w(hI:InL h i l J a w) :(Zm f234 0).wpIn Lf (n+1) prog (Exit.then (λa' w'=>InL h i l J a' w'/\IH h i a'<IH h i a) (Li 0 (bodyPost prog f234 (Mj h i (J:=J) Jx)))) a w:=by
 obtain⟨pre,A,Im,f,o,e1,e2,hf,h0,h1,hl,hJ,T,hIm⟩:=hI;have S:Sx.Sys Gl Im w (inS h l i o).st.tmps (inS h l i o).st.H (inS h l i o).st.clk a w:=⟨_,_,Inv.empty (λg hg=>(hIm g hg).1) (by decide:1<=20),T⟩;by_cases hlt:o<(pg h i).U;obtain⟨f,rfl⟩:∃k,f=k+1:=⟨f-1,by omega⟩;unfold EY at e1 e2;rw[if_pos hlt]at e1 e2;have bad:¬ ((address h.C i o).2=0/\(Z6 h (Bf h i o)).2=0)->∀a' w',Sx.Sys Gl Im w (Tg.st ⟨tm 58 [(0,.d (.sc (Gw l)))],[],30⟩).tmps (Tg.st ⟨tm 58 [(0,.d (.sc (Gw l)))],[],30⟩).H 30 a' w' ->
   rest prog (n+1) 10 (Zm f234 0) (Exit.then (λa' w'=>InL h i l J a' w'/\IH h i a'<IH h i a) (Li 0 (bodyPost prog f234 (Mj h i (J:=J) Jx)))) a' w':=by
  intro hb a' w' S1;rw[if_neg hb]at e1 e2;generalize hQ:Li 0 (bodyPost prog f234 (Mj h i (J:=J) Jx))=Q0;generalize (λa' w'=>InL h i l J a' w'/\IH h i a'<IH h i a)=nx;have er:rest prog (n+1) 10 (Zm f234 0) (Exit.then nx Q0) a' w' =
    (LM 10 (BM f234 10) Lc).wpIn Lf (n+1) prog (Exit.then (Xo.wpIn Lf (n+1) prog (Li 1 (Exit.then nx Q0))) (Li 1 (Exit.then nx Q0))) a' w':=by kernel_rfl
  rw[er];refine wpIn_region ?_;rw[show Lq (BM f234 10).size=[0,1]++[2]from by kernel_rfl];refine Dh (ro:=Lb) (hints:=[]) (out:=⟨tm 58 [(0,.d (.sc (Gw l))),(55,.d (.sc (Gw l))),(56,HT.av)],C1 [],[],[]⟩) kr S1 trivial (λp hp=>by simp at hp) ?_;intro a2 w2 S2;obtain⟨o',ho,⟨ts,hop⟩,hd,hg⟩:∃o':Oper,(BM f234 10)[2]?=M o'/\(∃ts,o'.op=.call ⟨.value (.tmp 55),#[.tmp 56,.const (.int .i64 19)],ts⟩)/\o'.dst=M 57/\o'.guard=Lb:=⟨(BM f234 10).getD 2 O,by kernel_rfl,⟨MP ((BM f234 10).getD 2 O),by kernel_rfl⟩,by kernel_rfl,by kernel_rfl⟩
  have hwd:LY o' (yielded (BM f234 10) a2.tmps)=La:=by grind[LY]
  simp only[wpOpsIn,ho,hwd,if_true];obtain⟨ρ2,Im2,I2,T2⟩:=S2;have v1:a2.eval (.tmp 55)=.func (.yield l) #[] #[]:=C3 (Ed T2 (.tmp 55));have v2:a2.eval (.tmp 56)=NX HT:=found_eq (Ed T2 (.tmp 56):Zj ρ2 w2 Im2 HT.av _);have J2:J A pre w2:=R.keep _ _ _ _ hJ I2.kept.no;refine Z6n hop v1 (show #[a2.eval (.tmp 56),a2.eval (.const (.int .i64 19))]=Np HT 19 by rw[v2];rfl) (R.no A pre w2 J2 oq) ?_;rintro e w3 ⟨rfl,hx⟩;refine⟨_,rfl,wpIn_ret ?_⟩;show Q0 .ret _ _;rw[<-hQ];exact bodyPost_ret (results_none rfl _ _ _) (by rw[hd];exact T2.defers) ⟨⟨_,rfl⟩,.inr ⟨e2,hx⟩⟩
 by_cases ha:(address h.C i o).2=0;by_cases hh:(Z6 h (Bf h i o)).2=0;rw[if_pos ⟨ha,hh⟩]at e1 e2;have sz:=Ip (Z6 h (Bf h i o)).1;have sp:=Z1b hh;obtain⟨o2,ho2⟩:∃o2,o+Z5 (Z6 h (Bf h i o)).1=o2:=⟨_,rfl⟩;refine Zmd h l i o hw hp ⟨h0,h1⟩ hlt ha hh _ _ _ _ _ _ _ S ?_;intro a1 w1 S1;rw[ho2]at S1 e1 e2;generalize hQ:Li 0 (bodyPost prog f234 (Mj h i (J:=J) Jx))=Q0;have hmu:=Z9u h i l T;generalize hnx:(λa' w'=>InL h i l J a' w'/\IH h i a'<IH h i a)=nx;obtain⟨yc,hyc⟩:∃yc:Code,∀a' w',rest prog (n+1) 9 (Zm f234 0) (Exit.then nx Q0) a' w' =
  (LM 9 (BM f234 9) Lc).wpIn Lf (n+1) prog (Exit.then ((Code.cond (.tmp 54) .ret .skip).wpIn Lf (n+1) prog (Exit.then ((Xn 1).wpIn Lf (n+1) prog (Exit.then (yc.wpIn Lf (n+1) prog (Li 1 (Exit.then nx Q0))) (Li 1 (Exit.then nx Q0)))) (Exit.then (yc.wpIn Lf (n+1) prog (Li 1 (Exit.then nx Q0))) (Li 1 (Exit.then nx Q0)))))
   (Exit.then ((Xn 1).wpIn Lf (n+1) prog (Exit.then (yc.wpIn Lf (n+1) prog (Li 1 (Exit.then nx Q0))) (Li 1 (Exit.then nx Q0)))) (Exit.then (yc.wpIn Lf (n+1) prog (Li 1 (Exit.then nx Q0))) (Li 1 (Exit.then nx Q0))))) a' w':=⟨.seq (.region 10 (BM f234 10) Lc) .ret,λa' w'=>by kernel_rfl⟩
 rw[hyc];refine wpIn_region ?_;rw[show Lq (BM f234 9).size=[0,1,2,3]++([4]++[5])from by kernel_rfl];refine Dh (ro:=Lb) (hints:=[]) (out:=⟨tm 58 [(0,.d (.sc (Gw l))),(1,.rp h.dvs 0),(2,.rp [Zq i] 0),(4,.rp (pg h i).dv 0),(5,nI o2),(6,uU (Bf h i o)),(8,.pt 184008 0 0),(49,.d (.sc (Gw l))),(50,uU (Bf h i o)),(51,(Z6 h (Bf h i o)).1.av),(52,(Found.mk (Bf h i o) (Z6 h (Bf h i o)).1).av)],C1 [(184008,.box 52 [nI (Z6 h (Bf h i o)).1.K,nI (Z6 h (Bf h i o)).1.length,u32 (Z6 h (Bf h i o)).1.map])],[],[]⟩) kr S1 trivial (λp hp=>by simp at hp) ?_;intro a2 w2 S2;obtain⟨o',ho,⟨ts,hop⟩,hd,hg⟩:∃o':Oper,(BM f234 9)[4]?=M o'/\(∃ts,o'.op=.call ⟨.value (.tmp 49),#[.tmp 52,.const (.int .i64 0)],ts⟩)/\o'.dst=M 53/\o'.guard=Lb:=⟨(BM f234 9).getD 4 O,by kernel_rfl,⟨MP ((BM f234 9).getD 4 O),by kernel_rfl⟩,by kernel_rfl,by kernel_rfl⟩;have hwd:LY o' (yielded (BM f234 9) a2.tmps)=La:=by grind[LY]
 rw[show([4]++[5]:List Nat)=4::[5]from rfl,wpOpsIn];simp only[ho];rw[if_pos hwd];have v1:a2.eval (.tmp 49)=.func (.yield l) #[] #[]:=by obtain⟨ρ2,Im2,I2,T2⟩:=S2;exact C3 (Ed T2 (.tmp 49))
 have v2:a2.eval (.tmp 52)=NX ⟨Bf h i o,(Z6 h (Bf h i o)).1⟩:=by(obtain⟨ρ2,Im2,I2,T2⟩:=S2;exact found_eq (Ed T2 (.tmp 52):Zj ρ2 w2 Im2 (Found.mk (Bf h i o) (Z6 h (Bf h i o)).1).av _))
 have S3:=Z0v (s:=⟨tm 58 [(0,.d (.sc (Gw l))),(1,.rp h.dvs 0),(2,.rp [Zq i] 0),(4,.rp (pg h i).dv 0),(5,nI o2),(6,uU (Bf h i o)),(8,.pt 184008 0 0),(49,.d (.sc (Gw l))),(50,uU (Bf h i o)),(51,(Z6 h (Bf h i o)).1.av),(52,(Found.mk (Bf h i o) (Z6 h (Bf h i o)).1).av)],C1 [(184008,.box 52 [nI (Z6 h (Bf h i o)).1.K,nI (Z6 h (Bf h i o)).1.length,u32 (Z6 h (Bf h i o)).1.map])],30⟩) (t:=inS h l i o2) kr kr S2;clear S2 S1;obtain⟨ρ2,Im2,I2,T2⟩:=S3;have J2:J A pre w2:=R.keep _ _ _ _ hJ I2.kept.no;refine Z6n hop v1 (show #[a2.eval (.tmp 52),a2.eval (.const (.int .i64 0))]=Np ⟨Bf h i o,(Z6 h (Bf h i o)).1⟩ 0 by rw[v2];rfl) (R.yes A pre w2 _ J2 oq) ?_;rintro e w3 ⟨rfl,A',J3,hA',K3⟩;have hIm2:∀g,Im2 g->¬ A g:=by(intro g hg hA;rcases I2.im0 g hg with k|k|k;grind;have:=R.bnd _ _ _ hJ g hA;omega;exact k.no)
 refine⟨_,rfl, ?_⟩;have T3:Cy [] (λ_=>Lb) w3 Im2 (inS h l i o2).tmps a2:=(T2.pure kr).mono ⟨K3.size,λg hg=>K3.block g (I2.imb g hg) (hIm2 g hg),K3.rows⟩ (λ_ h=>h) (λ_ _ h=>h) (λ_ _ _ h=>nomatch h);have S4:Sx.Sys Gl Im2 w3 ((inS h l i o2).tmps.set 53 (bL La)) (C1 []) 20 (a2.put o'.dst (.bool La)) w3:=by(rw[hd];exact⟨_,Im2,Inv.empty (λg hg=>L6 (I2.imb g hg) K3.size) dd,T3.put 53 (Zj.d (CR.sc (.bool La) rfl))⟩)
 refine Pp (ro:=Lb) (hints:=[]) (out:=⟨((inS h l i o2).tmps.set 53 (bL La)).set 54 (bL (!true)),C1 [],[],[]⟩) kr S4 trivial (λp hp=>by simp at hp) ?_;intro a5 w5 S5;have v5:a5.eval (.tmp 54)=.bool Lc:=by obtain⟨_,_,_,T5⟩:=S5;exact C3 (Ed T5 (.tmp 54))
 have S6:=Z0v (s:=⟨((inS h l i o2).tmps.set 53 (bL La)).set 54 (bL (!true)),C1 [],20⟩) (t:=inS h l i o2) kr kr S5;obtain⟨ρ6,Im6,I6,T6⟩:=S6;refine wpIn_cond_false v5 (wpIn_skip ?_);refine wpIn_exit ?_;show(if 1=1 then(Exit.then nx Q0) .normal a5 w5 else Exit.then nx Q0 (.exit 1) a5 w5);rw[if_pos rfl,<-hnx];have T7:=T6.pure kr;refine⟨⟨pre++[⟨Bf h i o,(Z6 h (Bf h i o)).1⟩],A',Im6,f,o2, ?_,e2,by omega,by omega,by omega,by simp;omega,R.keep _ _ _ _ J3 I6.kept.no,T7,λg hg=>⟨I6.imb g hg,λhA=>?_⟩⟩, ?_⟩;rw[e1];simp;have hb:=R.bnd _ _ _ J3 g hA;rcases I6.im0 g hg with k|k|k;have:=I2.imb g k;grind;omega;exact k.no;show IH h i a5<IH h i a;rw[Z9u h i l T7,hmu];omega;exact Zfh h l i o hw hp ⟨h0,h1⟩ hlt ha hh _ _ _ _ _ _ _ S (bad (λq=>hh q.2));exact ZfY h l i o hw hp ⟨h0,h1⟩ hlt ha _ _ _ _ _ _ _ S (bad (λq=>ha q.1));refine wpIn_mono (wpIn_wide.2 (ZmM h l i o oq _ _ _ _ _ S)) ?_;rintro e a' w' ⟨rfl,S1⟩;have hz:EY h i f o=([],La):=by
  cases f with|zero=>rfl|succ f=>grind[EY]
 rw[hz]at e1 e2;obtain⟨ρ,Im1,I1,T1⟩:=S1;show bodyPost _ _ _ .normal _ _;refine bodyPost_end (results_none rfl _ _ _) T1.defers ⟨⟨_,rfl⟩,.inl ⟨e2,A, ?_⟩⟩;rw[e1,L7];exact R.keep _ _ _ _ hJ I1.kept.no
theorem ZjT(hw:Zx h.W)(t:Z9 h=La)(hi:0<=i/\i<h.P.length)(R:Rnd l n J Jx){r Im:Nat->Prop}{W:World}{o q}(a0:∀g,Im g->g<W.heap.size/\¬ r g)(h1:Zj (λ_=>Lb) W Im (.rp h.dvs 0) o)(h2:Zj (λ_=>Lb) W Im (.rp [Zq i] 0) q)(s:J r [] W):CallsIn Lf (n+1) prog 234 #[Gw l,o,q] W (Mj h i (J:=J) Jx):=by
 have hu:(pg h i).U<=256:=(En t (j:=i.toNat) oq).2.2.2.2.2.2.2.1;refine callsIn_of_wp func234 (c:=HD f234) kr trivial ?_ rfl;have S:Sx.Sys Gl Im W (inE h l i).st.tmps (inE h l i).st.H (inE h l i).st.clk {tmps:=#[Gw l,o,q]++LI (Tryz.f234.ntmps-(#[Gw l,o,q]:Array Value).size) undef,defers:=[]} W:=by
  refine⟨_,Im,Inv.empty (λg b=>(a0 g b).1) (Lk 1),⟨by kernel_rfl,λk y v u m=>?_,rfl⟩⟩;rw[show(inE h l i).st.tmps=[.d (.sc (Gw l)),.rp h.dvs 0,.rp [Zq i] 0]++Lg 55 .any from by kernel_rfl,LR]at u;rw[LH]at m;split at u
  .rename_i f;have a3:k<3:=f;rw[if_pos (show k<(#[Gw l,o,q]:Array Value).size from a3)]at m;rcases k with _|_|_|k;cases u;cases m;exact .d (.sc _ rfl);all_goals grind
  have:=Ls u;rw[(Lw.1 this).2];exact .any _
 by_cases f:(pg h i).K=1\/(pg h i).K=2;refine ZdF h l i hi f _ _ _ _ _ _ _ S ?_;intro a1 w1 z;generalize hQ:bodyPost prog f234 (Mj h i (J:=J) Jx)=Q;have er:rest prog (n+1) 2 (HD f234) Q a1 w1=(LM 2 (BM f234 2) Lc).wpIn Lf (n+1) prog (Exit.then ((Zi f234 0).wpIn Lf (n+1) prog Q) Q) a1 w1:=by kernel_rfl
 rw[er];refine wpIn_region ?_;rw[show Lq (BM f234 2).size=[0]from by kernel_rfl];refine Pp (ro:=Lb) (hints:=[]) (out:=⟨tm 58 [(0,.d (.sc (Gw l))),(1,.rp h.dvs 0),(2,.rp [Zq i] 0),(4,.pt 8004 0 0),(5,nI 0)],C1 [(8004,.box 86 ((pg h i).dv.map .d))],[],[]⟩) kr z trivial (λp t=>by simp at t) ?_;intro a2 w2 S2;show(Zi f234 0).wpIn Lf (n+1) prog Q a2 w2;rw[O3 kr,<-hQ];refine wpIn_block (wpIn_loop (InL h i l J) (λa _=>IH h i a) ?_ (λa w hI=>Ziv h i l n hw t hu R a w hI));obtain⟨ρ2,x,d,T2⟩:=S2;obtain⟨β,m1,m2⟩:=d.blk 8004 _ rfl;have J2:=R.keep _ _ _ _ s d.kept.no;have a5:live (C1 [(8004,Z3.box 86 ((pg h i).dv.map .d))]) 8004:=⟨_,rfl,by simp⟩;have T3:Cy [] ρ2 w2 (λg=>x g\/β.g=M g) _ a2:=T2.mono (Ext.refl _ _) (λ_ h=>.inl h) (λ_ _ h=>h) d.bnd;have T4:=(T3.reSet 4 .any (λv _=>.any v)).pure kr;have T5:=T4.reSet 4 (.rp (pg h i).dv 0) (λv m=>by
  have:=T2.tmp 4 _ v rfl m;exact TR m1 m2 this (λ_ h=>.inl h) (λ_ h=>.inr h))
 refine⟨[],r,_,256,0,by grind[Hn],by grind[Hn],by omega,by omega,by omega,by simp,J2,T5,λg b=>?_⟩;rcases b with b|b;refine⟨d.imb g b,λhA=>?_⟩;rcases d.im0 g b with k|k|k;grind;have:=R.bnd _ _ _ s g hA;omega;exact k.no;refine⟨d.bnd _ _ _ m1 b,λhA=>?_⟩;rcases d.own _ _ _ m1 b with⟨k,_⟩|k;have:=R.bnd _ _ _ s g hA;omega;exact k.no;refine wpIn_mono (wpIn_wide.2 (ZeT h l i hi f _ _ _ _ _ S)) ?_;rintro e a' w' ⟨rfl,z⟩;obtain⟨ρ,a4,I1,T1⟩:=z;refine bodyPost_ret (results_none rfl _ _ _) T1.defers ⟨⟨_,rfl⟩,.inl ⟨by grind[Hn],r, ?_⟩⟩;rw[Hn,if_neg f];exact R.keep _ _ _ _ s I1.kept.no
end
end Go.Proofs.YtgedmeaemofdkaaGreat
namespace Go.Proofs.YtgedmeaemofdkaaGreat
open Go.Sx
def ZjX(h:Heap) i:CP (HD f214) (Tg.st ⟨tm 6 [(0,h.av),(1,nI i)],[],1⟩) .ret (Tg.st ⟨tm 6 [(4,.fn 234 [.pt 8002 0 0,.pt 8003 0 0])],[(8003,.box 3 [nI i]),(8002,.box 28 h.cells)],30⟩):=by exact sF [] [] Fz
def ZaX(h:Heap) i:Ad prog 1 (HD f183) (Tg.st ⟨tm 22 [(0,h.av),(1,nI i)],[],1⟩) (Tg.st ⟨tm 22 [(1,nI i),(2,.pt 8002 0 0),(4,.pt 8004 0 0),(5,.pt 8005 0 0)],[(8005,.box 32 [nI 0]),(8004,.box 206 [.d (.sl 0 [])]),(8002,.box 28 h.cells)],20⟩):=by refine D1 [] [] [] (φ:=True) ?_ kr kr kr kr;exact trivial
def ptr(g:Nat):AV:=.d (.sc (.pointer (M ⟨g,0,Lb⟩)))
def Zi4 g4 g5:CIn prog (HF f183 0) (Tg.st ⟨tm 22 [(4,ptr g4),(5,ptr g5),(12,HT.av),(13,nI 19)],[],20⟩) .nrm (Tg.st ⟨tm 22 [(4,ptr g4),(5,ptr g5),(8,nI 19)],[],30⟩):=by refine Z3V [] [] [] (φ:=True) ?_ kr kr kr kr;exact trivial
end Go.Proofs.YtgedmeaemofdkaaGreat
namespace Go.Proofs.YtgedmeaemofdkaaGreat
open Go.Sx Go.RowKit
section
variable{P:Program}{o:Oper}{a:Act}{w:World}
theorem Z1J{t g ty:Nat}{v:Value}(e:w.heap[g]?=M (.cells #[v] ty (0,0)))(c:v.oneCell'=La)(d:Sa P t=M Lc):(loadVar t ⟨g,0,Lb⟩).run P w=.ok v w:=by
 obtain⟨v',h1,h2⟩:=Z6D (P:=P) (w:=w) (t:=t) (g:=g) (off:=0) (l:=[.d (.sc v)]) (o:=0) (x:=.d (.sc v)) (ρ:=λ_=>Lb) (Im:=λ_=>False) (λj a b=>by
  cases j with
  |zero=>cases b;exact⟨v,by simp[XI,e],c,.d (.sc _ c)⟩
  |succ j=>simp at b) (by simp[Rr,d])
 grind[C3]
theorem ZhH{t g ty:Nat}{x:Operand}{v:Value}(b:o.op=.load t x)(f:a.eval x=.pointer (M ⟨g,0,Lb⟩))(e:w.heap[g]?=M (.cells #[v] ty (0,0)))(d:v.oneCell'=La)(c:Sa P t=M Lc):(execOp a.eval o).run P w=.ok (.value v) w:=by simp[execOp,b,Instr.loadAt,Instr.sureAddr,f,Z1J e d c]
theorem OP{t g ty:Nat}{x y:Operand}{u v:Value}(c:o.op=.store t x y)(f:a.eval x=.pointer (M ⟨g,0,Lb⟩))(j:a.eval y=v)(e:w.heap[g]?=M (.cells #[u] ty (0,0)))(d:v.oneCell'=La)(hs:BD P t=1):(execOp a.eval o).run P w=.ok .skip (w.setRow g #[v]):=by have b:=Z6c d;have:=Z9h (P:=P) (t:=t) (off:=0) (v:=v) e (by grind) (Z1x oq) (by rw[b];simp) (λi u h=>by grind);rw[b]at this;simp at this;simp[execOp,c,Instr.storeAt,Instr.sureAddr,f,j,this]
theorem Zih{t:Nat}{z:Value}(d:o.op=.alloc t)(b:zeroOf P t=M z):(execOp a.eval o).run P w=.ok (.value (.pointer (M ⟨w.heap.size,0,Lb⟩))) (w.alloc (.cells z.cells t)):=by unfold zeroOf at b;split at b;rename_i i c;simp[execOp,d,Instr.alloc,zeroValue,typeInfo,c,b,newVar,newRow];cases b
theorem Sn{v:Value}{w':World}{next:Act->World->Prop}{Q}(h:(execOp a.eval o).run P w=.ok (.value v) w')(k:next (a.put o.dst v) w'):o.wp P a w next Q:=by unfold LC;rw[h];exact k
theorem Oj{w':World}{next:Act->World->Prop}{Q}(h:(execOp a.eval o).run P w=.ok .skip w')(k:next (a.put o.dst undef) w'):o.wp P a w next Q:=by unfold LC;rw[h];exact k
theorem Nj{F}{n i:Nat}{l}{ops:Array Oper}{Q}(ho:ops[i]?=M o)(hg:o.guard=Lb)(h:o.wpIn F n P a w (wpOpsIn F n P ops Q l) Q):wpOpsIn F n P ops Q (i::l) a w:=by grind[wpOpsIn,LY]
theorem Z0H{g ty:Nat}{cs cs':Array Value}(b:w.heap[g]?=M (.cells cs ty (0,0))):(w.setRow g cs').heap[g]?=M (.cells cs' ty (0,0)):=setRow_heap w g cs cs' ty _ b
end
def RN{A X Y Z}(h:Kept (λ_=>False) X Y)(k:Kept A Y Z)(hA:∀g,A g->X.heap.size<=g):Kept (λ_=>False) X Z:=
 ⟨k.os.trans h.os,k.tape.trans h.tape,k.output.trans h.output,LV h.size k.size,λg a _=>by
  rw[k.block g (L6 a h.size) (λq=>by grind)];exact h.block g a (λq=>q),λg a=>by rw[k.rows g (L6 a h.size)];exact h.rows g a⟩
def ZbS(h:Heap) i(w:World)(Im:Nat->Prop) b iv(f:∀g,Im g->g<w.heap.size)(h1:Zj (λ_=>Lb) w Im h.av b)(h2:Zj (λ_=>Lb) w Im (nI i) iv) :Calls prog 214 #[b,iv] w λe w'=>∃p1 p2,∃Im':Nat->Prop,e=.returned (.func (.func 234) #[] #[p1,p2])/\Kept (λ_=>False) w w'/\(∀g,Im' g->(Im g\/w.heap.size<=g)/\g<w'.heap.size) /\
   Zj (λ_=>Lb) w' Im' (.rp h.dvs 0) p1/\Zj (λ_=>Lb) w' Im' (.rp [Zq i] 0) p2:=by
 refine calls_of_wp func214 (c:=HD f214) kr ?_;have S:Sx.Sys Gl Im w (tm 6 [(0,h.av),(1,nI i)]) (C1 []) 1 {tmps:=#[b,iv]++LI (Tryz.f214.ntmps-(#[b,iv]:Array Value).size) undef,defers:=[]} w:=by(refine⟨_,Im,Inv.empty f (Lk 1),⟨by kernel_rfl,λk y v j b=>?_,rfl⟩⟩;rw[show tm 6 [(0,h.av),(1,nI i)]=[h.av,nI i]++Lg 4 .any from by kernel_rfl,LR]at j;rw[LH]at b;split at j;grind;have:=Ls j;rw[(Lw.1 this).2];exact .any _)
 refine wp_mono (ZjX h i _ _ _ _ _ S) ?_;rintro e n w' ⟨rfl,ρ,Im',I,T⟩;refine bodyPost_ret (results_tmp rfl _ _ _) T.defers ?_;have o:Zj ρ w' Im' (.fn 234 [.pt 8002 0 0,.pt 8003 0 0]) (n.tmps.getD 4 undef):=Ed T (.tmp 4);generalize n.tmps.getD 4 undef=fv at o;cases o with
 |fn q p =>
  rename_i d;have r:d.size=2:=q;obtain⟨p1,p2,rfl⟩:∃p1 p2,d=#[p1,p2]:=⟨d[0],d[1],by
   grind⟩
  obtain⟨β2,l,s⟩:=I.blk 8002 _ rfl;obtain⟨β3,m,t⟩:=I.blk 8003 _ rfl;refine⟨p1,p2,λg=>Im' g\/β2.g=M g\/β3.g=M g,rfl,I.kept.no,λg a=>?_,TR l s (p 0 _ p1 rfl rfl) (λ_ h=>.inl h) (λ_ h=>.inr (.inl h)),TR m t (p 1 _ p2 rfl rfl) (λ_ h=>.inl h) (λ_ h=>.inr (.inr h))⟩;rcases a with a|a|a;exact⟨(I.im0 g a).imp id (λh=>h.elim id (λh=>h.no.elim)),I.imb g a⟩;exact⟨.inr ((I.own _ _ g l a).elim (·.1) (λh=>h.no.elim)),I.bnd _ _ g l a⟩;exact⟨.inr ((I.own _ _ g m a).elim (·.1) (λh=>h.no.elim)),I.bnd _ _ g m a⟩
def rgB(fn:Func)(k:Nat):Array Oper:=match Ss k (Hp fn 0)with|some o=>o|none => #[]
def Zep{tmps:Array Value}{W:World}{g4 g5:Nat}{v4 v5:Value}(b:tmps.getD 4 undef=.pointer (M ⟨g4,0,Lb⟩))(c:tmps.getD 5 undef=.pointer (M ⟨g5,0,Lb⟩))(c4:W.heap[g4]?=M (.cells #[v4] 206 (0,0)))(a:W.heap[g5]?=M (.cells #[v5] 32 (0,0)))(f:v4.oneCell'=La)(g:v5.oneCell'=La):(results f183 tmps).run prog W=.ok (.tuple #[v4,v5]) W:=by rw[Z6k,show Tryz.f183.results=#[.cell 4 206,.cell 5 32]from rfl];have d:=Z1J (P:=prog) (t:=206) c4 f kr;have e:=Z1J (P:=prog) (t:=32) a g kr;simp[DX,b,c,asAddr,d,e,List.mapM_toArray]
def Z7R{tmps:Array Value}{W:World}{g4 g5 D:Nat}{v4 v5:Value}{R:Ending->World->Prop}(h4:tmps.getD 4 undef=.pointer (M ⟨g4,0,Lb⟩))(h5:tmps.getD 5 undef=.pointer (M ⟨g5,0,Lb⟩))(c4:W.heap[g4]?=M (.cells #[v4] 206 (0,0)))(c5:W.heap[g5]?=M (.cells #[v5] 32 (0,0)))(o4:v4.oneCell'=La)(o5:v5.oneCell'=La)(hD:W.heap[D]?=M (.deferred (M [])))(hR:R (.returned (.tuple #[v4,v5])) (W.putObj D (.deferred Lb))) :bodyPostM Lf 10 prog f183 R .ret {tmps:=tmps,defers:=[{target:=.collected D,args:=#[]}]} W:=by
 refine⟨by simp,.inl ⟨_,_,rfl,run_takeDeferred hD, ?_⟩⟩;have n4:g4≠D:=by grind
 have n5:g5≠D:=by grind
 exact⟨_,Zep h4 h5 ((Lj n4).trans c4) ((Lj n5).trans c5) o4 o5,hR⟩
def ZlJ{fn:Nat}{a0:Array Value}{D l n g4 g5:Nat}{u4 u5:Value}{W:World}(ha0:a0.size=22)(ha4:a0[4]?=M (.pointer (M ⟨g4,0,Lb⟩)))(ha5:a0[5]?=M (.pointer (M ⟨g5,0,Lb⟩)))(rl:W.heap[l]?=M (Lp {state:=.ready,pending:=Lb,fn:=fn,tmps:=a0,params:=#[12,13],assign:=HF f183 0,body:=Hp f183 0,defers:=D}))(rD:W.heap[D]?=M (.deferred (M [])))(c4:W.heap[g4]?=M (.cells #[u4] 206 (0,0)))(c5:W.heap[g5]?=M (.cells #[u5] 32 (0,0)))(h45:g4≠g5) :
  YieldAt Lf n prog l (Np HT 19) W λe W'=>e=.returned (.bool Lc)/\W'.heap[l]?=M (Lp {state:=.done,pending:=M .ret,fn:=fn,tmps:=a0,params:=#[12,13],assign:=HF f183 0,body:=Hp f183 0,defers:=D}) /\
   W'.heap[D]?=M (.deferred (M []))/\W'.heap[g4]?=M (.cells #[.slice Lb 0 0] 206 (0,0))/\W'.heap[g5]?=M (.cells #[.int .i64 19] 32 (0,0))/\Kept (λg=>g=l\/g=g4\/g=g5) W W':=by
 refine⟨fn,_,_,_,run_yield rl rfl,roundIn_of_wpIn trivial ?_⟩;have ef:((#[12,13]:Array Nat).zip (Np HT 19)).foldl (λtmps (t,a)=>tmps.setIfInBounds t a) a0=(a0.setIfInBounds 12 (NX HT)).setIfInBounds 13 (.int .i64 19):=by simp[Np]
 show(HF f183 0).wpIn _ n _ _ {tmps:=((#[12,13]:Array Nat).zip (Np HT 19)).foldl (λtmps (t,a)=>tmps.setIfInBounds t a) a0,defers:=[]} W;rw[ef];have TA:Cy [] (λ_=>Lb) W (λ_=>False) (Lg 22 .any) {tmps:=a0,defers:=[]}:=by(refine⟨by rw[ha0];rfl,λi y v h1 h2=>?_,rfl⟩;have:=Ls h1;rw[(Lw.1 this).2];exact .any _)
 have T1:=(((TA.reSet 4 (ptr g4) (λv hv=>by rw[ha4]at hv;cases hv;exact .d (.sc _ rfl))).reSet 5 (ptr g5) (λv hv=>by rw[ha5]at hv;cases hv;exact .d (.sc _ rfl))).put 12 (Z91 _ W _ HT)).put 13 (Zj.d (CR.sc (LG .i64 19) rfl));have S1:Sx.Sys Gl (λ_=>False) W (Tg.st ⟨tm 22 [(4,ptr g4),(5,ptr g5),(12,HT.av),(13,nI 19)],[],20⟩).tmps (Tg.st ⟨tm 22 [(4,ptr g4),(5,ptr g5),(12,HT.av),(13,nI 19)],[],20⟩).H 20 {tmps:=(a0.setIfInBounds 12 (NX HT)).setIfInBounds 13 (.int .i64 19),defers:=[]} W:=
  ⟨_,_,Inv.empty (λ_ h=>h.elim) dd,T1⟩
 refine wpIn_mono (Zi4 g4 g5 (M l) n _ _ _ _ _ S1) ?_;rintro e a1 w1 ⟨rfl,ρ1,Im1,I1,T1⟩;have K1:=I1.kept.no;have same1:∀{g:Nat} {o:Obj},W.heap[g]?=M o->w1.heap[g]?=M o:=λ{g o} h=>by(rw[K1.block g (Lm.1 h).1 (λq=>q)];exact h)
 refine⟨_,run_beginRound (same1 rl) rfl, ?_⟩;obtain⟨w2,hw2⟩:∃w2,w1.putObj l (Lp {state:=.busy,pending:=Lb,fn:=fn,tmps:=a0,params:=#[12,13],assign:=HF f183 0,body:=Hp f183 0,defers:=D})=w2:=⟨_,rfl⟩;have rl2:w2.heap[l]?=M (Lp {state:=.busy,pending:=Lb,fn:=fn,tmps:=a0,params:=#[12,13],assign:=HF f183 0,body:=Hp f183 0,defers:=D}):=by grind[Lx]
 have hs2:∀g,g≠l->w2.heap[g]?=w1.heap[g]?:=λg hg=>by grind[Lj]
 have hz2:w2.heap.size=w1.heap.size:=by grind[Ly]
 have hos2:w2.os=w1.os/\w2.tape=w1.tape/\w2.output=w1.output:=by rw[<-hw2];exact⟨rfl,rfl,rfl⟩
 have n4:g4≠l:=by grind
 have n5:g5≠l:=by grind
 have nD:D≠l:=by grind
 have T2:Cy [] (λ_=>Lb) w2 (λ_=>False) (tm 22 [(4,ptr g4),(5,ptr g5),(8,nI 19)]) a1:=by
  refine⟨T1.size,λi x v h1 h2=>?_,T1.defers⟩;have:=T1.tmp i x v h1 h2;have hx:x=.any\/∃u,x=.d (.sc u):=by
   have hm:=Ls h1;have:∀y∈tm 22 [(4,ptr g4),(5,ptr g5),(8,nI 19)],y=.any\/∃u,y=.d (.sc u):=by(rw[show tm 22 [(4,ptr g4),(5,ptr g5),(8,nI 19)]=Lg 4 .any++[ptr g4,ptr g5,.any,.any,nI 19]++Lg 13 .any from by kernel_rfl];intro y hy;simp only[Xf,Lw,Lo,Lu,or_false]at hy;rcases hy with(⟨_,rfl⟩|rfl|rfl|rfl|rfl|rfl)|⟨_,rfl⟩<;>first|exact .inl rfl|exact .inr ⟨_,rfl⟩)
   exact this x hm
  rcases hx with rfl|⟨u,rfl⟩;exact .any _;rw[C3 this];have h1:(Value.oneCell' u)=La:=by(cases this with|d h=>cases h with|sc _ h=>exact h)
  exact .d (.sc _ h1)
 have S2:Sx.Sys Gl (λ_=>False) w2 (tm 22 [(4,ptr g4),(5,ptr g5),(8,nI 19)]) (C1 []) 20 a1 w2:=⟨_,_,Inv.empty (λ_ h=>h.elim) dd,T2⟩;show(Hp f183 0).wpIn (fen (M l)) n prog _ a1 _;rw[hw2];generalize hQ:roundPost prog l _=Q;obtain⟨yc,hyc⟩:∃yc:Code,Hp f183 0=.block 1 (.seq (.seq (.region 5 (rgB f183 5) Lc) (.cond (.tmp 15) (.seq (.region 6 (rgB f183 6) Lc) .ret) .skip)) yc):=⟨.region 7 (rgB f183 7) Lc,by kernel_rfl⟩;rw[hyc];refine wpIn_block (wpIn_seq (wpIn_seq (wpIn_region ?_)));rw[show Lq (rgB f183 5).size=[0,1]from by kernel_rfl];refine Pp (ro:=M l) (hints:=[]) (out:=⟨tm 22 [(4,ptr g4),(5,ptr g5),(8,nI 19),(14,nI 19),(15,bL ((19:Int) != 0))],C1 [],[],[]⟩) kr S2 trivial (λp hp=>by simp at hp) ?_;intro a3 w3 S3;have v15:a3.eval (.tmp 15)=.bool La:=by obtain⟨_,_,_,T⟩:=S3;exact C3 (Ed T (.tmp 15))
 refine wpIn_cond_true v15 (wpIn_seq (wpIn_region ?_));rw[show Lq (rgB f183 6).size=[0]++[1,2]from by kernel_rfl];refine Dh (ro:=M l) (hints:=[]) (out:=⟨tm 22 [(4,ptr g4),(5,ptr g5),(8,nI 19),(14,nI 19),(15,bL ((19:Int) != 0)),(16,nI 19)],C1 [],[],[]⟩) kr S3 trivial (λp hp=>by simp at hp) ?_;rintro a4 w4 ⟨ρ4,Im4,I4,T4⟩;have K4:=I4.kept.no;have same4:∀{g:Nat} {o:Obj},w2.heap[g]?=M o->w4.heap[g]?=M o:=λ{g o} h=>by(rw[K4.block g (Lm.1 h).1 (λq=>q)];exact h)
 have v4:a4.eval (.tmp 4)=.pointer (M ⟨g4,0,Lb⟩):=C3 (Ed T4 (.tmp 4));have v5:a4.eval (.tmp 5)=.pointer (M ⟨g5,0,Lb⟩):=C3 (Ed T4 (.tmp 5));have v16:a4.eval (.tmp 16)=.int .i64 19:=C3 (Ed T4 (.tmp 16));have d4:w4.heap[g4]?=M (.cells #[u4] 206 (0,0)):=same4 (by grind);have d5:w4.heap[g5]?=M (.cells #[u5] 32 (0,0)):=same4 (by grind);have e4:=Z0H (cs':=#[.slice Lb 0 0]) d4;have f5:(w4.setRow g4 #[.slice Lb 0 0]).heap[g5]?=M (.cells #[u5] 32 (0,0)):=by grind[setRow_other]
 refine Nj (o:=(rgB f183 6).getD 1 O) kr kr (IR (by intro c h;cases h) (Oj (OP (t:=206) (x:=.tmp 4) (y:=.const (.slice Lb 0 0)) (v:=.slice Lb 0 0) kr v4 rfl d4 rfl kr) ?_));refine Nj (o:=(rgB f183 6).getD 2 O) kr kr (IR (by intro c h;cases h) (Oj (OP (t:=32) (x:=.tmp 5) (y:=.tmp 16) (v:=.int .i64 19) kr v5 v16 f5 rfl kr) ?_));generalize hw5:(w4.setRow g4 #[.slice Lb 0 0]).setRow g5 #[.int .i64 19]=w5;have sm:∀{g:Nat},g≠g4->g≠g5->w5.heap[g]?=w4.heap[g]?:=λ{g} h k=>by(grind[setRow_other])
 have rw5:∀g,rows w5 g=rows w4 g:=λg=>by grind[AA]
 have z5:w5.heap.size=w4.heap.size:=by grind[XJ]
 have os5:w5.os=w4.os/\w5.tape=w4.tape/\w5.output=w4.output:=by rw[<-hw5];exact⟨rfl,rfl,rfl⟩
 have rl5:w5.heap[l]?=M (Lp {state:=.busy,pending:=Lb,fn:=fn,tmps:=a0,params:=#[12,13],assign:=HF f183 0,body:=Hp f183 0,defers:=D}):=by grind
 have m4:g4≠D:=by grind
 have m5:g5≠D:=by grind
 refine wpIn_ret ?_;show Q .ret _ w5;rw[<-hQ];refine⟨_,_,run_endRound (M .ret) rl5,rfl,Lx (Lm.1 rl5).1, ?_, ?_, ?_, ?_⟩;grind[Lj];grind[Lj,setRow_other];grind[Lj,Z0H];have rowl:∀(X:World) (o:Obj) (g:Nat),(∃r,X.heap[l]?=M (.loop r))->(∃r,o=.loop r)->rows (X.putObj l o) g=rows X g:=by(rintro X o g ⟨r,hr⟩ ⟨r',rfl⟩;by_cases hg:g=l;grind[rows,Lx];grind[rows,Lj])
 refine⟨os5.1.trans (K4.os.trans (hos2.1.trans K1.os)),os5.2.1.trans (K4.tape.trans (hos2.2.1.trans K1.tape)),os5.2.2.trans (K4.output.trans (hos2.2.2.trans K1.output)), ?_,λg hg hn=>?_,λg hg=>?_⟩;rw[Ly,z5];have:=K1.size;have:=K4.size;omega;grind[Lj];have:=K1.size;rw[rowl _ _ _ ⟨_,rl5⟩ ⟨_,rfl⟩,rw5,K4.rows g oq,<-hw2,rowl _ _ _ ⟨_,same1 rl⟩ ⟨_,rfl⟩,K1.rows g hg]
end Go.Proofs.YtgedmeaemofdkaaGreat
namespace Go.Proofs.YtgedmeaemofdkaaGreat
open Go.Sx Go.RowKit
def EI(l:List Found):AV:=.d (.sl 4 (l.map Found.dv))
def BX(h:Heap)(i:Int):List Found×Int:=if(Hn h i).2=La then((Hn h i).1,0)else([],19)
def LK(w00:World)(g6:Nat)(a:List (Nat×Obj))(A:Nat->Prop)(b:List Found)(W:World):Prop:=LJ g6 a A b W/\Kept (λ_=>False) w00 W/\∀g,A g->w00.heap.size<=g
def SR(F:Func)(fn:Nat)(a0:Array Value)(D:Nat)(st:LoopState)(a:Option Code):Obj:=.loop {state:=st,pending:=a,fn:=fn,tmps:=a0,params:=#[12,13],assign:=HF F 0,body:=Hp F 0,defers:=D}
def LX(w00:World)(fn:Nat)(a0:Array Value)(l D g4 g5:Nat)(W:World):Prop:=
 W.heap[l]?=M (SR f183 fn a0 D .done (M .ret))/\W.heap[D]?=M (.deferred (M []))/\W.heap[g4]?=M (.cells #[.slice Lb 0 0] 206 (0,0))/\W.heap[g5]?=M (.cells #[.int .i64 19] 32 (0,0))/\Kept (λ_=>False) w00 W
def ZmG{w00:World}{fn}{a0:Array Value}{D l n g4 g5 g6:Nat}{u4 u5:Value}(i:a0.size=22)(q:a0[4]?=M (.pointer (M ⟨g4,0,Lb⟩)))(r:a0[5]?=M (.pointer (M ⟨g5,0,Lb⟩)))(u:a0[6]?=M (.pointer (M ⟨g6,0,Lb⟩)))(p:g4≠g5)(h4:w00.heap.size<=g4)(h5:w00.heap.size<=g5)(hl:w00.heap.size<=l) :Rnd l n (LK w00 g6 [(l,SR f183 fn a0 D .ready Lb),(D,.deferred (M [])),(g4,.cells #[u4] 206 (0,0)),(g5,.cells #[u5] 32 (0,0))]) (LX w00 fn a0 l D g4 g5):=by refine⟨λA c X Y ⟨J,K,d⟩ k=>⟨J.keep k,RN K k (λ_ h=>h.elim),d⟩,λA c X ⟨⟨ρ,h1,I,_⟩,_,_⟩ g j=>?_,λA c X x ⟨J,K,d⟩ hlen=>?_,λA c X ⟨J,K,d⟩ _=>?_⟩;obtain⟨b,β,k1,k2⟩:=(h1 g).1 j;exact I.bnd b β g k1 k2;obtain⟨a,t,s,b,v,w⟩:=ZlU (n:=n) (D:=D) hlen i u (List.mem_cons_self) J x;refine⟨a,t,s,b,v,w.mono ?_⟩;rintro e W' ⟨rfl,y,z,f,m⟩;refine⟨rfl,y,⟨z,RN K m d,λg j=>?_⟩,f,m⟩;rcases f g j with h|h;exact d g h;exact LV K.size h;obtain⟨ρ,_,_,_,_,_,o⟩:=J;have p1:=(o (l,SR f183 fn a0 D .ready Lb) pq).1;have p2:=(o (D,.deferred (M [])) pq).1;have p3:=(o (g4,.cells #[u4] 206 (0,0)) pq).1;have p4:=(o (g5,.cells #[u5] 32 (0,0)) pq).1;obtain⟨a,t,s,b,v,w⟩:=ZlJ (n:=n) i q r p1 p2 p3 p4 p;refine⟨a,t,s,b,v,w.mono ?_⟩;rintro e W' ⟨rfl,m1,m2,m3,m4,m⟩;refine⟨rfl,m1,m2,m3,m4,RN K m (λg j=>?_)⟩;rcases j with rfl|rfl|rfl<;>assumption
def Zgj{w00 W g6 m A f}(J:LK w00 g6 m A f W):∃j,W.heap[g6]?=M (.cells #[j] 206 (0,0))/\j.oneCell'=La/\A g6/\∃Im:Nat->Prop,(∀g,Im g->A g/\g<W.heap.size)/\CR W Im (.sl 4 (f.map Found.dv)) j:=by
 obtain⟨⟨ρ,t,I,⟨s6,n6,x⟩,hs,hr,hp⟩,K,v⟩:=J;obtain⟨β,z,m2⟩:=I.blk 6 _ rfl;rw[x]at z;cases z;obtain⟨_,_,g,s,e1,e2,e3,e4,e5⟩:=m2;cases e1;have hc:s.size=1:=e3;obtain⟨j,rfl⟩:∃j,s=#[j]:=⟨s[0],by
  apply Xl;simp[hc];intro k hk _;rcases k with _|k;rfl;omega⟩
 have w:Zj ρ W (λ_=>False) (.ow 8020) j:=e5 0 _ j rfl rfl;have u:A g6:=(t g6).2 ⟨6,_,x,rfl⟩;refine⟨j,e2,e4 0 j rfl,u, ?_⟩;obtain⟨β2,k1,k2⟩:=I.blk 8020 _ rfl;let ρ':ZQ:=λb=>if b=8020 then ρ 8020 else Lb;have l:∀b β,ρ' b=M β->b=8020/\ρ 8020=M β:=by(intro b β h;simp only[ρ']at h;split at h;exact⟨aa,h⟩;cases h)
 have I2:Sx.Inv Gl (λ_=>False) w00 ρ' W (λ_=>False) (C1 [(8020,.arr 212 4 (f.map Found.dv))]) 20:=by
  refine⟨K.imp λ_ h=>h.elim,λb b' β β' g _ _ d i _ _=>by rw[(l _ _ d).1,(l _ _ i).1],λ_ _ _ _ _ _ h=>h,λb β g d i=>I.bnd _ _ g (l _ _ d).2 i,λb β g d i=>.inl ⟨v g ((t g).2 ⟨8020,β,(l _ _ d).2,i⟩),by rw[(l _ _ d).1];decide⟩,λ_ h=>h.elim,λ_ h=>h.elim,λb B o=>?_,λb p _=>?_,⟨by decide,λb β p q=>absurd p (by rw[(l _ _ q).1];decide)⟩⟩;simp only[C1]at o;split at o;cases o;rename_i p;subst p;exact⟨β2,by simp only[ρ',if_true];exact k1,k2.mono (Ext.refl _ _) (λ_ h=>h) (λ_ _ h=>h) I.bnd (λ_ _=>rfl) |> λh=>by
   obtain⟨a1,a2,a3,a4,a5⟩:=h;exact⟨a1,a2,a3,a4,a5⟩⟩
  cases o;simp only[ρ'];rw[if_neg oq]
 have y:Zj ρ' W (λ_=>False) (.ow 8020) j:=by
  cases w with|ow d i q3 r=>exact .ow (by simp only[ρ',if_true];exact d) i q3 r
 have:=Z2Q (keep:=[]) (fr:=La) (b:=8020) (els0:=f.map Found.dv) I2 y rfl pq ⟨_,rfl,by simp⟩ (λe he=>he) (λ_=>Oi f) (λa n c hv hn=>by
  subst hv;cases y with
  |ow d i q3 r =>
   rcases r with r|⟨g,q5,q6,_⟩;omega;cases q6;exact⟨_,d,q5⟩)
 refine⟨_,λg hg=>?_,this⟩;rcases hg with⟨h,_⟩|⟨b,β,_,_,d,i⟩;cases h;exact⟨(t g).2 ⟨8020,β,(l _ _ d).2,i⟩,I.bnd _ _ g (l _ _ d).2 i⟩
end Go.Proofs.YtgedmeaemofdkaaGreat
namespace Go.Proofs.YtgedmeaemofdkaaGreat
open Go.Sx
def Z3J(h:Heap):¬ (Z6 h 0).2=0:=by
 unfold Z6;split;have:¬ (Z4 h.C 0).2.2=0:=by(unfold Z4;split;rw[if_neg oq];simp;simp)
 rw[if_neg this];simp;simp
def ZgA{h:Heap}(d:Z9 h=La){i o:Int}(hi:0<=i/\i<h.P.length)(m:0<=o/\o<h.C.pw)(e:(Z6 h (Bf h i o)).2=0):(pg h i).K=2->o=0/\Z5 (Z6 h (Bf h i o)).1=(pg h i).U:=by
 have g:=B6 d;have hq:=Iw.1 d;have j:Bf h i o=4096+(i*h.C.pw+o):=by(unfold Bf address;rw[if_pos g.1,if_pos (by unfold inB;simp;omega)])
 have f:=Dz (c:=h.C) (i:=i) (o:=o) g.1 oq m;rw[<-j]at f;unfold Z6 at e⊢;rw[if_pos d,f]at e⊢;simp only[if_true]at e⊢;intro l;have b:(h.P.getD i.toNat O).K=2:=l;split at e;rename_i k;rw[if_pos k];split at e;simp at e;rename_i a;rw[if_neg a];simp only[b,not_or,not_and]at a;have:=a.2;simp only[true_and,not_or,Classical.not_not,forall_const]at this;exact⟨this.1,this.2⟩;simp at e
def Z5T{h:Heap}(hp:Z9 h=La){i:Int}(hi:0<=i/\i<h.P.length):∀(f:Nat) (o:Int),0<=o->((pg h i).K=2->o=0) -> ((EY h i f o).2=La->Ew h i f o=M ((EY h i f o).1.map (·.addr)))/\((EY h i f o).2=Lc->Ew h i f o=Lb)
 |0,o,_,_=>⟨λ_=>rfl,λh=>by cases h⟩
 |f+1,o,h0,hk=>by
  unfold EY Ew;by_cases ho:o<(pg h i).U
  .rw[if_pos ho,if_pos ho];by_cases ha:(address h.C i o).2=0
   .by_cases hh:(Z6 h (Bf h i o)).2=0
    .rw[if_pos ⟨ha,hh⟩,if_pos hh];have hpw:o<h.C.pw:=by
      unfold address at ha;split at ha
      .split at ha
       .rename_i hb;unfold inB at hb;simp at hb;omega
       .simp at ha
      .simp at ha
     have h2:=ZgA hp hi ⟨h0,hpw⟩ hh;by_cases hk2:(pg h i).K=2
     .rw[if_pos hk2];have e:EY h i f (o+Z5 (Z6 h (Bf h i o)).1)=([],La):=by
       have:=h2 hk2;cases f with|zero=>rfl|succ f=>unfold EY;rw[if_neg oq]
      rw[e];exact⟨λ_=>rfl,λh=>by cases h⟩
     .rw[if_neg hk2];have sz:=Ip (Z6 h (Bf h i o)).1;obtain⟨i1,i2⟩:=Z5T hp hi f (o+Z5 (Z6 h (Bf h i o)).1) oq (λh=>absurd h hk2);exact⟨λh=>by rw[i1 h];rfl,λh=>by rw[i2 h];rfl⟩
    .rw[if_neg (λq=>hh q.2),if_neg hh];exact⟨λh=>(by cases h),λ_=>rfl⟩
   .have e:Bf h i o=0:=by
     unfold Bf address at *;split at ha
     .rename_i hv;split at ha
      .simp at ha
      .rename_i hb;rw[if_pos hv,if_neg hb]
     .rename_i hv;rw[if_neg hv]
    rw[if_neg (λq=>ha q.1),if_neg (by rw[e];exact Z3J h)];exact⟨λh=>(by cases h),λ_=>rfl⟩
  .rw[if_neg ho,if_neg ho];exact⟨λ_=>rfl,λh=>(by cases h)⟩
def Z71{h i}:∀{f:Nat} {o:Int},∀x∈(EY h i f o).1,x.hd=(Z6 h x.addr).1/\(Z6 h x.addr).2=0/\∃o,x.addr=Bf h i o
 |0,o,x,hx=>by simp[EY]at hx
 |f+1,o,x,hx=>by
  unfold EY at hx;split at hx
  .split at hx
   .rename_i a;rcases Lo.1 hx with rfl|hx
    .exact⟨rfl,a.2,o,rfl⟩
    .exact Z71 x hx
   .simp at hx
  .simp at hx
def Z8N{h i}:∀{f:Nat} {o:Int},(EY h i f o).1.length<=f
 |0,o=>by simp[EY]
 |f+1,o=>by
  unfold EY;split
  .split
   .have:=Z8N (h:=h) (i:=i) (f:=f) (o:=o+Z5 (Z6 h (Bf h i o)).1);simp only[List.length_cons];omega
   .simp
  .simp
def Z41{h:Heap}(hp:Z9 h=La){i:Int}(hi:0<=i/\i<h.P.length):Ze h i=((BX h i).1.map (·.addr),(BX h i).2):=by
 have hk:=(En hp (j:=i.toNat) oq);unfold Ze BX Hn;rw[if_pos hp,if_pos hi];by_cases h1:(pg h i).K=0\/(pg h i).K=3;have e:(if(pg h i).K=1\/(pg h i).K=2 then EY h i 256 0 else([],La))=([],La):=if_neg oq;rw[if_pos h1,e];rfl;have h2:(pg h i).K=1\/(pg h i).K=2:=by(have:0<=(pg h i).K/\(pg h i).K<=3:=⟨hk.2.2.2.2.1,hk.2.2.2.2.2.1⟩;omega)
 rw[if_neg h1,if_pos h2];obtain⟨i1,i2⟩:=Z5T hp hi 256 0 oq (λ_=>rfl);cases e:(EY h i 256 0).2 with|true=>rw[i1 e];rfl|false=>rw[i2 e];rfl
def Od(h:Heap) i:(BX h i).1.length<=256:=by unfold BX Hn;split;split;exact Z8N;simp;simp
def Z5f{h i}:∀x∈(BX h i).1,x.hd=(Z6 h x.addr).1/\(Z6 h x.addr).2=0/\∃o,x.addr=Bf h i o:=by intro x a;unfold BX Hn at a;split at a;split at a;exact Z71 x a;simp at a;simp at a
def CW(h:Heap):Nat->Nat->List Found×Int|0,_=>([],0)|f+1,i=>if(BX h i).2=0 then(if(CW h f (i+1)).2=0 then((BX h i).1++(CW h f (i+1)).1,0)else([],(CW h f (i+1)).2))else([],(BX h i).2)
def CH(h:Heap):List Found×Int:=if Z9 h=La then CW h h.P.length 0 else([],1)
def Z9z{h:Heap}(a:Z9 h=La):∀(f i:Nat),i+f<=h.P.length->Cp h f i=((CW h f i).1.map (·.addr),(CW h f i).2)
 |0,i,_=>rfl
 |f+1,i,hi=>by
  unfold Cp CW;rw[Z41 a (i:=i) oq,Z9z a f (i+1) oq];simp only;split
  .split
   .simp
   .rfl
  .rfl
def OJ(h:Heap):CN h=((CH h).1.map (·.addr),(CH h).2):=by unfold CN CH;split;rename_i a;exact Z9z a _ _ oq;rfl
def ZcK(h:Heap):∀(f i:Nat),¬ (CW h f i).2=0->(CW h f i).1=[]
 |0,i,e=>absurd rfl e
 |f+1,i,e=>by
  unfold CW at e⊢;split at e
  .rename_i a;rw[if_pos a];split at e
   .exact absurd rfl e
   .rename_i b;rw[if_neg b]
  .rename_i a;rw[if_neg a]
def Z7L{h}:∀(f i:Nat),∀x∈(CW h f i).1,x.hd=(Z6 h x.addr).1/\(Z6 h x.addr).2=0
 |0,i,x,hx=>by simp[CW]at hx
 |f+1,i,x,hx=>by
  unfold CW at hx;split at hx
  .split at hx
   .rcases Xf.1 hx with hx|hx
    .exact⟨(Z5f x hx).1,(Z5f x hx).2.1⟩
    .exact Z7L f (i+1) x hx
   .simp at hx
  .simp at hx
def Z37{h}:∀x∈(CH h).1,x.hd=(Z6 h x.addr).1/\(Z6 h x.addr).2=0:=by intro x a;unfold CH at a;split at a;exact Z7L _ _ x a;simp at a
def Z56(h:Heap):∀(f i:Nat),(CW h f i).1.length<=256*f
 |0,i=>by simp[CW]
 |f+1,i=>by
  have:=Od h i;have:=Z56 h f (i+1);unfold CW;split
  .split
   .simp;omega
   .simp
  .simp
def Zj7(h:Heap):(CH h).1.length<=16384:=by unfold CH;split;rename_i a;have:=Z56 h h.P.length 0;have:=B6 a;omega;simp
end Go.Proofs.YtgedmeaemofdkaaGreat
namespace Go.Proofs.YtgedmeaemofdkaaGreat
open Go.Sx Go.RowKit
def Zc9{h i}(e:(Hn h i).2=La):BX h i=((Hn h i).1,0):=if_pos e
def Zjg{h i}(e:(Hn h i).2=Lc):BX h i=([],19):=if_neg (by rw[e];simp)
theorem OG{w00 X}(K:Kept (λ_=>False) w00 X){g:Nat}{o}(hg:w00.heap.size<=g):Kept (λ_=>False) w00 (X.putObj g o):=by refine⟨K.os,K.tape,K.output,by rw[Ly];exact K.size,λk a _=>by rw[Lj oq];exact K.block k a id,λk a=>?_⟩;have:=K.rows k a;grind[rows,Lj]
theorem ZiD{w00 X}(K:Kept (λ_=>False) w00 X){g:Nat}{cs}(hg:w00.heap.size<=g):Kept (λ_=>False) w00 (X.setRow g cs):=by refine⟨K.os,K.tape,K.output,by have:=K.size;simp_all,λk a _=>by rw[setRow_other X g k _ oq];exact K.block k a id,λk a=>?_⟩;have:=K.rows k a;grind[rows,setRow_other]
theorem kept_alloc{w00 X}(K:Kept (λ_=>False) w00 X) o:Kept (λ_=>False) w00 (X.alloc o):=by have hs:=K.size;refine⟨K.os,K.tape,K.output,by simp;omega,λk a _=>by rw[Lz _ _ _ oq];exact K.block k a id,λk a=>?_⟩;have:=K.rows k a;grind[rows,Lz]
def Zlo{X:World}{l g:Nat}{x y:Option (List Deferred)}(h:X.heap[l]?=M (.deferred x)):rows (X.putObj l (.deferred y)) g=rows X g:=by grind[rows,Lx,Lj]
def Zjo{X:World}{l g:Nat}{x y:Loop}(h:X.heap[l]?=M (.loop x)):rows (X.putObj l (.loop y)) g=rows X g:=by grind[rows,Lx,Lj]
def Io{a:Act}{k:Nat}{v:Value}(h:a.tmps[k]?=M v):a.eval (.tmp k)=v:=by show a.tmps.getD k undef=v;simp_all
def SJ{a:Act}{k d:Nat}{u v:Value}(h:a.tmps[k]?=M v)(hk:d≠k):(a.put (M d) u).tmps[k]?=M v:=by show(a.tmps.setIfInBounds d u)[k]?=M v;grind
def AK{a:Act}{d:Nat}{u}(h:d<a.tmps.size):(a.put (M d) u).tmps[d]?=M u:=by show(a.tmps.setIfInBounds d u)[d]?=M u;grind
def Ze8{W:World}{g6:Nat}(k:W.heap[g6]?=M (.cells #[.slice Lb 0 0] 206 (0,0)))(c:List (Nat×Obj))(r:∀p∈c,W.heap[p.1]?=M p.2/\p.1≠g6):LJ g6 c (λg=>g=g6) [] W:=by
 have l6:g6<W.heap.size:=(Lm.1 k).1;let ρ:ZQ:=λb=>if b=6 then M ⟨M g6,1,1⟩else if b=8020 then M ⟨Lb,4,0⟩else Lb;have hρ:∀b β,ρ b=M β->(b=6/\β=⟨M g6,1,1⟩)\/(b=8020/\β=⟨Lb,4,0⟩):=by grind
 have n:∀g,g=g6↔∃b β,ρ b=M β/\β.g=M g:=by(intro g;constructor;rintro rfl;exact⟨6,_,rfl,rfl⟩;grind)
 have hg:∀b β g,ρ b=M β->β.g=M g->b=6/\g=g6:=by grind
 refine⟨ρ,n,⟨Kept.refl _ _,λb b' β β' g _ _ e f q3 q4=>by grind,λ_ _ _ _ _ _ h=>h,λb β g e f=>by grind,λb β g e f=>.inr ⟨b,β,e,f⟩,λ_ h=>h.elim,λ_ h=>h.elim,λb B q=>?_,λb d _=>?_,⟨by decide,λ_ _ _ h=>h⟩⟩,⟨1,1,rfl⟩,λb β h=>?_,λb β g e f=>?_,λp j=>r p j⟩;simp only[Ag,Xy,C1]at q;split at q;rename_i d;cases q;subst d;exact⟨_,rfl,rfl,rfl,by simp[big],by simp,.inl ⟨rfl,rfl⟩⟩;split at q;rename_i d;cases q;subst d;refine⟨_,rfl,rfl,rfl,g6,_,rfl,k,rfl,λi v h=>?_,λo a v l m=>?_⟩;rcases i with _|i<;>simp at h;subst h;rfl;rcases o with _|o<;>simp at l m;subst l;subst m;exact .ow (β:=⟨Lb,4,0⟩) rfl (Lk _) (by simp[big]) (.inl rfl);cases q;all_goals grind[rows]
def Z9I{w00 W}{Im Im':Nat->Prop}{v4 v5:Value}{l:List Found}{e:Int}(K:Kept (λ_=>False) w00 W)(f:∀g,Im' g->w00.heap.size<=g/\g<W.heap.size)(j:CR W Im' (.sl 4 (l.map Found.dv)) v4)(m:v5=.int .i64 e) :RG w00 Im La (.tu [EI l,nI e]) [] (.tuple #[v4,v5]) W:=by subst m;refine⟨K,λ_=>Lb,Im',λg c=>.inr (f g c).1,λg c=>(f g c).2,λ_ _ _ h=>(by cases h),λ_ _ _ _ _ h=>(by cases h),λ_ _ h=>(by cases h),λk B h=>(by simp at h),.tu _ _ rfl λi a v b d=>?_⟩;rcases i with _|_|i<;>simp at b d;subst b;subst d;exact .d j;subst b;subst d;exact .d (.sc _ rfl)
def ZfT{h:Heap}{i:Int}(hw:Zx h.W)(hp:Z9 h=La)(hi:0<=i/\i<h.P.length){w00 w4}{Im Im4:Nat->Prop}{a4:Act}{g4 g5 g6:Nat}{u4 u5 p1 p2:Value}(K:Kept (λ_=>False) w00 w4)(ha:a4.tmps.size=22)(t4:a4.tmps[4]?=M (.pointer (M ⟨g4,0,Lb⟩)))(t5:a4.tmps[5]?=M (.pointer (M ⟨g5,0,Lb⟩)))(t6:a4.tmps[6]?=M (.pointer (M ⟨g6,0,Lb⟩)))(t11:a4.tmps[11]?=M (.func (.func 234) #[] #[p1,p2]))(hd:a4.defers=[])(l4:w00.heap.size<=g4)(l5:w00.heap.size<=g5)(n45:g4≠g5)(n46:g4≠g6)(n56:g5≠g6)(l6:w00.heap.size<=g6)(c4:w4.heap[g4]?=M (.cells #[u4] 206 (0,0)))(c5:w4.heap[g5]?=M (.cells #[u5] 32 (0,0)))(c6:w4.heap[g6]?=M (.cells #[.slice Lb 0 0] 206 (0,0)))(hIm:∀g,Im4 g->g<w4.heap.size/\g≠g6)(r1:Zj (λ_=>Lb) w4 Im4 (.rp h.dvs 0) p1)(r2:Zj (λ_=>Lb) w4 Im4 (.rp [Zq i] 0) p2){Q:Exit->Act->World->Prop}(hQ:bodyPostM Lf 10 prog f183 (λe w'=>∃v,e=Ending.returned v/\RG w00 Im La (AV.tu [EI (BX h i).1,nI (BX h i).2]) [] v w')=Q) :(Zi f183 0).wpIn Lf 10 prog (Exit.then ((L0 (.region 8 (BM f183 8) Lc) .ret).wpIn Lf 10 prog Q) Q) a4 w4:=by
 have hs4:=K.size;rw[show Zi f183 0=.block 0 (.rangeFunc (.tmp 11) #[12,13] (HF f183 0) (Hp f183 0))from by kernel_rfl];refine wpIn_block (wpIn_rangeFunc ?_);intro fn hfn;have q4:g4<w4.heap.size:=(Lm.1 c4).1;have q5:g5<w4.heap.size:=(Lm.1 c5).1;have q6:g6<w4.heap.size:=(Lm.1 c6).1;obtain⟨D,hD⟩:∃D,w4.heap.size=D:=⟨_,rfl⟩;obtain⟨W1,hW1⟩:∃W1,(w4.alloc (.deferred (M []))).alloc (SR f183 fn a4.tmps D .ready Lb)=W1:=⟨_,rfl⟩;have old:∀{g:Nat},g<D->W1.heap[g]?=w4.heap[g]?:=λ{g} hg=>by(grind[Lz])
 have atD:W1.heap[D]?=M (.deferred (M [])):=by grind[Lz,Xk]
 have atL:W1.heap[D+1]?=M (SR f183 fn a4.tmps D .ready Lb):=by(have:=Xk (w4.alloc (.deferred (M []))) (SR f183 fn a4.tmps D .ready Lb);rw[World.size_alloc,hD]at this;rw[<-hW1];exact this)
 have z1:W1.heap.size=D+2:=by rw[<-hW1];simp;omega
 have K1:Kept (λ_=>False) w00 W1:=by grind[kept_alloc]
 have E1:Sx.Ext Im4 w4 W1:=⟨by omega,λg hg=>old (by grind),λg hg=>by grind[rows]⟩;have J0:LK w00 g6 [(D+1,SR f183 fn a4.tmps D .ready Lb),(D,.deferred (M [])),(g4,.cells #[u4] 206 (0,0)),(g5,.cells #[u5] 32 (0,0))] (λg=>g=g6) [] W1:=by(refine⟨Ze8 (by grind) _ λp hpp=>?_,K1,λg hg=>by omega⟩;simp only[Lo,Lu,or_false]at hpp;rcases hpp with rfl|rfl|rfl|rfl;grind;grind;grind;grind)
 have RR:=ZmG (w00:=w00) (fn:=fn) (a0:=a4.tmps) (D:=D) (l:=D+1) (n:=8) (g4:=g4) (g5:=g5) (g6:=g6) (u4:=u4) (u5:=u5) ha t4 t5 t6 n45 l4 l5 oq;have v11:=Io t11;refine⟨D+1,[{target:=.collected D,args:=#[]}],W1,{target:=.fn (.func 234) #[p1,p2],args:=#[Gw (D+1)]},W1,234,#[Gw (D+1)] ++ #[p1,p2],W1, ?_, ?_,λ_ _=>trivial, ?_,λ_=>by decide, ?_⟩;rw[<-hW1,<-hD];exact run_enterLoop_outer _ _ _ _ _;simp[resolve,t11,LN,rangeCall,Gw,go_sem];have:=RY (P:=prog) (f:=234) kr (#[Gw (D+1)] ++ #[p1,p2]) W1;grind[invoke];refine(ZjT h i (D+1) 8 hw hp hi RR (Im:=Im4) (λg hg=>⟨by grind,(hIm g hg).2⟩) (r1.mono E1 (λ_ h=>h) (λ_ _ h=>h) (λ_ _ _ h=>nomatch h)) (r2.mono E1 (λ_ h=>h) (λ_ _ h=>h) (λ_ _ _ h=>nomatch h)) J0).mono ?_;rintro e W2 ⟨⟨v,rfl⟩,hh⟩;rcases hh with⟨e1,A,J2⟩|⟨e1,x1,x2,x3,x4,x5⟩;obtain⟨sv,s1,s2,s3,Im',s4,s5⟩:=Zgj J2;obtain⟨⟨ρ,_,_,_,_,_,hpp⟩,K2,hge⟩:=J2;have pl:=hpp (D+1,SR f183 fn a4.tmps D .ready Lb) pq;have pD:=hpp (D,.deferred (M [])) pq;have p4:=hpp (g4,.cells #[u4] 206 (0,0)) pq;have p5:=hpp (g5,.cells #[u5] 32 (0,0)) pq;have n6:∀{g:Nat},¬ A g->g6≠g:=λhg e=>hg (e▸s3);refine⟨Lb,_,run_endLoop pl.1 pq, ?_⟩;show(L0 (.region 8 (BM f183 8) Lc) .ret).wpIn Lf 10 prog Q {tmps:=a4.tmps,defers:=[{target:=.collected D,args:=#[]}]++a4.defers} _;rw[hd];generalize hW3:W2.putObj (D+1) _=W3;have o3:∀{g:Nat},g≠D+1->W3.heap[g]?=W2.heap[g]?:=λ{g} hg=>by grind[Lj]
 have K3:Kept (λ_=>False) w00 W3:=by grind[OG]
 have z3:W3.heap.size=W2.heap.size:=by grind[Ly]
 have d6:W3.heap[g6]?=M (.cells #[sv] 206 (0,0)):=by grind
 have d4:W3.heap[g4]?=M (.cells #[u4] 206 (0,0)):=by grind
 have d5:W3.heap[g5]?=M (.cells #[u5] 32 (0,0)):=by grind
 have dD:W3.heap[D]?=M (.deferred (M [])):=by grind
 refine wpIn_seq (wpIn_region ?_);rw[show Lq (BM f183 8).size=[0,1,2]from by kernel_rfl];refine Nj (o:=(BM f183 8).getD 0 O) kr kr (IR (ro:=Lb) (by intro c h;cases h) (Sn (ZhH (t:=206) (x:=.tmp 6) kr (Io t6) d6 s2 kr) ?_));have e4:(W3.setRow g4 #[sv]).heap[g4]?=M (.cells #[sv] 206 (0,0)):=Z0H d4;have f5:(W3.setRow g4 #[sv]).heap[g5]?=M (.cells #[u5] 32 (0,0)):=by grind[setRow_other]
 refine Nj (o:=(BM f183 8).getD 1 O) kr kr (IR (ro:=Lb) (by intro c h;cases h) (Oj (OP (t:=206) (x:=.tmp 4) (y:=.tmp 21) (v:=sv) kr (Io (SJ t4 dd)) (Io (AK (by grind))) d4 s2 kr) ?_));refine Nj (o:=(BM f183 8).getD 2 O) kr kr (IR (ro:=Lb) (by intro c h;cases h) (Oj (OP (t:=32) (x:=.tmp 5) (y:=.const (.int .i64 0)) (v:=.int .i64 0) kr (Io (SJ t5 dd)) rfl f5 rfl kr) ?_));generalize hW5:(W3.setRow g4 #[sv]).setRow g5 #[.int .i64 0]=W5;have o5:∀{g:Nat},g≠g4->g≠g5->W5.heap[g]?=W3.heap[g]?:=λ{g} h k=>by(grind[setRow_other])
 have m4:g4≠D:=by omega
 have m5:g5≠D:=by omega
 have K5:Kept (λ_=>False) w00 W5:=by grind[ZiD]
 have z5:W5.heap.size=W2.heap.size:=by grind[XJ]
 refine wpIn_ret ?_;show Q .ret _ W5;rw[<-hQ,Zc9 e1];refine Z7R (g4:=g4) (g5:=g5) (v4:=sv) (v5:=.int .i64 0) (Io (a:={tmps:=_,defers:=[]}) (SJ t4 dd)) (Io (a:={tmps:=_,defers:=[]}) (SJ t5 dd)) ?_ ?_ s2 rfl ?_ ⟨_,rfl,Z9I (Im':=Im') (OG K5 oq) (λg hg=>?_) (s5.mono ⟨?_,λg hg=>?_,λg hg=>?_⟩ (λ_ h=>h)) rfl⟩;grind[setRow_other];grind[Z0H];grind;grind[Ly];simp_all;grind[Lj];rw[Zlo (by rw[o5 m4.symm m5.symm];exact dD),<-hW5,AA _ g5 #[u5] #[.int .i64 0] _ f5 rfl,AA _ g4 #[u4] #[sv] _ d4 rfl,<-hW3,Zjo pl.1]
 .refine⟨M .ret,_,run_endLoop x1 pq, ?_⟩;refine wpIn_ret ?_;show Q .ret {tmps:=a4.tmps,defers:=[{target:=.collected D,args:=#[]}]++a4.defers} _;rw[hd,<-hQ,Zjg e1];refine Z7R (g4:=g4) (g5:=g5) (v4:=.slice Lb 0 0) (v5:=.int .i64 19) (Io (a:={tmps:=_,defers:=[]}) t4) (Io (a:={tmps:=_,defers:=[]}) t5) ?_ ?_ rfl rfl ?_ ⟨_,rfl,Z9I (Im':=λ_=>False) (OG (OG x5 oq) oq) (λ_ h=>h.elim) (.slNil _ _ _) rfl⟩;all_goals grind[Lj]
def Oz(h:Heap)(i:Int)(hw:Zx h.W)(hp:Z9 h=La)(hi:0<=i/\i<h.P.length):GP 183 [h.av,nI i] La (.tu [EI (BX h i).1,nI (BX h i).2]) []:=by
 intro q Im vs b1 b7 b2;rw[<-callsIn_wide (n:=10)];refine callsIn_of_wp_marks func183 (c:=HD f183) kr trivial ?_ rfl;have S0:Sx.Sys Gl Im q (tm 22 [(0,h.av),(1,nI i)]) (C1 []) 1 {tmps:=vs++LI (Tryz.f183.ntmps-vs.size) undef,defers:=[]} q:=by(have a7:vs.size=2:=b7;refine⟨_,Im,Sx.Inv.empty b1 (Lk 1),⟨by rw[a7];simp[a7];kernel_rfl,λk y v hy hv=>?_,rfl⟩⟩;rw[show tm 22 [(0,h.av),(1,nI i)]=[h.av,nI i]++Lg 20 .any from by kernel_rfl,LR]at hy;rw[LH]at hv;split at hy;grind;have:=Ls hy;rw[(Lw.1 this).2];exact .any _)
 generalize hR:(λe w'=>∃v,e=Ending.returned v/\RG q Im La (AV.tu [EI (BX h i).1,nI (BX h i).2]) [] v w')=R;generalize hQ:bodyPostM Lf 10 prog f183 R=Q;refine ZaX h i 10 Q _ _ _ _ _ S0 ?_;rintro a1 w1 ⟨ρ1,d,a,T1⟩;obtain⟨v2,t2,r2⟩:=T1.at (t:=2) (x:=.pt 8002 0 0) rfl;obtain⟨v4,t4,r4⟩:=T1.at (t:=4) (x:=.pt 8004 0 0) rfl;obtain⟨v5,t5,r5⟩:=T1.at (t:=5) (x:=.pt 8005 0 0) rfl;obtain⟨β2,m2,n2⟩:=a.blk 8002 _ rfl;obtain⟨β4,m4,n4⟩:=a.blk 8004 _ rfl;obtain⟨β5,m5,n5⟩:=a.blk 8005 _ rfl;have b9:Zj (λ_=>Lb) w1 (λg=>d g\/β2.g=M g) (.rp h.dvs 0) v2:=TR m2 n2 r2 (λ_ h=>.inl h) (λ_ h=>.inr h);obtain⟨l,s4,k4,e4,rfl⟩:=Sp r4 rfl;obtain⟨m,s5,k5,e5,rfl⟩:=Sp r5 rfl;rw[m4]at e4;cases e4;rw[m5]at e5;cases e5;have b0:l≠m:=by(rintro rfl;have:=a.inj 8004 8005 _ _ l ⟨_,rfl,by simp⟩ ⟨_,rfl,by simp⟩ m4 m5 rfl rfl;omega)
 have l4:q.heap.size<=l:=(a.own 8004 _ l m4 rfl).elim (·.1) (λh=>h.no.elim);have l5:q.heap.size<=m:=(a.own 8005 _ m m5 rfl).elim (·.1) (λh=>h.no.elim);have cell:∀{β:Bi} {ty g:Nat} {x:AV},RelB ρ1 w1 d β (.box ty [x])->β.g=M g->∃u,w1.heap[g]?=M (.cells #[u] ty (0,0)):=by
  intro β ty g x hb b;obtain⟨_,_,g',cs,q1,q2,q3,_⟩:=hb;rw[b]at q1;cases q1;have hc:cs.size=1:=q3;exact⟨cs[0],by
   have:cs=#[cs[0]]:=by grind
   grind⟩
 obtain⟨u4,c4⟩:=cell n4 rfl;obtain⟨u5,c5⟩:=cell n5 rfl;have er:rest prog 10 1 (HD f183) Q a1 w1=(LM 1 (BM f183 1) Lc).wpIn Lf 10 prog (Exit.then ((L0 (.seq (.region 2 (BM f183 2) Lc) (Zi f183 0)) (.seq (.region 8 (BM f183 8) Lc) .ret)).wpIn Lf 10 prog Q) Q) a1 w1:=by kernel_rfl
 rw[er];refine wpIn_region ?_;rw[show Lq (BM f183 1).size=[0]from by kernel_rfl];refine Nj (o:=(BM f183 1).getD 0 O) kr kr (IR (ro:=Lb) (by intro c h;cases h) (Sn (Zih (t:=206) (z:=.slice Lb 0 0) kr kr) ?_));show(L0 (.seq (.region 2 (BM f183 2) Lc) (Zi f183 0)) (.seq (.region 8 (BM f183 8) Lc) .ret)).wpIn Lf 10 prog Q (a1.put (M 6) (.pointer (M ⟨w1.heap.size,0,Lb⟩))) (w1.alloc (.cells #[.slice Lb 0 0] 206));obtain⟨w2,s⟩:∃w2,w1.alloc (.cells #[.slice Lb 0 0] 206)=w2:=⟨_,rfl⟩;rw[s];obtain⟨j,b6⟩:∃j,w1.heap.size=j:=⟨_,rfl⟩;rw[b6];have E2:Sx.Ext (λg=>d g\/β2.g=M g) w1 w2:=by(rw[<-s];refine Sx.Ext.alloc _ w1 _ ?_;rintro g (b|b);exact a.imb g b;exact a.bnd _ _ g m2 b)
 have z2:w2.heap.size=w1.heap.size+1:=by rw[<-s];simp
 have K2:Kept (λ_=>False) w1 w2:=by(rw[<-s];exact⟨rfl,rfl,rfl,by simp,λk hk _=>Lz _ _ _ hk,λk hk=>by grind[rows,Lz]⟩)
 have c6:w2.heap[j]?=M (.cells #[.slice Lb 0 0] 206 (0,0)):=by grind[Xk]
 have T2:Cy [] (λ_=>Lb) w2 (λg=>d g\/β2.g=M g) (tm 22 [(1,nI i),(2,.rp h.dvs 0),(4,ptr l),(5,ptr m),(6,ptr j)]) (a1.put (M 6) (.pointer (M ⟨j,0,Lb⟩))):=by(have A1:Cy [] ρ1 w1 (λg=>d g\/β2.g=M g) _ a1:=T1.mono (Sx.Ext.refl _ _) (λ_ h=>.inl h) (λ_ _ h=>h) a.bnd;have A2:=((((A1.reSet 2 .any (λv _=>.any v)).reSet 4 .any (λv _=>.any v)).reSet 5 .any (λv _=>.any v)).pure kr);have A3:=((A2.reSet 2 (.rp h.dvs 0) (λv hv=>by grind)).reSet 4 (ptr l) (λv hv=>by rw[t4]at hv;cases hv;simp only[XG,XD];exact .d (.sc _ rfl))).reSet 5 (ptr m) (λv hv=>by rw[t5]at hv;cases hv;simp only[XG,XD];exact .d (.sc _ rfl));exact(A3.mono E2 (λ_ h=>h) (λ_ _ h=>h) (λ_ _ _ h=>nomatch h)).put 6 (Zj.d (CR.sc _ rfl)))
 have S2:Sx.Sys Gl (λg=>d g\/β2.g=M g) w2 (tm 22 [(1,nI i),(2,.rp h.dvs 0),(4,ptr l),(5,ptr m),(6,ptr j)]) (C1 []) 20 (a1.put (M 6) (.pointer (M ⟨j,0,Lb⟩))) w2:=by(refine⟨_,_,Sx.Inv.empty ?_ dd,T2⟩;rintro g (b|b);have:=a.imb g b;omega;have:=a.bnd _ _ g m2 b;omega)
 refine wpIn_seq (wpIn_seq (wpIn_region ?_));rw[show Lq (BM f183 2).size=[0,1]++[2]from by kernel_rfl];refine Dh (ro:=Lb) (hints:=[]) (out:=⟨tm 22 [(1,nI i),(2,.rp h.dvs 0),(4,ptr l),(5,ptr m),(6,ptr j),(9,h.av),(10,nI i)],C1 [],[],[]⟩) kr S2 trivial (λp hp=>by simp at hp) ?_;rintro w w3 ⟨ρ3,a9,I3,r⟩;have r:=r.pure kr;have a0:(execOp w.eval ((BM f183 2).getD 2 O)).run prog w3=.ok (.enter 214 #[w.eval (.tmp 9),w.eval (.tmp 10)]) w3:=by
  have a6:((BM f183 2).getD 2 O).op=.call ⟨.value (.func 214),#[.tmp 9,.tmp 10],MP ((BM f183 2).getD 2 O)⟩:=by kernel_rfl
  have:=RY (P:=prog) (f:=214) kr #[w.eval (.tmp 9),w.eval (.tmp 10)] w3;have b3:w.eval (.func 214)=.func (.func 214) #[] #[]:=rfl;generalize (BM f183 2).getD 2 O=o at a6⊢;simp[execOp,a6,resolve,b3,LN,invoke,this]
 refine Nj (o:=(BM f183 2).getD 2 O) kr kr (IR (ro:=Lb) (by intro c h;cases h) ?_);unfold LC;rw[a0,Xj];refine(ZbS h i w3 a9 _ _ I3.imb (Ed r (.tmp 9)) (Ed r (.tmp 10))).mono ?_;rintro e w4 ⟨p1,p2,a2,rfl,K4,a4,b8,a8⟩;have a5:((BM f183 2).getD 2 O).dst=M 11:=by kernel_rfl
 rw[a5];have b4:l<j:=by grind
 have b5:m<j:=by grind
 have s1:=a.kept.size;have s3:=I3.kept.size;obtain⟨x4,y4,q4⟩:=r.at (t:=4) (x:=ptr l) rfl;obtain⟨x5,y5,q5⟩:=r.at (t:=5) (x:=ptr m) rfl;obtain⟨x6,y6,q6⟩:=r.at (t:=6) (x:=ptr j) rfl;rw[C3 q4]at y4;rw[C3 q5]at y5;rw[C3 q6]at y6;have hz:w.tmps.size=22:=r.size;have c1:∀{g:Nat},g<w2.heap.size->w4.heap[g]?=w2.heap[g]?:=λ{g} b=>by(rw[K4.block g oq id,I3.kept.no.block g b id])
 have c0:∀{g:Nat},g<w1.heap.size->w2.heap[g]?=w1.heap[g]?:=λ{g} b=>K2.block g b id;refine ZfT hw hp hi (w4:=w4) (Im4:=a2) (g4:=l) (g5:=m) (g6:=j) (u4:=u4) (u5:=u5) (p1:=p1) (p2:=p2) (RN (RN (RN a.kept.no K2 (λ_ h=>h.elim)) I3.kept.no (λ_ h=>h.elim)) K4 (λ_ h=>h.elim)) ?_ (SJ y4 dd) (SJ y5 dd) (SJ y6 dd) (AK oq) r.defers l4 l5 b0 oq oq oq ?_ ?_ ?_ (λg b=>?_) b8 a8 (by rw[hR];exact hQ);show(w.tmps.setIfInBounds 11 _).size=22;grind;grind;grind;grind;obtain⟨h1,h2⟩:=a4 g b;refine⟨h2, ?_⟩;rcases h1 with h1|h1;rcases I3.im0 g h1 with k|k|k;rcases k with k|k;have:=a.imb g k;omega;have:=a.bnd _ _ g m2 k;omega;omega;exact k.no.elim;omega
end Go.Proofs.YtgedmeaemofdkaaGreat
namespace Go.Proofs.YtgedmeaemofdkaaGreat
open Go.Sx
def Z1I{l:List Found}{i:Nat}(a:i<l.length):l.take (i+1)=l.take i++[l.getD i O]:=by rw[XC];simp[a]
def Ol(l:List Found)(i:Nat):Tg:=⟨tm 19 [(2,.d (.sl 0 [])),(3,.ow 16003),(6,EI l),(7,nI l.length),(8,nI i)],[(16003,.arr 35 1 (((l.take i).map (·.addr)).map wD))],60⟩
def Zj2(l:List Found)(i:Nat)(hl:l.length<=1048576)(b:i<l.length):CP (Zm f157 0) (Ol l i).st .nrm (Ol l (i+1)).st:=by
 have e:(l.take (i+1)).map (·.addr)=(l.take i).map (·.addr)++[(l.getD i O).addr]:=by rw[Z1I b,LS];rfl
 have en:((l.take i).map (·.addr)).length<=1048576:=by simp;omega
 let a:=l.getD i O;exact sF [(496016,16003)] (fO 5)<|Fh 16 [.els (Ld wD (Ld (λ(x:Found)=>x.addr) (Ll i l)++[a.addr]))]<|Ftb 9 (Le ((i:Int)<(l.length:Int)))<|Fek 10 Found.dv l (↑i) i<|Fs 15 (Ld wD [a.addr])<|Fa (by(simp[*];omega):(Ld wD (Ld (λ(x:Found)=>x.addr) (Ll i l))).length+(Ld wD [a.addr]).length<=2^30)<|Fa (ms:Ld wD (Ld (λ(x:Found)=>x.addr) (Ll i l))++Ld wD [a.addr]=Ld wD (Ld (λ(x:Found)=>x.addr) (Ll i l)++[a.addr]))<|Fx 17 i<|Fr (35:Int)<|Fa (by refine congrArg _ ?_;rw[e]:Ld wD (Ld (λ(x:Found)=>x.addr) (Ll i l)++[a.addr])=Ld wD (Ld (λ(x:Found)=>x.addr) (Ll (i+1) l))) Fz
def Zm8 l:CP (Zm f157 0) (Ol l l.length).st (.ext 0) (Tg.st ⟨tm 19 [(2,.d (.sl 0 [])),(3,.ow 16003)],[(16003,.arr 35 1 ((l.map (·.addr)).map wD))],60⟩):=by exact sF [] (fO 2)<|Ffb 9 (Le ((l.length:Int)<(l.length:Int)))<|Fr (35:Int)<|Fa (by refine congrArg _ ?_;refine congrArg _ ?_;simp[L4,Xd,Xe,LS,wD,iD]:Ld wD (Ld (λ(x:Found)=>x.addr) (Ll l.length l))=Ld wD (Ld (λ(x:Found)=>x.addr) l)) Fz
def Zl3(l:List Found)(hl:l.length<=1048576)  := Bp (S:=λj=>(Ol l j).st) l.length (by kernel_rfl) (λj a=>Zj2 l j hl a) (Zm8 l)
def Zaa(l:List Found)(hl:l.length<=1048576):GP 157 [EI l] La (Z2 (l.map (·.addr))) []:=by exact gF [] func157 []<|Fh 3 [.own]<|Fl 7 Found.dv l<|Fu (@Zl3 l aa)<|Fa (Hd _:Ce (Ld wD (Ld (λ(x:Found)=>x.addr) l))) Fz
def R4(h:Heap)(i:Int)(hw:Zx h.W)(hi:-9223372036854775808<=i/\i<=9223372036854775807):GP 134 [h.av,nI i] Lc (.tu [Z2 (Ze h i).1,nI (Ze h i).2]) []:=by
 cases hp:Z9 h with
 |false =>
  have a:Ze h i=([],1):=by unfold Ze;rw[if_neg (by rw[hp];simp)]
  rw[a];exact gF [] func134 []<|Fh 8 [.br La]<|Fc 10 (@Eg h)<|Fb ((!Z9 h)=La)<|Fnl Fz
 |true =>
  have po:=B6 hp;by_cases b:0<=i/\i<h.P.length;have a:=Z41 hp b;have el:=Od h i;by_cases e:(BX h i).2=0;rw[show Ze h i=(Ld (λ(x:Found)=>x.addr) (BX h i).1,(0:Int))from by rw[a,e]];exact gF [] func134 []<|Fh 12 [.br Lc]<|Fh 29 [.br Lc]<|Fc 10 (@Eg h)<|Fb ((!Z9 h)=Lc)<|FlG 19 (!decide (i<0)) Z0.dv h.P<|Fb ((Le (i<0)||Le ((h.P.length:Int)<=i))=Lc)<|Fc 25 (@Oz h i aa aa aa)<|Ffb 8 ((BX h i).2 != 0)<|Fc 32 (@Zaa ((BX h i).1) oq) Fz;have c:(BX h i).1=[]:=by(unfold BX at e⊢;split at e;exact absurd rfl e;rename_i d;rw[if_neg d])
  exact gF [] func134 (fO 5)<|Fh 8 [.br Lc]<|Fh 12 [.br Lc]<|Fc 10 (@Eg h)<|Fb ((!Z9 h)=Lc)<|FlG 19 (!decide (i<0)) Z0.dv h.P<|Fb ((Le (i<0)||Le ((h.P.length:Int)<=i))=Lc)<|Fc 25 (@Oz h i aa aa aa)<|Ftb 29 ((BX h i).2 != 0)<|Fnl (Fa (by rw[a,c];rfl:[]=Ld wD (Ze h i).1)<|Fa (by rw[a]:(BX h i).2=(Ze h i).2) Fz);have a:Ze h i=([],2):=by unfold Ze;rw[if_pos hp,if_neg b]
  rw[a];exact gF [] func134 []<|Fh 8 [.br Lc]<|Fh 12 [.br La]<|Fc 10 (@Eg h)<|Fb ((!Z9 h)=Lc)<|FlG 19 (!decide (i<0)) Z0.dv h.P<|Fb ((Le (i<0)||Le ((h.P.length:Int)<=i))=La)<|Fnl Fz
def DK(h:Heap)(i:Nat)(acc:List Found):Tg:=⟨tm 31 [(1,.pt 8001 0 0),(2,.d (.sl 0 [])),(3,nI 0),(4,.ow 24004),(13,nI h.P.length),(14,nI i)],[(24004,.arr 212 4 (acc.map Found.dv)),(8001,.box 28 h.cells)],60⟩
section
variable(h:Heap)(i:Nat)(acc:List Found)(c:Zx h.W)(b:Z9 h=La)(hl:h.P.length<=1048576)(a:acc.length<=1048576)
include c b hl a
theorem ZlK(hi:i<h.P.length)(e:(BX h i).2=0):CP (Zm f156 0) (DK h i acc).st .nrm (DK h (i+1) (acc++(BX h i).1)).st:=by have hn:=Od h i;exact sF [(512028,24004)] []<|Fh 28 [.els (Ld Found.dv (acc++(BX h (i:Int)).1))]<|Ftb 15 (Le ((i:Int)<(h.P.length:Int)))<|Fc 20 (@Oz h ((i:Int)) aa aa oq)<|Ffb 24 ((BX h (i:Int)).2 != 0)<|Fa (by(simp only[LA];omega):(Ld Found.dv acc).length+(Ld Found.dv (BX h (i:Int)).1).length<=2^30)<|Fa (ms:Ld Found.dv acc++Ld Found.dv (BX h (i:Int)).1=Ld Found.dv (acc++(BX h (i:Int)).1))<|Fx 29 i Fz
theorem Zgz(hi:i<h.P.length)(e:¬ (BX h i).2=0):CP (Zm f156 0) (DK h i acc).st .ret (Tg.st ⟨tm 31 [(2,.d (.sl 0 [])),(3,nI (BX h i).2)],[],60⟩):=by exact sF [] []<|Ftb 15 (Le ((i:Int)<(h.P.length:Int)))<|Fc 20 (@Oz h ((i:Int)) aa aa oq)<|Ftb 24 ((BX h (i:Int)).2 != 0) Fz
omit c b hl a in
theorem ZgE:CP (Zm f156 0) (DK h h.P.length acc).st (.ext 0) (Tg.st ⟨tm 31 [(2,.d (.sl 0 [])),(3,nI 0),(4,.ow 24004)],[(24004,.arr 212 4 (acc.map Found.dv))],60⟩):=by exact sF [] []<|Ffb 15 (Le ((h.P.length:Int)<(h.P.length:Int))) Fz
end
def Z4Y(h:Heap)(d:Zx h.W)(b:Z9 h=La)(hl:h.P.length<=1048576):∀(f i:Nat) (acc:List Found),i+f=h.P.length->acc.length+256*f<=1048576 -> ((CW h f i).2=0->Gm prog f156 0 (DK h i acc).st (.ext 0) (Tg.st ⟨tm 31 [(2,.d (.sl 0 [])),(3,nI 0),(4,.ow 24004)],[(24004,.arr 212 4 ((acc++(CW h f i).1).map Found.dv))],60⟩)) /\ (¬ (CW h f i).2=0->Gm prog f156 0 (DK h i acc).st .ret (Tg.st ⟨tm 31 [(2,.d (.sl 0 [])),(3,nI (CW h f i).2)],[],60⟩)):=by
 intro f;induction f with
 |zero =>
  intro i acc j _;have:i=h.P.length:=by omega
  subst this;refine⟨λ_=>?_,λe=>absurd rfl e⟩;rw[CW,L7];exact .endx (ZgE h acc)
 |succ f m =>
  intro i acc j hb;have hn:=Od h i;unfold CW;by_cases e:(BX h i).2=0;rw[if_pos e];have c:=ZlK h i acc d b hl oq oq e;obtain⟨k,l⟩:=m (i+1) (acc++(BX h i).1) oq qo;by_cases a:(CW h f (i+1)).2=0
  .rw[if_pos a];refine⟨λ_=>?_,λe=>absurd rfl e⟩;have:=k a;rw[Lr]at this;exact .next c this
  rw[if_neg a];exact⟨λe=>absurd e a,λ_=>.next c (l a)⟩;rw[if_neg e];exact⟨λg=>absurd g e,λ_=>.endr (Zgz h i acc d b hl oq oq e)⟩
def ZbG(h:Heap)(b:Zx h.W)(a:Z9 h=La)(hl:h.P.length<=64)(e:(CW h h.P.length 0).2=0):CP (Zi f156 0) (Tg.st ⟨tm 31 [(1,.pt 8001 0 0),(2,.d (.sl 0 [])),(3,nI 0),(4,.ow 24004),(13,nI h.P.length),(14,nI 0)],[(24004,.arr 212 4 []),(8001,.box 28 h.cells)],60⟩) .nrm (Tg.st ⟨tm 31 [(2,.d (.sl 0 [])),(3,nI 0),(4,.ow 24004)],[(24004,.arr 212 4 ((CW h h.P.length 0).1.map Found.dv))],60⟩):=
 ((Z4Y h b a oq h.P.length 0 [] oq qo).1 e).ext kr
def Zdr(h:Heap)(b:Zx h.W)(a:Z9 h=La)(hl:h.P.length<=64)(e:¬ (CW h h.P.length 0).2=0):CP (Zi f156 0) (Tg.st ⟨tm 31 [(1,.pt 8001 0 0),(2,.d (.sl 0 [])),(3,nI 0),(4,.ow 24004),(13,nI h.P.length),(14,nI 0)],[(24004,.arr 212 4 []),(8001,.box 28 h.cells)],60⟩) .ret (Tg.st ⟨tm 31 [(2,.d (.sl 0 [])),(3,nI (CW h h.P.length 0).2)],[],60⟩):=
 ((Z4Y h b a oq h.P.length 0 [] oq qo).2 e).ret kr
def Zj1(h:Heap)(hw:Zx h.W)(e:(CH h).2=0):GP 156 [h.av] La (.tu [.ow 0,nI 0]) [.arr 212 4 ((CH h).1.map Found.dv)]:=by
 have a:Z9 h=La:=by(unfold CH at e;split at e;assumption;simp at e)
 have po:=B6 a;have b:CH h=CW h h.P.length 0:=by rw[CH,if_pos a]
 rw[b]at e⊢;exact gF [24004] func156 []<|Fh 4 [.own]<|Fc 9 (@Eg h)<|Ffb 10 (!Z9 h)<|Fl 13 Z0.dv h.P<|Fu (@ZbG h aa aa oq aa)<|Fa (Oi _:Ce (Ld Found.dv (CW h h.P.length 0).1)) Fz
def Zgh(h:Heap)(hw:Zx h.W)(e:¬ (CH h).2=0):GP 156 [h.av] La (.tu [EI [],nI (CH h).2]) []:=by
 cases hp:Z9 h with
 |false =>
  have a:CH h=([],1):=by rw[CH,if_neg (by rw[hp];simp)]
  refine Zc [((9:Nat),[Hint.call La (bL (Z9 h)) []]),((10:Nat),[Hint.br La])] [] [] dd func156 [La] (φ:=GP 94 [h.av] La (bL (Z9 h)) []/\(!Z9 h)=La/\La=La/\([]:List (List DV))=[]/\[]=Ld Found.dv []/\(1:Int)=(CH h).2) ?_ kr kr;exact⟨(@Eg (h)),(by(simp only[bs];omega)),rfl,rfl,rfl,(by rw[a])⟩
 |true =>
  have po:=B6 hp;have a:CH h=CW h h.P.length 0:=by rw[CH,if_pos hp]
  rw[a]at e⊢;refine Zc [((9:Nat),[Hint.call La (bL (Z9 h)) []]),((10:Nat),[Hint.br Lc]),((4:Nat),[Hint.own]),((13:Nat),[Hint.int (h.P.length:Int)])] [((0:Nat),Tg.mk (tm (31:Nat) [((1:Nat),AV.pt (8001:Nat) (0:Nat) (0:Nat)),((2:Nat),AV.d (DV.sl (0:Nat) [])),((3:Nat),nI (0:Int)),((4:Nat),AV.ow (24004:Nat)),((13:Nat),nI (h.P.length:Int)),((14:Nat),nI (0:Int))]) [((24004:Nat),Z3.arr 212 (4:Nat) []),((8001:Nat),Z3.box 28 h.cells)] (60:Nat),Ex.ret,Tg.mk (tm (31:Nat) [((2:Nat),AV.d (DV.sl (0:Nat) [])),((3:Nat),nI (CW h h.P.length (0:Nat)).2)]) [] (60:Nat))] [] dd func156 [] (φ:=GP 94 [h.av] La (bL (Z9 h)) []/\(!Z9 h)=Lc/\Lc=Lc/\(↑(Ld Z0.dv h.P).length:Int)=(h.P.length:Int)/\CP (Zi f156 (0:Nat)) (Tg.mk (tm (31:Nat) [((1:Nat),AV.pt (8001:Nat) (0:Nat) (0:Nat)),((2:Nat),AV.d (DV.sl (0:Nat) [])),((3:Nat),nI (0:Int)),((4:Nat),AV.ow (24004:Nat)),((13:Nat),nI (h.P.length:Int)),((14:Nat),nI (0:Int))]) [((24004:Nat),Z3.arr 212 (4:Nat) []),((8001:Nat),Z3.box 28 h.cells)] (60:Nat)).st Ex.ret (Tg.mk (tm (31:Nat) [((2:Nat),AV.d (DV.sl (0:Nat) [])),((3:Nat),nI (CW h h.P.length (0:Nat)).2)]) [] (60:Nat)).st/\([]:List (List DV))=[]) ?_ kr kr;exact⟨(@Eg (h)),(by(simp only[bs];omega)),rfl,(by simp only[LA]),(@Zdr (h) aa aa oq aa),rfl⟩
def AZ(w:Z7)(a:Int):Z7:=if(Z6 w.j a).1.K=0\/a∈w.Q then w else⟨(GY w.j a (Z5 (Z6 w.j a).1)).1,w.old,w.T,w.Q,w.D,⟨w.rep.copied,w.rep.kept,w.rep.filled+1,w.rep.freed,w.rep.cleared,w.rep.steps⟩⟩
def Et(w:Z7)(l:List Int):Nat->Z7|0=>w|j+1=>AZ (Et w l j) (l.getD j O)
def fpg(w:Z7)(i:Int):Z7:=if ZJ w i=La then Et w (Ze w.j i).1 (Ze w.j i).1.length else w
def G8(w:Z7):Nat->Z7|0=>w|i+1=>fpg (G8 w i) i
def fiL(w:Z7)(i:Nat):Tg:=⟨tm 90 [(0,.pt 0 0 0),(14,nI w.j.P.length),(15,nI i)],[(0,w.evD)],3⟩
structure FilOk (w:Z7):Prop where
 ww:Zx w.j.W
 wl:w.j.W.length<=4096
 pl:w.j.P.length<=64
 ql:w.Q.length<=1048576
 pr:Z2T w
 fi:0<=w.rep.filled/\w.rep.filled<=1048576
def Zd0 w(i:Nat)(k:FilOk w)(hi:i<w.j.P.length)(c:ZJ w i=Lc):CP (Zm f80 0) (fiL w i).st .nrm (fiL w (i+1)).st:=by have pl:=k.pl;have pr:=k.pr;exact sF [] []<|Ftb 16 (Le ((i:Int)<(w.j.P.length:Int)))<|Fc 22 (@Z5j w ((i:Int)) aa)<|Ftb 23 (!ZJ w (i:Int))<|Fx 89 i Fz
def fjL(w:Z7)(l:List Int)(i j:Nat):Tg:=⟨tm 90 [(0,.pt 0 0 0),(14,nI w.j.P.length),(15,nI i),(35,Z2 l),(36,nI l.length),(37,nI j)],[(0,w.evD)],9⟩
def ZiJ w(l:List Int)(i j:Nat)(k:FilOk w)(hl:l.length<=4096)(hj:j<l.length)(ha:0<=l.getD j O/\l.getD j O<=16384)(o:(Z6 w.j (l.getD j O)).2=0)(c:(Z6 w.j (l.getD j O)).1.K=0\/l.getD j O∈w.Q):CP (Zm f80 2) (fjL w l i j).st .nrm (fjL w l i (j+1)).st:=by have ql:=k.ql;have ww:=k.ww;by_cases d:(Z6 w.j (l.getD j O)).1.K=0;let a:=l.getD j O;exact sF [] []<|Ftb 38 (Le ((j:Int)<(l.length:Int)))<|Fek 39 wD l (↑j) j<|Fc 47 (@IT w.j a aa oq)<|Fc 51 (@IB ((Z6 w.j a).2) aa)<|FcG 61 (!(Z6 w.j a).1.K==0) (λe=>by(try simp only[bs]at e);exact@Ey w.Q a aa)<|Ftb 62 ((Z6 w.j a).1.K==0||Le (l.getD j O∈w.Q))<|Fx 88 j Fz;have d2:=c.resolve_left d;let b:=l.getD j O;exact sF [] []<|Ftb 38 (Le ((j:Int)<(l.length:Int)))<|Fek 39 wD l (↑j) j<|Fc 47 (@IT w.j b aa oq)<|Fc 51 (@IB ((Z6 w.j b).2) aa)<|FcG 61 (!(Z6 w.j b).1.K==0) (λe=>by(try simp only[bs]at e);exact@Ey w.Q b aa)<|Ftb 62 ((Z6 w.j b).1.K==0||Le (l.getD j O∈w.Q))<|Fx 88 j Fz
def Zif w(l:List Int)(i j:Nat)(k:FilOk w)(hl:l.length<=4096)(hj:j<l.length)(ha:0<=l.getD j O/\l.getD j O<=16384)(o:(Z6 w.j (l.getD j O)).2=0)(c:¬ ((Z6 w.j (l.getD j O)).1.K=0\/l.getD j O∈w.Q))(e:(GY w.j (l.getD j O) (Z5 (Z6 w.j (l.getD j O)).1)).2=0)(pl:(GY w.j (l.getD j O) (Z5 (Z6 w.j (l.getD j O)).1)).1.P=w.j.P):CP (Zm f80 2) (fjL w l i j).st .nrm (fjL (AZ w (l.getD j O)) l i (j+1)).st:=by
 have ql:=k.ql;have ww:=k.ww;have fi:=k.fi;have c1:¬ (Z6 w.j (l.getD j O)).1.K=0:=λq=>c (.inl q);have c2:l.getD j O∉w.Q:=λq=>c (.inr q);have sb:=Ip (Z6 w.j (l.getD j O)).1;have mp:=Hy ww (l.getD j O);have e7:AZ w (l.getD j O)=⟨(GY w.j (l.getD j O) (Z5 (Z6 w.j (l.getD j O)).1)).1,w.old,w.T,w.Q,w.D,⟨w.rep.copied,w.rep.kept,w.rep.filled+1,w.rep.freed,w.rep.cleared,w.rep.steps⟩⟩:=by rw[AZ,if_neg c]
 unfold fjL;rw[e7];simp only;rw[pl];exact sF [] []<|Ftb 38 (Le ((j:Int)<(l.length:Int)))<|Fek 39 wD l (↑j) j<|Fc 47 (@IT w.j (l.getD j O) aa oq)<|Fc 51 (@IB ((Z6 w.j (l.getD j O)).2) aa)<|FcG 61 (!(Z6 w.j (l.getD j O)).1.K==0) (λhg=>by(try simp only[bs]at hg);exact@Ey w.Q (l.getD j O) aa)<|Ffs 62 ((Z6 w.j (l.getD j O)).1.K==0||Le (l.getD j O∈w.Q))<|Fc 71 (@EX ((Z6 w.j (l.getD j O)).1) aa)<|Fc 72 (@Zda w.j (l.getD j O) (Z5 (Z6 w.j (l.getD j O)).1) aa oq oq)<|Fc 78 (@IB ((GY w.j (l.getD j O) (Z5 (Z6 w.j (l.getD j O)).1)).2) aa)<|Fi 84 (w.rep.filled+1)<|Fx 88 j Fz
def Zb1 w l i:CP (Zm f80 2) (fjL w l i l.length).st (.ext 2) (Tg.st ⟨tm 90 [(0,.pt 0 0 0),(14,nI w.j.P.length),(15,nI i)],[(0,w.evD)],9⟩):=by exact sF [] []<|Ffb 38 (Le ((l.length:Int)<(l.length:Int))) Fz
structure FjOk (w:Z7) (l:List Int):Prop where
 k:∀j,j<=l.length->FilOk (Et w l j)
 hl:l.length<=4096
 a:∀j,j<l.length->0<=l.getD j O/\l.getD j O<=16384
 o:∀j,j<l.length->(Z6 (Et w l j).j (l.getD j O)).2=0
 f:∀j,j<l.length->¬ ((Z6 (Et w l j).j (l.getD j O)).1.K=0\/l.getD j O∈(Et w l j).Q)->(GY (Et w l j).j (l.getD j O) (Z5 (Z6 (Et w l j).j (l.getD j O)).1)).2=0/\(GY (Et w l j).j (l.getD j O) (Z5 (Z6 (Et w l j).j (l.getD j O)).1)).1.P=(Et w l j).j.P
 pg:(Et w l l.length).j.P.length=w.j.P.length
def ZdJ w l(i:Nat)(c:FjOk w l)  := Bp (S:=λj=>(fjL (Et w l j) l i j).st) l.length (by kernel_rfl) (λj a=>by
  by_cases q:(Z6 (Et w l j).j (l.getD j O)).1.K=0\/l.getD j O∈(Et w l j).Q
  .have e:Et w l (j+1)=Et w l j:=by rw[Et,AZ,if_pos q]
   rw[e];exact ZiJ _ l i j (c.k j (by omega)) c.hl a (c.a j a) (c.o j a) q
  .obtain⟨b,d⟩:=c.f j a q;exact Zif _ l i j (c.k j (by omega)) c.hl a (c.a j a) (c.o j a) q b d) (Zb1 (Et w l l.length) l i)
def Zfo w(i:Nat)(k:FilOk w)(hi:i<w.j.P.length)(c:ZJ w i=La)(e:(Ze w.j i).2=0)(f:FjOk w (Ze w.j i).1):CP (Zm f80 0) (fiL w i).st .nrm (fiL (Et w (Ze w.j i).1 (Ze w.j i).1.length) (i+1)).st:=by have pl:=k.pl;have pr:=k.pr;have ww:=k.ww;have hl:=f.hl;have pg:=f.pg;unfold fiL;rw[pg];let a:=Ze w.j (i:Int);exact sF [] (fO 8)<|Ftb 16 (Le ((i:Int)<(w.j.P.length:Int)))<|Fc 22 (@Z5j w ((i:Int)) aa)<|Ffb 23 (!ZJ w (i:Int))<|Fc 30 (@R4 w.j ((i:Int)) aa oq)<|Fc 34 (@IB (a.2) aa)<|Fl 36 wD a.1<|Fu (@ZdJ w (a.1) i aa)<|Fx 89 i<|Fo ((↑(Et w a.1 a.1.length).j.P.length:Int)=(w.j.P.length:Int)) Fz
def Zhy w:CP (Zm f80 0) (fiL w w.j.P.length).st (.ext 0) (Tg.st ⟨tm 90 [(0,.pt 0 0 0)],[(0,w.evD)],3⟩):=by exact sF [] []<|Ffb 16 (Le ((w.j.P.length:Int)<(w.j.P.length:Int))) Fz
structure FiOk (w:Z7):Prop where
 k:∀i,i<=w.j.P.length->FilOk (G8 w i)
 pg:∀i,i<=w.j.P.length->(G8 w i).j.P.length=w.j.P.length
 e:∀i:Nat,i<w.j.P.length->ZJ (G8 w i) i=La->(Ze (G8 w i).j i).2=0/\FjOk (G8 w i) (Ze (G8 w i).j i).1
section
variable(w:Z7)(c:FiOk w)
include c
def Zdd  := Bp (S:=λi=>(fiL (G8 w i) i).st) w.j.P.length (by kernel_rfl) (λi d=>by
  have k:=c.k i (by omega);have pg:=c.pg i (by omega);by_cases q:ZJ (G8 w i) i=La
  .obtain⟨a,b⟩:=c.e i d q;have e:G8 w (i+1)=Et (G8 w i) (Ze (G8 w i).j i).1 (Ze (G8 w i).j i).1.length:=by rw[G8,fpg,if_pos q]
   rw[e];exact Zfo _ i k (by omega) q a b
  .have e:G8 w (i+1)=G8 w i:=by rw[G8,fpg,if_neg q]
   rw[e];exact Zd0 _ i k (by omega) (by simpa using q)) (by
  have:=Zhy (G8 w w.j.P.length);rw[c.pg _ (Lk _)]at this;exact this)
theorem Zls:BP 80 [.pt 0 0 0] [w.evD] (.tu []) [(G8 w w.j.P.length).evD]:=by have pl:=(c.k 0 (Nat.zero_le _)).pl;have pl:w.j.P.length<=64:=pl;exact lF func80 []<|Fl 14 Z0.dv w.j.P<|Fu (@Zdd w aa) Fz
end
def Zke{w}(g:Bb w)(h:BA w){r n:Int}(o:r∈w.old)(hq:r∉w.Q)(hn:n=Zl w.j.W r+1)(hp:n<=w.j.C.pw)(z:(w.place n).2.2=La):∀x∈w.old++w.Q,(x∈w.Q\/x≠r)->∀m,0<=m->m<=Zl w.j.W x->Z1 ((w.place n).1.copy r (w.place n).2.1 n).j.W (x+m)=Z1 w.j.W (x+m):=by
 have a3:=Bq w.j.W r;obtain⟨i,p,t,v,d,h3,h4,h5,h6,h7,y,e⟩:=P3 g ⟨by omega,hp⟩ z;have hb:=BI.1 g.C;have a6:=g.pl;have hL:=h.L;have a2:(i:Int)*w.j.C.pw+w.j.C.pw<=w.j.C.pw*w.j.C.pg:=by(have:=EU (i:=i) (j:=w.j.C.pg) (pw:=w.j.C.pw) oq oq;rw[L1 w.j.C.pw];exact this)
 have a1:0<=(i:Int)*w.j.C.pw:=L2 oq oq;rw[e,y];generalize hu:C2 (w.j.P.getD i O)=u at *;generalize ha:4096+(i:Int)*w.j.C.pw+u=at';have a7:=h.r r (Ln _ o);have l:=h.f i v (by rcases d with d|d;exact LD d;exact LF d.1);rw[hu]at l;obtain⟨m1,m2,m3⟩:=Sj (ws:=w.j.W) (a:=at') (b:=r) (n:=n) oq oq oq;have f:4096<=r/\r<4096+(moveA w.j.W at' r n).1.length:=by omega
 intro x s k m a4 a5;have a0:=l x s;simp only[Z7.copy];rw[Gj f ?_,m3 _ oq];intro c;by_cases q:x=r;exact k.elim (λa=>hq (q▸a)) (λa=>a q);have:=h.s x s r (Ln _ o) oq;omega
def Nt{w}(n:Bb w)(h:BA w) r(e:(w.fwd r).2.2=0):(∃m,(w.fwd r).1.Q=w.Q++m)/\(w.fwd r).1.D=w.D/\∀x∈w.old++w.Q,(x∈w.Q\/x≠r)->∀m,0<=m->m<=Zl w.j.W x->Z1 (w.fwd r).1.j.W (x+m)=Z1 w.j.W (x+m):=by
 unfold Z7.fwd at e⊢;split at e;rename_i c1;rw[if_pos c1];exact⟨⟨[],by simp⟩,rfl,λ_ _ _ _ _ _=>rfl⟩;rename_i c1;rw[if_neg c1];have f:r∉w.Q:=λh=>c1 (LF h);split at e;simp at e;rename_i c2;rw[if_neg c2];have a:r∈w.old:=Xp.1 c2;split at e;rename_i c3;rw[if_pos c3];exact⟨⟨[],by simp⟩,rfl,λ_ _ _ _ _ _=>rfl⟩;rename_i c3;rw[if_neg c3];split at e;simp at e;rename_i c4;rw[if_neg c4];split at e;rename_i g;rw[if_pos g];exact⟨⟨[r],rfl⟩,rfl,λ_ _ _ _ _ _=>rfl⟩;rename_i g;rw[if_neg g];split at e;rename_i d;rw[if_pos d];exact⟨⟨[r],rfl⟩,rfl,λ_ _ _ _ _ _=>rfl⟩;rename_i d;rw[if_neg d];split at e;simp at e;rename_i j;rw[if_neg j];have b:(w.place (Z5 (ZB w r))).2.2=La:=by simpa using j
 have c:=h.z r a;have l:Z5 (ZB w r)<=w.j.C.pw:=by(rw[GX];rcases c with c|c;exact absurd c d;exact c)
 have o:=Bq w.j.W r;obtain⟨i,p,t,p1,p2,p3,p4,p5,p6,p7,k⟩:=Pa n ⟨by rw[GX];omega,l⟩ b;refine⟨⟨[(w.place (Z5 (ZB w r))).2.1], ?_⟩, ?_,Zke n h a f (GX w r) l b⟩;rw[k];rfl;rw[k];rfl
def FD(w:Z7)(F:Int->Prop):Prop:=∀z,F z->(∃q j,q∈w.Q/\0<=j/\j<Zl w.j.W q/\z=q+1+j)/\NP w (Z1 w.j.W z).1
structure Sm (w v:Z7):Prop where
 q:∃m,v.Q=w.Q++m
 h:∀x∈w.Q,ZY v.j.W x=ZY w.j.W x
def Sm.trans{u v w}(a:Sm u v)(b:Sm v w):Sm u w:=by obtain⟨m,c⟩:=a.q;obtain⟨n,e⟩:=b.q;exact⟨⟨m++n,by rw[e,c,Lr]⟩,λx d=>(b.h x (by rw[c];exact Ln _ d)).trans (a.h x d)⟩
def Sm.mem{w v}(a:Sm w v){x:Int}(c:x∈w.Q):x∈v.Q:=by obtain⟨m,b⟩:=a.q;rw[b];exact Ln _ c
def Sm.len{w v}(a:Sm w v){x:Int}(b:x∈w.Q):Zl v.j.W x=Zl w.j.W x:=congrArg Zz.length (a.h x b)
def Sm.to{w v}(a:Sm w v){x}(b:NP w x):NP v x:=b.imp id a.mem
def Tc{w}(b:Bb w)(h:BA w) r(e:(w.fwd r).2.2=0):Sm w (w.fwd r).1:=by have s:=Nt b h r e;refine⟨s.1,λx a=>?_⟩;have:=s.2.2 x (LU _ a) (.inl a) 0 oq (Bq _ _).1;rw[Int.add_zero]at this;rw[ZY,ZY,this]
def FD.fwd{w F}(f:FD w F)(b:Bb w)(h:BA w) r(e:(w.fwd r).2.2=0):FD (w.fwd r).1 F:=by have s:=Nt b h r e;have m:=Tc b h r e;intro z g;obtain⟨⟨q,j,a,c,d,rfl⟩,t⟩:=f z g;refine⟨⟨q,j,m.mem a,c,by rw[m.len a];exact d,rfl⟩, ?_⟩;have:=s.2.2 q (LU _ a) (.inl a) (1+j) oq oq;rw[<-Int.add_assoc]at this;rw[this];exact m.to t
def ZhJ{B w}(l:Bb w)(h:BA w)(hp:PR B w){F}(f:FD w F){q j:Int}(o:q∈w.Q)(t:0<=j/\j<Zl w.j.W q)(e:(w.fwd (Z1 w.j.W (q+1+j)).1).2.2=0):Sm w (w.in1 (q+1+j))/\(w.in1 (q+1+j)).D=w.D/\FD (w.in1 (q+1+j)) (λz=>F z\/z=q+1+j):=by
 have s:=Nt l h _ e;have m:=Tc l h _ e;have y:=f.fwd l h _ e;have to:=Z4D w _ hp e;obtain⟨u,v⟩:=NE l h _ e;have d:=v.q q o;have a0:=v.l q o;have hr:=u.r q (LU _ d);have b:4096<=q+1+j/\q+1+j<4096+(w.fwd (Z1 w.j.W (q+1+j)).1).1.j.W.length:=by omega
 have n:∀x∈(w.fwd (Z1 w.j.W (q+1+j)).1).1.Q,x≠q+1+j:=by(intro x p c;have:=u.s q (LU _ d) x (LU _ p) oq;omega)
 have hh:∀x∈(w.fwd (Z1 w.j.W (q+1+j)).1).1.Q,ZY (w.in1 (q+1+j)).j.W x=ZY (w.fwd (Z1 w.j.W (q+1+j)).1).1.j.W x:=by(intro x p;simp only[Z7.in1];rw[ZY,ZY,Gj b (n x p)])
 have i:Sm (w.fwd (Z1 w.j.W (q+1+j)).1).1 (w.in1 (q+1+j)):=⟨⟨[],by simp[Z7.in1]⟩,hh⟩;refine⟨m.trans i,s.2.1, ?_⟩;intro z a;have r:(∃k g,k∈w.Q/\0<=g/\g<Zl w.j.W k/\z=k+1+g):=by(rcases a with a|rfl;exact(f z a).1;exact⟨q,j,o,t.1,t.2,rfl⟩)
 obtain⟨k,g,k1,k2,k3,k4⟩:=r;refine⟨⟨k,g,(m.trans i).mem k1,k2,by rw[(m.trans i).len k1];exact k3,k4⟩, ?_⟩;by_cases c:z=q+1+j;subst c;have:(Z1 (w.in1 (q+1+j)).j.W (q+1+j)).1=(w.fwd (Z1 w.j.W (q+1+j)).1).2.1:=by(simp only[Z7.in1];rw[RH b])
 rw[this];exact i.to to;have:Z1 (w.in1 (q+1+j)).j.W z=Z1 (w.fwd (Z1 w.j.W (q+1+j)).1).1.j.W z:=by(simp only[Z7.in1];rw[Gj b c])
 rw[this];rcases a with a|a;exact i.to (y z a).2;exact absurd a c
section
variable{B:Int}(hB:0<=B)
include hB
theorem Z6h{w}(m:Bb w)(h:BA w)(p:PR B w){F}(f:FD w F){q:Int}(g:q∈w.Q){l:List Int}(hl:∀x∈l,0<=x/\x<Zl w.j.W q):∀k,k<=l.length->(∀j,j<k->CL w q l j=0)->Sm w (Bg w q l k)/\(Bg w q l k).D=w.D/\FD (Bg w q l k) (λz=>F z\/∃i,i<k/\z=q+1+l.getD i O)
 |0,_,_=>⟨⟨⟨[],by simp[Bg]⟩,λ_ _=>rfl⟩,rfl,λz d=>f z (d.resolve_right (by rintro⟨i,n,_⟩;omega))⟩
 |k+1,hk,he=>by
  obtain⟨a,b,c⟩:=Z6h m h p f g hl k oq (λj o=>he j oq);have ok:=(NC m q l k (λj o=>he j oq)).1;have iv:=Td m h g hl k oq (λj o=>he j oq);have pr:=PF (PR B) (λw q j m n h g s t e=>PR.in1 hB w q j m n h g s t e) m h p g hl k oq (λj o=>he j oq);have r:=hl _ (ZT.2 ⟨k,by omega,rfl⟩);obtain⟨d1,d2,d3⟩:=ZhJ ok iv.1 pr c (a.mem g) (j:=l.getD k O) ⟨r.1,by rw[a.len g];exact r.2⟩ (he k oq);refine⟨a.trans d1,d2.trans b,λz d=>d3 z ?_⟩;rcases d with d|⟨i,n,d⟩
  .exact LD (LD d)
  .by_cases u:i=k
   .subst u;exact LF d
   .exact LD (LF ⟨i,by omega,d⟩)
def SD(w:Z7):Prop:=FD w (λz=>∃i j,i<w.D.toNat/\j∈Zk (ZY w.j.W (w.Q.getD i O))/\z=w.Q.getD i O+1+j)
omit hB in
theorem Sm.get{w v}(a:Sm w v){i:Nat}(c:i<w.Q.length):v.Q.getD i O=w.Q.getD i O:=by obtain⟨m,b⟩:=a.q;rw[b,Lh,Lh,Xa c]
theorem Z58{w}(p:Bb w)(h:BA w)(t:PR B w)(f:SD w)(e:(B1 w).2.2=0):SD (B1 w).1:=by
 by_cases o:w.D<w.Q.length;have v:=p.sc;have u:C4 w∈w.Q:=ZT.2 ⟨w.D.toNat,by omega,rfl⟩;unfold B1 at e⊢;rw[if_pos o]at e⊢;cases hb:(Lq (Bj w).length).find? (λk=>Le (CL w (C4 w) (Bj w) k≠0))with
 |none =>
  have r:∀j,j<(Bj w).length->CL w (C4 w) (Bj w) j=0:=λj d=>by(have:=List.find?_eq_none.1 hb j (List.mem_range.2 d);simpa using this)
  obtain⟨a,b,c⟩:=Z6h hB p h t f u (l:=Bj w) (NZ (ZB w (C4 w))) (Bj w).length (Lk _) r;intro z x;obtain⟨i,j,m,d,rfl⟩:=x;simp only[HC]at m d⊢;rw[b]at m;have g:=a.get (show i<w.Q.length by omega);have s:w.Q.getD i O∈w.Q:=ZT.2 ⟨i,by omega,rfl⟩;rw[g,a.h _ s]at d;rw[g];refine c _ ?_;by_cases q:i=w.D.toNat
  subst q;obtain⟨n,y,n2⟩:=ZT.1 d;exact LF ⟨n,y,by rw[<-n2];rfl⟩;exact LD ⟨i,j,by omega,d,rfl⟩
 |some k =>simp only[hb]at e;have:=(L9.1 hb).1;simp[e]at this
 have e:B1 w=(w,Lc,0):=by rw[B1,if_neg o]
 rw[e];exact f
theorem Z9N{w}(a:Bb w)(h:BA w)(d:PR B w)(f:SD w):∀k,(∀j,j<k->Ep w j=Lc)->SD (Cc w k)
 |0,_=>f
 |k+1,hh=>by
  have o:=Z9N a h d f k (λj b=>hh j oq);have ok:=(IW a k (λj b=>hh j oq)).1;have iv:=(DD a h k (λj b=>hh j oq)).1;have pr:=PM (PR B) (λw q j a l h m g i e=>PR.in1 hB w q j a l h m g i e) (λw n h=>⟨⟨h.tab.pt,h.tab.tk,h.tab.pin⟩,h.rt.q,h.rt.t⟩) a h d k (λj b=>hh j oq);have c:=hh k oq;simp only[Ep,decide_eq_false_iff_not,not_or,Xp]at c;exact Z58 hB ok iv pr o c.1
theorem Zd1{w}(a:Bb w)(h:BA w)(l:PR B w)(f:SD w)(e:(Bz w).2=0):SD (Bz w).1/\(Bz w).1.D=(Bz w).1.Q.length:=by
 obtain⟨k,i⟩:=SC a;obtain⟨d,h2,r⟩:=L9.1 i;have b:∀j,j<k->Ep w j=Lc:=λj t=>by simpa using r j t
 unfold Bz at e⊢;rw[i]at e⊢;simp only at e⊢;split at e;rename_i c;rw[if_pos c];have ok:=(IW a k b).1;have iv:=(DD a h k b).1;have pr:=PM (PR B) (λw q j a s h u b d e=>PR.in1 hB w q j a s h u b d e) (λw n h=>⟨⟨h.tab.pt,h.tab.tk,h.tab.pin⟩,h.rt.q,h.rt.t⟩) a h l k b;refine⟨Z58 hB ok iv pr (Z9N hB a h l f k b) c, ?_⟩;simp only[Ep,decide_eq_true_eq]at d;have g:(B1 (Cc w k)).2.1=Lc:=d.resolve_left (λq=>q c);have v:=ok.sc;by_cases o:(Cc w k).D<(Cc w k).Q.length;exfalso;unfold B1 at g c;rw[if_pos o]at g c;cases hb2:(Lq (Bj (Cc w k)).length).find? (λm=>Le (CL (Cc w k) (C4 (Cc w k)) (Bj (Cc w k)) m≠0))with|none =>rw[hb2]at g;simp at g|some m =>simp only[hb2]at c;have:=(L9.1 hb2).1;simp[c]at this
 have p:B1 (Cc w k)=(Cc w k,Lc,0):=by rw[B1,if_neg o]
 rw[p];simp only;omega;rename_i c;exact absurd e c
theorem Zdf{h:Heap}{s}(hw:Zx h.W)(hp:Z9 h=La)(hb:∀p∈h.P,p.N<=B)(e:(rootsF (Zr h) s).2.2=0)(e2:(Bz (rootsF (Zr h) s).1).2=0):SD (ZF h s)/\(ZF h s).D=(ZF h s).Q.length:=by have wb:=R1 hw hp;have hi:=Se hp;have ho:=Sq (roots:=s) wb hi e;have pr:=Z3K (PR B) (λw r hw hi h e=>PR.fwd hB w r hw hi h e) (roots:=s) wb hi ⟨Z15 hp hb,Z3t hp⟩ e;have s0:=Z3K (λw=>w.D=0) (λw r hw hi h e=>(Nt hw hi r e).2.1.trans h) (roots:=s) wb hi rfl e;exact Zd1 hB ho.1 ho.2.1 pr (λz hz=>by obtain⟨i,j,q,_⟩:=hz;rw[s0]at q;simp at q) e2
end
def Nn(w:Z7)(x:Int):Prop:=ZJ w (Z4 w.j.C x).1=La/\x∉w.Q
def Rn(n:Int)(a x:Int):Int:=if a=x then 1+16*n else 0
def Z4I{n:Int}(h:0<=n/\n<=255):Z8 (1+16*n)=(⟨0,n,0⟩,La):=by have a:ZU ⟨0,n,0⟩=La:=Gx.2 ⟨by simp,by simp,h.1,h.2,by simp⟩;have:=decode_encode a pq;rw[Dr h]at this;exact this
def ZlX{n:Int}(h:0<=n/\n<=255){ws:List Int}{a x:Int}(hx:4096<=x/\x+n<4096+ws.length)(ha:x<=a/\a<=x+n):(Z1 (ZX ws x (BE ⟨0,n,0⟩)).1 a).1=Rn n a x:=by
 have hl:(BE ⟨0,n,0⟩).length=n.toNat+1:=by simp[BE]
 rw[SH oq oq];unfold Rn;by_cases c:a=x;subst c;simp[BE,Dr h];rw[if_neg c,BE,show(a-x).toNat=(a-x-1).toNat+1 by omega];simp[Lh,Xv];split<;>rfl
structure FL (v:Z7) (ws:List Int) (k:Nat):Prop where
 l:ws.length=v.j.W.length
 h:∀x∈v.old,Zl ws x=Zl v.j.W x
 s:∀a,Z1 ws a=Z1 v.j.W a\/∃x∈v.old,Nn v x/\x<=a/\a<=x+Zl v.j.W x/\(Z1 ws a).1=Rn (Zl v.j.W x) a x
 f:∀j,j<k->Nn v (v.old.getD j O)->∀a,v.old.getD j O<=a->a<=v.old.getD j O+Zl v.j.W (v.old.getD j O)->(Z1 ws a).1=Rn (Zl v.j.W (v.old.getD j O)) a (v.old.getD j O)
def Px{v:Z7}(hw:FOk v)(hi:BA v):∀k,k<=v.old.length->FL v (Cn v k).j.W k
 |0,_=>⟨rfl,λ_ _=>rfl,λ_=>LD rfl,λj hj=>by omega⟩
 |k+1,hk=>by
  have ih:=Px hw hi k oq;obtain⟨i0,i1,i2,i3,i4,i5,i6,i7,i8,i9,i10,i11⟩:=Il v hw k;have hm:v.old.getD k O∈v.old:=ZT.2 ⟨k,by omega,rfl⟩;have hr:=hi.r _ (Ln _ hm);have hn:=Bq v.j.W (v.old.getD k O);have hprom:ZJ (Cn v k) (Z4 (Cn v k).j.C (v.old.getD k O)).1=ZJ v (Z4 v.j.C (v.old.getD k O)).1:=by
   unfold ZJ;rw[i1,i2,i3,i6]
  by_cases c:Nn v (v.old.getD k O)
  .have e:(Cn v (k+1)).j.W=(ZX (Cn v k).j.W (v.old.getD k O) (BE ⟨0,Zl v.j.W (v.old.getD k O),0⟩)).1:=by
    show(H2 (Cn v k) (v.old.getD k O)).j.W=_;rw[H2,hprom,i7,if_pos (show ZJ v (Z4 v.j.C (v.old.getD k O)).1=La/\v.old.getD k O∉v.Q from c)];simp only;rw[<-ih.h _ hm];rfl
   rw[e];have hl:=ih.l;generalize hx:v.old.getD k O=x at *;have hin:4096<=x/\x+Zl v.j.W x<4096+(Cn v k).j.W.length:=by omega
   have ho:(BE ⟨0,Zl v.j.W x,0⟩).length=(Zl v.j.W x).toNat+1:=by simp[BE]
   have win:=λa ha=>ZlX hn (ws:=(Cn v k).j.W) (a:=a) hin ha;have wout:∀a,a<x\/x+Zl v.j.W x<a->Z1 (ZX (Cn v k).j.W x (BE ⟨0,Zl v.j.W x,0⟩)).1 a=Z1 (Cn v k).j.W a:=λa ha=>Ap oq oq;have sep:=λy hy=>hi.s x (Ln _ hm) y (Ln _ hy);have sep2:=λy hy=>hi.s y (Ln _ hy) x (Ln _ hm);refine⟨?_, ?_, ?_, ?_⟩
   .unfold ZX;rw[if_pos oq];exact(NI oq).trans hl
   .intro y hy;by_cases q:y=x
    .subst q;have:=win y oq;rw[Zl,this,Rn,if_pos rfl,Z4I hn]
    .have s1:=sep y hy;have s2:=sep2 y hy;have:=Bq v.j.W y;rw[Zl,wout y oq];exact ih.h y hy
   .intro a;by_cases q:x<=a/\a<=x+Zl v.j.W x
    .exact LF ⟨x,hm,c,q.1,q.2,win a q⟩
    .rw[wout a oq];exact ih.s a
   .intro j hj hf a h1 h2;by_cases q:v.old.getD j O=x
    .rw[q]at h1 h2⊢;exact win a ⟨h1,h2⟩
    .have hjk:j<k:=by
      by_cases q2:j=k
      .subst q2;exact absurd hx q
      .omega
     have hmj:v.old.getD j O∈v.old:=ZT.2 ⟨j,by omega,rfl⟩;have s1:=sep _ hmj;have s2:=sep2 _ hmj;have:=Bq v.j.W (v.old.getD j O);rw[wout a oq];exact ih.f j hjk hf a h1 h2
  .have e:Cn v (k+1)=Cn v k:=by
    show H2 (Cn v k) (v.old.getD k O)=_;rw[H2,hprom,i7,if_neg (show¬ (ZJ v (Z4 v.j.C (v.old.getD k O)).1=La/\v.old.getD k O∉v.Q)from c)]
   rw[e];refine⟨ih.l,ih.h,ih.s,λj hj hf=>?_⟩;by_cases q:j=k
   .subst q;exact absurd hf c
   .exact ih.f j oq hf
def Z9K{c:B7}{s}{l:List Z0}{ws:List Int}(b:0<=c.pw)(hl:(ws.length:Int)=c.pw*l.length):∀k,k<=l.length->(Es c.pw s l ws k).length=ws.length/\∀(i:Nat) (o:Int),i<l.length->0<=o->o<c.pw->Z1 (Es c.pw s l ws k) (4096+i*c.pw+o)=if i<k/\CC s (l.getD i O)then(0,0)else Z1 ws (4096+i*c.pw+o)
 |0,_=>⟨rfl,λi o _ _ _=>by rw[if_neg oq];rfl⟩
 |k+1,hk=>by
  obtain⟨n,p⟩:=Z9K (s:=s) b hl k oq;unfold Es;by_cases d:CC s (l.getD k O)
  .rw[if_pos d];have h:=EU (i:=k) (j:=l.length) (pw:=c.pw) oq b;have v:0<=(k:Int)*c.pw:=L2 oq b;rw[L1 (l.length:Int)]at h;have r:(Lg c.pw.toNat (0:Int)).length=c.pw.toNat:=Xc;have en:((k*c.pw.toNat:Nat):Int)=k*c.pw:=by rw[Int.natCast_mul,Int.toNat_of_nonneg b]
   have e:Ck (Es c.pw s l ws k) (k*c.pw.toNat) (Lg c.pw.toNat 0)=(ZX (Es c.pw s l ws k) (4096+k*c.pw) (Lg c.pw.toNat 0)).1:=by
    unfold ZX;rw[if_pos oq];simp only;congr 1;omega
   refine⟨?_, ?_⟩
   .rw[NI oq];exact n
   .intro i o g f m;rw[e];by_cases q:i=k
    .subst q;rw[SH oq oq,if_pos ⟨by omega,d⟩];simp[Lh,Xv];split<;>rfl
    .have w:4096+(i:Int)*c.pw+o<4096+k*c.pw\/4096+k*c.pw+c.pw<=4096+(i:Int)*c.pw+o:=by
      rcases Nat.lt_or_gt_of_ne q with q|q
      .have:=EU (i:=i) (j:=k) (pw:=c.pw) oq b;omega
      .have:=EU (i:=k) (j:=i) (pw:=c.pw) oq b;omega
     rw[Ap oq oq,p i o g f m];by_cases a:i<k/\CC s (l.getD i O)
     .rw[if_pos a,if_pos ⟨by omega,a.2⟩]
     .rw[if_neg a,if_neg (λt=>a ⟨by omega,t.2⟩)]
  .rw[if_neg d];refine⟨n,λi o g f m=>?_⟩;rw[p i o g f m];by_cases a:i<k/\CC s (l.getD i O)
   .rw[if_pos a,if_pos ⟨by omega,a.2⟩]
   .rw[if_neg a,if_neg];rintro⟨t,u⟩;by_cases x:i=k
    .subst x;exact d u
    .exact a ⟨by omega,u⟩
def Z6e(hd:Zz){k:Int}(c:0<=k)(a:Ba hd k=La):∀n:Nat,k<n->k∈BQ hd n
 |0,h=>by omega
 |n+1,h=>by
  unfold BQ;by_cases q:k=n
  .subst q;rw[if_pos a];simp
  .have b:=Z6e hd c a n oq;split
   .exact Ln _ b
   .exact b
theorem Z3S{hd:Zz}{k:Int}(b:0<=k)(h1:k<hd.length)(a:Ba hd k=La):k∈Zk hd:=by
 have c:ZU hd=La:=by(unfold Ba at a;simp only[LL]at a;exact a.1.1.1)
 unfold Zk;rw[if_pos c];exact Z6e hd b a _ oq
def Ev(f:Found):Bool:=!(f.hd.K==0)
def Oa(x:Found):GP 159 [x.av] La (bL (x.hd.K==0)) []:=by exact gF [] func159 [] Fz
def Co(l:List Found):Nat:=(l.takeWhile Ev).length
def Z0A{l}{m:Nat}(h:m<Co l):m<l.length/\((l.getD m O).hd.K==0)=Lc:=by obtain⟨a,b⟩:=Au _ _ _ h;refine⟨a, ?_⟩;rw[Lh,Lt a];simpa[Ev]using b
def Z7M{l:List Found}(h:Co l<l.length):((l.getD (Co l) O).hd.K==0)=La:=by
 have a:=Ao Ev l h;have b:l.getD (Co l) O=l[(l.takeWhile Ev).length]:=by(rw[Lh,Lt h];rfl)
 rw[b];simpa[Ev]using a
def GV(l:List Found):Int:=if Co l<l.length then Co l else -1
def MC(l:List Found)(i:Nat):Tg:=⟨tm 19 [(0,EI l),(1,.fn 159 []),(4,nI 0),(7,nI l.length),(8,nI i)],[],60⟩
def Z5e(l:List Found)(i:Nat)(hl:l.length<=1048576)(hi:i<l.length)(e:((l.getD i O).hd.K==0)=Lc):CP (Zm f200 0) (MC l i).st .nrm (MC l (i+1)).st:=by exact sF [] []<|Fh 16 [.call La (bL ((l.getD i O).hd.K==0)) [],.br Lc]<|Ftb 9 (Le ((i:Int)<(l.length:Int)))<|Fek 14 Found.dv l (↑i) i<|Fa (@Oa (l.getD i O))<|Fa ‹((l.getD i O).hd.K==0)=Lc›<|Fx 18 i Fz
def Zci(l:List Found)(i:Nat)(hl:l.length<=1048576)(hi:i<l.length)(e:((l.getD i O).hd.K==0)=La):CP (Zm f200 0) (MC l i).st .ret (Tg.st ⟨tm 19 [(4,nI i)],[],60⟩):=by exact sF [] []<|Fh 16 [.call La (bL ((l.getD i O).hd.K==0)) [],.br La]<|Ftb 9 (Le ((i:Int)<(l.length:Int)))<|Fek 14 Found.dv l (↑i) i<|Fa (@Oa (l.getD i O))<|Fa ‹((l.getD i O).hd.K==0)=La› Fz
def Zdg l:CP (Zm f200 0) (MC l l.length).st (.ext 0) (Tg.st ⟨tm 19 [(4,nI 0)],[],60⟩):=by exact sF [] []<|Ffb 9 (Le ((l.length:Int)<(l.length:Int))) Fz
def ZbF(l:List Found)(hl:l.length<=1048576)(h:¬ Co l<l.length)  := Bp (S:=λj=>(MC l j).st) l.length (by kernel_rfl) (λj a=>Z5e l j hl a (Z0A (by omega)).2) (Zdg l)
def Zmf(l:List Found)(hl:l.length<=1048576)(h:Co l<l.length)  := EJ (S:=λj=>(MC l j).st) (Co l) (by kernel_rfl) (λj a=>Z5e l j hl (by omega) (Z0A a).2) (Zci l (Co l) hl h (Z7M h))
def Z4N(l:List Found)(hl:l.length<=1048576):GP 200 [EI l,.fn 159 []] La (nI (GV l)) []:=by by_cases h:Co l<l.length;have a:GV l=Co l:=if_pos h;rw[a];exact gF [] func200 []<|Fl 7 Found.dv l<|Fu (@Zmf l aa aa) Fz;have a:GV l=-1:=if_neg h;rw[a];exact gF [] func200 []<|Fl 7 Found.dv l<|Fu (@ZbF l aa aa) Fz
def Bd(l:List Found)(a:Nat):Nat->List Found×Nat|0=>(l,a)|m+1=>if Ev ((Bd l a m).1.getD (a+1+m) O)=La then((Bd l a m).1.set (Bd l a m).2 ((Bd l a m).1.getD (a+1+m) O),(Bd l a m).2+1)else Bd l a m
def Z2s{l:List Found}{a}(n:(l.take a).filter Ev=l.take a)(o:a<l.length)(f:Ev (l.getD a O)=Lc):∀m,a+1+m<=l.length -> (Bd l a m).1.length=l.length/\(Bd l a m).2<=a+m/\(∀k,a+1+m<=k->(Bd l a m).1.getD k O=l.getD k O)/\(Bd l a m).1.take (Bd l a m).2=(l.take (a+1+m)).filter Ev
 |0,_=>by
  refine⟨rfl,Lk _,λ_ _=>rfl, ?_⟩;show l.take a=(l.take (a+1)).filter Ev;rw[Z1I o,Lv,n];generalize l.getD a O=y at f⊢;simp[f]
 |m+1,hm=>by
  obtain⟨a1,a2,c,j⟩:=Z2s n o f m oq;have e:=c (a+1+m) (Lk _);have p:l.take (a+1+(m+1))=l.take (a+1+m)++[l.getD (a+1+m) O]:=Z1I (l:=l) (i:=a+1+m) (show a+1+m<l.length by omega);unfold Bd;rw[e,p,Lv];generalize hd:Bd l a m=d at *;by_cases b:Ev (l.getD (a+1+m) O)=La
  .rw[if_pos b];refine⟨by simp[a1],by simp only;omega,λk g=>?_, ?_⟩
   .simp only;rw[Lh,List.getElem?_set_ne oq,<-Lh];exact c k oq
   .have h:d.2<d.1.length:=by omega
    simp only;rw[<-j,XC,List.take_set_of_le oq];generalize l.getD (a+1+m) O=y at b⊢;simp[b,h]
  .rw[if_neg b];refine⟨a1,by omega,λk g=>c k oq, ?_⟩;rw[j];generalize l.getD (a+1+m) O=y at b⊢;simp[b]
def Z9O(l:List Found):(l.take (Co l)).filter Ev=l.take (Co l):=by rw[Xt];intro x c;obtain⟨k,a⟩:=Xu c;rw[List.getElem?_take]at a;split at a;rename_i b;have:=(Z0A b).2;rw[Lh,a]at this;simpa[Ev]using this;cases a
def Z5V{l:List Found}(h:Co l<l.length):Ev (l.getD (Co l) O)=Lc:=by have:=Z7M h;show(!((l.getD (Co l) O).hd.K==0))=Lc;rw[this];rfl
def Z4P{l:List Found}(h:Co l<l.length):(Bd l (Co l) (l.length-Co l-1)).1.take (Bd l (Co l) (l.length-Co l-1)).2=l.filter Ev/\(Bd l (Co l) (l.length-Co l-1)).1.length=l.length/\(Bd l (Co l) (l.length-Co l-1)).2<=l.length:=by have b:=Z9O l;have c:=Z5V h;obtain⟨a1,a2,a3,a⟩:=Z2s b h c (l.length-Co l-1) oq;refine⟨?_,a1,by omega⟩;rw[a,show Co l+1+(l.length-Co l-1)=l.length from by omega,Xh]
def Zh3{l:List Found}(h:¬ Co l<l.length):l.filter Ev=l:=by rw[Xt];intro x c;obtain⟨k,a⟩:=Xu c;have b:k<l.length:=(Xb.1 a).1;have:=(Z0A (l:=l) (m:=k) oq).2;rw[Lh,a]at this;simpa[Ev]using this
def Zg3(l:List Found)(hl:l.length<=1048576)(h:¬ Co l<l.length):CP (HD f158) (Tg.st ⟨tm 42 [(0,.ow 0),(1,.fn 159 [])],[(0,.arr 212 4 (l.map Found.dv))],1⟩) .ret (Tg.st ⟨tm 42 [(4,.ow 0)],[(0,.arr 212 4 (l.map Found.dv))],60⟩):=by have e7:GV l=-1:=if_neg h;exact sF [] []<|Fc 10 (@Z4N l aa)<|Ftb 12 (GV l==(-1:Int)) Fz
def M7(l:List Found)(a m:Nat):Tg:=⟨tm 42 [(0,.ow 0),(1,.fn 159 []),(5,nI (Bd l a m).2),(6,nI (a+1+m:Nat))],[(0,.arr 212 4 ((Bd l a m).1.map Found.dv))],60⟩
section
variable(l:List Found)(i0 m:Nat)(hl:l.length<=1048576)(h1:(Bd l i0 m).1.length=l.length)(h2:(Bd l i0 m).2<=i0+m)
include hl h1 h2
theorem Zf3(hm:i0+1+m<l.length)(b:(((Bd l i0 m).1.getD (i0+1+m) O).hd.K==0)=Lc):CP (Zm f158 0) (M7 l i0 m).st .nrm (M7 l i0 (m+1)).st:=by
 have a:Bd l i0 (m+1)=((Bd l i0 m).1.set (Bd l i0 m).2 ((Bd l i0 m).1.getD (i0+1+m) O),(Bd l i0 m).2+1):=by(rw[Bd,if_pos (by unfold Ev;rw[b];rfl)])
 have c:¬ ((Bd l i0 m).1.getD ((i0+1+m:Nat):Int).toNat O).hd.K=0:=by rw[LO];simpa using b
 exact sF [] [Lc,Lc,La,Lc,La]<|Fh 10033 [.els (Ld Found.dv ((Bd l i0 m).1.set (↑(Bd l i0 m).2:Int).toNat ((Bd l i0 m).1.getD (↑(i0+1+m):Int).toNat O)))]<|Fl 18 Found.dv (Bd l i0 m).1<|Ftb 19 (Le ((↑(i0+1+m):Int)<(↑(Bd l i0 m).1.length:Int)))<|Fmq 25 Found.dv ((Bd l i0 m).1) (↑(i0+1+m):Int)<|Fc 28 (@Oa ((Bd l i0 m).1.getD (↑(i0+1+m):Int).toNat O))<|Ftb 29 (!((Bd l i0 m).1.getD (↑(i0+1+m):Int).toNat O).hd.K==0)<|Fa (by(simp only[LA];omega):0<=(↑(Bd l i0 m).2:Int)/\(↑(Bd l i0 m).2:Int).toNat<(Ld Found.dv (Bd l i0 m).1).length)<|Fa (by(simp only[LA];omega):(↑(Bd l i0 m).2:Int).toNat<(Ld Found.dv (Bd l i0 m).1).length)<|Fa (by rw[Xe];rfl:(Ld Found.dv (Bd l i0 m).1).set (↑(Bd l i0 m).2:Int).toNat [ZZ ((Bd l i0 m).1.getD (↑(i0+1+m):Int).toNat O).addr,Zq ((Bd l i0 m).1.getD (↑(i0+1+m):Int).toNat O).hd.K,Zq ((Bd l i0 m).1.getD (↑(i0+1+m):Int).toNat O).hd.length,DV.sc (LG IntKind.u32 ((Bd l i0 m).1.getD (↑(i0+1+m):Int).toNat O).hd.map)]=Ld Found.dv ((Bd l i0 m).1.set (↑(Bd l i0 m).2:Int).toNat ((Bd l i0 m).1.getD (↑(i0+1+m):Int).toNat O)))<|Fw 35 ((↑(Bd l i0 m).2:Int)+1) (↑((Bd l i0 m).2+1):Int)<|Fw 21 ((↑(i0+1+m):Int)+1) (↑(i0+1+m+1):Int)<|Fa (by rw[a]:(↑((Bd l i0 m).2+1):Int)=(↑(Bd l i0 (m+1)).2:Int))<|Fr (212:Int)<|Fa (by refine congrArg _ ?_;rw[a];rfl:Ld Found.dv ((Bd l i0 m).1.set (↑(Bd l i0 m).2:Int).toNat ((Bd l i0 m).1.getD (↑(i0+1+m):Int).toNat O))=Ld Found.dv (Bd l i0 (m+1)).1) Fz
theorem Zid(hm:i0+1+m<l.length)(hk:(((Bd l i0 m).1.getD (i0+1+m) O).hd.K==0)=La):CP (Zm f158 0) (M7 l i0 m).st .nrm (M7 l i0 (m+1)).st:=by
 have e7:Bd l i0 (m+1)=Bd l i0 m:=by(rw[Bd,if_neg (by unfold Ev;rw[hk];simp)])
 have hk2:((Bd l i0 m).1.getD ((i0+1+m:Nat):Int).toNat O).hd.K=0:=by rw[LO];simpa using hk
 let y0:=(Bd l i0 m).1.getD (↑(i0+1+m):Int).toNat O;exact sF [] [Lc,Lc,La,Lc,La]<|Fl 18 Found.dv (Bd l i0 m).1<|Ftb 19 (Le ((↑(i0+1+m):Int)<(↑(Bd l i0 m).1.length:Int)))<|Fmq 25 Found.dv ((Bd l i0 m).1) (↑(i0+1+m):Int)<|Fc 28 (@Oa y0)<|Ffb 29 (!y0.hd.K==0)<|Fw 21 ((↑(i0+1+m):Int)+1) (↑(i0+1+m+1):Int)<|Fa (by rw[e7]:(↑(Bd l i0 m).2:Int)=(↑(Bd l i0 (m+1)).2:Int))<|Fr (212:Int)<|Fa (by refine congrArg _ ?_;rw[e7]:Ld Found.dv (Bd l i0 m).1=Ld Found.dv (Bd l i0 (m+1)).1) Fz
theorem Zic(hm:i0+1+m=l.length):CP (Zm f158 0) (M7 l i0 m).st (.ext 0) (Tg.st ⟨tm 42 [(0,.ow 0),(5,nI (Bd l i0 m).2)],[(0,.arr 212 4 ((Bd l i0 m).1.map Found.dv))],60⟩):=by exact sF [] []<|Fl 18 Found.dv (Bd l i0 m).1<|Ffb 19 (Le ((↑(i0+1+m):Int)<(↑(Bd l i0 m).1.length:Int))) Fz
end
def BV(l:List Found):List Found×Nat:=Bd l (Co l) (l.length-Co l-1)
def ZdN(l:List Found)(hl:l.length<=1048576)(h:Co l<l.length):CP (Zi f158 0) (Tg.st ⟨tm 42 [(0,.ow 0),(1,.fn 159 []),(5,nI (GV l)),(6,nI (GV l+1))],[(0,.arr 212 4 (l.map Found.dv))],60⟩) .nrm (Tg.st ⟨tm 42 [(0,.ow 0),(5,nI (BV l).2)],[(0,.arr 212 4 ((BV l).1.map Found.dv))],60⟩):=by
 rw[show GV l=Co l from if_pos h];have c:(l.take (Co l)).filter Ev=l.take (Co l):=Z9O l;have d:Ev (l.getD (Co l) O)=Lc:=Z5V h;have a:=λm e=>Z2s c h d m e;have:=Bp (S:=λj=>(M7 l (Co l) j).st) (l.length-Co l-1) kr (λj hj=>by
  obtain⟨a1,b,a3,a4⟩:=a j oq;cases hk:(((Bd l (Co l) j).1.getD (Co l+1+j) O).hd.K==0)with
  |false=>exact Zf3 l (Co l) j hl a1 b oq hk
  |true=>exact Zid l (Co l) j hl a1 b oq hk) (Zic l (Co l) _ hl (a _ oq).1 (a _ oq).2.1 oq)
 exact this
def ZbR(l:List Found)(hl:l.length<=1048576)(h:Co l<l.length):CP (HD f158) (Tg.st ⟨tm 42 [(0,.ow 0),(1,.fn 159 [])],[(0,.arr 212 4 (l.map Found.dv))],1⟩) .ret (Tg.st ⟨tm 42 [(4,.os 0 0 (BV l).2)],[(0,.arr 212 4 (((BV l).1.take (BV l).2++Lg ((BV l).1.length-(BV l).2) HT).map Found.dv))],60⟩):=by have e7:GV l=Co l:=if_pos h;obtain⟨d1,d2,d3⟩:=Z4P h;have d4:(BV l).1.length=l.length:=d2;have d5:(BV l).2<=l.length:=d3;exact sF [] (fO 6)<|Fh 20000 [.els (Ld Found.dv (Ll (↑(BV l).2:Int).toNat (BV l).1++Lg ((↑(Ld Found.dv (BV l).1).length:Int).toNat-(↑(BV l).2:Int).toNat) (Found.mk 0 (Zz.mk 0 0 0))++L3 ((↑(BV l).2:Int).toNat+(Lg ((↑(Ld Found.dv (BV l).1).length:Int).toNat-(↑(BV l).2:Int).toNat) (Found.mk 0 (Zz.mk 0 0 0))).length) (BV l).1))]<|Fc 10 (@Z4N l aa)<|Ffb 12 (GV l==(-1:Int))<|Fi 15 (GV l+1)<|Fu (@ZdN l aa aa)<|Fa (by(simp only[LA];omega):0<=(↑(BV l).2:Int)/\(↑(BV l).2:Int)<=(↑(Ld Found.dv (BV l).1).length:Int))<|Fa (by simp only[Cf,LS,L4,Xd,List.map_replicate,Xc];rfl:Cf (Ld Found.dv (BV l).1) (↑(BV l).2:Int).toNat (Lg ((↑(Ld Found.dv (BV l).1).length:Int).toNat-(↑(BV l).2:Int).toNat) [ZZ 0,Zq 0,Zq 0,DV.sc (LG IntKind.u32 0)])=Ld Found.dv (Ll (↑(BV l).2:Int).toNat (BV l).1++Lg ((↑(Ld Found.dv (BV l).1).length:Int).toNat-(↑(BV l).2:Int).toNat) (Found.mk 0 (Zz.mk 0 0 0))++L3 ((↑(BV l).2:Int).toNat+(Lg ((↑(Ld Found.dv (BV l).1).length:Int).toNat-(↑(BV l).2:Int).toNat) (Found.mk 0 (Zz.mk 0 0 0))).length) (BV l).1))<|Fa (by simp[*]:0<=(↑(BV l).2:Int)/\(↑(BV l).2:Int)<=(↑(Ld Found.dv (Ll (↑(BV l).2:Int).toNat (BV l).1++Lg ((↑(Ld Found.dv (BV l).1).length:Int).toNat-(↑(BV l).2:Int).toNat) (Found.mk 0 (Zz.mk 0 0 0))++L3 ((↑(BV l).2:Int).toNat+(Lg ((↑(Ld Found.dv (BV l).1).length:Int).toNat-(↑(BV l).2:Int).toNat) (Found.mk 0 (Zz.mk 0 0 0))).length) (BV l).1)).length:Int))<|Fr (212:Int)<|Fa (by refine congrArg _ ?_;simp only[LO,LA,Xc];rw[List.drop_of_length_le oq,L7];rfl:Ld Found.dv (Ll (↑(BV l).2:Int).toNat (BV l).1++Lg ((↑(Ld Found.dv (BV l).1).length:Int).toNat-(↑(BV l).2:Int).toNat) (Found.mk 0 (Zz.mk 0 0 0))++L3 ((↑(BV l).2:Int).toNat+(Lg ((↑(Ld Found.dv (BV l).1).length:Int).toNat-(↑(BV l).2:Int).toNat) (Found.mk 0 (Zz.mk 0 0 0))).length) (BV l).1)=Ld Found.dv (Ll (BV l).2 (BV l).1++Lg ((BV l).1.length-(BV l).2) HT)) Fz
def Zgx(h:Heap)(hw:Zx h.W)(e:(CH h).2=0):Ad prog 4 (HD f107) (Tg.st ⟨tm 17 [(0,h.av)],[],1⟩) (Tg.st ⟨tm 17 [(4,.ow 17008)],[(17008,.arr 212 4 ((CH h).1.map Found.dv))],20⟩):=by refine D1 [((8:Nat),[Hint.call La (AV.tu [AV.ow (0:Nat),nI (0:Int)]) [Z3.arr 212 (4:Nat) (Ld Found.dv (CH h).1)]])] [] [] (φ:=GP 156 [h.av] La (AV.tu [AV.ow (0:Nat),nI (0:Int)]) [Z3.arr 212 (4:Nat) (Ld Found.dv (CH h).1)]) ?_ kr kr kr kr;exact(@Zj1 (h) aa aa)
def Zjw(h:Heap)(hw:Zx h.W)(e:¬ (CH h).2=0):GP 107 [h.av] La (.tu [Z2 [],nI (CH h).2]) []:=by exact gF [] func107 []<|Fc 8 (@Zgh h aa aa)<|Ftb 12 ((CH h).2 != 0)<|Fnl Fz
end Go.Proofs.YtgedmeaemofdkaaGreat
namespace Go.Proofs.YtgedmeaemofdkaaGreat
open Go.Sx Go.RowKit
def Zlg{Ow Im0 w0 ρ w Im H clk x v}{s:Nat}{els:List (List DV)}{β:Bi}(I:Sx.Inv Ow Im0 w0 ρ w Im H clk)(hx:Zj ρ w Im x v)(h:G6 H x=M (s,els))(d:∀a n c,v=.slice (M a) n c->n≠0->β.g=M a.block):CR w (λg=>Im g\/β.g=M g) (.sl s els) v:=by
 obtain⟨p,c,rfl,j,m,hl,b⟩:=Aw I hx h;by_cases f:els=[];subst f;exact .slNil _ _ _;rcases b with b|⟨q,rfl,z,b⟩;exact absurd b f;have t:els.length≠0:=by simpa using f
 refine .sl s els q els.length c (λi o=>(w.cell? ⟨q.block,q.off+(i*s+o),Lb⟩).getD undef) rfl m j (hl f) z (.inr (d q _ c rfl t)) ?_ ?_;intro i e o y k l;obtain⟨u,k1,_⟩:=b i e o y k l;rw[k1];rfl;intro i e o y k l;obtain⟨u,k1,k2⟩:=b i e o y k l;rw[k1];exact k2.mono (Sx.Ext.refl _ _) (λg r=>.inl r)
def Ro(β:Bi):ZQ:=λb=>if b=0 then M β else Lb
def TT{β κ:Bi}{b:Nat}(h:Ro β b=M κ):b=0/\κ=β:=by unfold Ro at h;split at h;cases h;exact⟨aa,rfl⟩;cases h
def Z30{β g}(h:OwA (H8 (Ro β)) g):β.g=M g:=by obtain⟨b,κ,c,a⟩:=h;rw[(TT c).2]at a;exact a
def ZgY(l:List Found)(hl:l.length<=1048576){w:World}{Im:Nat->Prop}{β v}(a0:∀g,Im g->g<w.heap.size)(hB:RelB (Ro β) w Im β (.arr 212 4 (l.map Found.dv)))(r:∀g,β.g=M g->g<w.heap.size/\¬ Im g)(hv:Zj (Ro β) w Im (.ow 0) v):Calls prog 158 #[v,.func (.func 159) #[] #[]] w λe w'=>∃u,∃Im':Nat->Prop,e=.returned u/\Kept (λg=>β.g=M g) w w' /\ (∀g,Im' g->(Im g\/β.g=M g\/w.heap.size<=g)/\g<w'.heap.size)/\CR w' Im' (.sl 4 ((l.filter Ev).map Found.dv)) u:=by
 refine calls_of_wp func158 (c:=HD f158) kr ?_;have I0:Sx.Inv (H8 (Ro β)) Im w (Ro β) w Im (C1 [(0,.arr 212 4 (l.map Found.dv))]) 1:=by(refine⟨Kept.refl _ _,λb b' κ κ' g _ _ p f _ _=>by rw[(TT p).1,(TT f).1],λb κ g _ p f=>?_,λb κ g p f=>?_,λb κ g p f=>?_,a0,λg h=>.inl h,λb B q=>?_,λb hb _=>?_,⟨Lk _,λ_ _ _ h=>h⟩⟩;rw[(TT p).2]at f;exact(r g f).2;rw[(TT p).2]at f;exact(r g f).1;exact .inr ⟨b,κ,p,f⟩;simp only[C1]at q;split at q;rename_i hb;cases q;subst hb;exact⟨β,rfl,hB⟩;cases q;unfold Ro;rw[if_neg oq])
 have S:Sx.Sys (H8 (Ro β)) Im w (tm 42 [(0,.ow 0),(1,.fn 159 [])]) (C1 [(0,.arr 212 4 (l.map Found.dv))]) 1 {tmps:=#[v,.func (.func 159) #[] #[]]++LI (Tryz.f158.ntmps-(#[v,.func (.func 159) #[] #[]]:Array Value).size) undef,defers:=[]} w:=by(refine⟨_,Im,I0,⟨by kernel_rfl,λk y u hy hu=>?_,rfl⟩⟩;rw[show tm 42 [(0,.ow 0),(1,.fn 159 [])]=[.ow 0,.fn 159 []]++Lg 40 .any from by kernel_rfl,LR]at hy;rw[LH]at hu;split at hy;rename_i hk;have a1:k<2:=hk;rw[if_pos (show k<(#[v,.func (.func 159) #[] #[]]:Array Value).size from a1)]at hu;rcases k with _|_|k;cases hy;cases hu;exact hv;cases hy;cases hu;exact .fn rfl (λi a v h=>by simp at h);omega;have:=Ls hy;rw[(Lw.1 this).2];exact .any _)
 have fin:∀(x:AV) (els:List (List DV)) (L:List (List DV)) (t:Nat) (d:Act) (w':World),Sx.Sys (H8 (Ro β)) Im w (tm 42 [(4,x)]) (C1 [(0,.arr 212 4 els)]) t d w'->(tm 42 [(4,x)]).getD 4 .any=x->(x=.ow 0\/∃o n,x=.os 0 o n)->G6 (C1 [(0,.arr 212 4 els)]) x=M (4,L)->L=(l.filter Ev).map Found.dv ->
   bodyPost prog f158 (λe w'=>∃u,∃Im':Nat->Prop,e=.returned u/\Kept (λg=>β.g=M g) w w'/\(∀g,Im' g->(Im g\/β.g=M g\/w.heap.size<=g)/\g<w'.heap.size)/\CR w' Im' (.sl 4 ((l.filter Ev).map Found.dv)) u) .ret d w':=by
  rintro x els L t d w' ⟨ρ,Im',I,T⟩ hx4 hx hc hL;refine bodyPost_ret (results_tmp rfl _ _ _) T.defers ?_;have s:Zj ρ w' Im' x (d.tmps.getD 4 undef):=by
   have:=Ed T (.tmp 4);rw[show ev (tm 42 [(4,x)]) (.tmp 4)=(tm 42 [(4,x)]).getD 4 .any from rfl,hx4]at this;exact this
  generalize d.tmps.getD 4 undef=u at s;obtain⟨κ,k1,k2⟩:=I.blk 0 _ rfl;have hκ:∀g,κ.g=M g->w.heap.size<=g\/β.g=M g:=λg h=>(I.own 0 κ g k1 h).imp (·.1) Z30;refine⟨u,λg=>Im' g\/κ.g=M g,rfl,I.kept.imp λ_ q=>Z30 q,λg h=>?_, ?_⟩
  .rcases h with h|h
   .refine⟨?_,I.imb g h⟩;rcases I.im0 g h with q|q|q
    .exact .inl q
    .exact .inr (.inr q)
    .exact .inr (.inl (Z30 q))
   .refine⟨?_,I.bnd 0 κ g k1 h⟩;rcases hκ g h with q|q
    .exact .inr (.inr q)
    .exact .inr (.inl q)
  .rw[<-hL];refine Zlg I s hc λa n c hv hn=>?_;subst hv;rcases hx with rfl|⟨o,m,rfl⟩
   .generalize j:XH (M a) n c=vv at s;cases s with
    |ow z h2 h3 h4 =>
     injection j with e1 e2 e3;rw[k1]at z;cases z;rcases h4 with h4|⟨g,r,e,_⟩
     .omega
     .rw[<-e1]at e;cases e;exact r
   .generalize j:XH (M a) n c=vv at s;cases s with
    |os z h2 h3 h4 h5 =>
     injection j with e1 e2 e3;rw[k1]at z;cases z;rcases h5 with h5|⟨g,r,e,_⟩
     .omega
     .rw[<-e1]at e;cases e;exact r
 by_cases h:Co l<l.length;refine wp_mono (ZbR l hl h _ _ _ _ _ S) ?_;rintro e d w' ⟨rfl,S1⟩;obtain⟨d1,d2,d3⟩:=Z4P h;refine fin (.os 0 0 (BV l).2) _ _ _ d w' S1 rfl (.inr ⟨_,_,rfl⟩) rfl ?_;have d5:(BV l).2<=(BV l).1.length:=by have:(BV l).1.length=l.length:=d2;have:(BV l).2<=l.length:=d3;omega
 rw[List.drop_zero,<-L4,List.take_append_of_le_length (by rw[List.length_take];omega),List.take_take,Nat.min_self];exact congrArg _ d1;refine wp_mono (Zg3 l hl h _ _ _ _ _ S) ?_;rintro e d w' ⟨rfl,S1⟩;refine fin (.ow 0) _ _ _ d w' S1 rfl (.inl rfl) rfl ?_;rw[Zh3 h]
def Z1D{P:Program}{o:Oper}{a:Act}{w:World}{x:Operand}(b:o.op=.assign x):(execOp a.eval o).run P w=.ok (.value (a.eval x)) w:=by simp[execOp,b]
def Z4Z{P:Program}{o:Oper}{a:Act}{w:World}{x:Operand}(b:o.op=.move x):(execOp a.eval o).run P w=.ok (.value (a.eval x)) w:=by simp[execOp,b]
def Zhp(h:Heap)(hw:Zx h.W)(e:(CH h).2=0):GP 107 [h.av] La (.tu [Z2 (((CH h).1.filter Ev).map (·.addr)),nI 0]) []:=by
 intro b0 Im vs c3 b8 a7;rw[<-callsIn_wide (n:=10)];refine callsIn_of_wp func107 (c:=HD f107) kr trivial ?_ rfl;have b7:vs.size=1:=b8;have S0:Sx.Sys Gl Im b0 (tm 17 [(0,h.av)]) (C1 []) 1 {tmps:=vs++LI (Tryz.f107.ntmps-vs.size) undef,defers:=[]} b0:=by(refine⟨_,Im,Sx.Inv.empty c3 (Lk 1),⟨by rw[b7];simp[b7];kernel_rfl,λk y v hy hv=>?_,rfl⟩⟩;rw[show tm 17 [(0,h.av)]=[h.av]++Lg 16 .any from by kernel_rfl,LR]at hy;rw[LH]at hv;split at hy;rename_i hk;rw[if_pos (by rw[b8];exact hk)]at hv;exact a7 k y v hy hv;have:=Ls hy;rw[(Lw.1 this).2];exact .any _)
 generalize hR:(λe w'=>∃v,e=Ending.returned v/\RG b0 Im La (AV.tu [Z2 (((CH h).1.filter Ev).map (·.addr)),nI 0]) [] v w')=R;generalize hQ:bodyPost prog f107 R=Q;refine Zgx h hw e 10 Q _ _ _ _ _ S0 ?_;rintro a1 w1 ⟨ρ1,b9,I1,T1⟩;obtain⟨v4,t4,r4⟩:=T1.at (t:=4) (x:=.ow 17008) rfl;obtain⟨β,m,n⟩:=I1.blk 17008 _ rfl;have c8:a1.tmps.size=17:=T1.size;have er:rest prog 10 4 (HD f107) Q a1 w1=(LM 4 (BM f107 4) Lc).wpIn Lf 10 prog (Exit.then (Xo.wpIn Lf 10 prog Q) Q) a1 w1:=by kernel_rfl
 rw[er];refine wpIn_region ?_;rw[show Lq (BM f107 4).size=[0,1,2,3,4]from by kernel_rfl];refine Nj (o:=(BM f107 4).getD 0 O) kr kr (IR (ro:=Lb) (by intro c h;cases h) (Sn (Z4Z (x:=.tmp 4) kr) ?_));rw[show((BM f107 4).getD 0 O).dst=M 14 from by kernel_rfl,Io t4];generalize a5:a1.put (M 14) v4=a2;have d2:a2.tmps[14]?=M v4:=by rw[<-a5];exact AK oq
 have c9:a2.tmps.size=17:=by rw[<-a5];show(a1.tmps.setIfInBounds 14 v4).size=17;rw[LZ];exact c8
 have c5:a2.defers=[]:=by rw[<-a5];exact T1.defers
 have a8:(execOp a2.eval ((BM f107 4).getD 1 O)).run prog w1=.ok (.enter 158 #[v4,.func (.func 159) #[] #[]]) w1:=by
  have l:((BM f107 4).getD 1 O).op=.call ⟨.value (.func 158),#[.tmp 14,.func 159],MP ((BM f107 4).getD 1 O)⟩:=by kernel_rfl
  have:=RY (P:=prog) (f:=158) kr #[v4,.func (.func 159) #[] #[]] w1;have a9:∀f,a2.eval (.func f)=.func (.func f) #[] #[]:=λf=>rfl;have j:=Io d2;generalize (BM f107 4).getD 1 O=o at l⊢;simp[execOp,l,resolve,a9,j,LN,invoke,this]
 refine Nj (o:=(BM f107 4).getD 1 O) kr kr (IR (ro:=Lb) (by intro c h;cases h) ?_);unfold LC;rw[a8,Xj];have al:=Zj7 h;refine(ZgY (CH h).1 oq (w:=w1) (Im:=b9) (β:=β) I1.imb (by
  obtain⟨b1,b2,b3,b4,b5⟩:=n;refine⟨b1,b2,b3,b4,b5⟩) (λg z=>⟨I1.bnd _ _ g m z,I1.notIm _ _ g ⟨_,rfl,by simp⟩ m z⟩) (by
  cases r4 with
  |ow h1 h2 h3 h4=>rw[m]at h1;cases h1;exact .ow rfl h2 h3 h4)).mono ?_
 rintro e w2 ⟨u,c0,rfl,K2,b6,hu⟩;rw[show((BM f107 4).getD 1 O).dst=M 15 from by kernel_rfl];show wpOpsIn _ _ _ _ _ [2,3,4] (a2.put (M 15) u) w2;generalize a6:a2.put (M 15) u=a3;have d3:a3.tmps[15]?=M u:=by rw[<-a6];exact AK oq
 have d0:a3.tmps.size=17:=by rw[<-a6];show(a2.tmps.setIfInBounds 15 u).size=17;rw[LZ];exact c9
 have c6:a3.defers=[]:=by rw[<-a6];exact c5
 have s:(execOp a3.eval ((BM f107 4).getD 2 O)).run prog w2=.ok (.enter 157 #[u]) w2:=by
  have l:((BM f107 4).getD 2 O).op=.call ⟨.value (.func 157),#[.tmp 15],MP ((BM f107 4).getD 2 O)⟩:=by kernel_rfl
  have:=RY (P:=prog) (f:=157) kr #[u] w2;have a9:∀f,a3.eval (.func f)=.func (.func f) #[] #[]:=λf=>rfl;have j:=Io d3;generalize (BM f107 4).getD 2 O=o at l⊢;simp[execOp,l,resolve,a9,j,LN,invoke,this]
 refine Nj (o:=(BM f107 4).getD 2 O) kr kr (IR (ro:=Lb) (by intro c h;cases h) ?_);unfold LC;rw[s,Xj];refine(Zaa ((CH h).1.filter Ev) (by have:=List.length_filter_le Ev (CH h).1;omega) w2 c0 #[u] (λg z=>(b6 g z).2) rfl (λi x v hx hv=>by
  rcases i with _|i;cases hx;cases hv;exact .d hu;simp at hx)).mono ?_
 rintro e w3 ⟨b,rfl,K3,ρ3,p,c1,c2,_,_,d4,_,r2⟩;rw[show((BM f107 4).getD 2 O).dst=M 16 from by kernel_rfl];show wpOpsIn _ _ _ _ _ [3,4] (a3.put (M 16) b) w3;have d1:CR w3 p (.sl 1 ((((CH h).1.filter Ev).map (·.addr)).map wD)) b:=by(cases r2 with|d r=>exact r)
 refine Nj (o:=(BM f107 4).getD 3 O) kr kr (IR (ro:=Lb) (by intro c h;cases h) (Sn (Z1D (x:=.tmp 16) kr) ?_));refine Nj (o:=(BM f107 4).getD 4 O) kr kr (IR (ro:=Lb) (by intro c h;cases h) (Sn (Z1D (x:=.const (.int .i64 0)) kr) ?_));rw[show((BM f107 4).getD 3 O).dst=M 2 from by kernel_rfl,show((BM f107 4).getD 4 O).dst=M 3 from by kernel_rfl,Io (a:=a3.put (M 16) b) (AK oq)];have a0:(a3.put (M 16) b).tmps.size=17:=by show(a3.tmps.setIfInBounds 16 b).size=17;rw[LZ];exact d0
 generalize c4:a3.put (M 16) b=a4 at a0⊢;have c7:a4.defers=[]:=by rw[<-c4];exact c6
 have t2:(a4.put (M 2) b).tmps[2]?=M b:=AK oq;have d5:(a4.put (M 2) b).tmps.size=17:=by show(a4.tmps.setIfInBounds 2 b).size=17;rw[LZ];exact a0
 refine wpIn_ret ?_;show Q .ret _ w3;rw[<-hQ];refine bodyPost_ret (results_tmp2 rfl _ _ _) (show a4.defers=[]from c7) ?_;rw[<-hR];have q2:=Io (SJ (u:=.int .i64 0) t2 (show 3≠2 by decide));have q3:=Io (a:=(a4.put (M 2) b).put (M 3) (.int .i64 0)) (AK (u:=.int .i64 0) oq);have s1:=I1.kept.size;have s2:=K2.size;refine⟨_,rfl,RN (RN I1.kept.no K2 (λg z=>(I1.own _ _ g m z).elim (·.1) (λh=>h.no.elim))) K3 (λ_ h=>h.elim),λ_=>Lb,p,λg z=>.inr ?_,c2,λ_ _ _ q=>(by cases q),λ_ _ _ _ _ q=>(by cases q),λ_ _ q=>(by cases q),λk B q=>by simp at q,.tu _ _ rfl λi x v hx hv=>?_⟩;rcases c1 g z with q|q;cases q.1;omega;rcases i with _|_|i;cases hx;cases hv;show Zj (λ_=>Lb) w3 p _ (((a4.put (M 2) b).put (M 3) (.int .i64 0)).tmps.getD 2 undef);rw[show((a4.put (M 2) b).put (M 3) (.int .i64 0)).tmps.getD 2 undef=b from q2];exact .d d1;cases hx;cases hv;show Zj (λ_=>Lb) w3 p _ (((a4.put (M 2) b).put (M 3) (.int .i64 0)).tmps.getD 3 undef);rw[show((a4.put (M 2) b).put (M 3) (.int .i64 0)).tmps.getD 3 undef=.int .i64 0 from q3];exact .d (.sc _ rfl);simp at hx
def Z8n(h:Heap)(e:(CH h).2=0):Zb h=(((CH h).1.filter Ev).map (·.addr),0):=by have a:=OJ h;unfold Zb;rw[a,e];simp only[Prod.mk.injEq,and_true];rw[List.filter_map];congr 1;refine List.filter_congr λx c=>?_;have:=(Z37 x c).1;simp only[Function.comp,CZ,Ev,this];by_cases b:(Z6 h x.addr).1.K=0<;>simp[b]
def Z7q(h:Heap)(e:¬ (CH h).2=0):Zb h=([],(CH h).2):=by
 have b:=OJ h;have c:(CH h).1=[]:=by(unfold CH at e⊢;split at e;rename_i a;rw[if_pos a];exact ZcK h _ _ e;rename_i a;rw[if_neg a])
 unfold Zb;rw[b,c];rfl
def SQ(h:Heap)(a:Zx h.W):GP 107 [h.av] La (.tu [Z2 (Zb h).1,nI (Zb h).2]) []:=by by_cases e:(CH h).2=0;rw[Z8n h e];exact Zhp h a e;rw[Z7q h e];exact Zjw h a e
end Go.Proofs.YtgedmeaemofdkaaGreat
namespace Go.Proofs.YtgedmeaemofdkaaGreat
open Go.Sx
def Zad{h:Heap}{i o}(e:(address h.C i o).2=0):Bf h i o=4096+(i*h.C.pw+o)/\0<=i/\i<h.C.pg/\0<=o/\o<h.C.pw:=by unfold address at e;split at e;rename_i c;split at e;rename_i a;have b:=a;unfold inB at a;simp at a;refine⟨?_,by omega,by omega,by omega,by omega⟩;unfold Bf address;rw[if_pos c,if_pos b];simp at e;simp at e
def Z3h{h i}:∀{f:Nat} {o:Int},∀x∈(EY h i f o).1,4096+(i*h.C.pw+o)<=x.addr/\x.addr<4096+(i*h.C.pw+h.C.pw)
 |0,o,x,hx=>by simp[EY]at hx
 |f+1,o,x,hx=>by
  unfold EY at hx;split at hx
  .split at hx
   .rename_i a;have ha:=Zad a.1;rcases Lo.1 hx with rfl|hx
    .simp only;omega
    .have:=Z3h x hx;have:=Ip (Z6 h (Bf h i o)).1;omega
   .simp at hx
  .simp at hx
def Z7T{h i}:∀{f:Nat} {o:Int},((EY h i f o).1.map (·.addr)).Pairwise (· < ·)
 |0,o=>by simp[EY]
 |f+1,o=>by
  unfold EY;split
  .split
   .rename_i a;have ha:=Zad a.1;have hs:=Z1b a.2;rw[Xx,List.pairwise_cons];refine⟨λy c=>?_,Z7T⟩;obtain⟨x,b,rfl⟩:=LB.1 c;have:=(Z3h x b).1;simp only;omega
   .simp
  .simp
def Z3p{h i}:∀x∈(BX h i).1,4096+i*h.C.pw<=x.addr/\x.addr<4096+(i+1)*h.C.pw:=by
 intro x a;have e:(i+1)*h.C.pw=i*h.C.pw+h.C.pw:=by rw[Xq,Xr]
 unfold BX Hn at a;split at a;split at a;have:=Z3h x a;omega;simp at a;simp at a
def ZjK(h:Heap) i:((BX h i).1.map (·.addr)).Pairwise (· < ·):=by unfold BX Hn;split;split;exact Z7T;simp;simp
def Zab{h:Heap}(a:0<=h.C.pw):∀(f i:Nat),∀x∈(CW h f i).1,4096+i*h.C.pw<=x.addr
 |0,i,x,hx=>by simp[CW]at hx
 |f+1,i,x,hx=>by
  unfold CW at hx;split at hx
  .split at hx
   .rcases Xf.1 hx with hx|hx
    .exact(Z3p x hx).1
    .have:=Zab a f (i+1) x hx;have e:((i+1:Nat):Int)*h.C.pw=i*h.C.pw+h.C.pw:=by push_cast;rw[Xq,Xr]
     omega
   .simp at hx
  .simp at hx
def Z7c{h:Heap}(c:0<=h.C.pw):∀(f i:Nat),((CW h f i).1.map (·.addr)).Pairwise (· < ·)
 |0,i=>by simp[CW]
 |f+1,i=>by
  unfold CW;split
  .split
   .rw[LS,Xg];refine⟨ZjK h i,Z7c c f (i+1),λa d b g=>?_⟩;obtain⟨x,j,rfl⟩:=LB.1 d;obtain⟨y,k,rfl⟩:=LB.1 g;have h1:=(Z3p x j).2;have h2:=Zab c f (i+1) y k;have e:((i+1:Nat):Int)*h.C.pw=((i:Int)+1)*h.C.pw:=by push_cast;rfl
    omega
   .simp
  .simp
def Z0M(h:Heap):(CN h).1.Pairwise (· < ·):=by rw[OJ h];unfold CH;split;rename_i a;exact Z7c (by have:=B6 a;omega) _ _;simp
def Mk(h:Heap):(Zb h).1.Pairwise (· < ·):=by unfold Zb;exact(Z0M h).filter _
def ZS(l:List Int)(v:Int):Nat:=(l.takeWhile (λx=>Le (x<v))).length
def Z9y l(v:Int):ZS l v<=l.length:=by unfold ZS;exact(List.takeWhile_sublist _).length_le
def Z1M{l:List Int}{v:Int}(hs:l.Pairwise (· < ·)){k:Nat}(c:k<l.length):(l.getD k O<v↔k<ZS l v):=by
 have e:l.getD k O=l[k]:=by rw[Lh,Lt c];rfl
 rw[e];constructor;intro h;by_cases f:k<ZS l v;exact f;exfalso;have d:ZS l v<l.length:=by omega
 have a:=Ao (λx=>Le (x<v)) l d;have b:¬ l[ZS l v]<v:=by(have:Le (l[ZS l v]<v)=Lc:=a;simpa using this)
 rcases XE (ZS l v) k with hlt|hge;have:=XB.1 hs (ZS l v) k d c hlt;omega;have:ZS l v=k:=by omega
 simp only[this]at b;exact b h;intro h;obtain⟨h1,a⟩:=Au _ _ _ h;simpa using a
def ZkW{l:List Int}{v:Int}(hs:l.Pairwise (· < ·)):(v∈l↔ZS l v<l.length/\l.getD (ZS l v) O=v):=by
 constructor;intro h;obtain⟨k,a,e⟩:=List.getElem_of_mem h;have f:l.getD k O=v:=by rw[Lh,Lt a,<-e];rfl
 have b:¬ k<ZS l v:=λq=>by have:=(Z1M (v:=v) hs a).2 q;omega
 have c:k=ZS l v:=by
  rcases XE (ZS l v) k with hlt|hge;have d:ZS l v<l.length:=by omega
  have h3:¬ l.getD (ZS l v) O<v:=λq=>by have:=(Z1M (v:=v) hs d).1 q;omega
  have h4:=XB.1 hs (ZS l v) k d a hlt;have e5:l.getD (ZS l v) O=l[ZS l v]:=by rw[Lh,Lt d];rfl
  omega;omega
 subst c;exact⟨a,f⟩;rintro⟨b,c⟩;rw[<-c,Lh,Lt b];exact List.getElem_mem b
def Mq x:GP 174 [uU x] La (bL Lc) []:=by exact gF [] func174 [La]<|Fbs ((x != x)=Lc) Fz
def Z9n x:GP 208 [uU x] La (bL Lc) []:=by exact gF [] func208 [La]<|Fbs ((x != x)=Lc) Fz
def Z6X x y:GP 173 [uU x,uU y] La (bL (Le (x<y))) []:=by exact gF [] func173 []<|Fc 6 (@Z9n x)<|FcG 9 Lc (λa=>by(try simp only[bs]at a);exact@Z9n y) Fz
def bsL(l:List Int)(v:Int)(i j:Nat):Tg:=⟨tm 54 [(0,Z2 l),(1,uU v),(4,nI 0),(5,bL Lc),(6,nI l.length),(7,nI i),(8,nI j)],[],60⟩
section
variable(l:List Int)(v:Int)(hl:l.length<=1048576)(i j:Nat)(hij:i<j)(hj:j<=l.length)
include hl hij hj
theorem Zit(hlt:l.getD ((i+j)/2) O<v):CP (Zm f127 0) (bsL l v i j).st .nrm (bsL l v ((i+j)/2+1) j).st:=by rcases bb (Le (l.getD (((i:Int)+(j:Int))/2).toNat O<v))with hc0|hc0<;>have hc0p:=hc0<;>simp only[bs]at hc0p;let y0:=(i:Int)+(j:Int);exact sF [] []<|Fh 27 [.call La (bL (Le (l.getD (y0/2).toNat O<v))) [],.br La]<|Ftb 15 (Le ((i:Int)<(j:Int)))<|Fi 18 y0<|Fv 19 y0<|Fg 20 (HI rfl dd:y0.fdiv (2^min (Xs 1) 64)=y0/2)<|Fo ((0:Int)<=1)<|Fi 21 (y0/2)<|Fe 24 wD l (y0/2)<|Fa (@Z6X (l.getD (y0/2).toNat O) v)<|Fa hc0<|Fi 29 (y0/(2:Int)+1) Fz;contradiction
theorem ZiF(hlt:¬ l.getD ((i+j)/2) O<v):CP (Zm f127 0) (bsL l v i j).st .nrm (bsL l v i ((i+j)/2)).st:=by rcases bb (Le (l.getD (((i:Int)+(j:Int))/2).toNat O<v))with hc0|hc0<;>have hc0p:=hc0<;>simp only[bs]at hc0p;contradiction;let y0:=(i:Int)+(j:Int);exact sF [] []<|Fh 27 [.call La (bL (Le (l.getD (y0/2).toNat O<v))) [],.br Lc]<|Ftb 15 (Le ((i:Int)<(j:Int)))<|Fi 18 y0<|Fv 19 y0<|Fg 20 (HI rfl dd:y0.fdiv (2^min (Xs 1) 64)=y0/2)<|Fo ((0:Int)<=1)<|Fi 21 (y0/2)<|Fe 24 wD l (y0/2)<|Fa (@Z6X (l.getD (y0/2).toNat O) v)<|Fa hc0 Fz
end
def Z9m l v i:CP (Zm f127 0) (bsL l v i i).st (.ext 0) (Tg.st ⟨tm 54 [(0,Z2 l),(1,uU v),(6,nI l.length),(7,nI i)],[],60⟩):=by exact sF [] []<|Ffb 15 (Le ((i:Int)<(i:Int))) Fz
def bsGo(l:List Int)(v:Int)(hl:l.length<=1048576)(hs:l.Pairwise (· < ·)):∀(f i j:Nat),j<=i+f->i<=ZS l v->ZS l v<=j->j<=l.length ->
  Gm prog f127 0 (bsL l v i j).st (.ext 0) (Tg.st ⟨tm 54 [(0,Z2 l),(1,uU v),(6,nI l.length),(7,nI (ZS l v))],[],60⟩):=by
 intro f;induction f with
 |zero =>
  intro i j m d e c;obtain⟨rfl,rfl⟩:i=ZS l v/\j=ZS l v:=by omega
  exact .endx (Z9m l v _)
 |succ f h =>
  intro i j m d e c;by_cases b:i<j;have g:=Z1M hs (v:=v) (k:=(i+j)/2) oq;by_cases a:l.getD ((i+j)/2) O<v
  .have:=g.1 a;exact .next (Zit l v hl i j b c a) (h ((i+j)/2+1) j oq oq e c)
  .have:¬ (i+j)/2<ZS l v:=λq=>a (g.2 q);exact .next (ZiF l v hl i j b c a) (h i ((i+j)/2) oq d oq oq)
  obtain⟨rfl,rfl⟩:i=ZS l v/\j=ZS l v:=by omega
  exact .endx (Z9m l v _)
def Z3v(l:List Int) v(hl:l.length<=1048576)(hs:l.Pairwise (· < ·)):CP (Zi f127 0) (Tg.st ⟨tm 54 [(0,Z2 l),(1,uU v),(4,nI 0),(5,bL Lc),(6,nI l.length),(7,nI 0),(8,nI l.length)],[],60⟩) .nrm (Tg.st ⟨tm 54 [(0,Z2 l),(1,uU v),(6,nI l.length),(7,nI (ZS l v))],[],60⟩):=
 (bsGo l v hl hs l.length 0 l.length oq oq (Z9y l v) (Lk _)).ext kr
def bsearch(l:List Int) v(hl:l.length<=1048576)(hs:l.Pairwise (· < ·)):GP 127 [Z2 l,uU v] La (.tu [nI (ZS l v),bL (Le (v∈l))]) []:=by
 have b:=ZkW (v:=v) hs;have hp:=Z9y l v;by_cases c:ZS l v<l.length;by_cases d:l.getD (ZS l v) O=v;have e:Le (v∈l)=La:=by simpa using b.2 ⟨c,d⟩
 rw[e];exact gF [] func127 (fO 24)<|Fl 11 wD l<|Fu (@Z3v l v aa aa)<|FeG 38 (Le ((↑(ZS l v):Int)<(l.length:Int))) wD l (↑(ZS l v):Int) (ZS l v)<|FeG 45 (Le ((↑(ZS l v):Int)<(l.length:Int))&&!l.getD (ZS l v) O==v) wD l (↑(ZS l v):Int) (ZS l v)<|FcG 47 (Le ((↑(ZS l v):Int)<(l.length:Int))&&!l.getD (ZS l v) O==v) (λa=>by(try simp only[bs]at a);exact@Mq (l.getD (ZS l v) O))<|FcG 50 (Le ((↑(ZS l v):Int)<(l.length:Int))&&!l.getD (ZS l v) O==v&&Lc) (λa=>by(try simp only[bs]at a);exact@Mq v)<|Fr (↑(ZS l v):Int)<|Fb ((Le ((↑(ZS l v):Int)<(l.length:Int))&&(l.getD (ZS l v) O==v||Lc))=La) Fz;have e:Le (v∈l)=Lc:=by(simp only[decide_eq_false_iff_not];exactλq=>d (b.1 q).2)
 rw[e];exact gF [] func127 (fO 24)<|Fl 11 wD l<|Fu (@Z3v l v aa aa)<|FeG 38 (Le ((↑(ZS l v):Int)<(l.length:Int))) wD l (↑(ZS l v):Int) (ZS l v)<|FeG 45 (Le ((↑(ZS l v):Int)<(l.length:Int))&&!l.getD (ZS l v) O==v) wD l (↑(ZS l v):Int) (ZS l v)<|FcG 47 (Le ((↑(ZS l v):Int)<(l.length:Int))&&!l.getD (ZS l v) O==v) (λa=>by(try simp only[bs]at a);exact@Mq (l.getD (ZS l v) O))<|FcG 50 (Le ((↑(ZS l v):Int)<(l.length:Int))&&!l.getD (ZS l v) O==v&&Lc) (λa=>by(try simp only[bs]at a);exact@Mq v)<|Fr (↑(ZS l v):Int)<|Fbs ((Le ((↑(ZS l v):Int)<(l.length:Int))&&(l.getD (ZS l v) O==v||Lc))=Lc) Fz;have e:Le (v∈l)=Lc:=by(simp only[decide_eq_false_iff_not];exactλq=>c (b.1 q).1)
 rw[e];exact gF [] func127 (fO 24)<|Fl 11 wD l<|Fu (@Z3v l v aa aa)<|FeG 38 (Le ((↑(ZS l v):Int)<(l.length:Int))) wD l (↑(ZS l v):Int) (ZS l v)<|FeG 45 (Le ((↑(ZS l v):Int)<(l.length:Int))&&!l.getD (ZS l v) O==v) wD l (↑(ZS l v):Int) (ZS l v)<|FcG 47 (Le ((↑(ZS l v):Int)<(l.length:Int))&&!l.getD (ZS l v) O==v) (λa=>by(try simp only[bs]at a);exact@Mq (l.getD (ZS l v) O))<|FcG 50 (Le ((↑(ZS l v):Int)<(l.length:Int))&&!l.getD (ZS l v) O==v&&Lc) (λa=>by(try simp only[bs]at a);exact@Mq v)<|Fr (↑(ZS l v):Int)<|Fb ((Le ((↑(ZS l v):Int)<(l.length:Int))&&(l.getD (ZS l v) O==v||Lc))=Lc) Fz
def Cs(T:Nat->List Int):Nat->List Int|0=>[]|i+1=>Cs T i++T i
def OY T{i:Nat}:∀{n:Nat},i<=n->∃R,Cs T n=Cs T i++R
 |0,h=>⟨[],by rw[show i=0 by omega];rfl⟩
 |n+1,h=>by
  by_cases q:i=n+1
  .subst q;exact⟨[],by simp⟩
  .obtain⟨R,e⟩:=OY T (i:=i) (n:=n) oq;exact⟨R++T n,by rw[Cs,e,Lr]⟩
def Z64{h T}(g:Gt h T):∀f i,i+f=h.P.length->Cs T i++(Cp h f i).1=Cs T h.P.length
 |0,i,e=>by rw[<-e];simp[Cp]
 |f+1,i,e=>by
  have a:=Z64 g f (i+1) oq;have s:=(g.starts f (i+1) oq).1;unfold Cp;rw[g.page (show i<h.P.length by omega),if_pos rfl,if_pos s,<-a,Cs,Lr]
structure FV (h:Heap) (T:Nat->List Int) (v:Z7):Prop where
 g:Gd h T
 fo:FOk v
 iv:BA v
 pr:Z9 v.j=La
 c:v.j.C=h.C
 pl:v.j.P.length=h.P.length
 ol:v.old=(Zb h).1
 so:Hb v.j.P
 r:v.rep.filled=0
 pm:∀i:Nat,ZJ v i=La->(h.P.getD i O).K=1/\(v.j.P.getD i O).U=(h.P.getD i O).U/\∀x∈T i,(Z1 v.j.W x).1=(Z1 h.W x).1
def wq(h:Heap)(v:Z7)(Q:List Int):Z7:=Cn v (Q.filter (CZ h)).length
def Z1c{v}(d:FOk v)(b:BA v){a:Int}:∀k,k<=v.old.length->(∀j,j<k->Nn v (v.old.getD j O)->a<v.old.getD j O\/v.old.getD j O+Zl v.j.W (v.old.getD j O)<a)->Z1 (Cn v k).j.W a=Z1 v.j.W a
 |0,_,_=>rfl
 |k+1,hk,hh=>by
  have r:=Z1c d b k oq λj hj=>hh j oq;have f:=Px d b k oq;obtain⟨i0,i,n,o,i4,i5,p,q,i8,i9,l,m⟩:=Il v d k;have g:v.old.getD k O∈v.old:=ZT.2 ⟨k,by omega,rfl⟩;have hr:=b.r _ (Ln _ g);have hn:=Bq v.j.W (v.old.getD k O);have h:=hh k oq;have fl:=f.l;rw[<-r];show Z1 (H2 (Cn v k) (v.old.getD k O)).j.W a=_;unfold H2;split
  .rename_i c;have h:=h (by unfold Nn ZJ at *;rw[i,n,o,p,q]at c;exact c);have e:(ZB (Cn v k) (v.old.getD k O)).length=Zl v.j.W (v.old.getD k O):=f.h _ g;have ho:(BE ⟨0,Zl v.j.W (v.old.getD k O),0⟩).length=(Zl v.j.W (v.old.getD k O)).toNat+1:=by simp[BE]
   simp only[e];exact Ap oq oq
  .rfl
section
variable{h:Heap}{T:Nat->List Int}{v:Z7}(f:FV h T v)
include f
theorem FV.all:(CN h).1=Cs T h.P.length:=by
 have e:CN h=Cp h h.P.length 0:=by rw[CN,if_pos f.g.p]
 rw[e,<-Z64 f.g.gt h.P.length 0 oq];simp[Cs]
theorem FV.old:v.old=(Cs T h.P.length).filter (CZ h):=by rw[f.ol,Zb,f.all]
theorem FV.is{Q R:List Int}(e:Cs T h.P.length=Q++R):(Q.filter (CZ h)).length<=v.old.length:=by rw[f.old,e,Lv,Xw];omega
theorem FV.proper{Q R:List Int}(e:Cs T h.P.length=Q++R):Z9 (wq h v Q).j=La:=by have l:=(Px f.fo f.iv _ (f.is e)).l;obtain⟨i0,a,d,g,i,i5,i6,i7,i8,i9,b,c⟩:=Il v f.fo (Q.filter (CZ h)).length;have p:=GU.1 f.pr;refine GU.2 ?_;unfold wq;rw[a,d,g,i,l];exact p
theorem FV.prom{Q}(i:Int):ZJ (wq h v Q) i=ZJ v i:=by obtain⟨i0,i1,c,d,i4,i5,e,i7,i8,i9,a,b⟩:=Il v f.fo (Q.filter (CZ h)).length;unfold ZJ wq;rw[c,d,e]
theorem FV.filOk{Q R:List Int}(e:Cs T h.P.length=Q++R):FilOk (wq h v Q):=by obtain⟨a,i1,d,g,i4,i5,i6,i7,i8,i9,b,c⟩:=Il v f.fo (Q.filter (CZ h)).length;have q:=f.is e;have ol:=f.fo.ol;have r:=f.r;have p:=GU.1 f.pr;refine⟨a.W,a.wl,a.pl, ?_,⟨a.tl, ?_, ?_, ?_⟩, ?_⟩;exact LV a.ql dd;exact LV a.pl dd;unfold wq;rw[g];exact p.2.2.2.1;unfold wq;rw[d];exact f.so;unfold wq;omega
section
variable{Q R:List Int}{y:Int}{i:Nat}(e:Cs T h.P.length=Q++y::R)(hy:y∈T i)
include e hy
theorem FV.nxt:wq h v (Q++[y])=if CJ h.W y=0 then wq h v Q else H2 (wq h v Q) y:=by
 have o:CZ h y=Le (CJ h.W y≠0):=by rw[CZ,f.g.at' hy];rfl
 unfold wq;rw[Lv,Xw];by_cases c:CJ h.W y=0;rw[if_pos c];simp[o,c];rw[if_neg c];have a:([y].filter (CZ h)).length=1:=by simp[o,c]
 have b:v.old.getD (Q.filter (CZ h)).length O=y:=by(rw[f.old,e];simp[Lv,List.filter_cons,o,c])
 rw[a,Cn,b]
theorem FV.skip(d:ZJ v i=Lc):wq h v (Q++[y])=wq h v Q:=by rw[f.nxt e hy];split;rfl;have a:=(Il v f.fo (Q.filter (CZ h)).length).2.1;rw[H2,if_neg];rintro⟨c,_⟩;have b:(wq h v Q).j.C=h.C:=a.trans f.c;rw[b,f.g.ofx hy,f.prom]at c;rw[d]at c;cases c
theorem FV.hd(pm:ZJ v i=La):Z1 (wq h v Q).j.W y=Z1 v.j.W y:=by
 refine Z1c f.fo f.iv _ (f.is e) λj d m=>?_;have b:=Z0M h;rw[f.all,e,Xg]at b;have l:v.old.getD j O∈Q:=by(rw[f.old,e,Lv,Lh,Xa d,<-Lh];exact(Xz.1 (ZT.2 ⟨j,d,rfl⟩)).1)
 have lt:=b.2.2 _ l y pq;have k:v.old.getD j O∈(Zb h).1:=by(rw[<-f.ol];exact ZT.2 ⟨j,by have:=f.is e;omega,rfl⟩)
 obtain⟨g,a,_⟩:=(f.g.objs.2 _).1 k;have c:=m.1;rw[f.c,f.g.ofx a]at c;have:=f.g.sep a hy lt;rw[(Ek ((f.pm g c).2.2 _ a)).2.1];exact .inr this
theorem FV.step(pm:ZJ v i=La):Z6 (wq h v Q).j y=(ZY h.W y,0)/\wq h v (Q++[y])=AZ (wq h v Q) y/\(GY (wq h v Q).j y (Z5 (ZY h.W y))).2=0/\(GY (wq h v Q).j y (Z5 (ZY h.W y))).1.P=(wq h v Q).j.P:=by
 obtain⟨i0,i1,i2,i3,i4,i5,i6,i7,i8,i9,i10,i11⟩:=Il v f.fo (Q.filter (CZ h)).length;have p:=f.pm i pm;have on:=f.g.on hy;have hd:=f.hd e hy pm;have e0:(Z1 (wq h v Q).j.W y).1=(Z1 h.W y).1:=by rw[hd];exact p.2.2 y hy
 obtain⟨o1,o2,o3,o4,o5⟩:=Ek e0;have pr:=f.proper e;have ec:(wq h v Q).j.C=h.C:=i1.trans f.c;have ep:(wq h v Q).j.P=v.j.P:=i2;have b:ZD (wq h v Q).j i=ZD h i:=by rw[ZD,ec];rfl
 have k:=pm;unfold ZJ at k;simp only[decide_eq_true_eq,LO]at k;have at1:Z6 (wq h v Q).j y=(ZY h.W y,0):=by(rw[<-o4];exact at_one pr (i:=i) (by rw[ep];omega) (by rw[ep];exact k.2.2.1) (by rw[b];exact on.2.2.1) (by rw[b,o2,ep,p.2.1];exact on.2.2.2.2.1) (o1 on.2.2.2.2.2.1))
 have hr:=Bq h.W y;have sz:=Rf h.W y;have l:(wq h v Q).j.W.length=v.j.W.length:=(Px f.fo f.iv _ (f.is e)).l;have po:=B6 f.g.p;have pv:=B6 f.pr;have on4:=on.2.2.2.1;have pp:=En f.g.p on.1;have hv:ZU ⟨0,Zl h.W y,0⟩=La:=Gx.2 ⟨by simp,by simp,by simp;omega,by simp;omega,by simp⟩;have wo:(ZX (wq h v Q).j.W y (BE ⟨0,Zl h.W y,0⟩)).2=0:=by
  unfold ZX;rw[if_pos];have ho:(BE ⟨0,Zl h.W y,0⟩).length=(Zl h.W y).toNat+1:=by simp[BE]
  have ms:=EU (i:=i) (j:=h.P.length) (pw:=h.C.pw) (by have:=on.1;omega) oq;have h0:0<=(i:Int)*h.C.pw:=L2 oq oq;have cm:=L1 (h.P.length:Int) h.C.pw;have L:=f.iv.L;rw[f.c]at L;have pp1:=pp.1;have on5:=on.2.2.2.2.1;have on3:=on.2.2.1;have e8:(h.P.length:Int)=h.C.pg:=po.2.2.2.2.2.2.2.1;rw[e8]at ms cm;unfold ZD at on3 on4 on5;omega
 have fh:GY (wq h v Q).j y (Z5 (ZY h.W y))=({ (wq h v Q).j with W:=(ZX (wq h v Q).j.W y (BE ⟨0,Zl h.W y,0⟩)).1},0):=by(rw[GY,sz,if_pos ⟨pr,by omega,by omega⟩,show Zl h.W y+1-1=Zl h.W y by omega,BK,if_pos ⟨pr,hv⟩,if_pos wo])
 refine⟨at1, ?_,by rw[fh],by rw[fh]⟩;rw[f.nxt e hy,AZ,at1,fh];simp only;by_cases c:CJ h.W y=0;rw[if_pos c,if_pos (.inl c)];rw[if_neg c,H2,ec,f.g.ofx hy,f.prom,pm];have c':¬ (ZY h.W y).K=0:=c;have hw:(ZB (wq h v Q) y).length=Zl h.W y:=o2;by_cases d:y∈(wq h v Q).Q;rw[if_neg (λq=>q.2 d),if_pos (.inr d)];rw[if_pos ⟨rfl,d⟩,if_neg (λq=>q.elim c' d),hw]
end
theorem FV.page{i:Nat}{R:List Int}(pm:ZJ v i=La):∀j,j<=(T i).length->Cs T h.P.length=Cs T i++T i++R->Et (wq h v (Cs T i)) (T i) j=wq h v (Cs T i++(T i).take j)
 |0,_,_=>by simp[Et]
 |j+1,hj,e=>by
  have b:=FV.page pm j oq e;have m:(T i).getD j O∈T i:=ZT.2 ⟨j,by omega,rfl⟩;have s:T i=(T i).take j++(T i).getD j O::(T i).drop (j+1):=by
   have:=L5 j (T i);rw[L8 oq]at this;rw[Lh,Lt oq];exact this.symm
  have a:Cs T h.P.length=(Cs T i++(T i).take j)++(T i).getD j O::((T i).drop (j+1)++R):=by
   rw[e];conv=>lhs;rw[s]
   simp
  rw[Et,b,Ae oq,<-Lr,(f.step a m pm).2.1]
theorem FV.pass{i:Nat}{R:List Int}(a:ZJ v i=Lc):∀j,j<=(T i).length->Cs T h.P.length=Cs T i++T i++R->wq h v (Cs T i++(T i).take j)=wq h v (Cs T i)
 |0,_,_=>by simp
 |j+1,hj,e=>by
  have c:=FV.pass a j oq e;have m:(T i).getD j O∈T i:=ZT.2 ⟨j,by omega,rfl⟩;have s:T i=(T i).take j++(T i).getD j O::(T i).drop (j+1):=by
   have:=L5 j (T i);rw[L8 oq]at this;rw[Lh,Lt oq];exact this.symm
  have b:Cs T h.P.length=(Cs T i++(T i).take j)++(T i).getD j O::((T i).drop (j+1)++R):=by
   rw[e];conv=>lhs;rw[s]
   simp
  rw[Ae oq,<-Lr,f.skip b m a,c]
theorem FV.tl{i:Nat}{R:List Int}(n:i<h.P.length)(e:Cs T h.P.length=Cs T i++T i++R)(pm:ZJ v i=La):Ze (wq h v (Cs T i)).j i=(T i,0):=by
 obtain⟨i0,u,z,i3,i4,i5,i6,i7,i8,i9,w,y⟩:=Il v f.fo ((Cs T i).filter (CZ h)).length;have p:=f.pm i pm;have k:=pm;unfold ZJ at k;simp only[decide_eq_true_eq,LO]at k;have t:=(f.g.t1 i n p.1).1;have m:(wq h v (Cs T i)).j.P=v.j.P:=z;have b:ZD (wq h v (Cs T i)).j i=ZD h i:=by rw[ZD,show(wq h v (Cs T i)).j.C=h.C from u.trans f.c];rfl
 have d:Cs T h.P.length=Cs T i++(T i++R):=by rw[e,Lr]
 refine Zhs (f.proper d) (by rw[m,f.pl];exact n) (by rw[m];exact k.2.2.1) ?_;rw[b,m,p.2.1];refine NR t λx g=>?_;obtain⟨j,j1,j2⟩:=ZT.1 g;have c:=Z0M h;have r:Z1 (wq h v (Cs T i)).j.W x=Z1 v.j.W x:=by
  refine Z1c f.fo f.iv _ (f.is d) λj q tf=>?_;have c:=Z0M h;rw[f.all,d,Xg]at c;have mq:v.old.getD j O∈Cs T i:=by(rw[f.old,d,Lv,Lh,Xa q,<-Lh];exact(Xz.1 (ZT.2 ⟨j,q,rfl⟩)).1)
  have lt:=c.2.2 _ mq x (Ln _ g);have mo:v.old.getD j O∈(Zb h).1:=by(rw[<-f.ol];exact ZT.2 ⟨j,by have:=f.is d;omega,rfl⟩)
  obtain⟨s,a,_⟩:=(f.g.objs.2 _).1 mo;have l:=tf.1;rw[f.c,f.g.ofx a]at l;rw[(Ek ((f.pm s l).2.2 _ a)).2.1];exact .inr (f.g.sep a g lt)
 have o:=Ek (show(Z1 (wq h v (Cs T i)).j.W x).1=(Z1 h.W x).1 by rw[r];exact p.2.2 x g);exact⟨o.1 (H9 t g).1,o.2.1⟩
theorem FV.P:∀i,i<=h.P.length->G8 v i=wq h v (Cs T i)
 |0,_=>rfl
 |i+1,hi=>by
  have b:=FV.P i oq;obtain⟨R,e⟩:=OY T hi;have a:Cs T h.P.length=Cs T i++T i++R:=e;rw[G8,b,fpg,f.prom];by_cases pm:ZJ v i=La
  .rw[if_pos pm,f.tl oq a pm];have:=f.page pm (T i).length (Lk _) a;rw[Xh]at this;exact this
  .rw[if_neg pm];have:=f.pass (by simpa using pm) (T i).length (Lk _) a;rw[Xh]at this;exact this.symm
theorem FV.fin:G8 v v.j.P.length=Cn v v.old.length:=by rw[f.pl,f.P _ (Lk _),wq,<-f.old]
theorem FV.fiOk:FiOk v:=by
 have pl:=f.pl;have o:∀i,i<=h.P.length->(G8 v i).j.P=v.j.P:=λi c=>by(rw[f.P i c];exact(Il v f.fo ((Cs T i).filter (CZ h)).length).2.2.1)
 refine⟨λi c=>?_,λi c=>by rw[o i oq],λi c pm=>?_⟩;obtain⟨R,e⟩:=OY T (show i<=h.P.length by omega);rw[f.P i oq];exact f.filOk e;obtain⟨R,e⟩:=OY T (show i+1<=h.P.length by omega);have b:Cs T h.P.length=Cs T i++T i++R:=e;have m:=o i oq;rw[f.P i oq]at pm m⊢;rw[f.prom]at pm;rw[f.tl oq b pm];have p:∀j,j<(T i).length->Cs T h.P.length=(Cs T i++(T i).take j)++(T i).getD j O::((T i).drop (j+1)++R):=λj a=>by
  have s:T i=(T i).take j++(T i).getD j O::(T i).drop (j+1):=by(have:=L5 j (T i);rw[L8 oq]at this;rw[Lh,Lt oq];exact this.symm)
  rw[b];conv=>lhs;rw[s]
  simp
 have mem:∀j,j<(T i).length->(T i).getD j O∈T i:=λj a=>ZT.2 ⟨j,a,rfl⟩;have g:∀j,j<=(T i).length->Et (wq h v (Cs T i)) (T i) j=wq h v (Cs T i++(T i).take j):=λj a=>f.page pm j a b;have t:(T i).length<=4096:=by(have:=f.g.page (show i<h.P.length by omega);have n:=R0 h i;rw[this]at n;exact LV n dd)
 show _=(0:Int)/\FjOk _ (T i);refine⟨rfl,λj a=>?_,t,λj a=>?_,λj a=>?_,λj a _=>?_, ?_⟩;rw[g j a];exact f.filOk (R:=(T i).drop j++R) (by rw[b,Lr,Lr,<-Lr (Ll j (T i)),L5]);have d:=f.g.on (mem j a);have pp:=En f.g.p d.1;have u:=B6 f.g.p;have h0:0<=(i:Int)*h.C.pw:=L2 oq oq;have ms:=EU (i:=i) (j:=h.P.length) (pw:=h.C.pw) (by have:=d.1;omega) oq;have q:=L1 (h.P.length:Int) h.C.pw;have r:(h.P.length:Int)=h.C.pg:=u.2.2.2.2.2.2.2.1;rw[r]at ms q;have k:=d.2.2.1;have l:=d.2.2.2.1;unfold ZD at k l;have wl:=f.fo.wl;have L:=f.iv.L;rw[f.c]at L;omega;rw[g j oq,(f.step (p j a) (mem j a) pm).1];have s:=f.step (p j a) (mem j a) pm;rw[g j oq,s.1];exact s.2.2;rw[g _ (Lk _)];rw[show(wq h v (Cs T i++(T i).take (T i).length)).j.P=v.j.P from(Il v f.fo _).2.2.1,m]
end
end Go.Proofs.YtgedmeaemofdkaaGreat
