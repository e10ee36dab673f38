/-
 The statement CollectHeaps: part 15.
 Conditions: none.
-/
import Derived.RangeFuncFrom
import Derived.RangeFuncLeaves
import Derived.Test.YtgedmeaemofdkaaGreatA14
set_option maxRecDepth 100000
set_option maxHeartbeats 2000000
set_option linter.all false
open Option renaming some->M,none->La,map_eq_some_iff->Xe
open Bool renaming true->O,false->Ld,and_eq_true->LR
open Inhabited renaming default->Lb
open List renaming map->Lc,replicate->Lg,mem_cons->Lh,mem_of_getElem?->Lk,not_mem_nil->Ll,range->Lm,take->Lo,getElem?_eq_some_iff->Lq,length_map->Lr,mem_replicate->Lv,getD_eq_getElem?_getD->LC,all_eq_true->LL,getElem?_append->LM,drop->LV,getElem?_eq_getElem->LW,map_append->LY,map_take->LZ,append_nil->L5,map_cons->L6,map_drop->L7,map_nil->L8,map_set->L9,mem_cons_self->Xa,mem_map->Xb,nodup_nil->Xc,cons_append->Xj,filter_append->Xk,filter_eq_self->Xl,getElem?_cons_succ->Xm,getElem?_cons_zero->Xn,getElem?_of_mem->Xo,length_replicate->Xp,mem_append->Xq,mem_iff_getElem?->Xr,mem_range->Xs,take_succ->Xt,zip_cons_cons->Xu
open Go.Fence renaming wide->Le
open Decidable renaming decide->Lf
open Go.Exit renaming inBlock->Li
open Go.World renaming putObj_heap_other->Lj,putObj_heap_same->Ly,putObj_size->Lz,alloc_heap_new->Xf,cell?->XA,setRow->XB
open Array renaming getElem?_eq_some_iff->Ln,getElem?_append->LA,replicate->LH,getElem?_eq_getElem->LO,size_setIfInBounds->LQ,ext->Xg
open Go.Obj renaming loop->Lp
open Nat renaming le_refl->Ls,lt_of_lt_of_le->Lw,le_trans->L0,beq->Xd,add_zero->Xv,mul_le_mul_right->Xw,zero_add->Xx,zero_mul->Xy
open Go.Oper renaming wp->Lt,upon_enter->L1
open Go.Deferred renaming ofValue->Lu
open Option.some renaming injEq->Lx
open Go.RowKit.Below renaming heap_alloc->LB
open Prod.mk renaming injEq->LD
open Go.Value renaming int->LF,slice->Xz
open Go.Act renaming eval->LG,put->L2
open Go.Code renaming region->LI,seq->LS,exit->Xh,ret->Xi
open Go.Region renaming wanted->LN
open Go.IntKind renaming u32->LU,i64->L4
open Int renaming toNat_natCast->L3
open Go.Proofs.Tryz
namespace Go.Sx
open Go.RowKit
theorem ZfA{P clk ops hints o t}{H:Heap}{x:Out}(h:A8 P clk ops hints o t H=M x):∀c,o.op≠.defer c:=by intro c hc;unfold A8 IV N7 act at h;grind
def fen(ro:Option Nat):Fence:={Le with round:=ro}
theorem Iv{P ro n}{o:Oper}{a w next Q}(hd:∀c,o.op≠.defer c)(h:o.wp P a w next Q):o.wpIn (fen ro) n P a w next Q:=by
 refine⟨λ_ _=>trivial, ?_⟩;rw[Oper.semAt_eq _ _ _ hd];unfold Lt at h;generalize (execOp a.eval o).run P w=r at h⊢;cases r with
 |ok x g =>
  cases x with|value v=>exact h|skip=>exact h|defer d=>exact h|enter f args=>exact⟨λh=>(by cases h),callsIn_wide.2 h⟩|row s args=>exact⟨λh=>(by cases h),λc b _=>let ⟨v,w2,q,r⟩:=h c b;⟨v,w2,q,stepsIn_wide.2 r⟩⟩|_=>exact h.elim
 |halt e g =>
  cases e with|panic v=>exact h|_=>exact h.elim
def AU{P Ow Im0 w0 clk hints ops Q ro n l2}:∀{l:List Nat} {tmps:List AV} {H:Heap} {a:Act} {w:World} {out:Out},
  RA P clk ops hints l tmps H=M out->Sys Ow Im0 w0 tmps H clk a w->B3 out.ph->Ey out.eq->(∀b w',Sys Ow Im0 w0 out.tmps out.H clk b w'->wpOpsIn (fen ro) n P ops Q l2 b w')->wpOpsIn (fen ro) n P ops Q (l++l2) a w
 |[],tmps,H,a,w,out,h,hS,_,_,hQ=>by
  grind[RA]
 |i::l,tmps,H,a,w,out,h,hS,hph,heq,hQ=>by
  simp only[RA]at h;split at h
  .cases h
  rename_i o e;split at h
  .cases h
  rename_i x g;split at h
  .cases h
  rename_i y j;cases h;obtain⟨k,p2⟩:=GZ.1 hph;have d:=Z1X (next:=wpOpsIn (fen ro) n P ops Q (l++l2)) (Q:=Q) g hS k heq.left λb w' c=>AU j c p2 heq.right hQ;simp only[Xj,wpOpsIn,e];split
  .grind[Iv,ZfA]
  .rename_i f;exact⟨λ_ _=>trivial,d.2 ((Bool.not_eq_true _).mp f)⟩
def TH{P Ow Im0 w0 clk hints ops}{Q:Exit->Act->World->Prop}{ro n l tmps}{H:Heap}{a w}{out:Out}(h:RA P clk ops hints l tmps H=M out)(f:Sys Ow Im0 w0 tmps H clk a w)(c:B3 out.ph)(b:Ey out.eq)(e:∀d w',Sys Ow Im0 w0 out.tmps out.H clk d w'->Q .normal d w'):wpOpsIn (fen ro) n P ops Q l a w:=by have:=AU (ro:=ro) (n:=n) (Q:=Q) (l2:=[]) h f c b e;grind
def Rl:Code->Bool|.skip=>O|.region _ _ d=>!d|.seq x y=>Rl x&&Rl y|.cond _ x y=>Rl x&&Rl y|.block _ c=>Rl c|.exit _=>O|.ret=>O|_=>Ld
def CIn(P:Program)(c:Code)(s:St)(e:Ex)(t:St):Prop:=
 ∀(i:Option Nat) (n:Nat) (d:Own) (b:Nat->Prop) (f:World) (a:Act) (w:World),Sys d b f s.tmps s.H s.clk a w->c.wpIn (fen i) n P (λh g j=>h=e.exit/\Sys d b f t.tmps t.H t.clk g j) a w
def ZeE{P:Program}{hints:List (Nat×List Hint)}:∀{c:Code} {s:St} {r:ZI},Rl c=O->Cf P hints [] c s=M r->B3 r.ph->Ey r.eq->CIn P c s r.e r.s:=by
 intro c;induction c with
 |skip=>intro s r _ h _ _ p n o d t a w i;simp only[Cf,Lx]at h;subst h;exact wpIn_skip ⟨rfl,i⟩
 |region m a3 dr =>
  intro s r l h g f p n o d t a w i;cases dr with
  |true=>cases l
  |false =>
   simp only[Cf]at h;split at h;rotate_left
   .cases h
   rename_i x hx;cases h;exact wpIn_region (TH hx i g f λa' w' j=>⟨rfl,j.clk pq⟩)
 |seq x y u z =>
  intro s r l h g f p n o d t a w i;simp only[Rl,LR]at l;simp only[Cf]at h;split at h
  .cases h
  rename_i q v;split at h
  .rename_i he;split at h;rotate_left
   .cases h
   rename_i q2 a1;cases h;obtain⟨p1,p2⟩:=GZ.1 g;refine wpIn_seq (wpIn_mono (u l.1 v p1 f.left p n o d t a w i) ?_);rintro e a' w' ⟨rfl,j⟩;rw[he];exact z l.2 a1 p2 f.right p n o d t a' w' j
  .rename_i he;cases h;refine wpIn_seq (wpIn_mono (u l.1 v g f p n o d t a w i) ?_);rintro e a' w' ⟨rfl,j⟩;cases hqe:q.e with
   |nrm=>grind
   |ext n=>exact⟨rfl,j⟩
   |ret=>exact⟨rfl,j⟩
 |cond c x y u z =>
  intro s r l h g f p n o d t a w i;simp only[Rl,LR]at l;simp only[Cf]at h;split at h
  .cases h
  rename_i b hb;have hv:a.eval c=.bool b:=by
   obtain⟨ρ,Im,I,T⟩:=i;have:=CU T c;rw[OK hb]at this;exact BV this
  split at h
  .split at h;rotate_left
   .cases h
   rename_i q v;cases h;obtain⟨p1,p2⟩:=GW.1 g;exact wpIn_cond_true (by rw[hv,p1]) (u l.1 v p2 f p n o d t a w i)
  .split at h;rotate_left
   .cases h
   rename_i q v;cases h;obtain⟨p1,p2⟩:=GW.1 g;exact wpIn_cond_false (by rw[hv,p1]) (z l.2 v p2 f p n o d t a w i)
  .split at h
   .exact wpIn_cond_true hv (u l.1 h g f p n o d t a w i)
   .exact wpIn_cond_false hv (z l.2 h g f p n o d t a w i)
 |block m c ih =>
  intro s r l h g f p n o d t a w i;simp only[Cf,TN]at h;split at h
  .cases h
  rename_i q v;refine wpIn_block ?_;split at h
  .rename_i k hm;split at h
   .rename_i a0;cases h;refine wpIn_mono (ih l v g f p n o d t a w i) ?_;grind[Ex.exit,Li]
   .rename_i a0;cases h;refine wpIn_mono (ih l v g f p n o d t a w i) ?_;grind[Ex.exit,Li]
  .rename_i a2;cases h;refine wpIn_mono (ih l v g f p n o d t a w i) ?_;rintro e a' w' ⟨rfl,j⟩;cases hqe:r.e with
   |nrm=>exact⟨rfl,j⟩
   |ext k=>grind
   |ret=>exact⟨rfl,j⟩
 |exit n=>intro s r _ h _ _ p n o d t a w i;simp only[Cf,Lx]at h;subst h;exact wpIn_exit ⟨rfl,i⟩
 |ret=>intro s r _ h _ _ p n o d t a w i;simp only[Cf,Lx]at h;subst h;exact wpIn_ret ⟨rfl,i⟩
 |_=>intro s r l;cases l
def Z2u{P}(hints:List (Nat×List Hint)) b fl{c s}{e:Ex}{t}{φ:Prop}(j:φ)(o:Rs fl (Eu P hints [] b c s t)=φ)(p:IF fl (Eu P hints [] b c s t)=IJ fl (Eu P hints [] b c s t))(u:exO (Eu P hints [] b c s t)=M e)(h:Rl c=O):CIn P c s e t.st:=by
 rw[<-o]at j;obtain⟨k1,k⟩:=TV j p;cases hr:Eu P hints [] b c s t with
 |none=>rw[hr]at k1;exact k1.elim
 |some r =>
  rw[hr]at k1 k u;have d:Ey r.eq:=Ai k;have x:r.e=e:=by grind[exO]
  unfold Eu at hr;split at hr;cases hr;rename_i q z;split at hr;cases hr;rename_i s' i;split at hr;rotate_left;cases hr;rename_i l y;cases hr;intro ro n m f w0 a w v;refine wpIn_mono (ZeE h z k1 d.left ro n m f w0 a w v) ?_;rintro e' a' w' ⟨rfl,g⟩;exact⟨by rw[<-x],AQ y d.right (Pd i g)⟩
def HX(k:Nat):Code->Bool
 |.region n _ _=>Xd n k
 |.seq x y=>HX k x||HX k y
 |.cond _ x y=>HX k x||HX k y
 |.block _ c=>HX k c
 |.loop c=>HX k c
 |_=>Ld
def cutAt(k:Nat):Code->Code|.region _ _ _=>.exit 99999|.seq x y=>(match HX k x with|true=>cutAt k x|false=>.seq x (cutAt k y))|.cond c x y=>(match HX k x with|true=>.cond c (cutAt k x) .skip|false=>.cond c .skip (cutAt k y))|.block n c=>.block n (cutAt k c)|c=>c
def noX:Code->Bool|.seq x y=>noX x&&noX y|.cond _ x y=>noX x&&noX y|.block _ c=>noX c|.exit n=>!Nat.beq n 99999|_=>O
def okH(k:Nat):Code->Bool|.region n _ _=>Xd n k|.seq x y=>(match HX k x with|true=>okH k x|false=>noX x&&okH k y)|.cond _ x y=>(match HX k x with|true=>okH k x|false=>okH k y)|.block n c=>!Nat.beq n 99999&&okH k c|_=>Ld
def rest(P:Program)(n k:Nat):Code->(Exit->Act->World->Prop)->Act->World->Prop|.seq x y,Q=>(match HX k x with|true=>rest P n k x (Exit.then (y.wpIn Le n P Q) Q)|false=>rest P n k y Q)|.cond _ x y,Q=>(match HX k x with|true=>rest P n k x Q|false=>rest P n k y Q)|.block m c,Q=>rest P n k c (Li m Q)|c,Q=>c.wpIn Le n P Q
theorem Zgl{P hints}:∀{c:Code} {s:St} {r:ZI},noX c=O->Cf P hints [] c s=M r->r.e≠.ext 99999:=by
 intro c;induction c with|region m i dr =>intro s r _ h;simp only[Cf]at h;grind|seq x y b d =>grind[noX,Cf]|cond c x y b d =>grind[noX,Cf]|block m c g =>intro s r a h;simp only[Cf,TN]at h;split at h;cases h;rename_i q f;have:=g a f;grind|exit n =>intro s r a h;simp only[Cf,Lx]at h;subst h;intro e;cases e;cases a|skip=>grind[Cf]|label n=>grind[Cf]|ret=>grind[Cf]|_=>grind[Cf]
def ZiP{P:Program}{hints:List (Nat×List Hint)}{k n:Nat}:∀{c:Code} {s:St} {r:ZI},okH k c=O->Cf P hints [] (cutAt k c) s=M r->B3 r.ph->Ey r.eq->r.e=.ext 99999 ->
  ∀(Q:Exit->Act->World->Prop) (Ow:Own) (Im0:Nat->Prop) (w0:World) (a:Act) (w:World),Sys Ow Im0 w0 s.tmps s.H s.clk a w->(∀o w',Sys Ow Im0 w0 r.s.tmps r.s.H r.s.clk o w'->rest P n k c Q o w')->c.wpIn Le n P Q a w:=by
 intro c;induction c with
 |region m a0 dr =>
  intro s r _ h _ _ _ Q Ow Im0 w0 a w j f;simp only[cutAt,Cf,Lx]at h;subst h;exact f a w j
 |seq x y z l =>
  intro s r d h i g t Q Ow Im0 w0 a w j f;simp only[okH]at d;simp only[cutAt]at h;simp only[rest]at f;cases hx:HX k x with
  |true =>
   rw[hx]at d h f;grind[wpIn_seq]
  |false =>
   rw[hx]at d h f;simp only[LR]at d;simp only[Cf]at h;split at h
   .cases h
   rename_i q hq;split at h
   .rename_i v;split at h;rotate_left
    .cases h
    rename_i q2 u;cases h;obtain⟨p1,p2⟩:=GZ.1 i;refine wpIn_seq (wpIn_mono (wpIn_wide.2 (Ms hq p1 g.left Ow Im0 w0 a w j)) ?_);rintro e o w' ⟨rfl,p⟩;rw[v];exact l d.2 u p2 g.right t Q Ow Im0 w0 o w' p f
   grind[Zgl]
 |cond c x y z l =>
  intro s r d h i g t Q Ow Im0 w0 a w j f;simp only[okH]at d;simp only[cutAt]at h;simp only[rest]at f;have hv:∀{b:Bool},asB (ev s.tmps c)=M b->a.eval c=.bool b:=λhb=>by
   obtain⟨ρ,Im,I,T⟩:=j;have:=CU T c;rw[OK hb]at this;exact BV this
  cases hx:HX k x with
  |true =>
   rw[hx]at d h f;grind[Cf,GW,wpIn_cond_true]
  |false =>
   rw[hx]at d h f;grind[Cf,GW,wpIn_cond_false]
 |block m c ih =>
  intro s r d h i g t Q Ow Im0 w0 a w j f;simp only[okH,LR]at d;simp only[cutAt,Cf,TN]at h;simp only[rest]at f;grind[wpIn_block]
 |_=>intro s r d;cases d
def RJ(P:Program)(k:Nat)(c:Code)(s t:St):Prop:=
 ∀(n:Nat) (Q:Exit->Act->World->Prop) (d:Own) (b:Nat->Prop) (g:World) (a:Act) (w:World),Sys d b g s.tmps s.H s.clk a w->(∀e f,Sys d b g t.tmps t.H t.clk e f->rest P n k c Q e f)->c.wpIn Le n P Q a w
def SQ{P}(hints:List (Nat×List Hint)) b fl{k c s t}{φ:Prop}(j:φ)(u:Rs fl (Eu P hints [] b (cutAt k c) s t)=φ)(v:IF fl (Eu P hints [] b (cutAt k c) s t)=IJ fl (Eu P hints [] b (cutAt k c) s t))(x:exO (Eu P hints [] b (cutAt k c) s t)=M (.ext 99999))(g:okH k c=O):RJ P k c s t.st:=by
 rw[<-u]at j;obtain⟨k1,m⟩:=TV j v;cases hr:Eu P hints [] b (cutAt k c) s t with
 |none=>rw[hr]at k1;exact k1.elim
 |some r =>
  rw[hr]at k1 m x;have d:Ey r.eq:=Ai m;have z:r.e=.ext 99999:=by grind[exO]
  unfold Eu at hr;split at hr;cases hr;rename_i q hq;split at hr;cases hr;rename_i s' i;split at hr;rotate_left;cases hr;rename_i l hl;cases hr;intro n Q o e w0 a w y h;exact ZiP g hq k1 d.left z Q o e w0 a w y λp w' f=>h p w' (AQ hl d.right (Pd i f))
def Ss(k:Nat):Code->Option (Array Oper)|.region n ops _=>(match Xd n k with|true=>M ops|false=>La)|.seq x y=>(match Ss k x with|some o=>M o|none=>Ss k y)|.cond _ x y=>(match Ss k x with|some o=>M o|none=>Ss k y)|.block _ c=>Ss k c|.loop c=>Ss k c|_=>La
def Bj(fn:Func)(k:Nat):Array Oper:=match fn.body with|some c=>(match Ss k c with|some o=>o|none => #[])|none => #[]
def OQ{s t}(h1:(wk s t).isSome=O)(h2:((wk s t).getD []).map (·.1)=((wk s t).getD []).map (·.2)){Ow Im0 w0 a w}(S:Sys Ow Im0 w0 s.tmps s.H s.clk a w):Sys Ow Im0 w0 t.st.tmps t.st.H t.st.clk a w:=by grind[wk,AQ,Ai]
def M3{ρ:ZK}{w}{Im a:Nat->Prop}{k t:Nat}{e:List DV}{v}{β:Bi}(p:ρ k=M β)(r:RelB ρ w Im β (.box t (e.map .d)))(o:Zj ρ w Im (.pt k 0 0) v)(m:∀g,Im g->a g)(l:∀g,β.g=M g->a g):Zj (λ_=>La) w a (.rp e 0) v:=by
 obtain⟨g,s,n,k1,rfl⟩:=R9 o rfl;rw[p]at k1;cases k1;obtain⟨r1,r2,g2,b,r3,r4,r5,r6,q⟩:=r;cases r3;have:=@Zj.rp (λ_=>La) w a e 0 ⟨g,0,La⟩ rfl (l _ rfl) (λj y f=>by
  have hj:j<e.length:=(Lq.1 f).1;have i:j<b.size:=by grind
  have h:b[j]?=M b[j]:=LO i;have c:=q j (.d y) b[j] (by simp[f]) h;refine⟨b[j], ?_, ?_⟩;grind[XA];cases c with
  |d c=>exact c.mono (Ext.refl _ _) m)
 grind
def Kept.no{w0 w}(h:Kept (OwA EG) w0 w):Kept (λ_=>False) w0 w:=h.imp λ_ q=>q.no
def Inv.empty{w:World}{Im:Nat->Prop}{clk:Nat}(a:∀g,Im g->g<w.heap.size)(c:1<=clk):Inv EG Im w (λ_=>La) w Im (Bn []) clk:=by refine⟨Kept.refl _ _, ?_, ?_, ?_, ?_,a,λ_ h=>.inl h, ?_,λ_ _ _=>rfl,c,λb β _ h=>nomatch h⟩;grind;grind;grind;grind;intro b B h;cases h
def Ck.reSet{D ρ w Im tmps a}(T:Ck D ρ w Im tmps a)(t:Nat) y(h:∀v,a.tmps[t]?=M v->Zj ρ w Im y v):Ck D ρ w Im (tmps.set t y) a:=by refine⟨by simp[T.size],λi x v b c=>?_,T.defers⟩;rw[List.getElem?_set]at b;by_cases d:t=i;grind;simp only[d,if_false]at b;exact T.tmp i x v b c
def Ck.pure{D ρ w Im tmps a}(T:Ck D ρ w Im tmps a)(h:tmps.all (Tv [])=O):Ck D (λ_=>La) w Im tmps a:=
 ⟨T.size,λi x v c d=>Z7R (ids:=[]) (λb e=>by simp at e) (T.tmp i x v c d) (LL.1 h _ (Lk c)),T.defers⟩
def Z4S{P}{n l:Nat}{o:Oper}{f x y:Operand}{p:Array Nat}{a:Act}{w}{next:Act->World->Prop}{Q}{args:Array Value}{R}(k:o.op=.call ⟨.value f,#[x,y],p⟩)(j:a.eval f=.func (.yield l) #[] #[])(m: #[a.eval x,a.eval y]=args)(i:YieldAt Le n P l args w R)(hn:∀e w',R e w'->∃v,e=.returned v/\next (a.put o.dst v) w'):o.wpIn Le (n+1) P a w next Q:=by
 obtain⟨fn,t,s,b,d,g⟩:=i;refine⟨λ_ _=>trivial, ?_⟩;have c:(o.semAt Le.round a.eval).run P w=.ok (.round l fn t s b) w:=by(rw[show Le.round=La from rfl,Oper.semAt_none];simp[execOp,k,resolve,j,Lu,invoke,m,d])
 rw[c,Oper.uponIn_round];refine⟨λh=>(by cases h),g.mono ?_⟩;grind
end Go.Sx
namespace Go.Proofs.YtgedmeaemofdkaaGreat
open Go.Sx
structure Found where
 addr:Int
 hd:ZB
 deriving DecidableEq,Inhabited
def Found.dv(f:Found):List DV:=[.sc (.int .u64 f.addr),.sc (.int .i64 f.hd.K),.sc (.int .i64 f.hd.length),.sc (.int .u32 f.hd.map)]
def Found.av(f:Found):AV:=.ag [uU f.addr,nI f.hd.K,nI f.hd.length,u32 f.hd.map]
def Hf(fn:Func)(n:Nat):Code:=match Zk fn n with|.block _ (.rangeFunc _ _ x _)=>x|_=>.skip
def GN(fn:Func)(n:Nat):Code:=match Zk fn n with|.block _ (.rangeFunc _ _ _ x)=>x|_=>.skip
def S9(pre:List Found):List (Nat×Z4):=[(8020,.arr 212 4 (pre.map Found.dv)),(6,.box 206 [.ow 8020])]
def Z0y(pre:List Found)(x:Found):Tg:=⟨tm 22 [(6,.pt 6 0 0),(12,x.av),(13,nI 0)],S9 pre,20⟩
def A5(pre:List Found)(x:Found):Tg:=⟨tm 22 [(6,.pt 6 0 0),(7,.pt 160007 0 0),(8,nI 0)],(160007,.box 212 [uU x.addr,nI x.hd.K,nI x.hd.length,u32 x.hd.map])::S9 pre,30⟩
def Zag pre x:CIn prog (Hf f183 0) (Z0y pre x).st .nrm (A5 pre x).st:=by refine Z2u [] [] [] (φ:=True) ?_ kr kr kr kr;exact trivial
def Z9S(pre:List Found) x(hl:pre.length<=1000):CIn prog (GN f183 0) (A5 pre x).st .nrm (Tg.st ⟨tm 22 [(6,.pt 6 0 0),(20,.ow 8020)],S9 (pre++[x]),60⟩):=by refine Z2u [((19:Nat),[Hint.els (Lc Found.dv [x])]),((20:Nat),[Hint.els (Lc Found.dv (pre++[x]))])] [((248020:Nat),(8020:Nat))] [] (φ:=(Lg (1:Nat) [ZD (0:Int),Zd (0:Int),Zd (0:Int),DV.sc (LF LU (0:Int))]).set ((0:Nat),Operand.tmp (18:Nat)).1 [ZD x.addr,Zd x.hd.K,Zd x.hd.length,DV.sc (LF LU x.hd.map)]=Lc Found.dv [x]/\(Lc Found.dv pre).length+(Lc Found.dv [x]).length<=(2:Nat)^(30:Nat)/\Lc Found.dv pre++Lc Found.dv [x]=Lc Found.dv (pre++[x])) ?_ kr kr kr kr;exact⟨rfl,(by(simp[*];omega)),(by simp[LZ,L7,L9,LY,wD,iD])⟩
def Gc(l:Nat):Value:=.func (.yield l) #[] #[]
def EH(h:Heap)(i:Int):Nat->Int->List Found×Bool|0,_=>([],O)|f+1,o=>if o<(pg h i).U then(if(address h.C i o).2=0/\(Z9 h (B8 h i o)).2=0 then(⟨B8 h i o,(Z9 h (B8 h i o)).1⟩::(EH h i f (o+Z5 (Z9 h (B8 h i o)).1)).1,(EH h i f (o+Z5 (Z9 h (B8 h i o)).1)).2)else([],Ld))else([],O)
def H4(fn:Func):Code:=match fn.body with|some c=>c|none=>.skip
def inE(h:Heap)(l:Nat)(i:Int):Tg:=⟨tm 58 [(0,.d (.sc (Gc l))),(1,.rp h.dvs 0),(2,.rp [Zd i] 0)],[],1⟩
def inP(h:Heap)(l:Nat)(i:Int):Tg:=⟨tm 58 [(0,.d (.sc (Gc l))),(1,.rp h.dvs 0),(2,.rp [Zd i] 0),(4,.pt 8004 0 0)],[(8004,.box 86 [nI (pg h i).K,nI (pg h i).S,nI (pg h i).U,nI (pg h i).N])],20⟩
def Zkj(h:Heap) l(i:Int)(hi:0<=i/\i<h.P.length)(a:(pg h i).K=1\/(pg h i).K=2):RJ prog 2 (H4 f234) (inE h l i).st (inP h l i).st:=by unfold inP inE pg;unfold pg at a;refine SQ [((13:Nat),[Hint.el (h.P.getD i.toNat Lb).dv]),((22:Nat),[Hint.br Ld])] [] [] (φ:=((0:Int)<=i/\(Lc Z0.dv h.P)[i.toNat]?=M (h.P.getD i.toNat Lb).dv)/\((h.P.getD i.toNat Lb).K != (1:Int)&&(h.P.getD i.toNat Lb).K != (2:Int))=Ld/\Ld=Ld) ?_ kr kr kr kr;exact⟨(by exact Zm oq oq oq),(by(simp only[bs];omega)),rfl⟩
def ZhQ(h:Heap) l(i:Int)(hi:0<=i/\i<h.P.length)(a:¬ ((pg h i).K=1\/(pg h i).K=2)):CP (H4 f234) (inE h l i).st .ret (Tg.st ⟨tm 58 [],[],20⟩):=by unfold inE;unfold pg at a;exact sF [] []<|Fe 13 Z0.dv h.P i<|Ftb 22 ((h.P.getD i.toNat Lb).K != 1&&(h.P.getD i.toNat Lb).K != 2) Fz
def inS(h:Heap)(l:Nat)(i o:Int):Tg:=⟨tm 58 [(0,.d (.sc (Gc l))),(1,.rp h.dvs 0),(2,.rp [Zd i] 0),(4,.rp (pg h i).dv 0),(5,nI o)],[],20⟩
def inT(h:Heap)(l:Nat)(i o:Int)(a:Int)(hd:ZB):Tg:=⟨tm 58 [(0,.d (.sc (Gc l))),(1,.rp h.dvs 0),(2,.rp [Zd i] 0),(4,.rp (pg h i).dv 0),(5,nI o),(6,uU a),(8,.pt 184008 0 0)],[(184008,.box 52 [nI hd.K,nI hd.length,u32 hd.map])],30⟩
section
variable(h:Heap)(l:Nat)(i o:Int)(b:Zy h.W)(a:Z8 h=O)(c:0<=o/\o<=1000)
include b a c
theorem Zaa(h1:o<(pg h i).U)(h2:(address h.C i o).2=0)(e:(Z9 h (B8 h i o)).2=0):RJ prog 9 (Zl f234 0) (inS h l i o).st (inT h l i (o+Z5 (Z9 h (B8 h i o)).1) (B8 h i o) (Z9 h (B8 h i o)).1).st:=by have g:=B5 a;have d:=Df g.1 i o;have j:=I8 (Z9 h (B8 h i o)).1;have f:=Iw b (B8 h i o);unfold B8 at d j f e;refine SQ [((26:Nat),[Hint.br O]),((32:Nat),[Hint.call O (Ef h.C i o) []]),((36:Nat),[Hint.br O]),((40:Nat),[Hint.call O (AV.tu [(Z9 h (address h.C i o).1).1.av,nI (Z9 h (address h.C i o).1).2]) []]),((44:Nat),[Hint.br O]),((47:Nat),[Hint.call O (nI (Z5 (Z9 h (address h.C i o).1).1)) []]),((48:Nat),[Hint.int (o+Z5 (Z9 h (address h.C i o).1).1)])] [] [] (φ:=Lf (o<(pg h i).U)=O/\O=O/\GP 212 [h.C.av,nI i,nI o] O (Ef h.C i o) []/\((address h.C i o).2==(0:Int))=O/\O=O/\GP 109 [h.av,uU (address h.C i o).1] O (AV.tu [(Z9 h (address h.C i o).1).1.av,nI (Z9 h (address h.C i o).1).2]) []/\((Z9 h (address h.C i o).1).2==(0:Int))=O/\O=O/\GP 69 [(Z9 h (address h.C i o).1).1.av] O (nI (Z5 (Z9 h (address h.C i o).1).1)) []/\L4.wrap (o+Z5 (Z9 h (address h.C i o).1).1)=o+Z5 (Z9 h (address h.C i o).1).1) ?_ kr kr kr kr;exact⟨(by(simp only[bs];omega)),rfl,(@MQ (h.C) (i) (o)),(by(simp only[bs];omega)),rfl,(@N5 (h) ((address h.C i o).1) aa oq),(by(simp only[bs];omega)),rfl,(@EC ((Z9 h (address h.C i o).1).1) aa),(by exact Zf rfl oq oq)⟩
theorem ZcZ(h1:o<(pg h i).U)(h2:¬ (address h.C i o).2=0):RJ prog 10 (Zl f234 0) (inS h l i o).st (Tg.st ⟨tm 58 [(0,.d (.sc (Gc l)))],[],30⟩):=by refine SQ [((26:Nat),[Hint.br O]),((32:Nat),[Hint.call O (Ef h.C i o) []]),((36:Nat),[Hint.br Ld])] [] [] (φ:=Lf (o<(pg h i).U)=O/\O=O/\GP 212 [h.C.av,nI i,nI o] O (Ef h.C i o) []/\((address h.C i o).2==(0:Int))=Ld/\Ld=Ld) ?_ kr kr kr kr;exact⟨(by(simp only[bs];omega)),rfl,(@MQ (h.C) (i) (o)),(by(simp only[bs];omega)),rfl⟩
theorem Zjt(h1:o<(pg h i).U)(h2:(address h.C i o).2=0)(e:¬ (Z9 h (B8 h i o)).2=0):RJ prog 10 (Zl f234 0) (inS h l i o).st (Tg.st ⟨tm 58 [(0,.d (.sc (Gc l)))],[],30⟩):=by have f:=B5 a;have d:=Df f.1 i o;unfold B8 at d e;refine SQ [((26:Nat),[Hint.br O]),((32:Nat),[Hint.call O (Ef h.C i o) []]),((36:Nat),[Hint.br O]),((40:Nat),[Hint.call O (AV.tu [(Z9 h (address h.C i o).1).1.av,nI (Z9 h (address h.C i o).1).2]) []]),((44:Nat),[Hint.br Ld])] [] [] (φ:=Lf (o<(pg h i).U)=O/\O=O/\GP 212 [h.C.av,nI i,nI o] O (Ef h.C i o) []/\((address h.C i o).2==(0:Int))=O/\O=O/\GP 109 [h.av,uU (address h.C i o).1] O (AV.tu [(Z9 h (address h.C i o).1).1.av,nI (Z9 h (address h.C i o).1).2]) []/\((Z9 h (address h.C i o).1).2==(0:Int))=Ld/\Ld=Ld) ?_ kr kr kr kr;exact⟨(by(simp only[bs];omega)),rfl,(@MQ (h.C) (i) (o)),(by(simp only[bs];omega)),rfl,(@N5 (h) ((address h.C i o).1) aa oq),(by(simp only[bs];omega)),rfl⟩
omit b a c in
theorem ZkB(h1:(pg h i).U<=o):CP (Zl f234 0) (inS h l i o).st (.ext 0) (Tg.st ⟨tm 58 [],[],30⟩):=by exact sF [] []<|Ffb 26 (Lf (o<(pg h i).U)) Fz
end
end Go.Proofs.YtgedmeaemofdkaaGreat
namespace Go.Proofs.YtgedmeaemofdkaaGreat
open Go.Sx Go.RowKit
def Z3i(ids a:List Nat):AV->Bool|.pt b _ _=>NM b a|.ow b=>NM b ids|.d (.sc _)=>O|.any=>O|_=>Ld
def Zjp(ids a:List Nat):Z4->Bool|.box _ l=>l.all (Z3i ids a)|.arr .. => O|_=>Ld
def IC:List (Nat×Z4)->List Nat|[]=>[]|(b,.box ..)::l=>b::IC l|_::l=>IC l
def TM{b:Nat}:∀{hl:List (Nat×Z4)},b∈IC hl->∃ty cells,(b,Z4.box ty cells)∈hl
 |[],h=>by grind[IC]
 |(c,.box ty cells)::l,h=>by
  simp only[IC,Lh]at h;rcases h with rfl|h
  .grind
  .obtain⟨ty,cells,h⟩:=TM h;grind
 |(c,.arr ..)::l,h=>by obtain⟨ty,cells,h⟩:=TM (hl:=l) h;grind
 |(c,.mp _)::l,h=>by obtain⟨ty,cells,h⟩:=TM (hl:=l) h;grind
 |(c,.dead)::l,h=>by obtain⟨ty,cells,h⟩:=TM (hl:=l) h;grind
def Z5t{ρ ρ':ZK}{w Y Im ids e x v}(h:Zj ρ w Im x v)(i:Z3i ids e x=O)(o:∀b∈e,∀β,ρ b=M β->ρ' b=M β)(n:∀b∈ids,∀β,ρ b=M β->ρ' b=M β\/(ρ' b=M ⟨La,β.s,β.n⟩/\∀g,β.g=M g->rows w g<β.s))(hr:∀g,rows Y g=rows w g):Zj ρ' Y (λ_=>False) x v:=by
 cases h with
 |pt j=>exact .pt (o _ (Ru.1 i) _ j)
 |ow j l m f =>rename_i b c a β;rcases n _ (Ru.1 i) _ j with k|⟨k,p⟩;refine .ow k l m (f.imp id λ⟨g,k1,q,r⟩=>⟨g,k1,q, ?_⟩);grind;refine Zj.ow (β:=⟨La,β.s,β.n⟩) k l m (.inl ?_);rcases f with f|⟨g,k1,_,r⟩;exact f;have:=p g k1;rcases Nat.eq_zero_or_pos c with h|h;exact h;have:=Xw β.s h;omega
 |any=>exact .any _
 |d h =>
  cases h with|sc _ h=>exact .d (.sc _ h)|_=>cases i
 |_=>cases i
theorem Z3o{ρ w Im β}{ty g:Nat}{cells:List AV}(h:RelB ρ w Im β (.box ty cells))(hg:β.g=M g):rows w g=cells.length:=by obtain⟨_,_,g',cs,h1,h2,h3,_⟩:=h;grind[rows]
def Zie{ρ w Im β}{ty g s:Nat}{els:List (List DV)}(h:RelB ρ w Im β (.arr ty s els))(hg:β.g=M g):els.length*s<=rows w g:=by obtain⟨_,_,_,_,⟨a,_⟩|⟨g',cs,a,h2,h3,_⟩⟩:=h;all_goals grind[rows]
def Z6H{Ow Im0 w0 w tmps hl}{clk a0:Nat}{a}(S:Sx.Sys Ow Im0 w0 tmps (Bn hl) clk a w)(hT:tmps.all (Z3i (hl.map (·.1)) (IC hl))=O)(hB:hl.all (λp=>Zjp (hl.map (·.1)) (IC hl) p.2)=O)(hN:(hl.map (·.1)).Nodup)(hF:∀b ty s els,(b,Z4.arr ty s els)∈hl->Cd els){Y:World}{l:Nat}{r r':Loop}(a8:w.heap[l]?=M (.loop r))(a9:Y.heap[l]?=M (.loop r'))(hY:Y.heap.size=w.heap.size)(hs:∀g,g≠l->Y.heap[g]?=w.heap[g]?)(hc:1<=a0) :∃ρ:ZK,(∀b β,ρ b=M β->b∈hl.map (·.1))/\(∀b β g,ρ b=M β->β.g=M g->(w0.heap.size<=g/\8000<=b)\/OwA Ow g)/\(∀b β g,ρ b=M β->β.g=M g->β.s<=rows Y g)/\Inv (GM ρ) (λ_=>False) Y ρ Y (λ_=>False) (Bn hl) a0/\Ck Ow.ds ρ Y (λ_=>False) tmps a/\Kept (OwA Ow) w0 w:=by
 obtain⟨ρ,Im,I,T⟩:=S;let f:=hl.map (·.1);let ρ':ZK:=λb=>if NM b f then(match ρ b with|La=>La|M β=>match β.g with|M g=>if rows w g<β.s then M ⟨La,β.s,β.n⟩else M β|La=>M β)else La;have t:∀b β,ρ' b=M β->b∈f/\∃κ,ρ b=M κ/\κ.s=β.s/\κ.n=β.n/\∀g,β.g=M g->κ=β/\β.s<=rows w g:=by grind[Ru]
 have z:∀b∈f,∀β,ρ b=M β->ρ' b=M β\/(ρ' b=M ⟨La,β.s,β.n⟩/\∀g,β.g=M g->rows w g<β.s):=by grind[Ru]
 have a1:∀g,rows Y g=rows w g:=by grind[rows]
 have m:∀b∈IC hl,∀β,ρ b=M β->ρ' b=M β:=by
  intro b hb β h;obtain⟨ty,cells,hm⟩:=TM hb;have a7:b∈f:=Xb.2 ⟨_,hm,rfl⟩;rcases z b a7 β h with k|⟨_,k⟩;exact k;cases hq:Bn hl b with
  |none=>grind[NH]
  |some B =>
   have a6:B=.box ty cells:=by(have u:=NH.1 B hq;obtain⟨i,hi⟩:=Xr.1 u;obtain⟨j,hj⟩:=Xr.1 hm;have:i=j:=Z1O b hN (by simp[hi]) (by simp[hj]);subst this;rw[hi]at hj;cases hj;rfl)
   subst a6;obtain⟨β',m1,m2⟩:=I.blk b _ hq;rw[h]at m1;cases m1;have m3:=m2;obtain⟨h0,_,g,_,u,_⟩:=m2;grind[Z3o]
 have n:∀b,b∈f->live (Bn hl) b:=by
  intro b hb;cases hq:Bn hl b with|none=>grind[NH]|some B =>refine⟨B,hq, ?_⟩;rintro rfl;have:=LL.1 hB _ (NH.1 _ hq);cases this
 have d:∀b β g,ρ' b=M β->β.g=M g->ρ b=M β:=λb β g h h'=>by(grind)
 refine⟨ρ',λb β h=>(t b β h).1,λb β g h h'=>I.own b β g (d b β g h h') h',λb β g h h'=>by
  grind,⟨Kept.refl _ _,λb b' β β' g _ _ q1 q2 q3 q4=>I.inj b b' β β' g (n _ (t _ _ q1).1) (n _ (t _ _ q2).1) (d _ _ g q1 q3) (d _ _ g q2 q4) q3 q4,λ_ _ _ _ _ _ h=>h,λb β g q1 q2=>by rw[hY];exact I.bnd b β g (d _ _ g q1 q2) q2,λb β g q1 q2=>.inr ⟨b,β,q1,q2⟩,λ_ h=>h.elim,λ_ h=>h.elim,λb B q=>?_,λb _ q=>?_,⟨hc,λ_ _ _ h=>h⟩⟩,⟨T.size,λi x v u h2=>Z5t (T.tmp i x v u h2) (LL.1 hT _ (Lk u)) m z a1,T.defers⟩,I.kept⟩
 have hm:=NH.1 B q;have hb:b∈f:=Xb.2 ⟨(b,B),hm,rfl⟩;obtain⟨β,m1,m2⟩:=I.blk b B q;have a2:=LL.1 hB _ hm;cases B with
 |dead=>cases a2
 |mp=>cases a2
 |box ty cells =>
  obtain⟨h0,a4,g,cs,u,h2,h3,a5,h4⟩:=m2;have hg:g≠l:=by grind
  have:b∈IC hl:=by
   have:∀{k:List (Nat×Z4)},(b,Z4.box ty cells)∈k->b∈IC k:=by
    intro k;induction k with|nil=>grind|cons p k ih =>obtain⟨c,C⟩:=p;intro h;rcases Lh.1 h with e|e;grind[IC];cases C<;>simp[IC,ih e]
   exact this hm
  exact⟨β,m b this β m1,h0,a4,g,cs,u,by grind,h3,a5,λo x v hx hv=>Z5t (h4 o x v hx hv) (LL.1 a2 _ (Lk hx)) m z a1⟩
 |arr ty s els =>
  have m3:=m2;obtain⟨h0,u,a3,h2,h3⟩:=m2;rcases z b hb β m1 with k|⟨k,k'⟩;refine⟨β,k,h0,u,a3,h2,h3.imp id λ⟨g,cs,h4,h5,h6,h7⟩=>?_⟩;grind[Z1h];refine⟨_,k,h0,u,a3,h2,.inl ⟨rfl, ?_⟩⟩;rcases h3 with⟨_,h⟩|⟨g,_,h4,_⟩;exact h;have e1:=k' g h4;have e2:=Zie m3 h4;rw[h0]at e1;cases els with|nil=>rfl|cons y ys =>have:1*s<=(y::ys).length*s:=Xw s pq;omega
 grind[NH]
def Nu(f:Found):Value:=.agg #[.int .u64 f.addr,.int .i64 f.hd.K,.int .i64 f.hd.length,.int .u32 f.hd.map]
def IH(f:Found)(e:Int):Array Value:=#[Nu f,.int .i64 e]
def Z5o ρ w Im(f:Found):Zj ρ w Im f.av (Nu f):=by refine .ag _ _ rfl (λi v h=>?_) (λi a v b c=>?_);rcases i with _|_|_|_|i<;>simp at h<;>subst h<;>rfl;rcases i with _|_|_|_|i<;>simp at b c<;>subst b<;>subst c<;>exact .d (.sc _ rfl)
def Pt(l:List Found):Cd (l.map Found.dv):=by intro e a x hx;obtain⟨f,_,rfl⟩:=Xb.1 a;grind[Found.dv]
def LJ(g6:Nat)(a:List (Nat×Obj))(A:Nat->Prop)(pre:List Found)(W:World):Prop:=
 ∃ρ:ZK,(∀g,A g↔∃b β,ρ b=M β/\β.g=M g)/\Inv (GM ρ) (λ_=>False) W ρ W (λ_=>False) (Bn (S9 pre)) 20/\(∃s n,ρ 6=M ⟨M g6,s,n⟩)/\(∀b β,ρ b=M β->b∈[8020,6])/\(∀b β g,ρ b=M β->β.g=M g->β.s<=rows W g)/\∀p∈a,W.heap[p.1]?=M p.2/\¬ A p.1
def LJ.keep{g6 a A pre X Y}(J:LJ g6 a A pre X)(K:Kept (λ_=>False) X Y):LJ g6 a A pre Y:=by obtain⟨ρ,l,I,k,o,hr,i⟩:=J;have m:Ext (λ_=>False) X Y:=⟨K.size,λg h=>h.elim,K.rows⟩;refine⟨ρ,l,⟨Kept.refl _ _,I.inj,λ_ _ _ _ _ _ h=>h,λb β g d e=>Lw (I.bnd b β g d e) K.size,λb β g d e=>.inr ⟨b,β,d,e⟩,λ_ h=>h.elim,λ_ h=>h.elim,λb B q=>?_,I.fresh,I.one⟩,k,o,λb β g d e=>?_,λp c=>⟨?_,(i p c).2⟩⟩;obtain⟨β,j,r⟩:=I.blk b B q;exact⟨β,j,r.mono m (λ_ h=>h) (λ_ _ h=>h) I.bnd (λg n=>K.block g (I.bnd b β g j n) (λh=>h))⟩;rw[K.rows g (I.bnd _ _ _ d e)];grind;have f:=(i p c).1;rw[K.block p.1 (Ln.1 f).1 (λh=>h)];exact f
def Zh8{fn:Nat}{a0:Array Value}{D l g6 n:Nat}{prot:List (Nat×Obj)}{A}{pre:List Found}{W}(hl:pre.length<=1000)(ha0:a0.size=22)(ha6:a0[6]?=M (.pointer (M ⟨g6,0,La⟩)))(hrec:(l,Lp {state:=.ready,pending:=La,fn:=fn,tmps:=a0,params:=#[12,13],assign:=Hf f183 0,body:=GN f183 0,defers:=D})∈prot)(J:LJ g6 prot A pre W) x :
  YieldAt Le n prog l (IH x 0) W λe W'=>e=.returned (.bool O)/\∃A',LJ g6 prot A' (pre++[x]) W'/\(∀g,A' g->A g\/W.heap.size<=g)/\Kept A W W':=by
 obtain⟨ρ,hA,I,⟨s6,n6,h6⟩,hs,hr,hp⟩:=J;obtain⟨rl,nl⟩:=hp _ hrec;have hAe:OwA (GM ρ)=A:=by funext g;exact propext (hA g).symm
 refine⟨fn,_,_,_,run_yield rl rfl,roundIn_of_wpIn trivial ?_⟩;have T0:Ck [] ρ W (λ_=>False) (tm 22 [(6,.pt 6 0 0)]) {tmps:=a0,defers:=[]}:=by
  refine⟨by rw[ha0];rfl,λi y v h1 h2=>?_,rfl⟩;by_cases h:i=6;subst h;rw[ha6]at h2;cases h2;cases (show(tm 22 [(6,.pt 6 0 0)])[6]?=M (.pt 6 0 0)from rfl).symm.trans h1;have:=Zj.pt (ρ:=ρ) (w:=W) (Im:=λ_=>False) (i:=0) (o:=0) h6;simpa[ptV,mpO]using this;have:y=.any:=by
   have hi:i<22:=(Lq.1 h1).1;have e:∀j,j<22->j≠6->(tm 22 [(6,.pt 6 0 0)])[j]?=M .any:=by
    intro j hj hj6;have:j∈[0,1,2,3,4,5,7,8,9,10,11,12,13,14,15,16,17,18,19,20,21]:=by(simp only[Lh,Ll,or_false];omega)
    simp only[Lh,Ll,or_false]at this;rcases this with rfl|rfl|rfl|rfl|rfl|rfl|rfl|rfl|rfl|rfl|rfl|rfl|rfl|rfl|rfl|rfl|rfl|rfl|rfl|rfl|rfl<;>rfl
   rw[e i hi h]at h1;cases h1;rfl
  subst this;exact .any _
 have T1:=(T0.put 12 (Z5o ρ W (λ_=>False) x)).put 13 (Zj.d (Cz.sc (LF .i64 0) rfl));have S1:Sx.Sys (GM ρ) (λ_=>False) W (Z0y pre x).st.tmps (Z0y pre x).st.H (Z0y pre x).st.clk {tmps:=(a0.setIfInBounds 12 (Nu x)).setIfInBounds 13 (.int .i64 0),defers:=[]} W:=⟨ρ,_,I,T1⟩;have ef:((#[12,13]:Array Nat).zip (IH x 0)).foldl (λtmps (t,a)=>tmps.setIfInBounds t a) a0=(a0.setIfInBounds 12 (Nu x)).setIfInBounds 13 (.int .i64 0):=by simp[IH]
 show(Hf f183 0).wpIn _ n _ _ {tmps:=((#[12,13]:Array Nat).zip (IH x 0)).foldl (λtmps (t,a)=>tmps.setIfInBounds t a) a0,defers:=[]} W;rw[ef];refine wpIn_mono (Zag pre x (M l) n _ _ _ _ _ S1) ?_;rintro e a1 w1 ⟨rfl,S2⟩;have K1:Kept A W w1:=by obtain⟨_,_,I1,_⟩:=S2;exact hAe▸I1.kept
 have hlW:l<W.heap.size:=(Ln.1 rl).1;have rl1:w1.heap[l]?=M (Lp {state:=.ready,pending:=La,fn:=fn,tmps:=a0,params:=#[12,13],assign:=Hf f183 0,body:=GN f183 0,defers:=D}):=by(rw[K1.block l hlW nl];exact rl)
 refine⟨_,run_beginRound rl1 rfl, ?_⟩;obtain⟨w2,hw2⟩:∃w2,w1.putObj l (Lp {state:=.busy,pending:=La,fn:=fn,tmps:=a0,params:=#[12,13],assign:=Hf f183 0,body:=GN f183 0,defers:=D})=w2:=⟨_,rfl⟩;have rl2:w2.heap[l]?=M (Lp {state:=.busy,pending:=La,fn:=fn,tmps:=a0,params:=#[12,13],assign:=Hf f183 0,body:=GN f183 0,defers:=D}):=by(rw[<-hw2];exact Ly (Ln.1 rl1).1)
 have hs2:∀g,g≠l->w2.heap[g]?=w1.heap[g]?:=λg hg=>by rw[<-hw2];exact Lj hg
 have hz2:w2.heap.size=w1.heap.size:=by rw[<-hw2];exact Lz
 obtain⟨ρ1,q1,q2,qr,I1,T1',_⟩:=Z6H S2 kr kr (by show([160007,8020,6]:List Nat).Nodup;decide) (by
  intro b ty s els hm;simp only[A5,S9,Lh,Ll,or_false,LD,reduceCtorEq,and_false,Z4.arr.injEq,false_or]at hm;obtain⟨_,_,_,rfl⟩:=hm;exact Pt pre) rl1 rl2 hz2 hs2 (by decide:1<=30)
 show(GN f183 0).wpIn _ _ _ _ _ _;rw[hw2];refine wpIn_mono (Z9S pre x hl (M l) n _ _ _ _ _ (⟨ρ1,_,I1,T1'⟩:Sx.Sys _ _ w2 (A5 pre x).st.tmps (A5 pre x).st.H (A5 pre x).st.clk a1 w2)) ?_;rintro e a3 w3 ⟨rfl,S3⟩;have K3:Kept (λg=>∃b β,ρ1 b=M β/\β.g=M g) w2 w3:=by obtain⟨_,_,I3,_⟩:=S3;exact I3.kept
 have hrow2:∀g,rows w2 g=rows w1 g:=by(intro g;by_cases hg:g=l;subst hg;simp[rows,rl1,rl2];simp only[rows,hs2 g hg])
 have hw12:W.heap.size<=w1.heap.size:=K1.size;have own1:∀b β g,ρ1 b=M β->β.g=M g->W.heap.size<=g\/A g:=λb β g h h'=>(q2 b β g h h').imp (·.1) λh=>hAe▸h;have hl2:¬ ∃b β,ρ1 b=M β/\β.g=M l:=by(rintro⟨b,β,h,h'⟩;rcases own1 b β l h h' with k|k;omega;exact nl k)
 have box6:∀{ρ:ZK} {X:World} {H:List (Nat×Z4)} {t:Nat} {x:AV},Inv (GM ρ) (λ_=>False) X ρ X (λ_=>False) (Bn H) t->Bn H 6=M (.box 206 [x])->∃β g,ρ 6=M β/\β.g=M g/\rows X g=1:=by(intro ρ X H t x I hH;obtain⟨β,k1,k2⟩:=I.blk 6 _ hH;have k3:=k2;obtain⟨_,_,g,_,k4,_⟩:=k2;exact⟨β,g,k1,k4,Z3o k3 k4⟩)
 have arr4:∀{ρ:ZK} {X:World} {H:List (Nat×Z4)} {t:Nat} {els:List (List DV)} {β:Bi},Inv (GM ρ) (λ_=>False) X ρ X (λ_=>False) (Bn H) t->Bn H 8020=M (.arr 212 4 els)->ρ 8020=M β->β.s=4:=by(intro ρ X H t els β I hH h;obtain⟨β',k1,k2⟩:=I.blk 8020 _ hH;rw[h]at k1;cases k1;exact k2.1)
 have id1:∀β g,ρ1 6=M β->β.g=M g->rows w2 g=1->g=g6:=by(intro β g h h' h1;rcases q2 6 β g h h' with⟨_,k⟩|k;omega;obtain⟨b,κ,(k1:ρ b=M κ),k2⟩:=k;have hb:=hs b κ k1;simp only[Lh,Ll,or_false]at hb;rcases hb with rfl|rfl;have:=hr _ _ _ k1 k2;rw[arr4 I rfl k1,<-K1.rows g (I.bnd _ _ _ k1 k2),<-hrow2,h1]at this;omega;rw[h6]at k1;cases k1;cases k2;rfl)
 have rl3:w3.heap[l]?=M (Lp {state:=.busy,pending:=La,fn:=fn,tmps:=a0,params:=#[12,13],assign:=Hf f183 0,body:=GN f183 0,defers:=D}):=by(rw[K3.block l oq hl2];exact rl2)
 refine⟨_,_,run_endRound La rl3,rfl, ?_⟩;obtain⟨W',hW'⟩:∃W',w3.putObj l (Lp {state:=.ready,pending:=La,fn:=fn,tmps:=a0,params:=#[12,13],assign:=Hf f183 0,body:=GN f183 0,defers:=D})=W':=⟨_,rfl⟩;have rl4:W'.heap[l]?=M (Lp {state:=.ready,pending:=La,fn:=fn,tmps:=a0,params:=#[12,13],assign:=Hf f183 0,body:=GN f183 0,defers:=D}):=by(rw[<-hW'];exact Ly (Ln.1 rl3).1)
 have hs4:∀g,g≠l->W'.heap[g]?=w3.heap[g]?:=λg hg=>by rw[<-hW'];exact Lj hg
 have hz4:W'.heap.size=w3.heap.size:=by rw[<-hW'];exact Lz
 have hrow4:∀g,rows W' g=rows w3 g:=by(intro g;by_cases hg:g=l;subst hg;simp[rows,rl3,rl4];simp only[rows,hs4 g hg])
 have hosw:W'.os=w3.os/\W'.tape=w3.tape/\W'.output=w3.output:=by rw[<-hW'];exact⟨rfl,rfl,rfl⟩
 have hos2:w2.os=w1.os/\w2.tape=w1.tape/\w2.output=w1.output:=by rw[<-hw2];exact⟨rfl,rfl,rfl⟩
 suffices key:∃A',LJ g6 prot A' (pre++[x]) W'/\(∀g,A' g->A g\/W.heap.size<=g)/\Kept A W W' by(rw[<-hW']at key;exact key)
 obtain⟨ρ3,p1,p2,pr,I3,_,_⟩:=Z6H S3 kr kr (by show([8020,6]:List Nat).Nodup;decide) (by
  intro b ty s els hm;simp only[S9,Lh,Ll,or_false,LD,reduceCtorEq,and_false,Z4.arr.injEq]at hm;obtain⟨_,_,_,rfl⟩:=hm;exact Pt _) rl3 rl4 hz4 hs4 (by decide:1<=20)
 have own3:∀b β g,ρ3 b=M β->β.g=M g->A g\/W.heap.size<=g:=by(intro b β g h h';rcases p2 b β g h h' with⟨k,_⟩|⟨c,κ,k1,k2⟩;exact .inr oq;exact(own1 c κ g k1 k2).symm)
 have keep:Kept A W W':=by(refine⟨hosw.1.trans (K3.os.trans (hos2.1.trans K1.os)),hosw.2.1.trans (K3.tape.trans (hos2.2.1.trans K1.tape)),hosw.2.2.trans (K3.output.trans (hos2.2.2.trans K1.output)),by have:=K3.size;omega,λk hk hn=>?_,λk hk=>?_⟩;by_cases hkl:k=l;subst hkl;rw[rl4,rl];rw[hs4 k hkl,K3.block k oq ?_,hs2 k hkl,K1.block k hk hn];rintro⟨b,β,h,h'⟩;rcases own1 b β k h h' with q|q;omega;exact hn q;rw[hrow4,K3.rows k oq,hrow2,K1.rows k hk])
 refine⟨λg=>∃b β,ρ3 b=M β/\β.g=M g,⟨ρ3,λg=>Iff.rfl,I3, ?_,p1,pr,λp hpp=>?_⟩,λg ⟨b,β,h,h'⟩=>own3 b β g h h',keep⟩;obtain⟨β,g,k1,k2,k3⟩:=box6 I3 rfl;rcases p2 6 β g k1 k2 with⟨_,k⟩|⟨c,κ,m1,m2⟩;omega;have hg2:g<w2.heap.size:=I1.bnd _ _ _ m1 m2;have hr2:rows w2 g=1:=by rw[<-k3,hrow4,K3.rows g hg2]
 have hc:=q1 c κ m1;have e:g=g6:=by(simp only[A5,S9,L6,L8,Lh,Ll,or_false]at hc;rcases hc with rfl|rfl|rfl;obtain⟨κ',n1,n2⟩:=I1.blk 160007 _ rfl;rw[m1]at n1;cases n1;rw[Z3o n2 m2]at hr2;simp at hr2;have:=qr _ _ _ m1 m2;rw[arr4 I1 rfl m1,hr2]at this;omega;exact id1 κ g m1 m2 hr2)
 subst e;obtain⟨βg,βs,βn⟩:=β;cases k2;exact⟨βs,βn,k1⟩;obtain⟨h1,h2⟩:=hp p hpp;have hpl:=(Ln.1 h1).1;refine⟨by rw[keep.block p.1 hpl h2];exact h1, ?_⟩;rintro⟨b,β,h,h'⟩;rcases own3 b β p.1 h h' with q|q;exact h2 q;omega
end Go.Proofs.YtgedmeaemofdkaaGreat
namespace Go.Proofs.YtgedmeaemofdkaaGreat
open Go.Sx Go.RowKit
def GQ(h:Heap)(i:Int):List Found×Bool:=if(pg h i).K=1\/(pg h i).K=2 then EH h i 256 0 else([],O)
def Hz:Found:=⟨0,⟨0,0,0⟩⟩
structure Rnd (l n:Nat) (J:(Nat->Prop)->List Found->World->Prop) (Jx:World->Prop):Prop where
 keep:∀A pre X Y,J A pre X->Kept (λ_=>False) X Y->J A pre Y
 bnd:∀A pre X,J A pre X->∀g,A g->g<X.heap.size
 yes:∀A pre X x,J A pre X->pre.length<=1000->YieldAt Le n prog l (IH x 0) X λe X'=>e=.returned (.bool O)/\∃A',J A' (pre++[x]) X'/\(∀g,A' g->A g\/X.heap.size<=g)/\Kept A X X'
 no:∀A pre X,J A pre X->pre.length<=1000->YieldAt Le n prog l (IH Hz 19) X λe X'=>e=.returned (.bool Ld)/\Jx X'
section
variable(h:Heap)(i:Int)(l n:Nat){J:(Nat->Prop)->List Found->World->Prop}{Jx:World->Prop}(R:Rnd l n J Jx)
def InL(J:(Nat->Prop)->List Found->World->Prop)(a:Act)(w:World):Prop:=
 ∃(b:List Found) (A c:Nat->Prop) (f:Nat) (o:Int),(GQ h i).1=b++(EH h i f o).1/\(GQ h i).2=(EH h i f o).2/\(pg h i).U-o<=f/\0<=o/\o<=1000/\b.length+f<=256/\J A b w/\Ck [] (λ_=>La) w c (inS h l i o).tmps a/\∀g,c g->g<w.heap.size/\¬ A g
def It(a:Act):Nat:=match (a.tmps.getD 5 undef:Value)with|.int _ o=>((pg h i).U-o).toNat|_=>0
theorem Z68{w Im a o}(T:Ck [] (λ_=>La) w Im (inS h l i o).tmps a):It h i a=((pg h i).U-o).toNat:=by have:a.tmps.getD 5 undef=.int .i64 o:=BV (CU T (.tmp 5));rw[It,this]
def D5(Jx:World->Prop)(e:Ending)(a:World):Prop:=(∃v,e=.returned v)/\(((GQ h i).2=O/\∃A,J A (GQ h i).1 a)\/((GQ h i).2=Ld/\Jx a))
def MU(o:Oper):Array Nat:=match o.op with|.call c=>c.argTypes|_ => #[]
theorem found_eq{ρ w Im}{f:Found}{v}(h:Zj ρ w Im f.av v):v=Nu f:=by obtain⟨b,c,d,h3,e⟩:=Hm h;rw[c];have g:∀(k:Nat) (a:k<b.size) (v:Value),[uU f.addr,nI f.hd.K,nI f.hd.length,u32 f.hd.map][k]?=M (.d (.sc v))->b[k]=v:=λk a v m=>BV (e k _ b[k] m (LO a));have j:b.size=4:=d;simp only[Nu];congr 1;apply Xg;simp[j];intro k a _;rcases k with _|_|_|_|k;exact g 0 a _ rfl;exact g 1 a _ rfl;exact g 2 a _ rfl;exact g 3 a _ rfl;omega
theorem Zc8(hw:Zy h.W)(hp:Z8 h=O)(hu:(pg h i).U<=256)(R:Rnd l n J Jx) a w(hI:InL h i l J a w) :(Zl f234 0).wpIn Le (n+1) prog (Exit.then (λa' w'=>InL h i l J a' w'/\It h i a'<It h i a) (Li 0 (bodyPost prog f234 (D5 h i (J:=J) Jx)))) a w:=by
 obtain⟨pre,A,Im,f,o,e1,e2,hf,h0,h1,hl,hJ,T,hIm⟩:=hI;have S:Sx.Sys EG Im w (inS h l i o).st.tmps (inS h l i o).st.H (inS h l i o).st.clk a w:=⟨_,_,Inv.empty (λg hg=>(hIm g hg).1) (by decide:1<=20),T⟩;by_cases hlt:o<(pg h i).U;obtain⟨f,rfl⟩:∃k,f=k+1:=⟨f-1,by omega⟩;unfold EH at e1 e2;rw[if_pos hlt]at e1 e2;have bad:¬ ((address h.C i o).2=0/\(Z9 h (B8 h i o)).2=0)->∀a' w',Sx.Sys EG Im w (Tg.st ⟨tm 58 [(0,.d (.sc (Gc l)))],[],30⟩).tmps (Tg.st ⟨tm 58 [(0,.d (.sc (Gc l)))],[],30⟩).H 30 a' w' ->
   rest prog (n+1) 10 (Zl f234 0) (Exit.then (λa' w'=>InL h i l J a' w'/\It h i a'<It h i a) (Li 0 (bodyPost prog f234 (D5 h i (J:=J) Jx)))) a' w':=by
  intro hb a' w' S1;rw[if_neg hb]at e1 e2;generalize hQ:Li 0 (bodyPost prog f234 (D5 h i (J:=J) Jx))=Q0;generalize (λa' w'=>InL h i l J a' w'/\It h i a'<It h i a)=nx;have er:rest prog (n+1) 10 (Zl f234 0) (Exit.then nx Q0) a' w' =
    (LI 10 (Bj f234 10) Ld).wpIn Le (n+1) prog (Exit.then (Xi.wpIn Le (n+1) prog (Li 1 (Exit.then nx Q0))) (Li 1 (Exit.then nx Q0))) a' w':=by kernel_rfl
  rw[er];refine wpIn_region ?_;rw[show Lm (Bj f234 10).size=[0,1]++[2]from by kernel_rfl];refine AU (ro:=La) (hints:=[]) (out:=⟨tm 58 [(0,.d (.sc (Gc l))),(55,.d (.sc (Gc l))),(56,Hz.av)],Bn [],[],[]⟩) kr S1 trivial (λp hp=>by simp at hp) ?_;intro a2 w2 S2;obtain⟨o',ho,⟨ts,hop⟩,hd,hg⟩:∃o':Oper,(Bj f234 10)[2]?=M o'/\(∃ts,o'.op=.call ⟨.value (.tmp 55),#[.tmp 56,.const (.int .i64 19)],ts⟩)/\o'.dst=M 57/\o'.guard=La:=⟨(Bj f234 10).getD 2 Lb,by kernel_rfl,⟨MU ((Bj f234 10).getD 2 Lb),by kernel_rfl⟩,by kernel_rfl,by kernel_rfl⟩
  have hwd:LN o' (yielded (Bj f234 10) a2.tmps)=O:=by grind[LN]
  simp only[wpOpsIn,ho,hwd,if_true];obtain⟨ρ2,Im2,I2,T2⟩:=S2;have v1:a2.eval (.tmp 55)=.func (.yield l) #[] #[]:=BV (CU T2 (.tmp 55));have v2:a2.eval (.tmp 56)=Nu Hz:=found_eq (CU T2 (.tmp 56):Zj ρ2 w2 Im2 Hz.av _);have J2:J A pre w2:=R.keep _ _ _ _ hJ I2.kept.no;refine Z4S hop v1 (show #[a2.eval (.tmp 56),a2.eval (.const (.int .i64 19))]=IH Hz 19 by rw[v2];rfl) (R.no A pre w2 J2 oq) ?_;rintro e w3 ⟨rfl,hx⟩;refine⟨_,rfl,wpIn_ret ?_⟩;show Q0 .ret _ _;rw[<-hQ];exact bodyPost_ret (results_none rfl _ _ _) (by rw[hd];exact T2.defers) ⟨⟨_,rfl⟩,.inr ⟨e2,hx⟩⟩
 by_cases ha:(address h.C i o).2=0;by_cases hh:(Z9 h (B8 h i o)).2=0;rw[if_pos ⟨ha,hh⟩]at e1 e2;have sz:=I8 (Z9 h (B8 h i o)).1;have sp:=Z0F hh;obtain⟨o2,ho2⟩:∃o2,o+Z5 (Z9 h (B8 h i o)).1=o2:=⟨_,rfl⟩;refine Zaa h l i o hw hp ⟨h0,h1⟩ hlt ha hh _ _ _ _ _ _ _ S ?_;intro a1 w1 S1;rw[ho2]at S1 e1 e2;generalize hQ:Li 0 (bodyPost prog f234 (D5 h i (J:=J) Jx))=Q0;have hmu:=Z68 h i l T;generalize hnx:(λa' w'=>InL h i l J a' w'/\It h i a'<It h i a)=nx;obtain⟨yc,hyc⟩:∃yc:Code,∀a' w',rest prog (n+1) 9 (Zl f234 0) (Exit.then nx Q0) a' w' =
  (LI 9 (Bj f234 9) Ld).wpIn Le (n+1) prog (Exit.then ((Code.cond (.tmp 54) .ret .skip).wpIn Le (n+1) prog (Exit.then ((Xh 1).wpIn Le (n+1) prog (Exit.then (yc.wpIn Le (n+1) prog (Li 1 (Exit.then nx Q0))) (Li 1 (Exit.then nx Q0)))) (Exit.then (yc.wpIn Le (n+1) prog (Li 1 (Exit.then nx Q0))) (Li 1 (Exit.then nx Q0)))))
   (Exit.then ((Xh 1).wpIn Le (n+1) prog (Exit.then (yc.wpIn Le (n+1) prog (Li 1 (Exit.then nx Q0))) (Li 1 (Exit.then nx Q0)))) (Exit.then (yc.wpIn Le (n+1) prog (Li 1 (Exit.then nx Q0))) (Li 1 (Exit.then nx Q0))))) a' w':=⟨.seq (.region 10 (Bj f234 10) Ld) .ret,λa' w'=>by kernel_rfl⟩
 rw[hyc];refine wpIn_region ?_;rw[show Lm (Bj f234 9).size=[0,1,2,3]++([4]++[5])from by kernel_rfl];refine AU (ro:=La) (hints:=[]) (out:=⟨tm 58 [(0,.d (.sc (Gc l))),(1,.rp h.dvs 0),(2,.rp [Zd i] 0),(4,.rp (pg h i).dv 0),(5,nI o2),(6,uU (B8 h i o)),(8,.pt 184008 0 0),(49,.d (.sc (Gc l))),(50,uU (B8 h i o)),(51,(Z9 h (B8 h i o)).1.av),(52,(Found.mk (B8 h i o) (Z9 h (B8 h i o)).1).av)],Bn [(184008,.box 52 [nI (Z9 h (B8 h i o)).1.K,nI (Z9 h (B8 h i o)).1.length,u32 (Z9 h (B8 h i o)).1.map])],[],[]⟩) kr S1 trivial (λp hp=>by simp at hp) ?_;intro a2 w2 S2;obtain⟨o',ho,⟨ts,hop⟩,hd,hg⟩:∃o':Oper,(Bj f234 9)[4]?=M o'/\(∃ts,o'.op=.call ⟨.value (.tmp 49),#[.tmp 52,.const (.int .i64 0)],ts⟩)/\o'.dst=M 53/\o'.guard=La:=⟨(Bj f234 9).getD 4 Lb,by kernel_rfl,⟨MU ((Bj f234 9).getD 4 Lb),by kernel_rfl⟩,by kernel_rfl,by kernel_rfl⟩;have hwd:LN o' (yielded (Bj f234 9) a2.tmps)=O:=by grind[LN]
 rw[show([4]++[5]:List Nat)=4::[5]from rfl,wpOpsIn];simp only[ho];rw[if_pos hwd];have v1:a2.eval (.tmp 49)=.func (.yield l) #[] #[]:=by obtain⟨ρ2,Im2,I2,T2⟩:=S2;exact BV (CU T2 (.tmp 49))
 have v2:a2.eval (.tmp 52)=Nu ⟨B8 h i o,(Z9 h (B8 h i o)).1⟩:=by(obtain⟨ρ2,Im2,I2,T2⟩:=S2;exact found_eq (CU T2 (.tmp 52):Zj ρ2 w2 Im2 (Found.mk (B8 h i o) (Z9 h (B8 h i o)).1).av _))
 have S3:=OQ (s:=⟨tm 58 [(0,.d (.sc (Gc l))),(1,.rp h.dvs 0),(2,.rp [Zd i] 0),(4,.rp (pg h i).dv 0),(5,nI o2),(6,uU (B8 h i o)),(8,.pt 184008 0 0),(49,.d (.sc (Gc l))),(50,uU (B8 h i o)),(51,(Z9 h (B8 h i o)).1.av),(52,(Found.mk (B8 h i o) (Z9 h (B8 h i o)).1).av)],Bn [(184008,.box 52 [nI (Z9 h (B8 h i o)).1.K,nI (Z9 h (B8 h i o)).1.length,u32 (Z9 h (B8 h i o)).1.map])],30⟩) (t:=inS h l i o2) kr kr S2;clear S2 S1;obtain⟨ρ2,Im2,I2,T2⟩:=S3;have J2:J A pre w2:=R.keep _ _ _ _ hJ I2.kept.no;refine Z4S hop v1 (show #[a2.eval (.tmp 52),a2.eval (.const (.int .i64 0))]=IH ⟨B8 h i o,(Z9 h (B8 h i o)).1⟩ 0 by rw[v2];rfl) (R.yes A pre w2 _ J2 oq) ?_;rintro e w3 ⟨rfl,A',J3,hA',K3⟩;have hIm2:∀g,Im2 g->¬ A g:=by(intro g hg hA;rcases I2.im0 g hg with k|k|k;grind;have:=R.bnd _ _ _ hJ g hA;omega;exact k.no)
 refine⟨_,rfl, ?_⟩;have T3:Ck [] (λ_=>La) w3 Im2 (inS h l i o2).tmps a2:=(T2.pure kr).mono ⟨K3.size,λg hg=>K3.block g (I2.imb g hg) (hIm2 g hg),K3.rows⟩ (λ_ h=>h) (λ_ _ h=>h) (λ_ _ _ h=>nomatch h);have S4:Sx.Sys EG Im2 w3 ((inS h l i o2).tmps.set 53 (bL O)) (Bn []) 20 (a2.put o'.dst (.bool O)) w3:=by(rw[hd];exact⟨_,Im2,Inv.empty (λg hg=>Lw (I2.imb g hg) K3.size) dd,T3.put 53 (Zj.d (Cz.sc (.bool O) rfl))⟩)
 refine TH (ro:=La) (hints:=[]) (out:=⟨((inS h l i o2).tmps.set 53 (bL O)).set 54 (bL (!true)),Bn [],[],[]⟩) kr S4 trivial (λp hp=>by simp at hp) ?_;intro a5 w5 S5;have v5:a5.eval (.tmp 54)=.bool Ld:=by obtain⟨_,_,_,T5⟩:=S5;exact BV (CU T5 (.tmp 54))
 have S6:=OQ (s:=⟨((inS h l i o2).tmps.set 53 (bL O)).set 54 (bL (!true)),Bn [],20⟩) (t:=inS h l i o2) kr kr S5;obtain⟨ρ6,Im6,I6,T6⟩:=S6;refine wpIn_cond_false v5 (wpIn_skip ?_);refine wpIn_exit ?_;show(if 1=1 then(Exit.then nx Q0) .normal a5 w5 else Exit.then nx Q0 (.exit 1) a5 w5);rw[if_pos rfl,<-hnx];have T7:=T6.pure kr;refine⟨⟨pre++[⟨B8 h i o,(Z9 h (B8 h i o)).1⟩],A',Im6,f,o2, ?_,e2,by omega,by omega,by omega,by simp;omega,R.keep _ _ _ _ J3 I6.kept.no,T7,λg hg=>⟨I6.imb g hg,λhA=>?_⟩⟩, ?_⟩;rw[e1];simp;have hb:=R.bnd _ _ _ J3 g hA;rcases I6.im0 g hg with k|k|k;have:=I2.imb g k;grind;omega;exact k.no;show It h i a5<It h i a;rw[Z68 h i l T7,hmu];omega;exact Zjt h l i o hw hp ⟨h0,h1⟩ hlt ha hh _ _ _ _ _ _ _ S (bad (λq=>hh q.2));exact ZcZ h l i o hw hp ⟨h0,h1⟩ hlt ha _ _ _ _ _ _ _ S (bad (λq=>ha q.1));refine wpIn_mono (wpIn_wide.2 (ZkB h l i o oq _ _ _ _ _ S)) ?_;rintro e a' w' ⟨rfl,S1⟩;have hz:EH h i f o=([],O):=by
  cases f with|zero=>rfl|succ f=>grind[EH]
 rw[hz]at e1 e2;obtain⟨ρ,Im1,I1,T1⟩:=S1;show bodyPost _ _ _ .normal _ _;refine bodyPost_end (results_none rfl _ _ _) T1.defers ⟨⟨_,rfl⟩,.inl ⟨e2,A, ?_⟩⟩;rw[e1,L5];exact R.keep _ _ _ _ hJ I1.kept.no
theorem ZjD(hw:Zy h.W)(t:Z8 h=O)(hi:0<=i/\i<h.P.length)(R:Rnd l n J Jx){r Im:Nat->Prop}{W:World}{o q}(a0:∀g,Im g->g<W.heap.size/\¬ r g)(h1:Zj (λ_=>La) W Im (.rp h.dvs 0) o)(h2:Zj (λ_=>La) W Im (.rp [Zd i] 0) q)(s:J r [] W):CallsIn Le (n+1) prog 234 #[Gc l,o,q] W (D5 h i (J:=J) Jx):=by
 have hu:(pg h i).U<=256:=(EL t (j:=i.toNat) oq).2.2.2.2.2.2.2.1;refine callsIn_of_wp func234 (c:=H4 f234) kr trivial ?_ rfl;have S:Sx.Sys EG Im W (inE h l i).st.tmps (inE h l i).st.H (inE h l i).st.clk {tmps:=#[Gc l,o,q]++LH (Tryz.f234.ntmps-(#[Gc l,o,q]:Array Value).size) undef,defers:=[]} W:=by
  refine⟨_,Im,Inv.empty (λg b=>(a0 g b).1) (Ls 1),⟨by kernel_rfl,λk y v u m=>?_,rfl⟩⟩;rw[show(inE h l i).st.tmps=[.d (.sc (Gc l)),.rp h.dvs 0,.rp [Zd i] 0]++Lg 55 .any from by kernel_rfl,LM]at u;rw[LA]at m;split at u
  .rename_i f;have a3:k<3:=f;rw[if_pos (show k<(#[Gc l,o,q]:Array Value).size from a3)]at m;rcases k with _|_|_|k;cases u;cases m;exact .d (.sc _ rfl);all_goals grind
  have:=Lk u;rw[(Lv.1 this).2];exact .any _
 by_cases f:(pg h i).K=1\/(pg h i).K=2;refine Zkj h l i hi f _ _ _ _ _ _ _ S ?_;intro a1 w1 z;generalize hQ:bodyPost prog f234 (D5 h i (J:=J) Jx)=Q;have er:rest prog (n+1) 2 (H4 f234) Q a1 w1=(LI 2 (Bj f234 2) Ld).wpIn Le (n+1) prog (Exit.then ((Zk f234 0).wpIn Le (n+1) prog Q) Q) a1 w1:=by kernel_rfl
 rw[er];refine wpIn_region ?_;rw[show Lm (Bj f234 2).size=[0]from by kernel_rfl];refine TH (ro:=La) (hints:=[]) (out:=⟨tm 58 [(0,.d (.sc (Gc l))),(1,.rp h.dvs 0),(2,.rp [Zd i] 0),(4,.pt 8004 0 0),(5,nI 0)],Bn [(8004,.box 86 ((pg h i).dv.map .d))],[],[]⟩) kr z trivial (λp t=>by simp at t) ?_;intro a2 w2 S2;show(Zk f234 0).wpIn Le (n+1) prog Q a2 w2;rw[Z0s kr,<-hQ];refine wpIn_block (wpIn_loop (InL h i l J) (λa _=>It h i a) ?_ (λa w hI=>Zc8 h i l n hw t hu R a w hI));obtain⟨ρ2,x,d,T2⟩:=S2;obtain⟨β,m1,m2⟩:=d.blk 8004 _ rfl;have J2:=R.keep _ _ _ _ s d.kept.no;have a5:live (Bn [(8004,Z4.box 86 ((pg h i).dv.map .d))]) 8004:=⟨_,rfl,by simp⟩;have T3:Ck [] ρ2 w2 (λg=>x g\/β.g=M g) _ a2:=T2.mono (Ext.refl _ _) (λ_ h=>.inl h) (λ_ _ h=>h) d.bnd;have T4:=(T3.reSet 4 .any (λv _=>.any v)).pure kr;have T5:=T4.reSet 4 (.rp (pg h i).dv 0) (λv m=>by
  have:=T2.tmp 4 _ v rfl m;exact M3 m1 m2 this (λ_ h=>.inl h) (λ_ h=>.inr h))
 refine⟨[],r,_,256,0,by grind[GQ],by grind[GQ],by omega,by omega,by omega,by simp,J2,T5,λg b=>?_⟩;rcases b with b|b;refine⟨d.imb g b,λhA=>?_⟩;rcases d.im0 g b with k|k|k;grind;have:=R.bnd _ _ _ s g hA;omega;exact k.no;refine⟨d.bnd _ _ _ m1 b,λhA=>?_⟩;rcases d.own _ _ _ m1 b with⟨k,_⟩|k;have:=R.bnd _ _ _ s g hA;omega;exact k.no;refine wpIn_mono (wpIn_wide.2 (ZhQ h l i hi f _ _ _ _ _ S)) ?_;rintro e a' w' ⟨rfl,z⟩;obtain⟨ρ,a4,I1,T1⟩:=z;refine bodyPost_ret (results_none rfl _ _ _) T1.defers ⟨⟨_,rfl⟩,.inl ⟨by grind[GQ],r, ?_⟩⟩;rw[GQ,if_neg f];exact R.keep _ _ _ _ s I1.kept.no
end
end Go.Proofs.YtgedmeaemofdkaaGreat
namespace Go.Proofs.YtgedmeaemofdkaaGreat
open Go.Sx
def ZjZ(h:Heap) i:CP (H4 f214) (Tg.st ⟨tm 6 [(0,h.av),(1,nI i)],[],1⟩) .ret (Tg.st ⟨tm 6 [(4,.fn 234 [.pt 8002 0 0,.pt 8003 0 0])],[(8003,.box 3 [nI i]),(8002,.box 28 h.cells)],30⟩):=by exact sF [] [] Fz
def Zlo(h:Heap) i:RJ prog 1 (H4 f183) (Tg.st ⟨tm 22 [(0,h.av),(1,nI i)],[],1⟩) (Tg.st ⟨tm 22 [(1,nI i),(2,.pt 8002 0 0),(4,.pt 8004 0 0),(5,.pt 8005 0 0)],[(8005,.box 32 [nI 0]),(8004,.box 206 [.d (.sl 0 [])]),(8002,.box 28 h.cells)],20⟩):=by refine SQ [] [] [] (φ:=True) ?_ kr kr kr kr;exact trivial
def ptr(g:Nat):AV:=.d (.sc (.pointer (M ⟨g,0,La⟩)))
def Zia g4 g5:CIn prog (Hf f183 0) (Tg.st ⟨tm 22 [(4,ptr g4),(5,ptr g5),(12,Hz.av),(13,nI 19)],[],20⟩) .nrm (Tg.st ⟨tm 22 [(4,ptr g4),(5,ptr g5),(8,nI 19)],[],30⟩):=by refine Z2u [] [] [] (φ:=True) ?_ kr kr kr kr;exact trivial
end Go.Proofs.YtgedmeaemofdkaaGreat
namespace Go.Proofs.YtgedmeaemofdkaaGreat
open Go.Sx Go.RowKit
section
variable{P:Program}{o:Oper}{a:Act}{w:World}
theorem Z1c{t g ty:Nat}{v:Value}(e:w.heap[g]?=M (.cells #[v] ty (0,0)))(c:v.oneCell'=O)(d:Rb P t=M Ld):(loadVar t ⟨g,0,La⟩).run P w=.ok v w:=by
 obtain⟨v',h1,h2⟩:=Z8q (P:=P) (w:=w) (t:=t) (g:=g) (off:=0) (l:=[.d (.sc v)]) (o:=0) (x:=.d (.sc v)) (ρ:=λ_=>La) (Im:=λ_=>False) (λj a b=>by
  cases j with
  |zero=>cases b;exact⟨v,by simp[XA,e],c,.d (.sc _ c)⟩
  |succ j=>simp at b) (by simp[NU,d])
 grind[BV]
theorem Z58{t g ty:Nat}{x:Operand}{v:Value}(b:o.op=.load t x)(f:a.eval x=.pointer (M ⟨g,0,La⟩))(e:w.heap[g]?=M (.cells #[v] ty (0,0)))(d:v.oneCell'=O)(c:Rb P t=M Ld):(execOp a.eval o).run P w=.ok (.value v) w:=by simp[execOp,b,Instr.loadAt,Instr.sureAddr,f,Z1c e d c]
theorem PV{t g ty:Nat}{x y:Operand}{u v:Value}(c:o.op=.store t x y)(f:a.eval x=.pointer (M ⟨g,0,La⟩))(j:a.eval y=v)(e:w.heap[g]?=M (.cells #[u] ty (0,0)))(d:v.oneCell'=O)(hs:Bv P t=1):(execOp a.eval o).run P w=.ok .skip (w.setRow g #[v]):=by have b:=Z6d d;have:=Z4D (P:=P) (t:=t) (off:=0) (v:=v) e (by grind) (Z39 oq) (by rw[b];simp) (λi u h=>by grind);rw[b]at this;simp at this;simp[execOp,c,Instr.storeAt,Instr.sureAddr,f,j,this]
theorem ZiX{t:Nat}{z:Value}(d:o.op=.alloc t)(b:zeroOf P t=M z):(execOp a.eval o).run P w=.ok (.value (.pointer (M ⟨w.heap.size,0,La⟩))) (w.alloc (.cells z.cells t)):=by unfold zeroOf at b;split at b;rename_i i c;simp[execOp,d,Instr.alloc,zeroValue,typeInfo,c,b,newVar,newRow];cases b
theorem Nr{v:Value}{w':World}{next:Act->World->Prop}{Q}(h:(execOp a.eval o).run P w=.ok (.value v) w')(k:next (a.put o.dst v) w'):o.wp P a w next Q:=by unfold Lt;rw[h];exact k
theorem PI{w':World}{next:Act->World->Prop}{Q}(h:(execOp a.eval o).run P w=.ok .skip w')(k:next (a.put o.dst undef) w'):o.wp P a w next Q:=by unfold Lt;rw[h];exact k
theorem IE{F}{n i:Nat}{l}{ops:Array Oper}{Q}(ho:ops[i]?=M o)(hg:o.guard=La)(h:o.wpIn F n P a w (wpOpsIn F n P ops Q l) Q):wpOpsIn F n P ops Q (i::l) a w:=by grind[wpOpsIn,LN]
theorem OJ{g ty:Nat}{cs cs':Array Value}(b:w.heap[g]?=M (.cells cs ty (0,0))):(w.setRow g cs').heap[g]?=M (.cells cs' ty (0,0)):=setRow_heap w g cs cs' ty _ b
end
def RH{A X Y Z}(h:Kept (λ_=>False) X Y)(k:Kept A Y Z)(hA:∀g,A g->X.heap.size<=g):Kept (λ_=>False) X Z:=
 ⟨k.os.trans h.os,k.tape.trans h.tape,k.output.trans h.output,L0 h.size k.size,λg a _=>by
  rw[k.block g (Lw a h.size) (λq=>by grind)];exact h.block g a (λq=>q),λg a=>by rw[k.rows g (Lw a h.size)];exact h.rows g a⟩
def Zem(h:Heap) i(w:World)(Im:Nat->Prop) b f(j:∀g,Im g->g<w.heap.size)(h1:Zj (λ_=>La) w Im h.av b)(h2:Zj (λ_=>La) w Im (nI i) f) :Calls prog 214 #[b,f] w λe w'=>∃p1 p2,∃Im':Nat->Prop,e=.returned (.func (.func 234) #[] #[p1,p2])/\Kept (λ_=>False) w w'/\(∀g,Im' g->(Im g\/w.heap.size<=g)/\g<w'.heap.size) /\
   Zj (λ_=>La) w' Im' (.rp h.dvs 0) p1/\Zj (λ_=>La) w' Im' (.rp [Zd i] 0) p2:=by
 refine calls_of_wp func214 (c:=H4 f214) kr ?_;have S:Sx.Sys EG Im w (tm 6 [(0,h.av),(1,nI i)]) (Bn []) 1 {tmps:=#[b,f]++LH (Tryz.f214.ntmps-(#[b,f]:Array Value).size) undef,defers:=[]} w:=by(refine⟨_,Im,Inv.empty j (Ls 1),⟨by kernel_rfl,λk y v l b=>?_,rfl⟩⟩;rw[show tm 6 [(0,h.av),(1,nI i)]=[h.av,nI i]++Lg 4 .any from by kernel_rfl,LM]at l;rw[LA]at b;split at l;grind;have:=Lk l;rw[(Lv.1 this).2];exact .any _)
 refine wp_mono (ZjZ h i _ _ _ _ _ S) ?_;rintro e o w' ⟨rfl,ρ,Im',I,T⟩;refine bodyPost_ret (results_tmp rfl _ _ _) T.defers ?_;have p:Zj ρ w' Im' (.fn 234 [.pt 8002 0 0,.pt 8003 0 0]) (o.tmps.getD 4 undef):=CU T (.tmp 4);generalize o.tmps.getD 4 undef=fv at p;cases p with
 |fn r q =>
  rename_i d;have s:d.size=2:=r;obtain⟨p1,p2,rfl⟩:∃p1 p2,d=#[p1,p2]:=⟨d[0],d[1],by
   grind⟩
  obtain⟨β2,m,t⟩:=I.blk 8002 _ rfl;obtain⟨β3,n,u⟩:=I.blk 8003 _ rfl;refine⟨p1,p2,λg=>Im' g\/β2.g=M g\/β3.g=M g,rfl,I.kept.no,λg a=>?_,M3 m t (q 0 _ p1 rfl rfl) (λ_ h=>.inl h) (λ_ h=>.inr (.inl h)),M3 n u (q 1 _ p2 rfl rfl) (λ_ h=>.inl h) (λ_ h=>.inr (.inr h))⟩;rcases a with a|a|a;exact⟨(I.im0 g a).imp id (λh=>h.elim id (λh=>h.no.elim)),I.imb g a⟩;exact⟨.inr ((I.own _ _ g m a).elim (·.1) (λh=>h.no.elim)),I.bnd _ _ g m a⟩;exact⟨.inr ((I.own _ _ g n a).elim (·.1) (λh=>h.no.elim)),I.bnd _ _ g n a⟩
def rgB(fn:Func)(k:Nat):Array Oper:=match Ss k (GN fn 0)with|some o=>o|none => #[]
def ZcJ{tmps:Array Value}{W:World}{g4 g5:Nat}{v4 v5:Value}(b:tmps.getD 4 undef=.pointer (M ⟨g4,0,La⟩))(c:tmps.getD 5 undef=.pointer (M ⟨g5,0,La⟩))(c4:W.heap[g4]?=M (.cells #[v4] 206 (0,0)))(a:W.heap[g5]?=M (.cells #[v5] 32 (0,0)))(f:v4.oneCell'=O)(g:v5.oneCell'=O):(results f183 tmps).run prog W=.ok (.tuple #[v4,v5]) W:=by rw[Z9a,show Tryz.f183.results=#[.cell 4 206,.cell 5 32]from rfl];have d:=Z1c (P:=prog) (t:=206) c4 f kr;have e:=Z1c (P:=prog) (t:=32) a g kr;simp[D7,b,c,asAddr,d,e,List.mapM_toArray]
def Z4t{tmps:Array Value}{W:World}{g4 g5 D:Nat}{v4 v5:Value}{R:Ending->World->Prop}(h4:tmps.getD 4 undef=.pointer (M ⟨g4,0,La⟩))(h5:tmps.getD 5 undef=.pointer (M ⟨g5,0,La⟩))(c4:W.heap[g4]?=M (.cells #[v4] 206 (0,0)))(c5:W.heap[g5]?=M (.cells #[v5] 32 (0,0)))(o4:v4.oneCell'=O)(o5:v5.oneCell'=O)(hD:W.heap[D]?=M (.deferred (M [])))(hR:R (.returned (.tuple #[v4,v5])) (W.putObj D (.deferred La))) :bodyPostM Le 10 prog f183 R .ret {tmps:=tmps,defers:=[{target:=.collected D,args:=#[]}]} W:=by
 refine⟨by simp,.inl ⟨_,_,rfl,run_takeDeferred hD, ?_⟩⟩;have n4:g4≠D:=by grind
 have n5:g5≠D:=by grind
 exact⟨_,ZcJ h4 h5 ((Lj n4).trans c4) ((Lj n5).trans c5) o4 o5,hR⟩
def Zas{fn:Nat}{a0:Array Value}{D l n g4 g5:Nat}{u4 u5:Value}{W:World}(ha0:a0.size=22)(ha4:a0[4]?=M (.pointer (M ⟨g4,0,La⟩)))(ha5:a0[5]?=M (.pointer (M ⟨g5,0,La⟩)))(rl:W.heap[l]?=M (Lp {state:=.ready,pending:=La,fn:=fn,tmps:=a0,params:=#[12,13],assign:=Hf f183 0,body:=GN f183 0,defers:=D}))(rD:W.heap[D]?=M (.deferred (M [])))(c4:W.heap[g4]?=M (.cells #[u4] 206 (0,0)))(c5:W.heap[g5]?=M (.cells #[u5] 32 (0,0)))(h45:g4≠g5) :
  YieldAt Le n prog l (IH Hz 19) W λe W'=>e=.returned (.bool Ld)/\W'.heap[l]?=M (Lp {state:=.done,pending:=M .ret,fn:=fn,tmps:=a0,params:=#[12,13],assign:=Hf f183 0,body:=GN f183 0,defers:=D}) /\
   W'.heap[D]?=M (.deferred (M []))/\W'.heap[g4]?=M (.cells #[.slice La 0 0] 206 (0,0))/\W'.heap[g5]?=M (.cells #[.int .i64 19] 32 (0,0))/\Kept (λg=>g=l\/g=g4\/g=g5) W W':=by
 refine⟨fn,_,_,_,run_yield rl rfl,roundIn_of_wpIn trivial ?_⟩;have ef:((#[12,13]:Array Nat).zip (IH Hz 19)).foldl (λtmps (t,a)=>tmps.setIfInBounds t a) a0=(a0.setIfInBounds 12 (Nu Hz)).setIfInBounds 13 (.int .i64 19):=by simp[IH]
 show(Hf f183 0).wpIn _ n _ _ {tmps:=((#[12,13]:Array Nat).zip (IH Hz 19)).foldl (λtmps (t,a)=>tmps.setIfInBounds t a) a0,defers:=[]} W;rw[ef];have TA:Ck [] (λ_=>La) W (λ_=>False) (Lg 22 .any) {tmps:=a0,defers:=[]}:=by(refine⟨by rw[ha0];rfl,λi y v h1 h2=>?_,rfl⟩;have:=Lk h1;rw[(Lv.1 this).2];exact .any _)
 have T1:=(((TA.reSet 4 (ptr g4) (λv hv=>by rw[ha4]at hv;cases hv;exact .d (.sc _ rfl))).reSet 5 (ptr g5) (λv hv=>by rw[ha5]at hv;cases hv;exact .d (.sc _ rfl))).put 12 (Z5o _ W _ Hz)).put 13 (Zj.d (Cz.sc (LF .i64 19) rfl));have S1:Sx.Sys EG (λ_=>False) W (Tg.st ⟨tm 22 [(4,ptr g4),(5,ptr g5),(12,Hz.av),(13,nI 19)],[],20⟩).tmps (Tg.st ⟨tm 22 [(4,ptr g4),(5,ptr g5),(12,Hz.av),(13,nI 19)],[],20⟩).H 20 {tmps:=(a0.setIfInBounds 12 (Nu Hz)).setIfInBounds 13 (.int .i64 19),defers:=[]} W:=
  ⟨_,_,Inv.empty (λ_ h=>h.elim) dd,T1⟩
 refine wpIn_mono (Zia g4 g5 (M l) n _ _ _ _ _ S1) ?_;rintro e a1 w1 ⟨rfl,ρ1,Im1,I1,T1⟩;have K1:=I1.kept.no;have same1:∀{g:Nat} {o:Obj},W.heap[g]?=M o->w1.heap[g]?=M o:=λ{g o} h=>by(rw[K1.block g (Ln.1 h).1 (λq=>q)];exact h)
 refine⟨_,run_beginRound (same1 rl) rfl, ?_⟩;obtain⟨w2,hw2⟩:∃w2,w1.putObj l (Lp {state:=.busy,pending:=La,fn:=fn,tmps:=a0,params:=#[12,13],assign:=Hf f183 0,body:=GN f183 0,defers:=D})=w2:=⟨_,rfl⟩;have rl2:w2.heap[l]?=M (Lp {state:=.busy,pending:=La,fn:=fn,tmps:=a0,params:=#[12,13],assign:=Hf f183 0,body:=GN f183 0,defers:=D}):=by grind[Ly]
 have hs2:∀g,g≠l->w2.heap[g]?=w1.heap[g]?:=λg hg=>by grind[Lj]
 have hz2:w2.heap.size=w1.heap.size:=by grind[Lz]
 have hos2:w2.os=w1.os/\w2.tape=w1.tape/\w2.output=w1.output:=by rw[<-hw2];exact⟨rfl,rfl,rfl⟩
 have n4:g4≠l:=by grind
 have n5:g5≠l:=by grind
 have nD:D≠l:=by grind
 have T2:Ck [] (λ_=>La) w2 (λ_=>False) (tm 22 [(4,ptr g4),(5,ptr g5),(8,nI 19)]) a1:=by
  refine⟨T1.size,λi x v h1 h2=>?_,T1.defers⟩;have:=T1.tmp i x v h1 h2;have hx:x=.any\/∃u,x=.d (.sc u):=by
   have hm:=Lk h1;have:∀y∈tm 22 [(4,ptr g4),(5,ptr g5),(8,nI 19)],y=.any\/∃u,y=.d (.sc u):=by(rw[show tm 22 [(4,ptr g4),(5,ptr g5),(8,nI 19)]=Lg 4 .any++[ptr g4,ptr g5,.any,.any,nI 19]++Lg 13 .any from by kernel_rfl];intro y hy;simp only[Xq,Lv,Lh,Ll,or_false]at hy;rcases hy with(⟨_,rfl⟩|rfl|rfl|rfl|rfl|rfl)|⟨_,rfl⟩<;>first|exact .inl rfl|exact .inr ⟨_,rfl⟩)
   exact this x hm
  rcases hx with rfl|⟨u,rfl⟩;exact .any _;rw[BV this];have h1:(Value.oneCell' u)=O:=by(cases this with|d h=>cases h with|sc _ h=>exact h)
  exact .d (.sc _ h1)
 have S2:Sx.Sys EG (λ_=>False) w2 (tm 22 [(4,ptr g4),(5,ptr g5),(8,nI 19)]) (Bn []) 20 a1 w2:=⟨_,_,Inv.empty (λ_ h=>h.elim) dd,T2⟩;show(GN f183 0).wpIn (fen (M l)) n prog _ a1 _;rw[hw2];generalize hQ:roundPost prog l _=Q;obtain⟨yc,hyc⟩:∃yc:Code,GN f183 0=.block 1 (.seq (.seq (.region 5 (rgB f183 5) Ld) (.cond (.tmp 15) (.seq (.region 6 (rgB f183 6) Ld) .ret) .skip)) yc):=⟨.region 7 (rgB f183 7) Ld,by kernel_rfl⟩;rw[hyc];refine wpIn_block (wpIn_seq (wpIn_seq (wpIn_region ?_)));rw[show Lm (rgB f183 5).size=[0,1]from by kernel_rfl];refine TH (ro:=M l) (hints:=[]) (out:=⟨tm 22 [(4,ptr g4),(5,ptr g5),(8,nI 19),(14,nI 19),(15,bL ((19:Int) != 0))],Bn [],[],[]⟩) kr S2 trivial (λp hp=>by simp at hp) ?_;intro a3 w3 S3;have v15:a3.eval (.tmp 15)=.bool O:=by obtain⟨_,_,_,T⟩:=S3;exact BV (CU T (.tmp 15))
 refine wpIn_cond_true v15 (wpIn_seq (wpIn_region ?_));rw[show Lm (rgB f183 6).size=[0]++[1,2]from by kernel_rfl];refine AU (ro:=M l) (hints:=[]) (out:=⟨tm 22 [(4,ptr g4),(5,ptr g5),(8,nI 19),(14,nI 19),(15,bL ((19:Int) != 0)),(16,nI 19)],Bn [],[],[]⟩) kr S3 trivial (λp hp=>by simp at hp) ?_;rintro a4 w4 ⟨ρ4,Im4,I4,T4⟩;have K4:=I4.kept.no;have same4:∀{g:Nat} {o:Obj},w2.heap[g]?=M o->w4.heap[g]?=M o:=λ{g o} h=>by(rw[K4.block g (Ln.1 h).1 (λq=>q)];exact h)
 have v4:a4.eval (.tmp 4)=.pointer (M ⟨g4,0,La⟩):=BV (CU T4 (.tmp 4));have v5:a4.eval (.tmp 5)=.pointer (M ⟨g5,0,La⟩):=BV (CU T4 (.tmp 5));have v16:a4.eval (.tmp 16)=.int .i64 19:=BV (CU T4 (.tmp 16));have d4:w4.heap[g4]?=M (.cells #[u4] 206 (0,0)):=same4 (by grind);have d5:w4.heap[g5]?=M (.cells #[u5] 32 (0,0)):=same4 (by grind);have e4:=OJ (cs':=#[.slice La 0 0]) d4;have f5:(w4.setRow g4 #[.slice La 0 0]).heap[g5]?=M (.cells #[u5] 32 (0,0)):=by grind[setRow_other]
 refine IE (o:=(rgB f183 6).getD 1 Lb) kr kr (Iv (by intro c h;cases h) (PI (PV (t:=206) (x:=.tmp 4) (y:=.const (.slice La 0 0)) (v:=.slice La 0 0) kr v4 rfl d4 rfl kr) ?_));refine IE (o:=(rgB f183 6).getD 2 Lb) kr kr (Iv (by intro c h;cases h) (PI (PV (t:=32) (x:=.tmp 5) (y:=.tmp 16) (v:=.int .i64 19) kr v5 v16 f5 rfl kr) ?_));generalize hw5:(w4.setRow g4 #[.slice La 0 0]).setRow g5 #[.int .i64 19]=w5;have sm:∀{g:Nat},g≠g4->g≠g5->w5.heap[g]?=w4.heap[g]?:=λ{g} h k=>by(grind[setRow_other])
 have rw5:∀g,rows w5 g=rows w4 g:=λg=>by grind[SZ]
 have z5:w5.heap.size=w4.heap.size:=by grind[XB]
 have os5:w5.os=w4.os/\w5.tape=w4.tape/\w5.output=w4.output:=by rw[<-hw5];exact⟨rfl,rfl,rfl⟩
 have rl5:w5.heap[l]?=M (Lp {state:=.busy,pending:=La,fn:=fn,tmps:=a0,params:=#[12,13],assign:=Hf f183 0,body:=GN f183 0,defers:=D}):=by grind
 have m4:g4≠D:=by grind
 have m5:g5≠D:=by grind
 refine wpIn_ret ?_;show Q .ret _ w5;rw[<-hQ];refine⟨_,_,run_endRound (M .ret) rl5,rfl,Ly (Ln.1 rl5).1, ?_, ?_, ?_, ?_⟩;grind[Lj];grind[Lj,setRow_other];grind[Lj,OJ];have rowl:∀(X:World) (o:Obj) (g:Nat),(∃r,X.heap[l]?=M (.loop r))->(∃r,o=.loop r)->rows (X.putObj l o) g=rows X g:=by(rintro X o g ⟨r,hr⟩ ⟨r',rfl⟩;by_cases hg:g=l;grind[rows,Ly];grind[rows,Lj])
 refine⟨os5.1.trans (K4.os.trans (hos2.1.trans K1.os)),os5.2.1.trans (K4.tape.trans (hos2.2.1.trans K1.tape)),os5.2.2.trans (K4.output.trans (hos2.2.2.trans K1.output)), ?_,λg hg hn=>?_,λg hg=>?_⟩;rw[Lz,z5];have:=K1.size;have:=K4.size;omega;grind[Lj];have:=K1.size;rw[rowl _ _ _ ⟨_,rl5⟩ ⟨_,rfl⟩,rw5,K4.rows g oq,<-hw2,rowl _ _ _ ⟨_,same1 rl⟩ ⟨_,rfl⟩,K1.rows g hg]
end Go.Proofs.YtgedmeaemofdkaaGreat
namespace Go.Proofs.YtgedmeaemofdkaaGreat
open Go.Sx Go.RowKit
def Ep(l:List Found):AV:=.d (.sl 4 (l.map Found.dv))
def BN(h:Heap)(i:Int):List Found×Int:=if(GQ h i).2=O then((GQ h i).1,0)else([],19)
def LK(w00:World)(g6:Nat)(a:List (Nat×Obj))(A:Nat->Prop)(pre:List Found)(W:World):Prop:=LJ g6 a A pre W/\Kept (λ_=>False) w00 W/\∀g,A g->w00.heap.size<=g
def Sw(F:Func)(fn:Nat)(a0:Array Value)(D:Nat)(st:LoopState)(a:Option Code):Obj:=.loop {state:=st,pending:=a,fn:=fn,tmps:=a0,params:=#[12,13],assign:=Hf F 0,body:=GN F 0,defers:=D}
def LX(w00:World)(fn:Nat)(a0:Array Value)(l D g4 g5:Nat)(W:World):Prop:=
 W.heap[l]?=M (Sw f183 fn a0 D .done (M .ret))/\W.heap[D]?=M (.deferred (M []))/\W.heap[g4]?=M (.cells #[.slice La 0 0] 206 (0,0))/\W.heap[g5]?=M (.cells #[.int .i64 19] 32 (0,0))/\Kept (λ_=>False) w00 W
def ZkH{w00:World}{fn}{a0:Array Value}{D l n g4 g5 g6:Nat}{u4 u5:Value}(i:a0.size=22)(q:a0[4]?=M (.pointer (M ⟨g4,0,La⟩)))(r:a0[5]?=M (.pointer (M ⟨g5,0,La⟩)))(u:a0[6]?=M (.pointer (M ⟨g6,0,La⟩)))(p:g4≠g5)(h4:w00.heap.size<=g4)(h5:w00.heap.size<=g5)(hl:w00.heap.size<=l) :Rnd l n (LK w00 g6 [(l,Sw f183 fn a0 D .ready La),(D,.deferred (M [])),(g4,.cells #[u4] 206 (0,0)),(g5,.cells #[u5] 32 (0,0))]) (LX w00 fn a0 l D g4 g5):=by refine⟨λA c X Y ⟨J,K,d⟩ k=>⟨J.keep k,RH K k (λ_ h=>h.elim),d⟩,λA c X ⟨⟨ρ,h1,I,_⟩,_,_⟩ g j=>?_,λA c X x ⟨J,K,d⟩ hlen=>?_,λA c X ⟨J,K,d⟩ _=>?_⟩;obtain⟨b,β,k1,k2⟩:=(h1 g).1 j;exact I.bnd b β g k1 k2;obtain⟨a,t,s,b,v,w⟩:=Zh8 (n:=n) (D:=D) hlen i u (Xa) J x;refine⟨a,t,s,b,v,w.mono ?_⟩;rintro e W' ⟨rfl,y,z,f,m⟩;refine⟨rfl,y,⟨z,RH K m d,λg j=>?_⟩,f,m⟩;rcases f g j with h|h;exact d g h;exact L0 K.size h;obtain⟨ρ,_,_,_,_,_,o⟩:=J;have p1:=(o (l,Sw f183 fn a0 D .ready La) pq).1;have p2:=(o (D,.deferred (M [])) pq).1;have p3:=(o (g4,.cells #[u4] 206 (0,0)) pq).1;have p4:=(o (g5,.cells #[u5] 32 (0,0)) pq).1;obtain⟨a,t,s,b,v,w⟩:=Zas (n:=n) i q r p1 p2 p3 p4 p;refine⟨a,t,s,b,v,w.mono ?_⟩;rintro e W' ⟨rfl,m1,m2,m3,m4,m⟩;refine⟨rfl,m1,m2,m3,m4,RH K m (λg j=>?_)⟩;rcases j with rfl|rfl|rfl<;>assumption
def Zlv{w00 W g6 l A pre}(J:LK w00 g6 l A pre W):∃i,W.heap[g6]?=M (.cells #[i] 206 (0,0))/\i.oneCell'=O/\A g6/\∃Im:Nat->Prop,(∀g,Im g->A g/\g<W.heap.size)/\Cz W Im (.sl 4 (pre.map Found.dv)) i:=by
 obtain⟨⟨ρ,s,I,⟨s6,n6,w⟩,hs,hr,hp⟩,K,u⟩:=J;obtain⟨β,y,m2⟩:=I.blk 6 _ rfl;rw[w]at y;cases y;obtain⟨_,_,g,r,e1,e2,e3,e4,e5⟩:=m2;cases e1;have hc:r.size=1:=e3;obtain⟨i,rfl⟩:∃i,r=#[i]:=⟨r[0],by
  apply Xg;simp[hc];intro k hk _;rcases k with _|k;rfl;omega⟩
 have v:Zj ρ W (λ_=>False) (.ow 8020) i:=e5 0 _ i rfl rfl;have t:A g6:=(s g6).2 ⟨6,_,w,rfl⟩;refine⟨i,e2,e4 0 i rfl,t, ?_⟩;obtain⟨β2,k1,k2⟩:=I.blk 8020 _ rfl;let ρ':ZK:=λb=>if b=8020 then ρ 8020 else La;have j:∀b β,ρ' b=M β->b=8020/\ρ 8020=M β:=by(intro b β h;simp only[ρ']at h;split at h;exact⟨aa,h⟩;cases h)
 have I2:Sx.Inv EG (λ_=>False) w00 ρ' W (λ_=>False) (Bn [(8020,.arr 212 4 (pre.map Found.dv))]) 20:=by
  refine⟨K.imp λ_ h=>h.elim,λb b' β β' g _ _ d f _ _=>by rw[(j _ _ d).1,(j _ _ f).1],λ_ _ _ _ _ _ h=>h,λb β g d f=>I.bnd _ _ g (j _ _ d).2 f,λb β g d f=>.inl ⟨u g ((s g).2 ⟨8020,β,(j _ _ d).2,f⟩),by rw[(j _ _ d).1];decide⟩,λ_ h=>h.elim,λ_ h=>h.elim,λb B m=>?_,λb o _=>?_,⟨by decide,λb β o q=>absurd o (by rw[(j _ _ q).1];decide)⟩⟩;simp only[Bn]at m;split at m;cases m;rename_i o;subst o;exact⟨β2,by simp only[ρ',if_true];exact k1,k2.mono (Ext.refl _ _) (λ_ h=>h) (λ_ _ h=>h) I.bnd (λ_ _=>rfl) |> λh=>by
   obtain⟨a1,a2,a3,a4,a5⟩:=h;exact⟨a1,a2,a3,a4,a5⟩⟩
  cases m;simp only[ρ'];rw[if_neg oq]
 have x:Zj ρ' W (λ_=>False) (.ow 8020) i:=by
  cases v with|ow d f z p=>exact .ow (by simp only[ρ',if_true];exact d) f z p
 have:=Z3E (keep:=[]) (fr:=O) (b:=8020) (els0:=pre.map Found.dv) I2 x rfl pq ⟨_,rfl,by simp⟩ (λe he=>he) (λ_=>Pt pre) (λa n c hv hn=>by
  subst hv;cases x with
  |ow d f z p =>
   rcases p with p|⟨g,q5,q6,_⟩;omega;cases q6;exact⟨_,d,q5⟩)
 refine⟨_,λg hg=>?_,this⟩;rcases hg with⟨h,_⟩|⟨b,β,_,_,d,f⟩;cases h;exact⟨(s g).2 ⟨8020,β,(j _ _ d).2,f⟩,I.bnd _ _ g (j _ _ d).2 f⟩
end Go.Proofs.YtgedmeaemofdkaaGreat
namespace Go.Proofs.YtgedmeaemofdkaaGreat
open Go.Sx
def ZhL(h:Heap):¬ (Z9 h 0).2=0:=by
 unfold Z9;split;have:¬ (Z3 h.C 0).2.2=0:=by(unfold Z3;split;rw[if_neg oq];simp;simp)
 rw[if_neg this];simp;simp
def ZbZ{h:Heap}(d:Z8 h=O){i o:Int}(hi:0<=i/\i<h.P.length)(m:0<=o/\o<h.C.pw)(e:(Z9 h (B8 h i o)).2=0):(pg h i).K=2->o=0/\Z5 (Z9 h (B8 h i o)).1=(pg h i).U:=by
 have g:=B5 d;have hq:=Ig.1 d;have j:B8 h i o=4096+(i*h.C.pw+o):=by(unfold B8 address;rw[if_pos g.1,if_pos (by unfold inB;simp;omega)])
 have f:=Da (c:=h.C) (i:=i) (o:=o) g.1 oq m;rw[<-j]at f;unfold Z9 at e⊢;rw[if_pos d,f]at e⊢;simp only[if_true]at e⊢;intro l;have b:(h.P.getD i.toNat Lb).K=2:=l;split at e;rename_i k;rw[if_pos k];split at e;simp at e;rename_i a;rw[if_neg a];simp only[b,not_or,not_and]at a;have:=a.2;simp only[true_and,not_or,Classical.not_not,forall_const]at this;exact⟨this.1,this.2⟩;simp at e
def Z8j{h:Heap}(hp:Z8 h=O){i:Int}(hi:0<=i/\i<h.P.length):∀(f:Nat) (o:Int),0<=o->((pg h i).K=2->o=0) -> ((EH h i f o).2=O->Ej h i f o=M ((EH h i f o).1.map (·.addr)))/\((EH h i f o).2=Ld->Ej h i f o=La)
 |0,o,_,_=>⟨λ_=>rfl,λh=>by cases h⟩
 |f+1,o,h0,hk=>by
  unfold EH Ej;by_cases ho:o<(pg h i).U
  .rw[if_pos ho,if_pos ho];by_cases ha:(address h.C i o).2=0
   .by_cases hh:(Z9 h (B8 h i o)).2=0
    .rw[if_pos ⟨ha,hh⟩,if_pos hh];have hpw:o<h.C.pw:=by
      unfold address at ha;split at ha
      .split at ha
       .rename_i hb;unfold inB at hb;simp at hb;omega
       .simp at ha
      .simp at ha
     have h2:=ZbZ hp hi ⟨h0,hpw⟩ hh;by_cases hk2:(pg h i).K=2
     .rw[if_pos hk2];have e:EH h i f (o+Z5 (Z9 h (B8 h i o)).1)=([],O):=by
       have:=h2 hk2;cases f with|zero=>rfl|succ f=>unfold EH;rw[if_neg oq]
      rw[e];exact⟨λ_=>rfl,λh=>by cases h⟩
     .rw[if_neg hk2];have sz:=I8 (Z9 h (B8 h i o)).1;obtain⟨i1,i2⟩:=Z8j hp hi f (o+Z5 (Z9 h (B8 h i o)).1) oq (λh=>absurd h hk2);exact⟨λh=>by rw[i1 h];rfl,λh=>by rw[i2 h];rfl⟩
    .rw[if_neg (λq=>hh q.2),if_neg hh];exact⟨λh=>(by cases h),λ_=>rfl⟩
   .have e:B8 h i o=0:=by
     unfold B8 address at *;split at ha
     .rename_i hv;split at ha
      .simp at ha
      .rename_i hb;rw[if_pos hv,if_neg hb]
     .rename_i hv;rw[if_neg hv]
    rw[if_neg (λq=>ha q.1),if_neg (by rw[e];exact ZhL h)];exact⟨λh=>(by cases h),λ_=>rfl⟩
  .rw[if_neg ho,if_neg ho];exact⟨λ_=>rfl,λh=>(by cases h)⟩
def Z42{h i}:∀{f:Nat} {o:Int},∀x∈(EH h i f o).1,x.hd=(Z9 h x.addr).1/\(Z9 h x.addr).2=0/\∃o,x.addr=B8 h i o
 |0,o,x,hx=>by simp[EH]at hx
 |f+1,o,x,hx=>by
  unfold EH at hx;split at hx
  .split at hx
   .rename_i a;rcases Lh.1 hx with rfl|hx
    .exact⟨rfl,a.2,o,rfl⟩
    .exact Z42 x hx
   .simp at hx
  .simp at hx
def Z7U{h i}:∀{f:Nat} {o:Int},(EH h i f o).1.length<=f
 |0,o=>by simp[EH]
 |f+1,o=>by
  unfold EH;split
  .split
   .have:=Z7U (h:=h) (i:=i) (f:=f) (o:=o+Z5 (Z9 h (B8 h i o)).1);simp only[List.length_cons];omega
   .simp
  .simp
def Z2y{h:Heap}(hp:Z8 h=O){i:Int}(hi:0<=i/\i<h.P.length):Ze h i=((BN h i).1.map (·.addr),(BN h i).2):=by
 have hk:=(EL hp (j:=i.toNat) oq);unfold Ze BN GQ;rw[if_pos hp,if_pos hi];by_cases h1:(pg h i).K=0\/(pg h i).K=3;have e:(if(pg h i).K=1\/(pg h i).K=2 then EH h i 256 0 else([],O))=([],O):=if_neg oq;rw[if_pos h1,e];rfl;have h2:(pg h i).K=1\/(pg h i).K=2:=by(have:0<=(pg h i).K/\(pg h i).K<=3:=⟨hk.2.2.2.2.1,hk.2.2.2.2.2.1⟩;omega)
 rw[if_neg h1,if_pos h2];obtain⟨i1,i2⟩:=Z8j hp hi 256 0 oq (λ_=>rfl);cases e:(EH h i 256 0).2 with|true=>rw[i1 e];rfl|false=>rw[i2 e];rfl
def PF(h:Heap) i:(BN h i).1.length<=256:=by unfold BN GQ;split;split;exact Z7U;simp;simp
def Z69{h i}:∀x∈(BN h i).1,x.hd=(Z9 h x.addr).1/\(Z9 h x.addr).2=0/\∃o,x.addr=B8 h i o:=by intro x a;unfold BN GQ at a;split at a;split at a;exact Z42 x a;simp at a;simp at a
def CG(h:Heap):Nat->Nat->List Found×Int|0,_=>([],0)|f+1,i=>if(BN h i).2=0 then(if(CG h f (i+1)).2=0 then((BN h i).1++(CG h f (i+1)).1,0)else([],(CG h f (i+1)).2))else([],(BN h i).2)
def Cq(h:Heap):List Found×Int:=if Z8 h=O then CG h h.P.length 0 else([],1)
def Z7W{h:Heap}(a:Z8 h=O):∀(f i:Nat),i+f<=h.P.length->Ce h f i=((CG h f i).1.map (·.addr),(CG h f i).2)
 |0,i,_=>rfl
 |f+1,i,hi=>by
  unfold Ce CG;rw[Z2y a (i:=i) oq,Z7W a f (i+1) oq];simp only;split
  .split
   .simp
   .rfl
  .rfl
def Z1u(h:Heap):Cx h=((Cq h).1.map (·.addr),(Cq h).2):=by unfold Cx Cq;split;rename_i a;exact Z7W a _ _ oq;rfl
def Zcz(h:Heap):∀(f i:Nat),¬ (CG h f i).2=0->(CG h f i).1=[]
 |0,i,e=>absurd rfl e
 |f+1,i,e=>by
  unfold CG at e⊢;split at e
  .rename_i a;rw[if_pos a];split at e
   .exact absurd rfl e
   .rename_i b;rw[if_neg b]
  .rename_i a;rw[if_neg a]
def Z9K{h}:∀(f i:Nat),∀x∈(CG h f i).1,x.hd=(Z9 h x.addr).1/\(Z9 h x.addr).2=0
 |0,i,x,hx=>by simp[CG]at hx
 |f+1,i,x,hx=>by
  unfold CG at hx;split at hx
  .split at hx
   .rcases Xq.1 hx with hx|hx
    .exact⟨(Z69 x hx).1,(Z69 x hx).2.1⟩
    .exact Z9K f (i+1) x hx
   .simp at hx
  .simp at hx
def Z5r{h}:∀x∈(Cq h).1,x.hd=(Z9 h x.addr).1/\(Z9 h x.addr).2=0:=by intro x a;unfold Cq at a;split at a;exact Z9K _ _ x a;simp at a
def Z9N(h:Heap):∀(f i:Nat),(CG h f i).1.length<=256*f
 |0,i=>by simp[CG]
 |f+1,i=>by
  have:=PF h i;have:=Z9N h f (i+1);unfold CG;split
  .split
   .simp;omega
   .simp
  .simp
def Zbi(h:Heap):(Cq h).1.length<=16384:=by unfold Cq;split;rename_i a;have:=Z9N h h.P.length 0;have:=B5 a;omega;simp
end Go.Proofs.YtgedmeaemofdkaaGreat
namespace Go.Proofs.YtgedmeaemofdkaaGreat
open Go.Sx Go.RowKit
def ZdG{h i}(e:(GQ h i).2=O):BN h i=((GQ h i).1,0):=if_pos e
def ZkM{h i}(e:(GQ h i).2=Ld):BN h i=([],19):=if_neg (by rw[e];simp)
theorem OY{w00 X}(K:Kept (λ_=>False) w00 X){g:Nat}{o}(hg:w00.heap.size<=g):Kept (λ_=>False) w00 (X.putObj g o):=by refine⟨K.os,K.tape,K.output,by rw[Lz];exact K.size,λk a _=>by rw[Lj oq];exact K.block k a id,λk a=>?_⟩;have:=K.rows k a;grind[rows,Lj]
theorem ZkE{w00 X}(K:Kept (λ_=>False) w00 X){g:Nat}{cs}(hg:w00.heap.size<=g):Kept (λ_=>False) w00 (X.setRow g cs):=by refine⟨K.os,K.tape,K.output,by have:=K.size;simp_all,λk a _=>by rw[setRow_other X g k _ oq];exact K.block k a id,λk a=>?_⟩;have:=K.rows k a;grind[rows,setRow_other]
theorem kept_alloc{w00 X}(K:Kept (λ_=>False) w00 X) o:Kept (λ_=>False) w00 (X.alloc o):=by have hs:=K.size;refine⟨K.os,K.tape,K.output,by simp;omega,λk a _=>by rw[LB _ _ _ oq];exact K.block k a id,λk a=>?_⟩;have:=K.rows k a;grind[rows,LB]
def ZdM{X:World}{l g:Nat}{x y:Option (List Deferred)}(h:X.heap[l]?=M (.deferred x)):rows (X.putObj l (.deferred y)) g=rows X g:=by grind[rows,Ly,Lj]
def ZdC{X:World}{l g:Nat}{x y:Loop}(h:X.heap[l]?=M (.loop x)):rows (X.putObj l (.loop y)) g=rows X g:=by grind[rows,Ly,Lj]
def HH{a:Act}{k:Nat}{v:Value}(h:a.tmps[k]?=M v):a.eval (.tmp k)=v:=by show a.tmps.getD k undef=v;simp_all
def Sp{a:Act}{k d:Nat}{u v:Value}(h:a.tmps[k]?=M v)(hk:d≠k):(a.put (M d) u).tmps[k]?=M v:=by show(a.tmps.setIfInBounds d u)[k]?=M v;grind
def A4{a:Act}{d:Nat}{u}(h:d<a.tmps.size):(a.put (M d) u).tmps[d]?=M u:=by show(a.tmps.setIfInBounds d u)[d]?=M u;grind
def ZaV{W:World}{g6:Nat}(k:W.heap[g6]?=M (.cells #[.slice La 0 0] 206 (0,0)))(c:List (Nat×Obj))(r:∀p∈c,W.heap[p.1]?=M p.2/\p.1≠g6):LJ g6 c (λg=>g=g6) [] W:=by
 have l6:g6<W.heap.size:=(Ln.1 k).1;let ρ:ZK:=λb=>if b=6 then M ⟨M g6,1,1⟩else if b=8020 then M ⟨La,4,0⟩else La;have hρ:∀b β,ρ b=M β->(b=6/\β=⟨M g6,1,1⟩)\/(b=8020/\β=⟨La,4,0⟩):=by grind
 have n:∀g,g=g6↔∃b β,ρ b=M β/\β.g=M g:=by(intro g;constructor;rintro rfl;exact⟨6,_,rfl,rfl⟩;grind)
 have hg:∀b β g,ρ b=M β->β.g=M g->b=6/\g=g6:=by grind
 refine⟨ρ,n,⟨Kept.refl _ _,λb b' β β' g _ _ e f q3 q4=>by grind,λ_ _ _ _ _ _ h=>h,λb β g e f=>by grind,λb β g e f=>.inr ⟨b,β,e,f⟩,λ_ h=>h.elim,λ_ h=>h.elim,λb B q=>?_,λb d _=>?_,⟨by decide,λ_ _ _ h=>h⟩⟩,⟨1,1,rfl⟩,λb β h=>?_,λb β g e f=>?_,λp j=>r p j⟩;simp only[S9,L8,Bn]at q;split at q;rename_i d;cases q;subst d;exact⟨_,rfl,rfl,rfl,by simp[big],by simp,.inl ⟨rfl,rfl⟩⟩;split at q;rename_i d;cases q;subst d;refine⟨_,rfl,rfl,rfl,g6,_,rfl,k,rfl,λi v h=>?_,λo a v l m=>?_⟩;rcases i with _|i<;>simp at h;subst h;rfl;rcases o with _|o<;>simp at l m;subst l;subst m;exact .ow (β:=⟨La,4,0⟩) rfl (Ls _) (by simp[big]) (.inl rfl);cases q;all_goals grind[rows]
def Z88{w00 W}{Im Im':Nat->Prop}{v4 v5:Value}{l:List Found}{e:Int}(K:Kept (λ_=>False) w00 W)(f:∀g,Im' g->w00.heap.size<=g/\g<W.heap.size)(j:Cz W Im' (.sl 4 (l.map Found.dv)) v4)(m:v5=.int .i64 e) :Re w00 Im O (.tu [Ep l,nI e]) [] (.tuple #[v4,v5]) W:=by subst m;refine⟨K,λ_=>La,Im',λg c=>.inr (f g c).1,λg c=>(f g c).2,λ_ _ _ h=>(by cases h),λ_ _ _ _ _ h=>(by cases h),λ_ _ h=>(by cases h),λk B h=>(by simp at h),.tu _ _ rfl λi a v b d=>?_⟩;rcases i with _|_|i<;>simp at b d;subst b;subst d;exact .d j;subst b;subst d;exact .d (.sc _ rfl)
def ZcG{h:Heap}{i:Int}(hw:Zy h.W)(hp:Z8 h=O)(hi:0<=i/\i<h.P.length){w00 w4}{Im Im4:Nat->Prop}{a4:Act}{g4 g5 g6:Nat}{u4 u5 p1 p2:Value}(K:Kept (λ_=>False) w00 w4)(ha:a4.tmps.size=22)(t4:a4.tmps[4]?=M (.pointer (M ⟨g4,0,La⟩)))(t5:a4.tmps[5]?=M (.pointer (M ⟨g5,0,La⟩)))(t6:a4.tmps[6]?=M (.pointer (M ⟨g6,0,La⟩)))(t11:a4.tmps[11]?=M (.func (.func 234) #[] #[p1,p2]))(hd:a4.defers=[])(l4:w00.heap.size<=g4)(l5:w00.heap.size<=g5)(n45:g4≠g5)(n46:g4≠g6)(n56:g5≠g6)(l6:w00.heap.size<=g6)(c4:w4.heap[g4]?=M (.cells #[u4] 206 (0,0)))(c5:w4.heap[g5]?=M (.cells #[u5] 32 (0,0)))(c6:w4.heap[g6]?=M (.cells #[.slice La 0 0] 206 (0,0)))(hIm:∀g,Im4 g->g<w4.heap.size/\g≠g6)(r1:Zj (λ_=>La) w4 Im4 (.rp h.dvs 0) p1)(r2:Zj (λ_=>La) w4 Im4 (.rp [Zd i] 0) p2){Q:Exit->Act->World->Prop}(hQ:bodyPostM Le 10 prog f183 (λe w'=>∃v,e=Ending.returned v/\Re w00 Im O (AV.tu [Ep (BN h i).1,nI (BN h i).2]) [] v w')=Q) :(Zk f183 0).wpIn Le 10 prog (Exit.then ((LS (.region 8 (Bj f183 8) Ld) .ret).wpIn Le 10 prog Q) Q) a4 w4:=by
 have hs4:=K.size;rw[show Zk f183 0=.block 0 (.rangeFunc (.tmp 11) #[12,13] (Hf f183 0) (GN f183 0))from by kernel_rfl];refine wpIn_block (wpIn_rangeFunc ?_);intro fn hfn;have q4:g4<w4.heap.size:=(Ln.1 c4).1;have q5:g5<w4.heap.size:=(Ln.1 c5).1;have q6:g6<w4.heap.size:=(Ln.1 c6).1;obtain⟨D,hD⟩:∃D,w4.heap.size=D:=⟨_,rfl⟩;obtain⟨W1,hW1⟩:∃W1,(w4.alloc (.deferred (M []))).alloc (Sw f183 fn a4.tmps D .ready La)=W1:=⟨_,rfl⟩;have old:∀{g:Nat},g<D->W1.heap[g]?=w4.heap[g]?:=λ{g} hg=>by(grind[LB])
 have atD:W1.heap[D]?=M (.deferred (M [])):=by grind[LB,Xf]
 have atL:W1.heap[D+1]?=M (Sw f183 fn a4.tmps D .ready La):=by(have:=Xf (w4.alloc (.deferred (M []))) (Sw f183 fn a4.tmps D .ready La);rw[World.size_alloc,hD]at this;rw[<-hW1];exact this)
 have z1:W1.heap.size=D+2:=by rw[<-hW1];simp;omega
 have K1:Kept (λ_=>False) w00 W1:=by grind[kept_alloc]
 have E1:Sx.Ext Im4 w4 W1:=⟨by omega,λg hg=>old (by grind),λg hg=>by grind[rows]⟩;have J0:LK w00 g6 [(D+1,Sw f183 fn a4.tmps D .ready La),(D,.deferred (M [])),(g4,.cells #[u4] 206 (0,0)),(g5,.cells #[u5] 32 (0,0))] (λg=>g=g6) [] W1:=by(refine⟨ZaV (by grind) _ λp hpp=>?_,K1,λg hg=>by omega⟩;simp only[Lh,Ll,or_false]at hpp;rcases hpp with rfl|rfl|rfl|rfl;grind;grind;grind;grind)
 have RR:=ZkH (w00:=w00) (fn:=fn) (a0:=a4.tmps) (D:=D) (l:=D+1) (n:=8) (g4:=g4) (g5:=g5) (g6:=g6) (u4:=u4) (u5:=u5) ha t4 t5 t6 n45 l4 l5 oq;have v11:=HH t11;refine⟨D+1,[{target:=.collected D,args:=#[]}],W1,{target:=.fn (.func 234) #[p1,p2],args:=#[Gc (D+1)]},W1,234,#[Gc (D+1)] ++ #[p1,p2],W1, ?_, ?_,λ_ _=>trivial, ?_,λ_=>by decide, ?_⟩;rw[<-hW1,<-hD];exact run_enterLoop_outer _ _ _ _ _;simp[resolve,t11,Lu,rangeCall,Gc,go_sem];have:=N0 (P:=prog) (f:=234) kr (#[Gc (D+1)] ++ #[p1,p2]) W1;grind[invoke];refine(ZjD h i (D+1) 8 hw hp hi RR (Im:=Im4) (λg hg=>⟨by grind,(hIm g hg).2⟩) (r1.mono E1 (λ_ h=>h) (λ_ _ h=>h) (λ_ _ _ h=>nomatch h)) (r2.mono E1 (λ_ h=>h) (λ_ _ h=>h) (λ_ _ _ h=>nomatch h)) J0).mono ?_;rintro e W2 ⟨⟨v,rfl⟩,hh⟩;rcases hh with⟨e1,A,J2⟩|⟨e1,x1,x2,x3,x4,x5⟩;obtain⟨sv,s1,s2,s3,Im',s4,s5⟩:=Zlv J2;obtain⟨⟨ρ,_,_,_,_,_,hpp⟩,K2,hge⟩:=J2;have pl:=hpp (D+1,Sw f183 fn a4.tmps D .ready La) pq;have pD:=hpp (D,.deferred (M [])) pq;have p4:=hpp (g4,.cells #[u4] 206 (0,0)) pq;have p5:=hpp (g5,.cells #[u5] 32 (0,0)) pq;have n6:∀{g:Nat},¬ A g->g6≠g:=λhg e=>hg (e▸s3);refine⟨La,_,run_endLoop pl.1 pq, ?_⟩;show(LS (.region 8 (Bj f183 8) Ld) .ret).wpIn Le 10 prog Q {tmps:=a4.tmps,defers:=[{target:=.collected D,args:=#[]}]++a4.defers} _;rw[hd];generalize hW3:W2.putObj (D+1) _=W3;have o3:∀{g:Nat},g≠D+1->W3.heap[g]?=W2.heap[g]?:=λ{g} hg=>by grind[Lj]
 have K3:Kept (λ_=>False) w00 W3:=by grind[OY]
 have z3:W3.heap.size=W2.heap.size:=by grind[Lz]
 have d6:W3.heap[g6]?=M (.cells #[sv] 206 (0,0)):=by grind
 have d4:W3.heap[g4]?=M (.cells #[u4] 206 (0,0)):=by grind
 have d5:W3.heap[g5]?=M (.cells #[u5] 32 (0,0)):=by grind
 have dD:W3.heap[D]?=M (.deferred (M [])):=by grind
 refine wpIn_seq (wpIn_region ?_);rw[show Lm (Bj f183 8).size=[0,1,2]from by kernel_rfl];refine IE (o:=(Bj f183 8).getD 0 Lb) kr kr (Iv (ro:=La) (by intro c h;cases h) (Nr (Z58 (t:=206) (x:=.tmp 6) kr (HH t6) d6 s2 kr) ?_));have e4:(W3.setRow g4 #[sv]).heap[g4]?=M (.cells #[sv] 206 (0,0)):=OJ d4;have f5:(W3.setRow g4 #[sv]).heap[g5]?=M (.cells #[u5] 32 (0,0)):=by grind[setRow_other]
 refine IE (o:=(Bj f183 8).getD 1 Lb) kr kr (Iv (ro:=La) (by intro c h;cases h) (PI (PV (t:=206) (x:=.tmp 4) (y:=.tmp 21) (v:=sv) kr (HH (Sp t4 dd)) (HH (A4 (by grind))) d4 s2 kr) ?_));refine IE (o:=(Bj f183 8).getD 2 Lb) kr kr (Iv (ro:=La) (by intro c h;cases h) (PI (PV (t:=32) (x:=.tmp 5) (y:=.const (.int .i64 0)) (v:=.int .i64 0) kr (HH (Sp t5 dd)) rfl f5 rfl kr) ?_));generalize hW5:(W3.setRow g4 #[sv]).setRow g5 #[.int .i64 0]=W5;have o5:∀{g:Nat},g≠g4->g≠g5->W5.heap[g]?=W3.heap[g]?:=λ{g} h k=>by(grind[setRow_other])
 have m4:g4≠D:=by omega
 have m5:g5≠D:=by omega
 have K5:Kept (λ_=>False) w00 W5:=by grind[ZkE]
 have z5:W5.heap.size=W2.heap.size:=by grind[XB]
 refine wpIn_ret ?_;show Q .ret _ W5;rw[<-hQ,ZdG e1];refine Z4t (g4:=g4) (g5:=g5) (v4:=sv) (v5:=.int .i64 0) (HH (a:={tmps:=_,defers:=[]}) (Sp t4 dd)) (HH (a:={tmps:=_,defers:=[]}) (Sp t5 dd)) ?_ ?_ s2 rfl ?_ ⟨_,rfl,Z88 (Im':=Im') (OY K5 oq) (λg hg=>?_) (s5.mono ⟨?_,λg hg=>?_,λg hg=>?_⟩ (λ_ h=>h)) rfl⟩;grind[setRow_other];grind[OJ];grind;grind[Lz];simp_all;grind[Lj];rw[ZdM (by rw[o5 m4.symm m5.symm];exact dD),<-hW5,SZ _ g5 #[u5] #[.int .i64 0] _ f5 rfl,SZ _ g4 #[u4] #[sv] _ d4 rfl,<-hW3,ZdC pl.1]
 .refine⟨M .ret,_,run_endLoop x1 pq, ?_⟩;refine wpIn_ret ?_;show Q .ret {tmps:=a4.tmps,defers:=[{target:=.collected D,args:=#[]}]++a4.defers} _;rw[hd,<-hQ,ZkM e1];refine Z4t (g4:=g4) (g5:=g5) (v4:=.slice La 0 0) (v5:=.int .i64 19) (HH (a:={tmps:=_,defers:=[]}) t4) (HH (a:={tmps:=_,defers:=[]}) t5) ?_ ?_ rfl rfl ?_ ⟨_,rfl,Z88 (Im':=λ_=>False) (OY (OY x5 oq) oq) (λ_ h=>h.elim) (.slNil _ _ _) rfl⟩;all_goals grind[Lj]
def Z0m(h:Heap)(i:Int)(hw:Zy h.W)(hp:Z8 h=O)(hi:0<=i/\i<h.P.length):GP 183 [h.av,nI i] O (.tu [Ep (BN h i).1,nI (BN h i).2]) []:=by
 intro q Im vs b1 b7 b2;rw[<-callsIn_wide (n:=10)];refine callsIn_of_wp_marks func183 (c:=H4 f183) kr trivial ?_ rfl;have S0:Sx.Sys EG Im q (tm 22 [(0,h.av),(1,nI i)]) (Bn []) 1 {tmps:=vs++LH (Tryz.f183.ntmps-vs.size) undef,defers:=[]} q:=by(have a7:vs.size=2:=b7;refine⟨_,Im,Sx.Inv.empty b1 (Ls 1),⟨by rw[a7];simp[a7];kernel_rfl,λk y v hy hv=>?_,rfl⟩⟩;rw[show tm 22 [(0,h.av),(1,nI i)]=[h.av,nI i]++Lg 20 .any from by kernel_rfl,LM]at hy;rw[LA]at hv;split at hy;grind;have:=Lk hy;rw[(Lv.1 this).2];exact .any _)
 generalize hR:(λe w'=>∃v,e=Ending.returned v/\Re q Im O (AV.tu [Ep (BN h i).1,nI (BN h i).2]) [] v w')=R;generalize hQ:bodyPostM Le 10 prog f183 R=Q;refine Zlo h i 10 Q _ _ _ _ _ S0 ?_;rintro a1 w1 ⟨ρ1,d,a,T1⟩;obtain⟨v2,t2,r2⟩:=T1.at (t:=2) (x:=.pt 8002 0 0) rfl;obtain⟨v4,t4,r4⟩:=T1.at (t:=4) (x:=.pt 8004 0 0) rfl;obtain⟨v5,t5,r5⟩:=T1.at (t:=5) (x:=.pt 8005 0 0) rfl;obtain⟨β2,m2,n2⟩:=a.blk 8002 _ rfl;obtain⟨β4,m4,n4⟩:=a.blk 8004 _ rfl;obtain⟨β5,m5,n5⟩:=a.blk 8005 _ rfl;have b9:Zj (λ_=>La) w1 (λg=>d g\/β2.g=M g) (.rp h.dvs 0) v2:=M3 m2 n2 r2 (λ_ h=>.inl h) (λ_ h=>.inr h);obtain⟨l,s4,k4,e4,rfl⟩:=R9 r4 rfl;obtain⟨m,s5,k5,e5,rfl⟩:=R9 r5 rfl;rw[m4]at e4;cases e4;rw[m5]at e5;cases e5;have b0:l≠m:=by(rintro rfl;have:=a.inj 8004 8005 _ _ l ⟨_,rfl,by simp⟩ ⟨_,rfl,by simp⟩ m4 m5 rfl rfl;omega)
 have l4:q.heap.size<=l:=(a.own 8004 _ l m4 rfl).elim (·.1) (λh=>h.no.elim);have l5:q.heap.size<=m:=(a.own 8005 _ m m5 rfl).elim (·.1) (λh=>h.no.elim);have cell:∀{β:Bi} {ty g:Nat} {x:AV},RelB ρ1 w1 d β (.box ty [x])->β.g=M g->∃u,w1.heap[g]?=M (.cells #[u] ty (0,0)):=by
  intro β ty g x hb b;obtain⟨_,_,g',cs,q1,q2,q3,_⟩:=hb;rw[b]at q1;cases q1;have hc:cs.size=1:=q3;exact⟨cs[0],by
   have:cs=#[cs[0]]:=by grind
   grind⟩
 obtain⟨u4,c4⟩:=cell n4 rfl;obtain⟨u5,c5⟩:=cell n5 rfl;have er:rest prog 10 1 (H4 f183) Q a1 w1=(LI 1 (Bj f183 1) Ld).wpIn Le 10 prog (Exit.then ((LS (.seq (.region 2 (Bj f183 2) Ld) (Zk f183 0)) (.seq (.region 8 (Bj f183 8) Ld) .ret)).wpIn Le 10 prog Q) Q) a1 w1:=by kernel_rfl
 rw[er];refine wpIn_region ?_;rw[show Lm (Bj f183 1).size=[0]from by kernel_rfl];refine IE (o:=(Bj f183 1).getD 0 Lb) kr kr (Iv (ro:=La) (by intro c h;cases h) (Nr (ZiX (t:=206) (z:=.slice La 0 0) kr kr) ?_));show(LS (.seq (.region 2 (Bj f183 2) Ld) (Zk f183 0)) (.seq (.region 8 (Bj f183 8) Ld) .ret)).wpIn Le 10 prog Q (a1.put (M 6) (.pointer (M ⟨w1.heap.size,0,La⟩))) (w1.alloc (.cells #[.slice La 0 0] 206));obtain⟨w2,s⟩:∃w2,w1.alloc (.cells #[.slice La 0 0] 206)=w2:=⟨_,rfl⟩;rw[s];obtain⟨j,b6⟩:∃j,w1.heap.size=j:=⟨_,rfl⟩;rw[b6];have E2:Sx.Ext (λg=>d g\/β2.g=M g) w1 w2:=by(rw[<-s];refine Sx.Ext.alloc _ w1 _ ?_;rintro g (b|b);exact a.imb g b;exact a.bnd _ _ g m2 b)
 have z2:w2.heap.size=w1.heap.size+1:=by rw[<-s];simp
 have K2:Kept (λ_=>False) w1 w2:=by(rw[<-s];exact⟨rfl,rfl,rfl,by simp,λk hk _=>LB _ _ _ hk,λk hk=>by grind[rows,LB]⟩)
 have c6:w2.heap[j]?=M (.cells #[.slice La 0 0] 206 (0,0)):=by grind[Xf]
 have T2:Ck [] (λ_=>La) w2 (λg=>d g\/β2.g=M g) (tm 22 [(1,nI i),(2,.rp h.dvs 0),(4,ptr l),(5,ptr m),(6,ptr j)]) (a1.put (M 6) (.pointer (M ⟨j,0,La⟩))):=by(have A1:Ck [] ρ1 w1 (λg=>d g\/β2.g=M g) _ a1:=T1.mono (Sx.Ext.refl _ _) (λ_ h=>.inl h) (λ_ _ h=>h) a.bnd;have A2:=((((A1.reSet 2 .any (λv _=>.any v)).reSet 4 .any (λv _=>.any v)).reSet 5 .any (λv _=>.any v)).pure kr);have A3:=((A2.reSet 2 (.rp h.dvs 0) (λv hv=>by grind)).reSet 4 (ptr l) (λv hv=>by rw[t4]at hv;cases hv;simp only[Xy,Xv];exact .d (.sc _ rfl))).reSet 5 (ptr m) (λv hv=>by rw[t5]at hv;cases hv;simp only[Xy,Xv];exact .d (.sc _ rfl));exact(A3.mono E2 (λ_ h=>h) (λ_ _ h=>h) (λ_ _ _ h=>nomatch h)).put 6 (Zj.d (Cz.sc _ rfl)))
 have S2:Sx.Sys EG (λg=>d g\/β2.g=M g) w2 (tm 22 [(1,nI i),(2,.rp h.dvs 0),(4,ptr l),(5,ptr m),(6,ptr j)]) (Bn []) 20 (a1.put (M 6) (.pointer (M ⟨j,0,La⟩))) w2:=by(refine⟨_,_,Sx.Inv.empty ?_ dd,T2⟩;rintro g (b|b);have:=a.imb g b;omega;have:=a.bnd _ _ g m2 b;omega)
 refine wpIn_seq (wpIn_seq (wpIn_region ?_));rw[show Lm (Bj f183 2).size=[0,1]++[2]from by kernel_rfl];refine AU (ro:=La) (hints:=[]) (out:=⟨tm 22 [(1,nI i),(2,.rp h.dvs 0),(4,ptr l),(5,ptr m),(6,ptr j),(9,h.av),(10,nI i)],Bn [],[],[]⟩) kr S2 trivial (λp hp=>by simp at hp) ?_;rintro w w3 ⟨ρ3,a9,I3,r⟩;have r:=r.pure kr;have a0:(execOp w.eval ((Bj f183 2).getD 2 Lb)).run prog w3=.ok (.enter 214 #[w.eval (.tmp 9),w.eval (.tmp 10)]) w3:=by
  have a6:((Bj f183 2).getD 2 Lb).op=.call ⟨.value (.func 214),#[.tmp 9,.tmp 10],MU ((Bj f183 2).getD 2 Lb)⟩:=by kernel_rfl
  have:=N0 (P:=prog) (f:=214) kr #[w.eval (.tmp 9),w.eval (.tmp 10)] w3;have b3:w.eval (.func 214)=.func (.func 214) #[] #[]:=rfl;generalize (Bj f183 2).getD 2 Lb=o at a6⊢;simp[execOp,a6,resolve,b3,Lu,invoke,this]
 refine IE (o:=(Bj f183 2).getD 2 Lb) kr kr (Iv (ro:=La) (by intro c h;cases h) ?_);unfold Lt;rw[a0,L1];refine(Zem h i w3 a9 _ _ I3.imb (CU r (.tmp 9)) (CU r (.tmp 10))).mono ?_;rintro e w4 ⟨p1,p2,a2,rfl,K4,a4,b8,a8⟩;have a5:((Bj f183 2).getD 2 Lb).dst=M 11:=by kernel_rfl
 rw[a5];have b4:l<j:=by grind
 have b5:m<j:=by grind
 have s1:=a.kept.size;have s3:=I3.kept.size;obtain⟨x4,y4,q4⟩:=r.at (t:=4) (x:=ptr l) rfl;obtain⟨x5,y5,q5⟩:=r.at (t:=5) (x:=ptr m) rfl;obtain⟨x6,y6,q6⟩:=r.at (t:=6) (x:=ptr j) rfl;rw[BV q4]at y4;rw[BV q5]at y5;rw[BV q6]at y6;have hz:w.tmps.size=22:=r.size;have c1:∀{g:Nat},g<w2.heap.size->w4.heap[g]?=w2.heap[g]?:=λ{g} b=>by(rw[K4.block g oq id,I3.kept.no.block g b id])
 have c0:∀{g:Nat},g<w1.heap.size->w2.heap[g]?=w1.heap[g]?:=λ{g} b=>K2.block g b id;refine ZcG hw hp hi (w4:=w4) (Im4:=a2) (g4:=l) (g5:=m) (g6:=j) (u4:=u4) (u5:=u5) (p1:=p1) (p2:=p2) (RH (RH (RH a.kept.no K2 (λ_ h=>h.elim)) I3.kept.no (λ_ h=>h.elim)) K4 (λ_ h=>h.elim)) ?_ (Sp y4 dd) (Sp y5 dd) (Sp y6 dd) (A4 oq) r.defers l4 l5 b0 oq oq oq ?_ ?_ ?_ (λg b=>?_) b8 a8 (by rw[hR];exact hQ);show(w.tmps.setIfInBounds 11 _).size=22;grind;grind;grind;grind;obtain⟨h1,h2⟩:=a4 g b;refine⟨h2, ?_⟩;rcases h1 with h1|h1;rcases I3.im0 g h1 with k|k|k;rcases k with k|k;have:=a.imb g k;omega;have:=a.bnd _ _ g m2 k;omega;omega;exact k.no.elim;omega
end Go.Proofs.YtgedmeaemofdkaaGreat
namespace Go.Proofs.YtgedmeaemofdkaaGreat
open Go.Sx
def Z1r{l:List Found}{i:Nat}(a:i<l.length):l.take (i+1)=l.take i++[l.getD i Lb]:=by rw[Xt];simp[a]
def OE(l:List Found)(i:Nat):Tg:=⟨tm 19 [(2,.d (.sl 0 [])),(3,.ow 16003),(6,Ep l),(7,nI l.length),(8,nI i)],[(16003,.arr 35 1 (((l.take i).map (·.addr)).map wD))],60⟩
def Zkp(l:List Found)(i:Nat)(hl:l.length<=1048576)(b:i<l.length):CP (Zl f157 0) (OE l i).st .nrm (OE l (i+1)).st:=by
 have e:(l.take (i+1)).map (·.addr)=(l.take i).map (·.addr)++[(l.getD i Lb).addr]:=by rw[Z1r b,LY];rfl
 have en:((l.take i).map (·.addr)).length<=1048576:=by simp;omega
 let a:=l.getD i Lb;exact sF [(496016,16003)] (fO 5)<|Fh 16 [.els (Lc wD (Lc (λ(x:Found)=>x.addr) (Lo i l)++[a.addr]))]<|Ftb 9 (Lf ((i:Int)<(l.length:Int)))<|Fek 10 Found.dv l (↑i) i<|Fs 15 (Lc wD [a.addr])<|Fa (by(simp[*];omega):(Lc wD (Lc (λ(x:Found)=>x.addr) (Lo i l))).length+(Lc wD [a.addr]).length<=2^30)<|Fa (ms:Lc wD (Lc (λ(x:Found)=>x.addr) (Lo i l))++Lc wD [a.addr]=Lc wD (Lc (λ(x:Found)=>x.addr) (Lo i l)++[a.addr]))<|Fx 17 i<|Fr (35:Int)<|Fa (by refine congrArg _ ?_;rw[e]:Lc wD (Lc (λ(x:Found)=>x.addr) (Lo i l)++[a.addr])=Lc wD (Lc (λ(x:Found)=>x.addr) (Lo (i+1) l))) Fz
def Zlk l:CP (Zl f157 0) (OE l l.length).st (.ext 0) (Tg.st ⟨tm 19 [(2,.d (.sl 0 [])),(3,.ow 16003)],[(16003,.arr 35 1 ((l.map (·.addr)).map wD))],60⟩):=by exact sF [] (fO 2)<|Ffb 9 (Lf ((l.length:Int)<(l.length:Int)))<|Fr (35:Int)<|Fa (by refine congrArg _ ?_;refine congrArg _ ?_;simp[LZ,L7,L9,LY,wD,iD]:Lc wD (Lc (λ(x:Found)=>x.addr) (Lo l.length l))=Lc wD (Lc (λ(x:Found)=>x.addr) l)) Fz
def Zkx(l:List Found)(hl:l.length<=1048576)  := Bp (S:=λj=>(OE l j).st) l.length (by kernel_rfl) (λj a=>Zkp l j hl a) (Zlk l)
def Z5R(l:List Found)(hl:l.length<=1048576):GP 157 [Ep l] O (Z2 (l.map (·.addr))) []:=by exact gF [] func157 []<|Fh 3 [.own]<|Fl 7 Found.dv l<|Fu (@Zkx l aa)<|Fa (H7 _:Cd (Lc wD (Lc (λ(x:Found)=>x.addr) l))) Fz
def NS(h:Heap)(i:Int)(hw:Zy h.W)(hi:-9223372036854775808<=i/\i<=9223372036854775807):GP 134 [h.av,nI i] Ld (.tu [Z2 (Ze h i).1,nI (Ze h i).2]) []:=by
 cases hp:Z8 h with
 |false =>
  have a:Ze h i=([],1):=by unfold Ze;rw[if_neg (by rw[hp];simp)]
  rw[a];exact gF [] func134 []<|Fh 8 [.br O]<|Fc 10 (@Eb h)<|Fb ((!Z8 h)=O)<|Fnl Fz
 |true =>
  have po:=B5 hp;by_cases b:0<=i/\i<h.P.length;have a:=Z2y hp b;have el:=PF h i;by_cases e:(BN h i).2=0;rw[show Ze h i=(Lc (λ(x:Found)=>x.addr) (BN h i).1,(0:Int))from by rw[a,e]];exact gF [] func134 []<|Fh 12 [.br Ld]<|Fh 29 [.br Ld]<|Fc 10 (@Eb h)<|Fb ((!Z8 h)=Ld)<|FlG 19 (!decide (i<0)) Z0.dv h.P<|Fb ((Lf (i<0)||Lf ((h.P.length:Int)<=i))=Ld)<|Fc 25 (@Z0m h i aa aa aa)<|Ffb 8 ((BN h i).2 != 0)<|Fc 32 (@Z5R ((BN h i).1) oq) Fz;have c:(BN h i).1=[]:=by(unfold BN at e⊢;split at e;exact absurd rfl e;rename_i d;rw[if_neg d])
  exact gF [] func134 (fO 5)<|Fh 8 [.br Ld]<|Fh 12 [.br Ld]<|Fc 10 (@Eb h)<|Fb ((!Z8 h)=Ld)<|FlG 19 (!decide (i<0)) Z0.dv h.P<|Fb ((Lf (i<0)||Lf ((h.P.length:Int)<=i))=Ld)<|Fc 25 (@Z0m h i aa aa aa)<|Ftb 29 ((BN h i).2 != 0)<|Fnl (Fa (by rw[a,c];rfl:[]=Lc wD (Ze h i).1)<|Fa (by rw[a]:(BN h i).2=(Ze h i).2) Fz);have a:Ze h i=([],2):=by unfold Ze;rw[if_pos hp,if_neg b]
  rw[a];exact gF [] func134 []<|Fh 8 [.br Ld]<|Fh 12 [.br O]<|Fc 10 (@Eb h)<|Fb ((!Z8 h)=Ld)<|FlG 19 (!decide (i<0)) Z0.dv h.P<|Fb ((Lf (i<0)||Lf ((h.P.length:Int)<=i))=O)<|Fnl Fz
def DD(h:Heap)(i:Nat)(acc:List Found):Tg:=⟨tm 31 [(1,.pt 8001 0 0),(2,.d (.sl 0 [])),(3,nI 0),(4,.ow 24004),(13,nI h.P.length),(14,nI i)],[(24004,.arr 212 4 (acc.map Found.dv)),(8001,.box 28 h.cells)],60⟩
section
variable(h:Heap)(i:Nat)(acc:List Found)(c:Zy h.W)(b:Z8 h=O)(hl:h.P.length<=1048576)(a:acc.length<=1048576)
include c b hl a
theorem ZiD(hi:i<h.P.length)(e:(BN h i).2=0):CP (Zl f156 0) (DD h i acc).st .nrm (DD h (i+1) (acc++(BN h i).1)).st:=by have hn:=PF h i;exact sF [(512028,24004)] []<|Fh 28 [.els (Lc Found.dv (acc++(BN h (i:Int)).1))]<|Ftb 15 (Lf ((i:Int)<(h.P.length:Int)))<|Fc 20 (@Z0m h ((i:Int)) aa aa oq)<|Ffb 24 ((BN h (i:Int)).2 != 0)<|Fa (by(simp only[Lr];omega):(Lc Found.dv acc).length+(Lc Found.dv (BN h (i:Int)).1).length<=2^30)<|Fa (ms:Lc Found.dv acc++Lc Found.dv (BN h (i:Int)).1=Lc Found.dv (acc++(BN h (i:Int)).1))<|Fx 29 i Fz
theorem ZjX(hi:i<h.P.length)(e:¬ (BN h i).2=0):CP (Zl f156 0) (DD h i acc).st .ret (Tg.st ⟨tm 31 [(2,.d (.sl 0 [])),(3,nI (BN h i).2)],[],60⟩):=by exact sF [] []<|Ftb 15 (Lf ((i:Int)<(h.P.length:Int)))<|Fc 20 (@Z0m h ((i:Int)) aa aa oq)<|Ftb 24 ((BN h (i:Int)).2 != 0) Fz
omit c b hl a in
theorem Zlr:CP (Zl f156 0) (DD h h.P.length acc).st (.ext 0) (Tg.st ⟨tm 31 [(2,.d (.sl 0 [])),(3,nI 0),(4,.ow 24004)],[(24004,.arr 212 4 (acc.map Found.dv))],60⟩):=by exact sF [] []<|Ffb 15 (Lf ((h.P.length:Int)<(h.P.length:Int))) Fz
end
def Z6E(h:Heap)(d:Zy h.W)(b:Z8 h=O)(hl:h.P.length<=1048576):∀(f i:Nat) (acc:List Found),i+f=h.P.length->acc.length+256*f<=1048576 -> ((CG h f i).2=0->G2 prog f156 0 (DD h i acc).st (.ext 0) (Tg.st ⟨tm 31 [(2,.d (.sl 0 [])),(3,nI 0),(4,.ow 24004)],[(24004,.arr 212 4 ((acc++(CG h f i).1).map Found.dv))],60⟩)) /\ (¬ (CG h f i).2=0->G2 prog f156 0 (DD h i acc).st .ret (Tg.st ⟨tm 31 [(2,.d (.sl 0 [])),(3,nI (CG h f i).2)],[],60⟩)):=by
 intro f;induction f with
 |zero =>
  intro i acc j _;have:i=h.P.length:=by omega
  subst this;refine⟨λ_=>?_,λe=>absurd rfl e⟩;rw[CG,L5];exact .endx (Zlr h acc)
 |succ f m =>
  intro i acc j hb;have hn:=PF h i;unfold CG;by_cases e:(BN h i).2=0;rw[if_pos e];have c:=ZiD h i acc d b hl oq oq e;obtain⟨k,l⟩:=m (i+1) (acc++(BN h i).1) oq qo;by_cases a:(CG h f (i+1)).2=0
  .rw[if_pos a];refine⟨λ_=>?_,λe=>absurd rfl e⟩;have:=k a;rw[List.append_assoc]at this;exact .next c this
  rw[if_neg a];exact⟨λe=>absurd e a,λ_=>.next c (l a)⟩;rw[if_neg e];exact⟨λg=>absurd g e,λ_=>.endr (ZjX h i acc d b hl oq oq e)⟩
def Zer(h:Heap)(b:Zy h.W)(a:Z8 h=O)(hl:h.P.length<=64)(e:(CG h h.P.length 0).2=0):CP (Zk f156 0) (Tg.st ⟨tm 31 [(1,.pt 8001 0 0),(2,.d (.sl 0 [])),(3,nI 0),(4,.ow 24004),(13,nI h.P.length),(14,nI 0)],[(24004,.arr 212 4 []),(8001,.box 28 h.cells)],60⟩) .nrm (Tg.st ⟨tm 31 [(2,.d (.sl 0 [])),(3,nI 0),(4,.ow 24004)],[(24004,.arr 212 4 ((CG h h.P.length 0).1.map Found.dv))],60⟩):=
 ((Z6E h b a oq h.P.length 0 [] oq qo).1 e).ext kr
def Zd1(h:Heap)(b:Zy h.W)(a:Z8 h=O)(hl:h.P.length<=64)(e:¬ (CG h h.P.length 0).2=0):CP (Zk f156 0) (Tg.st ⟨tm 31 [(1,.pt 8001 0 0),(2,.d (.sl 0 [])),(3,nI 0),(4,.ow 24004),(13,nI h.P.length),(14,nI 0)],[(24004,.arr 212 4 []),(8001,.box 28 h.cells)],60⟩) .ret (Tg.st ⟨tm 31 [(2,.d (.sl 0 [])),(3,nI (CG h h.P.length 0).2)],[],60⟩):=
 ((Z6E h b a oq h.P.length 0 [] oq qo).2 e).ret kr
def ZaF(h:Heap)(hw:Zy h.W)(e:(Cq h).2=0):GP 156 [h.av] O (.tu [.ow 0,nI 0]) [.arr 212 4 ((Cq h).1.map Found.dv)]:=by
 have a:Z8 h=O:=by(unfold Cq at e;split at e;assumption;simp at e)
 have po:=B5 a;have b:Cq h=CG h h.P.length 0:=by rw[Cq,if_pos a]
 rw[b]at e⊢;exact gF [24004] func156 []<|Fh 4 [.own]<|Fc 9 (@Eb h)<|Ffb 10 (!Z8 h)<|Fl 13 Z0.dv h.P<|Fu (@Zer h aa aa oq aa)<|Fa (Pt _:Cd (Lc Found.dv (CG h h.P.length 0).1)) Fz
def Z9Z(h:Heap)(hw:Zy h.W)(e:¬ (Cq h).2=0):GP 156 [h.av] O (.tu [Ep [],nI (Cq h).2]) []:=by
 cases hp:Z8 h with
 |false =>
  have a:Cq h=([],1):=by rw[Cq,if_neg (by rw[hp];simp)]
  refine Zb [((9:Nat),[Hint.call O (bL (Z8 h)) []]),((10:Nat),[Hint.br O])] [] [] dd func156 [O] (φ:=GP 94 [h.av] O (bL (Z8 h)) []/\(!Z8 h)=O/\O=O/\([]:List (List DV))=[]/\[]=Lc Found.dv []/\(1:Int)=(Cq h).2) ?_ kr kr;exact⟨(@Eb (h)),(by(simp only[bs];omega)),rfl,rfl,rfl,(by rw[a])⟩
 |true =>
  have po:=B5 hp;have a:Cq h=CG h h.P.length 0:=by rw[Cq,if_pos hp]
  rw[a]at e⊢;refine Zb [((9:Nat),[Hint.call O (bL (Z8 h)) []]),((10:Nat),[Hint.br Ld]),((4:Nat),[Hint.own]),((13:Nat),[Hint.int (h.P.length:Int)])] [((0:Nat),Tg.mk (tm (31:Nat) [((1:Nat),AV.pt (8001:Nat) (0:Nat) (0:Nat)),((2:Nat),AV.d (DV.sl (0:Nat) [])),((3:Nat),nI (0:Int)),((4:Nat),AV.ow (24004:Nat)),((13:Nat),nI (h.P.length:Int)),((14:Nat),nI (0:Int))]) [((24004:Nat),Z4.arr 212 (4:Nat) []),((8001:Nat),Z4.box 28 h.cells)] (60:Nat),Ex.ret,Tg.mk (tm (31:Nat) [((2:Nat),AV.d (DV.sl (0:Nat) [])),((3:Nat),nI (CG h h.P.length (0:Nat)).2)]) [] (60:Nat))] [] dd func156 [] (φ:=GP 94 [h.av] O (bL (Z8 h)) []/\(!Z8 h)=Ld/\Ld=Ld/\(↑(Lc Z0.dv h.P).length:Int)=(h.P.length:Int)/\CP (Zk f156 (0:Nat)) (Tg.mk (tm (31:Nat) [((1:Nat),AV.pt (8001:Nat) (0:Nat) (0:Nat)),((2:Nat),AV.d (DV.sl (0:Nat) [])),((3:Nat),nI (0:Int)),((4:Nat),AV.ow (24004:Nat)),((13:Nat),nI (h.P.length:Int)),((14:Nat),nI (0:Int))]) [((24004:Nat),Z4.arr 212 (4:Nat) []),((8001:Nat),Z4.box 28 h.cells)] (60:Nat)).st Ex.ret (Tg.mk (tm (31:Nat) [((2:Nat),AV.d (DV.sl (0:Nat) [])),((3:Nat),nI (CG h h.P.length (0:Nat)).2)]) [] (60:Nat)).st/\([]:List (List DV))=[]) ?_ kr kr;exact⟨(@Eb (h)),(by(simp only[bs];omega)),rfl,(by simp only[Lr]),(@Zd1 (h) aa aa oq aa),rfl⟩
def Em(f:Found):Bool:=!(f.hd.K==0)
def OW(x:Found):GP 159 [x.av] O (bL (x.hd.K==0)) []:=by exact gF [] func159 [] Fz
def Ca(l:List Found):Nat:=(l.takeWhile Em).length
def PS{l}{m:Nat}(h:m<Ca l):m<l.length/\((l.getD m Lb).hd.K==0)=Ld:=by obtain⟨a,b⟩:=SR _ _ _ h;refine⟨a, ?_⟩;rw[LC,LW a];simpa[Em]using b
def Z7s{l:List Found}(h:Ca l<l.length):((l.getD (Ca l) Lb).hd.K==0)=O:=by
 have a:=SY Em l h;have b:l.getD (Ca l) Lb=l[(l.takeWhile Em).length]:=by(rw[LC,LW h];rfl)
 rw[b];simpa[Em]using a
def Gx(l:List Found):Int:=if Ca l<l.length then Ca l else -1
def AG(l:List Found)(i:Nat):Tg:=⟨tm 19 [(0,Ep l),(1,.fn 159 []),(4,nI 0),(7,nI l.length),(8,nI i)],[],60⟩
def Z45(l:List Found)(i:Nat)(hl:l.length<=1048576)(hi:i<l.length)(e:((l.getD i Lb).hd.K==0)=Ld):CP (Zl f200 0) (AG l i).st .nrm (AG l (i+1)).st:=by exact sF [] []<|Fh 16 [.call O (bL ((l.getD i Lb).hd.K==0)) [],.br Ld]<|Ftb 9 (Lf ((i:Int)<(l.length:Int)))<|Fek 14 Found.dv l (↑i) i<|Fa (@OW (l.getD i Lb))<|Fa ‹((l.getD i Lb).hd.K==0)=Ld›<|Fx 18 i Fz
def Zj0(l:List Found)(i:Nat)(hl:l.length<=1048576)(hi:i<l.length)(e:((l.getD i Lb).hd.K==0)=O):CP (Zl f200 0) (AG l i).st .ret (Tg.st ⟨tm 19 [(4,nI i)],[],60⟩):=by exact sF [] []<|Fh 16 [.call O (bL ((l.getD i Lb).hd.K==0)) [],.br O]<|Ftb 9 (Lf ((i:Int)<(l.length:Int)))<|Fek 14 Found.dv l (↑i) i<|Fa (@OW (l.getD i Lb))<|Fa ‹((l.getD i Lb).hd.K==0)=O› Fz
def Ze0 l:CP (Zl f200 0) (AG l l.length).st (.ext 0) (Tg.st ⟨tm 19 [(4,nI 0)],[],60⟩):=by exact sF [] []<|Ffb 9 (Lf ((l.length:Int)<(l.length:Int))) Fz
def ZkZ(l:List Found)(hl:l.length<=1048576)(h:¬ Ca l<l.length)  := Bp (S:=λj=>(AG l j).st) l.length (by kernel_rfl) (λj a=>Z45 l j hl a (PS (by omega)).2) (Ze0 l)
def Za8(l:List Found)(hl:l.length<=1048576)(h:Ca l<l.length)  := Ev (S:=λj=>(AG l j).st) (Ca l) (by kernel_rfl) (λj a=>Z45 l j hl (by omega) (PS a).2) (Zj0 l (Ca l) hl h (Z7s h))
def Z4q(l:List Found)(hl:l.length<=1048576):GP 200 [Ep l,.fn 159 []] O (nI (Gx l)) []:=by by_cases h:Ca l<l.length;have a:Gx l=Ca l:=if_pos h;rw[a];exact gF [] func200 []<|Fl 7 Found.dv l<|Fu (@Za8 l aa aa) Fz;have a:Gx l=-1:=if_neg h;rw[a];exact gF [] func200 []<|Fl 7 Found.dv l<|Fu (@ZkZ l aa aa) Fz
def B6(l:List Found)(a:Nat):Nat->List Found×Nat|0=>(l,a)|m+1=>if Em ((B6 l a m).1.getD (a+1+m) Lb)=O then((B6 l a m).1.set (B6 l a m).2 ((B6 l a m).1.getD (a+1+m) Lb),(B6 l a m).2+1)else B6 l a m
def Z3u{l:List Found}{a}(n:(l.take a).filter Em=l.take a)(o:a<l.length)(f:Em (l.getD a Lb)=Ld):∀m,a+1+m<=l.length -> (B6 l a m).1.length=l.length/\(B6 l a m).2<=a+m/\(∀k,a+1+m<=k->(B6 l a m).1.getD k Lb=l.getD k Lb)/\(B6 l a m).1.take (B6 l a m).2=(l.take (a+1+m)).filter Em
 |0,_=>by
  refine⟨rfl,Ls _,λ_ _=>rfl, ?_⟩;show l.take a=(l.take (a+1)).filter Em;rw[Z1r o,Xk,n];generalize l.getD a Lb=y at f⊢;simp[f]
 |m+1,hm=>by
  obtain⟨a1,a2,c,j⟩:=Z3u n o f m oq;have e:=c (a+1+m) (Ls _);have p:l.take (a+1+(m+1))=l.take (a+1+m)++[l.getD (a+1+m) Lb]:=Z1r (l:=l) (i:=a+1+m) (show a+1+m<l.length by omega);unfold B6;rw[e,p,Xk];generalize hd:B6 l a m=d at *;by_cases b:Em (l.getD (a+1+m) Lb)=O
  .rw[if_pos b];refine⟨by simp[a1],by simp only;omega,λk g=>?_, ?_⟩
   .simp only;rw[LC,List.getElem?_set_ne oq,<-LC];exact c k oq
   .have h:d.2<d.1.length:=by omega
    simp only;rw[<-j,Xt,List.take_set_of_le oq];generalize l.getD (a+1+m) Lb=y at b⊢;simp[b,h]
  .rw[if_neg b];refine⟨a1,by omega,λk g=>c k oq, ?_⟩;rw[j];generalize l.getD (a+1+m) Lb=y at b⊢;simp[b]
def Z4C(l:List Found):(l.take (Ca l)).filter Em=l.take (Ca l):=by rw[Xl];intro x c;obtain⟨k,a⟩:=Xo c;rw[List.getElem?_take]at a;split at a;rename_i b;have:=(PS b).2;rw[LC,a]at this;simpa[Em]using this;cases a
def Z8O{l:List Found}(h:Ca l<l.length):Em (l.getD (Ca l) Lb)=Ld:=by have:=Z7s h;show(!((l.getD (Ca l) Lb).hd.K==0))=Ld;rw[this];rfl
def Z7x{l:List Found}(h:Ca l<l.length):(B6 l (Ca l) (l.length-Ca l-1)).1.take (B6 l (Ca l) (l.length-Ca l-1)).2=l.filter Em/\(B6 l (Ca l) (l.length-Ca l-1)).1.length=l.length/\(B6 l (Ca l) (l.length-Ca l-1)).2<=l.length:=by have b:=Z4C l;have c:=Z8O h;obtain⟨a1,a2,a3,a⟩:=Z3u b h c (l.length-Ca l-1) oq;refine⟨?_,a1,by omega⟩;rw[a,show Ca l+1+(l.length-Ca l-1)=l.length from by omega,List.take_length]
def Z9U{l:List Found}(h:¬ Ca l<l.length):l.filter Em=l:=by rw[Xl];intro x c;obtain⟨k,a⟩:=Xo c;have b:k<l.length:=(Lq.1 a).1;have:=(PS (l:=l) (m:=k) oq).2;rw[LC,a]at this;simpa[Em]using this
def Zf3(l:List Found)(hl:l.length<=1048576)(h:¬ Ca l<l.length):CP (H4 f158) (Tg.st ⟨tm 42 [(0,.ow 0),(1,.fn 159 [])],[(0,.arr 212 4 (l.map Found.dv))],1⟩) .ret (Tg.st ⟨tm 42 [(4,.ow 0)],[(0,.arr 212 4 (l.map Found.dv))],60⟩):=by have e7:Gx l=-1:=if_neg h;exact sF [] []<|Fc 10 (@Z4q l aa)<|Ftb 12 (Gx l==(-1:Int)) Fz
def AK(l:List Found)(a m:Nat):Tg:=⟨tm 42 [(0,.ow 0),(1,.fn 159 []),(5,nI (B6 l a m).2),(6,nI (a+1+m:Nat))],[(0,.arr 212 4 ((B6 l a m).1.map Found.dv))],60⟩
section
variable(l:List Found)(i0 m:Nat)(hl:l.length<=1048576)(h1:(B6 l i0 m).1.length=l.length)(h2:(B6 l i0 m).2<=i0+m)
include hl h1 h2
theorem Za9(hm:i0+1+m<l.length)(b:(((B6 l i0 m).1.getD (i0+1+m) Lb).hd.K==0)=Ld):CP (Zl f158 0) (AK l i0 m).st .nrm (AK l i0 (m+1)).st:=by
 have a:B6 l i0 (m+1)=((B6 l i0 m).1.set (B6 l i0 m).2 ((B6 l i0 m).1.getD (i0+1+m) Lb),(B6 l i0 m).2+1):=by(rw[B6,if_pos (by unfold Em;rw[b];rfl)])
 have c:¬ ((B6 l i0 m).1.getD ((i0+1+m:Nat):Int).toNat Lb).hd.K=0:=by rw[L3];simpa using b
 exact sF [] [Ld,Ld,O,Ld,O]<|Fh 10033 [.els (Lc Found.dv ((B6 l i0 m).1.set (↑(B6 l i0 m).2:Int).toNat ((B6 l i0 m).1.getD (↑(i0+1+m):Int).toNat Lb)))]<|Fl 18 Found.dv (B6 l i0 m).1<|Ftb 19 (Lf ((↑(i0+1+m):Int)<(↑(B6 l i0 m).1.length:Int)))<|Fmq 25 Found.dv ((B6 l i0 m).1) (↑(i0+1+m):Int)<|Fc 28 (@OW ((B6 l i0 m).1.getD (↑(i0+1+m):Int).toNat Lb))<|Ftb 29 (!((B6 l i0 m).1.getD (↑(i0+1+m):Int).toNat Lb).hd.K==0)<|Fa (by(simp only[Lr];omega):0<=(↑(B6 l i0 m).2:Int)/\(↑(B6 l i0 m).2:Int).toNat<(Lc Found.dv (B6 l i0 m).1).length)<|Fa (by(simp only[Lr];omega):(↑(B6 l i0 m).2:Int).toNat<(Lc Found.dv (B6 l i0 m).1).length)<|Fa (by rw[L9];rfl:(Lc Found.dv (B6 l i0 m).1).set (↑(B6 l i0 m).2:Int).toNat [ZD ((B6 l i0 m).1.getD (↑(i0+1+m):Int).toNat Lb).addr,Zd ((B6 l i0 m).1.getD (↑(i0+1+m):Int).toNat Lb).hd.K,Zd ((B6 l i0 m).1.getD (↑(i0+1+m):Int).toNat Lb).hd.length,DV.sc (LF LU ((B6 l i0 m).1.getD (↑(i0+1+m):Int).toNat Lb).hd.map)]=Lc Found.dv ((B6 l i0 m).1.set (↑(B6 l i0 m).2:Int).toNat ((B6 l i0 m).1.getD (↑(i0+1+m):Int).toNat Lb)))<|Fw 35 ((↑(B6 l i0 m).2:Int)+1) (↑((B6 l i0 m).2+1):Int)<|Fw 21 ((↑(i0+1+m):Int)+1) (↑(i0+1+m+1):Int)<|Fa (by rw[a]:(↑((B6 l i0 m).2+1):Int)=(↑(B6 l i0 (m+1)).2:Int))<|Fr (212:Int)<|Fa (by refine congrArg _ ?_;rw[a];rfl:Lc Found.dv ((B6 l i0 m).1.set (↑(B6 l i0 m).2:Int).toNat ((B6 l i0 m).1.getD (↑(i0+1+m):Int).toNat Lb))=Lc Found.dv (B6 l i0 (m+1)).1) Fz
theorem Zao(hm:i0+1+m<l.length)(hk:(((B6 l i0 m).1.getD (i0+1+m) Lb).hd.K==0)=O):CP (Zl f158 0) (AK l i0 m).st .nrm (AK l i0 (m+1)).st:=by
 have e7:B6 l i0 (m+1)=B6 l i0 m:=by(rw[B6,if_neg (by unfold Em;rw[hk];simp)])
 have hk2:((B6 l i0 m).1.getD ((i0+1+m:Nat):Int).toNat Lb).hd.K=0:=by rw[L3];simpa using hk
 let y0:=(B6 l i0 m).1.getD (↑(i0+1+m):Int).toNat Lb;exact sF [] [Ld,Ld,O,Ld,O]<|Fl 18 Found.dv (B6 l i0 m).1<|Ftb 19 (Lf ((↑(i0+1+m):Int)<(↑(B6 l i0 m).1.length:Int)))<|Fmq 25 Found.dv ((B6 l i0 m).1) (↑(i0+1+m):Int)<|Fc 28 (@OW y0)<|Ffb 29 (!y0.hd.K==0)<|Fw 21 ((↑(i0+1+m):Int)+1) (↑(i0+1+m+1):Int)<|Fa (by rw[e7]:(↑(B6 l i0 m).2:Int)=(↑(B6 l i0 (m+1)).2:Int))<|Fr (212:Int)<|Fa (by refine congrArg _ ?_;rw[e7]:Lc Found.dv (B6 l i0 m).1=Lc Found.dv (B6 l i0 (m+1)).1) Fz
theorem Zh2(hm:i0+1+m=l.length):CP (Zl f158 0) (AK l i0 m).st (.ext 0) (Tg.st ⟨tm 42 [(0,.ow 0),(5,nI (B6 l i0 m).2)],[(0,.arr 212 4 ((B6 l i0 m).1.map Found.dv))],60⟩):=by exact sF [] []<|Fl 18 Found.dv (B6 l i0 m).1<|Ffb 19 (Lf ((↑(i0+1+m):Int)<(↑(B6 l i0 m).1.length:Int))) Fz
end
def BK(l:List Found):List Found×Nat:=B6 l (Ca l) (l.length-Ca l-1)
def Zii(l:List Found)(hl:l.length<=1048576)(h:Ca l<l.length):CP (Zk f158 0) (Tg.st ⟨tm 42 [(0,.ow 0),(1,.fn 159 []),(5,nI (Gx l)),(6,nI (Gx l+1))],[(0,.arr 212 4 (l.map Found.dv))],60⟩) .nrm (Tg.st ⟨tm 42 [(0,.ow 0),(5,nI (BK l).2)],[(0,.arr 212 4 ((BK l).1.map Found.dv))],60⟩):=by
 rw[show Gx l=Ca l from if_pos h];have c:(l.take (Ca l)).filter Em=l.take (Ca l):=Z4C l;have d:Em (l.getD (Ca l) Lb)=Ld:=Z8O h;have a:=λm e=>Z3u c h d m e;have:=Bp (S:=λj=>(AK l (Ca l) j).st) (l.length-Ca l-1) kr (λj hj=>by
  obtain⟨a1,b,a3,a4⟩:=a j oq;cases hk:(((B6 l (Ca l) j).1.getD (Ca l+1+j) Lb).hd.K==0)with
  |false=>exact Za9 l (Ca l) j hl a1 b oq hk
  |true=>exact Zao l (Ca l) j hl a1 b oq hk) (Zh2 l (Ca l) _ hl (a _ oq).1 (a _ oq).2.1 oq)
 exact this
def ZiC(l:List Found)(hl:l.length<=1048576)(h:Ca l<l.length):CP (H4 f158) (Tg.st ⟨tm 42 [(0,.ow 0),(1,.fn 159 [])],[(0,.arr 212 4 (l.map Found.dv))],1⟩) .ret (Tg.st ⟨tm 42 [(4,.os 0 0 (BK l).2)],[(0,.arr 212 4 (((BK l).1.take (BK l).2++Lg ((BK l).1.length-(BK l).2) Hz).map Found.dv))],60⟩):=by have e7:Gx l=Ca l:=if_pos h;obtain⟨d1,d2,d3⟩:=Z7x h;have d4:(BK l).1.length=l.length:=d2;have d5:(BK l).2<=l.length:=d3;exact sF [] (fO 6)<|Fh 20000 [.els (Lc Found.dv (Lo (↑(BK l).2:Int).toNat (BK l).1++Lg ((↑(Lc Found.dv (BK l).1).length:Int).toNat-(↑(BK l).2:Int).toNat) (Found.mk 0 (ZB.mk 0 0 0))++LV ((↑(BK l).2:Int).toNat+(Lg ((↑(Lc Found.dv (BK l).1).length:Int).toNat-(↑(BK l).2:Int).toNat) (Found.mk 0 (ZB.mk 0 0 0))).length) (BK l).1))]<|Fc 10 (@Z4q l aa)<|Ffb 12 (Gx l==(-1:Int))<|Fi 15 (Gx l+1)<|Fu (@Zii l aa aa)<|Fa (by(simp only[Lr];omega):0<=(↑(BK l).2:Int)/\(↑(BK l).2:Int)<=(↑(Lc Found.dv (BK l).1).length:Int))<|Fa (by simp only[C3,LY,LZ,L7,List.map_replicate,Xp];rfl:C3 (Lc Found.dv (BK l).1) (↑(BK l).2:Int).toNat (Lg ((↑(Lc Found.dv (BK l).1).length:Int).toNat-(↑(BK l).2:Int).toNat) [ZD 0,Zd 0,Zd 0,DV.sc (LF LU 0)])=Lc Found.dv (Lo (↑(BK l).2:Int).toNat (BK l).1++Lg ((↑(Lc Found.dv (BK l).1).length:Int).toNat-(↑(BK l).2:Int).toNat) (Found.mk 0 (ZB.mk 0 0 0))++LV ((↑(BK l).2:Int).toNat+(Lg ((↑(Lc Found.dv (BK l).1).length:Int).toNat-(↑(BK l).2:Int).toNat) (Found.mk 0 (ZB.mk 0 0 0))).length) (BK l).1))<|Fa (by simp[*]:0<=(↑(BK l).2:Int)/\(↑(BK l).2:Int)<=(↑(Lc Found.dv (Lo (↑(BK l).2:Int).toNat (BK l).1++Lg ((↑(Lc Found.dv (BK l).1).length:Int).toNat-(↑(BK l).2:Int).toNat) (Found.mk 0 (ZB.mk 0 0 0))++LV ((↑(BK l).2:Int).toNat+(Lg ((↑(Lc Found.dv (BK l).1).length:Int).toNat-(↑(BK l).2:Int).toNat) (Found.mk 0 (ZB.mk 0 0 0))).length) (BK l).1)).length:Int))<|Fr (212:Int)<|Fa (by refine congrArg _ ?_;simp only[L3,Lr,Xp];rw[List.drop_of_length_le oq,L5];rfl:Lc Found.dv (Lo (↑(BK l).2:Int).toNat (BK l).1++Lg ((↑(Lc Found.dv (BK l).1).length:Int).toNat-(↑(BK l).2:Int).toNat) (Found.mk 0 (ZB.mk 0 0 0))++LV ((↑(BK l).2:Int).toNat+(Lg ((↑(Lc Found.dv (BK l).1).length:Int).toNat-(↑(BK l).2:Int).toNat) (Found.mk 0 (ZB.mk 0 0 0))).length) (BK l).1)=Lc Found.dv (Lo (BK l).2 (BK l).1++Lg ((BK l).1.length-(BK l).2) Hz)) Fz
def Zb6(h:Heap)(hw:Zy h.W)(e:(Cq h).2=0):RJ prog 4 (H4 f107) (Tg.st ⟨tm 17 [(0,h.av)],[],1⟩) (Tg.st ⟨tm 17 [(4,.ow 17008)],[(17008,.arr 212 4 ((Cq h).1.map Found.dv))],20⟩):=by refine SQ [((8:Nat),[Hint.call O (AV.tu [AV.ow (0:Nat),nI (0:Int)]) [Z4.arr 212 (4:Nat) (Lc Found.dv (Cq h).1)]])] [] [] (φ:=GP 156 [h.av] O (AV.tu [AV.ow (0:Nat),nI (0:Int)]) [Z4.arr 212 (4:Nat) (Lc Found.dv (Cq h).1)]) ?_ kr kr kr kr;exact(@ZaF (h) aa aa)
def Zef(h:Heap)(hw:Zy h.W)(e:¬ (Cq h).2=0):GP 107 [h.av] O (.tu [Z2 [],nI (Cq h).2]) []:=by exact gF [] func107 []<|Fc 8 (@Z9Z h aa aa)<|Ftb 12 ((Cq h).2 != 0)<|Fnl Fz
end Go.Proofs.YtgedmeaemofdkaaGreat
namespace Go.Proofs.YtgedmeaemofdkaaGreat
open Go.Sx Go.RowKit
def ZdD{Ow Im0 w0 ρ w Im H clk x v}{s:Nat}{els:List (List DV)}{β:Bi}(I:Sx.Inv Ow Im0 w0 ρ w Im H clk)(hx:Zj ρ w Im x v)(h:EU H x=M (s,els))(d:∀a n c,v=.slice (M a) n c->n≠0->β.g=M a.block):Cz w (λg=>Im g\/β.g=M g) (.sl s els) v:=by
 obtain⟨p,c,rfl,j,m,t,b⟩:=SP I hx h;by_cases f:els=[];subst f;exact .slNil _ _ _;rcases b with b|⟨q,rfl,hq,b⟩;exact absurd b f;have z:els.length≠0:=by simpa using f
 refine .sl s els q els.length c (λi o=>(w.cell? ⟨q.block,q.off+(i*s+o),La⟩).getD undef) rfl m j (t f) hq (.inr (d q _ c rfl z)) ?_ ?_;intro i e o y k l;obtain⟨u,k1,_⟩:=b i e o y k l;rw[k1];rfl;intro i e o y k l;obtain⟨u,k1,k2⟩:=b i e o y k l;rw[k1];exact k2.mono (Sx.Ext.refl _ _) (λg r=>.inl r)
def R1(β:Bi):ZK:=λb=>if b=0 then M β else La
def Mu{β κ:Bi}{b:Nat}(h:R1 β b=M κ):b=0/\κ=β:=by unfold R1 at h;split at h;cases h;exact⟨aa,rfl⟩;cases h
def Z1R{β g}(h:OwA (GM (R1 β)) g):β.g=M g:=by obtain⟨b,κ,c,a⟩:=h;rw[(Mu c).2]at a;exact a
def Zca(l:List Found)(hl:l.length<=1048576){w:World}{Im:Nat->Prop}{β v}(a0:∀g,Im g->g<w.heap.size)(hB:RelB (R1 β) w Im β (.arr 212 4 (l.map Found.dv)))(r:∀g,β.g=M g->g<w.heap.size/\¬ Im g)(hv:Zj (R1 β) w Im (.ow 0) v):Calls prog 158 #[v,.func (.func 159) #[] #[]] w λe w'=>∃u,∃Im':Nat->Prop,e=.returned u/\Kept (λg=>β.g=M g) w w' /\ (∀g,Im' g->(Im g\/β.g=M g\/w.heap.size<=g)/\g<w'.heap.size)/\Cz w' Im' (.sl 4 ((l.filter Em).map Found.dv)) u:=by
 refine calls_of_wp func158 (c:=H4 f158) kr ?_;have I0:Sx.Inv (GM (R1 β)) Im w (R1 β) w Im (Bn [(0,.arr 212 4 (l.map Found.dv))]) 1:=by(refine⟨Kept.refl _ _,λb b' κ κ' g _ _ p f _ _=>by rw[(Mu p).1,(Mu f).1],λb κ g _ p f=>?_,λb κ g p f=>?_,λb κ g p f=>?_,a0,λg h=>.inl h,λb B q=>?_,λb hb _=>?_,⟨Ls _,λ_ _ _ h=>h⟩⟩;rw[(Mu p).2]at f;exact(r g f).2;rw[(Mu p).2]at f;exact(r g f).1;exact .inr ⟨b,κ,p,f⟩;simp only[Bn]at q;split at q;rename_i hb;cases q;subst hb;exact⟨β,rfl,hB⟩;cases q;unfold R1;rw[if_neg oq])
 have S:Sx.Sys (GM (R1 β)) Im w (tm 42 [(0,.ow 0),(1,.fn 159 [])]) (Bn [(0,.arr 212 4 (l.map Found.dv))]) 1 {tmps:=#[v,.func (.func 159) #[] #[]]++LH (Tryz.f158.ntmps-(#[v,.func (.func 159) #[] #[]]:Array Value).size) undef,defers:=[]} w:=by(refine⟨_,Im,I0,⟨by kernel_rfl,λk y u hy hu=>?_,rfl⟩⟩;rw[show tm 42 [(0,.ow 0),(1,.fn 159 [])]=[.ow 0,.fn 159 []]++Lg 40 .any from by kernel_rfl,LM]at hy;rw[LA]at hu;split at hy;rename_i hk;have a1:k<2:=hk;rw[if_pos (show k<(#[v,.func (.func 159) #[] #[]]:Array Value).size from a1)]at hu;rcases k with _|_|k;cases hy;cases hu;exact hv;cases hy;cases hu;exact .fn rfl (λi a v h=>by simp at h);omega;have:=Lk hy;rw[(Lv.1 this).2];exact .any _)
 have fin:∀(x:AV) (els:List (List DV)) (L:List (List DV)) (t:Nat) (d:Act) (w':World),Sx.Sys (GM (R1 β)) Im w (tm 42 [(4,x)]) (Bn [(0,.arr 212 4 els)]) t d w'->(tm 42 [(4,x)]).getD 4 .any=x->(x=.ow 0\/∃o n,x=.os 0 o n)->EU (Bn [(0,.arr 212 4 els)]) x=M (4,L)->L=(l.filter Em).map Found.dv ->
   bodyPost prog f158 (λe w'=>∃u,∃Im':Nat->Prop,e=.returned u/\Kept (λg=>β.g=M g) w w'/\(∀g,Im' g->(Im g\/β.g=M g\/w.heap.size<=g)/\g<w'.heap.size)/\Cz w' Im' (.sl 4 ((l.filter Em).map Found.dv)) u) .ret d w':=by
  rintro x els L t d w' ⟨ρ,Im',I,T⟩ hx4 hx hc hL;refine bodyPost_ret (results_tmp rfl _ _ _) T.defers ?_;have s:Zj ρ w' Im' x (d.tmps.getD 4 undef):=by
   have:=CU T (.tmp 4);rw[show ev (tm 42 [(4,x)]) (.tmp 4)=(tm 42 [(4,x)]).getD 4 .any from rfl,hx4]at this;exact this
  generalize d.tmps.getD 4 undef=u at s;obtain⟨κ,k1,k2⟩:=I.blk 0 _ rfl;have hκ:∀g,κ.g=M g->w.heap.size<=g\/β.g=M g:=λg h=>(I.own 0 κ g k1 h).imp (·.1) Z1R;refine⟨u,λg=>Im' g\/κ.g=M g,rfl,I.kept.imp λ_ q=>Z1R q,λg h=>?_, ?_⟩
  .rcases h with h|h
   .refine⟨?_,I.imb g h⟩;rcases I.im0 g h with q|q|q
    .exact .inl q
    .exact .inr (.inr q)
    .exact .inr (.inl (Z1R q))
   .refine⟨?_,I.bnd 0 κ g k1 h⟩;rcases hκ g h with q|q
    .exact .inr (.inr q)
    .exact .inr (.inl q)
  .rw[<-hL];refine ZdD I s hc λa n c hv hn=>?_;subst hv;rcases hx with rfl|⟨o,m,rfl⟩
   .generalize j:Xz (M a) n c=vv at s;cases s with
    |ow z h2 h3 h4 =>
     injection j with e1 e2 e3;rw[k1]at z;cases z;rcases h4 with h4|⟨g,r,e,_⟩
     .omega
     .rw[<-e1]at e;cases e;exact r
   .generalize j:Xz (M a) n c=vv at s;cases s with
    |os z h2 h3 h4 h5 =>
     injection j with e1 e2 e3;rw[k1]at z;cases z;rcases h5 with h5|⟨g,r,e,_⟩
     .omega
     .rw[<-e1]at e;cases e;exact r
 by_cases h:Ca l<l.length;refine wp_mono (ZiC l hl h _ _ _ _ _ S) ?_;rintro e d w' ⟨rfl,S1⟩;obtain⟨d1,d2,d3⟩:=Z7x h;refine fin (.os 0 0 (BK l).2) _ _ _ d w' S1 rfl (.inr ⟨_,_,rfl⟩) rfl ?_;have d5:(BK l).2<=(BK l).1.length:=by have:(BK l).1.length=l.length:=d2;have:(BK l).2<=l.length:=d3;omega
 rw[List.drop_zero,<-LZ,List.take_append_of_le_length (by rw[List.length_take];omega),List.take_take,Nat.min_self];exact congrArg _ d1;refine wp_mono (Zf3 l hl h _ _ _ _ _ S) ?_;rintro e d w' ⟨rfl,S1⟩;refine fin (.ow 0) _ _ _ d w' S1 rfl (.inl rfl) rfl ?_;rw[Z9U h]
def Z1b{P:Program}{o:Oper}{a:Act}{w:World}{x:Operand}(b:o.op=.assign x):(execOp a.eval o).run P w=.ok (.value (a.eval x)) w:=by simp[execOp,b]
def Z8n{P:Program}{o:Oper}{a:Act}{w:World}{x:Operand}(b:o.op=.move x):(execOp a.eval o).run P w=.ok (.value (a.eval x)) w:=by simp[execOp,b]
def Zgk(h:Heap)(hw:Zy h.W)(e:(Cq h).2=0):GP 107 [h.av] O (.tu [Z2 (((Cq h).1.filter Em).map (·.addr)),nI 0]) []:=by
 intro b0 Im vs c3 b8 a7;rw[<-callsIn_wide (n:=10)];refine callsIn_of_wp func107 (c:=H4 f107) kr trivial ?_ rfl;have b7:vs.size=1:=b8;have S0:Sx.Sys EG Im b0 (tm 17 [(0,h.av)]) (Bn []) 1 {tmps:=vs++LH (Tryz.f107.ntmps-vs.size) undef,defers:=[]} b0:=by(refine⟨_,Im,Sx.Inv.empty c3 (Ls 1),⟨by rw[b7];simp[b7];kernel_rfl,λk y v hy hv=>?_,rfl⟩⟩;rw[show tm 17 [(0,h.av)]=[h.av]++Lg 16 .any from by kernel_rfl,LM]at hy;rw[LA]at hv;split at hy;rename_i hk;rw[if_pos (by rw[b8];exact hk)]at hv;exact a7 k y v hy hv;have:=Lk hy;rw[(Lv.1 this).2];exact .any _)
 generalize hR:(λe w'=>∃v,e=Ending.returned v/\Re b0 Im O (AV.tu [Z2 (((Cq h).1.filter Em).map (·.addr)),nI 0]) [] v w')=R;generalize hQ:bodyPost prog f107 R=Q;refine Zb6 h hw e 10 Q _ _ _ _ _ S0 ?_;rintro a1 w1 ⟨ρ1,b9,I1,T1⟩;obtain⟨v4,t4,r4⟩:=T1.at (t:=4) (x:=.ow 17008) rfl;obtain⟨β,m,n⟩:=I1.blk 17008 _ rfl;have c8:a1.tmps.size=17:=T1.size;have er:rest prog 10 4 (H4 f107) Q a1 w1=(LI 4 (Bj f107 4) Ld).wpIn Le 10 prog (Exit.then (Xi.wpIn Le 10 prog Q) Q) a1 w1:=by kernel_rfl
 rw[er];refine wpIn_region ?_;rw[show Lm (Bj f107 4).size=[0,1,2,3,4]from by kernel_rfl];refine IE (o:=(Bj f107 4).getD 0 Lb) kr kr (Iv (ro:=La) (by intro c h;cases h) (Nr (Z8n (x:=.tmp 4) kr) ?_));rw[show((Bj f107 4).getD 0 Lb).dst=M 14 from by kernel_rfl,HH t4];generalize a5:a1.put (M 14) v4=a2;have d2:a2.tmps[14]?=M v4:=by rw[<-a5];exact A4 oq
 have c9:a2.tmps.size=17:=by rw[<-a5];show(a1.tmps.setIfInBounds 14 v4).size=17;rw[LQ];exact c8
 have c5:a2.defers=[]:=by rw[<-a5];exact T1.defers
 have a8:(execOp a2.eval ((Bj f107 4).getD 1 Lb)).run prog w1=.ok (.enter 158 #[v4,.func (.func 159) #[] #[]]) w1:=by
  have l:((Bj f107 4).getD 1 Lb).op=.call ⟨.value (.func 158),#[.tmp 14,.func 159],MU ((Bj f107 4).getD 1 Lb)⟩:=by kernel_rfl
  have:=N0 (P:=prog) (f:=158) kr #[v4,.func (.func 159) #[] #[]] w1;have a9:∀f,a2.eval (.func f)=.func (.func f) #[] #[]:=λf=>rfl;have j:=HH d2;generalize (Bj f107 4).getD 1 Lb=o at l⊢;simp[execOp,l,resolve,a9,j,Lu,invoke,this]
 refine IE (o:=(Bj f107 4).getD 1 Lb) kr kr (Iv (ro:=La) (by intro c h;cases h) ?_);unfold Lt;rw[a8,L1];have al:=Zbi h;refine(Zca (Cq h).1 oq (w:=w1) (Im:=b9) (β:=β) I1.imb (by
  obtain⟨b1,b2,b3,b4,b5⟩:=n;refine⟨b1,b2,b3,b4,b5⟩) (λg z=>⟨I1.bnd _ _ g m z,I1.notIm _ _ g ⟨_,rfl,by simp⟩ m z⟩) (by
  cases r4 with
  |ow h1 h2 h3 h4=>rw[m]at h1;cases h1;exact .ow rfl h2 h3 h4)).mono ?_
 rintro e w2 ⟨u,c0,rfl,K2,b6,hu⟩;rw[show((Bj f107 4).getD 1 Lb).dst=M 15 from by kernel_rfl];show wpOpsIn _ _ _ _ _ [2,3,4] (a2.put (M 15) u) w2;generalize a6:a2.put (M 15) u=a3;have d3:a3.tmps[15]?=M u:=by rw[<-a6];exact A4 oq
 have d0:a3.tmps.size=17:=by rw[<-a6];show(a2.tmps.setIfInBounds 15 u).size=17;rw[LQ];exact c9
 have c6:a3.defers=[]:=by rw[<-a6];exact c5
 have s:(execOp a3.eval ((Bj f107 4).getD 2 Lb)).run prog w2=.ok (.enter 157 #[u]) w2:=by
  have l:((Bj f107 4).getD 2 Lb).op=.call ⟨.value (.func 157),#[.tmp 15],MU ((Bj f107 4).getD 2 Lb)⟩:=by kernel_rfl
  have:=N0 (P:=prog) (f:=157) kr #[u] w2;have a9:∀f,a3.eval (.func f)=.func (.func f) #[] #[]:=λf=>rfl;have j:=HH d3;generalize (Bj f107 4).getD 2 Lb=o at l⊢;simp[execOp,l,resolve,a9,j,Lu,invoke,this]
 refine IE (o:=(Bj f107 4).getD 2 Lb) kr kr (Iv (ro:=La) (by intro c h;cases h) ?_);unfold Lt;rw[s,L1];refine(Z5R ((Cq h).1.filter Em) (by have:=List.length_filter_le Em (Cq h).1;omega) w2 c0 #[u] (λg z=>(b6 g z).2) rfl (λi x v hx hv=>by
  rcases i with _|i;cases hx;cases hv;exact .d hu;simp at hx)).mono ?_
 rintro e w3 ⟨b,rfl,K3,ρ3,p,c1,c2,_,_,d4,_,r2⟩;rw[show((Bj f107 4).getD 2 Lb).dst=M 16 from by kernel_rfl];show wpOpsIn _ _ _ _ _ [3,4] (a3.put (M 16) b) w3;have d1:Cz w3 p (.sl 1 ((((Cq h).1.filter Em).map (·.addr)).map wD)) b:=by(cases r2 with|d r=>exact r)
 refine IE (o:=(Bj f107 4).getD 3 Lb) kr kr (Iv (ro:=La) (by intro c h;cases h) (Nr (Z1b (x:=.tmp 16) kr) ?_));refine IE (o:=(Bj f107 4).getD 4 Lb) kr kr (Iv (ro:=La) (by intro c h;cases h) (Nr (Z1b (x:=.const (.int .i64 0)) kr) ?_));rw[show((Bj f107 4).getD 3 Lb).dst=M 2 from by kernel_rfl,show((Bj f107 4).getD 4 Lb).dst=M 3 from by kernel_rfl,HH (a:=a3.put (M 16) b) (A4 oq)];have a0:(a3.put (M 16) b).tmps.size=17:=by show(a3.tmps.setIfInBounds 16 b).size=17;rw[LQ];exact d0
 generalize c4:a3.put (M 16) b=a4 at a0⊢;have c7:a4.defers=[]:=by rw[<-c4];exact c6
 have t2:(a4.put (M 2) b).tmps[2]?=M b:=A4 oq;have d5:(a4.put (M 2) b).tmps.size=17:=by show(a4.tmps.setIfInBounds 2 b).size=17;rw[LQ];exact a0
 refine wpIn_ret ?_;show Q .ret _ w3;rw[<-hQ];refine bodyPost_ret (results_tmp2 rfl _ _ _) (show a4.defers=[]from c7) ?_;rw[<-hR];have q2:=HH (Sp (u:=.int .i64 0) t2 (show 3≠2 by decide));have q3:=HH (a:=(a4.put (M 2) b).put (M 3) (.int .i64 0)) (A4 (u:=.int .i64 0) oq);have s1:=I1.kept.size;have s2:=K2.size;refine⟨_,rfl,RH (RH I1.kept.no K2 (λg z=>(I1.own _ _ g m z).elim (·.1) (λh=>h.no.elim))) K3 (λ_ h=>h.elim),λ_=>La,p,λg z=>.inr ?_,c2,λ_ _ _ q=>(by cases q),λ_ _ _ _ _ q=>(by cases q),λ_ _ q=>(by cases q),λk B q=>by simp at q,.tu _ _ rfl λi x v hx hv=>?_⟩;rcases c1 g z with q|q;cases q.1;omega;rcases i with _|_|i;cases hx;cases hv;show Zj (λ_=>La) w3 p _ (((a4.put (M 2) b).put (M 3) (.int .i64 0)).tmps.getD 2 undef);rw[show((a4.put (M 2) b).put (M 3) (.int .i64 0)).tmps.getD 2 undef=b from q2];exact .d d1;cases hx;cases hv;show Zj (λ_=>La) w3 p _ (((a4.put (M 2) b).put (M 3) (.int .i64 0)).tmps.getD 3 undef);rw[show((a4.put (M 2) b).put (M 3) (.int .i64 0)).tmps.getD 3 undef=.int .i64 0 from q3];exact .d (.sc _ rfl);simp at hx
def Z6W(h:Heap)(e:(Cq h).2=0):Zt h=(((Cq h).1.filter Em).map (·.addr),0):=by have a:=Z1u h;unfold Zt;rw[a,e];simp only[LD,and_true];rw[List.filter_map];congr 1;refine List.filter_congr λx c=>?_;have:=(Z5r x c).1;simp only[Function.comp,CM,Em,this];by_cases b:(Z9 h x.addr).1.K=0<;>simp[b]
def Z93(h:Heap)(e:¬ (Cq h).2=0):Zt h=([],(Cq h).2):=by
 have b:=Z1u h;have c:(Cq h).1=[]:=by(unfold Cq at e⊢;split at e;rename_i a;rw[if_pos a];exact Zcz h _ _ e;rename_i a;rw[if_neg a])
 unfold Zt;rw[b,c];rfl
def Pk(h:Heap)(a:Zy h.W):GP 107 [h.av] O (.tu [Z2 (Zt h).1,nI (Zt h).2]) []:=by by_cases e:(Cq h).2=0;rw[Z6W h e];exact Zgk h a e;rw[Z93 h e];exact Zef h a e
end Go.Proofs.YtgedmeaemofdkaaGreat
namespace Go.Proofs.YtgedmeaemofdkaaGreat
open Go.Sx Go.RowKit
def Ea(s k:List Int):AV:=.d (.sl 1 [[.sl 1 (s.map wD)],[.sl 1 (k.map wD)]])
def ccA(s k:List Int)(n:Int)(i:Nat):Tg:=⟨tm 36 [(0,Ea s k),(2,.d (.sl 0 [])),(3,nI n),(9,Ea s k),(10,nI 2),(11,nI i)],[],4⟩
section
variable(s k:List Int)(hs:s.length<=1048575)(hk:k.length<=1048575)
include hs hk
theorem Zlg:CP (Zl f75 0) (ccA s k 0 0).st .nrm (ccA s k s.length 1).st:=by exact sF [] (fO 2)<|Fh 13 [.el [DV.sl 1 (Lc wD s)]]<|Fa (by simp[*]:0<=(↑(0:Nat):Int)/\[[DV.sl 1 (Lc wD s)],[DV.sl 1 (Lc wD k)]][(↑(0:Nat):Int).toNat]?=M [DV.sl 1 (Lc wD s)])<|Fl 17 wD s<|Fi 18 (0+(s.length:Int))<|Fo (0+(s.length:Int)=(s.length:Int)) Fz
theorem Zcg:CP (Zl f75 0) (ccA s k s.length 1).st .nrm (ccA s k (s.length+k.length) 2).st:=by exact sF [] []<|Fh 13 [.el [DV.sl 1 (Lc wD k)]]<|Fa (by simp[*]:0<=(↑(1:Nat):Int)/\[[DV.sl 1 (Lc wD s)],[DV.sl 1 (Lc wD k)]][(↑(1:Nat):Int).toNat]?=M [DV.sl 1 (Lc wD k)])<|Fl 17 wD k<|Fi 18 ((s.length:Int)+(k.length:Int)) Fz
theorem ZhH:CP (Zl f75 0) (ccA s k (s.length+k.length) 2).st (.ext 0) (Tg.st ⟨tm 36 [(0,Ea s k),(2,.d (.sl 0 [])),(3,nI (s.length+k.length))],[],4⟩):=by exact sF [] [] Fz
def ZhI  := Bp (S:=λi=>(ccA s k (if i=0 then 0 else if i=1 then s.length else s.length+k.length) i).st) 2 (by kernel_rfl) (λi hi=>by
  have:i=0\/i=1:=by omega
  rcases this with rfl|rfl
  .exact Zlg s k hs hk
  .exact Zcg s k hs hk) (ZhH s k hs hk)
theorem ZcB:CP (Cn f75 0) (Tg.st ⟨tm 36 [(0,Ea s k)],[],1⟩) .nrm (Tg.st ⟨tm 36 [(0,Ea s k),(2,.d (.sl 0 []))],[],2⟩):=by exact sF [] [] Fz
theorem Zff:CP (Cn f75 1) (Tg.st ⟨tm 36 [(0,Ea s k),(2,.d (.sl 0 []))],[],2⟩) .nrm (Tg.st ⟨tm 36 [(0,Ea s k),(2,.d (.sl 0 [])),(3,nI 0)],[],3⟩):=by exact sF [] [] Fz
theorem ZgT:CP (Cn f75 2) (Tg.st ⟨tm 36 [(0,Ea s k),(2,.d (.sl 0 [])),(3,nI 0)],[],3⟩) .nrm (Tg.st ⟨tm 36 [(0,Ea s k),(3,nI (s.length+k.length))],[],5⟩):=by exact sF [] []<|Fh 10 [.int (↑(0+1+1):Int)]<|Fr (↑[[DV.sl (1:Nat) (Lc wD s)],[DV.sl (1:Nat) (Lc wD k)]].length:Int)<|Fu (@ZhI s k aa aa) Fz
def ccD(s k:List Int)(l:List Int)(i:Nat):Tg:=⟨tm 36 [(6,.ow 41024),(25,Ea s k),(26,nI 2),(27,nI i)],[(41024,.arr 35 1 (l.map wD))],7⟩
theorem Zi3:CP (Zl f75 2) (ccD s k [] 0).st .nrm (ccD s k s 1).st:=by
 exact sF [(72033,41024)] []<|Fh 29 [.el [DV.sl 1 (Lc wD s)]]<|Fa (by simp[*]:0<=(↑(0:Nat):Int)/\[[DV.sl 1 (Lc wD s)],[DV.sl 1 (Lc wD k)]][(↑(0:Nat):Int).toNat]?=M [DV.sl 1 (Lc wD s)])<|Fa (by(simp[*];omega):(Lc wD []).length+(Lc wD s).length<=2^30)<|Fs 33 (Lc wD s) Fz
theorem Zk3:CP (Zl f75 2) (ccD s k s 1).st .nrm (ccD s k (s++k) 2).st:=by
 exact sF [(72033,41024)] []<|Fh 29 [.el [DV.sl 1 (Lc wD k)]]<|Fh 33 [.els (Lc wD (s++k))]<|Fa (by simp[*]:0<=(↑(1:Nat):Int)/\[[DV.sl 1 (Lc wD s)],[DV.sl 1 (Lc wD k)]][(↑(1:Nat):Int).toNat]?=M [DV.sl 1 (Lc wD k)])<|Fa (by(simp only[Lr];omega):(Lc wD s).length+(Lc wD k).length<=2^30)<|Fa (ms:Lc wD s++Lc wD k=Lc wD (s++k)) Fz
theorem Zd9:CP (Zl f75 2) (ccD s k (s++k) 2).st (.ext 2) (Tg.st ⟨tm 36 [(6,.ow 41024)],[(41024,.arr 35 1 ((s++k).map wD))],7⟩):=by exact sF [] [] Fz
def ZbI  := Bp (S:=λi=>(ccD s k (if i=0 then []else if i=1 then s else s++k) i).st) 2 (by kernel_rfl) (λi hi=>by
  have:i=0\/i=1:=by omega
  rcases this with rfl|rfl
  .exact Zi3 s k hs hk
  .exact Zk3 s k hs hk) (Zd9 s k hs hk)
theorem ZkY:CP (Gj f75 4) (Tg.st ⟨tm 36 [(0,Ea s k),(6,.ow 41024)],[(41024,.arr 35 1 [])],6⟩) .ret (Tg.st ⟨tm 36 [(2,.ow 41024)],[(41024,.arr 35 1 ((s++k).map wD))],8⟩):=by exact sF [] []<|Fh 26 [.int (↑(0+1+1):Int)]<|Fr (↑[[DV.sl (1:Nat) (Lc wD s)],[DV.sl (1:Nat) (Lc wD k)]].length:Int)<|Fu (@ZbI s k aa aa) Fz
end
def Z9T s k(n:Int)(h:0<=n/\n<=2097152):CP (Cn f75 3) (Tg.st ⟨tm 36 [(0,Ea s k),(3,nI n)],[],5⟩) .nrm (Tg.st ⟨tm 36 [(0,Ea s k),(6,.ow 41024)],[(41024,.arr 35 1 [])],6⟩):=by
 rintro Ow m w0 a w ⟨ρ,Im,I,T⟩;rw[show Cn f75 3=.region 9 (Bj f75 9) Ld from by kernel_rfl];refine wp_region ?_;rw[show Lm (Bj f75 9).size=[0,1,2]from by kernel_rfl];have j:=T.put 23 (CU T (.tmp 3));refine RD (o:=(Bj f75 9).getD 0 Lb) kr kr (Nr (Z8n (x:=.tmp 3) kr) ?_);show wpOps prog (Bj f75 9) _ [1,2] (a.put (M 23) (a.eval (.tmp 3))) w;refine RD (o:=(Bj f75 9).getD 1 Lb) kr kr (Z6u (c:=⟨.value (.func 128),#[.const (.slice La 0 0),.tmp 23],#[25,3]⟩) (f:=.func 128) (cs:=#[]) (d:=24) (ImC:=λ_=>False) kr rfl kr kr kr (Zbp n h) I j rfl pq (λ_ q=>q.elim) (λq=>by cases q) (λi x v e b=>?_) λρ2 g v w' J T2 r=>?_);match i,e,b with|0,e,b =>cases e;simp at b;rw[<-b];exact .d (.sc _ rfl)|1,e,b =>cases e;simp only[List.map_toArray,L6,L8,Array.append_empty,List.getElem?_toArray,Xm,Xn,Lx]at b;have r1:(a.put (M 23) (a.eval (.tmp 3))).eval (.tmp 23)=.int .i64 n:=BV (CU j (.tmp 23));rw[<-b,r1];exact .d (.sc _ rfl)
 have l:=T2.put 24 r;have p:=l.put 6 (CU l (.tmp 24));refine RD (o:=(Bj f75 9).getD 2 Lb) kr kr (Nr (Z1b (x:=.tmp 24) kr) ?_);refine⟨rfl,OQ (s:=⟨_,_,6⟩) kr kr (Sys.clk ⟨ρ2,g,J,p⟩ (Nat.le_succ 5))⟩
def Py(s k:List Int)(hs:s.length<=1048575)(a:k.length<=1048575):GP 75 [Ea s k] O (Z2 (s++k)) []:=by have c:=(ZcB s k hs a).seq ((Zff s k hs a).seq ((ZgT s k hs a).seq ((Z9T s k (s.length+k.length) oq).seq (ZkY s k hs a))));rw[show Tg.st ⟨tm 36 [(0,Ea s k)],[],1⟩=⟨[Ea s k]++Lg (Tryz.f75.ntmps - [Ea s k].length) .any,λ_=>La,1⟩from by kernel_rfl]at c;exact ZkA (kp:=[]) (l:=[.ow 41024]) (x:=Z2 (s++k)) (qq:=[]) (p:=[Cd ((s++k).map wD)]) Xc func75 kr c kr kr (H7 _) trivial kr kr trivial
end Go.Proofs.YtgedmeaemofdkaaGreat
namespace Go.Proofs.YtgedmeaemofdkaaGreat
open Go.Sx Go.RowKit
structure Z6i (h:Heap) (s k:List Int) (w0 w1 w2 w3 w4 w5:Z7) (l o:List Int):Prop where
 b:GP 73 [h.av] Ld (.tu [w0.av,nI 0]) []
 r:GP 74 [h.av,Z2 (s++k)] O (bL O) []
 t:GP 77 [w0.av,Z2 s] O (.tu [w1.av,Z2 l,nI 0]) []
 a:GP 78 [w1.av] O (.tu [w2.av,nI 0]) []
 w:BP 79 [.pt 0 0 0,Z2 k] [w2.evD] (.ow 1) [w3.evD,Bd o]
 f:BP 80 [.pt 0 0 0] [w3.evD] (.tu []) [w4.evD]
 g:BP 81 [.pt 0 0 0] [w4.evD] (.tu []) [w5.evD]
 sl:s.length<=1000
 kl:k.length<=1000
 tl:w5.T.length<=1000000
 sp:w5.j.S=0\/w5.j.S=1
def Z8P{P:Program}{o:Oper}{a:Act}{w:World}{f:Nat}{l:Array Operand}(b:o.op=.makeFunc (.func f) #[] l):(execOp a.eval o).run P w=.ok (.value (.func (.func f) #[] (l.map a.eval))) w:=by simp[execOp,b,Instr.makeFunc]
def Z6k{P}{o:Oper}{a:Act}{w}{c:Call}{x:Operand}{f:Nat}{l:Array Value}{next:Act->World->Prop}{Q}(d:o.op=.defer c)(b:c=⟨.value x,#[],#[]⟩)(e:a.eval x=.func (.func f) #[] l)(h:next ({a with defers:=⟨.fn (.func f) l,#[]⟩::a.defers}.put o.dst undef) w):o.wp P a w next Q:=by
 subst b;have:(execOp a.eval o).run P w=.ok (.defer ⟨.fn (.func f) l,#[]⟩) w:=by simp[execOp,d,resolve,e,Lu]
 unfold Lt;rw[this];exact h
def clS(h:Heap)(s k:List Int):Tg:=⟨tm 79 [(1,Z2 s),(2,Z2 k),(3,.pt 8003 0 0),(6,.pt 8006 0 0),(7,.pt 8007 0 0),(8,.pt 8008 0 0),(9,.pt 8009 0 0),(10,.pt 8010 0 0)],[(8003,.box 28 h.cells),(8006,.box 28 [nI 0,nI 0,.d (.sl 0 []),.d (.sl 0 []),nI 0,nI 0]),(8007,.box 25 [.d (.sl 0 [])]),(8008,.box 25 [.d (.sl 0 [])]),(8009,.box 73 [nI 0,nI 0,nI 0,nI 0,nI 0,nI 0]),(8010,.box 32 [nI 0])],2⟩
section
variable{h:Heap}{s k:List Int}{w0 w1 w2 w3 w4 a:Z7}{l o:List Int}(c:Z6i h s k w0 w1 w2 w3 w4 a l o)
include c
theorem Z8C:GP 73 [h.av] Ld (.tu [w0.av,nI 0]) []:=c.b
theorem Z8p:GP 74 [h.av,Z2 (s++k)] O (bL O) []:=c.r
theorem Z4p:GP 77 [w0.av,Z2 s] O (.tu [w1.av,Z2 l,nI 0]) []:=c.t
theorem Z9L:GP 78 [w1.av] O (.tu [w2.av,nI 0]) []:=c.a
theorem Z64:BP 79 [.pt 0 0 0,Z2 k] [w2.evD] (.ow 1) [w3.evD,Bd o]:=c.w
theorem Z8r:BP 80 [.pt 0 0 0] [w3.evD] (.tu []) [w4.evD]:=c.f
theorem Z7K:BP 81 [.pt 0 0 0] [w4.evD] (.tu []) [a.evD]:=c.g
omit c in
theorem Z9w(h:Heap) s k:CP (Cn f35 0) (Tg.st ⟨tm 79 [(0,h.av),(1,Z2 s),(2,Z2 k)],[],1⟩) .nrm (clS h s k).st:=by exact sF [] [] Fz
theorem ZcM:CP (Gj f35 2) (clS h s k).st .ret (Tg.st ⟨tm 79 [(6,.pt 8006 0 0),(7,.pt 8007 0 0),(8,.pt 8008 0 0),(9,.pt 8009 0 0),(10,.pt 8010 0 0)],[(8006,.box 28 (EV a).cells),(8007,.box 25 [Z2 l]),(8008,.box 25 [.ow 24049]),(24049,.arr 35 1 (o.map wD)),(8009,.box 73 a.rep.cells),(8010,.box 32 [nI 0])],60⟩):=by
 have sl:=c.sl;have kl:=c.kl;have tl:=c.tl;have sp:=c.sp;by_cases e:0<a.T.length;have d:EV a=⟨a.j.C,a.j.W,a.j.P,1-a.j.S,ZG a⟩:=by rw[EV,if_pos e]
 rw[d];refine Zh [((16:Nat),[Hint.call Ld (AV.tu [w0.av,nI (0:Int)]) []]),((26:Nat),[Hint.call O (Z2 (s++k)) []]),((27:Nat),[Hint.call O (bL O) []]),((31:Nat),[Hint.call O (AV.tu []) []]),((35:Nat),[Hint.call O (AV.tu [w1.av,Z2 l,nI (0:Int)]) []]),((40:Nat),[Hint.call O (AV.tu []) []]),((43:Nat),[Hint.call O (AV.tu [w2.av,nI (0:Int)]) []]),((47:Nat),[Hint.call O (AV.tu []) []]),((49:Nat),[Hint.bor [(16011:Nat)] (AV.ow (1:Nat)) [w3.evD,Bd o]]),((50:Nat),[Hint.bor [(16011:Nat)] (AV.tu []) [w4.evD]]),((51:Nat),[Hint.bor [(16011:Nat)] (AV.tu []) [a.evD]]),((55:Nat),[Hint.int ((1:Int)-a.j.S)]),((62:Nat),[Hint.int (a.T.length:Int)]),((64:Nat),[Hint.br O]),((68:Nat),[Hint.int ((a.T.length:Int)-(1:Int))]),((69:Nat),[Hint.el (iD (a.T.getD ((a.T.length:Int)-(1:Int)).toNat Lb))])] [] [((73049:Nat),(24049:Nat))] [] (φ:=GP 73 [h.av] Ld (AV.tu [w0.av,nI (0:Int)]) []/\(((0:Int)==(0:Int))=O->GP 75 [Ea s k] O (Z2 (s++k)) [])/\(((0:Int)==(0:Int))=O->GP 74 [h.av,Z2 (s++k)] O (bL O) [])/\GP 76 [nI (0:Int)] O (AV.tu []) []/\GP 77 [w0.av,Z2 s] O (AV.tu [w1.av,Z2 l,nI (0:Int)]) []/\GP 76 [nI (0:Int)] O (AV.tu []) []/\GP 78 [w1.av] O (AV.tu [w2.av,nI (0:Int)]) []/\GP 76 [nI (0:Int)] O (AV.tu []) []/\BP 79 [AV.pt (0:Nat) (0:Nat) (0:Nat),Z2 k] [w2.evD] (AV.ow (1:Nat)) [w3.evD,Bd o]/\BP 80 [AV.pt (0:Nat) (0:Nat) (0:Nat)] [w3.evD] (AV.tu []) [w4.evD]/\BP 81 [AV.pt (0:Nat) (0:Nat) (0:Nat)] [w4.evD] (AV.tu []) [a.evD]/\L4.wrap ((1:Int)-a.j.S)=(1:Int)-a.j.S/\(↑(Lc iD a.T).length:Int)=(a.T.length:Int)/\Lf ((0:Int)<(a.T.length:Int))=O/\O=O/\L4.wrap ((a.T.length:Int)-(1:Int))=(a.T.length:Int)-(1:Int)/\(0:Int)<=(a.T.length:Int)-(1:Int)/\(Lc iD a.T)[((a.T.length:Int)-(1:Int)).toNat]?=M (iD (a.T.getD ((a.T.length:Int)-(1:Int)).toNat Lb))) ?_ kr kr kr;exact⟨(@Z8C (h) (s) (k) (w0) (w1) (w2) (w3) (w4) (a) (l) (o) aa),(λb=>by(try simp only[bs]at b);exact@Py (s) (k) (by(try simp only[bs]at b);omega) (by(try simp only[bs]at b);omega)),(λb=>by(try simp only[bs]at b);exact@Z8p (h) (s) (k) (w0) (w1) (w2) (w3) (w4) (a) (l) (o) aa),(@Hw ((0:Int)) (by rfl)),(@Z4p (h) (s) (k) (w0) (w1) (w2) (w3) (w4) (a) (l) (o) aa),(@Hw ((0:Int)) (by rfl)),(@Z9L (h) (s) (k) (w0) (w1) (w2) (w3) (w4) (a) (l) (o) aa),(@Hw ((0:Int)) (by rfl)),(@Z64 (h) (s) (k) (w0) (w1) (w2) (w3) (w4) (a) (l) (o) aa),(@Z8r (h) (s) (k) (w0) (w1) (w2) (w3) (w4) (a) (l) (o) aa),(@Z7K (h) (s) (k) (w0) (w1) (w2) (w3) (w4) (a) (l) (o) aa),(by exact Zf rfl oq oq),(by simp only[Lr]),(by(simp only[bs];omega)),rfl,(by exact Zf rfl oq oq),(by exact Zm oq oq oq)⟩;have d:EV a=⟨a.j.C,a.j.W,a.j.P,1-a.j.S,-1⟩:=by rw[EV,if_neg e]
 rw[d];exact sF [(73049,24049)] []<|Fc 16 (@Z8C h s k w0 w1 w2 w3 w4 a l o aa)<|FcG 26 ((0:Int)==0) (λb=>by(try simp only[bs]at b);exact@Py s k oq oq)<|FcG 27 ((0:Int)==0) (λb=>by(try simp only[bs]at b);exact@Z8p h s k w0 w1 w2 w3 w4 a l o aa)<|Fc 31 (@Hw (0) (by rfl))<|Fc 35 (@Z4p h s k w0 w1 w2 w3 w4 a l o aa)<|Fc 40 (@Hw (0) (by rfl))<|Fc 43 (@Z9L h s k w0 w1 w2 w3 w4 a l o aa)<|Fc 47 (@Hw (0) (by rfl))<|Fbr 49 [16011] (@Z64 h s k w0 w1 w2 w3 w4 a l o aa)<|Fbr 50 [16011] (@Z8r h s k w0 w1 w2 w3 w4 a l o aa)<|Fbr 51 [16011] (@Z7K h s k w0 w1 w2 w3 w4 a l o aa)<|Fi 55 (1-a.j.S)<|Fl 62 iD a.T<|Ffb 64 (Lf (0<(a.T.length:Int))) Fz
def clT(a:Z7)(l o:List Int):Tg:=⟨tm 79 [(6,.pt 8006 0 0),(7,.pt 8007 0 0),(8,.pt 8008 0 0),(9,.pt 8009 0 0),(10,.pt 8010 0 0)],[(8006,.box 28 (EV a).cells),(8007,.box 25 [Z2 l]),(8008,.box 25 [Z2 o]),(8009,.box 73 a.rep.cells),(8010,.box 32 [nI 0])],60⟩
theorem Zbb:CP (Gj f35 2) (clS h s k).st .ret (clT a l o).st:=
 CSpec.frz 24049 (ZcM c) kr
theorem Zkn:GP 35 [h.av,Z2 s,Z2 k] Ld (.tu [(EV a).av,Z2 l,Z2 o,.ag a.rep.cells,nI 0]) []:=by
 intro w y vs q r g;refine calls_of_wp_defers func35 (c:=.seq (Cn f35 0) (.seq (Cn f35 1) (Gj f35 2))) kr ?_;have S0:=O4 (n:=79) q r g;rw[show [h.av,Z2 s,Z2 k]++Lg (79 - [h.av,Z2 s,Z2 k].length) .any=tm 79 [(0,h.av),(1,Z2 s),(2,Z2 k)]from by kernel_rfl]at S0;refine wp_seq (wp_mono (Z9w h s k _ _ _ _ _ S0) ?_);rintro e a1 w1 ⟨rfl,S1⟩;refine wp_seq ?_;rw[show Cn f35 1=.region 1 (Bj f35 1) Ld from by kernel_rfl];refine wp_region ?_;rw[show Lm (Bj f35 1).size=[0,1]from by kernel_rfl];refine RD (o:=(Bj f35 1).getD 0 Lb) kr kr (Nr (Z8P (f:=72) (l:=#[.tmp 6,.tmp 7,.tmp 8,.tmp 9,.tmp 10]) kr) ?_);rw[show Array.map a1.eval #[.tmp 6,.tmp 7,.tmp 8,.tmp 9,.tmp 10]=#[a1.eval (.tmp 6),a1.eval (.tmp 7),a1.eval (.tmp 8),a1.eval (.tmp 9),a1.eval (.tmp 10)]from by simp];show wpOps prog (Bj f35 1) _ [1] (a1.put (M 13) (.func (.func 72) #[] #[a1.eval (.tmp 6),a1.eval (.tmp 7),a1.eval (.tmp 8),a1.eval (.tmp 9),a1.eval (.tmp 10)])) w1;generalize a1.eval (.tmp 6)=v6,a1.eval (.tmp 7)=v7,a1.eval (.tmp 8)=v8,a1.eval (.tmp 9)=v9,a1.eval (.tmp 10)=v10;have j:Sx.Sys EG y w ((clS h s k).st.tmps.set 13 .any) (clS h s k).st.H 2 (a1.put (M 13) (.func (.func 72) #[] #[v6,v7,v8,v9,v10])) w1:=by(obtain⟨ρ,b,I,T⟩:=S1;exact⟨ρ,b,I,T.put 13 (.any _)⟩)
 have d:(a1.put (M 13) (.func (.func 72) #[] #[v6,v7,v8,v9,v10])).eval (.tmp 13)=.func (.func 72) #[] #[v6,v7,v8,v9,v10]:=by
  obtain⟨ρ,b,I,T⟩:=S1;have:=T.size;have z:13<a1.tmps.size:=by rw[this,show(clS h s k).st.tmps.length=79 from by kernel_rfl];decide
  simp[L2,LG,z]
 generalize a1.put (M 13) (.func (.func 72) #[] #[v6,v7,v8,v9,v10])=a2 at j d⊢;refine RD (o:=(Bj f35 1).getD 1 Lb) kr kr (Z6k (c:=⟨.value (.tmp 13),#[],#[]⟩) (x:=.tmp 13) kr rfl d ?_);have S3:=j.defer [⟨.fn (.func 72) #[v6,v7,v8,v9,v10],#[]⟩];have hd:a2.defers=[]:=by(obtain⟨_,_,_,T⟩:=j;exact T.defers)
 rw[hd];show Code.wp prog (Gj f35 2) _ {tmps:=a2.tmps,defers:=[⟨.fn (.func 72) #[v6,v7,v8,v9,v10],#[]⟩]} w1;have S6:=OQ (s:=⟨(clS h s k).st.tmps.set 13 .any,(clS h s k).st.H,2⟩) (t:=clS h s k) kr kr S3;refine wp_mono (Zbb c _ _ _ _ _ S6) ?_;rintro e m i ⟨rfl,S4⟩;obtain⟨ρ,b,I,T⟩:=S4;show Leaves _ _ m.tmps _ m.defers .returning i;rw[T.defers];refine leaves_cons (f:=72) (args:=#[v6,v7,v8,v9,v10]) pq (N0 kr _ _) ?_;refine(Zkz v6 v7 v8 v9 v10 i).mono ?_;rintro e u' u ⟨rfl,rfl,rfl⟩;have S5:Sx.Sys EG y w (clT a l o).st.tmps (clT a l o).st.H 60 {m with defers:=[]} u:=⟨ρ,b,⟨I.kept,I.inj,I.notIm,I.bnd,I.own,I.imb,I.im0,I.blk,I.fresh,I.one⟩,⟨T.size,T.tmp,rfl⟩⟩;obtain⟨v,r1,r2⟩:=OS (P:=prog) (fn:=f35) (fr:=Ld) (ns:=[]) (l:=[(EV a).av,Z2 l,Z2 o,.ag a.rep.cells,nI 0]) (res:=.tu [(EV a).av,Z2 l,Z2 o,.ag a.rep.cells,nI 0]) (x:=.tu [(EV a).av,Z2 l,Z2 o,.ag a.rep.cells,nI 0]) (p:=[]) (qq:=[]) (st:=(clT a l o).st) (Xc (α:=Nat)) S5 kr kr trivial trivial kr kr trivial;exact⟨v,r1,v,rfl,r2⟩
end
end Go.Proofs.YtgedmeaemofdkaaGreat
namespace Go.Sx
def Z6t{l}:∀(n k i:Nat) {x:AV},(S7 l n k)[i]?=M x->x=Av (k+i) l
 |0,_,_,_,h=>by simp[S7]at h
 |n+1,k,0,_,h=>by
  simp only[S7,Xn,Lx]at h;exact h.symm
 |n+1,k,i+1,_,h=>by
  simp only[S7,Xm]at h;rw[Z6t n (k+1) i h,show k+1+i=k+(i+1)from by omega]
def Z8L{l}:∀(n k:Nat),(S7 l n k).length=n|0,_=>rfl|n+1,k=>by simp[S7,Z8L n (k+1)]
def Z9z:∀{l:List (Nat×AV)} {k:Nat},Av k l=.any\/(k,Av k l)∈l
 |[],_=>.inl rfl
 |(j,x)::l,k=>by
  unfold Av;split
  .rename_i q;first|(subst q;exact .inr (Xa ..))|(have:=Nat.eq_of_beq_eq_true q;subst this;exact .inr (Xa ..))
  .exact(Z9z (l:=l) (k:=k)).imp id (List.mem_cons_of_mem _)
def Z32{D:List Deferred}{ρ w Im}{n:Nat}{l:List (Nat×AV)}{a:Act}(hs:a.tmps.size=n)(hd:a.defers=D)(h:∀k x v,(k,x)∈l->a.tmps[k]?=M v->Zj ρ w Im x v):Ck D ρ w Im (tm n l) a:=by refine⟨by rw[hs];exact(Z8L n 0).symm,λi x v c b=>?_,hd⟩;have e:=Z6t n 0 i c;rw[Xx]at e;rcases Z9z (l:=l) (k:=i)with q|q;rw[e,q];exact .any _;exact h i x v (e▸q) b
def MZ:Z4->Prop|.box _ cells=>∀x∈cells,∃d,x=.d d|_=>False
def Z5F{B:Z4}:∀(n k:Nat) (a:List Z4) (j:Nat),a.length=n->a[j]?=M B->Bn ((upto k n).zip a) (k+j)=M B
 |0,k,a,j,hp,hj=>by
  have:=List.length_eq_zero_iff.1 hp;subst this;simp at hj
 |n+1,k,[],j,hp,hj=>by simp at hj
 |n+1,k,p::a,0,hp,hj=>by
  simp only[upto,Xu,Bn];simp at hj;subst hj;simp
 |n+1,k,p::a,j+1,hp,hj=>by
  simp only[upto,Xu,Bn];rw[if_neg oq];have:=Z5F n (k+1) a j (by simpa using hp) (by simpa using hj);rwa [show k+1+j=k+(j+1)from by omega]at this
def O5:Z4->Z4|.box ty cells=>.box ty (cells.map λ_=>.any)|B=>B
def P8:∀(L:List (Nat×Z4)) (b:Nat),Bn (L.map λp=>(p.1,O5 p.2)) b=(Bn L b).map O5
 |[],_=>rfl
 |p::L,b=>by
  simp only[L6,Bn];split
  .rfl
  .exact P8 L b
def ZeR{Ow Im0 Im w0 w ρ L clk}(I:Sx.Inv Ow Im0 w0 ρ w Im (Bn L) clk):Sx.Inv Ow Im0 w0 ρ w Im (Bn (L.map λp=>(p.1,O5 p.2))) clk:=by
 have h:∀{b:Nat},live (Bn (L.map λp=>(p.1,O5 p.2))) b->live (Bn L) b:=λ{b} ⟨B,d,hd⟩=>by(rw[P8,Xe]at d;obtain⟨C,c,a⟩:=d;refine⟨C,c,λe=>hd ?_⟩;rw[<-a,e];rfl)
 refine⟨I.kept,λb k β β' g f s=>I.inj b k β β' g (h f) (h s),λb β g f=>I.notIm b β g (h f),I.bnd,I.own,I.imb,I.im0,λb B d=>?_,λb c a=>I.fresh b c ?_,I.one⟩;rw[P8,Xe]at d;obtain⟨C,c,rfl⟩:=d;obtain⟨β,k1,j⟩:=I.blk b C c;refine⟨β,k1, ?_⟩;cases C with|box ty cells =>obtain⟨a,e,g,l,m,n,q,r,h8⟩:=j;refine⟨by simpa using a,e,g,l,m,n,by simpa using q,r,λo x v i _=>?_⟩;rw[List.getElem?_map,Xe]at i;obtain⟨_,_,rfl⟩:=i;exact .any _|_=>exact j
 rw[P8]at a;cases hq:Bn L b with|none=>rfl|some C=>rw[hq]at a;cases a
section
variable{Im0 Im:Nat->Prop}{w0 w1:World}{ρ:ZK}{H:Heap}{clk:Nat}(I:Sx.Inv EG Im0 w0 ρ w1 Im H clk){ids:List Nat}
include I
theorem Zjn{b:Nat}{β:Bi}{g:Nat}(a:ρ b=M β)(c:β.g=M g):w0.heap.size<=g:=(I.own b β g a c).elim (·.1) λq=>q.no.elim
omit I in
theorem TP{k:Nat}{β:Bi}(h:(ids[k]?).bind ρ=M β):∃b,ids[k]?=M b/\ρ b=M β:=by
 cases q:ids[k]? with|none=>rw[q]at h;cases h|some b=>rw[q]at h;exact⟨b,rfl,h⟩
theorem Zay{pre:List Z4}(nd:ids.Nodup)(hl:ids.length=pre.length)(hn:ids.length<=8000)(c:∀(i b:Nat) (B:Z4),ids[i]?=M b->pre[i]?=M B->H b=M B/\MZ B)(D:List Deferred) :Sx.Inv ⟨λk β=>(ids[k]?).bind ρ=M β,D⟩ Im w1 (λk=>(ids[k]?).bind ρ) w1 Im (Bn ((upto 0 ids.length).zip pre)) 2:=by
 have n:∀{k i:Nat},(upto 0 ids.length)[i]?=M k->k=i:=λ{k i} h=>by
  have h0:i<ids.length:=by(have:=(Lq.1 h).1;rwa [Z0a]at this)
  rw[MA _ _ _ h0]at h;simp at h;omega
 have t:∀{k b:Nat},live (Bn ((upto 0 ids.length).zip pre)) k->ids[k]?=M b->live H b:=λ{k b} ⟨B,r,hd⟩ hb=>by(obtain⟨i,w,p⟩:=Du r;exact⟨B,(c i b B ((n w)▸hb) p).1,hd⟩)
 refine⟨Kept.refl _ _, ?_, ?_, ?_, ?_,I.imb,λ_=>.inl, ?_, ?_,⟨by decide,λ_ _ _ h=>h⟩⟩;intro k k' β β' g s l2 a f e e2;obtain⟨b,j,m⟩:=TP a;obtain⟨b',l,u⟩:=TP f;have:=I.inj b b' β β' g (t s j) (t l2 l) m u e e2;subst this;have a1:=Lq.1 j;have a2:=Lq.1 l;exact(List.getElem_inj nd).1 (a1.2.trans a2.2.symm);intro k β g s a e;obtain⟨b,j,m⟩:=TP a;exact I.notIm b β g (t s j) m e;intro k β g a e;obtain⟨b,j,m⟩:=TP a;exact I.bnd b β g m e;intro k β g a e;exact .inr ⟨k,β,a,e⟩;intro k B r;obtain⟨i,w,p⟩:=Du r;have z:=n w;subst z;have y:k<ids.length:=by(have:=(Lq.1 p).1;omega)
 obtain⟨r1,r2⟩:=c k _ B (LW y) p;obtain⟨β,a,f⟩:=I.blk _ _ r1;refine⟨β,by rw[LW y];exact a, ?_⟩;cases B with
 |box ty cells =>
  obtain⟨f,h3,g,cs,h4,h5,h6,h7,h8⟩:=f;refine⟨f,h3,g,cs,h4,h5,h6,h7,λo x v hx hv=>?_⟩;obtain⟨d,rfl⟩:=r2 x (Lk hx);cases h8 o _ v hx hv with|d q=>exact .d q
 |_=>exact r2.elim
 intro k z _;show(ids[k]?).bind ρ=La;rw[List.getElem?_eq_none oq];rfl
theorem Zkh{Ow ρ2 w' m H2 ck}(a:Sx.Inv Ow Im w1 ρ2 w' m H2 ck){post:List Z4}(hl:ids.length=post.length)(hn:ids.length<=8000)(lH:∀b∈ids,live H b)(c:∀B∈post,MZ B)(p:∀(i:Nat) (B:Z4),post[i]?=M B->H2 i=M B)(y:∀(i b:Nat) (β:Bi),ids[i]?=M b->Ow.p i β->ρ b=M β)(ow:∀g,OwA Ow g->w0.heap.size<=g):∃ρr,Sx.Inv EG Im0 w0 ρr w' m (Bn (ids.zip post)) clk/\∀b∈ids,ρr b=ρ b:=by
 have j:∀{i b:Nat} {B:Z4},ids[i]?=M b->post[i]?=M B->∃β,ρ b=M β/\ρ2 i=M β/\RelB ρ2 w' m β B:=λ{i b B} q1 q2=>by(have hi:i<ids.length:=(Lq.1 q1).1;obtain⟨β,k1,w⟩:=a.blk i B (p i B q2);exact⟨β,y i b β q1 (a.one.2 i β oq k1),k1,w⟩)
 have f:∀{b:Nat} {β:Bi},(if b∈ids then ρ b else La)=M β->b∈ids/\ρ b=M β:=λ{b β} h=>by(split at h;exact⟨aa,h⟩;cases h)
 have lv:∀{b:Nat},live (Bn (ids.zip post)) b->∃i B,ids[i]?=M b/\post[i]?=M B:=λ{b} ⟨B,t,_⟩=>by(obtain⟨i,s,l⟩:=Du t;exact⟨i,B,s,l⟩)
 refine⟨λb=>if b∈ids then ρ b else La,⟨?_, ?_, ?_, ?_, ?_,a.imb, ?_, ?_, ?_, ?_⟩,λb r=>if_pos r⟩;refine⟨a.kept.os.trans I.kept.os,a.kept.tape.trans I.kept.tape,a.kept.output.trans I.kept.output,L0 I.kept.size a.kept.size,λk u z=>?_,λk u=>?_⟩;rw[a.kept.block k (Lw u I.kept.size) λq=>by have:=ow k q;omega];exact I.kept.block k u z;rw[a.kept.rows k (Lw u I.kept.size)];exact I.kept.rows k u;intro b b' β β' g l1 l2 e p n e2;exact I.inj b b' β β' g (lH b (f e).1) (lH b' (f p).1) (f e).2 (f p).2 n e2;intro b β g l1 e n;obtain⟨i,B,s,l⟩:=lv l1;obtain⟨β2,k1,w,k3⟩:=j s l;have:=(f e).2;rw[k1]at this;cases this;refine a.notIm i _ g ⟨B,p i B l, ?_⟩ w n;have r:=c B (Lk l);intro hd;rw[hd]at r;exact r;intro b β g e n;exact Lw (I.bnd b β g (f e).2 n) a.kept.size;intro b β g e n;exact I.own b β g (f e).2 n;intro g hg;rcases a.im0 g hg with q|q|q;exact I.im0 g q;exact .inr (.inl (L0 I.kept.size q));exact .inr (.inl (ow g q));intro b B t;obtain⟨i,s,l⟩:=Du t;obtain⟨β,k1,w,k3⟩:=j s l;refine⟨β,by rw[if_pos (Lk s)];exact k1, ?_⟩;have r:=c B (Lk l);cases B with
 |box ty cells =>
  obtain⟨p,h3,g,cs,h4,h5,h6,h7,h8⟩:=k3;refine⟨p,h3,g,cs,h4,h5,h6,h7,λo x v hx hv=>?_⟩;obtain⟨d,rfl⟩:=r x (Lk hx);cases h8 o _ v hx hv with|d q=>exact .d q
 |_=>exact r.elim
 intro b _ t;have:=ZgN hl t;rw[if_neg this];exact⟨I.one.1,λb β h0 e=>I.one.2 b β h0 (f e).2⟩
end
end Go.Sx
namespace Go.Proofs.YtgedmeaemofdkaaGreat
open Go.Sx Go.RowKit
def MS(e:Int):Value:=.iface 124 (.agg #[.int .i64 e])
def ZiB(e:Int)(he:e≠0) w:Calls prog 76 #[.int .i64 e] w λa w'=>a=.panicked [{v:=MS e,recovered:=Ld}]/\w'=w:=by go_enter func76,Tryz.ntmps76;go_wp2;all_goals exact⟨rfl,rfl,rfl⟩
def IW(e:Int):List Z4:=[.box 28 [nI 0,nI 0,.d (.sl 0 []),.d (.sl 0 []),nI 0,nI 0],.box 25 [.d (.sl 0 [])],.box 25 [.d (.sl 0 [])],.box 73 [nI 0,nI 0,nI 0,nI 0,nI 0,nI 0],.box 32 [nI e]]
def pnB:List (Nat×Z4):=[(0,.box 28 [.any,.any,.any,.any,.any,.any]),(1,.box 25 [.any]),(2,.box 25 [.any]),(3,.box 73 [.any,.any,.any,.any,.any,.any]),(4,.box 32 [.any])]
def Zls e:CP (Gj f72 1) (Tg.st ⟨tm 23 [(0,.pt 0 0 0),(1,.pt 1 0 0),(2,.pt 2 0 0),(3,.pt 3 0 0),(4,.pt 4 0 0),(5,.ic 124 (.ag [nI e]))],[(0,.box 28 [.any,.any,.any,.any,.any,.any]),(1,.box 25 [.any]),(2,.box 25 [.any]),(3,.box 73 [.any,.any,.any,.any,.any,.any]),(4,.box 32 [.any])],60⟩) .nrm (Tg.st ⟨tm 23 [],[(0,.box 28 [nI 0,nI 0,.d (.sl 0 []),.d (.sl 0 []),nI 0,nI 0]),(1,.box 25 [.d (.sl 0 [])]),(2,.box 25 [.d (.sl 0 [])]),(3,.box 73 [nI 0,nI 0,nI 0,nI 0,nI 0,nI 0]),(4,.box 32 [nI e])],90⟩):=by exact sF [] [] Fz
def Ze7{Ow Im0 Im w0 w1 ρ} e(I:Sx.Inv Ow Im0 w0 ρ w1 Im (Bn pnB) 60){p q r s g}(z:Zj ρ w1 Im (.pt 0 0 0) p)(r7:Zj ρ w1 Im (.pt 1 0 0) q)(r8:Zj ρ w1 Im (.pt 2 0 0) r)(r9:Zj ρ w1 Im (.pt 3 0 0) s)(m:Zj ρ w1 Im (.pt 4 0 0) g) :CallsD prog 72 #[p,q,r,s,g] (.panicking [{v:=MS e,recovered:=Ld}]) w1 λu u' w'=>u=.returned (.tuple #[])/\u'=.panicking [{v:=MS e,recovered:=O}]/\∃ρ' f,Sx.Inv Ow Im0 w0 ρ' w' f (Bn ((upto 0 5).zip (IW e))) 90:=by
 refine callsD_of_wpS func72 rfl λc₀ cs y=>?_;apply wpS_seq;apply wpS_region;simp[wpOpsS,go_sem,recoverD,y,Tryz.ntmps72,Exit.thenS];refine wpS_of_wp ?_;have n:∀{c:Code} {Q:Exit->Act->World->Prop} {a:Act} {w:World},c=Gj f72 1->(Gj f72 1).wp prog Q a w->c.wp prog Q a w:=λ{c Q a w} h k=>h▸k;refine n kr ?_;clear n;generalize l:Gj f72 1=cc;have run:=Zls e;rw[l]at run;refine wp_mono (run ⟨Ow.p,[]⟩ Im0 w0 _ w1 ⟨ρ,Im,⟨I.kept,I.inj,I.notIm,I.bnd,I.own,I.imb,I.im0,I.blk,I.fresh,I.one⟩,Z32 pq rfl λk x v o d=>?_⟩) ?_;simp only[Lh,LD,Ll,or_false]at o;rcases o with⟨rfl,rfl⟩|⟨rfl,rfl⟩|⟨rfl,rfl⟩|⟨rfl,rfl⟩|⟨rfl,rfl⟩|⟨rfl,rfl⟩<;>simp[LA]at d<;>subst d;exact z;exact r7;exact r8;exact r9;exact m;refine .ic (.ag _ _ rfl (λi v d=>?_) λi a v j d=>?_);match i,d with|0,d=>cases d;rfl
 match i,j,d with|0,j,d=>cases j;cases d;exact .d (.sc _ rfl)
 rintro e' a' w' ⟨rfl,ρ',f,b,t⟩;exact⟨t.defers,_,rfl,.tuple #[],by simp[results,Tryz.results72],rfl,rfl,ρ',f,⟨b.kept,b.inj,b.notIm,b.bnd,b.own,b.imb,b.im0,b.blk,b.fresh,b.one⟩⟩
end Go.Proofs.YtgedmeaemofdkaaGreat
namespace Go.Proofs.YtgedmeaemofdkaaGreat
open Go.Sx Go.RowKit
def pnT:Tg:=⟨tm 79 [(6,.pt 0 0 0),(7,.pt 1 0 0),(8,.pt 2 0 0),(9,.pt 3 0 0),(10,.pt 4 0 0)],pnB,60⟩
def pnQ(x:AV)(e:Int):Tg:=⟨tm 79 [(6,.pt 0 0 0),(7,.pt 1 0 0),(8,.pt 2 0 0),(9,.pt 3 0 0),(10,.pt 4 0 0)],[(0,.box 28 [nI 0,nI 0,.d (.sl 0 []),.d (.sl 0 []),nI 0,nI 0]),(1,.box 25 [x]),(2,.box 25 [.d (.sl 0 [])]),(3,.box 73 [nI 0,nI 0,nI 0,nI 0,nI 0,nI 0]),(4,.box 32 [nI e])],60⟩
def ZeX(e:Int):Exit:=.panic [{v:=MS e,recovered:=Ld}]
def Hk(c:Code)(s:St)(e:Int):Prop:=∀(d:Sx.Own) (b:Nat->Prop) (f:World) (a:Act) (w:World),Sx.Sys d b f s.tmps s.H s.clk a w->c.wp prog (λh g i=>h=ZeX e/\Sx.Sys d b f pnT.st.tmps pnT.st.H pnT.st.clk g i) a w
def Hk.left{c d:Code}{s e}(h:Hk c s e):Hk (.seq c d) s e:=by intro f b g a w S;refine wp_seq (wp_mono (h f b g a w S) ?_);rintro e' a' w' ⟨rfl,q⟩;exact⟨rfl,q⟩
def Hk.right{c d s t e}(h:CP c s .nrm t)(k:Hk d t e):Hk (.seq c d) s e:=by intro f b g a w S;refine wp_seq (wp_mono (h f b g a w S) ?_);rintro e' i j ⟨rfl,q⟩;exact k f b g i j q
def Z1s{x}{e:Int}(he:e≠0){m t:Nat}{ops:Array Oper}{o0 o1:Oper}{c:Call}{fo:Operand}(hs:Lm ops.size=[0,1])(z:ops[0]?=M o0)(h1:ops[1]?=M o1)(l0:o0.op=.load 32 (.tmp 10))(q:o0.dst=M t)(v:o0.guard=La)(l1:o1.op=.call c)(y:o1.guard=La)(hc:c.callee=.value fo)(ha:c.args=#[.tmp t])(hf:∀a:Act,a.eval fo=.func (.func 76) #[] #[])(ht:t<79)(h:(pnQ x e).st.tmps.set t .any=(pnQ x e).st.tmps):Hk (.region m ops Ld) (pnQ x e).st e:=by
 rintro Ow p w0 a w ⟨ρ,o,I,T⟩;refine wp_region ?_;rw[hs];have a0:a.tmps.size=79:=T.size;have b:a.tmps[10]?=M a.tmps[10]:=LO oq;obtain⟨g,s,n,r1,r2⟩:=R9 (T.tmp 10 (.pt 4 0 0) _ rfl b) dd;obtain⟨β,k1,k2,k3,g',j,k4,k,k6,k7,k8⟩:=I.blk 4 _ rfl;rw[r1]at k1;cases k1;cases k4;have ev:a.eval (.tmp 10)=.pointer (M ⟨g,0,La⟩):=by
  have r:a.eval (.tmp 10)=a.tmps[10]?.getD undef:=by simp[LG]
  rw[r,b];simpa using r2
 have i:j=#[.int .i64 e]:=by
  obtain⟨l⟩:=j;match l,k6 with|[x],_=>rw[BV (k8 0 _ x rfl rfl)]
 rw[i]at k;refine RD z v (Nr (Z58 l0 ev k rfl kr) ?_);refine RD h1 y ?_;rw[q];have u:(a.put (M t) (.int .i64 e)).eval (.tmp t)=.int .i64 e:=by
  have:t<a.tmps.size:=by omega
  simp[L2,LG,this]
 have d:(execOp (a.put (M t) (.int .i64 e)).eval o1).run prog w=.ok (.enter 76 #[.int .i64 e]) w:=by(have:=N0 (P:=prog) (f:=76) kr #[.int .i64 e] w;simp[execOp,l1,resolve,hc,ha,hf,u,Lu,invoke,this])
 simp only[Lt,d,L1];refine(ZiB e he w).mono ?_;rintro en w' ⟨rfl,rfl⟩;refine⟨rfl,ρ,o,ZeR I, ?_⟩;have:=T.put t (.any (.int .i64 e));rwa [h]at this
def clX(h:Heap)(s k:List Int):Tg:=⟨tm 79 [(1,Z2 s),(2,Z2 k),(3,.pt 5 0 0),(6,.pt 0 0 0),(7,.pt 1 0 0),(8,.pt 2 0 0),(9,.pt 3 0 0),(10,.pt 4 0 0)],[(0,.box 28 [nI 0,nI 0,.d (.sl 0 []),.d (.sl 0 []),nI 0,nI 0]),(1,.box 25 [.d (.sl 0 [])]),(2,.box 25 [.d (.sl 0 [])]),(3,.box 73 [nI 0,nI 0,nI 0,nI 0,nI 0,nI 0]),(4,.box 32 [nI 0]),(5,.box 28 h.cells)],2⟩
def pnI:List Nat:=[8006,8007,8008,8009,8010]
def pnJ:List Nat:=[8006,8007,8008,8009,8010,8003]
section
variable{h:Heap}{s k:List Int}{e:Int}
theorem Zch{B:Z4}(h:Heap)(a:B∈IW 0++[.box 28 h.cells]):MZ B:=by simp only[IW,Xj,List.nil_append,Lh,Ll,or_false]at a;rcases a with rfl|rfl|rfl|rfl|rfl|rfl<;>(intro x b;simp only[Heap.cells,Lh,Ll,or_false]at b;rcases b with rfl|rfl|rfl|rfl|rfl|rfl<;>exact⟨_,rfl⟩)
theorem ZjK{B:Z4}(a:B∈IW e):MZ B:=by simp only[IW,Lh,Ll,or_false]at a;rcases a with rfl|rfl|rfl|rfl|rfl<;>(intro x b;simp only[Lh,Ll,or_false]at b;rcases b with rfl|rfl|rfl|rfl|rfl|rfl<;>exact⟨_,rfl⟩)
theorem Tk(pc:Hk (Gj f35 2) (clX h s k).st e):GP 35 [h.av,Z2 s,Z2 k] Ld (.tu [ZY.av,Z2 [],Z2 [],.ag Hu.cells,nI e]) []:=by
 intro w Im vs b0 b1 a4;refine calls_of_wp_defers func35 (c:=.seq (Cn f35 0) (.seq (Cn f35 1) (Gj f35 2))) kr ?_;have S0:=O4 (n:=79) b0 b1 a4;rw[show [h.av,Z2 s,Z2 k]++Lg (79 - [h.av,Z2 s,Z2 k].length) .any=tm 79 [(0,h.av),(1,Z2 s),(2,Z2 k)]from by kernel_rfl]at S0;refine wp_seq (wp_mono (Z9w h s k _ _ _ _ _ S0) ?_);rintro e1 a1 w1 ⟨rfl,ρ,m,I,T⟩;have ev:∀t x,(clS h s k).st.tmps[t]?=M x->Zj ρ w1 m x (a1.eval (.tmp t)):=λt x hx=>by
  have hl:t<a1.tmps.size:=by rw[T.size];exact(Lq.1 hx).1
  have:a1.eval (.tmp t)=a1.tmps[t]:=by simp[LG,hl]
  rw[this];exact T.tmp t x _ hx (LO hl)
 have r6:=ev 6 (.pt 8006 0 0) rfl;have r7:=ev 7 (.pt 8007 0 0) rfl;have r8:=ev 8 (.pt 8008 0 0) rfl;have r9:=ev 9 (.pt 8009 0 0) rfl;have a9:=ev 10 (.pt 8010 0 0) rfl;refine wp_seq ?_;rw[show Cn f35 1=.region 1 (Bj f35 1) Ld from by kernel_rfl];refine wp_region ?_;rw[show Lm (Bj f35 1).size=[0,1]from by kernel_rfl];refine RD (o:=(Bj f35 1).getD 0 Lb) kr kr (Nr (Z8P (f:=72) (l:=#[.tmp 6,.tmp 7,.tmp 8,.tmp 9,.tmp 10]) kr) ?_);rw[show Array.map a1.eval #[.tmp 6,.tmp 7,.tmp 8,.tmp 9,.tmp 10]=#[a1.eval (.tmp 6),a1.eval (.tmp 7),a1.eval (.tmp 8),a1.eval (.tmp 9),a1.eval (.tmp 10)]from by simp];show wpOps prog (Bj f35 1) _ [1] (a1.put (M 13) (.func (.func 72) #[] #[a1.eval (.tmp 6),a1.eval (.tmp 7),a1.eval (.tmp 8),a1.eval (.tmp 9),a1.eval (.tmp 10)])) w1;generalize a1.eval (.tmp 6)=v6,a1.eval (.tmp 7)=v7,a1.eval (.tmp 8)=v8,a1.eval (.tmp 9)=v9,a1.eval (.tmp 10)=v10 at r6 r7 r8 r9 a9⊢;have y:Ck [] ρ w1 m ((clS h s k).st.tmps.set 13 .any) (a1.put (M 13) (.func (.func 72) #[] #[v6,v7,v8,v9,v10])):=T.put 13 (.any _);have a0:(a1.put (M 13) (.func (.func 72) #[] #[v6,v7,v8,v9,v10])).eval (.tmp 13)=.func (.func 72) #[] #[v6,v7,v8,v9,v10]:=by
  have:=T.size;have z:13<a1.tmps.size:=by rw[this,show(clS h s k).st.tmps.length=79 from by kernel_rfl];decide
  simp[L2,LG,z]
 generalize a1.put (M 13) (.func (.func 72) #[] #[v6,v7,v8,v9,v10])=a2 at y a0⊢;refine RD (o:=(Bj f35 1).getD 1 Lb) kr kr (Z6k (c:=⟨.value (.tmp 13),#[],#[]⟩) (x:=.tmp 13) kr rfl a0 ?_);rw[y.defers];show Code.wp prog (Gj f35 2) _ {tmps:=a2.tmps,defers:=[⟨.fn (.func 72) #[v6,v7,v8,v9,v10],#[]⟩]} w1;have a7:∀(i b:Nat) (B:Z4),pnJ[i]?=M b->(IW 0++[.box 28 h.cells])[i]?=M B->(clS h s k).st.H b=M B/\MZ B:=by
  intro i b B a j;refine⟨?_,Zch h (Lk j)⟩;match i,a,j with|0,a,j=>cases a;cases j;rfl|1,a,j=>cases a;cases j;rfl|2,a,j=>cases a;cases j;rfl|3,a,j=>cases a;cases j;rfl|4,a,j=>cases a;cases j;rfl|5,a,j=>cases a;cases j;rfl
 have J:=Zay I (ids:=pnJ) (pre:=IW 0++[.box 28 h.cells]) dd rfl dd a7 [⟨.fn (.func 72) #[v6,v7,v8,v9,v10],#[]⟩];have pt:∀{k b:Nat} {v:Value},Zj ρ w1 m (.pt b 0 0) v->pnJ[k]?=M b->Zj (λk=>(pnJ[k]?).bind ρ) w1 m (.pt k 0 0) v:=λ{k b v} r q=>by
  cases r with|pt h=>exact .pt (by rw[q];exact h)
 have S6:Sx.Sys ⟨λk β=>(pnJ[k]?).bind ρ=M β,[⟨.fn (.func 72) #[v6,v7,v8,v9,v10],#[]⟩]⟩ m w1 (clX h s k).st.tmps (clX h s k).st.H 2 {tmps:=a2.tmps,defers:=[⟨.fn (.func 72) #[v6,v7,v8,v9,v10],#[]⟩]} w1:=by
  refine⟨_,m,J,Z32 (y.size.trans kr) rfl λi x v hx u=>?_⟩;simp only[Lh,LD,Ll,or_false]at hx;rcases hx with⟨rfl,rfl⟩|⟨rfl,rfl⟩|⟨rfl,rfl⟩|⟨rfl,rfl⟩|⟨rfl,rfl⟩|⟨rfl,rfl⟩|⟨rfl,rfl⟩|⟨rfl,rfl⟩;cases y.tmp 1 (Z2 s) v rfl u with|d q=>exact .d q
  cases y.tmp 2 (Z2 k) v rfl u with|d q=>exact .d q
  exact pt (y.tmp 3 (.pt 8003 0 0) v rfl u) rfl;exact pt (y.tmp 6 (.pt 8006 0 0) v rfl u) rfl;exact pt (y.tmp 7 (.pt 8007 0 0) v rfl u) rfl;exact pt (y.tmp 8 (.pt 8008 0 0) v rfl u) rfl;exact pt (y.tmp 9 (.pt 8009 0 0) v rfl u) rfl;exact pt (y.tmp 10 (.pt 8010 0 0) v rfl u) rfl
 refine wp_mono (pc _ _ _ _ _ S6) ?_;rintro e3 a3 w3 ⟨rfl,ρ3,a5,I3,T3⟩;have a8:∀{i b:Nat} {β:Bi},pnJ[i]?=M b->i<6->ρ3 i=M β->ρ b=M β:=λ{i b β} q hi a=>by(have:=I3.one.2 i β oq a;simp only[q]at this;exact this)
 have bk:∀i,i<5->∃β,ρ3 i=M β:=λi hi=>by
  have:∃B,Bn pnB i=M B:=by
   match i,hi with|0,_=>exact⟨_,rfl⟩|1,_=>exact⟨_,rfl⟩|2,_=>exact⟨_,rfl⟩|3,_=>exact⟨_,rfl⟩|4,_=>exact⟨_,rfl⟩
  obtain⟨B,hB⟩:=this;obtain⟨β,k1,_⟩:=I3.blk i B hB;exact⟨β,k1⟩
 have p3:∀{i b:Nat} {v:Value},pnJ[i]?=M b->i<5->Zj ρ w1 m (.pt b 0 0) v->Zj ρ3 w3 a5 (.pt i 0 0) v:=λ{i b v} q hi r=>by
  obtain⟨β,k1⟩:=bk i hi;have k2:=a8 q oq k1;cases r with|pt h =>rw[h]at k2;cases k2;exact .pt k1
 show Leaves _ _ a3.tmps _ a3.defers (.panicking [{v:=MS e,recovered:=Ld}]) w3;rw[T3.defers];refine leaves_cons (f:=72) (args:=#[v6,v7,v8,v9,v10]) pq (N0 kr _ _) ?_;refine(Ze7 e I3 (p3 rfl dd r6) (p3 rfl dd r7) (p3 rfl dd r8) (p3 rfl dd r9) (p3 rfl dd a9)).mono ?_;rintro en u' w4 ⟨rfl,rfl,ρ4,a6,I4⟩;obtain⟨ρr,I5,hρ⟩:=Zkh I I4 (ids:=pnI) (post:=IW e) rfl dd (λb hb=>by
  simp only[pnI,Lh,Ll,or_false]at hb;rcases hb with rfl|rfl|rfl|rfl|rfl<;>exact⟨_,rfl,by simp⟩) (λB hB=>ZjK hB) (λi B hB=>by
  have:=Z5F 5 0 (IW e) i rfl hB;rwa [Xx]at this) (λi b β a j=>by
  have h3:pnJ[i]?=M b:=by
    match i,a with|0,a=>exact a|1,a=>exact a|2,a=>exact a|3,a=>exact a|4,a=>exact a
  simp only[h3]at j;exact j) (λg ⟨i,β,a,j⟩=>by
  obtain⟨b,_,q2⟩:=TP a;exact Zjn I q2 j)
 have pr:∀{i b:Nat} {v:Value},pnJ[i]?=M b->i<5->b∈pnI->Zj ρ3 w3 a5 (.pt i 0 0) v->Zj ρr w4 a6 (.pt b 0 0) v:=λ{i b v} q hi hb r=>by
  cases r with|pt h=>exact .pt ((hρ b hb).trans (a8 q oq h))
 have S5:Sx.Sys EG Im w (Tg.st ⟨tm 79 [(6,.pt 8006 0 0),(7,.pt 8007 0 0),(8,.pt 8008 0 0),(9,.pt 8009 0 0),(10,.pt 8010 0 0)],pnI.zip (IW e),2⟩).tmps (Bn (pnI.zip (IW e))) 2 {a3 with defers:=[]} w4:=by(refine⟨ρr,a6,I5,Z32 (T3.size.trans kr) rfl λi x v hx u=>?_⟩;simp only[Lh,LD,Ll,or_false]at hx;rcases hx with⟨rfl,rfl⟩|⟨rfl,rfl⟩|⟨rfl,rfl⟩|⟨rfl,rfl⟩|⟨rfl,rfl⟩;exact pr (i:=0) rfl dd dd (T3.tmp 6 _ v rfl u);exact pr (i:=1) rfl dd dd (T3.tmp 7 _ v rfl u);exact pr (i:=2) rfl dd dd (T3.tmp 8 _ v rfl u);exact pr (i:=3) rfl dd dd (T3.tmp 9 _ v rfl u);exact pr (i:=4) rfl dd dd (T3.tmp 10 _ v rfl u))
 obtain⟨v,q1,q2⟩:=OS (P:=prog) (fn:=f35) (fr:=Ld) (ns:=[]) (l:=[.ag [nI 0,nI 0,.d (.sl 0 []),.d (.sl 0 []),nI 0,nI 0],.d (.sl 0 []),.d (.sl 0 []),.ag [nI 0,nI 0,nI 0,nI 0,nI 0,nI 0],nI e]) (res:=.tu [ZY.av,Z2 [],Z2 [],.ag Hu.cells,nI e]) (x:=.tu [.ag [nI 0,nI 0,.d (.sl 0 []),.d (.sl 0 []),nI 0,nI 0],.d (.sl 0 []),.d (.sl 0 []),.ag [nI 0,nI 0,nI 0,nI 0,nI 0,nI 0],nI e]) (p:=[]) (qq:=[]) (st:=Tg.st ⟨tm 79 [(6,.pt 8006 0 0),(7,.pt 8007 0 0),(8,.pt 8008 0 0),(9,.pt 8009 0 0),(10,.pt 8010 0 0)],pnI.zip (IW e),2⟩) (Xc (α:=Nat)) S5 kr kr trivial (by exact⟨rfl,rfl,rfl,rfl⟩) kr kr trivial;exact⟨v,q1,v,rfl,q2⟩
end
end Go.Proofs.YtgedmeaemofdkaaGreat
namespace Go.Proofs.YtgedmeaemofdkaaGreat
open Go.Sx Go.RowKit
structure O3 (h:Heap) (e:Int):Prop where
 b:GP 73 [h.av] Ld (.tu [EF.av,nI e]) []
 n:e=1\/e=19
def Zgr{h e}(c:O3 h e):GP 73 [h.av] Ld (.tu [EF.av,nI e]) []:=c.b
section
variable{h:Heap}{s k:List Int}{e:Int}
theorem pnA(c:O3 h e):CP (Cn f35 2) (clX h s k).st .nrm (Tg.st ⟨tm 79 [(1,Z2 s),(2,Z2 k),(3,.pt 5 0 0),(6,.pt 0 0 0),(7,.pt 1 0 0),(8,.pt 2 0 0),(9,.pt 3 0 0),(10,.pt 4 0 0)],[(0,.box 28 [nI 0,nI 0,.d (.sl 0 []),.d (.sl 0 []),nI 0,nI 0]),(1,.box 25 [.d (.sl 0 [])]),(2,.box 25 [.d (.sl 0 [])]),(3,.box 73 [nI 0,nI 0,nI 0,nI 0,nI 0,nI 0]),(4,.box 32 [nI e]),(5,.box 28 h.cells)],60⟩):=by exact sF [] []<|Fc 16 (@Zgr h e aa) Fz
theorem ZaD(c:O3 h e):CP (Cn f35 3) (Tg.st ⟨tm 79 [(1,Z2 s),(2,Z2 k),(3,.pt 5 0 0),(6,.pt 0 0 0),(7,.pt 1 0 0),(8,.pt 2 0 0),(9,.pt 3 0 0),(10,.pt 4 0 0)],[(0,.box 28 [nI 0,nI 0,.d (.sl 0 []),.d (.sl 0 []),nI 0,nI 0]),(1,.box 25 [.d (.sl 0 [])]),(2,.box 25 [.d (.sl 0 [])]),(3,.box 73 [nI 0,nI 0,nI 0,nI 0,nI 0,nI 0]),(4,.box 32 [nI e]),(5,.box 28 h.cells)],60⟩) .nrm (pnQ (.d (.sl 0 [])) e).st:=by rcases c.n with n|n;subst n;exact sF [] []<|Fh 26 [.bor [] AV.any []]<|Fh 27 [.bor [] (bL Ld) []] Fz;subst n;exact sF [] []<|Fh 26 [.bor [] AV.any []]<|Fh 27 [.bor [] (bL Ld) []] Fz
end
end Go.Proofs.YtgedmeaemofdkaaGreat
namespace Go.Proofs.YtgedmeaemofdkaaGreat
open Go.Sx
def Zgp{c:B2}{i o:Int}(a:Zq c=O)(h:0<=i/\i<c.pg/\0<=o/\o<c.pw):address c i o=(4096+(i*c.pw+o),0):=by unfold address;rw[if_pos a,if_pos (HM.2 h)]
def Z7z{w}(k:Di w){i n o:Int}(a:0<=i/\i<w.j.P.length)(hn:1<=n)(ho:0<=o/\o+n<=w.j.C.pw):(address w.j.C i o).2=0/\(address w.j.C i o).1=4096+i*w.j.C.pw+o/\4096<=(address w.j.C i o).1/\(address w.j.C i o).1-4096+n<=w.j.W.length:=by have pl:=k.pl;have L:=k.L;have cf:=BF.1 k.C;have m:=ED (i:=i) (j:=w.j.C.pg) (pw:=w.j.C.pw) oq oq;rw[Int.mul_comm w.j.C.pg]at m;have m0:0<=i*w.j.C.pw:=Int.mul_nonneg a.1 oq;rw[Zgp k.C oq];exact⟨rfl,by simp only;omega,by simp only;omega,by simp only;omega⟩
def Zji{w}(k:HV w)(h:0<=ZP w):Di w.took/\(w.took.j.P.getD (ZP w).toNat Lb).U=0:=by have sp:=k.ok.sp;obtain⟨f1,f2,f3,f4⟩:=RB (h:=⟨w.j.C,w.j.W,w.j.P,1-w.j.S,w.j.B⟩) (by simp only;omega) h;have f2':(ES w).length=w.j.P.length:=f2;have f4':(ES w).getD (ZP w).toNat Lb=⟨1,1-w.j.S,0,0⟩:=f4;refine⟨⟨k.ok.C,k.ok.wl, ?_,k.L⟩, ?_⟩;show((ES w).length:Int)=_;rw[f2'];exact k.ok.pl;show((ES w).getD (ZP w).toNat Lb).U=0;rw[f4']
section
variable{w:Z7}{r:Int}(f:FwOk w r)
include f
theorem Z9r(e:(w.fwd r).2.2=0):BP 130 [.pt 0 0 0,uU r] w.ckp (.tu [uU (w.fwd r).2.1,nI 0]) (w.fwd r).1.ckq:=by
 unfold Z7.fwd at e⊢;by_cases c1:r=0\/r∈w.Q;rw[if_pos c1];exact MX [0,1,6,3,7,8] 9 (ZbC w r f.rg f.ck.ln c1) (by rfl) rfl rfl;rw[if_neg c1]at e⊢;have c1':r≠0:=λh=>c1 (Or.inl h);have c2:r∉w.Q:=λh=>c1 (Or.inr h);by_cases c3:r∈w.old;rotate_left;rw[if_pos c3]at e;cases e;rw[if_neg (by simpa using c3)]at e⊢;by_cases c4:(ZF (Z1 w.j.W r).1).2=O;rw[if_pos c4];exact MX [0,1,6,3,7,8] 9 (Zdo w r f c1' c2 c3 c4) (by rfl) rfl rfl;rw[if_neg c4]at e⊢;have c4':(ZF (Z1 w.j.W r).1).2=Ld:=by simpa using c4
 have h3:=f.ol c3;rw[if_neg (by rw[h3.2.2.1];simp)]at e⊢;by_cases c6:ZJ w (Z3 w.j.C r).1=O;rw[if_pos c6];exact MX [0,1,6,3,7,5,8] 9 (ZiL w r f c1' c2 c3 c4' c6) (by rfl) rfl rfl;rw[if_neg c6]at e⊢;have c6':ZJ w (Z3 w.j.C r).1=Ld:=by simpa using c6
 by_cases c7:(w.j.P.getD (Ct w r) Lb).K=2;rw[if_pos c7];exact MX [0,1,6,3,7,5,8] 9 (ZjF w r f c1' c2 c3 c4' c6' c7) (by rfl) rfl rfl;rw[if_neg c7]at e⊢;have sz:=Nx w r;have hl:=GA w r;have en:(((Z5 (Zv w r)).toNat:Nat):Int)=Z5 (Zv w r):=Int.toNat_of_nonneg oq;have hpw:Z5 (Zv w r)<=w.j.C.pw:=by(rcases f.sz c3 with q|q;exact absurd q c7;omega)
 have ok:=f.ck.ok;by_cases hf:E6 w (Z5 (Zv w r));have ep:w.place (Z5 (Zv w r))=(⟨⟨w.j.C,w.j.W,Cv w.j.P (ZG w).toNat (Z5 (Zv w r)),w.j.S,w.j.B⟩,w.old,w.T,w.Q,w.D,w.rep⟩,4096+ZG w*w.j.C.pw+(w.j.P.getD (ZG w).toNat Lb).U,O):=by rw[Z7.place,if_pos hf]
 rw[ep];rw[if_neg pq];have hm:=ok.tk _ (GT hf.1);have hu:=ok.us (ZG w).toNat oq;have ri:=Z7z f.ck.mem (i:=ZG w) (n:=Z5 (Zv w r)) (o:=(w.j.P.getD (ZG w).toNat Lb).U) ⟨hm.1,hm.2.1⟩ sz.1 ⟨hu.1,hf.2⟩;have b:=Ze5 w r f c1' c2 c3 c4' c6' c7 hf ri.1 ri.2.2;rw[en,ri.2.1]at b;exact MX [0,1,6,3,7,5,8] 9 b (by rfl) rfl rfl;by_cases hg:0<=ZP w;have ep:w.place (Z5 (Zv w r))=(⟨⟨w.j.C,w.j.W,Cv (ES w) (ZP w).toNat (Z5 (Zv w r)),w.j.S,w.j.B⟩,w.old,w.T++[ZP w],w.Q,w.D,w.rep⟩,4096+ZP w*w.j.C.pw,O):=by rw[Z7.place,if_neg hf,if_pos hg]
 rw[ep];rw[if_neg pq];obtain⟨t1,t2⟩:=Zji f.ck hg;have ff:=Ik hg;have ri:=Z7z f.ck.mem (i:=ZP w) (n:=Z5 (Zv w r)) (o:=0) ⟨hg,by unfold ZP;omega⟩ sz.1 ⟨Int.le_refl _,by omega⟩;have b:=ZdI w r f c1' c2 c3 c4' c6' c7 t1 oq hf hg ri.1 ri.2.2;rw[en,ri.2.1,Int.add_zero]at b;exact b;rw[Z7.place,if_neg hf,if_neg hg]at e;simp at e
theorem Z7A(e:¬ (w.fwd r).2.2=0):BP 130 [.pt 0 0 0,uU r] w.ckp (.tu [uU 0,nI (w.fwd r).2.2]) w.ckp:=by
 unfold Z7.fwd at e⊢;by_cases c1:r=0\/r∈w.Q;rw[if_pos c1]at e;exact absurd rfl e;rw[if_neg c1]at e⊢;have b:r≠0:=λh=>c1 (Or.inl h);have c2:r∉w.Q:=λh=>c1 (Or.inr h);by_cases c3:r∈w.old;rotate_left;rw[if_pos c3];exact Zal w r f.rg f.ck.ln b c2 c3;rw[if_neg (by simpa using c3)]at e⊢;by_cases c4:(ZF (Z1 w.j.W r).1).2=O;rw[if_pos c4]at e;exact absurd rfl e;rw[if_neg c4]at e⊢;have c:(ZF (Z1 w.j.W r).1).2=Ld:=by simpa using c4
 have l:=f.ol c3;rw[if_neg (by rw[l.2.2.1];simp)]at e⊢;by_cases d:ZJ w (Z3 w.j.C r).1=O;rw[if_pos d]at e;exact absurd rfl e;rw[if_neg d]at e⊢;have g:ZJ w (Z3 w.j.C r).1=Ld:=by simpa using d
 by_cases i:(w.j.P.getD (Ct w r) Lb).K=2;rw[if_pos i]at e;exact absurd rfl e;rw[if_neg i]at e⊢;by_cases a:(w.place (Z5 (Zv w r))).2.2=Ld;rw[if_pos a];by_cases j:E6 w (Z5 (Zv w r));rw[Z7.place,if_pos j]at a;simp at a;by_cases k:0<=ZP w;rw[Z7.place,if_neg j,if_pos k]at a;simp at a;exact Zhy w r f b c2 c3 c g i j k;rw[if_neg a]at e;exact absurd rfl e
end
def Oj w(a:R4 w):BP 129 [w.av] [] (.pt 0 0 0) w.ckp:=by obtain⟨h1,h2,h3,h4,h5⟩:=a;exact borF [] [16001,25006,25010,33017,33020,33023] func129 []<|Fc 6 (@Mz w.j.W aa)<|Fc 10 (@Z2w w.j.P aa)<|Fc 17 (@Mz w.old aa)<|Fc 20 (@Ze9 w.T aa)<|Fc 23 (@Mz w.Q aa) Fz
def Z7.ckD(w:Z7):Z4:=.box 177 w.cells
def ZeT(w:Z7)(hs:w.j.S=0\/w.j.S=1):BP 180 [.pt 0 0 0] [w.ckD] (nI (1-w.j.S)) [w.ckD]:=by exact lF func180 []<|Fi 8 (1-w.j.S) Fz
structure Z3a (w:Z7):Prop where
 tl:w.T.length<=1000000
 pl:w.j.P.length<=1000000
 sp:w.j.S=0\/w.j.S=1
 so:GE w.j.P
def ZeO w i(c:Z3a w):BP 178 [.pt 0 0 0,nI i] [w.ckD] (bL (ZJ w i)) [w.ckD]:=by have pl:=c.pl;have tl:=c.tl;have sp:=c.sp;have so:=λh=>c.so.at (i:=i.toNat) h;rcases bb (Lf (i<0)||Lf ((w.j.P.length:Int)<=i))with hc0|hc0<;>have a:=hc0<;>simp only[bs]at a;exact lF func178 (fO 8)<|FlG 15 (!decide (i<0)) Z0.dv w.j.P<|Ft 17 hc0<|Fa (by(simp[ZJ, *];omega):Ld=ZJ w i) Fz;obtain⟨d,e⟩:=a;have g {h_ c_ p_} (j:Fq h_ c_ p_):=FlG 15 (!decide (i<0)) Z0.dv w.j.P<|Ff 17 hc0<|Fe 24 Z0.dv w.j.P i j;rcases bb ((w.j.P.getD i.toNat Lb).K==1)with hc1|hc1<;>have b:=hc1<;>simp only[bs]at b;exact lF func178 (fO 19)<|Fh 28 [.br O] (g (Fa hc1<|Fbq 33 [0] (@ZeT w aa)<|FcG 42 (O&&(w.j.P.getD i.toNat Lb).S==1-w.j.S) (λf=>by(try simp only[bs]at f);exact@Z0o w.T i oq)<|Fa (by grind[ZJ]:((w.j.P.getD i.toNat Lb).S==1-w.j.S&&!decide (i∈w.T))=ZJ w i) Fz));exact lF func178 (fO 19)<|Fh 28 [.br Ld]<|Fh 33 [.bor [0] (nI (1-w.j.S)) []] (g (Fa hc1<|FcG 42 (Ld&&(w.j.P.getD i.toNat Lb).S==1-w.j.S) (λf=>by(try simp only[bs]at f);exact@Z0o w.T i oq)<|Fa (by(simp only[ZJ] ;exact sj):Ld=ZJ w i) Fz))
def Z74 w i(a:Z3a w):GP 133 [w.av,nI i] O (bL (ZJ w i)) []:=by have sp:=a.sp;have so:=λh=>a.so.at (i:=i.toNat) h;exact gF [] func133 []<|Fbq 8 [16005] (@ZeO w i aa) Fz
def Nj(w:Z7):List (Nat×Z4):=[(22014,Bd w.Q),(21014,EK w.T),(20014,Bd w.old),(19014,EE w.j.P),(18014,Bd w.j.W),(17014,w.ckB 18014 19014 20014 21014 22014)]
def Dw(w:Z7)(roots out:List Int)(i:Nat):Tg:=⟨tm 40 [(4,.pt 8004 0 0),(5,.d (.sl 0 [])),(6,nI 0),(7,.pt 17014 0 0),(8,.ow 24008),(15,Z2 roots),(16,nI roots.length),(17,nI i)],(24008,.arr 35 1 (out.map wD))::(8004,.box 127 zW)::Nj w,5⟩
section
variable(w:Z7)(roots out:List Int)(i:Nat)(f:FwOk w (roots.getD i Lb))(hl:roots.length<=1048576)(ho:out.length<=1048576)(hi:i<roots.length)
include f hl ho hi
theorem Z5Y(e:(w.fwd (roots.getD i Lb)).2.2=0):CP (Zl f77 0) (Dw w roots out i).st .nrm (Dw (w.fwd (roots.getD i Lb)).1 roots (out++[(w.fwd (roots.getD i Lb)).2.1]) (i+1)).st:=by let a:=w.fwd (roots.getD i Lb);exact sF [(72034,24008),(57024,19014),(58024,21014),(59024,22014)] []<|Fh 34 [.els (Lc wD (out++[a.2.1]))]<|Ftb 18 (Lf ((i:Int)<(roots.length:Int)))<|Fek 19 wD roots (↑i) i<|Fbr 24 [17014,18014,19014,20014,21014,22014] (@Z9r w (roots.getD i Lb) aa aa)<|Fs 33 (Lc wD [a.2.1])<|Fa (by(simp[*];omega):(Lc wD out).length+(Lc wD [a.2.1]).length<=2^30)<|Fa (ms:Lc wD out++Lc wD [a.2.1]=Lc wD (out++[a.2.1]))<|Fx 35 i Fz
theorem ZfY(e:¬ (w.fwd (roots.getD i Lb)).2.2=0):CP (Zl f77 0) (Dw w roots out i).st .ret (Tg.st ⟨tm 40 [(4,.pt 8004 0 0),(5,.d (.sl 0 [])),(6,nI (w.fwd (roots.getD i Lb)).2.2)],[(8004,.box 127 zW)],60⟩):=by exact sF [] []<|Ftb 18 (Lf ((i:Int)<(roots.length:Int)))<|Fek 19 wD roots (↑i) i<|Fbq 24 [17014,18014,19014,20014,21014,22014] (@Z7A w (roots.getD i Lb) aa aa)<|Ftb 28 ((w.fwd (roots.getD i Lb)).2.2 != 0) Fz
end
def ZhW w roots out:CP (Zl f77 0) (Dw w roots out roots.length).st (.ext 0) (Tg.st ⟨tm 40 [(4,.pt 8004 0 0),(7,.pt 17014 0 0),(8,.ow 24008)],(24008,.arr 35 1 (out.map wD))::(8004,.box 127 zW)::Nj w,5⟩):=by exact sF [] []<|Ffb 18 (Lf ((roots.length:Int)<(roots.length:Int))) Fz
def Z2e(w:Z7)(roots:List Int):Prop:=∀k,k<roots.length->(∀j,j<k->E9 w roots j=0)->FwOk (rootsN w roots k).1 (roots.getD k Lb)
section
variable(w:Z7)(roots:List Int)(hN:Z2e w roots)(hl:roots.length<=1048576)
include hN hl
theorem Za6(d:(Lm roots.length).find? (λk=>Lf (E9 w roots k≠0))=La):CP (Zk f77 0) (Tg.st ⟨tm 40 [(4,.pt 8004 0 0),(5,.d (.sl 0 [])),(6,nI 0),(7,.pt 17014 0 0),(8,.ow 24008),(15,Z2 roots),(16,nI roots.length),(17,nI 0)],(24008,.arr 35 1 [])::(8004,.box 127 zW)::Nj w,5⟩) .nrm (Tg.st ⟨tm 40 [(4,.pt 8004 0 0),(7,.pt 17014 0 0),(8,.ow 24008)],(24008,.arr 35 1 ((rootsN w roots roots.length).2.map wD))::(8004,.box 127 zW)::Nj (rootsN w roots roots.length).1,5⟩):=by
 have b:∀j,j<roots.length->E9 w roots j=0:=λj c=>by(have:=List.find?_eq_none.1 d j (Xs.2 c);simpa using this)
 exact Bp (S:=λk=>(Dw (rootsN w roots k).1 roots (rootsN w roots k).2 k).st) roots.length kr (λk a=>Z5Y _ roots _ k (hN k a λj c=>b j oq) hl (by rw[Nv];omega) a (b k a)) (ZhW _ roots _)
theorem ZgL(i:Nat)(f:(Lm roots.length).find? (λk=>Lf (E9 w roots k≠0))=M i):CP (Zk f77 0) (Tg.st ⟨tm 40 [(4,.pt 8004 0 0),(5,.d (.sl 0 [])),(6,nI 0),(7,.pt 17014 0 0),(8,.ow 24008),(15,Z2 roots),(16,nI roots.length),(17,nI 0)],(24008,.arr 35 1 [])::(8004,.box 127 zW)::Nj w,5⟩) .ret (Tg.st ⟨tm 40 [(4,.pt 8004 0 0),(5,.d (.sl 0 [])),(6,nI (E9 w roots i))],[(8004,.box 127 zW)],60⟩):=by
 obtain⟨d,a,e⟩:=List.find?_range_eq_some.1 f;have a:=Xs.1 a;have b:∀j,j<i->E9 w roots j=0:=λj c=>by simpa using e j c
 exact Ev (S:=λk=>(Dw (rootsN w roots k).1 roots (rootsN w roots k).2 k).st) i kr (λk g=>Z5Y _ roots _ k (hN k oq λj c=>b j oq) hl (by rw[Nv];omega) oq (b k g)) (ZfY _ roots _ i (hN i a b) hl (by rw[Nv];omega) a (by simpa[E9]using d))
theorem Z4f(ln:R4 w):GP 77 [w.av,Z2 roots] O (.tu [(rootsF w roots).1.av,Z2 (rootsF w roots).2.1,nI (rootsF w roots).2.2]) []:=by
 cases hb:(Lm roots.length).find? (λk=>Lf (E9 w roots k≠0))with
 |none =>
  have e7:rootsF w roots=((rootsN w roots roots.length).1,(rootsN w roots roots.length).2,0):=by unfold rootsF;rw[hb]
  rw[e7];let y0:=rootsN w roots roots.length;exact gF [] func77 []<|Fh 8 [.own]<|Fbr 14 [] (@Oj w aa)<|Fl 16 wD roots<|Fu (@Za6 w roots aa aa aa)<|Fa (H7 _:Cd (Lc wD y0.1.j.W))<|Fa (IL _:Cd (Lc Z0.dv y0.1.j.P))<|Fa (H7 _:Cd (Lc wD y0.1.old))<|Fa (AN _:Cd (Lc iD y0.1.T))<|Fa (H7 _:Cd (Lc wD y0.1.Q))<|Fa (H7 _:Cd (Lc wD y0.2)) Fz
 |some i =>
  have e7:rootsF w roots=(EF,[],E9 w roots i):=by unfold rootsF;rw[hb]
  rw[e7];exact gF [] func77 []<|Fh 8 [.own]<|Fbr 14 [] (@Oj w aa)<|Fl 16 wD roots<|Fu (@ZgL w roots aa aa i aa)<|Fnl (Fnl (Fnl (Fnl (Fnl (Fnl Fz)))))
end
end Go.Proofs.YtgedmeaemofdkaaGreat
