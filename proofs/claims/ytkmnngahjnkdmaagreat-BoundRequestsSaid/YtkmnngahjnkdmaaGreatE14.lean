/-
 The statement BoundRequests: part 14.
 Conditions: none.
-/
import Derived.RangeFuncFrom
import Derived.RangeFuncLeaves
import Derived.Test.YtkmnngahjnkdmaaGreatE13
set_option maxRecDepth 100000
set_option maxHeartbeats 2000000
set_option linter.all false
open Option renaming some->M,none->Ld
open Bool renaming true->O,false->Lb,and_eq_true->LO,eq_false_or_eq_true->LW
open Inhabited renaming default->La
open List renaming map->Lc,replicate->Lg,take->Lj,mem_cons->Ln,mem_of_getElem?->Lo,range->Lp,not_mem_nil->Lq,length_map->Ls,mem_replicate->Lt,getD_eq_getElem?_getD->Ly,all_eq_true->LI,getElem?_append->LL,drop->LR,map_append->LS,map_take->LU,append_nil->L0,getElem?_eq_some_iff->L1,map_drop->L2,map_nil->L3,map_set->L4,mem_map->L5,filter_append->Xe,filter_eq_self->Xf,getElem?_eq_getElem->Xg,getElem?_of_mem->Xh,length_replicate->Xi,map_cons->Xj,mem_append->Xk,mem_iff_getElem?->Xl,take_succ->Xm
open Decidable renaming decide->Le
open Go.Fence renaming wide->Lf
open Go.Exit renaming inBlock->Lh
open Go.World renaming putObj_heap_other->Li,putObj_heap_same->Lu,putObj_size->Lv,alloc_heap_new->L8,cell?->Xs,setRow->Xt
open Int renaming toNat->Lk,fdiv_eq_ediv_of_nonneg->LY,toNat_natCast->LZ
open Array renaming getElem?_eq_some_iff->Ll,getElem?_append->LC,replicate->LD,size_setIfInBounds->LN,ext->L9,getElem?_eq_getElem->Xa
open Go.Obj renaming loop->Lm
open Nat renaming le_refl->Lr,lt_of_lt_of_le->LV,beq->L6,add_zero->Xn,le_trans->Xo,mul_le_mul_right->Xp,zero_mul->Xq
open Go.RowKit.Below renaming heap_alloc->Lw
open Go.IntKind renaming u32->Lx,u64->LH,i64->Xd
open Go.Oper renaming wp->Lz,upon_enter->L7
open Option.some renaming injEq->LA
open Go.Value renaming int->LB,slice->Xr
open Go.Code renaming region->LF,seq->LQ,exit->Xb,ret->Xc
open Go.Deferred renaming ofValue->LG
open Go.Region renaming wanted->LM
open Go.Proofs.Tryz
namespace Go.Sx
open Go.RowKit
theorem Zc8{P clk ops hints o t}{H:Heap}{x:Out}(h:AC P clk ops hints o t H=M x):∀c,o.op≠.defer c:=by intro c hc;unfold AC Ng NA act at h;grind
def fen(ro:Option Nat):Fence:={Lf with round:=ro}
theorem IF{P ro n}{o:Oper}{a w next Q}(hd:∀c,o.op≠.defer c)(h:o.wp P a w next Q):o.wpIn (fen ro) n P a w next Q:=by
 refine⟨λ_ _=>trivial, ?_⟩;rw[Oper.semAt_eq _ _ _ hd];unfold Lz at h;generalize (execOp a.eval o).run P w=r at h⊢;cases r with
 |ok x g =>
  cases x with|value v=>exact h|skip=>exact h|defer d=>exact h|enter f args=>exact⟨λh=>(by cases h),callsIn_wide.2 h⟩|row s args=>exact⟨λh=>(by cases h),λc b _=>let ⟨v,w2,q,r⟩:=h c b;⟨v,w2,q,stepsIn_wide.2 r⟩⟩|_=>exact h.elim
 |halt e g =>
  cases e with|panic v=>exact h|_=>exact h.elim
def Dm{P Ow Im0 w0 clk hints ops Q ro n l2}:∀{l:List Nat} {tmps:List AV} {H:Heap} {a:Act} {w:World} {out:Out},
  Rw P clk ops hints l tmps H=M out->Sys Ow Im0 w0 tmps H clk a w->B9 out.ph->EJ out.eq->(∀b w',Sys Ow Im0 w0 out.tmps out.H clk b w'->wpOpsIn (fen ro) n P ops Q l2 b w')->wpOpsIn (fen ro) n P ops Q (l++l2) a w
 |[],tmps,H,a,w,out,h,hS,_,_,hQ=>by
  grind[Rw]
 |i::l,tmps,H,a,w,out,h,hS,hph,heq,hQ=>by
  simp only[Rw]at h;split at h
  .cases h
  rename_i o e;split at h
  .cases h
  rename_i x g;split at h
  .cases h
  rename_i y j;cases h;obtain⟨k,p2⟩:=Hk.1 hph;have d:=Z2Z (next:=wpOpsIn (fen ro) n P ops Q (l++l2)) (Q:=Q) g hS k heq.left λb w' c=>Dm j c p2 heq.right hQ;simp only[List.cons_append,wpOpsIn,e];split
  .grind[IF,Zc8]
  .rename_i f;exact⟨λ_ _=>trivial,d.2 ((Bool.not_eq_true _).mp f)⟩
def P6{P Ow Im0 w0 clk hints ops}{Q:Exit->Act->World->Prop}{ro n l tmps}{H:Heap}{a w}{out:Out}(h:Rw P clk ops hints l tmps H=M out)(f:Sys Ow Im0 w0 tmps H clk a w)(c:B9 out.ph)(b:EJ out.eq)(e:∀d w',Sys Ow Im0 w0 out.tmps out.H clk d w'->Q .normal d w'):wpOpsIn (fen ro) n P ops Q l a w:=by have:=Dm (ro:=ro) (n:=n) (Q:=Q) (l2:=[]) h f c b e;grind
def RP:Code->Bool|.skip=>O|.region _ _ d=>!d|.seq x y=>RP x&&RP y|.cond _ x y=>RP x&&RP y|.block _ c=>RP c|.exit _=>O|.ret=>O|_=>Lb
def CIn(P:Program)(c:Code)(s:St)(e:Ex)(t:St):Prop:=
 ∀(i:Option Nat) (n:Nat) (d:Own) (b:Nat->Prop) (f:World) (a:Act) (w:World),Sys d b f s.tmps s.H s.clk a w->c.wpIn (fen i) n P (λh g j=>h=e.exit/\Sys d b f t.tmps t.H t.clk g j) a w
def Zj4{P:Program}{hints:List (Nat×List Hint)}:∀{c:Code} {s:St} {r:ZL},RP c=O->Cp P hints [] c s=M r->B9 r.ph->EJ r.eq->CIn P c s r.e r.s:=by
 intro c;induction c with
 |skip=>intro s r _ h _ _ p n o d t a w i;simp only[Cp,LA]at h;subst h;exact wpIn_skip ⟨rfl,i⟩
 |region m a3 dr =>
  intro s r l h g f p n o d t a w i;cases dr with
  |true=>cases l
  |false =>
   simp only[Cp]at h;split at h;rotate_left
   .cases h
   rename_i x hx;cases h;exact wpIn_region (P6 hx i g f λa' w' j=>⟨rfl,j.clk pq⟩)
 |seq x y u z =>
  intro s r l h g f p n o d t a w i;simp only[RP,LO]at l;simp only[Cp]at h;split at h
  .cases h
  rename_i q v;split at h
  .rename_i he;split at h;rotate_left
   .cases h
   rename_i q2 a1;cases h;obtain⟨p1,p2⟩:=Hk.1 g;refine wpIn_seq (wpIn_mono (u l.1 v p1 f.left p n o d t a w i) ?_);rintro e a' w' ⟨rfl,j⟩;rw[he];exact z l.2 a1 p2 f.right p n o d t a' w' j
  .rename_i he;cases h;refine wpIn_seq (wpIn_mono (u l.1 v g f p n o d t a w i) ?_);rintro e a' w' ⟨rfl,j⟩;cases hqe:q.e with
   |nrm=>grind
   |ext n=>exact⟨rfl,j⟩
   |ret=>exact⟨rfl,j⟩
 |cond c x y u z =>
  intro s r l h g f p n o d t a w i;simp only[RP,LO]at l;simp only[Cp]at h;split at h
  .cases h
  rename_i b hb;have hv:a.eval c=.bool b:=by
   obtain⟨ρ,Im,I,T⟩:=i;have:=Ed T c;rw[Z0B hb]at this;exact BV this
  split at h
  .split at h;rotate_left
   .cases h
   rename_i q v;cases h;obtain⟨p1,p2⟩:=Ha.1 g;exact wpIn_cond_true (by rw[hv,p1]) (u l.1 v p2 f p n o d t a w i)
  .split at h;rotate_left
   .cases h
   rename_i q v;cases h;obtain⟨p1,p2⟩:=Ha.1 g;exact wpIn_cond_false (by rw[hv,p1]) (z l.2 v p2 f p n o d t a w i)
  .split at h
   .exact wpIn_cond_true hv (u l.1 h g f p n o d t a w i)
   .exact wpIn_cond_false hv (z l.2 h g f p n o d t a w i)
 |block m c ih =>
  intro s r l h g f p n o d t a w i;simp only[Cp,Mn]at h;split at h
  .cases h
  rename_i q v;refine wpIn_block ?_;split at h
  .rename_i k hm;split at h
   .rename_i a0;cases h;refine wpIn_mono (ih l v g f p n o d t a w i) ?_;grind[Ex.exit,Lh]
   .rename_i a0;cases h;refine wpIn_mono (ih l v g f p n o d t a w i) ?_;grind[Ex.exit,Lh]
  .rename_i a2;cases h;refine wpIn_mono (ih l v g f p n o d t a w i) ?_;rintro e a' w' ⟨rfl,j⟩;cases hqe:r.e with
   |nrm=>exact⟨rfl,j⟩
   |ext k=>grind
   |ret=>exact⟨rfl,j⟩
 |exit n=>intro s r _ h _ _ p n o d t a w i;simp only[Cp,LA]at h;subst h;exact wpIn_exit ⟨rfl,i⟩
 |ret=>intro s r _ h _ _ p n o d t a w i;simp only[Cp,LA]at h;subst h;exact wpIn_ret ⟨rfl,i⟩
 |_=>intro s r l;cases l
def Z1F{P}(hints:List (Nat×List Hint)) b fl{c s}{e:Ex}{t}{φ:Prop}(j:φ)(o:Rp fl (EE P hints [] b c s t)=φ)(p:N1 fl (EE P hints [] b c s t)=Nb fl (EE P hints [] b c s t))(u:exO (EE P hints [] b c s t)=M e)(h:RP c=O):CIn P c s e t.st:=by
 rw[<-o]at j;obtain⟨k1,k⟩:=TK j p;cases hr:EE P hints [] b c s t with
 |none=>rw[hr]at k1;exact k1.elim
 |some r =>
  rw[hr]at k1 k u;have d:EJ r.eq:=Au k;have x:r.e=e:=by grind[exO]
  unfold EE at hr;split at hr;cases hr;rename_i q z;split at hr;cases hr;rename_i s' i;split at hr;rotate_left;cases hr;rename_i l y;cases hr;intro ro n m f w0 a w v;refine wpIn_mono (Zj4 h z k1 d.left ro n m f w0 a w v) ?_;rintro e' a' w' ⟨rfl,g⟩;exact⟨by rw[<-x],DC y d.right (O8 i g)⟩
def Ir(k:Nat):Code->Bool
 |.region n _ _=>L6 n k
 |.seq x y=>Ir k x||Ir k y
 |.cond _ x y=>Ir k x||Ir k y
 |.block _ c=>Ir k c
 |.loop c=>Ir k c
 |_=>Lb
def cutAt(k:Nat):Code->Code|.region _ _ _=>.exit 99999|.seq x y=>(match Ir k x with|true=>cutAt k x|false=>.seq x (cutAt k y))|.cond c x y=>(match Ir k x with|true=>.cond c (cutAt k x) .skip|false=>.cond c .skip (cutAt k y))|.block n c=>.block n (cutAt k c)|c=>c
def noX:Code->Bool|.seq x y=>noX x&&noX y|.cond _ x y=>noX x&&noX y|.block _ c=>noX c|.exit n=>!Nat.beq n 99999|_=>O
def okH(k:Nat):Code->Bool|.region n _ _=>L6 n k|.seq x y=>(match Ir k x with|true=>okH k x|false=>noX x&&okH k y)|.cond _ x y=>(match Ir k x with|true=>okH k x|false=>okH k y)|.block n c=>!Nat.beq n 99999&&okH k c|_=>Lb
def rest(P:Program)(n k:Nat):Code->(Exit->Act->World->Prop)->Act->World->Prop|.seq x y,Q=>(match Ir k x with|true=>rest P n k x (Exit.then (y.wpIn Lf n P Q) Q)|false=>rest P n k y Q)|.cond _ x y,Q=>(match Ir k x with|true=>rest P n k x Q|false=>rest P n k y Q)|.block m c,Q=>rest P n k c (Lh m Q)|c,Q=>c.wpIn Lf n P Q
theorem ZgH{P hints}:∀{c:Code} {s:St} {r:ZL},noX c=O->Cp P hints [] c s=M r->r.e≠.ext 99999:=by
 intro c;induction c with|region m i dr =>intro s r _ h;simp only[Cp]at h;grind|seq x y b d =>grind[noX,Cp]|cond c x y b d =>grind[noX,Cp]|block m c g =>intro s r a h;simp only[Cp,Mn]at h;split at h;cases h;rename_i q f;have:=g a f;grind|exit n =>intro s r a h;simp only[Cp,LA]at h;subst h;intro e;cases e;cases a|skip=>grind[Cp]|label n=>grind[Cp]|ret=>grind[Cp]|_=>grind[Cp]
def ZiO{P:Program}{hints:List (Nat×List Hint)}{k n:Nat}:∀{c:Code} {s:St} {r:ZL},okH k c=O->Cp P hints [] (cutAt k c) s=M r->B9 r.ph->EJ r.eq->r.e=.ext 99999 ->
  ∀(Q:Exit->Act->World->Prop) (Ow:Own) (Im0:Nat->Prop) (w0:World) (a:Act) (w:World),Sys Ow Im0 w0 s.tmps s.H s.clk a w->(∀o w',Sys Ow Im0 w0 r.s.tmps r.s.H r.s.clk o w'->rest P n k c Q o w')->c.wpIn Lf n P Q a w:=by
 intro c;induction c with
 |region m a0 dr =>
  intro s r _ h _ _ _ Q Ow Im0 w0 a w j f;simp only[cutAt,Cp,LA]at h;subst h;exact f a w j
 |seq x y z l =>
  intro s r d h i g t Q Ow Im0 w0 a w j f;simp only[okH]at d;simp only[cutAt]at h;simp only[rest]at f;cases hx:Ir k x with
  |true =>
   rw[hx]at d h f;grind[wpIn_seq]
  |false =>
   rw[hx]at d h f;simp only[LO]at d;simp only[Cp]at h;split at h
   .cases h
   rename_i q hq;split at h
   .rename_i v;split at h;rotate_left
    .cases h
    rename_i q2 u;cases h;obtain⟨p1,p2⟩:=Hk.1 i;refine wpIn_seq (wpIn_mono (wpIn_wide.2 (MH hq p1 g.left Ow Im0 w0 a w j)) ?_);rintro e o w' ⟨rfl,p⟩;rw[v];exact l d.2 u p2 g.right t Q Ow Im0 w0 o w' p f
   grind[ZgH]
 |cond c x y z l =>
  intro s r d h i g t Q Ow Im0 w0 a w j f;simp only[okH]at d;simp only[cutAt]at h;simp only[rest]at f;have hv:∀{b:Bool},asB (ev s.tmps c)=M b->a.eval c=.bool b:=λhb=>by
   obtain⟨ρ,Im,I,T⟩:=j;have:=Ed T c;rw[Z0B hb]at this;exact BV this
  cases hx:Ir k x with
  |true =>
   rw[hx]at d h f;grind[Cp,Ha,wpIn_cond_true]
  |false =>
   rw[hx]at d h f;grind[Cp,Ha,wpIn_cond_false]
 |block m c ih =>
  intro s r d h i g t Q Ow Im0 w0 a w j f;simp only[okH,LO]at d;simp only[cutAt,Cp,Mn]at h;simp only[rest]at f;grind[wpIn_block]
 |_=>intro s r d;cases d
def Sq(P:Program)(k:Nat)(c:Code)(s t:St):Prop:=
 ∀(n:Nat) (Q:Exit->Act->World->Prop) (d:Own) (b:Nat->Prop) (g:World) (a:Act) (w:World),Sys d b g s.tmps s.H s.clk a w->(∀e f,Sys d b g t.tmps t.H t.clk e f->rest P n k c Q e f)->c.wpIn Lf n P Q a w
def Av{P}(hints:List (Nat×List Hint)) b fl{k c s t}{φ:Prop}(j:φ)(u:Rp fl (EE P hints [] b (cutAt k c) s t)=φ)(v:N1 fl (EE P hints [] b (cutAt k c) s t)=Nb fl (EE P hints [] b (cutAt k c) s t))(x:exO (EE P hints [] b (cutAt k c) s t)=M (.ext 99999))(g:okH k c=O):Sq P k c s t.st:=by
 rw[<-u]at j;obtain⟨k1,m⟩:=TK j v;cases hr:EE P hints [] b (cutAt k c) s t with
 |none=>rw[hr]at k1;exact k1.elim
 |some r =>
  rw[hr]at k1 m x;have d:EJ r.eq:=Au m;have z:r.e=.ext 99999:=by grind[exO]
  unfold EE at hr;split at hr;cases hr;rename_i q hq;split at hr;cases hr;rename_i s' i;split at hr;rotate_left;cases hr;rename_i l hl;cases hr;intro n Q o e w0 a w y h;exact ZiO g hq k1 d.left z Q o e w0 a w y λp w' f=>h p w' (DC hl d.right (O8 i f))
def Sv(k:Nat):Code->Option (Array Oper)|.region n ops _=>(match L6 n k with|true=>M ops|false=>Ld)|.seq x y=>(match Sv k x with|some o=>M o|none=>Sv k y)|.cond _ x y=>(match Sv k x with|some o=>M o|none=>Sv k y)|.block _ c=>Sv k c|.loop c=>Sv k c|_=>Ld
def Bq(fn:Func)(k:Nat):Array Oper:=match fn.body with|some c=>(match Sv k c with|some o=>o|none => #[])|none => #[]
def Pw{s t}(h1:(wk s t).isSome=O)(h2:((wk s t).getD []).map (·.1)=((wk s t).getD []).map (·.2)){Ow Im0 w0 a w}(S:Sys Ow Im0 w0 s.tmps s.H s.clk a w):Sys Ow Im0 w0 t.st.tmps t.st.H t.st.clk a w:=by grind[wk,DC,Au]
def TG{ρ:ZM}{w}{Im a:Nat->Prop}{k t:Nat}{e:List DV}{v}{β:Bi}(p:ρ k=M β)(r:RelB ρ w Im β (.box t (e.map .d)))(o:Zk ρ w Im (.pt k 0 0) v)(m:∀g,Im g->a g)(l:∀g,β.g=M g->a g):Zk (λ_=>Ld) w a (.rp e 0) v:=by
 obtain⟨g,s,n,k1,rfl⟩:=RL o rfl;rw[p]at k1;cases k1;obtain⟨r1,r2,g2,b,r3,r4,r5,r6,q⟩:=r;cases r3;have:=@Zk.rp (λ_=>Ld) w a e 0 ⟨g,0,Ld⟩ rfl (l _ rfl) (λj y f=>by
  have hj:j<e.length:=(L1.1 f).1;have i:j<b.size:=by grind
  have h:b[j]?=M b[j]:=Xa i;have c:=q j (.d y) b[j] (by simp[f]) h;refine⟨b[j], ?_, ?_⟩;grind[Xs];cases c with
  |d c=>exact c.mono (Ext.refl _ _) m)
 grind
def Kept.no{w0 w}(h:Kept (OwA EU) w0 w):Kept (λ_=>False) w0 w:=h.imp λ_ q=>q.no
def Inv.empty{w:World}{Im:Nat->Prop}{clk:Nat}(a:∀g,Im g->g<w.heap.size)(c:1<=clk):Inv EU Im w (λ_=>Ld) w Im (Bv []) clk:=by refine⟨Kept.refl _ _, ?_, ?_, ?_, ?_,a,λ_ h=>.inl h, ?_,λ_ _ _=>rfl,c,λb β _ h=>nomatch h⟩;grind;grind;grind;grind;intro b B h;cases h
def Ct.reSet{D ρ w Im tmps a}(T:Ct D ρ w Im tmps a)(t:Nat) y(h:∀v,a.tmps[t]?=M v->Zk ρ w Im y v):Ct D ρ w Im (tmps.set t y) a:=by refine⟨by simp[T.size],λi x v b c=>?_,T.defers⟩;rw[List.getElem?_set]at b;by_cases d:t=i;grind;simp only[d,if_false]at b;exact T.tmp i x v b c
def Ct.pure{D ρ w Im tmps a}(T:Ct D ρ w Im tmps a)(h:tmps.all (Te [])=O):Ct D (λ_=>Ld) w Im tmps a:=
 ⟨T.size,λi x v c d=>Z6r (ids:=[]) (λb e=>by simp at e) (T.tmp i x v c d) (LI.1 h _ (Lo c)),T.defers⟩
def Z4o{P}{n l:Nat}{o:Oper}{f x y:Operand}{p:Array Nat}{a:Act}{w}{next:Act->World->Prop}{Q}{args:Array Value}{R}(k:o.op=.call ⟨.value f,#[x,y],p⟩)(j:a.eval f=.func (.yield l) #[] #[])(m: #[a.eval x,a.eval y]=args)(i:YieldAt Lf n P l args w R)(hn:∀e w',R e w'->∃v,e=.returned v/\next (a.put o.dst v) w'):o.wpIn Lf (n+1) P a w next Q:=by
 obtain⟨fn,t,s,b,d,g⟩:=i;refine⟨λ_ _=>trivial, ?_⟩;have c:(o.semAt Lf.round a.eval).run P w=.ok (.round l fn t s b) w:=by(rw[show Lf.round=Ld from rfl,Oper.semAt_none];simp[execOp,k,resolve,j,LG,invoke,m,d])
 rw[c,Oper.uponIn_round];refine⟨λh=>(by cases h),g.mono ?_⟩;grind
end Go.Sx
namespace Go.Proofs.YtkmnngahjnkdmaaGreat
open Go.Sx
def RV(h:Zo)(hm:0<=h.map/\h.map<=4294967295):GP 104 [h.av] O (bL (ZV h)) []:=by
 have hs:=λq=>Z6S (n:=h.length) q;have ho:0<=h.length->h.length<=32->ones h.length=2^h.length.toNat-1:=λh0 h1=>by rw[ones,Nat.min_eq_left oq]
 rcases LW (Le (h.K<(0:Int))||Le ((3:Int)<h.K)||Le (h.length<(0:Int))||Le ((255:Int)<h.length))with hc0|hc0;have a:=hc0;simp only[bs]at a;refine Zb [((20:Nat),[Hint.br O])] [] [] dd func104 [Lb,Lb,Lb,Lb,Lb,Lb,Lb,Lb,Lb,O] (φ:=(Le (h.K<(0:Int))||Le ((3:Int)<h.K)||Le (h.length<(0:Int))||Le ((255:Int)<h.length))=O/\O=O/\Lb=ZV h) ?_ kr kr;exact⟨aa,rfl,(by(simp[ZV, *];omega))⟩;have a:=hc0;simp only[bs]at a;obtain⟨⟨⟨c,d⟩,e⟩,f⟩:=a;rcases LW (h.K==(1:Int))with hc1|hc1;have b:=hc1;simp only[bs]at b;refine Zb [((20:Nat),[Hint.br Lb]),((23:Nat),[Hint.br O]),((30:Nat),[Hint.int h.map]),((33:Nat),[Hint.call O (uU (ones h.length)) []])] [] [] dd func104 [Lb,Lb,Lb,Lb,Lb,Lb,Lb,Lb,Lb,Lb,Lb,Lb,Lb,Lb,Lb,Lb,O] (φ:=(Le (h.K<(0:Int))||Le ((3:Int)<h.K)||Le (h.length<(0:Int))||Le ((255:Int)<h.length))=Lb/\Lb=Lb/\(h.K==(1:Int))=O/\O=O/\(Le (h.length<=(32:Int))=O->LH.wrap h.map=h.map)/\(Le (h.length<=(32:Int))=O->GP 162 [nI h.length] O (uU (ones h.length)) [])/\(Le (h.length<=(32:Int))&&Le (h.map<=ones h.length))=ZV h) ?_ kr kr;exact⟨aa,rfl,aa,rfl,(by intro g;(try simp only[bs]at g);exact BE rfl oq oq),(λg=>by(try simp only[bs]at g);exact@RU (h.length)),(by grind[ZV])⟩;have b:=hc1;simp only[bs]at b;refine Zb [((20:Nat),[Hint.br Lb]),((23:Nat),[Hint.br Lb])] [] [] dd func104 [Lb,Lb,Lb,Lb,Lb,Lb,Lb,Lb,Lb,O] (φ:=(Le (h.K<(0:Int))||Le ((3:Int)<h.K)||Le (h.length<(0:Int))||Le ((255:Int)<h.length))=Lb/\Lb=Lb/\(h.K==(1:Int))=Lb/\Lb=Lb/\(h.K==h.K&&(h.length==h.length&&h.map==(0:Int)))=ZV h) ?_ kr kr;exact⟨aa,rfl,aa,rfl,(by grind[ZV])⟩
def CK(h:Zo)(hm:0<=h.map/\h.map<=4294967295):GP 48 [h.av] O (nI (Z1 h)) []:=by rcases LW (!ZV h)with hc0|hc0;have a:=hc0;simp only[bs]at a;refine Zb [((4:Nat),[Hint.call O (bL (ZV h)) []]),((5:Nat),[Hint.br O])] [] [] dd func48 [O] (φ:=GP 104 [h.av] O (bL (ZV h)) []/\(!ZV h)=O/\O=O/\(0:Int)=Z1 h) ?_ kr kr;exact⟨(@RV (h) aa),aa,rfl,(by simp[Z1, *])⟩;have a:=hc0;simp only[bs]at a;have e:=GC.1 a;obtain⟨g,⟨f,⟨d,⟨b,c⟩⟩⟩⟩:=e;refine Zb [((4:Nat),[Hint.call O (bL (ZV h)) []]),((5:Nat),[Hint.br Lb]),((8:Nat),[Hint.int (h.length+(1:Int))])] [] [] dd func48 [O] (φ:=GP 104 [h.av] O (bL (ZV h)) []/\(!ZV h)=Lb/\Lb=Lb/\Xd.wrap (h.length+(1:Int))=h.length+(1:Int)/\h.length+(1:Int)=Z1 h) ?_ kr kr;exact⟨(@RV (h) aa),aa,rfl,(by exact Zf rfl oq oq),(by simp[Z1, *])⟩
def TE(ws:List Int)(a n:Int)(hw:ws.length<=1048576)(h0:0<=a/\a<=18446744073709551615):GP 176 [Z2 ws,uU a,nI n] O (.tu [nI (Zw ws a n).1,bL (Zw ws a n).2]) []:=by have e {h_ c_ p_} (f:Fq h_ c_ p_):=FvG 13 (!decide (a<4096)) (a-4096)<|FlG 15 (!decide (a<4096)) wD ws<|FvG 16 (!decide (a<4096)) (↑ws.length) f;rcases bb (Le (a<4096)||Le ((ws.length:Int)<a-4096))with hc0|hc0<;>have b:=hc0<;>simp only[bs]at b;rw[show Zw ws a n=((0:Int),Lb)from by(simp[Zw, *];omega)];exact gF [] func176 [] (e (Ft 18 hc0 Fz));obtain⟨c,d⟩:=b;rw[show Zw ws a n=(a-(4096:Int),Le (n<=(ws.length:Int)-(a-(4096:Int))))from by(simp[Zw, *];omega)];exact gF [] func176 [] (e (Ff 18 hc0<|Fv 20 (a-4096)<|Fi 21 (a-4096)<|Fl 25 wD ws<|Fi 27 ((ws.length:Int)-(a-4096)) Fz))
def Z9J(ws:List Int)(a:Int)(hw:ws.length<=1048576)(h0:0<=a/\a<=18446744073709551615):GP 201 [Z2 ws,uU a] O (.tu [nI (Cg ws a).1,nI (Cg ws a).2]) []:=by have c {h_ c_ p_} (d:Fq h_ c_ p_):=Fc 11 (@TE ws a (1) aa aa) d;rcases bb (!(Zw ws a 1).2)with hc0|hc0<;>have b:=hc0<;>simp only[bs]at b;rw[show Cg ws a=((0:Int),(2:Int))from by grind[Zw,Cg]];exact gF [] func201 [] (c (Ft 15 hc0 Fz));rw[show Cg ws a=((Zw ws a (1:Int)).1,(0:Int))from by grind[Zw,Cg]];exact gF [] func201 [] (c (Ff 15 hc0 Fz))
def Pu(ws:List Int)(a:Int)(hw:ws.length<=1048576)(h0:0<=a/\a<=18446744073709551615):GP 159 [Z2 ws,uU a] O (.tu [uU (Z5 ws a).1,nI (Z5 ws a).2]) []:=by rcases bb ((Cg ws a).2 != 0)with hc0|hc0<;>have b:=hc0<;>simp only[bs]at b;have c:=Z8k b;obtain⟨g,h⟩:=c;rw[show Z5 ws a=((0:Int),(Cg ws a).2)from by simp[Z5, *]];exact gF [] func159 []<|Fc 11 (@Z9J ws a aa aa)<|Ft 15 hc0 Fz;have d:=Z6q b;obtain⟨i,⟨e,f⟩⟩:=d;rw[show Z5 ws a=(ws.getD (Cg ws a).1.toNat La,(0:Int))from by simp[Z5, *]];refine Zb [((11:Nat),[Hint.call O (AV.tu [nI (Cg ws a).1,nI (Cg ws a).2]) []]),((15:Nat),[Hint.br Lb]),((19:Nat),[Hint.el (wD (ws.getD (Cg ws a).1.toNat La))])] [] [] dd func159 [] (φ:=GP 201 [Z2 ws,uU a] O (AV.tu [nI (Cg ws a).1,nI (Cg ws a).2]) []/\((Cg ws a).2 != (0:Int))=Lb/\Lb=Lb/\(0:Int)<=(Cg ws a).1/\(Lc wD ws)[(Cg ws a).1.toNat]?=M (wD (ws.getD (Cg ws a).1.toNat La))) ?_ kr kr;exact⟨(@Z9J (ws) (a) aa aa),aa,rfl,(by exact Zp oq oq oq)⟩
def BK(w:Int):Nat->Int|0=>w|1=>w/4|2=>w/16|3=>w/65536|_=>w/281474976710656
def ZX(w:Int):List Int:=[w%4,w/4%4,w/16%4096,w/65536%4294967296]
def Pd(w:Int)(i:Nat):Tg:=⟨tm 49 [(0,uU w),(1,ZG [2,2,12,32]),(4,.d (.sl 0 [])),(5,nI 0),(6,nI ([64,62,60,48,16].getD i 0)),(12,ZG [2,2,12,32]),(13,nI 4),(14,nI i)],[],20⟩
def Zku w(i:Nat)(hi:i<4):CP (Zn f202 0) (Pd w i).st .nrm (Pd w (i+1)).st:=by
 have h:i=0\/i=1\/i=2\/i=3:=by omega
 rcases h with rfl|rfl|rfl|rfl;refine Zi [((16:Nat),[Hint.el (iD (2:Int))])] [] [] [] (φ:=(0:Int)<=(↑(0:Nat):Int)/\(Lc iD [(2:Int),(2:Int),(12:Int),(32:Int)])[(↑(0:Nat):Int).toNat]?=M (iD (2:Int))) ?_ kr kr kr;exact(by simp[*]);refine Zi [((16:Nat),[Hint.el (iD (2:Int))])] [] [] [] (φ:=(0:Int)<=(↑(1:Nat):Int)/\(Lc iD [(2:Int),(2:Int),(12:Int),(32:Int)])[(↑(1:Nat):Int).toNat]?=M (iD (2:Int))) ?_ kr kr kr;exact(by simp[*]);refine Zi [((16:Nat),[Hint.el (iD (12:Int))])] [] [] [] (φ:=(0:Int)<=(↑(2:Nat):Int)/\(Lc iD [(2:Int),(2:Int),(12:Int),(32:Int)])[(↑(2:Nat):Int).toNat]?=M (iD (12:Int))) ?_ kr kr kr;exact(by simp[*]);refine Zi [((16:Nat),[Hint.el (iD (32:Int))])] [] [] [] (φ:=(0:Int)<=(↑(3:Nat):Int)/\(Lc iD [(2:Int),(2:Int),(12:Int),(32:Int)])[(↑(3:Nat):Int).toNat]?=M (iD (32:Int))) ?_ kr kr kr;exact(by simp[*])
def Zf3 w:CP (Zn f202 0) (Pd w 4).st (.ext 0) (Tg.st ⟨tm 49 [(0,uU w),(1,ZG [2,2,12,32]),(4,.d (.sl 0 [])),(5,nI 0)],[],60⟩):=by exact sF [] [] Fz
def Z7G(w:Int)  := Bs (S:=λi=>(Pd w i).st) 4 (by kernel_rfl) (λi a=>Zku w i a) (Zf3 w)
def OE(w:Int)(i:Nat):Tg:=⟨tm 49 [(0,uU (BK w i)),(4,.d (.sl 0 [])),(5,nI 0),(9,.ow 480009),(29,ZG [2,2,12,32]),(30,nI 4),(31,nI i)],[(480009,.arr 44 1 (((ZX w).take i).map wD))],60⟩
def Zkt(w:Int)(i:Nat)(h0:0<=w)(h1:w<=18446744073709551615)(hi:i<4):CP (Zn f202 2) (OE w i).st .nrm (OE w (i+1)).st:=by
 have o1:ones 2=3:=by decide
 have o2:ones 12=4095:=by decide
 have o3:ones 32=4294967295:=by decide
 have a0:bits .and .u64 w (ones 2)=w%4:=by rw[o1];exact NR 2 dd dd oq oq
 have a1:bits .and .u64 (w/4) (ones 2)=w/4%4:=by rw[o1];exact NR 2 dd dd oq oq
 have a2:bits .and .u64 (w/16) (ones 12)=w/16%4096:=by rw[o2];exact NR 12 dd dd oq oq
 have a3:bits .and .u64 (w/65536) (ones 32)=w/65536%4294967296:=by rw[o3];exact NR 32 dd dd oq oq
 have f1:(w/4).fdiv 4=w/16:=by rw[LY _ dd];omega
 have f2:(w/16).fdiv 4096=w/65536:=by rw[LY _ dd];omega
 have f3:(w/65536).fdiv 4294967296=w/281474976710656:=by rw[LY _ dd];omega
 have h:i=0\/i=1\/i=2\/i=3:=by omega
 rcases h with rfl|rfl|rfl|rfl;exact sF [(496041,480009)] []<|Fh 33 [.el (iD 2)]<|Fa (by simp[BK,ZX, *]:0<=(↑(0:Nat):Int)/\(Lc iD [2,2,12,32])[(↑(0:Nat):Int).toNat]?=M (iD 2))<|Fc 38 (@RU (2))<|Fg 39 (by assumption:bits BinOp.and LH (BK w 0) (ones (2:Int))=BK w 0%4)<|Fs 40 (Lc wD [BK w 0%4])<|Fa (by simp[BK,ZX, *]:(Lc wD (Lj 0 (ZX w))).length+(Lc wD [BK w 0%4]).length<=2^30)<|Fs 41 (Lc wD [BK w 0%4])<|Fg 44 (HE rfl dd:(BK w 0).fdiv (2^min (Lk 2) 64)=BK w 0/4)<|Fo ((0:Int)<=2) Fz;exact sF [(496041,480009)] [O]<|Fh 33 [.el (iD 2)]<|Fa (by simp[BK,ZX, *]:0<=(↑(1:Nat):Int)/\(Lc iD [2,2,12,32])[(↑(1:Nat):Int).toNat]?=M (iD 2))<|Fc 38 (@RU (2))<|Fg 39 (by assumption:bits BinOp.and LH (BK w 1) (ones (2:Int))=BK w 1%4)<|Fs 40 (Lc wD [BK w 1%4])<|Fa (by simp[BK,ZX, *]:(Lc wD (Lj 1 (ZX w))).length+(Lc wD [BK w 1%4]).length<=2^30)<|Fs 41 (Lc wD [w%4,BK w 1%4])<|Fg 44 (HE rfl dd:(BK w 1).fdiv (2^min (Lk 2) 64)=BK w 1/4)<|Fo ((0:Int)<=2)<|Fa (by(simp[BK,ZX, *];omega):BK w 1/4=BK w (1+1)) Fz;exact sF [(496041,480009)] [O]<|Fh 33 [.el (iD 12)]<|Fa (by simp[BK,ZX, *]:0<=(↑(2:Nat):Int)/\(Lc iD [2,2,12,32])[(↑(2:Nat):Int).toNat]?=M (iD 12))<|Fc 38 (@RU (12))<|Fg 39 (by assumption:bits BinOp.and LH (BK w 2) (ones (12:Int))=BK w 2%4096)<|Fs 40 (Lc wD [BK w 2%4096])<|Fa (by simp[BK,ZX, *]:(Lc wD (Lj 2 (ZX w))).length+(Lc wD [BK w 2%4096]).length<=2^30)<|Fs 41 (Lc wD [w%4,w/4%4,BK w 2%4096])<|Fg 44 (HE rfl dd:(BK w 2).fdiv (2^min (Lk 12) 64)=BK w 2/4096)<|Fo ((0:Int)<=12)<|Fa (by(simp[BK,ZX, *];omega):BK w 2/4096=BK w (2+1)) Fz;exact sF [(496041,480009)] [O]<|Fh 33 [.el (iD 32)]<|Fa (by simp[BK,ZX, *]:0<=(↑(3:Nat):Int)/\(Lc iD [2,2,12,32])[(↑(3:Nat):Int).toNat]?=M (iD 32))<|Fc 38 (@RU (32))<|Fg 39 (by assumption:bits BinOp.and LH (BK w 3) (ones (32:Int))=BK w 3%4294967296)<|Fs 40 (Lc wD [BK w 3%4294967296])<|Fa (by simp[BK,ZX, *]:(Lc wD (Lj 3 (ZX w))).length+(Lc wD [BK w 3%4294967296]).length<=2^30)<|Fs 41 (Lc wD [w%4,w/4%4,w/16%4096,BK w 3%4294967296])<|Fg 44 (HE rfl dd:(BK w 3).fdiv (2^min (Lk 32) 64)=BK w 3/4294967296)<|Fo ((0:Int)<=32)<|Fa (by(simp[BK,ZX, *];omega):BK w 3/4294967296=BK w (3+1)) Fz
def Zjb w:CP (Zn f202 2) (OE w 4).st (.ext 2) (Tg.st ⟨tm 49 [(0,uU (w/281474976710656)),(4,.d (.sl 0 [])),(5,nI 0),(9,.ow 480009)],[(480009,.arr 44 1 ((ZX w).map wD))],60⟩):=by exact sF [] [] Fz
def Z51(w:Int)(a:0<=w)(b:w<=18446744073709551615)  := Bs (S:=λi=>(OE w i).st) 4 (by kernel_rfl) (λi c=>Zkt w i a b c) (Zjb w)
def Z2C(w:Int)(h0:0<=w)(h1:w<=18446744073709551615)(h:w<281474976710656):GP 202 [uU w,ZG [2,2,12,32]] O (.tu [Z2 (ZX w),nI 0]) []:=by exact gF [] func202 []<|Fh 9 [.own]<|Fu (@Z7G w)<|Fu (@Z51 w aa aa)<|Ffb 47 (w/(281474976710656:Int) != 0)<|Fa (H6 _:Ca (Lc wD (ZX w))) Fz
def Zfb(w:Int)(h0:0<=w)(h1:w<=18446744073709551615)(h:¬ w<281474976710656):GP 202 [uU w,ZG [2,2,12,32]] O (.tu [Z2 [],nI 2]) []:=by exact gF [] func202 []<|Fh 9 [.own]<|Fu (@Z7G w)<|Fu (@Z51 w aa aa)<|Ftb 47 (w/(281474976710656:Int) != 0)<|Fnl Fz
def ZbD(w:Int)(h0:0<=w):Z7 w=if w<281474976710656/\w%4=1/\ZV (EM w)=O then(EM w,O)else(E7,Lb):=by
 have k1:(EM w).K=w/4%4:=rfl;have k2:(EM w).length=w/16%4096:=rfl;have k3:(EM w).map=w/65536%4294967296:=rfl;by_cases hv:ZV (EM w)=O;have e:Zu (EM w)=(1+4*(EM w).K+16*(EM w).length+65536*(EM w).map,0):=by rw[Zu,if_pos hv]
 by_cases hc:w<281474976710656/\w%4=1;rw[Z7,e,if_pos ⟨rfl,by simp only;omega⟩,if_pos ⟨hc.1,hc.2,hv⟩];rw[Z7,e,if_neg (by simp only;omega),if_neg (λq=>hc ⟨q.1,q.2.1⟩)];have e:Zu (EM w)=(0,1):=by rw[Zu,if_neg hv]
 rw[Z7,e,if_neg pq,if_neg (λq=>hv q.2.2)]
def GX(w:Int)(h0:0<=w)(h1:w<=18446744073709551615):GP 161 [uU w] O (.tu [(Z7 w).1.av,bL (Z7 w).2]) []:=by have hm:=Z1s w h0;rw[ZbD w h0];have u0:(ZX w).getD 0 La=w%4:=rfl;have u1:(ZX w).getD 1 La=w/4%4:=rfl;have u2:(ZX w).getD 2 La=w/16%4096:=rfl;have u3:(ZX w).getD 3 La=w/65536%4294967296:=rfl;have uL:(ZX w).length=4:=rfl;have k1:(EM w).K=w/4%4:=rfl;have k2:(EM w).length=w/16%4096:=rfl;have k3:(EM w).map=w/65536%4294967296:=rfl;by_cases ha:w<281474976710656;by_cases hb:w%4=1;by_cases hv:ZV (EM w)=O;rw[if_pos ⟨ha,hb,hv⟩];have hv2:ZV ⟨w/4%4,w/16%4096,w/65536%4294967296⟩=O:=hv;exact gF [] func161 []<|Fh 17 [.el (wD ((ZX w).getD 0 La))]<|Fh 23 [.el (wD ((ZX w).getD 1 La))]<|Fh 27 [.el (wD ((ZX w).getD 2 La))]<|Fh 31 [.el (wD ((ZX w).getD 3 La))]<|Fs 9 (Lc iD [2,2,12,32])<|Fc 10 (@Z2C w aa aa aa)<|Fa (by intro hg;(try simp only[bs]at hg);exact Zp oq oq oq:(!(0:Int) != 0)=O->(0:Int)<=0/\(Lc wD (ZX w))[Lk 0]?=M (wD ((ZX w).getD 0 La)))<|Ffb 20 ((ZX w).getD 0 La != 1)<|Fa (Zp oq oq oq:(0:Int)<=1/\(Lc wD (ZX w))[Lk 1]?=M (wD ((ZX w).getD 1 La)))<|Fi 25 ((ZX w).getD 1 La)<|Fa (Zp oq oq oq:(0:Int)<=2/\(Lc wD (ZX w))[Lk 2]?=M (wD ((ZX w).getD 2 La)))<|Fi 29 ((ZX w).getD 2 La)<|Fa (Zp oq oq oq:(0:Int)<=3/\(Lc wD (ZX w))[Lk 3]?=M (wD ((ZX w).getD 3 La)))<|Fg 33 (PL oq oq:Lx.wrap ((ZX w).getD 3 La)=(ZX w).getD 3 La)<|Fc 36 (@RV (Zo.mk ((ZX w).getD 1 La) ((ZX w).getD 2 La) ((ZX w).getD 3 La)) aa)<|Ffs 37 (!ZV (Zo.mk ((ZX w).getD 1 La) ((ZX w).getD 2 La) ((ZX w).getD 3 La))) Fz;rw[if_neg (by simp[hv])];have hv':ZV ⟨w/4%4,w/16%4096,w/65536%4294967296⟩=Lb:=eq_false_of_ne_true hv;exact gF [] func161 []<|Fh 17 [.el (wD ((ZX w).getD 0 La))]<|Fh 23 [.el (wD ((ZX w).getD 1 La))]<|Fh 27 [.el (wD ((ZX w).getD 2 La))]<|Fh 31 [.el (wD ((ZX w).getD 3 La))]<|Fs 9 (Lc iD [2,2,12,32])<|Fc 10 (@Z2C w aa aa aa)<|Fa (by intro hg;(try simp only[bs]at hg);exact Zp oq oq oq:(!(0:Int) != 0)=O->(0:Int)<=0/\(Lc wD (ZX w))[Lk 0]?=M (wD ((ZX w).getD 0 La)))<|Ffb 20 ((ZX w).getD 0 La != 1)<|Fa (Zp oq oq oq:(0:Int)<=1/\(Lc wD (ZX w))[Lk 1]?=M (wD ((ZX w).getD 1 La)))<|Fi 25 ((ZX w).getD 1 La)<|Fa (Zp oq oq oq:(0:Int)<=2/\(Lc wD (ZX w))[Lk 2]?=M (wD ((ZX w).getD 2 La)))<|Fi 29 ((ZX w).getD 2 La)<|Fa (Zp oq oq oq:(0:Int)<=3/\(Lc wD (ZX w))[Lk 3]?=M (wD ((ZX w).getD 3 La)))<|Fg 33 (PL oq oq:Lx.wrap ((ZX w).getD 3 La)=(ZX w).getD 3 La)<|Fc 36 (@RV (Zo.mk ((ZX w).getD 1 La) ((ZX w).getD 2 La) ((ZX w).getD 3 La)) aa)<|Fts 37 (!ZV (Zo.mk ((ZX w).getD 1 La) ((ZX w).getD 2 La) ((ZX w).getD 3 La))) Fz;rw[if_neg (by simp[hb])];exact gF [] func161 []<|Fh 17 [.el (wD ((ZX w).getD 0 La))]<|Fs 9 (Lc iD [2,2,12,32])<|Fc 10 (@Z2C w aa aa aa)<|Fa (by intro hg;(try simp only[bs]at hg);exact Zp oq oq oq:(!(0:Int) != 0)=O->(0:Int)<=0/\(Lc wD (ZX w))[Lk 0]?=M (wD ((ZX w).getD 0 La)))<|Ftb 20 ((ZX w).getD 0 La != 1) Fz;rw[if_neg (by simp[ha])];exact gF [] func161 []<|Fh 17 [.el (wD ([].getD 0 La))]<|Fs 9 (Lc iD [2,2,12,32])<|Fc 10 (@Zfb w aa aa aa)<|Fa (by intro hg;(try simp only[bs]at hg);exact Zp oq oq oq:(!(2:Int) != 0)=O->(0:Int)<=0/\(Lc wD [])[Lk 0]?=M (wD ([].getD 0 La))) Fz
def Heap.dvs(h:Heap):List DV:=[.sc (.int .i64 h.C.pw),.sc (.int .i64 h.C.pg),.sl 1 (h.W.map wD),.sl 4 (h.P.map Z0.dv),.sc (.int .i64 h.S),.sc (.int .i64 h.B)]
def Zik(h:Heap)(a:Int)(hl:h.W.length<=1048576)(h0:0<=a/\a<=18446744073709551615):GP 160 [.rp [.sc (.int .i64 h.C.pw),.sc (.int .i64 h.C.pg),.sl 1 (h.W.map wD),.sl 4 (h.P.map Z0.dv),.sc (.int .i64 h.S),.sc (.int .i64 h.B)] 0,.rp [.sc (.int .u64 a)] 0] O (uU (Z5 h.W a).1) []:=by exact gF [] func160 []<|Fc 9 (@Pu h.W a aa aa) Fz
def N7(h:Heap)(a:Int)(hl:h.W.length<=1048576)(b:0<=a/\a<=18446744073709551615):LP 160 [.pt 0 0 0,.pt 1 0 0] [.box 27 h.cells,.box 44 [uU a]] (uU (Z5 h.W a).1) [.box 27 h.cells,.box 44 [uU a]]:=
 Zek (e0:=h.dvs) (e1:=[.sc (.int .u64 a)]) rfl (Zik h a hl b)
def Np(h:Heap)(a:Int)(hw:Zz h.W)(h0:0<=a/\a<=18446744073709551615):GP 103 [h.av,uU a] O (.tu [(Zc h a).1.av,nI (Zc h a).2]) []:=by
 have r:=EW hw a;have hm:=IT (Z5 h.W a).1 r.1;by_cases l:Z9 h=O;have x:=B7 l;by_cases i:(Z4 h.C a).2.2=0;have oo:=Hg x.1 i;have hz:(Z7 (Z5 h.W a).1).2=O->Z1 (Z7 (Z5 h.W a).1).1=(Z7 (Z5 h.W a).1).1.length+1/\0<=(Z7 (Z5 h.W a).1).1.length/\(Z7 (Z5 h.W a).1).1.length<=255:=λe=>by(have r:=Z2G e;have:=GC.1 r;rw[Z1,if_pos r];omega)
 have pp:=Ew l (j:=(Z4 h.C a).1.toNat) oq;by_cases c3:((h.P.getD (Z4 h.C a).1.toNat La).K=1\/(h.P.getD (Z4 h.C a).1.toNat La).K=2)/\(Z4 h.C a).2.1<(h.P.getD (Z4 h.C a).1.toNat La).U/\(Z7 (Z5 h.W a).1).2=O;have a1:=hz c3.2.2;by_cases c4:((h.P.getD (Z4 h.C a).1.toNat La).K=1/\(h.P.getD (Z4 h.C a).1.toNat La).U<(Z4 h.C a).2.1+Z1 (Z7 (Z5 h.W a).1).1)\/((h.P.getD (Z4 h.C a).1.toNat La).K=2/\((Z4 h.C a).2.1≠0\/Z1 (Z7 (Z5 h.W a).1).1≠(h.P.getD (Z4 h.C a).1.toNat La).U));have g:Zc h a=(E7,19):=by rw[Zc,if_pos l,if_pos i,if_pos c3,if_pos c4]
 rw[g];have s {h_ c_ p_} (m:Fq h_ c_ p_):=Fc 15 (@CW h)<|Ffb 16 (!Z9 h)<|Fc 22 (@Gs h.C a oq oq)<|Ffb 27 ((Z4 h.C a).2.2 != 0)<|Fe 34 Z0.dv h.P ((Z4 h.C a).1)<|Fbq 38 [8002,8003] (@N7 h a oq aa)<|Fc 39 (@GX ((Z5 h.W a).1) oq oq)<|Fc 43 (@CK ((Z7 (Z5 h.W a).1).1) aa) m;rcases bb (!(Z7 (Z5 h.W a).1).2||Le ((h.P.getD (Z4 h.C a).1.toNat La).U<=(Z4 h.C a).2.1))with hc0|hc0<;>have b:=hc0<;>simp only[bs]at b;exact gF [] func103 []<|Fh 44 [.br O] (s (Fa hc0 Fz));obtain⟨d,f⟩:=b;rcases bb ((h.P.getD (Z4 h.C a).1.toNat La).K==1)with hc1|hc1<;>have c:=hc1<;>simp only[bs]at c;let y:=h.P.getD (Z4 h.C a).1.toNat La;exact gF [] func103 []<|Fh 44 [.br Lb]<|Fh 76 [.br O] (s (Fa hc0<|Fa hc1<|Fi 61 (y.U-(Z4 h.C a).2.1)<|Ftb 53 (!decide (Z1 (Z7 (Z5 h.W a).1).1<=y.U-(Z4 h.C a).2.1)) Fz));let z:=h.P.getD (Z4 h.C a).1.toNat La;exact gF [] func103 []<|Fh 44 [.br Lb]<|Fh 53 [.br Lb]<|Fh 76 [.br O] (s (Fa hc0<|Fa hc1<|Fb ((z.K==2)=O)<|Ftb 63 (!((Z4 h.C a).2.1==0&&Z1 (Z7 (Z5 h.W a).1).1==z.U)) Fz));have g:Zc h a=((Z7 (Z5 h.W a).1).1,0):=by rw[Zc,if_pos l,if_pos i,if_pos c3,if_neg c4]
 rw[g];have t {h_ c_ p_} (m:Fq h_ c_ p_):=Fc 15 (@CW h)<|Ffb 16 (!Z9 h)<|Fc 22 (@Gs h.C a oq oq)<|Ffb 27 ((Z4 h.C a).2.2 != 0)<|Fe 34 Z0.dv h.P ((Z4 h.C a).1)<|Fbq 38 [8002,8003] (@N7 h a oq aa)<|Fc 39 (@GX ((Z5 h.W a).1) oq oq)<|Fc 43 (@CK ((Z7 (Z5 h.W a).1).1) aa) m;rcases bb (!(Z7 (Z5 h.W a).1).2||Le ((h.P.getD (Z4 h.C a).1.toNat La).U<=(Z4 h.C a).2.1))with hc0|hc0<;>have b:=hc0<;>simp only[bs]at b;exact gF [] func103 (fO 4)<|Fh 44 [.br O] (t (Fa hc0<|Fa (by grind[E7]:0=(Z7 (Z5 h.W a).1).1.K)<|Fa (by grind[E7]:0=(Z7 (Z5 h.W a).1).1.length)<|Fa (by grind[E7]:0=(Z7 (Z5 h.W a).1).1.map)<|Fa (by grind[E7]:(19:Int)=0) Fz));obtain⟨d,f⟩:=b;rcases bb ((h.P.getD (Z4 h.C a).1.toNat La).K==1)with hc1|hc1<;>have c:=hc1<;>simp only[bs]at c;let y2:=h.P.getD (Z4 h.C a).1.toNat La;exact gF [] func103 []<|Fh 53 [.br O]<|Fh 76 [.br Lb] (t (Fa hc0<|Fa hc1<|Fi 61 (y2.U-(Z4 h.C a).2.1)<|Ffb 44 (!decide (Z1 (Z7 (Z5 h.W a).1).1<=y2.U-(Z4 h.C a).2.1)) Fz));let y3:=h.P.getD (Z4 h.C a).1.toNat La;exact gF [] func103 []<|Fh 53 [.br Lb]<|Fh 63 [.br O]<|Fh 76 [.br Lb] (t (Fa hc0<|Fa hc1<|Fb ((y3.K==2)=O)<|Ffb 44 (!((Z4 h.C a).2.1==0&&Z1 (Z7 (Z5 h.W a).1).1==y3.U)) Fz));have g:Zc h a=(E7,19):=by rw[Zc,if_pos l,if_pos i,if_neg c3]
 rw[g];have n {h_ c_ p_} (m:Fq h_ c_ p_):=Fc 15 (@CW h)<|Ffb 16 (!Z9 h)<|Fc 22 (@Gs h.C a oq oq)<|Ffb 27 ((Z4 h.C a).2.2 != 0)<|Fe 34 Z0.dv h.P ((Z4 h.C a).1)<|Fbq 38 [8002,8003] (@N7 h a oq aa)<|Fc 39 (@GX ((Z5 h.W a).1) oq oq)<|Fc 43 (@CK ((Z7 (Z5 h.W a).1).1) aa) m;rcases bb (!(Z7 (Z5 h.W a).1).2||Le ((h.P.getD (Z4 h.C a).1.toNat La).U<=(Z4 h.C a).2.1))with hc0|hc0<;>have b:=hc0<;>simp only[bs]at b;exact gF [] func103 []<|Fh 44 [.br O] (n (Fa hc0 Fz));obtain⟨d,f⟩:=b;rcases bb ((h.P.getD (Z4 h.C a).1.toNat La).K==1)with hc1|hc1<;>have c:=hc1<;>simp only[bs]at c;have w {h_ c_ p_} (m:Fq h_ c_ p_):=n<|Fa hc0<|Fa hc1<|Fi 61 ((h.P.getD (Z4 h.C a).1.toNat La).U-(Z4 h.C a).2.1) m;rcases bb (!decide (Z1 (Z7 (Z5 h.W a).1).1<=(h.P.getD (Z4 h.C a).1.toNat La).U-(Z4 h.C a).2.1))with hc2|hc2<;>have o:=hc2<;>simp only[bs]at o;exact gF [] func103 []<|Fh 44 [.br Lb]<|Fh 76 [.br O] (w (Ft 53 hc2 Fz));rw[show E7=(Z7 (Z5 h.W a).1).1 from by grind[E7]];exact gF [] func103 (fO 4)<|Fh 53 [.br O]<|Fh 76 [.br Lb] (w (Ff 44 hc2<|Fr ((Z7 (Z5 h.W a).1).1.K)<|Fr ((Z7 (Z5 h.W a).1).1.length)<|Fr ((Z7 (Z5 h.W a).1).1.map)<|Fa (by grind[E7]:(0:Int)=19) Fz));rcases bb ((h.P.getD (Z4 h.C a).1.toNat La).K==2)with hc3|hc3<;>have p:=hc3<;>simp only[bs]at p;rcases bb (!((Z4 h.C a).2.1==0&&Z1 (Z7 (Z5 h.W a).1).1==(h.P.getD (Z4 h.C a).1.toNat La).U))with hc4|hc4<;>have k:=hc4<;>simp only[bs]at k;exact gF [] func103 []<|Fh 44 [.br Lb]<|Fh 53 [.br Lb]<|Fh 76 [.br O] (n (Fa hc0<|Fa hc1<|Fa hc3<|Ft 63 hc4 Fz));obtain⟨u,v⟩:=k;rw[show E7=(Z7 (Z5 h.W a).1).1 from by grind[E7]];exact gF [] func103 (fO 8)<|Fh 53 [.br Lb]<|Fh 63 [.br O]<|Fh 76 [.br Lb] (n (Fa hc0<|Fa hc1<|Fa hc3<|Ff 44 hc4<|Fr ((Z7 (Z5 h.W a).1).1.K)<|Fr ((Z7 (Z5 h.W a).1).1.length)<|Fr ((Z7 (Z5 h.W a).1).1.map)<|Fa (by grind[E7]:(0:Int)=19) Fz));exact gF [] func103 []<|Fh 44 [.br Lb]<|Fh 53 [.br Lb]<|Fh 63 [.br Lb] (n (Fa hc0<|Fa hc1<|Fa hc3 Fz));have g:Zc h a=(E7,2):=by rw[Zc,if_pos l,if_neg i]
 have e2:(Z4 h.C a).2.2=2:=by(unfold Z4 at i⊢;rw[if_pos x.1]at i⊢;split at i;simp at i;rename_i q;rw[if_neg q])
 rw[g];exact gF [] func103 [O]<|Fc 15 (@CW h)<|Ffb 16 (!Z9 h)<|Fc 22 (@Gs h.C a oq oq)<|Ftb 27 ((Z4 h.C a).2.2 != 0)<|Fr (0:Int)<|Fr (0:Int)<|Fr (0:Int)<|Fa ‹(Z4 h.C a).2.2=2› Fz;have g:Zc h a=(E7,1):=by rw[Zc,if_neg l]
 have a0:Z9 h=Lb:=by simpa using l
 rw[g];exact gF [] func103 []<|Fc 15 (@CW h)<|Ftb 16 (!Z9 h) Fz
structure Found where
 addr:Int
 hd:Zo
 deriving DecidableEq,Inhabited
def Found.dv(f:Found):List DV:=[.sc (.int .u64 f.addr),.sc (.int .i64 f.hd.K),.sc (.int .i64 f.hd.length),.sc (.int .u32 f.hd.map)]
def Found.av(f:Found):AV:=.ag [uU f.addr,nI f.hd.K,nI f.hd.length,u32 f.hd.map]
def Ht(fn:Func)(n:Nat):Code:=match Zl fn n with|.block _ (.rangeFunc _ _ x _)=>x|_=>.skip
def Hd(fn:Func)(n:Nat):Code:=match Zl fn n with|.block _ (.rangeFunc _ _ _ x)=>x|_=>.skip
def Sf(pre:List Found):List (Nat×Z3):=[(8020,.arr 196 4 (pre.map Found.dv)),(6,.box 190 [.ow 8020])]
def PF(pre:List Found)(x:Found):Tg:=⟨tm 22 [(6,.pt 6 0 0),(12,x.av),(13,nI 0)],Sf pre,20⟩
def Ab(pre:List Found)(x:Found):Tg:=⟨tm 22 [(6,.pt 6 0 0),(7,.pt 160007 0 0),(8,nI 0)],(160007,.box 196 [uU x.addr,nI x.hd.K,nI x.hd.length,u32 x.hd.map])::Sf pre,30⟩
def Zk3 pre x:CIn prog (Ht f179 0) (PF pre x).st .nrm (Ab pre x).st:=by refine Z1F [] [] [] (φ:=True) ?_ kr kr kr kr;exact trivial
def ZaC(pre:List Found) x(hl:pre.length<=1000):CIn prog (Hd f179 0) (Ab pre x).st .nrm (Tg.st ⟨tm 22 [(6,.pt 6 0 0),(20,.ow 8020)],Sf (pre++[x]),60⟩):=by refine Z1F [((19:Nat),[Hint.els (Lc Found.dv [x])]),((20:Nat),[Hint.els (Lc Found.dv (pre++[x]))])] [((248020:Nat),(8020:Nat))] [] (φ:=(Lg (1:Nat) [ZD (0:Int),Ze (0:Int),Ze (0:Int),DV.sc (LB Lx (0:Int))]).set ((0:Nat),Operand.tmp (18:Nat)).1 [ZD x.addr,Ze x.hd.K,Ze x.hd.length,DV.sc (LB Lx x.hd.map)]=Lc Found.dv [x]/\(Lc Found.dv pre).length+(Lc Found.dv [x]).length<=(2:Nat)^(30:Nat)/\Lc Found.dv pre++Lc Found.dv [x]=Lc Found.dv (pre++[x])) ?_ kr kr kr kr;exact⟨rfl,(by(simp[*];omega)),(by simp[LU,L2,L4,LS,wD,iD])⟩
def Gm(l:Nat):Value:=.func (.yield l) #[] #[]
def EL(h:Heap)(i:Int):Nat->Int->List Found×Bool|0,_=>([],O)|f+1,o=>if o<(pg h i).U then(if(address h.C i o).2=0/\(Zc h (Bf h i o)).2=0 then(⟨Bf h i o,(Zc h (Bf h i o)).1⟩::(EL h i f (o+Z1 (Zc h (Bf h i o)).1)).1,(EL h i f (o+Z1 (Zc h (Bf h i o)).1)).2)else([],Lb))else([],O)
def Hs(fn:Func):Code:=match fn.body with|some c=>c|none=>.skip
def inE(h:Heap)(l:Nat)(i:Int):Tg:=⟨tm 58 [(0,.d (.sc (Gm l))),(1,.rp h.dvs 0),(2,.rp [Ze i] 0)],[],1⟩
def inP(h:Heap)(l:Nat)(i:Int):Tg:=⟨tm 58 [(0,.d (.sc (Gm l))),(1,.rp h.dvs 0),(2,.rp [Ze i] 0),(4,.pt 8004 0 0)],[(8004,.box 79 [nI (pg h i).K,nI (pg h i).S,nI (pg h i).U,nI (pg h i).N])],20⟩
def ZdA(h:Heap) l(i:Int)(hi:0<=i/\i<h.P.length)(a:(pg h i).K=1\/(pg h i).K=2):Sq prog 2 (Hs f236) (inE h l i).st (inP h l i).st:=by unfold inP inE pg;unfold pg at a;refine Av [((13:Nat),[Hint.el (h.P.getD i.toNat La).dv]),((22:Nat),[Hint.br Lb])] [] [] (φ:=((0:Int)<=i/\(Lc Z0.dv h.P)[i.toNat]?=M (h.P.getD i.toNat La).dv)/\((h.P.getD i.toNat La).K != (1:Int)&&(h.P.getD i.toNat La).K != (2:Int))=Lb/\Lb=Lb) ?_ kr kr kr kr;exact⟨(by exact Zp oq oq oq),(by(simp only[bs];omega)),rfl⟩
def Zlg(h:Heap) l(i:Int)(hi:0<=i/\i<h.P.length)(a:¬ ((pg h i).K=1\/(pg h i).K=2)):CP (Hs f236) (inE h l i).st .ret (Tg.st ⟨tm 58 [],[],20⟩):=by unfold inE;unfold pg at a;exact sF [] []<|Fe 13 Z0.dv h.P i<|Ftb 22 ((h.P.getD i.toNat La).K != 1&&(h.P.getD i.toNat La).K != 2) Fz
def inS(h:Heap)(l:Nat)(i o:Int):Tg:=⟨tm 58 [(0,.d (.sc (Gm l))),(1,.rp h.dvs 0),(2,.rp [Ze i] 0),(4,.rp (pg h i).dv 0),(5,nI o)],[],20⟩
def inT(h:Heap)(l:Nat)(i o:Int)(a:Int)(hd:Zo):Tg:=⟨tm 58 [(0,.d (.sc (Gm l))),(1,.rp h.dvs 0),(2,.rp [Ze i] 0),(4,.rp (pg h i).dv 0),(5,nI o),(6,uU a),(8,.pt 184008 0 0)],[(184008,.box 31 [nI hd.K,nI hd.length,u32 hd.map])],30⟩
section
variable(h:Heap)(l:Nat)(i o:Int)(b:Zz h.W)(a:Z9 h=O)(c:0<=o/\o<=1000)
include b a c
theorem Zcu(h1:o<(pg h i).U)(h2:(address h.C i o).2=0)(e:(Zc h (Bf h i o)).2=0):Sq prog 9 (Zn f236 0) (inS h l i o).st (inT h l i (o+Z1 (Zc h (Bf h i o)).1) (Bf h i o) (Zc h (Bf h i o)).1).st:=by have g:=B7 a;have d:=M0 g.1 i o;have j:=Ip (Zc h (Bf h i o)).1;have f:=IE b (Bf h i o);unfold Bf at d j f e;refine Av [((26:Nat),[Hint.br O]),((32:Nat),[Hint.call O (CV h.C i o) []]),((36:Nat),[Hint.br O]),((40:Nat),[Hint.call O (AV.tu [(Zc h (address h.C i o).1).1.av,nI (Zc h (address h.C i o).1).2]) []]),((44:Nat),[Hint.br O]),((47:Nat),[Hint.call O (nI (Z1 (Zc h (address h.C i o).1).1)) []]),((48:Nat),[Hint.int (o+Z1 (Zc h (address h.C i o).1).1)])] [] [] (φ:=Le (o<(pg h i).U)=O/\O=O/\GP 68 [h.C.av,nI i,nI o] O (CV h.C i o) []/\((address h.C i o).2==(0:Int))=O/\O=O/\GP 103 [h.av,uU (address h.C i o).1] O (AV.tu [(Zc h (address h.C i o).1).1.av,nI (Zc h (address h.C i o).1).2]) []/\((Zc h (address h.C i o).1).2==(0:Int))=O/\O=O/\GP 48 [(Zc h (address h.C i o).1).1.av] O (nI (Z1 (Zc h (address h.C i o).1).1)) []/\Xd.wrap (o+Z1 (Zc h (address h.C i o).1).1)=o+Z1 (Zc h (address h.C i o).1).1) ?_ kr kr kr kr;exact⟨(by(simp only[bs];omega)),rfl,(@RQ (h.C) (i) (o)),(by(simp only[bs];omega)),rfl,(@Np (h) ((address h.C i o).1) aa oq),(by(simp only[bs];omega)),rfl,(@CK ((Zc h (address h.C i o).1).1) aa),(by exact Zf rfl oq oq)⟩
theorem ZaV(h1:o<(pg h i).U)(h2:¬ (address h.C i o).2=0):Sq prog 10 (Zn f236 0) (inS h l i o).st (Tg.st ⟨tm 58 [(0,.d (.sc (Gm l)))],[],30⟩):=by refine Av [((26:Nat),[Hint.br O]),((32:Nat),[Hint.call O (CV h.C i o) []]),((36:Nat),[Hint.br Lb])] [] [] (φ:=Le (o<(pg h i).U)=O/\O=O/\GP 68 [h.C.av,nI i,nI o] O (CV h.C i o) []/\((address h.C i o).2==(0:Int))=Lb/\Lb=Lb) ?_ kr kr kr kr;exact⟨(by(simp only[bs];omega)),rfl,(@RQ (h.C) (i) (o)),(by(simp only[bs];omega)),rfl⟩
theorem ZhS(h1:o<(pg h i).U)(h2:(address h.C i o).2=0)(e:¬ (Zc h (Bf h i o)).2=0):Sq prog 10 (Zn f236 0) (inS h l i o).st (Tg.st ⟨tm 58 [(0,.d (.sc (Gm l)))],[],30⟩):=by have f:=B7 a;have d:=M0 f.1 i o;unfold Bf at d e;refine Av [((26:Nat),[Hint.br O]),((32:Nat),[Hint.call O (CV h.C i o) []]),((36:Nat),[Hint.br O]),((40:Nat),[Hint.call O (AV.tu [(Zc h (address h.C i o).1).1.av,nI (Zc h (address h.C i o).1).2]) []]),((44:Nat),[Hint.br Lb])] [] [] (φ:=Le (o<(pg h i).U)=O/\O=O/\GP 68 [h.C.av,nI i,nI o] O (CV h.C i o) []/\((address h.C i o).2==(0:Int))=O/\O=O/\GP 103 [h.av,uU (address h.C i o).1] O (AV.tu [(Zc h (address h.C i o).1).1.av,nI (Zc h (address h.C i o).1).2]) []/\((Zc h (address h.C i o).1).2==(0:Int))=Lb/\Lb=Lb) ?_ kr kr kr kr;exact⟨(by(simp only[bs];omega)),rfl,(@RQ (h.C) (i) (o)),(by(simp only[bs];omega)),rfl,(@Np (h) ((address h.C i o).1) aa oq),(by(simp only[bs];omega)),rfl⟩
omit b a c in
theorem ZaZ(h1:(pg h i).U<=o):CP (Zn f236 0) (inS h l i o).st (.ext 0) (Tg.st ⟨tm 58 [],[],30⟩):=by exact sF [] []<|Ffb 26 (Le (o<(pg h i).U)) Fz
end
end Go.Proofs.YtkmnngahjnkdmaaGreat
namespace Go.Proofs.YtkmnngahjnkdmaaGreat
open Go.Sx Go.RowKit
def Z1L(ids a:List Nat):AV->Bool|.pt b _ _=>R6 b a|.ow b=>R6 b ids|.d (.sc _)=>O|.any=>O|_=>Lb
def Ze0(ids a:List Nat):Z3->Bool|.box _ l=>l.all (Z1L ids a)|.arr .. => O|_=>Lb
def Nc:List (Nat×Z3)->List Nat|[]=>[]|(b,.box ..)::l=>b::Nc l|_::l=>Nc l
def Tk{b:Nat}:∀{hl:List (Nat×Z3)},b∈Nc hl->∃ty cells,(b,Z3.box ty cells)∈hl
 |[],h=>by grind[Nc]
 |(c,.box ty cells)::l,h=>by
  simp only[Nc,Ln]at h;rcases h with rfl|h
  .grind
  .obtain⟨ty,cells,h⟩:=Tk h;grind
 |(c,.arr ..)::l,h=>by obtain⟨ty,cells,h⟩:=Tk (hl:=l) h;grind
 |(c,.mp _)::l,h=>by obtain⟨ty,cells,h⟩:=Tk (hl:=l) h;grind
 |(c,.dead)::l,h=>by obtain⟨ty,cells,h⟩:=Tk (hl:=l) h;grind
def Z9j{ρ ρ':ZM}{w Y Im ids e x v}(h:Zk ρ w Im x v)(i:Z1L ids e x=O)(o:∀b∈e,∀β,ρ b=M β->ρ' b=M β)(n:∀b∈ids,∀β,ρ b=M β->ρ' b=M β\/(ρ' b=M ⟨Ld,β.s,β.n⟩/\∀g,β.g=M g->rows w g<β.s))(hr:∀g,rows Y g=rows w g):Zk ρ' Y (λ_=>False) x v:=by
 cases h with
 |pt j=>exact .pt (o _ (RI.1 i) _ j)
 |ow j l m f =>rename_i b c a β;rcases n _ (RI.1 i) _ j with k|⟨k,p⟩;refine .ow k l m (f.imp id λ⟨g,k1,q,r⟩=>⟨g,k1,q, ?_⟩);grind;refine Zk.ow (β:=⟨Ld,β.s,β.n⟩) k l m (.inl ?_);rcases f with f|⟨g,k1,_,r⟩;exact f;have:=p g k1;rcases Nat.eq_zero_or_pos c with h|h;exact h;have:=Xp β.s h;omega
 |any=>exact .any _
 |d h =>
  cases h with|sc _ h=>exact .d (.sc _ h)|_=>cases i
 |_=>cases i
theorem Z2B{ρ w Im β}{ty g:Nat}{cells:List AV}(h:RelB ρ w Im β (.box ty cells))(hg:β.g=M g):rows w g=cells.length:=by obtain⟨_,_,g',cs,h1,h2,h3,_⟩:=h;grind[rows]
def Zi9{ρ w Im β}{ty g s:Nat}{els:List (List DV)}(h:RelB ρ w Im β (.arr ty s els))(hg:β.g=M g):els.length*s<=rows w g:=by obtain⟨_,_,_,_,⟨a,_⟩|⟨g',cs,a,h2,h3,_⟩⟩:=h;all_goals grind[rows]
def Z9d{Ow Im0 w0 w tmps hl}{clk a0:Nat}{a}(S:Sx.Sys Ow Im0 w0 tmps (Bv hl) clk a w)(hT:tmps.all (Z1L (hl.map (·.1)) (Nc hl))=O)(hB:hl.all (λp=>Ze0 (hl.map (·.1)) (Nc hl) p.2)=O)(hN:(hl.map (·.1)).Nodup)(hF:∀b ty s els,(b,Z3.arr ty s els)∈hl->Ca els){Y:World}{l:Nat}{r r':Loop}(a8:w.heap[l]?=M (.loop r))(a9:Y.heap[l]?=M (.loop r'))(hY:Y.heap.size=w.heap.size)(hs:∀g,g≠l->Y.heap[g]?=w.heap[g]?)(hc:1<=a0) :∃ρ:ZM,(∀b β,ρ b=M β->b∈hl.map (·.1))/\(∀b β g,ρ b=M β->β.g=M g->(w0.heap.size<=g/\8000<=b)\/OwA Ow g)/\(∀b β g,ρ b=M β->β.g=M g->β.s<=rows Y g)/\Inv (GZ ρ) (λ_=>False) Y ρ Y (λ_=>False) (Bv hl) a0/\Ct Ow.ds ρ Y (λ_=>False) tmps a/\Kept (OwA Ow) w0 w:=by
 obtain⟨ρ,Im,I,T⟩:=S;let f:=hl.map (·.1);let ρ':ZM:=λb=>if R6 b f then(match ρ b with|Ld=>Ld|M β=>match β.g with|M g=>if rows w g<β.s then M ⟨Ld,β.s,β.n⟩else M β|Ld=>M β)else Ld;have t:∀b β,ρ' b=M β->b∈f/\∃κ,ρ b=M κ/\κ.s=β.s/\κ.n=β.n/\∀g,β.g=M g->κ=β/\β.s<=rows w g:=by grind[RI]
 have z:∀b∈f,∀β,ρ b=M β->ρ' b=M β\/(ρ' b=M ⟨Ld,β.s,β.n⟩/\∀g,β.g=M g->rows w g<β.s):=by grind[RI]
 have a1:∀g,rows Y g=rows w g:=by grind[rows]
 have m:∀b∈Nc hl,∀β,ρ b=M β->ρ' b=M β:=by
  intro b hb β h;obtain⟨ty,cells,hm⟩:=Tk hb;have a7:b∈f:=L5.2 ⟨_,hm,rfl⟩;rcases z b a7 β h with k|⟨_,k⟩;exact k;cases hq:Bv hl b with
  |none=>grind[Rh]
  |some B =>
   have a6:B=.box ty cells:=by(have u:=Rh.1 B hq;obtain⟨i,hi⟩:=Xl.1 u;obtain⟨j,hj⟩:=Xl.1 hm;have:i=j:=Z1o b hN (by simp[hi]) (by simp[hj]);subst this;rw[hi]at hj;cases hj;rfl)
   subst a6;obtain⟨β',m1,m2⟩:=I.blk b _ hq;rw[h]at m1;cases m1;have m3:=m2;obtain⟨h0,_,g,_,u,_⟩:=m2;grind[Z2B]
 have n:∀b,b∈f->live (Bv hl) b:=by
  intro b hb;cases hq:Bv hl b with|none=>grind[Rh]|some B =>refine⟨B,hq, ?_⟩;rintro rfl;have:=LI.1 hB _ (Rh.1 _ hq);cases this
 have d:∀b β g,ρ' b=M β->β.g=M g->ρ b=M β:=λb β g h h'=>by(grind)
 refine⟨ρ',λb β h=>(t b β h).1,λb β g h h'=>I.own b β g (d b β g h h') h',λb β g h h'=>by
  grind,⟨Kept.refl _ _,λb b' β β' g _ _ q1 q2 q3 q4=>I.inj b b' β β' g (n _ (t _ _ q1).1) (n _ (t _ _ q2).1) (d _ _ g q1 q3) (d _ _ g q2 q4) q3 q4,λ_ _ _ _ _ _ h=>h,λb β g q1 q2=>by rw[hY];exact I.bnd b β g (d _ _ g q1 q2) q2,λb β g q1 q2=>.inr ⟨b,β,q1,q2⟩,λ_ h=>h.elim,λ_ h=>h.elim,λb B q=>?_,λb _ q=>?_,⟨hc,λ_ _ _ h=>h⟩⟩,⟨T.size,λi x v u h2=>Z9j (T.tmp i x v u h2) (LI.1 hT _ (Lo u)) m z a1,T.defers⟩,I.kept⟩
 have hm:=Rh.1 B q;have hb:b∈f:=L5.2 ⟨(b,B),hm,rfl⟩;obtain⟨β,m1,m2⟩:=I.blk b B q;have a2:=LI.1 hB _ hm;cases B with
 |dead=>cases a2
 |mp=>cases a2
 |box ty cells =>
  obtain⟨h0,a4,g,cs,u,h2,h3,a5,h4⟩:=m2;have hg:g≠l:=by grind
  have:b∈Nc hl:=by
   have:∀{k:List (Nat×Z3)},(b,Z3.box ty cells)∈k->b∈Nc k:=by
    intro k;induction k with|nil=>grind|cons p k ih =>obtain⟨c,C⟩:=p;intro h;rcases Ln.1 h with e|e;grind[Nc];cases C<;>simp[Nc,ih e]
   exact this hm
  exact⟨β,m b this β m1,h0,a4,g,cs,u,by grind,h3,a5,λo x v hx hv=>Z9j (h4 o x v hx hv) (LI.1 a2 _ (Lo hx)) m z a1⟩
 |arr ty s els =>
  have m3:=m2;obtain⟨h0,u,a3,h2,h3⟩:=m2;rcases z b hb β m1 with k|⟨k,k'⟩;refine⟨β,k,h0,u,a3,h2,h3.imp id λ⟨g,cs,h4,h5,h6,h7⟩=>?_⟩;grind[Z1a];refine⟨_,k,h0,u,a3,h2,.inl ⟨rfl, ?_⟩⟩;rcases h3 with⟨_,h⟩|⟨g,_,h4,_⟩;exact h;have e1:=k' g h4;have e2:=Zi9 m3 h4;rw[h0]at e1;cases els with|nil=>rfl|cons y ys =>have:1*s<=(y::ys).length*s:=Xp s pq;omega
 grind[Rh]
def NZ(f:Found):Value:=.agg #[.int .u64 f.addr,.int .i64 f.hd.K,.int .i64 f.hd.length,.int .u32 f.hd.map]
def IZ(f:Found)(e:Int):Array Value:=#[NZ f,.int .i64 e]
def Z70 ρ w Im(f:Found):Zk ρ w Im f.av (NZ f):=by refine .ag _ _ rfl (λi v h=>?_) (λi a v b c=>?_);rcases i with _|_|_|_|i<;>simp at h<;>subst h<;>rfl;rcases i with _|_|_|_|i<;>simp at b c<;>subst b<;>subst c<;>exact .d (.sc _ rfl)
def OP(l:List Found):Ca (l.map Found.dv):=by intro e a x hx;obtain⟨f,_,rfl⟩:=L5.1 a;grind[Found.dv]
def LJ(g6:Nat)(a:List (Nat×Obj))(A:Nat->Prop)(pre:List Found)(W:World):Prop:=
 ∃ρ:ZM,(∀g,A g↔∃b β,ρ b=M β/\β.g=M g)/\Inv (GZ ρ) (λ_=>False) W ρ W (λ_=>False) (Bv (Sf pre)) 20/\(∃s n,ρ 6=M ⟨M g6,s,n⟩)/\(∀b β,ρ b=M β->b∈[8020,6])/\(∀b β g,ρ b=M β->β.g=M g->β.s<=rows W g)/\∀p∈a,W.heap[p.1]?=M p.2/\¬ A p.1
def LJ.keep{g6 a A pre X Y}(J:LJ g6 a A pre X)(K:Kept (λ_=>False) X Y):LJ g6 a A pre Y:=by obtain⟨ρ,l,I,k,o,hr,i⟩:=J;have m:Ext (λ_=>False) X Y:=⟨K.size,λg h=>h.elim,K.rows⟩;refine⟨ρ,l,⟨Kept.refl _ _,I.inj,λ_ _ _ _ _ _ h=>h,λb β g d e=>LV (I.bnd b β g d e) K.size,λb β g d e=>.inr ⟨b,β,d,e⟩,λ_ h=>h.elim,λ_ h=>h.elim,λb B q=>?_,I.fresh,I.one⟩,k,o,λb β g d e=>?_,λp c=>⟨?_,(i p c).2⟩⟩;obtain⟨β,j,r⟩:=I.blk b B q;exact⟨β,j,r.mono m (λ_ h=>h) (λ_ _ h=>h) I.bnd (λg n=>K.block g (I.bnd b β g j n) (λh=>h))⟩;rw[K.rows g (I.bnd _ _ _ d e)];grind;have f:=(i p c).1;rw[K.block p.1 (Ll.1 f).1 (λh=>h)];exact f
def Zap{fn:Nat}{a0:Array Value}{D l g6 n:Nat}{prot:List (Nat×Obj)}{A}{pre:List Found}{W}(hl:pre.length<=1000)(ha0:a0.size=22)(ha6:a0[6]?=M (.pointer (M ⟨g6,0,Ld⟩)))(hrec:(l,Lm {state:=.ready,pending:=Ld,fn:=fn,tmps:=a0,params:=#[12,13],assign:=Ht f179 0,body:=Hd f179 0,defers:=D})∈prot)(J:LJ g6 prot A pre W) x :
  YieldAt Lf n prog l (IZ x 0) W λe W'=>e=.returned (.bool O)/\∃A',LJ g6 prot A' (pre++[x]) W'/\(∀g,A' g->A g\/W.heap.size<=g)/\Kept A W W':=by
 obtain⟨ρ,hA,I,⟨s6,n6,h6⟩,hs,hr,hp⟩:=J;obtain⟨rl,nl⟩:=hp _ hrec;have hAe:OwA (GZ ρ)=A:=by funext g;exact propext (hA g).symm
 refine⟨fn,_,_,_,run_yield rl rfl,roundIn_of_wpIn trivial ?_⟩;have T0:Ct [] ρ W (λ_=>False) (tm 22 [(6,.pt 6 0 0)]) {tmps:=a0,defers:=[]}:=by
  refine⟨by rw[ha0];rfl,λi y v h1 h2=>?_,rfl⟩;by_cases h:i=6;subst h;rw[ha6]at h2;cases h2;cases (show(tm 22 [(6,.pt 6 0 0)])[6]?=M (.pt 6 0 0)from rfl).symm.trans h1;have:=Zk.pt (ρ:=ρ) (w:=W) (Im:=λ_=>False) (i:=0) (o:=0) h6;simpa[ptV,mpO]using this;have:y=.any:=by
   have hi:i<22:=(L1.1 h1).1;have e:∀j,j<22->j≠6->(tm 22 [(6,.pt 6 0 0)])[j]?=M .any:=by
    intro j hj hj6;have:j∈[0,1,2,3,4,5,7,8,9,10,11,12,13,14,15,16,17,18,19,20,21]:=by(simp only[Ln,Lq,or_false];omega)
    simp only[Ln,Lq,or_false]at this;rcases this with rfl|rfl|rfl|rfl|rfl|rfl|rfl|rfl|rfl|rfl|rfl|rfl|rfl|rfl|rfl|rfl|rfl|rfl|rfl|rfl|rfl<;>rfl
   rw[e i hi h]at h1;cases h1;rfl
  subst this;exact .any _
 have T1:=(T0.put 12 (Z70 ρ W (λ_=>False) x)).put 13 (Zk.d (CM.sc (LB .i64 0) rfl));have S1:Sx.Sys (GZ ρ) (λ_=>False) W (PF pre x).st.tmps (PF pre x).st.H (PF pre x).st.clk {tmps:=(a0.setIfInBounds 12 (NZ x)).setIfInBounds 13 (.int .i64 0),defers:=[]} W:=⟨ρ,_,I,T1⟩;have ef:((#[12,13]:Array Nat).zip (IZ x 0)).foldl (λtmps (t,a)=>tmps.setIfInBounds t a) a0=(a0.setIfInBounds 12 (NZ x)).setIfInBounds 13 (.int .i64 0):=by simp[IZ]
 show(Ht f179 0).wpIn _ n _ _ {tmps:=((#[12,13]:Array Nat).zip (IZ x 0)).foldl (λtmps (t,a)=>tmps.setIfInBounds t a) a0,defers:=[]} W;rw[ef];refine wpIn_mono (Zk3 pre x (M l) n _ _ _ _ _ S1) ?_;rintro e a1 w1 ⟨rfl,S2⟩;have K1:Kept A W w1:=by obtain⟨_,_,I1,_⟩:=S2;exact hAe▸I1.kept
 have hlW:l<W.heap.size:=(Ll.1 rl).1;have rl1:w1.heap[l]?=M (Lm {state:=.ready,pending:=Ld,fn:=fn,tmps:=a0,params:=#[12,13],assign:=Ht f179 0,body:=Hd f179 0,defers:=D}):=by(rw[K1.block l hlW nl];exact rl)
 refine⟨_,run_beginRound rl1 rfl, ?_⟩;obtain⟨w2,hw2⟩:∃w2,w1.putObj l (Lm {state:=.busy,pending:=Ld,fn:=fn,tmps:=a0,params:=#[12,13],assign:=Ht f179 0,body:=Hd f179 0,defers:=D})=w2:=⟨_,rfl⟩;have rl2:w2.heap[l]?=M (Lm {state:=.busy,pending:=Ld,fn:=fn,tmps:=a0,params:=#[12,13],assign:=Ht f179 0,body:=Hd f179 0,defers:=D}):=by(rw[<-hw2];exact Lu (Ll.1 rl1).1)
 have hs2:∀g,g≠l->w2.heap[g]?=w1.heap[g]?:=λg hg=>by rw[<-hw2];exact Li hg
 have hz2:w2.heap.size=w1.heap.size:=by rw[<-hw2];exact Lv
 obtain⟨ρ1,q1,q2,qr,I1,T1',_⟩:=Z9d S2 kr kr (by show([160007,8020,6]:List Nat).Nodup;decide) (by
  intro b ty s els hm;simp only[Ab,Sf,Ln,Lq,or_false,Prod.mk.injEq,reduceCtorEq,and_false,Z3.arr.injEq,false_or]at hm;obtain⟨_,_,_,rfl⟩:=hm;exact OP pre) rl1 rl2 hz2 hs2 (by decide:1<=30)
 show(Hd f179 0).wpIn _ _ _ _ _ _;rw[hw2];refine wpIn_mono (ZaC pre x hl (M l) n _ _ _ _ _ (⟨ρ1,_,I1,T1'⟩:Sx.Sys _ _ w2 (Ab pre x).st.tmps (Ab pre x).st.H (Ab pre x).st.clk a1 w2)) ?_;rintro e a3 w3 ⟨rfl,S3⟩;have K3:Kept (λg=>∃b β,ρ1 b=M β/\β.g=M g) w2 w3:=by obtain⟨_,_,I3,_⟩:=S3;exact I3.kept
 have hrow2:∀g,rows w2 g=rows w1 g:=by(intro g;by_cases hg:g=l;subst hg;simp[rows,rl1,rl2];simp only[rows,hs2 g hg])
 have hw12:W.heap.size<=w1.heap.size:=K1.size;have own1:∀b β g,ρ1 b=M β->β.g=M g->W.heap.size<=g\/A g:=λb β g h h'=>(q2 b β g h h').imp (·.1) λh=>hAe▸h;have hl2:¬ ∃b β,ρ1 b=M β/\β.g=M l:=by(rintro⟨b,β,h,h'⟩;rcases own1 b β l h h' with k|k;omega;exact nl k)
 have box6:∀{ρ:ZM} {X:World} {H:List (Nat×Z3)} {t:Nat} {x:AV},Inv (GZ ρ) (λ_=>False) X ρ X (λ_=>False) (Bv H) t->Bv H 6=M (.box 190 [x])->∃β g,ρ 6=M β/\β.g=M g/\rows X g=1:=by(intro ρ X H t x I hH;obtain⟨β,k1,k2⟩:=I.blk 6 _ hH;have k3:=k2;obtain⟨_,_,g,_,k4,_⟩:=k2;exact⟨β,g,k1,k4,Z2B k3 k4⟩)
 have arr4:∀{ρ:ZM} {X:World} {H:List (Nat×Z3)} {t:Nat} {els:List (List DV)} {β:Bi},Inv (GZ ρ) (λ_=>False) X ρ X (λ_=>False) (Bv H) t->Bv H 8020=M (.arr 196 4 els)->ρ 8020=M β->β.s=4:=by(intro ρ X H t els β I hH h;obtain⟨β',k1,k2⟩:=I.blk 8020 _ hH;rw[h]at k1;cases k1;exact k2.1)
 have id1:∀β g,ρ1 6=M β->β.g=M g->rows w2 g=1->g=g6:=by(intro β g h h' h1;rcases q2 6 β g h h' with⟨_,k⟩|k;omega;obtain⟨b,κ,(k1:ρ b=M κ),k2⟩:=k;have hb:=hs b κ k1;simp only[Ln,Lq,or_false]at hb;rcases hb with rfl|rfl;have:=hr _ _ _ k1 k2;rw[arr4 I rfl k1,<-K1.rows g (I.bnd _ _ _ k1 k2),<-hrow2,h1]at this;omega;rw[h6]at k1;cases k1;cases k2;rfl)
 have rl3:w3.heap[l]?=M (Lm {state:=.busy,pending:=Ld,fn:=fn,tmps:=a0,params:=#[12,13],assign:=Ht f179 0,body:=Hd f179 0,defers:=D}):=by(rw[K3.block l oq hl2];exact rl2)
 refine⟨_,_,run_endRound Ld rl3,rfl, ?_⟩;obtain⟨W',hW'⟩:∃W',w3.putObj l (Lm {state:=.ready,pending:=Ld,fn:=fn,tmps:=a0,params:=#[12,13],assign:=Ht f179 0,body:=Hd f179 0,defers:=D})=W':=⟨_,rfl⟩;have rl4:W'.heap[l]?=M (Lm {state:=.ready,pending:=Ld,fn:=fn,tmps:=a0,params:=#[12,13],assign:=Ht f179 0,body:=Hd f179 0,defers:=D}):=by(rw[<-hW'];exact Lu (Ll.1 rl3).1)
 have hs4:∀g,g≠l->W'.heap[g]?=w3.heap[g]?:=λg hg=>by rw[<-hW'];exact Li hg
 have hz4:W'.heap.size=w3.heap.size:=by rw[<-hW'];exact Lv
 have hrow4:∀g,rows W' g=rows w3 g:=by(intro g;by_cases hg:g=l;subst hg;simp[rows,rl3,rl4];simp only[rows,hs4 g hg])
 have hosw:W'.os=w3.os/\W'.tape=w3.tape/\W'.output=w3.output:=by rw[<-hW'];exact⟨rfl,rfl,rfl⟩
 have hos2:w2.os=w1.os/\w2.tape=w1.tape/\w2.output=w1.output:=by rw[<-hw2];exact⟨rfl,rfl,rfl⟩
 suffices key:∃A',LJ g6 prot A' (pre++[x]) W'/\(∀g,A' g->A g\/W.heap.size<=g)/\Kept A W W' by(rw[<-hW']at key;exact key)
 obtain⟨ρ3,p1,p2,pr,I3,_,_⟩:=Z9d S3 kr kr (by show([8020,6]:List Nat).Nodup;decide) (by
  intro b ty s els hm;simp only[Sf,Ln,Lq,or_false,Prod.mk.injEq,reduceCtorEq,and_false,Z3.arr.injEq]at hm;obtain⟨_,_,_,rfl⟩:=hm;exact OP _) rl3 rl4 hz4 hs4 (by decide:1<=20)
 have own3:∀b β g,ρ3 b=M β->β.g=M g->A g\/W.heap.size<=g:=by(intro b β g h h';rcases p2 b β g h h' with⟨k,_⟩|⟨c,κ,k1,k2⟩;exact .inr oq;exact(own1 c κ g k1 k2).symm)
 have keep:Kept A W W':=by(refine⟨hosw.1.trans (K3.os.trans (hos2.1.trans K1.os)),hosw.2.1.trans (K3.tape.trans (hos2.2.1.trans K1.tape)),hosw.2.2.trans (K3.output.trans (hos2.2.2.trans K1.output)),by have:=K3.size;omega,λk hk hn=>?_,λk hk=>?_⟩;by_cases hkl:k=l;subst hkl;rw[rl4,rl];rw[hs4 k hkl,K3.block k oq ?_,hs2 k hkl,K1.block k hk hn];rintro⟨b,β,h,h'⟩;rcases own1 b β k h h' with q|q;omega;exact hn q;rw[hrow4,K3.rows k oq,hrow2,K1.rows k hk])
 refine⟨λg=>∃b β,ρ3 b=M β/\β.g=M g,⟨ρ3,λg=>Iff.rfl,I3, ?_,p1,pr,λp hpp=>?_⟩,λg ⟨b,β,h,h'⟩=>own3 b β g h h',keep⟩;obtain⟨β,g,k1,k2,k3⟩:=box6 I3 rfl;rcases p2 6 β g k1 k2 with⟨_,k⟩|⟨c,κ,m1,m2⟩;omega;have hg2:g<w2.heap.size:=I1.bnd _ _ _ m1 m2;have hr2:rows w2 g=1:=by rw[<-k3,hrow4,K3.rows g hg2]
 have hc:=q1 c κ m1;have e:g=g6:=by(simp only[Ab,Sf,Xj,L3,Ln,Lq,or_false]at hc;rcases hc with rfl|rfl|rfl;obtain⟨κ',n1,n2⟩:=I1.blk 160007 _ rfl;rw[m1]at n1;cases n1;rw[Z2B n2 m2]at hr2;simp at hr2;have:=qr _ _ _ m1 m2;rw[arr4 I1 rfl m1,hr2]at this;omega;exact id1 κ g m1 m2 hr2)
 subst e;obtain⟨βg,βs,βn⟩:=β;cases k2;exact⟨βs,βn,k1⟩;obtain⟨h1,h2⟩:=hp p hpp;have hpl:=(Ll.1 h1).1;refine⟨by rw[keep.block p.1 hpl h2];exact h1, ?_⟩;rintro⟨b,β,h,h'⟩;rcases own3 b β p.1 h h' with q|q;exact h2 q;omega
end Go.Proofs.YtkmnngahjnkdmaaGreat
namespace Go.Proofs.YtkmnngahjnkdmaaGreat
open Go.Sx Go.RowKit
def He(h:Heap)(i:Int):List Found×Bool:=if(pg h i).K=1\/(pg h i).K=2 then EL h i 256 0 else([],O)
def HP:Found:=⟨0,⟨0,0,0⟩⟩
structure Rnd (l n:Nat) (J:(Nat->Prop)->List Found->World->Prop) (Jx:World->Prop):Prop where
 keep:∀A pre X Y,J A pre X->Kept (λ_=>False) X Y->J A pre Y
 bnd:∀A pre X,J A pre X->∀g,A g->g<X.heap.size
 yes:∀A pre X x,J A pre X->pre.length<=1000->YieldAt Lf n prog l (IZ x 0) X λe X'=>e=.returned (.bool O)/\∃A',J A' (pre++[x]) X'/\(∀g,A' g->A g\/X.heap.size<=g)/\Kept A X X'
 no:∀A pre X,J A pre X->pre.length<=1000->YieldAt Lf n prog l (IZ HP 19) X λe X'=>e=.returned (.bool Lb)/\Jx X'
section
variable(h:Heap)(i:Int)(l n:Nat){J:(Nat->Prop)->List Found->World->Prop}{Jx:World->Prop}(R:Rnd l n J Jx)
def InL(J:(Nat->Prop)->List Found->World->Prop)(a:Act)(w:World):Prop:=
 ∃(b:List Found) (A c:Nat->Prop) (f:Nat) (o:Int),(He h i).1=b++(EL h i f o).1/\(He h i).2=(EL h i f o).2/\(pg h i).U-o<=f/\0<=o/\o<=1000/\b.length+f<=256/\J A b w/\Ct [] (λ_=>Ld) w c (inS h l i o).tmps a/\∀g,c g->g<w.heap.size/\¬ A g
def IC(a:Act):Nat:=match (a.tmps.getD 5 undef:Value)with|.int _ o=>((pg h i).U-o).toNat|_=>0
theorem Z4U{w Im a o}(T:Ct [] (λ_=>Ld) w Im (inS h l i o).tmps a):IC h i a=((pg h i).U-o).toNat:=by have:a.tmps.getD 5 undef=.int .i64 o:=BV (Ed T (.tmp 5));rw[IC,this]
def D2(Jx:World->Prop)(e:Ending)(a:World):Prop:=(∃v,e=.returned v)/\(((He h i).2=O/\∃A,J A (He h i).1 a)\/((He h i).2=Lb/\Jx a))
def Ml(o:Oper):Array Nat:=match o.op with|.call c=>c.argTypes|_ => #[]
theorem found_eq{ρ w Im}{f:Found}{v}(h:Zk ρ w Im f.av v):v=NZ f:=by obtain⟨b,c,d,h3,e⟩:=Hx h;rw[c];have g:∀(k:Nat) (a:k<b.size) (v:Value),[uU f.addr,nI f.hd.K,nI f.hd.length,u32 f.hd.map][k]?=M (.d (.sc v))->b[k]=v:=λk a v m=>BV (e k _ b[k] m (Xa a));have j:b.size=4:=d;simp only[NZ];congr 1;apply L9;simp[j];intro k a _;rcases k with _|_|_|_|k;exact g 0 a _ rfl;exact g 1 a _ rfl;exact g 2 a _ rfl;exact g 3 a _ rfl;omega
theorem Zbe(hw:Zz h.W)(hp:Z9 h=O)(hu:(pg h i).U<=256)(R:Rnd l n J Jx) a w(hI:InL h i l J a w) :(Zn f236 0).wpIn Lf (n+1) prog (Exit.then (λa' w'=>InL h i l J a' w'/\IC h i a'<IC h i a) (Lh 0 (bodyPost prog f236 (D2 h i (J:=J) Jx)))) a w:=by
 obtain⟨pre,A,Im,f,o,e1,e2,hf,h0,h1,hl,hJ,T,hIm⟩:=hI;have S:Sx.Sys EU Im w (inS h l i o).st.tmps (inS h l i o).st.H (inS h l i o).st.clk a w:=⟨_,_,Inv.empty (λg hg=>(hIm g hg).1) (by decide:1<=20),T⟩;by_cases hlt:o<(pg h i).U;obtain⟨f,rfl⟩:∃k,f=k+1:=⟨f-1,by omega⟩;unfold EL at e1 e2;rw[if_pos hlt]at e1 e2;have bad:¬ ((address h.C i o).2=0/\(Zc h (Bf h i o)).2=0)->∀a' w',Sx.Sys EU Im w (Tg.st ⟨tm 58 [(0,.d (.sc (Gm l)))],[],30⟩).tmps (Tg.st ⟨tm 58 [(0,.d (.sc (Gm l)))],[],30⟩).H 30 a' w' ->
   rest prog (n+1) 10 (Zn f236 0) (Exit.then (λa' w'=>InL h i l J a' w'/\IC h i a'<IC h i a) (Lh 0 (bodyPost prog f236 (D2 h i (J:=J) Jx)))) a' w':=by
  intro hb a' w' S1;rw[if_neg hb]at e1 e2;generalize hQ:Lh 0 (bodyPost prog f236 (D2 h i (J:=J) Jx))=Q0;generalize (λa' w'=>InL h i l J a' w'/\IC h i a'<IC h i a)=nx;have er:rest prog (n+1) 10 (Zn f236 0) (Exit.then nx Q0) a' w' =
    (LF 10 (Bq f236 10) Lb).wpIn Lf (n+1) prog (Exit.then (Xc.wpIn Lf (n+1) prog (Lh 1 (Exit.then nx Q0))) (Lh 1 (Exit.then nx Q0))) a' w':=by kernel_rfl
  rw[er];refine wpIn_region ?_;rw[show Lp (Bq f236 10).size=[0,1]++[2]from by kernel_rfl];refine Dm (ro:=Ld) (hints:=[]) (out:=⟨tm 58 [(0,.d (.sc (Gm l))),(55,.d (.sc (Gm l))),(56,HP.av)],Bv [],[],[]⟩) kr S1 trivial (λp hp=>by simp at hp) ?_;intro a2 w2 S2;obtain⟨o',ho,⟨ts,hop⟩,hd,hg⟩:∃o':Oper,(Bq f236 10)[2]?=M o'/\(∃ts,o'.op=.call ⟨.value (.tmp 55),#[.tmp 56,.const (.int .i64 19)],ts⟩)/\o'.dst=M 57/\o'.guard=Ld:=⟨(Bq f236 10).getD 2 La,by kernel_rfl,⟨Ml ((Bq f236 10).getD 2 La),by kernel_rfl⟩,by kernel_rfl,by kernel_rfl⟩
  have hwd:LM o' (yielded (Bq f236 10) a2.tmps)=O:=by grind[LM]
  simp only[wpOpsIn,ho,hwd,if_true];obtain⟨ρ2,Im2,I2,T2⟩:=S2;have v1:a2.eval (.tmp 55)=.func (.yield l) #[] #[]:=BV (Ed T2 (.tmp 55));have v2:a2.eval (.tmp 56)=NZ HP:=found_eq (Ed T2 (.tmp 56):Zk ρ2 w2 Im2 HP.av _);have J2:J A pre w2:=R.keep _ _ _ _ hJ I2.kept.no;refine Z4o hop v1 (show #[a2.eval (.tmp 56),a2.eval (.const (.int .i64 19))]=IZ HP 19 by rw[v2];rfl) (R.no A pre w2 J2 oq) ?_;rintro e w3 ⟨rfl,hx⟩;refine⟨_,rfl,wpIn_ret ?_⟩;show Q0 .ret _ _;rw[<-hQ];exact bodyPost_ret (results_none rfl _ _ _) (by rw[hd];exact T2.defers) ⟨⟨_,rfl⟩,.inr ⟨e2,hx⟩⟩
 by_cases ha:(address h.C i o).2=0;by_cases hh:(Zc h (Bf h i o)).2=0;rw[if_pos ⟨ha,hh⟩]at e1 e2;have sz:=Ip (Zc h (Bf h i o)).1;have sp:=Z2n hh;obtain⟨o2,ho2⟩:∃o2,o+Z1 (Zc h (Bf h i o)).1=o2:=⟨_,rfl⟩;refine Zcu h l i o hw hp ⟨h0,h1⟩ hlt ha hh _ _ _ _ _ _ _ S ?_;intro a1 w1 S1;rw[ho2]at S1 e1 e2;generalize hQ:Lh 0 (bodyPost prog f236 (D2 h i (J:=J) Jx))=Q0;have hmu:=Z4U h i l T;generalize hnx:(λa' w'=>InL h i l J a' w'/\IC h i a'<IC h i a)=nx;obtain⟨yc,hyc⟩:∃yc:Code,∀a' w',rest prog (n+1) 9 (Zn f236 0) (Exit.then nx Q0) a' w' =
  (LF 9 (Bq f236 9) Lb).wpIn Lf (n+1) prog (Exit.then ((Code.cond (.tmp 54) .ret .skip).wpIn Lf (n+1) prog (Exit.then ((Xb 1).wpIn Lf (n+1) prog (Exit.then (yc.wpIn Lf (n+1) prog (Lh 1 (Exit.then nx Q0))) (Lh 1 (Exit.then nx Q0)))) (Exit.then (yc.wpIn Lf (n+1) prog (Lh 1 (Exit.then nx Q0))) (Lh 1 (Exit.then nx Q0)))))
   (Exit.then ((Xb 1).wpIn Lf (n+1) prog (Exit.then (yc.wpIn Lf (n+1) prog (Lh 1 (Exit.then nx Q0))) (Lh 1 (Exit.then nx Q0)))) (Exit.then (yc.wpIn Lf (n+1) prog (Lh 1 (Exit.then nx Q0))) (Lh 1 (Exit.then nx Q0))))) a' w':=⟨.seq (.region 10 (Bq f236 10) Lb) .ret,λa' w'=>by kernel_rfl⟩
 rw[hyc];refine wpIn_region ?_;rw[show Lp (Bq f236 9).size=[0,1,2,3]++([4]++[5])from by kernel_rfl];refine Dm (ro:=Ld) (hints:=[]) (out:=⟨tm 58 [(0,.d (.sc (Gm l))),(1,.rp h.dvs 0),(2,.rp [Ze i] 0),(4,.rp (pg h i).dv 0),(5,nI o2),(6,uU (Bf h i o)),(8,.pt 184008 0 0),(49,.d (.sc (Gm l))),(50,uU (Bf h i o)),(51,(Zc h (Bf h i o)).1.av),(52,(Found.mk (Bf h i o) (Zc h (Bf h i o)).1).av)],Bv [(184008,.box 31 [nI (Zc h (Bf h i o)).1.K,nI (Zc h (Bf h i o)).1.length,u32 (Zc h (Bf h i o)).1.map])],[],[]⟩) kr S1 trivial (λp hp=>by simp at hp) ?_;intro a2 w2 S2;obtain⟨o',ho,⟨ts,hop⟩,hd,hg⟩:∃o':Oper,(Bq f236 9)[4]?=M o'/\(∃ts,o'.op=.call ⟨.value (.tmp 49),#[.tmp 52,.const (.int .i64 0)],ts⟩)/\o'.dst=M 53/\o'.guard=Ld:=⟨(Bq f236 9).getD 4 La,by kernel_rfl,⟨Ml ((Bq f236 9).getD 4 La),by kernel_rfl⟩,by kernel_rfl,by kernel_rfl⟩;have hwd:LM o' (yielded (Bq f236 9) a2.tmps)=O:=by grind[LM]
 rw[show([4]++[5]:List Nat)=4::[5]from rfl,wpOpsIn];simp only[ho];rw[if_pos hwd];have v1:a2.eval (.tmp 49)=.func (.yield l) #[] #[]:=by obtain⟨ρ2,Im2,I2,T2⟩:=S2;exact BV (Ed T2 (.tmp 49))
 have v2:a2.eval (.tmp 52)=NZ ⟨Bf h i o,(Zc h (Bf h i o)).1⟩:=by(obtain⟨ρ2,Im2,I2,T2⟩:=S2;exact found_eq (Ed T2 (.tmp 52):Zk ρ2 w2 Im2 (Found.mk (Bf h i o) (Zc h (Bf h i o)).1).av _))
 have S3:=Pw (s:=⟨tm 58 [(0,.d (.sc (Gm l))),(1,.rp h.dvs 0),(2,.rp [Ze i] 0),(4,.rp (pg h i).dv 0),(5,nI o2),(6,uU (Bf h i o)),(8,.pt 184008 0 0),(49,.d (.sc (Gm l))),(50,uU (Bf h i o)),(51,(Zc h (Bf h i o)).1.av),(52,(Found.mk (Bf h i o) (Zc h (Bf h i o)).1).av)],Bv [(184008,.box 31 [nI (Zc h (Bf h i o)).1.K,nI (Zc h (Bf h i o)).1.length,u32 (Zc h (Bf h i o)).1.map])],30⟩) (t:=inS h l i o2) kr kr S2;clear S2 S1;obtain⟨ρ2,Im2,I2,T2⟩:=S3;have J2:J A pre w2:=R.keep _ _ _ _ hJ I2.kept.no;refine Z4o hop v1 (show #[a2.eval (.tmp 52),a2.eval (.const (.int .i64 0))]=IZ ⟨Bf h i o,(Zc h (Bf h i o)).1⟩ 0 by rw[v2];rfl) (R.yes A pre w2 _ J2 oq) ?_;rintro e w3 ⟨rfl,A',J3,hA',K3⟩;have hIm2:∀g,Im2 g->¬ A g:=by(intro g hg hA;rcases I2.im0 g hg with k|k|k;grind;have:=R.bnd _ _ _ hJ g hA;omega;exact k.no)
 refine⟨_,rfl, ?_⟩;have T3:Ct [] (λ_=>Ld) w3 Im2 (inS h l i o2).tmps a2:=(T2.pure kr).mono ⟨K3.size,λg hg=>K3.block g (I2.imb g hg) (hIm2 g hg),K3.rows⟩ (λ_ h=>h) (λ_ _ h=>h) (λ_ _ _ h=>nomatch h);have S4:Sx.Sys EU Im2 w3 ((inS h l i o2).tmps.set 53 (bL O)) (Bv []) 20 (a2.put o'.dst (.bool O)) w3:=by(rw[hd];exact⟨_,Im2,Inv.empty (λg hg=>LV (I2.imb g hg) K3.size) dd,T3.put 53 (Zk.d (CM.sc (.bool O) rfl))⟩)
 refine P6 (ro:=Ld) (hints:=[]) (out:=⟨((inS h l i o2).tmps.set 53 (bL O)).set 54 (bL (!true)),Bv [],[],[]⟩) kr S4 trivial (λp hp=>by simp at hp) ?_;intro a5 w5 S5;have v5:a5.eval (.tmp 54)=.bool Lb:=by obtain⟨_,_,_,T5⟩:=S5;exact BV (Ed T5 (.tmp 54))
 have S6:=Pw (s:=⟨((inS h l i o2).tmps.set 53 (bL O)).set 54 (bL (!true)),Bv [],20⟩) (t:=inS h l i o2) kr kr S5;obtain⟨ρ6,Im6,I6,T6⟩:=S6;refine wpIn_cond_false v5 (wpIn_skip ?_);refine wpIn_exit ?_;show(if 1=1 then(Exit.then nx Q0) .normal a5 w5 else Exit.then nx Q0 (.exit 1) a5 w5);rw[if_pos rfl,<-hnx];have T7:=T6.pure kr;refine⟨⟨pre++[⟨Bf h i o,(Zc h (Bf h i o)).1⟩],A',Im6,f,o2, ?_,e2,by omega,by omega,by omega,by simp;omega,R.keep _ _ _ _ J3 I6.kept.no,T7,λg hg=>⟨I6.imb g hg,λhA=>?_⟩⟩, ?_⟩;rw[e1];simp;have hb:=R.bnd _ _ _ J3 g hA;rcases I6.im0 g hg with k|k|k;have:=I2.imb g k;grind;omega;exact k.no;show IC h i a5<IC h i a;rw[Z4U h i l T7,hmu];omega;exact ZhS h l i o hw hp ⟨h0,h1⟩ hlt ha hh _ _ _ _ _ _ _ S (bad (λq=>hh q.2));exact ZaV h l i o hw hp ⟨h0,h1⟩ hlt ha _ _ _ _ _ _ _ S (bad (λq=>ha q.1));refine wpIn_mono (wpIn_wide.2 (ZaZ h l i o oq _ _ _ _ _ S)) ?_;rintro e a' w' ⟨rfl,S1⟩;have hz:EL h i f o=([],O):=by
  cases f with|zero=>rfl|succ f=>grind[EL]
 rw[hz]at e1 e2;obtain⟨ρ,Im1,I1,T1⟩:=S1;show bodyPost _ _ _ .normal _ _;refine bodyPost_end (results_none rfl _ _ _) T1.defers ⟨⟨_,rfl⟩,.inl ⟨e2,A, ?_⟩⟩;rw[e1,L0];exact R.keep _ _ _ _ hJ I1.kept.no
theorem Zl9(hw:Zz h.W)(t:Z9 h=O)(hi:0<=i/\i<h.P.length)(R:Rnd l n J Jx){r Im:Nat->Prop}{W:World}{o q}(a0:∀g,Im g->g<W.heap.size/\¬ r g)(h1:Zk (λ_=>Ld) W Im (.rp h.dvs 0) o)(h2:Zk (λ_=>Ld) W Im (.rp [Ze i] 0) q)(s:J r [] W):CallsIn Lf (n+1) prog 236 #[Gm l,o,q] W (D2 h i (J:=J) Jx):=by
 have hu:(pg h i).U<=256:=(Ew t (j:=i.toNat) oq).2.2.2.2.2.2.2.1;refine callsIn_of_wp func236 (c:=Hs f236) kr trivial ?_ rfl;have S:Sx.Sys EU Im W (inE h l i).st.tmps (inE h l i).st.H (inE h l i).st.clk {tmps:=#[Gm l,o,q]++LD (Tryz.f236.ntmps-(#[Gm l,o,q]:Array Value).size) undef,defers:=[]} W:=by
  refine⟨_,Im,Inv.empty (λg b=>(a0 g b).1) (Lr 1),⟨by kernel_rfl,λk y v u m=>?_,rfl⟩⟩;rw[show(inE h l i).st.tmps=[.d (.sc (Gm l)),.rp h.dvs 0,.rp [Ze i] 0]++Lg 55 .any from by kernel_rfl,LL]at u;rw[LC]at m;split at u
  .rename_i f;have a3:k<3:=f;rw[if_pos (show k<(#[Gm l,o,q]:Array Value).size from a3)]at m;rcases k with _|_|_|k;cases u;cases m;exact .d (.sc _ rfl);all_goals grind
  have:=Lo u;rw[(Lt.1 this).2];exact .any _
 by_cases f:(pg h i).K=1\/(pg h i).K=2;refine ZdA h l i hi f _ _ _ _ _ _ _ S ?_;intro a1 w1 z;generalize hQ:bodyPost prog f236 (D2 h i (J:=J) Jx)=Q;have er:rest prog (n+1) 2 (Hs f236) Q a1 w1=(LF 2 (Bq f236 2) Lb).wpIn Lf (n+1) prog (Exit.then ((Zl f236 0).wpIn Lf (n+1) prog Q) Q) a1 w1:=by kernel_rfl
 rw[er];refine wpIn_region ?_;rw[show Lp (Bq f236 2).size=[0]from by kernel_rfl];refine P6 (ro:=Ld) (hints:=[]) (out:=⟨tm 58 [(0,.d (.sc (Gm l))),(1,.rp h.dvs 0),(2,.rp [Ze i] 0),(4,.pt 8004 0 0),(5,nI 0)],Bv [(8004,.box 79 ((pg h i).dv.map .d))],[],[]⟩) kr z trivial (λp t=>by simp at t) ?_;intro a2 w2 S2;show(Zl f236 0).wpIn Lf (n+1) prog Q a2 w2;rw[Oo kr,<-hQ];refine wpIn_block (wpIn_loop (InL h i l J) (λa _=>IC h i a) ?_ (λa w hI=>Zbe h i l n hw t hu R a w hI));obtain⟨ρ2,x,d,T2⟩:=S2;obtain⟨β,m1,m2⟩:=d.blk 8004 _ rfl;have J2:=R.keep _ _ _ _ s d.kept.no;have a5:live (Bv [(8004,Z3.box 79 ((pg h i).dv.map .d))]) 8004:=⟨_,rfl,by simp⟩;have T3:Ct [] ρ2 w2 (λg=>x g\/β.g=M g) _ a2:=T2.mono (Ext.refl _ _) (λ_ h=>.inl h) (λ_ _ h=>h) d.bnd;have T4:=(T3.reSet 4 .any (λv _=>.any v)).pure kr;have T5:=T4.reSet 4 (.rp (pg h i).dv 0) (λv m=>by
  have:=T2.tmp 4 _ v rfl m;exact TG m1 m2 this (λ_ h=>.inl h) (λ_ h=>.inr h))
 refine⟨[],r,_,256,0,by grind[He],by grind[He],by omega,by omega,by omega,by simp,J2,T5,λg b=>?_⟩;rcases b with b|b;refine⟨d.imb g b,λhA=>?_⟩;rcases d.im0 g b with k|k|k;grind;have:=R.bnd _ _ _ s g hA;omega;exact k.no;refine⟨d.bnd _ _ _ m1 b,λhA=>?_⟩;rcases d.own _ _ _ m1 b with⟨k,_⟩|k;have:=R.bnd _ _ _ s g hA;omega;exact k.no;refine wpIn_mono (wpIn_wide.2 (Zlg h l i hi f _ _ _ _ _ S)) ?_;rintro e a' w' ⟨rfl,z⟩;obtain⟨ρ,a4,I1,T1⟩:=z;refine bodyPost_ret (results_none rfl _ _ _) T1.defers ⟨⟨_,rfl⟩,.inl ⟨by grind[He],r, ?_⟩⟩;rw[He,if_neg f];exact R.keep _ _ _ _ s I1.kept.no
end
end Go.Proofs.YtkmnngahjnkdmaaGreat
namespace Go.Proofs.YtkmnngahjnkdmaaGreat
open Go.Sx
def Zj5(h:Heap) i:CP (Hs f223) (Tg.st ⟨tm 6 [(0,h.av),(1,nI i)],[],1⟩) .ret (Tg.st ⟨tm 6 [(4,.fn 236 [.pt 8002 0 0,.pt 8003 0 0])],[(8003,.box 3 [nI i]),(8002,.box 27 h.cells)],30⟩):=by exact sF [] [] Fz
def Ziq(h:Heap) i:Sq prog 1 (Hs f179) (Tg.st ⟨tm 22 [(0,h.av),(1,nI i)],[],1⟩) (Tg.st ⟨tm 22 [(1,nI i),(2,.pt 8002 0 0),(4,.pt 8004 0 0),(5,.pt 8005 0 0)],[(8005,.box 49 [nI 0]),(8004,.box 190 [.d (.sl 0 [])]),(8002,.box 27 h.cells)],20⟩):=by refine Av [] [] [] (φ:=True) ?_ kr kr kr kr;exact trivial
def ptr(g:Nat):AV:=.d (.sc (.pointer (M ⟨g,0,Ld⟩)))
def Zez g4 g5:CIn prog (Ht f179 0) (Tg.st ⟨tm 22 [(4,ptr g4),(5,ptr g5),(12,HP.av),(13,nI 19)],[],20⟩) .nrm (Tg.st ⟨tm 22 [(4,ptr g4),(5,ptr g5),(8,nI 19)],[],30⟩):=by refine Z1F [] [] [] (φ:=True) ?_ kr kr kr kr;exact trivial
end Go.Proofs.YtkmnngahjnkdmaaGreat
namespace Go.Proofs.YtkmnngahjnkdmaaGreat
open Go.Sx Go.RowKit
section
variable{P:Program}{o:Oper}{a:Act}{w:World}
theorem Z3g{t g ty:Nat}{v:Value}(e:w.heap[g]?=M (.cells #[v] ty (0,0)))(c:v.oneCell'=O)(d:RS P t=M Lb):(loadVar t ⟨g,0,Ld⟩).run P w=.ok v w:=by
 obtain⟨v',h1,h2⟩:=Z9L (P:=P) (w:=w) (t:=t) (g:=g) (off:=0) (l:=[.d (.sc v)]) (o:=0) (x:=.d (.sc v)) (ρ:=λ_=>Ld) (Im:=λ_=>False) (λj a b=>by
  cases j with
  |zero=>cases b;exact⟨v,by simp[Xs,e],c,.d (.sc _ c)⟩
  |succ j=>simp at b) (by simp[ND,d])
 grind[BV]
theorem Z5x{t g ty:Nat}{x:Operand}{v:Value}(b:o.op=.load t x)(f:a.eval x=.pointer (M ⟨g,0,Ld⟩))(e:w.heap[g]?=M (.cells #[v] ty (0,0)))(d:v.oneCell'=O)(c:RS P t=M Lb):(execOp a.eval o).run P w=.ok (.value v) w:=by simp[execOp,b,Instr.loadAt,Instr.sureAddr,f,Z3g e d c]
theorem Z0f{t g ty:Nat}{x y:Operand}{u v:Value}(c:o.op=.store t x y)(f:a.eval x=.pointer (M ⟨g,0,Ld⟩))(j:a.eval y=v)(e:w.heap[g]?=M (.cells #[u] ty (0,0)))(d:v.oneCell'=O)(hs:BG P t=1):(execOp a.eval o).run P w=.ok .skip (w.setRow g #[v]):=by have b:=Z9F d;have:=Z85 (P:=P) (t:=t) (off:=0) (v:=v) e (by grind) (Z3B oq) (by rw[b];simp) (λi u h=>by grind);rw[b]at this;simp at this;simp[execOp,c,Instr.storeAt,Instr.sureAddr,f,j,this]
theorem Zdy{t:Nat}{z:Value}(d:o.op=.alloc t)(b:zeroOf P t=M z):(execOp a.eval o).run P w=.ok (.value (.pointer (M ⟨w.heap.size,0,Ld⟩))) (w.alloc (.cells z.cells t)):=by unfold zeroOf at b;split at b;rename_i i c;simp[execOp,d,Instr.alloc,zeroValue,typeInfo,c,b,newVar,newRow];cases b
theorem NP{v:Value}{w':World}{next:Act->World->Prop}{Q}(h:(execOp a.eval o).run P w=.ok (.value v) w')(k:next (a.put o.dst v) w'):o.wp P a w next Q:=by unfold Lz;rw[h];exact k
theorem PN{w':World}{next:Act->World->Prop}{Q}(h:(execOp a.eval o).run P w=.ok .skip w')(k:next (a.put o.dst undef) w'):o.wp P a w next Q:=by unfold Lz;rw[h];exact k
theorem N6{F}{n i:Nat}{l}{ops:Array Oper}{Q}(ho:ops[i]?=M o)(hg:o.guard=Ld)(h:o.wpIn F n P a w (wpOpsIn F n P ops Q l) Q):wpOpsIn F n P ops Q (i::l) a w:=by grind[wpOpsIn,LM]
theorem OM{g ty:Nat}{cs cs':Array Value}(b:w.heap[g]?=M (.cells cs ty (0,0))):(w.setRow g cs').heap[g]?=M (.cells cs' ty (0,0)):=setRow_heap w g cs cs' ty _ b
end
def S8{A X Y Z}(h:Kept (λ_=>False) X Y)(k:Kept A Y Z)(hA:∀g,A g->X.heap.size<=g):Kept (λ_=>False) X Z:=
 ⟨k.os.trans h.os,k.tape.trans h.tape,k.output.trans h.output,Xo h.size k.size,λg a _=>by
  rw[k.block g (LV a h.size) (λq=>by grind)];exact h.block g a (λq=>q),λg a=>by rw[k.rows g (LV a h.size)];exact h.rows g a⟩
def Zie(h:Heap) i(w:World)(Im:Nat->Prop) b f(j:∀g,Im g->g<w.heap.size)(h1:Zk (λ_=>Ld) w Im h.av b)(h2:Zk (λ_=>Ld) w Im (nI i) f) :Calls prog 223 #[b,f] w λe w'=>∃p1 p2,∃Im':Nat->Prop,e=.returned (.func (.func 236) #[] #[p1,p2])/\Kept (λ_=>False) w w'/\(∀g,Im' g->(Im g\/w.heap.size<=g)/\g<w'.heap.size) /\
   Zk (λ_=>Ld) w' Im' (.rp h.dvs 0) p1/\Zk (λ_=>Ld) w' Im' (.rp [Ze i] 0) p2:=by
 refine calls_of_wp func223 (c:=Hs f223) kr ?_;have S:Sx.Sys EU Im w (tm 6 [(0,h.av),(1,nI i)]) (Bv []) 1 {tmps:=#[b,f]++LD (Tryz.f223.ntmps-(#[b,f]:Array Value).size) undef,defers:=[]} w:=by(refine⟨_,Im,Inv.empty j (Lr 1),⟨by kernel_rfl,λk y v l b=>?_,rfl⟩⟩;rw[show tm 6 [(0,h.av),(1,nI i)]=[h.av,nI i]++Lg 4 .any from by kernel_rfl,LL]at l;rw[LC]at b;split at l;grind;have:=Lo l;rw[(Lt.1 this).2];exact .any _)
 refine wp_mono (Zj5 h i _ _ _ _ _ S) ?_;rintro e o w' ⟨rfl,ρ,Im',I,T⟩;refine bodyPost_ret (results_tmp rfl _ _ _) T.defers ?_;have p:Zk ρ w' Im' (.fn 236 [.pt 8002 0 0,.pt 8003 0 0]) (o.tmps.getD 4 undef):=Ed T (.tmp 4);generalize o.tmps.getD 4 undef=fv at p;cases p with
 |fn r q =>
  rename_i d;have s:d.size=2:=r;obtain⟨p1,p2,rfl⟩:∃p1 p2,d=#[p1,p2]:=⟨d[0],d[1],by
   grind⟩
  obtain⟨β2,m,t⟩:=I.blk 8002 _ rfl;obtain⟨β3,n,u⟩:=I.blk 8003 _ rfl;refine⟨p1,p2,λg=>Im' g\/β2.g=M g\/β3.g=M g,rfl,I.kept.no,λg a=>?_,TG m t (q 0 _ p1 rfl rfl) (λ_ h=>.inl h) (λ_ h=>.inr (.inl h)),TG n u (q 1 _ p2 rfl rfl) (λ_ h=>.inl h) (λ_ h=>.inr (.inr h))⟩;rcases a with a|a|a;exact⟨(I.im0 g a).imp id (λh=>h.elim id (λh=>h.no.elim)),I.imb g a⟩;exact⟨.inr ((I.own _ _ g m a).elim (·.1) (λh=>h.no.elim)),I.bnd _ _ g m a⟩;exact⟨.inr ((I.own _ _ g n a).elim (·.1) (λh=>h.no.elim)),I.bnd _ _ g n a⟩
def rgB(fn:Func)(k:Nat):Array Oper:=match Sv k (Hd fn 0)with|some o=>o|none => #[]
def ZjU{tmps:Array Value}{W:World}{g4 g5:Nat}{v4 v5:Value}(b:tmps.getD 4 undef=.pointer (M ⟨g4,0,Ld⟩))(c:tmps.getD 5 undef=.pointer (M ⟨g5,0,Ld⟩))(c4:W.heap[g4]?=M (.cells #[v4] 190 (0,0)))(a:W.heap[g5]?=M (.cells #[v5] 49 (0,0)))(f:v4.oneCell'=O)(g:v5.oneCell'=O):(results f179 tmps).run prog W=.ok (.tuple #[v4,v5]) W:=by rw[Z7P,show Tryz.f179.results=#[.cell 4 190,.cell 5 49]from rfl];have d:=Z3g (P:=prog) (t:=190) c4 f kr;have e:=Z3g (P:=prog) (t:=49) a g kr;simp[Dd,b,c,asAddr,d,e,List.mapM_toArray]
def Z49{tmps:Array Value}{W:World}{g4 g5 D:Nat}{v4 v5:Value}{R:Ending->World->Prop}(h4:tmps.getD 4 undef=.pointer (M ⟨g4,0,Ld⟩))(h5:tmps.getD 5 undef=.pointer (M ⟨g5,0,Ld⟩))(c4:W.heap[g4]?=M (.cells #[v4] 190 (0,0)))(c5:W.heap[g5]?=M (.cells #[v5] 49 (0,0)))(o4:v4.oneCell'=O)(o5:v5.oneCell'=O)(hD:W.heap[D]?=M (.deferred (M [])))(hR:R (.returned (.tuple #[v4,v5])) (W.putObj D (.deferred Ld))) :bodyPostM Lf 10 prog f179 R .ret {tmps:=tmps,defers:=[{target:=.collected D,args:=#[]}]} W:=by
 refine⟨by simp,.inl ⟨_,_,rfl,run_takeDeferred hD, ?_⟩⟩;have n4:g4≠D:=by grind
 have n5:g5≠D:=by grind
 exact⟨_,ZjU h4 h5 ((Li n4).trans c4) ((Li n5).trans c5) o4 o5,hR⟩
def ZeR{fn:Nat}{a0:Array Value}{D l n g4 g5:Nat}{u4 u5:Value}{W:World}(ha0:a0.size=22)(ha4:a0[4]?=M (.pointer (M ⟨g4,0,Ld⟩)))(ha5:a0[5]?=M (.pointer (M ⟨g5,0,Ld⟩)))(rl:W.heap[l]?=M (Lm {state:=.ready,pending:=Ld,fn:=fn,tmps:=a0,params:=#[12,13],assign:=Ht f179 0,body:=Hd f179 0,defers:=D}))(rD:W.heap[D]?=M (.deferred (M [])))(c4:W.heap[g4]?=M (.cells #[u4] 190 (0,0)))(c5:W.heap[g5]?=M (.cells #[u5] 49 (0,0)))(h45:g4≠g5) :
  YieldAt Lf n prog l (IZ HP 19) W λe W'=>e=.returned (.bool Lb)/\W'.heap[l]?=M (Lm {state:=.done,pending:=M .ret,fn:=fn,tmps:=a0,params:=#[12,13],assign:=Ht f179 0,body:=Hd f179 0,defers:=D}) /\
   W'.heap[D]?=M (.deferred (M []))/\W'.heap[g4]?=M (.cells #[.slice Ld 0 0] 190 (0,0))/\W'.heap[g5]?=M (.cells #[.int .i64 19] 49 (0,0))/\Kept (λg=>g=l\/g=g4\/g=g5) W W':=by
 refine⟨fn,_,_,_,run_yield rl rfl,roundIn_of_wpIn trivial ?_⟩;have ef:((#[12,13]:Array Nat).zip (IZ HP 19)).foldl (λtmps (t,a)=>tmps.setIfInBounds t a) a0=(a0.setIfInBounds 12 (NZ HP)).setIfInBounds 13 (.int .i64 19):=by simp[IZ]
 show(Ht f179 0).wpIn _ n _ _ {tmps:=((#[12,13]:Array Nat).zip (IZ HP 19)).foldl (λtmps (t,a)=>tmps.setIfInBounds t a) a0,defers:=[]} W;rw[ef];have TA:Ct [] (λ_=>Ld) W (λ_=>False) (Lg 22 .any) {tmps:=a0,defers:=[]}:=by(refine⟨by rw[ha0];rfl,λi y v h1 h2=>?_,rfl⟩;have:=Lo h1;rw[(Lt.1 this).2];exact .any _)
 have T1:=(((TA.reSet 4 (ptr g4) (λv hv=>by rw[ha4]at hv;cases hv;exact .d (.sc _ rfl))).reSet 5 (ptr g5) (λv hv=>by rw[ha5]at hv;cases hv;exact .d (.sc _ rfl))).put 12 (Z70 _ W _ HP)).put 13 (Zk.d (CM.sc (LB .i64 19) rfl));have S1:Sx.Sys EU (λ_=>False) W (Tg.st ⟨tm 22 [(4,ptr g4),(5,ptr g5),(12,HP.av),(13,nI 19)],[],20⟩).tmps (Tg.st ⟨tm 22 [(4,ptr g4),(5,ptr g5),(12,HP.av),(13,nI 19)],[],20⟩).H 20 {tmps:=(a0.setIfInBounds 12 (NZ HP)).setIfInBounds 13 (.int .i64 19),defers:=[]} W:=
  ⟨_,_,Inv.empty (λ_ h=>h.elim) dd,T1⟩
 refine wpIn_mono (Zez g4 g5 (M l) n _ _ _ _ _ S1) ?_;rintro e a1 w1 ⟨rfl,ρ1,Im1,I1,T1⟩;have K1:=I1.kept.no;have same1:∀{g:Nat} {o:Obj},W.heap[g]?=M o->w1.heap[g]?=M o:=λ{g o} h=>by(rw[K1.block g (Ll.1 h).1 (λq=>q)];exact h)
 refine⟨_,run_beginRound (same1 rl) rfl, ?_⟩;obtain⟨w2,hw2⟩:∃w2,w1.putObj l (Lm {state:=.busy,pending:=Ld,fn:=fn,tmps:=a0,params:=#[12,13],assign:=Ht f179 0,body:=Hd f179 0,defers:=D})=w2:=⟨_,rfl⟩;have rl2:w2.heap[l]?=M (Lm {state:=.busy,pending:=Ld,fn:=fn,tmps:=a0,params:=#[12,13],assign:=Ht f179 0,body:=Hd f179 0,defers:=D}):=by grind[Lu]
 have hs2:∀g,g≠l->w2.heap[g]?=w1.heap[g]?:=λg hg=>by grind[Li]
 have hz2:w2.heap.size=w1.heap.size:=by grind[Lv]
 have hos2:w2.os=w1.os/\w2.tape=w1.tape/\w2.output=w1.output:=by rw[<-hw2];exact⟨rfl,rfl,rfl⟩
 have n4:g4≠l:=by grind
 have n5:g5≠l:=by grind
 have nD:D≠l:=by grind
 have T2:Ct [] (λ_=>Ld) w2 (λ_=>False) (tm 22 [(4,ptr g4),(5,ptr g5),(8,nI 19)]) a1:=by
  refine⟨T1.size,λi x v h1 h2=>?_,T1.defers⟩;have:=T1.tmp i x v h1 h2;have hx:x=.any\/∃u,x=.d (.sc u):=by
   have hm:=Lo h1;have:∀y∈tm 22 [(4,ptr g4),(5,ptr g5),(8,nI 19)],y=.any\/∃u,y=.d (.sc u):=by(rw[show tm 22 [(4,ptr g4),(5,ptr g5),(8,nI 19)]=Lg 4 .any++[ptr g4,ptr g5,.any,.any,nI 19]++Lg 13 .any from by kernel_rfl];intro y hy;simp only[Xk,Lt,Ln,Lq,or_false]at hy;rcases hy with(⟨_,rfl⟩|rfl|rfl|rfl|rfl|rfl)|⟨_,rfl⟩<;>first|exact .inl rfl|exact .inr ⟨_,rfl⟩)
   exact this x hm
  rcases hx with rfl|⟨u,rfl⟩;exact .any _;rw[BV this];have h1:(Value.oneCell' u)=O:=by(cases this with|d h=>cases h with|sc _ h=>exact h)
  exact .d (.sc _ h1)
 have S2:Sx.Sys EU (λ_=>False) w2 (tm 22 [(4,ptr g4),(5,ptr g5),(8,nI 19)]) (Bv []) 20 a1 w2:=⟨_,_,Inv.empty (λ_ h=>h.elim) dd,T2⟩;show(Hd f179 0).wpIn (fen (M l)) n prog _ a1 _;rw[hw2];generalize hQ:roundPost prog l _=Q;obtain⟨yc,hyc⟩:∃yc:Code,Hd f179 0=.block 1 (.seq (.seq (.region 5 (rgB f179 5) Lb) (.cond (.tmp 15) (.seq (.region 6 (rgB f179 6) Lb) .ret) .skip)) yc):=⟨.region 7 (rgB f179 7) Lb,by kernel_rfl⟩;rw[hyc];refine wpIn_block (wpIn_seq (wpIn_seq (wpIn_region ?_)));rw[show Lp (rgB f179 5).size=[0,1]from by kernel_rfl];refine P6 (ro:=M l) (hints:=[]) (out:=⟨tm 22 [(4,ptr g4),(5,ptr g5),(8,nI 19),(14,nI 19),(15,bL ((19:Int) != 0))],Bv [],[],[]⟩) kr S2 trivial (λp hp=>by simp at hp) ?_;intro a3 w3 S3;have v15:a3.eval (.tmp 15)=.bool O:=by obtain⟨_,_,_,T⟩:=S3;exact BV (Ed T (.tmp 15))
 refine wpIn_cond_true v15 (wpIn_seq (wpIn_region ?_));rw[show Lp (rgB f179 6).size=[0]++[1,2]from by kernel_rfl];refine Dm (ro:=M l) (hints:=[]) (out:=⟨tm 22 [(4,ptr g4),(5,ptr g5),(8,nI 19),(14,nI 19),(15,bL ((19:Int) != 0)),(16,nI 19)],Bv [],[],[]⟩) kr S3 trivial (λp hp=>by simp at hp) ?_;rintro a4 w4 ⟨ρ4,Im4,I4,T4⟩;have K4:=I4.kept.no;have same4:∀{g:Nat} {o:Obj},w2.heap[g]?=M o->w4.heap[g]?=M o:=λ{g o} h=>by(rw[K4.block g (Ll.1 h).1 (λq=>q)];exact h)
 have v4:a4.eval (.tmp 4)=.pointer (M ⟨g4,0,Ld⟩):=BV (Ed T4 (.tmp 4));have v5:a4.eval (.tmp 5)=.pointer (M ⟨g5,0,Ld⟩):=BV (Ed T4 (.tmp 5));have v16:a4.eval (.tmp 16)=.int .i64 19:=BV (Ed T4 (.tmp 16));have d4:w4.heap[g4]?=M (.cells #[u4] 190 (0,0)):=same4 (by grind);have d5:w4.heap[g5]?=M (.cells #[u5] 49 (0,0)):=same4 (by grind);have e4:=OM (cs':=#[.slice Ld 0 0]) d4;have f5:(w4.setRow g4 #[.slice Ld 0 0]).heap[g5]?=M (.cells #[u5] 49 (0,0)):=by grind[setRow_other]
 refine N6 (o:=(rgB f179 6).getD 1 La) kr kr (IF (by intro c h;cases h) (PN (Z0f (t:=190) (x:=.tmp 4) (y:=.const (.slice Ld 0 0)) (v:=.slice Ld 0 0) kr v4 rfl d4 rfl kr) ?_));refine N6 (o:=(rgB f179 6).getD 2 La) kr kr (IF (by intro c h;cases h) (PN (Z0f (t:=49) (x:=.tmp 5) (y:=.tmp 16) (v:=.int .i64 19) kr v5 v16 f5 rfl kr) ?_));generalize hw5:(w4.setRow g4 #[.slice Ld 0 0]).setRow g5 #[.int .i64 19]=w5;have sm:∀{g:Nat},g≠g4->g≠g5->w5.heap[g]?=w4.heap[g]?:=λ{g} h k=>by(grind[setRow_other])
 have rw5:∀g,rows w5 g=rows w4 g:=λg=>by grind[Ao]
 have z5:w5.heap.size=w4.heap.size:=by grind[Xt]
 have os5:w5.os=w4.os/\w5.tape=w4.tape/\w5.output=w4.output:=by rw[<-hw5];exact⟨rfl,rfl,rfl⟩
 have rl5:w5.heap[l]?=M (Lm {state:=.busy,pending:=Ld,fn:=fn,tmps:=a0,params:=#[12,13],assign:=Ht f179 0,body:=Hd f179 0,defers:=D}):=by grind
 have m4:g4≠D:=by grind
 have m5:g5≠D:=by grind
 refine wpIn_ret ?_;show Q .ret _ w5;rw[<-hQ];refine⟨_,_,run_endRound (M .ret) rl5,rfl,Lu (Ll.1 rl5).1, ?_, ?_, ?_, ?_⟩;grind[Li];grind[Li,setRow_other];grind[Li,OM];have rowl:∀(X:World) (o:Obj) (g:Nat),(∃r,X.heap[l]?=M (.loop r))->(∃r,o=.loop r)->rows (X.putObj l o) g=rows X g:=by(rintro X o g ⟨r,hr⟩ ⟨r',rfl⟩;by_cases hg:g=l;grind[rows,Lu];grind[rows,Li])
 refine⟨os5.1.trans (K4.os.trans (hos2.1.trans K1.os)),os5.2.1.trans (K4.tape.trans (hos2.2.1.trans K1.tape)),os5.2.2.trans (K4.output.trans (hos2.2.2.trans K1.output)), ?_,λg hg hn=>?_,λg hg=>?_⟩;rw[Lv,z5];have:=K1.size;have:=K4.size;omega;grind[Li];have:=K1.size;rw[rowl _ _ _ ⟨_,rl5⟩ ⟨_,rfl⟩,rw5,K4.rows g oq,<-hw2,rowl _ _ _ ⟨_,same1 rl⟩ ⟨_,rfl⟩,K1.rows g hg]
end Go.Proofs.YtkmnngahjnkdmaaGreat
namespace Go.Proofs.YtkmnngahjnkdmaaGreat
open Go.Sx Go.RowKit
def Ey(l:List Found):AV:=.d (.sl 4 (l.map Found.dv))
def C0(h:Heap)(i:Int):List Found×Int:=if(He h i).2=O then((He h i).1,0)else([],19)
def LK(w00:World)(g6:Nat)(a:List (Nat×Obj))(A:Nat->Prop)(pre:List Found)(W:World):Prop:=LJ g6 a A pre W/\Kept (λ_=>False) w00 W/\∀g,A g->w00.heap.size<=g
def Sn(F:Func)(fn:Nat)(a0:Array Value)(D:Nat)(st:LoopState)(a:Option Code):Obj:=.loop {state:=st,pending:=a,fn:=fn,tmps:=a0,params:=#[12,13],assign:=Ht F 0,body:=Hd F 0,defers:=D}
def LX(w00:World)(fn:Nat)(a0:Array Value)(l D g4 g5:Nat)(W:World):Prop:=
 W.heap[l]?=M (Sn f179 fn a0 D .done (M .ret))/\W.heap[D]?=M (.deferred (M []))/\W.heap[g4]?=M (.cells #[.slice Ld 0 0] 190 (0,0))/\W.heap[g5]?=M (.cells #[.int .i64 19] 49 (0,0))/\Kept (λ_=>False) w00 W
def Zh5{w00:World}{fn}{a0:Array Value}{D l n g4 g5 g6:Nat}{u4 u5:Value}(i:a0.size=22)(q:a0[4]?=M (.pointer (M ⟨g4,0,Ld⟩)))(r:a0[5]?=M (.pointer (M ⟨g5,0,Ld⟩)))(u:a0[6]?=M (.pointer (M ⟨g6,0,Ld⟩)))(p:g4≠g5)(h4:w00.heap.size<=g4)(h5:w00.heap.size<=g5)(hl:w00.heap.size<=l) :Rnd l n (LK w00 g6 [(l,Sn f179 fn a0 D .ready Ld),(D,.deferred (M [])),(g4,.cells #[u4] 190 (0,0)),(g5,.cells #[u5] 49 (0,0))]) (LX w00 fn a0 l D g4 g5):=by refine⟨λA c X Y ⟨J,K,d⟩ k=>⟨J.keep k,S8 K k (λ_ h=>h.elim),d⟩,λA c X ⟨⟨ρ,h1,I,_⟩,_,_⟩ g j=>?_,λA c X x ⟨J,K,d⟩ hlen=>?_,λA c X ⟨J,K,d⟩ _=>?_⟩;obtain⟨b,β,k1,k2⟩:=(h1 g).1 j;exact I.bnd b β g k1 k2;obtain⟨a,t,s,b,v,w⟩:=Zap (n:=n) (D:=D) hlen i u (List.mem_cons_self) J x;refine⟨a,t,s,b,v,w.mono ?_⟩;rintro e W' ⟨rfl,y,z,f,m⟩;refine⟨rfl,y,⟨z,S8 K m d,λg j=>?_⟩,f,m⟩;rcases f g j with h|h;exact d g h;exact Xo K.size h;obtain⟨ρ,_,_,_,_,_,o⟩:=J;have p1:=(o (l,Sn f179 fn a0 D .ready Ld) pq).1;have p2:=(o (D,.deferred (M [])) pq).1;have p3:=(o (g4,.cells #[u4] 190 (0,0)) pq).1;have p4:=(o (g5,.cells #[u5] 49 (0,0)) pq).1;obtain⟨a,t,s,b,v,w⟩:=ZeR (n:=n) i q r p1 p2 p3 p4 p;refine⟨a,t,s,b,v,w.mono ?_⟩;rintro e W' ⟨rfl,m1,m2,m3,m4,m⟩;refine⟨rfl,m1,m2,m3,m4,S8 K m (λg j=>?_)⟩;rcases j with rfl|rfl|rfl<;>assumption
def Zdo{w00 W g6 l A pre}(J:LK w00 g6 l A pre W):∃i,W.heap[g6]?=M (.cells #[i] 190 (0,0))/\i.oneCell'=O/\A g6/\∃Im:Nat->Prop,(∀g,Im g->A g/\g<W.heap.size)/\CM W Im (.sl 4 (pre.map Found.dv)) i:=by
 obtain⟨⟨ρ,s,I,⟨s6,n6,w⟩,hs,hr,hp⟩,K,u⟩:=J;obtain⟨β,y,m2⟩:=I.blk 6 _ rfl;rw[w]at y;cases y;obtain⟨_,_,g,r,e1,e2,e3,e4,e5⟩:=m2;cases e1;have hc:r.size=1:=e3;obtain⟨i,rfl⟩:∃i,r=#[i]:=⟨r[0],by
  apply L9;simp[hc];intro k hk _;rcases k with _|k;rfl;omega⟩
 have v:Zk ρ W (λ_=>False) (.ow 8020) i:=e5 0 _ i rfl rfl;have t:A g6:=(s g6).2 ⟨6,_,w,rfl⟩;refine⟨i,e2,e4 0 i rfl,t, ?_⟩;obtain⟨β2,k1,k2⟩:=I.blk 8020 _ rfl;let ρ':ZM:=λb=>if b=8020 then ρ 8020 else Ld;have j:∀b β,ρ' b=M β->b=8020/\ρ 8020=M β:=by(intro b β h;simp only[ρ']at h;split at h;exact⟨aa,h⟩;cases h)
 have I2:Sx.Inv EU (λ_=>False) w00 ρ' W (λ_=>False) (Bv [(8020,.arr 196 4 (pre.map Found.dv))]) 20:=by
  refine⟨K.imp λ_ h=>h.elim,λb b' β β' g _ _ d f _ _=>by rw[(j _ _ d).1,(j _ _ f).1],λ_ _ _ _ _ _ h=>h,λb β g d f=>I.bnd _ _ g (j _ _ d).2 f,λb β g d f=>.inl ⟨u g ((s g).2 ⟨8020,β,(j _ _ d).2,f⟩),by rw[(j _ _ d).1];decide⟩,λ_ h=>h.elim,λ_ h=>h.elim,λb B m=>?_,λb o _=>?_,⟨by decide,λb β o q=>absurd o (by rw[(j _ _ q).1];decide)⟩⟩;simp only[Bv]at m;split at m;cases m;rename_i o;subst o;exact⟨β2,by simp only[ρ',if_true];exact k1,k2.mono (Ext.refl _ _) (λ_ h=>h) (λ_ _ h=>h) I.bnd (λ_ _=>rfl) |> λh=>by
   obtain⟨a1,a2,a3,a4,a5⟩:=h;exact⟨a1,a2,a3,a4,a5⟩⟩
  cases m;simp only[ρ'];rw[if_neg oq]
 have x:Zk ρ' W (λ_=>False) (.ow 8020) i:=by
  cases v with|ow d f z p=>exact .ow (by simp only[ρ',if_true];exact d) f z p
 have:=Z3x (keep:=[]) (fr:=O) (b:=8020) (els0:=pre.map Found.dv) I2 x rfl pq ⟨_,rfl,by simp⟩ (λe he=>he) (λ_=>OP pre) (λa n c hv hn=>by
  subst hv;cases x with
  |ow d f z p =>
   rcases p with p|⟨g,q5,q6,_⟩;omega;cases q6;exact⟨_,d,q5⟩)
 refine⟨_,λg hg=>?_,this⟩;rcases hg with⟨h,_⟩|⟨b,β,_,_,d,f⟩;cases h;exact⟨(s g).2 ⟨8020,β,(j _ _ d).2,f⟩,I.bnd _ _ g (j _ _ d).2 f⟩
end Go.Proofs.YtkmnngahjnkdmaaGreat
namespace Go.Proofs.YtkmnngahjnkdmaaGreat
open Go.Sx
def Zi8(h:Heap):¬ (Zc h 0).2=0:=by
 unfold Zc;split;have:¬ (Z4 h.C 0).2.2=0:=by(unfold Z4;split;rw[if_neg oq];simp;simp)
 rw[if_neg this];simp;simp
def Zfr{h:Heap}(d:Z9 h=O){i o:Int}(hi:0<=i/\i<h.P.length)(m:0<=o/\o<h.C.pw)(e:(Zc h (Bf h i o)).2=0):(pg h i).K=2->o=0/\Z1 (Zc h (Bf h i o)).1=(pg h i).U:=by
 have g:=B7 d;have hq:=Hl.1 d;have j:Bf h i o=4096+(i*h.C.pw+o):=by(unfold Bf address;rw[if_pos g.1,if_pos (by unfold inB;simp;omega)])
 have f:=Dn (c:=h.C) (i:=i) (o:=o) g.1 oq m;rw[<-j]at f;unfold Zc at e⊢;rw[if_pos d,f]at e⊢;simp only[if_true]at e⊢;intro l;have b:(h.P.getD i.toNat La).K=2:=l;split at e;rename_i k;rw[if_pos k];split at e;simp at e;rename_i a;rw[if_neg a];simp only[b,not_or,not_and]at a;have:=a.2;simp only[true_and,not_or,Classical.not_not,forall_const]at this;exact⟨this.1,this.2⟩;simp at e
def Z67{h:Heap}(hp:Z9 h=O){i:Int}(hi:0<=i/\i<h.P.length):∀(f:Nat) (o:Int),0<=o->((pg h i).K=2->o=0) -> ((EL h i f o).2=O->Ep h i f o=M ((EL h i f o).1.map (·.addr)))/\((EL h i f o).2=Lb->Ep h i f o=Ld)
 |0,o,_,_=>⟨λ_=>rfl,λh=>by cases h⟩
 |f+1,o,h0,hk=>by
  unfold EL Ep;by_cases ho:o<(pg h i).U
  .rw[if_pos ho,if_pos ho];by_cases ha:(address h.C i o).2=0
   .by_cases hh:(Zc h (Bf h i o)).2=0
    .rw[if_pos ⟨ha,hh⟩,if_pos hh];have hpw:o<h.C.pw:=by
      unfold address at ha;split at ha
      .split at ha
       .rename_i hb;unfold inB at hb;simp at hb;omega
       .simp at ha
      .simp at ha
     have h2:=Zfr hp hi ⟨h0,hpw⟩ hh;by_cases hk2:(pg h i).K=2
     .rw[if_pos hk2];have e:EL h i f (o+Z1 (Zc h (Bf h i o)).1)=([],O):=by
       have:=h2 hk2;cases f with|zero=>rfl|succ f=>unfold EL;rw[if_neg oq]
      rw[e];exact⟨λ_=>rfl,λh=>by cases h⟩
     .rw[if_neg hk2];have sz:=Ip (Zc h (Bf h i o)).1;obtain⟨i1,i2⟩:=Z67 hp hi f (o+Z1 (Zc h (Bf h i o)).1) oq (λh=>absurd h hk2);exact⟨λh=>by rw[i1 h];rfl,λh=>by rw[i2 h];rfl⟩
    .rw[if_neg (λq=>hh q.2),if_neg hh];exact⟨λh=>(by cases h),λ_=>rfl⟩
   .have e:Bf h i o=0:=by
     unfold Bf address at *;split at ha
     .rename_i hv;split at ha
      .simp at ha
      .rename_i hb;rw[if_pos hv,if_neg hb]
     .rename_i hv;rw[if_neg hv]
    rw[if_neg (λq=>ha q.1),if_neg (by rw[e];exact Zi8 h)];exact⟨λh=>(by cases h),λ_=>rfl⟩
  .rw[if_neg ho,if_neg ho];exact⟨λ_=>rfl,λh=>(by cases h)⟩
def Z9f{h i}:∀{f:Nat} {o:Int},∀x∈(EL h i f o).1,x.hd=(Zc h x.addr).1/\(Zc h x.addr).2=0/\∃o,x.addr=Bf h i o
 |0,o,x,hx=>by simp[EL]at hx
 |f+1,o,x,hx=>by
  unfold EL at hx;split at hx
  .split at hx
   .rename_i a;rcases Ln.1 hx with rfl|hx
    .exact⟨rfl,a.2,o,rfl⟩
    .exact Z9f x hx
   .simp at hx
  .simp at hx
def Z4r{h i}:∀{f:Nat} {o:Int},(EL h i f o).1.length<=f
 |0,o=>by simp[EL]
 |f+1,o=>by
  unfold EL;split
  .split
   .have:=Z4r (h:=h) (i:=i) (f:=f) (o:=o+Z1 (Zc h (Bf h i o)).1);simp only[List.length_cons];omega
   .simp
  .simp
def Z1b{h:Heap}(hp:Z9 h=O){i:Int}(hi:0<=i/\i<h.P.length):Zh h i=((C0 h i).1.map (·.addr),(C0 h i).2):=by
 have hk:=(Ew hp (j:=i.toNat) oq);unfold Zh C0 He;rw[if_pos hp,if_pos hi];by_cases h1:(pg h i).K=0\/(pg h i).K=3;have e:(if(pg h i).K=1\/(pg h i).K=2 then EL h i 256 0 else([],O))=([],O):=if_neg oq;rw[if_pos h1,e];rfl;have h2:(pg h i).K=1\/(pg h i).K=2:=by(have:0<=(pg h i).K/\(pg h i).K<=3:=⟨hk.2.2.2.2.1,hk.2.2.2.2.2.1⟩;omega)
 rw[if_neg h1,if_pos h2];obtain⟨i1,i2⟩:=Z67 hp hi 256 0 oq (λ_=>rfl);cases e:(EL h i 256 0).2 with|true=>rw[i1 e];rfl|false=>rw[i2 e];rfl
def Z0y(h:Heap) i:(C0 h i).1.length<=256:=by unfold C0 He;split;split;exact Z4r;simp;simp
def Z52{h i}:∀x∈(C0 h i).1,x.hd=(Zc h x.addr).1/\(Zc h x.addr).2=0/\∃o,x.addr=Bf h i o:=by intro x a;unfold C0 He at a;split at a;split at a;exact Z9f x a;simp at a;simp at a
def CU(h:Heap):Nat->Nat->List Found×Int|0,_=>([],0)|f+1,i=>if(C0 h i).2=0 then(if(CU h f (i+1)).2=0 then((C0 h i).1++(CU h f (i+1)).1,0)else([],(CU h f (i+1)).2))else([],(C0 h i).2)
def CC(h:Heap):List Found×Int:=if Z9 h=O then CU h h.P.length 0 else([],1)
def Z5F{h:Heap}(a:Z9 h=O):∀(f i:Nat),i+f<=h.P.length->Cn h f i=((CU h f i).1.map (·.addr),(CU h f i).2)
 |0,i,_=>rfl
 |f+1,i,hi=>by
  unfold Cn CU;rw[Z1b a (i:=i) oq,Z5F a f (i+1) oq];simp only;split
  .split
   .simp
   .rfl
  .rfl
def Z10(h:Heap):CH h=((CC h).1.map (·.addr),(CC h).2):=by unfold CH CC;split;rename_i a;exact Z5F a _ _ oq;rfl
def Zed(h:Heap):∀(f i:Nat),¬ (CU h f i).2=0->(CU h f i).1=[]
 |0,i,e=>absurd rfl e
 |f+1,i,e=>by
  unfold CU at e⊢;split at e
  .rename_i a;rw[if_pos a];split at e
   .exact absurd rfl e
   .rename_i b;rw[if_neg b]
  .rename_i a;rw[if_neg a]
def Z7B{h}:∀(f i:Nat),∀x∈(CU h f i).1,x.hd=(Zc h x.addr).1/\(Zc h x.addr).2=0
 |0,i,x,hx=>by simp[CU]at hx
 |f+1,i,x,hx=>by
  unfold CU at hx;split at hx
  .split at hx
   .rcases Xk.1 hx with hx|hx
    .exact⟨(Z52 x hx).1,(Z52 x hx).2.1⟩
    .exact Z7B f (i+1) x hx
   .simp at hx
  .simp at hx
def Z9E{h}:∀x∈(CC h).1,x.hd=(Zc h x.addr).1/\(Zc h x.addr).2=0:=by intro x a;unfold CC at a;split at a;exact Z7B _ _ x a;simp at a
def Z4B(h:Heap):∀(f i:Nat),(CU h f i).1.length<=256*f
 |0,i=>by simp[CU]
 |f+1,i=>by
  have:=Z0y h i;have:=Z4B h f (i+1);unfold CU;split
  .split
   .simp;omega
   .simp
  .simp
def ZaB(h:Heap):(CC h).1.length<=16384:=by unfold CC;split;rename_i a;have:=Z4B h h.P.length 0;have:=B7 a;omega;simp
end Go.Proofs.YtkmnngahjnkdmaaGreat
namespace Go.Proofs.YtkmnngahjnkdmaaGreat
open Go.Sx Go.RowKit
def ZiR{h i}(e:(He h i).2=O):C0 h i=((He h i).1,0):=if_pos e
def Zcs{h i}(e:(He h i).2=Lb):C0 h i=([],19):=if_neg (by rw[e];simp)
theorem O3{w00 X}(K:Kept (λ_=>False) w00 X){g:Nat}{o}(hg:w00.heap.size<=g):Kept (λ_=>False) w00 (X.putObj g o):=by refine⟨K.os,K.tape,K.output,by rw[Lv];exact K.size,λk a _=>by rw[Li oq];exact K.block k a id,λk a=>?_⟩;have:=K.rows k a;grind[rows,Li]
theorem Zcq{w00 X}(K:Kept (λ_=>False) w00 X){g:Nat}{cs}(hg:w00.heap.size<=g):Kept (λ_=>False) w00 (X.setRow g cs):=by refine⟨K.os,K.tape,K.output,by have:=K.size;simp_all,λk a _=>by rw[setRow_other X g k _ oq];exact K.block k a id,λk a=>?_⟩;have:=K.rows k a;grind[rows,setRow_other]
theorem kept_alloc{w00 X}(K:Kept (λ_=>False) w00 X) o:Kept (λ_=>False) w00 (X.alloc o):=by have hs:=K.size;refine⟨K.os,K.tape,K.output,by simp;omega,λk a _=>by rw[Lw _ _ _ oq];exact K.block k a id,λk a=>?_⟩;have:=K.rows k a;grind[rows,Lw]
def Zk9{X:World}{l g:Nat}{x y:Option (List Deferred)}(h:X.heap[l]?=M (.deferred x)):rows (X.putObj l (.deferred y)) g=rows X g:=by grind[rows,Lu,Li]
def Zjp{X:World}{l g:Nat}{x y:Loop}(h:X.heap[l]?=M (.loop x)):rows (X.putObj l (.loop y)) g=rows X g:=by grind[rows,Lu,Li]
def Ig{a:Act}{k:Nat}{v:Value}(h:a.tmps[k]?=M v):a.eval (.tmp k)=v:=by show a.tmps.getD k undef=v;simp_all
def Sl{a:Act}{k d:Nat}{u v:Value}(h:a.tmps[k]?=M v)(hk:d≠k):(a.put (M d) u).tmps[k]?=M v:=by show(a.tmps.setIfInBounds d u)[k]?=M v;grind
def SZ{a:Act}{d:Nat}{u}(h:d<a.tmps.size):(a.put (M d) u).tmps[d]?=M u:=by show(a.tmps.setIfInBounds d u)[d]?=M u;grind
def ZlE{W:World}{g6:Nat}(k:W.heap[g6]?=M (.cells #[.slice Ld 0 0] 190 (0,0)))(c:List (Nat×Obj))(r:∀p∈c,W.heap[p.1]?=M p.2/\p.1≠g6):LJ g6 c (λg=>g=g6) [] W:=by
 have l6:g6<W.heap.size:=(Ll.1 k).1;let ρ:ZM:=λb=>if b=6 then M ⟨M g6,1,1⟩else if b=8020 then M ⟨Ld,4,0⟩else Ld;have hρ:∀b β,ρ b=M β->(b=6/\β=⟨M g6,1,1⟩)\/(b=8020/\β=⟨Ld,4,0⟩):=by grind
 have n:∀g,g=g6↔∃b β,ρ b=M β/\β.g=M g:=by(intro g;constructor;rintro rfl;exact⟨6,_,rfl,rfl⟩;grind)
 have hg:∀b β g,ρ b=M β->β.g=M g->b=6/\g=g6:=by grind
 refine⟨ρ,n,⟨Kept.refl _ _,λb b' β β' g _ _ e f q3 q4=>by grind,λ_ _ _ _ _ _ h=>h,λb β g e f=>by grind,λb β g e f=>.inr ⟨b,β,e,f⟩,λ_ h=>h.elim,λ_ h=>h.elim,λb B q=>?_,λb d _=>?_,⟨by decide,λ_ _ _ h=>h⟩⟩,⟨1,1,rfl⟩,λb β h=>?_,λb β g e f=>?_,λp j=>r p j⟩;simp only[Sf,L3,Bv]at q;split at q;rename_i d;cases q;subst d;exact⟨_,rfl,rfl,rfl,by simp[big],by simp,.inl ⟨rfl,rfl⟩⟩;split at q;rename_i d;cases q;subst d;refine⟨_,rfl,rfl,rfl,g6,_,rfl,k,rfl,λi v h=>?_,λo a v l m=>?_⟩;rcases i with _|i<;>simp at h;subst h;rfl;rcases o with _|o<;>simp at l m;subst l;subst m;exact .ow (β:=⟨Ld,4,0⟩) rfl (Lr _) (by simp[big]) (.inl rfl);cases q;all_goals grind[rows]
def Z5Q{w00 W}{Im Im':Nat->Prop}{v4 v5:Value}{l:List Found}{e:Int}(K:Kept (λ_=>False) w00 W)(f:∀g,Im' g->w00.heap.size<=g/\g<W.heap.size)(j:CM W Im' (.sl 4 (l.map Found.dv)) v4)(m:v5=.int .i64 e) :RF w00 Im O (.tu [Ey l,nI e]) [] (.tuple #[v4,v5]) W:=by subst m;refine⟨K,λ_=>Ld,Im',λg c=>.inr (f g c).1,λg c=>(f g c).2,λ_ _ _ h=>(by cases h),λ_ _ _ _ _ h=>(by cases h),λ_ _ h=>(by cases h),λk B h=>(by simp at h),.tu _ _ rfl λi a v b d=>?_⟩;rcases i with _|_|i<;>simp at b d;subst b;subst d;exact .d j;subst b;subst d;exact .d (.sc _ rfl)
def Zbn{h:Heap}{i:Int}(hw:Zz h.W)(hp:Z9 h=O)(hi:0<=i/\i<h.P.length){w00 w4}{Im Im4:Nat->Prop}{a4:Act}{g4 g5 g6:Nat}{u4 u5 p1 p2:Value}(K:Kept (λ_=>False) w00 w4)(ha:a4.tmps.size=22)(t4:a4.tmps[4]?=M (.pointer (M ⟨g4,0,Ld⟩)))(t5:a4.tmps[5]?=M (.pointer (M ⟨g5,0,Ld⟩)))(t6:a4.tmps[6]?=M (.pointer (M ⟨g6,0,Ld⟩)))(t11:a4.tmps[11]?=M (.func (.func 236) #[] #[p1,p2]))(hd:a4.defers=[])(l4:w00.heap.size<=g4)(l5:w00.heap.size<=g5)(n45:g4≠g5)(n46:g4≠g6)(n56:g5≠g6)(l6:w00.heap.size<=g6)(c4:w4.heap[g4]?=M (.cells #[u4] 190 (0,0)))(c5:w4.heap[g5]?=M (.cells #[u5] 49 (0,0)))(c6:w4.heap[g6]?=M (.cells #[.slice Ld 0 0] 190 (0,0)))(hIm:∀g,Im4 g->g<w4.heap.size/\g≠g6)(r1:Zk (λ_=>Ld) w4 Im4 (.rp h.dvs 0) p1)(r2:Zk (λ_=>Ld) w4 Im4 (.rp [Ze i] 0) p2){Q:Exit->Act->World->Prop}(hQ:bodyPostM Lf 10 prog f179 (λe w'=>∃v,e=Ending.returned v/\RF w00 Im O (AV.tu [Ey (C0 h i).1,nI (C0 h i).2]) [] v w')=Q) :(Zl f179 0).wpIn Lf 10 prog (Exit.then ((LQ (.region 8 (Bq f179 8) Lb) .ret).wpIn Lf 10 prog Q) Q) a4 w4:=by
 have hs4:=K.size;rw[show Zl f179 0=.block 0 (.rangeFunc (.tmp 11) #[12,13] (Ht f179 0) (Hd f179 0))from by kernel_rfl];refine wpIn_block (wpIn_rangeFunc ?_);intro fn hfn;have q4:g4<w4.heap.size:=(Ll.1 c4).1;have q5:g5<w4.heap.size:=(Ll.1 c5).1;have q6:g6<w4.heap.size:=(Ll.1 c6).1;obtain⟨D,hD⟩:∃D,w4.heap.size=D:=⟨_,rfl⟩;obtain⟨W1,hW1⟩:∃W1,(w4.alloc (.deferred (M []))).alloc (Sn f179 fn a4.tmps D .ready Ld)=W1:=⟨_,rfl⟩;have old:∀{g:Nat},g<D->W1.heap[g]?=w4.heap[g]?:=λ{g} hg=>by(grind[Lw])
 have atD:W1.heap[D]?=M (.deferred (M [])):=by grind[Lw,L8]
 have atL:W1.heap[D+1]?=M (Sn f179 fn a4.tmps D .ready Ld):=by(have:=L8 (w4.alloc (.deferred (M []))) (Sn f179 fn a4.tmps D .ready Ld);rw[World.size_alloc,hD]at this;rw[<-hW1];exact this)
 have z1:W1.heap.size=D+2:=by rw[<-hW1];simp;omega
 have K1:Kept (λ_=>False) w00 W1:=by grind[kept_alloc]
 have E1:Sx.Ext Im4 w4 W1:=⟨by omega,λg hg=>old (by grind),λg hg=>by grind[rows]⟩;have J0:LK w00 g6 [(D+1,Sn f179 fn a4.tmps D .ready Ld),(D,.deferred (M [])),(g4,.cells #[u4] 190 (0,0)),(g5,.cells #[u5] 49 (0,0))] (λg=>g=g6) [] W1:=by(refine⟨ZlE (by grind) _ λp hpp=>?_,K1,λg hg=>by omega⟩;simp only[Ln,Lq,or_false]at hpp;rcases hpp with rfl|rfl|rfl|rfl;grind;grind;grind;grind)
 have RR:=Zh5 (w00:=w00) (fn:=fn) (a0:=a4.tmps) (D:=D) (l:=D+1) (n:=8) (g4:=g4) (g5:=g5) (g6:=g6) (u4:=u4) (u5:=u5) ha t4 t5 t6 n45 l4 l5 oq;have v11:=Ig t11;refine⟨D+1,[{target:=.collected D,args:=#[]}],W1,{target:=.fn (.func 236) #[p1,p2],args:=#[Gm (D+1)]},W1,236,#[Gm (D+1)] ++ #[p1,p2],W1, ?_, ?_,λ_ _=>trivial, ?_,λ_=>by decide, ?_⟩;rw[<-hW1,<-hD];exact run_enterLoop_outer _ _ _ _ _;simp[resolve,t11,LG,rangeCall,Gm,go_sem];have:=Ns (P:=prog) (f:=236) kr (#[Gm (D+1)] ++ #[p1,p2]) W1;grind[invoke];refine(Zl9 h i (D+1) 8 hw hp hi RR (Im:=Im4) (λg hg=>⟨by grind,(hIm g hg).2⟩) (r1.mono E1 (λ_ h=>h) (λ_ _ h=>h) (λ_ _ _ h=>nomatch h)) (r2.mono E1 (λ_ h=>h) (λ_ _ h=>h) (λ_ _ _ h=>nomatch h)) J0).mono ?_;rintro e W2 ⟨⟨v,rfl⟩,hh⟩;rcases hh with⟨e1,A,J2⟩|⟨e1,x1,x2,x3,x4,x5⟩;obtain⟨sv,s1,s2,s3,Im',s4,s5⟩:=Zdo J2;obtain⟨⟨ρ,_,_,_,_,_,hpp⟩,K2,hge⟩:=J2;have pl:=hpp (D+1,Sn f179 fn a4.tmps D .ready Ld) pq;have pD:=hpp (D,.deferred (M [])) pq;have p4:=hpp (g4,.cells #[u4] 190 (0,0)) pq;have p5:=hpp (g5,.cells #[u5] 49 (0,0)) pq;have n6:∀{g:Nat},¬ A g->g6≠g:=λhg e=>hg (e▸s3);refine⟨Ld,_,run_endLoop pl.1 pq, ?_⟩;show(LQ (.region 8 (Bq f179 8) Lb) .ret).wpIn Lf 10 prog Q {tmps:=a4.tmps,defers:=[{target:=.collected D,args:=#[]}]++a4.defers} _;rw[hd];generalize hW3:W2.putObj (D+1) _=W3;have o3:∀{g:Nat},g≠D+1->W3.heap[g]?=W2.heap[g]?:=λ{g} hg=>by grind[Li]
 have K3:Kept (λ_=>False) w00 W3:=by grind[O3]
 have z3:W3.heap.size=W2.heap.size:=by grind[Lv]
 have d6:W3.heap[g6]?=M (.cells #[sv] 190 (0,0)):=by grind
 have d4:W3.heap[g4]?=M (.cells #[u4] 190 (0,0)):=by grind
 have d5:W3.heap[g5]?=M (.cells #[u5] 49 (0,0)):=by grind
 have dD:W3.heap[D]?=M (.deferred (M [])):=by grind
 refine wpIn_seq (wpIn_region ?_);rw[show Lp (Bq f179 8).size=[0,1,2]from by kernel_rfl];refine N6 (o:=(Bq f179 8).getD 0 La) kr kr (IF (ro:=Ld) (by intro c h;cases h) (NP (Z5x (t:=190) (x:=.tmp 6) kr (Ig t6) d6 s2 kr) ?_));have e4:(W3.setRow g4 #[sv]).heap[g4]?=M (.cells #[sv] 190 (0,0)):=OM d4;have f5:(W3.setRow g4 #[sv]).heap[g5]?=M (.cells #[u5] 49 (0,0)):=by grind[setRow_other]
 refine N6 (o:=(Bq f179 8).getD 1 La) kr kr (IF (ro:=Ld) (by intro c h;cases h) (PN (Z0f (t:=190) (x:=.tmp 4) (y:=.tmp 21) (v:=sv) kr (Ig (Sl t4 dd)) (Ig (SZ (by grind))) d4 s2 kr) ?_));refine N6 (o:=(Bq f179 8).getD 2 La) kr kr (IF (ro:=Ld) (by intro c h;cases h) (PN (Z0f (t:=49) (x:=.tmp 5) (y:=.const (.int .i64 0)) (v:=.int .i64 0) kr (Ig (Sl t5 dd)) rfl f5 rfl kr) ?_));generalize hW5:(W3.setRow g4 #[sv]).setRow g5 #[.int .i64 0]=W5;have o5:∀{g:Nat},g≠g4->g≠g5->W5.heap[g]?=W3.heap[g]?:=λ{g} h k=>by(grind[setRow_other])
 have m4:g4≠D:=by omega
 have m5:g5≠D:=by omega
 have K5:Kept (λ_=>False) w00 W5:=by grind[Zcq]
 have z5:W5.heap.size=W2.heap.size:=by grind[Xt]
 refine wpIn_ret ?_;show Q .ret _ W5;rw[<-hQ,ZiR e1];refine Z49 (g4:=g4) (g5:=g5) (v4:=sv) (v5:=.int .i64 0) (Ig (a:={tmps:=_,defers:=[]}) (Sl t4 dd)) (Ig (a:={tmps:=_,defers:=[]}) (Sl t5 dd)) ?_ ?_ s2 rfl ?_ ⟨_,rfl,Z5Q (Im':=Im') (O3 K5 oq) (λg hg=>?_) (s5.mono ⟨?_,λg hg=>?_,λg hg=>?_⟩ (λ_ h=>h)) rfl⟩;grind[setRow_other];grind[OM];grind;grind[Lv];simp_all;grind[Li];rw[Zk9 (by rw[o5 m4.symm m5.symm];exact dD),<-hW5,Ao _ g5 #[u5] #[.int .i64 0] _ f5 rfl,Ao _ g4 #[u4] #[sv] _ d4 rfl,<-hW3,Zjp pl.1]
 .refine⟨M .ret,_,run_endLoop x1 pq, ?_⟩;refine wpIn_ret ?_;show Q .ret {tmps:=a4.tmps,defers:=[{target:=.collected D,args:=#[]}]++a4.defers} _;rw[hd,<-hQ,Zcs e1];refine Z49 (g4:=g4) (g5:=g5) (v4:=.slice Ld 0 0) (v5:=.int .i64 19) (Ig (a:={tmps:=_,defers:=[]}) t4) (Ig (a:={tmps:=_,defers:=[]}) t5) ?_ ?_ rfl rfl ?_ ⟨_,rfl,Z5Q (Im':=λ_=>False) (O3 (O3 x5 oq) oq) (λ_ h=>h.elim) (.slNil _ _ _) rfl⟩;all_goals grind[Li]
def O7(h:Heap)(i:Int)(hw:Zz h.W)(hp:Z9 h=O)(hi:0<=i/\i<h.P.length):GP 179 [h.av,nI i] O (.tu [Ey (C0 h i).1,nI (C0 h i).2]) []:=by
 intro q Im vs b1 b7 b2;rw[<-callsIn_wide (n:=10)];refine callsIn_of_wp_marks func179 (c:=Hs f179) kr trivial ?_ rfl;have S0:Sx.Sys EU Im q (tm 22 [(0,h.av),(1,nI i)]) (Bv []) 1 {tmps:=vs++LD (Tryz.f179.ntmps-vs.size) undef,defers:=[]} q:=by(have a7:vs.size=2:=b7;refine⟨_,Im,Sx.Inv.empty b1 (Lr 1),⟨by rw[a7];simp[a7];kernel_rfl,λk y v hy hv=>?_,rfl⟩⟩;rw[show tm 22 [(0,h.av),(1,nI i)]=[h.av,nI i]++Lg 20 .any from by kernel_rfl,LL]at hy;rw[LC]at hv;split at hy;grind;have:=Lo hy;rw[(Lt.1 this).2];exact .any _)
 generalize hR:(λe w'=>∃v,e=Ending.returned v/\RF q Im O (AV.tu [Ey (C0 h i).1,nI (C0 h i).2]) [] v w')=R;generalize hQ:bodyPostM Lf 10 prog f179 R=Q;refine Ziq h i 10 Q _ _ _ _ _ S0 ?_;rintro a1 w1 ⟨ρ1,d,a,T1⟩;obtain⟨v2,t2,r2⟩:=T1.at (t:=2) (x:=.pt 8002 0 0) rfl;obtain⟨v4,t4,r4⟩:=T1.at (t:=4) (x:=.pt 8004 0 0) rfl;obtain⟨v5,t5,r5⟩:=T1.at (t:=5) (x:=.pt 8005 0 0) rfl;obtain⟨β2,m2,n2⟩:=a.blk 8002 _ rfl;obtain⟨β4,m4,n4⟩:=a.blk 8004 _ rfl;obtain⟨β5,m5,n5⟩:=a.blk 8005 _ rfl;have b9:Zk (λ_=>Ld) w1 (λg=>d g\/β2.g=M g) (.rp h.dvs 0) v2:=TG m2 n2 r2 (λ_ h=>.inl h) (λ_ h=>.inr h);obtain⟨l,s4,k4,e4,rfl⟩:=RL r4 rfl;obtain⟨m,s5,k5,e5,rfl⟩:=RL r5 rfl;rw[m4]at e4;cases e4;rw[m5]at e5;cases e5;have b0:l≠m:=by(rintro rfl;have:=a.inj 8004 8005 _ _ l ⟨_,rfl,by simp⟩ ⟨_,rfl,by simp⟩ m4 m5 rfl rfl;omega)
 have l4:q.heap.size<=l:=(a.own 8004 _ l m4 rfl).elim (·.1) (λh=>h.no.elim);have l5:q.heap.size<=m:=(a.own 8005 _ m m5 rfl).elim (·.1) (λh=>h.no.elim);have cell:∀{β:Bi} {ty g:Nat} {x:AV},RelB ρ1 w1 d β (.box ty [x])->β.g=M g->∃u,w1.heap[g]?=M (.cells #[u] ty (0,0)):=by
  intro β ty g x hb b;obtain⟨_,_,g',cs,q1,q2,q3,_⟩:=hb;rw[b]at q1;cases q1;have hc:cs.size=1:=q3;exact⟨cs[0],by
   have:cs=#[cs[0]]:=by grind
   grind⟩
 obtain⟨u4,c4⟩:=cell n4 rfl;obtain⟨u5,c5⟩:=cell n5 rfl;have er:rest prog 10 1 (Hs f179) Q a1 w1=(LF 1 (Bq f179 1) Lb).wpIn Lf 10 prog (Exit.then ((LQ (.seq (.region 2 (Bq f179 2) Lb) (Zl f179 0)) (.seq (.region 8 (Bq f179 8) Lb) .ret)).wpIn Lf 10 prog Q) Q) a1 w1:=by kernel_rfl
 rw[er];refine wpIn_region ?_;rw[show Lp (Bq f179 1).size=[0]from by kernel_rfl];refine N6 (o:=(Bq f179 1).getD 0 La) kr kr (IF (ro:=Ld) (by intro c h;cases h) (NP (Zdy (t:=190) (z:=.slice Ld 0 0) kr kr) ?_));show(LQ (.seq (.region 2 (Bq f179 2) Lb) (Zl f179 0)) (.seq (.region 8 (Bq f179 8) Lb) .ret)).wpIn Lf 10 prog Q (a1.put (M 6) (.pointer (M ⟨w1.heap.size,0,Ld⟩))) (w1.alloc (.cells #[.slice Ld 0 0] 190));obtain⟨w2,s⟩:∃w2,w1.alloc (.cells #[.slice Ld 0 0] 190)=w2:=⟨_,rfl⟩;rw[s];obtain⟨j,b6⟩:∃j,w1.heap.size=j:=⟨_,rfl⟩;rw[b6];have E2:Sx.Ext (λg=>d g\/β2.g=M g) w1 w2:=by(rw[<-s];refine Sx.Ext.alloc _ w1 _ ?_;rintro g (b|b);exact a.imb g b;exact a.bnd _ _ g m2 b)
 have z2:w2.heap.size=w1.heap.size+1:=by rw[<-s];simp
 have K2:Kept (λ_=>False) w1 w2:=by(rw[<-s];exact⟨rfl,rfl,rfl,by simp,λk hk _=>Lw _ _ _ hk,λk hk=>by grind[rows,Lw]⟩)
 have c6:w2.heap[j]?=M (.cells #[.slice Ld 0 0] 190 (0,0)):=by grind[L8]
 have T2:Ct [] (λ_=>Ld) w2 (λg=>d g\/β2.g=M g) (tm 22 [(1,nI i),(2,.rp h.dvs 0),(4,ptr l),(5,ptr m),(6,ptr j)]) (a1.put (M 6) (.pointer (M ⟨j,0,Ld⟩))):=by(have A1:Ct [] ρ1 w1 (λg=>d g\/β2.g=M g) _ a1:=T1.mono (Sx.Ext.refl _ _) (λ_ h=>.inl h) (λ_ _ h=>h) a.bnd;have A2:=((((A1.reSet 2 .any (λv _=>.any v)).reSet 4 .any (λv _=>.any v)).reSet 5 .any (λv _=>.any v)).pure kr);have A3:=((A2.reSet 2 (.rp h.dvs 0) (λv hv=>by grind)).reSet 4 (ptr l) (λv hv=>by rw[t4]at hv;cases hv;simp only[Xq,Xn];exact .d (.sc _ rfl))).reSet 5 (ptr m) (λv hv=>by rw[t5]at hv;cases hv;simp only[Xq,Xn];exact .d (.sc _ rfl));exact(A3.mono E2 (λ_ h=>h) (λ_ _ h=>h) (λ_ _ _ h=>nomatch h)).put 6 (Zk.d (CM.sc _ rfl)))
 have S2:Sx.Sys EU (λg=>d g\/β2.g=M g) w2 (tm 22 [(1,nI i),(2,.rp h.dvs 0),(4,ptr l),(5,ptr m),(6,ptr j)]) (Bv []) 20 (a1.put (M 6) (.pointer (M ⟨j,0,Ld⟩))) w2:=by(refine⟨_,_,Sx.Inv.empty ?_ dd,T2⟩;rintro g (b|b);have:=a.imb g b;omega;have:=a.bnd _ _ g m2 b;omega)
 refine wpIn_seq (wpIn_seq (wpIn_region ?_));rw[show Lp (Bq f179 2).size=[0,1]++[2]from by kernel_rfl];refine Dm (ro:=Ld) (hints:=[]) (out:=⟨tm 22 [(1,nI i),(2,.rp h.dvs 0),(4,ptr l),(5,ptr m),(6,ptr j),(9,h.av),(10,nI i)],Bv [],[],[]⟩) kr S2 trivial (λp hp=>by simp at hp) ?_;rintro w w3 ⟨ρ3,a9,I3,r⟩;have r:=r.pure kr;have a0:(execOp w.eval ((Bq f179 2).getD 2 La)).run prog w3=.ok (.enter 223 #[w.eval (.tmp 9),w.eval (.tmp 10)]) w3:=by
  have a6:((Bq f179 2).getD 2 La).op=.call ⟨.value (.func 223),#[.tmp 9,.tmp 10],Ml ((Bq f179 2).getD 2 La)⟩:=by kernel_rfl
  have:=Ns (P:=prog) (f:=223) kr #[w.eval (.tmp 9),w.eval (.tmp 10)] w3;have b3:w.eval (.func 223)=.func (.func 223) #[] #[]:=rfl;generalize (Bq f179 2).getD 2 La=o at a6⊢;simp[execOp,a6,resolve,b3,LG,invoke,this]
 refine N6 (o:=(Bq f179 2).getD 2 La) kr kr (IF (ro:=Ld) (by intro c h;cases h) ?_);unfold Lz;rw[a0,L7];refine(Zie h i w3 a9 _ _ I3.imb (Ed r (.tmp 9)) (Ed r (.tmp 10))).mono ?_;rintro e w4 ⟨p1,p2,a2,rfl,K4,a4,b8,a8⟩;have a5:((Bq f179 2).getD 2 La).dst=M 11:=by kernel_rfl
 rw[a5];have b4:l<j:=by grind
 have b5:m<j:=by grind
 have s1:=a.kept.size;have s3:=I3.kept.size;obtain⟨x4,y4,q4⟩:=r.at (t:=4) (x:=ptr l) rfl;obtain⟨x5,y5,q5⟩:=r.at (t:=5) (x:=ptr m) rfl;obtain⟨x6,y6,q6⟩:=r.at (t:=6) (x:=ptr j) rfl;rw[BV q4]at y4;rw[BV q5]at y5;rw[BV q6]at y6;have hz:w.tmps.size=22:=r.size;have c1:∀{g:Nat},g<w2.heap.size->w4.heap[g]?=w2.heap[g]?:=λ{g} b=>by(rw[K4.block g oq id,I3.kept.no.block g b id])
 have c0:∀{g:Nat},g<w1.heap.size->w2.heap[g]?=w1.heap[g]?:=λ{g} b=>K2.block g b id;refine Zbn hw hp hi (w4:=w4) (Im4:=a2) (g4:=l) (g5:=m) (g6:=j) (u4:=u4) (u5:=u5) (p1:=p1) (p2:=p2) (S8 (S8 (S8 a.kept.no K2 (λ_ h=>h.elim)) I3.kept.no (λ_ h=>h.elim)) K4 (λ_ h=>h.elim)) ?_ (Sl y4 dd) (Sl y5 dd) (Sl y6 dd) (SZ oq) r.defers l4 l5 b0 oq oq oq ?_ ?_ ?_ (λg b=>?_) b8 a8 (by rw[hR];exact hQ);show(w.tmps.setIfInBounds 11 _).size=22;grind;grind;grind;grind;obtain⟨h1,h2⟩:=a4 g b;refine⟨h2, ?_⟩;rcases h1 with h1|h1;rcases I3.im0 g h1 with k|k|k;rcases k with k|k;have:=a.imb g k;omega;have:=a.bnd _ _ g m2 k;omega;omega;exact k.no.elim;omega
end Go.Proofs.YtkmnngahjnkdmaaGreat
namespace Go.Proofs.YtkmnngahjnkdmaaGreat
open Go.Sx
def Z1f{l:List Found}{i:Nat}(a:i<l.length):l.take (i+1)=l.take i++[l.getD i La]:=by rw[Xm];simp[a]
def Z0N(l:List Found)(i:Nat):Tg:=⟨tm 19 [(2,.d (.sl 0 [])),(3,.ow 16003),(6,Ey l),(7,nI l.length),(8,nI i)],[(16003,.arr 44 1 (((l.take i).map (·.addr)).map wD))],60⟩
def ZdN(l:List Found)(i:Nat)(hl:l.length<=1048576)(b:i<l.length):CP (Zn f125 0) (Z0N l i).st .nrm (Z0N l (i+1)).st:=by
 have e:(l.take (i+1)).map (·.addr)=(l.take i).map (·.addr)++[(l.getD i La).addr]:=by rw[Z1f b,LS];rfl
 have en:((l.take i).map (·.addr)).length<=1048576:=by simp;omega
 let a:=l.getD i La;exact sF [(496016,16003)] (fO 5)<|Fh 16 [.els (Lc wD (Lc (λ(x:Found)=>x.addr) (Lj i l)++[a.addr]))]<|Ftb 9 (Le ((i:Int)<(l.length:Int)))<|Fek 10 Found.dv l (↑i) i<|Fs 15 (Lc wD [a.addr])<|Fa (by(simp[*];omega):(Lc wD (Lc (λ(x:Found)=>x.addr) (Lj i l))).length+(Lc wD [a.addr]).length<=2^30)<|Fa (ms:Lc wD (Lc (λ(x:Found)=>x.addr) (Lj i l))++Lc wD [a.addr]=Lc wD (Lc (λ(x:Found)=>x.addr) (Lj i l)++[a.addr]))<|Fx 17 i<|Fr (44:Int)<|Fa (by refine congrArg _ ?_;rw[e]:Lc wD (Lc (λ(x:Found)=>x.addr) (Lj i l)++[a.addr])=Lc wD (Lc (λ(x:Found)=>x.addr) (Lj (i+1) l))) Fz
def ZiF l:CP (Zn f125 0) (Z0N l l.length).st (.ext 0) (Tg.st ⟨tm 19 [(2,.d (.sl 0 [])),(3,.ow 16003)],[(16003,.arr 44 1 ((l.map (·.addr)).map wD))],60⟩):=by exact sF [] (fO 2)<|Ffb 9 (Le ((l.length:Int)<(l.length:Int)))<|Fr (44:Int)<|Fa (by refine congrArg _ ?_;refine congrArg _ ?_;simp[LU,L2,L4,LS,wD,iD]:Lc wD (Lc (λ(x:Found)=>x.addr) (Lj l.length l))=Lc wD (Lc (λ(x:Found)=>x.addr) l)) Fz
def Zdw(l:List Found)(hl:l.length<=1048576)  := Bs (S:=λj=>(Z0N l j).st) l.length (by kernel_rfl) (λj a=>ZdN l j hl a) (ZiF l)
def Z5V(l:List Found)(hl:l.length<=1048576):GP 125 [Ey l] O (Z2 (l.map (·.addr))) []:=by exact gF [] func125 []<|Fh 3 [.own]<|Fl 7 Found.dv l<|Fu (@Zdw l aa)<|Fa (H6 _:Ca (Lc wD (Lc (λ(x:Found)=>x.addr) l))) Fz
def Rj(h:Heap)(i:Int)(hw:Zz h.W)(hi:-9223372036854775808<=i/\i<=9223372036854775807):GP 136 [h.av,nI i] Lb (.tu [Z2 (Zh h i).1,nI (Zh h i).2]) []:=by
 cases hp:Z9 h with
 |false =>
  have a:Zh h i=([],1):=by unfold Zh;rw[if_neg (by rw[hp];simp)]
  rw[a];exact gF [] func136 []<|Fh 8 [.br O]<|Fc 10 (@CW h)<|Fb ((!Z9 h)=O)<|Fnl Fz
 |true =>
  have po:=B7 hp;by_cases b:0<=i/\i<h.P.length;have a:=Z1b hp b;have el:=Z0y h i;by_cases e:(C0 h i).2=0;rw[show Zh h i=(Lc (λ(x:Found)=>x.addr) (C0 h i).1,(0:Int))from by rw[a,e]];exact gF [] func136 []<|Fh 12 [.br Lb]<|Fh 29 [.br Lb]<|Fc 10 (@CW h)<|Fb ((!Z9 h)=Lb)<|FlG 19 (!decide (i<0)) Z0.dv h.P<|Fb ((Le (i<0)||Le ((h.P.length:Int)<=i))=Lb)<|Fc 25 (@O7 h i aa aa aa)<|Ffb 8 ((C0 h i).2 != 0)<|Fc 32 (@Z5V ((C0 h i).1) oq) Fz;have c:(C0 h i).1=[]:=by(unfold C0 at e⊢;split at e;exact absurd rfl e;rename_i d;rw[if_neg d])
  exact gF [] func136 (fO 5)<|Fh 8 [.br Lb]<|Fh 12 [.br Lb]<|Fc 10 (@CW h)<|Fb ((!Z9 h)=Lb)<|FlG 19 (!decide (i<0)) Z0.dv h.P<|Fb ((Le (i<0)||Le ((h.P.length:Int)<=i))=Lb)<|Fc 25 (@O7 h i aa aa aa)<|Ftb 29 ((C0 h i).2 != 0)<|Fnl (Fa (by rw[a,c];rfl:[]=Lc wD (Zh h i).1)<|Fa (by rw[a]:(C0 h i).2=(Zh h i).2) Fz);have a:Zh h i=([],2):=by unfold Zh;rw[if_pos hp,if_neg b]
  rw[a];exact gF [] func136 []<|Fh 8 [.br Lb]<|Fh 12 [.br O]<|Fc 10 (@CW h)<|Fb ((!Z9 h)=Lb)<|FlG 19 (!decide (i<0)) Z0.dv h.P<|Fb ((Le (i<0)||Le ((h.P.length:Int)<=i))=O)<|Fnl Fz
def AT(h:Heap)(i:Nat)(acc:List Found):Tg:=⟨tm 31 [(1,.pt 8001 0 0),(2,.d (.sl 0 [])),(3,nI 0),(4,.ow 24004),(13,nI h.P.length),(14,nI i)],[(24004,.arr 196 4 (acc.map Found.dv)),(8001,.box 27 h.cells)],60⟩
section
variable(h:Heap)(i:Nat)(acc:List Found)(c:Zz h.W)(b:Z9 h=O)(hl:h.P.length<=1048576)(a:acc.length<=1048576)
include c b hl a
theorem ZfB(hi:i<h.P.length)(e:(C0 h i).2=0):CP (Zn f124 0) (AT h i acc).st .nrm (AT h (i+1) (acc++(C0 h i).1)).st:=by have hn:=Z0y h i;exact sF [(512028,24004)] []<|Fh 28 [.els (Lc Found.dv (acc++(C0 h (i:Int)).1))]<|Ftb 15 (Le ((i:Int)<(h.P.length:Int)))<|Fc 20 (@O7 h ((i:Int)) aa aa oq)<|Ffb 24 ((C0 h (i:Int)).2 != 0)<|Fa (by(simp only[Ls];omega):(Lc Found.dv acc).length+(Lc Found.dv (C0 h (i:Int)).1).length<=2^30)<|Fa (ms:Lc Found.dv acc++Lc Found.dv (C0 h (i:Int)).1=Lc Found.dv (acc++(C0 h (i:Int)).1))<|Fx 29 i Fz
theorem Zhk(hi:i<h.P.length)(e:¬ (C0 h i).2=0):CP (Zn f124 0) (AT h i acc).st .ret (Tg.st ⟨tm 31 [(2,.d (.sl 0 [])),(3,nI (C0 h i).2)],[],60⟩):=by exact sF [] []<|Ftb 15 (Le ((i:Int)<(h.P.length:Int)))<|Fc 20 (@O7 h ((i:Int)) aa aa oq)<|Ftb 24 ((C0 h (i:Int)).2 != 0) Fz
omit c b hl a in
theorem Zhj:CP (Zn f124 0) (AT h h.P.length acc).st (.ext 0) (Tg.st ⟨tm 31 [(2,.d (.sl 0 [])),(3,nI 0),(4,.ow 24004)],[(24004,.arr 196 4 (acc.map Found.dv))],60⟩):=by exact sF [] []<|Ffb 15 (Le ((h.P.length:Int)<(h.P.length:Int))) Fz
end
def Z5b(h:Heap)(d:Zz h.W)(b:Z9 h=O)(hl:h.P.length<=1048576):∀(f i:Nat) (acc:List Found),i+f=h.P.length->acc.length+256*f<=1048576 -> ((CU h f i).2=0->Gh prog f124 0 (AT h i acc).st (.ext 0) (Tg.st ⟨tm 31 [(2,.d (.sl 0 [])),(3,nI 0),(4,.ow 24004)],[(24004,.arr 196 4 ((acc++(CU h f i).1).map Found.dv))],60⟩)) /\ (¬ (CU h f i).2=0->Gh prog f124 0 (AT h i acc).st .ret (Tg.st ⟨tm 31 [(2,.d (.sl 0 [])),(3,nI (CU h f i).2)],[],60⟩)):=by
 intro f;induction f with
 |zero =>
  intro i acc j _;have:i=h.P.length:=by omega
  subst this;refine⟨λ_=>?_,λe=>absurd rfl e⟩;rw[CU,L0];exact .endx (Zhj h acc)
 |succ f m =>
  intro i acc j hb;have hn:=Z0y h i;unfold CU;by_cases e:(C0 h i).2=0;rw[if_pos e];have c:=ZfB h i acc d b hl oq oq e;obtain⟨k,l⟩:=m (i+1) (acc++(C0 h i).1) oq qo;by_cases a:(CU h f (i+1)).2=0
  .rw[if_pos a];refine⟨λ_=>?_,λe=>absurd rfl e⟩;have:=k a;rw[List.append_assoc]at this;exact .next c this
  rw[if_neg a];exact⟨λe=>absurd e a,λ_=>.next c (l a)⟩;rw[if_neg e];exact⟨λg=>absurd g e,λ_=>.endr (Zhk h i acc d b hl oq oq e)⟩
def ZhW(h:Heap)(b:Zz h.W)(a:Z9 h=O)(hl:h.P.length<=64)(e:(CU h h.P.length 0).2=0):CP (Zl f124 0) (Tg.st ⟨tm 31 [(1,.pt 8001 0 0),(2,.d (.sl 0 [])),(3,nI 0),(4,.ow 24004),(13,nI h.P.length),(14,nI 0)],[(24004,.arr 196 4 []),(8001,.box 27 h.cells)],60⟩) .nrm (Tg.st ⟨tm 31 [(2,.d (.sl 0 [])),(3,nI 0),(4,.ow 24004)],[(24004,.arr 196 4 ((CU h h.P.length 0).1.map Found.dv))],60⟩):=
 ((Z5b h b a oq h.P.length 0 [] oq qo).1 e).ext kr
def Zep(h:Heap)(b:Zz h.W)(a:Z9 h=O)(hl:h.P.length<=64)(e:¬ (CU h h.P.length 0).2=0):CP (Zl f124 0) (Tg.st ⟨tm 31 [(1,.pt 8001 0 0),(2,.d (.sl 0 [])),(3,nI 0),(4,.ow 24004),(13,nI h.P.length),(14,nI 0)],[(24004,.arr 196 4 []),(8001,.box 27 h.cells)],60⟩) .ret (Tg.st ⟨tm 31 [(2,.d (.sl 0 [])),(3,nI (CU h h.P.length 0).2)],[],60⟩):=
 ((Z5b h b a oq h.P.length 0 [] oq qo).2 e).ret kr
def ZkF(h:Heap)(hw:Zz h.W)(e:(CC h).2=0):GP 124 [h.av] O (.tu [.ow 0,nI 0]) [.arr 196 4 ((CC h).1.map Found.dv)]:=by
 have a:Z9 h=O:=by(unfold CC at e;split at e;assumption;simp at e)
 have po:=B7 a;have b:CC h=CU h h.P.length 0:=by rw[CC,if_pos a]
 rw[b]at e⊢;exact gF [24004] func124 []<|Fh 4 [.own]<|Fc 9 (@CW h)<|Ffb 10 (!Z9 h)<|Fl 13 Z0.dv h.P<|Fu (@ZhW h aa aa oq aa)<|Fa (OP _:Ca (Lc Found.dv (CU h h.P.length 0).1)) Fz
def Zg7(h:Heap)(hw:Zz h.W)(e:¬ (CC h).2=0):GP 124 [h.av] O (.tu [Ey [],nI (CC h).2]) []:=by
 cases hp:Z9 h with
 |false =>
  have e7:CC h=([],1):=by rw[CC,if_neg (by rw[hp];simp)]
  refine Zb [((9:Nat),[Hint.call O (bL (Z9 h)) []]),((10:Nat),[Hint.br O])] [] [] dd func124 [O] (φ:=GP 45 [h.av] O (bL (Z9 h)) []/\(!Z9 h)=O/\O=O/\([]:List (List DV))=[]/\[]=Lc Found.dv []/\(1:Int)=(CC h).2) ?_ kr kr;exact⟨(@CW (h)),(by(simp only[bs];omega)),rfl,rfl,rfl,(by rw[e7])⟩
 |true =>
  have po:=B7 hp;have e7:CC h=CU h h.P.length 0:=by rw[CC,if_pos hp]
  rw[e7]at e⊢;refine Zb [((9:Nat),[Hint.call O (bL (Z9 h)) []]),((10:Nat),[Hint.br Lb]),((4:Nat),[Hint.own]),((13:Nat),[Hint.int (h.P.length:Int)])] [((0:Nat),Tg.mk (tm (31:Nat) [((1:Nat),AV.pt (8001:Nat) (0:Nat) (0:Nat)),((2:Nat),AV.d (DV.sl (0:Nat) [])),((3:Nat),nI (0:Int)),((4:Nat),AV.ow (24004:Nat)),((13:Nat),nI (h.P.length:Int)),((14:Nat),nI (0:Int))]) [((24004:Nat),Z3.arr 196 (4:Nat) []),((8001:Nat),Z3.box 27 h.cells)] (60:Nat),Ex.ret,Tg.mk (tm (31:Nat) [((2:Nat),AV.d (DV.sl (0:Nat) [])),((3:Nat),nI (CU h h.P.length (0:Nat)).2)]) [] (60:Nat))] [] dd func124 [] (φ:=GP 45 [h.av] O (bL (Z9 h)) []/\(!Z9 h)=Lb/\Lb=Lb/\(↑(Lc Z0.dv h.P).length:Int)=(h.P.length:Int)/\CP (Zl f124 (0:Nat)) (Tg.mk (tm (31:Nat) [((1:Nat),AV.pt (8001:Nat) (0:Nat) (0:Nat)),((2:Nat),AV.d (DV.sl (0:Nat) [])),((3:Nat),nI (0:Int)),((4:Nat),AV.ow (24004:Nat)),((13:Nat),nI (h.P.length:Int)),((14:Nat),nI (0:Int))]) [((24004:Nat),Z3.arr 196 (4:Nat) []),((8001:Nat),Z3.box 27 h.cells)] (60:Nat)).st Ex.ret (Tg.mk (tm (31:Nat) [((2:Nat),AV.d (DV.sl (0:Nat) [])),((3:Nat),nI (CU h h.P.length (0:Nat)).2)]) [] (60:Nat)).st/\([]:List (List DV))=[]) ?_ kr kr;exact⟨(@CW (h)),(by(simp only[bs];omega)),rfl,(by simp only[Ls]),(@Zep (h) aa aa oq aa),rfl⟩
def Eo(f:Found):Bool:=!(f.hd.K==0)
def Z0z(x:Found):GP 127 [x.av] O (bL (x.hd.K==0)) []:=by exact gF [] func127 [] Fz
def Cl(l:List Found):Nat:=(l.takeWhile Eo).length
def Z0M{l}{m:Nat}(h:m<Cl l):m<l.length/\((l.getD m La).hd.K==0)=Lb:=by obtain⟨a,b⟩:=AK _ _ _ h;refine⟨a, ?_⟩;rw[Ly,Xg a];simpa[Eo]using b
def Z7W{l:List Found}(h:Cl l<l.length):((l.getD (Cl l) La).hd.K==0)=O:=by
 have a:=Ar Eo l h;have b:l.getD (Cl l) La=l[(l.takeWhile Eo).length]:=by(rw[Ly,Xg h];rfl)
 rw[b];simpa[Eo]using a
def GV(l:List Found):Int:=if Cl l<l.length then Cl l else -1
def D8(l:List Found)(i:Nat):Tg:=⟨tm 19 [(0,Ey l),(1,.fn 127 []),(4,nI 0),(7,nI l.length),(8,nI i)],[],60⟩
def Z4h(l:List Found)(i:Nat)(hl:l.length<=1048576)(hi:i<l.length)(e:((l.getD i La).hd.K==0)=Lb):CP (Zn f180 0) (D8 l i).st .nrm (D8 l (i+1)).st:=by exact sF [] []<|Fh 16 [.call O (bL ((l.getD i La).hd.K==0)) [],.br Lb]<|Ftb 9 (Le ((i:Int)<(l.length:Int)))<|Fek 14 Found.dv l (↑i) i<|Fa (@Z0z (l.getD i La))<|Fa ‹((l.getD i La).hd.K==0)=Lb›<|Fx 18 i Fz
def Zc2(l:List Found)(i:Nat)(hl:l.length<=1048576)(hi:i<l.length)(e:((l.getD i La).hd.K==0)=O):CP (Zn f180 0) (D8 l i).st .ret (Tg.st ⟨tm 19 [(4,nI i)],[],60⟩):=by exact sF [] []<|Fh 16 [.call O (bL ((l.getD i La).hd.K==0)) [],.br O]<|Ftb 9 (Le ((i:Int)<(l.length:Int)))<|Fek 14 Found.dv l (↑i) i<|Fa (@Z0z (l.getD i La))<|Fa ‹((l.getD i La).hd.K==0)=O› Fz
def Zl6 l:CP (Zn f180 0) (D8 l l.length).st (.ext 0) (Tg.st ⟨tm 19 [(4,nI 0)],[],60⟩):=by exact sF [] []<|Ffb 9 (Le ((l.length:Int)<(l.length:Int))) Fz
def Zhs(l:List Found)(hl:l.length<=1048576)(h:¬ Cl l<l.length)  := Bs (S:=λj=>(D8 l j).st) l.length (by kernel_rfl) (λj a=>Z4h l j hl a (Z0M (by omega)).2) (Zl6 l)
def ZeL(l:List Found)(hl:l.length<=1048576)(h:Cl l<l.length)  := EF (S:=λj=>(D8 l j).st) (Cl l) (by kernel_rfl) (λj a=>Z4h l j hl (by omega) (Z0M a).2) (Zc2 l (Cl l) hl h (Z7W h))
def Z6C(l:List Found)(hl:l.length<=1048576):GP 180 [Ey l,.fn 127 []] O (nI (GV l)) []:=by by_cases h:Cl l<l.length;have a:GV l=Cl l:=if_pos h;rw[a];exact gF [] func180 []<|Fl 7 Found.dv l<|Fu (@ZeL l aa aa) Fz;have a:GV l=-1:=if_neg h;rw[a];exact gF [] func180 []<|Fl 7 Found.dv l<|Fu (@Zhs l aa aa) Fz
def Bd(l:List Found)(a:Nat):Nat->List Found×Nat|0=>(l,a)|m+1=>if Eo ((Bd l a m).1.getD (a+1+m) La)=O then((Bd l a m).1.set (Bd l a m).2 ((Bd l a m).1.getD (a+1+m) La),(Bd l a m).2+1)else Bd l a m
def Z1m{l:List Found}{a}(n:(l.take a).filter Eo=l.take a)(o:a<l.length)(f:Eo (l.getD a La)=Lb):∀m,a+1+m<=l.length -> (Bd l a m).1.length=l.length/\(Bd l a m).2<=a+m/\(∀k,a+1+m<=k->(Bd l a m).1.getD k La=l.getD k La)/\(Bd l a m).1.take (Bd l a m).2=(l.take (a+1+m)).filter Eo
 |0,_=>by
  refine⟨rfl,Lr _,λ_ _=>rfl, ?_⟩;show l.take a=(l.take (a+1)).filter Eo;rw[Z1f o,Xe,n];generalize l.getD a La=y at f⊢;simp[f]
 |m+1,hm=>by
  obtain⟨a1,a2,c,j⟩:=Z1m n o f m oq;have e:=c (a+1+m) (Lr _);have p:l.take (a+1+(m+1))=l.take (a+1+m)++[l.getD (a+1+m) La]:=Z1f (l:=l) (i:=a+1+m) (show a+1+m<l.length by omega);unfold Bd;rw[e,p,Xe];generalize hd:Bd l a m=d at *;by_cases b:Eo (l.getD (a+1+m) La)=O
  .rw[if_pos b];refine⟨by simp[a1],by simp only;omega,λk g=>?_, ?_⟩
   .simp only;rw[Ly,List.getElem?_set_ne oq,<-Ly];exact c k oq
   .have h:d.2<d.1.length:=by omega
    simp only;rw[<-j,Xm,List.take_set_of_le oq];generalize l.getD (a+1+m) La=y at b⊢;simp[b,h]
  .rw[if_neg b];refine⟨a1,by omega,λk g=>c k oq, ?_⟩;rw[j];generalize l.getD (a+1+m) La=y at b⊢;simp[b]
def Z6G(l:List Found):(l.take (Cl l)).filter Eo=l.take (Cl l):=by rw[Xf];intro x c;obtain⟨k,a⟩:=Xh c;rw[List.getElem?_take]at a;split at a;rename_i b;have:=(Z0M b).2;rw[Ly,a]at this;simpa[Eo]using this;cases a
def Z7M{l:List Found}(h:Cl l<l.length):Eo (l.getD (Cl l) La)=Lb:=by have:=Z7W h;show(!((l.getD (Cl l) La).hd.K==0))=Lb;rw[this];rfl
def Z5U{l:List Found}(h:Cl l<l.length):(Bd l (Cl l) (l.length-Cl l-1)).1.take (Bd l (Cl l) (l.length-Cl l-1)).2=l.filter Eo/\(Bd l (Cl l) (l.length-Cl l-1)).1.length=l.length/\(Bd l (Cl l) (l.length-Cl l-1)).2<=l.length:=by have b:=Z6G l;have c:=Z7M h;obtain⟨a1,a2,a3,a⟩:=Z1m b h c (l.length-Cl l-1) oq;refine⟨?_,a1,by omega⟩;rw[a,show Cl l+1+(l.length-Cl l-1)=l.length from by omega,List.take_length]
def Zeb{l:List Found}(h:¬ Cl l<l.length):l.filter Eo=l:=by rw[Xf];intro x c;obtain⟨k,a⟩:=Xh c;have b:k<l.length:=(L1.1 a).1;have:=(Z0M (l:=l) (m:=k) oq).2;rw[Ly,a]at this;simpa[Eo]using this
def Zcj(l:List Found)(hl:l.length<=1048576)(h:¬ Cl l<l.length):CP (Hs f126) (Tg.st ⟨tm 42 [(0,.ow 0),(1,.fn 127 [])],[(0,.arr 196 4 (l.map Found.dv))],1⟩) .ret (Tg.st ⟨tm 42 [(4,.ow 0)],[(0,.arr 196 4 (l.map Found.dv))],60⟩):=by have e7:GV l=-1:=if_neg h;exact sF [] []<|Fc 10 (@Z6C l aa)<|Ftb 12 (GV l==(-1:Int)) Fz
def Du(l:List Found)(a m:Nat):Tg:=⟨tm 42 [(0,.ow 0),(1,.fn 127 []),(5,nI (Bd l a m).2),(6,nI (a+1+m:Nat))],[(0,.arr 196 4 ((Bd l a m).1.map Found.dv))],60⟩
section
variable(l:List Found)(i0 m:Nat)(hl:l.length<=1048576)(h1:(Bd l i0 m).1.length=l.length)(h2:(Bd l i0 m).2<=i0+m)
include hl h1 h2
theorem ZgM(hm:i0+1+m<l.length)(b:(((Bd l i0 m).1.getD (i0+1+m) La).hd.K==0)=Lb):CP (Zn f126 0) (Du l i0 m).st .nrm (Du l i0 (m+1)).st:=by
 have a:Bd l i0 (m+1)=((Bd l i0 m).1.set (Bd l i0 m).2 ((Bd l i0 m).1.getD (i0+1+m) La),(Bd l i0 m).2+1):=by(rw[Bd,if_pos (by unfold Eo;rw[b];rfl)])
 have c:¬ ((Bd l i0 m).1.getD ((i0+1+m:Nat):Int).toNat La).hd.K=0:=by rw[LZ];simpa using b
 exact sF [] [Lb,Lb,O,Lb,O]<|Fh 10033 [.els (Lc Found.dv ((Bd l i0 m).1.set (↑(Bd l i0 m).2:Int).toNat ((Bd l i0 m).1.getD (↑(i0+1+m):Int).toNat La)))]<|Fl 18 Found.dv (Bd l i0 m).1<|Ftb 19 (Le ((↑(i0+1+m):Int)<(↑(Bd l i0 m).1.length:Int)))<|Fmq 25 Found.dv ((Bd l i0 m).1) (↑(i0+1+m):Int)<|Fc 28 (@Z0z ((Bd l i0 m).1.getD (↑(i0+1+m):Int).toNat La))<|Ftb 29 (!((Bd l i0 m).1.getD (↑(i0+1+m):Int).toNat La).hd.K==0)<|Fa (by(simp only[Ls];omega):0<=(↑(Bd l i0 m).2:Int)/\(↑(Bd l i0 m).2:Int).toNat<(Lc Found.dv (Bd l i0 m).1).length)<|Fa (by(simp only[Ls];omega):(↑(Bd l i0 m).2:Int).toNat<(Lc Found.dv (Bd l i0 m).1).length)<|Fa (by rw[L4];rfl:(Lc Found.dv (Bd l i0 m).1).set (↑(Bd l i0 m).2:Int).toNat [ZD ((Bd l i0 m).1.getD (↑(i0+1+m):Int).toNat La).addr,Ze ((Bd l i0 m).1.getD (↑(i0+1+m):Int).toNat La).hd.K,Ze ((Bd l i0 m).1.getD (↑(i0+1+m):Int).toNat La).hd.length,DV.sc (LB Lx ((Bd l i0 m).1.getD (↑(i0+1+m):Int).toNat La).hd.map)]=Lc Found.dv ((Bd l i0 m).1.set (↑(Bd l i0 m).2:Int).toNat ((Bd l i0 m).1.getD (↑(i0+1+m):Int).toNat La)))<|Fw 35 ((↑(Bd l i0 m).2:Int)+1) (↑((Bd l i0 m).2+1):Int)<|Fw 21 ((↑(i0+1+m):Int)+1) (↑(i0+1+m+1):Int)<|Fa (by rw[a]:(↑((Bd l i0 m).2+1):Int)=(↑(Bd l i0 (m+1)).2:Int))<|Fr (196:Int)<|Fa (by refine congrArg _ ?_;rw[a];rfl:Lc Found.dv ((Bd l i0 m).1.set (↑(Bd l i0 m).2:Int).toNat ((Bd l i0 m).1.getD (↑(i0+1+m):Int).toNat La))=Lc Found.dv (Bd l i0 (m+1)).1) Fz
theorem Zgp(hm:i0+1+m<l.length)(hk:(((Bd l i0 m).1.getD (i0+1+m) La).hd.K==0)=O):CP (Zn f126 0) (Du l i0 m).st .nrm (Du l i0 (m+1)).st:=by
 have e7:Bd l i0 (m+1)=Bd l i0 m:=by(rw[Bd,if_neg (by unfold Eo;rw[hk];simp)])
 have hk2:((Bd l i0 m).1.getD ((i0+1+m:Nat):Int).toNat La).hd.K=0:=by rw[LZ];simpa using hk
 let y0:=(Bd l i0 m).1.getD (↑(i0+1+m):Int).toNat La;exact sF [] [Lb,Lb,O,Lb,O]<|Fl 18 Found.dv (Bd l i0 m).1<|Ftb 19 (Le ((↑(i0+1+m):Int)<(↑(Bd l i0 m).1.length:Int)))<|Fmq 25 Found.dv ((Bd l i0 m).1) (↑(i0+1+m):Int)<|Fc 28 (@Z0z y0)<|Ffb 29 (!y0.hd.K==0)<|Fw 21 ((↑(i0+1+m):Int)+1) (↑(i0+1+m+1):Int)<|Fa (by rw[e7]:(↑(Bd l i0 m).2:Int)=(↑(Bd l i0 (m+1)).2:Int))<|Fr (196:Int)<|Fa (by refine congrArg _ ?_;rw[e7]:Lc Found.dv (Bd l i0 m).1=Lc Found.dv (Bd l i0 (m+1)).1) Fz
theorem Zj2(hm:i0+1+m=l.length):CP (Zn f126 0) (Du l i0 m).st (.ext 0) (Tg.st ⟨tm 42 [(0,.ow 0),(5,nI (Bd l i0 m).2)],[(0,.arr 196 4 ((Bd l i0 m).1.map Found.dv))],60⟩):=by exact sF [] []<|Fl 18 Found.dv (Bd l i0 m).1<|Ffb 19 (Le ((↑(i0+1+m):Int)<(↑(Bd l i0 m).1.length:Int))) Fz
end
def BX(l:List Found):List Found×Nat:=Bd l (Cl l) (l.length-Cl l-1)
def Zjx(l:List Found)(hl:l.length<=1048576)(h:Cl l<l.length):CP (Zl f126 0) (Tg.st ⟨tm 42 [(0,.ow 0),(1,.fn 127 []),(5,nI (GV l)),(6,nI (GV l+1))],[(0,.arr 196 4 (l.map Found.dv))],60⟩) .nrm (Tg.st ⟨tm 42 [(0,.ow 0),(5,nI (BX l).2)],[(0,.arr 196 4 ((BX l).1.map Found.dv))],60⟩):=by
 rw[show GV l=Cl l from if_pos h];have c:(l.take (Cl l)).filter Eo=l.take (Cl l):=Z6G l;have d:Eo (l.getD (Cl l) La)=Lb:=Z7M h;have a:=λm e=>Z1m c h d m e;have:=Bs (S:=λj=>(Du l (Cl l) j).st) (l.length-Cl l-1) kr (λj hj=>by
  obtain⟨a1,b,a3,a4⟩:=a j oq;cases hk:(((Bd l (Cl l) j).1.getD (Cl l+1+j) La).hd.K==0)with
  |false=>exact ZgM l (Cl l) j hl a1 b oq hk
  |true=>exact Zgp l (Cl l) j hl a1 b oq hk) (Zj2 l (Cl l) _ hl (a _ oq).1 (a _ oq).2.1 oq)
 exact this
def ZdG(l:List Found)(hl:l.length<=1048576)(h:Cl l<l.length):CP (Hs f126) (Tg.st ⟨tm 42 [(0,.ow 0),(1,.fn 127 [])],[(0,.arr 196 4 (l.map Found.dv))],1⟩) .ret (Tg.st ⟨tm 42 [(4,.os 0 0 (BX l).2)],[(0,.arr 196 4 (((BX l).1.take (BX l).2++Lg ((BX l).1.length-(BX l).2) HP).map Found.dv))],60⟩):=by have e7:GV l=Cl l:=if_pos h;obtain⟨d1,d2,d3⟩:=Z5U h;have d4:(BX l).1.length=l.length:=d2;have d5:(BX l).2<=l.length:=d3;exact sF [] (fO 6)<|Fh 20000 [.els (Lc Found.dv (Lj (↑(BX l).2:Int).toNat (BX l).1++Lg ((↑(Lc Found.dv (BX l).1).length:Int).toNat-(↑(BX l).2:Int).toNat) (Found.mk 0 (Zo.mk 0 0 0))++LR ((↑(BX l).2:Int).toNat+(Lg ((↑(Lc Found.dv (BX l).1).length:Int).toNat-(↑(BX l).2:Int).toNat) (Found.mk 0 (Zo.mk 0 0 0))).length) (BX l).1))]<|Fc 10 (@Z6C l aa)<|Ffb 12 (GV l==(-1:Int))<|Fi 15 (GV l+1)<|Fu (@Zjx l aa aa)<|Fa (by(simp only[Ls];omega):0<=(↑(BX l).2:Int)/\(↑(BX l).2:Int)<=(↑(Lc Found.dv (BX l).1).length:Int))<|Fa (by simp only[Cc,LS,LU,L2,List.map_replicate,Xi];rfl:Cc (Lc Found.dv (BX l).1) (↑(BX l).2:Int).toNat (Lg ((↑(Lc Found.dv (BX l).1).length:Int).toNat-(↑(BX l).2:Int).toNat) [ZD 0,Ze 0,Ze 0,DV.sc (LB Lx 0)])=Lc Found.dv (Lj (↑(BX l).2:Int).toNat (BX l).1++Lg ((↑(Lc Found.dv (BX l).1).length:Int).toNat-(↑(BX l).2:Int).toNat) (Found.mk 0 (Zo.mk 0 0 0))++LR ((↑(BX l).2:Int).toNat+(Lg ((↑(Lc Found.dv (BX l).1).length:Int).toNat-(↑(BX l).2:Int).toNat) (Found.mk 0 (Zo.mk 0 0 0))).length) (BX l).1))<|Fa (by simp[*]:0<=(↑(BX l).2:Int)/\(↑(BX l).2:Int)<=(↑(Lc Found.dv (Lj (↑(BX l).2:Int).toNat (BX l).1++Lg ((↑(Lc Found.dv (BX l).1).length:Int).toNat-(↑(BX l).2:Int).toNat) (Found.mk 0 (Zo.mk 0 0 0))++LR ((↑(BX l).2:Int).toNat+(Lg ((↑(Lc Found.dv (BX l).1).length:Int).toNat-(↑(BX l).2:Int).toNat) (Found.mk 0 (Zo.mk 0 0 0))).length) (BX l).1)).length:Int))<|Fr (196:Int)<|Fa (by refine congrArg _ ?_;simp only[LZ,Ls,Xi];rw[List.drop_of_length_le oq,L0];rfl:Lc Found.dv (Lj (↑(BX l).2:Int).toNat (BX l).1++Lg ((↑(Lc Found.dv (BX l).1).length:Int).toNat-(↑(BX l).2:Int).toNat) (Found.mk 0 (Zo.mk 0 0 0))++LR ((↑(BX l).2:Int).toNat+(Lg ((↑(Lc Found.dv (BX l).1).length:Int).toNat-(↑(BX l).2:Int).toNat) (Found.mk 0 (Zo.mk 0 0 0))).length) (BX l).1)=Lc Found.dv (Lj (BX l).2 (BX l).1++Lg ((BX l).1.length-(BX l).2) HP)) Fz
def Zem(h:Heap)(hw:Zz h.W)(e:(CC h).2=0):Sq prog 4 (Hs f71) (Tg.st ⟨tm 17 [(0,h.av)],[],1⟩) (Tg.st ⟨tm 17 [(4,.ow 17008)],[(17008,.arr 196 4 ((CC h).1.map Found.dv))],20⟩):=by refine Av [((8:Nat),[Hint.call O (AV.tu [AV.ow (0:Nat),nI (0:Int)]) [Z3.arr 196 (4:Nat) (Lc Found.dv (CC h).1)]])] [] [] (φ:=GP 124 [h.av] O (AV.tu [AV.ow (0:Nat),nI (0:Int)]) [Z3.arr 196 (4:Nat) (Lc Found.dv (CC h).1)]) ?_ kr kr kr kr;exact(@ZkF (h) aa aa)
def Zfa(h:Heap)(hw:Zz h.W)(e:¬ (CC h).2=0):GP 71 [h.av] O (.tu [Z2 [],nI (CC h).2]) []:=by exact gF [] func71 []<|Fc 8 (@Zg7 h aa aa)<|Ftb 12 ((CC h).2 != 0)<|Fnl Fz
end Go.Proofs.YtkmnngahjnkdmaaGreat
namespace Go.Proofs.YtkmnngahjnkdmaaGreat
open Go.Sx Go.RowKit
def ZkR{Ow Im0 w0 ρ w Im H clk x v}{s:Nat}{els:List (List DV)}{β:Bi}(I:Sx.Inv Ow Im0 w0 ρ w Im H clk)(hx:Zk ρ w Im x v)(h:EX H x=M (s,els))(d:∀a n c,v=.slice (M a) n c->n≠0->β.g=M a.block):CM w (λg=>Im g\/β.g=M g) (.sl s els) v:=by
 obtain⟨p,c,rfl,j,m,t,b⟩:=AH I hx h;by_cases f:els=[];subst f;exact .slNil _ _ _;rcases b with b|⟨q,rfl,hq,b⟩;exact absurd b f;have z:els.length≠0:=by simpa using f
 refine .sl s els q els.length c (λi o=>(w.cell? ⟨q.block,q.off+(i*s+o),Ld⟩).getD undef) rfl m j (t f) hq (.inr (d q _ c rfl z)) ?_ ?_;intro i e o y k l;obtain⟨u,k1,_⟩:=b i e o y k l;rw[k1];rfl;intro i e o y k l;obtain⟨u,k1,k2⟩:=b i e o y k l;rw[k1];exact k2.mono (Sx.Ext.refl _ _) (λg r=>.inl r)
def NT(β:Bi):ZM:=λb=>if b=0 then M β else Ld
def MW{β κ:Bi}{b:Nat}(h:NT β b=M κ):b=0/\κ=β:=by unfold NT at h;split at h;cases h;exact⟨aa,rfl⟩;cases h
def Z3w{β g}(h:OwA (GZ (NT β)) g):β.g=M g:=by obtain⟨b,κ,c,a⟩:=h;rw[(MW c).2]at a;exact a
def ZkC(l:List Found)(hl:l.length<=1048576){w:World}{Im:Nat->Prop}{β v}(a0:∀g,Im g->g<w.heap.size)(hB:RelB (NT β) w Im β (.arr 196 4 (l.map Found.dv)))(r:∀g,β.g=M g->g<w.heap.size/\¬ Im g)(hv:Zk (NT β) w Im (.ow 0) v):Calls prog 126 #[v,.func (.func 127) #[] #[]] w λe w'=>∃u,∃Im':Nat->Prop,e=.returned u/\Kept (λg=>β.g=M g) w w' /\ (∀g,Im' g->(Im g\/β.g=M g\/w.heap.size<=g)/\g<w'.heap.size)/\CM w' Im' (.sl 4 ((l.filter Eo).map Found.dv)) u:=by
 refine calls_of_wp func126 (c:=Hs f126) kr ?_;have I0:Sx.Inv (GZ (NT β)) Im w (NT β) w Im (Bv [(0,.arr 196 4 (l.map Found.dv))]) 1:=by(refine⟨Kept.refl _ _,λb b' κ κ' g _ _ p f _ _=>by rw[(MW p).1,(MW f).1],λb κ g _ p f=>?_,λb κ g p f=>?_,λb κ g p f=>?_,a0,λg h=>.inl h,λb B q=>?_,λb hb _=>?_,⟨Lr _,λ_ _ _ h=>h⟩⟩;rw[(MW p).2]at f;exact(r g f).2;rw[(MW p).2]at f;exact(r g f).1;exact .inr ⟨b,κ,p,f⟩;simp only[Bv]at q;split at q;rename_i hb;cases q;subst hb;exact⟨β,rfl,hB⟩;cases q;unfold NT;rw[if_neg oq])
 have S:Sx.Sys (GZ (NT β)) Im w (tm 42 [(0,.ow 0),(1,.fn 127 [])]) (Bv [(0,.arr 196 4 (l.map Found.dv))]) 1 {tmps:=#[v,.func (.func 127) #[] #[]]++LD (Tryz.f126.ntmps-(#[v,.func (.func 127) #[] #[]]:Array Value).size) undef,defers:=[]} w:=by(refine⟨_,Im,I0,⟨by kernel_rfl,λk y u hy hu=>?_,rfl⟩⟩;rw[show tm 42 [(0,.ow 0),(1,.fn 127 [])]=[.ow 0,.fn 127 []]++Lg 40 .any from by kernel_rfl,LL]at hy;rw[LC]at hu;split at hy;rename_i hk;have a1:k<2:=hk;rw[if_pos (show k<(#[v,.func (.func 127) #[] #[]]:Array Value).size from a1)]at hu;rcases k with _|_|k;cases hy;cases hu;exact hv;cases hy;cases hu;exact .fn rfl (λi a v h=>by simp at h);omega;have:=Lo hy;rw[(Lt.1 this).2];exact .any _)
 have fin:∀(x:AV) (els:List (List DV)) (L:List (List DV)) (t:Nat) (d:Act) (w':World),Sx.Sys (GZ (NT β)) Im w (tm 42 [(4,x)]) (Bv [(0,.arr 196 4 els)]) t d w'->(tm 42 [(4,x)]).getD 4 .any=x->(x=.ow 0\/∃o n,x=.os 0 o n)->EX (Bv [(0,.arr 196 4 els)]) x=M (4,L)->L=(l.filter Eo).map Found.dv ->
   bodyPost prog f126 (λe w'=>∃u,∃Im':Nat->Prop,e=.returned u/\Kept (λg=>β.g=M g) w w'/\(∀g,Im' g->(Im g\/β.g=M g\/w.heap.size<=g)/\g<w'.heap.size)/\CM w' Im' (.sl 4 ((l.filter Eo).map Found.dv)) u) .ret d w':=by
  rintro x els L t d w' ⟨ρ,Im',I,T⟩ hx4 hx hc hL;refine bodyPost_ret (results_tmp rfl _ _ _) T.defers ?_;have s:Zk ρ w' Im' x (d.tmps.getD 4 undef):=by
   have:=Ed T (.tmp 4);rw[show ev (tm 42 [(4,x)]) (.tmp 4)=(tm 42 [(4,x)]).getD 4 .any from rfl,hx4]at this;exact this
  generalize d.tmps.getD 4 undef=u at s;obtain⟨κ,k1,k2⟩:=I.blk 0 _ rfl;have hκ:∀g,κ.g=M g->w.heap.size<=g\/β.g=M g:=λg h=>(I.own 0 κ g k1 h).imp (·.1) Z3w;refine⟨u,λg=>Im' g\/κ.g=M g,rfl,I.kept.imp λ_ q=>Z3w q,λg h=>?_, ?_⟩
  .rcases h with h|h
   .refine⟨?_,I.imb g h⟩;rcases I.im0 g h with q|q|q
    .exact .inl q
    .exact .inr (.inr q)
    .exact .inr (.inl (Z3w q))
   .refine⟨?_,I.bnd 0 κ g k1 h⟩;rcases hκ g h with q|q
    .exact .inr (.inr q)
    .exact .inr (.inl q)
  .rw[<-hL];refine ZkR I s hc λa n c hv hn=>?_;subst hv;rcases hx with rfl|⟨o,m,rfl⟩
   .generalize j:Xr (M a) n c=vv at s;cases s with
    |ow z h2 h3 h4 =>
     injection j with e1 e2 e3;rw[k1]at z;cases z;rcases h4 with h4|⟨g,r,e,_⟩
     .omega
     .rw[<-e1]at e;cases e;exact r
   .generalize j:Xr (M a) n c=vv at s;cases s with
    |os z h2 h3 h4 h5 =>
     injection j with e1 e2 e3;rw[k1]at z;cases z;rcases h5 with h5|⟨g,r,e,_⟩
     .omega
     .rw[<-e1]at e;cases e;exact r
 by_cases h:Cl l<l.length;refine wp_mono (ZdG l hl h _ _ _ _ _ S) ?_;rintro e d w' ⟨rfl,S1⟩;obtain⟨d1,d2,d3⟩:=Z5U h;refine fin (.os 0 0 (BX l).2) _ _ _ d w' S1 rfl (.inr ⟨_,_,rfl⟩) rfl ?_;have d5:(BX l).2<=(BX l).1.length:=by have:(BX l).1.length=l.length:=d2;have:(BX l).2<=l.length:=d3;omega
 rw[List.drop_zero,<-LU,List.take_append_of_le_length (by rw[List.length_take];omega),List.take_take,Nat.min_self];exact congrArg _ d1;refine wp_mono (Zcj l hl h _ _ _ _ _ S) ?_;rintro e d w' ⟨rfl,S1⟩;refine fin (.ow 0) _ _ _ d w' S1 rfl (.inl rfl) rfl ?_;rw[Zeb h]
def Z2u{P:Program}{o:Oper}{a:Act}{w:World}{x:Operand}(b:o.op=.assign x):(execOp a.eval o).run P w=.ok (.value (a.eval x)) w:=by simp[execOp,b]
def Z9k{P:Program}{o:Oper}{a:Act}{w:World}{x:Operand}(b:o.op=.move x):(execOp a.eval o).run P w=.ok (.value (a.eval x)) w:=by simp[execOp,b]
def ZlX(h:Heap)(hw:Zz h.W)(e:(CC h).2=0):GP 71 [h.av] O (.tu [Z2 (((CC h).1.filter Eo).map (·.addr)),nI 0]) []:=by
 intro b0 Im vs c3 b8 a7;rw[<-callsIn_wide (n:=10)];refine callsIn_of_wp func71 (c:=Hs f71) kr trivial ?_ rfl;have b7:vs.size=1:=b8;have S0:Sx.Sys EU Im b0 (tm 17 [(0,h.av)]) (Bv []) 1 {tmps:=vs++LD (Tryz.f71.ntmps-vs.size) undef,defers:=[]} b0:=by(refine⟨_,Im,Sx.Inv.empty c3 (Lr 1),⟨by rw[b7];simp[b7];kernel_rfl,λk y v hy hv=>?_,rfl⟩⟩;rw[show tm 17 [(0,h.av)]=[h.av]++Lg 16 .any from by kernel_rfl,LL]at hy;rw[LC]at hv;split at hy;rename_i hk;rw[if_pos (by rw[b8];exact hk)]at hv;exact a7 k y v hy hv;have:=Lo hy;rw[(Lt.1 this).2];exact .any _)
 generalize hR:(λe w'=>∃v,e=Ending.returned v/\RF b0 Im O (AV.tu [Z2 (((CC h).1.filter Eo).map (·.addr)),nI 0]) [] v w')=R;generalize hQ:bodyPost prog f71 R=Q;refine Zem h hw e 10 Q _ _ _ _ _ S0 ?_;rintro a1 w1 ⟨ρ1,b9,I1,T1⟩;obtain⟨v4,t4,r4⟩:=T1.at (t:=4) (x:=.ow 17008) rfl;obtain⟨β,m,n⟩:=I1.blk 17008 _ rfl;have c8:a1.tmps.size=17:=T1.size;have er:rest prog 10 4 (Hs f71) Q a1 w1=(LF 4 (Bq f71 4) Lb).wpIn Lf 10 prog (Exit.then (Xc.wpIn Lf 10 prog Q) Q) a1 w1:=by kernel_rfl
 rw[er];refine wpIn_region ?_;rw[show Lp (Bq f71 4).size=[0,1,2,3,4]from by kernel_rfl];refine N6 (o:=(Bq f71 4).getD 0 La) kr kr (IF (ro:=Ld) (by intro c h;cases h) (NP (Z9k (x:=.tmp 4) kr) ?_));rw[show((Bq f71 4).getD 0 La).dst=M 14 from by kernel_rfl,Ig t4];generalize a5:a1.put (M 14) v4=a2;have d2:a2.tmps[14]?=M v4:=by rw[<-a5];exact SZ oq
 have c9:a2.tmps.size=17:=by rw[<-a5];show(a1.tmps.setIfInBounds 14 v4).size=17;rw[LN];exact c8
 have c5:a2.defers=[]:=by rw[<-a5];exact T1.defers
 have a8:(execOp a2.eval ((Bq f71 4).getD 1 La)).run prog w1=.ok (.enter 126 #[v4,.func (.func 127) #[] #[]]) w1:=by
  have l:((Bq f71 4).getD 1 La).op=.call ⟨.value (.func 126),#[.tmp 14,.func 127],Ml ((Bq f71 4).getD 1 La)⟩:=by kernel_rfl
  have:=Ns (P:=prog) (f:=126) kr #[v4,.func (.func 127) #[] #[]] w1;have a9:∀f,a2.eval (.func f)=.func (.func f) #[] #[]:=λf=>rfl;have j:=Ig d2;generalize (Bq f71 4).getD 1 La=o at l⊢;simp[execOp,l,resolve,a9,j,LG,invoke,this]
 refine N6 (o:=(Bq f71 4).getD 1 La) kr kr (IF (ro:=Ld) (by intro c h;cases h) ?_);unfold Lz;rw[a8,L7];have al:=ZaB h;refine(ZkC (CC h).1 oq (w:=w1) (Im:=b9) (β:=β) I1.imb (by
  obtain⟨b1,b2,b3,b4,b5⟩:=n;refine⟨b1,b2,b3,b4,b5⟩) (λg z=>⟨I1.bnd _ _ g m z,I1.notIm _ _ g ⟨_,rfl,by simp⟩ m z⟩) (by
  cases r4 with
  |ow h1 h2 h3 h4=>rw[m]at h1;cases h1;exact .ow rfl h2 h3 h4)).mono ?_
 rintro e w2 ⟨u,c0,rfl,K2,b6,hu⟩;rw[show((Bq f71 4).getD 1 La).dst=M 15 from by kernel_rfl];show wpOpsIn _ _ _ _ _ [2,3,4] (a2.put (M 15) u) w2;generalize a6:a2.put (M 15) u=a3;have d3:a3.tmps[15]?=M u:=by rw[<-a6];exact SZ oq
 have d0:a3.tmps.size=17:=by rw[<-a6];show(a2.tmps.setIfInBounds 15 u).size=17;rw[LN];exact c9
 have c6:a3.defers=[]:=by rw[<-a6];exact c5
 have s:(execOp a3.eval ((Bq f71 4).getD 2 La)).run prog w2=.ok (.enter 125 #[u]) w2:=by
  have l:((Bq f71 4).getD 2 La).op=.call ⟨.value (.func 125),#[.tmp 15],Ml ((Bq f71 4).getD 2 La)⟩:=by kernel_rfl
  have:=Ns (P:=prog) (f:=125) kr #[u] w2;have a9:∀f,a3.eval (.func f)=.func (.func f) #[] #[]:=λf=>rfl;have j:=Ig d3;generalize (Bq f71 4).getD 2 La=o at l⊢;simp[execOp,l,resolve,a9,j,LG,invoke,this]
 refine N6 (o:=(Bq f71 4).getD 2 La) kr kr (IF (ro:=Ld) (by intro c h;cases h) ?_);unfold Lz;rw[s,L7];refine(Z5V ((CC h).1.filter Eo) (by have:=List.length_filter_le Eo (CC h).1;omega) w2 c0 #[u] (λg z=>(b6 g z).2) rfl (λi x v hx hv=>by
  rcases i with _|i;cases hx;cases hv;exact .d hu;simp at hx)).mono ?_
 rintro e w3 ⟨b,rfl,K3,ρ3,p,c1,c2,_,_,d4,_,r2⟩;rw[show((Bq f71 4).getD 2 La).dst=M 16 from by kernel_rfl];show wpOpsIn _ _ _ _ _ [3,4] (a3.put (M 16) b) w3;have d1:CM w3 p (.sl 1 ((((CC h).1.filter Eo).map (·.addr)).map wD)) b:=by(cases r2 with|d r=>exact r)
 refine N6 (o:=(Bq f71 4).getD 3 La) kr kr (IF (ro:=Ld) (by intro c h;cases h) (NP (Z2u (x:=.tmp 16) kr) ?_));refine N6 (o:=(Bq f71 4).getD 4 La) kr kr (IF (ro:=Ld) (by intro c h;cases h) (NP (Z2u (x:=.const (.int .i64 0)) kr) ?_));rw[show((Bq f71 4).getD 3 La).dst=M 2 from by kernel_rfl,show((Bq f71 4).getD 4 La).dst=M 3 from by kernel_rfl,Ig (a:=a3.put (M 16) b) (SZ oq)];have a0:(a3.put (M 16) b).tmps.size=17:=by show(a3.tmps.setIfInBounds 16 b).size=17;rw[LN];exact d0
 generalize c4:a3.put (M 16) b=a4 at a0⊢;have c7:a4.defers=[]:=by rw[<-c4];exact c6
 have t2:(a4.put (M 2) b).tmps[2]?=M b:=SZ oq;have d5:(a4.put (M 2) b).tmps.size=17:=by show(a4.tmps.setIfInBounds 2 b).size=17;rw[LN];exact a0
 refine wpIn_ret ?_;show Q .ret _ w3;rw[<-hQ];refine bodyPost_ret (results_tmp2 rfl _ _ _) (show a4.defers=[]from c7) ?_;rw[<-hR];have q2:=Ig (Sl (u:=.int .i64 0) t2 (show 3≠2 by decide));have q3:=Ig (a:=(a4.put (M 2) b).put (M 3) (.int .i64 0)) (SZ (u:=.int .i64 0) oq);have s1:=I1.kept.size;have s2:=K2.size;refine⟨_,rfl,S8 (S8 I1.kept.no K2 (λg z=>(I1.own _ _ g m z).elim (·.1) (λh=>h.no.elim))) K3 (λ_ h=>h.elim),λ_=>Ld,p,λg z=>.inr ?_,c2,λ_ _ _ q=>(by cases q),λ_ _ _ _ _ q=>(by cases q),λ_ _ q=>(by cases q),λk B q=>by simp at q,.tu _ _ rfl λi x v hx hv=>?_⟩;rcases c1 g z with q|q;cases q.1;omega;rcases i with _|_|i;cases hx;cases hv;show Zk (λ_=>Ld) w3 p _ (((a4.put (M 2) b).put (M 3) (.int .i64 0)).tmps.getD 2 undef);rw[show((a4.put (M 2) b).put (M 3) (.int .i64 0)).tmps.getD 2 undef=b from q2];exact .d d1;cases hx;cases hv;show Zk (λ_=>Ld) w3 p _ (((a4.put (M 2) b).put (M 3) (.int .i64 0)).tmps.getD 3 undef);rw[show((a4.put (M 2) b).put (M 3) (.int .i64 0)).tmps.getD 3 undef=.int .i64 0 from q3];exact .d (.sc _ rfl);simp at hx
def Z4p(h:Heap)(e:(CC h).2=0):Zt h=(((CC h).1.filter Eo).map (·.addr),0):=by have a:=Z10 h;unfold Zt;rw[a,e];simp only[Prod.mk.injEq,and_true];rw[List.filter_map];congr 1;refine List.filter_congr λx c=>?_;have:=(Z9E x c).1;simp only[Function.comp,CY,Eo,this];by_cases b:(Zc h x.addr).1.K=0<;>simp[b]
def Z5K(h:Heap)(e:¬ (CC h).2=0):Zt h=([],(CC h).2):=by
 have b:=Z10 h;have c:(CC h).1=[]:=by(unfold CC at e⊢;split at e;rename_i a;rw[if_pos a];exact Zed h _ _ e;rename_i a;rw[if_neg a])
 unfold Zt;rw[b,c];rfl
def Z06(h:Heap)(a:Zz h.W):GP 71 [h.av] O (.tu [Z2 (Zt h).1,nI (Zt h).2]) []:=by by_cases e:(CC h).2=0;rw[Z4p h e];exact ZlX h a e;rw[Z5K h e];exact Zfa h a e
end Go.Proofs.YtkmnngahjnkdmaaGreat
namespace Go.Proofs.YtkmnngahjnkdmaaGreat
open Go.Sx Go.RowKit
def E0(s k:List Int):AV:=.d (.sl 1 [[.sl 1 (s.map wD)],[.sl 1 (k.map wD)]])
def ccA(s k:List Int)(n:Int)(i:Nat):Tg:=⟨tm 36 [(0,E0 s k),(2,.d (.sl 0 [])),(3,nI n),(9,E0 s k),(10,nI 2),(11,nI i)],[],4⟩
section
variable(s k:List Int)(hs:s.length<=1048575)(hk:k.length<=1048575)
include hs hk
theorem Zlw:CP (Zn f32 0) (ccA s k 0 0).st .nrm (ccA s k s.length 1).st:=by exact sF [] (fO 2)<|Fh 13 [.el [DV.sl 1 (Lc wD s)]]<|Fa (by simp[*]:0<=(↑(0:Nat):Int)/\[[DV.sl 1 (Lc wD s)],[DV.sl 1 (Lc wD k)]][(↑(0:Nat):Int).toNat]?=M [DV.sl 1 (Lc wD s)])<|Fl 17 wD s<|Fi 18 (0+(s.length:Int))<|Fo (0+(s.length:Int)=(s.length:Int)) Fz
theorem Zht:CP (Zn f32 0) (ccA s k s.length 1).st .nrm (ccA s k (s.length+k.length) 2).st:=by exact sF [] []<|Fh 13 [.el [DV.sl 1 (Lc wD k)]]<|Fa (by simp[*]:0<=(↑(1:Nat):Int)/\[[DV.sl 1 (Lc wD s)],[DV.sl 1 (Lc wD k)]][(↑(1:Nat):Int).toNat]?=M [DV.sl 1 (Lc wD k)])<|Fl 17 wD k<|Fi 18 ((s.length:Int)+(k.length:Int)) Fz
theorem Zg2:CP (Zn f32 0) (ccA s k (s.length+k.length) 2).st (.ext 0) (Tg.st ⟨tm 36 [(0,E0 s k),(2,.d (.sl 0 [])),(3,nI (s.length+k.length))],[],4⟩):=by exact sF [] [] Fz
def Zi4  := Bs (S:=λi=>(ccA s k (if i=0 then 0 else if i=1 then s.length else s.length+k.length) i).st) 2 (by kernel_rfl) (λi hi=>by
  have:i=0\/i=1:=by omega
  rcases this with rfl|rfl
  .exact Zlw s k hs hk
  .exact Zht s k hs hk) (Zg2 s k hs hk)
theorem Zjz:CP (Cv f32 0) (Tg.st ⟨tm 36 [(0,E0 s k)],[],1⟩) .nrm (Tg.st ⟨tm 36 [(0,E0 s k),(2,.d (.sl 0 []))],[],2⟩):=by exact sF [] [] Fz
theorem ZiG:CP (Cv f32 1) (Tg.st ⟨tm 36 [(0,E0 s k),(2,.d (.sl 0 []))],[],2⟩) .nrm (Tg.st ⟨tm 36 [(0,E0 s k),(2,.d (.sl 0 [])),(3,nI 0)],[],3⟩):=by exact sF [] [] Fz
theorem ZfP:CP (Cv f32 2) (Tg.st ⟨tm 36 [(0,E0 s k),(2,.d (.sl 0 [])),(3,nI 0)],[],3⟩) .nrm (Tg.st ⟨tm 36 [(0,E0 s k),(3,nI (s.length+k.length))],[],5⟩):=by exact sF [] []<|Fh 10 [.int (↑(0+1+1):Int)]<|Fr (↑[[DV.sl (1:Nat) (Lc wD s)],[DV.sl (1:Nat) (Lc wD k)]].length:Int)<|Fu (@Zi4 s k aa aa) Fz
def ccD(s k:List Int)(l:List Int)(i:Nat):Tg:=⟨tm 36 [(6,.ow 41024),(25,E0 s k),(26,nI 2),(27,nI i)],[(41024,.arr 44 1 (l.map wD))],7⟩
theorem ZaM:CP (Zn f32 2) (ccD s k [] 0).st .nrm (ccD s k s 1).st:=by
 exact sF [(72033,41024)] []<|Fh 29 [.el [DV.sl 1 (Lc wD s)]]<|Fa (by simp[*]:0<=(↑(0:Nat):Int)/\[[DV.sl 1 (Lc wD s)],[DV.sl 1 (Lc wD k)]][(↑(0:Nat):Int).toNat]?=M [DV.sl 1 (Lc wD s)])<|Fa (by(simp[*];omega):(Lc wD []).length+(Lc wD s).length<=2^30)<|Fs 33 (Lc wD s) Fz
theorem ZdC:CP (Zn f32 2) (ccD s k s 1).st .nrm (ccD s k (s++k) 2).st:=by
 exact sF [(72033,41024)] []<|Fh 29 [.el [DV.sl 1 (Lc wD k)]]<|Fh 33 [.els (Lc wD (s++k))]<|Fa (by simp[*]:0<=(↑(1:Nat):Int)/\[[DV.sl 1 (Lc wD s)],[DV.sl 1 (Lc wD k)]][(↑(1:Nat):Int).toNat]?=M [DV.sl 1 (Lc wD k)])<|Fa (by(simp only[Ls];omega):(Lc wD s).length+(Lc wD k).length<=2^30)<|Fa (ms:Lc wD s++Lc wD k=Lc wD (s++k)) Fz
theorem Zck:CP (Zn f32 2) (ccD s k (s++k) 2).st (.ext 2) (Tg.st ⟨tm 36 [(6,.ow 41024)],[(41024,.arr 44 1 ((s++k).map wD))],7⟩):=by exact sF [] [] Fz
def ZdS  := Bs (S:=λi=>(ccD s k (if i=0 then []else if i=1 then s else s++k) i).st) 2 (by kernel_rfl) (λi hi=>by
  have:i=0\/i=1:=by omega
  rcases this with rfl|rfl
  .exact ZaM s k hs hk
  .exact ZdC s k hs hk) (Zck s k hs hk)
theorem ZfI:CP (GE f32 4) (Tg.st ⟨tm 36 [(0,E0 s k),(6,.ow 41024)],[(41024,.arr 44 1 [])],6⟩) .ret (Tg.st ⟨tm 36 [(2,.ow 41024)],[(41024,.arr 44 1 ((s++k).map wD))],8⟩):=by exact sF [] []<|Fh 26 [.int (↑(0+1+1):Int)]<|Fr (↑[[DV.sl (1:Nat) (Lc wD s)],[DV.sl (1:Nat) (Lc wD k)]].length:Int)<|Fu (@ZdS s k aa aa) Fz
end
def Zlo s k(n:Int)(h:0<=n/\n<=2097152):CP (Cv f32 3) (Tg.st ⟨tm 36 [(0,E0 s k),(3,nI n)],[],5⟩) .nrm (Tg.st ⟨tm 36 [(0,E0 s k),(6,.ow 41024)],[(41024,.arr 44 1 [])],6⟩):=by
 rintro Ow m w0 a w ⟨ρ,Im,I,T⟩;rw[show Cv f32 3=.region 9 (Bq f32 9) Lb from by kernel_rfl];refine wp_region ?_;rw[show Lp (Bq f32 9).size=[0,1,2]from by kernel_rfl];have j:=T.put 23 (Ed T (.tmp 3));refine Rs (o:=(Bq f32 9).getD 0 La) kr kr (NP (Z9k (x:=.tmp 3) kr) ?_);show wpOps prog (Bq f32 9) _ [1,2] (a.put (M 23) (a.eval (.tmp 3))) w;refine Rs (o:=(Bq f32 9).getD 1 La) kr kr (Z7w (c:=⟨.value (.func 75),#[.const (.slice Ld 0 0),.tmp 23],#[24,3]⟩) (f:=.func 75) (cs:=#[]) (d:=24) (ImC:=λ_=>False) kr rfl kr kr kr (ZkB n h) I j rfl pq (λ_ q=>q.elim) (λq=>by cases q) (λi x v e b=>?_) λρ2 g v w' J T2 r=>?_);match i,e,b with|0,e,b =>cases e;simp at b;rw[<-b];exact .d (.sc _ rfl)|1,e,b =>cases e;simp only[List.map_toArray,Xj,L3,Array.append_empty,List.getElem?_toArray,List.getElem?_cons_succ,List.getElem?_cons_zero,LA]at b;have r1:(a.put (M 23) (a.eval (.tmp 3))).eval (.tmp 23)=.int .i64 n:=BV (Ed j (.tmp 23));rw[<-b,r1];exact .d (.sc _ rfl)
 have l:=T2.put 24 r;have p:=l.put 6 (Ed l (.tmp 24));refine Rs (o:=(Bq f32 9).getD 2 La) kr kr (NP (Z2u (x:=.tmp 24) kr) ?_);refine⟨rfl,Pw (s:=⟨_,_,6⟩) kr kr (Sys.clk ⟨ρ2,g,J,p⟩ (Nat.le_succ 5))⟩
def RJ(s k:List Int)(hs:s.length<=1048575)(a:k.length<=1048575):GP 32 [E0 s k] O (Z2 (s++k)) []:=by have c:=(Zjz s k hs a).seq ((ZiG s k hs a).seq ((ZfP s k hs a).seq ((Zlo s k (s.length+k.length) oq).seq (ZfI s k hs a))));rw[show Tg.st ⟨tm 36 [(0,E0 s k)],[],1⟩=⟨[E0 s k]++Lg (Tryz.f32.ntmps - [E0 s k].length) .any,λ_=>Ld,1⟩from by kernel_rfl]at c;exact Zjv (kp:=[]) (l:=[.ow 41024]) (x:=Z2 (s++k)) (qq:=[]) (p:=[Ca ((s++k).map wD)]) List.nodup_nil func32 kr c kr kr (H6 _) trivial kr kr trivial
end Go.Proofs.YtkmnngahjnkdmaaGreat
