/-
 The statement CollectRoom: part 12.
 Conditions: none.
-/
import Derived.RangeFuncFrom
import Derived.RangeFuncLeaves
import Derived.Test.YtgedmeaemofdkaaGreatU11
set_option maxRecDepth 100000
set_option maxHeartbeats 2000000
set_option linter.all false
open Option renaming some->M,none->Lc
open Bool renaming true->O,false->Lb,and_eq_true->LO,eq_false_or_eq_true->LW
open Inhabited renaming default->La
open List renaming map->Ld,replicate->Lg,take->Lj,mem_cons->Ln,mem_of_getElem?->Lo,range->Lp,not_mem_nil->Lq,mem_replicate->Ls,getD_eq_getElem?_getD->Lx,length_map->Ly,all_eq_true->LH,getElem?_append->LI,drop->LR,map_append->LS,map_take->LU,append_nil->L0,getElem?_eq_some_iff->L1,map_drop->L2,map_set->L3,mem_map->L4,filter_append->Xd,filter_eq_self->Xe,getElem?_eq_getElem->Xf,getElem?_of_mem->Xg,length_replicate->Xh,map_nil->Xi,mem_append->Xj,mem_iff_getElem?->Xk,take_succ->Xl
open Decidable renaming decide->Le
open Go.Fence renaming wide->Lf
open Go.Exit renaming inBlock->Lh
open Go.World renaming putObj_heap_other->Li,putObj_heap_same->Lt,putObj_size->Lu,alloc_heap_new->L7,cell?->Xr,setRow->Xs
open Int renaming toNat->Lk,fdiv_eq_ediv_of_nonneg->LY,toNat_natCast->LZ
open Array renaming getElem?_eq_some_iff->Ll,getElem?_append->LB,replicate->LC,size_setIfInBounds->LN,ext->L8,getElem?_eq_getElem->L9
open Go.Obj renaming loop->Lm
open Nat renaming le_refl->Lr,lt_of_lt_of_le->LV,beq->L5,add_zero->Xm,le_trans->Xn,mul_le_mul_right->Xo,zero_mul->Xp
open Go.RowKit.Below renaming heap_alloc->Lv
open Go.IntKind renaming u32->Lw,u64->LG,i64->Xc
open Go.Oper renaming wp->Lz,upon_enter->L6
open Go.Value renaming int->LA,slice->Xq
open Go.Code renaming region->LD,seq->LQ,exit->Xa,ret->Xb
open Go.Deferred renaming ofValue->LF
open Option.some renaming injEq->LL
open Go.Region renaming wanted->LM
open Go.Proofs.Tryz
namespace Go.Sx
open Go.RowKit
theorem ZfR{P clk ops hints o t}{H:Heap}{x:Out}(h:Au P clk ops hints o t H=M x):∀c,o.op≠.defer c:=by intro c hc;unfold Au IT N9 act at h;grind
def fen(ro:Option Nat):Fence:={Lf with round:=ro}
theorem Iv{P ro n}{o:Oper}{a w next Q}(hd:∀c,o.op≠.defer c)(h:o.wp P a w next Q):o.wpIn (fen ro) n P a w next Q:=by
 refine⟨λ_ _=>trivial, ?_⟩;rw[Oper.semAt_eq _ _ _ hd];unfold Lz at h;generalize (execOp a.eval o).run P w=r at h⊢;cases r with
 |ok x g =>
  cases x with|value v=>exact h|skip=>exact h|defer d=>exact h|enter f args=>exact⟨λh=>(by cases h),callsIn_wide.2 h⟩|row s args=>exact⟨λh=>(by cases h),λc b _=>let ⟨v,w2,q,r⟩:=h c b;⟨v,w2,q,stepsIn_wide.2 r⟩⟩|_=>exact h.elim
 |halt e g =>
  cases e with|panic v=>exact h|_=>exact h.elim
def AT{P Ow Im0 w0 clk hints ops Q ro n l2}:∀{l:List Nat} {tmps:List AV} {H:Heap} {a:Act} {w:World} {out:Out},
  Rj P clk ops hints l tmps H=M out->Sys Ow Im0 w0 tmps H clk a w->B3 out.ph->EI out.eq->(∀b w',Sys Ow Im0 w0 out.tmps out.H clk b w'->wpOpsIn (fen ro) n P ops Q l2 b w')->wpOpsIn (fen ro) n P ops Q (l++l2) a w
 |[],tmps,H,a,w,out,h,hS,_,_,hQ=>by
  grind[Rj]
 |i::l,tmps,H,a,w,out,h,hS,hph,heq,hQ=>by
  simp only[Rj]at h;split at h
  .cases h
  rename_i o e;split at h
  .cases h
  rename_i x g;split at h
  .cases h
  rename_i y j;cases h;obtain⟨k,p2⟩:=H8.1 hph;have d:=Z0S (next:=wpOpsIn (fen ro) n P ops Q (l++l2)) (Q:=Q) g hS k heq.left λb w' c=>AT j c p2 heq.right hQ;simp only[List.cons_append,wpOpsIn,e];split
  .grind[Iv,ZfR]
  .rename_i f;exact⟨λ_ _=>trivial,d.2 ((Bool.not_eq_true _).mp f)⟩
def MC{P Ow Im0 w0 clk hints ops}{Q:Exit->Act->World->Prop}{ro n l tmps}{H:Heap}{a w}{out:Out}(h:Rj P clk ops hints l tmps H=M out)(f:Sys Ow Im0 w0 tmps H clk a w)(c:B3 out.ph)(b:EI out.eq)(e:∀d w',Sys Ow Im0 w0 out.tmps out.H clk d w'->Q .normal d w'):wpOpsIn (fen ro) n P ops Q l a w:=by have:=AT (ro:=ro) (n:=n) (Q:=Q) (l2:=[]) h f c b e;grind
def Rf:Code->Bool|.skip=>O|.region _ _ d=>!d|.seq x y=>Rf x&&Rf y|.cond _ x y=>Rf x&&Rf y|.block _ c=>Rf c|.exit _=>O|.ret=>O|_=>Lb
def CIn(P:Program)(c:Code)(s:St)(e:Ex)(t:St):Prop:=
 ∀(i:Option Nat) (n:Nat) (d:Own) (b:Nat->Prop) (f:World) (a:Act) (w:World),Sys d b f s.tmps s.H s.clk a w->c.wpIn (fen i) n P (λh g j=>h=e.exit/\Sys d b f t.tmps t.H t.clk g j) a w
def ZgH{P:Program}{hints:List (Nat×List Hint)}:∀{c:Code} {s:St} {r:ZI},Rf c=O->Cp P hints [] c s=M r->B3 r.ph->EI r.eq->CIn P c s r.e r.s:=by
 intro c;induction c with
 |skip=>intro s r _ h _ _ p n o d t a w i;simp only[Cp,LL]at h;subst h;exact wpIn_skip ⟨rfl,i⟩
 |region m a3 dr =>
  intro s r l h g f p n o d t a w i;cases dr with
  |true=>cases l
  |false =>
   simp only[Cp]at h;split at h;rotate_left
   .cases h
   rename_i x hx;cases h;exact wpIn_region (MC hx i g f λa' w' j=>⟨rfl,j.clk pq⟩)
 |seq x y u z =>
  intro s r l h g f p n o d t a w i;simp only[Rf,LO]at l;simp only[Cp]at h;split at h
  .cases h
  rename_i q v;split at h
  .rename_i he;split at h;rotate_left
   .cases h
   rename_i q2 a1;cases h;obtain⟨p1,p2⟩:=H8.1 g;refine wpIn_seq (wpIn_mono (u l.1 v p1 f.left p n o d t a w i) ?_);rintro e a' w' ⟨rfl,j⟩;rw[he];exact z l.2 a1 p2 f.right p n o d t a' w' j
  .rename_i he;cases h;refine wpIn_seq (wpIn_mono (u l.1 v g f p n o d t a w i) ?_);rintro e a' w' ⟨rfl,j⟩;cases hqe:q.e with
   |nrm=>grind
   |ext n=>exact⟨rfl,j⟩
   |ret=>exact⟨rfl,j⟩
 |cond c x y u z =>
  intro s r l h g f p n o d t a w i;simp only[Rf,LO]at l;simp only[Cp]at h;split at h
  .cases h
  rename_i b hb;have hv:a.eval c=.bool b:=by
   obtain⟨ρ,Im,I,T⟩:=i;have:=E4 T c;rw[OP hb]at this;exact C0 this
  split at h
  .split at h;rotate_left
   .cases h
   rename_i q v;cases h;obtain⟨p1,p2⟩:=H0.1 g;exact wpIn_cond_true (by rw[hv,p1]) (u l.1 v p2 f p n o d t a w i)
  .split at h;rotate_left
   .cases h
   rename_i q v;cases h;obtain⟨p1,p2⟩:=H0.1 g;exact wpIn_cond_false (by rw[hv,p1]) (z l.2 v p2 f p n o d t a w i)
  .split at h
   .exact wpIn_cond_true hv (u l.1 h g f p n o d t a w i)
   .exact wpIn_cond_false hv (z l.2 h g f p n o d t a w i)
 |block m c ih =>
  intro s r l h g f p n o d t a w i;simp only[Cp,Tx]at h;split at h
  .cases h
  rename_i q v;refine wpIn_block ?_;split at h
  .rename_i k hm;split at h
   .rename_i a0;cases h;refine wpIn_mono (ih l v g f p n o d t a w i) ?_;grind[Ex.exit,Lh]
   .rename_i a0;cases h;refine wpIn_mono (ih l v g f p n o d t a w i) ?_;grind[Ex.exit,Lh]
  .rename_i a2;cases h;refine wpIn_mono (ih l v g f p n o d t a w i) ?_;rintro e a' w' ⟨rfl,j⟩;cases hqe:r.e with
   |nrm=>exact⟨rfl,j⟩
   |ext k=>grind
   |ret=>exact⟨rfl,j⟩
 |exit n=>intro s r _ h _ _ p n o d t a w i;simp only[Cp,LL]at h;subst h;exact wpIn_exit ⟨rfl,i⟩
 |ret=>intro s r _ h _ _ p n o d t a w i;simp only[Cp,LL]at h;subst h;exact wpIn_ret ⟨rfl,i⟩
 |_=>intro s r l;cases l
def Z2d{P}(hints:List (Nat×List Hint)) b fl{c s}{e:Ex}{t}{φ:Prop}(j:φ)(o:Rh fl (EB P hints [] b c s t)=φ)(p:N1 fl (EB P hints [] b c s t)=IY fl (EB P hints [] b c s t))(u:exO (EB P hints [] b c s t)=M e)(h:Rf c=O):CIn P c s e t.st:=by
 rw[<-o]at j;obtain⟨k1,k⟩:=MS j p;cases hr:EB P hints [] b c s t with
 |none=>rw[hr]at k1;exact k1.elim
 |some r =>
  rw[hr]at k1 k u;have d:EI r.eq:=Ad k;have x:r.e=e:=by grind[exO]
  unfold EB at hr;split at hr;cases hr;rename_i q z;split at hr;cases hr;rename_i s' i;split at hr;rotate_left;cases hr;rename_i l y;cases hr;intro ro n m f w0 a w v;refine wpIn_mono (ZgH h z k1 d.left ro n m f w0 a w v) ?_;rintro e' a' w' ⟨rfl,g⟩;exact⟨by rw[<-x],DC y d.right (P6 i g)⟩
def Ia(k:Nat):Code->Bool
 |.region n _ _=>L5 n k
 |.seq x y=>Ia k x||Ia k y
 |.cond _ x y=>Ia k x||Ia k y
 |.block _ c=>Ia k c
 |.loop c=>Ia k c
 |_=>Lb
def cutAt(k:Nat):Code->Code|.region _ _ _=>.exit 99999|.seq x y=>(match Ia k x with|true=>cutAt k x|false=>.seq x (cutAt k y))|.cond c x y=>(match Ia k x with|true=>.cond c (cutAt k x) .skip|false=>.cond c .skip (cutAt k y))|.block n c=>.block n (cutAt k c)|c=>c
def noX:Code->Bool|.seq x y=>noX x&&noX y|.cond _ x y=>noX x&&noX y|.block _ c=>noX c|.exit n=>!Nat.beq n 99999|_=>O
def okH(k:Nat):Code->Bool|.region n _ _=>L5 n k|.seq x y=>(match Ia k x with|true=>okH k x|false=>noX x&&okH k y)|.cond _ x y=>(match Ia k x with|true=>okH k x|false=>okH k y)|.block n c=>!Nat.beq n 99999&&okH k c|_=>Lb
def rest(P:Program)(n k:Nat):Code->(Exit->Act->World->Prop)->Act->World->Prop|.seq x y,Q=>(match Ia k x with|true=>rest P n k x (Exit.then (y.wpIn Lf n P Q) Q)|false=>rest P n k y Q)|.cond _ x y,Q=>(match Ia k x with|true=>rest P n k x Q|false=>rest P n k y Q)|.block m c,Q=>rest P n k c (Lh m Q)|c,Q=>c.wpIn Lf n P Q
theorem ZeY{P hints}:∀{c:Code} {s:St} {r:ZI},noX c=O->Cp P hints [] c s=M r->r.e≠.ext 99999:=by
 intro c;induction c with|region m i dr =>intro s r _ h;simp only[Cp]at h;grind|seq x y b d =>grind[noX,Cp]|cond c x y b d =>grind[noX,Cp]|block m c g =>intro s r a h;simp only[Cp,Tx]at h;split at h;cases h;rename_i q f;have:=g a f;grind|exit n =>intro s r a h;simp only[Cp,LL]at h;subst h;intro e;cases e;cases a|skip=>grind[Cp]|label n=>grind[Cp]|ret=>grind[Cp]|_=>grind[Cp]
def Zaz{P:Program}{hints:List (Nat×List Hint)}{k n:Nat}:∀{c:Code} {s:St} {r:ZI},okH k c=O->Cp P hints [] (cutAt k c) s=M r->B3 r.ph->EI r.eq->r.e=.ext 99999 ->
  ∀(Q:Exit->Act->World->Prop) (Ow:Own) (Im0:Nat->Prop) (w0:World) (a:Act) (w:World),Sys Ow Im0 w0 s.tmps s.H s.clk a w->(∀o w',Sys Ow Im0 w0 r.s.tmps r.s.H r.s.clk o w'->rest P n k c Q o w')->c.wpIn Lf n P Q a w:=by
 intro c;induction c with
 |region m a0 dr =>
  intro s r _ h _ _ _ Q Ow Im0 w0 a w j f;simp only[cutAt,Cp,LL]at h;subst h;exact f a w j
 |seq x y z l =>
  intro s r d h i g t Q Ow Im0 w0 a w j f;simp only[okH]at d;simp only[cutAt]at h;simp only[rest]at f;cases hx:Ia k x with
  |true =>
   rw[hx]at d h f;grind[wpIn_seq]
  |false =>
   rw[hx]at d h f;simp only[LO]at d;simp only[Cp]at h;split at h
   .cases h
   rename_i q hq;split at h
   .rename_i v;split at h;rotate_left
    .cases h
    rename_i q2 u;cases h;obtain⟨p1,p2⟩:=H8.1 i;refine wpIn_seq (wpIn_mono (wpIn_wide.2 (Tp hq p1 g.left Ow Im0 w0 a w j)) ?_);rintro e o w' ⟨rfl,p⟩;rw[v];exact l d.2 u p2 g.right t Q Ow Im0 w0 o w' p f
   grind[ZeY]
 |cond c x y z l =>
  intro s r d h i g t Q Ow Im0 w0 a w j f;simp only[okH]at d;simp only[cutAt]at h;simp only[rest]at f;have hv:∀{b:Bool},asB (ev s.tmps c)=M b->a.eval c=.bool b:=λhb=>by
   obtain⟨ρ,Im,I,T⟩:=j;have:=E4 T c;rw[OP hb]at this;exact C0 this
  cases hx:Ia k x with
  |true =>
   rw[hx]at d h f;grind[Cp,H0,wpIn_cond_true]
  |false =>
   rw[hx]at d h f;grind[Cp,H0,wpIn_cond_false]
 |block m c ih =>
  intro s r d h i g t Q Ow Im0 w0 a w j f;simp only[okH,LO]at d;simp only[cutAt,Cp,Tx]at h;simp only[rest]at f;grind[wpIn_block]
 |_=>intro s r d;cases d
def Sa(P:Program)(k:Nat)(c:Code)(s t:St):Prop:=
 ∀(n:Nat) (Q:Exit->Act->World->Prop) (d:Own) (b:Nat->Prop) (g:World) (a:Act) (w:World),Sys d b g s.tmps s.H s.clk a w->(∀e f,Sys d b g t.tmps t.H t.clk e f->rest P n k c Q e f)->c.wpIn Lf n P Q a w
def Ar{P}(hints:List (Nat×List Hint)) b fl{k c s t}{φ:Prop}(j:φ)(u:Rh fl (EB P hints [] b (cutAt k c) s t)=φ)(v:N1 fl (EB P hints [] b (cutAt k c) s t)=IY fl (EB P hints [] b (cutAt k c) s t))(x:exO (EB P hints [] b (cutAt k c) s t)=M (.ext 99999))(g:okH k c=O):Sa P k c s t.st:=by
 rw[<-u]at j;obtain⟨k1,m⟩:=MS j v;cases hr:EB P hints [] b (cutAt k c) s t with
 |none=>rw[hr]at k1;exact k1.elim
 |some r =>
  rw[hr]at k1 m x;have d:EI r.eq:=Ad m;have z:r.e=.ext 99999:=by grind[exO]
  unfold EB at hr;split at hr;cases hr;rename_i q hq;split at hr;cases hr;rename_i s' i;split at hr;rotate_left;cases hr;rename_i l hl;cases hr;intro n Q o e w0 a w y h;exact Zaz g hq k1 d.left z Q o e w0 a w y λp w' f=>h p w' (DC hl d.right (P6 i f))
def S9(k:Nat):Code->Option (Array Oper)|.region n ops _=>(match L5 n k with|true=>M ops|false=>Lc)|.seq x y=>(match S9 k x with|some o=>M o|none=>S9 k y)|.cond _ x y=>(match S9 k x with|some o=>M o|none=>S9 k y)|.block _ c=>S9 k c|.loop c=>S9 k c|_=>Lc
def BL(fn:Func)(k:Nat):Array Oper:=match fn.body with|some c=>(match S9 k c with|some o=>o|none => #[])|none => #[]
def Z0v{s t}(h1:(wk s t).isSome=O)(h2:((wk s t).getD []).map (·.1)=((wk s t).getD []).map (·.2)){Ow Im0 w0 a w}(S:Sys Ow Im0 w0 s.tmps s.H s.clk a w):Sys Ow Im0 w0 t.st.tmps t.st.H t.st.clk a w:=by grind[wk,DC,Ad]
def Tw{ρ:ZM}{w}{Im a:Nat->Prop}{k t:Nat}{e:List DV}{v}{β:Bi}(p:ρ k=M β)(r:RelB ρ w Im β (.box t (e.map .d)))(o:Zi ρ w Im (.pt k 0 0) v)(m:∀g,Im g->a g)(l:∀g,β.g=M g->a g):Zi (λ_=>Lc) w a (.rp e 0) v:=by
 obtain⟨g,s,n,k1,rfl⟩:=RJ o rfl;rw[p]at k1;cases k1;obtain⟨r1,r2,g2,b,r3,r4,r5,r6,q⟩:=r;cases r3;have:=@Zi.rp (λ_=>Lc) w a e 0 ⟨g,0,Lc⟩ rfl (l _ rfl) (λj y f=>by
  have hj:j<e.length:=(L1.1 f).1;have i:j<b.size:=by grind
  have h:b[j]?=M b[j]:=L9 i;have c:=q j (.d y) b[j] (by simp[f]) h;refine⟨b[j], ?_, ?_⟩;grind[Xr];cases c with
  |d c=>exact c.mono (Ext.refl _ _) m)
 grind
def Kept.no{w0 w}(h:Kept (OwA G7) w0 w):Kept (λ_=>False) w0 w:=h.imp λ_ q=>q.no
def Inv.empty{w:World}{Im:Nat->Prop}{clk:Nat}(a:∀g,Im g->g<w.heap.size)(c:1<=clk):Inv G7 Im w (λ_=>Lc) w Im (BW []) clk:=by refine⟨Kept.refl _ _, ?_, ?_, ?_, ?_,a,λ_ h=>.inl h, ?_,λ_ _ _=>rfl,c,λb β _ h=>nomatch h⟩;grind;grind;grind;grind;intro b B h;cases h
def Cw.reSet{D ρ w Im tmps a}(T:Cw D ρ w Im tmps a)(t:Nat) y(h:∀v,a.tmps[t]?=M v->Zi ρ w Im y v):Cw D ρ w Im (tmps.set t y) a:=by refine⟨by simp[T.size],λi x v b c=>?_,T.defers⟩;rw[List.getElem?_set]at b;by_cases d:t=i;grind;simp only[d,if_false]at b;exact T.tmp i x v b c
def Cw.pure{D ρ w Im tmps a}(T:Cw D ρ w Im tmps a)(h:tmps.all (MF [])=O):Cw D (λ_=>Lc) w Im tmps a:=
 ⟨T.size,λi x v c d=>Z77 (ids:=[]) (λb e=>by simp at e) (T.tmp i x v c d) (LH.1 h _ (Lo c)),T.defers⟩
def Z8j{P}{n l:Nat}{o:Oper}{f x y:Operand}{p:Array Nat}{a:Act}{w}{next:Act->World->Prop}{Q}{args:Array Value}{R}(k:o.op=.call ⟨.value f,#[x,y],p⟩)(j:a.eval f=.func (.yield l) #[] #[])(m: #[a.eval x,a.eval y]=args)(i:YieldAt Lf n P l args w R)(hn:∀e w',R e w'->∃v,e=.returned v/\next (a.put o.dst v) w'):o.wpIn Lf (n+1) P a w next Q:=by
 obtain⟨fn,t,s,b,d,g⟩:=i;refine⟨λ_ _=>trivial, ?_⟩;have c:(o.semAt Lf.round a.eval).run P w=.ok (.round l fn t s b) w:=by(rw[show Lf.round=Lc from rfl,Oper.semAt_none];simp[execOp,k,resolve,j,LF,invoke,m,d])
 rw[c,Oper.uponIn_round];refine⟨λh=>(by cases h),g.mono ?_⟩;grind
end Go.Sx
namespace Go.Proofs.YtgedmeaemofdkaaGreat
open Go.Sx
def SH(h:Zy)(hm:0<=h.map/\h.map<=4294967295):GP 120 [h.av] O (bool (ZR h)) []:=by
 have hs:=λq=>Z4h (n:=h.length) q;have ho:0<=h.length->h.length<=32->ones h.length=2^h.length.toNat-1:=λh0 h1=>by rw[ones,Nat.min_eq_left oq]
 rcases LW (Le (h.K<(0:Int))||Le ((3:Int)<h.K)||Le (h.length<(0:Int))||Le ((255:Int)<h.length))with hc0|hc0;have a:=hc0;simp only[bs]at a;refine Zc [((20:Nat),[Hint.br O])] [] [] dd func120 [Lb,Lb,Lb,Lb,Lb,Lb,Lb,Lb,Lb,O] (φ:=(Le (h.K<(0:Int))||Le ((3:Int)<h.K)||Le (h.length<(0:Int))||Le ((255:Int)<h.length))=O/\O=O/\Lb=ZR h) ?_ kr kr;exact⟨aa,rfl,(by(simp[ZR, *];omega))⟩;have a:=hc0;simp only[bs]at a;obtain⟨⟨⟨c,d⟩,e⟩,f⟩:=a;rcases LW (h.K==(1:Int))with hc1|hc1;have b:=hc1;simp only[bs]at b;refine Zc [((20:Nat),[Hint.br Lb]),((23:Nat),[Hint.br O]),((30:Nat),[Hint.int h.map]),((33:Nat),[Hint.call O (u64 (ones h.length)) []])] [] [] dd func120 [Lb,Lb,Lb,Lb,Lb,Lb,Lb,Lb,Lb,Lb,Lb,Lb,Lb,Lb,Lb,Lb,O] (φ:=(Le (h.K<(0:Int))||Le ((3:Int)<h.K)||Le (h.length<(0:Int))||Le ((255:Int)<h.length))=Lb/\Lb=Lb/\(h.K==(1:Int))=O/\O=O/\(Le (h.length<=(32:Int))=O->LG.wrap h.map=h.map)/\(Le (h.length<=(32:Int))=O->GP 170 [int h.length] O (u64 (ones h.length)) [])/\(Le (h.length<=(32:Int))&&Le (h.map<=ones h.length))=ZR h) ?_ kr kr;exact⟨aa,rfl,aa,rfl,(by intro g;(try simp only[bs]at g);exact BC rfl oq oq),(λg=>by(try simp only[bs]at g);exact@Rs (h.length)),(by grind[ZR])⟩;have b:=hc1;simp only[bs]at b;refine Zc [((20:Nat),[Hint.br Lb]),((23:Nat),[Hint.br Lb])] [] [] dd func120 [Lb,Lb,Lb,Lb,Lb,Lb,Lb,Lb,Lb,O] (φ:=(Le (h.K<(0:Int))||Le ((3:Int)<h.K)||Le (h.length<(0:Int))||Le ((255:Int)<h.length))=Lb/\Lb=Lb/\(h.K==(1:Int))=Lb/\Lb=Lb/\(h.K==h.K&&(h.length==h.length&&h.map==(0:Int)))=ZR h) ?_ kr kr;exact⟨aa,rfl,aa,rfl,(by grind[ZR])⟩
def EN(h:Zy)(hm:0<=h.map/\h.map<=4294967295):GP 69 [h.av] O (int (Z5 h)) []:=by rcases LW (!ZR h)with hc0|hc0;have a:=hc0;simp only[bs]at a;refine Zc [((4:Nat),[Hint.call O (Sx.bool (ZR h)) []]),((5:Nat),[Hint.br O])] [] [] dd func69 [O] (φ:=GP 120 [h.av] O (Sx.bool (ZR h)) []/\(!ZR h)=O/\O=O/\(0:Int)=Z5 h) ?_ kr kr;exact⟨(@SH (h) aa),aa,rfl,(by simp[Z5, *])⟩;have a:=hc0;simp only[bs]at a;have e:=Gl.1 a;obtain⟨g,⟨f,⟨d,⟨b,c⟩⟩⟩⟩:=e;refine Zc [((4:Nat),[Hint.call O (Sx.bool (ZR h)) []]),((5:Nat),[Hint.br Lb]),((8:Nat),[Hint.int (h.length+(1:Int))])] [] [] dd func69 [O] (φ:=GP 120 [h.av] O (Sx.bool (ZR h)) []/\(!ZR h)=Lb/\Lb=Lb/\Xc.wrap (h.length+(1:Int))=h.length+(1:Int)/\h.length+(1:Int)=Z5 h) ?_ kr kr;exact⟨(@SH (h) aa),aa,rfl,(by exact Ze rfl oq oq),(by simp[Z5, *])⟩
def TW(ws:List Int)(a n:Int)(hw:ws.length<=1048576)(h0:0<=a/\a<=18446744073709551615):GP 169 [Z3 ws,u64 a,int n] O (.tu [int (Zw ws a n).1,bool (Zw ws a n).2]) []:=by have e {h_ c_ p_} (f:Fq h_ c_ p_):=FvG 13 (!decide (a<4096)) (a-4096) (FlG 15 (!decide (a<4096)) wdv ws (FvG 16 (!decide (a<4096)) (↑ws.length) f));rcases bb (Le (a<4096)||Le ((ws.length:Int)<a-4096))with hc0|hc0<;>have b:=hc0<;>simp only[bs]at b;rw[show Zw ws a n=((0:Int),Lb)from by(simp[Zw, *];omega)];exact gF [] func169 [] (e (Ft 18 hc0 Fz));obtain⟨c,d⟩:=b;rw[show Zw ws a n=(a-(4096:Int),Le (n<=(ws.length:Int)-(a-(4096:Int))))from by(simp[Zw, *];omega)];exact gF [] func169 [] (e (Ff 18 hc0 (Fv 20 (a-4096) (Fi 21 (a-4096) (Fl 25 wdv ws (Fi 27 ((ws.length:Int)-(a-4096)) Fz))))))
def Z3Y(ws:List Int)(a:Int)(hw:ws.length<=1048576)(h0:0<=a/\a<=18446744073709551615):GP 163 [Z3 ws,u64 a] O (.tu [int (Ce ws a).1,int (Ce ws a).2]) []:=by have c {h_ c_ p_} (d:Fq h_ c_ p_):=Fc 11 (@TW ws a (1) aa aa) d;rcases bb (!(Zw ws a 1).2)with hc0|hc0<;>have b:=hc0<;>simp only[bs]at b;rw[show Ce ws a=((0:Int),(2:Int))from by grind[Zw,Ce]];exact gF [] func163 [] (c (Ft 15 hc0 Fz));rw[show Ce ws a=((Zw ws a (1:Int)).1,(0:Int))from by grind[Zw,Ce]];exact gF [] func163 [] (c (Ff 15 hc0 Fz))
def Z0g(ws:List Int)(a:Int)(hw:ws.length<=1048576)(h0:0<=a/\a<=18446744073709551615):GP 111 [Z3 ws,u64 a] O (.tu [u64 (Z1 ws a).1,int (Z1 ws a).2]) []:=by rcases bb ((Ce ws a).2 != 0)with hc0|hc0<;>have b:=hc0<;>simp only[bs]at b;have c:=Z6x b;obtain⟨g,h⟩:=c;rw[show Z1 ws a=((0:Int),(Ce ws a).2)from by simp[Z1, *]];exact gF [] func111 [] (Fc 11 (@Z3Y ws a aa aa) (Ft 15 hc0 Fz));have d:=Z5w b;obtain⟨i,⟨e,f⟩⟩:=d;rw[show Z1 ws a=(ws.getD (Ce ws a).1.toNat La,(0:Int))from by simp[Z1, *]];refine Zc [((11:Nat),[Hint.call O (AV.tu [int (Ce ws a).1,int (Ce ws a).2]) []]),((15:Nat),[Hint.br Lb]),((19:Nat),[Hint.el (wdv (ws.getD (Ce ws a).1.toNat La))])] [] [] dd func111 [] (φ:=GP 163 [Z3 ws,u64 a] O (AV.tu [int (Ce ws a).1,int (Ce ws a).2]) []/\((Ce ws a).2 != (0:Int))=Lb/\Lb=Lb/\(0:Int)<=(Ce ws a).1/\(Ld wdv ws)[(Ce ws a).1.toNat]?=M (wdv (ws.getD (Ce ws a).1.toNat La))) ?_ kr kr;exact⟨(@Z3Y (ws) (a) aa aa),aa,rfl,(by exact Zm oq oq oq)⟩
def BG(w:Int):Nat->Int|0=>w|1=>w/4|2=>w/16|3=>w/65536|_=>w/281474976710656
def ZQ(w:Int):List Int:=[w%4,w/4%4,w/16%4096,w/65536%4294967296]
def Pp(w:Int)(i:Nat):Tg:=⟨tm 49 [(0,u64 w),(1,ZD [2,2,12,32]),(4,.d (.sl 0 [])),(5,int 0),(6,int ([64,62,60,48,16].getD i 0)),(12,ZD [2,2,12,32]),(13,int 4),(14,int i)],[],20⟩
def ZgU w(i:Nat)(hi:i<4):CP (Zo f201 0) (Pp w i).st .nrm (Pp w (i+1)).st:=by
 have h:i=0\/i=1\/i=2\/i=3:=by omega
 rcases h with rfl|rfl|rfl|rfl;refine Zh [((16:Nat),[Hint.el (idv (2:Int))])] [] [] [] (φ:=(0:Int)<=(↑(0:Nat):Int)/\(Ld idv [(2:Int),(2:Int),(12:Int),(32:Int)])[(↑(0:Nat):Int).toNat]?=M (idv (2:Int))) ?_ kr kr kr;exact(by simp[*]);refine Zh [((16:Nat),[Hint.el (idv (2:Int))])] [] [] [] (φ:=(0:Int)<=(↑(1:Nat):Int)/\(Ld idv [(2:Int),(2:Int),(12:Int),(32:Int)])[(↑(1:Nat):Int).toNat]?=M (idv (2:Int))) ?_ kr kr kr;exact(by simp[*]);refine Zh [((16:Nat),[Hint.el (idv (12:Int))])] [] [] [] (φ:=(0:Int)<=(↑(2:Nat):Int)/\(Ld idv [(2:Int),(2:Int),(12:Int),(32:Int)])[(↑(2:Nat):Int).toNat]?=M (idv (12:Int))) ?_ kr kr kr;exact(by simp[*]);refine Zh [((16:Nat),[Hint.el (idv (32:Int))])] [] [] [] (φ:=(0:Int)<=(↑(3:Nat):Int)/\(Ld idv [(2:Int),(2:Int),(12:Int),(32:Int)])[(↑(3:Nat):Int).toNat]?=M (idv (32:Int))) ?_ kr kr kr;exact(by simp[*])
def Zaj w:CP (Zo f201 0) (Pp w 4).st (.ext 0) (Tg.st ⟨tm 49 [(0,u64 w),(1,ZD [2,2,12,32]),(4,.d (.sl 0 [])),(5,int 0)],[],60⟩):=by exact sF [] [] Fz
def Z7C(w:Int)  := Bw (S:=λi=>(Pp w i).st) 4 (by kernel_rfl) (λi a=>ZgU w i a) (Zaj w)
def O2(w:Int)(i:Nat):Tg:=⟨tm 49 [(0,u64 (BG w i)),(4,.d (.sl 0 [])),(5,int 0),(9,.ow 480009),(29,ZD [2,2,12,32]),(30,int 4),(31,int i)],[(480009,.arr 35 1 (((ZQ w).take i).map wdv))],60⟩
def Zki(w:Int)(i:Nat)(h0:0<=w)(h1:w<=18446744073709551615)(hi:i<4):CP (Zo f201 2) (O2 w i).st .nrm (O2 w (i+1)).st:=by
 have o1:ones 2=3:=by decide
 have o2:ones 12=4095:=by decide
 have o3:ones 32=4294967295:=by decide
 have a0:bits .and .u64 w (ones 2)=w%4:=by rw[o1];exact Ny 2 dd dd oq oq
 have a1:bits .and .u64 (w/4) (ones 2)=w/4%4:=by rw[o1];exact Ny 2 dd dd oq oq
 have a2:bits .and .u64 (w/16) (ones 12)=w/16%4096:=by rw[o2];exact Ny 12 dd dd oq oq
 have a3:bits .and .u64 (w/65536) (ones 32)=w/65536%4294967296:=by rw[o3];exact Ny 32 dd dd oq oq
 have f1:(w/4).fdiv 4=w/16:=by rw[LY _ dd];omega
 have f2:(w/16).fdiv 4096=w/65536:=by rw[LY _ dd];omega
 have f3:(w/65536).fdiv 4294967296=w/281474976710656:=by rw[LY _ dd];omega
 have h:i=0\/i=1\/i=2\/i=3:=by omega
 rcases h with rfl|rfl|rfl|rfl;exact sF [(496041,480009)] [] (Fh 33 [.el (idv 2)] (Fa (by simp[BG,ZQ, *]:0<=(↑(0:Nat):Int)/\(Ld idv [2,2,12,32])[(↑(0:Nat):Int).toNat]?=M (idv 2)) (Fc 38 (@Rs (2)) (Fg 39 (by assumption:bits BinOp.and LG (BG w 0) (ones (2:Int))=BG w 0%4) (Fs 40 (Ld wdv [BG w 0%4]) (Fa (by simp[BG,ZQ, *]:(Ld wdv (Lj 0 (ZQ w))).length+(Ld wdv [BG w 0%4]).length<=2^30) (Fs 41 (Ld wdv [BG w 0%4]) (Fg 44 (by exact HA rfl dd:(BG w 0).fdiv (2^min (Lk 2) 64)=BG w 0/4) (Fo ((0:Int)<=2) Fz)))))))));exact sF [(496041,480009)] [O] (Fh 33 [.el (idv 2)] (Fa (by simp[BG,ZQ, *]:0<=(↑(1:Nat):Int)/\(Ld idv [2,2,12,32])[(↑(1:Nat):Int).toNat]?=M (idv 2)) (Fc 38 (@Rs (2)) (Fg 39 (by assumption:bits BinOp.and LG (BG w 1) (ones (2:Int))=BG w 1%4) (Fs 40 (Ld wdv [BG w 1%4]) (Fa (by simp[BG,ZQ, *]:(Ld wdv (Lj 1 (ZQ w))).length+(Ld wdv [BG w 1%4]).length<=2^30) (Fs 41 (Ld wdv [w%4,BG w 1%4]) (Fg 44 (by exact HA rfl dd:(BG w 1).fdiv (2^min (Lk 2) 64)=BG w 1/4) (Fo ((0:Int)<=2) (Fa (by(simp[BG,ZQ, *];omega):BG w 1/4=BG w (1+1)) Fz))))))))));exact sF [(496041,480009)] [O] (Fh 33 [.el (idv 12)] (Fa (by simp[BG,ZQ, *]:0<=(↑(2:Nat):Int)/\(Ld idv [2,2,12,32])[(↑(2:Nat):Int).toNat]?=M (idv 12)) (Fc 38 (@Rs (12)) (Fg 39 (by assumption:bits BinOp.and LG (BG w 2) (ones (12:Int))=BG w 2%4096) (Fs 40 (Ld wdv [BG w 2%4096]) (Fa (by simp[BG,ZQ, *]:(Ld wdv (Lj 2 (ZQ w))).length+(Ld wdv [BG w 2%4096]).length<=2^30) (Fs 41 (Ld wdv [w%4,w/4%4,BG w 2%4096]) (Fg 44 (by exact HA rfl dd:(BG w 2).fdiv (2^min (Lk 12) 64)=BG w 2/4096) (Fo ((0:Int)<=12) (Fa (by(simp[BG,ZQ, *];omega):BG w 2/4096=BG w (2+1)) Fz))))))))));exact sF [(496041,480009)] [O] (Fh 33 [.el (idv 32)] (Fa (by simp[BG,ZQ, *]:0<=(↑(3:Nat):Int)/\(Ld idv [2,2,12,32])[(↑(3:Nat):Int).toNat]?=M (idv 32)) (Fc 38 (@Rs (32)) (Fg 39 (by assumption:bits BinOp.and LG (BG w 3) (ones (32:Int))=BG w 3%4294967296) (Fs 40 (Ld wdv [BG w 3%4294967296]) (Fa (by simp[BG,ZQ, *]:(Ld wdv (Lj 3 (ZQ w))).length+(Ld wdv [BG w 3%4294967296]).length<=2^30) (Fs 41 (Ld wdv [w%4,w/4%4,w/16%4096,BG w 3%4294967296]) (Fg 44 (by exact HA rfl dd:(BG w 3).fdiv (2^min (Lk 32) 64)=BG w 3/4294967296) (Fo ((0:Int)<=32) (Fa (by(simp[BG,ZQ, *];omega):BG w 3/4294967296=BG w (3+1)) Fz))))))))))
def ZgA w:CP (Zo f201 2) (O2 w 4).st (.ext 2) (Tg.st ⟨tm 49 [(0,u64 (w/281474976710656)),(4,.d (.sl 0 [])),(5,int 0),(9,.ow 480009)],[(480009,.arr 35 1 ((ZQ w).map wdv))],60⟩):=by exact sF [] [] Fz
def Z7K(w:Int)(a:0<=w)(b:w<=18446744073709551615)  := Bw (S:=λi=>(O2 w i).st) 4 (by kernel_rfl) (λi c=>Zki w i a b c) (ZgA w)
def Z0U(w:Int)(h0:0<=w)(h1:w<=18446744073709551615)(h:w<281474976710656):GP 201 [u64 w,ZD [2,2,12,32]] O (.tu [Z3 (ZQ w),int 0]) []:=by exact gF [] func201 [] (Fh 9 [.own] (Fu (@Z7C w) (Fu (@Z7K w aa aa) (Ffb 47 (w/(281474976710656:Int) != 0) (Fa (by exact Hh _:Ck (Ld wdv (ZQ w))) Fz)))))
def ZdX(w:Int)(h0:0<=w)(h1:w<=18446744073709551615)(h:¬ w<281474976710656):GP 201 [u64 w,ZD [2,2,12,32]] O (.tu [Z3 [],int 2]) []:=by exact gF [] func201 [] (Fh 9 [.own] (Fu (@Z7C w) (Fu (@Z7K w aa aa) (Ftb 47 (w/(281474976710656:Int) != 0) (Fnl Fz)))))
def ZhE(w:Int)(h0:0<=w):Z7 w=if w<281474976710656/\w%4=1/\ZR (EL w)=O then(EL w,O)else(CX,Lb):=by
 have k1:(EL w).K=w/4%4:=rfl;have k2:(EL w).length=w/16%4096:=rfl;have k3:(EL w).map=w/65536%4294967296:=rfl;by_cases hv:ZR (EL w)=O;have e:Zt (EL w)=(1+4*(EL w).K+16*(EL w).length+65536*(EL w).map,0):=by rw[Zt,if_pos hv]
 by_cases hc:w<281474976710656/\w%4=1;rw[Z7,e,if_pos ⟨rfl,by simp only;omega⟩,if_pos ⟨hc.1,hc.2,hv⟩];rw[Z7,e,if_neg (by simp only;omega),if_neg (λq=>hc ⟨q.1,q.2.1⟩)];have e:Zt (EL w)=(0,1):=by rw[Zt,if_neg hv]
 rw[Z7,e,if_neg pq,if_neg (λq=>hv q.2.2)]
def H2(w:Int)(h0:0<=w)(h1:w<=18446744073709551615):GP 161 [u64 w] O (.tu [(Z7 w).1.av,bool (Z7 w).2]) []:=by have hm:=Z1o w h0;rw[ZhE w h0];have u0:(ZQ w).getD 0 La=w%4:=rfl;have u1:(ZQ w).getD 1 La=w/4%4:=rfl;have u2:(ZQ w).getD 2 La=w/16%4096:=rfl;have u3:(ZQ w).getD 3 La=w/65536%4294967296:=rfl;have uL:(ZQ w).length=4:=rfl;have k1:(EL w).K=w/4%4:=rfl;have k2:(EL w).length=w/16%4096:=rfl;have k3:(EL w).map=w/65536%4294967296:=rfl;by_cases ha:w<281474976710656;by_cases hb:w%4=1;by_cases hv:ZR (EL w)=O;rw[if_pos ⟨ha,hb,hv⟩];have hv2:ZR ⟨w/4%4,w/16%4096,w/65536%4294967296⟩=O:=hv;exact gF [] func161 [] (Fh 17 [.el (wdv ((ZQ w).getD 0 La))] (Fh 23 [.el (wdv ((ZQ w).getD 1 La))] (Fh 27 [.el (wdv ((ZQ w).getD 2 La))] (Fh 31 [.el (wdv ((ZQ w).getD 3 La))] (Fs 9 (Ld idv [2,2,12,32]) (Fc 10 (@Z0U w aa aa aa) (Fa (by intro hg;(try simp only[bs]at hg);exact Zm oq oq oq:(!(0:Int) != 0)=O->(0:Int)<=0/\(Ld wdv (ZQ w))[Lk 0]?=M (wdv ((ZQ w).getD 0 La))) (Ffb 20 ((ZQ w).getD 0 La != 1) (Fa (by exact Zm oq oq oq:(0:Int)<=1/\(Ld wdv (ZQ w))[Lk 1]?=M (wdv ((ZQ w).getD 1 La))) (Fi 25 ((ZQ w).getD 1 La) (Fa (by exact Zm oq oq oq:(0:Int)<=2/\(Ld wdv (ZQ w))[Lk 2]?=M (wdv ((ZQ w).getD 2 La))) (Fi 29 ((ZQ w).getD 2 La) (Fa (by exact Zm oq oq oq:(0:Int)<=3/\(Ld wdv (ZQ w))[Lk 3]?=M (wdv ((ZQ w).getD 3 La))) (Fg 33 (by exact OE oq oq:Lw.wrap ((ZQ w).getD 3 La)=(ZQ w).getD 3 La) (Fc 36 (@SH (Zy.mk ((ZQ w).getD 1 La) ((ZQ w).getD 2 La) ((ZQ w).getD 3 La)) aa) (Ffs 37 (!ZR (Zy.mk ((ZQ w).getD 1 La) ((ZQ w).getD 2 La) ((ZQ w).getD 3 La))) Fz))))))))))))))));rw[if_neg (by simp[hv])];have hv':ZR ⟨w/4%4,w/16%4096,w/65536%4294967296⟩=Lb:=eq_false_of_ne_true hv;exact gF [] func161 [] (Fh 17 [.el (wdv ((ZQ w).getD 0 La))] (Fh 23 [.el (wdv ((ZQ w).getD 1 La))] (Fh 27 [.el (wdv ((ZQ w).getD 2 La))] (Fh 31 [.el (wdv ((ZQ w).getD 3 La))] (Fs 9 (Ld idv [2,2,12,32]) (Fc 10 (@Z0U w aa aa aa) (Fa (by intro hg;(try simp only[bs]at hg);exact Zm oq oq oq:(!(0:Int) != 0)=O->(0:Int)<=0/\(Ld wdv (ZQ w))[Lk 0]?=M (wdv ((ZQ w).getD 0 La))) (Ffb 20 ((ZQ w).getD 0 La != 1) (Fa (by exact Zm oq oq oq:(0:Int)<=1/\(Ld wdv (ZQ w))[Lk 1]?=M (wdv ((ZQ w).getD 1 La))) (Fi 25 ((ZQ w).getD 1 La) (Fa (by exact Zm oq oq oq:(0:Int)<=2/\(Ld wdv (ZQ w))[Lk 2]?=M (wdv ((ZQ w).getD 2 La))) (Fi 29 ((ZQ w).getD 2 La) (Fa (by exact Zm oq oq oq:(0:Int)<=3/\(Ld wdv (ZQ w))[Lk 3]?=M (wdv ((ZQ w).getD 3 La))) (Fg 33 (by exact OE oq oq:Lw.wrap ((ZQ w).getD 3 La)=(ZQ w).getD 3 La) (Fc 36 (@SH (Zy.mk ((ZQ w).getD 1 La) ((ZQ w).getD 2 La) ((ZQ w).getD 3 La)) aa) (Fts 37 (!ZR (Zy.mk ((ZQ w).getD 1 La) ((ZQ w).getD 2 La) ((ZQ w).getD 3 La))) Fz))))))))))))))));rw[if_neg (by simp[hb])];exact gF [] func161 [] (Fh 17 [.el (wdv ((ZQ w).getD 0 La))] (Fs 9 (Ld idv [2,2,12,32]) (Fc 10 (@Z0U w aa aa aa) (Fa (by intro hg;(try simp only[bs]at hg);exact Zm oq oq oq:(!(0:Int) != 0)=O->(0:Int)<=0/\(Ld wdv (ZQ w))[Lk 0]?=M (wdv ((ZQ w).getD 0 La))) (Ftb 20 ((ZQ w).getD 0 La != 1) Fz)))));rw[if_neg (by simp[ha])];exact gF [] func161 [] (Fh 17 [.el (wdv ([].getD 0 La))] (Fs 9 (Ld idv [2,2,12,32]) (Fc 10 (@ZdX w aa aa aa) (Fa (by intro hg;(try simp only[bs]at hg);exact Zm oq oq oq:(!(2:Int) != 0)=O->(0:Int)<=0/\(Ld wdv [])[Lk 0]?=M (wdv ([].getD 0 La))) Fz))))
def Heap.dvs(h:Heap):List DV:=[.sc (.int .i64 h.C.pw),.sc (.int .i64 h.C.pg),.sl 1 (h.W.map wdv),.sl 4 (h.P.map Z0.dv),.sc (.int .i64 h.S),.sc (.int .i64 h.B)]
def Zca(h:Heap)(a:Int)(hl:h.W.length<=1048576)(h0:0<=a/\a<=18446744073709551615):GP 160 [.rp [.sc (.int .i64 h.C.pw),.sc (.int .i64 h.C.pg),.sl 1 (h.W.map wdv),.sl 4 (h.P.map Z0.dv),.sc (.int .i64 h.S),.sc (.int .i64 h.B)] 0,.rp [.sc (.int .u64 a)] 0] O (u64 (Z1 h.W a).1) []:=by exact gF [] func160 [] (Fc 9 (@Z0g h.W a aa aa) Fz)
def N3(h:Heap)(a:Int)(hl:h.W.length<=1048576)(b:0<=a/\a<=18446744073709551615):LP 160 [.pt 0 0 0,.pt 1 0 0] [.box 28 h.cells,.box 35 [u64 a]] (u64 (Z1 h.W a).1) [.box 28 h.cells,.box 35 [u64 a]]:=
 Zip (e0:=h.dvs) (e1:=[.sc (.int .u64 a)]) rfl (Zca h a hl b)
def Nk(h:Heap)(a:Int)(hw:Zx h.W)(h0:0<=a/\a<=18446744073709551615):GP 109 [h.av,u64 a] O (.tu [(Z9 h a).1.av,int (Z9 h a).2]) []:=by
 have r:=G2 hw a;have hm:=IZ (Z1 h.W a).1 r.1;by_cases l:Z8 h=O;have x:=B1 l;by_cases i:(Z2 h.C a).2.2=0;have oo:=GM x.1 i;have hz:(Z7 (Z1 h.W a).1).2=O->Z5 (Z7 (Z1 h.W a).1).1=(Z7 (Z1 h.W a).1).1.length+1/\0<=(Z7 (Z1 h.W a).1).1.length/\(Z7 (Z1 h.W a).1).1.length<=255:=λe=>by(have r:=Z2T e;have:=Gl.1 r;rw[Z5,if_pos r];omega)
 have pp:=Ea l (j:=(Z2 h.C a).1.toNat) oq;by_cases c3:((h.P.getD (Z2 h.C a).1.toNat La).K=1\/(h.P.getD (Z2 h.C a).1.toNat La).K=2)/\(Z2 h.C a).2.1<(h.P.getD (Z2 h.C a).1.toNat La).U/\(Z7 (Z1 h.W a).1).2=O;have a1:=hz c3.2.2;by_cases c4:((h.P.getD (Z2 h.C a).1.toNat La).K=1/\(h.P.getD (Z2 h.C a).1.toNat La).U<(Z2 h.C a).2.1+Z5 (Z7 (Z1 h.W a).1).1)\/((h.P.getD (Z2 h.C a).1.toNat La).K=2/\((Z2 h.C a).2.1≠0\/Z5 (Z7 (Z1 h.W a).1).1≠(h.P.getD (Z2 h.C a).1.toNat La).U));have g:Z9 h a=(CX,19):=by rw[Z9,if_pos l,if_pos i,if_pos c3,if_pos c4]
 rw[g];have s {h_ c_ p_} (m:Fq h_ c_ p_):=Fc 15 (@Es h) (Ffb 16 (!Z8 h) (Fc 22 (@Gn h.C a oq oq) (Ffb 27 ((Z2 h.C a).2.2 != 0) (Fe 34 Z0.dv h.P ((Z2 h.C a).1) (Fbq 38 [8002,8003] (@N3 h a oq aa) (Fc 39 (@H2 ((Z1 h.W a).1) oq oq) (Fc 43 (@EN ((Z7 (Z1 h.W a).1).1) aa) m)))))));rcases bb (!(Z7 (Z1 h.W a).1).2||Le ((h.P.getD (Z2 h.C a).1.toNat La).U<=(Z2 h.C a).2.1))with hc0|hc0<;>have b:=hc0<;>simp only[bs]at b;exact gF [] func109 [] (Fh 44 [.br O] (s (Fa hc0 Fz)));obtain⟨d,f⟩:=b;rcases bb ((h.P.getD (Z2 h.C a).1.toNat La).K==1)with hc1|hc1<;>have c:=hc1<;>simp only[bs]at c;let y:=h.P.getD (Z2 h.C a).1.toNat La;exact gF [] func109 [] (Fh 44 [.br Lb] (Fh 76 [.br O] (s (Fa hc0 (Fa hc1 (Fi 61 (y.U-(Z2 h.C a).2.1) (Ftb 53 (!decide (Z5 (Z7 (Z1 h.W a).1).1<=y.U-(Z2 h.C a).2.1)) Fz)))))));let z:=h.P.getD (Z2 h.C a).1.toNat La;exact gF [] func109 [] (Fh 44 [.br Lb] (Fh 53 [.br Lb] (Fh 76 [.br O] (s (Fa hc0 (Fa hc1 (Fb ((z.K==2)=O) (Ftb 63 (!((Z2 h.C a).2.1==0&&Z5 (Z7 (Z1 h.W a).1).1==z.U)) Fz))))))));have g:Z9 h a=((Z7 (Z1 h.W a).1).1,0):=by rw[Z9,if_pos l,if_pos i,if_pos c3,if_neg c4]
 rw[g];have t {h_ c_ p_} (m:Fq h_ c_ p_):=Fc 15 (@Es h) (Ffb 16 (!Z8 h) (Fc 22 (@Gn h.C a oq oq) (Ffb 27 ((Z2 h.C a).2.2 != 0) (Fe 34 Z0.dv h.P ((Z2 h.C a).1) (Fbq 38 [8002,8003] (@N3 h a oq aa) (Fc 39 (@H2 ((Z1 h.W a).1) oq oq) (Fc 43 (@EN ((Z7 (Z1 h.W a).1).1) aa) m)))))));rcases bb (!(Z7 (Z1 h.W a).1).2||Le ((h.P.getD (Z2 h.C a).1.toNat La).U<=(Z2 h.C a).2.1))with hc0|hc0<;>have b:=hc0<;>simp only[bs]at b;exact gF [] func109 (fO 4) (Fh 44 [.br O] (t (Fa hc0 (Fa (by grind[CX]:0=(Z7 (Z1 h.W a).1).1.K) (Fa (by grind[CX]:0=(Z7 (Z1 h.W a).1).1.length) (Fa (by grind[CX]:0=(Z7 (Z1 h.W a).1).1.map) (Fa (by grind[CX]:(19:Int)=0) Fz)))))));obtain⟨d,f⟩:=b;rcases bb ((h.P.getD (Z2 h.C a).1.toNat La).K==1)with hc1|hc1<;>have c:=hc1<;>simp only[bs]at c;let y2:=h.P.getD (Z2 h.C a).1.toNat La;exact gF [] func109 [] (Fh 53 [.br O] (Fh 76 [.br Lb] (t (Fa hc0 (Fa hc1 (Fi 61 (y2.U-(Z2 h.C a).2.1) (Ffb 44 (!decide (Z5 (Z7 (Z1 h.W a).1).1<=y2.U-(Z2 h.C a).2.1)) Fz)))))));let y3:=h.P.getD (Z2 h.C a).1.toNat La;exact gF [] func109 [] (Fh 53 [.br Lb] (Fh 63 [.br O] (Fh 76 [.br Lb] (t (Fa hc0 (Fa hc1 (Fb ((y3.K==2)=O) (Ffb 44 (!((Z2 h.C a).2.1==0&&Z5 (Z7 (Z1 h.W a).1).1==y3.U)) Fz))))))));have g:Z9 h a=(CX,19):=by rw[Z9,if_pos l,if_pos i,if_neg c3]
 rw[g];have n {h_ c_ p_} (m:Fq h_ c_ p_):=Fc 15 (@Es h) (Ffb 16 (!Z8 h) (Fc 22 (@Gn h.C a oq oq) (Ffb 27 ((Z2 h.C a).2.2 != 0) (Fe 34 Z0.dv h.P ((Z2 h.C a).1) (Fbq 38 [8002,8003] (@N3 h a oq aa) (Fc 39 (@H2 ((Z1 h.W a).1) oq oq) (Fc 43 (@EN ((Z7 (Z1 h.W a).1).1) aa) m)))))));rcases bb (!(Z7 (Z1 h.W a).1).2||Le ((h.P.getD (Z2 h.C a).1.toNat La).U<=(Z2 h.C a).2.1))with hc0|hc0<;>have b:=hc0<;>simp only[bs]at b;exact gF [] func109 [] (Fh 44 [.br O] (n (Fa hc0 Fz)));obtain⟨d,f⟩:=b;rcases bb ((h.P.getD (Z2 h.C a).1.toNat La).K==1)with hc1|hc1<;>have c:=hc1<;>simp only[bs]at c;have w {h_ c_ p_} (m:Fq h_ c_ p_):=n (Fa hc0 (Fa hc1 (Fi 61 ((h.P.getD (Z2 h.C a).1.toNat La).U-(Z2 h.C a).2.1) m)));rcases bb (!decide (Z5 (Z7 (Z1 h.W a).1).1<=(h.P.getD (Z2 h.C a).1.toNat La).U-(Z2 h.C a).2.1))with hc2|hc2<;>have o:=hc2<;>simp only[bs]at o;exact gF [] func109 [] (Fh 44 [.br Lb] (Fh 76 [.br O] (w (Ft 53 hc2 Fz))));rw[show CX=(Z7 (Z1 h.W a).1).1 from by grind[CX]];exact gF [] func109 (fO 4) (Fh 53 [.br O] (Fh 76 [.br Lb] (w (Ff 44 hc2 (Fr ((Z7 (Z1 h.W a).1).1.K) (Fr ((Z7 (Z1 h.W a).1).1.length) (Fr ((Z7 (Z1 h.W a).1).1.map) (Fa (by grind[CX]:(0:Int)=19) Fz))))))));rcases bb ((h.P.getD (Z2 h.C a).1.toNat La).K==2)with hc3|hc3<;>have p:=hc3<;>simp only[bs]at p;rcases bb (!((Z2 h.C a).2.1==0&&Z5 (Z7 (Z1 h.W a).1).1==(h.P.getD (Z2 h.C a).1.toNat La).U))with hc4|hc4<;>have k:=hc4<;>simp only[bs]at k;exact gF [] func109 [] (Fh 44 [.br Lb] (Fh 53 [.br Lb] (Fh 76 [.br O] (n (Fa hc0 (Fa hc1 (Fa hc3 (Ft 63 hc4 Fz))))))));obtain⟨u,v⟩:=k;rw[show CX=(Z7 (Z1 h.W a).1).1 from by grind[CX]];exact gF [] func109 (fO 8) (Fh 53 [.br Lb] (Fh 63 [.br O] (Fh 76 [.br Lb] (n (Fa hc0 (Fa hc1 (Fa hc3 (Ff 44 hc4 (Fr ((Z7 (Z1 h.W a).1).1.K) (Fr ((Z7 (Z1 h.W a).1).1.length) (Fr ((Z7 (Z1 h.W a).1).1.map) (Fa (by grind[CX]:(0:Int)=19) Fz))))))))))));exact gF [] func109 [] (Fh 44 [.br Lb] (Fh 53 [.br Lb] (Fh 63 [.br Lb] (n (Fa hc0 (Fa hc1 (Fa hc3 Fz)))))));have g:Z9 h a=(CX,2):=by rw[Z9,if_pos l,if_neg i]
 have e2:(Z2 h.C a).2.2=2:=by(unfold Z2 at i⊢;rw[if_pos x.1]at i⊢;split at i;simp at i;rename_i q;rw[if_neg q])
 rw[g];exact gF [] func109 [O] (Fc 15 (@Es h) (Ffb 16 (!Z8 h) (Fc 22 (@Gn h.C a oq oq) (Ftb 27 ((Z2 h.C a).2.2 != 0) (Fr (0:Int) (Fr (0:Int) (Fr (0:Int) (Fa ‹(Z2 h.C a).2.2=2› Fz))))))));have g:Z9 h a=(CX,1):=by rw[Z9,if_neg l]
 have a0:Z8 h=Lb:=by simpa using l
 rw[g];exact gF [] func109 [] (Fc 15 (@Es h) (Ftb 16 (!Z8 h) Fz))
structure Found where
 addr:Int
 hd:Zy
 deriving DecidableEq,Inhabited
def Found.dv(f:Found):List DV:=[.sc (.int .u64 f.addr),.sc (.int .i64 f.hd.K),.sc (.int .i64 f.hd.length),.sc (.int .u32 f.hd.map)]
def Found.av(f:Found):AV:=.ag [u64 f.addr,int f.hd.K,int f.hd.length,u32 f.hd.map]
def Hf(fn:Func)(n:Nat):Code:=match Zk fn n with|.block _ (.rangeFunc _ _ x _)=>x|_=>.skip
def H5(fn:Func)(n:Nat):Code:=match Zk fn n with|.block _ (.rangeFunc _ _ _ x)=>x|_=>.skip
def Sl(a:List Found):List (Nat×Z4):=[(8020,.arr 212 4 (a.map Found.dv)),(6,.box 206 [.ow 8020])]
def Oy(a:List Found)(x:Found):Tg:=⟨tm 22 [(6,.pt 6 0 0),(12,x.av),(13,int 0)],Sl a,20⟩
def SU(a:List Found)(x:Found):Tg:=⟨tm 22 [(6,.pt 6 0 0),(7,.pt 160007 0 0),(8,int 0)],(160007,.box 212 [u64 x.addr,int x.hd.K,int x.hd.length,u32 x.hd.map])::Sl a,30⟩
def Zjq a x:CIn prog (Hf f183 0) (Oy a x).st .nrm (SU a x).st:=by refine Z2d [] [] [] (φ:=True) ?_ kr kr kr kr;exact trivial
def ZaA(a:List Found) x(hl:a.length<=1000):CIn prog (H5 f183 0) (SU a x).st .nrm (Tg.st ⟨tm 22 [(6,.pt 6 0 0),(20,.ow 8020)],Sl (a++[x]),60⟩):=by refine Z2d [((19:Nat),[Hint.els (Ld Found.dv [x])]),((20:Nat),[Hint.els (Ld Found.dv (a++[x]))])] [((248020:Nat),(8020:Nat))] [] (φ:=(Lg (1:Nat) [B2 (0:Int),Zn (0:Int),Zn (0:Int),DV.sc (LA Lw (0:Int))]).set ((0:Nat),Operand.tmp (18:Nat)).1 [B2 x.addr,Zn x.hd.K,Zn x.hd.length,DV.sc (LA Lw x.hd.map)]=Ld Found.dv [x]/\(Ld Found.dv a).length+(Ld Found.dv [x]).length<=(2:Nat)^(30:Nat)/\Ld Found.dv a++Ld Found.dv [x]=Ld Found.dv (a++[x])) ?_ kr kr kr kr;exact⟨rfl,(by(simp[*];omega)),(by simp[LU,L2,L3,LS,wdv,idv])⟩
def Gj(l:Nat):Value:=.func (.yield l) #[] #[]
def EP(h:Heap)(i:Int):Nat->Int->List Found×Bool|0,_=>([],O)|f+1,o=>if o<(pg h i).U then(if(address h.C i o).2=0/\(Z9 h (Bb h i o)).2=0 then(⟨Bb h i o,(Z9 h (Bb h i o)).1⟩::(EP h i f (o+Z5 (Z9 h (Bb h i o)).1)).1,(EP h i f (o+Z5 (Z9 h (Bb h i o)).1)).2)else([],Lb))else([],O)
def Hj(fn:Func):Code:=match fn.body with|some c=>c|none=>.skip
def inE(h:Heap)(l:Nat)(i:Int):Tg:=⟨tm 58 [(0,.d (.sc (Gj l))),(1,.rp h.dvs 0),(2,.rp [Zn i] 0)],[],1⟩
def inP(h:Heap)(l:Nat)(i:Int):Tg:=⟨tm 58 [(0,.d (.sc (Gj l))),(1,.rp h.dvs 0),(2,.rp [Zn i] 0),(4,.pt 8004 0 0)],[(8004,.box 86 [int (pg h i).K,int (pg h i).S,int (pg h i).U,int (pg h i).N])],20⟩
def Zan(h:Heap) l(i:Int)(hi:0<=i/\i<h.P.length)(a:(pg h i).K=1\/(pg h i).K=2):Sa prog 2 (Hj f234) (inE h l i).st (inP h l i).st:=by unfold inP inE pg;unfold pg at a;refine Ar [((13:Nat),[Hint.el (h.P.getD i.toNat La).dv]),((22:Nat),[Hint.br Lb])] [] [] (φ:=((0:Int)<=i/\(Ld Z0.dv h.P)[i.toNat]?=M (h.P.getD i.toNat La).dv)/\((h.P.getD i.toNat La).K != (1:Int)&&(h.P.getD i.toNat La).K != (2:Int))=Lb/\Lb=Lb) ?_ kr kr kr kr;exact⟨(by exact Zm oq oq oq),(by(simp only[bs];omega)),rfl⟩
def ZeM(h:Heap) l(i:Int)(hi:0<=i/\i<h.P.length)(a:¬ ((pg h i).K=1\/(pg h i).K=2)):CP (Hj f234) (inE h l i).st .ret (Tg.st ⟨tm 58 [],[],20⟩):=by unfold inE;unfold pg at a;exact sF [] [] (Fe 13 Z0.dv h.P i (Ftb 22 ((h.P.getD i.toNat La).K != 1&&(h.P.getD i.toNat La).K != 2) Fz))
def inS(h:Heap)(l:Nat)(i o:Int):Tg:=⟨tm 58 [(0,.d (.sc (Gj l))),(1,.rp h.dvs 0),(2,.rp [Zn i] 0),(4,.rp (pg h i).dv 0),(5,int o)],[],20⟩
def inT(h:Heap)(l:Nat)(i o:Int)(a:Int)(hd:Zy):Tg:=⟨tm 58 [(0,.d (.sc (Gj l))),(1,.rp h.dvs 0),(2,.rp [Zn i] 0),(4,.rp (pg h i).dv 0),(5,int o),(6,u64 a),(8,.pt 184008 0 0)],[(184008,.box 52 [int hd.K,int hd.length,u32 hd.map])],30⟩
section
variable (h:Heap) (l:Nat) (i o:Int) (b:Zx h.W) (a:Z8 h=O) (c:0<=o/\o<=1000)
include b a c
theorem Zk8(h1:o<(pg h i).U)(h2:(address h.C i o).2=0)(e:(Z9 h (Bb h i o)).2=0):Sa prog 9 (Zo f234 0) (inS h l i o).st (inT h l i (o+Z5 (Z9 h (Bb h i o)).1) (Bb h i o) (Z9 h (Bb h i o)).1).st:=by have g:=B1 a;have d:=AN g.1 i o;have j:=Ic (Z9 h (Bb h i o)).1;have f:=IC b (Bb h i o);unfold Bb at d j f e;refine Ar [((26:Nat),[Hint.br O]),((32:Nat),[Hint.call O (Em h.C i o) []]),((36:Nat),[Hint.br O]),((40:Nat),[Hint.call O (AV.tu [(Z9 h (address h.C i o).1).1.av,int (Z9 h (address h.C i o).1).2]) []]),((44:Nat),[Hint.br O]),((47:Nat),[Hint.call O (int (Z5 (Z9 h (address h.C i o).1).1)) []]),((48:Nat),[Hint.int (o+Z5 (Z9 h (address h.C i o).1).1)])] [] [] (φ:=Le (o<(pg h i).U)=O/\O=O/\GP 212 [h.C.av,int i,int o] O (Em h.C i o) []/\((address h.C i o).2==(0:Int))=O/\O=O/\GP 109 [h.av,u64 (address h.C i o).1] O (AV.tu [(Z9 h (address h.C i o).1).1.av,int (Z9 h (address h.C i o).1).2]) []/\((Z9 h (address h.C i o).1).2==(0:Int))=O/\O=O/\GP 69 [(Z9 h (address h.C i o).1).1.av] O (int (Z5 (Z9 h (address h.C i o).1).1)) []/\Xc.wrap (o+Z5 (Z9 h (address h.C i o).1).1)=o+Z5 (Z9 h (address h.C i o).1).1) ?_ kr kr kr kr;exact⟨(by(simp only[bs];omega)),rfl,(@MB (h.C) (i) (o)),(by(simp only[bs];omega)),rfl,(@Nk (h) ((address h.C i o).1) aa oq),(by(simp only[bs];omega)),rfl,(@EN ((Z9 h (address h.C i o).1).1) aa),(by exact Ze rfl oq oq)⟩
theorem ZbM(h1:o<(pg h i).U)(h2:¬ (address h.C i o).2=0):Sa prog 10 (Zo f234 0) (inS h l i o).st (Tg.st ⟨tm 58 [(0,.d (.sc (Gj l)))],[],30⟩):=by refine Ar [((26:Nat),[Hint.br O]),((32:Nat),[Hint.call O (Em h.C i o) []]),((36:Nat),[Hint.br Lb])] [] [] (φ:=Le (o<(pg h i).U)=O/\O=O/\GP 212 [h.C.av,int i,int o] O (Em h.C i o) []/\((address h.C i o).2==(0:Int))=Lb/\Lb=Lb) ?_ kr kr kr kr;exact⟨(by(simp only[bs];omega)),rfl,(@MB (h.C) (i) (o)),(by(simp only[bs];omega)),rfl⟩
theorem ZfU(h1:o<(pg h i).U)(h2:(address h.C i o).2=0)(e:¬ (Z9 h (Bb h i o)).2=0):Sa prog 10 (Zo f234 0) (inS h l i o).st (Tg.st ⟨tm 58 [(0,.d (.sc (Gj l)))],[],30⟩):=by have f:=B1 a;have d:=AN f.1 i o;unfold Bb at d e;refine Ar [((26:Nat),[Hint.br O]),((32:Nat),[Hint.call O (Em h.C i o) []]),((36:Nat),[Hint.br O]),((40:Nat),[Hint.call O (AV.tu [(Z9 h (address h.C i o).1).1.av,int (Z9 h (address h.C i o).1).2]) []]),((44:Nat),[Hint.br Lb])] [] [] (φ:=Le (o<(pg h i).U)=O/\O=O/\GP 212 [h.C.av,int i,int o] O (Em h.C i o) []/\((address h.C i o).2==(0:Int))=O/\O=O/\GP 109 [h.av,u64 (address h.C i o).1] O (AV.tu [(Z9 h (address h.C i o).1).1.av,int (Z9 h (address h.C i o).1).2]) []/\((Z9 h (address h.C i o).1).2==(0:Int))=Lb/\Lb=Lb) ?_ kr kr kr kr;exact⟨(by(simp only[bs];omega)),rfl,(@MB (h.C) (i) (o)),(by(simp only[bs];omega)),rfl,(@Nk (h) ((address h.C i o).1) aa oq),(by(simp only[bs];omega)),rfl⟩
omit b a c in
theorem Zfc(h1:(pg h i).U<=o):CP (Zo f234 0) (inS h l i o).st (.ext 0) (Tg.st ⟨tm 58 [],[],30⟩):=by exact sF [] [] (Ffb 26 (Le (o<(pg h i).U)) Fz)
end
end Go.Proofs.YtgedmeaemofdkaaGreat
namespace Go.Proofs.YtgedmeaemofdkaaGreat
open Go.Sx Go.RowKit
def Z20(ids a:List Nat):AV->Bool|.pt b _ _=>NQ b a|.ow b=>NQ b ids|.d (.sc _)=>O|.any=>O|_=>Lb
def Zb5(ids a:List Nat):Z4->Bool|.box _ l=>l.all (Z20 ids a)|.arr .. => O|_=>Lb
def IK:List (Nat×Z4)->List Nat|[]=>[]|(b,.box ..)::l=>b::IK l|_::l=>IK l
def Mw{b:Nat}:∀{hl:List (Nat×Z4)},b∈IK hl->∃ty cells,(b,Z4.box ty cells)∈hl
 |[],h=>by grind[IK]
 |(c,.box ty cells)::l,h=>by
  simp only[IK,Ln]at h;rcases h with rfl|h
  .grind
  .obtain⟨ty,cells,h⟩:=Mw h;grind
 |(c,.arr ..)::l,h=>by obtain⟨ty,cells,h⟩:=Mw (hl:=l) h;grind
 |(c,.mp _)::l,h=>by obtain⟨ty,cells,h⟩:=Mw (hl:=l) h;grind
 |(c,.dead)::l,h=>by obtain⟨ty,cells,h⟩:=Mw (hl:=l) h;grind
def Z8N{ρ ρ':ZM}{w Y Im ids e x v}(h:Zi ρ w Im x v)(i:Z20 ids e x=O)(o:∀b∈e,∀β,ρ b=M β->ρ' b=M β)(n:∀b∈ids,∀β,ρ b=M β->ρ' b=M β\/(ρ' b=M ⟨Lc,β.s,β.n⟩/\∀g,β.g=M g->rows w g<β.s))(hr:∀g,rows Y g=rows w g):Zi ρ' Y (λ_=>False) x v:=by
 cases h with
 |pt j=>exact .pt (o _ (Rq.1 i) _ j)
 |ow j l m f =>rename_i b c a β;rcases n _ (Rq.1 i) _ j with k|⟨k,p⟩;refine .ow k l m (f.imp id λ⟨g,k1,q,r⟩=>⟨g,k1,q, ?_⟩);grind;refine Zi.ow (β:=⟨Lc,β.s,β.n⟩) k l m (.inl ?_);rcases f with f|⟨g,k1,_,r⟩;exact f;have:=p g k1;rcases Nat.eq_zero_or_pos c with h|h;exact h;have:=Xo β.s h;omega
 |any=>exact .any _
 |d h =>
  cases h with|sc _ h=>exact .d (.sc _ h)|_=>cases i
 |_=>cases i
theorem Z36{ρ w Im β}{ty g:Nat}{cells:List AV}(h:RelB ρ w Im β (.box ty cells))(hg:β.g=M g):rows w g=cells.length:=by obtain⟨_,_,g',cs,h1,h2,h3,_⟩:=h;grind[rows]
def ZgQ{ρ w Im β}{ty g s:Nat}{els:List (List DV)}(h:RelB ρ w Im β (.arr ty s els))(hg:β.g=M g):els.length*s<=rows w g:=by obtain⟨_,_,_,_,⟨a,_⟩|⟨g',cs,a,h2,h3,_⟩⟩:=h;all_goals grind[rows]
def Z7N{Ow Im0 w0 w tmps hl}{clk a0:Nat}{a}(S:Sx.Sys Ow Im0 w0 tmps (BW hl) clk a w)(hT:tmps.all (Z20 (hl.map (·.1)) (IK hl))=O)(hB:hl.all (λp=>Zb5 (hl.map (·.1)) (IK hl) p.2)=O)(hN:(hl.map (·.1)).Nodup)(hF:∀b ty s els,(b,Z4.arr ty s els)∈hl->Ck els){Y:World}{l:Nat}{r r':Loop}(a8:w.heap[l]?=M (.loop r))(a9:Y.heap[l]?=M (.loop r'))(hY:Y.heap.size=w.heap.size)(hs:∀g,g≠l->Y.heap[g]?=w.heap[g]?)(hc:1<=a0) :∃ρ:ZM,(∀b β,ρ b=M β->b∈hl.map (·.1))/\(∀b β g,ρ b=M β->β.g=M g->(w0.heap.size<=g/\8000<=b)\/OwA Ow g)/\(∀b β g,ρ b=M β->β.g=M g->β.s<=rows Y g)/\Inv (GU ρ) (λ_=>False) Y ρ Y (λ_=>False) (BW hl) a0/\Cw Ow.ds ρ Y (λ_=>False) tmps a/\Kept (OwA Ow) w0 w:=by
 obtain⟨ρ,Im,I,T⟩:=S;let f:=hl.map (·.1);let ρ':ZM:=λb=>if NQ b f then(match ρ b with|Lc=>Lc|M β=>match β.g with|M g=>if rows w g<β.s then M ⟨Lc,β.s,β.n⟩else M β|Lc=>M β)else Lc;have t:∀b β,ρ' b=M β->b∈f/\∃κ,ρ b=M κ/\κ.s=β.s/\κ.n=β.n/\∀g,β.g=M g->κ=β/\β.s<=rows w g:=by grind[Rq]
 have z:∀b∈f,∀β,ρ b=M β->ρ' b=M β\/(ρ' b=M ⟨Lc,β.s,β.n⟩/\∀g,β.g=M g->rows w g<β.s):=by grind[Rq]
 have a1:∀g,rows Y g=rows w g:=by grind[rows]
 have m:∀b∈IK hl,∀β,ρ b=M β->ρ' b=M β:=by
  intro b hb β h;obtain⟨ty,cells,hm⟩:=Mw hb;have a7:b∈f:=L4.2 ⟨_,hm,rfl⟩;rcases z b a7 β h with k|⟨_,k⟩;exact k;cases hq:BW hl b with
  |none=>grind[R7]
  |some B =>
   have a6:B=.box ty cells:=by(have u:=R7.1 B hq;obtain⟨i,hi⟩:=Xk.1 u;obtain⟨j,hj⟩:=Xk.1 hm;have:i=j:=Z1Q b hN (by simp[hi]) (by simp[hj]);subst this;rw[hi]at hj;cases hj;rfl)
   subst a6;obtain⟨β',m1,m2⟩:=I.blk b _ hq;rw[h]at m1;cases m1;have m3:=m2;obtain⟨h0,_,g,_,u,_⟩:=m2;grind[Z36]
 have n:∀b,b∈f->live (BW hl) b:=by
  intro b hb;cases hq:BW hl b with|none=>grind[R7]|some B =>refine⟨B,hq, ?_⟩;rintro rfl;have:=LH.1 hB _ (R7.1 _ hq);cases this
 have d:∀b β g,ρ' b=M β->β.g=M g->ρ b=M β:=λb β g h h'=>by(grind)
 refine⟨ρ',λb β h=>(t b β h).1,λb β g h h'=>I.own b β g (d b β g h h') h',λb β g h h'=>by
  grind,⟨Kept.refl _ _,λb b' β β' g _ _ q1 q2 q3 q4=>I.inj b b' β β' g (n _ (t _ _ q1).1) (n _ (t _ _ q2).1) (d _ _ g q1 q3) (d _ _ g q2 q4) q3 q4,λ_ _ _ _ _ _ h=>h,λb β g q1 q2=>by rw[hY];exact I.bnd b β g (d _ _ g q1 q2) q2,λb β g q1 q2=>.inr ⟨b,β,q1,q2⟩,λ_ h=>h.elim,λ_ h=>h.elim,λb B q=>?_,λb _ q=>?_,⟨hc,λ_ _ _ h=>h⟩⟩,⟨T.size,λi x v u h2=>Z8N (T.tmp i x v u h2) (LH.1 hT _ (Lo u)) m z a1,T.defers⟩,I.kept⟩
 have hm:=R7.1 B q;have hb:b∈f:=L4.2 ⟨(b,B),hm,rfl⟩;obtain⟨β,m1,m2⟩:=I.blk b B q;have a2:=LH.1 hB _ hm;cases B with
 |dead=>cases a2
 |mp=>cases a2
 |box ty cells =>
  obtain⟨h0,a4,g,cs,u,h2,h3,a5,h4⟩:=m2;have hg:g≠l:=by grind
  have:b∈IK hl:=by
   have:∀{k:List (Nat×Z4)},(b,Z4.box ty cells)∈k->b∈IK k:=by
    intro k;induction k with|nil=>grind|cons p k ih =>obtain⟨c,C⟩:=p;intro h;rcases Ln.1 h with e|e;grind[IK];cases C<;>simp[IK,ih e]
   exact this hm
  exact⟨β,m b this β m1,h0,a4,g,cs,u,by grind,h3,a5,λo x v hx hv=>Z8N (h4 o x v hx hv) (LH.1 a2 _ (Lo hx)) m z a1⟩
 |arr ty s els =>
  have m3:=m2;obtain⟨h0,u,a3,h2,h3⟩:=m2;rcases z b hb β m1 with k|⟨k,k'⟩;refine⟨β,k,h0,u,a3,h2,h3.imp id λ⟨g,cs,h4,h5,h6,h7⟩=>?_⟩;grind[Z0X];refine⟨_,k,h0,u,a3,h2,.inl ⟨rfl, ?_⟩⟩;rcases h3 with⟨_,h⟩|⟨g,_,h4,_⟩;exact h;have e1:=k' g h4;have e2:=ZgQ m3 h4;rw[h0]at e1;cases els with|nil=>rfl|cons y ys =>have:1*s<=(y::ys).length*s:=Xo s pq;omega
 grind[R7]
def NN(f:Found):Value:=.agg #[.int .u64 f.addr,.int .i64 f.hd.K,.int .i64 f.hd.length,.int .u32 f.hd.map]
def IV(f:Found)(e:Int):Array Value:=#[NN f,.int .i64 e]
def Z7i ρ w Im(f:Found):Zi ρ w Im f.av (NN f):=by refine .ag _ _ rfl (λi v h=>?_) (λi a v b c=>?_);rcases i with _|_|_|_|i<;>simp at h<;>subst h<;>rfl;rcases i with _|_|_|_|i<;>simp at b c<;>subst b<;>subst c<;>exact .d (.sc _ rfl)
def Z07(l:List Found):Ck (l.map Found.dv):=by intro e a x hx;obtain⟨f,_,rfl⟩:=L4.1 a;grind[Found.dv]
def LJ(g6:Nat)(a:List (Nat×Obj))(A:Nat->Prop)(c:List Found)(W:World):Prop:=
 ∃ρ:ZM,(∀g,A g↔∃b β,ρ b=M β/\β.g=M g)/\Inv (GU ρ) (λ_=>False) W ρ W (λ_=>False) (BW (Sl c)) 20/\(∃s n,ρ 6=M ⟨M g6,s,n⟩)/\(∀b β,ρ b=M β->b∈[8020,6])/\(∀b β g,ρ b=M β->β.g=M g->β.s<=rows W g)/\∀p∈a,W.heap[p.1]?=M p.2/\¬ A p.1
def LJ.keep{g6 a A d X Y}(J:LJ g6 a A d X)(K:Kept (λ_=>False) X Y):LJ g6 a A d Y:=by obtain⟨ρ,m,I,l,r,hr,j⟩:=J;have n:Ext (λ_=>False) X Y:=⟨K.size,λg h=>h.elim,K.rows⟩;refine⟨ρ,m,⟨Kept.refl _ _,I.inj,λ_ _ _ _ _ _ h=>h,λb β g e f=>LV (I.bnd b β g e f) K.size,λb β g e f=>.inr ⟨b,β,e,f⟩,λ_ h=>h.elim,λ_ h=>h.elim,λb B q=>?_,I.fresh,I.one⟩,l,r,λb β g e f=>?_,λp c=>⟨?_,(j p c).2⟩⟩;obtain⟨β,k,s⟩:=I.blk b B q;exact⟨β,k,s.mono n (λ_ h=>h) (λ_ _ h=>h) I.bnd (λg o=>K.block g (I.bnd b β g k o) (λh=>h))⟩;rw[K.rows g (I.bnd _ _ _ e f)];grind;have i:=(j p c).1;rw[K.block p.1 (Ll.1 i).1 (λh=>h)];exact i
def ZhO{fn:Nat}{a0:Array Value}{D l g6 n:Nat}{prot:List (Nat×Obj)}{A}{pre:List Found}{W}(hl:pre.length<=1000)(ha0:a0.size=22)(ha6:a0[6]?=M (.pointer (M ⟨g6,0,Lc⟩)))(hrec:(l,Lm {state:=.ready,pending:=Lc,fn:=fn,tmps:=a0,params:=#[12,13],assign:=Hf f183 0,body:=H5 f183 0,defers:=D})∈prot)(J:LJ g6 prot A pre W) x :
  YieldAt Lf n prog l (IV x 0) W λe W'=>e=.returned (.bool O)/\∃A',LJ g6 prot A' (pre++[x]) W'/\(∀g,A' g->A g\/W.heap.size<=g)/\Kept A W W':=by
 obtain⟨ρ,hA,I,⟨s6,n6,h6⟩,hs,hr,hp⟩:=J;obtain⟨rl,nl⟩:=hp _ hrec;have hAe:OwA (GU ρ)=A:=by funext g;exact propext (hA g).symm
 refine⟨fn,_,_,_,run_yield rl rfl,roundIn_of_wpIn trivial ?_⟩;have T0:Cw [] ρ W (λ_=>False) (tm 22 [(6,.pt 6 0 0)]) {tmps:=a0,defers:=[]}:=by
  refine⟨by rw[ha0];rfl,λi y v h1 h2=>?_,rfl⟩;by_cases h:i=6;subst h;rw[ha6]at h2;cases h2;cases (show(tm 22 [(6,.pt 6 0 0)])[6]?=M (.pt 6 0 0)from rfl).symm.trans h1;have:=Zi.pt (ρ:=ρ) (w:=W) (Im:=λ_=>False) (i:=0) (o:=0) h6;simpa[ptV,mpO]using this;have:y=.any:=by
   have hi:i<22:=(L1.1 h1).1;have e:∀j,j<22->j≠6->(tm 22 [(6,.pt 6 0 0)])[j]?=M .any:=by
    intro j hj hj6;have:j∈[0,1,2,3,4,5,7,8,9,10,11,12,13,14,15,16,17,18,19,20,21]:=by(simp only[Ln,Lq,or_false];omega)
    simp only[Ln,Lq,or_false]at this;rcases this with rfl|rfl|rfl|rfl|rfl|rfl|rfl|rfl|rfl|rfl|rfl|rfl|rfl|rfl|rfl|rfl|rfl|rfl|rfl|rfl|rfl<;>rfl
   rw[e i hi h]at h1;cases h1;rfl
  subst this;exact .any _
 have T1:=(T0.put 12 (Z7i ρ W (λ_=>False) x)).put 13 (Zi.d (CK.sc (LA .i64 0) rfl));have S1:Sx.Sys (GU ρ) (λ_=>False) W (Oy pre x).st.tmps (Oy pre x).st.H (Oy pre x).st.clk {tmps:=(a0.setIfInBounds 12 (NN x)).setIfInBounds 13 (.int .i64 0),defers:=[]} W:=⟨ρ,_,I,T1⟩;have ef:((#[12,13]:Array Nat).zip (IV x 0)).foldl (λtmps (t,a)=>tmps.setIfInBounds t a) a0=(a0.setIfInBounds 12 (NN x)).setIfInBounds 13 (.int .i64 0):=by simp[IV]
 show(Hf f183 0).wpIn _ n _ _ {tmps:=((#[12,13]:Array Nat).zip (IV x 0)).foldl (λtmps (t,a)=>tmps.setIfInBounds t a) a0,defers:=[]} W;rw[ef];refine wpIn_mono (Zjq pre x (M l) n _ _ _ _ _ S1) ?_;rintro e a1 w1 ⟨rfl,S2⟩;have K1:Kept A W w1:=by obtain⟨_,_,I1,_⟩:=S2;exact hAe▸I1.kept
 have hlW:l<W.heap.size:=(Ll.1 rl).1;have rl1:w1.heap[l]?=M (Lm {state:=.ready,pending:=Lc,fn:=fn,tmps:=a0,params:=#[12,13],assign:=Hf f183 0,body:=H5 f183 0,defers:=D}):=by(rw[K1.block l hlW nl];exact rl)
 refine⟨_,run_beginRound rl1 rfl, ?_⟩;obtain⟨w2,hw2⟩:∃w2,w1.putObj l (Lm {state:=.busy,pending:=Lc,fn:=fn,tmps:=a0,params:=#[12,13],assign:=Hf f183 0,body:=H5 f183 0,defers:=D})=w2:=⟨_,rfl⟩;have rl2:w2.heap[l]?=M (Lm {state:=.busy,pending:=Lc,fn:=fn,tmps:=a0,params:=#[12,13],assign:=Hf f183 0,body:=H5 f183 0,defers:=D}):=by(rw[<-hw2];exact Lt (Ll.1 rl1).1)
 have hs2:∀g,g≠l->w2.heap[g]?=w1.heap[g]?:=λg hg=>by rw[<-hw2];exact Li hg
 have hz2:w2.heap.size=w1.heap.size:=by rw[<-hw2];exact Lu
 obtain⟨ρ1,q1,q2,qr,I1,T1',_⟩:=Z7N S2 kr kr (by show([160007,8020,6]:List Nat).Nodup;decide) (by
  intro b ty s els hm;simp only[SU,Sl,Ln,Lq,or_false,Prod.mk.injEq,reduceCtorEq,and_false,Z4.arr.injEq,false_or]at hm;obtain⟨_,_,_,rfl⟩:=hm;exact Z07 pre) rl1 rl2 hz2 hs2 (by decide:1<=30)
 show(H5 f183 0).wpIn _ _ _ _ _ _;rw[hw2];refine wpIn_mono (ZaA pre x hl (M l) n _ _ _ _ _ (⟨ρ1,_,I1,T1'⟩:Sx.Sys _ _ w2 (SU pre x).st.tmps (SU pre x).st.H (SU pre x).st.clk a1 w2)) ?_;rintro e a3 w3 ⟨rfl,S3⟩;have K3:Kept (λg=>∃b β,ρ1 b=M β/\β.g=M g) w2 w3:=by obtain⟨_,_,I3,_⟩:=S3;exact I3.kept
 have hrow2:∀g,rows w2 g=rows w1 g:=by(intro g;by_cases hg:g=l;subst hg;simp[rows,rl1,rl2];simp only[rows,hs2 g hg])
 have hw12:W.heap.size<=w1.heap.size:=K1.size;have own1:∀b β g,ρ1 b=M β->β.g=M g->W.heap.size<=g\/A g:=λb β g h h'=>(q2 b β g h h').imp (·.1) λh=>hAe▸h;have hl2:¬ ∃b β,ρ1 b=M β/\β.g=M l:=by(rintro⟨b,β,h,h'⟩;rcases own1 b β l h h' with k|k;omega;exact nl k)
 have box6:∀{ρ:ZM} {X:World} {H:List (Nat×Z4)} {t:Nat} {x:AV},Inv (GU ρ) (λ_=>False) X ρ X (λ_=>False) (BW H) t->BW H 6=M (.box 206 [x])->∃β g,ρ 6=M β/\β.g=M g/\rows X g=1:=by(intro ρ X H t x I hH;obtain⟨β,k1,k2⟩:=I.blk 6 _ hH;have k3:=k2;obtain⟨_,_,g,_,k4,_⟩:=k2;exact⟨β,g,k1,k4,Z36 k3 k4⟩)
 have arr4:∀{ρ:ZM} {X:World} {H:List (Nat×Z4)} {t:Nat} {els:List (List DV)} {β:Bi},Inv (GU ρ) (λ_=>False) X ρ X (λ_=>False) (BW H) t->BW H 8020=M (.arr 212 4 els)->ρ 8020=M β->β.s=4:=by(intro ρ X H t els β I hH h;obtain⟨β',k1,k2⟩:=I.blk 8020 _ hH;rw[h]at k1;cases k1;exact k2.1)
 have id1:∀β g,ρ1 6=M β->β.g=M g->rows w2 g=1->g=g6:=by(intro β g h h' h1;rcases q2 6 β g h h' with⟨_,k⟩|k;omega;obtain⟨b,κ,(k1:ρ b=M κ),k2⟩:=k;have hb:=hs b κ k1;simp only[Ln,Lq,or_false]at hb;rcases hb with rfl|rfl;have:=hr _ _ _ k1 k2;rw[arr4 I rfl k1,<-K1.rows g (I.bnd _ _ _ k1 k2),<-hrow2,h1]at this;omega;rw[h6]at k1;cases k1;cases k2;rfl)
 have rl3:w3.heap[l]?=M (Lm {state:=.busy,pending:=Lc,fn:=fn,tmps:=a0,params:=#[12,13],assign:=Hf f183 0,body:=H5 f183 0,defers:=D}):=by(rw[K3.block l oq hl2];exact rl2)
 refine⟨_,_,run_endRound Lc rl3,rfl, ?_⟩;obtain⟨W',hW'⟩:∃W',w3.putObj l (Lm {state:=.ready,pending:=Lc,fn:=fn,tmps:=a0,params:=#[12,13],assign:=Hf f183 0,body:=H5 f183 0,defers:=D})=W':=⟨_,rfl⟩;have rl4:W'.heap[l]?=M (Lm {state:=.ready,pending:=Lc,fn:=fn,tmps:=a0,params:=#[12,13],assign:=Hf f183 0,body:=H5 f183 0,defers:=D}):=by(rw[<-hW'];exact Lt (Ll.1 rl3).1)
 have hs4:∀g,g≠l->W'.heap[g]?=w3.heap[g]?:=λg hg=>by rw[<-hW'];exact Li hg
 have hz4:W'.heap.size=w3.heap.size:=by rw[<-hW'];exact Lu
 have hrow4:∀g,rows W' g=rows w3 g:=by(intro g;by_cases hg:g=l;subst hg;simp[rows,rl3,rl4];simp only[rows,hs4 g hg])
 have hosw:W'.os=w3.os/\W'.tape=w3.tape/\W'.output=w3.output:=by rw[<-hW'];exact⟨rfl,rfl,rfl⟩
 have hos2:w2.os=w1.os/\w2.tape=w1.tape/\w2.output=w1.output:=by rw[<-hw2];exact⟨rfl,rfl,rfl⟩
 suffices key:∃A',LJ g6 prot A' (pre++[x]) W'/\(∀g,A' g->A g\/W.heap.size<=g)/\Kept A W W' by(rw[<-hW']at key;exact key)
 obtain⟨ρ3,p1,p2,pr,I3,_,_⟩:=Z7N S3 kr kr (by show([8020,6]:List Nat).Nodup;decide) (by
  intro b ty s els hm;simp only[Sl,Ln,Lq,or_false,Prod.mk.injEq,reduceCtorEq,and_false,Z4.arr.injEq]at hm;obtain⟨_,_,_,rfl⟩:=hm;exact Z07 _) rl3 rl4 hz4 hs4 (by decide:1<=20)
 have own3:∀b β g,ρ3 b=M β->β.g=M g->A g\/W.heap.size<=g:=by(intro b β g h h';rcases p2 b β g h h' with⟨k,_⟩|⟨c,κ,k1,k2⟩;exact .inr oq;exact(own1 c κ g k1 k2).symm)
 have keep:Kept A W W':=by(refine⟨hosw.1.trans (K3.os.trans (hos2.1.trans K1.os)),hosw.2.1.trans (K3.tape.trans (hos2.2.1.trans K1.tape)),hosw.2.2.trans (K3.output.trans (hos2.2.2.trans K1.output)),by have:=K3.size;omega,λk hk hn=>?_,λk hk=>?_⟩;by_cases hkl:k=l;subst hkl;rw[rl4,rl];rw[hs4 k hkl,K3.block k oq ?_,hs2 k hkl,K1.block k hk hn];rintro⟨b,β,h,h'⟩;rcases own1 b β k h h' with q|q;omega;exact hn q;rw[hrow4,K3.rows k oq,hrow2,K1.rows k hk])
 refine⟨λg=>∃b β,ρ3 b=M β/\β.g=M g,⟨ρ3,λg=>Iff.rfl,I3, ?_,p1,pr,λp hpp=>?_⟩,λg ⟨b,β,h,h'⟩=>own3 b β g h h',keep⟩;obtain⟨β,g,k1,k2,k3⟩:=box6 I3 rfl;rcases p2 6 β g k1 k2 with⟨_,k⟩|⟨c,κ,m1,m2⟩;omega;have hg2:g<w2.heap.size:=I1.bnd _ _ _ m1 m2;have hr2:rows w2 g=1:=by rw[<-k3,hrow4,K3.rows g hg2]
 have hc:=q1 c κ m1;have e:g=g6:=by(simp only[SU,Sl,List.map_cons,Xi,Ln,Lq,or_false]at hc;rcases hc with rfl|rfl|rfl;obtain⟨κ',n1,n2⟩:=I1.blk 160007 _ rfl;rw[m1]at n1;cases n1;rw[Z36 n2 m2]at hr2;simp at hr2;have:=qr _ _ _ m1 m2;rw[arr4 I1 rfl m1,hr2]at this;omega;exact id1 κ g m1 m2 hr2)
 subst e;obtain⟨βg,βs,βn⟩:=β;cases k2;exact⟨βs,βn,k1⟩;obtain⟨h1,h2⟩:=hp p hpp;have hpl:=(Ll.1 h1).1;refine⟨by rw[keep.block p.1 hpl h2];exact h1, ?_⟩;rintro⟨b,β,h,h'⟩;rcases own3 b β p.1 h h' with q|q;exact h2 q;omega
end Go.Proofs.YtgedmeaemofdkaaGreat
namespace Go.Proofs.YtgedmeaemofdkaaGreat
open Go.Sx Go.RowKit
def H7(h:Heap)(i:Int):List Found×Bool:=if(pg h i).K=1\/(pg h i).K=2 then EP h i 256 0 else([],O)
def HI:Found:=⟨0,⟨0,0,0⟩⟩
structure Rnd (l n:Nat) (J:(Nat->Prop)->List Found->World->Prop) (Jx:World->Prop):Prop where
 keep:∀A pre X Y,J A pre X->Kept (λ_=>False) X Y->J A pre Y
 bnd:∀A pre X,J A pre X->∀g,A g->g<X.heap.size
 yes:∀A pre X x,J A pre X->pre.length<=1000->YieldAt Lf n prog l (IV x 0) X λe X'=>e=.returned (.bool O)/\∃A',J A' (pre++[x]) X'/\(∀g,A' g->A g\/X.heap.size<=g)/\Kept A X X'
 no:∀A pre X,J A pre X->pre.length<=1000->YieldAt Lf n prog l (IV HI 19) X λe X'=>e=.returned (.bool Lb)/\Jx X'
section
variable (h:Heap) (i:Int) (l n:Nat) {J:(Nat->Prop)->List Found->World->Prop} {Jx:World->Prop} (R:Rnd l n J Jx)
def InL(J:(Nat->Prop)->List Found->World->Prop)(a:Act)(w:World):Prop:=
 ∃(b:List Found) (A c:Nat->Prop) (f:Nat) (o:Int),(H7 h i).1=b++(EP h i f o).1/\(H7 h i).2=(EP h i f o).2/\(pg h i).U-o<=f/\0<=o/\o<=1000/\b.length+f<=256/\J A b w/\Cw [] (λ_=>Lc) w c (inS h l i o).tmps a/\∀g,c g->g<w.heap.size/\¬ A g
def It(a:Act):Nat:=match (a.tmps.getD 5 undef:Value)with|.int _ o=>((pg h i).U-o).toNat|_=>0
theorem Z6M{w Im a o}(T:Cw [] (λ_=>Lc) w Im (inS h l i o).tmps a):It h i a=((pg h i).U-o).toNat:=by have:a.tmps.getD 5 undef=.int .i64 o:=C0 (E4 T (.tmp 5));rw[It,this]
def DD(Jx:World->Prop)(e:Ending)(a:World):Prop:=(∃v,e=.returned v)/\(((H7 h i).2=O/\∃A,J A (H7 h i).1 a)\/((H7 h i).2=Lb/\Jx a))
def T8(o:Oper):Array Nat:=match o.op with|.call c=>c.argTypes|_ => #[]
theorem found_eq{ρ w Im}{f:Found}{v}(h:Zi ρ w Im f.av v):v=NN f:=by obtain⟨b,c,d,h3,e⟩:=Hr h;rw[c];have g:∀(k:Nat) (a:k<b.size) (v:Value),[u64 f.addr,int f.hd.K,int f.hd.length,u32 f.hd.map][k]?=M (.d (.sc v))->b[k]=v:=λk a v m=>C0 (e k _ b[k] m (L9 a));have j:b.size=4:=d;simp only[NN];congr 1;apply L8;simp[j];intro k a _;rcases k with _|_|_|_|k;exact g 0 a _ rfl;exact g 1 a _ rfl;exact g 2 a _ rfl;exact g 3 a _ rfl;omega
theorem Zdp(hw:Zx h.W)(hp:Z8 h=O)(hu:(pg h i).U<=256)(R:Rnd l n J Jx) a w(hI:InL h i l J a w) :(Zo f234 0).wpIn Lf (n+1) prog (Exit.then (λa' w'=>InL h i l J a' w'/\It h i a'<It h i a) (Lh 0 (bodyPost prog f234 (DD h i (J:=J) Jx)))) a w:=by
 obtain⟨pre,A,Im,f,o,e1,e2,hf,h0,h1,hl,hJ,T,hIm⟩:=hI;have S:Sx.Sys G7 Im w (inS h l i o).st.tmps (inS h l i o).st.H (inS h l i o).st.clk a w:=⟨_,_,Inv.empty (λg hg=>(hIm g hg).1) (by decide:1<=20),T⟩;by_cases hlt:o<(pg h i).U;obtain⟨f,rfl⟩:∃k,f=k+1:=⟨f-1,by omega⟩;unfold EP at e1 e2;rw[if_pos hlt]at e1 e2;have bad:¬ ((address h.C i o).2=0/\(Z9 h (Bb h i o)).2=0)->∀a' w',Sx.Sys G7 Im w (Tg.st ⟨tm 58 [(0,.d (.sc (Gj l)))],[],30⟩).tmps (Tg.st ⟨tm 58 [(0,.d (.sc (Gj l)))],[],30⟩).H 30 a' w' ->
   rest prog (n+1) 10 (Zo f234 0) (Exit.then (λa' w'=>InL h i l J a' w'/\It h i a'<It h i a) (Lh 0 (bodyPost prog f234 (DD h i (J:=J) Jx)))) a' w':=by
  intro hb a' w' S1;rw[if_neg hb]at e1 e2;generalize hQ:Lh 0 (bodyPost prog f234 (DD h i (J:=J) Jx))=Q0;generalize (λa' w'=>InL h i l J a' w'/\It h i a'<It h i a)=nx;have er:rest prog (n+1) 10 (Zo f234 0) (Exit.then nx Q0) a' w' =
    (LD 10 (BL f234 10) Lb).wpIn Lf (n+1) prog (Exit.then (Xb.wpIn Lf (n+1) prog (Lh 1 (Exit.then nx Q0))) (Lh 1 (Exit.then nx Q0))) a' w':=by kernel_rfl
  rw[er];refine wpIn_region ?_;rw[show Lp (BL f234 10).size=[0,1]++[2]from by kernel_rfl];refine AT (ro:=Lc) (hints:=[]) (out:=⟨tm 58 [(0,.d (.sc (Gj l))),(55,.d (.sc (Gj l))),(56,HI.av)],BW [],[],[]⟩) kr S1 trivial (λp hp=>by simp at hp) ?_;intro a2 w2 S2;obtain⟨o',ho,⟨ts,hop⟩,hd,hg⟩:∃o':Oper,(BL f234 10)[2]?=M o'/\(∃ts,o'.op=.call ⟨.value (.tmp 55),#[.tmp 56,.const (.int .i64 19)],ts⟩)/\o'.dst=M 57/\o'.guard=Lc:=⟨(BL f234 10).getD 2 La,by kernel_rfl,⟨T8 ((BL f234 10).getD 2 La),by kernel_rfl⟩,by kernel_rfl,by kernel_rfl⟩
  have hwd:LM o' (yielded (BL f234 10) a2.tmps)=O:=by grind[LM]
  simp only[wpOpsIn,ho,hwd,if_true];obtain⟨ρ2,Im2,I2,T2⟩:=S2;have v1:a2.eval (.tmp 55)=.func (.yield l) #[] #[]:=C0 (E4 T2 (.tmp 55));have v2:a2.eval (.tmp 56)=NN HI:=found_eq (E4 T2 (.tmp 56):Zi ρ2 w2 Im2 HI.av _);have J2:J A pre w2:=R.keep _ _ _ _ hJ I2.kept.no;refine Z8j hop v1 (show #[a2.eval (.tmp 56),a2.eval (.const (.int .i64 19))]=IV HI 19 by rw[v2];rfl) (R.no A pre w2 J2 oq) ?_;rintro e w3 ⟨rfl,hx⟩;refine⟨_,rfl,wpIn_ret ?_⟩;show Q0 .ret _ _;rw[<-hQ];exact bodyPost_ret (results_none rfl _ _ _) (by rw[hd];exact T2.defers) ⟨⟨_,rfl⟩,.inr ⟨e2,hx⟩⟩
 by_cases ha:(address h.C i o).2=0;by_cases hh:(Z9 h (Bb h i o)).2=0;rw[if_pos ⟨ha,hh⟩]at e1 e2;have sz:=Ic (Z9 h (Bb h i o)).1;have sp:=Z1h hh;obtain⟨o2,ho2⟩:∃o2,o+Z5 (Z9 h (Bb h i o)).1=o2:=⟨_,rfl⟩;refine Zk8 h l i o hw hp ⟨h0,h1⟩ hlt ha hh _ _ _ _ _ _ _ S ?_;intro a1 w1 S1;rw[ho2]at S1 e1 e2;generalize hQ:Lh 0 (bodyPost prog f234 (DD h i (J:=J) Jx))=Q0;have hmu:=Z6M h i l T;generalize hnx:(λa' w'=>InL h i l J a' w'/\It h i a'<It h i a)=nx;obtain⟨yc,hyc⟩:∃yc:Code,∀a' w',rest prog (n+1) 9 (Zo f234 0) (Exit.then nx Q0) a' w' =
  (LD 9 (BL f234 9) Lb).wpIn Lf (n+1) prog (Exit.then ((Code.cond (.tmp 54) .ret .skip).wpIn Lf (n+1) prog (Exit.then ((Xa 1).wpIn Lf (n+1) prog (Exit.then (yc.wpIn Lf (n+1) prog (Lh 1 (Exit.then nx Q0))) (Lh 1 (Exit.then nx Q0)))) (Exit.then (yc.wpIn Lf (n+1) prog (Lh 1 (Exit.then nx Q0))) (Lh 1 (Exit.then nx Q0)))))
   (Exit.then ((Xa 1).wpIn Lf (n+1) prog (Exit.then (yc.wpIn Lf (n+1) prog (Lh 1 (Exit.then nx Q0))) (Lh 1 (Exit.then nx Q0)))) (Exit.then (yc.wpIn Lf (n+1) prog (Lh 1 (Exit.then nx Q0))) (Lh 1 (Exit.then nx Q0))))) a' w':=⟨.seq (.region 10 (BL f234 10) Lb) .ret,λa' w'=>by kernel_rfl⟩
 rw[hyc];refine wpIn_region ?_;rw[show Lp (BL f234 9).size=[0,1,2,3]++([4]++[5])from by kernel_rfl];refine AT (ro:=Lc) (hints:=[]) (out:=⟨tm 58 [(0,.d (.sc (Gj l))),(1,.rp h.dvs 0),(2,.rp [Zn i] 0),(4,.rp (pg h i).dv 0),(5,int o2),(6,u64 (Bb h i o)),(8,.pt 184008 0 0),(49,.d (.sc (Gj l))),(50,u64 (Bb h i o)),(51,(Z9 h (Bb h i o)).1.av),(52,(Found.mk (Bb h i o) (Z9 h (Bb h i o)).1).av)],BW [(184008,.box 52 [int (Z9 h (Bb h i o)).1.K,int (Z9 h (Bb h i o)).1.length,u32 (Z9 h (Bb h i o)).1.map])],[],[]⟩) kr S1 trivial (λp hp=>by simp at hp) ?_;intro a2 w2 S2;obtain⟨o',ho,⟨ts,hop⟩,hd,hg⟩:∃o':Oper,(BL f234 9)[4]?=M o'/\(∃ts,o'.op=.call ⟨.value (.tmp 49),#[.tmp 52,.const (.int .i64 0)],ts⟩)/\o'.dst=M 53/\o'.guard=Lc:=⟨(BL f234 9).getD 4 La,by kernel_rfl,⟨T8 ((BL f234 9).getD 4 La),by kernel_rfl⟩,by kernel_rfl,by kernel_rfl⟩;have hwd:LM o' (yielded (BL f234 9) a2.tmps)=O:=by grind[LM]
 rw[show([4]++[5]:List Nat)=4::[5]from rfl,wpOpsIn];simp only[ho];rw[if_pos hwd];have v1:a2.eval (.tmp 49)=.func (.yield l) #[] #[]:=by obtain⟨ρ2,Im2,I2,T2⟩:=S2;exact C0 (E4 T2 (.tmp 49))
 have v2:a2.eval (.tmp 52)=NN ⟨Bb h i o,(Z9 h (Bb h i o)).1⟩:=by(obtain⟨ρ2,Im2,I2,T2⟩:=S2;exact found_eq (E4 T2 (.tmp 52):Zi ρ2 w2 Im2 (Found.mk (Bb h i o) (Z9 h (Bb h i o)).1).av _))
 have S3:=Z0v (s:=⟨tm 58 [(0,.d (.sc (Gj l))),(1,.rp h.dvs 0),(2,.rp [Zn i] 0),(4,.rp (pg h i).dv 0),(5,int o2),(6,u64 (Bb h i o)),(8,.pt 184008 0 0),(49,.d (.sc (Gj l))),(50,u64 (Bb h i o)),(51,(Z9 h (Bb h i o)).1.av),(52,(Found.mk (Bb h i o) (Z9 h (Bb h i o)).1).av)],BW [(184008,.box 52 [int (Z9 h (Bb h i o)).1.K,int (Z9 h (Bb h i o)).1.length,u32 (Z9 h (Bb h i o)).1.map])],30⟩) (t:=inS h l i o2) kr kr S2;clear S2 S1;obtain⟨ρ2,Im2,I2,T2⟩:=S3;have J2:J A pre w2:=R.keep _ _ _ _ hJ I2.kept.no;refine Z8j hop v1 (show #[a2.eval (.tmp 52),a2.eval (.const (.int .i64 0))]=IV ⟨Bb h i o,(Z9 h (Bb h i o)).1⟩ 0 by rw[v2];rfl) (R.yes A pre w2 _ J2 oq) ?_;rintro e w3 ⟨rfl,A',J3,hA',K3⟩;have hIm2:∀g,Im2 g->¬ A g:=by(intro g hg hA;rcases I2.im0 g hg with k|k|k;grind;have:=R.bnd _ _ _ hJ g hA;omega;exact k.no)
 refine⟨_,rfl, ?_⟩;have T3:Cw [] (λ_=>Lc) w3 Im2 (inS h l i o2).tmps a2:=(T2.pure kr).mono ⟨K3.size,λg hg=>K3.block g (I2.imb g hg) (hIm2 g hg),K3.rows⟩ (λ_ h=>h) (λ_ _ h=>h) (λ_ _ _ h=>nomatch h);have S4:Sx.Sys G7 Im2 w3 ((inS h l i o2).tmps.set 53 (Sx.bool O)) (BW []) 20 (a2.put o'.dst (.bool O)) w3:=by(rw[hd];exact⟨_,Im2,Inv.empty (λg hg=>LV (I2.imb g hg) K3.size) dd,T3.put 53 (Zi.d (CK.sc (.bool O) rfl))⟩)
 refine MC (ro:=Lc) (hints:=[]) (out:=⟨((inS h l i o2).tmps.set 53 (Sx.bool O)).set 54 (Sx.bool (!true)),BW [],[],[]⟩) kr S4 trivial (λp hp=>by simp at hp) ?_;intro a5 w5 S5;have v5:a5.eval (.tmp 54)=.bool Lb:=by obtain⟨_,_,_,T5⟩:=S5;exact C0 (E4 T5 (.tmp 54))
 have S6:=Z0v (s:=⟨((inS h l i o2).tmps.set 53 (Sx.bool O)).set 54 (Sx.bool (!true)),BW [],20⟩) (t:=inS h l i o2) kr kr S5;obtain⟨ρ6,Im6,I6,T6⟩:=S6;refine wpIn_cond_false v5 (wpIn_skip ?_);refine wpIn_exit ?_;show(if 1=1 then(Exit.then nx Q0) .normal a5 w5 else Exit.then nx Q0 (.exit 1) a5 w5);rw[if_pos rfl,<-hnx];have T7:=T6.pure kr;refine⟨⟨pre++[⟨Bb h i o,(Z9 h (Bb h i o)).1⟩],A',Im6,f,o2, ?_,e2,by omega,by omega,by omega,by simp;omega,R.keep _ _ _ _ J3 I6.kept.no,T7,λg hg=>⟨I6.imb g hg,λhA=>?_⟩⟩, ?_⟩;rw[e1];simp;have hb:=R.bnd _ _ _ J3 g hA;rcases I6.im0 g hg with k|k|k;have:=I2.imb g k;grind;omega;exact k.no;show It h i a5<It h i a;rw[Z6M h i l T7,hmu];omega;exact ZfU h l i o hw hp ⟨h0,h1⟩ hlt ha hh _ _ _ _ _ _ _ S (bad (λq=>hh q.2));exact ZbM h l i o hw hp ⟨h0,h1⟩ hlt ha _ _ _ _ _ _ _ S (bad (λq=>ha q.1));refine wpIn_mono (wpIn_wide.2 (Zfc h l i o oq _ _ _ _ _ S)) ?_;rintro e a' w' ⟨rfl,S1⟩;have hz:EP h i f o=([],O):=by
  cases f with|zero=>rfl|succ f=>grind[EP]
 rw[hz]at e1 e2;obtain⟨ρ,Im1,I1,T1⟩:=S1;show bodyPost _ _ _ .normal _ _;refine bodyPost_end (results_none rfl _ _ _) T1.defers ⟨⟨_,rfl⟩,.inl ⟨e2,A, ?_⟩⟩;rw[e1,L0];exact R.keep _ _ _ _ hJ I1.kept.no
theorem ZcX(hw:Zx h.W)(t:Z8 h=O)(hi:0<=i/\i<h.P.length)(R:Rnd l n J Jx){r Im:Nat->Prop}{W:World}{o q}(a0:∀g,Im g->g<W.heap.size/\¬ r g)(h1:Zi (λ_=>Lc) W Im (.rp h.dvs 0) o)(h2:Zi (λ_=>Lc) W Im (.rp [Zn i] 0) q)(s:J r [] W):CallsIn Lf (n+1) prog 234 #[Gj l,o,q] W (DD h i (J:=J) Jx):=by
 have hu:(pg h i).U<=256:=(Ea t (j:=i.toNat) oq).2.2.2.2.2.2.2.1;refine callsIn_of_wp func234 (c:=Hj f234) kr trivial ?_ rfl;have S:Sx.Sys G7 Im W (inE h l i).st.tmps (inE h l i).st.H (inE h l i).st.clk {tmps:=#[Gj l,o,q]++LC (Tryz.f234.ntmps-(#[Gj l,o,q]:Array Value).size) undef,defers:=[]} W:=by
  refine⟨_,Im,Inv.empty (λg b=>(a0 g b).1) (Lr 1),⟨by kernel_rfl,λk y v u m=>?_,rfl⟩⟩;rw[show(inE h l i).st.tmps=[.d (.sc (Gj l)),.rp h.dvs 0,.rp [Zn i] 0]++Lg 55 .any from by kernel_rfl,LI]at u;rw[LB]at m;split at u
  .rename_i f;have a3:k<3:=f;rw[if_pos (show k<(#[Gj l,o,q]:Array Value).size from a3)]at m;rcases k with _|_|_|k;cases u;cases m;exact .d (.sc _ rfl);all_goals grind
  have:=Lo u;rw[(Ls.1 this).2];exact .any _
 by_cases f:(pg h i).K=1\/(pg h i).K=2;refine Zan h l i hi f _ _ _ _ _ _ _ S ?_;intro a1 w1 z;generalize hQ:bodyPost prog f234 (DD h i (J:=J) Jx)=Q;have er:rest prog (n+1) 2 (Hj f234) Q a1 w1=(LD 2 (BL f234 2) Lb).wpIn Lf (n+1) prog (Exit.then ((Zk f234 0).wpIn Lf (n+1) prog Q) Q) a1 w1:=by kernel_rfl
 rw[er];refine wpIn_region ?_;rw[show Lp (BL f234 2).size=[0]from by kernel_rfl];refine MC (ro:=Lc) (hints:=[]) (out:=⟨tm 58 [(0,.d (.sc (Gj l))),(1,.rp h.dvs 0),(2,.rp [Zn i] 0),(4,.pt 8004 0 0),(5,int 0)],BW [(8004,.box 86 ((pg h i).dv.map .d))],[],[]⟩) kr z trivial (λp t=>by simp at t) ?_;intro a2 w2 S2;show(Zk f234 0).wpIn Lf (n+1) prog Q a2 w2;rw[Oz kr,<-hQ];refine wpIn_block (wpIn_loop (InL h i l J) (λa _=>It h i a) ?_ (λa w hI=>Zdp h i l n hw t hu R a w hI));obtain⟨ρ2,x,d,T2⟩:=S2;obtain⟨β,m1,m2⟩:=d.blk 8004 _ rfl;have J2:=R.keep _ _ _ _ s d.kept.no;have a5:live (BW [(8004,Z4.box 86 ((pg h i).dv.map .d))]) 8004:=⟨_,rfl,by simp⟩;have T3:Cw [] ρ2 w2 (λg=>x g\/β.g=M g) _ a2:=T2.mono (Ext.refl _ _) (λ_ h=>.inl h) (λ_ _ h=>h) d.bnd;have T4:=(T3.reSet 4 .any (λv _=>.any v)).pure kr;have T5:=T4.reSet 4 (.rp (pg h i).dv 0) (λv m=>by
  have:=T2.tmp 4 _ v rfl m;exact Tw m1 m2 this (λ_ h=>.inl h) (λ_ h=>.inr h))
 refine⟨[],r,_,256,0,by grind[H7],by grind[H7],by omega,by omega,by omega,by simp,J2,T5,λg b=>?_⟩;rcases b with b|b;refine⟨d.imb g b,λhA=>?_⟩;rcases d.im0 g b with k|k|k;grind;have:=R.bnd _ _ _ s g hA;omega;exact k.no;refine⟨d.bnd _ _ _ m1 b,λhA=>?_⟩;rcases d.own _ _ _ m1 b with⟨k,_⟩|k;have:=R.bnd _ _ _ s g hA;omega;exact k.no;refine wpIn_mono (wpIn_wide.2 (ZeM h l i hi f _ _ _ _ _ S)) ?_;rintro e a' w' ⟨rfl,z⟩;obtain⟨ρ,a4,I1,T1⟩:=z;refine bodyPost_ret (results_none rfl _ _ _) T1.defers ⟨⟨_,rfl⟩,.inl ⟨by grind[H7],r, ?_⟩⟩;rw[H7,if_neg f];exact R.keep _ _ _ _ s I1.kept.no
end
end Go.Proofs.YtgedmeaemofdkaaGreat
namespace Go.Proofs.YtgedmeaemofdkaaGreat
open Go.Sx
def Zad(h:Heap) i:CP (Hj f214) (Tg.st ⟨tm 6 [(0,h.av),(1,int i)],[],1⟩) .ret (Tg.st ⟨tm 6 [(4,.fn 234 [.pt 8002 0 0,.pt 8003 0 0])],[(8003,.box 3 [int i]),(8002,.box 28 h.cells)],30⟩):=by exact sF [] [] Fz
def Zgv(h:Heap) i:Sa prog 1 (Hj f183) (Tg.st ⟨tm 22 [(0,h.av),(1,int i)],[],1⟩) (Tg.st ⟨tm 22 [(1,int i),(2,.pt 8002 0 0),(4,.pt 8004 0 0),(5,.pt 8005 0 0)],[(8005,.box 32 [int 0]),(8004,.box 206 [.d (.sl 0 [])]),(8002,.box 28 h.cells)],20⟩):=by refine Ar [] [] [] (φ:=True) ?_ kr kr kr kr;exact trivial
def ptr(g:Nat):AV:=.d (.sc (.pointer (M ⟨g,0,Lc⟩)))
def Zb0 g4 g5:CIn prog (Hf f183 0) (Tg.st ⟨tm 22 [(4,ptr g4),(5,ptr g5),(12,HI.av),(13,int 19)],[],20⟩) .nrm (Tg.st ⟨tm 22 [(4,ptr g4),(5,ptr g5),(8,int 19)],[],30⟩):=by refine Z2d [] [] [] (φ:=True) ?_ kr kr kr kr;exact trivial
end Go.Proofs.YtgedmeaemofdkaaGreat
namespace Go.Proofs.YtgedmeaemofdkaaGreat
open Go.Sx Go.RowKit
section
variable {P:Program} {o:Oper} {a:Act} {w:World}
theorem Z2J{t g ty:Nat}{v:Value}(e:w.heap[g]?=M (.cells #[v] ty (0,0)))(c:v.oneCell'=O)(d:RA P t=M Lb):(loadVar t ⟨g,0,Lc⟩).run P w=.ok v w:=by
 obtain⟨v',h1,h2⟩:=Z5N (P:=P) (w:=w) (t:=t) (g:=g) (off:=0) (l:=[.d (.sc v)]) (o:=0) (x:=.d (.sc v)) (ρ:=λ_=>Lc) (Im:=λ_=>False) (λj a b=>by
  cases j with
  |zero=>cases b;exact⟨v,by simp[Xr,e],c,.d (.sc _ c)⟩
  |succ j=>simp at b) (by simp[NS,d])
 grind[C0]
theorem ZfY{t g ty:Nat}{x:Operand}{v:Value}(b:o.op=.load t x)(f:a.eval x=.pointer (M ⟨g,0,Lc⟩))(e:w.heap[g]?=M (.cells #[v] ty (0,0)))(d:v.oneCell'=O)(c:RA P t=M Lb):(execOp a.eval o).run P w=.ok (.value v) w:=by simp[execOp,b,Instr.loadAt,Instr.sureAddr,f,Z2J e d c]
theorem Z02{t g ty:Nat}{x y:Operand}{u v:Value}(c:o.op=.store t x y)(f:a.eval x=.pointer (M ⟨g,0,Lc⟩))(j:a.eval y=v)(e:w.heap[g]?=M (.cells #[u] ty (0,0)))(d:v.oneCell'=O)(hs:BE P t=1):(execOp a.eval o).run P w=.ok .skip (w.setRow g #[v]):=by have b:=Z8z d;have:=Z78 (P:=P) (t:=t) (off:=0) (v:=v) e (by grind) (Z2m oq) (by rw[b];simp) (λi u h=>by grind);rw[b]at this;simp at this;simp[execOp,c,Instr.storeAt,Instr.sureAddr,f,j,this]
theorem Zco{t:Nat}{z:Value}(d:o.op=.alloc t)(b:zeroOf P t=M z):(execOp a.eval o).run P w=.ok (.value (.pointer (M ⟨w.heap.size,0,Lc⟩))) (w.alloc (.cells z.cells t)):=by unfold zeroOf at b;split at b;rename_i i c;simp[execOp,d,Instr.alloc,zeroValue,typeInfo,c,b,newVar,newRow];cases b
theorem Sn{v:Value}{w':World}{next:Act->World->Prop}{Q}(h:(execOp a.eval o).run P w=.ok (.value v) w')(k:next (a.put o.dst v) w'):o.wp P a w next Q:=by unfold Lz;rw[h];exact k
theorem PW{w':World}{next:Act->World->Prop}{Q}(h:(execOp a.eval o).run P w=.ok .skip w')(k:next (a.put o.dst undef) w'):o.wp P a w next Q:=by unfold Lz;rw[h];exact k
theorem IQ{F}{n i:Nat}{l}{ops:Array Oper}{Q}(ho:ops[i]?=M o)(hg:o.guard=Lc)(h:o.wpIn F n P a w (wpOpsIn F n P ops Q l) Q):wpOpsIn F n P ops Q (i::l) a w:=by grind[wpOpsIn,LM]
theorem Oh{g ty:Nat}{cs cs':Array Value}(b:w.heap[g]?=M (.cells cs ty (0,0))):(w.setRow g cs').heap[g]?=M (.cells cs' ty (0,0)):=setRow_heap w g cs cs' ty _ b
end
def Ry{A X Y Z}(h:Kept (λ_=>False) X Y)(k:Kept A Y Z)(hA:∀g,A g->X.heap.size<=g):Kept (λ_=>False) X Z:=
 ⟨k.os.trans h.os,k.tape.trans h.tape,k.output.trans h.output,Xn h.size k.size,λg a _=>by
  rw[k.block g (LV a h.size) (λq=>by grind)];exact h.block g a (λq=>q),λg a=>by rw[k.rows g (LV a h.size)];exact h.rows g a⟩
def Z9y(h:Heap) i(w:World)(Im:Nat->Prop) b f(j:∀g,Im g->g<w.heap.size)(h1:Zi (λ_=>Lc) w Im h.av b)(h2:Zi (λ_=>Lc) w Im (int i) f) :Calls prog 214 #[b,f] w λe w'=>∃p1 p2,∃Im':Nat->Prop,e=.returned (.func (.func 234) #[] #[p1,p2])/\Kept (λ_=>False) w w'/\(∀g,Im' g->(Im g\/w.heap.size<=g)/\g<w'.heap.size) /\
   Zi (λ_=>Lc) w' Im' (.rp h.dvs 0) p1/\Zi (λ_=>Lc) w' Im' (.rp [Zn i] 0) p2:=by
 refine calls_of_wp func214 (c:=Hj f214) kr ?_;have S:Sx.Sys G7 Im w (tm 6 [(0,h.av),(1,int i)]) (BW []) 1 {tmps:=#[b,f]++LC (Tryz.f214.ntmps-(#[b,f]:Array Value).size) undef,defers:=[]} w:=by(refine⟨_,Im,Inv.empty j (Lr 1),⟨by kernel_rfl,λk y v l b=>?_,rfl⟩⟩;rw[show tm 6 [(0,h.av),(1,int i)]=[h.av,int i]++Lg 4 .any from by kernel_rfl,LI]at l;rw[LB]at b;split at l;grind;have:=Lo l;rw[(Ls.1 this).2];exact .any _)
 refine wp_mono (Zad h i _ _ _ _ _ S) ?_;rintro e o w' ⟨rfl,ρ,Im',I,T⟩;refine bodyPost_ret (results_tmp rfl _ _ _) T.defers ?_;have p:Zi ρ w' Im' (.fn 234 [.pt 8002 0 0,.pt 8003 0 0]) (o.tmps.getD 4 undef):=E4 T (.tmp 4);generalize o.tmps.getD 4 undef=fv at p;cases p with
 |fn r q =>
  rename_i d;have s:d.size=2:=r;obtain⟨p1,p2,rfl⟩:∃p1 p2,d=#[p1,p2]:=⟨d[0],d[1],by
   grind⟩
  obtain⟨β2,m,t⟩:=I.blk 8002 _ rfl;obtain⟨β3,n,u⟩:=I.blk 8003 _ rfl;refine⟨p1,p2,λg=>Im' g\/β2.g=M g\/β3.g=M g,rfl,I.kept.no,λg a=>?_,Tw m t (q 0 _ p1 rfl rfl) (λ_ h=>.inl h) (λ_ h=>.inr (.inl h)),Tw n u (q 1 _ p2 rfl rfl) (λ_ h=>.inl h) (λ_ h=>.inr (.inr h))⟩;rcases a with a|a|a;exact⟨(I.im0 g a).imp id (λh=>h.elim id (λh=>h.no.elim)),I.imb g a⟩;exact⟨.inr ((I.own _ _ g m a).elim (·.1) (λh=>h.no.elim)),I.bnd _ _ g m a⟩;exact⟨.inr ((I.own _ _ g n a).elim (·.1) (λh=>h.no.elim)),I.bnd _ _ g n a⟩
def rgB(fn:Func)(k:Nat):Array Oper:=match S9 k (H5 fn 0)with|some o=>o|none => #[]
def ZhZ{tmps:Array Value}{W:World}{g4 g5:Nat}{v4 v5:Value}(b:tmps.getD 4 undef=.pointer (M ⟨g4,0,Lc⟩))(c:tmps.getD 5 undef=.pointer (M ⟨g5,0,Lc⟩))(c4:W.heap[g4]?=M (.cells #[v4] 206 (0,0)))(a:W.heap[g5]?=M (.cells #[v5] 32 (0,0)))(f:v4.oneCell'=O)(g:v5.oneCell'=O):(results f183 tmps).run prog W=.ok (.tuple #[v4,v5]) W:=by rw[Z6K,show Tryz.f183.results=#[.cell 4 206,.cell 5 32]from rfl];have d:=Z2J (P:=prog) (t:=206) c4 f kr;have e:=Z2J (P:=prog) (t:=32) a g kr;simp[Dr,b,c,asAddr,d,e,List.mapM_toArray]
def Z71{tmps:Array Value}{W:World}{g4 g5 D:Nat}{v4 v5:Value}{R:Ending->World->Prop}(h4:tmps.getD 4 undef=.pointer (M ⟨g4,0,Lc⟩))(h5:tmps.getD 5 undef=.pointer (M ⟨g5,0,Lc⟩))(c4:W.heap[g4]?=M (.cells #[v4] 206 (0,0)))(c5:W.heap[g5]?=M (.cells #[v5] 32 (0,0)))(o4:v4.oneCell'=O)(o5:v5.oneCell'=O)(hD:W.heap[D]?=M (.deferred (M [])))(hR:R (.returned (.tuple #[v4,v5])) (W.putObj D (.deferred Lc))) :bodyPostM Lf 10 prog f183 R .ret {tmps:=tmps,defers:=[{target:=.collected D,args:=#[]}]} W:=by
 refine⟨by simp,.inl ⟨_,_,rfl,run_takeDeferred hD, ?_⟩⟩;have n4:g4≠D:=by grind
 have n5:g5≠D:=by grind
 exact⟨_,ZhZ h4 h5 ((Li n4).trans c4) ((Li n5).trans c5) o4 o5,hR⟩
def Zj7{fn:Nat}{a0:Array Value}{D l n g4 g5:Nat}{u4 u5:Value}{W:World}(ha0:a0.size=22)(ha4:a0[4]?=M (.pointer (M ⟨g4,0,Lc⟩)))(ha5:a0[5]?=M (.pointer (M ⟨g5,0,Lc⟩)))(rl:W.heap[l]?=M (Lm {state:=.ready,pending:=Lc,fn:=fn,tmps:=a0,params:=#[12,13],assign:=Hf f183 0,body:=H5 f183 0,defers:=D}))(rD:W.heap[D]?=M (.deferred (M [])))(c4:W.heap[g4]?=M (.cells #[u4] 206 (0,0)))(c5:W.heap[g5]?=M (.cells #[u5] 32 (0,0)))(h45:g4≠g5) :
  YieldAt Lf n prog l (IV HI 19) W λe W'=>e=.returned (.bool Lb)/\W'.heap[l]?=M (Lm {state:=.done,pending:=M .ret,fn:=fn,tmps:=a0,params:=#[12,13],assign:=Hf f183 0,body:=H5 f183 0,defers:=D}) /\
   W'.heap[D]?=M (.deferred (M []))/\W'.heap[g4]?=M (.cells #[.slice Lc 0 0] 206 (0,0))/\W'.heap[g5]?=M (.cells #[.int .i64 19] 32 (0,0))/\Kept (λg=>g=l\/g=g4\/g=g5) W W':=by
 refine⟨fn,_,_,_,run_yield rl rfl,roundIn_of_wpIn trivial ?_⟩;have ef:((#[12,13]:Array Nat).zip (IV HI 19)).foldl (λtmps (t,a)=>tmps.setIfInBounds t a) a0=(a0.setIfInBounds 12 (NN HI)).setIfInBounds 13 (.int .i64 19):=by simp[IV]
 show(Hf f183 0).wpIn _ n _ _ {tmps:=((#[12,13]:Array Nat).zip (IV HI 19)).foldl (λtmps (t,a)=>tmps.setIfInBounds t a) a0,defers:=[]} W;rw[ef];have TA:Cw [] (λ_=>Lc) W (λ_=>False) (Lg 22 .any) {tmps:=a0,defers:=[]}:=by(refine⟨by rw[ha0];rfl,λi y v h1 h2=>?_,rfl⟩;have:=Lo h1;rw[(Ls.1 this).2];exact .any _)
 have T1:=(((TA.reSet 4 (ptr g4) (λv hv=>by rw[ha4]at hv;cases hv;exact .d (.sc _ rfl))).reSet 5 (ptr g5) (λv hv=>by rw[ha5]at hv;cases hv;exact .d (.sc _ rfl))).put 12 (Z7i _ W _ HI)).put 13 (Zi.d (CK.sc (LA .i64 19) rfl));have S1:Sx.Sys G7 (λ_=>False) W (Tg.st ⟨tm 22 [(4,ptr g4),(5,ptr g5),(12,HI.av),(13,int 19)],[],20⟩).tmps (Tg.st ⟨tm 22 [(4,ptr g4),(5,ptr g5),(12,HI.av),(13,int 19)],[],20⟩).H 20 {tmps:=(a0.setIfInBounds 12 (NN HI)).setIfInBounds 13 (.int .i64 19),defers:=[]} W:=
  ⟨_,_,Inv.empty (λ_ h=>h.elim) dd,T1⟩
 refine wpIn_mono (Zb0 g4 g5 (M l) n _ _ _ _ _ S1) ?_;rintro e a1 w1 ⟨rfl,ρ1,Im1,I1,T1⟩;have K1:=I1.kept.no;have same1:∀{g:Nat} {o:Obj},W.heap[g]?=M o->w1.heap[g]?=M o:=λ{g o} h=>by(rw[K1.block g (Ll.1 h).1 (λq=>q)];exact h)
 refine⟨_,run_beginRound (same1 rl) rfl, ?_⟩;obtain⟨w2,hw2⟩:∃w2,w1.putObj l (Lm {state:=.busy,pending:=Lc,fn:=fn,tmps:=a0,params:=#[12,13],assign:=Hf f183 0,body:=H5 f183 0,defers:=D})=w2:=⟨_,rfl⟩;have rl2:w2.heap[l]?=M (Lm {state:=.busy,pending:=Lc,fn:=fn,tmps:=a0,params:=#[12,13],assign:=Hf f183 0,body:=H5 f183 0,defers:=D}):=by grind[Lt]
 have hs2:∀g,g≠l->w2.heap[g]?=w1.heap[g]?:=λg hg=>by grind[Li]
 have hz2:w2.heap.size=w1.heap.size:=by grind[Lu]
 have hos2:w2.os=w1.os/\w2.tape=w1.tape/\w2.output=w1.output:=by rw[<-hw2];exact⟨rfl,rfl,rfl⟩
 have n4:g4≠l:=by grind
 have n5:g5≠l:=by grind
 have nD:D≠l:=by grind
 have T2:Cw [] (λ_=>Lc) w2 (λ_=>False) (tm 22 [(4,ptr g4),(5,ptr g5),(8,int 19)]) a1:=by
  refine⟨T1.size,λi x v h1 h2=>?_,T1.defers⟩;have:=T1.tmp i x v h1 h2;have hx:x=.any\/∃u,x=.d (.sc u):=by
   have hm:=Lo h1;have:∀y∈tm 22 [(4,ptr g4),(5,ptr g5),(8,int 19)],y=.any\/∃u,y=.d (.sc u):=by(rw[show tm 22 [(4,ptr g4),(5,ptr g5),(8,int 19)]=Lg 4 .any++[ptr g4,ptr g5,.any,.any,int 19]++Lg 13 .any from by kernel_rfl];intro y hy;simp only[Xj,Ls,Ln,Lq,or_false]at hy;rcases hy with(⟨_,rfl⟩|rfl|rfl|rfl|rfl|rfl)|⟨_,rfl⟩<;>first|exact .inl rfl|exact .inr ⟨_,rfl⟩)
   exact this x hm
  rcases hx with rfl|⟨u,rfl⟩;exact .any _;rw[C0 this];have h1:(Value.oneCell' u)=O:=by(cases this with|d h=>cases h with|sc _ h=>exact h)
  exact .d (.sc _ h1)
 have S2:Sx.Sys G7 (λ_=>False) w2 (tm 22 [(4,ptr g4),(5,ptr g5),(8,int 19)]) (BW []) 20 a1 w2:=⟨_,_,Inv.empty (λ_ h=>h.elim) dd,T2⟩;show(H5 f183 0).wpIn (fen (M l)) n prog _ a1 _;rw[hw2];generalize hQ:roundPost prog l _=Q;obtain⟨yc,hyc⟩:∃yc:Code,H5 f183 0=.block 1 (.seq (.seq (.region 5 (rgB f183 5) Lb) (.cond (.tmp 15) (.seq (.region 6 (rgB f183 6) Lb) .ret) .skip)) yc):=⟨.region 7 (rgB f183 7) Lb,by kernel_rfl⟩;rw[hyc];refine wpIn_block (wpIn_seq (wpIn_seq (wpIn_region ?_)));rw[show Lp (rgB f183 5).size=[0,1]from by kernel_rfl];refine MC (ro:=M l) (hints:=[]) (out:=⟨tm 22 [(4,ptr g4),(5,ptr g5),(8,int 19),(14,int 19),(15,Sx.bool ((19:Int) != 0))],BW [],[],[]⟩) kr S2 trivial (λp hp=>by simp at hp) ?_;intro a3 w3 S3;have v15:a3.eval (.tmp 15)=.bool O:=by obtain⟨_,_,_,T⟩:=S3;exact C0 (E4 T (.tmp 15))
 refine wpIn_cond_true v15 (wpIn_seq (wpIn_region ?_));rw[show Lp (rgB f183 6).size=[0]++[1,2]from by kernel_rfl];refine AT (ro:=M l) (hints:=[]) (out:=⟨tm 22 [(4,ptr g4),(5,ptr g5),(8,int 19),(14,int 19),(15,Sx.bool ((19:Int) != 0)),(16,int 19)],BW [],[],[]⟩) kr S3 trivial (λp hp=>by simp at hp) ?_;rintro a4 w4 ⟨ρ4,Im4,I4,T4⟩;have K4:=I4.kept.no;have same4:∀{g:Nat} {o:Obj},w2.heap[g]?=M o->w4.heap[g]?=M o:=λ{g o} h=>by(rw[K4.block g (Ll.1 h).1 (λq=>q)];exact h)
 have v4:a4.eval (.tmp 4)=.pointer (M ⟨g4,0,Lc⟩):=C0 (E4 T4 (.tmp 4));have v5:a4.eval (.tmp 5)=.pointer (M ⟨g5,0,Lc⟩):=C0 (E4 T4 (.tmp 5));have v16:a4.eval (.tmp 16)=.int .i64 19:=C0 (E4 T4 (.tmp 16));have d4:w4.heap[g4]?=M (.cells #[u4] 206 (0,0)):=same4 (by grind);have d5:w4.heap[g5]?=M (.cells #[u5] 32 (0,0)):=same4 (by grind);have e4:=Oh (cs':=#[.slice Lc 0 0]) d4;have f5:(w4.setRow g4 #[.slice Lc 0 0]).heap[g5]?=M (.cells #[u5] 32 (0,0)):=by grind[setRow_other]
 refine IQ (o:=(rgB f183 6).getD 1 La) kr kr (Iv (by intro c h;cases h) (PW (Z02 (t:=206) (x:=.tmp 4) (y:=.const (.slice Lc 0 0)) (v:=.slice Lc 0 0) kr v4 rfl d4 rfl kr) ?_));refine IQ (o:=(rgB f183 6).getD 2 La) kr kr (Iv (by intro c h;cases h) (PW (Z02 (t:=32) (x:=.tmp 5) (y:=.tmp 16) (v:=.int .i64 19) kr v5 v16 f5 rfl kr) ?_));generalize hw5:(w4.setRow g4 #[.slice Lc 0 0]).setRow g5 #[.int .i64 19]=w5;have sm:∀{g:Nat},g≠g4->g≠g5->w5.heap[g]?=w4.heap[g]?:=λ{g} h k=>by(grind[setRow_other])
 have rw5:∀g,rows w5 g=rows w4 g:=λg=>by grind[Am]
 have z5:w5.heap.size=w4.heap.size:=by grind[Xs]
 have os5:w5.os=w4.os/\w5.tape=w4.tape/\w5.output=w4.output:=by rw[<-hw5];exact⟨rfl,rfl,rfl⟩
 have rl5:w5.heap[l]?=M (Lm {state:=.busy,pending:=Lc,fn:=fn,tmps:=a0,params:=#[12,13],assign:=Hf f183 0,body:=H5 f183 0,defers:=D}):=by grind
 have m4:g4≠D:=by grind
 have m5:g5≠D:=by grind
 refine wpIn_ret ?_;show Q .ret _ w5;rw[<-hQ];refine⟨_,_,run_endRound (M .ret) rl5,rfl,Lt (Ll.1 rl5).1, ?_, ?_, ?_, ?_⟩;grind[Li];grind[Li,setRow_other];grind[Li,Oh];have rowl:∀(X:World) (o:Obj) (g:Nat),(∃r,X.heap[l]?=M (.loop r))->(∃r,o=.loop r)->rows (X.putObj l o) g=rows X g:=by(rintro X o g ⟨r,hr⟩ ⟨r',rfl⟩;by_cases hg:g=l;grind[rows,Lt];grind[rows,Li])
 refine⟨os5.1.trans (K4.os.trans (hos2.1.trans K1.os)),os5.2.1.trans (K4.tape.trans (hos2.2.1.trans K1.tape)),os5.2.2.trans (K4.output.trans (hos2.2.2.trans K1.output)), ?_,λg hg hn=>?_,λg hg=>?_⟩;rw[Lu,z5];have:=K1.size;have:=K4.size;omega;grind[Li];have:=K1.size;rw[rowl _ _ _ ⟨_,rl5⟩ ⟨_,rfl⟩,rw5,K4.rows g oq,<-hw2,rowl _ _ _ ⟨_,same1 rl⟩ ⟨_,rfl⟩,K1.rows g hg]
end Go.Proofs.YtgedmeaemofdkaaGreat
namespace Go.Proofs.YtgedmeaemofdkaaGreat
open Go.Sx Go.RowKit
def Ey(l:List Found):AV:=.d (.sl 4 (l.map Found.dv))
def BS(h:Heap)(i:Int):List Found×Int:=if(H7 h i).2=O then((H7 h i).1,0)else([],19)
def LK(w00:World)(g6:Nat)(a:List (Nat×Obj))(A:Nat->Prop)(b:List Found)(W:World):Prop:=LJ g6 a A b W/\Kept (λ_=>False) w00 W/\∀g,A g->w00.heap.size<=g
def SB(F:Func)(fn:Nat)(a0:Array Value)(D:Nat)(st:LoopState)(a:Option Code):Obj:=.loop {state:=st,pending:=a,fn:=fn,tmps:=a0,params:=#[12,13],assign:=Hf F 0,body:=H5 F 0,defers:=D}
def LX(w00:World)(fn:Nat)(a0:Array Value)(l D g4 g5:Nat)(W:World):Prop:=
 W.heap[l]?=M (SB f183 fn a0 D .done (M .ret))/\W.heap[D]?=M (.deferred (M []))/\W.heap[g4]?=M (.cells #[.slice Lc 0 0] 206 (0,0))/\W.heap[g5]?=M (.cells #[.int .i64 19] 32 (0,0))/\Kept (λ_=>False) w00 W
def ZgC{w00:World}{fn}{a0:Array Value}{D l n g4 g5 g6:Nat}{u4 u5:Value}(i:a0.size=22)(q:a0[4]?=M (.pointer (M ⟨g4,0,Lc⟩)))(r:a0[5]?=M (.pointer (M ⟨g5,0,Lc⟩)))(u:a0[6]?=M (.pointer (M ⟨g6,0,Lc⟩)))(p:g4≠g5)(h4:w00.heap.size<=g4)(h5:w00.heap.size<=g5)(hl:w00.heap.size<=l) :Rnd l n (LK w00 g6 [(l,SB f183 fn a0 D .ready Lc),(D,.deferred (M [])),(g4,.cells #[u4] 206 (0,0)),(g5,.cells #[u5] 32 (0,0))]) (LX w00 fn a0 l D g4 g5):=by refine⟨λA c X Y ⟨J,K,d⟩ k=>⟨J.keep k,Ry K k (λ_ h=>h.elim),d⟩,λA c X ⟨⟨ρ,h1,I,_⟩,_,_⟩ g j=>?_,λA c X x ⟨J,K,d⟩ hlen=>?_,λA c X ⟨J,K,d⟩ _=>?_⟩;obtain⟨b,β,k1,k2⟩:=(h1 g).1 j;exact I.bnd b β g k1 k2;obtain⟨a,t,s,b,v,w⟩:=ZhO (n:=n) (D:=D) hlen i u (List.mem_cons_self) J x;refine⟨a,t,s,b,v,w.mono ?_⟩;rintro e W' ⟨rfl,y,z,f,m⟩;refine⟨rfl,y,⟨z,Ry K m d,λg j=>?_⟩,f,m⟩;rcases f g j with h|h;exact d g h;exact Xn K.size h;obtain⟨ρ,_,_,_,_,_,o⟩:=J;have p1:=(o (l,SB f183 fn a0 D .ready Lc) pq).1;have p2:=(o (D,.deferred (M [])) pq).1;have p3:=(o (g4,.cells #[u4] 206 (0,0)) pq).1;have p4:=(o (g5,.cells #[u5] 32 (0,0)) pq).1;obtain⟨a,t,s,b,v,w⟩:=Zj7 (n:=n) i q r p1 p2 p3 p4 p;refine⟨a,t,s,b,v,w.mono ?_⟩;rintro e W' ⟨rfl,m1,m2,m3,m4,m⟩;refine⟨rfl,m1,m2,m3,m4,Ry K m (λg j=>?_)⟩;rcases j with rfl|rfl|rfl<;>assumption
def Ziz{w00 W g6 m A f}(J:LK w00 g6 m A f W):∃j,W.heap[g6]?=M (.cells #[j] 206 (0,0))/\j.oneCell'=O/\A g6/\∃Im:Nat->Prop,(∀g,Im g->A g/\g<W.heap.size)/\CK W Im (.sl 4 (f.map Found.dv)) j:=by
 obtain⟨⟨ρ,t,I,⟨s6,n6,x⟩,hs,hr,hp⟩,K,v⟩:=J;obtain⟨β,z,m2⟩:=I.blk 6 _ rfl;rw[x]at z;cases z;obtain⟨_,_,g,s,e1,e2,e3,e4,e5⟩:=m2;cases e1;have hc:s.size=1:=e3;obtain⟨j,rfl⟩:∃j,s=#[j]:=⟨s[0],by
  apply L8;simp[hc];intro k hk _;rcases k with _|k;rfl;omega⟩
 have w:Zi ρ W (λ_=>False) (.ow 8020) j:=e5 0 _ j rfl rfl;have u:A g6:=(t g6).2 ⟨6,_,x,rfl⟩;refine⟨j,e2,e4 0 j rfl,u, ?_⟩;obtain⟨β2,k1,k2⟩:=I.blk 8020 _ rfl;let ρ':ZM:=λb=>if b=8020 then ρ 8020 else Lc;have l:∀b β,ρ' b=M β->b=8020/\ρ 8020=M β:=by(intro b β h;simp only[ρ']at h;split at h;exact⟨aa,h⟩;cases h)
 have I2:Sx.Inv G7 (λ_=>False) w00 ρ' W (λ_=>False) (BW [(8020,.arr 212 4 (f.map Found.dv))]) 20:=by
  refine⟨K.imp λ_ h=>h.elim,λb b' β β' g _ _ d i _ _=>by rw[(l _ _ d).1,(l _ _ i).1],λ_ _ _ _ _ _ h=>h,λb β g d i=>I.bnd _ _ g (l _ _ d).2 i,λb β g d i=>.inl ⟨v g ((t g).2 ⟨8020,β,(l _ _ d).2,i⟩),by rw[(l _ _ d).1];decide⟩,λ_ h=>h.elim,λ_ h=>h.elim,λb B o=>?_,λb p _=>?_,⟨by decide,λb β p q=>absurd p (by rw[(l _ _ q).1];decide)⟩⟩;simp only[BW]at o;split at o;cases o;rename_i p;subst p;exact⟨β2,by simp only[ρ',if_true];exact k1,k2.mono (Ext.refl _ _) (λ_ h=>h) (λ_ _ h=>h) I.bnd (λ_ _=>rfl) |> λh=>by
   obtain⟨a1,a2,a3,a4,a5⟩:=h;exact⟨a1,a2,a3,a4,a5⟩⟩
  cases o;simp only[ρ'];rw[if_neg oq]
 have y:Zi ρ' W (λ_=>False) (.ow 8020) j:=by
  cases w with|ow d i q3 r=>exact .ow (by simp only[ρ',if_true];exact d) i q3 r
 have:=Z13 (keep:=[]) (fr:=O) (b:=8020) (els0:=f.map Found.dv) I2 y rfl pq ⟨_,rfl,by simp⟩ (λe he=>he) (λ_=>Z07 f) (λa n c hv hn=>by
  subst hv;cases y with
  |ow d i q3 r =>
   rcases r with r|⟨g,q5,q6,_⟩;omega;cases q6;exact⟨_,d,q5⟩)
 refine⟨_,λg hg=>?_,this⟩;rcases hg with⟨h,_⟩|⟨b,β,_,_,d,i⟩;cases h;exact⟨(t g).2 ⟨8020,β,(l _ _ d).2,i⟩,I.bnd _ _ g (l _ _ d).2 i⟩
end Go.Proofs.YtgedmeaemofdkaaGreat
namespace Go.Proofs.YtgedmeaemofdkaaGreat
open Go.Sx
def ZdP(h:Heap):¬ (Z9 h 0).2=0:=by
 unfold Z9;split;have:¬ (Z2 h.C 0).2.2=0:=by(unfold Z2;split;rw[if_neg oq];simp;simp)
 rw[if_neg this];simp;simp
def ZiK{h:Heap}(d:Z8 h=O){i o:Int}(hi:0<=i/\i<h.P.length)(m:0<=o/\o<h.C.pw)(e:(Z9 h (Bb h i o)).2=0):(pg h i).K=2->o=0/\Z5 (Z9 h (Bb h i o)).1=(pg h i).U:=by
 have g:=B1 d;have hq:=I5.1 d;have j:Bb h i o=4096+(i*h.C.pw+o):=by(unfold Bb address;rw[if_pos g.1,if_pos (by unfold inB;simp;omega)])
 have f:=M8 (c:=h.C) (i:=i) (o:=o) g.1 oq m;rw[<-j]at f;unfold Z9 at e⊢;rw[if_pos d,f]at e⊢;simp only[if_true]at e⊢;intro l;have b:(h.P.getD i.toNat La).K=2:=l;split at e;rename_i k;rw[if_pos k];split at e;simp at e;rename_i a;rw[if_neg a];simp only[b,not_or,not_and]at a;have:=a.2;simp only[true_and,not_or,Classical.not_not,forall_const]at this;exact⟨this.1,this.2⟩;simp at e
def Z6B{h:Heap}(hp:Z8 h=O){i:Int}(hi:0<=i/\i<h.P.length):∀(f:Nat) (o:Int),0<=o->((pg h i).K=2->o=0) -> ((EP h i f o).2=O->Er h i f o=M ((EP h i f o).1.map (·.addr)))/\((EP h i f o).2=Lb->Er h i f o=Lc)
 |0,o,_,_=>⟨λ_=>rfl,λh=>by cases h⟩
 |f+1,o,h0,hk=>by
  unfold EP Er;by_cases ho:o<(pg h i).U
  .rw[if_pos ho,if_pos ho];by_cases ha:(address h.C i o).2=0
   .by_cases hh:(Z9 h (Bb h i o)).2=0
    .rw[if_pos ⟨ha,hh⟩,if_pos hh];have hpw:o<h.C.pw:=by
      unfold address at ha;split at ha
      .split at ha
       .rename_i hb;unfold inB at hb;simp at hb;omega
       .simp at ha
      .simp at ha
     have h2:=ZiK hp hi ⟨h0,hpw⟩ hh;by_cases hk2:(pg h i).K=2
     .rw[if_pos hk2];have e:EP h i f (o+Z5 (Z9 h (Bb h i o)).1)=([],O):=by
       have:=h2 hk2;cases f with|zero=>rfl|succ f=>unfold EP;rw[if_neg oq]
      rw[e];exact⟨λ_=>rfl,λh=>by cases h⟩
     .rw[if_neg hk2];have sz:=Ic (Z9 h (Bb h i o)).1;obtain⟨i1,i2⟩:=Z6B hp hi f (o+Z5 (Z9 h (Bb h i o)).1) oq (λh=>absurd h hk2);exact⟨λh=>by rw[i1 h];rfl,λh=>by rw[i2 h];rfl⟩
    .rw[if_neg (λq=>hh q.2),if_neg hh];exact⟨λh=>(by cases h),λ_=>rfl⟩
   .have e:Bb h i o=0:=by
     unfold Bb address at *;split at ha
     .rename_i hv;split at ha
      .simp at ha
      .rename_i hb;rw[if_pos hv,if_neg hb]
     .rename_i hv;rw[if_neg hv]
    rw[if_neg (λq=>ha q.1),if_neg (by rw[e];exact ZdP h)];exact⟨λh=>(by cases h),λ_=>rfl⟩
  .rw[if_neg ho,if_neg ho];exact⟨λ_=>rfl,λh=>(by cases h)⟩
def Z9h{h i}:∀{f:Nat} {o:Int},∀x∈(EP h i f o).1,x.hd=(Z9 h x.addr).1/\(Z9 h x.addr).2=0/\∃o,x.addr=Bb h i o
 |0,o,x,hx=>by simp[EP]at hx
 |f+1,o,x,hx=>by
  unfold EP at hx;split at hx
  .split at hx
   .rename_i a;rcases Ln.1 hx with rfl|hx
    .exact⟨rfl,a.2,o,rfl⟩
    .exact Z9h x hx
   .simp at hx
  .simp at hx
def Z7o{h i}:∀{f:Nat} {o:Int},(EP h i f o).1.length<=f
 |0,o=>by simp[EP]
 |f+1,o=>by
  unfold EP;split
  .split
   .have:=Z7o (h:=h) (i:=i) (f:=f) (o:=o+Z5 (Z9 h (Bb h i o)).1);simp only[List.length_cons];omega
   .simp
  .simp
def Z2N{h:Heap}(hp:Z8 h=O){i:Int}(hi:0<=i/\i<h.P.length):Zd h i=((BS h i).1.map (·.addr),(BS h i).2):=by
 have hk:=(Ea hp (j:=i.toNat) oq);unfold Zd BS H7;rw[if_pos hp,if_pos hi];by_cases h1:(pg h i).K=0\/(pg h i).K=3;have e:(if(pg h i).K=1\/(pg h i).K=2 then EP h i 256 0 else([],O))=([],O):=if_neg oq;rw[if_pos h1,e];rfl;have h2:(pg h i).K=1\/(pg h i).K=2:=by(have:0<=(pg h i).K/\(pg h i).K<=3:=⟨hk.2.2.2.2.1,hk.2.2.2.2.2.1⟩;omega)
 rw[if_neg h1,if_pos h2];obtain⟨i1,i2⟩:=Z6B hp hi 256 0 oq (λ_=>rfl);cases e:(EP h i 256 0).2 with|true=>rw[i1 e];rfl|false=>rw[i2 e];rfl
def PL(h:Heap) i:(BS h i).1.length<=256:=by unfold BS H7;split;split;exact Z7o;simp;simp
def Z5x{h i}:∀x∈(BS h i).1,x.hd=(Z9 h x.addr).1/\(Z9 h x.addr).2=0/\∃o,x.addr=Bb h i o:=by intro x a;unfold BS H7 at a;split at a;split at a;exact Z9h x a;simp at a;simp at a
def CM(h:Heap):Nat->Nat->List Found×Int|0,_=>([],0)|f+1,i=>if(BS h i).2=0 then(if(CM h f (i+1)).2=0 then((BS h i).1++(CM h f (i+1)).1,0)else([],(CM h f (i+1)).2))else([],(BS h i).2)
def CB(h:Heap):List Found×Int:=if Z8 h=O then CM h h.P.length 0 else([],1)
def Z5y{h:Heap}(a:Z8 h=O):∀(f i:Nat),i+f<=h.P.length->Co h f i=((CM h f i).1.map (·.addr),(CM h f i).2)
 |0,i,_=>rfl
 |f+1,i,hi=>by
  unfold Co CM;rw[Z2N a (i:=i) oq,Z5y a f (i+1) oq];simp only;split
  .split
   .simp
   .rfl
  .rfl
def Z0Q(h:Heap):CC h=((CB h).1.map (·.addr),(CB h).2):=by unfold CC CB;split;rename_i a;exact Z5y a _ _ oq;rfl
def ZeT(h:Heap):∀(f i:Nat),¬ (CM h f i).2=0->(CM h f i).1=[]
 |0,i,e=>absurd rfl e
 |f+1,i,e=>by
  unfold CM at e⊢;split at e
  .rename_i a;rw[if_pos a];split at e
   .exact absurd rfl e
   .rename_i b;rw[if_neg b]
  .rename_i a;rw[if_neg a]
def Z4u{h}:∀(f i:Nat),∀x∈(CM h f i).1,x.hd=(Z9 h x.addr).1/\(Z9 h x.addr).2=0
 |0,i,x,hx=>by simp[CM]at hx
 |f+1,i,x,hx=>by
  unfold CM at hx;split at hx
  .split at hx
   .rcases Xj.1 hx with hx|hx
    .exact⟨(Z5x x hx).1,(Z5x x hx).2.1⟩
    .exact Z4u f (i+1) x hx
   .simp at hx
  .simp at hx
def Z9g{h}:∀x∈(CB h).1,x.hd=(Z9 h x.addr).1/\(Z9 h x.addr).2=0:=by intro x a;unfold CB at a;split at a;exact Z4u _ _ x a;simp at a
def Z4t(h:Heap):∀(f i:Nat),(CM h f i).1.length<=256*f
 |0,i=>by simp[CM]
 |f+1,i=>by
  have:=PL h i;have:=Z4t h f (i+1);unfold CM;split
  .split
   .simp;omega
   .simp
  .simp
def Zj2(h:Heap):(CB h).1.length<=16384:=by unfold CB;split;rename_i a;have:=Z4t h h.P.length 0;have:=B1 a;omega;simp
end Go.Proofs.YtgedmeaemofdkaaGreat
namespace Go.Proofs.YtgedmeaemofdkaaGreat
open Go.Sx Go.RowKit
def ZdU{h i}(e:(H7 h i).2=O):BS h i=((H7 h i).1,0):=if_pos e
def Zf0{h i}(e:(H7 h i).2=Lb):BS h i=([],19):=if_neg (by rw[e];simp)
theorem Z0z{w00 X}(K:Kept (λ_=>False) w00 X){g:Nat}{o}(hg:w00.heap.size<=g):Kept (λ_=>False) w00 (X.putObj g o):=by refine⟨K.os,K.tape,K.output,by rw[Lu];exact K.size,λk a _=>by rw[Li oq];exact K.block k a id,λk a=>?_⟩;have:=K.rows k a;grind[rows,Li]
theorem ZaP{w00 X}(K:Kept (λ_=>False) w00 X){g:Nat}{cs}(hg:w00.heap.size<=g):Kept (λ_=>False) w00 (X.setRow g cs):=by refine⟨K.os,K.tape,K.output,by have:=K.size;simp_all,λk a _=>by rw[setRow_other X g k _ oq];exact K.block k a id,λk a=>?_⟩;have:=K.rows k a;grind[rows,setRow_other]
theorem kept_alloc{w00 X}(K:Kept (λ_=>False) w00 X) o:Kept (λ_=>False) w00 (X.alloc o):=by have hs:=K.size;refine⟨K.os,K.tape,K.output,by simp;omega,λk a _=>by rw[Lv _ _ _ oq];exact K.block k a id,λk a=>?_⟩;have:=K.rows k a;grind[rows,Lv]
def ZbT{X:World}{l g:Nat}{x y:Option (List Deferred)}(h:X.heap[l]?=M (.deferred x)):rows (X.putObj l (.deferred y)) g=rows X g:=by grind[rows,Lt,Li]
def Zj3{X:World}{l g:Nat}{x y:Loop}(h:X.heap[l]?=M (.loop x)):rows (X.putObj l (.loop y)) g=rows X g:=by grind[rows,Lt,Li]
def HX{a:Act}{k:Nat}{v:Value}(h:a.tmps[k]?=M v):a.eval (.tmp k)=v:=by show a.tmps.getD k undef=v;simp_all
def Su{a:Act}{k d:Nat}{u v:Value}(h:a.tmps[k]?=M v)(hk:d≠k):(a.put (M d) u).tmps[k]?=M v:=by show(a.tmps.setIfInBounds d u)[k]?=M v;grind
def SP{a:Act}{d:Nat}{u}(h:d<a.tmps.size):(a.put (M d) u).tmps[d]?=M u:=by show(a.tmps.setIfInBounds d u)[d]?=M u;grind
def ZbU{W:World}{g6:Nat}(k:W.heap[g6]?=M (.cells #[.slice Lc 0 0] 206 (0,0)))(c:List (Nat×Obj))(r:∀p∈c,W.heap[p.1]?=M p.2/\p.1≠g6):LJ g6 c (λg=>g=g6) [] W:=by
 have l6:g6<W.heap.size:=(Ll.1 k).1;let ρ:ZM:=λb=>if b=6 then M ⟨M g6,1,1⟩else if b=8020 then M ⟨Lc,4,0⟩else Lc;have hρ:∀b β,ρ b=M β->(b=6/\β=⟨M g6,1,1⟩)\/(b=8020/\β=⟨Lc,4,0⟩):=by grind
 have n:∀g,g=g6↔∃b β,ρ b=M β/\β.g=M g:=by(intro g;constructor;rintro rfl;exact⟨6,_,rfl,rfl⟩;grind)
 have hg:∀b β g,ρ b=M β->β.g=M g->b=6/\g=g6:=by grind
 refine⟨ρ,n,⟨Kept.refl _ _,λb b' β β' g _ _ e f q3 q4=>by grind,λ_ _ _ _ _ _ h=>h,λb β g e f=>by grind,λb β g e f=>.inr ⟨b,β,e,f⟩,λ_ h=>h.elim,λ_ h=>h.elim,λb B q=>?_,λb d _=>?_,⟨by decide,λ_ _ _ h=>h⟩⟩,⟨1,1,rfl⟩,λb β h=>?_,λb β g e f=>?_,λp j=>r p j⟩;simp only[Sl,Xi,BW]at q;split at q;rename_i d;cases q;subst d;exact⟨_,rfl,rfl,rfl,by simp[big],by simp,.inl ⟨rfl,rfl⟩⟩;split at q;rename_i d;cases q;subst d;refine⟨_,rfl,rfl,rfl,g6,_,rfl,k,rfl,λi v h=>?_,λo a v l m=>?_⟩;rcases i with _|i<;>simp at h;subst h;rfl;rcases o with _|o<;>simp at l m;subst l;subst m;exact .ow (β:=⟨Lc,4,0⟩) rfl (Lr _) (by simp[big]) (.inl rfl);cases q;all_goals grind[rows]
def Z85{w00 W}{Im Im':Nat->Prop}{v4 v5:Value}{l:List Found}{e:Int}(K:Kept (λ_=>False) w00 W)(f:∀g,Im' g->w00.heap.size<=g/\g<W.heap.size)(j:CK W Im' (.sl 4 (l.map Found.dv)) v4)(m:v5=.int .i64 e) :RB w00 Im O (.tu [Ey l,int e]) [] (.tuple #[v4,v5]) W:=by subst m;refine⟨K,λ_=>Lc,Im',λg c=>.inr (f g c).1,λg c=>(f g c).2,λ_ _ _ h=>(by cases h),λ_ _ _ _ _ h=>(by cases h),λ_ _ h=>(by cases h),λk B h=>(by simp at h),.tu _ _ rfl λi a v b d=>?_⟩;rcases i with _|_|i<;>simp at b d;subst b;subst d;exact .d j;subst b;subst d;exact .d (.sc _ rfl)
def Zgx{h:Heap}{i:Int}(hw:Zx h.W)(hp:Z8 h=O)(hi:0<=i/\i<h.P.length){w00 w4}{Im Im4:Nat->Prop}{a4:Act}{g4 g5 g6:Nat}{u4 u5 p1 p2:Value}(K:Kept (λ_=>False) w00 w4)(ha:a4.tmps.size=22)(t4:a4.tmps[4]?=M (.pointer (M ⟨g4,0,Lc⟩)))(t5:a4.tmps[5]?=M (.pointer (M ⟨g5,0,Lc⟩)))(t6:a4.tmps[6]?=M (.pointer (M ⟨g6,0,Lc⟩)))(t11:a4.tmps[11]?=M (.func (.func 234) #[] #[p1,p2]))(hd:a4.defers=[])(l4:w00.heap.size<=g4)(l5:w00.heap.size<=g5)(n45:g4≠g5)(n46:g4≠g6)(n56:g5≠g6)(l6:w00.heap.size<=g6)(c4:w4.heap[g4]?=M (.cells #[u4] 206 (0,0)))(c5:w4.heap[g5]?=M (.cells #[u5] 32 (0,0)))(c6:w4.heap[g6]?=M (.cells #[.slice Lc 0 0] 206 (0,0)))(hIm:∀g,Im4 g->g<w4.heap.size/\g≠g6)(r1:Zi (λ_=>Lc) w4 Im4 (.rp h.dvs 0) p1)(r2:Zi (λ_=>Lc) w4 Im4 (.rp [Zn i] 0) p2){Q:Exit->Act->World->Prop}(hQ:bodyPostM Lf 10 prog f183 (λe w'=>∃v,e=Ending.returned v/\RB w00 Im O (AV.tu [Ey (BS h i).1,int (BS h i).2]) [] v w')=Q) :(Zk f183 0).wpIn Lf 10 prog (Exit.then ((LQ (.region 8 (BL f183 8) Lb) .ret).wpIn Lf 10 prog Q) Q) a4 w4:=by
 have hs4:=K.size;rw[show Zk f183 0=.block 0 (.rangeFunc (.tmp 11) #[12,13] (Hf f183 0) (H5 f183 0))from by kernel_rfl];refine wpIn_block (wpIn_rangeFunc ?_);intro fn hfn;have q4:g4<w4.heap.size:=(Ll.1 c4).1;have q5:g5<w4.heap.size:=(Ll.1 c5).1;have q6:g6<w4.heap.size:=(Ll.1 c6).1;obtain⟨D,hD⟩:∃D,w4.heap.size=D:=⟨_,rfl⟩;obtain⟨W1,hW1⟩:∃W1,(w4.alloc (.deferred (M []))).alloc (SB f183 fn a4.tmps D .ready Lc)=W1:=⟨_,rfl⟩;have old:∀{g:Nat},g<D->W1.heap[g]?=w4.heap[g]?:=λ{g} hg=>by(grind[Lv])
 have atD:W1.heap[D]?=M (.deferred (M [])):=by grind[Lv,L7]
 have atL:W1.heap[D+1]?=M (SB f183 fn a4.tmps D .ready Lc):=by(have:=L7 (w4.alloc (.deferred (M []))) (SB f183 fn a4.tmps D .ready Lc);rw[World.size_alloc,hD]at this;rw[<-hW1];exact this)
 have z1:W1.heap.size=D+2:=by rw[<-hW1];simp;omega
 have K1:Kept (λ_=>False) w00 W1:=by grind[kept_alloc]
 have E1:Sx.Ext Im4 w4 W1:=⟨by omega,λg hg=>old (by grind),λg hg=>by grind[rows]⟩;have J0:LK w00 g6 [(D+1,SB f183 fn a4.tmps D .ready Lc),(D,.deferred (M [])),(g4,.cells #[u4] 206 (0,0)),(g5,.cells #[u5] 32 (0,0))] (λg=>g=g6) [] W1:=by(refine⟨ZbU (by grind) _ λp hpp=>?_,K1,λg hg=>by omega⟩;simp only[Ln,Lq,or_false]at hpp;rcases hpp with rfl|rfl|rfl|rfl;grind;grind;grind;grind)
 have RR:=ZgC (w00:=w00) (fn:=fn) (a0:=a4.tmps) (D:=D) (l:=D+1) (n:=8) (g4:=g4) (g5:=g5) (g6:=g6) (u4:=u4) (u5:=u5) ha t4 t5 t6 n45 l4 l5 oq;have v11:=HX t11;refine⟨D+1,[{target:=.collected D,args:=#[]}],W1,{target:=.fn (.func 234) #[p1,p2],args:=#[Gj (D+1)]},W1,234,#[Gj (D+1)] ++ #[p1,p2],W1, ?_, ?_,λ_ _=>trivial, ?_,λ_=>by decide, ?_⟩;rw[<-hW1,<-hD];exact run_enterLoop_outer _ _ _ _ _;simp[resolve,t11,LF,rangeCall,Gj,go_sem];have:=RE (P:=prog) (f:=234) kr (#[Gj (D+1)] ++ #[p1,p2]) W1;grind[invoke];refine(ZcX h i (D+1) 8 hw hp hi RR (Im:=Im4) (λg hg=>⟨by grind,(hIm g hg).2⟩) (r1.mono E1 (λ_ h=>h) (λ_ _ h=>h) (λ_ _ _ h=>nomatch h)) (r2.mono E1 (λ_ h=>h) (λ_ _ h=>h) (λ_ _ _ h=>nomatch h)) J0).mono ?_;rintro e W2 ⟨⟨v,rfl⟩,hh⟩;rcases hh with⟨e1,A,J2⟩|⟨e1,x1,x2,x3,x4,x5⟩;obtain⟨sv,s1,s2,s3,Im',s4,s5⟩:=Ziz J2;obtain⟨⟨ρ,_,_,_,_,_,hpp⟩,K2,hge⟩:=J2;have pl:=hpp (D+1,SB f183 fn a4.tmps D .ready Lc) pq;have pD:=hpp (D,.deferred (M [])) pq;have p4:=hpp (g4,.cells #[u4] 206 (0,0)) pq;have p5:=hpp (g5,.cells #[u5] 32 (0,0)) pq;have n6:∀{g:Nat},¬ A g->g6≠g:=λhg e=>hg (e▸s3);refine⟨Lc,_,run_endLoop pl.1 pq, ?_⟩;show(LQ (.region 8 (BL f183 8) Lb) .ret).wpIn Lf 10 prog Q {tmps:=a4.tmps,defers:=[{target:=.collected D,args:=#[]}]++a4.defers} _;rw[hd];generalize hW3:W2.putObj (D+1) _=W3;have o3:∀{g:Nat},g≠D+1->W3.heap[g]?=W2.heap[g]?:=λ{g} hg=>by grind[Li]
 have K3:Kept (λ_=>False) w00 W3:=by grind[Z0z]
 have z3:W3.heap.size=W2.heap.size:=by grind[Lu]
 have d6:W3.heap[g6]?=M (.cells #[sv] 206 (0,0)):=by grind
 have d4:W3.heap[g4]?=M (.cells #[u4] 206 (0,0)):=by grind
 have d5:W3.heap[g5]?=M (.cells #[u5] 32 (0,0)):=by grind
 have dD:W3.heap[D]?=M (.deferred (M [])):=by grind
 refine wpIn_seq (wpIn_region ?_);rw[show Lp (BL f183 8).size=[0,1,2]from by kernel_rfl];refine IQ (o:=(BL f183 8).getD 0 La) kr kr (Iv (ro:=Lc) (by intro c h;cases h) (Sn (ZfY (t:=206) (x:=.tmp 6) kr (HX t6) d6 s2 kr) ?_));have e4:(W3.setRow g4 #[sv]).heap[g4]?=M (.cells #[sv] 206 (0,0)):=Oh d4;have f5:(W3.setRow g4 #[sv]).heap[g5]?=M (.cells #[u5] 32 (0,0)):=by grind[setRow_other]
 refine IQ (o:=(BL f183 8).getD 1 La) kr kr (Iv (ro:=Lc) (by intro c h;cases h) (PW (Z02 (t:=206) (x:=.tmp 4) (y:=.tmp 21) (v:=sv) kr (HX (Su t4 dd)) (HX (SP (by grind))) d4 s2 kr) ?_));refine IQ (o:=(BL f183 8).getD 2 La) kr kr (Iv (ro:=Lc) (by intro c h;cases h) (PW (Z02 (t:=32) (x:=.tmp 5) (y:=.const (.int .i64 0)) (v:=.int .i64 0) kr (HX (Su t5 dd)) rfl f5 rfl kr) ?_));generalize hW5:(W3.setRow g4 #[sv]).setRow g5 #[.int .i64 0]=W5;have o5:∀{g:Nat},g≠g4->g≠g5->W5.heap[g]?=W3.heap[g]?:=λ{g} h k=>by(grind[setRow_other])
 have m4:g4≠D:=by omega
 have m5:g5≠D:=by omega
 have K5:Kept (λ_=>False) w00 W5:=by grind[ZaP]
 have z5:W5.heap.size=W2.heap.size:=by grind[Xs]
 refine wpIn_ret ?_;show Q .ret _ W5;rw[<-hQ,ZdU e1];refine Z71 (g4:=g4) (g5:=g5) (v4:=sv) (v5:=.int .i64 0) (HX (a:={tmps:=_,defers:=[]}) (Su t4 dd)) (HX (a:={tmps:=_,defers:=[]}) (Su t5 dd)) ?_ ?_ s2 rfl ?_ ⟨_,rfl,Z85 (Im':=Im') (Z0z K5 oq) (λg hg=>?_) (s5.mono ⟨?_,λg hg=>?_,λg hg=>?_⟩ (λ_ h=>h)) rfl⟩;grind[setRow_other];grind[Oh];grind;grind[Lu];simp_all;grind[Li];rw[ZbT (by rw[o5 m4.symm m5.symm];exact dD),<-hW5,Am _ g5 #[u5] #[.int .i64 0] _ f5 rfl,Am _ g4 #[u4] #[sv] _ d4 rfl,<-hW3,Zj3 pl.1]
 .refine⟨M .ret,_,run_endLoop x1 pq, ?_⟩;refine wpIn_ret ?_;show Q .ret {tmps:=a4.tmps,defers:=[{target:=.collected D,args:=#[]}]++a4.defers} _;rw[hd,<-hQ,Zf0 e1];refine Z71 (g4:=g4) (g5:=g5) (v4:=.slice Lc 0 0) (v5:=.int .i64 19) (HX (a:={tmps:=_,defers:=[]}) t4) (HX (a:={tmps:=_,defers:=[]}) t5) ?_ ?_ rfl rfl ?_ ⟨_,rfl,Z85 (Im':=λ_=>False) (Z0z (Z0z x5 oq) oq) (λ_ h=>h.elim) (.slNil _ _ _) rfl⟩;all_goals grind[Li]
def PC(h:Heap)(i:Int)(hw:Zx h.W)(hp:Z8 h=O)(hi:0<=i/\i<h.P.length):GP 183 [h.av,int i] O (.tu [Ey (BS h i).1,int (BS h i).2]) []:=by
 intro q Im vs b1 b7 b2;rw[<-callsIn_wide (n:=10)];refine callsIn_of_wp_marks func183 (c:=Hj f183) kr trivial ?_ rfl;have S0:Sx.Sys G7 Im q (tm 22 [(0,h.av),(1,int i)]) (BW []) 1 {tmps:=vs++LC (Tryz.f183.ntmps-vs.size) undef,defers:=[]} q:=by(have a7:vs.size=2:=b7;refine⟨_,Im,Sx.Inv.empty b1 (Lr 1),⟨by rw[a7];simp[a7];kernel_rfl,λk y v hy hv=>?_,rfl⟩⟩;rw[show tm 22 [(0,h.av),(1,int i)]=[h.av,int i]++Lg 20 .any from by kernel_rfl,LI]at hy;rw[LB]at hv;split at hy;grind;have:=Lo hy;rw[(Ls.1 this).2];exact .any _)
 generalize hR:(λe w'=>∃v,e=Ending.returned v/\RB q Im O (AV.tu [Ey (BS h i).1,int (BS h i).2]) [] v w')=R;generalize hQ:bodyPostM Lf 10 prog f183 R=Q;refine Zgv h i 10 Q _ _ _ _ _ S0 ?_;rintro a1 w1 ⟨ρ1,d,a,T1⟩;obtain⟨v2,t2,r2⟩:=T1.at (t:=2) (x:=.pt 8002 0 0) rfl;obtain⟨v4,t4,r4⟩:=T1.at (t:=4) (x:=.pt 8004 0 0) rfl;obtain⟨v5,t5,r5⟩:=T1.at (t:=5) (x:=.pt 8005 0 0) rfl;obtain⟨β2,m2,n2⟩:=a.blk 8002 _ rfl;obtain⟨β4,m4,n4⟩:=a.blk 8004 _ rfl;obtain⟨β5,m5,n5⟩:=a.blk 8005 _ rfl;have b9:Zi (λ_=>Lc) w1 (λg=>d g\/β2.g=M g) (.rp h.dvs 0) v2:=Tw m2 n2 r2 (λ_ h=>.inl h) (λ_ h=>.inr h);obtain⟨l,s4,k4,e4,rfl⟩:=RJ r4 rfl;obtain⟨m,s5,k5,e5,rfl⟩:=RJ r5 rfl;rw[m4]at e4;cases e4;rw[m5]at e5;cases e5;have b0:l≠m:=by(rintro rfl;have:=a.inj 8004 8005 _ _ l ⟨_,rfl,by simp⟩ ⟨_,rfl,by simp⟩ m4 m5 rfl rfl;omega)
 have l4:q.heap.size<=l:=(a.own 8004 _ l m4 rfl).elim (·.1) (λh=>h.no.elim);have l5:q.heap.size<=m:=(a.own 8005 _ m m5 rfl).elim (·.1) (λh=>h.no.elim);have cell:∀{β:Bi} {ty g:Nat} {x:AV},RelB ρ1 w1 d β (.box ty [x])->β.g=M g->∃u,w1.heap[g]?=M (.cells #[u] ty (0,0)):=by
  intro β ty g x hb b;obtain⟨_,_,g',cs,q1,q2,q3,_⟩:=hb;rw[b]at q1;cases q1;have hc:cs.size=1:=q3;exact⟨cs[0],by
   have:cs=#[cs[0]]:=by grind
   grind⟩
 obtain⟨u4,c4⟩:=cell n4 rfl;obtain⟨u5,c5⟩:=cell n5 rfl;have er:rest prog 10 1 (Hj f183) Q a1 w1=(LD 1 (BL f183 1) Lb).wpIn Lf 10 prog (Exit.then ((LQ (.seq (.region 2 (BL f183 2) Lb) (Zk f183 0)) (.seq (.region 8 (BL f183 8) Lb) .ret)).wpIn Lf 10 prog Q) Q) a1 w1:=by kernel_rfl
 rw[er];refine wpIn_region ?_;rw[show Lp (BL f183 1).size=[0]from by kernel_rfl];refine IQ (o:=(BL f183 1).getD 0 La) kr kr (Iv (ro:=Lc) (by intro c h;cases h) (Sn (Zco (t:=206) (z:=.slice Lc 0 0) kr kr) ?_));show(LQ (.seq (.region 2 (BL f183 2) Lb) (Zk f183 0)) (.seq (.region 8 (BL f183 8) Lb) .ret)).wpIn Lf 10 prog Q (a1.put (M 6) (.pointer (M ⟨w1.heap.size,0,Lc⟩))) (w1.alloc (.cells #[.slice Lc 0 0] 206));obtain⟨w2,s⟩:∃w2,w1.alloc (.cells #[.slice Lc 0 0] 206)=w2:=⟨_,rfl⟩;rw[s];obtain⟨j,b6⟩:∃j,w1.heap.size=j:=⟨_,rfl⟩;rw[b6];have E2:Sx.Ext (λg=>d g\/β2.g=M g) w1 w2:=by(rw[<-s];refine Sx.Ext.alloc _ w1 _ ?_;rintro g (b|b);exact a.imb g b;exact a.bnd _ _ g m2 b)
 have z2:w2.heap.size=w1.heap.size+1:=by rw[<-s];simp
 have K2:Kept (λ_=>False) w1 w2:=by(rw[<-s];exact⟨rfl,rfl,rfl,by simp,λk hk _=>Lv _ _ _ hk,λk hk=>by grind[rows,Lv]⟩)
 have c6:w2.heap[j]?=M (.cells #[.slice Lc 0 0] 206 (0,0)):=by grind[L7]
 have T2:Cw [] (λ_=>Lc) w2 (λg=>d g\/β2.g=M g) (tm 22 [(1,int i),(2,.rp h.dvs 0),(4,ptr l),(5,ptr m),(6,ptr j)]) (a1.put (M 6) (.pointer (M ⟨j,0,Lc⟩))):=by(have A1:Cw [] ρ1 w1 (λg=>d g\/β2.g=M g) _ a1:=T1.mono (Sx.Ext.refl _ _) (λ_ h=>.inl h) (λ_ _ h=>h) a.bnd;have A2:=((((A1.reSet 2 .any (λv _=>.any v)).reSet 4 .any (λv _=>.any v)).reSet 5 .any (λv _=>.any v)).pure kr);have A3:=((A2.reSet 2 (.rp h.dvs 0) (λv hv=>by grind)).reSet 4 (ptr l) (λv hv=>by rw[t4]at hv;cases hv;simp only[Xp,Xm];exact .d (.sc _ rfl))).reSet 5 (ptr m) (λv hv=>by rw[t5]at hv;cases hv;simp only[Xp,Xm];exact .d (.sc _ rfl));exact(A3.mono E2 (λ_ h=>h) (λ_ _ h=>h) (λ_ _ _ h=>nomatch h)).put 6 (Zi.d (CK.sc _ rfl)))
 have S2:Sx.Sys G7 (λg=>d g\/β2.g=M g) w2 (tm 22 [(1,int i),(2,.rp h.dvs 0),(4,ptr l),(5,ptr m),(6,ptr j)]) (BW []) 20 (a1.put (M 6) (.pointer (M ⟨j,0,Lc⟩))) w2:=by(refine⟨_,_,Sx.Inv.empty ?_ dd,T2⟩;rintro g (b|b);have:=a.imb g b;omega;have:=a.bnd _ _ g m2 b;omega)
 refine wpIn_seq (wpIn_seq (wpIn_region ?_));rw[show Lp (BL f183 2).size=[0,1]++[2]from by kernel_rfl];refine AT (ro:=Lc) (hints:=[]) (out:=⟨tm 22 [(1,int i),(2,.rp h.dvs 0),(4,ptr l),(5,ptr m),(6,ptr j),(9,h.av),(10,int i)],BW [],[],[]⟩) kr S2 trivial (λp hp=>by simp at hp) ?_;rintro w w3 ⟨ρ3,a9,I3,r⟩;have r:=r.pure kr;have a0:(execOp w.eval ((BL f183 2).getD 2 La)).run prog w3=.ok (.enter 214 #[w.eval (.tmp 9),w.eval (.tmp 10)]) w3:=by
  have a6:((BL f183 2).getD 2 La).op=.call ⟨.value (.func 214),#[.tmp 9,.tmp 10],T8 ((BL f183 2).getD 2 La)⟩:=by kernel_rfl
  have:=RE (P:=prog) (f:=214) kr #[w.eval (.tmp 9),w.eval (.tmp 10)] w3;have b3:w.eval (.func 214)=.func (.func 214) #[] #[]:=rfl;generalize (BL f183 2).getD 2 La=o at a6⊢;simp[execOp,a6,resolve,b3,LF,invoke,this]
 refine IQ (o:=(BL f183 2).getD 2 La) kr kr (Iv (ro:=Lc) (by intro c h;cases h) ?_);unfold Lz;rw[a0,L6];refine(Z9y h i w3 a9 _ _ I3.imb (E4 r (.tmp 9)) (E4 r (.tmp 10))).mono ?_;rintro e w4 ⟨p1,p2,a2,rfl,K4,a4,b8,a8⟩;have a5:((BL f183 2).getD 2 La).dst=M 11:=by kernel_rfl
 rw[a5];have b4:l<j:=by grind
 have b5:m<j:=by grind
 have s1:=a.kept.size;have s3:=I3.kept.size;obtain⟨x4,y4,q4⟩:=r.at (t:=4) (x:=ptr l) rfl;obtain⟨x5,y5,q5⟩:=r.at (t:=5) (x:=ptr m) rfl;obtain⟨x6,y6,q6⟩:=r.at (t:=6) (x:=ptr j) rfl;rw[C0 q4]at y4;rw[C0 q5]at y5;rw[C0 q6]at y6;have hz:w.tmps.size=22:=r.size;have c1:∀{g:Nat},g<w2.heap.size->w4.heap[g]?=w2.heap[g]?:=λ{g} b=>by(rw[K4.block g oq id,I3.kept.no.block g b id])
 have c0:∀{g:Nat},g<w1.heap.size->w2.heap[g]?=w1.heap[g]?:=λ{g} b=>K2.block g b id;refine Zgx hw hp hi (w4:=w4) (Im4:=a2) (g4:=l) (g5:=m) (g6:=j) (u4:=u4) (u5:=u5) (p1:=p1) (p2:=p2) (Ry (Ry (Ry a.kept.no K2 (λ_ h=>h.elim)) I3.kept.no (λ_ h=>h.elim)) K4 (λ_ h=>h.elim)) ?_ (Su y4 dd) (Su y5 dd) (Su y6 dd) (SP oq) r.defers l4 l5 b0 oq oq oq ?_ ?_ ?_ (λg b=>?_) b8 a8 (by rw[hR];exact hQ);show(w.tmps.setIfInBounds 11 _).size=22;grind;grind;grind;grind;obtain⟨h1,h2⟩:=a4 g b;refine⟨h2, ?_⟩;rcases h1 with h1|h1;rcases I3.im0 g h1 with k|k|k;rcases k with k|k;have:=a.imb g k;omega;have:=a.bnd _ _ g m2 k;omega;omega;exact k.no.elim;omega
end Go.Proofs.YtgedmeaemofdkaaGreat
namespace Go.Proofs.YtgedmeaemofdkaaGreat
open Go.Sx
def Z26{l:List Found}{i:Nat}(a:i<l.length):l.take (i+1)=l.take i++[l.getD i La]:=by rw[Xl];simp[a]
def Z0i(l:List Found)(i:Nat):Tg:=⟨tm 19 [(2,.d (.sl 0 [])),(3,.ow 16003),(6,Ey l),(7,int l.length),(8,int i)],[(16003,.arr 35 1 (((l.take i).map (·.addr)).map wdv))],60⟩
def ZdG(l:List Found)(i:Nat)(hl:l.length<=1048576)(b:i<l.length):CP (Zo f157 0) (Z0i l i).st .nrm (Z0i l (i+1)).st:=by
 have e:(l.take (i+1)).map (·.addr)=(l.take i).map (·.addr)++[(l.getD i La).addr]:=by rw[Z26 b,LS];rfl
 have en:((l.take i).map (·.addr)).length<=1048576:=by simp;omega
 let a:=l.getD i La;exact sF [(496016,16003)] (fO 5) (Fh 16 [.els (Ld wdv (Ld (λ(x:Found)=>x.addr) (Lj i l)++[a.addr]))] (Ftb 9 (Le ((i:Int)<(l.length:Int))) (Fek 10 Found.dv l (↑i) i (Fs 15 (Ld wdv [a.addr]) (Fa (by(simp[*];omega):(Ld wdv (Ld (λ(x:Found)=>x.addr) (Lj i l))).length+(Ld wdv [a.addr]).length<=2^30) (Fa (ms:Ld wdv (Ld (λ(x:Found)=>x.addr) (Lj i l))++Ld wdv [a.addr]=Ld wdv (Ld (λ(x:Found)=>x.addr) (Lj i l)++[a.addr])) (Fx 17 i (Fr (35:Int) (Fa (by refine congrArg _ ?_;rw[e]:Ld wdv (Ld (λ(x:Found)=>x.addr) (Lj i l)++[a.addr])=Ld wdv (Ld (λ(x:Found)=>x.addr) (Lj (i+1) l))) Fz)))))))))
def ZgT l:CP (Zo f157 0) (Z0i l l.length).st (.ext 0) (Tg.st ⟨tm 19 [(2,.d (.sl 0 [])),(3,.ow 16003)],[(16003,.arr 35 1 ((l.map (·.addr)).map wdv))],60⟩):=by exact sF [] (fO 2) (Ffb 9 (Le ((l.length:Int)<(l.length:Int))) (Fr (35:Int) (Fa (by refine congrArg _ ?_;refine congrArg _ ?_;simp[LU,L2,L3,LS,wdv,idv]:Ld wdv (Ld (λ(x:Found)=>x.addr) (Lj l.length l))=Ld wdv (Ld (λ(x:Found)=>x.addr) l)) Fz)))
def Zk2(l:List Found)(hl:l.length<=1048576)  := Bw (S:=λj=>(Z0i l j).st) l.length (by kernel_rfl) (λj a=>ZdG l j hl a) (ZgT l)
def Z45(l:List Found)(hl:l.length<=1048576):GP 157 [Ey l] O (Z3 (l.map (·.addr))) []:=by exact gF [] func157 [] (Fh 3 [.own] (Fl 7 Found.dv l (Fu (@Zk2 l aa) (Fa (by exact Hh _:Ck (Ld wdv (Ld (λ(x:Found)=>x.addr) l))) Fz))))
def Ns(h:Heap)(i:Int)(hw:Zx h.W)(hi:-9223372036854775808<=i/\i<=9223372036854775807):GP 134 [h.av,int i] Lb (.tu [Z3 (Zd h i).1,int (Zd h i).2]) []:=by
 cases hp:Z8 h with
 |false =>
  have a:Zd h i=([],1):=by unfold Zd;rw[if_neg (by rw[hp];simp)]
  rw[a];exact gF [] func134 [] (Fh 8 [.br O] (Fc 10 (@Es h) (Fb ((!Z8 h)=O) (Fnl Fz))))
 |true =>
  have po:=B1 hp;by_cases b:0<=i/\i<h.P.length;have a:=Z2N hp b;have el:=PL h i;by_cases e:(BS h i).2=0;rw[show Zd h i=(Ld (λ(x:Found)=>x.addr) (BS h i).1,(0:Int))from by rw[a,e]];exact gF [] func134 [] (Fh 12 [.br Lb] (Fh 29 [.br Lb] (Fc 10 (@Es h) (Fb ((!Z8 h)=Lb) (FlG 19 (!decide (i<0)) Z0.dv h.P (Fb ((Le (i<0)||Le ((h.P.length:Int)<=i))=Lb) (Fc 25 (@PC h i aa aa aa) (Ffb 8 ((BS h i).2 != 0) (Fc 32 (@Z45 ((BS h i).1) oq) Fz)))))))));have c:(BS h i).1=[]:=by(unfold BS at e⊢;split at e;exact absurd rfl e;rename_i d;rw[if_neg d])
  exact gF [] func134 (fO 5) (Fh 8 [.br Lb] (Fh 12 [.br Lb] (Fc 10 (@Es h) (Fb ((!Z8 h)=Lb) (FlG 19 (!decide (i<0)) Z0.dv h.P (Fb ((Le (i<0)||Le ((h.P.length:Int)<=i))=Lb) (Fc 25 (@PC h i aa aa aa) (Ftb 29 ((BS h i).2 != 0) (Fnl (Fa (by rw[a,c];rfl:[]=Ld wdv (Zd h i).1) (Fa (by rw[a]:(BS h i).2=(Zd h i).2) Fz)))))))))));have a:Zd h i=([],2):=by unfold Zd;rw[if_pos hp,if_neg b]
  rw[a];exact gF [] func134 [] (Fh 8 [.br Lb] (Fh 12 [.br O] (Fc 10 (@Es h) (Fb ((!Z8 h)=Lb) (FlG 19 (!decide (i<0)) Z0.dv h.P (Fb ((Le (i<0)||Le ((h.P.length:Int)<=i))=O) (Fnl Fz)))))))
def Dw(h:Heap)(i:Nat)(acc:List Found):Tg:=⟨tm 31 [(1,.pt 8001 0 0),(2,.d (.sl 0 [])),(3,int 0),(4,.ow 24004),(13,int h.P.length),(14,int i)],[(24004,.arr 212 4 (acc.map Found.dv)),(8001,.box 28 h.cells)],60⟩
section
variable (h:Heap) (i:Nat) (acc:List Found) (c:Zx h.W) (b:Z8 h=O) (hl:h.P.length<=1048576) (a:acc.length<=1048576)
include c b hl a
theorem ZeH(hi:i<h.P.length)(e:(BS h i).2=0):CP (Zo f156 0) (Dw h i acc).st .nrm (Dw h (i+1) (acc++(BS h i).1)).st:=by have hn:=PL h i;exact sF [(512028,24004)] [] (Fh 28 [.els (Ld Found.dv (acc++(BS h (i:Int)).1))] (Ftb 15 (Le ((i:Int)<(h.P.length:Int))) (Fc 20 (@PC h ((i:Int)) aa aa oq) (Ffb 24 ((BS h (i:Int)).2 != 0) (Fa (by(simp only[Ly];omega):(Ld Found.dv acc).length+(Ld Found.dv (BS h (i:Int)).1).length<=2^30) (Fa (ms:Ld Found.dv acc++Ld Found.dv (BS h (i:Int)).1=Ld Found.dv (acc++(BS h (i:Int)).1)) (Fx 29 i Fz)))))))
theorem ZeA(hi:i<h.P.length)(e:¬ (BS h i).2=0):CP (Zo f156 0) (Dw h i acc).st .ret (Tg.st ⟨tm 31 [(2,.d (.sl 0 [])),(3,int (BS h i).2)],[],60⟩):=by exact sF [] [] (Ftb 15 (Le ((i:Int)<(h.P.length:Int))) (Fc 20 (@PC h ((i:Int)) aa aa oq) (Ftb 24 ((BS h (i:Int)).2 != 0) Fz)))
omit c b hl a in
theorem ZhS:CP (Zo f156 0) (Dw h h.P.length acc).st (.ext 0) (Tg.st ⟨tm 31 [(2,.d (.sl 0 [])),(3,int 0),(4,.ow 24004)],[(24004,.arr 212 4 (acc.map Found.dv))],60⟩):=by exact sF [] [] (Ffb 15 (Le ((h.P.length:Int)<(h.P.length:Int))) Fz)
end
def Z9v(h:Heap)(d:Zx h.W)(b:Z8 h=O)(hl:h.P.length<=1048576):∀(f i:Nat) (acc:List Found),i+f=h.P.length->acc.length+256*f<=1048576 -> ((CM h f i).2=0->Ga prog f156 0 (Dw h i acc).st (.ext 0) (Tg.st ⟨tm 31 [(2,.d (.sl 0 [])),(3,int 0),(4,.ow 24004)],[(24004,.arr 212 4 ((acc++(CM h f i).1).map Found.dv))],60⟩)) /\ (¬ (CM h f i).2=0->Ga prog f156 0 (Dw h i acc).st .ret (Tg.st ⟨tm 31 [(2,.d (.sl 0 [])),(3,int (CM h f i).2)],[],60⟩)):=by
 intro f;induction f with
 |zero =>
  intro i acc j _;have:i=h.P.length:=by omega
  subst this;refine⟨λ_=>?_,λe=>absurd rfl e⟩;rw[CM,L0];exact .endx (ZhS h acc)
 |succ f m =>
  intro i acc j hb;have hn:=PL h i;unfold CM;by_cases e:(BS h i).2=0;rw[if_pos e];have c:=ZeH h i acc d b hl oq oq e;obtain⟨k,l⟩:=m (i+1) (acc++(BS h i).1) oq qo;by_cases a:(CM h f (i+1)).2=0
  .rw[if_pos a];refine⟨λ_=>?_,λe=>absurd rfl e⟩;have:=k a;rw[List.append_assoc]at this;exact .next c this
  rw[if_neg a];exact⟨λe=>absurd e a,λ_=>.next c (l a)⟩;rw[if_neg e];exact⟨λg=>absurd g e,λ_=>.endr (ZeA h i acc d b hl oq oq e)⟩
def ZdT(h:Heap)(b:Zx h.W)(a:Z8 h=O)(hl:h.P.length<=64)(e:(CM h h.P.length 0).2=0):CP (Zk f156 0) (Tg.st ⟨tm 31 [(1,.pt 8001 0 0),(2,.d (.sl 0 [])),(3,int 0),(4,.ow 24004),(13,int h.P.length),(14,int 0)],[(24004,.arr 212 4 []),(8001,.box 28 h.cells)],60⟩) .nrm (Tg.st ⟨tm 31 [(2,.d (.sl 0 [])),(3,int 0),(4,.ow 24004)],[(24004,.arr 212 4 ((CM h h.P.length 0).1.map Found.dv))],60⟩):=
 ((Z9v h b a oq h.P.length 0 [] oq qo).1 e).ext kr
def ZcY(h:Heap)(b:Zx h.W)(a:Z8 h=O)(hl:h.P.length<=64)(e:¬ (CM h h.P.length 0).2=0):CP (Zk f156 0) (Tg.st ⟨tm 31 [(1,.pt 8001 0 0),(2,.d (.sl 0 [])),(3,int 0),(4,.ow 24004),(13,int h.P.length),(14,int 0)],[(24004,.arr 212 4 []),(8001,.box 28 h.cells)],60⟩) .ret (Tg.st ⟨tm 31 [(2,.d (.sl 0 [])),(3,int (CM h h.P.length 0).2)],[],60⟩):=
 ((Z9v h b a oq h.P.length 0 [] oq qo).2 e).ret kr
def ZbG(h:Heap)(hw:Zx h.W)(e:(CB h).2=0):GP 156 [h.av] O (.tu [.ow 0,int 0]) [.arr 212 4 ((CB h).1.map Found.dv)]:=by
 have a:Z8 h=O:=by(unfold CB at e;split at e;assumption;simp at e)
 have po:=B1 a;have b:CB h=CM h h.P.length 0:=by rw[CB,if_pos a]
 rw[b]at e⊢;exact gF [24004] func156 [] (Fh 4 [.own] (Fc 9 (@Es h) (Ffb 10 (!Z8 h) (Fl 13 Z0.dv h.P (Fu (@ZdT h aa aa oq aa) (Fa (by exact Z07 _:Ck (Ld Found.dv (CM h h.P.length 0).1)) Fz))))))
def Zcv(h:Heap)(hw:Zx h.W)(e:¬ (CB h).2=0):GP 156 [h.av] O (.tu [Ey [],int (CB h).2]) []:=by
 cases hp:Z8 h with
 |false =>
  have a:CB h=([],1):=by rw[CB,if_neg (by rw[hp];simp)]
  refine Zc [((9:Nat),[Hint.call O (Sx.bool (Z8 h)) []]),((10:Nat),[Hint.br O])] [] [] dd func156 [O] (φ:=GP 94 [h.av] O (Sx.bool (Z8 h)) []/\(!Z8 h)=O/\O=O/\([]:List (List DV))=[]/\[]=Ld Found.dv []/\(1:Int)=(CB h).2) ?_ kr kr;exact⟨(@Es (h)),(by(simp only[bs];omega)),rfl,rfl,rfl,(by rw[a])⟩
 |true =>
  have po:=B1 hp;have a:CB h=CM h h.P.length 0:=by rw[CB,if_pos hp]
  rw[a]at e⊢;refine Zc [((9:Nat),[Hint.call O (Sx.bool (Z8 h)) []]),((10:Nat),[Hint.br Lb]),((4:Nat),[Hint.own]),((13:Nat),[Hint.int (h.P.length:Int)])] [((0:Nat),Tg.mk (tm (31:Nat) [((1:Nat),AV.pt (8001:Nat) (0:Nat) (0:Nat)),((2:Nat),AV.d (DV.sl (0:Nat) [])),((3:Nat),int (0:Int)),((4:Nat),AV.ow (24004:Nat)),((13:Nat),int (h.P.length:Int)),((14:Nat),int (0:Int))]) [((24004:Nat),Z4.arr 212 (4:Nat) []),((8001:Nat),Z4.box 28 h.cells)] (60:Nat),Ex.ret,Tg.mk (tm (31:Nat) [((2:Nat),AV.d (DV.sl (0:Nat) [])),((3:Nat),int (CM h h.P.length (0:Nat)).2)]) [] (60:Nat))] [] dd func156 [] (φ:=GP 94 [h.av] O (Sx.bool (Z8 h)) []/\(!Z8 h)=Lb/\Lb=Lb/\(↑(Ld Z0.dv h.P).length:Int)=(h.P.length:Int)/\CP (Zk f156 (0:Nat)) (Tg.mk (tm (31:Nat) [((1:Nat),AV.pt (8001:Nat) (0:Nat) (0:Nat)),((2:Nat),AV.d (DV.sl (0:Nat) [])),((3:Nat),int (0:Int)),((4:Nat),AV.ow (24004:Nat)),((13:Nat),int (h.P.length:Int)),((14:Nat),int (0:Int))]) [((24004:Nat),Z4.arr 212 (4:Nat) []),((8001:Nat),Z4.box 28 h.cells)] (60:Nat)).st Ex.ret (Tg.mk (tm (31:Nat) [((2:Nat),AV.d (DV.sl (0:Nat) [])),((3:Nat),int (CM h h.P.length (0:Nat)).2)]) [] (60:Nat)).st/\([]:List (List DV))=[]) ?_ kr kr;exact⟨(@Es (h)),(by(simp only[bs];omega)),rfl,(by simp only[Ly]),(@ZcY (h) aa aa oq aa),rfl⟩
def En(f:Found):Bool:=!(f.hd.K==0)
def PS(x:Found):GP 159 [x.av] O (bool (x.hd.K==0)) []:=by exact gF [] func159 [] Fz
def Cm(l:List Found):Nat:=(l.takeWhile En).length
def Z0w{l}{m:Nat}(h:m<Cm l):m<l.length/\((l.getD m La).hd.K==0)=Lb:=by obtain⟨a,b⟩:=Af _ _ _ h;refine⟨a, ?_⟩;rw[Lx,Xf a];simpa[En]using b
def Z4g{l:List Found}(h:Cm l<l.length):((l.getD (Cm l) La).hd.K==0)=O:=by
 have a:=AA En l h;have b:l.getD (Cm l) La=l[(l.takeWhile En).length]:=by(rw[Lx,Xf h];rfl)
 rw[b];simpa[En]using a
def GD(l:List Found):Int:=if Cm l<l.length then Cm l else -1
def DF(l:List Found)(i:Nat):Tg:=⟨tm 19 [(0,Ey l),(1,.fn 159 []),(4,int 0),(7,int l.length),(8,int i)],[],60⟩
def Z7b(l:List Found)(i:Nat)(hl:l.length<=1048576)(hi:i<l.length)(e:((l.getD i La).hd.K==0)=Lb):CP (Zo f200 0) (DF l i).st .nrm (DF l (i+1)).st:=by exact sF [] [] (Fh 16 [.call O (Sx.bool ((l.getD i La).hd.K==0)) [],.br Lb] (Ftb 9 (Le ((i:Int)<(l.length:Int))) (Fek 14 Found.dv l (↑i) i (Fa (@PS (l.getD i La)) (Fa ‹((l.getD i La).hd.K==0)=Lb› (Fx 18 i Fz))))))
def Zep(l:List Found)(i:Nat)(hl:l.length<=1048576)(hi:i<l.length)(e:((l.getD i La).hd.K==0)=O):CP (Zo f200 0) (DF l i).st .ret (Tg.st ⟨tm 19 [(4,int i)],[],60⟩):=by exact sF [] [] (Fh 16 [.call O (Sx.bool ((l.getD i La).hd.K==0)) [],.br O] (Ftb 9 (Le ((i:Int)<(l.length:Int))) (Fek 14 Found.dv l (↑i) i (Fa (@PS (l.getD i La)) (Fa ‹((l.getD i La).hd.K==0)=O› Fz)))))
def Zba l:CP (Zo f200 0) (DF l l.length).st (.ext 0) (Tg.st ⟨tm 19 [(4,int 0)],[],60⟩):=by exact sF [] [] (Ffb 9 (Le ((l.length:Int)<(l.length:Int))) Fz)
def ZjN(l:List Found)(hl:l.length<=1048576)(h:¬ Cm l<l.length)  := Bw (S:=λj=>(DF l j).st) l.length (by kernel_rfl) (λj a=>Z7b l j hl a (Z0w (by omega)).2) (Zba l)
def Zgl(l:List Found)(hl:l.length<=1048576)(h:Cm l<l.length)  := G5 (S:=λj=>(DF l j).st) (Cm l) (by kernel_rfl) (λj a=>Z7b l j hl (by omega) (Z0w a).2) (Zep l (Cm l) hl h (Z4g h))
def Z4o(l:List Found)(hl:l.length<=1048576):GP 200 [Ey l,.fn 159 []] O (int (GD l)) []:=by by_cases h:Cm l<l.length;have a:GD l=Cm l:=if_pos h;rw[a];exact gF [] func200 [] (Fl 7 Found.dv l (Fu (@Zgl l aa aa) Fz));have a:GD l=-1:=if_neg h;rw[a];exact gF [] func200 [] (Fl 7 Found.dv l (Fu (@ZjN l aa aa) Fz))
def B9(l:List Found)(a:Nat):Nat->List Found×Nat|0=>(l,a)|m+1=>if En ((B9 l a m).1.getD (a+1+m) La)=O then((B9 l a m).1.set (B9 l a m).2 ((B9 l a m).1.getD (a+1+m) La),(B9 l a m).2+1)else B9 l a m
def Z3b{l:List Found}{a}(n:(l.take a).filter En=l.take a)(o:a<l.length)(f:En (l.getD a La)=Lb):∀m,a+1+m<=l.length -> (B9 l a m).1.length=l.length/\(B9 l a m).2<=a+m/\(∀k,a+1+m<=k->(B9 l a m).1.getD k La=l.getD k La)/\(B9 l a m).1.take (B9 l a m).2=(l.take (a+1+m)).filter En
 |0,_=>by
  refine⟨rfl,Lr _,λ_ _=>rfl, ?_⟩;show l.take a=(l.take (a+1)).filter En;rw[Z26 o,Xd,n];generalize l.getD a La=y at f⊢;simp[f]
 |m+1,hm=>by
  obtain⟨a1,a2,c,j⟩:=Z3b n o f m oq;have e:=c (a+1+m) (Lr _);have p:l.take (a+1+(m+1))=l.take (a+1+m)++[l.getD (a+1+m) La]:=Z26 (l:=l) (i:=a+1+m) (show a+1+m<l.length by omega);unfold B9;rw[e,p,Xd];generalize hd:B9 l a m=d at *;by_cases b:En (l.getD (a+1+m) La)=O
  .rw[if_pos b];refine⟨by simp[a1],by simp only;omega,λk g=>?_, ?_⟩
   .simp only;rw[Lx,List.getElem?_set_ne oq,<-Lx];exact c k oq
   .have h:d.2<d.1.length:=by omega
    simp only;rw[<-j,Xl,List.take_set_of_le oq];generalize l.getD (a+1+m) La=y at b⊢;simp[b,h]
  .rw[if_neg b];refine⟨a1,by omega,λk g=>c k oq, ?_⟩;rw[j];generalize l.getD (a+1+m) La=y at b⊢;simp[b]
def Z8R(l:List Found):(l.take (Cm l)).filter En=l.take (Cm l):=by rw[Xe];intro x c;obtain⟨k,a⟩:=Xg c;rw[List.getElem?_take]at a;split at a;rename_i b;have:=(Z0w b).2;rw[Lx,a]at this;simpa[En]using this;cases a
def Z3K{l:List Found}(h:Cm l<l.length):En (l.getD (Cm l) La)=Lb:=by have:=Z4g h;show(!((l.getD (Cm l) La).hd.K==0))=Lb;rw[this];rfl
def Z95{l:List Found}(h:Cm l<l.length):(B9 l (Cm l) (l.length-Cm l-1)).1.take (B9 l (Cm l) (l.length-Cm l-1)).2=l.filter En/\(B9 l (Cm l) (l.length-Cm l-1)).1.length=l.length/\(B9 l (Cm l) (l.length-Cm l-1)).2<=l.length:=by have b:=Z8R l;have c:=Z3K h;obtain⟨a1,a2,a3,a⟩:=Z3b b h c (l.length-Cm l-1) oq;refine⟨?_,a1,by omega⟩;rw[a,show Cm l+1+(l.length-Cm l-1)=l.length from by omega,List.take_length]
def Zdd{l:List Found}(h:¬ Cm l<l.length):l.filter En=l:=by rw[Xe];intro x c;obtain⟨k,a⟩:=Xg c;have b:k<l.length:=(L1.1 a).1;have:=(Z0w (l:=l) (m:=k) oq).2;rw[Lx,a]at this;simpa[En]using this
def Zaf(l:List Found)(hl:l.length<=1048576)(h:¬ Cm l<l.length):CP (Hj f158) (Tg.st ⟨tm 42 [(0,.ow 0),(1,.fn 159 [])],[(0,.arr 212 4 (l.map Found.dv))],1⟩) .ret (Tg.st ⟨tm 42 [(4,.ow 0)],[(0,.arr 212 4 (l.map Found.dv))],60⟩):=by have e7:GD l=-1:=if_neg h;exact sF [] [] (Fc 10 (@Z4o l aa) (Ftb 12 (GD l==(-1:Int)) Fz))
def Da(l:List Found)(a m:Nat):Tg:=⟨tm 42 [(0,.ow 0),(1,.fn 159 []),(5,int (B9 l a m).2),(6,int (a+1+m:Nat))],[(0,.arr 212 4 ((B9 l a m).1.map Found.dv))],60⟩
section
variable (l:List Found) (i0 m:Nat) (hl:l.length<=1048576) (h1:(B9 l i0 m).1.length=l.length) (h2:(B9 l i0 m).2<=i0+m)
include hl h1 h2
theorem Z9Y(hm:i0+1+m<l.length)(b:(((B9 l i0 m).1.getD (i0+1+m) La).hd.K==0)=Lb):CP (Zo f158 0) (Da l i0 m).st .nrm (Da l i0 (m+1)).st:=by
 have a:B9 l i0 (m+1)=((B9 l i0 m).1.set (B9 l i0 m).2 ((B9 l i0 m).1.getD (i0+1+m) La),(B9 l i0 m).2+1):=by(rw[B9,if_pos (by unfold En;rw[b];rfl)])
 have c:¬ ((B9 l i0 m).1.getD ((i0+1+m:Nat):Int).toNat La).hd.K=0:=by rw[LZ];simpa using b
 exact sF [] [Lb,Lb,O,Lb,O] (Fh 10033 [.els (Ld Found.dv ((B9 l i0 m).1.set (↑(B9 l i0 m).2:Int).toNat ((B9 l i0 m).1.getD (↑(i0+1+m):Int).toNat La)))] (Fl 18 Found.dv (B9 l i0 m).1 (Ftb 19 (Le ((↑(i0+1+m):Int)<(↑(B9 l i0 m).1.length:Int))) (Fmq 25 Found.dv ((B9 l i0 m).1) (↑(i0+1+m):Int) (Fc 28 (@PS ((B9 l i0 m).1.getD (↑(i0+1+m):Int).toNat La)) (Ftb 29 (!((B9 l i0 m).1.getD (↑(i0+1+m):Int).toNat La).hd.K==0) (Fa (by(simp only[Ly];omega):0<=(↑(B9 l i0 m).2:Int)/\(↑(B9 l i0 m).2:Int).toNat<(Ld Found.dv (B9 l i0 m).1).length) (Fa (by(simp only[Ly];omega):(↑(B9 l i0 m).2:Int).toNat<(Ld Found.dv (B9 l i0 m).1).length) (Fa (by rw[L3];rfl:(Ld Found.dv (B9 l i0 m).1).set (↑(B9 l i0 m).2:Int).toNat [B2 ((B9 l i0 m).1.getD (↑(i0+1+m):Int).toNat La).addr,Zn ((B9 l i0 m).1.getD (↑(i0+1+m):Int).toNat La).hd.K,Zn ((B9 l i0 m).1.getD (↑(i0+1+m):Int).toNat La).hd.length,DV.sc (LA Lw ((B9 l i0 m).1.getD (↑(i0+1+m):Int).toNat La).hd.map)]=Ld Found.dv ((B9 l i0 m).1.set (↑(B9 l i0 m).2:Int).toNat ((B9 l i0 m).1.getD (↑(i0+1+m):Int).toNat La))) (Fw 35 ((↑(B9 l i0 m).2:Int)+1) (↑((B9 l i0 m).2+1):Int) (Fw 21 ((↑(i0+1+m):Int)+1) (↑(i0+1+m+1):Int) (Fa (by rw[a]:(↑((B9 l i0 m).2+1):Int)=(↑(B9 l i0 (m+1)).2:Int)) (Fr (212:Int) (Fa (by refine congrArg _ ?_;rw[a];rfl:Ld Found.dv ((B9 l i0 m).1.set (↑(B9 l i0 m).2:Int).toNat ((B9 l i0 m).1.getD (↑(i0+1+m):Int).toNat La))=Ld Found.dv (B9 l i0 (m+1)).1) Fz))))))))))))))
theorem Zd1(hm:i0+1+m<l.length)(hk:(((B9 l i0 m).1.getD (i0+1+m) La).hd.K==0)=O):CP (Zo f158 0) (Da l i0 m).st .nrm (Da l i0 (m+1)).st:=by
 have e7:B9 l i0 (m+1)=B9 l i0 m:=by(rw[B9,if_neg (by unfold En;rw[hk];simp)])
 have hk2:((B9 l i0 m).1.getD ((i0+1+m:Nat):Int).toNat La).hd.K=0:=by rw[LZ];simpa using hk
 let y0:=(B9 l i0 m).1.getD (↑(i0+1+m):Int).toNat La;exact sF [] [Lb,Lb,O,Lb,O] (Fl 18 Found.dv (B9 l i0 m).1 (Ftb 19 (Le ((↑(i0+1+m):Int)<(↑(B9 l i0 m).1.length:Int))) (Fmq 25 Found.dv ((B9 l i0 m).1) (↑(i0+1+m):Int) (Fc 28 (@PS y0) (Ffb 29 (!y0.hd.K==0) (Fw 21 ((↑(i0+1+m):Int)+1) (↑(i0+1+m+1):Int) (Fa (by rw[e7]:(↑(B9 l i0 m).2:Int)=(↑(B9 l i0 (m+1)).2:Int)) (Fr (212:Int) (Fa (by refine congrArg _ ?_;rw[e7]:Ld Found.dv (B9 l i0 m).1=Ld Found.dv (B9 l i0 (m+1)).1) Fz)))))))))
theorem ZjX(hm:i0+1+m=l.length):CP (Zo f158 0) (Da l i0 m).st (.ext 0) (Tg.st ⟨tm 42 [(0,.ow 0),(5,int (B9 l i0 m).2)],[(0,.arr 212 4 ((B9 l i0 m).1.map Found.dv))],60⟩):=by exact sF [] [] (Fl 18 Found.dv (B9 l i0 m).1 (Ffb 19 (Le ((↑(i0+1+m):Int)<(↑(B9 l i0 m).1.length:Int))) Fz))
end
def BR(l:List Found):List Found×Nat:=B9 l (Cm l) (l.length-Cm l-1)
def ZgK(l:List Found)(hl:l.length<=1048576)(h:Cm l<l.length):CP (Zk f158 0) (Tg.st ⟨tm 42 [(0,.ow 0),(1,.fn 159 []),(5,int (GD l)),(6,int (GD l+1))],[(0,.arr 212 4 (l.map Found.dv))],60⟩) .nrm (Tg.st ⟨tm 42 [(0,.ow 0),(5,int (BR l).2)],[(0,.arr 212 4 ((BR l).1.map Found.dv))],60⟩):=by
 rw[show GD l=Cm l from if_pos h];have c:(l.take (Cm l)).filter En=l.take (Cm l):=Z8R l;have d:En (l.getD (Cm l) La)=Lb:=Z3K h;have a:=λm e=>Z3b c h d m e;have:=Bw (S:=λj=>(Da l (Cm l) j).st) (l.length-Cm l-1) kr (λj hj=>by
  obtain⟨a1,b,a3,a4⟩:=a j oq;cases hk:(((B9 l (Cm l) j).1.getD (Cm l+1+j) La).hd.K==0)with
  |false=>exact Z9Y l (Cm l) j hl a1 b oq hk
  |true=>exact Zd1 l (Cm l) j hl a1 b oq hk) (ZjX l (Cm l) _ hl (a _ oq).1 (a _ oq).2.1 oq)
 exact this
def ZiG(l:List Found)(hl:l.length<=1048576)(h:Cm l<l.length):CP (Hj f158) (Tg.st ⟨tm 42 [(0,.ow 0),(1,.fn 159 [])],[(0,.arr 212 4 (l.map Found.dv))],1⟩) .ret (Tg.st ⟨tm 42 [(4,.os 0 0 (BR l).2)],[(0,.arr 212 4 (((BR l).1.take (BR l).2++Lg ((BR l).1.length-(BR l).2) HI).map Found.dv))],60⟩):=by have e7:GD l=Cm l:=if_pos h;obtain⟨d1,d2,d3⟩:=Z95 h;have d4:(BR l).1.length=l.length:=d2;have d5:(BR l).2<=l.length:=d3;exact sF [] (fO 6) (Fh 20000 [.els (Ld Found.dv (Lj (↑(BR l).2:Int).toNat (BR l).1++Lg ((↑(Ld Found.dv (BR l).1).length:Int).toNat-(↑(BR l).2:Int).toNat) (Found.mk 0 (Zy.mk 0 0 0))++LR ((↑(BR l).2:Int).toNat+(Lg ((↑(Ld Found.dv (BR l).1).length:Int).toNat-(↑(BR l).2:Int).toNat) (Found.mk 0 (Zy.mk 0 0 0))).length) (BR l).1))] (Fc 10 (@Z4o l aa) (Ffb 12 (GD l==(-1:Int)) (Fi 15 (GD l+1) (Fu (@ZgK l aa aa) (Fa (by(simp only[Ly];omega):0<=(↑(BR l).2:Int)/\(↑(BR l).2:Int)<=(↑(Ld Found.dv (BR l).1).length:Int)) (Fa (by simp only[Ca,LS,LU,L2,List.map_replicate,Xh];rfl:Ca (Ld Found.dv (BR l).1) (↑(BR l).2:Int).toNat (Lg ((↑(Ld Found.dv (BR l).1).length:Int).toNat-(↑(BR l).2:Int).toNat) [B2 0,Zn 0,Zn 0,DV.sc (LA Lw 0)])=Ld Found.dv (Lj (↑(BR l).2:Int).toNat (BR l).1++Lg ((↑(Ld Found.dv (BR l).1).length:Int).toNat-(↑(BR l).2:Int).toNat) (Found.mk 0 (Zy.mk 0 0 0))++LR ((↑(BR l).2:Int).toNat+(Lg ((↑(Ld Found.dv (BR l).1).length:Int).toNat-(↑(BR l).2:Int).toNat) (Found.mk 0 (Zy.mk 0 0 0))).length) (BR l).1)) (Fa (by simp[*]:0<=(↑(BR l).2:Int)/\(↑(BR l).2:Int)<=(↑(Ld Found.dv (Lj (↑(BR l).2:Int).toNat (BR l).1++Lg ((↑(Ld Found.dv (BR l).1).length:Int).toNat-(↑(BR l).2:Int).toNat) (Found.mk 0 (Zy.mk 0 0 0))++LR ((↑(BR l).2:Int).toNat+(Lg ((↑(Ld Found.dv (BR l).1).length:Int).toNat-(↑(BR l).2:Int).toNat) (Found.mk 0 (Zy.mk 0 0 0))).length) (BR l).1)).length:Int)) (Fr (212:Int) (Fa (by refine congrArg _ ?_;simp only[LZ,Ly,Xh];rw[List.drop_of_length_le oq,L0];rfl:Ld Found.dv (Lj (↑(BR l).2:Int).toNat (BR l).1++Lg ((↑(Ld Found.dv (BR l).1).length:Int).toNat-(↑(BR l).2:Int).toNat) (Found.mk 0 (Zy.mk 0 0 0))++LR ((↑(BR l).2:Int).toNat+(Lg ((↑(Ld Found.dv (BR l).1).length:Int).toNat-(↑(BR l).2:Int).toNat) (Found.mk 0 (Zy.mk 0 0 0))).length) (BR l).1)=Ld Found.dv (Lj (BR l).2 (BR l).1++Lg ((BR l).1.length-(BR l).2) HI)) Fz))))))))))
def ZdJ(h:Heap)(hw:Zx h.W)(e:(CB h).2=0):Sa prog 4 (Hj f107) (Tg.st ⟨tm 17 [(0,h.av)],[],1⟩) (Tg.st ⟨tm 17 [(4,.ow 17008)],[(17008,.arr 212 4 ((CB h).1.map Found.dv))],20⟩):=by refine Ar [((8:Nat),[Hint.call O (AV.tu [AV.ow (0:Nat),int (0:Int)]) [Z4.arr 212 (4:Nat) (Ld Found.dv (CB h).1)]])] [] [] (φ:=GP 156 [h.av] O (AV.tu [AV.ow (0:Nat),int (0:Int)]) [Z4.arr 212 (4:Nat) (Ld Found.dv (CB h).1)]) ?_ kr kr kr kr;exact(@ZbG (h) aa aa)
def ZeU(h:Heap)(hw:Zx h.W)(e:¬ (CB h).2=0):GP 107 [h.av] O (.tu [Z3 [],int (CB h).2]) []:=by exact gF [] func107 [] (Fc 8 (@Zcv h aa aa) (Ftb 12 ((CB h).2 != 0) (Fnl Fz)))
end Go.Proofs.YtgedmeaemofdkaaGreat
namespace Go.Proofs.YtgedmeaemofdkaaGreat
open Go.Sx Go.RowKit
def ZjE{Ow Im0 w0 ρ w Im H clk x v}{s:Nat}{els:List (List DV)}{β:Bi}(I:Sx.Inv Ow Im0 w0 ρ w Im H clk)(hx:Zi ρ w Im x v)(h:ES H x=M (s,els))(d:∀a n c,v=.slice (M a) n c->n≠0->β.g=M a.block):CK w (λg=>Im g\/β.g=M g) (.sl s els) v:=by
 obtain⟨p,c,rfl,j,m,t,b⟩:=An I hx h;by_cases f:els=[];subst f;exact .slNil _ _ _;rcases b with b|⟨q,rfl,hq,b⟩;exact absurd b f;have z:els.length≠0:=by simpa using f
 refine .sl s els q els.length c (λi o=>(w.cell? ⟨q.block,q.off+(i*s+o),Lc⟩).getD undef) rfl m j (t f) hq (.inr (d q _ c rfl z)) ?_ ?_;intro i e o y k l;obtain⟨u,k1,_⟩:=b i e o y k l;rw[k1];rfl;intro i e o y k l;obtain⟨u,k1,k2⟩:=b i e o y k l;rw[k1];exact k2.mono (Sx.Ext.refl _ _) (λg r=>.inl r)
def R6(β:Bi):ZM:=λb=>if b=0 then M β else Lc
def MU{β κ:Bi}{b:Nat}(h:R6 β b=M κ):b=0/\κ=β:=by unfold R6 at h;split at h;cases h;exact⟨aa,rfl⟩;cases h
def Z2K{β g}(h:OwA (GU (R6 β)) g):β.g=M g:=by obtain⟨b,κ,c,a⟩:=h;rw[(MU c).2]at a;exact a
def ZdA(l:List Found)(hl:l.length<=1048576){w:World}{Im:Nat->Prop}{β v}(a0:∀g,Im g->g<w.heap.size)(hB:RelB (R6 β) w Im β (.arr 212 4 (l.map Found.dv)))(r:∀g,β.g=M g->g<w.heap.size/\¬ Im g)(hv:Zi (R6 β) w Im (.ow 0) v):Calls prog 158 #[v,.func (.func 159) #[] #[]] w λe w'=>∃u,∃Im':Nat->Prop,e=.returned u/\Kept (λg=>β.g=M g) w w' /\ (∀g,Im' g->(Im g\/β.g=M g\/w.heap.size<=g)/\g<w'.heap.size)/\CK w' Im' (.sl 4 ((l.filter En).map Found.dv)) u:=by
 refine calls_of_wp func158 (c:=Hj f158) kr ?_;have I0:Sx.Inv (GU (R6 β)) Im w (R6 β) w Im (BW [(0,.arr 212 4 (l.map Found.dv))]) 1:=by(refine⟨Kept.refl _ _,λb b' κ κ' g _ _ p f _ _=>by rw[(MU p).1,(MU f).1],λb κ g _ p f=>?_,λb κ g p f=>?_,λb κ g p f=>?_,a0,λg h=>.inl h,λb B q=>?_,λb hb _=>?_,⟨Lr _,λ_ _ _ h=>h⟩⟩;rw[(MU p).2]at f;exact(r g f).2;rw[(MU p).2]at f;exact(r g f).1;exact .inr ⟨b,κ,p,f⟩;simp only[BW]at q;split at q;rename_i hb;cases q;subst hb;exact⟨β,rfl,hB⟩;cases q;unfold R6;rw[if_neg oq])
 have S:Sx.Sys (GU (R6 β)) Im w (tm 42 [(0,.ow 0),(1,.fn 159 [])]) (BW [(0,.arr 212 4 (l.map Found.dv))]) 1 {tmps:=#[v,.func (.func 159) #[] #[]]++LC (Tryz.f158.ntmps-(#[v,.func (.func 159) #[] #[]]:Array Value).size) undef,defers:=[]} w:=by(refine⟨_,Im,I0,⟨by kernel_rfl,λk y u hy hu=>?_,rfl⟩⟩;rw[show tm 42 [(0,.ow 0),(1,.fn 159 [])]=[.ow 0,.fn 159 []]++Lg 40 .any from by kernel_rfl,LI]at hy;rw[LB]at hu;split at hy;rename_i hk;have a1:k<2:=hk;rw[if_pos (show k<(#[v,.func (.func 159) #[] #[]]:Array Value).size from a1)]at hu;rcases k with _|_|k;cases hy;cases hu;exact hv;cases hy;cases hu;exact .fn rfl (λi a v h=>by simp at h);omega;have:=Lo hy;rw[(Ls.1 this).2];exact .any _)
 have fin:∀(x:AV) (els:List (List DV)) (L:List (List DV)) (t:Nat) (d:Act) (w':World),Sx.Sys (GU (R6 β)) Im w (tm 42 [(4,x)]) (BW [(0,.arr 212 4 els)]) t d w'->(tm 42 [(4,x)]).getD 4 .any=x->(x=.ow 0\/∃o n,x=.os 0 o n)->ES (BW [(0,.arr 212 4 els)]) x=M (4,L)->L=(l.filter En).map Found.dv ->
   bodyPost prog f158 (λe w'=>∃u,∃Im':Nat->Prop,e=.returned u/\Kept (λg=>β.g=M g) w w'/\(∀g,Im' g->(Im g\/β.g=M g\/w.heap.size<=g)/\g<w'.heap.size)/\CK w' Im' (.sl 4 ((l.filter En).map Found.dv)) u) .ret d w':=by
  rintro x els L t d w' ⟨ρ,Im',I,T⟩ hx4 hx hc hL;refine bodyPost_ret (results_tmp rfl _ _ _) T.defers ?_;have s:Zi ρ w' Im' x (d.tmps.getD 4 undef):=by
   have:=E4 T (.tmp 4);rw[show ev (tm 42 [(4,x)]) (.tmp 4)=(tm 42 [(4,x)]).getD 4 .any from rfl,hx4]at this;exact this
  generalize d.tmps.getD 4 undef=u at s;obtain⟨κ,k1,k2⟩:=I.blk 0 _ rfl;have hκ:∀g,κ.g=M g->w.heap.size<=g\/β.g=M g:=λg h=>(I.own 0 κ g k1 h).imp (·.1) Z2K;refine⟨u,λg=>Im' g\/κ.g=M g,rfl,I.kept.imp λ_ q=>Z2K q,λg h=>?_, ?_⟩
  .rcases h with h|h
   .refine⟨?_,I.imb g h⟩;rcases I.im0 g h with q|q|q
    .exact .inl q
    .exact .inr (.inr q)
    .exact .inr (.inl (Z2K q))
   .refine⟨?_,I.bnd 0 κ g k1 h⟩;rcases hκ g h with q|q
    .exact .inr (.inr q)
    .exact .inr (.inl q)
  .rw[<-hL];refine ZjE I s hc λa n c hv hn=>?_;subst hv;rcases hx with rfl|⟨o,m,rfl⟩
   .generalize j:Xq (M a) n c=vv at s;cases s with
    |ow z h2 h3 h4 =>
     injection j with e1 e2 e3;rw[k1]at z;cases z;rcases h4 with h4|⟨g,r,e,_⟩
     .omega
     .rw[<-e1]at e;cases e;exact r
   .generalize j:Xq (M a) n c=vv at s;cases s with
    |os z h2 h3 h4 h5 =>
     injection j with e1 e2 e3;rw[k1]at z;cases z;rcases h5 with h5|⟨g,r,e,_⟩
     .omega
     .rw[<-e1]at e;cases e;exact r
 by_cases h:Cm l<l.length;refine wp_mono (ZiG l hl h _ _ _ _ _ S) ?_;rintro e d w' ⟨rfl,S1⟩;obtain⟨d1,d2,d3⟩:=Z95 h;refine fin (.os 0 0 (BR l).2) _ _ _ d w' S1 rfl (.inr ⟨_,_,rfl⟩) rfl ?_;have d5:(BR l).2<=(BR l).1.length:=by have:(BR l).1.length=l.length:=d2;have:(BR l).2<=l.length:=d3;omega
 rw[List.drop_zero,<-LU,List.take_append_of_le_length (by rw[List.length_take];omega),List.take_take,Nat.min_self];exact congrArg _ d1;refine wp_mono (Zaf l hl h _ _ _ _ _ S) ?_;rintro e d w' ⟨rfl,S1⟩;refine fin (.ow 0) _ _ _ d w' S1 rfl (.inl rfl) rfl ?_;rw[Zdd h]
def Z1Y{P:Program}{o:Oper}{a:Act}{w:World}{x:Operand}(b:o.op=.assign x):(execOp a.eval o).run P w=.ok (.value (a.eval x)) w:=by simp[execOp,b]
def Z68{P:Program}{o:Oper}{a:Act}{w:World}{x:Operand}(b:o.op=.move x):(execOp a.eval o).run P w=.ok (.value (a.eval x)) w:=by simp[execOp,b]
def Zdu(h:Heap)(hw:Zx h.W)(e:(CB h).2=0):GP 107 [h.av] O (.tu [Z3 (((CB h).1.filter En).map (·.addr)),int 0]) []:=by
 intro b0 Im vs c3 b8 a7;rw[<-callsIn_wide (n:=10)];refine callsIn_of_wp func107 (c:=Hj f107) kr trivial ?_ rfl;have b7:vs.size=1:=b8;have S0:Sx.Sys G7 Im b0 (tm 17 [(0,h.av)]) (BW []) 1 {tmps:=vs++LC (Tryz.f107.ntmps-vs.size) undef,defers:=[]} b0:=by(refine⟨_,Im,Sx.Inv.empty c3 (Lr 1),⟨by rw[b7];simp[b7];kernel_rfl,λk y v hy hv=>?_,rfl⟩⟩;rw[show tm 17 [(0,h.av)]=[h.av]++Lg 16 .any from by kernel_rfl,LI]at hy;rw[LB]at hv;split at hy;rename_i hk;rw[if_pos (by rw[b8];exact hk)]at hv;exact a7 k y v hy hv;have:=Lo hy;rw[(Ls.1 this).2];exact .any _)
 generalize hR:(λe w'=>∃v,e=Ending.returned v/\RB b0 Im O (AV.tu [Z3 (((CB h).1.filter En).map (·.addr)),int 0]) [] v w')=R;generalize hQ:bodyPost prog f107 R=Q;refine ZdJ h hw e 10 Q _ _ _ _ _ S0 ?_;rintro a1 w1 ⟨ρ1,b9,I1,T1⟩;obtain⟨v4,t4,r4⟩:=T1.at (t:=4) (x:=.ow 17008) rfl;obtain⟨β,m,n⟩:=I1.blk 17008 _ rfl;have c8:a1.tmps.size=17:=T1.size;have er:rest prog 10 4 (Hj f107) Q a1 w1=(LD 4 (BL f107 4) Lb).wpIn Lf 10 prog (Exit.then (Xb.wpIn Lf 10 prog Q) Q) a1 w1:=by kernel_rfl
 rw[er];refine wpIn_region ?_;rw[show Lp (BL f107 4).size=[0,1,2,3,4]from by kernel_rfl];refine IQ (o:=(BL f107 4).getD 0 La) kr kr (Iv (ro:=Lc) (by intro c h;cases h) (Sn (Z68 (x:=.tmp 4) kr) ?_));rw[show((BL f107 4).getD 0 La).dst=M 14 from by kernel_rfl,HX t4];generalize a5:a1.put (M 14) v4=a2;have d2:a2.tmps[14]?=M v4:=by rw[<-a5];exact SP oq
 have c9:a2.tmps.size=17:=by rw[<-a5];show(a1.tmps.setIfInBounds 14 v4).size=17;rw[LN];exact c8
 have c5:a2.defers=[]:=by rw[<-a5];exact T1.defers
 have a8:(execOp a2.eval ((BL f107 4).getD 1 La)).run prog w1=.ok (.enter 158 #[v4,.func (.func 159) #[] #[]]) w1:=by
  have l:((BL f107 4).getD 1 La).op=.call ⟨.value (.func 158),#[.tmp 14,.func 159],T8 ((BL f107 4).getD 1 La)⟩:=by kernel_rfl
  have:=RE (P:=prog) (f:=158) kr #[v4,.func (.func 159) #[] #[]] w1;have a9:∀f,a2.eval (.func f)=.func (.func f) #[] #[]:=λf=>rfl;have j:=HX d2;generalize (BL f107 4).getD 1 La=o at l⊢;simp[execOp,l,resolve,a9,j,LF,invoke,this]
 refine IQ (o:=(BL f107 4).getD 1 La) kr kr (Iv (ro:=Lc) (by intro c h;cases h) ?_);unfold Lz;rw[a8,L6];have al:=Zj2 h;refine(ZdA (CB h).1 oq (w:=w1) (Im:=b9) (β:=β) I1.imb (by
  obtain⟨b1,b2,b3,b4,b5⟩:=n;refine⟨b1,b2,b3,b4,b5⟩) (λg z=>⟨I1.bnd _ _ g m z,I1.notIm _ _ g ⟨_,rfl,by simp⟩ m z⟩) (by
  cases r4 with
  |ow h1 h2 h3 h4=>rw[m]at h1;cases h1;exact .ow rfl h2 h3 h4)).mono ?_
 rintro e w2 ⟨u,c0,rfl,K2,b6,hu⟩;rw[show((BL f107 4).getD 1 La).dst=M 15 from by kernel_rfl];show wpOpsIn _ _ _ _ _ [2,3,4] (a2.put (M 15) u) w2;generalize a6:a2.put (M 15) u=a3;have d3:a3.tmps[15]?=M u:=by rw[<-a6];exact SP oq
 have d0:a3.tmps.size=17:=by rw[<-a6];show(a2.tmps.setIfInBounds 15 u).size=17;rw[LN];exact c9
 have c6:a3.defers=[]:=by rw[<-a6];exact c5
 have s:(execOp a3.eval ((BL f107 4).getD 2 La)).run prog w2=.ok (.enter 157 #[u]) w2:=by
  have l:((BL f107 4).getD 2 La).op=.call ⟨.value (.func 157),#[.tmp 15],T8 ((BL f107 4).getD 2 La)⟩:=by kernel_rfl
  have:=RE (P:=prog) (f:=157) kr #[u] w2;have a9:∀f,a3.eval (.func f)=.func (.func f) #[] #[]:=λf=>rfl;have j:=HX d3;generalize (BL f107 4).getD 2 La=o at l⊢;simp[execOp,l,resolve,a9,j,LF,invoke,this]
 refine IQ (o:=(BL f107 4).getD 2 La) kr kr (Iv (ro:=Lc) (by intro c h;cases h) ?_);unfold Lz;rw[s,L6];refine(Z45 ((CB h).1.filter En) (by have:=List.length_filter_le En (CB h).1;omega) w2 c0 #[u] (λg z=>(b6 g z).2) rfl (λi x v hx hv=>by
  rcases i with _|i;cases hx;cases hv;exact .d hu;simp at hx)).mono ?_
 rintro e w3 ⟨b,rfl,K3,ρ3,p,c1,c2,_,_,d4,_,r2⟩;rw[show((BL f107 4).getD 2 La).dst=M 16 from by kernel_rfl];show wpOpsIn _ _ _ _ _ [3,4] (a3.put (M 16) b) w3;have d1:CK w3 p (.sl 1 ((((CB h).1.filter En).map (·.addr)).map wdv)) b:=by(cases r2 with|d r=>exact r)
 refine IQ (o:=(BL f107 4).getD 3 La) kr kr (Iv (ro:=Lc) (by intro c h;cases h) (Sn (Z1Y (x:=.tmp 16) kr) ?_));refine IQ (o:=(BL f107 4).getD 4 La) kr kr (Iv (ro:=Lc) (by intro c h;cases h) (Sn (Z1Y (x:=.const (.int .i64 0)) kr) ?_));rw[show((BL f107 4).getD 3 La).dst=M 2 from by kernel_rfl,show((BL f107 4).getD 4 La).dst=M 3 from by kernel_rfl,HX (a:=a3.put (M 16) b) (SP oq)];have a0:(a3.put (M 16) b).tmps.size=17:=by show(a3.tmps.setIfInBounds 16 b).size=17;rw[LN];exact d0
 generalize c4:a3.put (M 16) b=a4 at a0⊢;have c7:a4.defers=[]:=by rw[<-c4];exact c6
 have t2:(a4.put (M 2) b).tmps[2]?=M b:=SP oq;have d5:(a4.put (M 2) b).tmps.size=17:=by show(a4.tmps.setIfInBounds 2 b).size=17;rw[LN];exact a0
 refine wpIn_ret ?_;show Q .ret _ w3;rw[<-hQ];refine bodyPost_ret (results_tmp2 rfl _ _ _) (show a4.defers=[]from c7) ?_;rw[<-hR];have q2:=HX (Su (u:=.int .i64 0) t2 (show 3≠2 by decide));have q3:=HX (a:=(a4.put (M 2) b).put (M 3) (.int .i64 0)) (SP (u:=.int .i64 0) oq);have s1:=I1.kept.size;have s2:=K2.size;refine⟨_,rfl,Ry (Ry I1.kept.no K2 (λg z=>(I1.own _ _ g m z).elim (·.1) (λh=>h.no.elim))) K3 (λ_ h=>h.elim),λ_=>Lc,p,λg z=>.inr ?_,c2,λ_ _ _ q=>(by cases q),λ_ _ _ _ _ q=>(by cases q),λ_ _ q=>(by cases q),λk B q=>by simp at q,.tu _ _ rfl λi x v hx hv=>?_⟩;rcases c1 g z with q|q;cases q.1;omega;rcases i with _|_|i;cases hx;cases hv;show Zi (λ_=>Lc) w3 p _ (((a4.put (M 2) b).put (M 3) (.int .i64 0)).tmps.getD 2 undef);rw[show((a4.put (M 2) b).put (M 3) (.int .i64 0)).tmps.getD 2 undef=b from q2];exact .d d1;cases hx;cases hv;show Zi (λ_=>Lc) w3 p _ (((a4.put (M 2) b).put (M 3) (.int .i64 0)).tmps.getD 3 undef);rw[show((a4.put (M 2) b).put (M 3) (.int .i64 0)).tmps.getD 3 undef=.int .i64 0 from q3];exact .d (.sc _ rfl);simp at hx
def Z3S(h:Heap)(e:(CB h).2=0):Zg h=(((CB h).1.filter En).map (·.addr),0):=by have a:=Z0Q h;unfold Zg;rw[a,e];simp only[Prod.mk.injEq,and_true];rw[List.filter_map];congr 1;refine List.filter_congr λx c=>?_;have:=(Z9g x c).1;simp only[Function.comp,Cz,En,this];by_cases b:(Z9 h x.addr).1.K=0<;>simp[b]
def Z93(h:Heap)(e:¬ (CB h).2=0):Zg h=([],(CB h).2):=by
 have b:=Z0Q h;have c:(CB h).1=[]:=by(unfold CB at e⊢;split at e;rename_i a;rw[if_pos a];exact ZeT h _ _ e;rename_i a;rw[if_neg a])
 unfold Zg;rw[b,c];rfl
def Po(h:Heap)(a:Zx h.W):GP 107 [h.av] O (.tu [Z3 (Zg h).1,int (Zg h).2]) []:=by by_cases e:(CB h).2=0;rw[Z3S h e];exact Zdu h a e;rw[Z93 h e];exact ZeU h a e
end Go.Proofs.YtgedmeaemofdkaaGreat
