/-
 The statement GraphSame: part 12.
 Conditions: none.
-/
import Derived.Test.YtgedmeaemofdkaaGreatQ11
set_option maxRecDepth 100000
set_option maxHeartbeats 2000000
set_option linter.all false
open Inhabited renaming default->M
open List renaming map->La,take->Lg,getD_eq_getElem?_getD->Lh,replicate->Li,range->Lj,getElem?_eq_getElem->Lk,length_map->Lm,map_append->Lo,map_set->Lp,map_take->Lq,drop->Lr,map_drop->Ls,length_set->Lt,mem_map->Lu,mem_range->Lv,nodup_nil->Lw,getElem?_eq_some_iff->LD,length_take->LF,mem_of_getElem?->LG,mem_replicate->LH,find?_range_eq_some->LM,getElem?_drop->LN,getElem_mem->LO,mem_append->LQ,mem_cons->LR,mem_or_eq_of_mem_set->LS,mem_singleton->LU,pairwise_iff_getElem->LV,find?_eq_none->L6,getElem?_append->L7,getElem?_map->L8,mem_of_mem_take->L9,nodup_append->Xa,take_length->Xb
open Bool renaming true->Lb,false->Ld,and_eq_true->L1
open Decidable renaming decide->Lc,not_not->L2
open Option renaming some->Le,none->Lf,isSome_iff_exists->Lz,getD_some->LY,map_some->Xg
open Nat renaming le_refl->Ll,ble->Lx,le_of_ble_eq_true->Ly,le_trans->LI,zero_add->LW,beq->Xc,eq_of_beq_eq_true->Xd,lt_or_ge->Xe,zero_le->Xf
open Or renaming inr->Ln,inl->LA
open Array renaming size_setIfInBounds->LB,getElem?_append->LZ,replicate->L0
open Int renaming mul_comm->LC,add_mul->LL,mul_nonneg->L3,one_mul->L4,toNat->L5
open Go.Proofs.Tryz
namespace Go.Proofs.YtgedmeaemofdkaaGreat
open Go.Sx Go.RowKit
def ZjI{Ow:Sx.Own}{Im0:Nat->Prop}{w0:World}{ρ:Rho}{w:World}{Im:Nat->Prop}{H:Sx.Heap}{clk:Nat}{x:AV}{v:Value}{s:Nat}{els:List (List DV)}{β:Bi}(I:Sx.Inv Ow Im0 w0 ρ w Im H clk)(hx:Rel ρ w Im x v)(h:Z17 H x=Le (s,els))
  (hblk:∀ a n c,v = .slice (Le a) n c->n≠0->β.g=Le a.block):RelD w (λg=>Im g\/β.g=Le g) (.sl s els) v:=by
 obtain⟨p,c,rfl,hbg,hc,hl,hcell⟩:=Z1O I hx h;by_cases he:els=[]
 .subst he;exact .slNil _ _ _
 rcases hcell with hcell | ⟨q,rfl,hq,hcell⟩
 .exact absurd hcell he
 have hn:els.length≠0:=by simpa using he
 refine .sl s els q els.length c (λi o=>(w.cell? ⟨q.block,q.off+(i*s+o),Lf⟩).getD undef) rfl hc hbg (hl he) hq (.inr (hblk q _ c rfl hn)) ?_ ?_
 .intro i e o y hi ho;obtain⟨u,k1,_⟩:=hcell i e o y hi ho;rw[k1];rfl
 .intro i e o y hi ho;obtain⟨u,k1,k2⟩:=hcell i e o y hi ho;rw[k1];exact k2.mono (Sx.Ext.refl _ _) (λg hg=>.inl hg)
def rho0(β:Bi):Rho:=λb=>if b=0 then Le β else Lf
def Z4W{β κ:Bi}{b:Nat}(h:rho0 β b=Le κ):b=0/\κ=β:=by
 unfold rho0 at h;split at h
 .cases h;exact⟨aa,rfl⟩
 .cases h
def Zdo{β:Bi}{g:Nat}(h:OwA (ownR (rho0 β)) g):β.g=Le g:=by
 obtain⟨b,κ,h1,h2⟩:=h;rw[(Z4W h1).2]at h2;exact h2
def Znm(l:List Found)(hl:l.length<=1048576){w:World}{Im:Nat->Prop}{β:Bi}{v:Value}(hIm:∀ g,Im g->g<w.heap.size)(hB:RelB (rho0 β) w Im β (.arr 212 4 (l.map Found.dv)))(hg:∀ g,β.g=Le g->g<w.heap.size/\¬ Im g)
  (hv:Rel (rho0 β) w Im (.ow 0) v):Calls prog 158 #[v,.func (.func 159) #[] #[]] w λe w'=>∃ u,∃ Im':Nat->Prop,e = .returned u/\Kept (λg=>β.g=Le g) w w' /\
   (∀ g,Im' g->(Im g\/β.g=Le g\/w.heap.size<=g)/\g<w'.heap.size)/\RelD w' Im' (.sl 4 ((l.filter Z2v).map Found.dv)) u:=by
 refine calls_of_wp func158 (c:=bdyF f158) kr ?_;have I0:Sx.Inv (ownR (rho0 β)) Im w (rho0 β) w Im (hOf [(0,.arr 212 4 (l.map Found.dv))]) 1:=by
  refine⟨Kept.refl _ _,λb b' κ κ' g _ _ q1 q2 _ _=>by rw[(Z4W q1).1,(Z4W q2).1],λb κ g _ q1 q2=>?_,λb κ g q1 q2=>?_,λb κ g q1 q2=>?_,hIm,λg h=>.inl h,λb B q=>?_,λb hb _=>?_,⟨Ll _,λ_ _ _ h=>h⟩⟩
  .rw[(Z4W q1).2]at q2;exact(hg g q2).2
  .rw[(Z4W q1).2]at q2;exact(hg g q2).1
  .exact .inr ⟨b,κ,q1,q2⟩
  .simp only[hOf]at q;split at q
   .rename_i hb;cases q;subst hb;exact⟨β,rfl,hB⟩
   .cases q
  .unfold rho0;rw[if_neg oq]
 have S:Sx.Sys (ownR (rho0 β)) Im w (tm 42 [(0,.ow 0),(1,.fn 159 [])]) (hOf [(0,.arr 212 4 (l.map Found.dv))]) 1 { tmps := #[v,.func (.func 159) #[] #[]]++L0 (Tryz.f158.ntmps-(#[v,.func (.func 159) #[] #[]]:Array Value).size) undef,defers:=[] } w:=by
  refine⟨_,Im,I0,⟨by kernel_rfl,λk y u hy hu=>?_,rfl⟩⟩;rw[show tm 42 [(0,.ow 0),(1,.fn 159 [])]=[.ow 0,.fn 159 []]++Li 40 .any from by kernel_rfl,L7]at hy;rw[LZ]at hu;split at hy
  .rename_i hk;have hk3:k<2:=hk;rw[if_pos (show k<(#[v,.func (.func 159) #[] #[]]:Array Value).size from hk3)]at hu;rcases k with _ | _ | k
   .cases hy;cases hu;exact hv
   .cases hy;cases hu;exact .fn rfl (λi a v h=>by simp at h)
   .omega
  .have:=LG hy;rw[(LH.1 this).2];exact .any _
 have fin:∀ (x:AV) (els:List (List DV)) (L:List (List DV)) (clk:Nat) (a':Act) (w':World),Sx.Sys (ownR (rho0 β)) Im w (tm 42 [(4,x)]) (hOf [(0,.arr 212 4 els)]) clk a' w'->(tm 42 [(4,x)]).getD 4 .any=x->(x = .ow 0\/∃ o n,x = .os 0 o n)->Z17 (hOf [(0,.arr 212 4 els)]) x=Le (4,L)->L=(l.filter Z2v).map Found.dv ->
   bodyPost prog f158 (λe w'=>∃ u,∃ Im':Nat->Prop,e = .returned u/\Kept (λg=>β.g=Le g) w w'/\(∀ g,Im' g->(Im g\/β.g=Le g\/w.heap.size<=g)/\g<w'.heap.size)/\RelD w' Im' (.sl 4 ((l.filter Z2v).map Found.dv)) u) .ret a' w':=by
  rintro x els L clk a' w' ⟨ρ,Im',I,T⟩ hx4 hx hc hL;refine bodyPost_ret (results_tmp rfl _ _ _) T.defers ?_;have hr:Rel ρ w' Im' x (a'.tmps.getD 4 undef):=by
   have:=Z1o T (.tmp 4);rw[show ev (tm 42 [(4,x)]) (.tmp 4)=(tm 42 [(4,x)]).getD 4 .any from rfl,hx4]at this;exact this
  generalize a'.tmps.getD 4 undef=u at hr;obtain⟨κ,k1,k2⟩:=I.blk 0 _ rfl;have hκ:∀ g,κ.g=Le g->w.heap.size<=g\/β.g=Le g:=λg h=>(I.own 0 κ g k1 h).imp (·.1) Zdo;refine⟨u,λg=>Im' g\/κ.g=Le g,rfl,I.kept.imp λ_ q=>Zdo q,λg h=>?_, ?_⟩
  .rcases h with h | h
   .refine⟨?_,I.imb g h⟩;rcases I.im0 g h with q | q | q
    .exact .inl q
    .exact .inr (.inr q)
    .exact .inr (.inl (Zdo q))
   .refine⟨?_,I.bnd 0 κ g k1 h⟩;rcases hκ g h with q | q
    .exact .inr (.inr q)
    .exact .inr (.inl q)
  .rw[<- hL];refine ZjI I hr hc λa n c hv hn=>?_;subst hv;rcases hx with rfl | ⟨o,m,rfl⟩
   .generalize hvv:Value.slice (Le a) n c=vv at hr;cases hr with
    | ow h1 h2 h3 h4 =>
     injection hvv with e1 e2 e3;rw[k1]at h1;cases h1;rcases h4 with h4 | ⟨g,hg,e,_⟩
     .omega
     .rw[<- e1]at e;cases e;exact hg
   .generalize hvv:Value.slice (Le a) n c=vv at hr;cases hr with
    | os h1 h2 h3 h4 h5 =>
     injection hvv with e1 e2 e3;rw[k1]at h1;cases h1;rcases h5 with h5 | ⟨g,hg,e,_⟩
     .omega
     .rw[<- e1]at e;cases e;exact hg
 by_cases h:Z0O l<l.length
 .refine wp_mono (Zne l hl h _ _ _ _ _ S) ?_;rintro e a' w' ⟨rfl,S1⟩;obtain⟨d1,d2,d3⟩:=ZhX h;refine fin (.os 0 0 (delR l).2) _ _ _ a' w' S1 rfl (.inr ⟨_,_,rfl⟩) rfl ?_;have d5:(delR l).2<=(delR l).1.length:=by have:(delR l).1.length=l.length:=d2;have:(delR l).2<=l.length:=d3;omega
  rw[List.drop_zero,<- Lq,List.take_append_of_le_length (by rw[LF];omega),List.take_take,Nat.min_self];exact congrArg _ d1
 .refine wp_mono (ZmN l hl h _ _ _ _ _ S) ?_;rintro e a' w' ⟨rfl,S1⟩;refine fin (.ow 0) _ _ _ a' w' S1 rfl (.inl rfl) rfl ?_;rw[Zj3 h]
def Zc8{P:Program}{o:Oper}{a:Act}{w:World}{x:Operand}(ho:o.op = .assign x):(execOp a.eval o).run P w = .ok (.value (a.eval x)) w:=by
 simp[execOp,ho]
def Znl{P:Program}{o:Oper}{a:Act}{w:World}{x:Operand}(ho:o.op = .move x):(execOp a.eval o).run P w = .ok (.value (a.eval x)) w:=by
 simp[execOp,ho]
def ZaE(h:Heap)(hw:WOk h.W)(e:(allW h).2=0):GP 107 [h.av] Lb (.tu [Z01 (((allW h).1.filter Z2v).map (·.addr)),int 0]) []:=by
 intro w00 Im vs hIm hsz hargs;rw[<- callsIn_wide (n:=10)];refine callsIn_of_wp func107 (c:=bdyF f107) kr trivial ?_ rfl;have hs1:vs.size=1:=hsz;have S0:Sx.Sys Z43 Im w00 (tm 17 [(0,h.av)]) (hOf []) 1 { tmps:=vs++L0 (Tryz.f107.ntmps-vs.size) undef,defers:=[] } w00:=by
  refine⟨_,Im,Sx.Inv.empty hIm (Ll 1),⟨by rw[hs1];simp[hs1];kernel_rfl,λk y v hy hv=>?_,rfl⟩⟩;rw[show tm 17 [(0,h.av)]=[h.av]++Li 16 .any from by kernel_rfl,L7]at hy;rw[LZ]at hv;split at hy
  .rename_i hk;rw[if_pos (by rw[hsz];exact hk)]at hv;exact hargs k y v hy hv
  .have:=LG hy;rw[(LH.1 this).2];exact .any _
 generalize hR:(λe w'=>∃ v,e=Ending.returned v/\ZdZ w00 Im Lb (AV.tu [Z01 (((allW h).1.filter Z2v).map (·.addr)),int 0]) [] v w')=R;generalize hQ:bodyPost prog f107 R=Q;refine Zn0 h hw e 10 Q _ _ _ _ _ S0 ?_;rintro a1 w1 ⟨ρ1,Im1,I1,T1⟩;obtain⟨v4,t4,r4⟩:=T1.at (t:=4) (x:=.ow 17008) rfl;obtain⟨β,m,n⟩:=I1.blk 17008 _ rfl;have hz1:a1.tmps.size=17:=T1.size;have er:rest prog 10 4 (bdyF f107) Q a1 w1=(Code.region 4 (rgO f107 4) Ld).wpIn Fence.wide 10 prog (Exit.then (Code.ret.wpIn Fence.wide 10 prog Q) Q) a1 w1:=by kernel_rfl
 rw[er];refine wpIn_region ?_;rw[show Lj (rgO f107 4).size=[0,1,2,3,4]from by kernel_rfl];refine Z2t (o:=(rgO f107 4).getD 0 M) kr kr (Z2L (ro:=Lf) (by intro c h;cases h) (Z61 (Znl (x:=.tmp 4) kr) ?_));rw[show((rgO f107 4).getD 0 M).dst=Le 14 from by kernel_rfl,Z5R t4];generalize ha2:a1.put (Le 14) v4=a2;have t14:a2.tmps[14]? = Le v4:=by rw[<- ha2];exact Z5K oq
 have hz2:a2.tmps.size=17:=by rw[<- ha2];show(a1.tmps.setIfInBounds 14 v4).size=17;rw[LB];exact hz1
 have hd2:a2.defers=[]:=by rw[<- ha2];exact T1.defers
 have hcall:(execOp a2.eval ((rgO f107 4).getD 1 M)).run prog w1 = .ok (.enter 158 #[v4,.func (.func 159) #[] #[]]) w1:=by
  have hop:((rgO f107 4).getD 1 M).op = .call ⟨.value (.func 158),#[.tmp 14,.func 159],tsOf ((rgO f107 4).getD 1 M)⟩:=by kernel_rfl
  have:=Z1M (P:=prog) (f:=158) kr #[v4,.func (.func 159) #[] #[]] w1;have hev:∀ f,a2.eval (.func f) = .func (.func f) #[] #[]:=λf=>rfl;have hev2:=Z5R t14;generalize (rgO f107 4).getD 1 M=o at hop ⊢;simp[execOp,hop,resolve,hev,hev2,Deferred.ofValue,invoke,this]
 refine Z2t (o:=(rgO f107 4).getD 1 M) kr kr (Z2L (ro:=Lf) (by intro c h;cases h) ?_);unfold Oper.wp;rw[hcall,Oper.upon_enter];have al:=Zka h;refine(Znm (allW h).1 oq (w:=w1) (Im:=Im1) (β:=β) I1.imb (by
  obtain⟨b1,b2,b3,b4,b5⟩:=n;refine⟨b1,b2,b3,b4,b5⟩) (λg hg=>⟨I1.bnd _ _ g m hg,I1.notIm _ _ g ⟨_,rfl,by simp⟩ m hg⟩) (by
  cases r4 with
  | ow h1 h2 h3 h4=>rw[m]at h1;cases h1;exact .ow rfl h2 h3 h4)).mono ?_
 rintro e w2 ⟨u,Im2,rfl,K2,hIm2,hu⟩;rw[show((rgO f107 4).getD 1 M).dst=Le 15 from by kernel_rfl];show wpOpsIn _ _ _ _ _ [2,3,4] (a2.put (Le 15) u) w2;generalize ha3:a2.put (Le 15) u=a3;have t15:a3.tmps[15]? = Le u:=by rw[<- ha3];exact Z5K oq
 have hz3:a3.tmps.size=17:=by rw[<- ha3];show(a2.tmps.setIfInBounds 15 u).size=17;rw[LB];exact hz2
 have hd3:a3.defers=[]:=by rw[<- ha3];exact hd2
 have hcall2:(execOp a3.eval ((rgO f107 4).getD 2 M)).run prog w2 = .ok (.enter 157 #[u]) w2:=by
  have hop:((rgO f107 4).getD 2 M).op = .call ⟨.value (.func 157),#[.tmp 15],tsOf ((rgO f107 4).getD 2 M)⟩:=by kernel_rfl
  have:=Z1M (P:=prog) (f:=157) kr #[u] w2;have hev:∀ f,a3.eval (.func f) = .func (.func f) #[] #[]:=λf=>rfl;have hev2:=Z5R t15;generalize (rgO f107 4).getD 2 M=o at hop ⊢;simp[execOp,hop,resolve,hev,hev2,Deferred.ofValue,invoke,this]
 refine Z2t (o:=(rgO f107 4).getD 2 M) kr kr (Z2L (ro:=Lf) (by intro c h;cases h) ?_);unfold Oper.wp;rw[hcall2,Oper.upon_enter];refine(Zb1 ((allW h).1.filter Z2v) (by have:=List.length_filter_le Z2v (allW h).1;omega) w2 Im2 #[u] (λg hg=>(hIm2 g hg).2) rfl (λi x v hx hv=>by
  rcases i with _ | i
  .cases hx;cases hv;exact .d hu
  .simp at hx)).mono ?_
 rintro e w3 ⟨v2,rfl,K3,ρ3,Im3,h31,h32,_,_,h35,_,r2⟩;rw[show((rgO f107 4).getD 2 M).dst=Le 16 from by kernel_rfl];show wpOpsIn _ _ _ _ _ [3,4] (a3.put (Le 16) v2) w3;have r2':RelD w3 Im3 (.sl 1 ((((allW h).1.filter Z2v).map (·.addr)).map wdv)) v2:=by
  cases r2 with | d r=>exact r
 refine Z2t (o:=(rgO f107 4).getD 3 M) kr kr (Z2L (ro:=Lf) (by intro c h;cases h) (Z61 (Zc8 (x:=.tmp 16) kr) ?_));refine Z2t (o:=(rgO f107 4).getD 4 M) kr kr (Z2L (ro:=Lf) (by intro c h;cases h) (Z61 (Zc8 (x:=.const (.int .i64 0)) kr) ?_));rw[show((rgO f107 4).getD 3 M).dst=Le 2 from by kernel_rfl,show((rgO f107 4).getD 4 M).dst=Le 3 from by kernel_rfl,Z5R (a:=a3.put (Le 16) v2) (Z5K oq)];have hs16:(a3.put (Le 16) v2).tmps.size=17:=by show(a3.tmps.setIfInBounds 16 v2).size=17;rw[LB];exact hz3
 generalize ha4:a3.put (Le 16) v2=a4 at hs16 ⊢;have hd4:a4.defers=[]:=by rw[<- ha4];exact hd3
 have t2:(a4.put (Le 2) v2).tmps[2]? = Le v2:=Z5K oq;have hs2:(a4.put (Le 2) v2).tmps.size=17:=by show(a4.tmps.setIfInBounds 2 v2).size=17;rw[LB];exact hs16
 refine wpIn_ret ?_;show Q .ret _ w3;rw[<- hQ];refine bodyPost_ret (results_tmp2 rfl _ _ _) (show a4.defers=[]from hd4) ?_;rw[<- hR];have q2:=Z5R (Z77 (u:=.int .i64 0) t2 (show 3≠2 by decide));have q3:=Z5R (a:=(a4.put (Le 2) v2).put (Le 3) (.int .i64 0)) (Z5K (u:=.int .i64 0) oq);have s1:=I1.kept.size;have s2:=K2.size;refine⟨_,rfl,Z3F (Z3F I1.kept.no K2 (λg hg=>(I1.own _ _ g m hg).elim (·.1) (λh=>h.no.elim))) K3 (λ_ h=>h.elim),λ_=>Lf,Im3,λg hg=>.inr ?_,h32,λ_ _ _ q=>(by cases q),λ_ _ _ _ _ q=>(by cases q),λ_ _ q=>(by cases q),λk B q=>by simp at q,.tu _ _ rfl λi x v hx hv=>?_⟩
 .rcases h31 g hg with q | q
  .cases q.1
  .omega
 rcases i with _ | _ | i
 .cases hx;cases hv;show Rel (λ_=>Lf) w3 Im3 _ (((a4.put (Le 2) v2).put (Le 3) (.int .i64 0)).tmps.getD 2 undef);rw[show((a4.put (Le 2) v2).put (Le 3) (.int .i64 0)).tmps.getD 2 undef=v2 from q2];exact .d r2'
 .cases hx;cases hv;show Rel (λ_=>Lf) w3 Im3 _ (((a4.put (Le 2) v2).put (Le 3) (.int .i64 0)).tmps.getD 3 undef);rw[show((a4.put (Le 2) v2).put (Le 3) (.int .i64 0)).tmps.getD 3 undef = .int .i64 0 from q3];exact .d (.sc _ rfl)
 .simp at hx
def Zm6(h:Heap)(e:(allW h).2=0):Z04 h=(((allW h).1.filter Z2v).map (·.addr),0):=by
 have e1:=Zby h;unfold Z04;rw[e1,e];simp only[Prod.mk.injEq,and_true];rw[List.filter_map];congr 1;refine List.filter_congr λx hx=>?_;have:=(Zib x hx).1;simp only[Function.comp,Z36,Z2v,this];by_cases hk:(atH h x.addr).1.K=0<;>simp[hk]
def ZjS(h:Heap)(e:¬ (allW h).2=0):Z04 h=([],(allW h).2):=by
 have e1:=Zby h;have e8:(allW h).1=[]:=by
  unfold allW at e ⊢;split at e
  .rename_i hp;rw[if_pos hp];exact Zjx h _ _ e
  .rename_i hp;rw[if_neg hp]
 unfold Z04;rw[e1,e8];rfl
def Z4b(h:Heap)(hw:WOk h.W):GP 107 [h.av] Lb (.tu [Z01 (Z04 h).1,int (Z04 h).2]) []:=by
 by_cases e:(allW h).2=0
 .rw[Zm6 h e];exact ZaE h hw e
 .rw[ZjS h e];exact Z9l h hw e
end Go.Proofs.YtgedmeaemofdkaaGreat
namespace Go.Proofs.YtgedmeaemofdkaaGreat
open Go.Sx
def ZlC{h:Heap}{i o:Int}(e:(address h.C i o).2=0):adr h i o=4096+(i*h.C.pw+o)/\0<=i/\i<h.C.pg/\0<=o/\o<h.C.pw:=by
 unfold address at e;split at e
 .rename_i hv;split at e
  .rename_i hb;have hb':=hb;unfold inB at hb;simp at hb;refine⟨?_,by omega,by omega,by omega,by omega⟩;unfold adr address;rw[if_pos hv,if_pos hb']
  .simp at e
 .simp at e
def Z6N{h:Heap}{i:Int}:∀ {f:Nat} {o:Int},∀ x∈(Z1D h i f o).1,4096+(i*h.C.pw+o)<=x.addr/\x.addr<4096+(i*h.C.pw+h.C.pw)
 | 0,o,x,hx=>by simp[Z1D]at hx
 | f+1,o,x,hx=>by
  unfold Z1D at hx;split at hx
  .split at hx
   .rename_i h1;have ha:=ZlC h1.1;rcases LR.1 hx with rfl | hx
    .simp only;omega
    .have:=Z6N x hx;have:=Z1q (atH h (adr h i o)).1;omega
   .simp at hx
  .simp at hx
def Zcf{h:Heap}{i:Int}:∀ {f:Nat} {o:Int},((Z1D h i f o).1.map (·.addr)).Pairwise (· < ·)
 | 0,o=>by simp[Z1D]
 | f+1,o=>by
  unfold Z1D;split
  .split
   .rename_i h1;have ha:=ZlC h1.1;have hs:=Z8f h1.2;rw[List.map_cons,List.pairwise_cons];refine⟨λy hy=>?_,Zcf⟩;obtain⟨x,hx,rfl⟩:=Lu.1 hy;have:=(Z6N x hx).1;simp only;omega
   .simp
  .simp
def Z7c{h:Heap}{i:Int}:∀ x∈(Z0C h i).1,4096+i*h.C.pw<=x.addr/\x.addr<4096+(i+1)*h.C.pw:=by
 intro x hx;have e:(i+1)*h.C.pw=i*h.C.pw+h.C.pw:=by rw[LL,L4]
 unfold Z0C Z1R at hx;split at hx
 .split at hx
  .have:=Z6N x hx;omega
  .simp at hx
 .simp at hx
def ZdD(h:Heap)(i:Int):((Z0C h i).1.map (·.addr)).Pairwise (· < ·):=by
 unfold Z0C Z1R;split
 .split
  .exact Zcf
  .simp
 .simp
def Zc3{h:Heap}(hw:0<=h.C.pw):∀ (f i:Nat),∀ x∈(allR h f i).1,4096+i*h.C.pw<=x.addr
 | 0,i,x,hx=>by simp[allR]at hx
 | f+1,i,x,hx=>by
  unfold allR at hx;split at hx
  .split at hx
   .rcases LQ.1 hx with hx | hx
    .exact(Z7c x hx).1
    .have:=Zc3 hw f (i+1) x hx;have e:((i+1:Nat):Int)*h.C.pw=i*h.C.pw+h.C.pw:=by push_cast;rw[LL,L4]
     omega
   .simp at hx
  .simp at hx
def Zfe{h:Heap}(hw:0<=h.C.pw):∀ (f i:Nat),((allR h f i).1.map (·.addr)).Pairwise (· < ·)
 | 0,i=>by simp[allR]
 | f+1,i=>by
  unfold allR;split
  .split
   .rw[Lo,List.pairwise_append];refine⟨ZdD h i,Zfe hw f (i+1),λa ha b hb=>?_⟩;obtain⟨x,hx,rfl⟩:=Lu.1 ha;obtain⟨y,hy,rfl⟩:=Lu.1 hb;have h1:=(Z7c x hx).2;have h2:=Zc3 hw f (i+1) y hy;have e:((i+1:Nat):Int)*h.C.pw=((i:Int)+1)*h.C.pw:=by push_cast;rfl
    omega
   .simp
  .simp
def Zgp(h:Heap):(Z0M h).1.Pairwise (· < ·):=by
 rw[Zby h];unfold allW;split
 .rename_i hp;exact Zfe (by have:=Z08 hp;omega) _ _
 .simp
def Z4a(h:Heap):(Z04 h).1.Pairwise (· < ·):=by
 unfold Z04;exact(Zgp h).filter _
def posB(l:List Int)(v:Int):Nat:=(l.takeWhile (λx=>Lc (x<v))).length
def ZgP(l:List Int)(v:Int):posB l v<=l.length:=by
 unfold posB;exact(List.takeWhile_sublist _).length_le
def Zdm{l:List Int}{v:Int}(hs:l.Pairwise (· < ·)){k:Nat}(hk:k<l.length):(l.getD k M<v↔k<posB l v):=by
 have e:l.getD k M=l[k]:=by rw[Lh,Lk hk];rfl
 rw[e];constructor
 .intro h;by_cases hc:k<posB l v
  .exact hc
  .exfalso;have hp:posB l v<l.length:=by omega
   have h2:=Zfj (λx=>Lc (x<v)) l hp;have h3:¬ l[posB l v]<v:=by
    have:Lc (l[posB l v]<v)=Ld:=h2;simpa using this
   rcases Xe (posB l v) k with hlt | hge
   .have:=LV.1 hs (posB l v) k hp hk hlt;omega
   .have:posB l v=k:=by omega
    simp only[this]at h3;exact h3 h
 .intro h;obtain⟨h1,h2⟩:=Zjj _ _ _ h;simpa using h2
def Zkk{l:List Int}{v:Int}(hs:l.Pairwise (· < ·)):(v∈l↔posB l v<l.length/\l.getD (posB l v) M=v):=by
 constructor
 .intro h;obtain⟨k,hk,e⟩:=List.getElem_of_mem h;have e2:l.getD k M=v:=by rw[Lh,Lk hk,<- e];rfl
  have h1:¬ k<posB l v:=λq=>by have:=(Zdm (v:=v) hs hk).2 q;omega
  have h2:k=posB l v:=by
   rcases Xe (posB l v) k with hlt | hge
   .have hp:posB l v<l.length:=by omega
    have h3:¬ l.getD (posB l v) M<v:=λq=>by have:=(Zdm (v:=v) hs hp).1 q;omega
    have h4:=LV.1 hs (posB l v) k hp hk hlt;have e5:l.getD (posB l v) M=l[posB l v]:=by rw[Lh,Lk hp];rfl
    omega
   .omega
  subst h2;exact⟨hk,e2⟩
 .rintro⟨h1,h2⟩;rw[<- h2,Lh,Lk h1];exact LO h1
def Zaf(x:Int):GP 174 [u64 x] Lb (bool Ld) []:=by
 exact gF [] func174 [Lb] (Fbs ((x != x)=Ld) Fz)
def ZlI(x:Int):GP 208 [u64 x] Lb (bool Ld) []:=by
 exact gF [] func208 [Lb] (Fbs ((x != x)=Ld) Fz)
def Ziy(x y:Int):GP 173 [u64 x,u64 y] Lb (bool (Lc (x<y))) []:=by
 exact gF [] func173 [] (Fc 6 (@ZlI x) (FcG 9 Ld (λhg=>by(try simp only[bs]at hg);exact @ZlI y) Fz))
def bsL(l:List Int)(v:Int)(i j:Nat):Tg:=⟨tm 54 [(0,Z01 l),(1,u64 v),(4,int 0),(5,bool Ld),(6,int l.length),(7,int i),(8,int j)],[],60⟩
section
variable (l:List Int) (v:Int) (hl:l.length<=1048576) (i j:Nat) (hij:i<j) (hj:j<=l.length)
include hl hij hj
theorem Znq(hlt:l.getD ((i+j)/2) M<v):CP (rndF f127 0) (bsL l v i j).st .nrm (bsL l v ((i+j)/2+1) j).st:=by
 rcases bb (Lc (l.getD (((i:Int)+(j:Int))/2).toNat M<v))with hc0 | hc0<;>have hc0p:=hc0<;>simp only[bs]at hc0p
 .let y0:=(i:Int)+(j:Int);exact sF [] [] (Fh 27 [.call Lb (Sx.bool (Lc (l.getD (y0/2).toNat M<v))) [],.br Lb] (Ftb 15 (Lc ((i:Int)<(j:Int))) (Fi 18 y0 (Fv 19 y0 (Fg 20 (by exact Z5M rfl dd:y0.fdiv (2^min (L5 1) 64)=y0/2) (Fo ((0:Int)<=1) (Fi 21 (y0/2) (Fe 24 wdv l (y0/2) (Fa (@Ziy (l.getD (y0/2).toNat M) v) (Fa hc0 (Fi 29 (y0/(2:Int)+1) Fz)))))))))))
 .contradiction
theorem ZnF(hlt:¬ l.getD ((i+j)/2) M<v):CP (rndF f127 0) (bsL l v i j).st .nrm (bsL l v i ((i+j)/2)).st:=by
 rcases bb (Lc (l.getD (((i:Int)+(j:Int))/2).toNat M<v))with hc0 | hc0<;>have hc0p:=hc0<;>simp only[bs]at hc0p
 .contradiction
 .let y0:=(i:Int)+(j:Int);exact sF [] [] (Fh 27 [.call Lb (Sx.bool (Lc (l.getD (y0/2).toNat M<v))) [],.br Ld] (Ftb 15 (Lc ((i:Int)<(j:Int))) (Fi 18 y0 (Fv 19 y0 (Fg 20 (by exact Z5M rfl dd:y0.fdiv (2^min (L5 1) 64)=y0/2) (Fo ((0:Int)<=1) (Fi 21 (y0/2) (Fe 24 wdv l (y0/2) (Fa (@Ziy (l.getD (y0/2).toNat M) v) (Fa hc0 Fz))))))))))
end
def Zoo(l:List Int)(v:Int)(i:Nat):CP (rndF f127 0) (bsL l v i i).st (.ext 0) (Tg.st ⟨tm 54 [(0,Z01 l),(1,u64 v),(6,int l.length),(7,int i)],[],60⟩):=by
 exact sF [] [] (Ffb 15 (Lc ((i:Int)<(i:Int))) Fz)
def bsGo(l:List Int)(v:Int)(hl:l.length<=1048576)(hs:l.Pairwise (· < ·)):∀ (f i j:Nat),j<=i+f->i<=posB l v->posB l v<=j->j<=l.length ->
  LSpec prog f127 0 (bsL l v i j).st (.ext 0) (Tg.st ⟨tm 54 [(0,Z01 l),(1,u64 v),(6,int l.length),(7,int (posB l v))],[],60⟩):=by
 intro f;induction f with
 | zero =>
  intro i j h1 h2 h3 h4;obtain⟨rfl,rfl⟩:i=posB l v/\j=posB l v:=by omega
  exact .endx (Zoo l v _)
 | succ f ih =>
  intro i j h1 h2 h3 h4;by_cases hij:i<j
  .have hp:=Zdm hs (v:=v) (k:=(i+j)/2) oq;by_cases hlt:l.getD ((i+j)/2) M<v
   .have:=hp.1 hlt;exact .next (Znq l v hl i j hij h4 hlt) (ih ((i+j)/2+1) j oq oq h3 h4)
   .have:¬ (i+j)/2<posB l v:=λq=>hlt (hp.2 q);exact .next (ZnF l v hl i j hij h4 hlt) (ih i ((i+j)/2) oq h2 oq oq)
  .obtain⟨rfl,rfl⟩:i=posB l v/\j=posB l v:=by omega
   exact .endx (Zoo l v _)
def Zi4(l:List Int)(v:Int)(hl:l.length<=1048576)(hs:l.Pairwise (· < ·)):CP (blkF f127 0) (Tg.st ⟨tm 54 [(0,Z01 l),(1,u64 v),(4,int 0),(5,bool Ld),(6,int l.length),(7,int 0),(8,int l.length)],[],60⟩) .nrm
  (Tg.st ⟨tm 54 [(0,Z01 l),(1,u64 v),(6,int l.length),(7,int (posB l v))],[],60⟩) :=
 (bsGo l v hl hs l.length 0 l.length oq oq (ZgP l v) (Ll _)).ext kr
def bsearch(l:List Int)(v:Int)(hl:l.length<=1048576)(hs:l.Pairwise (· < ·)):GP 127 [Z01 l,u64 v] Lb (.tu [int (posB l v),bool (Lc (v∈l))]) []:=by
 have hm:=Zkk (v:=v) hs;have hp:=ZgP l v;by_cases h1:posB l v<l.length
 .by_cases h2:l.getD (posB l v) M=v
  .have e:Lc (v∈l)=Lb:=by simpa using hm.2 ⟨h1,h2⟩
   rw[e];exact gF [] func127 (fO 24) (Fl 11 wdv l (Fu (@Zi4 l v aa aa) (FeG 38 (Lc ((↑(posB l v):Int)<(l.length:Int))) wdv l (↑(posB l v):Int) (posB l v) (FeG 45 (Lc ((↑(posB l v):Int)<(l.length:Int))&&!l.getD (posB l v) M==v) wdv l (↑(posB l v):Int) (posB l v) (FcG 47 (Lc ((↑(posB l v):Int)<(l.length:Int))&&!l.getD (posB l v) M==v) (λhg=>by(try simp only[bs]at hg);exact @Zaf (l.getD (posB l v) M)) (FcG 50 (Lc ((↑(posB l v):Int)<(l.length:Int))&&!l.getD (posB l v) M==v&&Ld) (λhg=>by(try simp only[bs]at hg);exact @Zaf v) (Fr (↑(posB l v):Int) (Fb ((Lc ((↑(posB l v):Int)<(l.length:Int))&&(l.getD (posB l v) M==v||Ld))=Lb) Fz))))))))
  .have e:Lc (v∈l)=Ld:=by
    simp only[decide_eq_false_iff_not];exact λq=>h2 (hm.1 q).2
   rw[e];exact gF [] func127 (fO 24) (Fl 11 wdv l (Fu (@Zi4 l v aa aa) (FeG 38 (Lc ((↑(posB l v):Int)<(l.length:Int))) wdv l (↑(posB l v):Int) (posB l v) (FeG 45 (Lc ((↑(posB l v):Int)<(l.length:Int))&&!l.getD (posB l v) M==v) wdv l (↑(posB l v):Int) (posB l v) (FcG 47 (Lc ((↑(posB l v):Int)<(l.length:Int))&&!l.getD (posB l v) M==v) (λhg=>by(try simp only[bs]at hg);exact @Zaf (l.getD (posB l v) M)) (FcG 50 (Lc ((↑(posB l v):Int)<(l.length:Int))&&!l.getD (posB l v) M==v&&Ld) (λhg=>by(try simp only[bs]at hg);exact @Zaf v) (Fr (↑(posB l v):Int) (Fbs ((Lc ((↑(posB l v):Int)<(l.length:Int))&&(l.getD (posB l v) M==v||Ld))=Ld) Fz))))))))
 .have e:Lc (v∈l)=Ld:=by
   simp only[decide_eq_false_iff_not];exact λq=>h1 (hm.1 q).1
  rw[e];exact gF [] func127 (fO 24) (Fl 11 wdv l (Fu (@Zi4 l v aa aa) (FeG 38 (Lc ((↑(posB l v):Int)<(l.length:Int))) wdv l (↑(posB l v):Int) (posB l v) (FeG 45 (Lc ((↑(posB l v):Int)<(l.length:Int))&&!l.getD (posB l v) M==v) wdv l (↑(posB l v):Int) (posB l v) (FcG 47 (Lc ((↑(posB l v):Int)<(l.length:Int))&&!l.getD (posB l v) M==v) (λhg=>by(try simp only[bs]at hg);exact @Zaf (l.getD (posB l v) M)) (FcG 50 (Lc ((↑(posB l v):Int)<(l.length:Int))&&!l.getD (posB l v) M==v&&Ld) (λhg=>by(try simp only[bs]at hg);exact @Zaf v) (Fr (↑(posB l v):Int) (Fb ((Lc ((↑(posB l v):Int)<(l.length:Int))&&(l.getD (posB l v) M==v||Ld))=Ld) Fz))))))))
structure BField where
 width:Int
 value:Int
 deriving DecidableEq,Inhabited
def BField.dv(f:BField):List DV:=[.sc (.int .i64 f.width),.sc (.int .u64 f.value)]
def ZnD{α β:Type}{f:α->β}{l:List α}(h:l≠[]):l.map f≠[]:=by simpa using h
structure PgOk (c:Conf) (p:Page):Prop where
 s:0<=p.S/\p.S<=1
 n:0<=p.N/\p.N<=2147483647
 k:0<=p.K/\p.K<=3
 k0:p.K=0->p.S=0/\p.U=0/\p.N=0
 k1:p.K=1->0<=p.U/\p.U<=c.pw
 k3:p.K=3->p.U=0/\p.N=0
structure PT (c:Conf) (l:List Page):Prop where
 b:∀ i,i<l.length->PgOk c (l.getD i M)
 lg:∀ i,i<l.length->(l.getD i M).K=2->1<=need c (l.getD i M).U/\∀ m:Nat,1<=m->(m:Int)<need c (l.getD i M).U->i+m<l.length/\(l.getD (i+m) M).K=3/\(l.getD (i+m) M).S=(l.getD i M).S
 tl:∀ i,i<l.length->(l.getD i M).K=3->∃ j,j<i/\(l.getD j M).K=2/\(i:Int)<j+need c (l.getD j M).U
def Z4K(c:Conf)(l:List Page):Nat->Int
 | 0=>0
 | i+1=>rdue c l i (Z4K c l i)
def Zhl{c:Conf}{l:List Page}:∀ {f i:Nat},l.length<=i+f->(rpB c l f i (Z4K c l i)=Lb↔∀ j,i<=j->j<l.length->rchk c l j (Z4K c l j))
 | 0,i,h=>by
  simp only[rpB,true_iff];intro j h1 h2;omega
 | f+1,i,h=>by
  unfold rpB;by_cases hi:i<l.length
  .rw[if_pos hi,L1,decide_eq_true_eq,show rdue c l i (Z4K c l i)=Z4K c l (i+1)from rfl,Zhl (f:=f) (i:=i+1) oq];constructor
   .rintro⟨h1,h2⟩ j h3 h4;by_cases hj:j=i
    .subst hj;exact h1
    .exact h2 j oq h4
   .intro hh;exact⟨hh i (Ll _) hi,λj h3 h4=>hh j oq h4⟩
  .rw[if_neg hi];simp only[true_iff];intro j h1 h2;omega
def Z7K{c:Conf}{l:List Page}:∀ i,0<=Z4K c l i->0<Z4K c l i->∃ j,j<i/\(l.getD j M).K=2/\Z4K c l i=j+need c (l.getD j M).U-i
 | 0,_,h=>by simp[Z4K]at h
 | i+1,h0,h=>by
  simp only[Z4K,rdue]at h0 h ⊢;split at h
  .rename_i hk;refine⟨i,by omega,hk, ?_⟩;rw[if_pos hk];omega
  .rename_i hk;have h1:1<Z4K c l i:=by omega
   obtain⟨j,j1,j2,j3⟩:=Z7K (c:=c) (l:=l) i oq oq;refine⟨j,by omega,j2, ?_⟩;rw[if_neg hk];omega
def Zad(sp:Int):∀ (l:List Page) (k:Nat),(∀ m,m<k->m<l.length/\(l.getD m M).K=3/\(l.getD m M).S=sp)->k<=Z14 sp l
 | _,0,_=>Xf _
 | [],k+1,h=>by have:=(h 0 oq).1;simp at this
 | p::l,k+1,h=>by
  have h0:=(h 0 oq).2;simp only[List.getD_cons_zero]at h0;rw[Z14,if_pos h0];have:=Zad sp l k λm hm=>by
   have:=h (m+1) oq;simpa using this
  omega
def PT.due{c:Conf}{l:List Page}(h:PT c l){i:Nat}(hi:i<l.length)(hk:(l.getD i M).K=2):∀ m:Nat,(m:Int)<need c (l.getD i M).U->Z4K c l (i+1+m)=need c (l.getD i M).U-1-m
 | 0,hm=>by
  show rdue c l i (Z4K c l i)=_;rw[rdue,if_pos hk];omega
 | m+1,hm=>by
  have ih:=h.due hi hk m oq;have ht:=((h.lg i hi hk).2 (m+1) oq hm).2.1;show rdue c l (i+1+m) (Z4K c l (i+1+m))=_;rw[rdue,show i+1+m=i+(m+1) by omega,if_neg (by rw[ht];decide),show i+(m+1)=i+1+m by omega,ih];omega
def Z76{c:Conf}{l:List Page}(h:∀ i,i<l.length->(l.getD i M).K=2->1<=need c (l.getD i M).U):∀ i,i<=l.length->0<=Z4K c l i
 | 0,_=>Int.le_refl _
 | i+1,hi=>by
  have ih:=Z76 h i oq;simp only[Z4K,rdue];split
  .rename_i hk;have:=h i oq hk;omega
  .omega
def Zo2{c:Conf}{l:List Page}:rpB c l l.length 0 0=Lb↔PT c l:=by
 have e:=Zhl (c:=c) (l:=l) (f:=l.length) (i:=0) oq;rw[show Z4K c l 0=0 from rfl]at e;rw[e];constructor
 .intro h;have hb:∀ i,i<l.length->PgOk c (l.getD i M):=by
   intro i hi;have q:=h i oq hi;unfold rchk at q;exact⟨⟨q.2.1,q.2.2.1⟩,⟨q.2.2.2.1,q.2.2.2.2.1⟩,⟨q.2.2.2.2.2.1,q.2.2.2.2.2.2.1⟩,q.2.2.2.2.2.2.2.1,q.2.2.2.2.2.2.2.2.1,q.2.2.2.2.2.2.2.2.2.2⟩
  have hl:∀ i,i<l.length->(l.getD i M).K=2->1<=need c (l.getD i M).U/\∀ m:Nat,1<=m->(m:Int)<need c (l.getD i M).U->i+m<l.length/\(l.getD (i+m) M).K=3/\(l.getD (i+m) M).S=(l.getD i M).S:=by
   intro i hi hk;have q:=(h i oq hi).2.2.2.2.2.2.2.2.2.1 hk;refine⟨q.1, ?_⟩;intro m h1 h2;obtain⟨g1,g2⟩:=Z5C (l.getD i M).S (l.drop (i+1)) (m-1) oq;have g3:i+m<l.length:=by simp at g1;omega
   have:(l.drop (i+1)).getD (m-1) M=l.getD (i+m) M:=by
    rw[Lh,Lh,LN,show i+1+(m-1)=i+m by omega]
   rw[this]at g2;exact⟨g3,g2⟩
  refine⟨hb,hl, ?_⟩;intro i hi hk;have q:=(h i oq hi).1.1 hk;obtain⟨j,j1,j2,j3⟩:=Z7K (c:=c) (l:=l) i oq q;exact⟨j,j1,j2,by omega⟩
 .intro h j _ hj;have b:=h.b j hj;have hd:=Z76 (λi hi hk=>(h.lg i hi hk).1) j oq;refine⟨⟨?_, ?_⟩,b.s.1,b.s.2,b.n.1,b.n.2,b.k.1,b.k.2,b.k0,b.k1, ?_,b.k3⟩
  .intro hk;obtain⟨i,i1,i2,i3⟩:=h.tl j hj hk;have:=h.due (show i<l.length by omega) i2 (j-i-1) oq;rw[show i+1+(j-i-1)=j by omega]at this;omega
  .intro hp;obtain⟨i,i1,i2,i3⟩:=Z7K j hd hp;have:=((h.lg i oq i2).2 (j-i) oq oq).2.1;rw[show i+(j-i)=j by omega]at this;exact this
  .intro hk;have q:=h.lg j hj hk;refine⟨q.1, ?_⟩;have:=Zad (l.getD j M).S (l.drop (j+1)) (need c (l.getD j M).U-1).toNat λm hm=>by
    have r:=q.2 (m+1) oq oq;have e2:(l.drop (j+1)).getD m M=l.getD (j+(m+1)) M:=by
     rw[Lh,Lh,LN,show j+1+m=j+(m+1) by omega]
    rw[e2];exact⟨by simp;omega,r.2⟩
   omega
def Z1u{h:Heap}:Z03 h=Lb↔Z07 h.C=Lb/\(h.W.length:Int)=h.C.pw*h.C.pg/\(h.P.length:Int)=h.C.pg/\(h.S=0\/h.S=1) /\
  (h.B=-1\/(0<=h.B/\h.B<h.P.length/\(h.P.getD h.B.toNat M).K=1))/\PT h.C h.P:=by
 rw[properB_iff,Zo2]
def PT.setPage{c:Conf}{l:List Page}(h:PT c l){i:Nat}(hi:i<l.length)(hk:(l.getD i M).K=0\/(l.getD i M).K=1){p:Page}(hp:PgOk c p)(hpk:p.K=0\/p.K=1):PT c (l.set i p):=by
 refine⟨?_, ?_, ?_⟩
 .intro j hj;rw[Lt]at hj;rw[Z0o hi];split
  .exact hp
  .exact h.b j hj
 .intro j hj hk2;rw[Lt]at hj;rw[Z0o hi]at hk2 ⊢;by_cases hij:i=j
  .rw[if_pos hij]at hk2;omega
  .rw[if_neg hij]at hk2 ⊢;have q:=h.lg j hj hk2;refine⟨q.1,λm h1 h2=>?_⟩;have r:=q.2 m h1 h2;rw[Lt,Z0o hi,if_neg (by rintro rfl;omega)];exact r
 .intro j hj hk3;rw[Lt]at hj;rw[Z0o hi]at hk3;by_cases hij:i=j
  .rw[if_pos hij]at hk3;omega
  .rw[if_neg hij]at hk3;obtain⟨a,a1,a2,a3⟩:=h.tl j hj hk3;refine⟨a,a1, ?_⟩;rw[Z0o hi,if_neg (by rintro rfl;omega)];exact⟨a2,a3⟩
def PT.mapPages{c:Conf}{l:List Page}(h:PT c l)(f:Page->Page)(h1:∀ p,PgOk c p->PgOk c (f p))(h2:∀ p,PgOk c p->(f p).K=2->p.K=2/\(f p).U=p.U)
  (h3:∀ p,PgOk c p->(f p).K=3->p.K=3) (h4:∀ p q,PgOk c p->PgOk c q->p.K=2->q.K=3->q.S=p.S->((f p).K=2↔(f q).K=3)/\((f p).K=2->(f q).S=(f p).S)):PT c (l.map f):=by
 have hg:∀ j,j<l.length->(l.map f).getD j M=f (l.getD j M):=by
  intro j hj;simp[Lh,hj]
 refine⟨?_, ?_, ?_⟩
 .intro j hj;rw[Lm]at hj;rw[hg j hj];exact h1 _ (h.b j hj)
 .intro j hj hk;rw[Lm]at hj;rw[hg j hj]at hk ⊢;have q:=h2 _ (h.b j hj) hk;have r:=h.lg j hj q.1;rw[q.2];refine⟨r.1,λm m1 m2=>?_⟩;have s:=r.2 m m1 m2;have t:=h4 _ _ (h.b j hj) (h.b (j+m) s.1) q.1 s.2.1 s.2.2;rw[Lm,hg _ s.1];exact⟨s.1,t.1.1 hk,t.2 hk⟩
 .intro j hj hk;rw[Lm]at hj;rw[hg j hj]at hk;have q:=h3 _ (h.b j hj) hk;obtain⟨a,a1,a2,a3⟩:=h.tl j hj q;have ha:a<l.length:=by omega
  have s:=(h.lg a ha a2).2 (j-a) oq oq;rw[show a+(j-a)=j by omega]at s;have t:=h4 _ _ (h.b a ha) (h.b j hj) a2 s.2.1 s.2.2;have hk2:=t.1.2 hk;refine⟨a,a1, ?_⟩;rw[hg a ha];exact⟨hk2,by rw[(h2 _ (h.b a ha) hk2).2];exact a3⟩
def Z8p{l:List Page}{i k:Nat}{p q:Page}(hk:1<=k)(h:i+k<=l.length)(j:Nat):(tookP l i k p q).getD j M=if j=i then p else if i<j/\j<i+k then q else l.getD j M:=by
 have hl:(wr l (Li k q) i k).length=l.length:=Z4R (by simpa using h) pq;unfold tookP;rw[Lh,List.getElem?_set];by_cases hj:j=i
 .subst hj;rw[if_pos rfl,if_pos rfl,if_pos oq];rfl
 .rw[if_neg (λe=>hj e.symm),if_neg hj,Z9t (by simpa using h) pq];by_cases h1:j<i
  .rw[if_pos h1,if_neg oq,Lh]
  .rw[if_neg h1];by_cases h2:j<i+k
   .rw[if_pos h2,if_pos oq];simp[show j-i<k by omega]
   .rw[if_neg h2,if_neg oq,Lh]
def PT.took{c:Conf}{l:List Page}(h:PT c l){i k:Nat}{n sp:Int}(hk:1<=k)(hik:i+k<=l.length)(hf:∀ j,j<k->(l.getD (i+j) M).K=0)(hn:need c n=k)(hs:sp=0\/sp=1):PT c (tookP l i k ⟨2,sp,n,0⟩ ⟨3,sp,0,0⟩):=by
 have hg:=Z8p (p:=⟨2,sp,n,0⟩) (q:=⟨3,sp,0,0⟩) hk hik;have hl:(tookP l i k ⟨2,sp,n,0⟩ ⟨3,sp,0,0⟩).length=l.length:=Z6o hik;have hf':∀ j,i<=j->j<i+k->(l.getD j M).K=0:=λj h1 h2=>by
  have:=hf (j-i) oq;rwa [show i+(j-i)=j by omega]at this
 refine⟨?_, ?_, ?_⟩
 .intro j hj;rw[hl]at hj;rw[hg];split
  .exact⟨by simp only;omega,by simp,by simp,by simp,by simp,by simp⟩
  .split
   .exact⟨by simp only;omega,by simp,by simp,by simp,by simp,by simp⟩
   .exact h.b j hj
 .intro j hj hk2;rw[hl]at hj ⊢;simp only[hg]at hk2 ⊢;by_cases hji:j=i
  .subst hji;simp only[if_pos]at hk2 ⊢;rw[hn];refine⟨by omega,λm h1 h2=>⟨by omega, ?_⟩⟩;rw[if_neg oq,if_pos oq];exact⟨rfl,rfl⟩
  .rw[if_neg hji]at hk2 ⊢;by_cases hr:i<j/\j<i+k
   .rw[if_pos hr]at hk2;simp at hk2
   .rw[if_neg hr]at hk2 ⊢;have q:=h.lg j hj hk2;refine⟨q.1,λm h1 h2=>?_⟩;have r:=q.2 m h1 h2;have hne:¬ (i<=j+m/\j+m<i+k):=λhc=>by
     have:=hf' (j+m) hc.1 hc.2;omega
    rw[if_neg oq,if_neg oq];exact r
 .intro j hj hk3;rw[hl]at hj;simp only[hg]at hk3 ⊢;by_cases hji:j=i
  .rw[if_pos hji]at hk3;simp at hk3
  .rw[if_neg hji]at hk3;by_cases hr:i<j/\j<i+k
   .refine⟨i,hr.1, ?_⟩;simp only[if_pos];refine⟨trivial, ?_⟩;rw[hn];omega
   .rw[if_neg hr]at hk3;obtain⟨a,a1,a2,a3⟩:=h.tl j hj hk3;have hne:¬ (i<=a/\a<i+k):=λhc=>by
     have:=hf' a hc.1 hc.2;omega
    refine⟨a,a1, ?_⟩;rw[if_neg oq,if_neg oq];exact⟨a2,a3⟩
def Z5b{l:List Page}{i:Nat}{n:Int}:Z2a l i n=l.set i ⟨(l.getD i M).K,(l.getD i M).S,(l.getD i M).U+n,(l.getD i M).N⟩:=rfl
def Z3O{h:Heap}(hs:h.S=0\/h.S=1)(hf:0<=first h.P 1)(n:Int):Z2a (Z38 h) (first h.P 1).toNat n=h.P.set (first h.P 1).toNat ⟨1,h.S,n,0⟩/\(h.P.getD (first h.P 1).toNat M).K=0/\(first h.P 1).toNat<h.P.length:=by
 obtain⟨f1,f2,f3,f4⟩:=Z2Y hs hf;obtain⟨g1,g2,g3⟩:=Z1I hf;have hi:(first h.P 1).toNat<h.P.length:=by omega
 refine⟨?_, ?_,hi⟩
 .rw[Z5b,f4,f1,Z87 hi,List.set_set];simp
 .have:=freeK_iff.1 g3 0 dd;simpa using this
structure PutOk (h:Heap) (n:Int) (h':Heap) (a:Int):Prop where
 pr:Z03 h'=Lb
 c:h'.C=h.C
 w:h'.W=h.W
 l:h'.P.length=h.P.length
 sp:h'.S=h.S
 pin:∀ p∈h'.P,p.N=0\/∃ q∈h.P,p.N=q.N
 lo:4096<=a
 hi:a+n<=4096+h.W.length
def getD_in{l:List Page}{i:Nat}(h:i<l.length):l.getD i M∈l:=by
 rw[Lh,Lk h];exact LO h
def ZgD{h:Heap}{n:Int}(hp:Z03 h=Lb)(hn:1<=n/\n<=h.C.pw)(e:(Z0k h n).2.2=Lb):PutOk h n (Z0k h n).1 (Z0k h n).2.1:=by
 have hp':=hp;rw[Z1u]at hp;obtain⟨p1,p2,p3,p4,p5,p6⟩:=hp;have hb:=validB_iff.1 p1;by_cases hf:Z7f h n
 .have e7:Z0k h n=(⟨h.C,h.W,Z2a h.P h.B.toNat n,h.S,h.B⟩,4096+h.B*h.C.pw+(h.P.getD h.B.toNat M).U,Lb):=by rw[Z0k,if_pos hf]
  unfold Z7f at hf;have hbi:h.B.toNat<h.P.length:=by omega
  have hk:(h.P.getD h.B.toNat M).K=1:=by omega
  have ok:=p6.b h.B.toNat hbi;have u:=ok.k1 hk;have ha:=Z2G p1 (i:=h.B) oq oq;have hio:=Z11 (i:=h.B) (j:=h.C.pg) (pw:=h.C.pw) oq oq;rw[LC h.C.pg]at hio;rw[e7];refine⟨?_,rfl,rfl,by simp[Z2a],rfl, ?_,by simp only;omega,by simp only;omega⟩
  .rw[Z1u];refine⟨p1,p2,by simp[Z2a,p3],p4, ?_, ?_⟩
   .refine Ln ⟨hf.1,by simp[Z2a];omega, ?_⟩;show((Z2a h.P h.B.toNat n).getD h.B.toNat M).K=1;rw[Z5b,Z0o hbi,if_pos rfl];exact hk
   .exact p6.setPage hbi (Ln hk) ⟨ok.s,ok.n,ok.k,λq=>by simp only at q;omega,λ_=>by simp only;omega,λq=>by simp only at q;omega⟩ (Ln hk)
  .intro p hp;rcases LS hp with hp | rfl
   .exact Ln ⟨p,hp,rfl⟩
   .exact Ln ⟨_,getD_in hbi,rfl⟩
 .by_cases hg:0<=first h.P 1/\(Z1V h.P:Int)<Z2c h.C
  .have e7:Z0k h n=(⟨h.C,h.W,Z2a (Z38 h) (first h.P 1).toNat n,h.S,first h.P 1⟩,4096+first h.P 1*h.C.pw+((Z38 h).getD (first h.P 1).toNat M).U,Lb):=by rw[Z0k,if_neg hf,if_pos hg]
   obtain⟨g1,g2,g3⟩:=Z3O p4 hg.1 n;have g4:=congrArg Page.U (Z2Y p4 hg.1).2.2.2;simp only at g4;have ha:=Z2G p1 (i:=first h.P 1) oq oq;have hio:=Z11 (i:=first h.P 1) (j:=h.C.pg) (pw:=h.C.pw) oq oq;rw[LC h.C.pg]at hio;rw[e7,g1,g4];refine⟨?_,rfl,rfl,by simp,rfl, ?_,by simp only;omega,by simp only;omega⟩
   .rw[Z1u];refine⟨p1,p2,by simp[p3],p4, ?_, ?_⟩
    .refine Ln ⟨hg.1,by simp only[Lt];omega, ?_⟩;simp only;rw[Z0o g3,if_pos rfl]
    .exact p6.setPage g3 (LA g2) ⟨by simp only;omega,by simp,by simp,by simp,λ_=>by simp only;omega,by simp⟩ (Ln rfl)
   .intro p hp;rcases LS hp with hp | rfl
    .exact Ln ⟨p,hp,rfl⟩
    .exact LA rfl
  .rw[Z0k,if_neg hf,if_neg hg]at e;simp at e
def ZfS{h:Heap}{n:Int}(hp:Z03 h=Lb)(hk:1<=need h.C n)(e:(Z0s h n (need h.C n)).2.2=Lb):PutOk h n (Z0s h n (need h.C n)).1 (Z0s h n (need h.C n)).2.1:=by
 have hp':=hp;rw[Z1u]at hp;obtain⟨p1,p2,p3,p4,p5,p6⟩:=hp;have hb:=validB_iff.1 p1;by_cases hg:0<=first h.P (need h.C n)/\Z1V h.P+need h.C n<=Z2c h.C
 .obtain⟨g1,g2,g3⟩:=Z1I hg.1;have el:(Z2y h.C h.P (first h.P (need h.C n)) h.S n).1=tookP h.P (first h.P (need h.C n)).toNat (need h.C n).toNat ⟨2,h.S,n,0⟩ ⟨3,h.S,0,0⟩:=by
   rw[Z2y,if_pos ⟨hk,by omega⟩,Z2J,if_pos oq,if_pos g3]
  have e7:Z0s h n (need h.C n)=(⟨h.C,h.W,tookP h.P (first h.P (need h.C n)).toNat (need h.C n).toNat ⟨2,h.S,n,0⟩ ⟨3,h.S,0,0⟩,h.S,h.B⟩,4096+first h.P (need h.C n)*h.C.pw,Lb):=by rw[Z0s,if_pos hg,el]
  have hf:∀ j,j<(need h.C n).toNat->(h.P.getD ((first h.P (need h.C n)).toNat+j) M).K=0:=freeK_iff.1 g3;have hlen:(tookP h.P (first h.P (need h.C n)).toNat (need h.C n).toNat ⟨2,h.S,n,0⟩ ⟨3,h.S,0,0⟩).length=h.P.length:=Z6o oq;have hu:=Z4V hk;have h0:0<=first h.P (need h.C n)*h.C.pw:=L3 hg.1 oq
  have hio:=Int.mul_le_mul_of_nonneg_right (show first h.P (need h.C n)+need h.C n<=h.C.pg by omega) (show 0<=h.C.pw by omega);rw[LL,LC h.C.pg]at hio;rw[e7];refine⟨?_,rfl,rfl,hlen,rfl, ?_,by simp only;omega,by simp only;omega⟩
  .rw[Z1u];refine⟨p1,p2,by simp only[hlen];exact p3,p4, ?_, ?_⟩
   .simp only[hlen];rcases p5 with p5 | p5
    .exact LA p5
    .refine Ln ⟨p5.1,p5.2.1, ?_⟩;have hne:¬ ((first h.P (need h.C n)).toNat<=h.B.toNat/\h.B.toNat<(first h.P (need h.C n)).toNat+(need h.C n).toNat):=λhc=>by
      have:=hf (h.B.toNat-(first h.P (need h.C n)).toNat) oq;rw[show(first h.P (need h.C n)).toNat+(h.B.toNat-(first h.P (need h.C n)).toNat)=h.B.toNat by omega]at this;omega
     rw[Z8p oq oq,if_neg oq,if_neg oq];exact p5.2.2
   .exact p6.took oq oq hf oq p4
  .intro p hp;rcases LS hp with hp | rfl
   .simp only[wr,LQ]at hp;rcases hp with(hp | hp) | hp
    .exact Ln ⟨p,L9 hp,rfl⟩
    .have:=List.eq_of_mem_replicate (L9 hp);subst this;exact LA rfl
    .exact Ln ⟨p,List.mem_of_mem_drop hp,rfl⟩
   .exact LA rfl
 .rw[Z0s,if_neg hg]at e;simp at e
def Zhm{hd:Header}(hv:Z0d hd=Lb)(hm:0<=hd.map/\hd.map<=4294967295):WOk (objW hd)/\((objW hd).length:Int)=sizeH hd:=by
 have hb:=Zap hv hm.1 hm.2;constructor
 .intro x hx;simp only[objW,LR,LH,Z0a,if_pos hv]at hx;rcases hx with rfl | ⟨_,rfl⟩<;>omega
 .rw[sizeH,if_pos hv];simp[objW];omega
def ZhZ{h:Heap}{hd:Header}(hw:WOk h.W)(hm:0<=hd.map/\hd.map<=4294967295)(e:(new7 h hd).2.2=0) :
  Z03 h=Lb/\Z31 h.C hd=Lb/\PutOk h (sizeH hd) (put7 h hd).1 (put7 h hd).2.1/\(put7 h hd).2.2=Lb/\(new7 h hd).2.1=(put7 h hd).2.1/\(new7 h hd).1 = { (put7 h hd).1 with W:=(Z0r h.W (put7 h hd).2.1 (objW hd)).1 }/\Z03 (new7 h hd).1=Lb/\WOk (new7 h hd).1.W:=by
 unfold new7 at e;split at e
 .rename_i c1;split at e
  .rename_i c2;obtain⟨a1,a2,a3,a4,a5⟩:=Z7w c1.2;have po:=Z08 c1.1;have hput:PutOk h (sizeH hd) (put7 h hd).1 (put7 h hd).2.1:=by
    by_cases hn:0<need h.C (sizeH hd)
    .have e7:put7 h hd=Z0s h (sizeH hd) (need h.C (sizeH hd)):=by rw[put7,if_pos hn]
     rw[e7]at c2 ⊢;exact ZfS c1.1 oq c2
    .have e7:put7 h hd=Z0k h (sizeH hd):=by rw[put7,if_neg hn]
     rw[e7]at c2 ⊢;refine ZgD c1.1 ⟨a2, ?_⟩ c2;unfold need at hn a4;split at a4
     .rename_i hc;rw[if_pos hc]at hn;split at a4
      .omega
      .rename_i hd';rw[if_neg hd']at hn;have e:=Int.mul_ediv_add_emod (sizeH hd+h.C.pw-1) h.C.pw;have hz:(sizeH hd+h.C.pw-1)/h.C.pw=0:=by omega
       rw[hz]at e;have:=Int.emod_lt_of_pos (sizeH hd+h.C.pw-1) (b:=h.C.pw) oq;omega
     .omega
   have ho:=Zhm a1 hm;have hin:4096<=(put7 h hd).2.1/\(put7 h hd).2.1-4096+(objW hd).length<=h.W.length:=⟨hput.lo,by have:=hput.hi;omega⟩
   have e2:Z0r h.W (put7 h hd).2.1 (objW hd)=(spl h.W ((put7 h hd).2.1-4096).toNat (objW hd),0):=by rw[Z0r,if_pos hin]
   have hlen:(spl h.W ((put7 h hd).2.1-4096).toNat (objW hd)).length=h.W.length:=Z3I oq;have e3:(Z1e (put7 h hd).1 (put7 h hd).2.1 hd).1 = { (put7 h hd).1 with W:=(Z0r h.W (put7 h hd).2.1 (objW hd)).1 }:=by
    rw[Z1e,if_pos ⟨hput.pr,a1⟩,hput.w,e2];simp
   have e4:new7 h hd=((Z1e (put7 h hd).1 (put7 h hd).2.1 hd).1,(put7 h hd).2.1,0):=by rw[new7,if_pos c1,if_pos c2]
   refine⟨c1.1,c1.2,hput,c2,by rw[e4],by rw[e4];exact e3, ?_, ?_⟩
   .rw[e4];simp only;rw[e3,e2];have q:=hput.pr;rw[Z1u]at q ⊢;refine⟨q.1, ?_,q.2.2.1,q.2.2.2.1,q.2.2.2.2.1,q.2.2.2.2.2⟩;simp only[hlen];have:=q.2.1;rw[hput.w]at this;exact this
   .rw[e4];simp only;rw[e3];exact Z6A hw ho.1 _
  .simp at e
 .simp at e
def Zj6{h:Heap}{a:Int}(e:(atH h a).2=0):4096<=a/\a+(atH h a).1.length<4096+h.W.length:=by
 have k:=ZfG e;have po:=Z08 k.1;have o:=Z3x po.1 k.2.1;have hj:(ofA h.C a).1.toNat<h.P.length:=by omega
 have hk:(((ofA h.C a).1.toNat:Nat):Int)=(ofA h.C a).1:=by omega
 have h2:=e;unfold atH at h2 ⊢;rw[if_pos k.1,if_pos k.2.1]at h2 ⊢;split at h2
 .rename_i g1;split at h2
  .simp at h2
  .rename_i g2;rw[if_pos g1,if_neg g2];have hv:Z0d (decodeH (loadA h.W a).1).1=Lb:=Z2j _;have hs:sizeH (decodeH (loadA h.W a).1).1=(decodeH (loadA h.W a).1).1.length+1:=by rw[sizeH,if_pos hv]
   have hvb:=(validH_iff.1 hv).2.2.1;have ue:=ZaX k.1 hj g1.1;rw[hk]at ue;have h0:0<=(ofA h.C a).1*h.C.pw:=L3 o.1 oq;have hio:=Z11 (i:=(ofA h.C a).1) (j:=h.C.pg) (pw:=h.C.pw) o.2.1 oq;rw[LC h.C.pg]at hio;have hL:=po.2.2.2.2.2.1;refine⟨by omega, ?_⟩;simp only;rcases g1.1 with g | g<;>omega
 .simp at h2
def Z7X{h:Heap}{a i v:Int}(hw:WOk h.W)(hv:0<=v/\v<=18446744073709551615)(e:(getH h a).2=0)(hi:0<=i/\i<(getH h a).1.length):Z0p h a i v=({ h with W:=(Z0D h.W (a+1+i) v).1 },0)/\Z03 (Z0p h a i v).1=Lb/\WOk (Z0p h a i v).1.W:=by
 have g:=Z4l e;have k:=Zj6 g.2.1;rw[<- g.1]at k;have hin:4096<=a+1+i/\a+1+i<4096+h.W.length:=by omega
 have hf:(Z1P h a i).2=0:=by
  unfold Z1P;rw[if_pos e,if_pos hi];unfold loadA;rw[if_pos hin]
 have e1:Z0p h a i v=({ h with W:=(Z0D h.W (a+1+i) v).1 },0):=by rw[Z0p,if_pos hf]
 refine⟨e1, ?_, ?_⟩
 .rw[e1];have q:=g.2.2.1;rw[Z1u]at q ⊢;refine⟨q.1, ?_,q.2.2.1,q.2.2.2.1,q.2.2.2.2.1,q.2.2.2.2.2⟩;simp only[Z2x hin];exact q.2.1
 .rw[e1];exact Z82 hw hv _
def Z64(h:Header)(i:Int)(hm:0<=h.map/\h.map<=4294967295):GP 162 [h.av,int i] Lb (bool (Z0c h i)) []:=by
 rcases bb (!Z0d h||Lc (i<0)||Lc (h.length<=i))with hc0 | hc0<;>have hc0p:=hc0<;>simp only[bs]at hc0p
 .exact gF [] func162 (fO 6) (Fc 6 (@Z2P h aa) (Ft 17 hc0 (Fa (by grind[Z0c]:Ld=Z0c h i) Fz)))
 .obtain⟨⟨hc0paa,hc0pab⟩,hc0pb⟩:=hc0p;have hf3:=validH_iff.1 hc0paa;obtain⟨hf3a,⟨hf3ba,⟨hf3bba,⟨hf3bbba,hf3bbbb⟩⟩⟩⟩:=hf3;exact gF [] func162 (fO 17) (Fc 6 (@Z2P h aa) (Ff 17 hc0 (Fa (by intro hg;(try simp only[bs]at hg);omega:(!h.K==2&&h.K==1)=Lb->0<=i) (Fa (by exact ZlJ h i hm aa oq oq:(h.K==2||h.K==1&&bits BinOp.and IntKind.u32 (h.map.fdiv (2^min i.toNat 32)) (1:Int)==1)=Z0c h i) Fz))))
def hptL(h:Header)(i:Nat):Tg:=⟨tm 19 [(1,.pt 8001 0 0),(2,.d (.sl 0 [])),(3,.ow 16003),(6,int (sizeH h)),(7,int i)],[(16003,.arr 3 1 ((Z0Q h i).map idv)),(8001,.box 52 [int h.K,int h.length,u32 h.map])],60⟩
def Zkv(h:Header)(i:Nat)(hm:0<=h.map/\h.map<=4294967295)(hi:(i:Int)<sizeH h):CP (rndF f110 0) (hptL h i).st .nrm (hptL h (i+1)).st:=by
 have hn:=Z5f h i;have hs:=Z1q h;by_cases hp:Z0c h (i:Int)=Lb
 .have e:Z0Q h (i+1)=Z0Q h i++[(i:Int)]:=by rw[Z0Q,if_pos hp]
  exact sF [(504016,16003)] (fO 5) (Fh 12 [.call Lb (Sx.bool (Z0c h (i:Int))) [],.br Lb] (Fh 16 [.els (La idv (Z0Q h i++[(i:Int)]))] (Ftb 8 (Lc ((i:Int)<sizeH h)) (Fa (@Z64 h ((i:Int)) aa) (Fa ‹Z0c h (i:Int)=Lb› (Fs 15 (La idv [(i:Int)]) (Fa (by(simp[*];omega):(La idv (Z0Q h i)).length+(La idv [(i:Int)]).length<=2^30) (Fa (ms:La idv (Z0Q h i)++La idv [(i:Int)]=La idv (Z0Q h i++[(i:Int)])) (Fx 17 i (Fr (3:Int) (Fa (by refine congrArg _ ?_;rw[e]:La idv (Z0Q h i++[(i:Int)])=La idv (Z0Q h (i+1))) Fz)))))))))))
 .have e:Z0Q h (i+1)=Z0Q h i:=by rw[Z0Q,if_neg hp]
  have hp':Z0c h (i:Int)=Ld:=by simpa using hp
  exact sF [] (fO 5) (Fh 12 [.call Lb (Sx.bool (Z0c h (i:Int))) [],.br Ld] (Ftb 8 (Lc ((i:Int)<sizeH h)) (Fa (@Z64 h ((i:Int)) aa) (Fa ‹Z0c h (i:Int)=Ld› (Fx 17 i (Fr (3:Int) (Fa (by refine congrArg _ ?_;rw[e]:La idv (Z0Q h i)=La idv (Z0Q h (i+1))) Fz)))))))
def ZnQ(h:Header)(i:Nat)(hi:(i:Int)=sizeH h):CP (rndF f110 0) (hptL h i).st (.ext 0) (Tg.st ⟨tm 19 [(2,.d (.sl 0 [])),(3,.ow 16003)],[(16003,.arr 3 1 ((Z0Q h i).map idv))],60⟩):=by
 exact sF [] [] (Ffb 8 (Lc ((i:Int)<sizeH h)) Fz)
def Zdd(h:Header):Z0Q h (sizeH h).toNat=Z02 h:=by
 unfold Z02 sizeH;by_cases hv:Z0d h=Lb
 .rw[if_pos hv,if_pos hv];have hb:=validH_iff.1 hv;rw[show(h.length+1).toNat=h.length.toNat+1 from by omega,Z0Q,if_neg];unfold Z0c;simp;omega
 .rw[if_neg hv,if_neg hv];rfl
def Zm9(h:Header)(hm:0<=h.map/\h.map<=4294967295):CP (blkF f110 0) (Tg.st ⟨tm 19 [(1,.pt 8001 0 0),(2,.d (.sl 0 [])),(3,.ow 16003),(6,int (sizeH h)),(7,int 0)],[(16003,.arr 3 1 []),(8001,.box 52 [int h.K,int h.length,u32 h.map])],60⟩) .nrm (Tg.st ⟨tm 19 [(2,.d (.sl 0 [])),(3,.ow 16003)],[(16003,.arr 3 1 ((Z02 h).map idv))],60⟩):=by
 have hs:=Z1q h;rw[<- Zdd];exact Z0b (S:=λi=>(hptL h i).st) (sizeH h).toNat kr (λi hi=>Zkv h i hm oq) (ZnQ h _ oq)
def Z3H(h:Header)(hm:0<=h.map/\h.map<=4294967295):GP 110 [h.av] Lb (.d (.sl 1 ((Z02 h).map idv))) []:=by
 exact gF [] func110 [] (Fh 3 [.own] (Fc 6 (@Z1i h aa) (Fu (@Zm9 h aa) (Fa (by exact ZeC _:Z1k (La idv (Z02 h))) Fz))))
end Go.Proofs.YtgedmeaemofdkaaGreat
namespace Go.Sx
def mvP(ids:List Nat)(post:List Blk)(n:Nat):List Blk:=(upto 0 n).map λk=>match idxN k ids 0 with
 | some j=>Z3q ids (post.getD j .dead)
 | none=>.dead
def mvOk(m p n:Nat)(ids:List Nat):Bool:=Xc ids.length p&&Lx m p&&Lx m n&&nodupB ids&&(upto 0 p).all (λj=>Lx (ids.getD j 0+1) n&&(Xc (ids.getD j 0) j||Lx m (ids.getD j 0)))&&(upto 0 n).all λk=>match idxN k ids 0 with | Le _=>Lb | Lf=>Lx (k+1) m
def Zjo{P:Program}{f:Nat}{args:List AV}{pre:List Blk}{res:AV}{post:List Blk}(ids:List Nat)(n:Nat){res2:AV}{post2:List Blk}(h:BorSpec P f args pre res post)(ok:mvOk pre.length post.length n ids=Lb)(hr:mapT (renI ids) res=res2)(hp:mvP ids post n=post2):BorSpec P f args pre res2 post2:=by
 simp only[mvOk,L1,List.all_eq_true,Bool.or_eq_true]at ok;obtain⟨⟨⟨⟨⟨k1,k2⟩,k3⟩,k4⟩,k5⟩,k6⟩:=ok;have k1:=Xd k1;have k2:=Ly k2;have k3:=Ly k3;have k4:=Z2Q k4;have mem:∀ {j p:Nat},j<p->j∈upto 0 p:=λ{j p} hj=>LG (by rw[Z7k _ _ _ hj,LW]);have k5:∀ j,j<post.length->ids.getD j 0<n/\(ids.getD j 0=j\/pre.length<=ids.getD j 0):=λj hj=>by
  have:=k5 j (mem hj);exact⟨Ly this.1,this.2.imp Xd Ly⟩
 have k6:∀ k,k<n->idxN k ids 0=Lf->k<pre.length:=λk hk e=>by
  have:=k6 k (mem hk);rw[e]at this;exact Ly this
 subst hr hp;have pl:(mvP ids post n).length=n:=by simp[mvP,Z7q]
 have pg:∀ (k:Nat) (B:Blk),(mvP ids post n)[k]? = Le B->k<n/\((∃ j,ids[j]? = Le k/\j<post.length/\B=Z3q ids (post.getD j .dead))\/(k<pre.length/\B = .dead)):=λk B hB=>by
  have hk:k<n:=by have:=(LD.1 hB).1;omega
  simp only[mvP,L8,Z7k _ _ _ hk,LW,Xg,Option.some.injEq]at hB;refine⟨hk, ?_⟩;cases e:idxN k ids 0 with
  | none=>rw[e]at hB;exact .inr ⟨k6 k hk e,hB.symm⟩
  | some j =>
   rw[e]at hB;obtain⟨_,q⟩:=Z1F e;have q:ids[j]? = Le k:=by simpa using q
   exact .inl ⟨j,q,by have:=(LD.1 q).1;omega,hB.symm⟩
 intro w Im ρ vs hIm hsz hρ hinj hbnd hpre hargs;refine(h w Im ρ vs hIm hsz hρ hinj hbnd hpre hargs).mono ?_;rintro e w' ⟨v,rfl,hk,ρ',Im',a1,a2,a3,a4,a5,a6,a7,a8,a9⟩;let ρ2:Rho:=λk=>if k<pre.length then ρ' k else match idxN k ids 0 with | Le j=>ρ' j | Lf=>Lf
 have hlow:∀ k,k<pre.length->ρ2 k=ρ' k:=λk hk=>by simp only[ρ2,if_pos hk]
 have hat:∀ (j k:Nat),ids[j]? = Le k->ρ2 k=ρ' j:=λj k q=>by
  have hj:j<post.length:=by have:=(LD.1 q).1;omega
  have e:ids.getD j 0=k:=by rw[Lh,q];rfl
  have c:=k5 j hj;rw[e]at c;by_cases hkp:k<pre.length
  .rw[hlow k hkp];rcases c.2 with c | c
   .rw[c]
   .omega
  .simp only[ρ2,if_neg hkp];cases ex:idxN k ids 0 with
   | none=>exact absurd (LG q) (Z40 ex)
   | some j2 =>
    obtain⟨_,q2⟩:=Z1F ex;rw[Z4e k4 q (by simpa using q2)]
 have hfrom:∀ k β,ρ2 k=Le β->∃ j,ρ' j=Le β/\k<n:=λk β hb=>by
  by_cases hkp:k<pre.length
  .rw[hlow k hkp]at hb;exact⟨k,hb,by omega⟩
  .simp only[ρ2,if_neg hkp]at hb;split at hb
   .rename_i j hj;obtain⟨_,q⟩:=Z1F hj;have q:ids[j]? = Le k:=by simpa using q
    have hj:j<post.length:=by have:=(LD.1 q).1;omega
    have:=k5 j hj;rw[Lh,q]at this;exact⟨j,hb,this.1⟩
   .cases hb
 have hren:∀ j β,ρ' j=Le β->ρ2 (ids.getD j 0)=Le β:=λj β hb=>by
  have hj:=a2 j β hb;have q:ids[j]? = Le (ids.getD j 0):=by rw[Lh,Lk oq];rfl
  rw[hat j _ q];exact hb
 have hlv:∀ k,live (hL (mvP ids post n)) k->∃ j,ids[j]? = Le k/\live (hL post) j:=by
  rintro k ⟨B,hB,hd⟩;obtain⟨_,⟨j,q1,q2,q3⟩ | ⟨_,q⟩⟩:=pg k B hB
  .refine⟨j,q1,post[j],Lk q2,λe=>hd ?_⟩;rw[q3,Lh,Lk q2];simp only[LY,e,Z3q]
  .exact absurd q hd
 refine⟨v,rfl,hk,ρ2,Im',λk β hb=>?_,λk β hb=>?_,a3,a4,λk β g hb=>?_,λk β g hl hb=>?_,λk k' β β' g hl hl' hb hb' hg hg'=>?_,λk B hB=>?_, ?_⟩
 .rw[hlow k (hρ k β hb)];exact a1 k β hb
 .obtain⟨j,_,q⟩:=hfrom k β hb;rw[pl];exact q
 .obtain⟨j,q,_⟩:=hfrom k β hb;exact a5 j β g q
 .obtain⟨j,q1,q2⟩:=hlv k hl;rw[hat j k q1]at hb;exact a6 j β g q2 hb
 .obtain⟨j,q1,q2⟩:=hlv k hl;obtain⟨j',q1',q2'⟩:=hlv k' hl';rw[hat j k q1]at hb;rw[hat j' k' q1']at hb';have:=a7 j j' β β' g q2 q2' hb hb' hg hg';subst this;rw[q1]at q1';exact Option.some.inj q1'
 .obtain⟨_,⟨j,q1,q2,rfl⟩ | ⟨q,rfl⟩⟩:=pg k B hB
  .obtain⟨β,m1,m2⟩:=a8 j _ (Lk q2);rw[Lh,Lk q2];exact⟨β,by rw[hat j k q1];exact m1,Z8B (λ_ h=>h) hren m2⟩
  .obtain⟨β,m1,_⟩:=hpre k _ (Lk q);exact⟨β,by rw[hlow k q];exact a1 k β m1,trivial⟩
 .obtain⟨q1,q2,q3⟩:=Z7i (w:=w') (Im:=Im') (Im':=Im') hren;exact Z7p (λ_ h=>h) q1 q2 q3 a9
end Go.Sx
namespace Go.Proofs.YtgedmeaemofdkaaGreat
open Go.Sx
def seaP(all l:List Int):List Blk:=[.box 105 [Z01 all,.pt 1 0 99999,.ow 2],.mp l,.arr 35 1 (l.map wdv)]
def seaQ(all l:List Int):List Blk:=[.box 105 [Z01 all,.pt 1 0 99999,.ow 3],.mp l,.dead,.arr 35 1 (l.map wdv)]
section
variable (all l:List Int) (r:Int) (h0:0<=r/\r<=18446744073709551615) (hl:l.length<=1048576) (ha:all.length<=1048576) (hs:all.Pairwise (· < ·))
include h0 hl ha hs
theorem ZlH(h:r≠0)(hr:r∉all):BP 108 [.pt 0 0 0,u64 r] (seaP all l) (bool Ld) (seaP all l):=by
 exact borF [0,1,2] [] func108 [] (Ffb 10 (r==0) (Fc 17 (@bsearch all r aa aa) (Ftb 21 (!decide (r∈all)) Fz)))
theorem Zo7(h:r=0\/r∈all)(hr:r=0\/r∈l):BP 108 [.pt 0 0 0,u64 r] (seaP all l) (bool Lb) (seaP all l):=by
 by_cases c:r=0
 .exact borF [0,1,2] [] func108 [] (Ftb 10 (r==0) Fz)
 .have h:=h.resolve_left c;have hr:=hr.resolve_left c;exact borF [0,1,2] [] func108 [] (Ffb 10 (r==0) (Fc 17 (@bsearch all r aa aa) (Ffb 21 (!decide (r∈all)) (Ff 32 (by simp[mpC, *]:(!mpC l r)=Ld) Fz))))
theorem Znt(h:r≠0)(hr:r∈all)(hn:r∉l):BP 108 [.pt 0 0 0,u64 r] (seaP all l) (bool Lb) [.box 105 [Z01 all,.pt 1 0 99999,.ow 3],.mp (l++[r]),.dead,.arr 35 1 ((l++[r]).map wdv)]:=by
 exact borF [0,1,8002] [72050] func108 [] (Fh 50 [.els (La wdv (l++[r]))] (Ffb 10 (r==0) (Fc 17 (@bsearch all r aa aa) (Ffb 21 (!decide (r∈all)) (Ft 32 (by simp[mpC, *]:(!mpC l r)=Lb) (Fl 42 wdv l (Fa (by intro hg;(try simp only[bs]at hg);grind[mpC]:r∈l->False) (Fr (l.length:Int) (Fo (l.length<2^30) (Fs 49 (La wdv [r]) (Fa (by(simp[mpC, *];omega):(La wdv l).length+(La wdv [r]).length<=2^30) (Fa (by simp[mpC,Lq,Ls,Lp,Lo,wdv,idv]:La wdv l++La wdv [r]=La wdv (l++[r])) Fz))))))))))))
theorem Zo9(h:r=0\/r∈all):BP 108 [.pt 0 0 0,u64 r] (seaP all l) (bool Lb) (seaQ all (addO l r)):=by
 by_cases c:r=0\/r∈l
 .rw[addO,if_pos c];exact Zjo [0,1,3] 4 (Zo7 all l r h0 hl ha hs h c) (by rfl) rfl rfl
 .rw[addO,if_neg c];exact Znt all l r h0 hl ha hs (λq=>c (.inl q)) (h.resolve_left λq=>c (.inl q)) (λq=>c (.inr q))
end
def ZgT(hd:Header)(fs:List Int)(f:Int->Int):∀ n:Nat,(∀ k:Nat,k<n->fs.getD k M=f k)->Zfq hd fs n=(Z0Q hd n).map f
 | 0,_=>rfl
 | n+1,h=>by
  unfold Zfq Z0Q;rw[ZgT hd fs f n (λk hk=>h k oq),h n oq];split
  .simp
  .rfl
def Z8j{h:Heap}(hp:Z03 h=Lb){a:Int}(ha:a∈(Z04 h).1):(getH h a).2=0/\(atH h a).2=0/\(atH h a).1.K≠0:=by
 obtain⟨h1,h2⟩:=List.mem_filter.1 ha;have h2:(atH h a).1.K≠0:=by simpa[Z36]using h2
 rw[Zby]at h1;obtain⟨x,hx,rfl⟩:=Lu.1 h1;have h3:=(Zib x hx).2;refine⟨?_,h3,h2⟩;unfold getH;have z:x.addr≠0:=λe=>ZaA h (by have:=h3;rw[e]at this;exact this);rw[if_pos hp,if_neg z,if_neg (λe=>h2 e.2)];exact h3
def Z0u(h:Heap)(a:Int):List Int:=(Z02 (atH h a).1).map λj=>(loadA h.W (a+1+j)).1
def ZnX{l:List Int}{a:Int}(h:l.Nodup)(ha:a∉l):(l++[a]).Nodup:=by
 rw[Xa];refine⟨h,by simp,λb hb c hc=>?_⟩;rw[LU]at hc;rintro rfl;exact ha (hc▸hb)
def Zn6{all out:List Int}{r:Int}(h:out.Nodup/\∀ x∈out,x∈all)(hr:r=0\/r∈all):(addO out r).Nodup/\∀ x∈addO out r,x∈all:=by
 unfold addO;split
 .exact h
 .rename_i c;refine⟨ZnX h.1 (λq=>c (.inr q)),λx hx=>?_⟩;rcases LQ.1 hx with hx | hx
  .exact h.2 x hx
  .rw[LU.1 hx];exact hr.resolve_left λq=>c (.inl q)
def Zel{refs all:List Int}{i:Nat}(h:rfsB refs all i=Ld):refs.getD i M=0\/refs.getD i M∈all:=by
 have:=of_decide_eq_false h;by_cases c:refs.getD i M=0
 .exact .inl c
 .exact .inr (L2.1 λq=>this ⟨c,q⟩)
def Z6G{all out refs:List Int}(h:out.Nodup/\∀ x∈out,x∈all):∀ n,(∀ j,j<n->rfsB refs all j=Ld)->(addN out refs n).Nodup/\∀ x∈addN out refs n,x∈all
 | 0,_=>h
 | n+1,hb=>Zn6 (Z6G h n λj hj=>hb j oq) (Zel (hb n oq))
def Zbr{refs all:List Int}(h:(Lj refs.length).find? (rfsB refs all)=Lf):∀ j,j<refs.length->rfsB refs all j=Ld:=λj hj=>by
 simpa using L6.1 h j (Lv.2 hj)
def Zdg:∀ {l m:List Int},l.Nodup->(∀ x∈l,x∈m)->l.length<=m.length
 | [],_,_,_=>Xf _
 | a::l,m,hn,h=>by
  obtain⟨h1,h2⟩:=List.nodup_cons.1 hn;have ha:=h a pq;have:=Zdg (l:=l) (m:=m.erase a) h2 (λx hx=>(List.mem_erase_of_ne (by rintro rfl;exact h1 hx)).2 (h x (by simp[hx])));have e:=List.length_erase_of_mem ha;have:=List.length_pos_of_mem ha;simp only[List.length_cons];omega
def ordG(h:Heap)(roots:List Int):Nat->List Int
 | 0=>addN [] roots roots.length
 | i+1=>addN (ordG h roots i) (Z0u h ((ordG h roots i).getD i M)) (Z0u h ((ordG h roots i).getD i M)).length
def badG(h:Heap)(roots:List Int)(i:Nat):Bool:=((Lj (Z0u h ((ordG h roots i).getD i M)).length).find? (rfsB (Z0u h ((ordG h roots i).getD i M)) (Z04 h).1)).isSome
def ordT(h:Heap)(roots:List Int):Nat->Nat->Nat
 | 0,i=>i
 | f+1,i=>if(ordG h roots i).length<=i\/badG h roots i=Lb then i else ordT h roots f (i+1)
def ordZ(h:Heap)(roots:List Int):Nat:=ordT h roots 16385 0
def Z3X(h:Heap)(roots:List Int):Bool:=((Lj roots.length).find? (rfsB roots (Z04 h).1)).isSome
structure OrdI (h:Heap) (roots:List Int) (k:Nat):Prop where
 lo:∀ i,i<k->i<(ordG h roots i).length/\badG h roots i=Ld
 el:∀ i,i<=k->(ordG h roots i).Nodup/\∀ x∈ordG h roots i,x∈(Z04 h).1
def OrdI.len{h:Heap}{roots:List Int}{k:Nat}(I:OrdI h roots k){i:Nat}(hi:i<=k):(ordG h roots i).length<=16384 :=
 LI (Zdg (I.el i hi).1 (I.el i hi).2) (Z15 h)
def OrdI.zero{h:Heap}{roots:List Int}(hr:Z3X h roots=Ld):OrdI h roots 0:=by
 refine⟨λi hi=>by omega,λi hi=>?_⟩;obtain rfl:i=0:=by omega
 exact Z6G ⟨Lw,by simp⟩ _ (Zbr (by simpa[Z3X]using hr))
def OrdI.succ{h:Heap}{roots:List Int}{k:Nat}(I:OrdI h roots k)(h1:k<(ordG h roots k).length)(h2:badG h roots k=Ld):OrdI h roots (k+1):=by
 refine⟨λi hi=>?_,λi hi=>?_⟩
 .by_cases q:i=k
  .rw[q];exact⟨h1,h2⟩
  .exact I.lo i oq
 .by_cases q:i=k+1
  .rw[q];exact Z6G (I.el k (Ll _)) _ (Zbr (by simpa[badG]using h2))
  .exact I.el i oq
def Zf3{h:Heap}{roots:List Int}:∀ f i,OrdI h roots i->16385<=f+i->OrdI h roots (ordT h roots f i)/\((ordG h roots (ordT h roots f i)).length<=ordT h roots f i\/badG h roots (ordT h roots f i)=Lb)
 | 0,i,I,hf=>by
  have:=I.len (Ll i);exact⟨I,.inl (by unfold ordT;omega)⟩
 | f+1,i,I,hf=>by
  unfold ordT;by_cases q:(ordG h roots i).length<=i\/badG h roots i=Lb
  .rw[if_pos q];exact⟨I,q⟩
  .rw[if_neg q];exact Zf3 f (i+1) (I.succ oq (by simpa using λe=>q (.inr e))) oq
def Zfr{h:Heap}{roots:List Int}(hr:Z3X h roots=Ld):OrdI h roots (ordZ h roots)/\((ordG h roots (ordZ h roots)).length<=ordZ h roots\/badG h roots (ordZ h roots)=Lb) :=
 Zf3 _ _ (OrdI.zero hr) oq
def Z0y(h:Heap)(roots:List Int):List Int×Int :=
 if Z03 h=Lb then
  if(Z04 h).2=0 then
   if Z3X h roots=Lb\/((ordZ h roots)<(ordG h roots (ordZ h roots)).length/\badG h roots (ordZ h roots)=Lb)then([],19)else(ordG h roots (ordZ h roots),0)
  else([],(Z04 h).2)
 else([],1)
def ZiI(h:Heap)(roots:List Int)(hw:WOk h.W)(hp:Z03 h=Ld):BP 55 [h.av,Z01 roots] [] (.tu [.d (.sc (.pointer Lf)),int 1]) []:=by
 exact borF [] [] func55 [] (Fc 19 (@Z0I h) (Ftb 20 (!Z03 h) Fz))
def ZgM(h:Heap)(roots:List Int)(hw:WOk h.W)(hp:Z03 h=Lb)(ho:(Z04 h).2≠0):BP 55 [h.av,Z01 roots] [] (.tu [.d (.sc (.pointer Lf)),int (Z04 h).2]) []:=by
 exact borF [] [] func55 [] (Fc 19 (@Z0I h) (Ffb 20 (!Z03 h) (Fc 23 (@Z4b h aa) (Ftb 27 ((Z04 h).2 != 0) Fz))))
def hpB(h:Heap):Blk:=.box 28 [int h.C.pw,int h.C.pg,.d (.sl 1 (h.W.map wdv)),.d (.sl 4 (h.P.map Page.dv)),int h.S,int h.B]
def seaB(all l:List Int):List (Nat×Blk):=[(48032,.box 105 [Z01 all,.pt 48030 0 99999,.ow 48031]),(48031,.arr 35 1 (l.map wdv)),(48030,.mp l)]
def srL(h:Heap)(roots:List Int)(i:Nat):Tg:=⟨tm 102 [(2,.pt 16002 0 0),(4,.d (.sc (.pointer Lf))),(5,int 0),(8,.pt 48032 0 0),(33,Z01 roots),(34,int roots.length),(35,int i)],seaB (Z04 h).1 (addN [] roots i)++[(16002,hpB h)],8⟩
section
variable (h:Heap) (roots:List Int) (hl:roots.length<=1000) (hr:ULe roots)
include hl hr
theorem ZiW(i:Nat)(hi:i<roots.length)(hb:∀ j,j<i+1->rfsB roots (Z04 h).1 j=Ld):CP (rndF f55 0) (srL h roots i).st .nrm (srL h roots (i+1)).st:=by
 have ol:=Z15 h;have os:=Z4a h;have o1:=Z6G (all:=(Z04 h).1) (out:=[]) (refs:=roots) ⟨Lw,by simp⟩ i (λj hj=>hb j oq);have o2:=LI (Zdg o1.1 o1.2) ol;have r:=hr _ (getD_mem_iff.2 ⟨i,hi,rfl⟩);have rb:=Zel (hb i oq);have e7:addN [] roots (i+1)=addO (addN [] roots i) (roots.getD i M):=rfl;unfold srL seaB hpB;rw[e7];exact sF [(81041,48031)] [] (Ftb 36 (Lc ((i:Int)<(roots.length:Int))) (Fek 37 wdv roots (↑i) i (Fbr 41 [48032,48030,48031] (@Zo9 ((Z04 h).1) (addN [] roots i) (roots.getD i M) aa oq oq aa aa) (Fx 43 i Fz))))
theorem Zox(i:Nat)(hi:i<roots.length)(hb:∀ j,j<i->rfsB roots (Z04 h).1 j=Ld)(hx:rfsB roots (Z04 h).1 i=Lb):CP (rndF f55 0) (srL h roots i).st .ret (Tg.st ⟨tm 102 [(4,.d (.sc (.pointer Lf))),(5,int 19)],[],60⟩):=by
 have ol:=Z15 h;have os:=Z4a h;have o1:=Z6G (all:=(Z04 h).1) (out:=[]) (refs:=roots) ⟨Lw,by simp⟩ i hb;have o2:=LI (Zdg o1.1 o1.2) ol;have r:=hr _ (getD_mem_iff.2 ⟨i,hi,rfl⟩);obtain⟨b1,b2⟩:=of_decide_eq_true hx;unfold srL seaB hpB;exact sF [] [] (Ftb 36 (Lc ((i:Int)<(roots.length:Int))) (Fek 37 wdv roots (↑i) i (Fbq 41 [48032,48030,48031] (@ZlH ((Z04 h).1) (addN [] roots i) (roots.getD i M) aa oq oq aa aa aa) Fz)))
omit hl hr in
theorem ZoA:CP (rndF f55 0) (srL h roots roots.length).st (.ext 0) (Tg.st ⟨tm 102 [(2,.pt 16002 0 0),(4,.d (.sc (.pointer Lf))),(5,int 0),(8,.pt 48032 0 0)],seaB (Z04 h).1 (ordG h roots 0)++[(16002,hpB h)],8⟩):=by
 unfold srL seaB hpB ordG;exact sF [] [] (Ffb 36 (Lc ((roots.length:Int)<(roots.length:Int))) Fz)
theorem ZlD(hb:Z3X h roots=Ld):CP (blkF f55 0) (Tg.st ⟨tm 102 [(2,.pt 16002 0 0),(4,.d (.sc (.pointer Lf))),(5,int 0),(8,.pt 48032 0 0),(33,Z01 roots),(34,int roots.length),(35,int 0)],[(48032,.box 105 [Z01 (Z04 h).1,.pt 48030 0 99999,.ow 48031]),(48031,.arr 35 1 []),(48030,.mp []),(16002,.box 28 [int h.C.pw,int h.C.pg,.d (.sl 1 (h.W.map wdv)),.d (.sl 4 (h.P.map Page.dv)),int h.S,int h.B])],8⟩) .nrm (Tg.st ⟨tm 102 [(2,.pt 16002 0 0),(4,.d (.sc (.pointer Lf))),(5,int 0),(8,.pt 48032 0 0)],seaB (Z04 h).1 (ordG h roots 0)++[(16002,hpB h)],8⟩):=by
 have e:=Zbr (refs:=roots) (all:=(Z04 h).1) (by simpa[Z3X]using hb);exact Z0b (S:=λk=>(srL h roots k).st) roots.length kr (λk hk=>ZiW h roots hl hr k hk (λj hj=>e j oq)) (ZoA h roots)
theorem ZmD(hb:Z3X h roots=Lb):CP (blkF f55 0) (Tg.st ⟨tm 102 [(2,.pt 16002 0 0),(4,.d (.sc (.pointer Lf))),(5,int 0),(8,.pt 48032 0 0),(33,Z01 roots),(34,int roots.length),(35,int 0)],[(48032,.box 105 [Z01 (Z04 h).1,.pt 48030 0 99999,.ow 48031]),(48031,.arr 35 1 []),(48030,.mp []),(16002,.box 28 [int h.C.pw,int h.C.pg,.d (.sl 1 (h.W.map wdv)),.d (.sl 4 (h.P.map Page.dv)),int h.S,int h.B])],8⟩) .ret (Tg.st ⟨tm 102 [(4,.d (.sc (.pointer Lf))),(5,int 19)],[],60⟩):=by
 obtain⟨i,hb⟩:=Lz.1 hb;obtain⟨h1,h2,h3⟩:=LM.1 hb;have h2:=Lv.1 h2;have e:∀ j,j<i->rfsB roots (Z04 h).1 j=Ld:=λj hj=>by simpa using h3 j hj
 exact Z0v (S:=λk=>(srL h roots k).st) i kr (λk hk=>ZiW h roots hl hr k oq (λj hj=>e j oq)) (Zox h roots hl hr i h2 e h1)
end
def Zj8(h:Heap)(roots:List Int)(hw:WOk h.W)(hp:Z03 h=Lb)(ho:(Z04 h).2=0)(hl:roots.length<=1000)(hr:ULe roots)(hb:Z3X h roots=Lb):BP 55 [h.av,Z01 roots] [] (.tu [.d (.sc (.pointer Lf)),int 19]) []:=by
 exact borF [] [] func55 [] (Fh 31 [.gh 35 1,.int 2] (Fc 19 (@Z0I h) (Ffb 20 (!Z03 h) (Fc 23 (@Z4b h aa) (Ffb 27 ((Z04 h).2 != 0) (Fl 34 wdv roots (Fu (@ZmD h roots aa aa aa) Fz)))))))
def ZkK(out:List Int)(r:Int){k:Nat}(hk:k<out.length):k<(addO out r).length/\(addO out r).getD k M=out.getD k M:=by
 unfold addO;split
 .exact⟨hk,rfl⟩
 .refine⟨by simp;omega, ?_⟩;simp only[Lh];rw[List.getElem?_append_left hk]
def ZaJ(out refs:List Int){k:Nat}(hk:k<out.length):∀ n,k<(addN out refs n).length/\(addN out refs n).getD k M=out.getD k M
 | 0=>⟨hk,rfl⟩
 | n+1=>by
  obtain⟨h1,h2⟩:=ZaJ out refs hk n;obtain⟨h3,h4⟩:=ZkK (addN out refs n) (refs.getD n M) h1;exact⟨h3,h4.trans h2⟩
def siL(h:Heap)(l:List Int)(i:Nat)(ps rf:List Int)(j:Nat):Tg:=⟨tm 102 [(2,.pt 16002 0 0),(4,.d (.sc (.pointer Lf))),(5,int 0),(8,.pt 48032 0 0),(11,int i),(69,.d (.sl 1 (ps.map idv))),(70,int ps.length),(71,int j)],seaB (Z04 h).1 (addN l rf j)++[(16002,hpB h)],13⟩
def Zev{h:Heap}{l:List Int}{i j:Nat}{a:Int}(hp:Z03 h=Lb)(hi:i<l.length)(el:l.Nodup/\∀ x∈l,x∈(Z04 h).1)(ea:l.getD i M=a)(hj:j<(Z02 (atH h a).1).length)(hb:∀ m,m<j->rfsB (Z0u h a) (Z04 h).1 m=Ld) :
  i<(addN l (Z0u h a) j).length/\(addN l (Z0u h a) j).length<=16384/\0<=(addN l (Z0u h a) j).getD i M/\(addN l (Z0u h a) j).getD i M<=8192/\0<=(Z02 (atH h a).1).getD j M/\(Z02 (atH h a).1).getD j M<=255 /\
  (loadA h.W ((addN l (Z0u h a) j).getD i M+1+(Z02 (atH h a).1).getD j M)).2=0/\(Z0u h a).getD j M=(loadA h.W ((addN l (Z0u h a) j).getD i M+1+(Z02 (atH h a).1).getD j M)).1:=by
 obtain⟨q1,q2⟩:=ZaJ l (Z0u h a) hi j;rw[ea]at q2;have o1:=Z6G (all:=(Z04 h).1) el j hb;have o2:=LI (Zdg o1.1 o1.2) (Z15 h);have am:a∈(Z04 h).1:=ea▸el.2 _ (getD_mem_iff.2 ⟨i,hi,rfl⟩);have ar:=Z1C h a am;obtain⟨g1,g2,g3⟩:=Z8j hp am;have r:=Zj6 g2;have pm:=getD_mem_iff.2 ⟨j,hj,rfl⟩;have pr:=(Z1H (atH h a).1).2 _ pm;have pl:(Z02 (atH h a).1).getD j M<(atH h a).1.length:=by
  have hx:=pm;generalize (Z02 (atH h a).1).getD j M=x at hx;unfold Z02 at hx;split at hx
  .have:=Z2d _ _ _ hx;omega
  .simp at hx
 rw[q2];refine⟨q1,o2,by omega,by omega,pr.1,pr.2,by rw[loadA,if_pos oq], ?_⟩;unfold Z0u;simp only[Lh,L8,Lk hj,Xg,LY]
section
variable (h:Heap) (l:List Int) (i j:Nat) (a:Int) (hw:WOk h.W) (hp:Z03 h=Lb) (hi:i<l.length) (el:l.Nodup/\∀ x∈l,x∈(Z04 h).1) (ea:l.getD i M=a)
include hw hp hi el ea
theorem Zh4(hj:j<(Z02 (atH h a).1).length)(hb:∀ m,m<j+1->rfsB (Z0u h a) (Z04 h).1 m=Ld):CP (rndF f55 4) (siL h l i (Z02 (atH h a).1) (Z0u h a) j).st .nrm (siL h l i (Z02 (atH h a).1) (Z0u h a) (j+1)).st:=by
 have ol:=Z15 h;have os:=Z4a h;have po:=Z08 hp;have pl:=(Z1H (atH h a).1).1;obtain⟨f1,f2,f3,f4,f5,f6,f7,f8⟩:=Zev hp hi el ea hj (λm hm=>hb m oq);have rb:=Zel (hb j oq);have rr:=Z0E hw ((addN l (Z0u h a) j).getD i M+1+(Z02 (atH h a).1).getD j M);rw[f8]at rb;have e7:addN l (Z0u h a) (j+1)=addO (addN l (Z0u h a) j) (loadA h.W ((addN l (Z0u h a) j).getD i M+1+(Z02 (atH h a).1).getD j M)).1:=by rw[<- f8];rfl
 unfold siL seaB hpB;rw[e7];let y0:=(addN l (Z0u h a) j).getD i M+1+(Z02 (atH h a).1).getD j M;exact sF [(129097,48031)] [] (Fh 93 [.br Ld] (Ftb 72 (Lc ((j:Int)<(↑(Z02 (atH h a).1).length:Int))) (Fek 73 idv (Z02 (atH h a).1) (↑j) j (Fm 84 wdv (addN l (Z0u h a) j) (↑i) i (Fv 85 ((addN l (Z0u h a) j).getD i M+1) (Fv 87 ((Z02 (atH h a).1).getD j M) (Fv 88 y0 (Fc 89 (@Z89 h.W y0 oq oq) (Fb (((loadA h.W y0).2 != 0)=Ld) (Fbr 97 [48032,48030,48031] (@Zo9 ((Z04 h).1) (addN l (Z0u h a) j) ((loadA h.W y0).1) aa oq oq aa aa) (Fx 100 j Fz)))))))))))
theorem Zoz(hj:j<(Z02 (atH h a).1).length)(hb:∀ m,m<j->rfsB (Z0u h a) (Z04 h).1 m=Ld)(hx:rfsB (Z0u h a) (Z04 h).1 j=Lb):CP (rndF f55 4) (siL h l i (Z02 (atH h a).1) (Z0u h a) j).st .ret (Tg.st ⟨tm 102 [(4,.d (.sc (.pointer Lf))),(5,int 19)],[],60⟩):=by
 have ol:=Z15 h;have os:=Z4a h;have po:=Z08 hp;have pl:=(Z1H (atH h a).1).1;obtain⟨f1,f2,f3,f4,f5,f6,f7,f8⟩:=Zev hp hi el ea hj hb;obtain⟨b1,b2⟩:=of_decide_eq_true hx;have rr:=Z0E hw ((addN l (Z0u h a) j).getD i M+1+(Z02 (atH h a).1).getD j M);rw[f8]at b1 b2;unfold siL seaB hpB;let y0:=(addN l (Z0u h a) j).getD i M+1+(Z02 (atH h a).1).getD j M;exact sF [] [] (Fh 93 [.br Ld] (Ftb 72 (Lc ((j:Int)<(↑(Z02 (atH h a).1).length:Int))) (Fek 73 idv (Z02 (atH h a).1) (↑j) j (Fm 84 wdv (addN l (Z0u h a) j) (↑i) i (Fv 85 ((addN l (Z0u h a) j).getD i M+1) (Fv 87 ((Z02 (atH h a).1).getD j M) (Fv 88 y0 (Fc 89 (@Z89 h.W y0 oq oq) (Fb (((loadA h.W y0).2 != 0)=Ld) (Fbq 97 [48032,48030,48031] (@ZlH ((Z04 h).1) (addN l (Z0u h a) j) ((loadA h.W y0).1) aa oq oq aa aa aa) Fz))))))))))
omit hw hp hi el ea in
theorem ZoE(ps rf:List Int):CP (rndF f55 4) (siL h l i ps rf ps.length).st (.ext 4) (Tg.st ⟨tm 102 [(2,.pt 16002 0 0),(4,.d (.sc (.pointer Lf))),(5,int 0),(8,.pt 48032 0 0),(11,int i)],seaB (Z04 h).1 (addN l rf ps.length)++[(16002,hpB h)],13⟩):=by
 unfold siL seaB hpB;exact sF [] [] (Ffb 72 (Lc ((ps.length:Int)<(ps.length:Int))) Fz)
theorem ZnZ(hb:(Lj (Z0u h a).length).find? (rfsB (Z0u h a) (Z04 h).1)=Lf):CP (blkF f55 4) (Tg.st ⟨tm 102 [(2,.pt 16002 0 0),(4,.d (.sc (.pointer Lf))),(5,int 0),(8,.pt 48032 0 0),(11,int i),(69,.d (.sl 1 ((Z02 (atH h a).1).map idv))),(70,int (Z02 (atH h a).1).length),(71,int 0)],[(48032,.box 105 [Z01 (Z04 h).1,.pt 48030 0 99999,.ow 48031]),(48031,.arr 35 1 (l.map wdv)),(48030,.mp l),(16002,.box 28 [int h.C.pw,int h.C.pg,.d (.sl 1 (h.W.map wdv)),.d (.sl 4 (h.P.map Page.dv)),int h.S,int h.B])],13⟩) .nrm (Tg.st ⟨tm 102 [(2,.pt 16002 0 0),(4,.d (.sc (.pointer Lf))),(5,int 0),(8,.pt 48032 0 0),(11,int i)],seaB (Z04 h).1 (addN l (Z0u h a) (Z0u h a).length)++[(16002,hpB h)],13⟩):=by
 have e:=Zbr hb;have le:(Z0u h a).length=(Z02 (atH h a).1).length:=by rw[Z0u,Lm]
 rw[le];exact Z0b (S:=λj=>(siL h l i (Z02 (atH h a).1) (Z0u h a) j).st) (Z02 (atH h a).1).length kr (λj hj=>Zh4 h l i j a hw hp hi el ea hj (λm hm=>e m oq)) (ZoE h l i _ _)
theorem Zmb(hb:((Lj (Z0u h a).length).find? (rfsB (Z0u h a) (Z04 h).1)).isSome=Lb):CP (blkF f55 4) (Tg.st ⟨tm 102 [(2,.pt 16002 0 0),(4,.d (.sc (.pointer Lf))),(5,int 0),(8,.pt 48032 0 0),(11,int i),(69,.d (.sl 1 ((Z02 (atH h a).1).map idv))),(70,int (Z02 (atH h a).1).length),(71,int 0)],[(48032,.box 105 [Z01 (Z04 h).1,.pt 48030 0 99999,.ow 48031]),(48031,.arr 35 1 (l.map wdv)),(48030,.mp l),(16002,.box 28 [int h.C.pw,int h.C.pg,.d (.sl 1 (h.W.map wdv)),.d (.sl 4 (h.P.map Page.dv)),int h.S,int h.B])],13⟩) .ret (Tg.st ⟨tm 102 [(4,.d (.sc (.pointer Lf))),(5,int 19)],[],60⟩):=by
 obtain⟨n,hb⟩:=Lz.1 hb;obtain⟨h1,h2,h3⟩:=LM.1 hb;have h2:=Lv.1 h2;have le:(Z0u h a).length=(Z02 (atH h a).1).length:=by rw[Z0u,Lm]
 have e:∀ m,m<n->rfsB (Z0u h a) (Z04 h).1 m=Ld:=λm hm=>by simpa using h3 m hm
 exact Z0v (S:=λj=>(siL h l i (Z02 (atH h a).1) (Z0u h a) j).st) n kr (λj hj=>Zh4 h l i j a hw hp hi el ea oq (λm hm=>e m oq)) (Zoz h l i n a hw hp hi el ea oq e h1)
end
def soL(h:Heap)(roots:List Int)(k:Nat):Tg:=⟨tm 102 [(2,.pt 16002 0 0),(4,.d (.sc (.pointer Lf))),(5,int 0),(8,.pt 48032 0 0),(11,int k)],seaB (Z04 h).1 (ordG h roots k)++[(16002,hpB h)],9⟩
section
variable (h:Heap) (roots:List Int) (k:Nat) (I:OrdI h roots k) (hw:WOk h.W) (hp:Z03 h=Lb)
include I hw hp
theorem ZiV(i:Nat)(hi:i<k):CP (rndF f55 2) (soL h roots i).st .nrm (soL h roots (i+1)).st:=by
 have ol:=Z15 h;obtain⟨o1,o2⟩:=I.lo i hi;have o3:=I.len (i:=i) oq;have o4:=I.len (i:=i+1) oq;have om:=(I.el i oq).2 _ (getD_mem_iff.2 ⟨i,o1,rfl⟩);have ox:=Z1C h _ om;obtain⟨g1,g2,g3⟩:=Z8j hp om;have gm:=Z3l hw ((ordG h roots i).getD i M);have o2:(Lj (Z0u h ((ordG h roots i).getD i M)).length).find? (rfsB (Z0u h ((ordG h roots i).getD i M)) (Z04 h).1)=Lf:=by simpa[badG]using o2
 have el:=I.el i oq;have po:=Z08 hp;have e7:ordG h roots (i+1)=addN (ordG h roots i) (Z0u h ((ordG h roots i).getD i M)) (Z0u h ((ordG h roots i).getD i M)).length:=rfl;rw[e7]at o4;unfold soL seaB hpB;rw[e7];let y0:=(ordG h roots i).getD i M;exact sF [] [] (FM 49 50 wdv (ordG h roots i) i (Fm 61 wdv (ordG h roots i) (↑i) i (Fc 62 (@Z6u h y0 aa oq) (Ffb 66 ((atH h y0).2 != 0) (Fc 69 (@Z3H ((atH h y0).1) aa) (Fl 70 idv (Z02 (atH h y0).1) (Fu (@ZnZ h (ordG h roots i) i y0 aa aa aa aa (by rfl) aa) (Fx 52 i Fz))))))))
theorem ZoF(hi:k<(ordG h roots k).length)(hb:badG h roots k=Lb):CP (rndF f55 2) (soL h roots k).st .ret (Tg.st ⟨tm 102 [(4,.d (.sc (.pointer Lf))),(5,int 19)],[],60⟩):=by
 have ol:=Z15 h;have o3:=I.len (Ll k);have om:=(I.el k (Ll k)).2 _ (getD_mem_iff.2 ⟨k,hi,rfl⟩);have ox:=Z1C h _ om;obtain⟨g1,g2,g3⟩:=Z8j hp om;have gm:=Z3l hw ((ordG h roots k).getD k M);have el:=I.el k (Ll k);have po:=Z08 hp;unfold badG at hb;unfold soL seaB hpB;let y0:=(ordG h roots k).getD k M;exact sF [] [] (FM 49 50 wdv (ordG h roots k) k (Fm 61 wdv (ordG h roots k) (↑k) k (Fc 62 (@Z6u h y0 aa oq) (Ffb 66 ((atH h y0).2 != 0) (Fc 69 (@Z3H ((atH h y0).1) aa) (Fl 70 idv (Z02 (atH h y0).1) (Fu (@Zmb h (ordG h roots k) k y0 aa aa aa aa (by rfl) aa) Fz)))))))
omit I hw hp in
theorem ZoD(e:(ordG h roots k).length<=k)(el:(ordG h roots k).length<=16384):CP (rndF f55 2) (soL h roots k).st (.ext 2) (Tg.st ⟨tm 102 [(4,.d (.sc (.pointer Lf))),(5,int 0),(8,.pt 48032 0 0)],seaB (Z04 h).1 (ordG h roots k),9⟩):=by
 unfold soL seaB hpB;exact sF [] [] (Fl 49 wdv (ordG h roots k) (Ffb 50 (Lc ((k:Int)<(↑(ordG h roots k).length:Int))) Fz))
def Zo1(e:(ordG h roots k).length<=k)  := Z0b (S:=λi=>(soL h roots i).st) k (by kernel_rfl) (λi hi=>ZiV h roots k I hw hp i hi) (ZoD h roots k e (I.len (Ll k)))
def ZlX(hi:k<(ordG h roots k).length)(hb:badG h roots k=Lb)  := Z0v (S:=λi=>(soL h roots i).st) k (by kernel_rfl) (λi hi=>ZiV h roots k I hw hp i hi) (ZoF h roots k I hw hp hi hb)
theorem Zj2(ho:(Z04 h).2=0)(hl:roots.length<=1000)(hr:ULe roots)(hb:Z3X h roots=Ld)(hi:k<(ordG h roots k).length)(hb2:badG h roots k=Lb):BP 55 [h.av,Z01 roots] [] (.tu [.d (.sc (.pointer Lf)),int 19]) []:=by
 exact borF [] [] func55 [] (Fh 31 [.gh 35 1,.int 2] (Fc 19 (@Z0I h) (Ffb 20 (!Z03 h) (Fc 23 (@Z4b h aa) (Ffb 27 ((Z04 h).2 != 0) (Fl 34 wdv roots (Fu (@ZlD h roots aa aa aa) (Fu (@ZlX h roots k I aa aa aa aa) Fz))))))))
theorem ZgY(ho:(Z04 h).2=0)(hl:roots.length<=1000)(hr:ULe roots)(hb:Z3X h roots=Ld)(e:(ordG h roots k).length<=k):BP 55 [h.av,Z01 roots] [] (.tu [.pt 0 0 0,int 0]) (seaP (Z04 h).1 (ordG h roots k)):=by
 exact borF [] [48032,48030,48031] func55 [] (Fh 31 [.gh 35 1,.int 2] (Fc 19 (@Z0I h) (Ffb 20 (!Z03 h) (Fc 23 (@Z4b h aa) (Ffb 27 ((Z04 h).2 != 0) (Fl 34 wdv roots (Fu (@ZlD h roots aa aa aa) (Fu (@Zo1 h roots k aa aa aa aa) Fz))))))))
end
def Zb6(c:Nat):GP 123 [.d (.sc (.slice Lf 0 c))] Lb (.ow 0) [.arr 35 1 []] :=
 gspec_ofE [((2:Nat),[Hint.own])] [] [(24002:Nat)] dd func123 [] (φ:=Z1k []) (λ_ h=>nomatch h) kr kr
def Z97(p:Addr)(c:Nat):GP 123 [.d (.sc (.slice (Le p) 0 c))] Lb (.ow 0) [.arr 35 1 []]:=by
 exact gF [24007] func123 [] (Fs 5 (La wdv []) (Fa (by simp[*]:(La wdv []).length+([]:List (List DV)).length<=2^30) (Fs 7 (La wdv []) (Fa (by exact Z48 _:Z1k (La wdv [])) Fz))))
def ZdY(ws:List Int)(hw:ws.length<=1048576)(hne:ws≠[]):GP 123 [Z01 ws] Lb (.ow 0) [.arr 35 1 (ws.map wdv)]:=by
 exact gF [24007] func123 [] (Fa (by exact ZnD hne:La wdv ws≠[]) (FA 5 7 wdv ws (Fa (by exact Z48 _:Z1k (La wdv ws)) Fz)))
def ZdI(ws:List Int)(hw:ws.length<=1048576):GP 123 [Z01 ws] Lb (.ow 0) [.arr 35 1 (ws.map wdv)]:=by
 by_cases hne:ws=[]
 .subst hne;exact Zdj λp c=>match p with | Lf=>Zb6 c | Le p=>Z97 p c
 .exact ZdY ws hw hne
def Zlf(out:List Int)(r:Int):(r=0\/r∈addO out r)/\∀ x∈out,x∈addO out r:=by
 unfold addO;split
 .rename_i c;exact⟨c,λ_ h=>h⟩
 .exact⟨.inr pq,λx h=>by simp[h]⟩
def Z7E(out refs:List Int):∀ n,(∀ x∈out,x∈addN out refs n)/\∀ j,j<n->refs.getD j M=0\/refs.getD j M∈addN out refs n
 | 0=>⟨λ_ h=>h,λj h=>by omega⟩
 | n+1=>by
  obtain⟨h1,h2⟩:=Z7E out refs n;obtain⟨h3,h4⟩:=Zlf (addN out refs n) (refs.getD n M);refine⟨λx hx=>h4 x (h1 x hx),λj hj=>?_⟩;by_cases q:j=n
  .rw[q];exact h3
  .exact(h2 j oq).imp id λh=>h4 _ h
def Z7j(h:Heap)(roots:List Int)(i:Nat):∀ d,(∀ x∈ordG h roots i,x∈ordG h roots (i+d))/\∀ j,j<(ordG h roots i).length->j<(ordG h roots (i+d)).length/\(ordG h roots (i+d)).getD j M=(ordG h roots i).getD j M
 | 0=>⟨λ_ h=>h,λ_ h=>⟨h,rfl⟩⟩
 | d+1=>by
  obtain⟨h1,h2⟩:=Z7j h roots i d;refine⟨λx hx=>(Z7E _ _ _).1 x (h1 x hx),λj hj=>?_⟩;obtain⟨h3,h4⟩:=h2 j hj;obtain⟨h5,h6⟩:=ZaJ (ordG h roots (i+d)) (Z0u h ((ordG h roots (i+d)).getD (i+d) M)) h3 (Z0u h ((ordG h roots (i+d)).getD (i+d) M)).length;exact⟨h5,h6.trans h4⟩
structure OrdL (h:Heap) (roots l:List Int):Prop where
 p:Z03 h=Lb
 nd:l.Nodup
 el:∀ x∈l,x∈(Z04 h).1
 n0:(0:Int)∉l
 rt:∀ r∈roots,r=0\/r∈l
 cl:∀ a∈l,∀ v∈Z0u h a,v=0\/v∈l
 len:l.length<=16384
def Zn5{h:Heap}{roots:List Int}{k:Nat}(I:OrdI h roots k)(hp:Z03 h=Lb)(e:(ordG h roots k).length<=k):OrdL h roots (ordG h roots k):=by
 refine⟨hp,(I.el k (Ll k)).1,(I.el k (Ll k)).2,λq=>?_,λr hr=>?_,λa ha v hv=>?_,I.len (Ll k)⟩
 .exact ZaA h (Z8j hp ((I.el k (Ll k)).2 _ q)).2.1
 .obtain⟨j,hj,rfl⟩:=getD_mem_iff.1 hr;exact((Z7E [] roots roots.length).2 j hj).imp id λq=>by
   have:=(Z7j h roots 0 k).1 _ q;rwa [LW]at this
 .obtain⟨i,hi,rfl⟩:=getD_mem_iff.1 ha;obtain⟨j,hj,rfl⟩:=getD_mem_iff.1 hv;obtain⟨o1,_⟩:=I.lo i oq;have p1:=Z7j h roots i (k-i);rw[show i+(k-i)=k from by omega]at p1;rw[(p1.2 i o1).2]at hj ⊢;have m:=(Z7E (ordG h roots i) (Z0u h ((ordG h roots i).getD i M)) (Z0u h ((ordG h roots i).getD i M)).length).2 j hj;refine m.imp id λq=>?_;have p2:=Z7j h roots (i+1) (k-(i+1));rw[show i+1+(k-(i+1))=k from by omega]at p2;exact p2.1 _ q
section
variable (h:Heap) (roots:List Int) (hw:WOk h.W) (hl:roots.length<=1000) (hr:ULe roots)
include hw hl hr
theorem Z7F:((Z0y h roots).2=0/\OrdL h roots (Z0y h roots).1/\BP 55 [h.av,Z01 roots] [] (.tu [.pt 0 0 0,int 0]) (seaP (Z04 h).1 (Z0y h roots).1)) \/
  ((Z0y h roots).2≠0/\(Z0y h roots).1=[]/\BP 55 [h.av,Z01 roots] [] (.tu [.d (.sc (.pointer Lf)),int (Z0y h roots).2]) []):=by
 unfold Z0y;by_cases hp:Z03 h=Lb
 .rw[if_pos hp];by_cases ho:(Z04 h).2=0
  .rw[if_pos ho];by_cases hb:Z3X h roots=Lb
   .rw[if_pos (.inl hb)];exact .inr ⟨by simp,rfl,Zj8 h roots hw hp ho hl hr hb⟩
   .have hb':Z3X h roots=Ld:=by simpa using hb
    obtain⟨I,e⟩:=Zfr hb';by_cases c:(ordZ h roots)<(ordG h roots (ordZ h roots)).length/\badG h roots (ordZ h roots)=Lb
    .rw[if_pos (.inr c)];exact .inr ⟨by simp,rfl,Zj2 h roots _ I hw hp ho hl hr hb' c.1 c.2⟩
    .rw[if_neg (λq=>q.elim hb c)];have e':(ordG h roots (ordZ h roots)).length<=ordZ h roots:=by
      rcases e with e | e
      .exact e
      .exact Nat.not_lt.1 λq=>c ⟨q,e⟩
     exact .inl ⟨rfl,Zn5 I hp e',ZgY h roots _ I hw hp ho hl hr hb' e'⟩
  .rw[if_neg ho];exact .inr ⟨ho,rfl,ZgM h roots hw hp ho⟩
 .rw[if_neg hp];exact .inr ⟨by simp,rfl,ZiI h roots hw (by simpa using hp)⟩
theorem Zgv(e:(Z0y h roots).2=0):BP 55 [h.av,Z01 roots] [] (.tu [.pt 0 0 0,int 0]) (seaP (Z04 h).1 (Z0y h roots).1):=by
 rcases Z7F h roots hw hl hr with⟨_,_,h2⟩ | ⟨h0,_⟩
 .exact h2
 .exact absurd e h0
theorem Zeb(e:(Z0y h roots).2≠0):BP 55 [h.av,Z01 roots] [] (.tu [.d (.sc (.pointer Lf)),int (Z0y h roots).2]) []:=by
 rcases Z7F h roots hw hl hr with⟨h0,_⟩ | ⟨_,_,h2⟩
 .exact absurd h0 e
 .exact h2
theorem Z7L(e:(Z0y h roots).2=0):OrdL h roots (Z0y h roots).1:=by
 rcases Z7F h roots hw hl hr with⟨_,h1,_⟩ | ⟨h0,_⟩
 .exact h1
 .exact absurd e h0
end
def numB(l:List Int)(v:Int):Int:=if v∈l then(l.idxOf v:Int)+1 else 0
def ZgB(l:List Int)(v:Int):0<=numB l v/\numB l v<=l.length:=by
 unfold numB;split
 .rename_i h;have:=List.idxOf_lt_length_iff.2 h;omega
 .omega
def numL(l fs ps:List Int):Nat->List Int
 | 0=>fs
 | j+1=>(numL l fs ps j).set (ps.getD j M).toNat (numB l (fs.getD (ps.getD j M).toNat M))
def ZaM(l fs ps:List Int):∀ j,(numL l fs ps j).length=fs.length
 | 0=>rfl
 | j+1=>by rw[numL,Lt,ZaM l fs ps j]
def ZfB(l fs ps:List Int)(i:Nat):∀ j,(∀ m,m<j->(ps.getD m M).toNat≠i)->(numL l fs ps j).getD i M=fs.getD i M
 | 0,_=>rfl
 | j+1,h=>by
  rw[numL];simp only[Lh];rw[List.getElem?_set_ne (by simpa[Lh]using h j oq)];have:=ZfB l fs ps i j (λm hm=>h m oq);simpa only[Lh]using this
structure NodeG where
 hd:Header
 fs:List Int
instance:Inhabited NodeG:=⟨⟨default,[]⟩⟩
def NodeG.dv(n:NodeG):List DV:=[dint n.hd.K,dint n.hd.length,.sc (.int .u32 n.hd.map),.sl 1 (n.fs.map wdv)]
def NodeG.cells(n:NodeG):List AV:=[int n.hd.K,int n.hd.length,u32 n.hd.map,Z01 n.fs]
def Z9y(hd:Header):∀ n:Nat,(Z0Q hd n).Nodup
 | 0=>Lw
 | n+1=>by
  have ih:=Z9y hd n;unfold Z0Q;split
  .rw[Xa];refine⟨ih,by simp,λa ha b hb=>?_⟩;have:=(Z2d hd n a ha).2;rw[LU]at hb;omega
  .exact ih
def Zkz{l:List Int}{i:Nat}{x:Int}(hi:i<l.length)(h:l.getD i M=x):l.set i x=l:=by
 rw[<- h,Lh,Lk hi,LY];exact List.set_getElem_self hi
def fldG(h:Heap)(a:Int):List Int:=(Z1c h.W (a+1) (atH h a).1.length).1
def Z2D(h:Heap)(l:List Int)(a:Int):NodeG:=⟨(atH h a).1,numL l (fldG h a) (Z02 (atH h a).1) (Z02 (atH h a).1).length⟩
def Zg8(ws:List Int)(a n:Int)(hw:ws.length<=1048576)(h0:4096<=a/\0<=n/\n<=1000/\a-4096+n<=ws.length):GP 117 [Z01 ws,u64 a,int n] Lb (.tu [.ow 0,int 0]) [.arr 35 1 (((ws.drop (a-4096).toNat).take n.toNat).map wdv)]:=by
 have ei1:(Z09 ws a n).1=a-4096:=by rw[Z09,if_pos oq]
 have e2:(Z09 ws a n).2=Lb:=by rw[Z09,if_pos oq];simp;omega
 exact gF [41027] func117 [Ld,Lb] (Fh 26 [.els (La wdv (Lg (((Z09 ws a n).1+n).toNat-(Z09 ws a n).1.toNat) (Lr (Z09 ws a n).1.toNat ws)))] (Ffb 11 (Lc (n<0)) (Fc 16 (@Z6T ws a n aa oq) (Ffb 20 (!(Z09 ws a n).2) (Fi 25 ((Z09 ws a n).1+n) (Fa (by(simp only[Lm];omega):0<=(Z09 ws a n).1/\(Z09 ws a n).1<=(Z09 ws a n).1+n/\(Z09 ws a n).1+n<=(↑(La wdv ws).length:Int)) (Fa (by simp[e2,Lq,Ls,Lp,Lo,wdv,idv]:Lg (((Z09 ws a n).1+n).toNat-(Z09 ws a n).1.toNat) (Lr (Z09 ws a n).1.toNat (La wdv ws))=La wdv (Lg (((Z09 ws a n).1+n).toNat-(Z09 ws a n).1.toNat) (Lr (Z09 ws a n).1.toNat ws))) (Fc 27 (@ZdI (Lg (((Z09 ws a n).1+n).toNat-(Z09 ws a n).1.toNat) (Lr (Z09 ws a n).1.toNat ws)) (by(simp[e2, *];omega))) (Fa (by exact Z48 _:Z1k (La wdv (Lg (((Z09 ws a n).1+n).toNat-(Z09 ws a n).1.toNat) (Lr (Z09 ws a n).1.toNat ws)))) (Fr (35:Int) (Fa (by refine congrArg _ ?_;(simp[e2, *];omega):La wdv (Lg (((Z09 ws a n).1+n).toNat-(Z09 ws a n).1.toNat) (Lr (Z09 ws a n).1.toNat ws))=La wdv (Lg n.toNat (Lr (a-4096).toNat ws))) Fz)))))))))))
def Z4E{h:Heap}{a:Int}(hp:Z03 h=Lb)(ha:a∈(Z04 h).1):4096<=a/\a<=8192/\0<=(atH h a).1.length/\(atH h a).1.length<=255/\a+(atH h a).1.length<4096+h.W.length/\(atH h a).2=0/\((fldG h a).length:Int)=(atH h a).1.length/\fldG h a=(h.W.drop (a+1-4096).toNat).take (atH h a).1.length.toNat /\
  (Z02 (atH h a).1).Nodup/\(∀ p∈Z02 (atH h a).1,0<=p/\p<(atH h a).1.length/\(fldG h a).getD p.toNat M∈Z0u h a):=by
 have ox:=Z1C h a ha;obtain⟨g1,g2,g3⟩:=Z8j hp ha;have ir:=Zj6 g2;have v:=Z4l g1;have e0:getH h a=atH h a:=v.1;rw[e0]at v;have fe:fldG h a=(h.W.drop (a+1-4096).toNat).take (atH h a).1.length.toNat:=by rw[fldG,Z1c,if_neg oq,if_pos oq]
 have fl:((fldG h a).length:Int)=(atH h a).1.length:=by rw[fe,LF,List.length_drop];omega
 refine⟨ir.1,ox.2,by omega,by omega,ir.2,g2,fl,fe, ?_,λp hp=>?_⟩
 .unfold Z02;split
  .exact Z9y _ _
  .exact Lw
 .have pr:0<=p/\p<(atH h a).1.length:=by
   have:=hp;unfold Z02 at this;split at this
   .have:=Z2d _ _ _ this;omega
   .simp at this
  refine⟨pr.1,pr.2,Lu.2 ⟨p,hp, ?_⟩⟩;rw[fe,loadA,if_pos oq];simp only[Lh,List.getElem?_take,LN];rw[if_pos oq,show(a+1-4096).toNat+p.toNat=(a+1+p-4096).toNat by omega];rfl
def Zkc(h:Heap)(a:Int)(hp:Z03 h=Lb)(ha:a∈(Z04 h).1):GP 117 [Z01 h.W,u64 (a+1),int (atH h a).1.length] Lb (.tu [.ow 0,int 0]) [.arr 35 1 ((fldG h a).map wdv)]:=by
 have f:=Z4E hp ha;have po:=Z08 hp;have:=Zg8 h.W (a+1) (atH h a).1.length oq oq;rw[f.2.2.2.2.2.2.2.1];exact this
def noL(h:Heap)(all l:List Int)(a:Int)(j:Nat):Tg:=⟨tm 67 [(0,.pt 0 0 0),(6,.pt 16006 0 0),(7,int 0),(8,.pt 24008 0 0),(10,.ow 41030),(38,.d (.sl 1 ((Z02 (atH h a).1).map idv))),(39,int (Z02 (atH h a).1).length),(40,int j)],[(41030,.arr 35 1 ((numL l (fldG h a) (Z02 (atH h a).1) j).map wdv)),(24008,.box 52 [int (atH h a).1.K,int (atH h a).1.length,u32 (atH h a).1.map]),(16006,.box 54 [int 0,int 0,u32 0,.d (.sl 0 [])]),(0,.box 105 [Z01 all,.pt 1 0 99999,.ow 2]),(1,.mp l),(2,.arr 35 1 (l.map wdv))],8⟩
section
variable (h:Heap) (all l:List Int) (a:Int) (hp:Z03 h=Lb) (ha:a∈(Z04 h).1) (cl:∀ v∈Z0u h a,v=0\/v∈l) (hl:l.length<=16384) (n0:(0:Int)∉l)
include hp ha cl hl n0
theorem ZmZ(j:Nat)(hj:j<(Z02 (atH h a).1).length):CP (rndF f60 0) (noL h all l a j).st .nrm (noL h all l a (j+1)).st:=by
 have pl:=(Z1H (atH h a).1).1;obtain⟨f1,f2,f3,f4,f5,f6,f7,f8,f9,f10⟩:=Z4E hp ha;have pm:=getD_mem_iff.2 ⟨j,hj,rfl⟩;obtain⟨p1,p2,p3⟩:=f10 _ pm;have nl:=ZaM l (fldG h a) (Z02 (atH h a).1) j;have ng:=ZfB l (fldG h a) (Z02 (atH h a).1) ((Z02 (atH h a).1).getD j M).toNat j (λm hm q=>by
  have d:=(LV.1 f9) m j oq hj hm;obtain⟨m1,m2,_⟩:=f10 _ (getD_mem_iff.2 ⟨m,by omega,rfl⟩);have e1:(Z02 (atH h a).1).getD m M=(Z02 (atH h a).1)[m]:=by rw[Lh,Lk oq];rfl
  have e2:(Z02 (atH h a).1).getD j M=(Z02 (atH h a).1)[j]:=by rw[Lh,Lk hj];rfl
  omega)
 have nr:=ZgB l ((fldG h a).getD ((Z02 (atH h a).1).getD j M).toNat M);have cv:=cl _ p3;by_cases c:(fldG h a).getD ((Z02 (atH h a).1).getD j M).toNat M=0
 .have e7:numL l (fldG h a) (Z02 (atH h a).1) (j+1)=numL l (fldG h a) (Z02 (atH h a).1) j:=by
   rw[numL,c,numB,if_neg n0];rw[c]at ng;exact Zkz oq ng
  rw[<- ng]at c;unfold noL;rw[e7];exact sF [] [] (Ftb 41 (Lc ((j:Int)<(↑(Z02 (atH h a).1).length:Int))) (Fek 42 idv (Z02 (atH h a).1) (↑j) j (Fmq 47 wdv (numL l (fldG h a) (Z02 (atH h a).1) j) ((Z02 (atH h a).1).getD j M) (Ffb 48 ((numL l (fldG h a) (Z02 (atH h a).1) j).getD ((Z02 (atH h a).1).getD j M).toNat M != 0) (Fx 63 j Fz)))))
 .have cv:=cv.resolve_left c;have e7:numL l (fldG h a) (Z02 (atH h a).1) (j+1)=(numL l (fldG h a) (Z02 (atH h a).1) j).set ((Z02 (atH h a).1).getD j M).toNat (mpV l ((numL l (fldG h a) (Z02 (atH h a).1) j).getD ((Z02 (atH h a).1).getD j M).toNat M)+1):=by
   rw[numL,ng,numB,if_pos cv,mpV,if_pos cv]
  have vr:0<=mpV l ((numL l (fldG h a) (Z02 (atH h a).1) j).getD ((Z02 (atH h a).1).getD j M).toNat M)/\mpV l ((numL l (fldG h a) (Z02 (atH h a).1) j).getD ((Z02 (atH h a).1).getD j M).toNat M)+1<=16384:=by
   rw[ng,mpV,if_pos cv];rw[numB,if_pos cv]at nr;omega
  rw[<- ng]at c cv;unfold noL;rw[e7];exact sF [] [] (Fh 10062 [.els (La wdv ((numL l (fldG h a) (Z02 (atH h a).1) j).set ((Z02 (atH h a).1).getD j M).toNat (mpV l ((numL l (fldG h a) (Z02 (atH h a).1) j).getD ((Z02 (atH h a).1).getD j M).toNat M)+1)))] (Ftb 41 (Lc ((j:Int)<(↑(Z02 (atH h a).1).length:Int))) (Fek 42 idv (Z02 (atH h a).1) (↑j) j (Fmq 47 wdv (numL l (fldG h a) (Z02 (atH h a).1) j) ((Z02 (atH h a).1).getD j M) (Ftb 48 ((numL l (fldG h a) (Z02 (atH h a).1) j).getD ((Z02 (atH h a).1).getD j M).toNat M != 0) (Fmq 58 wdv (numL l (fldG h a) (Z02 (atH h a).1) j) ((Z02 (atH h a).1).getD j M) (Fi 60 (mpV l ((numL l (fldG h a) (Z02 (atH h a).1) j).getD ((Z02 (atH h a).1).getD j M).toNat M)+1) (Fv 61 (mpV l ((numL l (fldG h a) (Z02 (atH h a).1) j).getD ((Z02 (atH h a).1).getD j M).toNat M)+1) (Fa (by(simp only[Lm];omega):0<=(Z02 (atH h a).1).getD j M/\((Z02 (atH h a).1).getD j M).toNat<(La wdv (numL l (fldG h a) (Z02 (atH h a).1) j)).length) (Fa (by(simp only[Lm];omega):((Z02 (atH h a).1).getD j M).toNat<(La wdv (numL l (fldG h a) (Z02 (atH h a).1) j)).length) (Fa (ms:(La wdv (numL l (fldG h a) (Z02 (atH h a).1) j)).set ((Z02 (atH h a).1).getD j M).toNat [du64 (mpV l ((numL l (fldG h a) (Z02 (atH h a).1) j).getD ((Z02 (atH h a).1).getD j M).toNat M)+1)]=La wdv ((numL l (fldG h a) (Z02 (atH h a).1) j).set ((Z02 (atH h a).1).getD j M).toNat (mpV l ((numL l (fldG h a) (Z02 (atH h a).1) j).getD ((Z02 (atH h a).1).getD j M).toNat M)+1))) (Fx 63 j Fz))))))))))))
omit hp ha cl hl n0 in
theorem Zow:CP (rndF f60 0) (noL h all l a (Z02 (atH h a).1).length).st (.ext 0) (Tg.st ⟨tm 67 [(6,.pt 16006 0 0),(7,int 0),(8,.pt 24008 0 0),(10,.ow 41030)],[(41030,.arr 35 1 ((Z2D h l a).fs.map wdv)),(24008,.box 52 [int (atH h a).1.K,int (atH h a).1.length,u32 (atH h a).1.map]),(16006,.box 54 [int 0,int 0,u32 0,.d (.sl 0 [])]),(0,.box 105 [Z01 all,.pt 1 0 99999,.ow 2]),(1,.mp l),(2,.arr 35 1 (l.map wdv))],8⟩):=by
 unfold noL Z2D;exact sF [] [] (Ffb 41 (Lc ((↑(Z02 (atH h a).1).length:Int)<(↑(Z02 (atH h a).1).length:Int))) Fz)
def Zo3  := Z0b (S:=λj=>(noL h all l a j).st) (Z02 (atH h a).1).length (by kernel_rfl) (λj hj=>ZmZ h all l a hp ha cl hl n0 j hj) (Zow h all l a)
theorem ZnM(hw:WOk h.W):BP 60 [.pt 0 0 0,h.av,u64 a] (seaP all l) (.tu [.ag [int (atH h a).1.K,int (atH h a).1.length,u32 (atH h a).1.map,Z01 (Z2D h l a).fs],int 0]) (seaP all l):=by
 obtain⟨f1,f2,f3,f4,f5,f6,f7,f8,f9,f10⟩:=Z4E hp ha;have gm:=Z3l hw a;have po:=Z08 hp;exact borF [0,1,2] [] func60 [] (Fc 16 (@Z6u h a aa oq) (Ffb 20 ((atH h a).2 != 0) (Fv 27 (a+1) (Fc 30 (@Zkc h a aa aa) (Fc 38 (@Z3H ((atH h a).1) aa) (Fl 39 idv (Z02 (atH h a).1) (Fu (@Zo3 h all l a aa aa aa aa aa) Fz)))))))
end
def Z1G(l:List Int)(r:Int):Int:=numB l r-1
structure GraphG where
 roots:List Int
 nodes:List NodeG
def Zly(h:Heap)(l roots:List Int):GraphG:=⟨roots.map (Z1G l),l.map (Z2D h l)⟩
def ofF(h:Heap)(roots:List Int):GraphG×Int:=if(Z0y h roots).2=0 then(Zly h (Z0y h roots).1 roots,0)else(⟨[],[]⟩,(Z0y h roots).2)
def ZeY{α β:Type}[Inhabited α](f:α->β){l:List α}{i:Nat}(hi:i<l.length):(l.take (i+1)).map f=(l.take i).map f++[f (l.getD i M)]:=by
 rw[List.take_succ,Lo,Lk hi,Lh,Lk hi];rfl
def ogB(h:Heap)(l rs:List Int)(ns:List NodeG):List (Nat×Blk):=[(32008,.box 42 [.ow 33008,.ow 34008]),(34008,.arr 54 4 (ns.map NodeG.dv)),(33008,.arr 3 1 (rs.map idv)),(19020,.arr 35 1 (l.map wdv)),(18020,.mp l),(17020,.box 105 [Z01 (Z04 h).1,.pt 18020 0 99999,.ow 19020]),(8004,.box 42 [.ow 9004,.ow 10004]),(10004,.arr 54 4 []),(9004,.arr 3 1 []),(8002,.box 28 [int h.C.pw,int h.C.pg,.d (.sl 1 (h.W.map wdv)),.d (.sl 4 (h.P.map Page.dv)),int h.S,int h.B])]
def ogL(h:Heap)(l roots:List Int)(i:Nat):Tg:=⟨tm 79 [(2,.pt 8002 0 0),(4,.pt 8004 0 0),(5,int 0),(6,.pt 17020 0 0),(8,.pt 32008 0 0),(27,Z01 roots),(28,int roots.length),(29,int i)],ogB h l ((roots.take i).map (Z1G l)) [],6⟩
def onL(h:Heap)(l roots:List Int)(k:Nat):Tg:=⟨tm 79 [(2,.pt 8002 0 0),(4,.pt 8004 0 0),(5,int 0),(6,.pt 17020 0 0),(8,.pt 32008 0 0),(54,.ow 19020),(55,int l.length),(56,int k)],ogB h l (roots.map (Z1G l)) ((l.take k).map (Z2D h l)),8⟩
section
variable (h:Heap) (l roots:List Int) (O:OrdL h roots l) (hw:WOk h.W) (hl:roots.length<=1000)
include O hw hl
omit hw in
theorem Zmn(i:Nat)(hi:i<roots.length):CP (rndF f20 0) (ogL h l roots i).st .nrm (ogL h l roots (i+1)).st:=by
 have ll:=O.len;have e0:(roots.take i).length=i:=by rw[LF];omega
 have e7:=ZeY (Z1G l) hi;by_cases c:roots.getD i M∈l
 .have e8:Z1G l (roots.getD i M)=mpV l (roots.getD i M):=by rw[Z1G,numB,if_pos c,mpV,if_pos c];omega
  unfold ogL ogB;rw[e7,e8];have Q0 {h_ c_ p_} (r_:Fq h_ c_ p_):=Ftb 30 (Lc ((i:Int)<(roots.length:Int))) (Fek 31 wdv roots (↑i) i r_);rcases bb (!mpC l (roots.getD i M))with hc0 | hc0<;>have hc0p:=hc0<;>simp only[bs]at hc0p
  .exact sF [(88048,33008)] (fO 10) (Fh 48 [.els (La idv (La (Z1G l) (Lg i roots)++[(-1:Int)]))] (Q0 (Ft 43 hc0 (Fs 47 (La idv [(-1:Int)]) (Fa (by(simp[mpC, *];omega):(La idv (La (Z1G l) (Lg i roots))).length+(La idv [(-1:Int)]).length<=2^30) (Fa (by simp[mpC,Lq,Ls,Lp,Lo,wdv,idv]:La idv (La (Z1G l) (Lg i roots))++La idv [(-1:Int)]=La idv (La (Z1G l) (Lg i roots)++[(-1:Int)])) (Fx 50 i (Fr (3:Int) (Fa (by refine congrArg _ ?_;grind[mpC]:La idv (La (Z1G l) (Lg i roots)++[(-1:Int)])=La idv (La (Z1G l) (Lg i roots)++[mpV l (roots.getD i M)])) Fz)))))))))
  .exact sF [(80048,33008)] [] (Fh 48 [.els (La idv (La (Z1G l) (Lg i roots)++[mpV l (roots.getD i M)]))] (Q0 (Ff 43 hc0 (Fs 47 (La idv [mpV l (roots.getD i M)]) (Fa (by(simp[mpC, *];omega):(La idv (La (Z1G l) (Lg i roots))).length+(La idv [mpV l (roots.getD i M)]).length<=2^30) (Fa (by simp[mpC,Lq,Ls,Lp,Lo,wdv,idv]:La idv (La (Z1G l) (Lg i roots))++La idv [mpV l (roots.getD i M)]=La idv (La (Z1G l) (Lg i roots)++[mpV l (roots.getD i M)])) (Fx 50 i Fz)))))))
 .have e8:Z1G l (roots.getD i M)=-1:=by rw[Z1G,numB,if_neg c];rfl
  unfold ogL ogB;rw[e7,e8];have Q1 {h_ c_ p_} (r_:Fq h_ c_ p_):=Ftb 30 (Lc ((i:Int)<(roots.length:Int))) (Fek 31 wdv roots (↑i) i r_);rcases bb (!mpC l (roots.getD i M))with hc0 | hc0<;>have hc0p:=hc0<;>simp only[bs]at hc0p
  .exact sF [(88048,33008)] [] (Fh 48 [.els (La idv (La (Z1G l) (Lg i roots)++[(-1:Int)]))] (Q1 (Ft 43 hc0 (Fs 47 (La idv [(-1:Int)]) (Fa (by(simp[mpC, *];omega):(La idv (La (Z1G l) (Lg i roots))).length+(La idv [(-1:Int)]).length<=2^30) (Fa (by simp[mpC,Lq,Ls,Lp,Lo,wdv,idv]:La idv (La (Z1G l) (Lg i roots))++La idv [(-1:Int)]=La idv (La (Z1G l) (Lg i roots)++[(-1:Int)])) (Fx 50 i Fz)))))))
  .exact sF [(80048,33008)] (fO 10) (Fh 48 [.els (La idv (La (Z1G l) (Lg i roots)++[mpV l (roots.getD i M)]))] (Q1 (Ff 43 hc0 (Fs 47 (La idv [mpV l (roots.getD i M)]) (Fa (by(simp[mpC, *];omega):(La idv (La (Z1G l) (Lg i roots))).length+(La idv [mpV l (roots.getD i M)]).length<=2^30) (Fa (by simp[mpC,Lq,Ls,Lp,Lo,wdv,idv]:La idv (La (Z1G l) (Lg i roots))++La idv [mpV l (roots.getD i M)]=La idv (La (Z1G l) (Lg i roots)++[mpV l (roots.getD i M)])) (Fx 50 i (Fr (3:Int) (Fa (by refine congrArg _ ?_;grind[mpC]:La idv (La (Z1G l) (Lg i roots)++[mpV l (roots.getD i M)])=La idv (La (Z1G l) (Lg i roots)++[(-1:Int)])) Fz)))))))))
omit O hw hl in
theorem Zoy:CP (rndF f20 0) (ogL h l roots roots.length).st (.ext 0) (Tg.st ⟨tm 79 [(2,.pt 8002 0 0),(4,.pt 8004 0 0),(5,int 0),(6,.pt 17020 0 0),(8,.pt 32008 0 0)],ogB h l (roots.map (Z1G l)) [],6⟩):=by
 have e:roots.take roots.length=roots:=Xb;unfold ogL ogB;rw[e];exact sF [] [] (Ffb 30 (Lc ((roots.length:Int)<(roots.length:Int))) Fz)
theorem Zns:CP (blkF f20 0) (Tg.st ⟨tm 79 [(2,.pt 8002 0 0),(4,.pt 8004 0 0),(5,int 0),(6,.pt 17020 0 0),(8,.pt 32008 0 0),(27,Z01 roots),(28,int roots.length),(29,int 0)],[(32008,.box 42 [.ow 33008,.ow 34008]),(34008,.arr 54 4 []),(33008,.arr 3 1 []),(19020,.arr 35 1 (l.map wdv)),(18020,.mp l),(17020,.box 105 [Z01 (Z04 h).1,.pt 18020 0 99999,.ow 19020]),(8004,.box 42 [.ow 9004,.ow 10004]),(10004,.arr 54 4 []),(9004,.arr 3 1 []),(8002,.box 28 [int h.C.pw,int h.C.pg,.d (.sl 1 (h.W.map wdv)),.d (.sl 4 (h.P.map Page.dv)),int h.S,int h.B])],6⟩) .nrm (Tg.st ⟨tm 79 [(2,.pt 8002 0 0),(4,.pt 8004 0 0),(5,int 0),(6,.pt 17020 0 0),(8,.pt 32008 0 0)],ogB h l (roots.map (Z1G l)) [],6⟩) :=
 Z0b (S:=λi=>(ogL h l roots i).st) roots.length kr (λi hi=>Zmn h l roots O hl i hi) (Zoy h l roots)
theorem Zmo(k:Nat)(hk:k<l.length):CP (rndF f20 2) (onL h l roots k).st .nrm (onL h l roots (k+1)).st:=by
 have ll:=O.len;have hp:=O.p;have n0:=O.n0;have am:=getD_mem_iff.2 ⟨k,hk,rfl⟩;have ha:=O.el _ am;have cl:=O.cl _ am;have ox:=Z1C h _ ha;have e0:(l.take k).length=k:=by rw[LF];omega
 have e7:=ZeY (Z2D h l) hk;unfold onL ogB;rw[e7];let y0:=l.getD k M;exact sF [(96075,34008)] [] (Fh 75 [.els (La NodeG.dv (La (Z2D h l) (Lg k l)++[NodeG.mk (atH h y0).1 (Z2D h l y0).fs]))] (Ftb 57 (Lc ((k:Int)<(l.length:Int))) (Fm 59 wdv l (↑k) k (Fbq 64 [17020,18020,19020] (@ZnM h ((Z04 h).1) l y0 aa aa aa aa aa aa) (Fs 74 (La NodeG.dv [NodeG.mk (atH h y0).1 (Z2D h l y0).fs]) (Fa (by(simp[*];omega):(La NodeG.dv (La (Z2D h l) (Lg k l))).length+(La NodeG.dv [NodeG.mk (atH h y0).1 (Z2D h l y0).fs]).length<=2^30) (Fa (ms:La NodeG.dv (La (Z2D h l) (Lg k l))++La NodeG.dv [NodeG.mk (atH h y0).1 (Z2D h l y0).fs]=La NodeG.dv (La (Z2D h l) (Lg k l)++[NodeG.mk (atH h y0).1 (Z2D h l y0).fs])) (Fx 77 k Fz))))))))
omit O hw hl in
theorem Zot:CP (rndF f20 2) (onL h l roots l.length).st (.ext 2) (Tg.st ⟨tm 79 [(4,.pt 8004 0 0),(5,int 0),(8,.pt 32008 0 0)],ogB h l (roots.map (Z1G l)) (l.map (Z2D h l)),8⟩):=by
 have e:l.take l.length=l:=Xb;unfold onL ogB;rw[e];exact sF [] [] (Ffb 57 (Lc ((l.length:Int)<(l.length:Int))) Fz)
def ZnC  := Z0b (S:=λk=>(onL h l roots k).st) l.length (by kernel_rfl) (λk hk=>Zmo h l roots O hw hl k hk) (Zot h l roots)
end
section
variable (h:Heap) (roots:List Int) (hw:WOk h.W) (hl:roots.length<=1000) (hr:ULe roots)
include hw hl hr
theorem ZfP(e:(Z0y h roots).2≠0):GP 20 [h.av,Z01 roots] Ld (.tu [.ag [Z0m [],.d (.sl 4 (([]:List NodeG).map NodeG.dv))],int (Z0y h roots).2]) []:=by
 exact gF [] func20 [] (Fh 4 [.gh 3 1,.int 0,.gh 54 4,.int 1] (Fbq 20 [] (@Zeb h roots aa aa aa aa) (Ftb 24 ((Z0y h roots).2 != 0) (Fnl (Fnl Fz)))))
theorem ZcI(e:(Z0y h roots).2=0):GP 20 [h.av,Z01 roots] Ld (.tu [.ag [Z0m (roots.map (Z1G (Z0y h roots).1)),.d (.sl 4 (((Z0y h roots).1.map (Z2D h (Z0y h roots).1)).map NodeG.dv))],int 0]) []:=by
 have ol:=Z7L h roots hw hl hr e;exact gF [] func20 [] (Fh 4 [.gh 3 1,.int 0,.gh 54 4,.int 1] (Fh 8 [.gh 3 1,.int 0,.gh 54 4,.int 1] (Fbr 20 [] (@Zgv h roots aa aa aa aa) (Fl 28 wdv roots (Fu (@Zns h ((Z0y h roots).1) roots aa aa aa) (Fl 55 wdv (Z0y h roots).1 (Fu (@ZnC h ((Z0y h roots).1) roots aa aa aa) Fz)))))))
end
def difB{α:Type}[Inhabited α][DecidableEq α](a b:List α)(i:Nat):Bool:=Lc (a.getD i M≠b.getD i M)
def Z5k{α:Type}[Inhabited α][DecidableEq α]{a b:List α}(hl:a.length=b.length)(h:(Lj a.length).find? (difB a b)=Lf):a=b:=by
 refine List.ext_getElem hl λi h1 h2=>?_;have:=L6.1 h i (Lv.2 h1);simp only[difB,decide_eq_true_eq,L2]at this;simpa[Lh,Lk h1,Lk h2]using this
def Z5m{α:Type}[Inhabited α][DecidableEq α]{a b:List α}{i:Nat}(h:(Lj a.length).find? (difB a b)=Le i):i<a.length/\a.getD i M≠b.getD i M/\∀ j,j<i->a.getD j M=b.getD j M:=by
 obtain⟨h1,h2,h3⟩:=LM.1 h;exact⟨Lv.1 h2,of_decide_eq_true h1,λj hj=>by simpa[difB]using h3 j hj⟩
def eqIL(a b:List Int)(i:Nat):Tg:=⟨tm 26 [(0,Z0m a),(1,Z0m b),(4,bool Ld),(12,int a.length),(13,int i)],[],4⟩
section
variable (a b:List Int) (hl:a.length=b.length) (ha:a.length<=281474976710656)
include hl ha
theorem ZeB(i:Nat)(hi:i<a.length)(e:a.getD i M=b.getD i M):CP (rndF f61 0) (eqIL a b i).st .nrm (eqIL a b (i+1)).st:=by
 exact sF [] [] (Ftb 14 (Lc ((i:Int)<(a.length:Int))) (Fek 18 idv a (↑i) i (Fek 22 idv b (↑i) i (Ffb 24 (a.getD i M != b.getD i M) (Fx 25 i Fz)))))
theorem Zke(i:Nat)(hi:i<a.length)(e:a.getD i M≠b.getD i M):CP (rndF f61 0) (eqIL a b i).st .ret (Tg.st ⟨tm 26 [(4,bool Ld)],[],60⟩):=by
 exact sF [] [] (Ftb 14 (Lc ((i:Int)<(a.length:Int))) (Fek 18 idv a (↑i) i (Fek 22 idv b (↑i) i (Ftb 24 (a.getD i M != b.getD i M) Fz))))
omit hl ha in
theorem Zob:CP (rndF f61 0) (eqIL a b a.length).st (.ext 0) (Tg.st ⟨tm 26 [(4,bool Ld)],[],60⟩):=by
 exact sF [] [] (Ffb 14 (Lc ((a.length:Int)<(a.length:Int))) Fz)
def Zmk(h:(Lj a.length).find? (difB a b)=Lf)  := Z0b (S:=λi=>(eqIL a b i).st) a.length (by kernel_rfl) (λi hi=>ZeB a b hl ha i hi (by rw[<- Z5k hl h])) (Zob a b)
theorem Zl8(h:((Lj a.length).find? (difB a b)).isSome=Lb):CP (blkF f61 0) (Tg.st ⟨tm 26 [(0,Z0m a),(1,Z0m b),(4,bool Ld),(12,int a.length),(13,int 0)],[],4⟩) .ret (Tg.st ⟨tm 26 [(4,bool Ld)],[],60⟩):=by
 obtain⟨i,h⟩:=Lz.1 h;obtain⟨h1,h2,h3⟩:=Z5m h;exact Z0v (S:=λi=>(eqIL a b i).st) i kr (λj hj=>ZeB a b hl ha j oq (h3 j hj)) (Zke a b hl ha i h1 h2)
end
def Zou(a b:List Int)(ha:a.length<=281474976710656)(hb:b.length<=281474976710656):GP 61 [Z0m a,Z0m b] Lb (bool (Lc (a=b))) []:=by
 by_cases hl:a.length=b.length
 .cases h:(Lj a.length).find? (difB a b)with
  | none =>
   rw[decide_eq_true (Z5k hl h)];exact gF [] func61 [] (Fl 7 idv a (Fl 9 idv b (Ffb 10 ((a.length:Int) != (b.length:Int)) (Fl 12 idv a (Fu (@Zmk a b aa aa aa) Fz)))))
  | some i =>
   have hs:((Lj a.length).find? (difB a b)).isSome=Lb:=by rw[h];rfl
   rw[decide_eq_false (λq=>(Z5m h).2.1 (by rw[q]))];exact gF [] func61 [] (Fl 7 idv a (Fl 9 idv b (Ffb 10 ((a.length:Int) != (b.length:Int)) (Fl 12 idv a (Fu (@Zl8 a b aa aa aa) Fz)))))
 .rw[decide_eq_false (λq=>hl (by rw[q]))];exact gF [] func61 [] (Fl 7 idv a (Fl 9 idv b (Ftb 10 ((a.length:Int) != (b.length:Int)) Fz)))
def eqUL(a b:List Int)(i:Nat):Tg:=⟨tm 26 [(0,Z01 a),(1,Z01 b),(4,bool Ld),(12,int a.length),(13,int i)],[],4⟩
section
variable (a b:List Int) (hl:a.length=b.length) (ha:a.length<=281474976710656)
include hl ha
theorem Zf4(i:Nat)(hi:i<a.length)(e:a.getD i M=b.getD i M):CP (rndF f64 0) (eqUL a b i).st .nrm (eqUL a b (i+1)).st:=by
 exact sF [] [] (Ftb 14 (Lc ((i:Int)<(a.length:Int))) (Fek 18 wdv a (↑i) i (Fek 22 wdv b (↑i) i (Ffb 24 (a.getD i M != b.getD i M) (Fx 25 i Fz)))))
theorem Zjn(i:Nat)(hi:i<a.length)(e:a.getD i M≠b.getD i M):CP (rndF f64 0) (eqUL a b i).st .ret (Tg.st ⟨tm 26 [(4,bool Ld)],[],60⟩):=by
 exact sF [] [] (Ftb 14 (Lc ((i:Int)<(a.length:Int))) (Fek 18 wdv a (↑i) i (Fek 22 wdv b (↑i) i (Ftb 24 (a.getD i M != b.getD i M) Fz))))
omit hl ha in
theorem Zo4:CP (rndF f64 0) (eqUL a b a.length).st (.ext 0) (Tg.st ⟨tm 26 [(4,bool Ld)],[],60⟩):=by
 exact sF [] [] (Ffb 14 (Lc ((a.length:Int)<(a.length:Int))) Fz)
def Zme(h:(Lj a.length).find? (difB a b)=Lf)  := Z0b (S:=λi=>(eqUL a b i).st) a.length (by kernel_rfl) (λi hi=>Zf4 a b hl ha i hi (by rw[<- Z5k hl h])) (Zo4 a b)
theorem Zkq(h:((Lj a.length).find? (difB a b)).isSome=Lb):CP (blkF f64 0) (Tg.st ⟨tm 26 [(0,Z01 a),(1,Z01 b),(4,bool Ld),(12,int a.length),(13,int 0)],[],4⟩) .ret (Tg.st ⟨tm 26 [(4,bool Ld)],[],60⟩):=by
 obtain⟨i,h⟩:=Lz.1 h;obtain⟨h1,h2,h3⟩:=Z5m h;exact Z0v (S:=λi=>(eqUL a b i).st) i kr (λj hj=>Zf4 a b hl ha j oq (h3 j hj)) (Zjn a b hl ha i h1 h2)
end
def ZoG(a b:List Int)(ha:a.length<=281474976710656)(hb:b.length<=281474976710656):GP 64 [Z01 a,Z01 b] Lb (bool (Lc (a=b))) []:=by
 by_cases hl:a.length=b.length
 .cases h:(Lj a.length).find? (difB a b)with
  | none =>
   rw[decide_eq_true (Z5k hl h)];exact gF [] func64 [] (Fl 7 wdv a (Fl 9 wdv b (Ffb 10 ((a.length:Int) != (b.length:Int)) (Fl 12 wdv a (Fu (@Zme a b aa aa aa) Fz)))))
  | some i =>
   have hs:((Lj a.length).find? (difB a b)).isSome=Lb:=by rw[h];rfl
   rw[decide_eq_false (λq=>(Z5m h).2.1 (by rw[q]))];exact gF [] func64 [] (Fl 7 wdv a (Fl 9 wdv b (Ffb 10 ((a.length:Int) != (b.length:Int)) (Fl 12 wdv a (Fu (@Zkq a b aa aa aa) Fz)))))
 .rw[decide_eq_false (λq=>hl (by rw[q]))];exact gF [] func64 [] (Fl 7 wdv a (Fl 9 wdv b (Ftb 10 ((a.length:Int) != (b.length:Int)) Fz)))
instance:DecidableEq NodeG:=fun x y=>decidable_of_iff (x.hd=y.hd∧x.fs=y.fs) ⟨fun h=>by cases x;cases y;simp only at h;rw[h.1,h.2],fun e=>by rw[e];exact⟨rfl,rfl⟩⟩
def Zlp(x y:NodeG)(hx:x.fs.length<=281474976710656)(hy:y.fs.length<=281474976710656):GP 63 [.ag [int x.hd.K,int x.hd.length,u32 x.hd.map,Z01 x.fs],.ag [int y.hd.K,int y.hd.length,u32 y.hd.map,Z01 y.fs]] Lb (bool (Lc (x=y))) []:=by
 have e:Lc (x=y)=(x.hd.K==y.hd.K&&(x.hd.length==y.hd.length&&x.hd.map==y.hd.map)&&Lc (x.fs=y.fs)):=by
  obtain⟨⟨x1,x2,x3⟩,x4⟩:=x;obtain⟨⟨y1,y2,y3⟩,y4⟩:=y;by_cases c:x1=y1/\x2=y2/\x3=y3/\x4=y4
  .obtain⟨rfl,rfl,rfl,rfl⟩:=c;simp
  .rw[decide_eq_false (λq=>c (by cases q;exact⟨rfl,rfl,rfl,rfl⟩))];symm;simp only[Bool.and_eq_false_iff,beq_eq_false_iff_ne,decide_eq_false_iff_not];by_cases q1:x1=y1<;>by_cases q2:x2=y2<;>by_cases q3:x3=y3<;>by_cases q4:x4=y4<;>simp_all
 rw[e];exact gF [] func63 [] (FcG 15 (x.hd.K==y.hd.K&&(x.hd.length==y.hd.length&&x.hd.map==y.hd.map)) (λhg=>by(try simp only[bs]at hg);exact @ZoG x.fs y.fs aa aa) Fz)
def eqFL(a b:List NodeG)(i:Nat):Tg:=⟨tm 32 [(1,.d (.sl 4 (b.map NodeG.dv))),(2,.fn 63 []),(6,bool Ld),(15,.d (.sl 4 (a.map NodeG.dv))),(16,int a.length),(17,int i)],[],4⟩
def FsOk(a:List NodeG):Prop:=∀ x∈a,x.fs.length<=281474976710656
def FsOk.at{a:List NodeG}(h:FsOk a){i:Nat}(hi:i<a.length):(a.getD i M).fs.length<=281474976710656:=h _ (by rw[Lh,Lk hi];exact LO hi)
section
variable (a b:List NodeG) (hl:a.length=b.length) (ha:a.length<=281474976710656) (fa:FsOk a) (fb:FsOk b)
include hl ha fa fb
theorem Zfk(i:Nat)(hi:i<a.length)(e:a.getD i M=b.getD i M):CP (rndF f62 0) (eqFL a b i).st .nrm (eqFL a b (i+1)).st:=by
 have f1:=fa.at hi;have f2:=fb.at (hl▸hi)
 exact sF [] [] (Ftb 18 (Lc ((i:Int)<(a.length:Int))) (Fek 20 NodeG.dv a (↑i) i (Fek 24 NodeG.dv b (↑i) i (Fc 29 (@Zlp (a.getD i M) (b.getD i M) aa aa) (Ffb 30 (!decide (a.getD i M=b.getD i M)) (Fx 31 i Fz))))))
theorem ZjY(i:Nat)(hi:i<a.length)(e:a.getD i M≠b.getD i M):CP (rndF f62 0) (eqFL a b i).st .ret (Tg.st ⟨tm 32 [(6,bool Ld)],[],60⟩):=by
 have f1:=fa.at hi;have f2:=fb.at (hl▸hi)
 exact sF [] [] (Ftb 18 (Lc ((i:Int)<(a.length:Int))) (Fek 20 NodeG.dv a (↑i) i (Fek 24 NodeG.dv b (↑i) i (Fc 29 (@Zlp (a.getD i M) (b.getD i M) aa aa) (Ftb 30 (!decide (a.getD i M=b.getD i M)) Fz)))))
omit hl ha fa fb in
theorem Zoi:CP (rndF f62 0) (eqFL a b a.length).st (.ext 0) (Tg.st ⟨tm 32 [(6,bool Ld)],[],60⟩):=by
 exact sF [] [] (Ffb 18 (Lc ((a.length:Int)<(a.length:Int))) Fz)
def Zm1(h:(Lj a.length).find? (difB a b)=Lf)  := Z0b (S:=λi=>(eqFL a b i).st) a.length (by kernel_rfl) (λi hi=>Zfk a b hl ha fa fb i hi (by rw[<- Z5k hl h])) (Zoi a b)
theorem ZkC(h:((Lj a.length).find? (difB a b)).isSome=Lb):CP (blkF f62 0) (Tg.st ⟨tm 32 [(1,.d (.sl 4 (b.map NodeG.dv))),(2,.fn 63 []),(6,bool Ld),(15,.d (.sl 4 (a.map NodeG.dv))),(16,int a.length),(17,int 0)],[],4⟩) .ret (Tg.st ⟨tm 32 [(6,bool Ld)],[],60⟩):=by
 obtain⟨i,h⟩:=Lz.1 h;obtain⟨h1,h2,h3⟩:=Z5m h;exact Z0v (S:=λi=>(eqFL a b i).st) i kr (λj hj=>Zfk a b hl ha fa fb j oq (h3 j hj)) (ZjY a b hl ha fa fb i h1 h2)
end
def Zmf(a b:List NodeG)(ha:a.length<=281474976710656)(hb:b.length<=281474976710656)(fa:FsOk a)(fb:FsOk b):GP 62 [.d (.sl 4 (a.map NodeG.dv)),.d (.sl 4 (b.map NodeG.dv)),.fn 63 []] Lb (bool (Lc (a=b))) []:=by
 by_cases hl:a.length=b.length
 .cases h:(Lj a.length).find? (difB a b)with
  | none =>
   rw[decide_eq_true (Z5k hl h)];exact gF [] func62 [] (Fl 11 NodeG.dv a (Fl 13 NodeG.dv b (Ffb 14 ((a.length:Int) != (b.length:Int)) (Fl 16 NodeG.dv a (Fu (@Zm1 a b aa aa aa aa aa) Fz)))))
  | some i =>
   have hs:((Lj a.length).find? (difB a b)).isSome=Lb:=by rw[h];rfl
   rw[decide_eq_false (λq=>(Z5m h).2.1 (by rw[q]))];exact gF [] func62 [] (Fl 11 NodeG.dv a (Fl 13 NodeG.dv b (Ffb 14 ((a.length:Int) != (b.length:Int)) (Fl 16 NodeG.dv a (Fu (@ZkC a b aa aa aa aa aa) Fz)))))
 .rw[decide_eq_false (λq=>hl (by rw[q]))];exact gF [] func62 [] (Fl 11 NodeG.dv a (Fl 13 NodeG.dv b (Ftb 14 ((a.length:Int) != (b.length:Int)) Fz)))
def Z1y(a b:GraphG):Bool:=Lc (a.roots=b.roots)&&Lc (a.nodes=b.nodes)
structure GphOk (a:GraphG):Prop where
 r:a.roots.length<=281474976710656
 n:a.nodes.length<=281474976710656
 f:FsOk a.nodes
def graphSame(a b:GraphG)(ha:GphOk a)(hb:GphOk b):GP 21 [.ag [Z0m a.roots,.d (.sl 4 (a.nodes.map NodeG.dv))],.ag [Z0m b.roots,.d (.sl 4 (b.nodes.map NodeG.dv))]] Lb (bool (Z1y a b)) []:=by
 obtain⟨a1,a2,a3⟩:=ha;obtain⟨b1,b2,b3⟩:=hb;unfold Z1y;exact gF [] func21 [] (Fc 9 (@Zou a.roots b.roots aa aa) (FcG 15 (Lc (a.roots=b.roots)) (λhg=>by(try simp only[bs]at hg);exact @Zmf a.nodes b.nodes aa aa aa aa) Fz))
def Z1x(w:Work)(r:Int):Int:=if r∈w.Q then r else(Z0n (loadA w.heap.W r).1).1
def Za9(w:Work)(r:Int)(hw:WOk w.heap.W)(hl:w.heap.W.length<=4096)(hq:w.Q.length<=1048576)(h0:0<=r/\r<=18446744073709551615):GP 85 [w.av,u64 r] Lb (u64 (Z1x w r)) []:=by
 have h1:=Z0E hw r;rcases bb (Lc (r∈w.Q))with hc0 | hc0<;>have hc0p:=hc0<;>simp only[bs]at hc0p
 .exact gF [] func85 [Lb] (Fh 12 [.call Lb (Sx.bool (Lc (r∈w.Q))) [],.br Lb] (Fa (@Z0W w.Q r aa) (Fa hc0 (Fa (by simp[Z1x, *]:r=Z1x w r) Fz))))
 .exact gF [] func85 [Lb] (Fh 12 [.call Lb (Sx.bool (Lc (r∈w.Q))) [],.br Ld] (Fa (@Z0W w.Q r aa) (Fa hc0 (Fc 19 (@Z1E w.heap.W r oq aa) (Fc 24 (@Z2T ((loadA w.heap.W r).1) oq oq) (Fa (by simp[Z1x, *]:(Z0n (loadA w.heap.W r).1).1=Z1x w r) Fz))))))
def Zh9(w:Work)(a:Int)(hw:WOk w.heap.W)(h1:w.heap.W.length<=4096)(h0:0<=a/\a<=18446744073709551615):GP 142 [w.av,u64 a] Lb (hdW w a).av []:=by
 have h2:=Z0E hw a;exact gF [] func142 [] (Fc 14 (@Z1E w.heap.W a oq aa) (Fc 19 (@Z2K ((loadA w.heap.W a).1) oq oq) Fz))
def Z5o(w:Work)(x:Int):Work:=if Z1b w (ofA w.heap.C x).1=Lb/\x∉w.Q then⟨⟨w.heap.C,(Z0r w.heap.W x (objW ⟨0,(hdW w x).length,0⟩)).1,w.heap.P,w.heap.S,w.heap.B⟩,w.old,w.T,w.Q,w.D,⟨w.rep.copied,w.rep.kept,w.rep.filled+1,w.rep.freed,w.rep.cleared,w.rep.steps⟩⟩else w
def fillN(w:Work):Nat->Work
 | 0=>w
 | k+1=>Z5o (fillN w k) (w.old.getD k M)
def ZkS(w:Work)(i:Nat):Tg:=⟨tm 84 [(1,.pt 8001 0 0),(2,.pt 8002 0 0),(3,int i)],[(8002,.box 138 zW),(8001,.box 138 w.cells)],60⟩
structure FOk (w:Work):Prop where
 W:WOk w.heap.W
 wl:w.heap.W.length<=4096
 pl:w.heap.P.length<=64
 ol:w.old.length<=524288
 o:∀ x∈w.old,0<=x/\x<=8192
 tl:w.T.length<=1000000
 ql:w.Q.length<=1000000
def WkOk.fok{w:Work}(h:WkOk w):FOk w:=by
 have h1:=h.mu;have h2:=h.tl;have h3:=h.pl;have h4:=validB_iff.1 h.C;exact⟨h.W,h.wl,by omega,h.ol,h.o,by omega,by omega⟩
def Z58{n:Int}(h:0<=n/\n<=255):Z0a ⟨0,n,0⟩=(1+16*n,0):=by
 have hv:Z0d ⟨0,n,0⟩=Lb:=validH_iff.2 ⟨by simp,by simp,h.1,h.2,by simp⟩;rw[Z0a,if_pos hv];simp
section
variable (w:Work) (i:Nat) (hw:FOk w) (hi:i<w.old.length) (hr:0<=w.rep.filled/\w.rep.filled<=1000000)
include hw hi hr
theorem Ziq:CP (rndF f87 0) (ZkS w i).st .nrm (ZkS (Z5o w (w.old.getD i M)) (i+1)).st:=by
 have h1:=hw.W;have h2:=hw.wl;have h3:=hw.pl;have h4:=hw.ol;have h5:=hw.tl;have h6:=hw.ql;have hx:=hw.o _ (getD_mem_iff.2 ⟨i,hi,rfl⟩);have hm:=Z2f (loadA w.heap.W (w.old.getD i M)).1 (Z0E h1 _).1;have hh:0<=(hdW w (w.old.getD i M)).length/\(hdW w (w.old.getD i M)).length<=255:=Z0f w.heap.W (w.old.getD i M);have he:=Z58 hh;by_cases c1:Z1b w (ofA w.heap.C (w.old.getD i M)).1=Lb
 .by_cases c2:w.old.getD i M∈w.Q
  .have e7:Z5o w (w.old.getD i M)=w:=by rw[Z5o,if_neg (by rintro⟨_,q⟩;exact q c2)]
   rw[e7];exact sF [] [] (FN 13 14 24 wdv w.old i (Fc 26 (@Z4q w.heap.C (w.old.getD i M) oq oq) (Fc 32 (@Z1S w ((ofA w.heap.C (w.old.getD i M)).1) oq oq) (FeG 40 (!!Z1b w (ofA w.heap.C (w.old.getD i M)).1) wdv w.old (↑i) i (FcG 42 (!!Z1b w (ofA w.heap.C (w.old.getD i M)).1) (λhg=>by(try simp only[bs]at hg);exact @Z0W w.Q (w.old.getD i M) oq) (Fts 43 (!Z1b w (ofA w.heap.C (w.old.getD i M)).1||Lc (w.old.getD i M∈w.Q)) (Fx 16 i Fz)))))))
  .have e7:Z5o w (w.old.getD i M)=⟨⟨w.heap.C,(Z0r w.heap.W (w.old.getD i M) (objW ⟨0,(hdW w (w.old.getD i M)).length,0⟩)).1,w.heap.P,w.heap.S,w.heap.B⟩,w.old,w.T,w.Q,w.D,⟨w.rep.copied,w.rep.kept,w.rep.filled+1,w.rep.freed,w.rep.cleared,w.rep.steps⟩⟩:=by rw[Z5o,if_pos ⟨c1,c2⟩]
   rw[e7];exact sF [] [] (Fh 71 [.els (La wdv ([(Z0a (Header.mk 0 (hdW w (w.old.getD i M)).length 0)).1]++Li (hdW w (w.old.getD i M)).length.toNat 0))] (FN 13 14 24 wdv w.old i (Fc 26 (@Z4q w.heap.C (w.old.getD i M) oq oq) (Fc 32 (@Z1S w ((ofA w.heap.C (w.old.getD i M)).1) oq oq) (FeG 40 (!!Z1b w (ofA w.heap.C (w.old.getD i M)).1) wdv w.old (↑i) i (FcG 42 (!!Z1b w (ofA w.heap.C (w.old.getD i M)).1) (λhg=>by(try simp only[bs]at hg);exact @Z0W w.Q (w.old.getD i M) oq) (Ffs 43 (!Z1b w (ofA w.heap.C (w.old.getD i M)).1||Lc (w.old.getD i M∈w.Q)) (Fek 48 wdv w.old (↑i) i (Fc 50 (@Zh9 w (w.old.getD i M) aa aa oq) (Fc 55 (@Z3e (Header.mk 0 (hdW w (w.old.getD i M)).length 0) (by(simp only[bs];omega))) (Fek 65 wdv w.old (↑i) i (Fs 68 (La wdv [(Z0a (Header.mk 0 (hdW w (w.old.getD i M)).length 0)).1]) (Fa (by grind[objW]:0<=(hdW w (w.old.getD i M)).length/\(↑(La wdv [(Z0a (Header.mk 0 (hdW w (w.old.getD i M)).length 0)).1]).length:Int)+(hdW w (w.old.getD i M)).length<=2^30) (Fa (by simp[objW,Lq,Ls,Lp,Lo,wdv,idv]:La wdv [(Z0a (Header.mk 0 (hdW w (w.old.getD i M)).length 0)).1]++Li (hdW w (w.old.getD i M)).length.toNat [du64 0]=La wdv ([(Z0a (Header.mk 0 (hdW w (w.old.getD i M)).length 0)).1]++Li (hdW w (w.old.getD i M)).length.toNat 0)) (Fc 72 (@Z4P w.heap.W ([(Z0a (Header.mk 0 (hdW w (w.old.getD i M)).length 0)).1]++Li (hdW w (w.old.getD i M)).length.toNat 0) (w.old.getD i M) oq oq (by grind[objW])) (Fi 80 (w.rep.filled+1) (Fx 16 i Fz)))))))))))))))))
 .have e7:Z5o w (w.old.getD i M)=w:=by rw[Z5o,if_neg (by rintro⟨q,_⟩;exact c1 q)]
  rw[e7];exact sF [] [] (FN 13 14 24 wdv w.old i (Fc 26 (@Z4q w.heap.C (w.old.getD i M) oq oq) (Fc 32 (@Z1S w ((ofA w.heap.C (w.old.getD i M)).1) oq oq) (FeG 40 (!!Z1b w (ofA w.heap.C (w.old.getD i M)).1) wdv w.old (↑i) i (FcG 42 (!!Z1b w (ofA w.heap.C (w.old.getD i M)).1) (λhg=>by(try simp only[bs]at hg);exact @Z0W w.Q (w.old.getD i M) oq) (Fts 43 (!Z1b w (ofA w.heap.C (w.old.getD i M)).1||Lc (w.old.getD i M∈w.Q)) (Fx 16 i Fz)))))))
end
def ZlN(w:Work):CP (rndF f87 0) (ZkS w w.old.length).st (.ext 0) (Tg.st ⟨tm 84 [(1,.pt 8001 0 0),(2,.pt 8002 0 0)],[(8002,.box 138 zW),(8001,.box 138 w.cells)],60⟩):=by
 exact sF [] [] (FO 13 14 wdv w.old Fz)
def Zjz(w:Work)(x:Int):∃ l n,Z5o w x=⟨⟨w.heap.C,l,w.heap.P,w.heap.S,w.heap.B⟩,w.old,w.T,w.Q,w.D,⟨w.rep.copied,w.rep.kept,n,w.rep.freed,w.rep.cleared,w.rep.steps⟩⟩/\l.length<=w.heap.W.length/\(WOk w.heap.W->WOk l)/\w.rep.filled<=n/\n<=w.rep.filled+1:=by
 unfold Z5o;split
 .refine⟨_,_,rfl,Z8W _ _ _,λh=>Z6A h ?_ _,by omega,by omega⟩;intro y hy;have hh:0<=(hdW w x).length/\(hdW w x).length<=255:=Z0f w.heap.W x;simp only[objW,LR,LH,Z58 hh]at hy;rcases hy with rfl | ⟨_,rfl⟩<;>omega
 .exact⟨w.heap.W,w.rep.filled,rfl,Ll _,λh=>h,by omega,by omega⟩
def Z5c(w:Work)(hw:FOk w):∀ k,FOk (fillN w k)/\(fillN w k).heap.C=w.heap.C/\(fillN w k).heap.P=w.heap.P/\(fillN w k).heap.S=w.heap.S/\(fillN w k).heap.B=w.heap.B/\(fillN w k).old=w.old/\(fillN w k).T=w.T/\(fillN w k).Q=w.Q/\(fillN w k).rep.freed=w.rep.freed/\(fillN w k).rep.cleared=w.rep.cleared/\w.rep.filled<=(fillN w k).rep.filled/\(fillN w k).rep.filled<=w.rep.filled+k
 | 0=>⟨hw,rfl,rfl,rfl,rfl,rfl,rfl,rfl,rfl,rfl,by simp[fillN],by simp[fillN]⟩
 | k+1=>by
  obtain⟨i0,i1,i2,i3,i4,i5,i6,i7,i8,i9,i10,i11⟩:=Z5c w hw k;obtain⟨l,n,e,e1,e2,e3,e4⟩:=Zjz (fillN w k) (w.old.getD k M);have:fillN w (k+1)=_:=e;rw[this];have hl:=i0.wl;exact⟨⟨e2 i0.W,by simp only;omega,i0.pl,i0.ol,i0.o,i0.tl,i0.ql⟩,i1,i2,i3,i4,i5,i6,i7,i8,i9,by simp only;omega,by simp only;omega⟩
section
variable (w:Work) (hw:FOk w) (hr:w.rep.filled=0)
include hw hr
theorem ZkY:CP (blkF f87 0) (Tg.st ⟨tm 84 [(1,.pt 8001 0 0),(2,.pt 8002 0 0),(3,int 0)],[(8002,.box 138 zW),(8001,.box 138 w.cells)],60⟩) .nrm (Tg.st ⟨tm 84 [(1,.pt 8001 0 0),(2,.pt 8002 0 0)],[(8002,.box 138 zW),(8001,.box 138 (fillN w w.old.length).cells)],60⟩):=by
 have hol:=hw.ol;refine Z0b (S:=λk=>(ZkS (fillN w k) k).st) w.old.length kr (λk hk=>?_) ?_
 .have h:=Z5c w hw k;have:=Ziq (fillN w k) k h.1 (by rw[h.2.2.2.2.2.1];exact hk) oq;rw[h.2.2.2.2.2.1]at this;exact this
 .have h:=Z5c w hw w.old.length;have:=ZlN (fillN w w.old.length);rw[h.2.2.2.2.2.1]at this;exact this
theorem ZcL:GP 87 [w.av] Ld (fillN w w.old.length).av []:=by
 exact gF [] func87 [] (Fu (@ZkY w aa aa) Fz)
end
def Z3c(s:Int)(p:Page):Prop:=p.K≠0/\p.S=s
instance (s:Int) (p:Page):Decidable (Z3c s p):=by unfold Z3c;infer_instance
def Z1n(s:Int)(p:Page):Page:=if Z3c s p then⟨0,0,0,0⟩else p
def Z23(pw s:Int)(l:List Page)(ws:List Int):Nat->List Int
 | 0=>ws
 | i+1=>if Z3c s (l.getD i M)then spl (Z23 pw s l ws i) (i*pw.toNat) (Li pw.toNat 0)else Z23 pw s l ws i
def Z4s(n s:Int)(l:List Page):Nat->Int
 | 0=>n
 | i+1=>if Z3c s (l.getD i M)then Z4s n s l i+1 else Z4s n s l i
def ZgG(w:Work)(ps:List Page)(ws:List Int)(n:Int)(i:Nat):Tg:=⟨tm 78 [(1,.pt 8001 0 0),(2,.pt 8002 0 0),(3,int i)],[(8001,.box 138 [int w.heap.C.pw,int w.heap.C.pg,.ow 24017,.ow 16010,int w.heap.S,int w.heap.B,Z01 w.old,Z0m w.T,Z01 w.Q,int w.D,int w.rep.copied,int w.rep.kept,int w.rep.filled,int n,int w.rep.cleared,int w.rep.steps]),(24017,.arr 35 1 (ws.map wdv)),(16010,.arr 86 4 (ps.map Page.dv)),(8002,.box 138 zW)],60⟩
def Zkj(w:Work)(ps:List Page)(ws:List Int)(n:Int)(i:Nat)(hl:ps.length<=64)(hi:i<ps.length)(hb:¬ Z3c w.heap.S (ps.getD i M)):CP (rndF f86 0) (ZgG w ps ws n i).st .nrm (ZgG w ps ws n (i+1)).st:=by
 unfold Z3c at hb;have hb':¬ ((ps.getD (i:Int).toNat M).K≠0/\(ps.getD (i:Int).toNat M).S=w.heap.S):=hb;exact sF [] [] (FM 24 25 Page.dv ps i (Fmq 33 Page.dv ps (↑i) (Ftb 44 ((ps.getD (i:Int).toNat M).K==0||(ps.getD (i:Int).toNat M).S != w.heap.S) (Fx 27 i Fz))))
def ZhA(w:Work)(ps:List Page)(ws:List Int)(n:Int)(i k:Nat):Tg:=⟨tm 78 [(1,.pt 8001 0 0),(2,.pt 8002 0 0),(3,int i),(5,int k)],[(8001,.box 138 [int w.heap.C.pw,int w.heap.C.pg,.ow 24017,.ow 16010,int w.heap.S,int w.heap.B,Z01 w.old,Z0m w.T,Z01 w.Q,int w.D,int w.rep.copied,int w.rep.kept,int w.rep.filled,int n,int w.rep.cleared,int w.rep.steps]),(16010,.arr 86 4 (ps.map Page.dv)),(24017,.arr 35 1 ((wr ws (Li w.heap.C.pw.toNat 0) (i*w.heap.C.pw.toNat) k).map wdv)),(8002,.box 138 zW)],64⟩
section
variable (w:Work) (ps:List Page) (ws:List Int) (n:Int) (i k:Nat) (hp:0<=w.heap.C.pw/\w.heap.C.pw<=64) (hi:i<=64) (hl:i*w.heap.C.pw.toNat+w.heap.C.pw.toNat<=ws.length) (hw:ws.length<=4096)
include hp hi hl hw
theorem ZhB(hk:k<w.heap.C.pw.toNat):CP (rndF f86 2) (ZhA w ps ws n i k).st .nrm (ZhA w ps ws n i (k+1)).st:=by
 have hs:=Zbq (ws:=ws) (l:=Li w.heap.C.pw.toNat 0) (i:=i*w.heap.C.pw.toNat) (k:=k) (by simpa using hl) (by simpa using hk) (0:Int);rw[show(Li w.heap.C.pw.toNat (0:Int)).getD k 0=0 by simp[List.getD,hk]]at hs;have hn:=Z4R (ws:=ws) (l:=Li w.heap.C.pw.toNat (0:Int)) (i:=i*w.heap.C.pw.toNat) (k:=k) (by simpa using hl) qo;have em:(i:Int)*w.heap.C.pw=((i*w.heap.C.pw.toNat:Nat):Int):=by rw[Int.natCast_mul,Int.toNat_of_nonneg hp.1]
 have ei:(i:Int)*w.heap.C.pw+k=((i*w.heap.C.pw.toNat+k:Nat):Int):=by omega
 exact sF [] (fO 6) (Fh 10076 [.els (La wdv ((wr ws (Li w.heap.C.pw.toNat 0) (i*w.heap.C.pw.toNat) k).set (↑(i*w.heap.C.pw.toNat+k):Int).toNat 0))] (Ftb 62 (Lc ((k:Int)<w.heap.C.pw)) (Fi 73 ((i:Int)*w.heap.C.pw) (Fg 75 (by rw[wrapI' oq oq];omega:IntKind.i64.wrap ((i:Int)*w.heap.C.pw+(k:Int))=(↑(i*w.heap.C.pw.toNat+k):Int)) (Fa (by(simp only[Lm];omega):0<=(↑(i*w.heap.C.pw.toNat+k):Int)/\(↑(i*w.heap.C.pw.toNat+k):Int).toNat<(La wdv (wr ws (Li w.heap.C.pw.toNat 0) (i*w.heap.C.pw.toNat) k)).length) (Fa (by(simp only[Lm];omega):(↑(i*w.heap.C.pw.toNat+k):Int).toNat<(La wdv (wr ws (Li w.heap.C.pw.toNat 0) (i*w.heap.C.pw.toNat) k)).length) (Fa (ms:(La wdv (wr ws (Li w.heap.C.pw.toNat 0) (i*w.heap.C.pw.toNat) k)).set (↑(i*w.heap.C.pw.toNat+k):Int).toNat [du64 0]=La wdv ((wr ws (Li w.heap.C.pw.toNat 0) (i*w.heap.C.pw.toNat) k).set (↑(i*w.heap.C.pw.toNat+k):Int).toNat 0)) (Fx 64 k (Fr (35:Int) (Fa (by refine congrArg _ ?_;exact hs:La wdv ((wr ws (Li w.heap.C.pw.toNat 0) (i*w.heap.C.pw.toNat) k).set (↑(i*w.heap.C.pw.toNat+k):Int).toNat 0)=La wdv (wr ws (Li w.heap.C.pw.toNat 0) (i*w.heap.C.pw.toNat) (k+1))) Fz))))))))))
theorem Zni:CP (rndF f86 2) (ZhA w ps ws n i w.heap.C.pw.toNat).st (.ext 2) (Tg.st ⟨tm 78 [(1,.pt 8001 0 0),(2,.pt 8002 0 0),(3,int i)],[(8001,.box 138 [int w.heap.C.pw,int w.heap.C.pg,.ow 24017,.ow 16010,int w.heap.S,int w.heap.B,Z01 w.old,Z0m w.T,Z01 w.Q,int w.D,int w.rep.copied,int w.rep.kept,int w.rep.filled,int n,int w.rep.cleared,int w.rep.steps]),(16010,.arr 86 4 (ps.map Page.dv)),(24017,.arr 35 1 ((spl ws (i*w.heap.C.pw.toNat) (Li w.heap.C.pw.toNat 0)).map wdv)),(8002,.box 138 zW)],64⟩):=by
 have hs:=Zca ws (Li w.heap.C.pw.toNat (0:Int)) (i*w.heap.C.pw.toNat);rw[List.length_replicate]at hs;exact sF [] (fO 5) (Ffb 62 (Lc ((w.heap.C.pw.toNat:Int)<w.heap.C.pw)) (Fr (35:Int) (Fa (by refine congrArg _ ?_;assumption:La wdv (wr ws (Li w.heap.C.pw.toNat 0) (i*w.heap.C.pw.toNat) w.heap.C.pw.toNat)=La wdv (spl ws (i*w.heap.C.pw.toNat) (Li w.heap.C.pw.toNat 0))) Fz)))
theorem Zkh:CP (blkF f86 2) (Tg.st ⟨tm 78 [(1,.pt 8001 0 0),(2,.pt 8002 0 0),(3,int i),(5,int 0)],[(8001,.box 138 [int w.heap.C.pw,int w.heap.C.pg,.ow 24017,.ow 16010,int w.heap.S,int w.heap.B,Z01 w.old,Z0m w.T,Z01 w.Q,int w.D,int w.rep.copied,int w.rep.kept,int w.rep.filled,int n,int w.rep.cleared,int w.rep.steps]),(16010,.arr 86 4 (ps.map Page.dv)),(24017,.arr 35 1 (ws.map wdv)),(8002,.box 138 zW)],64⟩) .nrm (Tg.st ⟨tm 78 [(1,.pt 8001 0 0),(2,.pt 8002 0 0),(3,int i)],[(8001,.box 138 [int w.heap.C.pw,int w.heap.C.pg,.ow 24017,.ow 16010,int w.heap.S,int w.heap.B,Z01 w.old,Z0m w.T,Z01 w.Q,int w.D,int w.rep.copied,int w.rep.kept,int w.rep.filled,int n,int w.rep.cleared,int w.rep.steps]),(16010,.arr 86 4 (ps.map Page.dv)),(24017,.arr 35 1 ((spl ws (i*w.heap.C.pw.toNat) (Li w.heap.C.pw.toNat 0)).map wdv)),(8002,.box 138 zW)],64⟩):=by
 have:=Z0b (S:=λk=>(ZhA w ps ws n i k).st) w.heap.C.pw.toNat kr (λk hk=>ZhB w ps ws n i k hp hi hl hw hk) (Zni w ps ws n i hp hi hl hw)
 simp only[ZhA,Z8L]at this;exact this
end
def ZjV(w:Work)(ps:List Page)(ws:List Int)(n:Int)(i:Nat)(hl:ps.length<=64)(hi:i<ps.length)(hb:Z3c w.heap.S (ps.getD i M))(hp:0<=w.heap.C.pw/\w.heap.C.pw<=64)(hs:i*w.heap.C.pw.toNat+w.heap.C.pw.toNat<=ws.length)(hw:ws.length<=4096)(hn:0<=n/\n<=64):CP (rndF f86 0) (ZgG w ps ws n i).st .nrm (ZgG w (ps.set i ⟨0,0,0,0⟩) (spl ws (i*w.heap.C.pw.toNat) (Li w.heap.C.pw.toNat 0)) (n+1) (i+1)).st:=by
 unfold Z3c at hb;have hb':(ps.getD (i:Int).toNat M).K≠0/\(ps.getD (i:Int).toNat M).S=w.heap.S:=hb;exact sF [] [] (Fh 10050 [.els (La Page.dv (ps.set (i:Int).toNat (Page.mk 0 0 0 0)))] (FM 24 25 Page.dv ps i (Fmq 33 Page.dv ps (↑i) (Ffb 44 ((ps.getD (i:Int).toNat M).K==0||(ps.getD (i:Int).toNat M).S != w.heap.S) (Fa (by(simp only[Lm];omega):0<=(i:Int)/\(i:Int).toNat<(La Page.dv ps).length) (Fa (by(simp only[Lm];omega):(i:Int).toNat<(La Page.dv ps).length) (Fa (by rw[Lp];rfl:(La Page.dv ps).set (i:Int).toNat [dint 0,dint 0,dint 0,dint 0]=La Page.dv (ps.set (i:Int).toNat (Page.mk 0 0 0 0))) (Fi 54 (n+1) (Fu (@Zkh w (ps.set (i:Int).toNat (Page.mk 0 0 0 0)) ws (n+1) i aa oq aa aa) (Fx 27 i Fz))))))))))
end Go.Proofs.YtgedmeaemofdkaaGreat
