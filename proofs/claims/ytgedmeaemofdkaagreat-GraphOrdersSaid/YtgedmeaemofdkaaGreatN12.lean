/-
 The statement GraphOrders: part 12.
 Conditions: none.
-/
import Derived.Test.YtgedmeaemofdkaaGreatN11
set_option maxRecDepth 100000
set_option maxHeartbeats 2000000
set_option linter.all false
open Inhabited renaming default->M
open Bool renaming true->La,false->Lc,and_eq_true->L5
open List renaming map->Lb,getD_eq_getElem?_getD->Lg,take->Lh,getElem?_eq_getElem->Li,range->Lk,length_map->Lm,map_append->Ln,drop->Lp,map_take->Lq,length_set->Ls,map_drop->Lt,map_set->Lu,mem_map->Lv,length_take->Ly,nodup_nil->Lz,getElem?_drop->LF,getElem?_eq_some_iff->LG,getElem?_map->LH,mem_of_getElem?->LI,mem_range->LL,find?_range_eq_some->LR,mem_append->LS,mem_or_eq_of_mem_set->LU,mem_replicate->LV,mem_singleton->LW,pairwise_iff_getElem->LY,replicate->LZ,getElem?_append->L9,getElem?_take->Xa,getElem_mem->Xb,length_drop->Xc,mem_cons->Xd,mem_of_mem_take->Xe,nodup_append->Xf,take_length->Xg
open Option renaming some->Ld,none->Lf,getD_some->LA,isSome_iff_exists->L1,map_eq_some_iff->L2,map_some->Xh
open Decidable renaming decide->Le,not_not->Xi
open Nat renaming le_refl->Lj,beq->Lo,zero_le->Lr,ble->Lw,le_of_ble_eq_true->Lx,eq_of_beq_eq_true->LM,le_trans->LN,lt_or_ge->LO,zero_add->L0
open Or renaming inr->Ll,inl->LB
open Array renaming size_setIfInBounds->LC,getElem?_append->L3,replicate->L4
open Int renaming mul_comm->LD,add_mul->LQ,mul_nonneg->L6,one_mul->L7,toNat->L8
open Go.Proofs.Tryz
namespace Go.Proofs.YtgedmeaemofdkaaGreat
open Go.Sx Go.RowKit
def Zkj{Ow:Sx.Own}{Im0:Nat->Prop}{w0:World}{ρ:Rho}{w:World}{Im:Nat->Prop}{H:Sx.Heap}{clk:Nat}{x:AV}{v:Value}{s:Nat}{els:List (List DV)}{β:Bi}(I:Sx.Inv Ow Im0 w0 ρ w Im H clk)(hx:Rel ρ w Im x v)(h:Z16 H x=Ld (s,els))
  (hblk:∀ a n c,v = .slice (Ld a) n c->n≠0->β.g=Ld a.block):RelD w (λg=>Im g\/β.g=Ld g) (.sl s els) v:=by
 obtain⟨p,c,rfl,hbg,hc,hl,hcell⟩:=Z1F I hx h;by_cases he:els=[]
 .subst he;exact .slNil _ _ _
 rcases hcell with hcell | ⟨q,rfl,hq,hcell⟩
 .exact absurd hcell he
 have hn:els.length≠0:=by simpa using he
 refine .sl s els q els.length c (λi o=>(w.cell? ⟨q.block,q.off+(i*s+o),Lf⟩).getD undef) rfl hc hbg (hl he) hq (.inr (hblk q _ c rfl hn)) ?_ ?_
 .intro i e o y hi ho;obtain⟨u,k1,_⟩:=hcell i e o y hi ho;rw[k1];rfl
 .intro i e o y hi ho;obtain⟨u,k1,k2⟩:=hcell i e o y hi ho;rw[k1];exact k2.mono (Sx.Ext.refl _ _) (λg hg=>.inl hg)
def rho0(β:Bi):Rho:=λb=>if b=0 then Ld β else Lf
def Z4O{β κ:Bi}{b:Nat}(h:rho0 β b=Ld κ):b=0/\κ=β:=by
 unfold rho0 at h;split at h
 .cases h;exact⟨aa,rfl⟩
 .cases h
def Zdd{β:Bi}{g:Nat}(h:OwA (ownR (rho0 β)) g):β.g=Ld g:=by
 obtain⟨b,κ,h1,h2⟩:=h;rw[(Z4O h1).2]at h2;exact h2
def ZmH(l:List Found)(hl:l.length<=1048576){w:World}{Im:Nat->Prop}{β:Bi}{v:Value}(hIm:∀ g,Im g->g<w.heap.size)(hB:RelB (rho0 β) w Im β (.arr 212 4 (l.map Found.dv)))(hg:∀ g,β.g=Ld g->g<w.heap.size/\¬ Im g)
  (hv:Rel (rho0 β) w Im (.ow 0) v):Calls prog 158 #[v,.func (.func 159) #[] #[]] w λe w'=>∃ u,∃ Im':Nat->Prop,e = .returned u/\Kept (λg=>β.g=Ld g) w w' /\
   (∀ g,Im' g->(Im g\/β.g=Ld g\/w.heap.size<=g)/\g<w'.heap.size)/\RelD w' Im' (.sl 4 ((l.filter Z2i).map Found.dv)) u:=by
 refine calls_of_wp func158 (c:=bdyF f158) kr ?_;have I0:Sx.Inv (ownR (rho0 β)) Im w (rho0 β) w Im (hOf [(0,.arr 212 4 (l.map Found.dv))]) 1:=by
  refine⟨Kept.refl _ _,λb b' κ κ' g _ _ q1 q2 _ _=>by rw[(Z4O q1).1,(Z4O q2).1],λb κ g _ q1 q2=>?_,λb κ g q1 q2=>?_,λb κ g q1 q2=>?_,hIm,λg h=>.inl h,λb B q=>?_,λb hb _=>?_,⟨Lj _,λ_ _ _ h=>h⟩⟩
  .rw[(Z4O q1).2]at q2;exact(hg g q2).2
  .rw[(Z4O q1).2]at q2;exact(hg g q2).1
  .exact .inr ⟨b,κ,q1,q2⟩
  .simp only[hOf]at q;split at q
   .rename_i hb;cases q;subst hb;exact⟨β,rfl,hB⟩
   .cases q
  .unfold rho0;rw[if_neg oq]
 have S:Sx.Sys (ownR (rho0 β)) Im w (tm 42 [(0,.ow 0),(1,.fn 159 [])]) (hOf [(0,.arr 212 4 (l.map Found.dv))]) 1 { tmps := #[v,.func (.func 159) #[] #[]]++L4 (Tryz.f158.ntmps-(#[v,.func (.func 159) #[] #[]]:Array Value).size) undef,defers:=[] } w:=by
  refine⟨_,Im,I0,⟨by kernel_rfl,λk y u hy hu=>?_,rfl⟩⟩;rw[show tm 42 [(0,.ow 0),(1,.fn 159 [])]=[.ow 0,.fn 159 []]++LZ 40 .any from by kernel_rfl,L9]at hy;rw[L3]at hu;split at hy
  .rename_i hk;have hk3:k<2:=hk;rw[if_pos (show k<(#[v,.func (.func 159) #[] #[]]:Array Value).size from hk3)]at hu;rcases k with _ | _ | k
   .cases hy;cases hu;exact hv
   .cases hy;cases hu;exact .fn rfl (λi a v h=>by simp at h)
   .omega
  .have:=LI hy;rw[(LV.1 this).2];exact .any _
 have fin:∀ (x:AV) (els:List (List DV)) (L:List (List DV)) (clk:Nat) (a':Act) (w':World),Sx.Sys (ownR (rho0 β)) Im w (tm 42 [(4,x)]) (hOf [(0,.arr 212 4 els)]) clk a' w'->(tm 42 [(4,x)]).getD 4 .any=x->(x = .ow 0\/∃ o n,x = .os 0 o n)->Z16 (hOf [(0,.arr 212 4 els)]) x=Ld (4,L)->L=(l.filter Z2i).map Found.dv ->
   bodyPost prog f158 (λe w'=>∃ u,∃ Im':Nat->Prop,e = .returned u/\Kept (λg=>β.g=Ld g) w w'/\(∀ g,Im' g->(Im g\/β.g=Ld g\/w.heap.size<=g)/\g<w'.heap.size)/\RelD w' Im' (.sl 4 ((l.filter Z2i).map Found.dv)) u) .ret a' w':=by
  rintro x els L clk a' w' ⟨ρ,Im',I,T⟩ hx4 hx hc hL;refine bodyPost_ret (results_tmp rfl _ _ _) T.defers ?_;have hr:Rel ρ w' Im' x (a'.tmps.getD 4 undef):=by
   have:=Z1o T (.tmp 4);rw[show ev (tm 42 [(4,x)]) (.tmp 4)=(tm 42 [(4,x)]).getD 4 .any from rfl,hx4]at this;exact this
  generalize a'.tmps.getD 4 undef=u at hr;obtain⟨κ,k1,k2⟩:=I.blk 0 _ rfl;have hκ:∀ g,κ.g=Ld g->w.heap.size<=g\/β.g=Ld g:=λg h=>(I.own 0 κ g k1 h).imp (·.1) Zdd;refine⟨u,λg=>Im' g\/κ.g=Ld g,rfl,I.kept.imp λ_ q=>Zdd q,λg h=>?_, ?_⟩
  .rcases h with h | h
   .refine⟨?_,I.imb g h⟩;rcases I.im0 g h with q | q | q
    .exact .inl q
    .exact .inr (.inr q)
    .exact .inr (.inl (Zdd q))
   .refine⟨?_,I.bnd 0 κ g k1 h⟩;rcases hκ g h with q | q
    .exact .inr (.inr q)
    .exact .inr (.inl q)
  .rw[<- hL];refine Zkj I hr hc λa n c hv hn=>?_;subst hv;rcases hx with rfl | ⟨o,m,rfl⟩
   .generalize hvv:Value.slice (Ld a) n c=vv at hr;cases hr with
    | ow h1 h2 h3 h4 =>
     injection hvv with e1 e2 e3;rw[k1]at h1;cases h1;rcases h4 with h4 | ⟨g,hg,e,_⟩
     .omega
     .rw[<- e1]at e;cases e;exact hg
   .generalize hvv:Value.slice (Ld a) n c=vv at hr;cases hr with
    | os h1 h2 h3 h4 h5 =>
     injection hvv with e1 e2 e3;rw[k1]at h1;cases h1;rcases h5 with h5 | ⟨g,hg,e,_⟩
     .omega
     .rw[<- e1]at e;cases e;exact hg
 by_cases h:Z0G l<l.length
 .refine wp_mono (Znc l hl h _ _ _ _ _ S) ?_;rintro e a' w' ⟨rfl,S1⟩;obtain⟨d1,d2,d3⟩:=Zh7 h;refine fin (.os 0 0 (delR l).2) _ _ _ a' w' S1 rfl (.inr ⟨_,_,rfl⟩) rfl ?_;have d5:(delR l).2<=(delR l).1.length:=by have:(delR l).1.length=l.length:=d2;have:(delR l).2<=l.length:=d3;omega
  rw[List.drop_zero,<- Lq,List.take_append_of_le_length (by rw[Ly];omega),List.take_take,Nat.min_self];exact congrArg _ d1
 .refine wp_mono (ZnD l hl h _ _ _ _ _ S) ?_;rintro e a' w' ⟨rfl,S1⟩;refine fin (.ow 0) _ _ _ a' w' S1 rfl (.inl rfl) rfl ?_;rw[Zji h]
def ZbE{P:Program}{o:Oper}{a:Act}{w:World}{x:Operand}(ho:o.op = .assign x):(execOp a.eval o).run P w = .ok (.value (a.eval x)) w:=by
 simp[execOp,ho]
def ZmY{P:Program}{o:Oper}{a:Act}{w:World}{x:Operand}(ho:o.op = .move x):(execOp a.eval o).run P w = .ok (.value (a.eval x)) w:=by
 simp[execOp,ho]
def ZaV(h:Heap)(hw:WOk h.W)(e:(allW h).2=0):GP 107 [h.av] La (.tu [Z01 (((allW h).1.filter Z2i).map (·.addr)),int 0]) []:=by
 intro w00 Im vs hIm hsz hargs;rw[<- callsIn_wide (n:=10)];refine callsIn_of_wp func107 (c:=bdyF f107) kr trivial ?_ rfl;have hs1:vs.size=1:=hsz;have S0:Sx.Sys Z47 Im w00 (tm 17 [(0,h.av)]) (hOf []) 1 { tmps:=vs++L4 (Tryz.f107.ntmps-vs.size) undef,defers:=[] } w00:=by
  refine⟨_,Im,Sx.Inv.empty hIm (Lj 1),⟨by rw[hs1];simp[hs1];kernel_rfl,λk y v hy hv=>?_,rfl⟩⟩;rw[show tm 17 [(0,h.av)]=[h.av]++LZ 16 .any from by kernel_rfl,L9]at hy;rw[L3]at hv;split at hy
  .rename_i hk;rw[if_pos (by rw[hsz];exact hk)]at hv;exact hargs k y v hy hv
  .have:=LI hy;rw[(LV.1 this).2];exact .any _
 generalize hR:(λe w'=>∃ v,e=Ending.returned v/\Zdl w00 Im La (AV.tu [Z01 (((allW h).1.filter Z2i).map (·.addr)),int 0]) [] v w')=R;generalize hQ:bodyPost prog f107 R=Q;refine Zmc h hw e 10 Q _ _ _ _ _ S0 ?_;rintro a1 w1 ⟨ρ1,Im1,I1,T1⟩;obtain⟨v4,t4,r4⟩:=T1.at (t:=4) (x:=.ow 17008) rfl;obtain⟨β,m,n⟩:=I1.blk 17008 _ rfl;have hz1:a1.tmps.size=17:=T1.size;have er:rest prog 10 4 (bdyF f107) Q a1 w1=(Code.region 4 (rgO f107 4) Lc).wpIn Fence.wide 10 prog (Exit.then (Code.ret.wpIn Fence.wide 10 prog Q) Q) a1 w1:=by kernel_rfl
 rw[er];refine wpIn_region ?_;rw[show Lk (rgO f107 4).size=[0,1,2,3,4]from by kernel_rfl];refine Z2e (o:=(rgO f107 4).getD 0 M) kr kr (Z2B (ro:=Lf) (by intro c h;cases h) (Z5J (ZmY (x:=.tmp 4) kr) ?_));rw[show((rgO f107 4).getD 0 M).dst=Ld 14 from by kernel_rfl,Z5z t4];generalize ha2:a1.put (Ld 14) v4=a2;have t14:a2.tmps[14]? = Ld v4:=by rw[<- ha2];exact Z5o oq
 have hz2:a2.tmps.size=17:=by rw[<- ha2];show(a1.tmps.setIfInBounds 14 v4).size=17;rw[LC];exact hz1
 have hd2:a2.defers=[]:=by rw[<- ha2];exact T1.defers
 have hcall:(execOp a2.eval ((rgO f107 4).getD 1 M)).run prog w1 = .ok (.enter 158 #[v4,.func (.func 159) #[] #[]]) w1:=by
  have hop:((rgO f107 4).getD 1 M).op = .call ⟨.value (.func 158),#[.tmp 14,.func 159],tsOf ((rgO f107 4).getD 1 M)⟩:=by kernel_rfl
  have:=Z1G (P:=prog) (f:=158) kr #[v4,.func (.func 159) #[] #[]] w1;have hev:∀ f,a2.eval (.func f) = .func (.func f) #[] #[]:=λf=>rfl;have hev2:=Z5z t14;generalize (rgO f107 4).getD 1 M=o at hop ⊢;simp[execOp,hop,resolve,hev,hev2,Deferred.ofValue,invoke,this]
 refine Z2e (o:=(rgO f107 4).getD 1 M) kr kr (Z2B (ro:=Lf) (by intro c h;cases h) ?_);unfold Oper.wp;rw[hcall,Oper.upon_enter];have al:=ZkX h;refine(ZmH (allW h).1 oq (w:=w1) (Im:=Im1) (β:=β) I1.imb (by
  obtain⟨b1,b2,b3,b4,b5⟩:=n;refine⟨b1,b2,b3,b4,b5⟩) (λg hg=>⟨I1.bnd _ _ g m hg,I1.notIm _ _ g ⟨_,rfl,by simp⟩ m hg⟩) (by
  cases r4 with
  | ow h1 h2 h3 h4=>rw[m]at h1;cases h1;exact .ow rfl h2 h3 h4)).mono ?_
 rintro e w2 ⟨u,Im2,rfl,K2,hIm2,hu⟩;rw[show((rgO f107 4).getD 1 M).dst=Ld 15 from by kernel_rfl];show wpOpsIn _ _ _ _ _ [2,3,4] (a2.put (Ld 15) u) w2;generalize ha3:a2.put (Ld 15) u=a3;have t15:a3.tmps[15]? = Ld u:=by rw[<- ha3];exact Z5o oq
 have hz3:a3.tmps.size=17:=by rw[<- ha3];show(a2.tmps.setIfInBounds 15 u).size=17;rw[LC];exact hz2
 have hd3:a3.defers=[]:=by rw[<- ha3];exact hd2
 have hcall2:(execOp a3.eval ((rgO f107 4).getD 2 M)).run prog w2 = .ok (.enter 157 #[u]) w2:=by
  have hop:((rgO f107 4).getD 2 M).op = .call ⟨.value (.func 157),#[.tmp 15],tsOf ((rgO f107 4).getD 2 M)⟩:=by kernel_rfl
  have:=Z1G (P:=prog) (f:=157) kr #[u] w2;have hev:∀ f,a3.eval (.func f) = .func (.func f) #[] #[]:=λf=>rfl;have hev2:=Z5z t15;generalize (rgO f107 4).getD 2 M=o at hop ⊢;simp[execOp,hop,resolve,hev,hev2,Deferred.ofValue,invoke,this]
 refine Z2e (o:=(rgO f107 4).getD 2 M) kr kr (Z2B (ro:=Lf) (by intro c h;cases h) ?_);unfold Oper.wp;rw[hcall2,Oper.upon_enter];refine(Zar ((allW h).1.filter Z2i) (by have:=List.length_filter_le Z2i (allW h).1;omega) w2 Im2 #[u] (λg hg=>(hIm2 g hg).2) rfl (λi x v hx hv=>by
  rcases i with _ | i
  .cases hx;cases hv;exact .d hu
  .simp at hx)).mono ?_
 rintro e w3 ⟨v2,rfl,K3,ρ3,Im3,h31,h32,_,_,h35,_,r2⟩;rw[show((rgO f107 4).getD 2 M).dst=Ld 16 from by kernel_rfl];show wpOpsIn _ _ _ _ _ [3,4] (a3.put (Ld 16) v2) w3;have r2':RelD w3 Im3 (.sl 1 ((((allW h).1.filter Z2i).map (·.addr)).map wdv)) v2:=by
  cases r2 with | d r=>exact r
 refine Z2e (o:=(rgO f107 4).getD 3 M) kr kr (Z2B (ro:=Lf) (by intro c h;cases h) (Z5J (ZbE (x:=.tmp 16) kr) ?_));refine Z2e (o:=(rgO f107 4).getD 4 M) kr kr (Z2B (ro:=Lf) (by intro c h;cases h) (Z5J (ZbE (x:=.const (.int .i64 0)) kr) ?_));rw[show((rgO f107 4).getD 3 M).dst=Ld 2 from by kernel_rfl,show((rgO f107 4).getD 4 M).dst=Ld 3 from by kernel_rfl,Z5z (a:=a3.put (Ld 16) v2) (Z5o oq)];have hs16:(a3.put (Ld 16) v2).tmps.size=17:=by show(a3.tmps.setIfInBounds 16 v2).size=17;rw[LC];exact hz3
 generalize ha4:a3.put (Ld 16) v2=a4 at hs16 ⊢;have hd4:a4.defers=[]:=by rw[<- ha4];exact hd3
 have t2:(a4.put (Ld 2) v2).tmps[2]? = Ld v2:=Z5o oq;have hs2:(a4.put (Ld 2) v2).tmps.size=17:=by show(a4.tmps.setIfInBounds 2 v2).size=17;rw[LC];exact hs16
 refine wpIn_ret ?_;show Q .ret _ w3;rw[<- hQ];refine bodyPost_ret (results_tmp2 rfl _ _ _) (show a4.defers=[]from hd4) ?_;rw[<- hR];have q2:=Z5z (Z6Y (u:=.int .i64 0) t2 (show 3≠2 by decide));have q3:=Z5z (a:=(a4.put (Ld 2) v2).put (Ld 3) (.int .i64 0)) (Z5o (u:=.int .i64 0) oq);have s1:=I1.kept.size;have s2:=K2.size;refine⟨_,rfl,Z3o (Z3o I1.kept.no K2 (λg hg=>(I1.own _ _ g m hg).elim (·.1) (λh=>h.no.elim))) K3 (λ_ h=>h.elim),λ_=>Lf,Im3,λg hg=>.inr ?_,h32,λ_ _ _ q=>(by cases q),λ_ _ _ _ _ q=>(by cases q),λ_ _ q=>(by cases q),λk B q=>by simp at q,.tu _ _ rfl λi x v hx hv=>?_⟩
 .rcases h31 g hg with q | q
  .cases q.1
  .omega
 rcases i with _ | _ | i
 .cases hx;cases hv;show Rel (λ_=>Lf) w3 Im3 _ (((a4.put (Ld 2) v2).put (Ld 3) (.int .i64 0)).tmps.getD 2 undef);rw[show((a4.put (Ld 2) v2).put (Ld 3) (.int .i64 0)).tmps.getD 2 undef=v2 from q2];exact .d r2'
 .cases hx;cases hv;show Rel (λ_=>Lf) w3 Im3 _ (((a4.put (Ld 2) v2).put (Ld 3) (.int .i64 0)).tmps.getD 3 undef);rw[show((a4.put (Ld 2) v2).put (Ld 3) (.int .i64 0)).tmps.getD 3 undef = .int .i64 0 from q3];exact .d (.sc _ rfl)
 .simp at hx
def ZnC(h:Heap)(e:(allW h).2=0):Z04 h=(((allW h).1.filter Z2i).map (·.addr),0):=by
 have e1:=Zb1 h;unfold Z04;rw[e1,e];simp only[Prod.mk.injEq,and_true];rw[List.filter_map];congr 1;refine List.filter_congr λx hx=>?_;have:=(Zhv x hx).1;simp only[Function.comp,Z2W,Z2i,this];by_cases hk:(atH h x.addr).1.K=0<;>simp[hk]
def ZjE(h:Heap)(e:¬ (allW h).2=0):Z04 h=([],(allW h).2):=by
 have e1:=Zb1 h;have e8:(allW h).1=[]:=by
  unfold allW at e ⊢;split at e
  .rename_i hp;rw[if_pos hp];exact Zkb h _ _ e
  .rename_i hp;rw[if_neg hp]
 unfold Z04;rw[e1,e8];rfl
def Z48(h:Heap)(hw:WOk h.W):GP 107 [h.av] La (.tu [Z01 (Z04 h).1,int (Z04 h).2]) []:=by
 by_cases e:(allW h).2=0
 .rw[ZnC h e];exact ZaV h hw e
 .rw[ZjE h e];exact Z8Y h hw e
end Go.Proofs.YtgedmeaemofdkaaGreat
namespace Go.Proofs.YtgedmeaemofdkaaGreat
open Go.Sx
def ZlP{h:Heap}{i o:Int}(e:(address h.C i o).2=0):adr h i o=4096+(i*h.C.pw+o)/\0<=i/\i<h.C.pg/\0<=o/\o<h.C.pw:=by
 unfold address at e;split at e
 .rename_i hv;split at e
  .rename_i hb;have hb':=hb;unfold inB at hb;simp at hb;refine⟨?_,by omega,by omega,by omega,by omega⟩;unfold adr address;rw[if_pos hv,if_pos hb']
  .simp at e
 .simp at e
def Z6I{h:Heap}{i:Int}:∀ {f:Nat} {o:Int},∀ x∈(Z1z h i f o).1,4096+(i*h.C.pw+o)<=x.addr/\x.addr<4096+(i*h.C.pw+h.C.pw)
 | 0,o,x,hx=>by simp[Z1z]at hx
 | f+1,o,x,hx=>by
  unfold Z1z at hx;split at hx
  .split at hx
   .rename_i h1;have ha:=ZlP h1.1;rcases Xd.1 hx with rfl | hx
    .simp only;omega
    .have:=Z6I x hx;have:=Z1n (atH h (adr h i o)).1;omega
   .simp at hx
  .simp at hx
def Zco{h:Heap}{i:Int}:∀ {f:Nat} {o:Int},((Z1z h i f o).1.map (·.addr)).Pairwise (· < ·)
 | 0,o=>by simp[Z1z]
 | f+1,o=>by
  unfold Z1z;split
  .split
   .rename_i h1;have ha:=ZlP h1.1;have hs:=Z7E h1.2;rw[List.map_cons,List.pairwise_cons];refine⟨λy hy=>?_,Zco⟩;obtain⟨x,hx,rfl⟩:=Lv.1 hy;have:=(Z6I x hx).1;simp only;omega
   .simp
  .simp
def Z6Q{h:Heap}{i:Int}:∀ x∈(Z0y h i).1,4096+i*h.C.pw<=x.addr/\x.addr<4096+(i+1)*h.C.pw:=by
 intro x hx;have e:(i+1)*h.C.pw=i*h.C.pw+h.C.pw:=by rw[LQ,L7]
 unfold Z0y Z1K at hx;split at hx
 .split at hx
  .have:=Z6I x hx;omega
  .simp at hx
 .simp at hx
def Zel(h:Heap)(i:Int):((Z0y h i).1.map (·.addr)).Pairwise (· < ·):=by
 unfold Z0y Z1K;split
 .split
  .exact Zco
  .simp
 .simp
def ZbH{h:Heap}(hw:0<=h.C.pw):∀ (f i:Nat),∀ x∈(allR h f i).1,4096+i*h.C.pw<=x.addr
 | 0,i,x,hx=>by simp[allR]at hx
 | f+1,i,x,hx=>by
  unfold allR at hx;split at hx
  .split at hx
   .rcases LS.1 hx with hx | hx
    .exact(Z6Q x hx).1
    .have:=ZbH hw f (i+1) x hx;have e:((i+1:Nat):Int)*h.C.pw=i*h.C.pw+h.C.pw:=by push_cast;rw[LQ,L7]
     omega
   .simp at hx
  .simp at hx
def Zfp{h:Heap}(hw:0<=h.C.pw):∀ (f i:Nat),((allR h f i).1.map (·.addr)).Pairwise (· < ·)
 | 0,i=>by simp[allR]
 | f+1,i=>by
  unfold allR;split
  .split
   .rw[Ln,List.pairwise_append];refine⟨Zel h i,Zfp hw f (i+1),λa ha b hb=>?_⟩;obtain⟨x,hx,rfl⟩:=Lv.1 ha;obtain⟨y,hy,rfl⟩:=Lv.1 hb;have h1:=(Z6Q x hx).2;have h2:=ZbH hw f (i+1) y hy;have e:((i+1:Nat):Int)*h.C.pw=((i:Int)+1)*h.C.pw:=by push_cast;rfl
    omega
   .simp
  .simp
def ZgL(h:Heap):(Z0N h).1.Pairwise (· < ·):=by
 rw[Zb1 h];unfold allW;split
 .rename_i hp;exact Zfp (by have:=Z0c hp;omega) _ _
 .simp
def Z43(h:Heap):(Z04 h).1.Pairwise (· < ·):=by
 unfold Z04;exact(ZgL h).filter _
def posB(l:List Int)(v:Int):Nat:=(l.takeWhile (λx=>Le (x<v))).length
def Zj6(l:List Int)(v:Int):posB l v<=l.length:=by
 unfold posB;exact(List.takeWhile_sublist _).length_le
def Ze9{l:List Int}{v:Int}(hs:l.Pairwise (· < ·)){k:Nat}(hk:k<l.length):(l.getD k M<v↔k<posB l v):=by
 have e:l.getD k M=l[k]:=by rw[Lg,Li hk];rfl
 rw[e];constructor
 .intro h;by_cases hc:k<posB l v
  .exact hc
  .exfalso;have hp:posB l v<l.length:=by omega
   have h2:=Zcu (λx=>Le (x<v)) l hp;have h3:¬ l[posB l v]<v:=by
    have:Le (l[posB l v]<v)=Lc:=h2;simpa using this
   rcases LO (posB l v) k with hlt | hge
   .have:=LY.1 hs (posB l v) k hp hk hlt;omega
   .have:posB l v=k:=by omega
    simp only[this]at h3;exact h3 h
 .intro h;obtain⟨h1,h2⟩:=Zi0 _ _ _ h;simpa using h2
def Zk6{l:List Int}{v:Int}(hs:l.Pairwise (· < ·)):(v∈l↔posB l v<l.length/\l.getD (posB l v) M=v):=by
 constructor
 .intro h;obtain⟨k,hk,e⟩:=List.getElem_of_mem h;have e2:l.getD k M=v:=by rw[Lg,Li hk,<- e];rfl
  have h1:¬ k<posB l v:=λq=>by have:=(Ze9 (v:=v) hs hk).2 q;omega
  have h2:k=posB l v:=by
   rcases LO (posB l v) k with hlt | hge
   .have hp:posB l v<l.length:=by omega
    have h3:¬ l.getD (posB l v) M<v:=λq=>by have:=(Ze9 (v:=v) hs hp).1 q;omega
    have h4:=LY.1 hs (posB l v) k hp hk hlt;have e5:l.getD (posB l v) M=l[posB l v]:=by rw[Lg,Li hp];rfl
    omega
   .omega
  subst h2;exact⟨hk,e2⟩
 .rintro⟨h1,h2⟩;rw[<- h2,Lg,Li h1];exact Xb h1
def Z9l(x:Int):GP 174 [u64 x] La (bool Lc) []:=by
 exact gF [] func174 [La] (Fbs ((x != x)=Lc) Fz)
def ZlN(x:Int):GP 208 [u64 x] La (bool Lc) []:=by
 exact gF [] func208 [La] (Fbs ((x != x)=Lc) Fz)
def Zhi(x y:Int):GP 173 [u64 x,u64 y] La (bool (Le (x<y))) []:=by
 exact gF [] func173 [] (Fc 6 (@ZlN x) (FcG 9 Lc (λhg=>by(try simp only[bs]at hg);exact @ZlN y) Fz))
def bsL(l:List Int)(v:Int)(i j:Nat):Tg:=⟨tm 54 [(0,Z01 l),(1,u64 v),(4,int 0),(5,bool Lc),(6,int l.length),(7,int i),(8,int j)],[],60⟩
section
variable (l:List Int) (v:Int) (hl:l.length<=1048576) (i j:Nat) (hij:i<j) (hj:j<=l.length)
include hl hij hj
theorem ZoM(hlt:l.getD ((i+j)/2) M<v):CP (rndF f127 0) (bsL l v i j).st .nrm (bsL l v ((i+j)/2+1) j).st:=by
 rcases bb (Le (l.getD (((i:Int)+(j:Int))/2).toNat M<v))with hc0 | hc0<;>have hc0p:=hc0<;>simp only[bs]at hc0p
 .let y0:=(i:Int)+(j:Int);exact sF [] [] (Fh 27 [.call La (Sx.bool (Le (l.getD (y0/2).toNat M<v))) [],.br La] (Ftb 15 (Le ((i:Int)<(j:Int))) (Fi 18 y0 (Fv 19 y0 (Fg 20 (by exact Z5r rfl dd:y0.fdiv (2^min (L8 1) 64)=y0/2) (Fo ((0:Int)<=1) (Fi 21 (y0/2) (Fe 24 wdv l (y0/2) (Fa (@Zhi (l.getD (y0/2).toNat M) v) (Fa hc0 (Fi 29 (y0/(2:Int)+1) Fz)))))))))))
 .contradiction
theorem ZoE(hlt:¬ l.getD ((i+j)/2) M<v):CP (rndF f127 0) (bsL l v i j).st .nrm (bsL l v i ((i+j)/2)).st:=by
 rcases bb (Le (l.getD (((i:Int)+(j:Int))/2).toNat M<v))with hc0 | hc0<;>have hc0p:=hc0<;>simp only[bs]at hc0p
 .contradiction
 .let y0:=(i:Int)+(j:Int);exact sF [] [] (Fh 27 [.call La (Sx.bool (Le (l.getD (y0/2).toNat M<v))) [],.br Lc] (Ftb 15 (Le ((i:Int)<(j:Int))) (Fi 18 y0 (Fv 19 y0 (Fg 20 (by exact Z5r rfl dd:y0.fdiv (2^min (L8 1) 64)=y0/2) (Fo ((0:Int)<=1) (Fi 21 (y0/2) (Fe 24 wdv l (y0/2) (Fa (@Zhi (l.getD (y0/2).toNat M) v) (Fa hc0 Fz))))))))))
end
def Zo7(l:List Int)(v:Int)(i:Nat):CP (rndF f127 0) (bsL l v i i).st (.ext 0) (Tg.st ⟨tm 54 [(0,Z01 l),(1,u64 v),(6,int l.length),(7,int i)],[],60⟩):=by
 exact sF [] [] (Ffb 15 (Le ((i:Int)<(i:Int))) Fz)
def bsGo(l:List Int)(v:Int)(hl:l.length<=1048576)(hs:l.Pairwise (· < ·)):∀ (f i j:Nat),j<=i+f->i<=posB l v->posB l v<=j->j<=l.length ->
  LSpec prog f127 0 (bsL l v i j).st (.ext 0) (Tg.st ⟨tm 54 [(0,Z01 l),(1,u64 v),(6,int l.length),(7,int (posB l v))],[],60⟩):=by
 intro f;induction f with
 | zero =>
  intro i j h1 h2 h3 h4;obtain⟨rfl,rfl⟩:i=posB l v/\j=posB l v:=by omega
  exact .endx (Zo7 l v _)
 | succ f ih =>
  intro i j h1 h2 h3 h4;by_cases hij:i<j
  .have hp:=Ze9 hs (v:=v) (k:=(i+j)/2) oq;by_cases hlt:l.getD ((i+j)/2) M<v
   .have:=hp.1 hlt;exact .next (ZoM l v hl i j hij h4 hlt) (ih ((i+j)/2+1) j oq oq h3 h4)
   .have:¬ (i+j)/2<posB l v:=λq=>hlt (hp.2 q);exact .next (ZoE l v hl i j hij h4 hlt) (ih i ((i+j)/2) oq h2 oq oq)
  .obtain⟨rfl,rfl⟩:i=posB l v/\j=posB l v:=by omega
   exact .endx (Zo7 l v _)
def Zj9(l:List Int)(v:Int)(hl:l.length<=1048576)(hs:l.Pairwise (· < ·)):CP (blkF f127 0) (Tg.st ⟨tm 54 [(0,Z01 l),(1,u64 v),(4,int 0),(5,bool Lc),(6,int l.length),(7,int 0),(8,int l.length)],[],60⟩) .nrm
  (Tg.st ⟨tm 54 [(0,Z01 l),(1,u64 v),(6,int l.length),(7,int (posB l v))],[],60⟩) :=
 (bsGo l v hl hs l.length 0 l.length oq oq (Zj6 l v) (Lj _)).ext kr
def bsearch(l:List Int)(v:Int)(hl:l.length<=1048576)(hs:l.Pairwise (· < ·)):GP 127 [Z01 l,u64 v] La (.tu [int (posB l v),bool (Le (v∈l))]) []:=by
 have hm:=Zk6 (v:=v) hs;have hp:=Zj6 l v;by_cases h1:posB l v<l.length
 .by_cases h2:l.getD (posB l v) M=v
  .have e:Le (v∈l)=La:=by simpa using hm.2 ⟨h1,h2⟩
   rw[e];exact gF [] func127 (fO 24) (Fl 11 wdv l (Fu (@Zj9 l v aa aa) (FeG 38 (Le ((↑(posB l v):Int)<(l.length:Int))) wdv l (↑(posB l v):Int) (posB l v) (FeG 45 (Le ((↑(posB l v):Int)<(l.length:Int))&&!l.getD (posB l v) M==v) wdv l (↑(posB l v):Int) (posB l v) (FcG 47 (Le ((↑(posB l v):Int)<(l.length:Int))&&!l.getD (posB l v) M==v) (λhg=>by(try simp only[bs]at hg);exact @Z9l (l.getD (posB l v) M)) (FcG 50 (Le ((↑(posB l v):Int)<(l.length:Int))&&!l.getD (posB l v) M==v&&Lc) (λhg=>by(try simp only[bs]at hg);exact @Z9l v) (Fr (↑(posB l v):Int) (Fb ((Le ((↑(posB l v):Int)<(l.length:Int))&&(l.getD (posB l v) M==v||Lc))=La) Fz))))))))
  .have e:Le (v∈l)=Lc:=by
    simp only[decide_eq_false_iff_not];exact λq=>h2 (hm.1 q).2
   rw[e];exact gF [] func127 (fO 24) (Fl 11 wdv l (Fu (@Zj9 l v aa aa) (FeG 38 (Le ((↑(posB l v):Int)<(l.length:Int))) wdv l (↑(posB l v):Int) (posB l v) (FeG 45 (Le ((↑(posB l v):Int)<(l.length:Int))&&!l.getD (posB l v) M==v) wdv l (↑(posB l v):Int) (posB l v) (FcG 47 (Le ((↑(posB l v):Int)<(l.length:Int))&&!l.getD (posB l v) M==v) (λhg=>by(try simp only[bs]at hg);exact @Z9l (l.getD (posB l v) M)) (FcG 50 (Le ((↑(posB l v):Int)<(l.length:Int))&&!l.getD (posB l v) M==v&&Lc) (λhg=>by(try simp only[bs]at hg);exact @Z9l v) (Fr (↑(posB l v):Int) (Fbs ((Le ((↑(posB l v):Int)<(l.length:Int))&&(l.getD (posB l v) M==v||Lc))=Lc) Fz))))))))
 .have e:Le (v∈l)=Lc:=by
   simp only[decide_eq_false_iff_not];exact λq=>h1 (hm.1 q).1
  rw[e];exact gF [] func127 (fO 24) (Fl 11 wdv l (Fu (@Zj9 l v aa aa) (FeG 38 (Le ((↑(posB l v):Int)<(l.length:Int))) wdv l (↑(posB l v):Int) (posB l v) (FeG 45 (Le ((↑(posB l v):Int)<(l.length:Int))&&!l.getD (posB l v) M==v) wdv l (↑(posB l v):Int) (posB l v) (FcG 47 (Le ((↑(posB l v):Int)<(l.length:Int))&&!l.getD (posB l v) M==v) (λhg=>by(try simp only[bs]at hg);exact @Z9l (l.getD (posB l v) M)) (FcG 50 (Le ((↑(posB l v):Int)<(l.length:Int))&&!l.getD (posB l v) M==v&&Lc) (λhg=>by(try simp only[bs]at hg);exact @Z9l v) (Fr (↑(posB l v):Int) (Fb ((Le ((↑(posB l v):Int)<(l.length:Int))&&(l.getD (posB l v) M==v||Lc))=Lc) Fz))))))))
structure BField where
 width:Int
 value:Int
 deriving DecidableEq,Inhabited
def BField.dv(f:BField):List DV:=[.sc (.int .i64 f.width),.sc (.int .u64 f.value)]
def ZoP{α β:Type}{f:α->β}{l:List α}(h:l≠[]):l.map f≠[]:=by simpa using h
structure PgOk (c:Conf) (p:Page):Prop where
 s:0<=p.S/\p.S<=1
 n:0<=p.N/\p.N<=2147483647
 k:0<=p.K/\p.K<=3
 k0:p.K=0->p.S=0/\p.U=0/\p.N=0
 k1:p.K=1->0<=p.U/\p.U<=c.pw
 k3:p.K=3->p.U=0/\p.N=0
structure PT (c:Conf) (l:List Page):Prop where
 b:∀ i,i<l.length->PgOk c (l.getD i M)
 lg:∀ i,i<l.length->(l.getD i M).K=2->1<=need c (l.getD i M).U/\∀ m:Nat,1<=m->(m:Int)<need c (l.getD i M).U->i+m<l.length/\(l.getD (i+m) M).K=3/\(l.getD (i+m) M).S=(l.getD i M).S
 tl:∀ i,i<l.length->(l.getD i M).K=3->∃ j,j<i/\(l.getD j M).K=2/\(i:Int)<j+need c (l.getD j M).U
def Z4q(c:Conf)(l:List Page):Nat->Int
 | 0=>0
 | i+1=>rdue c l i (Z4q c l i)
def ZhI{c:Conf}{l:List Page}:∀ {f i:Nat},l.length<=i+f->(rpB c l f i (Z4q c l i)=La↔∀ j,i<=j->j<l.length->rchk c l j (Z4q c l j))
 | 0,i,h=>by
  simp only[rpB,true_iff];intro j h1 h2;omega
 | f+1,i,h=>by
  unfold rpB;by_cases hi:i<l.length
  .rw[if_pos hi,L5,decide_eq_true_eq,show rdue c l i (Z4q c l i)=Z4q c l (i+1)from rfl,ZhI (f:=f) (i:=i+1) oq];constructor
   .rintro⟨h1,h2⟩ j h3 h4;by_cases hj:j=i
    .subst hj;exact h1
    .exact h2 j oq h4
   .intro hh;exact⟨hh i (Lj _) hi,λj h3 h4=>hh j oq h4⟩
  .rw[if_neg hi];simp only[true_iff];intro j h1 h2;omega
def Z8d{c:Conf}{l:List Page}:∀ i,0<=Z4q c l i->0<Z4q c l i->∃ j,j<i/\(l.getD j M).K=2/\Z4q c l i=j+need c (l.getD j M).U-i
 | 0,_,h=>by simp[Z4q]at h
 | i+1,h0,h=>by
  simp only[Z4q,rdue]at h0 h ⊢;split at h
  .rename_i hk;refine⟨i,by omega,hk, ?_⟩;rw[if_pos hk];omega
  .rename_i hk;have h1:1<Z4q c l i:=by omega
   obtain⟨j,j1,j2,j3⟩:=Z8d (c:=c) (l:=l) i oq oq;refine⟨j,by omega,j2, ?_⟩;rw[if_neg hk];omega
def Z9q(sp:Int):∀ (l:List Page) (k:Nat),(∀ m,m<k->m<l.length/\(l.getD m M).K=3/\(l.getD m M).S=sp)->k<=Z0Z sp l
 | _,0,_=>Lr _
 | [],k+1,h=>by have:=(h 0 oq).1;simp at this
 | p::l,k+1,h=>by
  have h0:=(h 0 oq).2;simp only[List.getD_cons_zero]at h0;rw[Z0Z,if_pos h0];have:=Z9q sp l k λm hm=>by
   have:=h (m+1) oq;simpa using this
  omega
def PT.due{c:Conf}{l:List Page}(h:PT c l){i:Nat}(hi:i<l.length)(hk:(l.getD i M).K=2):∀ m:Nat,(m:Int)<need c (l.getD i M).U->Z4q c l (i+1+m)=need c (l.getD i M).U-1-m
 | 0,hm=>by
  show rdue c l i (Z4q c l i)=_;rw[rdue,if_pos hk];omega
 | m+1,hm=>by
  have ih:=h.due hi hk m oq;have ht:=((h.lg i hi hk).2 (m+1) oq hm).2.1;show rdue c l (i+1+m) (Z4q c l (i+1+m))=_;rw[rdue,show i+1+m=i+(m+1) by omega,if_neg (by rw[ht];decide),show i+(m+1)=i+1+m by omega,ih];omega
def Z6W{c:Conf}{l:List Page}(h:∀ i,i<l.length->(l.getD i M).K=2->1<=need c (l.getD i M).U):∀ i,i<=l.length->0<=Z4q c l i
 | 0,_=>Int.le_refl _
 | i+1,hi=>by
  have ih:=Z6W h i oq;simp only[Z4q,rdue];split
  .rename_i hk;have:=h i oq hk;omega
  .omega
def Zoj{c:Conf}{l:List Page}:rpB c l l.length 0 0=La↔PT c l:=by
 have e:=ZhI (c:=c) (l:=l) (f:=l.length) (i:=0) oq;rw[show Z4q c l 0=0 from rfl]at e;rw[e];constructor
 .intro h;have hb:∀ i,i<l.length->PgOk c (l.getD i M):=by
   intro i hi;have q:=h i oq hi;unfold rchk at q;exact⟨⟨q.2.1,q.2.2.1⟩,⟨q.2.2.2.1,q.2.2.2.2.1⟩,⟨q.2.2.2.2.2.1,q.2.2.2.2.2.2.1⟩,q.2.2.2.2.2.2.2.1,q.2.2.2.2.2.2.2.2.1,q.2.2.2.2.2.2.2.2.2.2⟩
  have hl:∀ i,i<l.length->(l.getD i M).K=2->1<=need c (l.getD i M).U/\∀ m:Nat,1<=m->(m:Int)<need c (l.getD i M).U->i+m<l.length/\(l.getD (i+m) M).K=3/\(l.getD (i+m) M).S=(l.getD i M).S:=by
   intro i hi hk;have q:=(h i oq hi).2.2.2.2.2.2.2.2.2.1 hk;refine⟨q.1, ?_⟩;intro m h1 h2;obtain⟨g1,g2⟩:=Z5h (l.getD i M).S (l.drop (i+1)) (m-1) oq;have g3:i+m<l.length:=by simp at g1;omega
   have:(l.drop (i+1)).getD (m-1) M=l.getD (i+m) M:=by
    rw[Lg,Lg,LF,show i+1+(m-1)=i+m by omega]
   rw[this]at g2;exact⟨g3,g2⟩
  refine⟨hb,hl, ?_⟩;intro i hi hk;have q:=(h i oq hi).1.1 hk;obtain⟨j,j1,j2,j3⟩:=Z8d (c:=c) (l:=l) i oq q;exact⟨j,j1,j2,by omega⟩
 .intro h j _ hj;have b:=h.b j hj;have hd:=Z6W (λi hi hk=>(h.lg i hi hk).1) j oq;refine⟨⟨?_, ?_⟩,b.s.1,b.s.2,b.n.1,b.n.2,b.k.1,b.k.2,b.k0,b.k1, ?_,b.k3⟩
  .intro hk;obtain⟨i,i1,i2,i3⟩:=h.tl j hj hk;have:=h.due (show i<l.length by omega) i2 (j-i-1) oq;rw[show i+1+(j-i-1)=j by omega]at this;omega
  .intro hp;obtain⟨i,i1,i2,i3⟩:=Z8d j hd hp;have:=((h.lg i oq i2).2 (j-i) oq oq).2.1;rw[show i+(j-i)=j by omega]at this;exact this
  .intro hk;have q:=h.lg j hj hk;refine⟨q.1, ?_⟩;have:=Z9q (l.getD j M).S (l.drop (j+1)) (need c (l.getD j M).U-1).toNat λm hm=>by
    have r:=q.2 (m+1) oq oq;have e2:(l.drop (j+1)).getD m M=l.getD (j+(m+1)) M:=by
     rw[Lg,Lg,LF,show j+1+m=j+(m+1) by omega]
    rw[e2];exact⟨by simp;omega,r.2⟩
   omega
def Z2c{h:Heap}:Z03 h=La↔Z06 h.C=La/\(h.W.length:Int)=h.C.pw*h.C.pg/\(h.P.length:Int)=h.C.pg/\(h.S=0\/h.S=1) /\
  (h.B=-1\/(0<=h.B/\h.B<h.P.length/\(h.P.getD h.B.toNat M).K=1))/\PT h.C h.P:=by
 rw[properB_iff,Zoj]
def PT.setPage{c:Conf}{l:List Page}(h:PT c l){i:Nat}(hi:i<l.length)(hk:(l.getD i M).K=0\/(l.getD i M).K=1){p:Page}(hp:PgOk c p)(hpk:p.K=0\/p.K=1):PT c (l.set i p):=by
 refine⟨?_, ?_, ?_⟩
 .intro j hj;rw[Ls]at hj;rw[Z1w hi];split
  .exact hp
  .exact h.b j hj
 .intro j hj hk2;rw[Ls]at hj;rw[Z1w hi]at hk2 ⊢;by_cases hij:i=j
  .rw[if_pos hij]at hk2;omega
  .rw[if_neg hij]at hk2 ⊢;have q:=h.lg j hj hk2;refine⟨q.1,λm h1 h2=>?_⟩;have r:=q.2 m h1 h2;rw[Ls,Z1w hi,if_neg (by rintro rfl;omega)];exact r
 .intro j hj hk3;rw[Ls]at hj;rw[Z1w hi]at hk3;by_cases hij:i=j
  .rw[if_pos hij]at hk3;omega
  .rw[if_neg hij]at hk3;obtain⟨a,a1,a2,a3⟩:=h.tl j hj hk3;refine⟨a,a1, ?_⟩;rw[Z1w hi,if_neg (by rintro rfl;omega)];exact⟨a2,a3⟩
def PT.mapPages{c:Conf}{l:List Page}(h:PT c l)(f:Page->Page)(h1:∀ p,PgOk c p->PgOk c (f p))(h2:∀ p,PgOk c p->(f p).K=2->p.K=2/\(f p).U=p.U)
  (h3:∀ p,PgOk c p->(f p).K=3->p.K=3) (h4:∀ p q,PgOk c p->PgOk c q->p.K=2->q.K=3->q.S=p.S->((f p).K=2↔(f q).K=3)/\((f p).K=2->(f q).S=(f p).S)):PT c (l.map f):=by
 have hg:∀ j,j<l.length->(l.map f).getD j M=f (l.getD j M):=by
  intro j hj;simp[Lg,hj]
 refine⟨?_, ?_, ?_⟩
 .intro j hj;rw[Lm]at hj;rw[hg j hj];exact h1 _ (h.b j hj)
 .intro j hj hk;rw[Lm]at hj;rw[hg j hj]at hk ⊢;have q:=h2 _ (h.b j hj) hk;have r:=h.lg j hj q.1;rw[q.2];refine⟨r.1,λm m1 m2=>?_⟩;have s:=r.2 m m1 m2;have t:=h4 _ _ (h.b j hj) (h.b (j+m) s.1) q.1 s.2.1 s.2.2;rw[Lm,hg _ s.1];exact⟨s.1,t.1.1 hk,t.2 hk⟩
 .intro j hj hk;rw[Lm]at hj;rw[hg j hj]at hk;have q:=h3 _ (h.b j hj) hk;obtain⟨a,a1,a2,a3⟩:=h.tl j hj q;have ha:a<l.length:=by omega
  have s:=(h.lg a ha a2).2 (j-a) oq oq;rw[show a+(j-a)=j by omega]at s;have t:=h4 _ _ (h.b a ha) (h.b j hj) a2 s.2.1 s.2.2;have hk2:=t.1.2 hk;refine⟨a,a1, ?_⟩;rw[hg a ha];exact⟨hk2,by rw[(h2 _ (h.b a ha) hk2).2];exact a3⟩
def Zcz{l:List Page}{i k:Nat}{p q:Page}(hk:1<=k)(h:i+k<=l.length)(j:Nat):(tookP l i k p q).getD j M=if j=i then p else if i<j/\j<i+k then q else l.getD j M:=by
 have hl:(wr l (LZ k q) i k).length=l.length:=Z4J (by simpa using h) pq;unfold tookP;rw[Lg,List.getElem?_set];by_cases hj:j=i
 .subst hj;rw[if_pos rfl,if_pos rfl,if_pos oq];rfl
 .rw[if_neg (λe=>hj e.symm),if_neg hj,Z9u (by simpa using h) pq];by_cases h1:j<i
  .rw[if_pos h1,if_neg oq,Lg]
  .rw[if_neg h1];by_cases h2:j<i+k
   .rw[if_pos h2,if_pos oq];simp[show j-i<k by omega]
   .rw[if_neg h2,if_neg oq,Lg]
def PT.took{c:Conf}{l:List Page}(h:PT c l){i k:Nat}{n sp:Int}(hk:1<=k)(hik:i+k<=l.length)(hf:∀ j,j<k->(l.getD (i+j) M).K=0)(hn:need c n=k)(hs:sp=0\/sp=1):PT c (tookP l i k ⟨2,sp,n,0⟩ ⟨3,sp,0,0⟩):=by
 have hg:=Zcz (p:=⟨2,sp,n,0⟩) (q:=⟨3,sp,0,0⟩) hk hik;have hl:(tookP l i k ⟨2,sp,n,0⟩ ⟨3,sp,0,0⟩).length=l.length:=Z8H hik;have hf':∀ j,i<=j->j<i+k->(l.getD j M).K=0:=λj h1 h2=>by
  have:=hf (j-i) oq;rwa [show i+(j-i)=j by omega]at this
 refine⟨?_, ?_, ?_⟩
 .intro j hj;rw[hl]at hj;rw[hg];split
  .exact⟨by simp only;omega,by simp,by simp,by simp,by simp,by simp⟩
  .split
   .exact⟨by simp only;omega,by simp,by simp,by simp,by simp,by simp⟩
   .exact h.b j hj
 .intro j hj hk2;rw[hl]at hj ⊢;simp only[hg]at hk2 ⊢;by_cases hji:j=i
  .subst hji;simp only[if_pos]at hk2 ⊢;rw[hn];refine⟨by omega,λm h1 h2=>⟨by omega, ?_⟩⟩;rw[if_neg oq,if_pos oq];exact⟨rfl,rfl⟩
  .rw[if_neg hji]at hk2 ⊢;by_cases hr:i<j/\j<i+k
   .rw[if_pos hr]at hk2;simp at hk2
   .rw[if_neg hr]at hk2 ⊢;have q:=h.lg j hj hk2;refine⟨q.1,λm h1 h2=>?_⟩;have r:=q.2 m h1 h2;have hne:¬ (i<=j+m/\j+m<i+k):=λhc=>by
     have:=hf' (j+m) hc.1 hc.2;omega
    rw[if_neg oq,if_neg oq];exact r
 .intro j hj hk3;rw[hl]at hj;simp only[hg]at hk3 ⊢;by_cases hji:j=i
  .rw[if_pos hji]at hk3;simp at hk3
  .rw[if_neg hji]at hk3;by_cases hr:i<j/\j<i+k
   .refine⟨i,hr.1, ?_⟩;simp only[if_pos];refine⟨trivial, ?_⟩;rw[hn];omega
   .rw[if_neg hr]at hk3;obtain⟨a,a1,a2,a3⟩:=h.tl j hj hk3;have hne:¬ (i<=a/\a<i+k):=λhc=>by
     have:=hf' a hc.1 hc.2;omega
    refine⟨a,a1, ?_⟩;rw[if_neg oq,if_neg oq];exact⟨a2,a3⟩
def Zan{l:List Page}{i:Nat}{n:Int}:Z2F l i n=l.set i ⟨(l.getD i M).K,(l.getD i M).S,(l.getD i M).U+n,(l.getD i M).N⟩:=rfl
def Z9A{h:Heap}(hs:h.S=0\/h.S=1)(hf:0<=first h.P 1)(n:Int):Z2F (Z3w h) (first h.P 1).toNat n=h.P.set (first h.P 1).toNat ⟨1,h.S,n,0⟩/\(h.P.getD (first h.P 1).toNat M).K=0/\(first h.P 1).toNat<h.P.length:=by
 obtain⟨f1,f2,f3,f4⟩:=Z3b hs hf;obtain⟨g1,g2,g3⟩:=Z1R hf;have hi:(first h.P 1).toNat<h.P.length:=by omega
 refine⟨?_, ?_,hi⟩
 .rw[Zan,f4,f1,Z89 hi,List.set_set];simp
 .have:=freeK_iff.1 g3 0 dd;simpa using this
structure PutOk (h:Heap) (n:Int) (h':Heap) (a:Int):Prop where
 pr:Z03 h'=La
 c:h'.C=h.C
 w:h'.W=h.W
 l:h'.P.length=h.P.length
 sp:h'.S=h.S
 pin:∀ p∈h'.P,p.N=0\/∃ q∈h.P,p.N=q.N
 lo:4096<=a
 hi:a+n<=4096+h.W.length
def getD_in{l:List Page}{i:Nat}(h:i<l.length):l.getD i M∈l:=by
 rw[Lg,Li h];exact Xb h
def Zgk{h:Heap}{n:Int}(hp:Z03 h=La)(hn:1<=n/\n<=h.C.pw)(e:(Z0l h n).2.2=La):PutOk h n (Z0l h n).1 (Z0l h n).2.1:=by
 have hp':=hp;rw[Z2c]at hp;obtain⟨p1,p2,p3,p4,p5,p6⟩:=hp;have hb:=validB_iff.1 p1;by_cases hf:Z9f h n
 .have e7:Z0l h n=(⟨h.C,h.W,Z2F h.P h.B.toNat n,h.S,h.B⟩,4096+h.B*h.C.pw+(h.P.getD h.B.toNat M).U,La):=by rw[Z0l,if_pos hf]
  unfold Z9f at hf;have hbi:h.B.toNat<h.P.length:=by omega
  have hk:(h.P.getD h.B.toNat M).K=1:=by omega
  have ok:=p6.b h.B.toNat hbi;have u:=ok.k1 hk;have ha:=Z2q p1 (i:=h.B) oq oq;have hio:=Z2o (i:=h.B) (j:=h.C.pg) (pw:=h.C.pw) oq oq;rw[LD h.C.pg]at hio;rw[e7];refine⟨?_,rfl,rfl,by simp[Z2F],rfl, ?_,by simp only;omega,by simp only;omega⟩
  .rw[Z2c];refine⟨p1,p2,by simp[Z2F,p3],p4, ?_, ?_⟩
   .refine Ll ⟨hf.1,by simp[Z2F];omega, ?_⟩;show((Z2F h.P h.B.toNat n).getD h.B.toNat M).K=1;rw[Zan,Z1w hbi,if_pos rfl];exact hk
   .exact p6.setPage hbi (Ll hk) ⟨ok.s,ok.n,ok.k,λq=>by simp only at q;omega,λ_=>by simp only;omega,λq=>by simp only at q;omega⟩ (Ll hk)
  .intro p hp;rcases LU hp with hp | rfl
   .exact Ll ⟨p,hp,rfl⟩
   .exact Ll ⟨_,getD_in hbi,rfl⟩
 .by_cases hg:0<=first h.P 1/\(Z1V h.P:Int)<Z28 h.C
  .have e7:Z0l h n=(⟨h.C,h.W,Z2F (Z3w h) (first h.P 1).toNat n,h.S,first h.P 1⟩,4096+first h.P 1*h.C.pw+((Z3w h).getD (first h.P 1).toNat M).U,La):=by rw[Z0l,if_neg hf,if_pos hg]
   obtain⟨g1,g2,g3⟩:=Z9A p4 hg.1 n;have g4:=congrArg Page.U (Z3b p4 hg.1).2.2.2;simp only at g4;have ha:=Z2q p1 (i:=first h.P 1) oq oq;have hio:=Z2o (i:=first h.P 1) (j:=h.C.pg) (pw:=h.C.pw) oq oq;rw[LD h.C.pg]at hio;rw[e7,g1,g4];refine⟨?_,rfl,rfl,by simp,rfl, ?_,by simp only;omega,by simp only;omega⟩
   .rw[Z2c];refine⟨p1,p2,by simp[p3],p4, ?_, ?_⟩
    .refine Ll ⟨hg.1,by simp only[Ls];omega, ?_⟩;simp only;rw[Z1w g3,if_pos rfl]
    .exact p6.setPage g3 (LB g2) ⟨by simp only;omega,by simp,by simp,by simp,λ_=>by simp only;omega,by simp⟩ (Ll rfl)
   .intro p hp;rcases LU hp with hp | rfl
    .exact Ll ⟨p,hp,rfl⟩
    .exact LB rfl
  .rw[Z0l,if_neg hf,if_neg hg]at e;simp at e
def ZfS{h:Heap}{n:Int}(hp:Z03 h=La)(hk:1<=need h.C n)(e:(Z0s h n (need h.C n)).2.2=La):PutOk h n (Z0s h n (need h.C n)).1 (Z0s h n (need h.C n)).2.1:=by
 have hp':=hp;rw[Z2c]at hp;obtain⟨p1,p2,p3,p4,p5,p6⟩:=hp;have hb:=validB_iff.1 p1;by_cases hg:0<=first h.P (need h.C n)/\Z1V h.P+need h.C n<=Z28 h.C
 .obtain⟨g1,g2,g3⟩:=Z1R hg.1;have el:(Z2S h.C h.P (first h.P (need h.C n)) h.S n).1=tookP h.P (first h.P (need h.C n)).toNat (need h.C n).toNat ⟨2,h.S,n,0⟩ ⟨3,h.S,0,0⟩:=by
   rw[Z2S,if_pos ⟨hk,by omega⟩,Z2K,if_pos oq,if_pos g3]
  have e7:Z0s h n (need h.C n)=(⟨h.C,h.W,tookP h.P (first h.P (need h.C n)).toNat (need h.C n).toNat ⟨2,h.S,n,0⟩ ⟨3,h.S,0,0⟩,h.S,h.B⟩,4096+first h.P (need h.C n)*h.C.pw,La):=by rw[Z0s,if_pos hg,el]
  have hf:∀ j,j<(need h.C n).toNat->(h.P.getD ((first h.P (need h.C n)).toNat+j) M).K=0:=freeK_iff.1 g3;have hlen:(tookP h.P (first h.P (need h.C n)).toNat (need h.C n).toNat ⟨2,h.S,n,0⟩ ⟨3,h.S,0,0⟩).length=h.P.length:=Z8H oq;have hu:=Z7V hk;have h0:0<=first h.P (need h.C n)*h.C.pw:=L6 hg.1 oq
  have hio:=Int.mul_le_mul_of_nonneg_right (show first h.P (need h.C n)+need h.C n<=h.C.pg by omega) (show 0<=h.C.pw by omega);rw[LQ,LD h.C.pg]at hio;rw[e7];refine⟨?_,rfl,rfl,hlen,rfl, ?_,by simp only;omega,by simp only;omega⟩
  .rw[Z2c];refine⟨p1,p2,by simp only[hlen];exact p3,p4, ?_, ?_⟩
   .simp only[hlen];rcases p5 with p5 | p5
    .exact LB p5
    .refine Ll ⟨p5.1,p5.2.1, ?_⟩;have hne:¬ ((first h.P (need h.C n)).toNat<=h.B.toNat/\h.B.toNat<(first h.P (need h.C n)).toNat+(need h.C n).toNat):=λhc=>by
      have:=hf (h.B.toNat-(first h.P (need h.C n)).toNat) oq;rw[show(first h.P (need h.C n)).toNat+(h.B.toNat-(first h.P (need h.C n)).toNat)=h.B.toNat by omega]at this;omega
     rw[Zcz oq oq,if_neg oq,if_neg oq];exact p5.2.2
   .exact p6.took oq oq hf oq p4
  .intro p hp;rcases LU hp with hp | rfl
   .simp only[wr,LS]at hp;rcases hp with(hp | hp) | hp
    .exact Ll ⟨p,Xe hp,rfl⟩
    .have:=List.eq_of_mem_replicate (Xe hp);subst this;exact LB rfl
    .exact Ll ⟨p,List.mem_of_mem_drop hp,rfl⟩
   .exact LB rfl
 .rw[Z0s,if_neg hg]at e;simp at e
def Zn5{hd:Header}(hv:Z0f hd=La)(hm:0<=hd.map/\hd.map<=4294967295):WOk (objW hd)/\((objW hd).length:Int)=sizeH hd:=by
 have hb:=ZaL hv hm.1 hm.2;constructor
 .intro x hx;simp only[objW,Xd,LV,Z0a,if_pos hv]at hx;rcases hx with rfl | ⟨_,rfl⟩<;>omega
 .rw[sizeH,if_pos hv];simp[objW];omega
def ZmC{h:Heap}{hd:Header}(hw:WOk h.W)(hm:0<=hd.map/\hd.map<=4294967295)(e:(new7 h hd).2.2=0) :
  Z03 h=La/\Z2Q h.C hd=La/\PutOk h (sizeH hd) (put7 h hd).1 (put7 h hd).2.1/\(put7 h hd).2.2=La/\(new7 h hd).2.1=(put7 h hd).2.1/\(new7 h hd).1 = { (put7 h hd).1 with W:=(Z0t h.W (put7 h hd).2.1 (objW hd)).1 }/\Z03 (new7 h hd).1=La/\WOk (new7 h hd).1.W:=by
 unfold new7 at e;split at e
 .rename_i c1;split at e
  .rename_i c2;obtain⟨a1,a2,a3,a4,a5⟩:=Zb2 c1.2;have po:=Z0c c1.1;have hput:PutOk h (sizeH hd) (put7 h hd).1 (put7 h hd).2.1:=by
    by_cases hn:0<need h.C (sizeH hd)
    .have e7:put7 h hd=Z0s h (sizeH hd) (need h.C (sizeH hd)):=by rw[put7,if_pos hn]
     rw[e7]at c2 ⊢;exact ZfS c1.1 oq c2
    .have e7:put7 h hd=Z0l h (sizeH hd):=by rw[put7,if_neg hn]
     rw[e7]at c2 ⊢;refine Zgk c1.1 ⟨a2, ?_⟩ c2;unfold need at hn a4;split at a4
     .rename_i hc;rw[if_pos hc]at hn;split at a4
      .omega
      .rename_i hd';rw[if_neg hd']at hn;have e:=Int.mul_ediv_add_emod (sizeH hd+h.C.pw-1) h.C.pw;have hz:(sizeH hd+h.C.pw-1)/h.C.pw=0:=by omega
       rw[hz]at e;have:=Int.emod_lt_of_pos (sizeH hd+h.C.pw-1) (b:=h.C.pw) oq;omega
     .omega
   have ho:=Zn5 a1 hm;have hin:4096<=(put7 h hd).2.1/\(put7 h hd).2.1-4096+(objW hd).length<=h.W.length:=⟨hput.lo,by have:=hput.hi;omega⟩
   have e2:Z0t h.W (put7 h hd).2.1 (objW hd)=(spl h.W ((put7 h hd).2.1-4096).toNat (objW hd),0):=by rw[Z0t,if_pos hin]
   have hlen:(spl h.W ((put7 h hd).2.1-4096).toNat (objW hd)).length=h.W.length:=Z4j oq;have e3:(Z1f (put7 h hd).1 (put7 h hd).2.1 hd).1 = { (put7 h hd).1 with W:=(Z0t h.W (put7 h hd).2.1 (objW hd)).1 }:=by
    rw[Z1f,if_pos ⟨hput.pr,a1⟩,hput.w,e2];simp
   have e4:new7 h hd=((Z1f (put7 h hd).1 (put7 h hd).2.1 hd).1,(put7 h hd).2.1,0):=by rw[new7,if_pos c1,if_pos c2]
   refine⟨c1.1,c1.2,hput,c2,by rw[e4],by rw[e4];exact e3, ?_, ?_⟩
   .rw[e4];simp only;rw[e3,e2];have q:=hput.pr;rw[Z2c]at q ⊢;refine⟨q.1, ?_,q.2.2.1,q.2.2.2.1,q.2.2.2.2.1,q.2.2.2.2.2⟩;simp only[hlen];have:=q.2.1;rw[hput.w]at this;exact this
   .rw[e4];simp only;rw[e3];exact Z5E hw ho.1 _
  .simp at e
 .simp at e
def ZeT{h:Heap}{a:Int}(e:(atH h a).2=0):4096<=a/\a+(atH h a).1.length<4096+h.W.length:=by
 have k:=ZgX e;have po:=Z0c k.1;have o:=Z4r po.1 k.2.1;have hj:(ofA h.C a).1.toNat<h.P.length:=by omega
 have hk:(((ofA h.C a).1.toNat:Nat):Int)=(ofA h.C a).1:=by omega
 have h2:=e;unfold atH at h2 ⊢;rw[if_pos k.1,if_pos k.2.1]at h2 ⊢;split at h2
 .rename_i g1;split at h2
  .simp at h2
  .rename_i g2;rw[if_pos g1,if_neg g2];have hv:Z0f (decodeH (loadA h.W a).1).1=La:=Z2w _;have hs:sizeH (decodeH (loadA h.W a).1).1=(decodeH (loadA h.W a).1).1.length+1:=by rw[sizeH,if_pos hv]
   have hvb:=(validH_iff.1 hv).2.2.1;have ue:=ZfH k.1 hj g1.1;rw[hk]at ue;have h0:0<=(ofA h.C a).1*h.C.pw:=L6 o.1 oq;have hio:=Z2o (i:=(ofA h.C a).1) (j:=h.C.pg) (pw:=h.C.pw) o.2.1 oq;rw[LD h.C.pg]at hio;have hL:=po.2.2.2.2.2.1;refine⟨by omega, ?_⟩;simp only;rcases g1.1 with g | g<;>omega
 .simp at h2
def ZdU{h:Heap}{a i v:Int}(hw:WOk h.W)(hv:0<=v/\v<=18446744073709551615)(e:(getH h a).2=0)(hi:0<=i/\i<(getH h a).1.length):Z0p h a i v=({ h with W:=(Z1c h.W (a+1+i) v).1 },0)/\Z03 (Z0p h a i v).1=La/\WOk (Z0p h a i v).1.W:=by
 have g:=Z39 e;have k:=ZeT g.2.1;rw[<- g.1]at k;have hin:4096<=a+1+i/\a+1+i<4096+h.W.length:=by omega
 have hf:(Z1H h a i).2=0:=by
  unfold Z1H;rw[if_pos e,if_pos hi];unfold loadA;rw[if_pos hin]
 have e1:Z0p h a i v=({ h with W:=(Z1c h.W (a+1+i) v).1 },0):=by rw[Z0p,if_pos hf]
 refine⟨e1, ?_, ?_⟩
 .rw[e1];have q:=g.2.2.1;rw[Z2c]at q ⊢;refine⟨q.1, ?_,q.2.2.1,q.2.2.2.1,q.2.2.2.2.1,q.2.2.2.2.2⟩;simp only[Z4G hin];exact q.2.1
 .rw[e1];exact Z8c hw hv _
def ZkH(a:List Int)(i:Nat):Tg:=⟨tm 26 [(0,Z01 a),(1,Z01 a),(4,bool Lc),(5,int i)],[],60⟩
def ZiB(a:List Int)(i:Nat)(ha:a.length<=1048576)(hi:i<a.length):CP (rndF f27 0) (ZkH a i).st .nrm (ZkH a (i+1)).st:=by
 exact sF [] [] (FN 13 14 19 wdv a i (Fek 23 wdv a (↑i) i (Ffs 25 (a.getD i M != a.getD i M) (Fx 16 i Fz))))
def Zn7(a:List Int):CP (rndF f27 0) (ZkH a a.length).st (.ext 0) (Tg.st ⟨tm 26 [],[],60⟩):=by
 exact sF [] [] (FO 13 14 wdv a Fz)
def ZkY(a:List Int)(ha:a.length<=1048576)  := Z08 (S:=λi=>(ZkH a i).st) a.length (by kernel_rfl) (λi hi=>ZiB a i ha hi) (Zn7 a)
def Zca(a:List Int)(ha:a.length<=1048576):GP 27 [Z01 a,Z01 a] La (bool La) []:=by
 exact gF [] func27 [] (Fl 7 wdv a (Fl 9 wdv a (Ffs 10 ((a.length:Int) != (a.length:Int)) (Fu (@ZkY a aa) Fz))))
def Z5Z(h:Header)(i:Int)(hm:0<=h.map/\h.map<=4294967295):GP 162 [h.av,int i] La (bool (Z0b h i)) []:=by
 rcases bb (!Z0f h||Le (i<0)||Le (h.length<=i))with hc0 | hc0<;>have hc0p:=hc0<;>simp only[bs]at hc0p
 .exact gF [] func162 (fO 6) (Fc 6 (@Z2E h aa) (Ft 17 hc0 (Fa (by grind[Z0b]:Lc=Z0b h i) Fz)))
 .obtain⟨⟨hc0paa,hc0pab⟩,hc0pb⟩:=hc0p;have hf3:=validH_iff.1 hc0paa;obtain⟨hf3a,⟨hf3ba,⟨hf3bba,⟨hf3bbba,hf3bbbb⟩⟩⟩⟩:=hf3;exact gF [] func162 (fO 17) (Fc 6 (@Z2E h aa) (Ff 17 hc0 (Fa (by intro hg;(try simp only[bs]at hg);omega:(!h.K==2&&h.K==1)=La->0<=i) (Fa (by exact ZlR h i hm aa oq oq:(h.K==2||h.K==1&&bits BinOp.and IntKind.u32 (h.map.fdiv (2^min i.toNat 32)) (1:Int)==1)=Z0b h i) Fz))))
def hptL(h:Header)(i:Nat):Tg:=⟨tm 19 [(1,.pt 8001 0 0),(2,.d (.sl 0 [])),(3,.ow 16003),(6,int (sizeH h)),(7,int i)],[(16003,.arr 3 1 ((Z0F h i).map idv)),(8001,.box 52 [int h.K,int h.length,u32 h.map])],60⟩
def ZkG(h:Header)(i:Nat)(hm:0<=h.map/\h.map<=4294967295)(hi:(i:Int)<sizeH h):CP (rndF f110 0) (hptL h i).st .nrm (hptL h (i+1)).st:=by
 have hn:=Z4Z h i;have hs:=Z1n h;by_cases hp:Z0b h (i:Int)=La
 .have e:Z0F h (i+1)=Z0F h i++[(i:Int)]:=by rw[Z0F,if_pos hp]
  exact sF [(504016,16003)] (fO 5) (Fh 12 [.call La (Sx.bool (Z0b h (i:Int))) [],.br La] (Fh 16 [.els (Lb idv (Z0F h i++[(i:Int)]))] (Ftb 8 (Le ((i:Int)<sizeH h)) (Fa (@Z5Z h ((i:Int)) aa) (Fa ‹Z0b h (i:Int)=La› (Fs 15 (Lb idv [(i:Int)]) (Fa (by(simp[*];omega):(Lb idv (Z0F h i)).length+(Lb idv [(i:Int)]).length<=2^30) (Fa (ms:Lb idv (Z0F h i)++Lb idv [(i:Int)]=Lb idv (Z0F h i++[(i:Int)])) (Fx 17 i (Fr (3:Int) (Fa (by refine congrArg _ ?_;rw[e]:Lb idv (Z0F h i++[(i:Int)])=Lb idv (Z0F h (i+1))) Fz)))))))))))
 .have e:Z0F h (i+1)=Z0F h i:=by rw[Z0F,if_neg hp]
  have hp':Z0b h (i:Int)=Lc:=by simpa using hp
  exact sF [] (fO 5) (Fh 12 [.call La (Sx.bool (Z0b h (i:Int))) [],.br Lc] (Ftb 8 (Le ((i:Int)<sizeH h)) (Fa (@Z5Z h ((i:Int)) aa) (Fa ‹Z0b h (i:Int)=Lc› (Fx 17 i (Fr (3:Int) (Fa (by refine congrArg _ ?_;rw[e]:Lb idv (Z0F h i)=Lb idv (Z0F h (i+1))) Fz)))))))
def ZoA(h:Header)(i:Nat)(hi:(i:Int)=sizeH h):CP (rndF f110 0) (hptL h i).st (.ext 0) (Tg.st ⟨tm 19 [(2,.d (.sl 0 [])),(3,.ow 16003)],[(16003,.arr 3 1 ((Z0F h i).map idv))],60⟩):=by
 exact sF [] [] (Ffb 8 (Le ((i:Int)<sizeH h)) Fz)
def Zbx(h:Header):Z0F h (sizeH h).toNat=Z02 h:=by
 unfold Z02 sizeH;by_cases hv:Z0f h=La
 .rw[if_pos hv,if_pos hv];have hb:=validH_iff.1 hv;rw[show(h.length+1).toNat=h.length.toNat+1 from by omega,Z0F,if_neg];unfold Z0b;simp;omega
 .rw[if_neg hv,if_neg hv];rfl
def ZlZ(h:Header)(hm:0<=h.map/\h.map<=4294967295):CP (blkF f110 0) (Tg.st ⟨tm 19 [(1,.pt 8001 0 0),(2,.d (.sl 0 [])),(3,.ow 16003),(6,int (sizeH h)),(7,int 0)],[(16003,.arr 3 1 []),(8001,.box 52 [int h.K,int h.length,u32 h.map])],60⟩) .nrm (Tg.st ⟨tm 19 [(2,.d (.sl 0 [])),(3,.ow 16003)],[(16003,.arr 3 1 ((Z02 h).map idv))],60⟩):=by
 have hs:=Z1n h;rw[<- Zbx];exact Z08 (S:=λi=>(hptL h i).st) (sizeH h).toNat kr (λi hi=>ZkG h i hm oq) (ZoA h _ oq)
def Z3B(h:Header)(hm:0<=h.map/\h.map<=4294967295):GP 110 [h.av] La (.d (.sl 1 ((Z02 h).map idv))) []:=by
 exact gF [] func110 [] (Fh 3 [.own] (Fc 6 (@Z18 h aa) (Fu (@ZlZ h aa) (Fa (by exact ZeQ _:Z15 (Lb idv (Z02 h))) Fz))))
end Go.Proofs.YtgedmeaemofdkaaGreat
namespace Go.Sx
def mvP(ids:List Nat)(post:List Blk)(n:Nat):List Blk:=(upto 0 n).map λk=>match idxN k ids 0 with
 | some j=>Z3g ids (post.getD j .dead)
 | none=>.dead
def mvOk(m p n:Nat)(ids:List Nat):Bool:=Lo ids.length p&&Lw m p&&Lw m n&&nodupB ids&&(upto 0 p).all (λj=>Lw (ids.getD j 0+1) n&&(Lo (ids.getD j 0) j||Lw m (ids.getD j 0)))&&(upto 0 n).all λk=>match idxN k ids 0 with | Ld _=>La | Lf=>Lw (k+1) m
def ZkJ{P:Program}{f:Nat}{args:List AV}{pre:List Blk}{res:AV}{post:List Blk}(ids:List Nat)(n:Nat){res2:AV}{post2:List Blk}(h:BorSpec P f args pre res post)(ok:mvOk pre.length post.length n ids=La)(hr:mapT (renI ids) res=res2)(hp:mvP ids post n=post2):BorSpec P f args pre res2 post2:=by
 simp only[mvOk,L5,List.all_eq_true,Bool.or_eq_true]at ok;obtain⟨⟨⟨⟨⟨k1,k2⟩,k3⟩,k4⟩,k5⟩,k6⟩:=ok;have k1:=LM k1;have k2:=Lx k2;have k3:=Lx k3;have k4:=Z2A k4;have mem:∀ {j p:Nat},j<p->j∈upto 0 p:=λ{j p} hj=>LI (by rw[Z7f _ _ _ hj,L0]);have k5:∀ j,j<post.length->ids.getD j 0<n/\(ids.getD j 0=j\/pre.length<=ids.getD j 0):=λj hj=>by
  have:=k5 j (mem hj);exact⟨Lx this.1,this.2.imp LM Lx⟩
 have k6:∀ k,k<n->idxN k ids 0=Lf->k<pre.length:=λk hk e=>by
  have:=k6 k (mem hk);rw[e]at this;exact Lx this
 subst hr hp;have pl:(mvP ids post n).length=n:=by simp[mvP,Z7j]
 have pg:∀ (k:Nat) (B:Blk),(mvP ids post n)[k]? = Ld B->k<n/\((∃ j,ids[j]? = Ld k/\j<post.length/\B=Z3g ids (post.getD j .dead))\/(k<pre.length/\B = .dead)):=λk B hB=>by
  have hk:k<n:=by have:=(LG.1 hB).1;omega
  simp only[mvP,LH,Z7f _ _ _ hk,L0,Xh,Option.some.injEq]at hB;refine⟨hk, ?_⟩;cases e:idxN k ids 0 with
  | none=>rw[e]at hB;exact .inr ⟨k6 k hk e,hB.symm⟩
  | some j =>
   rw[e]at hB;obtain⟨_,q⟩:=Z1B e;have q:ids[j]? = Ld k:=by simpa using q
   exact .inl ⟨j,q,by have:=(LG.1 q).1;omega,hB.symm⟩
 intro w Im ρ vs hIm hsz hρ hinj hbnd hpre hargs;refine(h w Im ρ vs hIm hsz hρ hinj hbnd hpre hargs).mono ?_;rintro e w' ⟨v,rfl,hk,ρ',Im',a1,a2,a3,a4,a5,a6,a7,a8,a9⟩;let ρ2:Rho:=λk=>if k<pre.length then ρ' k else match idxN k ids 0 with | Ld j=>ρ' j | Lf=>Lf
 have hlow:∀ k,k<pre.length->ρ2 k=ρ' k:=λk hk=>by simp only[ρ2,if_pos hk]
 have hat:∀ (j k:Nat),ids[j]? = Ld k->ρ2 k=ρ' j:=λj k q=>by
  have hj:j<post.length:=by have:=(LG.1 q).1;omega
  have e:ids.getD j 0=k:=by rw[Lg,q];rfl
  have c:=k5 j hj;rw[e]at c;by_cases hkp:k<pre.length
  .rw[hlow k hkp];rcases c.2 with c | c
   .rw[c]
   .omega
  .simp only[ρ2,if_neg hkp];cases ex:idxN k ids 0 with
   | none=>exact absurd (LI q) (Z3J ex)
   | some j2 =>
    obtain⟨_,q2⟩:=Z1B ex;rw[Z3V k4 q (by simpa using q2)]
 have hfrom:∀ k β,ρ2 k=Ld β->∃ j,ρ' j=Ld β/\k<n:=λk β hb=>by
  by_cases hkp:k<pre.length
  .rw[hlow k hkp]at hb;exact⟨k,hb,by omega⟩
  .simp only[ρ2,if_neg hkp]at hb;split at hb
   .rename_i j hj;obtain⟨_,q⟩:=Z1B hj;have q:ids[j]? = Ld k:=by simpa using q
    have hj:j<post.length:=by have:=(LG.1 q).1;omega
    have:=k5 j hj;rw[Lg,q]at this;exact⟨j,hb,this.1⟩
   .cases hb
 have hren:∀ j β,ρ' j=Ld β->ρ2 (ids.getD j 0)=Ld β:=λj β hb=>by
  have hj:=a2 j β hb;have q:ids[j]? = Ld (ids.getD j 0):=by rw[Lg,Li oq];rfl
  rw[hat j _ q];exact hb
 have hlv:∀ k,live (hL (mvP ids post n)) k->∃ j,ids[j]? = Ld k/\live (hL post) j:=by
  rintro k ⟨B,hB,hd⟩;obtain⟨_,⟨j,q1,q2,q3⟩ | ⟨_,q⟩⟩:=pg k B hB
  .refine⟨j,q1,post[j],Li q2,λe=>hd ?_⟩;rw[q3,Lg,Li q2];simp only[LA,e,Z3g]
  .exact absurd q hd
 refine⟨v,rfl,hk,ρ2,Im',λk β hb=>?_,λk β hb=>?_,a3,a4,λk β g hb=>?_,λk β g hl hb=>?_,λk k' β β' g hl hl' hb hb' hg hg'=>?_,λk B hB=>?_, ?_⟩
 .rw[hlow k (hρ k β hb)];exact a1 k β hb
 .obtain⟨j,_,q⟩:=hfrom k β hb;rw[pl];exact q
 .obtain⟨j,q,_⟩:=hfrom k β hb;exact a5 j β g q
 .obtain⟨j,q1,q2⟩:=hlv k hl;rw[hat j k q1]at hb;exact a6 j β g q2 hb
 .obtain⟨j,q1,q2⟩:=hlv k hl;obtain⟨j',q1',q2'⟩:=hlv k' hl';rw[hat j k q1]at hb;rw[hat j' k' q1']at hb';have:=a7 j j' β β' g q2 q2' hb hb' hg hg';subst this;rw[q1]at q1';exact Option.some.inj q1'
 .obtain⟨_,⟨j,q1,q2,rfl⟩ | ⟨q,rfl⟩⟩:=pg k B hB
  .obtain⟨β,m1,m2⟩:=a8 j _ (Li q2);rw[Lg,Li q2];exact⟨β,by rw[hat j k q1];exact m1,Z7F (λ_ h=>h) hren m2⟩
  .obtain⟨β,m1,_⟩:=hpre k _ (Li q);exact⟨β,by rw[hlow k q];exact a1 k β m1,trivial⟩
 .obtain⟨q1,q2,q3⟩:=Z7h (w:=w') (Im:=Im') (Im':=Im') hren;exact Z6k (λ_ h=>h) q1 q2 q3 a9
end Go.Sx
namespace Go.Proofs.YtgedmeaemofdkaaGreat
open Go.Sx
def seaP(all l:List Int):List Blk:=[.box 105 [Z01 all,.pt 1 0 99999,.ow 2],.mp l,.arr 35 1 (l.map wdv)]
def seaQ(all l:List Int):List Blk:=[.box 105 [Z01 all,.pt 1 0 99999,.ow 3],.mp l,.dead,.arr 35 1 (l.map wdv)]
section
variable (all l:List Int) (r:Int) (h0:0<=r/\r<=18446744073709551615) (hl:l.length<=1048576) (ha:all.length<=1048576) (hs:all.Pairwise (· < ·))
include h0 hl ha hs
theorem ZlV(h:r≠0)(hr:r∉all):BP 108 [.pt 0 0 0,u64 r] (seaP all l) (bool Lc) (seaP all l):=by
 exact borF [0,1,2] [] func108 [] (Ffb 10 (r==0) (Fc 17 (@bsearch all r aa aa) (Ftb 21 (!decide (r∈all)) Fz)))
theorem ZoS(h:r=0\/r∈all)(hr:r=0\/r∈l):BP 108 [.pt 0 0 0,u64 r] (seaP all l) (bool La) (seaP all l):=by
 by_cases c:r=0
 .exact borF [0,1,2] [] func108 [] (Ftb 10 (r==0) Fz)
 .have h:=h.resolve_left c;have hr:=hr.resolve_left c;exact borF [0,1,2] [] func108 [] (Ffb 10 (r==0) (Fc 17 (@bsearch all r aa aa) (Ffb 21 (!decide (r∈all)) (Ff 32 (by simp[mpC, *]:(!mpC l r)=Lc) Fz))))
theorem ZoR(h:r≠0)(hr:r∈all)(hn:r∉l):BP 108 [.pt 0 0 0,u64 r] (seaP all l) (bool La) [.box 105 [Z01 all,.pt 1 0 99999,.ow 3],.mp (l++[r]),.dead,.arr 35 1 ((l++[r]).map wdv)]:=by
 exact borF [0,1,8002] [72050] func108 [] (Fh 50 [.els (Lb wdv (l++[r]))] (Ffb 10 (r==0) (Fc 17 (@bsearch all r aa aa) (Ffb 21 (!decide (r∈all)) (Ft 32 (by simp[mpC, *]:(!mpC l r)=La) (Fl 42 wdv l (Fa (by intro hg;(try simp only[bs]at hg);grind[mpC]:r∈l->False) (Fr (l.length:Int) (Fo (l.length<2^30) (Fs 49 (Lb wdv [r]) (Fa (by(simp[mpC, *];omega):(Lb wdv l).length+(Lb wdv [r]).length<=2^30) (Fa (by simp[mpC,Lq,Lt,Lu,Ln,wdv,idv]:Lb wdv l++Lb wdv [r]=Lb wdv (l++[r])) Fz))))))))))))
theorem ZnW(h:r=0\/r∈all):BP 108 [.pt 0 0 0,u64 r] (seaP all l) (bool La) (seaQ all (addO l r)):=by
 by_cases c:r=0\/r∈l
 .rw[addO,if_pos c];exact ZkJ [0,1,3] 4 (ZoS all l r h0 hl ha hs h c) (by rfl) rfl rfl
 .rw[addO,if_neg c];exact ZoR all l r h0 hl ha hs (λq=>c (.inl q)) (h.resolve_left λq=>c (.inl q)) (λq=>c (.inr q))
end
def Zd0(hd:Header)(fs:List Int)(f:Int->Int):∀ n:Nat,(∀ k:Nat,k<n->fs.getD k M=f k)->Z26 hd fs n=(Z0F hd n).map f
 | 0,_=>rfl
 | n+1,h=>by
  unfold Z26 Z0F;rw[Zd0 hd fs f n (λk hk=>h k oq),h n oq];split
  .simp
  .rfl
def Z4D{h:Heap}(hp:Z03 h=La){a:Int}(ha:a∈(Z04 h).1):(getH h a).2=0/\(atH h a).2=0/\(atH h a).1.K≠0:=by
 obtain⟨h1,h2⟩:=List.mem_filter.1 ha;have h2:(atH h a).1.K≠0:=by simpa[Z2W]using h2
 rw[Zb1]at h1;obtain⟨x,hx,rfl⟩:=Lv.1 h1;have h3:=(Zhv x hx).2;refine⟨?_,h3,h2⟩;unfold getH;have z:x.addr≠0:=λe=>ZaR h (by have:=h3;rw[e]at this;exact this);rw[if_pos hp,if_neg z,if_neg (λe=>h2 e.2)];exact h3
def Z0n(h:Heap)(a:Int):List Int:=(Z02 (atH h a).1).map λj=>(loadA h.W (a+1+j)).1
def ZjF{h:Heap}{a:Int}(hp:Z03 h=La)(ha:a∈(Z04 h).1):Zmh h a=Z0n h a:=by
 have g:=(Z4D hp ha).1;obtain⟨e,e1,_,_,k1,k2,v,_,_,l1,l2⟩:=Z39 g;have r:=ZeT e1;rw[<- e]at r;have fl:(Z0v h a)=Z1d h.W (a+1) (getH h a).1.length:=by rw[Z0v,if_pos g]
 have rd:Z1d h.W (a+1) (getH h a).1.length=((h.W.drop (a+1-4096).toNat).take (getH h a).1.length.toNat,0):=by
  rw[Z1d,if_neg oq,if_pos oq]
 unfold Zmh Z0n;rw[fl,rd];have ln:((h.W.drop (a+1-4096).toNat).take (getH h a).1.length.toNat).length=(getH h a).1.length.toNat:=by
  rw[Ly,Xc];omega
 rw[Zd0 _ _ (λj=>(loadA h.W (a+1+j)).1) _ (λk hk=>?_),ln]
 .unfold Z02;rw[<- e,if_pos v]
 .rw[ln]at hk;show((h.W.drop (a+1-4096).toNat).take (getH h a).1.length.toNat).getD k M=_;rw[loadA,if_pos oq];simp only[Lg,Xa,LF];rw[if_pos oq,show(a+1-4096).toNat+k=(a+1+(k:Int)-4096).toNat by omega];rfl
def ZoQ{l:List Int}{a:Int}(h:l.Nodup)(ha:a∉l):(l++[a]).Nodup:=by
 rw[Xf];refine⟨h,by simp,λb hb c hc=>?_⟩;rw[LW]at hc;rintro rfl;exact ha (hc▸hb)
def ZmB{all out:List Int}{r:Int}(h:out.Nodup/\∀ x∈out,x∈all)(hr:r=0\/r∈all):(addO out r).Nodup/\∀ x∈addO out r,x∈all:=by
 unfold addO;split
 .exact h
 .rename_i c;refine⟨ZoQ h.1 (λq=>c (.inr q)),λx hx=>?_⟩;rcases LS.1 hx with hx | hx
  .exact h.2 x hx
  .rw[LW.1 hx];exact hr.resolve_left λq=>c (.inl q)
def Zdx{refs all:List Int}{i:Nat}(h:rfsB refs all i=Lc):refs.getD i M=0\/refs.getD i M∈all:=by
 have:=of_decide_eq_false h;by_cases c:refs.getD i M=0
 .exact .inl c
 .exact .inr (Xi.1 λq=>this ⟨c,q⟩)
def Z6C{all out refs:List Int}(h:out.Nodup/\∀ x∈out,x∈all):∀ n,(∀ j,j<n->rfsB refs all j=Lc)->(addN out refs n).Nodup/\∀ x∈addN out refs n,x∈all
 | 0,_=>h
 | n+1,hb=>ZmB (Z6C h n λj hj=>hb j oq) (Zdx (hb n oq))
def Zb9{refs all:List Int}(h:(Lk refs.length).find? (rfsB refs all)=Lf):∀ j,j<refs.length->rfsB refs all j=Lc:=λj hj=>by
 simpa using List.find?_eq_none.1 h j (LL.2 hj)
def ZcT:∀ {l m:List Int},l.Nodup->(∀ x∈l,x∈m)->l.length<=m.length
 | [],_,_,_=>Lr _
 | a::l,m,hn,h=>by
  obtain⟨h1,h2⟩:=List.nodup_cons.1 hn;have ha:=h a pq;have:=ZcT (l:=l) (m:=m.erase a) h2 (λx hx=>(List.mem_erase_of_ne (by rintro rfl;exact h1 hx)).2 (h x (by simp[hx])));have e:=List.length_erase_of_mem ha;have:=List.length_pos_of_mem ha;simp only[List.length_cons];omega
def ordG(h:Heap)(roots:List Int):Nat->List Int
 | 0=>addN [] roots roots.length
 | i+1=>addN (ordG h roots i) (Z0n h ((ordG h roots i).getD i M)) (Z0n h ((ordG h roots i).getD i M)).length
def badG(h:Heap)(roots:List Int)(i:Nat):Bool:=((Lk (Z0n h ((ordG h roots i).getD i M)).length).find? (rfsB (Z0n h ((ordG h roots i).getD i M)) (Z04 h).1)).isSome
def ordT(h:Heap)(roots:List Int):Nat->Nat->Nat
 | 0,i=>i
 | f+1,i=>if(ordG h roots i).length<=i\/badG h roots i=La then i else ordT h roots f (i+1)
def ordZ(h:Heap)(roots:List Int):Nat:=ordT h roots 16385 0
def Z2k(h:Heap)(roots:List Int):Bool:=((Lk roots.length).find? (rfsB roots (Z04 h).1)).isSome
structure OrdI (h:Heap) (roots:List Int) (k:Nat):Prop where
 lo:∀ i,i<k->i<(ordG h roots i).length/\badG h roots i=Lc
 el:∀ i,i<=k->(ordG h roots i).Nodup/\∀ x∈ordG h roots i,x∈(Z04 h).1
def OrdI.len{h:Heap}{roots:List Int}{k:Nat}(I:OrdI h roots k){i:Nat}(hi:i<=k):(ordG h roots i).length<=16384 :=
 LN (ZcT (I.el i hi).1 (I.el i hi).2) (Z0B h)
def OrdI.zero{h:Heap}{roots:List Int}(hr:Z2k h roots=Lc):OrdI h roots 0:=by
 refine⟨λi hi=>by omega,λi hi=>?_⟩;obtain rfl:i=0:=by omega
 exact Z6C ⟨Lz,by simp⟩ _ (Zb9 (by simpa[Z2k]using hr))
def OrdI.succ{h:Heap}{roots:List Int}{k:Nat}(I:OrdI h roots k)(h1:k<(ordG h roots k).length)(h2:badG h roots k=Lc):OrdI h roots (k+1):=by
 refine⟨λi hi=>?_,λi hi=>?_⟩
 .by_cases q:i=k
  .rw[q];exact⟨h1,h2⟩
  .exact I.lo i oq
 .by_cases q:i=k+1
  .rw[q];exact Z6C (I.el k (Lj _)) _ (Zb9 (by simpa[badG]using h2))
  .exact I.el i oq
def Zfi{h:Heap}{roots:List Int}:∀ f i,OrdI h roots i->16385<=f+i->OrdI h roots (ordT h roots f i)/\((ordG h roots (ordT h roots f i)).length<=ordT h roots f i\/badG h roots (ordT h roots f i)=La)
 | 0,i,I,hf=>by
  have:=I.len (Lj i);exact⟨I,.inl (by unfold ordT;omega)⟩
 | f+1,i,I,hf=>by
  unfold ordT;by_cases q:(ordG h roots i).length<=i\/badG h roots i=La
  .rw[if_pos q];exact⟨I,q⟩
  .rw[if_neg q];exact Zfi f (i+1) (I.succ oq (by simpa using λe=>q (.inr e))) oq
def Zfs{h:Heap}{roots:List Int}(hr:Z2k h roots=Lc):OrdI h roots (ordZ h roots)/\((ordG h roots (ordZ h roots)).length<=ordZ h roots\/badG h roots (ordZ h roots)=La) :=
 Zfi _ _ (OrdI.zero hr) oq
def Z09(h:Heap)(roots:List Int):List Int×Int :=
 if Z03 h=La then
  if(Z04 h).2=0 then
   if Z2k h roots=La\/((ordZ h roots)<(ordG h roots (ordZ h roots)).length/\badG h roots (ordZ h roots)=La)then([],19)else(ordG h roots (ordZ h roots),0)
  else([],(Z04 h).2)
 else([],1)
section
variable (all out refs:List Int) (hl:refs.length<=1000000) (ha:all.length<=1048576) (ho:out.length<=16384) (hr:ULe refs)
include hl ha ho hr
theorem Zp6(i:Nat)(hi:i<refs.length)(hb:rfsB refs all i=La):CP (rndF f66 0) (a8L all out refs i).st .ret (Tg.st ⟨tm 42 [(6,.d (.sl 0 [])),(7,bool Lc)],[],60⟩):=by
 have r:=hr _ (getD_mem_iff.2 ⟨i,hi,rfl⟩);obtain⟨b1,b2⟩:=of_decide_eq_true hb;exact sF [] [] (FN 11 12 17 wdv refs i (Ffb 19 (refs.getD i M==0) (Fek 23 wdv refs (↑i) i (Fc 25 (@Z0z all (refs.getD i M) aa) (Ftb 26 (!decide (refs.getD i M∈all)) Fz)))))
theorem Zme(k:Nat)(hb:(Lk refs.length).find? (rfsB refs all)=Ld k):CP (blkF f66 0) (Tg.st ⟨tm 42 [(0,Z01 all),(1,.ow 8000),(2,Z01 refs),(6,.d (.sl 0 [])),(7,bool Lc),(8,int 0)],[(8000,.arr 35 1 (out.map wdv))],4⟩) .ret (Tg.st ⟨tm 42 [(6,.d (.sl 0 [])),(7,bool Lc)],[],60⟩):=by
 obtain⟨h1,h2,h3⟩:=LR.1 hb;have h2:=LL.1 h2;have ln:∀ m,(addN out refs m).length<=out.length+m:=Zf4 out refs;exact Z0r (S:=λk=>(a8L all out refs k).st) k kr (λm hm=>Zjf all out refs oq ha (by have:=ln refs.length;omega) hr m oq (by simpa using h3 m hm)) (Zp6 all out refs hl ha ho hr k h2 h1)
theorem Z9j(hb:((Lk refs.length).find? (rfsB refs all)).isSome=La):BP 66 [Z01 all,.ow 0,Z01 refs] [.arr 35 1 (out.map wdv)] (.tu [.d (.sl 0 []),bool Lc]) [.dead]:=by
 obtain⟨k,hb⟩:=L1.1 hb;exact borF [8000] [] func66 [] (Fu (@Zme all out refs aa aa aa aa k hb) (Fnl Fz))
end
def Z8v(h:Heap)(a:Int)(hw:WOk h.W)(hp:Z03 h=La)(ha:a∈(Z04 h).1):GP 18 [h.av,u64 a] Lc (Z01 (Z0n h a)) []:=by
 rw[<- ZjF hp ha];have:=Z0T h a ha;exact ZjU h a hw oq
def ZcS(h:Heap)(a:Int):(Z0n h a).length<=255:=by
 rw[Z0n,Lm];exact(Z1s _).1
def Zjj{h:Heap}(hw:WOk h.W)(a:Int):ULe (Z0n h a):=by
 intro x hx;obtain⟨j,_,rfl⟩:=Lv.1 hx;exact Z0w hw _
def Z7K(all refs:List Int)(hl:refs.length<=1048576)(ha:all.length<=1048576)(ho:(addN [] refs refs.length).length<=1048576)(hr:ULe refs)(hb:(Lk refs.length).find? (rfsB refs all)=Lf):BP 66 [Z01 all,.ow 0,Z01 refs] [.arr 35 1 []] (.tu [.ow 1,bool La]) [.dead,.arr 35 1 ((addN [] refs refs.length).map wdv)] :=
 Zj7 all [] refs hl ha ho hr hb
def Zbm(all refs:List Int)(hl:refs.length<=1000000)(ha:all.length<=1048576)(hr:ULe refs)(hb:((Lk refs.length).find? (rfsB refs all)).isSome=La):BP 66 [Z01 all,.ow 0,Z01 refs] [.arr 35 1 []] (.tu [.d (.sl 0 []),bool Lc]) [.dead] :=
 Z9j all [] refs hl ha (Lr _) hr hb
def orG(h:Heap)(roots:List Int)(i:Nat):Tg:=⟨tm 52 [(2,.pt 8002 0 0),(4,.d (.sl 0 [])),(5,int 0),(6,Z01 (Z04 h).1),(8,.ow 41025),(9,bool La),(10,int i)],[(41025,.arr 35 1 ((ordG h roots i).map wdv)),(8002,.box 28 [int h.C.pw,int h.C.pg,.d (.sl 1 (h.W.map wdv)),.d (.sl 4 (h.P.map Page.dv)),int h.S,int h.B])],7⟩
def orX(i:Nat):Tg:=⟨tm 52 [(4,.d (.sl 0 [])),(5,int 0),(8,.d (.sl 0 [])),(9,bool Lc),(10,int i)],[],7⟩
section
variable (h:Heap) (roots:List Int) (k:Nat) (I:OrdI h roots k) (hw:WOk h.W) (hp:Z03 h=La)
include I hw hp
theorem ZfF(i:Nat)(hi:i<k):CP (rndF f25 0) (orG h roots i).st .nrm (orG h roots (i+1)).st:=by
 have ol:=Z0B h;obtain⟨o1,o2⟩:=I.lo i hi;have o3:=I.len (i:=i) oq;have o4:=I.len (i:=i+1) oq;have om:=(I.el i oq).2 _ (getD_mem_iff.2 ⟨i,o1,rfl⟩);have ox:=Z0T h _ om;have rl:=ZcS h ((ordG h roots i).getD i M);have ru:=Zjj hw ((ordG h roots i).getD i M);have o2:(Lk (Z0n h ((ordG h roots i).getD i M)).length).find? (rfsB (Z0n h ((ordG h roots i).getD i M)) (Z04 h).1)=Lf:=by simpa[badG]using o2
 have e7:ordG h roots (i+1)=addN (ordG h roots i) (Z0n h ((ordG h roots i).getD i M)) (Z0n h ((ordG h roots i).getD i M)).length:=rfl;rw[e7]at o4;unfold orG;rw[e7];let y0:=ordG h roots i;exact sF [(65046,41025)] [] (FlG 32 La wdv y0 (Ftb 34 (Le ((i:Int)<(y0.length:Int))) (Fmq 44 wdv y0 (↑i) (Fc 45 (@Z8v h (y0.getD (i:Int).toNat M) aa aa aa) (Fbr 46 [41025] (@Zj7 ((Z04 h).1) y0 (Z0n h (y0.getD (i:Int).toNat M)) (by grind[]) oq (by grind[]) aa aa) (Fx 36 i Fz))))))
theorem Zod(hi:k<(ordG h roots k).length)(hb:badG h roots k=La):CP (rndF f25 0) (orG h roots k).st .nrm (orX (k+1)).st:=by
 have ol:=Z0B h;have o3:=I.len (Lj k);have om:=(I.el k (Lj k)).2 _ (getD_mem_iff.2 ⟨k,hi,rfl⟩);have ox:=Z0T h _ om;have rl:=ZcS h ((ordG h roots k).getD k M);have ru:=Zjj hw ((ordG h roots k).getD k M);unfold badG at hb;unfold orG;let y0:=ordG h roots k;exact sF [] [] (FlG 32 La wdv y0 (Ftb 34 (Le ((k:Int)<(y0.length:Int))) (Fmq 44 wdv y0 (↑k) (Fc 45 (@Z8v h (y0.getD (k:Int).toNat M) aa aa aa) (Fbr 46 [41025] (@Z9j ((Z04 h).1) y0 (Z0n h (y0.getD (k:Int).toNat M)) (by grind[]) oq aa aa aa) (Fx 36 k Fz))))))
omit I hw hp in
theorem ZlL:CP (rndF f25 0) (orX k).st (.ext 0) (Tg.st ⟨tm 52 [(4,.d (.sl 0 [])),(5,int 0),(8,.d (.sl 0 [])),(9,bool Lc)],[],7⟩):=by
 exact sF [] [] Fz
omit I hw hp in
theorem Zoi(e:(ordG h roots k).length<=k):CP (rndF f25 0) (orG h roots k).st (.ext 0) (Tg.st ⟨tm 52 [(4,.d (.sl 0 [])),(5,int 0),(8,.ow 41025),(9,bool La)],[(41025,.arr 35 1 ((ordG h roots k).map wdv))],7⟩):=by
 exact sF [] [] (FlG 32 La wdv (ordG h roots k) (Ffb 34 (Le ((k:Int)<(↑(ordG h roots k).length:Int))) Fz))
def Znb(e:(ordG h roots k).length<=k)  := Z08 (S:=λi=>(orG h roots i).st) k (by kernel_rfl) (λi hi=>ZfF h roots k I hw hp i hi) (Zoi h roots k e)
theorem Zmn(hi:k<(ordG h roots k).length)(hb:badG h roots k=La):CP (blkF f25 0) (Tg.st ⟨tm 52 [(2,.pt 8002 0 0),(4,.d (.sl 0 [])),(5,int 0),(6,Z01 (Z04 h).1),(8,.ow 41025),(9,bool La),(10,int 0)],[(41025,.arr 35 1 ((addN [] roots roots.length).map wdv)),(8002,.box 28 [int h.C.pw,int h.C.pg,.d (.sl 1 (h.W.map wdv)),.d (.sl 4 (h.P.map Page.dv)),int h.S,int h.B])],7⟩) .nrm (Tg.st ⟨tm 52 [(4,.d (.sl 0 [])),(5,int 0),(8,.d (.sl 0 [])),(9,bool Lc)],[],7⟩):=by
 have:=Z08 (P:=prog) (fn:=f25) (b:=0) (S:=λi=>if i<=k then(orG h roots i).st else(orX i).st) (k+1) kr (λi hi'=>by
  rw[if_pos oq];by_cases q:i=k
  .rw[q,if_neg oq];exact Zod h roots k I hw hp hi hb
  .rw[if_pos oq];exact ZfF h roots k I hw hp i oq) (by rw[if_neg oq];exact ZlL (k+1))
 rw[if_pos (Lr _)]at this;exact this
theorem ZfO(hl:roots.length<=1000)(hr:ULe roots)(ho:(Z04 h).2=0)(hb:Z2k h roots=Lc)(e:(ordG h roots k).length<=k):GP 25 [h.av,Z01 roots] Lc (.tu [Z01 (ordG h roots k),int 0]) []:=by
 have ol:=Z0B h;have Er:(Lk roots.length).find? (rfsB roots (Z04 h).1)=Lf:=by simpa[Z2k]using hb
 have u0:(addN [] roots roots.length).length<=16384:=I.len (Lr k);exact gF [] func25 [] (Fh 25 [.gh 35 1,.bor [47025] (AV.tu [AV.ow 1,Sx.bool La]) [Blk.dead,Blk.arr 35 1 (Lb wdv (addN [] roots roots.length))]] (Fc 12 (@Z0e h) (Ffb 13 (!Z03 h) (Fc 16 (@Z1J h aa) (Ffb 20 ((Z04 h).2 != 0) (Fa (@Z7K ((Z04 h).1) roots oq oq oq aa aa) (Fu (@Znb h roots k aa aa aa aa) Fz)))))))
theorem ZfX(hl:roots.length<=1000)(hr:ULe roots)(ho:(Z04 h).2=0)(hb:Z2k h roots=Lc)(hi:k<(ordG h roots k).length)(hb2:badG h roots k=La):GP 25 [h.av,Z01 roots] Lc (.tu [Z01 [],int 19]) []:=by
 have ol:=Z0B h;have Er:(Lk roots.length).find? (rfsB roots (Z04 h).1)=Lf:=by simpa[Z2k]using hb
 have u0:(addN [] roots roots.length).length<=16384:=I.len (Lr k);exact gF [] func25 [] (Fh 25 [.gh 35 1,.bor [47025] (AV.tu [AV.ow 1,Sx.bool La]) [Blk.dead,Blk.arr 35 1 (Lb wdv (addN [] roots roots.length))]] (Fc 12 (@Z0e h) (Ffb 13 (!Z03 h) (Fc 16 (@Z1J h aa) (Ffb 20 ((Z04 h).2 != 0) (Fa (@Z7K ((Z04 h).1) roots oq oq oq aa aa) (Fu (@Zmn h roots k I aa aa aa aa) (Fnl Fz))))))))
end
def Zga(h:Heap)(roots:List Int)(hw:WOk h.W)(hp:Z03 h=Lc):GP 25 [h.av,Z01 roots] Lc (.tu [Z01 [],int 1]) []:=by
 exact gF [] func25 [] (Fc 12 (@Z0e h) (Ftb 13 (!Z03 h) (Fnl Fz)))
def Zg5(h:Heap)(roots:List Int)(hw:WOk h.W)(hp:Z03 h=La)(ho:(Z04 h).2≠0):GP 25 [h.av,Z01 roots] Lc (.tu [Z01 [],int (Z04 h).2]) []:=by
 exact gF [] func25 [] (Fc 12 (@Z0e h) (Ffb 13 (!Z03 h) (Fc 16 (@Z1J h aa) (Ftb 20 ((Z04 h).2 != 0) (Fnl Fz)))))
def ZiV  := Z08 (S:=λi=>(orX i).st) 0 (by kernel_rfl) (λi hi=>absurd hi (Nat.not_lt_zero _)) (ZlL 0)
def Zgr(h:Heap)(roots:List Int)(hw:WOk h.W)(hp:Z03 h=La)(hl:roots.length<=1000)(hr:ULe roots)(ho:(Z04 h).2=0)(hb:Z2k h roots=La):GP 25 [h.av,Z01 roots] Lc (.tu [Z01 [],int 19]) []:=by
 have ol:=Z0B h;unfold Z2k at hb;have lp:=ZiV;unfold orX at lp;exact gF [] func25 [] (Fh 25 [.gh 35 1,.bor [47025] (AV.tu [AV.d (DV.sl 0 []),Sx.bool Lc]) [Blk.dead]] (Fc 12 (@Z0e h) (Ffb 13 (!Z03 h) (Fc 16 (@Z1J h aa) (Ffb 20 ((Z04 h).2 != 0) (Fa (@Zbm ((Z04 h).1) roots oq oq aa aa) (Fu (@ZiV) (Fnl Fz))))))))
def Z4Q(h:Heap)(roots:List Int)(hw:WOk h.W)(hl:roots.length<=1000)(hr:ULe roots):GP 25 [h.av,Z01 roots] Lc (.tu [Z01 (Z09 h roots).1,int (Z09 h roots).2]) []:=by
 unfold Z09;by_cases hp:Z03 h=La
 .rw[if_pos hp];by_cases ho:(Z04 h).2=0
  .rw[if_pos ho];by_cases hb:Z2k h roots=La
   .rw[if_pos (.inl hb)];exact Zgr h roots hw hp hl hr ho hb
   .have hb':Z2k h roots=Lc:=by simpa using hb
    obtain⟨I,e⟩:=Zfs hb';by_cases c:(ordZ h roots)<(ordG h roots (ordZ h roots)).length/\badG h roots (ordZ h roots)=La
    .rw[if_pos (.inr c)];exact ZfX h roots _ I hw hp hl hr ho hb' c.1 c.2
    .rw[if_neg (λq=>q.elim hb c)];refine ZfO h roots _ I hw hp hl hr ho hb' ?_;rcases e with e | e
     .exact e
     .exact Nat.not_lt.1 λq=>c ⟨q,e⟩
  .rw[if_neg ho];exact Zg5 h roots hw hp ho
 .rw[if_neg hp];exact Zga h roots hw (by simpa using hp)
def ZgR(h:Heap)(roots:List Int)(hw:WOk h.W)(hp:Z03 h=Lc):BP 55 [h.av,Z01 roots] [] (.tu [.d (.sc (.pointer Lf)),int 1]) []:=by
 exact borF [] [] func55 [] (Fc 19 (@Z0C h) (Ftb 20 (!Z03 h) Fz))
def Zi1(h:Heap)(roots:List Int)(hw:WOk h.W)(hp:Z03 h=La)(ho:(Z04 h).2≠0):BP 55 [h.av,Z01 roots] [] (.tu [.d (.sc (.pointer Lf)),int (Z04 h).2]) []:=by
 exact borF [] [] func55 [] (Fc 19 (@Z0C h) (Ffb 20 (!Z03 h) (Fc 23 (@Z48 h aa) (Ftb 27 ((Z04 h).2 != 0) Fz))))
def hpB(h:Heap):Blk:=.box 28 [int h.C.pw,int h.C.pg,.d (.sl 1 (h.W.map wdv)),.d (.sl 4 (h.P.map Page.dv)),int h.S,int h.B]
def seaB(all l:List Int):List (Nat×Blk):=[(48032,.box 105 [Z01 all,.pt 48030 0 99999,.ow 48031]),(48031,.arr 35 1 (l.map wdv)),(48030,.mp l)]
def srL(h:Heap)(roots:List Int)(i:Nat):Tg:=⟨tm 102 [(2,.pt 16002 0 0),(4,.d (.sc (.pointer Lf))),(5,int 0),(8,.pt 48032 0 0),(33,Z01 roots),(34,int roots.length),(35,int i)],seaB (Z04 h).1 (addN [] roots i)++[(16002,hpB h)],8⟩
section
variable (h:Heap) (roots:List Int) (hl:roots.length<=1000) (hr:ULe roots)
include hl hr
theorem Zip(i:Nat)(hi:i<roots.length)(hb:∀ j,j<i+1->rfsB roots (Z04 h).1 j=Lc):CP (rndF f55 0) (srL h roots i).st .nrm (srL h roots (i+1)).st:=by
 have ol:=Z0B h;have os:=Z43 h;have o1:=Z6C (all:=(Z04 h).1) (out:=[]) (refs:=roots) ⟨Lz,by simp⟩ i (λj hj=>hb j oq);have o2:=LN (ZcT o1.1 o1.2) ol;have r:=hr _ (getD_mem_iff.2 ⟨i,hi,rfl⟩);have rb:=Zdx (hb i oq);have e7:addN [] roots (i+1)=addO (addN [] roots i) (roots.getD i M):=rfl;unfold srL seaB hpB;rw[e7];exact sF [(81041,48031)] [] (Ftb 36 (Le ((i:Int)<(roots.length:Int))) (Fek 37 wdv roots (↑i) i (Fbr 41 [48032,48030,48031] (@ZnW ((Z04 h).1) (addN [] roots i) (roots.getD i M) aa oq oq aa aa) (Fx 43 i Fz))))
theorem Zpp(i:Nat)(hi:i<roots.length)(hb:∀ j,j<i->rfsB roots (Z04 h).1 j=Lc)(hx:rfsB roots (Z04 h).1 i=La):CP (rndF f55 0) (srL h roots i).st .ret (Tg.st ⟨tm 102 [(4,.d (.sc (.pointer Lf))),(5,int 19)],[],60⟩):=by
 have ol:=Z0B h;have os:=Z43 h;have o1:=Z6C (all:=(Z04 h).1) (out:=[]) (refs:=roots) ⟨Lz,by simp⟩ i hb;have o2:=LN (ZcT o1.1 o1.2) ol;have r:=hr _ (getD_mem_iff.2 ⟨i,hi,rfl⟩);obtain⟨b1,b2⟩:=of_decide_eq_true hx;unfold srL seaB hpB;exact sF [] [] (Ftb 36 (Le ((i:Int)<(roots.length:Int))) (Fek 37 wdv roots (↑i) i (Fbq 41 [48032,48030,48031] (@ZlV ((Z04 h).1) (addN [] roots i) (roots.getD i M) aa oq oq aa aa aa) Fz)))
omit hl hr in
theorem Zpr:CP (rndF f55 0) (srL h roots roots.length).st (.ext 0) (Tg.st ⟨tm 102 [(2,.pt 16002 0 0),(4,.d (.sc (.pointer Lf))),(5,int 0),(8,.pt 48032 0 0)],seaB (Z04 h).1 (ordG h roots 0)++[(16002,hpB h)],8⟩):=by
 unfold srL seaB hpB ordG;exact sF [] [] (Ffb 36 (Le ((roots.length:Int)<(roots.length:Int))) Fz)
theorem ZlF(hb:Z2k h roots=Lc):CP (blkF f55 0) (Tg.st ⟨tm 102 [(2,.pt 16002 0 0),(4,.d (.sc (.pointer Lf))),(5,int 0),(8,.pt 48032 0 0),(33,Z01 roots),(34,int roots.length),(35,int 0)],[(48032,.box 105 [Z01 (Z04 h).1,.pt 48030 0 99999,.ow 48031]),(48031,.arr 35 1 []),(48030,.mp []),(16002,.box 28 [int h.C.pw,int h.C.pg,.d (.sl 1 (h.W.map wdv)),.d (.sl 4 (h.P.map Page.dv)),int h.S,int h.B])],8⟩) .nrm (Tg.st ⟨tm 102 [(2,.pt 16002 0 0),(4,.d (.sc (.pointer Lf))),(5,int 0),(8,.pt 48032 0 0)],seaB (Z04 h).1 (ordG h roots 0)++[(16002,hpB h)],8⟩):=by
 have e:=Zb9 (refs:=roots) (all:=(Z04 h).1) (by simpa[Z2k]using hb);exact Z08 (S:=λk=>(srL h roots k).st) roots.length kr (λk hk=>Zip h roots hl hr k hk (λj hj=>e j oq)) (Zpr h roots)
theorem Zm5(hb:Z2k h roots=La):CP (blkF f55 0) (Tg.st ⟨tm 102 [(2,.pt 16002 0 0),(4,.d (.sc (.pointer Lf))),(5,int 0),(8,.pt 48032 0 0),(33,Z01 roots),(34,int roots.length),(35,int 0)],[(48032,.box 105 [Z01 (Z04 h).1,.pt 48030 0 99999,.ow 48031]),(48031,.arr 35 1 []),(48030,.mp []),(16002,.box 28 [int h.C.pw,int h.C.pg,.d (.sl 1 (h.W.map wdv)),.d (.sl 4 (h.P.map Page.dv)),int h.S,int h.B])],8⟩) .ret (Tg.st ⟨tm 102 [(4,.d (.sc (.pointer Lf))),(5,int 19)],[],60⟩):=by
 obtain⟨i,hb⟩:=L1.1 hb;obtain⟨h1,h2,h3⟩:=LR.1 hb;have h2:=LL.1 h2;have e:∀ j,j<i->rfsB roots (Z04 h).1 j=Lc:=λj hj=>by simpa using h3 j hj
 exact Z0r (S:=λk=>(srL h roots k).st) i kr (λk hk=>Zip h roots hl hr k oq (λj hj=>e j oq)) (Zpp h roots hl hr i h2 e h1)
end
def Zj5(h:Heap)(roots:List Int)(hw:WOk h.W)(hp:Z03 h=La)(ho:(Z04 h).2=0)(hl:roots.length<=1000)(hr:ULe roots)(hb:Z2k h roots=La):BP 55 [h.av,Z01 roots] [] (.tu [.d (.sc (.pointer Lf)),int 19]) []:=by
 exact borF [] [] func55 [] (Fh 31 [.gh 35 1,.int 2] (Fc 19 (@Z0C h) (Ffb 20 (!Z03 h) (Fc 23 (@Z48 h aa) (Ffb 27 ((Z04 h).2 != 0) (Fl 34 wdv roots (Fu (@Zm5 h roots aa aa aa) Fz)))))))
def ZkA(out:List Int)(r:Int){k:Nat}(hk:k<out.length):k<(addO out r).length/\(addO out r).getD k M=out.getD k M:=by
 unfold addO;split
 .exact⟨hk,rfl⟩
 .refine⟨by simp;omega, ?_⟩;simp only[Lg];rw[List.getElem?_append_left hk]
def Zbb(out refs:List Int){k:Nat}(hk:k<out.length):∀ n,k<(addN out refs n).length/\(addN out refs n).getD k M=out.getD k M
 | 0=>⟨hk,rfl⟩
 | n+1=>by
  obtain⟨h1,h2⟩:=Zbb out refs hk n;obtain⟨h3,h4⟩:=ZkA (addN out refs n) (refs.getD n M) h1;exact⟨h3,h4.trans h2⟩
def siL(h:Heap)(l:List Int)(i:Nat)(ps rf:List Int)(j:Nat):Tg:=⟨tm 102 [(2,.pt 16002 0 0),(4,.d (.sc (.pointer Lf))),(5,int 0),(8,.pt 48032 0 0),(11,int i),(69,.d (.sl 1 (ps.map idv))),(70,int ps.length),(71,int j)],seaB (Z04 h).1 (addN l rf j)++[(16002,hpB h)],13⟩
def ZeR{h:Heap}{l:List Int}{i j:Nat}{a:Int}(hp:Z03 h=La)(hi:i<l.length)(el:l.Nodup/\∀ x∈l,x∈(Z04 h).1)(ea:l.getD i M=a)(hj:j<(Z02 (atH h a).1).length)(hb:∀ m,m<j->rfsB (Z0n h a) (Z04 h).1 m=Lc) :
  i<(addN l (Z0n h a) j).length/\(addN l (Z0n h a) j).length<=16384/\0<=(addN l (Z0n h a) j).getD i M/\(addN l (Z0n h a) j).getD i M<=8192/\0<=(Z02 (atH h a).1).getD j M/\(Z02 (atH h a).1).getD j M<=255 /\
  (loadA h.W ((addN l (Z0n h a) j).getD i M+1+(Z02 (atH h a).1).getD j M)).2=0/\(Z0n h a).getD j M=(loadA h.W ((addN l (Z0n h a) j).getD i M+1+(Z02 (atH h a).1).getD j M)).1:=by
 obtain⟨q1,q2⟩:=Zbb l (Z0n h a) hi j;rw[ea]at q2;have o1:=Z6C (all:=(Z04 h).1) el j hb;have o2:=LN (ZcT o1.1 o1.2) (Z0B h);have am:a∈(Z04 h).1:=ea▸el.2 _ (getD_mem_iff.2 ⟨i,hi,rfl⟩);have ar:=Z0T h a am;obtain⟨g1,g2,g3⟩:=Z4D hp am;have r:=ZeT g2;have pm:=getD_mem_iff.2 ⟨j,hj,rfl⟩;have pr:=(Z1s (atH h a).1).2 _ pm;have pl:(Z02 (atH h a).1).getD j M<(atH h a).1.length:=by
  have hx:=pm;generalize (Z02 (atH h a).1).getD j M=x at hx;unfold Z02 at hx;split at hx
  .have:=Z2j _ _ _ hx;omega
  .simp at hx
 rw[q2];refine⟨q1,o2,by omega,by omega,pr.1,pr.2,by rw[loadA,if_pos oq], ?_⟩;unfold Z0n;simp only[Lg,LH,Li hj,Xh,LA]
section
variable (h:Heap) (l:List Int) (i j:Nat) (a:Int) (hw:WOk h.W) (hp:Z03 h=La) (hi:i<l.length) (el:l.Nodup/\∀ x∈l,x∈(Z04 h).1) (ea:l.getD i M=a)
include hw hp hi el ea
theorem ZiH(hj:j<(Z02 (atH h a).1).length)(hb:∀ m,m<j+1->rfsB (Z0n h a) (Z04 h).1 m=Lc):CP (rndF f55 4) (siL h l i (Z02 (atH h a).1) (Z0n h a) j).st .nrm (siL h l i (Z02 (atH h a).1) (Z0n h a) (j+1)).st:=by
 have ol:=Z0B h;have os:=Z43 h;have po:=Z0c hp;have pl:=(Z1s (atH h a).1).1;obtain⟨f1,f2,f3,f4,f5,f6,f7,f8⟩:=ZeR hp hi el ea hj (λm hm=>hb m oq);have rb:=Zdx (hb j oq);have rr:=Z0w hw ((addN l (Z0n h a) j).getD i M+1+(Z02 (atH h a).1).getD j M);rw[f8]at rb;have e7:addN l (Z0n h a) (j+1)=addO (addN l (Z0n h a) j) (loadA h.W ((addN l (Z0n h a) j).getD i M+1+(Z02 (atH h a).1).getD j M)).1:=by rw[<- f8];rfl
 unfold siL seaB hpB;rw[e7];let y0:=(addN l (Z0n h a) j).getD i M+1+(Z02 (atH h a).1).getD j M;exact sF [(129097,48031)] [] (Fh 93 [.br Lc] (Ftb 72 (Le ((j:Int)<(↑(Z02 (atH h a).1).length:Int))) (Fek 73 idv (Z02 (atH h a).1) (↑j) j (Fm 84 wdv (addN l (Z0n h a) j) (↑i) i (Fv 85 ((addN l (Z0n h a) j).getD i M+1) (Fv 87 ((Z02 (atH h a).1).getD j M) (Fv 88 y0 (Fc 89 (@Z7X h.W y0 oq oq) (Fb (((loadA h.W y0).2 != 0)=Lc) (Fbr 97 [48032,48030,48031] (@ZnW ((Z04 h).1) (addN l (Z0n h a) j) ((loadA h.W y0).1) aa oq oq aa aa) (Fx 100 j Fz)))))))))))
theorem Zph(hj:j<(Z02 (atH h a).1).length)(hb:∀ m,m<j->rfsB (Z0n h a) (Z04 h).1 m=Lc)(hx:rfsB (Z0n h a) (Z04 h).1 j=La):CP (rndF f55 4) (siL h l i (Z02 (atH h a).1) (Z0n h a) j).st .ret (Tg.st ⟨tm 102 [(4,.d (.sc (.pointer Lf))),(5,int 19)],[],60⟩):=by
 have ol:=Z0B h;have os:=Z43 h;have po:=Z0c hp;have pl:=(Z1s (atH h a).1).1;obtain⟨f1,f2,f3,f4,f5,f6,f7,f8⟩:=ZeR hp hi el ea hj hb;obtain⟨b1,b2⟩:=of_decide_eq_true hx;have rr:=Z0w hw ((addN l (Z0n h a) j).getD i M+1+(Z02 (atH h a).1).getD j M);rw[f8]at b1 b2;unfold siL seaB hpB;let y0:=(addN l (Z0n h a) j).getD i M+1+(Z02 (atH h a).1).getD j M;exact sF [] [] (Fh 93 [.br Lc] (Ftb 72 (Le ((j:Int)<(↑(Z02 (atH h a).1).length:Int))) (Fek 73 idv (Z02 (atH h a).1) (↑j) j (Fm 84 wdv (addN l (Z0n h a) j) (↑i) i (Fv 85 ((addN l (Z0n h a) j).getD i M+1) (Fv 87 ((Z02 (atH h a).1).getD j M) (Fv 88 y0 (Fc 89 (@Z7X h.W y0 oq oq) (Fb (((loadA h.W y0).2 != 0)=Lc) (Fbq 97 [48032,48030,48031] (@ZlV ((Z04 h).1) (addN l (Z0n h a) j) ((loadA h.W y0).1) aa oq oq aa aa aa) Fz))))))))))
omit hw hp hi el ea in
theorem Zpa(ps rf:List Int):CP (rndF f55 4) (siL h l i ps rf ps.length).st (.ext 4) (Tg.st ⟨tm 102 [(2,.pt 16002 0 0),(4,.d (.sc (.pointer Lf))),(5,int 0),(8,.pt 48032 0 0),(11,int i)],seaB (Z04 h).1 (addN l rf ps.length)++[(16002,hpB h)],13⟩):=by
 unfold siL seaB hpB;exact sF [] [] (Ffb 72 (Le ((ps.length:Int)<(ps.length:Int))) Fz)
theorem Zot(hb:(Lk (Z0n h a).length).find? (rfsB (Z0n h a) (Z04 h).1)=Lf):CP (blkF f55 4) (Tg.st ⟨tm 102 [(2,.pt 16002 0 0),(4,.d (.sc (.pointer Lf))),(5,int 0),(8,.pt 48032 0 0),(11,int i),(69,.d (.sl 1 ((Z02 (atH h a).1).map idv))),(70,int (Z02 (atH h a).1).length),(71,int 0)],[(48032,.box 105 [Z01 (Z04 h).1,.pt 48030 0 99999,.ow 48031]),(48031,.arr 35 1 (l.map wdv)),(48030,.mp l),(16002,.box 28 [int h.C.pw,int h.C.pg,.d (.sl 1 (h.W.map wdv)),.d (.sl 4 (h.P.map Page.dv)),int h.S,int h.B])],13⟩) .nrm (Tg.st ⟨tm 102 [(2,.pt 16002 0 0),(4,.d (.sc (.pointer Lf))),(5,int 0),(8,.pt 48032 0 0),(11,int i)],seaB (Z04 h).1 (addN l (Z0n h a) (Z0n h a).length)++[(16002,hpB h)],13⟩):=by
 have e:=Zb9 hb;have le:(Z0n h a).length=(Z02 (atH h a).1).length:=by rw[Z0n,Lm]
 rw[le];exact Z08 (S:=λj=>(siL h l i (Z02 (atH h a).1) (Z0n h a) j).st) (Z02 (atH h a).1).length kr (λj hj=>ZiH h l i j a hw hp hi el ea hj (λm hm=>e m oq)) (Zpa h l i _ _)
theorem Zne(hb:((Lk (Z0n h a).length).find? (rfsB (Z0n h a) (Z04 h).1)).isSome=La):CP (blkF f55 4) (Tg.st ⟨tm 102 [(2,.pt 16002 0 0),(4,.d (.sc (.pointer Lf))),(5,int 0),(8,.pt 48032 0 0),(11,int i),(69,.d (.sl 1 ((Z02 (atH h a).1).map idv))),(70,int (Z02 (atH h a).1).length),(71,int 0)],[(48032,.box 105 [Z01 (Z04 h).1,.pt 48030 0 99999,.ow 48031]),(48031,.arr 35 1 (l.map wdv)),(48030,.mp l),(16002,.box 28 [int h.C.pw,int h.C.pg,.d (.sl 1 (h.W.map wdv)),.d (.sl 4 (h.P.map Page.dv)),int h.S,int h.B])],13⟩) .ret (Tg.st ⟨tm 102 [(4,.d (.sc (.pointer Lf))),(5,int 19)],[],60⟩):=by
 obtain⟨n,hb⟩:=L1.1 hb;obtain⟨h1,h2,h3⟩:=LR.1 hb;have h2:=LL.1 h2;have le:(Z0n h a).length=(Z02 (atH h a).1).length:=by rw[Z0n,Lm]
 have e:∀ m,m<n->rfsB (Z0n h a) (Z04 h).1 m=Lc:=λm hm=>by simpa using h3 m hm
 exact Z0r (S:=λj=>(siL h l i (Z02 (atH h a).1) (Z0n h a) j).st) n kr (λj hj=>ZiH h l i j a hw hp hi el ea oq (λm hm=>e m oq)) (Zph h l i n a hw hp hi el ea oq e h1)
end
def soL(h:Heap)(roots:List Int)(k:Nat):Tg:=⟨tm 102 [(2,.pt 16002 0 0),(4,.d (.sc (.pointer Lf))),(5,int 0),(8,.pt 48032 0 0),(11,int k)],seaB (Z04 h).1 (ordG h roots k)++[(16002,hpB h)],9⟩
section
variable (h:Heap) (roots:List Int) (k:Nat) (I:OrdI h roots k) (hw:WOk h.W) (hp:Z03 h=La)
include I hw hp
theorem Zh5(i:Nat)(hi:i<k):CP (rndF f55 2) (soL h roots i).st .nrm (soL h roots (i+1)).st:=by
 have ol:=Z0B h;obtain⟨o1,o2⟩:=I.lo i hi;have o3:=I.len (i:=i) oq;have o4:=I.len (i:=i+1) oq;have om:=(I.el i oq).2 _ (getD_mem_iff.2 ⟨i,o1,rfl⟩);have ox:=Z0T h _ om;obtain⟨g1,g2,g3⟩:=Z4D hp om;have gm:=Z2C hw ((ordG h roots i).getD i M);have o2:(Lk (Z0n h ((ordG h roots i).getD i M)).length).find? (rfsB (Z0n h ((ordG h roots i).getD i M)) (Z04 h).1)=Lf:=by simpa[badG]using o2
 have el:=I.el i oq;have po:=Z0c hp;have e7:ordG h roots (i+1)=addN (ordG h roots i) (Z0n h ((ordG h roots i).getD i M)) (Z0n h ((ordG h roots i).getD i M)).length:=rfl;rw[e7]at o4;unfold soL seaB hpB;rw[e7];let y0:=(ordG h roots i).getD i M;exact sF [] [] (FM 49 50 wdv (ordG h roots i) i (Fm 61 wdv (ordG h roots i) (↑i) i (Fc 62 (@Z5N h y0 aa oq) (Ffb 66 ((atH h y0).2 != 0) (Fc 69 (@Z3B ((atH h y0).1) aa) (Fl 70 idv (Z02 (atH h y0).1) (Fu (@Zot h (ordG h roots i) i y0 aa aa aa aa (by rfl) aa) (Fx 52 i Fz))))))))
theorem Zp4(hi:k<(ordG h roots k).length)(hb:badG h roots k=La):CP (rndF f55 2) (soL h roots k).st .ret (Tg.st ⟨tm 102 [(4,.d (.sc (.pointer Lf))),(5,int 19)],[],60⟩):=by
 have ol:=Z0B h;have o3:=I.len (Lj k);have om:=(I.el k (Lj k)).2 _ (getD_mem_iff.2 ⟨k,hi,rfl⟩);have ox:=Z0T h _ om;obtain⟨g1,g2,g3⟩:=Z4D hp om;have gm:=Z2C hw ((ordG h roots k).getD k M);have el:=I.el k (Lj k);have po:=Z0c hp;unfold badG at hb;unfold soL seaB hpB;let y0:=(ordG h roots k).getD k M;exact sF [] [] (FM 49 50 wdv (ordG h roots k) k (Fm 61 wdv (ordG h roots k) (↑k) k (Fc 62 (@Z5N h y0 aa oq) (Ffb 66 ((atH h y0).2 != 0) (Fc 69 (@Z3B ((atH h y0).1) aa) (Fl 70 idv (Z02 (atH h y0).1) (Fu (@Zne h (ordG h roots k) k y0 aa aa aa aa (by rfl) aa) Fz)))))))
omit I hw hp in
theorem Zpm(e:(ordG h roots k).length<=k)(el:(ordG h roots k).length<=16384):CP (rndF f55 2) (soL h roots k).st (.ext 2) (Tg.st ⟨tm 102 [(4,.d (.sc (.pointer Lf))),(5,int 0),(8,.pt 48032 0 0)],seaB (Z04 h).1 (ordG h roots k),9⟩):=by
 unfold soL seaB hpB;exact sF [] [] (Fl 49 wdv (ordG h roots k) (Ffb 50 (Le ((k:Int)<(↑(ordG h roots k).length:Int))) Fz))
def Zos(e:(ordG h roots k).length<=k)  := Z08 (S:=λi=>(soL h roots i).st) k (by kernel_rfl) (λi hi=>Zh5 h roots k I hw hp i hi) (Zpm h roots k e (I.len (Lj k)))
def Zm4(hi:k<(ordG h roots k).length)(hb:badG h roots k=La)  := Z0r (S:=λi=>(soL h roots i).st) k (by kernel_rfl) (λi hi=>Zh5 h roots k I hw hp i hi) (Zp4 h roots k I hw hp hi hb)
theorem ZiU(ho:(Z04 h).2=0)(hl:roots.length<=1000)(hr:ULe roots)(hb:Z2k h roots=Lc)(hi:k<(ordG h roots k).length)(hb2:badG h roots k=La):BP 55 [h.av,Z01 roots] [] (.tu [.d (.sc (.pointer Lf)),int 19]) []:=by
 exact borF [] [] func55 [] (Fh 31 [.gh 35 1,.int 2] (Fc 19 (@Z0C h) (Ffb 20 (!Z03 h) (Fc 23 (@Z48 h aa) (Ffb 27 ((Z04 h).2 != 0) (Fl 34 wdv roots (Fu (@ZlF h roots aa aa aa) (Fu (@Zm4 h roots k I aa aa aa aa) Fz))))))))
theorem Zhq(ho:(Z04 h).2=0)(hl:roots.length<=1000)(hr:ULe roots)(hb:Z2k h roots=Lc)(e:(ordG h roots k).length<=k):BP 55 [h.av,Z01 roots] [] (.tu [.pt 0 0 0,int 0]) (seaP (Z04 h).1 (ordG h roots k)):=by
 exact borF [] [48032,48030,48031] func55 [] (Fh 31 [.gh 35 1,.int 2] (Fc 19 (@Z0C h) (Ffb 20 (!Z03 h) (Fc 23 (@Z48 h aa) (Ffb 27 ((Z04 h).2 != 0) (Fl 34 wdv roots (Fu (@ZlF h roots aa aa aa) (Fu (@Zos h roots k aa aa aa aa) Fz))))))))
end
def Z3d(l:List Int)(v:Int):Nat:=(l.takeWhile λx=>!(v==x)).length
def Z8k{l:List Int}{v:Int}{m:Nat}(h:m<Z3d l v):m<l.length/\(v==l.getD m M)=Lc:=by
 obtain⟨h1,h2⟩:=Zi0 _ _ _ h;refine⟨h1, ?_⟩;rw[Lg,Li h1];simpa using h2
def Z9J{l:List Int}{v:Int}(h:Z3d l v<l.length):(v==l.getD (Z3d l v) M)=La:=by
 have h2:=Zcu (λx=>!(v==x)) l h;have h3:l.getD (Z3d l v) M=l[(l.takeWhile λx=>!(v==x)).length]:=by
  rw[Lg,Li h];rfl
 rw[h3];simpa using h2
def firstI_mem{l:List Int}{v:Int}:Z3d l v<l.length↔v∈l:=by
 constructor
 .intro h;have:=Z9J h;exact getD_mem_iff.2 ⟨_,h,by simpa using (eq_of_beq this).symm⟩
 .intro h;obtain⟨k,hk,e⟩:=getD_mem_iff.1 h;rcases LO k (Z3d l v)with q | q
  .have:=(Z8k q).2;rw[e]at this;simp at this
  .omega
def idxI(l:List Int)(v:Int):Int:=if v∈l then Z3d l v else -1
def ixUL(l:List Int)(v:Int)(i:Nat):Tg:=⟨tm 19 [(0,Z01 l),(1,u64 v),(4,int 0),(7,int l.length),(8,int i)],[],3⟩
def ZeP(l:List Int)(v:Int)(i:Nat)(hl:l.length<=1048576)(hi:i<l.length)(e:(v==l.getD i M)=Lc):CP (rndF f121 0) (ixUL l v i).st .nrm (ixUL l v (i+1)).st:=by
 exact sF [] [] (Ftb 9 (Le ((i:Int)<(l.length:Int))) (Fek 14 wdv l (↑i) i (Ff 16 ‹(v==l.getD i M)=Lc› (Fx 18 i Fz))))
def Zlm(l:List Int)(v:Int)(i:Nat)(hl:l.length<=1048576)(hi:i<l.length)(e:(v==l.getD i M)=La):CP (rndF f121 0) (ixUL l v i).st .ret (Tg.st ⟨tm 19 [(4,int i)],[],60⟩):=by
 exact sF [] [] (Ftb 9 (Le ((i:Int)<(l.length:Int))) (Fek 14 wdv l (↑i) i (Ft 16 ‹(v==l.getD i M)=La› Fz)))
def ZnY(l:List Int)(v:Int):CP (rndF f121 0) (ixUL l v l.length).st (.ext 0) (Tg.st ⟨tm 19 [(4,int 0)],[],60⟩):=by
 exact sF [] [] (Ffb 9 (Le ((l.length:Int)<(l.length:Int))) Fz)
def Znj(l:List Int)(v:Int)(hl:l.length<=1048576)(h:¬ v∈l)  := Z08 (S:=λj=>(ixUL l v j).st) l.length (by kernel_rfl) (λj hj=>ZeP l v j hl hj (Z8k (by rcases LO j (Z3d l v)with q | q;exact q;exact absurd (firstI_mem.1 (by omega)) h)).2) (ZnY l v)
def Zka(l:List Int)(v:Int)(hl:l.length<=1048576)(h:v∈l):CP (blkF f121 0) (Tg.st ⟨tm 19 [(0,Z01 l),(1,u64 v),(4,int 0),(7,int l.length),(8,int 0)],[],3⟩) .ret (Tg.st ⟨tm 19 [(4,int (Z3d l v))],[],60⟩) :=
 have h1:Z3d l v<l.length:=firstI_mem.2 h
 Z0r (S:=λj=>(ixUL l v j).st) (Z3d l v) kr (λj hj=>ZeP l v j hl oq (Z8k hj).2) (Zlm l v (Z3d l v) hl h1 (Z9J h1))
def Zop(l:List Int)(v:Int)(hl:l.length<=1048576):GP 121 [Z01 l,u64 v] La (int (idxI l v)) []:=by
 by_cases h:v∈l
 .have e7:idxI l v=Z3d l v:=if_pos h;rw[e7];exact gF [] func121 [] (Fl 7 wdv l (Fu (@Zka l v aa aa) Fz))
 .have e7:idxI l v=-1:=if_neg h;rw[e7];exact gF [] func121 [] (Fl 7 wdv l (Fu (@Znj l v aa aa) Fz))
def ZbQ(l:List Int)(v:Int)(hl:l.length<=1048576):GP 71 [Z01 l,u64 v] La (bool (Le (v∈l))) []:=by
 have h:(0<=idxI l v↔v∈l):=by unfold idxI;split<;>simp[*]
 exact gF [] func71 [La] (Fc 7 (@Zop l v aa) (Fbs (Le (0<=idxI l v)=Le (v∈l)) Fz))
def ZaP(c:Nat):GP 123 [.d (.sc (.slice Lf 0 c))] La (.ow 0) [.arr 35 1 []] :=
 gspec_ofE [((2:Nat),[Hint.own])] [] [(24002:Nat)] dd func123 [] (φ:=Z15 []) (λ_ h=>nomatch h) kr kr
def Z93(p:Addr)(c:Nat):GP 123 [.d (.sc (.slice (Ld p) 0 c))] La (.ow 0) [.arr 35 1 []]:=by
 exact gF [24007] func123 [] (Fs 5 (Lb wdv []) (Fa (by simp[*]:(Lb wdv []).length+([]:List (List DV)).length<=2^30) (Fs 7 (Lb wdv []) (Fa (by exact Z2N _:Z15 (Lb wdv [])) Fz))))
def ZdQ(ws:List Int)(hw:ws.length<=1048576)(hne:ws≠[]):GP 123 [Z01 ws] La (.ow 0) [.arr 35 1 (ws.map wdv)]:=by
 exact gF [24007] func123 [] (Fa (by exact ZoP hne:Lb wdv ws≠[]) (FA 5 7 wdv ws (Fa (by exact Z2N _:Z15 (Lb wdv ws)) Fz)))
def ZdB(ws:List Int)(hw:ws.length<=1048576):GP 123 [Z01 ws] La (.ow 0) [.arr 35 1 (ws.map wdv)]:=by
 by_cases hne:ws=[]
 .subst hne;exact Zef λp c=>match p with | Lf=>ZaP c | Ld p=>Z93 p c
 .exact ZdQ ws hw hne
def ZkO(out:List Int)(r:Int):(r=0\/r∈addO out r)/\∀ x∈out,x∈addO out r:=by
 unfold addO;split
 .rename_i c;exact⟨c,λ_ h=>h⟩
 .exact⟨.inr pq,λx h=>by simp[h]⟩
def Z7q(out refs:List Int):∀ n,(∀ x∈out,x∈addN out refs n)/\∀ j,j<n->refs.getD j M=0\/refs.getD j M∈addN out refs n
 | 0=>⟨λ_ h=>h,λj h=>by omega⟩
 | n+1=>by
  obtain⟨h1,h2⟩:=Z7q out refs n;obtain⟨h3,h4⟩:=ZkO (addN out refs n) (refs.getD n M);refine⟨λx hx=>h4 x (h1 x hx),λj hj=>?_⟩;by_cases q:j=n
  .rw[q];exact h3
  .exact(h2 j oq).imp id λh=>h4 _ h
def Z7m(h:Heap)(roots:List Int)(i:Nat):∀ d,(∀ x∈ordG h roots i,x∈ordG h roots (i+d))/\∀ j,j<(ordG h roots i).length->j<(ordG h roots (i+d)).length/\(ordG h roots (i+d)).getD j M=(ordG h roots i).getD j M
 | 0=>⟨λ_ h=>h,λ_ h=>⟨h,rfl⟩⟩
 | d+1=>by
  obtain⟨h1,h2⟩:=Z7m h roots i d;refine⟨λx hx=>(Z7q _ _ _).1 x (h1 x hx),λj hj=>?_⟩;obtain⟨h3,h4⟩:=h2 j hj;obtain⟨h5,h6⟩:=Zbb (ordG h roots (i+d)) (Z0n h ((ordG h roots (i+d)).getD (i+d) M)) h3 (Z0n h ((ordG h roots (i+d)).getD (i+d) M)).length;exact⟨h5,h6.trans h4⟩
structure OrdL (h:Heap) (roots l:List Int):Prop where
 p:Z03 h=La
 nd:l.Nodup
 el:∀ x∈l,x∈(Z04 h).1
 n0:(0:Int)∉l
 rt:∀ r∈roots,r=0\/r∈l
 cl:∀ a∈l,∀ v∈Z0n h a,v=0\/v∈l
 len:l.length<=16384
def ZnJ{h:Heap}{roots:List Int}{k:Nat}(I:OrdI h roots k)(hp:Z03 h=La)(e:(ordG h roots k).length<=k):OrdL h roots (ordG h roots k):=by
 refine⟨hp,(I.el k (Lj k)).1,(I.el k (Lj k)).2,λq=>?_,λr hr=>?_,λa ha v hv=>?_,I.len (Lj k)⟩
 .exact ZaR h (Z4D hp ((I.el k (Lj k)).2 _ q)).2.1
 .obtain⟨j,hj,rfl⟩:=getD_mem_iff.1 hr;exact((Z7q [] roots roots.length).2 j hj).imp id λq=>by
   have:=(Z7m h roots 0 k).1 _ q;rwa [L0]at this
 .obtain⟨i,hi,rfl⟩:=getD_mem_iff.1 ha;obtain⟨j,hj,rfl⟩:=getD_mem_iff.1 hv;obtain⟨o1,_⟩:=I.lo i oq;have p1:=Z7m h roots i (k-i);rw[show i+(k-i)=k from by omega]at p1;rw[(p1.2 i o1).2]at hj ⊢;have m:=(Z7q (ordG h roots i) (Z0n h ((ordG h roots i).getD i M)) (Z0n h ((ordG h roots i).getD i M)).length).2 j hj;refine m.imp id λq=>?_;have p2:=Z7m h roots (i+1) (k-(i+1));rw[show i+1+(k-(i+1))=k from by omega]at p2;exact p2.1 _ q
section
variable (h:Heap) (roots:List Int) (hw:WOk h.W) (hl:roots.length<=1000) (hr:ULe roots)
include hw hl hr
theorem Z4A:((Z09 h roots).2=0/\OrdL h roots (Z09 h roots).1/\BP 55 [h.av,Z01 roots] [] (.tu [.pt 0 0 0,int 0]) (seaP (Z04 h).1 (Z09 h roots).1)) \/
  ((Z09 h roots).2≠0/\(Z09 h roots).1=[]/\BP 55 [h.av,Z01 roots] [] (.tu [.d (.sc (.pointer Lf)),int (Z09 h roots).2]) []):=by
 unfold Z09;by_cases hp:Z03 h=La
 .rw[if_pos hp];by_cases ho:(Z04 h).2=0
  .rw[if_pos ho];by_cases hb:Z2k h roots=La
   .rw[if_pos (.inl hb)];exact .inr ⟨by simp,rfl,Zj5 h roots hw hp ho hl hr hb⟩
   .have hb':Z2k h roots=Lc:=by simpa using hb
    obtain⟨I,e⟩:=Zfs hb';by_cases c:(ordZ h roots)<(ordG h roots (ordZ h roots)).length/\badG h roots (ordZ h roots)=La
    .rw[if_pos (.inr c)];exact .inr ⟨by simp,rfl,ZiU h roots _ I hw hp ho hl hr hb' c.1 c.2⟩
    .rw[if_neg (λq=>q.elim hb c)];have e':(ordG h roots (ordZ h roots)).length<=ordZ h roots:=by
      rcases e with e | e
      .exact e
      .exact Nat.not_lt.1 λq=>c ⟨q,e⟩
     exact .inl ⟨rfl,ZnJ I hp e',Zhq h roots _ I hw hp ho hl hr hb' e'⟩
  .rw[if_neg ho];exact .inr ⟨ho,rfl,Zi1 h roots hw hp ho⟩
 .rw[if_neg hp];exact .inr ⟨by simp,rfl,ZgR h roots hw (by simpa using hp)⟩
theorem Z6u:(Z09 h roots).1.length<=16384:=by
 rcases Z4A h roots hw hl hr with⟨_,h1,_⟩ | ⟨_,h1,_⟩
 .exact h1.len
 .rw[h1];exact Lr _
theorem Z9m(e:(Z09 h roots).2=0):BP 55 [h.av,Z01 roots] [] (.tu [.pt 0 0 0,int 0]) (seaP (Z04 h).1 (Z09 h roots).1):=by
 rcases Z4A h roots hw hl hr with⟨_,_,h2⟩ | ⟨h0,_⟩
 .exact h2
 .exact absurd e h0
theorem Z8e(e:(Z09 h roots).2≠0):BP 55 [h.av,Z01 roots] [] (.tu [.d (.sc (.pointer Lf)),int (Z09 h roots).2]) []:=by
 rcases Z4A h roots hw hl hr with⟨h0,_⟩ | ⟨_,_,h2⟩
 .exact absurd h0 e
 .exact h2
theorem Z8E(e:(Z09 h roots).2=0):OrdL h roots (Z09 h roots).1:=by
 rcases Z4A h roots hw hl hr with⟨_,h1,_⟩ | ⟨h0,_⟩
 .exact h1
 .exact absurd e h0
theorem Z9z(e:(Z09 h roots).2≠0):(Z09 h roots).1=[]:=by
 rcases Z4A h roots hw hl hr with⟨h0,_⟩ | ⟨_,h1,_⟩
 .exact absurd h0 e
 .exact h1
theorem Z6F:GP 16 [h.av,Z01 roots] La (.tu [Z01 (Z09 h roots).1,int (Z09 h roots).2]) []:=by
 by_cases e:(Z09 h roots).2=0
 .rw[e];exact gF [] func16 [] (Fbr 11 [] (@Z9m h roots aa aa aa aa) (Fa (by exact Z2N _:Z15 (Lb wdv (Z09 h roots).1)) Fz))
 .rw[Z9z h roots hw hl hr e];exact gF [] func16 [] (Fbq 11 [] (@Z8e h roots aa aa aa aa) (Ftb 15 ((Z09 h roots).2 != 0) (Fnl Fz)))
end
def ZcV(h:Heap)(roots:List Int)(a:Int)(hw:WOk h.W)(hl:roots.length<=1000)(hr:ULe roots):GP 31 [h.av,Z01 roots,u64 a] La (bool (Le (a∈(Z09 h roots).1))) []:=by
 have ol:=Z6u h roots hw hl hr;by_cases e:(Z09 h roots).2=0
 .exact gF [] func31 (fO 3) (Fc 12 (@Z6F h roots aa aa aa) (FcG 20 ((Z09 h roots).2==0) (λhg=>by(try simp only[bs]at hg);exact @ZbQ ((Z09 h roots).1) a oq) (Fa (by simp[*]:((Z09 h roots).2==0&&Le (a∈(Z09 h roots).1))=Le (a∈(Z09 h roots).1)) Fz)))
 .have e1:Le (a∈(Z09 h roots).1)=Lc:=by rw[Z9z h roots hw hl hr e];rfl
  rw[e1];exact gF [] func31 (fO 3) (Fc 12 (@Z6F h roots aa aa aa) (FcG 20 ((Z09 h roots).2==0) (λhg=>by(try simp only[bs]at hg);exact @ZbQ ((Z09 h roots).1) a oq) (Fb (((Z09 h roots).2==0&&Le (a∈(Z09 h roots).1))=Lc) Fz)))
def Ze6(h:Heap)(roots:List Int)(a:Int)(hw:WOk h.W)(hl:roots.length<=1000)(hr:ULe roots):GP 32 [h.av,Z01 roots,u64 a] La (bool (Le (a∈(Z09 h roots).1))) []:=by
 have ol:=Z6u h roots hw hl hr;exact gF [] func32 [] (Fc 12 (@Z4Q h roots aa aa aa) (Fc 17 (@Z0z ((Z09 h roots).1) a oq) Fz))
def numB(l:List Int)(v:Int):Int:=if v∈l then(l.idxOf v:Int)+1 else 0
def Z6D(l:List Int)(v:Int):0<=numB l v/\numB l v<=l.length:=by
 unfold numB;split
 .rename_i h;have:=List.idxOf_lt_length_iff.2 h;omega
 .omega
def Zng{l:List Int}{v:Int}(h:v∈l):l.idxOf v<l.length/\l.getD (l.idxOf v) M=v/\∀ i,i<l.idxOf v->l.getD i M≠v:=by
 have h1:=List.idxOf_lt_length_iff.2 h;refine⟨h1, ?_,λi hi q=>?_⟩
 .rw[Lg,Li h1,LA,List.getElem_idxOf]
 .rw[Lg,Li oq,LA]at q;have:=List.not_of_lt_findIdx (p:=λx=>x==v) (xs:=l) (i:=i) hi;simp[q]at this
def nuL(l:List Int)(v:Int)(i:Nat):Tg:=⟨tm 20 [(0,Z01 l),(1,u64 v),(4,int 0),(5,int i)],[],4⟩
section
variable (l:List Int) (v:Int) (hl:l.length<=1048576)
include hl
theorem ZhB(i:Nat)(hi:i<l.length)(e:l.getD i M≠v):CP (rndF f67 0) (nuL l v i).st .nrm (nuL l v (i+1)).st:=by
 exact sF [] [] (FN 8 9 14 wdv l i (Ffb 17 (l.getD i M==v) (Fx 11 i Fz)))
theorem Zn4(i:Nat)(hi:i<l.length)(e:l.getD i M=v):CP (rndF f67 0) (nuL l v i).st .ret (Tg.st ⟨tm 20 [(4,int ((i:Int)+1))],[],60⟩):=by
 exact sF [] [] (FN 8 9 14 wdv l i (Ftb 17 (l.getD i M==v) (Fx 19 i Fz)))
omit hl in
theorem Zp3:CP (rndF f67 0) (nuL l v l.length).st (.ext 0) (Tg.st ⟨tm 20 [(4,int 0)],[],60⟩):=by
 exact sF [] [] (FO 8 9 wdv l Fz)
def ZoI(h:v∉l)  := Z08 (S:=λi=>(nuL l v i).st) l.length (by kernel_rfl) (λi hi=>ZhB l v hl i hi λq=>h (getD_mem_iff.2 ⟨i,hi,q⟩)) (Zp3 l v)
theorem Zmk(h:v∈l):CP (blkF f67 0) (Tg.st ⟨tm 20 [(0,Z01 l),(1,u64 v),(4,int 0),(5,int 0)],[],4⟩) .ret (Tg.st ⟨tm 20 [(4,int ((l.idxOf v:Int)+1))],[],60⟩):=by
 obtain⟨h1,h2,h3⟩:=Zng h;exact Z0r (S:=λi=>(nuL l v i).st) (l.idxOf v) kr (λi hi=>ZhB l v hl i oq (h3 i hi)) (Zn4 l v hl _ h1 h2)
theorem Z9n:GP 67 [Z01 l,u64 v] La (int (numB l v)) []:=by
 unfold numB;by_cases h:v∈l
 .rw[if_pos h];exact gF [] func67 [] (Fu (@Zmk l v aa aa) Fz)
 .rw[if_neg h];exact gF [] func67 [] (Fu (@ZoI l v aa aa) Fz)
end
def numL(l fs ps:List Int):Nat->List Int
 | 0=>fs
 | j+1=>(numL l fs ps j).set (ps.getD j M).toNat (numB l (fs.getD (ps.getD j M).toNat M))
def Zbe(l fs ps:List Int):∀ j,(numL l fs ps j).length=fs.length
 | 0=>rfl
 | j+1=>by rw[numL,Ls,Zbe l fs ps j]
def ZfD(l fs ps:List Int)(i:Nat):∀ j,(∀ m,m<j->(ps.getD m M).toNat≠i)->(numL l fs ps j).getD i M=fs.getD i M
 | 0,_=>rfl
 | j+1,h=>by
  rw[numL];simp only[Lg];rw[List.getElem?_set_ne (by simpa[Lg]using h j oq)];have:=ZfD l fs ps i j (λm hm=>h m oq);simpa only[Lg]using this
structure NodeG where
 hd:Header
 fs:List Int
instance:Inhabited NodeG:=⟨⟨default,[]⟩⟩
def NodeG.dv(n:NodeG):List DV:=[dint n.hd.K,dint n.hd.length,.sc (.int .u32 n.hd.map),.sl 1 (n.fs.map wdv)]
def NodeG.cells(n:NodeG):List AV:=[int n.hd.K,int n.hd.length,u32 n.hd.map,Z01 n.fs]
def Z9O(hd:Header):∀ n:Nat,(Z0F hd n).Nodup
 | 0=>Lz
 | n+1=>by
  have ih:=Z9O hd n;unfold Z0F;split
  .rw[Xf];refine⟨ih,by simp,λa ha b hb=>?_⟩;have:=(Z2j hd n a ha).2;rw[LW]at hb;omega
  .exact ih
def Zk2{l:List Int}{i:Nat}{x:Int}(hi:i<l.length)(h:l.getD i M=x):l.set i x=l:=by
 rw[<- h,Lg,Li hi,LA];exact List.set_getElem_self hi
def fldG(h:Heap)(a:Int):List Int:=(Z1d h.W (a+1) (atH h a).1.length).1
def Z0X(h:Heap)(l:List Int)(a:Int):NodeG:=⟨(atH h a).1,numL l (fldG h a) (Z02 (atH h a).1) (Z02 (atH h a).1).length⟩
def Zgm(ws:List Int)(a n:Int)(hw:ws.length<=1048576)(h0:4096<=a/\0<=n/\n<=1000/\a-4096+n<=ws.length):GP 117 [Z01 ws,u64 a,int n] La (.tu [.ow 0,int 0]) [.arr 35 1 (((ws.drop (a-4096).toNat).take n.toNat).map wdv)]:=by
 have ei1:(Z07 ws a n).1=a-4096:=by rw[Z07,if_pos oq]
 have e2:(Z07 ws a n).2=La:=by rw[Z07,if_pos oq];simp;omega
 exact gF [41027] func117 [Lc,La] (Fh 26 [.els (Lb wdv (Lh (((Z07 ws a n).1+n).toNat-(Z07 ws a n).1.toNat) (Lp (Z07 ws a n).1.toNat ws)))] (Ffb 11 (Le (n<0)) (Fc 16 (@Z6z ws a n aa oq) (Ffb 20 (!(Z07 ws a n).2) (Fi 25 ((Z07 ws a n).1+n) (Fa (by(simp only[Lm];omega):0<=(Z07 ws a n).1/\(Z07 ws a n).1<=(Z07 ws a n).1+n/\(Z07 ws a n).1+n<=(↑(Lb wdv ws).length:Int)) (Fa (by simp[e2,Lq,Lt,Lu,Ln,wdv,idv]:Lh (((Z07 ws a n).1+n).toNat-(Z07 ws a n).1.toNat) (Lp (Z07 ws a n).1.toNat (Lb wdv ws))=Lb wdv (Lh (((Z07 ws a n).1+n).toNat-(Z07 ws a n).1.toNat) (Lp (Z07 ws a n).1.toNat ws))) (Fc 27 (@ZdB (Lh (((Z07 ws a n).1+n).toNat-(Z07 ws a n).1.toNat) (Lp (Z07 ws a n).1.toNat ws)) (by(simp[e2, *];omega))) (Fa (by exact Z2N _:Z15 (Lb wdv (Lh (((Z07 ws a n).1+n).toNat-(Z07 ws a n).1.toNat) (Lp (Z07 ws a n).1.toNat ws)))) (Fr (35:Int) (Fa (by refine congrArg _ ?_;(simp[e2, *];omega):Lb wdv (Lh (((Z07 ws a n).1+n).toNat-(Z07 ws a n).1.toNat) (Lp (Z07 ws a n).1.toNat ws))=Lb wdv (Lh n.toNat (Lp (a-4096).toNat ws))) Fz)))))))))))
def Z2R{h:Heap}{a:Int}(hp:Z03 h=La)(ha:a∈(Z04 h).1):4096<=a/\a<=8192/\0<=(atH h a).1.length/\(atH h a).1.length<=255/\a+(atH h a).1.length<4096+h.W.length/\(atH h a).2=0/\((fldG h a).length:Int)=(atH h a).1.length/\fldG h a=(h.W.drop (a+1-4096).toNat).take (atH h a).1.length.toNat /\
  (Z02 (atH h a).1).Nodup/\(∀ p∈Z02 (atH h a).1,0<=p/\p<(atH h a).1.length/\(fldG h a).getD p.toNat M∈Z0n h a):=by
 have ox:=Z0T h a ha;obtain⟨g1,g2,g3⟩:=Z4D hp ha;have ir:=ZeT g2;have v:=Z39 g1;have e0:getH h a=atH h a:=v.1;rw[e0]at v;have fe:fldG h a=(h.W.drop (a+1-4096).toNat).take (atH h a).1.length.toNat:=by rw[fldG,Z1d,if_neg oq,if_pos oq]
 have fl:((fldG h a).length:Int)=(atH h a).1.length:=by rw[fe,Ly,Xc];omega
 refine⟨ir.1,ox.2,by omega,by omega,ir.2,g2,fl,fe, ?_,λp hp=>?_⟩
 .unfold Z02;split
  .exact Z9O _ _
  .exact Lz
 .have pr:0<=p/\p<(atH h a).1.length:=by
   have:=hp;unfold Z02 at this;split at this
   .have:=Z2j _ _ _ this;omega
   .simp at this
  refine⟨pr.1,pr.2,Lv.2 ⟨p,hp, ?_⟩⟩;rw[fe,loadA,if_pos oq];simp only[Lg,Xa,LF];rw[if_pos oq,show(a+1-4096).toNat+p.toNat=(a+1+p-4096).toNat by omega];rfl
def ZkF(h:Heap)(a:Int)(hp:Z03 h=La)(ha:a∈(Z04 h).1):GP 117 [Z01 h.W,u64 (a+1),int (atH h a).1.length] La (.tu [.ow 0,int 0]) [.arr 35 1 ((fldG h a).map wdv)]:=by
 have f:=Z2R hp ha;have po:=Z0c hp;have:=Zgm h.W (a+1) (atH h a).1.length oq oq;rw[f.2.2.2.2.2.2.2.1];exact this
def noL(h:Heap)(all l:List Int)(a:Int)(j:Nat):Tg:=⟨tm 67 [(0,.pt 0 0 0),(6,.pt 16006 0 0),(7,int 0),(8,.pt 24008 0 0),(10,.ow 41030),(38,.d (.sl 1 ((Z02 (atH h a).1).map idv))),(39,int (Z02 (atH h a).1).length),(40,int j)],[(41030,.arr 35 1 ((numL l (fldG h a) (Z02 (atH h a).1) j).map wdv)),(24008,.box 52 [int (atH h a).1.K,int (atH h a).1.length,u32 (atH h a).1.map]),(16006,.box 54 [int 0,int 0,u32 0,.d (.sl 0 [])]),(0,.box 105 [Z01 all,.pt 1 0 99999,.ow 2]),(1,.mp l),(2,.arr 35 1 (l.map wdv))],8⟩
section
variable (h:Heap) (all l:List Int) (a:Int) (hp:Z03 h=La) (ha:a∈(Z04 h).1) (cl:∀ v∈Z0n h a,v=0\/v∈l) (hl:l.length<=16384) (n0:(0:Int)∉l)
include hp ha cl hl n0
theorem ZmU(j:Nat)(hj:j<(Z02 (atH h a).1).length):CP (rndF f60 0) (noL h all l a j).st .nrm (noL h all l a (j+1)).st:=by
 have pl:=(Z1s (atH h a).1).1;obtain⟨f1,f2,f3,f4,f5,f6,f7,f8,f9,f10⟩:=Z2R hp ha;have pm:=getD_mem_iff.2 ⟨j,hj,rfl⟩;obtain⟨p1,p2,p3⟩:=f10 _ pm;have nl:=Zbe l (fldG h a) (Z02 (atH h a).1) j;have ng:=ZfD l (fldG h a) (Z02 (atH h a).1) ((Z02 (atH h a).1).getD j M).toNat j (λm hm q=>by
  have d:=(LY.1 f9) m j oq hj hm;obtain⟨m1,m2,_⟩:=f10 _ (getD_mem_iff.2 ⟨m,by omega,rfl⟩);have e1:(Z02 (atH h a).1).getD m M=(Z02 (atH h a).1)[m]:=by rw[Lg,Li oq];rfl
  have e2:(Z02 (atH h a).1).getD j M=(Z02 (atH h a).1)[j]:=by rw[Lg,Li hj];rfl
  omega)
 have nr:=Z6D l ((fldG h a).getD ((Z02 (atH h a).1).getD j M).toNat M);have cv:=cl _ p3;by_cases c:(fldG h a).getD ((Z02 (atH h a).1).getD j M).toNat M=0
 .have e7:numL l (fldG h a) (Z02 (atH h a).1) (j+1)=numL l (fldG h a) (Z02 (atH h a).1) j:=by
   rw[numL,c,numB,if_neg n0];rw[c]at ng;exact Zk2 oq ng
  rw[<- ng]at c;unfold noL;rw[e7];exact sF [] [] (Ftb 41 (Le ((j:Int)<(↑(Z02 (atH h a).1).length:Int))) (Fek 42 idv (Z02 (atH h a).1) (↑j) j (Fmq 47 wdv (numL l (fldG h a) (Z02 (atH h a).1) j) ((Z02 (atH h a).1).getD j M) (Ffb 48 ((numL l (fldG h a) (Z02 (atH h a).1) j).getD ((Z02 (atH h a).1).getD j M).toNat M != 0) (Fx 63 j Fz)))))
 .have cv:=cv.resolve_left c;have e7:numL l (fldG h a) (Z02 (atH h a).1) (j+1)=(numL l (fldG h a) (Z02 (atH h a).1) j).set ((Z02 (atH h a).1).getD j M).toNat (mpV l ((numL l (fldG h a) (Z02 (atH h a).1) j).getD ((Z02 (atH h a).1).getD j M).toNat M)+1):=by
   rw[numL,ng,numB,if_pos cv,mpV,if_pos cv]
  have vr:0<=mpV l ((numL l (fldG h a) (Z02 (atH h a).1) j).getD ((Z02 (atH h a).1).getD j M).toNat M)/\mpV l ((numL l (fldG h a) (Z02 (atH h a).1) j).getD ((Z02 (atH h a).1).getD j M).toNat M)+1<=16384:=by
   rw[ng,mpV,if_pos cv];rw[numB,if_pos cv]at nr;omega
  rw[<- ng]at c cv;unfold noL;rw[e7];exact sF [] [] (Fh 10062 [.els (Lb wdv ((numL l (fldG h a) (Z02 (atH h a).1) j).set ((Z02 (atH h a).1).getD j M).toNat (mpV l ((numL l (fldG h a) (Z02 (atH h a).1) j).getD ((Z02 (atH h a).1).getD j M).toNat M)+1)))] (Ftb 41 (Le ((j:Int)<(↑(Z02 (atH h a).1).length:Int))) (Fek 42 idv (Z02 (atH h a).1) (↑j) j (Fmq 47 wdv (numL l (fldG h a) (Z02 (atH h a).1) j) ((Z02 (atH h a).1).getD j M) (Ftb 48 ((numL l (fldG h a) (Z02 (atH h a).1) j).getD ((Z02 (atH h a).1).getD j M).toNat M != 0) (Fmq 58 wdv (numL l (fldG h a) (Z02 (atH h a).1) j) ((Z02 (atH h a).1).getD j M) (Fi 60 (mpV l ((numL l (fldG h a) (Z02 (atH h a).1) j).getD ((Z02 (atH h a).1).getD j M).toNat M)+1) (Fv 61 (mpV l ((numL l (fldG h a) (Z02 (atH h a).1) j).getD ((Z02 (atH h a).1).getD j M).toNat M)+1) (Fa (by(simp only[Lm];omega):0<=(Z02 (atH h a).1).getD j M/\((Z02 (atH h a).1).getD j M).toNat<(Lb wdv (numL l (fldG h a) (Z02 (atH h a).1) j)).length) (Fa (by(simp only[Lm];omega):((Z02 (atH h a).1).getD j M).toNat<(Lb wdv (numL l (fldG h a) (Z02 (atH h a).1) j)).length) (Fa (ms:(Lb wdv (numL l (fldG h a) (Z02 (atH h a).1) j)).set ((Z02 (atH h a).1).getD j M).toNat [du64 (mpV l ((numL l (fldG h a) (Z02 (atH h a).1) j).getD ((Z02 (atH h a).1).getD j M).toNat M)+1)]=Lb wdv ((numL l (fldG h a) (Z02 (atH h a).1) j).set ((Z02 (atH h a).1).getD j M).toNat (mpV l ((numL l (fldG h a) (Z02 (atH h a).1) j).getD ((Z02 (atH h a).1).getD j M).toNat M)+1))) (Fx 63 j Fz))))))))))))
omit hp ha cl hl n0 in
theorem Zp5:CP (rndF f60 0) (noL h all l a (Z02 (atH h a).1).length).st (.ext 0) (Tg.st ⟨tm 67 [(6,.pt 16006 0 0),(7,int 0),(8,.pt 24008 0 0),(10,.ow 41030)],[(41030,.arr 35 1 ((Z0X h l a).fs.map wdv)),(24008,.box 52 [int (atH h a).1.K,int (atH h a).1.length,u32 (atH h a).1.map]),(16006,.box 54 [int 0,int 0,u32 0,.d (.sl 0 [])]),(0,.box 105 [Z01 all,.pt 1 0 99999,.ow 2]),(1,.mp l),(2,.arr 35 1 (l.map wdv))],8⟩):=by
 unfold noL Z0X;exact sF [] [] (Ffb 41 (Le ((↑(Z02 (atH h a).1).length:Int)<(↑(Z02 (atH h a).1).length:Int))) Fz)
def ZnS  := Z08 (S:=λj=>(noL h all l a j).st) (Z02 (atH h a).1).length (by kernel_rfl) (λj hj=>ZmU h all l a hp ha cl hl n0 j hj) (Zp5 h all l a)
theorem Zoq(hw:WOk h.W):BP 60 [.pt 0 0 0,h.av,u64 a] (seaP all l) (.tu [.ag [int (atH h a).1.K,int (atH h a).1.length,u32 (atH h a).1.map,Z01 (Z0X h l a).fs],int 0]) (seaP all l):=by
 obtain⟨f1,f2,f3,f4,f5,f6,f7,f8,f9,f10⟩:=Z2R hp ha;have gm:=Z2C hw a;have po:=Z0c hp;exact borF [0,1,2] [] func60 [] (Fc 16 (@Z5N h a aa oq) (Ffb 20 ((atH h a).2 != 0) (Fv 27 (a+1) (Fc 30 (@ZkF h a aa aa) (Fc 38 (@Z3B ((atH h a).1) aa) (Fl 39 idv (Z02 (atH h a).1) (Fu (@ZnS h all l a aa aa aa aa aa) Fz)))))))
end
def Z0U(l:List Int)(r:Int):Int:=numB l r-1
structure GraphG where
 roots:List Int
 nodes:List NodeG
def ZlS(h:Heap)(l roots:List Int):GraphG:=⟨roots.map (Z0U l),l.map (Z0X h l)⟩
def ofF(h:Heap)(roots:List Int):GraphG×Int:=if(Z09 h roots).2=0 then(ZlS h (Z09 h roots).1 roots,0)else(⟨[],[]⟩,(Z09 h roots).2)
def Z7c{α β:Type}[Inhabited α](f:α->β){l:List α}{i:Nat}(hi:i<l.length):(l.take (i+1)).map f=(l.take i).map f++[f (l.getD i M)]:=by
 rw[List.take_succ,Ln,Li hi,Lg,Li hi];rfl
def ogB(h:Heap)(l rs:List Int)(ns:List NodeG):List (Nat×Blk):=[(32008,.box 42 [.ow 33008,.ow 34008]),(34008,.arr 54 4 (ns.map NodeG.dv)),(33008,.arr 3 1 (rs.map idv)),(19020,.arr 35 1 (l.map wdv)),(18020,.mp l),(17020,.box 105 [Z01 (Z04 h).1,.pt 18020 0 99999,.ow 19020]),(8004,.box 42 [.ow 9004,.ow 10004]),(10004,.arr 54 4 []),(9004,.arr 3 1 []),(8002,.box 28 [int h.C.pw,int h.C.pg,.d (.sl 1 (h.W.map wdv)),.d (.sl 4 (h.P.map Page.dv)),int h.S,int h.B])]
def ogL(h:Heap)(l roots:List Int)(i:Nat):Tg:=⟨tm 79 [(2,.pt 8002 0 0),(4,.pt 8004 0 0),(5,int 0),(6,.pt 17020 0 0),(8,.pt 32008 0 0),(27,Z01 roots),(28,int roots.length),(29,int i)],ogB h l ((roots.take i).map (Z0U l)) [],6⟩
def onL(h:Heap)(l roots:List Int)(k:Nat):Tg:=⟨tm 79 [(2,.pt 8002 0 0),(4,.pt 8004 0 0),(5,int 0),(6,.pt 17020 0 0),(8,.pt 32008 0 0),(54,.ow 19020),(55,int l.length),(56,int k)],ogB h l (roots.map (Z0U l)) ((l.take k).map (Z0X h l)),8⟩
section
variable (h:Heap) (l roots:List Int) (O:OrdL h roots l) (hw:WOk h.W) (hl:roots.length<=1000)
include O hw hl
omit hw in
theorem Zna(i:Nat)(hi:i<roots.length):CP (rndF f20 0) (ogL h l roots i).st .nrm (ogL h l roots (i+1)).st:=by
 have ll:=O.len;have e0:(roots.take i).length=i:=by rw[Ly];omega
 have e7:=Z7c (Z0U l) hi;by_cases c:roots.getD i M∈l
 .have e8:Z0U l (roots.getD i M)=mpV l (roots.getD i M):=by rw[Z0U,numB,if_pos c,mpV,if_pos c];omega
  unfold ogL ogB;rw[e7,e8];have Q0 {h_ c_ p_} (r_:Fq h_ c_ p_):=Ftb 30 (Le ((i:Int)<(roots.length:Int))) (Fek 31 wdv roots (↑i) i r_);rcases bb (!mpC l (roots.getD i M))with hc0 | hc0<;>have hc0p:=hc0<;>simp only[bs]at hc0p
  .exact sF [(88048,33008)] (fO 10) (Fh 48 [.els (Lb idv (Lb (Z0U l) (Lh i roots)++[(-1:Int)]))] (Q0 (Ft 43 hc0 (Fs 47 (Lb idv [(-1:Int)]) (Fa (by(simp[mpC, *];omega):(Lb idv (Lb (Z0U l) (Lh i roots))).length+(Lb idv [(-1:Int)]).length<=2^30) (Fa (by simp[mpC,Lq,Lt,Lu,Ln,wdv,idv]:Lb idv (Lb (Z0U l) (Lh i roots))++Lb idv [(-1:Int)]=Lb idv (Lb (Z0U l) (Lh i roots)++[(-1:Int)])) (Fx 50 i (Fr (3:Int) (Fa (by refine congrArg _ ?_;grind[mpC]:Lb idv (Lb (Z0U l) (Lh i roots)++[(-1:Int)])=Lb idv (Lb (Z0U l) (Lh i roots)++[mpV l (roots.getD i M)])) Fz)))))))))
  .exact sF [(80048,33008)] [] (Fh 48 [.els (Lb idv (Lb (Z0U l) (Lh i roots)++[mpV l (roots.getD i M)]))] (Q0 (Ff 43 hc0 (Fs 47 (Lb idv [mpV l (roots.getD i M)]) (Fa (by(simp[mpC, *];omega):(Lb idv (Lb (Z0U l) (Lh i roots))).length+(Lb idv [mpV l (roots.getD i M)]).length<=2^30) (Fa (by simp[mpC,Lq,Lt,Lu,Ln,wdv,idv]:Lb idv (Lb (Z0U l) (Lh i roots))++Lb idv [mpV l (roots.getD i M)]=Lb idv (Lb (Z0U l) (Lh i roots)++[mpV l (roots.getD i M)])) (Fx 50 i Fz)))))))
 .have e8:Z0U l (roots.getD i M)=-1:=by rw[Z0U,numB,if_neg c];rfl
  unfold ogL ogB;rw[e7,e8];have Q1 {h_ c_ p_} (r_:Fq h_ c_ p_):=Ftb 30 (Le ((i:Int)<(roots.length:Int))) (Fek 31 wdv roots (↑i) i r_);rcases bb (!mpC l (roots.getD i M))with hc0 | hc0<;>have hc0p:=hc0<;>simp only[bs]at hc0p
  .exact sF [(88048,33008)] [] (Fh 48 [.els (Lb idv (Lb (Z0U l) (Lh i roots)++[(-1:Int)]))] (Q1 (Ft 43 hc0 (Fs 47 (Lb idv [(-1:Int)]) (Fa (by(simp[mpC, *];omega):(Lb idv (Lb (Z0U l) (Lh i roots))).length+(Lb idv [(-1:Int)]).length<=2^30) (Fa (by simp[mpC,Lq,Lt,Lu,Ln,wdv,idv]:Lb idv (Lb (Z0U l) (Lh i roots))++Lb idv [(-1:Int)]=Lb idv (Lb (Z0U l) (Lh i roots)++[(-1:Int)])) (Fx 50 i Fz)))))))
  .exact sF [(80048,33008)] (fO 10) (Fh 48 [.els (Lb idv (Lb (Z0U l) (Lh i roots)++[mpV l (roots.getD i M)]))] (Q1 (Ff 43 hc0 (Fs 47 (Lb idv [mpV l (roots.getD i M)]) (Fa (by(simp[mpC, *];omega):(Lb idv (Lb (Z0U l) (Lh i roots))).length+(Lb idv [mpV l (roots.getD i M)]).length<=2^30) (Fa (by simp[mpC,Lq,Lt,Lu,Ln,wdv,idv]:Lb idv (Lb (Z0U l) (Lh i roots))++Lb idv [mpV l (roots.getD i M)]=Lb idv (Lb (Z0U l) (Lh i roots)++[mpV l (roots.getD i M)])) (Fx 50 i (Fr (3:Int) (Fa (by refine congrArg _ ?_;grind[mpC]:Lb idv (Lb (Z0U l) (Lh i roots)++[mpV l (roots.getD i M)])=Lb idv (Lb (Z0U l) (Lh i roots)++[(-1:Int)])) Fz)))))))))
omit O hw hl in
theorem Zp8:CP (rndF f20 0) (ogL h l roots roots.length).st (.ext 0) (Tg.st ⟨tm 79 [(2,.pt 8002 0 0),(4,.pt 8004 0 0),(5,int 0),(6,.pt 17020 0 0),(8,.pt 32008 0 0)],ogB h l (roots.map (Z0U l)) [],6⟩):=by
 have e:roots.take roots.length=roots:=Xg;unfold ogL ogB;rw[e];exact sF [] [] (Ffb 30 (Le ((roots.length:Int)<(roots.length:Int))) Fz)
theorem ZoB:CP (blkF f20 0) (Tg.st ⟨tm 79 [(2,.pt 8002 0 0),(4,.pt 8004 0 0),(5,int 0),(6,.pt 17020 0 0),(8,.pt 32008 0 0),(27,Z01 roots),(28,int roots.length),(29,int 0)],[(32008,.box 42 [.ow 33008,.ow 34008]),(34008,.arr 54 4 []),(33008,.arr 3 1 []),(19020,.arr 35 1 (l.map wdv)),(18020,.mp l),(17020,.box 105 [Z01 (Z04 h).1,.pt 18020 0 99999,.ow 19020]),(8004,.box 42 [.ow 9004,.ow 10004]),(10004,.arr 54 4 []),(9004,.arr 3 1 []),(8002,.box 28 [int h.C.pw,int h.C.pg,.d (.sl 1 (h.W.map wdv)),.d (.sl 4 (h.P.map Page.dv)),int h.S,int h.B])],6⟩) .nrm (Tg.st ⟨tm 79 [(2,.pt 8002 0 0),(4,.pt 8004 0 0),(5,int 0),(6,.pt 17020 0 0),(8,.pt 32008 0 0)],ogB h l (roots.map (Z0U l)) [],6⟩) :=
 Z08 (S:=λi=>(ogL h l roots i).st) roots.length kr (λi hi=>Zna h l roots O hl i hi) (Zp8 h l roots)
theorem Zno(k:Nat)(hk:k<l.length):CP (rndF f20 2) (onL h l roots k).st .nrm (onL h l roots (k+1)).st:=by
 have ll:=O.len;have hp:=O.p;have n0:=O.n0;have am:=getD_mem_iff.2 ⟨k,hk,rfl⟩;have ha:=O.el _ am;have cl:=O.cl _ am;have ox:=Z0T h _ ha;have e0:(l.take k).length=k:=by rw[Ly];omega
 have e7:=Z7c (Z0X h l) hk;unfold onL ogB;rw[e7];let y0:=l.getD k M;exact sF [(96075,34008)] [] (Fh 75 [.els (Lb NodeG.dv (Lb (Z0X h l) (Lh k l)++[NodeG.mk (atH h y0).1 (Z0X h l y0).fs]))] (Ftb 57 (Le ((k:Int)<(l.length:Int))) (Fm 59 wdv l (↑k) k (Fbq 64 [17020,18020,19020] (@Zoq h ((Z04 h).1) l y0 aa aa aa aa aa aa) (Fs 74 (Lb NodeG.dv [NodeG.mk (atH h y0).1 (Z0X h l y0).fs]) (Fa (by(simp[*];omega):(Lb NodeG.dv (Lb (Z0X h l) (Lh k l))).length+(Lb NodeG.dv [NodeG.mk (atH h y0).1 (Z0X h l y0).fs]).length<=2^30) (Fa (ms:Lb NodeG.dv (Lb (Z0X h l) (Lh k l))++Lb NodeG.dv [NodeG.mk (atH h y0).1 (Z0X h l y0).fs]=Lb NodeG.dv (Lb (Z0X h l) (Lh k l)++[NodeG.mk (atH h y0).1 (Z0X h l y0).fs])) (Fx 77 k Fz))))))))
omit O hw hl in
theorem Zpb:CP (rndF f20 2) (onL h l roots l.length).st (.ext 2) (Tg.st ⟨tm 79 [(4,.pt 8004 0 0),(5,int 0),(8,.pt 32008 0 0)],ogB h l (roots.map (Z0U l)) (l.map (Z0X h l)),8⟩):=by
 have e:l.take l.length=l:=Xg;unfold onL ogB;rw[e];exact sF [] [] (Ffb 57 (Le ((l.length:Int)<(l.length:Int))) Fz)
def ZoD  := Z08 (S:=λk=>(onL h l roots k).st) l.length (by kernel_rfl) (λk hk=>Zno h l roots O hw hl k hk) (Zpb h l roots)
end
section
variable (h:Heap) (roots:List Int) (hw:WOk h.W) (hl:roots.length<=1000) (hr:ULe roots)
include hw hl hr
theorem ZgD(e:(Z09 h roots).2≠0):GP 20 [h.av,Z01 roots] Lc (.tu [.ag [Z0m [],.d (.sl 4 (([]:List NodeG).map NodeG.dv))],int (Z09 h roots).2]) []:=by
 exact gF [] func20 [] (Fh 4 [.gh 3 1,.int 0,.gh 54 4,.int 1] (Fbq 20 [] (@Z8e h roots aa aa aa aa) (Ftb 24 ((Z09 h roots).2 != 0) (Fnl (Fnl Fz)))))
theorem ZcC(e:(Z09 h roots).2=0):GP 20 [h.av,Z01 roots] Lc (.tu [.ag [Z0m (roots.map (Z0U (Z09 h roots).1)),.d (.sl 4 (((Z09 h roots).1.map (Z0X h (Z09 h roots).1)).map NodeG.dv))],int 0]) []:=by
 have ol:=Z8E h roots hw hl hr e;exact gF [] func20 [] (Fh 4 [.gh 3 1,.int 0,.gh 54 4,.int 1] (Fh 8 [.gh 3 1,.int 0,.gh 54 4,.int 1] (Fbr 20 [] (@Z9m h roots aa aa aa aa) (Fl 28 wdv roots (Fu (@ZoB h ((Z09 h roots).1) roots aa aa aa) (Fl 55 wdv (Z09 h roots).1 (Fu (@ZoD h ((Z09 h roots).1) roots aa aa aa) Fz)))))))
end
end Go.Proofs.YtgedmeaemofdkaaGreat
namespace Go.Sx
def frz1(b s:Nat)(els:List (List DV)):AV->AV
 | .ow k=>match Lo k b with | La=>.d (.sl s els) | Lc=>.ow k
 | .os k o n=>match Lo k b with | La=>.any | Lc=>.os k o n
 | .pt k i o=>match Lo k b with | La=>.any | Lc=>.pt k i o
 | x=>x
def frzB(b s:Nat)(els:List (List DV)):Blk->Blk
 | .box ty cells=>.box ty (cells.map (mapA (frz1 b s els)))
 | B=>B
def frzL(b s:Nat)(els:List (List DV)):List (Nat×Blk)->List (Nat×Blk)
 | []=>[]
 | (k,B)::l=>match Lo k b with
  | true=>frzL b s els l
  | false=>(k,frzB b s els B)::frzL b s els l
def frzT(b:Nat)(t:Tg):Option Tg:=match hOf t.hl b,Lw (b+1) (t.clk*8000)with
 | some (.arr _ s els),true=>Ld ⟨t.tmps.map (mapT (frz1 b s els)),frzL b s els t.hl,t.clk⟩
 | _,_=>Lf
def Ze8{b s:Nat}{els:List (List DV)}:∀ {l:List (Nat×Blk)} (k:Nat),hOf (frzL b s els l) k=if k=b then Lf else(hOf l k).map (frzB b s els)
 | [],k=>by simp[frzL,hOf]
 | (j,B)::l,k=>by
  have ih:=Ze8 (b:=b) (s:=s) (els:=els) (l:=l) k;simp only[frzL];cases hj:Lo j b with
  | true =>
   have e:=LM hj;simp only[ih,hOf];by_cases q:k=b
   .rw[if_pos q,if_pos q]
   .rw[if_neg q,if_neg q,if_neg oq]
  | false =>
   have e:=Nat.ne_of_beq_eq_false hj;simp only[hOf];by_cases q:k=j
   .rw[if_pos q,if_pos q,if_neg oq];rfl
   .rw[if_neg q,if_neg q,ih]
def Zia{b s:Nat}{els:List (List DV)}{B:Blk}(h:frzB b s els B≠.dead):B≠.dead:=by
 rintro rfl;exact h rfl
def Zon{b:Nat}{t t':Tg}(h:frzT b t=Ld t'){Ow:Own}{Im0:Nat->Prop}{w0:World}{x:Act}{w:World}(hS:Sys Ow Im0 w0 t.st.tmps t.st.H t.st.clk x w):Sys Ow Im0 w0 t'.st.tmps t'.st.H t'.st.clk x w:=by
 unfold frzT at h;split at h;rotate_left
 .cases h
 rename_i ty s els hb hclk;cases h;have hclk:=Lx hclk;obtain⟨ρ,Im,I,T⟩:=hS;obtain⟨β,hρ,hs,hn,hbig,hlen,hcell⟩:=I.blk b _ hb;let Im':Nat->Prop:=λg=>Im g\/β.g=Ld g;have hi:∀ g,Im g->Im' g:=λ_ h=>.inl h;have ow:∀ {k:Nat} {v:Value},Rel ρ w Im (.ow k) v->Rel ρ w Im' (frz1 b s els (.ow k)) v:=by
  intro k v hx;simp only[frz1];cases hk:Lo k b with
  | false=>cases hx with | ow h1 h2 h3 h4=>exact .ow h1 h2 h3 h4
  | true =>
   have e:=LM hk;subst e;cases hx with
   | ow h1 h2 h3 h4 =>
    rw[hρ]at h1;cases h1;refine .d ?_;by_cases he:els=[]
    .subst he;have:β.n=0:=by simpa using hn
     rw[this];exact .slNil _ _ _
    .have hpos:0<els.length:=List.length_pos_iff.2 he;rcases h4 with h4 | ⟨g,hg,rfl,_⟩
     .omega
     rcases hcell with⟨_,h5⟩ | ⟨g',cs,hg',hw,hsz,hc⟩
     .exact absurd h5 he
     rw[hg]at hg';cases hg';have key:∀ (i:Nat) (e:List DV) (o:Nat) (y:DV),els[i]? = Ld e->e[o]? = Ld y->∃ u,w.cell? ⟨g,0+(i*s+o),Lf⟩=Ld u/\RelD w Im y u:=by
      intro i e o y he hy;obtain⟨u,k1,k2⟩:=hc i e o y he hy;exact⟨u,by simp[World.cell?,hw,k1],k2⟩
     refine .sl s els ⟨g,0,Lf⟩ β.n _ (λi o=>(w.cell? ⟨g,0+(i*s+o),Lf⟩).getD undef) hn.symm h2 h3 hlen rfl (.inr hg) ?_ ?_
     .intro i e o y he hy;obtain⟨u,k1,_⟩:=key i e o y he hy;rw[k1];rfl
     .intro i e o y he hy;obtain⟨u,k1,k2⟩:=key i e o y he hy;rw[k1];exact k2.mono (Ext.refl _ _) hi
 have os:∀ {k o n:Nat} {v:Value},Rel ρ w Im (.os k o n) v->Rel ρ w Im' (frz1 b s els (.os k o n)) v:=by
  intro k o n v hx;simp only[frz1];split
  .exact .any _
  .cases hx with | os h1 h2 h3 h4 h5=>exact .os h1 h2 h3 h4 h5
 have pt:∀ {k i o:Nat} {v:Value},Rel ρ w Im (.pt k i o) v->Rel ρ w Im' (frz1 b s els (.pt k i o)) v:=by
  intro k i o v hx;simp only[frz1];split
  .exact .any _
  .obtain⟨g,s,n,h1,rfl⟩:=Z3A hx;exact .pt h1
 have rB:∀ {κ:Bi} {B:Blk},RelB ρ w Im κ B->RelB ρ w Im' κ (frzB b s els B):=by
  intro κ B hB;cases B with
  | box ty cells =>
   obtain⟨h0,h00,g,cs,h1,h2,h3,h3',h4⟩:=hB;refine⟨by simpa using h0,h00,g,cs,h1,h2,by simpa using h3,h3',λo x v hx hv=>?_⟩;simp only[LH,L2]at hx;obtain⟨y,hy,rfl⟩:=hx;exact Z53 hi (λ_ _ _ _ h=>pt h) (λ_ _ _ _ h=>os h) (λ_ _ h=>ow h) (h4 o y v hy hv)
  | arr ty s els=>exact RelB.arr_any (by rfl) hB hi
  | mp ks=>exact hB
  | dead=>trivial
 have hH:∀ k B,hOf (frzL b s els t.hl) k=Ld B->k≠b/\∃ B',hOf t.hl k=Ld B'/\B=frzB b s els B':=by
  intro k B hk;rw[Ze8]at hk;by_cases q:k=b
  .rw[if_pos q]at hk;cases hk
  .rw[if_neg q]at hk;obtain⟨B',h1,h2⟩:=L2.1 hk;exact⟨q,B',h1,h2.symm⟩
 have hlive:∀ k,live (hOf (frzL b s els t.hl)) k->k≠b/\live t.st.H k:=by
  rintro k ⟨B,h1,h2⟩;obtain⟨q,B',h3,rfl⟩:=hH k B h1;exact⟨q,B',h3,Zia h2⟩
 have lb:live t.st.H b:=⟨_,hb,by simp⟩
 refine⟨ρ,Im',⟨I.kept,λk k' β β' g l1 l2=>I.inj k k' β β' g (hlive k l1).2 (hlive k' l2).2,λk κ g l q q' hg=>?_,I.bnd,I.own,λg hg=>?_,λg hg=>?_,λk B q=>?_,λk hk q=>?_,I.one⟩,⟨by rw[T.size];simp[Tg.st],λi y v hy hv=>?_,T.defers⟩⟩
 .obtain⟨ne,l⟩:=hlive k l;rcases hg with hg | hg
  .exact I.notIm k κ g l q q' hg
  .exact ne (I.inj k b κ β g l lb q hρ q' hg)
 .rcases hg with hg | hg
  .exact I.imb g hg
  .exact I.bnd b β g hρ hg
 .rcases hg with hg | hg
  .exact I.im0 g hg
  .rcases I.own b β g hρ hg with⟨h,_⟩ | h
   .exact .inr (.inl h)
   .exact .inr (.inr h)
 .obtain⟨_,B',h3,rfl⟩:=hH k B q;obtain⟨κ,h4,h5⟩:=I.blk k B' h3;exact⟨κ,h4,rB h5⟩
 .rw[show({ tmps:=t.tmps.map (mapT (frz1 b s els)),hl:=frzL b s els t.hl,clk:=t.clk:Tg }.st.H k)=hOf (frzL b s els t.hl) k from rfl,Ze8]at q;have hk':t.clk*8000<=k:=hk;rw[if_neg oq]at q;exact I.fresh k hk (Option.map_eq_none_iff.1 q)
 .have hy':(t.tmps.map (mapT (frz1 b s els)))[i]? = Ld y:=hy;simp only[LH,L2]at hy';obtain⟨z,hz,rfl⟩:=hy';exact Z6k hi (λ_ _ _ _ h=>pt h) (λ_ _ _ _ h=>os h) (λ_ _ h=>ow h) (T.tmp i z v hz hv)
def CSpec.frz{P:Program}{c:Code}{s:St}{e:Ex}{t t':Tg}(b:Nat)(h:CSpec P c s e t.st)(hf:frzT b t=Ld t'):CSpec P c s e t'.st :=
 λOw Im0 w0 a w hS=>Code.wp_mono (λ_ _ _ ⟨h1,h2⟩=>⟨h1,Zon hf h2⟩) (h Ow Im0 w0 a w hS)
end Go.Sx
