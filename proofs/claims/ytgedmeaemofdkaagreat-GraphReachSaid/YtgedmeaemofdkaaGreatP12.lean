/-
 The statement GraphReach: part 12.
 Conditions: none.
-/
import Derived.Test.YtgedmeaemofdkaaGreatP11
set_option maxRecDepth 100000
set_option maxHeartbeats 2000000
set_option linter.all false
open Inhabited renaming default->M
open Bool renaming true->O,false->La,and_eq_true->Lx
open List renaming map->Lb,replicate->Lf,getD_eq_getElem?_getD->Lg,getElem?_eq_getElem->Li,length_map->Lj,range->Ll,length_set->Lo,getElem?_eq_some_iff->Ls,mem_map->Lt,mem_of_getElem?->Lu,mem_replicate->Lv,getElem?_drop->Lz,map_append->LA,map_set->LB,map_take->LC,mem_append->LD,mem_append_left->LF,mem_cons->LG,mem_or_eq_of_mem_set->LH,mem_range->LI,nodup_nil->LL,find?_range_eq_some->LW,getElem?_append->LY,getElem?_map->LZ,getElem_mem->L0,length->L1,length_take->L2,map_drop->L3,mem_of_mem_take->L4,mem_singleton->L5,pairwise_iff_getElem->L6
open Option renaming some->Lc,none->Le,getD_some->Xe,isSome_iff_exists->Xf,map_some->Xg
open Decidable renaming decide->Ld,not_not->Xh
open Nat renaming le_refl->Lh,ble->Lp,le_of_ble_eq_true->Lq,le_trans->Lw,zero_add->LM,add_mul->L7,beq->L8,eq_of_beq_eq_true->L9,lt_or_ge->Xa,mul_le_mul_right->Xb,one_mul->Xc,zero_le->Xd
open Or renaming inr->Lk,inl->Lm
open Int renaming mul_comm->Ln,add_mul->Ly,mul_nonneg->LQ,natCast_mul->LR,one_mul->LS,toNat->LU,toNat_of_nonneg->LV
open Array renaming size_setIfInBounds->Lr,getElem?_append->LN,replicate->LO
open Go.Proofs.Tryz
namespace Go.Proofs.YtgedmeaemofdkaaGreat
open Go.Sx Go.RowKit
def Zku{Ow:Sx.Own}{Im0:Nat->Prop}{w0:World}{ρ:Rho}{w:World}{Im:Nat->Prop}{H:Sx.Heap}{clk:Nat}{x:AV}{v:Value}{s:Nat}{els:List (List DV)}{β:Bi}(I:Sx.Inv Ow Im0 w0 ρ w Im H clk)(hx:Rel ρ w Im x v)(h:Z19 H x=Lc (s,els))
  (hblk:∀ a n c,v = .slice (Lc a) n c->n≠0->β.g=Lc a.block):RelD w (λg=>Im g\/β.g=Lc g) (.sl s els) v:=by
 obtain⟨p,c,rfl,hbg,hc,hl,hcell⟩:=Z1M I hx h;by_cases he:els=[]
 .subst he;exact .slNil _ _ _
 rcases hcell with hcell | ⟨q,rfl,hq,hcell⟩
 .exact absurd hcell he
 have hn:els.length≠0:=by simpa using he
 refine .sl s els q els.length c (λi o=>(w.cell? ⟨q.block,q.off+(i*s+o),Le⟩).getD undef) rfl hc hbg (hl he) hq (.inr (hblk q _ c rfl hn)) ?_ ?_
 .intro i e o y hi ho;obtain⟨u,k1,_⟩:=hcell i e o y hi ho;rw[k1];rfl
 .intro i e o y hi ho;obtain⟨u,k1,k2⟩:=hcell i e o y hi ho;rw[k1];exact k2.mono (Sx.Ext.refl _ _) (λg hg=>.inl hg)
def rho0(β:Bi):Rho:=λb=>if b=0 then Lc β else Le
def Z4R{β κ:Bi}{b:Nat}(h:rho0 β b=Lc κ):b=0/\κ=β:=by
 unfold rho0 at h;split at h
 .cases h;exact⟨aa,rfl⟩
 .cases h
def ZdO{β:Bi}{g:Nat}(h:OwA (ownR (rho0 β)) g):β.g=Lc g:=by
 obtain⟨b,κ,h1,h2⟩:=h;rw[(Z4R h1).2]at h2;exact h2
def ZlS(l:List Found)(hl:l.length<=1048576){w:World}{Im:Nat->Prop}{β:Bi}{v:Value}(hIm:∀ g,Im g->g<w.heap.size)(hB:RelB (rho0 β) w Im β (.arr 212 4 (l.map Found.dv)))(hg:∀ g,β.g=Lc g->g<w.heap.size/\¬ Im g)
  (hv:Rel (rho0 β) w Im (.ow 0) v):Calls prog 158 #[v,.func (.func 159) #[] #[]] w λe w'=>∃ u,∃ Im':Nat->Prop,e = .returned u/\Kept (λg=>β.g=Lc g) w w' /\
   (∀ g,Im' g->(Im g\/β.g=Lc g\/w.heap.size<=g)/\g<w'.heap.size)/\RelD w' Im' (.sl 4 ((l.filter Z2u).map Found.dv)) u:=by
 refine calls_of_wp func158 (c:=bdyF f158) kr ?_;have I0:Sx.Inv (ownR (rho0 β)) Im w (rho0 β) w Im (hOf [(0,.arr 212 4 (l.map Found.dv))]) 1:=by
  refine⟨Kept.refl _ _,λb b' κ κ' g _ _ q1 q2 _ _=>by rw[(Z4R q1).1,(Z4R q2).1],λb κ g _ q1 q2=>?_,λb κ g q1 q2=>?_,λb κ g q1 q2=>?_,hIm,λg h=>.inl h,λb B q=>?_,λb hb _=>?_,⟨Lh _,λ_ _ _ h=>h⟩⟩
  .rw[(Z4R q1).2]at q2;exact(hg g q2).2
  .rw[(Z4R q1).2]at q2;exact(hg g q2).1
  .exact .inr ⟨b,κ,q1,q2⟩
  .simp only[hOf]at q;split at q
   .rename_i hb;cases q;subst hb;exact⟨β,rfl,hB⟩
   .cases q
  .unfold rho0;rw[if_neg oq]
 have S:Sx.Sys (ownR (rho0 β)) Im w (tm 42 [(0,.ow 0),(1,.fn 159 [])]) (hOf [(0,.arr 212 4 (l.map Found.dv))]) 1 { tmps := #[v,.func (.func 159) #[] #[]]++LO (Tryz.f158.ntmps-(#[v,.func (.func 159) #[] #[]]:Array Value).size) undef,defers:=[] } w:=by
  refine⟨_,Im,I0,⟨by kernel_rfl,λk y u hy hu=>?_,rfl⟩⟩;rw[show tm 42 [(0,.ow 0),(1,.fn 159 [])]=[.ow 0,.fn 159 []]++Lf 40 .any from by kernel_rfl,LY]at hy;rw[LN]at hu;split at hy
  .rename_i hk;have hk3:k<2:=hk;rw[if_pos (show k<(#[v,.func (.func 159) #[] #[]]:Array Value).size from hk3)]at hu;rcases k with _ | _ | k
   .cases hy;cases hu;exact hv
   .cases hy;cases hu;exact .fn rfl (λi a v h=>by simp at h)
   .omega
  .have:=Lu hy;rw[(Lv.1 this).2];exact .any _
 have fin:∀ (x:AV) (els:List (List DV)) (L:List (List DV)) (clk:Nat) (a':Act) (w':World),Sx.Sys (ownR (rho0 β)) Im w (tm 42 [(4,x)]) (hOf [(0,.arr 212 4 els)]) clk a' w'->(tm 42 [(4,x)]).getD 4 .any=x->(x = .ow 0\/∃ o n,x = .os 0 o n)->Z19 (hOf [(0,.arr 212 4 els)]) x=Lc (4,L)->L=(l.filter Z2u).map Found.dv ->
   bodyPost prog f158 (λe w'=>∃ u,∃ Im':Nat->Prop,e = .returned u/\Kept (λg=>β.g=Lc g) w w'/\(∀ g,Im' g->(Im g\/β.g=Lc g\/w.heap.size<=g)/\g<w'.heap.size)/\RelD w' Im' (.sl 4 ((l.filter Z2u).map Found.dv)) u) .ret a' w':=by
  rintro x els L clk a' w' ⟨ρ,Im',I,T⟩ hx4 hx hc hL;refine bodyPost_ret (results_tmp rfl _ _ _) T.defers ?_;have hr:Rel ρ w' Im' x (a'.tmps.getD 4 undef):=by
   have:=Z1q T (.tmp 4);rw[show ev (tm 42 [(4,x)]) (.tmp 4)=(tm 42 [(4,x)]).getD 4 .any from rfl,hx4]at this;exact this
  generalize a'.tmps.getD 4 undef=u at hr;obtain⟨κ,k1,k2⟩:=I.blk 0 _ rfl;have hκ:∀ g,κ.g=Lc g->w.heap.size<=g\/β.g=Lc g:=λg h=>(I.own 0 κ g k1 h).imp (·.1) ZdO;refine⟨u,λg=>Im' g\/κ.g=Lc g,rfl,I.kept.imp λ_ q=>ZdO q,λg h=>?_, ?_⟩
  .rcases h with h | h
   .refine⟨?_,I.imb g h⟩;rcases I.im0 g h with q | q | q
    .exact .inl q
    .exact .inr (.inr q)
    .exact .inr (.inl (ZdO q))
   .refine⟨?_,I.bnd 0 κ g k1 h⟩;rcases hκ g h with q | q
    .exact .inr (.inr q)
    .exact .inr (.inl q)
  .rw[<- hL];refine Zku I hr hc λa n c hv hn=>?_;subst hv;rcases hx with rfl | ⟨o,m,rfl⟩
   .generalize hvv:Value.slice (Lc a) n c=vv at hr;cases hr with
    | ow h1 h2 h3 h4 =>
     injection hvv with e1 e2 e3;rw[k1]at h1;cases h1;rcases h4 with h4 | ⟨g,hg,e,_⟩
     .omega
     .rw[<- e1]at e;cases e;exact hg
   .generalize hvv:Value.slice (Lc a) n c=vv at hr;cases hr with
    | os h1 h2 h3 h4 h5 =>
     injection hvv with e1 e2 e3;rw[k1]at h1;cases h1;rcases h5 with h5 | ⟨g,hg,e,_⟩
     .omega
     .rw[<- e1]at e;cases e;exact hg
 by_cases h:Z0O l<l.length
 .refine wp_mono (Zmy l hl h _ _ _ _ _ S) ?_;rintro e a' w' ⟨rfl,S1⟩;obtain⟨d1,d2,d3⟩:=ZgK h;refine fin (.os 0 0 (delR l).2) _ _ _ a' w' S1 rfl (.inr ⟨_,_,rfl⟩) rfl ?_;have d5:(delR l).2<=(delR l).1.length:=by have:(delR l).1.length=l.length:=d2;have:(delR l).2<=l.length:=d3;omega
  rw[List.drop_zero,<- LC,List.take_append_of_le_length (by rw[L2];omega),List.take_take,Nat.min_self];exact congrArg _ d1
 .refine wp_mono (ZmO l hl h _ _ _ _ _ S) ?_;rintro e a' w' ⟨rfl,S1⟩;refine fin (.ow 0) _ _ _ a' w' S1 rfl (.inl rfl) rfl ?_;rw[ZhW h]
def Zcr{P:Program}{o:Oper}{a:Act}{w:World}{x:Operand}(ho:o.op = .assign x):(execOp a.eval o).run P w = .ok (.value (a.eval x)) w:=by
 simp[execOp,ho]
def Zn4{P:Program}{o:Oper}{a:Act}{w:World}{x:Operand}(ho:o.op = .move x):(execOp a.eval o).run P w = .ok (.value (a.eval x)) w:=by
 simp[execOp,ho]
def Zbs(h:Heap)(hw:WOk h.W)(e:(allW h).2=0):GP 107 [h.av] O (.tu [Z01 (((allW h).1.filter Z2u).map (·.addr)),int 0]) []:=by
 intro w00 Im vs hIm hsz hargs;rw[<- callsIn_wide (n:=10)];refine callsIn_of_wp func107 (c:=bdyF f107) kr trivial ?_ rfl;have hs1:vs.size=1:=hsz;have S0:Sx.Sys Z48 Im w00 (tm 17 [(0,h.av)]) (hOf []) 1 { tmps:=vs++LO (Tryz.f107.ntmps-vs.size) undef,defers:=[] } w00:=by
  refine⟨_,Im,Sx.Inv.empty hIm (Lh 1),⟨by rw[hs1];simp[hs1];kernel_rfl,λk y v hy hv=>?_,rfl⟩⟩;rw[show tm 17 [(0,h.av)]=[h.av]++Lf 16 .any from by kernel_rfl,LY]at hy;rw[LN]at hv;split at hy
  .rename_i hk;rw[if_pos (by rw[hsz];exact hk)]at hv;exact hargs k y v hy hv
  .have:=Lu hy;rw[(Lv.1 this).2];exact .any _
 generalize hR:(λe w'=>∃ v,e=Ending.returned v/\Zdh w00 Im O (AV.tu [Z01 (((allW h).1.filter Z2u).map (·.addr)),int 0]) [] v w')=R;generalize hQ:bodyPost prog f107 R=Q;refine Zmr h hw e 10 Q _ _ _ _ _ S0 ?_;rintro a1 w1 ⟨ρ1,Im1,I1,T1⟩;obtain⟨v4,t4,r4⟩:=T1.at (t:=4) (x:=.ow 17008) rfl;obtain⟨β,m,n⟩:=I1.blk 17008 _ rfl;have hz1:a1.tmps.size=17:=T1.size;have er:rest prog 10 4 (bdyF f107) Q a1 w1=(Code.region 4 (rgO f107 4) La).wpIn Fence.wide 10 prog (Exit.then (Code.ret.wpIn Fence.wide 10 prog Q) Q) a1 w1:=by kernel_rfl
 rw[er];refine wpIn_region ?_;rw[show Ll (rgO f107 4).size=[0,1,2,3,4]from by kernel_rfl];refine Z2s (o:=(rgO f107 4).getD 0 M) kr kr (Z2Q (ro:=Le) (by intro c h;cases h) (Z6e (Zn4 (x:=.tmp 4) kr) ?_));rw[show((rgO f107 4).getD 0 M).dst=Lc 14 from by kernel_rfl,Z5P t4];generalize ha2:a1.put (Lc 14) v4=a2;have t14:a2.tmps[14]? = Lc v4:=by rw[<- ha2];exact Z5G oq
 have hz2:a2.tmps.size=17:=by rw[<- ha2];show(a1.tmps.setIfInBounds 14 v4).size=17;rw[Lr];exact hz1
 have hd2:a2.defers=[]:=by rw[<- ha2];exact T1.defers
 have hcall:(execOp a2.eval ((rgO f107 4).getD 1 M)).run prog w1 = .ok (.enter 158 #[v4,.func (.func 159) #[] #[]]) w1:=by
  have hop:((rgO f107 4).getD 1 M).op = .call ⟨.value (.func 158),#[.tmp 14,.func 159],tsOf ((rgO f107 4).getD 1 M)⟩:=by kernel_rfl
  have:=Z1O (P:=prog) (f:=158) kr #[v4,.func (.func 159) #[] #[]] w1;have hev:∀ f,a2.eval (.func f) = .func (.func f) #[] #[]:=λf=>rfl;have hev2:=Z5P t14;generalize (rgO f107 4).getD 1 M=o at hop ⊢;simp[execOp,hop,resolve,hev,hev2,Deferred.ofValue,invoke,this]
 refine Z2s (o:=(rgO f107 4).getD 1 M) kr kr (Z2Q (ro:=Le) (by intro c h;cases h) ?_);unfold Oper.wp;rw[hcall,Oper.upon_enter];have al:=ZkC h;refine(ZlS (allW h).1 oq (w:=w1) (Im:=Im1) (β:=β) I1.imb (by
  obtain⟨b1,b2,b3,b4,b5⟩:=n;refine⟨b1,b2,b3,b4,b5⟩) (λg hg=>⟨I1.bnd _ _ g m hg,I1.notIm _ _ g ⟨_,rfl,by simp⟩ m hg⟩) (by
  cases r4 with
  | ow h1 h2 h3 h4=>rw[m]at h1;cases h1;exact .ow rfl h2 h3 h4)).mono ?_
 rintro e w2 ⟨u,Im2,rfl,K2,hIm2,hu⟩;rw[show((rgO f107 4).getD 1 M).dst=Lc 15 from by kernel_rfl];show wpOpsIn _ _ _ _ _ [2,3,4] (a2.put (Lc 15) u) w2;generalize ha3:a2.put (Lc 15) u=a3;have t15:a3.tmps[15]? = Lc u:=by rw[<- ha3];exact Z5G oq
 have hz3:a3.tmps.size=17:=by rw[<- ha3];show(a2.tmps.setIfInBounds 15 u).size=17;rw[Lr];exact hz2
 have hd3:a3.defers=[]:=by rw[<- ha3];exact hd2
 have hcall2:(execOp a3.eval ((rgO f107 4).getD 2 M)).run prog w2 = .ok (.enter 157 #[u]) w2:=by
  have hop:((rgO f107 4).getD 2 M).op = .call ⟨.value (.func 157),#[.tmp 15],tsOf ((rgO f107 4).getD 2 M)⟩:=by kernel_rfl
  have:=Z1O (P:=prog) (f:=157) kr #[u] w2;have hev:∀ f,a3.eval (.func f) = .func (.func f) #[] #[]:=λf=>rfl;have hev2:=Z5P t15;generalize (rgO f107 4).getD 2 M=o at hop ⊢;simp[execOp,hop,resolve,hev,hev2,Deferred.ofValue,invoke,this]
 refine Z2s (o:=(rgO f107 4).getD 2 M) kr kr (Z2Q (ro:=Le) (by intro c h;cases h) ?_);unfold Oper.wp;rw[hcall2,Oper.upon_enter];refine(Zbx ((allW h).1.filter Z2u) (by have:=List.length_filter_le Z2u (allW h).1;omega) w2 Im2 #[u] (λg hg=>(hIm2 g hg).2) rfl (λi x v hx hv=>by
  rcases i with _ | i
  .cases hx;cases hv;exact .d hu
  .simp at hx)).mono ?_
 rintro e w3 ⟨v2,rfl,K3,ρ3,Im3,h31,h32,_,_,h35,_,r2⟩;rw[show((rgO f107 4).getD 2 M).dst=Lc 16 from by kernel_rfl];show wpOpsIn _ _ _ _ _ [3,4] (a3.put (Lc 16) v2) w3;have r2':RelD w3 Im3 (.sl 1 ((((allW h).1.filter Z2u).map (·.addr)).map wdv)) v2:=by
  cases r2 with | d r=>exact r
 refine Z2s (o:=(rgO f107 4).getD 3 M) kr kr (Z2Q (ro:=Le) (by intro c h;cases h) (Z6e (Zcr (x:=.tmp 16) kr) ?_));refine Z2s (o:=(rgO f107 4).getD 4 M) kr kr (Z2Q (ro:=Le) (by intro c h;cases h) (Z6e (Zcr (x:=.const (.int .i64 0)) kr) ?_));rw[show((rgO f107 4).getD 3 M).dst=Lc 2 from by kernel_rfl,show((rgO f107 4).getD 4 M).dst=Lc 3 from by kernel_rfl,Z5P (a:=a3.put (Lc 16) v2) (Z5G oq)];have hs16:(a3.put (Lc 16) v2).tmps.size=17:=by show(a3.tmps.setIfInBounds 16 v2).size=17;rw[Lr];exact hz3
 generalize ha4:a3.put (Lc 16) v2=a4 at hs16 ⊢;have hd4:a4.defers=[]:=by rw[<- ha4];exact hd3
 have t2:(a4.put (Lc 2) v2).tmps[2]? = Lc v2:=Z5G oq;have hs2:(a4.put (Lc 2) v2).tmps.size=17:=by show(a4.tmps.setIfInBounds 2 v2).size=17;rw[Lr];exact hs16
 refine wpIn_ret ?_;show Q .ret _ w3;rw[<- hQ];refine bodyPost_ret (results_tmp2 rfl _ _ _) (show a4.defers=[]from hd4) ?_;rw[<- hR];have q2:=Z5P (Z74 (u:=.int .i64 0) t2 (show 3≠2 by decide));have q3:=Z5P (a:=(a4.put (Lc 2) v2).put (Lc 3) (.int .i64 0)) (Z5G (u:=.int .i64 0) oq);have s1:=I1.kept.size;have s2:=K2.size;refine⟨_,rfl,Z3s (Z3s I1.kept.no K2 (λg hg=>(I1.own _ _ g m hg).elim (·.1) (λh=>h.no.elim))) K3 (λ_ h=>h.elim),λ_=>Le,Im3,λg hg=>.inr ?_,h32,λ_ _ _ q=>(by cases q),λ_ _ _ _ _ q=>(by cases q),λ_ _ q=>(by cases q),λk B q=>by simp at q,.tu _ _ rfl λi x v hx hv=>?_⟩
 .rcases h31 g hg with q | q
  .cases q.1
  .omega
 rcases i with _ | _ | i
 .cases hx;cases hv;show Rel (λ_=>Le) w3 Im3 _ (((a4.put (Lc 2) v2).put (Lc 3) (.int .i64 0)).tmps.getD 2 undef);rw[show((a4.put (Lc 2) v2).put (Lc 3) (.int .i64 0)).tmps.getD 2 undef=v2 from q2];exact .d r2'
 .cases hx;cases hv;show Rel (λ_=>Le) w3 Im3 _ (((a4.put (Lc 2) v2).put (Lc 3) (.int .i64 0)).tmps.getD 3 undef);rw[show((a4.put (Lc 2) v2).put (Lc 3) (.int .i64 0)).tmps.getD 3 undef = .int .i64 0 from q3];exact .d (.sc _ rfl)
 .simp at hx
def ZmQ(h:Heap)(e:(allW h).2=0):Z04 h=(((allW h).1.filter Z2u).map (·.addr),0):=by
 have e1:=ZaM h;unfold Z04;rw[e1,e];simp only[Prod.mk.injEq,and_true];rw[List.filter_map];congr 1;refine List.filter_congr λx hx=>?_;have:=(Zh3 x hx).1;simp only[Function.comp,Z36,Z2u,this];by_cases hk:(atH h x.addr).1.K=0<;>simp[hk]
def ZkD(h:Heap)(e:¬ (allW h).2=0):Z04 h=([],(allW h).2):=by
 have e1:=ZaM h;have e8:(allW h).1=[]:=by
  unfold allW at e ⊢;split at e
  .rename_i hp;rw[if_pos hp];exact Zld h _ _ e
  .rename_i hp;rw[if_neg hp]
 unfold Z04;rw[e1,e8];rfl
def Z47(h:Heap)(hw:WOk h.W):GP 107 [h.av] O (.tu [Z01 (Z04 h).1,int (Z04 h).2]) []:=by
 by_cases e:(allW h).2=0
 .rw[ZmQ h e];exact Zbs h hw e
 .rw[ZkD h e];exact Z96 h hw e
end Go.Proofs.YtgedmeaemofdkaaGreat
namespace Go.Proofs.YtgedmeaemofdkaaGreat
open Go.Sx
def Zlv{h:Heap}{i o:Int}(e:(address h.C i o).2=0):adr h i o=4096+(i*h.C.pw+o)/\0<=i/\i<h.C.pg/\0<=o/\o<h.C.pw:=by
 unfold address at e;split at e
 .rename_i hv;split at e
  .rename_i hb;have hb':=hb;unfold inB at hb;simp at hb;refine⟨?_,by omega,by omega,by omega,by omega⟩;unfold adr address;rw[if_pos hv,if_pos hb']
  .simp at e
 .simp at e
def Z6Y{h:Heap}{i:Int}:∀ {f:Nat} {o:Int},∀ x∈(Z1E h i f o).1,4096+(i*h.C.pw+o)<=x.addr/\x.addr<4096+(i*h.C.pw+h.C.pw)
 | 0,o,x,hx=>by simp[Z1E]at hx
 | f+1,o,x,hx=>by
  unfold Z1E at hx;split at hx
  .split at hx
   .rename_i h1;have ha:=Zlv h1.1;rcases LG.1 hx with rfl | hx
    .simp only;omega
    .have:=Z6Y x hx;have:=Z1r (atH h (adr h i o)).1;omega
   .simp at hx
  .simp at hx
def Zcs{h:Heap}{i:Int}:∀ {f:Nat} {o:Int},((Z1E h i f o).1.map (·.addr)).Pairwise (· < ·)
 | 0,o=>by simp[Z1E]
 | f+1,o=>by
  unfold Z1E;split
  .split
   .rename_i h1;have ha:=Zlv h1.1;have hs:=Z88 h1.2;rw[List.map_cons,List.pairwise_cons];refine⟨λy hy=>?_,Zcs⟩;obtain⟨x,hx,rfl⟩:=Lt.1 hy;have:=(Z6Y x hx).1;simp only;omega
   .simp
  .simp
def Z7b{h:Heap}{i:Int}:∀ x∈(Z0C h i).1,4096+i*h.C.pw<=x.addr/\x.addr<4096+(i+1)*h.C.pw:=by
 intro x hx;have e:(i+1)*h.C.pw=i*h.C.pw+h.C.pw:=by rw[Ly,LS]
 unfold Z0C Z1S at hx;split at hx
 .split at hx
  .have:=Z6Y x hx;omega
  .simp at hx
 .simp at hx
def ZdA(h:Heap)(i:Int):((Z0C h i).1.map (·.addr)).Pairwise (· < ·):=by
 unfold Z0C Z1S;split
 .split
  .exact Zcs
  .simp
 .simp
def ZcS{h:Heap}(hw:0<=h.C.pw):∀ (f i:Nat),∀ x∈(allR h f i).1,4096+i*h.C.pw<=x.addr
 | 0,i,x,hx=>by simp[allR]at hx
 | f+1,i,x,hx=>by
  unfold allR at hx;split at hx
  .split at hx
   .rcases LD.1 hx with hx | hx
    .exact(Z7b x hx).1
    .have:=ZcS hw f (i+1) x hx;have e:((i+1:Nat):Int)*h.C.pw=i*h.C.pw+h.C.pw:=by push_cast;rw[Ly,LS]
     omega
   .simp at hx
  .simp at hx
def Zem{h:Heap}(hw:0<=h.C.pw):∀ (f i:Nat),((allR h f i).1.map (·.addr)).Pairwise (· < ·)
 | 0,i=>by simp[allR]
 | f+1,i=>by
  unfold allR;split
  .split
   .rw[LA,List.pairwise_append];refine⟨ZdA h i,Zem hw f (i+1),λa ha b hb=>?_⟩;obtain⟨x,hx,rfl⟩:=Lt.1 ha;obtain⟨y,hy,rfl⟩:=Lt.1 hb;have h1:=(Z7b x hx).2;have h2:=ZcS hw f (i+1) y hy;have e:((i+1:Nat):Int)*h.C.pw=((i:Int)+1)*h.C.pw:=by push_cast;rfl
    omega
   .simp
  .simp
def Zg7(h:Heap):(Z0P h).1.Pairwise (· < ·):=by
 rw[ZaM h];unfold allW;split
 .rename_i hp;exact Zem (by have:=Z07 hp;omega) _ _
 .simp
def Z49(h:Heap):(Z04 h).1.Pairwise (· < ·):=by
 unfold Z04;exact(Zg7 h).filter _
def posB(l:List Int)(v:Int):Nat:=(l.takeWhile (λx=>Ld (x<v))).length
def Zh8(l:List Int)(v:Int):posB l v<=l.length:=by
 unfold posB;exact(List.takeWhile_sublist _).length_le
def Zef{l:List Int}{v:Int}(hs:l.Pairwise (· < ·)){k:Nat}(hk:k<l.length):(l.getD k M<v↔k<posB l v):=by
 have e:l.getD k M=l[k]:=by rw[Lg,Li hk];rfl
 rw[e];constructor
 .intro h;by_cases hc:k<posB l v
  .exact hc
  .exfalso;have hp:posB l v<l.length:=by omega
   have h2:=Zfk (λx=>Ld (x<v)) l hp;have h3:¬ l[posB l v]<v:=by
    have:Ld (l[posB l v]<v)=La:=h2;simpa using this
   rcases Xa (posB l v) k with hlt | hge
   .have:=L6.1 hs (posB l v) k hp hk hlt;omega
   .have:posB l v=k:=by omega
    simp only[this]at h3;exact h3 h
 .intro h;obtain⟨h1,h2⟩:=Zk5 _ _ _ h;simpa using h2
def Zkz{l:List Int}{v:Int}(hs:l.Pairwise (· < ·)):(v∈l↔posB l v<l.length/\l.getD (posB l v) M=v):=by
 constructor
 .intro h;obtain⟨k,hk,e⟩:=List.getElem_of_mem h;have e2:l.getD k M=v:=by rw[Lg,Li hk,<- e];rfl
  have h1:¬ k<posB l v:=λq=>by have:=(Zef (v:=v) hs hk).2 q;omega
  have h2:k=posB l v:=by
   rcases Xa (posB l v) k with hlt | hge
   .have hp:posB l v<l.length:=by omega
    have h3:¬ l.getD (posB l v) M<v:=λq=>by have:=(Zef (v:=v) hs hp).1 q;omega
    have h4:=L6.1 hs (posB l v) k hp hk hlt;have e5:l.getD (posB l v) M=l[posB l v]:=by rw[Lg,Li hp];rfl
    omega
   .omega
  subst h2;exact⟨hk,e2⟩
 .rintro⟨h1,h2⟩;rw[<- h2,Lg,Li h1];exact L0 h1
def Z9O(x:Int):GP 174 [u64 x] O (bool La) []:=by
 exact gF [] func174 [O] (Fbs ((x != x)=La) Fz)
def Zls(x:Int):GP 208 [u64 x] O (bool La) []:=by
 exact gF [] func208 [O] (Fbs ((x != x)=La) Fz)
def ZgN(x y:Int):GP 173 [u64 x,u64 y] O (bool (Ld (x<y))) []:=by
 exact gF [] func173 [] (Fc 6 (@Zls x) (FcG 9 La (λhg=>by(try simp only[bs]at hg);exact @Zls y) Fz))
def bsL(l:List Int)(v:Int)(i j:Nat):Tg:=⟨tm 54 [(0,Z01 l),(1,u64 v),(4,int 0),(5,bool La),(6,int l.length),(7,int i),(8,int j)],[],60⟩
section
variable (l:List Int) (v:Int) (hl:l.length<=1048576) (i j:Nat) (hij:i<j) (hj:j<=l.length)
include hl hij hj
theorem Znq(hlt:l.getD ((i+j)/2) M<v):CP (rndF f127 0) (bsL l v i j).st .nrm (bsL l v ((i+j)/2+1) j).st:=by
 rcases bb (Ld (l.getD (((i:Int)+(j:Int))/2).toNat M<v))with hc0 | hc0<;>have hc0p:=hc0<;>simp only[bs]at hc0p
 .let y0:=(i:Int)+(j:Int);exact sF [] [] (Fh 27 [.call O (Sx.bool (Ld (l.getD (y0/2).toNat M<v))) [],.br O] (Ftb 15 (Ld ((i:Int)<(j:Int))) (Fi 18 y0 (Fv 19 y0 (Fg 20 (by exact Z5z rfl dd:y0.fdiv (2^min (LU 1) 64)=y0/2) (Fo ((0:Int)<=1) (Fi 21 (y0/2) (Fe 24 wdv l (y0/2) (Fa (@ZgN (l.getD (y0/2).toNat M) v) (Fa hc0 (Fi 29 (y0/(2:Int)+1) Fz)))))))))))
 .contradiction
theorem Zo5(hlt:¬ l.getD ((i+j)/2) M<v):CP (rndF f127 0) (bsL l v i j).st .nrm (bsL l v i ((i+j)/2)).st:=by
 rcases bb (Ld (l.getD (((i:Int)+(j:Int))/2).toNat M<v))with hc0 | hc0<;>have hc0p:=hc0<;>simp only[bs]at hc0p
 .contradiction
 .let y0:=(i:Int)+(j:Int);exact sF [] [] (Fh 27 [.call O (Sx.bool (Ld (l.getD (y0/2).toNat M<v))) [],.br La] (Ftb 15 (Ld ((i:Int)<(j:Int))) (Fi 18 y0 (Fv 19 y0 (Fg 20 (by exact Z5z rfl dd:y0.fdiv (2^min (LU 1) 64)=y0/2) (Fo ((0:Int)<=1) (Fi 21 (y0/2) (Fe 24 wdv l (y0/2) (Fa (@ZgN (l.getD (y0/2).toNat M) v) (Fa hc0 Fz))))))))))
end
def ZnE(l:List Int)(v:Int)(i:Nat):CP (rndF f127 0) (bsL l v i i).st (.ext 0) (Tg.st ⟨tm 54 [(0,Z01 l),(1,u64 v),(6,int l.length),(7,int i)],[],60⟩):=by
 exact sF [] [] (Ffb 15 (Ld ((i:Int)<(i:Int))) Fz)
def bsGo(l:List Int)(v:Int)(hl:l.length<=1048576)(hs:l.Pairwise (· < ·)):∀ (f i j:Nat),j<=i+f->i<=posB l v->posB l v<=j->j<=l.length ->
  LSpec prog f127 0 (bsL l v i j).st (.ext 0) (Tg.st ⟨tm 54 [(0,Z01 l),(1,u64 v),(6,int l.length),(7,int (posB l v))],[],60⟩):=by
 intro f;induction f with
 | zero =>
  intro i j h1 h2 h3 h4;obtain⟨rfl,rfl⟩:i=posB l v/\j=posB l v:=by omega
  exact .endx (ZnE l v _)
 | succ f ih =>
  intro i j h1 h2 h3 h4;by_cases hij:i<j
  .have hp:=Zef hs (v:=v) (k:=(i+j)/2) oq;by_cases hlt:l.getD ((i+j)/2) M<v
   .have:=hp.1 hlt;exact .next (Znq l v hl i j hij h4 hlt) (ih ((i+j)/2+1) j oq oq h3 h4)
   .have:¬ (i+j)/2<posB l v:=λq=>hlt (hp.2 q);exact .next (Zo5 l v hl i j hij h4 hlt) (ih i ((i+j)/2) oq h2 oq oq)
  .obtain⟨rfl,rfl⟩:i=posB l v/\j=posB l v:=by omega
   exact .endx (ZnE l v _)
def Zhl(l:List Int)(v:Int)(hl:l.length<=1048576)(hs:l.Pairwise (· < ·)):CP (blkF f127 0) (Tg.st ⟨tm 54 [(0,Z01 l),(1,u64 v),(4,int 0),(5,bool La),(6,int l.length),(7,int 0),(8,int l.length)],[],60⟩) .nrm
  (Tg.st ⟨tm 54 [(0,Z01 l),(1,u64 v),(6,int l.length),(7,int (posB l v))],[],60⟩) :=
 (bsGo l v hl hs l.length 0 l.length oq oq (Zh8 l v) (Lh _)).ext kr
def bsearch(l:List Int)(v:Int)(hl:l.length<=1048576)(hs:l.Pairwise (· < ·)):GP 127 [Z01 l,u64 v] O (.tu [int (posB l v),bool (Ld (v∈l))]) []:=by
 have hm:=Zkz (v:=v) hs;have hp:=Zh8 l v;by_cases h1:posB l v<l.length
 .by_cases h2:l.getD (posB l v) M=v
  .have e:Ld (v∈l)=O:=by simpa using hm.2 ⟨h1,h2⟩
   rw[e];exact gF [] func127 (fO 24) (Fl 11 wdv l (Fu (@Zhl l v aa aa) (FeG 38 (Ld ((↑(posB l v):Int)<(l.length:Int))) wdv l (↑(posB l v):Int) (posB l v) (FeG 45 (Ld ((↑(posB l v):Int)<(l.length:Int))&&!l.getD (posB l v) M==v) wdv l (↑(posB l v):Int) (posB l v) (FcG 47 (Ld ((↑(posB l v):Int)<(l.length:Int))&&!l.getD (posB l v) M==v) (λhg=>by(try simp only[bs]at hg);exact @Z9O (l.getD (posB l v) M)) (FcG 50 (Ld ((↑(posB l v):Int)<(l.length:Int))&&!l.getD (posB l v) M==v&&La) (λhg=>by(try simp only[bs]at hg);exact @Z9O v) (Fr (↑(posB l v):Int) (Fb ((Ld ((↑(posB l v):Int)<(l.length:Int))&&(l.getD (posB l v) M==v||La))=O) Fz))))))))
  .have e:Ld (v∈l)=La:=by
    simp only[decide_eq_false_iff_not];exact λq=>h2 (hm.1 q).2
   rw[e];exact gF [] func127 (fO 24) (Fl 11 wdv l (Fu (@Zhl l v aa aa) (FeG 38 (Ld ((↑(posB l v):Int)<(l.length:Int))) wdv l (↑(posB l v):Int) (posB l v) (FeG 45 (Ld ((↑(posB l v):Int)<(l.length:Int))&&!l.getD (posB l v) M==v) wdv l (↑(posB l v):Int) (posB l v) (FcG 47 (Ld ((↑(posB l v):Int)<(l.length:Int))&&!l.getD (posB l v) M==v) (λhg=>by(try simp only[bs]at hg);exact @Z9O (l.getD (posB l v) M)) (FcG 50 (Ld ((↑(posB l v):Int)<(l.length:Int))&&!l.getD (posB l v) M==v&&La) (λhg=>by(try simp only[bs]at hg);exact @Z9O v) (Fr (↑(posB l v):Int) (Fbs ((Ld ((↑(posB l v):Int)<(l.length:Int))&&(l.getD (posB l v) M==v||La))=La) Fz))))))))
 .have e:Ld (v∈l)=La:=by
   simp only[decide_eq_false_iff_not];exact λq=>h1 (hm.1 q).1
  rw[e];exact gF [] func127 (fO 24) (Fl 11 wdv l (Fu (@Zhl l v aa aa) (FeG 38 (Ld ((↑(posB l v):Int)<(l.length:Int))) wdv l (↑(posB l v):Int) (posB l v) (FeG 45 (Ld ((↑(posB l v):Int)<(l.length:Int))&&!l.getD (posB l v) M==v) wdv l (↑(posB l v):Int) (posB l v) (FcG 47 (Ld ((↑(posB l v):Int)<(l.length:Int))&&!l.getD (posB l v) M==v) (λhg=>by(try simp only[bs]at hg);exact @Z9O (l.getD (posB l v) M)) (FcG 50 (Ld ((↑(posB l v):Int)<(l.length:Int))&&!l.getD (posB l v) M==v&&La) (λhg=>by(try simp only[bs]at hg);exact @Z9O v) (Fr (↑(posB l v):Int) (Fb ((Ld ((↑(posB l v):Int)<(l.length:Int))&&(l.getD (posB l v) M==v||La))=La) Fz))))))))
structure BField where
 width:Int
 value:Int
 deriving DecidableEq,Inhabited
def BField.dv(f:BField):List DV:=[.sc (.int .i64 f.width),.sc (.int .u64 f.value)]
def Znw{α β:Type}{f:α->β}{l:List α}(h:l≠[]):l.map f≠[]:=by simpa using h
structure PgOk (c:Conf) (p:Page):Prop where
 s:0<=p.S/\p.S<=1
 n:0<=p.N/\p.N<=2147483647
 k:0<=p.K/\p.K<=3
 k0:p.K=0->p.S=0/\p.U=0/\p.N=0
 k1:p.K=1->0<=p.U/\p.U<=c.pw
 k3:p.K=3->p.U=0/\p.N=0
structure PT (c:Conf) (l:List Page):Prop where
 b:∀ i,i<l.length->PgOk c (l.getD i M)
 lg:∀ i,i<l.length->(l.getD i M).K=2->1<=need c (l.getD i M).U/\∀ m:Nat,1<=m->(m:Int)<need c (l.getD i M).U->i+m<l.length/\(l.getD (i+m) M).K=3/\(l.getD (i+m) M).S=(l.getD i M).S
 tl:∀ i,i<l.length->(l.getD i M).K=3->∃ j,j<i/\(l.getD j M).K=2/\(i:Int)<j+need c (l.getD j M).U
def Z4A(c:Conf)(l:List Page):Nat->Int
 | 0=>0
 | i+1=>rdue c l i (Z4A c l i)
def Zip{c:Conf}{l:List Page}:∀ {f i:Nat},l.length<=i+f->(rpB c l f i (Z4A c l i)=O↔∀ j,i<=j->j<l.length->rchk c l j (Z4A c l j))
 | 0,i,h=>by
  simp only[rpB,true_iff];intro j h1 h2;omega
 | f+1,i,h=>by
  unfold rpB;by_cases hi:i<l.length
  .rw[if_pos hi,Lx,decide_eq_true_eq,show rdue c l i (Z4A c l i)=Z4A c l (i+1)from rfl,Zip (f:=f) (i:=i+1) oq];constructor
   .rintro⟨h1,h2⟩ j h3 h4;by_cases hj:j=i
    .subst hj;exact h1
    .exact h2 j oq h4
   .intro hh;exact⟨hh i (Lh _) hi,λj h3 h4=>hh j oq h4⟩
  .rw[if_neg hi];simp only[true_iff];intro j h1 h2;omega
def Z80{c:Conf}{l:List Page}:∀ i,0<=Z4A c l i->0<Z4A c l i->∃ j,j<i/\(l.getD j M).K=2/\Z4A c l i=j+need c (l.getD j M).U-i
 | 0,_,h=>by simp[Z4A]at h
 | i+1,h0,h=>by
  simp only[Z4A,rdue]at h0 h ⊢;split at h
  .rename_i hk;refine⟨i,by omega,hk, ?_⟩;rw[if_pos hk];omega
  .rename_i hk;have h1:1<Z4A c l i:=by omega
   obtain⟨j,j1,j2,j3⟩:=Z80 (c:=c) (l:=l) i oq oq;refine⟨j,by omega,j2, ?_⟩;rw[if_neg hk];omega
def Za4(sp:Int):∀ (l:List Page) (k:Nat),(∀ m,m<k->m<l.length/\(l.getD m M).K=3/\(l.getD m M).S=sp)->k<=Z13 sp l
 | _,0,_=>Xd _
 | [],k+1,h=>by have:=(h 0 oq).1;simp at this
 | p::l,k+1,h=>by
  have h0:=(h 0 oq).2;simp only[List.getD_cons_zero]at h0;rw[Z13,if_pos h0];have:=Za4 sp l k λm hm=>by
   have:=h (m+1) oq;simpa using this
  omega
def PT.due{c:Conf}{l:List Page}(h:PT c l){i:Nat}(hi:i<l.length)(hk:(l.getD i M).K=2):∀ m:Nat,(m:Int)<need c (l.getD i M).U->Z4A c l (i+1+m)=need c (l.getD i M).U-1-m
 | 0,hm=>by
  show rdue c l i (Z4A c l i)=_;rw[rdue,if_pos hk];omega
 | m+1,hm=>by
  have ih:=h.due hi hk m oq;have ht:=((h.lg i hi hk).2 (m+1) oq hm).2.1;show rdue c l (i+1+m) (Z4A c l (i+1+m))=_;rw[rdue,show i+1+m=i+(m+1) by omega,if_neg (by rw[ht];decide),show i+(m+1)=i+1+m by omega,ih];omega
def Z77{c:Conf}{l:List Page}(h:∀ i,i<l.length->(l.getD i M).K=2->1<=need c (l.getD i M).U):∀ i,i<=l.length->0<=Z4A c l i
 | 0,_=>Int.le_refl _
 | i+1,hi=>by
  have ih:=Z77 h i oq;simp only[Z4A,rdue];split
  .rename_i hk;have:=h i oq hk;omega
  .omega
def Zob{c:Conf}{l:List Page}:rpB c l l.length 0 0=O↔PT c l:=by
 have e:=Zip (c:=c) (l:=l) (f:=l.length) (i:=0) oq;rw[show Z4A c l 0=0 from rfl]at e;rw[e];constructor
 .intro h;have hb:∀ i,i<l.length->PgOk c (l.getD i M):=by
   intro i hi;have q:=h i oq hi;unfold rchk at q;exact⟨⟨q.2.1,q.2.2.1⟩,⟨q.2.2.2.1,q.2.2.2.2.1⟩,⟨q.2.2.2.2.2.1,q.2.2.2.2.2.2.1⟩,q.2.2.2.2.2.2.2.1,q.2.2.2.2.2.2.2.2.1,q.2.2.2.2.2.2.2.2.2.2⟩
  have hl:∀ i,i<l.length->(l.getD i M).K=2->1<=need c (l.getD i M).U/\∀ m:Nat,1<=m->(m:Int)<need c (l.getD i M).U->i+m<l.length/\(l.getD (i+m) M).K=3/\(l.getD (i+m) M).S=(l.getD i M).S:=by
   intro i hi hk;have q:=(h i oq hi).2.2.2.2.2.2.2.2.2.1 hk;refine⟨q.1, ?_⟩;intro m h1 h2;obtain⟨g1,g2⟩:=Z5E (l.getD i M).S (l.drop (i+1)) (m-1) oq;have g3:i+m<l.length:=by simp at g1;omega
   have:(l.drop (i+1)).getD (m-1) M=l.getD (i+m) M:=by
    rw[Lg,Lg,Lz,show i+1+(m-1)=i+m by omega]
   rw[this]at g2;exact⟨g3,g2⟩
  refine⟨hb,hl, ?_⟩;intro i hi hk;have q:=(h i oq hi).1.1 hk;obtain⟨j,j1,j2,j3⟩:=Z80 (c:=c) (l:=l) i oq q;exact⟨j,j1,j2,by omega⟩
 .intro h j _ hj;have b:=h.b j hj;have hd:=Z77 (λi hi hk=>(h.lg i hi hk).1) j oq;refine⟨⟨?_, ?_⟩,b.s.1,b.s.2,b.n.1,b.n.2,b.k.1,b.k.2,b.k0,b.k1, ?_,b.k3⟩
  .intro hk;obtain⟨i,i1,i2,i3⟩:=h.tl j hj hk;have:=h.due (show i<l.length by omega) i2 (j-i-1) oq;rw[show i+1+(j-i-1)=j by omega]at this;omega
  .intro hp;obtain⟨i,i1,i2,i3⟩:=Z80 j hd hp;have:=((h.lg i oq i2).2 (j-i) oq oq).2.1;rw[show i+(j-i)=j by omega]at this;exact this
  .intro hk;have q:=h.lg j hj hk;refine⟨q.1, ?_⟩;have:=Za4 (l.getD j M).S (l.drop (j+1)) (need c (l.getD j M).U-1).toNat λm hm=>by
    have r:=q.2 (m+1) oq oq;have e2:(l.drop (j+1)).getD m M=l.getD (j+(m+1)) M:=by
     rw[Lg,Lg,Lz,show j+1+m=j+(m+1) by omega]
    rw[e2];exact⟨by simp;omega,r.2⟩
   omega
def Z1y{h:Heap}:Z03 h=O↔Z06 h.C=O/\(h.W.length:Int)=h.C.pw*h.C.pg/\(h.P.length:Int)=h.C.pg/\(h.S=0\/h.S=1) /\
  (h.B=-1\/(0<=h.B/\h.B<h.P.length/\(h.P.getD h.B.toNat M).K=1))/\PT h.C h.P:=by
 rw[properB_iff,Zob]
def PT.setPage{c:Conf}{l:List Page}(h:PT c l){i:Nat}(hi:i<l.length)(hk:(l.getD i M).K=0\/(l.getD i M).K=1){p:Page}(hp:PgOk c p)(hpk:p.K=0\/p.K=1):PT c (l.set i p):=by
 refine⟨?_, ?_, ?_⟩
 .intro j hj;rw[Lo]at hj;rw[Z0o hi];split
  .exact hp
  .exact h.b j hj
 .intro j hj hk2;rw[Lo]at hj;rw[Z0o hi]at hk2 ⊢;by_cases hij:i=j
  .rw[if_pos hij]at hk2;omega
  .rw[if_neg hij]at hk2 ⊢;have q:=h.lg j hj hk2;refine⟨q.1,λm h1 h2=>?_⟩;have r:=q.2 m h1 h2;rw[Lo,Z0o hi,if_neg (by rintro rfl;omega)];exact r
 .intro j hj hk3;rw[Lo]at hj;rw[Z0o hi]at hk3;by_cases hij:i=j
  .rw[if_pos hij]at hk3;omega
  .rw[if_neg hij]at hk3;obtain⟨a,a1,a2,a3⟩:=h.tl j hj hk3;refine⟨a,a1, ?_⟩;rw[Z0o hi,if_neg (by rintro rfl;omega)];exact⟨a2,a3⟩
def PT.mapPages{c:Conf}{l:List Page}(h:PT c l)(f:Page->Page)(h1:∀ p,PgOk c p->PgOk c (f p))(h2:∀ p,PgOk c p->(f p).K=2->p.K=2/\(f p).U=p.U)
  (h3:∀ p,PgOk c p->(f p).K=3->p.K=3) (h4:∀ p q,PgOk c p->PgOk c q->p.K=2->q.K=3->q.S=p.S->((f p).K=2↔(f q).K=3)/\((f p).K=2->(f q).S=(f p).S)):PT c (l.map f):=by
 have hg:∀ j,j<l.length->(l.map f).getD j M=f (l.getD j M):=by
  intro j hj;simp[Lg,hj]
 refine⟨?_, ?_, ?_⟩
 .intro j hj;rw[Lj]at hj;rw[hg j hj];exact h1 _ (h.b j hj)
 .intro j hj hk;rw[Lj]at hj;rw[hg j hj]at hk ⊢;have q:=h2 _ (h.b j hj) hk;have r:=h.lg j hj q.1;rw[q.2];refine⟨r.1,λm m1 m2=>?_⟩;have s:=r.2 m m1 m2;have t:=h4 _ _ (h.b j hj) (h.b (j+m) s.1) q.1 s.2.1 s.2.2;rw[Lj,hg _ s.1];exact⟨s.1,t.1.1 hk,t.2 hk⟩
 .intro j hj hk;rw[Lj]at hj;rw[hg j hj]at hk;have q:=h3 _ (h.b j hj) hk;obtain⟨a,a1,a2,a3⟩:=h.tl j hj q;have ha:a<l.length:=by omega
  have s:=(h.lg a ha a2).2 (j-a) oq oq;rw[show a+(j-a)=j by omega]at s;have t:=h4 _ _ (h.b a ha) (h.b j hj) a2 s.2.1 s.2.2;have hk2:=t.1.2 hk;refine⟨a,a1, ?_⟩;rw[hg a ha];exact⟨hk2,by rw[(h2 _ (h.b a ha) hk2).2];exact a3⟩
def Z8T{l:List Page}{i k:Nat}{p q:Page}(hk:1<=k)(h:i+k<=l.length)(j:Nat):(tookP l i k p q).getD j M=if j=i then p else if i<j/\j<i+k then q else l.getD j M:=by
 have hl:(wr l (Lf k q) i k).length=l.length:=Z4S (by simpa using h) pq;unfold tookP;rw[Lg,List.getElem?_set];by_cases hj:j=i
 .subst hj;rw[if_pos rfl,if_pos rfl,if_pos oq];rfl
 .rw[if_neg (λe=>hj e.symm),if_neg hj,Za8 (by simpa using h) pq];by_cases h1:j<i
  .rw[if_pos h1,if_neg oq,Lg]
  .rw[if_neg h1];by_cases h2:j<i+k
   .rw[if_pos h2,if_pos oq];simp[show j-i<k by omega]
   .rw[if_neg h2,if_neg oq,Lg]
def PT.took{c:Conf}{l:List Page}(h:PT c l){i k:Nat}{n sp:Int}(hk:1<=k)(hik:i+k<=l.length)(hf:∀ j,j<k->(l.getD (i+j) M).K=0)(hn:need c n=k)(hs:sp=0\/sp=1):PT c (tookP l i k ⟨2,sp,n,0⟩ ⟨3,sp,0,0⟩):=by
 have hg:=Z8T (p:=⟨2,sp,n,0⟩) (q:=⟨3,sp,0,0⟩) hk hik;have hl:(tookP l i k ⟨2,sp,n,0⟩ ⟨3,sp,0,0⟩).length=l.length:=Z6p hik;have hf':∀ j,i<=j->j<i+k->(l.getD j M).K=0:=λj h1 h2=>by
  have:=hf (j-i) oq;rwa [show i+(j-i)=j by omega]at this
 refine⟨?_, ?_, ?_⟩
 .intro j hj;rw[hl]at hj;rw[hg];split
  .exact⟨by simp only;omega,by simp,by simp,by simp,by simp,by simp⟩
  .split
   .exact⟨by simp only;omega,by simp,by simp,by simp,by simp,by simp⟩
   .exact h.b j hj
 .intro j hj hk2;rw[hl]at hj ⊢;simp only[hg]at hk2 ⊢;by_cases hji:j=i
  .subst hji;simp only[if_pos]at hk2 ⊢;rw[hn];refine⟨by omega,λm h1 h2=>⟨by omega, ?_⟩⟩;rw[if_neg oq,if_pos oq];exact⟨rfl,rfl⟩
  .rw[if_neg hji]at hk2 ⊢;by_cases hr:i<j/\j<i+k
   .rw[if_pos hr]at hk2;simp at hk2
   .rw[if_neg hr]at hk2 ⊢;have q:=h.lg j hj hk2;refine⟨q.1,λm h1 h2=>?_⟩;have r:=q.2 m h1 h2;have hne:¬ (i<=j+m/\j+m<i+k):=λhc=>by
     have:=hf' (j+m) hc.1 hc.2;omega
    rw[if_neg oq,if_neg oq];exact r
 .intro j hj hk3;rw[hl]at hj;simp only[hg]at hk3 ⊢;by_cases hji:j=i
  .rw[if_pos hji]at hk3;simp at hk3
  .rw[if_neg hji]at hk3;by_cases hr:i<j/\j<i+k
   .refine⟨i,hr.1, ?_⟩;simp only[if_pos];refine⟨trivial, ?_⟩;rw[hn];omega
   .rw[if_neg hr]at hk3;obtain⟨a,a1,a2,a3⟩:=h.tl j hj hk3;have hne:¬ (i<=a/\a<i+k):=λhc=>by
     have:=hf' a hc.1 hc.2;omega
    refine⟨a,a1, ?_⟩;rw[if_neg oq,if_neg oq];exact⟨a2,a3⟩
def Z4Z{l:List Page}{i:Nat}{n:Int}:Z2a l i n=l.set i ⟨(l.getD i M).K,(l.getD i M).S,(l.getD i M).U+n,(l.getD i M).N⟩:=rfl
def Z3P{h:Heap}(hs:h.S=0\/h.S=1)(hf:0<=first h.P 1)(n:Int):Z2a (Z37 h) (first h.P 1).toNat n=h.P.set (first h.P 1).toNat ⟨1,h.S,n,0⟩/\(h.P.getD (first h.P 1).toNat M).K=0/\(first h.P 1).toNat<h.P.length:=by
 obtain⟨f1,f2,f3,f4⟩:=Z33 hs hf;obtain⟨g1,g2,g3⟩:=Z1I hf;have hi:(first h.P 1).toNat<h.P.length:=by omega
 refine⟨?_, ?_,hi⟩
 .rw[Z4Z,f4,f1,Z83 hi,List.set_set];simp
 .have:=freeK_iff.1 g3 0 dd;simpa using this
structure PutOk (h:Heap) (n:Int) (h':Heap) (a:Int):Prop where
 pr:Z03 h'=O
 c:h'.C=h.C
 w:h'.W=h.W
 l:h'.P.length=h.P.length
 sp:h'.S=h.S
 pin:∀ p∈h'.P,p.N=0\/∃ q∈h.P,p.N=q.N
 lo:4096<=a
 hi:a+n<=4096+h.W.length
def getD_in{l:List Page}{i:Nat}(h:i<l.length):l.getD i M∈l:=by
 rw[Lg,Li h];exact L0 h
def Zg9{h:Heap}{n:Int}(hp:Z03 h=O)(hn:1<=n/\n<=h.C.pw)(e:(Z0j h n).2.2=O):PutOk h n (Z0j h n).1 (Z0j h n).2.1:=by
 have hp':=hp;rw[Z1y]at hp;obtain⟨p1,p2,p3,p4,p5,p6⟩:=hp;have hb:=validB_iff.1 p1;by_cases hf:Z7h h n
 .have e7:Z0j h n=(⟨h.C,h.W,Z2a h.P h.B.toNat n,h.S,h.B⟩,4096+h.B*h.C.pw+(h.P.getD h.B.toNat M).U,O):=by rw[Z0j,if_pos hf]
  unfold Z7h at hf;have hbi:h.B.toNat<h.P.length:=by omega
  have hk:(h.P.getD h.B.toNat M).K=1:=by omega
  have ok:=p6.b h.B.toNat hbi;have u:=ok.k1 hk;have ha:=Z2z p1 (i:=h.B) oq oq;have hio:=Z12 (i:=h.B) (j:=h.C.pg) (pw:=h.C.pw) oq oq;rw[Ln h.C.pg]at hio;rw[e7];refine⟨?_,rfl,rfl,by simp[Z2a],rfl, ?_,by simp only;omega,by simp only;omega⟩
  .rw[Z1y];refine⟨p1,p2,by simp[Z2a,p3],p4, ?_, ?_⟩
   .refine Lk ⟨hf.1,by simp[Z2a];omega, ?_⟩;show((Z2a h.P h.B.toNat n).getD h.B.toNat M).K=1;rw[Z4Z,Z0o hbi,if_pos rfl];exact hk
   .exact p6.setPage hbi (Lk hk) ⟨ok.s,ok.n,ok.k,λq=>by simp only at q;omega,λ_=>by simp only;omega,λq=>by simp only at q;omega⟩ (Lk hk)
  .intro p hp;rcases LH hp with hp | rfl
   .exact Lk ⟨p,hp,rfl⟩
   .exact Lk ⟨_,getD_in hbi,rfl⟩
 .by_cases hg:0<=first h.P 1/\(Z1Z h.P:Int)<Z29 h.C
  .have e7:Z0j h n=(⟨h.C,h.W,Z2a (Z37 h) (first h.P 1).toNat n,h.S,first h.P 1⟩,4096+first h.P 1*h.C.pw+((Z37 h).getD (first h.P 1).toNat M).U,O):=by rw[Z0j,if_neg hf,if_pos hg]
   obtain⟨g1,g2,g3⟩:=Z3P p4 hg.1 n;have g4:=congrArg Page.U (Z33 p4 hg.1).2.2.2;simp only at g4;have ha:=Z2z p1 (i:=first h.P 1) oq oq;have hio:=Z12 (i:=first h.P 1) (j:=h.C.pg) (pw:=h.C.pw) oq oq;rw[Ln h.C.pg]at hio;rw[e7,g1,g4];refine⟨?_,rfl,rfl,by simp,rfl, ?_,by simp only;omega,by simp only;omega⟩
   .rw[Z1y];refine⟨p1,p2,by simp[p3],p4, ?_, ?_⟩
    .refine Lk ⟨hg.1,by simp only[Lo];omega, ?_⟩;simp only;rw[Z0o g3,if_pos rfl]
    .exact p6.setPage g3 (Lm g2) ⟨by simp only;omega,by simp,by simp,by simp,λ_=>by simp only;omega,by simp⟩ (Lk rfl)
   .intro p hp;rcases LH hp with hp | rfl
    .exact Lk ⟨p,hp,rfl⟩
    .exact Lm rfl
  .rw[Z0j,if_neg hf,if_neg hg]at e;simp at e
def ZfM{h:Heap}{n:Int}(hp:Z03 h=O)(hk:1<=need h.C n)(e:(Z0s h n (need h.C n)).2.2=O):PutOk h n (Z0s h n (need h.C n)).1 (Z0s h n (need h.C n)).2.1:=by
 have hp':=hp;rw[Z1y]at hp;obtain⟨p1,p2,p3,p4,p5,p6⟩:=hp;have hb:=validB_iff.1 p1;by_cases hg:0<=first h.P (need h.C n)/\Z1Z h.P+need h.C n<=Z29 h.C
 .obtain⟨g1,g2,g3⟩:=Z1I hg.1;have el:(Z2E h.C h.P (first h.P (need h.C n)) h.S n).1=tookP h.P (first h.P (need h.C n)).toNat (need h.C n).toNat ⟨2,h.S,n,0⟩ ⟨3,h.S,0,0⟩:=by
   rw[Z2E,if_pos ⟨hk,by omega⟩,Z2H,if_pos oq,if_pos g3]
  have e7:Z0s h n (need h.C n)=(⟨h.C,h.W,tookP h.P (first h.P (need h.C n)).toNat (need h.C n).toNat ⟨2,h.S,n,0⟩ ⟨3,h.S,0,0⟩,h.S,h.B⟩,4096+first h.P (need h.C n)*h.C.pw,O):=by rw[Z0s,if_pos hg,el]
  have hf:∀ j,j<(need h.C n).toNat->(h.P.getD ((first h.P (need h.C n)).toNat+j) M).K=0:=freeK_iff.1 g3;have hlen:(tookP h.P (first h.P (need h.C n)).toNat (need h.C n).toNat ⟨2,h.S,n,0⟩ ⟨3,h.S,0,0⟩).length=h.P.length:=Z6p oq;have hu:=Z4w hk;have h0:0<=first h.P (need h.C n)*h.C.pw:=LQ hg.1 oq
  have hio:=Int.mul_le_mul_of_nonneg_right (show first h.P (need h.C n)+need h.C n<=h.C.pg by omega) (show 0<=h.C.pw by omega);rw[Ly,Ln h.C.pg]at hio;rw[e7];refine⟨?_,rfl,rfl,hlen,rfl, ?_,by simp only;omega,by simp only;omega⟩
  .rw[Z1y];refine⟨p1,p2,by simp only[hlen];exact p3,p4, ?_, ?_⟩
   .simp only[hlen];rcases p5 with p5 | p5
    .exact Lm p5
    .refine Lk ⟨p5.1,p5.2.1, ?_⟩;have hne:¬ ((first h.P (need h.C n)).toNat<=h.B.toNat/\h.B.toNat<(first h.P (need h.C n)).toNat+(need h.C n).toNat):=λhc=>by
      have:=hf (h.B.toNat-(first h.P (need h.C n)).toNat) oq;rw[show(first h.P (need h.C n)).toNat+(h.B.toNat-(first h.P (need h.C n)).toNat)=h.B.toNat by omega]at this;omega
     rw[Z8T oq oq,if_neg oq,if_neg oq];exact p5.2.2
   .exact p6.took oq oq hf oq p4
  .intro p hp;rcases LH hp with hp | rfl
   .simp only[wr,LD]at hp;rcases hp with(hp | hp) | hp
    .exact Lk ⟨p,L4 hp,rfl⟩
    .have:=List.eq_of_mem_replicate (L4 hp);subst this;exact Lm rfl
    .exact Lk ⟨p,List.mem_of_mem_drop hp,rfl⟩
   .exact Lm rfl
 .rw[Z0s,if_neg hg]at e;simp at e
def ZiD{hd:Header}(hv:Z0c hd=O)(hm:0<=hd.map/\hd.map<=4294967295):WOk (objW hd)/\((objW hd).length:Int)=sizeH hd:=by
 have hb:=Zat hv hm.1 hm.2;constructor
 .intro x hx;simp only[objW,LG,Lv,Z0a,if_pos hv]at hx;rcases hx with rfl | ⟨_,rfl⟩<;>omega
 .rw[sizeH,if_pos hv];simp[objW];omega
def ZhG{h:Heap}{hd:Header}(hw:WOk h.W)(hm:0<=hd.map/\hd.map<=4294967295)(e:(new7 h hd).2.2=0) :
  Z03 h=O/\Z2Z h.C hd=O/\PutOk h (sizeH hd) (put7 h hd).1 (put7 h hd).2.1/\(put7 h hd).2.2=O/\(new7 h hd).2.1=(put7 h hd).2.1/\(new7 h hd).1 = { (put7 h hd).1 with W:=(Z0r h.W (put7 h hd).2.1 (objW hd)).1 }/\Z03 (new7 h hd).1=O/\WOk (new7 h hd).1.W:=by
 unfold new7 at e;split at e
 .rename_i c1;split at e
  .rename_i c2;obtain⟨a1,a2,a3,a4,a5⟩:=Z7t c1.2;have po:=Z07 c1.1;have hput:PutOk h (sizeH hd) (put7 h hd).1 (put7 h hd).2.1:=by
    by_cases hn:0<need h.C (sizeH hd)
    .have e7:put7 h hd=Z0s h (sizeH hd) (need h.C (sizeH hd)):=by rw[put7,if_pos hn]
     rw[e7]at c2 ⊢;exact ZfM c1.1 oq c2
    .have e7:put7 h hd=Z0j h (sizeH hd):=by rw[put7,if_neg hn]
     rw[e7]at c2 ⊢;refine Zg9 c1.1 ⟨a2, ?_⟩ c2;unfold need at hn a4;split at a4
     .rename_i hc;rw[if_pos hc]at hn;split at a4
      .omega
      .rename_i hd';rw[if_neg hd']at hn;have e:=Int.mul_ediv_add_emod (sizeH hd+h.C.pw-1) h.C.pw;have hz:(sizeH hd+h.C.pw-1)/h.C.pw=0:=by omega
       rw[hz]at e;have:=Int.emod_lt_of_pos (sizeH hd+h.C.pw-1) (b:=h.C.pw) oq;omega
     .omega
   have ho:=ZiD a1 hm;have hin:4096<=(put7 h hd).2.1/\(put7 h hd).2.1-4096+(objW hd).length<=h.W.length:=⟨hput.lo,by have:=hput.hi;omega⟩
   have e2:Z0r h.W (put7 h hd).2.1 (objW hd)=(spl h.W ((put7 h hd).2.1-4096).toNat (objW hd),0):=by rw[Z0r,if_pos hin]
   have hlen:(spl h.W ((put7 h hd).2.1-4096).toNat (objW hd)).length=h.W.length:=Z3J oq;have e3:(Z1e (put7 h hd).1 (put7 h hd).2.1 hd).1 = { (put7 h hd).1 with W:=(Z0r h.W (put7 h hd).2.1 (objW hd)).1 }:=by
    rw[Z1e,if_pos ⟨hput.pr,a1⟩,hput.w,e2];simp
   have e4:new7 h hd=((Z1e (put7 h hd).1 (put7 h hd).2.1 hd).1,(put7 h hd).2.1,0):=by rw[new7,if_pos c1,if_pos c2]
   refine⟨c1.1,c1.2,hput,c2,by rw[e4],by rw[e4];exact e3, ?_, ?_⟩
   .rw[e4];simp only;rw[e3,e2];have q:=hput.pr;rw[Z1y]at q ⊢;refine⟨q.1, ?_,q.2.2.1,q.2.2.2.1,q.2.2.2.2.1,q.2.2.2.2.2⟩;simp only[hlen];have:=q.2.1;rw[hput.w]at this;exact this
   .rw[e4];simp only;rw[e3];exact Z6f hw ho.1 _
  .simp at e
 .simp at e
def ZfB{h:Heap}{a:Int}(e:(atH h a).2=0):4096<=a/\a+(atH h a).1.length<4096+h.W.length:=by
 have k:=ZeA e;have po:=Z07 k.1;have o:=Z3F po.1 k.2.1;have hj:(ofA h.C a).1.toNat<h.P.length:=by omega
 have hk:(((ofA h.C a).1.toNat:Nat):Int)=(ofA h.C a).1:=by omega
 have h2:=e;unfold atH at h2 ⊢;rw[if_pos k.1,if_pos k.2.1]at h2 ⊢;split at h2
 .rename_i g1;split at h2
  .simp at h2
  .rename_i g2;rw[if_pos g1,if_neg g2];have hv:Z0c (decodeH (loadA h.W a).1).1=O:=Z2h _;have hs:sizeH (decodeH (loadA h.W a).1).1=(decodeH (loadA h.W a).1).1.length+1:=by rw[sizeH,if_pos hv]
   have hvb:=(validH_iff.1 hv).2.2.1;have ue:=Zay k.1 hj g1.1;rw[hk]at ue;have h0:0<=(ofA h.C a).1*h.C.pw:=LQ o.1 oq;have hio:=Z12 (i:=(ofA h.C a).1) (j:=h.C.pg) (pw:=h.C.pw) o.2.1 oq;rw[Ln h.C.pg]at hio;have hL:=po.2.2.2.2.2.1;refine⟨by omega, ?_⟩;simp only;rcases g1.1 with g | g<;>omega
 .simp at h2
def Z92{h:Heap}{a i v:Int}(hw:WOk h.W)(hv:0<=v/\v<=18446744073709551615)(e:(getH h a).2=0)(hi:0<=i/\i<(getH h a).1.length):Z0p h a i v=({ h with W:=(Z0D h.W (a+1+i) v).1 },0)/\Z03 (Z0p h a i v).1=O/\WOk (Z0p h a i v).1.W:=by
 have g:=Z3I e;have k:=ZfB g.2.1;rw[<- g.1]at k;have hin:4096<=a+1+i/\a+1+i<4096+h.W.length:=by omega
 have hf:(Z1L h a i).2=0:=by
  unfold Z1L;rw[if_pos e,if_pos hi];unfold loadA;rw[if_pos hin]
 have e1:Z0p h a i v=({ h with W:=(Z0D h.W (a+1+i) v).1 },0):=by rw[Z0p,if_pos hf]
 refine⟨e1, ?_, ?_⟩
 .rw[e1];have q:=g.2.2.1;rw[Z1y]at q ⊢;refine⟨q.1, ?_,q.2.2.1,q.2.2.2.1,q.2.2.2.2.1,q.2.2.2.2.2⟩;simp only[Z2x hin];exact q.2.1
 .rw[e1];exact Z8M hw hv _
def Z6t(h:Header)(i:Int)(hm:0<=h.map/\h.map<=4294967295):GP 162 [h.av,int i] O (bool (Z0b h i)) []:=by
 rcases bb (!Z0c h||Ld (i<0)||Ld (h.length<=i))with hc0 | hc0<;>have hc0p:=hc0<;>simp only[bs]at hc0p
 .exact gF [] func162 (fO 6) (Fc 6 (@Z2U h aa) (Ft 17 hc0 (Fa (by grind[Z0b]:La=Z0b h i) Fz)))
 .obtain⟨⟨hc0paa,hc0pab⟩,hc0pb⟩:=hc0p;have hf3:=validH_iff.1 hc0paa;obtain⟨hf3a,⟨hf3ba,⟨hf3bba,⟨hf3bbba,hf3bbbb⟩⟩⟩⟩:=hf3;exact gF [] func162 (fO 17) (Fc 6 (@Z2U h aa) (Ff 17 hc0 (Fa (by intro hg;(try simp only[bs]at hg);omega:(!h.K==2&&h.K==1)=O->0<=i) (Fa (by exact Zlr h i hm aa oq oq:(h.K==2||h.K==1&&bits BinOp.and IntKind.u32 (h.map.fdiv (2^min i.toNat 32)) (1:Int)==1)=Z0b h i) Fz))))
def hptL(h:Header)(i:Nat):Tg:=⟨tm 19 [(1,.pt 8001 0 0),(2,.d (.sl 0 [])),(3,.ow 16003),(6,int (sizeH h)),(7,int i)],[(16003,.arr 3 1 ((Z0Q h i).map idv)),(8001,.box 52 [int h.K,int h.length,u32 h.map])],60⟩
def ZkH(h:Header)(i:Nat)(hm:0<=h.map/\h.map<=4294967295)(hi:(i:Int)<sizeH h):CP (rndF f110 0) (hptL h i).st .nrm (hptL h (i+1)).st:=by
 have hn:=Z59 h i;have hs:=Z1r h;by_cases hp:Z0b h (i:Int)=O
 .have e:Z0Q h (i+1)=Z0Q h i++[(i:Int)]:=by rw[Z0Q,if_pos hp]
  exact sF [(504016,16003)] (fO 5) (Fh 12 [.call O (Sx.bool (Z0b h (i:Int))) [],.br O] (Fh 16 [.els (Lb idv (Z0Q h i++[(i:Int)]))] (Ftb 8 (Ld ((i:Int)<sizeH h)) (Fa (@Z6t h ((i:Int)) aa) (Fa ‹Z0b h (i:Int)=O› (Fs 15 (Lb idv [(i:Int)]) (Fa (by(simp[*];omega):(Lb idv (Z0Q h i)).length+(Lb idv [(i:Int)]).length<=2^30) (Fa (ms:Lb idv (Z0Q h i)++Lb idv [(i:Int)]=Lb idv (Z0Q h i++[(i:Int)])) (Fx 17 i (Fr (3:Int) (Fa (by refine congrArg _ ?_;rw[e]:Lb idv (Z0Q h i++[(i:Int)])=Lb idv (Z0Q h (i+1))) Fz)))))))))))
 .have e:Z0Q h (i+1)=Z0Q h i:=by rw[Z0Q,if_neg hp]
  have hp':Z0b h (i:Int)=La:=by simpa using hp
  exact sF [] (fO 5) (Fh 12 [.call O (Sx.bool (Z0b h (i:Int))) [],.br La] (Ftb 8 (Ld ((i:Int)<sizeH h)) (Fa (@Z6t h ((i:Int)) aa) (Fa ‹Z0b h (i:Int)=La› (Fx 17 i (Fr (3:Int) (Fa (by refine congrArg _ ?_;rw[e]:Lb idv (Z0Q h i)=Lb idv (Z0Q h (i+1))) Fz)))))))
def Zng(h:Header)(i:Nat)(hi:(i:Int)=sizeH h):CP (rndF f110 0) (hptL h i).st (.ext 0) (Tg.st ⟨tm 19 [(2,.d (.sl 0 [])),(3,.ow 16003)],[(16003,.arr 3 1 ((Z0Q h i).map idv))],60⟩):=by
 exact sF [] [] (Ffb 8 (Ld ((i:Int)<sizeH h)) Fz)
def ZbP(h:Header):Z0Q h (sizeH h).toNat=Z02 h:=by
 unfold Z02 sizeH;by_cases hv:Z0c h=O
 .rw[if_pos hv,if_pos hv];have hb:=validH_iff.1 hv;rw[show(h.length+1).toNat=h.length.toNat+1 from by omega,Z0Q,if_neg];unfold Z0b;simp;omega
 .rw[if_neg hv,if_neg hv];rfl
def ZlA(h:Header)(hm:0<=h.map/\h.map<=4294967295):CP (blkF f110 0) (Tg.st ⟨tm 19 [(1,.pt 8001 0 0),(2,.d (.sl 0 [])),(3,.ow 16003),(6,int (sizeH h)),(7,int 0)],[(16003,.arr 3 1 []),(8001,.box 52 [int h.K,int h.length,u32 h.map])],60⟩) .nrm (Tg.st ⟨tm 19 [(2,.d (.sl 0 [])),(3,.ow 16003)],[(16003,.arr 3 1 ((Z02 h).map idv))],60⟩):=by
 have hs:=Z1r h;rw[<- ZbP];exact Z09 (S:=λi=>(hptL h i).st) (sizeH h).toNat kr (λi hi=>ZkH h i hm oq) (Zng h _ oq)
def Z3L(h:Header)(hm:0<=h.map/\h.map<=4294967295):GP 110 [h.av] O (.d (.sl 1 ((Z02 h).map idv))) []:=by
 exact gF [] func110 [] (Fh 3 [.own] (Fc 6 (@Z1k h aa) (Fu (@ZlA h aa) (Fa (by exact Zeu _:Z1h (Lb idv (Z02 h))) Fz))))
end Go.Proofs.YtgedmeaemofdkaaGreat
namespace Go.Sx
def mvP(ids:List Nat)(post:List Blk)(n:Nat):List Blk:=(upto 0 n).map λk=>match idxN k ids 0 with
 | some j=>Z3r ids (post.getD j .dead)
 | none=>.dead
def mvOk(m p n:Nat)(ids:List Nat):Bool:=L8 ids.length p&&Lp m p&&Lp m n&&nodupB ids&&(upto 0 p).all (λj=>Lp (ids.getD j 0+1) n&&(L8 (ids.getD j 0) j||Lp m (ids.getD j 0)))&&(upto 0 n).all λk=>match idxN k ids 0 with | Lc _=>O | Le=>Lp (k+1) m
def Zkq{P:Program}{f:Nat}{args:List AV}{pre:List Blk}{res:AV}{post:List Blk}(ids:List Nat)(n:Nat){res2:AV}{post2:List Blk}(h:BorSpec P f args pre res post)(ok:mvOk pre.length post.length n ids=O)(hr:mapT (renI ids) res=res2)(hp:mvP ids post n=post2):BorSpec P f args pre res2 post2:=by
 simp only[mvOk,Lx,List.all_eq_true,Bool.or_eq_true]at ok;obtain⟨⟨⟨⟨⟨k1,k2⟩,k3⟩,k4⟩,k5⟩,k6⟩:=ok;have k1:=L9 k1;have k2:=Lq k2;have k3:=Lq k3;have k4:=Z2L k4;have mem:∀ {j p:Nat},j<p->j∈upto 0 p:=λ{j p} hj=>Lu (by rw[Z7r _ _ _ hj,LM]);have k5:∀ j,j<post.length->ids.getD j 0<n/\(ids.getD j 0=j\/pre.length<=ids.getD j 0):=λj hj=>by
  have:=k5 j (mem hj);exact⟨Lq this.1,this.2.imp L9 Lq⟩
 have k6:∀ k,k<n->idxN k ids 0=Le->k<pre.length:=λk hk e=>by
  have:=k6 k (mem hk);rw[e]at this;exact Lq this
 subst hr hp;have pl:(mvP ids post n).length=n:=by simp[mvP,Z7A]
 have pg:∀ (k:Nat) (B:Blk),(mvP ids post n)[k]? = Lc B->k<n/\((∃ j,ids[j]? = Lc k/\j<post.length/\B=Z3r ids (post.getD j .dead))\/(k<pre.length/\B = .dead)):=λk B hB=>by
  have hk:k<n:=by have:=(Ls.1 hB).1;omega
  simp only[mvP,LZ,Z7r _ _ _ hk,LM,Xg,Option.some.injEq]at hB;refine⟨hk, ?_⟩;cases e:idxN k ids 0 with
  | none=>rw[e]at hB;exact .inr ⟨k6 k hk e,hB.symm⟩
  | some j =>
   rw[e]at hB;obtain⟨_,q⟩:=Z1J e;have q:ids[j]? = Lc k:=by simpa using q
   exact .inl ⟨j,q,by have:=(Ls.1 q).1;omega,hB.symm⟩
 intro w Im ρ vs hIm hsz hρ hinj hbnd hpre hargs;refine(h w Im ρ vs hIm hsz hρ hinj hbnd hpre hargs).mono ?_;rintro e w' ⟨v,rfl,hk,ρ',Im',a1,a2,a3,a4,a5,a6,a7,a8,a9⟩;let ρ2:Rho:=λk=>if k<pre.length then ρ' k else match idxN k ids 0 with | Lc j=>ρ' j | Le=>Le
 have hlow:∀ k,k<pre.length->ρ2 k=ρ' k:=λk hk=>by simp only[ρ2,if_pos hk]
 have hat:∀ (j k:Nat),ids[j]? = Lc k->ρ2 k=ρ' j:=λj k q=>by
  have hj:j<post.length:=by have:=(Ls.1 q).1;omega
  have e:ids.getD j 0=k:=by rw[Lg,q];rfl
  have c:=k5 j hj;rw[e]at c;by_cases hkp:k<pre.length
  .rw[hlow k hkp];rcases c.2 with c | c
   .rw[c]
   .omega
  .simp only[ρ2,if_neg hkp];cases ex:idxN k ids 0 with
   | none=>exact absurd (Lu q) (Z3R ex)
   | some j2 =>
    obtain⟨_,q2⟩:=Z1J ex;rw[Z4l k4 q (by simpa using q2)]
 have hfrom:∀ k β,ρ2 k=Lc β->∃ j,ρ' j=Lc β/\k<n:=λk β hb=>by
  by_cases hkp:k<pre.length
  .rw[hlow k hkp]at hb;exact⟨k,hb,by omega⟩
  .simp only[ρ2,if_neg hkp]at hb;split at hb
   .rename_i j hj;obtain⟨_,q⟩:=Z1J hj;have q:ids[j]? = Lc k:=by simpa using q
    have hj:j<post.length:=by have:=(Ls.1 q).1;omega
    have:=k5 j hj;rw[Lg,q]at this;exact⟨j,hb,this.1⟩
   .cases hb
 have hren:∀ j β,ρ' j=Lc β->ρ2 (ids.getD j 0)=Lc β:=λj β hb=>by
  have hj:=a2 j β hb;have q:ids[j]? = Lc (ids.getD j 0):=by rw[Lg,Li oq];rfl
  rw[hat j _ q];exact hb
 have hlv:∀ k,live (hL (mvP ids post n)) k->∃ j,ids[j]? = Lc k/\live (hL post) j:=by
  rintro k ⟨B,hB,hd⟩;obtain⟨_,⟨j,q1,q2,q3⟩ | ⟨_,q⟩⟩:=pg k B hB
  .refine⟨j,q1,post[j],Li q2,λe=>hd ?_⟩;rw[q3,Lg,Li q2];simp only[Xe,e,Z3r]
  .exact absurd q hd
 refine⟨v,rfl,hk,ρ2,Im',λk β hb=>?_,λk β hb=>?_,a3,a4,λk β g hb=>?_,λk β g hl hb=>?_,λk k' β β' g hl hl' hb hb' hg hg'=>?_,λk B hB=>?_, ?_⟩
 .rw[hlow k (hρ k β hb)];exact a1 k β hb
 .obtain⟨j,_,q⟩:=hfrom k β hb;rw[pl];exact q
 .obtain⟨j,q,_⟩:=hfrom k β hb;exact a5 j β g q
 .obtain⟨j,q1,q2⟩:=hlv k hl;rw[hat j k q1]at hb;exact a6 j β g q2 hb
 .obtain⟨j,q1,q2⟩:=hlv k hl;obtain⟨j',q1',q2'⟩:=hlv k' hl';rw[hat j k q1]at hb;rw[hat j' k' q1']at hb';have:=a7 j j' β β' g q2 q2' hb hb' hg hg';subst this;rw[q1]at q1';exact Option.some.inj q1'
 .obtain⟨_,⟨j,q1,q2,rfl⟩ | ⟨q,rfl⟩⟩:=pg k B hB
  .obtain⟨β,m1,m2⟩:=a8 j _ (Li q2);rw[Lg,Li q2];exact⟨β,by rw[hat j k q1];exact m1,Z8S (λ_ h=>h) hren m2⟩
  .obtain⟨β,m1,_⟩:=hpre k _ (Li q);exact⟨β,by rw[hlow k q];exact a1 k β m1,trivial⟩
 .obtain⟨q1,q2,q3⟩:=Z7G (w:=w') (Im:=Im') (Im':=Im') hren;exact Z7q (λ_ h=>h) q1 q2 q3 a9
end Go.Sx
namespace Go.Proofs.YtgedmeaemofdkaaGreat
open Go.Sx
def seaP(all l:List Int):List Blk:=[.box 105 [Z01 all,.pt 1 0 99999,.ow 2],.mp l,.arr 35 1 (l.map wdv)]
def seaQ(all l:List Int):List Blk:=[.box 105 [Z01 all,.pt 1 0 99999,.ow 3],.mp l,.dead,.arr 35 1 (l.map wdv)]
section
variable (all l:List Int) (r:Int) (h0:0<=r/\r<=18446744073709551615) (hl:l.length<=1048576) (ha:all.length<=1048576) (hs:all.Pairwise (· < ·))
include h0 hl ha hs
theorem Zlj(h:r≠0)(hr:r∉all):BP 108 [.pt 0 0 0,u64 r] (seaP all l) (bool La) (seaP all l):=by
 exact borF [0,1,2] [] func108 [] (Ffb 10 (r==0) (Fc 17 (@bsearch all r aa aa) (Ftb 21 (!decide (r∈all)) Fz)))
theorem Zod(h:r=0\/r∈all)(hr:r=0\/r∈l):BP 108 [.pt 0 0 0,u64 r] (seaP all l) (bool O) (seaP all l):=by
 by_cases c:r=0
 .exact borF [0,1,2] [] func108 [] (Ftb 10 (r==0) Fz)
 .have h:=h.resolve_left c;have hr:=hr.resolve_left c;exact borF [0,1,2] [] func108 [] (Ffb 10 (r==0) (Fc 17 (@bsearch all r aa aa) (Ffb 21 (!decide (r∈all)) (Ff 32 (by simp[mpC, *]:(!mpC l r)=La) Fz))))
theorem Znz(h:r≠0)(hr:r∈all)(hn:r∉l):BP 108 [.pt 0 0 0,u64 r] (seaP all l) (bool O) [.box 105 [Z01 all,.pt 1 0 99999,.ow 3],.mp (l++[r]),.dead,.arr 35 1 ((l++[r]).map wdv)]:=by
 exact borF [0,1,8002] [72050] func108 [] (Fh 50 [.els (Lb wdv (l++[r]))] (Ffb 10 (r==0) (Fc 17 (@bsearch all r aa aa) (Ffb 21 (!decide (r∈all)) (Ft 32 (by simp[mpC, *]:(!mpC l r)=O) (Fl 42 wdv l (Fa (by intro hg;(try simp only[bs]at hg);grind[mpC]:r∈l->False) (Fr (l.length:Int) (Fo (l.length<2^30) (Fs 49 (Lb wdv [r]) (Fa (by(simp[mpC, *];omega):(Lb wdv l).length+(Lb wdv [r]).length<=2^30) (Fa (by simp[mpC,LC,L3,LB,LA,wdv,idv]:Lb wdv l++Lb wdv [r]=Lb wdv (l++[r])) Fz))))))))))))
theorem Zoe(h:r=0\/r∈all):BP 108 [.pt 0 0 0,u64 r] (seaP all l) (bool O) (seaQ all (addO l r)):=by
 by_cases c:r=0\/r∈l
 .rw[addO,if_pos c];exact Zkq [0,1,3] 4 (Zod all l r h0 hl ha hs h c) (by rfl) rfl rfl
 .rw[addO,if_neg c];exact Znz all l r h0 hl ha hs (λq=>c (.inl q)) (h.resolve_left λq=>c (.inl q)) (λq=>c (.inr q))
end
def Zc1(hd:Header)(fs:List Int)(f:Int->Int):∀ n:Nat,(∀ k:Nat,k<n->fs.getD k M=f k)->Z2j hd fs n=(Z0Q hd n).map f
 | 0,_=>rfl
 | n+1,h=>by
  unfold Z2j Z0Q;rw[Zc1 hd fs f n (λk hk=>h k oq),h n oq];split
  .simp
  .rfl
def Z6X{h:Heap}(hp:Z03 h=O){a:Int}(ha:a∈(Z04 h).1):(getH h a).2=0/\(atH h a).2=0/\(atH h a).1.K≠0:=by
 obtain⟨h1,h2⟩:=List.mem_filter.1 ha;have h2:(atH h a).1.K≠0:=by simpa[Z36]using h2
 rw[ZaM]at h1;obtain⟨x,hx,rfl⟩:=Lt.1 h1;have h3:=(Zh3 x hx).2;refine⟨?_,h3,h2⟩;unfold getH;have z:x.addr≠0:=λe=>Zaq h (by have:=h3;rw[e]at this;exact this);rw[if_pos hp,if_neg z,if_neg (λe=>h2 e.2)];exact h3
def Z0k(h:Heap)(a:Int):List Int:=(Z02 (atH h a).1).map λj=>(loadA h.W (a+1+j)).1
def Zjc{h:Heap}{a:Int}(hp:Z03 h=O)(ha:a∈(Z04 h).1):Zn3 h a=Z0k h a:=by
 have g:=(Z6X hp ha).1;obtain⟨e,e1,_,_,k1,k2,v,_,_,l1,l2⟩:=Z3I g;have r:=ZfB e1;rw[<- e]at r;have fl:(Z0v h a)=Z18 h.W (a+1) (getH h a).1.length:=by rw[Z0v,if_pos g]
 have rd:Z18 h.W (a+1) (getH h a).1.length=((h.W.drop (a+1-4096).toNat).take (getH h a).1.length.toNat,0):=by
  rw[Z18,if_neg oq,if_pos oq]
 unfold Zn3 Z0k;rw[fl,rd];have ln:((h.W.drop (a+1-4096).toNat).take (getH h a).1.length.toNat).length=(getH h a).1.length.toNat:=by
  rw[L2,List.length_drop];omega
 rw[Zc1 _ _ (λj=>(loadA h.W (a+1+j)).1) _ (λk hk=>?_),ln]
 .unfold Z02;rw[<- e,if_pos v]
 .rw[ln]at hk;show((h.W.drop (a+1-4096).toNat).take (getH h a).1.length.toNat).getD k M=_;rw[loadA,if_pos oq];simp only[Lg,List.getElem?_take,Lz];rw[if_pos oq,show(a+1-4096).toNat+k=(a+1+(k:Int)-4096).toNat by omega];rfl
def ZnQ{l:List Int}{a:Int}(h:l.Nodup)(ha:a∉l):(l++[a]).Nodup:=by
 rw[List.nodup_append];refine⟨h,by simp,λb hb c hc=>?_⟩;rw[L5]at hc;rintro rfl;exact ha (hc▸hb)
def Zmv{all out:List Int}{r:Int}(h:out.Nodup/\∀ x∈out,x∈all)(hr:r=0\/r∈all):(addO out r).Nodup/\∀ x∈addO out r,x∈all:=by
 unfold addO;split
 .exact h
 .rename_i c;refine⟨ZnQ h.1 (λq=>c (.inr q)),λx hx=>?_⟩;rcases LD.1 hx with hx | hx
  .exact h.2 x hx
  .rw[L5.1 hx];exact hr.resolve_left λq=>c (.inl q)
def ZdB{refs all:List Int}{i:Nat}(h:rfsB refs all i=La):refs.getD i M=0\/refs.getD i M∈all:=by
 have:=of_decide_eq_false h;by_cases c:refs.getD i M=0
 .exact .inl c
 .exact .inr (Xh.1 λq=>this ⟨c,q⟩)
def Z6P{all out refs:List Int}(h:out.Nodup/\∀ x∈out,x∈all):∀ n,(∀ j,j<n->rfsB refs all j=La)->(addN out refs n).Nodup/\∀ x∈addN out refs n,x∈all
 | 0,_=>h
 | n+1,hb=>Zmv (Z6P h n λj hj=>hb j oq) (ZdB (hb n oq))
def Zb9{refs all:List Int}(h:(Ll refs.length).find? (rfsB refs all)=Le):∀ j,j<refs.length->rfsB refs all j=La:=λj hj=>by
 simpa using List.find?_eq_none.1 h j (LI.2 hj)
def Zc9:∀ {l m:List Int},l.Nodup->(∀ x∈l,x∈m)->l.length<=m.length
 | [],_,_,_=>Xd _
 | a::l,m,hn,h=>by
  obtain⟨h1,h2⟩:=List.nodup_cons.1 hn;have ha:=h a pq;have:=Zc9 (l:=l) (m:=m.erase a) h2 (λx hx=>(List.mem_erase_of_ne (by rintro rfl;exact h1 hx)).2 (h x (by simp[hx])));have e:=List.length_erase_of_mem ha;have:=List.length_pos_of_mem ha;simp only[List.length_cons];omega
def ordG(h:Heap)(roots:List Int):Nat->List Int
 | 0=>addN [] roots roots.length
 | i+1=>addN (ordG h roots i) (Z0k h ((ordG h roots i).getD i M)) (Z0k h ((ordG h roots i).getD i M)).length
def badG(h:Heap)(roots:List Int)(i:Nat):Bool:=((Ll (Z0k h ((ordG h roots i).getD i M)).length).find? (rfsB (Z0k h ((ordG h roots i).getD i M)) (Z04 h).1)).isSome
def ordT(h:Heap)(roots:List Int):Nat->Nat->Nat
 | 0,i=>i
 | f+1,i=>if(ordG h roots i).length<=i\/badG h roots i=O then i else ordT h roots f (i+1)
def ordZ(h:Heap)(roots:List Int):Nat:=ordT h roots 16385 0
def Z3U(h:Heap)(roots:List Int):Bool:=((Ll roots.length).find? (rfsB roots (Z04 h).1)).isSome
structure OrdI (h:Heap) (roots:List Int) (k:Nat):Prop where
 lo:∀ i,i<k->i<(ordG h roots i).length/\badG h roots i=La
 el:∀ i,i<=k->(ordG h roots i).Nodup/\∀ x∈ordG h roots i,x∈(Z04 h).1
def OrdI.len{h:Heap}{roots:List Int}{k:Nat}(I:OrdI h roots k){i:Nat}(hi:i<=k):(ordG h roots i).length<=16384 :=
 Lw (Zc9 (I.el i hi).1 (I.el i hi).2) (Z16 h)
def OrdI.zero{h:Heap}{roots:List Int}(hr:Z3U h roots=La):OrdI h roots 0:=by
 refine⟨λi hi=>by omega,λi hi=>?_⟩;obtain rfl:i=0:=by omega
 exact Z6P ⟨LL,by simp⟩ _ (Zb9 (by simpa[Z3U]using hr))
def OrdI.succ{h:Heap}{roots:List Int}{k:Nat}(I:OrdI h roots k)(h1:k<(ordG h roots k).length)(h2:badG h roots k=La):OrdI h roots (k+1):=by
 refine⟨λi hi=>?_,λi hi=>?_⟩
 .by_cases q:i=k
  .rw[q];exact⟨h1,h2⟩
  .exact I.lo i oq
 .by_cases q:i=k+1
  .rw[q];exact Z6P (I.el k (Lh _)) _ (Zb9 (by simpa[badG]using h2))
  .exact I.el i oq
def ZeU{h:Heap}{roots:List Int}:∀ f i,OrdI h roots i->16385<=f+i->OrdI h roots (ordT h roots f i)/\((ordG h roots (ordT h roots f i)).length<=ordT h roots f i\/badG h roots (ordT h roots f i)=O)
 | 0,i,I,hf=>by
  have:=I.len (Lh i);exact⟨I,.inl (by unfold ordT;omega)⟩
 | f+1,i,I,hf=>by
  unfold ordT;by_cases q:(ordG h roots i).length<=i\/badG h roots i=O
  .rw[if_pos q];exact⟨I,q⟩
  .rw[if_neg q];exact ZeU f (i+1) (I.succ oq (by simpa using λe=>q (.inr e))) oq
def Zb6{h:Heap}{roots:List Int}(hr:Z3U h roots=La):OrdI h roots (ordZ h roots)/\((ordG h roots (ordZ h roots)).length<=ordZ h roots\/badG h roots (ordZ h roots)=O) :=
 ZeU _ _ (OrdI.zero hr) oq
def Z0n(h:Heap)(roots:List Int):List Int×Int :=
 if Z03 h=O then
  if(Z04 h).2=0 then
   if Z3U h roots=O\/((ordZ h roots)<(ordG h roots (ordZ h roots)).length/\badG h roots (ordZ h roots)=O)then([],19)else(ordG h roots (ordZ h roots),0)
  else([],(Z04 h).2)
 else([],1)
def Z5w(h:Heap)(a:Int)(hw:WOk h.W)(hp:Z03 h=O)(ha:a∈(Z04 h).1):GP 18 [h.av,u64 a] La (Z01 (Z0k h a)) []:=by
 rw[<- Zjc hp ha];have:=Z0Y h a ha;exact ZkA h a hw oq
def Zce(h:Heap)(a:Int):(Z0k h a).length<=255:=by
 rw[Z0k,Lj];exact(Z1w _).1
def Zi1(h:Heap)(roots:List Int)(hw:WOk h.W)(hp:Z03 h=La):BP 55 [h.av,Z01 roots] [] (.tu [.d (.sc (.pointer Le)),int 1]) []:=by
 exact borF [] [] func55 [] (Fc 19 (@Z0J h) (Ftb 20 (!Z03 h) Fz))
def ZhH(h:Heap)(roots:List Int)(hw:WOk h.W)(hp:Z03 h=O)(ho:(Z04 h).2≠0):BP 55 [h.av,Z01 roots] [] (.tu [.d (.sc (.pointer Le)),int (Z04 h).2]) []:=by
 exact borF [] [] func55 [] (Fc 19 (@Z0J h) (Ffb 20 (!Z03 h) (Fc 23 (@Z47 h aa) (Ftb 27 ((Z04 h).2 != 0) Fz))))
def hpB(h:Heap):Blk:=.box 28 [int h.C.pw,int h.C.pg,.d (.sl 1 (h.W.map wdv)),.d (.sl 4 (h.P.map Page.dv)),int h.S,int h.B]
def seaB(all l:List Int):List (Nat×Blk):=[(48032,.box 105 [Z01 all,.pt 48030 0 99999,.ow 48031]),(48031,.arr 35 1 (l.map wdv)),(48030,.mp l)]
def srL(h:Heap)(roots:List Int)(i:Nat):Tg:=⟨tm 102 [(2,.pt 16002 0 0),(4,.d (.sc (.pointer Le))),(5,int 0),(8,.pt 48032 0 0),(33,Z01 roots),(34,int roots.length),(35,int i)],seaB (Z04 h).1 (addN [] roots i)++[(16002,hpB h)],8⟩
section
variable (h:Heap) (roots:List Int) (hl:roots.length<=1000) (hr:ULe roots)
include hl hr
theorem ZhV(i:Nat)(hi:i<roots.length)(hb:∀ j,j<i+1->rfsB roots (Z04 h).1 j=La):CP (rndF f55 0) (srL h roots i).st .nrm (srL h roots (i+1)).st:=by
 have ol:=Z16 h;have os:=Z49 h;have o1:=Z6P (all:=(Z04 h).1) (out:=[]) (refs:=roots) ⟨LL,by simp⟩ i (λj hj=>hb j oq);have o2:=Lw (Zc9 o1.1 o1.2) ol;have r:=hr _ (getD_mem_iff.2 ⟨i,hi,rfl⟩);have rb:=ZdB (hb i oq);have e7:addN [] roots (i+1)=addO (addN [] roots i) (roots.getD i M):=rfl;unfold srL seaB hpB;rw[e7];exact sF [(81041,48031)] [] (Ftb 36 (Ld ((i:Int)<(roots.length:Int))) (Fek 37 wdv roots (↑i) i (Fbr 41 [48032,48030,48031] (@Zoe ((Z04 h).1) (addN [] roots i) (roots.getD i M) aa oq oq aa aa) (Fx 43 i Fz))))
theorem Zom(i:Nat)(hi:i<roots.length)(hb:∀ j,j<i->rfsB roots (Z04 h).1 j=La)(hx:rfsB roots (Z04 h).1 i=O):CP (rndF f55 0) (srL h roots i).st .ret (Tg.st ⟨tm 102 [(4,.d (.sc (.pointer Le))),(5,int 19)],[],60⟩):=by
 have ol:=Z16 h;have os:=Z49 h;have o1:=Z6P (all:=(Z04 h).1) (out:=[]) (refs:=roots) ⟨LL,by simp⟩ i hb;have o2:=Lw (Zc9 o1.1 o1.2) ol;have r:=hr _ (getD_mem_iff.2 ⟨i,hi,rfl⟩);obtain⟨b1,b2⟩:=of_decide_eq_true hx;unfold srL seaB hpB;exact sF [] [] (Ftb 36 (Ld ((i:Int)<(roots.length:Int))) (Fek 37 wdv roots (↑i) i (Fbq 41 [48032,48030,48031] (@Zlj ((Z04 h).1) (addN [] roots i) (roots.getD i M) aa oq oq aa aa aa) Fz)))
omit hl hr in
theorem Zos:CP (rndF f55 0) (srL h roots roots.length).st (.ext 0) (Tg.st ⟨tm 102 [(2,.pt 16002 0 0),(4,.d (.sc (.pointer Le))),(5,int 0),(8,.pt 48032 0 0)],seaB (Z04 h).1 (ordG h roots 0)++[(16002,hpB h)],8⟩):=by
 unfold srL seaB hpB ordG;exact sF [] [] (Ffb 36 (Ld ((roots.length:Int)<(roots.length:Int))) Fz)
theorem Zlq(hb:Z3U h roots=La):CP (blkF f55 0) (Tg.st ⟨tm 102 [(2,.pt 16002 0 0),(4,.d (.sc (.pointer Le))),(5,int 0),(8,.pt 48032 0 0),(33,Z01 roots),(34,int roots.length),(35,int 0)],[(48032,.box 105 [Z01 (Z04 h).1,.pt 48030 0 99999,.ow 48031]),(48031,.arr 35 1 []),(48030,.mp []),(16002,.box 28 [int h.C.pw,int h.C.pg,.d (.sl 1 (h.W.map wdv)),.d (.sl 4 (h.P.map Page.dv)),int h.S,int h.B])],8⟩) .nrm (Tg.st ⟨tm 102 [(2,.pt 16002 0 0),(4,.d (.sc (.pointer Le))),(5,int 0),(8,.pt 48032 0 0)],seaB (Z04 h).1 (ordG h roots 0)++[(16002,hpB h)],8⟩):=by
 have e:=Zb9 (refs:=roots) (all:=(Z04 h).1) (by simpa[Z3U]using hb);exact Z09 (S:=λk=>(srL h roots k).st) roots.length kr (λk hk=>ZhV h roots hl hr k hk (λj hj=>e j oq)) (Zos h roots)
theorem ZlX(hb:Z3U h roots=O):CP (blkF f55 0) (Tg.st ⟨tm 102 [(2,.pt 16002 0 0),(4,.d (.sc (.pointer Le))),(5,int 0),(8,.pt 48032 0 0),(33,Z01 roots),(34,int roots.length),(35,int 0)],[(48032,.box 105 [Z01 (Z04 h).1,.pt 48030 0 99999,.ow 48031]),(48031,.arr 35 1 []),(48030,.mp []),(16002,.box 28 [int h.C.pw,int h.C.pg,.d (.sl 1 (h.W.map wdv)),.d (.sl 4 (h.P.map Page.dv)),int h.S,int h.B])],8⟩) .ret (Tg.st ⟨tm 102 [(4,.d (.sc (.pointer Le))),(5,int 19)],[],60⟩):=by
 obtain⟨i,hb⟩:=Xf.1 hb;obtain⟨h1,h2,h3⟩:=LW.1 hb;have h2:=LI.1 h2;have e:∀ j,j<i->rfsB roots (Z04 h).1 j=La:=λj hj=>by simpa using h3 j hj
 exact Z0B (S:=λk=>(srL h roots k).st) i kr (λk hk=>ZhV h roots hl hr k oq (λj hj=>e j oq)) (Zom h roots hl hr i h2 e h1)
end
def Zig(h:Heap)(roots:List Int)(hw:WOk h.W)(hp:Z03 h=O)(ho:(Z04 h).2=0)(hl:roots.length<=1000)(hr:ULe roots)(hb:Z3U h roots=O):BP 55 [h.av,Z01 roots] [] (.tu [.d (.sc (.pointer Le)),int 19]) []:=by
 exact borF [] [] func55 [] (Fh 31 [.gh 35 1,.int 2] (Fc 19 (@Z0J h) (Ffb 20 (!Z03 h) (Fc 23 (@Z47 h aa) (Ffb 27 ((Z04 h).2 != 0) (Fl 34 wdv roots (Fu (@ZlX h roots aa aa aa) Fz)))))))
def Zky(out:List Int)(r:Int){k:Nat}(hk:k<out.length):k<(addO out r).length/\(addO out r).getD k M=out.getD k M:=by
 unfold addO;split
 .exact⟨hk,rfl⟩
 .refine⟨by simp;omega, ?_⟩;simp only[Lg];rw[List.getElem?_append_left hk]
def ZaU(out refs:List Int){k:Nat}(hk:k<out.length):∀ n,k<(addN out refs n).length/\(addN out refs n).getD k M=out.getD k M
 | 0=>⟨hk,rfl⟩
 | n+1=>by
  obtain⟨h1,h2⟩:=ZaU out refs hk n;obtain⟨h3,h4⟩:=Zky (addN out refs n) (refs.getD n M) h1;exact⟨h3,h4.trans h2⟩
def siL(h:Heap)(l:List Int)(i:Nat)(ps rf:List Int)(j:Nat):Tg:=⟨tm 102 [(2,.pt 16002 0 0),(4,.d (.sc (.pointer Le))),(5,int 0),(8,.pt 48032 0 0),(11,int i),(69,.d (.sl 1 (ps.map idv))),(70,int ps.length),(71,int j)],seaB (Z04 h).1 (addN l rf j)++[(16002,hpB h)],13⟩
def Zej{h:Heap}{l:List Int}{i j:Nat}{a:Int}(hp:Z03 h=O)(hi:i<l.length)(el:l.Nodup/\∀ x∈l,x∈(Z04 h).1)(ea:l.getD i M=a)(hj:j<(Z02 (atH h a).1).length)(hb:∀ m,m<j->rfsB (Z0k h a) (Z04 h).1 m=La) :
  i<(addN l (Z0k h a) j).length/\(addN l (Z0k h a) j).length<=16384/\0<=(addN l (Z0k h a) j).getD i M/\(addN l (Z0k h a) j).getD i M<=8192/\0<=(Z02 (atH h a).1).getD j M/\(Z02 (atH h a).1).getD j M<=255 /\
  (loadA h.W ((addN l (Z0k h a) j).getD i M+1+(Z02 (atH h a).1).getD j M)).2=0/\(Z0k h a).getD j M=(loadA h.W ((addN l (Z0k h a) j).getD i M+1+(Z02 (atH h a).1).getD j M)).1:=by
 obtain⟨q1,q2⟩:=ZaU l (Z0k h a) hi j;rw[ea]at q2;have o1:=Z6P (all:=(Z04 h).1) el j hb;have o2:=Lw (Zc9 o1.1 o1.2) (Z16 h);have am:a∈(Z04 h).1:=ea▸el.2 _ (getD_mem_iff.2 ⟨i,hi,rfl⟩);have ar:=Z0Y h a am;obtain⟨g1,g2,g3⟩:=Z6X hp am;have r:=ZfB g2;have pm:=getD_mem_iff.2 ⟨j,hj,rfl⟩;have pr:=(Z1w (atH h a).1).2 _ pm;have pl:(Z02 (atH h a).1).getD j M<(atH h a).1.length:=by
  have hx:=pm;generalize (Z02 (atH h a).1).getD j M=x at hx;unfold Z02 at hx;split at hx
  .have:=Z28 _ _ _ hx;omega
  .simp at hx
 rw[q2];refine⟨q1,o2,by omega,by omega,pr.1,pr.2,by rw[loadA,if_pos oq], ?_⟩;unfold Z0k;simp only[Lg,LZ,Li hj,Xg,Xe]
section
variable (h:Heap) (l:List Int) (i j:Nat) (a:Int) (hw:WOk h.W) (hp:Z03 h=O) (hi:i<l.length) (el:l.Nodup/\∀ x∈l,x∈(Z04 h).1) (ea:l.getD i M=a)
include hw hp hi el ea
theorem ZgW(hj:j<(Z02 (atH h a).1).length)(hb:∀ m,m<j+1->rfsB (Z0k h a) (Z04 h).1 m=La):CP (rndF f55 4) (siL h l i (Z02 (atH h a).1) (Z0k h a) j).st .nrm (siL h l i (Z02 (atH h a).1) (Z0k h a) (j+1)).st:=by
 have ol:=Z16 h;have os:=Z49 h;have po:=Z07 hp;have pl:=(Z1w (atH h a).1).1;obtain⟨f1,f2,f3,f4,f5,f6,f7,f8⟩:=Zej hp hi el ea hj (λm hm=>hb m oq);have rb:=ZdB (hb j oq);have rr:=Z0E hw ((addN l (Z0k h a) j).getD i M+1+(Z02 (atH h a).1).getD j M);rw[f8]at rb;have e7:addN l (Z0k h a) (j+1)=addO (addN l (Z0k h a) j) (loadA h.W ((addN l (Z0k h a) j).getD i M+1+(Z02 (atH h a).1).getD j M)).1:=by rw[<- f8];rfl
 unfold siL seaB hpB;rw[e7];let y0:=(addN l (Z0k h a) j).getD i M+1+(Z02 (atH h a).1).getD j M;exact sF [(129097,48031)] [] (Fh 93 [.br La] (Ftb 72 (Ld ((j:Int)<(↑(Z02 (atH h a).1).length:Int))) (Fek 73 idv (Z02 (atH h a).1) (↑j) j (Fm 84 wdv (addN l (Z0k h a) j) (↑i) i (Fv 85 ((addN l (Z0k h a) j).getD i M+1) (Fv 87 ((Z02 (atH h a).1).getD j M) (Fv 88 y0 (Fc 89 (@Z7U h.W y0 oq oq) (Fb (((loadA h.W y0).2 != 0)=La) (Fbr 97 [48032,48030,48031] (@Zoe ((Z04 h).1) (addN l (Z0k h a) j) ((loadA h.W y0).1) aa oq oq aa aa) (Fx 100 j Fz)))))))))))
theorem Zor(hj:j<(Z02 (atH h a).1).length)(hb:∀ m,m<j->rfsB (Z0k h a) (Z04 h).1 m=La)(hx:rfsB (Z0k h a) (Z04 h).1 j=O):CP (rndF f55 4) (siL h l i (Z02 (atH h a).1) (Z0k h a) j).st .ret (Tg.st ⟨tm 102 [(4,.d (.sc (.pointer Le))),(5,int 19)],[],60⟩):=by
 have ol:=Z16 h;have os:=Z49 h;have po:=Z07 hp;have pl:=(Z1w (atH h a).1).1;obtain⟨f1,f2,f3,f4,f5,f6,f7,f8⟩:=Zej hp hi el ea hj hb;obtain⟨b1,b2⟩:=of_decide_eq_true hx;have rr:=Z0E hw ((addN l (Z0k h a) j).getD i M+1+(Z02 (atH h a).1).getD j M);rw[f8]at b1 b2;unfold siL seaB hpB;let y0:=(addN l (Z0k h a) j).getD i M+1+(Z02 (atH h a).1).getD j M;exact sF [] [] (Fh 93 [.br La] (Ftb 72 (Ld ((j:Int)<(↑(Z02 (atH h a).1).length:Int))) (Fek 73 idv (Z02 (atH h a).1) (↑j) j (Fm 84 wdv (addN l (Z0k h a) j) (↑i) i (Fv 85 ((addN l (Z0k h a) j).getD i M+1) (Fv 87 ((Z02 (atH h a).1).getD j M) (Fv 88 y0 (Fc 89 (@Z7U h.W y0 oq oq) (Fb (((loadA h.W y0).2 != 0)=La) (Fbq 97 [48032,48030,48031] (@Zlj ((Z04 h).1) (addN l (Z0k h a) j) ((loadA h.W y0).1) aa oq oq aa aa aa) Fz))))))))))
omit hw hp hi el ea in
theorem Zol(ps rf:List Int):CP (rndF f55 4) (siL h l i ps rf ps.length).st (.ext 4) (Tg.st ⟨tm 102 [(2,.pt 16002 0 0),(4,.d (.sc (.pointer Le))),(5,int 0),(8,.pt 48032 0 0),(11,int i)],seaB (Z04 h).1 (addN l rf ps.length)++[(16002,hpB h)],13⟩):=by
 unfold siL seaB hpB;exact sF [] [] (Ffb 72 (Ld ((ps.length:Int)<(ps.length:Int))) Fz)
theorem ZnU(hb:(Ll (Z0k h a).length).find? (rfsB (Z0k h a) (Z04 h).1)=Le):CP (blkF f55 4) (Tg.st ⟨tm 102 [(2,.pt 16002 0 0),(4,.d (.sc (.pointer Le))),(5,int 0),(8,.pt 48032 0 0),(11,int i),(69,.d (.sl 1 ((Z02 (atH h a).1).map idv))),(70,int (Z02 (atH h a).1).length),(71,int 0)],[(48032,.box 105 [Z01 (Z04 h).1,.pt 48030 0 99999,.ow 48031]),(48031,.arr 35 1 (l.map wdv)),(48030,.mp l),(16002,.box 28 [int h.C.pw,int h.C.pg,.d (.sl 1 (h.W.map wdv)),.d (.sl 4 (h.P.map Page.dv)),int h.S,int h.B])],13⟩) .nrm (Tg.st ⟨tm 102 [(2,.pt 16002 0 0),(4,.d (.sc (.pointer Le))),(5,int 0),(8,.pt 48032 0 0),(11,int i)],seaB (Z04 h).1 (addN l (Z0k h a) (Z0k h a).length)++[(16002,hpB h)],13⟩):=by
 have e:=Zb9 hb;have le:(Z0k h a).length=(Z02 (atH h a).1).length:=by rw[Z0k,Lj]
 rw[le];exact Z09 (S:=λj=>(siL h l i (Z02 (atH h a).1) (Z0k h a) j).st) (Z02 (atH h a).1).length kr (λj hj=>ZgW h l i j a hw hp hi el ea hj (λm hm=>e m oq)) (Zol h l i _ _)
theorem ZmI(hb:((Ll (Z0k h a).length).find? (rfsB (Z0k h a) (Z04 h).1)).isSome=O):CP (blkF f55 4) (Tg.st ⟨tm 102 [(2,.pt 16002 0 0),(4,.d (.sc (.pointer Le))),(5,int 0),(8,.pt 48032 0 0),(11,int i),(69,.d (.sl 1 ((Z02 (atH h a).1).map idv))),(70,int (Z02 (atH h a).1).length),(71,int 0)],[(48032,.box 105 [Z01 (Z04 h).1,.pt 48030 0 99999,.ow 48031]),(48031,.arr 35 1 (l.map wdv)),(48030,.mp l),(16002,.box 28 [int h.C.pw,int h.C.pg,.d (.sl 1 (h.W.map wdv)),.d (.sl 4 (h.P.map Page.dv)),int h.S,int h.B])],13⟩) .ret (Tg.st ⟨tm 102 [(4,.d (.sc (.pointer Le))),(5,int 19)],[],60⟩):=by
 obtain⟨n,hb⟩:=Xf.1 hb;obtain⟨h1,h2,h3⟩:=LW.1 hb;have h2:=LI.1 h2;have le:(Z0k h a).length=(Z02 (atH h a).1).length:=by rw[Z0k,Lj]
 have e:∀ m,m<n->rfsB (Z0k h a) (Z04 h).1 m=La:=λm hm=>by simpa using h3 m hm
 exact Z0B (S:=λj=>(siL h l i (Z02 (atH h a).1) (Z0k h a) j).st) n kr (λj hj=>ZgW h l i j a hw hp hi el ea oq (λm hm=>e m oq)) (Zor h l i n a hw hp hi el ea oq e h1)
end
def soL(h:Heap)(roots:List Int)(k:Nat):Tg:=⟨tm 102 [(2,.pt 16002 0 0),(4,.d (.sc (.pointer Le))),(5,int 0),(8,.pt 48032 0 0),(11,int k)],seaB (Z04 h).1 (ordG h roots k)++[(16002,hpB h)],9⟩
section
variable (h:Heap) (roots:List Int) (k:Nat) (I:OrdI h roots k) (hw:WOk h.W) (hp:Z03 h=O)
include I hw hp
theorem Zhj(i:Nat)(hi:i<k):CP (rndF f55 2) (soL h roots i).st .nrm (soL h roots (i+1)).st:=by
 have ol:=Z16 h;obtain⟨o1,o2⟩:=I.lo i hi;have o3:=I.len (i:=i) oq;have o4:=I.len (i:=i+1) oq;have om:=(I.el i oq).2 _ (getD_mem_iff.2 ⟨i,o1,rfl⟩);have ox:=Z0Y h _ om;obtain⟨g1,g2,g3⟩:=Z6X hp om;have gm:=Z3H hw ((ordG h roots i).getD i M);have o2:(Ll (Z0k h ((ordG h roots i).getD i M)).length).find? (rfsB (Z0k h ((ordG h roots i).getD i M)) (Z04 h).1)=Le:=by simpa[badG]using o2
 have el:=I.el i oq;have po:=Z07 hp;have e7:ordG h roots (i+1)=addN (ordG h roots i) (Z0k h ((ordG h roots i).getD i M)) (Z0k h ((ordG h roots i).getD i M)).length:=rfl;rw[e7]at o4;unfold soL seaB hpB;rw[e7];let y0:=(ordG h roots i).getD i M;exact sF [] [] (FM 49 50 wdv (ordG h roots i) i (Fm 61 wdv (ordG h roots i) (↑i) i (Fc 62 (@Z6C h y0 aa oq) (Ffb 66 ((atH h y0).2 != 0) (Fc 69 (@Z3L ((atH h y0).1) aa) (Fl 70 idv (Z02 (atH h y0).1) (Fu (@ZnU h (ordG h roots i) i y0 aa aa aa aa (by rfl) aa) (Fx 52 i Fz))))))))
theorem Zon(hi:k<(ordG h roots k).length)(hb:badG h roots k=O):CP (rndF f55 2) (soL h roots k).st .ret (Tg.st ⟨tm 102 [(4,.d (.sc (.pointer Le))),(5,int 19)],[],60⟩):=by
 have ol:=Z16 h;have o3:=I.len (Lh k);have om:=(I.el k (Lh k)).2 _ (getD_mem_iff.2 ⟨k,hi,rfl⟩);have ox:=Z0Y h _ om;obtain⟨g1,g2,g3⟩:=Z6X hp om;have gm:=Z3H hw ((ordG h roots k).getD k M);have el:=I.el k (Lh k);have po:=Z07 hp;unfold badG at hb;unfold soL seaB hpB;let y0:=(ordG h roots k).getD k M;exact sF [] [] (FM 49 50 wdv (ordG h roots k) k (Fm 61 wdv (ordG h roots k) (↑k) k (Fc 62 (@Z6C h y0 aa oq) (Ffb 66 ((atH h y0).2 != 0) (Fc 69 (@Z3L ((atH h y0).1) aa) (Fl 70 idv (Z02 (atH h y0).1) (Fu (@ZmI h (ordG h roots k) k y0 aa aa aa aa (by rfl) aa) Fz)))))))
omit I hw hp in
theorem Zot(e:(ordG h roots k).length<=k)(el:(ordG h roots k).length<=16384):CP (rndF f55 2) (soL h roots k).st (.ext 2) (Tg.st ⟨tm 102 [(4,.d (.sc (.pointer Le))),(5,int 0),(8,.pt 48032 0 0)],seaB (Z04 h).1 (ordG h roots k),9⟩):=by
 unfold soL seaB hpB;exact sF [] [] (Fl 49 wdv (ordG h roots k) (Ffb 50 (Ld ((k:Int)<(↑(ordG h roots k).length:Int))) Fz))
def Zof(e:(ordG h roots k).length<=k)  := Z09 (S:=λi=>(soL h roots i).st) k (by kernel_rfl) (λi hi=>Zhj h roots k I hw hp i hi) (Zot h roots k e (I.len (Lh k)))
def Zm7(hi:k<(ordG h roots k).length)(hb:badG h roots k=O)  := Z0B (S:=λi=>(soL h roots i).st) k (by kernel_rfl) (λi hi=>Zhj h roots k I hw hp i hi) (Zon h roots k I hw hp hi hb)
theorem ZhF(ho:(Z04 h).2=0)(hl:roots.length<=1000)(hr:ULe roots)(hb:Z3U h roots=La)(hi:k<(ordG h roots k).length)(hb2:badG h roots k=O):BP 55 [h.av,Z01 roots] [] (.tu [.d (.sc (.pointer Le)),int 19]) []:=by
 exact borF [] [] func55 [] (Fh 31 [.gh 35 1,.int 2] (Fc 19 (@Z0J h) (Ffb 20 (!Z03 h) (Fc 23 (@Z47 h aa) (Ffb 27 ((Z04 h).2 != 0) (Fl 34 wdv roots (Fu (@Zlq h roots aa aa aa) (Fu (@Zm7 h roots k I aa aa aa aa) Fz))))))))
theorem ZgJ(ho:(Z04 h).2=0)(hl:roots.length<=1000)(hr:ULe roots)(hb:Z3U h roots=La)(e:(ordG h roots k).length<=k):BP 55 [h.av,Z01 roots] [] (.tu [.pt 0 0 0,int 0]) (seaP (Z04 h).1 (ordG h roots k)):=by
 exact borF [] [48032,48030,48031] func55 [] (Fh 31 [.gh 35 1,.int 2] (Fc 19 (@Z0J h) (Ffb 20 (!Z03 h) (Fc 23 (@Z47 h aa) (Ffb 27 ((Z04 h).2 != 0) (Fl 34 wdv roots (Fu (@Zlq h roots aa aa aa) (Fu (@Zof h roots k aa aa aa aa) Fz))))))))
end
def Zbu(c:Nat):GP 123 [.d (.sc (.slice Le 0 c))] O (.ow 0) [.arr 35 1 []] :=
 gspec_ofE [((2:Nat),[Hint.own])] [] [(24002:Nat)] dd func123 [] (φ:=Z1h []) (λ_ h=>nomatch h) kr kr
def Z9b(p:Addr)(c:Nat):GP 123 [.d (.sc (.slice (Lc p) 0 c))] O (.ow 0) [.arr 35 1 []]:=by
 exact gF [24007] func123 [] (Fs 5 (Lb wdv []) (Fa (by simp[*]:(Lb wdv []).length+([]:List (List DV)).length<=2^30) (Fs 7 (Lb wdv []) (Fa (by exact Z3y _:Z1h (Lb wdv [])) Fz))))
def ZdX(ws:List Int)(hw:ws.length<=1048576)(hne:ws≠[]):GP 123 [Z01 ws] O (.ow 0) [.arr 35 1 (ws.map wdv)]:=by
 exact gF [24007] func123 [] (Fa (by exact Znw hne:Lb wdv ws≠[]) (FA 5 7 wdv ws (Fa (by exact Z3y _:Z1h (Lb wdv ws)) Fz)))
def Ze4(ws:List Int)(hw:ws.length<=1048576):GP 123 [Z01 ws] O (.ow 0) [.arr 35 1 (ws.map wdv)]:=by
 by_cases hne:ws=[]
 .subst hne;exact ZdC λp c=>match p with | Le=>Zbu c | Lc p=>Z9b p c
 .exact ZdX ws hw hne
def Zl6(out:List Int)(r:Int):(r=0\/r∈addO out r)/\∀ x∈out,x∈addO out r:=by
 unfold addO;split
 .rename_i c;exact⟨c,λ_ h=>h⟩
 .exact⟨.inr pq,λx h=>by simp[h]⟩
def Z7u(out refs:List Int):∀ n,(∀ x∈out,x∈addN out refs n)/\∀ j,j<n->refs.getD j M=0\/refs.getD j M∈addN out refs n
 | 0=>⟨λ_ h=>h,λj h=>by omega⟩
 | n+1=>by
  obtain⟨h1,h2⟩:=Z7u out refs n;obtain⟨h3,h4⟩:=Zl6 (addN out refs n) (refs.getD n M);refine⟨λx hx=>h4 x (h1 x hx),λj hj=>?_⟩;by_cases q:j=n
  .rw[q];exact h3
  .exact(h2 j oq).imp id λh=>h4 _ h
def Z6w(h:Heap)(roots:List Int)(i:Nat):∀ d,(∀ x∈ordG h roots i,x∈ordG h roots (i+d))/\∀ j,j<(ordG h roots i).length->j<(ordG h roots (i+d)).length/\(ordG h roots (i+d)).getD j M=(ordG h roots i).getD j M
 | 0=>⟨λ_ h=>h,λ_ h=>⟨h,rfl⟩⟩
 | d+1=>by
  obtain⟨h1,h2⟩:=Z6w h roots i d;refine⟨λx hx=>(Z7u _ _ _).1 x (h1 x hx),λj hj=>?_⟩;obtain⟨h3,h4⟩:=h2 j hj;obtain⟨h5,h6⟩:=ZaU (ordG h roots (i+d)) (Z0k h ((ordG h roots (i+d)).getD (i+d) M)) h3 (Z0k h ((ordG h roots (i+d)).getD (i+d) M)).length;exact⟨h5,h6.trans h4⟩
structure OrdL (h:Heap) (roots l:List Int):Prop where
 p:Z03 h=O
 nd:l.Nodup
 el:∀ x∈l,x∈(Z04 h).1
 n0:(0:Int)∉l
 rt:∀ r∈roots,r=0\/r∈l
 cl:∀ a∈l,∀ v∈Z0k h a,v=0\/v∈l
 len:l.length<=16384
def ZmY{h:Heap}{roots:List Int}{k:Nat}(I:OrdI h roots k)(hp:Z03 h=O)(e:(ordG h roots k).length<=k):OrdL h roots (ordG h roots k):=by
 refine⟨hp,(I.el k (Lh k)).1,(I.el k (Lh k)).2,λq=>?_,λr hr=>?_,λa ha v hv=>?_,I.len (Lh k)⟩
 .exact Zaq h (Z6X hp ((I.el k (Lh k)).2 _ q)).2.1
 .obtain⟨j,hj,rfl⟩:=getD_mem_iff.1 hr;exact((Z7u [] roots roots.length).2 j hj).imp id λq=>by
   have:=(Z6w h roots 0 k).1 _ q;rwa [LM]at this
 .obtain⟨i,hi,rfl⟩:=getD_mem_iff.1 ha;obtain⟨j,hj,rfl⟩:=getD_mem_iff.1 hv;obtain⟨o1,_⟩:=I.lo i oq;have p1:=Z6w h roots i (k-i);rw[show i+(k-i)=k from by omega]at p1;rw[(p1.2 i o1).2]at hj ⊢;have m:=(Z7u (ordG h roots i) (Z0k h ((ordG h roots i).getD i M)) (Z0k h ((ordG h roots i).getD i M)).length).2 j hj;refine m.imp id λq=>?_;have p2:=Z6w h roots (i+1) (k-(i+1));rw[show i+1+(k-(i+1))=k from by omega]at p2;exact p2.1 _ q
section
variable (h:Heap) (roots:List Int) (hw:WOk h.W) (hl:roots.length<=1000) (hr:ULe roots)
include hw hl hr
theorem Z60:((Z0n h roots).2=0/\OrdL h roots (Z0n h roots).1/\BP 55 [h.av,Z01 roots] [] (.tu [.pt 0 0 0,int 0]) (seaP (Z04 h).1 (Z0n h roots).1)) \/
  ((Z0n h roots).2≠0/\(Z0n h roots).1=[]/\BP 55 [h.av,Z01 roots] [] (.tu [.d (.sc (.pointer Le)),int (Z0n h roots).2]) []):=by
 unfold Z0n;by_cases hp:Z03 h=O
 .rw[if_pos hp];by_cases ho:(Z04 h).2=0
  .rw[if_pos ho];by_cases hb:Z3U h roots=O
   .rw[if_pos (.inl hb)];exact .inr ⟨by simp,rfl,Zig h roots hw hp ho hl hr hb⟩
   .have hb':Z3U h roots=La:=by simpa using hb
    obtain⟨I,e⟩:=Zb6 hb';by_cases c:(ordZ h roots)<(ordG h roots (ordZ h roots)).length/\badG h roots (ordZ h roots)=O
    .rw[if_pos (.inr c)];exact .inr ⟨by simp,rfl,ZhF h roots _ I hw hp ho hl hr hb' c.1 c.2⟩
    .rw[if_neg (λq=>q.elim hb c)];have e':(ordG h roots (ordZ h roots)).length<=ordZ h roots:=by
      rcases e with e | e
      .exact e
      .exact Nat.not_lt.1 λq=>c ⟨q,e⟩
     exact .inl ⟨rfl,ZmY I hp e',ZgJ h roots _ I hw hp ho hl hr hb' e'⟩
  .rw[if_neg ho];exact .inr ⟨ho,rfl,ZhH h roots hw hp ho⟩
 .rw[if_neg hp];exact .inr ⟨by simp,rfl,Zi1 h roots hw (by simpa using hp)⟩
theorem Z9p(e:(Z0n h roots).2=0):BP 55 [h.av,Z01 roots] [] (.tu [.pt 0 0 0,int 0]) (seaP (Z04 h).1 (Z0n h roots).1):=by
 rcases Z60 h roots hw hl hr with⟨_,_,h2⟩ | ⟨h0,_⟩
 .exact h2
 .exact absurd e h0
theorem Zdx(e:(Z0n h roots).2≠0):BP 55 [h.av,Z01 roots] [] (.tu [.d (.sc (.pointer Le)),int (Z0n h roots).2]) []:=by
 rcases Z60 h roots hw hl hr with⟨h0,_⟩ | ⟨_,_,h2⟩
 .exact absurd h0 e
 .exact h2
theorem Zcj(e:(Z0n h roots).2=0):OrdL h roots (Z0n h roots).1:=by
 rcases Z60 h roots hw hl hr with⟨_,h1,_⟩ | ⟨h0,_⟩
 .exact h1
 .exact absurd e h0
theorem Zg6(e:(Z0n h roots).2≠0):(Z0n h roots).1=[]:=by
 rcases Z60 h roots hw hl hr with⟨h0,_⟩ | ⟨_,h1,_⟩
 .exact absurd h0 e
 .exact h1
theorem Zgj:GP 16 [h.av,Z01 roots] O (.tu [Z01 (Z0n h roots).1,int (Z0n h roots).2]) []:=by
 by_cases e:(Z0n h roots).2=0
 .rw[e];exact gF [] func16 [] (Fbr 11 [] (@Z9p h roots aa aa aa aa) (Fa (by exact Z3y _:Z1h (Lb wdv (Z0n h roots).1)) Fz))
 .rw[Zg6 h roots hw hl hr e];exact gF [] func16 [] (Fbq 11 [] (@Zdx h roots aa aa aa aa) (Ftb 15 ((Z0n h roots).2 != 0) (Fnl Fz)))
end
def Z1v(w:Work)(r:Int):Int:=if r∈w.Q then r else(Z0m (loadA w.heap.W r).1).1
def Z9o(w:Work)(r:Int)(hw:WOk w.heap.W)(hl:w.heap.W.length<=4096)(hq:w.Q.length<=1048576)(h0:0<=r/\r<=18446744073709551615):GP 85 [w.av,u64 r] O (u64 (Z1v w r)) []:=by
 have h1:=Z0E hw r;rcases bb (Ld (r∈w.Q))with hc0 | hc0<;>have hc0p:=hc0<;>simp only[bs]at hc0p
 .exact gF [] func85 [O] (Fh 12 [.call O (Sx.bool (Ld (r∈w.Q))) [],.br O] (Fa (@Z0H w.Q r aa) (Fa hc0 (Fa (by simp[Z1v, *]:r=Z1v w r) Fz))))
 .exact gF [] func85 [O] (Fh 12 [.call O (Sx.bool (Ld (r∈w.Q))) [],.br La] (Fa (@Z0H w.Q r aa) (Fa hc0 (Fc 19 (@Z1F w.heap.W r oq aa) (Fc 24 (@Z2R ((loadA w.heap.W r).1) oq oq) (Fa (by simp[Z1v, *]:(Z0m (loadA w.heap.W r).1).1=Z1v w r) Fz))))))
def Zir(w:Work)(a:Int)(hw:WOk w.heap.W)(h1:w.heap.W.length<=4096)(h0:0<=a/\a<=18446744073709551615):GP 142 [w.av,u64 a] O (hdW w a).av []:=by
 have h2:=Z0E hw a;exact gF [] func142 [] (Fc 14 (@Z1F w.heap.W a oq aa) (Fc 19 (@Z2P ((loadA w.heap.W a).1) oq oq) Fz))
def Z5l(w:Work)(x:Int):Work:=if Z1d w (ofA w.heap.C x).1=O/\x∉w.Q then⟨⟨w.heap.C,(Z0r w.heap.W x (objW ⟨0,(hdW w x).length,0⟩)).1,w.heap.P,w.heap.S,w.heap.B⟩,w.old,w.T,w.Q,w.D,⟨w.rep.copied,w.rep.kept,w.rep.filled+1,w.rep.freed,w.rep.cleared,w.rep.steps⟩⟩else w
def fillN(w:Work):Nat->Work
 | 0=>w
 | k+1=>Z5l (fillN w k) (w.old.getD k M)
def Zk6(w:Work)(i:Nat):Tg:=⟨tm 84 [(1,.pt 8001 0 0),(2,.pt 8002 0 0),(3,int i)],[(8002,.box 138 zW),(8001,.box 138 w.cells)],60⟩
structure FOk (w:Work):Prop where
 W:WOk w.heap.W
 wl:w.heap.W.length<=4096
 pl:w.heap.P.length<=64
 ol:w.old.length<=524288
 o:∀ x∈w.old,0<=x/\x<=8192
 tl:w.T.length<=1000000
 ql:w.Q.length<=1000000
def WkOk.fok{w:Work}(h:WkOk w):FOk w:=by
 have h1:=h.mu;have h2:=h.tl;have h3:=h.pl;have h4:=validB_iff.1 h.C;exact⟨h.W,h.wl,by omega,h.ol,h.o,by omega,by omega⟩
def Z5e{n:Int}(h:0<=n/\n<=255):Z0a ⟨0,n,0⟩=(1+16*n,0):=by
 have hv:Z0c ⟨0,n,0⟩=O:=validH_iff.2 ⟨by simp,by simp,h.1,h.2,by simp⟩;rw[Z0a,if_pos hv];simp
section
variable (w:Work) (i:Nat) (hw:FOk w) (hi:i<w.old.length) (hr:0<=w.rep.filled/\w.rep.filled<=1000000)
include hw hi hr
theorem ZgS:CP (rndF f87 0) (Zk6 w i).st .nrm (Zk6 (Z5l w (w.old.getD i M)) (i+1)).st:=by
 have h1:=hw.W;have h2:=hw.wl;have h3:=hw.pl;have h4:=hw.ol;have h5:=hw.tl;have h6:=hw.ql;have hx:=hw.o _ (getD_mem_iff.2 ⟨i,hi,rfl⟩);have hm:=Z2d (loadA w.heap.W (w.old.getD i M)).1 (Z0E h1 _).1;have hh:0<=(hdW w (w.old.getD i M)).length/\(hdW w (w.old.getD i M)).length<=255:=Z0e w.heap.W (w.old.getD i M);have he:=Z5e hh;by_cases c1:Z1d w (ofA w.heap.C (w.old.getD i M)).1=O
 .by_cases c2:w.old.getD i M∈w.Q
  .have e7:Z5l w (w.old.getD i M)=w:=by rw[Z5l,if_neg (by rintro⟨_,q⟩;exact q c2)]
   rw[e7];exact sF [] [] (FN 13 14 24 wdv w.old i (Fc 26 (@Z4t w.heap.C (w.old.getD i M) oq oq) (Fc 32 (@Z1Q w ((ofA w.heap.C (w.old.getD i M)).1) oq oq) (FeG 40 (!!Z1d w (ofA w.heap.C (w.old.getD i M)).1) wdv w.old (↑i) i (FcG 42 (!!Z1d w (ofA w.heap.C (w.old.getD i M)).1) (λhg=>by(try simp only[bs]at hg);exact @Z0H w.Q (w.old.getD i M) oq) (Fts 43 (!Z1d w (ofA w.heap.C (w.old.getD i M)).1||Ld (w.old.getD i M∈w.Q)) (Fx 16 i Fz)))))))
  .have e7:Z5l w (w.old.getD i M)=⟨⟨w.heap.C,(Z0r w.heap.W (w.old.getD i M) (objW ⟨0,(hdW w (w.old.getD i M)).length,0⟩)).1,w.heap.P,w.heap.S,w.heap.B⟩,w.old,w.T,w.Q,w.D,⟨w.rep.copied,w.rep.kept,w.rep.filled+1,w.rep.freed,w.rep.cleared,w.rep.steps⟩⟩:=by rw[Z5l,if_pos ⟨c1,c2⟩]
   rw[e7];exact sF [] [] (Fh 71 [.els (Lb wdv ([(Z0a (Header.mk 0 (hdW w (w.old.getD i M)).length 0)).1]++Lf (hdW w (w.old.getD i M)).length.toNat 0))] (FN 13 14 24 wdv w.old i (Fc 26 (@Z4t w.heap.C (w.old.getD i M) oq oq) (Fc 32 (@Z1Q w ((ofA w.heap.C (w.old.getD i M)).1) oq oq) (FeG 40 (!!Z1d w (ofA w.heap.C (w.old.getD i M)).1) wdv w.old (↑i) i (FcG 42 (!!Z1d w (ofA w.heap.C (w.old.getD i M)).1) (λhg=>by(try simp only[bs]at hg);exact @Z0H w.Q (w.old.getD i M) oq) (Ffs 43 (!Z1d w (ofA w.heap.C (w.old.getD i M)).1||Ld (w.old.getD i M∈w.Q)) (Fek 48 wdv w.old (↑i) i (Fc 50 (@Zir w (w.old.getD i M) aa aa oq) (Fc 55 (@Z3e (Header.mk 0 (hdW w (w.old.getD i M)).length 0) (by(simp only[bs];omega))) (Fek 65 wdv w.old (↑i) i (Fs 68 (Lb wdv [(Z0a (Header.mk 0 (hdW w (w.old.getD i M)).length 0)).1]) (Fa (by grind[objW]:0<=(hdW w (w.old.getD i M)).length/\(↑(Lb wdv [(Z0a (Header.mk 0 (hdW w (w.old.getD i M)).length 0)).1]).length:Int)+(hdW w (w.old.getD i M)).length<=2^30) (Fa (by simp[objW,LC,L3,LB,LA,wdv,idv]:Lb wdv [(Z0a (Header.mk 0 (hdW w (w.old.getD i M)).length 0)).1]++Lf (hdW w (w.old.getD i M)).length.toNat [du64 0]=Lb wdv ([(Z0a (Header.mk 0 (hdW w (w.old.getD i M)).length 0)).1]++Lf (hdW w (w.old.getD i M)).length.toNat 0)) (Fc 72 (@Z4V w.heap.W ([(Z0a (Header.mk 0 (hdW w (w.old.getD i M)).length 0)).1]++Lf (hdW w (w.old.getD i M)).length.toNat 0) (w.old.getD i M) oq oq (by grind[objW])) (Fi 80 (w.rep.filled+1) (Fx 16 i Fz)))))))))))))))))
 .have e7:Z5l w (w.old.getD i M)=w:=by rw[Z5l,if_neg (by rintro⟨q,_⟩;exact c1 q)]
  rw[e7];exact sF [] [] (FN 13 14 24 wdv w.old i (Fc 26 (@Z4t w.heap.C (w.old.getD i M) oq oq) (Fc 32 (@Z1Q w ((ofA w.heap.C (w.old.getD i M)).1) oq oq) (FeG 40 (!!Z1d w (ofA w.heap.C (w.old.getD i M)).1) wdv w.old (↑i) i (FcG 42 (!!Z1d w (ofA w.heap.C (w.old.getD i M)).1) (λhg=>by(try simp only[bs]at hg);exact @Z0H w.Q (w.old.getD i M) oq) (Fts 43 (!Z1d w (ofA w.heap.C (w.old.getD i M)).1||Ld (w.old.getD i M∈w.Q)) (Fx 16 i Fz)))))))
end
def Zlz(w:Work):CP (rndF f87 0) (Zk6 w w.old.length).st (.ext 0) (Tg.st ⟨tm 84 [(1,.pt 8001 0 0),(2,.pt 8002 0 0)],[(8002,.box 138 zW),(8001,.box 138 w.cells)],60⟩):=by
 exact sF [] [] (FO 13 14 wdv w.old Fz)
def Zja(w:Work)(x:Int):∃ l n,Z5l w x=⟨⟨w.heap.C,l,w.heap.P,w.heap.S,w.heap.B⟩,w.old,w.T,w.Q,w.D,⟨w.rep.copied,w.rep.kept,n,w.rep.freed,w.rep.cleared,w.rep.steps⟩⟩/\l.length<=w.heap.W.length/\(WOk w.heap.W->WOk l)/\w.rep.filled<=n/\n<=w.rep.filled+1:=by
 unfold Z5l;split
 .refine⟨_,_,rfl,Z8t _ _ _,λh=>Z6f h ?_ _,by omega,by omega⟩;intro y hy;have hh:0<=(hdW w x).length/\(hdW w x).length<=255:=Z0e w.heap.W x;simp only[objW,LG,Lv,Z5e hh]at hy;rcases hy with rfl | ⟨_,rfl⟩<;>omega
 .exact⟨w.heap.W,w.rep.filled,rfl,Lh _,λh=>h,by omega,by omega⟩
def Z5d(w:Work)(hw:FOk w):∀ k,FOk (fillN w k)/\(fillN w k).heap.C=w.heap.C/\(fillN w k).heap.P=w.heap.P/\(fillN w k).heap.S=w.heap.S/\(fillN w k).heap.B=w.heap.B/\(fillN w k).old=w.old/\(fillN w k).T=w.T/\(fillN w k).Q=w.Q/\(fillN w k).rep.freed=w.rep.freed/\(fillN w k).rep.cleared=w.rep.cleared/\w.rep.filled<=(fillN w k).rep.filled/\(fillN w k).rep.filled<=w.rep.filled+k
 | 0=>⟨hw,rfl,rfl,rfl,rfl,rfl,rfl,rfl,rfl,rfl,by simp[fillN],by simp[fillN]⟩
 | k+1=>by
  obtain⟨i0,i1,i2,i3,i4,i5,i6,i7,i8,i9,i10,i11⟩:=Z5d w hw k;obtain⟨l,n,e,e1,e2,e3,e4⟩:=Zja (fillN w k) (w.old.getD k M);have:fillN w (k+1)=_:=e;rw[this];have hl:=i0.wl;exact⟨⟨e2 i0.W,by simp only;omega,i0.pl,i0.ol,i0.o,i0.tl,i0.ql⟩,i1,i2,i3,i4,i5,i6,i7,i8,i9,by simp only;omega,by simp only;omega⟩
section
variable (w:Work) (hw:FOk w) (hr:w.rep.filled=0)
include hw hr
theorem ZjW:CP (blkF f87 0) (Tg.st ⟨tm 84 [(1,.pt 8001 0 0),(2,.pt 8002 0 0),(3,int 0)],[(8002,.box 138 zW),(8001,.box 138 w.cells)],60⟩) .nrm (Tg.st ⟨tm 84 [(1,.pt 8001 0 0),(2,.pt 8002 0 0)],[(8002,.box 138 zW),(8001,.box 138 (fillN w w.old.length).cells)],60⟩):=by
 have hol:=hw.ol;refine Z09 (S:=λk=>(Zk6 (fillN w k) k).st) w.old.length kr (λk hk=>?_) ?_
 .have h:=Z5d w hw k;have:=ZgS (fillN w k) k h.1 (by rw[h.2.2.2.2.2.1];exact hk) oq;rw[h.2.2.2.2.2.1]at this;exact this
 .have h:=Z5d w hw w.old.length;have:=Zlz (fillN w w.old.length);rw[h.2.2.2.2.2.1]at this;exact this
theorem Zdb:GP 87 [w.av] La (fillN w w.old.length).av []:=by
 exact gF [] func87 [] (Fu (@ZjW w aa aa) Fz)
end
def Z39(s:Int)(p:Page):Prop:=p.K≠0/\p.S=s
instance (s:Int) (p:Page):Decidable (Z39 s p):=by unfold Z39;infer_instance
def Z1o(s:Int)(p:Page):Page:=if Z39 s p then⟨0,0,0,0⟩else p
def Z26(pw s:Int)(l:List Page)(ws:List Int):Nat->List Int
 | 0=>ws
 | i+1=>if Z39 s (l.getD i M)then spl (Z26 pw s l ws i) (i*pw.toNat) (Lf pw.toNat 0)else Z26 pw s l ws i
def Z4r(n s:Int)(l:List Page):Nat->Int
 | 0=>n
 | i+1=>if Z39 s (l.getD i M)then Z4r n s l i+1 else Z4r n s l i
def Zgr(w:Work)(ps:List Page)(ws:List Int)(n:Int)(i:Nat):Tg:=⟨tm 78 [(1,.pt 8001 0 0),(2,.pt 8002 0 0),(3,int i)],[(8001,.box 138 [int w.heap.C.pw,int w.heap.C.pg,.ow 24017,.ow 16010,int w.heap.S,int w.heap.B,Z01 w.old,Z0V w.T,Z01 w.Q,int w.D,int w.rep.copied,int w.rep.kept,int w.rep.filled,int n,int w.rep.cleared,int w.rep.steps]),(24017,.arr 35 1 (ws.map wdv)),(16010,.arr 86 4 (ps.map Page.dv)),(8002,.box 138 zW)],60⟩
def Zjz(w:Work)(ps:List Page)(ws:List Int)(n:Int)(i:Nat)(hl:ps.length<=64)(hi:i<ps.length)(hb:¬ Z39 w.heap.S (ps.getD i M)):CP (rndF f86 0) (Zgr w ps ws n i).st .nrm (Zgr w ps ws n (i+1)).st:=by
 unfold Z39 at hb;have hb':¬ ((ps.getD (i:Int).toNat M).K≠0/\(ps.getD (i:Int).toNat M).S=w.heap.S):=hb;exact sF [] [] (FM 24 25 Page.dv ps i (Fmq 33 Page.dv ps (↑i) (Ftb 44 ((ps.getD (i:Int).toNat M).K==0||(ps.getD (i:Int).toNat M).S != w.heap.S) (Fx 27 i Fz))))
def Zit(w:Work)(ps:List Page)(ws:List Int)(n:Int)(i k:Nat):Tg:=⟨tm 78 [(1,.pt 8001 0 0),(2,.pt 8002 0 0),(3,int i),(5,int k)],[(8001,.box 138 [int w.heap.C.pw,int w.heap.C.pg,.ow 24017,.ow 16010,int w.heap.S,int w.heap.B,Z01 w.old,Z0V w.T,Z01 w.Q,int w.D,int w.rep.copied,int w.rep.kept,int w.rep.filled,int n,int w.rep.cleared,int w.rep.steps]),(16010,.arr 86 4 (ps.map Page.dv)),(24017,.arr 35 1 ((wr ws (Lf w.heap.C.pw.toNat 0) (i*w.heap.C.pw.toNat) k).map wdv)),(8002,.box 138 zW)],64⟩
section
variable (w:Work) (ps:List Page) (ws:List Int) (n:Int) (i k:Nat) (hp:0<=w.heap.C.pw/\w.heap.C.pw<=64) (hi:i<=64) (hl:i*w.heap.C.pw.toNat+w.heap.C.pw.toNat<=ws.length) (hw:ws.length<=4096)
include hp hi hl hw
theorem ZgG(hk:k<w.heap.C.pw.toNat):CP (rndF f86 2) (Zit w ps ws n i k).st .nrm (Zit w ps ws n i (k+1)).st:=by
 have hs:=Zbj (ws:=ws) (l:=Lf w.heap.C.pw.toNat 0) (i:=i*w.heap.C.pw.toNat) (k:=k) (by simpa using hl) (by simpa using hk) (0:Int);rw[show(Lf w.heap.C.pw.toNat (0:Int)).getD k 0=0 by simp[List.getD,hk]]at hs;have hn:=Z4S (ws:=ws) (l:=Lf w.heap.C.pw.toNat (0:Int)) (i:=i*w.heap.C.pw.toNat) (k:=k) (by simpa using hl) qo;have em:(i:Int)*w.heap.C.pw=((i*w.heap.C.pw.toNat:Nat):Int):=by rw[LR,LV hp.1]
 have ei:(i:Int)*w.heap.C.pw+k=((i*w.heap.C.pw.toNat+k:Nat):Int):=by omega
 exact sF [] (fO 6) (Fh 10076 [.els (Lb wdv ((wr ws (Lf w.heap.C.pw.toNat 0) (i*w.heap.C.pw.toNat) k).set (↑(i*w.heap.C.pw.toNat+k):Int).toNat 0))] (Ftb 62 (Ld ((k:Int)<w.heap.C.pw)) (Fi 73 ((i:Int)*w.heap.C.pw) (Fg 75 (by rw[wrapI' oq oq];omega:IntKind.i64.wrap ((i:Int)*w.heap.C.pw+(k:Int))=(↑(i*w.heap.C.pw.toNat+k):Int)) (Fa (by(simp only[Lj];omega):0<=(↑(i*w.heap.C.pw.toNat+k):Int)/\(↑(i*w.heap.C.pw.toNat+k):Int).toNat<(Lb wdv (wr ws (Lf w.heap.C.pw.toNat 0) (i*w.heap.C.pw.toNat) k)).length) (Fa (by(simp only[Lj];omega):(↑(i*w.heap.C.pw.toNat+k):Int).toNat<(Lb wdv (wr ws (Lf w.heap.C.pw.toNat 0) (i*w.heap.C.pw.toNat) k)).length) (Fa (ms:(Lb wdv (wr ws (Lf w.heap.C.pw.toNat 0) (i*w.heap.C.pw.toNat) k)).set (↑(i*w.heap.C.pw.toNat+k):Int).toNat [du64 0]=Lb wdv ((wr ws (Lf w.heap.C.pw.toNat 0) (i*w.heap.C.pw.toNat) k).set (↑(i*w.heap.C.pw.toNat+k):Int).toNat 0)) (Fx 64 k (Fr (35:Int) (Fa (by refine congrArg _ ?_;exact hs:Lb wdv ((wr ws (Lf w.heap.C.pw.toNat 0) (i*w.heap.C.pw.toNat) k).set (↑(i*w.heap.C.pw.toNat+k):Int).toNat 0)=Lb wdv (wr ws (Lf w.heap.C.pw.toNat 0) (i*w.heap.C.pw.toNat) (k+1))) Fz))))))))))
theorem Zm1:CP (rndF f86 2) (Zit w ps ws n i w.heap.C.pw.toNat).st (.ext 2) (Tg.st ⟨tm 78 [(1,.pt 8001 0 0),(2,.pt 8002 0 0),(3,int i)],[(8001,.box 138 [int w.heap.C.pw,int w.heap.C.pg,.ow 24017,.ow 16010,int w.heap.S,int w.heap.B,Z01 w.old,Z0V w.T,Z01 w.Q,int w.D,int w.rep.copied,int w.rep.kept,int w.rep.filled,int n,int w.rep.cleared,int w.rep.steps]),(16010,.arr 86 4 (ps.map Page.dv)),(24017,.arr 35 1 ((spl ws (i*w.heap.C.pw.toNat) (Lf w.heap.C.pw.toNat 0)).map wdv)),(8002,.box 138 zW)],64⟩):=by
 have hs:=ZcW ws (Lf w.heap.C.pw.toNat (0:Int)) (i*w.heap.C.pw.toNat);rw[List.length_replicate]at hs;exact sF [] (fO 5) (Ffb 62 (Ld ((w.heap.C.pw.toNat:Int)<w.heap.C.pw)) (Fr (35:Int) (Fa (by refine congrArg _ ?_;assumption:Lb wdv (wr ws (Lf w.heap.C.pw.toNat 0) (i*w.heap.C.pw.toNat) w.heap.C.pw.toNat)=Lb wdv (spl ws (i*w.heap.C.pw.toNat) (Lf w.heap.C.pw.toNat 0))) Fz)))
theorem Zje:CP (blkF f86 2) (Tg.st ⟨tm 78 [(1,.pt 8001 0 0),(2,.pt 8002 0 0),(3,int i),(5,int 0)],[(8001,.box 138 [int w.heap.C.pw,int w.heap.C.pg,.ow 24017,.ow 16010,int w.heap.S,int w.heap.B,Z01 w.old,Z0V w.T,Z01 w.Q,int w.D,int w.rep.copied,int w.rep.kept,int w.rep.filled,int n,int w.rep.cleared,int w.rep.steps]),(16010,.arr 86 4 (ps.map Page.dv)),(24017,.arr 35 1 (ws.map wdv)),(8002,.box 138 zW)],64⟩) .nrm (Tg.st ⟨tm 78 [(1,.pt 8001 0 0),(2,.pt 8002 0 0),(3,int i)],[(8001,.box 138 [int w.heap.C.pw,int w.heap.C.pg,.ow 24017,.ow 16010,int w.heap.S,int w.heap.B,Z01 w.old,Z0V w.T,Z01 w.Q,int w.D,int w.rep.copied,int w.rep.kept,int w.rep.filled,int n,int w.rep.cleared,int w.rep.steps]),(16010,.arr 86 4 (ps.map Page.dv)),(24017,.arr 35 1 ((spl ws (i*w.heap.C.pw.toNat) (Lf w.heap.C.pw.toNat 0)).map wdv)),(8002,.box 138 zW)],64⟩):=by
 have:=Z09 (S:=λk=>(Zit w ps ws n i k).st) w.heap.C.pw.toNat kr (λk hk=>ZgG w ps ws n i k hp hi hl hw hk) (Zm1 w ps ws n i hp hi hl hw)
 simp only[Zit,Z7X]at this;exact this
end
def ZjI(w:Work)(ps:List Page)(ws:List Int)(n:Int)(i:Nat)(hl:ps.length<=64)(hi:i<ps.length)(hb:Z39 w.heap.S (ps.getD i M))(hp:0<=w.heap.C.pw/\w.heap.C.pw<=64)(hs:i*w.heap.C.pw.toNat+w.heap.C.pw.toNat<=ws.length)(hw:ws.length<=4096)(hn:0<=n/\n<=64):CP (rndF f86 0) (Zgr w ps ws n i).st .nrm (Zgr w (ps.set i ⟨0,0,0,0⟩) (spl ws (i*w.heap.C.pw.toNat) (Lf w.heap.C.pw.toNat 0)) (n+1) (i+1)).st:=by
 unfold Z39 at hb;have hb':(ps.getD (i:Int).toNat M).K≠0/\(ps.getD (i:Int).toNat M).S=w.heap.S:=hb;exact sF [] [] (Fh 10050 [.els (Lb Page.dv (ps.set (i:Int).toNat (Page.mk 0 0 0 0)))] (FM 24 25 Page.dv ps i (Fmq 33 Page.dv ps (↑i) (Ffb 44 ((ps.getD (i:Int).toNat M).K==0||(ps.getD (i:Int).toNat M).S != w.heap.S) (Fa (by(simp only[Lj];omega):0<=(i:Int)/\(i:Int).toNat<(Lb Page.dv ps).length) (Fa (by(simp only[Lj];omega):(i:Int).toNat<(Lb Page.dv ps).length) (Fa (by rw[LB];rfl:(Lb Page.dv ps).set (i:Int).toNat [dint 0,dint 0,dint 0,dint 0]=Lb Page.dv (ps.set (i:Int).toNat (Page.mk 0 0 0 0))) (Fi 54 (n+1) (Fu (@Zje w (ps.set (i:Int).toNat (Page.mk 0 0 0 0)) ws (n+1) i aa oq aa aa) (Fx 27 i Fz))))))))))
def Z55{pw s:Int}{l:List Page}{ws:List Int}(h:l.length*pw.toNat<=ws.length):∀ i,i<=l.length->(Z26 pw s l ws i).length=ws.length
 | 0,_=>rfl
 | i+1,hi=>by
  have ih:=Z55 (s:=s) h i oq;have hm:(i+1)*pw.toNat<=l.length*pw.toNat:=Xb _ hi;rw[L7,Xc]at hm;unfold Z26;split
  .rw[Z3J qo,ih]
  .exact ih
def Z5I(n s:Int)(l:List Page):∀ i:Nat,n<=Z4r n s l i/\Z4r n s l i<=n+i
 | 0=>by simp[Z4r]
 | i+1=>by
  have ih:=Z5I n s l i;unfold Z4r;split<;>omega
def Z1f(w:Work):Work:=⟨⟨w.heap.C,Z26 w.heap.C.pw w.heap.S w.heap.P w.heap.W w.heap.P.length,w.heap.P.map (Z1o w.heap.S),w.heap.S,w.heap.B⟩,w.old,w.T,w.Q,w.D,⟨w.rep.copied,w.rep.kept,w.rep.filled,Z4r w.rep.freed w.heap.S w.heap.P w.heap.P.length,w.rep.cleared,w.rep.steps⟩⟩
def ZlW(w:Work)(ps:List Page)(ws:List Int)(n:Int):CP (rndF f86 0) (Zgr w ps ws n ps.length).st (.ext 0) (Tg.st ⟨tm 78 [(1,.pt 8001 0 0),(2,.pt 8002 0 0)],[(8001,.box 138 [int w.heap.C.pw,int w.heap.C.pg,.ow 24017,.ow 16010,int w.heap.S,int w.heap.B,Z01 w.old,Z0V w.T,Z01 w.Q,int w.D,int w.rep.copied,int w.rep.kept,int w.rep.filled,int n,int w.rep.cleared,int w.rep.steps]),(24017,.arr 35 1 (ws.map wdv)),(16010,.arr 86 4 (ps.map Page.dv)),(8002,.box 138 zW)],60⟩):=by
 exact sF [] [] (FO 24 25 Page.dv ps Fz)
section
variable (w:Work) (hl:w.heap.P.length<=64) (hp:0<=w.heap.C.pw/\w.heap.C.pw<=64) (hs:w.heap.P.length*w.heap.C.pw.toNat<=w.heap.W.length) (hw:w.heap.W.length<=4096) (hr:w.rep.freed=0)
include hl hp hs hw hr
theorem Zkb:CP (blkF f86 0) (Tg.st ⟨tm 78 [(1,.pt 8001 0 0),(2,.pt 8002 0 0),(3,int 0)],[(8001,.box 138 [int w.heap.C.pw,int w.heap.C.pg,.ow 24017,.ow 16010,int w.heap.S,int w.heap.B,Z01 w.old,Z0V w.T,Z01 w.Q,int w.D,int w.rep.copied,int w.rep.kept,int w.rep.filled,int w.rep.freed,int w.rep.cleared,int w.rep.steps]),(24017,.arr 35 1 (w.heap.W.map wdv)),(16010,.arr 86 4 (w.heap.P.map Page.dv)),(8002,.box 138 zW)],60⟩) .nrm (Tg.st ⟨tm 78 [(1,.pt 8001 0 0),(2,.pt 8002 0 0)],[(8001,.box 138 [int w.heap.C.pw,int w.heap.C.pg,.ow 24017,.ow 16010,int w.heap.S,int w.heap.B,Z01 w.old,Z0V w.T,Z01 w.Q,int w.D,int w.rep.copied,int w.rep.kept,int w.rep.filled,int (Z4r w.rep.freed w.heap.S w.heap.P w.heap.P.length),int w.rep.cleared,int w.rep.steps]),(24017,.arr 35 1 ((Z26 w.heap.C.pw w.heap.S w.heap.P w.heap.W w.heap.P.length).map wdv)),(16010,.arr 86 4 ((w.heap.P.map (Z1o w.heap.S)).map Page.dv)),(8002,.box 138 zW)],60⟩):=by
 refine Z09 (S:=λk=>(Zgr w (preM (Z1o w.heap.S) w.heap.P k) (Z26 w.heap.C.pw w.heap.S w.heap.P w.heap.W k) (Z4r w.rep.freed w.heap.S w.heap.P k) k).st) w.heap.P.length kr (λk hk=>?_) ?_
 .have h1:=Z5j (Z1o w.heap.S) w.heap.P k;have h2:=Zap (Z1o w.heap.S) w.heap.P (Lh k) M;have h3:=Z55 (s:=w.heap.S) hs k oq;have h4:=Z5I w.rep.freed w.heap.S w.heap.P k;by_cases hb:Z39 w.heap.S (w.heap.P.getD k M)
  .have e1:=Z8k (Z1o w.heap.S) w.heap.P hk M;have e2:Z26 w.heap.C.pw w.heap.S w.heap.P w.heap.W (k+1)=spl (Z26 w.heap.C.pw w.heap.S w.heap.P w.heap.W k) (k*w.heap.C.pw.toNat) (Lf w.heap.C.pw.toNat 0):=by rw[Z26,if_pos hb]
   have e3:Z4r w.rep.freed w.heap.S w.heap.P (k+1)=Z4r w.rep.freed w.heap.S w.heap.P k+1:=by rw[Z4r,if_pos hb]
   rw[Z1o,if_pos hb]at e1;rw[<- e1,e2,e3];have hm:(k+1)*w.heap.C.pw.toNat<=w.heap.P.length*w.heap.C.pw.toNat:=Xb _ hk;rw[L7,Xc]at hm;exact ZjI w _ _ _ k oq oq (by rw[h2];exact hb) hp oq oq oq
  .have e1:=ZcA (Z1o w.heap.S) w.heap.P hk M (by rw[Z1o,if_neg hb]);have e2:Z26 w.heap.C.pw w.heap.S w.heap.P w.heap.W (k+1)=Z26 w.heap.C.pw w.heap.S w.heap.P w.heap.W k:=by rw[Z26,if_neg hb]
   have e3:Z4r w.rep.freed w.heap.S w.heap.P (k+1)=Z4r w.rep.freed w.heap.S w.heap.P k:=by rw[Z4r,if_neg hb]
   rw[<- e1,e2,e3];exact Zjz w _ _ _ k oq oq (by rw[h2];exact hb)
 .have h:=ZlW w (preM (Z1o w.heap.S) w.heap.P w.heap.P.length) (Z26 w.heap.C.pw w.heap.S w.heap.P w.heap.W w.heap.P.length) (Z4r w.rep.freed w.heap.S w.heap.P w.heap.P.length);rw[Z5j,ZaS]at h;simp only[ZaS];exact h
theorem Zcz:GP 86 [w.av] La (Z1f w).av []:=by
 have h1:=Z55 (s:=w.heap.S) hs w.heap.P.length (Lh _);have h2:=Z5I w.rep.freed w.heap.S w.heap.P w.heap.P.length;exact gF [] func86 [] (FAx 6 10 Page.dv w.heap.P (by(simp[Z1f, *];omega)) (FAx 13 17 wdv w.heap.W (by(simp[Z1f, *];omega)) (Fu (@Zkb w aa aa aa aa aa) Fz)))
end
def rep0:Rep:=⟨0,0,0,0,0,0⟩
def Z4G{h:Heap}{l:List Int}(e:Z0i h l=O):Z0R h=⟨0,0,0⟩:=by
 simp only[Z0i,Lx,decide_eq_true_eq]at e;exact e.1
section
variable (h:Heap) (s k:List Int) (hw:WOk h.W) (hs:s.length<=1048575) (hk:k.length<=1048575) (hs2:ULe s) (hk2:ULe k)
include hw hs hk hs2 hk2
theorem Zjb(hp:Z03 h=La):GP 36 [h.av,Z01 s,Z01 k] La (.tu [noHeap.av,Z01 [],Z01 [],.ag rep0.cells,int 1]) []:=by
 exact gF [] func36 [] (Fc 20 (@Z0g h) (Ftb 21 (!Z03 h) (Fnl (Fnl (Fnl (Fnl Fz))))))
theorem ZjD(hp:Z03 h=O)(hr:Z0i h s=La\/Z0i h k=La):GP 36 [h.av,Z01 s,Z01 k] La (.tu [noHeap.av,Z01 [],Z01 [],.ag rep0.cells,int 19]) []:=by
 by_cases h1:Z0i h s=La
 .exact gF [] func36 [] (Fc 20 (@Z0g h) (Ffb 21 (!Z03 h) (Fc 26 (@Z1G h s aa oq) (FcG 31 (!!Z0i h s) (λhg=>by(try simp only[bs]at hg);exact @ZbW h k aa (by(try simp only[bs]at hg);grind[noHeap,rep0])) (Fts 33 (!Z0i h s||O) (Fnl (Fnl (Fnl (Fnl Fz)))))))))
 .have h2:Z0i h k=La:=by
   rcases hr with hr | hr
   .exact absurd hr h1
   .exact hr
  exact gF [] func36 [] (Fc 20 (@Z0g h) (Ffb 21 (!Z03 h) (Fc 26 (@Z1G h s aa oq) (FcG 31 (!!Z0i h s) (λhg=>by(try simp only[bs]at hg);exact @Z1G h k aa oq) (Ftb 33 (!Z0i h s||!Z0i h k) (Fnl (Fnl (Fnl (Fnl Fz)))))))))
theorem Zka(hp:Z03 h=O)(hr:Z0i h s=O)(hr':Z0i h k=O)(e:¬ (rootsF (beginW h) s).2.2=0):GP 36 [h.av,Z01 s,Z01 k] La (.tu [noHeap.av,Z01 [],Z01 [],.ag rep0.cells,int (rootsF (beginW h) s).2.2]) []:=by
 have hb:=Z3z hw hp;have hg:=Z4G hr;exact gF [] func36 [] (Fc 20 (@Z0g h) (Ffb 21 (!Z03 h) (Fc 26 (@Z1G h s aa oq) (FcG 31 (!!Z0i h s) (λhg=>by(try simp only[bs]at hg);exact @Z1G h k aa oq) (Ffs 33 (!Z0i h s||!Z0i h k) (Fc 38 (@Z4h h aa aa aa) (Fc 44 (@Z5h (beginW h) s aa aa aa) (Ftb 49 ((rootsF (beginW h) s).2.2 != 0) (Fnl (Fnl (Fnl (Fnl Fz))))))))))))
theorem ZkF(hp:Z03 h=O)(hr:Z0i h s=O)(hr':Z0i h k=O)(e:(rootsF (beginW h) s).2.2=0)(e2:¬ (allF (rootsF (beginW h) s).1).2=0):GP 36 [h.av,Z01 s,Z01 k] La (.tu [noHeap.av,Z01 [],Z01 [],.ag rep0.cells,int (allF (rootsF (beginW h) s).1).2]) []:=by
 have hb:=Z3z hw hp;have hi:=Z3m hp;have hg:=Z4G hr;have ho:=Z3i (roots:=s) hb hi e;have ho1:=ho.1;let y0:=rootsF (beginW h) s;exact gF [] func36 [] (Fc 20 (@Z0g h) (Ffb 21 (!Z03 h) (Fc 26 (@Z1G h s aa oq) (FcG 31 (!!Z0i h s) (λhg=>by(try simp only[bs]at hg);exact @Z1G h k aa oq) (Ffs 33 (!Z0i h s||!Z0i h k) (Fc 38 (@Z4h h aa aa aa) (Fc 44 (@Z5h (beginW h) s aa aa aa) (Ffb 49 (y0.2.2 != 0) (Fc 55 (@Zby (y0.1) aa) (Ftb 59 ((allF y0.1).2 != 0) (Fnl (Fnl (Fnl (Fnl Fz))))))))))))))
end
def Z76(w:Work)(x:Int):Int:=if x=0 then 0 else Z1v w x
def Z9j(w:Work)(x:Int):Work:=⟨w.heap,w.old,w.T,w.Q,w.D,⟨w.rep.copied,w.rep.kept,w.rep.filled,w.rep.freed,if x≠0/\Z1v w x=0 then w.rep.cleared+1 else w.rep.cleared,w.rep.steps⟩⟩
def weakS(w:Work)(k:List Int):Nat->Work
 | 0=>w
 | i+1=>Z9j (weakS w k i) (k.getD i M)
def Z4d(w:Work)(k:List Int):Nat->List Int
 | 0=>[]
 | i+1=>Z4d w k i++[Z76 (weakS w k i) (k.getD i M)]
def Z53(w:Work)(k:List Int):∀ i,(weakS w k i).heap=w.heap/\(weakS w k i).old=w.old/\(weakS w k i).T=w.T/\(weakS w k i).Q=w.Q/\(weakS w k i).rep.filled=w.rep.filled/\(weakS w k i).rep.freed=w.rep.freed/\w.rep.cleared<=(weakS w k i).rep.cleared/\(weakS w k i).rep.cleared<=w.rep.cleared+i
 | 0=>⟨rfl,rfl,rfl,rfl,rfl,rfl,by simp[weakS],by simp[weakS]⟩
 | i+1=>by
  obtain⟨h1,h2,h3,h4,h5,h6,h7,h8⟩:=Z53 w k i;refine⟨h1,h2,h3,h4,h5,h6, ?_, ?_⟩
  .simp only[weakS,Z9j];split<;>omega
  .simp only[weakS,Z9j];split<;>omega
def Z8K(w:Work)(k:List Int):∀ i,(Z4d w k i).length=i
 | 0=>rfl
 | i+1=>by simp[Z4d,Z8K w k i]
def Zl5(w:Work)(k roots out:List Int)(i:Nat):Tg:=⟨tm 122 [(2,Z01 k),(6,.pt 8006 0 0),(7,.d (.sl 0 [])),(8,.d (.sl 0 [])),(9,.pt 8009 0 0),(10,int 0),(11,.pt 32011 0 0),(13,Z01 roots),(15,.ow 72015),(16,int i)],[(72015,.arr 35 1 (out.map wdv)),(32011,.box 138 w.cells),(8009,.box 73 [int 0,int 0,int 0,int 0,int 0,int 0]),(8006,.box 28 [int 0,int 0,.d (.sl 0 []),.d (.sl 0 []),int 0,int 0])],60⟩
section
variable (w:Work) (k roots out:List Int) (i:Nat) (hw:WOk w.heap.W) (hl:w.heap.W.length<=4096) (hq:w.Q.length<=1048576) (hk:k.length<=1048575) (hx:0<=k.getD i M/\k.getD i M<=18446744073709551615) (ho:out.length<=1048576) (hi:i<k.length) (hc:0<=w.rep.cleared/\w.rep.cleared<=2097152)
include hw hl hq hk hx ho hi hc
theorem Zi2:CP (rndF f36 0) (Zl5 w k roots out i).st .nrm (Zl5 (Z9j w (k.getD i M)) k roots (out++[Z76 w (k.getD i M)]) (i+1)).st:=by
 by_cases h0:k.getD i M=0
 .have e1:Z76 w (k.getD i M)=0:=by rw[Z76,if_pos h0]
  have e2:Z9j w (k.getD i M)=w:=by rw[Z9j,if_neg (by rintro⟨q,_⟩;exact q h0)]
  rw[e1,e2];exact sF [(504091,72015)] [] (Fh 91 [.els (Lb wdv (out++[0]))] (FN 65 66 71 wdv k i (Ffb 73 (k.getD i M != 0) (Fs 90 (Lb wdv [0]) (Fa (by(simp[*];omega):(Lb wdv out).length+(Lb wdv [0]).length<=2^30) (Fa (ms:Lb wdv out++Lb wdv [0]=Lb wdv (out++[0])) (Fx 68 i Fz)))))))
 .have e1:Z76 w (k.getD i M)=Z1v w (k.getD i M):=by rw[Z76,if_neg h0]
  rw[e1];by_cases h2:Z1v w (k.getD i M)=0
  .have e2:Z9j w (k.getD i M)=⟨w.heap,w.old,w.T,w.Q,w.D,⟨w.rep.copied,w.rep.kept,w.rep.filled,w.rep.freed,w.rep.cleared+1,w.rep.steps⟩⟩:=by rw[Z9j,if_pos ⟨h0,h2⟩]
   rw[e2];let y0:=k.getD i M;exact sF [(528091,72015)] [] (Fh 91 [.els (Lb wdv (out++[Z1v w y0]))] (FN 65 66 71 wdv k i (Ftb 73 (k.getD i M != 0) (Fek 77 wdv k (↑i) i (Fc 79 (@Z9o w y0 aa aa aa aa) (Ftb 81 (Z1v w y0==0) (Fi 85 (w.rep.cleared+1) (Fs 90 (Lb wdv [Z1v w y0]) (Fa (by(simp[*];omega):(Lb wdv out).length+(Lb wdv [Z1v w y0]).length<=2^30) (Fa (ms:Lb wdv out++Lb wdv [Z1v w y0]=Lb wdv (out++[Z1v w y0])) (Fx 68 i Fz)))))))))))
  .have e2:Z9j w (k.getD i M)=w:=by rw[Z9j,if_neg (by rintro⟨_,q⟩;exact h2 q)]
   rw[e2];let y1:=k.getD i M;exact sF [(520091,72015)] [] (Fh 91 [.els (Lb wdv (out++[Z1v w y1]))] (FN 65 66 71 wdv k i (Ftb 73 (k.getD i M != 0) (Fek 77 wdv k (↑i) i (Fc 79 (@Z9o w y1 aa aa aa aa) (Ffb 81 (Z1v w y1==0) (Fs 90 (Lb wdv [Z1v w y1]) (Fa (by(simp[*];omega):(Lb wdv out).length+(Lb wdv [Z1v w y1]).length<=2^30) (Fa (ms:Lb wdv out++Lb wdv [Z1v w y1]=Lb wdv (out++[Z1v w y1])) (Fx 68 i Fz))))))))))
end
def Zmi(w:Work)(k roots out:List Int):CP (rndF f36 0) (Zl5 w k roots out k.length).st (.ext 0) (Tg.st ⟨tm 122 [(6,.pt 8006 0 0),(7,.d (.sl 0 [])),(8,.d (.sl 0 [])),(9,.pt 8009 0 0),(10,int 0),(11,.pt 32011 0 0),(13,Z01 roots),(15,.ow 72015)],[(72015,.arr 35 1 (out.map wdv)),(32011,.box 138 w.cells),(8009,.box 73 [int 0,int 0,int 0,int 0,int 0,int 0]),(8006,.box 28 [int 0,int 0,.d (.sl 0 []),.d (.sl 0 []),int 0,int 0])],60⟩):=by
 exact sF [] [] (FO 65 66 wdv k Fz)
def Zfb(w:Work)(k roots:List Int)(hw:WOk w.heap.W)(hl:w.heap.W.length<=4096)(hq:w.Q.length<=1048576)(hk:k.length<=1048575)(hx:ULe k)(hc:w.rep.cleared=0):CP (blkF f36 0) (Zl5 (weakS w k 0) k roots (Z4d w k 0) 0).st .nrm (Tg.st ⟨tm 122 [(6,.pt 8006 0 0),(7,.d (.sl 0 [])),(8,.d (.sl 0 [])),(9,.pt 8009 0 0),(10,int 0),(11,.pt 32011 0 0),(13,Z01 roots),(15,.ow 72015)],[(72015,.arr 35 1 ((Z4d w k k.length).map wdv)),(32011,.box 138 (weakS w k k.length).cells),(8009,.box 73 [int 0,int 0,int 0,int 0,int 0,int 0]),(8006,.box 28 [int 0,int 0,.d (.sl 0 []),.d (.sl 0 []),int 0,int 0])],60⟩):=by
 refine Z09 (S:=λi=>(Zl5 (weakS w k i) k roots (Z4d w k i) i).st) k.length kr (λi hi=>?_) (Zmi _ k roots _);have h:=Z53 w k i;exact Zi2 _ k roots _ i (by rw[h.1];exact hw) (by rw[h.1];exact hl) (by rw[h.2.2.2.1];exact hq) hk (Z58 hx i) (by rw[Z8K];omega) hi oq
abbrev cB(h:Heap)(s k:List Int):Work:=weakS (allF (rootsF (beginW h) s).1).1 k k.length
abbrev cA(h:Heap)(s k:List Int):Work:=fillN (cB h s k) (cB h s k).old.length
def Zdt{n:Int}(h:0<=n/\n<=255):(decodeH (1+16*n)).1.length=n:=by
 have e:Z2I (1+16*n)=⟨0,n,0⟩:=by
  simp only[Z2I,Header.mk.injEq];omega
 have he:=Z5e h;unfold decodeH;rw[e,he];simp
def ZiZ{w:Work}(h:CIv w){x:Int}(hx:x∈w.old):CIv (Z5l w x):=by
 unfold Z5l;split
 .rename_i hc;have hr:=h.r x (LF _ hx);have hh:=Z0e w.heap.W x;have hl:(objW ⟨0,(hdW w x).length,0⟩).length=(hlA w.heap.W x+1).toNat:=by
   show(objW ⟨0,hlA w.heap.W x,0⟩).length=_;simp[objW];omega
  have hin:4096<=x/\x-4096+(objW ⟨0,(hdW w x).length,0⟩).length<=w.heap.W.length:=by omega
  have hlen:(Z0r w.heap.W x (objW ⟨0,(hdW w x).length,0⟩)).1.length=w.heap.W.length:=by
   unfold Z0r;rw[if_pos hin];exact Z3J oq
  have:=h.withWords hlen (λa ha=>?_)
  .exact⟨this.L,this.r,this.s,this.f,this.z⟩
  .by_cases he:a=x
   .subst he;have:hlA (Z0r w.heap.W a (objW ⟨0,(hdW w a).length,0⟩)).1 a=hlA w.heap.W a:=by
     have e1:=Z1R (b:=a) hin oq;unfold hlA at *;rw[e1];have e2:(objW ⟨0,(hdW w a).length,0⟩).getD (a-a).toNat 0=1+16*(decodeH (loadA w.heap.W a).1).1.length:=by
      rw[Int.sub_self];show(Z0a ⟨0,(hdW w a).length,0⟩).1=_;rw[Z5e (show 0<=(hdW w a).length/\(hdW w a).length<=255 from hh)];rfl
     rw[e2];exact Zdt hh
    omega
   .have s1:=h.s a ha x (LF _ hx);have s2:=h.s x (LF _ hx) a ha;have ha0:=Z0e w.heap.W a;have:hlA (Z0r w.heap.W x (objW ⟨0,(hdW w x).length,0⟩)).1 a=hlA w.heap.W a:=by
     have e1:=Z20 (b:=a) hin (by
      rcases Int.lt_or_lt_of_ne he with q | q
      .exact Lm q
      .have:=s2 q;exact Lk oq)
     unfold hlA;rw[e1]
    omega
 .exact h
def ZcG{w:Work}(hw:FOk w)(h:CIv w):∀ k,k<=w.old.length->CIv (fillN w k)
 | 0,_=>h
 | k+1,hk=>ZiZ (ZcG hw h k oq) (by rw[(Z5d w hw k).2.2.2.2.2.1];exact getD_mem_iff.2 ⟨k,by omega,rfl⟩)
def Zd7{w:Work}(h:CIv w)(k:List Int):∀ i,CIv (weakS w k i)
 | 0=>h
 | i+1=>by
  have ih:=Zd7 h k i;exact⟨ih.L,ih.r,ih.s,ih.f,ih.z⟩
def Zcx{w:Work}(h:FOk w)(k:List Int):∀ i,FOk (weakS w k i)
 | 0=>h
 | i+1=>by
  have ih:=Zcx h k i;exact⟨ih.W,ih.wl,ih.pl,ih.ol,ih.o,ih.tl,ih.ql⟩
def cW2(h:Heap)(s:List Int):Work:=(allF (rootsF (beginW h) s).1).1
def cW3(h:Heap)(s k:List Int):Work:=weakS (cW2 h s) k k.length
def cW4(h:Heap)(s k:List Int):Work:=fillN (cW3 h s k) (cW3 h s k).old.length
def cW5(h:Heap)(s k:List Int):Work:=Z1f (cW4 h s k)
def endH(w:Work):Heap:=⟨w.heap.C,w.heap.W,w.heap.P,1-w.heap.S,if 0<w.T.length then Z0S w else -1⟩
structure COk (h:Heap) (s k:List Int):Prop where
 w2:WkOk (cW2 h s)
 i2:CIv (cW2 h s)
 x2:CEx (beginW h) (cW2 h s)
 f3:FOk (cW3 h s k)
 i3:CIv (cW3 h s k)
 r3:(cW3 h s k).rep.filled=0/\(cW3 h s k).rep.freed=0
 f4:FOk (cW4 h s k)
 i4:CIv (cW4 h s k)
 h4:(cW4 h s k).heap.C=h.C/\(cW4 h s k).heap.P=(cW2 h s).heap.P/\(cW4 h s k).heap.S=(cW2 h s).heap.S/\(cW4 h s k).T=(cW2 h s).T/\(cW4 h s k).rep.freed=0
section
variable (h:Heap) (s k:List Int) (hw:WOk h.W) (hp:Z03 h=O) (e:(rootsF (beginW h) s).2.2=0) (e2:(allF (rootsF (beginW h) s).1).2=0)
include hw hp e e2
theorem cOk:COk h s k:=by
 have hb:=Z3z hw hp;have hi:=Z3m hp;have ho:=Z3i (roots:=s) hb hi e;have w2:WkOk (cW2 h s):=ZmZ _ ho.1 e2;have i2:=Zfv ho.1 ho.2.1 e2;have x2:CEx (beginW h) (cW2 h s):=ho.2.2.1.trans i2.2;have f3:FOk (cW3 h s k):=Zcx w2.fok k _;have i3:CIv (cW3 h s k):=Zd7 i2.1 k _;obtain⟨a1,a2,a3,a4,a5,a6,a7,a8⟩:=Z53 (cW2 h s) k k.length;have hr0:=w2.r0;have r3:(cW3 h s k).rep.filled=0/\(cW3 h s k).rep.freed=0:=⟨a5.trans hr0.1,a6.trans hr0.2.1⟩
 obtain⟨b0,b1,b2,b3,b4,b5,b6,b7,b8,b9,b10,b11⟩:=Z5d (cW3 h s k) f3 (cW3 h s k).old.length;refine⟨w2,i2.1,x2,f3,i3,r3,b0,ZcG f3 i3 _ (Lh _), ?_, ?_, ?_, ?_, ?_⟩
 .show(fillN (cW3 h s k) (cW3 h s k).old.length).heap.C=_;rw[b1];show(weakS (cW2 h s) k k.length).heap.C=_;rw[a1];exact x2.c
 .show(fillN (cW3 h s k) (cW3 h s k).old.length).heap.P=_;rw[b2];show(weakS (cW2 h s) k k.length).heap.P=_;rw[a1]
 .show(fillN (cW3 h s k) (cW3 h s k).old.length).heap.S=_;rw[b3];show(weakS (cW2 h s) k k.length).heap.S=_;rw[a1]
 .show(fillN (cW3 h s k) (cW3 h s k).old.length).T=_;rw[b6];exact a3
 .show(fillN (cW3 h s k) (cW3 h s k).old.length).rep.freed=_;rw[b8];exact r3.2
theorem cOk5:(cW4 h s k).heap.P.length<=64/\0<=(cW4 h s k).heap.C.pw/\(cW4 h s k).heap.C.pw<=64/\(cW4 h s k).heap.P.length*(cW4 h s k).heap.C.pw.toNat<=(cW4 h s k).heap.W.length/\(cW4 h s k).heap.W.length<=4096:=by
 have c:=cOk h s k hw hp e e2;have po:=Z07 hp;have hL:=c.i4.L;have hpl:=c.w2.pl;have hc2:=c.x2.c;have hc:(cW2 h s).heap.C=h.C:=hc2;rw[hc]at hpl;rw[c.h4.1]at hL;have hl4:=c.f4.wl;rw[c.h4.1,c.h4.2.1];refine⟨by omega,by omega,by omega, ?_,hl4⟩;have:(((cW2 h s).heap.P.length*h.C.pw.toNat:Nat):Int)=h.C.pw*h.C.pg:=by
  rw[LR,LV oq,hpl,Ln]
 omega
end
def Z0d(h:Heap)(s k:List Int):Heap×List Int×List Int×Rep×Int :=
 if Z03 h=O then
  (if Z0i h s=O/\Z0i h k=O then
   (if(rootsF (beginW h) s).2.2=0 then
    (if(allF (rootsF (beginW h) s).1).2=0 then(endH (cW5 h s k),(rootsF (beginW h) s).2.1,Z4d (cW2 h s) k k.length,(cW5 h s k).rep,0)
    else(noHeap,[],[],rep0,(allF (rootsF (beginW h) s).1).2))
   else(noHeap,[],[],rep0,(rootsF (beginW h) s).2.2))
  else(noHeap,[],[],rep0,19))
 else(noHeap,[],[],rep0,1)
section
variable (h:Heap) (s k:List Int) (hw:WOk h.W) (hs:s.length<=1048575) (hk:k.length<=1048575) (hs2:ULe s) (hk2:ULe k)
include hw hs hk hs2 hk2
theorem ZkX(hp:Z03 h=O)(hr:Z0i h s=O)(hr':Z0i h k=O)(e:(rootsF (beginW h) s).2.2=0)(e2:(allF (rootsF (beginW h) s).1).2=0):GP 36 [h.av,Z01 s,Z01 k] La (.tu [(endH (cW5 h s k)).av,Z01 (rootsF (beginW h) s).2.1,Z01 (Z4d (cW2 h s) k k.length),.ag (cW5 h s k).rep.cells,int 0]) []:=by
 have hb:=Z3z hw hp;have hi:=Z3m hp;have hg:=Z4G hr;have ho:=Z3i (roots:=s) hb hi e;have ho1:=ho.1;have ho4:=ho.2.2.2.2;have c:=cOk h s k hw hp e e2;obtain⟨q1,q2,q3,q4,q5⟩:=cOk5 h s k hw hp e e2;have w2:=c.w2;have f3:=c.f3;have r3:=c.r3.1;obtain⟨g1,g2,g3,g4,g5⟩:=c.h4;have v1:=w2.W;have v2:=w2.wl;have v3:=w2.mu;have v4:=w2.tl;have v5:=w2.sp;have v6:=w2.r0.2.2;have v7:=congrArg L1 g4;have z1:(Z1f (cW4 h s k)).T=(cW4 h s k).T:=rfl;have v8:=congrArg L1 z1;have z2:(Z1f (cW4 h s k)).heap.S=(cW4 h s k).heap.S:=rfl;clear c;unfold cW4 at *;unfold cW3 at *;unfold cW2 at *;rcases bb (Ld (0<(↑(Z1f (fillN (weakS (allF (rootsF (beginW h) s).1).1 k k.length) (weakS (allF (rootsF (beginW h) s).1).1 k k.length).old.length)).T.length:Int)))with hc0 | hc0<;>have hc0p:=hc0<;>simp only[bs]at hc0p
 .rw[show endH (cW5 h s k)=Heap.mk (Z1f (fillN (weakS (allF (rootsF (beginW h) s).1).1 k k.length) (weakS (allF (rootsF (beginW h) s).1).1 k k.length).old.length)).heap.C (Z1f (fillN (weakS (allF (rootsF (beginW h) s).1).1 k k.length) (weakS (allF (rootsF (beginW h) s).1).1 k k.length).old.length)).heap.W (Z1f (fillN (weakS (allF (rootsF (beginW h) s).1).1 k k.length) (weakS (allF (rootsF (beginW h) s).1).1 k k.length).old.length)).heap.P ((1:Int)-(Z1f (fillN (weakS (allF (rootsF (beginW h) s).1).1 k k.length) (weakS (allF (rootsF (beginW h) s).1).1 k k.length).old.length)).heap.S) ((Z1f (fillN (weakS (allF (rootsF (beginW h) s).1).1 k k.length) (weakS (allF (rootsF (beginW h) s).1).1 k k.length).old.length)).T.getD ((↑(Z1f (fillN (weakS (allF (rootsF (beginW h) s).1).1 k k.length) (weakS (allF (rootsF (beginW h) s).1).1 k k.length).old.length)).T.length:Int)-(1:Int)).toNat M)from by(simp only[endH,cW5,cW4,cW3,cW2,Z0S] ;exact sj)];refine gspec_ofE [((20:Nat),[Hint.call O (Sx.bool (Z03 h)) []]),((21:Nat),[Hint.br La]),((26:Nat),[Hint.call O (Sx.bool (Z0i h s)) []]),((31:Nat),[Hint.call O (Sx.bool (Z0i h k)) []]),((33:Nat),[Hint.br La]),((38:Nat),[Hint.call La (AV.tu [(beginW h).av,int (0:Int)]) []]),((44:Nat),[Hint.call La (AV.tu [(rootsF (beginW h) s).1.av,Z01 (rootsF (beginW h) s).2.1,int (rootsF (beginW h) s).2.2]) []]),((49:Nat),[Hint.br La]),((55:Nat),[Hint.call La (AV.tu [(allF (rootsF (beginW h) s).1).1.av,int (allF (rootsF (beginW h) s).1).2]) []]),((59:Nat),[Hint.br La]),((15:Nat),[Hint.own]),((93:Nat),[Hint.call La (fillN (weakS (allF (rootsF (beginW h) s).1).1 k k.length) (weakS (allF (rootsF (beginW h) s).1).1 k k.length).old.length).av []]),((94:Nat),[Hint.call La (Z1f (fillN (weakS (allF (rootsF (beginW h) s).1).1 k k.length) (weakS (allF (rootsF (beginW h) s).1).1 k k.length).old.length)).av []]),((98:Nat),[Hint.int ((1:Int)-(Z1f (fillN (weakS (allF (rootsF (beginW h) s).1).1 k k.length) (weakS (allF (rootsF (beginW h) s).1).1 k k.length).old.length)).heap.S)]),((105:Nat),[Hint.int (↑(Z1f (fillN (weakS (allF (rootsF (beginW h) s).1).1 k k.length) (weakS (allF (rootsF (beginW h) s).1).1 k k.length).old.length)).T.length:Int)]),((107:Nat),[Hint.br O]),((111:Nat),[Hint.int ((↑(Z1f (fillN (weakS (allF (rootsF (beginW h) s).1).1 k k.length) (weakS (allF (rootsF (beginW h) s).1).1 k k.length).old.length)).T.length:Int)-(1:Int))]),((112:Nat),[Hint.el (idv ((Z1f (fillN (weakS (allF (rootsF (beginW h) s).1).1 k k.length) (weakS (allF (rootsF (beginW h) s).1).1 k k.length).old.length)).T.getD ((↑(Z1f (fillN (weakS (allF (rootsF (beginW h) s).1).1 k k.length) (weakS (allF (rootsF (beginW h) s).1).1 k k.length).old.length)).T.length:Int)-(1:Int)).toNat M))])] [((0:Nat),Tg.mk (tm (122:Nat) [((2:Nat),Z01 k),((6:Nat),AV.pt (8006:Nat) (0:Nat) (0:Nat)),((7:Nat),AV.d (DV.sl (0:Nat) [])),((8:Nat),AV.d (DV.sl (0:Nat) [])),((9:Nat),AV.pt (8009:Nat) (0:Nat) (0:Nat)),((10:Nat),int (0:Int)),((11:Nat),AV.pt (32011:Nat) (0:Nat) (0:Nat)),((13:Nat),Z01 (rootsF (beginW h) s).2.1),((15:Nat),AV.ow (72015:Nat)),((16:Nat),int (0:Int))]) [((72015:Nat),Blk.arr 35 (1:Nat) []),((32011:Nat),Blk.box 138 (allF (rootsF (beginW h) s).1).1.cells),((8009:Nat),Blk.box 73 [int (0:Int),int (0:Int),int (0:Int),int (0:Int),int (0:Int),int (0:Int)]),((8006:Nat),Blk.box 28 [int (0:Int),int (0:Int),AV.d (DV.sl (0:Nat) []),AV.d (DV.sl (0:Nat) []),int (0:Int),int (0:Int)])] (60:Nat),Ex.nrm,Tg.mk (tm (122:Nat) [((6:Nat),AV.pt (8006:Nat) (0:Nat) (0:Nat)),((7:Nat),AV.d (DV.sl (0:Nat) [])),((8:Nat),AV.d (DV.sl (0:Nat) [])),((9:Nat),AV.pt (8009:Nat) (0:Nat) (0:Nat)),((10:Nat),int (0:Int)),((11:Nat),AV.pt (32011:Nat) (0:Nat) (0:Nat)),((13:Nat),Z01 (rootsF (beginW h) s).2.1),((15:Nat),AV.ow (72015:Nat))]) [((72015:Nat),Blk.arr 35 (1:Nat) (Lb wdv (Z4d (allF (rootsF (beginW h) s).1).1 k k.length))),((32011:Nat),Blk.box 138 (weakS (allF (rootsF (beginW h) s).1).1 k k.length).cells),((8009:Nat),Blk.box 73 [int (0:Int),int (0:Int),int (0:Int),int (0:Int),int (0:Int),int (0:Int)]),((8006:Nat),Blk.box 28 [int (0:Int),int (0:Int),AV.d (DV.sl (0:Nat) []),AV.d (DV.sl (0:Nat) []),int (0:Int),int (0:Int)])] (60:Nat))] [] dd func36 [] (φ:=GP 65 [h.av] O (Sx.bool (Z03 h)) []/\(!Z03 h)=La/\La=La/\GP 42 [h.av,Z01 s] O (Sx.bool (Z0i h s)) []/\((!!Z0i h s)=O->GP 42 [h.av,Z01 k] O (Sx.bool (Z0i h k)) [])/\(!Z0i h s||!Z0i h k)=La/\La=La/\GP 82 [h.av] La (AV.tu [(beginW h).av,int (0:Int)]) []/\GP 83 [(beginW h).av,Z01 s] La (AV.tu [(rootsF (beginW h) s).1.av,Z01 (rootsF (beginW h) s).2.1,int (rootsF (beginW h) s).2.2]) []/\((rootsF (beginW h) s).2.2 != (0:Int))=La/\La=La/\GP 84 [(rootsF (beginW h) s).1.av] La (AV.tu [(allF (rootsF (beginW h) s).1).1.av,int (allF (rootsF (beginW h) s).1).2]) []/\((allF (rootsF (beginW h) s).1).2 != (0:Int))=La/\La=La/\CP (blkF f36 (0:Nat)) (Tg.mk (tm (122:Nat) [((2:Nat),Z01 k),((6:Nat),AV.pt (8006:Nat) (0:Nat) (0:Nat)),((7:Nat),AV.d (DV.sl (0:Nat) [])),((8:Nat),AV.d (DV.sl (0:Nat) [])),((9:Nat),AV.pt (8009:Nat) (0:Nat) (0:Nat)),((10:Nat),int (0:Int)),((11:Nat),AV.pt (32011:Nat) (0:Nat) (0:Nat)),((13:Nat),Z01 (rootsF (beginW h) s).2.1),((15:Nat),AV.ow (72015:Nat)),((16:Nat),int (0:Int))]) [((72015:Nat),Blk.arr 35 (1:Nat) []),((32011:Nat),Blk.box 138 (allF (rootsF (beginW h) s).1).1.cells),((8009:Nat),Blk.box 73 [int (0:Int),int (0:Int),int (0:Int),int (0:Int),int (0:Int),int (0:Int)]),((8006:Nat),Blk.box 28 [int (0:Int),int (0:Int),AV.d (DV.sl (0:Nat) []),AV.d (DV.sl (0:Nat) []),int (0:Int),int (0:Int)])] (60:Nat)).st Ex.nrm (Tg.mk (tm (122:Nat) [((6:Nat),AV.pt (8006:Nat) (0:Nat) (0:Nat)),((7:Nat),AV.d (DV.sl (0:Nat) [])),((8:Nat),AV.d (DV.sl (0:Nat) [])),((9:Nat),AV.pt (8009:Nat) (0:Nat) (0:Nat)),((10:Nat),int (0:Int)),((11:Nat),AV.pt (32011:Nat) (0:Nat) (0:Nat)),((13:Nat),Z01 (rootsF (beginW h) s).2.1),((15:Nat),AV.ow (72015:Nat))]) [((72015:Nat),Blk.arr 35 (1:Nat) (Lb wdv (Z4d (allF (rootsF (beginW h) s).1).1 k k.length))),((32011:Nat),Blk.box 138 (weakS (allF (rootsF (beginW h) s).1).1 k k.length).cells),((8009:Nat),Blk.box 73 [int (0:Int),int (0:Int),int (0:Int),int (0:Int),int (0:Int),int (0:Int)]),((8006:Nat),Blk.box 28 [int (0:Int),int (0:Int),AV.d (DV.sl (0:Nat) []),AV.d (DV.sl (0:Nat) []),int (0:Int),int (0:Int)])] (60:Nat)).st/\GP 87 [(weakS (allF (rootsF (beginW h) s).1).1 k k.length).av] La (fillN (weakS (allF (rootsF (beginW h) s).1).1 k k.length) (weakS (allF (rootsF (beginW h) s).1).1 k k.length).old.length).av []/\GP 86 [(fillN (weakS (allF (rootsF (beginW h) s).1).1 k k.length) (weakS (allF (rootsF (beginW h) s).1).1 k k.length).old.length).av] La (Z1f (fillN (weakS (allF (rootsF (beginW h) s).1).1 k k.length) (weakS (allF (rootsF (beginW h) s).1).1 k k.length).old.length)).av []/\IntKind.i64.wrap ((1:Int)-(Z1f (fillN (weakS (allF (rootsF (beginW h) s).1).1 k k.length) (weakS (allF (rootsF (beginW h) s).1).1 k k.length).old.length)).heap.S)=(1:Int)-(Z1f (fillN (weakS (allF (rootsF (beginW h) s).1).1 k k.length) (weakS (allF (rootsF (beginW h) s).1).1 k k.length).old.length)).heap.S/\(↑(Lb idv (Z1f (fillN (weakS (allF (rootsF (beginW h) s).1).1 k k.length) (weakS (allF (rootsF (beginW h) s).1).1 k k.length).old.length)).T).length:Int)=(↑(Z1f (fillN (weakS (allF (rootsF (beginW h) s).1).1 k k.length) (weakS (allF (rootsF (beginW h) s).1).1 k k.length).old.length)).T.length:Int)/\Ld ((0:Int)<(↑(Z1f (fillN (weakS (allF (rootsF (beginW h) s).1).1 k k.length) (weakS (allF (rootsF (beginW h) s).1).1 k k.length).old.length)).T.length:Int))=O/\O=O/\IntKind.i64.wrap ((↑(Z1f (fillN (weakS (allF (rootsF (beginW h) s).1).1 k k.length) (weakS (allF (rootsF (beginW h) s).1).1 k k.length).old.length)).T.length:Int)-(1:Int))=(↑(Z1f (fillN (weakS (allF (rootsF (beginW h) s).1).1 k k.length) (weakS (allF (rootsF (beginW h) s).1).1 k k.length).old.length)).T.length:Int)-(1:Int)/\(0:Int)<=(↑(Z1f (fillN (weakS (allF (rootsF (beginW h) s).1).1 k k.length) (weakS (allF (rootsF (beginW h) s).1).1 k k.length).old.length)).T.length:Int)-(1:Int)/\(Lb idv (Z1f (fillN (weakS (allF (rootsF (beginW h) s).1).1 k k.length) (weakS (allF (rootsF (beginW h) s).1).1 k k.length).old.length)).T)[((↑(Z1f (fillN (weakS (allF (rootsF (beginW h) s).1).1 k k.length) (weakS (allF (rootsF (beginW h) s).1).1 k k.length).old.length)).T.length:Int)-(1:Int)).toNat]? = Lc (idv ((Z1f (fillN (weakS (allF (rootsF (beginW h) s).1).1 k k.length) (weakS (allF (rootsF (beginW h) s).1).1 k k.length).old.length)).T.getD ((↑(Z1f (fillN (weakS (allF (rootsF (beginW h) s).1).1 k k.length) (weakS (allF (rootsF (beginW h) s).1).1 k k.length).old.length)).T.length:Int)-(1:Int)).toNat M))) ?_ kr kr;exact⟨(@Z0g (h)),(by(simp only[bs];omega)),rfl,(@Z1G (h) (s) aa oq),(λhg=>by(try simp only[bs]at hg);exact @Z1G (h) (k) (by(try simp only[bs]at hg);assumption) (by(try simp only[bs]at hg);omega)),(by simp only[bs, *,true_or,or_true,true_and,and_true,not_true_eq_false,not_false_eq_true,Bool.true_eq_false,Bool.false_eq_true]),rfl,(@Z4h (h) aa aa aa),(@Z5h (beginW h) (s) aa aa aa),(by(simp only[bs];omega)),rfl,(@Zby ((rootsF (beginW h) s).1) aa),(by(simp only[bs];omega)),rfl,(@Zfb ((allF (rootsF (beginW h) s).1).1) (k) ((rootsF (beginW h) s).2.1) aa aa oq aa aa aa),(@Zdb (weakS (allF (rootsF (beginW h) s).1).1 k k.length) aa aa),(@Zcz (fillN (weakS (allF (rootsF (beginW h) s).1).1 k k.length) (weakS (allF (rootsF (beginW h) s).1).1 k k.length).old.length) aa oq aa aa aa),(by exact wrapI2 rfl oq oq),(by simp only[Lj]),aa,rfl,(by exact wrapI2 rfl oq oq),(by exact elI oq oq oq)⟩
 .rw[show endH (cW5 h s k)=Heap.mk (Z1f (fillN (weakS (allF (rootsF (beginW h) s).1).1 k k.length) (weakS (allF (rootsF (beginW h) s).1).1 k k.length).old.length)).heap.C (Z1f (fillN (weakS (allF (rootsF (beginW h) s).1).1 k k.length) (weakS (allF (rootsF (beginW h) s).1).1 k k.length).old.length)).heap.W (Z1f (fillN (weakS (allF (rootsF (beginW h) s).1).1 k k.length) (weakS (allF (rootsF (beginW h) s).1).1 k k.length).old.length)).heap.P ((1:Int)-(Z1f (fillN (weakS (allF (rootsF (beginW h) s).1).1 k k.length) (weakS (allF (rootsF (beginW h) s).1).1 k k.length).old.length)).heap.S) (-1:Int)from by(simp[endH,cW5,cW4,cW3,cW2,Z0S, *];omega)];let y1:=rootsF (beginW h) s;let y0:=weakS (allF y1.1).1 k k.length;let y2:=fillN y0 y0.old.length;exact gF [] func36 [] (Fh 15 [.own] (Fc 20 (@Z0g h) (Ffb 21 (!Z03 h) (Fc 26 (@Z1G h s aa oq) (FcG 31 (!!Z0i h s) (λhg=>by(try simp only[bs]at hg);exact @Z1G h k aa oq) (Ffs 33 (!Z0i h s||!Z0i h k) (Fc 38 (@Z4h h aa aa aa) (Fc 44 (@Z5h (beginW h) s aa aa aa) (Ffb 49 (y1.2.2 != 0) (Fc 55 (@Zby (y1.1) aa) (Ffb 59 ((allF y1.1).2 != 0) (Fu (@Zfb ((allF y1.1).1) k (y1.2.1) aa aa oq aa aa aa) (Fc 93 (@Zdb y0 aa aa) (Fc 94 (@Zcz y2 aa oq aa aa aa) (Fi 98 (1-(Z1f y2).heap.S) (Fl 105 idv (Z1f y2).T (Ff 107 hc0 Fz)))))))))))))))))
end
end Go.Proofs.YtgedmeaemofdkaaGreat
