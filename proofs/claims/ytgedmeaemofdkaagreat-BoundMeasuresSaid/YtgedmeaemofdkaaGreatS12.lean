/-
 The statement BoundMeasures: part 12.
 Conditions: none.
-/
import Derived.Test.YtgedmeaemofdkaaGreatS11
set_option maxRecDepth 100000
set_option maxHeartbeats 2000000
set_option linter.all false
open Inhabited renaming default->M
open Bool renaming true->O,false->La,and_eq_true->LM
open Option renaming some->Lb,none->Ld,isSome_iff_exists->LH,getD_some->L6,map_some->L7
open Decidable renaming decide->Lc,not_not->L8
open List renaming map->Le,getD_eq_getElem?_getD->Lf,range->Lh,getElem?_eq_getElem->Li,length_map->Lk,length_set->Lm,mem_map->Ln,getElem?_eq_some_iff->Lt,mem_of_getElem?->Lu,mem_range->Lv,find?_range_eq_some->Ly,getElem?_drop->Lz,mem_append->LA,mem_or_eq_of_mem_set->LB,mem_replicate->LC,nodup_nil->LD,replicate->LF,getElem?_append->LR,getElem?_map->LS,getElem_mem->LU,length_take->LV,map_append->LW,map_take->LY,mem_cons->LZ,mem_of_mem_take->L0,mem_singleton->L1,pairwise_iff_getElem->L2
open Nat renaming le_refl->Lg,zero_le->Ll,ble->Lo,le_of_ble_eq_true->Lp,le_trans->Lw,zero_add->LG,beq->L3,eq_of_beq_eq_true->L4,lt_or_ge->L5
open Or renaming inr->Lj,inl->Lq
open Array renaming size_setIfInBounds->Lr,getElem?_append->LI,replicate->LL
open Int renaming mul_comm->Ls,add_mul->Lx,mul_nonneg->LN,one_mul->LO,toNat->LQ
open Go.Proofs.Tryz
namespace Go.Proofs.YtgedmeaemofdkaaGreat
open Go.Sx Go.RowKit
def Zmq{Ow:Sx.Own}{Im0:Nat->Prop}{w0:World}{ρ:Rho}{w:World}{Im:Nat->Prop}{H:Sx.Heap}{clk:Nat}{x:AV}{v:Value}{s:Nat}{els:List (List DV)}{β:Bi}(I:Sx.Inv Ow Im0 w0 ρ w Im H clk)(hx:Rel ρ w Im x v)(h:Z1f H x=Lb (s,els))
  (hblk:∀ a n c,v = .slice (Lb a) n c->n≠0->β.g=Lb a.block):RelD w (λg=>Im g\/β.g=Lb g) (.sl s els) v:=by
 obtain⟨p,c,rfl,hbg,hc,hl,hcell⟩:=Z1Q I hx h;by_cases he:els=[]
 .subst he;exact .slNil _ _ _
 rcases hcell with hcell | ⟨q,rfl,hq,hcell⟩
 .exact absurd hcell he
 have hn:els.length≠0:=by simpa using he
 refine .sl s els q els.length c (λi o=>(w.cell? ⟨q.block,q.off+(i*s+o),Ld⟩).getD undef) rfl hc hbg (hl he) hq (.inr (hblk q _ c rfl hn)) ?_ ?_
 .intro i e o y hi ho;obtain⟨u,k1,_⟩:=hcell i e o y hi ho;rw[k1];rfl
 .intro i e o y hi ho;obtain⟨u,k1,k2⟩:=hcell i e o y hi ho;rw[k1];exact k2.mono (Sx.Ext.refl _ _) (λg hg=>.inl hg)
def rho0(β:Bi):Rho:=λb=>if b=0 then Lb β else Ld
def Z52{β κ:Bi}{b:Nat}(h:rho0 β b=Lb κ):b=0/\κ=β:=by
 unfold rho0 at h;split at h
 .cases h;exact⟨aa,rfl⟩
 .cases h
def ZdW{β:Bi}{g:Nat}(h:OwA (ownR (rho0 β)) g):β.g=Lb g:=by
 obtain⟨b,κ,h1,h2⟩:=h;rw[(Z52 h1).2]at h2;exact h2
def Znv(l:List Found)(hl:l.length<=1048576){w:World}{Im:Nat->Prop}{β:Bi}{v:Value}(hIm:∀ g,Im g->g<w.heap.size)(hB:RelB (rho0 β) w Im β (.arr 212 4 (l.map Found.dv)))(hg:∀ g,β.g=Lb g->g<w.heap.size/\¬ Im g)
  (hv:Rel (rho0 β) w Im (.ow 0) v):Calls prog 158 #[v,.func (.func 159) #[] #[]] w λe w'=>∃ u,∃ Im':Nat->Prop,e = .returned u/\Kept (λg=>β.g=Lb g) w w' /\
   (∀ g,Im' g->(Im g\/β.g=Lb g\/w.heap.size<=g)/\g<w'.heap.size)/\RelD w' Im' (.sl 4 ((l.filter Z2l).map Found.dv)) u:=by
 refine calls_of_wp func158 (c:=bdyF f158) kr ?_;have I0:Sx.Inv (ownR (rho0 β)) Im w (rho0 β) w Im (hOf [(0,.arr 212 4 (l.map Found.dv))]) 1:=by
  refine⟨Kept.refl _ _,λb b' κ κ' g _ _ q1 q2 _ _=>by rw[(Z52 q1).1,(Z52 q2).1],λb κ g _ q1 q2=>?_,λb κ g q1 q2=>?_,λb κ g q1 q2=>?_,hIm,λg h=>.inl h,λb B q=>?_,λb hb _=>?_,⟨Lg _,λ_ _ _ h=>h⟩⟩
  .rw[(Z52 q1).2]at q2;exact(hg g q2).2
  .rw[(Z52 q1).2]at q2;exact(hg g q2).1
  .exact .inr ⟨b,κ,q1,q2⟩
  .simp only[hOf]at q;split at q
   .rename_i hb;cases q;subst hb;exact⟨β,rfl,hB⟩
   .cases q
  .unfold rho0;rw[if_neg oq]
 have S:Sx.Sys (ownR (rho0 β)) Im w (tm 42 [(0,.ow 0),(1,.fn 159 [])]) (hOf [(0,.arr 212 4 (l.map Found.dv))]) 1 { tmps := #[v,.func (.func 159) #[] #[]]++LL (Tryz.f158.ntmps-(#[v,.func (.func 159) #[] #[]]:Array Value).size) undef,defers:=[] } w:=by
  refine⟨_,Im,I0,⟨by kernel_rfl,λk y u hy hu=>?_,rfl⟩⟩;rw[show tm 42 [(0,.ow 0),(1,.fn 159 [])]=[.ow 0,.fn 159 []]++LF 40 .any from by kernel_rfl,LR]at hy;rw[LI]at hu;split at hy
  .rename_i hk;have hk3:k<2:=hk;rw[if_pos (show k<(#[v,.func (.func 159) #[] #[]]:Array Value).size from hk3)]at hu;rcases k with _ | _ | k
   .cases hy;cases hu;exact hv
   .cases hy;cases hu;exact .fn rfl (λi a v h=>by simp at h)
   .omega
  .have:=Lu hy;rw[(LC.1 this).2];exact .any _
 have fin:∀ (x:AV) (els:List (List DV)) (L:List (List DV)) (clk:Nat) (a':Act) (w':World),Sx.Sys (ownR (rho0 β)) Im w (tm 42 [(4,x)]) (hOf [(0,.arr 212 4 els)]) clk a' w'->(tm 42 [(4,x)]).getD 4 .any=x->(x = .ow 0\/∃ o n,x = .os 0 o n)->Z1f (hOf [(0,.arr 212 4 els)]) x=Lb (4,L)->L=(l.filter Z2l).map Found.dv ->
   bodyPost prog f158 (λe w'=>∃ u,∃ Im':Nat->Prop,e = .returned u/\Kept (λg=>β.g=Lb g) w w'/\(∀ g,Im' g->(Im g\/β.g=Lb g\/w.heap.size<=g)/\g<w'.heap.size)/\RelD w' Im' (.sl 4 ((l.filter Z2l).map Found.dv)) u) .ret a' w':=by
  rintro x els L clk a' w' ⟨ρ,Im',I,T⟩ hx4 hx hc hL;refine bodyPost_ret (results_tmp rfl _ _ _) T.defers ?_;have hr:Rel ρ w' Im' x (a'.tmps.getD 4 undef):=by
   have:=Z1p T (.tmp 4);rw[show ev (tm 42 [(4,x)]) (.tmp 4)=(tm 42 [(4,x)]).getD 4 .any from rfl,hx4]at this;exact this
  generalize a'.tmps.getD 4 undef=u at hr;obtain⟨κ,k1,k2⟩:=I.blk 0 _ rfl;have hκ:∀ g,κ.g=Lb g->w.heap.size<=g\/β.g=Lb g:=λg h=>(I.own 0 κ g k1 h).imp (·.1) ZdW;refine⟨u,λg=>Im' g\/κ.g=Lb g,rfl,I.kept.imp λ_ q=>ZdW q,λg h=>?_, ?_⟩
  .rcases h with h | h
   .refine⟨?_,I.imb g h⟩;rcases I.im0 g h with q | q | q
    .exact .inl q
    .exact .inr (.inr q)
    .exact .inr (.inl (ZdW q))
   .refine⟨?_,I.bnd 0 κ g k1 h⟩;rcases hκ g h with q | q
    .exact .inr (.inr q)
    .exact .inr (.inl q)
  .rw[<- hL];refine Zmq I hr hc λa n c hv hn=>?_;subst hv;rcases hx with rfl | ⟨o,m,rfl⟩
   .generalize hvv:Value.slice (Lb a) n c=vv at hr;cases hr with
    | ow h1 h2 h3 h4 =>
     injection hvv with e1 e2 e3;rw[k1]at h1;cases h1;rcases h4 with h4 | ⟨g,hg,e,_⟩
     .omega
     .rw[<- e1]at e;cases e;exact hg
   .generalize hvv:Value.slice (Lb a) n c=vv at hr;cases hr with
    | os h1 h2 h3 h4 h5 =>
     injection hvv with e1 e2 e3;rw[k1]at h1;cases h1;rcases h5 with h5 | ⟨g,hg,e,_⟩
     .omega
     .rw[<- e1]at e;cases e;exact hg
 by_cases h:Z0Q l<l.length
 .refine wp_mono (ZoC l hl h _ _ _ _ _ S) ?_;rintro e a' w' ⟨rfl,S1⟩;obtain⟨d1,d2,d3⟩:=ZjH h;refine fin (.os 0 0 (delR l).2) _ _ _ a' w' S1 rfl (.inr ⟨_,_,rfl⟩) rfl ?_;have d5:(delR l).2<=(delR l).1.length:=by have:(delR l).1.length=l.length:=d2;have:(delR l).2<=l.length:=d3;omega
  rw[List.drop_zero,<- LY,List.take_append_of_le_length (by rw[LV];omega),List.take_take,Nat.min_self];exact congrArg _ d1
 .refine wp_mono (ZnX l hl h _ _ _ _ _ S) ?_;rintro e a' w' ⟨rfl,S1⟩;refine fin (.ow 0) _ _ _ a' w' S1 rfl (.inl rfl) rfl ?_;rw[ZiI h]
def Zce{P:Program}{o:Oper}{a:Act}{w:World}{x:Operand}(ho:o.op = .assign x):(execOp a.eval o).run P w = .ok (.value (a.eval x)) w:=by
 simp[execOp,ho]
def Znj{P:Program}{o:Oper}{a:Act}{w:World}{x:Operand}(ho:o.op = .move x):(execOp a.eval o).run P w = .ok (.value (a.eval x)) w:=by
 simp[execOp,ho]
def Zba(h:Heap)(hw:WOk h.W)(e:(allW h).2=0):GP 107 [h.av] O (.tu [Z01 (((allW h).1.filter Z2l).map (·.addr)),int 0]) []:=by
 intro w00 Im vs hIm hsz hargs;rw[<- callsIn_wide (n:=10)];refine callsIn_of_wp func107 (c:=bdyF f107) kr trivial ?_ rfl;have hs1:vs.size=1:=hsz;have S0:Sx.Sys Z3E Im w00 (tm 17 [(0,h.av)]) (hOf []) 1 { tmps:=vs++LL (Tryz.f107.ntmps-vs.size) undef,defers:=[] } w00:=by
  refine⟨_,Im,Sx.Inv.empty hIm (Lg 1),⟨by rw[hs1];simp[hs1];kernel_rfl,λk y v hy hv=>?_,rfl⟩⟩;rw[show tm 17 [(0,h.av)]=[h.av]++LF 16 .any from by kernel_rfl,LR]at hy;rw[LI]at hv;split at hy
  .rename_i hk;rw[if_pos (by rw[hsz];exact hk)]at hv;exact hargs k y v hy hv
  .have:=Lu hy;rw[(LC.1 this).2];exact .any _
 generalize hR:(λe w'=>∃ v,e=Ending.returned v/\Zeh w00 Im O (AV.tu [Z01 (((allW h).1.filter Z2l).map (·.addr)),int 0]) [] v w')=R;generalize hQ:bodyPost prog f107 R=Q;refine Zos h hw e 10 Q _ _ _ _ _ S0 ?_;rintro a1 w1 ⟨ρ1,Im1,I1,T1⟩;obtain⟨v4,t4,r4⟩:=T1.at (t:=4) (x:=.ow 17008) rfl;obtain⟨β,m,n⟩:=I1.blk 17008 _ rfl;have hz1:a1.tmps.size=17:=T1.size;have er:rest prog 10 4 (bdyF f107) Q a1 w1=(Code.region 4 (rgO f107 4) La).wpIn Fence.wide 10 prog (Exit.then (Code.ret.wpIn Fence.wide 10 prog Q) Q) a1 w1:=by kernel_rfl
 rw[er];refine wpIn_region ?_;rw[show Lh (rgO f107 4).size=[0,1,2,3,4]from by kernel_rfl];refine Z2u (o:=(rgO f107 4).getD 0 M) kr kr (Z2X (ro:=Ld) (by intro c h;cases h) (Z69 (Znj (x:=.tmp 4) kr) ?_));rw[show((rgO f107 4).getD 0 M).dst=Lb 14 from by kernel_rfl,Z5R t4];generalize ha2:a1.put (Lb 14) v4=a2;have t14:a2.tmps[14]? = Lb v4:=by rw[<- ha2];exact Z5I oq
 have hz2:a2.tmps.size=17:=by rw[<- ha2];show(a1.tmps.setIfInBounds 14 v4).size=17;rw[Lr];exact hz1
 have hd2:a2.defers=[]:=by rw[<- ha2];exact T1.defers
 have hcall:(execOp a2.eval ((rgO f107 4).getD 1 M)).run prog w1 = .ok (.enter 158 #[v4,.func (.func 159) #[] #[]]) w1:=by
  have hop:((rgO f107 4).getD 1 M).op = .call ⟨.value (.func 158),#[.tmp 14,.func 159],tsOf ((rgO f107 4).getD 1 M)⟩:=by kernel_rfl
  have:=Z1O (P:=prog) (f:=158) kr #[v4,.func (.func 159) #[] #[]] w1;have hev:∀ f,a2.eval (.func f) = .func (.func f) #[] #[]:=λf=>rfl;have hev2:=Z5R t14;generalize (rgO f107 4).getD 1 M=o at hop ⊢;simp[execOp,hop,resolve,hev,hev2,Deferred.ofValue,invoke,this]
 refine Z2u (o:=(rgO f107 4).getD 1 M) kr kr (Z2X (ro:=Ld) (by intro c h;cases h) ?_);unfold Oper.wp;rw[hcall,Oper.upon_enter];have al:=Zkh h;refine(Znv (allW h).1 oq (w:=w1) (Im:=Im1) (β:=β) I1.imb (by
  obtain⟨b1,b2,b3,b4,b5⟩:=n;refine⟨b1,b2,b3,b4,b5⟩) (λg hg=>⟨I1.bnd _ _ g m hg,I1.notIm _ _ g ⟨_,rfl,by simp⟩ m hg⟩) (by
  cases r4 with
  | ow h1 h2 h3 h4=>rw[m]at h1;cases h1;exact .ow rfl h2 h3 h4)).mono ?_
 rintro e w2 ⟨u,Im2,rfl,K2,hIm2,hu⟩;rw[show((rgO f107 4).getD 1 M).dst=Lb 15 from by kernel_rfl];show wpOpsIn _ _ _ _ _ [2,3,4] (a2.put (Lb 15) u) w2;generalize ha3:a2.put (Lb 15) u=a3;have t15:a3.tmps[15]? = Lb u:=by rw[<- ha3];exact Z5I oq
 have hz3:a3.tmps.size=17:=by rw[<- ha3];show(a2.tmps.setIfInBounds 15 u).size=17;rw[Lr];exact hz2
 have hd3:a3.defers=[]:=by rw[<- ha3];exact hd2
 have hcall2:(execOp a3.eval ((rgO f107 4).getD 2 M)).run prog w2 = .ok (.enter 157 #[u]) w2:=by
  have hop:((rgO f107 4).getD 2 M).op = .call ⟨.value (.func 157),#[.tmp 15],tsOf ((rgO f107 4).getD 2 M)⟩:=by kernel_rfl
  have:=Z1O (P:=prog) (f:=157) kr #[u] w2;have hev:∀ f,a3.eval (.func f) = .func (.func f) #[] #[]:=λf=>rfl;have hev2:=Z5R t15;generalize (rgO f107 4).getD 2 M=o at hop ⊢;simp[execOp,hop,resolve,hev,hev2,Deferred.ofValue,invoke,this]
 refine Z2u (o:=(rgO f107 4).getD 2 M) kr kr (Z2X (ro:=Ld) (by intro c h;cases h) ?_);unfold Oper.wp;rw[hcall2,Oper.upon_enter];refine(Z6k ((allW h).1.filter Z2l) (by have:=List.length_filter_le Z2l (allW h).1;omega) w2 Im2 #[u] (λg hg=>(hIm2 g hg).2) rfl (λi x v hx hv=>by
  rcases i with _ | i
  .cases hx;cases hv;exact .d hu
  .simp at hx)).mono ?_
 rintro e w3 ⟨v2,rfl,K3,ρ3,Im3,h31,h32,_,_,h35,_,r2⟩;rw[show((rgO f107 4).getD 2 M).dst=Lb 16 from by kernel_rfl];show wpOpsIn _ _ _ _ _ [3,4] (a3.put (Lb 16) v2) w3;have r2':RelD w3 Im3 (.sl 1 ((((allW h).1.filter Z2l).map (·.addr)).map wdv)) v2:=by
  cases r2 with | d r=>exact r
 refine Z2u (o:=(rgO f107 4).getD 3 M) kr kr (Z2X (ro:=Ld) (by intro c h;cases h) (Z69 (Zce (x:=.tmp 16) kr) ?_));refine Z2u (o:=(rgO f107 4).getD 4 M) kr kr (Z2X (ro:=Ld) (by intro c h;cases h) (Z69 (Zce (x:=.const (.int .i64 0)) kr) ?_));rw[show((rgO f107 4).getD 3 M).dst=Lb 2 from by kernel_rfl,show((rgO f107 4).getD 4 M).dst=Lb 3 from by kernel_rfl,Z5R (a:=a3.put (Lb 16) v2) (Z5I oq)];have hs16:(a3.put (Lb 16) v2).tmps.size=17:=by show(a3.tmps.setIfInBounds 16 v2).size=17;rw[Lr];exact hz3
 generalize ha4:a3.put (Lb 16) v2=a4 at hs16 ⊢;have hd4:a4.defers=[]:=by rw[<- ha4];exact hd3
 have t2:(a4.put (Lb 2) v2).tmps[2]? = Lb v2:=Z5I oq;have hs2:(a4.put (Lb 2) v2).tmps.size=17:=by show(a4.tmps.setIfInBounds 2 v2).size=17;rw[Lr];exact hs16
 refine wpIn_ret ?_;show Q .ret _ w3;rw[<- hQ];refine bodyPost_ret (results_tmp2 rfl _ _ _) (show a4.defers=[]from hd4) ?_;rw[<- hR];have q2:=Z5R (Z7l (u:=.int .i64 0) t2 (show 3≠2 by decide));have q3:=Z5R (a:=(a4.put (Lb 2) v2).put (Lb 3) (.int .i64 0)) (Z5I (u:=.int .i64 0) oq);have s1:=I1.kept.size;have s2:=K2.size;refine⟨_,rfl,Z3m (Z3m I1.kept.no K2 (λg hg=>(I1.own _ _ g m hg).elim (·.1) (λh=>h.no.elim))) K3 (λ_ h=>h.elim),λ_=>Ld,Im3,λg hg=>.inr ?_,h32,λ_ _ _ q=>(by cases q),λ_ _ _ _ _ q=>(by cases q),λ_ _ q=>(by cases q),λk B q=>by simp at q,.tu _ _ rfl λi x v hx hv=>?_⟩
 .rcases h31 g hg with q | q
  .cases q.1
  .omega
 rcases i with _ | _ | i
 .cases hx;cases hv;show Rel (λ_=>Ld) w3 Im3 _ (((a4.put (Lb 2) v2).put (Lb 3) (.int .i64 0)).tmps.getD 2 undef);rw[show((a4.put (Lb 2) v2).put (Lb 3) (.int .i64 0)).tmps.getD 2 undef=v2 from q2];exact .d r2'
 .cases hx;cases hv;show Rel (λ_=>Ld) w3 Im3 _ (((a4.put (Lb 2) v2).put (Lb 3) (.int .i64 0)).tmps.getD 3 undef);rw[show((a4.put (Lb 2) v2).put (Lb 3) (.int .i64 0)).tmps.getD 3 undef = .int .i64 0 from q3];exact .d (.sc _ rfl)
 .simp at hx
def ZiN(h:Heap)(e:(allW h).2=0):Z03 h=(((allW h).1.filter Z2l).map (·.addr),0):=by
 have e1:=ZaO h;unfold Z03;rw[e1,e];simp only[Prod.mk.injEq,and_true];rw[List.filter_map];congr 1;refine List.filter_congr λx hx=>?_;have:=(ZeO x hx).1;simp only[Function.comp,Z3f,Z2l,this];by_cases hk:(atH h x.addr).1.K=0<;>simp[hk]
def Zga(h:Heap)(e:¬ (allW h).2=0):Z03 h=([],(allW h).2):=by
 have e1:=ZaO h;have e8:(allW h).1=[]:=by
  unfold allW at e ⊢;split at e
  .rename_i hp;rw[if_pos hp];exact Zlw h _ _ e
  .rename_i hp;rw[if_neg hp]
 unfold Z03;rw[e1,e8];rfl
def Z2x(h:Heap)(hw:WOk h.W):GP 107 [h.av] O (.tu [Z01 (Z03 h).1,int (Z03 h).2]) []:=by
 by_cases e:(allW h).2=0
 .rw[ZiN h e];exact Zba h hw e
 .rw[Zga h e];exact Z9z h hw e
end Go.Proofs.YtgedmeaemofdkaaGreat
namespace Go.Proofs.YtgedmeaemofdkaaGreat
open Go.Sx
def ZmD{h:Heap}{i o:Int}(e:(address h.C i o).2=0):adr h i o=4096+(i*h.C.pw+o)/\0<=i/\i<h.C.pg/\0<=o/\o<h.C.pw:=by
 unfold address at e;split at e
 .rename_i hv;split at e
  .rename_i hb;have hb':=hb;unfold inB at hb;simp at hb;refine⟨?_,by omega,by omega,by omega,by omega⟩;unfold adr address;rw[if_pos hv,if_pos hb']
  .simp at e
 .simp at e
def Z6U{h:Heap}{i:Int}:∀ {f:Nat} {o:Int},∀ x∈(Z1G h i f o).1,4096+(i*h.C.pw+o)<=x.addr/\x.addr<4096+(i*h.C.pw+h.C.pw)
 | 0,o,x,hx=>by simp[Z1G]at hx
 | f+1,o,x,hx=>by
  unfold Z1G at hx;split at hx
  .split at hx
   .rename_i h1;have ha:=ZmD h1.1;rcases LZ.1 hx with rfl | hx
    .simp only;omega
    .have:=Z6U x hx;have:=Z0T (atH h (adr h i o)).1;omega
   .simp at hx
  .simp at hx
def Zd6{h:Heap}{i:Int}:∀ {f:Nat} {o:Int},((Z1G h i f o).1.map (·.addr)).Pairwise (· < ·)
 | 0,o=>by simp[Z1G]
 | f+1,o=>by
  unfold Z1G;split
  .split
   .rename_i h1;have ha:=ZmD h1.1;have hs:=Z88 h1.2;rw[List.map_cons,List.pairwise_cons];refine⟨λy hy=>?_,Zd6⟩;obtain⟨x,hx,rfl⟩:=Ln.1 hy;have:=(Z6U x hx).1;simp only;omega
   .simp
  .simp
def Z4J{h:Heap}{i:Int}:∀ x∈(Z0p h i).1,4096+i*h.C.pw<=x.addr/\x.addr<4096+(i+1)*h.C.pw:=by
 intro x hx;have e:(i+1)*h.C.pw=i*h.C.pw+h.C.pw:=by rw[Lx,LO]
 unfold Z0p Z1S at hx;split at hx
 .split at hx
  .have:=Z6U x hx;omega
  .simp at hx
 .simp at hx
def Zev(h:Heap)(i:Int):((Z0p h i).1.map (·.addr)).Pairwise (· < ·):=by
 unfold Z0p Z1S;split
 .split
  .exact Zd6
  .simp
 .simp
def Zdq{h:Heap}(hw:0<=h.C.pw):∀ (f i:Nat),∀ x∈(allR h f i).1,4096+i*h.C.pw<=x.addr
 | 0,i,x,hx=>by simp[allR]at hx
 | f+1,i,x,hx=>by
  unfold allR at hx;split at hx
  .split at hx
   .rcases LA.1 hx with hx | hx
    .exact(Z4J x hx).1
    .have:=Zdq hw f (i+1) x hx;have e:((i+1:Nat):Int)*h.C.pw=i*h.C.pw+h.C.pw:=by push_cast;rw[Lx,LO]
     omega
   .simp at hx
  .simp at hx
def Zf9{h:Heap}(hw:0<=h.C.pw):∀ (f i:Nat),((allR h f i).1.map (·.addr)).Pairwise (· < ·)
 | 0,i=>by simp[allR]
 | f+1,i=>by
  unfold allR;split
  .split
   .rw[LW,List.pairwise_append];refine⟨Zev h i,Zf9 hw f (i+1),λa ha b hb=>?_⟩;obtain⟨x,hx,rfl⟩:=Ln.1 ha;obtain⟨y,hy,rfl⟩:=Ln.1 hb;have h1:=(Z4J x hx).2;have h2:=Zdq hw f (i+1) y hy;have e:((i+1:Nat):Int)*h.C.pw=((i:Int)+1)*h.C.pw:=by push_cast;rfl
    omega
   .simp
  .simp
def Zgv(h:Heap):(Z0R h).1.Pairwise (· < ·):=by
 rw[ZaO h];unfold allW;split
 .rename_i hp;exact Zf9 (by have:=Z0a hp;omega) _ _
 .simp
def Z2Q(h:Heap):(Z03 h).1.Pairwise (· < ·):=by
 unfold Z03;exact(Zgv h).filter _
def posB(l:List Int)(v:Int):Nat:=(l.takeWhile (λx=>Lc (x<v))).length
def ZhX(l:List Int)(v:Int):posB l v<=l.length:=by
 unfold posB;exact(List.takeWhile_sublist _).length_le
def Zep{l:List Int}{v:Int}(hs:l.Pairwise (· < ·)){k:Nat}(hk:k<l.length):(l.getD k M<v↔k<posB l v):=by
 have e:l.getD k M=l[k]:=by rw[Lf,Li hk];rfl
 rw[e];constructor
 .intro h;by_cases hc:k<posB l v
  .exact hc
  .exfalso;have hp:posB l v<l.length:=by omega
   have h2:=ZaE (λx=>Lc (x<v)) l hp;have h3:¬ l[posB l v]<v:=by
    have:Lc (l[posB l v]<v)=La:=h2;simpa using this
   rcases L5 (posB l v) k with hlt | hge
   .have:=L2.1 hs (posB l v) k hp hk hlt;omega
   .have:posB l v=k:=by omega
    simp only[this]at h3;exact h3 h
 .intro h;obtain⟨h1,h2⟩:=Zhw _ _ _ h;simpa using h2
def Zls{l:List Int}{v:Int}(hs:l.Pairwise (· < ·)):(v∈l↔posB l v<l.length/\l.getD (posB l v) M=v):=by
 constructor
 .intro h;obtain⟨k,hk,e⟩:=List.getElem_of_mem h;have e2:l.getD k M=v:=by rw[Lf,Li hk,<- e];rfl
  have h1:¬ k<posB l v:=λq=>by have:=(Zep (v:=v) hs hk).2 q;omega
  have h2:k=posB l v:=by
   rcases L5 (posB l v) k with hlt | hge
   .have hp:posB l v<l.length:=by omega
    have h3:¬ l.getD (posB l v) M<v:=λq=>by have:=(Zep (v:=v) hs hp).1 q;omega
    have h4:=L2.1 hs (posB l v) k hp hk hlt;have e5:l.getD (posB l v) M=l[posB l v]:=by rw[Lf,Li hp];rfl
    omega
   .omega
  subst h2;exact⟨hk,e2⟩
 .rintro⟨h1,h2⟩;rw[<- h2,Lf,Li h1];exact LU h1
def Zaf(x:Int):GP 174 [u64 x] O (bool La) []:=by
 exact gF [] func174 [O] (Fbs ((x != x)=La) Fz)
def ZmI(x:Int):GP 208 [u64 x] O (bool La) []:=by
 exact gF [] func208 [O] (Fbs ((x != x)=La) Fz)
def Zik(x y:Int):GP 173 [u64 x,u64 y] O (bool (Lc (x<y))) []:=by
 exact gF [] func173 [] (Fc 6 (@ZmI x) (FcG 9 La (λhg=>by(try simp only[bs]at hg);exact @ZmI y) Fz))
def bsL(l:List Int)(v:Int)(i j:Nat):Tg:=⟨tm 54 [(0,Z01 l),(1,u64 v),(4,int 0),(5,bool La),(6,int l.length),(7,int i),(8,int j)],[],60⟩
section
variable (l:List Int) (v:Int) (hl:l.length<=1048576) (i j:Nat) (hij:i<j) (hj:j<=l.length)
include hl hij hj
theorem ZpA(hlt:l.getD ((i+j)/2) M<v):CP (rndF f127 0) (bsL l v i j).st .nrm (bsL l v ((i+j)/2+1) j).st:=by
 rcases bb (Lc (l.getD (((i:Int)+(j:Int))/2).toNat M<v))with hc0 | hc0<;>have hc0p:=hc0<;>simp only[bs]at hc0p
 .let y0:=(i:Int)+(j:Int);exact sF [] [] (Fh 27 [.call O (Sx.bool (Lc (l.getD (y0/2).toNat M<v))) [],.br O] (Ftb 15 (Lc ((i:Int)<(j:Int))) (Fi 18 y0 (Fv 19 y0 (Fg 20 (by exact Z5U rfl dd:y0.fdiv (2^min (LQ 1) 64)=y0/2) (Fo ((0:Int)<=1) (Fi 21 (y0/2) (Fe 24 wdv l (y0/2) (Fa (@Zik (l.getD (y0/2).toNat M) v) (Fa hc0 (Fi 29 (y0/(2:Int)+1) Fz)))))))))))
 .contradiction
theorem Zpw(hlt:¬ l.getD ((i+j)/2) M<v):CP (rndF f127 0) (bsL l v i j).st .nrm (bsL l v i ((i+j)/2)).st:=by
 rcases bb (Lc (l.getD (((i:Int)+(j:Int))/2).toNat M<v))with hc0 | hc0<;>have hc0p:=hc0<;>simp only[bs]at hc0p
 .contradiction
 .let y0:=(i:Int)+(j:Int);exact sF [] [] (Fh 27 [.call O (Sx.bool (Lc (l.getD (y0/2).toNat M<v))) [],.br La] (Ftb 15 (Lc ((i:Int)<(j:Int))) (Fi 18 y0 (Fv 19 y0 (Fg 20 (by exact Z5U rfl dd:y0.fdiv (2^min (LQ 1) 64)=y0/2) (Fo ((0:Int)<=1) (Fi 21 (y0/2) (Fe 24 wdv l (y0/2) (Fa (@Zik (l.getD (y0/2).toNat M) v) (Fa hc0 Fz))))))))))
end
def Zpc(l:List Int)(v:Int)(i:Nat):CP (rndF f127 0) (bsL l v i i).st (.ext 0) (Tg.st ⟨tm 54 [(0,Z01 l),(1,u64 v),(6,int l.length),(7,int i)],[],60⟩):=by
 exact sF [] [] (Ffb 15 (Lc ((i:Int)<(i:Int))) Fz)
def bsGo(l:List Int)(v:Int)(hl:l.length<=1048576)(hs:l.Pairwise (· < ·)):∀ (f i j:Nat),j<=i+f->i<=posB l v->posB l v<=j->j<=l.length ->
  LSpec prog f127 0 (bsL l v i j).st (.ext 0) (Tg.st ⟨tm 54 [(0,Z01 l),(1,u64 v),(6,int l.length),(7,int (posB l v))],[],60⟩):=by
 intro f;induction f with
 | zero =>
  intro i j h1 h2 h3 h4;obtain⟨rfl,rfl⟩:i=posB l v/\j=posB l v:=by omega
  exact .endx (Zpc l v _)
 | succ f ih =>
  intro i j h1 h2 h3 h4;by_cases hij:i<j
  .have hp:=Zep hs (v:=v) (k:=(i+j)/2) oq;by_cases hlt:l.getD ((i+j)/2) M<v
   .have:=hp.1 hlt;exact .next (ZpA l v hl i j hij h4 hlt) (ih ((i+j)/2+1) j oq oq h3 h4)
   .have:¬ (i+j)/2<posB l v:=λq=>hlt (hp.2 q);exact .next (Zpw l v hl i j hij h4 hlt) (ih i ((i+j)/2) oq h2 oq oq)
  .obtain⟨rfl,rfl⟩:i=posB l v/\j=posB l v:=by omega
   exact .endx (Zpc l v _)
def Zj3(l:List Int)(v:Int)(hl:l.length<=1048576)(hs:l.Pairwise (· < ·)):CP (blkF f127 0) (Tg.st ⟨tm 54 [(0,Z01 l),(1,u64 v),(4,int 0),(5,bool La),(6,int l.length),(7,int 0),(8,int l.length)],[],60⟩) .nrm
  (Tg.st ⟨tm 54 [(0,Z01 l),(1,u64 v),(6,int l.length),(7,int (posB l v))],[],60⟩) :=
 (bsGo l v hl hs l.length 0 l.length oq oq (ZhX l v) (Lg _)).ext kr
def bsearch(l:List Int)(v:Int)(hl:l.length<=1048576)(hs:l.Pairwise (· < ·)):GP 127 [Z01 l,u64 v] O (.tu [int (posB l v),bool (Lc (v∈l))]) []:=by
 have hm:=Zls (v:=v) hs;have hp:=ZhX l v;by_cases h1:posB l v<l.length
 .by_cases h2:l.getD (posB l v) M=v
  .have e:Lc (v∈l)=O:=by simpa using hm.2 ⟨h1,h2⟩
   rw[e];exact gF [] func127 (fO 24) (Fl 11 wdv l (Fu (@Zj3 l v aa aa) (FeG 38 (Lc ((↑(posB l v):Int)<(l.length:Int))) wdv l (↑(posB l v):Int) (posB l v) (FeG 45 (Lc ((↑(posB l v):Int)<(l.length:Int))&&!l.getD (posB l v) M==v) wdv l (↑(posB l v):Int) (posB l v) (FcG 47 (Lc ((↑(posB l v):Int)<(l.length:Int))&&!l.getD (posB l v) M==v) (λhg=>by(try simp only[bs]at hg);exact @Zaf (l.getD (posB l v) M)) (FcG 50 (Lc ((↑(posB l v):Int)<(l.length:Int))&&!l.getD (posB l v) M==v&&La) (λhg=>by(try simp only[bs]at hg);exact @Zaf v) (Fr (↑(posB l v):Int) (Fb ((Lc ((↑(posB l v):Int)<(l.length:Int))&&(l.getD (posB l v) M==v||La))=O) Fz))))))))
  .have e:Lc (v∈l)=La:=by
    simp only[decide_eq_false_iff_not];exact λq=>h2 (hm.1 q).2
   rw[e];exact gF [] func127 (fO 24) (Fl 11 wdv l (Fu (@Zj3 l v aa aa) (FeG 38 (Lc ((↑(posB l v):Int)<(l.length:Int))) wdv l (↑(posB l v):Int) (posB l v) (FeG 45 (Lc ((↑(posB l v):Int)<(l.length:Int))&&!l.getD (posB l v) M==v) wdv l (↑(posB l v):Int) (posB l v) (FcG 47 (Lc ((↑(posB l v):Int)<(l.length:Int))&&!l.getD (posB l v) M==v) (λhg=>by(try simp only[bs]at hg);exact @Zaf (l.getD (posB l v) M)) (FcG 50 (Lc ((↑(posB l v):Int)<(l.length:Int))&&!l.getD (posB l v) M==v&&La) (λhg=>by(try simp only[bs]at hg);exact @Zaf v) (Fr (↑(posB l v):Int) (Fbs ((Lc ((↑(posB l v):Int)<(l.length:Int))&&(l.getD (posB l v) M==v||La))=La) Fz))))))))
 .have e:Lc (v∈l)=La:=by
   simp only[decide_eq_false_iff_not];exact λq=>h1 (hm.1 q).1
  rw[e];exact gF [] func127 (fO 24) (Fl 11 wdv l (Fu (@Zj3 l v aa aa) (FeG 38 (Lc ((↑(posB l v):Int)<(l.length:Int))) wdv l (↑(posB l v):Int) (posB l v) (FeG 45 (Lc ((↑(posB l v):Int)<(l.length:Int))&&!l.getD (posB l v) M==v) wdv l (↑(posB l v):Int) (posB l v) (FcG 47 (Lc ((↑(posB l v):Int)<(l.length:Int))&&!l.getD (posB l v) M==v) (λhg=>by(try simp only[bs]at hg);exact @Zaf (l.getD (posB l v) M)) (FcG 50 (Lc ((↑(posB l v):Int)<(l.length:Int))&&!l.getD (posB l v) M==v&&La) (λhg=>by(try simp only[bs]at hg);exact @Zaf v) (Fr (↑(posB l v):Int) (Fb ((Lc ((↑(posB l v):Int)<(l.length:Int))&&(l.getD (posB l v) M==v||La))=La) Fz))))))))
structure BField where
 width:Int
 value:Int
 deriving DecidableEq,Inhabited
def BField.dv(f:BField):List DV:=[.sc (.int .i64 f.width),.sc (.int .u64 f.value)]
def ZoL{α β:Type}{f:α->β}{l:List α}(h:l≠[]):l.map f≠[]:=by simpa using h
def ZdX(ws:List Int)(hw:ws.length<=1048576)(hne:ws≠[]):GP 123 [Z01 ws] O (.ow 0) [.arr 35 1 (ws.map wdv)]:=by
 exact gF [24007] func123 [] (Fa (by exact ZoL hne:Le wdv ws≠[]) (FA 5 7 wdv ws (Fa (by exact Z4k _:Z1s (Le wdv ws)) Fz)))
def ZhU{α:Type}{l:List α}(h:0<l.length):l≠[]:=by
 rintro rfl;simp at h
structure PgOk (c:Conf) (p:Page):Prop where
 s:0<=p.S/\p.S<=1
 n:0<=p.N/\p.N<=2147483647
 k:0<=p.K/\p.K<=3
 k0:p.K=0->p.S=0/\p.U=0/\p.N=0
 k1:p.K=1->0<=p.U/\p.U<=c.pw
 k3:p.K=3->p.U=0/\p.N=0
structure PT (c:Conf) (l:List Page):Prop where
 b:∀ i,i<l.length->PgOk c (l.getD i M)
 lg:∀ i,i<l.length->(l.getD i M).K=2->1<=need c (l.getD i M).U/\∀ m:Nat,1<=m->(m:Int)<need c (l.getD i M).U->i+m<l.length/\(l.getD (i+m) M).K=3/\(l.getD (i+m) M).S=(l.getD i M).S
 tl:∀ i,i<l.length->(l.getD i M).K=3->∃ j,j<i/\(l.getD j M).K=2/\(i:Int)<j+need c (l.getD j M).U
def Z4V(c:Conf)(l:List Page):Nat->Int
 | 0=>0
 | i+1=>rdue c l i (Z4V c l i)
def Ziw{c:Conf}{l:List Page}:∀ {f i:Nat},l.length<=i+f->(rpB c l f i (Z4V c l i)=O↔∀ j,i<=j->j<l.length->rchk c l j (Z4V c l j))
 | 0,i,h=>by
  simp only[rpB,true_iff];intro j h1 h2;omega
 | f+1,i,h=>by
  unfold rpB;by_cases hi:i<l.length
  .rw[if_pos hi,LM,decide_eq_true_eq,show rdue c l i (Z4V c l i)=Z4V c l (i+1)from rfl,Ziw (f:=f) (i:=i+1) oq];constructor
   .rintro⟨h1,h2⟩ j h3 h4;by_cases hj:j=i
    .subst hj;exact h1
    .exact h2 j oq h4
   .intro hh;exact⟨hh i (Lg _) hi,λj h3 h4=>hh j oq h4⟩
  .rw[if_neg hi];simp only[true_iff];intro j h1 h2;omega
def Z8S{c:Conf}{l:List Page}:∀ i,0<=Z4V c l i->0<Z4V c l i->∃ j,j<i/\(l.getD j M).K=2/\Z4V c l i=j+need c (l.getD j M).U-i
 | 0,_,h=>by simp[Z4V]at h
 | i+1,h0,h=>by
  simp only[Z4V,rdue]at h0 h ⊢;split at h
  .rename_i hk;refine⟨i,by omega,hk, ?_⟩;rw[if_pos hk];omega
  .rename_i hk;have h1:1<Z4V c l i:=by omega
   obtain⟨j,j1,j2,j3⟩:=Z8S (c:=c) (l:=l) i oq oq;refine⟨j,by omega,j2, ?_⟩;rw[if_neg hk];omega
def Zaa(sp:Int):∀ (l:List Page) (k:Nat),(∀ m,m<k->m<l.length/\(l.getD m M).K=3/\(l.getD m M).S=sp)->k<=Z1a sp l
 | _,0,_=>Ll _
 | [],k+1,h=>by have:=(h 0 oq).1;simp at this
 | p::l,k+1,h=>by
  have h0:=(h 0 oq).2;simp only[List.getD_cons_zero]at h0;rw[Z1a,if_pos h0];have:=Zaa sp l k λm hm=>by
   have:=h (m+1) oq;simpa using this
  omega
def PT.due{c:Conf}{l:List Page}(h:PT c l){i:Nat}(hi:i<l.length)(hk:(l.getD i M).K=2):∀ m:Nat,(m:Int)<need c (l.getD i M).U->Z4V c l (i+1+m)=need c (l.getD i M).U-1-m
 | 0,hm=>by
  show rdue c l i (Z4V c l i)=_;rw[rdue,if_pos hk];omega
 | m+1,hm=>by
  have ih:=h.due hi hk m oq;have ht:=((h.lg i hi hk).2 (m+1) oq hm).2.1;show rdue c l (i+1+m) (Z4V c l (i+1+m))=_;rw[rdue,show i+1+m=i+(m+1) by omega,if_neg (by rw[ht];decide),show i+(m+1)=i+1+m by omega,ih];omega
def Z7p{c:Conf}{l:List Page}(h:∀ i,i<l.length->(l.getD i M).K=2->1<=need c (l.getD i M).U):∀ i,i<=l.length->0<=Z4V c l i
 | 0,_=>Int.le_refl _
 | i+1,hi=>by
  have ih:=Z7p h i oq;simp only[Z4V,rdue];split
  .rename_i hk;have:=h i oq hk;omega
  .omega
def Zpp{c:Conf}{l:List Page}:rpB c l l.length 0 0=O↔PT c l:=by
 have e:=Ziw (c:=c) (l:=l) (f:=l.length) (i:=0) oq;rw[show Z4V c l 0=0 from rfl]at e;rw[e];constructor
 .intro h;have hb:∀ i,i<l.length->PgOk c (l.getD i M):=by
   intro i hi;have q:=h i oq hi;unfold rchk at q;exact⟨⟨q.2.1,q.2.2.1⟩,⟨q.2.2.2.1,q.2.2.2.2.1⟩,⟨q.2.2.2.2.2.1,q.2.2.2.2.2.2.1⟩,q.2.2.2.2.2.2.2.1,q.2.2.2.2.2.2.2.2.1,q.2.2.2.2.2.2.2.2.2.2⟩
  have hl:∀ i,i<l.length->(l.getD i M).K=2->1<=need c (l.getD i M).U/\∀ m:Nat,1<=m->(m:Int)<need c (l.getD i M).U->i+m<l.length/\(l.getD (i+m) M).K=3/\(l.getD (i+m) M).S=(l.getD i M).S:=by
   intro i hi hk;have q:=(h i oq hi).2.2.2.2.2.2.2.2.2.1 hk;refine⟨q.1, ?_⟩;intro m h1 h2;obtain⟨g1,g2⟩:=Z5M (l.getD i M).S (l.drop (i+1)) (m-1) oq;have g3:i+m<l.length:=by simp at g1;omega
   have:(l.drop (i+1)).getD (m-1) M=l.getD (i+m) M:=by
    rw[Lf,Lf,Lz,show i+1+(m-1)=i+m by omega]
   rw[this]at g2;exact⟨g3,g2⟩
  refine⟨hb,hl, ?_⟩;intro i hi hk;have q:=(h i oq hi).1.1 hk;obtain⟨j,j1,j2,j3⟩:=Z8S (c:=c) (l:=l) i oq q;exact⟨j,j1,j2,by omega⟩
 .intro h j _ hj;have b:=h.b j hj;have hd:=Z7p (λi hi hk=>(h.lg i hi hk).1) j oq;refine⟨⟨?_, ?_⟩,b.s.1,b.s.2,b.n.1,b.n.2,b.k.1,b.k.2,b.k0,b.k1, ?_,b.k3⟩
  .intro hk;obtain⟨i,i1,i2,i3⟩:=h.tl j hj hk;have:=h.due (show i<l.length by omega) i2 (j-i-1) oq;rw[show i+1+(j-i-1)=j by omega]at this;omega
  .intro hp;obtain⟨i,i1,i2,i3⟩:=Z8S j hd hp;have:=((h.lg i oq i2).2 (j-i) oq oq).2.1;rw[show i+(j-i)=j by omega]at this;exact this
  .intro hk;have q:=h.lg j hj hk;refine⟨q.1, ?_⟩;have:=Zaa (l.getD j M).S (l.drop (j+1)) (need c (l.getD j M).U-1).toNat λm hm=>by
    have r:=q.2 (m+1) oq oq;have e2:(l.drop (j+1)).getD m M=l.getD (j+(m+1)) M:=by
     rw[Lf,Lf,Lz,show j+1+m=j+(m+1) by omega]
    rw[e2];exact⟨by simp;omega,r.2⟩
   omega
def Z2b{h:Heap}:Z02 h=O↔Z06 h.C=O/\(h.W.length:Int)=h.C.pw*h.C.pg/\(h.P.length:Int)=h.C.pg/\(h.S=0\/h.S=1) /\
  (h.B=-1\/(0<=h.B/\h.B<h.P.length/\(h.P.getD h.B.toNat M).K=1))/\PT h.C h.P:=by
 rw[properB_iff,Zpp]
def PT.setPage{c:Conf}{l:List Page}(h:PT c l){i:Nat}(hi:i<l.length)(hk:(l.getD i M).K=0\/(l.getD i M).K=1){p:Page}(hp:PgOk c p)(hpk:p.K=0\/p.K=1):PT c (l.set i p):=by
 refine⟨?_, ?_, ?_⟩
 .intro j hj;rw[Lm]at hj;rw[Z1C hi];split
  .exact hp
  .exact h.b j hj
 .intro j hj hk2;rw[Lm]at hj;rw[Z1C hi]at hk2 ⊢;by_cases hij:i=j
  .rw[if_pos hij]at hk2;omega
  .rw[if_neg hij]at hk2 ⊢;have q:=h.lg j hj hk2;refine⟨q.1,λm h1 h2=>?_⟩;have r:=q.2 m h1 h2;rw[Lm,Z1C hi,if_neg (by rintro rfl;omega)];exact r
 .intro j hj hk3;rw[Lm]at hj;rw[Z1C hi]at hk3;by_cases hij:i=j
  .rw[if_pos hij]at hk3;omega
  .rw[if_neg hij]at hk3;obtain⟨a,a1,a2,a3⟩:=h.tl j hj hk3;refine⟨a,a1, ?_⟩;rw[Z1C hi,if_neg (by rintro rfl;omega)];exact⟨a2,a3⟩
def PT.mapPages{c:Conf}{l:List Page}(h:PT c l)(f:Page->Page)(h1:∀ p,PgOk c p->PgOk c (f p))(h2:∀ p,PgOk c p->(f p).K=2->p.K=2/\(f p).U=p.U)
  (h3:∀ p,PgOk c p->(f p).K=3->p.K=3) (h4:∀ p q,PgOk c p->PgOk c q->p.K=2->q.K=3->q.S=p.S->((f p).K=2↔(f q).K=3)/\((f p).K=2->(f q).S=(f p).S)):PT c (l.map f):=by
 have hg:∀ j,j<l.length->(l.map f).getD j M=f (l.getD j M):=by
  intro j hj;simp[Lf,hj]
 refine⟨?_, ?_, ?_⟩
 .intro j hj;rw[Lk]at hj;rw[hg j hj];exact h1 _ (h.b j hj)
 .intro j hj hk;rw[Lk]at hj;rw[hg j hj]at hk ⊢;have q:=h2 _ (h.b j hj) hk;have r:=h.lg j hj q.1;rw[q.2];refine⟨r.1,λm m1 m2=>?_⟩;have s:=r.2 m m1 m2;have t:=h4 _ _ (h.b j hj) (h.b (j+m) s.1) q.1 s.2.1 s.2.2;rw[Lk,hg _ s.1];exact⟨s.1,t.1.1 hk,t.2 hk⟩
 .intro j hj hk;rw[Lk]at hj;rw[hg j hj]at hk;have q:=h3 _ (h.b j hj) hk;obtain⟨a,a1,a2,a3⟩:=h.tl j hj q;have ha:a<l.length:=by omega
  have s:=(h.lg a ha a2).2 (j-a) oq oq;rw[show a+(j-a)=j by omega]at s;have t:=h4 _ _ (h.b a ha) (h.b j hj) a2 s.2.1 s.2.2;have hk2:=t.1.2 hk;refine⟨a,a1, ?_⟩;rw[hg a ha];exact⟨hk2,by rw[(h2 _ (h.b a ha) hk2).2];exact a3⟩
def Zdb{l:List Page}{i k:Nat}{p q:Page}(hk:1<=k)(h:i+k<=l.length)(j:Nat):(tookP l i k p q).getD j M=if j=i then p else if i<j/\j<i+k then q else l.getD j M:=by
 have hl:(wr l (LF k q) i k).length=l.length:=Z4X (by simpa using h) pq;unfold tookP;rw[Lf,List.getElem?_set];by_cases hj:j=i
 .subst hj;rw[if_pos rfl,if_pos rfl,if_pos oq];rfl
 .rw[if_neg (λe=>hj e.symm),if_neg hj,ZaG (by simpa using h) pq];by_cases h1:j<i
  .rw[if_pos h1,if_neg oq,Lf]
  .rw[if_neg h1];by_cases h2:j<i+k
   .rw[if_pos h2,if_pos oq];simp[show j-i<k by omega]
   .rw[if_neg h2,if_neg oq,Lf]
def PT.took{c:Conf}{l:List Page}(h:PT c l){i k:Nat}{n sp:Int}(hk:1<=k)(hik:i+k<=l.length)(hf:∀ j,j<k->(l.getD (i+j) M).K=0)(hn:need c n=k)(hs:sp=0\/sp=1):PT c (tookP l i k ⟨2,sp,n,0⟩ ⟨3,sp,0,0⟩):=by
 have hg:=Zdb (p:=⟨2,sp,n,0⟩) (q:=⟨3,sp,0,0⟩) hk hik;have hl:(tookP l i k ⟨2,sp,n,0⟩ ⟨3,sp,0,0⟩).length=l.length:=Z8v hik;have hf':∀ j,i<=j->j<i+k->(l.getD j M).K=0:=λj h1 h2=>by
  have:=hf (j-i) oq;rwa [show i+(j-i)=j by omega]at this
 refine⟨?_, ?_, ?_⟩
 .intro j hj;rw[hl]at hj;rw[hg];split
  .exact⟨by simp only;omega,by simp,by simp,by simp,by simp,by simp⟩
  .split
   .exact⟨by simp only;omega,by simp,by simp,by simp,by simp,by simp⟩
   .exact h.b j hj
 .intro j hj hk2;rw[hl]at hj ⊢;simp only[hg]at hk2 ⊢;by_cases hji:j=i
  .subst hji;simp only[if_pos]at hk2 ⊢;rw[hn];refine⟨by omega,λm h1 h2=>⟨by omega, ?_⟩⟩;rw[if_neg oq,if_pos oq];exact⟨rfl,rfl⟩
  .rw[if_neg hji]at hk2 ⊢;by_cases hr:i<j/\j<i+k
   .rw[if_pos hr]at hk2;simp at hk2
   .rw[if_neg hr]at hk2 ⊢;have q:=h.lg j hj hk2;refine⟨q.1,λm h1 h2=>?_⟩;have r:=q.2 m h1 h2;have hne:¬ (i<=j+m/\j+m<i+k):=λhc=>by
     have:=hf' (j+m) hc.1 hc.2;omega
    rw[if_neg oq,if_neg oq];exact r
 .intro j hj hk3;rw[hl]at hj;simp only[hg]at hk3 ⊢;by_cases hji:j=i
  .rw[if_pos hji]at hk3;simp at hk3
  .rw[if_neg hji]at hk3;by_cases hr:i<j/\j<i+k
   .refine⟨i,hr.1, ?_⟩;simp only[if_pos];refine⟨trivial, ?_⟩;rw[hn];omega
   .rw[if_neg hr]at hk3;obtain⟨a,a1,a2,a3⟩:=h.tl j hj hk3;have hne:¬ (i<=a/\a<i+k):=λhc=>by
     have:=hf' a hc.1 hc.2;omega
    refine⟨a,a1, ?_⟩;rw[if_neg oq,if_neg oq];exact⟨a2,a3⟩
def Zc3{l:List Page}{i:Nat}{n:Int}:Z2W l i n=l.set i ⟨(l.getD i M).K,(l.getD i M).S,(l.getD i M).U+n,(l.getD i M).N⟩:=rfl
def ZaB{h:Heap}(hs:h.S=0\/h.S=1)(hf:0<=first h.P 1)(n:Int):Z2W (Z3L h) (first h.P 1).toNat n=h.P.set (first h.P 1).toNat ⟨1,h.S,n,0⟩/\(h.P.getD (first h.P 1).toNat M).K=0/\(first h.P 1).toNat<h.P.length:=by
 obtain⟨f1,f2,f3,f4⟩:=Z3y hs hf;obtain⟨g1,g2,g3⟩:=Z21 hf;have hi:(first h.P 1).toNat<h.P.length:=by omega
 refine⟨?_, ?_,hi⟩
 .rw[Zc3,f4,f1,Z9r hi,List.set_set];simp
 .have:=freeK_iff.1 g3 0 dd;simpa using this
structure PutOk (h:Heap) (n:Int) (h':Heap) (a:Int):Prop where
 pr:Z02 h'=O
 c:h'.C=h.C
 w:h'.W=h.W
 l:h'.P.length=h.P.length
 sp:h'.S=h.S
 pin:∀ p∈h'.P,p.N=0\/∃ q∈h.P,p.N=q.N
 lo:4096<=a
 hi:a+n<=4096+h.W.length
def getD_in{l:List Page}{i:Nat}(h:i<l.length):l.getD i M∈l:=by
 rw[Lf,Li h];exact LU h
def Zgk{h:Heap}{n:Int}(hp:Z02 h=O)(hn:1<=n/\n<=h.C.pw)(e:(Z0o h n).2.2=O):PutOk h n (Z0o h n).1 (Z0o h n).2.1:=by
 have hp':=hp;rw[Z2b]at hp;obtain⟨p1,p2,p3,p4,p5,p6⟩:=hp;have hb:=validB_iff.1 p1;by_cases hf:Z9v h n
 .have e7:Z0o h n=(⟨h.C,h.W,Z2W h.P h.B.toNat n,h.S,h.B⟩,4096+h.B*h.C.pw+(h.P.getD h.B.toNat M).U,O):=by rw[Z0o,if_pos hf]
  unfold Z9v at hf;have hbi:h.B.toNat<h.P.length:=by omega
  have hk:(h.P.getD h.B.toNat M).K=1:=by omega
  have ok:=p6.b h.B.toNat hbi;have u:=ok.k1 hk;have ha:=Z2z p1 (i:=h.B) oq oq;have hio:=Z2f (i:=h.B) (j:=h.C.pg) (pw:=h.C.pw) oq oq;rw[Ls h.C.pg]at hio;rw[e7];refine⟨?_,rfl,rfl,by simp[Z2W],rfl, ?_,by simp only;omega,by simp only;omega⟩
  .rw[Z2b];refine⟨p1,p2,by simp[Z2W,p3],p4, ?_, ?_⟩
   .refine Lj ⟨hf.1,by simp[Z2W];omega, ?_⟩;show((Z2W h.P h.B.toNat n).getD h.B.toNat M).K=1;rw[Zc3,Z1C hbi,if_pos rfl];exact hk
   .exact p6.setPage hbi (Lj hk) ⟨ok.s,ok.n,ok.k,λq=>by simp only at q;omega,λ_=>by simp only;omega,λq=>by simp only at q;omega⟩ (Lj hk)
  .intro p hp;rcases LB hp with hp | rfl
   .exact Lj ⟨p,hp,rfl⟩
   .exact Lj ⟨_,getD_in hbi,rfl⟩
 .by_cases hg:0<=first h.P 1/\(Z25 h.P:Int)<Z0X h.C
  .have e7:Z0o h n=(⟨h.C,h.W,Z2W (Z3L h) (first h.P 1).toNat n,h.S,first h.P 1⟩,4096+first h.P 1*h.C.pw+((Z3L h).getD (first h.P 1).toNat M).U,O):=by rw[Z0o,if_neg hf,if_pos hg]
   obtain⟨g1,g2,g3⟩:=ZaB p4 hg.1 n;have g4:=congrArg Page.U (Z3y p4 hg.1).2.2.2;simp only at g4;have ha:=Z2z p1 (i:=first h.P 1) oq oq;have hio:=Z2f (i:=first h.P 1) (j:=h.C.pg) (pw:=h.C.pw) oq oq;rw[Ls h.C.pg]at hio;rw[e7,g1,g4];refine⟨?_,rfl,rfl,by simp,rfl, ?_,by simp only;omega,by simp only;omega⟩
   .rw[Z2b];refine⟨p1,p2,by simp[p3],p4, ?_, ?_⟩
    .refine Lj ⟨hg.1,by simp only[Lm];omega, ?_⟩;simp only;rw[Z1C g3,if_pos rfl]
    .exact p6.setPage g3 (Lq g2) ⟨by simp only;omega,by simp,by simp,by simp,λ_=>by simp only;omega,by simp⟩ (Lj rfl)
   .intro p hp;rcases LB hp with hp | rfl
    .exact Lj ⟨p,hp,rfl⟩
    .exact Lq rfl
  .rw[Z0o,if_neg hf,if_neg hg]at e;simp at e
def ZgF{h:Heap}{n:Int}(hp:Z02 h=O)(hk:1<=need h.C n)(e:(Z0z h n (need h.C n)).2.2=O):PutOk h n (Z0z h n (need h.C n)).1 (Z0z h n (need h.C n)).2.1:=by
 have hp':=hp;rw[Z2b]at hp;obtain⟨p1,p2,p3,p4,p5,p6⟩:=hp;have hb:=validB_iff.1 p1;by_cases hg:0<=first h.P (need h.C n)/\Z25 h.P+need h.C n<=Z0X h.C
 .obtain⟨g1,g2,g3⟩:=Z21 hg.1;have el:(Z38 h.C h.P (first h.P (need h.C n)) h.S n).1=tookP h.P (first h.P (need h.C n)).toNat (need h.C n).toNat ⟨2,h.S,n,0⟩ ⟨3,h.S,0,0⟩:=by
   rw[Z38,if_pos ⟨hk,by omega⟩,Z2T,if_pos oq,if_pos g3]
  have e7:Z0z h n (need h.C n)=(⟨h.C,h.W,tookP h.P (first h.P (need h.C n)).toNat (need h.C n).toNat ⟨2,h.S,n,0⟩ ⟨3,h.S,0,0⟩,h.S,h.B⟩,4096+first h.P (need h.C n)*h.C.pw,O):=by rw[Z0z,if_pos hg,el]
  have hf:∀ j,j<(need h.C n).toNat->(h.P.getD ((first h.P (need h.C n)).toNat+j) M).K=0:=freeK_iff.1 g3;have hlen:(tookP h.P (first h.P (need h.C n)).toNat (need h.C n).toNat ⟨2,h.S,n,0⟩ ⟨3,h.S,0,0⟩).length=h.P.length:=Z8v oq;have hu:=Z9d hk;have h0:0<=first h.P (need h.C n)*h.C.pw:=LN hg.1 oq
  have hio:=Int.mul_le_mul_of_nonneg_right (show first h.P (need h.C n)+need h.C n<=h.C.pg by omega) (show 0<=h.C.pw by omega);rw[Lx,Ls h.C.pg]at hio;rw[e7];refine⟨?_,rfl,rfl,hlen,rfl, ?_,by simp only;omega,by simp only;omega⟩
  .rw[Z2b];refine⟨p1,p2,by simp only[hlen];exact p3,p4, ?_, ?_⟩
   .simp only[hlen];rcases p5 with p5 | p5
    .exact Lq p5
    .refine Lj ⟨p5.1,p5.2.1, ?_⟩;have hne:¬ ((first h.P (need h.C n)).toNat<=h.B.toNat/\h.B.toNat<(first h.P (need h.C n)).toNat+(need h.C n).toNat):=λhc=>by
      have:=hf (h.B.toNat-(first h.P (need h.C n)).toNat) oq;rw[show(first h.P (need h.C n)).toNat+(h.B.toNat-(first h.P (need h.C n)).toNat)=h.B.toNat by omega]at this;omega
     rw[Zdb oq oq,if_neg oq,if_neg oq];exact p5.2.2
   .exact p6.took oq oq hf oq p4
  .intro p hp;rcases LB hp with hp | rfl
   .simp only[wr,LA]at hp;rcases hp with(hp | hp) | hp
    .exact Lj ⟨p,L0 hp,rfl⟩
    .have:=List.eq_of_mem_replicate (L0 hp);subst this;exact Lq rfl
    .exact Lj ⟨p,List.mem_of_mem_drop hp,rfl⟩
   .exact Lq rfl
 .rw[Z0z,if_neg hg]at e;simp at e
def Znu{hd:Header}(hv:Z0i hd=O)(hm:0<=hd.map/\hd.map<=4294967295):WOk (objW hd)/\((objW hd).length:Int)=sizeH hd:=by
 have hb:=ZaT hv hm.1 hm.2;constructor
 .intro x hx;simp only[objW,LZ,LC,Z0c,if_pos hv]at hx;rcases hx with rfl | ⟨_,rfl⟩<;>omega
 .rw[sizeH,if_pos hv];simp[objW];omega
def Zn1{h:Heap}{hd:Header}(hw:WOk h.W)(hm:0<=hd.map/\hd.map<=4294967295)(e:(new7 h hd).2.2=0) :
  Z02 h=O/\Z1j h.C hd=O/\PutOk h (sizeH hd) (put7 h hd).1 (put7 h hd).2.1/\(put7 h hd).2.2=O/\(new7 h hd).2.1=(put7 h hd).2.1/\(new7 h hd).1 = { (put7 h hd).1 with W:=(Z0D h.W (put7 h hd).2.1 (objW hd)).1 }/\Z02 (new7 h hd).1=O/\WOk (new7 h hd).1.W:=by
 unfold new7 at e;split at e
 .rename_i c1;split at e
  .rename_i c2;obtain⟨a1,a2,a3,a4,a5⟩:=Z7Q c1.2;have po:=Z0a c1.1;have hput:PutOk h (sizeH hd) (put7 h hd).1 (put7 h hd).2.1:=by
    by_cases hn:0<need h.C (sizeH hd)
    .have e7:put7 h hd=Z0z h (sizeH hd) (need h.C (sizeH hd)):=by rw[put7,if_pos hn]
     rw[e7]at c2 ⊢;exact ZgF c1.1 oq c2
    .have e7:put7 h hd=Z0o h (sizeH hd):=by rw[put7,if_neg hn]
     rw[e7]at c2 ⊢;refine Zgk c1.1 ⟨a2, ?_⟩ c2;unfold need at hn a4;split at a4
     .rename_i hc;rw[if_pos hc]at hn;split at a4
      .omega
      .rename_i hd';rw[if_neg hd']at hn;have e:=Int.mul_ediv_add_emod (sizeH hd+h.C.pw-1) h.C.pw;have hz:(sizeH hd+h.C.pw-1)/h.C.pw=0:=by omega
       rw[hz]at e;have:=Int.emod_lt_of_pos (sizeH hd+h.C.pw-1) (b:=h.C.pw) oq;omega
     .omega
   have ho:=Znu a1 hm;have hin:4096<=(put7 h hd).2.1/\(put7 h hd).2.1-4096+(objW hd).length<=h.W.length:=⟨hput.lo,by have:=hput.hi;omega⟩
   have e2:Z0D h.W (put7 h hd).2.1 (objW hd)=(spl h.W ((put7 h hd).2.1-4096).toNat (objW hd),0):=by rw[Z0D,if_pos hin]
   have hlen:(spl h.W ((put7 h hd).2.1-4096).toNat (objW hd)).length=h.W.length:=Z50 oq;have e3:(Z1l (put7 h hd).1 (put7 h hd).2.1 hd).1 = { (put7 h hd).1 with W:=(Z0D h.W (put7 h hd).2.1 (objW hd)).1 }:=by
    rw[Z1l,if_pos ⟨hput.pr,a1⟩,hput.w,e2];simp
   have e4:new7 h hd=((Z1l (put7 h hd).1 (put7 h hd).2.1 hd).1,(put7 h hd).2.1,0):=by rw[new7,if_pos c1,if_pos c2]
   refine⟨c1.1,c1.2,hput,c2,by rw[e4],by rw[e4];exact e3, ?_, ?_⟩
   .rw[e4];simp only;rw[e3,e2];have q:=hput.pr;rw[Z2b]at q ⊢;refine⟨q.1, ?_,q.2.2.1,q.2.2.2.1,q.2.2.2.2.1,q.2.2.2.2.2⟩;simp only[hlen];have:=q.2.1;rw[hput.w]at this;exact this
   .rw[e4];simp only;rw[e3];exact Z6x hw ho.1 _
  .simp at e
 .simp at e
def Zci{h:Heap}{a:Int}(e:(atH h a).2=0):4096<=a/\a+(atH h a).1.length<4096+h.W.length:=by
 have k:=Zg4 e;have po:=Z0a k.1;have o:=Z5e po.1 k.2.1;have hj:(ofA h.C a).1.toNat<h.P.length:=by omega
 have hk:(((ofA h.C a).1.toNat:Nat):Int)=(ofA h.C a).1:=by omega
 have h2:=e;unfold atH at h2 ⊢;rw[if_pos k.1,if_pos k.2.1]at h2 ⊢;split at h2
 .rename_i g1;split at h2
  .simp at h2
  .rename_i g2;rw[if_pos g1,if_neg g2];have hv:Z0i (decodeH (loadA h.W a).1).1=O:=Z2h _;have hs:sizeH (decodeH (loadA h.W a).1).1=(decodeH (loadA h.W a).1).1.length+1:=by rw[sizeH,if_pos hv]
   have hvb:=(validH_iff.1 hv).2.2.1;have ue:=Zbb k.1 hj g1.1;rw[hk]at ue;have h0:0<=(ofA h.C a).1*h.C.pw:=LN o.1 oq;have hio:=Z2f (i:=(ofA h.C a).1) (j:=h.C.pg) (pw:=h.C.pw) o.2.1 oq;rw[Ls h.C.pg]at hio;have hL:=po.2.2.2.2.2.1;refine⟨by omega, ?_⟩;simp only;rcases g1.1 with g | g<;>omega
 .simp at h2
def Ze8{h:Heap}{a i v:Int}(hw:WOk h.W)(hv:0<=v/\v<=18446744073709551615)(e:(getH h a).2=0)(hi:0<=i/\i<(getH h a).1.length):Z0w h a i v=({ h with W:=(Z1m h.W (a+1+i) v).1 },0)/\Z02 (Z0w h a i v).1=O/\WOk (Z0w h a i v).1.W:=by
 have g:=Z3A e;have k:=Zci g.2.1;rw[<- g.1]at k;have hin:4096<=a+1+i/\a+1+i<4096+h.W.length:=by omega
 have hf:(Z1N h a i).2=0:=by
  unfold Z1N;rw[if_pos e,if_pos hi];unfold loadA;rw[if_pos hin]
 have e1:Z0w h a i v=({ h with W:=(Z1m h.W (a+1+i) v).1 },0):=by rw[Z0w,if_pos hf]
 refine⟨e1, ?_, ?_⟩
 .rw[e1];have q:=g.2.2.1;rw[Z2b]at q ⊢;refine⟨q.1, ?_,q.2.2.1,q.2.2.2.1,q.2.2.2.2.1,q.2.2.2.2.2⟩;simp only[Z53 hin];exact q.2.1
 .rw[e1];exact Z8h hw hv _
def Z61(h:Header)(i:Int)(hm:0<=h.map/\h.map<=4294967295):GP 162 [h.av,int i] O (bool (Z0e h i)) []:=by
 rcases bb (!Z0i h||Lc (i<0)||Lc (h.length<=i))with hc0 | hc0<;>have hc0p:=hc0<;>simp only[bs]at hc0p
 .exact gF [] func162 (fO 6) (Fc 6 (@Z2y h aa) (Ft 17 hc0 (Fa (by grind[Z0e]:La=Z0e h i) Fz)))
 .obtain⟨⟨hc0paa,hc0pab⟩,hc0pb⟩:=hc0p;have hf3:=validH_iff.1 hc0paa;obtain⟨hf3a,⟨hf3ba,⟨hf3bba,⟨hf3bbba,hf3bbbb⟩⟩⟩⟩:=hf3;exact gF [] func162 (fO 17) (Fc 6 (@Z2y h aa) (Ff 17 hc0 (Fa (by intro hg;(try simp only[bs]at hg);omega:(!h.K==2&&h.K==1)=O->0<=i) (Fa (by exact Zmz h i hm aa oq oq:(h.K==2||h.K==1&&bits BinOp.and IntKind.u32 (h.map.fdiv (2^min i.toNat 32)) (1:Int)==1)=Z0e h i) Fz))))
def hptL(h:Header)(i:Nat):Tg:=⟨tm 19 [(1,.pt 8001 0 0),(2,.d (.sl 0 [])),(3,.ow 16003),(6,int (sizeH h)),(7,int i)],[(16003,.arr 3 1 ((Z0P h i).map idv)),(8001,.box 52 [int h.K,int h.length,u32 h.map])],60⟩
def Zkt(h:Header)(i:Nat)(hm:0<=h.map/\h.map<=4294967295)(hi:(i:Int)<sizeH h):CP (rndF f110 0) (hptL h i).st .nrm (hptL h (i+1)).st:=by
 have hn:=Z45 h i;have hs:=Z0T h;by_cases hp:Z0e h (i:Int)=O
 .have e:Z0P h (i+1)=Z0P h i++[(i:Int)]:=by rw[Z0P,if_pos hp]
  exact sF [(504016,16003)] (fO 5) (Fh 12 [.call O (Sx.bool (Z0e h (i:Int))) [],.br O] (Fh 16 [.els (Le idv (Z0P h i++[(i:Int)]))] (Ftb 8 (Lc ((i:Int)<sizeH h)) (Fa (@Z61 h ((i:Int)) aa) (Fa ‹Z0e h (i:Int)=O› (Fs 15 (Le idv [(i:Int)]) (Fa (by(simp[*];omega):(Le idv (Z0P h i)).length+(Le idv [(i:Int)]).length<=2^30) (Fa (ms:Le idv (Z0P h i)++Le idv [(i:Int)]=Le idv (Z0P h i++[(i:Int)])) (Fx 17 i (Fr (3:Int) (Fa (by refine congrArg _ ?_;rw[e]:Le idv (Z0P h i++[(i:Int)])=Le idv (Z0P h (i+1))) Fz)))))))))))
 .have e:Z0P h (i+1)=Z0P h i:=by rw[Z0P,if_neg hp]
  have hp':Z0e h (i:Int)=La:=by simpa using hp
  exact sF [] (fO 5) (Fh 12 [.call O (Sx.bool (Z0e h (i:Int))) [],.br La] (Ftb 8 (Lc ((i:Int)<sizeH h)) (Fa (@Z61 h ((i:Int)) aa) (Fa ‹Z0e h (i:Int)=La› (Fx 17 i (Fr (3:Int) (Fa (by refine congrArg _ ?_;rw[e]:Le idv (Z0P h i)=Le idv (Z0P h (i+1))) Fz)))))))
def Zpd(h:Header)(i:Nat)(hi:(i:Int)=sizeH h):CP (rndF f110 0) (hptL h i).st (.ext 0) (Tg.st ⟨tm 19 [(2,.d (.sl 0 [])),(3,.ow 16003)],[(16003,.arr 3 1 ((Z0P h i).map idv))],60⟩):=by
 exact sF [] [] (Ffb 8 (Lc ((i:Int)<sizeH h)) Fz)
def Z7i(h:Header):Z0P h (sizeH h).toNat=Z04 h:=by
 unfold Z04 sizeH;by_cases hv:Z0i h=O
 .rw[if_pos hv,if_pos hv];have hb:=validH_iff.1 hv;rw[show(h.length+1).toNat=h.length.toNat+1 from by omega,Z0P,if_neg];unfold Z0e;simp;omega
 .rw[if_neg hv,if_neg hv];rfl
def Zn8(h:Header)(hm:0<=h.map/\h.map<=4294967295):CP (blkF f110 0) (Tg.st ⟨tm 19 [(1,.pt 8001 0 0),(2,.d (.sl 0 [])),(3,.ow 16003),(6,int (sizeH h)),(7,int 0)],[(16003,.arr 3 1 []),(8001,.box 52 [int h.K,int h.length,u32 h.map])],60⟩) .nrm (Tg.st ⟨tm 19 [(2,.d (.sl 0 [])),(3,.ow 16003)],[(16003,.arr 3 1 ((Z04 h).map idv))],60⟩):=by
 have hs:=Z0T h;rw[<- Z7i];exact Z08 (S:=λi=>(hptL h i).st) (sizeH h).toNat kr (λi hi=>Zkt h i hm oq) (Zpd h _ oq)
def Z34(h:Header)(hm:0<=h.map/\h.map<=4294967295):GP 110 [h.av] O (.d (.sl 1 ((Z04 h).map idv))) []:=by
 exact gF [] func110 [] (Fh 3 [.own] (Fc 6 (@Z0B h aa) (Fu (@Zn8 h aa) (Fa (by exact Zff _:Z1s (Le idv (Z04 h))) Fz))))
def ahdL(h:Heap)(i:Nat):Tg:=⟨tm 19 [(1,int i),(2,.pt 8002 0 0),(4,int 0)],[(8002,.box 28 h.cells)],60⟩
def ZlW(h:Heap)(i:Nat)(hi:i+1<h.P.length)(hl:h.P.length<=1048576)(hk:(h.P.getD (i+1) M).K=3):CP (rndF f247 0) (ahdL h (i+1)).st .nrm (ahdL h i).st:=by
 have ei:((i+1:Nat):Int)-1=(i:Int):=by omega
 exact sF [] [] (FeG 11 (Lc (0<(↑(i+1):Int))) Page.dv h.P (↑(i+1):Int) (i+1) (Ftb 15 (Lc (0<(↑(i+1):Int))&&(h.P.getD (i+1) M).K==3) (Fg 17 (by rw[wrapI' oq oq];omega:IntKind.i64.wrap ((↑(i+1):Int)-1)=(i:Int)) Fz)))
def Zmy(h:Heap)(i:Nat)(hi:i<h.P.length)(hl:h.P.length<=1048576)(hk:¬ (h.P.getD i M).K=3):CP (rndF f247 0) (ahdL h i).st (.ext 0) (Tg.st ⟨tm 19 [(1,int i),(4,int 0)],[],60⟩):=by
 exact sF [] [] (FeG 11 (Lc (0<(i:Int))) Page.dv h.P (↑i) i (Ffb 15 (Lc (0<(i:Int))&&(h.P.getD i M).K==3) Fz))
def Zpz(h:Heap)(hp:Z02 h=O)(hl:h.P.length<=1048576):∀ i,i<h.P.length->LSpec prog f247 0 (ahdL h i).st (.ext 0) (Tg.st ⟨tm 19 [(1,int (Z0s h.P i)),(4,int 0)],[],60⟩)
 | 0,hi=>.endx (Zmy h 0 hi hl (ZpN hp))
 | i+1,hi=>by
  unfold Z0s;by_cases hk:(h.P.getD (i+1) M).K=3
  .rw[if_pos hk];exact .next (ZlW h i hi hl hk) (Zpz h hp hl i oq)
  .rw[if_neg hk];exact .endx (Zmy h (i+1) hi hl hk)
def ZmU(h:Heap)(i:Nat)(hp:Z02 h=O)(hi:i<h.P.length)(hl:h.P.length<=1048576):CP (blkF f247 0) (ahdL h i).st .nrm (Tg.st ⟨tm 19 [(1,int (Z0s h.P i)),(4,int 0)],[],60⟩) :=
 (Zpz h hp hl i hi).ext kr
def Zjz(h:Heap)(i:Nat)(hp:Z02 h=O)(hi:i<h.P.length):GP 247 [h.av,int i] O (int (Z0s h.P i)) []:=by
 have po:=Z0a hp;exact gF [] func247 [] (Fu (@ZmU h i aa aa oq) Fz)
def aclL(h:Heap)(i:Int)(l:List Int)(n:Nat):Tg:=⟨tm 58 [(1,int i),(3,.pt 8003 0 0),(6,u64 0),(7,bool La),(13,Z01 l),(14,int l.length),(15,int n)],[(8003,.box 28 h.cells)],60⟩
section
variable (h:Heap) (i:Int) (l:List Int) (n:Nat) (hw:WOk h.W) (hl:l.length<=1048576) (hi:0<=i/\i<h.P.length) (hp:h.P.length<=1048576) (hr:∀ x∈l,0<=x/\x<=8192)
include hw hl hi hp hr
theorem ZfP(hn:n<l.length)(hb:Z17 h i (l.getD n M)=La):CP (rndF f228 0) (aclL h i l n).st .nrm (aclL h i l (n+1)).st:=by
 have hx:=hr (l.getD n M) (getD_mem_iff.2 ⟨n,hn,rfl⟩);have hm:=Z27 hw (l.getD n M);simp only[Z17,bs]at hb;let y0:=atH h (l.getD n M);let y1:=h.P.getD i.toNat M;exact sF [] [] (Ftb 16 (Lc ((n:Int)<(l.length:Int))) (Fek 17 wdv l (↑n) n (Fc 22 (@Z2M h (l.getD n M) aa oq) (Fc 26 (@Z0B (y0.1) aa) (Fc 29 (@Z35 h.C) (Fe 34 Page.dv h.P i (FeGq 46 (!(y1.K==1&&!decide (sizeH y0.1<=Z00 h.C))) Page.dv h.P i (Ffb 55 (y1.K==1&&!decide (sizeH y0.1<=Z00 h.C)||y1.K==2&&y0.1.K==0) (Fx 57 n Fz)))))))))
theorem Zl8(hn:n<l.length)(hb:Z17 h i (l.getD n M)=O):CP (rndF f228 0) (aclL h i l n).st .ret (Tg.st ⟨tm 58 [(6,u64 (l.getD n M)),(7,bool O)],[],60⟩):=by
 have hx:=hr (l.getD n M) (getD_mem_iff.2 ⟨n,hn,rfl⟩);have hm:=Z27 hw (l.getD n M);simp only[Z17,bs]at hb;let y0:=atH h (l.getD n M);let y1:=h.P.getD i.toNat M;exact sF [] [] (Ftb 16 (Lc ((n:Int)<(l.length:Int))) (Fek 17 wdv l (↑n) n (Fc 22 (@Z2M h (l.getD n M) aa oq) (Fc 26 (@Z0B (y0.1) aa) (Fc 29 (@Z35 h.C) (Fe 34 Page.dv h.P i (FeGq 46 (!(y1.K==1&&!decide (sizeH y0.1<=Z00 h.C))) Page.dv h.P i (Ftb 55 (y1.K==1&&!decide (sizeH y0.1<=Z00 h.C)||y1.K==2&&y0.1.K==0) Fz))))))))
omit hw hl hi hp hr in
theorem ZoM:CP (rndF f228 0) (aclL h i l l.length).st (.ext 0) (Tg.st ⟨tm 58 [(6,u64 0),(7,bool La)],[],60⟩):=by
 exact sF [] [] (Ffb 16 (Lc ((l.length:Int)<(l.length:Int))) Fz)
end
def ZnL(h:Heap)(i:Int)(l:List Int)(hw:WOk h.W)(hl:l.length<=1048576)(hi:0<=i/\i<h.P.length)(hp:h.P.length<=1048576)(hr:∀ x∈l,0<=x/\x<=8192)(hf:l.find? (Z17 h i)=Ld) :
  CP (blkF f228 0) (Tg.st ⟨tm 58 [(1,int i),(3,.pt 8003 0 0),(6,u64 0),(7,bool La),(13,Z01 l),(14,int l.length),(15,int 0)],[(8003,.box 28 h.cells)],60⟩) .nrm (Tg.st ⟨tm 58 [(6,u64 0),(7,bool La)],[],60⟩) :=
 Z08 (S:=λn=>(aclL h i l n).st) l.length kr (λn hn=>ZfP h i l n hw hl hi hp hr hn (Z6D hf n hn)) (ZoM h i l)
def Zky(h:Heap)(i:Int)(l:List Int)(x:Int)(hw:WOk h.W)(hl:l.length<=1048576)(hi:0<=i/\i<h.P.length)(hp:h.P.length<=1048576)(hr:∀ x∈l,0<=x/\x<=8192)(hf:l.find? (Z17 h i)=Lb x) :
  CP (blkF f228 0) (Tg.st ⟨tm 58 [(1,int i),(3,.pt 8003 0 0),(6,u64 0),(7,bool La),(13,Z01 l),(14,int l.length),(15,int 0)],[(8003,.box 28 h.cells)],60⟩) .ret (Tg.st ⟨tm 58 [(6,u64 x),(7,bool O)],[],60⟩):=by
 obtain⟨n,h1,h2,h3,h4⟩:=Z3C hf;subst h2;exact Z0v (S:=λn=>(aclL h i l n).st) n kr (λm hm=>ZfP h i l m hw hl hi hp hr oq (h4 m hm)) (Zl8 h i l n hw hl hi hp hr h1 h3)
def Z1R(h:Heap)(i:Int)(l:List Int):Bool:=(l.find? (Z17 h i)).isSome
def Z3q(h:Heap)(i:Int)(l:List Int)(hw:WOk h.W)(hl:l.length<=1048576)(hp:h.P.length<=1048576)(hi:0<=i/\i<h.P.length)(hr:∀ x∈l,0<=x/\x<=8192):GP 228 [h.av,int i,Z01 l] O (.tu [u64 (Z10 h i l),bool (Z1R h i l)]) []:=by
 cases hf:l.find? (Z17 h i)with
 | none =>
  have e7:Z10 h i l=0:=by rw[Z10,hf];rfl
  have e8:Z1R h i l=La:=by rw[Z1R,hf];rfl
  rw[e7,e8];exact gF [] func228 [] (Fl 14 wdv l (Fu (@ZnL h i l aa aa aa aa aa aa) Fz))
 | some x =>
  have e7:Z10 h i l=x:=by rw[Z10,hf];rfl
  have e8:Z1R h i l=O:=by rw[Z1R,hf];rfl
  rw[e7,e8];exact gF [] func228 [] (Fl 14 wdv l (Fu (@Zky h i l x aa aa aa aa aa aa) Fz))
end Go.Proofs.YtgedmeaemofdkaaGreat
namespace Go.Sx
def mvP(ids:List Nat)(post:List Blk)(n:Nat):List Blk:=(upto 0 n).map λk=>match idxN k ids 0 with
 | some j=>Z3F ids (post.getD j .dead)
 | none=>.dead
def mvOk(m p n:Nat)(ids:List Nat):Bool:=L3 ids.length p&&Lo m p&&Lo m n&&nodupB ids&&(upto 0 p).all (λj=>Lo (ids.getD j 0+1) n&&(L3 (ids.getD j 0) j||Lo m (ids.getD j 0)))&&(upto 0 n).all λk=>match idxN k ids 0 with | Lb _=>O | Ld=>Lo (k+1) m
def Zm5{P:Program}{f:Nat}{args:List AV}{pre:List Blk}{res:AV}{post:List Blk}(ids:List Nat)(n:Nat){res2:AV}{post2:List Blk}(h:BorSpec P f args pre res post)(ok:mvOk pre.length post.length n ids=O)(hr:mapT (renI ids) res=res2)(hp:mvP ids post n=post2):BorSpec P f args pre res2 post2:=by
 simp only[mvOk,LM,List.all_eq_true,Bool.or_eq_true]at ok;obtain⟨⟨⟨⟨⟨k1,k2⟩,k3⟩,k4⟩,k5⟩,k6⟩:=ok;have k1:=L4 k1;have k2:=Lp k2;have k3:=Lp k3;have k4:=Z30 k4;have mem:∀ {j p:Nat},j<p->j∈upto 0 p:=λ{j p} hj=>Lu (by rw[Z7G _ _ _ hj,LG]);have k5:∀ j,j<post.length->ids.getD j 0<n/\(ids.getD j 0=j\/pre.length<=ids.getD j 0):=λj hj=>by
  have:=k5 j (mem hj);exact⟨Lp this.1,this.2.imp L4 Lp⟩
 have k6:∀ k,k<n->idxN k ids 0=Ld->k<pre.length:=λk hk e=>by
  have:=k6 k (mem hk);rw[e]at this;exact Lp this
 subst hr hp;have pl:(mvP ids post n).length=n:=by simp[mvP,Z7N]
 have pg:∀ (k:Nat) (B:Blk),(mvP ids post n)[k]? = Lb B->k<n/\((∃ j,ids[j]? = Lb k/\j<post.length/\B=Z3F ids (post.getD j .dead))\/(k<pre.length/\B = .dead)):=λk B hB=>by
  have hk:k<n:=by have:=(Lt.1 hB).1;omega
  simp only[mvP,LS,Z7G _ _ _ hk,LG,L7,Option.some.injEq]at hB;refine⟨hk, ?_⟩;cases e:idxN k ids 0 with
  | none=>rw[e]at hB;exact .inr ⟨k6 k hk e,hB.symm⟩
  | some j =>
   rw[e]at hB;obtain⟨_,q⟩:=Z1K e;have q:ids[j]? = Lb k:=by simpa using q
   exact .inl ⟨j,q,by have:=(Lt.1 q).1;omega,hB.symm⟩
 intro w Im ρ vs hIm hsz hρ hinj hbnd hpre hargs;refine(h w Im ρ vs hIm hsz hρ hinj hbnd hpre hargs).mono ?_;rintro e w' ⟨v,rfl,hk,ρ',Im',a1,a2,a3,a4,a5,a6,a7,a8,a9⟩;let ρ2:Rho:=λk=>if k<pre.length then ρ' k else match idxN k ids 0 with | Lb j=>ρ' j | Ld=>Ld
 have hlow:∀ k,k<pre.length->ρ2 k=ρ' k:=λk hk=>by simp only[ρ2,if_pos hk]
 have hat:∀ (j k:Nat),ids[j]? = Lb k->ρ2 k=ρ' j:=λj k q=>by
  have hj:j<post.length:=by have:=(Lt.1 q).1;omega
  have e:ids.getD j 0=k:=by rw[Lf,q];rfl
  have c:=k5 j hj;rw[e]at c;by_cases hkp:k<pre.length
  .rw[hlow k hkp];rcases c.2 with c | c
   .rw[c]
   .omega
  .simp only[ρ2,if_neg hkp];cases ex:idxN k ids 0 with
   | none=>exact absurd (Lu q) (Z41 ex)
   | some j2 =>
    obtain⟨_,q2⟩:=Z1K ex;rw[Z4n k4 q (by simpa using q2)]
 have hfrom:∀ k β,ρ2 k=Lb β->∃ j,ρ' j=Lb β/\k<n:=λk β hb=>by
  by_cases hkp:k<pre.length
  .rw[hlow k hkp]at hb;exact⟨k,hb,by omega⟩
  .simp only[ρ2,if_neg hkp]at hb;split at hb
   .rename_i j hj;obtain⟨_,q⟩:=Z1K hj;have q:ids[j]? = Lb k:=by simpa using q
    have hj:j<post.length:=by have:=(Lt.1 q).1;omega
    have:=k5 j hj;rw[Lf,q]at this;exact⟨j,hb,this.1⟩
   .cases hb
 have hren:∀ j β,ρ' j=Lb β->ρ2 (ids.getD j 0)=Lb β:=λj β hb=>by
  have hj:=a2 j β hb;have q:ids[j]? = Lb (ids.getD j 0):=by rw[Lf,Li oq];rfl
  rw[hat j _ q];exact hb
 have hlv:∀ k,live (hL (mvP ids post n)) k->∃ j,ids[j]? = Lb k/\live (hL post) j:=by
  rintro k ⟨B,hB,hd⟩;obtain⟨_,⟨j,q1,q2,q3⟩ | ⟨_,q⟩⟩:=pg k B hB
  .refine⟨j,q1,post[j],Li q2,λe=>hd ?_⟩;rw[q3,Lf,Li q2];simp only[L6,e,Z3F]
  .exact absurd q hd
 refine⟨v,rfl,hk,ρ2,Im',λk β hb=>?_,λk β hb=>?_,a3,a4,λk β g hb=>?_,λk β g hl hb=>?_,λk k' β β' g hl hl' hb hb' hg hg'=>?_,λk B hB=>?_, ?_⟩
 .rw[hlow k (hρ k β hb)];exact a1 k β hb
 .obtain⟨j,_,q⟩:=hfrom k β hb;rw[pl];exact q
 .obtain⟨j,q,_⟩:=hfrom k β hb;exact a5 j β g q
 .obtain⟨j,q1,q2⟩:=hlv k hl;rw[hat j k q1]at hb;exact a6 j β g q2 hb
 .obtain⟨j,q1,q2⟩:=hlv k hl;obtain⟨j',q1',q2'⟩:=hlv k' hl';rw[hat j k q1]at hb;rw[hat j' k' q1']at hb';have:=a7 j j' β β' g q2 q2' hb hb' hg hg';subst this;rw[q1]at q1';exact Option.some.inj q1'
 .obtain⟨_,⟨j,q1,q2,rfl⟩ | ⟨q,rfl⟩⟩:=pg k B hB
  .obtain⟨β,m1,m2⟩:=a8 j _ (Li q2);rw[Lf,Li q2];exact⟨β,by rw[hat j k q1];exact m1,Z8Z (λ_ h=>h) hren m2⟩
  .obtain⟨β,m1,_⟩:=hpre k _ (Li q);exact⟨β,by rw[hlow k q];exact a1 k β m1,trivial⟩
 .obtain⟨q1,q2,q3⟩:=Z7E (w:=w') (Im:=Im') (Im':=Im') hren;exact Z7J (λ_ h=>h) q1 q2 q3 a9
end Go.Sx
namespace Go.Proofs.YtgedmeaemofdkaaGreat
open Go.Sx
def seaP(all l:List Int):List Blk:=[.box 105 [Z01 all,.pt 1 0 99999,.ow 2],.mp l,.arr 35 1 (l.map wdv)]
def seaQ(all l:List Int):List Blk:=[.box 105 [Z01 all,.pt 1 0 99999,.ow 3],.mp l,.dead,.arr 35 1 (l.map wdv)]
section
variable (all l:List Int) (r:Int) (h0:0<=r/\r<=18446744073709551615) (hl:l.length<=1048576) (ha:all.length<=1048576) (hs:all.Pairwise (· < ·))
include h0 hl ha hs
theorem Zmx(h:r≠0)(hr:r∉all):BP 108 [.pt 0 0 0,u64 r] (seaP all l) (bool La) (seaP all l):=by
 exact borF [0,1,2] [] func108 [] (Ffb 10 (r==0) (Fc 17 (@bsearch all r aa aa) (Ftb 21 (!decide (r∈all)) Fz)))
theorem ZpS(h:r=0\/r∈all)(hr:r=0\/r∈l):BP 108 [.pt 0 0 0,u64 r] (seaP all l) (bool O) (seaP all l):=by
 by_cases c:r=0
 .exact borF [0,1,2] [] func108 [] (Ftb 10 (r==0) Fz)
 .have h:=h.resolve_left c;have hr:=hr.resolve_left c;exact borF [0,1,2] [] func108 [] (Ffb 10 (r==0) (Fc 17 (@bsearch all r aa aa) (Ffb 21 (!decide (r∈all)) (Ff 32 (by simp[mpC, *]:(!mpC l r)=La) Fz))))
theorem ZoT(h:r≠0)(hr:r∈all)(hn:r∉l):BP 108 [.pt 0 0 0,u64 r] (seaP all l) (bool O) [.box 105 [Z01 all,.pt 1 0 99999,.ow 3],.mp (l++[r]),.dead,.arr 35 1 ((l++[r]).map wdv)]:=by
 exact borF [0,1,8002] [72050] func108 [] (Fh 50 [.els (Le wdv (l++[r]))] (Ffb 10 (r==0) (Fc 17 (@bsearch all r aa aa) (Ffb 21 (!decide (r∈all)) (Ft 32 (by simp[mpC, *]:(!mpC l r)=O) (Fl 42 wdv l (Fa (by intro hg;(try simp only[bs]at hg);grind[mpC]:r∈l->False) (Fr (l.length:Int) (Fo (l.length<2^30) (Fs 49 (Le wdv [r]) (Fa (by(simp[mpC, *];omega):(Le wdv l).length+(Le wdv [r]).length<=2^30) (Fa (by simp[mpC,LY,List.map_drop,List.map_set,LW,wdv,idv]:Le wdv l++Le wdv [r]=Le wdv (l++[r])) Fz))))))))))))
theorem ZpQ(h:r=0\/r∈all):BP 108 [.pt 0 0 0,u64 r] (seaP all l) (bool O) (seaQ all (addO l r)):=by
 by_cases c:r=0\/r∈l
 .rw[addO,if_pos c];exact Zm5 [0,1,3] 4 (ZpS all l r h0 hl ha hs h c) (by rfl) rfl rfl
 .rw[addO,if_neg c];exact ZoT all l r h0 hl ha hs (λq=>c (.inl q)) (h.resolve_left λq=>c (.inl q)) (λq=>c (.inr q))
end
def ZcC(hd:Header)(fs:List Int)(f:Int->Int):∀ n:Nat,(∀ k:Nat,k<n->fs.getD k M=f k)->Z2i hd fs n=(Z0P hd n).map f
 | 0,_=>rfl
 | n+1,h=>by
  unfold Z2i Z0P;rw[ZcC hd fs f n (λk hk=>h k oq),h n oq];split
  .simp
  .rfl
def Z58{h:Heap}(hp:Z02 h=O){a:Int}(ha:a∈(Z03 h).1):(getH h a).2=0/\(atH h a).2=0/\(atH h a).1.K≠0:=by
 obtain⟨h1,h2⟩:=List.mem_filter.1 ha;have h2:(atH h a).1.K≠0:=by simpa[Z3f]using h2
 rw[ZaO]at h1;obtain⟨x,hx,rfl⟩:=Ln.1 h1;have h3:=(ZeO x hx).2;refine⟨?_,h3,h2⟩;unfold getH;have z:x.addr≠0:=λe=>ZbI h (by have:=h3;rw[e]at this;exact this);rw[if_pos hp,if_neg z,if_neg (λe=>h2 e.2)];exact h3
def Z0q(h:Heap)(a:Int):List Int:=(Z04 (atH h a).1).map λj=>(loadA h.W (a+1+j)).1
def ZkW{h:Heap}{a:Int}(hp:Z02 h=O)(ha:a∈(Z03 h).1):Zop h a=Z0q h a:=by
 have g:=(Z58 hp ha).1;obtain⟨e,e1,_,_,k1,k2,v,_,_,l1,l2⟩:=Z3A g;have r:=Zci e1;rw[<- e]at r;have fl:(Z0t h a)=Z1e h.W (a+1) (getH h a).1.length:=by rw[Z0t,if_pos g]
 have rd:Z1e h.W (a+1) (getH h a).1.length=((h.W.drop (a+1-4096).toNat).take (getH h a).1.length.toNat,0):=by
  rw[Z1e,if_neg oq,if_pos oq]
 unfold Zop Z0q;rw[fl,rd];have ln:((h.W.drop (a+1-4096).toNat).take (getH h a).1.length.toNat).length=(getH h a).1.length.toNat:=by
  rw[LV,List.length_drop];omega
 rw[ZcC _ _ (λj=>(loadA h.W (a+1+j)).1) _ (λk hk=>?_),ln]
 .unfold Z04;rw[<- e,if_pos v]
 .rw[ln]at hk;show((h.W.drop (a+1-4096).toNat).take (getH h a).1.length.toNat).getD k M=_;rw[loadA,if_pos oq];simp only[Lf,List.getElem?_take,Lz];rw[if_pos oq,show(a+1-4096).toNat+k=(a+1+(k:Int)-4096).toNat by omega];rfl
def Zp4{l:List Int}{a:Int}(h:l.Nodup)(ha:a∉l):(l++[a]).Nodup:=by
 rw[List.nodup_append];refine⟨h,by simp,λb hb c hc=>?_⟩;rw[L1]at hc;rintro rfl;exact ha (hc▸hb)
def Zoo{all out:List Int}{r:Int}(h:out.Nodup/\∀ x∈out,x∈all)(hr:r=0\/r∈all):(addO out r).Nodup/\∀ x∈addO out r,x∈all:=by
 unfold addO;split
 .exact h
 .rename_i c;refine⟨Zp4 h.1 (λq=>c (.inr q)),λx hx=>?_⟩;rcases LA.1 hx with hx | hx
  .exact h.2 x hx
  .rw[L1.1 hx];exact hr.resolve_left λq=>c (.inl q)
def ZeL{refs all:List Int}{i:Nat}(h:rfsB refs all i=La):refs.getD i M=0\/refs.getD i M∈all:=by
 have:=of_decide_eq_false h;by_cases c:refs.getD i M=0
 .exact .inl c
 .exact .inr (L8.1 λq=>this ⟨c,q⟩)
def Z74{all out refs:List Int}(h:out.Nodup/\∀ x∈out,x∈all):∀ n,(∀ j,j<n->rfsB refs all j=La)->(addN out refs n).Nodup/\∀ x∈addN out refs n,x∈all
 | 0,_=>h
 | n+1,hb=>Zoo (Z74 h n λj hj=>hb j oq) (ZeL (hb n oq))
def Zbw{refs all:List Int}(h:(Lh refs.length).find? (rfsB refs all)=Ld):∀ j,j<refs.length->rfsB refs all j=La:=λj hj=>by
 simpa using List.find?_eq_none.1 h j (Lv.2 hj)
def Zdd:∀ {l m:List Int},l.Nodup->(∀ x∈l,x∈m)->l.length<=m.length
 | [],_,_,_=>Ll _
 | a::l,m,hn,h=>by
  obtain⟨h1,h2⟩:=List.nodup_cons.1 hn;have ha:=h a pq;have:=Zdd (l:=l) (m:=m.erase a) h2 (λx hx=>(List.mem_erase_of_ne (by rintro rfl;exact h1 hx)).2 (h x (by simp[hx])));have e:=List.length_erase_of_mem ha;have:=List.length_pos_of_mem ha;simp only[List.length_cons];omega
def ordG(h:Heap)(roots:List Int):Nat->List Int
 | 0=>addN [] roots roots.length
 | i+1=>addN (ordG h roots i) (Z0q h ((ordG h roots i).getD i M)) (Z0q h ((ordG h roots i).getD i M)).length
def badG(h:Heap)(roots:List Int)(i:Nat):Bool:=((Lh (Z0q h ((ordG h roots i).getD i M)).length).find? (rfsB (Z0q h ((ordG h roots i).getD i M)) (Z03 h).1)).isSome
def ordT(h:Heap)(roots:List Int):Nat->Nat->Nat
 | 0,i=>i
 | f+1,i=>if(ordG h roots i).length<=i\/badG h roots i=O then i else ordT h roots f (i+1)
def ordZ(h:Heap)(roots:List Int):Nat:=ordT h roots 16385 0
def Z2r(h:Heap)(roots:List Int):Bool:=((Lh roots.length).find? (rfsB roots (Z03 h).1)).isSome
structure OrdI (h:Heap) (roots:List Int) (k:Nat):Prop where
 lo:∀ i,i<k->i<(ordG h roots i).length/\badG h roots i=La
 el:∀ i,i<=k->(ordG h roots i).Nodup/\∀ x∈ordG h roots i,x∈(Z03 h).1
def OrdI.len{h:Heap}{roots:List Int}{k:Nat}(I:OrdI h roots k){i:Nat}(hi:i<=k):(ordG h roots i).length<=16384 :=
 Lw (Zdd (I.el i hi).1 (I.el i hi).2) (Z0F h)
def OrdI.zero{h:Heap}{roots:List Int}(hr:Z2r h roots=La):OrdI h roots 0:=by
 refine⟨λi hi=>by omega,λi hi=>?_⟩;obtain rfl:i=0:=by omega
 exact Z74 ⟨LD,by simp⟩ _ (Zbw (by simpa[Z2r]using hr))
def OrdI.succ{h:Heap}{roots:List Int}{k:Nat}(I:OrdI h roots k)(h1:k<(ordG h roots k).length)(h2:badG h roots k=La):OrdI h roots (k+1):=by
 refine⟨λi hi=>?_,λi hi=>?_⟩
 .by_cases q:i=k
  .rw[q];exact⟨h1,h2⟩
  .exact I.lo i oq
 .by_cases q:i=k+1
  .rw[q];exact Z74 (I.el k (Lg _)) _ (Zbw (by simpa[badG]using h2))
  .exact I.el i oq
def ZfL{h:Heap}{roots:List Int}:∀ f i,OrdI h roots i->16385<=f+i->OrdI h roots (ordT h roots f i)/\((ordG h roots (ordT h roots f i)).length<=ordT h roots f i\/badG h roots (ordT h roots f i)=O)
 | 0,i,I,hf=>by
  have:=I.len (Lg i);exact⟨I,.inl (by unfold ordT;omega)⟩
 | f+1,i,I,hf=>by
  unfold ordT;by_cases q:(ordG h roots i).length<=i\/badG h roots i=O
  .rw[if_pos q];exact⟨I,q⟩
  .rw[if_neg q];exact ZfL f (i+1) (I.succ oq (by simpa using λe=>q (.inr e))) oq
def Zc0{h:Heap}{roots:List Int}(hr:Z2r h roots=La):OrdI h roots (ordZ h roots)/\((ordG h roots (ordZ h roots)).length<=ordZ h roots\/badG h roots (ordZ h roots)=O) :=
 ZfL _ _ (OrdI.zero hr) oq
def Z09(h:Heap)(roots:List Int):List Int×Int :=
 if Z02 h=O then
  if(Z03 h).2=0 then
   if Z2r h roots=O\/((ordZ h roots)<(ordG h roots (ordZ h roots)).length/\badG h roots (ordZ h roots)=O)then([],19)else(ordG h roots (ordZ h roots),0)
  else([],(Z03 h).2)
 else([],1)
section
variable (all out refs:List Int) (hl:refs.length<=1000000) (ha:all.length<=1048576) (ho:out.length<=16384) (hr:ULe refs)
include hl ha ho hr
theorem Zq0(i:Nat)(hi:i<refs.length)(hb:rfsB refs all i=O):CP (rndF f66 0) (a8L all out refs i).st .ret (Tg.st ⟨tm 42 [(6,.d (.sl 0 [])),(7,bool La)],[],60⟩):=by
 have r:=hr _ (getD_mem_iff.2 ⟨i,hi,rfl⟩);obtain⟨b1,b2⟩:=of_decide_eq_true hb;exact sF [] [] (FN 11 12 17 wdv refs i (Ffb 19 (refs.getD i M==0) (Fek 23 wdv refs (↑i) i (Fc 25 (@Z0N all (refs.getD i M) aa) (Ftb 26 (!decide (refs.getD i M∈all)) Fz)))))
theorem ZnN(k:Nat)(hb:(Lh refs.length).find? (rfsB refs all)=Lb k):CP (blkF f66 0) (Tg.st ⟨tm 42 [(0,Z01 all),(1,.ow 8000),(2,Z01 refs),(6,.d (.sl 0 [])),(7,bool La),(8,int 0)],[(8000,.arr 35 1 (out.map wdv))],4⟩) .ret (Tg.st ⟨tm 42 [(6,.d (.sl 0 [])),(7,bool La)],[],60⟩):=by
 obtain⟨h1,h2,h3⟩:=Ly.1 hb;have h2:=Lv.1 h2;have ln:∀ m,(addN out refs m).length<=out.length+m:=ZeX out refs;exact Z0v (S:=λk=>(a8L all out refs k).st) k kr (λm hm=>ZjC all out refs oq ha (by have:=ln refs.length;omega) hr m oq (by simpa using h3 m hm)) (Zq0 all out refs hl ha ho hr k h2 h1)
theorem Zaj(hb:((Lh refs.length).find? (rfsB refs all)).isSome=O):BP 66 [Z01 all,.ow 0,Z01 refs] [.arr 35 1 (out.map wdv)] (.tu [.d (.sl 0 []),bool La]) [.dead]:=by
 obtain⟨k,hb⟩:=LH.1 hb;exact borF [8000] [] func66 [] (Fu (@ZnN all out refs aa aa aa aa k hb) (Fnl Fz))
end
def Z9l(h:Heap)(a:Int)(hw:WOk h.W)(hp:Z02 h=O)(ha:a∈(Z03 h).1):GP 18 [h.av,u64 a] La (Z01 (Z0q h a)) []:=by
 rw[<- ZkW hp ha];have:=Z18 h a ha;exact Zld h a hw oq
def Zda(h:Heap)(a:Int):(Z0q h a).length<=255:=by
 rw[Z0q,Lk];exact(Z1I _).1
def Zjp{h:Heap}(hw:WOk h.W)(a:Int):ULe (Z0q h a):=by
 intro x hx;obtain⟨j,_,rfl⟩:=Ln.1 hx;exact Z0H hw _
def Z89(all refs:List Int)(hl:refs.length<=1048576)(ha:all.length<=1048576)(ho:(addN [] refs refs.length).length<=1048576)(hr:ULe refs)(hb:(Lh refs.length).find? (rfsB refs all)=Ld):BP 66 [Z01 all,.ow 0,Z01 refs] [.arr 35 1 []] (.tu [.ow 1,bool O]) [.dead,.arr 35 1 ((addN [] refs refs.length).map wdv)] :=
 Zje all [] refs hl ha ho hr hb
def Zbg(all refs:List Int)(hl:refs.length<=1000000)(ha:all.length<=1048576)(hr:ULe refs)(hb:((Lh refs.length).find? (rfsB refs all)).isSome=O):BP 66 [Z01 all,.ow 0,Z01 refs] [.arr 35 1 []] (.tu [.d (.sl 0 []),bool La]) [.dead] :=
 Zaj all [] refs hl ha (Ll _) hr hb
def orG(h:Heap)(roots:List Int)(i:Nat):Tg:=⟨tm 52 [(2,.pt 8002 0 0),(4,.d (.sl 0 [])),(5,int 0),(6,Z01 (Z03 h).1),(8,.ow 41025),(9,bool O),(10,int i)],[(41025,.arr 35 1 ((ordG h roots i).map wdv)),(8002,.box 28 [int h.C.pw,int h.C.pg,.d (.sl 1 (h.W.map wdv)),.d (.sl 4 (h.P.map Page.dv)),int h.S,int h.B])],7⟩
def orX(i:Nat):Tg:=⟨tm 52 [(4,.d (.sl 0 [])),(5,int 0),(8,.d (.sl 0 [])),(9,bool La),(10,int i)],[],7⟩
section
variable (h:Heap) (roots:List Int) (k:Nat) (I:OrdI h roots k) (hw:WOk h.W) (hp:Z02 h=O)
include I hw hp
theorem Zf2(i:Nat)(hi:i<k):CP (rndF f25 0) (orG h roots i).st .nrm (orG h roots (i+1)).st:=by
 have ol:=Z0F h;obtain⟨o1,o2⟩:=I.lo i hi;have o3:=I.len (i:=i) oq;have o4:=I.len (i:=i+1) oq;have om:=(I.el i oq).2 _ (getD_mem_iff.2 ⟨i,o1,rfl⟩);have ox:=Z18 h _ om;have rl:=Zda h ((ordG h roots i).getD i M);have ru:=Zjp hw ((ordG h roots i).getD i M);have o2:(Lh (Z0q h ((ordG h roots i).getD i M)).length).find? (rfsB (Z0q h ((ordG h roots i).getD i M)) (Z03 h).1)=Ld:=by simpa[badG]using o2
 have e7:ordG h roots (i+1)=addN (ordG h roots i) (Z0q h ((ordG h roots i).getD i M)) (Z0q h ((ordG h roots i).getD i M)).length:=rfl;rw[e7]at o4;unfold orG;rw[e7];let y0:=ordG h roots i;exact sF [(65046,41025)] [] (FlG 32 O wdv y0 (Ftb 34 (Lc ((i:Int)<(y0.length:Int))) (Fmq 44 wdv y0 (↑i) (Fc 45 (@Z9l h (y0.getD (i:Int).toNat M) aa aa aa) (Fbr 46 [41025] (@Zje ((Z03 h).1) y0 (Z0q h (y0.getD (i:Int).toNat M)) (by grind[]) oq (by grind[]) aa aa) (Fx 36 i Fz))))))
theorem Zpm(hi:k<(ordG h roots k).length)(hb:badG h roots k=O):CP (rndF f25 0) (orG h roots k).st .nrm (orX (k+1)).st:=by
 have ol:=Z0F h;have o3:=I.len (Lg k);have om:=(I.el k (Lg k)).2 _ (getD_mem_iff.2 ⟨k,hi,rfl⟩);have ox:=Z18 h _ om;have rl:=Zda h ((ordG h roots k).getD k M);have ru:=Zjp hw ((ordG h roots k).getD k M);unfold badG at hb;unfold orG;let y0:=ordG h roots k;exact sF [] [] (FlG 32 O wdv y0 (Ftb 34 (Lc ((k:Int)<(y0.length:Int))) (Fmq 44 wdv y0 (↑k) (Fc 45 (@Z9l h (y0.getD (k:Int).toNat M) aa aa aa) (Fbr 46 [41025] (@Zaj ((Z03 h).1) y0 (Z0q h (y0.getD (k:Int).toNat M)) (by grind[]) oq aa aa aa) (Fx 36 k Fz))))))
omit I hw hp in
theorem ZmE:CP (rndF f25 0) (orX k).st (.ext 0) (Tg.st ⟨tm 52 [(4,.d (.sl 0 [])),(5,int 0),(8,.d (.sl 0 [])),(9,bool La)],[],7⟩):=by
 exact sF [] [] Fz
omit I hw hp in
theorem ZoF(e:(ordG h roots k).length<=k):CP (rndF f25 0) (orG h roots k).st (.ext 0) (Tg.st ⟨tm 52 [(4,.d (.sl 0 [])),(5,int 0),(8,.ow 41025),(9,bool O)],[(41025,.arr 35 1 ((ordG h roots k).map wdv))],7⟩):=by
 exact sF [] [] (FlG 32 O wdv (ordG h roots k) (Ffb 34 (Lc ((k:Int)<(↑(ordG h roots k).length:Int))) Fz))
def ZmP(e:(ordG h roots k).length<=k)  := Z08 (S:=λi=>(orG h roots i).st) k (by kernel_rfl) (λi hi=>Zf2 h roots k I hw hp i hi) (ZoF h roots k e)
theorem ZnB(hi:k<(ordG h roots k).length)(hb:badG h roots k=O):CP (blkF f25 0) (Tg.st ⟨tm 52 [(2,.pt 8002 0 0),(4,.d (.sl 0 [])),(5,int 0),(6,Z01 (Z03 h).1),(8,.ow 41025),(9,bool O),(10,int 0)],[(41025,.arr 35 1 ((addN [] roots roots.length).map wdv)),(8002,.box 28 [int h.C.pw,int h.C.pg,.d (.sl 1 (h.W.map wdv)),.d (.sl 4 (h.P.map Page.dv)),int h.S,int h.B])],7⟩) .nrm (Tg.st ⟨tm 52 [(4,.d (.sl 0 [])),(5,int 0),(8,.d (.sl 0 [])),(9,bool La)],[],7⟩):=by
 have:=Z08 (P:=prog) (fn:=f25) (b:=0) (S:=λi=>if i<=k then(orG h roots i).st else(orX i).st) (k+1) kr (λi hi'=>by
  rw[if_pos oq];by_cases q:i=k
  .rw[q,if_neg oq];exact Zpm h roots k I hw hp hi hb
  .rw[if_pos oq];exact Zf2 h roots k I hw hp i oq) (by rw[if_neg oq];exact ZmE (k+1))
 rw[if_pos (Ll _)]at this;exact this
theorem Zhe(hl:roots.length<=1000)(hr:ULe roots)(ho:(Z03 h).2=0)(hb:Z2r h roots=La)(e:(ordG h roots k).length<=k):GP 25 [h.av,Z01 roots] La (.tu [Z01 (ordG h roots k),int 0]) []:=by
 have ol:=Z0F h;have Er:(Lh roots.length).find? (rfsB roots (Z03 h).1)=Ld:=by simpa[Z2r]using hb
 have u0:(addN [] roots roots.length).length<=16384:=I.len (Ll k);exact gF [] func25 [] (Fh 25 [.gh 35 1,.bor [47025] (AV.tu [AV.ow 1,Sx.bool O]) [Blk.dead,Blk.arr 35 1 (Le wdv (addN [] roots roots.length))]] (Fc 12 (@Z0h h) (Ffb 13 (!Z02 h) (Fc 16 (@Z1T h aa) (Ffb 20 ((Z03 h).2 != 0) (Fa (@Z89 ((Z03 h).1) roots oq oq oq aa aa) (Fu (@ZmP h roots k aa aa aa aa) Fz)))))))
theorem ZgL(hl:roots.length<=1000)(hr:ULe roots)(ho:(Z03 h).2=0)(hb:Z2r h roots=La)(hi:k<(ordG h roots k).length)(hb2:badG h roots k=O):GP 25 [h.av,Z01 roots] La (.tu [Z01 [],int 19]) []:=by
 have ol:=Z0F h;have Er:(Lh roots.length).find? (rfsB roots (Z03 h).1)=Ld:=by simpa[Z2r]using hb
 have u0:(addN [] roots roots.length).length<=16384:=I.len (Ll k);exact gF [] func25 [] (Fh 25 [.gh 35 1,.bor [47025] (AV.tu [AV.ow 1,Sx.bool O]) [Blk.dead,Blk.arr 35 1 (Le wdv (addN [] roots roots.length))]] (Fc 12 (@Z0h h) (Ffb 13 (!Z02 h) (Fc 16 (@Z1T h aa) (Ffb 20 ((Z03 h).2 != 0) (Fa (@Z89 ((Z03 h).1) roots oq oq oq aa aa) (Fu (@ZnB h roots k I aa aa aa aa) (Fnl Fz))))))))
end
def Zh4(h:Heap)(roots:List Int)(hw:WOk h.W)(hp:Z02 h=La):GP 25 [h.av,Z01 roots] La (.tu [Z01 [],int 1]) []:=by
 exact gF [] func25 [] (Fc 12 (@Z0h h) (Ftb 13 (!Z02 h) (Fnl Fz)))
def ZgM(h:Heap)(roots:List Int)(hw:WOk h.W)(hp:Z02 h=O)(ho:(Z03 h).2≠0):GP 25 [h.av,Z01 roots] La (.tu [Z01 [],int (Z03 h).2]) []:=by
 exact gF [] func25 [] (Fc 12 (@Z0h h) (Ffb 13 (!Z02 h) (Fc 16 (@Z1T h aa) (Ftb 20 ((Z03 h).2 != 0) (Fnl Fz)))))
def ZiP  := Z08 (S:=λi=>(orX i).st) 0 (by kernel_rfl) (λi hi=>absurd hi (Nat.not_lt_zero _)) (ZmE 0)
def ZgN(h:Heap)(roots:List Int)(hw:WOk h.W)(hp:Z02 h=O)(hl:roots.length<=1000)(hr:ULe roots)(ho:(Z03 h).2=0)(hb:Z2r h roots=O):GP 25 [h.av,Z01 roots] La (.tu [Z01 [],int 19]) []:=by
 have ol:=Z0F h;unfold Z2r at hb;have lp:=ZiP;unfold orX at lp;exact gF [] func25 [] (Fh 25 [.gh 35 1,.bor [47025] (AV.tu [AV.d (DV.sl 0 []),Sx.bool La]) [Blk.dead]] (Fc 12 (@Z0h h) (Ffb 13 (!Z02 h) (Fc 16 (@Z1T h aa) (Ffb 20 ((Z03 h).2 != 0) (Fa (@Zbg ((Z03 h).1) roots oq oq aa aa) (Fu (@ZiP) (Fnl Fz))))))))
def ZgX(h:Heap)(roots:List Int)(hw:WOk h.W)(hl:roots.length<=1000)(hr:ULe roots):GP 25 [h.av,Z01 roots] La (.tu [Z01 (Z09 h roots).1,int (Z09 h roots).2]) []:=by
 unfold Z09;by_cases hp:Z02 h=O
 .rw[if_pos hp];by_cases ho:(Z03 h).2=0
  .rw[if_pos ho];by_cases hb:Z2r h roots=O
   .rw[if_pos (.inl hb)];exact ZgN h roots hw hp hl hr ho hb
   .have hb':Z2r h roots=La:=by simpa using hb
    obtain⟨I,e⟩:=Zc0 hb';by_cases c:(ordZ h roots)<(ordG h roots (ordZ h roots)).length/\badG h roots (ordZ h roots)=O
    .rw[if_pos (.inr c)];exact ZgL h roots _ I hw hp hl hr ho hb' c.1 c.2
    .rw[if_neg (λq=>q.elim hb c)];refine Zhe h roots _ I hw hp hl hr ho hb' ?_;rcases e with e | e
     .exact e
     .exact Nat.not_lt.1 λq=>c ⟨q,e⟩
  .rw[if_neg ho];exact ZgM h roots hw hp ho
 .rw[if_neg hp];exact Zh4 h roots hw (by simpa using hp)
def Zij(h:Heap)(roots:List Int)(hw:WOk h.W)(hp:Z02 h=La):BP 55 [h.av,Z01 roots] [] (.tu [.d (.sc (.pointer Ld)),int 1]) []:=by
 exact borF [] [] func55 [] (Fc 19 (@Z0n h) (Ftb 20 (!Z02 h) Fz))
def ZhW(h:Heap)(roots:List Int)(hw:WOk h.W)(hp:Z02 h=O)(ho:(Z03 h).2≠0):BP 55 [h.av,Z01 roots] [] (.tu [.d (.sc (.pointer Ld)),int (Z03 h).2]) []:=by
 exact borF [] [] func55 [] (Fc 19 (@Z0n h) (Ffb 20 (!Z02 h) (Fc 23 (@Z2x h aa) (Ftb 27 ((Z03 h).2 != 0) Fz))))
def hpB(h:Heap):Blk:=.box 28 [int h.C.pw,int h.C.pg,.d (.sl 1 (h.W.map wdv)),.d (.sl 4 (h.P.map Page.dv)),int h.S,int h.B]
def seaB(all l:List Int):List (Nat×Blk):=[(48032,.box 105 [Z01 all,.pt 48030 0 99999,.ow 48031]),(48031,.arr 35 1 (l.map wdv)),(48030,.mp l)]
def srL(h:Heap)(roots:List Int)(i:Nat):Tg:=⟨tm 102 [(2,.pt 16002 0 0),(4,.d (.sc (.pointer Ld))),(5,int 0),(8,.pt 48032 0 0),(33,Z01 roots),(34,int roots.length),(35,int i)],seaB (Z03 h).1 (addN [] roots i)++[(16002,hpB h)],8⟩
section
variable (h:Heap) (roots:List Int) (hl:roots.length<=1000) (hr:ULe roots)
include hl hr
theorem ZjX(i:Nat)(hi:i<roots.length)(hb:∀ j,j<i+1->rfsB roots (Z03 h).1 j=La):CP (rndF f55 0) (srL h roots i).st .nrm (srL h roots (i+1)).st:=by
 have ol:=Z0F h;have os:=Z2Q h;have o1:=Z74 (all:=(Z03 h).1) (out:=[]) (refs:=roots) ⟨LD,by simp⟩ i (λj hj=>hb j oq);have o2:=Lw (Zdd o1.1 o1.2) ol;have r:=hr _ (getD_mem_iff.2 ⟨i,hi,rfl⟩);have rb:=ZeL (hb i oq);have e7:addN [] roots (i+1)=addO (addN [] roots i) (roots.getD i M):=rfl;unfold srL seaB hpB;rw[e7];exact sF [(81041,48031)] [] (Ftb 36 (Lc ((i:Int)<(roots.length:Int))) (Fek 37 wdv roots (↑i) i (Fbr 41 [48032,48030,48031] (@ZpQ ((Z03 h).1) (addN [] roots i) (roots.getD i M) aa oq oq aa aa) (Fx 43 i Fz))))
theorem Zqd(i:Nat)(hi:i<roots.length)(hb:∀ j,j<i->rfsB roots (Z03 h).1 j=La)(hx:rfsB roots (Z03 h).1 i=O):CP (rndF f55 0) (srL h roots i).st .ret (Tg.st ⟨tm 102 [(4,.d (.sc (.pointer Ld))),(5,int 19)],[],60⟩):=by
 have ol:=Z0F h;have os:=Z2Q h;have o1:=Z74 (all:=(Z03 h).1) (out:=[]) (refs:=roots) ⟨LD,by simp⟩ i hb;have o2:=Lw (Zdd o1.1 o1.2) ol;have r:=hr _ (getD_mem_iff.2 ⟨i,hi,rfl⟩);obtain⟨b1,b2⟩:=of_decide_eq_true hx;unfold srL seaB hpB;exact sF [] [] (Ftb 36 (Lc ((i:Int)<(roots.length:Int))) (Fek 37 wdv roots (↑i) i (Fbq 41 [48032,48030,48031] (@Zmx ((Z03 h).1) (addN [] roots i) (roots.getD i M) aa oq oq aa aa aa) Fz)))
omit hl hr in
theorem Zq2:CP (rndF f55 0) (srL h roots roots.length).st (.ext 0) (Tg.st ⟨tm 102 [(2,.pt 16002 0 0),(4,.d (.sc (.pointer Ld))),(5,int 0),(8,.pt 48032 0 0)],seaB (Z03 h).1 (ordG h roots 0)++[(16002,hpB h)],8⟩):=by
 unfold srL seaB hpB ordG;exact sF [] [] (Ffb 36 (Lc ((roots.length:Int)<(roots.length:Int))) Fz)
theorem ZmB(hb:Z2r h roots=La):CP (blkF f55 0) (Tg.st ⟨tm 102 [(2,.pt 16002 0 0),(4,.d (.sc (.pointer Ld))),(5,int 0),(8,.pt 48032 0 0),(33,Z01 roots),(34,int roots.length),(35,int 0)],[(48032,.box 105 [Z01 (Z03 h).1,.pt 48030 0 99999,.ow 48031]),(48031,.arr 35 1 []),(48030,.mp []),(16002,.box 28 [int h.C.pw,int h.C.pg,.d (.sl 1 (h.W.map wdv)),.d (.sl 4 (h.P.map Page.dv)),int h.S,int h.B])],8⟩) .nrm (Tg.st ⟨tm 102 [(2,.pt 16002 0 0),(4,.d (.sc (.pointer Ld))),(5,int 0),(8,.pt 48032 0 0)],seaB (Z03 h).1 (ordG h roots 0)++[(16002,hpB h)],8⟩):=by
 have e:=Zbw (refs:=roots) (all:=(Z03 h).1) (by simpa[Z2r]using hb);exact Z08 (S:=λk=>(srL h roots k).st) roots.length kr (λk hk=>ZjX h roots hl hr k hk (λj hj=>e j oq)) (Zq2 h roots)
theorem ZnT(hb:Z2r h roots=O):CP (blkF f55 0) (Tg.st ⟨tm 102 [(2,.pt 16002 0 0),(4,.d (.sc (.pointer Ld))),(5,int 0),(8,.pt 48032 0 0),(33,Z01 roots),(34,int roots.length),(35,int 0)],[(48032,.box 105 [Z01 (Z03 h).1,.pt 48030 0 99999,.ow 48031]),(48031,.arr 35 1 []),(48030,.mp []),(16002,.box 28 [int h.C.pw,int h.C.pg,.d (.sl 1 (h.W.map wdv)),.d (.sl 4 (h.P.map Page.dv)),int h.S,int h.B])],8⟩) .ret (Tg.st ⟨tm 102 [(4,.d (.sc (.pointer Ld))),(5,int 19)],[],60⟩):=by
 obtain⟨i,hb⟩:=LH.1 hb;obtain⟨h1,h2,h3⟩:=Ly.1 hb;have h2:=Lv.1 h2;have e:∀ j,j<i->rfsB roots (Z03 h).1 j=La:=λj hj=>by simpa using h3 j hj
 exact Z0v (S:=λk=>(srL h roots k).st) i kr (λk hk=>ZjX h roots hl hr k oq (λj hj=>e j oq)) (Zqd h roots hl hr i h2 e h1)
end
def Zi9(h:Heap)(roots:List Int)(hw:WOk h.W)(hp:Z02 h=O)(ho:(Z03 h).2=0)(hl:roots.length<=1000)(hr:ULe roots)(hb:Z2r h roots=O):BP 55 [h.av,Z01 roots] [] (.tu [.d (.sc (.pointer Ld)),int 19]) []:=by
 exact borF [] [] func55 [] (Fh 31 [.gh 35 1,.int 2] (Fc 19 (@Z0n h) (Ffb 20 (!Z02 h) (Fc 23 (@Z2x h aa) (Ffb 27 ((Z03 h).2 != 0) (Fl 34 wdv roots (Fu (@ZnT h roots aa aa aa) Fz)))))))
def Zmp(out:List Int)(r:Int){k:Nat}(hk:k<out.length):k<(addO out r).length/\(addO out r).getD k M=out.getD k M:=by
 unfold addO;split
 .exact⟨hk,rfl⟩
 .refine⟨by simp;omega, ?_⟩;simp only[Lf];rw[List.getElem?_append_left hk]
def ZaQ(out refs:List Int){k:Nat}(hk:k<out.length):∀ n,k<(addN out refs n).length/\(addN out refs n).getD k M=out.getD k M
 | 0=>⟨hk,rfl⟩
 | n+1=>by
  obtain⟨h1,h2⟩:=ZaQ out refs hk n;obtain⟨h3,h4⟩:=Zmp (addN out refs n) (refs.getD n M) h1;exact⟨h3,h4.trans h2⟩
def siL(h:Heap)(l:List Int)(i:Nat)(ps rf:List Int)(j:Nat):Tg:=⟨tm 102 [(2,.pt 16002 0 0),(4,.d (.sc (.pointer Ld))),(5,int 0),(8,.pt 48032 0 0),(11,int i),(69,.d (.sl 1 (ps.map idv))),(70,int ps.length),(71,int j)],seaB (Z03 h).1 (addN l rf j)++[(16002,hpB h)],13⟩
def ZfI{h:Heap}{l:List Int}{i j:Nat}{a:Int}(hp:Z02 h=O)(hi:i<l.length)(el:l.Nodup/\∀ x∈l,x∈(Z03 h).1)(ea:l.getD i M=a)(hj:j<(Z04 (atH h a).1).length)(hb:∀ m,m<j->rfsB (Z0q h a) (Z03 h).1 m=La) :
  i<(addN l (Z0q h a) j).length/\(addN l (Z0q h a) j).length<=16384/\0<=(addN l (Z0q h a) j).getD i M/\(addN l (Z0q h a) j).getD i M<=8192/\0<=(Z04 (atH h a).1).getD j M/\(Z04 (atH h a).1).getD j M<=255 /\
  (loadA h.W ((addN l (Z0q h a) j).getD i M+1+(Z04 (atH h a).1).getD j M)).2=0/\(Z0q h a).getD j M=(loadA h.W ((addN l (Z0q h a) j).getD i M+1+(Z04 (atH h a).1).getD j M)).1:=by
 obtain⟨q1,q2⟩:=ZaQ l (Z0q h a) hi j;rw[ea]at q2;have o1:=Z74 (all:=(Z03 h).1) el j hb;have o2:=Lw (Zdd o1.1 o1.2) (Z0F h);have am:a∈(Z03 h).1:=ea▸el.2 _ (getD_mem_iff.2 ⟨i,hi,rfl⟩);have ar:=Z18 h a am;obtain⟨g1,g2,g3⟩:=Z58 hp am;have r:=Zci g2;have pm:=getD_mem_iff.2 ⟨j,hj,rfl⟩;have pr:=(Z1I (atH h a).1).2 _ pm;have pl:(Z04 (atH h a).1).getD j M<(atH h a).1.length:=by
  have hx:=pm;generalize (Z04 (atH h a).1).getD j M=x at hx;unfold Z04 at hx;split at hx
  .have:=Z3d _ _ _ hx;omega
  .simp at hx
 rw[q2];refine⟨q1,o2,by omega,by omega,pr.1,pr.2,by rw[loadA,if_pos oq], ?_⟩;unfold Z0q;simp only[Lf,LS,Li hj,L7,L6]
section
variable (h:Heap) (l:List Int) (i j:Nat) (a:Int) (hw:WOk h.W) (hp:Z02 h=O) (hi:i<l.length) (el:l.Nodup/\∀ x∈l,x∈(Z03 h).1) (ea:l.getD i M=a)
include hw hp hi el ea
theorem Zit(hj:j<(Z04 (atH h a).1).length)(hb:∀ m,m<j+1->rfsB (Z0q h a) (Z03 h).1 m=La):CP (rndF f55 4) (siL h l i (Z04 (atH h a).1) (Z0q h a) j).st .nrm (siL h l i (Z04 (atH h a).1) (Z0q h a) (j+1)).st:=by
 have ol:=Z0F h;have os:=Z2Q h;have po:=Z0a hp;have pl:=(Z1I (atH h a).1).1;obtain⟨f1,f2,f3,f4,f5,f6,f7,f8⟩:=ZfI hp hi el ea hj (λm hm=>hb m oq);have rb:=ZeL (hb j oq);have rr:=Z0H hw ((addN l (Z0q h a) j).getD i M+1+(Z04 (atH h a).1).getD j M);rw[f8]at rb;have e7:addN l (Z0q h a) (j+1)=addO (addN l (Z0q h a) j) (loadA h.W ((addN l (Z0q h a) j).getD i M+1+(Z04 (atH h a).1).getD j M)).1:=by rw[<- f8];rfl
 unfold siL seaB hpB;rw[e7];let y0:=(addN l (Z0q h a) j).getD i M+1+(Z04 (atH h a).1).getD j M;exact sF [(129097,48031)] [] (Fh 93 [.br La] (Ftb 72 (Lc ((j:Int)<(↑(Z04 (atH h a).1).length:Int))) (Fek 73 idv (Z04 (atH h a).1) (↑j) j (Fm 84 wdv (addN l (Z0q h a) j) (↑i) i (Fv 85 ((addN l (Z0q h a) j).getD i M+1) (Fv 87 ((Z04 (atH h a).1).getD j M) (Fv 88 y0 (Fc 89 (@Z42 h.W y0 oq oq) (Fb (((loadA h.W y0).2 != 0)=La) (Fbr 97 [48032,48030,48031] (@ZpQ ((Z03 h).1) (addN l (Z0q h a) j) ((loadA h.W y0).1) aa oq oq aa aa) (Fx 100 j Fz)))))))))))
theorem ZpZ(hj:j<(Z04 (atH h a).1).length)(hb:∀ m,m<j->rfsB (Z0q h a) (Z03 h).1 m=La)(hx:rfsB (Z0q h a) (Z03 h).1 j=O):CP (rndF f55 4) (siL h l i (Z04 (atH h a).1) (Z0q h a) j).st .ret (Tg.st ⟨tm 102 [(4,.d (.sc (.pointer Ld))),(5,int 19)],[],60⟩):=by
 have ol:=Z0F h;have os:=Z2Q h;have po:=Z0a hp;have pl:=(Z1I (atH h a).1).1;obtain⟨f1,f2,f3,f4,f5,f6,f7,f8⟩:=ZfI hp hi el ea hj hb;obtain⟨b1,b2⟩:=of_decide_eq_true hx;have rr:=Z0H hw ((addN l (Z0q h a) j).getD i M+1+(Z04 (atH h a).1).getD j M);rw[f8]at b1 b2;unfold siL seaB hpB;let y0:=(addN l (Z0q h a) j).getD i M+1+(Z04 (atH h a).1).getD j M;exact sF [] [] (Fh 93 [.br La] (Ftb 72 (Lc ((j:Int)<(↑(Z04 (atH h a).1).length:Int))) (Fek 73 idv (Z04 (atH h a).1) (↑j) j (Fm 84 wdv (addN l (Z0q h a) j) (↑i) i (Fv 85 ((addN l (Z0q h a) j).getD i M+1) (Fv 87 ((Z04 (atH h a).1).getD j M) (Fv 88 y0 (Fc 89 (@Z42 h.W y0 oq oq) (Fb (((loadA h.W y0).2 != 0)=La) (Fbq 97 [48032,48030,48031] (@Zmx ((Z03 h).1) (addN l (Z0q h a) j) ((loadA h.W y0).1) aa oq oq aa aa aa) Fz))))))))))
omit hw hp hi el ea in
theorem Zq9(ps rf:List Int):CP (rndF f55 4) (siL h l i ps rf ps.length).st (.ext 4) (Tg.st ⟨tm 102 [(2,.pt 16002 0 0),(4,.d (.sc (.pointer Ld))),(5,int 0),(8,.pt 48032 0 0),(11,int i)],seaB (Z03 h).1 (addN l rf ps.length)++[(16002,hpB h)],13⟩):=by
 unfold siL seaB hpB;exact sF [] [] (Ffb 72 (Lc ((ps.length:Int)<(ps.length:Int))) Fz)
theorem ZpI(hb:(Lh (Z0q h a).length).find? (rfsB (Z0q h a) (Z03 h).1)=Ld):CP (blkF f55 4) (Tg.st ⟨tm 102 [(2,.pt 16002 0 0),(4,.d (.sc (.pointer Ld))),(5,int 0),(8,.pt 48032 0 0),(11,int i),(69,.d (.sl 1 ((Z04 (atH h a).1).map idv))),(70,int (Z04 (atH h a).1).length),(71,int 0)],[(48032,.box 105 [Z01 (Z03 h).1,.pt 48030 0 99999,.ow 48031]),(48031,.arr 35 1 (l.map wdv)),(48030,.mp l),(16002,.box 28 [int h.C.pw,int h.C.pg,.d (.sl 1 (h.W.map wdv)),.d (.sl 4 (h.P.map Page.dv)),int h.S,int h.B])],13⟩) .nrm (Tg.st ⟨tm 102 [(2,.pt 16002 0 0),(4,.d (.sc (.pointer Ld))),(5,int 0),(8,.pt 48032 0 0),(11,int i)],seaB (Z03 h).1 (addN l (Z0q h a) (Z0q h a).length)++[(16002,hpB h)],13⟩):=by
 have e:=Zbw hb;have le:(Z0q h a).length=(Z04 (atH h a).1).length:=by rw[Z0q,Lk]
 rw[le];exact Z08 (S:=λj=>(siL h l i (Z04 (atH h a).1) (Z0q h a) j).st) (Z04 (atH h a).1).length kr (λj hj=>Zit h l i j a hw hp hi el ea hj (λm hm=>e m oq)) (Zq9 h l i _ _)
theorem ZnC(hb:((Lh (Z0q h a).length).find? (rfsB (Z0q h a) (Z03 h).1)).isSome=O):CP (blkF f55 4) (Tg.st ⟨tm 102 [(2,.pt 16002 0 0),(4,.d (.sc (.pointer Ld))),(5,int 0),(8,.pt 48032 0 0),(11,int i),(69,.d (.sl 1 ((Z04 (atH h a).1).map idv))),(70,int (Z04 (atH h a).1).length),(71,int 0)],[(48032,.box 105 [Z01 (Z03 h).1,.pt 48030 0 99999,.ow 48031]),(48031,.arr 35 1 (l.map wdv)),(48030,.mp l),(16002,.box 28 [int h.C.pw,int h.C.pg,.d (.sl 1 (h.W.map wdv)),.d (.sl 4 (h.P.map Page.dv)),int h.S,int h.B])],13⟩) .ret (Tg.st ⟨tm 102 [(4,.d (.sc (.pointer Ld))),(5,int 19)],[],60⟩):=by
 obtain⟨n,hb⟩:=LH.1 hb;obtain⟨h1,h2,h3⟩:=Ly.1 hb;have h2:=Lv.1 h2;have le:(Z0q h a).length=(Z04 (atH h a).1).length:=by rw[Z0q,Lk]
 have e:∀ m,m<n->rfsB (Z0q h a) (Z03 h).1 m=La:=λm hm=>by simpa using h3 m hm
 exact Z0v (S:=λj=>(siL h l i (Z04 (atH h a).1) (Z0q h a) j).st) n kr (λj hj=>Zit h l i j a hw hp hi el ea oq (λm hm=>e m oq)) (ZpZ h l i n a hw hp hi el ea oq e h1)
end
def soL(h:Heap)(roots:List Int)(k:Nat):Tg:=⟨tm 102 [(2,.pt 16002 0 0),(4,.d (.sc (.pointer Ld))),(5,int 0),(8,.pt 48032 0 0),(11,int k)],seaB (Z03 h).1 (ordG h roots k)++[(16002,hpB h)],9⟩
section
variable (h:Heap) (roots:List Int) (k:Nat) (I:OrdI h roots k) (hw:WOk h.W) (hp:Z02 h=O)
include I hw hp
theorem ZhI(i:Nat)(hi:i<k):CP (rndF f55 2) (soL h roots i).st .nrm (soL h roots (i+1)).st:=by
 have ol:=Z0F h;obtain⟨o1,o2⟩:=I.lo i hi;have o3:=I.len (i:=i) oq;have o4:=I.len (i:=i+1) oq;have om:=(I.el i oq).2 _ (getD_mem_iff.2 ⟨i,o1,rfl⟩);have ox:=Z18 h _ om;obtain⟨g1,g2,g3⟩:=Z58 hp om;have gm:=Z27 hw ((ordG h roots i).getD i M);have o2:(Lh (Z0q h ((ordG h roots i).getD i M)).length).find? (rfsB (Z0q h ((ordG h roots i).getD i M)) (Z03 h).1)=Ld:=by simpa[badG]using o2
 have el:=I.el i oq;have po:=Z0a hp;have e7:ordG h roots (i+1)=addN (ordG h roots i) (Z0q h ((ordG h roots i).getD i M)) (Z0q h ((ordG h roots i).getD i M)).length:=rfl;rw[e7]at o4;unfold soL seaB hpB;rw[e7];let y0:=(ordG h roots i).getD i M;exact sF [] [] (FM 49 50 wdv (ordG h roots i) i (Fm 61 wdv (ordG h roots i) (↑i) i (Fc 62 (@Z2M h y0 aa oq) (Ffb 66 ((atH h y0).2 != 0) (Fc 69 (@Z34 ((atH h y0).1) aa) (Fl 70 idv (Z04 (atH h y0).1) (Fu (@ZpI h (ordG h roots i) i y0 aa aa aa aa (by rfl) aa) (Fx 52 i Fz))))))))
theorem ZpY(hi:k<(ordG h roots k).length)(hb:badG h roots k=O):CP (rndF f55 2) (soL h roots k).st .ret (Tg.st ⟨tm 102 [(4,.d (.sc (.pointer Ld))),(5,int 19)],[],60⟩):=by
 have ol:=Z0F h;have o3:=I.len (Lg k);have om:=(I.el k (Lg k)).2 _ (getD_mem_iff.2 ⟨k,hi,rfl⟩);have ox:=Z18 h _ om;obtain⟨g1,g2,g3⟩:=Z58 hp om;have gm:=Z27 hw ((ordG h roots k).getD k M);have el:=I.el k (Lg k);have po:=Z0a hp;unfold badG at hb;unfold soL seaB hpB;let y0:=(ordG h roots k).getD k M;exact sF [] [] (FM 49 50 wdv (ordG h roots k) k (Fm 61 wdv (ordG h roots k) (↑k) k (Fc 62 (@Z2M h y0 aa oq) (Ffb 66 ((atH h y0).2 != 0) (Fc 69 (@Z34 ((atH h y0).1) aa) (Fl 70 idv (Z04 (atH h y0).1) (Fu (@ZnC h (ordG h roots k) k y0 aa aa aa aa (by rfl) aa) Fz)))))))
omit I hw hp in
theorem ZpX(e:(ordG h roots k).length<=k)(el:(ordG h roots k).length<=16384):CP (rndF f55 2) (soL h roots k).st (.ext 2) (Tg.st ⟨tm 102 [(4,.d (.sc (.pointer Ld))),(5,int 0),(8,.pt 48032 0 0)],seaB (Z03 h).1 (ordG h roots k),9⟩):=by
 unfold soL seaB hpB;exact sF [] [] (Fl 49 wdv (ordG h roots k) (Ffb 50 (Lc ((k:Int)<(↑(ordG h roots k).length:Int))) Fz))
def Zpx(e:(ordG h roots k).length<=k)  := Z08 (S:=λi=>(soL h roots i).st) k (by kernel_rfl) (λi hi=>ZhI h roots k I hw hp i hi) (ZpX h roots k e (I.len (Lg k)))
def Znx(hi:k<(ordG h roots k).length)(hb:badG h roots k=O)  := Z0v (S:=λi=>(soL h roots i).st) k (by kernel_rfl) (λi hi=>ZhI h roots k I hw hp i hi) (ZpY h roots k I hw hp hi hb)
theorem ZhA(ho:(Z03 h).2=0)(hl:roots.length<=1000)(hr:ULe roots)(hb:Z2r h roots=La)(hi:k<(ordG h roots k).length)(hb2:badG h roots k=O):BP 55 [h.av,Z01 roots] [] (.tu [.d (.sc (.pointer Ld)),int 19]) []:=by
 exact borF [] [] func55 [] (Fh 31 [.gh 35 1,.int 2] (Fc 19 (@Z0n h) (Ffb 20 (!Z02 h) (Fc 23 (@Z2x h aa) (Ffb 27 ((Z03 h).2 != 0) (Fl 34 wdv roots (Fu (@ZmB h roots aa aa aa) (Fu (@Znx h roots k I aa aa aa aa) Fz))))))))
theorem Zjs(ho:(Z03 h).2=0)(hl:roots.length<=1000)(hr:ULe roots)(hb:Z2r h roots=La)(e:(ordG h roots k).length<=k):BP 55 [h.av,Z01 roots] [] (.tu [.pt 0 0 0,int 0]) (seaP (Z03 h).1 (ordG h roots k)):=by
 exact borF [] [48032,48030,48031] func55 [] (Fh 31 [.gh 35 1,.int 2] (Fc 19 (@Z0n h) (Ffb 20 (!Z02 h) (Fc 23 (@Z2x h aa) (Ffb 27 ((Z03 h).2 != 0) (Fl 34 wdv roots (Fu (@ZmB h roots aa aa aa) (Fu (@Zpx h roots k aa aa aa aa) Fz))))))))
end
def ZlF(out:List Int)(r:Int):(r=0\/r∈addO out r)/\∀ x∈out,x∈addO out r:=by
 unfold addO;split
 .rename_i c;exact⟨c,λ_ h=>h⟩
 .exact⟨.inr pq,λx h=>by simp[h]⟩
def Z7X(out refs:List Int):∀ n,(∀ x∈out,x∈addN out refs n)/\∀ j,j<n->refs.getD j M=0\/refs.getD j M∈addN out refs n
 | 0=>⟨λ_ h=>h,λj h=>by omega⟩
 | n+1=>by
  obtain⟨h1,h2⟩:=Z7X out refs n;obtain⟨h3,h4⟩:=ZlF (addN out refs n) (refs.getD n M);refine⟨λx hx=>h4 x (h1 x hx),λj hj=>?_⟩;by_cases q:j=n
  .rw[q];exact h3
  .exact(h2 j oq).imp id λh=>h4 _ h
def Z7L(h:Heap)(roots:List Int)(i:Nat):∀ d,(∀ x∈ordG h roots i,x∈ordG h roots (i+d))/\∀ j,j<(ordG h roots i).length->j<(ordG h roots (i+d)).length/\(ordG h roots (i+d)).getD j M=(ordG h roots i).getD j M
 | 0=>⟨λ_ h=>h,λ_ h=>⟨h,rfl⟩⟩
 | d+1=>by
  obtain⟨h1,h2⟩:=Z7L h roots i d;refine⟨λx hx=>(Z7X _ _ _).1 x (h1 x hx),λj hj=>?_⟩;obtain⟨h3,h4⟩:=h2 j hj;obtain⟨h5,h6⟩:=ZaQ (ordG h roots (i+d)) (Z0q h ((ordG h roots (i+d)).getD (i+d) M)) h3 (Z0q h ((ordG h roots (i+d)).getD (i+d) M)).length;exact⟨h5,h6.trans h4⟩
structure OrdL (h:Heap) (roots l:List Int):Prop where
 p:Z02 h=O
 nd:l.Nodup
 el:∀ x∈l,x∈(Z03 h).1
 n0:(0:Int)∉l
 rt:∀ r∈roots,r=0\/r∈l
 cl:∀ a∈l,∀ v∈Z0q h a,v=0\/v∈l
 len:l.length<=16384
def Znw{h:Heap}{roots:List Int}{k:Nat}(I:OrdI h roots k)(hp:Z02 h=O)(e:(ordG h roots k).length<=k):OrdL h roots (ordG h roots k):=by
 refine⟨hp,(I.el k (Lg k)).1,(I.el k (Lg k)).2,λq=>?_,λr hr=>?_,λa ha v hv=>?_,I.len (Lg k)⟩
 .exact ZbI h (Z58 hp ((I.el k (Lg k)).2 _ q)).2.1
 .obtain⟨j,hj,rfl⟩:=getD_mem_iff.1 hr;exact((Z7X [] roots roots.length).2 j hj).imp id λq=>by
   have:=(Z7L h roots 0 k).1 _ q;rwa [LG]at this
 .obtain⟨i,hi,rfl⟩:=getD_mem_iff.1 ha;obtain⟨j,hj,rfl⟩:=getD_mem_iff.1 hv;obtain⟨o1,_⟩:=I.lo i oq;have p1:=Z7L h roots i (k-i);rw[show i+(k-i)=k from by omega]at p1;rw[(p1.2 i o1).2]at hj ⊢;have m:=(Z7X (ordG h roots i) (Z0q h ((ordG h roots i).getD i M)) (Z0q h ((ordG h roots i).getD i M)).length).2 j hj;refine m.imp id λq=>?_;have p2:=Z7L h roots (i+1) (k-(i+1));rw[show i+1+(k-(i+1))=k from by omega]at p2;exact p2.1 _ q
section
variable (h:Heap) (roots:List Int) (hw:WOk h.W) (hl:roots.length<=1000) (hr:ULe roots)
include hw hl hr
theorem Z6l:((Z09 h roots).2=0/\OrdL h roots (Z09 h roots).1/\BP 55 [h.av,Z01 roots] [] (.tu [.pt 0 0 0,int 0]) (seaP (Z03 h).1 (Z09 h roots).1)) \/
  ((Z09 h roots).2≠0/\(Z09 h roots).1=[]/\BP 55 [h.av,Z01 roots] [] (.tu [.d (.sc (.pointer Ld)),int (Z09 h roots).2]) []):=by
 unfold Z09;by_cases hp:Z02 h=O
 .rw[if_pos hp];by_cases ho:(Z03 h).2=0
  .rw[if_pos ho];by_cases hb:Z2r h roots=O
   .rw[if_pos (.inl hb)];exact .inr ⟨by simp,rfl,Zi9 h roots hw hp ho hl hr hb⟩
   .have hb':Z2r h roots=La:=by simpa using hb
    obtain⟨I,e⟩:=Zc0 hb';by_cases c:(ordZ h roots)<(ordG h roots (ordZ h roots)).length/\badG h roots (ordZ h roots)=O
    .rw[if_pos (.inr c)];exact .inr ⟨by simp,rfl,ZhA h roots _ I hw hp ho hl hr hb' c.1 c.2⟩
    .rw[if_neg (λq=>q.elim hb c)];have e':(ordG h roots (ordZ h roots)).length<=ordZ h roots:=by
      rcases e with e | e
      .exact e
      .exact Nat.not_lt.1 λq=>c ⟨q,e⟩
     exact .inl ⟨rfl,Znw I hp e',Zjs h roots _ I hw hp ho hl hr hb' e'⟩
  .rw[if_neg ho];exact .inr ⟨ho,rfl,ZhW h roots hw hp ho⟩
 .rw[if_neg hp];exact .inr ⟨by simp,rfl,Zij h roots hw (by simpa using hp)⟩
theorem Zgs(e:(Z09 h roots).2=0):BP 55 [h.av,Z01 roots] [] (.tu [.pt 0 0 0,int 0]) (seaP (Z03 h).1 (Z09 h roots).1):=by
 rcases Z6l h roots hw hl hr with⟨_,_,h2⟩ | ⟨h0,_⟩
 .exact h2
 .exact absurd e h0
theorem ZdY(e:(Z09 h roots).2≠0):BP 55 [h.av,Z01 roots] [] (.tu [.d (.sc (.pointer Ld)),int (Z09 h roots).2]) []:=by
 rcases Z6l h roots hw hl hr with⟨h0,_⟩ | ⟨_,_,h2⟩
 .exact absurd h0 e
 .exact h2
theorem ZcX(e:(Z09 h roots).2=0):OrdL h roots (Z09 h roots).1:=by
 rcases Z6l h roots hw hl hr with⟨_,h1,_⟩ | ⟨h0,_⟩
 .exact h1
 .exact absurd e h0
theorem Zh7(e:(Z09 h roots).2≠0):(Z09 h roots).1=[]:=by
 rcases Z6l h roots hw hl hr with⟨h0,_⟩ | ⟨_,h1,_⟩
 .exact absurd h0 e
 .exact h1
theorem Zgp:GP 16 [h.av,Z01 roots] O (.tu [Z01 (Z09 h roots).1,int (Z09 h roots).2]) []:=by
 by_cases e:(Z09 h roots).2=0
 .rw[e];exact gF [] func16 [] (Fbr 11 [] (@Zgs h roots aa aa aa aa) (Fa (by exact Z4k _:Z1s (Le wdv (Z09 h roots).1)) Fz))
 .rw[Zh7 h roots hw hl hr e];exact gF [] func16 [] (Fbq 11 [] (@ZdY h roots aa aa aa aa) (Ftb 15 ((Z09 h roots).2 != 0) (Fnl Fz)))
end
structure NodeG where
 hd:Header
 fs:List Int
instance:Inhabited NodeG:=⟨⟨default,[]⟩⟩
def NodeG.dv(n:NodeG):List DV:=[dint n.hd.K,dint n.hd.length,.sc (.int .u32 n.hd.map),.sl 1 (n.fs.map wdv)]
def NodeG.cells(n:NodeG):List AV:=[int n.hd.K,int n.hd.length,u32 n.hd.map,Z01 n.fs]
def Z7c(h:Heap)(a:Int)(hw:WOk h.W)(hp:Z02 h=O)(ha:a∈(Z03 h).1):GP 45 [h.av,u64 a] O (.tu [(atH h a).1.av,int 0]) []:=by
 have g:=(Z58 hp ha).1;have e:=(Z3A g).1;have ox:=Z18 h a ha;have:=Z3e h a hw oq;rw[g,e]at this;exact this
end Go.Proofs.YtgedmeaemofdkaaGreat
