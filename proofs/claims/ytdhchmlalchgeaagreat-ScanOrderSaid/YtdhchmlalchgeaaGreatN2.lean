/-
 The statement ScanOrder: part 2.
 Conditions: none.
-/
import Derived.Laws.Small
import Derived.Test.YtdhchmlalchgeaaGreatN1
set_option maxRecDepth 100000
set_option maxHeartbeats 2000000
set_option linter.all false
open Option renaming some->U,none->X,map_eq_some_iff->L,map_some->LV,bind_some->Xw
open Bool renaming true->Y,false->Z,and_eq_true->Ld,false_eq_true->Lm,not_true->LZ,not_false->XF,or_eq_false_iff->XG
open List renaming replicate->W,mem_of_getElem?->N,mem_append->F,getElem?_eq_some_iff->Lb,getElem?_toArray->Le,mem_flatMap->Lh,getElem?_eq_getElem->Lj,getElem?_map->Lk,mem_cons->Ll,getElem?_cons_zero->Ln,getElem?_cons_succ->Lo,mem_cons_of_mem->Lp,length_append->Lq,all_eq_true->LF,getElem?_append->LG,getElem?_of_mem->LH,length_pos_iff->LI,flatMap_cons->LR,length_map->LS,map_cons->LU,length_nil->L3,map_congr_left->L4,mem_map->L5,getD->Xf,getD_eq_getElem?_getD->Xg,getElem?_drop->Xh,getElem?_take->Xi,length_replicate->Xj,mem_of_mem_drop->Xk,mem_of_mem_take->Xl,mem_replicate->Xm,nodup_cons->Xn,size_toArray->Xo,getElem?_replicate->XO,getElem?_set->XP,getElem_mem->XQ,length_cons->XR,mem_range->XS,nodup_append->XT
open Go.Result renaming andThen_ok->M
open Go.Sem renaming run_bind->S,run_pure->O,run_ite->Xx
open Nat renaming add_mul->La,mul_le_mul_right->Lc,lt_of_lt_of_le->Lf,ble->Lt,le_refl->Lu,le_trans->Lv,add_zero->Lx,add_assoc->LJ,le_of_ble_eq_true->LK,eq_zero_or_pos->L6,zero_add->L7,div_add_mod->Xp,div_lt_iff_lt_mul->Xq,min->Xr,mod_lt->Xs,mul_comm->Xt,beq->XU,eq_of_beq_eq_true->XV,lt_or_ge->XW,ne_of_beq_eq_false->XX,pos_of_ne_zero->XY,zero_min->XZ
open Go.Op renaming operands->Lg
open Go.Builtin renaming zeroCells->Li,append_->Lz,copy_->LA,firstCells->LO,lenOf->LP,nextslicecap->LQ,clear_->L0,growBy->Xd
open Go.Addr renaming add_lit->Lr,add->XA
open Array renaming getElem?_eq_getElem->Ls,getElem?_map->Ly,eq_empty_of_size_eq_zero->LM,range->LN,getElem?_toList->LX,size_map->LY,getElem?_append->L9,getElem?_eq_some_iff->Xa,length_toList->Xb,append_assoc->XB,getElem?_append_left->XC,getElem?_extract->XD,map_empty->XE
open Go.Region renaming wanted->Lw
open Go.Call renaming operands->LB
open Go.Instr renaming typeAssert->LC,fill->L2,indexAt->Xe,build->XH,buildSlice->XI,fieldAt->XJ,makeFunc->XK,makeSlice->XL,sliceAt->XM,sureAddr->XN
open Go.IntKind renaming i64->LD
open Go.Oper renaming wp->LL,upon_enter->Xu,upon_value->Xv
open Option.some renaming injEq->LW
open Go.Deferred renaming ofValue->L1
open Go.Question renaming appendCap->L8
open Go.Array renaming range_zero'->Xc
open Go.World renaming alloc_eq->Xy,drew_eq->Xz,cell?->X0
namespace Go.Sx
def Z8P(P:Program)(t f:Nat):Option Field:=match P.underlying t with | U (.struct fs)=>fs[f]? | _=>X
def Z5a(P:Program)(t f:Nat)(x:AV):Option Res :=
 match Z8P P t f with
 | some fd=>match szOf P fd.type with
  | 0=>X
  | _+1=>match x with
   | .pt b i o=>U ⟨.pt b i (o+fd.offset),X,[]⟩
   | .rp e o=>U ⟨.rp e (o+fd.offset),X,[]⟩
   | _=>X
 | none=>X
def Z8y{P:Program}{w:World}{t f:Nat}{fd:Field}{n:Nat}(h:Z8P P t f=U fd)(hz:szOf P fd.type=n+1)(g o:Nat) :
  (XJ t (.pointer (U ⟨g,o,X⟩)) f).run P w = .ok (.pointer (U ⟨g,o+fd.offset,X⟩)) w:=by
 unfold Z8P at h;split at h
 .rename_i fs hu;have hs:=Z4c hz pq w;simp[XJ,run_underlying hu,h,XN,fieldPlace,hs,Lr]
 .cases h
def Z9h{P:Program}{o:Oper}{id:Nat}{E:Operand->AV}{H:Heap}{r:Res}{x:Operand}{t f:Nat}
  (ho:o.op = .fieldAddr t x f) (h:Z5a P t f (E x)=U r):Z2v P o id E H r:=by
 intro Ow Im0 w0 ρ w Im clk a I _ _ hE _;have hx:=hE x;unfold Z5a at h;split at h;rotate_left
 .cases h
 rename_i fd hfd;split at h
 .cases h
 rename_i n hz;split at h
 .rename_i b i oo hE';cases h;rw[hE']at hx;obtain⟨g,s,m,hρ,hv⟩:=Z2U hx;refine .inl ⟨.pointer (U ⟨g,i*s+oo+fd.offset,X⟩),w,by simp[execOp,ho,hv,Z8y hfd hz],.same I ?_⟩;have:=Rel.pt (w:=w) (Im:=Im) (i:=i) (o:=oo+fd.offset) hρ;rwa [<- LJ]at this
 .rename_i e oo hE';cases h;rw[hE']at hx;generalize hv:a.eval x=v at hx;cases hx with
  | rp hp him hc =>
   rename_i p;refine .inl ⟨.pointer (U ⟨p.block,p.off+oo+fd.offset,X⟩),w,by simp[execOp,ho,hv,Z8y hfd hz],.same I ?_⟩;have:=Rel.rp (ρ:=ρ) (o:=oo+fd.offset) hp him hc;rwa [<- LJ]at this
 .cases h
def ZbR(P:Program)(t f:Nat)(x:AV):Option Res :=
 match Z8P P t f with
 | some fd=>match x with
  | .ag l=>(Zaj P fd.type l fd.offset).map λy=>⟨y,X,[]⟩
  | _=>X
 | none=>X
def Zm1{P:Program}{w:World}{t:Nat}{l:List AV}{cs:Array Value}{o:Nat}{x:AV}{ρ:Rho}{Im:Nat->Prop}(hn:cs.size=l.length)(hone:∀ (i:Nat) (u:Value),cs[i]? = U u->u.oneCell'=Y)
  (hc:∀ (i:Nat) (a:AV) (u:Value),l[i]? = U a->cs[i]? = U u->Rel ρ w Im a u) (hx:Zaj P t l o=U x):∃ v,(part t cs o).run P w = .ok v w/\Rel ρ w Im x v:=by
 unfold Zaj at hx;split at hx
 .rename_i hagg;split at hx
  .rename_i hlen;cases hx;have hs:(sizeOf t).run P w = .ok (szOf P t) w:=by
    unfold Z6y at hagg;unfold szOf;cases hi:P.info? t with
    | none=>simp[Program.underlying,hi]at hagg
    | some i=>simp[sizeOf,typeInfo,hi]
   refine⟨.agg (cs.extract o (o+szOf P t)),by simp[part,Z5g hagg,hs],.ag _ _ ?_ ?_ ?_⟩
   .have:(seg l o (szOf P t)).length=min (szOf P t) (l.length-o):=by simp[seg]
    simp;omega
   .intro i u hu;rw[XD]at hu;split at hu
    .exact hone _ u hu
    .cases hu
   .intro i a u ha hu;rw[XD]at hu;split at hu
    .refine hc _ a u ?_ hu;simp only[seg]at ha;rw[Xi]at ha;split at ha
     .rwa [Xh]at ha
     .cases ha
    .cases hu
  .cases hx
 .rename_i hagg;have ho:o<cs.size:=by rw[hn];exact(Lb.1 hx).1
  exact⟨cs[o],by simp[part,Z5g hagg,ho],hc o x _ hx (Ls ho)⟩
 .cases hx
def Zeg{P:Program}{o:Oper}{id:Nat}{E:Operand->AV}{H:Heap}{r:Res}{x:Operand}{t f:Nat}
  (ho:o.op = .field t x f) (h:ZbR P t f (E x)=U r):Z2v P o id E H r:=by
 intro Ow Im0 w0 ρ w Im clk a I _ _ hE _;have hx:=hE x;unfold ZbR at h;split at h;rotate_left
 .cases h
 rename_i fd hfd;split at h;rotate_left
 .cases h
 rename_i l hE';simp only[L]at h;obtain⟨y,hy,rfl⟩:=h;obtain⟨cs,hv,hn,hone,hc⟩:=Z3D (hE'▸hx);obtain⟨v,k1,k2⟩:=Zm1 (P:=P) hn hone hc hy;unfold Z8P at hfd;split at hfd
 .rename_i fs hu;exact .inl ⟨v,w,by simp[execOp,ho,hv,Instr.field,run_underlying hu,hfd,asAgg,k1],.same I k2⟩
 .cases hfd
def Z1e(P:Program)(t:Nat):Option Nat:=match P.underlying t with | U (.slice e)=>U e | _=>X
def Zdq(P:Program)(t:Nat):Option (Nat×Nat):=match P.underlying t with | U (.array n e)=>U (n,e) | _=>X
def intH(hs:List Hint)(n:Int):Int×List Prop:=match hs with
 | .int m::_=>(m,[n=m])
 | _=>(n,[])
def ZnL{hs:List Hint}{n m:Int}{ps:List Prop}(h:intH hs n=(m,ps))(hp:allP ps):n=m:=by
 unfold intH at h;split at h
 .cases h;exact hp
 .cases h;rfl
def Z4l(P:Program)(t:Nat)(hs:List Hint)(x y:AV)(H:Heap):Option Res :=
 match y with
 | .d (.sc (.int _ n))=>match Z1e P t with
  | some e=>match x with
   | .d (.sl s els)=>if szOf P e=s/\s≠0 then
    match hs with
    | .el e::_=>U ⟨.rp e 0,X,[0<=n/\els[n.toNat]? = U e]⟩
    | _=>X
    else X
   | .ow b=>match H b with
    | some (.arr _ s els)=>if szOf P e=s/\s≠0 then U ⟨.pt b n.toNat 0,X,[0<=n/\n.toNat<els.length]⟩else X
    | _=>X
   | .os b o m=>match H b with
    | some (.arr _ s _)=>if szOf P e=s/\s≠0 then U ⟨.pt b (o+n.toNat) 0,X,[0<=n/\n.toNat<m]⟩else X
    | _=>X
   | _=>X
  | none=>match Zdq P t with
   | some (m,e)=>match x with
    | .pt b i o=>match intH hs n with
     | (.ofNat k,ps)=>if k<m/\szOf P e≠0 then U ⟨.pt b i (o+k*szOf P e),X,ps⟩else X
     | _=>X
    | _=>X
   | none=>X
 | _=>X
def Z4o{P:Program}{w:World}{t e:Nat}{p:Addr}{len cap:Nat}{k:IntKind}{n:Int}(ht:Z1e P t=U e)(hz:szOf P e≠0)(h0:0<=n)(h1:n<len) :
  (Xe t (.slice (U p) len cap) (.int k n)).run P w = .ok (.pointer (U (p.add (n.toNat*szOf P e)))) w:=by
 unfold Z1e at ht;split at ht
 .rename_i e' hu;cases ht;have hs:=Z4c (P:=P) rfl hz w;simp[Xe,run_underlying hu,asIntOf,h0,h1,hs]
 .cases ht
def addr_add{p:Addr}(hp:p.spot=X)(n:Nat):p.add n=⟨p.block,p.off+n,X⟩:=by
 obtain⟨b,o,s⟩:=p;simp only at hp;subst hp;exact Lr b o n
def Z9p{P:Program}{o:Oper}{id:Nat}{E:Operand->AV}{H:Heap}{r:Res}{x y:Operand}{t:Nat}{hs:List Hint}
  (ho:o.op = .indexAddr t x y) (h:Z4l P t hs (E x) (E y) H=U r):Z2v P o id E H r:=by
 intro Ow Im0 w0 ρ w Im clk a I _ _ hE hph;have hx:=hE x;have hy:=hE y;unfold Z4l at h;split at h;rotate_left
 .cases h
 rename_i k n hE2;rw[hE2]at hy;have hvy:=Z15 hy;split at h
 .rename_i e he;split at h
  .rename_i s els hE1;rw[hE1]at hx;split at h;rotate_left
   .cases h
   rename_i hsz;split at h;rotate_left
   .cases h
   rename_i e' _;cases h;obtain⟨p1,p2⟩:0<=n/\els[n.toNat]? = U e':=by simpa[allP]using hph
   generalize hv:a.eval x=v at hx;cases hx with
   | d hx =>
    cases hx with
    | slNil s a c=>simp at p2
    | sl s els p m c f hn hc hb hs hp him hcell hrel =>
     have hlt:n.toNat<els.length:=(Lb.1 p2).1;refine .inl ⟨.pointer (U (p.add (n.toNat*szOf P e))),w,by simp[execOp,ho,hv,hvy,Z4o he (by rw[hsz.1];exact hsz.2) p1 (show n<(m:Int)from by omega)],.same I ?_⟩;rw[addr_add hp,hsz.1];have:=Rel.rp (ρ:=ρ) (w:=w) (Im:=Im) (e:=e') (o:=0) (p:=⟨p.block,p.off+n.toNat*s,X⟩) rfl him (λj d hj=>⟨f n.toNat j,by
      have:=hcell n.toNat e' j d p2 hj;rw[<- LJ]at this;exact this,hrel n.toNat e' j d p2 hj⟩)
     simpa using this
  .rename_i b hE1;rw[hE1]at hx;split at h;rotate_left
   .cases h
   rename_i ty s els hb;split at h;rotate_left
   .cases h
   rename_i hsz;cases h;obtain⟨p1,p2⟩:0<=n/\n.toNat<els.length:=by simpa[allP]using hph
   generalize hv:a.eval x=v at hx;cases hx with
   | ow hρ hc hbg ha =>
    rename_i c ad β;obtain⟨β',h1,h2⟩:=I.blk b _ hb;rw[hρ]at h1;cases h1;obtain⟨g1,g2,_,_,_⟩:=h2;rcases ha with ha | ⟨g,hg,rfl,hrow⟩
    .omega
    .refine .inl ⟨.pointer (U (XA ⟨g,0,X⟩ (n.toNat*szOf P e))),w,by simp[execOp,ho,hv,hvy,Z4o he (by rw[hsz.1];exact hsz.2) p1 (show n<(β.n:Int)from by omega)],.same I ?_⟩;rw[Lr,hsz.1];obtain⟨bg,bs,bn⟩:=β;simp only at hg g1 g2;subst hg;subst g1;have:=Rel.pt (w:=w) (Im:=Im) (i:=n.toNat) (o:=0) hρ;simpa using this
  .rename_i b oo m hE1;rw[hE1]at hx;split at h;rotate_left
   .cases h
   rename_i ty s els hb;split at h;rotate_left
   .cases h
   rename_i hsz;cases h;obtain⟨p1,p2⟩:0<=n/\n.toNat<m:=by simpa[allP]using hph
   generalize hv:a.eval x=v at hx;cases hx with
   | os hρ hn hc hbg ha =>
    rename_i c ad β;obtain⟨β',h1,h2⟩:=I.blk b _ hb;rw[hρ]at h1;cases h1;obtain⟨g1,g2,_,_,_⟩:=h2;rcases ha with ha | ⟨g,hg,rfl,hrow⟩
    .omega
    .refine .inl ⟨.pointer (U (XA ⟨g,oo*β.s,X⟩ (n.toNat*szOf P e))),w,by simp[execOp,ho,hv,hvy,Z4o he (by rw[hsz.1];exact hsz.2) p1 (show n<(m:Int)from by omega)],.same I ?_⟩;rw[Lr,hsz.1];obtain⟨bg,bs,bn⟩:=β;simp only at hg g1 g2;subst hg;subst g1;have:=Rel.pt (w:=w) (Im:=Im) (i:=oo+n.toNat) (o:=0) hρ;rw[La]at this;simpa using this
  .cases h
 .split at h;rotate_left
  .cases h
  rename_i m e he;split at h;rotate_left
  .cases h
  rename_i b i oo hE1;rw[hE1]at hx;split at h;rotate_left
  .cases h
  rename_i k' ps' hk';split at h;rotate_left
  .cases h
  rename_i hkm;cases h;have hnk:=ZnL hk' hph;subst hnk;obtain⟨g,s,mm,hρ,hv⟩:=Z2U hx;unfold Zdq at he;split at he
  .rename_i m' e' hu;cases he;have hsr:=Z4c (P:=P) rfl hkm.2 w;refine .inl ⟨_,w, ?_,.same I (Rel.pt (i:=i) (o:=oo+k'*szOf P e) hρ)⟩;have e1:i*s+oo+k'*szOf P e=i*s+(oo+k'*szOf P e):=by omega
   have hk:(k':Int)<m:=by omega
   simp[execOp,ho,hv,hvy,Xe,run_underlying hu,asIntOf,XN,hsr,Lr,e1,hkm.1]
  .cases he
def Zgf(P:Program)(t:Nat)(hs:List Hint)(x:AV)(H:Heap):Option Res :=
 match Z1e P t with
 | some _=>match x with
  | .d (.sl _ els)=>U (numR .i64 els.length [] hs)
  | .ow b=>match H b with
   | some (.arr _ _ els)=>U (numR .i64 els.length [] hs)
   | _=>X
  | .os _ _ n=>U (numR .i64 n [] hs)
  | _=>X
 | none=>X
def Zkb{P:Program}{o:Oper}{id:Nat}{E:Operand->AV}{H:Heap}{r:Res}{x:Operand}{t:Nat}{hs:List Hint}
  (ho:o.op = .call ⟨.builtin .len,#[x],#[t]⟩) (h:Zgf P t hs (E x) H=U r):Z2v P o id E H r:=by
 unfold Zgf at h;split at h;rotate_left
 .cases h
 rename_i e he;unfold Z1e at he;split at he;rotate_left
 .cases he
 rename_i e' hu;have base:∀ (w:World) (a:Act) (p:Option Addr) (n c:Nat),a.eval x = .slice p n c->(execOp a.eval o).run P w = .ok (.value (.int .i64 n)) w:=by
  intro w a p n c hv;simp[execOp,ho,resolve,hv,invoke,builtin,Builtin.len_,run_underlying hu,goInt]
 split at h
 .rename_i s els hE1;cases h;refine Z1K λρ w Im a hE _=>?_;have hx:=hE x;rw[hE1]at hx;generalize hv:a.eval x=v at hx;cases hx with
  | d hx =>
   cases hx with
   | slNil s p c=>exact base w a _ _ _ hv
   | sl s els p n c f hn=>rw[base w a _ _ _ hv,hn]
 .rename_i b hE1;split at h;rotate_left
  .cases h
  rename_i ty s els hb;cases h;intro Ow Im0 w0 ρ w Im clk a I _ _ hE hph;have hx:=hE x;rw[hE1]at hx;generalize hv:a.eval x=v at hx;cases hx with
  | ow hρ hc hbg ha =>
   rename_i c ad β;obtain⟨β',h1,h2⟩:=I.blk b _ hb;rw[hρ]at h1;cases h1;obtain⟨g1,g2,_,_,_⟩:=h2;have hrun:=base w a _ _ _ hv;rw[g2]at hrun;unfold numR at hph ⊢;split at hph
   .rename_i m _;obtain⟨h1,_⟩:=allP_cons.1 hph;rw[h1]at hrun;exact .inl ⟨_,w,hrun,.same I (.d (.sc _ rfl))⟩
   .exact .inl ⟨_,w,hrun,.same I (.d (.sc _ rfl))⟩
 .rename_i b oo n hE1;cases h;refine Z1K λρ w Im a hE _=>?_;have hx:=hE x;rw[hE1]at hx;generalize hv:a.eval x=v at hx;cases hx with
  | os hρ hn hc hbg ha=>exact base w a _ _ _ hv
 .cases h
def Z7N(n:Nat)(x:AV):Option Res:=match x with | .tu l=>(l[n]?).map λy=>⟨y,X,[]⟩ | _=>X
def Zbr{P:Program}{o:Oper}{id:Nat}{E:Operand->AV}{H:Heap}{r:Res}{x:Operand}{n:Nat}
  (ho:o.op = .extract x n) (h:Z7N n (E x)=U r):Z2v P o id E H r:=by
 intro Ow Im0 w0 ρ w Im clk a I _ _ hE _;have hx:=hE x;unfold Z7N at h;split at h
 .rename_i l hE1;simp only[L]at h;obtain⟨y,hy,rfl⟩:=h;rw[hE1]at hx;generalize hv:a.eval x=v at hx;cases hx with
  | tu l cs hn hc =>
   have hl:n<cs.size:=by rw[hn];exact(Lb.1 hy).1
   exact .inl ⟨cs[n],w,by simp[execOp,ho,hv,Instr.extract,hl],.same I (hc n y _ hy (by simp[hl]))⟩
 .cases h
def Z6h(x:AV):Option Res:=match x with | .pt b i o=>U ⟨.pt b i o,X,[]⟩ | .rp e o=>U ⟨.rp e o,X,[]⟩ | .fn f c=>U ⟨.fn f c,X,[]⟩ | _=>X
def Za4{P:Program}{o:Oper}{id:Nat}{E:Operand->AV}{H:Heap}{r:Res}{x:Operand}
  (ho:o.op = .nilCheck x) (h:Z6h (E x)=U r):Z2v P o id E H r:=by
 intro Ow Im0 w0 ρ w Im clk a I _ _ hE _hph;have hx:=hE x;unfold Z6h at h;split at h<;>first | (cases h;done) | cases h
 .rename_i b i oo hE1;rw[hE1]at hx;obtain⟨g,s,m,hρ,hv⟩:=Z2U hx;exact .inl ⟨_,w,by simp[execOp,ho,hv],.same I (.pt hρ)⟩
 .rename_i e oo hE1;rw[hE1]at hx;generalize hv:a.eval x=v at hx;cases hx with
  | rp hp him hc=>exact .inl ⟨_,w,by simp[execOp,ho,hv],.same I (.rp hp him hc)⟩
 .rename_i f c hE1;rw[hE1]at hx;generalize hv:a.eval x=v at hx;cases hx with
  | fn hn hc=>exact .inl ⟨_,w,by simp[execOp,ho,hv],.same I (.fn hn hc)⟩
def Z4T(fn:Fn)(first captured:Array Operand)(E:Operand->AV):Option Res :=
 match fn,first.toList with
 | .func f,[]=>U ⟨.fn f (captured.toList.map E),X,[]⟩
 | .func f,[x]=>match captured.toList with
  | []=>U ⟨.fm f (E x),X,[]⟩
  | _=>X
 | _,_=>X
def Zan{P:Program}{o:Oper}{id:Nat}{E:Operand->AV}{H:Heap}{r:Res}{fn:Fn}{first captured:Array Operand}
  (ho:o.op = .makeFunc fn first captured) (h:Z4T fn first captured E=U r):Z2v P o id E H r:=by
 intro Ow Im0 w0 ρ w Im clk a I _ _ hE _;unfold Z4T at h;split at h
 .rename_i f hf;cases h;have:first = #[]:=by simpa using hf
  subst this;refine .inl ⟨.func (.func f) #[] (captured.map a.eval),w,by simp[execOp,ho,XK],.same I (.fn pq λi b v hb hv=>?_)⟩;simp only[Lk,L]at hb;obtain⟨x,hx,rfl⟩:=hb;have hx':captured[i]? = U x:=by simpa using hx
  simp only[Ly,hx',LV,LW]at hv;subst hv;exact hE x
 .rename_i f x hf;split at h
  .rename_i hc;cases h;have e1:first = #[x]:=by simpa using congrArg List.toArray hf
   have e2:captured = #[]:=by simpa using hc
   subst e1;subst e2;exact .inl ⟨.func (.func f) #[a.eval x] #[],w,by simp[execOp,ho,XK],.same I (.fm (hE x))⟩
  .cases h
 .cases h
def Z3e(P:Program)(t:Nat):Bool:=match P.underlying t with | U (.interface _)=>Z | U _=>Y | X=>Z
def Z3L(P:Program)(t:Nat)(x:AV):Option Res:=if Z3e P t then U ⟨.ic t x,X,[]⟩else X
def Z6g{P:Program}{o:Oper}{id:Nat}{E:Operand->AV}{H:Heap}{r:Res}{x:Operand}{t:Nat}
  (ho:o.op = .makeInterface t x) (h:Z3L P t (E x)=U r):Z2v P o id E H r:=by
 intro Ow Im0 w0 ρ w Im clk a I _ _ hE _;unfold Z3L at h;split at h
 .rename_i hc;cases h;have hc':P.concrete t=Y:=by
   unfold Z3e at hc;unfold Program.concrete;cases hu:P.underlying t with
   | none=>simp[hu]at hc
   | some d=>cases d<;>simp_all
  exact .inl ⟨_,w,by simp[execOp,ho,run_makeInterface (P:=P) w t _ hc'],.same I (.ic (hE x))⟩
 .cases h
def Z68{P:Program}{w:World}{t:Nat}{z:Value}(h:zeroOf P t=U z):(zeroValue t).run P w = .ok z w:=by
 unfold zeroOf at h;split at h
 .rename_i i hi;simp[zeroValue,typeInfo,hi,h]
 .cases h
def Zhd{P:Program}{w:World}{t xT:Nat}(hc:Z3e P t=Y)(v:Value):(LC (.iface t v) xT t Y).run P w = .ok (.tuple #[v,.bool Y]) w:=by
 unfold Z3e at hc;cases hu:P.underlying t with
 | none=>simp[hu]at hc
 | some d=>cases d<;>simp_all[LC,run_underlying hu]
def Zce{P:Program}{w:World}{t u xT:Nat}{z:Value}(hc:Z3e P t=Y)(hz:zeroOf P t=U z)(hn:u≠t)(v:Value):(LC (.iface u v) xT t Y).run P w = .ok (.tuple #[z,.bool Z]) w:=by
 unfold Z3e at hc;cases hu:P.underlying t with
 | none=>simp[hu]at hc
 | some d=>cases d<;>simp_all[LC,run_underlying hu,Z68 hz]
def Za8{P:Program}{w:World}{t xT:Nat}{z:Value}(hc:Z3e P t=Y)(hz:zeroOf P t=U z):(LC .nilIface xT t Y).run P w = .ok (.tuple #[z,.bool Z]) w:=by
 unfold Z3e at hc;cases hu:P.underlying t with
 | none=>simp[hu]at hc
 | some d=>cases d<;>simp_all[LC,run_underlying hu,Z68 hz]
def noT(z:Value):AV:=.tu [cv z,.d (.sc (.bool Z))]
def Z9T(P:Program)(t:Nat)(ok:Bool)(x:AV):Option Res :=
 match Z3e P t,ok,zeroOf P t with
 | true,true,some z=>match x with
  | .ic u a=>match XU u t with
   | true=>U ⟨.tu [a,.d (.sc (.bool Y))],X,[]⟩
   | false=>U ⟨noT z,X,[]⟩
  | .d (.sc .nilIface)=>U ⟨noT z,X,[]⟩
  | _=>X
 | _,_,_=>X
def Zed{ρ:Rho}{w:World}{Im:Nat->Prop}{a b:AV}{x y:Value}(h:Rel ρ w Im a x)(k:Rel ρ w Im b y):Rel ρ w Im (.tu [a,b]) (.tuple #[x,y]):=by
 refine .tu _ _ rfl λi c v hc hv=>?_
 match i with
 | 0=>simp at hc hv;subst hc;subst hv;exact h
 | 1=>simp at hc hv;subst hc;subst hv;exact k
 | i+2=>simp at hc
def Zd1{P:Program}{o:Oper}{id:Nat}{E:Operand->AV}{H:Heap}{r:Res}{x:Operand}{xT t:Nat}{ok:Bool}
  (ho:o.op = .typeAssert x xT t ok) (h:Z9T P t ok (E x)=U r):Z2v P o id E H r:=by
 intro Ow Im0 w0 ρ w Im clk a I _ _ hE _;unfold Z9T at h;split at h;rotate_left
 .cases h
 rename_i z hc hz;have h1:=hE x;split at h
 .rename_i u b hx;rw[hx]at h1;generalize hv:a.eval x=v at h1;cases h1 with
  | ic h1 =>
   split at h
   .rename_i hb;cases h;obtain rfl:=XV hb;exact .inl ⟨_,w,by simp[execOp,ho,hv,Zhd (w:=w) (xT:=xT) hc],.same I (Zed h1 (.d (.sc _ rfl)))⟩
   .rename_i hb;cases h;exact .inl ⟨_,w,by simp[execOp,ho,hv,Zce (w:=w) (xT:=xT) hc hz (XX hb)],.same I (Zed (Z7p _ _ _ _) (.d (.sc _ rfl)))⟩
 .rename_i hx;cases h;have h2:=Z15 (hx▸h1);exact .inl ⟨_,w,by simp[execOp,ho,h2,Za8 (w:=w) (xT:=xT) hc hz],.same I (Zed (Z7p _ _ _ _) (.d (.sc _ rfl)))⟩
 .cases h
def Zh4(mx:Bool)(hs:List Hint)(x y:AV):Option Res:=match x with
 | .d (.sc (.int k a))=>match y with
  | .d (.sc (.int _ b))=>match mx with
   | true=>U (numR k (if b > a then b else a) [] hs)
   | false=>U (numR k (if b<a then b else a) [] hs)
  | _=>X
 | _=>X
def Zjs{P:Program}{o:Oper}{id:Nat}{E:Operand->AV}{H:Heap}{r:Res}{x y:Operand}{t t':Nat}{hs:List Hint}
  (ho:o.op = .call ⟨.builtin .max,#[x,y],#[t,t']⟩) (h:Zh4 Y hs (E x) (E y)=U r):Z2v P o id E H r:=by
 unfold Zh4 at h;split at h
 .rename_i k a hx;split at h
  .rename_i k' b hy;cases h;refine Z1K λρ w Im s hE _=>?_;have h1:=Z15 (hx▸hE x);have h2:=Z15 (hy▸hE y);simp[execOp,ho,resolve,h1,h2,invoke,builtin,run_max_int2]
  .cases h
 .cases h
def Ziv{P:Program}{o:Oper}{id:Nat}{E:Operand->AV}{H:Heap}{r:Res}{x y:Operand}{t t':Nat}{hs:List Hint}
  (ho:o.op = .call ⟨.builtin .min,#[x,y],#[t,t']⟩) (h:Zh4 Z hs (E x) (E y)=U r):Z2v P o id E H r:=by
 unfold Zh4 at h;split at h
 .rename_i k a hx;split at h
  .rename_i k' b hy;cases h;refine Z1K λρ w Im s hE _=>?_;have h1:=Z15 (hx▸hE x);have h2:=Z15 (hy▸hE y);simp[execOp,ho,resolve,h1,h2,invoke,builtin,run_min_int2]
  .cases h
 .cases h
def ZkO{w:World}{Im:Nat->Prop}{s:Nat}{els:List (List DV)}{a:Option Addr}{n c l h:Nat}(hx:RelD w Im (.sl s els) (.slice a n c))(h1:l<=h)(h2:h<=els.length)(sz:Nat)(hsz:sz=s\/els=[]) :
  n=els.length/\n<=c\/els=[]->RelD w Im (.sl s ((els.drop l).take (h-l))) (.slice (if c=l then a else a.map (·.add (l*sz))) (h-l) (c-l)):=by
 intro _;by_cases he:h-l=0
 .rw[he];simpa using RelD.slNil s _ _
 .cases hx with
  | slNil=>simp at h2;omega
  | sl s els p n c f hn hc hb hs hp him hcell hrel =>
   have hsz':sz=s:=by
    rcases hsz with h | h
    .exact h
    .subst h;simp at h2;omega
   subst hsz';rw[if_neg oq];simp only[LV];rw[addr_add hp];have get:∀ i e,((els.drop l).take (h-l))[i]? = U e->els[l+i]? = U e:=by
    intro i e hi;rw[Xi]at hi;split at hi
    .rwa [Xh]at hi
    .cases hi
   refine .sl sz _ _ _ _ (λi o=>f (l+i) o) qo oq oq (λe he'=>hs e (Xk (Xl he'))) rfl him ?_ ?_
   .intro i e o x hi ho;have:=hcell (l+i) e o x (get i e hi) ho;rw[La]at this;simpa[LJ]using this
   .intro i e o x hi ho;exact hrel (l+i) e o x (get i e hi) ho
def bnd(d:Int):Option AV->Option Int
 | none=>U d
 | some (.d (.sc (.int _ n)))=>U n
 | _=>X
def sub(els:List (List DV))(lo hi:Option AV)(l h:Int):List (List DV) :=
 match lo,hi with
 | none,none=>els
 | some _,none=>els.drop l.toNat
 | none,some _=>els.take h.toNat
 | some _,some _=>(els.drop l.toNat).take (h.toNat-l.toNat)
def slP(lo hi:Option AV)(l h n:Int):List Prop :=
 match lo,hi with
 | none,none=>[]
 | some _,none=>[0<=l/\l<=n]
 | none,some _=>[0<=h/\h<=n]
 | some _,some _=>[0<=l/\l<=h/\h<=n]
def Z8u(P:Program)(t:Nat)(hs:List Hint)(x:AV)(lo hi:Option AV)(H:Heap):Option Res :=
 match Z1e P t with
 | none=>X
 | some e=>match x with
  | .d (.sl s els)=>if szOf P e=s then
   match bnd 0 lo,bnd els.length hi with
   | some l,some h=>match hs with
    | .els l'::_=>U ⟨.d (.sl s l'),X,slP lo hi l h els.length++[sub els lo hi l h=l']⟩
    | _=>U ⟨.d (.sl s (sub els lo hi l h)),X,slP lo hi l h els.length⟩
   | _,_=>X
   else X
  | .ow b=>match H b with
   | some (.arr _ s els)=>if szOf P e=s then
    match bnd 0 lo,bnd els.length hi with
    | some l,some h=>U ⟨.os b l.toNat (h.toNat-l.toNat),X,slP lo hi l h els.length⟩
    | _,_=>X
    else X
   | _=>X
  | .os b o n=>match H b with
   | some (.arr _ s _)=>if szOf P e=s then
    match bnd 0 lo,bnd n hi with
    | some l,some h=>U ⟨.os b (o+l.toNat) (h.toNat-l.toNat),X,slP lo hi l h n⟩
    | _,_=>X
    else X
   | _=>X
  | _=>X
def Zbm{P:Program}{e:Nat}(he:(P.info? e).isSome=Y)(w:World):(sizeOf e).run P w = .ok (szOf P e) w:=by
 obtain⟨i,hi⟩:=Option.isSome_iff_exists.1 he;simp[sizeOf,typeInfo,hi,szOf]
def ZdD{P:Program}{w:World}{t e:Nat}{a:Option Addr}{n c l h:Nat}{lo hi:Option Value}(ht:Z1e P t=U e)(he:(P.info? e).isSome=Y)
  (hlo:lo=X/\l=0\/∃ k,lo=U (.int k l)) (hhi:hi=X/\h=n\/∃ k,hi=U (.int k h)) (h1:l<=h) (h2:h<=n) (h3:n<=c) :
  (XM t (.slice a n c) lo hi X).run P w = .ok (.slice (if c=l then a else a.map (·.add (l*szOf P e))) (h-l) (c-l)) w:=by
 unfold Z1e at ht;split at ht;rotate_left
 .cases ht
 rename_i e' hu;cases ht;have hs:=Zbm he w;have c1:h<=c:=by omega
 rcases hlo with⟨rfl,rfl⟩ | ⟨k,rfl⟩<;>rcases hhi with⟨rfl,rfl⟩ | ⟨k',rfl⟩ <;>
  simp[XM,Instr.slice,run_underlying hu,Instr.sliceBounds,Instr.sliceBound,asIntOf,hs,c1,h1]
def Zg1{d:Int}{x:Option AV}{n:Int}(h:bnd d x=U n):(x=X/\n=d)\/∃ k,x=U (.d (.sc (.int k n))):=by
 unfold bnd at h;split at h
 .cases h;exact .inl ⟨rfl,rfl⟩
 .cases h;exact .inr ⟨_,rfl⟩
 .cases h
def ZbO{lo hi:Option AV}{l h n:Int}(hp:allP (slP lo hi l h n))(h0:0<=n)(hl:lo=X->l=0)(hh:hi=X->h=n):0<=l/\l<=h/\h<=n:=by
 unfold slP at hp;split at hp
 .have:=hl rfl;have:=hh rfl;omega
 .have:=hh rfl;simp[allP]at hp;omega
 .have:=hl rfl;simp[allP]at hp;omega
 .simp[allP]at hp;omega
def Zq9{els:List (List DV)}{lo hi:Option AV}{l h:Int}(h0:0<=l)(hl:lo=X->l=0)(hh:hi=X->h=els.length):sub els lo hi l h=(els.drop l.toNat).take (h.toNat-l.toNat):=by
 unfold sub;split
 .have:=hl rfl;have:=hh rfl;subst_vars;simp
 .have:=hh rfl;subst this;simp;rw[List.take_of_length_le pq]
 .have:=hl rfl;subst this;simp
 .rfl
def Zek{P:Program}{o:Oper}{id:Nat}{E:Operand->AV}{H:Heap}{r:Res}{x:Operand}{lo hi:Option Operand}{t:Nat}{hs:List Hint}
  (ho:o.op = .slice t x lo hi X) (hinfo:∀ e,Z1e P t=U e->(P.info? e).isSome=Y) (h:Z8u P t hs (E x) (lo.map E) (hi.map E) H=U r):Z2v P o id E H r:=by
 intro Ow Im0 w0 ρ w Im clk a I _ _ hE hph;have hx:=hE x;unfold Z8u at h;split at h
 .cases h
 rename_i e he;have hi':=hinfo e he;have lov:∀ (d l:Int),bnd d (lo.map E)=U l->0<=l->(lo.map a.eval=X/\l=d)\/∃ k,lo.map a.eval=U (.int k (l.toNat:Int)):=by
  intro d l hb h0;rcases Zg1 hb with⟨h1,h2⟩ | ⟨k,h1⟩
  .cases lo with
   | none=>exact .inl ⟨rfl,h2⟩
   | some y=>simp at h1
  .cases lo with
   | none=>simp at h1
   | some y =>
    simp only[LV,LW]at h1;have:=Z15 (h1▸hE y);exact .inr ⟨k,by simp[this];omega⟩
 have hiv:∀ (d l:Int),bnd d (hi.map E)=U l->0<=l->(hi.map a.eval=X/\l=d)\/∃ k,hi.map a.eval=U (.int k (l.toNat:Int)):=by
  intro d l hb h0;rcases Zg1 hb with⟨h1,h2⟩ | ⟨k,h1⟩
  .cases hi with
   | none=>exact .inl ⟨rfl,h2⟩
   | some y=>simp at h1
  .cases hi with
   | none=>simp at h1
   | some y =>
    simp only[LV,LW]at h1;have:=Z15 (h1▸hE y);exact .inr ⟨k,by simp[this];omega⟩
 have none1:∀ {d l:Int} {y:Option AV},bnd d y=U l->y=X->l=d:=by
  intro d l y hb hy;subst hy;simp[bnd]at hb;exact hb.symm
 have run:∀ (p:Option Addr) (n c:Nat) (l h:Int),a.eval x = .slice p n c->n<=c->bnd 0 (lo.map E)=U l->bnd (n:Int) (hi.map E)=U h->0<=l->l<=h->h<=n ->
   (execOp a.eval o).run P w = .ok (.value (.slice (if c=l.toNat then p else p.map (·.add (l.toNat*szOf P e))) (h.toNat-l.toNat) (c-l.toNat))) w:=by
  intro p n c l h hv hc hl hh h1 h2 h3;have e1:=lov 0 l hl h1;have e2:=hiv n h hh oq;have:=ZdD (P:=P) (w:=w) (a:=p) (n:=n) (c:=c) (l:=l.toNat) (h:=h.toNat) he hi' (e1.imp (λ⟨p,q⟩=>⟨p,by omega⟩) (λh=>h)) (e2.imp (λ⟨p,q⟩=>⟨p,by omega⟩) (λh=>h)) oq oq hc;simp[execOp,ho,hv,this]
 split at h
 .rename_i s els hE1;rw[hE1]at hx;split at h;rotate_left
  .cases h
  rename_i hsz;split at h;rotate_left
  .cases h
  rename_i l hh hl1 hh1;have fin:allP (slP (lo.map E) (hi.map E) l hh els.length)->Goes P o a w λv w'=>Then Ow Im0 w0 ρ w Im clk H (.d (.sl s (sub els (lo.map E) (hi.map E) l hh))) v w':=by
   intro hp;obtain⟨p1,p2,p3⟩:=ZbO hp oq (none1 hl1) (none1 hh1);rw[Zq9 p1 (none1 hl1) (none1 hh1)];generalize hv:a.eval x=v at hx;cases hx with
   | d hx =>
    have hlen:∃ p n c,v = .slice p n c/\n=els.length/\n<=c:=by
     cases hx with
     | slNil s p c=>exact⟨p,0,c,rfl,rfl,Nat.zero_le _⟩
     | sl s els p n c f hn hc=>exact⟨U p,n,c,rfl,hn.symm,hc⟩
    obtain⟨p,n,c,rfl,hn,hc⟩:=hlen;refine .inl ⟨_,w,run p n c l hh hv hc hl1 (by rw[hn];exact hh1) p1 p2 oq,.same I (.d ?_)⟩;exact ZkO hx oq oq (szOf P e) (.inl hsz) (.inl ⟨hn,hc⟩)
  split at h
  .rename_i l' _;cases h;obtain⟨p1,p2⟩:=allP_append.1 hph;have p2':sub els (lo.map E) (hi.map E) l hh=l':=by simpa[allP]using p2
   have:=fin p1;rw[p2']at this;exact this
  .cases h;exact fin hph
 .rename_i b hE1;rw[hE1]at hx;split at h;rotate_left
  .cases h
  rename_i ty s els hb;split at h;rotate_left
  .cases h
  rename_i hsz;split at h;rotate_left
  .cases h
  rename_i l hh hl1 hh1;cases h;obtain⟨p1,p2,p3⟩:=ZbO hph oq (none1 hl1) (none1 hh1);generalize hv:a.eval x=v at hx;cases hx with
  | ow hρ hc hbg ha =>
   rename_i c ad β;obtain⟨β',h1,h2⟩:=I.blk b _ hb;rw[hρ]at h1;cases h1;obtain⟨g1,g2,_,_,_⟩:=h2;refine .inl ⟨_,w,run ad β.n c l hh hv hc hl1 (by rw[g2];exact hh1) p1 p2 oq,.same I (.os hρ oq oq oq ?_)⟩;rcases ha with ha | ⟨g,hg,rfl,hrow⟩
   .exact .inl oq
   .by_cases hcl:c=l.toNat
    .exact .inl oq
    .refine .inr ⟨g,hg,by rw[if_neg hcl];simp[Lr,hsz,g1], ?_⟩;rw[show l.toNat+(c-l.toNat)=c from by omega];exact hrow
 .rename_i b oo m hE1;rw[hE1]at hx;split at h;rotate_left
  .cases h
  rename_i ty s els hb;split at h;rotate_left
  .cases h
  rename_i hsz;split at h;rotate_left
  .cases h
  rename_i l hh hl1 hh1;cases h;obtain⟨p1,p2,p3⟩:=ZbO hph oq (none1 hl1) (none1 hh1);generalize hv:a.eval x=v at hx;cases hx with
  | os hρ hn hc hbg ha =>
   rename_i c ad β;obtain⟨β',h1,h2⟩:=I.blk b _ hb;rw[hρ]at h1;cases h1;obtain⟨g1,g2,_,_,_⟩:=h2;refine .inl ⟨_,w,run ad m c l hh hv hc hl1 hh1 p1 p2 oq,.same I (.os hρ oq oq oq ?_)⟩;rcases ha with ha | ⟨g,hg,rfl,hrow⟩
   .exact .inl oq
   .by_cases hcl:c=l.toNat
    .exact .inl oq
    .refine .inr ⟨g,hg,by rw[if_neg hcl];simp[Lr,hsz,g1,La], ?_⟩;rw[show oo+l.toNat+(c-l.toNat)=oo+c from by omega];exact hrow
 .cases h
def foldl_set(u:List Value):∀ (off k:Nat) (cells:Array Value),off+k+u.length<=cells.size ->
  ((u.zipIdx k).foldl (λcs (p:Value×Nat)=>cs.setIfInBounds (off+p.2) p.1) cells).size=cells.size /\
  ∀ j,((u.zipIdx k).foldl (λcs (p:Value×Nat)=>cs.setIfInBounds (off+p.2) p.1) cells)[j]? = if j<off+k then cells[j]? else if j<off+k+u.length then u[j-(off+k)]? else cells[j]? := by
 induction u with
 | nil=>intro off k cells _;refine⟨rfl,λj=>?_⟩;simp only[List.zipIdx_nil,List.foldl_nil,L3,Lx];split<;>rfl
 | cons x u ih =>
  intro off k cells h;simp only[XR]at h;have:=ih off (k+1) (cells.setIfInBounds (off+k) x) qo;simp only[List.zipIdx_cons,List.foldl_cons];refine⟨by rw[this.1];simp,λj=>?_⟩;rw[this.2 j];simp only[Array.getElem?_setIfInBounds,XR];by_cases h1:j<off+k
  .rw[if_pos oq,if_neg oq,if_pos h1]
  .rw[if_neg h1];by_cases h2:j=off+k
   .subst h2;rw[if_pos oq,if_pos rfl,if_pos oq,if_pos oq];simp
   .rw[if_neg (show ¬ j<off+(k+1) by omega)];by_cases h3:j<off+(k+1)+u.length
    .rw[if_pos h3,if_pos oq];have e:j-(off+k)=(j-(off+(k+1)))+1:=by omega
     rw[e];simp
    .rw[if_neg h3,if_neg oq,if_neg oq]
def Zb6(v:Value)(off:Nat)(cells:Array Value)(h:off+v.cells.size<=cells.size) :
  (v.cells.zipIdx.foldl (λcs (p:Value×Nat)=>cs.setIfInBounds (off+p.2) p.1) cells).size=cells.size /\
  ∀ j,(v.cells.zipIdx.foldl (λcs (p:Value×Nat)=>cs.setIfInBounds (off+p.2) p.1) cells)[j]? = if j<off then cells[j]? else if j<off+v.cells.size then v.cells[j-off]? else cells[j]? := by
 have e:v.cells.zipIdx.foldl (λcs (p:Value×Nat)=>cs.setIfInBounds (off+p.2) p.1) cells=(v.cells.toList.zipIdx 0).foldl (λcs (p:Value×Nat)=>cs.setIfInBounds (off+p.2) p.1) cells:=by
  rw[<- Array.foldl_toList];simp
 have:=foldl_set v.cells.toList off 0 cells (by simpa using h);rw[e];refine⟨this.1,λj=>?_⟩;rw[this.2 j];simp
def ZgS(place:Nat->Option (Nat×Nat))(l:List AV):List (Nat×AV)->Option (List AV)
 | []=>U l
 | (i,x)::r=>match place i,x.cells with
  | some (off,size),some xs=>if xs.length=size/\off+size<=l.length then ZgS place (splice l off xs) r else X
  | _,_=>X
def RelL(ρ:Rho)(w:World)(Im:Nat->Prop)(l:List AV)(cs:Array Value):Prop :=
 cs.size=l.length/\(∀ (i:Nat) (v:Value),cs[i]? = U v->v.oneCell'=Y)/\∀ (i:Nat) (a:AV) (v:Value),l[i]? = U a->cs[i]? = U v->Rel ρ w Im a v
def Zcg{ρ:Rho}{w:World}{Im:Nat->Prop}{place:Nat->Option (Nat×Nat)}:∀ {parts:List (Nat×AV)} {vals:List (Nat×Value)} {l l':List AV} {cs:Array Value},
  parts.length=vals.length->(∀ (k:Nat) (p:Nat×AV) (q:Nat×Value),parts[k]? = U p->vals[k]? = U q->p.1=q.1/\Rel ρ w Im p.2 q.2)->RelL ρ w Im l cs->ZgS place l parts=U l' ->
  ∃ cs',L2 place cs vals=U cs'/\RelL ρ w Im l' cs'
 | [],vals,l,l',cs,hn,_,hr,h=>by
  cases vals with
  | nil=>simp[ZgS]at h;subst h;exact⟨cs,rfl,hr⟩
  | cons _ _=>simp at hn
 | (i,x)::parts,vals,l,l',cs,hn,hp,hr,h=>by
  cases vals with
  | nil=>simp at hn
  | cons q vals =>
   obtain⟨i',v⟩:=q;obtain⟨h1,h2⟩:=hp 0 _ _ rfl rfl;simp only at h1 h2;subst h1;simp only[ZgS]at h;split at h;rotate_left
   .cases h
   rename_i off size xs hpl hxs;split at h;rotate_left
   .cases h
   rename_i hc;obtain⟨c1,c2,c3⟩:=h2.cells hxs;obtain⟨r1,r2,r3⟩:=hr;have hfit:off+v.cells.size<=cs.size:=by omega
   have hfl:off+xs.length<=l.length:=by omega
   have key:=Zb6 v off cs hfit;have hrel:RelL ρ w Im (splice l off xs) (v.cells.zipIdx.foldl (λcs (p:Value×Nat)=>cs.setIfInBounds (off+p.2) p.1) cs):=by
    refine⟨?_, ?_, ?_⟩
    .rw[key.1,r1];simp only[splice];rw[Z1g hfl]
    .intro j u hu;rw[key.2 j]at hu;split at hu
     .exact r2 j u hu
     .split at hu
      .exact c3 _ u hu
      .exact r2 j u hu
    .intro j a u ha hu;rw[key.2 j]at hu;simp only[splice]at ha;rw[Z2C hfl,<- c1]at ha;by_cases k1:j<off
     .simp only[k1,if_true]at ha hu;exact r3 j a u ha hu
     .simp only[k1,if_false]at ha hu;by_cases k2:j<off+v.cells.size
      .simp only[k2,if_true]at ha hu;exact c2 _ a u ha hu
      .simp only[k2,if_false]at ha hu;exact r3 j a u ha hu
   obtain⟨cs',h3,h4⟩:=Zcg (place:=place) (by simpa using hn) (λk p q hk hq=>hp (k+1) p q (by simpa using hk) (by simpa using hq)) hrel h;refine⟨cs', ?_,h4⟩;simp only[L2,hpl];rw[if_neg qo];exact h3
def Z79{P:Program}{w:World}{α β:Type}(f:α->Sem β)(g:α->β):∀ (l:List α),(∀ x∈l,(f x).run P w = .ok (g x) w)->(l.mapM f).run P w = .ok (l.map g) w
 | [],_=>rfl
 | x::l,h=>by
  rw[List.mapM_cons];simp[h x pq,Z79 f g l (λy hy=>h y (by simp[hy]))]
def run_places{P:Program}{w:World}(fs:Array Field)(h:∀ f∈fs.toList,(P.info? f.type).isSome=Y) :
  (fs.mapM λf=>do pure (f.offset,<- sizeOf f.type):Sem (Array (Nat×Nat))).run P w = .ok (fs.map λf=>(f.offset,szOf P f.type)) w:=by
 obtain⟨l⟩:=fs;rw[List.mapM_toArray];have:=Z79 (P:=P) (w:=w) (λf:Field=>(do pure (f.offset,<- sizeOf f.type):Sem (Nat×Nat))) (λf=>(f.offset,szOf P f.type)) l (λf hf=>by
  simp[Zbm (h f hf) w])
 simp only[Sem.run_map,this,M];simp
def Zjf(P:Program)(fs:List Field)(i:Nat):Option (Nat×Nat):=match fs[i]? with | U f=>U (f.offset,szOf P f.type) | X=>X
def ZbW(P:Program)(t:Nat)(parts:List (Nat×AV)):Option Res :=
 match zeroOf P t with
 | none=>X
 | some z=>match (cv z).cells with
  | none=>X
  | some l0=>match P.underlying t with
   | some (.struct fs)=>if fs.toList.all (λf=>(P.info? f.type).isSome)then(ZgS (Zjf P fs.toList) l0 parts).map λl=>⟨.ag l,X,[]⟩else X
   | some (.array _ e)=>if(P.info? e).isSome then(ZgS (λi=>U (i*szOf P e,szOf P e)) l0 parts).map λl=>⟨.ag l,X,[]⟩else X
   | _=>X
def Z5S{P:Program}{t:Nat}{z:Value}(h:zeroOf P t=U z)(w:World):(zeroValue t).run P w = .ok z w:=by
 unfold zeroOf at h;split at h
 .rename_i i hi;simp[zeroValue,typeInfo,hi,h]
 .cases h
def Zem{P:Program}{o:Oper}{id:Nat}{E:Operand->AV}{H:Heap}{r:Res}{t:Nat}{parts:Array (Nat×Operand)}
  (ho:o.op = .build t parts) (h:ZbW P t (parts.toList.map λp=>(p.1,E p.2))=U r):Z2v P o id E H r:=by
 intro Ow Im0 w0 ρ w Im clk a I _ _ hE _;unfold ZbW at h;split at h
 .cases h
 rename_i z hz;split at h
 .cases h
 rename_i l0 hl0;have hz0:=(Z7p ρ w Im z).cells hl0;have hzr:=Z5S (P:=P) hz w;have hrel0:RelL ρ w Im l0 z.cells:=⟨hz0.1,hz0.2.2,hz0.2.1⟩
 have hparts:∀ (k:Nat) (p:Nat×AV) (q:Nat×Value),(parts.toList.map λp=>(p.1,E p.2))[k]? = U p->(parts.toList.map λp=>(p.1,a.eval p.2))[k]? = U q->p.1=q.1/\Rel ρ w Im p.2 q.2:=by
  intro k p q hp hq;simp only[Lk,L]at hp hq;obtain⟨x,hx,rfl⟩:=hp;obtain⟨y,hy,rfl⟩:=hq;rw[hx]at hy;cases hy;exact⟨rfl,hE _⟩
 split at h
 .rename_i fs hu;split at h;rotate_left
  .cases h
  rename_i hall;simp only[L]at h;obtain⟨l,hl,rfl⟩:=h;obtain⟨cs,h1,h2⟩:=Zcg (vals:=parts.toList.map λp=>(p.1,a.eval p.2)) pq hparts hrel0 hl;have hpl:=run_places (P:=P) (w:=w) fs (λf hf=>by simp only[LF]at hall;exact hall f hf);have hpeq:(λi=>(fs.map λf=>(f.offset,szOf P f.type))[i]?)=Zjf P fs.toList:=by
   funext i
   simp only[Zjf,Ly,LX];cases fs[i]? <;> rfl
  refine .inl ⟨.agg cs,w, ?_,.same I (.ag l cs h2.1 h2.2.1 h2.2.2)⟩;simp only[execOp,ho,XH,S,hzr,M,run_underlying hu,hpl,hpeq];simp[h1]
 .rename_i n e hu;split at h;rotate_left
  .cases h
  rename_i hall;simp only[L]at h;obtain⟨l,hl,rfl⟩:=h;obtain⟨cs,h1,h2⟩:=Zcg (vals:=parts.toList.map λp=>(p.1,a.eval p.2)) pq hparts hrel0 hl;refine .inl ⟨.agg cs,w, ?_,.same I (.ag l cs h2.1 h2.2.1 h2.2.2)⟩;simp only[execOp,ho,XH,S,hzr,M,run_underlying hu,Zbm hall w];simp[h1]
 .cases h
def RelE(w:World)(Im:Nat->Prop)(s:Nat)(els:List (List DV))(cs:Array Value):Prop :=
 (∀ e∈els,e.length=s)/\els.length*s<=cs.size/\(∀ (i:Nat) (v:Value),cs[i]? = U v->i<els.length*s->v.oneCell'=Y) /\
  ∀ (i:Nat) (e:List DV) (o:Nat) (x:DV),els[i]? = U e->e[o]? = U x->∃ v,cs[i*s+o]? = U v/\RelD w Im x v
def Then.arr{Ow:Own}{Im0:Nat->Prop}{w0:World}{ρ:Rho}{w:World}{Im:Nat->Prop}{clk:Nat}{H:Heap}{id ty s:Nat}{els:List (List DV)}{cs:Array Value}{c:Nat}
  (I:Inv Ow Im0 w0 ρ w Im H clk) (hid:clk*8000<=id) (hH:H id=X) (h:RelE w Im s els cs) (hb:els.length<=big) (hc:els.length<=c) (hcs:c*s<=cs.size) :
  Then Ow Im0 w0 ρ w Im clk (updH H id (.arr ty s els)) (.ow id) (.slice (U ⟨w.heap.size,0,X⟩) els.length c) (w.alloc (.cells cs ty)):=by
 have hsub:=Z1X (β:=⟨U w.heap.size,s,els.length⟩) (I.fresh id hid hH);have he:=Ext.alloc Im w (.cells cs ty) I.imb;obtain⟨h1,h2,_,h4⟩:=h;refine⟨updR ρ id ⟨U w.heap.size,s,els.length⟩,I.add id hid hH cs ty s els.length _ ?_,he,hsub, ?_⟩
 .exact⟨rfl,rfl,hb,h1,.inr ⟨w.heap.size,cs,rfl,heap_alloc_new _ _,h2,λi e o x hi ho=>let ⟨v,k1,k2⟩:=h4 i e o x hi ho;⟨v,k1,k2.mono he (λ_ h=>h)⟩⟩⟩
 .have:=Rel.ow (ρ:=updR ρ id ⟨U w.heap.size,s,els.length⟩) (w:=w.alloc (.cells cs ty)) (Im:=Im) (c:=c) (a:=U ⟨w.heap.size,0,X⟩) (Z2g ρ id ⟨U w.heap.size,s,els.length⟩) hc hb
   (.inr ⟨w.heap.size,rfl,rfl,by unfold Sx.rows;rw[heap_alloc_new];exact hcs⟩)
  exact this
def Z9E(z:Array Value)(n s:Nat)(hz:z.size=s)(i o:Nat)(ho:o<s)(hi:i<n) :
  ((LN (n*s)).map (z[· % z.size]!))[i*s+o]? = z[o]? := by
 have h1:i*s+o<n*s:=by
  have:(i+1)*s<=n*s:=Lc s hi;rw[La]at this;omega
 have h2:(i*s+o)%z.size=o:=by
  rw[hz,Nat.add_comm,Nat.add_mul_mod_self_right,Nat.mod_eq_of_lt ho]
 simp only[Ly,Array.getElem?_range,h1,if_true,LV,h2];rw[Array.getElem!_eq_getD,Ls oq];simp[Array.getD,hz,ho]
def Z73{w:World}{Im:Nat->Prop}{z:Value}{zs:List DV}{l:List AV}{s:Nat}(n:Nat)(hl:(cv z).cells=U l)(hz:ZcT l=U zs)(hs:zs.length=s) :
  RelE w Im s (W n zs) ((LN (n*s)).map (z.cells[· % z.cells.size]!)):=by
 have hc:=(Z7p (λ_=>X) w Im z).cells hl;have e:=Z3k hz;have hsz:z.cells.size=s:=by rw[hc.1,e];simp[dvs,hs]
 refine⟨λe he=>by rw[(Xm.1 he).2];exact hs,by simp, ?_, ?_⟩
 .intro i v hv hi;simp only[Xj]at hi;have hs0:0<s:=by
   rcases L6 s with h | h
   .subst h;simp at hi
   .exact h
  have hdm:i=i/s*s+i%s:=by rw[Xt];exact(Xp i s).symm
  have hq:i/s<n:=by rw[Xq hs0];exact hi
  rw[hdm,Z9E z.cells n s hsz (i/s) (i%s) (Xs _ hs0) hq]at hv;exact hc.2.2 _ v hv
 .intro i e' o x hi ho;have hi':i<n:=by have:=(Lb.1 hi).1;simpa using this
  have he':e'=zs:=by
   have:=N hi;exact(Xm.1 this).2
  subst he';have hos:o<s:=by rw[<- hs];exact(Lb.1 ho).1
  have ho2:o<z.cells.size:=by omega
  refine⟨z.cells[o],by rw[Z9E z.cells n s hsz i o hos hi'];exact Ls ho2, ?_⟩;have hlo:l[o]? = U (.d x):=by rw[e];simp[dvs,ho]
  have:=hc.2.1 o _ _ hlo (Ls ho2);cases this with
  | d h=>exact h
def Z65(P:Program)(e:Nat):Option (List DV):=match zeroOf P e with | U z=>(match (cv z).cells with | U l=>ZcT l | X=>X) | X=>X
def Z5r(P:Program)(t id:Nat)(hs:List Hint)(x y:AV):Option Res :=
 match Z1e P t with
 | none=>X
 | some e=>match Z65 P e with
  | none=>X
  | some zs=>match bytesOf P e,szOf P e with
   | b+1,s+1=>if zs.length=s+1 then
    match x,y with
    | .d (.sc (.int _ n)),.d (.sc (.int _ c))=>match hs with
     | .els l'::_=>U ⟨.ow id,U (id,.arr e (s+1) l'),[0<=n/\n<=c/\c*(b+1)<=2^48,W n.toNat zs=l']⟩
     | _=>U ⟨.ow id,U (id,.arr e (s+1) (W n.toNat zs)),[0<=n/\n<=c/\c*(b+1)<=2^48]⟩
    | _,_=>X
    else X
   | _,_=>X
def Z9i{P:Program}{o:Oper}{id:Nat}{E:Operand->AV}{H:Heap}{r:Res}{x y:Operand}{t:Nat}{hs:List Hint}
  (ho:o.op = .makeSlice t x y) (h:Z5r P t id hs (E x) (E y)=U r):Z2v P o id E H r:=by
 intro Ow Im0 w0 ρ w Im clk a I hid hH hE hph;unfold Z5r at h;split at h
 .cases h
 rename_i e he;split at h
 .cases h
 rename_i zs hzs;split at h;rotate_left
 .cases h
 rename_i b s hb hsz;split at h;rotate_left
 .cases h
 rename_i hlen;split at h;rotate_left
 .cases h
 rename_i k n k' c hx hy;have v1:=Z15 (hx▸hE x);have v2:=Z15 (hy▸hE y);have fin:0<=n/\n<=c/\c*(b+1)<=2^48->Goes P o a w λv w'=>Then Ow Im0 w0 ρ w Im clk (updH H id (.arr e (s+1) (W n.toNat zs))) (.ow id) v w':=by
  rintro⟨p1,p2,p3⟩;have pc:c<=c*(b+1):=by
   rw[Int.mul_add,Int.mul_one];have:0<=c*(b:Int):=Int.mul_nonneg oq oq;omega
  unfold Z65 at hzs;split at hzs;rotate_left
  .cases hzs
  rename_i z hz;split at hzs;rotate_left
  .cases hzs
  rename_i l hl;have hzr:=Z5S (P:=P) hz w;unfold Z1e at he;split at he;rotate_left
  .cases he
  rename_i e' hu;cases he;have hw1:LD.wrap n=n:=IntWalk.i64_in _ oq;have hw2:LD.wrap c=c:=IntWalk.i64_in _ oq;have hcell:=Z73 (w:=w) (Im:=Im) c.toNat hl hzs hlen;have hrel:RelE w Im (s+1) (W n.toNat zs) ((LN (c.toNat*(s+1))).map (z.cells[· % z.cells.size]!)):=by
   obtain⟨h1,h2,h3,h4⟩:=hcell;have hnc:n.toNat<=c.toNat:=by omega
   have hmul:n.toNat*(s+1)<=c.toNat*(s+1):=Lc _ hnc;refine⟨λe he=>by rw[(Xm.1 he).2];exact hlen,by simpa using hmul,λi v hv hi=>h3 i v hv (by simp at hi ⊢;omega),λi e o x hi ho=>h4 i e o x ?_ ho⟩;have hi1:=(Lb.1 hi).1;simp only[Xj]at hi1;rw[XO,if_pos oq];rw[XO,if_pos hi1]at hi;exact hi
  have hinfo:∃ i,P.info? e=U i/\i.bytes=b+1/\i.size=s+1:=by
   unfold bytesOf at hb;unfold szOf at hsz;cases hi:P.info? e with
   | none=>simp[hi]at hb
   | some i=>simp only[hi]at hb hsz;exact⟨i,rfl,hb,hsz⟩
  obtain⟨i,hi,hib,his⟩:=hinfo;have hsr:(sizeOf e).run P w = .ok (s+1) w:=by simp[sizeOf,typeInfo,hi,his]
  have hne:¬ c.toNat=0\/c.toNat=0:=by omega
  have t1:¬ (c<0):=by omega
  have t2:¬ ((b+1:Int)*c > 2^48):=by rw[Int.mul_comm];omega
  have t3:¬ (n<0):=by omega
  have t4:¬ (n > c):=by omega
  have:=Then.arr (ty:=e) (c:=c.toNat) I hid hH hrel (by simp[big];omega) qo pq;refine .inl ⟨.slice (U ⟨w.heap.size,0,X⟩) n.toNat c.toNat,w.alloc (.cells ((LN (c.toNat*(s+1))).map (z.cells[· % z.cells.size]!)) e), ?_,by simpa using this⟩;have hib':(i.bytes:Int)=b+1:=by rw[hib];rfl
  have tl:(decide (c<0)||decide ((i.bytes:Int)*c > 2^48))=Z:=by
   rw[XG];exact⟨decide_eq_false t1,decide_eq_false (by rw[hib'];exact t2)⟩
  have tm:(decide (c<0)||decide ((i.bytes:Int)*c > 2^48)||decide (n<0)||decide (n > c))=Z:=by
   rw[tl,Bool.false_or,XG];exact⟨decide_eq_false t3,decide_eq_false t4⟩
  have mk:(XL t (.int k n) (.int k' c)).run P w = .ok (.slice (U ⟨w.heap.size,0,X⟩) n.toNat c.toNat) (w.alloc (.cells ((LN (c.toNat*(s+1))).map (z.cells[· % z.cells.size]!)) e)):=by
   unfold XL;simp only[S,run_underlying hu,M,asInt,asIntOf,O,typeInfo,run_program,hi,hw1,hw2,tm,Lm,if_false,run_askRoom,hsr];by_cases hc0:c.toNat*(s+1)=0
   .simp[hc0,newRow,Xc]
   .simp[newRow,hzr];intro h;exact absurd h hc0
  simp[execOp,ho,v1,v2,mk]
 split at h
 .rename_i l' _;cases h;obtain⟨p1,p2⟩:=allP_cons.1 hph;have p2':W n.toNat zs=l':=by simpa[allP]using p2
  rw[<- p2'];exact fin p1
 .cases h;exact fin (by simpa[allP]using hph)
def Zmf{w:World}{Im:Nat->Prop}{s:Nat}{els:List (List DV)}{cs cs':Array Value}{i:Nat}{ds:List DV}{u:Array Value}(h:RelE w Im s els cs)(hi:i<els.length)(hd:ds.length=s)(hu:u.size=s)
  (hr:∀ (j:Nat) (x:DV) (v:Value),ds[j]? = U x->u[j]? = U v->RelD w Im x v) (hone:∀ (j:Nat) (v:Value),u[j]? = U v->v.oneCell'=Y) (hsz:cs'.size=cs.size)
  (hget:∀ j,cs'[j]? = if j<i*s then cs[j]? else if j<i*s+u.size then u[j-i*s]? else cs[j]?):RelE w Im s (els.set i ds) cs':=by
 obtain⟨h1,h2,h3,h4⟩:=h;refine⟨λe he=>?_,by simpa[hsz]using h2,λj v hv hj=>?_,λk e o x hk ho=>?_⟩
 .rcases List.mem_or_eq_of_mem_set he with h | h
  .exact h1 e h
  .rw[h];exact hd
 .simp only[List.length_set]at hj;rw[hget]at hv;split at hv
  .exact h3 j v hv hj
  .split at hv
   .exact hone _ v hv
   .exact h3 j v hv hj
 .rw[XP]at hk;by_cases hki:i=k
  .subst hki;simp only[if_true,hi]at hk;cases hk;have hos:o<s:=by rw[<- hd];exact(Lb.1 ho).1
   have hou:o<u.size:=by omega
   refine⟨u[o], ?_,hr o x _ ho (Ls hou)⟩;rw[hget,if_neg oq,if_pos oq,show i*s+o-i*s=o from by omega];exact Ls hou
  .simp only[hki,if_false]at hk;obtain⟨v,k1,k2⟩:=h4 k e o x hk ho;have hes:e.length=s:=h1 e (N hk);have hos:o<s:=by rw[<- hes];exact(Lb.1 ho).1
   refine⟨v, ?_,k2⟩;rw[hget];rcases XW k i with hlt | hge
   .have:(k+1)*s<=i*s:=Lc s hlt;rw[La]at this;rw[if_pos oq];exact k1
   .have:(i+1)*s<=k*s:=Lc s oq;rw[La]at this;rw[if_neg oq,if_neg oq];exact k1
def Zj6(s:Nat)(els:List (List DV)):List (Nat×AV)->Option (List (List DV))
 | []=>U els
 | (i,x)::r=>match x.cells with
  | some xs=>match ZcT xs with
   | some ds=>if ds.length=s/\i<els.length then Zj6 s (els.set i ds) r else X
   | none=>X
  | none=>X
def Zdo{ρ:Rho}{w:World}{Im:Nat->Prop}{s:Nat}:∀ {parts:List (Nat×AV)} {vals:List (Nat×Value)} {els els':List (List DV)} {cs:Array Value},
  parts.length=vals.length->(∀ (k:Nat) (p:Nat×AV) (q:Nat×Value),parts[k]? = U p->vals[k]? = U q->p.1=q.1/\Rel ρ w Im p.2 q.2)->RelE w Im s els cs->cs.size=els.length*s->Zj6 s els parts=U els' ->
  ∃ cs',L2 (λi=>U (i*s,s)) cs vals=U cs'/\RelE w Im s els' cs'/\cs'.size=els'.length*s/\els'.length=els.length
 | [],vals,els,els',cs,hn,_,hr,hz,h=>by
  cases vals with
  | nil=>simp[Zj6]at h;subst h;exact⟨cs,rfl,hr,hz,rfl⟩
  | cons _ _=>simp at hn
 | (i,x)::parts,vals,els,els',cs,hn,hp,hr,hz,h=>by
  cases vals with
  | nil=>simp at hn
  | cons q vals =>
   obtain⟨i',v⟩:=q;obtain⟨h1,h2⟩:=hp 0 _ _ rfl rfl;simp only at h1 h2;subst h1;simp only[Zj6]at h;split at h;rotate_left
   .cases h
   rename_i xs hxs;split at h;rotate_left
   .cases h
   rename_i ds hds;split at h;rotate_left
   .cases h
   rename_i hc;obtain⟨c1,c2,c3⟩:=h2.cells hxs;have hxd:=Z3k hds;have hvs:v.cells.size=s:=by rw[c1,hxd];simp[dvs,hc.1]
   have hfit:i*s+v.cells.size<=cs.size:=by
    have:(i+1)*s<=els.length*s:=Lc s hc.2;rw[La]at this;omega
   have key:=Zb6 v (i*s) cs hfit;have hrel:=Zmf hr hc.2 hc.1 hvs (λj y u hy hu=>by
    have:xs[j]? = U (.d y):=by rw[hxd];simp[dvs,hy]
    cases c2 j _ u this hu with
    | d h=>exact h) c3 key.1 key.2
   obtain⟨cs',h3,h4,h5,h6⟩:=Zdo (ρ:=ρ) (by simpa using hn) (λk p q hk hq=>hp (k+1) p q (by simpa using hk) (by simpa using hq)) hrel (by rw[key.1,hz];simp) h;refine⟨cs', ?_,h4,h5,by rw[h6];simp⟩;simp only[L2];rw[if_neg qo];exact h3
def Z4O(P:Program)(t len id:Nat)(hs:List Hint)(parts:List (Nat×AV)):Option Res :=
 match Z1e P t with
 | none=>X
 | some e=>match Z65 P e with
  | none=>X
  | some zs=>match szOf P e with
   | 0=>X
   | s+1=>if zs.length=s+1/\len*(s+1)<=16777216 then
    match Zj6 (s+1) (W len zs) parts with
    | some els=>match hs with
     | .els l'::_=>U ⟨.ow id,U (id,.arr e (s+1) l'),[els=l']⟩
     | _=>U ⟨.ow id,U (id,.arr e (s+1) els),[]⟩
    | none=>X
    else X
def Z84{P:Program}{o:Oper}{id:Nat}{E:Operand->AV}{H:Heap}{r:Res}{t len:Nat}{parts:Array (Nat×Operand)}{hs:List Hint}
  (ho:o.op = .buildSlice t len parts) (h:Z4O P t len id hs (parts.toList.map λp=>(p.1,E p.2))=U r):Z2v P o id E H r:=by
 intro Ow Im0 w0 ρ w Im clk a I hid hH hE hph;unfold Z4O at h;split at h
 .cases h
 rename_i e he;split at h
 .cases h
 rename_i zs hzs;split at h
 .cases h
 rename_i s hsz;split at h;rotate_left
 .cases h
 rename_i hlen;split at h;rotate_left
 .cases h
 rename_i els hels;have fin:Goes P o a w λv w'=>Then Ow Im0 w0 ρ w Im clk (updH H id (.arr e (s+1) els)) (.ow id) v w':=by
  unfold Z65 at hzs;split at hzs;rotate_left
  .cases hzs
  rename_i z hz;split at hzs;rotate_left
  .cases hzs
  rename_i l hl;have hzr:=Z5S (P:=P) hz w;unfold Z1e at he;split at he;rotate_left
  .cases he
  rename_i e' hu;cases he;have hsr:(sizeOf e).run P w = .ok (s+1) w:=Z4c hsz pq w;have hcell:=Z73 (w:=w) (Im:=Im) len hl hzs hlen.1;have hparts:∀ (k:Nat) (p:Nat×AV) (q:Nat×Value),(parts.toList.map λp=>(p.1,E p.2))[k]? = U p->(parts.toList.map λp=>(p.1,a.eval p.2))[k]? = U q->p.1=q.1/\Rel ρ w Im p.2 q.2:=by
   intro k p q hp hq;simp only[Lk,L]at hp hq;obtain⟨x,hx,rfl⟩:=hp;obtain⟨y,hy,rfl⟩:=hq;rw[hx]at hy;cases hy;exact⟨rfl,hE _⟩
  obtain⟨cs,h1,h2,h3,h4⟩:=Zdo (ρ:=ρ) (vals:=parts.toList.map λp=>(p.1,a.eval p.2)) pq hparts hcell pq hels;have hl':els.length=len:=by rw[h4];simp
  have hle:len<=len*(s+1):=Nat.le_mul_of_pos_right _ oq;have:=Then.arr (ty:=e) (c:=els.length) I hid hH h2 (by simp[big];omega) (Lu _) oq;refine .inl ⟨.slice (U ⟨w.heap.size,0,X⟩) els.length els.length,w.alloc (.cells cs e), ?_,this⟩;have tl:¬ (len*(s+1) > 2^24):=by omega
  have hpl:(parts.map λx=>(x.1,a.eval x.2)).toList=parts.toList.map λp=>(p.1,a.eval p.2):=by simp
  have mk:(XI t len (parts.map λx=>(x.1,a.eval x.2))).run P w = .ok (.slice (U ⟨w.heap.size,0,X⟩) els.length els.length) (w.alloc (.cells cs e)):=by
   unfold XI;rw[hpl];simp only[S,run_underlying hu,M,hsr,tl,if_false];by_cases hc0:len*(s+1)=0
   .rw[hc0]at h1;simp only[Xc,XE]at h1;simp only[hc0,if_true,S,O,M,Xc,XE];rw[h1];simp[newRow,hl']
   .simp only[hc0,if_false,S,hzr,M,O];rw[h1];simp[newRow,hl']
  simp only[execOp,ho];simp only[S,mk,M,O]
 split at h
 .rename_i l' _;cases h;have p2:els=l':=by simpa[allP]using hph
  rw[<- p2];exact fin
 .cases h;exact fin
def Z1p(H:Heap):AV->Option (Nat×List (List DV))
 | .d (.sl s els)=>U (s,els)
 | .d (.sc (.slice _ 0 _))=>U (1,[])
 | .ow b=>match H b with | U (.arr _ s els)=>U (s,els) | _=>X
 | .os b o n=>match H b with | U (.arr _ s els)=>U (s,(els.drop o).take n) | _=>X
 | _=>X
def Z25{Ow:Own}{Im0:Nat->Prop}{w0:World}{ρ:Rho}{w:World}{Im:Nat->Prop}{H:Heap}{clk:Nat}{x:AV}{v:Value}{s:Nat}{els:List (List DV)}
  (I:Inv Ow Im0 w0 ρ w Im H clk) (hx:Rel ρ w Im x v) (h:Z1p H x=U (s,els)):∃ p c,v = .slice p els.length c/\els.length<=big/\els.length<=c/\(els≠[]->∀ e∈els,e.length=s)/\(els=[]\/∃ q,p=U q/\q.spot=X /\
   ∀ (i:Nat) (e:List DV) (o:Nat) (y:DV),els[i]? = U e->e[o]? = U y->∃ u,w.cell? ⟨q.block,q.off+(i*s+o),X⟩=U u/\RelD w Im y u):=by
 unfold Z1p at h;split at h
 .cases h;cases hx with
  | d hx =>
   cases hx with
   | slNil s p c=>exact⟨p,c,rfl,by simp,by simp,by simp,.inl rfl⟩
   | sl s els p n c f hn hc hb hs hp him hcell hrel =>
    subst hn;exact⟨U p,c,rfl,hb,hc,λ_=>hs,.inr ⟨p,rfl,hp,λi e o y hi ho=>⟨f i o,hcell i e o y hi ho,hrel i e o y hi ho⟩⟩⟩
 .cases h;exact⟨_,_,Z15 hx,by simp,by simp,by simp,.inl rfl⟩
 .split at h;rotate_left
  .cases h
  rename_i b _ ty s' els' hb;cases h;cases hx with
  | ow hρ hc hbg ha =>
   rename_i c ad β;obtain⟨β',h1,h2⟩:=I.blk b _ hb;rw[hρ]at h1;cases h1;obtain⟨g1,g2,_,g3,g4⟩:=h2;refine⟨ad,c,by rw[g2],by omega,by omega,λ_=>g3, ?_⟩;by_cases he:els=[]
   .exact .inl he
   .right;have hpos:0<els.length:=LI.2 he;rcases g4 with⟨_,g4⟩ | ⟨g,cs,hg,hw,hsz,hcell⟩
    .exact absurd g4 he
    rcases ha with ha | ⟨g',hg',rfl,_⟩
    .omega
    rw[hg]at hg';cases hg';refine⟨⟨g,0,X⟩,rfl,rfl,λi e o y hi ho=>?_⟩;obtain⟨u,k1,k2⟩:=hcell i e o y hi ho;exact⟨u,by simp[X0,hw,k1],k2⟩
 .split at h;rotate_left
  .cases h
  rename_i b oo m _ ty s' els' hb;cases h;cases hx with
  | os hρ hn hc hbg ha =>
   rename_i c ad β;obtain⟨β',h1,h2⟩:=I.blk b _ hb;rw[hρ]at h1;cases h1;obtain⟨g1,g2,_,g3,g4⟩:=h2;have hl:((els'.drop oo).take m).length=m:=by simp;omega
   refine⟨ad,c,by rw[hl],by omega,by omega,λ_ e he=>g3 e (Xk (Xl he)), ?_⟩;by_cases he:(els'.drop oo).take m=[]
   .exact .inl he
   .right;have hpos:0<m:=by
     rw[<- hl];exact LI.2 he
    rcases g4 with⟨_,g4⟩ | ⟨g,cs,hg,hw,hsz,hcell⟩
    .subst g4;simp at he
    rcases ha with ha | ⟨g',hg',rfl,_⟩
    .omega
    rw[hg]at hg';cases hg';refine⟨⟨g,oo*β.s,X⟩,rfl,rfl,λi e o y hi ho=>?_⟩;have hi':els'[oo+i]? = U e:=by
     rw[Xi]at hi;split at hi
     .rwa [Xh]at hi
     .cases hi
    obtain⟨u,k1,k2⟩:=hcell (oo+i) e o y hi' ho;refine⟨u, ?_,k2⟩;rw[La]at k1;simp only[X0,hw,g1];simpa[LJ]using k1
 .cases h
def Z2G{P:Program}{w:World}{Im:Nat->Prop}{s:Nat}{els:List (List DV)}{p:Option Addr}{n c:Nat}(hs0:0<s)(hlen:els≠[]->∀ e∈els,e.length=s)
  (h:els=[]\/∃ q,p=U q/\q.spot=X/\∀ (i:Nat) (e:List DV) (o:Nat) (y:DV),els[i]? = U e->e[o]? = U y->∃ u,w.cell? ⟨q.block,q.off+(i*s+o),X⟩=U u/\RelD w Im y u) :
  ∃ cs,(LO s els.length (.slice p n c)).run P w = .ok cs w/\RelE w Im s els cs/\cs.size=els.length*s:=by
 rcases h with h | ⟨q,rfl,hq,h⟩
 .subst h;refine⟨#[], ?_,⟨by simp,by simp,by simp,by simp⟩,by simp⟩;cases p with
  | none=>simp[LO]
  | some q=>simp[LO,loadCells,loadCellsFrom]
 .have hex:∀ j,j<els.length*s->∃ e y u,els[j/s]? = U e/\e[j%s]? = U y/\w.cell? ⟨q.block,q.off+j,X⟩=U u/\RelD w Im y u:=by
   intro j hj;have h1:j/s<els.length:=by rw[Xq hs0];exact hj
   have h2:els≠[]:=by intro h;subst h;simp at h1
   have h3:(els[j/s]).length=s:=hlen h2 _ (XQ h1);have h4:j%s<(els[j/s]).length:=by rw[h3];exact Xs _ hs0
   obtain⟨u,k1,k2⟩:=h (j/s) _ (j%s) _ (Lj h1) (Lj h4);refine⟨_,_,u,Lj h1,Lj h4, ?_,k2⟩;rw[show j/s*s+j%s=j from by rw[Xt];exact Xp j s]at k1;exact k1
  have hrun:=run_loadCells (P:=P) w q (els.length*s) (λj=>(w.cell? ⟨q.block,q.off+j,X⟩).getD undef) (λj hj=>by
   obtain⟨e,y,u,_,_,k,_⟩:=hex j hj;rw[addr_add hq,k];rfl)
  refine⟨_,by simpa[LO]using hrun,⟨λe he=>hlen (by intro h;subst h;simp at he) e he,by simp, ?_, ?_⟩,by simp⟩
  .intro j v hv hj;obtain⟨e,y,u,_,_,k,k2⟩:=hex j hj;simp[hj,k]at hv;subst hv;exact k2.one
  .intro i e o y hi ho;have hes:e.length=s:=hlen (by intro h;subst h;simp at hi) e (N hi);have hos:o<s:=by rw[<- hes];exact(Lb.1 ho).1
   have hj:i*s+o<els.length*s:=by
    have:(i+1)*s<=els.length*s:=Lc s (Lb.1 hi).1;rw[La]at this;omega
   obtain⟨u,k1,k2⟩:=h i e o y hi ho;exact⟨u,by simp[hj,k1],k2⟩
def Z0R(els:List (List DV))(o:Nat)(xs:List (List DV)):List (List DV):=els.take o++xs++els.drop (o+xs.length)
def Z8A{w:World}{Im:Nat->Prop}{s o:Nat}{els xs:List (List DV)}{cs cs' u:Array Value}(h:RelE w Im s els cs)(hx:RelE w Im s xs u)(hu:u.size=xs.length*s)(ho:o+xs.length<=els.length)
  (hsz:cs'.size=cs.size) (hget:∀ j,cs'[j]? = if j<o*s then cs[j]? else if j<o*s+u.size then u[j-o*s]? else cs[j]?):RelE w Im s (Z0R els o xs) cs':=by
 obtain⟨h1,h2,h3,h4⟩:=h;obtain⟨k1,k2,k3,k4⟩:=hx;have hl:(Z0R els o xs).length=els.length:=Z1g ho;refine⟨λe he=>?_,by rw[hl,hsz];exact h2,λj v hv hj=>?_,λk e q x hk hq=>?_⟩
 .simp only[Z0R,F]at he;rcases he with(he | he) | he
  .exact h1 e (Xl he)
  .exact k1 e he
  .exact h1 e (Xk he)
 .rw[hl]at hj;rw[hget]at hv;split at hv
  .exact h3 j v hv hj
  .split at hv
   .exact k3 _ v hv oq
   .exact h3 j v hv hj
 .simp only[Z0R]at hk;rw[Z2C ho]at hk;have hes:e.length=s:=by
   split at hk
   .exact h1 e (N hk)
   .split at hk
    .exact k1 e (N hk)
    .exact h1 e (N hk)
  have hqs:q<s:=by rw[<- hes];exact(Lb.1 hq).1
  split at hk
  .rename_i hlt;obtain⟨v,a1,a2⟩:=h4 k e q x hk hq;have:(k+1)*s<=o*s:=Lc s hlt;rw[La]at this;exact⟨v,by rw[hget,if_pos oq];exact a1,a2⟩
  .rename_i hge;split at hk
   .rename_i hlt;obtain⟨v,a1,a2⟩:=k4 (k-o) e q x hk hq;have e1:k*s=o*s+(k-o)*s:=by rw[<- La];congr 1;omega
    have:(k-o+1)*s<=xs.length*s:=Lc s oq;rw[La]at this;exact⟨v,by rw[hget,if_neg oq,if_pos oq,show k*s+q-o*s=(k-o)*s+q from by omega];exact a1,a2⟩
   .rename_i hge2;obtain⟨v,a1,a2⟩:=h4 k e q x hk hq;have:(o+xs.length)*s<=k*s:=Lc s oq;rw[La]at this;exact⟨v,by rw[hget,if_neg oq,if_neg oq];exact a1,a2⟩
def Zex{ρ:Rho}{w:World}{Im:Nat->Prop}{β:Bi}{ty s:Nat}{els:List (List DV)}{g:Nat}{cs:Array Value}(h:RelB ρ w Im β (.arr ty s els))(hg:β.g=U g)(hw:w.heap[g]? = U (.cells cs ty (0,0))):RelE w Im s els cs:=by
 obtain⟨g1,g2,_,g3,g4⟩:=h;rcases g4 with⟨g4,_⟩ | ⟨g',cs',hg',hw',hsz,hcell⟩
 .rw[hg]at g4;cases g4
 .rw[hg]at hg';cases hg';rw[hw]at hw';cases hw';refine⟨g3,hsz,λi v hv hi=>?_,hcell⟩;have hs0:0<s:=by
   rcases L6 s with h | h
   .subst h;simp at hi
   .exact h
  have h1:i/s<els.length:=by rw[Xq hs0];exact hi
  have h3:(els[i/s]).length=s:=g3 _ (XQ h1);have h4:i%s<(els[i/s]).length:=by rw[h3];exact Xs _ hs0
  obtain⟨u,k1,k2⟩:=hcell (i/s) _ (i%s) _ (Lj h1) (Lj h4);rw[show i/s*s+i%s=i from by rw[Xt];exact Xp i s,hv]at k1;cases k1;exact k2.one
def Zcm(P:Program)(t:Nat)(hs:List Hint)(x y:AV)(H:Heap):Option Res :=
 match Z1e P t with
 | none=>X
 | some e=>match szOf P e with
  | 0=>X
  | s+1=>match Z1p H y with
   | some (s',xs)=>if s'=s+1 then
    match x with
    | .ow b=>match H b with
     | some (.arr ty s2 els)=>if s2=s+1 then
      match hs with
      | .els l'::_=>U ⟨.d (.sc (.int .i64 xs.length)),U (b,.arr ty s2 l'),[xs.length<=els.length,Z0R els 0 xs=l']⟩
      | _=>U ⟨.d (.sc (.int .i64 xs.length)),U (b,.arr ty s2 (Z0R els 0 xs)),[xs.length<=els.length]⟩
      else X
     | _=>X
    | .os b o n=>match H b with
     | some (.arr ty s2 els)=>if s2=s+1 then
      match hs with
      | .els l'::_=>U ⟨.d (.sc (.int .i64 xs.length)),U (b,.arr ty s2 l'),[xs.length<=n,Z0R els o xs=l']⟩
      | _=>U ⟨.d (.sc (.int .i64 xs.length)),U (b,.arr ty s2 (Z0R els o xs)),[xs.length<=n]⟩
      else X
     | _=>X
    | _=>X
    else X
   | none=>X
def Zhv{P:Program}{o:Oper}{id:Nat}{E:Operand->AV}{H:Heap}{r:Res}{x y:Operand}{t t':Nat}{hs:List Hint}
  (ho:o.op = .call ⟨.builtin .copy,#[x,y],#[t,t']⟩) (h:Zcm P t hs (E x) (E y) H=U r):Z2v P o id E H r:=by
 intro Ow Im0 w0 ρ w Im clk a I hid hH hE hph;have hx:=hE x;have hy:=hE y;unfold Zcm at h;split at h
 .cases h
 rename_i e he;split at h
 .cases h
 rename_i s hsz;split at h;rotate_left
 .cases h
 rename_i s' xs hcont;split at h;rotate_left
 .cases h
 rename_i hs';subst hs';obtain⟨p,c,hvy,hbx,hcx,hlx,hcellx⟩:=Z25 I hy hcont;obtain⟨u,hu1,hu2,hu3⟩:=Z2G (P:=P) (p:=p) (n:=xs.length) (c:=c) oq hlx hcellx;unfold Z1e at he;split at he;rotate_left
 .cases he
 rename_i e' hut;cases he;have hsr:(sizeOf e).run P w = .ok (s+1) w:=Z4c hsz pq w;have fin:∀ (b oo n g c':Nat) (ty:Nat) (els:List (List DV)) (β:Bi),ρ b=U β->H b=U (.arr ty (s+1) els)->β.g=U g->a.eval x = .slice (U ⟨g,oo*(s+1),X⟩) n c'->xs.length<=n->oo+n<=els.length ->
   Goes P o a w λv w'=>Then Ow Im0 w0 ρ w Im clk (updH H b (.arr ty (s+1) (Z0R els oo xs))) (.d (.sc (.int .i64 xs.length))) v w':=by
  intro b oo n g c' ty els β hρ hb hg hvx hxn hon;obtain⟨β',h1,h2⟩:=I.blk b _ hb;rw[hρ]at h1;cases h1;have h2':=h2;obtain⟨g1,g2,g3,g4,g5⟩:=h2;rcases g5 with⟨g5,_⟩ | ⟨g',cs,hg',hw,hszc,hcell⟩
  .rw[hg]at g5;cases g5
  rw[hg]at hg';cases hg';have hE1:=Zex h2' hg hw;have hfit:oo*(s+1)+u.toList.length<=cs.toList.length:=by
   have:(oo+xs.length)*(s+1)<=els.length*(s+1):=Lc _ oq;rw[La]at this;simp[hu3];omega
  have hone:∀ v∈u.toList,v.oneCell'=Y:=by
   intro v hv;obtain⟨k,hk⟩:=LH hv;have hk':u[k]? = U v:=by simpa using hk
   exact hu2.2.2.1 k v hk' (by rw[<- hu3];exact(Xa.1 hk').1)
  have hst:=run_storeCells_at P g (oo*(s+1)) ty u.toList 0 cs w hw (by simpa using hfit) hone;simp only[Lx]at hst;obtain⟨bg,bs,bn⟩:=β;simp only at hg g1 g2;subst hg;subst g1;subst g2;have hlen:((cs.toList.take (oo*(s+1))++u.toList++cs.toList.drop (oo*(s+1)+u.toList.length)).toArray).size=cs.size:=by
   rw[Xo,Z1g hfit];simp
  have hget:∀ j,((cs.toList.take (oo*(s+1))++u.toList++cs.toList.drop (oo*(s+1)+u.toList.length)).toArray)[j]? = if j<oo*(s+1)then cs[j]? else if j<oo*(s+1)+u.size then u[j-oo*(s+1)]? else cs[j]? := by
   intro j;rw[Le,Z2C hfit];simp
  have hsp:=Z8A hE1 hu2 hu3 (show oo+xs.length<=els.length by omega) hlen hget;have hput:=I.put b g (s+1) els.length cs _ ty (.arr ty (s+1) (Z0R els oo xs)) hρ hw hlen ⟨_,hb,by simp⟩ (λhe=>by
   have hl:(Z0R els oo xs).length=els.length:=Z1g oq;refine⟨rfl,hl.symm,by rw[hl];exact g3,hsp.1,.inr ⟨g,_,rfl,setRow_heap w g cs _ ty _ hw,by rw[hlen,hl];exact hszc,λi e o y hi ho=>?_⟩⟩;obtain⟨v,k1,k2⟩:=hsp.2.2.2 i e o y hi ho;exact⟨v,k1,k2.mono he (λ_ h=>h)⟩)
  refine .inl ⟨.int .i64 xs.length,_, ?_,ρ,hput.1,hput.2,λ_ _ h=>h,.d (.sc _ rfl)⟩;have hmin:Xr xs.length n=xs.length:=Nat.min_eq_left hxn;have hcp:(LA #[t,t'] o.type #[.slice (U ⟨g,oo*(s+1),X⟩) n c',.slice p xs.length c]).run P w = .ok (goInt xs.length) (w.setRow g (cs.toList.take (oo*(s+1))++u.toList++cs.toList.drop (oo*(s+1)+u.toList.length)).toArray):=by
   unfold LA;simp only[Le,Ln,Lo,S,run_underlying hut,M,LP,O,hsr,hmin,hu1,hst]
  simp[execOp,ho,resolve,hvx,hvy,invoke,builtin,hcp,goInt]
 split at h
 .rename_i b hE1;rw[hE1]at hx;split at h;rotate_left
  .cases h
  rename_i ty s2 els hb;split at h;rotate_left
  .cases h
  rename_i hs2;subst hs2;generalize hvx:a.eval x=v at hx;cases hx with
  | ow hρ hc hbg ha =>
   rename_i c' ad β;obtain⟨β',h1,h2⟩:=I.blk b _ hb;rw[hρ]at h1;cases h1;have h2':=h2;obtain⟨g1,g2,_,_,_⟩:=h2;have base:xs.length<=els.length->Goes P o a w λv w'=>Then Ow Im0 w0 ρ w Im clk (updH H b (.arr ty (s+1) (Z0R els 0 xs))) (.d (.sc (.int .i64 xs.length))) v w':=by
    intro hle;by_cases hx0:xs=[]
    .-- nothing is copied
     subst hx0;have hsame:Z0R els 0 []=els:=by simp[Z0R]
     have hupd:updH H b (.arr ty (s+1) els)=H:=by funext k;unfold updH;split<;>simp_all
     rw[hsame,hupd];have hu0:u = #[]:=by apply LM;simpa using hu3
     refine .inl ⟨.int .i64 0,w, ?_,.same I (.d (.sc _ rfl))⟩;have hcp:(LA #[t,t'] o.type #[.slice ad β.n c',.slice p 0 c]).run P w = .ok (goInt 0) w:=by
      unfold LA;simp only[L3]at hu1;have hmin:Xr 0 β.n=0:=XZ _;simp only[Le,Ln,Lo,S,run_underlying hut,M,LP,O,hsr,hmin,hu1,hu0];cases ad<;>simp[storeCells]
     have hvy':a.eval y = .slice p 0 c:=by simpa using hvy
     simp[execOp,ho,resolve,hvx,hvy',invoke,builtin,hcp,goInt]
    .have hpos:0<xs.length:=LI.2 hx0;rcases ha with ha | ⟨g,hg,rfl,hrow⟩
     .omega
     .exact fin b 0 β.n g c' ty els β hρ hb hg (by simpa using hvx) oq oq
   split at h
   .rename_i l' _;cases h;obtain⟨p1,p2⟩:xs.length<=els.length/\Z0R els 0 xs=l':=by simpa[allP]using hph
    rw[<- p2];exact base p1
   .cases h;exact base (by simpa[allP]using hph)
 .rename_i b oo n hE1;rw[hE1]at hx;split at h;rotate_left
  .cases h
  rename_i ty s2 els hb;split at h;rotate_left
  .cases h
  rename_i hs2;subst hs2;generalize hvx:a.eval x=v at hx;cases hx with
  | os hρ hn hc hbg ha =>
   rename_i c' ad β;obtain⟨β',h1,h2⟩:=I.blk b _ hb;rw[hρ]at h1;cases h1;have h2':=h2;obtain⟨g1,g2,_,_,_⟩:=h2;have base:xs.length<=n->Goes P o a w λv w'=>Then Ow Im0 w0 ρ w Im clk (updH H b (.arr ty (s+1) (Z0R els oo xs))) (.d (.sc (.int .i64 xs.length))) v w':=by
    intro hle;by_cases hx0:xs=[]
    .subst hx0;have hsame:Z0R els oo []=els:=by simp[Z0R]
     have hupd:updH H b (.arr ty (s+1) els)=H:=by funext k;unfold updH;split<;>simp_all
     rw[hsame,hupd];have hu0:u = #[]:=by apply LM;simpa using hu3
     refine .inl ⟨.int .i64 0,w, ?_,.same I (.d (.sc _ rfl))⟩;have hcp:(LA #[t,t'] o.type #[.slice ad n c',.slice p 0 c]).run P w = .ok (goInt 0) w:=by
      unfold LA;simp only[L3]at hu1;have hmin:Xr 0 n=0:=XZ _;simp only[Le,Ln,Lo,S,run_underlying hut,M,LP,O,hsr,hmin,hu1,hu0];cases ad<;>simp[storeCells]
     have hvy':a.eval y = .slice p 0 c:=by simpa using hvy
     simp[execOp,ho,resolve,hvx,hvy',invoke,builtin,hcp,goInt]
    .have hpos:0<xs.length:=LI.2 hx0;rcases ha with ha | ⟨g,hg,rfl,hrow⟩
     .omega
     .exact fin b oo n g c' ty els β hρ hb hg (by rw[<- g1];exact hvx) hle oq
   split at h
   .rename_i l' _;cases h;obtain⟨p1,p2⟩:xs.length<=n/\Z0R els oo xs=l':=by simpa[allP]using hph
    rw[<- p2];exact base p1
   .cases h;exact base (by simpa[allP]using hph)
 .cases h
def Sys(Ow:Own)(Im0:Nat->Prop)(w0:World)(tmps:List AV)(H:Heap)(clk:Nat)(a:Act)(w:World):Prop :=
 ∃ ρ Im,Inv Ow Im0 w0 ρ w Im H clk/\RelT Ow.ds ρ w Im tmps a
def Z6P(f:AV->AV):AV->AV
 | .pt b i o=>f (.pt b i o)
 | .os b o n=>f (.os b o n)
 | .ow b=>f (.ow b)
 | .d x=>.d x
 | .rp e o=>.rp e o
 | _=>.any
def mapA(f:AV->AV):AV->AV
 | .ag l=>.ag (l.map (Z6P f))
 | .fn g caps=>.fn g (caps.map (Z6P f))
 | .fm g a=>.fm g (Z6P f a)
 | .ic t (.ag l)=>.ic t (.ag (l.map (Z6P f)))
 | .ic t a=>.ic t (Z6P f a)
 | a=>Z6P f a
section
variable {ρ ρ':Rho} {w:World} {Im Im':Nat->Prop} {f:AV->AV}
theorem ZiO(hi:∀ g,Im g->Im' g)(hpt:∀ b i o v,Rel ρ w Im (.pt b i o) v->Rel ρ' w Im' (f (.pt b i o)) v)(hos:∀ b o n v,Rel ρ w Im (.os b o n) v->Rel ρ' w Im' (f (.os b o n)) v)
  (how:∀ b v,Rel ρ w Im (.ow b) v->Rel ρ' w Im' (f (.ow b)) v) {a:AV} {v:Value} (h:Rel ρ w Im a v):Rel ρ' w Im' (Z6P f a) v:=by
 cases a with
 | pt b i o=>exact hpt _ _ _ _ h
 | os b o n=>exact hos _ _ _ _ h
 | ow b=>exact how _ _ h
 | d x=>cases h with | d h=>exact .d (h.mono (Ext.refl _ _) hi)
 | rp e o=>cases h with | rp h1 h2 h3=>exact .rp h1 (hi _ h2) (λj x hx=>let ⟨v,k1,k2⟩:=h3 j x hx;⟨v,k1,k2.mono (Ext.refl _ _) hi⟩)
 | _=>exact .any _
theorem Z6J(hi:∀ g,Im g->Im' g)(hpt:∀ b i o v,Rel ρ w Im (.pt b i o) v->Rel ρ' w Im' (f (.pt b i o)) v)(hos:∀ b o n v,Rel ρ w Im (.os b o n) v->Rel ρ' w Im' (f (.os b o n)) v)
  (how:∀ b v,Rel ρ w Im (.ow b) v->Rel ρ' w Im' (f (.ow b)) v) {a:AV} {v:Value} (h:Rel ρ w Im a v):Rel ρ' w Im' (mapA f a) v:=by
 have leaf:∀ {a:AV} {v:Value},Rel ρ w Im a v->Rel ρ' w Im' (Z6P f a) v:=λh=>ZiO hi hpt hos how h;have agg:∀ {l:List AV} {v:Value},Rel ρ w Im (.ag l) v->Rel ρ' w Im' (.ag (l.map (Z6P f))) v:=λh=>by
  obtain⟨cs,rfl,h1,h2,h3⟩:=Z3D h;refine .ag _ cs (by simpa using h1) h2 λi x v hx hv=>?_;simp only[Lk,L]at hx;obtain⟨y,hy,rfl⟩:=hx;exact leaf (h3 i y v hy hv)
 cases a with
 | ag l=>exact agg h
 | fn g caps =>
  cases h with
  | fn h1 h3 =>
   refine .fn (by simpa using h1) λi x v hx hv=>?_;simp only[Lk,L]at hx;obtain⟨y,hy,rfl⟩:=hx;exact leaf (h3 i y v hy hv)
 | fm=>cases h with | fm h=>exact .fm (leaf h)
 | ic t a =>
  cases h with
  | ic h =>
   cases a with
   | ag l=>exact .ic (agg h)
   | _=>exact .ic (leaf h)
 | pt b i o=>exact leaf h
 | os b o n=>exact leaf h
 | ow b=>exact leaf h
 | d x=>exact leaf h
 | rp e o=>exact leaf h
 | tu l=>exact .any _
 | gd g a=>exact .any _
 | any=>exact .any _
end
section
variable {Ow:Own} {Im0:Nat->Prop} {w0:World} {ρ:Rho} {w:World} {Im:Nat->Prop} {H:Heap} {clk:Nat}
theorem Inv.kill(I:Inv Ow Im0 w0 ρ w Im H clk){b:Nat}{B:Blk}(hb:H b=U B):Inv Ow Im0 w0 ρ w Im (updH H b .dead) clk:=by
 have hl:∀ k,live (updH H b .dead) k->k≠b/\live H k:=by
  intro k h;have hk:k≠b:=by
   rintro rfl;obtain⟨B',h1,h2⟩:=h;simp only[updH,if_true,LW]at h1;exact h2 h1.symm
  exact⟨hk,Z1z h hk⟩
 refine⟨I.kept,λk k' β β' g l1 l2=>I.inj k k' β β' g (hl k l1).2 (hl k' l2).2,λk β g l=>I.notIm k β g (hl k l).2,I.bnd,I.own,I.imb,I.im0,λk B' h=>?_,λk hk h=>?_,I.one⟩
 .unfold updH at h;split at h
  .rename_i e;cases h;obtain⟨β,h1,_⟩:=I.blk b B hb;exact⟨β,by rw[e];exact h1,trivial⟩
  .exact I.blk k B' h
 .unfold updH at h;split at h
  .cases h
  .exact I.fresh k hk h
theorem Inv.take(I:Inv Ow Im0 w0 ρ w Im H clk)(id:Nat)(hid:clk*8000<=id)(hH:H id=X)(g s n:Nat)(cs cs':Array Value)(ty:Nat)(B:Blk)
  (hfree:∀ k κ,live H k->ρ k=U κ->κ.g≠U g) (him:¬ Im g) (hown:w0.heap.size<=g\/OwA Ow g)
  (hg:w.heap[g]? = U (.cells cs ty (0,0))) (hs:cs'.size=cs.size)
  (hB:Ext Im w (w.setRow g cs')->RelB (updR ρ id ⟨U g,s,n⟩) (w.setRow g cs') Im ⟨U g,s,n⟩ B) :
  Inv Ow Im0 w0 (updR ρ id ⟨U g,s,n⟩) (w.setRow g cs') Im (updH H id B) clk/\Ext Im w (w.setRow g cs'):=by
 have hsz:(w.setRow g cs').heap.size=w.heap.size:=by simp[World.setRow]
 have hgl:g<w.heap.size:=by
  rcases XW g w.heap.size with h | h
  .exact h
  .rw[Array.getElem?_eq_none h]at hg;cases hg
 have he:Ext Im w (w.setRow g cs'):=⟨by omega,λk hk=>setRow_other w g k cs' (λe=>him (e▸hk)),λk _=>Z2b w g cs cs' ty hg hs k⟩
 have hn:=I.fresh id hid hH;refine⟨⟨?_, ?_, ?_, ?_, ?_,λg h=>by rw[hsz];exact I.imb g h,I.im0, ?_, ?_,Z8X I.one hid⟩,he⟩
 .have k:=I.kept;refine⟨k.os,k.tape,k.output,by rw[hsz];exact k.size,λi hi ho=>?_,λi hi=>?_⟩
  .have:i≠g:=by
    rintro rfl;rcases hown with h | h
    .omega
    .exact ho h
   rw[setRow_other w g i cs' this];exact k.block i hi ho
  .rw[Z2b w g cs cs' ty hg hs];exact k.rows i hi
 .intro b b' β β' g' l1 l2 h1 h2 h3 h4;unfold updR at h1 h2;split at h1<;>split at h2
  .omega
  .cases h1;cases h3;exact absurd h4 (hfree b' β' (Z1z l2 aa) h2)
  .cases h2;cases h4;exact absurd h3 (hfree b β (Z1z l1 aa) h1)
  .exact I.inj b b' β β' g' (Z1z l1 aa) (Z1z l2 aa) h1 h2 h3 h4
 .intro b β g' l h h';unfold updR at h;split at h
  .cases h;cases h';exact him
  .exact I.notIm b β g' (Z1z l aa) h h'
 .intro b β g' h h';rw[hsz];unfold updR at h;split at h
  .cases h;cases h';exact hgl
  .exact I.bnd b β g' h h'
 .intro b β g' h h';unfold updR at h;split at h
  .rename_i hbi;cases h;cases h';have:=I.one;exact hown.imp (λh=>⟨h,by omega⟩) (λh=>h)
  .exact I.own b β g' h h'
 .intro b B' h;unfold updH at h;split at h
  .cases h;rename_i hb;exact⟨_,by rw[hb];exact Z2g _ _ _,hB he⟩
  .obtain⟨β,h1,h2⟩:=I.blk b B' h;cases B' with
   | dead=>exact⟨β,Z1X hn _ _ h1,trivial⟩
   | _ =>
    refine⟨β,Z1X hn _ _ h1,h2.mono he (λ_ h=>h) (Z1X hn) I.bnd (λg' hg'=>setRow_other w g g' cs' ?_)⟩;rintro rfl;exact hfree b β ⟨_,h,by simp⟩ h1 hg'
 .intro b hb h;unfold updH at h;unfold updR;split
  .rename_i hbi;simp[hbi]at h
  .rename_i hbi;simp only[hbi,if_false]at h;exact I.fresh b hb h
end
def Zdl(n:Nat):∀ (r c:Nat),Xd n r c<=max c (n+(n+768)/4)
 | 0,c=>by simp only[Xd];omega
 | r+1,c=>by
  simp only[Xd];split
  .omega
  .have:=Zdl n r (c+(c+768)/4);omega
def nextslicecap_le(n c:Nat)(h:c<n):LQ n c<=2*n+192:=by
 unfold LQ;split
 .omega
 .split
  .omega
  .have:=Zdl n 4 c;omega
def Z8j(P:Program)(e:Nat):Bool:=match Z65 P e with | U zs=>zs.length==szOf P e | X=>Z
def Znl(P:Program)(t:Nat):Bool:=match P.underlying t with | U (.int _)=>Y | _=>Z
def Z3V(P:Program)(t t' id:Nat)(hs:List Hint)(x y:AV)(H:Heap):Option (Nat×Res) :=
 match x with
 | .ow b=>match H b with
  | some (.arr ty s els)=>match Z1e P t,Z1e P t' with
   | some e,some _=>match Z1p H y with
    | some (s',xs)=>if szOf P e=s/\s≠0/\(s'=s\/xs.length=0)/\e=ty/\bytesOf P e<=65536/\bytesOf P e≠0/\Z8j P e=Y/\Lt 8000 b=Y then
     match hs with
     | .els l'::_=>U (b,⟨.ow id,U (id,.arr ty s l'),[els.length+xs.length<=2^30,els++xs=l']⟩)
     | _=>U (b,⟨.ow id,U (id,.arr ty s (els++xs)),[els.length+xs.length<=2^30]⟩)
     else X
    | none=>X
   | _,_=>X
  | _=>X
 | _=>X
def Z5Q(P:Program)(t t' id:Nat)(hs:List Hint)(x:AV)(n:Int)(H:Heap):Option (Nat×Res) :=
 match x with
 | .ow b=>match H b with
  | some (.arr ty s els)=>match Z1e P t,Znl P t' with
   | some e,true=>match Z65 P e with
    | some zs=>if szOf P e=s/\s≠0/\e=ty/\bytesOf P e<=65536/\bytesOf P e≠0/\Z8j P e=Y/\Lt 8000 b=Y then
     match hs with
     | .els l'::_=>U (b,⟨.ow id,U (id,.arr ty s l'),[0<=n/\els.length+n<=2^30,els++W n.toNat zs=l']⟩)
     | _=>U (b,⟨.ow id,U (id,.arr ty s (els++W n.toNat zs)),[0<=n/\els.length+n<=2^30]⟩)
     else X
    | none=>X
   | _,_=>X
  | _=>X
 | _=>X
def Z4y(P:Program)(t t' id:Nat)(hs:List Hint)(x y:AV)(H:Heap):Option (Nat×Res) :=
 match y with
 | .d (.sc (.int _ n))=>Z5Q P t t' id hs x n H
 | _=>Z3V P t t' id hs x y H
def Z8O{w:World}{Im:Nat->Prop}{s:Nat}{els xs:List (List DV)}{cs:Array Value}{a b:Array Value}(h:RelE w Im s els a)(hx:RelE w Im s xs b)
  (hcs:(els.length+xs.length)*s<=cs.size) (h1:∀ j,j<els.length*s->cs[j]? = a[j]?) (h2:∀ j,j<xs.length*s->cs[els.length*s+j]? = b[j]?):RelE w Im s (els++xs) cs:=by
 obtain⟨a1,a2,a3,a4⟩:=h;obtain⟨b1,b2,b3,b4⟩:=hx;refine⟨λe he=>?_,by rw[Lq];exact hcs,λj v hv hj=>?_,λi e o x hi ho=>?_⟩
 .rcases F.1 he with h | h
  .exact a1 e h
  .exact b1 e h
 .rw[Lq,La]at hj;by_cases hlt:j<els.length*s
  .rw[h1 j hlt]at hv;exact a3 j v hv hlt
  .have:=h2 (j-els.length*s) oq;rw[show els.length*s+(j-els.length*s)=j from by omega,hv]at this;exact b3 _ v this.symm oq
 .have hes:e.length=s:=by
   rcases F.1 (N hi)with h | h
   .exact a1 e h
   .exact b1 e h
  have hos:o<s:=by rw[<- hes];exact(Lb.1 ho).1
  rw[LG]at hi;split at hi
  .rename_i hlt;obtain⟨v,k1,k2⟩:=a4 i e o x hi ho;have:(i+1)*s<=els.length*s:=Lc s hlt;rw[La]at this;exact⟨v,by rw[h1 _ oq];exact k1,k2⟩
  .rename_i hge;obtain⟨v,k1,k2⟩:=b4 (i-els.length) e o x hi ho;have hlt:=(Lb.1 hi).1;have:(i-els.length+1)*s<=xs.length*s:=Lc s hlt;rw[La]at this;have e1:i*s=els.length*s+(i-els.length)*s:=by rw[<- La];congr 1;omega
   exact⟨v,by rw[e1,LJ,h2 _ oq];exact k1,k2⟩
def Zcn{Ow:Own}{Im0:Nat->Prop}{w0:World}{ρ:Rho}{w:World}{Im:Nat->Prop}{H:Heap}{clk:Nat}{x:AV}{v:Value}{s:Nat}{els:List (List DV)}
  (I:Inv Ow Im0 w0 ρ w Im H clk) (hx:Rel ρ w Im x v) {s':Nat} (h:Z1p H x=U (s',els)) (hs:s'=s\/els.length=0):∃ p c,v = .slice p els.length c/\els.length<=big/\els.length<=c/\(els≠[]->∀ e∈els,e.length=s)/\(els=[]\/∃ q,p=U q/\q.spot=X /\
   ∀ (i:Nat) (e:List DV) (o:Nat) (y:DV),els[i]? = U e->e[o]? = U y->∃ u,w.cell? ⟨q.block,q.off+(i*s+o),X⟩=U u/\RelD w Im y u):=by
 rcases hs with rfl | hs
 .exact Z25 I hx h
 .obtain⟨p,c,h1,h2,h3,_⟩:=Z25 I hx h;have e:=List.eq_nil_of_length_eq_zero hs;exact⟨p,c,h1,h2,h3,λq=>absurd e q,.inl e⟩
def Z9K{P:Program}{o:Oper}{id t t':Nat}{x y:Operand}{H:Heap}{b' e s:Nat}{els xs:List (List DV)}{u u':Array Value}{vy z:Value}{nb:Nat}{Ow:Own}{Im0:Nat->Prop}{w0:World}{ρ:Rho}{w:World}{Im:Nat->Prop}{clk:Nat}{a:Act}{tmps:List AV}
  (ho:o.op = .call ⟨.builtin .append,#[x,y],#[t,t']⟩) (hvy:a.eval y=vy) (I:Inv Ow Im0 w0 ρ w Im H clk) (T:RelT Ow.ds ρ w Im tmps a)
  (hid:clk*8000<=id) (hH:H id=X) (hx:Rel ρ w Im (.ow b') (a.eval x)) (hb:H b'=U (.arr e s els)) (hs1:0<s) (hib:nb<=65536) (hb8:8000<=b') (hbig:els.length+xs.length<=2^30)
  (hu2:RelE w Im s xs u) (hu3:u.size=xs.length*s) (n2:RelE w.drew Im s xs u') (n3:u'.size=xs.length*s) (hzlen:z.cells.size=s)
  (A:∀ (ad:Option Addr) (c:Nat) (w':World),els.length+xs.length<=c->(match ad with | U q=>storeCells (q.add (els.length*s)) u.toList | X=>pure ():Sem Unit).run P w = .ok () w' ->
   (Lz #[t,t'] o.type #[.slice ad els.length c,vy]).run P w = .ok (.slice ad (els.length+xs.length) c) w')
  (B:∀ (ad:Option Addr) (c:Nat) (ux':Array Value) (newCap:Nat),¬ els.length+xs.length<=c->(L8 (els.length+xs.length) c e).cut (w.tape w.drawn (.appendCap (els.length+xs.length) c e))=newCap ->
   ¬ (LQ (els.length+xs.length) c*nb > 2^48)->(LO s els.length (.slice ad els.length c)).run P w.drew = .ok ux' w.drew ->
   (Lz #[t,t'] o.type #[.slice ad els.length c,vy]).run P w = .ok (.slice (U ⟨w.drew.heap.size,0,X⟩) (els.length+xs.length) newCap) (w.drew.alloc (.cells (ux'++u'++Li z.cells (newCap-(els.length+xs.length))) e))) :
  ∃ v w' ρ',(execOp a.eval o).run P w = .ok (.value v) w'/\Inv Ow Im0 w0 ρ' w' Im (updH (updH H b' .dead) id (.arr e s (els++xs))) clk/\RelT Ow.ds ρ' w' Im tmps a/\Rel ρ' w' Im (.ow id) v:=by
 have hcontx:Z1p H (.ow b')=U (s,els):=by simp[Z1p,hb]
 obtain⟨px,cx,hvx0,_,_,hlxx,hcellxx⟩:=Z25 I hx hcontx;obtain⟨ux,hux1,hux2,hux3⟩:=Z2G (P:=P) (p:=px) (n:=els.length) (c:=cx) hs1 hlxx hcellxx;generalize hvx:a.eval x=v at hx;cases hx with
 | ow hρ hc hbg ha =>
  rename_i c ad β;obtain⟨β',h1,h2⟩:=I.blk b' _ hb;rw[hρ]at h1;cases h1;have h2':=h2;obtain⟨g1,g2,g3,g4,g5⟩:=h2;rw[hvx]at hvx0;obtain⟨rfl,_,rfl⟩:ad=px/\β.n=els.length/\c=cx:=by injection hvx0 with q1 q2 q3;exact⟨q1,q2,q3⟩
  have ID:=I.kill hb;have TD:=T;have hidb:id≠b':=by rintro rfl;rw[hb]at hH;cases hH
  have hHd:updH H b' .dead id=X:=by unfold updH;rw[if_neg hidb];exact hH
  have hdead:∀ k κ g,live (updH H b' .dead) k->ρ k=U κ->β.g=U g->κ.g≠U g:=by
   intro k κ g hl hk hg hkg;have hkb:k≠b':=by
    rintro rfl;obtain⟨B',q1,q2⟩:=hl;simp only[updH,if_true,LW]at q1;exact q2 q1.symm
   exact hkb (I.inj k b' κ β g (Z1z hl hkb) ⟨_,hb,by simp⟩ hk hρ hkg hg)
  by_cases hfit:els.length+xs.length<=c
  .-- there is room
   have run0:∀ w',(match ad with | U q=>storeCells (q.add (els.length*s)) u.toList | X=>pure ():Sem Unit).run P w = .ok () w' ->
     (execOp a.eval o).run P w = .ok (.value (.slice ad (els.length+xs.length) c)) w':=by
    intro w' hw';have:=A ad c w' hfit hw';simp[execOp,ho,resolve,hvx,hvy,invoke,builtin,g2,this]
   rcases g5 with⟨g5,rfl⟩ | ⟨g,cs,hg,hw,hszc,hcell⟩
   .-- no memory yet,nothing comes
    rcases ha with ha | ⟨g',hg',_⟩
    rotate_left
    .rw[g5]at hg';cases hg'
    subst ha;have hxs:xs=[]:=by cases xs with | nil=>rfl | cons _ _=>simp at hfit
    subst hxs;have hu0:u = #[]:=by apply LM;simpa using hu3
    have hrun:=run0 w (by cases ad<;>simp[hu0,storeCells]);have hn:=ID.fresh id hid hHd;have hsub:=Z1X (β:=⟨X,s,0⟩) hn;refine⟨_,w,updR ρ id ⟨X,s,0⟩,hrun, ?_,TD.mono (Ext.refl _ _) (λ_ h=>h) hsub ID.bnd, ?_⟩
    .refine⟨ID.kept, ?_, ?_, ?_, ?_,ID.imb,ID.im0, ?_, ?_,Z8X ID.one hid⟩
     .intro k k' κ κ' g l1 l2 h1 h2 h3 h4;unfold updR at h1 h2;split at h1<;>split at h2
      .omega
      .cases h1;cases h3
      .cases h2;cases h4
      .exact ID.inj k k' κ κ' g (Z1z l1 aa) (Z1z l2 aa) h1 h2 h3 h4
     .intro k κ g l h h';unfold updR at h;split at h
      .cases h;cases h'
      .exact ID.notIm k κ g (Z1z l aa) h h'
     .intro k κ g h h';unfold updR at h;split at h
      .cases h;cases h'
      .exact ID.bnd k κ g h h'
     .intro k κ g h h';unfold updR at h;split at h
      .cases h;cases h'
      .exact ID.own k κ g h h'
     .intro k B h;unfold updH at h;split at h
      .cases h;rename_i hk;exact⟨_,by rw[hk];exact Z2g _ _ _,rfl,rfl,by simp[big],by simp,.inl ⟨rfl,rfl⟩⟩
      .obtain⟨κ,h1,h2⟩:=ID.blk k B h;exact⟨κ,hsub _ _ h1,h2.mono (Ext.refl _ _) (λ_ h=>h) hsub ID.bnd (λ_ _=>rfl)⟩
     .intro k hk h;unfold updH at h;unfold updR;split
      .rename_i hbi;simp[hbi]at h
      .rename_i hbi;simp only[hbi,if_false]at h;exact ID.fresh k hk h
    .have:=Rel.ow (ρ:=updR ρ id ⟨X,s,0⟩) (w:=w) (Im:=Im) (c:=0) (a:=ad) (Z2g ρ id ⟨X,s,0⟩) (Lu _) (by simp[big]) (.inl rfl);simpa using this
   .-- the row's own spare cells
    have hnew:w0.heap.size<=g\/OwA Ow g:=(I.own b' β g hρ hg).imp (·.1) (λh=>h);by_cases hc0:c=0
    .-- no cell: nothing comes
     subst hc0;have hl0:els=[]:=by cases els with | nil=>rfl | cons _ _=>simp at hfit
     have hxs:xs=[]:=by cases xs with | nil=>rfl | cons _ _=>simp at hfit
     subst hl0;subst hxs;have hu0:u = #[]:=by apply LM;simpa using hu3
     have hrun:=run0 w (by cases ad<;>simp[hu0,storeCells]);have hset:w.setRow g cs=w:=setRow_self w g cs e (0,0) hw;have htake:=ID.take id hid hHd g s 0 cs cs e (.arr e s ([]++[])) (λk κ hl hk=>hdead k κ g hl hk hg) (I.notIm b' β g ⟨_,hb,by simp⟩ hρ hg) hnew hw rfl (λhe=>by
      rw[hset];exact⟨rfl,rfl,by simp[big],by simp,.inr ⟨g,cs,rfl,hw,by simp,by simp⟩⟩)
     rw[hset]at htake;have hsub:=Z1X (β:=⟨U g,s,0⟩) (ID.fresh id hid hHd);refine⟨_,w,_,hrun,htake.1,TD.mono (Ext.refl _ _) (λ_ h=>h) hsub ID.bnd, ?_⟩;have:=Rel.ow (ρ:=updR ρ id ⟨U g,s,0⟩) (w:=w) (Im:=Im) (c:=0) (a:=ad) (Z2g ρ id ⟨U g,s,0⟩) (Lu _) (by simp[big]) (.inl rfl);simpa using this
    .rcases ha with ha | ⟨g',hg',rfl,hrow⟩
     .omega
     rw[hg]at hg';cases hg';have hcs:c*s<=cs.size:=by
      have:rows w g=cs.size:=by unfold Sx.rows;rw[hw]
      rw[this,g1]at hrow;exact hrow
     have hE1':=Zex h2' hg hw;have hroom:(els.length+xs.length)*s<=cs.size:=Lv (Lc s hfit) hcs;have hfitl:els.length*s+u.toList.length<=cs.toList.length:=by
      rw[La]at hroom;simp[hu3];omega
     have hone:∀ v∈u.toList,v.oneCell'=Y:=by
      intro v hv;obtain⟨k,hk⟩:=LH hv;have hk':u[k]? = U v:=by simpa using hk
      exact hu2.2.2.1 k v hk' (by rw[<- hu3];exact(Xa.1 hk').1)
     have hst:=run_storeCells_at P g (els.length*s) e u.toList 0 cs w hw (by simpa using hfitl) hone;simp only[Lx]at hst;have hrun:=run0 _ (by simp only[Lr,L7];exact hst);have hlen:((cs.toList.take (els.length*s)++u.toList++cs.toList.drop (els.length*s+u.toList.length)).toArray).size=cs.size:=by
      rw[Xo,Z1g hfitl];simp
     have hget:∀ j,((cs.toList.take (els.length*s)++u.toList++cs.toList.drop (els.length*s+u.toList.length)).toArray)[j]? = if j<els.length*s then cs[j]? else if j<els.length*s+u.size then u[j-els.length*s]? else cs[j]? := by
      intro j;rw[Le,Z2C hfitl];simp
     have hrel:=Z8O hE1' hu2 (cs:=(cs.toList.take (els.length*s)++u.toList++cs.toList.drop (els.length*s+u.toList.length)).toArray) (by rw[hlen];exact hroom)
      (λj hj=>by rw[hget,if_pos hj]) (λj hj=>by rw[hget,if_neg oq,if_pos oq,show els.length*s+j-els.length*s=j from by omega])
     have hlb:(els++xs).length<=big:=by rw[Lq];simp[big];omega
     have htake:=ID.take id hid hHd g s (els++xs).length cs _ e (.arr e s (els++xs)) (λk κ hl hk=>hdead k κ g hl hk hg) (I.notIm b' β g ⟨_,hb,by simp⟩ hρ hg) hnew hw hlen (λhe=>by
      refine⟨rfl,rfl,hlb,hrel.1,.inr ⟨g,_,rfl,setRow_heap w g cs _ e _ hw,hrel.2.1,λi e o y hi ho=>?_⟩⟩;obtain⟨v,k1,k2⟩:=hrel.2.2.2 i e o y hi ho;exact⟨v,k1,k2.mono he (λ_ h=>h)⟩)
     have hsub:=Z1X (β:=⟨U g,s,(els++xs).length⟩) (ID.fresh id hid hHd);refine⟨_,_,_,hrun,htake.1,TD.mono htake.2 (λ_ h=>h) hsub ID.bnd, ?_⟩;have:=Rel.ow (ρ:=updR ρ id ⟨U g,s,(els++xs).length⟩) (w:=w.setRow g (cs.toList.take (els.length*s)++u.toList++cs.toList.drop (els.length*s+u.toList.length)).toArray) (Im:=Im) (c:=c) (a:=U ⟨g,0,X⟩) (Z2g ρ id ⟨U g,s,(els++xs).length⟩)
      (by rw[Lq];exact hfit) hlb (.inr ⟨g,rfl,rfl,by rw[Z2b w g cs _ e hw hlen];unfold Sx.rows;rw[hw];exact hcs⟩)
     simpa using this
  .-- a new row
   generalize hcap:(L8 (els.length+xs.length) c e).cut (w.tape w.drawn (.appendCap (els.length+xs.length) c e))=newCap;have hcapge:els.length+xs.length<=newCap:=by rw[<- hcap];exact Nat.le_add_right _ _
   have hnot:¬ els.length+xs.length<=c:=hfit;have hroom:¬ (LQ (els.length+xs.length) c*nb > 2^48):=by
    have h1:=nextslicecap_le (els.length+xs.length) c oq;have h2:LQ (els.length+xs.length) c*nb<=(2*(els.length+xs.length)+192)*65536:=Nat.mul_le_mul h1 hib;omega
   obtain⟨ux',m1,m2,m3⟩:=Z2G (P:=P) (w:=w.drew) (Im:=Im) (p:=ad) (n:=els.length) (c:=c) (s:=s) (els:=els) hs1 hlxx (hcellxx.imp (λh=>h) λ⟨q,k1,k2,k3⟩=>⟨q,k1,k2,λi e o y hi ho=>let ⟨u,m1,m2⟩:=k3 i e o y hi ho;⟨u,m1,m2.mono (Ext.draw Im w) (λ_ h=>h)⟩⟩);have hsize:(ux'++u'++Li z.cells (newCap-(els.length+xs.length))).size=newCap*s:=by
    simp only[Array.size_append,Li,LY,Array.size_range,m3,n3,hzlen,<- La];congr 1;omega
   have hrel:=Z8O m2 n2 (cs:=ux'++u'++Li z.cells (newCap-(els.length+xs.length))) (by rw[hsize];exact Lc s hcapge)
    (λj hj=>by rw[XB,XC oq])
    (λj hj=>by rw[XB,Array.getElem?_append_right oq,XC oq];congr 1;omega)
   have hlb:(els++xs).length<=big:=by rw[Lq];simp[big];omega
   obtain⟨ρ',q1,q2,q3,q4⟩:=Then.arr (ty:=e) (c:=newCap) ID.draw hid hHd hrel hlb (by rw[Lq];exact hcapge) (by rw[hsize];exact Lu _);refine⟨_,_,ρ', ?_,q1,(TD.mono (Ext.draw Im w) (λ_ h=>h) (λ_ _ h=>h) ID.bnd).mono q2 (λ_ h=>h) q3 ID.draw.bnd,q4⟩;have:=B ad c ux' newCap hnot hcap hroom m1;rw[Lq];simp[execOp,ho,resolve,hvx,hvy,invoke,builtin,g2,this]
def Zfl{P:Program}{o:Oper}{id t t':Nat}{x y:Operand}{hs:List Hint}{H:Heap}{E:Operand->AV}{b:Nat}{r:Res}{Ow:Own}{Im0:Nat->Prop}{w0:World}{ρ:Rho}{w:World}{Im:Nat->Prop}{clk:Nat}{a:Act}{tmps:List AV}
  (ho:o.op = .call ⟨.builtin .append,#[x,y],#[t,t']⟩) (h:Z3V P t t' id hs (E x) (E y) H=U (b,r)) (I:Inv Ow Im0 w0 ρ w Im H clk) (T:RelT Ow.ds ρ w Im tmps a)
  (hid:clk*8000<=id) (hH:H id=X) (hx:Rel ρ w Im (E x) (a.eval x)) (hy:Rel ρ w Im (E y) (a.eval y)) (hph:allP r.ph) :
  ∃ v w' ρ',(execOp a.eval o).run P w = .ok (.value v) w'/\Inv Ow Im0 w0 ρ' w' Im (r.heap (updH H b .dead)) clk/\RelT Ow.ds ρ' w' Im tmps a/\Rel ρ' w' Im r.val v:=by
 unfold Z3V at h;split at h;rotate_left
 .cases h
 rename_i b' hE1;split at h;rotate_left
 .cases h
 rename_i ty s els hb;split at h;rotate_left
 .cases h
 rename_i e e2 he he2;split at h;rotate_left
 .cases h
 rename_i s' xs hcont;split at h;rotate_left
 .cases h
 rename_i hc;obtain⟨hsz,hs0,hss,rfl,hby,hby0,hz,hb8⟩:=hc;have hb8:=LK hb8;have hs1:0<s:=XY hs0;have fin:els.length+xs.length<=2^30->b'=b->∃ v w' ρ',(execOp a.eval o).run P w = .ok (.value v) w'/\Inv Ow Im0 w0 ρ' w' Im (updH (updH H b .dead) id (.arr e s (els++xs))) clk/\RelT Ow.ds ρ' w' Im tmps a/\Rel ρ' w' Im (.ow id) v:=by
  rintro hbig rfl;rw[hE1]at hx;obtain⟨p,cy,hvy,hbx,hcx,hlx,hcellx⟩:=Zcn I hy hcont hss;obtain⟨u,hu1,hu2,hu3⟩:=Z2G (P:=P) (p:=p) (n:=xs.length) (c:=cy) hs1 hlx hcellx;have hut:P.underlying t=U (.slice e):=by
   unfold Z1e at he;split at he
   .cases he;assumption
   .cases he
  have hut':P.underlying t'=U (.slice e2):=by
   unfold Z1e at he2;split at he2
   .cases he2;assumption
   .cases he2
  have hsr:(sizeOf e).run P w = .ok s w:=Z4c hsz hs0 w;have hinfo:∃ i,P.info? e=U i/\i.bytes=bytesOf P e:=by
   unfold bytesOf at hby0 ⊢;cases hi:P.info? e with
   | none=>simp[hi]at hby0
   | some i=>exact⟨i,rfl,rfl⟩
  obtain⟨i,hi,hib⟩:=hinfo;unfold Z8j at hz;split at hz;rotate_left
  .cases hz
  rename_i zs hzs;have hzlen0:zs.length=s:=by rw[<- hsz];simpa using hz
  unfold Z65 at hzs;split at hzs;rotate_left
  .cases hzs
  rename_i z hzz;have hzr:∀ w,(zeroValue e).run P w = .ok z w:=λw=>Z5S (P:=P) hzz w;split at hzs;rotate_left
  .cases hzs
  rename_i l hl;have hzc:=(Z7p (λ_=>X) w Im z).cells hl;obtain⟨u',n1,n2,n3⟩:=Z2G (P:=P) (w:=w.drew) (Im:=Im) (p:=p) (n:=xs.length) (c:=cy) (s:=s) (els:=xs) hs1 hlx (hcellx.imp (λh=>h) λ⟨q,k1,k2,k3⟩=>⟨q,k1,k2,λi e o y hi ho=>let ⟨u,m1,m2⟩:=k3 i e o y hi ho;⟨u,m1,m2.mono (Ext.draw Im w) (λ_ h=>h)⟩⟩);have hzlen:z.cells.size=s:=by
   rw[hzc.1,Z3k hzs];simpa[dvs]using hzlen0
  refine Z9K (nb:=i.bytes) ho hvy I T hid hH hx hb hs1 (by rw[hib];exact hby) hb8 hbig hu2 hu3 n2 n3 hzlen (λad c w' hfit hw'=>?_) (λad c ux' newCap hnot hcap hroom m1=>?_)
  .unfold Lz;simp only[Le,Ln,Lo,S,run_underlying hut,run_underlying hut',M,LP,O,hsr,Lm,if_false,hfit,if_true,XF,hu1];cases ad with
   | none=>simp only[O]at hw' ⊢;cases hw';simp
   | some q=>simp only at hw' ⊢;simp[hw']
  .have hmax:¬ (((els.length+xs.length:Nat):Int) > LD.max/\(False\/i.bytes=0)):=by
    rintro⟨_,h | h⟩
    .exact h
    .rw[hib]at h;exact hby0 h
   have hti:∀ w,(typeInfo e).run P w = .ok i w:=λw=>by simp[typeInfo,hi]
   have hforced:(L8 (els.length+xs.length) c e).forced=Z:=rfl;unfold Lz;simp only[Le,Ln,Lo,S,run_underlying hut,run_underlying hut',M,LP,O,hsr,Lm,if_false,hnot,XF,if_true,hti];rw[if_neg hmax];simp only[O,Xx,hroom,if_false,run_choose,hforced,Lm,Xz,hcap,M,run_askRoom,m1,n1,hzr,S,newRow,run_newObj,Xy,hti]
 split at h
 .rename_i l' _;cases h;obtain⟨p1,p2⟩:=allP_cons.1 hph;have p2':els++xs=l':=by simpa[allP]using p2
  rw[Res.heap,<- p2'];exact fin p1 rfl
 .cases h;exact fin (by simpa[allP]using hph) rfl
def ZeT{P:Program}{o:Oper}{id t t':Nat}{x y:Operand}{hs:List Hint}{H:Heap}{E:Operand->AV}{b:Nat}{r:Res}{k:IntKind}{n:Int}{Ow:Own}{Im0:Nat->Prop}{w0:World}{ρ:Rho}{w:World}{Im:Nat->Prop}{clk:Nat}{a:Act}{tmps:List AV}
  (ho:o.op = .call ⟨.builtin .append,#[x,y],#[t,t']⟩) (h:Z5Q P t t' id hs (E x) n H=U (b,r)) (hEy:E y = .d (.sc (.int k n))) (I:Inv Ow Im0 w0 ρ w Im H clk) (T:RelT Ow.ds ρ w Im tmps a)
  (hid:clk*8000<=id) (hH:H id=X) (hx:Rel ρ w Im (E x) (a.eval x)) (hy:Rel ρ w Im (E y) (a.eval y)) (hph:allP r.ph) :
  ∃ v w' ρ',(execOp a.eval o).run P w = .ok (.value v) w'/\Inv Ow Im0 w0 ρ' w' Im (r.heap (updH H b .dead)) clk/\RelT Ow.ds ρ' w' Im tmps a/\Rel ρ' w' Im r.val v:=by
 unfold Z5Q at h;split at h;rotate_left
 .cases h
 rename_i b' hE1;split at h;rotate_left
 .cases h
 rename_i ty s els hb;split at h;rotate_left
 .cases h
 rename_i e he he2;split at h;rotate_left
 .cases h
 rename_i zs0 hzs0;split at h;rotate_left
 .cases h
 rename_i hc;obtain⟨hsz,hs0,rfl,hby,hby0,hz,hb8⟩:=hc;have hb8:=LK hb8;have hs1:0<s:=XY hs0;have fin:0<=n/\(els.length:Int)+n<=2^30->b'=b->∃ v w' ρ',(execOp a.eval o).run P w = .ok (.value v) w'/\Inv Ow Im0 w0 ρ' w' Im (updH (updH H b .dead) id (.arr e s (els++W n.toNat zs0))) clk/\RelT Ow.ds ρ' w' Im tmps a/\Rel ρ' w' Im (.ow id) v:=by
  rintro⟨hn0,hbig0⟩ rfl;have hvy:a.eval y = .int k n:=Z15 (hEy▸hy);generalize hxse:W n.toNat zs0=xs;have hxl:xs.length=n.toNat:=by rw[<- hxse,Xj]
  have hbig:els.length+xs.length<=2^30:=by omega
  have hw64:LD.wrap n=n:=by rw[IntKind.wrap_i64];omega
  have hzs00:=hzs0;unfold Z65 at hzs0;split at hzs0;rotate_left
  .cases hzs0
  rename_i z hzz;split at hzs0;rotate_left
  .cases hzs0
  rename_i l hl;have hzlen0:zs0.length=s:=by
   unfold Z8j at hz;rw[hzs00]at hz;rw[<- hsz];simpa using hz
  have hzr:∀ w,(zeroValue e).run P w = .ok z w:=λw=>Z5S (P:=P) hzz w;have hzc:=(Z7p (λ_=>X) w Im z).cells hl;have hzlen:z.cells.size=s:=by
   rw[hzc.1,Z3k hzs0];simpa[dvs]using hzlen0
  rw[hE1]at hx;have hu2:∀ w,RelE w Im s xs (Li z.cells n.toNat):=by
   intro w;have:=Z73 (w:=w) (Im:=Im) n.toNat hl hzs0 hzlen0;rw[<- hxse];unfold Li;rw[hzlen]at this ⊢;exact this
  have hu3:(Li z.cells n.toNat).size=xs.length*s:=by
   simp[Li,hzlen,hxl]
  generalize hue:Li z.cells n.toNat=u at hu2 hu3;have hu0':n.toNat*s=0->u = #[]:=by
   intro h0;apply LM;rw[hu3,hxl];exact h0
  have hut:P.underlying t=U (.slice e):=by
   unfold Z1e at he;split at he
   .cases he;assumption
   .cases he
  obtain⟨k2,hut'⟩:∃ k2,P.underlying t'=U (.int k2):=by
   unfold Znl at he2;split at he2
   .exact⟨_,by assumption⟩
   .cases he2
  have hsr:(sizeOf e).run P w = .ok s w:=Z4c hsz hs0 w;have hinfo:∃ i,P.info? e=U i/\i.bytes=bytesOf P e:=by
   unfold bytesOf at hby0 ⊢;cases hi:P.info? e with
   | none=>simp[hi]at hby0
   | some i=>exact⟨i,rfl,rfl⟩
  obtain⟨i,hi,hib⟩:=hinfo;have hti:∀ w,(typeInfo e).run P w = .ok i w:=λw=>by simp[typeInfo,hi]
  have hsra:∀ w,(sizeOf e).run P w = .ok s w:=λw=>Z4c hsz hs0 w;have hbn:¬ (n*(i.bytes:Int) > 2^48):=by
   have h1:n*(i.bytes:Int)<=2^30*65536:=Int.mul_le_mul oq oq oq oq;omega
  have hn1:¬ n<0:=by omega
  refine Z9K (nb:=i.bytes) ho hvy I T hid hH hx hb hs1 (by rw[hib];exact hby) hb8 hbig (hu2 w) hu3 (hu2 w.drew) hu3 hzlen (λad c w' hfit hw'=>?_) (λad c ux' newCap hnot hcap hroom m1=>?_)
  .have hfit2:els.length+n.toNat<=c:=by omega
   rw[hxl];unfold Lz;by_cases h0:n.toNat*s=0
   .simp only[Le,Ln,Lo,S,run_underlying hut,run_underlying hut',M,O,hsra,asInt,asIntOf,hw64,hn1,if_false,hti,hbn,LZ,Lm,if_true,reduceCtorEq,hfit2,h0];rw[hu0' h0]at hw';cases ad with
    | none=>simp only[O]at hw' ⊢;cases hw';simp
    | some q=>simp only at hw' ⊢;simp[hw']
   .simp only[Le,Ln,Lo,S,run_underlying hut,run_underlying hut',M,O,hsra,asInt,asIntOf,hw64,hn1,if_false,hti,hbn,LZ,Lm,if_true,reduceCtorEq,hfit2,h0,hzr,hue];cases ad with
    | none=>simp only[O]at hw' ⊢;cases hw';simp
    | some q=>simp only at hw' ⊢;simp[hw']
  .have hmax:¬ (((els.length+n.toNat:Nat):Int) > LD.max/\(True\/i.bytes=0)):=by
    rintro⟨h,_⟩;have:LD.max=9223372036854775807:=by decide
    omega
   have hforced:(L8 (els.length+n.toNat) c e).forced=Z:=rfl;rw[hxl]at hcap hroom hnot;rw[hxl];unfold Lz;by_cases h0:n.toNat*s=0
   .have hu0:=hu0' h0;subst hu0;simp only[Le,Ln,Lo,S,run_underlying hut,run_underlying hut',M,O,hsra,asInt,asIntOf,hw64,hn1,if_false,hti,hbn,LZ,Lm,if_true,reduceCtorEq,hnot,h0,hmax];simp only[O,Xx,hroom,if_false,run_choose,hforced,Lm,Xz,hcap,M,run_askRoom,m1,hzr,S,newRow,run_newObj,Xy,hti]
   .simp only[Le,Ln,Lo,S,run_underlying hut,run_underlying hut',M,O,hsra,asInt,asIntOf,hw64,hn1,if_false,hti,hbn,LZ,Lm,if_true,reduceCtorEq,hnot,h0,hmax];simp only[O,Xx,hroom,if_false,run_choose,hforced,Lm,Xz,hcap,M,run_askRoom,m1,hzr,hue,S,newRow,run_newObj,Xy,hti]
 split at h
 .rename_i l' _;cases h;obtain⟨p1,p2⟩:=allP_cons.1 hph;have p2':els++W n.toNat zs0=l':=by simpa[allP]using p2
  rw[Res.heap,<- p2'];exact fin p1 rfl
 .cases h;exact fin (by simpa[allP]using hph) rfl
def Zh8{P:Program}{o:Oper}{id t t':Nat}{x y:Operand}{hs:List Hint}{H:Heap}{E:Operand->AV}{b:Nat}{r:Res}{Ow:Own}{Im0:Nat->Prop}{w0:World}{ρ:Rho}{w:World}{Im:Nat->Prop}{clk:Nat}{a:Act}{tmps:List AV}
  (ho:o.op = .call ⟨.builtin .append,#[x,y],#[t,t']⟩) (h:Z4y P t t' id hs (E x) (E y) H=U (b,r)) (I:Inv Ow Im0 w0 ρ w Im H clk) (T:RelT Ow.ds ρ w Im tmps a)
  (hid:clk*8000<=id) (hH:H id=X) (hx:Rel ρ w Im (E x) (a.eval x)) (hy:Rel ρ w Im (E y) (a.eval y)) (hph:allP r.ph) :
  ∃ v w' ρ',(execOp a.eval o).run P w = .ok (.value v) w'/\Inv Ow Im0 w0 ρ' w' Im (r.heap (updH H b .dead)) clk/\RelT Ow.ds ρ' w' Im tmps a/\Rel ρ' w' Im r.val v:=by
 unfold Z4y at h;split at h
 .rename_i k n hEy;exact ZeT ho h hEy I T hid hH hx hy hph
 .exact Zfl ho h I T hid hH hx hy hph
def Z8w(P:Program)(t:Nat)(hs:List Hint)(x:AV)(H:Heap):Option Res :=
 match Z1e P t with
 | none=>X
 | some e=>match szOf P e with
  | 0=>X
  | s+1=>match Z65 P e with
   | none=>X
   | some zs=>if zs.length=s+1 then
    match x with
    | .ow b=>match H b with
     | some (.arr ty s2 els)=>if s2=s+1 then
      match hs with
      | .els l'::_=>U ⟨.tu [],U (b,.arr ty s2 l'),[Z0R els 0 (W els.length zs)=l']⟩
      | _=>U ⟨.tu [],U (b,.arr ty s2 (Z0R els 0 (W els.length zs))),[]⟩
      else X
     | _=>X
    | .os b o n=>match H b with
     | some (.arr ty s2 els)=>if s2=s+1 then
      match hs with
      | .els l'::_=>U ⟨.tu [],U (b,.arr ty s2 l'),[Z0R els o (W n zs)=l']⟩
      | _=>U ⟨.tu [],U (b,.arr ty s2 (Z0R els o (W n zs))),[]⟩
      else X
     | _=>X
    | _=>X
    else X
def Zej{P:Program}{o:Oper}{id:Nat}{E:Operand->AV}{H:Heap}{r:Res}{x:Operand}{t:Nat}{hs:List Hint}
  (ho:o.op = .call ⟨.builtin .clear,#[x],#[t]⟩) (h:Z8w P t hs (E x) H=U r):Z2v P o id E H r:=by
 intro Ow Im0 w0 ρ w Im clk a I hid hH hE hph;have hx:=hE x;unfold Z8w at h;split at h
 .cases h
 rename_i e he;split at h
 .cases h
 rename_i s hsz;split at h
 .cases h
 rename_i zs hzs0;split at h;rotate_left
 .cases h
 rename_i hzlen0;have hut:P.underlying t=U (.slice e):=by
  unfold Z1e at he;split at he
  .cases he;assumption
  .cases he
 have hzs00:=hzs0;unfold Z65 at hzs0;split at hzs0;rotate_left
 .cases hzs0
 rename_i z hzz;split at hzs0;rotate_left
 .cases hzs0
 rename_i l hl;have hzr:(zeroValue e).run P w = .ok z w:=Z5S (P:=P) hzz w;have hzc:=(Z7p (λ_=>X) w Im z).cells hl;have hzlen:z.cells.size=s+1:=by
  rw[hzc.1,Z3k hzs0];simpa[dvs]using hzlen0
 have fin:∀ (b oo n g c':Nat) (ty:Nat) (els:List (List DV)) (β:Bi),ρ b=U β->H b=U (.arr ty (s+1) els)->β.g=U g->a.eval x = .slice (U ⟨g,oo*(s+1),X⟩) n c'->0<n->oo+n<=els.length ->
   Goes P o a w λv w'=>Then Ow Im0 w0 ρ w Im clk (updH H b (.arr ty (s+1) (Z0R els oo (W n zs)))) (.tu []) v w':=by
  intro b oo n g c' ty els β hρ hb hg hvx hn0 hon;obtain⟨u,hu⟩:∃ u,Li z.cells n=u:=⟨_,rfl⟩
  have hu2:RelE w Im (s+1) (W n zs) u:=by
   have:=Z73 (w:=w) (Im:=Im) n hl hzs0 hzlen0;rw[<- hu];unfold Li;rw[hzlen]at this ⊢;exact this
  have hu3:u.size=(W n zs).length*(s+1):=by
   rw[<- hu];simp[Li,hzlen]
  obtain⟨β',h1,h2⟩:=I.blk b _ hb;rw[hρ]at h1;cases h1;have h2':=h2;obtain⟨g1,g2,g3,g4,g5⟩:=h2;rcases g5 with⟨g5,_⟩ | ⟨g',cs,hg',hw,hszc,hcell⟩
  .rw[hg]at g5;cases g5
  rw[hg]at hg';cases hg';have hE1:=Zex h2' hg hw;have hxl:(W n zs).length=n:=by simp
  generalize hxs:W n zs=xs at *;have hfit:oo*(s+1)+u.toList.length<=cs.toList.length:=by
   have:(oo+xs.length)*(s+1)<=els.length*(s+1):=Lc _ oq;rw[La]at this;simp[hu3];omega
  have hone:∀ v∈u.toList,v.oneCell'=Y:=by
   intro v hv;obtain⟨k,hk⟩:=LH hv;have hk':u[k]? = U v:=by simpa using hk
   exact hu2.2.2.1 k v hk' (by rw[<- hu3];exact(Xa.1 hk').1)
  have hst:=run_storeCells_at P g (oo*(s+1)) ty u.toList 0 cs w hw (by simpa using hfit) hone;simp only[Lx]at hst;obtain⟨bg,bs,bn⟩:=β;simp only at hg g1 g2;subst hg;subst g1;subst g2;have hlen:((cs.toList.take (oo*(s+1))++u.toList++cs.toList.drop (oo*(s+1)+u.toList.length)).toArray).size=cs.size:=by
   rw[Xo,Z1g hfit];simp
  have hget:∀ j,((cs.toList.take (oo*(s+1))++u.toList++cs.toList.drop (oo*(s+1)+u.toList.length)).toArray)[j]? = if j<oo*(s+1)then cs[j]? else if j<oo*(s+1)+u.size then u[j-oo*(s+1)]? else cs[j]? := by
   intro j;rw[Le,Z2C hfit];simp
  have hsp:=Z8A hE1 hu2 hu3 (show oo+xs.length<=els.length by omega) hlen hget;have hput:=I.put b g (s+1) els.length cs _ ty (.arr ty (s+1) (Z0R els oo xs)) hρ hw hlen ⟨_,hb,by simp⟩ (λhe=>by
   have hl:(Z0R els oo xs).length=els.length:=Z1g oq;refine⟨rfl,hl.symm,by rw[hl];exact g3,hsp.1,.inr ⟨g,_,rfl,setRow_heap w g cs _ ty _ hw,by rw[hlen,hl];exact hszc,λi e o y hi ho=>?_⟩⟩;obtain⟨v,k1,k2⟩:=hsp.2.2.2 i e o y hi ho;exact⟨v,k1,k2.mono he (λ_ h=>h)⟩)
  refine .inl ⟨.tuple #[],_, ?_,ρ,hput.1,hput.2,λ_ _ h=>h,.tu [] #[] rfl (λi a v h=>by simp at h)⟩;have hcp:(L0 #[t] o.type #[.slice (U ⟨g,oo*(s+1),X⟩) n c']).run P w = .ok (.tuple #[]) (w.setRow g (cs.toList.take (oo*(s+1))++u.toList++cs.toList.drop (oo*(s+1)+u.toList.length)).toArray):=by
   unfold L0;obtain⟨m,rfl⟩:∃ m,n=m+1:=⟨n-1,by omega⟩
   simp only[Le,Ln,S,run_underlying hut,M,O,hzr,hu,hst]
  simp[execOp,ho,resolve,hvx,invoke,builtin,hcp]
 have nil:∀ (b oo:Nat) (ty:Nat) (els:List (List DV)) (ad:Option Addr) (c':Nat),H b=U (.arr ty (s+1) els)->a.eval x = .slice ad 0 c' ->
   Goes P o a w λv w'=>Then Ow Im0 w0 ρ w Im clk (updH H b (.arr ty (s+1) (Z0R els oo (W 0 zs)))) (.tu []) v w':=by
  intro b oo ty els ad c' hb hvx;have hsame:Z0R els oo (W 0 zs)=els:=by simp[Z0R]
  have hupd:updH H b (.arr ty (s+1) els)=H:=by funext k;unfold updH;split<;>simp_all
  rw[hsame,hupd];refine .inl ⟨.tuple #[],w, ?_,.same I (.tu [] #[] rfl (λi a v h=>by simp at h))⟩;have hcp:(L0 #[t] o.type #[.slice ad 0 c']).run P w = .ok (.tuple #[]) w:=by
   unfold L0;cases ad<;>simp only[Le,Ln,S,run_underlying hut,M,O]
  simp[execOp,ho,resolve,hvx,invoke,builtin,hcp]
 split at h
 .rename_i b hE1;rw[hE1]at hx;split at h;rotate_left
  .cases h
  rename_i ty s2 els hb;split at h;rotate_left
  .cases h
  rename_i hs2;subst hs2;generalize hvx:a.eval x=v at hx;cases hx with
  | ow hρ hc hbg ha =>
   rename_i c' ad β;obtain⟨β',h1,h2⟩:=I.blk b _ hb;rw[hρ]at h1;cases h1;have h2':=h2;obtain⟨g1,g2,_,_,_⟩:=h2;have base:Goes P o a w λv w'=>Then Ow Im0 w0 ρ w Im clk (updH H b (.arr ty (s+1) (Z0R els 0 (W els.length zs)))) (.tu []) v w':=by
    rcases L6 els.length with h0 | hpos
    .rw[h0];exact nil b 0 ty els ad c' hb (by rw[hvx,g2,h0])
    .rcases ha with ha | ⟨g,hg,rfl,hrow⟩
     .omega
     .exact fin b 0 els.length g c' ty els β hρ hb hg (by rw[hvx,g2];simp) hpos oq
   split at h
   .rename_i l' _;cases h;have p2:Z0R els 0 (W els.length zs)=l':=by simpa[allP]using hph
    rw[<- p2];exact base
   .cases h;exact base
 .rename_i b oo n hE1;rw[hE1]at hx;split at h;rotate_left
  .cases h
  rename_i ty s2 els hb;split at h;rotate_left
  .cases h
  rename_i hs2;subst hs2;generalize hvx:a.eval x=v at hx;cases hx with
  | os hρ hn hc hbg ha =>
   rename_i c' ad β;obtain⟨β',h1,h2⟩:=I.blk b _ hb;rw[hρ]at h1;cases h1;have h2':=h2;obtain⟨g1,g2,_,_,_⟩:=h2;have base:Goes P o a w λv w'=>Then Ow Im0 w0 ρ w Im clk (updH H b (.arr ty (s+1) (Z0R els oo (W n zs)))) (.tu []) v w':=by
    rcases L6 n with h0 | hpos
    .rw[h0]at hvx ⊢;exact nil b oo ty els ad c' hb hvx
    .rcases ha with ha | ⟨g,hg,rfl,hrow⟩
     .omega
     .exact fin b oo n g c' ty els β hρ hb hg (by rw[<- g1];exact hvx) hpos oq
   split at h
   .rename_i l' _;cases h;have p2:Z0R els oo (W n zs)=l':=by simpa[allP]using hph
    rw[<- p2];exact base
   .cases h;exact base
 .cases h
def act(P:Program)(o:Oper)(id:Nat)(hs:List Hint)(E:Operand->AV)(H:Heap):Option Res :=
 match o.op with
 | .move x=>U (ZeK (E x))
 | .assign x=>match hs with
  | .own::_=>match x with
   | .const (.slice none 0 0)=>Zjl P o.type id
   | _=>X
  | .int n::_=>match E x with
   | .d (.sc (.int k m))=>U (numR k m [] (.int n::[]))
   | _=>X
  | _=>U (ZeK (E x))
 | .alloc t=>Zbt P t id
 | .box t x=>ZkF t id (E x)
 | .build t parts=>ZbW P t (parts.toList.map λp=>(p.1,E p.2))
 | .buildSlice t len parts=>Z4O P t len id hs (parts.toList.map λp=>(p.1,E p.2))
 | .load t x=>Z7B P t hs (E x) H
 | .store t x y=>match szOf P t with
  | 0=>X
  | _+1=>Z8l P t hs (E x) (E y) H
 | .nilCheck x=>Z6h (E x)
 | .binOp op t x y _=>ZeM P op t hs (E x) y (E y)
 | .unOp op _ x=>ZoT op hs (E x)
 | .convert s t x=>Zew P s t hs (E x)
 | .makeFunc fn first captured=>Z4T fn first captured E
 | .makeInterface t x=>Z3L P t (E x)
 | .typeAssert x _ t ok=>Z9T P t ok (E x)
 | .makeSlice t x y=>Z5r P t id hs (E x) (E y)
 | .slice t x lo hi mx=>match mx with
  | none=>match Z1e P t with
   | some e=>match P.info? e with
    | some _=>Z8u P t hs (E x) (lo.map E) (hi.map E) H
    | none=>X
   | none=>X
  | some _=>X
 | .fieldAddr t x f=>Z5a P t f (E x)
 | .field t x f=>ZbR P t f (E x)
 | .indexAddr t x y=>Z4l P t hs (E x) (E y) H
 | .extract x n=>Z7N n (E x)
 | .call c=>match c.callee with
  | .builtin .len=>match c.args.toList,c.argTypes.toList with
   | [x],[t]=>Zgf P t hs (E x) H
   | _,_=>X
  | .builtin .copy=>match c.args.toList,c.argTypes.toList with
   | [x,y],[t,_]=>Zcm P t hs (E x) (E y) H
   | _,_=>X
  | .builtin .clear=>match c.args.toList,c.argTypes.toList with
   | [x],[t]=>Z8w P t hs (E x) H
   | _,_=>X
  | .builtin .max=>match c.args.toList,c.argTypes.toList with
   | [x,y],[_,_]=>Zh4 Y hs (E x) (E y)
   | _,_=>X
  | .builtin .min=>match c.args.toList,c.argTypes.toList with
   | [x,y],[_,_]=>Zh4 Z hs (E x) (E y)
   | _,_=>X
  | _=>X
 | _=>X
def Z7r{c:Call}{b:Builtin}{l:List Operand}{m:List TypeId}(h1:c.callee = .builtin b)(h2:c.args.toList=l)(h3:c.argTypes.toList=m):c=⟨.builtin b,l.toArray,m.toArray⟩:=by
 obtain⟨x,y,z⟩:=c;simp only at h1 h2 h3;subst h1;subst h2;subst h3;simp
def Zd3{P:Program}{o:Oper}{id:Nat}{hs:List Hint}{E:Operand->AV}{H:Heap}{r:Res}(h:act P o id hs E H=U r):Z2v P o id E H r:=by
 unfold act at h;split at h
 .cases h;exact Zb1 (.inl aa)
 .split at h
  .split at h
   .exact Ziw aa h
   .cases h
  .rename_i x hop _ n _;split at h
   .rename_i k m hx;cases h;exact Z1K λρ w Im a hE _=>by have:=Z15 (hx▸hE x);simp[execOp,hop,this]
   .cases h
  .cases h;exact Zb1 (.inr aa)
 .exact ZeS aa h
 .exact Zia aa h
 .exact Zem aa h
 .exact Z84 aa h
 .exact Zh0 aa h
 .split at h
  .cases h
  .exact Zf2 aa oq h
 .exact Za4 aa h
 .exact ZhM aa h
 .exact ZlC aa h
 .exact ZhT aa h
 .exact Zan aa h
 .exact Z6g aa h
 .exact Zd1 aa h
 .exact Z9i aa h
 .rename_i hop;split at h
  .split at h
   .rename_i e he;split at h
    .rename_i i hi;exact Zek hop (λe' he'=>by rw[he]at he';cases he';rw[hi];rfl) h
    .cases h
   .cases h
  .cases h
 .exact Z9h aa h
 .exact Zeg aa h
 .exact Z9p aa h
 .exact Zbr aa h
 .rename_i c hop;split at h
  .rename_i hcal;split at h
   .rename_i x t h1 h2;exact Zkb (by rw[hop,Z7r hcal h1 h2]) h
   .cases h
  .rename_i hcal;split at h
   .rename_i x y t t' h1 h2;exact Zhv (by rw[hop,Z7r hcal h1 h2]) h
   .cases h
  .rename_i hcal;split at h
   .rename_i x t h1 h2;exact Zej (by rw[hop,Z7r hcal h1 h2]) h
   .cases h
  .rename_i hcal;split at h
   .rename_i x y t t' h1 h2;exact Zjs (by rw[hop,Z7r hcal h1 h2]) h
   .cases h
  .rename_i hcal;split at h
   .rename_i x y t t' h1 h2;exact Ziv (by rw[hop,Z7r hcal h1 h2]) h
   .cases h
  .cases h
 .cases h
theorem Z96{P:Program}{o:Oper}{id:Nat}{hs:List Hint}{E E':Operand→AV}{H:Heap}(h:∀ x∈o.op.operands.toList,E x=E' x):act P o id hs E H=act P o id hs E' H:=by
 unfold act;cases hop:o.op with
 | move x=>simp only[h x (by simp[hop,Op.operands])]
 | assign x=>simp only[h x (by simp[hop,Op.operands])]
 | box t x=>simp only[h x (by simp[hop,Op.operands])]
 | build t parts =>
  have:(parts.toList.map fun p=>(p.1,E p.2))=parts.toList.map fun p=>(p.1,E' p.2):=List.map_congr_left fun p hp=>by
   rw[h p.2 (by simp[hop,Op.operands];exact⟨p.1,by simpa using hp⟩)]
  simp only[this]
 | buildSlice t n parts =>
  have:(parts.toList.map fun p=>(p.1,E p.2))=parts.toList.map fun p=>(p.1,E' p.2):=List.map_congr_left fun p hp=>by
   rw[h p.2 (by simp[hop,Op.operands];exact⟨p.1,by simpa using hp⟩)]
  simp only[this]
 | load t x=>simp only[h x (by simp[hop,Op.operands])]
 | store t x y=>simp only[h x (by simp[hop,Op.operands]),h y (by simp[hop,Op.operands])]
 | nilCheck x=>simp only[h x (by simp[hop,Op.operands])]
 | binOp op t x y t'=>simp only[h x (by simp[hop,Op.operands]),h y (by simp[hop,Op.operands])]
 | unOp op t x=>simp only[h x (by simp[hop,Op.operands])]
 | convert s t x=>simp only[h x (by simp[hop,Op.operands])]
 | makeFunc fn first captured =>
  have:(captured.toList.map E)=captured.toList.map E':=List.map_congr_left fun p hp=>h p (by simp[hop,Op.operands];exact .inr (by simpa using hp));simp only[Z4T,this];cases fn with
  | func f =>
   split
   ·rfl
   ·rename_i x _ hf;rw[h x (by simp[hop,Op.operands];exact .inl (by
     have:x∈first.toList:=by rw[hf];simp
     simpa using this))]
   ·rfl
  | _=>rfl
 | makeInterface t x=>simp only[h x (by simp[hop,Op.operands])]
 | typeAssert x t t' ok=>simp only[h x (by simp[hop,Op.operands])]
 | makeSlice t x y=>simp only[h x (by simp[hop,Op.operands]),h y (by simp[hop,Op.operands])]
 | slice t x lo hi mx =>
  have e1:lo.map E=lo.map E':=by cases lo with | none=>rfl | some y=>simp only[Option.map_some];rw[h y (by simp[hop,Op.operands])]
  have e2:hi.map E=hi.map E':=by cases hi with | none=>rfl | some y=>simp only[Option.map_some];rw[h y (by simp[hop,Op.operands])]
  simp only[h x (by simp[hop,Op.operands]),e1,e2]
 | fieldAddr t x f=>simp only[h x (by simp[hop,Op.operands])]
 | field t x f=>simp only[h x (by simp[hop,Op.operands])]
 | indexAddr t x y=>simp only[h x (by simp[hop,Op.operands]),h y (by simp[hop,Op.operands])]
 | extract x n=>simp only[h x (by simp[hop,Op.operands])]
 | call c =>
  have hm:∀ x∈c.args.toList,E x=E' x:=fun x hx=>h x (by simp only[hop,Op.operands,Call.operands,Array.toList_append,List.mem_append];exact .inr hx);dsimp only;split
  ·split
   ·rename_i x t h1 h2;rw[hm x (by rw[h1];simp)]
   ·rfl
  ·split
   ·rename_i x y t t' h1 h2;rw[hm x (by rw[h1];simp),hm y (by rw[h1];simp)]
   ·rfl
  ·split
   ·rename_i x t h1 h2;rw[hm x (by rw[h1];simp)]
   ·rfl
  ·split
   ·rename_i x y t t' h1 h2;rw[hm x (by rw[h1];simp),hm y (by rw[h1];simp)]
   ·rfl
  ·split
   ·rename_i x y t t' h1 h2;rw[hm x (by rw[h1];simp),hm y (by rw[h1];simp)]
   ·rfl
  ·rfl
 | _=>rfl
def bv(b:Bool):AV:=.d (.sc (.bool b))
def Zk9{a b:Bool}(h:bv a=bv b):a=b:=by unfold bv at h;injection h with h;injection h with h;injection h
def Zpv:Bool->Bool->Bool
 | true,b=>b
 | false,b=>!b
def guardOf(ops:Array Oper)(tmps:List AV):Option (Nat×Bool)->Option (Option Bool)
 | none=>U X
 | some (j,want)=>match ops[j]? with
  | some oj=>match oj.dst with
   | some t=>match tmps.getD t .any with
    | .d (.sc (.bool b))=>U (U (Zpv want b))
    | .gd g (.d (.sc (.bool b)))=>U (U (g&&Zpv want b))
    | _=>X
   | none=>X
  | none=>X
def Z1r(G:Option Bool)(R:Operand->AV)(x:Operand):AV:=match G with | X=>R x | U _=>strip (R x)
def Z3b(G:Option Bool)(R:Operand->AV):List Operand->List (AV×AV)
 | []=>[]
 | x::xs=>match G with
  | none=>Z3b G R xs
  | some g=>match R x with
   | .gd g' _=>(bv g',bv g)::Z3b G R xs
   | _=>Z3b G R xs
def EqP(l:List (AV×AV)):Prop:=∀ p∈l,p.1=p.2
def Z3v{ρ:Rho}{w:World}{Im:Nat->Prop}{G:Option Bool}{R:Operand->AV}{l:List Operand}{x:Operand}{v:Value}(hx:x∈l)(hp:EqP (Z3b G R l))(hG:∀ g,G=U g->g=Y)(h:Rel ρ w Im (R x) v):Rel ρ w Im (Z1r G R x) v:=by
 cases G with
 | none=>exact h
 | some g =>
  have hg:=hG g rfl;simp only[Z1r];cases hR:R x with
  | gd g' a =>
   have:(bv g',bv g)∈Z3b (U g) R l:=by
    clear hp h;induction l with
    | nil=>simp at hx
    | cons y l ih =>
     rcases Ll.1 hx with e | e
     .subst e;simp[Z3b,hR]
     .have:=ih e;simp only[Z3b];split
      .exact Lp _ this
      .exact this
   have:=Zk9 (hp _ this);rw[hR]at h;cases h with
   | gd h1 h2=>exact h1 (by rw[this];exact hg)
  | _=>rw[hR]at h;exact h
def mkG:Option Bool->AV->AV
 | none,a=>a
 | some g,a=>.gd g a
def phG:Option Bool->List Prop->List Prop
 | none,l=>l
 | some g,l=>l.map λp=>g=Y->p
def Z8b{G:Option Bool}{l:List Prop}(h:allP (phG G l))(hG:∀ g,G=U g->g=Y):allP l:=by
 cases G with
 | none=>exact h
 | some g =>
  have hg:=hG g rfl;induction l with
  | nil=>trivial
  | cons p l ih =>
   simp only[phG,LU]at h;obtain⟨h1,h2⟩:=allP_cons.1 h;exact allP_cons.2 ⟨h1 hg,ih h2⟩
def Zfe(w:World)(Im:Nat->Prop)(fr:Bool)(res:AV)(news:List Blk)(v:Value)(w':World):Prop :=
 Kept (λ_=>False) w w'/\∃ (ρ':Rho) (Im':Nat->Prop),(∀ g,Im' g->(fr=Z/\Im g)\/w.heap.size<=g)/\(∀ g,Im' g->g<w'.heap.size) /\
  (∀ b β g,ρ' b=U β->β.g=U g->w.heap.size<=g/\g<w'.heap.size/\¬ Im' g)/\(∀ b b' β β' g,ρ' b=U β->ρ' b'=U β'->β.g=U g->β'.g=U g->b=b') /\
  (∀ (k:Nat) (β:Bi),ρ' k=U β->k<news.length)/\(∀ (k:Nat) (B:Blk),news[k]? = U B->∃ β,ρ' k=U β/\RelB ρ' w' Im' β B)/\Rel ρ' w' Im' res v
def GSpec(P:Program)(f:Nat)(args:List AV)(fr:Bool)(res:AV)(news:List Blk):Prop :=
 ∀ (w:World) (Im:Nat->Prop) (vs:Array Value),(∀ g,Im g->g<w.heap.size)->vs.size=args.length->(∀ (i:Nat) (x:AV) (v:Value),args[i]? = U x->vs[i]? = U v->Rel (λ_=>X) w Im x v) ->
  Calls P f vs w λe w'=>∃ v,e = .returned v/\Zfe w Im fr res news v w'
def toD1(H:Heap)(x:AV):Option AV:=match x with
 | .d x=>U (.d x)
 | .rp e o=>U (.rp e o)
 | .ow _ | .os .. => match Z1p H x with | U (s,els)=>U (.d (.sl s els)) | X=>X
 | _=>X
def toDs(H:Heap):List AV->Option (List AV)
 | []=>U []
 | a::l=>match toD1 H a,toDs H l with
  | some x,some r=>U (x::r)
  | _,_=>X
def toD(H:Heap)(x:AV):Option AV:=match x with
 | .ag l=>(toDs H l).map .ag
 | .fn f l=>(toDs H l).map (.fn f)
 | .ic t a=>(toD1 H a).map (.ic t)
 | a=>toD1 H a
def toDD(H:Heap):List AV->Option (List AV)
 | []=>U []
 | a::l=>match toD H a,toDD H l with
  | some x,some r=>U (x::r)
  | _,_=>X
def Zhu(ρ:Rho)(Im:Nat->Prop):Nat->Prop:=λg=>Im g\/∃ b β,ρ b=U β/\β.g=U g
section
variable {Ow:Own} {Im0:Nat->Prop} {w0:World} {ρ:Rho} {w:World} {Im:Nat->Prop} {H:Heap} {clk:Nat}
theorem Z7P{x:AV}{v:Value}{s:Nat}{els:List (List DV)}(I:Inv Ow Im0 w0 ρ w Im H clk)(hx:Rel ρ w Im x v)(h:Z1p H x=U (s,els)):RelD w (Zhu ρ Im) (.sl s els) v:=by
 obtain⟨p,c,rfl,hb,hc,hl,hcell⟩:=Z25 I hx h;by_cases he:els=[]
 .subst he;exact .slNil _ _ _
 rcases hcell with hcell | ⟨q,rfl,hq,hcell⟩
 .exact absurd hcell he
 have hex:∀ (i:Nat) (e:List DV) (o:Nat) (y:DV),els[i]? = U e->e[o]? = U y->RelD w (Zhu ρ Im) y ((w.cell? ⟨q.block,q.off+(i*s+o),X⟩).getD undef):=by
  intro i e o y hi ho;obtain⟨u,k1,k2⟩:=hcell i e o y hi ho;rw[k1];exact k2.mono (Ext.refl _ _) (λ_ h=>.inl h)
 refine .sl s els q els.length c (λi o=>(w.cell? ⟨q.block,q.off+(i*s+o),X⟩).getD undef) rfl hc hb (hl he) hq ?_ ?_ hex
 .unfold Z1p at h;split at h
  .cases h;cases hx with
   | d hx =>
    cases hx with
    | slNil=>exact absurd rfl he
    | sl _ _ _ _ _ _ _ _ _ _ _ him=>exact .inl him
  .cases h;exact absurd rfl he
  .split at h;rotate_left
   .cases h
   rename_i b _ ty s' els' hb';cases h;generalize hvv:Value.slice (U q) els.length c=vv at hx;cases hx with
   | ow hρ hcc _ ha =>
    injection hvv with e1 e2 e3;rcases ha with ha | ⟨g,hg,e,_⟩
    .have:0<els.length:=LI.2 he;omega
    .rw[<- e1]at e;cases e;exact .inr ⟨b,_,hρ,hg⟩
  .split at h;rotate_left
   .cases h
   rename_i b oo m _ ty s' els' hb';cases h;generalize hvv:Value.slice (U q) ((els'.drop oo).take m).length c=vv at hx;cases hx with
   | os hρ hn hcc _ ha =>
    injection hvv with e1 e2 e3;rcases ha with ha | ⟨g,hg,e,_⟩
    .exfalso;have:0<((els'.drop oo).take m).length:=LI.2 he;omega
    .rw[<- e1]at e;cases e;exact .inr ⟨b,_,hρ,hg⟩
  .cases h
 .intro i e o y hi ho;obtain⟨u,k1,_⟩:=hcell i e o y hi ho;rw[k1];rfl
theorem Z8c{x y:AV}{v:Value}(I:Inv Ow Im0 w0 ρ w Im H clk)(hx:Rel ρ w Im x v)(h:toD1 H x=U y):Rel (λ_=>X) w (Zhu ρ Im) y v:=by
 unfold toD1 at h;split at h
 .cases h;cases hx with | d hx=>exact .d (hx.mono (Ext.refl _ _) (λ_ h=>.inl h))
 .cases h;cases hx with | rp h1 h2 h3=>exact .rp h1 (.inl h2) (λj x hx=>let ⟨v,k1,k2⟩:=h3 j x hx;⟨v,k1,k2.mono (Ext.refl _ _) (λ_ h=>.inl h)⟩)
 .split at h
  .cases h;exact .d (Z7P I hx aa)
  .cases h
 .split at h
  .cases h;exact .d (Z7P I hx aa)
  .cases h
 .cases h
theorem Zc7{H:Heap}:∀ {l m:List AV},toDs H l=U m->m.length=l.length/\∀ (i:Nat) (y:AV),m[i]? = U y->∃ x,l[i]? = U x/\toD1 H x=U y
 | [],m,h=>by simp[toDs]at h;subst h;simp
 | a::l,m,h=>by
  simp only[toDs]at h;split at h
  .rename_i x r hx hr;cases h;obtain⟨h1,h2⟩:=Zc7 hr;refine⟨by simp[h1],λi y hy=>?_⟩;cases i with
   | zero=>simp at hy;subst hy;exact⟨a,rfl,hx⟩
   | succ i=>exact h2 i y (by simpa using hy)
  .cases h
theorem Zi6{x y:AV}{v:Value}(I:Inv Ow Im0 w0 ρ w Im H clk)(hx:Rel ρ w Im x v)(h:toD H x=U y):Rel (λ_=>X) w (Zhu ρ Im) y v:=by
 unfold toD at h;split at h
 .simp only[L]at h;obtain⟨m,hm,rfl⟩:=h;obtain⟨h1,h2⟩:=Zc7 hm;obtain⟨cs,rfl,k1,k2,k3⟩:=Z3D hx;refine .ag _ cs oq k2 λi a u ha hu=>?_;obtain⟨x,hx',hd⟩:=h2 i a ha;exact Z8c I (k3 i x u hx' hu) hd
 .simp only[L]at h;obtain⟨m,hm,rfl⟩:=h;obtain⟨h1,h2⟩:=Zc7 hm;cases hx with
  | fn k1 k3 =>
   refine .fn oq λi a u ha hu=>?_;obtain⟨x,hx',hd⟩:=h2 i a ha;exact Z8c I (k3 i x u hx' hu) hd
 .simp only[L]at h;obtain⟨m,hm,rfl⟩:=h;cases hx with
  | ic hx=>exact .ic (Z8c I hx hm)
 .exact Z8c I hx h
end
def Zc5{H:Heap}:∀ {l m:List AV},toDD H l=U m->m.length=l.length/\∀ (i:Nat) (y:AV),m[i]? = U y->∃ x,l[i]? = U x/\toD H x=U y
 | [],m,h=>by simp[toDD]at h;subst h;simp
 | a::l,m,h=>by
  simp only[toDD]at h;split at h
  .rename_i x r hx hr;cases h;obtain⟨h1,h2⟩:=Zc5 hr;refine⟨by simp[h1],λi y hy=>?_⟩;cases i with
   | zero=>simp at hy;subst hy;exact⟨a,rfl,hx⟩
   | succ i=>exact h2 i y (by simpa using hy)
  .cases h
def Z6j:AV->Bool
 | .d _ | .rp .. => Y
 | _=>Z
def Z8R:AV->Bool
 | .ag l=>l.all Z6j
 | .fn _ l=>l.all Z6j
 | .ic _ (.ag l)=>l.all Z6j
 | .ic _ a=>Z6j a
 | a=>Z6j a
def Z3X{ρ ρ':Rho}{w:World}{Im:Nat->Prop}{x:AV}{v:Value}(h:Rel ρ w Im x v)(hp:Z6j x=Y):Rel ρ' w Im x v:=by
 cases h<;>first | (simp[Z6j]at hp;done) | skip
 .exact .d aa
 .exact .rp aa aa aa
def ZaA{ρ ρ':Rho}{w:World}{Im:Nat->Prop}{x:AV}{v:Value}(h:Rel ρ w Im x v)(hp:Z8R x=Y):Rel ρ' w Im x v:=by
 unfold Z8R at hp;split at hp
 .obtain⟨cs,rfl,k1,k2,k3⟩:=Z3D h;simp only[LF]at hp;exact .ag _ cs k1 k2 λi a u ha hu=>Z3X (k3 i a u ha hu) (hp a (N ha))
 .cases h with
  | fn k1 k3 =>
   simp only[LF]at hp;exact .fn k1 λi a u ha hu=>Z3X (k3 i a u ha hu) (hp a (N ha))
 .cases h with
  | ic h =>
   obtain⟨cs,rfl,k1,k2,k3⟩:=Z3D h;simp only[LF]at hp;exact .ic (.ag _ cs k1 k2 λi a u ha hu=>Z3X (k3 i a u ha hu) (hp a (N ha)))
 .cases h with
  | ic h=>exact .ic (Z3X h hp)
 .exact Z3X h hp
def nid(dst clk k:Nat):Nat:=clk*8000+(k+1)*1000+dst
def renF(dst clk:Nat):AV->AV
 | .pt k i o=>.pt (nid dst clk k) i o
 | .os k o n=>.os (nid dst clk k) o n
 | .ow k=>.ow (nid dst clk k)
 | a=>a
def mapT(f:AV->AV):AV->AV
 | .tu l=>.tu (l.map (mapA f))
 | a=>mapA f a
def ZgZ:Blk->Bool
 | .arr .. => Y
 | _=>Z
def Zeu(dst clk:Nat):Nat->List Blk->Heap->Heap
 | _,[],H=>H
 | k,B::r,H=>Zeu dst clk (k+1) r (updH H (nid dst clk k) B)
def Z5C(dst clk:Nat):Nat->List Blk->Heap->Bool
 | _,[],_=>Y
 | k,B::r,H=>ZgZ B&&(match H (nid dst clk k)with | X=>Y | U _=>Z)&&Z5C dst clk (k+1) r (updH H (nid dst clk k) B)
def Z8h{ρ ρ':Rho}{w:World}{Im Im':Nat->Prop}{f:AV->AV}(hi:∀ g,Im g->Im' g)(hpt:∀ b i o v,Rel ρ w Im (.pt b i o) v->Rel ρ' w Im' (f (.pt b i o)) v)(hos:∀ b o n v,Rel ρ w Im (.os b o n) v->Rel ρ' w Im' (f (.os b o n)) v)
  (how:∀ b v,Rel ρ w Im (.ow b) v->Rel ρ' w Im' (f (.ow b)) v) {a:AV} {v:Value} (h:Rel ρ w Im a v):Rel ρ' w Im' (mapT f a) v:=by
 cases a with
 | tu l =>
  cases h with
  | tu _ cs h1 h3 =>
   refine .tu _ cs (by simpa using h1) λi x v hx hv=>?_;simp only[Lk,L]at hx;obtain⟨y,hy,rfl⟩:=hx;exact Z6J hi hpt hos how (h3 i y v hy hv)
 | _=>exact Z6J hi hpt hos how h
def RelB.arr_any{ρ ρ':Rho}{w:World}{Im Im':Nat->Prop}{β:Bi}{B:Blk}(hB:ZgZ B=Y)(h:RelB ρ w Im β B)(hi:∀ g,Im g->Im' g):RelB ρ' w Im' β B:=by
 cases B with
 | box=>simp[ZgZ]at hB
 | dead=>simp[ZgZ]at hB
 | arr ty s els =>
  obtain⟨h0,h1,hb',h2,h3⟩:=h;exact⟨h0,h1,hb',h2,h3.imp (λh=>h) λ⟨g,cs,h4,h5,h6,h7⟩=>⟨g,cs,h4,h5,h6,λi e o x hx hy=>let ⟨v,h8,h9⟩:=h7 i e o x hx hy;⟨v,h8,h9.mono (Ext.refl _ _) hi⟩⟩⟩
section
variable {Ow:Own} {Im0:Nat->Prop} {w0:World} {ρ:Rho} {w:World} {Im:Nat->Prop} {H:Heap} {clk:Nat}
theorem Inv.adopt(I:Inv Ow Im0 w0 ρ w Im H clk)(id:Nat)(hid:clk*8000<=id)(hH:H id=X)(β:Bi)(B:Blk)
  (hg:∀ g,β.g=U g->(∀ k κ,ρ k=U κ->κ.g≠U g)/\¬ Im g/\g<w.heap.size/\w0.heap.size<=g)
  (hB:RelB (updR ρ id β) w Im β B):Inv Ow Im0 w0 (updR ρ id β) w Im (updH H id B) clk:=by
 have hn:=I.fresh id hid hH;refine⟨I.kept, ?_, ?_, ?_, ?_,I.imb,I.im0, ?_, ?_,Z8X I.one hid⟩
 .intro b b' κ κ' g l1 l2 h1 h2 h3 h4;unfold updR at h1 h2;split at h1<;>split at h2
  .omega
  .cases h1;exact absurd h4 ((hg g h3).1 b' κ' h2)
  .cases h2;exact absurd h3 ((hg g h4).1 b κ h1)
  .exact I.inj b b' κ κ' g (Z1z l1 aa) (Z1z l2 aa) h1 h2 h3 h4
 .intro b κ g l h h';unfold updR at h;split at h
  .cases h;exact(hg g h').2.1
  .exact I.notIm b κ g (Z1z l aa) h h'
 .intro b κ g h h';unfold updR at h;split at h
  .cases h;exact(hg g h').2.2.1
  .exact I.bnd b κ g h h'
 .intro b κ g h h';unfold updR at h;split at h
  .rename_i hbi;cases h;have:=I.one;exact .inl ⟨(hg g h').2.2.2,by omega⟩
  .exact I.own b κ g h h'
 .intro b B' h;unfold updH at h;split at h
  .cases h;rename_i hb;exact⟨_,by rw[hb];exact Z2g _ _ _,hB⟩
  .obtain⟨κ,h1,h2⟩:=I.blk b B' h;exact⟨κ,Z1X hn _ _ h1,h2.mono (Ext.refl _ _) (λ_ h=>h) (Z1X hn) I.bnd (λ_ _=>rfl)⟩
 .intro b hb h;unfold updH at h;unfold updR;split
  .rename_i hbi;simp[hbi]at h
  .rename_i hbi;simp only[hbi,if_false]at h;exact I.fresh b hb h
theorem Zde(dst clk k:Nat):clk*8000<=nid dst clk k:=by unfold nid;omega
theorem Zdk{ρ':Rho}{dst:Nat}:∀ (news:List Blk) (k:Nat) (ρ:Rho) (H:Heap),Inv Ow Im0 w0 ρ w Im H clk->Z5C dst clk k news H=Y ->
  (∀ (i:Nat) (B:Blk),news[i]? = U B->∃ β,ρ' (k+i)=U β/\RelB ρ' w Im β B/\∀ g,β.g=U g->¬ Im g/\g<w.heap.size/\w0.heap.size<=g) ->
  (∀ b b' β β' g,ρ' b=U β->ρ' b'=U β'->β.g=U g->β'.g=U g->b=b') ->
  (∀ i,i<news.length->∀ β g,ρ' (k+i)=U β->β.g=U g->∀ b κ,ρ b=U κ->κ.g≠U g) ->
  ∃ ρ2,Inv Ow Im0 w0 ρ2 w Im (Zeu dst clk k news H) clk/\(∀ b β,ρ b=U β->ρ2 b=U β)/\∀ i β,i<news.length->ρ' (k+i)=U β->ρ2 (nid dst clk (k+i))=U β
 | [],k,ρ,H,I,_,_,_,_=>⟨ρ,I,λ_ _ h=>h,λi β hi _=>by simp at hi⟩
 | B::news,k,ρ,H,I,hok,hnews,hinj,hfree=>by
  simp only[Z5C,Ld]at hok;obtain⟨⟨hB,hnone⟩,hrest⟩:=hok;have hH:H (nid dst clk k)=X:=by
   revert hnone;cases H (nid dst clk k)with
   | none=>exact λ_=>rfl
   | some _=>exact λh=>by cases h
  obtain⟨β,h1,h2,h3⟩:=hnews 0 B rfl;rw[Lx]at h1;have J:=I.adopt (nid dst clk k) (Zde dst clk k) hH β B (λg hg=>⟨λb κ hb=>hfree 0 pq β g (by rw[Lx];exact h1) hg b κ hb,(h3 g hg).1,(h3 g hg).2.1,(h3 g hg).2.2⟩) (h2.arr_any hB (λ_ h=>h));obtain⟨ρ2,J2,s1,s2⟩:=Zdk news (k+1) _ _ J hrest (λi B' hB'=>by
    have:=hnews (i+1) B' (by simpa using hB');rwa [show k+(i+1)=k+1+i from by omega]at this) hinj (λi hi β' g hβ' hg b κ hb=>by
    unfold updR at hb;split at hb
    .cases hb;intro hg';have:=hinj _ _ _ _ g h1 hβ' hg' hg;omega
    .exact hfree (i+1) qo β' g (by rw[show k+(i+1)=k+1+i from by omega];exact hβ') hg b κ hb)
  refine⟨ρ2,J2,λb κ hb=>s1 b κ (Z1X (I.fresh _ (Zde dst clk k) hH) b κ hb),λi κ hi hκ=>?_⟩;cases i with
  | zero =>
   rw[Lx]at hκ ⊢;rw[h1]at hκ;cases hκ;exact s1 _ _ (Z2g _ _ _)
  | succ i =>
   rw[show k+(i+1)=k+1+i from by omega]at hκ ⊢;exact s2 i κ (by simpa using hi) hκ
theorem Inv.called(I:Inv Ow Im0 w0 ρ w Im H clk){w':World}(K:Kept (λ_=>False) w w')(Im':Nat->Prop)(h1:∀ g,Im' g->Im g\/w.heap.size<=g)(h2:∀ g,Im' g->g<w'.heap.size) :
  Inv Ow Im0 w0 ρ w' (λg=>Im g\/Im' g) H clk/\Ext Im w w':=by
 have he:Ext Im w w':=⟨K.size,λg hg=>K.block g (I.imb g hg) (λh=>h),λg hg=>K.rows g hg⟩
 refine⟨⟨⟨K.os.trans I.kept.os,K.tape.trans I.kept.tape,K.output.trans I.kept.output,Lv I.kept.size K.size,λk hk ho=>?_,λk hk=>?_⟩,I.inj, ?_,λb β g h h'=>Lf (I.bnd b β g h h') K.size,I.own, ?_, ?_, ?_,I.fresh,I.one⟩,he⟩
 .rw[K.block k (Lf hk I.kept.size) (λh=>h)];exact I.kept.block k hk ho
 .rw[K.rows k (Lf hk I.kept.size)];exact I.kept.rows k hk
 .intro b β g l h h' him;rcases him with him | him
  .exact I.notIm b β g l h h' him
  .rcases h1 g him with h1 | h1
   .exact I.notIm b β g l h h' h1
   .have:=I.bnd b β g h h';omega
 .intro g hg;rcases hg with hg | hg
  .exact Lf (I.imb g hg) K.size
  .exact h2 g hg
 .intro g hg;rcases hg with hg | hg
  .exact I.im0 g hg
  .rcases h1 g hg with h1 | h1
   .exact I.im0 g h1
   .exact .inr (.inl (Lv I.kept.size h1))
 .intro b B h;obtain⟨β,k1,k2⟩:=I.blk b B h;exact⟨β,k1,k2.mono he (λ_ h=>.inl h) (λ_ _ h=>h) I.bnd (λg hg=>K.block g (I.bnd b β g k1 hg) (λh=>h))⟩
end
structure Out where
 tmps:List AV
 H:Heap
 ph:List Prop
 eq:List (AV×AV)
structure Core where
 sl:Option (Nat×AV)
 ups:List (Nat×Blk)
 ph:List Prop
 eq:List (AV×AV)
def applyU:List (Nat×Blk)->Heap->Heap
 | [],H=>H
 | (b,B)::r,H=>applyU r (updH H b B)
def Core.out(c:Core)(tmps:List AV)(H:Heap):Out:=⟨match c.sl with | U (d,v)=>tmps.set d v | X=>tmps,applyU c.ups H,c.ph,c.eq⟩
def look(k:Nat):List (Nat×List Hint)->List Hint
 | []=>[]
 | (j,h)::r=>if j=k then h else look k r
def keyOf(o:Oper):Nat:=match o.dst with
 | some d=>d
 | none=>match o.op with
  | .store _ (.tmp t) _=>10000+t
  | _=>20000
def Res.ups(r:Res):List (Nat×Blk):=match r.up with | U x=>[x] | X=>[]
def Res.applyU(r:Res)(H:Heap):applyU r.ups H=r.heap H:=by
 unfold Res.ups Res.heap;cases r.up with
 | none=>rfl
 | some x=>rfl
def Z2J(P:Program)(clk:Nat)(hints:List (Nat×List Hint))(o:Oper)(G:Option Bool)(tmps:List AV)(H:Heap):Option Core :=
 match o.dst with
 | some d=>match H (clk*8000+d)with
  | some _=>X
  | none=>match act P o (clk*8000+d) (look (keyOf o) hints) (Z1r G (ev tmps)) H with
   | some r=>match G,r.up with
    | some _,some _=>X
    | _,_=>U ⟨U (d,mkG G r.val),r.ups,phG G r.ph,Z3b G (ev tmps) o.op.operands.toList⟩
   | none=>X
 | none=>match G with
  | some _=>X
  | none=>match H (clk*8000+7999)with
   | some _=>X
   | none=>match act P o (clk*8000+7999) (look (keyOf o) hints) (ev tmps) H with
    | some r=>U ⟨X,r.ups,r.ph,[]⟩
    | none=>X
def conj(G:Option Bool)(b:Bool):Bool:=match G with | X=>b | U g=>g&&b
def asB(x:AV):Option Bool:=match x with | .d (.sc (.bool b))=>U b | _=>X
def gdB(x:AV):Option (Bool×Bool):=match x with | .gd g (.d (.sc (.bool b)))=>U (g,b) | _=>X
def Zj4(x:Operand):Bool:=match x with | .const (.bool b)=>b | _=>Z
def Zey(x:Operand):Bool:=match x with | .const (.bool b)=>!b | _=>Z
def Z7m(hints:List (Nat×List Hint))(o:Oper)(c a b:Operand)(G:Option Bool)(tmps:List AV):Option Core :=
 match o.dst with
 | none=>X
 | some d=>match asB (Z1r G (ev tmps) c)with
  | none=>X
  | some gc=>match Zj4 a with
   | true=>match gdB (ev tmps b)with
    | some (g',v)=>U ⟨U (d,mkG G (Z57 (gc||v) (look d hints)).val),[],phG G (Z57 (gc||v) (look d hints)).ph,Z3b G (ev tmps) [c]++[(bv g',bv (conj G (!gc)))]⟩
    | none=>X
   | false=>match Zey b with
    | true=>match gdB (ev tmps a)with
     | some (g',v)=>U ⟨U (d,mkG G (Z57 (gc&&v) (look d hints)).val),[],phG G (Z57 (gc&&v) (look d hints)).ph,Z3b G (ev tmps) [c]++[(bv g',bv (conj G gc))]⟩
     | none=>X
    | false=>X
def Z9L(P:Program)(f:Nat):Bool:=match P.funcs[f]? with | U fn=>fn.body.isSome&&!(fn.name == "runtime.NumGoroutine") | X=>Z
def ZiQ(dst clk:Nat):Nat->List Blk->List (Nat×Blk)
 | _,[]=>[]
 | k,B::r=>(nid dst clk k,B)::ZiQ dst clk (k+1) r
def Z9f(dst clk:Nat):∀ (news:List Blk) (k:Nat) (H:Heap),applyU (ZiQ dst clk k news) H=Zeu dst clk k news H
 | [],_,_=>rfl
 | B::r,k,H=>Z9f dst clk r (k+1) (updH H (nid dst clk k) B)
def Z7b(P:Program)(clk:Nat)(hints:List (Nat×List Hint))(o:Oper)(f:Operand)(args:List Operand)(G:Option Bool)(tmps:List AV)(H:Heap):Option Core :=
 match o.dst with
 | none=>X
 | some d=>match Z1r G (ev tmps) f with
  | .fn k caps=>match look d hints with
   | .call fr res news::_ =>
    match (match fr with | Y=>toDD H ((args.map (Z1r G (ev tmps)))++caps) | Z=>(if((args.map (Z1r G (ev tmps)))++caps).all Z8R then U ((args.map (Z1r G (ev tmps)))++caps)else X))with
    | some as=>if Z9L P k&&Z5C d clk 0 news H then
     match G,news with
     | some _,_::_=>X
     | _,_=>U ⟨U (d,mkG G (mapT (renF d clk) res)),ZiQ d clk 0 news,phG G [GSpec P k as fr res news],Z3b G (ev tmps) (f::args)⟩
     else X
    | none=>X
   | _=>X
  | _=>X
def Zo3:AV->Bool
 | .tu l=>l.all Z8R
 | a=>Z8R a
def idxN(b:Nat):List Nat->Nat->Option Nat
 | [],_=>X
 | x::l,k=>match XU x b with | Y=>U k | Z=>idxN b l (k+1)
def nodupB:List Nat->Bool
 | []=>Y
 | x::l=>(match idxN x l 0 with | X=>Y | U _=>Z)&&nodupB l
def ksL:AV->List Nat
 | .ow b=>[b]
 | .os b _ _=>[b]
 | _=>[]
def ksM:AV->List Nat
 | .ag l=>l.flatMap ksL
 | .fn _ l=>l.flatMap ksL
 | .ic _ a=>ksL a
 | a=>ksL a
def Z7e(H:Heap):List Nat->Bool
 | []=>Y
 | b::l=>(match H b with | U (.arr ..)=>Y | _=>Z)&&Lt 8000 b&&Z7e H l
def Z75(P:Program)(clk:Nat)(hints:List (Nat×List Hint))(o:Oper)(f:Operand)(args:List Operand)(G:Option Bool)(tmps:List AV)(H:Heap):Option Core :=
 match G with
 | some _=>X
 | none=>match o.dst with
  | none=>X
  | some d=>match ev tmps f with
   | .fn k caps=>match look d hints with
    | .kill res::_=>match toDD H (args.map (ev tmps)++caps)with
     | some as=>match Z9L P k&&Z7e H ((args.map (ev tmps)++caps).flatMap ksM)&&Zo3 res with
      | true=>U ⟨U (d,res),((args.map (ev tmps)++caps).flatMap ksM).map λb=>(b,.dead),[GSpec P k as Z res []],[]⟩
      | false=>X
     | none=>X
    | _=>X
   | _=>X
def Znd(o:Oper)(hints:List (Nat×List Hint)):Bool:=match o.dst with
 | some d=>match look d hints with | .kill _::_=>Y | _=>Z
 | none=>Z
def allO(g:AV->Option AV):List AV->Option (List AV)
 | []=>U []
 | a::l=>match g a,allO g l with
  | some x,some r=>U (x::r)
  | _,_=>X
def nmL(f:Nat->Option Nat)(x:AV):Option AV:=match x with
 | .d x=>U (.d x)
 | .rp e o=>U (.rp e o)
 | .pt b i o=>match f b with | U k=>U (.pt k i o) | X=>X
 | .os b o n=>match f b with | U k=>U (.os k o n) | X=>X
 | .ow b=>match f b with | U k=>U (.ow k) | X=>X
 | _=>X
def nmM(f:Nat->Option Nat)(x:AV):Option AV:=match x with
 | .ag l=>match allO (nmL f) l with | U r=>U (.ag r) | X=>X
 | .fn g l=>match allO (nmL f) l with | U r=>U (.fn g r) | X=>X
 | .ic t (.ag l)=>match allO (nmL f) l with | U r=>U (.ic t (.ag r)) | X=>X
 | .ic t a=>match nmL f a with | U r=>U (.ic t r) | X=>X
 | x=>nmL f x
def nmB(f:Nat->Option Nat)(B:Blk):Option Blk:=match B with
 | .box ty cells=>match allO (nmM f) cells with | U r=>U (.box ty r) | X=>X
 | .arr ty s els=>U (.arr ty s els)
 | .dead=>X
def preB(f:Nat->Option Nat)(H:Heap):List Nat->Option (List Blk)
 | []=>U []
 | b::l=>match H b,preB f H l with
  | some B,some r=>match nmB f B with | U C=>U (C::r) | X=>X
  | _,_=>X
def hL(l:List Blk):Heap:=λk=>l[k]?
def BorSpec(P:Program)(f:Nat)(args:List AV)(pre:List Blk)(res:AV)(post:List Blk):Prop :=
 ∀ (w:World) (Im:Nat->Prop) (ρ:Rho) (vs:Array Value),(∀ g,Im g->g<w.heap.size)->vs.size=args.length->(∀ k β,ρ k=U β->k<pre.length) ->
  (∀ b b' β β' g,ρ b=U β->ρ b'=U β'->β.g=U g->β'.g=U g->b=b')->(∀ b β g,ρ b=U β->β.g=U g->g<w.heap.size/\¬ Im g) ->
  (∀ (k:Nat) (B:Blk),pre[k]? = U B->∃ β,ρ k=U β/\RelB ρ w Im β B)->(∀ (i:Nat) (x:AV) (v:Value),args[i]? = U x->vs[i]? = U v->Rel ρ w Im x v) ->
  Calls P f vs w λe w'=>∃ v,e = .returned v/\Kept (OwA (ownR ρ)) w w'/\∃ (ρ':Rho) (Im':Nat->Prop),(∀ k β,ρ k=U β->ρ' k=U β)/\(∀ k β,ρ' k=U β->k<post.length) /\
   (∀ g,Im' g->Im g\/w.heap.size<=g\/OwA (ownR ρ) g)/\(∀ g,Im' g->g<w'.heap.size) /\
   (∀ k β g,ρ' k=U β->β.g=U g->g<w'.heap.size/\(w.heap.size<=g\/OwA (ownR ρ) g)) /\
   (∀ k β g,live (hL post) k->ρ' k=U β->β.g=U g->¬ Im' g) /\
   (∀ k k' β β' g,live (hL post) k->live (hL post) k'->ρ' k=U β->ρ' k'=U β'->β.g=U g->β'.g=U g->k=k') /\
   (∀ (k:Nat) (B:Blk),post[k]? = U B->∃ β,ρ' k=U β/\RelB ρ' w' Im' β B)/\Rel ρ' w' Im' res v
abbrev LentSpec:=BorSpec
def nids(dst clk:Nat):Nat->Nat->List Nat
 | _,0=>[]
 | k,n+1=>nid dst clk k::nids dst clk (k+1) n
def Z3d(H:Heap):List Nat->Bool
 | []=>Y
 | b::l=>(match H b with | X=>Y | U _=>Z)&&Z3d H l
def renI(ids:List Nat):AV->AV
 | .pt k i o=>.pt (ids.getD k 0) i o
 | .os k o n=>.os (ids.getD k 0) o n
 | .ow k=>.ow (ids.getD k 0)
 | a=>a
def Z48(ids:List Nat):Blk->Blk
 | .box ty cells=>.box ty (cells.map (mapA (renI ids)))
 | B=>B
def fnOf:AV->List Operand->Option (Nat×List AV)
 | .fn k caps,_=>U (k,caps)
 | .fm k a,[]=>U (k,[a])
 | _,_=>X
def Z2c(dst clk:Nat)(ls:List Nat)(post:List Blk):List Nat:=ls++nids dst clk 0 (post.length-ls.length)
def borH:List Hint->Option (Option (Nat×Nat)×List Nat×AV×List Blk)
 | .bor ls res post::_=>U (X,ls,res,post)
 | .gh ty s::.bor ls res post::_=>U (U (ty,s),ls,res,post)
 | _=>X
def ghH(g:Nat)(H:Heap):Option (Nat×Nat)->Heap
 | none=>H
 | some (ty,s)=>updH H g (.arr ty s [])
def ghV(g:Nat)(av:Operand->AV):Option (Nat×Nat)->Operand->AV
 | none,y=>av y
 | some _,.const (.slice none 0 0)=>.ow g
 | some _,y=>av y
def ghOk(g:Nat)(ls:List Nat)(H:Heap):Option (Nat×Nat)->Bool
 | none=>Y
 | some _=>Z3d H [g]&&(match idxN g ls 0 with | X=>Z | U _=>Y)
def Z9u(P:Program)(clk:Nat)(hints:List (Nat×List Hint))(o:Oper)(f:Operand)(args:List Operand)(G:Option Bool)(tmps:List AV)(H:Heap):Option Core :=
 match o.dst with
 | none=>X
 | some d=>match (match G with | X=>Y | U g=>g)with
  | false=>match borH (look d hints)with
   | some (_,_,res,_)=>U ⟨U (d,mkG G res),[],[],[]⟩
   | none=>X
  | true=>match fnOf (Z1r G (ev tmps) f) args with
   | some (k,caps)=>match borH (look d hints)with
    | some (gh,ls,res,post)=>match allO (nmM λb=>idxN b ls 0) (args.map (ghV (nid d clk 6) (Z1r G (ev tmps)) gh)++caps),preB (λb=>idxN b ls 0) (ghH (nid d clk 6) H gh) ls with
     | some as,some pre=>match post with
      | []=>match Z9L P k&&nodupB ls&&gh.isNone with
       | true=>U ⟨U (d,mapT (renI ls) res),[],[BorSpec P k as pre res pre],Z3b G (ev tmps) (f::args)⟩
       | false=>X
      | B::post=>match Z9L P k&&nodupB (Z2c d clk ls (B::post))&&Lt ls.length (B::post).length&&Lt ((B::post).length-ls.length) 7&&Z3d H (nids d clk 0 ((B::post).length-ls.length))&&ghOk (nid d clk 6) ls H gh with
       | true=>U ⟨U (d,mapT (renI (Z2c d clk ls (B::post))) res),(Z2c d clk ls (B::post)).zip ((B::post).map (Z48 (Z2c d clk ls (B::post)))),[BorSpec P k as pre res (B::post)],Z3b G (ev tmps) (f::args)⟩
       | false=>X
     | _,_=>X
    | none=>X
   | none=>X
def Zqe(o:Oper)(hints:List (Nat×List Hint)):Bool:=match o.dst with
 | some d=>(borH (look d hints)).isSome
 | none=>Z
def borL(hints:List (Nat×List Hint))(o:Oper):List Nat:=match o.dst with
 | some d=>match borH (look d hints)with | U (_,ls,_,_)=>ls | X=>[]
 | none=>[]
def Z4u(P:Program)(clk:Nat)(hints:List (Nat×List Hint))(o:Oper)(c:Call)(tmps:List AV)(H:Heap):Option Core :=
 match o.dst with
 | none=>X
 | some d=>match c.args.toList,c.argTypes.toList with
  | [x,y],[t,t']=>match H (clk*8000+d)with
   | some _=>X
   | none=>match Z4y P t t' (clk*8000+d) (look d hints) (ev tmps x) (ev tmps y) H with
    | some (b,r)=>U ⟨U (d,r.val),(b,.dead)::r.ups,r.ph,[]⟩
    | none=>X
  | _,_=>X
def Z2R(P:Program)(clk:Nat)(ops:Array Oper)(hints:List (Nat×List Hint))(o:Oper)(tmps:List AV)(H:Heap):Option Core :=
 match guardOf ops tmps o.guard with
 | none=>X
 | some G=>match o.op with
  | .pick c a b=>Z7m hints o c a b G tmps
  | .call c=>match c.callee with
   | .value f=>match Znd o hints with
    | true=>Z75 P clk hints o f c.args.toList G tmps H
    | false=>match Zqe o hints with
     | true=>Z9u P clk hints o f c.args.toList G tmps H
     | false=>Z7b P clk hints o f c.args.toList G tmps H
   | .builtin .append=>match G with
    | none=>Z4u P clk hints o c tmps H
    | some _=>X
   | _=>Z2J P clk hints o G tmps H
  | _=>Z2J P clk hints o G tmps H
def Z8H(P:Program)(clk:Nat)(ops:Array Oper)(hints:List (Nat×List Hint))(o:Oper)(tmps:List AV)(H:Heap):Option Out :=
 match Z2R P clk ops hints o tmps H with
 | some c=>U (c.out tmps H)
 | none=>X
def getD_some{tmps:List AV}{t:Nat}{x:AV}(h:tmps.getD t .any=x)(hx:x≠.any):tmps[t]? = U x:=by
 by_cases ht:t<tmps.length
 .simp[Xf,Lj ht]at h;rw[Lj ht,h]
 .simp[Xf,List.getElem?_eq_none (Nat.le_of_not_lt ht)]at h;exact absurd h.symm hx
def RelT.at{D:List Deferred}{ρ:Rho}{w:World}{Im:Nat->Prop}{tmps:List AV}{a:Act}(T:RelT D ρ w Im tmps a){t:Nat}{x:AV}(h:tmps[t]? = U x):∃ v,a.tmps[t]? = U v/\Rel ρ w Im x v:=by
 have ht:t<a.tmps.size:=by rw[T.size];exact(Lb.1 h).1
 exact⟨a.tmps[t],Ls ht,T.tmp t x _ h (Ls ht)⟩
def Zhc{D:List Deferred}{ρ:Rho}{w:World}{Im:Nat->Prop}{tmps:List AV}{a:Act}(T:RelT D ρ w Im tmps a){ops:Array Oper}{o:Oper}{G:Option Bool}(h:guardOf ops tmps o.guard=U G) :
  (G=X/\Lw o (yielded ops a.tmps)=Y)\/∃ g,G=U g/\Lw o (yielded ops a.tmps)=g:=by
 unfold guardOf at h;split at h
 .rename_i hg;cases h;exact .inl ⟨rfl,by simp[Lw,hg]⟩
 .rename_i j want hg;split at h;rotate_left
  .cases h
  rename_i oj hj;split at h;rotate_left
  .cases h
  rename_i t ht;split at h
  .rename_i b hb;cases h;obtain⟨v,h1,h2⟩:=T.at (getD_some hb pq)
   cases Z15 h2;refine .inr ⟨_,rfl, ?_⟩;simp only[Lw,hg,yielded,hj,Xw,ht,h1];cases want<;>cases b<;>rfl
  .rename_i g b hb;cases h;obtain⟨v,h1,h2⟩:=T.at (getD_some hb pq)
   refine .inr ⟨_,rfl, ?_⟩;cases h2 with
   | gd k1 k2 =>
    cases g with
    | true =>
     cases Z15 (k1 rfl);simp only[Lw,hg,yielded,hj,Xw,ht,h1];cases want<;>cases b<;>rfl
    | false =>
     rw[k2 rfl]at h1;simp only[Lw,hg,yielded,hj,Xw,ht,h1,undef];cases want<;>rfl
  .cases h
section
variable {P:Program} {Ow:Own} {Im0:Nat->Prop} {w0:World} {clk:Nat} {hints:List (Nat×List Hint)} {o:Oper} {tmps:List AV} {H:Heap} {a:Act} {w:World} {out:Out} {next:Act->World->Prop} {Q:Exit->Act->World->Prop}
abbrev Z3j(P:Program)(Ow:Own)(Im0:Nat->Prop)(w0:World)(clk:Nat)(o:Oper)(G:Option Bool)(H:Heap)(tmps:List AV)(out:Out):Prop :=
 ∀ (a:Act) (w:World) (ρ:Rho) (Im:Nat->Prop) (next:Act->World->Prop) (Q:Exit->Act->World->Prop),Inv Ow Im0 w0 ρ w Im H clk->RelT Ow.ds ρ w Im tmps a->allP out.ph->EqP out.eq ->
  (∀ a' w',Sys Ow Im0 w0 out.tmps out.H clk a' w'->next a' w')->((∀ g,G=U g->g=Y)->o.wp P a w next Q)/\((∃ g,G=U g/\g=Z)->next (a.put o.dst undef) w)
theorem EqP.left{l m:List (AV×AV)}(h:EqP (l++m)):EqP l:=λp hp=>h p (F.2 (.inl hp))
theorem EqP.right{l m:List (AV×AV)}(h:EqP (l++m)):EqP m:=λp hp=>h p (F.2 (.inr hp))
theorem Zbs{ρ:Rho}{w:World}{Im:Nat->Prop}{G:Option Bool}{x:AV}{v:Value}(hG:∀ g,G=U g->g=Y)(h:Rel ρ w Im x v):Rel ρ w Im (mkG G x) v:=by
 cases G with
 | none=>exact h
 | some g=>exact .gd (λ_=>h) (λe=>by rw[hG g rfl]at e;cases e)
theorem Z9m{ρ:Rho}{Im:Nat->Prop}(I:Inv Ow Im0 w0 ρ w Im H clk)(T:RelT Ow.ds ρ w Im tmps a){G:Option Bool}(hG:∃ g,G=U g/\g=Z)(d:Nat)(x:AV):Sys Ow Im0 w0 (tmps.set d (mkG G x)) H clk (a.put (U d) undef) w:=by
 obtain⟨g,rfl,rfl⟩:=hG;exact⟨ρ,Im,I,T.put d (.gd (λh=>by cases h) (λ_=>rfl))⟩
open Classical in
theorem Zg9{G:Option Bool}{out:Core}(h:Z2J P clk hints o G tmps H=U out):Z3j P Ow Im0 w0 clk o G H tmps (out.out tmps H):=by
 intro a w ρ Im next Q I T hph heq hn
 unfold Z2J at h;split at h
 .rename_i d hd;split at h
  .cases h
  rename_i hH;split at h;rotate_left
  .cases h
  rename_i r hr;let E2:Operand->AV:=λx=>if x∈o.op.operands.toList then Z1r G (ev tmps) x else .any
  have hcong:act P o (clk*8000+d) (look (keyOf o) hints) E2 H=U r:=by
   rw[<- hr];exact Z96 λx hx=>by simp only[E2];rw[if_pos hx]
  have hs:=Zd3 hcong;have key:out=⟨U (d,mkG G r.val),r.ups,phG G r.ph,Z3b G (ev tmps) o.op.operands.toList⟩/\(G=X\/r.up=X):=by
   clear hr hcong hs heq hph hn E2;cases G with
   | none=>injection h with h;exact⟨h.symm,.inl rfl⟩
   | some g =>
    cases hu:r.up with
    | none=>rw[hu]at h;injection h with h;exact⟨h.symm,.inr rfl⟩
    | some x=>rw[hu]at h;cases h
  obtain⟨rfl,hup⟩:=key;refine⟨λhG=>?_,λhG=>?_⟩
  .refine(hs Ow Im0 w0 ρ w Im clk a I oq hH (λx=>?_) (Z8b hph hG)).wp λv w' ht=>?_
   .simp only[E2];split
    .rename_i hx;exact Z3v hx heq hG (Z1E T x)
    .exact .any _
   .obtain⟨ρ',I',he,hsub,hv⟩:=ht;rw[hd];exact hn _ _ ⟨ρ',Im,by show Inv _ _ _ _ _ _ (applyU r.ups H) _;rw[Res.applyU];exact I',(T.mono he (λ_ h=>h) hsub I.bnd).put d (Zbs hG hv)⟩
  .rw[hd];have:r.up=X:=by
    rcases hup with h | h
    .obtain⟨g,hg,_⟩:=hG;rw[h]at hg;cases hg
    .exact h
   have hheap:applyU r.ups H=H:=by rw[Res.applyU];simp[Res.heap,this]
   refine hn _ _ ?_;show Sys Ow Im0 w0 (tmps.set d (mkG G r.val)) (applyU r.ups H) clk _ _;rw[hheap];exact Z9m I T hG d r.val
 .rename_i hd;split at h
  .cases h
  split at h
  .cases h
  rename_i hH;split at h;rotate_left
  .cases h
  rename_i r hr;cases h;have hs:=Zd3 hr;refine⟨λ_=>?_,λhG=>by obtain⟨g,hg,_⟩:=hG;cases hg⟩;refine(hs Ow Im0 w0 ρ w Im clk a I oq hH (λx=>Z1E T x) hph).wp λv w' ht=>?_;obtain⟨ρ',I',he,hsub,hv⟩:=ht;rw[hd];exact hn _ _ ⟨ρ',Im,by show Inv _ _ _ _ _ _ (applyU r.ups H) _;rw[Res.applyU];exact I',(T.mono he (λ_ h=>h) hsub I.bnd)⟩
theorem Zay{b:Bool}{hs:List Hint}(h:allP (Z57 b hs).ph)(ρ:Rho)(w:World)(Im:Nat->Prop):Rel ρ w Im (Z57 b hs).val (.bool b):=by
 unfold Z57 at h ⊢;split at h
 .rename_i c _;have:b=c:=by simpa[allP]using h
  rw[this];exact .d (.sc _ rfl)
 .exact .d (.sc _ rfl)
theorem Z8s{x:AV}{b:Bool}(h:asB x=U b):x=bv b:=by
 unfold asB at h;split at h
 .cases h;rfl
 .cases h
theorem Zgh{x:AV}{g b:Bool}(h:gdB x=U (g,b)):x = .gd g (bv b):=by
 unfold gdB at h;split at h
 .cases h;rfl
 .cases h
theorem Zeo{x:Operand}(h:Zj4 x=Y):x = .const (.bool Y):=by
 unfold Zj4 at h;split at h
 .rw[h]
 .cases h
theorem ZdK{x:Operand}(h:Zey x=Y):x = .const (.bool Z):=by
 unfold Zey at h;split at h
 .rename_i b;cases b<;>simp_all
 .cases h
theorem ZcV{G:Option Bool}{b:Bool}(hG:∀ g,G=U g->g=Y):conj G b=b:=by
 cases G with
 | none=>rfl
 | some g=>rw[conj,hG g rfl,Bool.true_and]
theorem ZoJ{G:Option Bool}{c x y:Operand}{out:Core}(ho:o.op = .pick c x y)(h:Z7m hints o c x y G tmps=U out):Z3j P Ow Im0 w0 clk o G H tmps (out.out tmps H):=by
 intro a w ρ Im next Q I T hph heq hn
 unfold Z7m at h;split at h
 .cases h
 rename_i d hd;split at h
 .cases h
 rename_i gc hgc;have hgc':=Z8s hgc;split at h
 .rename_i hx;have hxt:=Zeo hx;split at h;rotate_left
  .cases h
  rename_i g' v hgv;have hgv':=Zgh hgv;cases h;refine⟨λhG=>?_,λhG=>by rw[hd];exact hn _ _ (Z9m I T hG d _)⟩;have hc:=Z3v (l:=[c]) (x:=c) pq heq.left hG (Z1E T c);rw[hgc']at hc;have hcv:=Z15 hc;have hg':g' = !gc:=by
   have:=Zk9 (heq.right (bv g',bv (conj G (!gc))) pq);rw[this,ZcV hG]
  have hy:=Z1E T y;rw[hgv']at hy;have hrun:(execOp a.eval o).run P w = .ok (.value (.bool (gc||v))) w:=by
   cases gc with
   | true =>
    have hxv:a.eval x = .bool Y:=by rw[hxt];rfl
    simp[execOp,ho,hcv,asBool,hxv]
   | false =>
    cases hy with
    | gd k1 k2 =>
     have:=Z15 (k1 (by rw[hg'];rfl));simp[execOp,ho,hcv,asBool,this]
  simp only[LL,hrun,Xv];rw[hd];exact hn _ _ ⟨ρ,Im,I,T.put d (Zbs hG (Zay (Z8b hph hG) ρ w Im))⟩
 .split at h;rotate_left
  .cases h
  rename_i hx;have hxt:=ZdK hx;split at h;rotate_left
  .cases h
  rename_i g' v hgv;have hgv':=Zgh hgv;cases h;refine⟨λhG=>?_,λhG=>by rw[hd];exact hn _ _ (Z9m I T hG d _)⟩;have hc:=Z3v (l:=[c]) (x:=c) pq heq.left hG (Z1E T c);rw[hgc']at hc;have hcv:=Z15 hc;have hg':g'=gc:=by
   have:=Zk9 (heq.right (bv g',bv (conj G gc)) pq);rw[this,ZcV hG]
  have hy:=Z1E T x;rw[hgv']at hy;have hrun:(execOp a.eval o).run P w = .ok (.value (.bool (gc&&v))) w:=by
   cases gc with
   | false =>
    have hxv:a.eval y = .bool Z:=by rw[hxt];rfl
    simp[execOp,ho,hcv,asBool,hxv]
   | true =>
    cases hy with
    | gd k1 k2 =>
     have:=Z15 (k1 hg');simp[execOp,ho,hcv,asBool,this]
  simp only[LL,hrun,Xv];rw[hd];exact hn _ _ ⟨ρ,Im,I,T.put d (Zbs hG (Zay (Z8b hph hG) ρ w Im))⟩
theorem Z24{f:Nat}(h:Z9L P f=Y)(args:Array Value)(w:World):(callFunc f args).run P w = .ok (.enter f args) w:=by
 unfold Z9L at h;split at h
 .rename_i fn hf;simp only[Ld,Bool.not_eq_true']at h;obtain⟨h1,h2⟩:=h;have h3:fn.body.isNone=Z:=by cases hb:fn.body<;>simp_all
  simp only[callFunc,S,run_program,M,hf,h2,h3,Lm,if_false,O]
 .cases h
theorem Zo2{G:Option Bool}{c:Call}{f:Operand}{out:Core}(ho:o.op = .call c)(hc:c.callee = .value f)(h:Z7b P clk hints o f c.args.toList G tmps H=U out):Z3j P Ow Im0 w0 clk o G H tmps (out.out tmps H):=by
 intro a w ρ Im next Q I T hph heq hn
 unfold Z7b at h;split at h
 .cases h
 rename_i d hd;split at h;rotate_left
 .cases h
 rename_i k caps hf;split at h;rotate_left
 .cases h
 rename_i fr res news _ _;split at h;rotate_left
 .cases h
 rename_i as has;split at h;rotate_left
 .cases h
 rename_i hok;simp only[Ld]at hok;have key:out=⟨U (d,mkG G (mapT (renF d clk) res)),ZiQ d clk 0 news,phG G [GSpec P k as fr res news],Z3b G (ev tmps) (f::c.args.toList)⟩/\(G=X\/news=[]):=by
  clear heq hph hn has hf hok;cases G with
  | none=>injection h with h;exact⟨h.symm,.inl rfl⟩
  | some g =>
   cases news with
   | nil=>injection h with h;exact⟨h.symm,.inr rfl⟩
   | cons x l=>cases h
 obtain⟨rfl,hnews⟩:=key;refine⟨λhG=>?_,λhG=>?_⟩;rotate_left
 .rw[hd];have:news=[]:=by
   rcases hnews with h | h
   .obtain⟨g,hg,_⟩:=hG;rw[h]at hg;cases hg
   .exact h
  subst this;exact hn _ _ (Z9m I T hG d _)
 have hspec:GSpec P k as fr res news:=by simpa[allP]using Z8b hph hG
 have hfv:=Z3v (l:=f::c.args.toList) (x:=f) pq heq hG (Z1E T f);rw[hf]at hfv;generalize hfe:a.eval f=fv at hfv;cases hfv with
 | fn hcn hcr =>
  rename_i cs;have hall:∀ (i:Nat) (x:AV) (v:Value),((c.args.toList.map (Z1r G (ev tmps)))++caps)[i]? = U x->(c.args.map a.eval++cs)[i]? = U v->Rel ρ w Im x v:=by
   intro i x v hx hv;rw[LG]at hx;rw[L9]at hv;simp only[LS,Xb,LY]at hx hv;split at hx
   .rename_i hi;rw[if_pos hi]at hv;simp only[Lk,L,Ly]at hx hv;obtain⟨y,hy,rfl⟩:=hx;obtain⟨y',hy',rfl⟩:=hv;have:y=y':=by
     rw[LX]at hy;rw[hy]at hy';cases hy';rfl
    subst this;exact Z3v (Lp _ (N hy)) heq hG (Z1E T y)
   .rename_i hi;rw[if_neg hi]at hv;exact hcr _ x v hx hv
  have hsize:(c.args.map a.eval++cs).size=((c.args.toList.map (Z1r G (ev tmps)))++caps).length:=by simp[hcn]
  have hdata:∃ ImC:Nat->Prop,(∀ g,ImC g->g<w.heap.size)/\(fr=Z->∀ g,ImC g->Im g)/\as.length=((c.args.toList.map (Z1r G (ev tmps)))++caps).length/\∀ (i:Nat) (x:AV) (v:Value),as[i]? = U x->(c.args.map a.eval++cs)[i]? = U v->Rel (λ_=>X) w ImC x v:=by
   cases fr with
   | true =>
    simp only at has;obtain⟨h1,h2⟩:=Zc5 has;refine⟨Zhu ρ Im,λg hg=>?_,λh=>by simp at h,h1,λi x v hx hv=>?_⟩
    .rcases hg with hg | ⟨b,β,hb,hg⟩
     .exact I.imb g hg
     .exact I.bnd b β g hb hg
    .obtain⟨y,hy,hd⟩:=h2 i x hx;exact Zi6 I (hall i y v hy hv) hd
   | false =>
    simp only at has;split at has;rotate_left
    .cases has
    rename_i hp;cases has;simp only[LF]at hp;exact⟨Im,I.imb,λ_ g hg=>hg,rfl,λi x v hx hv=>ZaA (hall i x v hx hv) (hp x (N hx))⟩
  obtain⟨ImC,m1,m2,m3,m4⟩:=hdata;have hcall:=hspec w ImC (c.args.map a.eval++cs) m1 (by rw[hsize,m3]) m4;have hrun:(execOp a.eval o).run P w = .ok (.enter k (c.args.map a.eval++cs)) w:=by
   have:=Z24 (P:=P) hok.1 (c.args.map a.eval++cs) w;simp[execOp,ho,resolve,hc,hfe,L1,invoke,this]
  simp only[LL,hrun,Xu];refine hcall.mono λe w' he=>?_;obtain⟨v,rfl,K,ρ',Im',r1,r2,r3,r4,r5,r6,r7⟩:=he;have him':∀ g,Im' g->Im g\/w.heap.size<=g:=λg hg=>(r1 g hg).imp (λ⟨h1,h2⟩=>m2 h1 g h2) (λh=>h);obtain⟨J,hext⟩:=I.called K Im' him' r2;have hnm:∀ (b:Nat) (β:Bi) (g:Nat),ρ' b=U β->β.g=U g->¬ (Im g\/Im' g):=by
   intro b β g hb hg hor;obtain⟨q1,q2,q3⟩:=r3 b β g hb hg;rcases hor with h | h
   .have:=I.imb g h;omega
   .exact q3 h
  obtain⟨ρ2,J2,s1,s2⟩:=Zdk (ρ':=ρ') (dst:=d) news 0 ρ H J hok.2 (λi B hB=>by
    obtain⟨β,k1,k2⟩:=r6 i B hB;refine⟨β,by rw[L7];exact k1, ?_,λg hg=>⟨hnm i β g k1 hg,(r3 i β g k1 hg).2.1, ?_⟩⟩
    .have hB':ZgZ B=Y:=by
      have:=hok.2;clear hnews hspec hcall r5 r6 h;have:∀ (l:List Blk) (k:Nat) (H:Heap),Z5C d clk k l H=Y->∀ B∈l,ZgZ B=Y:=by
       intro l;induction l with
       | nil=>intro k H _ B hB;simp at hB
       | cons x l ih =>
        intro k H h B hB;simp only[Z5C,Ld]at h;rcases Ll.1 hB with e | e
        .rw[e];exact h.1.1
        .exact ih _ _ h.2 B e
      exact this news 0 H hok.2 B (N hB)
     exact k2.arr_any hB' (λg hg=>.inr hg)
    .have:=(r3 i β g k1 hg).1;have:=I.kept.size;omega) r4 (λi hi β g hb hg b κ hκ hκg=>by
    have:=(r3 _ β g hb hg).1;have:=I.bnd b κ g hκ hκg;omega)
  rw[hd];refine hn _ _ ⟨ρ2,λg=>Im g\/Im' g,by show Inv _ _ _ _ _ _ (applyU (ZiQ d clk 0 news) H) _;rw[Z9f];exact J2,(T.mono hext (λ_ h=>.inl h) s1 I.bnd).put d (Zbs hG ?_)⟩;have ren:∀ k β,ρ' k=U β->ρ2 (nid d clk k)=U β:=by
   intro k β hk;have:=s2 k β (r5 k β hk) (by rw[L7];exact hk);rwa [L7]at this
  refine Z8h (ρ:=ρ') (λg hg=>.inr hg) ?_ ?_ ?_ r7
  .intro b i oo v h;obtain⟨g,s,n,h1,rfl⟩:=Z2U h;exact .pt (ren _ _ h1)
  .intro b oo n v h;cases h with
   | os h1 h2 h3 h4 h5=>exact .os (ren _ _ h1) h2 h3 h4 h5
  .intro b v h;cases h with
   | ow h1 h2 h3 h4=>exact .ow (ren _ _ h1) h2 h3 h4
theorem Zba{ρ ρ':Rho}{w:World}{Im Im':Nat->Prop}{x:AV}{v:Value}(h:Rel ρ w Im x v)(hp:Z8R x=Y)(hi:∀ g,Im g->Im' g):Rel ρ' w Im' x v:=by
 have:=ZaA (ρ':=λ_=>X) h hp;exact this.mono (Ext.refl _ _) hi (λb β hb=>by cases hb) (λb β g hb=>by cases hb)
theorem Zig{ρ ρ':Rho}{w:World}{Im Im':Nat->Prop}{x:AV}{v:Value}(h:Rel ρ w Im x v)(hp:Zo3 x=Y)(hi:∀ g,Im g->Im' g):Rel ρ' w Im' x v:=by
 cases x with
 | tu l =>
  cases h with
  | tu _ cs h1 h3 =>
   simp only[Zo3,LF]at hp;exact .tu _ cs h1 λi a u ha hu=>Zba (h3 i a u ha hu) (hp a (N ha)) hi
 | _=>exact Zba h hp hi
theorem Z1Y{b:Nat}:∀ {l:List Nat} {k n:Nat},idxN b l k=U n->k<=n/\l[n-k]? = U b
 | [],_,_,h=>by cases h
 | x::l,k,n,h=>by
  simp only[idxN]at h;split at h
  .rename_i e;cases h;exact⟨Lu _,by simp[XV e]⟩
  .obtain⟨h1,h2⟩:=Z1Y h;refine⟨by omega, ?_⟩;rw[show n-k=n-(k+1)+1 from by omega];simpa using h2
theorem Z4E{b:Nat}:∀ {l:List Nat} {k:Nat},idxN b l k=X->b∉l
 | [],_,_=>by simp
 | x::l,k,h=>by
  simp only[idxN]at h;split at h
  .cases h
  .rename_i e;have:=XX e;simp only[Ll,not_or];exact⟨λe=>this e.symm,Z4E h⟩
theorem Z3s:∀ {l:List Nat},nodupB l=Y->l.Nodup
 | [],_=>List.nodup_nil
 | x::l,h=>by
  simp only[nodupB,Ld]at h;refine Xn.2 ⟨?_,Z3s h.2⟩;have h1:=h.1;revert h1;cases hx:idxN x l 0 with
  | none=>intro _;exact Z4E hx
  | some _=>intro h;cases h
theorem Z4R{b:Nat}:∀ {l:List Nat} {i j:Nat},l.Nodup->l[i]? = U b->l[j]? = U b->i=j
 | [],i,j,_,hi,_=>by simp at hi
 | x::l,i,j,hn,hi,hj=>by
  obtain⟨h1,h2⟩:=Xn.1 hn;cases i with
  | zero =>
   cases j with
   | zero=>rfl
   | succ j =>
    simp at hi hj;subst hi;exact absurd (N hj) h1
  | succ i =>
   cases j with
   | zero =>
    simp at hi hj;subst hj;exact absurd (N hi) h1
   | succ j =>
    have:=Z4R h2 (by simpa using hi) (by simpa using hj);omega
theorem Z7y{ls:List Nat}:∀ {post:List Blk} {H:Heap},ls.Nodup->post.length=ls.length->∀ b,(∀ (k:Nat),ls[k]? = U b->∃ B,post[k]? = U B/\applyU (ls.zip post) H b=U B)/\(b∉ls->applyU (ls.zip post) H b=H b):=by
 induction ls with
 | nil=>intro post H _ _ b;exact⟨λk h=>by simp at h,λ_=>rfl⟩
 | cons x ls ih =>
  intro post H hn hl b;cases post with
  | nil=>simp at hl
  | cons B post =>
   obtain⟨n1,n2⟩:=Xn.1 hn;obtain⟨i1,i2⟩:=ih (post:=post) (H:=updH H x B) n2 (by simpa using hl) b;simp only[List.zip_cons_cons,applyU];refine⟨λk hk=>?_,λhb=>?_⟩
   .cases k with
    | zero =>
     simp at hk;subst hk;exact⟨B,rfl,by rw[i2 n1];simp[updH]⟩
    | succ k =>
     obtain⟨C,c1,c2⟩:=i1 k (by simpa using hk);exact⟨C,by simpa using c1,c2⟩
   .simp only[Ll,not_or]at hb;rw[i2 hb.2];simp[updH,hb.1]
def Z87(ks:List Nat)(ρ:Rho):Rho:=λb=>if b∈ks then ρ b else X
def Z7J(ks:List Nat)(H:Heap):Heap:=λb=>if b∈ks then H b else X
theorem Z8x{H:Heap}:∀ {l:List Nat},Z7e H l=Y->∀ b∈l,(∃ ty s els,H b=U (.arr ty s els))/\8000<=b
 | [],_,b,hb=>by simp at hb
 | c::l,h,b,hb=>by
  simp only[Z7e,Ld]at h;obtain⟨⟨h1,h2⟩,h3⟩:=h;rcases Ll.1 hb with rfl | hb
  .refine⟨?_,LK h2⟩;split at h1
   .exact⟨_,_,_,by assumption⟩
   .cases h1
  .exact Z8x h3 b hb
theorem Inv.only{ρ:Rho}{Im:Nat->Prop}{ks:List Nat}(I:Inv Ow Im0 w0 ρ w Im H clk)(hk:∀ b∈ks,∃ ty s els,H b=U (.arr ty s els)):Inv Ow Im0 w0 (Z87 ks ρ) w Im (Z7J ks H) clk:=by
 have hρ:∀ b β,Z87 ks ρ b=U β->b∈ks/\ρ b=U β:=by
  intro b β h;unfold Z87 at h;split at h
  .exact⟨aa,h⟩
  .cases h
 have hH:∀ b B,Z7J ks H b=U B->b∈ks/\H b=U B:=by
  intro b β h;unfold Z7J at h;split at h
  .exact⟨aa,h⟩
  .cases h
 have hl:∀ b,live (Z7J ks H) b->live H b:=λb ⟨B,h1,h2⟩=>⟨B,(hH b B h1).2,h2⟩
 refine⟨I.kept,λb b' β β' g l1 l2 q1 q2=>I.inj b b' β β' g (hl b l1) (hl b' l2) (hρ _ _ q1).2 (hρ _ _ q2).2,λb β g l q=>I.notIm b β g (hl b l) (hρ _ _ q).2,λb β g q=>I.bnd b β g (hρ _ _ q).2,λb β g q=>I.own b β g (hρ _ _ q).2,I.imb,I.im0,λb B q=>?_,λb hb q=>?_,I.one.1,λb β h q=>I.one.2 b β h (hρ _ _ q).2⟩
 .obtain⟨k1,k2⟩:=hH b B q;obtain⟨β,m1,m2⟩:=I.blk b B k2;obtain⟨ty,s,els,e⟩:=hk b k1;rw[k2]at e;cases e;exact⟨β,by unfold Z87;rw[if_pos k1];exact m1,m2.arr_any rfl (λ_ h=>h)⟩
 .unfold Z7J at q;unfold Z87;split
  .rename_i hm;rw[if_pos hm]at q;exact I.fresh b hb q
  .rfl
section
variable {ks:List Nat}
theorem Zf6{ρ:Rho}{Im:Nat->Prop}{x y:AV}{v:Value}(h:Rel ρ w Im x v)(hd:toD1 H x=U y)(hk:∀ b∈ksL x,b∈ks):Rel (Z87 ks ρ) w Im x v/\toD1 (Z7J ks H) x=U y:=by
 cases x with
 | d x=>cases h with | d h=>exact⟨.d h,hd⟩
 | rp e o=>cases h with | rp h1 h2 h3=>exact⟨.rp h1 h2 h3,hd⟩
 | ow b =>
  have hb:=hk b (by simp[ksL]);refine⟨?_, ?_⟩
  .cases h with | ow h1 h2 h3 h4=>exact .ow (by unfold Z87;rw[if_pos hb];exact h1) h2 h3 h4
  .simp only[toD1,Z1p]at hd ⊢;simp only[Z7J,if_pos hb];exact hd
 | os b o n =>
  have hb:=hk b (by simp[ksL]);refine⟨?_, ?_⟩
  .cases h with | os h1 h2 h3 h4 h5=>exact .os (by unfold Z87;rw[if_pos hb];exact h1) h2 h3 h4 h5
  .simp only[toD1,Z1p]at hd ⊢;simp only[Z7J,if_pos hb];exact hd
 | _=>simp[toD1]at hd
theorem ksLs{ρ:Rho}{Im:Nat->Prop}:∀ {l m:List AV},toDs H l=U m->(∀ b∈l.flatMap ksL,b∈ks)->toDs (Z7J ks H) l=U m/\∀ (i:Nat) (a:AV) (v:Value),l[i]? = U a->Rel ρ w Im a v->Rel (Z87 ks ρ) w Im a v
 | [],m,h,_=>⟨h,λi a v ha=>by simp at ha⟩
 | x::l,m,h,hk=>by
  simp only[toDs]at h;split at h;rotate_left
  .cases h
  rename_i y r hy hr;cases h;obtain⟨h1,h2⟩:=ksLs (ρ:=ρ) (Im:=Im) hr (λb hb=>hk b (by simp only[LR,F];exact .inr hb));have hkx:∀ b∈ksL x,b∈ks:=λb hb=>hk b (by simp only[LR,F];exact .inl hb);refine⟨?_,λi a v ha hv=>?_⟩
  .simp only[toDs,h1];have:toD1 (Z7J ks H) x=U y:=by
    cases x with
    | d x=>exact hy
    | rp e o=>exact hy
    | ow b=>simp only[toD1,Z1p]at hy ⊢;simp only[Z7J,if_pos (hkx b (by simp[ksL]))];exact hy
    | os b o n=>simp only[toD1,Z1p]at hy ⊢;simp only[Z7J,if_pos (hkx b (by simp[ksL]))];exact hy
    | _=>simp[toD1]at hy
   rw[this]
  .cases i with
   | zero=>simp at ha;subst ha;exact(Zf6 hv hy hkx).1
   | succ i=>exact h2 i a v (by simpa using ha) hv
theorem ZnR{ρ:Rho}{Im:Nat->Prop}{x y:AV}{v:Value}(h:Rel ρ w Im x v)(hd:toD H x=U y)(hk:∀ b∈ksM x,b∈ks):Rel (Z87 ks ρ) w Im x v/\toD (Z7J ks H) x=U y:=by
 cases x with
 | ag l =>
  simp only[toD,L]at hd ⊢;obtain⟨m,hm,rfl⟩:=hd;obtain⟨h1,h2⟩:=ksLs (ρ:=ρ) (Im:=Im) (w:=w) hm hk;obtain⟨cs,rfl,k1,k2,k3⟩:=Z3D h;exact⟨.ag _ cs k1 k2 λi a u ha hu=>h2 i a u ha (k3 i a u ha hu),m,h1,rfl⟩
 | fn f l =>
  simp only[toD,L]at hd ⊢;obtain⟨m,hm,rfl⟩:=hd;obtain⟨h1,h2⟩:=ksLs (ρ:=ρ) (Im:=Im) (w:=w) hm hk;cases h with
  | fn k1 k3=>exact⟨.fn k1 λi a u ha hu=>h2 i a u ha (k3 i a u ha hu),m,h1,rfl⟩
 | ic t a =>
  simp only[toD,L]at hd ⊢;obtain⟨m,hm,rfl⟩:=hd;cases h with
  | ic h =>
   obtain⟨q1,q2⟩:=Zf6 (ks:=ks) h hm hk;exact⟨.ic q1,m,q2,rfl⟩
 | _=>exact Zf6 (H:=H) h hd hk
end
theorem Z4Y{ks:List Nat}:∀ {H:Heap} (b:Nat),(b∈ks->applyU (ks.map λb=>(b,Blk.dead)) H b=U .dead)/\(b∉ks->applyU (ks.map λb=>(b,Blk.dead)) H b=H b):=by
 induction ks with
 | nil=>intro H b;exact⟨λh=>by simp at h,λ_=>rfl⟩
 | cons x ks ih =>
  intro H b;obtain⟨i1,i2⟩:=ih (H:=updH H x .dead) b;simp only[LU,applyU,Ll,not_or];refine⟨λh=>?_,λh=>?_⟩
  .by_cases hb:b∈ks
   .exact i1 hb
   .rw[i2 hb];rcases h with h | h
    .simp[updH,h]
    .exact absurd h hb
  .rw[i2 h.2];simp[updH,h.1]
theorem ZnJ{G:Option Bool}{c:Call}{f:Operand}{out:Core}(ho:o.op = .call c)(hc:c.callee = .value f)(h:Z75 P clk hints o f c.args.toList G tmps H=U out):Z3j P Ow Im0 w0 clk o G H tmps (out.out tmps H):=by
 intro a w ρ Im next Q I T hph heq hn
 unfold Z75 at h;split at h
 .cases h
 split at h
 .cases h
 rename_i d hd;split at h;rotate_left
 .cases h
 rename_i k caps hf;split at h;rotate_left
 .cases h
 rename_i res _ _;split at h;rotate_left
 .cases h
 rename_i as has;generalize hks:(c.args.toList.map (ev tmps)++caps).flatMap ksM=ks at h;split at h;rotate_left
 .cases h
 rename_i hok;cases h;simp only[Ld]at hok;obtain⟨⟨hok1,harr⟩,hres⟩:=hok;have harr:=Z8x harr;obtain⟨a1,a2⟩:=Zc5 has;refine⟨λ_=>?_,λhG=>by obtain⟨g,hg,_⟩:=hG;cases hg⟩;have hspec:GSpec P k as Z res []:=by simpa[allP,Core.out]using hph
 have hfv:=Z1E T f;rw[hf]at hfv;generalize hfe:a.eval f=fv at hfv;cases hfv with
 | fn hcn hcr =>
  rename_i cs;have hall:∀ (i:Nat) (x:AV) (v:Value),((c.args.toList.map (ev tmps))++caps)[i]? = U x->(c.args.map a.eval++cs)[i]? = U v->Rel ρ w Im x v:=by
   intro i x v hx hv;rw[LG]at hx;rw[L9]at hv;simp only[LS,Xb,LY]at hx hv;split at hx
   .rename_i hi;rw[if_pos hi]at hv;simp only[Lk,L,Ly]at hx hv;obtain⟨y,hy,rfl⟩:=hx;obtain⟨y',hy',rfl⟩:=hv;have:y=y':=by
     rw[LX]at hy;rw[hy]at hy';cases hy';rfl
    subst this;exact Z1E T y
   .rename_i hi;rw[if_neg hi]at hv;exact hcr _ x v hx hv
  have hsize:(c.args.map a.eval++cs).size=((c.args.toList.map (ev tmps))++caps).length:=by simp[hcn]
  have hk:∀ b∈ks,∃ ty s els,H b=U (.arr ty s els):=λb hb=>(harr b hb).1;have J:=I.only hk;let ImC:=Zhu (Z87 ks ρ) Im;have hImC:∀ g,ImC g->Im g\/∃ b β,b∈ks/\ρ b=U β/\β.g=U g:=by
   rintro g (h | ⟨b,β,h1,h2⟩)
   .exact .inl h
   .unfold Z87 at h1;split at h1
    .exact .inr ⟨b,β,aa,h1,h2⟩
    .cases h1
  have hlive:∀ b∈ks,live H b:=λb hb=>by
   obtain⟨ty,s,els,e⟩:=hk b hb;exact⟨_,e,by simp⟩
  have hcall:=hspec w ImC (c.args.map a.eval++cs) (λg hg=>by
    rcases hImC g hg with h | ⟨b,β,_,h2,h3⟩
    .exact I.imb g h
    .exact I.bnd b β g h2 h3) (by rw[hsize,a1]) (λi y v hy hv=>by
    obtain⟨x,hx,hdx⟩:=a2 i y hy;obtain⟨q1,q2⟩:=ZnR (ks:=ks) (hall i x v hx hv) hdx (λb hb=>by
     rw[<- hks];exact Lh.2 ⟨x,N hx,hb⟩)
    exact Zi6 J q1 q2)
  have hrun:(execOp a.eval o).run P w = .ok (.enter k (c.args.map a.eval++cs)) w:=by
   have:=Z24 (P:=P) hok1 (c.args.map a.eval++cs) w;simp[execOp,ho,resolve,hc,hfe,L1,invoke,this]
  simp only[LL,hrun,Xu];refine hcall.mono λe w' he=>?_;obtain⟨v,rfl,K,ρ',Im',r1,r2,r3,r4,r5,r6,r7⟩:=he;have hext:Ext Im w w':=⟨K.size,λg hg=>K.block g (I.imb g hg) (λh=>h),λg hg=>K.rows g hg⟩
  have hH':∀ b B,applyU (ks.map λb=>(b,Blk.dead)) H b=U B->(b∈ks/\B = .dead)\/(b∉ks/\H b=U B):=by
   intro b B hB;by_cases hb:b∈ks
   .rw[(Z4Y (H:=H) b).1 hb]at hB;cases hB;exact .inl ⟨hb,rfl⟩
   .rw[(Z4Y (H:=H) b).2 hb]at hB;exact .inr ⟨hb,hB⟩
  have hlive':∀ b,live (applyU (ks.map λb=>(b,Blk.dead)) H) b->b∉ks/\live H b:=by
   rintro b ⟨B,h1,h2⟩;rcases hH' b B h1 with⟨_,rfl⟩ | ⟨q1,q⟩
   .exact absurd rfl h2
   .exact⟨q1,B,q,h2⟩
  rw[hd];have hres':Rel ρ w' (λg=>(Im g\/ImC g)\/Im' g) res v:=Zig r7 hres (λg hg=>.inr hg);refine hn _ _ ⟨ρ,λg=>(Im g\/ImC g)\/Im' g,⟨⟨K.os.trans I.kept.os,K.tape.trans I.kept.tape,K.output.trans I.kept.output,Lv I.kept.size K.size,λkk hk hno=>?_,λkk hk=>?_⟩,
   λb b' β β' g l1 l2=>I.inj b b' β β' g (hlive' b l1).2 (hlive' b' l2).2,λb β g l q1 q2 him=>?_,λb β g q1 q2=>Lf (I.bnd b β g q1 q2) K.size,I.own,λg hg=>?_,λg hg=>?_,λb B hB=>?_,λb hb hB=>?_,I.one⟩,
   (T.mono hext (λ_ h=>.inl (.inl h)) (λ_ _ h=>h) I.bnd).put d hres'⟩
  .rw[K.block kk (Lf hk I.kept.size) (λh=>h)];exact I.kept.block kk hk hno
  .rw[K.rows kk (Lf hk I.kept.size)];exact I.kept.rows kk hk
  .obtain⟨l1,l2⟩:=hlive' b l;have key:¬ ImC g:=by
    intro hc;rcases hImC g hc with h | ⟨b2,β2,h1,h2,h3⟩
    .exact I.notIm b β g l2 q1 q2 h
    .have:=I.inj b b2 β β2 g l2 (hlive b2 h1) q1 h2 q2 h3;subst this;exact l1 h1
   rcases him with(him | him) | him
   .exact I.notIm b β g l2 q1 q2 him
   .exact key him
   .rcases r1 g him with⟨_,h⟩ | h
    .exact key h
    .have:=I.bnd b β g q1 q2;omega
  .rcases hg with(hg | hg) | hg
   .exact Lf (I.imb g hg) K.size
   .rcases hImC g hg with h | ⟨b,β,_,h2,h3⟩
    .exact Lf (I.imb g h) K.size
    .exact Lf (I.bnd b β g h2 h3) K.size
   .exact r2 g hg
  .have key:∀ g,ImC g->Im0 g\/w0.heap.size<=g\/OwA Ow g:=by
    intro g hg;rcases hImC g hg with h | ⟨b,β,h1,h2,h3⟩
    .exact I.im0 g h
    .rcases I.own b β g h2 h3 with⟨h,_⟩ | h
     .exact .inr (.inl h)
     .exact .inr (.inr h)
   rcases hg with(hg | hg) | hg
   .exact I.im0 g hg
   .exact key g hg
   .rcases r1 g hg with⟨_,h⟩ | h
    .exact key g h
    .exact .inr (.inl (Lv I.kept.size h))
  .rcases hH' b B hB with⟨q1,rfl⟩ | ⟨q1,q2⟩
   .obtain⟨ty,s,els,e⟩:=hk b q1;obtain⟨β,m1,_⟩:=I.blk b _ e;exact⟨β,m1,trivial⟩
   .obtain⟨β,m1,m2⟩:=I.blk b B q2;exact⟨β,m1,m2.mono hext (λ_ h=>.inl (.inl h)) (λ_ _ h=>h) I.bnd (λg hg=>K.block g (I.bnd b β g m1 hg) (λh=>h))⟩
  .refine I.fresh b hb ?_;have hB':applyU (ks.map λb=>(b,Blk.dead)) H b=X:=hB;by_cases hbk:b∈ks
   .rw[(Z4Y (H:=H) b).1 hbk]at hB';cases hB'
   .rw[(Z4Y (H:=H) b).2 hbk]at hB';exact hB'
theorem Z3G{f:AV->Option AV}:∀ {l r:List AV},allO f l=U r->r.length=l.length/\∀ (i:Nat) (y:AV),r[i]? = U y->∃ x,l[i]? = U x/\f x=U y
 | [],r,h=>by simp[allO]at h;subst h;simp
 | a::l,r,h=>by
  simp only[allO]at h;split at h;rotate_left
  .cases h
  rename_i x m hx hm;cases h;obtain⟨h1,h2⟩:=Z3G hm;refine⟨by simp[h1],λi y hy=>?_⟩;cases i with
  | zero=>simp at hy;subst hy;exact⟨a,rfl,hx⟩
  | succ i=>exact h2 i y (by simpa using hy)
section
variable {ρ ρ':Rho} {w:World} {Im:Nat->Prop} {f:Nat->Option Nat}
theorem ZbQ(hf:∀ b k β,f b=U k->ρ b=U β->ρ' k=U β){x y:AV}{v:Value}(h:Rel ρ w Im x v)(hx:nmL f x=U y):Rel ρ' w Im y v:=by
 unfold nmL at hx;split at hx
 .cases hx;cases h with
  | d h=>exact .d h
 .cases hx;cases h with
  | rp h1 h2 h3=>exact .rp h1 h2 h3
 .split at hx
  .rename_i k hk;cases hx;obtain⟨g,s,n,h1,rfl⟩:=Z2U h;exact .pt (hf _ _ _ hk h1)
  .cases hx
 .split at hx
  .rename_i k hk;cases hx;cases h with
   | os h1 h2 h3 h4 h5=>exact .os (hf _ _ _ hk h1) h2 h3 h4 h5
  .cases hx
 .split at hx
  .rename_i k hk;cases hx;cases h with
   | ow h1 h2 h3 h4=>exact .ow (hf _ _ _ hk h1) h2 h3 h4
  .cases hx
 .cases hx
theorem Ziy(hf:∀ b k β,f b=U k->ρ b=U β->ρ' k=U β){x y:AV}{v:Value}(h:Rel ρ w Im x v)(hx:nmM f x=U y):Rel ρ' w Im y v:=by
 have agg:∀ {l r:List AV} {v:Value},Rel ρ w Im (.ag l) v->allO (nmL f) l=U r->Rel ρ' w Im (.ag r) v:=λh hr=>by
  obtain⟨cs,rfl,h1,h2,h3⟩:=Z3D h;obtain⟨k1,k2⟩:=Z3G hr;refine .ag _ cs oq h2 λi a u ha hu=>?_;obtain⟨z,m1,m2⟩:=k2 i a ha;exact ZbQ hf (h3 i z u m1 hu) m2
 unfold nmM at hx;split at hx
 .split at hx
  .rename_i r hr;cases hx;exact agg h hr
  .cases hx
 .split at hx
  .rename_i r hr;cases hx;obtain⟨k1,k2⟩:=Z3G hr;cases h with
   | fn hn h =>
    refine .fn oq λi a u ha hu=>?_;obtain⟨z,m1,m2⟩:=k2 i a ha;exact ZbQ hf (h i z u m1 hu) m2
  .cases hx
 .split at hx
  .rename_i r hr;cases hx;cases h with
   | ic h=>exact .ic (agg h hr)
  .cases hx
 .split at hx
  .rename_i r hr;cases hx;cases h with
   | ic h=>exact .ic (ZbQ hf h hr)
  .cases hx
 .exact ZbQ hf h hx
theorem Znu(hf:∀ b k β,f b=U k->ρ b=U β->ρ' k=U β){β:Bi}{B C:Blk}(h:RelB ρ w Im β B)(hx:nmB f B=U C):RelB ρ' w Im β C:=by
 cases B with
 | box ty cells =>
  simp only[nmB]at hx;split at hx;rotate_left
  .cases hx
  rename_i r hr;cases hx;obtain⟨k1,k2⟩:=Z3G hr;obtain⟨h0,h00,g,cs,h1,h2,h3,h3',h4⟩:=h;refine⟨by rw[h0,k1],h00,g,cs,h1,h2,by rw[k1];exact h3,h3',λo a v ha hv=>?_⟩;obtain⟨z,m1,m2⟩:=k2 o a ha;exact Ziy hf (h4 o z v m1 hv) m2
 | arr ty s els=>cases hx;exact h
 | dead=>cases hx
theorem Z8B{H:Heap}:∀ {l:List Nat} {r:List Blk},preB f H l=U r->r.length=l.length/\∀ (k:Nat) (C:Blk),r[k]? = U C->∃ b B,l[k]? = U b/\H b=U B/\nmB f B=U C
 | [],r,h=>by simp[preB]at h;subst h;simp
 | b::l,r,h=>by
  simp only[preB]at h;split at h;rotate_left
  .cases h
  rename_i B r' hB hr;split at h;rotate_left
  .cases h
  rename_i C hd;cases h;obtain⟨h1,h2⟩:=Z8B hr;refine⟨by simp[h1],λk D hD=>?_⟩;cases k with
  | zero=>simp at hD;subst hD;exact⟨b,B,rfl,hB,hd⟩
  | succ k=>simpa using h2 k D (by simpa using hD)
end
theorem ZfC(dst clk:Nat):∀ (n k i:Nat),i<n->(nids dst clk k n)[i]? = U (nid dst clk (k+i))
 | 0,_,_,h=>by omega
 | n+1,k,0,_=>rfl
 | n+1,k,i+1,h=>by
  simp only[nids,Lo];rw[ZfC dst clk n (k+1) i oq,show k+1+i=k+(i+1)from by omega]
theorem Z8q(dst clk:Nat):∀ (n k:Nat),(nids dst clk k n).length=n
 | 0,_=>rfl
 | n+1,k=>by simp[nids,Z8q dst clk n (k+1)]
theorem Zi2{dst clk b:Nat}:∀ {n k:Nat},b∈nids dst clk k n->clk*8000<=b
 | 0,_,h=>by simp[nids]at h
 | n+1,k,h=>by
  simp only[nids,Ll]at h;rcases h with rfl | h
  .exact Zde _ _ _
  .exact Zi2 h
theorem Z4K{H H':Heap}:∀ {l:List Nat},(∀ b∈l,H b=H' b)->Z3d H l=Z3d H' l
 | [],_=>rfl
 | b::l,h=>by
  simp only[Z3d];rw[h b pq,Z4K (l:=l) (λy hy=>h y (by simp[hy]))]
theorem Z5i{H:Heap}:∀ {l:List Nat},Z3d H l=Y->∀ b∈l,H b=X
 | [],_,b,hb=>by simp at hb
 | x::l,h,b,hb=>by
  simp only[Z3d,Ld]at h;rcases Ll.1 hb with rfl | hb
  .have h1:=h.1;revert h1;cases H b with
   | none=>exact λ_=>rfl
   | some _=>exact λh=>by cases h
  .exact Z5i h.2 b hb
theorem Zhm{ids:List Nat}{B:Blk}(h:Z48 ids B≠.dead):B≠.dead:=by
 rintro rfl;exact h rfl
section
variable {ρ ρ':Rho} {w:World} {Im Im':Nat->Prop} {ids:List Nat}
theorem Z88(hr:∀ k β,ρ k=U β->ρ' (ids.getD k 0)=U β) :
  (∀ b i o v,Rel ρ w Im (.pt b i o) v->Rel ρ' w Im' (renI ids (.pt b i o)) v)/\(∀ b o n v,Rel ρ w Im (.os b o n) v->Rel ρ' w Im' (renI ids (.os b o n)) v)/\∀ b v,Rel ρ w Im (.ow b) v->Rel ρ' w Im' (renI ids (.ow b)) v:=by
 refine⟨λb i o v h=>?_,λb o n v h=>?_,λb v h=>?_⟩
 .obtain⟨g,s,n,h1,rfl⟩:=Z2U h;exact .pt (hr _ _ h1)
 .cases h with
  | os h1 h2 h3 h4 h5=>exact .os (hr _ _ h1) h2 h3 h4 h5
 .cases h with
  | ow h1 h2 h3 h4=>exact .ow (hr _ _ h1) h2 h3 h4
theorem Z8Q(hi:∀ g,Im g->Im' g)(hr:∀ k β,ρ k=U β->ρ' (ids.getD k 0)=U β){β:Bi}{B:Blk}(h:RelB ρ w Im β B):RelB ρ' w Im' β (Z48 ids B):=by
 obtain⟨q1,q2,q3⟩:=Z88 (w:=w) (Im:=Im) (Im':=Im') hr;cases B with
 | box ty cells =>
  obtain⟨h0,h00,g,cs,h1,h2,h3,h3',h4⟩:=h;refine⟨by simpa using h0,h00,g,cs,h1,h2,by simpa using h3,h3',λo x v hx hv=>?_⟩;simp only[Lk,L]at hx;obtain⟨y,hy,rfl⟩:=hx;exact Z6J hi q1 q2 q3 (h4 o y v hy hv)
 | arr ty s els=>exact RelB.arr_any (by rfl) h hi
 | dead=>trivial
end
theorem Ze9{G:Option Bool}{c:Call}{f:Operand}{d k:Nat}{caps as:List AV}{ls:List Nat}{res:AV}{pre post:List Blk}(ho:o.op = .call c)(hc:c.callee = .value f)(hd:o.dst=U d)(hGt:∀ g,G=U g->g=Y)(hf:fnOf (Z1r G (ev tmps) f) c.args.toList=U (k,caps)){av:Operand->AV}
  (hav:∀ (a:Act) (w:World) (ρ:Rho) (Im:Nat->Prop),Inv Ow Im0 w0 ρ w Im H clk->∀ y,Rel ρ w Im (Z1r G (ev tmps) y) (a.eval y)->Rel ρ w Im (av y) (a.eval y))
  (has:allO (nmM λb=>idxN b ls 0) (c.args.toList.map av++caps)=U as) (hpre:preB (λb=>idxN b ls 0) H ls=U pre) (hok:(Z9L P k&&nodupB (Z2c d clk ls post)&&Lt ls.length post.length&&Lt (post.length-ls.length) 7&&Z3d H (nids d clk 0 (post.length-ls.length)))=Y) :
  Z3j P Ow Im0 w0 clk o G H tmps ((⟨U (d,mapT (renI (Z2c d clk ls post)) res),(Z2c d clk ls post).zip (post.map (Z48 (Z2c d clk ls post))),[BorSpec P k as pre res post],Z3b G (ev tmps) (f::c.args.toList)⟩:Core).out tmps H):=by
 intro a w ρ Im next Q I T hph heq hn
 simp only[Ld]at hok;obtain⟨⟨⟨⟨hok1,hnd⟩,hlen⟩,_⟩,hnone⟩:=hok;have hnd:=Z3s hnd;have hlen:=LK hlen;have hnone:=Z5i hnone;obtain⟨p1,p2⟩:=Z8B hpre;obtain⟨a1,a2⟩:=Z3G has;refine⟨λhG=>?_,λhG=>by obtain⟨g,h1,h2⟩:=hG;have:=hGt g h1;rw[this]at h2;cases h2⟩;have hspec:BorSpec P k as pre res post:=by simpa[allP,Core.out]using hph
 have hfv:=Z3v (l:=f::c.args.toList) (x:=f) pq heq hG (Z1E T f);generalize hfe:a.eval f=fv at hfv;obtain⟨V,hrunV,hsize,hall⟩:∃ V:Array Value,(∀ w,(execOp a.eval o).run P w = .ok (.enter k V) w)/\V.size=((c.args.toList.map av)++caps).length/\∀ (i:Nat) (x:AV) (v:Value),((c.args.toList.map av)++caps)[i]? = U x->V[i]? = U v->Rel ρ w Im x v:=by
  unfold fnOf at hf;split at hf
  .rename_i k' caps' e;cases hf;rw[e]at hfv;cases hfv with
   | fn hcn hcr =>
    rename_i cs;refine⟨c.args.map a.eval++cs,λw=>?_,by simp[hcn],λi x v hx hv=>?_⟩
    .have:=Z24 (P:=P) hok1 (c.args.map a.eval++cs) w;simp[execOp,ho,resolve,hc,hfe,L1,invoke,this]
    rw[LG]at hx;rw[L9]at hv;simp only[LS,Xb,LY]at hx hv;split at hx
    .rename_i hi;rw[if_pos hi]at hv;simp only[Lk,L,Ly]at hx hv;obtain⟨y,hy,rfl⟩:=hx;obtain⟨y',hy',rfl⟩:=hv;have:y=y':=by
      rw[LX]at hy;rw[hy]at hy';cases hy';rfl
     subst this;exact hav a w ρ Im I y (Z3v (Lp _ (N hy)) heq hG (Z1E T y))
    .rename_i hi;rw[if_neg hi]at hv;exact hcr _ x v hx hv
  .rename_i k' a' e he;cases hf;rw[e]at hfv;have hz:c.args = #[]:=by simpa using he
   cases hfv with
   | fm hr =>
    rename_i u;refine⟨#[u],λw=>?_,by simp[hz],λi x v hx hv=>?_⟩
    .have:=Z24 (P:=P) hok1 #[u] w;simp[execOp,ho,resolve,hc,hfe,hz,L1,invoke,this]
    .rw[hz]at hx;cases i with
     | zero=>simp at hx hv;subst hx;subst hv;exact hr
     | succ i=>simp at hv
  .cases hf
 have hndl:ls.Nodup:=(XT.1 hnd).1;let ρc:Rho:=λk=>match ls[k]? with | U b=>ρ b | X=>X
 have hρc:∀ k β,ρc k=U β->∃ b,ls[k]? = U b/\ρ b=U β:=by
  intro k β hk;simp only[ρc]at hk;split at hk
  .exact⟨_,aa,hk⟩
  .cases hk
 have hin:∀ (k b:Nat),ls[k]? = U b->ρc k=ρ b:=by intro k b h;simp only[ρc,h]
 have hnm:∀ b k β,idxN b ls 0=U k->ρ b=U β->ρc k=U β:=by
  intro b k β hk hb;obtain⟨_,q2⟩:=Z1Y hk;rw[hin k b (by simpa using q2)];exact hb
 have hblk:∀ (k b:Nat),ls[k]? = U b->∃ B C β,pre[k]? = U C/\H b=U B/\nmB (λb=>idxN b ls 0) B=U C/\ρ b=U β/\RelB ρ w Im β B:=by
  intro k b hk;have hk':k<pre.length:=by rw[p1];exact(Lb.1 hk).1
  obtain⟨b',B,q1,q2,q3⟩:=p2 k _ (Lj hk');rw[hk]at q1;cases q1;obtain⟨β,q4,q5⟩:=I.blk b _ q2;exact⟨_,_,β,Lj hk',q2,q3,q4,q5⟩
 have hlive:∀ (k b:Nat),ls[k]? = U b->live H b:=by
  intro k b hk;obtain⟨B,C,β,_,q2,q3,_⟩:=hblk k b hk;exact⟨B,q2,by rintro rfl;simp[nmB]at q3⟩
 have hcall:=hspec w Im ρc V I.imb (by rw[hsize,a1]) (λk β hk=>by
   obtain⟨b,q1,_⟩:=hρc k β hk;rw[p1];exact(Lb.1 q1).1) (λb b' β β' g h1 h2 h3 h4=>by
   obtain⟨c1,q1,q2⟩:=hρc b β h1;obtain⟨c2,r1,r2⟩:=hρc b' β' h2;have:=I.inj c1 c2 β β' g (hlive _ _ q1) (hlive _ _ r1) q2 r2 h3 h4;subst this;exact Z4R hndl q1 r1) (λb β g h1 h2=>by
   obtain⟨c1,q1,q2⟩:=hρc b β h1;exact⟨I.bnd c1 β g q2 h2,I.notIm c1 β g (hlive _ _ q1) q2 h2⟩) (λk C hC=>by
   obtain⟨b,B,q1,q2,q3⟩:=p2 k C hC;obtain⟨β,q4,q5⟩:=I.blk b B q2;exact⟨β,by rw[hin k b q1];exact q4,Znu hnm q5 q3⟩) (λi y v hy hv=>by
   obtain⟨x,hx,hr⟩:=a2 i y hy;exact Ziy hnm (hall i x v hx hv) hr)
 have hrun:=hrunV w;simp only[LL,hrun,Xu];refine hcall.mono λe w' he=>?_;obtain⟨v,rfl,K,ρ',Im',s1,s2,r1,r2,s3,s4,s5,r3,r4⟩:=he;have hmem:∀ g,OwA (ownR ρc) g->∃ (kk b:Nat) (β:Bi),ls[kk]? = U b/\ρ b=U β/\β.g=U g:=by
  rintro g ⟨kk,β,h1,h2⟩;obtain⟨b,q1,q2⟩:=hρc kk β h1;exact⟨kk,b,β,q1,q2,h2⟩
 have hnl:∀ g,Im g->¬ OwA (ownR ρc) g:=by
  intro g hg h;obtain⟨kk,b,β,q1,q2,q3⟩:=hmem g h;exact I.notIm b β g (hlive _ _ q1) q2 q3 hg
 have hext:Ext Im w w':=⟨K.size,λg hg=>K.block g (I.imb g hg) (hnl g hg),λg hg=>K.rows g hg⟩
 generalize hids:Z2c d clk ls post=ids at hnd hn hph;have hidl:ids.length=post.length:=by
  rw[<- hids,Z2c,Lq,Z8q];omega
 have hidn:∀ (kk b:Nat),ids[kk]? = U b->ls[kk]? = U b\/(ls.length<=kk/\clk*8000<=b/\H b=X):=by
  intro kk b hb;rw[<- hids,Z2c,LG]at hb;split at hb
  .exact .inl hb
  .have hm:=N hb;exact .inr ⟨by omega,Zi2 hm,hnone b hm⟩
 have hidls:∀ (kk b:Nat),ls[kk]? = U b->ids[kk]? = U b:=by
  intro kk b hb;rw[<- hids,Z2c,LG,if_pos (Lb.1 hb).1];exact hb
 have hidm:∀ b,b∈ids->∃ kk:Nat,ids[kk]? = U b:=λb hb=>LH hb;let ρ2:Rho:=λb=>match idxN b ids 0 with | U kk=>ρ' kk | X=>ρ b
 have hρin:∀ (kk b:Nat),ids[kk]? = U b->ρ2 b=ρ' kk:=by
  intro kk b hb;simp only[ρ2];cases hx:idxN b ids 0 with
  | none=>exact absurd (N hb) (Z4E hx)
  | some k2 =>
   obtain⟨_,q⟩:=Z1Y hx;rw[Z4R hnd hb (by simpa using q)]
 have hρout:∀ b,b∉ids->ρ2 b=ρ b:=by
  intro b hb;simp only[ρ2];cases hx:idxN b ids 0 with
  | none=>rfl
  | some k2 =>
   obtain⟨_,q⟩:=Z1Y hx;exact absurd (N q) hb
 have hsub:∀ b β,ρ b=U β->ρ2 b=U β:=by
  intro b β hb;by_cases hm:b∈ids
  .obtain⟨kk,hkk⟩:=hidm b hm;rw[hρin kk b hkk];rcases hidn kk b hkk with h | ⟨_,h1,h2⟩
   .exact s1 kk β (by rw[hin kk b h];exact hb)
   .rw[I.fresh b h1 h2]at hb;cases hb
  .rw[hρout b hm];exact hb
 have hH2:=λb=>Z7y (ls:=ids) (post:=post.map (Z48 ids)) (H:=H) hnd (by simp[hidl]) b;have hH':∀ b B,applyU (ids.zip (post.map (Z48 ids))) H b=U B->(∃ (kk:Nat) (C:Blk),ids[kk]? = U b/\post[kk]? = U C/\B=Z48 ids C)\/(b∉ids/\H b=U B):=by
  intro b B hB;by_cases hb:b∈ids
  .obtain⟨kk,hkk⟩:=hidm b hb;obtain⟨C,c1,c2⟩:=(hH2 b).1 kk hkk;rw[c2]at hB;cases hB;simp only[Lk,L]at c1;obtain⟨C',c3,c4⟩:=c1;exact .inl ⟨kk,C',hkk,c3,c4.symm⟩
  .rw[(hH2 b).2 hb]at hB;exact .inr ⟨hb,hB⟩
 have hlive':∀ b,live (applyU (ids.zip (post.map (Z48 ids))) H) b->(∃ kk:Nat,ids[kk]? = U b/\live (hL post) kk)\/(b∉ids/\live H b):=by
  rintro b ⟨B,h1,h2⟩;rcases hH' b B h1 with⟨kk,C,q1,q2,rfl⟩ | ⟨q1,q2⟩
  .exact .inl ⟨kk,q1,C,q2,Zhm h2⟩
  .exact .inr ⟨q1,B,q2,h2⟩
 have hoth:∀ b β g,b∉ids->live H b->ρ b=U β->β.g=U g->¬ (w.heap.size<=g\/OwA (ownR ρc) g):=by
  rintro b β g hb hl h1 h2 (h | h)
  .have:=I.bnd b β g h1 h2;omega
  .obtain⟨kk,b2,β2,q1,q2,q3⟩:=hmem g h;have:=I.inj b b2 β β2 g hl (hlive _ _ q1) h1 q2 h2 q3;subst this;exact hb (N (hidls _ _ q1))
 have hcl:=I.one.1;rw[hd];refine hn _ _ ⟨ρ2,λg=>Im g\/Im' g,⟨⟨K.os.trans I.kept.os,K.tape.trans I.kept.tape,K.output.trans I.kept.output,Lv I.kept.size K.size,λkk hk hno=>?_,λkk hk=>?_⟩,
  λb b' β β' g l1 l2 h1 h2 h3 h4=>?_,λb β g l q1 q2 him=>?_,λb β g q1 q2=>?_,λb β g q1 q2=>?_,λg hg=>?_,λg hg=>?_,λb B hB=>?_,λb hb hB=>?_,hcl,λb β hb hβ=>?_⟩,
  (T.mono hext (λ_ h=>.inl h) hsub I.bnd).put d ?_⟩
 .rw[K.block kk (Lf hk I.kept.size) (λh=>?_)]
  .exact I.kept.block kk hk hno
  .obtain⟨_,b,β,_,m2,m3⟩:=hmem kk h;rcases I.own b β kk m2 m3 with⟨h,_⟩ | h
   .omega
   .exact hno h
 .rw[K.rows kk (Lf hk I.kept.size)];exact I.kept.rows kk hk
 .rcases hlive' b l1 with⟨k1,m1,m2⟩ | ⟨m1,m2⟩<;>rcases hlive' b' l2 with⟨k2,n1,n2⟩ | ⟨n1,n2⟩
  .rw[hρin _ _ m1]at h1;rw[hρin _ _ n1]at h2;have:=s5 k1 k2 β β' g m2 n2 h1 h2 h3 h4;subst this;rw[m1]at n1;cases n1;rfl
  .rw[hρin _ _ m1]at h1;rw[hρout _ n1]at h2;exact absurd (s3 k1 β g h1 h3).2 (hoth b' β' g n1 n2 h2 h4)
  .rw[hρout _ m1]at h1;rw[hρin _ _ n1]at h2;exact absurd (s3 k2 β' g h2 h4).2 (hoth b β g m1 m2 h1 h3)
  .rw[hρout _ m1]at h1;rw[hρout _ n1]at h2;exact I.inj b b' β β' g m2 n2 h1 h2 h3 h4
 .rcases hlive' b l with⟨k1,m1,m2⟩ | ⟨m1,m2⟩
  .rw[hρin _ _ m1]at q1;rcases him with him | him
   .rcases(s3 k1 β g q1 q2).2 with h | h
    .have:=I.imb g him;omega
    .exact hnl g him h
   .exact s4 k1 β g m2 q1 q2 him
  .rw[hρout _ m1]at q1;rcases him with him | him
   .exact I.notIm b β g m2 q1 q2 him
   .rcases r1 g him with h | h
    .exact I.notIm b β g m2 q1 q2 h
    .exact hoth b β g m1 m2 q1 q2 h
 .by_cases hm:b∈ids
  .obtain⟨kk,hkk⟩:=hidm b hm;rw[hρin kk b hkk]at q1;exact(s3 kk β g q1 q2).1
  .rw[hρout b hm]at q1;exact Lf (I.bnd b β g q1 q2) K.size
 .by_cases hm:b∈ids
  .obtain⟨kk,hkk⟩:=hidm b hm;rw[hρin kk b hkk]at q1;rcases hidn kk b hkk with h | ⟨_,h8,_⟩
   .obtain⟨B,C,β2,_,_,_,n1,_⟩:=hblk kk b h;have e:=s1 kk β2 (by rw[hin kk b h];exact n1);rw[q1]at e;cases e;exact I.own b β g n1 q2
   .rcases(s3 kk β g q1 q2).2 with h | h
    .exact .inl ⟨Lv I.kept.size h,by omega⟩
    .obtain⟨_,b2,β2,_,m2,m3⟩:=hmem g h;exact(I.own b2 β2 g m2 m3).imp (λh=>⟨h.1,by omega⟩) (λh=>h)
  .rw[hρout b hm]at q1;exact I.own b β g q1 q2
 .rcases hg with hg | hg
  .exact Lf (I.imb g hg) K.size
  .exact r2 g hg
 .rcases hg with hg | hg
  .exact I.im0 g hg
  .rcases r1 g hg with h | h | h
   .exact I.im0 g h
   .exact .inr (.inl (Lv I.kept.size h))
   .obtain⟨_,b2,β2,_,m2,m3⟩:=hmem g h;exact(I.own b2 β2 g m2 m3).elim (λh=>.inr (.inl h.1)) (λh=>.inr (.inr h))
 .rcases hH' b B hB with⟨kk,C,q1,q2,rfl⟩ | ⟨q1,q2⟩
  .obtain⟨β,m1,m2⟩:=r3 kk C q2;refine⟨β,by rw[hρin kk b q1];exact m1,Z8Q (λ_ h=>.inr h) (λk3 β3 h3=>?_) m2⟩;have hk3:k3<ids.length:=by rw[hidl];exact s2 k3 β3 h3
   have e:=Lj hk3;rw[Xg,e];show ρ2 ids[k3]=U β3;rw[hρin k3 _ e];exact h3
  .obtain⟨β,m1,m2⟩:=I.blk b B q2;by_cases hdead:B = .dead
   .subst hdead;exact⟨β,hsub b β m1,trivial⟩
   .refine⟨β,hsub b β m1,m2.mono hext (λ_ h=>.inl h) hsub I.bnd (λg hg=>K.block g (I.bnd b β g m1 hg) λh=>?_)⟩;exact hoth b β g q1 ⟨B,q2,hdead⟩ m1 hg (.inr h)
 .by_cases hm:b∈ids
  .obtain⟨kk,hkk⟩:=hidm b hm;obtain⟨C,_,c2⟩:=(hH2 b).1 kk hkk;have hB':applyU (ids.zip (post.map (Z48 ids))) H b=X:=hB;rw[c2]at hB';cases hB'
  .have hB':applyU (ids.zip (post.map (Z48 ids))) H b=X:=hB;rw[(hH2 b).2 hm]at hB';rw[hρout b hm];exact I.fresh b hb hB'
 .by_cases hm:b∈ids
  .obtain⟨kk,hkk⟩:=hidm b hm;rw[hρin kk b hkk]at hβ;rcases hidn kk b hkk with h | ⟨_,h8,_⟩
   .obtain⟨B,C,β2,_,_,_,n1,_⟩:=hblk kk b h;have e:=s1 kk β2 (by rw[hin kk b h];exact n1);rw[hβ]at e;cases e;exact I.one.2 b β hb n1
   .omega
  .rw[hρout b hm]at hβ;exact I.one.2 b β hb hβ
 .have hr:∀ k3 β3,ρ' k3=U β3->ρ2 (ids.getD k3 0)=U β3:=by
   intro k3 β3 h3;have hk3:k3<ids.length:=by rw[hidl];exact s2 k3 β3 h3
   have e:=Lj hk3;rw[Xg,e];show ρ2 ids[k3]=U β3;rw[hρin k3 _ e];exact h3
  obtain⟨q1,q2,q3⟩:=Z88 (w:=w') (Im:=Im') (Im':=λg=>Im g\/Im' g) hr;exact Z8h (λ_ h=>.inr h) q1 q2 q3 r4
theorem Z9M{ls:List Nat}{x y:AV}(h:nmL (λb=>idxN b ls 0) x=U y):Z6P (renI ls) y=x:=by
 have key:∀ b k,idxN b ls 0=U k->ls.getD k 0=b:=λb k e=>by
  obtain⟨_,q⟩:=Z1Y e;rw[Xg];simp only[Nat.sub_zero]at q;rw[q];rfl
 unfold nmL at h;split at h
 .cases h;rfl
 .cases h;rfl
 .split at h
  .rename_i e;cases h;simp only[Z6P,renI,key _ _ e]
  .cases h
 .split at h
  .rename_i e;cases h;simp only[Z6P,renI,key _ _ e]
  .cases h
 .split at h
  .rename_i e;cases h;simp only[Z6P,renI,key _ _ e]
  .cases h
 .cases h
theorem Z6Z{g:AV->Option AV}{f:AV->AV}(h:∀ x y,g x=U y->f y=x):∀ {l r:List AV},allO g l=U r->r.map f=l
 | [],r,e=>by simp[allO]at e;subst e;rfl
 | a::l,r,e=>by
  simp only[allO]at e;split at e
  .rename_i x r' e1 e2;cases e;rw[LU,h _ _ e1,Z6Z h e2]
  .cases e
theorem Zn2{f:AV->AV}{y:AV}(h:∀ l,y≠.ag l)(h2:∀ g l,y≠.fn g l)(h3:∀ t z,y≠.ic t z)(h4:∀ t z,y≠.fm t z):mapA f y=Z6P f y:=by
 cases y<;>first | rfl | (exact absurd rfl (h4 _ _)) | (exact absurd rfl (h _)) | (exact absurd rfl (h2 _ _)) | (exact absurd rfl (h3 _ _))
theorem ZfX{g:Nat->Option Nat}{x y:AV}(h:nmL g x=U y):(∀ l,y≠.ag l)/\(∀ k l,y≠.fn k l)/\(∀ t z,y≠.ic t z)/\∀ t z,y≠.fm t z:=by
 unfold nmL at h;repeat' split at h
 all_goals cases h
 all_goals exact⟨nofun,nofun,nofun,nofun⟩
theorem Zoz{ls:List Nat}{x y:AV}(h:nmM (λb=>idxN b ls 0) x=U y):mapA (renI ls) y=x:=by
 have leaf:∀ {x y:AV},nmL (λb=>idxN b ls 0) x=U y->mapA (renI ls) y=x:=λ{x y} h=>by
  obtain⟨h1,h2,h3,h4⟩:=ZfX h;rw[Zn2 h1 h2 h3 h4,Z9M h]
 unfold nmM at h;split at h
 .split at h
  .rename_i e;cases h;simp only[mapA,Z6Z (λ_ _=>Z9M) e]
  .cases h
 .split at h
  .rename_i e;cases h;simp only[mapA,Z6Z (λ_ _=>Z9M) e]
  .cases h
 .split at h
  .rename_i e;cases h;simp only[mapA,Z6Z (λ_ _=>Z9M) e]
  .cases h
 .split at h
  .rename_i r e;cases h;have q:=Z9M e;obtain⟨h1,_⟩:=ZfX e;cases r<;>first | (exact absurd rfl (h1 _)) | (simp only[mapA];rw[q])
  .cases h
 .exact leaf h
theorem Znx{ls:List Nat}{B C:Blk}(h:nmB (λb=>idxN b ls 0) B=U C):Z48 ls C=B:=by
 unfold nmB at h;split at h
 .split at h
  .rename_i e;cases h;simp only[Z48,Z6Z (λ_ _=>Zoz) e]
  .cases h
 .cases h;rfl
 .cases h
theorem Z9I{H:Heap}:∀ {us:List (Nat×Blk)},(∀ p∈us,H p.1=U p.2)->applyU us H=H
 | [],_=>rfl
 | (b,B)::us,h=>by
  have e:updH H b B=H:=by
   funext x
   unfold updH;split
   .rename_i q;rw[q];exact(h (b,B) pq).symm
   .rfl
  simp only[applyU,e];exact Z9I λp hp=>h p (Lp _ hp)
theorem Zph{gid:Nat}{x:Nat×Nat}{av:Operand->AV}{H:Heap}{clk:Nat}(hg:H gid=U (.arr x.1 x.2 [])){Ow:Own}{Im0:Nat->Prop}{w0:World}(a:Act)(w:World)(ρ:Rho)(Im:Nat->Prop)(I:Inv Ow Im0 w0 ρ w Im H clk)(y:Operand)(h:Rel ρ w Im (av y) (a.eval y)):Rel ρ w Im (ghV gid av (U x) y) (a.eval y):=by
 unfold ghV;split
 .exact h
 .obtain⟨⟨g,s,n⟩,h1,h2⟩:=I.blk _ _ hg;obtain⟨_,h3,_⟩:=h2;simp only[L3]at h3;subst h3;exact Rel.ow (c:=0) (a:=X) h1 (Lu _) (by simp[big]) (.inl rfl)
 .exact h
theorem ZpW{G:Option Bool}{c:Call}{f:Operand}{out:Core}(ho:o.op = .call c)(hc:c.callee = .value f)(h:Z9u P clk hints o f c.args.toList G tmps H=U out):Z3j P Ow Im0 w0 clk o G H tmps (out.out tmps H):=by
 unfold Z9u at h;split at h
 .cases h
 rename_i d hd;split at h
 .-- passed over
  rename_i hg;split at h;rotate_left
  .cases h
  cases h;intro a w ρ Im next Q I T hph heq hn
  refine⟨λhG=>?_,λhG=>?_⟩
  .cases G with
   | none=>cases hg
   | some g=>have:=hG g rfl;simp[this]at hg
  .rw[hd];exact hn _ _ (Z9m I T hG d _)
 rename_i hg;have hGt:∀ g,G=U g->g=Y:=by
  intro g e;subst e;exact hg
 split at h;rotate_left
 .cases h
 rename_i k caps hf;split at h;rotate_left
 .cases h
 rename_i gh ls res post _;split at h;rotate_left
 .cases h
 rename_i as pre has hpre;cases post with
 | nil =>
  simp only at h;split at h;rotate_left
  .cases h
  rename_i hok;cases h;simp only[Ld]at hok;obtain⟨hok,hgn⟩:=hok;cases gh with
  | some x=>cases hgn
  | none =>
  simp only[ghV,ghH]at has hpre;obtain⟨p1,p2⟩:=Z8B hpre;have e0:Z2c d clk ls pre=ls:=by simp[Z2c,p1,nids]
  have g:=Ze9 (Ow:=Ow) (Im0:=Im0) (w0:=w0) (res:=res) (post:=pre) ho hc hd hGt hf (λ_ _ _ _ _ _ h=>h) has hpre (by rw[e0,p1,Nat.sub_self,hok.1,hok.2,Nat.ble_eq_true_of_le (Lu ls.length)];rfl);rw[e0]at g;have e1:applyU (ls.zip (pre.map (Z48 ls))) H=H:=Z9I λp hp=>by
   obtain⟨i,hi⟩:=List.mem_iff_getElem?.1 hp;rw[List.getElem?_zip_eq_some]at hi;obtain⟨h1,h2⟩:=hi;simp only[Lk,L]at h2;obtain⟨C,h2,h3⟩:=h2;obtain⟨b,B,q1,q2,q3⟩:=p2 i C h2;rw[h1]at q1;cases q1;rw[q2,<- h3,Znx q3]
  simp only[Core.out,e1]at g ⊢;exact g
 | cons B0 post0 =>
  simp only at h;split at h;rotate_left
  .cases h
  rename_i hok;cases h;rw[Ld]at hok;obtain⟨hok,hgo⟩:=hok;cases gh with
  | none =>
   simp only[ghV,ghH]at has hpre;exact Ze9 ho hc hd hGt hf (λ_ _ _ _ _ _ h=>h) has hpre hok
  | some x =>
   simp only[ghOk,Z3d,Ld,Bool.and_true]at hgo;obtain⟨g1,g2⟩:=hgo;have hnone:H (nid d clk 6)=X:=by
    cases hx:H (nid d clk 6)with
    | none=>rfl
    | some B=>rw[hx]at g1;cases g1
   obtain⟨ty,s⟩:=x;simp only[ghH]at hpre;have hid:nid d clk 6∈Z2c d clk ls (B0::post0):=by
    unfold Z2c;refine List.mem_append_left _ ?_;cases hi:idxN (nid d clk 6) ls 0 with
    | none=>rw[hi]at g2;cases g2
    | some n=>exact N (Z1Y hi).2
   have hok2:=hok;simp only[Ld]at hok2;have hnd:=Z3s hok2.1.1.1.2;have hge:(Z2c d clk ls (B0::post0)).length=(B0::post0).length:=by
    have:=LK hok2.1.1.2;rw[Z2c,Lq,Z8q];omega
   have hno:Z3d (updH H (nid d clk 6) (.arr ty s [])) (nids d clk 0 ((B0::post0).length-ls.length))=Y:=by
    have h1:=Z5i hok2.2;have h2:∀ b∈nids d clk 0 ((B0::post0).length-ls.length),b≠nid d clk 6:=by
     intro b hb e;subst e;cases hi:idxN (nid d clk 6) ls 0 with
     | none=>rw[hi]at g2;cases g2
     | some n=>exact(XT.1 hnd).2.2 _ (N (Z1Y hi).2) _ hb rfl
    rw[<- hok2.2];exact Z4K λb hb=>by unfold updH;rw[if_neg (h2 b hb)]
   have g:=Ze9 (Ow:=Ow) (Im0:=Im0) (w0:=w0) (H:=updH H (nid d clk 6) (.arr ty s [])) (res:=res) ho hc hd hGt hf (Zph (by simp[updH])) has hpre (by
    simp only[Ld];exact⟨hok2.1,hno⟩)
   have e:applyU ((Z2c d clk ls (B0::post0)).zip ((B0::post0).map (Z48 (Z2c d clk ls (B0::post0))))) (updH H (nid d clk 6) (.arr ty s []))=applyU ((Z2c d clk ls (B0::post0)).zip ((B0::post0).map (Z48 (Z2c d clk ls (B0::post0))))) H:=by
    funext b
    have z1:=Z7y (post:=(B0::post0).map (Z48 (Z2c d clk ls (B0::post0)))) (H:=updH H (nid d clk 6) (.arr ty s [])) hnd (by rw[LS,hge]) b;have z2:=Z7y (post:=(B0::post0).map (Z48 (Z2c d clk ls (B0::post0)))) (H:=H) hnd (by rw[LS,hge]) b;by_cases hb:b∈Z2c d clk ls (B0::post0)
    .obtain⟨n,hn⟩:=LH hb;obtain⟨C,c1,c2⟩:=z1.1 n hn;obtain⟨C',c3,c4⟩:=z2.1 n hn;rw[c2,c4];rw[c1]at c3;exact c3
    .rw[z1.2 hb,z2.2 hb];unfold updH;rw[if_neg (λq:b=nid d clk 6=>hb (by rw[q];exact hid))]
   intro a w ρ Im next Q I T hph heq hn
   refine g a w _ Im next Q (Ze3 I (Zde d clk 6) hnone) (T.mono (Ext.refl _ _) (λ_ h=>h) (Z1X (I.fresh _ (Zde d clk 6) hnone)) I.bnd) hph heq ?_
   simp only[Core.out,e]at hn ⊢;exact hn
theorem Zj5{c:Call}{out:Core}(ho:o.op = .call c)(hc:c.callee = .builtin .append)(h:Z4u P clk hints o c tmps H=U out):Z3j P Ow Im0 w0 clk o X H tmps (out.out tmps H):=by
 intro a w ρ Im next Q I T hph heq hn
 unfold Z4u at h;split at h
 .cases h
 rename_i d hd;split at h;rotate_left
 .cases h
 rename_i x y t t' h1 h2;split at h
 .cases h
 rename_i hH;split at h;rotate_left
 .cases h
 rename_i b r hr;cases h;refine⟨λ_=>?_,λhG=>by obtain⟨g,hg,_⟩:=hG;cases hg⟩;have hop:o.op = .call ⟨.builtin .append,#[x,y],#[t,t']⟩:=by rw[ho,Z7r hc h1 h2]
 obtain⟨v,w',ρ',k1,k2,k3,k4⟩:=Zh8 hop hr I T oq hH (Z1E T x) (Z1E T y) hph;simp only[LL,k1,Xv];rw[hd];exact hn _ _ ⟨ρ',Im,by show Inv _ _ _ _ _ _ (applyU r.ups (updH H b .dead)) _;rw[Res.applyU];exact k2,k3.put d k4⟩
theorem Z8z{ops:Array Oper}(h:Z8H P clk ops hints o tmps H=U out)(hS:Sys Ow Im0 w0 tmps H clk a w)(hph:allP out.ph)(heq:EqP out.eq)(hn:∀ a' w',Sys Ow Im0 w0 out.tmps out.H clk a' w'->next a' w') :
  (Lw o (yielded ops a.tmps)=Y->o.wp P a w next Q)/\(Lw o (yielded ops a.tmps)=Z->next (a.put o.dst undef) w):=by
 obtain⟨ρ,Im,I,T⟩:=hS;unfold Z8H at h;split at h;rotate_left
 .cases h
 rename_i c h';cases h;unfold Z2R at h';split at h'
 .cases h'
 rename_i G hG;have hok:Z3j P Ow Im0 w0 clk o G H tmps (c.out tmps H):=by
  revert h';intro h;split at h
  .exact ZoJ aa h
  .rename_i c hop;split at h
   .split at h
    .exact ZnJ hop aa h
    .split at h
     .exact ZpW hop aa h
     .exact Zo2 hop aa h
   .split at h
    .exact Zj5 hop aa h
    .cases h
   .exact Zg9 h
  .exact Zg9 h
 obtain⟨k1,k2⟩:=hok a w ρ Im next Q I T hph heq hn
 rcases Zhc T hG with⟨rfl,hw⟩ | ⟨g,rfl,hw⟩
 .exact⟨λ_=>k1 (λg hg=>by cases hg),λh=>by rw[hw]at h;cases h⟩
 .exact⟨λh=>k1 (λg' hg'=>by cases hg';rw[<- hw];exact h),λh=>k2 ⟨g,rfl,by rw[<- hw];exact h⟩⟩
end
def idL:AV->List Nat
 | .pt b _ _=>[b]
 | .os b _ _=>[b]
 | .ow b=>[b]
 | _=>[]
def idM:AV->List Nat
 | .ag l=>l.flatMap idL
 | .fn _ l=>l.flatMap idL
 | .ic _ a=>idL a
 | .fm _ a=>idL a
 | a=>idL a
def idA:AV->List Nat
 | .fn _ l=>l.flatMap idM
 | a=>idM a
def Zr8{x:AV}{b:Nat}(h:b∈idL x):b∈idM x:=by
 cases x<;>first | exact h | simp[idL]at h
def Zqv{x:AV}{b:Nat}(h:b∈idM x):b∈idA x:=by
 cases x with
 | fn f l =>
  obtain⟨y,hy,hb⟩:=Lh.1 h;exact Lh.2 ⟨y,hy,Zr8 hb⟩
 | _=>exact h
def idV:AV->List Nat
 | .gd _ a=>idA a
 | a=>idA a
def Zii:Operand->List Nat
 | .tmp t=>[t]
 | _=>[]
def Z44(ops:Array Oper)(o:Oper):List Nat:=o.op.operands.toList.flatMap Zii++(match o.guard with | X=>[] | U (j,_)=>match ops[j]? with | U oj=>(match oj.dst with | U t=>[t] | X=>[]) | X=>[])
def ZmK(tmps:List AV)(o:Oper):List Nat:=match o.op with
 | .move _=>[]
 | _=>o.op.operands.toList.flatMap λx=>idV (ev tmps x)
def ZhB(hints:List (Nat×List Hint))(tmps:List AV)(o:Oper):List Nat:=ZmK tmps o++borL hints o
def Zbx(tmps:List AV){o:Oper}(h:∀ x,o.op≠.move x):ZmK tmps o=o.op.operands.toList.flatMap λx=>idV (ev tmps x):=by
 unfold ZmK;split
 .rename_i x hx;exact absurd hx (h x)
 .rfl
def Z59(clk:Nat)(o:Oper):List Nat:=match o.dst with
 | some d=>(clk*8000+d)::(List.range 7).map λk=>nid d clk k
 | none=>[clk*8000+7999]
def ZjB(G:Option Bool)(R:Operand->AV)(x:Operand):∀ b,b∈idA (Z1r G R x)->b∈idV (R x):=by
 intro b hb;cases G with
 | none =>
  simp only[Z1r]at hb;cases h:R x with
  | gd g a=>rw[h]at hb;simp[idA,idM,idL]at hb
  | _=>rw[h]at hb;exact hb
 | some g =>
  simp only[Z1r]at hb;cases h:R x with
  | gd g' a=>rw[h]at hb;exact hb
  | _=>rw[h]at hb;exact hb
section
variable {P:Program} {H H':Heap}
theorem Z4d{x:AV}(h:∀ b∈idA x,H b=H' b):Z1p H x=Z1p H' x:=by
 cases x with
 | ow b=>simp only[Z1p];rw[h b (by simp[idA,idM,idL])]
 | os b o n=>simp only[Z1p];rw[h b (by simp[idA,idM,idL])]
 | d x =>
  cases x with
  | sl=>rfl
  | sc v=>unfold Z1p;split<;>first | rfl | (split<;>simp_all) | simp_all
 | _=>rfl
theorem Zn0{o:Oper}{id:Nat}{hs:List Hint}{E:Operand->AV}(h:∀ x∈o.op.operands.toList,∀ b∈idA (E x),H b=H' b):act P o id hs E H=act P o id hs E H':=by
 unfold act;cases hop:o.op with
 | load t x =>
  have hx:=h x (by simp[hop,Lg]);simp only[Z7B];cases hE:E x with
  | pt b i o=>simp only;rw[hx b (by rw[hE];simp[idA,idM,idL])]
  | _=>rfl
 | store t x y =>
  have hx:=h x (by simp[hop,Lg]);dsimp only;split
  .rfl
  .simp only[Z8l];cases hE:E x with
   | pt b i o=>simp only;rw[hx b (by rw[hE];simp[idA,idM,idL])]
   | _=>rfl
 | slice t x lo hi mx =>
  have hx:=h x (by simp[hop,Lg]);simp only[Z8u];cases hE:E x with
  | ow b=>simp only;rw[hx b (by rw[hE];simp[idA,idM,idL])]
  | os b o n=>simp only;rw[hx b (by rw[hE];simp[idA,idM,idL])]
  | d x=>cases x<;>rfl
  | _=>rfl
 | indexAddr t x y =>
  have hx:=h x (by simp[hop,Lg]);simp only[Z4l];cases hE:E x with
  | ow b=>simp only;rw[hx b (by rw[hE];simp[idA,idM,idL])]
  | os b o n=>simp only;rw[hx b (by rw[hE];simp[idA,idM,idL])]
  | d x=>cases x<;>rfl
  | _=>rfl
 | call c =>
  have hm:∀ x∈c.args.toList,∀ b∈idA (E x),H b=H' b:=λx hx=>h x (by simp only[hop,Lg,LB,Array.toList_append,F];exact .inr hx);dsimp only;split
  .split
   .rename_i x t h1 h2;have hx:=hm x (by rw[h1];simp);simp only[Zgf];cases hE:E x with
    | ow b=>simp only;rw[hx b (by rw[hE];simp[idA,idM,idL])]
    | d x=>cases x<;>rfl
    | _=>rfl
   .rfl
  .split
   .rename_i x y t t' h1 h2;have hx:=hm x (by rw[h1];simp);have hy:=hm y (by rw[h1];simp);simp only[Zcm];rw[Z4d hy];cases hE:E x with
    | ow b=>simp only;rw[hx b (by rw[hE];simp[idA,idM,idL])]
    | os b o n=>simp only;rw[hx b (by rw[hE];simp[idA,idM,idL])]
    | _=>rfl
   .rfl
  .split
   .rename_i x t h1 h2;have hx:=hm x (by rw[h1];simp);simp only[Z8w];cases hE:E x with
    | ow b=>simp only;rw[hx b (by rw[hE];simp[idA,idM,idL])]
    | os b o n=>simp only;rw[hx b (by rw[hE];simp[idA,idM,idL])]
    | _=>rfl
   .rfl
  all_goals rfl
 | _=>rfl
theorem Z6R{x:AV}(h:∀ b∈idL x,H b=H' b):toD1 H x=toD1 H' x:=by
 cases x with
 | ow b=>simp only[toD1];rw[Z4d (x:=.ow b) (λb hb=>h b (by simpa[idA,idM]using hb))]
 | os b o n=>simp only[toD1];rw[Z4d (x:=.os b o n) (λb hb=>h b (by simpa[idA,idM]using hb))]
 | _=>rfl
theorem Z9W:∀ {l:List AV},(∀ b∈l.flatMap idL,H b=H' b)->toDs H l=toDs H' l
 | [],_=>rfl
 | a::l,h=>by
  simp only[toDs];rw[Z6R (λb hb=>h b (by simp[hb])),Z9W (l:=l) (λb hb=>h b (by
   simp only[LR,F];exact .inr hb))]
theorem Zlm{x:AV}(h:∀ b∈idM x,H b=H' b):toD H x=toD H' x:=by
 cases x with
 | ag l=>simp only[toD];rw[Z9W h]
 | fn f l=>simp only[toD];rw[Z9W h]
 | ic t a=>simp only[toD];rw[Z6R h]
 | ow b=>exact Z6R (x:=.ow b) h
 | os b o n=>exact Z6R (x:=.os b o n) h
 | _=>rfl
theorem Z9b:∀ {l:List AV},(∀ x∈l,∀ b∈idM x,H b=H' b)->toDD H l=toDD H' l
 | [],_=>rfl
 | a::l,h=>by
  simp only[toDD];rw[Zlm (h a pq),Z9b (l:=l) (λx hx=>h x (by simp[hx]))]
theorem Z8Z{d clk:Nat}:∀ {news:List Blk} {k:Nat} {H H':Heap},(∀ i,k<=i->i<k+news.length->H (nid d clk i)=H' (nid d clk i))->Z5C d clk k news H=Z5C d clk k news H'
 | [],k,H,H',_=>rfl
 | B::r,k,H,H',h=>by
  simp only[Z5C];rw[h k (Lu _) pq,Z8Z (news:=r) (k:=k+1) (H:=updH H (nid d clk k) B) (H':=updH H' (nid d clk k) B) (λi h1 h2=>by
   unfold updH;split
   .rfl
   .exact h i oq qo)]
theorem Zfd{x:AV}{b:Nat}(h:b∈ksL x):b∈idL x:=by
 cases x<;>first | exact h | simp[ksL]at h
theorem ZnC{x:AV}{b:Nat}(h:b∈ksM x):b∈idM x:=by
 cases x with
 | ag l =>
  obtain⟨y,hy,hb⟩:=Lh.1 h;exact Lh.2 ⟨y,hy,Zfd hb⟩
 | fn f l =>
  obtain⟨y,hy,hb⟩:=Lh.1 h;exact Lh.2 ⟨y,hy,Zfd hb⟩
 | ic t a=>exact Zfd (x:=a) h
 | ow b=>exact h
 | os b o n=>exact h
 | _=>simp[ksM,ksL]at h
theorem Z9o:∀ {l:List Nat},(∀ b∈l,H b=H' b)->Z7e H l=Z7e H' l
 | [],_=>rfl
 | b::l,h=>by
  simp only[Z7e];rw[h b pq,Z9o (l:=l) λc hc=>h c (by simp[hc])]
theorem Z90{t t' id:Nat}{hs:List Hint}{x y:AV}(hx:∀ b∈idA x,H b=H' b)(hy:∀ b∈idA y,H b=H' b):Z3V P t t' id hs x y H=Z3V P t t' id hs x y H':=by
 unfold Z3V;rw[Z4d hy];cases x with
 | ow b=>simp only;rw[hx b (by simp[idA,idM,idL])]
 | _=>rfl
theorem Za7{t t' id:Nat}{hs:List Hint}{x y:AV}(hx:∀ b∈idA x,H b=H' b)(hy:∀ b∈idA y,H b=H' b):Z4y P t t' id hs x y H=Z4y P t t' id hs x y H':=by
 unfold Z4y;split
 .unfold Z5Q;cases x with
  | ow b=>simp only;rw[hx b (by simp[idA,idM,idL])]
  | _=>rfl
 .exact Z90 hx hy
end
def Z3I{G:Option Bool}{R R':Operand->AV}:∀ {l:List Operand},(∀ x∈l,R x=R' x)->Z3b G R l=Z3b G R' l
 | [],_=>rfl
 | x::l,h=>by
  simp only[Z3b];rw[h x pq,Z3I (l:=l) (λy hy=>h y (by simp[hy]))]
def ZcJ{H H':Heap}{f:Nat->Option Nat}:∀ {l:List Nat},(∀ b∈l,H b=H' b)->preB f H l=preB f H' l
 | [],_=>rfl
 | b::l,h=>by
  simp only[preB];rw[h b pq,ZcJ (l:=l) (λy hy=>h y (by simp[hy]))]
def Z69{P:Program}{clk:Nat}{ops:Array Oper}{hints:List (Nat×List Hint)}{o:Oper}{tmps tmps':List AV}{H H':Heap}{c:Core}
  (ht:∀ t∈Z44 ops o,tmps.getD t .any=tmps'.getD t .any) (hH:∀ b∈ZhB hints tmps o++Z59 clk o,H b=H' b) (hn:∀ d,o.dst=U d->∀ fr res news r,look d hints = .call fr res news::r->news.length<=7)
  (h:Z2R P clk ops hints o tmps H=U c):Z2R P clk ops hints o tmps' H'=U c:=by
 rw[<- h];have hev:∀ x∈o.op.operands.toList,ev tmps' x=ev tmps x:=by
  intro x hx;cases x with
  | tmp t=>exact(ht t (by simp only[Z44,F,Lh];exact .inl ⟨_,hx,by simp[Zii]⟩)).symm
  | _=>rfl
 have hg:guardOf ops tmps' o.guard=guardOf ops tmps o.guard:=by
  cases hgd:o.guard with
  | none=>rfl
  | some p =>
   obtain⟨j,want⟩:=p;simp only[guardOf];cases hj:ops[j]? with
   | none=>rfl
   | some oj =>
    cases hd:oj.dst with
    | none=>simp only[hd]
    | some t =>
     have:=ht t (by simp[Z44,hgd,hj,hd]);simp only[hd];rw[this]
 have hstrip:∀ G,∀ x∈o.op.operands.toList,Z1r G (ev tmps') x=Z1r G (ev tmps) x:=by
  intro G x hx;cases G<;>simp only[Z1r,hev x hx]
 have hfoot:(∀ x,o.op≠.move x)->∀ G,∀ x∈o.op.operands.toList,∀ b∈idA (Z1r G (ev tmps) x),H b=H' b:=by
  intro hm G x hx b hb;exact hH b (F.2 (.inl (F.2 (.inl (by rw[Zbx tmps hm];exact Lh.2 ⟨x,hx,ZjB G _ x b hb⟩)))))
 have hown:∀ b∈Z59 clk o,H b=H' b:=λb hb=>hH b (F.2 (.inr hb));have hplain:∀ G,Z2J P clk hints o G tmps' H'=Z2J P clk hints o G tmps H:=by
  intro G;have hact:∀ id hs (E:Operand->AV),(∀ x∈o.op.operands.toList,∀ b∈idA (E x),(∀ x,o.op≠.move x)->H b=H' b)->act P o id hs E H'=act P o id hs E H:=by
   intro id hs E hE;by_cases hm:∃ x,o.op = .move x
   .obtain⟨x,hx⟩:=hm;simp only[act,hx]
   .exact(Zn0 λx hx b hb=>hE x hx b hb (λx hx=>hm ⟨x,hx⟩)).symm
  unfold Z2J;cases hd:o.dst with
  | some d =>
   simp only;rw[<- hown (clk*8000+d) (by simp[Z59,hd])];rw[Z96 (E:=Z1r G (ev tmps')) (E':=Z1r G (ev tmps)) (hstrip G),hact _ _ _ (λx hx b hb hm=>hfoot hm G x hx b hb),Z3I hev]
  | none =>
   cases G with
   | some g=>rfl
   | none =>
    simp only;rw[<- hown (clk*8000+7999) (by simp[Z59,hd])];have e1:act P o (clk*8000+7999) (look (keyOf o) hints) (ev tmps') H'=act P o (clk*8000+7999) (look (keyOf o) hints) (ev tmps) H':=Z96 hev;have e2:act P o (clk*8000+7999) (look (keyOf o) hints) (ev tmps) H'=act P o (clk*8000+7999) (look (keyOf o) hints) (ev tmps) H:=hact _ _ _ (λx hx b hb hm=>hfoot hm X x hx b hb);rw[e1,e2]
 unfold Z2R;rw[hg];cases guardOf ops tmps o.guard with
 | none=>rfl
 | some G =>
  simp only;cases hop:o.op with
  | pick x y z =>
   have h1:=hstrip G x (by simp[hop,Lg]);have h2:=hev y (by simp[hop,Lg]);have h3:=hev z (by simp[hop,Lg]);have h4:=hev x (by simp[hop,Lg]);simp only[Z7m];rw[h1,h2,h3,Z3I (G:=G) (l:=[x]) (R:=ev tmps') (R':=ev tmps) (by simpa using h4)]
  | call cl =>
   have hm:∀ x,o.op≠.move x:=λx h=>by rw[hop]at h;cases h
   have hfoot:=hfoot hm;simp only;cases hcal:cl.callee with
   | value f =>
    simp only;cases Znd o hints with
    | true =>
     have hops:o.op.operands.toList=f::cl.args.toList:=by simp[hop,Lg,LB,hcal]
     cases G with
     | some g=>rfl
     | none =>
     have hargs:cl.args.toList.map (ev tmps')=cl.args.toList.map (ev tmps):=L4 λx hx=>hev x (by rw[hops];exact Lp _ hx);have hfe:=hev f (by rw[hops];simp);simp only[Z75];cases hd:o.dst with
     | none=>rfl
     | some d =>
      simp only;rw[hfe,hargs];cases hfv:ev tmps f with
      | fn k caps =>
       simp only;have hall:∀ x∈cl.args.toList.map (ev tmps)++caps,∀ b∈idM x,H b=H' b:=by
        intro x hx b hb;rcases F.1 hx with hx | hx
        .obtain⟨y,hy,rfl⟩:=L5.1 hx;exact hfoot X y (by rw[hops];exact Lp _ hy) b (Zqv hb)
        .refine hfoot X f (by rw[hops];simp) b ?_;simp only[Z1r];rw[hfv];exact Lh.2 ⟨x,hx,hb⟩
       have hdd:toDD H' (cl.args.toList.map (ev tmps)++caps)=toDD H (cl.args.toList.map (ev tmps)++caps):=(Z9b hall).symm;have harr:Z7e H' ((cl.args.toList.map (ev tmps)++caps).flatMap ksM)=Z7e H ((cl.args.toList.map (ev tmps)++caps).flatMap ksM):=by
        refine(Z9o λb hb=>?_).symm;obtain⟨x,hx,hbx⟩:=Lh.1 hb;exact hall x hx b (ZnC hbx)
       rw[hdd,harr]
      | _=>rfl
    | false =>
    cases hib:Zqe o hints with
    | true =>
     have hops:o.op.operands.toList=f::cl.args.toList:=by simp[hop,Lg,LB,hcal]
     have hargs:cl.args.toList.map (Z1r G (ev tmps'))=cl.args.toList.map (Z1r G (ev tmps)):=L4 λx hx=>hstrip G x (by rw[hops];exact Lp _ hx);have hfe:=hstrip G f (by rw[hops];simp);have hbl:∀ b∈borL hints o,H b=H' b:=λb hb=>hH b (F.2 (.inl (F.2 (.inr hb))));simp only[Z9u];cases hd:o.dst with
     | none=>rfl
     | some d =>
      simp only;have hav:∀ gh,cl.args.toList.map (ghV (nid d clk 6) (Z1r G (ev tmps')) gh)=cl.args.toList.map (ghV (nid d clk 6) (Z1r G (ev tmps)) gh):=λgh=>L4 λx hx=>by
       have:=hstrip G x (by rw[hops];exact Lp _ hx);unfold ghV;split<;>first | rfl | exact this
      rw[hfe,Z3I (G:=G) (l:=f::cl.args.toList) (R:=ev tmps') (R':=ev tmps) (by rw[<- hops];exact hev)];have hown':∀ i,i<7->H (nid d clk i)=H' (nid d clk i):=λi hi=>hown _ (by
       simp only[Z59,hd,Ll,L5,XS];exact .inr ⟨i,hi,rfl⟩)
      cases hl:borH (look d hints)with
      | none=>rfl
      | some q =>
       obtain⟨gh,ls,res,post⟩:=q;simp only[hav];have hpre:preB (λb=>idxN b ls 0) (ghH (nid d clk 6) H' gh) ls=preB (λb=>idxN b ls 0) (ghH (nid d clk 6) H gh) ls:=by
        refine(ZcJ λb hb=>?_).symm;have:=hbl b (by simp only[borL,hd,hl];exact hb);cases gh with
        | none=>exact this
        | some x=>simp only[ghH,updH];rw[this]
       have hgo:ghOk (nid d clk 6) ls H' gh=ghOk (nid d clk 6) ls H gh:=by
        cases gh with
        | none=>rfl
        | some x=>simp only[ghOk,Z3d];rw[hown' 6 oq]
       rw[hpre,hgo];cases post with
       | nil=>rfl
       | cons B0 post0 =>
       generalize hpost:B0::post0=post;simp only[<- hpost];rw[hpost];rcases Bool.eq_false_or_eq_true (Lt (post.length-ls.length) 7)with h7 | h7
       .have hno:Z3d H' (nids d clk 0 (post.length-ls.length))=Z3d H (nids d clk 0 (post.length-ls.length)):=by
         refine(Z4K λb hb=>?_).symm;obtain⟨i,hi⟩:=LH hb;have hil:i<post.length-ls.length:=by
          have:=(Lb.1 hi).1;rwa [Z8q]at this
         rw[ZfC _ _ _ _ _ hil]at hi;have h7:=LK h7;have:=hown' (0+i) oq;cases hi;exact this
        rw[hno]
       .rw[h7];simp only[Bool.and_false,Bool.false_and]
    | false =>
    have hops:o.op.operands.toList=f::cl.args.toList:=by simp[hop,Lg,LB,hcal]
    have hargs:cl.args.toList.map (Z1r G (ev tmps'))=cl.args.toList.map (Z1r G (ev tmps)):=L4 λx hx=>hstrip G x (by rw[hops];exact Lp _ hx);have hfe:=hstrip G f (by rw[hops];simp);simp only[Z7b];cases hd:o.dst with
    | none=>rfl
    | some d =>
     simp only;rw[hfe,hargs,Z3I (G:=G) (l:=f::cl.args.toList) (R:=ev tmps') (R':=ev tmps) (by rw[<- hops];exact hev)];cases hfv:Z1r G (ev tmps) f with
     | fn k caps =>
      simp only;cases hl:look d hints with
      | nil=>rfl
      | cons hh r =>
       cases hh with
       | call fr res news =>
        simp only;have hdd:toDD H' (cl.args.toList.map (Z1r G (ev tmps))++caps)=toDD H (cl.args.toList.map (Z1r G (ev tmps))++caps):=by
         refine(Z9b λx hx b hb=>?_).symm;rcases F.1 hx with hx | hx
         .obtain⟨y,hy,rfl⟩:=L5.1 hx;exact hfoot G y (by rw[hops];exact Lp _ hy) b (Zqv hb)
         .refine hfoot G f (by rw[hops];simp) b ?_;rw[hfv];exact Lh.2 ⟨x,hx,hb⟩
        have hnews:Z5C d clk 0 news H'=Z5C d clk 0 news H:=by
         have hlen:=hn d hd fr res news r hl;refine(Z8Z λi _ hi=>?_).symm;refine hown _ ?_;simp only[Z59,hd,Ll,L5,XS];exact .inr ⟨i,by omega,rfl⟩
        rw[hdd,hnews]
       | _=>rfl
     | _=>rfl
   | builtin b =>
    cases b with
    | append =>
     cases G with
     | some g=>rfl
     | none =>
      simp only[Z4u];cases hd:o.dst with
      | none=>rfl
      | some d =>
       simp only;split
       .rename_i x y t t' h1 h2;have hxm:x∈o.op.operands.toList:=by simp[hop,Lg,LB,hcal,h1]
        have hym:y∈o.op.operands.toList:=by simp[hop,Lg,LB,hcal,h1]
        rw[<- hown (clk*8000+d) (by simp[Z59,hd]),hev x hxm,hev y hym];have e:=Za7 (P:=P) (t:=t) (t':=t') (id:=clk*8000+d) (hs:=look d hints) (hfoot X x hxm) (hfoot X y hym);simp only[Z1r]at e;rw[e]
       .rfl
    | _=>exact hplain G
   | invoke r m=>exact hplain G
  | _=>exact hplain G
def Z3m{us:List (Nat×Blk)}{H:Heap}{b:Nat}(h:b∉us.map (·.1)):applyU us H b=H b:=by
 induction us generalizing H with
 | nil=>rfl
 | cons u us ih =>
  obtain⟨k,B⟩:=u;simp only[LU,Ll,not_or]at h;simp only[applyU];rw[ih h.2];unfold updH;rw[if_neg h.1]
def Z7W{us:List (Nat×Blk)}{H H':Heap}{b:Nat}(h:b∈us.map (·.1)\/H b=H' b):applyU us H b=applyU us H' b:=by
 induction us generalizing H H' with
 | nil =>
  rcases h with h | h
  .simp at h
  .exact h
 | cons u us ih =>
  obtain⟨k,B⟩:=u;simp only[applyU];refine ih ?_;by_cases hb:b=k
  .right;unfold updH;simp[hb]
  .rcases h with h | h
   .simp only[LU,Ll]at h;exact .inl (h.resolve_left hb)
   .right;unfold updH;simp[hb,h]
def ZeH{us vs:List (Nat×Blk)}{H:Heap}(h:∀ b,b∈us.map (·.1)->b∉vs.map (·.1)):applyU us (applyU vs H)=applyU vs (applyU us H):=by
 funext b
 by_cases h1:b∈us.map (·.1)
 .rw[Z3m (h b h1)];exact Z7W (.inl h1)
 .rw[Z3m h1];by_cases h2:b∈vs.map (·.1)
  .exact Z7W (.inl h2)
  .rw[Z3m h2,Z3m h2,Z3m h1]
structure Rec where
 i:Nat
 rs:List Nat
 c:Core
def Core.slot(c:Core)(tmps:List AV):List AV:=match c.sl with | U (d,v)=>tmps.set d v | X=>tmps
section
variable (P:Program) (clk:Nat) (ops:Array Oper) (hints:List (Nat×List Hint))
def Ze1:List Rec->List AV->Heap->Prop
 | [],_,_=>True
 | r::l,t,H=>∃ o,ops[r.i]? = U o/\Z2R P clk ops hints o t H=U r.c/\r.rs=ZhB hints t o/\Ze1 l (r.c.slot t) (applyU r.c.ups H)
end
def ZbX:List Rec->List AV->List AV
 | [],t=>t
 | r::l,t=>ZbX l (r.c.slot t)
def ZbY:List Rec->Heap->Heap
 | [],H=>H
 | r::l,H=>ZbY l (applyU r.c.ups H)
structure Apart (clk:Nat) (ops:Array Oper) (y x:Rec):Prop where
 slots:∀ oy ox,ops[y.i]? = U oy->ops[x.i]? = U ox->(∀ d,oy.dst=U d->d∉Z44 ops ox/\ox.dst≠U d)/\(∀ d,ox.dst=U d->d∉Z44 ops oy)
 heapY:∀ ox,ops[x.i]? = U ox->∀ b∈y.c.ups.map (·.1),b∉x.rs/\b∉Z59 clk ox/\b∉x.c.ups.map (·.1)
 heapX:∀ oy,ops[y.i]? = U oy->∀ b∈x.c.ups.map (·.1),b∉y.rs/\b∉Z59 clk oy
section
variable {P:Program} {clk:Nat} {ops:Array Oper} {hints:List (Nat×List Hint)}
theorem ZfM{o:Oper}{t:List AV}{H:Heap}{c:Core}(h:Z2R P clk ops hints o t H=U c):∀ d v,c.sl=U (d,v)->o.dst=U d:=by
 intro d v hc;unfold Z2R at h;split at h
 .cases h
 rename_i G hG;have plain:Z2J P clk hints o G t H=U c->o.dst=U d:=by
  intro h;unfold Z2J at h;split at h
  .rename_i d' hd;split at h
   .cases h
   split at h;rotate_left
   .cases h
   split at h
   .cases h
   .cases h;cases hc;exact hd
  .split at h
   .cases h
   split at h
   .cases h
   split at h
   .cases h;cases hc
   .cases h
 split at h
 .unfold Z7m at h;split at h
  .cases h
  rename_i d' hd;split at h
  .cases h
  split at h
  .split at h
   .cases h;cases hc;exact hd
   .cases h
  .split at h
   .split at h
    .cases h;cases hc;exact hd
    .cases h
   .cases h
 .split at h
  .split at h
   .unfold Z75 at h;split at h
    .cases h
    split at h
    .cases h
    rename_i d' hd;split at h;rotate_left
    .cases h
    split at h;rotate_left
    .cases h
    split at h;rotate_left
    .cases h
    split at h
    .cases h;cases hc;exact hd
    .cases h
   split at h
   .unfold Z9u at h;split at h
    .cases h
    rename_i d' hd;split at h
    .split at h
     .cases h;cases hc;exact hd
     .cases h
    .split at h;rotate_left
     .cases h
     split at h;rotate_left
     .cases h
     split at h;rotate_left
     .cases h
     split at h
     .split at h
      .cases h;cases hc;exact hd
      .cases h
     .split at h
      .cases h;cases hc;exact hd
      .cases h
   unfold Z7b at h;split at h
   .cases h
   rename_i d' hd;split at h;rotate_left
   .cases h
   split at h;rotate_left
   .cases h
   split at h;rotate_left
   .cases h
   split at h;rotate_left
   .cases h
   split at h
   .cases h
   .cases h;cases hc;exact hd
  .split at h
   .unfold Z4u at h;split at h
    .cases h
    rename_i d' hd;split at h;rotate_left
    .cases h
    split at h
    .cases h
    split at h
    .cases h;cases hc;exact hd
    .cases h
   .cases h
  .exact plain h
 .exact plain h
def ZbJ(ops:Array Oper)(hints:List (Nat×List Hint)):Prop:=∀ (i:Nat) (o:Oper),ops[i]? = U o->∀ d,o.dst=U d->∀ fr res news r,look d hints = .call fr res news::r->news.length<=7
theorem Zgu{c:Core}{t:List AV}{k:Nat}(h:∀ d v,c.sl=U (d,v)->d≠k):(c.slot t).getD k .any=t.getD k .any:=by
 unfold Core.slot;cases hs:c.sl with
 | none=>rfl
 | some p =>
  obtain⟨d,v⟩:=p;have:=h d v hs;simp only[Xf];rw[XP];rw[if_neg this]
theorem Z9r{t t':List AV}{o:Oper}(h:∀ k∈Z44 ops o,t.getD k .any=t'.getD k .any):ZhB hints t o=ZhB hints t' o:=by
 unfold ZhB;congr 1;by_cases hm:∃ x,o.op = .move x
 .obtain⟨x,hx⟩:=hm;simp only[ZmK,hx]
 rw[Zbx t (λx hx=>hm ⟨x,hx⟩),Zbx t' (λx hx=>hm ⟨x,hx⟩)];clear hm;have:∀ x∈o.op.operands.toList,idV (ev t x)=idV (ev t' x):=by
  intro x hx;cases x with
  | tmp k=>simp only[ev];rw[h k (by simp only[Z44,F,Lh];exact .inl ⟨_,hx,by simp[Zii]⟩)]
  | _=>rfl
 revert this;generalize o.op.operands.toList=l;intro this;induction l with
 | nil=>rfl
 | cons x l ih=>rw[LR,LR,this x pq,ih (λy hy=>this y (by simp[hy]))]
theorem swap{y x:Rec}{l:List Rec}{t:List AV}{H:Heap}(hnf:ZbJ ops hints)(ha:Apart clk ops y x)(h:Ze1 P clk ops hints (y::x::l) t H) :
  Ze1 P clk ops hints (x::y::l) t H/\x.c.slot (y.c.slot t)=y.c.slot (x.c.slot t)/\applyU x.c.ups (applyU y.c.ups H)=applyU y.c.ups (applyU x.c.ups H):=by
 obtain⟨oy,hy1,hy2,hy3,ox,hx1,hx2,hx3,hl⟩:=h;obtain⟨s1,s2⟩:=ha.slots oy ox hy1 hx1;have dy:=ZfM hy2;have dx:=ZfM hx2;have hkeys:=ha.heapY ox hx1;have hkeyx:=ha.heapX oy hy1;have tx:∀ k∈Z44 ops ox,(y.c.slot t).getD k .any=t.getD k .any:=λk hk=>Zgu λd v hd=>by
  have:=(s1 d (dy d v hd)).1;rintro rfl;exact this hk
 have fx:=Z9r (hints:=hints) (o:=ox) tx;have hx2':Z2R P clk ops hints ox t H=U x.c:=by
  refine Z69 tx (λb hb=>?_) (λd hd fr res news r hl=>hnf x.i ox hx1 d hd fr res news r hl) hx2;refine Z3m λhbu=>?_;obtain⟨q1,q2,_⟩:=hkeys b hbu;rcases F.1 hb with hb | hb
  .exact q1 (by rw[hx3];exact hb)
  .exact q2 hb
 have ty:∀ k∈Z44 ops oy,t.getD k .any=(x.c.slot t).getD k .any:=λk hk=>(Zgu λd v hd=>by
  have:=s2 d (dx d v hd);rintro rfl;exact this hk).symm
 have fy:=Z9r (hints:=hints) (o:=oy) ty;have hy2':Z2R P clk ops hints oy (x.c.slot t) (applyU x.c.ups H)=U y.c:=by
  refine Z69 ty (λb hb=>?_) (λd hd fr res news r hl=>hnf y.i oy hy1 d hd fr res news r hl) hy2;refine(Z3m λhbu=>?_).symm;obtain⟨q1,q2⟩:=hkeyx b hbu;rcases F.1 hb with hb | hb
  .exact q1 (by rw[hy3];exact hb)
  .exact q2 hb
 have es:x.c.slot (y.c.slot t)=y.c.slot (x.c.slot t):=by
  unfold Core.slot;cases hsx:x.c.sl with
  | none=>cases hsy:y.c.sl<;>rfl
  | some p =>
   obtain⟨d,v⟩:=p;cases hsy:y.c.sl with
   | none=>rfl
   | some q =>
    obtain⟨d',v'⟩:=q;have h1:=dx d v hsx;have h2:=dy d' v' hsy;have:=(s1 d' h2).2;rw[h1]at this;have hne:d≠d':=λe=>this (by rw[e]);simp only;exact List.set_comm _ _ oq
 have eh:applyU x.c.ups (applyU y.c.ups H)=applyU y.c.ups (applyU x.c.ups H):=(ZeH λb hb hbx=>(hkeys b hb).2.2 hbx).symm;refine⟨⟨ox,hx1,hx2',by rw[hx3,fx],oy,hy1,hy2',by rw[hy3,fy], ?_⟩,es,eh⟩;rw[<- es,<- eh];exact hl
theorem Zki(hnf:ZbJ ops hints):∀ {r1:List Rec} {x:Rec} {r2:List Rec} {t:List AV} {H:Heap},(∀ y∈r1,Apart clk ops y x)->Ze1 P clk ops hints (r1++x::r2) t H ->
  Ze1 P clk ops hints (x::(r1++r2)) t H/\ZbX (r1++x::r2) t=ZbX (x::(r1++r2)) t/\ZbY (r1++x::r2) H=ZbY (x::(r1++r2)) H
 | [],x,r2,t,H,_,h=>⟨h,rfl,rfl⟩
 | y::r1,x,r2,t,H,ha,h=>by
  obtain⟨oy,hy1,hy2,hy3,hl⟩:=h;obtain⟨k1,k2,k3⟩:=Zki hnf (λz hz=>ha z (by simp[hz])) hl;have hc:Ze1 P clk ops hints (y::x::(r1++r2)) t H:=⟨oy,hy1,hy2,hy3,k1⟩
  obtain⟨m1,m2,m3⟩:=swap hnf (ha y pq) hc;refine⟨m1, ?_, ?_⟩
  .show ZbX (r1++x::r2) (y.c.slot t)=ZbX (y::(r1++r2)) (x.c.slot t);rw[k2];show ZbX (r1++r2) (x.c.slot (y.c.slot t))=ZbX (r1++r2) (y.c.slot (x.c.slot t));rw[m2]
  .show ZbY (r1++x::r2) (applyU y.c.ups H)=ZbY (y::(r1++r2)) (applyU x.c.ups H);rw[k3];show ZbY (r1++r2) (applyU x.c.ups (applyU y.c.ups H))=ZbY (r1++r2) (applyU y.c.ups (applyU x.c.ups H));rw[m3]
inductive Sched (clk:Nat) (ops:Array Oper):List Nat->List Rec->Prop
 | nil:Sched clk ops [] []
 | cons {i:Nat} {l:List Nat} {r1 r2:List Rec} {x:Rec} (hi:x.i=i) (ha:∀ y∈r1,Apart clk ops y x) (h:Sched clk ops l (r1++r2)):Sched clk ops (i::l) (r1++x::r2)
theorem Zm3(hnf:ZbJ ops hints){Ow:Own}{Im0:Nat->Prop}{w0:World}{Q:Exit->Act->World->Prop}:∀ {l:List Nat} {recs:List Rec},Sched clk ops l recs->∀ {t:List AV} {H:Heap} {a:Act} {w:World},Ze1 P clk ops hints recs t H ->
  Sys Ow Im0 w0 t H clk a w->(∀ r∈recs,allP r.c.ph/\EqP r.c.eq)->(∀ a' w',Sys Ow Im0 w0 (ZbX recs t) (ZbY recs H) clk a' w'->Q .normal a' w')->wpOps P ops Q l a w:=by
 intro l recs hs;induction hs with
 | nil=>intro t H a w _ hS _ hQ;exact hQ a w hS
 | cons hi ha hrest ih =>
  rename_i i l r1 r2 x;intro t H a w hc hS hp hQ;obtain⟨k1,k2,k3⟩:=Zki hnf ha hc;obtain⟨o,ho,hstep,_,hl⟩:=k1;rw[hi]at ho;have hop:Z8H P clk ops hints o t H=U (x.c.out t H):=by unfold Z8H;rw[hstep]
  have hx:=hp x pq;have key:=Z8z (next:=wpOps P ops Q l) (Q:=Q) hop hS hx.1 hx.2 λa' w' hS'=>ih (t:=x.c.slot t) (H:=applyU x.c.ups H) hl hS' (λr hr=>hp r (by
   rcases F.1 hr with h | h
   .simp[h]
   .simp[h])) (λa'' w'' hS''=>hQ a'' w'' (by rw[k2,k3];exact hS''))
  simp only[wpOps,ho];split
  .exact .inl (key.1 aa)
  .rename_i hw;exact key.2 ((Bool.not_eq_true _).mp hw)
end
end Go.Sx
