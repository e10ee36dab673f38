/-
 The statement BoundMeasures: part 2.
 Conditions: none.
-/
import Derived.Laws.Small
import Derived.Test.YtgedmeaemofdkaaGreatS1
set_option maxRecDepth 100000
set_option maxHeartbeats 2000000
set_option linter.all false
open Option renaming some->U,none->V,map_eq_some_iff->La,map_some->Lu
open Bool renaming true->X,false->L,false_eq_true->F,not_true->Lv,and_eq_true->L6,not_false->L7,or_eq_false_iff->L8
open List renaming replicate->Y,getElem?_toArray->C,getElem?_eq_some_iff->R,getElem?_cons_zero->O,getElem?_cons_succ->Lb,length_append->Ld,mem_of_getElem?->Le,getElem?_eq_getElem->Lk,getElem?_map->Ls,length_pos_iff->Ly,getElem?_drop->LI,getElem?_of_mem->LJ,getElem?_take->LK,length_nil->LL,length_replicate->LM,mem_append->LN,mem_of_mem_drop->LO,mem_of_mem_take->LP,mem_replicate->LQ,size_toArray->LR,all_eq_true->Xg,getElem?_replicate->Xh,getElem_mem->Xi,length_cons->Xj
open Go.Result renaming andThen_ok->Z
open Nat renaming add_mul->W,mul_le_mul_right->G,add_assoc->Ll,le_refl->Lt,add_zero->Lz,eq_zero_or_pos->LA,div_add_mod->LS,div_lt_iff_lt_mul->LU,min->LV,mod_lt->LW,mul_comm->LX,beq->Xk,ble->Xl,le_of_ble_eq_true->Xm,lt_or_ge->Xn,pos_of_ne_zero->Xo,zero_min->Xp
open Go.Sem renaming run_bind->N,run_pure->M,run_ite->LY
open Go.Builtin renaming zeroCells->S,append_->Lg,copy_->Lh,firstCells->Lp,lenOf->Lq,nextslicecap->Lr,clear_->Lw,growBy->LG
open Go.Addr renaming add_lit->Lc,add->L1
open Array renaming getElem?_eq_getElem->Lf,eq_empty_of_size_eq_zero->Ln,range->Lo,getElem?_eq_some_iff->LC,getElem?_map->LD,append_assoc->L2,getElem?_append_left->L3,getElem?_extract->L4,map_empty->L5
open Go.Instr renaming typeAssert->Li,fill->Lx,indexAt->LH,build->L9,buildSlice->Xa,fieldAt->Xb,makeFunc->Xc,makeSlice->Xd,sliceAt->Xe,sureAddr->Xf
open Go.IntKind renaming i64->Lj
open Option.some renaming injEq->Lm
open Go.Question renaming appendCap->LB
open Go.Array renaming range_zero'->LF
open Go.World renaming alloc_eq->LZ,drew_eq->L0,cell?->Xq
namespace Go.Sx
def Z8C(P:Program)(t f:Nat):Option Field:=match P.underlying t with | U (.struct fs)=>fs[f]? | _=>V
def Z4G(P:Program)(t f:Nat)(x:AV):Option Res :=
 match Z8C P t f with
 | some fd=>match szOf P fd.type with
  | 0=>V
  | _+1=>match x with
   | .pt b i o=>match noMp o&&noMp (o+fd.offset)with | X=>U ⟨.pt b i (o+fd.offset),V,[]⟩ | L=>V
   | .rp e o=>U ⟨.rp e (o+fd.offset),V,[]⟩
   | _=>V
 | none=>V
def Z91{P:Program}{w:World}{t f:Nat}{fd:Field}{n:Nat}(h:Z8C P t f=U fd)(hz:szOf P fd.type=n+1)(g o:Nat) :
  (Xb t (.pointer (U ⟨g,o,V⟩)) f).run P w = .ok (.pointer (U ⟨g,o+fd.offset,V⟩)) w:=by
 unfold Z8C at h;split at h
 .rename_i fs hu;have hs:=Z3N hz pq w;simp[Xb,run_underlying hu,h,Xf,fieldPlace,hs,Lc]
 .cases h
def Z8Y{P:Program}{o:Oper}{id:Nat}{E:Operand->AV}{H:Heap}{r:Res}{x:Operand}{t f:Nat}
  (ho:o.op = .fieldAddr t x f) (h:Z4G P t f (E x)=U r):Z1X P o id E H r:=by
 intro Ow Im0 w0 ρ w Im clk a I _ _ hE _;have hx:=hE x;unfold Z4G at h;split at h;rotate_left
 .cases h
 rename_i fd hfd;split at h
 .cases h
 rename_i n hz;split at h
 .rename_i b i oo hE';split at h;rotate_left
  .cases h
  rename_i hmp;simp only[L6]at hmp;cases h;rw[hE']at hx;obtain⟨g,s,m,hρ,hv⟩:=Z3H hx hmp.1;refine .inl ⟨.pointer (U ⟨g,i*s+oo+fd.offset,V⟩),w,by simp[execOp,ho,hv,Z91 hfd hz],.same I ?_⟩;have:=Rel.pt (w:=w) (Im:=Im) (i:=i) (o:=oo+fd.offset) hρ;rw[Z6L hmp.2]at this;rwa [<- Ll]at this
 .rename_i e oo hE';cases h;rw[hE']at hx;generalize hv:a.eval x=v at hx;cases hx with
  | rp hp him hc =>
   rename_i p;refine .inl ⟨.pointer (U ⟨p.block,p.off+oo+fd.offset,V⟩),w,by simp[execOp,ho,hv,Z91 hfd hz],.same I ?_⟩;have:=Rel.rp (ρ:=ρ) (o:=oo+fd.offset) hp him hc;rwa [<- Ll]at this
 .cases h
def Zb8(P:Program)(t f:Nat)(x:AV):Option Res :=
 match Z8C P t f with
 | some fd=>match x with
  | .ag l=>(Z9L P fd.type l fd.offset).map λy=>⟨y,V,[]⟩
  | _=>V
 | none=>V
def Zla{P:Program}{w:World}{t:Nat}{l:List AV}{cs:Array Value}{o:Nat}{x:AV}{ρ:Rho}{Im:Nat->Prop}(hn:cs.size=l.length)(hone:∀ (i:Nat) (u:Value),cs[i]? = U u->u.oneCell'=X)
  (hc:∀ (i:Nat) (a:AV) (u:Value),l[i]? = U a->cs[i]? = U u->Rel ρ w Im a u) (hx:Z9L P t l o=U x):∃ v,(part t cs o).run P w = .ok v w/\Rel ρ w Im x v:=by
 unfold Z9L at hx;split at hx
 .rename_i hagg;split at hx
  .rename_i hlen;cases hx;have hs:(sizeOf t).run P w = .ok (szOf P t) w:=by
    unfold Z6p at hagg;unfold szOf;cases hi:P.info? t with
    | none=>simp[Program.underlying,hi]at hagg
    | some i=>simp[sizeOf,typeInfo,hi]
   refine⟨.agg (cs.extract o (o+szOf P t)),by simp[part,Z4W hagg,hs],.ag _ _ ?_ ?_ ?_⟩
   .have:(seg l o (szOf P t)).length=min (szOf P t) (l.length-o):=by simp[seg]
    simp;omega
   .intro i u hu;rw[L4]at hu;split at hu
    .exact hone _ u hu
    .cases hu
   .intro i a u ha hu;rw[L4]at hu;split at hu
    .refine hc _ a u ?_ hu;simp only[seg]at ha;rw[LK]at ha;split at ha
     .rwa [LI]at ha
     .cases ha
    .cases hu
  .cases hx
 .rename_i hagg;have ho:o<cs.size:=by rw[hn];exact(R.1 hx).1
  exact⟨cs[o],by simp[part,Z4W hagg,ho],hc o x _ hx (Lf ho)⟩
 .cases hx
def Zea{P:Program}{o:Oper}{id:Nat}{E:Operand->AV}{H:Heap}{r:Res}{x:Operand}{t f:Nat}
  (ho:o.op = .field t x f) (h:Zb8 P t f (E x)=U r):Z1X P o id E H r:=by
 intro Ow Im0 w0 ρ w Im clk a I _ _ hE _;have hx:=hE x;unfold Zb8 at h;split at h;rotate_left
 .cases h
 rename_i fd hfd;split at h;rotate_left
 .cases h
 rename_i l hE';simp only[La]at h;obtain⟨y,hy,rfl⟩:=h;obtain⟨cs,hv,hn,hone,hc⟩:=Z3a (hE'▸hx);obtain⟨v,k1,k2⟩:=Zla (P:=P) hn hone hc hy;unfold Z8C at hfd;split at hfd
 .rename_i fs hu;exact .inl ⟨v,w,by simp[execOp,ho,hv,Instr.field,run_underlying hu,hfd,asAgg,k1],.same I k2⟩
 .cases hfd
def Z16(P:Program)(t:Nat):Option Nat:=match P.underlying t with | U (.slice e)=>U e | _=>V
def ZdE(P:Program)(t:Nat):Option (Nat×Nat):=match P.underlying t with | U (.array n e)=>U (n,e) | _=>V
def intH(hs:List Hint)(n:Int):Int×List Prop:=match hs with
 | .int m::_=>(m,[n=m])
 | _=>(n,[])
def ZnI{hs:List Hint}{n m:Int}{ps:List Prop}(h:intH hs n=(m,ps))(hp:allP ps):n=m:=by
 unfold intH at h;split at h
 .cases h;exact hp
 .cases h;rfl
def Z3R(P:Program)(t:Nat)(hs:List Hint)(x y:AV)(H:Heap):Option Res :=
 match y with
 | .d (.sc (.int _ n))=>match Z16 P t with
  | some e=>match x with
   | .d (.sl s els)=>if szOf P e=s/\s≠0 then
    match hs with
    | .el e::_=>U ⟨.rp e 0,V,[0<=n/\els[n.toNat]? = U e]⟩
    | _=>V
    else V
   | .ow b=>match H b with
    | some (.arr _ s els)=>if szOf P e=s/\s≠0 then U ⟨.pt b n.toNat 0,V,[0<=n/\n.toNat<els.length]⟩else V
    | _=>V
   | .os b o m=>match H b with
    | some (.arr _ s _)=>if szOf P e=s/\s≠0 then U ⟨.pt b (o+n.toNat) 0,V,[0<=n/\n.toNat<m]⟩else V
    | _=>V
   | _=>V
  | none=>match ZdE P t with
   | some (m,e)=>match x with
    | .pt b i o=>match intH hs n with
     | (.ofNat k,ps)=>if k<m/\szOf P e≠0 then(match noMp o&&noMp (o+k*szOf P e)with | X=>U ⟨.pt b i (o+k*szOf P e),V,ps⟩ | L=>V)else V
     | _=>V
    | _=>V
   | none=>V
 | _=>V
def Z3U{P:Program}{w:World}{t e:Nat}{p:Addr}{len cap:Nat}{k:IntKind}{n:Int}(ht:Z16 P t=U e)(hz:szOf P e≠0)(h0:0<=n)(h1:n<len) :
  (LH t (.slice (U p) len cap) (.int k n)).run P w = .ok (.pointer (U (p.add (n.toNat*szOf P e)))) w:=by
 unfold Z16 at ht;split at ht
 .rename_i e' hu;cases ht;have hs:=Z3N (P:=P) rfl hz w;simp[LH,run_underlying hu,asIntOf,h0,h1,hs]
 .cases ht
def addr_add{p:Addr}(hp:p.spot=V)(n:Nat):p.add n=⟨p.block,p.off+n,V⟩:=by
 obtain⟨b,o,s⟩:=p;simp only at hp;subst hp;exact Lc b o n
def Z9c{P:Program}{o:Oper}{id:Nat}{E:Operand->AV}{H:Heap}{r:Res}{x y:Operand}{t:Nat}{hs:List Hint}
  (ho:o.op = .indexAddr t x y) (h:Z3R P t hs (E x) (E y) H=U r):Z1X P o id E H r:=by
 intro Ow Im0 w0 ρ w Im clk a I _ _ hE hph;have hx:=hE x;have hy:=hE y;unfold Z3R at h;split at h;rotate_left
 .cases h
 rename_i k n hE2;rw[hE2]at hy;have hvy:=Z0G hy;split at h
 .rename_i e he;split at h
  .rename_i s els hE1;rw[hE1]at hx;split at h;rotate_left
   .cases h
   rename_i hsz;split at h;rotate_left
   .cases h
   rename_i e' _;cases h;obtain⟨p1,p2⟩:0<=n/\els[n.toNat]? = U e':=by simpa[allP]using hph
   generalize hv:a.eval x=v at hx;cases hx with
   | d hx =>
    cases hx with
    | slNil s a c=>simp at p2
    | sl s els p m c f hn hc hb hs hp him hcell hrel =>
     have hlt:n.toNat<els.length:=(R.1 p2).1;refine .inl ⟨.pointer (U (p.add (n.toNat*szOf P e))),w,by simp[execOp,ho,hv,hvy,Z3U he (by rw[hsz.1];exact hsz.2) p1 (show n<(m:Int)from by omega)],.same I ?_⟩;rw[addr_add hp,hsz.1];have:=Rel.rp (ρ:=ρ) (w:=w) (Im:=Im) (e:=e') (o:=0) (p:=⟨p.block,p.off+n.toNat*s,V⟩) rfl him (λj d hj=>⟨f n.toNat j,by
      have:=hcell n.toNat e' j d p2 hj;rw[<- Ll]at this;exact this,hrel n.toNat e' j d p2 hj⟩)
     simpa using this
  .rename_i b hE1;rw[hE1]at hx;split at h;rotate_left
   .cases h
   rename_i ty s els hb;split at h;rotate_left
   .cases h
   rename_i hsz;cases h;obtain⟨p1,p2⟩:0<=n/\n.toNat<els.length:=by simpa[allP]using hph
   generalize hv:a.eval x=v at hx;cases hx with
   | ow hρ hc hbg ha =>
    rename_i c ad β;obtain⟨β',h1,h2⟩:=I.blk b _ hb;rw[hρ]at h1;cases h1;obtain⟨g1,g2,_,_,_⟩:=h2;rcases ha with ha | ⟨g,hg,rfl,hrow⟩
    .omega
    .refine .inl ⟨.pointer (U (L1 ⟨g,0,V⟩ (n.toNat*szOf P e))),w,by simp[execOp,ho,hv,hvy,Z3U he (by rw[hsz.1];exact hsz.2) p1 (show n<(β.n:Int)from by omega)],.same I ?_⟩;rw[Lc,hsz.1];obtain⟨bg,bs,bn⟩:=β;simp only at hg g1 g2;subst hg;subst g1;have:=Rel.pt (w:=w) (Im:=Im) (i:=n.toNat) (o:=0) hρ;rw[Z6L rfl]at this;simpa using this
  .rename_i b oo m hE1;rw[hE1]at hx;split at h;rotate_left
   .cases h
   rename_i ty s els hb;split at h;rotate_left
   .cases h
   rename_i hsz;cases h;obtain⟨p1,p2⟩:0<=n/\n.toNat<m:=by simpa[allP]using hph
   generalize hv:a.eval x=v at hx;cases hx with
   | os hρ hn hc hbg ha =>
    rename_i c ad β;obtain⟨β',h1,h2⟩:=I.blk b _ hb;rw[hρ]at h1;cases h1;obtain⟨g1,g2,_,_,_⟩:=h2;rcases ha with ha | ⟨g,hg,rfl,hrow⟩
    .omega
    .refine .inl ⟨.pointer (U (L1 ⟨g,oo*β.s,V⟩ (n.toNat*szOf P e))),w,by simp[execOp,ho,hv,hvy,Z3U he (by rw[hsz.1];exact hsz.2) p1 (show n<(m:Int)from by omega)],.same I ?_⟩;rw[Lc,hsz.1];obtain⟨bg,bs,bn⟩:=β;simp only at hg g1 g2;subst hg;subst g1;have:=Rel.pt (w:=w) (Im:=Im) (i:=oo+n.toNat) (o:=0) hρ;rw[Z6L rfl,W]at this;simpa using this
  .cases h
 .split at h;rotate_left
  .cases h
  rename_i m e he;split at h;rotate_left
  .cases h
  rename_i b i oo hE1;rw[hE1]at hx;split at h;rotate_left
  .cases h
  rename_i k' ps' hk';split at h;rotate_left
  .cases h
  rename_i hkm;split at h;rotate_left
  .cases h
  rename_i hmp;simp only[L6]at hmp;cases h;have hnk:=ZnI hk' hph;subst hnk;obtain⟨g,s,mm,hρ,hv⟩:=Z3H hx hmp.1;unfold ZdE at he;split at he
  .rename_i m' e' hu;cases he;have hsr:=Z3N (P:=P) rfl hkm.2 w;refine .inl ⟨_,w, ?_,.same I (Z6L hmp.2▸Rel.pt (i:=i) (o:=oo+k'*szOf P e) hρ)⟩;have e1:i*s+oo+k'*szOf P e=i*s+(oo+k'*szOf P e):=by omega
   have hk:(k':Int)<m:=by omega
   simp[execOp,ho,hv,hvy,LH,run_underlying hu,asIntOf,Xf,hsr,Lc,e1,hkm.1]
  .cases he
def Zgb(P:Program)(t:Nat)(hs:List Hint)(x:AV)(H:Heap):Option Res :=
 match Z16 P t with
 | some _=>match x with
  | .d (.sl _ els)=>U (numR .i64 els.length [] hs)
  | .ow b=>match H b with
   | some (.arr _ _ els)=>U (numR .i64 els.length [] hs)
   | _=>V
  | .os _ _ n=>U (numR .i64 n [] hs)
  | _=>V
 | none=>V
def ZhG{P:Program}{o:Oper}{id:Nat}{E:Operand->AV}{H:Heap}{r:Res}{x:Operand}{t:Nat}{hs:List Hint}
  (ho:o.op = .call ⟨.builtin .len,#[x],#[t]⟩) (h:Zgb P t hs (E x) H=U r):Z1X P o id E H r:=by
 unfold Zgb at h;split at h;rotate_left
 .cases h
 rename_i e he;unfold Z16 at he;split at he;rotate_left
 .cases he
 rename_i e' hu;have base:∀ (w:World) (a:Act) (p:Option Addr) (n c:Nat),a.eval x = .slice p n c->(execOp a.eval o).run P w = .ok (.value (.int .i64 n)) w:=by
  intro w a p n c hv;simp[execOp,ho,resolve,hv,invoke,builtin,Builtin.len_,run_underlying hu,goInt]
 split at h
 .rename_i s els hE1;cases h;refine Z1y λρ w Im a hE _=>?_;have hx:=hE x;rw[hE1]at hx;generalize hv:a.eval x=v at hx;cases hx with
  | d hx =>
   cases hx with
   | slNil s p c=>exact base w a _ _ _ hv
   | sl s els p n c f hn=>rw[base w a _ _ _ hv,hn]
 .rename_i b hE1;split at h;rotate_left
  .cases h
  rename_i ty s els hb;cases h;intro Ow Im0 w0 ρ w Im clk a I _ _ hE hph;have hx:=hE x;rw[hE1]at hx;generalize hv:a.eval x=v at hx;cases hx with
  | ow hρ hc hbg ha =>
   rename_i c ad β;obtain⟨β',h1,h2⟩:=I.blk b _ hb;rw[hρ]at h1;cases h1;obtain⟨g1,g2,_,_,_⟩:=h2;have hrun:=base w a _ _ _ hv;rw[g2]at hrun;unfold numR at hph ⊢;split at hph
   .rename_i m _;obtain⟨h1,_⟩:=allP_cons.1 hph;rw[h1]at hrun;exact .inl ⟨_,w,hrun,.same I (.d (.sc _ rfl))⟩
   .exact .inl ⟨_,w,hrun,.same I (.d (.sc _ rfl))⟩
 .rename_i b oo n hE1;cases h;refine Z1y λρ w Im a hE _=>?_;have hx:=hE x;rw[hE1]at hx;generalize hv:a.eval x=v at hx;cases hx with
  | os hρ hn hc hbg ha=>exact base w a _ _ _ hv
 .cases h
def Z7b(n:Nat)(x:AV):Option Res:=match x with | .tu l=>(l[n]?).map λy=>⟨y,V,[]⟩ | _=>V
def ZbZ{P:Program}{o:Oper}{id:Nat}{E:Operand->AV}{H:Heap}{r:Res}{x:Operand}{n:Nat}
  (ho:o.op = .extract x n) (h:Z7b n (E x)=U r):Z1X P o id E H r:=by
 intro Ow Im0 w0 ρ w Im clk a I _ _ hE _;have hx:=hE x;unfold Z7b at h;split at h
 .rename_i l hE1;simp only[La]at h;obtain⟨y,hy,rfl⟩:=h;rw[hE1]at hx;generalize hv:a.eval x=v at hx;cases hx with
  | tu l cs hn hc =>
   have hl:n<cs.size:=by rw[hn];exact(R.1 hy).1
   exact .inl ⟨cs[n],w,by simp[execOp,ho,hv,Instr.extract,hl],.same I (hc n y _ hy (by simp[hl]))⟩
 .cases h
def Z5W(x:AV):Option Res:=match x with | .pt b i o=>(match noMp o with | X=>U ⟨.pt b i o,V,[]⟩ | L=>V) | .rp e o=>U ⟨.rp e o,V,[]⟩ | .fn f c=>U ⟨.fn f c,V,[]⟩ | _=>V
def Z9K{P:Program}{o:Oper}{id:Nat}{E:Operand->AV}{H:Heap}{r:Res}{x:Operand}
  (ho:o.op = .nilCheck x) (h:Z5W (E x)=U r):Z1X P o id E H r:=by
 intro Ow Im0 w0 ρ w Im clk a I _ _ hE _hph;have hx:=hE x;unfold Z5W at h;split at h<;>first | (cases h;done) | cases h | skip
 .rename_i b i oo hE1;split at h;rotate_left
  .cases h
  rename_i hmp;cases h;rw[hE1]at hx;obtain⟨g,s,m,hρ,hv⟩:=Z4p hx;have hv':=hv.trans (Z6L hmp);exact .inl ⟨a.eval x,w,by simp[execOp,ho,hv'],.same I hx⟩
 .rename_i e oo hE1;rw[hE1]at hx;generalize hv:a.eval x=v at hx;cases hx with
  | rp hp him hc=>exact .inl ⟨_,w,by simp[execOp,ho,hv],.same I (.rp hp him hc)⟩
 .rename_i f c hE1;rw[hE1]at hx;generalize hv:a.eval x=v at hx;cases hx with
  | fn hn hc=>exact .inl ⟨_,w,by simp[execOp,ho,hv],.same I (.fn hn hc)⟩
def Z4o(fn:Fn)(first captured:Array Operand)(E:Operand->AV):Option Res :=
 match fn,first.toList with
 | .func f,[]=>U ⟨.fn f (captured.toList.map E),V,[]⟩
 | .func f,[x]=>match captured.toList with
  | []=>U ⟨.fm f (E x),V,[]⟩
  | _=>V
 | _,_=>V
def Z9F{P:Program}{o:Oper}{id:Nat}{E:Operand->AV}{H:Heap}{r:Res}{fn:Fn}{first captured:Array Operand}
  (ho:o.op = .makeFunc fn first captured) (h:Z4o fn first captured E=U r):Z1X P o id E H r:=by
 intro Ow Im0 w0 ρ w Im clk a I _ _ hE _;unfold Z4o at h;split at h
 .rename_i f hf;cases h;have:first = #[]:=by simpa using hf
  subst this;refine .inl ⟨.func (.func f) #[] (captured.map a.eval),w,by simp[execOp,ho,Xc],.same I (.fn pq λi b v hb hv=>?_)⟩;simp only[Ls,La]at hb;obtain⟨x,hx,rfl⟩:=hb;have hx':captured[i]? = U x:=by simpa using hx
  simp only[LD,hx',Lu,Lm]at hv;subst hv;exact hE x
 .rename_i f x hf;split at h
  .rename_i hc;cases h;have e1:first = #[x]:=by simpa using congrArg List.toArray hf
   have e2:captured = #[]:=by simpa using hc
   subst e1;subst e2;exact .inl ⟨.func (.func f) #[a.eval x] #[],w,by simp[execOp,ho,Xc],.same I (.fm (hE x))⟩
  .cases h
 .cases h
def Z2H(P:Program)(t:Nat):Bool:=match P.underlying t with | U (.interface _)=>L | U _=>X | V=>L
def Z3i(P:Program)(t:Nat)(x:AV):Option Res:=if Z2H P t then U ⟨.ic t x,V,[]⟩else V
def Z5T{P:Program}{o:Oper}{id:Nat}{E:Operand->AV}{H:Heap}{r:Res}{x:Operand}{t:Nat}
  (ho:o.op = .makeInterface t x) (h:Z3i P t (E x)=U r):Z1X P o id E H r:=by
 intro Ow Im0 w0 ρ w Im clk a I _ _ hE _;unfold Z3i at h;split at h
 .rename_i hc;cases h;have hc':P.concrete t=X:=by
   unfold Z2H at hc;unfold Program.concrete;cases hu:P.underlying t with
   | none=>simp[hu]at hc
   | some d=>cases d<;>simp_all
  exact .inl ⟨_,w,by simp[execOp,ho,run_makeInterface (P:=P) w t _ hc'],.same I (.ic (hE x))⟩
 .cases h
def Z5F{P:Program}{w:World}{t:Nat}{z:Value}(h:zeroOf P t=U z):(zeroValue t).run P w = .ok z w:=by
 unfold zeroOf at h;split at h
 .rename_i i hi;simp[zeroValue,typeInfo,hi,h]
 .cases h
def Zhq{P:Program}{w:World}{t xT:Nat}(hc:Z2H P t=X)(v:Value):(Li (.iface t v) xT t X).run P w = .ok (.tuple #[v,.bool X]) w:=by
 unfold Z2H at hc;cases hu:P.underlying t with
 | none=>simp[hu]at hc
 | some d=>cases d<;>simp_all[Li,run_underlying hu]
def ZbE{P:Program}{w:World}{t u xT:Nat}{z:Value}(hc:Z2H P t=X)(hz:zeroOf P t=U z)(hn:u≠t)(v:Value):(Li (.iface u v) xT t X).run P w = .ok (.tuple #[z,.bool L]) w:=by
 unfold Z2H at hc;cases hu:P.underlying t with
 | none=>simp[hu]at hc
 | some d=>cases d<;>simp_all[Li,run_underlying hu,Z5F hz]
def Z9w{P:Program}{w:World}{t xT:Nat}{z:Value}(hc:Z2H P t=X)(hz:zeroOf P t=U z):(Li .nilIface xT t X).run P w = .ok (.tuple #[z,.bool L]) w:=by
 unfold Z2H at hc;cases hu:P.underlying t with
 | none=>simp[hu]at hc
 | some d=>cases d<;>simp_all[Li,run_underlying hu,Z5F hz]
def noT(z:Value):AV:=.tu [cv z,.d (.sc (.bool L))]
def Z9q(P:Program)(t:Nat)(ok:Bool)(x:AV):Option Res :=
 match Z2H P t,ok,zeroOf P t with
 | true,true,some z=>match x with
  | .ic u a=>match Xk u t with
   | true=>U ⟨.tu [a,.d (.sc (.bool X))],V,[]⟩
   | false=>U ⟨noT z,V,[]⟩
  | .d (.sc .nilIface)=>U ⟨noT z,V,[]⟩
  | _=>V
 | _,_,_=>V
def Zej{ρ:Rho}{w:World}{Im:Nat->Prop}{a b:AV}{x y:Value}(h:Rel ρ w Im a x)(k:Rel ρ w Im b y):Rel ρ w Im (.tu [a,b]) (.tuple #[x,y]):=by
 refine .tu _ _ rfl λi c v hc hv=>?_
 match i with
 | 0=>simp at hc hv;subst hc;subst hv;exact h
 | 1=>simp at hc hv;subst hc;subst hv;exact k
 | i+2=>simp at hc
def ZcA{P:Program}{o:Oper}{id:Nat}{E:Operand->AV}{H:Heap}{r:Res}{x:Operand}{xT t:Nat}{ok:Bool}
  (ho:o.op = .typeAssert x xT t ok) (h:Z9q P t ok (E x)=U r):Z1X P o id E H r:=by
 intro Ow Im0 w0 ρ w Im clk a I _ _ hE _;unfold Z9q at h;split at h;rotate_left
 .cases h
 rename_i z hc hz;have h1:=hE x;split at h
 .rename_i u b hx;rw[hx]at h1;generalize hv:a.eval x=v at h1;cases h1 with
  | ic h1 =>
   split at h
   .rename_i hb;cases h;obtain rfl:=Nat.eq_of_beq_eq_true hb;exact .inl ⟨_,w,by simp[execOp,ho,hv,Zhq (w:=w) (xT:=xT) hc],.same I (Zej h1 (.d (.sc _ rfl)))⟩
   .rename_i hb;cases h;exact .inl ⟨_,w,by simp[execOp,ho,hv,ZbE (w:=w) (xT:=xT) hc hz (Nat.ne_of_beq_eq_false hb)],.same I (Zej (Z6n _ _ _ _) (.d (.sc _ rfl)))⟩
 .rename_i hx;cases h;have h2:=Z0G (hx▸h1);exact .inl ⟨_,w,by simp[execOp,ho,h2,Z9w (w:=w) (xT:=xT) hc hz],.same I (Zej (Z6n _ _ _ _) (.d (.sc _ rfl)))⟩
 .cases h
def Zgq(mx:Bool)(hs:List Hint)(x y:AV):Option Res:=match x with
 | .d (.sc (.int k a))=>match y with
  | .d (.sc (.int _ b))=>match mx with
   | true=>U (numR k (if b > a then b else a) [] hs)
   | false=>U (numR k (if b<a then b else a) [] hs)
  | _=>V
 | _=>V
def ZjT{P:Program}{o:Oper}{id:Nat}{E:Operand->AV}{H:Heap}{r:Res}{x y:Operand}{t t':Nat}{hs:List Hint}
  (ho:o.op = .call ⟨.builtin .max,#[x,y],#[t,t']⟩) (h:Zgq X hs (E x) (E y)=U r):Z1X P o id E H r:=by
 unfold Zgq at h;split at h
 .rename_i k a hx;split at h
  .rename_i k' b hy;cases h;refine Z1y λρ w Im s hE _=>?_;have h1:=Z0G (hx▸hE x);have h2:=Z0G (hy▸hE y);simp[execOp,ho,resolve,h1,h2,invoke,builtin,run_max_int2]
  .cases h
 .cases h
def Ziq{P:Program}{o:Oper}{id:Nat}{E:Operand->AV}{H:Heap}{r:Res}{x y:Operand}{t t':Nat}{hs:List Hint}
  (ho:o.op = .call ⟨.builtin .min,#[x,y],#[t,t']⟩) (h:Zgq L hs (E x) (E y)=U r):Z1X P o id E H r:=by
 unfold Zgq at h;split at h
 .rename_i k a hx;split at h
  .rename_i k' b hy;cases h;refine Z1y λρ w Im s hE _=>?_;have h1:=Z0G (hx▸hE x);have h2:=Z0G (hy▸hE y);simp[execOp,ho,resolve,h1,h2,invoke,builtin,run_min_int2]
  .cases h
 .cases h
def Zlc{w:World}{Im:Nat->Prop}{s:Nat}{els:List (List DV)}{a:Option Addr}{n c l h:Nat}(hx:RelD w Im (.sl s els) (.slice a n c))(h1:l<=h)(h2:h<=els.length)(sz:Nat)(hsz:sz=s\/els=[]) :
  n=els.length/\n<=c\/els=[]->RelD w Im (.sl s ((els.drop l).take (h-l))) (.slice (if c=l then a else a.map (·.add (l*sz))) (h-l) (c-l)):=by
 intro _;by_cases he:h-l=0
 .rw[he];simpa using RelD.slNil s _ _
 .cases hx with
  | slNil=>simp at h2;omega
  | sl s els p n c f hn hc hb hs hp him hcell hrel =>
   have hsz':sz=s:=by
    rcases hsz with h | h
    .exact h
    .subst h;simp at h2;omega
   subst hsz';rw[if_neg oq];simp only[Lu];rw[addr_add hp];have get:∀ i e,((els.drop l).take (h-l))[i]? = U e->els[l+i]? = U e:=by
    intro i e hi;rw[LK]at hi;split at hi
    .rwa [LI]at hi
    .cases hi
   refine .sl sz _ _ _ _ (λi o=>f (l+i) o) qo oq oq (λe he'=>hs e (LO (LP he'))) rfl him ?_ ?_
   .intro i e o x hi ho;have:=hcell (l+i) e o x (get i e hi) ho;rw[W]at this;simpa[Ll]using this
   .intro i e o x hi ho;exact hrel (l+i) e o x (get i e hi) ho
def bnd(d:Int):Option AV->Option Int
 | none=>U d
 | some (.d (.sc (.int _ n)))=>U n
 | _=>V
def sub(els:List (List DV))(lo hi:Option AV)(l h:Int):List (List DV) :=
 match lo,hi with
 | none,none=>els
 | some _,none=>els.drop l.toNat
 | none,some _=>els.take h.toNat
 | some _,some _=>(els.drop l.toNat).take (h.toNat-l.toNat)
def slP(lo hi:Option AV)(l h n:Int):List Prop :=
 match lo,hi with
 | none,none=>[]
 | some _,none=>[0<=l/\l<=n]
 | none,some _=>[0<=h/\h<=n]
 | some _,some _=>[0<=l/\l<=h/\h<=n]
def Z7Z(P:Program)(t:Nat)(hs:List Hint)(x:AV)(lo hi:Option AV)(H:Heap):Option Res :=
 match Z16 P t with
 | none=>V
 | some e=>match x with
  | .d (.sl s els)=>if szOf P e=s then
   match bnd 0 lo,bnd els.length hi with
   | some l,some h=>match hs with
    | .els l'::_=>U ⟨.d (.sl s l'),V,slP lo hi l h els.length++[sub els lo hi l h=l']⟩
    | _=>U ⟨.d (.sl s (sub els lo hi l h)),V,slP lo hi l h els.length⟩
   | _,_=>V
   else V
  | .ow b=>match H b with
   | some (.arr _ s els)=>if szOf P e=s then
    match bnd 0 lo,bnd els.length hi with
    | some l,some h=>U ⟨.os b l.toNat (h.toNat-l.toNat),V,slP lo hi l h els.length⟩
    | _,_=>V
    else V
   | _=>V
  | .os b o n=>match H b with
   | some (.arr _ s _)=>if szOf P e=s then
    match bnd 0 lo,bnd n hi with
    | some l,some h=>U ⟨.os b (o+l.toNat) (h.toNat-l.toNat),V,slP lo hi l h n⟩
    | _,_=>V
    else V
   | _=>V
  | _=>V
def Zbl{P:Program}{e:Nat}(he:(P.info? e).isSome=X)(w:World):(sizeOf e).run P w = .ok (szOf P e) w:=by
 obtain⟨i,hi⟩:=Option.isSome_iff_exists.1 he;simp[sizeOf,typeInfo,hi,szOf]
def ZdA{P:Program}{w:World}{t e:Nat}{a:Option Addr}{n c l h:Nat}{lo hi:Option Value}(ht:Z16 P t=U e)(he:(P.info? e).isSome=X)
  (hlo:lo=V/\l=0\/∃ k,lo=U (.int k l)) (hhi:hi=V/\h=n\/∃ k,hi=U (.int k h)) (h1:l<=h) (h2:h<=n) (h3:n<=c) :
  (Xe t (.slice a n c) lo hi V).run P w = .ok (.slice (if c=l then a else a.map (·.add (l*szOf P e))) (h-l) (c-l)) w:=by
 unfold Z16 at ht;split at ht;rotate_left
 .cases ht
 rename_i e' hu;cases ht;have hs:=Zbl he w;have c1:h<=c:=by omega
 rcases hlo with⟨rfl,rfl⟩ | ⟨k,rfl⟩<;>rcases hhi with⟨rfl,rfl⟩ | ⟨k',rfl⟩ <;>
  simp[Xe,Instr.slice,run_underlying hu,Instr.sliceBounds,Instr.sliceBound,asIntOf,hs,c1,h1]
def ZfW{d:Int}{x:Option AV}{n:Int}(h:bnd d x=U n):(x=V/\n=d)\/∃ k,x=U (.d (.sc (.int k n))):=by
 unfold bnd at h;split at h
 .cases h;exact .inl ⟨rfl,rfl⟩
 .cases h;exact .inr ⟨_,rfl⟩
 .cases h
def ZbS{lo hi:Option AV}{l h n:Int}(hp:allP (slP lo hi l h n))(h0:0<=n)(hl:lo=V->l=0)(hh:hi=V->h=n):0<=l/\l<=h/\h<=n:=by
 unfold slP at hp;split at hp
 .have:=hl rfl;have:=hh rfl;omega
 .have:=hh rfl;simp[allP]at hp;omega
 .have:=hl rfl;simp[allP]at hp;omega
 .simp[allP]at hp;omega
def Zpl{els:List (List DV)}{lo hi:Option AV}{l h:Int}(h0:0<=l)(hl:lo=V->l=0)(hh:hi=V->h=els.length):sub els lo hi l h=(els.drop l.toNat).take (h.toNat-l.toNat):=by
 unfold sub;split
 .have:=hl rfl;have:=hh rfl;subst_vars;simp
 .have:=hh rfl;subst this;simp;rw[List.take_of_length_le pq]
 .have:=hl rfl;subst this;simp
 .rfl
def ZeG{P:Program}{o:Oper}{id:Nat}{E:Operand->AV}{H:Heap}{r:Res}{x:Operand}{lo hi:Option Operand}{t:Nat}{hs:List Hint}
  (ho:o.op = .slice t x lo hi V) (hinfo:∀ e,Z16 P t=U e->(P.info? e).isSome=X) (h:Z7Z P t hs (E x) (lo.map E) (hi.map E) H=U r):Z1X P o id E H r:=by
 intro Ow Im0 w0 ρ w Im clk a I _ _ hE hph;have hx:=hE x;unfold Z7Z at h;split at h
 .cases h
 rename_i e he;have hi':=hinfo e he;have lov:∀ (d l:Int),bnd d (lo.map E)=U l->0<=l->(lo.map a.eval=V/\l=d)\/∃ k,lo.map a.eval=U (.int k (l.toNat:Int)):=by
  intro d l hb h0;rcases ZfW hb with⟨h1,h2⟩ | ⟨k,h1⟩
  .cases lo with
   | none=>exact .inl ⟨rfl,h2⟩
   | some y=>simp at h1
  .cases lo with
   | none=>simp at h1
   | some y =>
    simp only[Lu,Lm]at h1;have:=Z0G (h1▸hE y);exact .inr ⟨k,by simp[this];omega⟩
 have hiv:∀ (d l:Int),bnd d (hi.map E)=U l->0<=l->(hi.map a.eval=V/\l=d)\/∃ k,hi.map a.eval=U (.int k (l.toNat:Int)):=by
  intro d l hb h0;rcases ZfW hb with⟨h1,h2⟩ | ⟨k,h1⟩
  .cases hi with
   | none=>exact .inl ⟨rfl,h2⟩
   | some y=>simp at h1
  .cases hi with
   | none=>simp at h1
   | some y =>
    simp only[Lu,Lm]at h1;have:=Z0G (h1▸hE y);exact .inr ⟨k,by simp[this];omega⟩
 have none1:∀ {d l:Int} {y:Option AV},bnd d y=U l->y=V->l=d:=by
  intro d l y hb hy;subst hy;simp[bnd]at hb;exact hb.symm
 have run:∀ (p:Option Addr) (n c:Nat) (l h:Int),a.eval x = .slice p n c->n<=c->bnd 0 (lo.map E)=U l->bnd (n:Int) (hi.map E)=U h->0<=l->l<=h->h<=n ->
   (execOp a.eval o).run P w = .ok (.value (.slice (if c=l.toNat then p else p.map (·.add (l.toNat*szOf P e))) (h.toNat-l.toNat) (c-l.toNat))) w:=by
  intro p n c l h hv hc hl hh h1 h2 h3;have e1:=lov 0 l hl h1;have e2:=hiv n h hh oq;have:=ZdA (P:=P) (w:=w) (a:=p) (n:=n) (c:=c) (l:=l.toNat) (h:=h.toNat) he hi' (e1.imp (λ⟨p,q⟩=>⟨p,by omega⟩) (λh=>h)) (e2.imp (λ⟨p,q⟩=>⟨p,by omega⟩) (λh=>h)) oq oq hc;simp[execOp,ho,hv,this]
 split at h
 .rename_i s els hE1;rw[hE1]at hx;split at h;rotate_left
  .cases h
  rename_i hsz;split at h;rotate_left
  .cases h
  rename_i l hh hl1 hh1;have fin:allP (slP (lo.map E) (hi.map E) l hh els.length)->Goes P o a w λv w'=>Then Ow Im0 w0 ρ w Im clk H (.d (.sl s (sub els (lo.map E) (hi.map E) l hh))) v w':=by
   intro hp;obtain⟨p1,p2,p3⟩:=ZbS hp oq (none1 hl1) (none1 hh1);rw[Zpl p1 (none1 hl1) (none1 hh1)];generalize hv:a.eval x=v at hx;cases hx with
   | d hx =>
    have hlen:∃ p n c,v = .slice p n c/\n=els.length/\n<=c:=by
     cases hx with
     | slNil s p c=>exact⟨p,0,c,rfl,rfl,Nat.zero_le _⟩
     | sl s els p n c f hn hc=>exact⟨U p,n,c,rfl,hn.symm,hc⟩
    obtain⟨p,n,c,rfl,hn,hc⟩:=hlen;refine .inl ⟨_,w,run p n c l hh hv hc hl1 (by rw[hn];exact hh1) p1 p2 oq,.same I (.d ?_)⟩;exact Zlc hx oq oq (szOf P e) (.inl hsz) (.inl ⟨hn,hc⟩)
  split at h
  .rename_i l' _;cases h;obtain⟨p1,p2⟩:=allP_append.1 hph;have p2':sub els (lo.map E) (hi.map E) l hh=l':=by simpa[allP]using p2
   have:=fin p1;rw[p2']at this;exact this
  .cases h;exact fin hph
 .rename_i b hE1;rw[hE1]at hx;split at h;rotate_left
  .cases h
  rename_i ty s els hb;split at h;rotate_left
  .cases h
  rename_i hsz;split at h;rotate_left
  .cases h
  rename_i l hh hl1 hh1;cases h;obtain⟨p1,p2,p3⟩:=ZbS hph oq (none1 hl1) (none1 hh1);generalize hv:a.eval x=v at hx;cases hx with
  | ow hρ hc hbg ha =>
   rename_i c ad β;obtain⟨β',h1,h2⟩:=I.blk b _ hb;rw[hρ]at h1;cases h1;obtain⟨g1,g2,_,_,_⟩:=h2;refine .inl ⟨_,w,run ad β.n c l hh hv hc hl1 (by rw[g2];exact hh1) p1 p2 oq,.same I (.os hρ oq oq oq ?_)⟩;rcases ha with ha | ⟨g,hg,rfl,hrow⟩
   .exact .inl oq
   .by_cases hcl:c=l.toNat
    .exact .inl oq
    .refine .inr ⟨g,hg,by rw[if_neg hcl];simp[Lc,hsz,g1], ?_⟩;rw[show l.toNat+(c-l.toNat)=c from by omega];exact hrow
 .rename_i b oo m hE1;rw[hE1]at hx;split at h;rotate_left
  .cases h
  rename_i ty s els hb;split at h;rotate_left
  .cases h
  rename_i hsz;split at h;rotate_left
  .cases h
  rename_i l hh hl1 hh1;cases h;obtain⟨p1,p2,p3⟩:=ZbS hph oq (none1 hl1) (none1 hh1);generalize hv:a.eval x=v at hx;cases hx with
  | os hρ hn hc hbg ha =>
   rename_i c ad β;obtain⟨β',h1,h2⟩:=I.blk b _ hb;rw[hρ]at h1;cases h1;obtain⟨g1,g2,_,_,_⟩:=h2;refine .inl ⟨_,w,run ad m c l hh hv hc hl1 hh1 p1 p2 oq,.same I (.os hρ oq oq oq ?_)⟩;rcases ha with ha | ⟨g,hg,rfl,hrow⟩
   .exact .inl oq
   .by_cases hcl:c=l.toNat
    .exact .inl oq
    .refine .inr ⟨g,hg,by rw[if_neg hcl];simp[Lc,hsz,g1,W], ?_⟩;rw[show oo+l.toNat+(c-l.toNat)=oo+c from by omega];exact hrow
 .cases h
def foldl_set(u:List Value):∀ (off k:Nat) (cells:Array Value),off+k+u.length<=cells.size ->
  ((u.zipIdx k).foldl (λcs (p:Value×Nat)=>cs.setIfInBounds (off+p.2) p.1) cells).size=cells.size /\
  ∀ j,((u.zipIdx k).foldl (λcs (p:Value×Nat)=>cs.setIfInBounds (off+p.2) p.1) cells)[j]? = if j<off+k then cells[j]? else if j<off+k+u.length then u[j-(off+k)]? else cells[j]? := by
 induction u with
 | nil=>intro off k cells _;refine⟨rfl,λj=>?_⟩;simp only[List.zipIdx_nil,List.foldl_nil,LL,Lz];split<;>rfl
 | cons x u ih =>
  intro off k cells h;simp only[Xj]at h;have:=ih off (k+1) (cells.setIfInBounds (off+k) x) qo;simp only[List.zipIdx_cons,List.foldl_cons];refine⟨by rw[this.1];simp,λj=>?_⟩;rw[this.2 j];simp only[Array.getElem?_setIfInBounds,Xj];by_cases h1:j<off+k
  .rw[if_pos oq,if_neg oq,if_pos h1]
  .rw[if_neg h1];by_cases h2:j=off+k
   .subst h2;rw[if_pos oq,if_pos rfl,if_pos oq,if_pos oq];simp
   .rw[if_neg (show ¬ j<off+(k+1) by omega)];by_cases h3:j<off+(k+1)+u.length
    .rw[if_pos h3,if_pos oq];have e:j-(off+k)=(j-(off+(k+1)))+1:=by omega
     rw[e];simp
    .rw[if_neg h3,if_neg oq,if_neg oq]
def Zal(v:Value)(off:Nat)(cells:Array Value)(h:off+v.cells.size<=cells.size) :
  (v.cells.zipIdx.foldl (λcs (p:Value×Nat)=>cs.setIfInBounds (off+p.2) p.1) cells).size=cells.size /\
  ∀ j,(v.cells.zipIdx.foldl (λcs (p:Value×Nat)=>cs.setIfInBounds (off+p.2) p.1) cells)[j]? = if j<off then cells[j]? else if j<off+v.cells.size then v.cells[j-off]? else cells[j]? := by
 have e:v.cells.zipIdx.foldl (λcs (p:Value×Nat)=>cs.setIfInBounds (off+p.2) p.1) cells=(v.cells.toList.zipIdx 0).foldl (λcs (p:Value×Nat)=>cs.setIfInBounds (off+p.2) p.1) cells:=by
  rw[<- Array.foldl_toList];simp
 have:=foldl_set v.cells.toList off 0 cells (by simpa using h);rw[e];refine⟨this.1,λj=>?_⟩;rw[this.2 j];simp
def Zh2(place:Nat->Option (Nat×Nat))(l:List AV):List (Nat×AV)->Option (List AV)
 | []=>U l
 | (i,x)::r=>match place i,x.cells with
  | some (off,size),some xs=>if xs.length=size/\off+size<=l.length then Zh2 place (splice l off xs) r else V
  | _,_=>V
def RelL(ρ:Rho)(w:World)(Im:Nat->Prop)(l:List AV)(cs:Array Value):Prop :=
 cs.size=l.length/\(∀ (i:Nat) (v:Value),cs[i]? = U v->v.oneCell'=X)/\∀ (i:Nat) (a:AV) (v:Value),l[i]? = U a->cs[i]? = U v->Rel ρ w Im a v
def ZaZ{ρ:Rho}{w:World}{Im:Nat->Prop}{place:Nat->Option (Nat×Nat)}:∀ {parts:List (Nat×AV)} {vals:List (Nat×Value)} {l l':List AV} {cs:Array Value},
  parts.length=vals.length->(∀ (k:Nat) (p:Nat×AV) (q:Nat×Value),parts[k]? = U p->vals[k]? = U q->p.1=q.1/\Rel ρ w Im p.2 q.2)->RelL ρ w Im l cs->Zh2 place l parts=U l' ->
  ∃ cs',Lx place cs vals=U cs'/\RelL ρ w Im l' cs'
 | [],vals,l,l',cs,hn,_,hr,h=>by
  cases vals with
  | nil=>simp[Zh2]at h;subst h;exact⟨cs,rfl,hr⟩
  | cons _ _=>simp at hn
 | (i,x)::parts,vals,l,l',cs,hn,hp,hr,h=>by
  cases vals with
  | nil=>simp at hn
  | cons q vals =>
   obtain⟨i',v⟩:=q;obtain⟨h1,h2⟩:=hp 0 _ _ rfl rfl;simp only at h1 h2;subst h1;simp only[Zh2]at h;split at h;rotate_left
   .cases h
   rename_i off size xs hpl hxs;split at h;rotate_left
   .cases h
   rename_i hc;obtain⟨c1,c2,c3⟩:=h2.cells hxs;obtain⟨r1,r2,r3⟩:=hr;have hfit:off+v.cells.size<=cs.size:=by omega
   have hfl:off+xs.length<=l.length:=by omega
   have key:=Zal v off cs hfit;have hrel:RelL ρ w Im (splice l off xs) (v.cells.zipIdx.foldl (λcs (p:Value×Nat)=>cs.setIfInBounds (off+p.2) p.1) cs):=by
    refine⟨?_, ?_, ?_⟩
    .rw[key.1,r1];simp only[splice];rw[Z1b hfl]
    .intro j u hu;rw[key.2 j]at hu;split at hu
     .exact r2 j u hu
     .split at hu
      .exact c3 _ u hu
      .exact r2 j u hu
    .intro j a u ha hu;rw[key.2 j]at hu;simp only[splice]at ha;rw[Z2g hfl,<- c1]at ha;by_cases k1:j<off
     .simp only[k1,if_true]at ha hu;exact r3 j a u ha hu
     .simp only[k1,if_false]at ha hu;by_cases k2:j<off+v.cells.size
      .simp only[k2,if_true]at ha hu;exact c2 _ a u ha hu
      .simp only[k2,if_false]at ha hu;exact r3 j a u ha hu
   obtain⟨cs',h3,h4⟩:=ZaZ (place:=place) (by simpa using hn) (λk p q hk hq=>hp (k+1) p q (by simpa using hk) (by simpa using hq)) hrel h;refine⟨cs', ?_,h4⟩;simp only[Lx,hpl];rw[if_neg qo];exact h3
def Z6H{P:Program}{w:World}{α β:Type}(f:α->Sem β)(g:α->β):∀ (l:List α),(∀ x∈l,(f x).run P w = .ok (g x) w)->(l.mapM f).run P w = .ok (l.map g) w
 | [],_=>rfl
 | x::l,h=>by
  rw[List.mapM_cons];simp[h x pq,Z6H f g l (λy hy=>h y (by simp[hy]))]
def run_places{P:Program}{w:World}(fs:Array Field)(h:∀ f∈fs.toList,(P.info? f.type).isSome=X) :
  (fs.mapM λf=>do pure (f.offset,<- sizeOf f.type):Sem (Array (Nat×Nat))).run P w = .ok (fs.map λf=>(f.offset,szOf P f.type)) w:=by
 obtain⟨l⟩:=fs;rw[List.mapM_toArray];have:=Z6H (P:=P) (w:=w) (λf:Field=>(do pure (f.offset,<- sizeOf f.type):Sem (Nat×Nat))) (λf=>(f.offset,szOf P f.type)) l (λf hf=>by
  simp[Zbl (h f hf) w])
 simp only[Sem.run_map,this,Z];simp
def ZiH(P:Program)(fs:List Field)(i:Nat):Option (Nat×Nat):=match fs[i]? with | U f=>U (f.offset,szOf P f.type) | V=>V
def ghC(f:Nat->Option Nat):Nat->List Value->List AV
 | _,[]=>[]
 | i,v::l=>(match v,f i with | .slice V 0 0,U g=>.ow g | v,_=>cv1 v)::ghC f (i+1) l
def ghF(id k i:Nat):Option Nat:=match Xk i k with | X=>U id | L=>V
def ghA(id:Nat)(z:Value):List Hint->Option (List AV×Option (Nat×Blk))
 | .gh ty s::.int (.ofNat k)::_=>match z with
  | .agg cs=>match Zac cs.toList with
   | true=>U (ghC (ghF id k) 0 cs.toList,U (id,.arr ty s []))
   | false=>V
  | _=>V
 | _=>(cv z).cells.map λl=>(l,V)
def ZdO{f:Nat->Option Nat}:∀ {l:List Value} {i:Nat},(ghC f i l).length=l.length/\∀ (j:Nat) (a:AV) (v:Value),(ghC f i l)[j]? = U a->l[j]? = U v->a=cv1 v\/∃ g,f (i+j)=U g/\a = .ow g/\v = .slice V 0 0
 | [],_=>by simp[ghC]
 | v::l,i=>by
  obtain⟨h1,h2⟩:=ZdO (f:=f) (l:=l) (i:=i+1);refine⟨by simp[ghC,h1],λj a u ha hu=>?_⟩;cases j with
  | zero =>
   simp only[ghC,O,Lm]at ha hu;subst hu;split at ha
   .rename_i g hg;exact .inr ⟨g,hg,ha.symm,rfl⟩
   .exact .inl ha.symm
  | succ j=>rw[show i+(j+1)=i+1+j from by omega];exact h2 j a u (by simpa[ghC]using ha) (by simpa using hu)
def Zpb{Ow:Own}{Im0:Nat->Prop}{w0 w:World}{ρ:Rho}{Im:Nat->Prop}{H:Heap}{clk id:Nat}{z:Value}{hs:List Hint}{l0:List AV}{up:Option (Nat×Blk)}(I:Inv Ow Im0 w0 ρ w Im H clk)(hid:clk*8000<=id)(hH:H id=V)(h:ghA id z hs=U (l0,up)) :
  ∃ ρ',Inv Ow Im0 w0 ρ' w Im (Res.heap ⟨.any,up,[]⟩ H) clk/\(∀ b β,ρ b=U β->ρ' b=U β)/\RelL ρ' w Im l0 z.cells:=by
 unfold ghA at h;split at h
 .rename_i ty s k _;split at h;rotate_left
  .cases h
  rename_i cs;split at h;rotate_left
  .cases h
  rename_i hone;cases h;simp only[Zac,Xg]at hone;have h1:∀ (i:Nat) (u:Value),cs[i]? = U u->u.oneCell'=X:=λi u hu=>hone u (by have:=Array.mem_of_getElem? hu;simpa using this);obtain⟨c1,c2⟩:=ZdO (f:=ghF id k) (l:=cs.toList) (i:=0);have ce:(Value.agg cs).cells=cs:=rfl;rw[ce];refine⟨updR ρ id ⟨V,s,0⟩,Z6o I hid hH,Z1q (I.fresh id hid hH),by simp[c1],h1,λi a u ha hu=>?_⟩;rcases c2 i a u ha (by simpa using hu)with rfl | ⟨g,hg,rfl,rfl⟩
  .exact Zbt _ _ _ _ (h1 i u hu)
  .unfold ghF at hg;split at hg
   .cases hg;exact Rel.ow (c:=0) (a:=V) (Z1w ρ id ⟨V,s,0⟩) (Lt _) (by simp[big]) (.inl rfl)
   .cases hg
 .simp only[La]at h;obtain⟨l,hl,e⟩:=h;cases e;have hz0:=(Z6n ρ w Im z).cells hl;exact⟨ρ,I,λ_ _ h=>h,hz0.1,hz0.2.2,hz0.2.1⟩
def Zbh(P:Program)(t id:Nat)(hs:List Hint)(parts:List (Nat×AV)):Option Res :=
 match zeroOf P t with
 | none=>V
 | some z=>match ghA id z hs with
  | none=>V
  | some (l0,up)=>match P.underlying t with
   | some (.struct fs)=>if fs.toList.all (λf=>(P.info? f.type).isSome)then(Zh2 (ZiH P fs.toList) l0 parts).map λl=>⟨.ag l,up,[]⟩else V
   | some (.array _ e)=>if(P.info? e).isSome then(Zh2 (λi=>U (i*szOf P e,szOf P e)) l0 parts).map λl=>⟨.ag l,up,[]⟩else V
   | _=>V
def Z5j{P:Program}{t:Nat}{z:Value}(h:zeroOf P t=U z)(w:World):(zeroValue t).run P w = .ok z w:=by
 unfold zeroOf at h;split at h
 .rename_i i hi;simp[zeroValue,typeInfo,hi,h]
 .cases h
def ZdU{P:Program}{o:Oper}{id:Nat}{E:Operand->AV}{H:Heap}{r:Res}{t:Nat}{parts:Array (Nat×Operand)}{hs:List Hint}
  (ho:o.op = .build t parts) (h:Zbh P t id hs (parts.toList.map λp=>(p.1,E p.2))=U r):Z1X P o id E H r:=by
 intro Ow Im0 w0 ρ0 w Im clk a I0 hid hH hE0 _;unfold Zbh at h;split at h
 .cases h
 rename_i z hz;split at h
 .cases h
 rename_i l0 up hl0;obtain⟨ρ,I,hsub,hrel0⟩:=Zpb I0 hid hH hl0;have hzr:=Z5j (P:=P) hz w;have hE:∀ x,Rel ρ w Im (E x) (a.eval x):=λx=>(hE0 x).mono (Ext.refl _ _) (λ_ h=>h) hsub I0.bnd;have hparts:∀ (k:Nat) (p:Nat×AV) (q:Nat×Value),(parts.toList.map λp=>(p.1,E p.2))[k]? = U p->(parts.toList.map λp=>(p.1,a.eval p.2))[k]? = U q->p.1=q.1/\Rel ρ w Im p.2 q.2:=by
  intro k p q hp hq;simp only[Ls,La]at hp hq;obtain⟨x,hx,rfl⟩:=hp;obtain⟨y,hy,rfl⟩:=hq;rw[hx]at hy;cases hy;exact⟨rfl,hE _⟩
 split at h
 .rename_i fs hu;split at h;rotate_left
  .cases h
  rename_i hall;simp only[La]at h;obtain⟨l,hl,rfl⟩:=h;obtain⟨cs,h1,h2⟩:=ZaZ (vals:=parts.toList.map λp=>(p.1,a.eval p.2)) pq hparts hrel0 hl;have hpl:=run_places (P:=P) (w:=w) fs (λf hf=>by simp only[Xg]at hall;exact hall f hf);have hpeq:(λi=>(fs.map λf=>(f.offset,szOf P f.type))[i]?)=ZiH P fs.toList:=by
   funext i
   simp only[ZiH,LD,Array.getElem?_toList];cases fs[i]? <;> rfl
  refine .inl ⟨.agg cs,w, ?_,ρ,I,Ext.refl _ _,hsub,.ag l cs h2.1 h2.2.1 h2.2.2⟩;simp only[execOp,ho,L9,N,hzr,Z,run_underlying hu,hpl,hpeq];simp[h1]
 .rename_i n e hu;split at h;rotate_left
  .cases h
  rename_i hall;simp only[La]at h;obtain⟨l,hl,rfl⟩:=h;obtain⟨cs,h1,h2⟩:=ZaZ (vals:=parts.toList.map λp=>(p.1,a.eval p.2)) pq hparts hrel0 hl;refine .inl ⟨.agg cs,w, ?_,ρ,I,Ext.refl _ _,hsub,.ag l cs h2.1 h2.2.1 h2.2.2⟩;simp only[execOp,ho,L9,N,hzr,Z,run_underlying hu,Zbl hall w];simp[h1]
 .cases h
def RelE(w:World)(Im:Nat->Prop)(s:Nat)(els:List (List DV))(cs:Array Value):Prop :=
 (∀ e∈els,e.length=s)/\els.length*s<=cs.size/\(∀ (i:Nat) (v:Value),cs[i]? = U v->i<els.length*s->v.oneCell'=X) /\
  ∀ (i:Nat) (e:List DV) (o:Nat) (x:DV),els[i]? = U e->e[o]? = U x->∃ v,cs[i*s+o]? = U v/\RelD w Im x v
def Then.arr{Ow:Own}{Im0:Nat->Prop}{w0:World}{ρ:Rho}{w:World}{Im:Nat->Prop}{clk:Nat}{H:Heap}{id ty s:Nat}{els:List (List DV)}{cs:Array Value}{c:Nat}
  (I:Inv Ow Im0 w0 ρ w Im H clk) (hid:clk*8000<=id) (hH:H id=V) (h:RelE w Im s els cs) (hb:els.length<=big) (hc:els.length<=c) (hcs:c*s<=cs.size) :
  Then Ow Im0 w0 ρ w Im clk (updH H id (.arr ty s els)) (.ow id) (.slice (U ⟨w.heap.size,0,V⟩) els.length c) (w.alloc (.cells cs ty)):=by
 have hsub:=Z1q (β:=⟨U w.heap.size,s,els.length⟩) (I.fresh id hid hH);have he:=Ext.alloc Im w (.cells cs ty) I.imb;obtain⟨h1,h2,_,h4⟩:=h;refine⟨updR ρ id ⟨U w.heap.size,s,els.length⟩,I.add id hid hH cs ty s els.length _ ?_,he,hsub, ?_⟩
 .exact⟨rfl,rfl,hb,h1,.inr ⟨w.heap.size,cs,rfl,heap_alloc_new _ _,h2,λi e o x hi ho=>let ⟨v,k1,k2⟩:=h4 i e o x hi ho;⟨v,k1,k2.mono he (λ_ h=>h)⟩⟩⟩
 .have:=Rel.ow (ρ:=updR ρ id ⟨U w.heap.size,s,els.length⟩) (w:=w.alloc (.cells cs ty)) (Im:=Im) (c:=c) (a:=U ⟨w.heap.size,0,V⟩) (Z1w ρ id ⟨U w.heap.size,s,els.length⟩) hc hb
   (.inr ⟨w.heap.size,rfl,rfl,by unfold Sx.rows;rw[heap_alloc_new];exact hcs⟩)
  exact this
def Z8d(z:Array Value)(n s:Nat)(hz:z.size=s)(i o:Nat)(ho:o<s)(hi:i<n) :
  ((Lo (n*s)).map (z[· % z.size]!))[i*s+o]? = z[o]? := by
 have h1:i*s+o<n*s:=by
  have:(i+1)*s<=n*s:=G s hi;rw[W]at this;omega
 have h2:(i*s+o)%z.size=o:=by
  rw[hz,Nat.add_comm,Nat.add_mul_mod_self_right,Nat.mod_eq_of_lt ho]
 simp only[LD,Array.getElem?_range,h1,if_true,Lu,h2];rw[Array.getElem!_eq_getD,Lf oq];simp[Array.getD,hz,ho]
def Z66{w:World}{Im:Nat->Prop}{z:Value}{zs:List DV}{l:List AV}{s:Nat}(n:Nat)(hl:(cv z).cells=U l)(hz:Zdg l=U zs)(hs:zs.length=s) :
  RelE w Im s (Y n zs) ((Lo (n*s)).map (z.cells[· % z.cells.size]!)):=by
 have hc:=(Z6n (λ_=>V) w Im z).cells hl;have e:=Z2U hz;have hsz:z.cells.size=s:=by rw[hc.1,e];simp[dvs,hs]
 refine⟨λe he=>by rw[(LQ.1 he).2];exact hs,by simp, ?_, ?_⟩
 .intro i v hv hi;simp only[LM]at hi;have hs0:0<s:=by
   rcases LA s with h | h
   .subst h;simp at hi
   .exact h
  have hdm:i=i/s*s+i%s:=by rw[LX];exact(LS i s).symm
  have hq:i/s<n:=by rw[LU hs0];exact hi
  rw[hdm,Z8d z.cells n s hsz (i/s) (i%s) (LW _ hs0) hq]at hv;exact hc.2.2 _ v hv
 .intro i e' o x hi ho;have hi':i<n:=by have:=(R.1 hi).1;simpa using this
  have he':e'=zs:=by
   have:=Le hi;exact(LQ.1 this).2
  subst he';have hos:o<s:=by rw[<- hs];exact(R.1 ho).1
  have ho2:o<z.cells.size:=by omega
  refine⟨z.cells[o],by rw[Z8d z.cells n s hsz i o hos hi'];exact Lf ho2, ?_⟩;have hlo:l[o]? = U (.d x):=by rw[e];simp[dvs,ho]
  have:=hc.2.1 o _ _ hlo (Lf ho2);cases this with
  | d h=>exact h
def Z5G(P:Program)(e:Nat):Option (List DV):=match zeroOf P e with | U z=>(match (cv z).cells with | U l=>Zdg l | V=>V) | V=>V
def Z4R(P:Program)(t id:Nat)(hs:List Hint)(x y:AV):Option Res :=
 match Z16 P t with
 | none=>V
 | some e=>match Z5G P e with
  | none=>V
  | some zs=>match bytesOf P e,szOf P e with
   | b+1,s+1=>if zs.length=s+1 then
    match x,y with
    | .d (.sc (.int _ n)),.d (.sc (.int _ c))=>match hs with
     | .els l'::_=>U ⟨.ow id,U (id,.arr e (s+1) l'),[0<=n/\n<=c/\c*(b+1)<=2^48,Y n.toNat zs=l']⟩
     | _=>U ⟨.ow id,U (id,.arr e (s+1) (Y n.toNat zs)),[0<=n/\n<=c/\c*(b+1)<=2^48]⟩
    | _,_=>V
    else V
   | _,_=>V
def Z8l{P:Program}{o:Oper}{id:Nat}{E:Operand->AV}{H:Heap}{r:Res}{x y:Operand}{t:Nat}{hs:List Hint}
  (ho:o.op = .makeSlice t x y) (h:Z4R P t id hs (E x) (E y)=U r):Z1X P o id E H r:=by
 intro Ow Im0 w0 ρ w Im clk a I hid hH hE hph;unfold Z4R at h;split at h
 .cases h
 rename_i e he;split at h
 .cases h
 rename_i zs hzs;split at h;rotate_left
 .cases h
 rename_i b s hb hsz;split at h;rotate_left
 .cases h
 rename_i hlen;split at h;rotate_left
 .cases h
 rename_i k n k' c hx hy;have v1:=Z0G (hx▸hE x);have v2:=Z0G (hy▸hE y);have fin:0<=n/\n<=c/\c*(b+1)<=2^48->Goes P o a w λv w'=>Then Ow Im0 w0 ρ w Im clk (updH H id (.arr e (s+1) (Y n.toNat zs))) (.ow id) v w':=by
  rintro⟨p1,p2,p3⟩;have pc:c<=c*(b+1):=by
   rw[Int.mul_add,Int.mul_one];have:0<=c*(b:Int):=Int.mul_nonneg oq oq;omega
  unfold Z5G at hzs;split at hzs;rotate_left
  .cases hzs
  rename_i z hz;split at hzs;rotate_left
  .cases hzs
  rename_i l hl;have hzr:=Z5j (P:=P) hz w;unfold Z16 at he;split at he;rotate_left
  .cases he
  rename_i e' hu;cases he;have hw1:Lj.wrap n=n:=IntWalk.i64_in _ oq;have hw2:Lj.wrap c=c:=IntWalk.i64_in _ oq;have hcell:=Z66 (w:=w) (Im:=Im) c.toNat hl hzs hlen;have hrel:RelE w Im (s+1) (Y n.toNat zs) ((Lo (c.toNat*(s+1))).map (z.cells[· % z.cells.size]!)):=by
   obtain⟨h1,h2,h3,h4⟩:=hcell;have hnc:n.toNat<=c.toNat:=by omega
   have hmul:n.toNat*(s+1)<=c.toNat*(s+1):=G _ hnc;refine⟨λe he=>by rw[(LQ.1 he).2];exact hlen,by simpa using hmul,λi v hv hi=>h3 i v hv (by simp at hi ⊢;omega),λi e o x hi ho=>h4 i e o x ?_ ho⟩;have hi1:=(R.1 hi).1;simp only[LM]at hi1;rw[Xh,if_pos oq];rw[Xh,if_pos hi1]at hi;exact hi
  have hinfo:∃ i,P.info? e=U i/\i.bytes=b+1/\i.size=s+1:=by
   unfold bytesOf at hb;unfold szOf at hsz;cases hi:P.info? e with
   | none=>simp[hi]at hb
   | some i=>simp only[hi]at hb hsz;exact⟨i,rfl,hb,hsz⟩
  obtain⟨i,hi,hib,his⟩:=hinfo;have hsr:(sizeOf e).run P w = .ok (s+1) w:=by simp[sizeOf,typeInfo,hi,his]
  have hne:¬ c.toNat=0\/c.toNat=0:=by omega
  have t1:¬ (c<0):=by omega
  have t2:¬ ((b+1:Int)*c > 2^48):=by rw[Int.mul_comm];omega
  have t3:¬ (n<0):=by omega
  have t4:¬ (n > c):=by omega
  have:=Then.arr (ty:=e) (c:=c.toNat) I hid hH hrel (by simp[big];omega) qo pq;refine .inl ⟨.slice (U ⟨w.heap.size,0,V⟩) n.toNat c.toNat,w.alloc (.cells ((Lo (c.toNat*(s+1))).map (z.cells[· % z.cells.size]!)) e), ?_,by simpa using this⟩;have hib':(i.bytes:Int)=b+1:=by rw[hib];rfl
  have tl:(decide (c<0)||decide ((i.bytes:Int)*c > 2^48))=L:=by
   rw[L8];exact⟨decide_eq_false t1,decide_eq_false (by rw[hib'];exact t2)⟩
  have tm:(decide (c<0)||decide ((i.bytes:Int)*c > 2^48)||decide (n<0)||decide (n > c))=L:=by
   rw[tl,Bool.false_or,L8];exact⟨decide_eq_false t3,decide_eq_false t4⟩
  have mk:(Xd t (.int k n) (.int k' c)).run P w = .ok (.slice (U ⟨w.heap.size,0,V⟩) n.toNat c.toNat) (w.alloc (.cells ((Lo (c.toNat*(s+1))).map (z.cells[· % z.cells.size]!)) e)):=by
   unfold Xd;simp only[N,run_underlying hu,Z,asInt,asIntOf,M,typeInfo,run_program,hi,hw1,hw2,tm,F,if_false,run_askRoom,hsr];by_cases hc0:c.toNat*(s+1)=0
   .simp[hc0,newRow,LF]
   .simp[newRow,hzr];intro h;exact absurd h hc0
  simp[execOp,ho,v1,v2,mk]
 split at h
 .rename_i l' _;cases h;obtain⟨p1,p2⟩:=allP_cons.1 hph;have p2':Y n.toNat zs=l':=by simpa[allP]using p2
  rw[<- p2'];exact fin p1
 .cases h;exact fin (by simpa[allP]using hph)
def Zlh{w:World}{Im:Nat->Prop}{s:Nat}{els:List (List DV)}{cs cs':Array Value}{i:Nat}{ds:List DV}{u:Array Value}(h:RelE w Im s els cs)(hi:i<els.length)(hd:ds.length=s)(hu:u.size=s)
  (hr:∀ (j:Nat) (x:DV) (v:Value),ds[j]? = U x->u[j]? = U v->RelD w Im x v) (hone:∀ (j:Nat) (v:Value),u[j]? = U v->v.oneCell'=X) (hsz:cs'.size=cs.size)
  (hget:∀ j,cs'[j]? = if j<i*s then cs[j]? else if j<i*s+u.size then u[j-i*s]? else cs[j]?):RelE w Im s (els.set i ds) cs':=by
 obtain⟨h1,h2,h3,h4⟩:=h;refine⟨λe he=>?_,by simpa[hsz]using h2,λj v hv hj=>?_,λk e o x hk ho=>?_⟩
 .rcases List.mem_or_eq_of_mem_set he with h | h
  .exact h1 e h
  .rw[h];exact hd
 .simp only[List.length_set]at hj;rw[hget]at hv;split at hv
  .exact h3 j v hv hj
  .split at hv
   .exact hone _ v hv
   .exact h3 j v hv hj
 .rw[List.getElem?_set]at hk;by_cases hki:i=k
  .subst hki;simp only[if_true,hi]at hk;cases hk;have hos:o<s:=by rw[<- hd];exact(R.1 ho).1
   have hou:o<u.size:=by omega
   refine⟨u[o], ?_,hr o x _ ho (Lf hou)⟩;rw[hget,if_neg oq,if_pos oq,show i*s+o-i*s=o from by omega];exact Lf hou
  .simp only[hki,if_false]at hk;obtain⟨v,k1,k2⟩:=h4 k e o x hk ho;have hes:e.length=s:=h1 e (Le hk);have hos:o<s:=by rw[<- hes];exact(R.1 ho).1
   refine⟨v, ?_,k2⟩;rw[hget];rcases Xn k i with hlt | hge
   .have:(k+1)*s<=i*s:=G s hlt;rw[W]at this;rw[if_pos oq];exact k1
   .have:(i+1)*s<=k*s:=G s oq;rw[W]at this;rw[if_neg oq,if_neg oq];exact k1
def Zii(s:Nat)(els:List (List DV)):List (Nat×AV)->Option (List (List DV))
 | []=>U els
 | (i,x)::r=>match x.cells with
  | some xs=>match Zdg xs with
   | some ds=>if ds.length=s/\i<els.length then Zii s (els.set i ds) r else V
   | none=>V
  | none=>V
def Zc5{ρ:Rho}{w:World}{Im:Nat->Prop}{s:Nat}:∀ {parts:List (Nat×AV)} {vals:List (Nat×Value)} {els els':List (List DV)} {cs:Array Value},
  parts.length=vals.length->(∀ (k:Nat) (p:Nat×AV) (q:Nat×Value),parts[k]? = U p->vals[k]? = U q->p.1=q.1/\Rel ρ w Im p.2 q.2)->RelE w Im s els cs->cs.size=els.length*s->Zii s els parts=U els' ->
  ∃ cs',Lx (λi=>U (i*s,s)) cs vals=U cs'/\RelE w Im s els' cs'/\cs'.size=els'.length*s/\els'.length=els.length
 | [],vals,els,els',cs,hn,_,hr,hz,h=>by
  cases vals with
  | nil=>simp[Zii]at h;subst h;exact⟨cs,rfl,hr,hz,rfl⟩
  | cons _ _=>simp at hn
 | (i,x)::parts,vals,els,els',cs,hn,hp,hr,hz,h=>by
  cases vals with
  | nil=>simp at hn
  | cons q vals =>
   obtain⟨i',v⟩:=q;obtain⟨h1,h2⟩:=hp 0 _ _ rfl rfl;simp only at h1 h2;subst h1;simp only[Zii]at h;split at h;rotate_left
   .cases h
   rename_i xs hxs;split at h;rotate_left
   .cases h
   rename_i ds hds;split at h;rotate_left
   .cases h
   rename_i hc;obtain⟨c1,c2,c3⟩:=h2.cells hxs;have hxd:=Z2U hds;have hvs:v.cells.size=s:=by rw[c1,hxd];simp[dvs,hc.1]
   have hfit:i*s+v.cells.size<=cs.size:=by
    have:(i+1)*s<=els.length*s:=G s hc.2;rw[W]at this;omega
   have key:=Zal v (i*s) cs hfit;have hrel:=Zlh hr hc.2 hc.1 hvs (λj y u hy hu=>by
    have:xs[j]? = U (.d y):=by rw[hxd];simp[dvs,hy]
    cases c2 j _ u this hu with
    | d h=>exact h) c3 key.1 key.2
   obtain⟨cs',h3,h4,h5,h6⟩:=Zc5 (ρ:=ρ) (by simpa using hn) (λk p q hk hq=>hp (k+1) p q (by simpa using hk) (by simpa using hq)) hrel (by rw[key.1,hz];simp) h;refine⟨cs', ?_,h4,h5,by rw[h6];simp⟩;simp only[Lx];rw[if_neg qo];exact h3
def Z4r(P:Program)(t len id:Nat)(hs:List Hint)(parts:List (Nat×AV)):Option Res :=
 match Z16 P t with
 | none=>V
 | some e=>match Z5G P e with
  | none=>V
  | some zs=>match szOf P e with
   | 0=>V
   | s+1=>if zs.length=s+1/\len*(s+1)<=16777216 then
    match Zii (s+1) (Y len zs) parts with
    | some els=>match hs with
     | .els l'::_=>U ⟨.ow id,U (id,.arr e (s+1) l'),[els=l']⟩
     | _=>U ⟨.ow id,U (id,.arr e (s+1) els),[]⟩
    | none=>V
    else V
def Z7t{P:Program}{o:Oper}{id:Nat}{E:Operand->AV}{H:Heap}{r:Res}{t len:Nat}{parts:Array (Nat×Operand)}{hs:List Hint}
  (ho:o.op = .buildSlice t len parts) (h:Z4r P t len id hs (parts.toList.map λp=>(p.1,E p.2))=U r):Z1X P o id E H r:=by
 intro Ow Im0 w0 ρ w Im clk a I hid hH hE hph;unfold Z4r at h;split at h
 .cases h
 rename_i e he;split at h
 .cases h
 rename_i zs hzs;split at h
 .cases h
 rename_i s hsz;split at h;rotate_left
 .cases h
 rename_i hlen;split at h;rotate_left
 .cases h
 rename_i els hels;have fin:Goes P o a w λv w'=>Then Ow Im0 w0 ρ w Im clk (updH H id (.arr e (s+1) els)) (.ow id) v w':=by
  unfold Z5G at hzs;split at hzs;rotate_left
  .cases hzs
  rename_i z hz;split at hzs;rotate_left
  .cases hzs
  rename_i l hl;have hzr:=Z5j (P:=P) hz w;unfold Z16 at he;split at he;rotate_left
  .cases he
  rename_i e' hu;cases he;have hsr:(sizeOf e).run P w = .ok (s+1) w:=Z3N hsz pq w;have hcell:=Z66 (w:=w) (Im:=Im) len hl hzs hlen.1;have hparts:∀ (k:Nat) (p:Nat×AV) (q:Nat×Value),(parts.toList.map λp=>(p.1,E p.2))[k]? = U p->(parts.toList.map λp=>(p.1,a.eval p.2))[k]? = U q->p.1=q.1/\Rel ρ w Im p.2 q.2:=by
   intro k p q hp hq;simp only[Ls,La]at hp hq;obtain⟨x,hx,rfl⟩:=hp;obtain⟨y,hy,rfl⟩:=hq;rw[hx]at hy;cases hy;exact⟨rfl,hE _⟩
  obtain⟨cs,h1,h2,h3,h4⟩:=Zc5 (ρ:=ρ) (vals:=parts.toList.map λp=>(p.1,a.eval p.2)) pq hparts hcell pq hels;have hl':els.length=len:=by rw[h4];simp
  have hle:len<=len*(s+1):=Nat.le_mul_of_pos_right _ oq;have:=Then.arr (ty:=e) (c:=els.length) I hid hH h2 (by simp[big];omega) (Lt _) oq;refine .inl ⟨.slice (U ⟨w.heap.size,0,V⟩) els.length els.length,w.alloc (.cells cs e), ?_,this⟩;have tl:¬ (len*(s+1) > 2^24):=by omega
  have hpl:(parts.map λx=>(x.1,a.eval x.2)).toList=parts.toList.map λp=>(p.1,a.eval p.2):=by simp
  have mk:(Xa t len (parts.map λx=>(x.1,a.eval x.2))).run P w = .ok (.slice (U ⟨w.heap.size,0,V⟩) els.length els.length) (w.alloc (.cells cs e)):=by
   unfold Xa;rw[hpl];simp only[N,run_underlying hu,Z,hsr,tl,if_false];by_cases hc0:len*(s+1)=0
   .rw[hc0]at h1;simp only[LF,L5]at h1;simp only[hc0,if_true,N,M,Z,LF,L5];rw[h1];simp[newRow,hl']
   .simp only[hc0,if_false,N,hzr,Z,M];rw[h1];simp[newRow,hl']
  simp only[execOp,ho];simp only[N,mk,Z,M]
 split at h
 .rename_i l' _;cases h;have p2:els=l':=by simpa[allP]using hph
  rw[<- p2];exact fin
 .cases h;exact fin
def Z1f(H:Heap):AV->Option (Nat×List (List DV))
 | .d (.sl s els)=>U (s,els)
 | .d (.sc (.slice _ 0 _))=>U (1,[])
 | .ow b=>match H b with | U (.arr _ s els)=>U (s,els) | _=>V
 | .os b o n=>match H b with | U (.arr _ s els)=>U (s,(els.drop o).take n) | _=>V
 | _=>V
def Z1Q{Ow:Own}{Im0:Nat->Prop}{w0:World}{ρ:Rho}{w:World}{Im:Nat->Prop}{H:Heap}{clk:Nat}{x:AV}{v:Value}{s:Nat}{els:List (List DV)}
  (I:Inv Ow Im0 w0 ρ w Im H clk) (hx:Rel ρ w Im x v) (h:Z1f H x=U (s,els)):∃ p c,v = .slice p els.length c/\els.length<=big/\els.length<=c/\(els≠[]->∀ e∈els,e.length=s)/\(els=[]\/∃ q,p=U q/\q.spot=V /\
   ∀ (i:Nat) (e:List DV) (o:Nat) (y:DV),els[i]? = U e->e[o]? = U y->∃ u,w.cell? ⟨q.block,q.off+(i*s+o),V⟩=U u/\RelD w Im y u):=by
 unfold Z1f at h;split at h
 .cases h;cases hx with
  | d hx =>
   cases hx with
   | slNil s p c=>exact⟨p,c,rfl,by simp,by simp,by simp,.inl rfl⟩
   | sl s els p n c f hn hc hb hs hp him hcell hrel =>
    subst hn;exact⟨U p,c,rfl,hb,hc,λ_=>hs,.inr ⟨p,rfl,hp,λi e o y hi ho=>⟨f i o,hcell i e o y hi ho,hrel i e o y hi ho⟩⟩⟩
 .cases h;exact⟨_,_,Z0G hx,by simp,by simp,by simp,.inl rfl⟩
 .split at h;rotate_left
  .cases h
  rename_i b _ ty s' els' hb;cases h;cases hx with
  | ow hρ hc hbg ha =>
   rename_i c ad β;obtain⟨β',h1,h2⟩:=I.blk b _ hb;rw[hρ]at h1;cases h1;obtain⟨g1,g2,_,g3,g4⟩:=h2;refine⟨ad,c,by rw[g2],by omega,by omega,λ_=>g3, ?_⟩;by_cases he:els=[]
   .exact .inl he
   .right;have hpos:0<els.length:=Ly.2 he;rcases g4 with⟨_,g4⟩ | ⟨g,cs,hg,hw,hsz,hcell⟩
    .exact absurd g4 he
    rcases ha with ha | ⟨g',hg',rfl,_⟩
    .omega
    rw[hg]at hg';cases hg';refine⟨⟨g,0,V⟩,rfl,rfl,λi e o y hi ho=>?_⟩;obtain⟨u,k1,k2⟩:=hcell i e o y hi ho;exact⟨u,by simp[Xq,hw,k1],k2⟩
 .split at h;rotate_left
  .cases h
  rename_i b oo m _ ty s' els' hb;cases h;cases hx with
  | os hρ hn hc hbg ha =>
   rename_i c ad β;obtain⟨β',h1,h2⟩:=I.blk b _ hb;rw[hρ]at h1;cases h1;obtain⟨g1,g2,_,g3,g4⟩:=h2;have hl:((els'.drop oo).take m).length=m:=by simp;omega
   refine⟨ad,c,by rw[hl],by omega,by omega,λ_ e he=>g3 e (LO (LP he)), ?_⟩;by_cases he:(els'.drop oo).take m=[]
   .exact .inl he
   .right;have hpos:0<m:=by
     rw[<- hl];exact Ly.2 he
    rcases g4 with⟨_,g4⟩ | ⟨g,cs,hg,hw,hsz,hcell⟩
    .subst g4;simp at he
    rcases ha with ha | ⟨g',hg',rfl,_⟩
    .omega
    rw[hg]at hg';cases hg';refine⟨⟨g,oo*β.s,V⟩,rfl,rfl,λi e o y hi ho=>?_⟩;have hi':els'[oo+i]? = U e:=by
     rw[LK]at hi;split at hi
     .rwa [LI]at hi
     .cases hi
    obtain⟨u,k1,k2⟩:=hcell (oo+i) e o y hi' ho;refine⟨u, ?_,k2⟩;rw[W]at k1;simp only[Xq,hw,g1];simpa[Ll]using k1
 .cases h
def Z2k{P:Program}{w:World}{Im:Nat->Prop}{s:Nat}{els:List (List DV)}{p:Option Addr}{n c:Nat}(hs0:0<s)(hlen:els≠[]->∀ e∈els,e.length=s)
  (h:els=[]\/∃ q,p=U q/\q.spot=V/\∀ (i:Nat) (e:List DV) (o:Nat) (y:DV),els[i]? = U e->e[o]? = U y->∃ u,w.cell? ⟨q.block,q.off+(i*s+o),V⟩=U u/\RelD w Im y u) :
  ∃ cs,(Lp s els.length (.slice p n c)).run P w = .ok cs w/\RelE w Im s els cs/\cs.size=els.length*s:=by
 rcases h with h | ⟨q,rfl,hq,h⟩
 .subst h;refine⟨#[], ?_,⟨by simp,by simp,by simp,by simp⟩,by simp⟩;cases p with
  | none=>simp[Lp]
  | some q=>simp[Lp,loadCells,loadCellsFrom]
 .have hex:∀ j,j<els.length*s->∃ e y u,els[j/s]? = U e/\e[j%s]? = U y/\w.cell? ⟨q.block,q.off+j,V⟩=U u/\RelD w Im y u:=by
   intro j hj;have h1:j/s<els.length:=by rw[LU hs0];exact hj
   have h2:els≠[]:=by intro h;subst h;simp at h1
   have h3:(els[j/s]).length=s:=hlen h2 _ (Xi h1);have h4:j%s<(els[j/s]).length:=by rw[h3];exact LW _ hs0
   obtain⟨u,k1,k2⟩:=h (j/s) _ (j%s) _ (Lk h1) (Lk h4);refine⟨_,_,u,Lk h1,Lk h4, ?_,k2⟩;rw[show j/s*s+j%s=j from by rw[LX];exact LS j s]at k1;exact k1
  have hrun:=run_loadCells (P:=P) w q (els.length*s) (λj=>(w.cell? ⟨q.block,q.off+j,V⟩).getD undef) (λj hj=>by
   obtain⟨e,y,u,_,_,k,_⟩:=hex j hj;rw[addr_add hq,k];rfl)
  refine⟨_,by simpa[Lp]using hrun,⟨λe he=>hlen (by intro h;subst h;simp at he) e he,by simp, ?_, ?_⟩,by simp⟩
  .intro j v hv hj;obtain⟨e,y,u,_,_,k,k2⟩:=hex j hj;simp[hj,k]at hv;subst hv;exact k2.one
  .intro i e o y hi ho;have hes:e.length=s:=hlen (by intro h;subst h;simp at hi) e (Le hi);have hos:o<s:=by rw[<- hes];exact(R.1 ho).1
   have hj:i*s+o<els.length*s:=by
    have:(i+1)*s<=els.length*s:=G s (R.1 hi).1;rw[W]at this;omega
   obtain⟨u,k1,k2⟩:=h i e o y hi ho;exact⟨u,by simp[hj,k1],k2⟩
def Z0M(els:List (List DV))(o:Nat)(xs:List (List DV)):List (List DV):=els.take o++xs++els.drop (o+xs.length)
def Z8w{w:World}{Im:Nat->Prop}{s o:Nat}{els xs:List (List DV)}{cs cs' u:Array Value}(h:RelE w Im s els cs)(hx:RelE w Im s xs u)(hu:u.size=xs.length*s)(ho:o+xs.length<=els.length)
  (hsz:cs'.size=cs.size) (hget:∀ j,cs'[j]? = if j<o*s then cs[j]? else if j<o*s+u.size then u[j-o*s]? else cs[j]?):RelE w Im s (Z0M els o xs) cs':=by
 obtain⟨h1,h2,h3,h4⟩:=h;obtain⟨k1,k2,k3,k4⟩:=hx;have hl:(Z0M els o xs).length=els.length:=Z1b ho;refine⟨λe he=>?_,by rw[hl,hsz];exact h2,λj v hv hj=>?_,λk e q x hk hq=>?_⟩
 .simp only[Z0M,LN]at he;rcases he with(he | he) | he
  .exact h1 e (LP he)
  .exact k1 e he
  .exact h1 e (LO he)
 .rw[hl]at hj;rw[hget]at hv;split at hv
  .exact h3 j v hv hj
  .split at hv
   .exact k3 _ v hv oq
   .exact h3 j v hv hj
 .simp only[Z0M]at hk;rw[Z2g ho]at hk;have hes:e.length=s:=by
   split at hk
   .exact h1 e (Le hk)
   .split at hk
    .exact k1 e (Le hk)
    .exact h1 e (Le hk)
  have hqs:q<s:=by rw[<- hes];exact(R.1 hq).1
  split at hk
  .rename_i hlt;obtain⟨v,a1,a2⟩:=h4 k e q x hk hq;have:(k+1)*s<=o*s:=G s hlt;rw[W]at this;exact⟨v,by rw[hget,if_pos oq];exact a1,a2⟩
  .rename_i hge;split at hk
   .rename_i hlt;obtain⟨v,a1,a2⟩:=k4 (k-o) e q x hk hq;have e1:k*s=o*s+(k-o)*s:=by rw[<- W];congr 1;omega
    have:(k-o+1)*s<=xs.length*s:=G s oq;rw[W]at this;exact⟨v,by rw[hget,if_neg oq,if_pos oq,show k*s+q-o*s=(k-o)*s+q from by omega];exact a1,a2⟩
   .rename_i hge2;obtain⟨v,a1,a2⟩:=h4 k e q x hk hq;have:(o+xs.length)*s<=k*s:=G s oq;rw[W]at this;exact⟨v,by rw[hget,if_neg oq,if_neg oq];exact a1,a2⟩
def Ze1{ρ:Rho}{w:World}{Im:Nat->Prop}{β:Bi}{ty s:Nat}{els:List (List DV)}{g:Nat}{cs:Array Value}(h:RelB ρ w Im β (.arr ty s els))(hg:β.g=U g)(hw:w.heap[g]? = U (.cells cs ty (0,0))):RelE w Im s els cs:=by
 obtain⟨g1,g2,_,g3,g4⟩:=h;rcases g4 with⟨g4,_⟩ | ⟨g',cs',hg',hw',hsz,hcell⟩
 .rw[hg]at g4;cases g4
 .rw[hg]at hg';cases hg';rw[hw]at hw';cases hw';refine⟨g3,hsz,λi v hv hi=>?_,hcell⟩;have hs0:0<s:=by
   rcases LA s with h | h
   .subst h;simp at hi
   .exact h
  have h1:i/s<els.length:=by rw[LU hs0];exact hi
  have h3:(els[i/s]).length=s:=g3 _ (Xi h1);have h4:i%s<(els[i/s]).length:=by rw[h3];exact LW _ hs0
  obtain⟨u,k1,k2⟩:=hcell (i/s) _ (i%s) _ (Lk h1) (Lk h4);rw[show i/s*s+i%s=i from by rw[LX];exact LS i s,hv]at k1;cases k1;exact k2.one
def ZaW(P:Program)(t:Nat)(hs:List Hint)(x y:AV)(H:Heap):Option Res :=
 match Z16 P t with
 | none=>V
 | some e=>match szOf P e with
  | 0=>V
  | s+1=>match Z1f H y with
   | some (s',xs)=>if s'=s+1 then
    match x with
    | .ow b=>match H b with
     | some (.arr ty s2 els)=>if s2=s+1 then
      match hs with
      | .els l'::_=>U ⟨.d (.sc (.int .i64 xs.length)),U (b,.arr ty s2 l'),[xs.length<=els.length,Z0M els 0 xs=l']⟩
      | _=>U ⟨.d (.sc (.int .i64 xs.length)),U (b,.arr ty s2 (Z0M els 0 xs)),[xs.length<=els.length]⟩
      else V
     | _=>V
    | .os b o n=>match H b with
     | some (.arr ty s2 els)=>if s2=s+1 then
      match hs with
      | .els l'::_=>U ⟨.d (.sc (.int .i64 xs.length)),U (b,.arr ty s2 l'),[xs.length<=n,Z0M els o xs=l']⟩
      | _=>U ⟨.d (.sc (.int .i64 xs.length)),U (b,.arr ty s2 (Z0M els o xs)),[xs.length<=n]⟩
      else V
     | _=>V
    | _=>V
    else V
   | none=>V
def Zhp{P:Program}{o:Oper}{id:Nat}{E:Operand->AV}{H:Heap}{r:Res}{x y:Operand}{t t':Nat}{hs:List Hint}
  (ho:o.op = .call ⟨.builtin .copy,#[x,y],#[t,t']⟩) (h:ZaW P t hs (E x) (E y) H=U r):Z1X P o id E H r:=by
 intro Ow Im0 w0 ρ w Im clk a I hid hH hE hph;have hx:=hE x;have hy:=hE y;unfold ZaW at h;split at h
 .cases h
 rename_i e he;split at h
 .cases h
 rename_i s hsz;split at h;rotate_left
 .cases h
 rename_i s' xs hcont;split at h;rotate_left
 .cases h
 rename_i hs';subst hs';obtain⟨p,c,hvy,hbx,hcx,hlx,hcellx⟩:=Z1Q I hy hcont;obtain⟨u,hu1,hu2,hu3⟩:=Z2k (P:=P) (p:=p) (n:=xs.length) (c:=c) oq hlx hcellx;unfold Z16 at he;split at he;rotate_left
 .cases he
 rename_i e' hut;cases he;have hsr:(sizeOf e).run P w = .ok (s+1) w:=Z3N hsz pq w;have fin:∀ (b oo n g c':Nat) (ty:Nat) (els:List (List DV)) (β:Bi),ρ b=U β->H b=U (.arr ty (s+1) els)->β.g=U g->a.eval x = .slice (U ⟨g,oo*(s+1),V⟩) n c'->xs.length<=n->oo+n<=els.length ->
   Goes P o a w λv w'=>Then Ow Im0 w0 ρ w Im clk (updH H b (.arr ty (s+1) (Z0M els oo xs))) (.d (.sc (.int .i64 xs.length))) v w':=by
  intro b oo n g c' ty els β hρ hb hg hvx hxn hon;obtain⟨β',h1,h2⟩:=I.blk b _ hb;rw[hρ]at h1;cases h1;have h2':=h2;obtain⟨g1,g2,g3,g4,g5⟩:=h2;rcases g5 with⟨g5,_⟩ | ⟨g',cs,hg',hw,hszc,hcell⟩
  .rw[hg]at g5;cases g5
  rw[hg]at hg';cases hg';have hE1:=Ze1 h2' hg hw;have hfit:oo*(s+1)+u.toList.length<=cs.toList.length:=by
   have:(oo+xs.length)*(s+1)<=els.length*(s+1):=G _ oq;rw[W]at this;simp[hu3];omega
  have hone:∀ v∈u.toList,v.oneCell'=X:=by
   intro v hv;obtain⟨k,hk⟩:=LJ hv;have hk':u[k]? = U v:=by simpa using hk
   exact hu2.2.2.1 k v hk' (by rw[<- hu3];exact(LC.1 hk').1)
  have hst:=run_storeCells_at P g (oo*(s+1)) ty u.toList 0 cs w hw (by simpa using hfit) hone;simp only[Lz]at hst;obtain⟨bg,bs,bn⟩:=β;simp only at hg g1 g2;subst hg;subst g1;subst g2;have hlen:((cs.toList.take (oo*(s+1))++u.toList++cs.toList.drop (oo*(s+1)+u.toList.length)).toArray).size=cs.size:=by
   rw[LR,Z1b hfit];simp
  have hget:∀ j,((cs.toList.take (oo*(s+1))++u.toList++cs.toList.drop (oo*(s+1)+u.toList.length)).toArray)[j]? = if j<oo*(s+1)then cs[j]? else if j<oo*(s+1)+u.size then u[j-oo*(s+1)]? else cs[j]? := by
   intro j;rw[C,Z2g hfit];simp
  have hsp:=Z8w hE1 hu2 hu3 (show oo+xs.length<=els.length by omega) hlen hget;have hput:=I.put b g (s+1) els.length cs _ ty (.arr ty (s+1) (Z0M els oo xs)) hρ hw hlen ⟨_,hb,by simp⟩ (λhe=>by
   have hl:(Z0M els oo xs).length=els.length:=Z1b oq;refine⟨rfl,hl.symm,by rw[hl];exact g3,hsp.1,.inr ⟨g,_,rfl,setRow_heap w g cs _ ty _ hw,by rw[hlen,hl];exact hszc,λi e o y hi ho=>?_⟩⟩;obtain⟨v,k1,k2⟩:=hsp.2.2.2 i e o y hi ho;exact⟨v,k1,k2.mono he (λ_ h=>h)⟩)
  refine .inl ⟨.int .i64 xs.length,_, ?_,ρ,hput.1,hput.2,λ_ _ h=>h,.d (.sc _ rfl)⟩;have hmin:LV xs.length n=xs.length:=Nat.min_eq_left hxn;have hcp:(Lh #[t,t'] o.type #[.slice (U ⟨g,oo*(s+1),V⟩) n c',.slice p xs.length c]).run P w = .ok (goInt xs.length) (w.setRow g (cs.toList.take (oo*(s+1))++u.toList++cs.toList.drop (oo*(s+1)+u.toList.length)).toArray):=by
   unfold Lh;simp only[C,O,Lb,N,run_underlying hut,Z,Lq,M,hsr,hmin,hu1,hst]
  simp[execOp,ho,resolve,hvx,hvy,invoke,builtin,hcp,goInt]
 split at h
 .rename_i b hE1;rw[hE1]at hx;split at h;rotate_left
  .cases h
  rename_i ty s2 els hb;split at h;rotate_left
  .cases h
  rename_i hs2;subst hs2;generalize hvx:a.eval x=v at hx;cases hx with
  | ow hρ hc hbg ha =>
   rename_i c' ad β;obtain⟨β',h1,h2⟩:=I.blk b _ hb;rw[hρ]at h1;cases h1;have h2':=h2;obtain⟨g1,g2,_,_,_⟩:=h2;have base:xs.length<=els.length->Goes P o a w λv w'=>Then Ow Im0 w0 ρ w Im clk (updH H b (.arr ty (s+1) (Z0M els 0 xs))) (.d (.sc (.int .i64 xs.length))) v w':=by
    intro hle;by_cases hx0:xs=[]
    .-- nothing is copied
     subst hx0;have hsame:Z0M els 0 []=els:=by simp[Z0M]
     have hupd:updH H b (.arr ty (s+1) els)=H:=by funext k;unfold updH;split<;>simp_all
     rw[hsame,hupd];have hu0:u = #[]:=by apply Ln;simpa using hu3
     refine .inl ⟨.int .i64 0,w, ?_,.same I (.d (.sc _ rfl))⟩;have hcp:(Lh #[t,t'] o.type #[.slice ad β.n c',.slice p 0 c]).run P w = .ok (goInt 0) w:=by
      unfold Lh;simp only[LL]at hu1;have hmin:LV 0 β.n=0:=Xp _;simp only[C,O,Lb,N,run_underlying hut,Z,Lq,M,hsr,hmin,hu1,hu0];cases ad<;>simp[storeCells]
     have hvy':a.eval y = .slice p 0 c:=by simpa using hvy
     simp[execOp,ho,resolve,hvx,hvy',invoke,builtin,hcp,goInt]
    .have hpos:0<xs.length:=Ly.2 hx0;rcases ha with ha | ⟨g,hg,rfl,hrow⟩
     .omega
     .exact fin b 0 β.n g c' ty els β hρ hb hg (by simpa using hvx) oq oq
   split at h
   .rename_i l' _;cases h;obtain⟨p1,p2⟩:xs.length<=els.length/\Z0M els 0 xs=l':=by simpa[allP]using hph
    rw[<- p2];exact base p1
   .cases h;exact base (by simpa[allP]using hph)
 .rename_i b oo n hE1;rw[hE1]at hx;split at h;rotate_left
  .cases h
  rename_i ty s2 els hb;split at h;rotate_left
  .cases h
  rename_i hs2;subst hs2;generalize hvx:a.eval x=v at hx;cases hx with
  | os hρ hn hc hbg ha =>
   rename_i c' ad β;obtain⟨β',h1,h2⟩:=I.blk b _ hb;rw[hρ]at h1;cases h1;have h2':=h2;obtain⟨g1,g2,_,_,_⟩:=h2;have base:xs.length<=n->Goes P o a w λv w'=>Then Ow Im0 w0 ρ w Im clk (updH H b (.arr ty (s+1) (Z0M els oo xs))) (.d (.sc (.int .i64 xs.length))) v w':=by
    intro hle;by_cases hx0:xs=[]
    .subst hx0;have hsame:Z0M els oo []=els:=by simp[Z0M]
     have hupd:updH H b (.arr ty (s+1) els)=H:=by funext k;unfold updH;split<;>simp_all
     rw[hsame,hupd];have hu0:u = #[]:=by apply Ln;simpa using hu3
     refine .inl ⟨.int .i64 0,w, ?_,.same I (.d (.sc _ rfl))⟩;have hcp:(Lh #[t,t'] o.type #[.slice ad n c',.slice p 0 c]).run P w = .ok (goInt 0) w:=by
      unfold Lh;simp only[LL]at hu1;have hmin:LV 0 n=0:=Xp _;simp only[C,O,Lb,N,run_underlying hut,Z,Lq,M,hsr,hmin,hu1,hu0];cases ad<;>simp[storeCells]
     have hvy':a.eval y = .slice p 0 c:=by simpa using hvy
     simp[execOp,ho,resolve,hvx,hvy',invoke,builtin,hcp,goInt]
    .have hpos:0<xs.length:=Ly.2 hx0;rcases ha with ha | ⟨g,hg,rfl,hrow⟩
     .omega
     .exact fin b oo n g c' ty els β hρ hb hg (by rw[<- g1];exact hvx) hle oq
   split at h
   .rename_i l' _;cases h;obtain⟨p1,p2⟩:xs.length<=n/\Z0M els oo xs=l':=by simpa[allP]using hph
    rw[<- p2];exact base p1
   .cases h;exact base (by simpa[allP]using hph)
 .cases h
def Sys(Ow:Own)(Im0:Nat->Prop)(w0:World)(tmps:List AV)(H:Heap)(clk:Nat)(a:Act)(w:World):Prop :=
 ∃ ρ Im,Inv Ow Im0 w0 ρ w Im H clk/\RelT Ow.ds ρ w Im tmps a
def Z6b(f:AV->AV):AV->AV
 | .pt b i o=>f (.pt b i o)
 | .os b o n=>f (.os b o n)
 | .ow b=>f (.ow b)
 | .d x=>.d x
 | .rp e o=>.rp e o
 | _=>.any
def mapA(f:AV->AV):AV->AV
 | .ag l=>.ag (l.map (Z6b f))
 | .fn g caps=>.fn g (caps.map (Z6b f))
 | .fm g a=>.fm g (Z6b f a)
 | .ic t (.ag l)=>.ic t (.ag (l.map (Z6b f)))
 | .ic t a=>.ic t (Z6b f a)
 | a=>Z6b f a
section
variable {ρ ρ':Rho} {w:World} {Im Im':Nat->Prop} {f:AV->AV}
theorem ZiQ(hi:∀ g,Im g->Im' g)(hpt:∀ b i o v,Rel ρ w Im (.pt b i o) v->Rel ρ' w Im' (f (.pt b i o)) v)(hos:∀ b o n v,Rel ρ w Im (.os b o n) v->Rel ρ' w Im' (f (.os b o n)) v)
  (how:∀ b v,Rel ρ w Im (.ow b) v->Rel ρ' w Im' (f (.ow b)) v) {a:AV} {v:Value} (h:Rel ρ w Im a v):Rel ρ' w Im' (Z6b f a) v:=by
 cases a with
 | pt b i o=>exact hpt _ _ _ _ h
 | os b o n=>exact hos _ _ _ _ h
 | ow b=>exact how _ _ h
 | d x=>cases h with | d h=>exact .d (h.mono (Ext.refl _ _) hi)
 | rp e o=>cases h with | rp h1 h2 h3=>exact .rp h1 (hi _ h2) (λj x hx=>let ⟨v,k1,k2⟩:=h3 j x hx;⟨v,k1,k2.mono (Ext.refl _ _) hi⟩)
 | _=>exact .any _
theorem Z6u(hi:∀ g,Im g->Im' g)(hpt:∀ b i o v,Rel ρ w Im (.pt b i o) v->Rel ρ' w Im' (f (.pt b i o)) v)(hos:∀ b o n v,Rel ρ w Im (.os b o n) v->Rel ρ' w Im' (f (.os b o n)) v)
  (how:∀ b v,Rel ρ w Im (.ow b) v->Rel ρ' w Im' (f (.ow b)) v) {a:AV} {v:Value} (h:Rel ρ w Im a v):Rel ρ' w Im' (mapA f a) v:=by
 have leaf:∀ {a:AV} {v:Value},Rel ρ w Im a v->Rel ρ' w Im' (Z6b f a) v:=λh=>ZiQ hi hpt hos how h;have agg:∀ {l:List AV} {v:Value},Rel ρ w Im (.ag l) v->Rel ρ' w Im' (.ag (l.map (Z6b f))) v:=λh=>by
  obtain⟨cs,rfl,h1,h2,h3⟩:=Z3a h;refine .ag _ cs (by simpa using h1) h2 λi x v hx hv=>?_;simp only[Ls,La]at hx;obtain⟨y,hy,rfl⟩:=hx;exact leaf (h3 i y v hy hv)
 cases a with
 | ag l=>exact agg h
 | fn g caps =>
  cases h with
  | fn h1 h3 =>
   refine .fn (by simpa using h1) λi x v hx hv=>?_;simp only[Ls,La]at hx;obtain⟨y,hy,rfl⟩:=hx;exact leaf (h3 i y v hy hv)
 | fm=>cases h with | fm h=>exact .fm (leaf h)
 | ic t a =>
  cases h with
  | ic h =>
   cases a with
   | ag l=>exact .ic (agg h)
   | _=>exact .ic (leaf h)
 | pt b i o=>exact leaf h
 | os b o n=>exact leaf h
 | ow b=>exact leaf h
 | d x=>exact leaf h
 | rp e o=>exact leaf h
 | tu l=>exact .any _
 | gd g a=>exact .any _
 | any=>exact .any _
end
section
variable {Ow:Own} {Im0:Nat->Prop} {w0:World} {ρ:Rho} {w:World} {Im:Nat->Prop} {H:Heap} {clk:Nat}
theorem Inv.kill(I:Inv Ow Im0 w0 ρ w Im H clk){b:Nat}{B:Blk}(hb:H b=U B):Inv Ow Im0 w0 ρ w Im (updH H b .dead) clk:=by
 have hl:∀ k,live (updH H b .dead) k->k≠b/\live H k:=by
  intro k h;have hk:k≠b:=by
   rintro rfl;obtain⟨B',h1,h2⟩:=h;simp only[updH,if_true,Lm]at h1;exact h2 h1.symm
  exact⟨hk,Z1o h hk⟩
 refine⟨I.kept,λk k' β β' g l1 l2=>I.inj k k' β β' g (hl k l1).2 (hl k' l2).2,λk β g l=>I.notIm k β g (hl k l).2,I.bnd,I.own,I.imb,I.im0,λk B' h=>?_,λk hk h=>?_,I.one⟩
 .unfold updH at h;split at h
  .rename_i e;cases h;obtain⟨β,h1,_⟩:=I.blk b B hb;exact⟨β,by rw[e];exact h1,trivial⟩
  .exact I.blk k B' h
 .unfold updH at h;split at h
  .cases h
  .exact I.fresh k hk h
theorem Inv.take(I:Inv Ow Im0 w0 ρ w Im H clk)(id:Nat)(hid:clk*8000<=id)(hH:H id=V)(g s n:Nat)(cs cs':Array Value)(ty:Nat)(B:Blk)
  (hfree:∀ k κ,live H k->ρ k=U κ->κ.g≠U g) (him:¬ Im g) (hown:w0.heap.size<=g\/OwA Ow g)
  (hg:w.heap[g]? = U (.cells cs ty (0,0))) (hs:cs'.size=cs.size)
  (hB:Ext Im w (w.setRow g cs')->RelB (updR ρ id ⟨U g,s,n⟩) (w.setRow g cs') Im ⟨U g,s,n⟩ B) :
  Inv Ow Im0 w0 (updR ρ id ⟨U g,s,n⟩) (w.setRow g cs') Im (updH H id B) clk/\Ext Im w (w.setRow g cs'):=by
 have hsz:(w.setRow g cs').heap.size=w.heap.size:=by simp[World.setRow]
 have hgl:g<w.heap.size:=by
  rcases Xn g w.heap.size with h | h
  .exact h
  .rw[Array.getElem?_eq_none h]at hg;cases hg
 have he:Ext Im w (w.setRow g cs'):=⟨by omega,λk hk=>setRow_other w g k cs' (λe=>him (e▸hk)),λk _=>Z2a w g cs cs' ty hg hs k⟩
 have hn:=I.fresh id hid hH;refine⟨⟨?_, ?_, ?_, ?_, ?_,λg h=>by rw[hsz];exact I.imb g h,I.im0, ?_, ?_,Z8i I.one hid⟩,he⟩
 .have k:=I.kept;refine⟨k.os,k.tape,k.output,by rw[hsz];exact k.size,λi hi ho=>?_,λi hi=>?_⟩
  .have:i≠g:=by
    rintro rfl;rcases hown with h | h
    .omega
    .exact ho h
   rw[setRow_other w g i cs' this];exact k.block i hi ho
  .rw[Z2a w g cs cs' ty hg hs];exact k.rows i hi
 .intro b b' β β' g' l1 l2 h1 h2 h3 h4;unfold updR at h1 h2;split at h1<;>split at h2
  .omega
  .cases h1;cases h3;exact absurd h4 (hfree b' β' (Z1o l2 aa) h2)
  .cases h2;cases h4;exact absurd h3 (hfree b β (Z1o l1 aa) h1)
  .exact I.inj b b' β β' g' (Z1o l1 aa) (Z1o l2 aa) h1 h2 h3 h4
 .intro b β g' l h h';unfold updR at h;split at h
  .cases h;cases h';exact him
  .exact I.notIm b β g' (Z1o l aa) h h'
 .intro b β g' h h';rw[hsz];unfold updR at h;split at h
  .cases h;cases h';exact hgl
  .exact I.bnd b β g' h h'
 .intro b β g' h h';unfold updR at h;split at h
  .rename_i hbi;cases h;cases h';have:=I.one;exact hown.imp (λh=>⟨h,by omega⟩) (λh=>h)
  .exact I.own b β g' h h'
 .intro b B' h;unfold updH at h;split at h
  .cases h;rename_i hb;exact⟨_,by rw[hb];exact Z1w _ _ _,hB he⟩
  .obtain⟨β,h1,h2⟩:=I.blk b B' h;cases B' with
   | dead=>exact⟨β,Z1q hn _ _ h1,trivial⟩
   | _ =>
    refine⟨β,Z1q hn _ _ h1,h2.mono he (λ_ h=>h) (Z1q hn) I.bnd (λg' hg'=>setRow_other w g g' cs' ?_)⟩;rintro rfl;exact hfree b β ⟨_,h,by simp⟩ h1 hg'
 .intro b hb h;unfold updH at h;unfold updR;split
  .rename_i hbi;simp[hbi]at h
  .rename_i hbi;simp only[hbi,if_false]at h;exact I.fresh b hb h
end
def ZcM(n:Nat):∀ (r c:Nat),LG n r c<=max c (n+(n+768)/4)
 | 0,c=>by simp only[LG];omega
 | r+1,c=>by
  simp only[LG];split
  .omega
  .have:=ZcM n r (c+(c+768)/4);omega
def nextslicecap_le(n c:Nat)(h:c<n):Lr n c<=2*n+192:=by
 unfold Lr;split
 .omega
 .split
  .omega
  .have:=ZcM n 4 c;omega
def Z7P(P:Program)(e:Nat):Bool:=match Z5G P e with | U zs=>zs.length==szOf P e | V=>L
def ZmF(P:Program)(t:Nat):Bool:=match P.underlying t with | U (.int _)=>X | _=>L
def Z3p(P:Program)(t t' id:Nat)(hs:List Hint)(x y:AV)(H:Heap):Option (Nat×Res) :=
 match x with
 | .ow b=>match H b with
  | some (.arr ty s els)=>match Z16 P t,Z16 P t' with
   | some e,some _=>match Z1f H y with
    | some (s',xs)=>if szOf P e=s/\s≠0/\(s'=s\/xs.length=0)/\e=ty/\bytesOf P e<=65536/\bytesOf P e≠0/\Z7P P e=X/\Xl 8000 b=X then
     match hs with
     | .els l'::_=>U (b,⟨.ow id,U (id,.arr ty s l'),[els.length+xs.length<=2^30,els++xs=l']⟩)
     | _=>U (b,⟨.ow id,U (id,.arr ty s (els++xs)),[els.length+xs.length<=2^30]⟩)
     else V
    | none=>V
   | _,_=>V
  | _=>V
 | _=>V
def Z5r(P:Program)(t t' id:Nat)(hs:List Hint)(x:AV)(n:Int)(H:Heap):Option (Nat×Res) :=
 match x with
 | .ow b=>match H b with
  | some (.arr ty s els)=>match Z16 P t,ZmF P t' with
   | some e,true=>match Z5G P e with
    | some zs=>if szOf P e=s/\s≠0/\e=ty/\bytesOf P e<=65536/\bytesOf P e≠0/\Z7P P e=X/\Xl 8000 b=X then
     match hs with
     | .els l'::_=>U (b,⟨.ow id,U (id,.arr ty s l'),[0<=n/\els.length+n<=2^30,els++Y n.toNat zs=l']⟩)
     | _=>U (b,⟨.ow id,U (id,.arr ty s (els++Y n.toNat zs)),[0<=n/\els.length+n<=2^30]⟩)
     else V
    | none=>V
   | _,_=>V
  | _=>V
 | _=>V
def Z47(P:Program)(t t' id:Nat)(hs:List Hint)(x y:AV)(H:Heap):Option (Nat×Res) :=
 match y with
 | .d (.sc (.int _ n))=>Z5r P t t' id hs x n H
 | _=>Z3p P t t' id hs x y H
def Z8V{w:World}{Im:Nat->Prop}{s:Nat}{els xs:List (List DV)}{cs:Array Value}{a b:Array Value}(h:RelE w Im s els a)(hx:RelE w Im s xs b)
  (hcs:(els.length+xs.length)*s<=cs.size) (h1:∀ j,j<els.length*s->cs[j]? = a[j]?) (h2:∀ j,j<xs.length*s->cs[els.length*s+j]? = b[j]?):RelE w Im s (els++xs) cs:=by
 obtain⟨a1,a2,a3,a4⟩:=h;obtain⟨b1,b2,b3,b4⟩:=hx;refine⟨λe he=>?_,by rw[Ld];exact hcs,λj v hv hj=>?_,λi e o x hi ho=>?_⟩
 .rcases LN.1 he with h | h
  .exact a1 e h
  .exact b1 e h
 .rw[Ld,W]at hj;by_cases hlt:j<els.length*s
  .rw[h1 j hlt]at hv;exact a3 j v hv hlt
  .have:=h2 (j-els.length*s) oq;rw[show els.length*s+(j-els.length*s)=j from by omega,hv]at this;exact b3 _ v this.symm oq
 .have hes:e.length=s:=by
   rcases LN.1 (Le hi)with h | h
   .exact a1 e h
   .exact b1 e h
  have hos:o<s:=by rw[<- hes];exact(R.1 ho).1
  rw[List.getElem?_append]at hi;split at hi
  .rename_i hlt;obtain⟨v,k1,k2⟩:=a4 i e o x hi ho;have:(i+1)*s<=els.length*s:=G s hlt;rw[W]at this;exact⟨v,by rw[h1 _ oq];exact k1,k2⟩
  .rename_i hge;obtain⟨v,k1,k2⟩:=b4 (i-els.length) e o x hi ho;have hlt:=(R.1 hi).1;have:(i-els.length+1)*s<=xs.length*s:=G s hlt;rw[W]at this;have e1:i*s=els.length*s+(i-els.length)*s:=by rw[<- W];congr 1;omega
   exact⟨v,by rw[e1,Ll,h2 _ oq];exact k1,k2⟩
def Zc4{Ow:Own}{Im0:Nat->Prop}{w0:World}{ρ:Rho}{w:World}{Im:Nat->Prop}{H:Heap}{clk:Nat}{x:AV}{v:Value}{s:Nat}{els:List (List DV)}
  (I:Inv Ow Im0 w0 ρ w Im H clk) (hx:Rel ρ w Im x v) {s':Nat} (h:Z1f H x=U (s',els)) (hs:s'=s\/els.length=0):∃ p c,v = .slice p els.length c/\els.length<=big/\els.length<=c/\(els≠[]->∀ e∈els,e.length=s)/\(els=[]\/∃ q,p=U q/\q.spot=V /\
   ∀ (i:Nat) (e:List DV) (o:Nat) (y:DV),els[i]? = U e->e[o]? = U y->∃ u,w.cell? ⟨q.block,q.off+(i*s+o),V⟩=U u/\RelD w Im y u):=by
 rcases hs with rfl | hs
 .exact Z1Q I hx h
 .obtain⟨p,c,h1,h2,h3,_⟩:=Z1Q I hx h;have e:=List.eq_nil_of_length_eq_zero hs;exact⟨p,c,h1,h2,h3,λq=>absurd e q,.inl e⟩
def Z8p{P:Program}{o:Oper}{id t t':Nat}{x y:Operand}{H:Heap}{b' e s:Nat}{els xs:List (List DV)}{u u':Array Value}{vy z:Value}{nb:Nat}{Ow:Own}{Im0:Nat->Prop}{w0:World}{ρ:Rho}{w:World}{Im:Nat->Prop}{clk:Nat}{a:Act}{tmps:List AV}
  (ho:o.op = .call ⟨.builtin .append,#[x,y],#[t,t']⟩) (hvy:a.eval y=vy) (I:Inv Ow Im0 w0 ρ w Im H clk) (T:RelT Ow.ds ρ w Im tmps a)
  (hid:clk*8000<=id) (hH:H id=V) (hx:Rel ρ w Im (.ow b') (a.eval x)) (hb:H b'=U (.arr e s els)) (hs1:0<s) (hib:nb<=65536) (hb8:8000<=b') (hbig:els.length+xs.length<=2^30)
  (hu2:RelE w Im s xs u) (hu3:u.size=xs.length*s) (n2:RelE w.drew Im s xs u') (n3:u'.size=xs.length*s) (hzlen:z.cells.size=s)
  (A:∀ (ad:Option Addr) (c:Nat) (w':World),els.length+xs.length<=c->(match ad with | U q=>storeCells (q.add (els.length*s)) u.toList | V=>pure ():Sem Unit).run P w = .ok () w' ->
   (Lg #[t,t'] o.type #[.slice ad els.length c,vy]).run P w = .ok (.slice ad (els.length+xs.length) c) w')
  (B:∀ (ad:Option Addr) (c:Nat) (ux':Array Value) (newCap:Nat),¬ els.length+xs.length<=c->(LB (els.length+xs.length) c e).cut (w.tape w.drawn (.appendCap (els.length+xs.length) c e))=newCap ->
   ¬ (Lr (els.length+xs.length) c*nb > 2^48)->(Lp s els.length (.slice ad els.length c)).run P w.drew = .ok ux' w.drew ->
   (Lg #[t,t'] o.type #[.slice ad els.length c,vy]).run P w = .ok (.slice (U ⟨w.drew.heap.size,0,V⟩) (els.length+xs.length) newCap) (w.drew.alloc (.cells (ux'++u'++S z.cells (newCap-(els.length+xs.length))) e))) :
  ∃ v w' ρ',(execOp a.eval o).run P w = .ok (.value v) w'/\Inv Ow Im0 w0 ρ' w' Im (updH (updH H b' .dead) id (.arr e s (els++xs))) clk/\RelT Ow.ds ρ' w' Im tmps a/\Rel ρ' w' Im (.ow id) v:=by
 have hcontx:Z1f H (.ow b')=U (s,els):=by simp[Z1f,hb]
 obtain⟨px,cx,hvx0,_,_,hlxx,hcellxx⟩:=Z1Q I hx hcontx;obtain⟨ux,hux1,hux2,hux3⟩:=Z2k (P:=P) (p:=px) (n:=els.length) (c:=cx) hs1 hlxx hcellxx;generalize hvx:a.eval x=v at hx;cases hx with
 | ow hρ hc hbg ha =>
  rename_i c ad β;obtain⟨β',h1,h2⟩:=I.blk b' _ hb;rw[hρ]at h1;cases h1;have h2':=h2;obtain⟨g1,g2,g3,g4,g5⟩:=h2;rw[hvx]at hvx0;obtain⟨rfl,_,rfl⟩:ad=px/\β.n=els.length/\c=cx:=by injection hvx0 with q1 q2 q3;exact⟨q1,q2,q3⟩
  have ID:=I.kill hb;have TD:=T;have hidb:id≠b':=by rintro rfl;rw[hb]at hH;cases hH
  have hHd:updH H b' .dead id=V:=by unfold updH;rw[if_neg hidb];exact hH
  have hdead:∀ k κ g,live (updH H b' .dead) k->ρ k=U κ->β.g=U g->κ.g≠U g:=by
   intro k κ g hl hk hg hkg;have hkb:k≠b':=by
    rintro rfl;obtain⟨B',q1,q2⟩:=hl;simp only[updH,if_true,Lm]at q1;exact q2 q1.symm
   exact hkb (I.inj k b' κ β g (Z1o hl hkb) ⟨_,hb,by simp⟩ hk hρ hkg hg)
  by_cases hfit:els.length+xs.length<=c
  .-- there is room
   have run0:∀ w',(match ad with | U q=>storeCells (q.add (els.length*s)) u.toList | V=>pure ():Sem Unit).run P w = .ok () w' ->
     (execOp a.eval o).run P w = .ok (.value (.slice ad (els.length+xs.length) c)) w':=by
    intro w' hw';have:=A ad c w' hfit hw';simp[execOp,ho,resolve,hvx,hvy,invoke,builtin,g2,this]
   rcases g5 with⟨g5,rfl⟩ | ⟨g,cs,hg,hw,hszc,hcell⟩
   .-- no memory yet,nothing comes
    rcases ha with ha | ⟨g',hg',_⟩
    rotate_left
    .rw[g5]at hg';cases hg'
    subst ha;have hxs:xs=[]:=by cases xs with | nil=>rfl | cons _ _=>simp at hfit
    subst hxs;have hu0:u = #[]:=by apply Ln;simpa using hu3
    have hrun:=run0 w (by cases ad<;>simp[hu0,storeCells]);have hn:=ID.fresh id hid hHd;have hsub:=Z1q (β:=⟨V,s,0⟩) hn;refine⟨_,w,updR ρ id ⟨V,s,0⟩,hrun, ?_,TD.mono (Ext.refl _ _) (λ_ h=>h) hsub ID.bnd, ?_⟩
    .refine⟨ID.kept, ?_, ?_, ?_, ?_,ID.imb,ID.im0, ?_, ?_,Z8i ID.one hid⟩
     .intro k k' κ κ' g l1 l2 h1 h2 h3 h4;unfold updR at h1 h2;split at h1<;>split at h2
      .omega
      .cases h1;cases h3
      .cases h2;cases h4
      .exact ID.inj k k' κ κ' g (Z1o l1 aa) (Z1o l2 aa) h1 h2 h3 h4
     .intro k κ g l h h';unfold updR at h;split at h
      .cases h;cases h'
      .exact ID.notIm k κ g (Z1o l aa) h h'
     .intro k κ g h h';unfold updR at h;split at h
      .cases h;cases h'
      .exact ID.bnd k κ g h h'
     .intro k κ g h h';unfold updR at h;split at h
      .cases h;cases h'
      .exact ID.own k κ g h h'
     .intro k B h;unfold updH at h;split at h
      .cases h;rename_i hk;exact⟨_,by rw[hk];exact Z1w _ _ _,rfl,rfl,by simp[big],by simp,.inl ⟨rfl,rfl⟩⟩
      .obtain⟨κ,h1,h2⟩:=ID.blk k B h;exact⟨κ,hsub _ _ h1,h2.mono (Ext.refl _ _) (λ_ h=>h) hsub ID.bnd (λ_ _=>rfl)⟩
     .intro k hk h;unfold updH at h;unfold updR;split
      .rename_i hbi;simp[hbi]at h
      .rename_i hbi;simp only[hbi,if_false]at h;exact ID.fresh k hk h
    .have:=Rel.ow (ρ:=updR ρ id ⟨V,s,0⟩) (w:=w) (Im:=Im) (c:=0) (a:=ad) (Z1w ρ id ⟨V,s,0⟩) (Lt _) (by simp[big]) (.inl rfl);simpa using this
   .-- the row's own spare cells
    have hnew:w0.heap.size<=g\/OwA Ow g:=(I.own b' β g hρ hg).imp (·.1) (λh=>h);by_cases hc0:c=0
    .-- no cell: nothing comes
     subst hc0;have hl0:els=[]:=by cases els with | nil=>rfl | cons _ _=>simp at hfit
     have hxs:xs=[]:=by cases xs with | nil=>rfl | cons _ _=>simp at hfit
     subst hl0;subst hxs;have hu0:u = #[]:=by apply Ln;simpa using hu3
     have hrun:=run0 w (by cases ad<;>simp[hu0,storeCells]);have hset:w.setRow g cs=w:=setRow_self w g cs e (0,0) hw;have htake:=ID.take id hid hHd g s 0 cs cs e (.arr e s ([]++[])) (λk κ hl hk=>hdead k κ g hl hk hg) (I.notIm b' β g ⟨_,hb,by simp⟩ hρ hg) hnew hw rfl (λhe=>by
      rw[hset];exact⟨rfl,rfl,by simp[big],by simp,.inr ⟨g,cs,rfl,hw,by simp,by simp⟩⟩)
     rw[hset]at htake;have hsub:=Z1q (β:=⟨U g,s,0⟩) (ID.fresh id hid hHd);refine⟨_,w,_,hrun,htake.1,TD.mono (Ext.refl _ _) (λ_ h=>h) hsub ID.bnd, ?_⟩;have:=Rel.ow (ρ:=updR ρ id ⟨U g,s,0⟩) (w:=w) (Im:=Im) (c:=0) (a:=ad) (Z1w ρ id ⟨U g,s,0⟩) (Lt _) (by simp[big]) (.inl rfl);simpa using this
    .rcases ha with ha | ⟨g',hg',rfl,hrow⟩
     .omega
     rw[hg]at hg';cases hg';have hcs:c*s<=cs.size:=by
      have:rows w g=cs.size:=by unfold Sx.rows;rw[hw]
      rw[this,g1]at hrow;exact hrow
     have hE1':=Ze1 h2' hg hw;have hroom:(els.length+xs.length)*s<=cs.size:=Nat.le_trans (G s hfit) hcs;have hfitl:els.length*s+u.toList.length<=cs.toList.length:=by
      rw[W]at hroom;simp[hu3];omega
     have hone:∀ v∈u.toList,v.oneCell'=X:=by
      intro v hv;obtain⟨k,hk⟩:=LJ hv;have hk':u[k]? = U v:=by simpa using hk
      exact hu2.2.2.1 k v hk' (by rw[<- hu3];exact(LC.1 hk').1)
     have hst:=run_storeCells_at P g (els.length*s) e u.toList 0 cs w hw (by simpa using hfitl) hone;simp only[Lz]at hst;have hrun:=run0 _ (by simp only[Lc,Nat.zero_add];exact hst);have hlen:((cs.toList.take (els.length*s)++u.toList++cs.toList.drop (els.length*s+u.toList.length)).toArray).size=cs.size:=by
      rw[LR,Z1b hfitl];simp
     have hget:∀ j,((cs.toList.take (els.length*s)++u.toList++cs.toList.drop (els.length*s+u.toList.length)).toArray)[j]? = if j<els.length*s then cs[j]? else if j<els.length*s+u.size then u[j-els.length*s]? else cs[j]? := by
      intro j;rw[C,Z2g hfitl];simp
     have hrel:=Z8V hE1' hu2 (cs:=(cs.toList.take (els.length*s)++u.toList++cs.toList.drop (els.length*s+u.toList.length)).toArray) (by rw[hlen];exact hroom)
      (λj hj=>by rw[hget,if_pos hj]) (λj hj=>by rw[hget,if_neg oq,if_pos oq,show els.length*s+j-els.length*s=j from by omega])
     have hlb:(els++xs).length<=big:=by rw[Ld];simp[big];omega
     have htake:=ID.take id hid hHd g s (els++xs).length cs _ e (.arr e s (els++xs)) (λk κ hl hk=>hdead k κ g hl hk hg) (I.notIm b' β g ⟨_,hb,by simp⟩ hρ hg) hnew hw hlen (λhe=>by
      refine⟨rfl,rfl,hlb,hrel.1,.inr ⟨g,_,rfl,setRow_heap w g cs _ e _ hw,hrel.2.1,λi e o y hi ho=>?_⟩⟩;obtain⟨v,k1,k2⟩:=hrel.2.2.2 i e o y hi ho;exact⟨v,k1,k2.mono he (λ_ h=>h)⟩)
     have hsub:=Z1q (β:=⟨U g,s,(els++xs).length⟩) (ID.fresh id hid hHd);refine⟨_,_,_,hrun,htake.1,TD.mono htake.2 (λ_ h=>h) hsub ID.bnd, ?_⟩;have:=Rel.ow (ρ:=updR ρ id ⟨U g,s,(els++xs).length⟩) (w:=w.setRow g (cs.toList.take (els.length*s)++u.toList++cs.toList.drop (els.length*s+u.toList.length)).toArray) (Im:=Im) (c:=c) (a:=U ⟨g,0,V⟩) (Z1w ρ id ⟨U g,s,(els++xs).length⟩)
      (by rw[Ld];exact hfit) hlb (.inr ⟨g,rfl,rfl,by rw[Z2a w g cs _ e hw hlen];unfold Sx.rows;rw[hw];exact hcs⟩)
     simpa using this
  .-- a new row
   generalize hcap:(LB (els.length+xs.length) c e).cut (w.tape w.drawn (.appendCap (els.length+xs.length) c e))=newCap;have hcapge:els.length+xs.length<=newCap:=by rw[<- hcap];exact Nat.le_add_right _ _
   have hnot:¬ els.length+xs.length<=c:=hfit;have hroom:¬ (Lr (els.length+xs.length) c*nb > 2^48):=by
    have h1:=nextslicecap_le (els.length+xs.length) c oq;have h2:Lr (els.length+xs.length) c*nb<=(2*(els.length+xs.length)+192)*65536:=Nat.mul_le_mul h1 hib;omega
   obtain⟨ux',m1,m2,m3⟩:=Z2k (P:=P) (w:=w.drew) (Im:=Im) (p:=ad) (n:=els.length) (c:=c) (s:=s) (els:=els) hs1 hlxx (hcellxx.imp (λh=>h) λ⟨q,k1,k2,k3⟩=>⟨q,k1,k2,λi e o y hi ho=>let ⟨u,m1,m2⟩:=k3 i e o y hi ho;⟨u,m1,m2.mono (Ext.draw Im w) (λ_ h=>h)⟩⟩);have hsize:(ux'++u'++S z.cells (newCap-(els.length+xs.length))).size=newCap*s:=by
    simp only[Array.size_append,S,Array.size_map,Array.size_range,m3,n3,hzlen,<- W];congr 1;omega
   have hrel:=Z8V m2 n2 (cs:=ux'++u'++S z.cells (newCap-(els.length+xs.length))) (by rw[hsize];exact G s hcapge)
    (λj hj=>by rw[L2,L3 oq])
    (λj hj=>by rw[L2,Array.getElem?_append_right oq,L3 oq];congr 1;omega)
   have hlb:(els++xs).length<=big:=by rw[Ld];simp[big];omega
   obtain⟨ρ',q1,q2,q3,q4⟩:=Then.arr (ty:=e) (c:=newCap) ID.draw hid hHd hrel hlb (by rw[Ld];exact hcapge) (by rw[hsize];exact Lt _);refine⟨_,_,ρ', ?_,q1,(TD.mono (Ext.draw Im w) (λ_ h=>h) (λ_ _ h=>h) ID.bnd).mono q2 (λ_ h=>h) q3 ID.draw.bnd,q4⟩;have:=B ad c ux' newCap hnot hcap hroom m1;rw[Ld];simp[execOp,ho,resolve,hvx,hvy,invoke,builtin,g2,this]
def ZeI{P:Program}{o:Oper}{id t t':Nat}{x y:Operand}{hs:List Hint}{H:Heap}{E:Operand->AV}{b:Nat}{r:Res}{Ow:Own}{Im0:Nat->Prop}{w0:World}{ρ:Rho}{w:World}{Im:Nat->Prop}{clk:Nat}{a:Act}{tmps:List AV}
  (ho:o.op = .call ⟨.builtin .append,#[x,y],#[t,t']⟩) (h:Z3p P t t' id hs (E x) (E y) H=U (b,r)) (I:Inv Ow Im0 w0 ρ w Im H clk) (T:RelT Ow.ds ρ w Im tmps a)
  (hid:clk*8000<=id) (hH:H id=V) (hx:Rel ρ w Im (E x) (a.eval x)) (hy:Rel ρ w Im (E y) (a.eval y)) (hph:allP r.ph) :
  ∃ v w' ρ',(execOp a.eval o).run P w = .ok (.value v) w'/\Inv Ow Im0 w0 ρ' w' Im (r.heap (updH H b .dead)) clk/\RelT Ow.ds ρ' w' Im tmps a/\Rel ρ' w' Im r.val v:=by
 unfold Z3p at h;split at h;rotate_left
 .cases h
 rename_i b' hE1;split at h;rotate_left
 .cases h
 rename_i ty s els hb;split at h;rotate_left
 .cases h
 rename_i e e2 he he2;split at h;rotate_left
 .cases h
 rename_i s' xs hcont;split at h;rotate_left
 .cases h
 rename_i hc;obtain⟨hsz,hs0,hss,rfl,hby,hby0,hz,hb8⟩:=hc;have hb8:=Xm hb8;have hs1:0<s:=Xo hs0;have fin:els.length+xs.length<=2^30->b'=b->∃ v w' ρ',(execOp a.eval o).run P w = .ok (.value v) w'/\Inv Ow Im0 w0 ρ' w' Im (updH (updH H b .dead) id (.arr e s (els++xs))) clk/\RelT Ow.ds ρ' w' Im tmps a/\Rel ρ' w' Im (.ow id) v:=by
  rintro hbig rfl;rw[hE1]at hx;obtain⟨p,cy,hvy,hbx,hcx,hlx,hcellx⟩:=Zc4 I hy hcont hss;obtain⟨u,hu1,hu2,hu3⟩:=Z2k (P:=P) (p:=p) (n:=xs.length) (c:=cy) hs1 hlx hcellx;have hut:P.underlying t=U (.slice e):=by
   unfold Z16 at he;split at he
   .cases he;assumption
   .cases he
  have hut':P.underlying t'=U (.slice e2):=by
   unfold Z16 at he2;split at he2
   .cases he2;assumption
   .cases he2
  have hsr:(sizeOf e).run P w = .ok s w:=Z3N hsz hs0 w;have hinfo:∃ i,P.info? e=U i/\i.bytes=bytesOf P e:=by
   unfold bytesOf at hby0 ⊢;cases hi:P.info? e with
   | none=>simp[hi]at hby0
   | some i=>exact⟨i,rfl,rfl⟩
  obtain⟨i,hi,hib⟩:=hinfo;unfold Z7P at hz;split at hz;rotate_left
  .cases hz
  rename_i zs hzs;have hzlen0:zs.length=s:=by rw[<- hsz];simpa using hz
  unfold Z5G at hzs;split at hzs;rotate_left
  .cases hzs
  rename_i z hzz;have hzr:∀ w,(zeroValue e).run P w = .ok z w:=λw=>Z5j (P:=P) hzz w;split at hzs;rotate_left
  .cases hzs
  rename_i l hl;have hzc:=(Z6n (λ_=>V) w Im z).cells hl;obtain⟨u',n1,n2,n3⟩:=Z2k (P:=P) (w:=w.drew) (Im:=Im) (p:=p) (n:=xs.length) (c:=cy) (s:=s) (els:=xs) hs1 hlx (hcellx.imp (λh=>h) λ⟨q,k1,k2,k3⟩=>⟨q,k1,k2,λi e o y hi ho=>let ⟨u,m1,m2⟩:=k3 i e o y hi ho;⟨u,m1,m2.mono (Ext.draw Im w) (λ_ h=>h)⟩⟩);have hzlen:z.cells.size=s:=by
   rw[hzc.1,Z2U hzs];simpa[dvs]using hzlen0
  refine Z8p (nb:=i.bytes) ho hvy I T hid hH hx hb hs1 (by rw[hib];exact hby) hb8 hbig hu2 hu3 n2 n3 hzlen (λad c w' hfit hw'=>?_) (λad c ux' newCap hnot hcap hroom m1=>?_)
  .unfold Lg;simp only[C,O,Lb,N,run_underlying hut,run_underlying hut',Z,Lq,M,hsr,F,if_false,hfit,if_true,L7,hu1];cases ad with
   | none=>simp only[M]at hw' ⊢;cases hw';simp
   | some q=>simp only at hw' ⊢;simp[hw']
  .have hmax:¬ (((els.length+xs.length:Nat):Int) > Lj.max/\(False\/i.bytes=0)):=by
    rintro⟨_,h | h⟩
    .exact h
    .rw[hib]at h;exact hby0 h
   have hti:∀ w,(typeInfo e).run P w = .ok i w:=λw=>by simp[typeInfo,hi]
   have hforced:(LB (els.length+xs.length) c e).forced=L:=rfl;unfold Lg;simp only[C,O,Lb,N,run_underlying hut,run_underlying hut',Z,Lq,M,hsr,F,if_false,hnot,L7,if_true,hti];rw[if_neg hmax];simp only[M,LY,hroom,if_false,run_choose,hforced,F,L0,hcap,Z,run_askRoom,m1,n1,hzr,N,newRow,run_newObj,LZ,hti]
 split at h
 .rename_i l' _;cases h;obtain⟨p1,p2⟩:=allP_cons.1 hph;have p2':els++xs=l':=by simpa[allP]using p2
  rw[Res.heap,<- p2'];exact fin p1 rfl
 .cases h;exact fin (by simpa[allP]using hph) rfl
def Zen{P:Program}{o:Oper}{id t t':Nat}{x y:Operand}{hs:List Hint}{H:Heap}{E:Operand->AV}{b:Nat}{r:Res}{k:IntKind}{n:Int}{Ow:Own}{Im0:Nat->Prop}{w0:World}{ρ:Rho}{w:World}{Im:Nat->Prop}{clk:Nat}{a:Act}{tmps:List AV}
  (ho:o.op = .call ⟨.builtin .append,#[x,y],#[t,t']⟩) (h:Z5r P t t' id hs (E x) n H=U (b,r)) (hEy:E y = .d (.sc (.int k n))) (I:Inv Ow Im0 w0 ρ w Im H clk) (T:RelT Ow.ds ρ w Im tmps a)
  (hid:clk*8000<=id) (hH:H id=V) (hx:Rel ρ w Im (E x) (a.eval x)) (hy:Rel ρ w Im (E y) (a.eval y)) (hph:allP r.ph) :
  ∃ v w' ρ',(execOp a.eval o).run P w = .ok (.value v) w'/\Inv Ow Im0 w0 ρ' w' Im (r.heap (updH H b .dead)) clk/\RelT Ow.ds ρ' w' Im tmps a/\Rel ρ' w' Im r.val v:=by
 unfold Z5r at h;split at h;rotate_left
 .cases h
 rename_i b' hE1;split at h;rotate_left
 .cases h
 rename_i ty s els hb;split at h;rotate_left
 .cases h
 rename_i e he he2;split at h;rotate_left
 .cases h
 rename_i zs0 hzs0;split at h;rotate_left
 .cases h
 rename_i hc;obtain⟨hsz,hs0,rfl,hby,hby0,hz,hb8⟩:=hc;have hb8:=Xm hb8;have hs1:0<s:=Xo hs0;have fin:0<=n/\(els.length:Int)+n<=2^30->b'=b->∃ v w' ρ',(execOp a.eval o).run P w = .ok (.value v) w'/\Inv Ow Im0 w0 ρ' w' Im (updH (updH H b .dead) id (.arr e s (els++Y n.toNat zs0))) clk/\RelT Ow.ds ρ' w' Im tmps a/\Rel ρ' w' Im (.ow id) v:=by
  rintro⟨hn0,hbig0⟩ rfl;have hvy:a.eval y = .int k n:=Z0G (hEy▸hy);generalize hxse:Y n.toNat zs0=xs;have hxl:xs.length=n.toNat:=by rw[<- hxse,LM]
  have hbig:els.length+xs.length<=2^30:=by omega
  have hw64:Lj.wrap n=n:=by rw[IntKind.wrap_i64];omega
  have hzs00:=hzs0;unfold Z5G at hzs0;split at hzs0;rotate_left
  .cases hzs0
  rename_i z hzz;split at hzs0;rotate_left
  .cases hzs0
  rename_i l hl;have hzlen0:zs0.length=s:=by
   unfold Z7P at hz;rw[hzs00]at hz;rw[<- hsz];simpa using hz
  have hzr:∀ w,(zeroValue e).run P w = .ok z w:=λw=>Z5j (P:=P) hzz w;have hzc:=(Z6n (λ_=>V) w Im z).cells hl;have hzlen:z.cells.size=s:=by
   rw[hzc.1,Z2U hzs0];simpa[dvs]using hzlen0
  rw[hE1]at hx;have hu2:∀ w,RelE w Im s xs (S z.cells n.toNat):=by
   intro w;have:=Z66 (w:=w) (Im:=Im) n.toNat hl hzs0 hzlen0;rw[<- hxse];unfold S;rw[hzlen]at this ⊢;exact this
  have hu3:(S z.cells n.toNat).size=xs.length*s:=by
   simp[S,hzlen,hxl]
  generalize hue:S z.cells n.toNat=u at hu2 hu3;have hu0':n.toNat*s=0->u = #[]:=by
   intro h0;apply Ln;rw[hu3,hxl];exact h0
  have hut:P.underlying t=U (.slice e):=by
   unfold Z16 at he;split at he
   .cases he;assumption
   .cases he
  obtain⟨k2,hut'⟩:∃ k2,P.underlying t'=U (.int k2):=by
   unfold ZmF at he2;split at he2
   .exact⟨_,by assumption⟩
   .cases he2
  have hsr:(sizeOf e).run P w = .ok s w:=Z3N hsz hs0 w;have hinfo:∃ i,P.info? e=U i/\i.bytes=bytesOf P e:=by
   unfold bytesOf at hby0 ⊢;cases hi:P.info? e with
   | none=>simp[hi]at hby0
   | some i=>exact⟨i,rfl,rfl⟩
  obtain⟨i,hi,hib⟩:=hinfo;have hti:∀ w,(typeInfo e).run P w = .ok i w:=λw=>by simp[typeInfo,hi]
  have hsra:∀ w,(sizeOf e).run P w = .ok s w:=λw=>Z3N hsz hs0 w;have hbn:¬ (n*(i.bytes:Int) > 2^48):=by
   have h1:n*(i.bytes:Int)<=2^30*65536:=Int.mul_le_mul oq oq oq oq;omega
  have hn1:¬ n<0:=by omega
  refine Z8p (nb:=i.bytes) ho hvy I T hid hH hx hb hs1 (by rw[hib];exact hby) hb8 hbig (hu2 w) hu3 (hu2 w.drew) hu3 hzlen (λad c w' hfit hw'=>?_) (λad c ux' newCap hnot hcap hroom m1=>?_)
  .have hfit2:els.length+n.toNat<=c:=by omega
   rw[hxl];unfold Lg;by_cases h0:n.toNat*s=0
   .simp only[C,O,Lb,N,run_underlying hut,run_underlying hut',Z,M,hsra,asInt,asIntOf,hw64,hn1,if_false,hti,hbn,Lv,F,if_true,reduceCtorEq,hfit2,h0];rw[hu0' h0]at hw';cases ad with
    | none=>simp only[M]at hw' ⊢;cases hw';simp
    | some q=>simp only at hw' ⊢;simp[hw']
   .simp only[C,O,Lb,N,run_underlying hut,run_underlying hut',Z,M,hsra,asInt,asIntOf,hw64,hn1,if_false,hti,hbn,Lv,F,if_true,reduceCtorEq,hfit2,h0,hzr,hue];cases ad with
    | none=>simp only[M]at hw' ⊢;cases hw';simp
    | some q=>simp only at hw' ⊢;simp[hw']
  .have hmax:¬ (((els.length+n.toNat:Nat):Int) > Lj.max/\(True\/i.bytes=0)):=by
    rintro⟨h,_⟩;have:Lj.max=9223372036854775807:=by decide
    omega
   have hforced:(LB (els.length+n.toNat) c e).forced=L:=rfl;rw[hxl]at hcap hroom hnot;rw[hxl];unfold Lg;by_cases h0:n.toNat*s=0
   .have hu0:=hu0' h0;subst hu0;simp only[C,O,Lb,N,run_underlying hut,run_underlying hut',Z,M,hsra,asInt,asIntOf,hw64,hn1,if_false,hti,hbn,Lv,F,if_true,reduceCtorEq,hnot,h0,hmax];simp only[M,LY,hroom,if_false,run_choose,hforced,F,L0,hcap,Z,run_askRoom,m1,hzr,N,newRow,run_newObj,LZ,hti]
   .simp only[C,O,Lb,N,run_underlying hut,run_underlying hut',Z,M,hsra,asInt,asIntOf,hw64,hn1,if_false,hti,hbn,Lv,F,if_true,reduceCtorEq,hnot,h0,hmax];simp only[M,LY,hroom,if_false,run_choose,hforced,F,L0,hcap,Z,run_askRoom,m1,hzr,hue,N,newRow,run_newObj,LZ,hti]
 split at h
 .rename_i l' _;cases h;obtain⟨p1,p2⟩:=allP_cons.1 hph;have p2':els++Y n.toNat zs0=l':=by simpa[allP]using p2
  rw[Res.heap,<- p2'];exact fin p1 rfl
 .cases h;exact fin (by simpa[allP]using hph) rfl
def ZgD{P:Program}{o:Oper}{id t t':Nat}{x y:Operand}{hs:List Hint}{H:Heap}{E:Operand->AV}{b:Nat}{r:Res}{Ow:Own}{Im0:Nat->Prop}{w0:World}{ρ:Rho}{w:World}{Im:Nat->Prop}{clk:Nat}{a:Act}{tmps:List AV}
  (ho:o.op = .call ⟨.builtin .append,#[x,y],#[t,t']⟩) (h:Z47 P t t' id hs (E x) (E y) H=U (b,r)) (I:Inv Ow Im0 w0 ρ w Im H clk) (T:RelT Ow.ds ρ w Im tmps a)
  (hid:clk*8000<=id) (hH:H id=V) (hx:Rel ρ w Im (E x) (a.eval x)) (hy:Rel ρ w Im (E y) (a.eval y)) (hph:allP r.ph) :
  ∃ v w' ρ',(execOp a.eval o).run P w = .ok (.value v) w'/\Inv Ow Im0 w0 ρ' w' Im (r.heap (updH H b .dead)) clk/\RelT Ow.ds ρ' w' Im tmps a/\Rel ρ' w' Im r.val v:=by
 unfold Z47 at h;split at h
 .rename_i k n hEy;exact Zen ho h hEy I T hid hH hx hy hph
 .exact ZeI ho h I T hid hH hx hy hph
def Z7U(P:Program)(t:Nat)(hs:List Hint)(x:AV)(H:Heap):Option Res :=
 match Z16 P t with
 | none=>V
 | some e=>match szOf P e with
  | 0=>V
  | s+1=>match Z5G P e with
   | none=>V
   | some zs=>if zs.length=s+1 then
    match x with
    | .ow b=>match H b with
     | some (.arr ty s2 els)=>if s2=s+1 then
      match hs with
      | .els l'::_=>U ⟨.tu [],U (b,.arr ty s2 l'),[Z0M els 0 (Y els.length zs)=l']⟩
      | _=>U ⟨.tu [],U (b,.arr ty s2 (Z0M els 0 (Y els.length zs))),[]⟩
      else V
     | _=>V
    | .os b o n=>match H b with
     | some (.arr ty s2 els)=>if s2=s+1 then
      match hs with
      | .els l'::_=>U ⟨.tu [],U (b,.arr ty s2 l'),[Z0M els o (Y n zs)=l']⟩
      | _=>U ⟨.tu [],U (b,.arr ty s2 (Z0M els o (Y n zs))),[]⟩
      else V
     | _=>V
    | _=>V
    else V
def ZeE{P:Program}{o:Oper}{id:Nat}{E:Operand->AV}{H:Heap}{r:Res}{x:Operand}{t:Nat}{hs:List Hint}
  (ho:o.op = .call ⟨.builtin .clear,#[x],#[t]⟩) (h:Z7U P t hs (E x) H=U r):Z1X P o id E H r:=by
 intro Ow Im0 w0 ρ w Im clk a I hid hH hE hph;have hx:=hE x;unfold Z7U at h;split at h
 .cases h
 rename_i e he;split at h
 .cases h
 rename_i s hsz;split at h
 .cases h
 rename_i zs hzs0;split at h;rotate_left
 .cases h
 rename_i hzlen0;have hut:P.underlying t=U (.slice e):=by
  unfold Z16 at he;split at he
  .cases he;assumption
  .cases he
 have hzs00:=hzs0;unfold Z5G at hzs0;split at hzs0;rotate_left
 .cases hzs0
 rename_i z hzz;split at hzs0;rotate_left
 .cases hzs0
 rename_i l hl;have hzr:(zeroValue e).run P w = .ok z w:=Z5j (P:=P) hzz w;have hzc:=(Z6n (λ_=>V) w Im z).cells hl;have hzlen:z.cells.size=s+1:=by
  rw[hzc.1,Z2U hzs0];simpa[dvs]using hzlen0
 have fin:∀ (b oo n g c':Nat) (ty:Nat) (els:List (List DV)) (β:Bi),ρ b=U β->H b=U (.arr ty (s+1) els)->β.g=U g->a.eval x = .slice (U ⟨g,oo*(s+1),V⟩) n c'->0<n->oo+n<=els.length ->
   Goes P o a w λv w'=>Then Ow Im0 w0 ρ w Im clk (updH H b (.arr ty (s+1) (Z0M els oo (Y n zs)))) (.tu []) v w':=by
  intro b oo n g c' ty els β hρ hb hg hvx hn0 hon;obtain⟨u,hu⟩:∃ u,S z.cells n=u:=⟨_,rfl⟩
  have hu2:RelE w Im (s+1) (Y n zs) u:=by
   have:=Z66 (w:=w) (Im:=Im) n hl hzs0 hzlen0;rw[<- hu];unfold S;rw[hzlen]at this ⊢;exact this
  have hu3:u.size=(Y n zs).length*(s+1):=by
   rw[<- hu];simp[S,hzlen]
  obtain⟨β',h1,h2⟩:=I.blk b _ hb;rw[hρ]at h1;cases h1;have h2':=h2;obtain⟨g1,g2,g3,g4,g5⟩:=h2;rcases g5 with⟨g5,_⟩ | ⟨g',cs,hg',hw,hszc,hcell⟩
  .rw[hg]at g5;cases g5
  rw[hg]at hg';cases hg';have hE1:=Ze1 h2' hg hw;have hxl:(Y n zs).length=n:=by simp
  generalize hxs:Y n zs=xs at *;have hfit:oo*(s+1)+u.toList.length<=cs.toList.length:=by
   have:(oo+xs.length)*(s+1)<=els.length*(s+1):=G _ oq;rw[W]at this;simp[hu3];omega
  have hone:∀ v∈u.toList,v.oneCell'=X:=by
   intro v hv;obtain⟨k,hk⟩:=LJ hv;have hk':u[k]? = U v:=by simpa using hk
   exact hu2.2.2.1 k v hk' (by rw[<- hu3];exact(LC.1 hk').1)
  have hst:=run_storeCells_at P g (oo*(s+1)) ty u.toList 0 cs w hw (by simpa using hfit) hone;simp only[Lz]at hst;obtain⟨bg,bs,bn⟩:=β;simp only at hg g1 g2;subst hg;subst g1;subst g2;have hlen:((cs.toList.take (oo*(s+1))++u.toList++cs.toList.drop (oo*(s+1)+u.toList.length)).toArray).size=cs.size:=by
   rw[LR,Z1b hfit];simp
  have hget:∀ j,((cs.toList.take (oo*(s+1))++u.toList++cs.toList.drop (oo*(s+1)+u.toList.length)).toArray)[j]? = if j<oo*(s+1)then cs[j]? else if j<oo*(s+1)+u.size then u[j-oo*(s+1)]? else cs[j]? := by
   intro j;rw[C,Z2g hfit];simp
  have hsp:=Z8w hE1 hu2 hu3 (show oo+xs.length<=els.length by omega) hlen hget;have hput:=I.put b g (s+1) els.length cs _ ty (.arr ty (s+1) (Z0M els oo xs)) hρ hw hlen ⟨_,hb,by simp⟩ (λhe=>by
   have hl:(Z0M els oo xs).length=els.length:=Z1b oq;refine⟨rfl,hl.symm,by rw[hl];exact g3,hsp.1,.inr ⟨g,_,rfl,setRow_heap w g cs _ ty _ hw,by rw[hlen,hl];exact hszc,λi e o y hi ho=>?_⟩⟩;obtain⟨v,k1,k2⟩:=hsp.2.2.2 i e o y hi ho;exact⟨v,k1,k2.mono he (λ_ h=>h)⟩)
  refine .inl ⟨.tuple #[],_, ?_,ρ,hput.1,hput.2,λ_ _ h=>h,.tu [] #[] rfl (λi a v h=>by simp at h)⟩;have hcp:(Lw #[t] o.type #[.slice (U ⟨g,oo*(s+1),V⟩) n c']).run P w = .ok (.tuple #[]) (w.setRow g (cs.toList.take (oo*(s+1))++u.toList++cs.toList.drop (oo*(s+1)+u.toList.length)).toArray):=by
   unfold Lw;obtain⟨m,rfl⟩:∃ m,n=m+1:=⟨n-1,by omega⟩
   simp only[C,O,N,run_underlying hut,Z,M,hzr,hu,hst]
  simp[execOp,ho,resolve,hvx,invoke,builtin,hcp]
 have nil:∀ (b oo:Nat) (ty:Nat) (els:List (List DV)) (ad:Option Addr) (c':Nat),H b=U (.arr ty (s+1) els)->a.eval x = .slice ad 0 c' ->
   Goes P o a w λv w'=>Then Ow Im0 w0 ρ w Im clk (updH H b (.arr ty (s+1) (Z0M els oo (Y 0 zs)))) (.tu []) v w':=by
  intro b oo ty els ad c' hb hvx;have hsame:Z0M els oo (Y 0 zs)=els:=by simp[Z0M]
  have hupd:updH H b (.arr ty (s+1) els)=H:=by funext k;unfold updH;split<;>simp_all
  rw[hsame,hupd];refine .inl ⟨.tuple #[],w, ?_,.same I (.tu [] #[] rfl (λi a v h=>by simp at h))⟩;have hcp:(Lw #[t] o.type #[.slice ad 0 c']).run P w = .ok (.tuple #[]) w:=by
   unfold Lw;cases ad<;>simp only[C,O,N,run_underlying hut,Z,M]
  simp[execOp,ho,resolve,hvx,invoke,builtin,hcp]
 split at h
 .rename_i b hE1;rw[hE1]at hx;split at h;rotate_left
  .cases h
  rename_i ty s2 els hb;split at h;rotate_left
  .cases h
  rename_i hs2;subst hs2;generalize hvx:a.eval x=v at hx;cases hx with
  | ow hρ hc hbg ha =>
   rename_i c' ad β;obtain⟨β',h1,h2⟩:=I.blk b _ hb;rw[hρ]at h1;cases h1;have h2':=h2;obtain⟨g1,g2,_,_,_⟩:=h2;have base:Goes P o a w λv w'=>Then Ow Im0 w0 ρ w Im clk (updH H b (.arr ty (s+1) (Z0M els 0 (Y els.length zs)))) (.tu []) v w':=by
    rcases LA els.length with h0 | hpos
    .rw[h0];exact nil b 0 ty els ad c' hb (by rw[hvx,g2,h0])
    .rcases ha with ha | ⟨g,hg,rfl,hrow⟩
     .omega
     .exact fin b 0 els.length g c' ty els β hρ hb hg (by rw[hvx,g2];simp) hpos oq
   split at h
   .rename_i l' _;cases h;have p2:Z0M els 0 (Y els.length zs)=l':=by simpa[allP]using hph
    rw[<- p2];exact base
   .cases h;exact base
 .rename_i b oo n hE1;rw[hE1]at hx;split at h;rotate_left
  .cases h
  rename_i ty s2 els hb;split at h;rotate_left
  .cases h
  rename_i hs2;subst hs2;generalize hvx:a.eval x=v at hx;cases hx with
  | os hρ hn hc hbg ha =>
   rename_i c' ad β;obtain⟨β',h1,h2⟩:=I.blk b _ hb;rw[hρ]at h1;cases h1;have h2':=h2;obtain⟨g1,g2,_,_,_⟩:=h2;have base:Goes P o a w λv w'=>Then Ow Im0 w0 ρ w Im clk (updH H b (.arr ty (s+1) (Z0M els oo (Y n zs)))) (.tu []) v w':=by
    rcases LA n with h0 | hpos
    .rw[h0]at hvx ⊢;exact nil b oo ty els ad c' hb hvx
    .rcases ha with ha | ⟨g,hg,rfl,hrow⟩
     .omega
     .exact fin b oo n g c' ty els β hρ hb hg (by rw[<- g1];exact hvx) hpos oq
   split at h
   .rename_i l' _;cases h;have p2:Z0M els oo (Y n zs)=l':=by simpa[allP]using hph
    rw[<- p2];exact base
   .cases h;exact base
 .cases h
end Go.Sx
