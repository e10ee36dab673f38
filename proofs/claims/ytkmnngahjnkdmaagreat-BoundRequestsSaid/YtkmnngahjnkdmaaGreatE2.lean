/-
 The statement BoundRequests: part 2.
 Conditions: none.
-/
import Derived.Laws.Small
import Derived.Test.YtkmnngahjnkdmaaGreatE1
set_option maxRecDepth 100000
set_option maxHeartbeats 2000000
set_option linter.all false
open Option renaming some->U,none->V,map_eq_some_iff->Ll,map_some->Ls
open Bool renaming true->X,false->M,false_eq_true->O,not_true->Lo,and_eq_true->LM,not_false->LN,or_eq_false_iff->LO
open List renaming replicate->Y,getElem?_toArray->C,getElem?_cons_zero->S,getElem?_cons_succ->F,getElem?_eq_getElem->Lf,getElem?_eq_some_iff->Lk,getElem?_of_mem->Lx,length_pos_iff->Ly,getElem?_replicate->LX,getElem_mem->LY,length_append->LZ,length_nil->L0,length_replicate->L1,mem_of_getElem?->L2,mem_of_mem_drop->L3,mem_of_mem_take->L4,size_toArray->L5
open Go.Result renaming andThen_ok->Z
open Go.Sem renaming run_bind->W,run_pure->N,run_ite->LF
open Nat renaming add_mul->L,mul_le_mul_right->G,le_refl->Lr,add_zero->Lz,div_add_mod->LA,div_lt_iff_lt_mul->LB,min->LC,mod_lt->LD,beq->L6,ble->L7,eq_zero_or_pos->L8,le_of_ble_eq_true->L9,pos_of_ne_zero->Xa,zero_min->Xb
open Go.Builtin renaming zeroCells->R,append_->Lb,copy_->Lc,firstCells->Lh,lenOf->Li,nextslicecap->Lj,clear_->Lp,growBy->Lv
open Go.Addr renaming add_lit->La,add->LI
open Go.Instr renaming typeAssert->Ld,fill->Lq,indexAt->Lw,build->LP,buildSlice->LQ,fieldAt->LR,makeFunc->LS,makeSlice->LU,sliceAt->LV,sureAddr->LW
open Go.IntKind renaming i64->Le
open Array renaming range->Lg,getElem?_eq_getElem->Ln,eq_empty_of_size_eq_zero->LJ,getElem?_eq_some_iff->LK,map_empty->LL
open Option.some renaming injEq->Lm
open Go.Question renaming appendCap->Lt
open Go.Array renaming range_zero'->Lu
open Go.World renaming alloc_eq->LG,drew_eq->LH,cell?->Xc
namespace Go.Sx
def Mk(P:Program)(t f:Nat):Option Field:=match P.underlying t with|U (.struct fs)=>fs[f]? |_=>V
def Z1R(P:Program)(t f:Nat)(x:AV):Option Be:=
 match Mk P t f with|some a=>(match BG P a.type with|0=>V|_+1=>match x with|.pt b i o=>(match HY o&&HY (o+a.offset)with|X=>U ⟨.pt b i (o+a.offset),V,[]⟩|M=>V)|.rp e o=>U ⟨.rp e (o+a.offset),V,[]⟩|_=>V)|none=>V
def Z7F{P}{w:World}{t f:Nat}{a:Field}{n:Nat}(h:Mk P t f=U a)(d:BG P a.type=n+1)(g o:Nat) :(LR t (.pointer (U ⟨g,o,V⟩)) f).run P w=.ok (.pointer (U ⟨g,o+a.offset,V⟩)) w:=by unfold Mk at h;split at h;rename_i fs c;have b:=SR d pq w;simp[LR,run_underlying c,h,LW,fieldPlace,b,La];cases h
def ZaH{P:Program}{o:Oper}{id:Nat}{E:Operand->AV}{H:Heap}{r:Be}{x:Operand}{t f:Nat}(ho:o.op=.fieldAddr t x f) (h:Z1R P t f (E x)=U r):E3 P o id E H r:=by
 intro Ow a0 w0 ρ w z a1 a I _ _ hE _;have k:=hE x;unfold Z1R at h;split at h;rotate_left
 .cases h
 rename_i q d;split at h
 .cases h
 rename_i n hz;split at h
 .rename_i b i l c;split at h;rotate_left
  .cases h
  rename_i j;simp only[LM]at j;cases h;rw[c]at k;obtain⟨g,s,m,hρ,y⟩:=RL k j.1;refine .inl ⟨.pointer (U ⟨g,i*s+l+q.offset,V⟩),w,by simp[execOp,ho,y,Z7F d hz],.same I ?_⟩;have:=Zk.pt (w:=w) (Im:=z) (i:=i) (o:=l+q.offset) hρ;grind[DZ]
 .rename_i e l c;cases h;rw[c]at k;generalize y:a.eval x=v at k;cases k with
  |rp hp u hc =>
   rename_i p;refine .inl ⟨.pointer (U ⟨p.block,p.off+l+q.offset,V⟩),w,by simp[execOp,ho,y,Z7F d hz],.same I ?_⟩;have:=Zk.rp (ρ:=ρ) (o:=l+q.offset) hp u hc;grind
 .cases h
def Z2M(P:Program)(t f:Nat)(x:AV):Option Be:=
 match Mk P t f with|some a=>(match x with|.ag l=>(ND P a.type l a.offset).map λy=>⟨y,V,[]⟩|_=>V)|none=>V
def ZbA{P w t}{l:List AV}{cs:Array Value}{o:Nat}{x:AV}{ρ Im}(hn:cs.size=l.length)(f:∀(i:Nat) (u:Value),cs[i]?=U u->u.oneCell'=X)(g:∀(i:Nat) (a:AV) (u:Value),l[i]?=U a->cs[i]?=U u->Zk ρ w Im a u)(c:ND P t l o=U x):∃v,(part t cs o).run P w=.ok v w/\Zk ρ w Im x v:=by
 unfold ND at c;split at c;rename_i b;split at c
 .rename_i d;cases c;have h:(sizeOf t).run P w=.ok (BG P t) w:=by
   unfold RS at b;unfold BG;cases hi:P.info? t with|none=>grind[Program.underlying]|some i=>simp[sizeOf,typeInfo,hi]
  refine⟨.agg (cs.extract o (o+BG P t)),by simp[part,Mw b,h],.ag _ _ ?_ ?_ ?_⟩;all_goals grind[seg,Array.getElem?_extract]
 cases c;rename_i b;have e:o<cs.size:=by grind
 exact⟨cs[o],by simp[part,Mw b,e],g o x _ c (Ln e)⟩;cases c
def Zf9{P}{o:Oper}{id}{E:Operand->AV}{H}{r:Be}{x:Operand}{t f:Nat}(ho:o.op=.field t x f)(h:Z2M P t f (E x)=U r):E3 P o id E H r:=by intro Ow Im0 w0 ρ w Im clk a I _ _ hE _;have hx:=hE x;unfold Z2M at h;split at h;rotate_left;cases h;rename_i fd hfd;split at h;rotate_left;cases h;rename_i l hE';simp only[Ll]at h;obtain⟨y,hy,rfl⟩:=h;obtain⟨cs,hv,hn,hone,hc⟩:=Hx (hE'▸hx);obtain⟨v,k1,k2⟩:=ZbA (P:=P) hn hone hc hy;unfold Mk at hfd;split at hfd;rename_i fs hu;exact .inl ⟨v,w,by simp[execOp,ho,hv,Instr.field,run_underlying hu,hfd,asAgg,k1],.same I k2⟩;cases hfd
def Gq(P:Program)(t:Nat):Option Nat:=match P.underlying t with|U (.slice e)=>U e|_=>V
def Z4D(P:Program)(t:Nat):Option (Nat×Nat):=match P.underlying t with|U (.array n e)=>U (n,e)|_=>V
def Z2F(hs:List Hint)(n:Int):Int×List Prop:=match hs with|.int m::_=>(m,[n=m])|_=>(n,[])
def ZlN{hs}{n m:Int}{a:List Prop}(h:Z2F hs n=(m,a))(b:B9 a):n=m:=by unfold Z2F at h;split at h;cases h;exact b;grind
def Z0G(P:Program)(t:Nat)(hs:List Hint)(x y:AV)(H:Heap):Option Be:=
 match y with
 |.d (.sc (.int _ n))=>match Gq P t with
  |some e=>match x with
   | .d (.sl s els)=>if BG P e=s/\s≠0 then
    match hs with|.el e::_=>U ⟨.rp e 0,V,[0<=n/\els[n.toNat]?=U e]⟩|_=>V
    else V
   |.ow b=>match H b with|some (.arr _ s els)=>if BG P e=s/\s≠0 then U ⟨.pt b n.toNat 0,V,[0<=n/\n.toNat<els.length]⟩else V|_=>V
   |.os b o m=>match H b with|some (.arr _ s _)=>if BG P e=s/\s≠0 then U ⟨.pt b (o+n.toNat) 0,V,[0<=n/\n.toNat<m]⟩else V|_=>V
   |_=>V
  |none=>match Z4D P t with|some (m,e)=>(match x with|.pt b i o=>(match Z2F hs n with|(.ofNat k,ps)=>if k<m/\BG P e≠0 then(match HY o&&HY (o+k*BG P e)with|X=>U ⟨.pt b i (o+k*BG P e),V,ps⟩|M=>V)else V|_=>V)|_=>V)|none=>V
 |_=>V
def Z1P{P}{w:World}{t e:Nat}{p:Addr}{len cap:Nat}{k:IntKind}{n:Int}(a:Gq P t=U e)(g:BG P e≠0)(b:0<=n)(c:n<len) :(Lw t (.slice (U p) len cap) (.int k n)).run P w=.ok (.pointer (U (p.add (n.toNat*BG P e)))) w:=by unfold Gq at a;split at a;rename_i e' f;cases a;have d:=SR (P:=P) rfl g w;simp[Lw,run_underlying f,asIntOf,b,c,d];cases a
def addr_add{p:Addr}(hp:p.spot=V)(n:Nat):p.add n=⟨p.block,p.off+n,V⟩:=by obtain⟨b,o,s⟩:=p;grind[La]
def Zgd{P}{o:Oper}{id}{E:Operand->AV}{H:Heap}{r:Be}{x y:Operand}{t:Nat}{hs}(ho:o.op=.indexAddr t x y)(h:Z0G P t hs (E x) (E y) H=U r):E3 P o id E H r:=by
 intro Ow b2 w0 ρ w Im b3 a I _ _ hE b0;have q:=hE x;have hy:=hE y;unfold Z0G at h;split at h;rotate_left;cases h;rename_i k n a4;rw[a4]at hy;have z:=BV hy;split at h;rename_i e he;split at h
 .rename_i s els l;rw[l]at q;split at h;rotate_left;cases h;rename_i u;split at h;rotate_left;cases h;rename_i e' _;cases h;obtain⟨p1,p2⟩:0<=n/\els[n.toNat]?=U e':=by grind[B9]
  generalize hv:a.eval x=v at q;cases q with
  |d q =>
   cases q with
   |slNil s a c=>simp at p2
   |sl s els p m c f hn hc hb hs hp a7 a6 a2 =>
    have b4:n.toNat<els.length:=(Lk.1 p2).1;refine .inl ⟨.pointer (U (p.add (n.toNat*BG P e))),w,by simp[execOp,ho,hv,z,Z1P he oq p1 (show n<(m:Int)from by omega)],.same I ?_⟩;rw[addr_add hp,u.1];have:=Zk.rp (ρ:=ρ) (w:=w) (Im:=Im) (e:=e') (o:=0) (p:=⟨p.block,p.off+n.toNat*s,V⟩) rfl a7 (λj d hj=>⟨f n.toNat j,by
     grind,a2 n.toNat e' j d p2 hj⟩)
    omega
 .rename_i b l;rw[l]at q;split at h;rotate_left;cases h;rename_i ty s els hb;split at h;rotate_left;cases h;rename_i u;cases h;obtain⟨p1,p2⟩:0<=n/\n.toNat<els.length:=by grind[B9]
  generalize hv:a.eval x=v at q;cases q with|ow hρ hc a5 ha =>rename_i c ad β;obtain⟨β',h1,h2⟩:=I.blk b _ hb;rw[hρ]at h1;cases h1;obtain⟨g1,g2,_,_,_⟩:=h2;rcases ha with ha|⟨g,hg,rfl,a3⟩;omega;refine .inl ⟨.pointer (U (LI ⟨g,0,V⟩ (n.toNat*BG P e))),w,by simp[execOp,ho,hv,z,Z1P he oq p1 (show n<(β.n:Int)from by omega)],.same I ?_⟩;rw[La,u.1];obtain⟨bg,bs,bn⟩:=β;simp only at hg g1 g2;subst hg;subst g1;have:=Zk.pt (w:=w) (Im:=Im) (i:=n.toNat) (o:=0) hρ;rw[DZ rfl]at this;grind
 .rename_i b oo m l;rw[l]at q;split at h;rotate_left;cases h;rename_i ty s els hb;split at h;rotate_left;cases h;rename_i u;cases h;obtain⟨p1,p2⟩:0<=n/\n.toNat<m:=by grind[B9]
  generalize hv:a.eval x=v at q;cases q with|os hρ hn hc a5 ha =>rename_i c ad β;obtain⟨β',h1,h2⟩:=I.blk b _ hb;rw[hρ]at h1;cases h1;obtain⟨g1,g2,_,_,_⟩:=h2;rcases ha with ha|⟨g,hg,rfl,a3⟩;omega;refine .inl ⟨.pointer (U (LI ⟨g,oo*β.s,V⟩ (n.toNat*BG P e))),w,by simp[execOp,ho,hv,z,Z1P he oq p1 (show n<(m:Int)from by omega)],.same I ?_⟩;rw[La,u.1];obtain⟨bg,bs,bn⟩:=β;simp only at hg g1 g2;subst hg;subst g1;have:=Zk.pt (w:=w) (Im:=Im) (i:=oo+n.toNat) (o:=0) hρ;rw[DZ rfl,L]at this;omega
 cases h
 .split at h;rotate_left;cases h;rename_i m e he;split at h;rotate_left;cases h;rename_i b i oo l;rw[l]at q;split at h;rotate_left;cases h;rename_i k' b5 a8;split at h;rotate_left;cases h;rename_i a1;split at h;rotate_left;cases h;rename_i a0;simp only[LM]at a0;cases h;have a9:=ZlN a8 b0;subst a9;obtain⟨g,s,mm,hρ,hv⟩:=RL q a0.1;unfold Z4D at he;split at he;rename_i m' e' hu;cases he;have b1:=SR (P:=P) rfl a1.2 w;refine .inl ⟨_,w, ?_,.same I (DZ a0.2▸Zk.pt (i:=i) (o:=oo+k'*BG P e) hρ)⟩;have e1:i*s+oo+k'*BG P e=i*s+(oo+k'*BG P e):=by omega
  have hk:(k':Int)<m:=by omega
  simp[execOp,ho,hv,z,Lw,run_underlying hu,asIntOf,LW,b1,La,e1,a1.1];cases he
def Oi(P:Program)(t:Nat)(hs:List Hint)(x:AV)(H:Heap):Option Be:=
 match Gq P t with|some _=>(match x with|.d (.sl _ els)=>U (Gn .i64 els.length [] hs)|.ow b=>(match H b with|some (.arr _ _ els)=>U (Gn .i64 els.length [] hs)|_=>V)|.os _ _ n=>U (Gn .i64 n [] hs)|_=>V)|none=>V
def Zdf{P}{o:Oper}{id}{E:Operand->AV}{H:Heap}{r:Be}{x:Operand}{t:Nat}{hs}(ho:o.op=.call ⟨.builtin .len,#[x],#[t]⟩)(h:Oi P t hs (E x) H=U r):E3 P o id E H r:=by
 unfold Oi at h;split at h;rotate_left;cases h;rename_i e y;unfold Gq at y;split at y;rotate_left;cases y;rename_i e' hu;have k:∀(w:World) (a:Act) (p:Option Addr) (n c:Nat),a.eval x=.slice p n c->(execOp a.eval o).run P w=.ok (.value (.int .i64 n)) w:=by(intro w a p n c q;simp[execOp,ho,resolve,q,invoke,builtin,Builtin.len_,run_underlying hu,goInt])
 split at h;rename_i s els i;cases h;refine Hm λρ w z a l _=>?_;have g:=l x;rw[i]at g;generalize q:a.eval x=v at g;cases g with|d g =>cases g<;>grind
 .rename_i b i;split at h;rotate_left;cases h;rename_i ty s els hb;cases h;intro Ow a0 w0 ρ w z a1 a I _ _ l j;have g:=l x;rw[i]at g;generalize q:a.eval x=v at g;cases g with|ow hρ hc a2 ha =>rename_i c ad β;obtain⟨β',u,h2⟩:=I.blk b _ hb;rw[hρ]at u;cases u;obtain⟨g1,g2,_,_,_⟩:=h2;have f:=k w a _ _ _ q;rw[g2]at f;unfold Gn at j⊢;split at j;rename_i m _;obtain⟨u,_⟩:=Ha.1 j;rw[u]at f;exact .inl ⟨_,w,f,.same I (.d (.sc _ rfl))⟩;exact .inl ⟨_,w,f,.same I (.d (.sc _ rfl))⟩
 rename_i b oo n i;cases h;refine Hm λρ w z a l _=>?_;have g:=l x;rw[i]at g;generalize q:a.eval x=v at g;cases g<;>grind;cases h
def Z1C(n:Nat)(x:AV):Option Be:=match x with|.tu l=>(l[n]?).map λy=>⟨y,V,[]⟩|_=>V
def Zl4{P}{o:Oper}{id}{E:Operand->AV}{H}{r:Be}{x:Operand}{n:Nat}(k:o.op=.extract x n)(h:Z1C n (E x)=U r):E3 P o id E H r:=by
 intro Ow f w0 ρ w Im g a I _ _ i _;have c:=i x;unfold Z1C at h;split at h;rename_i l b;simp only[Ll]at h;obtain⟨y,p,rfl⟩:=h;rw[b]at c;generalize m:a.eval x=v at c;cases c with
 |tu l d hn j =>
  have e:n<d.size:=by grind
  exact .inl ⟨d[n],w,by simp[execOp,k,m,Instr.extract,e],.same I (j n y _ p (by simp[e]))⟩
 cases h
def Z16(x:AV):Option Be:=match x with|.pt b i o=>(match HY o with|X=>U ⟨.pt b i o,V,[]⟩|M=>V)|.rp e o=>U ⟨.rp e o,V,[]⟩|.fn f c=>U ⟨.fn f c,V,[]⟩|_=>V
def Zjk{P:Program}{o:Oper}{id:Nat}{E:Operand->AV}{H:Heap}{r:Be}{x:Operand}(q:o.op=.nilCheck x) (h:Z16 (E x)=U r):E3 P o id E H r:=by
 intro Ow u w0 ρ w Im y a I _ _ z _hph;have j:=z x;unfold Z16 at h;split at h<;>first|(cases h;done)|cases h|skip
 .rename_i b i oo d;split at h;rotate_left
  .cases h
  rename_i p;cases h;rw[d]at j;obtain⟨g,s,m,hρ,k⟩:=NJ j;have t:=k.trans (DZ p);exact .inl ⟨a.eval x,w,by simp[execOp,q,t],.same I j⟩
 .rename_i e oo d;rw[d]at j;generalize k:a.eval x=v at j;cases j with
  |rp hp n l=>exact .inl ⟨_,w,by simp[execOp,q,k],.same I (.rp hp n l)⟩
 .rename_i f c d;rw[d]at j;generalize k:a.eval x=v at j;cases j with
  |fn hn l=>exact .inl ⟨_,w,by simp[execOp,q,k],.same I (.fn hn l)⟩
def OB(fn:Fn)(first a:Array Operand)(E:Operand->AV):Option Be:=
 match fn,first.toList with|.func f,[]=>U ⟨.fn f (a.toList.map E),V,[]⟩|.func f,[x]=>(match a.toList with|[]=>U ⟨.fm f (E x),V,[]⟩|_=>V)|_,_=>V
theorem ZiM{P}{o:Oper}{id}{E:Operand->AV}{H}{r:Be}{fn:Fn}{first c:Array Operand}(d:o.op=.makeFunc fn first c)(h:OB fn first c E=U r):E3 P o id E H r:=by
 intro Ow e w0 ρ w Im g a I _ _ l _;unfold OB at h;split at h;rename_i f m;cases h;have:first=#[]:=by grind
 subst this;refine .inl ⟨.func (.func f) #[] (c.map a.eval),w,by simp[execOp,d,LS],.same I (.fn pq λi b v hb hv=>?_)⟩;grind;rename_i f x m;split at h;rename_i hc;cases h;have j:first=#[x]:=by grind
 have k:c=#[]:=by grind
 subst j;subst k;exact .inl ⟨.func (.func f) #[a.eval x] #[],w,by simp[execOp,d,LS],.same I (.fm (l x))⟩;cases h;cases h
def RB(P:Program)(t:Nat):Bool:=match P.underlying t with|U (.interface _)=>M|U _=>X|V=>M
def Z3G(P:Program)(t:Nat)(x:AV):Option Be:=if RB P t then U ⟨.ic t x,V,[]⟩else V
def ZbQ{P}{o:Oper}{id}{E:Operand->AV}{H}{r:Be}{x:Operand}{t:Nat}(f:o.op=.makeInterface t x)(h:Z3G P t (E x)=U r):E3 P o id E H r:=by
 intro Ow c w0 ρ w Im d a I _ _ e _;unfold Z3G at h;split at h;rename_i hc;cases h;have b:P.concrete t=X:=by grind[RB,Program.concrete]
 exact .inl ⟨_,w,by simp[execOp,f,run_makeInterface (P:=P) w t _ b],.same I (.ic (e x))⟩;cases h
def Z5d{P}{w:World}{t:Nat}{z:Value}(h:zeroOf P t=U z):(zeroValue t).run P w=.ok z w:=by unfold zeroOf at h;split at h;rename_i i a;simp[zeroValue,typeInfo,a,h];cases h
def Zjt{P}{w:World}{t xT:Nat}(a:RB P t=X)(v:Value):(Ld (.iface t v) xT t X).run P w=.ok (.tuple #[v,.bool X]) w:=by
 unfold RB at a;cases hu:P.underlying t with|none=>grind|some d=>cases d<;>simp_all[Ld,run_underlying hu]
def ZfX{P}{w:World}{t u xT:Nat}{z:Value}(a:RB P t=X)(b:zeroOf P t=U z)(hn:u≠t)(v:Value):(Ld (.iface u v) xT t X).run P w=.ok (.tuple #[z,.bool M]) w:=by
 unfold RB at a;cases hu:P.underlying t with|none=>grind|some d=>cases d<;>simp_all[Ld,run_underlying hu,Z5d b]
def Zb5{P}{w:World}{t xT:Nat}{z:Value}(a:RB P t=X)(b:zeroOf P t=U z):(Ld .nilIface xT t X).run P w=.ok (.tuple #[z,.bool M]) w:=by
 unfold RB at a;cases hu:P.underlying t with|none=>grind|some d=>cases d<;>simp_all[Ld,run_underlying hu,Z5d b]
def noT(z:Value):AV:=.tu [cv z,.d (.sc (.bool M))]
def Z1x(P:Program)(t:Nat)(ok:Bool)(x:AV):Option Be:=
 match RB P t,ok,zeroOf P t with|true,true,some z=>(match x with|.ic u a=>(match L6 u t with|true=>U ⟨.tu [a,.d (.sc (.bool X))],V,[]⟩|false=>U ⟨noT z,V,[]⟩)|.d (.sc .nilIface)=>U ⟨noT z,V,[]⟩|_=>V)|_,_,_=>V
def Z1I{ρ w Im a b x y}(h:Zk ρ w Im a x)(k:Zk ρ w Im b y):Zk ρ w Im (.tu [a,b]) (.tuple #[x,y]):=by refine .tu _ _ rfl λi c v hc hv=>?_;grind
def Zk6{P}{o:Oper}{id}{E:Operand->AV}{H}{r:Be}{x:Operand}{xT t:Nat}{ok:Bool}(f:o.op=.typeAssert x xT t ok)(h:Z1x P t ok (E x)=U r):E3 P o id E H r:=by
 intro Ow k w0 ρ w Im l a I _ _ n _;unfold Z1x at h;split at h;rotate_left;cases h;rename_i z e j;have c:=n x;split at h;rename_i u b g;rw[g]at c;generalize i:a.eval x=v at c;cases c with|ic c =>split at h;rename_i d;cases h;obtain rfl:=Nat.eq_of_beq_eq_true d;exact .inl ⟨_,w,by simp[execOp,f,i,Zjt (w:=w) (xT:=xT) e],.same I (Z1I c (.d (.sc _ rfl)))⟩;rename_i d;cases h;exact .inl ⟨_,w,by simp[execOp,f,i,ZfX (w:=w) (xT:=xT) e j (Nat.ne_of_beq_eq_false d)],.same I (Z1I (Rl _ _ _ _) (.d (.sc _ rfl)))⟩
 rename_i g;cases h;have m:=BV (g▸c);exact .inl ⟨_,w,by simp[execOp,f,m,Zb5 (w:=w) (xT:=xT) e j],.same I (Z1I (Rl _ _ _ _) (.d (.sc _ rfl)))⟩;cases h
def D3(c:Bool)(hs:List Hint)(x y:AV):Option Be:=match x with|.d (.sc (.int k a))=>(match y with|.d (.sc (.int _ b))=>(match c with|true=>U (Gn k (if b > a then b else a) [] hs)|false=>U (Gn k (if b<a then b else a) [] hs))|_=>V)|_=>V
def Zh9{P}{o:Oper}{id}{E:Operand->AV}{H}{r:Be}{x y:Operand}{t t':Nat}{hs}(e:o.op=.call ⟨.builtin .max,#[x,y],#[t,t']⟩)(h:D3 X hs (E x) (E y)=U r):E3 P o id E H r:=by unfold D3 at h;split at h;rename_i k a f;split at h;rename_i k' b g;cases h;refine Hm λρ w Im s hE _=>?_;have c:=BV (f▸hE x);have d:=BV (g▸hE y);simp[execOp,e,resolve,c,d,invoke,builtin,run_max_int2];cases h;cases h
def Zkw{P}{o:Oper}{id}{E:Operand->AV}{H}{r:Be}{x y:Operand}{t t':Nat}{hs}(e:o.op=.call ⟨.builtin .min,#[x,y],#[t,t']⟩)(h:D3 M hs (E x) (E y)=U r):E3 P o id E H r:=by unfold D3 at h;split at h;rename_i k a f;split at h;rename_i k' b g;cases h;refine Hm λρ w Im s hE _=>?_;have c:=BV (f▸hE x);have d:=BV (g▸hE y);simp[execOp,e,resolve,c,d,invoke,builtin,run_min_int2];cases h;cases h
def Zfv{w Im}{s:Nat}{els:List (List DV)}{a:Option Addr}{n c l h:Nat}(hx:CM w Im (.sl s els) (.slice a n c))(h1:l<=h)(v:h<=els.length)(m:Nat)(u:m=s\/els=[]) :n=els.length/\n<=c\/els=[]->CM w Im (.sl s ((els.drop l).take (h-l))) (.slice (if c=l then a else a.map (·.add (l*m))) (h-l) (c-l)):=by
 intro _;by_cases y:h-l=0;rw[y];simpa using CM.slNil s _ _;cases hx with
 |slNil=>simp at v;omega
 |sl s els p n c f hn hc hb hs z r d j =>
  have k:m=s:=by(rcases u with h|h;exact h;subst h;simp at v;omega)
  subst k;rw[if_neg oq];simp only[Ls];rw[addr_add z];have g:∀i e,((els.drop l).take (h-l))[i]?=U e->els[l+i]?=U e:=by(intro i e b;rw[List.getElem?_take]at b;split at b;rwa [List.getElem?_drop]at b;cases b)
  refine .sl m _ _ _ _ (λi o=>f (l+i) o) qo oq oq (λe q=>hs e (L3 (L4 q))) rfl r ?_ ?_;intro i e o x b t;have:=d (l+i) e o x (g i e b) t;rw[L]at this;simpa[Nat.add_assoc]using this;intro i e o x b t;exact j (l+i) e o x (g i e b) t
def bnd(d:Int):Option AV->Option Int|none=>U d|some (.d (.sc (.int _ n)))=>U n|_=>V
def sub(els:List (List DV))(b a:Option AV)(l h:Int):List (List DV):=
 match b,a with|none,none=>els|some _,none=>els.drop l.toNat|none,some _=>els.take h.toNat|some _,some _=>(els.drop l.toNat).take (h.toNat-l.toNat)
def slP(b a:Option AV)(l h n:Int):List Prop:=
 match b,a with|none,none=>[]|some _,none=>[0<=l/\l<=n]|none,some _=>[0<=h/\h<=n]|some _,some _=>[0<=l/\l<=h/\h<=n]
def Z07(P:Program)(t:Nat)(hs:List Hint)(x:AV)(c a:Option AV)(H:Heap):Option Be:=
 match Gq P t with
 |none=>V
 |some e=>match x with
  | .d (.sl s els)=>if BG P e=s then
   match bnd 0 c,bnd els.length a with|some l,some h=>(match hs with|.els l'::_=>U ⟨.d (.sl s l'),V,slP c a l h els.length++[sub els c a l h=l']⟩|_=>U ⟨.d (.sl s (sub els c a l h)),V,slP c a l h els.length⟩)|_,_=>V
   else V
  |.ow b=>match H b with
   | some (.arr _ s els)=>if BG P e=s then
    match bnd 0 c,bnd els.length a with|some l,some h=>U ⟨.os b l.toNat (h.toNat-l.toNat),V,slP c a l h els.length⟩|_,_=>V
    else V
   |_=>V
  |.os b o n=>match H b with
   | some (.arr _ s _)=>if BG P e=s then
    match bnd 0 c,bnd n a with|some l,some h=>U ⟨.os b (o+l.toNat) (h.toNat-l.toNat),V,slP c a l h n⟩|_,_=>V
    else V
   |_=>V
  |_=>V
def Z2t{P:Program}{e}(a:(P.info? e).isSome=X)(w:World):(sizeOf e).run P w=.ok (BG P e) w:=by obtain⟨i,b⟩:=Option.isSome_iff_exists.1 a;simp[sizeOf,typeInfo,b,BG]
def Zlr{P}{w:World}{t e:Nat}{a:Option Addr}{n c l h:Nat}{i f:Option Value}(b:Gq P t=U e)(m:(P.info? e).isSome=X)(g:i=V/\l=0\/∃k,i=U (.int k l))(d:f=V/\h=n\/∃k,f=U (.int k h))(j:l<=h)(h2:h<=n)(h3:n<=c) :(LV t (.slice a n c) i f V).run P w=.ok (.slice (if c=l then a else a.map (·.add (l*BG P e))) (h-l) (c-l)) w:=by
 unfold Gq at b;split at b;rotate_left;cases b;rename_i e' p;cases b;have o:=Z2t m w;have c1:h<=c:=by omega
 rcases g with⟨rfl,rfl⟩|⟨k,rfl⟩<;>rcases d with⟨rfl,rfl⟩|⟨k',rfl⟩ <;>
  simp[LV,Instr.slice,run_underlying p,Instr.sliceBounds,Instr.sliceBound,asIntOf,o,c1,j]
def Z4q{d}{x:Option AV}{n:Int}(h:bnd d x=U n):(x=V/\n=d)\/∃k,x=U (.d (.sc (.int k n))):=by unfold bnd at h;split at h;cases h;exact .inl ⟨rfl,rfl⟩;cases h;exact .inr ⟨_,rfl⟩;cases h
def Z26{d c l h n}(a:B9 (slP d c l h n))(h0:0<=n)(hl:d=V->l=0)(b:c=V->h=n):0<=l/\l<=h/\h<=n:=by unfold slP at a;split at a;have:=hl rfl;have:=b rfl;omega;have:=b rfl;simp[B9]at a;omega;have:=hl rfl;simp[B9]at a;omega;simp[B9]at a;omega
def ZlI{els:List (List DV)}{c b:Option AV}{l h:Int}(h0:0<=l)(hl:c=V->l=0)(a:b=V->h=els.length):sub els c b l h=(els.drop l.toNat).take (h.toNat-l.toNat):=by unfold sub;split;have:=hl rfl;have:=a rfl;subst_vars;simp;have:=a rfl;subst this;simp;rw[List.take_of_length_le pq];have:=hl rfl;subst this;simp;rfl
theorem ZiI{P}{o:Oper}{id}{E:Operand->AV}{H:Heap}{r:Be}{x:Operand}{lo hi:Option Operand}{t:Nat}{hs}(ho:o.op=.slice t x lo hi V)(a5:∀e,Gq P t=U e->(P.info? e).isSome=X)(h:Z07 P t hs (E x) (lo.map E) (hi.map E) H=U r):E3 P o id E H r:=by
 intro Ow a7 w0 ρ w Im a8 a I _ _ hE a3;have hx:=hE x;unfold Z07 at h;split at h;cases h;rename_i e he;have b0:=a5 e he;have b2:∀(d l:Int),bnd d (lo.map E)=U l->0<=l->(lo.map a.eval=V/\l=d)\/∃k,lo.map a.eval=U (.int k (l.toNat:Int)):=by
  intro d l hb h0;rcases Z4q hb with⟨j,h2⟩|⟨k,j⟩;cases lo with|none=>exact .inl ⟨rfl,h2⟩|some y=>simp at j
  cases lo with|none=>simp at j|some y =>simp only[Ls,Lm]at j;have:=BV (j▸hE y);exact .inr ⟨k,by simp[this];omega⟩
 have b1:∀(d l:Int),bnd d (hi.map E)=U l->0<=l->(hi.map a.eval=V/\l=d)\/∃k,hi.map a.eval=U (.int k (l.toNat:Int)):=by
  intro d l hb h0;rcases Z4q hb with⟨j,h2⟩|⟨k,j⟩;cases hi with|none=>exact .inl ⟨rfl,h2⟩|some y=>simp at j
  cases hi with|none=>simp at j|some y =>simp only[Ls,Lm]at j;have:=BV (j▸hE y);exact .inr ⟨k,by simp[this];omega⟩
 have i:∀{d l:Int} {y:Option AV},bnd d y=U l->y=V->l=d:=by(intro d l y hb hy;subst hy;simp[bnd]at hb;exact hb.symm)
 have run:∀(p:Option Addr) (n c:Nat) (l h:Int),a.eval x=.slice p n c->n<=c->bnd 0 (lo.map E)=U l->bnd (n:Int) (hi.map E)=U h->0<=l->l<=h->h<=n ->
   (execOp a.eval o).run P w=.ok (.value (.slice (if c=l.toNat then p else p.map (·.add (l.toNat*BG P e))) (h.toNat-l.toNat) (c-l.toNat))) w:=by
  intro p n c l h hv hc hl hh j h2 h3;have e1:=b2 0 l hl j;have e2:=b1 n h hh oq;have:=Zlr (P:=P) (w:=w) (a:=p) (n:=n) (c:=c) (l:=l.toNat) (h:=h.toNat) he b0 (e1.imp (λ⟨p,q⟩=>⟨p,by omega⟩) (λh=>h)) (e2.imp (λ⟨p,q⟩=>⟨p,by omega⟩) (λh=>h)) oq oq hc;simp[execOp,ho,hv,this]
 split at h
 .rename_i s els a0;rw[a0]at hx;split at h;rotate_left;cases h;rename_i a2;split at h;rotate_left;cases h;rename_i l hh z u;have fin:B9 (slP (lo.map E) (hi.map E) l hh els.length)->Goes P o a w λv w'=>EY Ow a7 w0 ρ w Im a8 H (.d (.sl s (sub els (lo.map E) (hi.map E) l hh))) v w':=by
   intro hp;obtain⟨p1,p2,p3⟩:=Z26 hp oq (i z) (i u);rw[ZlI p1 (i z) (i u)];generalize hv:a.eval x=v at hx;cases hx with
   |d hx =>
    have a6:∃p n c,v=.slice p n c/\n=els.length/\n<=c:=by
     cases hx with|slNil s p c=>exact⟨p,0,c,rfl,rfl,Nat.zero_le _⟩|sl s els p n c f hn hc=>exact⟨U p,n,c,rfl,hn.symm,hc⟩
    obtain⟨p,n,c,rfl,hn,hc⟩:=a6;refine .inl ⟨_,w,run p n c l hh hv hc z (by rw[hn];exact u) p1 p2 oq,.same I (.d ?_)⟩;exact Zfv hx oq oq (BG P e) (.inl a2) (.inl ⟨hn,hc⟩)
  split at h;rename_i l' _;cases h;obtain⟨p1,p2⟩:=Hk.1 a3;have b3:sub els (lo.map E) (hi.map E) l hh=l':=by simpa[B9]using p2
  have:=fin p1;rw[b3]at this;exact this;cases h;exact fin a3
 .rename_i b a0;rw[a0]at hx;split at h;rotate_left;cases h;rename_i ty s els hb;split at h;rotate_left;cases h;rename_i a2;split at h;rotate_left;cases h;rename_i l hh z u;cases h;obtain⟨p1,p2,p3⟩:=Z26 a3 oq (i z) (i u);generalize hv:a.eval x=v at hx;cases hx with
  |ow hρ hc a9 ha =>
   rename_i c ad β;obtain⟨β',j,h2⟩:=I.blk b _ hb;rw[hρ]at j;cases j;obtain⟨g1,g2,_,_,_⟩:=h2;refine .inl ⟨_,w,run ad β.n c l hh hv hc z (by rw[g2];exact u) p1 p2 oq,.same I (.os hρ oq oq oq ?_)⟩;rcases ha with ha|⟨g,hg,rfl,a1⟩;exact .inl oq;by_cases a4:c=l.toNat
   exact .inl oq;refine .inr ⟨g,hg,by rw[if_neg a4];simp[La,a2,g1], ?_⟩;rw[show l.toNat+(c-l.toNat)=c from by omega];exact a1
 .rename_i b oo m a0;rw[a0]at hx;split at h;rotate_left;cases h;rename_i ty s els hb;split at h;rotate_left;cases h;rename_i a2;split at h;rotate_left;cases h;rename_i l hh z u;cases h;obtain⟨p1,p2,p3⟩:=Z26 a3 oq (i z) (i u);generalize hv:a.eval x=v at hx;cases hx with
  |os hρ hn hc a9 ha =>
   rename_i c ad β;obtain⟨β',j,h2⟩:=I.blk b _ hb;rw[hρ]at j;cases j;obtain⟨g1,g2,_,_,_⟩:=h2;refine .inl ⟨_,w,run ad m c l hh hv hc z u p1 p2 oq,.same I (.os hρ oq oq oq ?_)⟩;rcases ha with ha|⟨g,hg,rfl,a1⟩;exact .inl oq;by_cases a4:c=l.toNat
   exact .inl oq;refine .inr ⟨g,hg,by rw[if_neg a4];simp[La,a2,g1,L], ?_⟩;rw[show oo+l.toNat+(c-l.toNat)=oo+c from by omega];exact a1
 cases h
def foldl_set(u:List Value):∀(off k:Nat) (cells:Array Value),off+k+u.length<=cells.size -> ((u.zipIdx k).foldl (λcs (p:Value×Nat)=>cs.setIfInBounds (off+p.2) p.1) cells).size=cells.size /\
  ∀j,((u.zipIdx k).foldl (λcs (p:Value×Nat)=>cs.setIfInBounds (off+p.2) p.1) cells)[j]?=if j<off+k then cells[j]? else if j<off+k+u.length then u[j-(off+k)]? else cells[j]?:=by
 induction u with
 |nil=>simp_all
 |cons x u a =>
  intro off k cells h;simp only[List.length_cons]at h;have:=a off (k+1) (cells.setIfInBounds (off+k) x) qo;grind[List.zipIdx_cons]
def Z99(v:Value)(off:Nat)(cells:Array Value)(h:off+v.cells.size<=cells.size) :(v.cells.zipIdx.foldl (λcs (p:Value×Nat)=>cs.setIfInBounds (off+p.2) p.1) cells).size=cells.size /\
  ∀j,(v.cells.zipIdx.foldl (λcs (p:Value×Nat)=>cs.setIfInBounds (off+p.2) p.1) cells)[j]?=if j<off then cells[j]? else if j<off+v.cells.size then v.cells[j-off]? else cells[j]?:=by
 have e:v.cells.zipIdx.foldl (λcs (p:Value×Nat)=>cs.setIfInBounds (off+p.2) p.1) cells=(v.cells.toList.zipIdx 0).foldl (λcs (p:Value×Nat)=>cs.setIfInBounds (off+p.2) p.1) cells:=by
  rw[<-Array.foldl_toList];simp
 have:=foldl_set v.cells.toList off 0 cells (by simpa using h);grind
def AU(place:Nat->Option (Nat×Nat))(l:List AV):List (Nat×AV)->Option (List AV)|[]=>U l|(i,x)::r=>match place i,x.cells with|some (off,size),some xs=>if xs.length=size/\off+size<=l.length then AU place (splice l off xs) r else V|_,_=>V
def ON(ρ:ZM)(w:World)(Im:Nat->Prop)(l:List AV)(cs:Array Value):Prop:=
 cs.size=l.length/\(∀(i:Nat) (v:Value),cs[i]?=U v->v.oneCell'=X)/\∀(i:Nat) (a:AV) (v:Value),l[i]?=U a->cs[i]?=U v->Zk ρ w Im a v
def Z2x{ρ:ZM}{w:World}{Im:Nat->Prop}{place}:∀{parts:List (Nat×AV)} {vals:List (Nat×Value)} {l d:List AV} {cs:Array Value},
  parts.length=vals.length->(∀(k:Nat) (p:Nat×AV) (q:Nat×Value),parts[k]?=U p->vals[k]?=U q->p.1=q.1/\Zk ρ w Im p.2 q.2)->ON ρ w Im l cs->AU place l parts=U d ->
  ∃cs',Lq place cs vals=U cs'/\ON ρ w Im d cs'
 |[],vals,l,d,cs,hn,_,e,h=>by
  cases vals with|nil=>simp[AU]at h;subst h;exact⟨cs,rfl,e⟩|cons _ _=>simp at hn
 |(i,x)::parts,vals,l,d,cs,hn,hp,e,h=>by
  cases vals with
  |nil=>simp at hn
  |cons q vals =>
   obtain⟨i',v⟩:=q;obtain⟨g,j⟩:=hp 0 _ _ rfl rfl;simp only at g j;subst g;simp only[AU]at h;split at h;rotate_left
   .cases h
   rename_i a size m r f;split at h;rotate_left
   .cases h
   rename_i hc;obtain⟨c1,c2,c3⟩:=j.cells f;obtain⟨r1,r2,r3⟩:=e;have b:a+v.cells.size<=cs.size:=by omega
   have n:a+m.length<=l.length:=by omega
   have t:=Z99 v a cs b;have c:ON ρ w Im (splice l a m) (v.cells.zipIdx.foldl (λcs (p:Value×Nat)=>cs.setIfInBounds (a+p.2) p.1) cs):=by
    refine⟨?_, ?_, ?_⟩
    .grind[splice]
    .grind
    .grind[splice]
   obtain⟨cs',h3,h4⟩:=Z2x (place:=place) (by simpa using hn) (λk p q o s=>hp (k+1) p q (by simpa using o) (by simpa using s)) c h;grind[Lq]
def Z5y{P:Program}{w:World}{α β:Type}(f:α->Sem β)(g:α->β):∀(l:List α),(∀x∈l,(f x).run P w=.ok (g x) w)->(l.mapM f).run P w=.ok (l.map g) w
 |[],_=>rfl
 |x::l,h=>by
  rw[List.mapM_cons];simp[h x pq,Z5y f g l (λy a=>h y (by simp[a]))]
def run_places{P:Program}{w:World}(a:Array Field)(h:∀f∈a.toList,(P.info? f.type).isSome=X) :(a.mapM λf=>do pure (f.offset,<-sizeOf f.type):Sem (Array (Nat×Nat))).run P w=.ok (a.map λf=>(f.offset,BG P f.type)) w:=by
 obtain⟨l⟩:=a;rw[List.mapM_toArray];have:=Z5y (P:=P) (w:=w) (λf:Field=>(do pure (f.offset,<-sizeOf f.type):Sem (Nat×Nat))) (λf=>(f.offset,BG P f.type)) l (λf b=>by
  simp[Z2t (h f b) w])
 simp_all
def Z2g(P:Program)(a:List Field)(i:Nat):Option (Nat×Nat):=match a[i]? with|U f=>U (f.offset,BG P f.type)|V=>V
def ghC(f:Nat->Option Nat):Nat->List Value->List AV|_,[]=>[]|i,v::l=>(match v,f i with|.slice V 0 0,U g=>.ow g|v,_=>cv1 v)::ghC f (i+1) l
def ghF(id k i:Nat):Option Nat:=match L6 i k with|X=>U id|M=>V
def ghA(id:Nat)(z:Value):List Hint->Option (List AV×Option (Nat×Z3))|.gh ty s::.int (.ofNat k)::_=>(match z with|.agg cs=>(match M2 cs.toList with|true=>U (ghC (ghF id k) 0 cs.toList,U (id,.arr ty s []))|false=>V)|_=>V)|_=>(cv z).cells.map λl=>(l,V)
def Z1r{f}:∀{l:List Value} {i:Nat},(ghC f i l).length=l.length/\∀(j:Nat) (a:AV) (v:Value),(ghC f i l)[j]?=U a->l[j]?=U v->a=cv1 v\/∃g,f (i+j)=U g/\a=.ow g/\v=.slice V 0 0
 |[],_=>by simp[ghC]
 |v::l,i=>by
  obtain⟨d,e⟩:=Z1r (f:=f) (l:=l) (i:=i+1);refine⟨by simp[ghC,d],λj a u b c=>?_⟩;cases j with
  |zero =>
   simp only[ghC,S,Lm]at b c;grind
  |succ j=>rw[show i+(j+1)=i+1+j from by omega];exact e j a u (by simpa[ghC]using b) (by simpa using c)
def Zc6{Ow:Own}{Im0:Nat->Prop}{w0 w:World}{ρ:ZM}{Im:Nat->Prop}{H:Heap}{clk id:Nat}{z:Value}{hs:List Hint}{l0:List AV}{up:Option (Nat×Z3)}(I:Inv Ow Im0 w0 ρ w Im H clk)(m:clk*8000<=id)(p:H id=V)(h:ghA id z hs=U (l0,up)) :∃ρ',Inv Ow Im0 w0 ρ' w Im (Be.heap ⟨.any,up,[]⟩ H) clk/\(∀b β,ρ b=U β->ρ' b=U β)/\ON ρ' w Im l0 z.cells:=by
 unfold ghA at h;split at h
 .rename_i ty s k _;split at h;rotate_left
  .cases h
  rename_i n;split at h;rotate_left
  .cases h
  rename_i d;cases h;simp only[M2,List.all_eq_true]at d;have t:∀(i:Nat) (u:Value),n[i]?=U u->u.oneCell'=X:=λi u q=>d u (by grind);obtain⟨c1,c2⟩:=Z1r (f:=ghF id k) (l:=n.toList) (i:=0);have r:(Value.agg n).cells=n:=rfl;rw[r];refine⟨Cd ρ id ⟨V,s,0⟩,Oa I m p,Hj (I.fresh id m p),by simp[c1],t,λi a u v q=>?_⟩;rcases c2 i a u v (by simpa using q)with rfl|⟨g,o,rfl,rfl⟩
  .grind[Z0p]
  .unfold ghF at o;split at o
   .cases o;exact Zk.ow (c:=0) (a:=V) (I9 ρ id ⟨V,s,0⟩) (Lr _) (by simp[big]) (.inl rfl)
   .cases o
 .simp only[Ll]at h;obtain⟨l,x,e⟩:=h;cases e;have j:=(Rl ρ w Im z).cells x;exact⟨ρ,I,λ_ _ h=>h,j.1,j.2.2,j.2.1⟩
def Z2I(P:Program)(t id:Nat)(hs:List Hint)(parts:List (Nat×AV)):Option Be:=
 match zeroOf P t with|none=>V|some z=>match ghA id z hs with|none=>V|some (l0,up)=>match P.underlying t with|some (.struct fs)=>if fs.toList.all (λf=>(P.info? f.type).isSome)then(AU (Z2g P fs.toList) l0 parts).map λl=>⟨.ag l,up,[]⟩else V|some (.array _ e)=>if(P.info? e).isSome then(AU (λi=>U (i*BG P e,BG P e)) l0 parts).map λl=>⟨.ag l,up,[]⟩else V|_=>V
def Dk{P}{t:Nat}{z:Value}(h:zeroOf P t=U z)(w:World):(zeroValue t).run P w=.ok z w:=by unfold zeroOf at h;split at h;rename_i i a;simp[zeroValue,typeInfo,a,h];cases h
def Zbm{P:Program}{o:Oper}{id:Nat}{E:Operand->AV}{H:Heap}{r:Be}{t:Nat}{parts:Array (Nat×Operand)}{hs:List Hint}(ho:o.op=.build t parts) (h:Z2I P t id hs (parts.toList.map λp=>(p.1,E p.2))=U r):E3 P o id E H r:=by
 intro Ow Im0 w0 ρ0 w Im clk a I0 hid hH hE0 _;unfold Z2I at h;split at h
 .cases h
 rename_i z hz;split at h
 .cases h
 rename_i l0 up hl0;obtain⟨ρ,I,hsub,hrel0⟩:=Zc6 I0 hid hH hl0;have hzr:=Dk (P:=P) hz w;have hE:∀x,Zk ρ w Im (E x) (a.eval x):=λx=>(hE0 x).mono (Ext.refl _ _) (λ_ h=>h) hsub I0.bnd;have hparts:∀(k:Nat) (p:Nat×AV) (q:Nat×Value),(parts.toList.map λp=>(p.1,E p.2))[k]?=U p->(parts.toList.map λp=>(p.1,a.eval p.2))[k]?=U q->p.1=q.1/\Zk ρ w Im p.2 q.2:=by grind
 split at h
 .rename_i fs hu;split at h;rotate_left
  .cases h
  rename_i hall;simp only[Ll]at h;obtain⟨l,hl,rfl⟩:=h;obtain⟨cs,h1,h2⟩:=Z2x (vals:=parts.toList.map λp=>(p.1,a.eval p.2)) pq hparts hrel0 hl;have hpl:=run_places (P:=P) (w:=w) fs (λf hf=>by grind);have hpeq:(λi=>(fs.map λf=>(f.offset,BG P f.type))[i]?)=Z2g P fs.toList:=by grind[Z2g]
  refine .inl ⟨.agg cs,w, ?_,ρ,I,Ext.refl _ _,hsub,.ag l cs h2.1 h2.2.1 h2.2.2⟩;simp only[execOp,ho,LP,W,hzr,Z,run_underlying hu,hpl,hpeq];simp[h1]
 .rename_i n e hu;split at h;rotate_left
  .cases h
  rename_i hall;simp only[Ll]at h;obtain⟨l,hl,rfl⟩:=h;obtain⟨cs,h1,h2⟩:=Z2x (vals:=parts.toList.map λp=>(p.1,a.eval p.2)) pq hparts hrel0 hl;refine .inl ⟨.agg cs,w, ?_,ρ,I,Ext.refl _ _,hsub,.ag l cs h2.1 h2.2.1 h2.2.2⟩;simp only[execOp,ho,LP,W,hzr,Z,run_underlying hu,Z2t hall w];simp[h1]
 .cases h
def Hi(w:World)(Im:Nat->Prop)(s:Nat)(els:List (List DV))(cs:Array Value):Prop:=
 (∀e∈els,e.length=s)/\els.length*s<=cs.size/\(∀(i:Nat) (v:Value),cs[i]?=U v->i<els.length*s->v.oneCell'=X) /\
  ∀(i:Nat) (e:List DV) (o:Nat) (x:DV),els[i]?=U e->e[o]?=U x->∃v,cs[i*s+o]?=U v/\CM w Im x v
def EY.arr{Ow:Own}{Im0:Nat->Prop}{w0:World}{ρ:ZM}{w:World}{Im:Nat->Prop}{clk:Nat}{H:Heap}{id ty s:Nat}{els:List (List DV)}{cs:Array Value}{c:Nat}(I:Inv Ow Im0 w0 ρ w Im H clk) (hid:clk*8000<=id) (hH:H id=V) (h:Hi w Im s els cs) (hb:els.length<=big) (hc:els.length<=c) (hcs:c*s<=cs.size) :EY Ow Im0 w0 ρ w Im clk (Bm H id (.arr ty s els)) (.ow id) (.slice (U ⟨w.heap.size,0,V⟩) els.length c) (w.alloc (.cells cs ty)):=by
 have hsub:=Hj (β:=⟨U w.heap.size,s,els.length⟩) (I.fresh id hid hH);have he:=Ext.alloc Im w (.cells cs ty) I.imb;obtain⟨h1,h2,_,h4⟩:=h;refine⟨Cd ρ id ⟨U w.heap.size,s,els.length⟩,I.add id hid hH cs ty s els.length _ ?_,he,hsub, ?_⟩
 .exact⟨rfl,rfl,hb,h1,.inr ⟨w.heap.size,cs,rfl,heap_alloc_new _ _,h2,λi e o x hi ho=>let ⟨v,k1,k2⟩:=h4 i e o x hi ho;⟨v,k1,k2.mono he (λ_ h=>h)⟩⟩⟩
 .have:=Zk.ow (ρ:=Cd ρ id ⟨U w.heap.size,s,els.length⟩) (w:=w.alloc (.cells cs ty)) (Im:=Im) (c:=c) (a:=U ⟨w.heap.size,0,V⟩) (I9 ρ id ⟨U w.heap.size,s,els.length⟩) hc hb
   (.inr ⟨w.heap.size,rfl,rfl,by grind[Sx.rows,heap_alloc_new]⟩)
  exact this
def Z40(z:Array Value)(n s:Nat)(b:z.size=s)(i o:Nat)(a:o<s)(e:i<n) :((Lg (n*s)).map (z[· % z.size]!))[i*s+o]?=z[o]?:=by
 have c:i*s+o<n*s:=by
  have:(i+1)*s<=n*s:=G s e;rw[L]at this;omega
 have d:(i*s+o)%z.size=o:=by
  rw[b,Nat.add_comm,Nat.add_mul_mod_self_right,Nat.mod_eq_of_lt a]
 simp only[Array.getElem?_map,Array.getElem?_range,c,if_true,Ls,d];rw[Array.getElem!_eq_getD,Ln oq];simp[Array.getD,b,a]
theorem Z0n{w Im z}{c:List DV}{l:List AV}{s:Nat}(n:Nat)(hl:(cv z).cells=U l)(hz:So l=U c)(hs:c.length=s) :Hi w Im s (Y n c) ((Lg (n*s)).map (z.cells[· % z.cells.size]!)):=by
 have t:=(Rl (λ_=>V) w Im z).cells hl;have e:=AA hz;have b:z.cells.size=s:=by grind[Eg]
 refine⟨λe he=>by grind,by simp, ?_, ?_⟩;intro i v y j;simp only[L1]at j;have a:0<s:=by grind
 have f:i=i/s*s+i%s:=by grind[LA]
 have u:i/s<n:=by rw[LB a];exact j
 rw[f,Z40 z.cells n s b (i/s) (i%s) (LD _ a) u]at y;grind;intro i r o x j ho;have k:i<n:=by grind
 have g:r=c:=by grind
 subst g;have q:o<s:=by grind
 have p:o<z.cells.size:=by omega
 refine⟨z.cells[o],by rw[Z40 z.cells n s b i o q k];grind, ?_⟩;have m:l[o]?=U (.d x):=by grind[Eg]
 have:=t.2.1 o _ _ m (Ln p);cases this with|d h=>exact h
def R5(P:Program)(e:Nat):Option (List DV):=match zeroOf P e with|U z=>(match (cv z).cells with|U l=>So l|V=>V)|V=>V
def Z2h(P:Program)(t id:Nat)(hs:List Hint)(x y:AV):Option Be:=
 match Gq P t with
 |none=>V
 |some e=>match R5 P e with
  |none=>V
  |some a=>match bytesOf P e,BG P e with
   | b+1,s+1=>if a.length=s+1 then
    match x,y with|.d (.sc (.int _ n)),.d (.sc (.int _ c))=>(match hs with|.els l'::_=>U ⟨.ow id,U (id,.arr e (s+1) l'),[0<=n/\n<=c/\c*(b+1)<=2^48,Y n.toNat a=l']⟩|_=>U ⟨.ow id,U (id,.arr e (s+1) (Y n.toNat a)),[0<=n/\n<=c/\c*(b+1)<=2^48]⟩)|_,_=>V
    else V
   |_,_=>V
def ZiA{P}{o:Oper}{id}{E:Operand->AV}{H}{r:Be}{x y:Operand}{t:Nat}{hs}(ho:o.op=.makeSlice t x y)(h:Z2h P t id hs (E x) (E y)=U r):E3 P o id E H r:=by
 intro Ow Im0 w0 ρ w Im clk a I hid hH hE hph;unfold Z2h at h;split at h;cases h;rename_i e he;split at h;cases h;rename_i zs hzs;split at h;rotate_left;cases h;rename_i b s hb hsz;split at h;rotate_left;cases h;rename_i hlen;split at h;rotate_left;cases h;rename_i k n k' c hx hy;have v1:=BV (hx▸hE x);have v2:=BV (hy▸hE y);have fin:0<=n/\n<=c/\c*(b+1)<=2^48->Goes P o a w λv w'=>EY Ow Im0 w0 ρ w Im clk (Bm H id (.arr e (s+1) (Y n.toNat zs))) (.ow id) v w':=by
  rintro⟨p1,p2,p3⟩;have pc:c<=c*(b+1):=by(rw[Int.mul_add,Int.mul_one];have:0<=c*(b:Int):=Int.mul_nonneg oq oq;omega)
  unfold R5 at hzs;split at hzs;rotate_left;cases hzs;rename_i z hz;split at hzs;rotate_left;cases hzs;rename_i l hl;have hzr:=Dk (P:=P) hz w;unfold Gq at he;split at he;rotate_left;cases he;rename_i e' hu;cases he;have hw1:Le.wrap n=n:=IntWalk.i64_in _ oq;have hw2:Le.wrap c=c:=IntWalk.i64_in _ oq;have hcell:=Z0n (w:=w) (Im:=Im) c.toNat hl hzs hlen;have hrel:Hi w Im (s+1) (Y n.toNat zs) ((Lg (c.toNat*(s+1))).map (z.cells[· % z.cells.size]!)):=by
   obtain⟨h1,h2,h3,h4⟩:=hcell;have hnc:n.toNat<=c.toNat:=by omega
   have hmul:n.toNat*(s+1)<=c.toNat*(s+1):=G _ hnc;refine⟨λe he=>by rw[(List.mem_replicate.1 he).2];exact hlen,by simpa using hmul,λi v hv hi=>h3 i v hv (by simp at hi⊢;omega),λi e o x hi ho=>h4 i e o x ?_ ho⟩;have hi1:=(Lk.1 hi).1;simp only[L1]at hi1;rw[LX,if_pos oq];rw[LX,if_pos hi1]at hi;exact hi
  have hinfo:∃i,P.info? e=U i/\i.bytes=b+1/\i.size=s+1:=by
   unfold bytesOf at hb;unfold BG at hsz;cases hi:P.info? e with|none=>simp[hi]at hb|some i=>simp only[hi]at hb hsz;exact⟨i,rfl,hb,hsz⟩
  obtain⟨i,hi,hib,his⟩:=hinfo;have hsr:(sizeOf e).run P w=.ok (s+1) w:=by simp[sizeOf,typeInfo,hi,his]
  have hne:¬ c.toNat=0\/c.toNat=0:=by omega
  have t1:¬ (c<0):=by omega
  have t2:¬ ((b+1:Int)*c > 2^48):=by rw[Int.mul_comm];omega
  have t3:¬ (n<0):=by omega
  have t4:¬ (n > c):=by omega
  have:=EY.arr (ty:=e) (c:=c.toNat) I hid hH hrel (by simp[big];omega) qo pq;refine .inl ⟨.slice (U ⟨w.heap.size,0,V⟩) n.toNat c.toNat,w.alloc (.cells ((Lg (c.toNat*(s+1))).map (z.cells[· % z.cells.size]!)) e), ?_,by simpa using this⟩;have hib':(i.bytes:Int)=b+1:=by rw[hib];rfl
  have tl:(decide (c<0)||decide ((i.bytes:Int)*c > 2^48))=M:=by(rw[LO];exact⟨decide_eq_false t1,decide_eq_false (by rw[hib'];exact t2)⟩)
  have tm:(decide (c<0)||decide ((i.bytes:Int)*c > 2^48)||decide (n<0)||decide (n > c))=M:=by(rw[tl,Bool.false_or,LO];exact⟨decide_eq_false t3,decide_eq_false t4⟩)
  have mk:(LU t (.int k n) (.int k' c)).run P w=.ok (.slice (U ⟨w.heap.size,0,V⟩) n.toNat c.toNat) (w.alloc (.cells ((Lg (c.toNat*(s+1))).map (z.cells[· % z.cells.size]!)) e)):=by(unfold LU;simp only[W,run_underlying hu,Z,asInt,asIntOf,N,typeInfo,run_program,hi,hw1,hw2,tm,O,if_false,run_askRoom,hsr];by_cases hc0:c.toNat*(s+1)=0;simp[hc0,newRow,Lu];simp[newRow,hzr];intro h;exact absurd h hc0)
  simp[execOp,ho,v1,v2,mk]
 split at h;rename_i l' _;cases h;obtain⟨p1,p2⟩:=Ha.1 hph;have p2':Y n.toNat zs=l':=by simpa[B9]using p2
 rw[<-p2'];exact fin p1;cases h;exact fin (by simpa[B9]using hph)
def Zgj{w Im s els}{cs cs':Array Value}{i:Nat}{d:List DV}{u:Array Value}(h:Hi w Im s els cs)(r:i<els.length)(hd:d.length=s)(hu:u.size=s)(t:∀(j:Nat) (x:DV) (v:Value),d[j]?=U x->u[j]?=U v->CM w Im x v)(m:∀(j:Nat) (v:Value),u[j]?=U v->v.oneCell'=X)(y:cs'.size=cs.size)(b:∀j,cs'[j]?=if j<i*s then cs[j]? else if j<i*s+u.size then u[j-i*s]? else cs[j]?):Hi w Im s (els.set i d) cs':=by
 obtain⟨n,h2,h3,p⟩:=h;refine⟨λe he=>?_,by grind,λj v hv hj=>?_,λk e o x a l=>?_⟩;grind;grind;rw[List.getElem?_set]at a;by_cases c:i=k;subst c;simp only[if_true,r]at a;cases a;have f:o<s:=by grind
 have g:o<u.size:=by omega
 refine⟨u[o], ?_,t o x _ l (Ln g)⟩;grind;simp only[c,if_false]at a;obtain⟨v,k1,z⟩:=p k e o x a l;have q:e.length=s:=n e (L2 a);have f:o<s:=by grind
 refine⟨v, ?_,z⟩;rw[b];rcases Nat.lt_or_ge k i with hlt|hge;have:(k+1)*s<=i*s:=G s hlt;grind;have:(i+1)*s<=k*s:=G s oq;grind
def TI(s:Nat)(els:List (List DV)):List (Nat×AV)->Option (List (List DV))|[]=>U els|(i,x)::r=>match x.cells with|some b=>(match So b with|some a=>if a.length=s/\i<els.length then TI s (els.set i a) r else V|none=>V)|none=>V
def Z5Y{ρ:ZM}{w:World}{Im:Nat->Prop}{s}:∀{parts:List (Nat×AV)} {vals:List (Nat×Value)} {els a:List (List DV)} {cs:Array Value},
  parts.length=vals.length->(∀(k:Nat) (p:Nat×AV) (q:Nat×Value),parts[k]?=U p->vals[k]?=U q->p.1=q.1/\Zk ρ w Im p.2 q.2)->Hi w Im s els cs->cs.size=els.length*s->TI s els parts=U a ->
  ∃cs',Lq (λi=>U (i*s,s)) cs vals=U cs'/\Hi w Im s a cs'/\cs'.size=a.length*s/\a.length=els.length
 |[],vals,els,a,cs,hn,_,m,r,h=>by
  cases vals with|nil=>simp[TI]at h;subst h;exact⟨cs,rfl,m,r,rfl⟩|cons _ _=>simp at hn
 |(i,x)::parts,vals,els,a,cs,hn,hp,m,r,h=>by
  cases vals with
  |nil=>simp at hn
  |cons q vals =>
   obtain⟨i',v⟩:=q;obtain⟨t,z⟩:=hp 0 _ _ rfl rfl;simp only at t z;subst t;simp only[TI]at h;split at h;rotate_left
   .cases h
   rename_i xs o;split at h;rotate_left
   .cases h
   rename_i ds l;split at h;rotate_left
   .cases h
   rename_i g;obtain⟨c1,c2,c3⟩:=z.cells o;have f:=AA l;have n:v.cells.size=s:=by rw[c1,f];simp[Eg,g.1]
   have c:i*s+v.cells.size<=cs.size:=by
    have:(i+1)*s<=els.length*s:=G s g.2;rw[L]at this;omega
   have b:=Z99 v (i*s) cs c;have e:=Zgj m g.2 g.1 n (λj y u hy hu=>by
    have:xs[j]?=U (.d y):=by rw[f];simp[Eg,hy]
    cases c2 j _ u this hu with
    |d h=>exact h) c3 b.1 b.2
   obtain⟨cs',h3,h4,h5,h6⟩:=Z5Y (ρ:=ρ) (by simpa using hn) (λk p q hk hq=>hp (k+1) p q (by simpa using hk) (by simpa using hq)) e (by rw[b.1,r];simp) h;refine⟨cs', ?_,h4,h5,by rw[h6];simp⟩;simp only[Lq];rw[if_neg qo];exact h3
def Z3m(P:Program)(t len id:Nat)(hs:List Hint)(parts:List (Nat×AV)):Option Be:=
 match Gq P t with
 |none=>V
 |some e=>match R5 P e with
  |none=>V
  |some a=>match BG P e with
   |0=>V
   | s+1=>if a.length=s+1/\len*(s+1)<=16777216 then
    match TI (s+1) (Y len a) parts with|some els=>(match hs with|.els l'::_=>U ⟨.ow id,U (id,.arr e (s+1) l'),[els=l']⟩|_=>U ⟨.ow id,U (id,.arr e (s+1) els),[]⟩)|none=>V
    else V
def Zfw{P}{o:Oper}{id}{E:Operand->AV}{H}{r:Be}{t len:Nat}{parts:Array (Nat×Operand)}{hs}(ho:o.op=.buildSlice t len parts)(h:Z3m P t len id hs (parts.toList.map λp=>(p.1,E p.2))=U r):E3 P o id E H r:=by
 intro Ow a0 w0 ρ w n a1 a I a2 hH hE a8;unfold Z3m at h;split at h;cases h;rename_i e y;split at h;cases h;rename_i zs b;split at h;cases h;rename_i s a5;split at h;rotate_left;cases h;rename_i m;split at h;rotate_left;cases h;rename_i els i;have fin:Goes P o a w λv w'=>EY Ow a0 w0 ρ w n a1 (Bm H id (.arr e (s+1) els)) (.ow id) v w':=by
  unfold R5 at b;split at b;rotate_left;cases b;rename_i z hz;split at b;rotate_left;cases b;rename_i l hl;have a6:=Dk (P:=P) hz w;unfold Gq at y;split at y;rotate_left;cases y;rename_i e' hu;cases y;have a4:(sizeOf e).run P w=.ok (s+1) w:=SR a5 pq w;have g:=Z0n (w:=w) (Im:=n) len hl b m.1;have d:∀(k:Nat) (p:Nat×AV) (q:Nat×Value),(parts.toList.map λp=>(p.1,E p.2))[k]?=U p->(parts.toList.map λp=>(p.1,a.eval p.2))[k]?=U q->p.1=q.1/\Zk ρ w n p.2 q.2:=by grind
  obtain⟨cs,u,h2,h3,h4⟩:=Z5Y (ρ:=ρ) (vals:=parts.toList.map λp=>(p.1,a.eval p.2)) pq d g pq i;have j:els.length=len:=by grind
  have a7:len<=len*(s+1):=Nat.le_mul_of_pos_right _ oq;have:=EY.arr (ty:=e) (c:=els.length) I a2 hH h2 (by grind[big]) (Lr _) oq;refine .inl ⟨.slice (U ⟨w.heap.size,0,V⟩) els.length els.length,w.alloc (.cells cs e), ?_,this⟩;have tl:¬ (len*(s+1) > 2^24):=by omega
  have a3:(parts.map λx=>(x.1,a.eval x.2)).toList=parts.toList.map λp=>(p.1,a.eval p.2):=by simp
  have mk:(LQ t len (parts.map λx=>(x.1,a.eval x.2))).run P w=.ok (.slice (U ⟨w.heap.size,0,V⟩) els.length els.length) (w.alloc (.cells cs e)):=by(unfold LQ;rw[a3];simp only[W,run_underlying hu,Z,a4,tl,if_false];by_cases f:len*(s+1)=0;rw[f]at u;simp only[Lu,LL]at u;simp only[f,if_true,W,N,Z,Lu,LL];rw[u];simp[newRow,j];simp only[f,if_false,W,a6,Z,N];rw[u];simp[newRow,j])
  simp only[execOp,ho];simp only[W,mk,Z,N]
 split at h;rename_i l' _;cases h;have p2:els=l':=by grind[B9]
 rw[<-p2];exact fin;cases h;exact fin
def EX(H:Heap):AV->Option (Nat×List (List DV))|.d (.sl s els)=>U (s,els)|.d (.sc (.slice _ 0 _))=>U (1,[])|.ow b=>(match H b with|U (.arr _ s els)=>U (s,els)|_=>V)|.os b o n=>(match H b with|U (.arr _ s els)=>U (s,(els.drop o).take n)|_=>V)|_=>V
theorem AH{Ow Im0 w0 ρ w Im H clk x v}{s:Nat}{els:List (List DV)}(I:Inv Ow Im0 w0 ρ w Im H clk)(hx:Zk ρ w Im x v)(h:EX H x=U (s,els)):∃p c,v=.slice p els.length c/\els.length<=big/\els.length<=c/\(els≠[]->∀e∈els,e.length=s)/\(els=[]\/∃q,p=U q/\q.spot=V /\
   ∀(i:Nat) (e:List DV) (o:Nat) (y:DV),els[i]?=U e->e[o]?=U y->∃u,w.cell? ⟨q.block,q.off+(i*s+o),V⟩=U u/\CM w Im y u):=by
 unfold EX at h;split at h;cases h;cases hx with
 |d hx =>
  cases hx with|slNil s p c=>simp_all|sl s els p n c f hn hc hb hs hp him hcell hrel =>subst hn;grind
 grind[BV]
 .split at h;rotate_left;cases h;rename_i b _ ty s' els' hb;cases h;cases hx with|ow hρ hc hbg ha =>rename_i c ad β;obtain⟨β',h1,h2⟩:=I.blk b _ hb;rw[hρ]at h1;cases h1;obtain⟨g1,g2,_,g3,g4⟩:=h2;refine⟨ad,c,by rw[g2],by omega,by omega,λ_=>g3, ?_⟩;grind[Ly,Xc]
 .split at h;rotate_left;cases h;rename_i b oo m _ ty s' els' hb;cases h;cases hx with
  |os hρ hn hc hbg ha =>
   rename_i c ad β;obtain⟨β',h1,h2⟩:=I.blk b _ hb;rw[hρ]at h1;cases h1;obtain⟨g1,g2,_,g3,g4⟩:=h2;have hl:((els'.drop oo).take m).length=m:=by simp;omega
   refine⟨ad,c,by rw[hl],by omega,by omega,λ_ e he=>g3 e (L3 (L4 he)), ?_⟩;by_cases he:(els'.drop oo).take m=[];exact .inl he
   .right;have hpos:0<m:=by grind
    rcases g4 with⟨_,g4⟩|⟨g,cs,hg,hw,hsz,hcell⟩;grind;rcases ha with ha|⟨g',hg',rfl,_⟩;all_goals grind[Xc]
 cases h
def TM{P:Program}{w:World}{Im:Nat->Prop}{s:Nat}{els:List (List DV)}{p:Option Addr}{n c:Nat}(g:0<s)(a:els≠[]->∀e∈els,e.length=s)(h:els=[]\/∃q,p=U q/\q.spot=V/\∀(i:Nat) (e:List DV) (o:Nat) (y:DV),els[i]?=U e->e[o]?=U y->∃u,w.cell? ⟨q.block,q.off+(i*s+o),V⟩=U u/\CM w Im y u) :∃cs,(Lh s els.length (.slice p n c)).run P w=.ok cs w/\Hi w Im s els cs/\cs.size=els.length*s:=by
 rcases h with h|⟨q,rfl,hq,h⟩;subst h;refine⟨#[], ?_,⟨by simp,by simp,by simp,by simp⟩,by simp⟩;cases p with|none=>simp[Lh]|some q=>simp[Lh,loadCells,loadCellsFrom]
 have d:∀j,j<els.length*s->∃e y u,els[j/s]?=U e/\e[j%s]?=U y/\w.cell? ⟨q.block,q.off+j,V⟩=U u/\CM w Im y u:=by
  intro j b;have m:j/s<els.length:=by rw[LB g];exact b
  have h2:els≠[]:=by intro h;subst h;simp at m
  have h3:(els[j/s]).length=s:=a h2 _ (LY m);have x:j%s<(els[j/s]).length:=by rw[h3];exact LD _ g
  obtain⟨u,k1,l⟩:=h (j/s) _ (j%s) _ (Lf m) (Lf x);refine⟨_,_,u,Lf m,Lf x, ?_,l⟩;rw[show j/s*s+j%s=j from by rw[Nat.mul_comm];exact LA j s]at k1;exact k1
 have f:=run_loadCells (P:=P) w q (els.length*s) (λj=>(w.cell? ⟨q.block,q.off+j,V⟩).getD undef) (λj b=>by
  obtain⟨e,y,u,_,_,k,_⟩:=d j b;rw[addr_add hq,k];rfl)
 refine⟨_,by simpa[Lh]using f,⟨λe z=>a (by intro h;subst h;simp at z) e z,by simp, ?_, ?_⟩,by simp⟩;intro j v hv b;obtain⟨e,y,u,_,_,k,l⟩:=d j b;simp[b,k]at hv;subst hv;exact l.one;intro i e o y r ho;have t:e.length=s:=a (by intro h;subst h;simp at r) e (L2 r);have a0:o<s:=by rw[<-t];exact(Lk.1 ho).1
 have b:i*s+o<els.length*s:=by(have:(i+1)*s<=els.length*s:=G s (Lk.1 r).1;rw[L]at this;omega)
 obtain⟨u,k1,l⟩:=h i e o y r ho;exact⟨u,by simp[b,k1],l⟩
def Cc(els:List (List DV))(o:Nat)(xs:List (List DV)):List (List DV):=els.take o++xs++els.drop (o+xs.length)
def Z6Q{w Im}{s o:Nat}{els xs}{cs cs' u:Array Value}(h:Hi w Im s els cs)(hx:Hi w Im s xs u)(hu:u.size=xs.length*s)(ho:o+xs.length<=els.length)(hsz:cs'.size=cs.size)(hget:∀j,cs'[j]?=if j<o*s then cs[j]? else if j<o*s+u.size then u[j-o*s]? else cs[j]?):Hi w Im s (Cc els o xs) cs':=by
 obtain⟨h1,h2,h3,h4⟩:=h;obtain⟨k1,k2,k3,k4⟩:=hx;have hl:(Cc els o xs).length=els.length:=SQ ho;refine⟨λe he=>?_,by grind,λj v hv hj=>?_,λk e q x hk hq=>?_⟩;grind[Cc];grind;simp only[Cc]at hk;rw[A6 ho]at hk;have hes:e.length=s:=by grind
 have hqs:q<s:=by grind
 split at hk;rename_i hlt;obtain⟨v,a1,a2⟩:=h4 k e q x hk hq;have:(k+1)*s<=o*s:=G s hlt;grind;rename_i hge;split at hk;rename_i hlt;obtain⟨v,a1,a2⟩:=k4 (k-o) e q x hk hq;have e1:k*s=o*s+(k-o)*s:=by rw[<-L];congr 1;omega
 have:(k-o+1)*s<=xs.length*s:=G s oq;rw[L]at this;exact⟨v,by rw[hget,if_neg oq,if_pos oq,show k*s+q-o*s=(k-o)*s+q from by omega];exact a1,a2⟩;rename_i hge2;obtain⟨v,a1,a2⟩:=h4 k e q x hk hq;have:(o+xs.length)*s<=k*s:=G s oq;grind
def Z3t{ρ w Im β}{ty s:Nat}{els:List (List DV)}{g:Nat}{cs:Array Value}(h:RelB ρ w Im β (.arr ty s els))(o:β.g=U g)(r:w.heap[g]?=U (.cells cs ty (0,0))):Hi w Im s els cs:=by
 obtain⟨g1,g2,_,f,j⟩:=h;rcases j with⟨j,_⟩|⟨g',l,b,d,e,a⟩;grind;rw[o]at b;cases b;rw[r]at d;cases d;refine⟨f,e,λi v q p=>?_,a⟩;have c:0<s:=by grind
 have k:i/s<els.length:=by rw[LB c];exact p
 have m:(els[i/s]).length=s:=f _ (LY k);have n:i%s<(els[i/s]).length:=by rw[m];exact LD _ c
 obtain⟨u,k1,t⟩:=a (i/s) _ (i%s) _ (Lf k) (Lf n);rw[show i/s*s+i%s=i from by grind[LA],q]at k1;cases k1;exact t.one
def O2(P:Program)(t:Nat)(hs:List Hint)(x y:AV)(H:Heap):Option Be:=
 match Gq P t with
 |none=>V
 |some e=>match BG P e with
  |0=>V
  |s+1=>match EX H y with
   | some (s',xs)=>if s'=s+1 then
    match x with
    |.ow b=>match H b with
     | some (.arr ty s2 els)=>if s2=s+1 then
      match hs with|.els l'::_=>U ⟨.d (.sc (.int .i64 xs.length)),U (b,.arr ty s2 l'),[xs.length<=els.length,Cc els 0 xs=l']⟩|_=>U ⟨.d (.sc (.int .i64 xs.length)),U (b,.arr ty s2 (Cc els 0 xs)),[xs.length<=els.length]⟩
      else V
     |_=>V
    |.os b o n=>match H b with
     | some (.arr ty s2 els)=>if s2=s+1 then
      match hs with|.els l'::_=>U ⟨.d (.sc (.int .i64 xs.length)),U (b,.arr ty s2 l'),[xs.length<=n,Cc els o xs=l']⟩|_=>U ⟨.d (.sc (.int .i64 xs.length)),U (b,.arr ty s2 (Cc els o xs)),[xs.length<=n]⟩
      else V
     |_=>V
    |_=>V
    else V
   |none=>V
def Zff{P:Program}{o:Oper}{id:Nat}{E:Operand->AV}{H:Heap}{r:Be}{x y:Operand}{t t':Nat}{hs:List Hint}(ho:o.op=.call ⟨.builtin .copy,#[x,y],#[t,t']⟩) (h:O2 P t hs (E x) (E y) H=U r):E3 P o id E H r:=by
 intro Ow b2 w0 ρ w Im b3 a I f0 hH hE b0;have hx:=hE x;have hy:=hE y;unfold O2 at h;split at h
 .cases h
 rename_i e he;split at h
 .cases h
 rename_i s d6;split at h;rotate_left
 .cases h
 rename_i s' d b5;split at h;rotate_left
 .cases h
 rename_i d5;subst d5;obtain⟨p,c,c0,d8,d9,d4,a9⟩:=AH I hy b5;obtain⟨u,a4,d1,a5⟩:=TM (P:=P) (p:=p) (n:=d.length) (c:=c) oq d4 a9;unfold Gq at he;split at he;rotate_left
 .cases he
 rename_i e' b9;cases he;have b7:(sizeOf e).run P w=.ok (s+1) w:=SR d6 pq w;have fin:∀(b f n g c':Nat) (ty:Nat) (els:List (List DV)) (β:Bi),ρ b=U β->H b=U (.arr ty (s+1) els)->β.g=U g->a.eval x=.slice (U ⟨g,f*(s+1),V⟩) n c'->d.length<=n->f+n<=els.length ->
   Goes P o a w λv w'=>EY Ow b2 w0 ρ w Im b3 (Bm H b (.arr ty (s+1) (Cc els f d))) (.d (.sc (.int .i64 d.length))) v w':=by
  intro b f n g c' ty els β hρ hb hg z d7 f1;obtain⟨β',h1,h2⟩:=I.blk b _ hb;rw[hρ]at h1;cases h1;have b4:=h2;obtain⟨g1,g2,g3,g4,g5⟩:=h2;rcases g5 with⟨g5,_⟩|⟨g',cs,c1,hw,d0,d3⟩
  .rw[hg]at g5;cases g5
  rw[hg]at c1;cases c1;have a0:=Z3t b4 hg hw;have a2:f*(s+1)+u.toList.length<=cs.toList.length:=by
   have:(f+d.length)*(s+1)<=els.length*(s+1):=G _ oq;rw[L]at this;simp[a5];omega
  have c5:∀v∈u.toList,v.oneCell'=X:=by
   intro v hv;obtain⟨k,hk⟩:=Lx hv;have c3:u[k]?=U v:=by simpa using hk
   exact d1.2.2.1 k v c3 (by rw[<-a5];exact(LK.1 c3).1)
  have c9:=run_storeCells_at P g (f*(s+1)) ty u.toList 0 cs w hw (by simpa using a2) c5;simp only[Lz]at c9;obtain⟨bg,bs,bn⟩:=β;simp only at hg g1 g2;subst hg;subst g1;subst g2;have a3:((cs.toList.take (f*(s+1))++u.toList++cs.toList.drop (f*(s+1)+u.toList.length)).toArray).size=cs.size:=by
   rw[L5,SQ a2];simp
  have c2:∀j,((cs.toList.take (f*(s+1))++u.toList++cs.toList.drop (f*(s+1)+u.toList.length)).toArray)[j]?=if j<f*(s+1)then cs[j]? else if j<f*(s+1)+u.size then u[j-f*(s+1)]? else cs[j]?:=by
   intro j;rw[C,A6 a2];simp
  have c8:=Z6Q a0 d1 a5 (show f+d.length<=els.length by omega) a3 c2;have b1:=I.put b g (s+1) els.length cs _ ty (.arr ty (s+1) (Cc els f d)) hρ hw a3 ⟨_,hb,by simp⟩ (λhe=>by
   have hl:(Cc els f d).length=els.length:=SQ oq;refine⟨rfl,hl.symm,by rw[hl];exact g3,c8.1,.inr ⟨g,_,rfl,setRow_heap w g cs _ ty _ hw,by rw[a3,hl];exact d0,λi e o y hi ho=>?_⟩⟩;obtain⟨v,k1,k2⟩:=c8.2.2.2 i e o y hi ho;exact⟨v,k1,k2.mono he (λ_ h=>h)⟩)
  refine .inl ⟨.int .i64 d.length,_, ?_,ρ,b1.1,b1.2,λ_ _ h=>h,.d (.sc _ rfl)⟩;have m:LC d.length n=d.length:=Nat.min_eq_left d7;have a1:(Lc #[t,t'] o.type #[.slice (U ⟨g,f*(s+1),V⟩) n c',.slice p d.length c]).run P w=.ok (goInt d.length) (w.setRow g (cs.toList.take (f*(s+1))++u.toList++cs.toList.drop (f*(s+1)+u.toList.length)).toArray):=by
   unfold Lc;simp only[C,S,F,W,run_underlying b9,Z,Li,N,b7,m,a4,c9]
  simp[execOp,ho,resolve,z,c0,invoke,builtin,a1,goInt]
 split at h
 .rename_i b a0;rw[a0]at hx;split at h;rotate_left
  .cases h
  rename_i ty s2 els hb;split at h;rotate_left
  .cases h
  rename_i b6;subst b6;generalize z:a.eval x=v at hx;cases hx with
  |ow hρ hc d2 ha =>
   rename_i c' ad β;obtain⟨β',h1,h2⟩:=I.blk b _ hb;rw[hρ]at h1;cases h1;have b4:=h2;obtain⟨g1,g2,_,_,_⟩:=h2;have l:d.length<=els.length->Goes P o a w λv w'=>EY Ow b2 w0 ρ w Im b3 (Bm H b (.arr ty (s+1) (Cc els 0 d))) (.d (.sc (.int .i64 d.length))) v w':=by
    intro c4;by_cases a8:d=[]
    .-- nothing is copied
     subst a8;have q:Cc els 0 []=els:=by simp[Cc]
     have a6:Bm H b (.arr ty (s+1) els)=H:=by funext k;unfold Bm;split<;>simp_all
     rw[q,a6];have b8:u=#[]:=by apply LJ;simpa using a5
     refine .inl ⟨.int .i64 0,w, ?_,.same I (.d (.sc _ rfl))⟩;have a1:(Lc #[t,t'] o.type #[.slice ad β.n c',.slice p 0 c]).run P w=.ok (goInt 0) w:=by
      unfold Lc;simp only[L0]at a4;have m:LC 0 β.n=0:=Xb _;simp only[C,S,F,W,run_underlying b9,Z,Li,N,b7,m,a4,b8];cases ad<;>simp[storeCells]
     have a7:a.eval y=.slice p 0 c:=by simpa using c0
     simp[execOp,ho,resolve,z,a7,invoke,builtin,a1,goInt]
    .have c6:0<d.length:=Ly.2 a8;rcases ha with ha|⟨g,hg,rfl,c7⟩
     .omega
     .exact fin b 0 β.n g c' ty els β hρ hb hg (by simpa using z) oq oq
   split at h
   .rename_i l' _;cases h;obtain⟨p1,p2⟩:d.length<=els.length/\Cc els 0 d=l':=by simpa[B9]using b0
    rw[<-p2];exact l p1
   .cases h;exact l (by simpa[B9]using b0)
 .rename_i b f n a0;rw[a0]at hx;split at h;rotate_left
  .cases h
  rename_i ty s2 els hb;split at h;rotate_left
  .cases h
  rename_i b6;subst b6;generalize z:a.eval x=v at hx;cases hx with
  |os hρ hn hc d2 ha =>
   rename_i c' ad β;obtain⟨β',h1,h2⟩:=I.blk b _ hb;rw[hρ]at h1;cases h1;have b4:=h2;obtain⟨g1,g2,_,_,_⟩:=h2;have l:d.length<=n->Goes P o a w λv w'=>EY Ow b2 w0 ρ w Im b3 (Bm H b (.arr ty (s+1) (Cc els f d))) (.d (.sc (.int .i64 d.length))) v w':=by
    intro c4;by_cases a8:d=[]
    .subst a8;have q:Cc els f []=els:=by simp[Cc]
     have a6:Bm H b (.arr ty (s+1) els)=H:=by funext k;unfold Bm;split<;>simp_all
     rw[q,a6];have b8:u=#[]:=by apply LJ;simpa using a5
     refine .inl ⟨.int .i64 0,w, ?_,.same I (.d (.sc _ rfl))⟩;have a1:(Lc #[t,t'] o.type #[.slice ad n c',.slice p 0 c]).run P w=.ok (goInt 0) w:=by
      unfold Lc;simp only[L0]at a4;have m:LC 0 n=0:=Xb _;simp only[C,S,F,W,run_underlying b9,Z,Li,N,b7,m,a4,b8];cases ad<;>simp[storeCells]
     have a7:a.eval y=.slice p 0 c:=by simpa using c0
     simp[execOp,ho,resolve,z,a7,invoke,builtin,a1,goInt]
    .have c6:0<d.length:=Ly.2 a8;rcases ha with ha|⟨g,hg,rfl,c7⟩
     .omega
     .exact fin b f n g c' ty els β hρ hb hg (by rw[<-g1];exact z) c4 oq
   split at h
   .rename_i l' _;cases h;obtain⟨p1,p2⟩:d.length<=n/\Cc els f d=l':=by simpa[B9]using b0
    rw[<-p2];exact l p1
   .cases h;exact l (by simpa[B9]using b0)
 .cases h
def Sys(Ow:Own)(Im0:Nat->Prop)(w0:World)(tmps:List AV)(H:Heap)(clk:Nat)(a:Act)(w:World):Prop:=
 ∃ρ Im,Inv Ow Im0 w0 ρ w Im H clk/\Ct Ow.ds ρ w Im tmps a
def N4(f:AV->AV):AV->AV|.pt b i o=>f (.pt b i o)|.os b o n=>f (.os b o n)|.ow b=>f (.ow b)|.d x=>.d x|.rp e o=>.rp e o|_=>.any
def HX(f:AV->AV):AV->AV|.ag l=>.ag (l.map (N4 f))|.fn g caps=>.fn g (caps.map (N4 f))|.fm g a=>.fm g (N4 f a)|.ic t (.ag l)=>.ic t (.ag (l.map (N4 f)))|.ic t a=>.ic t (N4 f a)|a=>N4 f a
section
variable{ρ ρ':ZM}{w:World}{Im Im':Nat->Prop}{f:AV->AV}
theorem Zal(c:∀g,Im g->Im' g)(m:∀b i o v,Zk ρ w Im (.pt b i o) v->Zk ρ' w Im' (f (.pt b i o)) v)(k:∀b o n v,Zk ρ w Im (.os b o n) v->Zk ρ' w Im' (f (.os b o n)) v)(l:∀b v,Zk ρ w Im (.ow b) v->Zk ρ' w Im' (f (.ow b)) v){a v}(h:Zk ρ w Im a v):Zk ρ' w Im' (N4 f a) v:=by
 cases a with|pt b i o=>exact m _ _ _ _ h|os b o n=>exact k _ _ _ _ h|ow b=>exact l _ _ h|d x=>(cases h with|d h=>exact .d (h.mono (Ext.refl _ _) c))|rp e o=>(cases h with|rp p q r=>exact .rp p (c _ q) (λj x s=>let ⟨v,k1,t⟩:=r j x s;⟨v,k1,t.mono (Ext.refl _ _) c⟩))|_=>exact .any _
theorem Me(u:∀g,Im g->Im' g)(m:∀b i o v,Zk ρ w Im (.pt b i o) v->Zk ρ' w Im' (f (.pt b i o)) v)(j:∀b o n v,Zk ρ w Im (.os b o n) v->Zk ρ' w Im' (f (.os b o n)) v)(k:∀b v,Zk ρ w Im (.ow b) v->Zk ρ' w Im' (f (.ow b)) v){a v}(h:Zk ρ w Im a v):Zk ρ' w Im' (HX f a) v:=by
 have leaf:∀{a:AV} {v:Value},Zk ρ w Im a v->Zk ρ' w Im' (N4 f a) v:=λh=>Zal u m j k h;have agg:∀{l:List AV} {v:Value},Zk ρ w Im (.ag l) v->Zk ρ' w Im' (.ag (l.map (N4 f))) v:=λh=>by(obtain⟨q,rfl,c,r,s⟩:=Hx h;refine .ag _ q (by simpa using c) r λi x v z y=>?_;grind)
 cases a with
 |ag l=>exact agg h
 |fn g p =>
  cases h with|fn c s =>refine .fn (by simpa using c) λi x v z y=>?_;grind
 |fm=>cases h with|fm h=>exact .fm (leaf h)
 |ic t a =>
  cases h with
  |ic h =>
   cases a with|ag l=>exact .ic (agg h)|_=>exact .ic (leaf h)
 |pt b i o=>exact leaf h
 |os b o n=>exact leaf h
 |ow b=>exact leaf h
 |d x=>exact leaf h
 |rp e o=>exact leaf h
 |tu l=>exact .any _
 |gd g a=>exact .any _
 |any=>exact .any _
end
section
variable{Ow:Own}{Im0:Nat->Prop}{w0:World}{ρ:ZM}{w:World}{Im:Nat->Prop}{H:Heap}{clk:Nat}
theorem Inv.kill(I:Inv Ow Im0 w0 ρ w Im H clk){b:Nat}{B:Z3}(hb:H b=U B):Inv Ow Im0 w0 ρ w Im (Bm H b .dead) clk:=by
 have hl:∀k,live (Bm H b .dead) k->k≠b/\live H k:=by
  intro k h;have hk:k≠b:=by(rintro rfl;obtain⟨B',h1,h2⟩:=h;simp only[Bm,if_true,Lm]at h1;exact h2 h1.symm)
  exact⟨hk,H3 h hk⟩
 refine⟨I.kept,λk k' β β' g l1 l2=>I.inj k k' β β' g (hl k l1).2 (hl k' l2).2,λk β g l=>I.notIm k β g (hl k l).2,I.bnd,I.own,I.imb,I.im0,λk B' h=>?_,λk hk h=>?_,I.one⟩;unfold Bm at h;split at h;rename_i e;cases h;obtain⟨β,h1,_⟩:=I.blk b B hb;exact⟨β,by grind,trivial⟩;exact I.blk k B' h;unfold Bm at h;split at h;cases h;exact I.fresh k hk h
theorem Inv.take(I:Inv Ow Im0 w0 ρ w Im H clk)(id:Nat)(hid:clk*8000<=id)(hH:H id=V)(g s n:Nat)(cs cs':Array Value)(ty:Nat) B(hfree:∀k κ,live H k->ρ k=U κ->κ.g≠U g)(him:¬ Im g)(hown:w0.heap.size<=g\/OwA Ow g)(hg:w.heap[g]?=U (.cells cs ty (0,0)))(hs:cs'.size=cs.size)(hB:Ext Im w (w.setRow g cs')->RelB (Cd ρ id ⟨U g,s,n⟩) (w.setRow g cs') Im ⟨U g,s,n⟩ B) :Inv Ow Im0 w0 (Cd ρ id ⟨U g,s,n⟩) (w.setRow g cs') Im (Bm H id B) clk/\Ext Im w (w.setRow g cs'):=by
 have hsz:(w.setRow g cs').heap.size=w.heap.size:=by simp_all
 have hgl:g<w.heap.size:=by grind
 have he:Ext Im w (w.setRow g cs'):=⟨by omega,λk hk=>setRow_other w g k cs' (λe=>him (e▸hk)),λk _=>Ao w g cs cs' ty hg hs k⟩;have hn:=I.fresh id hid hH;refine⟨⟨?_, ?_, ?_, ?_, ?_,λg h=>by rw[hsz];exact I.imb g h,I.im0, ?_, ?_,MC I.one hid⟩,he⟩;have k:=I.kept;refine⟨k.os,k.tape,k.output,by rw[hsz];exact k.size,λi hi ho=>?_,λi hi=>?_⟩;have:i≠g:=by grind
 rw[setRow_other w g i cs' this];exact k.block i hi ho;rw[Ao w g cs cs' ty hg hs];exact k.rows i hi;intro b b' β β' g' l1 l2 h1 h2 h3 h4;unfold Cd at h1 h2;split at h1<;>split at h2;omega;grind[H3];grind[H3];exact I.inj b b' β β' g' (H3 l1 aa) (H3 l2 aa) h1 h2 h3 h4;intro b β g' l h h';unfold Cd at h;split at h;grind;exact I.notIm b β g' (H3 l aa) h h';intro b β g' h h';rw[hsz];unfold Cd at h;split at h;grind;exact I.bnd b β g' h h';intro b β g' h h';unfold Cd at h;split at h;rename_i hbi;cases h;cases h';have:=I.one;grind;exact I.own b β g' h h';intro b B' h;unfold Bm at h;split at h;grind[I9];obtain⟨β,h1,h2⟩:=I.blk b B' h;cases B' with|dead=>exact⟨β,Hj hn _ _ h1,trivial⟩|_ =>refine⟨β,Hj hn _ _ h1,h2.mono he (λ_ h=>h) (Hj hn) I.bnd (λg' hg'=>setRow_other w g g' cs' ?_)⟩;rintro rfl;exact hfree b β ⟨_,h,by simp⟩ h1 hg'
 intro b hb h;unfold Bm at h;unfold Cd;split;grind;rename_i hbi;simp only[hbi,if_false]at h;exact I.fresh b hb h
end
theorem Z8z n:∀(r c:Nat),Lv n r c<=max c (n+(n+768)/4)
 |0,c=>by grind[Lv]
 |r+1,c=>by
  simp only[Lv];split
  .omega
  .have:=Z8z n r (c+(c+768)/4);omega
def nextslicecap_le(n c:Nat)(h:c<n):Lj n c<=2*n+192:=by grind[Lj,Z8z]
def Pb(P:Program)(e:Nat):Bool:=match R5 P e with|U a=>a.length==BG P e|V=>M
def Z92(P:Program)(t:Nat):Bool:=match P.underlying t with|U (.int _)=>X|_=>M
def M6(P:Program)(t t' id:Nat)(hs:List Hint)(x y:AV)(H:Heap):Option (Nat×Be):=
 match x with
 |.ow b=>match H b with
  |some (.arr ty s els)=>match Gq P t,Gq P t' with
   |some e,some _=>match EX H y with
    | some (s',xs)=>if BG P e=s/\s≠0/\(s'=s\/xs.length=0)/\e=ty/\bytesOf P e<=65536/\bytesOf P e≠0/\Pb P e=X/\L7 8000 b=X then
     match hs with|.els l'::_=>U (b,⟨.ow id,U (id,.arr ty s l'),[els.length+xs.length<=2^30,els++xs=l']⟩)|_=>U (b,⟨.ow id,U (id,.arr ty s (els++xs)),[els.length+xs.length<=2^30]⟩)
     else V
    |none=>V
   |_,_=>V
  |_=>V
 |_=>V
def Z0r(P:Program)(t t' id:Nat)(hs:List Hint)(x:AV)(n:Int)(H:Heap):Option (Nat×Be):=
 match x with
 |.ow b=>match H b with
  |some (.arr ty s els)=>match Gq P t,Z92 P t' with
   |some e,true=>match R5 P e with
    | some a=>if BG P e=s/\s≠0/\e=ty/\bytesOf P e<=65536/\bytesOf P e≠0/\Pb P e=X/\L7 8000 b=X then
     match hs with|.els l'::_=>U (b,⟨.ow id,U (id,.arr ty s l'),[0<=n/\els.length+n<=2^30,els++Y n.toNat a=l']⟩)|_=>U (b,⟨.ow id,U (id,.arr ty s (els++Y n.toNat a)),[0<=n/\els.length+n<=2^30]⟩)
     else V
    |none=>V
   |_,_=>V
  |_=>V
 |_=>V
def DU(P:Program)(t t' id:Nat)(hs:List Hint)(x y:AV)(H:Heap):Option (Nat×Be):=
 match y with|.d (.sc (.int _ n))=>Z0r P t t' id hs x n H|_=>M6 P t t' id hs x y H
def Z9Z{w Im s els xs}{cs:Array Value}{a b}(h:Hi w Im s els a)(u:Hi w Im s xs b)(n:(els.length+xs.length)*s<=cs.size)(h1:∀j,j<els.length*s->cs[j]?=a[j]?)(m:∀j,j<xs.length*s->cs[els.length*s+j]?=b[j]?):Hi w Im s (els++xs) cs:=by
 obtain⟨a1,a2,a3,k⟩:=h;obtain⟨b1,b2,b3,l⟩:=u;refine⟨λe he=>?_,by grind,λj v hv r=>?_,λi e o x d f=>?_⟩;grind;rw[LZ,L]at r;by_cases c:j<els.length*s;grind;have:=m (j-els.length*s) oq;grind;have p:e.length=s:=by grind
 have t:o<s:=by grind
 rw[List.getElem?_append]at d;split at d;rename_i c;obtain⟨v,k1,g⟩:=k i e o x d f;have:(i+1)*s<=els.length*s:=G s c;grind;rename_i q;obtain⟨v,k1,g⟩:=l (i-els.length) e o x d f;have c:=(Lk.1 d).1;have:(i-els.length+1)*s<=xs.length*s:=G s c;rw[L]at this;have e1:i*s=els.length*s+(i-els.length)*s:=by rw[<-L];congr 1;omega
 exact⟨v,by grind,g⟩
def Zag{Ow Im0 w0 ρ w Im H clk x v}{s:Nat}{els:List (List DV)}(I:Inv Ow Im0 w0 ρ w Im H clk)(hx:Zk ρ w Im x v){a:Nat}(h:EX H x=U (a,els))(hs:a=s\/els.length=0):∃p c,v=.slice p els.length c/\els.length<=big/\els.length<=c/\(els≠[]->∀e∈els,e.length=s)/\(els=[]\/∃q,p=U q/\q.spot=V /\
   ∀(i:Nat) (e:List DV) (o:Nat) (y:DV),els[i]?=U e->e[o]?=U y->∃u,w.cell? ⟨q.block,q.off+(i*s+o),V⟩=U u/\CM w Im y u):=by grind[AH]
def Z7r{P:Program}{o:Oper}{id t t':Nat}{x y:Operand}{H:Heap}{b' e s:Nat}{els xs:List (List DV)}{u u':Array Value}{vy z:Value}{nb:Nat}{Ow:Own}{Im0:Nat->Prop}{w0:World}{ρ:ZM}{w:World}{Im:Nat->Prop}{clk:Nat}{a:Act}{tmps:List AV}(ho:o.op=.call ⟨.builtin .append,#[x,y],#[t,t']⟩) (hvy:a.eval y=vy) (I:Inv Ow Im0 w0 ρ w Im H clk) (T:Ct Ow.ds ρ w Im tmps a)(hid:clk*8000<=id) (hH:H id=V) (hx:Zk ρ w Im (.ow b') (a.eval x)) (hb:H b'=U (.arr e s els)) (hs1:0<s) (hib:nb<=65536) (hb8:8000<=b') (hbig:els.length+xs.length<=2^30)(hu2:Hi w Im s xs u) (hu3:u.size=xs.length*s) (n2:Hi w.drew Im s xs u') (n3:u'.size=xs.length*s) (hzlen:z.cells.size=s)(A:∀(ad:Option Addr) (c:Nat) (w':World),els.length+xs.length<=c->(match ad with|U q=>storeCells (q.add (els.length*s)) u.toList|V=>pure ():Sem Unit).run P w=.ok () w' -> (Lb #[t,t'] o.type #[.slice ad els.length c,vy]).run P w=.ok (.slice ad (els.length+xs.length) c) w')(B:∀(ad:Option Addr) (c:Nat) (ux':Array Value) (newCap:Nat),¬ els.length+xs.length<=c->(Lt (els.length+xs.length) c e).cut (w.tape w.drawn (.appendCap (els.length+xs.length) c e))=newCap ->
   ¬ (Lj (els.length+xs.length) c*nb > 2^48)->(Lh s els.length (.slice ad els.length c)).run P w.drew=.ok ux' w.drew ->
   (Lb #[t,t'] o.type #[.slice ad els.length c,vy]).run P w=.ok (.slice (U ⟨w.drew.heap.size,0,V⟩) (els.length+xs.length) newCap) (w.drew.alloc (.cells (ux'++u'++R z.cells (newCap-(els.length+xs.length))) e))) :
  ∃v w' ρ',(execOp a.eval o).run P w=.ok (.value v) w'/\Inv Ow Im0 w0 ρ' w' Im (Bm (Bm H b' .dead) id (.arr e s (els++xs))) clk/\Ct Ow.ds ρ' w' Im tmps a/\Zk ρ' w' Im (.ow id) v:=by
 have hcontx:EX H (.ow b')=U (s,els):=by grind[EX]
 obtain⟨px,cx,hvx0,_,_,hlxx,hcellxx⟩:=AH I hx hcontx
 obtain⟨ux,hux1,hux2,hux3⟩:=TM (P:=P) (p:=px) (n:=els.length) (c:=cx) hs1 hlxx hcellxx
 generalize hvx:a.eval x=v at hx
 cases hx with
 |ow hρ hc hbg ha =>
  rename_i c ad β
  obtain⟨β',h1,h2⟩:=I.blk b' _ hb
  rw[hρ]at h1;cases h1
  have h2':=h2
  obtain⟨g1,g2,g3,g4,g5⟩:=h2
  rw[hvx]at hvx0
  obtain⟨rfl,_,rfl⟩:ad=px/\β.n=els.length/\c=cx:=by grind
  have ID:=I.kill hb
  have TD:=T
  have hidb:id≠b':=by grind
  have hHd:Bm H b' .dead id=V:=by grind[Bm]
  have hdead:∀k κ g,live (Bm H b' .dead) k->ρ k=U κ->β.g=U g->κ.g≠U g:=by
   intro k κ g hl hk hg hkg
   have hkb:k≠b':=by
    rintro rfl
    obtain⟨B',q1,q2⟩:=hl
    simp only[Bm,if_true,Lm]at q1
    exact q2 q1.symm
   exact hkb (I.inj k b' κ β g (H3 hl hkb) ⟨_,hb,by simp⟩ hk hρ hkg hg)
  by_cases hfit:els.length+xs.length<=c
  .-- there is room
   have run0:∀w',(match ad with|U q=>storeCells (q.add (els.length*s)) u.toList|V=>pure ():Sem Unit).run P w=.ok () w' ->
     (execOp a.eval o).run P w=.ok (.value (.slice ad (els.length+xs.length) c)) w':=by
    intro w' hw'
    have:=A ad c w' hfit hw'
    simp[execOp,ho,resolve,hvx,hvy,invoke,builtin,g2,this]
   rcases g5 with⟨g5,rfl⟩|⟨g,cs,hg,hw,hszc,hcell⟩
   .-- no memory yet,nothing comes
    rcases ha with ha|⟨g',hg',_⟩
    rotate_left
    .grind
    subst ha
    have hxs:xs=[]:=by grind
    subst hxs
    have hu0:u=#[]:=by grind
    have hrun:=run0 w (by cases ad<;>simp[hu0,storeCells])
    have hn:=ID.fresh id hid hHd
    have hsub:=Hj (β:=⟨V,s,0⟩) hn
    refine⟨_,w,Cd ρ id ⟨V,s,0⟩,hrun, ?_,TD.mono (Ext.refl _ _) (λ_ h=>h) hsub ID.bnd, ?_⟩
    .refine⟨ID.kept, ?_, ?_, ?_, ?_,ID.imb,ID.im0, ?_, ?_,MC ID.one hid⟩
     .intro k k' κ κ' g l1 l2 h1 h2 h3 h4
      unfold Cd at h1 h2
      split at h1<;>split at h2
      .omega
      .grind
      .grind
      .exact ID.inj k k' κ κ' g (H3 l1 ‹_›) (H3 l2 ‹_›) h1 h2 h3 h4
     .intro k κ g l h h'
      unfold Cd at h
      split at h
      .grind
      .exact ID.notIm k κ g (H3 l ‹_›) h h'
     .intro k κ g h h'
      unfold Cd at h
      split at h
      .grind
      .exact ID.bnd k κ g h h'
     .intro k κ g h h'
      unfold Cd at h
      split at h
      .grind
      .exact ID.own k κ g h h'
     .intro k B h
      unfold Bm at h
      split at h
      .cases h;rename_i hk;exact⟨_,by rw[hk];exact I9 _ _ _,rfl,rfl,by simp[big],by simp,.inl ⟨rfl,rfl⟩⟩
      .obtain⟨κ,h1,h2⟩:=ID.blk k B h
       exact⟨κ,hsub _ _ h1,h2.mono (Ext.refl _ _) (λ_ h=>h) hsub ID.bnd (λ_ _=>rfl)⟩
     .intro k hk h
      unfold Bm at h
      unfold Cd
      split
      .grind
      .rename_i hbi;simp only[hbi,if_false]at h;exact ID.fresh k hk h
    .have:=Zk.ow (ρ:=Cd ρ id ⟨V,s,0⟩) (w:=w) (Im:=Im) (c:=0) (a:=ad) (I9 ρ id ⟨V,s,0⟩) (Lr _) (by simp[big]) (.inl rfl)
     omega
   .-- the row's own spare cells
    have hnew:w0.heap.size<=g\/OwA Ow g:=(I.own b' β g hρ hg).imp (·.1) (λh=>h)
    by_cases hc0:c=0
    .-- no cell: nothing comes
     subst hc0
     have hl0:els=[]:=by grind
     have hxs:xs=[]:=by grind
     subst hl0;subst hxs
     have hu0:u=#[]:=by grind
     have hrun:=run0 w (by cases ad<;>simp[hu0,storeCells])
     have hset:w.setRow g cs=w:=setRow_self w g cs e (0,0) hw
     have htake:=ID.take id hid hHd g s 0 cs cs e (.arr e s ([]++[])) (λk κ hl hk=>hdead k κ g hl hk hg) (I.notIm b' β g ⟨_,hb,by simp⟩ hρ hg) hnew hw rfl (λhe=>by
      rw[hset];exact⟨rfl,rfl,by simp[big],by simp,.inr ⟨g,cs,rfl,hw,by simp,by simp⟩⟩)
     rw[hset]at htake
     have hsub:=Hj (β:=⟨U g,s,0⟩) (ID.fresh id hid hHd)
     refine⟨_,w,_,hrun,htake.1,TD.mono (Ext.refl _ _) (λ_ h=>h) hsub ID.bnd, ?_⟩
     have:=Zk.ow (ρ:=Cd ρ id ⟨U g,s,0⟩) (w:=w) (Im:=Im) (c:=0) (a:=ad) (I9 ρ id ⟨U g,s,0⟩) (Lr _) (by simp[big]) (.inl rfl)
     omega
    .rcases ha with ha|⟨g',hg',rfl,hrow⟩
     .omega
     rw[hg]at hg';cases hg'
     have hcs:c*s<=cs.size:=by grind[Sx.rows]
     have hE1':=Z3t h2' hg hw
     have hroom:(els.length+xs.length)*s<=cs.size:=Nat.le_trans (G s hfit) hcs
     have hfitl:els.length*s+u.toList.length<=cs.toList.length:=by grind
     have hone:∀v∈u.toList,v.oneCell'=X:=by
      intro v hv
      obtain⟨k,hk⟩:=Lx hv
      have hk':u[k]?=U v:=by grind
      exact hu2.2.2.1 k v hk' (by grind)
     have hst:=run_storeCells_at P g (els.length*s) e u.toList 0 cs w hw (by omega) hone
     simp only[Lz]at hst
     have hrun:=run0 _ (by simp only[La,Nat.zero_add];exact hst)
     have hlen:((cs.toList.take (els.length*s)++u.toList++cs.toList.drop (els.length*s+u.toList.length)).toArray).size=cs.size:=by grind
     have hget:∀j,((cs.toList.take (els.length*s)++u.toList++cs.toList.drop (els.length*s+u.toList.length)).toArray)[j]?=if j<els.length*s then cs[j]? else if j<els.length*s+u.size then u[j-els.length*s]? else cs[j]?:=by grind[A6]
     have hrel:=Z9Z hE1' hu2 (cs:=(cs.toList.take (els.length*s)++u.toList++cs.toList.drop (els.length*s+u.toList.length)).toArray) (by omega)
      (λj hj=>by grind) (λj hj=>by grind)
     have hlb:(els++xs).length<=big:=by grind[big]
     have htake:=ID.take id hid hHd g s (els++xs).length cs _ e (.arr e s (els++xs)) (λk κ hl hk=>hdead k κ g hl hk hg) (I.notIm b' β g ⟨_,hb,by simp⟩ hρ hg) hnew hw hlen (λhe=>by
      refine⟨rfl,rfl,hlb,hrel.1,.inr ⟨g,_,rfl,setRow_heap w g cs _ e _ hw,hrel.2.1,λi e o y hi ho=>?_⟩⟩
      obtain⟨v,k1,k2⟩:=hrel.2.2.2 i e o y hi ho
      exact⟨v,k1,k2.mono he (λ_ h=>h)⟩)
     have hsub:=Hj (β:=⟨U g,s,(els++xs).length⟩) (ID.fresh id hid hHd)
     refine⟨_,_,_,hrun,htake.1,TD.mono htake.2 (λ_ h=>h) hsub ID.bnd, ?_⟩
     have:=Zk.ow (ρ:=Cd ρ id ⟨U g,s,(els++xs).length⟩) (w:=w.setRow g (cs.toList.take (els.length*s)++u.toList++cs.toList.drop (els.length*s+u.toList.length)).toArray) (Im:=Im) (c:=c) (a:=U ⟨g,0,V⟩) (I9 ρ id ⟨U g,s,(els++xs).length⟩)
      (by grind) hlb (.inr ⟨g,rfl,rfl,by grind[Ao]⟩)
     grind
  .-- a new row
   generalize hcap:(Lt (els.length+xs.length) c e).cut (w.tape w.drawn (.appendCap (els.length+xs.length) c e))=newCap
   have hcapge:els.length+xs.length<=newCap:=by rw[<-hcap];exact Nat.le_add_right _ _
   have hnot:¬ els.length+xs.length<=c:=hfit
   have hroom:¬ (Lj (els.length+xs.length) c*nb > 2^48):=by
    have h1:=nextslicecap_le (els.length+xs.length) c (by omega)
    have h2:Lj (els.length+xs.length) c*nb<=(2*(els.length+xs.length)+192)*65536:=Nat.mul_le_mul h1 hib
    omega
   obtain⟨ux',m1,m2,m3⟩:=TM (P:=P) (w:=w.drew) (Im:=Im) (p:=ad) (n:=els.length) (c:=c) (s:=s) (els:=els) hs1 hlxx (hcellxx.imp (λh=>h) λ⟨q,k1,k2,k3⟩=>⟨q,k1,k2,λi e o y hi ho=>let ⟨u,m1,m2⟩:=k3 i e o y hi ho;⟨u,m1,m2.mono (Ext.draw Im w) (λ_ h=>h)⟩⟩)
   have hsize:(ux'++u'++R z.cells (newCap-(els.length+xs.length))).size=newCap*s:=by
    simp only[Array.size_append,R,Array.size_map,Array.size_range,m3,n3,hzlen,<-L]
    congr 1;omega
   have hrel:=Z9Z m2 n2 (cs:=ux'++u'++R z.cells (newCap-(els.length+xs.length))) (by grind)
    (λj hj=>by grind)
    (λj hj=>by rw[Array.append_assoc,Array.getElem?_append_right (by omega),Array.getElem?_append_left (by omega)];congr 1;omega)
   have hlb:(els++xs).length<=big:=by grind[big]
   obtain⟨ρ',q1,q2,q3,q4⟩:=EY.arr (ty:=e) (c:=newCap) ID.draw hid hHd hrel hlb (by grind) (by omega)
   refine⟨_,_,ρ', ?_,q1,(TD.mono (Ext.draw Im w) (λ_ h=>h) (λ_ _ h=>h) ID.bnd).mono q2 (λ_ h=>h) q3 ID.draw.bnd,q4⟩
   have:=B ad c ux' newCap hnot hcap hroom m1
   rw[LZ]
   simp[execOp,ho,resolve,hvx,hvy,invoke,builtin,g2,this]
def Zk2{P}{o:Oper}{id t t':Nat}{x y:Operand}{hs}{H:Heap}{E:Operand->AV}{b:Nat}{r:Be}{Ow Im0 w0 ρ w Im clk a tmps}(ho:o.op=.call ⟨.builtin .append,#[x,y],#[t,t']⟩)(h:M6 P t t' id hs (E x) (E y) H=U (b,r))(I:Inv Ow Im0 w0 ρ w Im H clk)(T:Ct Ow.ds ρ w Im tmps a)(b7:clk*8000<=id)(hH:H id=V)(hx:Zk ρ w Im (E x) (a.eval x))(hy:Zk ρ w Im (E y) (a.eval y))(d3:B9 r.ph) :∃v w' ρ',(execOp a.eval o).run P w=.ok (.value v) w'/\Inv Ow Im0 w0 ρ' w' Im (r.heap (Bm H b .dead)) clk/\Ct Ow.ds ρ' w' Im tmps a/\Zk ρ' w' Im r.val v:=by
 unfold M6 at h;split at h;rotate_left;cases h;rename_i b' b6;split at h;rotate_left;cases h;rename_i ty s els hb;split at h;rotate_left;cases h;rename_i e e2 he d1;split at h;rotate_left;cases h;rename_i s' xs a0;split at h;rotate_left;cases h;rename_i hc;obtain⟨b9,b1,b8,rfl,c9,c7,hz,m⟩:=hc;have m:=L9 m;have a3:0<s:=Xa b1;have fin:els.length+xs.length<=2^30->b'=b->∃v w' ρ',(execOp a.eval o).run P w=.ok (.value v) w'/\Inv Ow Im0 w0 ρ' w' Im (Bm (Bm H b .dead) id (.arr e s (els++xs))) clk/\Ct Ow.ds ρ' w' Im tmps a/\Zk ρ' w' Im (.ow id) v:=by
  rintro a5 rfl;rw[b6]at hx;obtain⟨p,cy,c3,c8,d0,a8,d⟩:=Zag I hy a0 b8;obtain⟨u,c0,c1,c2⟩:=TM (P:=P) (p:=p) (n:=xs.length) (c:=cy) a3 a8 d;have b4:P.underlying t=U (.slice e):=by grind[Gq]
  have k:P.underlying t'=U (.slice e2):=by grind[Gq]
  have b2:(sizeOf e).run P w=.ok s w:=SR b9 b1 w;have a1:∃i,P.info? e=U i/\i.bytes=bytesOf P e:=by grind[bytesOf]
  obtain⟨i,hi,d2⟩:=a1;unfold Pb at hz;split at hz;rotate_left;cases hz;rename_i zs f;have j:zs.length=s:=by grind
  unfold R5 at f;split at f;rotate_left;cases f;rename_i z c6;have c5:∀w,(zeroValue e).run P w=.ok z w:=λw=>Dk (P:=P) c6 w;split at f;rotate_left;cases f;rename_i l hl;have c4:=(Rl (λ_=>V) w Im z).cells hl;obtain⟨u',n1,n2,n3⟩:=TM (P:=P) (w:=w.drew) (Im:=Im) (p:=p) (n:=xs.length) (c:=cy) (s:=s) (els:=xs) a3 a8 (d.imp (λh=>h) λ⟨q,k1,k2,k3⟩=>⟨q,k1,k2,λi e o y hi ho=>let ⟨u,m1,m2⟩:=k3 i e o y hi ho;⟨u,m1,m2.mono (Ext.draw Im w) (λ_ h=>h)⟩⟩);have a4:z.cells.size=s:=by(rw[c4.1,AA f];simpa[Eg]using j)
  refine Z7r (nb:=i.bytes) ho c3 I T b7 hH hx hb a3 oq m a5 c1 c2 n2 n3 a4 (λad c w' a7 d4=>?_) (λad c d5 b5 b0 a6 a2 m1=>?_);unfold Lb;simp only[C,S,F,W,run_underlying b4,run_underlying k,Z,Li,N,b2,O,if_false,a7,if_true,LN,c0];cases ad<;>simp_all;have a9:¬ (((els.length+xs.length:Nat):Int) > Le.max/\(False\/i.bytes=0)):=by grind
  have b3:∀w,(typeInfo e).run P w=.ok i w:=λw=>by simp[typeInfo,hi]
  have g:(Lt (els.length+xs.length) c e).forced=M:=rfl;unfold Lb;simp only[C,S,F,W,run_underlying b4,run_underlying k,Z,Li,N,b2,O,if_false,b0,LN,if_true,b3];rw[if_neg a9];simp only[N,LF,a2,if_false,run_choose,g,O,LH,a6,Z,run_askRoom,m1,n1,c5,W,newRow,run_newObj,LG,b3]
 grind[B9,Be.heap]
def ZcN{P}{o:Oper}{id t t':Nat}{x y:Operand}{hs}{H:Heap}{E:Operand->AV}{b:Nat}{r:Be}{k:IntKind}{n Ow Im0 w0 ρ w Im clk a tmps}(ho:o.op=.call ⟨.builtin .append,#[x,y],#[t,t']⟩)(h:Z0r P t t' id hs (E x) n H=U (b,r))(c3:E y=.d (.sc (.int k n)))(I:Inv Ow Im0 w0 ρ w Im H clk)(T:Ct Ow.ds ρ w Im tmps a)(c5:clk*8000<=id)(hH:H id=V)(hx:Zk ρ w Im (E x) (a.eval x))(hy:Zk ρ w Im (E y) (a.eval y))(f0:B9 r.ph) :∃v w' ρ',(execOp a.eval o).run P w=.ok (.value v) w'/\Inv Ow Im0 w0 ρ' w' Im (r.heap (Bm H b .dead)) clk/\Ct Ow.ds ρ' w' Im tmps a/\Zk ρ' w' Im r.val v:=by
 unfold Z0r at h;split at h;rotate_left;cases h;rename_i b' c2;split at h;rotate_left;cases h;rename_i ty s els hb;split at h;rotate_left;cases h;rename_i e he d7;split at h;rotate_left;cases h;rename_i b7 d;split at h;rotate_left;cases h;rename_i hc;obtain⟨b9,b1,rfl,d6,d3,hz,a9⟩:=hc;have a9:=L9 a9;have c6:0<s:=Xa b1;have fin:0<=n/\(els.length:Int)+n<=2^30->b'=b->∃v w' ρ',(execOp a.eval o).run P w=.ok (.value v) w'/\Inv Ow Im0 w0 ρ' w' Im (Bm (Bm H b .dead) id (.arr e s (els++Y n.toNat b7))) clk/\Ct Ow.ds ρ' w' Im tmps a/\Zk ρ' w' Im (.ow id) v:=by
  rintro⟨d9,c4⟩ rfl;have c8:a.eval y=.int k n:=BV (c3▸hy);generalize d5:Y n.toNat b7=xs;have b4:xs.length=n.toNat:=by grind
  have b8:els.length+xs.length<=2^30:=by omega
  have p:Le.wrap n=n:=by grind[IntKind.wrap_i64]
  have d1:=d;unfold R5 at d;split at d;rotate_left;cases d;rename_i z d2;split at d;rotate_left;cases d;rename_i l hl;have a6:b7.length=s:=by grind[Pb]
  have b6:∀w,(zeroValue e).run P w=.ok z w:=λw=>Dk (P:=P) d2 w;have d0:=(Rl (λ_=>V) w Im z).cells hl;have b5:z.cells.size=s:=by(rw[d0.1,AA d];simpa[Eg]using a6)
  rw[c2]at hx;have b2:∀w,Hi w Im s xs (R z.cells n.toNat):=by grind[Z0n,R]
  have b3:(R z.cells n.toNat).size=xs.length*s:=by grind[R]
  generalize c0:R z.cells n.toNat=u at b2 b3;have a8:n.toNat*s=0->u=#[]:=by grind
  have a5:P.underlying t=U (.slice e):=by grind[Gq]
  obtain⟨k2,m⟩:∃k2,P.underlying t'=U (.int k2):=by(grind[Z92])
  have f1:(sizeOf e).run P w=.ok s w:=SR b9 b1 w;have b0:∃i,P.info? e=U i/\i.bytes=bytesOf P e:=by grind[bytesOf]
  obtain⟨i,hi,d8⟩:=b0;have q:∀w,(typeInfo e).run P w=.ok i w:=λw=>by simp[typeInfo,hi]
  have j:∀w,(sizeOf e).run P w=.ok s w:=λw=>SR b9 b1 w;have a3:¬ (n*(i.bytes:Int) > 2^48):=by(have h1:n*(i.bytes:Int)<=2^30*65536:=Int.mul_le_mul oq oq oq oq;omega)
  have a4:¬ n<0:=by omega
  refine Z7r (nb:=i.bytes) ho c8 I T c5 hH hx hb c6 oq a9 b8 (b2 w) b3 (b2 w.drew) b3 b5 (λad c w' d4 c9=>?_) (λad c f2 c1 a2 a0 g m1=>?_);have a1:els.length+n.toNat<=c:=by omega
  rw[b4];unfold Lb;by_cases h0:n.toNat*s=0;simp only[C,S,F,W,run_underlying a5,run_underlying m,Z,N,j,asInt,asIntOf,p,a4,if_false,q,a3,Lo,O,if_true,reduceCtorEq,a1,h0];rw[a8 h0]at c9;cases ad<;>simp_all;simp only[C,S,F,W,run_underlying a5,run_underlying m,Z,N,j,asInt,asIntOf,p,a4,if_false,q,a3,Lo,O,if_true,reduceCtorEq,a1,h0,b6,c0];cases ad<;>simp_all;have a7:¬ (((els.length+n.toNat:Nat):Int) > Le.max/\(True\/i.bytes=0)):=by
   rintro⟨h,_⟩;have:Le.max=9223372036854775807:=by decide
   omega
  have f:(Lt (els.length+n.toNat) c e).forced=M:=rfl;rw[b4]at a0 g a2;rw[b4];unfold Lb;by_cases h0:n.toNat*s=0;have c7:=a8 h0;subst c7;simp only[C,S,F,W,run_underlying a5,run_underlying m,Z,N,j,asInt,asIntOf,p,a4,if_false,q,a3,Lo,O,if_true,reduceCtorEq,a2,h0,a7];simp only[N,LF,g,if_false,run_choose,f,O,LH,a0,Z,run_askRoom,m1,b6,W,newRow,run_newObj,LG,q];simp only[C,S,F,W,run_underlying a5,run_underlying m,Z,N,j,asInt,asIntOf,p,a4,if_false,q,a3,Lo,O,if_true,reduceCtorEq,a2,h0,a7];simp only[N,LF,g,if_false,run_choose,f,O,LH,a0,Z,run_askRoom,m1,b6,c0,W,newRow,run_newObj,LG,q]
 grind[B9,Be.heap]
def Zkr{P}{o:Oper}{id t t':Nat}{x y:Operand}{hs}{H:Heap}{E:Operand->AV}{b:Nat}{r:Be}{Ow Im0 w0 ρ w Im clk a tmps}(g:o.op=.call ⟨.builtin .append,#[x,y],#[t,t']⟩)(h:DU P t t' id hs (E x) (E y) H=U (b,r))(I:Inv Ow Im0 w0 ρ w Im H clk)(T:Ct Ow.ds ρ w Im tmps a)(c:clk*8000<=id)(f:H id=V)(i:Zk ρ w Im (E x) (a.eval x))(j:Zk ρ w Im (E y) (a.eval y))(d:B9 r.ph) :∃v w' ρ',(execOp a.eval o).run P w=.ok (.value v) w'/\Inv Ow Im0 w0 ρ' w' Im (r.heap (Bm H b .dead)) clk/\Ct Ow.ds ρ' w' Im tmps a/\Zk ρ' w' Im r.val v:=by unfold DU at h;split at h;rename_i k n e;exact ZcN g h e I T c f i j d;exact Zk2 g h I T c f i j d
def Z0F(P:Program)(t:Nat)(hs:List Hint)(x:AV)(H:Heap):Option Be:=
 match Gq P t with
 |none=>V
 |some e=>match BG P e with
  |0=>V
  |s+1=>match R5 P e with
   |none=>V
   | some a=>if a.length=s+1 then
    match x with
    |.ow b=>match H b with
     | some (.arr ty s2 els)=>if s2=s+1 then
      match hs with|.els l'::_=>U ⟨.tu [],U (b,.arr ty s2 l'),[Cc els 0 (Y els.length a)=l']⟩|_=>U ⟨.tu [],U (b,.arr ty s2 (Cc els 0 (Y els.length a))),[]⟩
      else V
     |_=>V
    |.os b o n=>match H b with
     | some (.arr ty s2 els)=>if s2=s+1 then
      match hs with|.els l'::_=>U ⟨.tu [],U (b,.arr ty s2 l'),[Cc els o (Y n a)=l']⟩|_=>U ⟨.tu [],U (b,.arr ty s2 (Cc els o (Y n a))),[]⟩
      else V
     |_=>V
    |_=>V
    else V
def ZlL{P}{o:Oper}{id}{E:Operand->AV}{H:Heap}{r:Be}{x:Operand}{t:Nat}{hs}(ho:o.op=.call ⟨.builtin .clear,#[x],#[t]⟩)(h:Z0F P t hs (E x) H=U r):E3 P o id E H r:=by
 intro Ow a5 w0 ρ w Im a6 a I d1 hH hE b7;have hx:=hE x;unfold Z0F at h;split at h;cases h;rename_i e he;split at h;cases h;rename_i s d4;split at h;cases h;rename_i zs d;split at h;rotate_left;cases h;rename_i a0;have c4:P.underlying t=U (.slice e):=by(unfold Gq at he;split at he;cases he;assumption;cases he)
 have c9:=d;unfold R5 at d;split at d;rotate_left;cases d;rename_i z d0;split at d;rotate_left;cases d;rename_i l hl;have c8:(zeroValue e).run P w=.ok z w:=Dk (P:=P) d0 w;have c7:=(Rl (λ_=>V) w Im z).cells hl;have a4:z.cells.size=s+1:=by(rw[c7.1,AA d];simpa[Eg]using a0)
 have fin:∀(b c n g c':Nat) (p:Nat) (els:List (List DV)) (β:Bi),ρ b=U β->H b=U (.arr p (s+1) els)->β.g=U g->a.eval x=.slice (U ⟨g,c*(s+1),V⟩) n c'->0<n->c+n<=els.length ->
   Goes P o a w λv w'=>EY Ow a5 w0 ρ w Im a6 (Bm H b (.arr p (s+1) (Cc els c (Y n zs)))) (.tu []) v w':=by
  intro b c n g c' p els β hρ hb hg f d2 d3;obtain⟨u,hu⟩:∃u,R z.cells n=u:=⟨_,rfl⟩
  have c2:Hi w Im (s+1) (Y n zs) u:=by
   have:=Z0n (w:=w) (Im:=Im) n hl d a0;rw[<-hu];unfold R;rw[a4]at this⊢;exact this
  have b2:u.size=(Y n zs).length*(s+1):=by
   rw[<-hu];simp[R,a4]
  obtain⟨β',h1,h2⟩:=I.blk b _ hb;rw[hρ]at h1;cases h1;have a8:=h2;obtain⟨g1,g2,g3,g4,g5⟩:=h2;rcases g5 with⟨g5,_⟩|⟨g',cs,b3,hw,c1,c6⟩
  .rw[hg]at g5;cases g5
  rw[hg]at b3;cases b3;have a1:=Z3t a8 hg hw;have d5:(Y n zs).length=n:=by simp
  generalize d6:Y n zs=xs at *;have a2:c*(s+1)+u.toList.length<=cs.toList.length:=by
   have:(c+xs.length)*(s+1)<=els.length*(s+1):=G _ oq;rw[L]at this;simp[b2];omega
  have b6:∀v∈u.toList,v.oneCell'=X:=by
   intro v hv;obtain⟨k,hk⟩:=Lx hv;have b5:u[k]?=U v:=by simpa using hk
   exact c2.2.2.1 k v b5 (by rw[<-b2];exact(LK.1 b5).1)
  have c0:=run_storeCells_at P g (c*(s+1)) p u.toList 0 cs w hw (by simpa using a2) b6;simp only[Lz]at c0;obtain⟨bg,bs,bn⟩:=β;simp only at hg g1 g2;subst hg;subst g1;subst g2;have a3:((cs.toList.take (c*(s+1))++u.toList++cs.toList.drop (c*(s+1)+u.toList.length)).toArray).size=cs.size:=by
   rw[L5,SQ a2];simp
  have b4:∀j,((cs.toList.take (c*(s+1))++u.toList++cs.toList.drop (c*(s+1)+u.toList.length)).toArray)[j]?=if j<c*(s+1)then cs[j]? else if j<c*(s+1)+u.size then u[j-c*(s+1)]? else cs[j]?:=by
   intro j;rw[C,A6 a2];simp
  have b9:=Z6Q a1 c2 b2 (show c+xs.length<=els.length by omega) a3 b4;have a7:=I.put b g (s+1) els.length cs _ p (.arr p (s+1) (Cc els c xs)) hρ hw a3 ⟨_,hb,by simp⟩ (λhe=>by
   have hl:(Cc els c xs).length=els.length:=SQ oq;refine⟨rfl,hl.symm,by rw[hl];exact g3,b9.1,.inr ⟨g,_,rfl,setRow_heap w g cs _ p _ hw,by rw[a3,hl];exact c1,λi e o y hi ho=>?_⟩⟩;obtain⟨v,k1,k2⟩:=b9.2.2.2 i e o y hi ho;exact⟨v,k1,k2.mono he (λ_ h=>h)⟩)
  refine .inl ⟨.tuple #[],_, ?_,ρ,a7.1,a7.2,λ_ _ h=>h,.tu [] #[] rfl (λi a v h=>by simp at h)⟩;have a9:(Lp #[t] o.type #[.slice (U ⟨g,c*(s+1),V⟩) n c']).run P w=.ok (.tuple #[]) (w.setRow g (cs.toList.take (c*(s+1))++u.toList++cs.toList.drop (c*(s+1)+u.toList.length)).toArray):=by
   unfold Lp;obtain⟨m,rfl⟩:∃m,n=m+1:=⟨n-1,by omega⟩
   simp only[C,S,W,run_underlying c4,Z,N,c8,hu,c0]
  simp[execOp,ho,resolve,f,invoke,builtin,a9]
 have nil:∀(b c:Nat) (p:Nat) (els:List (List DV)) (ad:Option Addr) (c':Nat),H b=U (.arr p (s+1) els)->a.eval x=.slice ad 0 c' ->
   Goes P o a w λv w'=>EY Ow a5 w0 ρ w Im a6 (Bm H b (.arr p (s+1) (Cc els c (Y 0 zs)))) (.tu []) v w':=by
  intro b c p els ad c' hb f;have b1:Cc els c (Y 0 zs)=els:=by simp[Cc]
  have c3:Bm H b (.arr p (s+1) els)=H:=by funext k;unfold Bm;split<;>simp_all
  rw[b1,c3];refine .inl ⟨.tuple #[],w, ?_,.same I (.tu [] #[] rfl (λi a v h=>by simp at h))⟩;have a9:(Lp #[t] o.type #[.slice ad 0 c']).run P w=.ok (.tuple #[]) w:=by
   unfold Lp;cases ad<;>simp only[C,S,W,run_underlying c4,Z,N]
  simp[execOp,ho,resolve,f,invoke,builtin,a9]
 split at h
 .rename_i b a1;rw[a1]at hx;split at h;rotate_left;cases h;rename_i p s2 els hb;split at h;rotate_left;cases h;rename_i b0;subst b0;generalize f:a.eval x=v at hx;cases hx with
  |ow hρ hc c5 ha =>
   rename_i c' ad β;obtain⟨β',h1,h2⟩:=I.blk b _ hb;rw[hρ]at h1;cases h1;have a8:=h2;obtain⟨g1,g2,_,_,_⟩:=h2;have q:Goes P o a w λv w'=>EY Ow a5 w0 ρ w Im a6 (Bm H b (.arr p (s+1) (Cc els 0 (Y els.length zs)))) (.tu []) v w':=by(rcases L8 els.length with h0|hpos;rw[h0];exact nil b 0 p els ad c' hb (by rw[f,g2,h0]);rcases ha with ha|⟨g,hg,rfl,b8⟩;omega;exact fin b 0 els.length g c' p els β hρ hb hg (by rw[f,g2];simp) hpos oq)
   split at h;rename_i l' _;cases h;have p2:Cc els 0 (Y els.length zs)=l':=by simpa[B9]using b7
   rw[<-p2];exact q;cases h;exact q
 .rename_i b c n a1;rw[a1]at hx;split at h;rotate_left;cases h;rename_i p s2 els hb;split at h;rotate_left;cases h;rename_i b0;subst b0;generalize f:a.eval x=v at hx;cases hx with
  |os hρ hn hc c5 ha =>
   rename_i c' ad β;obtain⟨β',h1,h2⟩:=I.blk b _ hb;rw[hρ]at h1;cases h1;have a8:=h2;obtain⟨g1,g2,_,_,_⟩:=h2;have q:Goes P o a w λv w'=>EY Ow a5 w0 ρ w Im a6 (Bm H b (.arr p (s+1) (Cc els c (Y n zs)))) (.tu []) v w':=by(rcases L8 n with h0|hpos;rw[h0]at f⊢;exact nil b c p els ad c' hb f;rcases ha with ha|⟨g,hg,rfl,b8⟩;omega;exact fin b c n g c' p els β hρ hb hg (by rw[<-g1];exact f) hpos oq)
   split at h;rename_i l' _;cases h;have p2:Cc els c (Y n zs)=l':=by simpa[B9]using b7
   rw[<-p2];exact q;cases h;exact q
 cases h
end Go.Sx
