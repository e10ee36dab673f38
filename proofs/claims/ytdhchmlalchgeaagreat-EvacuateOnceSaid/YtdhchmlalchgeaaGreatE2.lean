/-
 The statement EvacuateOnce: part 2.
 Conditions: none.
-/
import Derived.Laws.Small
import Derived.Test.YtdhchmlalchgeaaGreatE1
set_option maxRecDepth 100000
set_option maxHeartbeats 2000000
set_option linter.all false
namespace Go.Sx
def Z9l(P:Program)(t f:Nat):Option Field:=match P.underlying t with | some (.struct fs)=>fs[f]? | _=>none
def Z5b(P:Program)(t f:Nat)(x:AV):Option Res :=
 match Z9l P t f with
 | some fd=>match szOf P fd.type with
  | 0=>none
  | _+1=>match x with
   | .pt b i o=>some ⟨.pt b i (o+fd.offset),none,[]⟩
   | .rp e o=>some ⟨.rp e (o+fd.offset),none,[]⟩
   | _=>none
 | none=>none
theorem Z8H{P:Program}{w:World}{t f:Nat}{fd:Field}{n:Nat}(h:Z9l P t f=some fd)(hz:szOf P fd.type=n+1)(g o:Nat) :
  (Instr.fieldAt t (.pointer (some ⟨g,o,none⟩)) f).run P w = .ok (.pointer (some ⟨g,o+fd.offset,none⟩)) w:=by
 unfold Z9l at h;split at h
 ·rename_i fs hu;have hs:=Z3U hz pq w;simp[Instr.fieldAt,run_underlying hu,h,Instr.sureAddr,fieldPlace,hs,Addr.add_lit]
 ·cases h
theorem Z9b{P:Program}{o:Oper}{id:Nat}{E:Operand→AV}{H:Heap}{r:Res}{x:Operand}{t f:Nat}
  (ho:o.op = .fieldAddr t x f) (h:Z5b P t f (E x)=some r):Z2h P o id E H r:=by
 intro Ow Im0 w0 ρ w Im clk a I _ _ hE _;have hx:=hE x;unfold Z5b at h;split at h;rotate_left
 ·cases h
 rename_i fd hfd;split at h
 ·cases h
 rename_i n hz;split at h
 ·rename_i b i oo hE';cases h;rw[hE']at hx;obtain⟨g,s,m,hρ,hv⟩:=Z2J hx;refine .inl ⟨.pointer (some ⟨g,i*s+oo+fd.offset,none⟩),w,by simp[execOp,ho,hv,Z8H hfd hz],.same I ?_⟩;have:=Rel.pt (w:=w) (Im:=Im) (i:=i) (o:=oo+fd.offset) hρ;rwa [← Nat.add_assoc]at this
 ·rename_i e oo hE';cases h;rw[hE']at hx;generalize hv:a.eval x=v at hx;cases hx with
  | rp hp him hc =>
   rename_i p;refine .inl ⟨.pointer (some ⟨p.block,p.off+oo+fd.offset,none⟩),w,by simp[execOp,ho,hv,Z8H hfd hz],.same I ?_⟩;have:=Rel.rp (ρ:=ρ) (o:=oo+fd.offset) hp him hc;rwa [← Nat.add_assoc]at this
 ·cases h
def Zbg(P:Program)(t f:Nat)(x:AV):Option Res :=
 match Z9l P t f with
 | some fd=>match x with
  | .ag l=>(Z9T P fd.type l fd.offset).map fun y=>⟨y,none,[]⟩
  | _=>none
 | none=>none
theorem ZlK{P:Program}{w:World}{t:Nat}{l:List AV}{cs:Array Value}{o:Nat}{x:AV}{ρ:Rho}{Im:Nat→Prop}(hn:cs.size=l.length)(hone:∀ (i:Nat) (u:Value),cs[i]? = some u→u.oneCell'=true)
  (hc:∀ (i:Nat) (a:AV) (u:Value),l[i]? = some a→cs[i]? = some u→Rel ρ w Im a u) (hx:Z9T P t l o=some x):∃ v,(part t cs o).run P w = .ok v w∧Rel ρ w Im x v:=by
 unfold Z9T at hx;split at hx
 ·rename_i hagg;split at hx
  ·rename_i hlen;cases hx;have hs:(sizeOf t).run P w = .ok (szOf P t) w:=by
    unfold Z6U at hagg;unfold szOf;cases hi:P.info? t with
    | none=>simp[Program.underlying,hi]at hagg
    | some i=>simp[sizeOf,typeInfo,hi]
   refine⟨.agg (cs.extract o (o+szOf P t)),by simp[part,Z4Y hagg,hs],.ag _ _ ?_ ?_ ?_⟩
   ·have:(seg l o (szOf P t)).length=min (szOf P t) (l.length-o):=by simp[seg]
    simp;omega
   ·intro i u hu;rw[Array.getElem?_extract]at hu;split at hu
    ·exact hone _ u hu
    ·cases hu
   ·intro i a u ha hu;rw[Array.getElem?_extract]at hu;split at hu
    ·refine hc _ a u ?_ hu;simp only[seg]at ha;rw[List.getElem?_take]at ha;split at ha
     ·rwa [List.getElem?_drop]at ha
     ·cases ha
    ·cases hu
  ·cases hx
 ·rename_i hagg;have ho:o<cs.size:=by rw[hn];exact(List.getElem?_eq_some_iff.1 hx).1
  exact⟨cs[o],by simp[part,Z4Y hagg,ho],hc o x _ hx (Array.getElem?_eq_getElem ho)⟩
 ·cases hx
theorem ZeQ{P:Program}{o:Oper}{id:Nat}{E:Operand→AV}{H:Heap}{r:Res}{x:Operand}{t f:Nat}
  (ho:o.op = .field t x f) (h:Zbg P t f (E x)=some r):Z2h P o id E H r:=by
 intro Ow Im0 w0 ρ w Im clk a I _ _ hE _;have hx:=hE x;unfold Zbg at h;split at h;rotate_left
 ·cases h
 rename_i fd hfd;split at h;rotate_left
 ·cases h
 rename_i l hE';simp only[Option.map_eq_some_iff]at h;obtain⟨y,hy,rfl⟩:=h;obtain⟨cs,hv,hn,hone,hc⟩:=Z3u (hE'▸hx);obtain⟨v,k1,k2⟩:=ZlK (P:=P) hn hone hc hy;unfold Z9l at hfd;split at hfd
 ·rename_i fs hu;exact .inl ⟨v,w,by simp[execOp,ho,hv,Instr.field,run_underlying hu,hfd,asAgg,k1],.same I k2⟩
 ·cases hfd
def Z1b(P:Program)(t:Nat):Option Nat:=match P.underlying t with | some (.slice e)=>some e | _=>none
def ZcT(P:Program)(t:Nat):Option (Nat×Nat):=match P.underlying t with | some (.array n e)=>some (n,e) | _=>none
def intH(hs:List Hint)(n:Int):Int×List Prop:=match hs with
 | .int m::_=>(m,[n=m])
 | _=>(n,[])
theorem ZnX{hs:List Hint}{n m:Int}{ps:List Prop}(h:intH hs n=(m,ps))(hp:allP ps):n=m:=by
 unfold intH at h;split at h
 ·cases h;exact hp
 ·cases h;rfl
def Z3S(P:Program)(t:Nat)(hs:List Hint)(x y:AV)(H:Heap):Option Res :=
 match y with
 | .d (.sc (.int _ n))=>match Z1b P t with
  | some e=>match x with
   | .d (.sl s els)=>if szOf P e=s∧s≠0 then
    match hs with
    | .el e::_=>some ⟨.rp e 0,none,[0≤n∧els[n.toNat]? = some e]⟩
    | _=>none
    else none
   | .ow b=>match H b with
    | some (.arr _ s els)=>if szOf P e=s∧s≠0 then some ⟨.pt b n.toNat 0,none,[0≤n∧n.toNat<els.length]⟩else none
    | _=>none
   | .os b o m=>match H b with
    | some (.arr _ s _)=>if szOf P e=s∧s≠0 then some ⟨.pt b (o+n.toNat) 0,none,[0≤n∧n.toNat<m]⟩else none
    | _=>none
   | _=>none
  | none=>match ZcT P t with
   | some (m,e)=>match x with
    | .pt b i o=>match intH hs n with
     | (.ofNat k,ps)=>if k<m∧szOf P e≠0 then some ⟨.pt b i (o+k*szOf P e),none,ps⟩else none
     | _=>none
    | _=>none
   | none=>none
 | _=>none
theorem Z46{P:Program}{w:World}{t e:Nat}{p:Addr}{len cap:Nat}{k:IntKind}{n:Int}(ht:Z1b P t=some e)(hz:szOf P e≠0)(h0:0≤n)(h1:n<len) :
  (Instr.indexAt t (.slice (some p) len cap) (.int k n)).run P w = .ok (.pointer (some (p.add (n.toNat*szOf P e)))) w:=by
 unfold Z1b at ht;split at ht
 ·rename_i e' hu;cases ht;have hs:=Z3U (P:=P) rfl hz w;simp[Instr.indexAt,run_underlying hu,asIntOf,h0,h1,hs]
 ·cases ht
theorem addr_add{p:Addr}(hp:p.spot=none)(n:Nat):p.add n=⟨p.block,p.off+n,none⟩:=by
 obtain⟨b,o,s⟩:=p;simp only at hp;subst hp;exact Addr.add_lit b o n
theorem Z8B{P:Program}{o:Oper}{id:Nat}{E:Operand→AV}{H:Heap}{r:Res}{x y:Operand}{t:Nat}{hs:List Hint}
  (ho:o.op = .indexAddr t x y) (h:Z3S P t hs (E x) (E y) H=some r):Z2h P o id E H r:=by
 intro Ow Im0 w0 ρ w Im clk a I _ _ hE hph;have hx:=hE x;have hy:=hE y;unfold Z3S at h;split at h;rotate_left
 ·cases h
 rename_i k n hE2;rw[hE2]at hy;have hvy:=Z10 hy;split at h
 ·rename_i e he;split at h
  ·rename_i s els hE1;rw[hE1]at hx;split at h;rotate_left
   ·cases h
   rename_i hsz;split at h;rotate_left
   ·cases h
   rename_i e' _;cases h;obtain⟨p1,p2⟩:0≤n∧els[n.toNat]? = some e':=by simpa[allP]using hph
   generalize hv:a.eval x=v at hx;cases hx with
   | d hx =>
    cases hx with
    | slNil s a c=>simp at p2
    | sl s els p m c f hn hc hb hs hp him hcell hrel =>
     have hlt:n.toNat<els.length:=(List.getElem?_eq_some_iff.1 p2).1;refine .inl ⟨.pointer (some (p.add (n.toNat*szOf P e))),w,by simp[execOp,ho,hv,hvy,Z46 he (by rw[hsz.1];exact hsz.2) p1 (show n<(m:Int)from by omega)],.same I ?_⟩;rw[addr_add hp,hsz.1];have:=Rel.rp (ρ:=ρ) (w:=w) (Im:=Im) (e:=e') (o:=0) (p:=⟨p.block,p.off+n.toNat*s,none⟩) rfl him (fun j d hj=>⟨f n.toNat j,by
      have:=hcell n.toNat e' j d p2 hj;rw[← Nat.add_assoc]at this;exact this,hrel n.toNat e' j d p2 hj⟩)
     simpa using this
  ·rename_i b hE1;rw[hE1]at hx;split at h;rotate_left
   ·cases h
   rename_i ty s els hb;split at h;rotate_left
   ·cases h
   rename_i hsz;cases h;obtain⟨p1,p2⟩:0≤n∧n.toNat<els.length:=by simpa[allP]using hph
   generalize hv:a.eval x=v at hx;cases hx with
   | ow hρ hc hbg ha =>
    rename_i c ad β;obtain⟨β',h1,h2⟩:=I.blk b _ hb;rw[hρ]at h1;cases h1;obtain⟨g1,g2,_,_,_⟩:=h2;rcases ha with ha | ⟨g,hg,rfl,hrow⟩
    ·omega
    ·refine .inl ⟨.pointer (some (Addr.add ⟨g,0,none⟩ (n.toNat*szOf P e))),w,by simp[execOp,ho,hv,hvy,Z46 he (by rw[hsz.1];exact hsz.2) p1 (show n<(β.n:Int)from by omega)],.same I ?_⟩;rw[Addr.add_lit,hsz.1];obtain⟨bg,bs,bn⟩:=β;simp only at hg g1 g2;subst hg;subst g1;have:=Rel.pt (w:=w) (Im:=Im) (i:=n.toNat) (o:=0) hρ;simpa using this
  ·rename_i b oo m hE1;rw[hE1]at hx;split at h;rotate_left
   ·cases h
   rename_i ty s els hb;split at h;rotate_left
   ·cases h
   rename_i hsz;cases h;obtain⟨p1,p2⟩:0≤n∧n.toNat<m:=by simpa[allP]using hph
   generalize hv:a.eval x=v at hx;cases hx with
   | os hρ hn hc hbg ha =>
    rename_i c ad β;obtain⟨β',h1,h2⟩:=I.blk b _ hb;rw[hρ]at h1;cases h1;obtain⟨g1,g2,_,_,_⟩:=h2;rcases ha with ha | ⟨g,hg,rfl,hrow⟩
    ·omega
    ·refine .inl ⟨.pointer (some (Addr.add ⟨g,oo*β.s,none⟩ (n.toNat*szOf P e))),w,by simp[execOp,ho,hv,hvy,Z46 he (by rw[hsz.1];exact hsz.2) p1 (show n<(m:Int)from by omega)],.same I ?_⟩;rw[Addr.add_lit,hsz.1];obtain⟨bg,bs,bn⟩:=β;simp only at hg g1 g2;subst hg;subst g1;have:=Rel.pt (w:=w) (Im:=Im) (i:=oo+n.toNat) (o:=0) hρ;rw[Nat.add_mul]at this;simpa using this
  ·cases h
 ·split at h;rotate_left
  ·cases h
  rename_i m e he;split at h;rotate_left
  ·cases h
  rename_i b i oo hE1;rw[hE1]at hx;split at h;rotate_left
  ·cases h
  rename_i k' ps' hk';split at h;rotate_left
  ·cases h
  rename_i hkm;cases h;have hnk:=ZnX hk' hph;subst hnk;obtain⟨g,s,mm,hρ,hv⟩:=Z2J hx;unfold ZcT at he;split at he
  ·rename_i m' e' hu;cases he;have hsr:=Z3U (P:=P) rfl hkm.2 w;refine .inl ⟨_,w, ?_,.same I (Rel.pt (i:=i) (o:=oo+k'*szOf P e) hρ)⟩;have e1:i*s+oo+k'*szOf P e=i*s+(oo+k'*szOf P e):=by omega
   have hk:(k':Int)<m:=by omega
   simp[execOp,ho,hv,hvy,Instr.indexAt,run_underlying hu,asIntOf,Instr.sureAddr,hsr,Addr.add_lit,e1,hkm.1]
  ·cases he
def ZfO(P:Program)(t:Nat)(hs:List Hint)(x:AV)(H:Heap):Option Res :=
 match Z1b P t with
 | some _=>match x with
  | .d (.sl _ els)=>some (numR .i64 els.length [] hs)
  | .ow b=>match H b with
   | some (.arr _ _ els)=>some (numR .i64 els.length [] hs)
   | _=>none
  | .os _ _ n=>some (numR .i64 n [] hs)
  | _=>none
 | none=>none
theorem ZhF{P:Program}{o:Oper}{id:Nat}{E:Operand→AV}{H:Heap}{r:Res}{x:Operand}{t:Nat}{hs:List Hint}
  (ho:o.op = .call ⟨.builtin .len,#[x],#[t]⟩) (h:ZfO P t hs (E x) H=some r):Z2h P o id E H r:=by
 unfold ZfO at h;split at h;rotate_left
 ·cases h
 rename_i e he;unfold Z1b at he;split at he;rotate_left
 ·cases he
 rename_i e' hu;have base:∀ (w:World) (a:Act) (p:Option Addr) (n c:Nat),a.eval x = .slice p n c→(execOp a.eval o).run P w = .ok (.value (.int .i64 n)) w:=by
  intro w a p n c hv;simp[execOp,ho,resolve,hv,invoke,builtin,Builtin.len_,run_underlying hu,goInt]
 split at h
 ·rename_i s els hE1;cases h;refine Z1G fun ρ w Im a hE _=>?_;have hx:=hE x;rw[hE1]at hx;generalize hv:a.eval x=v at hx;cases hx with
  | d hx =>
   cases hx with
   | slNil s p c=>exact base w a _ _ _ hv
   | sl s els p n c f hn=>rw[base w a _ _ _ hv,hn]
 ·rename_i b hE1;split at h;rotate_left
  ·cases h
  rename_i ty s els hb;cases h;intro Ow Im0 w0 ρ w Im clk a I _ _ hE hph;have hx:=hE x;rw[hE1]at hx;generalize hv:a.eval x=v at hx;cases hx with
  | ow hρ hc hbg ha =>
   rename_i c ad β;obtain⟨β',h1,h2⟩:=I.blk b _ hb;rw[hρ]at h1;cases h1;obtain⟨g1,g2,_,_,_⟩:=h2;have hrun:=base w a _ _ _ hv;rw[g2]at hrun;unfold numR at hph ⊢;split at hph
   ·rename_i m _;obtain⟨h1,_⟩:=allP_cons.1 hph;rw[h1]at hrun;exact .inl ⟨_,w,hrun,.same I (.d (.sc _ rfl))⟩
   ·exact .inl ⟨_,w,hrun,.same I (.d (.sc _ rfl))⟩
 ·rename_i b oo n hE1;cases h;refine Z1G fun ρ w Im a hE _=>?_;have hx:=hE x;rw[hE1]at hx;generalize hv:a.eval x=v at hx;cases hx with
  | os hρ hn hc hbg ha=>exact base w a _ _ _ hv
 ·cases h
def Z7v(n:Nat)(x:AV):Option Res:=match x with | .tu l=>(l[n]?).map fun y=>⟨y,none,[]⟩ | _=>none
theorem Zcc{P:Program}{o:Oper}{id:Nat}{E:Operand→AV}{H:Heap}{r:Res}{x:Operand}{n:Nat}
  (ho:o.op = .extract x n) (h:Z7v n (E x)=some r):Z2h P o id E H r:=by
 intro Ow Im0 w0 ρ w Im clk a I _ _ hE _;have hx:=hE x;unfold Z7v at h;split at h
 ·rename_i l hE1;simp only[Option.map_eq_some_iff]at h;obtain⟨y,hy,rfl⟩:=h;rw[hE1]at hx;generalize hv:a.eval x=v at hx;cases hx with
  | tu l cs hn hc =>
   have hl:n<cs.size:=by rw[hn];exact(List.getElem?_eq_some_iff.1 hy).1
   exact .inl ⟨cs[n],w,by simp[execOp,ho,hv,Instr.extract,hl],.same I (hc n y _ hy (by simp[hl]))⟩
 ·cases h
def Z6i(x:AV):Option Res:=match x with | .pt b i o=>some ⟨.pt b i o,none,[]⟩ | .rp e o=>some ⟨.rp e o,none,[]⟩ | .fn f c=>some ⟨.fn f c,none,[]⟩ | _=>none
theorem Z9X{P:Program}{o:Oper}{id:Nat}{E:Operand→AV}{H:Heap}{r:Res}{x:Operand}
  (ho:o.op = .nilCheck x) (h:Z6i (E x)=some r):Z2h P o id E H r:=by
 intro Ow Im0 w0 ρ w Im clk a I _ _ hE _hph;have hx:=hE x;unfold Z6i at h;split at h<;>first | (cases h;done) | cases h
 ·rename_i b i oo hE1;rw[hE1]at hx;obtain⟨g,s,m,hρ,hv⟩:=Z2J hx;exact .inl ⟨_,w,by simp[execOp,ho,hv],.same I (.pt hρ)⟩
 ·rename_i e oo hE1;rw[hE1]at hx;generalize hv:a.eval x=v at hx;cases hx with
  | rp hp him hc=>exact .inl ⟨_,w,by simp[execOp,ho,hv],.same I (.rp hp him hc)⟩
 ·rename_i f c hE1;rw[hE1]at hx;generalize hv:a.eval x=v at hx;cases hx with
  | fn hn hc=>exact .inl ⟨_,w,by simp[execOp,ho,hv],.same I (.fn hn hc)⟩
def Z4F(fn:Fn)(first captured:Array Operand)(E:Operand→AV):Option Res :=
 match fn,first.toList with
 | .func f,[]=>some ⟨.fn f (captured.toList.map E),none,[]⟩
 | _,_=>none
theorem Za1{P:Program}{o:Oper}{id:Nat}{E:Operand→AV}{H:Heap}{r:Res}{fn:Fn}{first captured:Array Operand}
  (ho:o.op = .makeFunc fn first captured) (h:Z4F fn first captured E=some r):Z2h P o id E H r:=by
 intro Ow Im0 w0 ρ w Im clk a I _ _ hE _;unfold Z4F at h;split at h
 ·rename_i f hf;cases h;have:first = #[]:=by simpa using hf
  subst this;refine .inl ⟨.func (.func f) #[] (captured.map a.eval),w,by simp[execOp,ho,Instr.makeFunc],.same I (.fn pq fun i b v hb hv=>?_)⟩;simp only[List.getElem?_map,Option.map_eq_some_iff]at hb;obtain⟨x,hx,rfl⟩:=hb;have hx':captured[i]? = some x:=by simpa using hx
  simp only[Array.getElem?_map,hx',Option.map_some,Option.some.injEq]at hv;subst hv;exact hE x
 ·cases h
def Z2U(P:Program)(t:Nat):Bool:=match P.underlying t with | some (.interface _)=>false | some _=>true | none=>false
def Z3w(P:Program)(t:Nat)(x:AV):Option Res:=if Z2U P t then some ⟨.ic t x,none,[]⟩else none
theorem Z6g{P:Program}{o:Oper}{id:Nat}{E:Operand→AV}{H:Heap}{r:Res}{x:Operand}{t:Nat}
  (ho:o.op = .makeInterface t x) (h:Z3w P t (E x)=some r):Z2h P o id E H r:=by
 intro Ow Im0 w0 ρ w Im clk a I _ _ hE _;unfold Z3w at h;split at h
 ·rename_i hc;cases h;have hc':P.concrete t=true:=by
   unfold Z2U at hc;unfold Program.concrete;cases hu:P.underlying t with
   | none=>simp[hu]at hc
   | some d=>cases d<;>simp_all
  exact .inl ⟨_,w,by simp[execOp,ho,run_makeInterface (P:=P) w t _ hc'],.same I (.ic (hE x))⟩
 ·cases h
theorem Z5X{P:Program}{w:World}{t:Nat}{z:Value}(h:zeroOf P t=some z):(zeroValue t).run P w = .ok z w:=by
 unfold zeroOf at h;split at h
 ·rename_i i hi;simp[zeroValue,typeInfo,hi,h]
 ·cases h
theorem Zh0{P:Program}{w:World}{t xT:Nat}(hc:Z2U P t=true)(v:Value):(Instr.typeAssert (.iface t v) xT t true).run P w = .ok (.tuple #[v,.bool true]) w:=by
 unfold Z2U at hc;cases hu:P.underlying t with
 | none=>simp[hu]at hc
 | some d=>cases d<;>simp_all[Instr.typeAssert,run_underlying hu]
theorem Zbt{P:Program}{w:World}{t u xT:Nat}{z:Value}(hc:Z2U P t=true)(hz:zeroOf P t=some z)(hn:u≠t)(v:Value):(Instr.typeAssert (.iface u v) xT t true).run P w = .ok (.tuple #[z,.bool false]) w:=by
 unfold Z2U at hc;cases hu:P.underlying t with
 | none=>simp[hu]at hc
 | some d=>cases d<;>simp_all[Instr.typeAssert,run_underlying hu,Z5X hz]
theorem Za5{P:Program}{w:World}{t xT:Nat}{z:Value}(hc:Z2U P t=true)(hz:zeroOf P t=some z):(Instr.typeAssert .nilIface xT t true).run P w = .ok (.tuple #[z,.bool false]) w:=by
 unfold Z2U at hc;cases hu:P.underlying t with
 | none=>simp[hu]at hc
 | some d=>cases d<;>simp_all[Instr.typeAssert,run_underlying hu,Z5X hz]
def noT(z:Value):AV:=.tu [cv z,.d (.sc (.bool false))]
def Z8P(P:Program)(t:Nat)(ok:Bool)(x:AV):Option Res :=
 match Z2U P t,ok,zeroOf P t with
 | true,true,some z=>match x with
  | .ic u a=>match Nat.beq u t with
   | true=>some ⟨.tu [a,.d (.sc (.bool true))],none,[]⟩
   | false=>some ⟨noT z,none,[]⟩
  | .d (.sc .nilIface)=>some ⟨noT z,none,[]⟩
  | _=>none
 | _,_,_=>none
theorem ZdR{ρ:Rho}{w:World}{Im:Nat→Prop}{a b:AV}{x y:Value}(h:Rel ρ w Im a x)(k:Rel ρ w Im b y):Rel ρ w Im (.tu [a,b]) (.tuple #[x,y]):=by
 refine .tu _ _ rfl fun i c v hc hv=>?_
 match i with
 | 0=>simp at hc hv;subst hc;subst hv;exact h
 | 1=>simp at hc hv;subst hc;subst hv;exact k
 | i+2=>simp at hc
theorem ZdJ{P:Program}{o:Oper}{id:Nat}{E:Operand→AV}{H:Heap}{r:Res}{x:Operand}{xT t:Nat}{ok:Bool}
  (ho:o.op = .typeAssert x xT t ok) (h:Z8P P t ok (E x)=some r):Z2h P o id E H r:=by
 intro Ow Im0 w0 ρ w Im clk a I _ _ hE _;unfold Z8P at h;split at h;rotate_left
 ·cases h
 rename_i z hc hz;have h1:=hE x;split at h
 ·rename_i u b hx;rw[hx]at h1;generalize hv:a.eval x=v at h1;cases h1 with
  | ic h1 =>
   split at h
   ·rename_i hb;cases h;obtain rfl:=Nat.eq_of_beq_eq_true hb;exact .inl ⟨_,w,by simp[execOp,ho,hv,Zh0 (w:=w) (xT:=xT) hc],.same I (ZdR h1 (.d (.sc _ rfl)))⟩
   ·rename_i hb;cases h;exact .inl ⟨_,w,by simp[execOp,ho,hv,Zbt (w:=w) (xT:=xT) hc hz (Nat.ne_of_beq_eq_false hb)],.same I (ZdR (Z7b _ _ _ _) (.d (.sc _ rfl)))⟩
 ·rename_i hx;cases h;have h2:=Z10 (hx▸h1);exact .inl ⟨_,w,by simp[execOp,ho,h2,Za5 (w:=w) (xT:=xT) hc hz],.same I (ZdR (Z7b _ _ _ _) (.d (.sc _ rfl)))⟩
 ·cases h
def Zh7(mx:Bool)(hs:List Hint)(x y:AV):Option Res:=match x with
 | .d (.sc (.int k a))=>match y with
  | .d (.sc (.int _ b))=>match mx with
   | true=>some (numR k (if b > a then b else a) [] hs)
   | false=>some (numR k (if b<a then b else a) [] hs)
  | _=>none
 | _=>none
theorem ZiP{P:Program}{o:Oper}{id:Nat}{E:Operand→AV}{H:Heap}{r:Res}{x y:Operand}{t t':Nat}{hs:List Hint}
  (ho:o.op = .call ⟨.builtin .max,#[x,y],#[t,t']⟩) (h:Zh7 true hs (E x) (E y)=some r):Z2h P o id E H r:=by
 unfold Zh7 at h;split at h
 ·rename_i k a hx;split at h
  ·rename_i k' b hy;cases h;refine Z1G fun ρ w Im s hE _=>?_;have h1:=Z10 (hx▸hE x);have h2:=Z10 (hy▸hE y);simp[execOp,ho,resolve,h1,h2,invoke,builtin,run_max_int2]
  ·cases h
 ·cases h
theorem Zih{P:Program}{o:Oper}{id:Nat}{E:Operand→AV}{H:Heap}{r:Res}{x y:Operand}{t t':Nat}{hs:List Hint}
  (ho:o.op = .call ⟨.builtin .min,#[x,y],#[t,t']⟩) (h:Zh7 false hs (E x) (E y)=some r):Z2h P o id E H r:=by
 unfold Zh7 at h;split at h
 ·rename_i k a hx;split at h
  ·rename_i k' b hy;cases h;refine Z1G fun ρ w Im s hE _=>?_;have h1:=Z10 (hx▸hE x);have h2:=Z10 (hy▸hE y);simp[execOp,ho,resolve,h1,h2,invoke,builtin,run_min_int2]
  ·cases h
 ·cases h
theorem ZkR{w:World}{Im:Nat→Prop}{s:Nat}{els:List (List DV)}{a:Option Addr}{n c l h:Nat}(hx:RelD w Im (.sl s els) (.slice a n c))(h1:l≤h)(h2:h≤els.length)(sz:Nat)(hsz:sz=s∨els=[]) :
  n=els.length∧n≤c∨els=[]→RelD w Im (.sl s ((els.drop l).take (h-l))) (.slice (if c=l then a else a.map (·.add (l*sz))) (h-l) (c-l)):=by
 intro _;by_cases he:h-l=0
 ·rw[he];simpa using RelD.slNil s _ _
 ·cases hx with
  | slNil=>simp at h2;omega
  | sl s els p n c f hn hc hb hs hp him hcell hrel =>
   have hsz':sz=s:=by
    rcases hsz with h | h
    ·exact h
    ·subst h;simp at h2;omega
   subst hsz';rw[if_neg oq];simp only[Option.map_some];rw[addr_add hp];have get:∀ i e,((els.drop l).take (h-l))[i]? = some e→els[l+i]? = some e:=by
    intro i e hi;rw[List.getElem?_take]at hi;split at hi
    ·rwa [List.getElem?_drop]at hi
    ·cases hi
   refine .sl sz _ _ _ _ (fun i o=>f (l+i) o) qo oq oq (fun e he'=>hs e (List.mem_of_mem_drop (List.mem_of_mem_take he'))) rfl him ?_ ?_
   ·intro i e o x hi ho;have:=hcell (l+i) e o x (get i e hi) ho;rw[Nat.add_mul]at this;simpa[Nat.add_assoc]using this
   ·intro i e o x hi ho;exact hrel (l+i) e o x (get i e hi) ho
def bnd(d:Int):Option AV→Option Int
 | none=>some d
 | some (.d (.sc (.int _ n)))=>some n
 | _=>none
def sub(els:List (List DV))(lo hi:Option AV)(l h:Int):List (List DV) :=
 match lo,hi with
 | none,none=>els
 | some _,none=>els.drop l.toNat
 | none,some _=>els.take h.toNat
 | some _,some _=>(els.drop l.toNat).take (h.toNat-l.toNat)
def slP(lo hi:Option AV)(l h n:Int):List Prop :=
 match lo,hi with
 | none,none=>[]
 | some _,none=>[0≤l∧l≤n]
 | none,some _=>[0≤h∧h≤n]
 | some _,some _=>[0≤l∧l≤h∧h≤n]
def Z8a(P:Program)(t:Nat)(hs:List Hint)(x:AV)(lo hi:Option AV)(H:Heap):Option Res :=
 match Z1b P t with
 | none=>none
 | some e=>match x with
  | .d (.sl s els)=>if szOf P e=s then
   match bnd 0 lo,bnd els.length hi with
   | some l,some h=>match hs with
    | .els l'::_=>some ⟨.d (.sl s l'),none,slP lo hi l h els.length++[sub els lo hi l h=l']⟩
    | _=>some ⟨.d (.sl s (sub els lo hi l h)),none,slP lo hi l h els.length⟩
   | _,_=>none
   else none
  | .ow b=>match H b with
   | some (.arr _ s els)=>if szOf P e=s then
    match bnd 0 lo,bnd els.length hi with
    | some l,some h=>some ⟨.os b l.toNat (h.toNat-l.toNat),none,slP lo hi l h els.length⟩
    | _,_=>none
    else none
   | _=>none
  | .os b o n=>match H b with
   | some (.arr _ s _)=>if szOf P e=s then
    match bnd 0 lo,bnd n hi with
    | some l,some h=>some ⟨.os b (o+l.toNat) (h.toNat-l.toNat),none,slP lo hi l h n⟩
    | _,_=>none
    else none
   | _=>none
  | _=>none
theorem Zbv{P:Program}{e:Nat}(he:(P.info? e).isSome=true)(w:World):(sizeOf e).run P w = .ok (szOf P e) w:=by
 obtain⟨i,hi⟩:=Option.isSome_iff_exists.1 he;simp[sizeOf,typeInfo,hi,szOf]
theorem Zdu{P:Program}{w:World}{t e:Nat}{a:Option Addr}{n c l h:Nat}{lo hi:Option Value}(ht:Z1b P t=some e)(he:(P.info? e).isSome=true)
  (hlo:lo=none∧l=0∨∃ k,lo=some (.int k l)) (hhi:hi=none∧h=n∨∃ k,hi=some (.int k h)) (h1:l≤h) (h2:h≤n) (h3:n≤c) :
  (Instr.sliceAt t (.slice a n c) lo hi none).run P w = .ok (.slice (if c=l then a else a.map (·.add (l*szOf P e))) (h-l) (c-l)) w:=by
 unfold Z1b at ht;split at ht;rotate_left
 ·cases ht
 rename_i e' hu;cases ht;have hs:=Zbv he w;have c1:h≤c:=by omega
 rcases hlo with⟨rfl,rfl⟩ | ⟨k,rfl⟩<;>rcases hhi with⟨rfl,rfl⟩ | ⟨k',rfl⟩ <;>
  simp[Instr.sliceAt,Instr.slice,run_underlying hu,Instr.sliceBounds,Instr.sliceBound,asIntOf,hs,c1,h1]
theorem Zfq{d:Int}{x:Option AV}{n:Int}(h:bnd d x=some n):(x=none∧n=d)∨∃ k,x=some (.d (.sc (.int k n))):=by
 unfold bnd at h;split at h
 ·cases h;exact .inl ⟨rfl,rfl⟩
 ·cases h;exact .inr ⟨_,rfl⟩
 ·cases h
theorem Zc3{lo hi:Option AV}{l h n:Int}(hp:allP (slP lo hi l h n))(h0:0≤n)(hl:lo=none→l=0)(hh:hi=none→h=n):0≤l∧l≤h∧h≤n:=by
 unfold slP at hp;split at hp
 ·have:=hl rfl;have:=hh rfl;omega
 ·have:=hh rfl;simp[allP]at hp;omega
 ·have:=hl rfl;simp[allP]at hp;omega
 ·simp[allP]at hp;omega
theorem Zpy{els:List (List DV)}{lo hi:Option AV}{l h:Int}(h0:0≤l)(hl:lo=none→l=0)(hh:hi=none→h=els.length):sub els lo hi l h=(els.drop l.toNat).take (h.toNat-l.toNat):=by
 unfold sub;split
 ·have:=hl rfl;have:=hh rfl;subst_vars;simp
 ·have:=hh rfl;subst this;simp;rw[List.take_of_length_le pq]
 ·have:=hl rfl;subst this;simp
 ·rfl
theorem ZeO{P:Program}{o:Oper}{id:Nat}{E:Operand→AV}{H:Heap}{r:Res}{x:Operand}{lo hi:Option Operand}{t:Nat}{hs:List Hint}
  (ho:o.op = .slice t x lo hi none) (hinfo:∀ e,Z1b P t=some e→(P.info? e).isSome=true) (h:Z8a P t hs (E x) (lo.map E) (hi.map E) H=some r):Z2h P o id E H r:=by
 intro Ow Im0 w0 ρ w Im clk a I _ _ hE hph;have hx:=hE x;unfold Z8a at h;split at h
 ·cases h
 rename_i e he;have hi':=hinfo e he;have lov:∀ (d l:Int),bnd d (lo.map E)=some l→0≤l→(lo.map a.eval=none∧l=d)∨∃ k,lo.map a.eval=some (.int k (l.toNat:Int)):=by
  intro d l hb h0;rcases Zfq hb with⟨h1,h2⟩ | ⟨k,h1⟩
  ·cases lo with
   | none=>exact .inl ⟨rfl,h2⟩
   | some y=>simp at h1
  ·cases lo with
   | none=>simp at h1
   | some y =>
    simp only[Option.map_some,Option.some.injEq]at h1;have:=Z10 (h1▸hE y);exact .inr ⟨k,by simp[this];omega⟩
 have hiv:∀ (d l:Int),bnd d (hi.map E)=some l→0≤l→(hi.map a.eval=none∧l=d)∨∃ k,hi.map a.eval=some (.int k (l.toNat:Int)):=by
  intro d l hb h0;rcases Zfq hb with⟨h1,h2⟩ | ⟨k,h1⟩
  ·cases hi with
   | none=>exact .inl ⟨rfl,h2⟩
   | some y=>simp at h1
  ·cases hi with
   | none=>simp at h1
   | some y =>
    simp only[Option.map_some,Option.some.injEq]at h1;have:=Z10 (h1▸hE y);exact .inr ⟨k,by simp[this];omega⟩
 have none1:∀ {d l:Int} {y:Option AV},bnd d y=some l→y=none→l=d:=by
  intro d l y hb hy;subst hy;simp[bnd]at hb;exact hb.symm
 have run:∀ (p:Option Addr) (n c:Nat) (l h:Int),a.eval x = .slice p n c→n≤c→bnd 0 (lo.map E)=some l→bnd (n:Int) (hi.map E)=some h→0≤l→l≤h→h≤n →
   (execOp a.eval o).run P w = .ok (.value (.slice (if c=l.toNat then p else p.map (·.add (l.toNat*szOf P e))) (h.toNat-l.toNat) (c-l.toNat))) w:=by
  intro p n c l h hv hc hl hh h1 h2 h3;have e1:=lov 0 l hl h1;have e2:=hiv n h hh oq;have:=Zdu (P:=P) (w:=w) (a:=p) (n:=n) (c:=c) (l:=l.toNat) (h:=h.toNat) he hi' (e1.imp (fun⟨p,q⟩=>⟨p,by omega⟩) (fun h=>h)) (e2.imp (fun⟨p,q⟩=>⟨p,by omega⟩) (fun h=>h)) oq oq hc;simp[execOp,ho,hv,this]
 split at h
 ·rename_i s els hE1;rw[hE1]at hx;split at h;rotate_left
  ·cases h
  rename_i hsz;split at h;rotate_left
  ·cases h
  rename_i l hh hl1 hh1;have fin:allP (slP (lo.map E) (hi.map E) l hh els.length)→Goes P o a w fun v w'=>Then Ow Im0 w0 ρ w Im clk H (.d (.sl s (sub els (lo.map E) (hi.map E) l hh))) v w':=by
   intro hp;obtain⟨p1,p2,p3⟩:=Zc3 hp oq (none1 hl1) (none1 hh1);rw[Zpy p1 (none1 hl1) (none1 hh1)];generalize hv:a.eval x=v at hx;cases hx with
   | d hx =>
    have hlen:∃ p n c,v = .slice p n c∧n=els.length∧n≤c:=by
     cases hx with
     | slNil s p c=>exact⟨p,0,c,rfl,rfl,Nat.zero_le _⟩
     | sl s els p n c f hn hc=>exact⟨some p,n,c,rfl,hn.symm,hc⟩
    obtain⟨p,n,c,rfl,hn,hc⟩:=hlen;refine .inl ⟨_,w,run p n c l hh hv hc hl1 (by rw[hn];exact hh1) p1 p2 oq,.same I (.d ?_)⟩;exact ZkR hx oq oq (szOf P e) (.inl hsz) (.inl ⟨hn,hc⟩)
  split at h
  ·rename_i l' _;cases h;obtain⟨p1,p2⟩:=allP_append.1 hph;have p2':sub els (lo.map E) (hi.map E) l hh=l':=by simpa[allP]using p2
   have:=fin p1;rw[p2']at this;exact this
  ·cases h;exact fin hph
 ·rename_i b hE1;rw[hE1]at hx;split at h;rotate_left
  ·cases h
  rename_i ty s els hb;split at h;rotate_left
  ·cases h
  rename_i hsz;split at h;rotate_left
  ·cases h
  rename_i l hh hl1 hh1;cases h;obtain⟨p1,p2,p3⟩:=Zc3 hph oq (none1 hl1) (none1 hh1);generalize hv:a.eval x=v at hx;cases hx with
  | ow hρ hc hbg ha =>
   rename_i c ad β;obtain⟨β',h1,h2⟩:=I.blk b _ hb;rw[hρ]at h1;cases h1;obtain⟨g1,g2,_,_,_⟩:=h2;refine .inl ⟨_,w,run ad β.n c l hh hv hc hl1 (by rw[g2];exact hh1) p1 p2 oq,.same I (.os hρ oq oq oq ?_)⟩;rcases ha with ha | ⟨g,hg,rfl,hrow⟩
   ·exact .inl oq
   ·by_cases hcl:c=l.toNat
    ·exact .inl oq
    ·refine .inr ⟨g,hg,by rw[if_neg hcl];simp[Addr.add_lit,hsz,g1], ?_⟩;rw[show l.toNat+(c-l.toNat)=c from by omega];exact hrow
 ·rename_i b oo m hE1;rw[hE1]at hx;split at h;rotate_left
  ·cases h
  rename_i ty s els hb;split at h;rotate_left
  ·cases h
  rename_i hsz;split at h;rotate_left
  ·cases h
  rename_i l hh hl1 hh1;cases h;obtain⟨p1,p2,p3⟩:=Zc3 hph oq (none1 hl1) (none1 hh1);generalize hv:a.eval x=v at hx;cases hx with
  | os hρ hn hc hbg ha =>
   rename_i c ad β;obtain⟨β',h1,h2⟩:=I.blk b _ hb;rw[hρ]at h1;cases h1;obtain⟨g1,g2,_,_,_⟩:=h2;refine .inl ⟨_,w,run ad m c l hh hv hc hl1 hh1 p1 p2 oq,.same I (.os hρ oq oq oq ?_)⟩;rcases ha with ha | ⟨g,hg,rfl,hrow⟩
   ·exact .inl oq
   ·by_cases hcl:c=l.toNat
    ·exact .inl oq
    ·refine .inr ⟨g,hg,by rw[if_neg hcl];simp[Addr.add_lit,hsz,g1,Nat.add_mul], ?_⟩;rw[show oo+l.toNat+(c-l.toNat)=oo+c from by omega];exact hrow
 ·cases h
theorem foldl_set(u:List Value):∀ (off k:Nat) (cells:Array Value),off+k+u.length≤cells.size →
  ((u.zipIdx k).foldl (fun cs (p:Value×Nat)=>cs.setIfInBounds (off+p.2) p.1) cells).size=cells.size ∧
  ∀ j,((u.zipIdx k).foldl (fun cs (p:Value×Nat)=>cs.setIfInBounds (off+p.2) p.1) cells)[j]? = if j<off+k then cells[j]? else if j<off+k+u.length then u[j-(off+k)]? else cells[j]? := by
 induction u with
 | nil=>intro off k cells _;refine⟨rfl,fun j=>?_⟩;simp only[List.zipIdx_nil,List.foldl_nil,List.length_nil,Nat.add_zero];split<;>rfl
 | cons x u ih =>
  intro off k cells h;simp only[List.length_cons]at h;have:=ih off (k+1) (cells.setIfInBounds (off+k) x) qo;simp only[List.zipIdx_cons,List.foldl_cons];refine⟨by rw[this.1];simp,fun j=>?_⟩;rw[this.2 j];simp only[Array.getElem?_setIfInBounds,List.length_cons];by_cases h1:j<off+k
  ·rw[if_pos oq,if_neg oq,if_pos h1]
  ·rw[if_neg h1];by_cases h2:j=off+k
   ·subst h2;rw[if_pos oq,if_pos rfl,if_pos oq,if_pos oq];simp
   ·rw[if_neg (show ¬ j<off+(k+1) by omega)];by_cases h3:j<off+(k+1)+u.length
    ·rw[if_pos h3,if_pos oq];have e:j-(off+k)=(j-(off+(k+1)))+1:=by omega
     rw[e];simp
    ·rw[if_neg h3,if_neg oq,if_neg oq]
theorem ZaL(v:Value)(off:Nat)(cells:Array Value)(h:off+v.cells.size≤cells.size) :
  (v.cells.zipIdx.foldl (fun cs (p:Value×Nat)=>cs.setIfInBounds (off+p.2) p.1) cells).size=cells.size ∧
  ∀ j,(v.cells.zipIdx.foldl (fun cs (p:Value×Nat)=>cs.setIfInBounds (off+p.2) p.1) cells)[j]? = if j<off then cells[j]? else if j<off+v.cells.size then v.cells[j-off]? else cells[j]? := by
 have e:v.cells.zipIdx.foldl (fun cs (p:Value×Nat)=>cs.setIfInBounds (off+p.2) p.1) cells=(v.cells.toList.zipIdx 0).foldl (fun cs (p:Value×Nat)=>cs.setIfInBounds (off+p.2) p.1) cells:=by
  rw[← Array.foldl_toList];simp
 have:=foldl_set v.cells.toList off 0 cells (by simpa using h);rw[e];refine⟨this.1,fun j=>?_⟩;rw[this.2 j];simp
def ZgE(place:Nat→Option (Nat×Nat))(l:List AV):List (Nat×AV)→Option (List AV)
 | []=>some l
 | (i,x)::r=>match place i,x.cells with
  | some (off,size),some xs=>if xs.length=size∧off+size≤l.length then ZgE place (splice l off xs) r else none
  | _,_=>none
def RelL(ρ:Rho)(w:World)(Im:Nat→Prop)(l:List AV)(cs:Array Value):Prop :=
 cs.size=l.length∧(∀ (i:Nat) (v:Value),cs[i]? = some v→v.oneCell'=true)∧∀ (i:Nat) (a:AV) (v:Value),l[i]? = some a→cs[i]? = some v→Rel ρ w Im a v
theorem Zbf{ρ:Rho}{w:World}{Im:Nat→Prop}{place:Nat→Option (Nat×Nat)}:∀ {parts:List (Nat×AV)} {vals:List (Nat×Value)} {l l':List AV} {cs:Array Value},
  parts.length=vals.length→(∀ (k:Nat) (p:Nat×AV) (q:Nat×Value),parts[k]? = some p→vals[k]? = some q→p.1=q.1∧Rel ρ w Im p.2 q.2)→RelL ρ w Im l cs→ZgE place l parts=some l' →
  ∃ cs',Instr.fill place cs vals=some cs'∧RelL ρ w Im l' cs'
 | [],vals,l,l',cs,hn,_,hr,h=>by
  cases vals with
  | nil=>simp[ZgE]at h;subst h;exact⟨cs,rfl,hr⟩
  | cons _ _=>simp at hn
 | (i,x)::parts,vals,l,l',cs,hn,hp,hr,h=>by
  cases vals with
  | nil=>simp at hn
  | cons q vals =>
   obtain⟨i',v⟩:=q;obtain⟨h1,h2⟩:=hp 0 _ _ rfl rfl;simp only at h1 h2;subst h1;simp only[ZgE]at h;split at h;rotate_left
   ·cases h
   rename_i off size xs hpl hxs;split at h;rotate_left
   ·cases h
   rename_i hc;obtain⟨c1,c2,c3⟩:=h2.cells hxs;obtain⟨r1,r2,r3⟩:=hr;have hfit:off+v.cells.size≤cs.size:=by omega
   have hfl:off+xs.length≤l.length:=by omega
   have key:=ZaL v off cs hfit;have hrel:RelL ρ w Im (splice l off xs) (v.cells.zipIdx.foldl (fun cs (p:Value×Nat)=>cs.setIfInBounds (off+p.2) p.1) cs):=by
    refine⟨?_, ?_, ?_⟩
    ·rw[key.1,r1];simp only[splice];rw[Z1c hfl]
    ·intro j u hu;rw[key.2 j]at hu;split at hu
     ·exact r2 j u hu
     ·split at hu
      ·exact c3 _ u hu
      ·exact r2 j u hu
    ·intro j a u ha hu;rw[key.2 j]at hu;simp only[splice]at ha;rw[Z2r hfl,← c1]at ha;by_cases k1:j<off
     ·simp only[k1,if_true]at ha hu;exact r3 j a u ha hu
     ·simp only[k1,if_false]at ha hu;by_cases k2:j<off+v.cells.size
      ·simp only[k2,if_true]at ha hu;exact c2 _ a u ha hu
      ·simp only[k2,if_false]at ha hu;exact r3 j a u ha hu
   obtain⟨cs',h3,h4⟩:=Zbf (place:=place) (by simpa using hn) (fun k p q hk hq=>hp (k+1) p q (by simpa using hk) (by simpa using hq)) hrel h;refine⟨cs', ?_,h4⟩;simp only[Instr.fill,hpl];rw[if_neg qo];exact h3
theorem Z77{P:Program}{w:World}{α β:Type}(f:α→Sem β)(g:α→β):∀ (l:List α),(∀ x∈l,(f x).run P w = .ok (g x) w)→(l.mapM f).run P w = .ok (l.map g) w
 | [],_=>rfl
 | x::l,h=>by
  rw[List.mapM_cons];simp[h x pq,Z77 f g l (fun y hy=>h y (by simp[hy]))]
theorem run_places{P:Program}{w:World}(fs:Array Field)(h:∀ f∈fs.toList,(P.info? f.type).isSome=true) :
  (fs.mapM fun f=>do pure (f.offset,← sizeOf f.type):Sem (Array (Nat×Nat))).run P w = .ok (fs.map fun f=>(f.offset,szOf P f.type)) w:=by
 obtain⟨l⟩:=fs;rw[List.mapM_toArray];have:=Z77 (P:=P) (w:=w) (fun f:Field=>(do pure (f.offset,← sizeOf f.type):Sem (Nat×Nat))) (fun f=>(f.offset,szOf P f.type)) l (fun f hf=>by
  simp[Zbv (h f hf) w])
 simp only[Sem.run_map,this,Result.andThen_ok];simp
def ZiM(P:Program)(fs:List Field)(i:Nat):Option (Nat×Nat):=match fs[i]? with | some f=>some (f.offset,szOf P f.type) | none=>none
def Zc9(P:Program)(t:Nat)(parts:List (Nat×AV)):Option Res :=
 match zeroOf P t with
 | none=>none
 | some z=>match (cv z).cells with
  | none=>none
  | some l0=>match P.underlying t with
   | some (.struct fs)=>if fs.toList.all (fun f=>(P.info? f.type).isSome)then(ZgE (ZiM P fs.toList) l0 parts).map fun l=>⟨.ag l,none,[]⟩else none
   | some (.array _ e)=>if(P.info? e).isSome then(ZgE (fun i=>some (i*szOf P e,szOf P e)) l0 parts).map fun l=>⟨.ag l,none,[]⟩else none
   | _=>none
theorem Z5J{P:Program}{t:Nat}{z:Value}(h:zeroOf P t=some z)(w:World):(zeroValue t).run P w = .ok z w:=by
 unfold zeroOf at h;split at h
 ·rename_i i hi;simp[zeroValue,typeInfo,hi,h]
 ·cases h
theorem Zej{P:Program}{o:Oper}{id:Nat}{E:Operand→AV}{H:Heap}{r:Res}{t:Nat}{parts:Array (Nat×Operand)}
  (ho:o.op = .build t parts) (h:Zc9 P t (parts.toList.map fun p=>(p.1,E p.2))=some r):Z2h P o id E H r:=by
 intro Ow Im0 w0 ρ w Im clk a I _ _ hE _;unfold Zc9 at h;split at h
 ·cases h
 rename_i z hz;split at h
 ·cases h
 rename_i l0 hl0;have hz0:=(Z7b ρ w Im z).cells hl0;have hzr:=Z5J (P:=P) hz w;have hrel0:RelL ρ w Im l0 z.cells:=⟨hz0.1,hz0.2.2,hz0.2.1⟩
 have hparts:∀ (k:Nat) (p:Nat×AV) (q:Nat×Value),(parts.toList.map fun p=>(p.1,E p.2))[k]? = some p→(parts.toList.map fun p=>(p.1,a.eval p.2))[k]? = some q→p.1=q.1∧Rel ρ w Im p.2 q.2:=by
  intro k p q hp hq;simp only[List.getElem?_map,Option.map_eq_some_iff]at hp hq;obtain⟨x,hx,rfl⟩:=hp;obtain⟨y,hy,rfl⟩:=hq;rw[hx]at hy;cases hy;exact⟨rfl,hE _⟩
 split at h
 ·rename_i fs hu;split at h;rotate_left
  ·cases h
  rename_i hall;simp only[Option.map_eq_some_iff]at h;obtain⟨l,hl,rfl⟩:=h;obtain⟨cs,h1,h2⟩:=Zbf (vals:=parts.toList.map fun p=>(p.1,a.eval p.2)) pq hparts hrel0 hl;have hpl:=run_places (P:=P) (w:=w) fs (fun f hf=>by simp only[List.all_eq_true]at hall;exact hall f hf);have hpeq:(fun i=>(fs.map fun f=>(f.offset,szOf P f.type))[i]?)=ZiM P fs.toList:=by
   funext i
   simp only[ZiM,Array.getElem?_map,Array.getElem?_toList];cases fs[i]? <;> rfl
  refine .inl ⟨.agg cs,w, ?_,.same I (.ag l cs h2.1 h2.2.1 h2.2.2)⟩;simp only[execOp,ho,Instr.build,Sem.run_bind,hzr,Result.andThen_ok,run_underlying hu,hpl,hpeq];simp[h1]
 ·rename_i n e hu;split at h;rotate_left
  ·cases h
  rename_i hall;simp only[Option.map_eq_some_iff]at h;obtain⟨l,hl,rfl⟩:=h;obtain⟨cs,h1,h2⟩:=Zbf (vals:=parts.toList.map fun p=>(p.1,a.eval p.2)) pq hparts hrel0 hl;refine .inl ⟨.agg cs,w, ?_,.same I (.ag l cs h2.1 h2.2.1 h2.2.2)⟩;simp only[execOp,ho,Instr.build,Sem.run_bind,hzr,Result.andThen_ok,run_underlying hu,Zbv hall w];simp[h1]
 ·cases h
def RelE(w:World)(Im:Nat→Prop)(s:Nat)(els:List (List DV))(cs:Array Value):Prop :=
 (∀ e∈els,e.length=s)∧els.length*s≤cs.size∧(∀ (i:Nat) (v:Value),cs[i]? = some v→i<els.length*s→v.oneCell'=true) ∧
  ∀ (i:Nat) (e:List DV) (o:Nat) (x:DV),els[i]? = some e→e[o]? = some x→∃ v,cs[i*s+o]? = some v∧RelD w Im x v
theorem Then.arr{Ow:Own}{Im0:Nat→Prop}{w0:World}{ρ:Rho}{w:World}{Im:Nat→Prop}{clk:Nat}{H:Heap}{id ty s:Nat}{els:List (List DV)}{cs:Array Value}{c:Nat}
  (I:Inv Ow Im0 w0 ρ w Im H clk) (hid:clk*8000≤id) (hH:H id=none) (h:RelE w Im s els cs) (hb:els.length≤big) (hc:els.length≤c) (hcs:c*s≤cs.size) :
  Then Ow Im0 w0 ρ w Im clk (updH H id (.arr ty s els)) (.ow id) (.slice (some ⟨w.heap.size,0,none⟩) els.length c) (w.alloc (.cells cs ty)):=by
 have hsub:=Z2c (β:=⟨some w.heap.size,s,els.length⟩) (I.fresh id hid hH);have he:=Ext.alloc Im w (.cells cs ty) I.imb;obtain⟨h1,h2,_,h4⟩:=h;refine⟨updR ρ id ⟨some w.heap.size,s,els.length⟩,I.add id hid hH cs ty s els.length _ ?_,he,hsub, ?_⟩
 ·exact⟨rfl,rfl,hb,h1,.inr ⟨w.heap.size,cs,rfl,heap_alloc_new _ _,h2,fun i e o x hi ho=>let ⟨v,k1,k2⟩:=h4 i e o x hi ho;⟨v,k1,k2.mono he (fun _ h=>h)⟩⟩⟩
 ·have:=Rel.ow (ρ:=updR ρ id ⟨some w.heap.size,s,els.length⟩) (w:=w.alloc (.cells cs ty)) (Im:=Im) (c:=c) (a:=some ⟨w.heap.size,0,none⟩) (Z21 ρ id ⟨some w.heap.size,s,els.length⟩) hc hb
   (.inr ⟨w.heap.size,rfl,rfl,by unfold Sx.rows;rw[heap_alloc_new];exact hcs⟩)
  exact this
theorem Z8N(z:Array Value)(n s:Nat)(hz:z.size=s)(i o:Nat)(ho:o<s)(hi:i<n) :
  ((Array.range (n*s)).map (z[· % z.size]!))[i*s+o]? = z[o]? := by
 have h1:i*s+o<n*s:=by
  have:(i+1)*s≤n*s:=Nat.mul_le_mul_right s hi;rw[Nat.add_mul]at this;omega
 have h2:(i*s+o)%z.size=o:=by
  rw[hz,Nat.add_comm,Nat.add_mul_mod_self_right,Nat.mod_eq_of_lt ho]
 simp only[Array.getElem?_map,Array.getElem?_range,h1,if_true,Option.map_some,h2];rw[Array.getElem!_eq_getD,Array.getElem?_eq_getElem oq];simp[Array.getD,hz,ho]
theorem Z74{w:World}{Im:Nat→Prop}{z:Value}{zs:List DV}{l:List AV}{s:Nat}(n:Nat)(hl:(cv z).cells=some l)(hz:Zdy l=some zs)(hs:zs.length=s) :
  RelE w Im s (List.replicate n zs) ((Array.range (n*s)).map (z.cells[· % z.cells.size]!)):=by
 have hc:=(Z7b (fun _=>none) w Im z).cells hl;have e:=Z39 hz;have hsz:z.cells.size=s:=by rw[hc.1,e];simp[dvs,hs]
 refine⟨fun e he=>by rw[(List.mem_replicate.1 he).2];exact hs,by simp, ?_, ?_⟩
 ·intro i v hv hi;simp only[List.length_replicate]at hi;have hs0:0<s:=by
   rcases Nat.eq_zero_or_pos s with h | h
   ·subst h;simp at hi
   ·exact h
  have hdm:i=i/s*s+i%s:=by rw[Nat.mul_comm];exact(Nat.div_add_mod i s).symm
  have hq:i/s<n:=by rw[Nat.div_lt_iff_lt_mul hs0];exact hi
  rw[hdm,Z8N z.cells n s hsz (i/s) (i%s) (Nat.mod_lt _ hs0) hq]at hv;exact hc.2.2 _ v hv
 ·intro i e' o x hi ho;have hi':i<n:=by have:=(List.getElem?_eq_some_iff.1 hi).1;simpa using this
  have he':e'=zs:=by
   have:=List.mem_of_getElem? hi;exact(List.mem_replicate.1 this).2
  subst he';have hos:o<s:=by rw[← hs];exact(List.getElem?_eq_some_iff.1 ho).1
  have ho2:o<z.cells.size:=by omega
  refine⟨z.cells[o],by rw[Z8N z.cells n s hsz i o hos hi'];exact Array.getElem?_eq_getElem ho2, ?_⟩;have hlo:l[o]? = some (.d x):=by rw[e];simp[dvs,ho]
  have:=hc.2.1 o _ _ hlo (Array.getElem?_eq_getElem ho2);cases this with
  | d h=>exact h
def Z5Y(P:Program)(e:Nat):Option (List DV):=match zeroOf P e with | some z=>(match (cv z).cells with | some l=>Zdy l | none=>none) | none=>none
def Z51(P:Program)(t id:Nat)(hs:List Hint)(x y:AV):Option Res :=
 match Z1b P t with
 | none=>none
 | some e=>match Z5Y P e with
  | none=>none
  | some zs=>match bytesOf P e,szOf P e with
   | b+1,s+1=>if zs.length=s+1 then
    match x,y with
    | .d (.sc (.int _ n)),.d (.sc (.int _ c))=>match hs with
     | .els l'::_=>some ⟨.ow id,some (id,.arr e (s+1) l'),[0≤n∧n≤c∧c*(b+1)≤2^48,List.replicate n.toNat zs=l']⟩
     | _=>some ⟨.ow id,some (id,.arr e (s+1) (List.replicate n.toNat zs)),[0≤n∧n≤c∧c*(b+1)≤2^48]⟩
    | _,_=>none
    else none
   | _,_=>none
theorem Z9H{P:Program}{o:Oper}{id:Nat}{E:Operand→AV}{H:Heap}{r:Res}{x y:Operand}{t:Nat}{hs:List Hint}
  (ho:o.op = .makeSlice t x y) (h:Z51 P t id hs (E x) (E y)=some r):Z2h P o id E H r:=by
 intro Ow Im0 w0 ρ w Im clk a I hid hH hE hph;unfold Z51 at h;split at h
 ·cases h
 rename_i e he;split at h
 ·cases h
 rename_i zs hzs;split at h;rotate_left
 ·cases h
 rename_i b s hb hsz;split at h;rotate_left
 ·cases h
 rename_i hlen;split at h;rotate_left
 ·cases h
 rename_i k n k' c hx hy;have v1:=Z10 (hx▸hE x);have v2:=Z10 (hy▸hE y);have fin:0≤n∧n≤c∧c*(b+1)≤2^48→Goes P o a w fun v w'=>Then Ow Im0 w0 ρ w Im clk (updH H id (.arr e (s+1) (List.replicate n.toNat zs))) (.ow id) v w':=by
  rintro⟨p1,p2,p3⟩;have pc:c≤c*(b+1):=by
   rw[Int.mul_add,Int.mul_one];have:0≤c*(b:Int):=Int.mul_nonneg oq oq;omega
  unfold Z5Y at hzs;split at hzs;rotate_left
  ·cases hzs
  rename_i z hz;split at hzs;rotate_left
  ·cases hzs
  rename_i l hl;have hzr:=Z5J (P:=P) hz w;unfold Z1b at he;split at he;rotate_left
  ·cases he
  rename_i e' hu;cases he;have hw1:IntKind.i64.wrap n=n:=IntWalk.i64_in _ oq;have hw2:IntKind.i64.wrap c=c:=IntWalk.i64_in _ oq;have hcell:=Z74 (w:=w) (Im:=Im) c.toNat hl hzs hlen;have hrel:RelE w Im (s+1) (List.replicate n.toNat zs) ((Array.range (c.toNat*(s+1))).map (z.cells[· % z.cells.size]!)):=by
   obtain⟨h1,h2,h3,h4⟩:=hcell;have hnc:n.toNat≤c.toNat:=by omega
   have hmul:n.toNat*(s+1)≤c.toNat*(s+1):=Nat.mul_le_mul_right _ hnc;refine⟨fun e he=>by rw[(List.mem_replicate.1 he).2];exact hlen,by simpa using hmul,fun i v hv hi=>h3 i v hv (by simp at hi ⊢;omega),fun i e o x hi ho=>h4 i e o x ?_ ho⟩;have hi1:=(List.getElem?_eq_some_iff.1 hi).1;simp only[List.length_replicate]at hi1;rw[List.getElem?_replicate,if_pos oq];rw[List.getElem?_replicate,if_pos hi1]at hi;exact hi
  have hinfo:∃ i,P.info? e=some i∧i.bytes=b+1∧i.size=s+1:=by
   unfold bytesOf at hb;unfold szOf at hsz;cases hi:P.info? e with
   | none=>simp[hi]at hb
   | some i=>simp only[hi]at hb hsz;exact⟨i,rfl,hb,hsz⟩
  obtain⟨i,hi,hib,his⟩:=hinfo;have hsr:(sizeOf e).run P w = .ok (s+1) w:=by simp[sizeOf,typeInfo,hi,his]
  have hne:¬ c.toNat=0∨c.toNat=0:=by omega
  have t1:¬ (c<0):=by omega
  have t2:¬ ((b+1:Int)*c > 2^48):=by rw[Int.mul_comm];omega
  have t3:¬ (n<0):=by omega
  have t4:¬ (n > c):=by omega
  have:=Then.arr (ty:=e) (c:=c.toNat) I hid hH hrel (by simp[big];omega) qo pq;refine .inl ⟨.slice (some ⟨w.heap.size,0,none⟩) n.toNat c.toNat,w.alloc (.cells ((Array.range (c.toNat*(s+1))).map (z.cells[· % z.cells.size]!)) e), ?_,by simpa using this⟩;have hib':(i.bytes:Int)=b+1:=by rw[hib];rfl
  have tl:(decide (c<0)||decide ((i.bytes:Int)*c > 2^48))=false:=by
   rw[Bool.or_eq_false_iff];exact⟨decide_eq_false t1,decide_eq_false (by rw[hib'];exact t2)⟩
  have tm:(decide (c<0)||decide ((i.bytes:Int)*c > 2^48)||decide (n<0)||decide (n > c))=false:=by
   rw[tl,Bool.false_or,Bool.or_eq_false_iff];exact⟨decide_eq_false t3,decide_eq_false t4⟩
  have mk:(Instr.makeSlice t (.int k n) (.int k' c)).run P w = .ok (.slice (some ⟨w.heap.size,0,none⟩) n.toNat c.toNat) (w.alloc (.cells ((Array.range (c.toNat*(s+1))).map (z.cells[· % z.cells.size]!)) e)):=by
   unfold Instr.makeSlice;simp only[Sem.run_bind,run_underlying hu,Result.andThen_ok,asInt,asIntOf,Sem.run_pure,typeInfo,run_program,hi,hw1,hw2,tm,Bool.false_eq_true,if_false,run_askRoom,hsr];by_cases hc0:c.toNat*(s+1)=0
   ·simp[hc0,newRow,Array.range_zero']
   ·simp[newRow,hzr];intro h;exact absurd h hc0
  simp[execOp,ho,v1,v2,mk]
 split at h
 ·rename_i l' _;cases h;obtain⟨p1,p2⟩:=allP_cons.1 hph;have p2':List.replicate n.toNat zs=l':=by simpa[allP]using p2
  rw[← p2'];exact fin p1
 ·cases h;exact fin (by simpa[allP]using hph)
theorem Zkh{w:World}{Im:Nat→Prop}{s:Nat}{els:List (List DV)}{cs cs':Array Value}{i:Nat}{ds:List DV}{u:Array Value}(h:RelE w Im s els cs)(hi:i<els.length)(hd:ds.length=s)(hu:u.size=s)
  (hr:∀ (j:Nat) (x:DV) (v:Value),ds[j]? = some x→u[j]? = some v→RelD w Im x v) (hone:∀ (j:Nat) (v:Value),u[j]? = some v→v.oneCell'=true) (hsz:cs'.size=cs.size)
  (hget:∀ j,cs'[j]? = if j<i*s then cs[j]? else if j<i*s+u.size then u[j-i*s]? else cs[j]?):RelE w Im s (els.set i ds) cs':=by
 obtain⟨h1,h2,h3,h4⟩:=h;refine⟨fun e he=>?_,by simpa[hsz]using h2,fun j v hv hj=>?_,fun k e o x hk ho=>?_⟩
 ·rcases List.mem_or_eq_of_mem_set he with h | h
  ·exact h1 e h
  ·rw[h];exact hd
 ·simp only[List.length_set]at hj;rw[hget]at hv;split at hv
  ·exact h3 j v hv hj
  ·split at hv
   ·exact hone _ v hv
   ·exact h3 j v hv hj
 ·rw[List.getElem?_set]at hk;by_cases hki:i=k
  ·subst hki;simp only[if_true,hi]at hk;cases hk;have hos:o<s:=by rw[← hd];exact(List.getElem?_eq_some_iff.1 ho).1
   have hou:o<u.size:=by omega
   refine⟨u[o], ?_,hr o x _ ho (Array.getElem?_eq_getElem hou)⟩;rw[hget,if_neg oq,if_pos oq,show i*s+o-i*s=o from by omega];exact Array.getElem?_eq_getElem hou
  ·simp only[hki,if_false]at hk;obtain⟨v,k1,k2⟩:=h4 k e o x hk ho;have hes:e.length=s:=h1 e (List.mem_of_getElem? hk);have hos:o<s:=by rw[← hes];exact(List.getElem?_eq_some_iff.1 ho).1
   refine⟨v, ?_,k2⟩;rw[hget];rcases Nat.lt_or_ge k i with hlt | hge
   ·have:(k+1)*s≤i*s:=Nat.mul_le_mul_right s hlt;rw[Nat.add_mul]at this;rw[if_pos oq];exact k1
   ·have:(i+1)*s≤k*s:=Nat.mul_le_mul_right s oq;rw[Nat.add_mul]at this;rw[if_neg oq,if_neg oq];exact k1
def Zi6(s:Nat)(els:List (List DV)):List (Nat×AV)→Option (List (List DV))
 | []=>some els
 | (i,x)::r=>match x.cells with
  | some xs=>match Zdy xs with
   | some ds=>if ds.length=s∧i<els.length then Zi6 s (els.set i ds) r else none
   | none=>none
  | none=>none
theorem ZdO{ρ:Rho}{w:World}{Im:Nat→Prop}{s:Nat}:∀ {parts:List (Nat×AV)} {vals:List (Nat×Value)} {els els':List (List DV)} {cs:Array Value},
  parts.length=vals.length→(∀ (k:Nat) (p:Nat×AV) (q:Nat×Value),parts[k]? = some p→vals[k]? = some q→p.1=q.1∧Rel ρ w Im p.2 q.2)→RelE w Im s els cs→cs.size=els.length*s→Zi6 s els parts=some els' →
  ∃ cs',Instr.fill (fun i=>some (i*s,s)) cs vals=some cs'∧RelE w Im s els' cs'∧cs'.size=els'.length*s∧els'.length=els.length
 | [],vals,els,els',cs,hn,_,hr,hz,h=>by
  cases vals with
  | nil=>simp[Zi6]at h;subst h;exact⟨cs,rfl,hr,hz,rfl⟩
  | cons _ _=>simp at hn
 | (i,x)::parts,vals,els,els',cs,hn,hp,hr,hz,h=>by
  cases vals with
  | nil=>simp at hn
  | cons q vals =>
   obtain⟨i',v⟩:=q;obtain⟨h1,h2⟩:=hp 0 _ _ rfl rfl;simp only at h1 h2;subst h1;simp only[Zi6]at h;split at h;rotate_left
   ·cases h
   rename_i xs hxs;split at h;rotate_left
   ·cases h
   rename_i ds hds;split at h;rotate_left
   ·cases h
   rename_i hc;obtain⟨c1,c2,c3⟩:=h2.cells hxs;have hxd:=Z39 hds;have hvs:v.cells.size=s:=by rw[c1,hxd];simp[dvs,hc.1]
   have hfit:i*s+v.cells.size≤cs.size:=by
    have:(i+1)*s≤els.length*s:=Nat.mul_le_mul_right s hc.2;rw[Nat.add_mul]at this;omega
   have key:=ZaL v (i*s) cs hfit;have hrel:=Zkh hr hc.2 hc.1 hvs (fun j y u hy hu=>by
    have:xs[j]? = some (.d y):=by rw[hxd];simp[dvs,hy]
    cases c2 j _ u this hu with
    | d h=>exact h) c3 key.1 key.2
   obtain⟨cs',h3,h4,h5,h6⟩:=ZdO (ρ:=ρ) (by simpa using hn) (fun k p q hk hq=>hp (k+1) p q (by simpa using hk) (by simpa using hq)) hrel (by rw[key.1,hz];simp) h;refine⟨cs', ?_,h4,h5,by rw[h6];simp⟩;simp only[Instr.fill];rw[if_neg qo];exact h3
def Z4y(P:Program)(t len id:Nat)(hs:List Hint)(parts:List (Nat×AV)):Option Res :=
 match Z1b P t with
 | none=>none
 | some e=>match Z5Y P e with
  | none=>none
  | some zs=>match szOf P e with
   | 0=>none
   | s+1=>if zs.length=s+1∧len*(s+1)≤16777216 then
    match Zi6 (s+1) (List.replicate len zs) parts with
    | some els=>match hs with
     | .els l'::_=>some ⟨.ow id,some (id,.arr e (s+1) l'),[els=l']⟩
     | _=>some ⟨.ow id,some (id,.arr e (s+1) els),[]⟩
    | none=>none
    else none
theorem Z7V{P:Program}{o:Oper}{id:Nat}{E:Operand→AV}{H:Heap}{r:Res}{t len:Nat}{parts:Array (Nat×Operand)}{hs:List Hint}
  (ho:o.op = .buildSlice t len parts) (h:Z4y P t len id hs (parts.toList.map fun p=>(p.1,E p.2))=some r):Z2h P o id E H r:=by
 intro Ow Im0 w0 ρ w Im clk a I hid hH hE hph;unfold Z4y at h;split at h
 ·cases h
 rename_i e he;split at h
 ·cases h
 rename_i zs hzs;split at h
 ·cases h
 rename_i s hsz;split at h;rotate_left
 ·cases h
 rename_i hlen;split at h;rotate_left
 ·cases h
 rename_i els hels;have fin:Goes P o a w fun v w'=>Then Ow Im0 w0 ρ w Im clk (updH H id (.arr e (s+1) els)) (.ow id) v w':=by
  unfold Z5Y at hzs;split at hzs;rotate_left
  ·cases hzs
  rename_i z hz;split at hzs;rotate_left
  ·cases hzs
  rename_i l hl;have hzr:=Z5J (P:=P) hz w;unfold Z1b at he;split at he;rotate_left
  ·cases he
  rename_i e' hu;cases he;have hsr:(sizeOf e).run P w = .ok (s+1) w:=Z3U hsz pq w;have hcell:=Z74 (w:=w) (Im:=Im) len hl hzs hlen.1;have hparts:∀ (k:Nat) (p:Nat×AV) (q:Nat×Value),(parts.toList.map fun p=>(p.1,E p.2))[k]? = some p→(parts.toList.map fun p=>(p.1,a.eval p.2))[k]? = some q→p.1=q.1∧Rel ρ w Im p.2 q.2:=by
   intro k p q hp hq;simp only[List.getElem?_map,Option.map_eq_some_iff]at hp hq;obtain⟨x,hx,rfl⟩:=hp;obtain⟨y,hy,rfl⟩:=hq;rw[hx]at hy;cases hy;exact⟨rfl,hE _⟩
  obtain⟨cs,h1,h2,h3,h4⟩:=ZdO (ρ:=ρ) (vals:=parts.toList.map fun p=>(p.1,a.eval p.2)) pq hparts hcell pq hels;have hl':els.length=len:=by rw[h4];simp
  have hle:len≤len*(s+1):=Nat.le_mul_of_pos_right _ oq;have:=Then.arr (ty:=e) (c:=els.length) I hid hH h2 (by simp[big];omega) (Nat.le_refl _) oq;refine .inl ⟨.slice (some ⟨w.heap.size,0,none⟩) els.length els.length,w.alloc (.cells cs e), ?_,this⟩;have tl:¬ (len*(s+1) > 2^24):=by omega
  have hpl:(parts.map fun x=>(x.1,a.eval x.2)).toList=parts.toList.map fun p=>(p.1,a.eval p.2):=by simp
  have mk:(Instr.buildSlice t len (parts.map fun x=>(x.1,a.eval x.2))).run P w = .ok (.slice (some ⟨w.heap.size,0,none⟩) els.length els.length) (w.alloc (.cells cs e)):=by
   unfold Instr.buildSlice;rw[hpl];simp only[Sem.run_bind,run_underlying hu,Result.andThen_ok,hsr,tl,if_false];by_cases hc0:len*(s+1)=0
   ·rw[hc0]at h1;simp only[Array.range_zero',Array.map_empty]at h1;simp only[hc0,if_true,Sem.run_bind,Sem.run_pure,Result.andThen_ok,Array.range_zero',Array.map_empty];rw[h1];simp[newRow,hl']
   ·simp only[hc0,if_false,Sem.run_bind,hzr,Result.andThen_ok,Sem.run_pure];rw[h1];simp[newRow,hl']
  simp only[execOp,ho];simp only[Sem.run_bind,mk,Result.andThen_ok,Sem.run_pure]
 split at h
 ·rename_i l' _;cases h;have p2:els=l':=by simpa[allP]using hph
  rw[← p2];exact fin
 ·cases h;exact fin
def Z1l(H:Heap):AV→Option (Nat×List (List DV))
 | .d (.sl s els)=>some (s,els)
 | .d (.sc (.slice _ 0 _))=>some (1,[])
 | .ow b=>match H b with | some (.arr _ s els)=>some (s,els) | _=>none
 | .os b o n=>match H b with | some (.arr _ s els)=>some (s,(els.drop o).take n) | _=>none
 | _=>none
theorem Z1R{Ow:Own}{Im0:Nat→Prop}{w0:World}{ρ:Rho}{w:World}{Im:Nat→Prop}{H:Heap}{clk:Nat}{x:AV}{v:Value}{s:Nat}{els:List (List DV)}
  (I:Inv Ow Im0 w0 ρ w Im H clk) (hx:Rel ρ w Im x v) (h:Z1l H x=some (s,els)):∃ p c,v = .slice p els.length c∧els.length≤big∧els.length≤c∧(els≠[]→∀ e∈els,e.length=s)∧(els=[]∨∃ q,p=some q∧q.spot=none ∧
   ∀ (i:Nat) (e:List DV) (o:Nat) (y:DV),els[i]? = some e→e[o]? = some y→∃ u,w.cell? ⟨q.block,q.off+(i*s+o),none⟩=some u∧RelD w Im y u):=by
 unfold Z1l at h;split at h
 ·cases h;cases hx with
  | d hx =>
   cases hx with
   | slNil s p c=>exact⟨p,c,rfl,by simp,by simp,by simp,.inl rfl⟩
   | sl s els p n c f hn hc hb hs hp him hcell hrel =>
    subst hn;exact⟨some p,c,rfl,hb,hc,fun _=>hs,.inr ⟨p,rfl,hp,fun i e o y hi ho=>⟨f i o,hcell i e o y hi ho,hrel i e o y hi ho⟩⟩⟩
 ·cases h;exact⟨_,_,Z10 hx,by simp,by simp,by simp,.inl rfl⟩
 ·split at h;rotate_left
  ·cases h
  rename_i b _ ty s' els' hb;cases h;cases hx with
  | ow hρ hc hbg ha =>
   rename_i c ad β;obtain⟨β',h1,h2⟩:=I.blk b _ hb;rw[hρ]at h1;cases h1;obtain⟨g1,g2,_,g3,g4⟩:=h2;refine⟨ad,c,by rw[g2],by omega,by omega,fun _=>g3, ?_⟩;by_cases he:els=[]
   ·exact .inl he
   ·right;have hpos:0<els.length:=List.length_pos_iff.2 he;rcases g4 with⟨_,g4⟩ | ⟨g,cs,hg,hw,hsz,hcell⟩
    ·exact absurd g4 he
    rcases ha with ha | ⟨g',hg',rfl,_⟩
    ·omega
    rw[hg]at hg';cases hg';refine⟨⟨g,0,none⟩,rfl,rfl,fun i e o y hi ho=>?_⟩;obtain⟨u,k1,k2⟩:=hcell i e o y hi ho;exact⟨u,by simp[World.cell?,hw,k1],k2⟩
 ·split at h;rotate_left
  ·cases h
  rename_i b oo m _ ty s' els' hb;cases h;cases hx with
  | os hρ hn hc hbg ha =>
   rename_i c ad β;obtain⟨β',h1,h2⟩:=I.blk b _ hb;rw[hρ]at h1;cases h1;obtain⟨g1,g2,_,g3,g4⟩:=h2;have hl:((els'.drop oo).take m).length=m:=by simp;omega
   refine⟨ad,c,by rw[hl],by omega,by omega,fun _ e he=>g3 e (List.mem_of_mem_drop (List.mem_of_mem_take he)), ?_⟩;by_cases he:(els'.drop oo).take m=[]
   ·exact .inl he
   ·right;have hpos:0<m:=by
     rw[← hl];exact List.length_pos_iff.2 he
    rcases g4 with⟨_,g4⟩ | ⟨g,cs,hg,hw,hsz,hcell⟩
    ·subst g4;simp at he
    rcases ha with ha | ⟨g',hg',rfl,_⟩
    ·omega
    rw[hg]at hg';cases hg';refine⟨⟨g,oo*β.s,none⟩,rfl,rfl,fun i e o y hi ho=>?_⟩;have hi':els'[oo+i]? = some e:=by
     rw[List.getElem?_take]at hi;split at hi
     ·rwa [List.getElem?_drop]at hi
     ·cases hi
    obtain⟨u,k1,k2⟩:=hcell (oo+i) e o y hi' ho;refine⟨u, ?_,k2⟩;rw[Nat.add_mul]at k1;simp only[World.cell?,hw,g1];simpa[Nat.add_assoc]using k1
 ·cases h
theorem Z2y{P:Program}{w:World}{Im:Nat→Prop}{s:Nat}{els:List (List DV)}{p:Option Addr}{n c:Nat}(hs0:0<s)(hlen:els≠[]→∀ e∈els,e.length=s)
  (h:els=[]∨∃ q,p=some q∧q.spot=none∧∀ (i:Nat) (e:List DV) (o:Nat) (y:DV),els[i]? = some e→e[o]? = some y→∃ u,w.cell? ⟨q.block,q.off+(i*s+o),none⟩=some u∧RelD w Im y u) :
  ∃ cs,(Builtin.firstCells s els.length (.slice p n c)).run P w = .ok cs w∧RelE w Im s els cs∧cs.size=els.length*s:=by
 rcases h with h | ⟨q,rfl,hq,h⟩
 ·subst h;refine⟨#[], ?_,⟨by simp,by simp,by simp,by simp⟩,by simp⟩;cases p with
  | none=>simp[Builtin.firstCells]
  | some q=>simp[Builtin.firstCells,loadCells,loadCellsFrom]
 ·have hex:∀ j,j<els.length*s→∃ e y u,els[j/s]? = some e∧e[j%s]? = some y∧w.cell? ⟨q.block,q.off+j,none⟩=some u∧RelD w Im y u:=by
   intro j hj;have h1:j/s<els.length:=by rw[Nat.div_lt_iff_lt_mul hs0];exact hj
   have h2:els≠[]:=by intro h;subst h;simp at h1
   have h3:(els[j/s]).length=s:=hlen h2 _ (List.getElem_mem h1);have h4:j%s<(els[j/s]).length:=by rw[h3];exact Nat.mod_lt _ hs0
   obtain⟨u,k1,k2⟩:=h (j/s) _ (j%s) _ (List.getElem?_eq_getElem h1) (List.getElem?_eq_getElem h4);refine⟨_,_,u,List.getElem?_eq_getElem h1,List.getElem?_eq_getElem h4, ?_,k2⟩;rw[show j/s*s+j%s=j from by rw[Nat.mul_comm];exact Nat.div_add_mod j s]at k1;exact k1
  have hrun:=run_loadCells (P:=P) w q (els.length*s) (fun j=>(w.cell? ⟨q.block,q.off+j,none⟩).getD undef) (fun j hj=>by
   obtain⟨e,y,u,_,_,k,_⟩:=hex j hj;rw[addr_add hq,k];rfl)
  refine⟨_,by simpa[Builtin.firstCells]using hrun,⟨fun e he=>hlen (by intro h;subst h;simp at he) e he,by simp, ?_, ?_⟩,by simp⟩
  ·intro j v hv hj;obtain⟨e,y,u,_,_,k,k2⟩:=hex j hj;simp[hj,k]at hv;subst hv;exact k2.one
  ·intro i e o y hi ho;have hes:e.length=s:=hlen (by intro h;subst h;simp at hi) e (List.mem_of_getElem? hi);have hos:o<s:=by rw[← hes];exact(List.getElem?_eq_some_iff.1 ho).1
   have hj:i*s+o<els.length*s:=by
    have:(i+1)*s≤els.length*s:=Nat.mul_le_mul_right s (List.getElem?_eq_some_iff.1 hi).1;rw[Nat.add_mul]at this;omega
   obtain⟨u,k1,k2⟩:=h i e o y hi ho;exact⟨u,by simp[hj,k1],k2⟩
def Z0M(els:List (List DV))(o:Nat)(xs:List (List DV)):List (List DV):=els.take o++xs++els.drop (o+xs.length)
theorem Z9L{w:World}{Im:Nat→Prop}{s o:Nat}{els xs:List (List DV)}{cs cs' u:Array Value}(h:RelE w Im s els cs)(hx:RelE w Im s xs u)(hu:u.size=xs.length*s)(ho:o+xs.length≤els.length)
  (hsz:cs'.size=cs.size) (hget:∀ j,cs'[j]? = if j<o*s then cs[j]? else if j<o*s+u.size then u[j-o*s]? else cs[j]?):RelE w Im s (Z0M els o xs) cs':=by
 obtain⟨h1,h2,h3,h4⟩:=h;obtain⟨k1,k2,k3,k4⟩:=hx;have hl:(Z0M els o xs).length=els.length:=Z1c ho;refine⟨fun e he=>?_,by rw[hl,hsz];exact h2,fun j v hv hj=>?_,fun k e q x hk hq=>?_⟩
 ·simp only[Z0M,List.mem_append]at he;rcases he with(he | he) | he
  ·exact h1 e (List.mem_of_mem_take he)
  ·exact k1 e he
  ·exact h1 e (List.mem_of_mem_drop he)
 ·rw[hl]at hj;rw[hget]at hv;split at hv
  ·exact h3 j v hv hj
  ·split at hv
   ·exact k3 _ v hv oq
   ·exact h3 j v hv hj
 ·simp only[Z0M]at hk;rw[Z2r ho]at hk;have hes:e.length=s:=by
   split at hk
   ·exact h1 e (List.mem_of_getElem? hk)
   ·split at hk
    ·exact k1 e (List.mem_of_getElem? hk)
    ·exact h1 e (List.mem_of_getElem? hk)
  have hqs:q<s:=by rw[← hes];exact(List.getElem?_eq_some_iff.1 hq).1
  split at hk
  ·rename_i hlt;obtain⟨v,a1,a2⟩:=h4 k e q x hk hq;have:(k+1)*s≤o*s:=Nat.mul_le_mul_right s hlt;rw[Nat.add_mul]at this;exact⟨v,by rw[hget,if_pos oq];exact a1,a2⟩
  ·rename_i hge;split at hk
   ·rename_i hlt;obtain⟨v,a1,a2⟩:=k4 (k-o) e q x hk hq;have e1:k*s=o*s+(k-o)*s:=by rw[← Nat.add_mul];congr 1;omega
    have:(k-o+1)*s≤xs.length*s:=Nat.mul_le_mul_right s oq;rw[Nat.add_mul]at this;exact⟨v,by rw[hget,if_neg oq,if_pos oq,show k*s+q-o*s=(k-o)*s+q from by omega];exact a1,a2⟩
   ·rename_i hge2;obtain⟨v,a1,a2⟩:=h4 k e q x hk hq;have:(o+xs.length)*s≤k*s:=Nat.mul_le_mul_right s oq;rw[Nat.add_mul]at this;exact⟨v,by rw[hget,if_neg oq,if_neg oq];exact a1,a2⟩
theorem Ze1{ρ:Rho}{w:World}{Im:Nat→Prop}{β:Bi}{ty s:Nat}{els:List (List DV)}{g:Nat}{cs:Array Value}(h:RelB ρ w Im β (.arr ty s els))(hg:β.g=some g)(hw:w.heap[g]? = some (.cells cs ty (0,0))):RelE w Im s els cs:=by
 obtain⟨g1,g2,_,g3,g4⟩:=h;rcases g4 with⟨g4,_⟩ | ⟨g',cs',hg',hw',hsz,hcell⟩
 ·rw[hg]at g4;cases g4
 ·rw[hg]at hg';cases hg';rw[hw]at hw';cases hw';refine⟨g3,hsz,fun i v hv hi=>?_,hcell⟩;have hs0:0<s:=by
   rcases Nat.eq_zero_or_pos s with h | h
   ·subst h;simp at hi
   ·exact h
  have h1:i/s<els.length:=by rw[Nat.div_lt_iff_lt_mul hs0];exact hi
  have h3:(els[i/s]).length=s:=g3 _ (List.getElem_mem h1);have h4:i%s<(els[i/s]).length:=by rw[h3];exact Nat.mod_lt _ hs0
  obtain⟨u,k1,k2⟩:=hcell (i/s) _ (i%s) _ (List.getElem?_eq_getElem h1) (List.getElem?_eq_getElem h4);rw[show i/s*s+i%s=i from by rw[Nat.mul_comm];exact Nat.div_add_mod i s,hv]at k1;cases k1;exact k2.one
def Zbd(P:Program)(t:Nat)(hs:List Hint)(x y:AV)(H:Heap):Option Res :=
 match Z1b P t with
 | none=>none
 | some e=>match szOf P e with
  | 0=>none
  | s+1=>match Z1l H y with
   | some (s',xs)=>if s'=s+1 then
    match x with
    | .ow b=>match H b with
     | some (.arr ty s2 els)=>if s2=s+1 then
      match hs with
      | .els l'::_=>some ⟨.d (.sc (.int .i64 xs.length)),some (b,.arr ty s2 l'),[xs.length≤els.length,Z0M els 0 xs=l']⟩
      | _=>some ⟨.d (.sc (.int .i64 xs.length)),some (b,.arr ty s2 (Z0M els 0 xs)),[xs.length≤els.length]⟩
      else none
     | _=>none
    | .os b o n=>match H b with
     | some (.arr ty s2 els)=>if s2=s+1 then
      match hs with
      | .els l'::_=>some ⟨.d (.sc (.int .i64 xs.length)),some (b,.arr ty s2 l'),[xs.length≤n,Z0M els o xs=l']⟩
      | _=>some ⟨.d (.sc (.int .i64 xs.length)),some (b,.arr ty s2 (Z0M els o xs)),[xs.length≤n]⟩
      else none
     | _=>none
    | _=>none
    else none
   | none=>none
theorem Zh4{P:Program}{o:Oper}{id:Nat}{E:Operand→AV}{H:Heap}{r:Res}{x y:Operand}{t t':Nat}{hs:List Hint}
  (ho:o.op = .call ⟨.builtin .copy,#[x,y],#[t,t']⟩) (h:Zbd P t hs (E x) (E y) H=some r):Z2h P o id E H r:=by
 intro Ow Im0 w0 ρ w Im clk a I hid hH hE hph;have hx:=hE x;have hy:=hE y;unfold Zbd at h;split at h
 ·cases h
 rename_i e he;split at h
 ·cases h
 rename_i s hsz;split at h;rotate_left
 ·cases h
 rename_i s' xs hcont;split at h;rotate_left
 ·cases h
 rename_i hs';subst hs';obtain⟨p,c,hvy,hbx,hcx,hlx,hcellx⟩:=Z1R I hy hcont;obtain⟨u,hu1,hu2,hu3⟩:=Z2y (P:=P) (p:=p) (n:=xs.length) (c:=c) oq hlx hcellx;unfold Z1b at he;split at he;rotate_left
 ·cases he
 rename_i e' hut;cases he;have hsr:(sizeOf e).run P w = .ok (s+1) w:=Z3U hsz pq w;have fin:∀ (b oo n g c':Nat) (ty:Nat) (els:List (List DV)) (β:Bi),ρ b=some β→H b=some (.arr ty (s+1) els)→β.g=some g→a.eval x = .slice (some ⟨g,oo*(s+1),none⟩) n c'→xs.length≤n→oo+n≤els.length →
   Goes P o a w fun v w'=>Then Ow Im0 w0 ρ w Im clk (updH H b (.arr ty (s+1) (Z0M els oo xs))) (.d (.sc (.int .i64 xs.length))) v w':=by
  intro b oo n g c' ty els β hρ hb hg hvx hxn hon;obtain⟨β',h1,h2⟩:=I.blk b _ hb;rw[hρ]at h1;cases h1;have h2':=h2;obtain⟨g1,g2,g3,g4,g5⟩:=h2;rcases g5 with⟨g5,_⟩ | ⟨g',cs,hg',hw,hszc,hcell⟩
  ·rw[hg]at g5;cases g5
  rw[hg]at hg';cases hg';have hE1:=Ze1 h2' hg hw;have hfit:oo*(s+1)+u.toList.length≤cs.toList.length:=by
   have:(oo+xs.length)*(s+1)≤els.length*(s+1):=Nat.mul_le_mul_right _ oq;rw[Nat.add_mul]at this;simp[hu3];omega
  have hone:∀ v∈u.toList,v.oneCell'=true:=by
   intro v hv;obtain⟨k,hk⟩:=List.getElem?_of_mem hv;have hk':u[k]? = some v:=by simpa using hk
   exact hu2.2.2.1 k v hk' (by rw[← hu3];exact(Array.getElem?_eq_some_iff.1 hk').1)
  have hst:=run_storeCells_at P g (oo*(s+1)) ty u.toList 0 cs w hw (by simpa using hfit) hone;simp only[Nat.add_zero]at hst;obtain⟨bg,bs,bn⟩:=β;simp only at hg g1 g2;subst hg;subst g1;subst g2;have hlen:((cs.toList.take (oo*(s+1))++u.toList++cs.toList.drop (oo*(s+1)+u.toList.length)).toArray).size=cs.size:=by
   rw[List.size_toArray,Z1c hfit];simp
  have hget:∀ j,((cs.toList.take (oo*(s+1))++u.toList++cs.toList.drop (oo*(s+1)+u.toList.length)).toArray)[j]? = if j<oo*(s+1)then cs[j]? else if j<oo*(s+1)+u.size then u[j-oo*(s+1)]? else cs[j]? := by
   intro j;rw[List.getElem?_toArray,Z2r hfit];simp
  have hsp:=Z9L hE1 hu2 hu3 (show oo+xs.length≤els.length by omega) hlen hget;have hput:=I.put b g (s+1) els.length cs _ ty (.arr ty (s+1) (Z0M els oo xs)) hρ hw hlen ⟨_,hb,by simp⟩ (fun he=>by
   have hl:(Z0M els oo xs).length=els.length:=Z1c oq;refine⟨rfl,hl.symm,by rw[hl];exact g3,hsp.1,.inr ⟨g,_,rfl,setRow_heap w g cs _ ty _ hw,by rw[hlen,hl];exact hszc,fun i e o y hi ho=>?_⟩⟩;obtain⟨v,k1,k2⟩:=hsp.2.2.2 i e o y hi ho;exact⟨v,k1,k2.mono he (fun _ h=>h)⟩)
  refine .inl ⟨.int .i64 xs.length,_, ?_,ρ,hput.1,hput.2,fun _ _ h=>h,.d (.sc _ rfl)⟩;have hmin:Nat.min xs.length n=xs.length:=Nat.min_eq_left hxn;have hcp:(Builtin.copy_ #[t,t'] o.type #[.slice (some ⟨g,oo*(s+1),none⟩) n c',.slice p xs.length c]).run P w = .ok (goInt xs.length) (w.setRow g (cs.toList.take (oo*(s+1))++u.toList++cs.toList.drop (oo*(s+1)+u.toList.length)).toArray):=by
   unfold Builtin.copy_;simp only[List.getElem?_toArray,List.getElem?_cons_zero,List.getElem?_cons_succ,Sem.run_bind,run_underlying hut,Result.andThen_ok,Builtin.lenOf,Sem.run_pure,hsr,hmin,hu1,hst]
  simp[execOp,ho,resolve,hvx,hvy,invoke,builtin,hcp,goInt]
 split at h
 ·rename_i b hE1;rw[hE1]at hx;split at h;rotate_left
  ·cases h
  rename_i ty s2 els hb;split at h;rotate_left
  ·cases h
  rename_i hs2;subst hs2;generalize hvx:a.eval x=v at hx;cases hx with
  | ow hρ hc hbg ha =>
   rename_i c' ad β;obtain⟨β',h1,h2⟩:=I.blk b _ hb;rw[hρ]at h1;cases h1;have h2':=h2;obtain⟨g1,g2,_,_,_⟩:=h2;have base:xs.length≤els.length→Goes P o a w fun v w'=>Then Ow Im0 w0 ρ w Im clk (updH H b (.arr ty (s+1) (Z0M els 0 xs))) (.d (.sc (.int .i64 xs.length))) v w':=by
    intro hle;by_cases hx0:xs=[]
    ·-- nothing is copied
     subst hx0;have hsame:Z0M els 0 []=els:=by simp[Z0M]
     have hupd:updH H b (.arr ty (s+1) els)=H:=by funext k;unfold updH;split<;>simp_all
     rw[hsame,hupd];have hu0:u = #[]:=by apply Array.eq_empty_of_size_eq_zero;simpa using hu3
     refine .inl ⟨.int .i64 0,w, ?_,.same I (.d (.sc _ rfl))⟩;have hcp:(Builtin.copy_ #[t,t'] o.type #[.slice ad β.n c',.slice p 0 c]).run P w = .ok (goInt 0) w:=by
      unfold Builtin.copy_;simp only[List.length_nil]at hu1;have hmin:Nat.min 0 β.n=0:=Nat.zero_min _;simp only[List.getElem?_toArray,List.getElem?_cons_zero,List.getElem?_cons_succ,Sem.run_bind,run_underlying hut,Result.andThen_ok,Builtin.lenOf,Sem.run_pure,hsr,hmin,hu1,hu0];cases ad<;>simp[storeCells]
     have hvy':a.eval y = .slice p 0 c:=by simpa using hvy
     simp[execOp,ho,resolve,hvx,hvy',invoke,builtin,hcp,goInt]
    ·have hpos:0<xs.length:=List.length_pos_iff.2 hx0;rcases ha with ha | ⟨g,hg,rfl,hrow⟩
     ·omega
     ·exact fin b 0 β.n g c' ty els β hρ hb hg (by simpa using hvx) oq oq
   split at h
   ·rename_i l' _;cases h;obtain⟨p1,p2⟩:xs.length≤els.length∧Z0M els 0 xs=l':=by simpa[allP]using hph
    rw[← p2];exact base p1
   ·cases h;exact base (by simpa[allP]using hph)
 ·rename_i b oo n hE1;rw[hE1]at hx;split at h;rotate_left
  ·cases h
  rename_i ty s2 els hb;split at h;rotate_left
  ·cases h
  rename_i hs2;subst hs2;generalize hvx:a.eval x=v at hx;cases hx with
  | os hρ hn hc hbg ha =>
   rename_i c' ad β;obtain⟨β',h1,h2⟩:=I.blk b _ hb;rw[hρ]at h1;cases h1;have h2':=h2;obtain⟨g1,g2,_,_,_⟩:=h2;have base:xs.length≤n→Goes P o a w fun v w'=>Then Ow Im0 w0 ρ w Im clk (updH H b (.arr ty (s+1) (Z0M els oo xs))) (.d (.sc (.int .i64 xs.length))) v w':=by
    intro hle;by_cases hx0:xs=[]
    ·subst hx0;have hsame:Z0M els oo []=els:=by simp[Z0M]
     have hupd:updH H b (.arr ty (s+1) els)=H:=by funext k;unfold updH;split<;>simp_all
     rw[hsame,hupd];have hu0:u = #[]:=by apply Array.eq_empty_of_size_eq_zero;simpa using hu3
     refine .inl ⟨.int .i64 0,w, ?_,.same I (.d (.sc _ rfl))⟩;have hcp:(Builtin.copy_ #[t,t'] o.type #[.slice ad n c',.slice p 0 c]).run P w = .ok (goInt 0) w:=by
      unfold Builtin.copy_;simp only[List.length_nil]at hu1;have hmin:Nat.min 0 n=0:=Nat.zero_min _;simp only[List.getElem?_toArray,List.getElem?_cons_zero,List.getElem?_cons_succ,Sem.run_bind,run_underlying hut,Result.andThen_ok,Builtin.lenOf,Sem.run_pure,hsr,hmin,hu1,hu0];cases ad<;>simp[storeCells]
     have hvy':a.eval y = .slice p 0 c:=by simpa using hvy
     simp[execOp,ho,resolve,hvx,hvy',invoke,builtin,hcp,goInt]
    ·have hpos:0<xs.length:=List.length_pos_iff.2 hx0;rcases ha with ha | ⟨g,hg,rfl,hrow⟩
     ·omega
     ·exact fin b oo n g c' ty els β hρ hb hg (by rw[← g1];exact hvx) hle oq
   split at h
   ·rename_i l' _;cases h;obtain⟨p1,p2⟩:xs.length≤n∧Z0M els oo xs=l':=by simpa[allP]using hph
    rw[← p2];exact base p1
   ·cases h;exact base (by simpa[allP]using hph)
 ·cases h
def Sys(Ow:Own)(Im0:Nat→Prop)(w0:World)(tmps:List AV)(H:Heap)(clk:Nat)(a:Act)(w:World):Prop :=
 ∃ ρ Im,Inv Ow Im0 w0 ρ w Im H clk∧RelT ρ w Im tmps a
def Z7s(f:AV→AV):AV→AV
 | .pt b i o=>f (.pt b i o)
 | .os b o n=>f (.os b o n)
 | .ow b=>f (.ow b)
 | .d x=>.d x
 | .rp e o=>.rp e o
 | _=>.any
def mapA(f:AV→AV):AV→AV
 | .ag l=>.ag (l.map (Z7s f))
 | .fn g caps=>.fn g (caps.map (Z7s f))
 | .ic t (.ag l)=>.ic t (.ag (l.map (Z7s f)))
 | .ic t a=>.ic t (Z7s f a)
 | a=>Z7s f a
section
variable {ρ ρ':Rho} {w:World} {Im Im':Nat→Prop} {f:AV→AV}
theorem Zke(hi:∀ g,Im g→Im' g)(hpt:∀ b i o v,Rel ρ w Im (.pt b i o) v→Rel ρ' w Im' (f (.pt b i o)) v)(hos:∀ b o n v,Rel ρ w Im (.os b o n) v→Rel ρ' w Im' (f (.os b o n)) v)
  (how:∀ b v,Rel ρ w Im (.ow b) v→Rel ρ' w Im' (f (.ow b)) v) {a:AV} {v:Value} (h:Rel ρ w Im a v):Rel ρ' w Im' (Z7s f a) v:=by
 cases a with
 | pt b i o=>exact hpt _ _ _ _ h
 | os b o n=>exact hos _ _ _ _ h
 | ow b=>exact how _ _ h
 | d x=>cases h with | d h=>exact .d (h.mono (Ext.refl _ _) hi)
 | rp e o=>cases h with | rp h1 h2 h3=>exact .rp h1 (hi _ h2) (fun j x hx=>let ⟨v,k1,k2⟩:=h3 j x hx;⟨v,k1,k2.mono (Ext.refl _ _) hi⟩)
 | _=>exact .any _
theorem Z6O(hi:∀ g,Im g→Im' g)(hpt:∀ b i o v,Rel ρ w Im (.pt b i o) v→Rel ρ' w Im' (f (.pt b i o)) v)(hos:∀ b o n v,Rel ρ w Im (.os b o n) v→Rel ρ' w Im' (f (.os b o n)) v)
  (how:∀ b v,Rel ρ w Im (.ow b) v→Rel ρ' w Im' (f (.ow b)) v) {a:AV} {v:Value} (h:Rel ρ w Im a v):Rel ρ' w Im' (mapA f a) v:=by
 have leaf:∀ {a:AV} {v:Value},Rel ρ w Im a v→Rel ρ' w Im' (Z7s f a) v:=fun h=>Zke hi hpt hos how h;have agg:∀ {l:List AV} {v:Value},Rel ρ w Im (.ag l) v→Rel ρ' w Im' (.ag (l.map (Z7s f))) v:=fun h=>by
  obtain⟨cs,rfl,h1,h2,h3⟩:=Z3u h;refine .ag _ cs (by simpa using h1) h2 fun i x v hx hv=>?_;simp only[List.getElem?_map,Option.map_eq_some_iff]at hx;obtain⟨y,hy,rfl⟩:=hx;exact leaf (h3 i y v hy hv)
 cases a with
 | ag l=>exact agg h
 | fn g caps =>
  cases h with
  | fn h1 h3 =>
   refine .fn (by simpa using h1) fun i x v hx hv=>?_;simp only[List.getElem?_map,Option.map_eq_some_iff]at hx;obtain⟨y,hy,rfl⟩:=hx;exact leaf (h3 i y v hy hv)
 | ic t a =>
  cases h with
  | ic h =>
   cases a with
   | ag l=>exact .ic (agg h)
   | _=>exact .ic (leaf h)
 | pt b i o=>exact leaf h
 | os b o n=>exact leaf h
 | ow b=>exact leaf h
 | d x=>exact leaf h
 | rp e o=>exact leaf h
 | tu l=>exact .any _
 | gd g a=>exact .any _
 | any=>exact .any _
end
section
variable {Ow:Own} {Im0:Nat→Prop} {w0:World} {ρ:Rho} {w:World} {Im:Nat→Prop} {H:Heap} {clk:Nat}
theorem Inv.kill(I:Inv Ow Im0 w0 ρ w Im H clk){b:Nat}{B:Blk}(hb:H b=some B):Inv Ow Im0 w0 ρ w Im (updH H b .dead) clk:=by
 have hl:∀ k,live (updH H b .dead) k→k≠b∧live H k:=by
  intro k h;have hk:k≠b:=by
   rintro rfl;obtain⟨B',h1,h2⟩:=h;simp only[updH,if_true,Option.some.injEq]at h1;exact h2 h1.symm
  exact⟨hk,Z1s h hk⟩
 refine⟨I.kept,fun k k' β β' g l1 l2=>I.inj k k' β β' g (hl k l1).2 (hl k' l2).2,fun k β g l=>I.notIm k β g (hl k l).2,I.bnd,I.own,I.imb,I.im0,fun k B' h=>?_,fun k hk h=>?_,I.one⟩
 ·unfold updH at h;split at h
  ·rename_i e;cases h;obtain⟨β,h1,_⟩:=I.blk b B hb;exact⟨β,by rw[e];exact h1,trivial⟩
  ·exact I.blk k B' h
 ·unfold updH at h;split at h
  ·cases h
  ·exact I.fresh k hk h
theorem Inv.take(I:Inv Ow Im0 w0 ρ w Im H clk)(id:Nat)(hid:clk*8000≤id)(hH:H id=none)(g s n:Nat)(cs cs':Array Value)(ty:Nat)(B:Blk)
  (hfree:∀ k κ,live H k→ρ k=some κ→κ.g≠some g) (him:¬ Im g) (hown:w0.heap.size≤g∨OwA Ow g)
  (hg:w.heap[g]? = some (.cells cs ty (0,0))) (hs:cs'.size=cs.size)
  (hB:Ext Im w (w.setRow g cs')→RelB (updR ρ id ⟨some g,s,n⟩) (w.setRow g cs') Im ⟨some g,s,n⟩ B) :
  Inv Ow Im0 w0 (updR ρ id ⟨some g,s,n⟩) (w.setRow g cs') Im (updH H id B) clk∧Ext Im w (w.setRow g cs'):=by
 have hsz:(w.setRow g cs').heap.size=w.heap.size:=by simp[World.setRow]
 have hgl:g<w.heap.size:=by
  rcases Nat.lt_or_ge g w.heap.size with h | h
  ·exact h
  ·rw[Array.getElem?_eq_none h]at hg;cases hg
 have he:Ext Im w (w.setRow g cs'):=⟨by omega,fun k hk=>setRow_other w g k cs' (fun e=>him (e▸hk)),fun k _=>Z1Y w g cs cs' ty hg hs k⟩
 have hn:=I.fresh id hid hH;refine⟨⟨?_, ?_, ?_, ?_, ?_,fun g h=>by rw[hsz];exact I.imb g h,I.im0, ?_, ?_,Z8M I.one hid⟩,he⟩
 ·have k:=I.kept;refine⟨k.os,k.tape,k.output,by rw[hsz];exact k.size,fun i hi ho=>?_,fun i hi=>?_⟩
  ·have:i≠g:=by
    rintro rfl;rcases hown with h | h
    ·omega
    ·exact ho h
   rw[setRow_other w g i cs' this];exact k.block i hi ho
  ·rw[Z1Y w g cs cs' ty hg hs];exact k.rows i hi
 ·intro b b' β β' g' l1 l2 h1 h2 h3 h4;unfold updR at h1 h2;split at h1<;>split at h2
  ·omega
  ·cases h1;cases h3;exact absurd h4 (hfree b' β' (Z1s l2 aa) h2)
  ·cases h2;cases h4;exact absurd h3 (hfree b β (Z1s l1 aa) h1)
  ·exact I.inj b b' β β' g' (Z1s l1 aa) (Z1s l2 aa) h1 h2 h3 h4
 ·intro b β g' l h h';unfold updR at h;split at h
  ·cases h;cases h';exact him
  ·exact I.notIm b β g' (Z1s l aa) h h'
 ·intro b β g' h h';rw[hsz];unfold updR at h;split at h
  ·cases h;cases h';exact hgl
  ·exact I.bnd b β g' h h'
 ·intro b β g' h h';unfold updR at h;split at h
  ·rename_i hbi;cases h;cases h';have:=I.one;exact hown.imp (fun h=>⟨h,by omega⟩) (fun h=>h)
  ·exact I.own b β g' h h'
 ·intro b B' h;unfold updH at h;split at h
  ·cases h;rename_i hb;exact⟨_,by rw[hb];exact Z21 _ _ _,hB he⟩
  ·obtain⟨β,h1,h2⟩:=I.blk b B' h;cases B' with
   | dead=>exact⟨β,Z2c hn _ _ h1,trivial⟩
   | _ =>
    refine⟨β,Z2c hn _ _ h1,h2.mono he (fun _ h=>h) (Z2c hn) I.bnd (fun g' hg'=>setRow_other w g g' cs' ?_)⟩;rintro rfl;exact hfree b β ⟨_,h,by simp⟩ h1 hg'
 ·intro b hb h;unfold updH at h;unfold updR;split
  ·rename_i hbi;simp[hbi]at h
  ·rename_i hbi;simp only[hbi,if_false]at h;exact I.fresh b hb h
end
theorem ZcC(n:Nat):∀ (r c:Nat),Builtin.growBy n r c≤max c (n+(n+768)/4)
 | 0,c=>by simp only[Builtin.growBy];omega
 | r+1,c=>by
  simp only[Builtin.growBy];split
  ·omega
  ·have:=ZcC n r (c+(c+768)/4);omega
theorem nextslicecap_le(n c:Nat)(h:c<n):Builtin.nextslicecap n c≤2*n+192:=by
 unfold Builtin.nextslicecap;split
 ·omega
 ·split
  ·omega
  ·have:=ZcC n 4 c;omega
def Z8d(P:Program)(e:Nat):Bool:=match Z5Y P e with | some zs=>zs.length==szOf P e | none=>false
def Zmv(P:Program)(t:Nat):Bool:=match P.underlying t with | some (.int _)=>true | _=>false
def Z3G(P:Program)(t t' id:Nat)(hs:List Hint)(x y:AV)(H:Heap):Option (Nat×Res) :=
 match x with
 | .ow b=>match H b with
  | some (.arr ty s els)=>match Z1b P t,Z1b P t' with
   | some e,some _=>match Z1l H y with
    | some (s',xs)=>if szOf P e=s∧s≠0∧(s'=s∨xs.length=0)∧e=ty∧bytesOf P e≤65536∧bytesOf P e≠0∧Z8d P e=true∧Nat.ble 8000 b=true then
     match hs with
     | .els l'::_=>some (b,⟨.ow id,some (id,.arr ty s l'),[els.length+xs.length≤2^30,els++xs=l']⟩)
     | _=>some (b,⟨.ow id,some (id,.arr ty s (els++xs)),[els.length+xs.length≤2^30]⟩)
     else none
    | none=>none
   | _,_=>none
  | _=>none
 | _=>none
def Z5t(P:Program)(t t' id:Nat)(hs:List Hint)(x:AV)(n:Int)(H:Heap):Option (Nat×Res) :=
 match x with
 | .ow b=>match H b with
  | some (.arr ty s els)=>match Z1b P t,Zmv P t' with
   | some e,true=>match Z5Y P e with
    | some zs=>if szOf P e=s∧s≠0∧e=ty∧bytesOf P e≤65536∧bytesOf P e≠0∧Z8d P e=true∧Nat.ble 8000 b=true then
     match hs with
     | .els l'::_=>some (b,⟨.ow id,some (id,.arr ty s l'),[0≤n∧els.length+n≤2^30,els++List.replicate n.toNat zs=l']⟩)
     | _=>some (b,⟨.ow id,some (id,.arr ty s (els++List.replicate n.toNat zs)),[0≤n∧els.length+n≤2^30]⟩)
     else none
    | none=>none
   | _,_=>none
  | _=>none
 | _=>none
def Z4j(P:Program)(t t' id:Nat)(hs:List Hint)(x y:AV)(H:Heap):Option (Nat×Res) :=
 match y with
 | .d (.sc (.int _ n))=>Z5t P t t' id hs x n H
 | _=>Z3G P t t' id hs x y H
theorem Z8m{w:World}{Im:Nat→Prop}{s:Nat}{els xs:List (List DV)}{cs:Array Value}{a b:Array Value}(h:RelE w Im s els a)(hx:RelE w Im s xs b)
  (hcs:(els.length+xs.length)*s≤cs.size) (h1:∀ j,j<els.length*s→cs[j]? = a[j]?) (h2:∀ j,j<xs.length*s→cs[els.length*s+j]? = b[j]?):RelE w Im s (els++xs) cs:=by
 obtain⟨a1,a2,a3,a4⟩:=h;obtain⟨b1,b2,b3,b4⟩:=hx;refine⟨fun e he=>?_,by rw[List.length_append];exact hcs,fun j v hv hj=>?_,fun i e o x hi ho=>?_⟩
 ·rcases List.mem_append.1 he with h | h
  ·exact a1 e h
  ·exact b1 e h
 ·rw[List.length_append,Nat.add_mul]at hj;by_cases hlt:j<els.length*s
  ·rw[h1 j hlt]at hv;exact a3 j v hv hlt
  ·have:=h2 (j-els.length*s) oq;rw[show els.length*s+(j-els.length*s)=j from by omega,hv]at this;exact b3 _ v this.symm oq
 ·have hes:e.length=s:=by
   rcases List.mem_append.1 (List.mem_of_getElem? hi)with h | h
   ·exact a1 e h
   ·exact b1 e h
  have hos:o<s:=by rw[← hes];exact(List.getElem?_eq_some_iff.1 ho).1
  rw[List.getElem?_append]at hi;split at hi
  ·rename_i hlt;obtain⟨v,k1,k2⟩:=a4 i e o x hi ho;have:(i+1)*s≤els.length*s:=Nat.mul_le_mul_right s hlt;rw[Nat.add_mul]at this;exact⟨v,by rw[h1 _ oq];exact k1,k2⟩
  ·rename_i hge;obtain⟨v,k1,k2⟩:=b4 (i-els.length) e o x hi ho;have hlt:=(List.getElem?_eq_some_iff.1 hi).1;have:(i-els.length+1)*s≤xs.length*s:=Nat.mul_le_mul_right s hlt;rw[Nat.add_mul]at this;have e1:i*s=els.length*s+(i-els.length)*s:=by rw[← Nat.add_mul];congr 1;omega
   exact⟨v,by rw[e1,Nat.add_assoc,h2 _ oq];exact k1,k2⟩
theorem Zb5{Ow:Own}{Im0:Nat→Prop}{w0:World}{ρ:Rho}{w:World}{Im:Nat→Prop}{H:Heap}{clk:Nat}{x:AV}{v:Value}{s:Nat}{els:List (List DV)}
  (I:Inv Ow Im0 w0 ρ w Im H clk) (hx:Rel ρ w Im x v) {s':Nat} (h:Z1l H x=some (s',els)) (hs:s'=s∨els.length=0):∃ p c,v = .slice p els.length c∧els.length≤big∧els.length≤c∧(els≠[]→∀ e∈els,e.length=s)∧(els=[]∨∃ q,p=some q∧q.spot=none ∧
   ∀ (i:Nat) (e:List DV) (o:Nat) (y:DV),els[i]? = some e→e[o]? = some y→∃ u,w.cell? ⟨q.block,q.off+(i*s+o),none⟩=some u∧RelD w Im y u):=by
 rcases hs with rfl | hs
 ·exact Z1R I hx h
 ·obtain⟨p,c,h1,h2,h3,_⟩:=Z1R I hx h;have e:=List.eq_nil_of_length_eq_zero hs;exact⟨p,c,h1,h2,h3,fun q=>absurd e q,.inl e⟩
theorem Z8F{P:Program}{o:Oper}{id t t':Nat}{x y:Operand}{H:Heap}{b' e s:Nat}{els xs:List (List DV)}{u u':Array Value}{vy z:Value}{nb:Nat}{Ow:Own}{Im0:Nat→Prop}{w0:World}{ρ:Rho}{w:World}{Im:Nat→Prop}{clk:Nat}{a:Act}{tmps:List AV}
  (ho:o.op = .call ⟨.builtin .append,#[x,y],#[t,t']⟩) (hvy:a.eval y=vy) (I:Inv Ow Im0 w0 ρ w Im H clk) (T:RelT ρ w Im tmps a)
  (hid:clk*8000≤id) (hH:H id=none) (hx:Rel ρ w Im (.ow b') (a.eval x)) (hb:H b'=some (.arr e s els)) (hs1:0<s) (hib:nb≤65536) (hb8:8000≤b') (hbig:els.length+xs.length≤2^30)
  (hu2:RelE w Im s xs u) (hu3:u.size=xs.length*s) (n2:RelE w.drew Im s xs u') (n3:u'.size=xs.length*s) (hzlen:z.cells.size=s)
  (A:∀ (ad:Option Addr) (c:Nat) (w':World),els.length+xs.length≤c→(match ad with | some q=>storeCells (q.add (els.length*s)) u.toList | none=>pure ():Sem Unit).run P w = .ok () w' →
   (Builtin.append_ #[t,t'] o.type #[.slice ad els.length c,vy]).run P w = .ok (.slice ad (els.length+xs.length) c) w')
  (B:∀ (ad:Option Addr) (c:Nat) (ux':Array Value) (newCap:Nat),¬ els.length+xs.length≤c→(Question.appendCap (els.length+xs.length) c e).cut (w.tape w.drawn (.appendCap (els.length+xs.length) c e))=newCap →
   ¬ (Builtin.nextslicecap (els.length+xs.length) c*nb > 2^48)→(Builtin.firstCells s els.length (.slice ad els.length c)).run P w.drew = .ok ux' w.drew →
   (Builtin.append_ #[t,t'] o.type #[.slice ad els.length c,vy]).run P w = .ok (.slice (some ⟨w.drew.heap.size,0,none⟩) (els.length+xs.length) newCap) (w.drew.alloc (.cells (ux'++u'++Builtin.zeroCells z.cells (newCap-(els.length+xs.length))) e))) :
  ∃ v w' ρ',(execOp a.eval o).run P w = .ok (.value v) w'∧Inv Ow Im0 w0 ρ' w' Im (updH (updH H b' .dead) id (.arr e s (els++xs))) clk∧RelT ρ' w' Im tmps a∧Rel ρ' w' Im (.ow id) v:=by
 have hcontx:Z1l H (.ow b')=some (s,els):=by simp[Z1l,hb]
 obtain⟨px,cx,hvx0,_,_,hlxx,hcellxx⟩:=Z1R I hx hcontx;obtain⟨ux,hux1,hux2,hux3⟩:=Z2y (P:=P) (p:=px) (n:=els.length) (c:=cx) hs1 hlxx hcellxx;generalize hvx:a.eval x=v at hx;cases hx with
 | ow hρ hc hbg ha =>
  rename_i c ad β;obtain⟨β',h1,h2⟩:=I.blk b' _ hb;rw[hρ]at h1;cases h1;have h2':=h2;obtain⟨g1,g2,g3,g4,g5⟩:=h2;rw[hvx]at hvx0;obtain⟨rfl,_,rfl⟩:ad=px∧β.n=els.length∧c=cx:=by injection hvx0 with q1 q2 q3;exact⟨q1,q2,q3⟩
  have ID:=I.kill hb;have TD:=T;have hidb:id≠b':=by rintro rfl;rw[hb]at hH;cases hH
  have hHd:updH H b' .dead id=none:=by unfold updH;rw[if_neg hidb];exact hH
  have hdead:∀ k κ g,live (updH H b' .dead) k→ρ k=some κ→β.g=some g→κ.g≠some g:=by
   intro k κ g hl hk hg hkg;have hkb:k≠b':=by
    rintro rfl;obtain⟨B',q1,q2⟩:=hl;simp only[updH,if_true,Option.some.injEq]at q1;exact q2 q1.symm
   exact hkb (I.inj k b' κ β g (Z1s hl hkb) ⟨_,hb,by simp⟩ hk hρ hkg hg)
  by_cases hfit:els.length+xs.length≤c
  ·-- there is room
   have run0:∀ w',(match ad with | some q=>storeCells (q.add (els.length*s)) u.toList | none=>pure ():Sem Unit).run P w = .ok () w' →
     (execOp a.eval o).run P w = .ok (.value (.slice ad (els.length+xs.length) c)) w':=by
    intro w' hw';have:=A ad c w' hfit hw';simp[execOp,ho,resolve,hvx,hvy,invoke,builtin,g2,this]
   rcases g5 with⟨g5,rfl⟩ | ⟨g,cs,hg,hw,hszc,hcell⟩
   ·-- no memory yet,nothing comes
    rcases ha with ha | ⟨g',hg',_⟩
    rotate_left
    ·rw[g5]at hg';cases hg'
    subst ha;have hxs:xs=[]:=by cases xs with | nil=>rfl | cons _ _=>simp at hfit
    subst hxs;have hu0:u = #[]:=by apply Array.eq_empty_of_size_eq_zero;simpa using hu3
    have hrun:=run0 w (by cases ad<;>simp[hu0,storeCells]);have hn:=ID.fresh id hid hHd;have hsub:=Z2c (β:=⟨none,s,0⟩) hn;refine⟨_,w,updR ρ id ⟨none,s,0⟩,hrun, ?_,TD.mono (Ext.refl _ _) (fun _ h=>h) hsub ID.bnd, ?_⟩
    ·refine⟨ID.kept, ?_, ?_, ?_, ?_,ID.imb,ID.im0, ?_, ?_,Z8M ID.one hid⟩
     ·intro k k' κ κ' g l1 l2 h1 h2 h3 h4;unfold updR at h1 h2;split at h1<;>split at h2
      ·omega
      ·cases h1;cases h3
      ·cases h2;cases h4
      ·exact ID.inj k k' κ κ' g (Z1s l1 aa) (Z1s l2 aa) h1 h2 h3 h4
     ·intro k κ g l h h';unfold updR at h;split at h
      ·cases h;cases h'
      ·exact ID.notIm k κ g (Z1s l aa) h h'
     ·intro k κ g h h';unfold updR at h;split at h
      ·cases h;cases h'
      ·exact ID.bnd k κ g h h'
     ·intro k κ g h h';unfold updR at h;split at h
      ·cases h;cases h'
      ·exact ID.own k κ g h h'
     ·intro k B h;unfold updH at h;split at h
      ·cases h;rename_i hk;exact⟨_,by rw[hk];exact Z21 _ _ _,rfl,rfl,by simp[big],by simp,.inl ⟨rfl,rfl⟩⟩
      ·obtain⟨κ,h1,h2⟩:=ID.blk k B h;exact⟨κ,hsub _ _ h1,h2.mono (Ext.refl _ _) (fun _ h=>h) hsub ID.bnd (fun _ _=>rfl)⟩
     ·intro k hk h;unfold updH at h;unfold updR;split
      ·rename_i hbi;simp[hbi]at h
      ·rename_i hbi;simp only[hbi,if_false]at h;exact ID.fresh k hk h
    ·have:=Rel.ow (ρ:=updR ρ id ⟨none,s,0⟩) (w:=w) (Im:=Im) (c:=0) (a:=ad) (Z21 ρ id ⟨none,s,0⟩) (Nat.le_refl _) (by simp[big]) (.inl rfl);simpa using this
   ·-- the row's own spare cells
    have hnew:w0.heap.size≤g∨OwA Ow g:=(I.own b' β g hρ hg).imp (·.1) (fun h=>h);by_cases hc0:c=0
    ·-- no cell: nothing comes
     subst hc0;have hl0:els=[]:=by cases els with | nil=>rfl | cons _ _=>simp at hfit
     have hxs:xs=[]:=by cases xs with | nil=>rfl | cons _ _=>simp at hfit
     subst hl0;subst hxs;have hu0:u = #[]:=by apply Array.eq_empty_of_size_eq_zero;simpa using hu3
     have hrun:=run0 w (by cases ad<;>simp[hu0,storeCells]);have hset:w.setRow g cs=w:=setRow_self w g cs e (0,0) hw;have htake:=ID.take id hid hHd g s 0 cs cs e (.arr e s ([]++[])) (fun k κ hl hk=>hdead k κ g hl hk hg) (I.notIm b' β g ⟨_,hb,by simp⟩ hρ hg) hnew hw rfl (fun he=>by
      rw[hset];exact⟨rfl,rfl,by simp[big],by simp,.inr ⟨g,cs,rfl,hw,by simp,by simp⟩⟩)
     rw[hset]at htake;have hsub:=Z2c (β:=⟨some g,s,0⟩) (ID.fresh id hid hHd);refine⟨_,w,_,hrun,htake.1,TD.mono (Ext.refl _ _) (fun _ h=>h) hsub ID.bnd, ?_⟩;have:=Rel.ow (ρ:=updR ρ id ⟨some g,s,0⟩) (w:=w) (Im:=Im) (c:=0) (a:=ad) (Z21 ρ id ⟨some g,s,0⟩) (Nat.le_refl _) (by simp[big]) (.inl rfl);simpa using this
    ·rcases ha with ha | ⟨g',hg',rfl,hrow⟩
     ·omega
     rw[hg]at hg';cases hg';have hcs:c*s≤cs.size:=by
      have:rows w g=cs.size:=by unfold Sx.rows;rw[hw]
      rw[this,g1]at hrow;exact hrow
     have hE1':=Ze1 h2' hg hw;have hroom:(els.length+xs.length)*s≤cs.size:=Nat.le_trans (Nat.mul_le_mul_right s hfit) hcs;have hfitl:els.length*s+u.toList.length≤cs.toList.length:=by
      rw[Nat.add_mul]at hroom;simp[hu3];omega
     have hone:∀ v∈u.toList,v.oneCell'=true:=by
      intro v hv;obtain⟨k,hk⟩:=List.getElem?_of_mem hv;have hk':u[k]? = some v:=by simpa using hk
      exact hu2.2.2.1 k v hk' (by rw[← hu3];exact(Array.getElem?_eq_some_iff.1 hk').1)
     have hst:=run_storeCells_at P g (els.length*s) e u.toList 0 cs w hw (by simpa using hfitl) hone;simp only[Nat.add_zero]at hst;have hrun:=run0 _ (by simp only[Addr.add_lit,Nat.zero_add];exact hst);have hlen:((cs.toList.take (els.length*s)++u.toList++cs.toList.drop (els.length*s+u.toList.length)).toArray).size=cs.size:=by
      rw[List.size_toArray,Z1c hfitl];simp
     have hget:∀ j,((cs.toList.take (els.length*s)++u.toList++cs.toList.drop (els.length*s+u.toList.length)).toArray)[j]? = if j<els.length*s then cs[j]? else if j<els.length*s+u.size then u[j-els.length*s]? else cs[j]? := by
      intro j;rw[List.getElem?_toArray,Z2r hfitl];simp
     have hrel:=Z8m hE1' hu2 (cs:=(cs.toList.take (els.length*s)++u.toList++cs.toList.drop (els.length*s+u.toList.length)).toArray) (by rw[hlen];exact hroom)
      (fun j hj=>by rw[hget,if_pos hj]) (fun j hj=>by rw[hget,if_neg oq,if_pos oq,show els.length*s+j-els.length*s=j from by omega])
     have hlb:(els++xs).length≤big:=by rw[List.length_append];simp[big];omega
     have htake:=ID.take id hid hHd g s (els++xs).length cs _ e (.arr e s (els++xs)) (fun k κ hl hk=>hdead k κ g hl hk hg) (I.notIm b' β g ⟨_,hb,by simp⟩ hρ hg) hnew hw hlen (fun he=>by
      refine⟨rfl,rfl,hlb,hrel.1,.inr ⟨g,_,rfl,setRow_heap w g cs _ e _ hw,hrel.2.1,fun i e o y hi ho=>?_⟩⟩;obtain⟨v,k1,k2⟩:=hrel.2.2.2 i e o y hi ho;exact⟨v,k1,k2.mono he (fun _ h=>h)⟩)
     have hsub:=Z2c (β:=⟨some g,s,(els++xs).length⟩) (ID.fresh id hid hHd);refine⟨_,_,_,hrun,htake.1,TD.mono htake.2 (fun _ h=>h) hsub ID.bnd, ?_⟩;have:=Rel.ow (ρ:=updR ρ id ⟨some g,s,(els++xs).length⟩) (w:=w.setRow g (cs.toList.take (els.length*s)++u.toList++cs.toList.drop (els.length*s+u.toList.length)).toArray) (Im:=Im) (c:=c) (a:=some ⟨g,0,none⟩) (Z21 ρ id ⟨some g,s,(els++xs).length⟩)
      (by rw[List.length_append];exact hfit) hlb (.inr ⟨g,rfl,rfl,by rw[Z1Y w g cs _ e hw hlen];unfold Sx.rows;rw[hw];exact hcs⟩)
     simpa using this
  ·-- a new row
   generalize hcap:(Question.appendCap (els.length+xs.length) c e).cut (w.tape w.drawn (.appendCap (els.length+xs.length) c e))=newCap;have hcapge:els.length+xs.length≤newCap:=by rw[← hcap];exact Nat.le_add_right _ _
   have hnot:¬ els.length+xs.length≤c:=hfit;have hroom:¬ (Builtin.nextslicecap (els.length+xs.length) c*nb > 2^48):=by
    have h1:=nextslicecap_le (els.length+xs.length) c oq;have h2:Builtin.nextslicecap (els.length+xs.length) c*nb≤(2*(els.length+xs.length)+192)*65536:=Nat.mul_le_mul h1 hib;omega
   obtain⟨ux',m1,m2,m3⟩:=Z2y (P:=P) (w:=w.drew) (Im:=Im) (p:=ad) (n:=els.length) (c:=c) (s:=s) (els:=els) hs1 hlxx (hcellxx.imp (fun h=>h) fun⟨q,k1,k2,k3⟩=>⟨q,k1,k2,fun i e o y hi ho=>let ⟨u,m1,m2⟩:=k3 i e o y hi ho;⟨u,m1,m2.mono (Ext.draw Im w) (fun _ h=>h)⟩⟩);have hsize:(ux'++u'++Builtin.zeroCells z.cells (newCap-(els.length+xs.length))).size=newCap*s:=by
    simp only[Array.size_append,Builtin.zeroCells,Array.size_map,Array.size_range,m3,n3,hzlen,← Nat.add_mul];congr 1;omega
   have hrel:=Z8m m2 n2 (cs:=ux'++u'++Builtin.zeroCells z.cells (newCap-(els.length+xs.length))) (by rw[hsize];exact Nat.mul_le_mul_right s hcapge)
    (fun j hj=>by rw[Array.append_assoc,Array.getElem?_append_left oq])
    (fun j hj=>by rw[Array.append_assoc,Array.getElem?_append_right oq,Array.getElem?_append_left oq];congr 1;omega)
   have hlb:(els++xs).length≤big:=by rw[List.length_append];simp[big];omega
   obtain⟨ρ',q1,q2,q3,q4⟩:=Then.arr (ty:=e) (c:=newCap) ID.draw hid hHd hrel hlb (by rw[List.length_append];exact hcapge) (by rw[hsize];exact Nat.le_refl _);refine⟨_,_,ρ', ?_,q1,(TD.mono (Ext.draw Im w) (fun _ h=>h) (fun _ _ h=>h) ID.bnd).mono q2 (fun _ h=>h) q3 ID.draw.bnd,q4⟩;have:=B ad c ux' newCap hnot hcap hroom m1;rw[List.length_append];simp[execOp,ho,resolve,hvx,hvy,invoke,builtin,g2,this]
theorem Zeg{P:Program}{o:Oper}{id t t':Nat}{x y:Operand}{hs:List Hint}{H:Heap}{E:Operand→AV}{b:Nat}{r:Res}{Ow:Own}{Im0:Nat→Prop}{w0:World}{ρ:Rho}{w:World}{Im:Nat→Prop}{clk:Nat}{a:Act}{tmps:List AV}
  (ho:o.op = .call ⟨.builtin .append,#[x,y],#[t,t']⟩) (h:Z3G P t t' id hs (E x) (E y) H=some (b,r)) (I:Inv Ow Im0 w0 ρ w Im H clk) (T:RelT ρ w Im tmps a)
  (hid:clk*8000≤id) (hH:H id=none) (hx:Rel ρ w Im (E x) (a.eval x)) (hy:Rel ρ w Im (E y) (a.eval y)) (hph:allP r.ph) :
  ∃ v w' ρ',(execOp a.eval o).run P w = .ok (.value v) w'∧Inv Ow Im0 w0 ρ' w' Im (r.heap (updH H b .dead)) clk∧RelT ρ' w' Im tmps a∧Rel ρ' w' Im r.val v:=by
 unfold Z3G at h;split at h;rotate_left
 ·cases h
 rename_i b' hE1;split at h;rotate_left
 ·cases h
 rename_i ty s els hb;split at h;rotate_left
 ·cases h
 rename_i e e2 he he2;split at h;rotate_left
 ·cases h
 rename_i s' xs hcont;split at h;rotate_left
 ·cases h
 rename_i hc;obtain⟨hsz,hs0,hss,rfl,hby,hby0,hz,hb8⟩:=hc;have hb8:=Nat.le_of_ble_eq_true hb8;have hs1:0<s:=Nat.pos_of_ne_zero hs0;have fin:els.length+xs.length≤2^30→b'=b→∃ v w' ρ',(execOp a.eval o).run P w = .ok (.value v) w'∧Inv Ow Im0 w0 ρ' w' Im (updH (updH H b .dead) id (.arr e s (els++xs))) clk∧RelT ρ' w' Im tmps a∧Rel ρ' w' Im (.ow id) v:=by
  rintro hbig rfl;rw[hE1]at hx;obtain⟨p,cy,hvy,hbx,hcx,hlx,hcellx⟩:=Zb5 I hy hcont hss;obtain⟨u,hu1,hu2,hu3⟩:=Z2y (P:=P) (p:=p) (n:=xs.length) (c:=cy) hs1 hlx hcellx;have hut:P.underlying t=some (.slice e):=by
   unfold Z1b at he;split at he
   ·cases he;assumption
   ·cases he
  have hut':P.underlying t'=some (.slice e2):=by
   unfold Z1b at he2;split at he2
   ·cases he2;assumption
   ·cases he2
  have hsr:(sizeOf e).run P w = .ok s w:=Z3U hsz hs0 w;have hinfo:∃ i,P.info? e=some i∧i.bytes=bytesOf P e:=by
   unfold bytesOf at hby0 ⊢;cases hi:P.info? e with
   | none=>simp[hi]at hby0
   | some i=>exact⟨i,rfl,rfl⟩
  obtain⟨i,hi,hib⟩:=hinfo;unfold Z8d at hz;split at hz;rotate_left
  ·cases hz
  rename_i zs hzs;have hzlen0:zs.length=s:=by rw[← hsz];simpa using hz
  unfold Z5Y at hzs;split at hzs;rotate_left
  ·cases hzs
  rename_i z hzz;have hzr:∀ w,(zeroValue e).run P w = .ok z w:=fun w=>Z5J (P:=P) hzz w;split at hzs;rotate_left
  ·cases hzs
  rename_i l hl;have hzc:=(Z7b (fun _=>none) w Im z).cells hl;obtain⟨u',n1,n2,n3⟩:=Z2y (P:=P) (w:=w.drew) (Im:=Im) (p:=p) (n:=xs.length) (c:=cy) (s:=s) (els:=xs) hs1 hlx (hcellx.imp (fun h=>h) fun⟨q,k1,k2,k3⟩=>⟨q,k1,k2,fun i e o y hi ho=>let ⟨u,m1,m2⟩:=k3 i e o y hi ho;⟨u,m1,m2.mono (Ext.draw Im w) (fun _ h=>h)⟩⟩);have hzlen:z.cells.size=s:=by
   rw[hzc.1,Z39 hzs];simpa[dvs]using hzlen0
  refine Z8F (nb:=i.bytes) ho hvy I T hid hH hx hb hs1 (by rw[hib];exact hby) hb8 hbig hu2 hu3 n2 n3 hzlen (fun ad c w' hfit hw'=>?_) (fun ad c ux' newCap hnot hcap hroom m1=>?_)
  ·unfold Builtin.append_;simp only[List.getElem?_toArray,List.getElem?_cons_zero,List.getElem?_cons_succ,Sem.run_bind,run_underlying hut,run_underlying hut',Result.andThen_ok,Builtin.lenOf,Sem.run_pure,hsr,Bool.false_eq_true,if_false,hfit,if_true,Bool.not_false,hu1];cases ad with
   | none=>simp only[Sem.run_pure]at hw' ⊢;cases hw';simp
   | some q=>simp only at hw' ⊢;simp[hw']
  ·have hmax:¬ (((els.length+xs.length:Nat):Int) > IntKind.i64.max∧(False∨i.bytes=0)):=by
    rintro⟨_,h | h⟩
    ·exact h
    ·rw[hib]at h;exact hby0 h
   have hti:∀ w,(typeInfo e).run P w = .ok i w:=fun w=>by simp[typeInfo,hi]
   have hforced:(Question.appendCap (els.length+xs.length) c e).forced=false:=rfl;unfold Builtin.append_;simp only[List.getElem?_toArray,List.getElem?_cons_zero,List.getElem?_cons_succ,Sem.run_bind,run_underlying hut,run_underlying hut',Result.andThen_ok,Builtin.lenOf,Sem.run_pure,hsr,Bool.false_eq_true,if_false,hnot,Bool.not_false,if_true,hti];rw[if_neg hmax];simp only[Sem.run_pure,Sem.run_ite,hroom,if_false,run_choose,hforced,Bool.false_eq_true,World.drew_eq,hcap,Result.andThen_ok,run_askRoom,m1,n1,hzr,Sem.run_bind,newRow,run_newObj,World.alloc_eq,hti]
 split at h
 ·rename_i l' _;cases h;obtain⟨p1,p2⟩:=allP_cons.1 hph;have p2':els++xs=l':=by simpa[allP]using p2
  rw[Res.heap,← p2'];exact fin p1 rfl
 ·cases h;exact fin (by simpa[allP]using hph) rfl
theorem Ze3{P:Program}{o:Oper}{id t t':Nat}{x y:Operand}{hs:List Hint}{H:Heap}{E:Operand→AV}{b:Nat}{r:Res}{k:IntKind}{n:Int}{Ow:Own}{Im0:Nat→Prop}{w0:World}{ρ:Rho}{w:World}{Im:Nat→Prop}{clk:Nat}{a:Act}{tmps:List AV}
  (ho:o.op = .call ⟨.builtin .append,#[x,y],#[t,t']⟩) (h:Z5t P t t' id hs (E x) n H=some (b,r)) (hEy:E y = .d (.sc (.int k n))) (I:Inv Ow Im0 w0 ρ w Im H clk) (T:RelT ρ w Im tmps a)
  (hid:clk*8000≤id) (hH:H id=none) (hx:Rel ρ w Im (E x) (a.eval x)) (hy:Rel ρ w Im (E y) (a.eval y)) (hph:allP r.ph) :
  ∃ v w' ρ',(execOp a.eval o).run P w = .ok (.value v) w'∧Inv Ow Im0 w0 ρ' w' Im (r.heap (updH H b .dead)) clk∧RelT ρ' w' Im tmps a∧Rel ρ' w' Im r.val v:=by
 unfold Z5t at h;split at h;rotate_left
 ·cases h
 rename_i b' hE1;split at h;rotate_left
 ·cases h
 rename_i ty s els hb;split at h;rotate_left
 ·cases h
 rename_i e he he2;split at h;rotate_left
 ·cases h
 rename_i zs0 hzs0;split at h;rotate_left
 ·cases h
 rename_i hc;obtain⟨hsz,hs0,rfl,hby,hby0,hz,hb8⟩:=hc;have hb8:=Nat.le_of_ble_eq_true hb8;have hs1:0<s:=Nat.pos_of_ne_zero hs0;have fin:0≤n∧(els.length:Int)+n≤2^30→b'=b→∃ v w' ρ',(execOp a.eval o).run P w = .ok (.value v) w'∧Inv Ow Im0 w0 ρ' w' Im (updH (updH H b .dead) id (.arr e s (els++List.replicate n.toNat zs0))) clk∧RelT ρ' w' Im tmps a∧Rel ρ' w' Im (.ow id) v:=by
  rintro⟨hn0,hbig0⟩ rfl;have hvy:a.eval y = .int k n:=Z10 (hEy▸hy);generalize hxse:List.replicate n.toNat zs0=xs;have hxl:xs.length=n.toNat:=by rw[← hxse,List.length_replicate]
  have hbig:els.length+xs.length≤2^30:=by omega
  have hw64:IntKind.i64.wrap n=n:=by rw[IntKind.wrap_i64];omega
  have hzs00:=hzs0;unfold Z5Y at hzs0;split at hzs0;rotate_left
  ·cases hzs0
  rename_i z hzz;split at hzs0;rotate_left
  ·cases hzs0
  rename_i l hl;have hzlen0:zs0.length=s:=by
   unfold Z8d at hz;rw[hzs00]at hz;rw[← hsz];simpa using hz
  have hzr:∀ w,(zeroValue e).run P w = .ok z w:=fun w=>Z5J (P:=P) hzz w;have hzc:=(Z7b (fun _=>none) w Im z).cells hl;have hzlen:z.cells.size=s:=by
   rw[hzc.1,Z39 hzs0];simpa[dvs]using hzlen0
  rw[hE1]at hx;have hu2:∀ w,RelE w Im s xs (Builtin.zeroCells z.cells n.toNat):=by
   intro w;have:=Z74 (w:=w) (Im:=Im) n.toNat hl hzs0 hzlen0;rw[← hxse];unfold Builtin.zeroCells;rw[hzlen]at this ⊢;exact this
  have hu3:(Builtin.zeroCells z.cells n.toNat).size=xs.length*s:=by
   simp[Builtin.zeroCells,hzlen,hxl]
  generalize hue:Builtin.zeroCells z.cells n.toNat=u at hu2 hu3;have hu0':n.toNat*s=0→u = #[]:=by
   intro h0;apply Array.eq_empty_of_size_eq_zero;rw[hu3,hxl];exact h0
  have hut:P.underlying t=some (.slice e):=by
   unfold Z1b at he;split at he
   ·cases he;assumption
   ·cases he
  obtain⟨k2,hut'⟩:∃ k2,P.underlying t'=some (.int k2):=by
   unfold Zmv at he2;split at he2
   ·exact⟨_,by assumption⟩
   ·cases he2
  have hsr:(sizeOf e).run P w = .ok s w:=Z3U hsz hs0 w;have hinfo:∃ i,P.info? e=some i∧i.bytes=bytesOf P e:=by
   unfold bytesOf at hby0 ⊢;cases hi:P.info? e with
   | none=>simp[hi]at hby0
   | some i=>exact⟨i,rfl,rfl⟩
  obtain⟨i,hi,hib⟩:=hinfo;have hti:∀ w,(typeInfo e).run P w = .ok i w:=fun w=>by simp[typeInfo,hi]
  have hsra:∀ w,(sizeOf e).run P w = .ok s w:=fun w=>Z3U hsz hs0 w;have hbn:¬ (n*(i.bytes:Int) > 2^48):=by
   have h1:n*(i.bytes:Int)≤2^30*65536:=Int.mul_le_mul oq oq oq oq;omega
  have hn1:¬ n<0:=by omega
  refine Z8F (nb:=i.bytes) ho hvy I T hid hH hx hb hs1 (by rw[hib];exact hby) hb8 hbig (hu2 w) hu3 (hu2 w.drew) hu3 hzlen (fun ad c w' hfit hw'=>?_) (fun ad c ux' newCap hnot hcap hroom m1=>?_)
  ·have hfit2:els.length+n.toNat≤c:=by omega
   rw[hxl];unfold Builtin.append_;by_cases h0:n.toNat*s=0
   ·simp only[List.getElem?_toArray,List.getElem?_cons_zero,List.getElem?_cons_succ,Sem.run_bind,run_underlying hut,run_underlying hut',Result.andThen_ok,Sem.run_pure,hsra,asInt,asIntOf,hw64,hn1,if_false,hti,hbn,Bool.not_true,Bool.false_eq_true,if_true,reduceCtorEq,hfit2,h0];rw[hu0' h0]at hw';cases ad with
    | none=>simp only[Sem.run_pure]at hw' ⊢;cases hw';simp
    | some q=>simp only at hw' ⊢;simp[hw']
   ·simp only[List.getElem?_toArray,List.getElem?_cons_zero,List.getElem?_cons_succ,Sem.run_bind,run_underlying hut,run_underlying hut',Result.andThen_ok,Sem.run_pure,hsra,asInt,asIntOf,hw64,hn1,if_false,hti,hbn,Bool.not_true,Bool.false_eq_true,if_true,reduceCtorEq,hfit2,h0,hzr,hue];cases ad with
    | none=>simp only[Sem.run_pure]at hw' ⊢;cases hw';simp
    | some q=>simp only at hw' ⊢;simp[hw']
  ·have hmax:¬ (((els.length+n.toNat:Nat):Int) > IntKind.i64.max∧(True∨i.bytes=0)):=by
    rintro⟨h,_⟩;have:IntKind.i64.max=9223372036854775807:=by decide
    omega
   have hforced:(Question.appendCap (els.length+n.toNat) c e).forced=false:=rfl;rw[hxl]at hcap hroom hnot;rw[hxl];unfold Builtin.append_;by_cases h0:n.toNat*s=0
   ·have hu0:=hu0' h0;subst hu0;simp only[List.getElem?_toArray,List.getElem?_cons_zero,List.getElem?_cons_succ,Sem.run_bind,run_underlying hut,run_underlying hut',Result.andThen_ok,Sem.run_pure,hsra,asInt,asIntOf,hw64,hn1,if_false,hti,hbn,Bool.not_true,Bool.false_eq_true,if_true,reduceCtorEq,hnot,h0,hmax];simp only[Sem.run_pure,Sem.run_ite,hroom,if_false,run_choose,hforced,Bool.false_eq_true,World.drew_eq,hcap,Result.andThen_ok,run_askRoom,m1,hzr,Sem.run_bind,newRow,run_newObj,World.alloc_eq,hti]
   ·simp only[List.getElem?_toArray,List.getElem?_cons_zero,List.getElem?_cons_succ,Sem.run_bind,run_underlying hut,run_underlying hut',Result.andThen_ok,Sem.run_pure,hsra,asInt,asIntOf,hw64,hn1,if_false,hti,hbn,Bool.not_true,Bool.false_eq_true,if_true,reduceCtorEq,hnot,h0,hmax];simp only[Sem.run_pure,Sem.run_ite,hroom,if_false,run_choose,hforced,Bool.false_eq_true,World.drew_eq,hcap,Result.andThen_ok,run_askRoom,m1,hzr,hue,Sem.run_bind,newRow,run_newObj,World.alloc_eq,hti]
 split at h
 ·rename_i l' _;cases h;obtain⟨p1,p2⟩:=allP_cons.1 hph;have p2':els++List.replicate n.toNat zs0=l':=by simpa[allP]using p2
  rw[Res.heap,← p2'];exact fin p1 rfl
 ·cases h;exact fin (by simpa[allP]using hph) rfl
theorem Zh1{P:Program}{o:Oper}{id t t':Nat}{x y:Operand}{hs:List Hint}{H:Heap}{E:Operand→AV}{b:Nat}{r:Res}{Ow:Own}{Im0:Nat→Prop}{w0:World}{ρ:Rho}{w:World}{Im:Nat→Prop}{clk:Nat}{a:Act}{tmps:List AV}
  (ho:o.op = .call ⟨.builtin .append,#[x,y],#[t,t']⟩) (h:Z4j P t t' id hs (E x) (E y) H=some (b,r)) (I:Inv Ow Im0 w0 ρ w Im H clk) (T:RelT ρ w Im tmps a)
  (hid:clk*8000≤id) (hH:H id=none) (hx:Rel ρ w Im (E x) (a.eval x)) (hy:Rel ρ w Im (E y) (a.eval y)) (hph:allP r.ph) :
  ∃ v w' ρ',(execOp a.eval o).run P w = .ok (.value v) w'∧Inv Ow Im0 w0 ρ' w' Im (r.heap (updH H b .dead)) clk∧RelT ρ' w' Im tmps a∧Rel ρ' w' Im r.val v:=by
 unfold Z4j at h;split at h
 ·rename_i k n hEy;exact Ze3 ho h hEy I T hid hH hx hy hph
 ·exact Zeg ho h I T hid hH hx hy hph
def Z8j(P:Program)(t:Nat)(hs:List Hint)(x:AV)(H:Heap):Option Res :=
 match Z1b P t with
 | none=>none
 | some e=>match szOf P e with
  | 0=>none
  | s+1=>match Z5Y P e with
   | none=>none
   | some zs=>if zs.length=s+1 then
    match x with
    | .ow b=>match H b with
     | some (.arr ty s2 els)=>if s2=s+1 then
      match hs with
      | .els l'::_=>some ⟨.tu [],some (b,.arr ty s2 l'),[Z0M els 0 (List.replicate els.length zs)=l']⟩
      | _=>some ⟨.tu [],some (b,.arr ty s2 (Z0M els 0 (List.replicate els.length zs))),[]⟩
      else none
     | _=>none
    | .os b o n=>match H b with
     | some (.arr ty s2 els)=>if s2=s+1 then
      match hs with
      | .els l'::_=>some ⟨.tu [],some (b,.arr ty s2 l'),[Z0M els o (List.replicate n zs)=l']⟩
      | _=>some ⟨.tu [],some (b,.arr ty s2 (Z0M els o (List.replicate n zs))),[]⟩
      else none
     | _=>none
    | _=>none
    else none
theorem ZeM{P:Program}{o:Oper}{id:Nat}{E:Operand→AV}{H:Heap}{r:Res}{x:Operand}{t:Nat}{hs:List Hint}
  (ho:o.op = .call ⟨.builtin .clear,#[x],#[t]⟩) (h:Z8j P t hs (E x) H=some r):Z2h P o id E H r:=by
 intro Ow Im0 w0 ρ w Im clk a I hid hH hE hph;have hx:=hE x;unfold Z8j at h;split at h
 ·cases h
 rename_i e he;split at h
 ·cases h
 rename_i s hsz;split at h
 ·cases h
 rename_i zs hzs0;split at h;rotate_left
 ·cases h
 rename_i hzlen0;have hut:P.underlying t=some (.slice e):=by
  unfold Z1b at he;split at he
  ·cases he;assumption
  ·cases he
 have hzs00:=hzs0;unfold Z5Y at hzs0;split at hzs0;rotate_left
 ·cases hzs0
 rename_i z hzz;split at hzs0;rotate_left
 ·cases hzs0
 rename_i l hl;have hzr:(zeroValue e).run P w = .ok z w:=Z5J (P:=P) hzz w;have hzc:=(Z7b (fun _=>none) w Im z).cells hl;have hzlen:z.cells.size=s+1:=by
  rw[hzc.1,Z39 hzs0];simpa[dvs]using hzlen0
 have fin:∀ (b oo n g c':Nat) (ty:Nat) (els:List (List DV)) (β:Bi),ρ b=some β→H b=some (.arr ty (s+1) els)→β.g=some g→a.eval x = .slice (some ⟨g,oo*(s+1),none⟩) n c'→0<n→oo+n≤els.length →
   Goes P o a w fun v w'=>Then Ow Im0 w0 ρ w Im clk (updH H b (.arr ty (s+1) (Z0M els oo (List.replicate n zs)))) (.tu []) v w':=by
  intro b oo n g c' ty els β hρ hb hg hvx hn0 hon;obtain⟨u,hu⟩:∃ u,Builtin.zeroCells z.cells n=u:=⟨_,rfl⟩
  have hu2:RelE w Im (s+1) (List.replicate n zs) u:=by
   have:=Z74 (w:=w) (Im:=Im) n hl hzs0 hzlen0;rw[← hu];unfold Builtin.zeroCells;rw[hzlen]at this ⊢;exact this
  have hu3:u.size=(List.replicate n zs).length*(s+1):=by
   rw[← hu];simp[Builtin.zeroCells,hzlen]
  obtain⟨β',h1,h2⟩:=I.blk b _ hb;rw[hρ]at h1;cases h1;have h2':=h2;obtain⟨g1,g2,g3,g4,g5⟩:=h2;rcases g5 with⟨g5,_⟩ | ⟨g',cs,hg',hw,hszc,hcell⟩
  ·rw[hg]at g5;cases g5
  rw[hg]at hg';cases hg';have hE1:=Ze1 h2' hg hw;have hxl:(List.replicate n zs).length=n:=by simp
  generalize hxs:List.replicate n zs=xs at *;have hfit:oo*(s+1)+u.toList.length≤cs.toList.length:=by
   have:(oo+xs.length)*(s+1)≤els.length*(s+1):=Nat.mul_le_mul_right _ oq;rw[Nat.add_mul]at this;simp[hu3];omega
  have hone:∀ v∈u.toList,v.oneCell'=true:=by
   intro v hv;obtain⟨k,hk⟩:=List.getElem?_of_mem hv;have hk':u[k]? = some v:=by simpa using hk
   exact hu2.2.2.1 k v hk' (by rw[← hu3];exact(Array.getElem?_eq_some_iff.1 hk').1)
  have hst:=run_storeCells_at P g (oo*(s+1)) ty u.toList 0 cs w hw (by simpa using hfit) hone;simp only[Nat.add_zero]at hst;obtain⟨bg,bs,bn⟩:=β;simp only at hg g1 g2;subst hg;subst g1;subst g2;have hlen:((cs.toList.take (oo*(s+1))++u.toList++cs.toList.drop (oo*(s+1)+u.toList.length)).toArray).size=cs.size:=by
   rw[List.size_toArray,Z1c hfit];simp
  have hget:∀ j,((cs.toList.take (oo*(s+1))++u.toList++cs.toList.drop (oo*(s+1)+u.toList.length)).toArray)[j]? = if j<oo*(s+1)then cs[j]? else if j<oo*(s+1)+u.size then u[j-oo*(s+1)]? else cs[j]? := by
   intro j;rw[List.getElem?_toArray,Z2r hfit];simp
  have hsp:=Z9L hE1 hu2 hu3 (show oo+xs.length≤els.length by omega) hlen hget;have hput:=I.put b g (s+1) els.length cs _ ty (.arr ty (s+1) (Z0M els oo xs)) hρ hw hlen ⟨_,hb,by simp⟩ (fun he=>by
   have hl:(Z0M els oo xs).length=els.length:=Z1c oq;refine⟨rfl,hl.symm,by rw[hl];exact g3,hsp.1,.inr ⟨g,_,rfl,setRow_heap w g cs _ ty _ hw,by rw[hlen,hl];exact hszc,fun i e o y hi ho=>?_⟩⟩;obtain⟨v,k1,k2⟩:=hsp.2.2.2 i e o y hi ho;exact⟨v,k1,k2.mono he (fun _ h=>h)⟩)
  refine .inl ⟨.tuple #[],_, ?_,ρ,hput.1,hput.2,fun _ _ h=>h,.tu [] #[] rfl (fun i a v h=>by simp at h)⟩;have hcp:(Builtin.clear_ #[t] o.type #[.slice (some ⟨g,oo*(s+1),none⟩) n c']).run P w = .ok (.tuple #[]) (w.setRow g (cs.toList.take (oo*(s+1))++u.toList++cs.toList.drop (oo*(s+1)+u.toList.length)).toArray):=by
   unfold Builtin.clear_;obtain⟨m,rfl⟩:∃ m,n=m+1:=⟨n-1,by omega⟩
   simp only[List.getElem?_toArray,List.getElem?_cons_zero,Sem.run_bind,run_underlying hut,Result.andThen_ok,Sem.run_pure,hzr,hu,hst]
  simp[execOp,ho,resolve,hvx,invoke,builtin,hcp]
 have nil:∀ (b oo:Nat) (ty:Nat) (els:List (List DV)) (ad:Option Addr) (c':Nat),H b=some (.arr ty (s+1) els)→a.eval x = .slice ad 0 c' →
   Goes P o a w fun v w'=>Then Ow Im0 w0 ρ w Im clk (updH H b (.arr ty (s+1) (Z0M els oo (List.replicate 0 zs)))) (.tu []) v w':=by
  intro b oo ty els ad c' hb hvx;have hsame:Z0M els oo (List.replicate 0 zs)=els:=by simp[Z0M]
  have hupd:updH H b (.arr ty (s+1) els)=H:=by funext k;unfold updH;split<;>simp_all
  rw[hsame,hupd];refine .inl ⟨.tuple #[],w, ?_,.same I (.tu [] #[] rfl (fun i a v h=>by simp at h))⟩;have hcp:(Builtin.clear_ #[t] o.type #[.slice ad 0 c']).run P w = .ok (.tuple #[]) w:=by
   unfold Builtin.clear_;cases ad<;>simp only[List.getElem?_toArray,List.getElem?_cons_zero,Sem.run_bind,run_underlying hut,Result.andThen_ok,Sem.run_pure]
  simp[execOp,ho,resolve,hvx,invoke,builtin,hcp]
 split at h
 ·rename_i b hE1;rw[hE1]at hx;split at h;rotate_left
  ·cases h
  rename_i ty s2 els hb;split at h;rotate_left
  ·cases h
  rename_i hs2;subst hs2;generalize hvx:a.eval x=v at hx;cases hx with
  | ow hρ hc hbg ha =>
   rename_i c' ad β;obtain⟨β',h1,h2⟩:=I.blk b _ hb;rw[hρ]at h1;cases h1;have h2':=h2;obtain⟨g1,g2,_,_,_⟩:=h2;have base:Goes P o a w fun v w'=>Then Ow Im0 w0 ρ w Im clk (updH H b (.arr ty (s+1) (Z0M els 0 (List.replicate els.length zs)))) (.tu []) v w':=by
    rcases Nat.eq_zero_or_pos els.length with h0 | hpos
    ·rw[h0];exact nil b 0 ty els ad c' hb (by rw[hvx,g2,h0])
    ·rcases ha with ha | ⟨g,hg,rfl,hrow⟩
     ·omega
     ·exact fin b 0 els.length g c' ty els β hρ hb hg (by rw[hvx,g2];simp) hpos oq
   split at h
   ·rename_i l' _;cases h;have p2:Z0M els 0 (List.replicate els.length zs)=l':=by simpa[allP]using hph
    rw[← p2];exact base
   ·cases h;exact base
 ·rename_i b oo n hE1;rw[hE1]at hx;split at h;rotate_left
  ·cases h
  rename_i ty s2 els hb;split at h;rotate_left
  ·cases h
  rename_i hs2;subst hs2;generalize hvx:a.eval x=v at hx;cases hx with
  | os hρ hn hc hbg ha =>
   rename_i c' ad β;obtain⟨β',h1,h2⟩:=I.blk b _ hb;rw[hρ]at h1;cases h1;have h2':=h2;obtain⟨g1,g2,_,_,_⟩:=h2;have base:Goes P o a w fun v w'=>Then Ow Im0 w0 ρ w Im clk (updH H b (.arr ty (s+1) (Z0M els oo (List.replicate n zs)))) (.tu []) v w':=by
    rcases Nat.eq_zero_or_pos n with h0 | hpos
    ·rw[h0]at hvx ⊢;exact nil b oo ty els ad c' hb hvx
    ·rcases ha with ha | ⟨g,hg,rfl,hrow⟩
     ·omega
     ·exact fin b oo n g c' ty els β hρ hb hg (by rw[← g1];exact hvx) hpos oq
   split at h
   ·rename_i l' _;cases h;have p2:Z0M els oo (List.replicate n zs)=l':=by simpa[allP]using hph
    rw[← p2];exact base
   ·cases h;exact base
 ·cases h
def act(P:Program)(o:Oper)(id:Nat)(hs:List Hint)(E:Operand→AV)(H:Heap):Option Res :=
 match o.op with
 | .move x=>some (ZeT (E x))
 | .assign x=>match hs with
  | .own::_=>match x with
   | .const (.slice none 0 0)=>Zk4 P o.type id
   | _=>none
  | .int n::_=>match E x with
   | .d (.sc (.int k m))=>some (numR k m [] (.int n::[]))
   | _=>none
  | _=>some (ZeT (E x))
 | .alloc t=>Zbk P t id
 | .box t x=>Zkc t id (E x)
 | .build t parts=>Zc9 P t (parts.toList.map fun p=>(p.1,E p.2))
 | .buildSlice t len parts=>Z4y P t len id hs (parts.toList.map fun p=>(p.1,E p.2))
 | .load t x=>Z7i P t hs (E x) H
 | .store t x y=>match szOf P t with
  | 0=>none
  | _+1=>Z8c P t hs (E x) (E y) H
 | .nilCheck x=>Z6i (E x)
 | .binOp op t x y _=>Ze8 P op t hs (E x) y (E y)
 | .unOp op _ x=>ZmX op hs (E x)
 | .convert s t x=>ZdV P s t hs (E x)
 | .makeFunc fn first captured=>Z4F fn first captured E
 | .makeInterface t x=>Z3w P t (E x)
 | .typeAssert x _ t ok=>Z8P P t ok (E x)
 | .makeSlice t x y=>Z51 P t id hs (E x) (E y)
 | .slice t x lo hi mx=>match mx with
  | none=>match Z1b P t with
   | some e=>match P.info? e with
    | some _=>Z8a P t hs (E x) (lo.map E) (hi.map E) H
    | none=>none
   | none=>none
  | some _=>none
 | .fieldAddr t x f=>Z5b P t f (E x)
 | .field t x f=>Zbg P t f (E x)
 | .indexAddr t x y=>Z3S P t hs (E x) (E y) H
 | .extract x n=>Z7v n (E x)
 | .call c=>match c.callee with
  | .builtin .len=>match c.args.toList,c.argTypes.toList with
   | [x],[t]=>ZfO P t hs (E x) H
   | _,_=>none
  | .builtin .copy=>match c.args.toList,c.argTypes.toList with
   | [x,y],[t,_]=>Zbd P t hs (E x) (E y) H
   | _,_=>none
  | .builtin .clear=>match c.args.toList,c.argTypes.toList with
   | [x],[t]=>Z8j P t hs (E x) H
   | _,_=>none
  | .builtin .max=>match c.args.toList,c.argTypes.toList with
   | [x,y],[_,_]=>Zh7 true hs (E x) (E y)
   | _,_=>none
  | .builtin .min=>match c.args.toList,c.argTypes.toList with
   | [x,y],[_,_]=>Zh7 false hs (E x) (E y)
   | _,_=>none
  | _=>none
 | _=>none
theorem Z7A{c:Call}{b:Builtin}{l:List Operand}{m:List TypeId}(h1:c.callee = .builtin b)(h2:c.args.toList=l)(h3:c.argTypes.toList=m):c=⟨.builtin b,l.toArray,m.toArray⟩:=by
 obtain⟨x,y,z⟩:=c;simp only at h1 h2 h3;subst h1;subst h2;subst h3;simp
theorem Zdc{P:Program}{o:Oper}{id:Nat}{hs:List Hint}{E:Operand→AV}{H:Heap}{r:Res}(h:act P o id hs E H=some r):Z2h P o id E H r:=by
 unfold act at h;split at h
 ·cases h;exact Zax (.inl aa)
 ·split at h
  ·split at h
   ·exact ZiH aa h
   ·cases h
  ·rename_i x hop _ n _;split at h
   ·rename_i k m hx;cases h;exact Z1G fun ρ w Im a hE _=>by have:=Z10 (hx▸hE x);simp[execOp,hop,this]
   ·cases h
  ·cases h;exact Zax (.inr aa)
 ·exact Zes aa h
 ·exact ZhI aa h
 ·exact Zej aa h
 ·exact Z7V aa h
 ·exact Zgw aa h
 ·split at h
  ·cases h
  ·exact ZdS aa oq h
 ·exact Z9X aa h
 ·exact Zhg aa h
 ·exact Zkk aa h
 ·exact Zhw aa h
 ·exact Za1 aa h
 ·exact Z6g aa h
 ·exact ZdJ aa h
 ·exact Z9H aa h
 ·rename_i hop;split at h
  ·split at h
   ·rename_i e he;split at h
    ·rename_i i hi;exact ZeO hop (fun e' he'=>by rw[he]at he';cases he';rw[hi];rfl) h
    ·cases h
   ·cases h
  ·cases h
 ·exact Z9b aa h
 ·exact ZeQ aa h
 ·exact Z8B aa h
 ·exact Zcc aa h
 ·rename_i c hop;split at h
  ·rename_i hcal;split at h
   ·rename_i x t h1 h2;exact ZhF (by rw[hop,Z7A hcal h1 h2]) h
   ·cases h
  ·rename_i hcal;split at h
   ·rename_i x y t t' h1 h2;exact Zh4 (by rw[hop,Z7A hcal h1 h2]) h
   ·cases h
  ·rename_i hcal;split at h
   ·rename_i x t h1 h2;exact ZeM (by rw[hop,Z7A hcal h1 h2]) h
   ·cases h
  ·rename_i hcal;split at h
   ·rename_i x y t t' h1 h2;exact ZiP (by rw[hop,Z7A hcal h1 h2]) h
   ·cases h
  ·rename_i hcal;split at h
   ·rename_i x y t t' h1 h2;exact Zih (by rw[hop,Z7A hcal h1 h2]) h
   ·cases h
  ·cases h
 ·cases h
theorem Z9A{P:Program}{o:Oper}{id:Nat}{hs:List Hint}{E E':Operand→AV}{H:Heap}(h:∀ x∈o.op.operands.toList,E x=E' x):act P o id hs E H=act P o id hs E' H:=by
 unfold act;cases hop:o.op with
 | move x=>simp only[h x (by simp[hop,Op.operands])]
 | assign x=>simp only[h x (by simp[hop,Op.operands])]
 | box t x=>simp only[h x (by simp[hop,Op.operands])]
 | build t parts =>
  have:(parts.toList.map fun p=>(p.1,E p.2))=parts.toList.map fun p=>(p.1,E' p.2):=List.map_congr_left fun p hp=>by
   rw[h p.2 (by simp[hop,Op.operands];exact⟨p.1,by simpa using hp⟩)]
  simp only[this]
 | buildSlice t n parts =>
  have:(parts.toList.map fun p=>(p.1,E p.2))=parts.toList.map fun p=>(p.1,E' p.2):=List.map_congr_left fun p hp=>by
   rw[h p.2 (by simp[hop,Op.operands];exact⟨p.1,by simpa using hp⟩)]
  simp only[this]
 | load t x=>simp only[h x (by simp[hop,Op.operands])]
 | store t x y=>simp only[h x (by simp[hop,Op.operands]),h y (by simp[hop,Op.operands])]
 | nilCheck x=>simp only[h x (by simp[hop,Op.operands])]
 | binOp op t x y t'=>simp only[h x (by simp[hop,Op.operands]),h y (by simp[hop,Op.operands])]
 | unOp op t x=>simp only[h x (by simp[hop,Op.operands])]
 | convert s t x=>simp only[h x (by simp[hop,Op.operands])]
 | makeFunc fn first captured =>
  have:(captured.toList.map E)=captured.toList.map E':=List.map_congr_left fun p hp=>h p (by simp[hop,Op.operands];exact .inr (by simpa using hp));simp only[Z4F,this]
 | makeInterface t x=>simp only[h x (by simp[hop,Op.operands])]
 | typeAssert x t t' ok=>simp only[h x (by simp[hop,Op.operands])]
 | makeSlice t x y=>simp only[h x (by simp[hop,Op.operands]),h y (by simp[hop,Op.operands])]
 | slice t x lo hi mx =>
  have e1:lo.map E=lo.map E':=by cases lo with | none=>rfl | some y=>simp only[Option.map_some];rw[h y (by simp[hop,Op.operands])]
  have e2:hi.map E=hi.map E':=by cases hi with | none=>rfl | some y=>simp only[Option.map_some];rw[h y (by simp[hop,Op.operands])]
  simp only[h x (by simp[hop,Op.operands]),e1,e2]
 | fieldAddr t x f=>simp only[h x (by simp[hop,Op.operands])]
 | field t x f=>simp only[h x (by simp[hop,Op.operands])]
 | indexAddr t x y=>simp only[h x (by simp[hop,Op.operands]),h y (by simp[hop,Op.operands])]
 | extract x n=>simp only[h x (by simp[hop,Op.operands])]
 | call c =>
  have hm:∀ x∈c.args.toList,E x=E' x:=fun x hx=>h x (by simp only[hop,Op.operands,Call.operands,Array.toList_append,List.mem_append];exact .inr hx);dsimp only;split
  ·split
   ·rename_i x t h1 h2;rw[hm x (by rw[h1];simp)]
   ·rfl
  ·split
   ·rename_i x y t t' h1 h2;rw[hm x (by rw[h1];simp),hm y (by rw[h1];simp)]
   ·rfl
  ·split
   ·rename_i x t h1 h2;rw[hm x (by rw[h1];simp)]
   ·rfl
  ·split
   ·rename_i x y t t' h1 h2;rw[hm x (by rw[h1];simp),hm y (by rw[h1];simp)]
   ·rfl
  ·split
   ·rename_i x y t t' h1 h2;rw[hm x (by rw[h1];simp),hm y (by rw[h1];simp)]
   ·rfl
  ·rfl
 | _=>rfl
def bv(b:Bool):AV:=.d (.sc (.bool b))
theorem ZjG{a b:Bool}(h:bv a=bv b):a=b:=by unfold bv at h;injection h with h;injection h with h;injection h
def ZoA:Bool→Bool→Bool
 | true,b=>b
 | false,b=>!b
def guardOf(ops:Array Oper)(tmps:List AV):Option (Nat×Bool)→Option (Option Bool)
 | none=>some none
 | some (j,want)=>match ops[j]? with
  | some oj=>match oj.dst with
   | some t=>match tmps.getD t .any with
    | .d (.sc (.bool b))=>some (some (ZoA want b))
    | .gd g (.d (.sc (.bool b)))=>some (some (g&&ZoA want b))
    | _=>none
   | none=>none
  | none=>none
def Z1m(G:Option Bool)(R:Operand→AV)(x:Operand):AV:=match G with | none=>R x | some _=>strip (R x)
def Z2X(G:Option Bool)(R:Operand→AV):List Operand→List (AV×AV)
 | []=>[]
 | x::xs=>match G with
  | none=>Z2X G R xs
  | some g=>match R x with
   | .gd g' _=>(bv g',bv g)::Z2X G R xs
   | _=>Z2X G R xs
def EqP(l:List (AV×AV)):Prop:=∀ p∈l,p.1=p.2
theorem Z36{ρ:Rho}{w:World}{Im:Nat→Prop}{G:Option Bool}{R:Operand→AV}{l:List Operand}{x:Operand}{v:Value}(hx:x∈l)(hp:EqP (Z2X G R l))(hG:∀ g,G=some g→g=true)(h:Rel ρ w Im (R x) v):Rel ρ w Im (Z1m G R x) v:=by
 cases G with
 | none=>exact h
 | some g =>
  have hg:=hG g rfl;simp only[Z1m];cases hR:R x with
  | gd g' a =>
   have:(bv g',bv g)∈Z2X (some g) R l:=by
    clear hp h;induction l with
    | nil=>simp at hx
    | cons y l ih =>
     rcases List.mem_cons.1 hx with e | e
     ·subst e;simp[Z2X,hR]
     ·have:=ih e;simp only[Z2X];split
      ·exact List.mem_cons_of_mem _ this
      ·exact this
   have:=ZjG (hp _ this);rw[hR]at h;cases h with
   | gd h1 h2=>exact h1 (by rw[this];exact hg)
  | _=>rw[hR]at h;exact h
def mkG:Option Bool→AV→AV
 | none,a=>a
 | some g,a=>.gd g a
def phG:Option Bool→List Prop→List Prop
 | none,l=>l
 | some g,l=>l.map fun p=>g=true→p
theorem Z87{G:Option Bool}{l:List Prop}(h:allP (phG G l))(hG:∀ g,G=some g→g=true):allP l:=by
 cases G with
 | none=>exact h
 | some g =>
  have hg:=hG g rfl;induction l with
  | nil=>trivial
  | cons p l ih =>
   simp only[phG,List.map_cons]at h;obtain⟨h1,h2⟩:=allP_cons.1 h;exact allP_cons.2 ⟨h1 hg,ih h2⟩
def ZeW(w:World)(Im:Nat→Prop)(fr:Bool)(res:AV)(news:List Blk)(v:Value)(w':World):Prop :=
 Kept (fun _=>False) w w'∧∃ (ρ':Rho) (Im':Nat→Prop),(∀ g,Im' g→(fr=false∧Im g)∨w.heap.size≤g)∧(∀ g,Im' g→g<w'.heap.size) ∧
  (∀ b β g,ρ' b=some β→β.g=some g→w.heap.size≤g∧g<w'.heap.size∧¬ Im' g)∧(∀ b b' β β' g,ρ' b=some β→ρ' b'=some β'→β.g=some g→β'.g=some g→b=b') ∧
  (∀ (k:Nat) (β:Bi),ρ' k=some β→k<news.length)∧(∀ (k:Nat) (B:Blk),news[k]? = some B→∃ β,ρ' k=some β∧RelB ρ' w' Im' β B)∧Rel ρ' w' Im' res v
def GSpec(P:Program)(f:Nat)(args:List AV)(fr:Bool)(res:AV)(news:List Blk):Prop :=
 ∀ (w:World) (Im:Nat→Prop) (vs:Array Value),(∀ g,Im g→g<w.heap.size)→vs.size=args.length→(∀ (i:Nat) (x:AV) (v:Value),args[i]? = some x→vs[i]? = some v→Rel (fun _=>none) w Im x v) →
  Calls P f vs w fun e w'=>∃ v,e = .returned v∧ZeW w Im fr res news v w'
def toD1(H:Heap)(x:AV):Option AV:=match x with
 | .d x=>some (.d x)
 | .rp e o=>some (.rp e o)
 | .ow _ | .os .. => match Z1l H x with | some (s,els)=>some (.d (.sl s els)) | none=>none
 | _=>none
def toDs(H:Heap):List AV→Option (List AV)
 | []=>some []
 | a::l=>match toD1 H a,toDs H l with
  | some x,some r=>some (x::r)
  | _,_=>none
def toD(H:Heap)(x:AV):Option AV:=match x with
 | .ag l=>(toDs H l).map .ag
 | .fn f l=>(toDs H l).map (.fn f)
 | .ic t a=>(toD1 H a).map (.ic t)
 | a=>toD1 H a
def toDD(H:Heap):List AV→Option (List AV)
 | []=>some []
 | a::l=>match toD H a,toDD H l with
  | some x,some r=>some (x::r)
  | _,_=>none
def ZgM(ρ:Rho)(Im:Nat→Prop):Nat→Prop:=fun g=>Im g∨∃ b β,ρ b=some β∧β.g=some g
section
variable {Ow:Own} {Im0:Nat→Prop} {w0:World} {ρ:Rho} {w:World} {Im:Nat→Prop} {H:Heap} {clk:Nat}
theorem Z7M{x:AV}{v:Value}{s:Nat}{els:List (List DV)}(I:Inv Ow Im0 w0 ρ w Im H clk)(hx:Rel ρ w Im x v)(h:Z1l H x=some (s,els)):RelD w (ZgM ρ Im) (.sl s els) v:=by
 obtain⟨p,c,rfl,hb,hc,hl,hcell⟩:=Z1R I hx h;by_cases he:els=[]
 ·subst he;exact .slNil _ _ _
 rcases hcell with hcell | ⟨q,rfl,hq,hcell⟩
 ·exact absurd hcell he
 have hex:∀ (i:Nat) (e:List DV) (o:Nat) (y:DV),els[i]? = some e→e[o]? = some y→RelD w (ZgM ρ Im) y ((w.cell? ⟨q.block,q.off+(i*s+o),none⟩).getD undef):=by
  intro i e o y hi ho;obtain⟨u,k1,k2⟩:=hcell i e o y hi ho;rw[k1];exact k2.mono (Ext.refl _ _) (fun _ h=>.inl h)
 refine .sl s els q els.length c (fun i o=>(w.cell? ⟨q.block,q.off+(i*s+o),none⟩).getD undef) rfl hc hb (hl he) hq ?_ ?_ hex
 ·unfold Z1l at h;split at h
  ·cases h;cases hx with
   | d hx =>
    cases hx with
    | slNil=>exact absurd rfl he
    | sl _ _ _ _ _ _ _ _ _ _ _ him=>exact .inl him
  ·cases h;exact absurd rfl he
  ·split at h;rotate_left
   ·cases h
   rename_i b _ ty s' els' hb';cases h;generalize hvv:Value.slice (some q) els.length c=vv at hx;cases hx with
   | ow hρ hcc _ ha =>
    injection hvv with e1 e2 e3;rcases ha with ha | ⟨g,hg,e,_⟩
    ·have:0<els.length:=List.length_pos_iff.2 he;omega
    ·rw[← e1]at e;cases e;exact .inr ⟨b,_,hρ,hg⟩
  ·split at h;rotate_left
   ·cases h
   rename_i b oo m _ ty s' els' hb';cases h;generalize hvv:Value.slice (some q) ((els'.drop oo).take m).length c=vv at hx;cases hx with
   | os hρ hn hcc _ ha =>
    injection hvv with e1 e2 e3;rcases ha with ha | ⟨g,hg,e,_⟩
    ·exfalso;have:0<((els'.drop oo).take m).length:=List.length_pos_iff.2 he;omega
    ·rw[← e1]at e;cases e;exact .inr ⟨b,_,hρ,hg⟩
  ·cases h
 ·intro i e o y hi ho;obtain⟨u,k1,_⟩:=hcell i e o y hi ho;rw[k1];rfl
theorem Z8b{x y:AV}{v:Value}(I:Inv Ow Im0 w0 ρ w Im H clk)(hx:Rel ρ w Im x v)(h:toD1 H x=some y):Rel (fun _=>none) w (ZgM ρ Im) y v:=by
 unfold toD1 at h;split at h
 ·cases h;cases hx with | d hx=>exact .d (hx.mono (Ext.refl _ _) (fun _ h=>.inl h))
 ·cases h;cases hx with | rp h1 h2 h3=>exact .rp h1 (.inl h2) (fun j x hx=>let ⟨v,k1,k2⟩:=h3 j x hx;⟨v,k1,k2.mono (Ext.refl _ _) (fun _ h=>.inl h)⟩)
 ·split at h
  ·cases h;exact .d (Z7M I hx aa)
  ·cases h
 ·split at h
  ·cases h;exact .d (Z7M I hx aa)
  ·cases h
 ·cases h
theorem ZbJ{H:Heap}:∀ {l m:List AV},toDs H l=some m→m.length=l.length∧∀ (i:Nat) (y:AV),m[i]? = some y→∃ x,l[i]? = some x∧toD1 H x=some y
 | [],m,h=>by simp[toDs]at h;subst h;simp
 | a::l,m,h=>by
  simp only[toDs]at h;split at h
  ·rename_i x r hx hr;cases h;obtain⟨h1,h2⟩:=ZbJ hr;refine⟨by simp[h1],fun i y hy=>?_⟩;cases i with
   | zero=>simp at hy;subst hy;exact⟨a,rfl,hx⟩
   | succ i=>exact h2 i y (by simpa using hy)
  ·cases h
theorem Zjw{x y:AV}{v:Value}(I:Inv Ow Im0 w0 ρ w Im H clk)(hx:Rel ρ w Im x v)(h:toD H x=some y):Rel (fun _=>none) w (ZgM ρ Im) y v:=by
 unfold toD at h;split at h
 ·simp only[Option.map_eq_some_iff]at h;obtain⟨m,hm,rfl⟩:=h;obtain⟨h1,h2⟩:=ZbJ hm;obtain⟨cs,rfl,k1,k2,k3⟩:=Z3u hx;refine .ag _ cs oq k2 fun i a u ha hu=>?_;obtain⟨x,hx',hd⟩:=h2 i a ha;exact Z8b I (k3 i x u hx' hu) hd
 ·simp only[Option.map_eq_some_iff]at h;obtain⟨m,hm,rfl⟩:=h;obtain⟨h1,h2⟩:=ZbJ hm;cases hx with
  | fn k1 k3 =>
   refine .fn oq fun i a u ha hu=>?_;obtain⟨x,hx',hd⟩:=h2 i a ha;exact Z8b I (k3 i x u hx' hu) hd
 ·simp only[Option.map_eq_some_iff]at h;obtain⟨m,hm,rfl⟩:=h;cases hx with
  | ic hx=>exact .ic (Z8b I hx hm)
 ·exact Z8b I hx h
end
theorem Zbh{H:Heap}:∀ {l m:List AV},toDD H l=some m→m.length=l.length∧∀ (i:Nat) (y:AV),m[i]? = some y→∃ x,l[i]? = some x∧toD H x=some y
 | [],m,h=>by simp[toDD]at h;subst h;simp
 | a::l,m,h=>by
  simp only[toDD]at h;split at h
  ·rename_i x r hx hr;cases h;obtain⟨h1,h2⟩:=Zbh hr;refine⟨by simp[h1],fun i y hy=>?_⟩;cases i with
   | zero=>simp at hy;subst hy;exact⟨a,rfl,hx⟩
   | succ i=>exact h2 i y (by simpa using hy)
  ·cases h
def Z6p:AV→Bool
 | .d _ | .rp .. => true
 | _=>false
def Z8O:AV→Bool
 | .ag l=>l.all Z6p
 | .fn _ l=>l.all Z6p
 | .ic _ (.ag l)=>l.all Z6p
 | .ic _ a=>Z6p a
 | a=>Z6p a
theorem Z3I{ρ ρ':Rho}{w:World}{Im:Nat→Prop}{x:AV}{v:Value}(h:Rel ρ w Im x v)(hp:Z6p x=true):Rel ρ' w Im x v:=by
 cases h<;>first | (simp[Z6p]at hp;done) | skip
 ·exact .d aa
 ·exact .rp aa aa aa
theorem Zb0{ρ ρ':Rho}{w:World}{Im:Nat→Prop}{x:AV}{v:Value}(h:Rel ρ w Im x v)(hp:Z8O x=true):Rel ρ' w Im x v:=by
 unfold Z8O at hp;split at hp
 ·obtain⟨cs,rfl,k1,k2,k3⟩:=Z3u h;simp only[List.all_eq_true]at hp;exact .ag _ cs k1 k2 fun i a u ha hu=>Z3I (k3 i a u ha hu) (hp a (List.mem_of_getElem? ha))
 ·cases h with
  | fn k1 k3 =>
   simp only[List.all_eq_true]at hp;exact .fn k1 fun i a u ha hu=>Z3I (k3 i a u ha hu) (hp a (List.mem_of_getElem? ha))
 ·cases h with
  | ic h =>
   obtain⟨cs,rfl,k1,k2,k3⟩:=Z3u h;simp only[List.all_eq_true]at hp;exact .ic (.ag _ cs k1 k2 fun i a u ha hu=>Z3I (k3 i a u ha hu) (hp a (List.mem_of_getElem? ha)))
 ·cases h with
  | ic h=>exact .ic (Z3I h hp)
 ·exact Z3I h hp
def nid(dst clk k:Nat):Nat:=clk*8000+(k+1)*1000+dst
def renF(dst clk:Nat):AV→AV
 | .pt k i o=>.pt (nid dst clk k) i o
 | .os k o n=>.os (nid dst clk k) o n
 | .ow k=>.ow (nid dst clk k)
 | a=>a
def mapT(f:AV→AV):AV→AV
 | .tu l=>.tu (l.map (mapA f))
 | a=>mapA f a
def Zh5:Blk→Bool
 | .arr .. => true
 | _=>false
def Ze6(dst clk:Nat):Nat→List Blk→Heap→Heap
 | _,[],H=>H
 | k,B::r,H=>Ze6 dst clk (k+1) r (updH H (nid dst clk k) B)
def Z5a(dst clk:Nat):Nat→List Blk→Heap→Bool
 | _,[],_=>true
 | k,B::r,H=>Zh5 B&&(match H (nid dst clk k)with | none=>true | some _=>false)&&Z5a dst clk (k+1) r (updH H (nid dst clk k) B)
theorem Z8h{ρ ρ':Rho}{w:World}{Im Im':Nat→Prop}{f:AV→AV}(hi:∀ g,Im g→Im' g)(hpt:∀ b i o v,Rel ρ w Im (.pt b i o) v→Rel ρ' w Im' (f (.pt b i o)) v)(hos:∀ b o n v,Rel ρ w Im (.os b o n) v→Rel ρ' w Im' (f (.os b o n)) v)
  (how:∀ b v,Rel ρ w Im (.ow b) v→Rel ρ' w Im' (f (.ow b)) v) {a:AV} {v:Value} (h:Rel ρ w Im a v):Rel ρ' w Im' (mapT f a) v:=by
 cases a with
 | tu l =>
  cases h with
  | tu _ cs h1 h3 =>
   refine .tu _ cs (by simpa using h1) fun i x v hx hv=>?_;simp only[List.getElem?_map,Option.map_eq_some_iff]at hx;obtain⟨y,hy,rfl⟩:=hx;exact Z6O hi hpt hos how (h3 i y v hy hv)
 | _=>exact Z6O hi hpt hos how h
theorem RelB.arr_any{ρ ρ':Rho}{w:World}{Im Im':Nat→Prop}{β:Bi}{B:Blk}(hB:Zh5 B=true)(h:RelB ρ w Im β B)(hi:∀ g,Im g→Im' g):RelB ρ' w Im' β B:=by
 cases B with
 | box=>simp[Zh5]at hB
 | dead=>simp[Zh5]at hB
 | arr ty s els =>
  obtain⟨h0,h1,hb',h2,h3⟩:=h;exact⟨h0,h1,hb',h2,h3.imp (fun h=>h) fun⟨g,cs,h4,h5,h6,h7⟩=>⟨g,cs,h4,h5,h6,fun i e o x hx hy=>let ⟨v,h8,h9⟩:=h7 i e o x hx hy;⟨v,h8,h9.mono (Ext.refl _ _) hi⟩⟩⟩
section
variable {Ow:Own} {Im0:Nat→Prop} {w0:World} {ρ:Rho} {w:World} {Im:Nat→Prop} {H:Heap} {clk:Nat}
theorem Inv.adopt(I:Inv Ow Im0 w0 ρ w Im H clk)(id:Nat)(hid:clk*8000≤id)(hH:H id=none)(β:Bi)(B:Blk)
  (hg:∀ g,β.g=some g→(∀ k κ,ρ k=some κ→κ.g≠some g)∧¬ Im g∧g<w.heap.size∧w0.heap.size≤g)
  (hB:RelB (updR ρ id β) w Im β B):Inv Ow Im0 w0 (updR ρ id β) w Im (updH H id B) clk:=by
 have hn:=I.fresh id hid hH;refine⟨I.kept, ?_, ?_, ?_, ?_,I.imb,I.im0, ?_, ?_,Z8M I.one hid⟩
 ·intro b b' κ κ' g l1 l2 h1 h2 h3 h4;unfold updR at h1 h2;split at h1<;>split at h2
  ·omega
  ·cases h1;exact absurd h4 ((hg g h3).1 b' κ' h2)
  ·cases h2;exact absurd h3 ((hg g h4).1 b κ h1)
  ·exact I.inj b b' κ κ' g (Z1s l1 aa) (Z1s l2 aa) h1 h2 h3 h4
 ·intro b κ g l h h';unfold updR at h;split at h
  ·cases h;exact(hg g h').2.1
  ·exact I.notIm b κ g (Z1s l aa) h h'
 ·intro b κ g h h';unfold updR at h;split at h
  ·cases h;exact(hg g h').2.2.1
  ·exact I.bnd b κ g h h'
 ·intro b κ g h h';unfold updR at h;split at h
  ·rename_i hbi;cases h;have:=I.one;exact .inl ⟨(hg g h').2.2.2,by omega⟩
  ·exact I.own b κ g h h'
 ·intro b B' h;unfold updH at h;split at h
  ·cases h;rename_i hb;exact⟨_,by rw[hb];exact Z21 _ _ _,hB⟩
  ·obtain⟨κ,h1,h2⟩:=I.blk b B' h;exact⟨κ,Z2c hn _ _ h1,h2.mono (Ext.refl _ _) (fun _ h=>h) (Z2c hn) I.bnd (fun _ _=>rfl)⟩
 ·intro b hb h;unfold updH at h;unfold updR;split
  ·rename_i hbi;simp[hbi]at h
  ·rename_i hbi;simp only[hbi,if_false]at h;exact I.fresh b hb h
theorem ZiW(dst clk k:Nat):clk*8000≤nid dst clk k:=by unfold nid;omega
theorem ZcA{ρ':Rho}{dst:Nat}:∀ (news:List Blk) (k:Nat) (ρ:Rho) (H:Heap),Inv Ow Im0 w0 ρ w Im H clk→Z5a dst clk k news H=true →
  (∀ (i:Nat) (B:Blk),news[i]? = some B→∃ β,ρ' (k+i)=some β∧RelB ρ' w Im β B∧∀ g,β.g=some g→¬ Im g∧g<w.heap.size∧w0.heap.size≤g) →
  (∀ b b' β β' g,ρ' b=some β→ρ' b'=some β'→β.g=some g→β'.g=some g→b=b') →
  (∀ i,i<news.length→∀ β g,ρ' (k+i)=some β→β.g=some g→∀ b κ,ρ b=some κ→κ.g≠some g) →
  ∃ ρ2,Inv Ow Im0 w0 ρ2 w Im (Ze6 dst clk k news H) clk∧(∀ b β,ρ b=some β→ρ2 b=some β)∧∀ i β,i<news.length→ρ' (k+i)=some β→ρ2 (nid dst clk (k+i))=some β
 | [],k,ρ,H,I,_,_,_,_=>⟨ρ,I,fun _ _ h=>h,fun i β hi _=>by simp at hi⟩
 | B::news,k,ρ,H,I,hok,hnews,hinj,hfree=>by
  simp only[Z5a,Bool.and_eq_true]at hok;obtain⟨⟨hB,hnone⟩,hrest⟩:=hok;have hH:H (nid dst clk k)=none:=by
   revert hnone;cases H (nid dst clk k)with
   | none=>exact fun _=>rfl
   | some _=>exact fun h=>by cases h
  obtain⟨β,h1,h2,h3⟩:=hnews 0 B rfl;rw[Nat.add_zero]at h1;have J:=I.adopt (nid dst clk k) (ZiW dst clk k) hH β B (fun g hg=>⟨fun b κ hb=>hfree 0 pq β g (by rw[Nat.add_zero];exact h1) hg b κ hb,(h3 g hg).1,(h3 g hg).2.1,(h3 g hg).2.2⟩) (h2.arr_any hB (fun _ h=>h));obtain⟨ρ2,J2,s1,s2⟩:=ZcA news (k+1) _ _ J hrest (fun i B' hB'=>by
    have:=hnews (i+1) B' (by simpa using hB');rwa [show k+(i+1)=k+1+i from by omega]at this) hinj (fun i hi β' g hβ' hg b κ hb=>by
    unfold updR at hb;split at hb
    ·cases hb;intro hg';have:=hinj _ _ _ _ g h1 hβ' hg' hg;omega
    ·exact hfree (i+1) qo β' g (by rw[show k+(i+1)=k+1+i from by omega];exact hβ') hg b κ hb)
  refine⟨ρ2,J2,fun b κ hb=>s1 b κ (Z2c (I.fresh _ (ZiW dst clk k) hH) b κ hb),fun i κ hi hκ=>?_⟩;cases i with
  | zero =>
   rw[Nat.add_zero]at hκ ⊢;rw[h1]at hκ;cases hκ;exact s1 _ _ (Z21 _ _ _)
  | succ i =>
   rw[show k+(i+1)=k+1+i from by omega]at hκ ⊢;exact s2 i κ (by simpa using hi) hκ
theorem Inv.called(I:Inv Ow Im0 w0 ρ w Im H clk){w':World}(K:Kept (fun _=>False) w w')(Im':Nat→Prop)(h1:∀ g,Im' g→Im g∨w.heap.size≤g)(h2:∀ g,Im' g→g<w'.heap.size) :
  Inv Ow Im0 w0 ρ w' (fun g=>Im g∨Im' g) H clk∧Ext Im w w':=by
 have he:Ext Im w w':=⟨K.size,fun g hg=>K.block g (I.imb g hg) (fun h=>h),fun g hg=>K.rows g hg⟩
 refine⟨⟨⟨K.os.trans I.kept.os,K.tape.trans I.kept.tape,K.output.trans I.kept.output,Nat.le_trans I.kept.size K.size,fun k hk ho=>?_,fun k hk=>?_⟩,I.inj, ?_,fun b β g h h'=>Nat.lt_of_lt_of_le (I.bnd b β g h h') K.size,I.own, ?_, ?_, ?_,I.fresh,I.one⟩,he⟩
 ·rw[K.block k (Nat.lt_of_lt_of_le hk I.kept.size) (fun h=>h)];exact I.kept.block k hk ho
 ·rw[K.rows k (Nat.lt_of_lt_of_le hk I.kept.size)];exact I.kept.rows k hk
 ·intro b β g l h h' him;rcases him with him | him
  ·exact I.notIm b β g l h h' him
  ·rcases h1 g him with h1 | h1
   ·exact I.notIm b β g l h h' h1
   ·have:=I.bnd b β g h h';omega
 ·intro g hg;rcases hg with hg | hg
  ·exact Nat.lt_of_lt_of_le (I.imb g hg) K.size
  ·exact h2 g hg
 ·intro g hg;rcases hg with hg | hg
  ·exact I.im0 g hg
  ·rcases h1 g hg with h1 | h1
   ·exact I.im0 g h1
   ·exact .inr (.inl (Nat.le_trans I.kept.size h1))
 ·intro b B h;obtain⟨β,k1,k2⟩:=I.blk b B h;exact⟨β,k1,k2.mono he (fun _ h=>.inl h) (fun _ _ h=>h) I.bnd (fun g hg=>K.block g (I.bnd b β g k1 hg) (fun h=>h))⟩
end
structure Out where
 tmps:List AV
 H:Heap
 ph:List Prop
 eq:List (AV×AV)
structure Core where
 sl:Option (Nat×AV)
 ups:List (Nat×Blk)
 ph:List Prop
 eq:List (AV×AV)
def applyU:List (Nat×Blk)→Heap→Heap
 | [],H=>H
 | (b,B)::r,H=>applyU r (updH H b B)
def Core.out(c:Core)(tmps:List AV)(H:Heap):Out:=⟨match c.sl with | some (d,v)=>tmps.set d v | none=>tmps,applyU c.ups H,c.ph,c.eq⟩
def look(k:Nat):List (Nat×List Hint)→List Hint
 | []=>[]
 | (j,h)::r=>if j=k then h else look k r
def keyOf(o:Oper):Nat:=match o.dst with
 | some d=>d
 | none=>match o.op with
  | .store _ (.tmp t) _=>10000+t
  | _=>20000
def Res.ups(r:Res):List (Nat×Blk):=match r.up with | some x=>[x] | none=>[]
theorem Res.applyU(r:Res)(H:Heap):applyU r.ups H=r.heap H:=by
 unfold Res.ups Res.heap;cases r.up with
 | none=>rfl
 | some x=>rfl
def Z2z(P:Program)(clk:Nat)(hints:List (Nat×List Hint))(o:Oper)(G:Option Bool)(tmps:List AV)(H:Heap):Option Core :=
 match o.dst with
 | some d=>match H (clk*8000+d)with
  | some _=>none
  | none=>match act P o (clk*8000+d) (look (keyOf o) hints) (Z1m G (ev tmps)) H with
   | some r=>match G,r.up with
    | some _,some _=>none
    | _,_=>some ⟨some (d,mkG G r.val),r.ups,phG G r.ph,Z2X G (ev tmps) o.op.operands.toList⟩
   | none=>none
 | none=>match G with
  | some _=>none
  | none=>match H (clk*8000+7999)with
   | some _=>none
   | none=>match act P o (clk*8000+7999) (look (keyOf o) hints) (ev tmps) H with
    | some r=>some ⟨none,r.ups,r.ph,[]⟩
    | none=>none
def conj(G:Option Bool)(b:Bool):Bool:=match G with | none=>b | some g=>g&&b
def asB(x:AV):Option Bool:=match x with | .d (.sc (.bool b))=>some b | _=>none
def gdB(x:AV):Option (Bool×Bool):=match x with | .gd g (.d (.sc (.bool b)))=>some (g,b) | _=>none
def ZjM(x:Operand):Bool:=match x with | .const (.bool b)=>b | _=>false
def ZeI(x:Operand):Bool:=match x with | .const (.bool b)=>!b | _=>false
def Z75(hints:List (Nat×List Hint))(o:Oper)(c a b:Operand)(G:Option Bool)(tmps:List AV):Option Core :=
 match o.dst with
 | none=>none
 | some d=>match asB (Z1m G (ev tmps) c)with
  | none=>none
  | some gc=>match ZjM a with
   | true=>match gdB (ev tmps b)with
    | some (g',v)=>some ⟨some (d,mkG G (Z4M (gc||v) (look d hints)).val),[],phG G (Z4M (gc||v) (look d hints)).ph,Z2X G (ev tmps) [c]++[(bv g',bv (conj G (!gc)))]⟩
    | none=>none
   | false=>match ZeI b with
    | true=>match gdB (ev tmps a)with
     | some (g',v)=>some ⟨some (d,mkG G (Z4M (gc&&v) (look d hints)).val),[],phG G (Z4M (gc&&v) (look d hints)).ph,Z2X G (ev tmps) [c]++[(bv g',bv (conj G gc))]⟩
     | none=>none
    | false=>none
def Z9M(P:Program)(f:Nat):Bool:=match P.funcs[f]? with | some fn=>fn.body.isSome&&!(fn.name == "runtime.NumGoroutine") | none=>false
def ZiN(dst clk:Nat):Nat→List Blk→List (Nat×Blk)
 | _,[]=>[]
 | k,B::r=>(nid dst clk k,B)::ZiN dst clk (k+1) r
theorem Z9F(dst clk:Nat):∀ (news:List Blk) (k:Nat) (H:Heap),applyU (ZiN dst clk k news) H=Ze6 dst clk k news H
 | [],_,_=>rfl
 | B::r,k,H=>Z9F dst clk r (k+1) (updH H (nid dst clk k) B)
def Z72(P:Program)(clk:Nat)(hints:List (Nat×List Hint))(o:Oper)(f:Operand)(args:List Operand)(G:Option Bool)(tmps:List AV)(H:Heap):Option Core :=
 match o.dst with
 | none=>none
 | some d=>match Z1m G (ev tmps) f with
  | .fn k caps=>match look d hints with
   | .call fr res news::_ =>
    match (match fr with | true=>toDD H ((args.map (Z1m G (ev tmps)))++caps) | false=>(if((args.map (Z1m G (ev tmps)))++caps).all Z8O then some ((args.map (Z1m G (ev tmps)))++caps)else none))with
    | some as=>if Z9M P k&&Z5a d clk 0 news H then
     match G,news with
     | some _,_::_=>none
     | _,_=>some ⟨some (d,mkG G (mapT (renF d clk) res)),ZiN d clk 0 news,phG G [GSpec P k as fr res news],Z2X G (ev tmps) (f::args)⟩
     else none
    | none=>none
   | _=>none
  | _=>none
def Zoi:AV→Bool
 | .tu l=>l.all Z8O
 | a=>Z8O a
def idxN(b:Nat):List Nat→Nat→Option Nat
 | [],_=>none
 | x::l,k=>match Nat.beq x b with | true=>some k | false=>idxN b l (k+1)
def nodupB:List Nat→Bool
 | []=>true
 | x::l=>(match idxN x l 0 with | none=>true | some _=>false)&&nodupB l
def ksL:AV→List Nat
 | .ow b=>[b]
 | .os b _ _=>[b]
 | _=>[]
def ksM:AV→List Nat
 | .ag l=>l.flatMap ksL
 | .fn _ l=>l.flatMap ksL
 | .ic _ a=>ksL a
 | a=>ksL a
def Z7c(H:Heap):List Nat→Bool
 | []=>true
 | b::l=>(match H b with | some (.arr ..)=>true | _=>false)&&Nat.ble 8000 b&&Z7c H l
def Z6G(P:Program)(clk:Nat)(hints:List (Nat×List Hint))(o:Oper)(f:Operand)(args:List Operand)(G:Option Bool)(tmps:List AV)(H:Heap):Option Core :=
 match G with
 | some _=>none
 | none=>match o.dst with
  | none=>none
  | some d=>match ev tmps f with
   | .fn k caps=>match look d hints with
    | .kill res::_=>match toDD H (args.map (ev tmps)++caps)with
     | some as=>match Z9M P k&&Z7c H ((args.map (ev tmps)++caps).flatMap ksM)&&Zoi res with
      | true=>some ⟨some (d,res),((args.map (ev tmps)++caps).flatMap ksM).map fun b=>(b,.dead),[GSpec P k as false res []],[]⟩
      | false=>none
     | none=>none
    | _=>none
   | _=>none
def ZmA(o:Oper)(hints:List (Nat×List Hint)):Bool:=match o.dst with
 | some d=>match look d hints with | .kill _::_=>true | _=>false
 | none=>false
def allO(g:AV→Option AV):List AV→Option (List AV)
 | []=>some []
 | a::l=>match g a,allO g l with
  | some x,some r=>some (x::r)
  | _,_=>none
def nmL(f:Nat→Option Nat)(x:AV):Option AV:=match x with
 | .d x=>some (.d x)
 | .rp e o=>some (.rp e o)
 | .pt b i o=>match f b with | some k=>some (.pt k i o) | none=>none
 | .os b o n=>match f b with | some k=>some (.os k o n) | none=>none
 | .ow b=>match f b with | some k=>some (.ow k) | none=>none
 | _=>none
def nmM(f:Nat→Option Nat)(x:AV):Option AV:=match x with
 | .ag l=>match allO (nmL f) l with | some r=>some (.ag r) | none=>none
 | .fn g l=>match allO (nmL f) l with | some r=>some (.fn g r) | none=>none
 | .ic t (.ag l)=>match allO (nmL f) l with | some r=>some (.ic t (.ag r)) | none=>none
 | .ic t a=>match nmL f a with | some r=>some (.ic t r) | none=>none
 | x=>nmL f x
def nmB(f:Nat→Option Nat)(B:Blk):Option Blk:=match B with
 | .box ty cells=>match allO (nmM f) cells with | some r=>some (.box ty r) | none=>none
 | .arr ty s els=>some (.arr ty s els)
 | .dead=>none
def preB(f:Nat→Option Nat)(H:Heap):List Nat→Option (List Blk)
 | []=>some []
 | b::l=>match H b,preB f H l with
  | some B,some r=>match nmB f B with | some C=>some (C::r) | none=>none
  | _,_=>none
def hL(l:List Blk):Heap:=fun k=>l[k]?
def BorSpec(P:Program)(f:Nat)(args:List AV)(pre:List Blk)(res:AV)(post:List Blk):Prop :=
 ∀ (w:World) (Im:Nat→Prop) (ρ:Rho) (vs:Array Value),(∀ g,Im g→g<w.heap.size)→vs.size=args.length→(∀ k β,ρ k=some β→k<pre.length) →
  (∀ b b' β β' g,ρ b=some β→ρ b'=some β'→β.g=some g→β'.g=some g→b=b')→(∀ b β g,ρ b=some β→β.g=some g→g<w.heap.size∧¬ Im g) →
  (∀ (k:Nat) (B:Blk),pre[k]? = some B→∃ β,ρ k=some β∧RelB ρ w Im β B)→(∀ (i:Nat) (x:AV) (v:Value),args[i]? = some x→vs[i]? = some v→Rel ρ w Im x v) →
  Calls P f vs w fun e w'=>∃ v,e = .returned v∧Kept (OwA (ownR ρ)) w w'∧∃ (ρ':Rho) (Im':Nat→Prop),(∀ k β,ρ k=some β→ρ' k=some β)∧(∀ k β,ρ' k=some β→k<post.length) ∧
   (∀ g,Im' g→Im g∨w.heap.size≤g∨OwA (ownR ρ) g)∧(∀ g,Im' g→g<w'.heap.size) ∧
   (∀ k β g,ρ' k=some β→β.g=some g→g<w'.heap.size∧(w.heap.size≤g∨OwA (ownR ρ) g)) ∧
   (∀ k β g,live (hL post) k→ρ' k=some β→β.g=some g→¬ Im' g) ∧
   (∀ k k' β β' g,live (hL post) k→live (hL post) k'→ρ' k=some β→ρ' k'=some β'→β.g=some g→β'.g=some g→k=k') ∧
   (∀ (k:Nat) (B:Blk),post[k]? = some B→∃ β,ρ' k=some β∧RelB ρ' w' Im' β B)∧Rel ρ' w' Im' res v
abbrev LentSpec:=BorSpec
def nids(dst clk:Nat):Nat→Nat→List Nat
 | _,0=>[]
 | k,n+1=>nid dst clk k::nids dst clk (k+1) n
def Z4a(H:Heap):List Nat→Bool
 | []=>true
 | b::l=>(match H b with | none=>true | some _=>false)&&Z4a H l
def renI(ids:List Nat):AV→AV
 | .pt k i o=>.pt (ids.getD k 0) i o
 | .os k o n=>.os (ids.getD k 0) o n
 | .ow k=>.ow (ids.getD k 0)
 | a=>a
def Z4N(ids:List Nat):Blk→Blk
 | .box ty cells=>.box ty (cells.map (mapA (renI ids)))
 | B=>B
def Z3V(dst clk:Nat)(ls:List Nat)(post:List Blk):List Nat:=ls++nids dst clk 0 (post.length-ls.length)
def Z9C(P:Program)(clk:Nat)(hints:List (Nat×List Hint))(o:Oper)(f:Operand)(args:List Operand)(G:Option Bool)(tmps:List AV)(H:Heap):Option Core :=
 match o.dst with
 | none=>none
 | some d=>match (match G with | none=>true | some g=>g)with
  | false=>match look d hints with
   | .bor _ res _::_=>some ⟨some (d,mkG G res),[],[],[]⟩
   | _=>none
  | true=>match Z1m G (ev tmps) f with
   | .fn k caps=>match look d hints with
    | .bor ls res post::_=>match allO (nmM fun b=>idxN b ls 0) (args.map (Z1m G (ev tmps))++caps),preB (fun b=>idxN b ls 0) H ls with
     | some as,some pre=>match post with
      | []=>match Z9M P k&&nodupB ls with
       | true=>some ⟨some (d,mapT (renI ls) res),[],[BorSpec P k as pre res pre],Z2X G (ev tmps) (f::args)⟩
       | false=>none
      | B::post=>match Z9M P k&&nodupB (Z3V d clk ls (B::post))&&Nat.ble ls.length (B::post).length&&Nat.ble ((B::post).length-ls.length) 7&&Z4a H (nids d clk 0 ((B::post).length-ls.length))with
       | true=>some ⟨some (d,mapT (renI (Z3V d clk ls (B::post))) res),(Z3V d clk ls (B::post)).zip ((B::post).map (Z4N (Z3V d clk ls (B::post)))),[BorSpec P k as pre res (B::post)],Z2X G (ev tmps) (f::args)⟩
       | false=>none
     | _,_=>none
    | _=>none
   | _=>none
def ZpO(o:Oper)(hints:List (Nat×List Hint)):Bool:=match o.dst with
 | some d=>match look d hints with | .bor .. :: _=>true | _=>false
 | none=>false
def borL(hints:List (Nat×List Hint))(o:Oper):List Nat:=match o.dst with
 | some d=>match look d hints with | .bor ls _ _::_=>ls | _=>[]
 | none=>[]
def Z4m(P:Program)(clk:Nat)(hints:List (Nat×List Hint))(o:Oper)(c:Call)(tmps:List AV)(H:Heap):Option Core :=
 match o.dst with
 | none=>none
 | some d=>match c.args.toList,c.argTypes.toList with
  | [x,y],[t,t']=>match H (clk*8000+d)with
   | some _=>none
   | none=>match Z4j P t t' (clk*8000+d) (look d hints) (ev tmps x) (ev tmps y) H with
    | some (b,r)=>some ⟨some (d,r.val),(b,.dead)::r.ups,r.ph,[]⟩
    | none=>none
  | _,_=>none
def Z2F(P:Program)(clk:Nat)(ops:Array Oper)(hints:List (Nat×List Hint))(o:Oper)(tmps:List AV)(H:Heap):Option Core :=
 match guardOf ops tmps o.guard with
 | none=>none
 | some G=>match o.op with
  | .pick c a b=>Z75 hints o c a b G tmps
  | .call c=>match c.callee with
   | .value f=>match ZmA o hints with
    | true=>Z6G P clk hints o f c.args.toList G tmps H
    | false=>match ZpO o hints with
     | true=>Z9C P clk hints o f c.args.toList G tmps H
     | false=>Z72 P clk hints o f c.args.toList G tmps H
   | .builtin .append=>match G with
    | none=>Z4m P clk hints o c tmps H
    | some _=>none
   | _=>Z2z P clk hints o G tmps H
  | _=>Z2z P clk hints o G tmps H
def Z9c(P:Program)(clk:Nat)(ops:Array Oper)(hints:List (Nat×List Hint))(o:Oper)(tmps:List AV)(H:Heap):Option Out :=
 match Z2F P clk ops hints o tmps H with
 | some c=>some (c.out tmps H)
 | none=>none
theorem getD_some{tmps:List AV}{t:Nat}{x:AV}(h:tmps.getD t .any=x)(hx:x≠.any):tmps[t]? = some x:=by
 by_cases ht:t<tmps.length
 ·simp[List.getD,List.getElem?_eq_getElem ht]at h;rw[List.getElem?_eq_getElem ht,h]
 ·simp[List.getD,List.getElem?_eq_none (Nat.le_of_not_lt ht)]at h;exact absurd h.symm hx
theorem RelT.at{ρ:Rho}{w:World}{Im:Nat→Prop}{tmps:List AV}{a:Act}(T:RelT ρ w Im tmps a){t:Nat}{x:AV}(h:tmps[t]? = some x):∃ v,a.tmps[t]? = some v∧Rel ρ w Im x v:=by
 have ht:t<a.tmps.size:=by rw[T.size];exact(List.getElem?_eq_some_iff.1 h).1
 exact⟨a.tmps[t],Array.getElem?_eq_getElem ht,T.tmp t x _ h (Array.getElem?_eq_getElem ht)⟩
theorem ZgF{ρ:Rho}{w:World}{Im:Nat→Prop}{tmps:List AV}{a:Act}(T:RelT ρ w Im tmps a){ops:Array Oper}{o:Oper}{G:Option Bool}(h:guardOf ops tmps o.guard=some G) :
  (G=none∧Region.wanted o (yielded ops a.tmps)=true)∨∃ g,G=some g∧Region.wanted o (yielded ops a.tmps)=g:=by
 unfold guardOf at h;split at h
 ·rename_i hg;cases h;exact .inl ⟨rfl,by simp[Region.wanted,hg]⟩
 ·rename_i j want hg;split at h;rotate_left
  ·cases h
  rename_i oj hj;split at h;rotate_left
  ·cases h
  rename_i t ht;split at h
  ·rename_i b hb;cases h;obtain⟨v,h1,h2⟩:=T.at (getD_some hb pq)
   cases Z10 h2;refine .inr ⟨_,rfl, ?_⟩;simp only[Region.wanted,hg,yielded,hj,Option.bind_some,ht,h1];cases want<;>cases b<;>rfl
  ·rename_i g b hb;cases h;obtain⟨v,h1,h2⟩:=T.at (getD_some hb pq)
   refine .inr ⟨_,rfl, ?_⟩;cases h2 with
   | gd k1 k2 =>
    cases g with
    | true =>
     cases Z10 (k1 rfl);simp only[Region.wanted,hg,yielded,hj,Option.bind_some,ht,h1];cases want<;>cases b<;>rfl
    | false =>
     rw[k2 rfl]at h1;simp only[Region.wanted,hg,yielded,hj,Option.bind_some,ht,h1,undef];cases want<;>rfl
  ·cases h
section
variable {P:Program} {Ow:Own} {Im0:Nat→Prop} {w0:World} {clk:Nat} {hints:List (Nat×List Hint)} {o:Oper} {tmps:List AV} {H:Heap} {a:Act} {w:World} {out:Out} {next:Act→World→Prop} {Q:Exit→Act→World→Prop}
abbrev Z7D(P:Program)(Ow:Own)(Im0:Nat→Prop)(w0:World)(clk:Nat)(o:Oper)(G:Option Bool)(H:Heap)(tmps:List AV)(out:Out):Prop :=
 ∀ (a:Act) (w:World) (ρ:Rho) (Im:Nat→Prop) (next:Act→World→Prop) (Q:Exit→Act→World→Prop),Inv Ow Im0 w0 ρ w Im H clk→RelT ρ w Im tmps a→allP out.ph→EqP out.eq →
  (∀ a' w',Sys Ow Im0 w0 out.tmps out.H clk a' w'→next a' w')→((∀ g,G=some g→g=true)→o.wp P a w next Q)∧((∃ g,G=some g∧g=false)→next (a.put o.dst undef) w)
theorem EqP.left{l m:List (AV×AV)}(h:EqP (l++m)):EqP l:=fun p hp=>h p (List.mem_append.2 (.inl hp))
theorem EqP.right{l m:List (AV×AV)}(h:EqP (l++m)):EqP m:=fun p hp=>h p (List.mem_append.2 (.inr hp))
theorem Zba{ρ:Rho}{w:World}{Im:Nat→Prop}{G:Option Bool}{x:AV}{v:Value}(hG:∀ g,G=some g→g=true)(h:Rel ρ w Im x v):Rel ρ w Im (mkG G x) v:=by
 cases G with
 | none=>exact h
 | some g=>exact .gd (fun _=>h) (fun e=>by rw[hG g rfl]at e;cases e)
theorem Z9u{ρ:Rho}{Im:Nat→Prop}(I:Inv Ow Im0 w0 ρ w Im H clk)(T:RelT ρ w Im tmps a){G:Option Bool}(hG:∃ g,G=some g∧g=false)(d:Nat)(x:AV):Sys Ow Im0 w0 (tmps.set d (mkG G x)) H clk (a.put (some d) undef) w:=by
 obtain⟨g,rfl,rfl⟩:=hG;exact⟨ρ,Im,I,T.put d (.gd (fun h=>by cases h) (fun _=>rfl))⟩
open Classical in
theorem ZfM{G:Option Bool}{out:Core}(h:Z2z P clk hints o G tmps H=some out):Z7D P Ow Im0 w0 clk o G H tmps (out.out tmps H):=by
 intro a w ρ Im next Q I T hph heq hn
 unfold Z2z at h;split at h
 ·rename_i d hd;split at h
  ·cases h
  rename_i hH;split at h;rotate_left
  ·cases h
  rename_i r hr;let E2:Operand→AV:=fun x=>if x∈o.op.operands.toList then Z1m G (ev tmps) x else .any
  have hcong:act P o (clk*8000+d) (look (keyOf o) hints) E2 H=some r:=by
   rw[← hr];exact Z9A fun x hx=>by simp only[E2];rw[if_pos hx]
  have hs:=Zdc hcong;have key:out=⟨some (d,mkG G r.val),r.ups,phG G r.ph,Z2X G (ev tmps) o.op.operands.toList⟩∧(G=none∨r.up=none):=by
   clear hr hcong hs heq hph hn E2;cases G with
   | none=>injection h with h;exact⟨h.symm,.inl rfl⟩
   | some g =>
    cases hu:r.up with
    | none=>rw[hu]at h;injection h with h;exact⟨h.symm,.inr rfl⟩
    | some x=>rw[hu]at h;cases h
  obtain⟨rfl,hup⟩:=key;refine⟨fun hG=>?_,fun hG=>?_⟩
  ·refine(hs Ow Im0 w0 ρ w Im clk a I oq hH (fun x=>?_) (Z87 hph hG)).wp fun v w' ht=>?_
   ·simp only[E2];split
    ·rename_i hx;exact Z36 hx heq hG (Z1x T x)
    ·exact .any _
   ·obtain⟨ρ',I',he,hsub,hv⟩:=ht;rw[hd];exact hn _ _ ⟨ρ',Im,by show Inv _ _ _ _ _ _ (applyU r.ups H) _;rw[Res.applyU];exact I',(T.mono he (fun _ h=>h) hsub I.bnd).put d (Zba hG hv)⟩
  ·rw[hd];have:r.up=none:=by
    rcases hup with h | h
    ·obtain⟨g,hg,_⟩:=hG;rw[h]at hg;cases hg
    ·exact h
   have hheap:applyU r.ups H=H:=by rw[Res.applyU];simp[Res.heap,this]
   refine hn _ _ ?_;show Sys Ow Im0 w0 (tmps.set d (mkG G r.val)) (applyU r.ups H) clk _ _;rw[hheap];exact Z9u I T hG d r.val
 ·rename_i hd;split at h
  ·cases h
  split at h
  ·cases h
  rename_i hH;split at h;rotate_left
  ·cases h
  rename_i r hr;cases h;have hs:=Zdc hr;refine⟨fun _=>?_,fun hG=>by obtain⟨g,hg,_⟩:=hG;cases hg⟩;refine(hs Ow Im0 w0 ρ w Im clk a I oq hH (fun x=>Z1x T x) hph).wp fun v w' ht=>?_;obtain⟨ρ',I',he,hsub,hv⟩:=ht;rw[hd];exact hn _ _ ⟨ρ',Im,by show Inv _ _ _ _ _ _ (applyU r.ups H) _;rw[Res.applyU];exact I',(T.mono he (fun _ h=>h) hsub I.bnd)⟩
theorem ZaP{b:Bool}{hs:List Hint}(h:allP (Z4M b hs).ph)(ρ:Rho)(w:World)(Im:Nat→Prop):Rel ρ w Im (Z4M b hs).val (.bool b):=by
 unfold Z4M at h ⊢;split at h
 ·rename_i c _;have:b=c:=by simpa[allP]using h
  rw[this];exact .d (.sc _ rfl)
 ·exact .d (.sc _ rfl)
theorem Z8k{x:AV}{b:Bool}(h:asB x=some b):x=bv b:=by
 unfold asB at h;split at h
 ·cases h;rfl
 ·cases h
theorem ZfD{x:AV}{g b:Bool}(h:gdB x=some (g,b)):x = .gd g (bv b):=by
 unfold gdB at h;split at h
 ·cases h;rfl
 ·cases h
theorem Zep{x:Operand}(h:ZjM x=true):x = .const (.bool true):=by
 unfold ZjM at h;split at h
 ·rw[h]
 ·cases h
theorem ZcR{x:Operand}(h:ZeI x=true):x = .const (.bool false):=by
 unfold ZeI at h;split at h
 ·rename_i b;cases b<;>simp_all
 ·cases h
theorem Zd8{G:Option Bool}{b:Bool}(hG:∀ g,G=some g→g=true):conj G b=b:=by
 cases G with
 | none=>rfl
 | some g=>rw[conj,hG g rfl,Bool.true_and]
theorem Zn4{G:Option Bool}{c x y:Operand}{out:Core}(ho:o.op = .pick c x y)(h:Z75 hints o c x y G tmps=some out):Z7D P Ow Im0 w0 clk o G H tmps (out.out tmps H):=by
 intro a w ρ Im next Q I T hph heq hn
 unfold Z75 at h;split at h
 ·cases h
 rename_i d hd;split at h
 ·cases h
 rename_i gc hgc;have hgc':=Z8k hgc;split at h
 ·rename_i hx;have hxt:=Zep hx;split at h;rotate_left
  ·cases h
  rename_i g' v hgv;have hgv':=ZfD hgv;cases h;refine⟨fun hG=>?_,fun hG=>by rw[hd];exact hn _ _ (Z9u I T hG d _)⟩;have hc:=Z36 (l:=[c]) (x:=c) pq heq.left hG (Z1x T c);rw[hgc']at hc;have hcv:=Z10 hc;have hg':g' = !gc:=by
   have:=ZjG (heq.right (bv g',bv (conj G (!gc))) pq);rw[this,Zd8 hG]
  have hy:=Z1x T y;rw[hgv']at hy;have hrun:(execOp a.eval o).run P w = .ok (.value (.bool (gc||v))) w:=by
   cases gc with
   | true =>
    have hxv:a.eval x = .bool true:=by rw[hxt];rfl
    simp[execOp,ho,hcv,asBool,hxv]
   | false =>
    cases hy with
    | gd k1 k2 =>
     have:=Z10 (k1 (by rw[hg'];rfl));simp[execOp,ho,hcv,asBool,this]
  simp only[Oper.wp,hrun,Oper.upon_value];rw[hd];exact hn _ _ ⟨ρ,Im,I,T.put d (Zba hG (ZaP (Z87 hph hG) ρ w Im))⟩
 ·split at h;rotate_left
  ·cases h
  rename_i hx;have hxt:=ZcR hx;split at h;rotate_left
  ·cases h
  rename_i g' v hgv;have hgv':=ZfD hgv;cases h;refine⟨fun hG=>?_,fun hG=>by rw[hd];exact hn _ _ (Z9u I T hG d _)⟩;have hc:=Z36 (l:=[c]) (x:=c) pq heq.left hG (Z1x T c);rw[hgc']at hc;have hcv:=Z10 hc;have hg':g'=gc:=by
   have:=ZjG (heq.right (bv g',bv (conj G gc)) pq);rw[this,Zd8 hG]
  have hy:=Z1x T x;rw[hgv']at hy;have hrun:(execOp a.eval o).run P w = .ok (.value (.bool (gc&&v))) w:=by
   cases gc with
   | false =>
    have hxv:a.eval y = .bool false:=by rw[hxt];rfl
    simp[execOp,ho,hcv,asBool,hxv]
   | true =>
    cases hy with
    | gd k1 k2 =>
     have:=Z10 (k1 hg');simp[execOp,ho,hcv,asBool,this]
  simp only[Oper.wp,hrun,Oper.upon_value];rw[hd];exact hn _ _ ⟨ρ,Im,I,T.put d (Zba hG (ZaP (Z87 hph hG) ρ w Im))⟩
theorem Z2o{f:Nat}(h:Z9M P f=true)(args:Array Value)(w:World):(callFunc f args).run P w = .ok (.enter f args) w:=by
 unfold Z9M at h;split at h
 ·rename_i fn hf;simp only[Bool.and_eq_true,Bool.not_eq_true']at h;obtain⟨h1,h2⟩:=h;have h3:fn.body.isNone=false:=by cases hb:fn.body<;>simp_all
  simp only[callFunc,Sem.run_bind,run_program,Result.andThen_ok,hf,h2,h3,Bool.false_eq_true,if_false,Sem.run_pure]
 ·cases h
theorem Zo7{G:Option Bool}{c:Call}{f:Operand}{out:Core}(ho:o.op = .call c)(hc:c.callee = .value f)(h:Z72 P clk hints o f c.args.toList G tmps H=some out):Z7D P Ow Im0 w0 clk o G H tmps (out.out tmps H):=by
 intro a w ρ Im next Q I T hph heq hn
 unfold Z72 at h;split at h
 ·cases h
 rename_i d hd;split at h;rotate_left
 ·cases h
 rename_i k caps hf;split at h;rotate_left
 ·cases h
 rename_i fr res news _ _;split at h;rotate_left
 ·cases h
 rename_i as has;split at h;rotate_left
 ·cases h
 rename_i hok;simp only[Bool.and_eq_true]at hok;have key:out=⟨some (d,mkG G (mapT (renF d clk) res)),ZiN d clk 0 news,phG G [GSpec P k as fr res news],Z2X G (ev tmps) (f::c.args.toList)⟩∧(G=none∨news=[]):=by
  clear heq hph hn has hf hok;cases G with
  | none=>injection h with h;exact⟨h.symm,.inl rfl⟩
  | some g =>
   cases news with
   | nil=>injection h with h;exact⟨h.symm,.inr rfl⟩
   | cons x l=>cases h
 obtain⟨rfl,hnews⟩:=key;refine⟨fun hG=>?_,fun hG=>?_⟩;rotate_left
 ·rw[hd];have:news=[]:=by
   rcases hnews with h | h
   ·obtain⟨g,hg,_⟩:=hG;rw[h]at hg;cases hg
   ·exact h
  subst this;exact hn _ _ (Z9u I T hG d _)
 have hspec:GSpec P k as fr res news:=by simpa[allP]using Z87 hph hG
 have hfv:=Z36 (l:=f::c.args.toList) (x:=f) pq heq hG (Z1x T f);rw[hf]at hfv;generalize hfe:a.eval f=fv at hfv;cases hfv with
 | fn hcn hcr =>
  rename_i cs;have hall:∀ (i:Nat) (x:AV) (v:Value),((c.args.toList.map (Z1m G (ev tmps)))++caps)[i]? = some x→(c.args.map a.eval++cs)[i]? = some v→Rel ρ w Im x v:=by
   intro i x v hx hv;rw[List.getElem?_append]at hx;rw[Array.getElem?_append]at hv;simp only[List.length_map,Array.length_toList,Array.size_map]at hx hv;split at hx
   ·rename_i hi;rw[if_pos hi]at hv;simp only[List.getElem?_map,Option.map_eq_some_iff,Array.getElem?_map]at hx hv;obtain⟨y,hy,rfl⟩:=hx;obtain⟨y',hy',rfl⟩:=hv;have:y=y':=by
     rw[Array.getElem?_toList]at hy;rw[hy]at hy';cases hy';rfl
    subst this;exact Z36 (List.mem_cons_of_mem _ (List.mem_of_getElem? hy)) heq hG (Z1x T y)
   ·rename_i hi;rw[if_neg hi]at hv;exact hcr _ x v hx hv
  have hsize:(c.args.map a.eval++cs).size=((c.args.toList.map (Z1m G (ev tmps)))++caps).length:=by simp[hcn]
  have hdata:∃ ImC:Nat→Prop,(∀ g,ImC g→g<w.heap.size)∧(fr=false→∀ g,ImC g→Im g)∧as.length=((c.args.toList.map (Z1m G (ev tmps)))++caps).length∧∀ (i:Nat) (x:AV) (v:Value),as[i]? = some x→(c.args.map a.eval++cs)[i]? = some v→Rel (fun _=>none) w ImC x v:=by
   cases fr with
   | true =>
    simp only at has;obtain⟨h1,h2⟩:=Zbh has;refine⟨ZgM ρ Im,fun g hg=>?_,fun h=>by simp at h,h1,fun i x v hx hv=>?_⟩
    ·rcases hg with hg | ⟨b,β,hb,hg⟩
     ·exact I.imb g hg
     ·exact I.bnd b β g hb hg
    ·obtain⟨y,hy,hd⟩:=h2 i x hx;exact Zjw I (hall i y v hy hv) hd
   | false =>
    simp only at has;split at has;rotate_left
    ·cases has
    rename_i hp;cases has;simp only[List.all_eq_true]at hp;exact⟨Im,I.imb,fun _ g hg=>hg,rfl,fun i x v hx hv=>Zb0 (hall i x v hx hv) (hp x (List.mem_of_getElem? hx))⟩
  obtain⟨ImC,m1,m2,m3,m4⟩:=hdata;have hcall:=hspec w ImC (c.args.map a.eval++cs) m1 (by rw[hsize,m3]) m4;have hrun:(execOp a.eval o).run P w = .ok (.enter k (c.args.map a.eval++cs)) w:=by
   have:=Z2o (P:=P) hok.1 (c.args.map a.eval++cs) w;simp[execOp,ho,resolve,hc,hfe,Deferred.ofValue,invoke,this]
  simp only[Oper.wp,hrun,Oper.upon_enter];refine hcall.mono fun e w' he=>?_;obtain⟨v,rfl,K,ρ',Im',r1,r2,r3,r4,r5,r6,r7⟩:=he;have him':∀ g,Im' g→Im g∨w.heap.size≤g:=fun g hg=>(r1 g hg).imp (fun⟨h1,h2⟩=>m2 h1 g h2) (fun h=>h);obtain⟨J,hext⟩:=I.called K Im' him' r2;have hnm:∀ (b:Nat) (β:Bi) (g:Nat),ρ' b=some β→β.g=some g→¬ (Im g∨Im' g):=by
   intro b β g hb hg hor;obtain⟨q1,q2,q3⟩:=r3 b β g hb hg;rcases hor with h | h
   ·have:=I.imb g h;omega
   ·exact q3 h
  obtain⟨ρ2,J2,s1,s2⟩:=ZcA (ρ':=ρ') (dst:=d) news 0 ρ H J hok.2 (fun i B hB=>by
    obtain⟨β,k1,k2⟩:=r6 i B hB;refine⟨β,by rw[Nat.zero_add];exact k1, ?_,fun g hg=>⟨hnm i β g k1 hg,(r3 i β g k1 hg).2.1, ?_⟩⟩
    ·have hB':Zh5 B=true:=by
      have:=hok.2;clear hnews hspec hcall r5 r6 h;have:∀ (l:List Blk) (k:Nat) (H:Heap),Z5a d clk k l H=true→∀ B∈l,Zh5 B=true:=by
       intro l;induction l with
       | nil=>intro k H _ B hB;simp at hB
       | cons x l ih =>
        intro k H h B hB;simp only[Z5a,Bool.and_eq_true]at h;rcases List.mem_cons.1 hB with e | e
        ·rw[e];exact h.1.1
        ·exact ih _ _ h.2 B e
      exact this news 0 H hok.2 B (List.mem_of_getElem? hB)
     exact k2.arr_any hB' (fun g hg=>.inr hg)
    ·have:=(r3 i β g k1 hg).1;have:=I.kept.size;omega) r4 (fun i hi β g hb hg b κ hκ hκg=>by
    have:=(r3 _ β g hb hg).1;have:=I.bnd b κ g hκ hκg;omega)
  rw[hd];refine hn _ _ ⟨ρ2,fun g=>Im g∨Im' g,by show Inv _ _ _ _ _ _ (applyU (ZiN d clk 0 news) H) _;rw[Z9F];exact J2,(T.mono hext (fun _ h=>.inl h) s1 I.bnd).put d (Zba hG ?_)⟩;have ren:∀ k β,ρ' k=some β→ρ2 (nid d clk k)=some β:=by
   intro k β hk;have:=s2 k β (r5 k β hk) (by rw[Nat.zero_add];exact hk);rwa [Nat.zero_add]at this
  refine Z8h (ρ:=ρ') (fun g hg=>.inr hg) ?_ ?_ ?_ r7
  ·intro b i oo v h;obtain⟨g,s,n,h1,rfl⟩:=Z2J h;exact .pt (ren _ _ h1)
  ·intro b oo n v h;cases h with
   | os h1 h2 h3 h4 h5=>exact .os (ren _ _ h1) h2 h3 h4 h5
  ·intro b v h;cases h with
   | ow h1 h2 h3 h4=>exact .ow (ren _ _ h1) h2 h3 h4
theorem ZaA{ρ ρ':Rho}{w:World}{Im Im':Nat→Prop}{x:AV}{v:Value}(h:Rel ρ w Im x v)(hp:Z8O x=true)(hi:∀ g,Im g→Im' g):Rel ρ' w Im' x v:=by
 have:=Zb0 (ρ':=fun _=>none) h hp;exact this.mono (Ext.refl _ _) hi (fun b β hb=>by cases hb) (fun b β g hb=>by cases hb)
theorem Zk3{ρ ρ':Rho}{w:World}{Im Im':Nat→Prop}{x:AV}{v:Value}(h:Rel ρ w Im x v)(hp:Zoi x=true)(hi:∀ g,Im g→Im' g):Rel ρ' w Im' x v:=by
 cases x with
 | tu l =>
  cases h with
  | tu _ cs h1 h3 =>
   simp only[Zoi,List.all_eq_true]at hp;exact .tu _ cs h1 fun i a u ha hu=>ZaA (h3 i a u ha hu) (hp a (List.mem_of_getElem? ha)) hi
 | _=>exact ZaA h hp hi
theorem Z2g{b:Nat}:∀ {l:List Nat} {k n:Nat},idxN b l k=some n→k≤n∧l[n-k]? = some b
 | [],_,_,h=>by cases h
 | x::l,k,n,h=>by
  simp only[idxN]at h;split at h
  ·rename_i e;cases h;exact⟨Nat.le_refl _,by simp[Nat.eq_of_beq_eq_true e]⟩
  ·obtain⟨h1,h2⟩:=Z2g h;refine⟨by omega, ?_⟩;rw[show n-k=n-(k+1)+1 from by omega];simpa using h2
theorem Z4c{b:Nat}:∀ {l:List Nat} {k:Nat},idxN b l k=none→b∉l
 | [],_,_=>by simp
 | x::l,k,h=>by
  simp only[idxN]at h;split at h
  ·cases h
  ·rename_i e;have:=Nat.ne_of_beq_eq_false e;simp only[List.mem_cons,not_or];exact⟨fun e=>this e.symm,Z4c h⟩
theorem Z3Q:∀ {l:List Nat},nodupB l=true→l.Nodup
 | [],_=>List.nodup_nil
 | x::l,h=>by
  simp only[nodupB,Bool.and_eq_true]at h;refine List.nodup_cons.2 ⟨?_,Z3Q h.2⟩;have h1:=h.1;revert h1;cases hx:idxN x l 0 with
  | none=>intro _;exact Z4c hx
  | some _=>intro h;cases h
theorem Z4B{b:Nat}:∀ {l:List Nat} {i j:Nat},l.Nodup→l[i]? = some b→l[j]? = some b→i=j
 | [],i,j,_,hi,_=>by simp at hi
 | x::l,i,j,hn,hi,hj=>by
  obtain⟨h1,h2⟩:=List.nodup_cons.1 hn;cases i with
  | zero =>
   cases j with
   | zero=>rfl
   | succ j =>
    simp at hi hj;subst hi;exact absurd (List.mem_of_getElem? hj) h1
  | succ i =>
   cases j with
   | zero =>
    simp at hi hj;subst hj;exact absurd (List.mem_of_getElem? hi) h1
   | succ j =>
    have:=Z4B h2 (by simpa using hi) (by simpa using hj);omega
theorem Zgt{ls:List Nat}:∀ {post:List Blk} {H:Heap},ls.Nodup→post.length=ls.length→∀ b,(∀ (k:Nat),ls[k]? = some b→∃ B,post[k]? = some B∧applyU (ls.zip post) H b=some B)∧(b∉ls→applyU (ls.zip post) H b=H b):=by
 induction ls with
 | nil=>intro post H _ _ b;exact⟨fun k h=>by simp at h,fun _=>rfl⟩
 | cons x ls ih =>
  intro post H hn hl b;cases post with
  | nil=>simp at hl
  | cons B post =>
   obtain⟨n1,n2⟩:=List.nodup_cons.1 hn;obtain⟨i1,i2⟩:=ih (post:=post) (H:=updH H x B) n2 (by simpa using hl) b;simp only[List.zip_cons_cons,applyU];refine⟨fun k hk=>?_,fun hb=>?_⟩
   ·cases k with
    | zero =>
     simp at hk;subst hk;exact⟨B,rfl,by rw[i2 n1];simp[updH]⟩
    | succ k =>
     obtain⟨C,c1,c2⟩:=i1 k (by simpa using hk);exact⟨C,by simpa using c1,c2⟩
   ·simp only[List.mem_cons,not_or]at hb;rw[i2 hb.2];simp[updH,hb.1]
def Z7W(ks:List Nat)(ρ:Rho):Rho:=fun b=>if b∈ks then ρ b else none
def Z7u(ks:List Nat)(H:Heap):Heap:=fun b=>if b∈ks then H b else none
theorem Z9p{H:Heap}:∀ {l:List Nat},Z7c H l=true→∀ b∈l,(∃ ty s els,H b=some (.arr ty s els))∧8000≤b
 | [],_,b,hb=>by simp at hb
 | c::l,h,b,hb=>by
  simp only[Z7c,Bool.and_eq_true]at h;obtain⟨⟨h1,h2⟩,h3⟩:=h;rcases List.mem_cons.1 hb with rfl | hb
  ·refine⟨?_,Nat.le_of_ble_eq_true h2⟩;split at h1
   ·exact⟨_,_,_,by assumption⟩
   ·cases h1
  ·exact Z9p h3 b hb
theorem Inv.only{ρ:Rho}{Im:Nat→Prop}{ks:List Nat}(I:Inv Ow Im0 w0 ρ w Im H clk)(hk:∀ b∈ks,∃ ty s els,H b=some (.arr ty s els)):Inv Ow Im0 w0 (Z7W ks ρ) w Im (Z7u ks H) clk:=by
 have hρ:∀ b β,Z7W ks ρ b=some β→b∈ks∧ρ b=some β:=by
  intro b β h;unfold Z7W at h;split at h
  ·exact⟨aa,h⟩
  ·cases h
 have hH:∀ b B,Z7u ks H b=some B→b∈ks∧H b=some B:=by
  intro b β h;unfold Z7u at h;split at h
  ·exact⟨aa,h⟩
  ·cases h
 have hl:∀ b,live (Z7u ks H) b→live H b:=fun b ⟨B,h1,h2⟩=>⟨B,(hH b B h1).2,h2⟩
 refine⟨I.kept,fun b b' β β' g l1 l2 q1 q2=>I.inj b b' β β' g (hl b l1) (hl b' l2) (hρ _ _ q1).2 (hρ _ _ q2).2,fun b β g l q=>I.notIm b β g (hl b l) (hρ _ _ q).2,fun b β g q=>I.bnd b β g (hρ _ _ q).2,fun b β g q=>I.own b β g (hρ _ _ q).2,I.imb,I.im0,fun b B q=>?_,fun b hb q=>?_,I.one.1,fun b β h q=>I.one.2 b β h (hρ _ _ q).2⟩
 ·obtain⟨k1,k2⟩:=hH b B q;obtain⟨β,m1,m2⟩:=I.blk b B k2;obtain⟨ty,s,els,e⟩:=hk b k1;rw[k2]at e;cases e;exact⟨β,by unfold Z7W;rw[if_pos k1];exact m1,m2.arr_any rfl (fun _ h=>h)⟩
 ·unfold Z7u at q;unfold Z7W;split
  ·rename_i hm;rw[if_pos hm]at q;exact I.fresh b hb q
  ·rfl
section
variable {ks:List Nat}
theorem ZeA{ρ:Rho}{Im:Nat→Prop}{x y:AV}{v:Value}(h:Rel ρ w Im x v)(hd:toD1 H x=some y)(hk:∀ b∈ksL x,b∈ks):Rel (Z7W ks ρ) w Im x v∧toD1 (Z7u ks H) x=some y:=by
 cases x with
 | d x=>cases h with | d h=>exact⟨.d h,hd⟩
 | rp e o=>cases h with | rp h1 h2 h3=>exact⟨.rp h1 h2 h3,hd⟩
 | ow b =>
  have hb:=hk b (by simp[ksL]);refine⟨?_, ?_⟩
  ·cases h with | ow h1 h2 h3 h4=>exact .ow (by unfold Z7W;rw[if_pos hb];exact h1) h2 h3 h4
  ·simp only[toD1,Z1l]at hd ⊢;simp only[Z7u,if_pos hb];exact hd
 | os b o n =>
  have hb:=hk b (by simp[ksL]);refine⟨?_, ?_⟩
  ·cases h with | os h1 h2 h3 h4 h5=>exact .os (by unfold Z7W;rw[if_pos hb];exact h1) h2 h3 h4 h5
  ·simp only[toD1,Z1l]at hd ⊢;simp only[Z7u,if_pos hb];exact hd
 | _=>simp[toD1]at hd
theorem ksLs{ρ:Rho}{Im:Nat→Prop}:∀ {l m:List AV},toDs H l=some m→(∀ b∈l.flatMap ksL,b∈ks)→toDs (Z7u ks H) l=some m∧∀ (i:Nat) (a:AV) (v:Value),l[i]? = some a→Rel ρ w Im a v→Rel (Z7W ks ρ) w Im a v
 | [],m,h,_=>⟨h,fun i a v ha=>by simp at ha⟩
 | x::l,m,h,hk=>by
  simp only[toDs]at h;split at h;rotate_left
  ·cases h
  rename_i y r hy hr;cases h;obtain⟨h1,h2⟩:=ksLs (ρ:=ρ) (Im:=Im) hr (fun b hb=>hk b (by simp only[List.flatMap_cons,List.mem_append];exact .inr hb));have hkx:∀ b∈ksL x,b∈ks:=fun b hb=>hk b (by simp only[List.flatMap_cons,List.mem_append];exact .inl hb);refine⟨?_,fun i a v ha hv=>?_⟩
  ·simp only[toDs,h1];have:toD1 (Z7u ks H) x=some y:=by
    cases x with
    | d x=>exact hy
    | rp e o=>exact hy
    | ow b=>simp only[toD1,Z1l]at hy ⊢;simp only[Z7u,if_pos (hkx b (by simp[ksL]))];exact hy
    | os b o n=>simp only[toD1,Z1l]at hy ⊢;simp only[Z7u,if_pos (hkx b (by simp[ksL]))];exact hy
    | _=>simp[toD1]at hy
   rw[this]
  ·cases i with
   | zero=>simp at ha;subst ha;exact(ZeA hv hy hkx).1
   | succ i=>exact h2 i a v (by simpa using ha) hv
theorem Zo8{ρ:Rho}{Im:Nat→Prop}{x y:AV}{v:Value}(h:Rel ρ w Im x v)(hd:toD H x=some y)(hk:∀ b∈ksM x,b∈ks):Rel (Z7W ks ρ) w Im x v∧toD (Z7u ks H) x=some y:=by
 cases x with
 | ag l =>
  simp only[toD,Option.map_eq_some_iff]at hd ⊢;obtain⟨m,hm,rfl⟩:=hd;obtain⟨h1,h2⟩:=ksLs (ρ:=ρ) (Im:=Im) (w:=w) hm hk;obtain⟨cs,rfl,k1,k2,k3⟩:=Z3u h;exact⟨.ag _ cs k1 k2 fun i a u ha hu=>h2 i a u ha (k3 i a u ha hu),m,h1,rfl⟩
 | fn f l =>
  simp only[toD,Option.map_eq_some_iff]at hd ⊢;obtain⟨m,hm,rfl⟩:=hd;obtain⟨h1,h2⟩:=ksLs (ρ:=ρ) (Im:=Im) (w:=w) hm hk;cases h with
  | fn k1 k3=>exact⟨.fn k1 fun i a u ha hu=>h2 i a u ha (k3 i a u ha hu),m,h1,rfl⟩
 | ic t a =>
  simp only[toD,Option.map_eq_some_iff]at hd ⊢;obtain⟨m,hm,rfl⟩:=hd;cases h with
  | ic h =>
   obtain⟨q1,q2⟩:=ZeA (ks:=ks) h hm hk;exact⟨.ic q1,m,q2,rfl⟩
 | _=>exact ZeA (H:=H) h hd hk
end
theorem Z4v{ks:List Nat}:∀ {H:Heap} (b:Nat),(b∈ks→applyU (ks.map fun b=>(b,Blk.dead)) H b=some .dead)∧(b∉ks→applyU (ks.map fun b=>(b,Blk.dead)) H b=H b):=by
 induction ks with
 | nil=>intro H b;exact⟨fun h=>by simp at h,fun _=>rfl⟩
 | cons x ks ih =>
  intro H b;obtain⟨i1,i2⟩:=ih (H:=updH H x .dead) b;simp only[List.map_cons,applyU,List.mem_cons,not_or];refine⟨fun h=>?_,fun h=>?_⟩
  ·by_cases hb:b∈ks
   ·exact i1 hb
   ·rw[i2 hb];rcases h with h | h
    ·simp[updH,h]
    ·exact absurd h hb
  ·rw[i2 h.2];simp[updH,h.1]
theorem Znr{G:Option Bool}{c:Call}{f:Operand}{out:Core}(ho:o.op = .call c)(hc:c.callee = .value f)(h:Z6G P clk hints o f c.args.toList G tmps H=some out):Z7D P Ow Im0 w0 clk o G H tmps (out.out tmps H):=by
 intro a w ρ Im next Q I T hph heq hn
 unfold Z6G at h;split at h
 ·cases h
 split at h
 ·cases h
 rename_i d hd;split at h;rotate_left
 ·cases h
 rename_i k caps hf;split at h;rotate_left
 ·cases h
 rename_i res _ _;split at h;rotate_left
 ·cases h
 rename_i as has;generalize hks:(c.args.toList.map (ev tmps)++caps).flatMap ksM=ks at h;split at h;rotate_left
 ·cases h
 rename_i hok;cases h;simp only[Bool.and_eq_true]at hok;obtain⟨⟨hok1,harr⟩,hres⟩:=hok;have harr:=Z9p harr;obtain⟨a1,a2⟩:=Zbh has;refine⟨fun _=>?_,fun hG=>by obtain⟨g,hg,_⟩:=hG;cases hg⟩;have hspec:GSpec P k as false res []:=by simpa[allP,Core.out]using hph
 have hfv:=Z1x T f;rw[hf]at hfv;generalize hfe:a.eval f=fv at hfv;cases hfv with
 | fn hcn hcr =>
  rename_i cs;have hall:∀ (i:Nat) (x:AV) (v:Value),((c.args.toList.map (ev tmps))++caps)[i]? = some x→(c.args.map a.eval++cs)[i]? = some v→Rel ρ w Im x v:=by
   intro i x v hx hv;rw[List.getElem?_append]at hx;rw[Array.getElem?_append]at hv;simp only[List.length_map,Array.length_toList,Array.size_map]at hx hv;split at hx
   ·rename_i hi;rw[if_pos hi]at hv;simp only[List.getElem?_map,Option.map_eq_some_iff,Array.getElem?_map]at hx hv;obtain⟨y,hy,rfl⟩:=hx;obtain⟨y',hy',rfl⟩:=hv;have:y=y':=by
     rw[Array.getElem?_toList]at hy;rw[hy]at hy';cases hy';rfl
    subst this;exact Z1x T y
   ·rename_i hi;rw[if_neg hi]at hv;exact hcr _ x v hx hv
  have hsize:(c.args.map a.eval++cs).size=((c.args.toList.map (ev tmps))++caps).length:=by simp[hcn]
  have hk:∀ b∈ks,∃ ty s els,H b=some (.arr ty s els):=fun b hb=>(harr b hb).1;have J:=I.only hk;let ImC:=ZgM (Z7W ks ρ) Im;have hImC:∀ g,ImC g→Im g∨∃ b β,b∈ks∧ρ b=some β∧β.g=some g:=by
   rintro g (h | ⟨b,β,h1,h2⟩)
   ·exact .inl h
   ·unfold Z7W at h1;split at h1
    ·exact .inr ⟨b,β,aa,h1,h2⟩
    ·cases h1
  have hlive:∀ b∈ks,live H b:=fun b hb=>by
   obtain⟨ty,s,els,e⟩:=hk b hb;exact⟨_,e,by simp⟩
  have hcall:=hspec w ImC (c.args.map a.eval++cs) (fun g hg=>by
    rcases hImC g hg with h | ⟨b,β,_,h2,h3⟩
    ·exact I.imb g h
    ·exact I.bnd b β g h2 h3) (by rw[hsize,a1]) (fun i y v hy hv=>by
    obtain⟨x,hx,hdx⟩:=a2 i y hy;obtain⟨q1,q2⟩:=Zo8 (ks:=ks) (hall i x v hx hv) hdx (fun b hb=>by
     rw[← hks];exact List.mem_flatMap.2 ⟨x,List.mem_of_getElem? hx,hb⟩)
    exact Zjw J q1 q2)
  have hrun:(execOp a.eval o).run P w = .ok (.enter k (c.args.map a.eval++cs)) w:=by
   have:=Z2o (P:=P) hok1 (c.args.map a.eval++cs) w;simp[execOp,ho,resolve,hc,hfe,Deferred.ofValue,invoke,this]
  simp only[Oper.wp,hrun,Oper.upon_enter];refine hcall.mono fun e w' he=>?_;obtain⟨v,rfl,K,ρ',Im',r1,r2,r3,r4,r5,r6,r7⟩:=he;have hext:Ext Im w w':=⟨K.size,fun g hg=>K.block g (I.imb g hg) (fun h=>h),fun g hg=>K.rows g hg⟩
  have hH':∀ b B,applyU (ks.map fun b=>(b,Blk.dead)) H b=some B→(b∈ks∧B = .dead)∨(b∉ks∧H b=some B):=by
   intro b B hB;by_cases hb:b∈ks
   ·rw[(Z4v (H:=H) b).1 hb]at hB;cases hB;exact .inl ⟨hb,rfl⟩
   ·rw[(Z4v (H:=H) b).2 hb]at hB;exact .inr ⟨hb,hB⟩
  have hlive':∀ b,live (applyU (ks.map fun b=>(b,Blk.dead)) H) b→b∉ks∧live H b:=by
   rintro b ⟨B,h1,h2⟩;rcases hH' b B h1 with⟨_,rfl⟩ | ⟨q1,q⟩
   ·exact absurd rfl h2
   ·exact⟨q1,B,q,h2⟩
  rw[hd];have hres':Rel ρ w' (fun g=>(Im g∨ImC g)∨Im' g) res v:=Zk3 r7 hres (fun g hg=>.inr hg);refine hn _ _ ⟨ρ,fun g=>(Im g∨ImC g)∨Im' g,⟨⟨K.os.trans I.kept.os,K.tape.trans I.kept.tape,K.output.trans I.kept.output,Nat.le_trans I.kept.size K.size,fun kk hk hno=>?_,fun kk hk=>?_⟩,
   fun b b' β β' g l1 l2=>I.inj b b' β β' g (hlive' b l1).2 (hlive' b' l2).2,fun b β g l q1 q2 him=>?_,fun b β g q1 q2=>Nat.lt_of_lt_of_le (I.bnd b β g q1 q2) K.size,I.own,fun g hg=>?_,fun g hg=>?_,fun b B hB=>?_,fun b hb hB=>?_,I.one⟩,
   (T.mono hext (fun _ h=>.inl (.inl h)) (fun _ _ h=>h) I.bnd).put d hres'⟩
  ·rw[K.block kk (Nat.lt_of_lt_of_le hk I.kept.size) (fun h=>h)];exact I.kept.block kk hk hno
  ·rw[K.rows kk (Nat.lt_of_lt_of_le hk I.kept.size)];exact I.kept.rows kk hk
  ·obtain⟨l1,l2⟩:=hlive' b l;have key:¬ ImC g:=by
    intro hc;rcases hImC g hc with h | ⟨b2,β2,h1,h2,h3⟩
    ·exact I.notIm b β g l2 q1 q2 h
    ·have:=I.inj b b2 β β2 g l2 (hlive b2 h1) q1 h2 q2 h3;subst this;exact l1 h1
   rcases him with(him | him) | him
   ·exact I.notIm b β g l2 q1 q2 him
   ·exact key him
   ·rcases r1 g him with⟨_,h⟩ | h
    ·exact key h
    ·have:=I.bnd b β g q1 q2;omega
  ·rcases hg with(hg | hg) | hg
   ·exact Nat.lt_of_lt_of_le (I.imb g hg) K.size
   ·rcases hImC g hg with h | ⟨b,β,_,h2,h3⟩
    ·exact Nat.lt_of_lt_of_le (I.imb g h) K.size
    ·exact Nat.lt_of_lt_of_le (I.bnd b β g h2 h3) K.size
   ·exact r2 g hg
  ·have key:∀ g,ImC g→Im0 g∨w0.heap.size≤g∨OwA Ow g:=by
    intro g hg;rcases hImC g hg with h | ⟨b,β,h1,h2,h3⟩
    ·exact I.im0 g h
    ·rcases I.own b β g h2 h3 with⟨h,_⟩ | h
     ·exact .inr (.inl h)
     ·exact .inr (.inr h)
   rcases hg with(hg | hg) | hg
   ·exact I.im0 g hg
   ·exact key g hg
   ·rcases r1 g hg with⟨_,h⟩ | h
    ·exact key g h
    ·exact .inr (.inl (Nat.le_trans I.kept.size h))
  ·rcases hH' b B hB with⟨q1,rfl⟩ | ⟨q1,q2⟩
   ·obtain⟨ty,s,els,e⟩:=hk b q1;obtain⟨β,m1,_⟩:=I.blk b _ e;exact⟨β,m1,trivial⟩
   ·obtain⟨β,m1,m2⟩:=I.blk b B q2;exact⟨β,m1,m2.mono hext (fun _ h=>.inl (.inl h)) (fun _ _ h=>h) I.bnd (fun g hg=>K.block g (I.bnd b β g m1 hg) (fun h=>h))⟩
  ·refine I.fresh b hb ?_;have hB':applyU (ks.map fun b=>(b,Blk.dead)) H b=none:=hB;by_cases hbk:b∈ks
   ·rw[(Z4v (H:=H) b).1 hbk]at hB';cases hB'
   ·rw[(Z4v (H:=H) b).2 hbk]at hB';exact hB'
theorem Z3o{f:AV→Option AV}:∀ {l r:List AV},allO f l=some r→r.length=l.length∧∀ (i:Nat) (y:AV),r[i]? = some y→∃ x,l[i]? = some x∧f x=some y
 | [],r,h=>by simp[allO]at h;subst h;simp
 | a::l,r,h=>by
  simp only[allO]at h;split at h;rotate_left
  ·cases h
  rename_i x m hx hm;cases h;obtain⟨h1,h2⟩:=Z3o hm;refine⟨by simp[h1],fun i y hy=>?_⟩;cases i with
  | zero=>simp at hy;subst hy;exact⟨a,rfl,hx⟩
  | succ i=>exact h2 i y (by simpa using hy)
section
variable {ρ ρ':Rho} {w:World} {Im:Nat→Prop} {f:Nat→Option Nat}
theorem ZbM(hf:∀ b k β,f b=some k→ρ b=some β→ρ' k=some β){x y:AV}{v:Value}(h:Rel ρ w Im x v)(hx:nmL f x=some y):Rel ρ' w Im y v:=by
 unfold nmL at hx;split at hx
 ·cases hx;cases h with
  | d h=>exact .d h
 ·cases hx;cases h with
  | rp h1 h2 h3=>exact .rp h1 h2 h3
 ·split at hx
  ·rename_i k hk;cases hx;obtain⟨g,s,n,h1,rfl⟩:=Z2J h;exact .pt (hf _ _ _ hk h1)
  ·cases hx
 ·split at hx
  ·rename_i k hk;cases hx;cases h with
   | os h1 h2 h3 h4 h5=>exact .os (hf _ _ _ hk h1) h2 h3 h4 h5
  ·cases hx
 ·split at hx
  ·rename_i k hk;cases hx;cases h with
   | ow h1 h2 h3 h4=>exact .ow (hf _ _ _ hk h1) h2 h3 h4
  ·cases hx
 ·cases hx
theorem Zin(hf:∀ b k β,f b=some k→ρ b=some β→ρ' k=some β){x y:AV}{v:Value}(h:Rel ρ w Im x v)(hx:nmM f x=some y):Rel ρ' w Im y v:=by
 have agg:∀ {l r:List AV} {v:Value},Rel ρ w Im (.ag l) v→allO (nmL f) l=some r→Rel ρ' w Im (.ag r) v:=fun h hr=>by
  obtain⟨cs,rfl,h1,h2,h3⟩:=Z3u h;obtain⟨k1,k2⟩:=Z3o hr;refine .ag _ cs oq h2 fun i a u ha hu=>?_;obtain⟨z,m1,m2⟩:=k2 i a ha;exact ZbM hf (h3 i z u m1 hu) m2
 unfold nmM at hx;split at hx
 ·split at hx
  ·rename_i r hr;cases hx;exact agg h hr
  ·cases hx
 ·split at hx
  ·rename_i r hr;cases hx;obtain⟨k1,k2⟩:=Z3o hr;cases h with
   | fn hn h =>
    refine .fn oq fun i a u ha hu=>?_;obtain⟨z,m1,m2⟩:=k2 i a ha;exact ZbM hf (h i z u m1 hu) m2
  ·cases hx
 ·split at hx
  ·rename_i r hr;cases hx;cases h with
   | ic h=>exact .ic (agg h hr)
  ·cases hx
 ·split at hx
  ·rename_i r hr;cases hx;cases h with
   | ic h=>exact .ic (ZbM hf h hr)
  ·cases hx
 ·exact ZbM hf h hx
theorem Zob(hf:∀ b k β,f b=some k→ρ b=some β→ρ' k=some β){β:Bi}{B C:Blk}(h:RelB ρ w Im β B)(hx:nmB f B=some C):RelB ρ' w Im β C:=by
 cases B with
 | box ty cells =>
  simp only[nmB]at hx;split at hx;rotate_left
  ·cases hx
  rename_i r hr;cases hx;obtain⟨k1,k2⟩:=Z3o hr;obtain⟨h0,h00,g,cs,h1,h2,h3,h3',h4⟩:=h;refine⟨by rw[h0,k1],h00,g,cs,h1,h2,by rw[k1];exact h3,h3',fun o a v ha hv=>?_⟩;obtain⟨z,m1,m2⟩:=k2 o a ha;exact Zin hf (h4 o z v m1 hv) m2
 | arr ty s els=>cases hx;exact h
 | dead=>cases hx
theorem Z9m{H:Heap}:∀ {l:List Nat} {r:List Blk},preB f H l=some r→r.length=l.length∧∀ (k:Nat) (C:Blk),r[k]? = some C→∃ b B,l[k]? = some b∧H b=some B∧nmB f B=some C
 | [],r,h=>by simp[preB]at h;subst h;simp
 | b::l,r,h=>by
  simp only[preB]at h;split at h;rotate_left
  ·cases h
  rename_i B r' hB hr;split at h;rotate_left
  ·cases h
  rename_i C hd;cases h;obtain⟨h1,h2⟩:=Z9m hr;refine⟨by simp[h1],fun k D hD=>?_⟩;cases k with
  | zero=>simp at hD;subst hD;exact⟨b,B,rfl,hB,hd⟩
  | succ k=>simpa using h2 k D (by simpa using hD)
end
theorem ZfH(dst clk:Nat):∀ (n k i:Nat),i<n→(nids dst clk k n)[i]? = some (nid dst clk (k+i))
 | 0,_,_,h=>by omega
 | n+1,k,0,_=>rfl
 | n+1,k,i+1,h=>by
  simp only[nids,List.getElem?_cons_succ];rw[ZfH dst clk n (k+1) i oq,show k+1+i=k+(i+1)from by omega]
theorem ZbL(dst clk:Nat):∀ (n k:Nat),(nids dst clk k n).length=n
 | 0,_=>rfl
 | n+1,k=>by simp[nids,ZbL dst clk n (k+1)]
theorem ZiY{dst clk b:Nat}:∀ {n k:Nat},b∈nids dst clk k n→clk*8000≤b
 | 0,_,h=>by simp[nids]at h
 | n+1,k,h=>by
  simp only[nids,List.mem_cons]at h;rcases h with rfl | h
  ·exact ZiW _ _ _
  ·exact ZiY h
theorem Z7S{H:Heap}:∀ {l:List Nat},Z4a H l=true→∀ b∈l,H b=none
 | [],_,b,hb=>by simp at hb
 | x::l,h,b,hb=>by
  simp only[Z4a,Bool.and_eq_true]at h;rcases List.mem_cons.1 hb with rfl | hb
  ·have h1:=h.1;revert h1;cases H b with
   | none=>exact fun _=>rfl
   | some _=>exact fun h=>by cases h
  ·exact Z7S h.2 b hb
theorem Zh3{ids:List Nat}{B:Blk}(h:Z4N ids B≠.dead):B≠.dead:=by
 rintro rfl;exact h rfl
section
variable {ρ ρ':Rho} {w:World} {Im Im':Nat→Prop} {ids:List Nat}
theorem Z89(hr:∀ k β,ρ k=some β→ρ' (ids.getD k 0)=some β) :
  (∀ b i o v,Rel ρ w Im (.pt b i o) v→Rel ρ' w Im' (renI ids (.pt b i o)) v)∧(∀ b o n v,Rel ρ w Im (.os b o n) v→Rel ρ' w Im' (renI ids (.os b o n)) v)∧∀ b v,Rel ρ w Im (.ow b) v→Rel ρ' w Im' (renI ids (.ow b)) v:=by
 refine⟨fun b i o v h=>?_,fun b o n v h=>?_,fun b v h=>?_⟩
 ·obtain⟨g,s,n,h1,rfl⟩:=Z2J h;exact .pt (hr _ _ h1)
 ·cases h with
  | os h1 h2 h3 h4 h5=>exact .os (hr _ _ h1) h2 h3 h4 h5
 ·cases h with
  | ow h1 h2 h3 h4=>exact .ow (hr _ _ h1) h2 h3 h4
theorem Z9f(hi:∀ g,Im g→Im' g)(hr:∀ k β,ρ k=some β→ρ' (ids.getD k 0)=some β){β:Bi}{B:Blk}(h:RelB ρ w Im β B):RelB ρ' w Im' β (Z4N ids B):=by
 obtain⟨q1,q2,q3⟩:=Z89 (w:=w) (Im:=Im) (Im':=Im') hr;cases B with
 | box ty cells =>
  obtain⟨h0,h00,g,cs,h1,h2,h3,h3',h4⟩:=h;refine⟨by simpa using h0,h00,g,cs,h1,h2,by simpa using h3,h3',fun o x v hx hv=>?_⟩;simp only[List.getElem?_map,Option.map_eq_some_iff]at hx;obtain⟨y,hy,rfl⟩:=hx;exact Z6O hi q1 q2 q3 (h4 o y v hy hv)
 | arr ty s els=>exact RelB.arr_any (by rfl) h hi
 | dead=>trivial
end
theorem ZjZ{G:Option Bool}{c:Call}{f:Operand}{d k:Nat}{caps as:List AV}{ls:List Nat}{res:AV}{pre post:List Blk}(ho:o.op = .call c)(hc:c.callee = .value f)(hd:o.dst=some d)(hGt:∀ g,G=some g→g=true)(hf:Z1m G (ev tmps) f = .fn k caps)
  (has:allO (nmM fun b=>idxN b ls 0) (c.args.toList.map (Z1m G (ev tmps))++caps)=some as) (hpre:preB (fun b=>idxN b ls 0) H ls=some pre) (hok:(Z9M P k&&nodupB (Z3V d clk ls post)&&Nat.ble ls.length post.length&&Nat.ble (post.length-ls.length) 7&&Z4a H (nids d clk 0 (post.length-ls.length)))=true) :
  Z7D P Ow Im0 w0 clk o G H tmps ((⟨some (d,mapT (renI (Z3V d clk ls post)) res),(Z3V d clk ls post).zip (post.map (Z4N (Z3V d clk ls post))),[BorSpec P k as pre res post],Z2X G (ev tmps) (f::c.args.toList)⟩:Core).out tmps H):=by
 intro a w ρ Im next Q I T hph heq hn
 simp only[Bool.and_eq_true]at hok;obtain⟨⟨⟨⟨hok1,hnd⟩,hlen⟩,_⟩,hnone⟩:=hok;have hnd:=Z3Q hnd;have hlen:=Nat.le_of_ble_eq_true hlen;have hnone:=Z7S hnone;obtain⟨p1,p2⟩:=Z9m hpre;obtain⟨a1,a2⟩:=Z3o has;refine⟨fun hG=>?_,fun hG=>by obtain⟨g,h1,h2⟩:=hG;have:=hGt g h1;rw[this]at h2;cases h2⟩;have hspec:BorSpec P k as pre res post:=by simpa[allP,Core.out]using hph
 have hfv:=Z36 (l:=f::c.args.toList) (x:=f) pq heq hG (Z1x T f);rw[hf]at hfv;generalize hfe:a.eval f=fv at hfv;cases hfv with
 | fn hcn hcr =>
  rename_i cs;have hall:∀ (i:Nat) (x:AV) (v:Value),((c.args.toList.map (Z1m G (ev tmps)))++caps)[i]? = some x→(c.args.map a.eval++cs)[i]? = some v→Rel ρ w Im x v:=by
   intro i x v hx hv;rw[List.getElem?_append]at hx;rw[Array.getElem?_append]at hv;simp only[List.length_map,Array.length_toList,Array.size_map]at hx hv;split at hx
   ·rename_i hi;rw[if_pos hi]at hv;simp only[List.getElem?_map,Option.map_eq_some_iff,Array.getElem?_map]at hx hv;obtain⟨y,hy,rfl⟩:=hx;obtain⟨y',hy',rfl⟩:=hv;have:y=y':=by
     rw[Array.getElem?_toList]at hy;rw[hy]at hy';cases hy';rfl
    subst this;exact Z36 (List.mem_cons_of_mem _ (List.mem_of_getElem? hy)) heq hG (Z1x T y)
   ·rename_i hi;rw[if_neg hi]at hv;exact hcr _ x v hx hv
  have hsize:(c.args.map a.eval++cs).size=((c.args.toList.map (Z1m G (ev tmps)))++caps).length:=by simp[hcn]
  have hndl:ls.Nodup:=(List.nodup_append.1 hnd).1;let ρc:Rho:=fun k=>match ls[k]? with | some b=>ρ b | none=>none
  have hρc:∀ k β,ρc k=some β→∃ b,ls[k]? = some b∧ρ b=some β:=by
   intro k β hk;simp only[ρc]at hk;split at hk
   ·exact⟨_,aa,hk⟩
   ·cases hk
  have hin:∀ (k b:Nat),ls[k]? = some b→ρc k=ρ b:=by intro k b h;simp only[ρc,h]
  have hnm:∀ b k β,idxN b ls 0=some k→ρ b=some β→ρc k=some β:=by
   intro b k β hk hb;obtain⟨_,q2⟩:=Z2g hk;rw[hin k b (by simpa using q2)];exact hb
  have hblk:∀ (k b:Nat),ls[k]? = some b→∃ B C β,pre[k]? = some C∧H b=some B∧nmB (fun b=>idxN b ls 0) B=some C∧ρ b=some β∧RelB ρ w Im β B:=by
   intro k b hk;have hk':k<pre.length:=by rw[p1];exact(List.getElem?_eq_some_iff.1 hk).1
   obtain⟨b',B,q1,q2,q3⟩:=p2 k _ (List.getElem?_eq_getElem hk');rw[hk]at q1;cases q1;obtain⟨β,q4,q5⟩:=I.blk b _ q2;exact⟨_,_,β,List.getElem?_eq_getElem hk',q2,q3,q4,q5⟩
  have hlive:∀ (k b:Nat),ls[k]? = some b→live H b:=by
   intro k b hk;obtain⟨B,C,β,_,q2,q3,_⟩:=hblk k b hk;exact⟨B,q2,by rintro rfl;simp[nmB]at q3⟩
  have hcall:=hspec w Im ρc (c.args.map a.eval++cs) I.imb (by rw[hsize,a1]) (fun k β hk=>by
    obtain⟨b,q1,_⟩:=hρc k β hk;rw[p1];exact(List.getElem?_eq_some_iff.1 q1).1) (fun b b' β β' g h1 h2 h3 h4=>by
    obtain⟨c1,q1,q2⟩:=hρc b β h1;obtain⟨c2,r1,r2⟩:=hρc b' β' h2;have:=I.inj c1 c2 β β' g (hlive _ _ q1) (hlive _ _ r1) q2 r2 h3 h4;subst this;exact Z4B hndl q1 r1) (fun b β g h1 h2=>by
    obtain⟨c1,q1,q2⟩:=hρc b β h1;exact⟨I.bnd c1 β g q2 h2,I.notIm c1 β g (hlive _ _ q1) q2 h2⟩) (fun k C hC=>by
    obtain⟨b,B,q1,q2,q3⟩:=p2 k C hC;obtain⟨β,q4,q5⟩:=I.blk b B q2;exact⟨β,by rw[hin k b q1];exact q4,Zob hnm q5 q3⟩) (fun i y v hy hv=>by
    obtain⟨x,hx,hr⟩:=a2 i y hy;exact Zin hnm (hall i x v hx hv) hr)
  have hrun:(execOp a.eval o).run P w = .ok (.enter k (c.args.map a.eval++cs)) w:=by
   have:=Z2o (P:=P) hok1 (c.args.map a.eval++cs) w;simp[execOp,ho,resolve,hc,hfe,Deferred.ofValue,invoke,this]
  simp only[Oper.wp,hrun,Oper.upon_enter];refine hcall.mono fun e w' he=>?_;obtain⟨v,rfl,K,ρ',Im',s1,s2,r1,r2,s3,s4,s5,r3,r4⟩:=he;have hmem:∀ g,OwA (ownR ρc) g→∃ (kk b:Nat) (β:Bi),ls[kk]? = some b∧ρ b=some β∧β.g=some g:=by
   rintro g ⟨kk,β,h1,h2⟩;obtain⟨b,q1,q2⟩:=hρc kk β h1;exact⟨kk,b,β,q1,q2,h2⟩
  have hnl:∀ g,Im g→¬ OwA (ownR ρc) g:=by
   intro g hg h;obtain⟨kk,b,β,q1,q2,q3⟩:=hmem g h;exact I.notIm b β g (hlive _ _ q1) q2 q3 hg
  have hext:Ext Im w w':=⟨K.size,fun g hg=>K.block g (I.imb g hg) (hnl g hg),fun g hg=>K.rows g hg⟩
  generalize hids:Z3V d clk ls post=ids at hnd hn hph;have hidl:ids.length=post.length:=by
   rw[← hids,Z3V,List.length_append,ZbL];omega
  have hidn:∀ (kk b:Nat),ids[kk]? = some b→ls[kk]? = some b∨(ls.length≤kk∧clk*8000≤b∧H b=none):=by
   intro kk b hb;rw[← hids,Z3V,List.getElem?_append]at hb;split at hb
   ·exact .inl hb
   ·have hm:=List.mem_of_getElem? hb;exact .inr ⟨by omega,ZiY hm,hnone b hm⟩
  have hidls:∀ (kk b:Nat),ls[kk]? = some b→ids[kk]? = some b:=by
   intro kk b hb;rw[← hids,Z3V,List.getElem?_append,if_pos (List.getElem?_eq_some_iff.1 hb).1];exact hb
  have hidm:∀ b,b∈ids→∃ kk:Nat,ids[kk]? = some b:=fun b hb=>List.getElem?_of_mem hb;let ρ2:Rho:=fun b=>match idxN b ids 0 with | some kk=>ρ' kk | none=>ρ b
  have hρin:∀ (kk b:Nat),ids[kk]? = some b→ρ2 b=ρ' kk:=by
   intro kk b hb;simp only[ρ2];cases hx:idxN b ids 0 with
   | none=>exact absurd (List.mem_of_getElem? hb) (Z4c hx)
   | some k2 =>
    obtain⟨_,q⟩:=Z2g hx;rw[Z4B hnd hb (by simpa using q)]
  have hρout:∀ b,b∉ids→ρ2 b=ρ b:=by
   intro b hb;simp only[ρ2];cases hx:idxN b ids 0 with
   | none=>rfl
   | some k2 =>
    obtain⟨_,q⟩:=Z2g hx;exact absurd (List.mem_of_getElem? q) hb
  have hsub:∀ b β,ρ b=some β→ρ2 b=some β:=by
   intro b β hb;by_cases hm:b∈ids
   ·obtain⟨kk,hkk⟩:=hidm b hm;rw[hρin kk b hkk];rcases hidn kk b hkk with h | ⟨_,h1,h2⟩
    ·exact s1 kk β (by rw[hin kk b h];exact hb)
    ·rw[I.fresh b h1 h2]at hb;cases hb
   ·rw[hρout b hm];exact hb
  have hH2:=fun b=>Zgt (ls:=ids) (post:=post.map (Z4N ids)) (H:=H) hnd (by simp[hidl]) b;have hH':∀ b B,applyU (ids.zip (post.map (Z4N ids))) H b=some B→(∃ (kk:Nat) (C:Blk),ids[kk]? = some b∧post[kk]? = some C∧B=Z4N ids C)∨(b∉ids∧H b=some B):=by
   intro b B hB;by_cases hb:b∈ids
   ·obtain⟨kk,hkk⟩:=hidm b hb;obtain⟨C,c1,c2⟩:=(hH2 b).1 kk hkk;rw[c2]at hB;cases hB;simp only[List.getElem?_map,Option.map_eq_some_iff]at c1;obtain⟨C',c3,c4⟩:=c1;exact .inl ⟨kk,C',hkk,c3,c4.symm⟩
   ·rw[(hH2 b).2 hb]at hB;exact .inr ⟨hb,hB⟩
  have hlive':∀ b,live (applyU (ids.zip (post.map (Z4N ids))) H) b→(∃ kk:Nat,ids[kk]? = some b∧live (hL post) kk)∨(b∉ids∧live H b):=by
   rintro b ⟨B,h1,h2⟩;rcases hH' b B h1 with⟨kk,C,q1,q2,rfl⟩ | ⟨q1,q2⟩
   ·exact .inl ⟨kk,q1,C,q2,Zh3 h2⟩
   ·exact .inr ⟨q1,B,q2,h2⟩
  have hoth:∀ b β g,b∉ids→live H b→ρ b=some β→β.g=some g→¬ (w.heap.size≤g∨OwA (ownR ρc) g):=by
   rintro b β g hb hl h1 h2 (h | h)
   ·have:=I.bnd b β g h1 h2;omega
   ·obtain⟨kk,b2,β2,q1,q2,q3⟩:=hmem g h;have:=I.inj b b2 β β2 g hl (hlive _ _ q1) h1 q2 h2 q3;subst this;exact hb (List.mem_of_getElem? (hidls _ _ q1))
  have hcl:=I.one.1;rw[hd];refine hn _ _ ⟨ρ2,fun g=>Im g∨Im' g,⟨⟨K.os.trans I.kept.os,K.tape.trans I.kept.tape,K.output.trans I.kept.output,Nat.le_trans I.kept.size K.size,fun kk hk hno=>?_,fun kk hk=>?_⟩,
   fun b b' β β' g l1 l2 h1 h2 h3 h4=>?_,fun b β g l q1 q2 him=>?_,fun b β g q1 q2=>?_,fun b β g q1 q2=>?_,fun g hg=>?_,fun g hg=>?_,fun b B hB=>?_,fun b hb hB=>?_,hcl,fun b β hb hβ=>?_⟩,
   (T.mono hext (fun _ h=>.inl h) hsub I.bnd).put d ?_⟩
  ·rw[K.block kk (Nat.lt_of_lt_of_le hk I.kept.size) (fun h=>?_)]
   ·exact I.kept.block kk hk hno
   ·obtain⟨_,b,β,_,m2,m3⟩:=hmem kk h;rcases I.own b β kk m2 m3 with⟨h,_⟩ | h
    ·omega
    ·exact hno h
  ·rw[K.rows kk (Nat.lt_of_lt_of_le hk I.kept.size)];exact I.kept.rows kk hk
  ·rcases hlive' b l1 with⟨k1,m1,m2⟩ | ⟨m1,m2⟩<;>rcases hlive' b' l2 with⟨k2,n1,n2⟩ | ⟨n1,n2⟩
   ·rw[hρin _ _ m1]at h1;rw[hρin _ _ n1]at h2;have:=s5 k1 k2 β β' g m2 n2 h1 h2 h3 h4;subst this;rw[m1]at n1;cases n1;rfl
   ·rw[hρin _ _ m1]at h1;rw[hρout _ n1]at h2;exact absurd (s3 k1 β g h1 h3).2 (hoth b' β' g n1 n2 h2 h4)
   ·rw[hρout _ m1]at h1;rw[hρin _ _ n1]at h2;exact absurd (s3 k2 β' g h2 h4).2 (hoth b β g m1 m2 h1 h3)
   ·rw[hρout _ m1]at h1;rw[hρout _ n1]at h2;exact I.inj b b' β β' g m2 n2 h1 h2 h3 h4
  ·rcases hlive' b l with⟨k1,m1,m2⟩ | ⟨m1,m2⟩
   ·rw[hρin _ _ m1]at q1;rcases him with him | him
    ·rcases(s3 k1 β g q1 q2).2 with h | h
     ·have:=I.imb g him;omega
     ·exact hnl g him h
    ·exact s4 k1 β g m2 q1 q2 him
   ·rw[hρout _ m1]at q1;rcases him with him | him
    ·exact I.notIm b β g m2 q1 q2 him
    ·rcases r1 g him with h | h
     ·exact I.notIm b β g m2 q1 q2 h
     ·exact hoth b β g m1 m2 q1 q2 h
  ·by_cases hm:b∈ids
   ·obtain⟨kk,hkk⟩:=hidm b hm;rw[hρin kk b hkk]at q1;exact(s3 kk β g q1 q2).1
   ·rw[hρout b hm]at q1;exact Nat.lt_of_lt_of_le (I.bnd b β g q1 q2) K.size
  ·by_cases hm:b∈ids
   ·obtain⟨kk,hkk⟩:=hidm b hm;rw[hρin kk b hkk]at q1;rcases hidn kk b hkk with h | ⟨_,h8,_⟩
    ·obtain⟨B,C,β2,_,_,_,n1,_⟩:=hblk kk b h;have e:=s1 kk β2 (by rw[hin kk b h];exact n1);rw[q1]at e;cases e;exact I.own b β g n1 q2
    ·rcases(s3 kk β g q1 q2).2 with h | h
     ·exact .inl ⟨Nat.le_trans I.kept.size h,by omega⟩
     ·obtain⟨_,b2,β2,_,m2,m3⟩:=hmem g h;exact(I.own b2 β2 g m2 m3).imp (fun h=>⟨h.1,by omega⟩) (fun h=>h)
   ·rw[hρout b hm]at q1;exact I.own b β g q1 q2
  ·rcases hg with hg | hg
   ·exact Nat.lt_of_lt_of_le (I.imb g hg) K.size
   ·exact r2 g hg
  ·rcases hg with hg | hg
   ·exact I.im0 g hg
   ·rcases r1 g hg with h | h | h
    ·exact I.im0 g h
    ·exact .inr (.inl (Nat.le_trans I.kept.size h))
    ·obtain⟨_,b2,β2,_,m2,m3⟩:=hmem g h;exact(I.own b2 β2 g m2 m3).elim (fun h=>.inr (.inl h.1)) (fun h=>.inr (.inr h))
  ·rcases hH' b B hB with⟨kk,C,q1,q2,rfl⟩ | ⟨q1,q2⟩
   ·obtain⟨β,m1,m2⟩:=r3 kk C q2;refine⟨β,by rw[hρin kk b q1];exact m1,Z9f (fun _ h=>.inr h) (fun k3 β3 h3=>?_) m2⟩;have hk3:k3<ids.length:=by rw[hidl];exact s2 k3 β3 h3
    have e:=List.getElem?_eq_getElem hk3;rw[List.getD_eq_getElem?_getD,e];show ρ2 ids[k3]=some β3;rw[hρin k3 _ e];exact h3
   ·obtain⟨β,m1,m2⟩:=I.blk b B q2;by_cases hdead:B = .dead
    ·subst hdead;exact⟨β,hsub b β m1,trivial⟩
    ·refine⟨β,hsub b β m1,m2.mono hext (fun _ h=>.inl h) hsub I.bnd (fun g hg=>K.block g (I.bnd b β g m1 hg) fun h=>?_)⟩;exact hoth b β g q1 ⟨B,q2,hdead⟩ m1 hg (.inr h)
  ·by_cases hm:b∈ids
   ·obtain⟨kk,hkk⟩:=hidm b hm;obtain⟨C,_,c2⟩:=(hH2 b).1 kk hkk;have hB':applyU (ids.zip (post.map (Z4N ids))) H b=none:=hB;rw[c2]at hB';cases hB'
   ·have hB':applyU (ids.zip (post.map (Z4N ids))) H b=none:=hB;rw[(hH2 b).2 hm]at hB';rw[hρout b hm];exact I.fresh b hb hB'
  ·by_cases hm:b∈ids
   ·obtain⟨kk,hkk⟩:=hidm b hm;rw[hρin kk b hkk]at hβ;rcases hidn kk b hkk with h | ⟨_,h8,_⟩
    ·obtain⟨B,C,β2,_,_,_,n1,_⟩:=hblk kk b h;have e:=s1 kk β2 (by rw[hin kk b h];exact n1);rw[hβ]at e;cases e;exact I.one.2 b β hb n1
    ·omega
   ·rw[hρout b hm]at hβ;exact I.one.2 b β hb hβ
  ·have hr:∀ k3 β3,ρ' k3=some β3→ρ2 (ids.getD k3 0)=some β3:=by
    intro k3 β3 h3;have hk3:k3<ids.length:=by rw[hidl];exact s2 k3 β3 h3
    have e:=List.getElem?_eq_getElem hk3;rw[List.getD_eq_getElem?_getD,e];show ρ2 ids[k3]=some β3;rw[hρin k3 _ e];exact h3
   obtain⟨q1,q2,q3⟩:=Z89 (w:=w') (Im:=Im') (Im':=fun g=>Im g∨Im' g) hr;exact Z8h (fun _ h=>.inr h) q1 q2 q3 r4
theorem Z8L{ls:List Nat}{x y:AV}(h:nmL (fun b=>idxN b ls 0) x=some y):Z7s (renI ls) y=x:=by
 have key:∀ b k,idxN b ls 0=some k→ls.getD k 0=b:=fun b k e=>by
  obtain⟨_,q⟩:=Z2g e;rw[List.getD_eq_getElem?_getD];simp only[Nat.sub_zero]at q;rw[q];rfl
 unfold nmL at h;split at h
 ·cases h;rfl
 ·cases h;rfl
 ·split at h
  ·rename_i e;cases h;simp only[Z7s,renI,key _ _ e]
  ·cases h
 ·split at h
  ·rename_i e;cases h;simp only[Z7s,renI,key _ _ e]
  ·cases h
 ·split at h
  ·rename_i e;cases h;simp only[Z7s,renI,key _ _ e]
  ·cases h
 ·cases h
theorem Z7f{g:AV→Option AV}{f:AV→AV}(h:∀ x y,g x=some y→f y=x):∀ {l r:List AV},allO g l=some r→r.map f=l
 | [],r,e=>by simp[allO]at e;subst e;rfl
 | a::l,r,e=>by
  simp only[allO]at e;split at e
  ·rename_i x r' e1 e2;cases e;rw[List.map_cons,h _ _ e1,Z7f h e2]
  ·cases e
theorem ZkY{f:AV→AV}{y:AV}(h:∀ l,y≠.ag l)(h2:∀ g l,y≠.fn g l)(h3:∀ t z,y≠.ic t z):mapA f y=Z7s f y:=by
 cases y<;>first | rfl | (exact absurd rfl (h _)) | (exact absurd rfl (h2 _ _)) | (exact absurd rfl (h3 _ _))
theorem Zfe{g:Nat→Option Nat}{x y:AV}(h:nmL g x=some y):(∀ l,y≠.ag l)∧(∀ k l,y≠.fn k l)∧∀ t z,y≠.ic t z:=by
 unfold nmL at h;repeat' split at h
 all_goals cases h
 all_goals exact⟨nofun,nofun,nofun⟩
theorem Znd{ls:List Nat}{x y:AV}(h:nmM (fun b=>idxN b ls 0) x=some y):mapA (renI ls) y=x:=by
 have leaf:∀ {x y:AV},nmL (fun b=>idxN b ls 0) x=some y→mapA (renI ls) y=x:=fun {x y} h=>by
  obtain⟨h1,h2,h3⟩:=Zfe h;rw[ZkY h1 h2 h3,Z8L h]
 unfold nmM at h;split at h
 ·split at h
  ·rename_i e;cases h;simp only[mapA,Z7f (fun _ _=>Z8L) e]
  ·cases h
 ·split at h
  ·rename_i e;cases h;simp only[mapA,Z7f (fun _ _=>Z8L) e]
  ·cases h
 ·split at h
  ·rename_i e;cases h;simp only[mapA,Z7f (fun _ _=>Z8L) e]
  ·cases h
 ·split at h
  ·rename_i r e;cases h;have q:=Z8L e;obtain⟨h1,_,_⟩:=Zfe e;cases r<;>first | (exact absurd rfl (h1 _)) | (simp only[mapA];rw[q])
  ·cases h
 ·exact leaf h
theorem ZnM{ls:List Nat}{B C:Blk}(h:nmB (fun b=>idxN b ls 0) B=some C):Z4N ls C=B:=by
 unfold nmB at h;split at h
 ·split at h
  ·rename_i e;cases h;simp only[Z4N,Z7f (fun _ _=>Znd) e]
  ·cases h
 ·cases h;rfl
 ·cases h
theorem Z9K{H:Heap}:∀ {us:List (Nat×Blk)},(∀ p∈us,H p.1=some p.2)→applyU us H=H
 | [],_=>rfl
 | (b,B)::us,h=>by
  have e:updH H b B=H:=by
   funext x
   unfold updH;split
   ·rename_i q;rw[q];exact(h (b,B) pq).symm
   ·rfl
  simp only[applyU,e];exact Z9K fun p hp=>h p (List.mem_cons_of_mem _ hp)
theorem ZpT{G:Option Bool}{c:Call}{f:Operand}{out:Core}(ho:o.op = .call c)(hc:c.callee = .value f)(h:Z9C P clk hints o f c.args.toList G tmps H=some out):Z7D P Ow Im0 w0 clk o G H tmps (out.out tmps H):=by
 unfold Z9C at h;split at h
 ·cases h
 rename_i d hd;split at h
 ·-- passed over
  rename_i hg;split at h;rotate_left
  ·cases h
  cases h;intro a w ρ Im next Q I T hph heq hn
  refine⟨fun hG=>?_,fun hG=>?_⟩
  ·cases G with
   | none=>cases hg
   | some g=>have:=hG g rfl;simp[this]at hg
  ·rw[hd];exact hn _ _ (Z9u I T hG d _)
 rename_i hg;have hGt:∀ g,G=some g→g=true:=by
  intro g e;subst e;exact hg
 split at h;rotate_left
 ·cases h
 rename_i k caps hf;split at h;rotate_left
 ·cases h
 rename_i ls res post _ _;split at h;rotate_left
 ·cases h
 rename_i as pre has hpre;split at h
 ·split at h;rotate_left
  ·cases h
  rename_i hok;cases h;simp only[Bool.and_eq_true]at hok;obtain⟨p1,p2⟩:=Z9m hpre;have e0:Z3V d clk ls pre=ls:=by simp[Z3V,p1,nids]
  have g:=ZjZ (Ow:=Ow) (Im0:=Im0) (w0:=w0) (res:=res) (post:=pre) ho hc hd hGt hf has hpre (by rw[e0,p1,Nat.sub_self,hok.1,hok.2,Nat.ble_eq_true_of_le (Nat.le_refl ls.length)];rfl);rw[e0]at g;have e1:applyU (ls.zip (pre.map (Z4N ls))) H=H:=Z9K fun p hp=>by
   obtain⟨i,hi⟩:=List.mem_iff_getElem?.1 hp;rw[List.getElem?_zip_eq_some]at hi;obtain⟨h1,h2⟩:=hi;simp only[List.getElem?_map,Option.map_eq_some_iff]at h2;obtain⟨C,h2,h3⟩:=h2;obtain⟨b,B,q1,q2,q3⟩:=p2 i C h2;rw[h1]at q1;cases q1;rw[q2,← h3,ZnM q3]
  simp only[Core.out,e1]at g ⊢;exact g
 ·split at h;rotate_left
  ·cases h
  rename_i hok;cases h;exact ZjZ ho hc hd hGt hf has hpre hok
theorem Zjb{c:Call}{out:Core}(ho:o.op = .call c)(hc:c.callee = .builtin .append)(h:Z4m P clk hints o c tmps H=some out):Z7D P Ow Im0 w0 clk o none H tmps (out.out tmps H):=by
 intro a w ρ Im next Q I T hph heq hn
 unfold Z4m at h;split at h
 ·cases h
 rename_i d hd;split at h;rotate_left
 ·cases h
 rename_i x y t t' h1 h2;split at h
 ·cases h
 rename_i hH;split at h;rotate_left
 ·cases h
 rename_i b r hr;cases h;refine⟨fun _=>?_,fun hG=>by obtain⟨g,hg,_⟩:=hG;cases hg⟩;have hop:o.op = .call ⟨.builtin .append,#[x,y],#[t,t']⟩:=by rw[ho,Z7A hc h1 h2]
 obtain⟨v,w',ρ',k1,k2,k3,k4⟩:=Zh1 hop hr I T oq hH (Z1x T x) (Z1x T y) hph;simp only[Oper.wp,k1,Oper.upon_value];rw[hd];exact hn _ _ ⟨ρ',Im,by show Inv _ _ _ _ _ _ (applyU r.ups (updH H b .dead)) _;rw[Res.applyU];exact k2,k3.put d k4⟩
theorem Z8y{ops:Array Oper}(h:Z9c P clk ops hints o tmps H=some out)(hS:Sys Ow Im0 w0 tmps H clk a w)(hph:allP out.ph)(heq:EqP out.eq)(hn:∀ a' w',Sys Ow Im0 w0 out.tmps out.H clk a' w'→next a' w') :
  (Region.wanted o (yielded ops a.tmps)=true→o.wp P a w next Q)∧(Region.wanted o (yielded ops a.tmps)=false→next (a.put o.dst undef) w):=by
 obtain⟨ρ,Im,I,T⟩:=hS;unfold Z9c at h;split at h;rotate_left
 ·cases h
 rename_i c h';cases h;unfold Z2F at h';split at h'
 ·cases h'
 rename_i G hG;have hok:Z7D P Ow Im0 w0 clk o G H tmps (c.out tmps H):=by
  revert h';intro h;split at h
  ·exact Zn4 aa h
  ·rename_i c hop;split at h
   ·split at h
    ·exact Znr hop aa h
    ·split at h
     ·exact ZpT hop aa h
     ·exact Zo7 hop aa h
   ·split at h
    ·exact Zjb hop aa h
    ·cases h
   ·exact ZfM h
  ·exact ZfM h
 obtain⟨k1,k2⟩:=hok a w ρ Im next Q I T hph heq hn
 rcases ZgF T hG with⟨rfl,hw⟩ | ⟨g,rfl,hw⟩
 ·exact⟨fun _=>k1 (fun g hg=>by cases hg),fun h=>by rw[hw]at h;cases h⟩
 ·exact⟨fun h=>k1 (fun g' hg'=>by cases hg';rw[← hw];exact h),fun h=>k2 ⟨g,rfl,by rw[← hw];exact h⟩⟩
end
def idL:AV→List Nat
 | .pt b _ _=>[b]
 | .os b _ _=>[b]
 | .ow b=>[b]
 | _=>[]
def idM:AV→List Nat
 | .ag l=>l.flatMap idL
 | .fn _ l=>l.flatMap idL
 | .ic _ a=>idL a
 | a=>idL a
def idA:AV→List Nat
 | .fn _ l=>l.flatMap idM
 | a=>idM a
theorem Zq2{x:AV}{b:Nat}(h:b∈idL x):b∈idM x:=by
 cases x<;>first | exact h | simp[idL]at h
theorem ZpV{x:AV}{b:Nat}(h:b∈idM x):b∈idA x:=by
 cases x with
 | fn f l =>
  obtain⟨y,hy,hb⟩:=List.mem_flatMap.1 h;exact List.mem_flatMap.2 ⟨y,hy,Zq2 hb⟩
 | _=>exact h
def idV:AV→List Nat
 | .gd _ a=>idA a
 | a=>idA a
def Zj8:Operand→List Nat
 | .tmp t=>[t]
 | _=>[]
def Z3L(ops:Array Oper)(o:Oper):List Nat:=o.op.operands.toList.flatMap Zj8++(match o.guard with | none=>[] | some (j,_)=>match ops[j]? with | some oj=>(match oj.dst with | some t=>[t] | none=>[]) | none=>[])
def ZkD(tmps:List AV)(o:Oper):List Nat:=match o.op with
 | .move _=>[]
 | _=>o.op.operands.toList.flatMap fun x=>idV (ev tmps x)
def Zhv(hints:List (Nat×List Hint))(tmps:List AV)(o:Oper):List Nat:=ZkD tmps o++borL hints o
theorem Zcf(tmps:List AV){o:Oper}(h:∀ x,o.op≠.move x):ZkD tmps o=o.op.operands.toList.flatMap fun x=>idV (ev tmps x):=by
 unfold ZkD;split
 ·rename_i x hx;exact absurd hx (h x)
 ·rfl
def Z4R(clk:Nat)(o:Oper):List Nat:=match o.dst with
 | some d=>(clk*8000+d)::(List.range 7).map fun k=>nid d clk k
 | none=>[clk*8000+7999]
theorem ZjA(G:Option Bool)(R:Operand→AV)(x:Operand):∀ b,b∈idA (Z1m G R x)→b∈idV (R x):=by
 intro b hb;cases G with
 | none =>
  simp only[Z1m]at hb;cases h:R x with
  | gd g a=>rw[h]at hb;simp[idA,idM,idL]at hb
  | _=>rw[h]at hb;exact hb
 | some g =>
  simp only[Z1m]at hb;cases h:R x with
  | gd g' a=>rw[h]at hb;exact hb
  | _=>rw[h]at hb;exact hb
section
variable {P:Program} {H H':Heap}
theorem Z42{x:AV}(h:∀ b∈idA x,H b=H' b):Z1l H x=Z1l H' x:=by
 cases x with
 | ow b=>simp only[Z1l];rw[h b (by simp[idA,idM,idL])]
 | os b o n=>simp only[Z1l];rw[h b (by simp[idA,idM,idL])]
 | d x =>
  cases x with
  | sl=>rfl
  | sc v=>unfold Z1l;split<;>first | rfl | (split<;>simp_all) | simp_all
 | _=>rfl
theorem ZlM{o:Oper}{id:Nat}{hs:List Hint}{E:Operand→AV}(h:∀ x∈o.op.operands.toList,∀ b∈idA (E x),H b=H' b):act P o id hs E H=act P o id hs E H':=by
 unfold act;cases hop:o.op with
 | load t x =>
  have hx:=h x (by simp[hop,Op.operands]);simp only[Z7i];cases hE:E x with
  | pt b i o=>simp only;rw[hx b (by rw[hE];simp[idA,idM,idL])]
  | _=>rfl
 | store t x y =>
  have hx:=h x (by simp[hop,Op.operands]);dsimp only;split
  ·rfl
  ·simp only[Z8c];cases hE:E x with
   | pt b i o=>simp only;rw[hx b (by rw[hE];simp[idA,idM,idL])]
   | _=>rfl
 | slice t x lo hi mx =>
  have hx:=h x (by simp[hop,Op.operands]);simp only[Z8a];cases hE:E x with
  | ow b=>simp only;rw[hx b (by rw[hE];simp[idA,idM,idL])]
  | os b o n=>simp only;rw[hx b (by rw[hE];simp[idA,idM,idL])]
  | d x=>cases x<;>rfl
  | _=>rfl
 | indexAddr t x y =>
  have hx:=h x (by simp[hop,Op.operands]);simp only[Z3S];cases hE:E x with
  | ow b=>simp only;rw[hx b (by rw[hE];simp[idA,idM,idL])]
  | os b o n=>simp only;rw[hx b (by rw[hE];simp[idA,idM,idL])]
  | d x=>cases x<;>rfl
  | _=>rfl
 | call c =>
  have hm:∀ x∈c.args.toList,∀ b∈idA (E x),H b=H' b:=fun x hx=>h x (by simp only[hop,Op.operands,Call.operands,Array.toList_append,List.mem_append];exact .inr hx);dsimp only;split
  ·split
   ·rename_i x t h1 h2;have hx:=hm x (by rw[h1];simp);simp only[ZfO];cases hE:E x with
    | ow b=>simp only;rw[hx b (by rw[hE];simp[idA,idM,idL])]
    | d x=>cases x<;>rfl
    | _=>rfl
   ·rfl
  ·split
   ·rename_i x y t t' h1 h2;have hx:=hm x (by rw[h1];simp);have hy:=hm y (by rw[h1];simp);simp only[Zbd];rw[Z42 hy];cases hE:E x with
    | ow b=>simp only;rw[hx b (by rw[hE];simp[idA,idM,idL])]
    | os b o n=>simp only;rw[hx b (by rw[hE];simp[idA,idM,idL])]
    | _=>rfl
   ·rfl
  ·split
   ·rename_i x t h1 h2;have hx:=hm x (by rw[h1];simp);simp only[Z8j];cases hE:E x with
    | ow b=>simp only;rw[hx b (by rw[hE];simp[idA,idM,idL])]
    | os b o n=>simp only;rw[hx b (by rw[hE];simp[idA,idM,idL])]
    | _=>rfl
   ·rfl
  all_goals rfl
 | _=>rfl
theorem Z6M{x:AV}(h:∀ b∈idL x,H b=H' b):toD1 H x=toD1 H' x:=by
 cases x with
 | ow b=>simp only[toD1];rw[Z42 (x:=.ow b) (fun b hb=>h b (by simpa[idA,idM]using hb))]
 | os b o n=>simp only[toD1];rw[Z42 (x:=.os b o n) (fun b hb=>h b (by simpa[idA,idM]using hb))]
 | _=>rfl
theorem Z8w:∀ {l:List AV},(∀ b∈l.flatMap idL,H b=H' b)→toDs H l=toDs H' l
 | [],_=>rfl
 | a::l,h=>by
  simp only[toDs];rw[Z6M (fun b hb=>h b (by simp[hb])),Z8w (l:=l) (fun b hb=>h b (by
   simp only[List.flatMap_cons,List.mem_append];exact .inr hb))]
theorem Zkm{x:AV}(h:∀ b∈idM x,H b=H' b):toD H x=toD H' x:=by
 cases x with
 | ag l=>simp only[toD];rw[Z8w h]
 | fn f l=>simp only[toD];rw[Z8w h]
 | ic t a=>simp only[toD];rw[Z6M h]
 | ow b=>exact Z6M (x:=.ow b) h
 | os b o n=>exact Z6M (x:=.os b o n) h
 | _=>rfl
theorem Z9s:∀ {l:List AV},(∀ x∈l,∀ b∈idM x,H b=H' b)→toDD H l=toDD H' l
 | [],_=>rfl
 | a::l,h=>by
  simp only[toDD];rw[Zkm (h a pq),Z9s (l:=l) (fun x hx=>h x (by simp[hx]))]
theorem Z9P{d clk:Nat}:∀ {news:List Blk} {k:Nat} {H H':Heap},(∀ i,k≤i→i<k+news.length→H (nid d clk i)=H' (nid d clk i))→Z5a d clk k news H=Z5a d clk k news H'
 | [],k,H,H',_=>rfl
 | B::r,k,H,H',h=>by
  simp only[Z5a];rw[h k (Nat.le_refl _) pq,Z9P (news:=r) (k:=k+1) (H:=updH H (nid d clk k) B) (H':=updH H' (nid d clk k) B) (fun i h1 h2=>by
   unfold updH;split
   ·rfl
   ·exact h i oq qo)]
theorem ZeN{x:AV}{b:Nat}(h:b∈ksL x):b∈idL x:=by
 cases x<;>first | exact h | simp[ksL]at h
theorem ZmV{x:AV}{b:Nat}(h:b∈ksM x):b∈idM x:=by
 cases x with
 | ag l =>
  obtain⟨y,hy,hb⟩:=List.mem_flatMap.1 h;exact List.mem_flatMap.2 ⟨y,hy,ZeN hb⟩
 | fn f l =>
  obtain⟨y,hy,hb⟩:=List.mem_flatMap.1 h;exact List.mem_flatMap.2 ⟨y,hy,ZeN hb⟩
 | ic t a=>exact ZeN (x:=a) h
 | ow b=>exact h
 | os b o n=>exact h
 | _=>simp[ksM,ksL]at h
theorem Z8D:∀ {l:List Nat},(∀ b∈l,H b=H' b)→Z7c H l=Z7c H' l
 | [],_=>rfl
 | b::l,h=>by
  simp only[Z7c];rw[h b pq,Z8D (l:=l) fun c hc=>h c (by simp[hc])]
theorem Z9i{t t' id:Nat}{hs:List Hint}{x y:AV}(hx:∀ b∈idA x,H b=H' b)(hy:∀ b∈idA y,H b=H' b):Z3G P t t' id hs x y H=Z3G P t t' id hs x y H':=by
 unfold Z3G;rw[Z42 hy];cases x with
 | ow b=>simp only;rw[hx b (by simp[idA,idM,idL])]
 | _=>rfl
theorem Z9Y{t t' id:Nat}{hs:List Hint}{x y:AV}(hx:∀ b∈idA x,H b=H' b)(hy:∀ b∈idA y,H b=H' b):Z4j P t t' id hs x y H=Z4j P t t' id hs x y H':=by
 unfold Z4j;split
 ·unfold Z5t;cases x with
  | ow b=>simp only;rw[hx b (by simp[idA,idM,idL])]
  | _=>rfl
 ·exact Z9i hx hy
end
theorem Z3q{G:Option Bool}{R R':Operand→AV}:∀ {l:List Operand},(∀ x∈l,R x=R' x)→Z2X G R l=Z2X G R' l
 | [],_=>rfl
 | x::l,h=>by
  simp only[Z2X];rw[h x pq,Z3q (l:=l) (fun y hy=>h y (by simp[hy]))]
theorem ZdH{H H':Heap}{f:Nat→Option Nat}:∀ {l:List Nat},(∀ b∈l,H b=H' b)→preB f H l=preB f H' l
 | [],_=>rfl
 | b::l,h=>by
  simp only[preB];rw[h b pq,ZdH (l:=l) (fun y hy=>h y (by simp[hy]))]
theorem Z7F{H H':Heap}:∀ {l:List Nat},(∀ b∈l,H b=H' b)→Z4a H l=Z4a H' l
 | [],_=>rfl
 | b::l,h=>by
  simp only[Z4a];rw[h b pq,Z7F (l:=l) (fun y hy=>h y (by simp[hy]))]
theorem Z61{P:Program}{clk:Nat}{ops:Array Oper}{hints:List (Nat×List Hint)}{o:Oper}{tmps tmps':List AV}{H H':Heap}{c:Core}
  (ht:∀ t∈Z3L ops o,tmps.getD t .any=tmps'.getD t .any) (hH:∀ b∈Zhv hints tmps o++Z4R clk o,H b=H' b) (hn:∀ d,o.dst=some d→∀ fr res news r,look d hints = .call fr res news::r→news.length≤7)
  (h:Z2F P clk ops hints o tmps H=some c):Z2F P clk ops hints o tmps' H'=some c:=by
 rw[← h];have hev:∀ x∈o.op.operands.toList,ev tmps' x=ev tmps x:=by
  intro x hx;cases x with
  | tmp t=>exact(ht t (by simp only[Z3L,List.mem_append,List.mem_flatMap];exact .inl ⟨_,hx,by simp[Zj8]⟩)).symm
  | _=>rfl
 have hg:guardOf ops tmps' o.guard=guardOf ops tmps o.guard:=by
  cases hgd:o.guard with
  | none=>rfl
  | some p =>
   obtain⟨j,want⟩:=p;simp only[guardOf];cases hj:ops[j]? with
   | none=>rfl
   | some oj =>
    cases hd:oj.dst with
    | none=>simp only[hd]
    | some t =>
     have:=ht t (by simp[Z3L,hgd,hj,hd]);simp only[hd];rw[this]
 have hstrip:∀ G,∀ x∈o.op.operands.toList,Z1m G (ev tmps') x=Z1m G (ev tmps) x:=by
  intro G x hx;cases G<;>simp only[Z1m,hev x hx]
 have hfoot:(∀ x,o.op≠.move x)→∀ G,∀ x∈o.op.operands.toList,∀ b∈idA (Z1m G (ev tmps) x),H b=H' b:=by
  intro hm G x hx b hb;exact hH b (List.mem_append.2 (.inl (List.mem_append.2 (.inl (by rw[Zcf tmps hm];exact List.mem_flatMap.2 ⟨x,hx,ZjA G _ x b hb⟩)))))
 have hown:∀ b∈Z4R clk o,H b=H' b:=fun b hb=>hH b (List.mem_append.2 (.inr hb));have hplain:∀ G,Z2z P clk hints o G tmps' H'=Z2z P clk hints o G tmps H:=by
  intro G;have hact:∀ id hs (E:Operand→AV),(∀ x∈o.op.operands.toList,∀ b∈idA (E x),(∀ x,o.op≠.move x)→H b=H' b)→act P o id hs E H'=act P o id hs E H:=by
   intro id hs E hE;by_cases hm:∃ x,o.op = .move x
   ·obtain⟨x,hx⟩:=hm;simp only[act,hx]
   ·exact(ZlM fun x hx b hb=>hE x hx b hb (fun x hx=>hm ⟨x,hx⟩)).symm
  unfold Z2z;cases hd:o.dst with
  | some d =>
   simp only;rw[← hown (clk*8000+d) (by simp[Z4R,hd])];rw[Z9A (E:=Z1m G (ev tmps')) (E':=Z1m G (ev tmps)) (hstrip G),hact _ _ _ (fun x hx b hb hm=>hfoot hm G x hx b hb),Z3q hev]
  | none =>
   cases G with
   | some g=>rfl
   | none =>
    simp only;rw[← hown (clk*8000+7999) (by simp[Z4R,hd])];have e1:act P o (clk*8000+7999) (look (keyOf o) hints) (ev tmps') H'=act P o (clk*8000+7999) (look (keyOf o) hints) (ev tmps) H':=Z9A hev;have e2:act P o (clk*8000+7999) (look (keyOf o) hints) (ev tmps) H'=act P o (clk*8000+7999) (look (keyOf o) hints) (ev tmps) H:=hact _ _ _ (fun x hx b hb hm=>hfoot hm none x hx b hb);rw[e1,e2]
 unfold Z2F;rw[hg];cases guardOf ops tmps o.guard with
 | none=>rfl
 | some G =>
  simp only;cases hop:o.op with
  | pick x y z =>
   have h1:=hstrip G x (by simp[hop,Op.operands]);have h2:=hev y (by simp[hop,Op.operands]);have h3:=hev z (by simp[hop,Op.operands]);have h4:=hev x (by simp[hop,Op.operands]);simp only[Z75];rw[h1,h2,h3,Z3q (G:=G) (l:=[x]) (R:=ev tmps') (R':=ev tmps) (by simpa using h4)]
  | call cl =>
   have hm:∀ x,o.op≠.move x:=fun x h=>by rw[hop]at h;cases h
   have hfoot:=hfoot hm;simp only;cases hcal:cl.callee with
   | value f =>
    simp only;cases ZmA o hints with
    | true =>
     have hops:o.op.operands.toList=f::cl.args.toList:=by simp[hop,Op.operands,Call.operands,hcal]
     cases G with
     | some g=>rfl
     | none =>
     have hargs:cl.args.toList.map (ev tmps')=cl.args.toList.map (ev tmps):=List.map_congr_left fun x hx=>hev x (by rw[hops];exact List.mem_cons_of_mem _ hx);have hfe:=hev f (by rw[hops];simp);simp only[Z6G];cases hd:o.dst with
     | none=>rfl
     | some d =>
      simp only;rw[hfe,hargs];cases hfv:ev tmps f with
      | fn k caps =>
       simp only;have hall:∀ x∈cl.args.toList.map (ev tmps)++caps,∀ b∈idM x,H b=H' b:=by
        intro x hx b hb;rcases List.mem_append.1 hx with hx | hx
        ·obtain⟨y,hy,rfl⟩:=List.mem_map.1 hx;exact hfoot none y (by rw[hops];exact List.mem_cons_of_mem _ hy) b (ZpV hb)
        ·refine hfoot none f (by rw[hops];simp) b ?_;simp only[Z1m];rw[hfv];exact List.mem_flatMap.2 ⟨x,hx,hb⟩
       have hdd:toDD H' (cl.args.toList.map (ev tmps)++caps)=toDD H (cl.args.toList.map (ev tmps)++caps):=(Z9s hall).symm;have harr:Z7c H' ((cl.args.toList.map (ev tmps)++caps).flatMap ksM)=Z7c H ((cl.args.toList.map (ev tmps)++caps).flatMap ksM):=by
        refine(Z8D fun b hb=>?_).symm;obtain⟨x,hx,hbx⟩:=List.mem_flatMap.1 hb;exact hall x hx b (ZmV hbx)
       rw[hdd,harr]
      | _=>rfl
    | false =>
    cases hib:ZpO o hints with
    | true =>
     have hops:o.op.operands.toList=f::cl.args.toList:=by simp[hop,Op.operands,Call.operands,hcal]
     have hargs:cl.args.toList.map (Z1m G (ev tmps'))=cl.args.toList.map (Z1m G (ev tmps)):=List.map_congr_left fun x hx=>hstrip G x (by rw[hops];exact List.mem_cons_of_mem _ hx);have hfe:=hstrip G f (by rw[hops];simp);have hbl:∀ b∈borL hints o,H b=H' b:=fun b hb=>hH b (List.mem_append.2 (.inl (List.mem_append.2 (.inr hb))));simp only[Z9C];cases hd:o.dst with
     | none=>rfl
     | some d =>
      simp only;rw[hfe,hargs,Z3q (G:=G) (l:=f::cl.args.toList) (R:=ev tmps') (R':=ev tmps) (by rw[← hops];exact hev)];cases hl:look d hints with
      | nil=>rfl
      | cons hh r =>
       cases hh with
       | bor ls res post =>
        simp only;have hpre:preB (fun b=>idxN b ls 0) H' ls=preB (fun b=>idxN b ls 0) H ls:=by
         refine(ZdH fun b hb=>?_).symm;exact hbl b (by simp only[borL,hd,hl];exact hb)
        rw[hpre];cases post with
        | nil=>rfl
        | cons B0 post0 =>
        generalize hpost:B0::post0=post;simp only[← hpost];rw[hpost];rcases Bool.eq_false_or_eq_true (Nat.ble (post.length-ls.length) 7)with h7 | h7
        ·have hno:Z4a H' (nids d clk 0 (post.length-ls.length))=Z4a H (nids d clk 0 (post.length-ls.length)):=by
          refine(Z7F fun b hb=>hown b ?_).symm;obtain⟨i,hi⟩:=List.getElem?_of_mem hb;have hil:i<post.length-ls.length:=by
           have:=(List.getElem?_eq_some_iff.1 hi).1;rwa [ZbL]at this
          rw[ZfH _ _ _ _ _ hil]at hi;have h7:=Nat.le_of_ble_eq_true h7;simp only[Z4R,hd,List.mem_cons,List.mem_map,List.mem_range];exact .inr ⟨0+i,by omega,by simpa using hi⟩
         rw[hno]
        ·rw[h7];simp only[Bool.and_false,Bool.false_and]
       | _=>rfl
    | false =>
    have hops:o.op.operands.toList=f::cl.args.toList:=by simp[hop,Op.operands,Call.operands,hcal]
    have hargs:cl.args.toList.map (Z1m G (ev tmps'))=cl.args.toList.map (Z1m G (ev tmps)):=List.map_congr_left fun x hx=>hstrip G x (by rw[hops];exact List.mem_cons_of_mem _ hx);have hfe:=hstrip G f (by rw[hops];simp);simp only[Z72];cases hd:o.dst with
    | none=>rfl
    | some d =>
     simp only;rw[hfe,hargs,Z3q (G:=G) (l:=f::cl.args.toList) (R:=ev tmps') (R':=ev tmps) (by rw[← hops];exact hev)];cases hfv:Z1m G (ev tmps) f with
     | fn k caps =>
      simp only;cases hl:look d hints with
      | nil=>rfl
      | cons hh r =>
       cases hh with
       | call fr res news =>
        simp only;have hdd:toDD H' (cl.args.toList.map (Z1m G (ev tmps))++caps)=toDD H (cl.args.toList.map (Z1m G (ev tmps))++caps):=by
         refine(Z9s fun x hx b hb=>?_).symm;rcases List.mem_append.1 hx with hx | hx
         ·obtain⟨y,hy,rfl⟩:=List.mem_map.1 hx;exact hfoot G y (by rw[hops];exact List.mem_cons_of_mem _ hy) b (ZpV hb)
         ·refine hfoot G f (by rw[hops];simp) b ?_;rw[hfv];exact List.mem_flatMap.2 ⟨x,hx,hb⟩
        have hnews:Z5a d clk 0 news H'=Z5a d clk 0 news H:=by
         have hlen:=hn d hd fr res news r hl;refine(Z9P fun i _ hi=>?_).symm;refine hown _ ?_;simp only[Z4R,hd,List.mem_cons,List.mem_map,List.mem_range];exact .inr ⟨i,by omega,rfl⟩
        rw[hdd,hnews]
       | _=>rfl
     | _=>rfl
   | builtin b =>
    cases b with
    | append =>
     cases G with
     | some g=>rfl
     | none =>
      simp only[Z4m];cases hd:o.dst with
      | none=>rfl
      | some d =>
       simp only;split
       ·rename_i x y t t' h1 h2;have hxm:x∈o.op.operands.toList:=by simp[hop,Op.operands,Call.operands,hcal,h1]
        have hym:y∈o.op.operands.toList:=by simp[hop,Op.operands,Call.operands,hcal,h1]
        rw[← hown (clk*8000+d) (by simp[Z4R,hd]),hev x hxm,hev y hym];have e:=Z9Y (P:=P) (t:=t) (t':=t') (id:=clk*8000+d) (hs:=look d hints) (hfoot none x hxm) (hfoot none y hym);simp only[Z1m]at e;rw[e]
       ·rfl
    | _=>exact hplain G
   | invoke r m=>exact hplain G
  | _=>exact hplain G
theorem Z3d{us:List (Nat×Blk)}{H:Heap}{b:Nat}(h:b∉us.map (·.1)):applyU us H b=H b:=by
 induction us generalizing H with
 | nil=>rfl
 | cons u us ih =>
  obtain⟨k,B⟩:=u;simp only[List.map_cons,List.mem_cons,not_or]at h;simp only[applyU];rw[ih h.2];unfold updH;rw[if_neg h.1]
theorem Z7K{us:List (Nat×Blk)}{H H':Heap}{b:Nat}(h:b∈us.map (·.1)∨H b=H' b):applyU us H b=applyU us H' b:=by
 induction us generalizing H H' with
 | nil =>
  rcases h with h | h
  ·simp at h
  ·exact h
 | cons u us ih =>
  obtain⟨k,B⟩:=u;simp only[applyU];refine ih ?_;by_cases hb:b=k
  ·right;unfold updH;simp[hb]
  ·rcases h with h | h
   ·simp only[List.map_cons,List.mem_cons]at h;exact .inl (h.resolve_left hb)
   ·right;unfold updH;simp[hb,h]
theorem ZeX{us vs:List (Nat×Blk)}{H:Heap}(h:∀ b,b∈us.map (·.1)→b∉vs.map (·.1)):applyU us (applyU vs H)=applyU vs (applyU us H):=by
 funext b
 by_cases h1:b∈us.map (·.1)
 ·rw[Z3d (h b h1)];exact Z7K (.inl h1)
 ·rw[Z3d h1];by_cases h2:b∈vs.map (·.1)
  ·exact Z7K (.inl h2)
  ·rw[Z3d h2,Z3d h2,Z3d h1]
structure Rec where
 i:Nat
 rs:List Nat
 c:Core
def Core.slot(c:Core)(tmps:List AV):List AV:=match c.sl with | some (d,v)=>tmps.set d v | none=>tmps
section
variable (P:Program) (clk:Nat) (ops:Array Oper) (hints:List (Nat×List Hint))
def ZdL:List Rec→List AV→Heap→Prop
 | [],_,_=>True
 | r::l,t,H=>∃ o,ops[r.i]? = some o∧Z2F P clk ops hints o t H=some r.c∧r.rs=Zhv hints t o∧ZdL l (r.c.slot t) (applyU r.c.ups H)
end
def ZbV:List Rec→List AV→List AV
 | [],t=>t
 | r::l,t=>ZbV l (r.c.slot t)
def Zbu:List Rec→Heap→Heap
 | [],H=>H
 | r::l,H=>Zbu l (applyU r.c.ups H)
structure Apart (clk:Nat) (ops:Array Oper) (y x:Rec):Prop where
 slots:∀ oy ox,ops[y.i]? = some oy→ops[x.i]? = some ox→(∀ d,oy.dst=some d→d∉Z3L ops ox∧ox.dst≠some d)∧(∀ d,ox.dst=some d→d∉Z3L ops oy)
 heapY:∀ ox,ops[x.i]? = some ox→∀ b∈y.c.ups.map (·.1),b∉x.rs∧b∉Z4R clk ox∧b∉x.c.ups.map (·.1)
 heapX:∀ oy,ops[y.i]? = some oy→∀ b∈x.c.ups.map (·.1),b∉y.rs∧b∉Z4R clk oy
section
variable {P:Program} {clk:Nat} {ops:Array Oper} {hints:List (Nat×List Hint)}
theorem ZfS{o:Oper}{t:List AV}{H:Heap}{c:Core}(h:Z2F P clk ops hints o t H=some c):∀ d v,c.sl=some (d,v)→o.dst=some d:=by
 intro d v hc;unfold Z2F at h;split at h
 ·cases h
 rename_i G hG;have plain:Z2z P clk hints o G t H=some c→o.dst=some d:=by
  intro h;unfold Z2z at h;split at h
  ·rename_i d' hd;split at h
   ·cases h
   split at h;rotate_left
   ·cases h
   split at h
   ·cases h
   ·cases h;cases hc;exact hd
  ·split at h
   ·cases h
   split at h
   ·cases h
   split at h
   ·cases h;cases hc
   ·cases h
 split at h
 ·unfold Z75 at h;split at h
  ·cases h
  rename_i d' hd;split at h
  ·cases h
  split at h
  ·split at h
   ·cases h;cases hc;exact hd
   ·cases h
  ·split at h
   ·split at h
    ·cases h;cases hc;exact hd
    ·cases h
   ·cases h
 ·split at h
  ·split at h
   ·unfold Z6G at h;split at h
    ·cases h
    split at h
    ·cases h
    rename_i d' hd;split at h;rotate_left
    ·cases h
    split at h;rotate_left
    ·cases h
    split at h;rotate_left
    ·cases h
    split at h
    ·cases h;cases hc;exact hd
    ·cases h
   split at h
   ·unfold Z9C at h;split at h
    ·cases h
    rename_i d' hd;split at h
    ·split at h
     ·cases h;cases hc;exact hd
     ·cases h
    ·split at h;rotate_left
     ·cases h
     split at h;rotate_left
     ·cases h
     split at h;rotate_left
     ·cases h
     split at h
     ·split at h
      ·cases h;cases hc;exact hd
      ·cases h
     ·split at h
      ·cases h;cases hc;exact hd
      ·cases h
   unfold Z72 at h;split at h
   ·cases h
   rename_i d' hd;split at h;rotate_left
   ·cases h
   split at h;rotate_left
   ·cases h
   split at h;rotate_left
   ·cases h
   split at h;rotate_left
   ·cases h
   split at h
   ·cases h
   ·cases h;cases hc;exact hd
  ·split at h
   ·unfold Z4m at h;split at h
    ·cases h
    rename_i d' hd;split at h;rotate_left
    ·cases h
    split at h
    ·cases h
    split at h
    ·cases h;cases hc;exact hd
    ·cases h
   ·cases h
  ·exact plain h
 ·exact plain h
def Zbc(ops:Array Oper)(hints:List (Nat×List Hint)):Prop:=∀ (i:Nat) (o:Oper),ops[i]? = some o→∀ d,o.dst=some d→∀ fr res news r,look d hints = .call fr res news::r→news.length≤7
theorem Zg0{c:Core}{t:List AV}{k:Nat}(h:∀ d v,c.sl=some (d,v)→d≠k):(c.slot t).getD k .any=t.getD k .any:=by
 unfold Core.slot;cases hs:c.sl with
 | none=>rfl
 | some p =>
  obtain⟨d,v⟩:=p;have:=h d v hs;simp only[List.getD];rw[List.getElem?_set];rw[if_neg this]
theorem Z8Y{t t':List AV}{o:Oper}(h:∀ k∈Z3L ops o,t.getD k .any=t'.getD k .any):Zhv hints t o=Zhv hints t' o:=by
 unfold Zhv;congr 1;by_cases hm:∃ x,o.op = .move x
 ·obtain⟨x,hx⟩:=hm;simp only[ZkD,hx]
 rw[Zcf t (fun x hx=>hm ⟨x,hx⟩),Zcf t' (fun x hx=>hm ⟨x,hx⟩)];clear hm;have:∀ x∈o.op.operands.toList,idV (ev t x)=idV (ev t' x):=by
  intro x hx;cases x with
  | tmp k=>simp only[ev];rw[h k (by simp only[Z3L,List.mem_append,List.mem_flatMap];exact .inl ⟨_,hx,by simp[Zj8]⟩)]
  | _=>rfl
 revert this;generalize o.op.operands.toList=l;intro this;induction l with
 | nil=>rfl
 | cons x l ih=>rw[List.flatMap_cons,List.flatMap_cons,this x pq,ih (fun y hy=>this y (by simp[hy]))]
theorem swap{y x:Rec}{l:List Rec}{t:List AV}{H:Heap}(hnf:Zbc ops hints)(ha:Apart clk ops y x)(h:ZdL P clk ops hints (y::x::l) t H) :
  ZdL P clk ops hints (x::y::l) t H∧x.c.slot (y.c.slot t)=y.c.slot (x.c.slot t)∧applyU x.c.ups (applyU y.c.ups H)=applyU y.c.ups (applyU x.c.ups H):=by
 obtain⟨oy,hy1,hy2,hy3,ox,hx1,hx2,hx3,hl⟩:=h;obtain⟨s1,s2⟩:=ha.slots oy ox hy1 hx1;have dy:=ZfS hy2;have dx:=ZfS hx2;have hkeys:=ha.heapY ox hx1;have hkeyx:=ha.heapX oy hy1;have tx:∀ k∈Z3L ops ox,(y.c.slot t).getD k .any=t.getD k .any:=fun k hk=>Zg0 fun d v hd=>by
  have:=(s1 d (dy d v hd)).1;rintro rfl;exact this hk
 have fx:=Z8Y (hints:=hints) (o:=ox) tx;have hx2':Z2F P clk ops hints ox t H=some x.c:=by
  refine Z61 tx (fun b hb=>?_) (fun d hd fr res news r hl=>hnf x.i ox hx1 d hd fr res news r hl) hx2;refine Z3d fun hbu=>?_;obtain⟨q1,q2,_⟩:=hkeys b hbu;rcases List.mem_append.1 hb with hb | hb
  ·exact q1 (by rw[hx3];exact hb)
  ·exact q2 hb
 have ty:∀ k∈Z3L ops oy,t.getD k .any=(x.c.slot t).getD k .any:=fun k hk=>(Zg0 fun d v hd=>by
  have:=s2 d (dx d v hd);rintro rfl;exact this hk).symm
 have fy:=Z8Y (hints:=hints) (o:=oy) ty;have hy2':Z2F P clk ops hints oy (x.c.slot t) (applyU x.c.ups H)=some y.c:=by
  refine Z61 ty (fun b hb=>?_) (fun d hd fr res news r hl=>hnf y.i oy hy1 d hd fr res news r hl) hy2;refine(Z3d fun hbu=>?_).symm;obtain⟨q1,q2⟩:=hkeyx b hbu;rcases List.mem_append.1 hb with hb | hb
  ·exact q1 (by rw[hy3];exact hb)
  ·exact q2 hb
 have es:x.c.slot (y.c.slot t)=y.c.slot (x.c.slot t):=by
  unfold Core.slot;cases hsx:x.c.sl with
  | none=>cases hsy:y.c.sl<;>rfl
  | some p =>
   obtain⟨d,v⟩:=p;cases hsy:y.c.sl with
   | none=>rfl
   | some q =>
    obtain⟨d',v'⟩:=q;have h1:=dx d v hsx;have h2:=dy d' v' hsy;have:=(s1 d' h2).2;rw[h1]at this;have hne:d≠d':=fun e=>this (by rw[e]);simp only;exact List.set_comm _ _ oq
 have eh:applyU x.c.ups (applyU y.c.ups H)=applyU y.c.ups (applyU x.c.ups H):=(ZeX fun b hb hbx=>(hkeys b hb).2.2 hbx).symm;refine⟨⟨ox,hx1,hx2',by rw[hx3,fx],oy,hy1,hy2',by rw[hy3,fy], ?_⟩,es,eh⟩;rw[← es,← eh];exact hl
theorem ZhQ(hnf:Zbc ops hints):∀ {r1:List Rec} {x:Rec} {r2:List Rec} {t:List AV} {H:Heap},(∀ y∈r1,Apart clk ops y x)→ZdL P clk ops hints (r1++x::r2) t H →
  ZdL P clk ops hints (x::(r1++r2)) t H∧ZbV (r1++x::r2) t=ZbV (x::(r1++r2)) t∧Zbu (r1++x::r2) H=Zbu (x::(r1++r2)) H
 | [],x,r2,t,H,_,h=>⟨h,rfl,rfl⟩
 | y::r1,x,r2,t,H,ha,h=>by
  obtain⟨oy,hy1,hy2,hy3,hl⟩:=h;obtain⟨k1,k2,k3⟩:=ZhQ hnf (fun z hz=>ha z (by simp[hz])) hl;have hc:ZdL P clk ops hints (y::x::(r1++r2)) t H:=⟨oy,hy1,hy2,hy3,k1⟩
  obtain⟨m1,m2,m3⟩:=swap hnf (ha y pq) hc;refine⟨m1, ?_, ?_⟩
  ·show ZbV (r1++x::r2) (y.c.slot t)=ZbV (y::(r1++r2)) (x.c.slot t);rw[k2];show ZbV (r1++r2) (x.c.slot (y.c.slot t))=ZbV (r1++r2) (y.c.slot (x.c.slot t));rw[m2]
  ·show Zbu (r1++x::r2) (applyU y.c.ups H)=Zbu (y::(r1++r2)) (applyU x.c.ups H);rw[k3];show Zbu (r1++r2) (applyU x.c.ups (applyU y.c.ups H))=Zbu (r1++r2) (applyU y.c.ups (applyU x.c.ups H));rw[m3]
inductive Sched (clk:Nat) (ops:Array Oper):List Nat→List Rec→Prop
 | nil:Sched clk ops [] []
 | cons {i:Nat} {l:List Nat} {r1 r2:List Rec} {x:Rec} (hi:x.i=i) (ha:∀ y∈r1,Apart clk ops y x) (h:Sched clk ops l (r1++r2)):Sched clk ops (i::l) (r1++x::r2)
theorem Zky(hnf:Zbc ops hints){Ow:Own}{Im0:Nat→Prop}{w0:World}{Q:Exit→Act→World→Prop}:∀ {l:List Nat} {recs:List Rec},Sched clk ops l recs→∀ {t:List AV} {H:Heap} {a:Act} {w:World},ZdL P clk ops hints recs t H →
  Sys Ow Im0 w0 t H clk a w→(∀ r∈recs,allP r.c.ph∧EqP r.c.eq)→(∀ a' w',Sys Ow Im0 w0 (ZbV recs t) (Zbu recs H) clk a' w'→Q .normal a' w')→wpOps P ops Q l a w:=by
 intro l recs hs;induction hs with
 | nil=>intro t H a w _ hS _ hQ;exact hQ a w hS
 | cons hi ha hrest ih =>
  rename_i i l r1 r2 x;intro t H a w hc hS hp hQ;obtain⟨k1,k2,k3⟩:=ZhQ hnf ha hc;obtain⟨o,ho,hstep,_,hl⟩:=k1;rw[hi]at ho;have hop:Z9c P clk ops hints o t H=some (x.c.out t H):=by unfold Z9c;rw[hstep]
  have hx:=hp x pq;have key:=Z8y (next:=wpOps P ops Q l) (Q:=Q) hop hS hx.1 hx.2 fun a' w' hS'=>ih (t:=x.c.slot t) (H:=applyU x.c.ups H) hl hS' (fun r hr=>hp r (by
   rcases List.mem_append.1 hr with h | h
   ·simp[h]
   ·simp[h])) (fun a'' w'' hS''=>hQ a'' w'' (by rw[k2,k3];exact hS''))
  simp only[wpOps,ho];split
  ·exact .inl (key.1 aa)
  ·rename_i hw;exact key.2 ((Bool.not_eq_true _).mp hw)
end
end Go.Sx
namespace Go.Sx
open Go.Region
def Z3l(acc:List Nat):List Edge→Nat
 | []=>0
 | e::l=>if binds .any e then Z3l acc l ||| 2^e.on ||| acc.getD e.on 0 else Z3l acc l
theorem Z4t{acc:List Nat}{y:Nat}:∀ {l:List Edge},(Z3l acc l).testBit y=true→∃ e∈l,binds .any e=true∧(e.on=y∨(acc.getD e.on 0).testBit y=true)
 | [],h=>by simp[Z3l]at h
 | e::l,h=>by
  simp only[Z3l]at h;split at h
  ·rename_i hb;rw[Nat.testBit_or,Nat.testBit_or,Bool.or_eq_true,Bool.or_eq_true]at h;rcases h with(h | h) | h
   ·obtain⟨e',h1,h2⟩:=Z4t h;exact⟨e',by simp[h1],h2⟩
   ·rw[Nat.testBit_two_pow]at h;exact⟨e,by simp,hb,.inl (by simpa using h)⟩
   ·exact⟨e,by simp,hb,.inr h⟩
  ·obtain⟨e',h1,h2⟩:=Z4t h;exact⟨e',by simp[h1],h2⟩
def Zdn:List Oper→List Nat→List Nat
 | [],acc=>acc
 | o::l,acc=>Zdn l (acc++[Z3l acc o.after.toList])
theorem Z5f:∀ {l:List Oper} {acc:List Nat} {k:Nat},k<acc.length→(Zdn l acc).getD k 0=acc.getD k 0
 | [],acc,k,h=>rfl
 | o::l,acc,k,h=>by
  simp only[Zdn];rw[Z5f qo];simp[List.getD,List.getElem?_append_left h]
theorem Zai:∀ {l:List Oper} {acc:List Nat} {i y:Nat},acc.length≤i→((Zdn l acc).getD i 0).testBit y=true→∃ o,l[i-acc.length]? = some o∧∃ e∈o.after.toList,binds .any e=true∧(e.on=y∨((Zdn l acc).getD e.on 0).testBit y=true)
 | [],acc,i,y,hi,h=>by
  simp only[Zdn]at h;rw[show acc.getD i 0=0 from by simp[List.getD,List.getElem?_eq_none hi]]at h;simp at h
 | o::l,acc,i,y,hi,h=>by
  simp only[Zdn]at h ⊢;by_cases he:i=acc.length
  ·subst he;rw[Z5f pq]at h;rw[show(acc++[Z3l acc o.after.toList]).getD acc.length 0=Z3l acc o.after.toList from by simp[List.getD]]at h;obtain⟨e,h1,h2,h3⟩:=Z4t h;refine⟨o,by simp,e,h1,h2,h3.imp (fun h=>h) fun h=>?_⟩;by_cases hlt:e.on<acc.length
   ·rw[Z5f qo];rw[show(acc++[Z3l acc o.after.toList]).getD e.on 0=acc.getD e.on 0 from by simp[List.getD,List.getElem?_append_left hlt]];exact h
   ·rw[show acc.getD e.on 0=0 from by simp[List.getD,List.getElem?_eq_none (Nat.le_of_not_lt hlt)]]at h;simp at h
  ·obtain⟨o',h1,h2⟩:=Zai (l:=l) (acc:=acc++[Z3l acc o.after.toList]) (i:=i) (y:=y) qo h;refine⟨o', ?_,h2⟩;simp only[List.length_append,List.length_cons,List.length_nil]at h1;rw[show i-acc.length=(i-(acc.length+(0+1)))+1 from by omega];simpa using h1
def bitsOf(ops:Array Oper):List Nat:=Zdn ops.toList []
def Z7z(bt:List Nat)(y x:Nat):Bool:=(bt.getD x 0).testBit y
theorem Zdg{ops:Array Oper}{i y:Nat}(h:Z7z (bitsOf ops) y i=true):∃ o,ops[i]? = some o∧∃ e∈o.after.toList,binds .any e=true∧(e.on=y∨Z7z (bitsOf ops) y e.on=true):=by
 obtain⟨o,h1,h2⟩:=Zai (l:=ops.toList) (acc:=[]) pq h;exact⟨o,by simpa using h1,h2⟩
def Zco(n:Nat):List Oper→Bool
 | []=>true
 | o::l=>o.after.toList.all (fun e=>!(binds .any e)||decide (e.on<n))&&Zco (n+1) l
theorem Z65:∀ {l:List Oper} {n:Nat},Zco n l=true→∀ (i:Nat) (o:Oper),l[i]? = some o→∀ e∈o.after.toList,binds .any e=true→e.on<n+i
 | [],n,_,i,o,h=>by simp at h
 | o0::l,n,h,i,o,hi=>by
  simp only[Zco,Bool.and_eq_true,List.all_eq_true]at h;intro e he hb;cases i with
  | zero =>
   simp at hi;subst hi;have:=h.1 e he;simpa[hb]using this
  | succ i =>
   have:=Z65 h.2 i o (by simpa using hi) e he hb;omega
section
variable {clk:Nat} {ops:Array Oper}
def PairsOk(clk:Nat)(ops:Array Oper):List Rec→Prop
 | []=>True
 | y::l=>(∀ x∈l,Z7z (bitsOf ops) y.i x.i=true∨Apart clk ops y x)∧PairsOk clk ops l
theorem PairsOk.mid:∀ {r1:List Rec} {x:Rec} {r2:List Rec},PairsOk clk ops (r1++x::r2)→∀ y∈r1,Z7z (bitsOf ops) y.i x.i=true∨Apart clk ops y x
 | [],_,_,_,y,hy=>by simp at hy
 | z::r1,x,r2,h,y,hy=>by
  rcases List.mem_cons.1 hy with e | e
  ·rw[e];exact h.1 x pq
  ·exact PairsOk.mid h.2 y e
theorem PairsOk.drop:∀ {r1:List Rec} {x:Rec} {r2:List Rec},PairsOk clk ops (r1++x::r2)→PairsOk clk ops (r1++r2)
 | [],_,_,h=>h.2
 | z::r1,x,r2,h=>⟨fun y hy=>h.1 y (by
   rcases List.mem_append.1 hy with h | h
   ·exact List.mem_append.2 (.inl h)
   ·exact List.mem_append.2 (.inr (List.mem_cons_of_mem _ h))),PairsOk.drop h.2⟩
theorem ZdM{a:Nat}:∀ {l1 l2:List Nat},(l1++a::l2).Nodup→a∉l1++l2∧(l1++l2).Nodup:=by
 intro l1 l2 h;have:=(List.perm_middle (a:=a) (l₁:=l1) (l₂:=l2)).nodup_iff.1 h;exact List.nodup_cons.1 this
theorem ZiZ{p:Nat→Prop}:(∃ n,p n)→∃ n,p n∧∀ m,p m→n≤m:=by
 intro⟨n,hn⟩;induction n using Nat.strongRecOn with
 | ind n ih =>
  by_cases h:∃ m,m<n∧p m
  ·obtain⟨m,h1,h2⟩:=h;exact ih m h1 h2
  ·refine⟨n,hn,fun m hm=>?_⟩;by_cases hlt:m<n
   ·exact absurd ⟨m,hlt,hm⟩ h
   ·omega
theorem ZlJ(hback:Zco 0 ops.toList=true):∀ (fuel t:Nat) (listed:Array Bool) (acc:List Nat) (recs:List Rec),recs.length=fuel→listed.size=ops.size →
  (∀ i,i<ops.size→(listed.getD i true=false↔i∈recs.map (·.i)))→(∀ r∈recs,r.i<ops.size)→(recs.map (·.i)).Nodup→PairsOk clk ops recs →
  (∀ j,j<ops.size→listed.getD j true=true→∀ y,Z7z (bitsOf ops) y j=true→y∉recs.map (·.i)) →
  ∃ l,linearise.go .any ops fuel t listed acc=acc.reverse++l∧Sched clk ops l recs:=by
 intro fuel;induction fuel with
 | zero =>
  intro t listed acc recs hn _ _ _ _ _ _;have:recs=[]:=List.length_eq_zero_iff.1 hn;subst this;exact⟨[],by simp[linearise.go],.nil⟩
 | succ fuel ih =>
  intro t listed acc recs hn hls hl hlt hnd hp hclos;simp only[linearise.go];generalize hrs:(List.range ops.size).filter (fun i=>!listed.getD i true&&((ops[i]?).map (·.after.all fun e=>!binds .any e||listed.getD e.on false)).getD false)=rs;have hne:rs≠[]:=by
   have hpos:recs.map (·.i)≠[]:=by
    intro h;have h2:recs=[]:=by simpa using h
    rw[h2]at hn;simp at hn
   obtain⟨m,hm1,hm2⟩:=ZiZ (p:=fun i=>i∈recs.map (·.i)) (List.exists_mem_of_ne_nil _ hpos);have hmlt:m<ops.size:=by obtain⟨r,hr,rfl⟩:=List.mem_map.1 hm1;exact hlt r hr
   intro hempty;have:m∈rs:=by
    rw[← hrs,List.mem_filter];refine⟨List.mem_range.2 hmlt, ?_⟩;have h1:=(hl m hmlt).2 hm1;rw[h1,Array.getElem?_eq_getElem hmlt];simp only[Bool.not_false,Bool.true_and,Option.map_some,Option.getD_some];rw[Array.all_eq_true_iff_forall_mem];intro e he;cases hb:binds .any e with
    | false=>rfl
    | true =>
     simp only[Bool.not_true,Bool.false_or];have hon:=Z65 hback m ops[m] (by simp[hmlt]) e (by simpa using he) hb;have honlt:e.on<ops.size:=by omega
     have hnot:e.on∉recs.map (·.i):=fun h=>by have:=hm2 e.on h;omega
     have:¬ listed.getD e.on true=false:=fun h=>hnot ((hl e.on honlt).1 h);have hs:e.on<listed.size:=by omega
     simp only[Array.getD,hs,dite_true]at this ⊢;simpa using this
   rw[hempty]at this;simp at this
  have hidx:t%rs.length<rs.length:=Nat.mod_lt _ (List.length_pos_iff.2 hne);rw[List.getElem?_eq_getElem hidx];simp only;generalize hi:rs[t%rs.length]=i;have hirs:i∈rs:=by rw[← hi];exact List.getElem_mem hidx
  rw[← hrs,List.mem_filter]at hirs;obtain⟨hir,hic⟩:=hirs;have hilt:=List.mem_range.1 hir;simp only[Bool.and_eq_true,Bool.not_eq_true']at hic;obtain⟨hi1,hi2⟩:=hic;have himem:=(hl i hilt).1 hi1;obtain⟨x,hx,hxi⟩:=List.mem_map.1 himem;obtain⟨r1,r2,rfl⟩:=List.append_of_mem hx;rw[Array.getElem?_eq_getElem hilt]at hi2;simp only[Option.map_some,Option.getD_some]at hi2;rw[Array.all_eq_true_iff_forall_mem]at hi2;have hfree:∀ y,Z7z (bitsOf ops) y i=true→y∉(r1++x::r2).map (·.i):=by
   intro y hy;obtain⟨o,ho,e,he,hb,hor⟩:=Zdg hy;rw[Array.getElem?_eq_getElem hilt]at ho;cases ho;have hel:=hi2 e (by simpa using he);rw[hb]at hel;simp only[Bool.not_true,Bool.false_or]at hel;have honlt:e.on<ops.size:=by
    have:=Z65 hback i ops[i] (by simp[hilt]) e he hb;omega
   have hlisted:listed.getD e.on true=true:=by
    have hs:e.on<listed.size:=by omega
    simp only[Array.getD,hs,dite_true]at hel ⊢;exact hel
   rcases hor with rfl | hor
   ·intro h;rw[(hl e.on honlt).2 h]at hlisted;cases hlisted
   ·exact hclos e.on honlt hlisted y hor
  have hapart:∀ y∈r1,Apart clk ops y x:=by
   intro y hy;rcases hp.mid y hy with h | h
   ·exfalso;rw[hxi]at h;exact hfree y.i h (List.mem_map.2 ⟨y,by simp[hy],rfl⟩)
   ·exact h
  have hndm:i∉(r1++r2).map (·.i):=by
   rw[← hxi];simp only[List.map_append,List.map_cons]at hnd ⊢;exact(ZdM hnd).1
  have hnd2:((r1++r2).map (·.i)).Nodup:=by
   simp only[List.map_append,List.map_cons]at hnd ⊢;exact(ZdM hnd).2
  have hls2:(listed.setIfInBounds i true).size=ops.size:=by simp[hls]
  have hget:∀ j d,(listed.setIfInBounds i true).getD j d=if j=i then(if i<listed.size then true else d)else listed.getD j d:=by
   intro j d;simp only[Array.getD_eq_getD_getElem?,Array.getElem?_setIfInBounds];by_cases hji:i=j
   ·subst hji;simp only[if_true];split<;>rfl
   ·simp only[hji,if_false];rw[if_neg (fun h=>hji h.symm)]
  obtain⟨l,h1,h2⟩:=ih (t/rs.length) (listed.setIfInBounds i true) (i::acc) (r1++r2) (by simp at hn ⊢;omega) hls2 (fun j hj=>by
    rw[hget];by_cases hji:j=i
    ·subst hji;simp only[if_true,hls,hj];exact⟨(fun h=>nomatch h),fun h=>absurd h hndm⟩
    ·simp only[hji,if_false];rw[hl j hj];simp only[List.map_append,List.map_cons,List.mem_append,List.mem_cons,hxi,hji,false_or]) (fun r hr=>hlt r (by
    rcases List.mem_append.1 hr with h | h
    ·simp[h]
    ·simp[h])) hnd2 hp.drop (fun j hj hjl y hy=>by
    have hsub:y∉(r1++x::r2).map (·.i)→y∉(r1++r2).map (·.i):=fun h h'=>h (by
     simp only[List.map_append,List.map_cons,List.mem_append,List.mem_cons]at h' ⊢;rcases h' with h' | h'
     ·exact .inl h'
     ·exact .inr (.inr h'))
    rw[hget]at hjl;by_cases hji:j=i
    ·subst hji;exact hsub (hfree y hy)
    ·simp only[hji,if_false]at hjl;exact hsub (hclos j hj hjl y hy))
  refine⟨i::l, ?_,.cons hxi hapart h2⟩;rw[h1];simp
end
end Go.Sx
