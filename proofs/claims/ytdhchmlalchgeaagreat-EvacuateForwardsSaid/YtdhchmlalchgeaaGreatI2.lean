/-
 The statement EvacuateForwards: part 2.
 Conditions: none.
-/
import Derived.Laws.Small
import Derived.Test.YtdhchmlalchgeaaGreatI1
set_option maxRecDepth 100000
set_option maxHeartbeats 2000000
set_option linter.all false
namespace Go.Sx
def Z8E(P:Program)(t f:Nat):Option Field:=match P.underlying t with | some (.struct fs)=>fs[f]? | _=>none
def Z4U(P:Program)(t f:Nat)(x:AV):Option Res :=
 match Z8E P t f with
 | some fd=>match szOf P fd.type with
  | 0=>none
  | _+1=>match x with
   | .pt b i o=>some ⟨.pt b i (o+fd.offset),none,[]⟩
   | .rp e o=>some ⟨.rp e (o+fd.offset),none,[]⟩
   | _=>none
 | none=>none
theorem Z98{P:Program}{w:World}{t f:Nat}{fd:Field}{n:Nat}(h:Z8E P t f=some fd)(hz:szOf P fd.type=n+1)(g o:Nat) :
  (Instr.fieldAt t (.pointer (some ⟨g,o,none⟩)) f).run P w = .ok (.pointer (some ⟨g,o+fd.offset,none⟩)) w:=by
 unfold Z8E at h;split at h
 ·rename_i fs hu;have hs:=Z3B hz pq w;simp[Instr.fieldAt,run_underlying hu,h,Instr.sureAddr,fieldPlace,hs,Addr.add_lit]
 ·cases h
theorem Z8y{P:Program}{o:Oper}{id:Nat}{E:Operand→AV}{H:Heap}{r:Res}{x:Operand}{t f:Nat}
  (ho:o.op = .fieldAddr t x f) (h:Z4U P t f (E x)=some r):Z24 P o id E H r:=by
 intro Ow Im0 w0 ρ w Im clk a I _ _ hE _;have hx:=hE x;unfold Z4U at h;split at h;rotate_left
 ·cases h
 rename_i fd hfd;split at h
 ·cases h
 rename_i n hz;split at h
 ·rename_i b i oo hE';cases h;rw[hE']at hx;obtain⟨g,s,m,hρ,hv⟩:=Z2n hx;refine .inl ⟨.pointer (some ⟨g,i*s+oo+fd.offset,none⟩),w,by simp[execOp,ho,hv,Z98 hfd hz],.same I ?_⟩;have:=Rel.pt (w:=w) (Im:=Im) (i:=i) (o:=oo+fd.offset) hρ;rwa [← Nat.add_assoc]at this
 ·rename_i e oo hE';cases h;rw[hE']at hx;generalize hv:a.eval x=v at hx;cases hx with
  | rp hp him hc =>
   rename_i p;refine .inl ⟨.pointer (some ⟨p.block,p.off+oo+fd.offset,none⟩),w,by simp[execOp,ho,hv,Z98 hfd hz],.same I ?_⟩;have:=Rel.rp (ρ:=ρ) (o:=oo+fd.offset) hp him hc;rwa [← Nat.add_assoc]at this
 ·cases h
def ZaW(P:Program)(t f:Nat)(x:AV):Option Res :=
 match Z8E P t f with
 | some fd=>match x with
  | .ag l=>(Z9X P fd.type l fd.offset).map fun y=>⟨y,none,[]⟩
  | _=>none
 | none=>none
theorem ZkF{P:Program}{w:World}{t:Nat}{l:List AV}{cs:Array Value}{o:Nat}{x:AV}{ρ:Rho}{Im:Nat→Prop}(hn:cs.size=l.length)(hone:∀ (i:Nat) (u:Value),cs[i]? = some u→u.oneCell'=true)
  (hc:∀ (i:Nat) (a:AV) (u:Value),l[i]? = some a→cs[i]? = some u→Rel ρ w Im a u) (hx:Z9X P t l o=some x):∃ v,(part t cs o).run P w = .ok v w∧Rel ρ w Im x v:=by
 unfold Z9X at hx;split at hx
 ·rename_i hagg;split at hx
  ·rename_i hlen;cases hx;have hs:(sizeOf t).run P w = .ok (szOf P t) w:=by
    unfold Z6J at hagg;unfold szOf;cases hi:P.info? t with
    | none=>simp[Program.underlying,hi]at hagg
    | some i=>simp[sizeOf,typeInfo,hi]
   refine⟨.agg (cs.extract o (o+szOf P t)),by simp[part,Z53 hagg,hs],.ag _ _ ?_ ?_ ?_⟩
   ·have:(seg l o (szOf P t)).length=min (szOf P t) (l.length-o):=by simp[seg]
    simp;omega
   ·intro i u hu;rw[Array.getElem?_extract]at hu;split at hu
    ·exact hone _ u hu
    ·cases hu
   ·intro i a u ha hu;rw[Array.getElem?_extract]at hu;split at hu
    ·refine hc _ a u ?_ hu;simp only[seg]at ha;rw[List.getElem?_take]at ha;split at ha
     ·rwa [List.getElem?_drop]at ha
     ·cases ha
    ·cases hu
  ·cases hx
 ·rename_i hagg;have ho:o<cs.size:=by rw[hn];exact(List.getElem?_eq_some_iff.1 hx).1
  exact⟨cs[o],by simp[part,Z53 hagg,ho],hc o x _ hx (Array.getElem?_eq_getElem ho)⟩
 ·cases hx
theorem ZdZ{P:Program}{o:Oper}{id:Nat}{E:Operand→AV}{H:Heap}{r:Res}{x:Operand}{t f:Nat}
  (ho:o.op = .field t x f) (h:ZaW P t f (E x)=some r):Z24 P o id E H r:=by
 intro Ow Im0 w0 ρ w Im clk a I _ _ hE _;have hx:=hE x;unfold ZaW at h;split at h;rotate_left
 ·cases h
 rename_i fd hfd;split at h;rotate_left
 ·cases h
 rename_i l hE';simp only[Option.map_eq_some_iff]at h;obtain⟨y,hy,rfl⟩:=h;obtain⟨cs,hv,hn,hone,hc⟩:=Z2R (hE'▸hx);obtain⟨v,k1,k2⟩:=ZkF (P:=P) hn hone hc hy;unfold Z8E at hfd;split at hfd
 ·rename_i fs hu;exact .inl ⟨v,w,by simp[execOp,ho,hv,Instr.field,run_underlying hu,hfd,asAgg,k1],.same I k2⟩
 ·cases hfd
def Z1c(P:Program)(t:Nat):Option Nat:=match P.underlying t with | some (.slice e)=>some e | _=>none
def Zdy(P:Program)(t:Nat):Option (Nat×Nat):=match P.underlying t with | some (.array n e)=>some (n,e) | _=>none
def intH(hs:List Hint)(n:Int):Int×List Prop:=match hs with
 | .int m::_=>(m,[n=m])
 | _=>(n,[])
theorem ZoB{hs:List Hint}{n m:Int}{ps:List Prop}(h:intH hs n=(m,ps))(hp:allP ps):n=m:=by
 unfold intH at h;split at h
 ·cases h;exact hp
 ·cases h;rfl
def Z3O(P:Program)(t:Nat)(hs:List Hint)(x y:AV)(H:Heap):Option Res :=
 match y with
 | .d (.sc (.int _ n))=>match Z1c P t with
  | some e=>match x with
   | .d (.sl s els)=>if szOf P e=s∧s≠0 then
    match hs with
    | .el e::_=>some ⟨.rp e 0,none,[0≤n∧els[n.toNat]? = some e]⟩
    | _=>none
    else none
   | .ow b=>match H b with
    | some (.arr _ s els)=>if szOf P e=s∧s≠0 then some ⟨.pt b n.toNat 0,none,[0≤n∧n.toNat<els.length]⟩else none
    | _=>none
   | .os b o m=>match H b with
    | some (.arr _ s _)=>if szOf P e=s∧s≠0 then some ⟨.pt b (o+n.toNat) 0,none,[0≤n∧n.toNat<m]⟩else none
    | _=>none
   | _=>none
  | none=>match Zdy P t with
   | some (m,e)=>match x with
    | .pt b i o=>match intH hs n with
     | (.ofNat k,ps)=>if k<m∧szOf P e≠0 then some ⟨.pt b i (o+k*szOf P e),none,ps⟩else none
     | _=>none
    | _=>none
   | none=>none
 | _=>none
theorem Z3Q{P:Program}{w:World}{t e:Nat}{p:Addr}{len cap:Nat}{k:IntKind}{n:Int}(ht:Z1c P t=some e)(hz:szOf P e≠0)(h0:0≤n)(h1:n<len) :
  (Instr.indexAt t (.slice (some p) len cap) (.int k n)).run P w = .ok (.pointer (some (p.add (n.toNat*szOf P e)))) w:=by
 unfold Z1c at ht;split at ht
 ·rename_i e' hu;cases ht;have hs:=Z3B (P:=P) rfl hz w;simp[Instr.indexAt,run_underlying hu,asIntOf,h0,h1,hs]
 ·cases ht
theorem addr_add{p:Addr}(hp:p.spot=none)(n:Nat):p.add n=⟨p.block,p.off+n,none⟩:=by
 obtain⟨b,o,s⟩:=p;simp only at hp;subst hp;exact Addr.add_lit b o n
theorem Z93{P:Program}{o:Oper}{id:Nat}{E:Operand→AV}{H:Heap}{r:Res}{x y:Operand}{t:Nat}{hs:List Hint}
  (ho:o.op = .indexAddr t x y) (h:Z3O P t hs (E x) (E y) H=some r):Z24 P o id E H r:=by
 intro Ow Im0 w0 ρ w Im clk a I _ _ hE hph;have hx:=hE x;have hy:=hE y;unfold Z3O at h;split at h;rotate_left
 ·cases h
 rename_i k n hE2;rw[hE2]at hy;have hvy:=Z0L hy;split at h
 ·rename_i e he;split at h
  ·rename_i s els hE1;rw[hE1]at hx;split at h;rotate_left
   ·cases h
   rename_i hsz;split at h;rotate_left
   ·cases h
   rename_i e' _;cases h;obtain⟨p1,p2⟩:0≤n∧els[n.toNat]? = some e':=by simpa[allP]using hph
   generalize hv:a.eval x=v at hx;cases hx with
   | d hx =>
    cases hx with
    | slNil s a c=>simp at p2
    | sl s els p m c f hn hc hb hs hp him hcell hrel =>
     have hlt:n.toNat<els.length:=(List.getElem?_eq_some_iff.1 p2).1;refine .inl ⟨.pointer (some (p.add (n.toNat*szOf P e))),w,by simp[execOp,ho,hv,hvy,Z3Q he (by rw[hsz.1];exact hsz.2) p1 (show n<(m:Int)from by omega)],.same I ?_⟩;rw[addr_add hp,hsz.1];have:=Rel.rp (ρ:=ρ) (w:=w) (Im:=Im) (e:=e') (o:=0) (p:=⟨p.block,p.off+n.toNat*s,none⟩) rfl him (fun j d hj=>⟨f n.toNat j,by
      have:=hcell n.toNat e' j d p2 hj;rw[← Nat.add_assoc]at this;exact this,hrel n.toNat e' j d p2 hj⟩)
     simpa using this
  ·rename_i b hE1;rw[hE1]at hx;split at h;rotate_left
   ·cases h
   rename_i ty s els hb;split at h;rotate_left
   ·cases h
   rename_i hsz;cases h;obtain⟨p1,p2⟩:0≤n∧n.toNat<els.length:=by simpa[allP]using hph
   generalize hv:a.eval x=v at hx;cases hx with
   | ow hρ hc hbg ha =>
    rename_i c ad β;obtain⟨β',h1,h2⟩:=I.blk b _ hb;rw[hρ]at h1;cases h1;obtain⟨g1,g2,_,_,_⟩:=h2;rcases ha with ha | ⟨g,hg,rfl,hrow⟩
    ·omega
    ·refine .inl ⟨.pointer (some (Addr.add ⟨g,0,none⟩ (n.toNat*szOf P e))),w,by simp[execOp,ho,hv,hvy,Z3Q he (by rw[hsz.1];exact hsz.2) p1 (show n<(β.n:Int)from by omega)],.same I ?_⟩;rw[Addr.add_lit,hsz.1];obtain⟨bg,bs,bn⟩:=β;simp only at hg g1 g2;subst hg;subst g1;have:=Rel.pt (w:=w) (Im:=Im) (i:=n.toNat) (o:=0) hρ;simpa using this
  ·rename_i b oo m hE1;rw[hE1]at hx;split at h;rotate_left
   ·cases h
   rename_i ty s els hb;split at h;rotate_left
   ·cases h
   rename_i hsz;cases h;obtain⟨p1,p2⟩:0≤n∧n.toNat<m:=by simpa[allP]using hph
   generalize hv:a.eval x=v at hx;cases hx with
   | os hρ hn hc hbg ha =>
    rename_i c ad β;obtain⟨β',h1,h2⟩:=I.blk b _ hb;rw[hρ]at h1;cases h1;obtain⟨g1,g2,_,_,_⟩:=h2;rcases ha with ha | ⟨g,hg,rfl,hrow⟩
    ·omega
    ·refine .inl ⟨.pointer (some (Addr.add ⟨g,oo*β.s,none⟩ (n.toNat*szOf P e))),w,by simp[execOp,ho,hv,hvy,Z3Q he (by rw[hsz.1];exact hsz.2) p1 (show n<(m:Int)from by omega)],.same I ?_⟩;rw[Addr.add_lit,hsz.1];obtain⟨bg,bs,bn⟩:=β;simp only at hg g1 g2;subst hg;subst g1;have:=Rel.pt (w:=w) (Im:=Im) (i:=oo+n.toNat) (o:=0) hρ;rw[Nat.add_mul]at this;simpa using this
  ·cases h
 ·split at h;rotate_left
  ·cases h
  rename_i m e he;split at h;rotate_left
  ·cases h
  rename_i b i oo hE1;rw[hE1]at hx;split at h;rotate_left
  ·cases h
  rename_i k' ps' hk';split at h;rotate_left
  ·cases h
  rename_i hkm;cases h;have hnk:=ZoB hk' hph;subst hnk;obtain⟨g,s,mm,hρ,hv⟩:=Z2n hx;unfold Zdy at he;split at he
  ·rename_i m' e' hu;cases he;have hsr:=Z3B (P:=P) rfl hkm.2 w;refine .inl ⟨_,w, ?_,.same I (Rel.pt (i:=i) (o:=oo+k'*szOf P e) hρ)⟩;have e1:i*s+oo+k'*szOf P e=i*s+(oo+k'*szOf P e):=by omega
   have hk:(k':Int)<m:=by omega
   simp[execOp,ho,hv,hvy,Instr.indexAt,run_underlying hu,asIntOf,Instr.sureAddr,hsr,Addr.add_lit,e1,hkm.1]
  ·cases he
def Zg3(P:Program)(t:Nat)(hs:List Hint)(x:AV)(H:Heap):Option Res :=
 match Z1c P t with
 | some _=>match x with
  | .d (.sl _ els)=>some (numR .i64 els.length [] hs)
  | .ow b=>match H b with
   | some (.arr _ _ els)=>some (numR .i64 els.length [] hs)
   | _=>none
  | .os _ _ n=>some (numR .i64 n [] hs)
  | _=>none
 | none=>none
theorem Zj5{P:Program}{o:Oper}{id:Nat}{E:Operand→AV}{H:Heap}{r:Res}{x:Operand}{t:Nat}{hs:List Hint}
  (ho:o.op = .call ⟨.builtin .len,#[x],#[t]⟩) (h:Zg3 P t hs (E x) H=some r):Z24 P o id E H r:=by
 unfold Zg3 at h;split at h;rotate_left
 ·cases h
 rename_i e he;unfold Z1c at he;split at he;rotate_left
 ·cases he
 rename_i e' hu;have base:∀ (w:World) (a:Act) (p:Option Addr) (n c:Nat),a.eval x = .slice p n c→(execOp a.eval o).run P w = .ok (.value (.int .i64 n)) w:=by
  intro w a p n c hv;simp[execOp,ho,resolve,hv,invoke,builtin,Builtin.len_,run_underlying hu,goInt]
 split at h
 ·rename_i s els hE1;cases h;refine Z1p fun ρ w Im a hE _=>?_;have hx:=hE x;rw[hE1]at hx;generalize hv:a.eval x=v at hx;cases hx with
  | d hx =>
   cases hx with
   | slNil s p c=>exact base w a _ _ _ hv
   | sl s els p n c f hn=>rw[base w a _ _ _ hv,hn]
 ·rename_i b hE1;split at h;rotate_left
  ·cases h
  rename_i ty s els hb;cases h;intro Ow Im0 w0 ρ w Im clk a I _ _ hE hph;have hx:=hE x;rw[hE1]at hx;generalize hv:a.eval x=v at hx;cases hx with
  | ow hρ hc hbg ha =>
   rename_i c ad β;obtain⟨β',h1,h2⟩:=I.blk b _ hb;rw[hρ]at h1;cases h1;obtain⟨g1,g2,_,_,_⟩:=h2;have hrun:=base w a _ _ _ hv;rw[g2]at hrun;unfold numR at hph ⊢;split at hph
   ·rename_i m _;obtain⟨h1,_⟩:=allP_cons.1 hph;rw[h1]at hrun;exact .inl ⟨_,w,hrun,.same I (.d (.sc _ rfl))⟩
   ·exact .inl ⟨_,w,hrun,.same I (.d (.sc _ rfl))⟩
 ·rename_i b oo n hE1;cases h;refine Z1p fun ρ w Im a hE _=>?_;have hx:=hE x;rw[hE1]at hx;generalize hv:a.eval x=v at hx;cases hx with
  | os hρ hn hc hbg ha=>exact base w a _ _ _ hv
 ·cases h
def Z7s(n:Nat)(x:AV):Option Res:=match x with | .tu l=>(l[n]?).map fun y=>⟨y,none,[]⟩ | _=>none
theorem ZbH{P:Program}{o:Oper}{id:Nat}{E:Operand→AV}{H:Heap}{r:Res}{x:Operand}{n:Nat}
  (ho:o.op = .extract x n) (h:Z7s n (E x)=some r):Z24 P o id E H r:=by
 intro Ow Im0 w0 ρ w Im clk a I _ _ hE _;have hx:=hE x;unfold Z7s at h;split at h
 ·rename_i l hE1;simp only[Option.map_eq_some_iff]at h;obtain⟨y,hy,rfl⟩:=h;rw[hE1]at hx;generalize hv:a.eval x=v at hx;cases hx with
  | tu l cs hn hc =>
   have hl:n<cs.size:=by rw[hn];exact(List.getElem?_eq_some_iff.1 hy).1
   exact .inl ⟨cs[n],w,by simp[execOp,ho,hv,Instr.extract,hl],.same I (hc n y _ hy (by simp[hl]))⟩
 ·cases h
def Z5U(x:AV):Option Res:=match x with | .pt b i o=>some ⟨.pt b i o,none,[]⟩ | .rp e o=>some ⟨.rp e o,none,[]⟩ | .fn f c=>some ⟨.fn f c,none,[]⟩ | _=>none
theorem Z9Y{P:Program}{o:Oper}{id:Nat}{E:Operand→AV}{H:Heap}{r:Res}{x:Operand}
  (ho:o.op = .nilCheck x) (h:Z5U (E x)=some r):Z24 P o id E H r:=by
 intro Ow Im0 w0 ρ w Im clk a I _ _ hE _hph;have hx:=hE x;unfold Z5U at h;split at h<;>first | (cases h;done) | cases h
 ·rename_i b i oo hE1;rw[hE1]at hx;obtain⟨g,s,m,hρ,hv⟩:=Z2n hx;exact .inl ⟨_,w,by simp[execOp,ho,hv],.same I (.pt hρ)⟩
 ·rename_i e oo hE1;rw[hE1]at hx;generalize hv:a.eval x=v at hx;cases hx with
  | rp hp him hc=>exact .inl ⟨_,w,by simp[execOp,ho,hv],.same I (.rp hp him hc)⟩
 ·rename_i f c hE1;rw[hE1]at hx;generalize hv:a.eval x=v at hx;cases hx with
  | fn hn hc=>exact .inl ⟨_,w,by simp[execOp,ho,hv],.same I (.fn hn hc)⟩
def Z4d(fn:Fn)(first captured:Array Operand)(E:Operand→AV):Option Res :=
 match fn,first.toList with
 | .func f,[]=>some ⟨.fn f (captured.toList.map E),none,[]⟩
 | _,_=>none
theorem Z9Q{P:Program}{o:Oper}{id:Nat}{E:Operand→AV}{H:Heap}{r:Res}{fn:Fn}{first captured:Array Operand}
  (ho:o.op = .makeFunc fn first captured) (h:Z4d fn first captured E=some r):Z24 P o id E H r:=by
 intro Ow Im0 w0 ρ w Im clk a I _ _ hE _;unfold Z4d at h;split at h
 ·rename_i f hf;cases h;have:first = #[]:=by simpa using hf
  subst this;refine .inl ⟨.func (.func f) #[] (captured.map a.eval),w,by simp[execOp,ho,Instr.makeFunc],.same I (.fn pq fun i b v hb hv=>?_)⟩;simp only[List.getElem?_map,Option.map_eq_some_iff]at hb;obtain⟨x,hx,rfl⟩:=hb;have hx':captured[i]? = some x:=by simpa using hx
  simp only[Array.getElem?_map,hx',Option.map_some,Option.some.injEq]at hv;subst hv;exact hE x
 ·cases h
def Z2I(P:Program)(t:Nat):Bool:=match P.underlying t with | some (.interface _)=>false | some _=>true | none=>false
def Z3j(P:Program)(t:Nat)(x:AV):Option Res:=if Z2I P t then some ⟨.ic t x,none,[]⟩else none
theorem Z5R{P:Program}{o:Oper}{id:Nat}{E:Operand→AV}{H:Heap}{r:Res}{x:Operand}{t:Nat}
  (ho:o.op = .makeInterface t x) (h:Z3j P t (E x)=some r):Z24 P o id E H r:=by
 intro Ow Im0 w0 ρ w Im clk a I _ _ hE _;unfold Z3j at h;split at h
 ·rename_i hc;cases h;have hc':P.concrete t=true:=by
   unfold Z2I at hc;unfold Program.concrete;cases hu:P.underlying t with
   | none=>simp[hu]at hc
   | some d=>cases d<;>simp_all
  exact .inl ⟨_,w,by simp[execOp,ho,run_makeInterface (P:=P) w t _ hc'],.same I (.ic (hE x))⟩
 ·cases h
theorem Z5L{P:Program}{w:World}{t:Nat}{z:Value}(h:zeroOf P t=some z):(zeroValue t).run P w = .ok z w:=by
 unfold zeroOf at h;split at h
 ·rename_i i hi;simp[zeroValue,typeInfo,hi,h]
 ·cases h
theorem ZgE{P:Program}{w:World}{t xT:Nat}(hc:Z2I P t=true)(v:Value):(Instr.typeAssert (.iface t v) xT t true).run P w = .ok (.tuple #[v,.bool true]) w:=by
 unfold Z2I at hc;cases hu:P.underlying t with
 | none=>simp[hu]at hc
 | some d=>cases d<;>simp_all[Instr.typeAssert,run_underlying hu]
theorem ZbS{P:Program}{w:World}{t u xT:Nat}{z:Value}(hc:Z2I P t=true)(hz:zeroOf P t=some z)(hn:u≠t)(v:Value):(Instr.typeAssert (.iface u v) xT t true).run P w = .ok (.tuple #[z,.bool false]) w:=by
 unfold Z2I at hc;cases hu:P.underlying t with
 | none=>simp[hu]at hc
 | some d=>cases d<;>simp_all[Instr.typeAssert,run_underlying hu,Z5L hz]
theorem Z9T{P:Program}{w:World}{t xT:Nat}{z:Value}(hc:Z2I P t=true)(hz:zeroOf P t=some z):(Instr.typeAssert .nilIface xT t true).run P w = .ok (.tuple #[z,.bool false]) w:=by
 unfold Z2I at hc;cases hu:P.underlying t with
 | none=>simp[hu]at hc
 | some d=>cases d<;>simp_all[Instr.typeAssert,run_underlying hu,Z5L hz]
def noT(z:Value):AV:=.tu [cv z,.d (.sc (.bool false))]
def Z9f(P:Program)(t:Nat)(ok:Bool)(x:AV):Option Res :=
 match Z2I P t,ok,zeroOf P t with
 | true,true,some z=>match x with
  | .ic u a=>match Nat.beq u t with
   | true=>some ⟨.tu [a,.d (.sc (.bool true))],none,[]⟩
   | false=>some ⟨noT z,none,[]⟩
  | .d (.sc .nilIface)=>some ⟨noT z,none,[]⟩
  | _=>none
 | _,_,_=>none
theorem ZeD{ρ:Rho}{w:World}{Im:Nat→Prop}{a b:AV}{x y:Value}(h:Rel ρ w Im a x)(k:Rel ρ w Im b y):Rel ρ w Im (.tu [a,b]) (.tuple #[x,y]):=by
 refine .tu _ _ rfl fun i c v hc hv=>?_
 match i with
 | 0=>simp at hc hv;subst hc;subst hv;exact h
 | 1=>simp at hc hv;subst hc;subst hv;exact k
 | i+2=>simp at hc
theorem Zcg{P:Program}{o:Oper}{id:Nat}{E:Operand→AV}{H:Heap}{r:Res}{x:Operand}{xT t:Nat}{ok:Bool}
  (ho:o.op = .typeAssert x xT t ok) (h:Z9f P t ok (E x)=some r):Z24 P o id E H r:=by
 intro Ow Im0 w0 ρ w Im clk a I _ _ hE _;unfold Z9f at h;split at h;rotate_left
 ·cases h
 rename_i z hc hz;have h1:=hE x;split at h
 ·rename_i u b hx;rw[hx]at h1;generalize hv:a.eval x=v at h1;cases h1 with
  | ic h1 =>
   split at h
   ·rename_i hb;cases h;obtain rfl:=Nat.eq_of_beq_eq_true hb;exact .inl ⟨_,w,by simp[execOp,ho,hv,ZgE (w:=w) (xT:=xT) hc],.same I (ZeD h1 (.d (.sc _ rfl)))⟩
   ·rename_i hb;cases h;exact .inl ⟨_,w,by simp[execOp,ho,hv,ZbS (w:=w) (xT:=xT) hc hz (Nat.ne_of_beq_eq_false hb)],.same I (ZeD (Z6t _ _ _ _) (.d (.sc _ rfl)))⟩
 ·rename_i hx;cases h;have h2:=Z0L (hx▸h1);exact .inl ⟨_,w,by simp[execOp,ho,h2,Z9T (w:=w) (xT:=xT) hc hz],.same I (ZeD (Z6t _ _ _ _) (.d (.sc _ rfl)))⟩
 ·cases h
def Zhc(mx:Bool)(hs:List Hint)(x y:AV):Option Res:=match x with
 | .d (.sc (.int k a))=>match y with
  | .d (.sc (.int _ b))=>match mx with
   | true=>some (numR k (if b > a then b else a) [] hs)
   | false=>some (numR k (if b<a then b else a) [] hs)
  | _=>none
 | _=>none
theorem ZiF{P:Program}{o:Oper}{id:Nat}{E:Operand→AV}{H:Heap}{r:Res}{x y:Operand}{t t':Nat}{hs:List Hint}
  (ho:o.op = .call ⟨.builtin .max,#[x,y],#[t,t']⟩) (h:Zhc true hs (E x) (E y)=some r):Z24 P o id E H r:=by
 unfold Zhc at h;split at h
 ·rename_i k a hx;split at h
  ·rename_i k' b hy;cases h;refine Z1p fun ρ w Im s hE _=>?_;have h1:=Z0L (hx▸hE x);have h2:=Z0L (hy▸hE y);simp[execOp,ho,resolve,h1,h2,invoke,builtin,run_max_int2]
  ·cases h
 ·cases h
theorem ZhU{P:Program}{o:Oper}{id:Nat}{E:Operand→AV}{H:Heap}{r:Res}{x y:Operand}{t t':Nat}{hs:List Hint}
  (ho:o.op = .call ⟨.builtin .min,#[x,y],#[t,t']⟩) (h:Zhc false hs (E x) (E y)=some r):Z24 P o id E H r:=by
 unfold Zhc at h;split at h
 ·rename_i k a hx;split at h
  ·rename_i k' b hy;cases h;refine Z1p fun ρ w Im s hE _=>?_;have h1:=Z0L (hx▸hE x);have h2:=Z0L (hy▸hE y);simp[execOp,ho,resolve,h1,h2,invoke,builtin,run_min_int2]
  ·cases h
 ·cases h
def intA:AV→Option (IntKind×Int)
 | .d (.sc (.int k a))=>some (k,a)
 | _=>none
theorem Z3S{x:AV}{k:IntKind}{a:Int}(h:intA x=some (k,a)):x = .d (.sc (.int k a)):=by
 unfold intA at h;split at h
 ·cases h;rfl
 ·cases h
def mmI(mx:Bool)(a b:Int):Int:=match mx with
 | true=>max a b
 | false=>min a b
theorem Zpj(a b:Int):(if a<b then b else a)=max a b:=by
 rw[Int.max_def];split<;>split<;>omega
theorem Zp7(a b:Int):(if b<a then b else a)=min a b:=by
 rw[Int.min_def];split<;>split<;>omega
def Zag(mx:Bool)(hs:List Hint)(x y z u v:AV):Option Res:=match intA x,intA y,intA z,intA u,intA v with
 | some (k,a),some (_,b),some (_,c),some (_,d),some (_,e)=>some (numR k (mmI mx (mmI mx (mmI mx (mmI mx a b) c) d) e) [] hs)
 | _,_,_,_,_=>none
theorem ZgP{P:Program}{o:Oper}{id:Nat}{E:Operand→AV}{H:Heap}{r:Res}{x y z u v:Operand}{t1 t2 t3 t4 t5:Nat}{hs:List Hint}
  (ho:o.op = .call ⟨.builtin .max,#[x,y,z,u,v],#[t1,t2,t3,t4,t5]⟩) (h:Zag true hs (E x) (E y) (E z) (E u) (E v)=some r):Z24 P o id E H r:=by
 unfold Zag at h;split at h
 ·rename_i k a k2 b k3 c k4 d k5 e h1 h2 h3 h4 h5;cases h;refine Z1p fun ρ w Im s hE _=>?_;have g1:=Z0L (Z3S h1▸hE x);have g2:=Z0L (Z3S h2▸hE y);have g3:=Z0L (Z3S h3▸hE z);have g4:=Z0L (Z3S h4▸hE u);have g5:=Z0L (Z3S h5▸hE v);simp[execOp,ho,resolve,g1,g2,g3,g4,g5,invoke,builtin,Builtin.max_,Builtin.max2];simp only[Zpj];rfl
 ·cases h
theorem Zgx{P:Program}{o:Oper}{id:Nat}{E:Operand→AV}{H:Heap}{r:Res}{x y z u v:Operand}{t1 t2 t3 t4 t5:Nat}{hs:List Hint}
  (ho:o.op = .call ⟨.builtin .min,#[x,y,z,u,v],#[t1,t2,t3,t4,t5]⟩) (h:Zag false hs (E x) (E y) (E z) (E u) (E v)=some r):Z24 P o id E H r:=by
 unfold Zag at h;split at h
 ·rename_i k a k2 b k3 c k4 d k5 e h1 h2 h3 h4 h5;cases h;refine Z1p fun ρ w Im s hE _=>?_;have g1:=Z0L (Z3S h1▸hE x);have g2:=Z0L (Z3S h2▸hE y);have g3:=Z0L (Z3S h3▸hE z);have g4:=Z0L (Z3S h4▸hE u);have g5:=Z0L (Z3S h5▸hE v);simp[execOp,ho,resolve,g1,g2,g3,g4,g5,invoke,builtin,Builtin.min_,Builtin.min2];simp only[Zp7];rfl
 ·cases h
theorem Zmd{w:World}{Im:Nat→Prop}{s:Nat}{els:List (List DV)}{a:Option Addr}{n c l h:Nat}(hx:RelD w Im (.sl s els) (.slice a n c))(h1:l≤h)(h2:h≤els.length)(sz:Nat)(hsz:sz=s∨els=[]) :
  n=els.length∧n≤c∨els=[]→RelD w Im (.sl s ((els.drop l).take (h-l))) (.slice (if c=l then a else a.map (·.add (l*sz))) (h-l) (c-l)):=by
 intro _;by_cases he:h-l=0
 ·rw[he];simpa using RelD.slNil s _ _
 ·cases hx with
  | slNil=>simp at h2;omega
  | sl s els p n c f hn hc hb hs hp him hcell hrel =>
   have hsz':sz=s:=by
    rcases hsz with h | h
    ·exact h
    ·subst h;simp at h2;omega
   subst hsz';rw[if_neg oq];simp only[Option.map_some];rw[addr_add hp];have get:∀ i e,((els.drop l).take (h-l))[i]? = some e→els[l+i]? = some e:=by
    intro i e hi;rw[List.getElem?_take]at hi;split at hi
    ·rwa [List.getElem?_drop]at hi
    ·cases hi
   refine .sl sz _ _ _ _ (fun i o=>f (l+i) o) qo oq oq (fun e he'=>hs e (List.mem_of_mem_drop (List.mem_of_mem_take he'))) rfl him ?_ ?_
   ·intro i e o x hi ho;have:=hcell (l+i) e o x (get i e hi) ho;rw[Nat.add_mul]at this;simpa[Nat.add_assoc]using this
   ·intro i e o x hi ho;exact hrel (l+i) e o x (get i e hi) ho
def bnd(d:Int):Option AV→Option Int
 | none=>some d
 | some (.d (.sc (.int _ n)))=>some n
 | _=>none
def sub(els:List (List DV))(lo hi:Option AV)(l h:Int):List (List DV) :=
 match lo,hi with
 | none,none=>els
 | some _,none=>els.drop l.toNat
 | none,some _=>els.take h.toNat
 | some _,some _=>(els.drop l.toNat).take (h.toNat-l.toNat)
def slP(lo hi:Option AV)(l h n:Int):List Prop :=
 match lo,hi with
 | none,none=>[]
 | some _,none=>[0≤l∧l≤n]
 | none,some _=>[0≤h∧h≤n]
 | some _,some _=>[0≤l∧l≤h∧h≤n]
def Z7V(P:Program)(t:Nat)(hs:List Hint)(x:AV)(lo hi:Option AV)(H:Heap):Option Res :=
 match Z1c P t with
 | none=>none
 | some e=>match x with
  | .d (.sl s els)=>if szOf P e=s then
   match bnd 0 lo,bnd els.length hi with
   | some l,some h=>match hs with
    | .els l'::_=>some ⟨.d (.sl s l'),none,slP lo hi l h els.length++[sub els lo hi l h=l']⟩
    | _=>some ⟨.d (.sl s (sub els lo hi l h)),none,slP lo hi l h els.length⟩
   | _,_=>none
   else none
  | .ow b=>match H b with
   | some (.arr _ s els)=>if szOf P e=s then
    match bnd 0 lo,bnd els.length hi with
    | some l,some h=>some ⟨.os b l.toNat (h.toNat-l.toNat),none,slP lo hi l h els.length⟩
    | _,_=>none
    else none
   | _=>none
  | .os b o n=>match H b with
   | some (.arr _ s _)=>if szOf P e=s then
    match bnd 0 lo,bnd n hi with
    | some l,some h=>some ⟨.os b (o+l.toNat) (h.toNat-l.toNat),none,slP lo hi l h n⟩
    | _,_=>none
    else none
   | _=>none
  | _=>none
theorem Zbg{P:Program}{e:Nat}(he:(P.info? e).isSome=true)(w:World):(sizeOf e).run P w = .ok (szOf P e) w:=by
 obtain⟨i,hi⟩:=Option.isSome_iff_exists.1 he;simp[sizeOf,typeInfo,hi,szOf]
theorem Zdq{P:Program}{w:World}{t e:Nat}{a:Option Addr}{n c l h:Nat}{lo hi:Option Value}(ht:Z1c P t=some e)(he:(P.info? e).isSome=true)
  (hlo:lo=none∧l=0∨∃ k,lo=some (.int k l)) (hhi:hi=none∧h=n∨∃ k,hi=some (.int k h)) (h1:l≤h) (h2:h≤n) (h3:n≤c) :
  (Instr.sliceAt t (.slice a n c) lo hi none).run P w = .ok (.slice (if c=l then a else a.map (·.add (l*szOf P e))) (h-l) (c-l)) w:=by
 unfold Z1c at ht;split at ht;rotate_left
 ·cases ht
 rename_i e' hu;cases ht;have hs:=Zbg he w;have c1:h≤c:=by omega
 rcases hlo with⟨rfl,rfl⟩ | ⟨k,rfl⟩<;>rcases hhi with⟨rfl,rfl⟩ | ⟨k',rfl⟩ <;>
  simp[Instr.sliceAt,Instr.slice,run_underlying hu,Instr.sliceBounds,Instr.sliceBound,asIntOf,hs,c1,h1]
theorem Zfk{d:Int}{x:Option AV}{n:Int}(h:bnd d x=some n):(x=none∧n=d)∨∃ k,x=some (.d (.sc (.int k n))):=by
 unfold bnd at h;split at h
 ·cases h;exact .inl ⟨rfl,rfl⟩
 ·cases h;exact .inr ⟨_,rfl⟩
 ·cases h
theorem Zc6{lo hi:Option AV}{l h n:Int}(hp:allP (slP lo hi l h n))(h0:0≤n)(hl:lo=none→l=0)(hh:hi=none→h=n):0≤l∧l≤h∧h≤n:=by
 unfold slP at hp;split at hp
 ·have:=hl rfl;have:=hh rfl;omega
 ·have:=hh rfl;simp[allP]at hp;omega
 ·have:=hl rfl;simp[allP]at hp;omega
 ·simp[allP]at hp;omega
theorem Zpo{els:List (List DV)}{lo hi:Option AV}{l h:Int}(h0:0≤l)(hl:lo=none→l=0)(hh:hi=none→h=els.length):sub els lo hi l h=(els.drop l.toNat).take (h.toNat-l.toNat):=by
 unfold sub;split
 ·have:=hl rfl;have:=hh rfl;subst_vars;simp
 ·have:=hh rfl;subst this;simp;rw[List.take_of_length_le pq]
 ·have:=hl rfl;subst this;simp
 ·rfl
theorem Zei{P:Program}{o:Oper}{id:Nat}{E:Operand→AV}{H:Heap}{r:Res}{x:Operand}{lo hi:Option Operand}{t:Nat}{hs:List Hint}
  (ho:o.op = .slice t x lo hi none) (hinfo:∀ e,Z1c P t=some e→(P.info? e).isSome=true) (h:Z7V P t hs (E x) (lo.map E) (hi.map E) H=some r):Z24 P o id E H r:=by
 intro Ow Im0 w0 ρ w Im clk a I _ _ hE hph;have hx:=hE x;unfold Z7V at h;split at h
 ·cases h
 rename_i e he;have hi':=hinfo e he;have lov:∀ (d l:Int),bnd d (lo.map E)=some l→0≤l→(lo.map a.eval=none∧l=d)∨∃ k,lo.map a.eval=some (.int k (l.toNat:Int)):=by
  intro d l hb h0;rcases Zfk hb with⟨h1,h2⟩ | ⟨k,h1⟩
  ·cases lo with
   | none=>exact .inl ⟨rfl,h2⟩
   | some y=>simp at h1
  ·cases lo with
   | none=>simp at h1
   | some y =>
    simp only[Option.map_some,Option.some.injEq]at h1;have:=Z0L (h1▸hE y);exact .inr ⟨k,by simp[this];omega⟩
 have hiv:∀ (d l:Int),bnd d (hi.map E)=some l→0≤l→(hi.map a.eval=none∧l=d)∨∃ k,hi.map a.eval=some (.int k (l.toNat:Int)):=by
  intro d l hb h0;rcases Zfk hb with⟨h1,h2⟩ | ⟨k,h1⟩
  ·cases hi with
   | none=>exact .inl ⟨rfl,h2⟩
   | some y=>simp at h1
  ·cases hi with
   | none=>simp at h1
   | some y =>
    simp only[Option.map_some,Option.some.injEq]at h1;have:=Z0L (h1▸hE y);exact .inr ⟨k,by simp[this];omega⟩
 have none1:∀ {d l:Int} {y:Option AV},bnd d y=some l→y=none→l=d:=by
  intro d l y hb hy;subst hy;simp[bnd]at hb;exact hb.symm
 have run:∀ (p:Option Addr) (n c:Nat) (l h:Int),a.eval x = .slice p n c→n≤c→bnd 0 (lo.map E)=some l→bnd (n:Int) (hi.map E)=some h→0≤l→l≤h→h≤n →
   (execOp a.eval o).run P w = .ok (.value (.slice (if c=l.toNat then p else p.map (·.add (l.toNat*szOf P e))) (h.toNat-l.toNat) (c-l.toNat))) w:=by
  intro p n c l h hv hc hl hh h1 h2 h3;have e1:=lov 0 l hl h1;have e2:=hiv n h hh oq;have:=Zdq (P:=P) (w:=w) (a:=p) (n:=n) (c:=c) (l:=l.toNat) (h:=h.toNat) he hi' (e1.imp (fun⟨p,q⟩=>⟨p,by omega⟩) (fun h=>h)) (e2.imp (fun⟨p,q⟩=>⟨p,by omega⟩) (fun h=>h)) oq oq hc;simp[execOp,ho,hv,this]
 split at h
 ·rename_i s els hE1;rw[hE1]at hx;split at h;rotate_left
  ·cases h
  rename_i hsz;split at h;rotate_left
  ·cases h
  rename_i l hh hl1 hh1;have fin:allP (slP (lo.map E) (hi.map E) l hh els.length)→Goes P o a w fun v w'=>Then Ow Im0 w0 ρ w Im clk H (.d (.sl s (sub els (lo.map E) (hi.map E) l hh))) v w':=by
   intro hp;obtain⟨p1,p2,p3⟩:=Zc6 hp oq (none1 hl1) (none1 hh1);rw[Zpo p1 (none1 hl1) (none1 hh1)];generalize hv:a.eval x=v at hx;cases hx with
   | d hx =>
    have hlen:∃ p n c,v = .slice p n c∧n=els.length∧n≤c:=by
     cases hx with
     | slNil s p c=>exact⟨p,0,c,rfl,rfl,Nat.zero_le _⟩
     | sl s els p n c f hn hc=>exact⟨some p,n,c,rfl,hn.symm,hc⟩
    obtain⟨p,n,c,rfl,hn,hc⟩:=hlen;refine .inl ⟨_,w,run p n c l hh hv hc hl1 (by rw[hn];exact hh1) p1 p2 oq,.same I (.d ?_)⟩;exact Zmd hx oq oq (szOf P e) (.inl hsz) (.inl ⟨hn,hc⟩)
  split at h
  ·rename_i l' _;cases h;obtain⟨p1,p2⟩:=allP_append.1 hph;have p2':sub els (lo.map E) (hi.map E) l hh=l':=by simpa[allP]using p2
   have:=fin p1;rw[p2']at this;exact this
  ·cases h;exact fin hph
 ·rename_i b hE1;rw[hE1]at hx;split at h;rotate_left
  ·cases h
  rename_i ty s els hb;split at h;rotate_left
  ·cases h
  rename_i hsz;split at h;rotate_left
  ·cases h
  rename_i l hh hl1 hh1;cases h;obtain⟨p1,p2,p3⟩:=Zc6 hph oq (none1 hl1) (none1 hh1);generalize hv:a.eval x=v at hx;cases hx with
  | ow hρ hc hbg ha =>
   rename_i c ad β;obtain⟨β',h1,h2⟩:=I.blk b _ hb;rw[hρ]at h1;cases h1;obtain⟨g1,g2,_,_,_⟩:=h2;refine .inl ⟨_,w,run ad β.n c l hh hv hc hl1 (by rw[g2];exact hh1) p1 p2 oq,.same I (.os hρ oq oq oq ?_)⟩;rcases ha with ha | ⟨g,hg,rfl,hrow⟩
   ·exact .inl oq
   ·by_cases hcl:c=l.toNat
    ·exact .inl oq
    ·refine .inr ⟨g,hg,by rw[if_neg hcl];simp[Addr.add_lit,hsz,g1], ?_⟩;rw[show l.toNat+(c-l.toNat)=c from by omega];exact hrow
 ·rename_i b oo m hE1;rw[hE1]at hx;split at h;rotate_left
  ·cases h
  rename_i ty s els hb;split at h;rotate_left
  ·cases h
  rename_i hsz;split at h;rotate_left
  ·cases h
  rename_i l hh hl1 hh1;cases h;obtain⟨p1,p2,p3⟩:=Zc6 hph oq (none1 hl1) (none1 hh1);generalize hv:a.eval x=v at hx;cases hx with
  | os hρ hn hc hbg ha =>
   rename_i c ad β;obtain⟨β',h1,h2⟩:=I.blk b _ hb;rw[hρ]at h1;cases h1;obtain⟨g1,g2,_,_,_⟩:=h2;refine .inl ⟨_,w,run ad m c l hh hv hc hl1 hh1 p1 p2 oq,.same I (.os hρ oq oq oq ?_)⟩;rcases ha with ha | ⟨g,hg,rfl,hrow⟩
   ·exact .inl oq
   ·by_cases hcl:c=l.toNat
    ·exact .inl oq
    ·refine .inr ⟨g,hg,by rw[if_neg hcl];simp[Addr.add_lit,hsz,g1,Nat.add_mul], ?_⟩;rw[show oo+l.toNat+(c-l.toNat)=oo+c from by omega];exact hrow
 ·cases h
theorem foldl_set(u:List Value):∀ (off k:Nat) (cells:Array Value),off+k+u.length≤cells.size →
  ((u.zipIdx k).foldl (fun cs (p:Value×Nat)=>cs.setIfInBounds (off+p.2) p.1) cells).size=cells.size ∧
  ∀ j,((u.zipIdx k).foldl (fun cs (p:Value×Nat)=>cs.setIfInBounds (off+p.2) p.1) cells)[j]? = if j<off+k then cells[j]? else if j<off+k+u.length then u[j-(off+k)]? else cells[j]? := by
 induction u with
 | nil=>intro off k cells _;refine⟨rfl,fun j=>?_⟩;simp only[List.zipIdx_nil,List.foldl_nil,List.length_nil,Nat.add_zero];split<;>rfl
 | cons x u ih =>
  intro off k cells h;simp only[List.length_cons]at h;have:=ih off (k+1) (cells.setIfInBounds (off+k) x) qo;simp only[List.zipIdx_cons,List.foldl_cons];refine⟨by rw[this.1];simp,fun j=>?_⟩;rw[this.2 j];simp only[Array.getElem?_setIfInBounds,List.length_cons];by_cases h1:j<off+k
  ·rw[if_pos oq,if_neg oq,if_pos h1]
  ·rw[if_neg h1];by_cases h2:j=off+k
   ·subst h2;rw[if_pos oq,if_pos rfl,if_pos oq,if_pos oq];simp
   ·rw[if_neg (show ¬ j<off+(k+1) by omega)];by_cases h3:j<off+(k+1)+u.length
    ·rw[if_pos h3,if_pos oq];have e:j-(off+k)=(j-(off+(k+1)))+1:=by omega
     rw[e];simp
    ·rw[if_neg h3,if_neg oq,if_neg oq]
theorem Za3(v:Value)(off:Nat)(cells:Array Value)(h:off+v.cells.size≤cells.size) :
  (v.cells.zipIdx.foldl (fun cs (p:Value×Nat)=>cs.setIfInBounds (off+p.2) p.1) cells).size=cells.size ∧
  ∀ j,(v.cells.zipIdx.foldl (fun cs (p:Value×Nat)=>cs.setIfInBounds (off+p.2) p.1) cells)[j]? = if j<off then cells[j]? else if j<off+v.cells.size then v.cells[j-off]? else cells[j]? := by
 have e:v.cells.zipIdx.foldl (fun cs (p:Value×Nat)=>cs.setIfInBounds (off+p.2) p.1) cells=(v.cells.toList.zipIdx 0).foldl (fun cs (p:Value×Nat)=>cs.setIfInBounds (off+p.2) p.1) cells:=by
  rw[← Array.foldl_toList];simp
 have:=foldl_set v.cells.toList off 0 cells (by simpa using h);rw[e];refine⟨this.1,fun j=>?_⟩;rw[this.2 j];simp
def ZgR(place:Nat→Option (Nat×Nat))(l:List AV):List (Nat×AV)→Option (List AV)
 | []=>some l
 | (i,x)::r=>match place i,x.cells with
  | some (off,size),some xs=>if xs.length=size∧off+size≤l.length then ZgR place (splice l off xs) r else none
  | _,_=>none
def RelL(ρ:Rho)(w:World)(Im:Nat→Prop)(l:List AV)(cs:Array Value):Prop :=
 cs.size=l.length∧(∀ (i:Nat) (v:Value),cs[i]? = some v→v.oneCell'=true)∧∀ (i:Nat) (a:AV) (v:Value),l[i]? = some a→cs[i]? = some v→Rel ρ w Im a v
theorem ZaZ{ρ:Rho}{w:World}{Im:Nat→Prop}{place:Nat→Option (Nat×Nat)}:∀ {parts:List (Nat×AV)} {vals:List (Nat×Value)} {l l':List AV} {cs:Array Value},
  parts.length=vals.length→(∀ (k:Nat) (p:Nat×AV) (q:Nat×Value),parts[k]? = some p→vals[k]? = some q→p.1=q.1∧Rel ρ w Im p.2 q.2)→RelL ρ w Im l cs→ZgR place l parts=some l' →
  ∃ cs',Instr.fill place cs vals=some cs'∧RelL ρ w Im l' cs'
 | [],vals,l,l',cs,hn,_,hr,h=>by
  cases vals with
  | nil=>simp[ZgR]at h;subst h;exact⟨cs,rfl,hr⟩
  | cons _ _=>simp at hn
 | (i,x)::parts,vals,l,l',cs,hn,hp,hr,h=>by
  cases vals with
  | nil=>simp at hn
  | cons q vals =>
   obtain⟨i',v⟩:=q;obtain⟨h1,h2⟩:=hp 0 _ _ rfl rfl;simp only at h1 h2;subst h1;simp only[ZgR]at h;split at h;rotate_left
   ·cases h
   rename_i off size xs hpl hxs;split at h;rotate_left
   ·cases h
   rename_i hc;obtain⟨c1,c2,c3⟩:=h2.cells hxs;obtain⟨r1,r2,r3⟩:=hr;have hfit:off+v.cells.size≤cs.size:=by omega
   have hfl:off+xs.length≤l.length:=by omega
   have key:=Za3 v off cs hfit;have hrel:RelL ρ w Im (splice l off xs) (v.cells.zipIdx.foldl (fun cs (p:Value×Nat)=>cs.setIfInBounds (off+p.2) p.1) cs):=by
    refine⟨?_, ?_, ?_⟩
    ·rw[key.1,r1];simp only[splice];rw[Z17 hfl]
    ·intro j u hu;rw[key.2 j]at hu;split at hu
     ·exact r2 j u hu
     ·split at hu
      ·exact c3 _ u hu
      ·exact r2 j u hu
    ·intro j a u ha hu;rw[key.2 j]at hu;simp only[splice]at ha;rw[Z23 hfl,← c1]at ha;by_cases k1:j<off
     ·simp only[k1,if_true]at ha hu;exact r3 j a u ha hu
     ·simp only[k1,if_false]at ha hu;by_cases k2:j<off+v.cells.size
      ·simp only[k2,if_true]at ha hu;exact c2 _ a u ha hu
      ·simp only[k2,if_false]at ha hu;exact r3 j a u ha hu
   obtain⟨cs',h3,h4⟩:=ZaZ (place:=place) (by simpa using hn) (fun k p q hk hq=>hp (k+1) p q (by simpa using hk) (by simpa using hq)) hrel h;refine⟨cs', ?_,h4⟩;simp only[Instr.fill,hpl];rw[if_neg qo];exact h3
theorem Z6u{P:Program}{w:World}{α β:Type}(f:α→Sem β)(g:α→β):∀ (l:List α),(∀ x∈l,(f x).run P w = .ok (g x) w)→(l.mapM f).run P w = .ok (l.map g) w
 | [],_=>rfl
 | x::l,h=>by
  rw[List.mapM_cons];simp[h x pq,Z6u f g l (fun y hy=>h y (by simp[hy]))]
theorem run_places{P:Program}{w:World}(fs:Array Field)(h:∀ f∈fs.toList,(P.info? f.type).isSome=true) :
  (fs.mapM fun f=>do pure (f.offset,← sizeOf f.type):Sem (Array (Nat×Nat))).run P w = .ok (fs.map fun f=>(f.offset,szOf P f.type)) w:=by
 obtain⟨l⟩:=fs;rw[List.mapM_toArray];have:=Z6u (P:=P) (w:=w) (fun f:Field=>(do pure (f.offset,← sizeOf f.type):Sem (Nat×Nat))) (fun f=>(f.offset,szOf P f.type)) l (fun f hf=>by
  simp[Zbg (h f hf) w])
 simp only[Sem.run_map,this,Result.andThen_ok];simp
def Zi8(P:Program)(fs:List Field)(i:Nat):Option (Nat×Nat):=match fs[i]? with | some f=>some (f.offset,szOf P f.type) | none=>none
def ZbU(P:Program)(t:Nat)(parts:List (Nat×AV)):Option Res :=
 match zeroOf P t with
 | none=>none
 | some z=>match (cv z).cells with
  | none=>none
  | some l0=>match P.underlying t with
   | some (.struct fs)=>if fs.toList.all (fun f=>(P.info? f.type).isSome)then(ZgR (Zi8 P fs.toList) l0 parts).map fun l=>⟨.ag l,none,[]⟩else none
   | some (.array _ e)=>if(P.info? e).isSome then(ZgR (fun i=>some (i*szOf P e,szOf P e)) l0 parts).map fun l=>⟨.ag l,none,[]⟩else none
   | _=>none
theorem Z5g{P:Program}{t:Nat}{z:Value}(h:zeroOf P t=some z)(w:World):(zeroValue t).run P w = .ok z w:=by
 unfold zeroOf at h;split at h
 ·rename_i i hi;simp[zeroValue,typeInfo,hi,h]
 ·cases h
theorem ZdN{P:Program}{o:Oper}{id:Nat}{E:Operand→AV}{H:Heap}{r:Res}{t:Nat}{parts:Array (Nat×Operand)}
  (ho:o.op = .build t parts) (h:ZbU P t (parts.toList.map fun p=>(p.1,E p.2))=some r):Z24 P o id E H r:=by
 intro Ow Im0 w0 ρ w Im clk a I _ _ hE _;unfold ZbU at h;split at h
 ·cases h
 rename_i z hz;split at h
 ·cases h
 rename_i l0 hl0;have hz0:=(Z6t ρ w Im z).cells hl0;have hzr:=Z5g (P:=P) hz w;have hrel0:RelL ρ w Im l0 z.cells:=⟨hz0.1,hz0.2.2,hz0.2.1⟩
 have hparts:∀ (k:Nat) (p:Nat×AV) (q:Nat×Value),(parts.toList.map fun p=>(p.1,E p.2))[k]? = some p→(parts.toList.map fun p=>(p.1,a.eval p.2))[k]? = some q→p.1=q.1∧Rel ρ w Im p.2 q.2:=by
  intro k p q hp hq;simp only[List.getElem?_map,Option.map_eq_some_iff]at hp hq;obtain⟨x,hx,rfl⟩:=hp;obtain⟨y,hy,rfl⟩:=hq;rw[hx]at hy;cases hy;exact⟨rfl,hE _⟩
 split at h
 ·rename_i fs hu;split at h;rotate_left
  ·cases h
  rename_i hall;simp only[Option.map_eq_some_iff]at h;obtain⟨l,hl,rfl⟩:=h;obtain⟨cs,h1,h2⟩:=ZaZ (vals:=parts.toList.map fun p=>(p.1,a.eval p.2)) pq hparts hrel0 hl;have hpl:=run_places (P:=P) (w:=w) fs (fun f hf=>by simp only[List.all_eq_true]at hall;exact hall f hf);have hpeq:(fun i=>(fs.map fun f=>(f.offset,szOf P f.type))[i]?)=Zi8 P fs.toList:=by
   funext i
   simp only[Zi8,Array.getElem?_map,Array.getElem?_toList];cases fs[i]? <;> rfl
  refine .inl ⟨.agg cs,w, ?_,.same I (.ag l cs h2.1 h2.2.1 h2.2.2)⟩;simp only[execOp,ho,Instr.build,Sem.run_bind,hzr,Result.andThen_ok,run_underlying hu,hpl,hpeq];simp[h1]
 ·rename_i n e hu;split at h;rotate_left
  ·cases h
  rename_i hall;simp only[Option.map_eq_some_iff]at h;obtain⟨l,hl,rfl⟩:=h;obtain⟨cs,h1,h2⟩:=ZaZ (vals:=parts.toList.map fun p=>(p.1,a.eval p.2)) pq hparts hrel0 hl;refine .inl ⟨.agg cs,w, ?_,.same I (.ag l cs h2.1 h2.2.1 h2.2.2)⟩;simp only[execOp,ho,Instr.build,Sem.run_bind,hzr,Result.andThen_ok,run_underlying hu,Zbg hall w];simp[h1]
 ·cases h
def RelE(w:World)(Im:Nat→Prop)(s:Nat)(els:List (List DV))(cs:Array Value):Prop :=
 (∀ e∈els,e.length=s)∧els.length*s≤cs.size∧(∀ (i:Nat) (v:Value),cs[i]? = some v→i<els.length*s→v.oneCell'=true) ∧
  ∀ (i:Nat) (e:List DV) (o:Nat) (x:DV),els[i]? = some e→e[o]? = some x→∃ v,cs[i*s+o]? = some v∧RelD w Im x v
theorem Then.arr{Ow:Own}{Im0:Nat→Prop}{w0:World}{ρ:Rho}{w:World}{Im:Nat→Prop}{clk:Nat}{H:Heap}{id ty s:Nat}{els:List (List DV)}{cs:Array Value}{c:Nat}
  (I:Inv Ow Im0 w0 ρ w Im H clk) (hid:clk*8000≤id) (hH:H id=none) (h:RelE w Im s els cs) (hb:els.length≤big) (hc:els.length≤c) (hcs:c*s≤cs.size) :
  Then Ow Im0 w0 ρ w Im clk (updH H id (.arr ty s els)) (.ow id) (.slice (some ⟨w.heap.size,0,none⟩) els.length c) (w.alloc (.cells cs ty)):=by
 have hsub:=Z1E (β:=⟨some w.heap.size,s,els.length⟩) (I.fresh id hid hH);have he:=Ext.alloc Im w (.cells cs ty) I.imb;obtain⟨h1,h2,_,h4⟩:=h;refine⟨updR ρ id ⟨some w.heap.size,s,els.length⟩,I.add id hid hH cs ty s els.length _ ?_,he,hsub, ?_⟩
 ·exact⟨rfl,rfl,hb,h1,.inr ⟨w.heap.size,cs,rfl,heap_alloc_new _ _,h2,fun i e o x hi ho=>let ⟨v,k1,k2⟩:=h4 i e o x hi ho;⟨v,k1,k2.mono he (fun _ h=>h)⟩⟩⟩
 ·have:=Rel.ow (ρ:=updR ρ id ⟨some w.heap.size,s,els.length⟩) (w:=w.alloc (.cells cs ty)) (Im:=Im) (c:=c) (a:=some ⟨w.heap.size,0,none⟩) (Z1s ρ id ⟨some w.heap.size,s,els.length⟩) hc hb
   (.inr ⟨w.heap.size,rfl,rfl,by unfold Sx.rows;rw[heap_alloc_new];exact hcs⟩)
  exact this
theorem Z9n(z:Array Value)(n s:Nat)(hz:z.size=s)(i o:Nat)(ho:o<s)(hi:i<n) :
  ((Array.range (n*s)).map (z[· % z.size]!))[i*s+o]? = z[o]? := by
 have h1:i*s+o<n*s:=by
  have:(i+1)*s≤n*s:=Nat.mul_le_mul_right s hi;rw[Nat.add_mul]at this;omega
 have h2:(i*s+o)%z.size=o:=by
  rw[hz,Nat.add_comm,Nat.add_mul_mod_self_right,Nat.mod_eq_of_lt ho]
 simp only[Array.getElem?_map,Array.getElem?_range,h1,if_true,Option.map_some,h2];rw[Array.getElem!_eq_getD,Array.getElem?_eq_getElem oq];simp[Array.getD,hz,ho]
theorem Z6R{w:World}{Im:Nat→Prop}{z:Value}{zs:List DV}{l:List AV}{s:Nat}(n:Nat)(hl:(cv z).cells=some l)(hz:Zcp l=some zs)(hs:zs.length=s) :
  RelE w Im s (List.replicate n zs) ((Array.range (n*s)).map (z.cells[· % z.cells.size]!)):=by
 have hc:=(Z6t (fun _=>none) w Im z).cells hl;have e:=Z2X hz;have hsz:z.cells.size=s:=by rw[hc.1,e];simp[dvs,hs]
 refine⟨fun e he=>by rw[(List.mem_replicate.1 he).2];exact hs,by simp, ?_, ?_⟩
 ·intro i v hv hi;simp only[List.length_replicate]at hi;have hs0:0<s:=by
   rcases Nat.eq_zero_or_pos s with h | h
   ·subst h;simp at hi
   ·exact h
  have hdm:i=i/s*s+i%s:=by rw[Nat.mul_comm];exact(Nat.div_add_mod i s).symm
  have hq:i/s<n:=by rw[Nat.div_lt_iff_lt_mul hs0];exact hi
  rw[hdm,Z9n z.cells n s hsz (i/s) (i%s) (Nat.mod_lt _ hs0) hq]at hv;exact hc.2.2 _ v hv
 ·intro i e' o x hi ho;have hi':i<n:=by have:=(List.getElem?_eq_some_iff.1 hi).1;simpa using this
  have he':e'=zs:=by
   have:=List.mem_of_getElem? hi;exact(List.mem_replicate.1 this).2
  subst he';have hos:o<s:=by rw[← hs];exact(List.getElem?_eq_some_iff.1 ho).1
  have ho2:o<z.cells.size:=by omega
  refine⟨z.cells[o],by rw[Z9n z.cells n s hsz i o hos hi'];exact Array.getElem?_eq_getElem ho2, ?_⟩;have hlo:l[o]? = some (.d x):=by rw[e];simp[dvs,ho]
  have:=hc.2.1 o _ _ hlo (Array.getElem?_eq_getElem ho2);cases this with
  | d h=>exact h
def Z5M(P:Program)(e:Nat):Option (List DV):=match zeroOf P e with | some z=>(match (cv z).cells with | some l=>Zcp l | none=>none) | none=>none
def Z50(P:Program)(t id:Nat)(hs:List Hint)(x y:AV):Option Res :=
 match Z1c P t with
 | none=>none
 | some e=>match Z5M P e with
  | none=>none
  | some zs=>match bytesOf P e,szOf P e with
   | b+1,s+1=>if zs.length=s+1 then
    match x,y with
    | .d (.sc (.int _ n)),.d (.sc (.int _ c))=>match hs with
     | .els l'::_=>some ⟨.ow id,some (id,.arr e (s+1) l'),[0≤n∧n≤c∧c*(b+1)≤2^48,List.replicate n.toNat zs=l']⟩
     | _=>some ⟨.ow id,some (id,.arr e (s+1) (List.replicate n.toNat zs)),[0≤n∧n≤c∧c*(b+1)≤2^48]⟩
    | _,_=>none
    else none
   | _,_=>none
theorem Z8t{P:Program}{o:Oper}{id:Nat}{E:Operand→AV}{H:Heap}{r:Res}{x y:Operand}{t:Nat}{hs:List Hint}
  (ho:o.op = .makeSlice t x y) (h:Z50 P t id hs (E x) (E y)=some r):Z24 P o id E H r:=by
 intro Ow Im0 w0 ρ w Im clk a I hid hH hE hph;unfold Z50 at h;split at h
 ·cases h
 rename_i e he;split at h
 ·cases h
 rename_i zs hzs;split at h;rotate_left
 ·cases h
 rename_i b s hb hsz;split at h;rotate_left
 ·cases h
 rename_i hlen;split at h;rotate_left
 ·cases h
 rename_i k n k' c hx hy;have v1:=Z0L (hx▸hE x);have v2:=Z0L (hy▸hE y);have fin:0≤n∧n≤c∧c*(b+1)≤2^48→Goes P o a w fun v w'=>Then Ow Im0 w0 ρ w Im clk (updH H id (.arr e (s+1) (List.replicate n.toNat zs))) (.ow id) v w':=by
  rintro⟨p1,p2,p3⟩;have pc:c≤c*(b+1):=by
   rw[Int.mul_add,Int.mul_one];have:0≤c*(b:Int):=Int.mul_nonneg oq oq;omega
  unfold Z5M at hzs;split at hzs;rotate_left
  ·cases hzs
  rename_i z hz;split at hzs;rotate_left
  ·cases hzs
  rename_i l hl;have hzr:=Z5g (P:=P) hz w;unfold Z1c at he;split at he;rotate_left
  ·cases he
  rename_i e' hu;cases he;have hw1:IntKind.i64.wrap n=n:=IntWalk.i64_in _ oq;have hw2:IntKind.i64.wrap c=c:=IntWalk.i64_in _ oq;have hcell:=Z6R (w:=w) (Im:=Im) c.toNat hl hzs hlen;have hrel:RelE w Im (s+1) (List.replicate n.toNat zs) ((Array.range (c.toNat*(s+1))).map (z.cells[· % z.cells.size]!)):=by
   obtain⟨h1,h2,h3,h4⟩:=hcell;have hnc:n.toNat≤c.toNat:=by omega
   have hmul:n.toNat*(s+1)≤c.toNat*(s+1):=Nat.mul_le_mul_right _ hnc;refine⟨fun e he=>by rw[(List.mem_replicate.1 he).2];exact hlen,by simpa using hmul,fun i v hv hi=>h3 i v hv (by simp at hi ⊢;omega),fun i e o x hi ho=>h4 i e o x ?_ ho⟩;have hi1:=(List.getElem?_eq_some_iff.1 hi).1;simp only[List.length_replicate]at hi1;rw[List.getElem?_replicate,if_pos oq];rw[List.getElem?_replicate,if_pos hi1]at hi;exact hi
  have hinfo:∃ i,P.info? e=some i∧i.bytes=b+1∧i.size=s+1:=by
   unfold bytesOf at hb;unfold szOf at hsz;cases hi:P.info? e with
   | none=>simp[hi]at hb
   | some i=>simp only[hi]at hb hsz;exact⟨i,rfl,hb,hsz⟩
  obtain⟨i,hi,hib,his⟩:=hinfo;have hsr:(sizeOf e).run P w = .ok (s+1) w:=by simp[sizeOf,typeInfo,hi,his]
  have hne:¬ c.toNat=0∨c.toNat=0:=by omega
  have t1:¬ (c<0):=by omega
  have t2:¬ ((b+1:Int)*c > 2^48):=by rw[Int.mul_comm];omega
  have t3:¬ (n<0):=by omega
  have t4:¬ (n > c):=by omega
  have:=Then.arr (ty:=e) (c:=c.toNat) I hid hH hrel (by simp[big];omega) qo pq;refine .inl ⟨.slice (some ⟨w.heap.size,0,none⟩) n.toNat c.toNat,w.alloc (.cells ((Array.range (c.toNat*(s+1))).map (z.cells[· % z.cells.size]!)) e), ?_,by simpa using this⟩;have hib':(i.bytes:Int)=b+1:=by rw[hib];rfl
  have tl:(decide (c<0)||decide ((i.bytes:Int)*c > 2^48))=false:=by
   rw[Bool.or_eq_false_iff];exact⟨decide_eq_false t1,decide_eq_false (by rw[hib'];exact t2)⟩
  have tm:(decide (c<0)||decide ((i.bytes:Int)*c > 2^48)||decide (n<0)||decide (n > c))=false:=by
   rw[tl,Bool.false_or,Bool.or_eq_false_iff];exact⟨decide_eq_false t3,decide_eq_false t4⟩
  have mk:(Instr.makeSlice t (.int k n) (.int k' c)).run P w = .ok (.slice (some ⟨w.heap.size,0,none⟩) n.toNat c.toNat) (w.alloc (.cells ((Array.range (c.toNat*(s+1))).map (z.cells[· % z.cells.size]!)) e)):=by
   unfold Instr.makeSlice;simp only[Sem.run_bind,run_underlying hu,Result.andThen_ok,asInt,asIntOf,Sem.run_pure,typeInfo,run_program,hi,hw1,hw2,tm,Bool.false_eq_true,if_false,run_askRoom,hsr];by_cases hc0:c.toNat*(s+1)=0
   ·simp[hc0,newRow,Array.range_zero']
   ·simp[newRow,hzr];intro h;exact absurd h hc0
  simp[execOp,ho,v1,v2,mk]
 split at h
 ·rename_i l' _;cases h;obtain⟨p1,p2⟩:=allP_cons.1 hph;have p2':List.replicate n.toNat zs=l':=by simpa[allP]using p2
  rw[← p2'];exact fin p1
 ·cases h;exact fin (by simpa[allP]using hph)
theorem Zm4{w:World}{Im:Nat→Prop}{s:Nat}{els:List (List DV)}{cs cs':Array Value}{i:Nat}{ds:List DV}{u:Array Value}(h:RelE w Im s els cs)(hi:i<els.length)(hd:ds.length=s)(hu:u.size=s)
  (hr:∀ (j:Nat) (x:DV) (v:Value),ds[j]? = some x→u[j]? = some v→RelD w Im x v) (hone:∀ (j:Nat) (v:Value),u[j]? = some v→v.oneCell'=true) (hsz:cs'.size=cs.size)
  (hget:∀ j,cs'[j]? = if j<i*s then cs[j]? else if j<i*s+u.size then u[j-i*s]? else cs[j]?):RelE w Im s (els.set i ds) cs':=by
 obtain⟨h1,h2,h3,h4⟩:=h;refine⟨fun e he=>?_,by simpa[hsz]using h2,fun j v hv hj=>?_,fun k e o x hk ho=>?_⟩
 ·rcases List.mem_or_eq_of_mem_set he with h | h
  ·exact h1 e h
  ·rw[h];exact hd
 ·simp only[List.length_set]at hj;rw[hget]at hv;split at hv
  ·exact h3 j v hv hj
  ·split at hv
   ·exact hone _ v hv
   ·exact h3 j v hv hj
 ·rw[List.getElem?_set]at hk;by_cases hki:i=k
  ·subst hki;simp only[if_true,hi]at hk;cases hk;have hos:o<s:=by rw[← hd];exact(List.getElem?_eq_some_iff.1 ho).1
   have hou:o<u.size:=by omega
   refine⟨u[o], ?_,hr o x _ ho (Array.getElem?_eq_getElem hou)⟩;rw[hget,if_neg oq,if_pos oq,show i*s+o-i*s=o from by omega];exact Array.getElem?_eq_getElem hou
  ·simp only[hki,if_false]at hk;obtain⟨v,k1,k2⟩:=h4 k e o x hk ho;have hes:e.length=s:=h1 e (List.mem_of_getElem? hk);have hos:o<s:=by rw[← hes];exact(List.getElem?_eq_some_iff.1 ho).1
   refine⟨v, ?_,k2⟩;rw[hget];rcases Nat.lt_or_ge k i with hlt | hge
   ·have:(k+1)*s≤i*s:=Nat.mul_le_mul_right s hlt;rw[Nat.add_mul]at this;rw[if_pos oq];exact k1
   ·have:(i+1)*s≤k*s:=Nat.mul_le_mul_right s oq;rw[Nat.add_mul]at this;rw[if_neg oq,if_neg oq];exact k1
def Zjg(s:Nat)(els:List (List DV)):List (Nat×AV)→Option (List (List DV))
 | []=>some els
 | (i,x)::r=>match x.cells with
  | some xs=>match Zcp xs with
   | some ds=>if ds.length=s∧i<els.length then Zjg s (els.set i ds) r else none
   | none=>none
  | none=>none
theorem ZcO{ρ:Rho}{w:World}{Im:Nat→Prop}{s:Nat}:∀ {parts:List (Nat×AV)} {vals:List (Nat×Value)} {els els':List (List DV)} {cs:Array Value},
  parts.length=vals.length→(∀ (k:Nat) (p:Nat×AV) (q:Nat×Value),parts[k]? = some p→vals[k]? = some q→p.1=q.1∧Rel ρ w Im p.2 q.2)→RelE w Im s els cs→cs.size=els.length*s→Zjg s els parts=some els' →
  ∃ cs',Instr.fill (fun i=>some (i*s,s)) cs vals=some cs'∧RelE w Im s els' cs'∧cs'.size=els'.length*s∧els'.length=els.length
 | [],vals,els,els',cs,hn,_,hr,hz,h=>by
  cases vals with
  | nil=>simp[Zjg]at h;subst h;exact⟨cs,rfl,hr,hz,rfl⟩
  | cons _ _=>simp at hn
 | (i,x)::parts,vals,els,els',cs,hn,hp,hr,hz,h=>by
  cases vals with
  | nil=>simp at hn
  | cons q vals =>
   obtain⟨i',v⟩:=q;obtain⟨h1,h2⟩:=hp 0 _ _ rfl rfl;simp only at h1 h2;subst h1;simp only[Zjg]at h;split at h;rotate_left
   ·cases h
   rename_i xs hxs;split at h;rotate_left
   ·cases h
   rename_i ds hds;split at h;rotate_left
   ·cases h
   rename_i hc;obtain⟨c1,c2,c3⟩:=h2.cells hxs;have hxd:=Z2X hds;have hvs:v.cells.size=s:=by rw[c1,hxd];simp[dvs,hc.1]
   have hfit:i*s+v.cells.size≤cs.size:=by
    have:(i+1)*s≤els.length*s:=Nat.mul_le_mul_right s hc.2;rw[Nat.add_mul]at this;omega
   have key:=Za3 v (i*s) cs hfit;have hrel:=Zm4 hr hc.2 hc.1 hvs (fun j y u hy hu=>by
    have:xs[j]? = some (.d y):=by rw[hxd];simp[dvs,hy]
    cases c2 j _ u this hu with
    | d h=>exact h) c3 key.1 key.2
   obtain⟨cs',h3,h4,h5,h6⟩:=ZcO (ρ:=ρ) (by simpa using hn) (fun k p q hk hq=>hp (k+1) p q (by simpa using hk) (by simpa using hq)) hrel (by rw[key.1,hz];simp) h;refine⟨cs', ?_,h4,h5,by rw[h6];simp⟩;simp only[Instr.fill];rw[if_neg qo];exact h3
def Z4k(P:Program)(t len id:Nat)(hs:List Hint)(parts:List (Nat×AV)):Option Res :=
 match Z1c P t with
 | none=>none
 | some e=>match Z5M P e with
  | none=>none
  | some zs=>match szOf P e with
   | 0=>none
   | s+1=>if zs.length=s+1∧len*(s+1)≤16777216 then
    match Zjg (s+1) (List.replicate len zs) parts with
    | some els=>match hs with
     | .els l'::_=>some ⟨.ow id,some (id,.arr e (s+1) l'),[els=l']⟩
     | _=>some ⟨.ow id,some (id,.arr e (s+1) els),[]⟩
    | none=>none
    else none
theorem Z7Q{P:Program}{o:Oper}{id:Nat}{E:Operand→AV}{H:Heap}{r:Res}{t len:Nat}{parts:Array (Nat×Operand)}{hs:List Hint}
  (ho:o.op = .buildSlice t len parts) (h:Z4k P t len id hs (parts.toList.map fun p=>(p.1,E p.2))=some r):Z24 P o id E H r:=by
 intro Ow Im0 w0 ρ w Im clk a I hid hH hE hph;unfold Z4k at h;split at h
 ·cases h
 rename_i e he;split at h
 ·cases h
 rename_i zs hzs;split at h
 ·cases h
 rename_i s hsz;split at h;rotate_left
 ·cases h
 rename_i hlen;split at h;rotate_left
 ·cases h
 rename_i els hels;have fin:Goes P o a w fun v w'=>Then Ow Im0 w0 ρ w Im clk (updH H id (.arr e (s+1) els)) (.ow id) v w':=by
  unfold Z5M at hzs;split at hzs;rotate_left
  ·cases hzs
  rename_i z hz;split at hzs;rotate_left
  ·cases hzs
  rename_i l hl;have hzr:=Z5g (P:=P) hz w;unfold Z1c at he;split at he;rotate_left
  ·cases he
  rename_i e' hu;cases he;have hsr:(sizeOf e).run P w = .ok (s+1) w:=Z3B hsz pq w;have hcell:=Z6R (w:=w) (Im:=Im) len hl hzs hlen.1;have hparts:∀ (k:Nat) (p:Nat×AV) (q:Nat×Value),(parts.toList.map fun p=>(p.1,E p.2))[k]? = some p→(parts.toList.map fun p=>(p.1,a.eval p.2))[k]? = some q→p.1=q.1∧Rel ρ w Im p.2 q.2:=by
   intro k p q hp hq;simp only[List.getElem?_map,Option.map_eq_some_iff]at hp hq;obtain⟨x,hx,rfl⟩:=hp;obtain⟨y,hy,rfl⟩:=hq;rw[hx]at hy;cases hy;exact⟨rfl,hE _⟩
  obtain⟨cs,h1,h2,h3,h4⟩:=ZcO (ρ:=ρ) (vals:=parts.toList.map fun p=>(p.1,a.eval p.2)) pq hparts hcell pq hels;have hl':els.length=len:=by rw[h4];simp
  have hle:len≤len*(s+1):=Nat.le_mul_of_pos_right _ oq;have:=Then.arr (ty:=e) (c:=els.length) I hid hH h2 (by simp[big];omega) (Nat.le_refl _) oq;refine .inl ⟨.slice (some ⟨w.heap.size,0,none⟩) els.length els.length,w.alloc (.cells cs e), ?_,this⟩;have tl:¬ (len*(s+1) > 2^24):=by omega
  have hpl:(parts.map fun x=>(x.1,a.eval x.2)).toList=parts.toList.map fun p=>(p.1,a.eval p.2):=by simp
  have mk:(Instr.buildSlice t len (parts.map fun x=>(x.1,a.eval x.2))).run P w = .ok (.slice (some ⟨w.heap.size,0,none⟩) els.length els.length) (w.alloc (.cells cs e)):=by
   unfold Instr.buildSlice;rw[hpl];simp only[Sem.run_bind,run_underlying hu,Result.andThen_ok,hsr,tl,if_false];by_cases hc0:len*(s+1)=0
   ·rw[hc0]at h1;simp only[Array.range_zero',Array.map_empty]at h1;simp only[hc0,if_true,Sem.run_bind,Sem.run_pure,Result.andThen_ok,Array.range_zero',Array.map_empty];rw[h1];simp[newRow,hl']
   ·simp only[hc0,if_false,Sem.run_bind,hzr,Result.andThen_ok,Sem.run_pure];rw[h1];simp[newRow,hl']
  simp only[execOp,ho];simp only[Sem.run_bind,mk,Result.andThen_ok,Sem.run_pure]
 split at h
 ·rename_i l' _;cases h;have p2:els=l':=by simpa[allP]using hph
  rw[← p2];exact fin
 ·cases h;exact fin
def Z15(H:Heap):AV→Option (Nat×List (List DV))
 | .d (.sl s els)=>some (s,els)
 | .d (.sc (.slice _ 0 _))=>some (1,[])
 | .ow b=>match H b with | some (.arr _ s els)=>some (s,els) | _=>none
 | .os b o n=>match H b with | some (.arr _ s els)=>some (s,(els.drop o).take n) | _=>none
 | _=>none
theorem Z1u{Ow:Own}{Im0:Nat→Prop}{w0:World}{ρ:Rho}{w:World}{Im:Nat→Prop}{H:Heap}{clk:Nat}{x:AV}{v:Value}{s:Nat}{els:List (List DV)}
  (I:Inv Ow Im0 w0 ρ w Im H clk) (hx:Rel ρ w Im x v) (h:Z15 H x=some (s,els)):∃ p c,v = .slice p els.length c∧els.length≤big∧els.length≤c∧(els≠[]→∀ e∈els,e.length=s)∧(els=[]∨∃ q,p=some q∧q.spot=none ∧
   ∀ (i:Nat) (e:List DV) (o:Nat) (y:DV),els[i]? = some e→e[o]? = some y→∃ u,w.cell? ⟨q.block,q.off+(i*s+o),none⟩=some u∧RelD w Im y u):=by
 unfold Z15 at h;split at h
 ·cases h;cases hx with
  | d hx =>
   cases hx with
   | slNil s p c=>exact⟨p,c,rfl,by simp,by simp,by simp,.inl rfl⟩
   | sl s els p n c f hn hc hb hs hp him hcell hrel =>
    subst hn;exact⟨some p,c,rfl,hb,hc,fun _=>hs,.inr ⟨p,rfl,hp,fun i e o y hi ho=>⟨f i o,hcell i e o y hi ho,hrel i e o y hi ho⟩⟩⟩
 ·cases h;exact⟨_,_,Z0L hx,by simp,by simp,by simp,.inl rfl⟩
 ·split at h;rotate_left
  ·cases h
  rename_i b _ ty s' els' hb;cases h;cases hx with
  | ow hρ hc hbg ha =>
   rename_i c ad β;obtain⟨β',h1,h2⟩:=I.blk b _ hb;rw[hρ]at h1;cases h1;obtain⟨g1,g2,_,g3,g4⟩:=h2;refine⟨ad,c,by rw[g2],by omega,by omega,fun _=>g3, ?_⟩;by_cases he:els=[]
   ·exact .inl he
   ·right;have hpos:0<els.length:=List.length_pos_iff.2 he;rcases g4 with⟨_,g4⟩ | ⟨g,cs,hg,hw,hsz,hcell⟩
    ·exact absurd g4 he
    rcases ha with ha | ⟨g',hg',rfl,_⟩
    ·omega
    rw[hg]at hg';cases hg';refine⟨⟨g,0,none⟩,rfl,rfl,fun i e o y hi ho=>?_⟩;obtain⟨u,k1,k2⟩:=hcell i e o y hi ho;exact⟨u,by simp[World.cell?,hw,k1],k2⟩
 ·split at h;rotate_left
  ·cases h
  rename_i b oo m _ ty s' els' hb;cases h;cases hx with
  | os hρ hn hc hbg ha =>
   rename_i c ad β;obtain⟨β',h1,h2⟩:=I.blk b _ hb;rw[hρ]at h1;cases h1;obtain⟨g1,g2,_,g3,g4⟩:=h2;have hl:((els'.drop oo).take m).length=m:=by simp;omega
   refine⟨ad,c,by rw[hl],by omega,by omega,fun _ e he=>g3 e (List.mem_of_mem_drop (List.mem_of_mem_take he)), ?_⟩;by_cases he:(els'.drop oo).take m=[]
   ·exact .inl he
   ·right;have hpos:0<m:=by
     rw[← hl];exact List.length_pos_iff.2 he
    rcases g4 with⟨_,g4⟩ | ⟨g,cs,hg,hw,hsz,hcell⟩
    ·subst g4;simp at he
    rcases ha with ha | ⟨g',hg',rfl,_⟩
    ·omega
    rw[hg]at hg';cases hg';refine⟨⟨g,oo*β.s,none⟩,rfl,rfl,fun i e o y hi ho=>?_⟩;have hi':els'[oo+i]? = some e:=by
     rw[List.getElem?_take]at hi;split at hi
     ·rwa [List.getElem?_drop]at hi
     ·cases hi
    obtain⟨u,k1,k2⟩:=hcell (oo+i) e o y hi' ho;refine⟨u, ?_,k2⟩;rw[Nat.add_mul]at k1;simp only[World.cell?,hw,g1];simpa[Nat.add_assoc]using k1
 ·cases h
theorem Z1I{P:Program}{w:World}{Im:Nat→Prop}{s:Nat}{els:List (List DV)}{p:Option Addr}{n c:Nat}(hs0:0<s)(hlen:els≠[]→∀ e∈els,e.length=s)
  (h:els=[]∨∃ q,p=some q∧q.spot=none∧∀ (i:Nat) (e:List DV) (o:Nat) (y:DV),els[i]? = some e→e[o]? = some y→∃ u,w.cell? ⟨q.block,q.off+(i*s+o),none⟩=some u∧RelD w Im y u) :
  ∃ cs,(Builtin.firstCells s els.length (.slice p n c)).run P w = .ok cs w∧RelE w Im s els cs∧cs.size=els.length*s:=by
 rcases h with h | ⟨q,rfl,hq,h⟩
 ·subst h;refine⟨#[], ?_,⟨by simp,by simp,by simp,by simp⟩,by simp⟩;cases p with
  | none=>simp[Builtin.firstCells]
  | some q=>simp[Builtin.firstCells,loadCells,loadCellsFrom]
 ·have hex:∀ j,j<els.length*s→∃ e y u,els[j/s]? = some e∧e[j%s]? = some y∧w.cell? ⟨q.block,q.off+j,none⟩=some u∧RelD w Im y u:=by
   intro j hj;have h1:j/s<els.length:=by rw[Nat.div_lt_iff_lt_mul hs0];exact hj
   have h2:els≠[]:=by intro h;subst h;simp at h1
   have h3:(els[j/s]).length=s:=hlen h2 _ (List.getElem_mem h1);have h4:j%s<(els[j/s]).length:=by rw[h3];exact Nat.mod_lt _ hs0
   obtain⟨u,k1,k2⟩:=h (j/s) _ (j%s) _ (List.getElem?_eq_getElem h1) (List.getElem?_eq_getElem h4);refine⟨_,_,u,List.getElem?_eq_getElem h1,List.getElem?_eq_getElem h4, ?_,k2⟩;rw[show j/s*s+j%s=j from by rw[Nat.mul_comm];exact Nat.div_add_mod j s]at k1;exact k1
  have hrun:=run_loadCells (P:=P) w q (els.length*s) (fun j=>(w.cell? ⟨q.block,q.off+j,none⟩).getD undef) (fun j hj=>by
   obtain⟨e,y,u,_,_,k,_⟩:=hex j hj;rw[addr_add hq,k];rfl)
  refine⟨_,by simpa[Builtin.firstCells]using hrun,⟨fun e he=>hlen (by intro h;subst h;simp at he) e he,by simp, ?_, ?_⟩,by simp⟩
  ·intro j v hv hj;obtain⟨e,y,u,_,_,k,k2⟩:=hex j hj;simp[hj,k]at hv;subst hv;exact k2.one
  ·intro i e o y hi ho;have hes:e.length=s:=hlen (by intro h;subst h;simp at hi) e (List.mem_of_getElem? hi);have hos:o<s:=by rw[← hes];exact(List.getElem?_eq_some_iff.1 ho).1
   have hj:i*s+o<els.length*s:=by
    have:(i+1)*s≤els.length*s:=Nat.mul_le_mul_right s (List.getElem?_eq_some_iff.1 hi).1;rw[Nat.add_mul]at this;omega
   obtain⟨u,k1,k2⟩:=h i e o y hi ho;exact⟨u,by simp[hj,k1],k2⟩
def Z0K(els:List (List DV))(o:Nat)(xs:List (List DV)):List (List DV):=els.take o++xs++els.drop (o+xs.length)
theorem Z8W{w:World}{Im:Nat→Prop}{s o:Nat}{els xs:List (List DV)}{cs cs' u:Array Value}(h:RelE w Im s els cs)(hx:RelE w Im s xs u)(hu:u.size=xs.length*s)(ho:o+xs.length≤els.length)
  (hsz:cs'.size=cs.size) (hget:∀ j,cs'[j]? = if j<o*s then cs[j]? else if j<o*s+u.size then u[j-o*s]? else cs[j]?):RelE w Im s (Z0K els o xs) cs':=by
 obtain⟨h1,h2,h3,h4⟩:=h;obtain⟨k1,k2,k3,k4⟩:=hx;have hl:(Z0K els o xs).length=els.length:=Z17 ho;refine⟨fun e he=>?_,by rw[hl,hsz];exact h2,fun j v hv hj=>?_,fun k e q x hk hq=>?_⟩
 ·simp only[Z0K,List.mem_append]at he;rcases he with(he | he) | he
  ·exact h1 e (List.mem_of_mem_take he)
  ·exact k1 e he
  ·exact h1 e (List.mem_of_mem_drop he)
 ·rw[hl]at hj;rw[hget]at hv;split at hv
  ·exact h3 j v hv hj
  ·split at hv
   ·exact k3 _ v hv oq
   ·exact h3 j v hv hj
 ·simp only[Z0K]at hk;rw[Z23 ho]at hk;have hes:e.length=s:=by
   split at hk
   ·exact h1 e (List.mem_of_getElem? hk)
   ·split at hk
    ·exact k1 e (List.mem_of_getElem? hk)
    ·exact h1 e (List.mem_of_getElem? hk)
  have hqs:q<s:=by rw[← hes];exact(List.getElem?_eq_some_iff.1 hq).1
  split at hk
  ·rename_i hlt;obtain⟨v,a1,a2⟩:=h4 k e q x hk hq;have:(k+1)*s≤o*s:=Nat.mul_le_mul_right s hlt;rw[Nat.add_mul]at this;exact⟨v,by rw[hget,if_pos oq];exact a1,a2⟩
  ·rename_i hge;split at hk
   ·rename_i hlt;obtain⟨v,a1,a2⟩:=k4 (k-o) e q x hk hq;have e1:k*s=o*s+(k-o)*s:=by rw[← Nat.add_mul];congr 1;omega
    have:(k-o+1)*s≤xs.length*s:=Nat.mul_le_mul_right s oq;rw[Nat.add_mul]at this;exact⟨v,by rw[hget,if_neg oq,if_pos oq,show k*s+q-o*s=(k-o)*s+q from by omega];exact a1,a2⟩
   ·rename_i hge2;obtain⟨v,a1,a2⟩:=h4 k e q x hk hq;have:(o+xs.length)*s≤k*s:=Nat.mul_le_mul_right s oq;rw[Nat.add_mul]at this;exact⟨v,by rw[hget,if_neg oq,if_neg oq];exact a1,a2⟩
theorem ZbR{ρ:Rho}{w:World}{Im:Nat→Prop}{β:Bi}{ty s:Nat}{els:List (List DV)}{g:Nat}{cs:Array Value}(h:RelB ρ w Im β (.arr ty s els))(hg:β.g=some g)(hw:w.heap[g]? = some (.cells cs ty (0,0))):RelE w Im s els cs:=by
 obtain⟨g1,g2,_,g3,g4⟩:=h;rcases g4 with⟨g4,_⟩ | ⟨g',cs',hg',hw',hsz,hcell⟩
 ·rw[hg]at g4;cases g4
 ·rw[hg]at hg';cases hg';rw[hw]at hw';cases hw';refine⟨g3,hsz,fun i v hv hi=>?_,hcell⟩;have hs0:0<s:=by
   rcases Nat.eq_zero_or_pos s with h | h
   ·subst h;simp at hi
   ·exact h
  have h1:i/s<els.length:=by rw[Nat.div_lt_iff_lt_mul hs0];exact hi
  have h3:(els[i/s]).length=s:=g3 _ (List.getElem_mem h1);have h4:i%s<(els[i/s]).length:=by rw[h3];exact Nat.mod_lt _ hs0
  obtain⟨u,k1,k2⟩:=hcell (i/s) _ (i%s) _ (List.getElem?_eq_getElem h1) (List.getElem?_eq_getElem h4);rw[show i/s*s+i%s=i from by rw[Nat.mul_comm];exact Nat.div_add_mod i s,hv]at k1;cases k1;exact k2.one
def ZbM(P:Program)(t:Nat)(hs:List Hint)(x y:AV)(H:Heap):Option Res :=
 match Z1c P t with
 | none=>none
 | some e=>match szOf P e with
  | 0=>none
  | s+1=>match Z15 H y with
   | some (s',xs)=>if s'=s+1 then
    match x with
    | .ow b=>match H b with
     | some (.arr ty s2 els)=>if s2=s+1 then
      match hs with
      | .els l'::_=>some ⟨.d (.sc (.int .i64 xs.length)),some (b,.arr ty s2 l'),[xs.length≤els.length,Z0K els 0 xs=l']⟩
      | _=>some ⟨.d (.sc (.int .i64 xs.length)),some (b,.arr ty s2 (Z0K els 0 xs)),[xs.length≤els.length]⟩
      else none
     | _=>none
    | .os b o n=>match H b with
     | some (.arr ty s2 els)=>if s2=s+1 then
      match hs with
      | .els l'::_=>some ⟨.d (.sc (.int .i64 xs.length)),some (b,.arr ty s2 l'),[xs.length≤n,Z0K els o xs=l']⟩
      | _=>some ⟨.d (.sc (.int .i64 xs.length)),some (b,.arr ty s2 (Z0K els o xs)),[xs.length≤n]⟩
      else none
     | _=>none
    | _=>none
    else none
   | none=>none
theorem Zgz{P:Program}{o:Oper}{id:Nat}{E:Operand→AV}{H:Heap}{r:Res}{x y:Operand}{t t':Nat}{hs:List Hint}
  (ho:o.op = .call ⟨.builtin .copy,#[x,y],#[t,t']⟩) (h:ZbM P t hs (E x) (E y) H=some r):Z24 P o id E H r:=by
 intro Ow Im0 w0 ρ w Im clk a I hid hH hE hph;have hx:=hE x;have hy:=hE y;unfold ZbM at h;split at h
 ·cases h
 rename_i e he;split at h
 ·cases h
 rename_i s hsz;split at h;rotate_left
 ·cases h
 rename_i s' xs hcont;split at h;rotate_left
 ·cases h
 rename_i hs';subst hs';obtain⟨p,c,hvy,hbx,hcx,hlx,hcellx⟩:=Z1u I hy hcont;obtain⟨u,hu1,hu2,hu3⟩:=Z1I (P:=P) (p:=p) (n:=xs.length) (c:=c) oq hlx hcellx;unfold Z1c at he;split at he;rotate_left
 ·cases he
 rename_i e' hut;cases he;have hsr:(sizeOf e).run P w = .ok (s+1) w:=Z3B hsz pq w;have fin:∀ (b oo n g c':Nat) (ty:Nat) (els:List (List DV)) (β:Bi),ρ b=some β→H b=some (.arr ty (s+1) els)→β.g=some g→a.eval x = .slice (some ⟨g,oo*(s+1),none⟩) n c'→xs.length≤n→oo+n≤els.length →
   Goes P o a w fun v w'=>Then Ow Im0 w0 ρ w Im clk (updH H b (.arr ty (s+1) (Z0K els oo xs))) (.d (.sc (.int .i64 xs.length))) v w':=by
  intro b oo n g c' ty els β hρ hb hg hvx hxn hon;obtain⟨β',h1,h2⟩:=I.blk b _ hb;rw[hρ]at h1;cases h1;have h2':=h2;obtain⟨g1,g2,g3,g4,g5⟩:=h2;rcases g5 with⟨g5,_⟩ | ⟨g',cs,hg',hw,hszc,hcell⟩
  ·rw[hg]at g5;cases g5
  rw[hg]at hg';cases hg';have hE1:=ZbR h2' hg hw;have hfit:oo*(s+1)+u.toList.length≤cs.toList.length:=by
   have:(oo+xs.length)*(s+1)≤els.length*(s+1):=Nat.mul_le_mul_right _ oq;rw[Nat.add_mul]at this;simp[hu3];omega
  have hone:∀ v∈u.toList,v.oneCell'=true:=by
   intro v hv;obtain⟨k,hk⟩:=List.getElem?_of_mem hv;have hk':u[k]? = some v:=by simpa using hk
   exact hu2.2.2.1 k v hk' (by rw[← hu3];exact(Array.getElem?_eq_some_iff.1 hk').1)
  have hst:=run_storeCells_at P g (oo*(s+1)) ty u.toList 0 cs w hw (by simpa using hfit) hone;simp only[Nat.add_zero]at hst;obtain⟨bg,bs,bn⟩:=β;simp only at hg g1 g2;subst hg;subst g1;subst g2;have hlen:((cs.toList.take (oo*(s+1))++u.toList++cs.toList.drop (oo*(s+1)+u.toList.length)).toArray).size=cs.size:=by
   rw[List.size_toArray,Z17 hfit];simp
  have hget:∀ j,((cs.toList.take (oo*(s+1))++u.toList++cs.toList.drop (oo*(s+1)+u.toList.length)).toArray)[j]? = if j<oo*(s+1)then cs[j]? else if j<oo*(s+1)+u.size then u[j-oo*(s+1)]? else cs[j]? := by
   intro j;rw[List.getElem?_toArray,Z23 hfit];simp
  have hsp:=Z8W hE1 hu2 hu3 (show oo+xs.length≤els.length by omega) hlen hget;have hput:=I.put b g (s+1) els.length cs _ ty (.arr ty (s+1) (Z0K els oo xs)) hρ hw hlen ⟨_,hb,by simp⟩ (fun he=>by
   have hl:(Z0K els oo xs).length=els.length:=Z17 oq;refine⟨rfl,hl.symm,by rw[hl];exact g3,hsp.1,.inr ⟨g,_,rfl,setRow_heap w g cs _ ty _ hw,by rw[hlen,hl];exact hszc,fun i e o y hi ho=>?_⟩⟩;obtain⟨v,k1,k2⟩:=hsp.2.2.2 i e o y hi ho;exact⟨v,k1,k2.mono he (fun _ h=>h)⟩)
  refine .inl ⟨.int .i64 xs.length,_, ?_,ρ,hput.1,hput.2,fun _ _ h=>h,.d (.sc _ rfl)⟩;have hmin:Nat.min xs.length n=xs.length:=Nat.min_eq_left hxn;have hcp:(Builtin.copy_ #[t,t'] o.type #[.slice (some ⟨g,oo*(s+1),none⟩) n c',.slice p xs.length c]).run P w = .ok (goInt xs.length) (w.setRow g (cs.toList.take (oo*(s+1))++u.toList++cs.toList.drop (oo*(s+1)+u.toList.length)).toArray):=by
   unfold Builtin.copy_;simp only[List.getElem?_toArray,List.getElem?_cons_zero,List.getElem?_cons_succ,Sem.run_bind,run_underlying hut,Result.andThen_ok,Builtin.lenOf,Sem.run_pure,hsr,hmin,hu1,hst]
  simp[execOp,ho,resolve,hvx,hvy,invoke,builtin,hcp,goInt]
 split at h
 ·rename_i b hE1;rw[hE1]at hx;split at h;rotate_left
  ·cases h
  rename_i ty s2 els hb;split at h;rotate_left
  ·cases h
  rename_i hs2;subst hs2;generalize hvx:a.eval x=v at hx;cases hx with
  | ow hρ hc hbg ha =>
   rename_i c' ad β;obtain⟨β',h1,h2⟩:=I.blk b _ hb;rw[hρ]at h1;cases h1;have h2':=h2;obtain⟨g1,g2,_,_,_⟩:=h2;have base:xs.length≤els.length→Goes P o a w fun v w'=>Then Ow Im0 w0 ρ w Im clk (updH H b (.arr ty (s+1) (Z0K els 0 xs))) (.d (.sc (.int .i64 xs.length))) v w':=by
    intro hle;by_cases hx0:xs=[]
    ·-- nothing is copied
     subst hx0;have hsame:Z0K els 0 []=els:=by simp[Z0K]
     have hupd:updH H b (.arr ty (s+1) els)=H:=by funext k;unfold updH;split<;>simp_all
     rw[hsame,hupd];have hu0:u = #[]:=by apply Array.eq_empty_of_size_eq_zero;simpa using hu3
     refine .inl ⟨.int .i64 0,w, ?_,.same I (.d (.sc _ rfl))⟩;have hcp:(Builtin.copy_ #[t,t'] o.type #[.slice ad β.n c',.slice p 0 c]).run P w = .ok (goInt 0) w:=by
      unfold Builtin.copy_;simp only[List.length_nil]at hu1;have hmin:Nat.min 0 β.n=0:=Nat.zero_min _;simp only[List.getElem?_toArray,List.getElem?_cons_zero,List.getElem?_cons_succ,Sem.run_bind,run_underlying hut,Result.andThen_ok,Builtin.lenOf,Sem.run_pure,hsr,hmin,hu1,hu0];cases ad<;>simp[storeCells]
     have hvy':a.eval y = .slice p 0 c:=by simpa using hvy
     simp[execOp,ho,resolve,hvx,hvy',invoke,builtin,hcp,goInt]
    ·have hpos:0<xs.length:=List.length_pos_iff.2 hx0;rcases ha with ha | ⟨g,hg,rfl,hrow⟩
     ·omega
     ·exact fin b 0 β.n g c' ty els β hρ hb hg (by simpa using hvx) oq oq
   split at h
   ·rename_i l' _;cases h;obtain⟨p1,p2⟩:xs.length≤els.length∧Z0K els 0 xs=l':=by simpa[allP]using hph
    rw[← p2];exact base p1
   ·cases h;exact base (by simpa[allP]using hph)
 ·rename_i b oo n hE1;rw[hE1]at hx;split at h;rotate_left
  ·cases h
  rename_i ty s2 els hb;split at h;rotate_left
  ·cases h
  rename_i hs2;subst hs2;generalize hvx:a.eval x=v at hx;cases hx with
  | os hρ hn hc hbg ha =>
   rename_i c' ad β;obtain⟨β',h1,h2⟩:=I.blk b _ hb;rw[hρ]at h1;cases h1;have h2':=h2;obtain⟨g1,g2,_,_,_⟩:=h2;have base:xs.length≤n→Goes P o a w fun v w'=>Then Ow Im0 w0 ρ w Im clk (updH H b (.arr ty (s+1) (Z0K els oo xs))) (.d (.sc (.int .i64 xs.length))) v w':=by
    intro hle;by_cases hx0:xs=[]
    ·subst hx0;have hsame:Z0K els oo []=els:=by simp[Z0K]
     have hupd:updH H b (.arr ty (s+1) els)=H:=by funext k;unfold updH;split<;>simp_all
     rw[hsame,hupd];have hu0:u = #[]:=by apply Array.eq_empty_of_size_eq_zero;simpa using hu3
     refine .inl ⟨.int .i64 0,w, ?_,.same I (.d (.sc _ rfl))⟩;have hcp:(Builtin.copy_ #[t,t'] o.type #[.slice ad n c',.slice p 0 c]).run P w = .ok (goInt 0) w:=by
      unfold Builtin.copy_;simp only[List.length_nil]at hu1;have hmin:Nat.min 0 n=0:=Nat.zero_min _;simp only[List.getElem?_toArray,List.getElem?_cons_zero,List.getElem?_cons_succ,Sem.run_bind,run_underlying hut,Result.andThen_ok,Builtin.lenOf,Sem.run_pure,hsr,hmin,hu1,hu0];cases ad<;>simp[storeCells]
     have hvy':a.eval y = .slice p 0 c:=by simpa using hvy
     simp[execOp,ho,resolve,hvx,hvy',invoke,builtin,hcp,goInt]
    ·have hpos:0<xs.length:=List.length_pos_iff.2 hx0;rcases ha with ha | ⟨g,hg,rfl,hrow⟩
     ·omega
     ·exact fin b oo n g c' ty els β hρ hb hg (by rw[← g1];exact hvx) hle oq
   split at h
   ·rename_i l' _;cases h;obtain⟨p1,p2⟩:xs.length≤n∧Z0K els oo xs=l':=by simpa[allP]using hph
    rw[← p2];exact base p1
   ·cases h;exact base (by simpa[allP]using hph)
 ·cases h
def Sys(Ow:Own)(Im0:Nat→Prop)(w0:World)(tmps:List AV)(H:Heap)(clk:Nat)(a:Act)(w:World):Prop :=
 ∃ ρ Im,Inv Ow Im0 w0 ρ w Im H clk∧RelT ρ w Im tmps a
def Z7o(f:AV→AV):AV→AV
 | .pt b i o=>f (.pt b i o)
 | .os b o n=>f (.os b o n)
 | .ow b=>f (.ow b)
 | .d x=>.d x
 | .rp e o=>.rp e o
 | _=>.any
def mapA(f:AV→AV):AV→AV
 | .ag l=>.ag (l.map (Z7o f))
 | .fn g caps=>.fn g (caps.map (Z7o f))
 | .ic t (.ag l)=>.ic t (.ag (l.map (Z7o f)))
 | .ic t a=>.ic t (Z7o f a)
 | a=>Z7o f a
section
variable {ρ ρ':Rho} {w:World} {Im Im':Nat→Prop} {f:AV→AV}
theorem Zk4(hi:∀ g,Im g→Im' g)(hpt:∀ b i o v,Rel ρ w Im (.pt b i o) v→Rel ρ' w Im' (f (.pt b i o)) v)(hos:∀ b o n v,Rel ρ w Im (.os b o n) v→Rel ρ' w Im' (f (.os b o n)) v)
  (how:∀ b v,Rel ρ w Im (.ow b) v→Rel ρ' w Im' (f (.ow b)) v) {a:AV} {v:Value} (h:Rel ρ w Im a v):Rel ρ' w Im' (Z7o f a) v:=by
 cases a with
 | pt b i o=>exact hpt _ _ _ _ h
 | os b o n=>exact hos _ _ _ _ h
 | ow b=>exact how _ _ h
 | d x=>cases h with | d h=>exact .d (h.mono (Ext.refl _ _) hi)
 | rp e o=>cases h with | rp h1 h2 h3=>exact .rp h1 (hi _ h2) (fun j x hx=>let ⟨v,k1,k2⟩:=h3 j x hx;⟨v,k1,k2.mono (Ext.refl _ _) hi⟩)
 | _=>exact .any _
theorem Z6l(hi:∀ g,Im g→Im' g)(hpt:∀ b i o v,Rel ρ w Im (.pt b i o) v→Rel ρ' w Im' (f (.pt b i o)) v)(hos:∀ b o n v,Rel ρ w Im (.os b o n) v→Rel ρ' w Im' (f (.os b o n)) v)
  (how:∀ b v,Rel ρ w Im (.ow b) v→Rel ρ' w Im' (f (.ow b)) v) {a:AV} {v:Value} (h:Rel ρ w Im a v):Rel ρ' w Im' (mapA f a) v:=by
 have leaf:∀ {a:AV} {v:Value},Rel ρ w Im a v→Rel ρ' w Im' (Z7o f a) v:=fun h=>Zk4 hi hpt hos how h;have agg:∀ {l:List AV} {v:Value},Rel ρ w Im (.ag l) v→Rel ρ' w Im' (.ag (l.map (Z7o f))) v:=fun h=>by
  obtain⟨cs,rfl,h1,h2,h3⟩:=Z2R h;refine .ag _ cs (by simpa using h1) h2 fun i x v hx hv=>?_;simp only[List.getElem?_map,Option.map_eq_some_iff]at hx;obtain⟨y,hy,rfl⟩:=hx;exact leaf (h3 i y v hy hv)
 cases a with
 | ag l=>exact agg h
 | fn g caps =>
  cases h with
  | fn h1 h3 =>
   refine .fn (by simpa using h1) fun i x v hx hv=>?_;simp only[List.getElem?_map,Option.map_eq_some_iff]at hx;obtain⟨y,hy,rfl⟩:=hx;exact leaf (h3 i y v hy hv)
 | ic t a =>
  cases h with
  | ic h =>
   cases a with
   | ag l=>exact .ic (agg h)
   | _=>exact .ic (leaf h)
 | pt b i o=>exact leaf h
 | os b o n=>exact leaf h
 | ow b=>exact leaf h
 | d x=>exact leaf h
 | rp e o=>exact leaf h
 | tu l=>exact .any _
 | gd g a=>exact .any _
 | any=>exact .any _
end
section
variable {Ow:Own} {Im0:Nat→Prop} {w0:World} {ρ:Rho} {w:World} {Im:Nat→Prop} {H:Heap} {clk:Nat}
theorem Inv.kill(I:Inv Ow Im0 w0 ρ w Im H clk){b:Nat}{B:Blk}(hb:H b=some B):Inv Ow Im0 w0 ρ w Im (updH H b .dead) clk:=by
 have hl:∀ k,live (updH H b .dead) k→k≠b∧live H k:=by
  intro k h;have hk:k≠b:=by
   rintro rfl;obtain⟨B',h1,h2⟩:=h;simp only[updH,if_true,Option.some.injEq]at h1;exact h2 h1.symm
  exact⟨hk,Z1b h hk⟩
 refine⟨I.kept,fun k k' β β' g l1 l2=>I.inj k k' β β' g (hl k l1).2 (hl k' l2).2,fun k β g l=>I.notIm k β g (hl k l).2,I.bnd,I.own,I.imb,I.im0,fun k B' h=>?_,fun k hk h=>?_,I.one⟩
 ·unfold updH at h;split at h
  ·rename_i e;cases h;obtain⟨β,h1,_⟩:=I.blk b B hb;exact⟨β,by rw[e];exact h1,trivial⟩
  ·exact I.blk k B' h
 ·unfold updH at h;split at h
  ·cases h
  ·exact I.fresh k hk h
theorem Inv.take(I:Inv Ow Im0 w0 ρ w Im H clk)(id:Nat)(hid:clk*8000≤id)(hH:H id=none)(g s n:Nat)(cs cs':Array Value)(ty:Nat)(B:Blk)
  (hfree:∀ k κ,live H k→ρ k=some κ→κ.g≠some g) (him:¬ Im g) (hown:w0.heap.size≤g∨OwA Ow g)
  (hg:w.heap[g]? = some (.cells cs ty (0,0))) (hs:cs'.size=cs.size)
  (hB:Ext Im w (w.setRow g cs')→RelB (updR ρ id ⟨some g,s,n⟩) (w.setRow g cs') Im ⟨some g,s,n⟩ B) :
  Inv Ow Im0 w0 (updR ρ id ⟨some g,s,n⟩) (w.setRow g cs') Im (updH H id B) clk∧Ext Im w (w.setRow g cs'):=by
 have hsz:(w.setRow g cs').heap.size=w.heap.size:=by simp[World.setRow]
 have hgl:g<w.heap.size:=by
  rcases Nat.lt_or_ge g w.heap.size with h | h
  ·exact h
  ·rw[Array.getElem?_eq_none h]at hg;cases hg
 have he:Ext Im w (w.setRow g cs'):=⟨by omega,fun k hk=>setRow_other w g k cs' (fun e=>him (e▸hk)),fun k _=>Z1J w g cs cs' ty hg hs k⟩
 have hn:=I.fresh id hid hH;refine⟨⟨?_, ?_, ?_, ?_, ?_,fun g h=>by rw[hsz];exact I.imb g h,I.im0, ?_, ?_,Z7q I.one hid⟩,he⟩
 ·have k:=I.kept;refine⟨k.os,k.tape,k.output,by rw[hsz];exact k.size,fun i hi ho=>?_,fun i hi=>?_⟩
  ·have:i≠g:=by
    rintro rfl;rcases hown with h | h
    ·omega
    ·exact ho h
   rw[setRow_other w g i cs' this];exact k.block i hi ho
  ·rw[Z1J w g cs cs' ty hg hs];exact k.rows i hi
 ·intro b b' β β' g' l1 l2 h1 h2 h3 h4;unfold updR at h1 h2;split at h1<;>split at h2
  ·omega
  ·cases h1;cases h3;exact absurd h4 (hfree b' β' (Z1b l2 aa) h2)
  ·cases h2;cases h4;exact absurd h3 (hfree b β (Z1b l1 aa) h1)
  ·exact I.inj b b' β β' g' (Z1b l1 aa) (Z1b l2 aa) h1 h2 h3 h4
 ·intro b β g' l h h';unfold updR at h;split at h
  ·cases h;cases h';exact him
  ·exact I.notIm b β g' (Z1b l aa) h h'
 ·intro b β g' h h';rw[hsz];unfold updR at h;split at h
  ·cases h;cases h';exact hgl
  ·exact I.bnd b β g' h h'
 ·intro b β g' h h';unfold updR at h;split at h
  ·rename_i hbi;cases h;cases h';have:=I.one;exact hown.imp (fun h=>⟨h,by omega⟩) (fun h=>h)
  ·exact I.own b β g' h h'
 ·intro b B' h;unfold updH at h;split at h
  ·cases h;rename_i hb;exact⟨_,by rw[hb];exact Z1s _ _ _,hB he⟩
  ·obtain⟨β,h1,h2⟩:=I.blk b B' h;cases B' with
   | dead=>exact⟨β,Z1E hn _ _ h1,trivial⟩
   | _ =>
    refine⟨β,Z1E hn _ _ h1,h2.mono he (fun _ h=>h) (Z1E hn) I.bnd (fun g' hg'=>setRow_other w g g' cs' ?_)⟩;rintro rfl;exact hfree b β ⟨_,h,by simp⟩ h1 hg'
 ·intro b hb h;unfold updH at h;unfold updR;split
  ·rename_i hbi;simp[hbi]at h
  ·rename_i hbi;simp only[hbi,if_false]at h;exact I.fresh b hb h
end
theorem Zcr(n:Nat):∀ (r c:Nat),Builtin.growBy n r c≤max c (n+(n+768)/4)
 | 0,c=>by simp only[Builtin.growBy];omega
 | r+1,c=>by
  simp only[Builtin.growBy];split
  ·omega
  ·have:=Zcr n r (c+(c+768)/4);omega
theorem nextslicecap_le(n c:Nat)(h:c<n):Builtin.nextslicecap n c≤2*n+192:=by
 unfold Builtin.nextslicecap;split
 ·omega
 ·split
  ·omega
  ·have:=Zcr n 4 c;omega
def Z8c(P:Program)(e:Nat):Bool:=match Z5M P e with | some zs=>zs.length==szOf P e | none=>false
def ZmE(P:Program)(t:Nat):Bool:=match P.underlying t with | some (.int _)=>true | _=>false
def Z3o(P:Program)(t t' id:Nat)(hs:List Hint)(x y:AV)(H:Heap):Option (Nat×Res) :=
 match x with
 | .ow b=>match H b with
  | some (.arr ty s els)=>match Z1c P t,Z1c P t' with
   | some e,some _=>match Z15 H y with
    | some (s',xs)=>if szOf P e=s∧s≠0∧(s'=s∨xs.length=0)∧e=ty∧bytesOf P e≤65536∧bytesOf P e≠0∧Z8c P e=true∧Nat.ble 8000 b=true then
     match hs with
     | .els l'::_=>some (b,⟨.ow id,some (id,.arr ty s l'),[els.length+xs.length≤2^30,els++xs=l']⟩)
     | _=>some (b,⟨.ow id,some (id,.arr ty s (els++xs)),[els.length+xs.length≤2^30]⟩)
     else none
    | none=>none
   | _,_=>none
  | _=>none
 | _=>none
def Z5r(P:Program)(t t' id:Nat)(hs:List Hint)(x:AV)(n:Int)(H:Heap):Option (Nat×Res) :=
 match x with
 | .ow b=>match H b with
  | some (.arr ty s els)=>match Z1c P t,ZmE P t' with
   | some e,true=>match Z5M P e with
    | some zs=>if szOf P e=s∧s≠0∧e=ty∧bytesOf P e≤65536∧bytesOf P e≠0∧Z8c P e=true∧Nat.ble 8000 b=true then
     match hs with
     | .els l'::_=>some (b,⟨.ow id,some (id,.arr ty s l'),[0≤n∧els.length+n≤2^30,els++List.replicate n.toNat zs=l']⟩)
     | _=>some (b,⟨.ow id,some (id,.arr ty s (els++List.replicate n.toNat zs)),[0≤n∧els.length+n≤2^30]⟩)
     else none
    | none=>none
   | _,_=>none
  | _=>none
 | _=>none
def Z46(P:Program)(t t' id:Nat)(hs:List Hint)(x y:AV)(H:Heap):Option (Nat×Res) :=
 match y with
 | .d (.sc (.int _ n))=>Z5r P t t' id hs x n H
 | _=>Z3o P t t' id hs x y H
theorem Z4p{w:World}{Im:Nat→Prop}{s:Nat}{els xs:List (List DV)}{cs:Array Value}{a b:Array Value}(h:RelE w Im s els a)(hx:RelE w Im s xs b)
  (hcs:(els.length+xs.length)*s≤cs.size) (h1:∀ j,j<els.length*s→cs[j]? = a[j]?) (h2:∀ j,j<xs.length*s→cs[els.length*s+j]? = b[j]?):RelE w Im s (els++xs) cs:=by
 obtain⟨a1,a2,a3,a4⟩:=h;obtain⟨b1,b2,b3,b4⟩:=hx;refine⟨fun e he=>?_,by rw[List.length_append];exact hcs,fun j v hv hj=>?_,fun i e o x hi ho=>?_⟩
 ·rcases List.mem_append.1 he with h | h
  ·exact a1 e h
  ·exact b1 e h
 ·rw[List.length_append,Nat.add_mul]at hj;by_cases hlt:j<els.length*s
  ·rw[h1 j hlt]at hv;exact a3 j v hv hlt
  ·have:=h2 (j-els.length*s) oq;rw[show els.length*s+(j-els.length*s)=j from by omega,hv]at this;exact b3 _ v this.symm oq
 ·have hes:e.length=s:=by
   rcases List.mem_append.1 (List.mem_of_getElem? hi)with h | h
   ·exact a1 e h
   ·exact b1 e h
  have hos:o<s:=by rw[← hes];exact(List.getElem?_eq_some_iff.1 ho).1
  rw[List.getElem?_append]at hi;split at hi
  ·rename_i hlt;obtain⟨v,k1,k2⟩:=a4 i e o x hi ho;have:(i+1)*s≤els.length*s:=Nat.mul_le_mul_right s hlt;rw[Nat.add_mul]at this;exact⟨v,by rw[h1 _ oq];exact k1,k2⟩
  ·rename_i hge;obtain⟨v,k1,k2⟩:=b4 (i-els.length) e o x hi ho;have hlt:=(List.getElem?_eq_some_iff.1 hi).1;have:(i-els.length+1)*s≤xs.length*s:=Nat.mul_le_mul_right s hlt;rw[Nat.add_mul]at this;have e1:i*s=els.length*s+(i-els.length)*s:=by rw[← Nat.add_mul];congr 1;omega
   exact⟨v,by rw[e1,Nat.add_assoc,h2 _ oq];exact k1,k2⟩
theorem Zb1{Ow:Own}{Im0:Nat→Prop}{w0:World}{ρ:Rho}{w:World}{Im:Nat→Prop}{H:Heap}{clk:Nat}{x:AV}{v:Value}{s:Nat}{els:List (List DV)}
  (I:Inv Ow Im0 w0 ρ w Im H clk) (hx:Rel ρ w Im x v) {s':Nat} (h:Z15 H x=some (s',els)) (hs:s'=s∨els.length=0):∃ p c,v = .slice p els.length c∧els.length≤big∧els.length≤c∧(els≠[]→∀ e∈els,e.length=s)∧(els=[]∨∃ q,p=some q∧q.spot=none ∧
   ∀ (i:Nat) (e:List DV) (o:Nat) (y:DV),els[i]? = some e→e[o]? = some y→∃ u,w.cell? ⟨q.block,q.off+(i*s+o),none⟩=some u∧RelD w Im y u):=by
 rcases hs with rfl | hs
 ·exact Z1u I hx h
 ·obtain⟨p,c,h1,h2,h3,_⟩:=Z1u I hx h;have e:=List.eq_nil_of_length_eq_zero hs;exact⟨p,c,h1,h2,h3,fun q=>absurd e q,.inl e⟩
theorem Zeq{P:Program}{o:Oper}{id t t':Nat}{x y:Operand}{hs:List Hint}{H:Heap}{E:Operand→AV}{b:Nat}{r:Res}{Ow:Own}{Im0:Nat→Prop}{w0:World}{ρ:Rho}{w:World}{Im:Nat→Prop}{clk:Nat}{a:Act}{tmps:List AV}
  (ho:o.op = .call ⟨.builtin .append,#[x,y],#[t,t']⟩) (h:Z3o P t t' id hs (E x) (E y) H=some (b,r)) (I:Inv Ow Im0 w0 ρ w Im H clk) (T:RelT ρ w Im tmps a)
  (hid:clk*8000≤id) (hH:H id=none) (hx:Rel ρ w Im (E x) (a.eval x)) (hy:Rel ρ w Im (E y) (a.eval y)) (hph:allP r.ph) :
  ∃ v w' ρ',(execOp a.eval o).run P w = .ok (.value v) w'∧Inv Ow Im0 w0 ρ' w' Im (r.heap (updH H b .dead)) clk∧RelT ρ' w' Im tmps a∧Rel ρ' w' Im r.val v:=by
 unfold Z3o at h;split at h;rotate_left
 ·cases h
 rename_i b' hE1;split at h;rotate_left
 ·cases h
 rename_i ty s els hb;split at h;rotate_left
 ·cases h
 rename_i e e2 he he2;split at h;rotate_left
 ·cases h
 rename_i s' xs hcont;split at h;rotate_left
 ·cases h
 rename_i hc;obtain⟨hsz,hs0,hss,rfl,hby,hby0,hz,hb8⟩:=hc;have hb8:=Nat.le_of_ble_eq_true hb8;have hs1:0<s:=Nat.pos_of_ne_zero hs0;have fin:els.length+xs.length≤2^30→b'=b→∃ v w' ρ',(execOp a.eval o).run P w = .ok (.value v) w'∧Inv Ow Im0 w0 ρ' w' Im (updH (updH H b .dead) id (.arr e s (els++xs))) clk∧RelT ρ' w' Im tmps a∧Rel ρ' w' Im (.ow id) v:=by
  rintro hbig rfl;rw[hE1]at hx;obtain⟨p,cy,hvy,hbx,hcx,hlx,hcellx⟩:=Zb1 I hy hcont hss;obtain⟨u,hu1,hu2,hu3⟩:=Z1I (P:=P) (p:=p) (n:=xs.length) (c:=cy) hs1 hlx hcellx;have hcontx:Z15 H (.ow b')=some (s,els):=by simp[Z15,hb]
  obtain⟨px,cx,hvx0,_,_,hlxx,hcellxx⟩:=Z1u I hx hcontx;obtain⟨ux,hux1,hux2,hux3⟩:=Z1I (P:=P) (p:=px) (n:=els.length) (c:=cx) hs1 hlxx hcellxx;have hut:P.underlying t=some (.slice e):=by
   unfold Z1c at he;split at he
   ·cases he;assumption
   ·cases he
  have hut':P.underlying t'=some (.slice e2):=by
   unfold Z1c at he2;split at he2
   ·cases he2;assumption
   ·cases he2
  have hsr:(sizeOf e).run P w = .ok s w:=Z3B hsz hs0 w;have hinfo:∃ i,P.info? e=some i∧i.bytes=bytesOf P e:=by
   unfold bytesOf at hby0 ⊢;cases hi:P.info? e with
   | none=>simp[hi]at hby0
   | some i=>exact⟨i,rfl,rfl⟩
  obtain⟨i,hi,hib⟩:=hinfo;generalize hvx:a.eval x=v at hx;cases hx with
  | ow hρ hc hbg ha =>
   rename_i c ad β;obtain⟨β',h1,h2⟩:=I.blk b' _ hb;rw[hρ]at h1;cases h1;have h2':=h2;obtain⟨g1,g2,g3,g4,g5⟩:=h2;rw[hvx]at hvx0;obtain⟨rfl,_,rfl⟩:ad=px∧β.n=els.length∧c=cx:=by injection hvx0 with q1 q2 q3;exact⟨q1,q2,q3⟩
   have ID:=I.kill hb;have TD:=T;have hidb:id≠b':=by rintro rfl;rw[hb]at hH;cases hH
   have hHd:updH H b' .dead id=none:=by unfold updH;rw[if_neg hidb];exact hH
   have hdead:∀ k κ g,live (updH H b' .dead) k→ρ k=some κ→β.g=some g→κ.g≠some g:=by
    intro k κ g hl hk hg hkg;have hkb:k≠b':=by
     rintro rfl;obtain⟨B',q1,q2⟩:=hl;simp only[updH,if_true,Option.some.injEq]at q1;exact q2 q1.symm
    exact hkb (I.inj k b' κ β g (Z1b hl hkb) ⟨_,hb,by simp⟩ hk hρ hkg hg)
   by_cases hfit:els.length+xs.length≤c
   ·-- there is room
    have run0:∀ w',(match ad with | some q=>storeCells (q.add (els.length*s)) u.toList | none=>pure ():Sem Unit).run P w = .ok () w' →
      (execOp a.eval o).run P w = .ok (.value (.slice ad (els.length+xs.length) c)) w':=by
     intro w' hw';have:(Builtin.append_ #[t,t'] o.type #[.slice ad els.length c,.slice p xs.length cy]).run P w = .ok (.slice ad (els.length+xs.length) c) w':=by
      unfold Builtin.append_;simp only[List.getElem?_toArray,List.getElem?_cons_zero,List.getElem?_cons_succ,Sem.run_bind,run_underlying hut,run_underlying hut',Result.andThen_ok,Builtin.lenOf,Sem.run_pure,hsr,Bool.false_eq_true,if_false,hfit,if_true,Bool.not_false,hu1];cases ad with
      | none=>simp only[Sem.run_pure]at hw' ⊢;cases hw';simp
      | some q=>simp only at hw' ⊢;simp[hw']
     simp[execOp,ho,resolve,hvx,hvy,invoke,builtin,g2,this]
    rcases g5 with⟨g5,rfl⟩ | ⟨g,cs,hg,hw,hszc,hcell⟩
    ·-- no memory yet,nothing comes
     rcases ha with ha | ⟨g',hg',_⟩
     rotate_left
     ·rw[g5]at hg';cases hg'
     subst ha;have hxs:xs=[]:=by cases xs with | nil=>rfl | cons _ _=>simp at hfit
     subst hxs;have hu0:u = #[]:=by apply Array.eq_empty_of_size_eq_zero;simpa using hu3
     have hrun:=run0 w (by cases ad<;>simp[hu0,storeCells]);have hn:=ID.fresh id hid hHd;have hsub:=Z1E (β:=⟨none,s,0⟩) hn;refine⟨_,w,updR ρ id ⟨none,s,0⟩,hrun, ?_,TD.mono (Ext.refl _ _) (fun _ h=>h) hsub ID.bnd, ?_⟩
     ·refine⟨ID.kept, ?_, ?_, ?_, ?_,ID.imb,ID.im0, ?_, ?_,Z7q ID.one hid⟩
      ·intro k k' κ κ' g l1 l2 h1 h2 h3 h4;unfold updR at h1 h2;split at h1<;>split at h2
       ·omega
       ·cases h1;cases h3
       ·cases h2;cases h4
       ·exact ID.inj k k' κ κ' g (Z1b l1 aa) (Z1b l2 aa) h1 h2 h3 h4
      ·intro k κ g l h h';unfold updR at h;split at h
       ·cases h;cases h'
       ·exact ID.notIm k κ g (Z1b l aa) h h'
      ·intro k κ g h h';unfold updR at h;split at h
       ·cases h;cases h'
       ·exact ID.bnd k κ g h h'
      ·intro k κ g h h';unfold updR at h;split at h
       ·cases h;cases h'
       ·exact ID.own k κ g h h'
      ·intro k B h;unfold updH at h;split at h
       ·cases h;rename_i hk;exact⟨_,by rw[hk];exact Z1s _ _ _,rfl,rfl,by simp[big],by simp,.inl ⟨rfl,rfl⟩⟩
       ·obtain⟨κ,h1,h2⟩:=ID.blk k B h;exact⟨κ,hsub _ _ h1,h2.mono (Ext.refl _ _) (fun _ h=>h) hsub ID.bnd (fun _ _=>rfl)⟩
      ·intro k hk h;unfold updH at h;unfold updR;split
       ·rename_i hbi;simp[hbi]at h
       ·rename_i hbi;simp only[hbi,if_false]at h;exact ID.fresh k hk h
     ·have:=Rel.ow (ρ:=updR ρ id ⟨none,s,0⟩) (w:=w) (Im:=Im) (c:=0) (a:=ad) (Z1s ρ id ⟨none,s,0⟩) (Nat.le_refl _) (by simp[big]) (.inl rfl);simpa using this
    ·-- the row's own spare cells
     have hnew:w0.heap.size≤g∨OwA Ow g:=(I.own b' β g hρ hg).imp (·.1) (fun h=>h);by_cases hc0:c=0
     ·-- no cell: nothing comes
      subst hc0;have hl0:els=[]:=by cases els with | nil=>rfl | cons _ _=>simp at hfit
      have hxs:xs=[]:=by cases xs with | nil=>rfl | cons _ _=>simp at hfit
      subst hl0;subst hxs;have hu0:u = #[]:=by apply Array.eq_empty_of_size_eq_zero;simpa using hu3
      have hrun:=run0 w (by cases ad<;>simp[hu0,storeCells]);have hset:w.setRow g cs=w:=setRow_self w g cs e (0,0) hw;have htake:=ID.take id hid hHd g s 0 cs cs e (.arr e s ([]++[])) (fun k κ hl hk=>hdead k κ g hl hk hg) (I.notIm b' β g ⟨_,hb,by simp⟩ hρ hg) hnew hw rfl (fun he=>by
       rw[hset];exact⟨rfl,rfl,by simp[big],by simp,.inr ⟨g,cs,rfl,hw,by simp,by simp⟩⟩)
      rw[hset]at htake;have hsub:=Z1E (β:=⟨some g,s,0⟩) (ID.fresh id hid hHd);refine⟨_,w,_,hrun,htake.1,TD.mono (Ext.refl _ _) (fun _ h=>h) hsub ID.bnd, ?_⟩;have:=Rel.ow (ρ:=updR ρ id ⟨some g,s,0⟩) (w:=w) (Im:=Im) (c:=0) (a:=ad) (Z1s ρ id ⟨some g,s,0⟩) (Nat.le_refl _) (by simp[big]) (.inl rfl);simpa using this
     ·rcases ha with ha | ⟨g',hg',rfl,hrow⟩
      ·omega
      rw[hg]at hg';cases hg';have hcs:c*s≤cs.size:=by
       have:rows w g=cs.size:=by unfold Sx.rows;rw[hw]
       rw[this,g1]at hrow;exact hrow
      have hE1':=ZbR h2' hg hw;have hroom:(els.length+xs.length)*s≤cs.size:=Nat.le_trans (Nat.mul_le_mul_right s hfit) hcs;have hfitl:els.length*s+u.toList.length≤cs.toList.length:=by
       rw[Nat.add_mul]at hroom;simp[hu3];omega
      have hone:∀ v∈u.toList,v.oneCell'=true:=by
       intro v hv;obtain⟨k,hk⟩:=List.getElem?_of_mem hv;have hk':u[k]? = some v:=by simpa using hk
       exact hu2.2.2.1 k v hk' (by rw[← hu3];exact(Array.getElem?_eq_some_iff.1 hk').1)
      have hst:=run_storeCells_at P g (els.length*s) e u.toList 0 cs w hw (by simpa using hfitl) hone;simp only[Nat.add_zero]at hst;have hrun:=run0 _ (by simp only[Addr.add_lit,Nat.zero_add];exact hst);have hlen:((cs.toList.take (els.length*s)++u.toList++cs.toList.drop (els.length*s+u.toList.length)).toArray).size=cs.size:=by
       rw[List.size_toArray,Z17 hfitl];simp
      have hget:∀ j,((cs.toList.take (els.length*s)++u.toList++cs.toList.drop (els.length*s+u.toList.length)).toArray)[j]? = if j<els.length*s then cs[j]? else if j<els.length*s+u.size then u[j-els.length*s]? else cs[j]? := by
       intro j;rw[List.getElem?_toArray,Z23 hfitl];simp
      have hrel:=Z4p hE1' hu2 (cs:=(cs.toList.take (els.length*s)++u.toList++cs.toList.drop (els.length*s+u.toList.length)).toArray) (by rw[hlen];exact hroom)
       (fun j hj=>by rw[hget,if_pos hj]) (fun j hj=>by rw[hget,if_neg oq,if_pos oq,show els.length*s+j-els.length*s=j from by omega])
      have hlb:(els++xs).length≤big:=by rw[List.length_append];simp[big];omega
      have htake:=ID.take id hid hHd g s (els++xs).length cs _ e (.arr e s (els++xs)) (fun k κ hl hk=>hdead k κ g hl hk hg) (I.notIm b' β g ⟨_,hb,by simp⟩ hρ hg) hnew hw hlen (fun he=>by
       refine⟨rfl,rfl,hlb,hrel.1,.inr ⟨g,_,rfl,setRow_heap w g cs _ e _ hw,hrel.2.1,fun i e o y hi ho=>?_⟩⟩;obtain⟨v,k1,k2⟩:=hrel.2.2.2 i e o y hi ho;exact⟨v,k1,k2.mono he (fun _ h=>h)⟩)
      have hsub:=Z1E (β:=⟨some g,s,(els++xs).length⟩) (ID.fresh id hid hHd);refine⟨_,_,_,hrun,htake.1,TD.mono htake.2 (fun _ h=>h) hsub ID.bnd, ?_⟩;have:=Rel.ow (ρ:=updR ρ id ⟨some g,s,(els++xs).length⟩) (w:=w.setRow g (cs.toList.take (els.length*s)++u.toList++cs.toList.drop (els.length*s+u.toList.length)).toArray) (Im:=Im) (c:=c) (a:=some ⟨g,0,none⟩) (Z1s ρ id ⟨some g,s,(els++xs).length⟩)
       (by rw[List.length_append];exact hfit) hlb (.inr ⟨g,rfl,rfl,by rw[Z1J w g cs _ e hw hlen];unfold Sx.rows;rw[hw];exact hcs⟩)
      simpa using this
   ·-- a new row
    unfold Z8c at hz;split at hz;rotate_left
    ·cases hz
    rename_i zs hzs;have hzlen0:zs.length=s:=by rw[← hsz];simpa using hz
    unfold Z5M at hzs;split at hzs;rotate_left
    ·cases hzs
    rename_i z hzz;have hzr:∀ w,(zeroValue e).run P w = .ok z w:=fun w=>Z5g (P:=P) hzz w;generalize hcap:(Question.appendCap (els.length+xs.length) c e).cut (w.tape w.drawn (.appendCap (els.length+xs.length) c e))=newCap;have hcapge:els.length+xs.length≤newCap:=by rw[← hcap];exact Nat.le_add_right _ _
    have hnot:¬ els.length+xs.length≤c:=hfit;have hroom:¬ (Builtin.nextslicecap (els.length+xs.length) c*i.bytes > 2^48):=by
     have h1:=nextslicecap_le (els.length+xs.length) c oq;have h2:Builtin.nextslicecap (els.length+xs.length) c*i.bytes≤(2*(els.length+xs.length)+192)*65536:=Nat.mul_le_mul h1 (by rw[hib];exact hby);omega
    split at hzs;rotate_left
    ·cases hzs
    rename_i l hl;have hzc:=(Z6t (fun _=>none) w Im z).cells hl;obtain⟨ux',m1,m2,m3⟩:=Z1I (P:=P) (w:=w.drew) (Im:=Im) (p:=ad) (n:=els.length) (c:=c) (s:=s) (els:=els) hs1 hlxx (hcellxx.imp (fun h=>h) fun⟨q,k1,k2,k3⟩=>⟨q,k1,k2,fun i e o y hi ho=>let ⟨u,m1,m2⟩:=k3 i e o y hi ho;⟨u,m1,m2.mono (Ext.draw Im w) (fun _ h=>h)⟩⟩);obtain⟨u',n1,n2,n3⟩:=Z1I (P:=P) (w:=w.drew) (Im:=Im) (p:=p) (n:=xs.length) (c:=cy) (s:=s) (els:=xs) hs1 hlx (hcellx.imp (fun h=>h) fun⟨q,k1,k2,k3⟩=>⟨q,k1,k2,fun i e o y hi ho=>let ⟨u,m1,m2⟩:=k3 i e o y hi ho;⟨u,m1,m2.mono (Ext.draw Im w) (fun _ h=>h)⟩⟩);have hzlen:z.cells.size=s:=by
     rw[hzc.1,Z2X hzs];simpa[dvs]using hzlen0
    have hsize:(ux'++u'++Builtin.zeroCells z.cells (newCap-(els.length+xs.length))).size=newCap*s:=by
     simp only[Array.size_append,Builtin.zeroCells,Array.size_map,Array.size_range,m3,n3,hzlen,← Nat.add_mul];congr 1;omega
    have hrel:=Z4p m2 n2 (cs:=ux'++u'++Builtin.zeroCells z.cells (newCap-(els.length+xs.length))) (by rw[hsize];exact Nat.mul_le_mul_right s hcapge)
     (fun j hj=>by rw[Array.append_assoc,Array.getElem?_append_left oq])
     (fun j hj=>by rw[Array.append_assoc,Array.getElem?_append_right oq,Array.getElem?_append_left oq];congr 1;omega)
    have hlb:(els++xs).length≤big:=by rw[List.length_append];simp[big];omega
    obtain⟨ρ',q1,q2,q3,q4⟩:=Then.arr (ty:=e) (c:=newCap) ID.draw hid hHd hrel hlb (by rw[List.length_append];exact hcapge) (by rw[hsize];exact Nat.le_refl _);refine⟨_,_,ρ', ?_,q1,(TD.mono (Ext.draw Im w) (fun _ h=>h) (fun _ _ h=>h) ID.bnd).mono q2 (fun _ h=>h) q3 ID.draw.bnd,q4⟩;have hmax:¬ (((els.length+xs.length:Nat):Int) > IntKind.i64.max∧(False∨i.bytes=0)):=by
     rintro⟨_,h | h⟩
     ·exact h
     ·rw[hib]at h;exact hby0 h
    have hti:∀ w,(typeInfo e).run P w = .ok i w:=fun w=>by simp[typeInfo,hi]
    have hforced:(Question.appendCap (els.length+xs.length) c e).forced=false:=rfl;have:(Builtin.append_ #[t,t'] o.type #[.slice ad els.length c,.slice p xs.length cy]).run P w = .ok (.slice (some ⟨w.drew.heap.size,0,none⟩) (els.length+xs.length) newCap) (w.drew.alloc (.cells (ux'++u'++Builtin.zeroCells z.cells (newCap-(els.length+xs.length))) e)):=by
     unfold Builtin.append_;simp only[List.getElem?_toArray,List.getElem?_cons_zero,List.getElem?_cons_succ,Sem.run_bind,run_underlying hut,run_underlying hut',Result.andThen_ok,Builtin.lenOf,Sem.run_pure,hsr,Bool.false_eq_true,if_false,hnot,Bool.not_false,if_true,hti];rw[if_neg hmax];simp only[Sem.run_pure,Sem.run_ite,hroom,if_false,run_choose,hforced,Bool.false_eq_true,World.drew_eq,hcap,Result.andThen_ok,run_askRoom,m1,n1,hzr,Sem.run_bind,newRow,run_newObj,World.alloc_eq,hti]
    rw[List.length_append];simp[execOp,ho,resolve,hvx,hvy,invoke,builtin,g2,this]
 split at h
 ·rename_i l' _;cases h;obtain⟨p1,p2⟩:=allP_cons.1 hph;have p2':els++xs=l':=by simpa[allP]using p2
  rw[Res.heap,← p2'];exact fin p1 rfl
 ·cases h;exact fin (by simpa[allP]using hph) rfl
theorem ZdT{P:Program}{o:Oper}{id t t':Nat}{x y:Operand}{hs:List Hint}{H:Heap}{E:Operand→AV}{b:Nat}{r:Res}{k:IntKind}{n:Int}{Ow:Own}{Im0:Nat→Prop}{w0:World}{ρ:Rho}{w:World}{Im:Nat→Prop}{clk:Nat}{a:Act}{tmps:List AV}
  (ho:o.op = .call ⟨.builtin .append,#[x,y],#[t,t']⟩) (h:Z5r P t t' id hs (E x) n H=some (b,r)) (hEy:E y = .d (.sc (.int k n))) (I:Inv Ow Im0 w0 ρ w Im H clk) (T:RelT ρ w Im tmps a)
  (hid:clk*8000≤id) (hH:H id=none) (hx:Rel ρ w Im (E x) (a.eval x)) (hy:Rel ρ w Im (E y) (a.eval y)) (hph:allP r.ph) :
  ∃ v w' ρ',(execOp a.eval o).run P w = .ok (.value v) w'∧Inv Ow Im0 w0 ρ' w' Im (r.heap (updH H b .dead)) clk∧RelT ρ' w' Im tmps a∧Rel ρ' w' Im r.val v:=by
 unfold Z5r at h;split at h;rotate_left
 ·cases h
 rename_i b' hE1;split at h;rotate_left
 ·cases h
 rename_i ty s els hb;split at h;rotate_left
 ·cases h
 rename_i e he he2;split at h;rotate_left
 ·cases h
 rename_i zs0 hzs0;split at h;rotate_left
 ·cases h
 rename_i hc;obtain⟨hsz,hs0,rfl,hby,hby0,hz,hb8⟩:=hc;have hb8:=Nat.le_of_ble_eq_true hb8;have hs1:0<s:=Nat.pos_of_ne_zero hs0;have fin:0≤n∧(els.length:Int)+n≤2^30→b'=b→∃ v w' ρ',(execOp a.eval o).run P w = .ok (.value v) w'∧Inv Ow Im0 w0 ρ' w' Im (updH (updH H b .dead) id (.arr e s (els++List.replicate n.toNat zs0))) clk∧RelT ρ' w' Im tmps a∧Rel ρ' w' Im (.ow id) v:=by
  rintro⟨hn0,hbig0⟩ rfl;have hvy:a.eval y = .int k n:=Z0L (hEy▸hy);generalize hxse:List.replicate n.toNat zs0=xs;have hxl:xs.length=n.toNat:=by rw[← hxse,List.length_replicate]
  have hbig:els.length+xs.length≤2^30:=by omega
  have hw64:IntKind.i64.wrap n=n:=by rw[IntKind.wrap_i64];omega
  have hzs00:=hzs0;unfold Z5M at hzs0;split at hzs0;rotate_left
  ·cases hzs0
  rename_i z hzz;split at hzs0;rotate_left
  ·cases hzs0
  rename_i l hl;have hzlen0:zs0.length=s:=by
   unfold Z8c at hz;rw[hzs00]at hz;rw[← hsz];simpa using hz
  have hzr:∀ w,(zeroValue e).run P w = .ok z w:=fun w=>Z5g (P:=P) hzz w;have hzc:=(Z6t (fun _=>none) w Im z).cells hl;have hzlen:z.cells.size=s:=by
   rw[hzc.1,Z2X hzs0];simpa[dvs]using hzlen0
  rw[hE1]at hx;have hu2:∀ w,RelE w Im s xs (Builtin.zeroCells z.cells n.toNat):=by
   intro w;have:=Z6R (w:=w) (Im:=Im) n.toNat hl hzs0 hzlen0;rw[← hxse];unfold Builtin.zeroCells;rw[hzlen]at this ⊢;exact this
  have hu3:(Builtin.zeroCells z.cells n.toNat).size=xs.length*s:=by
   simp[Builtin.zeroCells,hzlen,hxl]
  generalize hue:Builtin.zeroCells z.cells n.toNat=u at hu2 hu3;have hu0':n.toNat*s=0→u = #[]:=by
   intro h0;apply Array.eq_empty_of_size_eq_zero;rw[hu3,hxl];exact h0
  have hcontx:Z15 H (.ow b')=some (s,els):=by simp[Z15,hb]
  obtain⟨px,cx,hvx0,_,_,hlxx,hcellxx⟩:=Z1u I hx hcontx;obtain⟨ux,hux1,hux2,hux3⟩:=Z1I (P:=P) (p:=px) (n:=els.length) (c:=cx) hs1 hlxx hcellxx;have hut:P.underlying t=some (.slice e):=by
   unfold Z1c at he;split at he
   ·cases he;assumption
   ·cases he
  obtain⟨k2,hut'⟩:∃ k2,P.underlying t'=some (.int k2):=by
   unfold ZmE at he2;split at he2
   ·exact⟨_,by assumption⟩
   ·cases he2
  have hsr:(sizeOf e).run P w = .ok s w:=Z3B hsz hs0 w;have hinfo:∃ i,P.info? e=some i∧i.bytes=bytesOf P e:=by
   unfold bytesOf at hby0 ⊢;cases hi:P.info? e with
   | none=>simp[hi]at hby0
   | some i=>exact⟨i,rfl,rfl⟩
  obtain⟨i,hi,hib⟩:=hinfo;generalize hvx:a.eval x=v at hx;cases hx with
  | ow hρ hc hbg ha =>
   rename_i c ad β;obtain⟨β',h1,h2⟩:=I.blk b' _ hb;rw[hρ]at h1;cases h1;have h2':=h2;obtain⟨g1,g2,g3,g4,g5⟩:=h2;rw[hvx]at hvx0;obtain⟨rfl,_,rfl⟩:ad=px∧β.n=els.length∧c=cx:=by injection hvx0 with q1 q2 q3;exact⟨q1,q2,q3⟩
   have ID:=I.kill hb;have TD:=T;have hidb:id≠b':=by rintro rfl;rw[hb]at hH;cases hH
   have hHd:updH H b' .dead id=none:=by unfold updH;rw[if_neg hidb];exact hH
   have hdead:∀ k κ g,live (updH H b' .dead) k→ρ k=some κ→β.g=some g→κ.g≠some g:=by
    intro k κ g hl hk hg hkg;have hkb:k≠b':=by
     rintro rfl;obtain⟨B',q1,q2⟩:=hl;simp only[updH,if_true,Option.some.injEq]at q1;exact q2 q1.symm
    exact hkb (I.inj k b' κ β g (Z1b hl hkb) ⟨_,hb,by simp⟩ hk hρ hkg hg)
   have hti:∀ w,(typeInfo e).run P w = .ok i w:=fun w=>by simp[typeInfo,hi]
   have hsra:∀ w,(sizeOf e).run P w = .ok s w:=fun w=>Z3B hsz hs0 w;have hbn:¬ (n*(i.bytes:Int) > 2^48):=by
    have h1:n*(i.bytes:Int)≤2^30*65536:=Int.mul_le_mul oq oq oq oq;omega
   have hn1:¬ n<0:=by omega
   by_cases hfit:els.length+xs.length≤c
   ·-- there is room
    have run0:∀ w',(match ad with | some q=>storeCells (q.add (els.length*s)) u.toList | none=>pure ():Sem Unit).run P w = .ok () w' →
      (execOp a.eval o).run P w = .ok (.value (.slice ad (els.length+xs.length) c)) w':=by
     intro w' hw';have:(Builtin.append_ #[t,t'] o.type #[.slice ad els.length c,.int k n]).run P w = .ok (.slice ad (els.length+xs.length) c) w':=by
      have hfit2:els.length+n.toNat≤c:=by omega
      rw[hxl];unfold Builtin.append_;by_cases h0:n.toNat*s=0
      ·simp only[List.getElem?_toArray,List.getElem?_cons_zero,List.getElem?_cons_succ,Sem.run_bind,run_underlying hut,run_underlying hut',Result.andThen_ok,Sem.run_pure,hsra,asInt,asIntOf,hw64,hn1,if_false,hti,hbn,Bool.not_true,Bool.false_eq_true,if_true,reduceCtorEq,hfit2,h0];rw[hu0' h0]at hw';cases ad with
       | none=>simp only[Sem.run_pure]at hw' ⊢;cases hw';simp
       | some q=>simp only at hw' ⊢;simp[hw']
      ·simp only[List.getElem?_toArray,List.getElem?_cons_zero,List.getElem?_cons_succ,Sem.run_bind,run_underlying hut,run_underlying hut',Result.andThen_ok,Sem.run_pure,hsra,asInt,asIntOf,hw64,hn1,if_false,hti,hbn,Bool.not_true,Bool.false_eq_true,if_true,reduceCtorEq,hfit2,h0,hzr,hue];cases ad with
       | none=>simp only[Sem.run_pure]at hw' ⊢;cases hw';simp
       | some q=>simp only at hw' ⊢;simp[hw']
     simp[execOp,ho,resolve,hvx,hvy,invoke,builtin,g2,this]
    rcases g5 with⟨g5,rfl⟩ | ⟨g,cs,hg,hw,hszc,hcell⟩
    ·-- no memory yet,nothing comes
     rcases ha with ha | ⟨g',hg',_⟩
     rotate_left
     ·rw[g5]at hg';cases hg'
     subst ha;have hxs:xs=[]:=by cases xs with | nil=>rfl | cons _ _=>simp at hfit
     subst hxs;have hu0:u = #[]:=by apply Array.eq_empty_of_size_eq_zero;simpa using hu3
     have hrun:=run0 w (by cases ad<;>simp[hu0,storeCells]);have hn:=ID.fresh id hid hHd;have hsub:=Z1E (β:=⟨none,s,0⟩) hn;refine⟨_,w,updR ρ id ⟨none,s,0⟩,hrun, ?_,TD.mono (Ext.refl _ _) (fun _ h=>h) hsub ID.bnd, ?_⟩
     ·refine⟨ID.kept, ?_, ?_, ?_, ?_,ID.imb,ID.im0, ?_, ?_,Z7q ID.one hid⟩
      ·intro k k' κ κ' g l1 l2 h1 h2 h3 h4;unfold updR at h1 h2;split at h1<;>split at h2
       ·omega
       ·cases h1;cases h3
       ·cases h2;cases h4
       ·exact ID.inj k k' κ κ' g (Z1b l1 aa) (Z1b l2 aa) h1 h2 h3 h4
      ·intro k κ g l h h';unfold updR at h;split at h
       ·cases h;cases h'
       ·exact ID.notIm k κ g (Z1b l aa) h h'
      ·intro k κ g h h';unfold updR at h;split at h
       ·cases h;cases h'
       ·exact ID.bnd k κ g h h'
      ·intro k κ g h h';unfold updR at h;split at h
       ·cases h;cases h'
       ·exact ID.own k κ g h h'
      ·intro k B h;unfold updH at h;split at h
       ·cases h;rename_i hk;exact⟨_,by rw[hk];exact Z1s _ _ _,rfl,rfl,by simp[big],by simp,.inl ⟨rfl,rfl⟩⟩
       ·obtain⟨κ,h1,h2⟩:=ID.blk k B h;exact⟨κ,hsub _ _ h1,h2.mono (Ext.refl _ _) (fun _ h=>h) hsub ID.bnd (fun _ _=>rfl)⟩
      ·intro k hk h;unfold updH at h;unfold updR;split
       ·rename_i hbi;simp[hbi]at h
       ·rename_i hbi;simp only[hbi,if_false]at h;exact ID.fresh k hk h
     ·have:=Rel.ow (ρ:=updR ρ id ⟨none,s,0⟩) (w:=w) (Im:=Im) (c:=0) (a:=ad) (Z1s ρ id ⟨none,s,0⟩) (Nat.le_refl _) (by simp[big]) (.inl rfl);simpa using this
    ·-- the row's own spare cells
     have hnew:w0.heap.size≤g∨OwA Ow g:=(I.own b' β g hρ hg).imp (·.1) (fun h=>h);by_cases hc0:c=0
     ·-- no cell: nothing comes
      subst hc0;have hl0:els=[]:=by cases els with | nil=>rfl | cons _ _=>simp at hfit
      have hxs:xs=[]:=by cases xs with | nil=>rfl | cons _ _=>simp at hfit
      subst hl0;subst hxs;have hu0:u = #[]:=by apply Array.eq_empty_of_size_eq_zero;simpa using hu3
      have hrun:=run0 w (by cases ad<;>simp[hu0,storeCells]);have hset:w.setRow g cs=w:=setRow_self w g cs e (0,0) hw;have htake:=ID.take id hid hHd g s 0 cs cs e (.arr e s ([]++[])) (fun k κ hl hk=>hdead k κ g hl hk hg) (I.notIm b' β g ⟨_,hb,by simp⟩ hρ hg) hnew hw rfl (fun he=>by
       rw[hset];exact⟨rfl,rfl,by simp[big],by simp,.inr ⟨g,cs,rfl,hw,by simp,by simp⟩⟩)
      rw[hset]at htake;have hsub:=Z1E (β:=⟨some g,s,0⟩) (ID.fresh id hid hHd);refine⟨_,w,_,hrun,htake.1,TD.mono (Ext.refl _ _) (fun _ h=>h) hsub ID.bnd, ?_⟩;have:=Rel.ow (ρ:=updR ρ id ⟨some g,s,0⟩) (w:=w) (Im:=Im) (c:=0) (a:=ad) (Z1s ρ id ⟨some g,s,0⟩) (Nat.le_refl _) (by simp[big]) (.inl rfl);simpa using this
     ·rcases ha with ha | ⟨g',hg',rfl,hrow⟩
      ·omega
      rw[hg]at hg';cases hg';have hcs:c*s≤cs.size:=by
       have:rows w g=cs.size:=by unfold Sx.rows;rw[hw]
       rw[this,g1]at hrow;exact hrow
      have hE1':=ZbR h2' hg hw;have hroom:(els.length+xs.length)*s≤cs.size:=Nat.le_trans (Nat.mul_le_mul_right s hfit) hcs;have hfitl:els.length*s+u.toList.length≤cs.toList.length:=by
       rw[Nat.add_mul]at hroom;simp[hu3];omega
      have hone:∀ v∈u.toList,v.oneCell'=true:=by
       intro v hv;obtain⟨k,hk⟩:=List.getElem?_of_mem hv;have hk':u[k]? = some v:=by simpa using hk
       exact(hu2 w).2.2.1 k v hk' (by rw[← hu3];exact(Array.getElem?_eq_some_iff.1 hk').1)
      have hst:=run_storeCells_at P g (els.length*s) e u.toList 0 cs w hw (by simpa using hfitl) hone;simp only[Nat.add_zero]at hst;have hrun:=run0 _ (by simp only[Addr.add_lit,Nat.zero_add];exact hst);have hlen:((cs.toList.take (els.length*s)++u.toList++cs.toList.drop (els.length*s+u.toList.length)).toArray).size=cs.size:=by
       rw[List.size_toArray,Z17 hfitl];simp
      have hget:∀ j,((cs.toList.take (els.length*s)++u.toList++cs.toList.drop (els.length*s+u.toList.length)).toArray)[j]? = if j<els.length*s then cs[j]? else if j<els.length*s+u.size then u[j-els.length*s]? else cs[j]? := by
       intro j;rw[List.getElem?_toArray,Z23 hfitl];simp
      have hrel:=Z4p hE1' (hu2 w) (cs:=(cs.toList.take (els.length*s)++u.toList++cs.toList.drop (els.length*s+u.toList.length)).toArray) (by rw[hlen];exact hroom)
       (fun j hj=>by rw[hget,if_pos hj]) (fun j hj=>by rw[hget,if_neg oq,if_pos oq,show els.length*s+j-els.length*s=j from by omega])
      have hlb:(els++xs).length≤big:=by rw[List.length_append];simp[big];omega
      have htake:=ID.take id hid hHd g s (els++xs).length cs _ e (.arr e s (els++xs)) (fun k κ hl hk=>hdead k κ g hl hk hg) (I.notIm b' β g ⟨_,hb,by simp⟩ hρ hg) hnew hw hlen (fun he=>by
       refine⟨rfl,rfl,hlb,hrel.1,.inr ⟨g,_,rfl,setRow_heap w g cs _ e _ hw,hrel.2.1,fun i e o y hi ho=>?_⟩⟩;obtain⟨v,k1,k2⟩:=hrel.2.2.2 i e o y hi ho;exact⟨v,k1,k2.mono he (fun _ h=>h)⟩)
      have hsub:=Z1E (β:=⟨some g,s,(els++xs).length⟩) (ID.fresh id hid hHd);refine⟨_,_,_,hrun,htake.1,TD.mono htake.2 (fun _ h=>h) hsub ID.bnd, ?_⟩;have:=Rel.ow (ρ:=updR ρ id ⟨some g,s,(els++xs).length⟩) (w:=w.setRow g (cs.toList.take (els.length*s)++u.toList++cs.toList.drop (els.length*s+u.toList.length)).toArray) (Im:=Im) (c:=c) (a:=some ⟨g,0,none⟩) (Z1s ρ id ⟨some g,s,(els++xs).length⟩)
       (by rw[List.length_append];exact hfit) hlb (.inr ⟨g,rfl,rfl,by rw[Z1J w g cs _ e hw hlen];unfold Sx.rows;rw[hw];exact hcs⟩)
      simpa using this
   ·-- a new row
    generalize hcap:(Question.appendCap (els.length+xs.length) c e).cut (w.tape w.drawn (.appendCap (els.length+xs.length) c e))=newCap;have hcapge:els.length+xs.length≤newCap:=by rw[← hcap];exact Nat.le_add_right _ _
    have hnot:¬ els.length+xs.length≤c:=hfit;have hroom:¬ (Builtin.nextslicecap (els.length+xs.length) c*i.bytes > 2^48):=by
     have h1:=nextslicecap_le (els.length+xs.length) c oq;have h2:Builtin.nextslicecap (els.length+xs.length) c*i.bytes≤(2*(els.length+xs.length)+192)*65536:=Nat.mul_le_mul h1 (by rw[hib];exact hby);omega
    obtain⟨ux',m1,m2,m3⟩:=Z1I (P:=P) (w:=w.drew) (Im:=Im) (p:=ad) (n:=els.length) (c:=c) (s:=s) (els:=els) hs1 hlxx (hcellxx.imp (fun h=>h) fun⟨q,k1,k2,k3⟩=>⟨q,k1,k2,fun i e o y hi ho=>let ⟨u,m1,m2⟩:=k3 i e o y hi ho;⟨u,m1,m2.mono (Ext.draw Im w) (fun _ h=>h)⟩⟩);have n2:=hu2 w.drew;have n3:=hu3;have hsize:(ux'++u++Builtin.zeroCells z.cells (newCap-(els.length+xs.length))).size=newCap*s:=by
     simp only[Array.size_append,Builtin.zeroCells,Array.size_map,Array.size_range,m3,n3,hzlen,← Nat.add_mul];congr 1;omega
    have hrel:=Z4p m2 n2 (cs:=ux'++u++Builtin.zeroCells z.cells (newCap-(els.length+xs.length))) (by rw[hsize];exact Nat.mul_le_mul_right s hcapge)
     (fun j hj=>by rw[Array.append_assoc,Array.getElem?_append_left oq])
     (fun j hj=>by rw[Array.append_assoc,Array.getElem?_append_right oq,Array.getElem?_append_left oq];congr 1;omega)
    have hlb:(els++xs).length≤big:=by rw[List.length_append];simp[big];omega
    obtain⟨ρ',q1,q2,q3,q4⟩:=Then.arr (ty:=e) (c:=newCap) ID.draw hid hHd hrel hlb (by rw[List.length_append];exact hcapge) (by rw[hsize];exact Nat.le_refl _);refine⟨_,_,ρ', ?_,q1,(TD.mono (Ext.draw Im w) (fun _ h=>h) (fun _ _ h=>h) ID.bnd).mono q2 (fun _ h=>h) q3 ID.draw.bnd,q4⟩;have hmax:¬ (((els.length+n.toNat:Nat):Int) > IntKind.i64.max∧(True∨i.bytes=0)):=by
     rintro⟨h,_⟩;have:IntKind.i64.max=9223372036854775807:=by decide
     omega
    have hforced:(Question.appendCap (els.length+n.toNat) c e).forced=false:=rfl;rw[hxl]at hcap hroom hnot;have:(Builtin.append_ #[t,t'] o.type #[.slice ad els.length c,.int k n]).run P w = .ok (.slice (some ⟨w.drew.heap.size,0,none⟩) (els.length+xs.length) newCap) (w.drew.alloc (.cells (ux'++u++Builtin.zeroCells z.cells (newCap-(els.length+xs.length))) e)):=by
     rw[hxl];unfold Builtin.append_;by_cases h0:n.toNat*s=0
     ·have hu0:=hu0' h0;subst hu0;simp only[List.getElem?_toArray,List.getElem?_cons_zero,List.getElem?_cons_succ,Sem.run_bind,run_underlying hut,run_underlying hut',Result.andThen_ok,Sem.run_pure,hsra,asInt,asIntOf,hw64,hn1,if_false,hti,hbn,Bool.not_true,Bool.false_eq_true,if_true,reduceCtorEq,hnot,h0,hmax];simp only[Sem.run_pure,Sem.run_ite,hroom,if_false,run_choose,hforced,Bool.false_eq_true,World.drew_eq,hcap,Result.andThen_ok,run_askRoom,m1,hzr,Sem.run_bind,newRow,run_newObj,World.alloc_eq,hti]
     ·simp only[List.getElem?_toArray,List.getElem?_cons_zero,List.getElem?_cons_succ,Sem.run_bind,run_underlying hut,run_underlying hut',Result.andThen_ok,Sem.run_pure,hsra,asInt,asIntOf,hw64,hn1,if_false,hti,hbn,Bool.not_true,Bool.false_eq_true,if_true,reduceCtorEq,hnot,h0,hmax];simp only[Sem.run_pure,Sem.run_ite,hroom,if_false,run_choose,hforced,Bool.false_eq_true,World.drew_eq,hcap,Result.andThen_ok,run_askRoom,m1,hzr,hue,Sem.run_bind,newRow,run_newObj,World.alloc_eq,hti]
    rw[List.length_append];simp[execOp,ho,resolve,hvx,hvy,invoke,builtin,g2,this]
 split at h
 ·rename_i l' _;cases h;obtain⟨p1,p2⟩:=allP_cons.1 hph;have p2':els++List.replicate n.toNat zs0=l':=by simpa[allP]using p2
  rw[Res.heap,← p2'];exact fin p1 rfl
 ·cases h;exact fin (by simpa[allP]using hph) rfl
theorem ZgC{P:Program}{o:Oper}{id t t':Nat}{x y:Operand}{hs:List Hint}{H:Heap}{E:Operand→AV}{b:Nat}{r:Res}{Ow:Own}{Im0:Nat→Prop}{w0:World}{ρ:Rho}{w:World}{Im:Nat→Prop}{clk:Nat}{a:Act}{tmps:List AV}
  (ho:o.op = .call ⟨.builtin .append,#[x,y],#[t,t']⟩) (h:Z46 P t t' id hs (E x) (E y) H=some (b,r)) (I:Inv Ow Im0 w0 ρ w Im H clk) (T:RelT ρ w Im tmps a)
  (hid:clk*8000≤id) (hH:H id=none) (hx:Rel ρ w Im (E x) (a.eval x)) (hy:Rel ρ w Im (E y) (a.eval y)) (hph:allP r.ph) :
  ∃ v w' ρ',(execOp a.eval o).run P w = .ok (.value v) w'∧Inv Ow Im0 w0 ρ' w' Im (r.heap (updH H b .dead)) clk∧RelT ρ' w' Im tmps a∧Rel ρ' w' Im r.val v:=by
 unfold Z46 at h;split at h
 ·rename_i k n hEy;exact ZdT ho h hEy I T hid hH hx hy hph
 ·exact Zeq ho h I T hid hH hx hy hph
def Z89(P:Program)(t:Nat)(hs:List Hint)(x:AV)(H:Heap):Option Res :=
 match Z1c P t with
 | none=>none
 | some e=>match szOf P e with
  | 0=>none
  | s+1=>match Z5M P e with
   | none=>none
   | some zs=>if zs.length=s+1 then
    match x with
    | .ow b=>match H b with
     | some (.arr ty s2 els)=>if s2=s+1 then
      match hs with
      | .els l'::_=>some ⟨.tu [],some (b,.arr ty s2 l'),[Z0K els 0 (List.replicate els.length zs)=l']⟩
      | _=>some ⟨.tu [],some (b,.arr ty s2 (Z0K els 0 (List.replicate els.length zs))),[]⟩
      else none
     | _=>none
    | .os b o n=>match H b with
     | some (.arr ty s2 els)=>if s2=s+1 then
      match hs with
      | .els l'::_=>some ⟨.tu [],some (b,.arr ty s2 l'),[Z0K els o (List.replicate n zs)=l']⟩
      | _=>some ⟨.tu [],some (b,.arr ty s2 (Z0K els o (List.replicate n zs))),[]⟩
      else none
     | _=>none
    | _=>none
    else none
theorem ZeP{P:Program}{o:Oper}{id:Nat}{E:Operand→AV}{H:Heap}{r:Res}{x:Operand}{t:Nat}{hs:List Hint}
  (ho:o.op = .call ⟨.builtin .clear,#[x],#[t]⟩) (h:Z89 P t hs (E x) H=some r):Z24 P o id E H r:=by
 intro Ow Im0 w0 ρ w Im clk a I hid hH hE hph;have hx:=hE x;unfold Z89 at h;split at h
 ·cases h
 rename_i e he;split at h
 ·cases h
 rename_i s hsz;split at h
 ·cases h
 rename_i zs hzs0;split at h;rotate_left
 ·cases h
 rename_i hzlen0;have hut:P.underlying t=some (.slice e):=by
  unfold Z1c at he;split at he
  ·cases he;assumption
  ·cases he
 have hzs00:=hzs0;unfold Z5M at hzs0;split at hzs0;rotate_left
 ·cases hzs0
 rename_i z hzz;split at hzs0;rotate_left
 ·cases hzs0
 rename_i l hl;have hzr:(zeroValue e).run P w = .ok z w:=Z5g (P:=P) hzz w;have hzc:=(Z6t (fun _=>none) w Im z).cells hl;have hzlen:z.cells.size=s+1:=by
  rw[hzc.1,Z2X hzs0];simpa[dvs]using hzlen0
 have fin:∀ (b oo n g c':Nat) (ty:Nat) (els:List (List DV)) (β:Bi),ρ b=some β→H b=some (.arr ty (s+1) els)→β.g=some g→a.eval x = .slice (some ⟨g,oo*(s+1),none⟩) n c'→0<n→oo+n≤els.length →
   Goes P o a w fun v w'=>Then Ow Im0 w0 ρ w Im clk (updH H b (.arr ty (s+1) (Z0K els oo (List.replicate n zs)))) (.tu []) v w':=by
  intro b oo n g c' ty els β hρ hb hg hvx hn0 hon;obtain⟨u,hu⟩:∃ u,Builtin.zeroCells z.cells n=u:=⟨_,rfl⟩
  have hu2:RelE w Im (s+1) (List.replicate n zs) u:=by
   have:=Z6R (w:=w) (Im:=Im) n hl hzs0 hzlen0;rw[← hu];unfold Builtin.zeroCells;rw[hzlen]at this ⊢;exact this
  have hu3:u.size=(List.replicate n zs).length*(s+1):=by
   rw[← hu];simp[Builtin.zeroCells,hzlen]
  obtain⟨β',h1,h2⟩:=I.blk b _ hb;rw[hρ]at h1;cases h1;have h2':=h2;obtain⟨g1,g2,g3,g4,g5⟩:=h2;rcases g5 with⟨g5,_⟩ | ⟨g',cs,hg',hw,hszc,hcell⟩
  ·rw[hg]at g5;cases g5
  rw[hg]at hg';cases hg';have hE1:=ZbR h2' hg hw;have hxl:(List.replicate n zs).length=n:=by simp
  generalize hxs:List.replicate n zs=xs at *;have hfit:oo*(s+1)+u.toList.length≤cs.toList.length:=by
   have:(oo+xs.length)*(s+1)≤els.length*(s+1):=Nat.mul_le_mul_right _ oq;rw[Nat.add_mul]at this;simp[hu3];omega
  have hone:∀ v∈u.toList,v.oneCell'=true:=by
   intro v hv;obtain⟨k,hk⟩:=List.getElem?_of_mem hv;have hk':u[k]? = some v:=by simpa using hk
   exact hu2.2.2.1 k v hk' (by rw[← hu3];exact(Array.getElem?_eq_some_iff.1 hk').1)
  have hst:=run_storeCells_at P g (oo*(s+1)) ty u.toList 0 cs w hw (by simpa using hfit) hone;simp only[Nat.add_zero]at hst;obtain⟨bg,bs,bn⟩:=β;simp only at hg g1 g2;subst hg;subst g1;subst g2;have hlen:((cs.toList.take (oo*(s+1))++u.toList++cs.toList.drop (oo*(s+1)+u.toList.length)).toArray).size=cs.size:=by
   rw[List.size_toArray,Z17 hfit];simp
  have hget:∀ j,((cs.toList.take (oo*(s+1))++u.toList++cs.toList.drop (oo*(s+1)+u.toList.length)).toArray)[j]? = if j<oo*(s+1)then cs[j]? else if j<oo*(s+1)+u.size then u[j-oo*(s+1)]? else cs[j]? := by
   intro j;rw[List.getElem?_toArray,Z23 hfit];simp
  have hsp:=Z8W hE1 hu2 hu3 (show oo+xs.length≤els.length by omega) hlen hget;have hput:=I.put b g (s+1) els.length cs _ ty (.arr ty (s+1) (Z0K els oo xs)) hρ hw hlen ⟨_,hb,by simp⟩ (fun he=>by
   have hl:(Z0K els oo xs).length=els.length:=Z17 oq;refine⟨rfl,hl.symm,by rw[hl];exact g3,hsp.1,.inr ⟨g,_,rfl,setRow_heap w g cs _ ty _ hw,by rw[hlen,hl];exact hszc,fun i e o y hi ho=>?_⟩⟩;obtain⟨v,k1,k2⟩:=hsp.2.2.2 i e o y hi ho;exact⟨v,k1,k2.mono he (fun _ h=>h)⟩)
  refine .inl ⟨.tuple #[],_, ?_,ρ,hput.1,hput.2,fun _ _ h=>h,.tu [] #[] rfl (fun i a v h=>by simp at h)⟩;have hcp:(Builtin.clear_ #[t] o.type #[.slice (some ⟨g,oo*(s+1),none⟩) n c']).run P w = .ok (.tuple #[]) (w.setRow g (cs.toList.take (oo*(s+1))++u.toList++cs.toList.drop (oo*(s+1)+u.toList.length)).toArray):=by
   unfold Builtin.clear_;obtain⟨m,rfl⟩:∃ m,n=m+1:=⟨n-1,by omega⟩
   simp only[List.getElem?_toArray,List.getElem?_cons_zero,Sem.run_bind,run_underlying hut,Result.andThen_ok,Sem.run_pure,hzr,hu,hst]
  simp[execOp,ho,resolve,hvx,invoke,builtin,hcp]
 have nil:∀ (b oo:Nat) (ty:Nat) (els:List (List DV)) (ad:Option Addr) (c':Nat),H b=some (.arr ty (s+1) els)→a.eval x = .slice ad 0 c' →
   Goes P o a w fun v w'=>Then Ow Im0 w0 ρ w Im clk (updH H b (.arr ty (s+1) (Z0K els oo (List.replicate 0 zs)))) (.tu []) v w':=by
  intro b oo ty els ad c' hb hvx;have hsame:Z0K els oo (List.replicate 0 zs)=els:=by simp[Z0K]
  have hupd:updH H b (.arr ty (s+1) els)=H:=by funext k;unfold updH;split<;>simp_all
  rw[hsame,hupd];refine .inl ⟨.tuple #[],w, ?_,.same I (.tu [] #[] rfl (fun i a v h=>by simp at h))⟩;have hcp:(Builtin.clear_ #[t] o.type #[.slice ad 0 c']).run P w = .ok (.tuple #[]) w:=by
   unfold Builtin.clear_;cases ad<;>simp only[List.getElem?_toArray,List.getElem?_cons_zero,Sem.run_bind,run_underlying hut,Result.andThen_ok,Sem.run_pure]
  simp[execOp,ho,resolve,hvx,invoke,builtin,hcp]
 split at h
 ·rename_i b hE1;rw[hE1]at hx;split at h;rotate_left
  ·cases h
  rename_i ty s2 els hb;split at h;rotate_left
  ·cases h
  rename_i hs2;subst hs2;generalize hvx:a.eval x=v at hx;cases hx with
  | ow hρ hc hbg ha =>
   rename_i c' ad β;obtain⟨β',h1,h2⟩:=I.blk b _ hb;rw[hρ]at h1;cases h1;have h2':=h2;obtain⟨g1,g2,_,_,_⟩:=h2;have base:Goes P o a w fun v w'=>Then Ow Im0 w0 ρ w Im clk (updH H b (.arr ty (s+1) (Z0K els 0 (List.replicate els.length zs)))) (.tu []) v w':=by
    rcases Nat.eq_zero_or_pos els.length with h0 | hpos
    ·rw[h0];exact nil b 0 ty els ad c' hb (by rw[hvx,g2,h0])
    ·rcases ha with ha | ⟨g,hg,rfl,hrow⟩
     ·omega
     ·exact fin b 0 els.length g c' ty els β hρ hb hg (by rw[hvx,g2];simp) hpos oq
   split at h
   ·rename_i l' _;cases h;have p2:Z0K els 0 (List.replicate els.length zs)=l':=by simpa[allP]using hph
    rw[← p2];exact base
   ·cases h;exact base
 ·rename_i b oo n hE1;rw[hE1]at hx;split at h;rotate_left
  ·cases h
  rename_i ty s2 els hb;split at h;rotate_left
  ·cases h
  rename_i hs2;subst hs2;generalize hvx:a.eval x=v at hx;cases hx with
  | os hρ hn hc hbg ha =>
   rename_i c' ad β;obtain⟨β',h1,h2⟩:=I.blk b _ hb;rw[hρ]at h1;cases h1;have h2':=h2;obtain⟨g1,g2,_,_,_⟩:=h2;have base:Goes P o a w fun v w'=>Then Ow Im0 w0 ρ w Im clk (updH H b (.arr ty (s+1) (Z0K els oo (List.replicate n zs)))) (.tu []) v w':=by
    rcases Nat.eq_zero_or_pos n with h0 | hpos
    ·rw[h0]at hvx ⊢;exact nil b oo ty els ad c' hb hvx
    ·rcases ha with ha | ⟨g,hg,rfl,hrow⟩
     ·omega
     ·exact fin b oo n g c' ty els β hρ hb hg (by rw[← g1];exact hvx) hpos oq
   split at h
   ·rename_i l' _;cases h;have p2:Z0K els oo (List.replicate n zs)=l':=by simpa[allP]using hph
    rw[← p2];exact base
   ·cases h;exact base
 ·cases h
def act(P:Program)(o:Oper)(id:Nat)(hs:List Hint)(E:Operand→AV)(H:Heap):Option Res :=
 match o.op with
 | .move x=>some (Ze9 (E x))
 | .assign x=>match hs with
  | .own::_=>match x with
   | .const (.slice none 0 0)=>Zjm P o.type id
   | _=>none
  | .int n::_=>match E x with
   | .d (.sc (.int k m))=>some (numR k m [] (.int n::[]))
   | _=>none
  | _=>some (Ze9 (E x))
 | .alloc t=>Zb4 P t id
 | .box t x=>ZhG t id (E x)
 | .build t parts=>ZbU P t (parts.toList.map fun p=>(p.1,E p.2))
 | .buildSlice t len parts=>Z4k P t len id hs (parts.toList.map fun p=>(p.1,E p.2))
 | .load t x=>Z7e P t hs (E x) H
 | .store t x y=>match szOf P t with
  | 0=>none
  | _+1=>Z87 P t hs (E x) (E y) H
 | .nilCheck x=>Z5U (E x)
 | .binOp op t x y _=>ZeR P op t hs (E x) y (E y)
 | .unOp op _ x=>ZnN op hs (E x)
 | .convert s t x=>ZeN P s t hs (E x)
 | .makeFunc fn first captured=>Z4d fn first captured E
 | .makeInterface t x=>Z3j P t (E x)
 | .typeAssert x _ t ok=>Z9f P t ok (E x)
 | .makeSlice t x y=>Z50 P t id hs (E x) (E y)
 | .slice t x lo hi mx=>match mx with
  | none=>match Z1c P t with
   | some e=>match P.info? e with
    | some _=>Z7V P t hs (E x) (lo.map E) (hi.map E) H
    | none=>none
   | none=>none
  | some _=>none
 | .fieldAddr t x f=>Z4U P t f (E x)
 | .field t x f=>ZaW P t f (E x)
 | .indexAddr t x y=>Z3O P t hs (E x) (E y) H
 | .extract x n=>Z7s n (E x)
 | .call c=>match c.callee with
  | .builtin .len=>match c.args.toList,c.argTypes.toList with
   | [x],[t]=>Zg3 P t hs (E x) H
   | _,_=>none
  | .builtin .copy=>match c.args.toList,c.argTypes.toList with
   | [x,y],[t,_]=>ZbM P t hs (E x) (E y) H
   | _,_=>none
  | .builtin .clear=>match c.args.toList,c.argTypes.toList with
   | [x],[t]=>Z89 P t hs (E x) H
   | _,_=>none
  | .builtin .max=>match c.args.toList,c.argTypes.toList with
   | [x,y],[_,_]=>Zhc true hs (E x) (E y)
   | [x,y,z,u,v],[_,_,_,_,_]=>Zag true hs (E x) (E y) (E z) (E u) (E v)
   | _,_=>none
  | .builtin .min=>match c.args.toList,c.argTypes.toList with
   | [x,y],[_,_]=>Zhc false hs (E x) (E y)
   | [x,y,z,u,v],[_,_,_,_,_]=>Zag false hs (E x) (E y) (E z) (E u) (E v)
   | _,_=>none
  | _=>none
 | _=>none
theorem Z59{c:Call}{b:Builtin}{l:List Operand}{m:List TypeId}(h1:c.callee = .builtin b)(h2:c.args.toList=l)(h3:c.argTypes.toList=m):c=⟨.builtin b,l.toArray,m.toArray⟩:=by
 obtain⟨x,y,z⟩:=c;simp only at h1 h2 h3;subst h1;subst h2;subst h3;simp
theorem Zcm{P:Program}{o:Oper}{id:Nat}{hs:List Hint}{E:Operand→AV}{H:Heap}{r:Res}(h:act P o id hs E H=some r):Z24 P o id E H r:=by
 unfold act at h;split at h
 ·cases h;exact ZaI (.inl aa)
 ·split at h
  ·split at h
   ·exact Zj9 aa h
   ·cases h
  ·rename_i x hop _ n _;split at h
   ·rename_i k m hx;cases h;exact Z1p fun ρ w Im a hE _=>by have:=Z0L (hx▸hE x);simp[execOp,hop,this]
   ·cases h
  ·cases h;exact ZaI (.inr aa)
 ·exact ZeT aa h
 ·exact Zjz aa h
 ·exact ZdN aa h
 ·exact Z7Q aa h
 ·exact Zh5 aa h
 ·split at h
  ·cases h
  ·exact Zek aa oq h
 ·exact Z9Y aa h
 ·exact ZgD aa h
 ·exact Zk8 aa h
 ·exact ZgF aa h
 ·exact Z9Q aa h
 ·exact Z5R aa h
 ·exact Zcg aa h
 ·exact Z8t aa h
 ·rename_i hop;split at h
  ·split at h
   ·rename_i e he;split at h
    ·rename_i i hi;exact Zei hop (fun e' he'=>by rw[he]at he';cases he';rw[hi];rfl) h
    ·cases h
   ·cases h
  ·cases h
 ·exact Z8y aa h
 ·exact ZdZ aa h
 ·exact Z93 aa h
 ·exact ZbH aa h
 ·rename_i c hop;split at h
  ·rename_i hcal;split at h
   ·rename_i x t h1 h2;exact Zj5 (by rw[hop,Z59 hcal h1 h2]) h
   ·cases h
  ·rename_i hcal;split at h
   ·rename_i x y t t' h1 h2;exact Zgz (by rw[hop,Z59 hcal h1 h2]) h
   ·cases h
  ·rename_i hcal;split at h
   ·rename_i x t h1 h2;exact ZeP (by rw[hop,Z59 hcal h1 h2]) h
   ·cases h
  ·rename_i hcal;split at h
   ·rename_i x y t t' h1 h2;exact ZiF (by rw[hop,Z59 hcal h1 h2]) h
   ·rename_i x y z u v t1 t2 t3 t4 t5 h1 h2;exact ZgP (by rw[hop,Z59 hcal h1 h2]) h
   ·cases h
  ·rename_i hcal;split at h
   ·rename_i x y t t' h1 h2;exact ZhU (by rw[hop,Z59 hcal h1 h2]) h
   ·rename_i x y z u v t1 t2 t3 t4 t5 h1 h2;exact Zgx (by rw[hop,Z59 hcal h1 h2]) h
   ·cases h
  ·cases h
 ·cases h
theorem Z9i{P:Program}{o:Oper}{id:Nat}{hs:List Hint}{E E':Operand→AV}{H:Heap}(h:∀ x∈o.op.operands.toList,E x=E' x):act P o id hs E H=act P o id hs E' H:=by
 unfold act;cases hop:o.op with
 | move x=>simp only[h x (by simp[hop,Op.operands])]
 | assign x=>simp only[h x (by simp[hop,Op.operands])]
 | box t x=>simp only[h x (by simp[hop,Op.operands])]
 | build t parts =>
  have:(parts.toList.map fun p=>(p.1,E p.2))=parts.toList.map fun p=>(p.1,E' p.2):=List.map_congr_left fun p hp=>by
   rw[h p.2 (by simp[hop,Op.operands];exact⟨p.1,by simpa using hp⟩)]
  simp only[this]
 | buildSlice t n parts =>
  have:(parts.toList.map fun p=>(p.1,E p.2))=parts.toList.map fun p=>(p.1,E' p.2):=List.map_congr_left fun p hp=>by
   rw[h p.2 (by simp[hop,Op.operands];exact⟨p.1,by simpa using hp⟩)]
  simp only[this]
 | load t x=>simp only[h x (by simp[hop,Op.operands])]
 | store t x y=>simp only[h x (by simp[hop,Op.operands]),h y (by simp[hop,Op.operands])]
 | nilCheck x=>simp only[h x (by simp[hop,Op.operands])]
 | binOp op t x y t'=>simp only[h x (by simp[hop,Op.operands]),h y (by simp[hop,Op.operands])]
 | unOp op t x=>simp only[h x (by simp[hop,Op.operands])]
 | convert s t x=>simp only[h x (by simp[hop,Op.operands])]
 | makeFunc fn first captured =>
  have:(captured.toList.map E)=captured.toList.map E':=List.map_congr_left fun p hp=>h p (by simp[hop,Op.operands];exact .inr (by simpa using hp));simp only[Z4d,this]
 | makeInterface t x=>simp only[h x (by simp[hop,Op.operands])]
 | typeAssert x t t' ok=>simp only[h x (by simp[hop,Op.operands])]
 | makeSlice t x y=>simp only[h x (by simp[hop,Op.operands]),h y (by simp[hop,Op.operands])]
 | slice t x lo hi mx =>
  have e1:lo.map E=lo.map E':=by cases lo with | none=>rfl | some y=>simp only[Option.map_some];rw[h y (by simp[hop,Op.operands])]
  have e2:hi.map E=hi.map E':=by cases hi with | none=>rfl | some y=>simp only[Option.map_some];rw[h y (by simp[hop,Op.operands])]
  simp only[h x (by simp[hop,Op.operands]),e1,e2]
 | fieldAddr t x f=>simp only[h x (by simp[hop,Op.operands])]
 | field t x f=>simp only[h x (by simp[hop,Op.operands])]
 | indexAddr t x y=>simp only[h x (by simp[hop,Op.operands]),h y (by simp[hop,Op.operands])]
 | extract x n=>simp only[h x (by simp[hop,Op.operands])]
 | call c =>
  have hm:∀ x∈c.args.toList,E x=E' x:=fun x hx=>h x (by simp only[hop,Op.operands,Call.operands,Array.toList_append,List.mem_append];exact .inr hx);dsimp only;split
  ·split
   ·rename_i x t h1 h2;rw[hm x (by rw[h1];simp)]
   ·rfl
  ·split
   ·rename_i x y t t' h1 h2;rw[hm x (by rw[h1];simp),hm y (by rw[h1];simp)]
   ·rfl
  ·split
   ·rename_i x t h1 h2;rw[hm x (by rw[h1];simp)]
   ·rfl
  ·split
   ·rename_i x y t t' h1 h2;rw[hm x (by rw[h1];simp),hm y (by rw[h1];simp)]
   ·rename_i x y z u v t1 t2 t3 t4 t5 h1 h2;rw[hm x (by rw[h1];simp),hm y (by rw[h1];simp),hm z (by rw[h1];simp),hm u (by rw[h1];simp),hm v (by rw[h1];simp)]
   ·rfl
  ·split
   ·rename_i x y t t' h1 h2;rw[hm x (by rw[h1];simp),hm y (by rw[h1];simp)]
   ·rename_i x y z u v t1 t2 t3 t4 t5 h1 h2;rw[hm x (by rw[h1];simp),hm y (by rw[h1];simp),hm z (by rw[h1];simp),hm u (by rw[h1];simp),hm v (by rw[h1];simp)]
   ·rfl
  ·rfl
 | _=>rfl
def bv(b:Bool):AV:=.d (.sc (.bool b))
theorem Zjr{a b:Bool}(h:bv a=bv b):a=b:=by unfold bv at h;injection h with h;injection h with h;injection h
def Zpw:Bool→Bool→Bool
 | true,b=>b
 | false,b=>!b
def guardOf(ops:Array Oper)(tmps:List AV):Option (Nat×Bool)→Option (Option Bool)
 | none=>some none
 | some (j,want)=>match ops[j]? with
  | some oj=>match oj.dst with
   | some t=>match tmps.getD t .any with
    | .d (.sc (.bool b))=>some (some (Zpw want b))
    | .gd g (.d (.sc (.bool b)))=>some (some (g&&Zpw want b))
    | _=>none
   | none=>none
  | none=>none
def Z0X(G:Option Bool)(R:Operand→AV)(x:Operand):AV:=match G with | none=>R x | some _=>strip (R x)
def Z2D(G:Option Bool)(R:Operand→AV):List Operand→List (AV×AV)
 | []=>[]
 | x::xs=>match G with
  | none=>Z2D G R xs
  | some g=>match R x with
   | .gd g' _=>(bv g',bv g)::Z2D G R xs
   | _=>Z2D G R xs
def EqP(l:List (AV×AV)):Prop:=∀ p∈l,p.1=p.2
theorem Z2j{ρ:Rho}{w:World}{Im:Nat→Prop}{G:Option Bool}{R:Operand→AV}{l:List Operand}{x:Operand}{v:Value}(hx:x∈l)(hp:EqP (Z2D G R l))(hG:∀ g,G=some g→g=true)(h:Rel ρ w Im (R x) v):Rel ρ w Im (Z0X G R x) v:=by
 cases G with
 | none=>exact h
 | some g =>
  have hg:=hG g rfl;simp only[Z0X];cases hR:R x with
  | gd g' a =>
   have:(bv g',bv g)∈Z2D (some g) R l:=by
    clear hp h;induction l with
    | nil=>simp at hx
    | cons y l ih =>
     rcases List.mem_cons.1 hx with e | e
     ·subst e;simp[Z2D,hR]
     ·have:=ih e;simp only[Z2D];split
      ·exact List.mem_cons_of_mem _ this
      ·exact this
   have:=Zjr (hp _ this);rw[hR]at h;cases h with
   | gd h1 h2=>exact h1 (by rw[this];exact hg)
  | _=>rw[hR]at h;exact h
def mkG:Option Bool→AV→AV
 | none,a=>a
 | some g,a=>.gd g a
def phG:Option Bool→List Prop→List Prop
 | none,l=>l
 | some g,l=>l.map fun p=>g=true→p
theorem Z8d{G:Option Bool}{l:List Prop}(h:allP (phG G l))(hG:∀ g,G=some g→g=true):allP l:=by
 cases G with
 | none=>exact h
 | some g =>
  have hg:=hG g rfl;induction l with
  | nil=>trivial
  | cons p l ih =>
   simp only[phG,List.map_cons]at h;obtain⟨h1,h2⟩:=allP_cons.1 h;exact allP_cons.2 ⟨h1 hg,ih h2⟩
def Zee(w:World)(Im:Nat→Prop)(fr:Bool)(res:AV)(news:List Blk)(v:Value)(w':World):Prop :=
 Kept (fun _=>False) w w'∧∃ (ρ':Rho) (Im':Nat→Prop),(∀ g,Im' g→(fr=false∧Im g)∨w.heap.size≤g)∧(∀ g,Im' g→g<w'.heap.size) ∧
  (∀ b β g,ρ' b=some β→β.g=some g→w.heap.size≤g∧g<w'.heap.size∧¬ Im' g)∧(∀ b b' β β' g,ρ' b=some β→ρ' b'=some β'→β.g=some g→β'.g=some g→b=b') ∧
  (∀ (k:Nat) (β:Bi),ρ' k=some β→k<news.length)∧(∀ (k:Nat) (B:Blk),news[k]? = some B→∃ β,ρ' k=some β∧RelB ρ' w' Im' β B)∧Rel ρ' w' Im' res v
def GSpec(P:Program)(f:Nat)(args:List AV)(fr:Bool)(res:AV)(news:List Blk):Prop :=
 ∀ (w:World) (Im:Nat→Prop) (vs:Array Value),(∀ g,Im g→g<w.heap.size)→vs.size=args.length→(∀ (i:Nat) (x:AV) (v:Value),args[i]? = some x→vs[i]? = some v→Rel (fun _=>none) w Im x v) →
  Calls P f vs w fun e w'=>∃ v,e = .returned v∧Zee w Im fr res news v w'
def toD1(H:Heap)(x:AV):Option AV:=match x with
 | .d x=>some (.d x)
 | .rp e o=>some (.rp e o)
 | .ow _ | .os .. => match Z15 H x with | some (s,els)=>some (.d (.sl s els)) | none=>none
 | _=>none
def toDs(H:Heap):List AV→Option (List AV)
 | []=>some []
 | a::l=>match toD1 H a,toDs H l with
  | some x,some r=>some (x::r)
  | _,_=>none
def toD(H:Heap)(x:AV):Option AV:=match x with
 | .ag l=>(toDs H l).map .ag
 | .fn f l=>(toDs H l).map (.fn f)
 | .ic t a=>(toD1 H a).map (.ic t)
 | a=>toD1 H a
def toDD(H:Heap):List AV→Option (List AV)
 | []=>some []
 | a::l=>match toD H a,toDD H l with
  | some x,some r=>some (x::r)
  | _,_=>none
def Zgv(ρ:Rho)(Im:Nat→Prop):Nat→Prop:=fun g=>Im g∨∃ b β,ρ b=some β∧β.g=some g
section
variable {Ow:Own} {Im0:Nat→Prop} {w0:World} {ρ:Rho} {w:World} {Im:Nat→Prop} {H:Heap} {clk:Nat}
theorem Z7x{x:AV}{v:Value}{s:Nat}{els:List (List DV)}(I:Inv Ow Im0 w0 ρ w Im H clk)(hx:Rel ρ w Im x v)(h:Z15 H x=some (s,els)):RelD w (Zgv ρ Im) (.sl s els) v:=by
 obtain⟨p,c,rfl,hb,hc,hl,hcell⟩:=Z1u I hx h;by_cases he:els=[]
 ·subst he;exact .slNil _ _ _
 rcases hcell with hcell | ⟨q,rfl,hq,hcell⟩
 ·exact absurd hcell he
 have hex:∀ (i:Nat) (e:List DV) (o:Nat) (y:DV),els[i]? = some e→e[o]? = some y→RelD w (Zgv ρ Im) y ((w.cell? ⟨q.block,q.off+(i*s+o),none⟩).getD undef):=by
  intro i e o y hi ho;obtain⟨u,k1,k2⟩:=hcell i e o y hi ho;rw[k1];exact k2.mono (Ext.refl _ _) (fun _ h=>.inl h)
 refine .sl s els q els.length c (fun i o=>(w.cell? ⟨q.block,q.off+(i*s+o),none⟩).getD undef) rfl hc hb (hl he) hq ?_ ?_ hex
 ·unfold Z15 at h;split at h
  ·cases h;cases hx with
   | d hx =>
    cases hx with
    | slNil=>exact absurd rfl he
    | sl _ _ _ _ _ _ _ _ _ _ _ him=>exact .inl him
  ·cases h;exact absurd rfl he
  ·split at h;rotate_left
   ·cases h
   rename_i b _ ty s' els' hb';cases h;generalize hvv:Value.slice (some q) els.length c=vv at hx;cases hx with
   | ow hρ hcc _ ha =>
    injection hvv with e1 e2 e3;rcases ha with ha | ⟨g,hg,e,_⟩
    ·have:0<els.length:=List.length_pos_iff.2 he;omega
    ·rw[← e1]at e;cases e;exact .inr ⟨b,_,hρ,hg⟩
  ·split at h;rotate_left
   ·cases h
   rename_i b oo m _ ty s' els' hb';cases h;generalize hvv:Value.slice (some q) ((els'.drop oo).take m).length c=vv at hx;cases hx with
   | os hρ hn hcc _ ha =>
    injection hvv with e1 e2 e3;rcases ha with ha | ⟨g,hg,e,_⟩
    ·exfalso;have:0<((els'.drop oo).take m).length:=List.length_pos_iff.2 he;omega
    ·rw[← e1]at e;cases e;exact .inr ⟨b,_,hρ,hg⟩
  ·cases h
 ·intro i e o y hi ho;obtain⟨u,k1,_⟩:=hcell i e o y hi ho;rw[k1];rfl
theorem Z7Y{x y:AV}{v:Value}(I:Inv Ow Im0 w0 ρ w Im H clk)(hx:Rel ρ w Im x v)(h:toD1 H x=some y):Rel (fun _=>none) w (Zgv ρ Im) y v:=by
 unfold toD1 at h;split at h
 ·cases h;cases hx with | d hx=>exact .d (hx.mono (Ext.refl _ _) (fun _ h=>.inl h))
 ·cases h;cases hx with | rp h1 h2 h3=>exact .rp h1 (.inl h2) (fun j x hx=>let ⟨v,k1,k2⟩:=h3 j x hx;⟨v,k1,k2.mono (Ext.refl _ _) (fun _ h=>.inl h)⟩)
 ·split at h
  ·cases h;exact .d (Z7x I hx aa)
  ·cases h
 ·split at h
  ·cases h;exact .d (Z7x I hx aa)
  ·cases h
 ·cases h
theorem Zby{H:Heap}:∀ {l m:List AV},toDs H l=some m→m.length=l.length∧∀ (i:Nat) (y:AV),m[i]? = some y→∃ x,l[i]? = some x∧toD1 H x=some y
 | [],m,h=>by simp[toDs]at h;subst h;simp
 | a::l,m,h=>by
  simp only[toDs]at h;split at h
  ·rename_i x r hx hr;cases h;obtain⟨h1,h2⟩:=Zby hr;refine⟨by simp[h1],fun i y hy=>?_⟩;cases i with
   | zero=>simp at hy;subst hy;exact⟨a,rfl,hx⟩
   | succ i=>exact h2 i y (by simpa using hy)
  ·cases h
theorem Zje{x y:AV}{v:Value}(I:Inv Ow Im0 w0 ρ w Im H clk)(hx:Rel ρ w Im x v)(h:toD H x=some y):Rel (fun _=>none) w (Zgv ρ Im) y v:=by
 unfold toD at h;split at h
 ·simp only[Option.map_eq_some_iff]at h;obtain⟨m,hm,rfl⟩:=h;obtain⟨h1,h2⟩:=Zby hm;obtain⟨cs,rfl,k1,k2,k3⟩:=Z2R hx;refine .ag _ cs oq k2 fun i a u ha hu=>?_;obtain⟨x,hx',hd⟩:=h2 i a ha;exact Z7Y I (k3 i x u hx' hu) hd
 ·simp only[Option.map_eq_some_iff]at h;obtain⟨m,hm,rfl⟩:=h;obtain⟨h1,h2⟩:=Zby hm;cases hx with
  | fn k1 k3 =>
   refine .fn oq fun i a u ha hu=>?_;obtain⟨x,hx',hd⟩:=h2 i a ha;exact Z7Y I (k3 i x u hx' hu) hd
 ·simp only[Option.map_eq_some_iff]at h;obtain⟨m,hm,rfl⟩:=h;cases hx with
  | ic hx=>exact .ic (Z7Y I hx hm)
 ·exact Z7Y I hx h
end
theorem Zbx{H:Heap}:∀ {l m:List AV},toDD H l=some m→m.length=l.length∧∀ (i:Nat) (y:AV),m[i]? = some y→∃ x,l[i]? = some x∧toD H x=some y
 | [],m,h=>by simp[toDD]at h;subst h;simp
 | a::l,m,h=>by
  simp only[toDD]at h;split at h
  ·rename_i x r hx hr;cases h;obtain⟨h1,h2⟩:=Zbx hr;refine⟨by simp[h1],fun i y hy=>?_⟩;cases i with
   | zero=>simp at hy;subst hy;exact⟨a,rfl,hx⟩
   | succ i=>exact h2 i y (by simpa using hy)
  ·cases h
def Z4f:AV→Bool
 | .d _ | .rp .. => true
 | _=>false
def Z6q:AV→Bool
 | .ag l=>l.all Z4f
 | .fn _ l=>l.all Z4f
 | .ic _ (.ag l)=>l.all Z4f
 | .ic _ a=>Z4f a
 | a=>Z4f a
theorem Z2Z{ρ ρ':Rho}{w:World}{Im:Nat→Prop}{x:AV}{v:Value}(h:Rel ρ w Im x v)(hp:Z4f x=true):Rel ρ' w Im x v:=by
 cases h<;>first | (simp[Z4f]at hp;done) | skip
 ·exact .d aa
 ·exact .rp aa aa aa
theorem Zas{ρ ρ':Rho}{w:World}{Im:Nat→Prop}{x:AV}{v:Value}(h:Rel ρ w Im x v)(hp:Z6q x=true):Rel ρ' w Im x v:=by
 unfold Z6q at hp;split at hp
 ·obtain⟨cs,rfl,k1,k2,k3⟩:=Z2R h;simp only[List.all_eq_true]at hp;exact .ag _ cs k1 k2 fun i a u ha hu=>Z2Z (k3 i a u ha hu) (hp a (List.mem_of_getElem? ha))
 ·cases h with
  | fn k1 k3 =>
   simp only[List.all_eq_true]at hp;exact .fn k1 fun i a u ha hu=>Z2Z (k3 i a u ha hu) (hp a (List.mem_of_getElem? ha))
 ·cases h with
  | ic h =>
   obtain⟨cs,rfl,k1,k2,k3⟩:=Z2R h;simp only[List.all_eq_true]at hp;exact .ic (.ag _ cs k1 k2 fun i a u ha hu=>Z2Z (k3 i a u ha hu) (hp a (List.mem_of_getElem? ha)))
 ·cases h with
  | ic h=>exact .ic (Z2Z h hp)
 ·exact Z2Z h hp
def nid(dst clk k:Nat):Nat:=clk*8000+(k+1)*1000+dst
def renF(dst clk:Nat):AV→AV
 | .pt k i o=>.pt (nid dst clk k) i o
 | .os k o n=>.os (nid dst clk k) o n
 | .ow k=>.ow (nid dst clk k)
 | a=>a
def mapT(f:AV→AV):AV→AV
 | .tu l=>.tu (l.map (mapA f))
 | a=>mapA f a
def Zhy:Blk→Bool
 | .arr .. => true
 | _=>false
def ZdV(dst clk:Nat):Nat→List Blk→Heap→Heap
 | _,[],H=>H
 | k,B::r,H=>ZdV dst clk (k+1) r (updH H (nid dst clk k) B)
def Z5a(dst clk:Nat):Nat→List Blk→Heap→Bool
 | _,[],_=>true
 | k,B::r,H=>Zhy B&&(match H (nid dst clk k)with | none=>true | some _=>false)&&Z5a dst clk (k+1) r (updH H (nid dst clk k) B)
theorem Z8g{ρ ρ':Rho}{w:World}{Im Im':Nat→Prop}{f:AV→AV}(hi:∀ g,Im g→Im' g)(hpt:∀ b i o v,Rel ρ w Im (.pt b i o) v→Rel ρ' w Im' (f (.pt b i o)) v)(hos:∀ b o n v,Rel ρ w Im (.os b o n) v→Rel ρ' w Im' (f (.os b o n)) v)
  (how:∀ b v,Rel ρ w Im (.ow b) v→Rel ρ' w Im' (f (.ow b)) v) {a:AV} {v:Value} (h:Rel ρ w Im a v):Rel ρ' w Im' (mapT f a) v:=by
 cases a with
 | tu l =>
  cases h with
  | tu _ cs h1 h3 =>
   refine .tu _ cs (by simpa using h1) fun i x v hx hv=>?_;simp only[List.getElem?_map,Option.map_eq_some_iff]at hx;obtain⟨y,hy,rfl⟩:=hx;exact Z6l hi hpt hos how (h3 i y v hy hv)
 | _=>exact Z6l hi hpt hos how h
theorem RelB.arr_any{ρ ρ':Rho}{w:World}{Im Im':Nat→Prop}{β:Bi}{B:Blk}(hB:Zhy B=true)(h:RelB ρ w Im β B)(hi:∀ g,Im g→Im' g):RelB ρ' w Im' β B:=by
 cases B with
 | box=>simp[Zhy]at hB
 | dead=>simp[Zhy]at hB
 | arr ty s els =>
  obtain⟨h0,h1,hb',h2,h3⟩:=h;exact⟨h0,h1,hb',h2,h3.imp (fun h=>h) fun⟨g,cs,h4,h5,h6,h7⟩=>⟨g,cs,h4,h5,h6,fun i e o x hx hy=>let ⟨v,h8,h9⟩:=h7 i e o x hx hy;⟨v,h8,h9.mono (Ext.refl _ _) hi⟩⟩⟩
section
variable {Ow:Own} {Im0:Nat→Prop} {w0:World} {ρ:Rho} {w:World} {Im:Nat→Prop} {H:Heap} {clk:Nat}
theorem Inv.adopt(I:Inv Ow Im0 w0 ρ w Im H clk)(id:Nat)(hid:clk*8000≤id)(hH:H id=none)(β:Bi)(B:Blk)
  (hg:∀ g,β.g=some g→(∀ k κ,ρ k=some κ→κ.g≠some g)∧¬ Im g∧g<w.heap.size∧w0.heap.size≤g)
  (hB:RelB (updR ρ id β) w Im β B):Inv Ow Im0 w0 (updR ρ id β) w Im (updH H id B) clk:=by
 have hn:=I.fresh id hid hH;refine⟨I.kept, ?_, ?_, ?_, ?_,I.imb,I.im0, ?_, ?_,Z7q I.one hid⟩
 ·intro b b' κ κ' g l1 l2 h1 h2 h3 h4;unfold updR at h1 h2;split at h1<;>split at h2
  ·omega
  ·cases h1;exact absurd h4 ((hg g h3).1 b' κ' h2)
  ·cases h2;exact absurd h3 ((hg g h4).1 b κ h1)
  ·exact I.inj b b' κ κ' g (Z1b l1 aa) (Z1b l2 aa) h1 h2 h3 h4
 ·intro b κ g l h h';unfold updR at h;split at h
  ·cases h;exact(hg g h').2.1
  ·exact I.notIm b κ g (Z1b l aa) h h'
 ·intro b κ g h h';unfold updR at h;split at h
  ·cases h;exact(hg g h').2.2.1
  ·exact I.bnd b κ g h h'
 ·intro b κ g h h';unfold updR at h;split at h
  ·rename_i hbi;cases h;have:=I.one;exact .inl ⟨(hg g h').2.2.2,by omega⟩
  ·exact I.own b κ g h h'
 ·intro b B' h;unfold updH at h;split at h
  ·cases h;rename_i hb;exact⟨_,by rw[hb];exact Z1s _ _ _,hB⟩
  ·obtain⟨κ,h1,h2⟩:=I.blk b B' h;exact⟨κ,Z1E hn _ _ h1,h2.mono (Ext.refl _ _) (fun _ h=>h) (Z1E hn) I.bnd (fun _ _=>rfl)⟩
 ·intro b hb h;unfold updH at h;unfold updR;split
  ·rename_i hbi;simp[hbi]at h
  ·rename_i hbi;simp only[hbi,if_false]at h;exact I.fresh b hb h
theorem ZjQ(dst clk k:Nat):clk*8000≤nid dst clk k:=by unfold nid;omega
theorem ZcC{ρ':Rho}{dst:Nat}:∀ (news:List Blk) (k:Nat) (ρ:Rho) (H:Heap),Inv Ow Im0 w0 ρ w Im H clk→Z5a dst clk k news H=true →
  (∀ (i:Nat) (B:Blk),news[i]? = some B→∃ β,ρ' (k+i)=some β∧RelB ρ' w Im β B∧∀ g,β.g=some g→¬ Im g∧g<w.heap.size∧w0.heap.size≤g) →
  (∀ b b' β β' g,ρ' b=some β→ρ' b'=some β'→β.g=some g→β'.g=some g→b=b') →
  (∀ i,i<news.length→∀ β g,ρ' (k+i)=some β→β.g=some g→∀ b κ,ρ b=some κ→κ.g≠some g) →
  ∃ ρ2,Inv Ow Im0 w0 ρ2 w Im (ZdV dst clk k news H) clk∧(∀ b β,ρ b=some β→ρ2 b=some β)∧∀ i β,i<news.length→ρ' (k+i)=some β→ρ2 (nid dst clk (k+i))=some β
 | [],k,ρ,H,I,_,_,_,_=>⟨ρ,I,fun _ _ h=>h,fun i β hi _=>by simp at hi⟩
 | B::news,k,ρ,H,I,hok,hnews,hinj,hfree=>by
  simp only[Z5a,Bool.and_eq_true]at hok;obtain⟨⟨hB,hnone⟩,hrest⟩:=hok;have hH:H (nid dst clk k)=none:=by
   revert hnone;cases H (nid dst clk k)with
   | none=>exact fun _=>rfl
   | some _=>exact fun h=>by cases h
  obtain⟨β,h1,h2,h3⟩:=hnews 0 B rfl;rw[Nat.add_zero]at h1;have J:=I.adopt (nid dst clk k) (ZjQ dst clk k) hH β B (fun g hg=>⟨fun b κ hb=>hfree 0 pq β g (by rw[Nat.add_zero];exact h1) hg b κ hb,(h3 g hg).1,(h3 g hg).2.1,(h3 g hg).2.2⟩) (h2.arr_any hB (fun _ h=>h));obtain⟨ρ2,J2,s1,s2⟩:=ZcC news (k+1) _ _ J hrest (fun i B' hB'=>by
    have:=hnews (i+1) B' (by simpa using hB');rwa [show k+(i+1)=k+1+i from by omega]at this) hinj (fun i hi β' g hβ' hg b κ hb=>by
    unfold updR at hb;split at hb
    ·cases hb;intro hg';have:=hinj _ _ _ _ g h1 hβ' hg' hg;omega
    ·exact hfree (i+1) qo β' g (by rw[show k+(i+1)=k+1+i from by omega];exact hβ') hg b κ hb)
  refine⟨ρ2,J2,fun b κ hb=>s1 b κ (Z1E (I.fresh _ (ZjQ dst clk k) hH) b κ hb),fun i κ hi hκ=>?_⟩;cases i with
  | zero =>
   rw[Nat.add_zero]at hκ ⊢;rw[h1]at hκ;cases hκ;exact s1 _ _ (Z1s _ _ _)
  | succ i =>
   rw[show k+(i+1)=k+1+i from by omega]at hκ ⊢;exact s2 i κ (by simpa using hi) hκ
theorem Inv.called(I:Inv Ow Im0 w0 ρ w Im H clk){w':World}(K:Kept (fun _=>False) w w')(Im':Nat→Prop)(h1:∀ g,Im' g→Im g∨w.heap.size≤g)(h2:∀ g,Im' g→g<w'.heap.size) :
  Inv Ow Im0 w0 ρ w' (fun g=>Im g∨Im' g) H clk∧Ext Im w w':=by
 have he:Ext Im w w':=⟨K.size,fun g hg=>K.block g (I.imb g hg) (fun h=>h),fun g hg=>K.rows g hg⟩
 refine⟨⟨⟨K.os.trans I.kept.os,K.tape.trans I.kept.tape,K.output.trans I.kept.output,Nat.le_trans I.kept.size K.size,fun k hk ho=>?_,fun k hk=>?_⟩,I.inj, ?_,fun b β g h h'=>Nat.lt_of_lt_of_le (I.bnd b β g h h') K.size,I.own, ?_, ?_, ?_,I.fresh,I.one⟩,he⟩
 ·rw[K.block k (Nat.lt_of_lt_of_le hk I.kept.size) (fun h=>h)];exact I.kept.block k hk ho
 ·rw[K.rows k (Nat.lt_of_lt_of_le hk I.kept.size)];exact I.kept.rows k hk
 ·intro b β g l h h' him;rcases him with him | him
  ·exact I.notIm b β g l h h' him
  ·rcases h1 g him with h1 | h1
   ·exact I.notIm b β g l h h' h1
   ·have:=I.bnd b β g h h';omega
 ·intro g hg;rcases hg with hg | hg
  ·exact Nat.lt_of_lt_of_le (I.imb g hg) K.size
  ·exact h2 g hg
 ·intro g hg;rcases hg with hg | hg
  ·exact I.im0 g hg
  ·rcases h1 g hg with h1 | h1
   ·exact I.im0 g h1
   ·exact .inr (.inl (Nat.le_trans I.kept.size h1))
 ·intro b B h;obtain⟨β,k1,k2⟩:=I.blk b B h;exact⟨β,k1,k2.mono he (fun _ h=>.inl h) (fun _ _ h=>h) I.bnd (fun g hg=>K.block g (I.bnd b β g k1 hg) (fun h=>h))⟩
end
structure Out where
 tmps:List AV
 H:Heap
 ph:List Prop
 eq:List (AV×AV)
structure Core where
 sl:Option (Nat×AV)
 ups:List (Nat×Blk)
 ph:List Prop
 eq:List (AV×AV)
def applyU:List (Nat×Blk)→Heap→Heap
 | [],H=>H
 | (b,B)::r,H=>applyU r (updH H b B)
def Core.out(c:Core)(tmps:List AV)(H:Heap):Out:=⟨match c.sl with | some (d,v)=>tmps.set d v | none=>tmps,applyU c.ups H,c.ph,c.eq⟩
def look(k:Nat):List (Nat×List Hint)→List Hint
 | []=>[]
 | (j,h)::r=>if j=k then h else look k r
def keyOf(o:Oper):Nat:=match o.dst with
 | some d=>d
 | none=>match o.op with
  | .store _ (.tmp t) _=>10000+t
  | _=>20000
def Res.ups(r:Res):List (Nat×Blk):=match r.up with | some x=>[x] | none=>[]
theorem Res.applyU(r:Res)(H:Heap):applyU r.ups H=r.heap H:=by
 unfold Res.ups Res.heap;cases r.up with
 | none=>rfl
 | some x=>rfl
def Z2v(P:Program)(clk:Nat)(hints:List (Nat×List Hint))(o:Oper)(G:Option Bool)(tmps:List AV)(H:Heap):Option Core :=
 match o.dst with
 | some d=>match H (clk*8000+d)with
  | some _=>none
  | none=>match act P o (clk*8000+d) (look (keyOf o) hints) (Z0X G (ev tmps)) H with
   | some r=>match G,r.up with
    | some _,some _=>none
    | _,_=>some ⟨some (d,mkG G r.val),r.ups,phG G r.ph,Z2D G (ev tmps) o.op.operands.toList⟩
   | none=>none
 | none=>match G with
  | some _=>none
  | none=>match H (clk*8000+7999)with
   | some _=>none
   | none=>match act P o (clk*8000+7999) (look (keyOf o) hints) (ev tmps) H with
    | some r=>some ⟨none,r.ups,r.ph,[]⟩
    | none=>none
def conj(G:Option Bool)(b:Bool):Bool:=match G with | none=>b | some g=>g&&b
def asB(x:AV):Option Bool:=match x with | .d (.sc (.bool b))=>some b | _=>none
def gdB(x:AV):Option (Bool×Bool):=match x with | .gd g (.d (.sc (.bool b)))=>some (g,b) | _=>none
def Zi4(x:Operand):Bool:=match x with | .const (.bool b)=>b | _=>false
def Zex(x:Operand):Bool:=match x with | .const (.bool b)=>!b | _=>false
def Z6n(hints:List (Nat×List Hint))(o:Oper)(c a b:Operand)(G:Option Bool)(tmps:List AV):Option Core :=
 match o.dst with
 | none=>none
 | some d=>match asB (Z0X G (ev tmps) c)with
  | none=>none
  | some gc=>match Zi4 a with
   | true=>match gdB (ev tmps b)with
    | some (g',v)=>some ⟨some (d,mkG G (Z4C (gc||v) (look d hints)).val),[],phG G (Z4C (gc||v) (look d hints)).ph,Z2D G (ev tmps) [c]++[(bv g',bv (conj G (!gc)))]⟩
    | none=>none
   | false=>match Zex b with
    | true=>match gdB (ev tmps a)with
     | some (g',v)=>some ⟨some (d,mkG G (Z4C (gc&&v) (look d hints)).val),[],phG G (Z4C (gc&&v) (look d hints)).ph,Z2D G (ev tmps) [c]++[(bv g',bv (conj G gc))]⟩
     | none=>none
    | false=>none
def Z7I(P:Program)(f:Nat):Bool:=match P.funcs[f]? with | some fn=>fn.body.isSome&&!(fn.name == "runtime.NumGoroutine") | none=>false
def Zid(dst clk:Nat):Nat→List Blk→List (Nat×Blk)
 | _,[]=>[]
 | k,B::r=>(nid dst clk k,B)::Zid dst clk (k+1) r
theorem Z8R(dst clk:Nat):∀ (news:List Blk) (k:Nat) (H:Heap),applyU (Zid dst clk k news) H=ZdV dst clk k news H
 | [],_,_=>rfl
 | B::r,k,H=>Z8R dst clk r (k+1) (updH H (nid dst clk k) B)
def Z72(P:Program)(clk:Nat)(hints:List (Nat×List Hint))(o:Oper)(f:Operand)(args:List Operand)(G:Option Bool)(tmps:List AV)(H:Heap):Option Core :=
 match o.dst with
 | none=>none
 | some d=>match Z0X G (ev tmps) f with
  | .fn k caps=>match look d hints with
   | .call fr res news::_ =>
    match (match fr with | true=>toDD H ((args.map (Z0X G (ev tmps)))++caps) | false=>(if((args.map (Z0X G (ev tmps)))++caps).all Z6q then some ((args.map (Z0X G (ev tmps)))++caps)else none))with
    | some as=>if Z7I P k&&Z5a d clk 0 news H then
     match G,news with
     | some _,_::_=>none
     | _,_=>some ⟨some (d,mkG G (mapT (renF d clk) res)),Zid d clk 0 news,phG G [GSpec P k as fr res news],Z2D G (ev tmps) (f::args)⟩
     else none
    | none=>none
   | _=>none
  | _=>none
def ZbO:Blk→Bool
 | .box _ l=>l.all Z4f
 | _=>false
def Zmp:AV→Bool
 | .tu l=>l.all Z6q
 | a=>Z6q a
def LentSpec(P:Program)(f:Nat)(args:List AV)(pre:List Blk)(res:AV)(post:List Blk):Prop :=
 ∀ (w:World) (Im:Nat→Prop) (ρ:Rho) (vs:Array Value),(∀ g,Im g→g<w.heap.size)→vs.size=args.length→(∀ k β,ρ k=some β→k<pre.length) →
  (∀ b b' β β' g,ρ b=some β→ρ b'=some β'→β.g=some g→β'.g=some g→b=b')→(∀ b β g,ρ b=some β→β.g=some g→g<w.heap.size∧¬ Im g) →
  (∀ (k:Nat) (B:Blk),pre[k]? = some B→∃ β,ρ k=some β∧RelB ρ w Im β B)→(∀ (i:Nat) (x:AV) (v:Value),args[i]? = some x→vs[i]? = some v→Rel ρ w Im x v) →
  Calls P f vs w fun e w'=>∃ v,e = .returned v∧Kept (fun g=>∃ b β,ρ b=some β∧β.g=some g) w w'∧∃ Im':Nat→Prop,(∀ g,Im' g→Im g∨w.heap.size≤g)∧(∀ g,Im' g→g<w'.heap.size) ∧
   (∀ (k:Nat) (B:Blk),post[k]? = some B→∃ β,ρ k=some β∧RelB ρ w' Im' β B)∧Rel ρ w' Im' res v
def ptId:AV→List Nat
 | .pt b 0 0=>[b]
 | _=>[]
def idxN(b:Nat):List Nat→Nat→Option Nat
 | [],_=>none
 | x::l,k=>match Nat.beq x b with | true=>some k | false=>idxN b l (k+1)
def Zoj(ls:List Nat)(x:AV):Option AV:=match x with
 | .pt b 0 0=>match idxN b ls 0 with | some k=>some (.pt k 0 0) | none=>none
 | x=>match Z6q x with | true=>some x | false=>none
def Zd6(ls:List Nat):List AV→Option (List AV)
 | []=>some []
 | x::l=>match Zoj ls x,Zd6 ls l with
  | some y,some r=>some (y::r)
  | _,_=>none
def Z9U(H:Heap):List Nat→Option (List Blk)
 | []=>some []
 | b::l=>match H b,Z9U H l with
  | some B,some r=>match ZbO B with | true=>some (B::r) | false=>none
  | _,_=>none
def nodupB:List Nat→Bool
 | []=>true
 | x::l=>(match idxN x l 0 with | none=>true | some _=>false)&&nodupB l
def Z6o(P:Program)(clk:Nat)(hints:List (Nat×List Hint))(o:Oper)(f:Operand)(args:List Operand)(G:Option Bool)(tmps:List AV)(H:Heap):Option Core :=
 match o.dst with
 | none=>none
 | some d=>match (match G with | none=>true | some g=>g)with
  | false=>match look d hints with
   | .lent res _::_=>some ⟨some (d,mkG G res),[],[],[]⟩
   | _=>none
  | true=>match Z0X G (ev tmps) f with
   | .fn k caps=>match look d hints with
    | .lent res post::_=>match Zd6 ((args.map (Z0X G (ev tmps))++caps).flatMap ptId) (args.map (Z0X G (ev tmps))++caps),Z9U H ((args.map (Z0X G (ev tmps))++caps).flatMap ptId)with
     | some as,some pre=>match Z7I P k&&nodupB ((args.map (Z0X G (ev tmps))++caps).flatMap ptId)&&post.all ZbO&&Zmp res&&Nat.beq post.length pre.length with
      | true=>some ⟨some (d,res),((args.map (Z0X G (ev tmps))++caps).flatMap ptId).zip post,[LentSpec P k as pre res post],Z2D G (ev tmps) (f::args)⟩
      | false=>none
     | _,_=>none
    | _=>none
   | _=>none
def ksL:AV→List Nat
 | .ow b=>[b]
 | .os b _ _=>[b]
 | _=>[]
def ksM:AV→List Nat
 | .ag l=>l.flatMap ksL
 | .fn _ l=>l.flatMap ksL
 | .ic _ a=>ksL a
 | a=>ksL a
def Z6C(H:Heap):List Nat→Bool
 | []=>true
 | b::l=>(match H b with | some (.arr ..)=>true | _=>false)&&Nat.ble 8000 b&&Z6C H l
def Z6F(P:Program)(clk:Nat)(hints:List (Nat×List Hint))(o:Oper)(f:Operand)(args:List Operand)(G:Option Bool)(tmps:List AV)(H:Heap):Option Core :=
 match G with
 | some _=>none
 | none=>match o.dst with
  | none=>none
  | some d=>match ev tmps f with
   | .fn k caps=>match look d hints with
    | .kill res::_=>match toDD H (args.map (ev tmps)++caps)with
     | some as=>match Z7I P k&&Z6C H ((args.map (ev tmps)++caps).flatMap ksM)&&Zmp res with
      | true=>some ⟨some (d,res),((args.map (ev tmps)++caps).flatMap ksM).map fun b=>(b,.dead),[GSpec P k as false res []],[]⟩
      | false=>none
     | none=>none
    | _=>none
   | _=>none
def ZmB(o:Oper)(hints:List (Nat×List Hint)):Bool:=match o.dst with
 | some d=>match look d hints with | .kill _::_=>true | _=>false
 | none=>false
def Zmt(o:Oper)(hints:List (Nat×List Hint)):Bool:=match o.dst with
 | some d=>match look d hints with | .lent .. :: _=>true | _=>false
 | none=>false
def allO(g:AV→Option AV):List AV→Option (List AV)
 | []=>some []
 | a::l=>match g a,allO g l with
  | some x,some r=>some (x::r)
  | _,_=>none
def nmL(f:Nat→Option Nat)(x:AV):Option AV:=match x with
 | .d x=>some (.d x)
 | .rp e o=>some (.rp e o)
 | .pt b i o=>match f b with | some k=>some (.pt k i o) | none=>none
 | .os b o n=>match f b with | some k=>some (.os k o n) | none=>none
 | .ow b=>match f b with | some k=>some (.ow k) | none=>none
 | _=>none
def nmM(f:Nat→Option Nat)(x:AV):Option AV:=match x with
 | .ag l=>match allO (nmL f) l with | some r=>some (.ag r) | none=>none
 | .fn g l=>match allO (nmL f) l with | some r=>some (.fn g r) | none=>none
 | .ic t (.ag l)=>match allO (nmL f) l with | some r=>some (.ic t (.ag r)) | none=>none
 | .ic t a=>match nmL f a with | some r=>some (.ic t r) | none=>none
 | x=>nmL f x
def nmB(f:Nat→Option Nat)(B:Blk):Option Blk:=match B with
 | .box ty cells=>match allO (nmM f) cells with | some r=>some (.box ty r) | none=>none
 | .arr ty s els=>some (.arr ty s els)
 | .dead=>none
def preB(f:Nat→Option Nat)(H:Heap):List Nat→Option (List Blk)
 | []=>some []
 | b::l=>match H b,preB f H l with
  | some B,some r=>match nmB f B with | some C=>some (C::r) | none=>none
  | _,_=>none
def hL(l:List Blk):Heap:=fun k=>l[k]?
def BorSpec(P:Program)(f:Nat)(args:List AV)(pre:List Blk)(res:AV)(post:List Blk):Prop :=
 ∀ (w:World) (Im:Nat→Prop) (ρ:Rho) (vs:Array Value),(∀ g,Im g→g<w.heap.size)→vs.size=args.length→(∀ k β,ρ k=some β→k<pre.length) →
  (∀ b b' β β' g,ρ b=some β→ρ b'=some β'→β.g=some g→β'.g=some g→b=b')→(∀ b β g,ρ b=some β→β.g=some g→g<w.heap.size∧¬ Im g) →
  (∀ (k:Nat) (B:Blk),pre[k]? = some B→∃ β,ρ k=some β∧RelB ρ w Im β B)→(∀ (i:Nat) (x:AV) (v:Value),args[i]? = some x→vs[i]? = some v→Rel ρ w Im x v) →
  Calls P f vs w fun e w'=>∃ v,e = .returned v∧Kept (OwA (ownR ρ)) w w'∧∃ (ρ':Rho) (Im':Nat→Prop),(∀ k β,ρ k=some β→ρ' k=some β)∧(∀ k β,ρ' k=some β→k<post.length) ∧
   (∀ g,Im' g→Im g∨w.heap.size≤g∨OwA (ownR ρ) g)∧(∀ g,Im' g→g<w'.heap.size) ∧
   (∀ k β g,ρ' k=some β→β.g=some g→g<w'.heap.size∧(w.heap.size≤g∨OwA (ownR ρ) g)) ∧
   (∀ k β g,live (hL post) k→ρ' k=some β→β.g=some g→¬ Im' g) ∧
   (∀ k k' β β' g,live (hL post) k→live (hL post) k'→ρ' k=some β→ρ' k'=some β'→β.g=some g→β'.g=some g→k=k') ∧
   (∀ (k:Nat) (B:Blk),post[k]? = some B→∃ β,ρ' k=some β∧RelB ρ' w' Im' β B)∧Rel ρ' w' Im' res v
def nids(dst clk:Nat):Nat→Nat→List Nat
 | _,0=>[]
 | k,n+1=>nid dst clk k::nids dst clk (k+1) n
def Z3T(H:Heap):List Nat→Bool
 | []=>true
 | b::l=>(match H b with | none=>true | some _=>false)&&Z3T H l
def renI(ids:List Nat):AV→AV
 | .pt k i o=>.pt (ids.getD k 0) i o
 | .os k o n=>.os (ids.getD k 0) o n
 | .ow k=>.ow (ids.getD k 0)
 | a=>a
def Z4D(ids:List Nat):Blk→Blk
 | .box ty cells=>.box ty (cells.map (mapA (renI ids)))
 | B=>B
def Z3E(dst clk:Nat)(ls:List Nat)(post:List Blk):List Nat:=ls++nids dst clk 0 (post.length-ls.length)
def Z8I(P:Program)(clk:Nat)(hints:List (Nat×List Hint))(o:Oper)(f:Operand)(args:List Operand)(G:Option Bool)(tmps:List AV)(H:Heap):Option Core :=
 match o.dst with
 | none=>none
 | some d=>match (match G with | none=>true | some g=>g)with
  | false=>match look d hints with
   | .bor _ res _::_=>some ⟨some (d,mkG G res),[],[],[]⟩
   | _=>none
  | true=>match Z0X G (ev tmps) f with
   | .fn k caps=>match look d hints with
    | .bor ls res post::_=>match allO (nmM fun b=>idxN b ls 0) (args.map (Z0X G (ev tmps))++caps),preB (fun b=>idxN b ls 0) H ls with
     | some as,some pre=>match post with
      | []=>match Z7I P k&&nodupB ls with
       | true=>some ⟨some (d,mapT (renI ls) res),[],[BorSpec P k as pre res pre],Z2D G (ev tmps) (f::args)⟩
       | false=>none
      | B::post=>match Z7I P k&&nodupB (Z3E d clk ls (B::post))&&Nat.ble ls.length (B::post).length&&Nat.ble ((B::post).length-ls.length) 7&&Z3T H (nids d clk 0 ((B::post).length-ls.length))with
       | true=>some ⟨some (d,mapT (renI (Z3E d clk ls (B::post))) res),(Z3E d clk ls (B::post)).zip ((B::post).map (Z4D (Z3E d clk ls (B::post)))),[BorSpec P k as pre res (B::post)],Z2D G (ev tmps) (f::args)⟩
       | false=>none
     | _,_=>none
    | _=>none
   | _=>none
def ZoM(o:Oper)(hints:List (Nat×List Hint)):Bool:=match o.dst with
 | some d=>match look d hints with | .bor .. :: _=>true | _=>false
 | none=>false
def borL(hints:List (Nat×List Hint))(o:Oper):List Nat:=match o.dst with
 | some d=>match look d hints with | .bor ls _ _::_=>ls | _=>[]
 | none=>[]
def Z42(P:Program)(clk:Nat)(hints:List (Nat×List Hint))(o:Oper)(c:Call)(tmps:List AV)(H:Heap):Option Core :=
 match o.dst with
 | none=>none
 | some d=>match c.args.toList,c.argTypes.toList with
  | [x,y],[t,t']=>match H (clk*8000+d)with
   | some _=>none
   | none=>match Z46 P t t' (clk*8000+d) (look d hints) (ev tmps x) (ev tmps y) H with
    | some (b,r)=>some ⟨some (d,r.val),(b,.dead)::r.ups,r.ph,[]⟩
    | none=>none
  | _,_=>none
def Z2z(P:Program)(clk:Nat)(ops:Array Oper)(hints:List (Nat×List Hint))(o:Oper)(tmps:List AV)(H:Heap):Option Core :=
 match guardOf ops tmps o.guard with
 | none=>none
 | some G=>match o.op with
  | .pick c a b=>Z6n hints o c a b G tmps
  | .call c=>match c.callee with
   | .value f=>match Zmt o hints with
    | true=>Z6o P clk hints o f c.args.toList G tmps H
    | false=>match ZmB o hints with
     | true=>Z6F P clk hints o f c.args.toList G tmps H
     | false=>match ZoM o hints with
      | true=>Z8I P clk hints o f c.args.toList G tmps H
      | false=>Z72 P clk hints o f c.args.toList G tmps H
   | .builtin .append=>match G with
    | none=>Z42 P clk hints o c tmps H
    | some _=>none
   | _=>Z2v P clk hints o G tmps H
  | _=>Z2v P clk hints o G tmps H
def Z8X(P:Program)(clk:Nat)(ops:Array Oper)(hints:List (Nat×List Hint))(o:Oper)(tmps:List AV)(H:Heap):Option Out :=
 match Z2z P clk ops hints o tmps H with
 | some c=>some (c.out tmps H)
 | none=>none
theorem getD_some{tmps:List AV}{t:Nat}{x:AV}(h:tmps.getD t .any=x)(hx:x≠.any):tmps[t]? = some x:=by
 by_cases ht:t<tmps.length
 ·simp[List.getD,List.getElem?_eq_getElem ht]at h;rw[List.getElem?_eq_getElem ht,h]
 ·simp[List.getD,List.getElem?_eq_none (Nat.le_of_not_lt ht)]at h;exact absurd h.symm hx
theorem RelT.at{ρ:Rho}{w:World}{Im:Nat→Prop}{tmps:List AV}{a:Act}(T:RelT ρ w Im tmps a){t:Nat}{x:AV}(h:tmps[t]? = some x):∃ v,a.tmps[t]? = some v∧Rel ρ w Im x v:=by
 have ht:t<a.tmps.size:=by rw[T.size];exact(List.getElem?_eq_some_iff.1 h).1
 exact⟨a.tmps[t],Array.getElem?_eq_getElem ht,T.tmp t x _ h (Array.getElem?_eq_getElem ht)⟩
theorem Zhp{ρ:Rho}{w:World}{Im:Nat→Prop}{tmps:List AV}{a:Act}(T:RelT ρ w Im tmps a){ops:Array Oper}{o:Oper}{G:Option Bool}(h:guardOf ops tmps o.guard=some G) :
  (G=none∧Region.wanted o (yielded ops a.tmps)=true)∨∃ g,G=some g∧Region.wanted o (yielded ops a.tmps)=g:=by
 unfold guardOf at h;split at h
 ·rename_i hg;cases h;exact .inl ⟨rfl,by simp[Region.wanted,hg]⟩
 ·rename_i j want hg;split at h;rotate_left
  ·cases h
  rename_i oj hj;split at h;rotate_left
  ·cases h
  rename_i t ht;split at h
  ·rename_i b hb;cases h;obtain⟨v,h1,h2⟩:=T.at (getD_some hb pq)
   cases Z0L h2;refine .inr ⟨_,rfl, ?_⟩;simp only[Region.wanted,hg,yielded,hj,Option.bind_some,ht,h1];cases want<;>cases b<;>rfl
  ·rename_i g b hb;cases h;obtain⟨v,h1,h2⟩:=T.at (getD_some hb pq)
   refine .inr ⟨_,rfl, ?_⟩;cases h2 with
   | gd k1 k2 =>
    cases g with
    | true =>
     cases Z0L (k1 rfl);simp only[Region.wanted,hg,yielded,hj,Option.bind_some,ht,h1];cases want<;>cases b<;>rfl
    | false =>
     rw[k2 rfl]at h1;simp only[Region.wanted,hg,yielded,hj,Option.bind_some,ht,h1,undef];cases want<;>rfl
  ·cases h
section
variable {P:Program} {Ow:Own} {Im0:Nat→Prop} {w0:World} {clk:Nat} {hints:List (Nat×List Hint)} {o:Oper} {tmps:List AV} {H:Heap} {a:Act} {w:World} {out:Out} {next:Act→World→Prop} {Q:Exit→Act→World→Prop}
abbrev Z6x(P:Program)(Ow:Own)(Im0:Nat→Prop)(w0:World)(clk:Nat)(o:Oper)(G:Option Bool)(H:Heap)(tmps:List AV)(out:Out):Prop :=
 ∀ (a:Act) (w:World) (ρ:Rho) (Im:Nat→Prop) (next:Act→World→Prop) (Q:Exit→Act→World→Prop),Inv Ow Im0 w0 ρ w Im H clk→RelT ρ w Im tmps a→allP out.ph→EqP out.eq →
  (∀ a' w',Sys Ow Im0 w0 out.tmps out.H clk a' w'→next a' w')→((∀ g,G=some g→g=true)→o.wp P a w next Q)∧((∃ g,G=some g∧g=false)→next (a.put o.dst undef) w)
theorem EqP.left{l m:List (AV×AV)}(h:EqP (l++m)):EqP l:=fun p hp=>h p (List.mem_append.2 (.inl hp))
theorem EqP.right{l m:List (AV×AV)}(h:EqP (l++m)):EqP m:=fun p hp=>h p (List.mem_append.2 (.inr hp))
theorem ZbG{ρ:Rho}{w:World}{Im:Nat→Prop}{G:Option Bool}{x:AV}{v:Value}(hG:∀ g,G=some g→g=true)(h:Rel ρ w Im x v):Rel ρ w Im (mkG G x) v:=by
 cases G with
 | none=>exact h
 | some g=>exact .gd (fun _=>h) (fun e=>by rw[hG g rfl]at e;cases e)
theorem Z77{ρ:Rho}{Im:Nat→Prop}(I:Inv Ow Im0 w0 ρ w Im H clk)(T:RelT ρ w Im tmps a){G:Option Bool}(hG:∃ g,G=some g∧g=false)(d:Nat)(x:AV):Sys Ow Im0 w0 (tmps.set d (mkG G x)) H clk (a.put (some d) undef) w:=by
 obtain⟨g,rfl,rfl⟩:=hG;exact⟨ρ,Im,I,T.put d (.gd (fun h=>by cases h) (fun _=>rfl))⟩
open Classical in
theorem ZfT{G:Option Bool}{out:Core}(h:Z2v P clk hints o G tmps H=some out):Z6x P Ow Im0 w0 clk o G H tmps (out.out tmps H):=by
 intro a w ρ Im next Q I T hph heq hn
 unfold Z2v at h;split at h
 ·rename_i d hd;split at h
  ·cases h
  rename_i hH;split at h;rotate_left
  ·cases h
  rename_i r hr;let E2:Operand→AV:=fun x=>if x∈o.op.operands.toList then Z0X G (ev tmps) x else .any
  have hcong:act P o (clk*8000+d) (look (keyOf o) hints) E2 H=some r:=by
   rw[← hr];exact Z9i fun x hx=>by simp only[E2];rw[if_pos hx]
  have hs:=Zcm hcong;have key:out=⟨some (d,mkG G r.val),r.ups,phG G r.ph,Z2D G (ev tmps) o.op.operands.toList⟩∧(G=none∨r.up=none):=by
   clear hr hcong hs heq hph hn E2;cases G with
   | none=>injection h with h;exact⟨h.symm,.inl rfl⟩
   | some g =>
    cases hu:r.up with
    | none=>rw[hu]at h;injection h with h;exact⟨h.symm,.inr rfl⟩
    | some x=>rw[hu]at h;cases h
  obtain⟨rfl,hup⟩:=key;refine⟨fun hG=>?_,fun hG=>?_⟩
  ·refine(hs Ow Im0 w0 ρ w Im clk a I oq hH (fun x=>?_) (Z8d hph hG)).wp fun v w' ht=>?_
   ·simp only[E2];split
    ·rename_i hx;exact Z2j hx heq hG (Z1q T x)
    ·exact .any _
   ·obtain⟨ρ',I',he,hsub,hv⟩:=ht;rw[hd];exact hn _ _ ⟨ρ',Im,by show Inv _ _ _ _ _ _ (applyU r.ups H) _;rw[Res.applyU];exact I',(T.mono he (fun _ h=>h) hsub I.bnd).put d (ZbG hG hv)⟩
  ·rw[hd];have:r.up=none:=by
    rcases hup with h | h
    ·obtain⟨g,hg,_⟩:=hG;rw[h]at hg;cases hg
    ·exact h
   have hheap:applyU r.ups H=H:=by rw[Res.applyU];simp[Res.heap,this]
   refine hn _ _ ?_;show Sys Ow Im0 w0 (tmps.set d (mkG G r.val)) (applyU r.ups H) clk _ _;rw[hheap];exact Z77 I T hG d r.val
 ·rename_i hd;split at h
  ·cases h
  split at h
  ·cases h
  rename_i hH;split at h;rotate_left
  ·cases h
  rename_i r hr;cases h;have hs:=Zcm hr;refine⟨fun _=>?_,fun hG=>by obtain⟨g,hg,_⟩:=hG;cases hg⟩;refine(hs Ow Im0 w0 ρ w Im clk a I oq hH (fun x=>Z1q T x) hph).wp fun v w' ht=>?_;obtain⟨ρ',I',he,hsub,hv⟩:=ht;rw[hd];exact hn _ _ ⟨ρ',Im,by show Inv _ _ _ _ _ _ (applyU r.ups H) _;rw[Res.applyU];exact I',(T.mono he (fun _ h=>h) hsub I.bnd)⟩
theorem Zap{b:Bool}{hs:List Hint}(h:allP (Z4C b hs).ph)(ρ:Rho)(w:World)(Im:Nat→Prop):Rel ρ w Im (Z4C b hs).val (.bool b):=by
 unfold Z4C at h ⊢;split at h
 ·rename_i c _;have:b=c:=by simpa[allP]using h
  rw[this];exact .d (.sc _ rfl)
 ·exact .d (.sc _ rfl)
theorem Z8e{x:AV}{b:Bool}(h:asB x=some b):x=bv b:=by
 unfold asB at h;split at h
 ·cases h;rfl
 ·cases h
theorem Zfl{x:AV}{g b:Bool}(h:gdB x=some (g,b)):x = .gd g (bv b):=by
 unfold gdB at h;split at h
 ·cases h;rfl
 ·cases h
theorem ZdW{x:Operand}(h:Zi4 x=true):x = .const (.bool true):=by
 unfold Zi4 at h;split at h
 ·rw[h]
 ·cases h
theorem Zd2{x:Operand}(h:Zex x=true):x = .const (.bool false):=by
 unfold Zex at h;split at h
 ·rename_i b;cases b<;>simp_all
 ·cases h
theorem ZcM{G:Option Bool}{b:Bool}(hG:∀ g,G=some g→g=true):conj G b=b:=by
 cases G with
 | none=>rfl
 | some g=>rw[conj,hG g rfl,Bool.true_and]
theorem Znx{G:Option Bool}{c x y:Operand}{out:Core}(ho:o.op = .pick c x y)(h:Z6n hints o c x y G tmps=some out):Z6x P Ow Im0 w0 clk o G H tmps (out.out tmps H):=by
 intro a w ρ Im next Q I T hph heq hn
 unfold Z6n at h;split at h
 ·cases h
 rename_i d hd;split at h
 ·cases h
 rename_i gc hgc;have hgc':=Z8e hgc;split at h
 ·rename_i hx;have hxt:=ZdW hx;split at h;rotate_left
  ·cases h
  rename_i g' v hgv;have hgv':=Zfl hgv;cases h;refine⟨fun hG=>?_,fun hG=>by rw[hd];exact hn _ _ (Z77 I T hG d _)⟩;have hc:=Z2j (l:=[c]) (x:=c) pq heq.left hG (Z1q T c);rw[hgc']at hc;have hcv:=Z0L hc;have hg':g' = !gc:=by
   have:=Zjr (heq.right (bv g',bv (conj G (!gc))) pq);rw[this,ZcM hG]
  have hy:=Z1q T y;rw[hgv']at hy;have hrun:(execOp a.eval o).run P w = .ok (.value (.bool (gc||v))) w:=by
   cases gc with
   | true =>
    have hxv:a.eval x = .bool true:=by rw[hxt];rfl
    simp[execOp,ho,hcv,asBool,hxv]
   | false =>
    cases hy with
    | gd k1 k2 =>
     have:=Z0L (k1 (by rw[hg'];rfl));simp[execOp,ho,hcv,asBool,this]
  simp only[Oper.wp,hrun,Oper.upon_value];rw[hd];exact hn _ _ ⟨ρ,Im,I,T.put d (ZbG hG (Zap (Z8d hph hG) ρ w Im))⟩
 ·split at h;rotate_left
  ·cases h
  rename_i hx;have hxt:=Zd2 hx;split at h;rotate_left
  ·cases h
  rename_i g' v hgv;have hgv':=Zfl hgv;cases h;refine⟨fun hG=>?_,fun hG=>by rw[hd];exact hn _ _ (Z77 I T hG d _)⟩;have hc:=Z2j (l:=[c]) (x:=c) pq heq.left hG (Z1q T c);rw[hgc']at hc;have hcv:=Z0L hc;have hg':g'=gc:=by
   have:=Zjr (heq.right (bv g',bv (conj G gc)) pq);rw[this,ZcM hG]
  have hy:=Z1q T x;rw[hgv']at hy;have hrun:(execOp a.eval o).run P w = .ok (.value (.bool (gc&&v))) w:=by
   cases gc with
   | false =>
    have hxv:a.eval y = .bool false:=by rw[hxt];rfl
    simp[execOp,ho,hcv,asBool,hxv]
   | true =>
    cases hy with
    | gd k1 k2 =>
     have:=Z0L (k1 hg');simp[execOp,ho,hcv,asBool,this]
  simp only[Oper.wp,hrun,Oper.upon_value];rw[hd];exact hn _ _ ⟨ρ,Im,I,T.put d (ZbG hG (Zap (Z8d hph hG) ρ w Im))⟩
theorem Z1Q{f:Nat}(h:Z7I P f=true)(args:Array Value)(w:World):(callFunc f args).run P w = .ok (.enter f args) w:=by
 unfold Z7I at h;split at h
 ·rename_i fn hf;simp only[Bool.and_eq_true,Bool.not_eq_true']at h;obtain⟨h1,h2⟩:=h;have h3:fn.body.isNone=false:=by cases hb:fn.body<;>simp_all
  simp only[callFunc,Sem.run_bind,run_program,Result.andThen_ok,hf,h2,h3,Bool.false_eq_true,if_false,Sem.run_pure]
 ·cases h
theorem ZnI{G:Option Bool}{c:Call}{f:Operand}{out:Core}(ho:o.op = .call c)(hc:c.callee = .value f)(h:Z72 P clk hints o f c.args.toList G tmps H=some out):Z6x P Ow Im0 w0 clk o G H tmps (out.out tmps H):=by
 intro a w ρ Im next Q I T hph heq hn
 unfold Z72 at h;split at h
 ·cases h
 rename_i d hd;split at h;rotate_left
 ·cases h
 rename_i k caps hf;split at h;rotate_left
 ·cases h
 rename_i fr res news _ _;split at h;rotate_left
 ·cases h
 rename_i as has;split at h;rotate_left
 ·cases h
 rename_i hok;simp only[Bool.and_eq_true]at hok;have key:out=⟨some (d,mkG G (mapT (renF d clk) res)),Zid d clk 0 news,phG G [GSpec P k as fr res news],Z2D G (ev tmps) (f::c.args.toList)⟩∧(G=none∨news=[]):=by
  clear heq hph hn has hf hok;cases G with
  | none=>injection h with h;exact⟨h.symm,.inl rfl⟩
  | some g =>
   cases news with
   | nil=>injection h with h;exact⟨h.symm,.inr rfl⟩
   | cons x l=>cases h
 obtain⟨rfl,hnews⟩:=key;refine⟨fun hG=>?_,fun hG=>?_⟩;rotate_left
 ·rw[hd];have:news=[]:=by
   rcases hnews with h | h
   ·obtain⟨g,hg,_⟩:=hG;rw[h]at hg;cases hg
   ·exact h
  subst this;exact hn _ _ (Z77 I T hG d _)
 have hspec:GSpec P k as fr res news:=by simpa[allP]using Z8d hph hG
 have hfv:=Z2j (l:=f::c.args.toList) (x:=f) pq heq hG (Z1q T f);rw[hf]at hfv;generalize hfe:a.eval f=fv at hfv;cases hfv with
 | fn hcn hcr =>
  rename_i cs;have hall:∀ (i:Nat) (x:AV) (v:Value),((c.args.toList.map (Z0X G (ev tmps)))++caps)[i]? = some x→(c.args.map a.eval++cs)[i]? = some v→Rel ρ w Im x v:=by
   intro i x v hx hv;rw[List.getElem?_append]at hx;rw[Array.getElem?_append]at hv;simp only[List.length_map,Array.length_toList,Array.size_map]at hx hv;split at hx
   ·rename_i hi;rw[if_pos hi]at hv;simp only[List.getElem?_map,Option.map_eq_some_iff,Array.getElem?_map]at hx hv;obtain⟨y,hy,rfl⟩:=hx;obtain⟨y',hy',rfl⟩:=hv;have:y=y':=by
     rw[Array.getElem?_toList]at hy;rw[hy]at hy';cases hy';rfl
    subst this;exact Z2j (List.mem_cons_of_mem _ (List.mem_of_getElem? hy)) heq hG (Z1q T y)
   ·rename_i hi;rw[if_neg hi]at hv;exact hcr _ x v hx hv
  have hsize:(c.args.map a.eval++cs).size=((c.args.toList.map (Z0X G (ev tmps)))++caps).length:=by simp[hcn]
  have hdata:∃ ImC:Nat→Prop,(∀ g,ImC g→g<w.heap.size)∧(fr=false→∀ g,ImC g→Im g)∧as.length=((c.args.toList.map (Z0X G (ev tmps)))++caps).length∧∀ (i:Nat) (x:AV) (v:Value),as[i]? = some x→(c.args.map a.eval++cs)[i]? = some v→Rel (fun _=>none) w ImC x v:=by
   cases fr with
   | true =>
    simp only at has;obtain⟨h1,h2⟩:=Zbx has;refine⟨Zgv ρ Im,fun g hg=>?_,fun h=>by simp at h,h1,fun i x v hx hv=>?_⟩
    ·rcases hg with hg | ⟨b,β,hb,hg⟩
     ·exact I.imb g hg
     ·exact I.bnd b β g hb hg
    ·obtain⟨y,hy,hd⟩:=h2 i x hx;exact Zje I (hall i y v hy hv) hd
   | false =>
    simp only at has;split at has;rotate_left
    ·cases has
    rename_i hp;cases has;simp only[List.all_eq_true]at hp;exact⟨Im,I.imb,fun _ g hg=>hg,rfl,fun i x v hx hv=>Zas (hall i x v hx hv) (hp x (List.mem_of_getElem? hx))⟩
  obtain⟨ImC,m1,m2,m3,m4⟩:=hdata;have hcall:=hspec w ImC (c.args.map a.eval++cs) m1 (by rw[hsize,m3]) m4;have hrun:(execOp a.eval o).run P w = .ok (.enter k (c.args.map a.eval++cs)) w:=by
   have:=Z1Q (P:=P) hok.1 (c.args.map a.eval++cs) w;simp[execOp,ho,resolve,hc,hfe,Deferred.ofValue,invoke,this]
  simp only[Oper.wp,hrun,Oper.upon_enter];refine hcall.mono fun e w' he=>?_;obtain⟨v,rfl,K,ρ',Im',r1,r2,r3,r4,r5,r6,r7⟩:=he;have him':∀ g,Im' g→Im g∨w.heap.size≤g:=fun g hg=>(r1 g hg).imp (fun⟨h1,h2⟩=>m2 h1 g h2) (fun h=>h);obtain⟨J,hext⟩:=I.called K Im' him' r2;have hnm:∀ (b:Nat) (β:Bi) (g:Nat),ρ' b=some β→β.g=some g→¬ (Im g∨Im' g):=by
   intro b β g hb hg hor;obtain⟨q1,q2,q3⟩:=r3 b β g hb hg;rcases hor with h | h
   ·have:=I.imb g h;omega
   ·exact q3 h
  obtain⟨ρ2,J2,s1,s2⟩:=ZcC (ρ':=ρ') (dst:=d) news 0 ρ H J hok.2 (fun i B hB=>by
    obtain⟨β,k1,k2⟩:=r6 i B hB;refine⟨β,by rw[Nat.zero_add];exact k1, ?_,fun g hg=>⟨hnm i β g k1 hg,(r3 i β g k1 hg).2.1, ?_⟩⟩
    ·have hB':Zhy B=true:=by
      have:=hok.2;clear hnews hspec hcall r5 r6 h;have:∀ (l:List Blk) (k:Nat) (H:Heap),Z5a d clk k l H=true→∀ B∈l,Zhy B=true:=by
       intro l;induction l with
       | nil=>intro k H _ B hB;simp at hB
       | cons x l ih =>
        intro k H h B hB;simp only[Z5a,Bool.and_eq_true]at h;rcases List.mem_cons.1 hB with e | e
        ·rw[e];exact h.1.1
        ·exact ih _ _ h.2 B e
      exact this news 0 H hok.2 B (List.mem_of_getElem? hB)
     exact k2.arr_any hB' (fun g hg=>.inr hg)
    ·have:=(r3 i β g k1 hg).1;have:=I.kept.size;omega) r4 (fun i hi β g hb hg b κ hκ hκg=>by
    have:=(r3 _ β g hb hg).1;have:=I.bnd b κ g hκ hκg;omega)
  rw[hd];refine hn _ _ ⟨ρ2,fun g=>Im g∨Im' g,by show Inv _ _ _ _ _ _ (applyU (Zid d clk 0 news) H) _;rw[Z8R];exact J2,(T.mono hext (fun _ h=>.inl h) s1 I.bnd).put d (ZbG hG ?_)⟩;have ren:∀ k β,ρ' k=some β→ρ2 (nid d clk k)=some β:=by
   intro k β hk;have:=s2 k β (r5 k β hk) (by rw[Nat.zero_add];exact hk);rwa [Nat.zero_add]at this
  refine Z8g (ρ:=ρ') (fun g hg=>.inr hg) ?_ ?_ ?_ r7
  ·intro b i oo v h;obtain⟨g,s,n,h1,rfl⟩:=Z2n h;exact .pt (ren _ _ h1)
  ·intro b oo n v h;cases h with
   | os h1 h2 h3 h4 h5=>exact .os (ren _ _ h1) h2 h3 h4 h5
  ·intro b v h;cases h with
   | ow h1 h2 h3 h4=>exact .ow (ren _ _ h1) h2 h3 h4
theorem ZeV{ρ ρ':Rho}{w:World}{Im Im':Nat→Prop}{x:AV}{v:Value}(h:Rel ρ w Im x v)(hp:Z4f x=true)(hi:∀ g,Im g→Im' g):Rel ρ' w Im' x v:=by
 have:=Z2Z (ρ':=fun _=>none) h hp;exact this.mono (Ext.refl _ _) hi (fun b β hb=>by cases hb) (fun b β g hb=>by cases hb)
theorem Z75{ρ ρ':Rho}{w:World}{Im Im':Nat→Prop}{x:AV}{v:Value}(h:Rel ρ w Im x v)(hp:Z6q x=true)(hi:∀ g,Im g→Im' g):Rel ρ' w Im' x v:=by
 have:=Zas (ρ':=fun _=>none) h hp;exact this.mono (Ext.refl _ _) hi (fun b β hb=>by cases hb) (fun b β g hb=>by cases hb)
theorem Zcf{ρ ρ':Rho}{w:World}{Im Im':Nat→Prop}{x:AV}{v:Value}(h:Rel ρ w Im x v)(hp:Zmp x=true)(hi:∀ g,Im g→Im' g):Rel ρ' w Im' x v:=by
 cases x with
 | tu l =>
  cases h with
  | tu _ cs h1 h3 =>
   simp only[Zmp,List.all_eq_true]at hp;exact .tu _ cs h1 fun i a u ha hu=>Z75 (h3 i a u ha hu) (hp a (List.mem_of_getElem? ha)) hi
 | _=>exact Z75 h hp hi
theorem Zcb{ρ ρ':Rho}{w:World}{Im Im':Nat→Prop}{β:Bi}{B:Blk}(h:RelB ρ w Im β B)(hp:ZbO B=true)(hi:∀ g,Im g→Im' g):RelB ρ' w Im' β B:=by
 cases B with
 | box ty cells =>
  obtain⟨h0,h00,g,cs,h1,h2,h3,h3',h4⟩:=h;simp only[ZbO,List.all_eq_true]at hp;exact⟨h0,h00,g,cs,h1,h2,h3,h3',fun o a v ha hv=>ZeV (h4 o a v ha hv) (hp a (List.mem_of_getElem? ha)) hi⟩
 | arr=>simp[ZbO]at hp
 | dead=>simp[ZbO]at hp
theorem Z1V{b:Nat}:∀ {l:List Nat} {k n:Nat},idxN b l k=some n→k≤n∧l[n-k]? = some b
 | [],_,_,h=>by cases h
 | x::l,k,n,h=>by
  simp only[idxN]at h;split at h
  ·rename_i e;cases h;exact⟨Nat.le_refl _,by simp[Nat.eq_of_beq_eq_true e]⟩
  ·obtain⟨h1,h2⟩:=Z1V h;refine⟨by omega, ?_⟩;rw[show n-k=n-(k+1)+1 from by omega];simpa using h2
theorem Z47{b:Nat}:∀ {l:List Nat} {k:Nat},idxN b l k=none→b∉l
 | [],_,_=>by simp
 | x::l,k,h=>by
  simp only[idxN]at h;split at h
  ·cases h
  ·rename_i e;have:=Nat.ne_of_beq_eq_false e;simp only[List.mem_cons,not_or];exact⟨fun e=>this e.symm,Z47 h⟩
theorem Z2W:∀ {l:List Nat},nodupB l=true→l.Nodup
 | [],_=>List.nodup_nil
 | x::l,h=>by
  simp only[nodupB,Bool.and_eq_true]at h;refine List.nodup_cons.2 ⟨?_,Z2W h.2⟩;have h1:=h.1;revert h1;cases hx:idxN x l 0 with
  | none=>intro _;exact Z47 hx
  | some _=>intro h;cases h
theorem Z3I{b:Nat}:∀ {l:List Nat} {i j:Nat},l.Nodup→l[i]? = some b→l[j]? = some b→i=j
 | [],i,j,_,hi,_=>by simp at hi
 | x::l,i,j,hn,hi,hj=>by
  obtain⟨h1,h2⟩:=List.nodup_cons.1 hn;cases i with
  | zero =>
   cases j with
   | zero=>rfl
   | succ j =>
    simp at hi hj;subst hi;exact absurd (List.mem_of_getElem? hj) h1
  | succ i =>
   cases j with
   | zero =>
    simp at hi hj;subst hj;exact absurd (List.mem_of_getElem? hi) h1
   | succ j =>
    have:=Z3I h2 (by simpa using hi) (by simpa using hj);omega
theorem Z95{ls:List Nat}:∀ {l r:List AV},Zd6 ls l=some r→r.length=l.length∧∀ (i:Nat) (y:AV),r[i]? = some y→∃ x,l[i]? = some x∧Zoj ls x=some y
 | [],r,h=>by simp[Zd6]at h;subst h;simp
 | x::l,r,h=>by
  simp only[Zd6]at h;split at h;rotate_left
  ·cases h
  rename_i y r' hy hr;cases h;obtain⟨h1,h2⟩:=Z95 hr;refine⟨by simp[h1],fun i z hz=>?_⟩;cases i with
  | zero=>simp at hz;subst hz;exact⟨x,rfl,hy⟩
  | succ i=>simpa using h2 i z (by simpa using hz)
theorem Zai{H:Heap}:∀ {l:List Nat} {r:List Blk},Z9U H l=some r→r.length=l.length∧∀ (k:Nat) (B:Blk),r[k]? = some B→∃ b,l[k]? = some b∧H b=some B∧ZbO B=true
 | [],r,h=>by simp[Z9U]at h;subst h;simp
 | b::l,r,h=>by
  simp only[Z9U]at h;split at h;rotate_left
  ·cases h
  rename_i B r' hB hr;split at h;rotate_left
  ·cases h
  rename_i hd;cases h;obtain⟨h1,h2⟩:=Zai hr;refine⟨by simp[h1],fun k C hC=>?_⟩;cases k with
  | zero=>simp at hC;subst hC;exact⟨b,rfl,hB,hd⟩
  | succ k=>simpa using h2 k C (by simpa using hC)
theorem Z43{ls:List Nat}:∀ {post:List Blk} {H:Heap},ls.Nodup→post.length=ls.length→∀ b,(∀ (k:Nat),ls[k]? = some b→∃ B,post[k]? = some B∧applyU (ls.zip post) H b=some B)∧(b∉ls→applyU (ls.zip post) H b=H b):=by
 induction ls with
 | nil=>intro post H _ _ b;exact⟨fun k h=>by simp at h,fun _=>rfl⟩
 | cons x ls ih =>
  intro post H hn hl b;cases post with
  | nil=>simp at hl
  | cons B post =>
   obtain⟨n1,n2⟩:=List.nodup_cons.1 hn;obtain⟨i1,i2⟩:=ih (post:=post) (H:=updH H x B) n2 (by simpa using hl) b;simp only[List.zip_cons_cons,applyU];refine⟨fun k hk=>?_,fun hb=>?_⟩
   ·cases k with
    | zero =>
     simp at hk;subst hk;exact⟨B,rfl,by rw[i2 n1];simp[updH]⟩
    | succ k =>
     obtain⟨C,c1,c2⟩:=i1 k (by simpa using hk);exact⟨C,by simpa using c1,c2⟩
   ·simp only[List.mem_cons,not_or]at hb;rw[i2 hb.2];simp[updH,hb.1]
theorem Zoz{G:Option Bool}{c:Call}{f:Operand}{out:Core}(ho:o.op = .call c)(hc:c.callee = .value f)(h:Z6o P clk hints o f c.args.toList G tmps H=some out):Z6x P Ow Im0 w0 clk o G H tmps (out.out tmps H):=by
 intro a w ρ Im next Q I T hph heq hn
 unfold Z6o at h;split at h
 ·cases h
 rename_i d hd;split at h
 ·-- passed over
  rename_i hg;split at h;rotate_left
  ·cases h
  cases h;refine⟨fun hG=>?_,fun hG=>?_⟩
  ·cases G with
   | none=>cases hg
   | some g=>have:=hG g rfl;simp[this]at hg
  ·rw[hd];exact hn _ _ (Z77 I T hG d _)
 rename_i hg;have hGt:∀ g,G=some g→g=true:=by
  intro g e;subst e;exact hg
 split at h;rotate_left
 ·cases h
 rename_i k caps hf;split at h;rotate_left
 ·cases h
 rename_i res post _ _;generalize hls:(c.args.toList.map (Z0X G (ev tmps))++caps).flatMap ptId=ls at h;split at h;rotate_left
 ·cases h
 rename_i as pre has hpre;split at h;rotate_left
 ·cases h
 rename_i hok;cases h;simp only[Bool.and_eq_true]at hok;obtain⟨⟨⟨⟨hok1,hnd⟩,hpost⟩,hres⟩,hlen⟩:=hok;have hnd:=Z2W hnd;have hlen:=Nat.eq_of_beq_eq_true hlen;obtain⟨p1,p2⟩:=Zai hpre;obtain⟨a1,a2⟩:=Z95 has;simp only[List.all_eq_true]at hpost;refine⟨fun hG=>?_,fun hG=>by obtain⟨g,h1,h2⟩:=hG;have:=hGt g h1;rw[this]at h2;cases h2⟩;have hspec:LentSpec P k as pre res post:=by simpa[allP,Core.out]using hph
 have hfv:=Z2j (l:=f::c.args.toList) (x:=f) pq heq hG (Z1q T f);rw[hf]at hfv;generalize hfe:a.eval f=fv at hfv;cases hfv with
 | fn hcn hcr =>
  rename_i cs;have hall:∀ (i:Nat) (x:AV) (v:Value),((c.args.toList.map (Z0X G (ev tmps)))++caps)[i]? = some x→(c.args.map a.eval++cs)[i]? = some v→Rel ρ w Im x v:=by
   intro i x v hx hv;rw[List.getElem?_append]at hx;rw[Array.getElem?_append]at hv;simp only[List.length_map,Array.length_toList,Array.size_map]at hx hv;split at hx
   ·rename_i hi;rw[if_pos hi]at hv;simp only[List.getElem?_map,Option.map_eq_some_iff,Array.getElem?_map]at hx hv;obtain⟨y,hy,rfl⟩:=hx;obtain⟨y',hy',rfl⟩:=hv;have:y=y':=by
     rw[Array.getElem?_toList]at hy;rw[hy]at hy';cases hy';rfl
    subst this;exact Z2j (List.mem_cons_of_mem _ (List.mem_of_getElem? hy)) heq hG (Z1q T y)
   ·rename_i hi;rw[if_neg hi]at hv;exact hcr _ x v hx hv
  have hsize:(c.args.map a.eval++cs).size=((c.args.toList.map (Z0X G (ev tmps)))++caps).length:=by simp[hcn]
  let ρc:Rho:=fun k=>match ls[k]? with | some b=>ρ b | none=>none
  have hρc:∀ k β,ρc k=some β→∃ b,ls[k]? = some b∧ρ b=some β:=by
   intro k β hk;simp only[ρc]at hk;split at hk
   ·exact⟨_,aa,hk⟩
   ·cases hk
  have hin:∀ (k b:Nat),ls[k]? = some b→ρc k=ρ b:=by intro k b h;simp only[ρc,h]
  have hblk:∀ (k b:Nat),ls[k]? = some b→∃ B β,pre[k]? = some B∧H b=some B∧ZbO B=true∧ρ b=some β∧RelB ρ w Im β B:=by
   intro k b hk;have hk':k<pre.length:=by rw[p1];exact(List.getElem?_eq_some_iff.1 hk).1
   obtain⟨b',q1,q2,q3⟩:=p2 k _ (List.getElem?_eq_getElem hk');rw[hk]at q1;cases q1;obtain⟨β,q4,q5⟩:=I.blk b _ q2;exact⟨_,β,List.getElem?_eq_getElem hk',q2,q3,q4,q5⟩
  have hlive:∀ (k b:Nat),ls[k]? = some b→live H b:=by
   intro k b hk;obtain⟨B,β,_,q2,q3,_⟩:=hblk k b hk;exact⟨B,q2,by rintro rfl;simp[ZbO]at q3⟩
  have hcall:=hspec w Im ρc (c.args.map a.eval++cs) I.imb (by rw[hsize,a1]) (fun k β hk=>by
    obtain⟨b,q1,_⟩:=hρc k β hk;rw[p1];exact(List.getElem?_eq_some_iff.1 q1).1) (fun b b' β β' g h1 h2 h3 h4=>by
    obtain⟨c1,q1,q2⟩:=hρc b β h1;obtain⟨c2,r1,r2⟩:=hρc b' β' h2;have:=I.inj c1 c2 β β' g (hlive _ _ q1) (hlive _ _ r1) q2 r2 h3 h4;subst this;exact Z3I hnd q1 r1) (fun b β g h1 h2=>by
    obtain⟨c1,q1,q2⟩:=hρc b β h1;exact⟨I.bnd c1 β g q2 h2,I.notIm c1 β g (hlive _ _ q1) q2 h2⟩) (fun k B hB=>by
    obtain⟨b,q1,q2,q3⟩:=p2 k B hB;obtain⟨β,q4,q5⟩:=I.blk b B q2;exact⟨β,by rw[hin k b q1];exact q4,Zcb q5 q3 (fun _ h=>h)⟩) (fun i y v hy hv=>by
    obtain⟨x,hx,hr⟩:=a2 i y hy;have hrel:=hall i x v hx hv;unfold Zoj at hr;split at hr
    ·rename_i b;split at hr
     ·rename_i kk hkk;cases hr;obtain⟨_,q2⟩:=Z1V hkk;obtain⟨g,s,n,r1,rfl⟩:=Z2n hrel;exact .pt (by rw[hin kk b (by simpa using q2)];exact r1)
     ·cases hr
    ·split at hr
     ·rename_i hp;cases hr;exact Z75 hrel hp (fun _ h=>h)
     ·cases hr)
  have hrun:(execOp a.eval o).run P w = .ok (.enter k (c.args.map a.eval++cs)) w:=by
   have:=Z1Q (P:=P) hok1 (c.args.map a.eval++cs) w;simp[execOp,ho,resolve,hc,hfe,Deferred.ofValue,invoke,this]
  simp only[Oper.wp,hrun,Oper.upon_enter];refine hcall.mono fun e w' he=>?_;obtain⟨v,rfl,K,Im',r1,r2,r3,r4⟩:=he;have hnl:∀ g,Im g→¬ ∃ b β,ρc b=some β∧β.g=some g:=by
   rintro g hg ⟨b,β,h1,h2⟩;obtain⟨c1,q1,q2⟩:=hρc b β h1;exact I.notIm c1 β g (hlive _ _ q1) q2 h2 hg
  have hext:Ext Im w w':=⟨K.size,fun g hg=>K.block g (I.imb g hg) (hnl g hg),fun g hg=>K.rows g hg⟩
  have hH':∀ b B,applyU (ls.zip post) H b=some B→(∃ k:Nat,ls[k]? = some b∧post[k]? = some B)∨(b∉ls∧H b=some B):=by
   intro b B hB;by_cases hb:b∈ls
   ·obtain⟨kk,hkk⟩:=List.getElem?_of_mem hb;obtain⟨C,c1,c2⟩:=(Z43 (H:=H) hnd (by rw[hlen,p1]) b).1 kk hkk;rw[c2]at hB;cases hB;exact .inl ⟨kk,hkk,c1⟩
   ·rw[(Z43 (H:=H) hnd (by rw[hlen,p1]) b).2 hb]at hB;exact .inr ⟨hb,hB⟩
  have hlive':∀ b,live (applyU (ls.zip post) H) b→live H b:=by
   rintro b ⟨B,h1,h2⟩;rcases hH' b B h1 with⟨kk,q1,_⟩ | ⟨_,q⟩
   ·exact hlive kk b q1
   ·exact⟨B,q,h2⟩
  rw[hd];refine hn _ _ ⟨ρ,fun g=>Im g∨Im' g,⟨⟨K.os.trans I.kept.os,K.tape.trans I.kept.tape,K.output.trans I.kept.output,Nat.le_trans I.kept.size K.size,fun kk hk hno=>?_,fun kk hk=>?_⟩,
   fun b b' β β' g l1 l2=>I.inj b b' β β' g (hlive' b l1) (hlive' b' l2),fun b β g l q1 q2 him=>?_,fun b β g q1 q2=>Nat.lt_of_lt_of_le (I.bnd b β g q1 q2) K.size,I.own,fun g hg=>?_,fun g hg=>?_,fun b B hB=>?_,fun b hb hB=>?_,I.one⟩,
   (T.mono hext (fun _ h=>.inl h) (fun _ _ h=>h) I.bnd).put d (Zcf r4 hres (fun _ h=>.inr h))⟩
  ·rw[K.block kk (Nat.lt_of_lt_of_le hk I.kept.size) (fun⟨b,β,q1,q2⟩=>?_)]
   ·exact I.kept.block kk hk hno
   ·obtain⟨c1,_,m2⟩:=hρc b β q1;rcases I.own c1 β kk m2 q2 with⟨h,_⟩ | h
    ·omega
    ·exact hno h
  ·rw[K.rows kk (Nat.lt_of_lt_of_le hk I.kept.size)];exact I.kept.rows kk hk
  ·rcases him with him | him
   ·exact I.notIm b β g (hlive' b l) q1 q2 him
   ·rcases r1 g him with h | h
    ·exact I.notIm b β g (hlive' b l) q1 q2 h
    ·have:=I.bnd b β g q1 q2;omega
  ·rcases hg with hg | hg
   ·exact Nat.lt_of_lt_of_le (I.imb g hg) K.size
   ·exact r2 g hg
  ·rcases hg with hg | hg
   ·exact I.im0 g hg
   ·rcases r1 g hg with h | h
    ·exact I.im0 g h
    ·exact .inr (.inl (Nat.le_trans I.kept.size h))
  ·rcases hH' b B hB with⟨kk,q1,q2⟩ | ⟨q1,q2⟩
   ·obtain⟨β,m1,m2⟩:=r3 kk B q2;rw[hin kk b q1]at m1;exact⟨β,m1,Zcb m2 (hpost B (List.mem_of_getElem? q2)) (fun _ h=>.inr h)⟩
   ·obtain⟨β,m1,m2⟩:=I.blk b B q2;by_cases hdead:B = .dead
    ·subst hdead;exact⟨β,m1,trivial⟩
    ·refine⟨β,m1,m2.mono hext (fun _ h=>.inl h) (fun _ _ h=>h) I.bnd (fun g hg=>K.block g (I.bnd b β g m1 hg) ?_)⟩;rintro⟨b2,β2,n1,n2⟩;obtain⟨c1,o1,o2⟩:=hρc b2 β2 n1;have:=I.inj b c1 β β2 g ⟨B,q2,hdead⟩ (hlive _ _ o1) m1 o2 hg n2;subst this;exact q1 (List.mem_of_getElem? o1)
  ·refine I.fresh b hb ?_;by_cases hbl:b∈ls
   ·obtain⟨kk,hkk⟩:=List.getElem?_of_mem hbl;obtain⟨C,_,c2⟩:=(Z43 (H:=H) hnd (by rw[hlen,p1]) b).1 kk hkk;have hB':applyU (ls.zip post) H b=none:=hB;rw[c2]at hB';cases hB'
   ·have hB':applyU (ls.zip post) H b=none:=hB;rw[(Z43 (H:=H) hnd (by rw[hlen,p1]) b).2 hbl]at hB';exact hB'
def Z7P(ks:List Nat)(ρ:Rho):Rho:=fun b=>if b∈ks then ρ b else none
def Z7r(ks:List Nat)(H:Heap):Heap:=fun b=>if b∈ks then H b else none
theorem Z94{H:Heap}:∀ {l:List Nat},Z6C H l=true→∀ b∈l,(∃ ty s els,H b=some (.arr ty s els))∧8000≤b
 | [],_,b,hb=>by simp at hb
 | c::l,h,b,hb=>by
  simp only[Z6C,Bool.and_eq_true]at h;obtain⟨⟨h1,h2⟩,h3⟩:=h;rcases List.mem_cons.1 hb with rfl | hb
  ·refine⟨?_,Nat.le_of_ble_eq_true h2⟩;split at h1
   ·exact⟨_,_,_,by assumption⟩
   ·cases h1
  ·exact Z94 h3 b hb
theorem Inv.only{ρ:Rho}{Im:Nat→Prop}{ks:List Nat}(I:Inv Ow Im0 w0 ρ w Im H clk)(hk:∀ b∈ks,∃ ty s els,H b=some (.arr ty s els)):Inv Ow Im0 w0 (Z7P ks ρ) w Im (Z7r ks H) clk:=by
 have hρ:∀ b β,Z7P ks ρ b=some β→b∈ks∧ρ b=some β:=by
  intro b β h;unfold Z7P at h;split at h
  ·exact⟨aa,h⟩
  ·cases h
 have hH:∀ b B,Z7r ks H b=some B→b∈ks∧H b=some B:=by
  intro b β h;unfold Z7r at h;split at h
  ·exact⟨aa,h⟩
  ·cases h
 have hl:∀ b,live (Z7r ks H) b→live H b:=fun b ⟨B,h1,h2⟩=>⟨B,(hH b B h1).2,h2⟩
 refine⟨I.kept,fun b b' β β' g l1 l2 q1 q2=>I.inj b b' β β' g (hl b l1) (hl b' l2) (hρ _ _ q1).2 (hρ _ _ q2).2,fun b β g l q=>I.notIm b β g (hl b l) (hρ _ _ q).2,fun b β g q=>I.bnd b β g (hρ _ _ q).2,fun b β g q=>I.own b β g (hρ _ _ q).2,I.imb,I.im0,fun b B q=>?_,fun b hb q=>?_,I.one.1,fun b β h q=>I.one.2 b β h (hρ _ _ q).2⟩
 ·obtain⟨k1,k2⟩:=hH b B q;obtain⟨β,m1,m2⟩:=I.blk b B k2;obtain⟨ty,s,els,e⟩:=hk b k1;rw[k2]at e;cases e;exact⟨β,by unfold Z7P;rw[if_pos k1];exact m1,m2.arr_any rfl (fun _ h=>h)⟩
 ·unfold Z7r at q;unfold Z7P;split
  ·rename_i hm;rw[if_pos hm]at q;exact I.fresh b hb q
  ·rfl
section
variable {ks:List Nat}
theorem Zea{ρ:Rho}{Im:Nat→Prop}{x y:AV}{v:Value}(h:Rel ρ w Im x v)(hd:toD1 H x=some y)(hk:∀ b∈ksL x,b∈ks):Rel (Z7P ks ρ) w Im x v∧toD1 (Z7r ks H) x=some y:=by
 cases x with
 | d x=>cases h with | d h=>exact⟨.d h,hd⟩
 | rp e o=>cases h with | rp h1 h2 h3=>exact⟨.rp h1 h2 h3,hd⟩
 | ow b =>
  have hb:=hk b (by simp[ksL]);refine⟨?_, ?_⟩
  ·cases h with | ow h1 h2 h3 h4=>exact .ow (by unfold Z7P;rw[if_pos hb];exact h1) h2 h3 h4
  ·simp only[toD1,Z15]at hd ⊢;simp only[Z7r,if_pos hb];exact hd
 | os b o n =>
  have hb:=hk b (by simp[ksL]);refine⟨?_, ?_⟩
  ·cases h with | os h1 h2 h3 h4 h5=>exact .os (by unfold Z7P;rw[if_pos hb];exact h1) h2 h3 h4 h5
  ·simp only[toD1,Z15]at hd ⊢;simp only[Z7r,if_pos hb];exact hd
 | _=>simp[toD1]at hd
theorem ksLs{ρ:Rho}{Im:Nat→Prop}:∀ {l m:List AV},toDs H l=some m→(∀ b∈l.flatMap ksL,b∈ks)→toDs (Z7r ks H) l=some m∧∀ (i:Nat) (a:AV) (v:Value),l[i]? = some a→Rel ρ w Im a v→Rel (Z7P ks ρ) w Im a v
 | [],m,h,_=>⟨h,fun i a v ha=>by simp at ha⟩
 | x::l,m,h,hk=>by
  simp only[toDs]at h;split at h;rotate_left
  ·cases h
  rename_i y r hy hr;cases h;obtain⟨h1,h2⟩:=ksLs (ρ:=ρ) (Im:=Im) hr (fun b hb=>hk b (by simp only[List.flatMap_cons,List.mem_append];exact .inr hb));have hkx:∀ b∈ksL x,b∈ks:=fun b hb=>hk b (by simp only[List.flatMap_cons,List.mem_append];exact .inl hb);refine⟨?_,fun i a v ha hv=>?_⟩
  ·simp only[toDs,h1];have:toD1 (Z7r ks H) x=some y:=by
    cases x with
    | d x=>exact hy
    | rp e o=>exact hy
    | ow b=>simp only[toD1,Z15]at hy ⊢;simp only[Z7r,if_pos (hkx b (by simp[ksL]))];exact hy
    | os b o n=>simp only[toD1,Z15]at hy ⊢;simp only[Z7r,if_pos (hkx b (by simp[ksL]))];exact hy
    | _=>simp[toD1]at hy
   rw[this]
  ·cases i with
   | zero=>simp at ha;subst ha;exact(Zea hv hy hkx).1
   | succ i=>exact h2 i a v (by simpa using ha) hv
theorem Zou{ρ:Rho}{Im:Nat→Prop}{x y:AV}{v:Value}(h:Rel ρ w Im x v)(hd:toD H x=some y)(hk:∀ b∈ksM x,b∈ks):Rel (Z7P ks ρ) w Im x v∧toD (Z7r ks H) x=some y:=by
 cases x with
 | ag l =>
  simp only[toD,Option.map_eq_some_iff]at hd ⊢;obtain⟨m,hm,rfl⟩:=hd;obtain⟨h1,h2⟩:=ksLs (ρ:=ρ) (Im:=Im) (w:=w) hm hk;obtain⟨cs,rfl,k1,k2,k3⟩:=Z2R h;exact⟨.ag _ cs k1 k2 fun i a u ha hu=>h2 i a u ha (k3 i a u ha hu),m,h1,rfl⟩
 | fn f l =>
  simp only[toD,Option.map_eq_some_iff]at hd ⊢;obtain⟨m,hm,rfl⟩:=hd;obtain⟨h1,h2⟩:=ksLs (ρ:=ρ) (Im:=Im) (w:=w) hm hk;cases h with
  | fn k1 k3=>exact⟨.fn k1 fun i a u ha hu=>h2 i a u ha (k3 i a u ha hu),m,h1,rfl⟩
 | ic t a =>
  simp only[toD,Option.map_eq_some_iff]at hd ⊢;obtain⟨m,hm,rfl⟩:=hd;cases h with
  | ic h =>
   obtain⟨q1,q2⟩:=Zea (ks:=ks) h hm hk;exact⟨.ic q1,m,q2,rfl⟩
 | _=>exact Zea (H:=H) h hd hk
end
theorem Z4j{ks:List Nat}:∀ {H:Heap} (b:Nat),(b∈ks→applyU (ks.map fun b=>(b,Blk.dead)) H b=some .dead)∧(b∉ks→applyU (ks.map fun b=>(b,Blk.dead)) H b=H b):=by
 induction ks with
 | nil=>intro H b;exact⟨fun h=>by simp at h,fun _=>rfl⟩
 | cons x ks ih =>
  intro H b;obtain⟨i1,i2⟩:=ih (H:=updH H x .dead) b;simp only[List.map_cons,applyU,List.mem_cons,not_or];refine⟨fun h=>?_,fun h=>?_⟩
  ·by_cases hb:b∈ks
   ·exact i1 hb
   ·rw[i2 hb];rcases h with h | h
    ·simp[updH,h]
    ·exact absurd h hb
  ·rw[i2 h.2];simp[updH,h.1]
theorem ZoF{G:Option Bool}{c:Call}{f:Operand}{out:Core}(ho:o.op = .call c)(hc:c.callee = .value f)(h:Z6F P clk hints o f c.args.toList G tmps H=some out):Z6x P Ow Im0 w0 clk o G H tmps (out.out tmps H):=by
 intro a w ρ Im next Q I T hph heq hn
 unfold Z6F at h;split at h
 ·cases h
 split at h
 ·cases h
 rename_i d hd;split at h;rotate_left
 ·cases h
 rename_i k caps hf;split at h;rotate_left
 ·cases h
 rename_i res _ _;split at h;rotate_left
 ·cases h
 rename_i as has;generalize hks:(c.args.toList.map (ev tmps)++caps).flatMap ksM=ks at h;split at h;rotate_left
 ·cases h
 rename_i hok;cases h;simp only[Bool.and_eq_true]at hok;obtain⟨⟨hok1,harr⟩,hres⟩:=hok;have harr:=Z94 harr;obtain⟨a1,a2⟩:=Zbx has;refine⟨fun _=>?_,fun hG=>by obtain⟨g,hg,_⟩:=hG;cases hg⟩;have hspec:GSpec P k as false res []:=by simpa[allP,Core.out]using hph
 have hfv:=Z1q T f;rw[hf]at hfv;generalize hfe:a.eval f=fv at hfv;cases hfv with
 | fn hcn hcr =>
  rename_i cs;have hall:∀ (i:Nat) (x:AV) (v:Value),((c.args.toList.map (ev tmps))++caps)[i]? = some x→(c.args.map a.eval++cs)[i]? = some v→Rel ρ w Im x v:=by
   intro i x v hx hv;rw[List.getElem?_append]at hx;rw[Array.getElem?_append]at hv;simp only[List.length_map,Array.length_toList,Array.size_map]at hx hv;split at hx
   ·rename_i hi;rw[if_pos hi]at hv;simp only[List.getElem?_map,Option.map_eq_some_iff,Array.getElem?_map]at hx hv;obtain⟨y,hy,rfl⟩:=hx;obtain⟨y',hy',rfl⟩:=hv;have:y=y':=by
     rw[Array.getElem?_toList]at hy;rw[hy]at hy';cases hy';rfl
    subst this;exact Z1q T y
   ·rename_i hi;rw[if_neg hi]at hv;exact hcr _ x v hx hv
  have hsize:(c.args.map a.eval++cs).size=((c.args.toList.map (ev tmps))++caps).length:=by simp[hcn]
  have hk:∀ b∈ks,∃ ty s els,H b=some (.arr ty s els):=fun b hb=>(harr b hb).1;have J:=I.only hk;let ImC:=Zgv (Z7P ks ρ) Im;have hImC:∀ g,ImC g→Im g∨∃ b β,b∈ks∧ρ b=some β∧β.g=some g:=by
   rintro g (h | ⟨b,β,h1,h2⟩)
   ·exact .inl h
   ·unfold Z7P at h1;split at h1
    ·exact .inr ⟨b,β,aa,h1,h2⟩
    ·cases h1
  have hlive:∀ b∈ks,live H b:=fun b hb=>by
   obtain⟨ty,s,els,e⟩:=hk b hb;exact⟨_,e,by simp⟩
  have hcall:=hspec w ImC (c.args.map a.eval++cs) (fun g hg=>by
    rcases hImC g hg with h | ⟨b,β,_,h2,h3⟩
    ·exact I.imb g h
    ·exact I.bnd b β g h2 h3) (by rw[hsize,a1]) (fun i y v hy hv=>by
    obtain⟨x,hx,hdx⟩:=a2 i y hy;obtain⟨q1,q2⟩:=Zou (ks:=ks) (hall i x v hx hv) hdx (fun b hb=>by
     rw[← hks];exact List.mem_flatMap.2 ⟨x,List.mem_of_getElem? hx,hb⟩)
    exact Zje J q1 q2)
  have hrun:(execOp a.eval o).run P w = .ok (.enter k (c.args.map a.eval++cs)) w:=by
   have:=Z1Q (P:=P) hok1 (c.args.map a.eval++cs) w;simp[execOp,ho,resolve,hc,hfe,Deferred.ofValue,invoke,this]
  simp only[Oper.wp,hrun,Oper.upon_enter];refine hcall.mono fun e w' he=>?_;obtain⟨v,rfl,K,ρ',Im',r1,r2,r3,r4,r5,r6,r7⟩:=he;have hext:Ext Im w w':=⟨K.size,fun g hg=>K.block g (I.imb g hg) (fun h=>h),fun g hg=>K.rows g hg⟩
  have hH':∀ b B,applyU (ks.map fun b=>(b,Blk.dead)) H b=some B→(b∈ks∧B = .dead)∨(b∉ks∧H b=some B):=by
   intro b B hB;by_cases hb:b∈ks
   ·rw[(Z4j (H:=H) b).1 hb]at hB;cases hB;exact .inl ⟨hb,rfl⟩
   ·rw[(Z4j (H:=H) b).2 hb]at hB;exact .inr ⟨hb,hB⟩
  have hlive':∀ b,live (applyU (ks.map fun b=>(b,Blk.dead)) H) b→b∉ks∧live H b:=by
   rintro b ⟨B,h1,h2⟩;rcases hH' b B h1 with⟨_,rfl⟩ | ⟨q1,q⟩
   ·exact absurd rfl h2
   ·exact⟨q1,B,q,h2⟩
  rw[hd];have hres':Rel ρ w' (fun g=>(Im g∨ImC g)∨Im' g) res v:=Zcf r7 hres (fun g hg=>.inr hg);refine hn _ _ ⟨ρ,fun g=>(Im g∨ImC g)∨Im' g,⟨⟨K.os.trans I.kept.os,K.tape.trans I.kept.tape,K.output.trans I.kept.output,Nat.le_trans I.kept.size K.size,fun kk hk hno=>?_,fun kk hk=>?_⟩,
   fun b b' β β' g l1 l2=>I.inj b b' β β' g (hlive' b l1).2 (hlive' b' l2).2,fun b β g l q1 q2 him=>?_,fun b β g q1 q2=>Nat.lt_of_lt_of_le (I.bnd b β g q1 q2) K.size,I.own,fun g hg=>?_,fun g hg=>?_,fun b B hB=>?_,fun b hb hB=>?_,I.one⟩,
   (T.mono hext (fun _ h=>.inl (.inl h)) (fun _ _ h=>h) I.bnd).put d hres'⟩
  ·rw[K.block kk (Nat.lt_of_lt_of_le hk I.kept.size) (fun h=>h)];exact I.kept.block kk hk hno
  ·rw[K.rows kk (Nat.lt_of_lt_of_le hk I.kept.size)];exact I.kept.rows kk hk
  ·obtain⟨l1,l2⟩:=hlive' b l;have key:¬ ImC g:=by
    intro hc;rcases hImC g hc with h | ⟨b2,β2,h1,h2,h3⟩
    ·exact I.notIm b β g l2 q1 q2 h
    ·have:=I.inj b b2 β β2 g l2 (hlive b2 h1) q1 h2 q2 h3;subst this;exact l1 h1
   rcases him with(him | him) | him
   ·exact I.notIm b β g l2 q1 q2 him
   ·exact key him
   ·rcases r1 g him with⟨_,h⟩ | h
    ·exact key h
    ·have:=I.bnd b β g q1 q2;omega
  ·rcases hg with(hg | hg) | hg
   ·exact Nat.lt_of_lt_of_le (I.imb g hg) K.size
   ·rcases hImC g hg with h | ⟨b,β,_,h2,h3⟩
    ·exact Nat.lt_of_lt_of_le (I.imb g h) K.size
    ·exact Nat.lt_of_lt_of_le (I.bnd b β g h2 h3) K.size
   ·exact r2 g hg
  ·have key:∀ g,ImC g→Im0 g∨w0.heap.size≤g∨OwA Ow g:=by
    intro g hg;rcases hImC g hg with h | ⟨b,β,h1,h2,h3⟩
    ·exact I.im0 g h
    ·rcases I.own b β g h2 h3 with⟨h,_⟩ | h
     ·exact .inr (.inl h)
     ·exact .inr (.inr h)
   rcases hg with(hg | hg) | hg
   ·exact I.im0 g hg
   ·exact key g hg
   ·rcases r1 g hg with⟨_,h⟩ | h
    ·exact key g h
    ·exact .inr (.inl (Nat.le_trans I.kept.size h))
  ·rcases hH' b B hB with⟨q1,rfl⟩ | ⟨q1,q2⟩
   ·obtain⟨ty,s,els,e⟩:=hk b q1;obtain⟨β,m1,_⟩:=I.blk b _ e;exact⟨β,m1,trivial⟩
   ·obtain⟨β,m1,m2⟩:=I.blk b B q2;exact⟨β,m1,m2.mono hext (fun _ h=>.inl (.inl h)) (fun _ _ h=>h) I.bnd (fun g hg=>K.block g (I.bnd b β g m1 hg) (fun h=>h))⟩
  ·refine I.fresh b hb ?_;have hB':applyU (ks.map fun b=>(b,Blk.dead)) H b=none:=hB;by_cases hbk:b∈ks
   ·rw[(Z4j (H:=H) b).1 hbk]at hB';cases hB'
   ·rw[(Z4j (H:=H) b).2 hbk]at hB';exact hB'
theorem Z3f{f:AV→Option AV}:∀ {l r:List AV},allO f l=some r→r.length=l.length∧∀ (i:Nat) (y:AV),r[i]? = some y→∃ x,l[i]? = some x∧f x=some y
 | [],r,h=>by simp[allO]at h;subst h;simp
 | a::l,r,h=>by
  simp only[allO]at h;split at h;rotate_left
  ·cases h
  rename_i x m hx hm;cases h;obtain⟨h1,h2⟩:=Z3f hm;refine⟨by simp[h1],fun i y hy=>?_⟩;cases i with
  | zero=>simp at hy;subst hy;exact⟨a,rfl,hx⟩
  | succ i=>exact h2 i y (by simpa using hy)
section
variable {ρ ρ':Rho} {w:World} {Im:Nat→Prop} {f:Nat→Option Nat}
theorem Zb6(hf:∀ b k β,f b=some k→ρ b=some β→ρ' k=some β){x y:AV}{v:Value}(h:Rel ρ w Im x v)(hx:nmL f x=some y):Rel ρ' w Im y v:=by
 unfold nmL at hx;split at hx
 ·cases hx;cases h with
  | d h=>exact .d h
 ·cases hx;cases h with
  | rp h1 h2 h3=>exact .rp h1 h2 h3
 ·split at hx
  ·rename_i k hk;cases hx;obtain⟨g,s,n,h1,rfl⟩:=Z2n h;exact .pt (hf _ _ _ hk h1)
  ·cases hx
 ·split at hx
  ·rename_i k hk;cases hx;cases h with
   | os h1 h2 h3 h4 h5=>exact .os (hf _ _ _ hk h1) h2 h3 h4 h5
  ·cases hx
 ·split at hx
  ·rename_i k hk;cases hx;cases h with
   | ow h1 h2 h3 h4=>exact .ow (hf _ _ _ hk h1) h2 h3 h4
  ·cases hx
 ·cases hx
theorem ZjM(hf:∀ b k β,f b=some k→ρ b=some β→ρ' k=some β){x y:AV}{v:Value}(h:Rel ρ w Im x v)(hx:nmM f x=some y):Rel ρ' w Im y v:=by
 have agg:∀ {l r:List AV} {v:Value},Rel ρ w Im (.ag l) v→allO (nmL f) l=some r→Rel ρ' w Im (.ag r) v:=fun h hr=>by
  obtain⟨cs,rfl,h1,h2,h3⟩:=Z2R h;obtain⟨k1,k2⟩:=Z3f hr;refine .ag _ cs oq h2 fun i a u ha hu=>?_;obtain⟨z,m1,m2⟩:=k2 i a ha;exact Zb6 hf (h3 i z u m1 hu) m2
 unfold nmM at hx;split at hx
 ·split at hx
  ·rename_i r hr;cases hx;exact agg h hr
  ·cases hx
 ·split at hx
  ·rename_i r hr;cases hx;obtain⟨k1,k2⟩:=Z3f hr;cases h with
   | fn hn h =>
    refine .fn oq fun i a u ha hu=>?_;obtain⟨z,m1,m2⟩:=k2 i a ha;exact Zb6 hf (h i z u m1 hu) m2
  ·cases hx
 ·split at hx
  ·rename_i r hr;cases hx;cases h with
   | ic h=>exact .ic (agg h hr)
  ·cases hx
 ·split at hx
  ·rename_i r hr;cases hx;cases h with
   | ic h=>exact .ic (Zb6 hf h hr)
  ·cases hx
 ·exact Zb6 hf h hx
theorem ZnS(hf:∀ b k β,f b=some k→ρ b=some β→ρ' k=some β){β:Bi}{B C:Blk}(h:RelB ρ w Im β B)(hx:nmB f B=some C):RelB ρ' w Im β C:=by
 cases B with
 | box ty cells =>
  simp only[nmB]at hx;split at hx;rotate_left
  ·cases hx
  rename_i r hr;cases hx;obtain⟨k1,k2⟩:=Z3f hr;obtain⟨h0,h00,g,cs,h1,h2,h3,h3',h4⟩:=h;refine⟨by rw[h0,k1],h00,g,cs,h1,h2,by rw[k1];exact h3,h3',fun o a v ha hv=>?_⟩;obtain⟨z,m1,m2⟩:=k2 o a ha;exact ZjM hf (h4 o z v m1 hv) m2
 | arr ty s els=>cases hx;exact h
 | dead=>cases hx
theorem Z9u{H:Heap}:∀ {l:List Nat} {r:List Blk},preB f H l=some r→r.length=l.length∧∀ (k:Nat) (C:Blk),r[k]? = some C→∃ b B,l[k]? = some b∧H b=some B∧nmB f B=some C
 | [],r,h=>by simp[preB]at h;subst h;simp
 | b::l,r,h=>by
  simp only[preB]at h;split at h;rotate_left
  ·cases h
  rename_i B r' hB hr;split at h;rotate_left
  ·cases h
  rename_i C hd;cases h;obtain⟨h1,h2⟩:=Z9u hr;refine⟨by simp[h1],fun k D hD=>?_⟩;cases k with
  | zero=>simp at hD;subst hD;exact⟨b,B,rfl,hB,hd⟩
  | succ k=>simpa using h2 k D (by simpa using hD)
end
theorem Zfx(dst clk:Nat):∀ (n k i:Nat),i<n→(nids dst clk k n)[i]? = some (nid dst clk (k+i))
 | 0,_,_,h=>by omega
 | n+1,k,0,_=>rfl
 | n+1,k,i+1,h=>by
  simp only[nids,List.getElem?_cons_succ];rw[Zfx dst clk n (k+1) i oq,show k+1+i=k+(i+1)from by omega]
theorem ZbN(dst clk:Nat):∀ (n k:Nat),(nids dst clk k n).length=n
 | 0,_=>rfl
 | n+1,k=>by simp[nids,ZbN dst clk n (k+1)]
theorem Zj7{dst clk b:Nat}:∀ {n k:Nat},b∈nids dst clk k n→clk*8000≤b
 | 0,_,h=>by simp[nids]at h
 | n+1,k,h=>by
  simp only[nids,List.mem_cons]at h;rcases h with rfl | h
  ·exact ZjQ _ _ _
  ·exact Zj7 h
theorem Z7v{H:Heap}:∀ {l:List Nat},Z3T H l=true→∀ b∈l,H b=none
 | [],_,b,hb=>by simp at hb
 | x::l,h,b,hb=>by
  simp only[Z3T,Bool.and_eq_true]at h;rcases List.mem_cons.1 hb with rfl | hb
  ·have h1:=h.1;revert h1;cases H b with
   | none=>exact fun _=>rfl
   | some _=>exact fun h=>by cases h
  ·exact Z7v h.2 b hb
theorem Zhv{ids:List Nat}{B:Blk}(h:Z4D ids B≠.dead):B≠.dead:=by
 rintro rfl;exact h rfl
section
variable {ρ ρ':Rho} {w:World} {Im Im':Nat→Prop} {ids:List Nat}
theorem Z81(hr:∀ k β,ρ k=some β→ρ' (ids.getD k 0)=some β) :
  (∀ b i o v,Rel ρ w Im (.pt b i o) v→Rel ρ' w Im' (renI ids (.pt b i o)) v)∧(∀ b o n v,Rel ρ w Im (.os b o n) v→Rel ρ' w Im' (renI ids (.os b o n)) v)∧∀ b v,Rel ρ w Im (.ow b) v→Rel ρ' w Im' (renI ids (.ow b)) v:=by
 refine⟨fun b i o v h=>?_,fun b o n v h=>?_,fun b v h=>?_⟩
 ·obtain⟨g,s,n,h1,rfl⟩:=Z2n h;exact .pt (hr _ _ h1)
 ·cases h with
  | os h1 h2 h3 h4 h5=>exact .os (hr _ _ h1) h2 h3 h4 h5
 ·cases h with
  | ow h1 h2 h3 h4=>exact .ow (hr _ _ h1) h2 h3 h4
theorem Z9h(hi:∀ g,Im g→Im' g)(hr:∀ k β,ρ k=some β→ρ' (ids.getD k 0)=some β){β:Bi}{B:Blk}(h:RelB ρ w Im β B):RelB ρ' w Im' β (Z4D ids B):=by
 obtain⟨q1,q2,q3⟩:=Z81 (w:=w) (Im:=Im) (Im':=Im') hr;cases B with
 | box ty cells =>
  obtain⟨h0,h00,g,cs,h1,h2,h3,h3',h4⟩:=h;refine⟨by simpa using h0,h00,g,cs,h1,h2,by simpa using h3,h3',fun o x v hx hv=>?_⟩;simp only[List.getElem?_map,Option.map_eq_some_iff]at hx;obtain⟨y,hy,rfl⟩:=hx;exact Z6l hi q1 q2 q3 (h4 o y v hy hv)
 | arr ty s els=>exact RelB.arr_any (by rfl) h hi
 | dead=>trivial
end
theorem ZjE{G:Option Bool}{c:Call}{f:Operand}{d k:Nat}{caps as:List AV}{ls:List Nat}{res:AV}{pre post:List Blk}(ho:o.op = .call c)(hc:c.callee = .value f)(hd:o.dst=some d)(hGt:∀ g,G=some g→g=true)(hf:Z0X G (ev tmps) f = .fn k caps)
  (has:allO (nmM fun b=>idxN b ls 0) (c.args.toList.map (Z0X G (ev tmps))++caps)=some as) (hpre:preB (fun b=>idxN b ls 0) H ls=some pre) (hok:(Z7I P k&&nodupB (Z3E d clk ls post)&&Nat.ble ls.length post.length&&Nat.ble (post.length-ls.length) 7&&Z3T H (nids d clk 0 (post.length-ls.length)))=true) :
  Z6x P Ow Im0 w0 clk o G H tmps ((⟨some (d,mapT (renI (Z3E d clk ls post)) res),(Z3E d clk ls post).zip (post.map (Z4D (Z3E d clk ls post))),[BorSpec P k as pre res post],Z2D G (ev tmps) (f::c.args.toList)⟩:Core).out tmps H):=by
 intro a w ρ Im next Q I T hph heq hn
 simp only[Bool.and_eq_true]at hok;obtain⟨⟨⟨⟨hok1,hnd⟩,hlen⟩,_⟩,hnone⟩:=hok;have hnd:=Z2W hnd;have hlen:=Nat.le_of_ble_eq_true hlen;have hnone:=Z7v hnone;obtain⟨p1,p2⟩:=Z9u hpre;obtain⟨a1,a2⟩:=Z3f has;refine⟨fun hG=>?_,fun hG=>by obtain⟨g,h1,h2⟩:=hG;have:=hGt g h1;rw[this]at h2;cases h2⟩;have hspec:BorSpec P k as pre res post:=by simpa[allP,Core.out]using hph
 have hfv:=Z2j (l:=f::c.args.toList) (x:=f) pq heq hG (Z1q T f);rw[hf]at hfv;generalize hfe:a.eval f=fv at hfv;cases hfv with
 | fn hcn hcr =>
  rename_i cs;have hall:∀ (i:Nat) (x:AV) (v:Value),((c.args.toList.map (Z0X G (ev tmps)))++caps)[i]? = some x→(c.args.map a.eval++cs)[i]? = some v→Rel ρ w Im x v:=by
   intro i x v hx hv;rw[List.getElem?_append]at hx;rw[Array.getElem?_append]at hv;simp only[List.length_map,Array.length_toList,Array.size_map]at hx hv;split at hx
   ·rename_i hi;rw[if_pos hi]at hv;simp only[List.getElem?_map,Option.map_eq_some_iff,Array.getElem?_map]at hx hv;obtain⟨y,hy,rfl⟩:=hx;obtain⟨y',hy',rfl⟩:=hv;have:y=y':=by
     rw[Array.getElem?_toList]at hy;rw[hy]at hy';cases hy';rfl
    subst this;exact Z2j (List.mem_cons_of_mem _ (List.mem_of_getElem? hy)) heq hG (Z1q T y)
   ·rename_i hi;rw[if_neg hi]at hv;exact hcr _ x v hx hv
  have hsize:(c.args.map a.eval++cs).size=((c.args.toList.map (Z0X G (ev tmps)))++caps).length:=by simp[hcn]
  have hndl:ls.Nodup:=(List.nodup_append.1 hnd).1;let ρc:Rho:=fun k=>match ls[k]? with | some b=>ρ b | none=>none
  have hρc:∀ k β,ρc k=some β→∃ b,ls[k]? = some b∧ρ b=some β:=by
   intro k β hk;simp only[ρc]at hk;split at hk
   ·exact⟨_,aa,hk⟩
   ·cases hk
  have hin:∀ (k b:Nat),ls[k]? = some b→ρc k=ρ b:=by intro k b h;simp only[ρc,h]
  have hnm:∀ b k β,idxN b ls 0=some k→ρ b=some β→ρc k=some β:=by
   intro b k β hk hb;obtain⟨_,q2⟩:=Z1V hk;rw[hin k b (by simpa using q2)];exact hb
  have hblk:∀ (k b:Nat),ls[k]? = some b→∃ B C β,pre[k]? = some C∧H b=some B∧nmB (fun b=>idxN b ls 0) B=some C∧ρ b=some β∧RelB ρ w Im β B:=by
   intro k b hk;have hk':k<pre.length:=by rw[p1];exact(List.getElem?_eq_some_iff.1 hk).1
   obtain⟨b',B,q1,q2,q3⟩:=p2 k _ (List.getElem?_eq_getElem hk');rw[hk]at q1;cases q1;obtain⟨β,q4,q5⟩:=I.blk b _ q2;exact⟨_,_,β,List.getElem?_eq_getElem hk',q2,q3,q4,q5⟩
  have hlive:∀ (k b:Nat),ls[k]? = some b→live H b:=by
   intro k b hk;obtain⟨B,C,β,_,q2,q3,_⟩:=hblk k b hk;exact⟨B,q2,by rintro rfl;simp[nmB]at q3⟩
  have hcall:=hspec w Im ρc (c.args.map a.eval++cs) I.imb (by rw[hsize,a1]) (fun k β hk=>by
    obtain⟨b,q1,_⟩:=hρc k β hk;rw[p1];exact(List.getElem?_eq_some_iff.1 q1).1) (fun b b' β β' g h1 h2 h3 h4=>by
    obtain⟨c1,q1,q2⟩:=hρc b β h1;obtain⟨c2,r1,r2⟩:=hρc b' β' h2;have:=I.inj c1 c2 β β' g (hlive _ _ q1) (hlive _ _ r1) q2 r2 h3 h4;subst this;exact Z3I hndl q1 r1) (fun b β g h1 h2=>by
    obtain⟨c1,q1,q2⟩:=hρc b β h1;exact⟨I.bnd c1 β g q2 h2,I.notIm c1 β g (hlive _ _ q1) q2 h2⟩) (fun k C hC=>by
    obtain⟨b,B,q1,q2,q3⟩:=p2 k C hC;obtain⟨β,q4,q5⟩:=I.blk b B q2;exact⟨β,by rw[hin k b q1];exact q4,ZnS hnm q5 q3⟩) (fun i y v hy hv=>by
    obtain⟨x,hx,hr⟩:=a2 i y hy;exact ZjM hnm (hall i x v hx hv) hr)
  have hrun:(execOp a.eval o).run P w = .ok (.enter k (c.args.map a.eval++cs)) w:=by
   have:=Z1Q (P:=P) hok1 (c.args.map a.eval++cs) w;simp[execOp,ho,resolve,hc,hfe,Deferred.ofValue,invoke,this]
  simp only[Oper.wp,hrun,Oper.upon_enter];refine hcall.mono fun e w' he=>?_;obtain⟨v,rfl,K,ρ',Im',s1,s2,r1,r2,s3,s4,s5,r3,r4⟩:=he;have hmem:∀ g,OwA (ownR ρc) g→∃ (kk b:Nat) (β:Bi),ls[kk]? = some b∧ρ b=some β∧β.g=some g:=by
   rintro g ⟨kk,β,h1,h2⟩;obtain⟨b,q1,q2⟩:=hρc kk β h1;exact⟨kk,b,β,q1,q2,h2⟩
  have hnl:∀ g,Im g→¬ OwA (ownR ρc) g:=by
   intro g hg h;obtain⟨kk,b,β,q1,q2,q3⟩:=hmem g h;exact I.notIm b β g (hlive _ _ q1) q2 q3 hg
  have hext:Ext Im w w':=⟨K.size,fun g hg=>K.block g (I.imb g hg) (hnl g hg),fun g hg=>K.rows g hg⟩
  generalize hids:Z3E d clk ls post=ids at hnd hn hph;have hidl:ids.length=post.length:=by
   rw[← hids,Z3E,List.length_append,ZbN];omega
  have hidn:∀ (kk b:Nat),ids[kk]? = some b→ls[kk]? = some b∨(ls.length≤kk∧clk*8000≤b∧H b=none):=by
   intro kk b hb;rw[← hids,Z3E,List.getElem?_append]at hb;split at hb
   ·exact .inl hb
   ·have hm:=List.mem_of_getElem? hb;exact .inr ⟨by omega,Zj7 hm,hnone b hm⟩
  have hidls:∀ (kk b:Nat),ls[kk]? = some b→ids[kk]? = some b:=by
   intro kk b hb;rw[← hids,Z3E,List.getElem?_append,if_pos (List.getElem?_eq_some_iff.1 hb).1];exact hb
  have hidm:∀ b,b∈ids→∃ kk:Nat,ids[kk]? = some b:=fun b hb=>List.getElem?_of_mem hb;let ρ2:Rho:=fun b=>match idxN b ids 0 with | some kk=>ρ' kk | none=>ρ b
  have hρin:∀ (kk b:Nat),ids[kk]? = some b→ρ2 b=ρ' kk:=by
   intro kk b hb;simp only[ρ2];cases hx:idxN b ids 0 with
   | none=>exact absurd (List.mem_of_getElem? hb) (Z47 hx)
   | some k2 =>
    obtain⟨_,q⟩:=Z1V hx;rw[Z3I hnd hb (by simpa using q)]
  have hρout:∀ b,b∉ids→ρ2 b=ρ b:=by
   intro b hb;simp only[ρ2];cases hx:idxN b ids 0 with
   | none=>rfl
   | some k2 =>
    obtain⟨_,q⟩:=Z1V hx;exact absurd (List.mem_of_getElem? q) hb
  have hsub:∀ b β,ρ b=some β→ρ2 b=some β:=by
   intro b β hb;by_cases hm:b∈ids
   ·obtain⟨kk,hkk⟩:=hidm b hm;rw[hρin kk b hkk];rcases hidn kk b hkk with h | ⟨_,h1,h2⟩
    ·exact s1 kk β (by rw[hin kk b h];exact hb)
    ·rw[I.fresh b h1 h2]at hb;cases hb
   ·rw[hρout b hm];exact hb
  have hH2:=fun b=>Z43 (ls:=ids) (post:=post.map (Z4D ids)) (H:=H) hnd (by simp[hidl]) b;have hH':∀ b B,applyU (ids.zip (post.map (Z4D ids))) H b=some B→(∃ (kk:Nat) (C:Blk),ids[kk]? = some b∧post[kk]? = some C∧B=Z4D ids C)∨(b∉ids∧H b=some B):=by
   intro b B hB;by_cases hb:b∈ids
   ·obtain⟨kk,hkk⟩:=hidm b hb;obtain⟨C,c1,c2⟩:=(hH2 b).1 kk hkk;rw[c2]at hB;cases hB;simp only[List.getElem?_map,Option.map_eq_some_iff]at c1;obtain⟨C',c3,c4⟩:=c1;exact .inl ⟨kk,C',hkk,c3,c4.symm⟩
   ·rw[(hH2 b).2 hb]at hB;exact .inr ⟨hb,hB⟩
  have hlive':∀ b,live (applyU (ids.zip (post.map (Z4D ids))) H) b→(∃ kk:Nat,ids[kk]? = some b∧live (hL post) kk)∨(b∉ids∧live H b):=by
   rintro b ⟨B,h1,h2⟩;rcases hH' b B h1 with⟨kk,C,q1,q2,rfl⟩ | ⟨q1,q2⟩
   ·exact .inl ⟨kk,q1,C,q2,Zhv h2⟩
   ·exact .inr ⟨q1,B,q2,h2⟩
  have hoth:∀ b β g,b∉ids→live H b→ρ b=some β→β.g=some g→¬ (w.heap.size≤g∨OwA (ownR ρc) g):=by
   rintro b β g hb hl h1 h2 (h | h)
   ·have:=I.bnd b β g h1 h2;omega
   ·obtain⟨kk,b2,β2,q1,q2,q3⟩:=hmem g h;have:=I.inj b b2 β β2 g hl (hlive _ _ q1) h1 q2 h2 q3;subst this;exact hb (List.mem_of_getElem? (hidls _ _ q1))
  have hcl:=I.one.1;rw[hd];refine hn _ _ ⟨ρ2,fun g=>Im g∨Im' g,⟨⟨K.os.trans I.kept.os,K.tape.trans I.kept.tape,K.output.trans I.kept.output,Nat.le_trans I.kept.size K.size,fun kk hk hno=>?_,fun kk hk=>?_⟩,
   fun b b' β β' g l1 l2 h1 h2 h3 h4=>?_,fun b β g l q1 q2 him=>?_,fun b β g q1 q2=>?_,fun b β g q1 q2=>?_,fun g hg=>?_,fun g hg=>?_,fun b B hB=>?_,fun b hb hB=>?_,hcl,fun b β hb hβ=>?_⟩,
   (T.mono hext (fun _ h=>.inl h) hsub I.bnd).put d ?_⟩
  ·rw[K.block kk (Nat.lt_of_lt_of_le hk I.kept.size) (fun h=>?_)]
   ·exact I.kept.block kk hk hno
   ·obtain⟨_,b,β,_,m2,m3⟩:=hmem kk h;rcases I.own b β kk m2 m3 with⟨h,_⟩ | h
    ·omega
    ·exact hno h
  ·rw[K.rows kk (Nat.lt_of_lt_of_le hk I.kept.size)];exact I.kept.rows kk hk
  ·rcases hlive' b l1 with⟨k1,m1,m2⟩ | ⟨m1,m2⟩<;>rcases hlive' b' l2 with⟨k2,n1,n2⟩ | ⟨n1,n2⟩
   ·rw[hρin _ _ m1]at h1;rw[hρin _ _ n1]at h2;have:=s5 k1 k2 β β' g m2 n2 h1 h2 h3 h4;subst this;rw[m1]at n1;cases n1;rfl
   ·rw[hρin _ _ m1]at h1;rw[hρout _ n1]at h2;exact absurd (s3 k1 β g h1 h3).2 (hoth b' β' g n1 n2 h2 h4)
   ·rw[hρout _ m1]at h1;rw[hρin _ _ n1]at h2;exact absurd (s3 k2 β' g h2 h4).2 (hoth b β g m1 m2 h1 h3)
   ·rw[hρout _ m1]at h1;rw[hρout _ n1]at h2;exact I.inj b b' β β' g m2 n2 h1 h2 h3 h4
  ·rcases hlive' b l with⟨k1,m1,m2⟩ | ⟨m1,m2⟩
   ·rw[hρin _ _ m1]at q1;rcases him with him | him
    ·rcases(s3 k1 β g q1 q2).2 with h | h
     ·have:=I.imb g him;omega
     ·exact hnl g him h
    ·exact s4 k1 β g m2 q1 q2 him
   ·rw[hρout _ m1]at q1;rcases him with him | him
    ·exact I.notIm b β g m2 q1 q2 him
    ·rcases r1 g him with h | h
     ·exact I.notIm b β g m2 q1 q2 h
     ·exact hoth b β g m1 m2 q1 q2 h
  ·by_cases hm:b∈ids
   ·obtain⟨kk,hkk⟩:=hidm b hm;rw[hρin kk b hkk]at q1;exact(s3 kk β g q1 q2).1
   ·rw[hρout b hm]at q1;exact Nat.lt_of_lt_of_le (I.bnd b β g q1 q2) K.size
  ·by_cases hm:b∈ids
   ·obtain⟨kk,hkk⟩:=hidm b hm;rw[hρin kk b hkk]at q1;rcases hidn kk b hkk with h | ⟨_,h8,_⟩
    ·obtain⟨B,C,β2,_,_,_,n1,_⟩:=hblk kk b h;have e:=s1 kk β2 (by rw[hin kk b h];exact n1);rw[q1]at e;cases e;exact I.own b β g n1 q2
    ·rcases(s3 kk β g q1 q2).2 with h | h
     ·exact .inl ⟨Nat.le_trans I.kept.size h,by omega⟩
     ·obtain⟨_,b2,β2,_,m2,m3⟩:=hmem g h;exact(I.own b2 β2 g m2 m3).imp (fun h=>⟨h.1,by omega⟩) (fun h=>h)
   ·rw[hρout b hm]at q1;exact I.own b β g q1 q2
  ·rcases hg with hg | hg
   ·exact Nat.lt_of_lt_of_le (I.imb g hg) K.size
   ·exact r2 g hg
  ·rcases hg with hg | hg
   ·exact I.im0 g hg
   ·rcases r1 g hg with h | h | h
    ·exact I.im0 g h
    ·exact .inr (.inl (Nat.le_trans I.kept.size h))
    ·obtain⟨_,b2,β2,_,m2,m3⟩:=hmem g h;exact(I.own b2 β2 g m2 m3).elim (fun h=>.inr (.inl h.1)) (fun h=>.inr (.inr h))
  ·rcases hH' b B hB with⟨kk,C,q1,q2,rfl⟩ | ⟨q1,q2⟩
   ·obtain⟨β,m1,m2⟩:=r3 kk C q2;refine⟨β,by rw[hρin kk b q1];exact m1,Z9h (fun _ h=>.inr h) (fun k3 β3 h3=>?_) m2⟩;have hk3:k3<ids.length:=by rw[hidl];exact s2 k3 β3 h3
    have e:=List.getElem?_eq_getElem hk3;rw[List.getD_eq_getElem?_getD,e];show ρ2 ids[k3]=some β3;rw[hρin k3 _ e];exact h3
   ·obtain⟨β,m1,m2⟩:=I.blk b B q2;by_cases hdead:B = .dead
    ·subst hdead;exact⟨β,hsub b β m1,trivial⟩
    ·refine⟨β,hsub b β m1,m2.mono hext (fun _ h=>.inl h) hsub I.bnd (fun g hg=>K.block g (I.bnd b β g m1 hg) fun h=>?_)⟩;exact hoth b β g q1 ⟨B,q2,hdead⟩ m1 hg (.inr h)
  ·by_cases hm:b∈ids
   ·obtain⟨kk,hkk⟩:=hidm b hm;obtain⟨C,_,c2⟩:=(hH2 b).1 kk hkk;have hB':applyU (ids.zip (post.map (Z4D ids))) H b=none:=hB;rw[c2]at hB';cases hB'
   ·have hB':applyU (ids.zip (post.map (Z4D ids))) H b=none:=hB;rw[(hH2 b).2 hm]at hB';rw[hρout b hm];exact I.fresh b hb hB'
  ·by_cases hm:b∈ids
   ·obtain⟨kk,hkk⟩:=hidm b hm;rw[hρin kk b hkk]at hβ;rcases hidn kk b hkk with h | ⟨_,h8,_⟩
    ·obtain⟨B,C,β2,_,_,_,n1,_⟩:=hblk kk b h;have e:=s1 kk β2 (by rw[hin kk b h];exact n1);rw[hβ]at e;cases e;exact I.one.2 b β hb n1
    ·omega
   ·rw[hρout b hm]at hβ;exact I.one.2 b β hb hβ
  ·have hr:∀ k3 β3,ρ' k3=some β3→ρ2 (ids.getD k3 0)=some β3:=by
    intro k3 β3 h3;have hk3:k3<ids.length:=by rw[hidl];exact s2 k3 β3 h3
    have e:=List.getElem?_eq_getElem hk3;rw[List.getD_eq_getElem?_getD,e];show ρ2 ids[k3]=some β3;rw[hρin k3 _ e];exact h3
   obtain⟨q1,q2,q3⟩:=Z81 (w:=w') (Im:=Im') (Im':=fun g=>Im g∨Im' g) hr;exact Z8g (fun _ h=>.inr h) q1 q2 q3 r4
theorem Z8z{ls:List Nat}{x y:AV}(h:nmL (fun b=>idxN b ls 0) x=some y):Z7o (renI ls) y=x:=by
 have key:∀ b k,idxN b ls 0=some k→ls.getD k 0=b:=fun b k e=>by
  obtain⟨_,q⟩:=Z1V e;rw[List.getD_eq_getElem?_getD];simp only[Nat.sub_zero]at q;rw[q];rfl
 unfold nmL at h;split at h
 ·cases h;rfl
 ·cases h;rfl
 ·split at h
  ·rename_i e;cases h;simp only[Z7o,renI,key _ _ e]
  ·cases h
 ·split at h
  ·rename_i e;cases h;simp only[Z7o,renI,key _ _ e]
  ·cases h
 ·split at h
  ·rename_i e;cases h;simp only[Z7o,renI,key _ _ e]
  ·cases h
 ·cases h
theorem Z6j{g:AV→Option AV}{f:AV→AV}(h:∀ x y,g x=some y→f y=x):∀ {l r:List AV},allO g l=some r→r.map f=l
 | [],r,e=>by simp[allO]at e;subst e;rfl
 | a::l,r,e=>by
  simp only[allO]at e;split at e
  ·rename_i x r' e1 e2;cases e;rw[List.map_cons,h _ _ e1,Z6j h e2]
  ·cases e
theorem Zmi{f:AV→AV}{y:AV}(h:∀ l,y≠.ag l)(h2:∀ g l,y≠.fn g l)(h3:∀ t z,y≠.ic t z):mapA f y=Z7o f y:=by
 cases y<;>first | rfl | (exact absurd rfl (h _)) | (exact absurd rfl (h2 _ _)) | (exact absurd rfl (h3 _ _))
theorem Zfe{g:Nat→Option Nat}{x y:AV}(h:nmL g x=some y):(∀ l,y≠.ag l)∧(∀ k l,y≠.fn k l)∧∀ t z,y≠.ic t z:=by
 unfold nmL at h;repeat' split at h
 all_goals cases h
 all_goals exact⟨nofun,nofun,nofun⟩
theorem Zna{ls:List Nat}{x y:AV}(h:nmM (fun b=>idxN b ls 0) x=some y):mapA (renI ls) y=x:=by
 have leaf:∀ {x y:AV},nmL (fun b=>idxN b ls 0) x=some y→mapA (renI ls) y=x:=fun {x y} h=>by
  obtain⟨h1,h2,h3⟩:=Zfe h;rw[Zmi h1 h2 h3,Z8z h]
 unfold nmM at h;split at h
 ·split at h
  ·rename_i e;cases h;simp only[mapA,Z6j (fun _ _=>Z8z) e]
  ·cases h
 ·split at h
  ·rename_i e;cases h;simp only[mapA,Z6j (fun _ _=>Z8z) e]
  ·cases h
 ·split at h
  ·rename_i e;cases h;simp only[mapA,Z6j (fun _ _=>Z8z) e]
  ·cases h
 ·split at h
  ·rename_i r e;cases h;have q:=Z8z e;obtain⟨h1,_,_⟩:=Zfe e;cases r<;>first | (exact absurd rfl (h1 _)) | (simp only[mapA];rw[q])
  ·cases h
 ·exact leaf h
theorem Zo0{ls:List Nat}{B C:Blk}(h:nmB (fun b=>idxN b ls 0) B=some C):Z4D ls C=B:=by
 unfold nmB at h;split at h
 ·split at h
  ·rename_i e;cases h;simp only[Z4D,Z6j (fun _ _=>Zna) e]
  ·cases h
 ·cases h;rfl
 ·cases h
theorem Z8B{H:Heap}:∀ {us:List (Nat×Blk)},(∀ p∈us,H p.1=some p.2)→applyU us H=H
 | [],_=>rfl
 | (b,B)::us,h=>by
  have e:updH H b B=H:=by
   funext x
   unfold updH;split
   ·rename_i q;rw[q];exact(h (b,B) pq).symm
   ·rfl
  simp only[applyU,e];exact Z8B fun p hp=>h p (List.mem_cons_of_mem _ hp)
theorem Zpq{G:Option Bool}{c:Call}{f:Operand}{out:Core}(ho:o.op = .call c)(hc:c.callee = .value f)(h:Z8I P clk hints o f c.args.toList G tmps H=some out):Z6x P Ow Im0 w0 clk o G H tmps (out.out tmps H):=by
 unfold Z8I at h;split at h
 ·cases h
 rename_i d hd;split at h
 ·-- passed over
  rename_i hg;split at h;rotate_left
  ·cases h
  cases h;intro a w ρ Im next Q I T hph heq hn
  refine⟨fun hG=>?_,fun hG=>?_⟩
  ·cases G with
   | none=>cases hg
   | some g=>have:=hG g rfl;simp[this]at hg
  ·rw[hd];exact hn _ _ (Z77 I T hG d _)
 rename_i hg;have hGt:∀ g,G=some g→g=true:=by
  intro g e;subst e;exact hg
 split at h;rotate_left
 ·cases h
 rename_i k caps hf;split at h;rotate_left
 ·cases h
 rename_i ls res post _ _;split at h;rotate_left
 ·cases h
 rename_i as pre has hpre;split at h
 ·split at h;rotate_left
  ·cases h
  rename_i hok;cases h;simp only[Bool.and_eq_true]at hok;obtain⟨p1,p2⟩:=Z9u hpre;have e0:Z3E d clk ls pre=ls:=by simp[Z3E,p1,nids]
  have g:=ZjE (Ow:=Ow) (Im0:=Im0) (w0:=w0) (res:=res) (post:=pre) ho hc hd hGt hf has hpre (by rw[e0,p1,Nat.sub_self,hok.1,hok.2,Nat.ble_eq_true_of_le (Nat.le_refl ls.length)];rfl);rw[e0]at g;have e1:applyU (ls.zip (pre.map (Z4D ls))) H=H:=Z8B fun p hp=>by
   obtain⟨i,hi⟩:=List.mem_iff_getElem?.1 hp;rw[List.getElem?_zip_eq_some]at hi;obtain⟨h1,h2⟩:=hi;simp only[List.getElem?_map,Option.map_eq_some_iff]at h2;obtain⟨C,h2,h3⟩:=h2;obtain⟨b,B,q1,q2,q3⟩:=p2 i C h2;rw[h1]at q1;cases q1;rw[q2,← h3,Zo0 q3]
  simp only[Core.out,e1]at g ⊢;exact g
 ·split at h;rotate_left
  ·cases h
  rename_i hok;cases h;exact ZjE ho hc hd hGt hf has hpre hok
theorem Zib{c:Call}{out:Core}(ho:o.op = .call c)(hc:c.callee = .builtin .append)(h:Z42 P clk hints o c tmps H=some out):Z6x P Ow Im0 w0 clk o none H tmps (out.out tmps H):=by
 intro a w ρ Im next Q I T hph heq hn
 unfold Z42 at h;split at h
 ·cases h
 rename_i d hd;split at h;rotate_left
 ·cases h
 rename_i x y t t' h1 h2;split at h
 ·cases h
 rename_i hH;split at h;rotate_left
 ·cases h
 rename_i b r hr;cases h;refine⟨fun _=>?_,fun hG=>by obtain⟨g,hg,_⟩:=hG;cases hg⟩;have hop:o.op = .call ⟨.builtin .append,#[x,y],#[t,t']⟩:=by rw[ho,Z59 hc h1 h2]
 obtain⟨v,w',ρ',k1,k2,k3,k4⟩:=ZgC hop hr I T oq hH (Z1q T x) (Z1q T y) hph;simp only[Oper.wp,k1,Oper.upon_value];rw[hd];exact hn _ _ ⟨ρ',Im,by show Inv _ _ _ _ _ _ (applyU r.ups (updH H b .dead)) _;rw[Res.applyU];exact k2,k3.put d k4⟩
theorem Z8P{ops:Array Oper}(h:Z8X P clk ops hints o tmps H=some out)(hS:Sys Ow Im0 w0 tmps H clk a w)(hph:allP out.ph)(heq:EqP out.eq)(hn:∀ a' w',Sys Ow Im0 w0 out.tmps out.H clk a' w'→next a' w') :
  (Region.wanted o (yielded ops a.tmps)=true→o.wp P a w next Q)∧(Region.wanted o (yielded ops a.tmps)=false→next (a.put o.dst undef) w):=by
 obtain⟨ρ,Im,I,T⟩:=hS;unfold Z8X at h;split at h;rotate_left
 ·cases h
 rename_i c h';cases h;unfold Z2z at h';split at h'
 ·cases h'
 rename_i G hG;have hok:Z6x P Ow Im0 w0 clk o G H tmps (c.out tmps H):=by
  revert h';intro h;split at h
  ·exact Znx aa h
  ·rename_i c hop;split at h
   ·split at h
    ·exact Zoz hop aa h
    ·split at h
     ·exact ZoF hop aa h
     ·split at h
      ·exact Zpq hop aa h
      ·exact ZnI hop aa h
   ·split at h
    ·exact Zib hop aa h
    ·cases h
   ·exact ZfT h
  ·exact ZfT h
 obtain⟨k1,k2⟩:=hok a w ρ Im next Q I T hph heq hn
 rcases Zhp T hG with⟨rfl,hw⟩ | ⟨g,rfl,hw⟩
 ·exact⟨fun _=>k1 (fun g hg=>by cases hg),fun h=>by rw[hw]at h;cases h⟩
 ·exact⟨fun h=>k1 (fun g' hg'=>by cases hg';rw[← hw];exact h),fun h=>k2 ⟨g,rfl,by rw[← hw];exact h⟩⟩
end
end Go.Sx
