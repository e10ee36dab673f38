/-
 The statement EvacuateOnce: part 1.
 Conditions: none.
-/
import Derived.WalkKit
set_option maxRecDepth 100000
set_option maxHeartbeats 2000000
set_option linter.all false
namespace Go.Sx
theorem oq{p:Prop}(h:p:=by first | (dsimp+zetaDelta only;omega) | omega | (simp only[List.length_cons,List.length_nil];omega)):p:=h
theorem dd{p:Prop}(h:p:=by decide):p:=h
theorem kr{p:Prop}(h:p:=by kernel_rfl):p:=h
theorem aa{p:Prop}(h:p:=by assumption):p:=h
theorem pq{p:Prop}(h:p:=by simp):p:=h
theorem qo{p:Prop}(h:p:=by simp;omega):p:=h
end Go.Sx
namespace Go.Sx
inductive DV where
 | sc (v:Value)
 | sl (s:Nat) (els:List (List DV))
inductive AV where
 | d (x:DV)
 | ag (l:List AV)
 | pt (b i o:Nat)
 | os (b o n:Nat)
 | ow (b:Nat)
 | rp (e:List DV) (o:Nat)
 | fn (f:Nat) (caps:List AV)
 | ic (t:Nat) (a:AV)
 | tu (l:List AV)
 | gd (g:Bool) (a:AV)
 | any
inductive Blk where
 | box (ty:Nat) (cells:List AV)
 | arr (ty s:Nat) (els:List (List DV))
 | dead
structure Bi where
 g:Option Nat
 s:Nat
 n:Nat
def rows(w:World)(g:Nat):Nat:=match w.heap[g]? with | some (.cells cs _ _)=>cs.size | _=>0
def big:Nat:=2^48
theorem ZoW:big=281474976710656:=by decide
inductive RelD (w:World) (Im:Nat→Prop):DV→Value→Prop
 | sc (v:Value) (h:v.oneCell'=true):RelD w Im (.sc v) v
 | slNil (s:Nat) (a:Option Addr) (c:Nat):RelD w Im (.sl s []) (.slice a 0 c)
 | sl (s:Nat) (els:List (List DV)) (p:Addr) (n c:Nat) (f:Nat→Nat→Value) (hn:els.length=n) (hc:n≤c) (hb:n≤big)
   (hs:∀ e∈els,e.length=s) (hp:p.spot=none) (him:Im p.block)
   (hcell:∀ (i:Nat) (e:List DV) (o:Nat) (x:DV),els[i]? = some e→e[o]? = some x→w.cell? ⟨p.block,p.off+(i*s+o),none⟩=some (f i o))
   (hrel:∀ (i:Nat) (e:List DV) (o:Nat) (x:DV),els[i]? = some e→e[o]? = some x→RelD w Im x (f i o)):RelD w Im (.sl s els) (.slice (some p) n c)
structure Ext (Im:Nat→Prop) (w w':World):Prop where
 size:w.heap.size≤w'.heap.size
 im:∀ g,Im g→w'.heap[g]? = w.heap[g]?
 rows:∀ g,g<w.heap.size→rows w' g=rows w g
theorem Ext.refl(Im:Nat→Prop)(w:World):Ext Im w w:=⟨Nat.le_refl _,fun _ _=>rfl,fun _ _=>rfl⟩
theorem Ext.trans{Im:Nat→Prop}{a b c:World}(h:Ext Im a b)(k:Ext Im b c):Ext Im a c :=
 ⟨Nat.le_trans h.size k.size,fun g hg=>(k.im g hg).trans (h.im g hg),fun g hg=>(k.rows g (Nat.lt_of_lt_of_le hg h.size)).trans (h.rows g hg)⟩
theorem RelD.one{w:World}{Im:Nat→Prop}{x:DV}{v:Value}(h:RelD w Im x v):v.oneCell'=true:=by
 cases h<;>first | assumption | rfl
theorem RelD.mono{w w':World}{Im Im':Nat→Prop}{x:DV}{v:Value}(h:RelD w Im x v)(he:Ext Im w w')(hi:∀ g,Im g→Im' g):RelD w' Im' x v:=by
 induction h with
 | sc v h=>exact .sc v h
 | slNil s a c=>exact .slNil s a c
 | sl s els p n c f hn hc hb hs hp him hcell _ ih =>
  refine .sl s els p n c f hn hc hb hs hp (hi _ him) (fun i e o x h1 h2=>?_) (fun i e o x h1 h2=>ih i e o x h1 h2);rw[← hcell i e o x h1 h2];exact World.cell?_of_block (w:=w) (he.im _ him)
abbrev Rho:=Nat→Option Bi
inductive Rel (ρ:Rho) (w:World) (Im:Nat→Prop):AV→Value→Prop
 | d {x:DV} {v:Value} (h:RelD w Im x v):Rel ρ w Im (.d x) v
 | ag (l:List AV) (cs:Array Value) (hn:cs.size=l.length) (hone:∀ (i:Nat) (v:Value),cs[i]? = some v→v.oneCell'=true) (h:∀ (i:Nat) (a:AV) (v:Value),l[i]? = some a→cs[i]? = some v→Rel ρ w Im a v):Rel ρ w Im (.ag l) (.agg cs)
 | pt {b i o g s n:Nat} (h:ρ b=some ⟨some g,s,n⟩):Rel ρ w Im (.pt b i o) (.pointer (some ⟨g,i*s+o,none⟩))
 | os {b o n c:Nat} {a:Option Addr} {β:Bi} (h:ρ b=some β) (hn:o+n≤β.n) (hc:n≤c) (hb:n≤big) (ha:c=0∨∃ g,β.g=some g∧a=some ⟨g,o*β.s,none⟩∧(o+c)*β.s≤rows w g):Rel ρ w Im (.os b o n) (.slice a n c)
 | ow {b c:Nat} {a:Option Addr} {β:Bi} (h:ρ b=some β) (hc:β.n≤c) (hb:β.n≤big) (ha:c=0∨∃ g,β.g=some g∧a=some ⟨g,0,none⟩∧c*β.s≤rows w g):Rel ρ w Im (.ow b) (.slice a β.n c)
 | rp {e:List DV} {o:Nat} {p:Addr} (hp:p.spot=none) (him:Im p.block) (h:∀ (j:Nat) (x:DV),e[j]? = some x→∃ v,w.cell? ⟨p.block,p.off+j,none⟩=some v∧RelD w Im x v) :
   Rel ρ w Im (.rp e o) (.pointer (some ⟨p.block,p.off+o,none⟩))
 | fn {f:Nat} {caps:List AV} {cs:Array Value} (hn:cs.size=caps.length) (h:∀ (i:Nat) (a:AV) (v:Value),caps[i]? = some a→cs[i]? = some v→Rel ρ w Im a v):Rel ρ w Im (.fn f caps) (.func (.func f) #[] cs)
 | ic {t:Nat} {a:AV} {v:Value} (h:Rel ρ w Im a v):Rel ρ w Im (.ic t a) (.iface t v)
 | tu (l:List AV) (cs:Array Value) (hn:cs.size=l.length) (h:∀ (i:Nat) (a:AV) (v:Value),l[i]? = some a→cs[i]? = some v→Rel ρ w Im a v):Rel ρ w Im (.tu l) (.tuple cs)
 | gd {g:Bool} {a:AV} {v:Value} (h:g=true→Rel ρ w Im a v) (h':g=false→v=undef):Rel ρ w Im (.gd g a) v
 | any (v:Value):Rel ρ w Im .any v
theorem Rel.mono{ρ ρ':Rho}{w w':World}{Im Im':Nat→Prop}{a:AV}{v:Value}(h:Rel ρ w Im a v)(he:Ext Im w w')(hi:∀ g,Im g→Im' g)
  (hρ:∀ b β,ρ b=some β→ρ' b=some β) (hb:∀ b β g,ρ b=some β→β.g=some g→g<w.heap.size):Rel ρ' w' Im' a v:=by
 induction h with
 | d h=>exact .d (h.mono he hi)
 | ag l cs hn hone _ ih=>exact .ag l cs hn hone ih
 | pt h=>exact .pt (hρ _ _ h)
 | os h hn hc hb' ha =>
  refine .os (hρ _ _ h) hn hc hb' (ha.imp id fun⟨g,h1,h2,h3⟩=>⟨g,h1,h2, ?_⟩);rw[he.rows g (hb _ _ g h h1)];exact h3
 | ow h hc hb' ha =>
  refine .ow (hρ _ _ h) hc hb' (ha.imp id fun⟨g,h1,h2,h3⟩=>⟨g,h1,h2, ?_⟩);rw[he.rows g (hb _ _ g h h1)];exact h3
 | rp hp him h =>
  refine .rp hp (hi _ him) fun j x hx=>?_;obtain⟨v,h1,h2⟩:=h j x hx;exact⟨v,by rw[← h1];exact World.cell?_of_block (w:=w) (he.im _ him),h2.mono he hi⟩
 | fn hn _ ih=>exact .fn hn ih
 | ic _ ih=>exact .ic ih
 | tu l cs hn _ ih=>exact .tu l cs hn ih
 | gd _ h' ih=>exact .gd ih h'
 | any v=>exact .any v
def AV.one:AV→Bool
 | .d _ | .pt .. | .os .. | .ow _ | .rp .. | .fn .. | .ic .. => true
 | _=>false
theorem Rel.one{ρ:Rho}{w:World}{Im:Nat→Prop}{a:AV}{v:Value}(h:Rel ρ w Im a v)(ha:a.one=true):v.oneCell'=true:=by
 cases h<;>first | (exact RelD.one aa) | rfl | simp[AV.one]at ha
def AV.cells:AV→Option (List AV)
 | .ag l=>some l
 | .d x=>some [.d x]
 | .pt b i o=>some [.pt b i o]
 | .os b o n=>some [.os b o n]
 | .ow b=>some [.ow b]
 | .rp e o=>some [.rp e o]
 | .fn f c=>some [.fn f c]
 | .ic t a=>some [.ic t a]
 | _=>none
theorem Z6t{v:Value}(h:v.oneCell'=true):v.cells = #[v]:=by
 cases v<;>first | rfl | simp[Value.oneCell']at h
theorem Rel.cells{ρ:Rho}{w:World}{Im:Nat→Prop}{a:AV}{v:Value}{l:List AV}(h:Rel ρ w Im a v)(hl:a.cells=some l) :
  v.cells.size=l.length∧(∀ (i:Nat) (a:AV) (u:Value),l[i]? = some a→v.cells[i]? = some u→Rel ρ w Im a u)∧∀ (i:Nat) (u:Value),v.cells[i]? = some u→u.oneCell'=true:=by
 have key:∀ {a:AV},a.one=true→Rel ρ w Im a v→l=[a] →
   v.cells.size=l.length∧(∀ (i:Nat) (a:AV) (u:Value),l[i]? = some a→v.cells[i]? = some u→Rel ρ w Im a u)∧∀ (i:Nat) (u:Value),v.cells[i]? = some u→u.oneCell'=true:=by
  intro a ha h hl;subst hl;have h1:=h.one ha;rw[Z6t h1];refine⟨rfl, ?_, ?_⟩
  ·intro i a' u h2 h3;cases i with
   | zero=>simp at h2 h3;subst h2;subst h3;exact h
   | succ i=>simp at h2
  ·intro i u h3;cases i with
   | zero=>simp at h3;subst h3;exact h1
   | succ i=>simp at h3
 cases h with
 | ag l' cs hn hone h =>
  simp only[AV.cells,Option.some.injEq]at hl;subst hl;exact⟨hn,h,hone⟩
 | d h=>exact key (by rfl) (.d h) (by simpa[AV.cells]using hl.symm)
 | pt h=>exact key (by rfl) (.pt h) (by simpa[AV.cells]using hl.symm)
 | os h a b c d=>exact key (by rfl) (.os h a b c d) (by simpa[AV.cells]using hl.symm)
 | ow h b c d=>exact key (by rfl) (.ow h b c d) (by simpa[AV.cells]using hl.symm)
 | rp a b c=>exact key (by rfl) (.rp a b c) (by simpa[AV.cells]using hl.symm)
 | fn a b=>exact key (by rfl) (.fn a b) (by simpa[AV.cells]using hl.symm)
 | ic a=>exact key (by rfl) (.ic a) (by simpa[AV.cells]using hl.symm)
 | tu=>simp[AV.cells]at hl
 | gd=>simp[AV.cells]at hl
 | any=>simp[AV.cells]at hl
def RelB(ρ:Rho)(w:World)(Im:Nat→Prop)(β:Bi):Blk→Prop
 | .box ty cells=>β.s=cells.length∧β.n=1∧∃ g cs,β.g=some g∧w.heap[g]? = some (.cells cs ty (0,0))∧cs.size=cells.length∧(∀ (i:Nat) (v:Value),cs[i]? = some v→v.oneCell'=true) ∧
   ∀ (o:Nat) (a:AV) (v:Value),cells[o]? = some a→cs[o]? = some v→Rel ρ w Im a v
 | .arr ty s els=>β.s=s∧β.n=els.length∧els.length≤big∧(∀ e∈els,e.length=s)∧((β.g=none∧els=[])∨∃ g cs,β.g=some g∧w.heap[g]? = some (.cells cs ty (0,0))∧els.length*s≤cs.size ∧
   ∀ (i:Nat) (e:List DV) (o:Nat) (x:DV),els[i]? = some e→e[o]? = some x→∃ v,cs[i*s+o]? = some v∧RelD w Im x v)
 | .dead=>True
structure Kept (Ow:Nat→Prop) (w0 w:World):Prop where
 os:w.os=w0.os
 tape:w.tape=w0.tape
 output:w.output=w0.output
 size:w0.heap.size≤w.heap.size
 block:∀ k,k<w0.heap.size→¬ Ow k→w.heap[k]? = w0.heap[k]?
 rows:∀ k,k<w0.heap.size→rows w k=rows w0 k
theorem Kept.imp{A B:Nat→Prop}{w0 w:World}(h:Kept A w0 w)(hi:∀ g,A g→B g):Kept B w0 w:=⟨h.os,h.tape,h.output,h.size,fun k hk hn=>h.block k hk fun q=>hn (hi k q),h.rows⟩
theorem Kept.refl(Ow:Nat→Prop)(w:World):Kept Ow w w:=⟨rfl,rfl,rfl,Nat.le_refl _,fun _ _ _=>rfl,fun _ _=>rfl⟩
abbrev Heap:=Nat→Option Blk
structure St where
 tmps:List AV
 H:Heap
 clk:Nat
def live(H:Heap)(b:Nat):Prop:=∃ B,H b=some B∧B≠.dead
abbrev Own:=Nat→Bi→Prop
def Z4g:Own:=fun _ _=>False
def OwA(Ow:Own)(g:Nat):Prop:=∃ b β,Ow b β∧β.g=some g
def ownR(ρ:Rho):Own:=fun b β=>ρ b=some β
theorem OwA.no{g:Nat}(h:OwA Z4g g):False:=by
 obtain⟨_,_,h,_⟩:=h;exact h
structure Inv (Ow:Own) (Im0:Nat→Prop) (w0:World) (ρ:Rho) (w:World) (Im:Nat→Prop) (H:Heap) (clk:Nat):Prop where
 kept:Kept (OwA Ow) w0 w
 inj:∀ b b' β β' g,live H b→live H b'→ρ b=some β→ρ b'=some β'→β.g=some g→β'.g=some g→b=b'
 notIm:∀ b β g,live H b→ρ b=some β→β.g=some g→¬ Im g
 bnd:∀ b β g,ρ b=some β→β.g=some g→g<w.heap.size
 own:∀ b β g,ρ b=some β→β.g=some g→(w0.heap.size≤g∧8000≤b)∨OwA Ow g
 imb:∀ g,Im g→g<w.heap.size
 im0:∀ g,Im g→Im0 g∨w0.heap.size≤g∨OwA Ow g
 blk:∀ b B,H b=some B→∃ β,ρ b=some β∧RelB ρ w Im β B
 fresh:∀ b,clk*8000≤b→H b=none→ρ b=none
 one:1≤clk∧∀ b β,b<8000→ρ b=some β→Ow b β
theorem RelB.mono{ρ ρ':Rho}{w w':World}{Im Im':Nat→Prop}{β:Bi}{B:Blk}(h:RelB ρ w Im β B)(he:Ext Im w w')(hi:∀ g,Im g→Im' g)
  (hρ:∀ b β,ρ b=some β→ρ' b=some β) (hb:∀ b β g,ρ b=some β→β.g=some g→g<w.heap.size)
  (hg:∀ g,β.g=some g→w'.heap[g]? = w.heap[g]?):RelB ρ' w' Im' β B:=by
 cases B with
 | box ty cells =>
  obtain⟨h0,h00,g,cs,h1,h2,h3,h3',h4⟩:=h;exact⟨h0,h00,g,cs,h1,by rw[hg g h1];exact h2,h3,h3',fun o a v ha hv=>(h4 o a v ha hv).mono he hi hρ hb⟩
 | arr ty s els =>
  obtain⟨h0,h1,hb',h2,h3⟩:=h;refine⟨h0,h1,hb',h2,h3.imp id fun⟨g,cs,h4,h5,h6,h7⟩=>⟨g,cs,h4,by rw[hg g h4];exact h5,h6,fun i e o x hx hy=>?_⟩⟩;obtain⟨v,h8,h9⟩:=h7 i e o x hx hy;exact⟨v,h8,h9.mono he hi⟩
 | dead=>trivial
structure RelT (ρ:Rho) (w:World) (Im:Nat→Prop) (tmps:List AV) (a:Act):Prop where
 size:a.tmps.size=tmps.length
 tmp:∀ (i:Nat) (x:AV) (v:Value),tmps[i]? = some x→a.tmps[i]? = some v→Rel ρ w Im x v
 defers:a.defers=[]
theorem RelT.mono{ρ ρ':Rho}{w w':World}{Im Im':Nat→Prop}{tmps:List AV}{a:Act}(h:RelT ρ w Im tmps a)(he:Ext Im w w')(hi:∀ g,Im g→Im' g)
  (hρ:∀ b β,ρ b=some β→ρ' b=some β) (hb:∀ b β g,ρ b=some β→β.g=some g→g<w.heap.size):RelT ρ' w' Im' tmps a :=
 ⟨h.size,fun i x v h1 h2=>(h.tmp i x v h1 h2).mono he hi hρ hb,h.defers⟩
theorem RelT.put{ρ:Rho}{w:World}{Im:Nat→Prop}{tmps:List AV}{a:Act}(h:RelT ρ w Im tmps a)(t:Nat){x:AV}{v:Value}(hx:Rel ρ w Im x v) :
  RelT ρ w Im (tmps.set t x) (a.put (some t) v):=by
 refine⟨by simp[Act.put,h.size],fun i y u h1 h2=>?_,h.defers⟩;simp only[Act.put,Array.getElem?_setIfInBounds]at h2;rw[List.getElem?_set]at h1;by_cases hi:t=i
 ·subst hi;simp only[if_true]at h1 h2;split at h1<;>split at h2<;>simp_all
 ·simp only[hi,if_false]at h1 h2;exact h.tmp i y u h1 h2
def updR(ρ:Rho)(b:Nat)(β:Bi):Rho:=fun k=>if k=b then some β else ρ k
def updH(H:Heap)(b:Nat)(B:Blk):Heap:=fun k=>if k=b then some B else H k
theorem Z1s{H:Heap}{b:Nat}{B:Blk}{k:Nat}(h:live (updH H b B) k)(hk:¬ k=b):live H k:=by
 obtain⟨B',h1,h2⟩:=h;unfold updH at h1;rw[if_neg hk]at h1;exact⟨B',h1,h2⟩
theorem ZbS{H:Heap}{b:Nat}{B:Blk}{k:Nat}(hl:live H b)(h:live (updH H b B) k):live H k:=by
 by_cases hk:k=b
 ·rw[hk];exact hl
 ·exact Z1s h hk
theorem Z8M{Ow:Own}{ρ:Rho}{clk id:Nat}{β:Bi}(h:1≤clk∧∀ b β,b<8000→ρ b=some β→Ow b β)(hid:clk*8000≤id):1≤clk∧∀ b κ,b<8000→updR ρ id β b=some κ→Ow b κ:=by
 refine⟨h.1,fun b κ hb hk=>?_⟩;unfold updR at hk;split at hk
 ·have:=h.1;omega
 ·exact h.2 b κ hb hk
theorem Z21(ρ:Rho)(b:Nat)(β:Bi):updR ρ b β b=some β:=by simp[updR]
theorem Z2c{ρ:Rho}{b:Nat}{β:Bi}(h:ρ b=none):∀ k κ,ρ k=some κ→updR ρ b β k=some κ:=by
 intro k κ hk;unfold updR;split
 ·subst k;rw[h]at hk;cases hk
 ·exact hk
theorem Ext.alloc(Im:Nat→Prop)(w:World)(o:Obj)(h:∀ g,Im g→g<w.heap.size):Ext Im w (w.alloc o) :=
 ⟨by simp,fun g hg=>Go.RowKit.Below.heap_alloc _ _ _ (h g hg),fun g hg=>by unfold Sx.rows;rw[Go.RowKit.Below.heap_alloc _ _ _ hg]⟩
theorem heap_alloc_new(w:World)(o:Obj):(w.alloc o).heap[w.heap.size]? = some o:=by show(w.heap.push o)[w.heap.size]? = some o;simp
section
variable {Ow:Own} {Im0:Nat→Prop} {w0:World} {ρ:Rho} {w:World} {Im:Nat→Prop} {H:Heap} {clk:Nat}
theorem Inv.junk(I:Inv Ow Im0 w0 ρ w Im H clk)(o:Obj):Inv Ow Im0 w0 ρ (w.alloc o) Im H clk:=by
 have he:=Ext.alloc Im w o I.imb;refine⟨?_,I.inj,I.notIm,fun b β g h h'=>?_,I.own,fun g h=>?_,I.im0,fun b B h=>?_,I.fresh,I.one⟩
 ·have k:=I.kept;refine⟨k.os,k.tape,k.output,by have:=k.size;simp;omega,fun i hi ho=>?_,fun i hi=>?_⟩
  ·rw[Go.RowKit.Below.heap_alloc _ _ _ (Nat.lt_of_lt_of_le hi k.size)];exact k.block i hi ho
  ·rw[he.rows i (Nat.lt_of_lt_of_le hi k.size)];exact k.rows i hi
 ·have:=I.bnd b β g h h';simp;omega
 ·have:=I.imb g h;simp;omega
 ·obtain⟨β,h1,h2⟩:=I.blk b B h;exact⟨β,h1,h2.mono he (fun _ h=>h) (fun _ _ h=>h) I.bnd (fun g hg=>Go.RowKit.Below.heap_alloc _ _ _ (I.bnd b β g h1 hg))⟩
theorem Inv.draw(I:Inv Ow Im0 w0 ρ w Im H clk):Inv Ow Im0 w0 ρ w.drew Im H clk :=
 ⟨⟨I.kept.os,I.kept.tape,I.kept.output,I.kept.size,I.kept.block,I.kept.rows⟩,I.inj,I.notIm,I.bnd,I.own,I.imb,I.im0,
  fun b B h=>let ⟨β,h1,h2⟩:=I.blk b B h;⟨β,h1,h2.mono (w':=w.drew) ⟨Nat.le_refl _,fun _ _=>rfl,fun _ _=>rfl⟩ (fun _ h=>h) (fun _ _ h=>h) I.bnd (fun _ _=>rfl)⟩,I.fresh,I.one⟩
theorem Ext.draw(Im:Nat→Prop)(w:World):Ext Im w w.drew:=⟨Nat.le_refl _,fun _ _=>rfl,fun _ _=>rfl⟩
theorem Inv.add(I:Inv Ow Im0 w0 ρ w Im H clk)(id:Nat)(hid:clk*8000≤id)(hH:H id=none)(cs:Array Value)(ty s n:Nat)(B:Blk)
  (hB:RelB (updR ρ id ⟨some w.heap.size,s,n⟩) (w.alloc (.cells cs ty)) Im ⟨some w.heap.size,s,n⟩ B) :
  Inv Ow Im0 w0 (updR ρ id ⟨some w.heap.size,s,n⟩) (w.alloc (.cells cs ty)) Im (updH H id B) clk:=by
 have hn:=I.fresh id hid hH;have he:=Ext.alloc Im w (.cells cs ty) I.imb;have J:=I.junk (.cells cs ty);refine⟨J.kept, ?_, ?_, ?_, ?_,J.imb,J.im0, ?_, ?_,Z8M I.one hid⟩
 ·intro b b' β β' g l1 l2 h1 h2 h3 h4;unfold updR at h1 h2;split at h1<;>split at h2
  ·omega
  ·cases h1;simp at h3;have:=I.bnd b' β' g h2 h4;omega
  ·cases h2;simp at h4;have:=I.bnd b β g h1 h3;omega
  ·exact I.inj b b' β β' g (Z1s l1 aa) (Z1s l2 aa) h1 h2 h3 h4
 ·intro b β g l h h';unfold updR at h;split at h
  ·cases h;simp at h';intro hi;have:=I.imb g hi;omega
  ·exact I.notIm b β g (Z1s l aa) h h'
 ·intro b β g h h';unfold updR at h;split at h
  ·cases h;simp at h';simp;omega
  ·have:=I.bnd b β g h h';simp;omega
 ·intro b β g h h';unfold updR at h;split at h
  ·rename_i hbi;cases h;simp at h';have:=I.kept.size;have:=I.one;exact .inl ⟨by omega,by omega⟩
  ·exact I.own b β g h h'
 ·intro b B' h;unfold updH at h;split at h
  ·cases h;rename_i hb;exact⟨_,by rw[hb];exact Z21 _ _ _,hB⟩
  ·obtain⟨β,h1,h2⟩:=I.blk b B' h;exact⟨β,Z2c hn _ _ h1,h2.mono he (fun _ h=>h) (Z2c hn) I.bnd (fun g hg=>Go.RowKit.Below.heap_alloc _ _ _ (I.bnd b β g h1 hg))⟩
 ·intro b hb h;unfold updH at h;unfold updR;split
  ·rename_i hbi;simp[hbi]at h
  ·rename_i hbi;simp only[hbi,if_false]at h;exact I.fresh b hb h
theorem Z1Y(w:World)(g:Nat)(cs cs':Array Value)(ty:Nat)(hg:w.heap[g]? = some (.cells cs ty (0,0)))(hs:cs'.size=cs.size)(k:Nat) :
  rows (w.setRow g cs') k=rows w k:=by
 by_cases hk:k=g
 ·subst hk;unfold rows;rw[setRow_heap w k cs cs' ty (0,0) hg,hg];simpa using hs
 ·unfold rows;rw[setRow_other w g k cs' hk]
theorem Inv.put(I:Inv Ow Im0 w0 ρ w Im H clk)(b:Nat)(g s n:Nat)(cs cs':Array Value)(ty:Nat)(B:Blk)(hb:ρ b=some ⟨some g,s,n⟩)
  (hg:w.heap[g]? = some (.cells cs ty (0,0))) (hs:cs'.size=cs.size) (hlive:live H b)
  (hB:Ext Im w (w.setRow g cs')→RelB ρ (w.setRow g cs') Im ⟨some g,s,n⟩ B):Inv Ow Im0 w0 ρ (w.setRow g cs') Im (updH H b B) clk∧Ext Im w (w.setRow g cs'):=by
 have hsz:(w.setRow g cs').heap.size=w.heap.size:=by simp[World.setRow]
 have he:Ext Im w (w.setRow g cs'):=by
  refine⟨by omega,fun k hk=>?_,fun k _=>Z1Y w g cs cs' ty hg hs k⟩;exact setRow_other w g k cs' (fun e=>I.notIm b _ g hlive hb rfl (e▸hk))
 refine⟨⟨?_,fun b b' β β' g l1 l2=>I.inj b b' β β' g (ZbS hlive l1) (ZbS hlive l2),fun b β g l=>I.notIm b β g (ZbS hlive l),fun b β g h h'=>by rw[hsz];exact I.bnd b β g h h',I.own,fun g h=>by rw[hsz];exact I.imb g h,I.im0, ?_, ?_,I.one⟩,he⟩
 ·have k:=I.kept;refine⟨k.os,k.tape,k.output,by rw[hsz];exact k.size,fun i hi ho=>?_,fun i hi=>?_⟩
  ·have:i≠g:=by
    rintro rfl;rcases I.own b _ i hb rfl with⟨h,_⟩ | h
    ·omega
    ·exact ho h
   rw[setRow_other w g i cs' this];exact k.block i hi ho
  ·rw[Z1Y w g cs cs' ty hg hs];exact k.rows i hi
 ·intro b' B' h;unfold updH at h;split at h
  ·cases h;rename_i e;rw[e];exact⟨_,hb,hB he⟩
  ·rename_i hne;obtain⟨β,h1,h2⟩:=I.blk b' B' h;cases B' with
   | dead=>exact⟨β,h1,trivial⟩
   | _ =>
    refine⟨β,h1,h2.mono he (fun _ h=>h) (fun _ _ h=>h) I.bnd (fun g' hg'=>setRow_other w g g' cs' ?_)⟩;rintro rfl;exact hne (I.inj b' b β _ g' ⟨_,h,by simp⟩ hlive h1 hb hg' rfl)
 ·intro b' hb' h;unfold updH at h;split at h
  ·cases h
  ·exact I.fresh b' hb' h
end
def Goes(P:Program)(o:Oper)(a:Act)(w:World)(K:Value→World→Prop):Prop :=
 (∃ v w',(execOp a.eval o).run P w = .ok (.value v) w'∧K v w')∨∃ w',(execOp a.eval o).run P w = .ok .skip w'∧K undef w'
theorem Goes.wp{P:Program}{o:Oper}{a:Act}{w:World}{K:Value→World→Prop}{next:Act→World→Prop}{Q:Exit→Act→World→Prop}
  (h:Goes P o a w K) (hn:∀ v w',K v w'→next (a.put o.dst v) w'):o.wp P a w next Q:=by
 rcases h with⟨v,w',h,k⟩ | ⟨w',h,k⟩
 ·simp only[Oper.wp,h,Oper.upon_value];exact hn v w' k
 ·simp only[Oper.wp,h,Oper.upon_skip];exact hn undef w' k
def Then(Ow:Own)(Im0:Nat→Prop)(w0:World)(ρ:Rho)(w:World)(Im:Nat→Prop)(clk:Nat)(H':Heap)(x:AV)(v:Value)(w':World):Prop :=
 ∃ ρ',Inv Ow Im0 w0 ρ' w' Im H' clk∧Ext Im w w'∧(∀ b β,ρ b=some β→ρ' b=some β)∧Rel ρ' w' Im x v
def cv1:Value→AV
 | .slice none 0 0=>.d (.sl 0 [])
 | v=>.d (.sc v)
def ZmP(l:List Value):Bool:=l.all (·.oneCell')
def cv:Value→AV
 | .agg cs=>if ZmP cs.toList then .ag (cs.toList.map cv1)else .any
 | .tuple _=>.any
 | v=>cv1 v
theorem Zjk(ρ:Rho)(w:World)(Im:Nat→Prop)(v:Value)(h:v.oneCell'=true):Rel ρ w Im (cv1 v) v:=by
 unfold cv1;split
 ·exact .d (.slNil 0 none 0)
 ·exact .d (.sc _ h)
theorem Z7b(ρ:Rho)(w:World)(Im:Nat→Prop)(v:Value):Rel ρ w Im (cv v) v:=by
 unfold cv;split
 ·rename_i cs;split
  ·rename_i h;simp only[ZmP,List.all_eq_true]at h;have h1:∀ (i:Nat) (u:Value),cs[i]? = some u→u.oneCell'=true:=fun i u hu=>h u (by
    have:=Array.mem_of_getElem? hu;simpa using this)
   refine .ag _ _ pq h1 fun i a u ha hu=>?_;have he:cs.toList[i]? = some u:=by simpa using hu
   simp only[List.getElem?_map,he,Option.map_some,Option.some.injEq]at ha;subst ha;exact Zjk ρ w Im u (h1 i u hu)
  ·exact .any _
 ·exact .any _
 ·rename_i h1 h2;exact Zjk ρ w Im v (by cases v<;>first | rfl | (exfalso;first | exact h1 _ rfl | exact h2 _ rfl))
def ev(tmps:List AV):Operand→AV
 | .tmp t=>tmps.getD t .any
 | .const v=>cv v
 | .global _=>.any
 | .func f=>.fn f []
theorem Z1x{ρ:Rho}{w:World}{Im:Nat→Prop}{tmps:List AV}{a:Act}(h:RelT ρ w Im tmps a)(x:Operand):Rel ρ w Im (ev tmps x) (a.eval x):=by
 cases x with
 | tmp t =>
  simp only[ev,Act.eval];by_cases ht:t<tmps.length
  ·have ht':t<a.tmps.size:=by rw[h.size];exact ht
   have h1:tmps[t]? = some (tmps.getD t .any):=by simp[List.getD,List.getElem?_eq_getElem ht]
   have h2:a.tmps[t]? = some (a.tmps.getD t undef):=by simp[Array.getD,ht']
   exact h.tmp t _ _ h1 h2
  ·rw[show tmps.getD t .any = .any from by simp[List.getD,List.getElem?_eq_none (Nat.le_of_not_lt ht)]];exact .any _
 | const v=>exact Z7b ρ w Im v
 | global g=>exact .any _
 | func f=>exact .fn pq pq
def strip:AV→AV
 | .gd _ a=>a
 | a=>a
inductive Hint where
 | br (b:Bool)
 | int (n:Int)
 | el (e:List DV)
 | els (l:List (List DV))
 | own
 | call (fr:Bool) (res:AV) (news:List Blk)
 | kill (res:AV)
 | bor (ls:List Nat) (res:AV) (post:List Blk)
def allP:List Prop→Prop
 | []=>True
 | [p]=>p
 | p::q::r=>p∧allP (q::r)
theorem allP_cons{p:Prop}{l:List Prop}:allP (p::l)↔p∧allP l:=by
 cases l<;>simp[allP]
theorem allP_append{l l':List Prop}:allP (l++l')↔allP l∧allP l':=by
 induction l with
 | nil=>simp[allP]
 | cons p l ih=>rw[List.cons_append,allP_cons,allP_cons,ih,and_assoc]
structure Res where
 val:AV
 up:Option (Nat×Blk)
 ph:List Prop
def Res.heap(r:Res)(H:Heap):Heap:=match r.up with | none=>H | some (k,B)=>updH H k B
def szOf(P:Program)(t:Nat):Nat:=match P.info? t with | some i=>i.size | none=>0
def zeroOf(P:Program)(t:Nat):Option Value:=match P.info? t with | some i=>i.zero | none=>none
def bytesOf(P:Program)(t:Nat):Nat:=match P.info? t with | some i=>i.bytes | none=>0
def Z6U(P:Program)(t:Nat):Option Bool:=match P.underlying t with | some (.struct _)=>some true | some (.array _ _)=>some true | some _=>some false | none=>none
abbrev Z2h(P:Program)(o:Oper)(id:Nat)(E:Operand→AV)(H:Heap)(r:Res):Prop :=
 ∀ (Ow:Own) (Im0:Nat→Prop) (w0:World) (ρ:Rho) (w:World) (Im:Nat→Prop) (clk:Nat) (a:Act),Inv Ow Im0 w0 ρ w Im H clk→clk*8000≤id→H id=none →
  (∀ x,Rel ρ w Im (E x) (a.eval x))→allP r.ph→Goes P o a w fun v w'=>Then Ow Im0 w0 ρ w Im clk (r.heap H) r.val v w'
theorem Then.same{Ow:Own}{Im0:Nat→Prop}{w0:World}{ρ:Rho}{w:World}{Im:Nat→Prop}{clk:Nat}{H:Heap}{x:AV}{v:Value}
  (I:Inv Ow Im0 w0 ρ w Im H clk) (h:Rel ρ w Im x v):Then Ow Im0 w0 ρ w Im clk H x v w:=⟨ρ,I,Ext.refl _ _,fun _ _ h=>h,h⟩
theorem Then.box{Ow:Own}{Im0:Nat→Prop}{w0:World}{ρ:Rho}{w:World}{Im:Nat→Prop}{clk:Nat}{H:Heap}{id ty:Nat}{x:AV}{v:Value}{l:List AV}
  (I:Inv Ow Im0 w0 ρ w Im H clk) (hid:clk*8000≤id) (hH:H id=none) (h:Rel ρ w Im x v) (hl:x.cells=some l) :
  Then Ow Im0 w0 ρ w Im clk (updH H id (.box ty l)) (.pt id 0 0) (.pointer (some ⟨w.heap.size,0,none⟩)) (w.alloc (.cells v.cells ty)):=by
 obtain⟨h1,h2,h3⟩:=h.cells hl;have hsub:=Z2c (β:=⟨some w.heap.size,l.length,1⟩) (I.fresh id hid hH);have he:=Ext.alloc Im w (.cells v.cells ty) I.imb;refine⟨updR ρ id ⟨some w.heap.size,l.length,1⟩,I.add id hid hH _ _ _ _ _ ?_,he,hsub, ?_⟩
 ·exact⟨rfl,rfl,w.heap.size,v.cells,rfl,heap_alloc_new _ _,h1,h3,fun o a u ha hu=>(h2 o a u ha hu).mono he (fun _ h=>h) hsub I.bnd⟩
 ·have:=Rel.pt (ρ:=updR ρ id ⟨some w.heap.size,l.length,1⟩) (w:=w.alloc (.cells v.cells ty)) (Im:=Im) (i:=0) (o:=0) (Z21 ρ id ⟨some w.heap.size,l.length,1⟩);simpa using this
def ZeT(x:AV):Res:=⟨x,none,[]⟩
theorem Zax{P:Program}{o:Oper}{id:Nat}{E:Operand→AV}{H:Heap}{x:Operand}(ho:o.op = .move x∨o.op = .assign x):Z2h P o id E H (ZeT (E x)):=by
 intro Ow Im0 w0 ρ w Im clk a I _ _ hE _;refine .inl ⟨a.eval x,w, ?_,.same I (hE x)⟩;rcases ho with ho | ho<;>simp[execOp,ho]
def Zk4(P:Program)(t id:Nat):Option Res:=match P.underlying t with | some (.slice e)=>some ⟨.ow id,some (id,.arr e (szOf P e) []),[]⟩ | _=>none
theorem ZiH{P:Program}{o:Oper}{id:Nat}{E:Operand→AV}{H:Heap}{r:Res}(ho:o.op = .assign (.const (.slice none 0 0)))(h:Zk4 P o.type id=some r):Z2h P o id E H r:=by
 intro Ow Im0 w0 ρ w Im clk a I hid hH _ _;unfold Zk4 at h;split at h
 ·rename_i e he;cases h;have hn:=I.fresh id hid hH;have hsub:=Z2c (β:=⟨none,szOf P e,0⟩) hn;refine .inl ⟨.slice none 0 0,w,by simp[execOp,ho,Act.eval],updR ρ id ⟨none,szOf P e,0⟩, ?_,Ext.refl _ _,hsub, ?_⟩
  ·refine⟨I.kept, ?_, ?_, ?_, ?_,I.imb,I.im0, ?_, ?_,Z8M I.one hid⟩
   ·intro b b' β β' g l1 l2 h1 h2 h3 h4;unfold updR at h1 h2;split at h1<;>split at h2
    ·omega
    ·cases h1;cases h3
    ·cases h2;cases h4
    ·exact I.inj b b' β β' g (Z1s l1 aa) (Z1s l2 aa) h1 h2 h3 h4
   ·intro b β g l h h';unfold updR at h;split at h
    ·cases h;cases h'
    ·exact I.notIm b β g (Z1s l aa) h h'
   ·intro b β g h h';unfold updR at h;split at h
    ·cases h;cases h'
    ·exact I.bnd b β g h h'
   ·intro b β g h h';unfold updR at h;split at h
    ·cases h;cases h'
    ·exact I.own b β g h h'
   ·intro b B h;simp only[Res.heap]at h;unfold updH at h;split at h
    ·cases h;rename_i hb;exact⟨_,by rw[hb];exact Z21 _ _ _,rfl,rfl,by simp[big],by simp,.inl ⟨rfl,rfl⟩⟩
    ·obtain⟨β,h1,h2⟩:=I.blk b B h;exact⟨β,hsub _ _ h1,h2.mono (Ext.refl _ _) (fun _ h=>h) hsub I.bnd (fun _ _=>rfl)⟩
   ·intro b hb h;simp only[Res.heap]at h;unfold updH at h;unfold updR;split
    ·rename_i hbi;simp[hbi]at h
    ·rename_i hbi;simp only[hbi,if_false]at h;exact I.fresh b hb h
  ·have:=Rel.ow (ρ:=updR ρ id ⟨none,szOf P e,0⟩) (w:=w) (Im:=Im) (c:=0) (a:=none) (Z21 ρ id ⟨none,szOf P e,0⟩) (Nat.le_refl _) (by simp[big]) (.inl rfl);exact this
 ·cases h
def Zbk(P:Program)(t id:Nat):Option Res:=match zeroOf P t with
 | some z=>match (cv z).cells with
  | some l=>some ⟨.pt id 0 0,some (id,.box t l),[]⟩
  | none=>none
 | none=>none
theorem Zes{P:Program}{o:Oper}{id t:Nat}{E:Operand→AV}{H:Heap}{r:Res}(ho:o.op = .alloc t)(h:Zbk P t id=some r):Z2h P o id E H r:=by
 intro Ow Im0 w0 ρ w Im clk a I hid hH _ _;unfold Zbk at h;split at h
 ·rename_i z hz;split at h
  ·rename_i l hl;cases h;refine .inl ⟨_,_, ?_,Then.box I hid hH (Z7b ρ w Im z) hl⟩;unfold zeroOf at hz;split at hz
   ·rename_i i hi;simp[execOp,ho,Instr.alloc,zeroValue,typeInfo,hi,hz,newVar,newRow]
   ·cases hz
  ·cases h
 ·cases h
def Zkc(t id:Nat)(x:AV):Option Res:=match x.cells with | some l=>some ⟨.pt id 0 0,some (id,.box t l),[]⟩ | none=>none
theorem ZhI{P:Program}{o:Oper}{id t:Nat}{E:Operand→AV}{H:Heap}{r:Res}{x:Operand}(ho:o.op = .box t x)(h:Zkc t id (E x)=some r):Z2h P o id E H r:=by
 intro Ow Im0 w0 ρ w Im clk a I hid hH hE _;unfold Zkc at h;split at h
 ·rename_i l hl;cases h;exact .inl ⟨_,_,by simp[execOp,ho,Instr.box,newVar,newRow],Then.box I hid hH (hE x) hl⟩
 ·cases h
def seg(l:List AV)(o k:Nat):List AV:=(l.drop o).take k
def Z9T(P:Program)(t:Nat)(l:List AV)(o:Nat):Option AV :=
 match Z6U P t with
 | some true=>if(seg l o (szOf P t)).length=szOf P t then some (.ag (seg l o (szOf P t)))else none
 | some false=>l[o]?
 | none=>none
theorem Z4Y{P:Program}{t:Nat}{b:Bool}(h:Z6U P t=some b)(w:World):(isAgg t).run P w = .ok b w:=by
 unfold Z6U at h;split at h
 ·rename_i fs hu;cases h;simp[isAgg,run_underlying hu]
 ·rename_i n e hu;cases h;simp[isAgg,run_underlying hu]
 ·rename_i d h1 h2 hu;cases h;simp only[isAgg,Sem.run_bind,run_underlying hu,Result.andThen_ok];cases d<;>first | rfl | (exfalso;first | exact h1 _ rfl | exact h2 _ _ rfl)
 ·cases h
theorem Z3U{P:Program}{t:Nat}{n:Nat}(h:szOf P t=n)(hn:n≠0)(w:World):(sizeOf t).run P w = .ok n w:=by
 unfold szOf at h;split at h
 ·rename_i i hi;subst h;simp[sizeOf,typeInfo,hi]
 ·omega
theorem Z4i{P:Program}{w:World}{t:Nat}{g off:Nat}{l:List AV}{o:Nat}{x:AV}{ρ:Rho}{Im:Nat→Prop}
  (hc:∀ (j:Nat) (a:AV),l[j]? = some a→∃ v,w.cell? ⟨g,off+j,none⟩=some v∧v.oneCell'=true∧Rel ρ w Im a v) (hx:Z9T P t l o=some x) :
  ∃ v,(loadVar t ⟨g,off+o,none⟩).run P w = .ok v w∧Rel ρ w Im x v:=by
 unfold Z9T at hx;split at hx
 ·rename_i hagg;split at hx
  ·rename_i hlen;cases hx;have hex:∀ j,j<szOf P t→∃ v,w.cell? ⟨g,off+o+j,none⟩=some v∧v.oneCell'=true∧∀ a,(seg l o (szOf P t))[j]? = some a→Rel ρ w Im a v:=by
    intro j hj;have h1:(seg l o (szOf P t))[j]? = l[o+j]? := by simp[seg,hj]
    have h2:j<(seg l o (szOf P t)).length:=by omega
    have h3:l[o+j]? = some (seg l o (szOf P t))[j]:=by rw[← h1];exact List.getElem?_eq_getElem h2
    obtain⟨v,k1,k2,k3⟩:=hc (o+j) _ h3;refine⟨v,by rw[Nat.add_assoc];exact k1,k2,fun a ha=>?_⟩;rw[h1,h3]at ha;cases ha;exact k3
   have hval:∀ j,j<szOf P t→w.cell? ((⟨g,off+o,none⟩:Addr).add j)=some ((w.cell? ⟨g,off+o+j,none⟩).getD undef):=by
    intro j hj;obtain⟨v,k1,_⟩:=hex j hj;rw[Addr.add_lit,k1];rfl
   have hrun:=run_loadCells (P:=P) w ⟨g,off+o,none⟩ (szOf P t) (fun j=>(w.cell? ⟨g,off+o+j,none⟩).getD undef) hval;refine⟨.agg _, ?_,.ag _ (((List.range (szOf P t)).map fun j=>(w.cell? ⟨g,off+o+j,none⟩).getD undef).toArray) ?_ ?_ ?_⟩
   ·have hs:(sizeOf t).run P w = .ok (szOf P t) w:=by
     unfold Z6U at hagg;unfold szOf;cases hi:P.info? t with
     | none=>simp[Program.underlying,hi]at hagg
     | some i=>simp[sizeOf,typeInfo,hi]
    simp[loadVar,Z4Y hagg,hs,hrun]
   ·simp[hlen]
   ·intro i v hv;simp only[List.getElem?_toArray,List.getElem?_map]at hv;by_cases hi:i<szOf P t
    ·obtain⟨u,k1,k2,_⟩:=hex i hi;simp[hi,k1]at hv;subst hv;exact k2
    ·simp[hi]at hv
   ·intro i a v ha hv;simp only[List.getElem?_toArray,List.getElem?_map]at hv;by_cases hi:i<szOf P t
    ·obtain⟨u,k1,_,k3⟩:=hex i hi;simp[hi,k1]at hv;subst hv;exact k3 a ha
    ·simp[hi]at hv
  ·cases hx
 ·rename_i hagg;obtain⟨v,k1,k2,k3⟩:=hc o x hx;exact⟨v,by simp[loadVar,Z4Y hagg,k1],k3⟩
 ·cases hx
def dvs(e:List DV):List AV:=e.map .d
def Z7i(P:Program)(t:Nat)(hs:List Hint)(x:AV)(H:Heap):Option Res :=
 match x with
 | .pt b i o=>match H b with
  | some (.box _ l)=>match i with
   | 0=>(Z9T P t l o).map fun x=>⟨x,none,[]⟩
   | _+1=>none
  | some (.arr _ _ els)=>match hs with
   | .el e::_=>(Z9T P t (dvs e) o).map fun x=>⟨x,none,[els[i]? = some e]⟩
   | _=>none
  | _=>none
 | .rp e o=>(Z9T P t (dvs e) o).map fun x=>⟨x,none,[]⟩
 | _=>none
theorem Z2J{ρ:Rho}{w:World}{Im:Nat→Prop}{b i o:Nat}{v:Value}(h:Rel ρ w Im (.pt b i o) v):∃ g s n,ρ b=some ⟨some g,s,n⟩∧v = .pointer (some ⟨g,i*s+o,none⟩):=by
 cases h;exact⟨_,_,_,aa,rfl⟩
theorem Zgn{P:Program}{t:Nat}{H:Heap}{r:Res}{x:AV}{xv:Value}{hs:List Hint}{Ow:Own}{Im0:Nat→Prop}{w0:World}{ρ:Rho}{w:World}{Im:Nat→Prop}{clk:Nat}
  (I:Inv Ow Im0 w0 ρ w Im H clk) (hx:Rel ρ w Im x xv) (h:Z7i P t hs x H=some r) (hph:allP r.ph):∃ p v,xv = .pointer (some p)∧(loadVar t p).run P w = .ok v w∧Rel ρ w Im r.val v∧r.up=none:=by
 have fin:∀ (g off oo:Nat) (l:List AV) (y:AV),xv = .pointer (some ⟨g,off+oo,none⟩)→Z9T P t l oo=some y →
   (∀ (j:Nat) (a:AV),l[j]? = some a→∃ v,w.cell? ⟨g,off+j,none⟩=some v∧v.oneCell'=true∧Rel ρ w Im a v) →
   ∃ p v,xv = .pointer (some p)∧(loadVar t p).run P w = .ok v w∧Rel ρ w Im y v∧(none:Option (Nat×Blk))=none:=by
  intro g off oo l y hv hp hc;obtain⟨v,k1,k2⟩:=Z4i hc hp;exact⟨_,v,hv,k1,k2,rfl⟩
 unfold Z7i at h;split at h
 ·rename_i b i oo;obtain⟨g,s,n,hρ,hv⟩:=Z2J hx;split at h
  ·rename_i ty l hb;split at h
   ·simp only[Option.map_eq_some_iff]at h;obtain⟨y,hy,rfl⟩:=h;obtain⟨β,h1,h2⟩:=I.blk b _ hb;rw[hρ]at h1;cases h1;obtain⟨_,_,g',cs,hg,hw,hsz,hone,hcell⟩:=h2;cases hg;refine fin g 0 oo l y (by simpa using hv) hy fun j a' ha=>?_;have hj:j<cs.size:=by rw[hsz];exact(List.getElem?_eq_some_iff.1 ha).1
    exact⟨cs[j],by simp[World.cell?,hw,hj],hone j _ (by simp[hj]),hcell j a' _ ha (by simp[hj])⟩
   ·cases h
  ·rename_i ty s' els hb;split at h
   ·rename_i e _;simp only[Option.map_eq_some_iff]at h;obtain⟨y,hy,rfl⟩:=h;have hel:els[i]? = some e:=by simpa[allP]using hph
    obtain⟨β,h1,h2⟩:=I.blk b _ hb;rw[hρ]at h1;cases h1;obtain⟨hs',hn',_,hlen,h3⟩:=h2;simp only at hs' hn';subst hs';rcases h3 with⟨h3,_⟩ | ⟨g',cs,hg,hw,hsz,hcell⟩
    ·cases h3
    cases hg;refine fin g (i*s) oo (dvs e) y hv hy fun j a' ha=>?_;simp only[dvs,List.getElem?_map,Option.map_eq_some_iff]at ha;obtain⟨d,hd,rfl⟩:=ha;obtain⟨v,k1,k2⟩:=hcell i e j d hel hd;have hj:i*s+j<cs.size:=(Array.getElem?_eq_some_iff.1 k1).1;exact⟨v,by simp[World.cell?,hw,k1],k2.one,.d k2⟩
   ·cases h
  ·cases h
 ·rename_i e oo;simp only[Option.map_eq_some_iff]at h;obtain⟨y,hy,rfl⟩:=h;cases hx with
  | rp hp him hc =>
   rename_i p;refine fin p.block p.off oo (dvs e) y rfl hy fun j a' ha=>?_;simp only[dvs,List.getElem?_map,Option.map_eq_some_iff]at ha;obtain⟨d,hd,rfl⟩:=ha;obtain⟨v,k1,k2⟩:=hc j d hd;exact⟨v,k1,k2.one,.d k2⟩
 ·cases h
theorem Zgw{P:Program}{o:Oper}{id t:Nat}{E:Operand→AV}{H:Heap}{r:Res}{x:Operand}{hs:List Hint}(ho:o.op = .load t x)(h:Z7i P t hs (E x) H=some r):Z2h P o id E H r:=by
 intro Ow Im0 w0 ρ w Im clk a I hid hH hE hph;obtain⟨p,v,h1,h2,h3,h4⟩:=Zgn I (hE x) h hph;have:r.heap H=H:=by simp[Res.heap,h4]
 rw[this];exact .inl ⟨v,w,by simp[execOp,ho,Instr.loadAt,Instr.sureAddr,h1,h2],.same I h3⟩
def splice(l:List AV)(o:Nat)(xs:List AV):List AV:=l.take o++xs++l.drop (o+xs.length)
def Z1w(l:List DV)(o:Nat)(xs:List DV):List DV:=l.take o++xs++l.drop (o+xs.length)
def undv:AV→Option DV
 | .d x=>some x
 | _=>none
def Zdy:List AV→Option (List DV)
 | []=>some []
 | a::l=>match undv a,Zdy l with
  | some x,some r=>some (x::r)
  | _,_=>none
theorem Z39:∀ {l:List AV} {e:List DV},Zdy l=some e→l=dvs e
 | [],e,h=>by simp[Zdy]at h;subst h;rfl
 | a::l,e,h=>by
  simp only[Zdy]at h;split at h
  ·rename_i x r hx hr;cases h;rw[Z39 hr];cases a<;>simp[undv]at hx;subst hx;rfl
  ·cases h
def Z8c(P:Program)(t:Nat)(hs:List Hint)(x y:AV)(H:Heap):Option Res :=
 match y.cells with
 | none=>none
 | some ys=>if ys.length=szOf P t then
  match x with
  | .pt b i o=>match H b with
   | some (.box ty l)=>match i with
    | 0=>if o+ys.length≤l.length then some ⟨.any,some (b,.box ty (splice l o ys)),[]⟩else none
    | _+1=>none
   | some (.arr ty s els)=>match Zdy ys with
    | some ds=>match hs with
     | .el e::.els l'::_=>if o+ds.length≤s then some ⟨.any,some (b,.arr ty s l'),[els[i]? = some e,els.set i (Z1w e o ds)=l']⟩else none
     | .el e::_=>if o+ds.length≤s then some ⟨.any,some (b,.arr ty s (els.set i (Z1w e o ds))),[els[i]? = some e]⟩else none
     | .els l'::_=>if o=0∧ds.length=s then some ⟨.any,some (b,.arr ty s l'),[i<els.length,els.set i ds=l']⟩else none
     | _=>if o=0∧ds.length=s then some ⟨.any,some (b,.arr ty s (els.set i ds)),[i<els.length]⟩else none
    | none=>none
   | _=>none
  | _=>none
  else none
theorem Z1c{α:Type}{l xs:List α}{o:Nat}(h:o+xs.length≤l.length):(l.take o++xs++l.drop (o+xs.length)).length=l.length:=by
 simp;omega
theorem Z2r{α:Type}{l xs:List α}{o:Nat}(h:o+xs.length≤l.length)(j:Nat) :
  (l.take o++xs++l.drop (o+xs.length))[j]? = if j<o then l[j]? else if j<o+xs.length then xs[j-o]? else l[j]? := by
 have e1:(l.take o).length=o:=by simp;omega
 by_cases h1:j<o
 ·simp only[h1,if_true,List.append_assoc];rw[List.getElem?_append_left oq,List.getElem?_take_of_lt h1]
 ·simp only[h1,if_false];by_cases h2:j<o+xs.length
  ·simp only[h2,if_true];rw[List.getElem?_append_left qo,List.getElem?_append_right oq,e1]
  ·simp only[h2,if_false];rw[List.getElem?_append_right qo,List.getElem?_drop];congr 1;simp;omega
theorem Z4J{P:Program}{w:World}{t g off:Nat}{cs:Array Value}{ty:Nat}{v:Value}(hg:w.heap[g]? = some (.cells cs ty (0,0)))
  (hsz:v.cells.size=szOf P t) (hinfo:(P.info? t).isSome=true) (hfit:off+v.cells.size≤cs.size) (hone:∀ (i:Nat) (u:Value),v.cells[i]? = some u→u.oneCell'=true) :
  (storeVar t ⟨g,off,none⟩ v).run P w = .ok () (w.setRow g (cs.toList.take off++v.cells.toList++cs.toList.drop (off+v.cells.toList.length)).toArray):=by
 obtain⟨i,hi⟩:=Option.isSome_iff_exists.1 hinfo;have hs:i.size=v.cells.size:=by unfold szOf at hsz;rw[hi]at hsz;exact hsz.symm
 have:=run_storeCells_at P g off ty v.cells.toList 0 cs w hg (by simpa using hfit) (fun u hu=>by
  obtain⟨k,hk⟩:=List.getElem?_of_mem hu;exact hone k u (by simpa using hk))
 simp only[Nat.add_zero]at this;simp[storeVar,sizeOf,typeInfo,hi,hs,this]
theorem Zae{P:Program}{o:Oper}{t:Nat}{x y:Operand}{Ow:Own}{Im0:Nat→Prop}{w0:World}{ρ:Rho}{w:World}{Im:Nat→Prop}{H:Heap}{clk:Nat}{a:Act}
  (ho:o.op = .store t x y) (I:Inv Ow Im0 w0 ρ w Im H clk) {b g s n off:Nat} {cs:Array Value} {ty:Nat} {B B':Blk} (hb:ρ b=some ⟨some g,s,n⟩) (hH:H b=some B) (hBd:B≠.dead)
  (hg:w.heap[g]? = some (.cells cs ty (0,0))) (hv:a.eval x = .pointer (some ⟨g,off,none⟩)) (hinfo:(P.info? t).isSome=true)
  (hsz:(a.eval y).cells.size=szOf P t) (hfit:off+(a.eval y).cells.size≤cs.size) (hone:∀ (i:Nat) (u:Value),(a.eval y).cells[i]? = some u→u.oneCell'=true)
  (hB:∀ w',Ext Im w w'→∀ cs':Array Value,w'.heap[g]? = some (.cells cs' ty (0,0))→cs'.size=cs.size →
   (∀ j,cs'[j]? = if j<off then cs[j]? else if j<off+(a.eval y).cells.size then(a.eval y).cells[j-off]? else cs[j]?)→RelB ρ w' Im ⟨some g,s,n⟩ B') :
  Goes P o a w fun v w'=>Then Ow Im0 w0 ρ w Im clk (updH H b B') .any v w':=by
 have hrun:=Z4J (P:=P) (t:=t) hg hsz hinfo hfit hone;have hl:off+(a.eval y).cells.toList.length≤cs.toList.length:=by simpa using hfit
 have hlen:((cs.toList.take off++(a.eval y).cells.toList++cs.toList.drop (off+(a.eval y).cells.toList.length)).toArray).size=cs.size:=by
  rw[List.size_toArray,Z1c hl];simp
 have hput:=I.put b g s n cs _ ty B' hb hg hlen ⟨B,hH,hBd⟩ (fun he=>hB _ he _ (setRow_heap w g cs _ ty _ hg) hlen (fun j=>by
  rw[List.getElem?_toArray,Z2r hl];simp))
 refine .inr ⟨_, ?_,ρ,hput.1,hput.2,fun _ _ h=>h,.any _⟩;simp[execOp,ho,Instr.storeAt,Instr.sureAddr,hv,hrun]
theorem Z7p{P:Program}{t:Nat}(h:szOf P t≠0):(P.info? t).isSome=true:=by
 unfold szOf at h;cases hi:P.info? t with
 | none=>simp[hi]at h
 | some i=>rfl
theorem ZdS{P:Program}{o:Oper}{id t:Nat}{E:Operand→AV}{H:Heap}{r:Res}{x y:Operand}{hs:List Hint}(ho:o.op = .store t x y)(hz:szOf P t≠0)
  (h:Z8c P t hs (E x) (E y) H=some r):Z2h P o id E H r:=by
 intro Ow Im0 w0 ρ w Im clk a I hid hH hE hph;have hx:=hE x;have hy:=hE y;unfold Z8c at h;split at h
 ·cases h
 rename_i ys hys;obtain⟨c1,c2,c3⟩:=hy.cells hys;split at h;rotate_left
 ·cases h
 rename_i hlen;have hsz:(a.eval y).cells.size=szOf P t:=by rw[c1,hlen]
 split at h;rotate_left
 ·cases h
 rename_i b i oo hE';rw[hE']at hx;obtain⟨g,s,n,hρ,hv⟩:=Z2J hx;split at h
 ·rename_i ty l hb;split at h;rotate_left
  ·cases h
  split at h;rotate_left
  ·cases h
  rename_i hfit;cases h;obtain⟨β,h1,h2⟩:=I.blk b _ hb;rw[hρ]at h1;cases h1;obtain⟨hs1,hn1,g',cs,hg,hw,hsz1,hone,hcell⟩:=h2;cases hg;refine Zae ho I hρ hb pq hw (off:=oo) (by simpa using hv) (Z7p hz) hsz (by rw[c1];omega) c3 fun w' he cs' hw' hsz' hget=>?_;refine⟨?_,hn1,g,cs',rfl,hw', ?_, ?_, ?_⟩
  ·simp only[splice];rw[Z1c hfit];exact hs1
  ·rw[hsz',hsz1];simp only[splice];rw[Z1c hfit]
  ·intro j u hu;rw[hget]at hu;split at hu
   ·exact hone j u hu
   ·split at hu
    ·exact c3 _ u hu
    ·exact hone j u hu
  ·intro j a' u ha hu;rw[hget]at hu;simp only[splice]at ha;rw[Z2r hfit]at ha;rw[c1]at hu;split at hu
   ·rename_i h1;simp only[h1,if_true]at ha;exact(hcell j a' u ha hu).mono he (fun _ h=>h) (fun _ _ h=>h) I.bnd
   ·rename_i h1;simp only[h1,if_false]at ha;split at hu
    ·rename_i h2;simp only[h2,if_true]at ha;exact(c2 _ a' u ha hu).mono he (fun _ h=>h) (fun _ _ h=>h) I.bnd
    ·rename_i h2;simp only[h2,if_false]at ha;exact(hcell j a' u ha hu).mono he (fun _ h=>h) (fun _ _ h=>h) I.bnd
 ·rename_i ty s' els hb;split at h;rotate_left
  ·cases h
  rename_i ds hds;have hyd:=Z39 hds;have hdl:ds.length=ys.length:=by rw[hyd];simp[dvs]
  obtain⟨β,h1,h2⟩:=I.blk b _ hb;rw[hρ]at h1;cases h1;obtain⟨hs1,hn1,hbig,hel,h3⟩:=h2;simp only at hs1 hn1;subst hs1;have fin:∀ (e':List DV),e'.length=s→i<els.length→oo+ys.length≤s→(∀ j,e'[j]? = if j<oo then(els[i]?.getD [])[j]? else if j<oo+ds.length then ds[j-oo]? else(els[i]?.getD [])[j]?) →
    Goes P o a w fun v w'=>Then Ow Im0 w0 ρ w Im clk (updH H b (.arr ty s (els.set i e'))) .any v w':=by
   intro e' hl' hi hfit hget';rcases h3 with⟨_,h3⟩ | ⟨g',cs,hg,hw,hsz1,hcell⟩
   ·subst h3;simp at hi
   cases hg;have hin:i*s+s≤cs.size:=by
    have:(i+1)*s≤els.length*s:=Nat.mul_le_mul_right s hi;rw[Nat.add_mul]at this;omega
   refine Zae ho I hρ hb pq hw (off:=i*s+oo) hv (Z7p hz) hsz (by rw[c1];omega) c3 fun w' he cs' hw' hsz' hget=>?_;refine⟨rfl,by simp[hn1],by simpa using hbig, ?_,.inr ⟨g,cs',rfl,hw',by rw[hsz'];simpa using hsz1, ?_⟩⟩
   ·intro e he';rcases List.mem_or_eq_of_mem_set he' with h | h
    ·exact hel e h
    ·rw[h];exact hl'
   ·intro k e j d hk hj;rw[List.getElem?_set]at hk;by_cases hki:i=k
    ·subst hki;simp only[if_true,hi]at hk;cases hk;have hjs:j<s:=by rw[← hl'];exact(List.getElem?_eq_some_iff.1 hj).1
     rw[hget']at hj;have hei:els[i]? = some (els[i]?.getD []):=by rw[List.getElem?_eq_getElem hi];rfl
     by_cases hj1:j<oo
     ·simp only[hj1,if_true]at hj;obtain⟨v,k1,k2⟩:=hcell i _ j d hei hj;exact⟨v,by rw[hget];simp[hj1,k1],k2.mono he (fun _ h=>h)⟩
     ·simp only[hj1,if_false]at hj;by_cases hj2:j<oo+ds.length
      ·simp only[hj2,if_true]at hj;have hyj:ys[j-oo]? = some (.d d):=by rw[hyd];simp[dvs,hj]
       have hcj:j-oo<(a.eval y).cells.size:=by rw[c1,← hdl];omega
       have hr:=c2 (j-oo) _ _ hyj (Array.getElem?_eq_getElem hcj);refine⟨_,by rw[hget,if_neg oq,if_pos (by rw[c1,← hdl];omega),show i*s+j-(i*s+oo)=j-oo from by omega];exact Array.getElem?_eq_getElem hcj, ?_⟩;cases hr with
       | d hr=>exact hr.mono he (fun _ h=>h)
      ·simp only[hj2,if_false]at hj;obtain⟨v,k1,k2⟩:=hcell i _ j d hei hj;exact⟨v,by rw[hget,if_neg oq,if_neg (by rw[c1,← hdl];omega)];exact k1,k2.mono he (fun _ h=>h)⟩
    ·simp only[hki,if_false]at hk;obtain⟨v,k1,k2⟩:=hcell k e j d hk hj;have hes:e.length=s:=hel e (List.mem_of_getElem? hk);have hjs:j<s:=by rw[← hes];exact(List.getElem?_eq_some_iff.1 hj).1
     refine⟨v, ?_,k2.mono he (fun _ h=>h)⟩;rw[hget];rcases Nat.lt_or_ge k i with hlt | hge
     ·have:(k+1)*s≤i*s:=Nat.mul_le_mul_right s hlt;rw[Nat.add_mul]at this;rw[if_pos oq];exact k1
     ·have:(i+1)*s≤k*s:=Nat.mul_le_mul_right s oq;rw[Nat.add_mul]at this;rw[if_neg oq,if_neg (by rw[c1];omega)];exact k1
  have whole:oo=0∧ds.length=s→i<els.length→Goes P o a w fun v w'=>Then Ow Im0 w0 ρ w Im clk (updH H b (.arr ty s (els.set i ds))) .any v w':=by
   rintro⟨rfl,hds'⟩ hi;refine fin ds hds' hi oq fun j=>?_;by_cases hj:j<ds.length
   ·simp[hj]
   ·simp only[Nat.not_lt_zero,if_false,Nat.zero_add,hj];rw[List.getElem?_eq_none oq];have:(els[i]?.getD []).length=s:=by rw[List.getElem?_eq_getElem hi];exact hel _ (List.getElem_mem hi)
    rw[List.getElem?_eq_none oq]
  have part:∀ e,els[i]? = some e→oo+ds.length≤s→Goes P o a w fun v w'=>Then Ow Im0 w0 ρ w Im clk (updH H b (.arr ty s (els.set i (Z1w e oo ds)))) .any v w':=by
   intro e he hfit;have hes:e.length=s:=hel e (List.mem_of_getElem? he);refine fin _ (by simp only[Z1w];rw[Z1c oq];exact hes) (List.getElem?_eq_some_iff.1 he).1 oq fun j=>?_;simp only[Z1w];rw[Z2r oq,he];rfl
  split at h
  ·rename_i e l' _;split at h
   ·cases h;obtain⟨p1,p2⟩:els[i]? = some e∧els.set i (Z1w e oo ds)=l':=by simpa[allP]using hph
    rw[Res.heap,← p2];exact part e p1 aa
   ·cases h
  ·rename_i e _ _;split at h
   ·cases h;exact part e (by simpa[allP]using hph) aa
   ·cases h
  ·rename_i l' _;split at h
   ·cases h;obtain⟨p1,p2⟩:i<els.length∧els.set i ds=l':=by simpa[allP]using hph
    rw[Res.heap,← p2];exact whole aa p1
   ·cases h
  ·split at h
   ·cases h;exact whole aa (by simpa[allP]using hph)
   ·cases h
 ·cases h
def numR(k:IntKind)(n:Int)(ps:List Prop):List Hint→Res
 | .int m::_=>⟨.d (.sc (.int k m)),none,(n=m)::ps⟩
 | _=>⟨.d (.sc (.int k n)),none,ps⟩
def Z4M(b:Bool):List Hint→Res
 | .br c::_=>⟨.d (.sc (.bool c)),none,[b=c]⟩
 | _=>⟨.d (.sc (.bool b)),none,[]⟩
theorem Z1G{P:Program}{o:Oper}{id:Nat}{E:Operand→AV}{H:Heap}{k:IntKind}{n:Int}{ps:List Prop}{hs:List Hint}
  (h:∀ (ρ:Rho) (w:World) (Im:Nat→Prop) (a:Act),(∀ x,Rel ρ w Im (E x) (a.eval x))→allP ps→(execOp a.eval o).run P w = .ok (.value (.int k n)) w):Z2h P o id E H (numR k n ps hs):=by
 intro Ow Im0 w0 ρ w Im clk a I _ _ hE hph;unfold numR at hph ⊢;split at hph
 ·rename_i m _;obtain⟨rfl,h2⟩:=allP_cons.1 hph;exact .inl ⟨_,w,h ρ w Im a hE h2,.same I (.d (.sc _ rfl))⟩
 ·exact .inl ⟨_,w,h ρ w Im a hE hph,.same I (.d (.sc _ rfl))⟩
theorem Z30{P:Program}{o:Oper}{id:Nat}{E:Operand→AV}{H:Heap}{b:Bool}{hs:List Hint}
  (h:∀ (ρ:Rho) (w:World) (Im:Nat→Prop) (a:Act),(∀ x,Rel ρ w Im (E x) (a.eval x))→(execOp a.eval o).run P w = .ok (.value (.bool b)) w):Z2h P o id E H (Z4M b hs):=by
 intro Ow Im0 w0 ρ w Im clk a I _ _ hE hph;unfold Z4M at hph ⊢;split at hph
 ·rename_i m _;obtain rfl:b=m:=by simpa[allP]using hph
  exact .inl ⟨_,w,h ρ w Im a hE,.same I (.d (.sc _ rfl))⟩
 ·exact .inl ⟨_,w,h ρ w Im a hE,.same I (.d (.sc _ rfl))⟩
def ikEq:IntKind→IntKind→Bool
 | .i8,.i8 | .i16,.i16 | .i32,.i32 | .i64,.i64 | .u8,.u8 | .u16,.u16 | .u32,.u32 | .u64,.u64=>true
 | _,_=>false
theorem Zeu{k k':IntKind}(h:ikEq k k'=true):k=k':=by cases k<;>cases k'<;>first | rfl | simp[ikEq]at h
def ZhR(op:BinOp)(k:IntKind)(a:Int)(k':IntKind)(b:Int)(hs:List Hint):Option Res :=
 match op with
 | .shl=>some (numR k (k.wrap (a*2^(min b.toNat k.bits))) [0≤b] hs)
 | .shr=>some (numR k (a.fdiv (2^(min b.toNat k.bits))) [0≤b] hs)
 | op=>if ikEq k k' then
  match op with
  | .add=>some (numR k (k.wrap (a+b)) [] hs)
  | .sub=>some (numR k (k.wrap (a-b)) [] hs)
  | .mul=>some (numR k (k.wrap (a*b)) [] hs)
  | .quo=>some (numR k (k.wrap (a.tdiv b)) [b≠0] hs)
  | .rem=>some (numR k (a.tmod b) [b≠0] hs)
  | .and=>some (numR k (bits .and k a b) [] hs)
  | .or=>some (numR k (bits .or k a b) [] hs)
  | .xor=>some (numR k (bits .xor k a b) [] hs)
  | .andNot=>some (numR k (bits .andNot k a b) [] hs)
  | .eql=>some (Z4M (a==b) hs)
  | .neq=>some (Z4M (a != b) hs)
  | .lss=>some (Z4M (decide (a<b)) hs)
  | .leq=>some (Z4M (decide (a≤b)) hs)
  | .gtr=>some (Z4M (decide (b<a)) hs)
  | .geq=>some (Z4M (decide (b≤a)) hs)
  | _=>none
  else none
theorem Z10{ρ:Rho}{w:World}{Im:Nat→Prop}{u v:Value}(h:Rel ρ w Im (.d (.sc u)) v):v=u:=by
 cases h with
 | d h=>cases h;rfl
theorem ZjN{P:Program}{o:Oper}{id:Nat}{E:Operand→AV}{H:Heap}{r:Res}{x y:Operand}{op:BinOp}{t t':Nat}{k k':IntKind}{m n:Int}{hs:List Hint}
  (ho:o.op = .binOp op t x y t') (hx:E x = .d (.sc (.int k m))) (hy:E y = .d (.sc (.int k' n))) (h:ZhR op k m k' n hs=some r):Z2h P o id E H r:=by
 have base:∀ (ρ:Rho) (w:World) (Im:Nat→Prop) (a:Act),(∀ x,Rel ρ w Im (E x) (a.eval x)) →
   (execOp a.eval o).run P w=((binOp op t (.int k m) (.int k' n)).run P w).andThen fun v w=>.ok (.value v) w:=by
  intro ρ w Im a hE;have h1:=Z10 (hx▸hE x);have h2:=Z10 (hy▸hE y);simp[execOp,ho,h1,h2,eqGuard_at_int]
 unfold ZhR at h;split at h
 ·cases h;refine Z1G fun ρ w Im a hE hp=>?_;have hp':0≤n:=by simpa[allP]using hp
  rw[base ρ w Im a hE];simp[binOp_shl,Op.shift,show ¬ n<0 from by omega]
 ·cases h;refine Z1G fun ρ w Im a hE hp=>?_;have hp':0≤n:=by simpa[allP]using hp
  rw[base ρ w Im a hE];simp[binOp_shr,Op.shift,show ¬ n<0 from by omega]
 ·split at h
  ·rename_i hk;obtain rfl:=Zeu hk;split at h<;>first | (cases h;done) | cases h
   ·exact Z1G fun ρ w Im a hE _=>by rw[base ρ w Im a hE];simp[binOp_add,Op.intArith]
   ·exact Z1G fun ρ w Im a hE _=>by rw[base ρ w Im a hE];simp[binOp_sub,Op.intArith]
   ·exact Z1G fun ρ w Im a hE _=>by rw[base ρ w Im a hE];simp[binOp_mul,Op.intArith]
   ·exact Z1G fun ρ w Im a hE hp=>by
     have hp':n≠0:=by simpa[allP]using hp
     rw[base ρ w Im a hE];simp[binOp_quo,Op.intDiv,hp']
   ·exact Z1G fun ρ w Im a hE hp=>by
     have hp':n≠0:=by simpa[allP]using hp
     rw[base ρ w Im a hE];simp[binOp_rem,Op.intDiv,hp']
   ·exact Z1G fun ρ w Im a hE _=>by rw[base ρ w Im a hE];simp[binOp_and,intBits_and]
   ·exact Z1G fun ρ w Im a hE _=>by rw[base ρ w Im a hE];simp[binOp_or,intBits_or]
   ·exact Z1G fun ρ w Im a hE _=>by rw[base ρ w Im a hE];simp[binOp_xor,intBits_xor]
   ·exact Z1G fun ρ w Im a hE _=>by rw[base ρ w Im a hE];simp[binOp_andNot,intBits_andNot]
   ·exact Z30 fun ρ w Im a hE=>by rw[base ρ w Im a hE];simp[binOp_eql]
   ·exact Z30 fun ρ w Im a hE=>by rw[base ρ w Im a hE];simp[binOp_neq]
   ·exact Z30 fun ρ w Im a hE=>by rw[base ρ w Im a hE];simp[binOp_lss]
   ·exact Z30 fun ρ w Im a hE=>by rw[base ρ w Im a hE];simp[binOp_leq]
   ·exact Z30 fun ρ w Im a hE=>by rw[base ρ w Im a hE];simp[binOp_gtr]
   ·exact Z30 fun ρ w Im a hE=>by rw[base ρ w Im a hE];simp[binOp_geq]
  ·cases h
def Z55(P:Program)(t:Nat):Bool:=match P.underlying t with | some .bool=>true | _=>false
def Z4f(P:Program)(t:Nat):Bool:=match P.underlying t with | some (.int _)=>true | _=>false
def Z4x(P:Program):Nat→List Field→Bool
 | _,[]=>true
 | n,f::fs=>(f.offset==n&&!(f.name == "_")&&(Z4f P f.type||Z55 P f.type))&&Z4x P (n+1) fs
def eqV1:Value→Value→Option Bool
 | .int k a,.int k' b=>if ikEq k k' then some (a==b)else none
 | .bool a,.bool b=>some (a==b)
 | _,_=>none
def Z7U:List Value→List Value→Option Bool
 | [],_=>none
 | _::_,[]=>none
 | x::xs,y::ys=>match xs,ys with
  | [],[]=>eqV1 x y
  | xs,ys=>match eqV1 x y,Z7U xs ys with
   | some b,some r=>some (b&&r)
   | _,_=>none
def unsc:AV→Option Value
 | .d (.sc v)=>some v
 | _=>none
def ZgT:List AV→Option (List Value)
 | []=>some []
 | a::l=>match unsc a,ZgT l with
  | some x,some r=>some (x::r)
  | _,_=>none
theorem Z7q:∀ {l:List AV} {e:List Value},ZgT l=some e→l=e.map fun v=>.d (.sc v)
 | [],e,h=>by simp[ZgT]at h;subst h;rfl
 | a::l,e,h=>by
  simp only[ZgT]at h;split at h
  ·rename_i x r hx hr;cases h;rw[Z7q hr];have:a = .d (.sc x):=by
    unfold unsc at hx;split at hx
    ·cases hx;rfl
    ·cases hx
   rw[this];rfl
  ·cases h
theorem Zkp{P:Program}{w:World}{t d:Nat}{x y:Value}{b:Bool}(ht:(Z4f P t||Z55 P t)=true)(h:eqV1 x y=some b)
  (hk:(Z4f P t=true→∃ k n,x = .int k n)∧(Z4f P t=false→∃ b,x = .bool b)):(Op.equalIn (d+1) t x y).run P w = .ok b w:=by
 unfold eqV1 at h;split at h
 ·split at h
  ·rename_i hik;obtain rfl:=Zeu hik;cases h;cases hi:Z4f P t with
   | true =>
    unfold Z4f at hi;split at hi
    ·exact run_equalIn_int w d t _ _ _ _ aa
    ·cases hi
   | false =>
    obtain⟨b,hb⟩:=hk.2 hi;cases hb
  ·cases h
 ·cases h;cases hi:Z4f P t with
  | true=>obtain⟨k,n,hb⟩:=hk.1 hi;cases hb
  | false =>
   simp only[hi,Bool.false_or]at ht;unfold Z55 at ht;split at ht
   ·exact run_equalIn_bool' w d t _ _ aa
   ·cases ht
 ·cases h
def Z5p(P:Program):List Field→List Value→Bool
 | f::fs,v::vs=>(match v with | .int _ _=>Z4f P f.type | .bool _=>Z55 P f.type&&!Z4f P f.type | _=>false)&&Z5p P fs vs
 | [],[]=>true
 | _,_=>false
theorem Zcx{P:Program}{w:World}{t n:Nat}{cs:Array Value}{v:Value}(ht:(Z4f P t||Z55 P t)=true)(h:cs[n]? = some v):(part t cs n).run P w = .ok v w:=by
 have hagg:Z6U P t=some false:=by
  unfold Z6U;unfold Z4f Z55 at ht;cases hu:P.underlying t with
  | none=>simp[hu]at ht
  | some d=>cases d<;>simp_all
 simp[part,Z4Y hagg,h]
theorem Zaw{P:Program}{w:World}{d:Nat}{cs cs':Array Value}:∀ {fs:List Field} {xs ys:List Value} {n:Nat} {b:Bool},Z4x P n fs=true→Z5p P fs xs=true→Z7U xs ys=some b →
  (∀ j v,xs[j]? = some v→cs[n+j]? = some v)→(∀ j v,ys[j]? = some v→cs'[n+j]? = some v)→(Op.eqFields (d+1) cs cs' fs).run P w = .ok b w
 | [],xs,ys,n,b,_,hk,he,_,_=>by
  cases xs with
  | nil=>simp[Z7U]at he
  | cons x xs=>simp[Z5p]at hk
 | f::fs,xs,ys,n,b,hp,hk,he,hx,hy=>by
  cases xs with
  | nil=>simp[Z7U]at he
  | cons x xs =>
   cases ys with
   | nil=>simp[Z7U]at he
   | cons y ys =>
    simp only[Z4x,Bool.and_eq_true,beq_iff_eq,Bool.not_eq_true',beq_eq_false_iff_ne]at hp;obtain⟨⟨⟨hoff,hname⟩,hty⟩,hrest⟩:=hp;simp only[Z5p,Bool.and_eq_true]at hk;obtain⟨hk1,hk2⟩:=hk;have px:=Zcx (P:=P) (w:=w) (t:=f.type) (n:=f.offset) (cs:=cs) (v:=x) hty (by rw[hoff];exact hx 0 x rfl);have py:=Zcx (P:=P) (w:=w) (t:=f.type) (n:=f.offset) (cs:=cs') (v:=y) hty (by rw[hoff];exact hy 0 y rfl);have hkx:(Z4f P f.type=true→∃ k n,x = .int k n)∧(Z4f P f.type=false→∃ b,x = .bool b):=by
     cases x<;>simp_all
    have one:∀ b1,eqV1 x y=some b1→(Op.eqFields (d+1) cs cs' (f::fs)).run P w=if b1 then(Op.eqFields (d+1) cs cs' fs).run P w else .ok false w:=by
     intro b1 h1;simp only[Op.eqFields];rw[if_pos hname];simp only[Sem.run_bind,px,py,Result.andThen_ok,Zkp hty h1 hkx];cases b1<;>simp
    have tail:∀ r,Z7U xs ys=some r→(Op.eqFields (d+1) cs cs' fs).run P w = .ok r w:=fun r hr =>
     Zaw hrest hk2 hr (fun j v hv=>by have:=hx (j+1) v (by simpa using hv);rw[← this];congr 1;omega) (fun j v hv=>by have:=hy (j+1) v (by simpa using hv);rw[← this];congr 1;omega)
    unfold Z7U at he;split at he
    ·rw[one b he];have hfs:fs=[]:=by
      cases fs with
      | nil=>rfl
      | cons _ _=>simp[Z5p]at hk2
     subst hfs;cases b<;>simp[Op.eqFields]
    ·split at he
     ·rename_i b1 r h1 h2;cases he;rw[one b1 h1,tail r h2];cases b1<;>simp
     ·cases he
def Z40(P:Program)(t:Nat):List Field:=match P.underlying t with | some (.struct fs)=>fs.toList | _=>[]
def eqOk(P:Program)(t:Nat):Bool:=Z4x P 0 (Z40 P t)&&!(P.stoodInHeld t)&&!(P.eqGuardType P.depth t)&&(match P.underlying t with | some (.struct _)=>true | _=>false)
def Zc7(P:Program)(neg:Bool)(t:Nat)(l l':List AV)(hs:List Hint):Option Res :=
 match ZgT l,ZgT l' with
 | some xs,some ys=>if eqOk P t&&Z5p P (Z40 P t) xs then
  match Z7U xs ys with
  | some b=>some (Z4M (if neg then !b else b) hs)
  | none=>none
  else none
 | _,_=>none
theorem Z3u{ρ:Rho}{w:World}{Im:Nat→Prop}{l:List AV}{v:Value}(h:Rel ρ w Im (.ag l) v):∃ cs,v = .agg cs∧cs.size=l.length∧(∀ (i:Nat) (u:Value),cs[i]? = some u→u.oneCell'=true)∧∀ (i:Nat) (a:AV) (u:Value),l[i]? = some a→cs[i]? = some u→Rel ρ w Im a u:=by
 cases h with
 | ag _ cs h1 h2 h3=>exact⟨cs,rfl,h1,h2,h3⟩
theorem ZaS{P:Program}{o:Oper}{id:Nat}{E:Operand→AV}{H:Heap}{r:Res}{x y:Operand}{neg:Bool}{t t':Nat}{l l':List AV}{hs:List Hint}
  (ho:o.op = .binOp (if neg then .neq else .eql) t x y t') (hx:E x = .ag l) (hy:E y = .ag l') (h:Zc7 P neg t l l' hs=some r):Z2h P o id E H r:=by
 unfold Zc7 at h;split at h;rotate_left
 ·cases h
 rename_i xs ys hxs hys;split at h;rotate_left
 ·cases h
 rename_i hok;split at h;rotate_left
 ·cases h
 rename_i b hb;cases h;have e1:=Z7q hxs;have e2:=Z7q hys;simp only[eqOk,Bool.and_eq_true,Bool.not_eq_true']at hok;obtain⟨⟨⟨⟨h1,h2⟩,h3⟩,h4⟩,h5⟩:=hok;refine Z30 fun ρ w Im a hE=>?_;obtain⟨cs,hv,hn,_,hc⟩:=Z3u (hx▸hE x);obtain⟨cs',hv',hn',_,hc'⟩:=Z3u (hy▸hE y);have hst:P.underlying t=some (.struct (P.fieldsOf t)):=by
  unfold Program.fieldsOf;split at h4
  ·rename_i fs hfs;rw[hfs]
  ·cases h4
 have hfs:Z40 P t=(P.fieldsOf t).toList:=by unfold Z40;rw[hst]
 have key:∀ (cs:Array Value) (xs:List Value) (l:List AV),l=xs.map (fun v=>AV.d (.sc v))→cs.size=l.length→(∀ (i:Nat) (a:AV) (u:Value),l[i]? = some a→cs[i]? = some u→Rel ρ w Im a u) →
   ∀ j v,xs[j]? = some v→cs[0+j]? = some v:=by
  intro cs xs l hl hn hc j v hj;have hlj:l[j]? = some (.d (.sc v)):=by rw[hl];simp[hj]
  have hjl:j<cs.size:=by rw[hn];exact(List.getElem?_eq_some_iff.1 hlj).1
  have:=Z10 (hc j _ _ hlj (Array.getElem?_eq_getElem hjl));rw[Nat.zero_add,Array.getElem?_eq_getElem hjl,this]
 have hrun:=Zaw (P:=P) (w:=w) (d:=9998) (cs:=cs) (cs':=cs') h1 h5 hb (key cs xs l e1 hn hc) (key cs' ys l' e2 hn' hc');have heq:(Op.equalIn 10000 t (.agg cs) (.agg cs')).run P w = .ok b w:=by
  rw[run_equalIn_struct (P:=P) w 9999 t cs cs' hst h2,← hfs];exact hrun
 cases neg with
 | false =>
  simp only[Bool.false_eq_true,if_false]at ho ⊢;simp[execOp,ho,hv,hv',run_eqGuard_agg (P:=P) w .eql t x y cs cs' h3,run_eql_struct,heq]
 | true =>
  simp only[if_true]at ho ⊢;simp[execOp,ho,hv,hv',run_eqGuard_agg (P:=P) w .neq t x y cs cs' h3,run_neq_struct,heq]
def Z78(P:Program)(neg:Bool)(t:Nat)(a b:Bool)(hs:List Hint):Option Res:=if Z55 P t then some (Z4M (if neg then !(a==b)else a==b) hs)else none
theorem Z7H{P:Program}{o:Oper}{id:Nat}{E:Operand→AV}{H:Heap}{r:Res}{x y:Operand}{neg:Bool}{t t':Nat}{p q:Bool}{hs:List Hint}
  (ho:o.op = .binOp (if neg then .neq else .eql) t x y t') (hx:E x = .d (.sc (.bool p))) (hy:E y = .d (.sc (.bool q))) (h:Z78 P neg t p q hs=some r):Z2h P o id E H r:=by
 unfold Z78 at h;split at h
 ·rename_i ht;cases h;refine Z30 fun ρ w Im a hE=>?_;have h1:=Z10 (hx▸hE x);have h2:=Z10 (hy▸hE y);have hu:P.underlying t=some .bool:=by
   unfold Z55 at ht;split at ht
   ·assumption
   ·cases ht
  have heq:(Op.equalIn 10000 t (.bool p) (.bool q)).run P w = .ok (p==q) w:=run_equalIn_bool' w 9999 t p q hu;cases neg with
  | false =>
   simp only[Bool.false_eq_true,if_false]at ho ⊢;simp[execOp,ho,h1,h2,eqGuard_at_bool,binOp,Op.equal,Op.maxDepth,heq]
  | true =>
   simp only[if_true]at ho ⊢;simp[execOp,ho,h1,h2,eqGuard_at_bool,binOp,Op.equal,Op.maxDepth,heq]
 ·cases h
def ZjS(P:Program)(op:BinOp)(t:Nat)(hs:List Hint)(x y:AV):Option Res :=
 match x,y with
 | .d (.sc (.int k a)),.d (.sc (.int k' b))=>ZhR op k a k' b hs
 | .d (.sc (.bool a)),.d (.sc (.bool b))=>match op with
  | .eql=>Z78 P false t a b hs
  | .neq=>Z78 P true t a b hs
  | _=>none
 | .ag l,.ag l'=>match op with
  | .eql=>Zc7 P false t l l' hs
  | .neq=>Zc7 P true t l l' hs
  | _=>none
 | _,_=>none
theorem Zk5{P:Program}{o:Oper}{id:Nat}{E:Operand→AV}{H:Heap}{r:Res}{x y:Operand}{op:BinOp}{t t':Nat}{hs:List Hint}
  (ho:o.op = .binOp op t x y t') (h:ZjS P op t hs (E x) (E y)=some r):Z2h P o id E H r:=by
 unfold ZjS at h;split at h
 ·exact ZjN ho aa aa h
 ·split at h
  ·exact Z7H (neg:=false) ho aa aa h
  ·exact Z7H (neg:=true) ho aa aa h
  ·cases h
 ·split at h
  ·exact ZaS (neg:=false) ho aa aa h
  ·exact ZaS (neg:=true) ho aa aa h
  ·cases h
 ·cases h
def Z7Y(P:Program)(t:Nat):Bool:=match P.underlying t with | some (.slice _)=>true | _=>false
def Zfs(P:Program)(neg:Bool)(t:Nat)(x:AV):Option Res:=match x,Z7Y P t with
 | .d (.sl _ els),true=>some ⟨.d (.sc (.bool neg)),none,[els≠[]]⟩
 | .d (.sc (.slice none _ _)),true=>some ⟨.d (.sc (.bool (!neg))),none,[]⟩
 | .d (.sc (.slice (some _) _ _)),true=>some ⟨.d (.sc (.bool neg)),none,[]⟩
 | _,_=>none
theorem Z9w{P:Program}{w:World}(d:Nat){t e:Nat}(hu:P.underlying t=some (.slice e))(p:Option Addr)(m k n c:Nat):(Op.equalIn (d+1) t (.slice p m k) (.slice none n c)).run P w = .ok p.isNone w:=by
 cases p<;>simp[Op.equalIn,run_underlying hu]
theorem isSlice{P:Program}{t:Nat}(h:Z7Y P t=true):∃ e,P.underlying t=some (.slice e):=by
 unfold Z7Y at h;split at h
 ·exact⟨_,aa⟩
 ·cases h
theorem ZdZ{P:Program}{w:World}{a:Act}{o:Oper}{x:Operand}{neg:Bool}{t t' n c m k:Nat}{p:Option Addr}(ho:o.op = .binOp (if neg then .neq else .eql) t x (.const (.slice none n c)) t')
  (ht:Z7Y P t=true) (hv:a.eval x = .slice p m k):(execOp a.eval o).run P w = .ok (.value (.bool (if neg then !p.isNone else p.isNone))) w:=by
 obtain⟨e,hu⟩:=isSlice ht;have heq:(Op.equalIn 10000 t (.slice p m k) (.slice none n c)).run P w = .ok p.isNone w:=Z9w 9999 hu p m k n c;have h2:a.eval (.const (.slice none n c)) = .slice none n c:=rfl;cases neg with
 | false =>
  simp only[Bool.false_eq_true,if_false]at ho ⊢;simp[execOp,ho,hv,h2,eqGuard_at_slice,binOp,Op.equal,Op.maxDepth,heq]
 | true =>
  simp only[if_true]at ho ⊢;simp[execOp,ho,hv,h2,eqGuard_at_slice,binOp,Op.equal,Op.maxDepth,heq]
theorem Zd1{P:Program}{o:Oper}{id:Nat}{E:Operand→AV}{H:Heap}{r:Res}{x:Operand}{neg:Bool}{t t' n c:Nat}
  (ho:o.op = .binOp (if neg then .neq else .eql) t x (.const (.slice none n c)) t') (h:Zfs P neg t (E x)=some r):Z2h P o id E H r:=by
 unfold Zfs at h;intro Ow Im0 w0 ρ w Im clk a I _ _ hE hph;have h1:=hE x;generalize hv:a.eval x=v at h1;split at h
 ·rename_i els hx ht;cases h;have hne:els≠[]:=by simpa[allP]using hph
  rw[hx]at h1;cases h1 with
  | d h1 =>
   cases h1 with
   | slNil=>exact absurd rfl hne
   | sl s' els' p m k f=>exact .inl ⟨.bool neg,w,by rw[ZdZ ho ht hv];cases neg<;>rfl,.same I (.d (.sc _ rfl))⟩
 ·rename_i hx ht;cases h;rw[hx]at h1;have h2:=Z10 h1;exact .inl ⟨.bool (!neg),w,by rw[ZdZ ho ht (hv.trans h2)];cases neg<;>rfl,.same I (.d (.sc _ rfl))⟩
 ·rename_i hx ht;cases h;rw[hx]at h1;have h2:=Z10 h1;exact .inl ⟨.bool neg,w,by rw[ZdZ ho ht (hv.trans h2)];cases neg<;>rfl,.same I (.d (.sc _ rfl))⟩
 ·cases h
def Zc8(P:Program)(t:Nat):Bool:=match P.underlying t with | some (.interface _)=>true | _=>false
def Zb8(P:Program)(neg:Bool)(t:Nat)(x:AV):Option Res:=match x,Zc8 P t with
 | .ic _ _,true=>some ⟨.d (.sc (.bool neg)),none,[]⟩
 | .d (.sc .nilIface),true=>some ⟨.d (.sc (.bool (!neg))),none,[]⟩
 | _,_=>none
theorem isIface{P:Program}{t:Nat}(h:Zc8 P t=true):∃ m,P.underlying t=some (.interface m):=by
 unfold Zc8 at h;split at h
 ·exact⟨_,aa⟩
 ·cases h
theorem Zcd{P:Program}{w:World}(d:Nat){t u:Nat}{m:Array (String×TypeId)}(v:Value)(hu:P.underlying t=some (.interface m)):(Op.equalIn (d+1) t (.iface u v) .nilIface).run P w = .ok false w:=by
 simp[Op.equalIn,run_underlying hu]
theorem Z9W{P:Program}{w:World}(d:Nat){t:Nat}{m:Array (String×TypeId)}(hu:P.underlying t=some (.interface m)):(Op.equalIn (d+1) t .nilIface .nilIface).run P w = .ok true w:=by
 simp[Op.equalIn,run_underlying hu]
theorem Zb1{P:Program}{o:Oper}{id:Nat}{E:Operand→AV}{H:Heap}{r:Res}{x:Operand}{neg:Bool}{t t':Nat}
  (ho:o.op = .binOp (if neg then .neq else .eql) t x (.const .nilIface) t') (h:Zb8 P neg t (E x)=some r):Z2h P o id E H r:=by
 unfold Zb8 at h;have e2:∀ a:Act,a.eval (.const .nilIface) = .nilIface:=fun _=>rfl;split at h
 ·rename_i u b hx ht;cases h;obtain⟨m,hu⟩:=isIface ht;intro Ow Im0 w0 ρ w Im clk a I _ _ hE hph;have h1:=hE x;rw[hx]at h1;generalize hv:a.eval x=v at h1;cases h1 with
  | @ic _ _ v1 h1 =>
   have heq:(Op.equalIn 10000 t (.iface u v1) .nilIface).run P w = .ok false w:=Zcd 9999 v1 hu;refine .inl ⟨.bool neg,w, ?_,.same I (.d (.sc _ rfl))⟩;cases neg<;>simp only[Bool.false_eq_true,if_false,if_true]at ho ⊢ <;> simp[execOp,ho,hv,e2,eqGuard_at_iface,binOp,Op.equal,Op.maxDepth,heq]
 ·rename_i hx ht;cases h;obtain⟨m,hu⟩:=isIface ht;intro Ow Im0 w0 ρ w Im clk a I _ _ hE hph;have h1:=Z10 (hx▸hE x);have heq:(Op.equalIn 10000 t .nilIface .nilIface).run P w = .ok true w:=Z9W 9999 hu;refine .inl ⟨.bool (!neg),w, ?_,.same I (.d (.sc _ rfl))⟩;cases neg<;>simp only[Bool.false_eq_true,if_false,if_true]at ho ⊢ <;> simp[execOp,ho,h1,e2,eqGuard,binOp,Op.equal,Op.maxDepth,heq]
 ·cases h
def Ze8(P:Program)(op:BinOp)(t:Nat)(hs:List Hint)(x:AV)(yo:Operand)(y:AV):Option Res :=
 match yo with
 | .const (.slice none _ _)=>match op with
  | .eql=>Zfs P false t x
  | .neq=>Zfs P true t x
  | _=>none
 | .const .nilIface=>match op with
  | .eql=>Zb8 P false t x
  | .neq=>Zb8 P true t x
  | _=>none
 | _=>ZjS P op t hs x y
theorem Zhg{P:Program}{o:Oper}{id:Nat}{E:Operand→AV}{H:Heap}{r:Res}{x y:Operand}{op:BinOp}{t t':Nat}{hs:List Hint}
  (ho:o.op = .binOp op t x y t') (h:Ze8 P op t hs (E x) y (E y)=some r):Z2h P o id E H r:=by
 unfold Ze8 at h;split at h
 ·split at h
  ·exact Zd1 (neg:=false) ho h
  ·exact Zd1 (neg:=true) ho h
  ·cases h
 ·split at h
  ·exact Zb1 (neg:=false) ho h
  ·exact Zb1 (neg:=true) ho h
  ·cases h
 ·exact Zk5 ho h
def ZmX(op:UnOp)(hs:List Hint)(x:AV):Option Res :=
 match op,x with
 | .not,.d (.sc (.bool b))=>some (Z4M (!b) hs)
 | .neg,.d (.sc (.int k n))=>some (numR k (k.wrap (0-n)) [] hs)
 | _,_=>none
theorem Zkk{P:Program}{o:Oper}{id:Nat}{E:Operand→AV}{H:Heap}{r:Res}{x:Operand}{op:UnOp}{t:Nat}{hs:List Hint}
  (ho:o.op = .unOp op t x) (h:ZmX op hs (E x)=some r):Z2h P o id E H r:=by
 unfold ZmX at h;split at h
 ·rename_i b hx;cases h;exact Z30 fun ρ w Im a hE=>by have h1:=Z10 (hx▸hE x);simp[execOp,ho,h1,Op.unary]
 ·rename_i k n hx;cases h;exact Z1G fun ρ w Im a hE _=>by have h1:=Z10 (hx▸hE x);simp[execOp,ho,h1,Op.unary,Op.intArith]
 ·cases h
def Zcu(P:Program)(t:Nat):Option IntKind:=match P.underlying t with | some (.int k)=>some k | _=>none
def ZdV(P:Program)(src dst:Nat)(hs:List Hint)(x:AV):Option Res :=
 match x with
 | .d (.sc (.int _ n))=>match Zcu P dst,P.underlying src with
  | some k,some _=>some (numR k (k.wrap n) [] hs)
  | _,_=>none
 | _=>none
theorem Zhw{P:Program}{o:Oper}{id:Nat}{E:Operand→AV}{H:Heap}{r:Res}{x:Operand}{src dst:Nat}{hs:List Hint}
  (ho:o.op = .convert src dst x) (h:ZdV P src dst hs (E x)=some r):Z2h P o id E H r:=by
 unfold ZdV at h;split at h
 ·rename_i k n hx;split at h
  ·rename_i k' d hk hd;cases h;refine Z1G fun ρ w Im a hE _=>?_;have h1:=Z10 (hx▸hE x);unfold Zcu at hk;split at hk
   ·rename_i k0 hk0;cases hk;simp[execOp,ho,h1,convert,run_underlying hd,run_underlying hk0,Conv.intToInt]
   ·cases hk
  ·cases h
 ·cases h
end Go.Sx
