/-
 The statement BoundRequests: part 1.
 Conditions: none.
-/
import Derived.WalkKit
set_option maxRecDepth 100000
set_option maxHeartbeats 2000000
set_option linter.all false
open Option renaming some->U,none->V,map_eq_some_iff->S
open Bool renaming true->X,false->Y,false_eq_true->L,and_eq_true->F,not_eq_true'->Lf
open Go.Op renaming equalIn->Z,eqFields->W,equal->N,maxDepth->M,intArith->O,intDiv->Lk,shift->Ll,unary->Lm
open Go.RowKit.Below renaming heap_alloc->G
open List renaming getElem?_map->C,getElem?_eq_getElem->T,getElem?_eq_none->La,getElem?_eq_some_iff->Lb,getD->Lg,getElem?_set->Lh,getElem?_toArray->Li,mem_of_getElem?->Lj
open Nat renaming le_refl->R,add_mul->Lc,lt_of_lt_of_le->Ld,mul_le_mul_right->Le
namespace Go.Sx
def oq{p:Prop}(h:p:=by first|(dsimp+zetaDelta only;omega)|omega|(simp only[List.length_cons,List.length_nil];omega)):p:=h
def dd{p:Prop}(h:p:=by decide):p:=h
def kr{p:Prop}(h:p:=by kernel_rfl):p:=h
def aa{p:Prop}(h:p:=by assumption):p:=h
def pq{p:Prop}(h:p:=by simp):p:=h
def qo{p:Prop}(h:p:=by simp;omega):p:=h
end Go.Sx
namespace Go.Sx
inductive DV where|sc (v:Value)|sl (s:Nat) (els:List (List DV))
inductive AV where|d (x:DV)|ag (l:List AV)|pt (b i o:Nat)|os (b o n:Nat)|ow (b:Nat)|rp (e:List DV) (o:Nat)|fn (f:Nat) (caps:List AV)|fm (f:Nat) (a:AV)|ic (t:Nat) (a:AV)|tu (l:List AV)|gd (g:Bool) (a:AV)|any
inductive Z3 where|box (ty:Nat) (cells:List AV)|arr (ty s:Nat) (els:List (List DV))|mp (keys:List Int)|dead
structure Bi where
 g:Option Nat
 s:Nat
 n:Nat
def rows(w:World)(g:Nat):Nat:=match w.heap[g]? with|U (.cells cs _ _)=>cs.size|_=>0
def big:Nat:=2^48
theorem ZkN:big=281474976710656:=by decide
inductive CM (w:World) (Im:Nat->Prop):DV->Value->Prop
 |sc (v:Value) (h:v.oneCell'=X):CM w Im (.sc v) v
 |slNil (s:Nat) (a:Option Addr) (c:Nat):CM w Im (.sl s []) (.slice a 0 c)
 | sl (s:Nat) (els:List (List DV)) (p:Addr) (n c:Nat) (f:Nat->Nat->Value) (hn:els.length=n) (hc:n<=c) (hb:n<=big)
   (hs:∀e∈els,e.length=s) (hp:p.spot=V) (him:Im p.block)
   (hcell:∀(i:Nat) (e:List DV) (o:Nat) (x:DV),els[i]?=U e->e[o]?=U x->w.cell? ⟨p.block,p.off+(i*s+o),V⟩=U (f i o))
   (hrel:∀(i:Nat) (e:List DV) (o:Nat) (x:DV),els[i]?=U e->e[o]?=U x->CM w Im x (f i o)):CM w Im (.sl s els) (.slice (U p) n c)
structure Ext (Im:Nat->Prop) (w w':World):Prop where
 size:w.heap.size<=w'.heap.size
 im:∀g,Im g->w'.heap[g]?=w.heap[g]?
 rows:∀g,g<w.heap.size->rows w' g=rows w g
def Ext.refl Im w:Ext Im w w:=⟨R _,λ_ _=>rfl,λ_ _=>rfl⟩
def Ext.trans{Im a b c}(h:Ext Im a b)(k:Ext Im b c):Ext Im a c:=
 ⟨Nat.le_trans h.size k.size,λg d=>(k.im g d).trans (h.im g d),λg d=>(k.rows g (Ld d h.size)).trans (h.rows g d)⟩
def CM.one{w Im x v}(h:CM w Im x v):v.oneCell'=X:=by cases h<;>first|assumption|rfl
def CM.mono{w w'}{Im Im':Nat->Prop}{x v}(h:CM w Im x v)(q:Ext Im w w')(r:∀g,Im g->Im' g):CM w' Im' x v:=by
 induction h with|sc v h=>exact .sc v h|slNil s a c=>exact .slNil s a c|sl s els p n c f t m l y u d b _ z =>refine .sl s els p n c f t m l y u (r _ d) (λi e o x j k=>?_) (λi e o x j k=>z i e o x j k);rw[<-b i e o x j k];exact World.cell?_of_block (w:=w) (q.im _ d)
abbrev ZM:=Nat->Option Bi
def mpO:Nat:=99999
def ptV(g s i o:Nat):Value:=if o=mpO then .map (U g)else .pointer (U ⟨g,i*s+o,V⟩)
def ZfA g s i o:(ptV g s i o).oneCell'=X:=by unfold ptV;split<;>rfl
inductive Zk (ρ:ZM) (w:World) (Im:Nat->Prop):AV->Value->Prop
 |d {x:DV} {v:Value} (h:CM w Im x v):Zk ρ w Im (.d x) v
 |ag (l:List AV) (cs:Array Value) (hn:cs.size=l.length) (hone:∀(i:Nat) (v:Value),cs[i]?=U v->v.oneCell'=X) (h:∀(i:Nat) (a:AV) (v:Value),l[i]?=U a->cs[i]?=U v->Zk ρ w Im a v):Zk ρ w Im (.ag l) (.agg cs)
 |pt {b i o g s n:Nat} (h:ρ b=U ⟨U g,s,n⟩):Zk ρ w Im (.pt b i o) (ptV g s i o)
 |os {b o n c:Nat} {a:Option Addr} {β:Bi} (h:ρ b=U β) (hn:o+n<=β.n) (hc:n<=c) (hb:n<=big) (ha:c=0\/∃g,β.g=U g/\a=U ⟨g,o*β.s,V⟩/\(o+c)*β.s<=rows w g):Zk ρ w Im (.os b o n) (.slice a n c)
 |ow {b c:Nat} {a:Option Addr} {β:Bi} (h:ρ b=U β) (hc:β.n<=c) (hb:β.n<=big) (ha:c=0\/∃g,β.g=U g/\a=U ⟨g,0,V⟩/\c*β.s<=rows w g):Zk ρ w Im (.ow b) (.slice a β.n c)
 | rp {e:List DV} {o:Nat} {p:Addr} (hp:p.spot=V) (him:Im p.block) (h:∀ (j:Nat) (x:DV),e[j]? = U x->∃ v,w.cell? ⟨p.block,p.off+j,V⟩=U v/\CM w Im x v) :
   Zk ρ w Im (.rp e o) (.pointer (U ⟨p.block,p.off+o,V⟩))
 |fn {f:Nat} {caps:List AV} {cs:Array Value} (hn:cs.size=caps.length) (h:∀(i:Nat) (a:AV) (v:Value),caps[i]?=U a->cs[i]?=U v->Zk ρ w Im a v):Zk ρ w Im (.fn f caps) (.func (.func f) #[] cs)
 |fm {f:Nat} {a:AV} {v:Value} (h:Zk ρ w Im a v):Zk ρ w Im (.fm f a) (.func (.func f) #[v] #[])
 |ic {t:Nat} {a:AV} {v:Value} (h:Zk ρ w Im a v):Zk ρ w Im (.ic t a) (.iface t v)
 |tu (l:List AV) (cs:Array Value) (hn:cs.size=l.length) (h:∀(i:Nat) (a:AV) (v:Value),l[i]?=U a->cs[i]?=U v->Zk ρ w Im a v):Zk ρ w Im (.tu l) (.tuple cs)
 |gd {g:Bool} {a:AV} {v:Value} (h:g=X->Zk ρ w Im a v) (h':g=Y->v=undef):Zk ρ w Im (.gd g a) v
 |any (v:Value):Zk ρ w Im .any v
def Zk.mono{ρ ρ':ZM}{w w'}{Im Im':Nat->Prop}{a v}(h:Zk ρ w Im a v)(m:Ext Im w w')(t:∀g,Im g->Im' g)(u:∀b β,ρ b=U β->ρ' b=U β)(y:∀b β g,ρ b=U β->β.g=U g->g<w.heap.size):Zk ρ' w' Im' a v:=by
 induction h with|d h=>exact .d (h.mono m t)|ag l p i o _ c=>exact .ag l p i o c|pt h=>exact .pt (u _ _ h)|os h i s f r =>refine .os (u _ _ h) i s f (r.imp id λ⟨g,e,k,q⟩=>⟨g,e,k, ?_⟩);rw[m.rows g (y _ _ g h e)];exact q|ow h s f r =>refine .ow (u _ _ h) s f (r.imp id λ⟨g,e,k,q⟩=>⟨g,e,k, ?_⟩);rw[m.rows g (y _ _ g h e)];exact q|rp hp n h =>refine .rp hp (t _ n) λj x hx=>?_;obtain⟨v,e,k⟩:=h j x hx;exact⟨v,by rw[<-e];exact World.cell?_of_block (w:=w) (m.im _ n),k.mono m t⟩|fn i _ c=>exact .fn i c|fm _ c=>exact .fm c|ic _ c=>exact .ic c|tu l p i _ c=>exact .tu l p i c|gd _ z c=>exact .gd c z|any v=>exact .any v
def AV.one:AV->Bool|.d _|.pt .. |.os .. |.ow _|.rp .. |.fn .. |.ic .. => X|_=>Y
def Zk.one{ρ w Im a v}(h:Zk ρ w Im a v)(b:a.one=X):v.oneCell'=X:=by cases h<;>first|(exact CM.one aa)|rfl|exact ZfA _ _ _ _|simp[AV.one]at b
def AV.cells:AV->Option (List AV)|.ag l=>U l|.d x=>U [.d x]|.pt b i o=>U [.pt b i o]|.os b o n=>U [.os b o n]|.ow b=>U [.ow b]|.rp e o=>U [.rp e o]|.fn f c=>U [.fn f c]|.ic t a=>U [.ic t a]|_=>V
def Z9F{v:Value}(h:v.oneCell'=X):v.cells=#[v]:=by cases v<;>first|rfl|simp[Value.oneCell']at h
def Zk.cells{ρ w Im a v}{l:List AV}(h:Zk ρ w Im a v)(hl:a.cells=U l) :v.cells.size=l.length/\(∀(i:Nat) (a:AV) (u:Value),l[i]?=U a->v.cells[i]?=U u->Zk ρ w Im a u)/\∀(i:Nat) (u:Value),v.cells[i]?=U u->u.oneCell'=X:=by
 have e:∀{a:AV},a.one=X->Zk ρ w Im a v->l=[a] ->
   v.cells.size=l.length/\(∀(i:Nat) (a:AV) (u:Value),l[i]?=U a->v.cells[i]?=U u->Zk ρ w Im a u)/\∀(i:Nat) (u:Value),v.cells[i]?=U u->u.oneCell'=X:=by
  intro a j h hl;subst hl;have g:=h.one j;rw[Z9F g];refine⟨rfl, ?_, ?_⟩
  .grind
  .grind
 cases h with|ag l' cs k f h =>simp only[AV.cells,Option.some.injEq]at hl;subst hl;exact⟨k,h,f⟩|d h=>exact e (by rfl) (.d h) (by grind[AV.cells])|pt h=>exact e (by rfl) (.pt h) (by grind[AV.cells])|os h a b c d=>exact e (by rfl) (.os h a b c d) (by grind[AV.cells])|ow h b c d=>exact e (by rfl) (.ow h b c d) (by grind[AV.cells])|rp a b c=>exact e (by rfl) (.rp a b c) (by grind[AV.cells])|fn a b=>exact e (by rfl) (.fn a b) (by grind[AV.cells])|ic a=>exact e (by rfl) (.ic a) (by grind[AV.cells])|tu=>grind[AV.cells]|fm=>grind[AV.cells]|gd=>grind[AV.cells]|any=>grind[AV.cells]
def RelB(ρ:ZM)(w:World)(Im:Nat->Prop)(β:Bi):Z3->Prop
 | .box ty cells=>β.s=cells.length/\β.n=1/\∃ g b,β.g=U g/\w.heap[g]? = U (.cells b ty (0,0))/\b.size=cells.length/\(∀ (i:Nat) (v:Value),b[i]? = U v->v.oneCell'=X) /\
   ∀(o:Nat) (a:AV) (v:Value),cells[o]?=U a->b[o]?=U v->Zk ρ w Im a v
 | .arr ty s els=>β.s=s/\β.n=els.length/\els.length<=big/\(∀ e∈els,e.length=s)/\((β.g=V/\els=[])\/∃ g b,β.g=U g/\w.heap[g]? = U (.cells b ty (0,0))/\els.length*s<=b.size /\
   ∀(i:Nat) (e:List DV) (o:Nat) (x:DV),els[i]?=U e->e[o]?=U x->∃v,b[i*s+o]?=U v/\CM w Im x v)
 |.mp keys=>keys.length<=big/\∃g c clock,β.g=U g/\w.heap[g]?=U (.map c clock)/\c.size=keys.length/\∀(i:Nat) (e:MapEntry) (x:Int),c[i]?=U e->keys[i]?=U x->e.key=.int .u64 x/\e.val=.int .i64 i
 |.dead=>True
structure Kept (Ow:Nat->Prop) (w0 w:World):Prop where
 os:w.os=w0.os
 tape:w.tape=w0.tape
 output:w.output=w0.output
 size:w0.heap.size<=w.heap.size
 block:∀k,k<w0.heap.size->¬ Ow k->w.heap[k]?=w0.heap[k]?
 rows:∀k,k<w0.heap.size->rows w k=rows w0 k
def Kept.imp{A B:Nat->Prop}{w0 w}(h:Kept A w0 w)(a:∀g,A g->B g):Kept B w0 w:=⟨h.os,h.tape,h.output,h.size,λk b c=>h.block k b λq=>c (a k q),h.rows⟩
def Kept.refl Ow w:Kept Ow w w:=⟨rfl,rfl,rfl,R _,λ_ _ _=>rfl,λ_ _=>rfl⟩
abbrev Heap:=Nat->Option Z3
structure St where
 tmps:List AV
 H:Heap
 clk:Nat
def live(H:Heap)(b:Nat):Prop:=∃B,H b=U B/\B≠.dead
structure Own where
 p:Nat->Bi->Prop
 ds:List Deferred
instance:CoeFun Own (fun _=>Nat→Bi→Prop):=⟨Own.p⟩
def EU:Own:=⟨λ_ _=>False,[]⟩
def OwA(Ow:Own)(g:Nat):Prop:=∃b β,Ow b β/\β.g=U g
def GZ(ρ:ZM):Own:=⟨λb β=>ρ b=U β,[]⟩
def OwA.no{g}(h:OwA EU g):False:=by obtain⟨_,_,h,_⟩:=h;exact h
structure Inv (Ow:Own) (Im0:Nat->Prop) (w0:World) (ρ:ZM) (w:World) (Im:Nat->Prop) (H:Heap) (clk:Nat):Prop where
 kept:Kept (OwA Ow) w0 w
 inj:∀b b' β β' g,live H b->live H b'->ρ b=U β->ρ b'=U β'->β.g=U g->β'.g=U g->b=b'
 notIm:∀b β g,live H b->ρ b=U β->β.g=U g->¬ Im g
 bnd:∀b β g,ρ b=U β->β.g=U g->g<w.heap.size
 own:∀b β g,ρ b=U β->β.g=U g->(w0.heap.size<=g/\8000<=b)\/OwA Ow g
 imb:∀g,Im g->g<w.heap.size
 im0:∀g,Im g->Im0 g\/w0.heap.size<=g\/OwA Ow g
 blk:∀b B,H b=U B->∃β,ρ b=U β/\RelB ρ w Im β B
 fresh:∀b,clk*8000<=b->H b=V->ρ b=V
 one:1<=clk/\∀b β,b<8000->ρ b=U β->Ow b β
def RelB.mono{ρ ρ':ZM}{w w'}{Im Im':Nat->Prop}{β B}(h:RelB ρ w Im β B)(r:Ext Im w w')(t:∀g,Im g->Im' g)(hρ:∀b β,ρ b=U β->ρ' b=U β)(hb:∀b β g,ρ b=U β->β.g=U g->g<w.heap.size)(hg:∀g,β.g=U g->w'.heap[g]?=w.heap[g]?):RelB ρ' w' Im' β B:=by
 cases B with|box ty cells =>obtain⟨d,l,g,k,f,m,j,n,p⟩:=h;exact⟨d,l,g,k,f,by grind,j,n,λo a v ha hv=>(p o a v ha hv).mono r t hρ hb⟩|arr ty s els =>obtain⟨d,f,q,m,j⟩:=h;refine⟨d,f,q,m,j.imp id λ⟨g,k,p,h5,z,h7⟩=>⟨g,k,p,by grind,z,λi e o x hx hy=>?_⟩⟩;obtain⟨v,h8,h9⟩:=h7 i e o x hx hy;exact⟨v,h8,h9.mono r t⟩|mp u =>obtain⟨d,g,y,c,f,m,j⟩:=h;exact⟨d,g,y,c,f,by grind,j⟩|dead=>trivial
structure Ct (D:List Deferred) (ρ:ZM) (w:World) (Im:Nat->Prop) (tmps:List AV) (a:Act):Prop where
 size:a.tmps.size=tmps.length
 tmp:∀(i:Nat) (x:AV) (v:Value),tmps[i]?=U x->a.tmps[i]?=U v->Zk ρ w Im x v
 defers:a.defers=D
def Ct.mono{D}{ρ ρ':ZM}{w w'}{Im Im':Nat->Prop}{tmps a}(h:Ct D ρ w Im tmps a)(f:Ext Im w w')(j:∀g,Im g->Im' g)(k:∀b β,ρ b=U β->ρ' b=U β)(e:∀b β g,ρ b=U β->β.g=U g->g<w.heap.size):Ct D ρ' w' Im' tmps a:=
 ⟨h.size,λi x v c d=>(h.tmp i x v c d).mono f j k e,h.defers⟩
def Ct.put{D ρ w Im tmps a}(h:Ct D ρ w Im tmps a)(t:Nat){x v}(hx:Zk ρ w Im x v) :Ct D ρ w Im (tmps.set t x) (a.put (U t) v):=by refine⟨by simp[Act.put,h.size],λi y u b c=>?_,h.defers⟩;simp only[Act.put,Array.getElem?_setIfInBounds]at c;rw[Lh]at b;by_cases d:t=i;grind;simp only[d,if_false]at b c;exact h.tmp i y u b c
def Cd(ρ:ZM)(b:Nat)(β:Bi):ZM:=λk=>if k=b then U β else ρ k
def Bm(H:Heap)(b:Nat)(B:Z3):Heap:=λk=>if k=b then U B else H k
theorem H3{H b B k}(h:live (Bm H b B) k)(e:¬ k=b):live H k:=by obtain⟨c,a,d⟩:=h;unfold Bm at a;rw[if_neg e]at a;exact⟨c,a,d⟩
def Z2K{H b B k}(hl:live H b)(h:live (Bm H b B) k):live H k:=by by_cases a:k=b;rw[a];exact hl;exact H3 h a
def MC{Ow:Own}{ρ:ZM}{clk id:Nat}{β:Bi}(h:1<=clk/\∀b β,b<8000->ρ b=U β->Ow b β)(d:clk*8000<=id):1<=clk/\∀b κ,b<8000->Cd ρ id β b=U κ->Ow b κ:=by refine⟨h.1,λb κ c a=>?_⟩;unfold Cd at a;split at a;have:=h.1;omega;exact h.2 b κ c a
theorem I9 ρ b β:Cd ρ b β b=U β:=by simp[Cd]
def Hj{ρ:ZM}{b:Nat}{β}(h:ρ b=V):∀k κ,ρ k=U κ->Cd ρ b β k=U κ:=by intro k κ a;unfold Cd;split;subst k;rw[h]at a;cases a;exact a
def Ext.alloc(Im:Nat->Prop)(w:World) o(h:∀g,Im g->g<w.heap.size):Ext Im w (w.alloc o):=
 ⟨by simp,λg a=>G _ _ _ (h g a),λg a=>by unfold Sx.rows;rw[G _ _ _ a]⟩
theorem heap_alloc_new(w:World) o:(w.alloc o).heap[w.heap.size]?=U o:=by show(w.heap.push o)[w.heap.size]?=U o;simp
section
variable{Ow:Own}{Im0:Nat->Prop}{w0:World}{ρ:ZM}{w:World}{Im:Nat->Prop}{H:Heap}{clk:Nat}
theorem Inv.junk(I:Inv Ow Im0 w0 ρ w Im H clk) o:Inv Ow Im0 w0 ρ (w.alloc o) Im H clk:=by have d:=Ext.alloc Im w o I.imb;refine⟨?_,I.inj,I.notIm,λb β g h e=>?_,I.own,λg h=>?_,I.im0,λb B h=>?_,I.fresh,I.one⟩;have k:=I.kept;refine⟨k.os,k.tape,k.output,by have:=k.size;simp;omega,λi a l=>?_,λi a=>?_⟩;rw[G _ _ _ (Ld a k.size)];exact k.block i a l;rw[d.rows i (Ld a k.size)];exact k.rows i a;have:=I.bnd b β g h e;simp;omega;have:=I.imb g h;simp;omega;obtain⟨β,c,f⟩:=I.blk b B h;exact⟨β,c,f.mono d (λ_ h=>h) (λ_ _ h=>h) I.bnd (λg j=>G _ _ _ (I.bnd b β g c j))⟩
theorem Inv.draw(I:Inv Ow Im0 w0 ρ w Im H clk):Inv Ow Im0 w0 ρ w.drew Im H clk:=
 ⟨⟨I.kept.os,I.kept.tape,I.kept.output,I.kept.size,I.kept.block,I.kept.rows⟩,I.inj,I.notIm,I.bnd,I.own,I.imb,I.im0,
  λb B h=>let ⟨β,a,c⟩:=I.blk b B h;⟨β,a,c.mono (w':=w.drew) ⟨R _,λ_ _=>rfl,λ_ _=>rfl⟩ (λ_ h=>h) (λ_ _ h=>h) I.bnd (λ_ _=>rfl)⟩,I.fresh,I.one⟩
theorem Ext.draw Im w:Ext Im w w.drew:=⟨R _,λ_ _=>rfl,λ_ _=>rfl⟩
theorem Inv.addO(I:Inv Ow Im0 w0 ρ w Im H clk)(id:Nat)(f:clk*8000<=id)(t:H id=V) o(s n:Nat) B(r:RelB (Cd ρ id ⟨U w.heap.size,s,n⟩) (w.alloc o) Im ⟨U w.heap.size,s,n⟩ B) :Inv Ow Im0 w0 (Cd ρ id ⟨U w.heap.size,s,n⟩) (w.alloc o) Im (Bm H id B) clk:=by have p:=I.fresh id f t;have u:=Ext.alloc Im w o I.imb;have J:=I.junk o;refine⟨J.kept, ?_, ?_, ?_, ?_,J.imb,J.im0, ?_, ?_,MC I.one f⟩;intro b m β β' g y z d e i j;unfold Cd at d e;split at d<;>split at e;omega;cases d;simp at i;have:=I.bnd m β' g e j;omega;cases e;simp at j;have:=I.bnd b β g d i;omega;exact I.inj b m β β' g (H3 y aa) (H3 z aa) d e i j;intro b β g l h c;unfold Cd at h;split at h;cases h;simp at c;intro x;have:=I.imb g x;omega;exact I.notIm b β g (H3 l aa) h c;intro b β g h c;unfold Cd at h;split at h;cases h;simp at c;simp;omega;have:=I.bnd b β g h c;simp;omega;intro b β g h c;unfold Cd at h;split at h;rename_i a;cases h;simp at c;have:=I.kept.size;have:=I.one;exact .inl ⟨by omega,by omega⟩;exact I.own b β g h c;intro b q h;unfold Bm at h;split at h;cases h;rename_i k;exact⟨_,by rw[k];exact I9 _ _ _,r⟩;obtain⟨β,d,e⟩:=I.blk b q h;exact⟨β,Hj p _ _ d,e.mono u (λ_ h=>h) (Hj p) I.bnd (λg v=>G _ _ _ (I.bnd b β g d v))⟩;intro b k h;unfold Bm at h;unfold Cd;split;rename_i a;simp[a]at h;rename_i a;simp only[a,if_false]at h;exact I.fresh b k h
theorem Inv.add(I:Inv Ow Im0 w0 ρ w Im H clk)(id:Nat)(a:clk*8000<=id)(c:H id=V)(cs:Array Value)(ty s n:Nat) B(b:RelB (Cd ρ id ⟨U w.heap.size,s,n⟩) (w.alloc (.cells cs ty)) Im ⟨U w.heap.size,s,n⟩ B) :Inv Ow Im0 w0 (Cd ρ id ⟨U w.heap.size,s,n⟩) (w.alloc (.cells cs ty)) Im (Bm H id B) clk:=I.addO id a c _ s n B b
theorem Ao(w:World)(g:Nat)(cs cs':Array Value)(ty:Nat)(a:w.heap[g]?=U (.cells cs ty (0,0)))(hs:cs'.size=cs.size)(k:Nat) :rows (w.setRow g cs') k=rows w k:=by by_cases b:k=g;subst b;unfold rows;rw[setRow_heap w k cs cs' ty (0,0) a,a];simpa using hs;unfold rows;rw[setRow_other w g k cs' b]
theorem Inv.turn(I:Inv Ow Im0 w0 ρ w Im H clk)(b:Nat)(g s n:Nat)(w':World) B(o:ρ b=U ⟨U g,s,n⟩)(a:live H b)(f:w'.os=w.os/\w'.tape=w.tape/\w'.output=w.output)(j:w'.heap.size=w.heap.size)(c:∀k,k≠g->w'.heap[k]?=w.heap[k]?)(d:∀k,rows w' k=rows w k)(hB:Ext Im w w'->RelB ρ w' Im ⟨U g,s,n⟩ B):Inv Ow Im0 w0 ρ w' Im (Bm H b B) clk/\Ext Im w w':=by
 have r:Ext Im w w':=⟨by omega,λk hk=>c k (λe=>I.notIm b _ g a o rfl (e▸hk)),λk _=>d k⟩;refine⟨⟨?_,λb m β β' g l1 l2=>I.inj b m β β' g (Z2K a l1) (Z2K a l2),λb β g l=>I.notIm b β g (Z2K a l),λb β g h h'=>by rw[j];exact I.bnd b β g h h',I.own,λg h=>by rw[j];exact I.imb g h,I.im0, ?_, ?_,I.one⟩,r⟩;have k:=I.kept;refine⟨f.1.trans k.os,f.2.1.trans k.tape,f.2.2.trans k.output,by rw[j];exact k.size,λi u z=>?_,λi u=>(d i).trans (k.rows i u)⟩;have:i≠g:=by(rintro rfl;rcases I.own b _ i o rfl with⟨h,_⟩|h;omega;exact z h)
 rw[c i this];exact k.block i u z;intro m x h;unfold Bm at h;split at h;cases h;rename_i e;rw[e];exact⟨_,o,hB r⟩;rename_i v;obtain⟨β,p,h2⟩:=I.blk m x h;cases x with|dead=>exact⟨β,p,trivial⟩|_ =>refine⟨β,p,h2.mono r (λ_ h=>h) (λ_ _ h=>h) I.bnd (λy t=>c y ?_)⟩;rintro rfl;exact v (I.inj m b β _ y ⟨_,h,by simp⟩ a p o t rfl)
 intro m q h;unfold Bm at h;split at h;cases h;exact I.fresh m q h
theorem Inv.put(I:Inv Ow Im0 w0 ρ w Im H clk)(b:Nat)(g s n:Nat)(cs cs':Array Value)(ty:Nat) B(d:ρ b=U ⟨U g,s,n⟩)(e:w.heap[g]?=U (.cells cs ty (0,0)))(hs:cs'.size=cs.size)(a:live H b)(c:Ext Im w (w.setRow g cs')->RelB ρ (w.setRow g cs') Im ⟨U g,s,n⟩ B):Inv Ow Im0 w0 ρ (w.setRow g cs') Im (Bm H b B) clk/\Ext Im w (w.setRow g cs'):=
 I.turn b g s n _ B d a ⟨rfl,rfl,rfl⟩ (by simp[World.setRow]) (λk f=>setRow_other w g k cs' f) (Ao w g cs cs' ty e hs) c
end
def Goes(P:Program)(o:Oper)(a:Act)(w:World)(K:Value->World->Prop):Prop:=
 (∃v b,(execOp a.eval o).run P w=.ok (.value v) b/\K v b)\/∃b,(execOp a.eval o).run P w=.ok .skip b/\K undef b
def Goes.wp{P o a w K}{next:Act->World->Prop}{Q}(h:Goes P o a w K)(b:∀v w',K v w'->next (a.put o.dst v) w'):o.wp P a w next Q:=by rcases h with⟨v,w',h,k⟩|⟨w',h,k⟩;simp only[Oper.wp,h,Oper.upon_value];exact b v w' k;simp only[Oper.wp,h,Oper.upon_skip];exact b undef w' k
def EY(Ow:Own)(Im0:Nat->Prop)(w0:World)(ρ:ZM)(w:World)(Im:Nat->Prop)(clk:Nat)(H':Heap)(x:AV)(v:Value)(w':World):Prop:=
 ∃ρ',Inv Ow Im0 w0 ρ' w' Im H' clk/\Ext Im w w'/\(∀b β,ρ b=U β->ρ' b=U β)/\Zk ρ' w' Im x v
def cv1:Value->AV|.slice none 0 0=>.d (.sl 0 [])|v=>.d (.sc v)
def M2(l:List Value):Bool:=l.all (·.oneCell')
def cv:Value->AV|.agg cs=>if M2 cs.toList then .ag (cs.toList.map cv1)else .any|.tuple _=>.any|v=>cv1 v
theorem Z0p ρ w Im(v:Value)(h:v.oneCell'=X):Zk ρ w Im (cv1 v) v:=by unfold cv1;split;exact .d (.slNil 0 V 0);exact .d (.sc _ h)
def Rl ρ w Im v:Zk ρ w Im (cv v) v:=by
 unfold cv;split;rename_i d;split;rename_i h;simp only[M2,List.all_eq_true]at h;have b:∀(i:Nat) (u:Value),d[i]?=U u->u.oneCell'=X:=λi u c=>h u (by
  have:=Array.mem_of_getElem? c;simpa using this)
 refine .ag _ _ pq b λi a u e c=>?_;have g:d.toList[i]?=U u:=by simpa using c
 simp only[C,g,Option.map_some,Option.some.injEq]at e;subst e;exact Z0p ρ w Im u (b i u c);exact .any _;exact .any _;rename_i b f;exact Z0p ρ w Im v (by cases v<;>first|rfl|(exfalso;first|exact b _ rfl|exact f _ rfl))
def ev(tmps:List AV):Operand->AV|.tmp t=>tmps.getD t .any|.const v=>cv v|.global _=>.any|.func f=>.fn f []
theorem Ed{D ρ w Im tmps a}(h:Ct D ρ w Im tmps a) x:Zk ρ w Im (ev tmps x) (a.eval x):=by
 cases x with
 |tmp t =>
  simp only[ev,Act.eval];by_cases b:t<tmps.length;have c:t<a.tmps.size:=by rw[h.size];exact b
  have d:tmps[t]?=U (tmps.getD t .any):=by simp[Lg,T b]
  have e:a.tmps[t]?=U (a.tmps.getD t undef):=by simp[Array.getD,c]
  exact h.tmp t _ _ d e;rw[show tmps.getD t .any=.any from by simp[Lg,La (Nat.le_of_not_lt b)]];exact .any _
 |const v=>exact Rl ρ w Im v
 |global g=>exact .any _
 |func f=>exact .fn pq pq
def strip:AV->AV|.gd _ a=>a|a=>a
inductive Hint where|br (b:Bool)|int (n:Int)|el (e:List DV)|els (l:List (List DV))|own|call (fr:Bool) (res:AV) (news:List Z3)|kill (res:AV)|bor (ls:List Nat) (res:AV) (post:List Z3)|gh (ty s:Nat)
def B9:List Prop->Prop|[]=>True|[p]=>p|p::q::r=>p/\B9 (q::r)
theorem Ha{p:Prop}{l:List Prop}:B9 (p::l)↔p/\B9 l:=by cases l<;>simp[B9]
def Hk{l a:List Prop}:B9 (l++a)↔B9 l/\B9 a:=by
 induction l with|nil=>simp[B9]|cons p l b=>rw[List.cons_append,Ha,Ha,b,and_assoc]
structure Be where
 val:AV
 up:Option (Nat×Z3)
 ph:List Prop
def Be.heap(r:Be)(H:Heap):Heap:=match r.up with|V=>H|U (k,B)=>Bm H k B
def BG(P:Program)(t:Nat):Nat:=match P.info? t with|U i=>i.size|V=>0
def zeroOf(P:Program)(t:Nat):Option Value:=match P.info? t with|U i=>i.zero|V=>V
def bytesOf(P:Program)(t:Nat):Nat:=match P.info? t with|U i=>i.bytes|V=>0
def RS(P:Program)(t:Nat):Option Bool:=match P.underlying t with|U (.struct _)=>U X|U (.array _ _)=>U X|U _=>U Y|V=>V
abbrev E3(P:Program)(o:Oper)(id:Nat)(E:Operand->AV)(H:Heap)(r:Be):Prop:=
 ∀(Ow:Own) (Im0:Nat->Prop) (w0:World) (ρ:ZM) (w:World) (Im:Nat->Prop) (clk:Nat) (a:Act),Inv Ow Im0 w0 ρ w Im H clk->clk*8000<=id->H id=V ->
  (∀x,Zk ρ w Im (E x) (a.eval x))->B9 r.ph->Goes P o a w λv w'=>EY Ow Im0 w0 ρ w Im clk (r.heap H) r.val v w'
def EY.same{Ow Im0 w0 ρ w Im clk H x v}(I:Inv Ow Im0 w0 ρ w Im H clk)(h:Zk ρ w Im x v):EY Ow Im0 w0 ρ w Im clk H x v w:=⟨ρ,I,Ext.refl _ _,λ_ _ h=>h,h⟩
def EY.box{Ow Im0 w0 ρ w Im clk H}{id ty:Nat}{x v}{l:List AV}(I:Inv Ow Im0 w0 ρ w Im H clk)(c:clk*8000<=id)(d:H id=V)(h:Zk ρ w Im x v)(hl:x.cells=U l) :EY Ow Im0 w0 ρ w Im clk (Bm H id (.box ty l)) (.pt id 0 0) (.pointer (U ⟨w.heap.size,0,V⟩)) (w.alloc (.cells v.cells ty)):=by obtain⟨f,g,j⟩:=h.cells hl;have b:=Hj (β:=⟨U w.heap.size,l.length,1⟩) (I.fresh id c d);have e:=Ext.alloc Im w (.cells v.cells ty) I.imb;refine⟨Cd ρ id ⟨U w.heap.size,l.length,1⟩,I.add id c d _ _ _ _ _ ?_,e,b, ?_⟩;exact⟨rfl,rfl,w.heap.size,v.cells,rfl,heap_alloc_new _ _,f,j,λo a u k m=>(g o a u k m).mono e (λ_ h=>h) b I.bnd⟩;have:=Zk.pt (ρ:=Cd ρ id ⟨U w.heap.size,l.length,1⟩) (w:=w.alloc (.cells v.cells ty)) (Im:=Im) (i:=0) (o:=0) (I9 ρ id ⟨U w.heap.size,l.length,1⟩);grind[ptV,mpO]
def Z2S(x:AV):Be:=⟨x,V,[]⟩
def Z8a{P}{o:Oper}{id E H}{x:Operand}(b:o.op=.move x\/o.op=.assign x):E3 P o id E H (Z2S (E x)):=by intro Ow c w0 ρ w Im clk a I _ _ d _;refine .inl ⟨a.eval x,w, ?_,.same I (d x)⟩;rcases b with b|b<;>simp[execOp,b]
def Oa{Ow Im0 w0 w ρ Im H}{clk id ty s:Nat}(I:Inv Ow Im0 w0 ρ w Im H clk)(f:clk*8000<=id)(o:H id=V):Inv Ow Im0 w0 (Cd ρ id ⟨V,s,0⟩) w Im (Bm H id (.arr ty s [])) clk:=by have p:=I.fresh id f o;have a:=Hj (β:=⟨V,s,0⟩) p;refine⟨I.kept, ?_, ?_, ?_, ?_,I.imb,I.im0, ?_, ?_,MC I.one f⟩;intro b k β β' g q r d e m n;unfold Cd at d e;split at d<;>split at e;omega;grind;grind;exact I.inj b k β β' g (H3 q aa) (H3 r aa) d e m n;intro b β g l h c;unfold Cd at h;split at h;grind;exact I.notIm b β g (H3 l aa) h c;intro b β g h c;unfold Cd at h;split at h;grind;exact I.bnd b β g h c;intro b β g h c;unfold Cd at h;split at h;grind;exact I.own b β g h c;intro b B h;unfold Bm at h;split at h;cases h;rename_i i;exact⟨_,by rw[i];exact I9 _ _ _,rfl,rfl,by simp[big],by simp,.inl ⟨rfl,rfl⟩⟩;obtain⟨β,d,e⟩:=I.blk b B h;exact⟨β,a _ _ d,e.mono (Ext.refl _ _) (λ_ h=>h) a I.bnd (λ_ _=>rfl)⟩;intro b i h;unfold Bm at h;unfold Cd;split;grind;rename_i j;simp only[j,if_false]at h;exact I.fresh b i h
def Z3e(P:Program)(t id:Nat):Option Be:=match P.underlying t with|U (.slice e)=>U ⟨.ow id,U (id,.arr e (BG P e) []),[]⟩|_=>V
def ZfS{P}{o:Oper}{id:Nat}{E H}{r:Be}(i:o.op=.assign (.const (.slice V 0 0)))(h:Z3e P o.type id=U r):E3 P o id E H r:=by intro Ow g w0 ρ w d clk a I b f _ _;unfold Z3e at h;split at h;rename_i e he;cases h;refine .inl ⟨.slice V 0 0,w,by simp[execOp,i,Act.eval],Cd ρ id ⟨V,BG P e,0⟩,Oa I b f,Ext.refl _ _,Hj (I.fresh id b f), ?_⟩;have:=Zk.ow (ρ:=Cd ρ id ⟨V,BG P e,0⟩) (w:=w) (Im:=d) (c:=0) (a:=V) (I9 ρ id ⟨V,BG P e,0⟩) (R _) (by simp[big]) (.inl rfl);exact this;cases h
def Z2s(P:Program)(t id:Nat):Option Be:=match zeroOf P t with|some z=>(match (cv z).cells with|some l=>U ⟨.pt id 0 0,U (id,.box t l),[]⟩|none=>V)|none=>V
def Zet{P}{o:Oper}{id t:Nat}{E H}{r:Be}(k:o.op=.alloc t)(h:Z2s P t id=U r):E3 P o id E H r:=by intro Ow e w0 ρ w d clk a I c f _ _;unfold Z2s at h;split at h;rename_i z b;split at h;rename_i l j;cases h;refine .inl ⟨_,_, ?_,EY.box I c f (Rl ρ w d z) j⟩;unfold zeroOf at b;split at b;rename_i i g;simp[execOp,k,Instr.alloc,zeroValue,typeInfo,g,b,newVar,newRow];cases b;cases h;cases h
def Z1l(t id:Nat)(x:AV):Option Be:=match x.cells with|U l=>U ⟨.pt id 0 0,U (id,.box t l),[]⟩|V=>V
def Zlq{P}{o:Oper}{id t:Nat}{E:Operand->AV}{H}{r:Be}{x:Operand}(g:o.op=.box t x)(h:Z1l t id (E x)=U r):E3 P o id E H r:=by intro Ow c w0 ρ w Im clk a I b e d _;unfold Z1l at h;split at h;rename_i l f;cases h;exact .inl ⟨_,_,by simp[execOp,g,Instr.box,newVar,newRow],EY.box I b e (d x) f⟩;cases h
def seg(l:List AV)(o k:Nat):List AV:=(l.drop o).take k
def ND(P:Program)(t:Nat)(l:List AV)(o:Nat):Option AV:=
 match RS P t with|some true=>if(seg l o (BG P t)).length=BG P t then U (.ag (seg l o (BG P t)))else V|some false=>l[o]?|none=>V
def Mw{P}{t:Nat}{b:Bool}(h:RS P t=U b)(w:World):(isAgg t).run P w=.ok b w:=by unfold RS at h;split at h;rename_i fs a;cases h;simp[isAgg,run_underlying a];rename_i n e a;cases h;simp[isAgg,run_underlying a];rename_i d h1 h2 a;cases h;simp only[isAgg,Sem.run_bind,run_underlying a,Result.andThen_ok];simp_all;cases h
def SR{P}{t:Nat}{n:Nat}(h:BG P t=n)(hn:n≠0)(w:World):(sizeOf t).run P w=.ok n w:=by unfold BG at h;split at h;rename_i i a;subst h;simp[sizeOf,typeInfo,a];omega
def Z9L{P}{w:World}{t}{g off:Nat}{l:List AV}{o:Nat}{x:AV}{ρ:ZM}{Im:Nat->Prop}(z:∀(j:Nat) (a:AV),l[j]?=U a->∃v,w.cell? ⟨g,off+j,V⟩=U v/\v.oneCell'=X/\Zk ρ w Im a v)(f:ND P t l o=U x) :∃v,(loadVar t ⟨g,off+o,V⟩).run P w=.ok v w/\Zk ρ w Im x v:=by
 unfold ND at f;split at f;rename_i b;split at f;rename_i h;cases f;have e:∀j,j<BG P t->∃v,w.cell? ⟨g,off+o+j,V⟩=U v/\v.oneCell'=X/\∀a,(seg l o (BG P t))[j]?=U a->Zk ρ w Im a v:=by
  intro j r;have s:(seg l o (BG P t))[j]?=l[o+j]?:=by simp[seg,r]
  have h2:j<(seg l o (BG P t)).length:=by omega
  have y:l[o+j]?=U (seg l o (BG P t))[j]:=by rw[<-s];exact T h2
  obtain⟨v,k1,q,n⟩:=z (o+j) _ y;refine⟨v,by rw[Nat.add_assoc];exact k1,q,λa p=>?_⟩;rw[s,y]at p;cases p;exact n
 have m:∀j,j<BG P t->w.cell? ((⟨g,off+o,V⟩:Addr).add j)=U ((w.cell? ⟨g,off+o+j,V⟩).getD undef):=by(intro j r;obtain⟨v,k1,_⟩:=e j r;rw[Addr.add_lit,k1];rfl)
 have k:=run_loadCells (P:=P) w ⟨g,off+o,V⟩ (BG P t) (λj=>(w.cell? ⟨g,off+o+j,V⟩).getD undef) m;refine⟨.agg _, ?_,.ag _ (((List.range (BG P t)).map λj=>(w.cell? ⟨g,off+o+j,V⟩).getD undef).toArray) ?_ ?_ ?_⟩;have hs:(sizeOf t).run P w=.ok (BG P t) w:=by
  unfold RS at b;unfold BG;cases c:P.info? t with|none=>simp[Program.underlying,c]at b|some i=>simp[sizeOf,typeInfo,c]
 simp[loadVar,Mw b,hs,k];simp[h];intro i v d;simp only[Li,C]at d;by_cases c:i<BG P t;obtain⟨u,k1,q,_⟩:=e i c;simp[c,k1]at d;subst d;exact q;simp[c]at d;intro i a v p d;simp only[Li,C]at d;by_cases c:i<BG P t;obtain⟨u,k1,_,n⟩:=e i c;simp[c,k1]at d;subst d;exact n a p;simp[c]at d;cases f;rename_i b;obtain⟨v,k1,q,n⟩:=z o x f;exact⟨v,by simp[loadVar,Mw b,k1],n⟩;cases f
def Eg(e:List DV):List AV:=e.map .d
def HY(o:Nat):Bool:=!Nat.beq o mpO
def Dg(P:Program)(t:Nat)(hs:List Hint)(x:AV)(H:Heap):Option Be:=
 match x with|.pt b i o=>(match HY o with|Y=>V|X=>match H b with|some (.box _ l)=>(match i with|0=>(ND P t l o).map λx=>⟨x,V,[]⟩|_+1=>V)|some (.arr _ _ els)=>(match hs with|.el e::_=>(ND P t (Eg e) o).map λx=>⟨x,V,[els[i]?=U e]⟩|_=>V)|_=>V)|.rp e o=>(ND P t (Eg e) o).map λx=>⟨x,V,[]⟩|_=>V
theorem NJ{ρ w Im}{b i o:Nat}{v}(h:Zk ρ w Im (.pt b i o) v):∃g s n,ρ b=U ⟨U g,s,n⟩/\v=ptV g s i o:=by cases h;grind
theorem DZ{g s i o:Nat}(h:HY o=X):ptV g s i o=.pointer (U ⟨g,i*s+o,V⟩):=by have:=Nat.ne_of_beq_eq_false (by grind[HY]:Nat.beq o mpO=Y);exact if_neg this
def RL{ρ w Im}{b i o:Nat}{v}(h:Zk ρ w Im (.pt b i o) v)(ho:HY o=X):∃g s n,ρ b=U ⟨U g,s,n⟩/\v=.pointer (U ⟨g,i*s+o,V⟩):=by grind[NJ,DZ]
def Z7e{P t H}{r:Be}{x xv hs Ow Im0 w0 ρ w Im clk}(I:Inv Ow Im0 w0 ρ w Im H clk)(hx:Zk ρ w Im x xv)(h:Dg P t hs x H=U r)(a6:B9 r.ph):∃p v,xv=.pointer (U p)/\(loadVar t p).run P w=.ok v w/\Zk ρ w Im r.val v/\r.up=V:=by
 have fin:∀(g o f:Nat) (l:List AV) (y:AV),xv=.pointer (U ⟨g,o+f,V⟩)->ND P t l f=U y ->
   (∀(j:Nat) (a:AV),l[j]?=U a->∃v,w.cell? ⟨g,o+j,V⟩=U v/\v.oneCell'=X/\Zk ρ w Im a v) ->
   ∃p v,xv=.pointer (U p)/\(loadVar t p).run P w=.ok v w/\Zk ρ w Im y v/\(V:Option (Nat×Z3))=V:=by
  intro g o f l y hv hp hc;obtain⟨v,k1,m⟩:=Z9L hc hp;exact⟨_,v,hv,k1,m,rfl⟩
 unfold Dg at h;split at h;rename_i b i f;split at h;cases h;rename_i a1;obtain⟨g,s,n,hρ,hv⟩:=RL hx a1;split at h;rename_i ty l hb;split at h;simp only[S]at h;obtain⟨y,hy,rfl⟩:=h;obtain⟨β,q,h2⟩:=I.blk b _ hb;rw[hρ]at q;cases q;obtain⟨_,_,g',cs,hg,hw,a3,u,c⟩:=h2;cases hg;refine fin g 0 f l y (by simpa using hv) hy λj a' k=>?_;have hj:j<cs.size:=by grind
 exact⟨cs[j],by grind[World.cell?],u j _ (by simp[hj]),c j a' _ k (by simp[hj])⟩;cases h;rename_i ty s' els hb;split at h;rename_i e _;simp only[S]at h;obtain⟨y,hy,rfl⟩:=h;have a0:els[i]?=U e:=by grind[B9]
 obtain⟨β,q,h2⟩:=I.blk b _ hb;rw[hρ]at q;cases q;obtain⟨z,a2,_,a4,h3⟩:=h2;simp only at z a2;subst z;rcases h3 with⟨h3,_⟩|⟨g',cs,hg,hw,a3,c⟩;cases h3;cases hg;refine fin g (i*s) f (Eg e) y hv hy λj a' k=>?_;simp only[Eg,C,S]at k;obtain⟨d,hd,rfl⟩:=k;obtain⟨v,k1,m⟩:=c i e j d a0 hd;have hj:i*s+j<cs.size:=(Array.getElem?_eq_some_iff.1 k1).1;exact⟨v,by grind[World.cell?],m.one,.d m⟩;cases h;cases h;rename_i e f;simp only[S]at h;obtain⟨y,hy,rfl⟩:=h;cases hx with|rp hp a5 hc =>rename_i p;refine fin p.block p.off f (Eg e) y rfl hy λj a' k=>?_;simp only[Eg,C,S]at k;obtain⟨d,hd,rfl⟩:=k;obtain⟨v,k1,m⟩:=hc j d hd;exact⟨v,k1,m.one,.d m⟩
 cases h
def Zdt{P}{o:Oper}{id t:Nat}{E:Operand->AV}{H:Heap}{r:Be}{x:Operand}{hs}(j:o.op=.load t x)(h:Dg P t hs (E x) H=U r):E3 P o id E H r:=by
 intro Ow c w0 ρ w Im clk a I i hH g b;obtain⟨p,v,d,e,f,h4⟩:=Z7e I (g x) h b;have:r.heap H=H:=by grind[Be.heap]
 rw[this];exact .inl ⟨v,w,by simp[execOp,j,Instr.loadAt,Instr.sureAddr,d,e],.same I f⟩
def splice(l:List AV)(o:Nat)(xs:List AV):List AV:=l.take o++xs++l.drop (o+xs.length)
def En(l:List DV)(o:Nat)(xs:List DV):List DV:=l.take o++xs++l.drop (o+xs.length)
def Z7q:AV->Option DV|.d x=>U x|_=>V
def So:List AV->Option (List DV)|[]=>U []|a::l=>match Z7q a,So l with|some x,some r=>U (x::r)|_,_=>V
def AA:∀{l:List AV} {e:List DV},So l=U e->l=Eg e
 |[],e,h=>by simp[So]at h;subst h;rfl
 |a::l,e,h=>by
  simp only[So]at h;split at h
  .rename_i x r b c;cases h;rw[AA c];cases a<;>simp[Z7q]at b;subst b;rfl
  .cases h
def O1(P:Program)(t:Nat)(hs:List Hint)(x y:AV)(H:Heap):Option Be:=
 match y.cells with
 |none=>V
 | some a=>if a.length=BG P t then
  match x with|.pt b i o=>(match HY o with|Y=>V|X=>match H b with|some (.box ty l)=>(match i with|0=>if o+a.length<=l.length then U ⟨.any,U (b,.box ty (splice l o a)),[]⟩else V|_+1=>V)|some (.arr ty s els)=>(match So a with|some ds=>(match hs with|.el e::.els l'::_=>if o+ds.length<=s then U ⟨.any,U (b,.arr ty s l'),[els[i]?=U e,els.set i (En e o ds)=l']⟩else V|.el e::_=>if o+ds.length<=s then U ⟨.any,U (b,.arr ty s (els.set i (En e o ds))),[els[i]?=U e]⟩else V|.els l'::_=>if o=0/\ds.length=s then U ⟨.any,U (b,.arr ty s l'),[i<els.length,els.set i ds=l']⟩else V|_=>if o=0/\ds.length=s then U ⟨.any,U (b,.arr ty s (els.set i ds)),[i<els.length]⟩else V)|none=>V)|_=>V)|_=>V
  else V
def SQ{α:Type}{l xs:List α}{o:Nat}(h:o+xs.length<=l.length):(l.take o++xs++l.drop (o+xs.length)).length=l.length:=by simp;omega
theorem A6{α:Type}{l xs:List α}{o:Nat}(h:o+xs.length<=l.length)(j:Nat) :(l.take o++xs++l.drop (o+xs.length))[j]?=if j<o then l[j]? else if j<o+xs.length then xs[j-o]? else l[j]?:=by
 grind
def Z85{P}{w:World}{t g off:Nat}{cs:Array Value}{ty:Nat}{v:Value}(d:w.heap[g]?=U (.cells cs ty (0,0)))(h:v.cells.size=BG P t)(a:(P.info? t).isSome=X)(b:off+v.cells.size<=cs.size)(c:∀(i:Nat) (u:Value),v.cells[i]?=U u->u.oneCell'=X) :(storeVar t ⟨g,off,V⟩ v).run P w=.ok () (w.setRow g (cs.toList.take off++v.cells.toList++cs.toList.drop (off+v.cells.toList.length)).toArray):=by
 obtain⟨i,e⟩:=Option.isSome_iff_exists.1 a;have f:i.size=v.cells.size:=by grind[BG]
 have:=run_storeCells_at P g off ty v.cells.toList 0 cs w d oq (λu hu=>by
  grind[List.getElem?_of_mem])
 simp only[Nat.add_zero]at this;simp[storeVar,sizeOf,typeInfo,e,f,this]
def Z79{P:Program}{o:Oper}{t:Nat}{x y:Operand}{Ow Im0 w0 ρ w Im H clk}{a:Act}(ho:o.op=.store t x y)(I:Inv Ow Im0 w0 ρ w Im H clk){b g s n off:Nat}{cs:Array Value}{ty:Nat}{B m:Z3}(hb:ρ b=U ⟨U g,s,n⟩)(hH:H b=U B)(p:B≠.dead)(q:w.heap[g]?=U (.cells cs ty (0,0)))(hv:a.eval x=.pointer (U ⟨g,off,V⟩))(e:(P.info? t).isSome=X)(r:(a.eval y).cells.size=BG P t)(f:off+(a.eval y).cells.size<=cs.size)(k:∀(i:Nat) (u:Value),(a.eval y).cells[i]?=U u->u.oneCell'=X)(z:∀w',Ext Im w w'->∀cs':Array Value,w'.heap[g]?=U (.cells cs' ty (0,0))->cs'.size=cs.size -> (∀j,cs'[j]?=if j<off then cs[j]? else if j<off+(a.eval y).cells.size then(a.eval y).cells[j-off]? else cs[j]?)->RelB ρ w' Im ⟨U g,s,n⟩ m) :Goes P o a w λv w'=>EY Ow Im0 w0 ρ w Im clk (Bm H b m) .any v w':=by
 have l:=Z85 (P:=P) (t:=t) q r e f k;have hl:off+(a.eval y).cells.toList.length<=cs.toList.length:=by omega
 have c:((cs.toList.take off++(a.eval y).cells.toList++cs.toList.drop (off+(a.eval y).cells.toList.length)).toArray).size=cs.size:=by grind
 have d:=I.put b g s n cs _ ty m hb q c ⟨B,hH,p⟩ (λhe=>z _ he _ (setRow_heap w g cs _ ty _ q) c (λj=>by
  grind))
 refine .inr ⟨_, ?_,ρ,d.1,d.2,λ_ _ h=>h,.any _⟩;simp[execOp,ho,Instr.storeAt,Instr.sureAddr,hv,l]
def Z3B{P}{t:Nat}(h:BG P t≠0):(P.info? t).isSome=X:=by grind[BG]
def Zgk{P}{o:Oper}{id t:Nat}{E:Operand->AV}{H:Heap}{r:Be}{x y:Operand}{hs}(ho:o.op=.store t x y)(hz:BG P t≠0)(h:O1 P t hs (E x) (E y) H=U r):E3 P o id E H r:=by
 intro Ow a7 w0 ρ w Im clk a I d4 hH hE a4;have hx:=hE x;have hy:=hE y;unfold O1 at h;split at h;cases h;rename_i ys d3;obtain⟨c1,c2,c3⟩:=hy.cells d3;split at h;rotate_left;cases h;rename_i c4;have c5:(a.eval y).cells.size=BG P t:=by rw[c1,c4]
 split at h;rotate_left;cases h;rename_i b i p c7;rw[c7]at hx;split at h;cases h;rename_i d1;obtain⟨g,s,n,hρ,hv⟩:=RL hx d1;split at h
 .rename_i ty l hb;split at h;rotate_left;cases h;split at h;rotate_left;cases h;rename_i m;cases h;obtain⟨β,h1,h2⟩:=I.blk b _ hb;rw[hρ]at h1;cases h1;obtain⟨a5,a3,g',cs,hg,hw,a1,a6,c⟩:=h2;cases hg;refine Z79 ho I hρ hb pq hw (off:=p) (by simpa using hv) (Z3B hz) c5 (by rw[c1];omega) c3 λw' he a8 b3 a0 f=>?_;refine⟨?_,a3,g,a8,rfl,b3, ?_, ?_, ?_⟩;simp only[splice];rw[SQ m];exact a5;rw[a0,a1];simp only[splice];rw[SQ m];intro j u z;rw[f]at z;split at z;exact a6 j u z;split at z;exact c3 _ u z;exact a6 j u z;intro j a' u ha z;rw[f]at z;simp only[splice]at ha;rw[A6 m]at ha;rw[c1]at z;split at z;rename_i h1;simp only[h1,if_true]at ha;exact(c j a' u ha z).mono he (λ_ h=>h) (λ_ _ h=>h) I.bnd;rename_i h1;simp only[h1,if_false]at ha;split at z;rename_i h2;simp only[h2,if_true]at ha;exact(c2 _ a' u ha z).mono he (λ_ h=>h) (λ_ _ h=>h) I.bnd;rename_i h2;simp only[h2,if_false]at ha;exact(c j a' u ha z).mono he (λ_ h=>h) (λ_ _ h=>h) I.bnd
 .rename_i ty s' els hb;split at h;rotate_left;cases h;rename_i ds c8;have c6:=AA c8;have a9:ds.length=ys.length:=by rw[c6];simp[Eg]
  obtain⟨β,h1,h2⟩:=I.blk b _ hb;rw[hρ]at h1;cases h1;obtain⟨a5,a3,b4,a2,h3⟩:=h2;simp only at a5 a3;subst a5;have fin:∀(e':List DV),e'.length=s->i<els.length->p+ys.length<=s->(∀j,e'[j]?=if j<p then(els[i]?.getD [])[j]? else if j<p+ds.length then ds[j-p]? else(els[i]?.getD [])[j]?) ->
    Goes P o a w λv w'=>EY Ow a7 w0 ρ w Im clk (Bm H b (.arr ty s (els.set i e'))) .any v w':=by
   intro e' c0 hi m b1;rcases h3 with⟨_,h3⟩|⟨g',cs,hg,hw,a1,c⟩
   .subst h3;simp at hi
   cases hg;have d5:i*s+s<=cs.size:=by
    have:(i+1)*s<=els.length*s:=Le s hi;rw[Lc]at this;omega
   refine Z79 ho I hρ hb pq hw (off:=i*s+p) hv (Z3B hz) c5 (by rw[c1];omega) c3 λw' he a8 b3 a0 f=>?_;refine⟨rfl,by simp[a3],by simpa using b4, ?_,.inr ⟨g,a8,rfl,b3,by rw[a0];simpa using a1, ?_⟩⟩
   .intro e c9;rcases List.mem_or_eq_of_mem_set c9 with h|h
    .exact a2 e h
    .rw[h];exact c0
   .intro k e j d hk q;rw[Lh]at hk;by_cases b9:i=k
    .subst b9;simp only[if_true,hi]at hk;cases hk;have d0:j<s:=by rw[<-c0];exact(Lb.1 q).1
     rw[b1]at q;have b7:els[i]?=U (els[i]?.getD []):=by rw[T hi];rfl
     by_cases b2:j<p
     .simp only[b2,if_true]at q;obtain⟨v,k1,k2⟩:=c i _ j d b7 q;exact⟨v,by rw[f];simp[b2,k1],k2.mono he (λ_ h=>h)⟩
     .simp only[b2,if_false]at q;by_cases b8:j<p+ds.length
      .simp only[b8,if_true]at q;have d2:ys[j-p]?=U (.d d):=by rw[c6];simp[Eg,q]
       have b5:j-p<(a.eval y).cells.size:=by rw[c1,<-a9];omega
       have hr:=c2 (j-p) _ _ d2 (Array.getElem?_eq_getElem b5);refine⟨_,by rw[f,if_neg oq,if_pos (by rw[c1,<-a9];omega),show i*s+j-(i*s+p)=j-p from by omega];exact Array.getElem?_eq_getElem b5, ?_⟩;cases hr with|d hr=>exact hr.mono he (λ_ h=>h)
      .simp only[b8,if_false]at q;obtain⟨v,k1,k2⟩:=c i _ j d b7 q;exact⟨v,by rw[f,if_neg oq,if_neg (by rw[c1,<-a9];omega)];exact k1,k2.mono he (λ_ h=>h)⟩
    .simp only[b9,if_false]at hk;obtain⟨v,k1,k2⟩:=c k e j d hk q;have b0:e.length=s:=a2 e (Lj hk);have d0:j<s:=by rw[<-b0];exact(Lb.1 q).1
     refine⟨v, ?_,k2.mono he (λ_ h=>h)⟩;rw[f];rcases Nat.lt_or_ge k i with hlt|hge
     .have:(k+1)*s<=i*s:=Le s hlt;rw[Lc]at this;rw[if_pos oq];exact k1
     .have:(i+1)*s<=k*s:=Le s oq;rw[Lc]at this;rw[if_neg oq,if_neg (by rw[c1];omega)];exact k1
  have whole:p=0/\ds.length=s->i<els.length->Goes P o a w λv w'=>EY Ow a7 w0 ρ w Im clk (Bm H b (.arr ty s (els.set i ds))) .any v w':=by
   rintro⟨rfl,b6⟩ hi;refine fin ds b6 hi oq λj=>?_;by_cases q:j<ds.length;simp[q];simp only[Nat.not_lt_zero,if_false,Nat.zero_add,q];rw[La oq];have:(els[i]?.getD []).length=s:=by rw[T hi];exact a2 _ (List.getElem_mem hi)
   rw[La oq]
  have part:∀e,els[i]?=U e->p+ds.length<=s->Goes P o a w λv w'=>EY Ow a7 w0 ρ w Im clk (Bm H b (.arr ty s (els.set i (En e p ds)))) .any v w':=by(intro e he m;have b0:e.length=s:=a2 e (Lj he);refine fin _ (by simp only[En];rw[SQ oq];exact b0) (Lb.1 he).1 oq λj=>?_;simp only[En];rw[A6 oq,he];rfl)
  split at h;rename_i e l' _;split at h;cases h;obtain⟨p1,p2⟩:els[i]?=U e/\els.set i (En e p ds)=l':=by simpa[B9]using a4
  rw[Be.heap,<-p2];exact part e p1 aa;cases h;rename_i e _ _;split at h;cases h;exact part e (by simpa[B9]using a4) aa;cases h;rename_i l' _;split at h;cases h;obtain⟨p1,p2⟩:i<els.length/\els.set i ds=l':=by simpa[B9]using a4
  rw[Be.heap,<-p2];exact whole aa p1;cases h;split at h;cases h;exact whole aa (by simpa[B9]using a4);cases h
 cases h
def Gn(k:IntKind)(n:Int)(a:List Prop):List Hint->Be|.int m::_=>⟨.d (.sc (.int k m)),V,(n=m)::a⟩|_=>⟨.d (.sc (.int k n)),V,a⟩
def Hv(b:Bool):List Hint->Be|.br c::_=>⟨.d (.sc (.bool c)),V,[b=c]⟩|_=>⟨.d (.sc (.bool b)),V,[]⟩
def Hm{P:Program}{o id}{E:Operand->AV}{H}{k:IntKind}{n:Int}{d:List Prop}{hs}(h:∀(ρ:ZM) (w:World) (Im:Nat->Prop) (a:Act),(∀x,Zk ρ w Im (E x) (a.eval x))->B9 d->(execOp a.eval o).run P w=.ok (.value (.int k n)) w):E3 P o id E H (Gn k n d hs):=by intro Ow e w0 ρ w Im clk a I _ _ c b;unfold Gn at b⊢;split at b;rename_i m _;obtain⟨rfl,f⟩:=Ha.1 b;exact .inl ⟨_,w,h ρ w Im a c f,.same I (.d (.sc _ rfl))⟩;exact .inl ⟨_,w,h ρ w Im a c b,.same I (.d (.sc _ rfl))⟩
def Rm{P:Program}{o id}{E:Operand->AV}{H}{b:Bool}{hs}(h:∀(ρ:ZM) (w:World) (Im:Nat->Prop) (a:Act),(∀x,Zk ρ w Im (E x) (a.eval x))->(execOp a.eval o).run P w=.ok (.value (.bool b)) w):E3 P o id E H (Hv b hs):=by
 intro Ow e w0 ρ w Im clk a I _ _ d c;unfold Hv at c⊢;split at c;rename_i m _;obtain rfl:b=m:=by grind[B9]
 exact .inl ⟨_,w,h ρ w Im a d,.same I (.d (.sc _ rfl))⟩;exact .inl ⟨_,w,h ρ w Im a d,.same I (.d (.sc _ rfl))⟩
def Tb:IntKind->IntKind->Bool|.i8,.i8|.i16,.i16|.i32,.i32|.i64,.i64|.u8,.u8|.u16,.u16|.u32,.u32|.u64,.u64=>X|_,_=>Y
theorem Z28{k a:IntKind}(h:Tb k a=X):k=a:=by cases k<;>cases a<;>first|rfl|simp[Tb]at h
def Z3y(c:BinOp)(k:IntKind)(a:Int)(d:IntKind)(b:Int)(hs:List Hint):Option Be:=
 match c with
 |.shl=>U (Gn k (k.wrap (a*2^(min b.toNat k.bits))) [0<=b] hs)
 |.shr=>U (Gn k (a.fdiv (2^(min b.toNat k.bits))) [0<=b] hs)
 | c=>if Tb k d then
  match c with|.add=>U (Gn k (k.wrap (a+b)) [] hs)|.sub=>U (Gn k (k.wrap (a-b)) [] hs)|.mul=>U (Gn k (k.wrap (a*b)) [] hs)|.quo=>U (Gn k (k.wrap (a.tdiv b)) [b≠0] hs)|.rem=>U (Gn k (a.tmod b) [b≠0] hs)|.and=>U (Gn k (bits .and k a b) [] hs)|.or=>U (Gn k (bits .or k a b) [] hs)|.xor=>U (Gn k (bits .xor k a b) [] hs)|.andNot=>U (Gn k (bits .andNot k a b) [] hs)|.eql=>U (Hv (a==b) hs)|.neq=>U (Hv (a != b) hs)|.lss=>U (Hv (decide (a<b)) hs)|.leq=>U (Hv (decide (a<=b)) hs)|.gtr=>U (Hv (decide (b<a)) hs)|.geq=>U (Hv (decide (b<=a)) hs)|_=>V
  else V
theorem BV{ρ w Im}{u v:Value}(h:Zk ρ w Im (.d (.sc u)) v):v=u:=by
 cases h with|d h=>cases h;rfl
def Zfp{P}{o:Oper}{id}{E:Operand->AV}{H}{r:Be}{x y:Operand}{f:BinOp}{t t':Nat}{k e:IntKind}{m n:Int}{hs:List Hint}(l:o.op=.binOp f t x y t')(p:E x=.d (.sc (.int k m)))(q:E y=.d (.sc (.int e n)))(h:Z3y f k m e n hs=U r):E3 P o id E H r:=by
 have b:∀(ρ:ZM) (w:World) (c:Nat->Prop) (a:Act),(∀x,Zk ρ w c (E x) (a.eval x)) ->
   (execOp a.eval o).run P w=((binOp f t (.int k m) (.int e n)).run P w).andThen λv w=>.ok (.value v) w:=by
  intro ρ w c a hE;have g:=BV (p▸hE x);have i:=BV (q▸hE y);simp[execOp,l,g,i,eqGuard_at_int]
 unfold Z3y at h;split at h;cases h;refine Hm λρ w c a hE hp=>?_;have d:0<=n:=by grind[B9]
 rw[b ρ w c a hE];simp[binOp_shl,Ll,show¬ n<0 from by omega];cases h;refine Hm λρ w c a hE hp=>?_;have d:0<=n:=by grind[B9]
 rw[b ρ w c a hE];simp[binOp_shr,Ll,show¬ n<0 from by omega];split at h;rename_i j;obtain rfl:=Z28 j;split at h<;>first|(cases h;done)|cases h
 exact Hm λρ w c a hE _=>by rw[b ρ w c a hE];simp[binOp_add,O]
 exact Hm λρ w c a hE _=>by rw[b ρ w c a hE];simp[binOp_sub,O]
 exact Hm λρ w c a hE _=>by rw[b ρ w c a hE];simp[binOp_mul,O]
 exact Hm λρ w c a hE hp=>by
  have d:n≠0:=by grind[B9]
  rw[b ρ w c a hE];simp[binOp_quo,Lk,d]
 exact Hm λρ w c a hE hp=>by
  have d:n≠0:=by grind[B9]
  rw[b ρ w c a hE];simp[binOp_rem,Lk,d]
 exact Hm λρ w c a hE _=>by rw[b ρ w c a hE];simp[binOp_and,intBits_and]
 exact Hm λρ w c a hE _=>by rw[b ρ w c a hE];simp[binOp_or,intBits_or]
 exact Hm λρ w c a hE _=>by rw[b ρ w c a hE];simp[binOp_xor,intBits_xor]
 exact Hm λρ w c a hE _=>by rw[b ρ w c a hE];simp[binOp_andNot,intBits_andNot]
 exact Rm λρ w c a hE=>by rw[b ρ w c a hE];simp[binOp_eql]
 exact Rm λρ w c a hE=>by rw[b ρ w c a hE];simp[binOp_neq]
 exact Rm λρ w c a hE=>by rw[b ρ w c a hE];simp[binOp_lss]
 exact Rm λρ w c a hE=>by rw[b ρ w c a hE];simp[binOp_leq]
 exact Rm λρ w c a hE=>by rw[b ρ w c a hE];simp[binOp_gtr]
 exact Rm λρ w c a hE=>by rw[b ρ w c a hE];simp[binOp_geq]
 cases h
def Sr(P:Program)(t:Nat):Bool:=match P.underlying t with|U .bool=>X|_=>Y
def Nr(P:Program)(t:Nat):Bool:=match P.underlying t with|U (.int _)=>X|_=>Y
def OI(P:Program):Nat->List Field->Bool|_,[]=>X|n,f::fs=>(f.offset==n&&!(f.name == "_")&&(Nr P f.type||Sr P f.type))&&OI P (n+1) fs
def Mo:Value->Value->Option Bool|.int k a,.int k' b=>if Tb k k' then U (a==b)else V|.bool a,.bool b=>U (a==b)|_,_=>V
def SN:List Value->List Value->Option Bool|[],_=>V|_::_,[]=>V|x::xs,y::ys=>match xs,ys with|[],[]=>Mo x y|xs,ys=>match Mo x y,SN xs ys with|some b,some r=>U (b&&r)|_,_=>V
def Z7l:AV->Option Value|.d (.sc v)=>U v|_=>V
def M4:List AV->Option (List Value)|[]=>U []|a::l=>match Z7l a,M4 l with|some x,some r=>U (x::r)|_,_=>V
def Z1y:∀{l:List AV} {e:List Value},M4 l=U e->l=e.map λv=>.d (.sc v)
 |[],e,h=>by grind[M4]
 |a::l,e,h=>by
  simp only[M4]at h;split at h
  .rename_i x r b c;cases h;rw[Z1y c];have:a=.d (.sc x):=by
    unfold Z7l at b;split at b
    .cases b;rfl
    .cases b
   rw[this];rfl
  .cases h
def ZdQ{P}{w:World}{t d:Nat}{x y:Value}{b:Bool}(ht:(Nr P t||Sr P t)=X)(h:Mo x y=U b)(hk:(Nr P t=X->∃k n,x=.int k n)/\(Nr P t=Y->∃b,x=.bool b)):(Z (d+1) t x y).run P w=.ok b w:=by unfold Mo at h;grind[Z28,Nr,run_equalIn_int,Sr,run_equalIn_bool']
def AQ(P:Program):List Field->List Value->Bool|f::fs,v::vs=>(match v with|.int _ _=>Nr P f.type|.bool _=>Sr P f.type&&!Nr P f.type|_=>Y)&&AQ P fs vs|[],[]=>X|_,_=>Y
def Z74{P}{w:World}{t n:Nat}{cs:Array Value}{v:Value}(ht:(Nr P t||Sr P t)=X)(h:cs[n]?=U v):(part t cs n).run P w=.ok v w:=by
 have a:RS P t=U Y:=by grind[RS,Nr,Sr]
 simp[part,Mw a,h]
def Z4x{P}{w:World}{d:Nat}{cs cs':Array Value}:∀{a:List Field} {xs i:List Value} {n:Nat} {b:Bool},OI P n a=X->AQ P a xs=X->SN xs i=U b -> (∀j v,xs[j]?=U v->cs[n+j]?=U v)->(∀j v,i[j]?=U v->cs'[n+j]?=U v)->(W (d+1) cs cs' a).run P w=.ok b w
 |[],xs,i,n,b,_,hk,he,_,_=>by
  grind[SN,AQ]
 |f::a,xs,i,n,b,hp,hk,he,hx,hy=>by
  cases xs with
  |nil=>grind[SN]
  |cons x xs =>
   cases i with
   |nil=>grind[SN]
   |cons y i =>
    simp only[OI,F,beq_iff_eq,Lf,beq_eq_false_iff_ne]at hp;obtain⟨⟨⟨c,e⟩,h⟩,g⟩:=hp;simp only[AQ,F]at hk;obtain⟨z,o⟩:=hk;have px:=Z74 (P:=P) (w:=w) (t:=f.type) (n:=f.offset) (cs:=cs) (v:=x) h (by rw[c];exact hx 0 x rfl);have py:=Z74 (P:=P) (w:=w) (t:=f.type) (n:=f.offset) (cs:=cs') (v:=y) h (by rw[c];exact hy 0 y rfl);have p:(Nr P f.type=X->∃k n,x=.int k n)/\(Nr P f.type=Y->∃b,x=.bool b):=by grind
    have one:∀l,Mo x y=U l->(W (d+1) cs cs' (f::a)).run P w=if l then(W (d+1) cs cs' a).run P w else .ok Y w:=by
     intro l u;simp only[W];rw[if_pos e];simp only[Sem.run_bind,px,py,Result.andThen_ok,ZdQ h u p];cases l<;>simp
    have s:∀r,SN xs i=U r->(W (d+1) cs cs' a).run P w=.ok r w:=λr hr =>
     Z4x g o hr (λj v q=>by have:=hx (j+1) v (by simpa using q);grind) (λj v q=>by have:=hy (j+1) v (by simpa using q);grind)
    unfold SN at he;split at he
    .rw[one b he];have m:a=[]:=by grind[AQ]
     subst m;cases b<;>simp[W]
    grind
def Pj(P:Program)(t:Nat):List Field:=match P.underlying t with|U (.struct fs)=>fs.toList|_=>[]
def Z73(P:Program)(t:Nat):Bool:=OI P 0 (Pj P t)&&!(P.stoodInHeld t)&&!(P.eqGuardType P.depth t)&&(match P.underlying t with|U (.struct _)=>X|_=>Y)
def OJ(P:Program)(neg:Bool)(t:Nat)(l a:List AV)(hs:List Hint):Option Be:=
 match M4 l,M4 a with
 | some xs,some ys=>if Z73 P t&&AQ P (Pj P t) xs then
  match SN xs ys with|some b=>U (Hv (if neg then !b else b) hs)|none=>V
  else V
 |_,_=>V
def Hx{ρ w Im}{l:List AV}{v}(h:Zk ρ w Im (.ag l) v):∃cs,v=.agg cs/\cs.size=l.length/\(∀(i:Nat) (u:Value),cs[i]?=U u->u.oneCell'=X)/\∀(i:Nat) (a:AV) (u:Value),l[i]?=U a->cs[i]?=U u->Zk ρ w Im a u:=by cases h<;>grind
def Z3Z{P}{o:Oper}{id}{E:Operand->AV}{H}{r:Be}{x y:Operand}{neg:Bool}{t t':Nat}{l l':List AV}{hs:List Hint}(n:o.op=.binOp (if neg then .neq else .eql) t x y t')(hx:E x=.ag l)(hy:E y=.ag l')(h:OJ P neg t l l' hs=U r):E3 P o id E H r:=by
 unfold OJ at h;split at h;rotate_left;cases h;rename_i p ys z a0;split at h;rotate_left;cases h;rename_i g;split at h;rotate_left;cases h;rename_i b hb;cases h;have e1:=Z1y z;have e2:=Z1y a0;simp only[Z73,F,Lf]at g;obtain⟨⟨⟨⟨h1,h2⟩,h3⟩,h4⟩,h5⟩:=g;refine Rm λρ w Im a hE=>?_;obtain⟨e,hv,hn,_,hc⟩:=Hx (hx▸hE x);obtain⟨c,k,s,_,q⟩:=Hx (hy▸hE y);have a3:P.underlying t=U (.struct (P.fieldsOf t)):=by grind[Program.fieldsOf]
 have a2:Pj P t=(P.fieldsOf t).toList:=by grind[Pj]
 have m:∀(e:Array Value) (p:List Value) (l:List AV),l=p.map (λv=>AV.d (.sc v))->e.size=l.length->(∀(i:Nat) (a:AV) (u:Value),l[i]?=U a->e[i]?=U u->Zk ρ w Im a u) ->
   ∀j v,p[j]?=U v->e[0+j]?=U v:=by grind[BV]
 have a1:=Z4x (P:=P) (w:=w) (d:=9998) (cs:=e) (cs':=c) h1 h5 hb (m e p l e1 hn hc) (m c ys l' e2 s q);have f:(Z 10000 t (.agg e) (.agg c)).run P w=.ok b w:=by grind[run_equalIn_struct]
 cases neg with|false =>simp only[L,if_false]at n⊢;simp[execOp,n,hv,k,run_eqGuard_agg (P:=P) w .eql t x y e c h3,run_eql_struct,f]|true =>simp only[if_true]at n⊢;simp[execOp,n,hv,k,run_eqGuard_agg (P:=P) w .neq t x y e c h3,run_neq_struct,f]
def Z0a(P:Program)(neg:Bool)(t:Nat)(a b:Bool)(hs:List Hint):Option Be:=if Sr P t then U (Hv (if neg then !(a==b)else a==b) hs)else V
def Z8M{P}{o:Oper}{id}{E:Operand->AV}{H}{r:Be}{x y:Operand}{neg:Bool}{t t':Nat}{p q:Bool}{hs:List Hint}(c:o.op=.binOp (if neg then .neq else .eql) t x y t')(g:E x=.d (.sc (.bool p)))(i:E y=.d (.sc (.bool q)))(h:Z0a P neg t p q hs=U r):E3 P o id E H r:=by
 unfold Z0a at h;split at h;rename_i ht;cases h;refine Rm λρ w Im a hE=>?_;have d:=BV (g▸hE x);have e:=BV (i▸hE y);have f:P.underlying t=U .bool:=by grind[Sr]
 have b:(Z 10000 t (.bool p) (.bool q)).run P w=.ok (p==q) w:=run_equalIn_bool' w 9999 t p q f;cases neg with|false =>simp only[L,if_false]at c⊢;simp[execOp,c,d,e,eqGuard_at_bool,binOp,N,M,b]|true =>simp only[if_true]at c⊢;simp[execOp,c,d,e,eqGuard_at_bool,binOp,N,M,b]
 cases h
def Z2T(P:Program)(c:BinOp)(t:Nat)(hs:List Hint)(x y:AV):Option Be:=
 match x,y with|.d (.sc (.int k a)),.d (.sc (.int k' b))=>Z3y c k a k' b hs|.d (.sc (.bool a)),.d (.sc (.bool b))=>(match c with|.eql=>Z0a P Y t a b hs|.neq=>Z0a P X t a b hs|_=>V)|.ag l,.ag l'=>(match c with|.eql=>OJ P Y t l l' hs|.neq=>OJ P X t l l' hs|_=>V)|_,_=>V
def ZgK{P}{o:Oper}{id}{E:Operand->AV}{H}{r:Be}{x y:Operand}{b:BinOp}{t t':Nat}{hs}(a:o.op=.binOp b t x y t')(h:Z2T P b t hs (E x) (E y)=U r):E3 P o id E H r:=by unfold Z2T at h;split at h;exact Zfp a aa aa h;split at h;exact Z8M (neg:=Y) a aa aa h;exact Z8M (neg:=X) a aa aa h;cases h;split at h;exact Z3Z (neg:=Y) a aa aa h;exact Z3Z (neg:=X) a aa aa h;cases h;cases h
def Pa(P:Program)(t:Nat):Bool:=match P.underlying t with|U (.slice _)=>X|_=>Y
def PP(P:Program)(neg:Bool)(t:Nat)(x:AV):Option Be:=match x,Pa P t with|.d (.sl _ els),true=>U ⟨.d (.sc (.bool neg)),V,[els≠[]]⟩|.d (.sc (.slice none _ _)),true=>U ⟨.d (.sc (.bool (!neg))),V,[]⟩|.d (.sc (.slice (some _) _ _)),true=>U ⟨.d (.sc (.bool neg)),V,[]⟩|_,_=>V
def Zlm{P:Program}{w:World}(d:Nat){t e:Nat}(a:P.underlying t=U (.slice e))(p:Option Addr)(m k n c:Nat):(Z (d+1) t (.slice p m k) (.slice V n c)).run P w=.ok p.isNone w:=by cases p<;>simp[Z,run_underlying a]
def isSlice{P}{t:Nat}(h:Pa P t=X):∃e,P.underlying t=U (.slice e):=by grind[Pa]
def Z22{P}{w:World}{a:Act}{o:Oper}{x:Operand}{neg:Bool}{t t' n c m k:Nat}{p:Option Addr}(d:o.op=.binOp (if neg then .neq else .eql) t x (.const (.slice V n c)) t')(h:Pa P t=X)(g:a.eval x=.slice p m k):(execOp a.eval o).run P w=.ok (.value (.bool (if neg then !p.isNone else p.isNone))) w:=by
 obtain⟨e,i⟩:=isSlice h;have b:(Z 10000 t (.slice p m k) (.slice V n c)).run P w=.ok p.isNone w:=Zlm 9999 i p m k n c;have f:a.eval (.const (.slice V n c))=.slice V n c:=rfl;cases neg with|false =>simp only[L,if_false]at d⊢;simp[execOp,d,g,f,eqGuard_at_slice,binOp,N,M,b]|true =>simp only[if_true]at d⊢;simp[execOp,d,g,f,eqGuard_at_slice,binOp,N,M,b]
def Z5G{P}{o:Oper}{id}{E:Operand->AV}{H}{r:Be}{x:Operand}{neg:Bool}{t t' n c:Nat}(j:o.op=.binOp (if neg then .neq else .eql) t x (.const (.slice V n c)) t')(h:PP P neg t (E x)=U r):E3 P o id E H r:=by
 unfold PP at h;intro Ow s w0 ρ w Im clk a I _ _ u z;have b:=u x;generalize l:a.eval x=v at b;split at h;rename_i els g e;cases h;have y:els≠[]:=by grind[B9]
 rw[g]at b;cases b with
 |d b =>
  cases b with|slNil=>grind|sl s' q p m k f=>exact .inl ⟨.bool neg,w,by rw[Z22 j e l];grind,.same I (.d (.sc _ rfl))⟩
 rename_i g e;cases h;rw[g]at b;have i:=BV b;exact .inl ⟨.bool (!neg),w,by rw[Z22 j e (l.trans i)];grind,.same I (.d (.sc _ rfl))⟩;rename_i g e;cases h;rw[g]at b;have i:=BV b;exact .inl ⟨.bool neg,w,by rw[Z22 j e (l.trans i)];grind,.same I (.d (.sc _ rfl))⟩;cases h
def Z37(P:Program)(t:Nat):Bool:=match P.underlying t with|U (.interface _)=>X|_=>Y
def Z0x(P:Program)(neg:Bool)(t:Nat)(x:AV):Option Be:=match x,Z37 P t with|.ic _ _,true=>U ⟨.d (.sc (.bool neg)),V,[]⟩|.d (.sc .nilIface),true=>U ⟨.d (.sc (.bool (!neg))),V,[]⟩|_,_=>V
def isIface{P}{t:Nat}(h:Z37 P t=X):∃m,P.underlying t=U (.interface m):=by grind[Z37]
def Zg5{P:Program}{w:World}(d:Nat){t u:Nat}{m:Array (String×TypeId)}(v:Value)(a:P.underlying t=U (.interface m)):(Z (d+1) t (.iface u v) .nilIface).run P w=.ok Y w:=by simp[Z,run_underlying a]
def Zke{P:Program}{w:World}(d:Nat){t:Nat}{m:Array (String×TypeId)}(a:P.underlying t=U (.interface m)):(Z (d+1) t .nilIface .nilIface).run P w=.ok X w:=by simp[Z,run_underlying a]
def Z7c{P}{o:Oper}{id}{E:Operand->AV}{H}{r:Be}{x:Operand}{neg:Bool}{t t':Nat}(ho:o.op=.binOp (if neg then .neq else .eql) t x (.const .nilIface) t')(h:Z0x P neg t (E x)=U r):E3 P o id E H r:=by
 unfold Z0x at h;have e2:∀a:Act,a.eval (.const .nilIface)=.nilIface:=λ_=>rfl;split at h;rename_i u b hx ht;cases h;obtain⟨m,hu⟩:=isIface ht;intro Ow Im0 w0 ρ w Im clk a I _ _ hE hph;have h1:=hE x;rw[hx]at h1;generalize hv:a.eval x=v at h1;cases h1 with|@ic _ _ v1 h1 =>have heq:(Z 10000 t (.iface u v1) .nilIface).run P w=.ok Y w:=Zg5 9999 v1 hu;refine .inl ⟨.bool neg,w, ?_,.same I (.d (.sc _ rfl))⟩;cases neg<;>simp only[L,if_false,if_true]at ho⊢ <;> simp[execOp,ho,hv,e2,eqGuard_at_iface,binOp,N,M,heq]
 rename_i hx ht;cases h;obtain⟨m,hu⟩:=isIface ht;intro Ow Im0 w0 ρ w Im clk a I _ _ hE hph;have h1:=BV (hx▸hE x);have heq:(Z 10000 t .nilIface .nilIface).run P w=.ok X w:=Zke 9999 hu;refine .inl ⟨.bool (!neg),w, ?_,.same I (.d (.sc _ rfl))⟩;cases neg<;>simp only[L,if_false,if_true]at ho⊢ <;> simp[execOp,ho,h1,e2,eqGuard,binOp,N,M,heq];cases h
def Z1Q(P:Program)(a:BinOp)(t:Nat)(hs:List Hint)(x:AV)(b:Operand)(y:AV):Option Be:=
 match b with|.const (.slice none _ _)=>(match a with|.eql=>PP P Y t x|.neq=>PP P X t x|_=>V)|.const .nilIface=>(match a with|.eql=>Z0x P Y t x|.neq=>Z0x P X t x|_=>V)|_=>Z2T P a t hs x y
def Ziv{P}{o:Oper}{id}{E:Operand->AV}{H}{r:Be}{x y:Operand}{b:BinOp}{t t':Nat}{hs}(a:o.op=.binOp b t x y t')(h:Z1Q P b t hs (E x) y (E y)=U r):E3 P o id E H r:=by unfold Z1Q at h;split at h;split at h;exact Z5G (neg:=Y) a h;exact Z5G (neg:=X) a h;cases h;split at h;exact Z7c (neg:=Y) a h;exact Z7c (neg:=X) a h;cases h;exact ZgK a h
def Z1k(a:UnOp)(hs:List Hint)(x:AV):Option Be:=
 match a,x with|.not,.d (.sc (.bool b))=>U (Hv (!b) hs)|.neg,.d (.sc (.int k n))=>U (Gn k (k.wrap (0-n)) [] hs)|_,_=>V
def Zam{P}{o:Oper}{id}{E:Operand->AV}{H}{r:Be}{x:Operand}{f:UnOp}{t:Nat}{hs}(e:o.op=.unOp f t x)(h:Z1k f hs (E x)=U r):E3 P o id E H r:=by
 unfold Z1k at h;split at h;rename_i b d;cases h;exact Rm λρ w Im a hE=>by have c:=BV (d▸hE x);simp[execOp,e,c,Lm]
 rename_i k n d;cases h;exact Hm λρ w Im a hE _=>by have c:=BV (d▸hE x);simp[execOp,e,c,Lm,O]
 cases h
def Z7m(P:Program)(t:Nat):Option IntKind:=match P.underlying t with|U (.int k)=>U k|_=>V
def Z1e(P:Program)(a dst:Nat)(hs:List Hint)(x:AV):Option Be:=
 match x with|.d (.sc (.int _ n))=>(match Z7m P dst,P.underlying a with|some k,some _=>U (Gn k (k.wrap n) [] hs)|_,_=>V)|_=>V
def ZaF{P}{o:Oper}{id}{E:Operand->AV}{H}{r:Be}{x:Operand}{b dst:Nat}{hs}(i:o.op=.convert b dst x)(h:Z1e P b dst hs (E x)=U r):E3 P o id E H r:=by unfold Z1e at h;split at h;rename_i k n j;split at h;rename_i k' d c g;cases h;refine Hm λρ w Im a hE _=>?_;have f:=BV (j▸hE x);unfold Z7m at c;split at c;rename_i k0 e;cases c;simp[execOp,i,f,convert,run_underlying g,run_underlying e,Conv.intToInt];cases c;cases h;cases h
end Go.Sx
