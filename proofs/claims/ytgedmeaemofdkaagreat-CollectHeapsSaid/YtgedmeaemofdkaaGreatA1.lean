/-
 The statement CollectHeaps: part 1.
 Conditions: none.
-/
import Derived.WalkKit
set_option maxRecDepth 100000
set_option maxHeartbeats 2000000
set_option linter.all false
open Option renaming some->U,none->V,map_eq_some_iff->S
open Bool renaming true->X,false->Y,false_eq_true->L,and_eq_true->La,not_eq_true'->Lg
open Go.Op renaming equalIn->Z,eqFields->W,equal->N,maxDepth->M,intArith->F,intDiv->Lm,shift->Ln,unary->Lo
open Go.RowKit.Below renaming heap_alloc->G
open List renaming getElem?_map->C,getElem?_eq_getElem->T,getElem?_eq_some_iff->O,getElem?_eq_none->Lb,getElem?_toArray->Lc,getD->Lh,getElem?_append_left->Li,getElem?_append_right->Lj,getElem?_set->Lk,mem_of_getElem?->Ll
open Nat renaming le_refl->R,add_mul->Ld,lt_of_lt_of_le->Le,mul_le_mul_right->Lf
namespace Go.Sx
def oq{p:Prop}(h:p:=by first|(dsimp+zetaDelta only;omega)|omega|(simp only[List.length_cons,List.length_nil];omega)):p:=h
def dd{p:Prop}(h:p:=by decide):p:=h
def kr{p:Prop}(h:p:=by kernel_rfl):p:=h
def aa{p:Prop}(h:p:=by assumption):p:=h
def pq{p:Prop}(h:p:=by simp):p:=h
def qo{p:Prop}(h:p:=by simp;omega):p:=h
end Go.Sx
namespace Go.Sx
inductive DV where|sc (v:Value)|sl (s:Nat) (els:List (List DV))
inductive AV where|d (x:DV)|ag (l:List AV)|pt (b i o:Nat)|os (b o n:Nat)|ow (b:Nat)|rp (e:List DV) (o:Nat)|fn (f:Nat) (caps:List AV)|fm (f:Nat) (a:AV)|ic (t:Nat) (a:AV)|tu (l:List AV)|gd (g:Bool) (a:AV)|any
inductive Z4 where|box (ty:Nat) (cells:List AV)|arr (ty s:Nat) (els:List (List DV))|mp (keys:List Int)|dead
structure Bi where
 g:Option Nat
 s:Nat
 n:Nat
def rows(w:World)(g:Nat):Nat:=match w.heap[g]? with|U (.cells cs _ _)=>cs.size|_=>0
def big:Nat:=2^48
theorem Zkc:big=281474976710656:=by decide
inductive Cz (w:World) (Im:Nat->Prop):DV->Value->Prop
 |sc (v:Value) (h:v.oneCell'=X):Cz w Im (.sc v) v
 |slNil (s:Nat) (a:Option Addr) (c:Nat):Cz w Im (.sl s []) (.slice a 0 c)
 | sl (s:Nat) (els:List (List DV)) (p:Addr) (n c:Nat) (f:Nat->Nat->Value) (hn:els.length=n) (hc:n<=c) (hb:n<=big)
   (hs:∀e∈els,e.length=s) (hp:p.spot=V) (him:Im p.block)
   (hcell:∀(i:Nat) (e:List DV) (o:Nat) (x:DV),els[i]?=U e->e[o]?=U x->w.cell? ⟨p.block,p.off+(i*s+o),V⟩=U (f i o))
   (hrel:∀(i:Nat) (e:List DV) (o:Nat) (x:DV),els[i]?=U e->e[o]?=U x->Cz w Im x (f i o)):Cz w Im (.sl s els) (.slice (U p) n c)
structure Ext (Im:Nat->Prop) (w w':World):Prop where
 size:w.heap.size<=w'.heap.size
 im:∀g,Im g->w'.heap[g]?=w.heap[g]?
 rows:∀g,g<w.heap.size->rows w' g=rows w g
def Ext.refl Im w:Ext Im w w:=⟨R _,λ_ _=>rfl,λ_ _=>rfl⟩
def Ext.trans{Im a b c}(h:Ext Im a b)(k:Ext Im b c):Ext Im a c:=
 ⟨Nat.le_trans h.size k.size,λg d=>(k.im g d).trans (h.im g d),λg d=>(k.rows g (Le d h.size)).trans (h.rows g d)⟩
def Cz.one{w Im x v}(h:Cz w Im x v):v.oneCell'=X:=by cases h<;>first|assumption|rfl
def Cz.mono{w w'}{Im Im':Nat->Prop}{x v}(h:Cz w Im x v)(q:Ext Im w w')(r:∀g,Im g->Im' g):Cz w' Im' x v:=by
 induction h with|sc v h=>exact .sc v h|slNil s a c=>exact .slNil s a c|sl s els p n c f t m l y u d b _ z =>refine .sl s els p n c f t m l y u (r _ d) (λi e o x j k=>?_) (λi e o x j k=>z i e o x j k);rw[<-b i e o x j k];exact World.cell?_of_block (w:=w) (q.im _ d)
abbrev ZK:=Nat->Option Bi
def mpO:Nat:=99999
def ptV(g s i o:Nat):Value:=if o=mpO then .map (U g)else .pointer (U ⟨g,i*s+o,V⟩)
def Zdi g s i o:(ptV g s i o).oneCell'=X:=by unfold ptV;split<;>rfl
inductive Zj (ρ:ZK) (w:World) (Im:Nat->Prop):AV->Value->Prop
 |d {x:DV} {v:Value} (h:Cz w Im x v):Zj ρ w Im (.d x) v
 |ag (l:List AV) (cs:Array Value) (hn:cs.size=l.length) (hone:∀(i:Nat) (v:Value),cs[i]?=U v->v.oneCell'=X) (h:∀(i:Nat) (a:AV) (v:Value),l[i]?=U a->cs[i]?=U v->Zj ρ w Im a v):Zj ρ w Im (.ag l) (.agg cs)
 |pt {b i o g s n:Nat} (h:ρ b=U ⟨U g,s,n⟩):Zj ρ w Im (.pt b i o) (ptV g s i o)
 |os {b o n c:Nat} {a:Option Addr} {β:Bi} (h:ρ b=U β) (hn:o+n<=β.n) (hc:n<=c) (hb:n<=big) (ha:c=0\/∃g,β.g=U g/\a=U ⟨g,o*β.s,V⟩/\(o+c)*β.s<=rows w g):Zj ρ w Im (.os b o n) (.slice a n c)
 |ow {b c:Nat} {a:Option Addr} {β:Bi} (h:ρ b=U β) (hc:β.n<=c) (hb:β.n<=big) (ha:c=0\/∃g,β.g=U g/\a=U ⟨g,0,V⟩/\c*β.s<=rows w g):Zj ρ w Im (.ow b) (.slice a β.n c)
 | rp {e:List DV} {o:Nat} {p:Addr} (hp:p.spot=V) (him:Im p.block) (h:∀ (j:Nat) (x:DV),e[j]? = U x->∃ v,w.cell? ⟨p.block,p.off+j,V⟩=U v/\Cz w Im x v) :
   Zj ρ w Im (.rp e o) (.pointer (U ⟨p.block,p.off+o,V⟩))
 |fn {f:Nat} {caps:List AV} {cs:Array Value} (hn:cs.size=caps.length) (h:∀(i:Nat) (a:AV) (v:Value),caps[i]?=U a->cs[i]?=U v->Zj ρ w Im a v):Zj ρ w Im (.fn f caps) (.func (.func f) #[] cs)
 |fm {f:Nat} {a:AV} {v:Value} (h:Zj ρ w Im a v):Zj ρ w Im (.fm f a) (.func (.func f) #[v] #[])
 |ic {t:Nat} {a:AV} {v:Value} (h:Zj ρ w Im a v):Zj ρ w Im (.ic t a) (.iface t v)
 |tu (l:List AV) (cs:Array Value) (hn:cs.size=l.length) (h:∀(i:Nat) (a:AV) (v:Value),l[i]?=U a->cs[i]?=U v->Zj ρ w Im a v):Zj ρ w Im (.tu l) (.tuple cs)
 |gd {g:Bool} {a:AV} {v:Value} (h:g=X->Zj ρ w Im a v) (h':g=Y->v=undef):Zj ρ w Im (.gd g a) v
 |any (v:Value):Zj ρ w Im .any v
def Zj.mono{ρ ρ':ZK}{w w'}{Im Im':Nat->Prop}{a v}(h:Zj ρ w Im a v)(m:Ext Im w w')(t:∀g,Im g->Im' g)(u:∀b β,ρ b=U β->ρ' b=U β)(y:∀b β g,ρ b=U β->β.g=U g->g<w.heap.size):Zj ρ' w' Im' a v:=by
 induction h with|d h=>exact .d (h.mono m t)|ag l p i o _ c=>exact .ag l p i o c|pt h=>exact .pt (u _ _ h)|os h i s f r =>refine .os (u _ _ h) i s f (r.imp id λ⟨g,e,k,q⟩=>⟨g,e,k, ?_⟩);rw[m.rows g (y _ _ g h e)];exact q|ow h s f r =>refine .ow (u _ _ h) s f (r.imp id λ⟨g,e,k,q⟩=>⟨g,e,k, ?_⟩);rw[m.rows g (y _ _ g h e)];exact q|rp hp n h =>refine .rp hp (t _ n) λj x hx=>?_;obtain⟨v,e,k⟩:=h j x hx;exact⟨v,by rw[<-e];exact World.cell?_of_block (w:=w) (m.im _ n),k.mono m t⟩|fn i _ c=>exact .fn i c|fm _ c=>exact .fm c|ic _ c=>exact .ic c|tu l p i _ c=>exact .tu l p i c|gd _ z c=>exact .gd c z|any v=>exact .any v
def AV.one:AV->Bool|.d _|.pt .. |.os .. |.ow _|.rp .. |.fn .. |.ic .. => X|_=>Y
def Zj.one{ρ w Im a v}(h:Zj ρ w Im a v)(b:a.one=X):v.oneCell'=X:=by cases h<;>first|(exact Cz.one aa)|rfl|exact Zdi _ _ _ _|simp[AV.one]at b
def AV.cells:AV->Option (List AV)|.ag l=>U l|.d x=>U [.d x]|.pt b i o=>U [.pt b i o]|.os b o n=>U [.os b o n]|.ow b=>U [.ow b]|.rp e o=>U [.rp e o]|.fn f c=>U [.fn f c]|.ic t a=>U [.ic t a]|_=>V
def Z6d{v:Value}(h:v.oneCell'=X):v.cells=#[v]:=by cases v<;>first|rfl|simp[Value.oneCell']at h
def Zj.cells{ρ w Im a v}{l:List AV}(h:Zj ρ w Im a v)(hl:a.cells=U l) :v.cells.size=l.length/\(∀(i:Nat) (a:AV) (u:Value),l[i]?=U a->v.cells[i]?=U u->Zj ρ w Im a u)/\∀(i:Nat) (u:Value),v.cells[i]?=U u->u.oneCell'=X:=by
 have e:∀{a:AV},a.one=X->Zj ρ w Im a v->l=[a] ->
   v.cells.size=l.length/\(∀(i:Nat) (a:AV) (u:Value),l[i]?=U a->v.cells[i]?=U u->Zj ρ w Im a u)/\∀(i:Nat) (u:Value),v.cells[i]?=U u->u.oneCell'=X:=by
  intro a m h hl;subst hl;have k:=h.one m;rw[Z6d k];refine⟨rfl, ?_, ?_⟩
  .intro i a' u j f;cases i with|zero=>simp at j f;subst j;subst f;exact h|succ i=>simp at j
  .intro i u f;cases i with|zero=>simp at f;subst f;exact k|succ i=>simp at f
 cases h with|ag l' cs n g h =>simp only[AV.cells,Option.some.injEq]at hl;subst hl;exact⟨n,h,g⟩|d h=>exact e (by rfl) (.d h) (by simpa[AV.cells]using hl.symm)|pt h=>exact e (by rfl) (.pt h) (by simpa[AV.cells]using hl.symm)|os h a b c d=>exact e (by rfl) (.os h a b c d) (by simpa[AV.cells]using hl.symm)|ow h b c d=>exact e (by rfl) (.ow h b c d) (by simpa[AV.cells]using hl.symm)|rp a b c=>exact e (by rfl) (.rp a b c) (by simpa[AV.cells]using hl.symm)|fn a b=>exact e (by rfl) (.fn a b) (by simpa[AV.cells]using hl.symm)|ic a=>exact e (by rfl) (.ic a) (by simpa[AV.cells]using hl.symm)|tu=>simp[AV.cells]at hl|fm=>simp[AV.cells]at hl|gd=>simp[AV.cells]at hl|any=>simp[AV.cells]at hl
def RelB(ρ:ZK)(w:World)(Im:Nat->Prop)(β:Bi):Z4->Prop
 | .box ty cells=>β.s=cells.length/\β.n=1/\∃ g b,β.g=U g/\w.heap[g]? = U (.cells b ty (0,0))/\b.size=cells.length/\(∀ (i:Nat) (v:Value),b[i]? = U v->v.oneCell'=X) /\
   ∀(o:Nat) (a:AV) (v:Value),cells[o]?=U a->b[o]?=U v->Zj ρ w Im a v
 | .arr ty s els=>β.s=s/\β.n=els.length/\els.length<=big/\(∀ e∈els,e.length=s)/\((β.g=V/\els=[])\/∃ g b,β.g=U g/\w.heap[g]? = U (.cells b ty (0,0))/\els.length*s<=b.size /\
   ∀(i:Nat) (e:List DV) (o:Nat) (x:DV),els[i]?=U e->e[o]?=U x->∃v,b[i*s+o]?=U v/\Cz w Im x v)
 |.mp keys=>keys.length<=big/\∃g c clock,β.g=U g/\w.heap[g]?=U (.map c clock)/\c.size=keys.length/\∀(i:Nat) (e:MapEntry) (x:Int),c[i]?=U e->keys[i]?=U x->e.key=.int .u64 x/\e.val=.int .i64 i
 |.dead=>True
structure Kept (Ow:Nat->Prop) (w0 w:World):Prop where
 os:w.os=w0.os
 tape:w.tape=w0.tape
 output:w.output=w0.output
 size:w0.heap.size<=w.heap.size
 block:∀k,k<w0.heap.size->¬ Ow k->w.heap[k]?=w0.heap[k]?
 rows:∀k,k<w0.heap.size->rows w k=rows w0 k
def Kept.imp{A B:Nat->Prop}{w0 w}(h:Kept A w0 w)(a:∀g,A g->B g):Kept B w0 w:=⟨h.os,h.tape,h.output,h.size,λk b c=>h.block k b λq=>c (a k q),h.rows⟩
def Kept.refl Ow w:Kept Ow w w:=⟨rfl,rfl,rfl,R _,λ_ _ _=>rfl,λ_ _=>rfl⟩
abbrev Heap:=Nat->Option Z4
structure St where
 tmps:List AV
 H:Heap
 clk:Nat
def live(H:Heap)(b:Nat):Prop:=∃B,H b=U B/\B≠.dead
structure Own where
 p:Nat->Bi->Prop
 ds:List Deferred
instance:CoeFun Own (fun _=>Nat→Bi→Prop):=⟨Own.p⟩
def EG:Own:=⟨λ_ _=>False,[]⟩
def OwA(Ow:Own)(g:Nat):Prop:=∃b β,Ow b β/\β.g=U g
def GM(ρ:ZK):Own:=⟨λb β=>ρ b=U β,[]⟩
def OwA.no{g}(h:OwA EG g):False:=by obtain⟨_,_,h,_⟩:=h;exact h
structure Inv (Ow:Own) (Im0:Nat->Prop) (w0:World) (ρ:ZK) (w:World) (Im:Nat->Prop) (H:Heap) (clk:Nat):Prop where
 kept:Kept (OwA Ow) w0 w
 inj:∀b b' β β' g,live H b->live H b'->ρ b=U β->ρ b'=U β'->β.g=U g->β'.g=U g->b=b'
 notIm:∀b β g,live H b->ρ b=U β->β.g=U g->¬ Im g
 bnd:∀b β g,ρ b=U β->β.g=U g->g<w.heap.size
 own:∀b β g,ρ b=U β->β.g=U g->(w0.heap.size<=g/\8000<=b)\/OwA Ow g
 imb:∀g,Im g->g<w.heap.size
 im0:∀g,Im g->Im0 g\/w0.heap.size<=g\/OwA Ow g
 blk:∀b B,H b=U B->∃β,ρ b=U β/\RelB ρ w Im β B
 fresh:∀b,clk*8000<=b->H b=V->ρ b=V
 one:1<=clk/\∀b β,b<8000->ρ b=U β->Ow b β
def RelB.mono{ρ ρ':ZK}{w w'}{Im Im':Nat->Prop}{β B}(h:RelB ρ w Im β B)(t:Ext Im w w')(u:∀g,Im g->Im' g)(hρ:∀b β,ρ b=U β->ρ' b=U β)(hb:∀b β g,ρ b=U β->β.g=U g->g<w.heap.size)(r:∀g,β.g=U g->w'.heap[g]?=w.heap[g]?):RelB ρ' w' Im' β B:=by
 cases B with|box ty cells =>obtain⟨f,n,g,m,d,j,k,p,l⟩:=h;exact⟨f,n,g,m,d,by rw[r g d];exact j,k,p,λo a v ha hv=>(l o a v ha hv).mono t u hρ hb⟩|arr ty s els =>obtain⟨f,d,q,j,k⟩:=h;refine⟨f,d,q,j,k.imp id λ⟨g,m,l,h5,h6,h7⟩=>⟨g,m,l,by rw[r g l];exact h5,h6,λi e o x hx hy=>?_⟩⟩;obtain⟨v,h8,h9⟩:=h7 i e o x hx hy;exact⟨v,h8,h9.mono t u⟩|mp y =>obtain⟨f,g,z,c,d,j,k⟩:=h;exact⟨f,g,z,c,d,by rw[r g d];exact j,k⟩|dead=>trivial
structure Ck (D:List Deferred) (ρ:ZK) (w:World) (Im:Nat->Prop) (tmps:List AV) (a:Act):Prop where
 size:a.tmps.size=tmps.length
 tmp:∀(i:Nat) (x:AV) (v:Value),tmps[i]?=U x->a.tmps[i]?=U v->Zj ρ w Im x v
 defers:a.defers=D
def Ck.mono{D}{ρ ρ':ZK}{w w'}{Im Im':Nat->Prop}{tmps a}(h:Ck D ρ w Im tmps a)(f:Ext Im w w')(j:∀g,Im g->Im' g)(k:∀b β,ρ b=U β->ρ' b=U β)(e:∀b β g,ρ b=U β->β.g=U g->g<w.heap.size):Ck D ρ' w' Im' tmps a:=
 ⟨h.size,λi x v c d=>(h.tmp i x v c d).mono f j k e,h.defers⟩
def Ck.put{D ρ w Im tmps a}(h:Ck D ρ w Im tmps a)(t:Nat){x v}(hx:Zj ρ w Im x v) :Ck D ρ w Im (tmps.set t x) (a.put (U t) v):=by refine⟨by simp[Act.put,h.size],λi y u b c=>?_,h.defers⟩;simp only[Act.put,Array.getElem?_setIfInBounds]at c;rw[Lk]at b;by_cases d:t=i;subst d;simp only[if_true]at b c;split at b<;>split at c<;>simp_all;simp only[d,if_false]at b c;exact h.tmp i y u b c
def C5(ρ:ZK)(b:Nat)(β:Bi):ZK:=λk=>if k=b then U β else ρ k
def Be(H:Heap)(b:Nat)(B:Z4):Heap:=λk=>if k=b then U B else H k
theorem GD{H b B k}(h:live (Be H b B) k)(e:¬ k=b):live H k:=by obtain⟨c,a,d⟩:=h;unfold Be at a;rw[if_neg e]at a;exact⟨c,a,d⟩
def Z1G{H b B k}(hl:live H b)(h:live (Be H b B) k):live H k:=by by_cases a:k=b;rw[a];exact hl;exact GD h a
def Mp{Ow:Own}{ρ:ZK}{clk id:Nat}{β:Bi}(h:1<=clk/\∀b β,b<8000->ρ b=U β->Ow b β)(d:clk*8000<=id):1<=clk/\∀b κ,b<8000->C5 ρ id β b=U κ->Ow b κ:=by refine⟨h.1,λb κ c a=>?_⟩;unfold C5 at a;split at a;have:=h.1;omega;exact h.2 b κ c a
theorem HF ρ b β:C5 ρ b β b=U β:=by simp[C5]
def H0{ρ:ZK}{b:Nat}{β}(h:ρ b=V):∀k κ,ρ k=U κ->C5 ρ b β k=U κ:=by intro k κ a;unfold C5;split;subst k;rw[h]at a;cases a;exact a
def Ext.alloc(Im:Nat->Prop)(w:World) o(h:∀g,Im g->g<w.heap.size):Ext Im w (w.alloc o):=
 ⟨by simp,λg a=>G _ _ _ (h g a),λg a=>by unfold Sx.rows;rw[G _ _ _ a]⟩
theorem heap_alloc_new(w:World) o:(w.alloc o).heap[w.heap.size]?=U o:=by show(w.heap.push o)[w.heap.size]?=U o;simp
section
variable{Ow:Own}{Im0:Nat->Prop}{w0:World}{ρ:ZK}{w:World}{Im:Nat->Prop}{H:Heap}{clk:Nat}
theorem Inv.junk(I:Inv Ow Im0 w0 ρ w Im H clk) o:Inv Ow Im0 w0 ρ (w.alloc o) Im H clk:=by have d:=Ext.alloc Im w o I.imb;refine⟨?_,I.inj,I.notIm,λb β g h e=>?_,I.own,λg h=>?_,I.im0,λb B h=>?_,I.fresh,I.one⟩;have k:=I.kept;refine⟨k.os,k.tape,k.output,by have:=k.size;simp;omega,λi a l=>?_,λi a=>?_⟩;rw[G _ _ _ (Le a k.size)];exact k.block i a l;rw[d.rows i (Le a k.size)];exact k.rows i a;have:=I.bnd b β g h e;simp;omega;have:=I.imb g h;simp;omega;obtain⟨β,c,f⟩:=I.blk b B h;exact⟨β,c,f.mono d (λ_ h=>h) (λ_ _ h=>h) I.bnd (λg j=>G _ _ _ (I.bnd b β g c j))⟩
theorem Inv.draw(I:Inv Ow Im0 w0 ρ w Im H clk):Inv Ow Im0 w0 ρ w.drew Im H clk:=
 ⟨⟨I.kept.os,I.kept.tape,I.kept.output,I.kept.size,I.kept.block,I.kept.rows⟩,I.inj,I.notIm,I.bnd,I.own,I.imb,I.im0,
  λb B h=>let ⟨β,a,c⟩:=I.blk b B h;⟨β,a,c.mono (w':=w.drew) ⟨R _,λ_ _=>rfl,λ_ _=>rfl⟩ (λ_ h=>h) (λ_ _ h=>h) I.bnd (λ_ _=>rfl)⟩,I.fresh,I.one⟩
theorem Ext.draw Im w:Ext Im w w.drew:=⟨R _,λ_ _=>rfl,λ_ _=>rfl⟩
theorem Inv.addO(I:Inv Ow Im0 w0 ρ w Im H clk)(id:Nat)(f:clk*8000<=id)(t:H id=V) o(s n:Nat) B(r:RelB (C5 ρ id ⟨U w.heap.size,s,n⟩) (w.alloc o) Im ⟨U w.heap.size,s,n⟩ B) :Inv Ow Im0 w0 (C5 ρ id ⟨U w.heap.size,s,n⟩) (w.alloc o) Im (Be H id B) clk:=by have p:=I.fresh id f t;have u:=Ext.alloc Im w o I.imb;have J:=I.junk o;refine⟨J.kept, ?_, ?_, ?_, ?_,J.imb,J.im0, ?_, ?_,Mp I.one f⟩;intro b m β β' g y z d e i j;unfold C5 at d e;split at d<;>split at e;omega;cases d;simp at i;have:=I.bnd m β' g e j;omega;cases e;simp at j;have:=I.bnd b β g d i;omega;exact I.inj b m β β' g (GD y aa) (GD z aa) d e i j;intro b β g l h c;unfold C5 at h;split at h;cases h;simp at c;intro x;have:=I.imb g x;omega;exact I.notIm b β g (GD l aa) h c;intro b β g h c;unfold C5 at h;split at h;cases h;simp at c;simp;omega;have:=I.bnd b β g h c;simp;omega;intro b β g h c;unfold C5 at h;split at h;rename_i a;cases h;simp at c;have:=I.kept.size;have:=I.one;exact .inl ⟨by omega,by omega⟩;exact I.own b β g h c;intro b q h;unfold Be at h;split at h;cases h;rename_i k;exact⟨_,by rw[k];exact HF _ _ _,r⟩;obtain⟨β,d,e⟩:=I.blk b q h;exact⟨β,H0 p _ _ d,e.mono u (λ_ h=>h) (H0 p) I.bnd (λg v=>G _ _ _ (I.bnd b β g d v))⟩;intro b k h;unfold Be at h;unfold C5;split;rename_i a;simp[a]at h;rename_i a;simp only[a,if_false]at h;exact I.fresh b k h
theorem Inv.add(I:Inv Ow Im0 w0 ρ w Im H clk)(id:Nat)(a:clk*8000<=id)(c:H id=V)(cs:Array Value)(ty s n:Nat) B(b:RelB (C5 ρ id ⟨U w.heap.size,s,n⟩) (w.alloc (.cells cs ty)) Im ⟨U w.heap.size,s,n⟩ B) :Inv Ow Im0 w0 (C5 ρ id ⟨U w.heap.size,s,n⟩) (w.alloc (.cells cs ty)) Im (Be H id B) clk:=I.addO id a c _ s n B b
theorem SZ(w:World)(g:Nat)(cs cs':Array Value)(ty:Nat)(a:w.heap[g]?=U (.cells cs ty (0,0)))(hs:cs'.size=cs.size)(k:Nat) :rows (w.setRow g cs') k=rows w k:=by by_cases b:k=g;subst b;unfold rows;rw[setRow_heap w k cs cs' ty (0,0) a,a];simpa using hs;unfold rows;rw[setRow_other w g k cs' b]
theorem Inv.turn(I:Inv Ow Im0 w0 ρ w Im H clk)(b:Nat)(g s n:Nat)(w':World) B(o:ρ b=U ⟨U g,s,n⟩)(a:live H b)(f:w'.os=w.os/\w'.tape=w.tape/\w'.output=w.output)(j:w'.heap.size=w.heap.size)(c:∀k,k≠g->w'.heap[k]?=w.heap[k]?)(d:∀k,rows w' k=rows w k)(hB:Ext Im w w'->RelB ρ w' Im ⟨U g,s,n⟩ B):Inv Ow Im0 w0 ρ w' Im (Be H b B) clk/\Ext Im w w':=by
 have r:Ext Im w w':=⟨by omega,λk hk=>c k (λe=>I.notIm b _ g a o rfl (e▸hk)),λk _=>d k⟩;refine⟨⟨?_,λb m β β' g l1 l2=>I.inj b m β β' g (Z1G a l1) (Z1G a l2),λb β g l=>I.notIm b β g (Z1G a l),λb β g h h'=>by rw[j];exact I.bnd b β g h h',I.own,λg h=>by rw[j];exact I.imb g h,I.im0, ?_, ?_,I.one⟩,r⟩;have k:=I.kept;refine⟨f.1.trans k.os,f.2.1.trans k.tape,f.2.2.trans k.output,by rw[j];exact k.size,λi u z=>?_,λi u=>(d i).trans (k.rows i u)⟩;have:i≠g:=by(rintro rfl;rcases I.own b _ i o rfl with⟨h,_⟩|h;omega;exact z h)
 rw[c i this];exact k.block i u z;intro m x h;unfold Be at h;split at h;cases h;rename_i e;rw[e];exact⟨_,o,hB r⟩;rename_i v;obtain⟨β,p,h2⟩:=I.blk m x h;cases x with|dead=>exact⟨β,p,trivial⟩|_ =>refine⟨β,p,h2.mono r (λ_ h=>h) (λ_ _ h=>h) I.bnd (λy t=>c y ?_)⟩;rintro rfl;exact v (I.inj m b β _ y ⟨_,h,by simp⟩ a p o t rfl)
 intro m q h;unfold Be at h;split at h;cases h;exact I.fresh m q h
theorem Inv.put(I:Inv Ow Im0 w0 ρ w Im H clk)(b:Nat)(g s n:Nat)(cs cs':Array Value)(ty:Nat) B(d:ρ b=U ⟨U g,s,n⟩)(e:w.heap[g]?=U (.cells cs ty (0,0)))(hs:cs'.size=cs.size)(a:live H b)(c:Ext Im w (w.setRow g cs')->RelB ρ (w.setRow g cs') Im ⟨U g,s,n⟩ B):Inv Ow Im0 w0 ρ (w.setRow g cs') Im (Be H b B) clk/\Ext Im w (w.setRow g cs'):=
 I.turn b g s n _ B d a ⟨rfl,rfl,rfl⟩ (by simp[World.setRow]) (λk f=>setRow_other w g k cs' f) (SZ w g cs cs' ty e hs) c
end
def Goes(P:Program)(o:Oper)(a:Act)(w:World)(K:Value->World->Prop):Prop:=
 (∃v b,(execOp a.eval o).run P w=.ok (.value v) b/\K v b)\/∃b,(execOp a.eval o).run P w=.ok .skip b/\K undef b
def Goes.wp{P o a w K}{next:Act->World->Prop}{Q}(h:Goes P o a w K)(b:∀v w',K v w'->next (a.put o.dst v) w'):o.wp P a w next Q:=by rcases h with⟨v,w',h,k⟩|⟨w',h,k⟩;simp only[Oper.wp,h,Oper.upon_value];exact b v w' k;simp only[Oper.wp,h,Oper.upon_skip];exact b undef w' k
def ET(Ow:Own)(Im0:Nat->Prop)(w0:World)(ρ:ZK)(w:World)(Im:Nat->Prop)(clk:Nat)(H':Heap)(x:AV)(v:Value)(w':World):Prop:=
 ∃ρ',Inv Ow Im0 w0 ρ' w' Im H' clk/\Ext Im w w'/\(∀b β,ρ b=U β->ρ' b=U β)/\Zj ρ' w' Im x v
def cv1:Value->AV|.slice none 0 0=>.d (.sl 0 [])|v=>.d (.sc v)
def D9(l:List Value):Bool:=l.all (·.oneCell')
def cv:Value->AV|.agg cs=>if D9 cs.toList then .ag (cs.toList.map cv1)else .any|.tuple _=>.any|v=>cv1 v
theorem Z0i ρ w Im(v:Value)(h:v.oneCell'=X):Zj ρ w Im (cv1 v) v:=by unfold cv1;split;exact .d (.slNil 0 V 0);exact .d (.sc _ h)
def Rf ρ w Im v:Zj ρ w Im (cv v) v:=by
 unfold cv;split;rename_i d;split;rename_i h;simp only[D9,List.all_eq_true]at h;have b:∀(i:Nat) (u:Value),d[i]?=U u->u.oneCell'=X:=λi u c=>h u (by
  have:=Array.mem_of_getElem? c;simpa using this)
 refine .ag _ _ pq b λi a u e c=>?_;have g:d.toList[i]?=U u:=by simpa using c
 simp only[C,g,Option.map_some,Option.some.injEq]at e;subst e;exact Z0i ρ w Im u (b i u c);exact .any _;exact .any _;rename_i b f;exact Z0i ρ w Im v (by cases v<;>first|rfl|(exfalso;first|exact b _ rfl|exact f _ rfl))
def ev(tmps:List AV):Operand->AV|.tmp t=>tmps.getD t .any|.const v=>cv v|.global _=>.any|.func f=>.fn f []
theorem CU{D ρ w Im tmps a}(h:Ck D ρ w Im tmps a) x:Zj ρ w Im (ev tmps x) (a.eval x):=by
 cases x with
 |tmp t =>
  simp only[ev,Act.eval];by_cases b:t<tmps.length;have c:t<a.tmps.size:=by rw[h.size];exact b
  have d:tmps[t]?=U (tmps.getD t .any):=by simp[Lh,T b]
  have e:a.tmps[t]?=U (a.tmps.getD t undef):=by simp[Array.getD,c]
  exact h.tmp t _ _ d e;rw[show tmps.getD t .any=.any from by simp[Lh,Lb (Nat.le_of_not_lt b)]];exact .any _
 |const v=>exact Rf ρ w Im v
 |global g=>exact .any _
 |func f=>exact .fn pq pq
def strip:AV->AV|.gd _ a=>a|a=>a
inductive Hint where|br (b:Bool)|int (n:Int)|el (e:List DV)|els (l:List (List DV))|own|call (fr:Bool) (res:AV) (news:List Z4)|kill (res:AV)|bor (ls:List Nat) (res:AV) (post:List Z4)|gh (ty s:Nat)
def B3:List Prop->Prop|[]=>True|[p]=>p|p::q::r=>p/\B3 (q::r)
theorem GW{p:Prop}{l:List Prop}:B3 (p::l)↔p/\B3 l:=by cases l<;>simp[B3]
def GZ{l a:List Prop}:B3 (l++a)↔B3 l/\B3 a:=by
 induction l with|nil=>simp[B3]|cons p l b=>rw[List.cons_append,GW,GW,b,and_assoc]
structure B9 where
 val:AV
 up:Option (Nat×Z4)
 ph:List Prop
def B9.heap(r:B9)(H:Heap):Heap:=match r.up with|V=>H|U (k,B)=>Be H k B
def Bv(P:Program)(t:Nat):Nat:=match P.info? t with|U i=>i.size|V=>0
def zeroOf(P:Program)(t:Nat):Option Value:=match P.info? t with|U i=>i.zero|V=>V
def bytesOf(P:Program)(t:Nat):Nat:=match P.info? t with|U i=>i.bytes|V=>0
def Rb(P:Program)(t:Nat):Option Bool:=match P.underlying t with|U (.struct _)=>U X|U (.array _ _)=>U X|U _=>U Y|V=>V
abbrev CJ(P:Program)(o:Oper)(id:Nat)(E:Operand->AV)(H:Heap)(r:B9):Prop:=
 ∀(Ow:Own) (Im0:Nat->Prop) (w0:World) (ρ:ZK) (w:World) (Im:Nat->Prop) (clk:Nat) (a:Act),Inv Ow Im0 w0 ρ w Im H clk->clk*8000<=id->H id=V ->
  (∀x,Zj ρ w Im (E x) (a.eval x))->B3 r.ph->Goes P o a w λv w'=>ET Ow Im0 w0 ρ w Im clk (r.heap H) r.val v w'
def ET.same{Ow Im0 w0 ρ w Im clk H x v}(I:Inv Ow Im0 w0 ρ w Im H clk)(h:Zj ρ w Im x v):ET Ow Im0 w0 ρ w Im clk H x v w:=⟨ρ,I,Ext.refl _ _,λ_ _ h=>h,h⟩
def ET.box{Ow Im0 w0 ρ w Im clk H}{id ty:Nat}{x v}{l:List AV}(I:Inv Ow Im0 w0 ρ w Im H clk)(c:clk*8000<=id)(d:H id=V)(h:Zj ρ w Im x v)(hl:x.cells=U l) :ET Ow Im0 w0 ρ w Im clk (Be H id (.box ty l)) (.pt id 0 0) (.pointer (U ⟨w.heap.size,0,V⟩)) (w.alloc (.cells v.cells ty)):=by obtain⟨f,g,j⟩:=h.cells hl;have b:=H0 (β:=⟨U w.heap.size,l.length,1⟩) (I.fresh id c d);have e:=Ext.alloc Im w (.cells v.cells ty) I.imb;refine⟨C5 ρ id ⟨U w.heap.size,l.length,1⟩,I.add id c d _ _ _ _ _ ?_,e,b, ?_⟩;exact⟨rfl,rfl,w.heap.size,v.cells,rfl,heap_alloc_new _ _,f,j,λo a u k m=>(g o a u k m).mono e (λ_ h=>h) b I.bnd⟩;have:=Zj.pt (ρ:=C5 ρ id ⟨U w.heap.size,l.length,1⟩) (w:=w.alloc (.cells v.cells ty)) (Im:=Im) (i:=0) (o:=0) (HF ρ id ⟨U w.heap.size,l.length,1⟩);simpa[ptV,mpO]using this
def Z38(x:AV):B9:=⟨x,V,[]⟩
def Z5w{P}{o:Oper}{id E H}{x:Operand}(b:o.op=.move x\/o.op=.assign x):CJ P o id E H (Z38 (E x)):=by intro Ow c w0 ρ w Im clk a I _ _ d _;refine .inl ⟨a.eval x,w, ?_,.same I (d x)⟩;rcases b with b|b<;>simp[execOp,b]
def Pb{Ow Im0 w0 w ρ Im H}{clk id ty s:Nat}(I:Inv Ow Im0 w0 ρ w Im H clk)(i:clk*8000<=id)(o:H id=V):Inv Ow Im0 w0 (C5 ρ id ⟨V,s,0⟩) w Im (Be H id (.arr ty s [])) clk:=by have p:=I.fresh id i o;have c:=H0 (β:=⟨V,s,0⟩) p;refine⟨I.kept, ?_, ?_, ?_, ?_,I.imb,I.im0, ?_, ?_,Mp I.one i⟩;intro b n β β' g q r e f k m;unfold C5 at e f;split at e<;>split at f;omega;cases e;cases k;cases f;cases m;exact I.inj b n β β' g (GD q aa) (GD r aa) e f k m;intro b β g l h a;unfold C5 at h;split at h;cases h;cases a;exact I.notIm b β g (GD l aa) h a;intro b β g h a;unfold C5 at h;split at h;cases h;cases a;exact I.bnd b β g h a;intro b β g h a;unfold C5 at h;split at h;cases h;cases a;exact I.own b β g h a;intro b B h;unfold Be at h;split at h;cases h;rename_i j;exact⟨_,by rw[j];exact HF _ _ _,rfl,rfl,by simp[big],by simp,.inl ⟨rfl,rfl⟩⟩;obtain⟨β,e,f⟩:=I.blk b B h;exact⟨β,c _ _ e,f.mono (Ext.refl _ _) (λ_ h=>h) c I.bnd (λ_ _=>rfl)⟩;intro b j h;unfold Be at h;unfold C5;split;rename_i d;simp[d]at h;rename_i d;simp only[d,if_false]at h;exact I.fresh b j h
def Z1d(P:Program)(t id:Nat):Option B9:=match P.underlying t with|U (.slice e)=>U ⟨.ow id,U (id,.arr e (Bv P e) []),[]⟩|_=>V
def ZgM{P}{o:Oper}{id:Nat}{E H}{r:B9}(i:o.op=.assign (.const (.slice V 0 0)))(h:Z1d P o.type id=U r):CJ P o id E H r:=by intro Ow g w0 ρ w d clk a I b f _ _;unfold Z1d at h;split at h;rename_i e he;cases h;refine .inl ⟨.slice V 0 0,w,by simp[execOp,i,Act.eval],C5 ρ id ⟨V,Bv P e,0⟩,Pb I b f,Ext.refl _ _,H0 (I.fresh id b f), ?_⟩;have:=Zj.ow (ρ:=C5 ρ id ⟨V,Bv P e,0⟩) (w:=w) (Im:=d) (c:=0) (a:=V) (HF ρ id ⟨V,Bv P e,0⟩) (R _) (by simp[big]) (.inl rfl);exact this;cases h
def Z0M(P:Program)(t id:Nat):Option B9:=match zeroOf P t with|some z=>(match (cv z).cells with|some l=>U ⟨.pt id 0 0,U (id,.box t l),[]⟩|none=>V)|none=>V
def Zfl{P}{o:Oper}{id t:Nat}{E H}{r:B9}(k:o.op=.alloc t)(h:Z0M P t id=U r):CJ P o id E H r:=by intro Ow e w0 ρ w d clk a I c f _ _;unfold Z0M at h;split at h;rename_i z b;split at h;rename_i l j;cases h;refine .inl ⟨_,_, ?_,ET.box I c f (Rf ρ w d z) j⟩;unfold zeroOf at b;split at b;rename_i i g;simp[execOp,k,Instr.alloc,zeroValue,typeInfo,g,b,newVar,newRow];cases b;cases h;cases h
def Z2Y(t id:Nat)(x:AV):Option B9:=match x.cells with|U l=>U ⟨.pt id 0 0,U (id,.box t l),[]⟩|V=>V
def Zfu{P}{o:Oper}{id t:Nat}{E:Operand->AV}{H}{r:B9}{x:Operand}(g:o.op=.box t x)(h:Z2Y t id (E x)=U r):CJ P o id E H r:=by intro Ow c w0 ρ w Im clk a I b e d _;unfold Z2Y at h;split at h;rename_i l f;cases h;exact .inl ⟨_,_,by simp[execOp,g,Instr.box,newVar,newRow],ET.box I b e (d x) f⟩;cases h
def seg(l:List AV)(o k:Nat):List AV:=(l.drop o).take k
def NU(P:Program)(t:Nat)(l:List AV)(o:Nat):Option AV:=
 match Rb P t with|some true=>if(seg l o (Bv P t)).length=Bv P t then U (.ag (seg l o (Bv P t)))else V|some false=>l[o]?|none=>V
def Tz{P}{t:Nat}{b:Bool}(h:Rb P t=U b)(w:World):(isAgg t).run P w=.ok b w:=by
 unfold Rb at h;split at h;rename_i fs a;cases h;simp[isAgg,run_underlying a];rename_i n e a;cases h;simp[isAgg,run_underlying a];rename_i d c f a;cases h;simp only[isAgg,Sem.run_bind,run_underlying a,Result.andThen_ok];cases d<;>first|rfl|(exfalso;first|exact c _ rfl|exact f _ _ rfl)
 cases h
def RV{P}{t:Nat}{n:Nat}(h:Bv P t=n)(hn:n≠0)(w:World):(sizeOf t).run P w=.ok n w:=by unfold Bv at h;split at h;rename_i i a;subst h;simp[sizeOf,typeInfo,a];omega
def Z8q{P}{w:World}{t}{g off:Nat}{l:List AV}{o:Nat}{x:AV}{ρ:ZK}{Im:Nat->Prop}(z:∀(j:Nat) (a:AV),l[j]?=U a->∃v,w.cell? ⟨g,off+j,V⟩=U v/\v.oneCell'=X/\Zj ρ w Im a v)(f:NU P t l o=U x) :∃v,(loadVar t ⟨g,off+o,V⟩).run P w=.ok v w/\Zj ρ w Im x v:=by
 unfold NU at f;split at f;rename_i b;split at f;rename_i h;cases f;have e:∀j,j<Bv P t->∃v,w.cell? ⟨g,off+o+j,V⟩=U v/\v.oneCell'=X/\∀a,(seg l o (Bv P t))[j]?=U a->Zj ρ w Im a v:=by
  intro j r;have s:(seg l o (Bv P t))[j]?=l[o+j]?:=by simp[seg,r]
  have h2:j<(seg l o (Bv P t)).length:=by omega
  have y:l[o+j]?=U (seg l o (Bv P t))[j]:=by rw[<-s];exact T h2
  obtain⟨v,k1,q,n⟩:=z (o+j) _ y;refine⟨v,by rw[Nat.add_assoc];exact k1,q,λa p=>?_⟩;rw[s,y]at p;cases p;exact n
 have m:∀j,j<Bv P t->w.cell? ((⟨g,off+o,V⟩:Addr).add j)=U ((w.cell? ⟨g,off+o+j,V⟩).getD undef):=by(intro j r;obtain⟨v,k1,_⟩:=e j r;rw[Addr.add_lit,k1];rfl)
 have k:=run_loadCells (P:=P) w ⟨g,off+o,V⟩ (Bv P t) (λj=>(w.cell? ⟨g,off+o+j,V⟩).getD undef) m;refine⟨.agg _, ?_,.ag _ (((List.range (Bv P t)).map λj=>(w.cell? ⟨g,off+o+j,V⟩).getD undef).toArray) ?_ ?_ ?_⟩;have hs:(sizeOf t).run P w=.ok (Bv P t) w:=by
  unfold Rb at b;unfold Bv;cases c:P.info? t with|none=>simp[Program.underlying,c]at b|some i=>simp[sizeOf,typeInfo,c]
 simp[loadVar,Tz b,hs,k];simp[h];intro i v d;simp only[Lc,C]at d;by_cases c:i<Bv P t;obtain⟨u,k1,q,_⟩:=e i c;simp[c,k1]at d;subst d;exact q;simp[c]at d;intro i a v p d;simp only[Lc,C]at d;by_cases c:i<Bv P t;obtain⟨u,k1,_,n⟩:=e i c;simp[c,k1]at d;subst d;exact n a p;simp[c]at d;cases f;rename_i b;obtain⟨v,k1,q,n⟩:=z o x f;exact⟨v,by simp[loadVar,Tz b,k1],n⟩;cases f
def E8(e:List DV):List AV:=e.map .d
def HI(o:Nat):Bool:=!Nat.beq o mpO
def Dz(P:Program)(t:Nat)(hs:List Hint)(x:AV)(H:Heap):Option B9:=
 match x with|.pt b i o=>(match HI o with|Y=>V|X=>match H b with|some (.box _ l)=>(match i with|0=>(NU P t l o).map λx=>⟨x,V,[]⟩|_+1=>V)|some (.arr _ _ els)=>(match hs with|.el e::_=>(NU P t (E8 e) o).map λx=>⟨x,V,[els[i]?=U e]⟩|_=>V)|_=>V)|.rp e o=>(NU P t (E8 e) o).map λx=>⟨x,V,[]⟩|_=>V
def NP{ρ w Im}{b i o:Nat}{v}(h:Zj ρ w Im (.pt b i o) v):∃g s n,ρ b=U ⟨U g,s,n⟩/\v=ptV g s i o:=by cases h;exact⟨_,_,_,aa,rfl⟩
theorem Dl{g s i o:Nat}(h:HI o=X):ptV g s i o=.pointer (U ⟨g,i*s+o,V⟩):=by have:=Nat.ne_of_beq_eq_false (by simpa[HI]using h:Nat.beq o mpO=Y);exact if_neg this
def R9{ρ w Im}{b i o:Nat}{v}(h:Zj ρ w Im (.pt b i o) v)(d:HI o=X):∃g s n,ρ b=U ⟨U g,s,n⟩/\v=.pointer (U ⟨g,i*s+o,V⟩):=by obtain⟨g,s,n,a,c⟩:=NP h;exact⟨g,s,n,a,c.trans (Dl d)⟩
def Z84{P t H}{r:B9}{x xv hs Ow Im0 w0 ρ w Im clk}(I:Inv Ow Im0 w0 ρ w Im H clk)(hx:Zj ρ w Im x xv)(h:Dz P t hs x H=U r)(a4:B3 r.ph):∃p v,xv=.pointer (U p)/\(loadVar t p).run P w=.ok v w/\Zj ρ w Im r.val v/\r.up=V:=by
 have fin:∀(g o k:Nat) (l:List AV) (y:AV),xv=.pointer (U ⟨g,o+k,V⟩)->NU P t l k=U y ->
   (∀(j:Nat) (a:AV),l[j]?=U a->∃v,w.cell? ⟨g,o+j,V⟩=U v/\v.oneCell'=X/\Zj ρ w Im a v) ->
   ∃p v,xv=.pointer (U p)/\(loadVar t p).run P w=.ok v w/\Zj ρ w Im y v/\(V:Option (Nat×Z4))=V:=by
  intro g o k l y hv hp hc;obtain⟨v,k1,m⟩:=Z8q hc hp;exact⟨_,v,hv,k1,m,rfl⟩
 unfold Dz at h;split at h;rename_i b i k;split at h;cases h;rename_i a2;obtain⟨g,s,n,hρ,hv⟩:=R9 hx a2;split at h;rename_i ty l hb;split at h;simp only[S]at h;obtain⟨y,hy,rfl⟩:=h;obtain⟨β,q,h2⟩:=I.blk b _ hb;rw[hρ]at q;cases q;obtain⟨_,_,g',cs,hg,hw,a0,u,c⟩:=h2;cases hg;refine fin g 0 k l y (by simpa using hv) hy λj a' f=>?_;have hj:j<cs.size:=by rw[a0];exact(O.1 f).1
 exact⟨cs[j],by simp[World.cell?,hw,hj],u j _ (by simp[hj]),c j a' _ f (by simp[hj])⟩;cases h;rename_i ty s' els hb;split at h;rename_i e _;simp only[S]at h;obtain⟨y,hy,rfl⟩:=h;have a1:els[i]?=U e:=by simpa[B3]using a4
 obtain⟨β,q,h2⟩:=I.blk b _ hb;rw[hρ]at q;cases q;obtain⟨z,a3,_,a5,h3⟩:=h2;simp only at z a3;subst z;rcases h3 with⟨h3,_⟩|⟨g',cs,hg,hw,a0,c⟩;cases h3;cases hg;refine fin g (i*s) k (E8 e) y hv hy λj a' f=>?_;simp only[E8,C,S]at f;obtain⟨d,hd,rfl⟩:=f;obtain⟨v,k1,m⟩:=c i e j d a1 hd;have hj:i*s+j<cs.size:=(Array.getElem?_eq_some_iff.1 k1).1;exact⟨v,by simp[World.cell?,hw,k1],m.one,.d m⟩;cases h;cases h;rename_i e k;simp only[S]at h;obtain⟨y,hy,rfl⟩:=h;cases hx with|rp hp a6 hc =>rename_i p;refine fin p.block p.off k (E8 e) y rfl hy λj a' f=>?_;simp only[E8,C,S]at f;obtain⟨d,hd,rfl⟩:=f;obtain⟨v,k1,m⟩:=hc j d hd;exact⟨v,k1,m.one,.d m⟩
 cases h
def ZbQ{P}{o:Oper}{id t:Nat}{E:Operand->AV}{H:Heap}{r:B9}{x:Operand}{hs}(k:o.op=.load t x)(h:Dz P t hs (E x) H=U r):CJ P o id E H r:=by
 intro Ow c w0 ρ w Im clk a I j hH i b;obtain⟨p,v,d,e,f,g⟩:=Z84 I (i x) h b;have:r.heap H=H:=by simp[B9.heap,g]
 rw[this];exact .inl ⟨v,w,by simp[execOp,k,Instr.loadAt,Instr.sureAddr,d,e],.same I f⟩
def splice(l:List AV)(o:Nat)(xs:List AV):List AV:=l.take o++xs++l.drop (o+xs.length)
def Et(l:List DV)(o:Nat)(xs:List DV):List DV:=l.take o++xs++l.drop (o+xs.length)
def Z7Z:AV->Option DV|.d x=>U x|_=>V
def Sa:List AV->Option (List DV)|[]=>U []|a::l=>match Z7Z a,Sa l with|some x,some r=>U (x::r)|_,_=>V
def SN:∀{l:List AV} {e:List DV},Sa l=U e->l=E8 e
 |[],e,h=>by simp[Sa]at h;subst h;rfl
 |a::l,e,h=>by
  simp only[Sa]at h;split at h
  .rename_i x r b c;cases h;rw[SN c];cases a<;>simp[Z7Z]at b;subst b;rfl
  .cases h
def Px(P:Program)(t:Nat)(hs:List Hint)(x y:AV)(H:Heap):Option B9:=
 match y.cells with
 |none=>V
 | some a=>if a.length=Bv P t then
  match x with|.pt b i o=>(match HI o with|Y=>V|X=>match H b with|some (.box ty l)=>(match i with|0=>if o+a.length<=l.length then U ⟨.any,U (b,.box ty (splice l o a)),[]⟩else V|_+1=>V)|some (.arr ty s els)=>(match Sa a with|some ds=>(match hs with|.el e::.els l'::_=>if o+ds.length<=s then U ⟨.any,U (b,.arr ty s l'),[els[i]?=U e,els.set i (Et e o ds)=l']⟩else V|.el e::_=>if o+ds.length<=s then U ⟨.any,U (b,.arr ty s (els.set i (Et e o ds))),[els[i]?=U e]⟩else V|.els l'::_=>if o=0/\ds.length=s then U ⟨.any,U (b,.arr ty s l'),[i<els.length,els.set i ds=l']⟩else V|_=>if o=0/\ds.length=s then U ⟨.any,U (b,.arr ty s (els.set i ds)),[i<els.length]⟩else V)|none=>V)|_=>V)|_=>V
  else V
def Rc{α:Type}{l xs:List α}{o:Nat}(h:o+xs.length<=l.length):(l.take o++xs++l.drop (o+xs.length)).length=l.length:=by simp;omega
theorem Sn{α:Type}{l xs:List α}{o:Nat}(h:o+xs.length<=l.length)(j:Nat) :(l.take o++xs++l.drop (o+xs.length))[j]?=if j<o then l[j]? else if j<o+xs.length then xs[j-o]? else l[j]?:=by
 have c:(l.take o).length=o:=by simp;omega
 by_cases a:j<o
 .simp only[a,if_true,List.append_assoc];rw[Li oq,List.getElem?_take_of_lt a]
 .simp only[a,if_false];by_cases b:j<o+xs.length
  .simp only[b,if_true];rw[Li qo,Lj oq,c]
  .simp only[b,if_false];rw[Lj qo,List.getElem?_drop];congr 1;simp;omega
def Z4D{P}{w:World}{t g off:Nat}{cs:Array Value}{ty:Nat}{v:Value}(f:w.heap[g]?=U (.cells cs ty (0,0)))(b:v.cells.size=Bv P t)(a:(P.info? t).isSome=X)(c:off+v.cells.size<=cs.size)(d:∀(i:Nat) (u:Value),v.cells[i]?=U u->u.oneCell'=X) :(storeVar t ⟨g,off,V⟩ v).run P w=.ok () (w.setRow g (cs.toList.take off++v.cells.toList++cs.toList.drop (off+v.cells.toList.length)).toArray):=by
 obtain⟨i,e⟩:=Option.isSome_iff_exists.1 a;have j:i.size=v.cells.size:=by unfold Bv at b;rw[e]at b;exact b.symm
 have:=run_storeCells_at P g off ty v.cells.toList 0 cs w f (by simpa using c) (λu l=>by
  obtain⟨k,h⟩:=List.getElem?_of_mem l;exact d k u (by simpa using h))
 simp only[Nat.add_zero]at this;simp[storeVar,sizeOf,typeInfo,e,j,this]
def Z5d{P:Program}{o:Oper}{t:Nat}{x y:Operand}{Ow Im0 w0 ρ w Im H clk}{a:Act}(ho:o.op=.store t x y)(I:Inv Ow Im0 w0 ρ w Im H clk){b g s n off:Nat}{cs:Array Value}{ty:Nat}{B m:Z4}(hb:ρ b=U ⟨U g,s,n⟩)(hH:H b=U B)(p:B≠.dead)(q:w.heap[g]?=U (.cells cs ty (0,0)))(hv:a.eval x=.pointer (U ⟨g,off,V⟩))(f:(P.info? t).isSome=X)(r:(a.eval y).cells.size=Bv P t)(c:off+(a.eval y).cells.size<=cs.size)(k:∀(i:Nat) (u:Value),(a.eval y).cells[i]?=U u->u.oneCell'=X)(hB:∀w',Ext Im w w'->∀cs':Array Value,w'.heap[g]?=U (.cells cs' ty (0,0))->cs'.size=cs.size -> (∀j,cs'[j]?=if j<off then cs[j]? else if j<off+(a.eval y).cells.size then(a.eval y).cells[j-off]? else cs[j]?)->RelB ρ w' Im ⟨U g,s,n⟩ m) :Goes P o a w λv w'=>ET Ow Im0 w0 ρ w Im clk (Be H b m) .any v w':=by
 have l:=Z4D (P:=P) (t:=t) q r f c k;have z:off+(a.eval y).cells.toList.length<=cs.toList.length:=by simpa using c
 have d:((cs.toList.take off++(a.eval y).cells.toList++cs.toList.drop (off+(a.eval y).cells.toList.length)).toArray).size=cs.size:=by(rw[List.size_toArray,Rc z];simp)
 have e:=I.put b g s n cs _ ty m hb q d ⟨B,hH,p⟩ (λhe=>hB _ he _ (setRow_heap w g cs _ ty _ q) d (λj=>by
  rw[Lc,Sn z];simp))
 refine .inr ⟨_, ?_,ρ,e.1,e.2,λ_ _ h=>h,.any _⟩;simp[execOp,ho,Instr.storeAt,Instr.sureAddr,hv,l]
def Z39{P}{t:Nat}(h:Bv P t≠0):(P.info? t).isSome=X:=by
 unfold Bv at h;cases hi:P.info? t with|none=>simp[hi]at h|some i=>rfl
def Zcu{P}{o:Oper}{id t:Nat}{E:Operand->AV}{H:Heap}{r:B9}{x y:Operand}{hs}(ho:o.op=.store t x y)(hz:Bv P t≠0)(h:Px P t hs (E x) (E y) H=U r):CJ P o id E H r:=by
 intro Ow a7 w0 ρ w Im clk a I d4 hH hE a4;have hx:=hE x;have hy:=hE y;unfold Px at h;split at h;cases h;rename_i ys d3;obtain⟨c1,c2,c3⟩:=hy.cells d3;split at h;rotate_left;cases h;rename_i c4;have c5:(a.eval y).cells.size=Bv P t:=by rw[c1,c4]
 split at h;rotate_left;cases h;rename_i b i p c7;rw[c7]at hx;split at h;cases h;rename_i d1;obtain⟨g,s,n,hρ,hv⟩:=R9 hx d1;split at h
 .rename_i ty l hb;split at h;rotate_left;cases h;split at h;rotate_left;cases h;rename_i m;cases h;obtain⟨β,h1,h2⟩:=I.blk b _ hb;rw[hρ]at h1;cases h1;obtain⟨a5,a3,g',cs,hg,hw,a1,a6,c⟩:=h2;cases hg;refine Z5d ho I hρ hb pq hw (off:=p) (by simpa using hv) (Z39 hz) c5 (by rw[c1];omega) c3 λw' he a8 b3 a0 f=>?_;refine⟨?_,a3,g,a8,rfl,b3, ?_, ?_, ?_⟩;simp only[splice];rw[Rc m];exact a5;rw[a0,a1];simp only[splice];rw[Rc m];intro j u z;rw[f]at z;split at z;exact a6 j u z;split at z;exact c3 _ u z;exact a6 j u z;intro j a' u ha z;rw[f]at z;simp only[splice]at ha;rw[Sn m]at ha;rw[c1]at z;split at z;rename_i h1;simp only[h1,if_true]at ha;exact(c j a' u ha z).mono he (λ_ h=>h) (λ_ _ h=>h) I.bnd;rename_i h1;simp only[h1,if_false]at ha;split at z;rename_i h2;simp only[h2,if_true]at ha;exact(c2 _ a' u ha z).mono he (λ_ h=>h) (λ_ _ h=>h) I.bnd;rename_i h2;simp only[h2,if_false]at ha;exact(c j a' u ha z).mono he (λ_ h=>h) (λ_ _ h=>h) I.bnd
 .rename_i ty s' els hb;split at h;rotate_left;cases h;rename_i ds c8;have c6:=SN c8;have a9:ds.length=ys.length:=by rw[c6];simp[E8]
  obtain⟨β,h1,h2⟩:=I.blk b _ hb;rw[hρ]at h1;cases h1;obtain⟨a5,a3,b4,a2,h3⟩:=h2;simp only at a5 a3;subst a5;have fin:∀(e':List DV),e'.length=s->i<els.length->p+ys.length<=s->(∀j,e'[j]?=if j<p then(els[i]?.getD [])[j]? else if j<p+ds.length then ds[j-p]? else(els[i]?.getD [])[j]?) ->
    Goes P o a w λv w'=>ET Ow a7 w0 ρ w Im clk (Be H b (.arr ty s (els.set i e'))) .any v w':=by
   intro e' c0 hi m b1;rcases h3 with⟨_,h3⟩|⟨g',cs,hg,hw,a1,c⟩
   .subst h3;simp at hi
   cases hg;have d5:i*s+s<=cs.size:=by
    have:(i+1)*s<=els.length*s:=Lf s hi;rw[Ld]at this;omega
   refine Z5d ho I hρ hb pq hw (off:=i*s+p) hv (Z39 hz) c5 (by rw[c1];omega) c3 λw' he a8 b3 a0 f=>?_;refine⟨rfl,by simp[a3],by simpa using b4, ?_,.inr ⟨g,a8,rfl,b3,by rw[a0];simpa using a1, ?_⟩⟩
   .intro e c9;rcases List.mem_or_eq_of_mem_set c9 with h|h
    .exact a2 e h
    .rw[h];exact c0
   .intro k e j d hk q;rw[Lk]at hk;by_cases b9:i=k
    .subst b9;simp only[if_true,hi]at hk;cases hk;have d0:j<s:=by rw[<-c0];exact(O.1 q).1
     rw[b1]at q;have b7:els[i]?=U (els[i]?.getD []):=by rw[T hi];rfl
     by_cases b2:j<p
     .simp only[b2,if_true]at q;obtain⟨v,k1,k2⟩:=c i _ j d b7 q;exact⟨v,by rw[f];simp[b2,k1],k2.mono he (λ_ h=>h)⟩
     .simp only[b2,if_false]at q;by_cases b8:j<p+ds.length
      .simp only[b8,if_true]at q;have d2:ys[j-p]?=U (.d d):=by rw[c6];simp[E8,q]
       have b5:j-p<(a.eval y).cells.size:=by rw[c1,<-a9];omega
       have hr:=c2 (j-p) _ _ d2 (Array.getElem?_eq_getElem b5);refine⟨_,by rw[f,if_neg oq,if_pos (by rw[c1,<-a9];omega),show i*s+j-(i*s+p)=j-p from by omega];exact Array.getElem?_eq_getElem b5, ?_⟩;cases hr with|d hr=>exact hr.mono he (λ_ h=>h)
      .simp only[b8,if_false]at q;obtain⟨v,k1,k2⟩:=c i _ j d b7 q;exact⟨v,by rw[f,if_neg oq,if_neg (by rw[c1,<-a9];omega)];exact k1,k2.mono he (λ_ h=>h)⟩
    .simp only[b9,if_false]at hk;obtain⟨v,k1,k2⟩:=c k e j d hk q;have b0:e.length=s:=a2 e (Ll hk);have d0:j<s:=by rw[<-b0];exact(O.1 q).1
     refine⟨v, ?_,k2.mono he (λ_ h=>h)⟩;rw[f];rcases Nat.lt_or_ge k i with hlt|hge
     .have:(k+1)*s<=i*s:=Lf s hlt;rw[Ld]at this;rw[if_pos oq];exact k1
     .have:(i+1)*s<=k*s:=Lf s oq;rw[Ld]at this;rw[if_neg oq,if_neg (by rw[c1];omega)];exact k1
  have whole:p=0/\ds.length=s->i<els.length->Goes P o a w λv w'=>ET Ow a7 w0 ρ w Im clk (Be H b (.arr ty s (els.set i ds))) .any v w':=by
   rintro⟨rfl,b6⟩ hi;refine fin ds b6 hi oq λj=>?_;by_cases q:j<ds.length;simp[q];simp only[Nat.not_lt_zero,if_false,Nat.zero_add,q];rw[Lb oq];have:(els[i]?.getD []).length=s:=by rw[T hi];exact a2 _ (List.getElem_mem hi)
   rw[Lb oq]
  have part:∀e,els[i]?=U e->p+ds.length<=s->Goes P o a w λv w'=>ET Ow a7 w0 ρ w Im clk (Be H b (.arr ty s (els.set i (Et e p ds)))) .any v w':=by(intro e he m;have b0:e.length=s:=a2 e (Ll he);refine fin _ (by simp only[Et];rw[Rc oq];exact b0) (O.1 he).1 oq λj=>?_;simp only[Et];rw[Sn oq,he];rfl)
  split at h;rename_i e l' _;split at h;cases h;obtain⟨p1,p2⟩:els[i]?=U e/\els.set i (Et e p ds)=l':=by simpa[B3]using a4
  rw[B9.heap,<-p2];exact part e p1 aa;cases h;rename_i e _ _;split at h;cases h;exact part e (by simpa[B3]using a4) aa;cases h;rename_i l' _;split at h;cases h;obtain⟨p1,p2⟩:i<els.length/\els.set i ds=l':=by simpa[B3]using a4
  rw[B9.heap,<-p2];exact whole aa p1;cases h;split at h;cases h;exact whole aa (by simpa[B3]using a4);cases h
 cases h
def Gg(k:IntKind)(n:Int)(a:List Prop):List Hint->B9|.int m::_=>⟨.d (.sc (.int k m)),V,(n=m)::a⟩|_=>⟨.d (.sc (.int k n)),V,a⟩
def He(b:Bool):List Hint->B9|.br c::_=>⟨.d (.sc (.bool c)),V,[b=c]⟩|_=>⟨.d (.sc (.bool b)),V,[]⟩
def Ha{P:Program}{o id}{E:Operand->AV}{H}{k:IntKind}{n:Int}{d:List Prop}{hs}(h:∀(ρ:ZK) (w:World) (Im:Nat->Prop) (a:Act),(∀x,Zj ρ w Im (E x) (a.eval x))->B3 d->(execOp a.eval o).run P w=.ok (.value (.int k n)) w):CJ P o id E H (Gg k n d hs):=by intro Ow e w0 ρ w Im clk a I _ _ c b;unfold Gg at b⊢;split at b;rename_i m _;obtain⟨rfl,f⟩:=GW.1 b;exact .inl ⟨_,w,h ρ w Im a c f,.same I (.d (.sc _ rfl))⟩;exact .inl ⟨_,w,h ρ w Im a c b,.same I (.d (.sc _ rfl))⟩
def Rv{P:Program}{o id}{E:Operand->AV}{H}{b:Bool}{hs}(h:∀(ρ:ZK) (w:World) (Im:Nat->Prop) (a:Act),(∀x,Zj ρ w Im (E x) (a.eval x))->(execOp a.eval o).run P w=.ok (.value (.bool b)) w):CJ P o id E H (He b hs):=by
 intro Ow e w0 ρ w Im clk a I _ _ d c;unfold He at c⊢;split at c;rename_i m _;obtain rfl:b=m:=by grind[B3]
 exact .inl ⟨_,w,h ρ w Im a d,.same I (.d (.sc _ rfl))⟩;exact .inl ⟨_,w,h ρ w Im a d,.same I (.d (.sc _ rfl))⟩
def To:IntKind->IntKind->Bool|.i8,.i8|.i16,.i16|.i32,.i32|.i64,.i64|.u8,.u8|.u16,.u16|.u32,.u32|.u64,.u64=>X|_,_=>Y
theorem Z2Q{k a:IntKind}(h:To k a=X):k=a:=by cases k<;>cases a<;>first|rfl|simp[To]at h
def Z0Q(c:BinOp)(k:IntKind)(a:Int)(d:IntKind)(b:Int)(hs:List Hint):Option B9:=
 match c with
 |.shl=>U (Gg k (k.wrap (a*2^(min b.toNat k.bits))) [0<=b] hs)
 |.shr=>U (Gg k (a.fdiv (2^(min b.toNat k.bits))) [0<=b] hs)
 | c=>if To k d then
  match c with|.add=>U (Gg k (k.wrap (a+b)) [] hs)|.sub=>U (Gg k (k.wrap (a-b)) [] hs)|.mul=>U (Gg k (k.wrap (a*b)) [] hs)|.quo=>U (Gg k (k.wrap (a.tdiv b)) [b≠0] hs)|.rem=>U (Gg k (a.tmod b) [b≠0] hs)|.and=>U (Gg k (bits .and k a b) [] hs)|.or=>U (Gg k (bits .or k a b) [] hs)|.xor=>U (Gg k (bits .xor k a b) [] hs)|.andNot=>U (Gg k (bits .andNot k a b) [] hs)|.eql=>U (He (a==b) hs)|.neq=>U (He (a != b) hs)|.lss=>U (He (decide (a<b)) hs)|.leq=>U (He (decide (a<=b)) hs)|.gtr=>U (He (decide (b<a)) hs)|.geq=>U (He (decide (b<=a)) hs)|_=>V
  else V
theorem BV{ρ w Im}{u v:Value}(h:Zj ρ w Im (.d (.sc u)) v):v=u:=by
 cases h with|d h=>cases h;rfl
def Zf6{P}{o:Oper}{id}{E:Operand->AV}{H}{r:B9}{x y:Operand}{f:BinOp}{t t':Nat}{k e:IntKind}{m n:Int}{hs:List Hint}(l:o.op=.binOp f t x y t')(p:E x=.d (.sc (.int k m)))(q:E y=.d (.sc (.int e n)))(h:Z0Q f k m e n hs=U r):CJ P o id E H r:=by
 have b:∀(ρ:ZK) (w:World) (c:Nat->Prop) (a:Act),(∀x,Zj ρ w c (E x) (a.eval x)) ->
   (execOp a.eval o).run P w=((binOp f t (.int k m) (.int e n)).run P w).andThen λv w=>.ok (.value v) w:=by
  intro ρ w c a hE;have g:=BV (p▸hE x);have i:=BV (q▸hE y);simp[execOp,l,g,i,eqGuard_at_int]
 unfold Z0Q at h;split at h;cases h;refine Ha λρ w c a hE hp=>?_;have d:0<=n:=by grind[B3]
 rw[b ρ w c a hE];simp[binOp_shl,Ln,show¬ n<0 from by omega];cases h;refine Ha λρ w c a hE hp=>?_;have d:0<=n:=by grind[B3]
 rw[b ρ w c a hE];simp[binOp_shr,Ln,show¬ n<0 from by omega];split at h;rename_i j;obtain rfl:=Z2Q j;split at h<;>first|(cases h;done)|cases h
 exact Ha λρ w c a hE _=>by rw[b ρ w c a hE];simp[binOp_add,F]
 exact Ha λρ w c a hE _=>by rw[b ρ w c a hE];simp[binOp_sub,F]
 exact Ha λρ w c a hE _=>by rw[b ρ w c a hE];simp[binOp_mul,F]
 exact Ha λρ w c a hE hp=>by
  have d:n≠0:=by grind[B3]
  rw[b ρ w c a hE];simp[binOp_quo,Lm,d]
 exact Ha λρ w c a hE hp=>by
  have d:n≠0:=by grind[B3]
  rw[b ρ w c a hE];simp[binOp_rem,Lm,d]
 exact Ha λρ w c a hE _=>by rw[b ρ w c a hE];simp[binOp_and,intBits_and]
 exact Ha λρ w c a hE _=>by rw[b ρ w c a hE];simp[binOp_or,intBits_or]
 exact Ha λρ w c a hE _=>by rw[b ρ w c a hE];simp[binOp_xor,intBits_xor]
 exact Ha λρ w c a hE _=>by rw[b ρ w c a hE];simp[binOp_andNot,intBits_andNot]
 exact Rv λρ w c a hE=>by rw[b ρ w c a hE];simp[binOp_eql]
 exact Rv λρ w c a hE=>by rw[b ρ w c a hE];simp[binOp_neq]
 exact Rv λρ w c a hE=>by rw[b ρ w c a hE];simp[binOp_lss]
 exact Rv λρ w c a hE=>by rw[b ρ w c a hE];simp[binOp_leq]
 exact Rv λρ w c a hE=>by rw[b ρ w c a hE];simp[binOp_gtr]
 exact Rv λρ w c a hE=>by rw[b ρ w c a hE];simp[binOp_geq]
 cases h
def So(P:Program)(t:Nat):Bool:=match P.underlying t with|U .bool=>X|_=>Y
def N4(P:Program)(t:Nat):Bool:=match P.underlying t with|U (.int _)=>X|_=>Y
def Pa(P:Program):Nat->List Field->Bool|_,[]=>X|n,f::fs=>(f.offset==n&&!(f.name == "_")&&(N4 P f.type||So P f.type))&&Pa P (n+1) fs
def Td:Value->Value->Option Bool|.int k a,.int k' b=>if To k k' then U (a==b)else V|.bool a,.bool b=>U (a==b)|_,_=>V
def Sk:List Value->List Value->Option Bool|[],_=>V|_::_,[]=>V|x::xs,y::ys=>match xs,ys with|[],[]=>Td x y|xs,ys=>match Td x y,Sk xs ys with|some b,some r=>U (b&&r)|_,_=>V
def Z6e:AV->Option Value|.d (.sc v)=>U v|_=>V
def Dt:List AV->Option (List Value)|[]=>U []|a::l=>match Z6e a,Dt l with|some x,some r=>U (x::r)|_,_=>V
def Z2i:∀{l:List AV} {e:List Value},Dt l=U e->l=e.map λv=>.d (.sc v)
 |[],e,h=>by grind[Dt]
 |a::l,e,h=>by
  simp only[Dt]at h;split at h
  .rename_i x r b c;cases h;rw[Z2i c];have:a=.d (.sc x):=by
    unfold Z6e at b;split at b
    .cases b;rfl
    .cases b
   rw[this];rfl
  .cases h
def Zfc{P}{w:World}{t d:Nat}{x y:Value}{b:Bool}(ht:(N4 P t||So P t)=X)(h:Td x y=U b)(hk:(N4 P t=X->∃k n,x=.int k n)/\(N4 P t=Y->∃b,x=.bool b)):(Z (d+1) t x y).run P w=.ok b w:=by unfold Td at h;grind[Z2Q,N4,run_equalIn_int,So,run_equalIn_bool']
def DX(P:Program):List Field->List Value->Bool|f::fs,v::vs=>(match v with|.int _ _=>N4 P f.type|.bool _=>So P f.type&&!N4 P f.type|_=>Y)&&DX P fs vs|[],[]=>X|_,_=>Y
def Z7u{P}{w:World}{t n:Nat}{cs:Array Value}{v:Value}(ht:(N4 P t||So P t)=X)(h:cs[n]?=U v):(part t cs n).run P w=.ok v w:=by
 have a:Rb P t=U Y:=by grind[Rb,N4,So]
 simp[part,Tz a,h]
def Z8l{P}{w:World}{d:Nat}{cs cs':Array Value}:∀{a:List Field} {xs i:List Value} {n:Nat} {b:Bool},Pa P n a=X->DX P a xs=X->Sk xs i=U b -> (∀j v,xs[j]?=U v->cs[n+j]?=U v)->(∀j v,i[j]?=U v->cs'[n+j]?=U v)->(W (d+1) cs cs' a).run P w=.ok b w
 |[],xs,i,n,b,_,hk,he,_,_=>by
  grind[Sk,DX]
 |f::a,xs,i,n,b,hp,hk,he,hx,hy=>by
  cases xs with
  |nil=>grind[Sk]
  |cons x xs =>
   cases i with
   |nil=>grind[Sk]
   |cons y i =>
    simp only[Pa,La,beq_iff_eq,Lg,beq_eq_false_iff_ne]at hp;obtain⟨⟨⟨c,e⟩,h⟩,g⟩:=hp;simp only[DX,La]at hk;obtain⟨z,o⟩:=hk;have px:=Z7u (P:=P) (w:=w) (t:=f.type) (n:=f.offset) (cs:=cs) (v:=x) h (by rw[c];exact hx 0 x rfl);have py:=Z7u (P:=P) (w:=w) (t:=f.type) (n:=f.offset) (cs:=cs') (v:=y) h (by rw[c];exact hy 0 y rfl);have p:(N4 P f.type=X->∃k n,x=.int k n)/\(N4 P f.type=Y->∃b,x=.bool b):=by grind
    have one:∀l,Td x y=U l->(W (d+1) cs cs' (f::a)).run P w=if l then(W (d+1) cs cs' a).run P w else .ok Y w:=by
     intro l u;simp only[W];rw[if_pos e];simp only[Sem.run_bind,px,py,Result.andThen_ok,Zfc h u p];cases l<;>simp
    have s:∀r,Sk xs i=U r->(W (d+1) cs cs' a).run P w=.ok r w:=λr hr =>
     Z8l g o hr (λj v q=>by have:=hx (j+1) v (by simpa using q);grind) (λj v q=>by have:=hy (j+1) v (by simpa using q);grind)
    unfold Sk at he;split at he
    .rw[one b he];have m:a=[]:=by grind[DX]
     subst m;cases b<;>simp[W]
    grind
def Pu(P:Program)(t:Nat):List Field:=match P.underlying t with|U (.struct fs)=>fs.toList|_=>[]
def Z7c(P:Program)(t:Nat):Bool:=Pa P 0 (Pu P t)&&!(P.stoodInHeld t)&&!(P.eqGuardType P.depth t)&&(match P.underlying t with|U (.struct _)=>X|_=>Y)
def Oq(P:Program)(neg:Bool)(t:Nat)(l a:List AV)(hs:List Hint):Option B9:=
 match Dt l,Dt a with
 | some xs,some ys=>if Z7c P t&&DX P (Pu P t) xs then
  match Sk xs ys with|some b=>U (He (if neg then !b else b) hs)|none=>V
  else V
 |_,_=>V
def Hm{ρ w Im}{l:List AV}{v}(h:Zj ρ w Im (.ag l) v):∃cs,v=.agg cs/\cs.size=l.length/\(∀(i:Nat) (u:Value),cs[i]?=U u->u.oneCell'=X)/\∀(i:Nat) (a:AV) (u:Value),l[i]?=U a->cs[i]?=U u->Zj ρ w Im a u:=by cases h<;>grind
def Z8N{P}{o:Oper}{id}{E:Operand->AV}{H}{r:B9}{x y:Operand}{neg:Bool}{t t':Nat}{l l':List AV}{hs:List Hint}(n:o.op=.binOp (if neg then .neq else .eql) t x y t')(hx:E x=.ag l)(hy:E y=.ag l')(h:Oq P neg t l l' hs=U r):CJ P o id E H r:=by
 unfold Oq at h;split at h;rotate_left;cases h;rename_i p ys z a0;split at h;rotate_left;cases h;rename_i g;split at h;rotate_left;cases h;rename_i b hb;cases h;have e1:=Z2i z;have e2:=Z2i a0;simp only[Z7c,La,Lg]at g;obtain⟨⟨⟨⟨h1,h2⟩,h3⟩,h4⟩,h5⟩:=g;refine Rv λρ w Im a hE=>?_;obtain⟨e,hv,hn,_,hc⟩:=Hm (hx▸hE x);obtain⟨c,k,s,_,q⟩:=Hm (hy▸hE y);have a3:P.underlying t=U (.struct (P.fieldsOf t)):=by grind[Program.fieldsOf]
 have a2:Pu P t=(P.fieldsOf t).toList:=by grind[Pu]
 have m:∀(e:Array Value) (p:List Value) (l:List AV),l=p.map (λv=>AV.d (.sc v))->e.size=l.length->(∀(i:Nat) (a:AV) (u:Value),l[i]?=U a->e[i]?=U u->Zj ρ w Im a u) ->
   ∀j v,p[j]?=U v->e[0+j]?=U v:=by grind[BV]
 have a1:=Z8l (P:=P) (w:=w) (d:=9998) (cs:=e) (cs':=c) h1 h5 hb (m e p l e1 hn hc) (m c ys l' e2 s q);have f:(Z 10000 t (.agg e) (.agg c)).run P w=.ok b w:=by grind[run_equalIn_struct]
 cases neg with|false =>simp only[L,if_false]at n⊢;simp[execOp,n,hv,k,run_eqGuard_agg (P:=P) w .eql t x y e c h3,run_eql_struct,f]|true =>simp only[if_true]at n⊢;simp[execOp,n,hv,k,run_eqGuard_agg (P:=P) w .neq t x y e c h3,run_neq_struct,f]
def Z0q(P:Program)(neg:Bool)(t:Nat)(a b:Bool)(hs:List Hint):Option B9:=if So P t then U (He (if neg then !(a==b)else a==b) hs)else V
def Z85{P}{o:Oper}{id}{E:Operand->AV}{H}{r:B9}{x y:Operand}{neg:Bool}{t t':Nat}{p q:Bool}{hs:List Hint}(c:o.op=.binOp (if neg then .neq else .eql) t x y t')(g:E x=.d (.sc (.bool p)))(i:E y=.d (.sc (.bool q)))(h:Z0q P neg t p q hs=U r):CJ P o id E H r:=by
 unfold Z0q at h;split at h;rename_i ht;cases h;refine Rv λρ w Im a hE=>?_;have d:=BV (g▸hE x);have e:=BV (i▸hE y);have f:P.underlying t=U .bool:=by grind[So]
 have b:(Z 10000 t (.bool p) (.bool q)).run P w=.ok (p==q) w:=run_equalIn_bool' w 9999 t p q f;cases neg with|false =>simp only[L,if_false]at c⊢;simp[execOp,c,d,e,eqGuard_at_bool,binOp,N,M,b]|true =>simp only[if_true]at c⊢;simp[execOp,c,d,e,eqGuard_at_bool,binOp,N,M,b]
 cases h
def Z3C(P:Program)(c:BinOp)(t:Nat)(hs:List Hint)(x y:AV):Option B9:=
 match x,y with|.d (.sc (.int k a)),.d (.sc (.int k' b))=>Z0Q c k a k' b hs|.d (.sc (.bool a)),.d (.sc (.bool b))=>(match c with|.eql=>Z0q P Y t a b hs|.neq=>Z0q P X t a b hs|_=>V)|.ag l,.ag l'=>(match c with|.eql=>Oq P Y t l l' hs|.neq=>Oq P X t l l' hs|_=>V)|_,_=>V
def Zhj{P}{o:Oper}{id}{E:Operand->AV}{H}{r:B9}{x y:Operand}{b:BinOp}{t t':Nat}{hs}(a:o.op=.binOp b t x y t')(h:Z3C P b t hs (E x) (E y)=U r):CJ P o id E H r:=by unfold Z3C at h;split at h;exact Zf6 a aa aa h;split at h;exact Z85 (neg:=Y) a aa aa h;exact Z85 (neg:=X) a aa aa h;cases h;split at h;exact Z8N (neg:=Y) a aa aa h;exact Z8N (neg:=X) a aa aa h;cases h;cases h
def Z0j(P:Program)(t:Nat):Bool:=match P.underlying t with|U (.slice _)=>X|_=>Y
def OC(P:Program)(neg:Bool)(t:Nat)(x:AV):Option B9:=match x,Z0j P t with|.d (.sl _ els),true=>U ⟨.d (.sc (.bool neg)),V,[els≠[]]⟩|.d (.sc (.slice none _ _)),true=>U ⟨.d (.sc (.bool (!neg))),V,[]⟩|.d (.sc (.slice (some _) _ _)),true=>U ⟨.d (.sc (.bool neg)),V,[]⟩|_,_=>V
def Zbz{P:Program}{w:World}(d:Nat){t e:Nat}(a:P.underlying t=U (.slice e))(p:Option Addr)(m k n c:Nat):(Z (d+1) t (.slice p m k) (.slice V n c)).run P w=.ok p.isNone w:=by cases p<;>simp[Z,run_underlying a]
def isSlice{P}{t:Nat}(h:Z0j P t=X):∃e,P.underlying t=U (.slice e):=by grind[Z0j]
def Z2p{P}{w:World}{a:Act}{o:Oper}{x:Operand}{neg:Bool}{t t' n c m k:Nat}{p:Option Addr}(d:o.op=.binOp (if neg then .neq else .eql) t x (.const (.slice V n c)) t')(h:Z0j P t=X)(g:a.eval x=.slice p m k):(execOp a.eval o).run P w=.ok (.value (.bool (if neg then !p.isNone else p.isNone))) w:=by
 obtain⟨e,i⟩:=isSlice h;have b:(Z 10000 t (.slice p m k) (.slice V n c)).run P w=.ok p.isNone w:=Zbz 9999 i p m k n c;have f:a.eval (.const (.slice V n c))=.slice V n c:=rfl;cases neg with|false =>simp only[L,if_false]at d⊢;simp[execOp,d,g,f,eqGuard_at_slice,binOp,N,M,b]|true =>simp only[if_true]at d⊢;simp[execOp,d,g,f,eqGuard_at_slice,binOp,N,M,b]
def Z3U{P}{o:Oper}{id}{E:Operand->AV}{H}{r:B9}{x:Operand}{neg:Bool}{t t' n c:Nat}(j:o.op=.binOp (if neg then .neq else .eql) t x (.const (.slice V n c)) t')(h:OC P neg t (E x)=U r):CJ P o id E H r:=by
 unfold OC at h;intro Ow s w0 ρ w Im clk a I _ _ u z;have b:=u x;generalize l:a.eval x=v at b;split at h;rename_i els g e;cases h;have y:els≠[]:=by grind[B3]
 rw[g]at b;cases b with
 |d b =>
  cases b with|slNil=>grind|sl s' q p m k f=>exact .inl ⟨.bool neg,w,by rw[Z2p j e l];grind,.same I (.d (.sc _ rfl))⟩
 rename_i g e;cases h;rw[g]at b;have i:=BV b;exact .inl ⟨.bool (!neg),w,by rw[Z2p j e (l.trans i)];grind,.same I (.d (.sc _ rfl))⟩;rename_i g e;cases h;rw[g]at b;have i:=BV b;exact .inl ⟨.bool neg,w,by rw[Z2p j e (l.trans i)];grind,.same I (.d (.sc _ rfl))⟩;cases h
def Z1A(P:Program)(t:Nat):Bool:=match P.underlying t with|U (.interface _)=>X|_=>Y
def P3(P:Program)(neg:Bool)(t:Nat)(x:AV):Option B9:=match x,Z1A P t with|.ic _ _,true=>U ⟨.d (.sc (.bool neg)),V,[]⟩|.d (.sc .nilIface),true=>U ⟨.d (.sc (.bool (!neg))),V,[]⟩|_,_=>V
def isIface{P}{t:Nat}(h:Z1A P t=X):∃m,P.underlying t=U (.interface m):=by grind[Z1A]
def ZeF{P:Program}{w:World}(d:Nat){t u:Nat}{m:Array (String×TypeId)}(v:Value)(a:P.underlying t=U (.interface m)):(Z (d+1) t (.iface u v) .nilIface).run P w=.ok Y w:=by simp[Z,run_underlying a]
def Zfo{P:Program}{w:World}(d:Nat){t:Nat}{m:Array (String×TypeId)}(a:P.underlying t=U (.interface m)):(Z (d+1) t .nilIface .nilIface).run P w=.ok X w:=by simp[Z,run_underlying a]
def Z3P{P}{o:Oper}{id}{E:Operand->AV}{H}{r:B9}{x:Operand}{neg:Bool}{t t':Nat}(ho:o.op=.binOp (if neg then .neq else .eql) t x (.const .nilIface) t')(h:P3 P neg t (E x)=U r):CJ P o id E H r:=by
 unfold P3 at h;have e2:∀a:Act,a.eval (.const .nilIface)=.nilIface:=λ_=>rfl;split at h;rename_i u b hx ht;cases h;obtain⟨m,hu⟩:=isIface ht;intro Ow Im0 w0 ρ w Im clk a I _ _ hE hph;have h1:=hE x;rw[hx]at h1;generalize hv:a.eval x=v at h1;cases h1 with|@ic _ _ v1 h1 =>have heq:(Z 10000 t (.iface u v1) .nilIface).run P w=.ok Y w:=ZeF 9999 v1 hu;refine .inl ⟨.bool neg,w, ?_,.same I (.d (.sc _ rfl))⟩;cases neg<;>simp only[L,if_false,if_true]at ho⊢ <;> simp[execOp,ho,hv,e2,eqGuard_at_iface,binOp,N,M,heq]
 rename_i hx ht;cases h;obtain⟨m,hu⟩:=isIface ht;intro Ow Im0 w0 ρ w Im clk a I _ _ hE hph;have h1:=BV (hx▸hE x);have heq:(Z 10000 t .nilIface .nilIface).run P w=.ok X w:=Zfo 9999 hu;refine .inl ⟨.bool (!neg),w, ?_,.same I (.d (.sc _ rfl))⟩;cases neg<;>simp only[L,if_false,if_true]at ho⊢ <;> simp[execOp,ho,h1,e2,eqGuard,binOp,N,M,heq];cases h
def Z2f(P:Program)(a:BinOp)(t:Nat)(hs:List Hint)(x:AV)(b:Operand)(y:AV):Option B9:=
 match b with|.const (.slice none _ _)=>(match a with|.eql=>OC P Y t x|.neq=>OC P X t x|_=>V)|.const .nilIface=>(match a with|.eql=>P3 P Y t x|.neq=>P3 P X t x|_=>V)|_=>Z3C P a t hs x y
def Zdx{P}{o:Oper}{id}{E:Operand->AV}{H}{r:B9}{x y:Operand}{b:BinOp}{t t':Nat}{hs}(a:o.op=.binOp b t x y t')(h:Z2f P b t hs (E x) y (E y)=U r):CJ P o id E H r:=by unfold Z2f at h;split at h;split at h;exact Z3U (neg:=Y) a h;exact Z3U (neg:=X) a h;cases h;split at h;exact Z3P (neg:=Y) a h;exact Z3P (neg:=X) a h;cases h;exact Zhj a h
def Z1U(a:UnOp)(hs:List Hint)(x:AV):Option B9:=
 match a,x with|.not,.d (.sc (.bool b))=>U (He (!b) hs)|.neg,.d (.sc (.int k n))=>U (Gg k (k.wrap (0-n)) [] hs)|_,_=>V
def ZkT{P}{o:Oper}{id}{E:Operand->AV}{H}{r:B9}{x:Operand}{f:UnOp}{t:Nat}{hs}(e:o.op=.unOp f t x)(h:Z1U f hs (E x)=U r):CJ P o id E H r:=by
 unfold Z1U at h;split at h;rename_i b d;cases h;exact Rv λρ w Im a hE=>by have c:=BV (d▸hE x);simp[execOp,e,c,Lo]
 rename_i k n d;cases h;exact Ha λρ w Im a hE _=>by have c:=BV (d▸hE x);simp[execOp,e,c,Lo,F]
 cases h
def Z8A(P:Program)(t:Nat):Option IntKind:=match P.underlying t with|U (.int k)=>U k|_=>V
def Z2C(P:Program)(a dst:Nat)(hs:List Hint)(x:AV):Option B9:=
 match x with|.d (.sc (.int _ n))=>(match Z8A P dst,P.underlying a with|some k,some _=>U (Gg k (k.wrap n) [] hs)|_,_=>V)|_=>V
def Zed{P}{o:Oper}{id}{E:Operand->AV}{H}{r:B9}{x:Operand}{b dst:Nat}{hs}(i:o.op=.convert b dst x)(h:Z2C P b dst hs (E x)=U r):CJ P o id E H r:=by unfold Z2C at h;split at h;rename_i k n j;split at h;rename_i k' d c g;cases h;refine Ha λρ w Im a hE _=>?_;have f:=BV (j▸hE x);unfold Z8A at c;split at c;rename_i k0 e;cases c;simp[execOp,i,f,convert,run_underlying g,run_underlying e,Conv.intToInt];cases c;cases h;cases h
end Go.Sx
