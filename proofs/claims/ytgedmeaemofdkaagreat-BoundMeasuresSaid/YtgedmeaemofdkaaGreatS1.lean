/-
 The statement BoundMeasures: part 1.
 Conditions: none.
-/
import Derived.WalkKit
set_option maxRecDepth 100000
set_option maxHeartbeats 2000000
set_option linter.all false
open Option renaming some->U,none->V,map_eq_some_iff->T
open Bool renaming true->X,false->Y,false_eq_true->L,and_eq_true->Lb,not_eq_true'->Lh
open Go.Op renaming equalIn->Z,eqFields->W,equal->N,maxDepth->M,intArith->La,intDiv->Lo,shift->Lp,unary->Lq
open Go.RowKit.Below renaming heap_alloc->G
open List renaming getElem?_eq_some_iff->C,getElem?_map->R,getElem?_eq_getElem->F,getElem?_eq_none->Lc,getElem?_toArray->Ld,getD->Li,getElem?_append_left->Lj,getElem?_append_right->Lk,getElem?_set->Ll,mem_of_getElem?->Lm
open Nat renaming le_refl->S,add_mul->Le,lt_of_lt_of_le->Lf,mul_le_mul_right->Lg,zero_add->Ln
open Array renaming getElem?_eq_getElem->O
namespace Go.Sx
def oq{p:Prop}(h:p:=by first | (dsimp+zetaDelta only;omega) | omega | (simp only[List.length_cons,List.length_nil];omega)):p:=h
def dd{p:Prop}(h:p:=by decide):p:=h
def kr{p:Prop}(h:p:=by kernel_rfl):p:=h
def aa{p:Prop}(h:p:=by assumption):p:=h
def pq{p:Prop}(h:p:=by simp):p:=h
def qo{p:Prop}(h:p:=by simp;omega):p:=h
end Go.Sx
namespace Go.Sx
inductive DV where
 | sc (v:Value)
 | sl (s:Nat) (els:List (List DV))
inductive AV where
 | d (x:DV)
 | ag (l:List AV)
 | pt (b i o:Nat)
 | os (b o n:Nat)
 | ow (b:Nat)
 | rp (e:List DV) (o:Nat)
 | fn (f:Nat) (caps:List AV)
 | fm (f:Nat) (a:AV)
 | ic (t:Nat) (a:AV)
 | tu (l:List AV)
 | gd (g:Bool) (a:AV)
 | any
inductive Blk where
 | box (ty:Nat) (cells:List AV)
 | arr (ty s:Nat) (els:List (List DV))
 | mp (keys:List Int)
 | dead
structure Bi where
 g:Option Nat
 s:Nat
 n:Nat
def rows(w:World)(g:Nat):Nat:=match w.heap[g]? with | U (.cells cs _ _)=>cs.size | _=>0
def big:Nat:=2^48
def ZoP:big=281474976710656:=by decide
inductive RelD (w:World) (Im:Nat->Prop):DV->Value->Prop
 | sc (v:Value) (h:v.oneCell'=X):RelD w Im (.sc v) v
 | slNil (s:Nat) (a:Option Addr) (c:Nat):RelD w Im (.sl s []) (.slice a 0 c)
 | sl (s:Nat) (els:List (List DV)) (p:Addr) (n c:Nat) (f:Nat->Nat->Value) (hn:els.length=n) (hc:n<=c) (hb:n<=big)
   (hs:∀ e∈els,e.length=s) (hp:p.spot=V) (him:Im p.block)
   (hcell:∀ (i:Nat) (e:List DV) (o:Nat) (x:DV),els[i]? = U e->e[o]? = U x->w.cell? ⟨p.block,p.off+(i*s+o),V⟩=U (f i o))
   (hrel:∀ (i:Nat) (e:List DV) (o:Nat) (x:DV),els[i]? = U e->e[o]? = U x->RelD w Im x (f i o)):RelD w Im (.sl s els) (.slice (U p) n c)
structure Ext (Im:Nat->Prop) (w w':World):Prop where
 size:w.heap.size<=w'.heap.size
 im:∀ g,Im g->w'.heap[g]? = w.heap[g]?
 rows:∀ g,g<w.heap.size->rows w' g=rows w g
def Ext.refl(Im:Nat->Prop)(w:World):Ext Im w w:=⟨S _,λ_ _=>rfl,λ_ _=>rfl⟩
def Ext.trans{Im:Nat->Prop}{a b c:World}(h:Ext Im a b)(k:Ext Im b c):Ext Im a c :=
 ⟨Nat.le_trans h.size k.size,λg hg=>(k.im g hg).trans (h.im g hg),λg hg=>(k.rows g (Lf hg h.size)).trans (h.rows g hg)⟩
def RelD.one{w:World}{Im:Nat->Prop}{x:DV}{v:Value}(h:RelD w Im x v):v.oneCell'=X:=by
 cases h<;>first | assumption | rfl
def RelD.mono{w w':World}{Im Im':Nat->Prop}{x:DV}{v:Value}(h:RelD w Im x v)(he:Ext Im w w')(hi:∀ g,Im g->Im' g):RelD w' Im' x v:=by
 induction h with
 | sc v h=>exact .sc v h
 | slNil s a c=>exact .slNil s a c
 | sl s els p n c f hn hc hb hs hp him hcell _ ih =>
  refine .sl s els p n c f hn hc hb hs hp (hi _ him) (λi e o x h1 h2=>?_) (λi e o x h1 h2=>ih i e o x h1 h2);rw[<- hcell i e o x h1 h2];exact World.cell?_of_block (w:=w) (he.im _ him)
abbrev Rho:=Nat->Option Bi
def mpO:Nat:=99999
def ptV(g s i o:Nat):Value:=if o=mpO then .map (U g)else .pointer (U ⟨g,i*s+o,V⟩)
def Zn4(g s i o:Nat):(ptV g s i o).oneCell'=X:=by unfold ptV;split<;>rfl
inductive Rel (ρ:Rho) (w:World) (Im:Nat->Prop):AV->Value->Prop
 | d {x:DV} {v:Value} (h:RelD w Im x v):Rel ρ w Im (.d x) v
 | ag (l:List AV) (cs:Array Value) (hn:cs.size=l.length) (hone:∀ (i:Nat) (v:Value),cs[i]? = U v->v.oneCell'=X) (h:∀ (i:Nat) (a:AV) (v:Value),l[i]? = U a->cs[i]? = U v->Rel ρ w Im a v):Rel ρ w Im (.ag l) (.agg cs)
 | pt {b i o g s n:Nat} (h:ρ b=U ⟨U g,s,n⟩):Rel ρ w Im (.pt b i o) (ptV g s i o)
 | os {b o n c:Nat} {a:Option Addr} {β:Bi} (h:ρ b=U β) (hn:o+n<=β.n) (hc:n<=c) (hb:n<=big) (ha:c=0\/∃ g,β.g=U g/\a=U ⟨g,o*β.s,V⟩/\(o+c)*β.s<=rows w g):Rel ρ w Im (.os b o n) (.slice a n c)
 | ow {b c:Nat} {a:Option Addr} {β:Bi} (h:ρ b=U β) (hc:β.n<=c) (hb:β.n<=big) (ha:c=0\/∃ g,β.g=U g/\a=U ⟨g,0,V⟩/\c*β.s<=rows w g):Rel ρ w Im (.ow b) (.slice a β.n c)
 | rp {e:List DV} {o:Nat} {p:Addr} (hp:p.spot=V) (him:Im p.block) (h:∀ (j:Nat) (x:DV),e[j]? = U x->∃ v,w.cell? ⟨p.block,p.off+j,V⟩=U v/\RelD w Im x v) :
   Rel ρ w Im (.rp e o) (.pointer (U ⟨p.block,p.off+o,V⟩))
 | fn {f:Nat} {caps:List AV} {cs:Array Value} (hn:cs.size=caps.length) (h:∀ (i:Nat) (a:AV) (v:Value),caps[i]? = U a->cs[i]? = U v->Rel ρ w Im a v):Rel ρ w Im (.fn f caps) (.func (.func f) #[] cs)
 | fm {f:Nat} {a:AV} {v:Value} (h:Rel ρ w Im a v):Rel ρ w Im (.fm f a) (.func (.func f) #[v] #[])
 | ic {t:Nat} {a:AV} {v:Value} (h:Rel ρ w Im a v):Rel ρ w Im (.ic t a) (.iface t v)
 | tu (l:List AV) (cs:Array Value) (hn:cs.size=l.length) (h:∀ (i:Nat) (a:AV) (v:Value),l[i]? = U a->cs[i]? = U v->Rel ρ w Im a v):Rel ρ w Im (.tu l) (.tuple cs)
 | gd {g:Bool} {a:AV} {v:Value} (h:g=X->Rel ρ w Im a v) (h':g=Y->v=undef):Rel ρ w Im (.gd g a) v
 | any (v:Value):Rel ρ w Im .any v
def Rel.mono{ρ ρ':Rho}{w w':World}{Im Im':Nat->Prop}{a:AV}{v:Value}(h:Rel ρ w Im a v)(he:Ext Im w w')(hi:∀ g,Im g->Im' g)
  (hρ:∀ b β,ρ b=U β->ρ' b=U β) (hb:∀ b β g,ρ b=U β->β.g=U g->g<w.heap.size):Rel ρ' w' Im' a v:=by
 induction h with
 | d h=>exact .d (h.mono he hi)
 | ag l cs hn hone _ ih=>exact .ag l cs hn hone ih
 | pt h=>exact .pt (hρ _ _ h)
 | os h hn hc hb' ha =>
  refine .os (hρ _ _ h) hn hc hb' (ha.imp id λ⟨g,h1,h2,h3⟩=>⟨g,h1,h2, ?_⟩);rw[he.rows g (hb _ _ g h h1)];exact h3
 | ow h hc hb' ha =>
  refine .ow (hρ _ _ h) hc hb' (ha.imp id λ⟨g,h1,h2,h3⟩=>⟨g,h1,h2, ?_⟩);rw[he.rows g (hb _ _ g h h1)];exact h3
 | rp hp him h =>
  refine .rp hp (hi _ him) λj x hx=>?_;obtain⟨v,h1,h2⟩:=h j x hx;exact⟨v,by rw[<- h1];exact World.cell?_of_block (w:=w) (he.im _ him),h2.mono he hi⟩
 | fn hn _ ih=>exact .fn hn ih
 | fm _ ih=>exact .fm ih
 | ic _ ih=>exact .ic ih
 | tu l cs hn _ ih=>exact .tu l cs hn ih
 | gd _ h' ih=>exact .gd ih h'
 | any v=>exact .any v
def AV.one:AV->Bool
 | .d _ | .pt .. | .os .. | .ow _ | .rp .. | .fn .. | .ic .. => X
 | _=>Y
def Rel.one{ρ:Rho}{w:World}{Im:Nat->Prop}{a:AV}{v:Value}(h:Rel ρ w Im a v)(ha:a.one=X):v.oneCell'=X:=by
 cases h<;>first | (exact RelD.one aa) | rfl | exact Zn4 _ _ _ _ | simp[AV.one]at ha
def AV.cells:AV->Option (List AV)
 | .ag l=>U l
 | .d x=>U [.d x]
 | .pt b i o=>U [.pt b i o]
 | .os b o n=>U [.os b o n]
 | .ow b=>U [.ow b]
 | .rp e o=>U [.rp e o]
 | .fn f c=>U [.fn f c]
 | .ic t a=>U [.ic t a]
 | _=>V
def Z62{v:Value}(h:v.oneCell'=X):v.cells = #[v]:=by
 cases v<;>first | rfl | simp[Value.oneCell']at h
def Rel.cells{ρ:Rho}{w:World}{Im:Nat->Prop}{a:AV}{v:Value}{l:List AV}(h:Rel ρ w Im a v)(hl:a.cells=U l) :
  v.cells.size=l.length/\(∀ (i:Nat) (a:AV) (u:Value),l[i]? = U a->v.cells[i]? = U u->Rel ρ w Im a u)/\∀ (i:Nat) (u:Value),v.cells[i]? = U u->u.oneCell'=X:=by
 have key:∀ {a:AV},a.one=X->Rel ρ w Im a v->l=[a] ->
   v.cells.size=l.length/\(∀ (i:Nat) (a:AV) (u:Value),l[i]? = U a->v.cells[i]? = U u->Rel ρ w Im a u)/\∀ (i:Nat) (u:Value),v.cells[i]? = U u->u.oneCell'=X:=by
  intro a ha h hl;subst hl;have h1:=h.one ha;rw[Z62 h1];refine⟨rfl, ?_, ?_⟩
  .intro i a' u h2 h3;cases i with
   | zero=>simp at h2 h3;subst h2;subst h3;exact h
   | succ i=>simp at h2
  .intro i u h3;cases i with
   | zero=>simp at h3;subst h3;exact h1
   | succ i=>simp at h3
 cases h with
 | ag l' cs hn hone h =>
  simp only[AV.cells,Option.some.injEq]at hl;subst hl;exact⟨hn,h,hone⟩
 | d h=>exact key (by rfl) (.d h) (by simpa[AV.cells]using hl.symm)
 | pt h=>exact key (by rfl) (.pt h) (by simpa[AV.cells]using hl.symm)
 | os h a b c d=>exact key (by rfl) (.os h a b c d) (by simpa[AV.cells]using hl.symm)
 | ow h b c d=>exact key (by rfl) (.ow h b c d) (by simpa[AV.cells]using hl.symm)
 | rp a b c=>exact key (by rfl) (.rp a b c) (by simpa[AV.cells]using hl.symm)
 | fn a b=>exact key (by rfl) (.fn a b) (by simpa[AV.cells]using hl.symm)
 | ic a=>exact key (by rfl) (.ic a) (by simpa[AV.cells]using hl.symm)
 | tu=>simp[AV.cells]at hl
 | fm=>simp[AV.cells]at hl
 | gd=>simp[AV.cells]at hl
 | any=>simp[AV.cells]at hl
def RelB(ρ:Rho)(w:World)(Im:Nat->Prop)(β:Bi):Blk->Prop
 | .box ty cells=>β.s=cells.length/\β.n=1/\∃ g cs,β.g=U g/\w.heap[g]? = U (.cells cs ty (0,0))/\cs.size=cells.length/\(∀ (i:Nat) (v:Value),cs[i]? = U v->v.oneCell'=X) /\
   ∀ (o:Nat) (a:AV) (v:Value),cells[o]? = U a->cs[o]? = U v->Rel ρ w Im a v
 | .arr ty s els=>β.s=s/\β.n=els.length/\els.length<=big/\(∀ e∈els,e.length=s)/\((β.g=V/\els=[])\/∃ g cs,β.g=U g/\w.heap[g]? = U (.cells cs ty (0,0))/\els.length*s<=cs.size /\
   ∀ (i:Nat) (e:List DV) (o:Nat) (x:DV),els[i]? = U e->e[o]? = U x->∃ v,cs[i*s+o]? = U v/\RelD w Im x v)
 | .mp keys=>keys.length<=big/\∃ g es clock,β.g=U g/\w.heap[g]? = U (.map es clock)/\es.size=keys.length/\∀ (i:Nat) (e:MapEntry) (x:Int),es[i]? = U e->keys[i]? = U x->e.key = .int .u64 x/\e.val = .int .i64 i
 | .dead=>True
structure Kept (Ow:Nat->Prop) (w0 w:World):Prop where
 os:w.os=w0.os
 tape:w.tape=w0.tape
 output:w.output=w0.output
 size:w0.heap.size<=w.heap.size
 block:∀ k,k<w0.heap.size->¬ Ow k->w.heap[k]? = w0.heap[k]?
 rows:∀ k,k<w0.heap.size->rows w k=rows w0 k
def Kept.imp{A B:Nat->Prop}{w0 w:World}(h:Kept A w0 w)(hi:∀ g,A g->B g):Kept B w0 w:=⟨h.os,h.tape,h.output,h.size,λk hk hn=>h.block k hk λq=>hn (hi k q),h.rows⟩
def Kept.refl(Ow:Nat->Prop)(w:World):Kept Ow w w:=⟨rfl,rfl,rfl,S _,λ_ _ _=>rfl,λ_ _=>rfl⟩
abbrev Heap:=Nat->Option Blk
structure St where
 tmps:List AV
 H:Heap
 clk:Nat
def live(H:Heap)(b:Nat):Prop:=∃ B,H b=U B/\B≠.dead
structure Own where
 p:Nat->Bi->Prop
 ds:List Deferred
instance:CoeFun Own (fun _=>Nat→Bi→Prop):=⟨Own.p⟩
def Z3E:Own:=⟨λ_ _=>False,[]⟩
def OwA(Ow:Own)(g:Nat):Prop:=∃ b β,Ow b β/\β.g=U g
def ownR(ρ:Rho):Own:=⟨λb β=>ρ b=U β,[]⟩
def OwA.no{g:Nat}(h:OwA Z3E g):False:=by
 obtain⟨_,_,h,_⟩:=h;exact h
structure Inv (Ow:Own) (Im0:Nat->Prop) (w0:World) (ρ:Rho) (w:World) (Im:Nat->Prop) (H:Heap) (clk:Nat):Prop where
 kept:Kept (OwA Ow) w0 w
 inj:∀ b b' β β' g,live H b->live H b'->ρ b=U β->ρ b'=U β'->β.g=U g->β'.g=U g->b=b'
 notIm:∀ b β g,live H b->ρ b=U β->β.g=U g->¬ Im g
 bnd:∀ b β g,ρ b=U β->β.g=U g->g<w.heap.size
 own:∀ b β g,ρ b=U β->β.g=U g->(w0.heap.size<=g/\8000<=b)\/OwA Ow g
 imb:∀ g,Im g->g<w.heap.size
 im0:∀ g,Im g->Im0 g\/w0.heap.size<=g\/OwA Ow g
 blk:∀ b B,H b=U B->∃ β,ρ b=U β/\RelB ρ w Im β B
 fresh:∀ b,clk*8000<=b->H b=V->ρ b=V
 one:1<=clk/\∀ b β,b<8000->ρ b=U β->Ow b β
def RelB.mono{ρ ρ':Rho}{w w':World}{Im Im':Nat->Prop}{β:Bi}{B:Blk}(h:RelB ρ w Im β B)(he:Ext Im w w')(hi:∀ g,Im g->Im' g)
  (hρ:∀ b β,ρ b=U β->ρ' b=U β) (hb:∀ b β g,ρ b=U β->β.g=U g->g<w.heap.size)
  (hg:∀ g,β.g=U g->w'.heap[g]? = w.heap[g]?):RelB ρ' w' Im' β B:=by
 cases B with
 | box ty cells =>
  obtain⟨h0,h00,g,cs,h1,h2,h3,h3',h4⟩:=h;exact⟨h0,h00,g,cs,h1,by rw[hg g h1];exact h2,h3,h3',λo a v ha hv=>(h4 o a v ha hv).mono he hi hρ hb⟩
 | arr ty s els =>
  obtain⟨h0,h1,hb',h2,h3⟩:=h;refine⟨h0,h1,hb',h2,h3.imp id λ⟨g,cs,h4,h5,h6,h7⟩=>⟨g,cs,h4,by rw[hg g h4];exact h5,h6,λi e o x hx hy=>?_⟩⟩;obtain⟨v,h8,h9⟩:=h7 i e o x hx hy;exact⟨v,h8,h9.mono he hi⟩
 | mp keys =>
  obtain⟨h0,g,es,c,h1,h2,h3⟩:=h;exact⟨h0,g,es,c,h1,by rw[hg g h1];exact h2,h3⟩
 | dead=>trivial
structure RelT (D:List Deferred) (ρ:Rho) (w:World) (Im:Nat->Prop) (tmps:List AV) (a:Act):Prop where
 size:a.tmps.size=tmps.length
 tmp:∀ (i:Nat) (x:AV) (v:Value),tmps[i]? = U x->a.tmps[i]? = U v->Rel ρ w Im x v
 defers:a.defers=D
def RelT.mono{D:List Deferred}{ρ ρ':Rho}{w w':World}{Im Im':Nat->Prop}{tmps:List AV}{a:Act}(h:RelT D ρ w Im tmps a)(he:Ext Im w w')(hi:∀ g,Im g->Im' g)
  (hρ:∀ b β,ρ b=U β->ρ' b=U β) (hb:∀ b β g,ρ b=U β->β.g=U g->g<w.heap.size):RelT D ρ' w' Im' tmps a :=
 ⟨h.size,λi x v h1 h2=>(h.tmp i x v h1 h2).mono he hi hρ hb,h.defers⟩
def RelT.put{D:List Deferred}{ρ:Rho}{w:World}{Im:Nat->Prop}{tmps:List AV}{a:Act}(h:RelT D ρ w Im tmps a)(t:Nat){x:AV}{v:Value}(hx:Rel ρ w Im x v) :
  RelT D ρ w Im (tmps.set t x) (a.put (U t) v):=by
 refine⟨by simp[Act.put,h.size],λi y u h1 h2=>?_,h.defers⟩;simp only[Act.put,Array.getElem?_setIfInBounds]at h2;rw[Ll]at h1;by_cases hi:t=i
 .subst hi;simp only[if_true]at h1 h2;split at h1<;>split at h2<;>simp_all
 .simp only[hi,if_false]at h1 h2;exact h.tmp i y u h1 h2
def updR(ρ:Rho)(b:Nat)(β:Bi):Rho:=λk=>if k=b then U β else ρ k
def updH(H:Heap)(b:Nat)(B:Blk):Heap:=λk=>if k=b then U B else H k
def Z1o{H:Heap}{b:Nat}{B:Blk}{k:Nat}(h:live (updH H b B) k)(hk:¬ k=b):live H k:=by
 obtain⟨B',h1,h2⟩:=h;unfold updH at h1;rw[if_neg hk]at h1;exact⟨B',h1,h2⟩
def Zbi{H:Heap}{b:Nat}{B:Blk}{k:Nat}(hl:live H b)(h:live (updH H b B) k):live H k:=by
 by_cases hk:k=b
 .rw[hk];exact hl
 .exact Z1o h hk
def Z8i{Ow:Own}{ρ:Rho}{clk id:Nat}{β:Bi}(h:1<=clk/\∀ b β,b<8000->ρ b=U β->Ow b β)(hid:clk*8000<=id):1<=clk/\∀ b κ,b<8000->updR ρ id β b=U κ->Ow b κ:=by
 refine⟨h.1,λb κ hb hk=>?_⟩;unfold updR at hk;split at hk
 .have:=h.1;omega
 .exact h.2 b κ hb hk
def Z1w(ρ:Rho)(b:Nat)(β:Bi):updR ρ b β b=U β:=by simp[updR]
def Z1q{ρ:Rho}{b:Nat}{β:Bi}(h:ρ b=V):∀ k κ,ρ k=U κ->updR ρ b β k=U κ:=by
 intro k κ hk;unfold updR;split
 .subst k;rw[h]at hk;cases hk
 .exact hk
def Ext.alloc(Im:Nat->Prop)(w:World)(o:Obj)(h:∀ g,Im g->g<w.heap.size):Ext Im w (w.alloc o) :=
 ⟨by simp,λg hg=>G _ _ _ (h g hg),λg hg=>by unfold Sx.rows;rw[G _ _ _ hg]⟩
def heap_alloc_new(w:World)(o:Obj):(w.alloc o).heap[w.heap.size]? = U o:=by show(w.heap.push o)[w.heap.size]? = U o;simp
section
variable {Ow:Own} {Im0:Nat->Prop} {w0:World} {ρ:Rho} {w:World} {Im:Nat->Prop} {H:Heap} {clk:Nat}
theorem Inv.junk(I:Inv Ow Im0 w0 ρ w Im H clk)(o:Obj):Inv Ow Im0 w0 ρ (w.alloc o) Im H clk:=by
 have he:=Ext.alloc Im w o I.imb;refine⟨?_,I.inj,I.notIm,λb β g h h'=>?_,I.own,λg h=>?_,I.im0,λb B h=>?_,I.fresh,I.one⟩
 .have k:=I.kept;refine⟨k.os,k.tape,k.output,by have:=k.size;simp;omega,λi hi ho=>?_,λi hi=>?_⟩
  .rw[G _ _ _ (Lf hi k.size)];exact k.block i hi ho
  .rw[he.rows i (Lf hi k.size)];exact k.rows i hi
 .have:=I.bnd b β g h h';simp;omega
 .have:=I.imb g h;simp;omega
 .obtain⟨β,h1,h2⟩:=I.blk b B h;exact⟨β,h1,h2.mono he (λ_ h=>h) (λ_ _ h=>h) I.bnd (λg hg=>G _ _ _ (I.bnd b β g h1 hg))⟩
theorem Inv.draw(I:Inv Ow Im0 w0 ρ w Im H clk):Inv Ow Im0 w0 ρ w.drew Im H clk :=
 ⟨⟨I.kept.os,I.kept.tape,I.kept.output,I.kept.size,I.kept.block,I.kept.rows⟩,I.inj,I.notIm,I.bnd,I.own,I.imb,I.im0,
  λb B h=>let ⟨β,h1,h2⟩:=I.blk b B h;⟨β,h1,h2.mono (w':=w.drew) ⟨S _,λ_ _=>rfl,λ_ _=>rfl⟩ (λ_ h=>h) (λ_ _ h=>h) I.bnd (λ_ _=>rfl)⟩,I.fresh,I.one⟩
theorem Ext.draw(Im:Nat->Prop)(w:World):Ext Im w w.drew:=⟨S _,λ_ _=>rfl,λ_ _=>rfl⟩
theorem Inv.addO(I:Inv Ow Im0 w0 ρ w Im H clk)(id:Nat)(hid:clk*8000<=id)(hH:H id=V)(o:Obj)(s n:Nat)(B:Blk)
  (hB:RelB (updR ρ id ⟨U w.heap.size,s,n⟩) (w.alloc o) Im ⟨U w.heap.size,s,n⟩ B) :
  Inv Ow Im0 w0 (updR ρ id ⟨U w.heap.size,s,n⟩) (w.alloc o) Im (updH H id B) clk:=by
 have hn:=I.fresh id hid hH;have he:=Ext.alloc Im w o I.imb;have J:=I.junk o;refine⟨J.kept, ?_, ?_, ?_, ?_,J.imb,J.im0, ?_, ?_,Z8i I.one hid⟩
 .intro b b' β β' g l1 l2 h1 h2 h3 h4;unfold updR at h1 h2;split at h1<;>split at h2
  .omega
  .cases h1;simp at h3;have:=I.bnd b' β' g h2 h4;omega
  .cases h2;simp at h4;have:=I.bnd b β g h1 h3;omega
  .exact I.inj b b' β β' g (Z1o l1 aa) (Z1o l2 aa) h1 h2 h3 h4
 .intro b β g l h h';unfold updR at h;split at h
  .cases h;simp at h';intro hi;have:=I.imb g hi;omega
  .exact I.notIm b β g (Z1o l aa) h h'
 .intro b β g h h';unfold updR at h;split at h
  .cases h;simp at h';simp;omega
  .have:=I.bnd b β g h h';simp;omega
 .intro b β g h h';unfold updR at h;split at h
  .rename_i hbi;cases h;simp at h';have:=I.kept.size;have:=I.one;exact .inl ⟨by omega,by omega⟩
  .exact I.own b β g h h'
 .intro b B' h;unfold updH at h;split at h
  .cases h;rename_i hb;exact⟨_,by rw[hb];exact Z1w _ _ _,hB⟩
  .obtain⟨β,h1,h2⟩:=I.blk b B' h;exact⟨β,Z1q hn _ _ h1,h2.mono he (λ_ h=>h) (Z1q hn) I.bnd (λg hg=>G _ _ _ (I.bnd b β g h1 hg))⟩
 .intro b hb h;unfold updH at h;unfold updR;split
  .rename_i hbi;simp[hbi]at h
  .rename_i hbi;simp only[hbi,if_false]at h;exact I.fresh b hb h
theorem Inv.add(I:Inv Ow Im0 w0 ρ w Im H clk)(id:Nat)(hid:clk*8000<=id)(hH:H id=V)(cs:Array Value)(ty s n:Nat)(B:Blk)
  (hB:RelB (updR ρ id ⟨U w.heap.size,s,n⟩) (w.alloc (.cells cs ty)) Im ⟨U w.heap.size,s,n⟩ B) :
  Inv Ow Im0 w0 (updR ρ id ⟨U w.heap.size,s,n⟩) (w.alloc (.cells cs ty)) Im (updH H id B) clk:=I.addO id hid hH _ s n B hB
theorem Z2a(w:World)(g:Nat)(cs cs':Array Value)(ty:Nat)(hg:w.heap[g]? = U (.cells cs ty (0,0)))(hs:cs'.size=cs.size)(k:Nat) :
  rows (w.setRow g cs') k=rows w k:=by
 by_cases hk:k=g
 .subst hk;unfold rows;rw[setRow_heap w k cs cs' ty (0,0) hg,hg];simpa using hs
 .unfold rows;rw[setRow_other w g k cs' hk]
theorem Inv.turn(I:Inv Ow Im0 w0 ρ w Im H clk)(b:Nat)(g s n:Nat)(w':World)(B:Blk)(hb:ρ b=U ⟨U g,s,n⟩)(hlive:live H b)
  (hos:w'.os=w.os/\w'.tape=w.tape/\w'.output=w.output) (hsz:w'.heap.size=w.heap.size) (hoth:∀ k,k≠g->w'.heap[k]? = w.heap[k]?) (hrow:∀ k,rows w' k=rows w k)
  (hB:Ext Im w w'->RelB ρ w' Im ⟨U g,s,n⟩ B):Inv Ow Im0 w0 ρ w' Im (updH H b B) clk/\Ext Im w w':=by
 have he:Ext Im w w':=⟨by omega,λk hk=>hoth k (λe=>I.notIm b _ g hlive hb rfl (e▸hk)),λk _=>hrow k⟩
 refine⟨⟨?_,λb b' β β' g l1 l2=>I.inj b b' β β' g (Zbi hlive l1) (Zbi hlive l2),λb β g l=>I.notIm b β g (Zbi hlive l),λb β g h h'=>by rw[hsz];exact I.bnd b β g h h',I.own,λg h=>by rw[hsz];exact I.imb g h,I.im0, ?_, ?_,I.one⟩,he⟩
 .have k:=I.kept;refine⟨hos.1.trans k.os,hos.2.1.trans k.tape,hos.2.2.trans k.output,by rw[hsz];exact k.size,λi hi ho=>?_,λi hi=>(hrow i).trans (k.rows i hi)⟩;have:i≠g:=by
   rintro rfl;rcases I.own b _ i hb rfl with⟨h,_⟩ | h
   .omega
   .exact ho h
  rw[hoth i this];exact k.block i hi ho
 .intro b' B' h;unfold updH at h;split at h
  .cases h;rename_i e;rw[e];exact⟨_,hb,hB he⟩
  .rename_i hne;obtain⟨β,h1,h2⟩:=I.blk b' B' h;cases B' with
   | dead=>exact⟨β,h1,trivial⟩
   | _ =>
    refine⟨β,h1,h2.mono he (λ_ h=>h) (λ_ _ h=>h) I.bnd (λg' hg'=>hoth g' ?_)⟩;rintro rfl;exact hne (I.inj b' b β _ g' ⟨_,h,by simp⟩ hlive h1 hb hg' rfl)
 .intro b' hb' h;unfold updH at h;split at h
  .cases h
  .exact I.fresh b' hb' h
theorem Inv.put(I:Inv Ow Im0 w0 ρ w Im H clk)(b:Nat)(g s n:Nat)(cs cs':Array Value)(ty:Nat)(B:Blk)(hb:ρ b=U ⟨U g,s,n⟩)
  (hg:w.heap[g]? = U (.cells cs ty (0,0))) (hs:cs'.size=cs.size) (hlive:live H b)
  (hB:Ext Im w (w.setRow g cs')->RelB ρ (w.setRow g cs') Im ⟨U g,s,n⟩ B):Inv Ow Im0 w0 ρ (w.setRow g cs') Im (updH H b B) clk/\Ext Im w (w.setRow g cs') :=
 I.turn b g s n _ B hb hlive ⟨rfl,rfl,rfl⟩ (by simp[World.setRow]) (λk hk=>setRow_other w g k cs' hk) (Z2a w g cs cs' ty hg hs) hB
end
def Goes(P:Program)(o:Oper)(a:Act)(w:World)(K:Value->World->Prop):Prop :=
 (∃ v w',(execOp a.eval o).run P w = .ok (.value v) w'/\K v w')\/∃ w',(execOp a.eval o).run P w = .ok .skip w'/\K undef w'
def Goes.wp{P:Program}{o:Oper}{a:Act}{w:World}{K:Value->World->Prop}{next:Act->World->Prop}{Q:Exit->Act->World->Prop}
  (h:Goes P o a w K) (hn:∀ v w',K v w'->next (a.put o.dst v) w'):o.wp P a w next Q:=by
 rcases h with⟨v,w',h,k⟩ | ⟨w',h,k⟩
 .simp only[Oper.wp,h,Oper.upon_value];exact hn v w' k
 .simp only[Oper.wp,h,Oper.upon_skip];exact hn undef w' k
def Then(Ow:Own)(Im0:Nat->Prop)(w0:World)(ρ:Rho)(w:World)(Im:Nat->Prop)(clk:Nat)(H':Heap)(x:AV)(v:Value)(w':World):Prop :=
 ∃ ρ',Inv Ow Im0 w0 ρ' w' Im H' clk/\Ext Im w w'/\(∀ b β,ρ b=U β->ρ' b=U β)/\Rel ρ' w' Im x v
def cv1:Value->AV
 | .slice none 0 0=>.d (.sl 0 [])
 | v=>.d (.sc v)
def Zac(l:List Value):Bool:=l.all (·.oneCell')
def cv:Value->AV
 | .agg cs=>if Zac cs.toList then .ag (cs.toList.map cv1)else .any
 | .tuple _=>.any
 | v=>cv1 v
def Zbt(ρ:Rho)(w:World)(Im:Nat->Prop)(v:Value)(h:v.oneCell'=X):Rel ρ w Im (cv1 v) v:=by
 unfold cv1;split
 .exact .d (.slNil 0 V 0)
 .exact .d (.sc _ h)
def Z6n(ρ:Rho)(w:World)(Im:Nat->Prop)(v:Value):Rel ρ w Im (cv v) v:=by
 unfold cv;split
 .rename_i cs;split
  .rename_i h;simp only[Zac,List.all_eq_true]at h;have h1:∀ (i:Nat) (u:Value),cs[i]? = U u->u.oneCell'=X:=λi u hu=>h u (by
    have:=Array.mem_of_getElem? hu;simpa using this)
   refine .ag _ _ pq h1 λi a u ha hu=>?_;have he:cs.toList[i]? = U u:=by simpa using hu
   simp only[R,he,Option.map_some,Option.some.injEq]at ha;subst ha;exact Zbt ρ w Im u (h1 i u hu)
  .exact .any _
 .exact .any _
 .rename_i h1 h2;exact Zbt ρ w Im v (by cases v<;>first | rfl | (exfalso;first | exact h1 _ rfl | exact h2 _ rfl))
def ev(tmps:List AV):Operand->AV
 | .tmp t=>tmps.getD t .any
 | .const v=>cv v
 | .global _=>.any
 | .func f=>.fn f []
def Z1p{D:List Deferred}{ρ:Rho}{w:World}{Im:Nat->Prop}{tmps:List AV}{a:Act}(h:RelT D ρ w Im tmps a)(x:Operand):Rel ρ w Im (ev tmps x) (a.eval x):=by
 cases x with
 | tmp t =>
  simp only[ev,Act.eval];by_cases ht:t<tmps.length
  .have ht':t<a.tmps.size:=by rw[h.size];exact ht
   have h1:tmps[t]? = U (tmps.getD t .any):=by simp[Li,F ht]
   have h2:a.tmps[t]? = U (a.tmps.getD t undef):=by simp[Array.getD,ht']
   exact h.tmp t _ _ h1 h2
  .rw[show tmps.getD t .any = .any from by simp[Li,Lc (Nat.le_of_not_lt ht)]];exact .any _
 | const v=>exact Z6n ρ w Im v
 | global g=>exact .any _
 | func f=>exact .fn pq pq
def strip:AV->AV
 | .gd _ a=>a
 | a=>a
inductive Hint where
 | br (b:Bool)
 | int (n:Int)
 | el (e:List DV)
 | els (l:List (List DV))
 | own
 | call (fr:Bool) (res:AV) (news:List Blk)
 | kill (res:AV)
 | bor (ls:List Nat) (res:AV) (post:List Blk)
 | gh (ty s:Nat)
def allP:List Prop->Prop
 | []=>True
 | [p]=>p
 | p::q::r=>p/\allP (q::r)
def allP_cons{p:Prop}{l:List Prop}:allP (p::l)↔p/\allP l:=by
 cases l<;>simp[allP]
def allP_append{l l':List Prop}:allP (l++l')↔allP l/\allP l':=by
 induction l with
 | nil=>simp[allP]
 | cons p l ih=>rw[List.cons_append,allP_cons,allP_cons,ih,and_assoc]
structure Res where
 val:AV
 up:Option (Nat×Blk)
 ph:List Prop
def Res.heap(r:Res)(H:Heap):Heap:=match r.up with | V=>H | U (k,B)=>updH H k B
def szOf(P:Program)(t:Nat):Nat:=match P.info? t with | U i=>i.size | V=>0
def zeroOf(P:Program)(t:Nat):Option Value:=match P.info? t with | U i=>i.zero | V=>V
def bytesOf(P:Program)(t:Nat):Nat:=match P.info? t with | U i=>i.bytes | V=>0
def Z6p(P:Program)(t:Nat):Option Bool:=match P.underlying t with | U (.struct _)=>U X | U (.array _ _)=>U X | U _=>U Y | V=>V
abbrev Z1X(P:Program)(o:Oper)(id:Nat)(E:Operand->AV)(H:Heap)(r:Res):Prop :=
 ∀ (Ow:Own) (Im0:Nat->Prop) (w0:World) (ρ:Rho) (w:World) (Im:Nat->Prop) (clk:Nat) (a:Act),Inv Ow Im0 w0 ρ w Im H clk->clk*8000<=id->H id=V ->
  (∀ x,Rel ρ w Im (E x) (a.eval x))->allP r.ph->Goes P o a w λv w'=>Then Ow Im0 w0 ρ w Im clk (r.heap H) r.val v w'
def Then.same{Ow:Own}{Im0:Nat->Prop}{w0:World}{ρ:Rho}{w:World}{Im:Nat->Prop}{clk:Nat}{H:Heap}{x:AV}{v:Value}
  (I:Inv Ow Im0 w0 ρ w Im H clk) (h:Rel ρ w Im x v):Then Ow Im0 w0 ρ w Im clk H x v w:=⟨ρ,I,Ext.refl _ _,λ_ _ h=>h,h⟩
def Then.box{Ow:Own}{Im0:Nat->Prop}{w0:World}{ρ:Rho}{w:World}{Im:Nat->Prop}{clk:Nat}{H:Heap}{id ty:Nat}{x:AV}{v:Value}{l:List AV}
  (I:Inv Ow Im0 w0 ρ w Im H clk) (hid:clk*8000<=id) (hH:H id=V) (h:Rel ρ w Im x v) (hl:x.cells=U l) :
  Then Ow Im0 w0 ρ w Im clk (updH H id (.box ty l)) (.pt id 0 0) (.pointer (U ⟨w.heap.size,0,V⟩)) (w.alloc (.cells v.cells ty)):=by
 obtain⟨h1,h2,h3⟩:=h.cells hl;have hsub:=Z1q (β:=⟨U w.heap.size,l.length,1⟩) (I.fresh id hid hH);have he:=Ext.alloc Im w (.cells v.cells ty) I.imb;refine⟨updR ρ id ⟨U w.heap.size,l.length,1⟩,I.add id hid hH _ _ _ _ _ ?_,he,hsub, ?_⟩
 .exact⟨rfl,rfl,w.heap.size,v.cells,rfl,heap_alloc_new _ _,h1,h3,λo a u ha hu=>(h2 o a u ha hu).mono he (λ_ h=>h) hsub I.bnd⟩
 .have:=Rel.pt (ρ:=updR ρ id ⟨U w.heap.size,l.length,1⟩) (w:=w.alloc (.cells v.cells ty)) (Im:=Im) (i:=0) (o:=0) (Z1w ρ id ⟨U w.heap.size,l.length,1⟩);simpa[ptV,mpO]using this
def Zeo(x:AV):Res:=⟨x,V,[]⟩
def Za6{P:Program}{o:Oper}{id:Nat}{E:Operand->AV}{H:Heap}{x:Operand}(ho:o.op = .move x\/o.op = .assign x):Z1X P o id E H (Zeo (E x)):=by
 intro Ow Im0 w0 ρ w Im clk a I _ _ hE _;refine .inl ⟨a.eval x,w, ?_,.same I (hE x)⟩;rcases ho with ho | ho<;>simp[execOp,ho]
def Z6o{Ow:Own}{Im0:Nat->Prop}{w0 w:World}{ρ:Rho}{Im:Nat->Prop}{H:Heap}{clk id ty s:Nat}(I:Inv Ow Im0 w0 ρ w Im H clk)(hid:clk*8000<=id)(hH:H id=V):Inv Ow Im0 w0 (updR ρ id ⟨V,s,0⟩) w Im (updH H id (.arr ty s [])) clk:=by
 have hn:=I.fresh id hid hH;have hsub:=Z1q (β:=⟨V,s,0⟩) hn;refine⟨I.kept, ?_, ?_, ?_, ?_,I.imb,I.im0, ?_, ?_,Z8i I.one hid⟩
 .intro b b' β β' g l1 l2 h1 h2 h3 h4;unfold updR at h1 h2;split at h1<;>split at h2
  .omega
  .cases h1;cases h3
  .cases h2;cases h4
  .exact I.inj b b' β β' g (Z1o l1 aa) (Z1o l2 aa) h1 h2 h3 h4
 .intro b β g l h h';unfold updR at h;split at h
  .cases h;cases h'
  .exact I.notIm b β g (Z1o l aa) h h'
 .intro b β g h h';unfold updR at h;split at h
  .cases h;cases h'
  .exact I.bnd b β g h h'
 .intro b β g h h';unfold updR at h;split at h
  .cases h;cases h'
  .exact I.own b β g h h'
 .intro b B h;unfold updH at h;split at h
  .cases h;rename_i hb;exact⟨_,by rw[hb];exact Z1w _ _ _,rfl,rfl,by simp[big],by simp,.inl ⟨rfl,rfl⟩⟩
  .obtain⟨β,h1,h2⟩:=I.blk b B h;exact⟨β,hsub _ _ h1,h2.mono (Ext.refl _ _) (λ_ h=>h) hsub I.bnd (λ_ _=>rfl)⟩
 .intro b hb h;unfold updH at h;unfold updR;split
  .rename_i hbi;simp[hbi]at h
  .rename_i hbi;simp only[hbi,if_false]at h;exact I.fresh b hb h
def ZhR(P:Program)(t id:Nat):Option Res:=match P.underlying t with | U (.slice e)=>U ⟨.ow id,U (id,.arr e (szOf P e) []),[]⟩ | _=>V
def Ziv{P:Program}{o:Oper}{id:Nat}{E:Operand->AV}{H:Heap}{r:Res}(ho:o.op = .assign (.const (.slice V 0 0)))(h:ZhR P o.type id=U r):Z1X P o id E H r:=by
 intro Ow Im0 w0 ρ w Im clk a I hid hH _ _;unfold ZhR at h;split at h
 .rename_i e he;cases h;refine .inl ⟨.slice V 0 0,w,by simp[execOp,ho,Act.eval],updR ρ id ⟨V,szOf P e,0⟩,Z6o I hid hH,Ext.refl _ _,Z1q (I.fresh id hid hH), ?_⟩;have:=Rel.ow (ρ:=updR ρ id ⟨V,szOf P e,0⟩) (w:=w) (Im:=Im) (c:=0) (a:=V) (Z1w ρ id ⟨V,szOf P e,0⟩) (S _) (by simp[big]) (.inl rfl);exact this
 .cases h
def Zbm(P:Program)(t id:Nat):Option Res:=match zeroOf P t with
 | some z=>match (cv z).cells with
  | some l=>U ⟨.pt id 0 0,U (id,.box t l),[]⟩
  | none=>V
 | none=>V
def ZdS{P:Program}{o:Oper}{id t:Nat}{E:Operand->AV}{H:Heap}{r:Res}(ho:o.op = .alloc t)(h:Zbm P t id=U r):Z1X P o id E H r:=by
 intro Ow Im0 w0 ρ w Im clk a I hid hH _ _;unfold Zbm at h;split at h
 .rename_i z hz;split at h
  .rename_i l hl;cases h;refine .inl ⟨_,_, ?_,Then.box I hid hH (Z6n ρ w Im z) hl⟩;unfold zeroOf at hz;split at hz
   .rename_i i hi;simp[execOp,ho,Instr.alloc,zeroValue,typeInfo,hi,hz,newVar,newRow]
   .cases hz
  .cases h
 .cases h
def ZjU(t id:Nat)(x:AV):Option Res:=match x.cells with | U l=>U ⟨.pt id 0 0,U (id,.box t l),[]⟩ | V=>V
def ZiA{P:Program}{o:Oper}{id t:Nat}{E:Operand->AV}{H:Heap}{r:Res}{x:Operand}(ho:o.op = .box t x)(h:ZjU t id (E x)=U r):Z1X P o id E H r:=by
 intro Ow Im0 w0 ρ w Im clk a I hid hH hE _;unfold ZjU at h;split at h
 .rename_i l hl;cases h;exact .inl ⟨_,_,by simp[execOp,ho,Instr.box,newVar,newRow],Then.box I hid hH (hE x) hl⟩
 .cases h
def seg(l:List AV)(o k:Nat):List AV:=(l.drop o).take k
def Z9L(P:Program)(t:Nat)(l:List AV)(o:Nat):Option AV :=
 match Z6p P t with
 | some true=>if(seg l o (szOf P t)).length=szOf P t then U (.ag (seg l o (szOf P t)))else V
 | some false=>l[o]?
 | none=>V
def Z4W{P:Program}{t:Nat}{b:Bool}(h:Z6p P t=U b)(w:World):(isAgg t).run P w = .ok b w:=by
 unfold Z6p at h;split at h
 .rename_i fs hu;cases h;simp[isAgg,run_underlying hu]
 .rename_i n e hu;cases h;simp[isAgg,run_underlying hu]
 .rename_i d h1 h2 hu;cases h;simp only[isAgg,Sem.run_bind,run_underlying hu,Result.andThen_ok];cases d<;>first | rfl | (exfalso;first | exact h1 _ rfl | exact h2 _ _ rfl)
 .cases h
def Z3N{P:Program}{t:Nat}{n:Nat}(h:szOf P t=n)(hn:n≠0)(w:World):(sizeOf t).run P w = .ok n w:=by
 unfold szOf at h;split at h
 .rename_i i hi;subst h;simp[sizeOf,typeInfo,hi]
 .omega
def Z4a{P:Program}{w:World}{t:Nat}{g off:Nat}{l:List AV}{o:Nat}{x:AV}{ρ:Rho}{Im:Nat->Prop}
  (hc:∀ (j:Nat) (a:AV),l[j]? = U a->∃ v,w.cell? ⟨g,off+j,V⟩=U v/\v.oneCell'=X/\Rel ρ w Im a v) (hx:Z9L P t l o=U x) :
  ∃ v,(loadVar t ⟨g,off+o,V⟩).run P w = .ok v w/\Rel ρ w Im x v:=by
 unfold Z9L at hx;split at hx
 .rename_i hagg;split at hx
  .rename_i hlen;cases hx;have hex:∀ j,j<szOf P t->∃ v,w.cell? ⟨g,off+o+j,V⟩=U v/\v.oneCell'=X/\∀ a,(seg l o (szOf P t))[j]? = U a->Rel ρ w Im a v:=by
    intro j hj;have h1:(seg l o (szOf P t))[j]? = l[o+j]? := by simp[seg,hj]
    have h2:j<(seg l o (szOf P t)).length:=by omega
    have h3:l[o+j]? = U (seg l o (szOf P t))[j]:=by rw[<- h1];exact F h2
    obtain⟨v,k1,k2,k3⟩:=hc (o+j) _ h3;refine⟨v,by rw[Nat.add_assoc];exact k1,k2,λa ha=>?_⟩;rw[h1,h3]at ha;cases ha;exact k3
   have hval:∀ j,j<szOf P t->w.cell? ((⟨g,off+o,V⟩:Addr).add j)=U ((w.cell? ⟨g,off+o+j,V⟩).getD undef):=by
    intro j hj;obtain⟨v,k1,_⟩:=hex j hj;rw[Addr.add_lit,k1];rfl
   have hrun:=run_loadCells (P:=P) w ⟨g,off+o,V⟩ (szOf P t) (λj=>(w.cell? ⟨g,off+o+j,V⟩).getD undef) hval;refine⟨.agg _, ?_,.ag _ (((List.range (szOf P t)).map λj=>(w.cell? ⟨g,off+o+j,V⟩).getD undef).toArray) ?_ ?_ ?_⟩
   .have hs:(sizeOf t).run P w = .ok (szOf P t) w:=by
     unfold Z6p at hagg;unfold szOf;cases hi:P.info? t with
     | none=>simp[Program.underlying,hi]at hagg
     | some i=>simp[sizeOf,typeInfo,hi]
    simp[loadVar,Z4W hagg,hs,hrun]
   .simp[hlen]
   .intro i v hv;simp only[Ld,R]at hv;by_cases hi:i<szOf P t
    .obtain⟨u,k1,k2,_⟩:=hex i hi;simp[hi,k1]at hv;subst hv;exact k2
    .simp[hi]at hv
   .intro i a v ha hv;simp only[Ld,R]at hv;by_cases hi:i<szOf P t
    .obtain⟨u,k1,_,k3⟩:=hex i hi;simp[hi,k1]at hv;subst hv;exact k3 a ha
    .simp[hi]at hv
  .cases hx
 .rename_i hagg;obtain⟨v,k1,k2,k3⟩:=hc o x hx;exact⟨v,by simp[loadVar,Z4W hagg,k1],k3⟩
 .cases hx
def dvs(e:List DV):List AV:=e.map .d
def noMp(o:Nat):Bool:=!Nat.beq o mpO
def Z77(P:Program)(t:Nat)(hs:List Hint)(x:AV)(H:Heap):Option Res :=
 match x with
 | .pt b i o=>match noMp o with | Y=>V | X=>match H b with
  | some (.box _ l)=>match i with
   | 0=>(Z9L P t l o).map λx=>⟨x,V,[]⟩
   | _+1=>V
  | some (.arr _ _ els)=>match hs with
   | .el e::_=>(Z9L P t (dvs e) o).map λx=>⟨x,V,[els[i]? = U e]⟩
   | _=>V
  | _=>V
 | .rp e o=>(Z9L P t (dvs e) o).map λx=>⟨x,V,[]⟩
 | _=>V
def Z4p{ρ:Rho}{w:World}{Im:Nat->Prop}{b i o:Nat}{v:Value}(h:Rel ρ w Im (.pt b i o) v):∃ g s n,ρ b=U ⟨U g,s,n⟩/\v=ptV g s i o:=by
 cases h;exact⟨_,_,_,aa,rfl⟩
def Z6L{g s i o:Nat}(h:noMp o=X):ptV g s i o = .pointer (U ⟨g,i*s+o,V⟩):=by
 have:=Nat.ne_of_beq_eq_false (by simpa[noMp]using h:Nat.beq o mpO=Y);exact if_neg this
def Z3H{ρ:Rho}{w:World}{Im:Nat->Prop}{b i o:Nat}{v:Value}(h:Rel ρ w Im (.pt b i o) v)(ho:noMp o=X):∃ g s n,ρ b=U ⟨U g,s,n⟩/\v = .pointer (U ⟨g,i*s+o,V⟩):=by
 obtain⟨g,s,n,h1,h2⟩:=Z4p h;exact⟨g,s,n,h1,h2.trans (Z6L ho)⟩
def Zfy{P:Program}{t:Nat}{H:Heap}{r:Res}{x:AV}{xv:Value}{hs:List Hint}{Ow:Own}{Im0:Nat->Prop}{w0:World}{ρ:Rho}{w:World}{Im:Nat->Prop}{clk:Nat}
  (I:Inv Ow Im0 w0 ρ w Im H clk) (hx:Rel ρ w Im x xv) (h:Z77 P t hs x H=U r) (hph:allP r.ph):∃ p v,xv = .pointer (U p)/\(loadVar t p).run P w = .ok v w/\Rel ρ w Im r.val v/\r.up=V:=by
 have fin:∀ (g off oo:Nat) (l:List AV) (y:AV),xv = .pointer (U ⟨g,off+oo,V⟩)->Z9L P t l oo=U y ->
   (∀ (j:Nat) (a:AV),l[j]? = U a->∃ v,w.cell? ⟨g,off+j,V⟩=U v/\v.oneCell'=X/\Rel ρ w Im a v) ->
   ∃ p v,xv = .pointer (U p)/\(loadVar t p).run P w = .ok v w/\Rel ρ w Im y v/\(V:Option (Nat×Blk))=V:=by
  intro g off oo l y hv hp hc;obtain⟨v,k1,k2⟩:=Z4a hc hp;exact⟨_,v,hv,k1,k2,rfl⟩
 unfold Z77 at h;split at h
 .rename_i b i oo;split at h
  .cases h
  rename_i hmp;obtain⟨g,s,n,hρ,hv⟩:=Z3H hx hmp;split at h
  .rename_i ty l hb;split at h
   .simp only[T]at h;obtain⟨y,hy,rfl⟩:=h;obtain⟨β,h1,h2⟩:=I.blk b _ hb;rw[hρ]at h1;cases h1;obtain⟨_,_,g',cs,hg,hw,hsz,hone,hcell⟩:=h2;cases hg;refine fin g 0 oo l y (by simpa using hv) hy λj a' ha=>?_;have hj:j<cs.size:=by rw[hsz];exact(C.1 ha).1
    exact⟨cs[j],by simp[World.cell?,hw,hj],hone j _ (by simp[hj]),hcell j a' _ ha (by simp[hj])⟩
   .cases h
  .rename_i ty s' els hb;split at h
   .rename_i e _;simp only[T]at h;obtain⟨y,hy,rfl⟩:=h;have hel:els[i]? = U e:=by simpa[allP]using hph
    obtain⟨β,h1,h2⟩:=I.blk b _ hb;rw[hρ]at h1;cases h1;obtain⟨hs',hn',_,hlen,h3⟩:=h2;simp only at hs' hn';subst hs';rcases h3 with⟨h3,_⟩ | ⟨g',cs,hg,hw,hsz,hcell⟩
    .cases h3
    cases hg;refine fin g (i*s) oo (dvs e) y hv hy λj a' ha=>?_;simp only[dvs,R,T]at ha;obtain⟨d,hd,rfl⟩:=ha;obtain⟨v,k1,k2⟩:=hcell i e j d hel hd;have hj:i*s+j<cs.size:=(Array.getElem?_eq_some_iff.1 k1).1;exact⟨v,by simp[World.cell?,hw,k1],k2.one,.d k2⟩
   .cases h
  .cases h
 .rename_i e oo;simp only[T]at h;obtain⟨y,hy,rfl⟩:=h;cases hx with
  | rp hp him hc =>
   rename_i p;refine fin p.block p.off oo (dvs e) y rfl hy λj a' ha=>?_;simp only[dvs,R,T]at ha;obtain⟨d,hd,rfl⟩:=ha;obtain⟨v,k1,k2⟩:=hc j d hd;exact⟨v,k1,k2.one,.d k2⟩
 .cases h
def Zhg{P:Program}{o:Oper}{id t:Nat}{E:Operand->AV}{H:Heap}{r:Res}{x:Operand}{hs:List Hint}(ho:o.op = .load t x)(h:Z77 P t hs (E x) H=U r):Z1X P o id E H r:=by
 intro Ow Im0 w0 ρ w Im clk a I hid hH hE hph;obtain⟨p,v,h1,h2,h3,h4⟩:=Zfy I (hE x) h hph;have:r.heap H=H:=by simp[Res.heap,h4]
 rw[this];exact .inl ⟨v,w,by simp[execOp,ho,Instr.loadAt,Instr.sureAddr,h1,h2],.same I h3⟩
def splice(l:List AV)(o:Nat)(xs:List AV):List AV:=l.take o++xs++l.drop (o+xs.length)
def Z1r(l:List DV)(o:Nat)(xs:List DV):List DV:=l.take o++xs++l.drop (o+xs.length)
def undv:AV->Option DV
 | .d x=>U x
 | _=>V
def Zdg:List AV->Option (List DV)
 | []=>U []
 | a::l=>match undv a,Zdg l with
  | some x,some r=>U (x::r)
  | _,_=>V
def Z2U:∀ {l:List AV} {e:List DV},Zdg l=U e->l=dvs e
 | [],e,h=>by simp[Zdg]at h;subst h;rfl
 | a::l,e,h=>by
  simp only[Zdg]at h;split at h
  .rename_i x r hx hr;cases h;rw[Z2U hr];cases a<;>simp[undv]at hx;subst hx;rfl
  .cases h
def Z7C(P:Program)(t:Nat)(hs:List Hint)(x y:AV)(H:Heap):Option Res :=
 match y.cells with
 | none=>V
 | some ys=>if ys.length=szOf P t then
  match x with
  | .pt b i o=>match noMp o with | Y=>V | X=>match H b with
   | some (.box ty l)=>match i with
    | 0=>if o+ys.length<=l.length then U ⟨.any,U (b,.box ty (splice l o ys)),[]⟩else V
    | _+1=>V
   | some (.arr ty s els)=>match Zdg ys with
    | some ds=>match hs with
     | .el e::.els l'::_=>if o+ds.length<=s then U ⟨.any,U (b,.arr ty s l'),[els[i]? = U e,els.set i (Z1r e o ds)=l']⟩else V
     | .el e::_=>if o+ds.length<=s then U ⟨.any,U (b,.arr ty s (els.set i (Z1r e o ds))),[els[i]? = U e]⟩else V
     | .els l'::_=>if o=0/\ds.length=s then U ⟨.any,U (b,.arr ty s l'),[i<els.length,els.set i ds=l']⟩else V
     | _=>if o=0/\ds.length=s then U ⟨.any,U (b,.arr ty s (els.set i ds)),[i<els.length]⟩else V
    | none=>V
   | _=>V
  | _=>V
  else V
def Z1b{α:Type}{l xs:List α}{o:Nat}(h:o+xs.length<=l.length):(l.take o++xs++l.drop (o+xs.length)).length=l.length:=by
 simp;omega
def Z2g{α:Type}{l xs:List α}{o:Nat}(h:o+xs.length<=l.length)(j:Nat) :
  (l.take o++xs++l.drop (o+xs.length))[j]? = if j<o then l[j]? else if j<o+xs.length then xs[j-o]? else l[j]? := by
 have e1:(l.take o).length=o:=by simp;omega
 by_cases h1:j<o
 .simp only[h1,if_true,List.append_assoc];rw[Lj oq,List.getElem?_take_of_lt h1]
 .simp only[h1,if_false];by_cases h2:j<o+xs.length
  .simp only[h2,if_true];rw[Lj qo,Lk oq,e1]
  .simp only[h2,if_false];rw[Lk qo,List.getElem?_drop];congr 1;simp;omega
def Z4B{P:Program}{w:World}{t g off:Nat}{cs:Array Value}{ty:Nat}{v:Value}(hg:w.heap[g]? = U (.cells cs ty (0,0)))
  (hsz:v.cells.size=szOf P t) (hinfo:(P.info? t).isSome=X) (hfit:off+v.cells.size<=cs.size) (hone:∀ (i:Nat) (u:Value),v.cells[i]? = U u->u.oneCell'=X) :
  (storeVar t ⟨g,off,V⟩ v).run P w = .ok () (w.setRow g (cs.toList.take off++v.cells.toList++cs.toList.drop (off+v.cells.toList.length)).toArray):=by
 obtain⟨i,hi⟩:=Option.isSome_iff_exists.1 hinfo;have hs:i.size=v.cells.size:=by unfold szOf at hsz;rw[hi]at hsz;exact hsz.symm
 have:=run_storeCells_at P g off ty v.cells.toList 0 cs w hg (by simpa using hfit) (λu hu=>by
  obtain⟨k,hk⟩:=List.getElem?_of_mem hu;exact hone k u (by simpa using hk))
 simp only[Nat.add_zero]at this;simp[storeVar,sizeOf,typeInfo,hi,hs,this]
def Zax{P:Program}{o:Oper}{t:Nat}{x y:Operand}{Ow:Own}{Im0:Nat->Prop}{w0:World}{ρ:Rho}{w:World}{Im:Nat->Prop}{H:Heap}{clk:Nat}{a:Act}
  (ho:o.op = .store t x y) (I:Inv Ow Im0 w0 ρ w Im H clk) {b g s n off:Nat} {cs:Array Value} {ty:Nat} {B B':Blk} (hb:ρ b=U ⟨U g,s,n⟩) (hH:H b=U B) (hBd:B≠.dead)
  (hg:w.heap[g]? = U (.cells cs ty (0,0))) (hv:a.eval x = .pointer (U ⟨g,off,V⟩)) (hinfo:(P.info? t).isSome=X)
  (hsz:(a.eval y).cells.size=szOf P t) (hfit:off+(a.eval y).cells.size<=cs.size) (hone:∀ (i:Nat) (u:Value),(a.eval y).cells[i]? = U u->u.oneCell'=X)
  (hB:∀ w',Ext Im w w'->∀ cs':Array Value,w'.heap[g]? = U (.cells cs' ty (0,0))->cs'.size=cs.size ->
   (∀ j,cs'[j]? = if j<off then cs[j]? else if j<off+(a.eval y).cells.size then(a.eval y).cells[j-off]? else cs[j]?)->RelB ρ w' Im ⟨U g,s,n⟩ B') :
  Goes P o a w λv w'=>Then Ow Im0 w0 ρ w Im clk (updH H b B') .any v w':=by
 have hrun:=Z4B (P:=P) (t:=t) hg hsz hinfo hfit hone;have hl:off+(a.eval y).cells.toList.length<=cs.toList.length:=by simpa using hfit
 have hlen:((cs.toList.take off++(a.eval y).cells.toList++cs.toList.drop (off+(a.eval y).cells.toList.length)).toArray).size=cs.size:=by
  rw[List.size_toArray,Z1b hl];simp
 have hput:=I.put b g s n cs _ ty B' hb hg hlen ⟨B,hH,hBd⟩ (λhe=>hB _ he _ (setRow_heap w g cs _ ty _ hg) hlen (λj=>by
  rw[Ld,Z2g hl];simp))
 refine .inr ⟨_, ?_,ρ,hput.1,hput.2,λ_ _ h=>h,.any _⟩;simp[execOp,ho,Instr.storeAt,Instr.sureAddr,hv,hrun]
def Z6Y{P:Program}{t:Nat}(h:szOf P t≠0):(P.info? t).isSome=X:=by
 unfold szOf at h;cases hi:P.info? t with
 | none=>simp[hi]at h
 | some i=>rfl
def ZdH{P:Program}{o:Oper}{id t:Nat}{E:Operand->AV}{H:Heap}{r:Res}{x y:Operand}{hs:List Hint}(ho:o.op = .store t x y)(hz:szOf P t≠0)
  (h:Z7C P t hs (E x) (E y) H=U r):Z1X P o id E H r:=by
 intro Ow Im0 w0 ρ w Im clk a I hid hH hE hph;have hx:=hE x;have hy:=hE y;unfold Z7C at h;split at h
 .cases h
 rename_i ys hys;obtain⟨c1,c2,c3⟩:=hy.cells hys;split at h;rotate_left
 .cases h
 rename_i hlen;have hsz:(a.eval y).cells.size=szOf P t:=by rw[c1,hlen]
 split at h;rotate_left
 .cases h
 rename_i b i oo hE';rw[hE']at hx;split at h
 .cases h
 rename_i hmp;obtain⟨g,s,n,hρ,hv⟩:=Z3H hx hmp;split at h
 .rename_i ty l hb;split at h;rotate_left
  .cases h
  split at h;rotate_left
  .cases h
  rename_i hfit;cases h;obtain⟨β,h1,h2⟩:=I.blk b _ hb;rw[hρ]at h1;cases h1;obtain⟨hs1,hn1,g',cs,hg,hw,hsz1,hone,hcell⟩:=h2;cases hg;refine Zax ho I hρ hb pq hw (off:=oo) (by simpa using hv) (Z6Y hz) hsz (by rw[c1];omega) c3 λw' he cs' hw' hsz' hget=>?_;refine⟨?_,hn1,g,cs',rfl,hw', ?_, ?_, ?_⟩
  .simp only[splice];rw[Z1b hfit];exact hs1
  .rw[hsz',hsz1];simp only[splice];rw[Z1b hfit]
  .intro j u hu;rw[hget]at hu;split at hu
   .exact hone j u hu
   .split at hu
    .exact c3 _ u hu
    .exact hone j u hu
  .intro j a' u ha hu;rw[hget]at hu;simp only[splice]at ha;rw[Z2g hfit]at ha;rw[c1]at hu;split at hu
   .rename_i h1;simp only[h1,if_true]at ha;exact(hcell j a' u ha hu).mono he (λ_ h=>h) (λ_ _ h=>h) I.bnd
   .rename_i h1;simp only[h1,if_false]at ha;split at hu
    .rename_i h2;simp only[h2,if_true]at ha;exact(c2 _ a' u ha hu).mono he (λ_ h=>h) (λ_ _ h=>h) I.bnd
    .rename_i h2;simp only[h2,if_false]at ha;exact(hcell j a' u ha hu).mono he (λ_ h=>h) (λ_ _ h=>h) I.bnd
 .rename_i ty s' els hb;split at h;rotate_left
  .cases h
  rename_i ds hds;have hyd:=Z2U hds;have hdl:ds.length=ys.length:=by rw[hyd];simp[dvs]
  obtain⟨β,h1,h2⟩:=I.blk b _ hb;rw[hρ]at h1;cases h1;obtain⟨hs1,hn1,hbig,hel,h3⟩:=h2;simp only at hs1 hn1;subst hs1;have fin:∀ (e':List DV),e'.length=s->i<els.length->oo+ys.length<=s->(∀ j,e'[j]? = if j<oo then(els[i]?.getD [])[j]? else if j<oo+ds.length then ds[j-oo]? else(els[i]?.getD [])[j]?) ->
    Goes P o a w λv w'=>Then Ow Im0 w0 ρ w Im clk (updH H b (.arr ty s (els.set i e'))) .any v w':=by
   intro e' hl' hi hfit hget';rcases h3 with⟨_,h3⟩ | ⟨g',cs,hg,hw,hsz1,hcell⟩
   .subst h3;simp at hi
   cases hg;have hin:i*s+s<=cs.size:=by
    have:(i+1)*s<=els.length*s:=Lg s hi;rw[Le]at this;omega
   refine Zax ho I hρ hb pq hw (off:=i*s+oo) hv (Z6Y hz) hsz (by rw[c1];omega) c3 λw' he cs' hw' hsz' hget=>?_;refine⟨rfl,by simp[hn1],by simpa using hbig, ?_,.inr ⟨g,cs',rfl,hw',by rw[hsz'];simpa using hsz1, ?_⟩⟩
   .intro e he';rcases List.mem_or_eq_of_mem_set he' with h | h
    .exact hel e h
    .rw[h];exact hl'
   .intro k e j d hk hj;rw[Ll]at hk;by_cases hki:i=k
    .subst hki;simp only[if_true,hi]at hk;cases hk;have hjs:j<s:=by rw[<- hl'];exact(C.1 hj).1
     rw[hget']at hj;have hei:els[i]? = U (els[i]?.getD []):=by rw[F hi];rfl
     by_cases hj1:j<oo
     .simp only[hj1,if_true]at hj;obtain⟨v,k1,k2⟩:=hcell i _ j d hei hj;exact⟨v,by rw[hget];simp[hj1,k1],k2.mono he (λ_ h=>h)⟩
     .simp only[hj1,if_false]at hj;by_cases hj2:j<oo+ds.length
      .simp only[hj2,if_true]at hj;have hyj:ys[j-oo]? = U (.d d):=by rw[hyd];simp[dvs,hj]
       have hcj:j-oo<(a.eval y).cells.size:=by rw[c1,<- hdl];omega
       have hr:=c2 (j-oo) _ _ hyj (O hcj);refine⟨_,by rw[hget,if_neg oq,if_pos (by rw[c1,<- hdl];omega),show i*s+j-(i*s+oo)=j-oo from by omega];exact O hcj, ?_⟩;cases hr with
       | d hr=>exact hr.mono he (λ_ h=>h)
      .simp only[hj2,if_false]at hj;obtain⟨v,k1,k2⟩:=hcell i _ j d hei hj;exact⟨v,by rw[hget,if_neg oq,if_neg (by rw[c1,<- hdl];omega)];exact k1,k2.mono he (λ_ h=>h)⟩
    .simp only[hki,if_false]at hk;obtain⟨v,k1,k2⟩:=hcell k e j d hk hj;have hes:e.length=s:=hel e (Lm hk);have hjs:j<s:=by rw[<- hes];exact(C.1 hj).1
     refine⟨v, ?_,k2.mono he (λ_ h=>h)⟩;rw[hget];rcases Nat.lt_or_ge k i with hlt | hge
     .have:(k+1)*s<=i*s:=Lg s hlt;rw[Le]at this;rw[if_pos oq];exact k1
     .have:(i+1)*s<=k*s:=Lg s oq;rw[Le]at this;rw[if_neg oq,if_neg (by rw[c1];omega)];exact k1
  have whole:oo=0/\ds.length=s->i<els.length->Goes P o a w λv w'=>Then Ow Im0 w0 ρ w Im clk (updH H b (.arr ty s (els.set i ds))) .any v w':=by
   rintro⟨rfl,hds'⟩ hi;refine fin ds hds' hi oq λj=>?_;by_cases hj:j<ds.length
   .simp[hj]
   .simp only[Nat.not_lt_zero,if_false,Ln,hj];rw[Lc oq];have:(els[i]?.getD []).length=s:=by rw[F hi];exact hel _ (List.getElem_mem hi)
    rw[Lc oq]
  have part:∀ e,els[i]? = U e->oo+ds.length<=s->Goes P o a w λv w'=>Then Ow Im0 w0 ρ w Im clk (updH H b (.arr ty s (els.set i (Z1r e oo ds)))) .any v w':=by
   intro e he hfit;have hes:e.length=s:=hel e (Lm he);refine fin _ (by simp only[Z1r];rw[Z1b oq];exact hes) (C.1 he).1 oq λj=>?_;simp only[Z1r];rw[Z2g oq,he];rfl
  split at h
  .rename_i e l' _;split at h
   .cases h;obtain⟨p1,p2⟩:els[i]? = U e/\els.set i (Z1r e oo ds)=l':=by simpa[allP]using hph
    rw[Res.heap,<- p2];exact part e p1 aa
   .cases h
  .rename_i e _ _;split at h
   .cases h;exact part e (by simpa[allP]using hph) aa
   .cases h
  .rename_i l' _;split at h
   .cases h;obtain⟨p1,p2⟩:i<els.length/\els.set i ds=l':=by simpa[allP]using hph
    rw[Res.heap,<- p2];exact whole aa p1
   .cases h
  .split at h
   .cases h;exact whole aa (by simpa[allP]using hph)
   .cases h
 .cases h
def numR(k:IntKind)(n:Int)(ps:List Prop):List Hint->Res
 | .int m::_=>⟨.d (.sc (.int k m)),V,(n=m)::ps⟩
 | _=>⟨.d (.sc (.int k n)),V,ps⟩
def Z4D(b:Bool):List Hint->Res
 | .br c::_=>⟨.d (.sc (.bool c)),V,[b=c]⟩
 | _=>⟨.d (.sc (.bool b)),V,[]⟩
def Z1y{P:Program}{o:Oper}{id:Nat}{E:Operand->AV}{H:Heap}{k:IntKind}{n:Int}{ps:List Prop}{hs:List Hint}
  (h:∀ (ρ:Rho) (w:World) (Im:Nat->Prop) (a:Act),(∀ x,Rel ρ w Im (E x) (a.eval x))->allP ps->(execOp a.eval o).run P w = .ok (.value (.int k n)) w):Z1X P o id E H (numR k n ps hs):=by
 intro Ow Im0 w0 ρ w Im clk a I _ _ hE hph;unfold numR at hph ⊢;split at hph
 .rename_i m _;obtain⟨rfl,h2⟩:=allP_cons.1 hph;exact .inl ⟨_,w,h ρ w Im a hE h2,.same I (.d (.sc _ rfl))⟩
 .exact .inl ⟨_,w,h ρ w Im a hE hph,.same I (.d (.sc _ rfl))⟩
def Z2L{P:Program}{o:Oper}{id:Nat}{E:Operand->AV}{H:Heap}{b:Bool}{hs:List Hint}
  (h:∀ (ρ:Rho) (w:World) (Im:Nat->Prop) (a:Act),(∀ x,Rel ρ w Im (E x) (a.eval x))->(execOp a.eval o).run P w = .ok (.value (.bool b)) w):Z1X P o id E H (Z4D b hs):=by
 intro Ow Im0 w0 ρ w Im clk a I _ _ hE hph;unfold Z4D at hph ⊢;split at hph
 .rename_i m _;obtain rfl:b=m:=by simpa[allP]using hph
  exact .inl ⟨_,w,h ρ w Im a hE,.same I (.d (.sc _ rfl))⟩
 .exact .inl ⟨_,w,h ρ w Im a hE,.same I (.d (.sc _ rfl))⟩
def ikEq:IntKind->IntKind->Bool
 | .i8,.i8 | .i16,.i16 | .i32,.i32 | .i64,.i64 | .u8,.u8 | .u16,.u16 | .u32,.u32 | .u64,.u64=>X
 | _,_=>Y
def ZdJ{k k':IntKind}(h:ikEq k k'=X):k=k':=by cases k<;>cases k'<;>first | rfl | simp[ikEq]at h
def ZjI(op:BinOp)(k:IntKind)(a:Int)(k':IntKind)(b:Int)(hs:List Hint):Option Res :=
 match op with
 | .shl=>U (numR k (k.wrap (a*2^(min b.toNat k.bits))) [0<=b] hs)
 | .shr=>U (numR k (a.fdiv (2^(min b.toNat k.bits))) [0<=b] hs)
 | op=>if ikEq k k' then
  match op with
  | .add=>U (numR k (k.wrap (a+b)) [] hs)
  | .sub=>U (numR k (k.wrap (a-b)) [] hs)
  | .mul=>U (numR k (k.wrap (a*b)) [] hs)
  | .quo=>U (numR k (k.wrap (a.tdiv b)) [b≠0] hs)
  | .rem=>U (numR k (a.tmod b) [b≠0] hs)
  | .and=>U (numR k (bits .and k a b) [] hs)
  | .or=>U (numR k (bits .or k a b) [] hs)
  | .xor=>U (numR k (bits .xor k a b) [] hs)
  | .andNot=>U (numR k (bits .andNot k a b) [] hs)
  | .eql=>U (Z4D (a==b) hs)
  | .neq=>U (Z4D (a != b) hs)
  | .lss=>U (Z4D (decide (a<b)) hs)
  | .leq=>U (Z4D (decide (a<=b)) hs)
  | .gtr=>U (Z4D (decide (b<a)) hs)
  | .geq=>U (Z4D (decide (b<=a)) hs)
  | _=>V
  else V
def Z0G{ρ:Rho}{w:World}{Im:Nat->Prop}{u v:Value}(h:Rel ρ w Im (.d (.sc u)) v):v=u:=by
 cases h with
 | d h=>cases h;rfl
def Zhx{P:Program}{o:Oper}{id:Nat}{E:Operand->AV}{H:Heap}{r:Res}{x y:Operand}{op:BinOp}{t t':Nat}{k k':IntKind}{m n:Int}{hs:List Hint}
  (ho:o.op = .binOp op t x y t') (hx:E x = .d (.sc (.int k m))) (hy:E y = .d (.sc (.int k' n))) (h:ZjI op k m k' n hs=U r):Z1X P o id E H r:=by
 have base:∀ (ρ:Rho) (w:World) (Im:Nat->Prop) (a:Act),(∀ x,Rel ρ w Im (E x) (a.eval x)) ->
   (execOp a.eval o).run P w=((binOp op t (.int k m) (.int k' n)).run P w).andThen λv w=>.ok (.value v) w:=by
  intro ρ w Im a hE;have h1:=Z0G (hx▸hE x);have h2:=Z0G (hy▸hE y);simp[execOp,ho,h1,h2,eqGuard_at_int]
 unfold ZjI at h;split at h
 .cases h;refine Z1y λρ w Im a hE hp=>?_;have hp':0<=n:=by simpa[allP]using hp
  rw[base ρ w Im a hE];simp[binOp_shl,Lp,show ¬ n<0 from by omega]
 .cases h;refine Z1y λρ w Im a hE hp=>?_;have hp':0<=n:=by simpa[allP]using hp
  rw[base ρ w Im a hE];simp[binOp_shr,Lp,show ¬ n<0 from by omega]
 .split at h
  .rename_i hk;obtain rfl:=ZdJ hk;split at h<;>first | (cases h;done) | cases h
   .exact Z1y λρ w Im a hE _=>by rw[base ρ w Im a hE];simp[binOp_add,La]
   .exact Z1y λρ w Im a hE _=>by rw[base ρ w Im a hE];simp[binOp_sub,La]
   .exact Z1y λρ w Im a hE _=>by rw[base ρ w Im a hE];simp[binOp_mul,La]
   .exact Z1y λρ w Im a hE hp=>by
     have hp':n≠0:=by simpa[allP]using hp
     rw[base ρ w Im a hE];simp[binOp_quo,Lo,hp']
   .exact Z1y λρ w Im a hE hp=>by
     have hp':n≠0:=by simpa[allP]using hp
     rw[base ρ w Im a hE];simp[binOp_rem,Lo,hp']
   .exact Z1y λρ w Im a hE _=>by rw[base ρ w Im a hE];simp[binOp_and,intBits_and]
   .exact Z1y λρ w Im a hE _=>by rw[base ρ w Im a hE];simp[binOp_or,intBits_or]
   .exact Z1y λρ w Im a hE _=>by rw[base ρ w Im a hE];simp[binOp_xor,intBits_xor]
   .exact Z1y λρ w Im a hE _=>by rw[base ρ w Im a hE];simp[binOp_andNot,intBits_andNot]
   .exact Z2L λρ w Im a hE=>by rw[base ρ w Im a hE];simp[binOp_eql]
   .exact Z2L λρ w Im a hE=>by rw[base ρ w Im a hE];simp[binOp_neq]
   .exact Z2L λρ w Im a hE=>by rw[base ρ w Im a hE];simp[binOp_lss]
   .exact Z2L λρ w Im a hE=>by rw[base ρ w Im a hE];simp[binOp_leq]
   .exact Z2L λρ w Im a hE=>by rw[base ρ w Im a hE];simp[binOp_gtr]
   .exact Z2L λρ w Im a hE=>by rw[base ρ w Im a hE];simp[binOp_geq]
  .cases h
def Z54(P:Program)(t:Nat):Bool:=match P.underlying t with | U .bool=>X | _=>Y
def Z44(P:Program)(t:Nat):Bool:=match P.underlying t with | U (.int _)=>X | _=>Y
def Z4w(P:Program):Nat->List Field->Bool
 | _,[]=>X
 | n,f::fs=>(f.offset==n&&!(f.name == "_")&&(Z44 P f.type||Z54 P f.type))&&Z4w P (n+1) fs
def eqV1:Value->Value->Option Bool
 | .int k a,.int k' b=>if ikEq k k' then U (a==b)else V
 | .bool a,.bool b=>U (a==b)
 | _,_=>V
def Z7r:List Value->List Value->Option Bool
 | [],_=>V
 | _::_,[]=>V
 | x::xs,y::ys=>match xs,ys with
  | [],[]=>eqV1 x y
  | xs,ys=>match eqV1 x y,Z7r xs ys with
   | some b,some r=>U (b&&r)
   | _,_=>V
def unsc:AV->Option Value
 | .d (.sc v)=>U v
 | _=>V
def ZgK:List AV->Option (List Value)
 | []=>U []
 | a::l=>match unsc a,ZgK l with
  | some x,some r=>U (x::r)
  | _,_=>V
def Z6R:∀ {l:List AV} {e:List Value},ZgK l=U e->l=e.map λv=>.d (.sc v)
 | [],e,h=>by simp[ZgK]at h;subst h;rfl
 | a::l,e,h=>by
  simp only[ZgK]at h;split at h
  .rename_i x r hx hr;cases h;rw[Z6R hr];have:a = .d (.sc x):=by
    unfold unsc at hx;split at hx
    .cases hx;rfl
    .cases hx
   rw[this];rfl
  .cases h
def Zlm{P:Program}{w:World}{t d:Nat}{x y:Value}{b:Bool}(ht:(Z44 P t||Z54 P t)=X)(h:eqV1 x y=U b)
  (hk:(Z44 P t=X->∃ k n,x = .int k n)/\(Z44 P t=Y->∃ b,x = .bool b)):(Z (d+1) t x y).run P w = .ok b w:=by
 unfold eqV1 at h;split at h
 .split at h
  .rename_i hik;obtain rfl:=ZdJ hik;cases h;cases hi:Z44 P t with
   | true =>
    unfold Z44 at hi;split at hi
    .exact run_equalIn_int w d t _ _ _ _ aa
    .cases hi
   | false =>
    obtain⟨b,hb⟩:=hk.2 hi;cases hb
  .cases h
 .cases h;cases hi:Z44 P t with
  | true=>obtain⟨k,n,hb⟩:=hk.1 hi;cases hb
  | false =>
   simp only[hi,Bool.false_or]at ht;unfold Z54 at ht;split at ht
   .exact run_equalIn_bool' w d t _ _ aa
   .cases ht
 .cases h
def Z5w(P:Program):List Field->List Value->Bool
 | f::fs,v::vs=>(match v with | .int _ _=>Z44 P f.type | .bool _=>Z54 P f.type&&!Z44 P f.type | _=>Y)&&Z5w P fs vs
 | [],[]=>X
 | _,_=>Y
def Zcj{P:Program}{w:World}{t n:Nat}{cs:Array Value}{v:Value}(ht:(Z44 P t||Z54 P t)=X)(h:cs[n]? = U v):(part t cs n).run P w = .ok v w:=by
 have hagg:Z6p P t=U Y:=by
  unfold Z6p;unfold Z44 Z54 at ht;cases hu:P.underlying t with
  | none=>simp[hu]at ht
  | some d=>cases d<;>simp_all
 simp[part,Z4W hagg,h]
def Za1{P:Program}{w:World}{d:Nat}{cs cs':Array Value}:∀ {fs:List Field} {xs ys:List Value} {n:Nat} {b:Bool},Z4w P n fs=X->Z5w P fs xs=X->Z7r xs ys=U b ->
  (∀ j v,xs[j]? = U v->cs[n+j]? = U v)->(∀ j v,ys[j]? = U v->cs'[n+j]? = U v)->(W (d+1) cs cs' fs).run P w = .ok b w
 | [],xs,ys,n,b,_,hk,he,_,_=>by
  cases xs with
  | nil=>simp[Z7r]at he
  | cons x xs=>simp[Z5w]at hk
 | f::fs,xs,ys,n,b,hp,hk,he,hx,hy=>by
  cases xs with
  | nil=>simp[Z7r]at he
  | cons x xs =>
   cases ys with
   | nil=>simp[Z7r]at he
   | cons y ys =>
    simp only[Z4w,Lb,beq_iff_eq,Lh,beq_eq_false_iff_ne]at hp;obtain⟨⟨⟨hoff,hname⟩,hty⟩,hrest⟩:=hp;simp only[Z5w,Lb]at hk;obtain⟨hk1,hk2⟩:=hk;have px:=Zcj (P:=P) (w:=w) (t:=f.type) (n:=f.offset) (cs:=cs) (v:=x) hty (by rw[hoff];exact hx 0 x rfl);have py:=Zcj (P:=P) (w:=w) (t:=f.type) (n:=f.offset) (cs:=cs') (v:=y) hty (by rw[hoff];exact hy 0 y rfl);have hkx:(Z44 P f.type=X->∃ k n,x = .int k n)/\(Z44 P f.type=Y->∃ b,x = .bool b):=by
     cases x<;>simp_all
    have one:∀ b1,eqV1 x y=U b1->(W (d+1) cs cs' (f::fs)).run P w=if b1 then(W (d+1) cs cs' fs).run P w else .ok Y w:=by
     intro b1 h1;simp only[W];rw[if_pos hname];simp only[Sem.run_bind,px,py,Result.andThen_ok,Zlm hty h1 hkx];cases b1<;>simp
    have tail:∀ r,Z7r xs ys=U r->(W (d+1) cs cs' fs).run P w = .ok r w:=λr hr =>
     Za1 hrest hk2 hr (λj v hv=>by have:=hx (j+1) v (by simpa using hv);rw[<- this];congr 1;omega) (λj v hv=>by have:=hy (j+1) v (by simpa using hv);rw[<- this];congr 1;omega)
    unfold Z7r at he;split at he
    .rw[one b he];have hfs:fs=[]:=by
      cases fs with
      | nil=>rfl
      | cons _ _=>simp[Z5w]at hk2
     subst hfs;cases b<;>simp[W]
    .split at he
     .rename_i b1 r h1 h2;cases he;rw[one b1 h1,tail r h2];cases b1<;>simp
     .cases he
def Z3T(P:Program)(t:Nat):List Field:=match P.underlying t with | U (.struct fs)=>fs.toList | _=>[]
def eqOk(P:Program)(t:Nat):Bool:=Z4w P 0 (Z3T P t)&&!(P.stoodInHeld t)&&!(P.eqGuardType P.depth t)&&(match P.underlying t with | U (.struct _)=>X | _=>Y)
def Zbv(P:Program)(neg:Bool)(t:Nat)(l l':List AV)(hs:List Hint):Option Res :=
 match ZgK l,ZgK l' with
 | some xs,some ys=>if eqOk P t&&Z5w P (Z3T P t) xs then
  match Z7r xs ys with
  | some b=>U (Z4D (if neg then !b else b) hs)
  | none=>V
  else V
 | _,_=>V
def Z3a{ρ:Rho}{w:World}{Im:Nat->Prop}{l:List AV}{v:Value}(h:Rel ρ w Im (.ag l) v):∃ cs,v = .agg cs/\cs.size=l.length/\(∀ (i:Nat) (u:Value),cs[i]? = U u->u.oneCell'=X)/\∀ (i:Nat) (a:AV) (u:Value),l[i]? = U a->cs[i]? = U u->Rel ρ w Im a u:=by
 cases h with
 | ag _ cs h1 h2 h3=>exact⟨cs,rfl,h1,h2,h3⟩
def Zab{P:Program}{o:Oper}{id:Nat}{E:Operand->AV}{H:Heap}{r:Res}{x y:Operand}{neg:Bool}{t t':Nat}{l l':List AV}{hs:List Hint}
  (ho:o.op = .binOp (if neg then .neq else .eql) t x y t') (hx:E x = .ag l) (hy:E y = .ag l') (h:Zbv P neg t l l' hs=U r):Z1X P o id E H r:=by
 unfold Zbv at h;split at h;rotate_left
 .cases h
 rename_i xs ys hxs hys;split at h;rotate_left
 .cases h
 rename_i hok;split at h;rotate_left
 .cases h
 rename_i b hb;cases h;have e1:=Z6R hxs;have e2:=Z6R hys;simp only[eqOk,Lb,Lh]at hok;obtain⟨⟨⟨⟨h1,h2⟩,h3⟩,h4⟩,h5⟩:=hok;refine Z2L λρ w Im a hE=>?_;obtain⟨cs,hv,hn,_,hc⟩:=Z3a (hx▸hE x);obtain⟨cs',hv',hn',_,hc'⟩:=Z3a (hy▸hE y);have hst:P.underlying t=U (.struct (P.fieldsOf t)):=by
  unfold Program.fieldsOf;split at h4
  .rename_i fs hfs;rw[hfs]
  .cases h4
 have hfs:Z3T P t=(P.fieldsOf t).toList:=by unfold Z3T;rw[hst]
 have key:∀ (cs:Array Value) (xs:List Value) (l:List AV),l=xs.map (λv=>AV.d (.sc v))->cs.size=l.length->(∀ (i:Nat) (a:AV) (u:Value),l[i]? = U a->cs[i]? = U u->Rel ρ w Im a u) ->
   ∀ j v,xs[j]? = U v->cs[0+j]? = U v:=by
  intro cs xs l hl hn hc j v hj;have hlj:l[j]? = U (.d (.sc v)):=by rw[hl];simp[hj]
  have hjl:j<cs.size:=by rw[hn];exact(C.1 hlj).1
  have:=Z0G (hc j _ _ hlj (O hjl));rw[Ln,O hjl,this]
 have hrun:=Za1 (P:=P) (w:=w) (d:=9998) (cs:=cs) (cs':=cs') h1 h5 hb (key cs xs l e1 hn hc) (key cs' ys l' e2 hn' hc');have heq:(Z 10000 t (.agg cs) (.agg cs')).run P w = .ok b w:=by
  rw[run_equalIn_struct (P:=P) w 9999 t cs cs' hst h2,<- hfs];exact hrun
 cases neg with
 | false =>
  simp only[L,if_false]at ho ⊢;simp[execOp,ho,hv,hv',run_eqGuard_agg (P:=P) w .eql t x y cs cs' h3,run_eql_struct,heq]
 | true =>
  simp only[if_true]at ho ⊢;simp[execOp,ho,hv,hv',run_eqGuard_agg (P:=P) w .neq t x y cs cs' h3,run_neq_struct,heq]
def Z65(P:Program)(neg:Bool)(t:Nat)(a b:Bool)(hs:List Hint):Option Res:=if Z54 P t then U (Z4D (if neg then !(a==b)else a==b) hs)else V
def Z7q{P:Program}{o:Oper}{id:Nat}{E:Operand->AV}{H:Heap}{r:Res}{x y:Operand}{neg:Bool}{t t':Nat}{p q:Bool}{hs:List Hint}
  (ho:o.op = .binOp (if neg then .neq else .eql) t x y t') (hx:E x = .d (.sc (.bool p))) (hy:E y = .d (.sc (.bool q))) (h:Z65 P neg t p q hs=U r):Z1X P o id E H r:=by
 unfold Z65 at h;split at h
 .rename_i ht;cases h;refine Z2L λρ w Im a hE=>?_;have h1:=Z0G (hx▸hE x);have h2:=Z0G (hy▸hE y);have hu:P.underlying t=U .bool:=by
   unfold Z54 at ht;split at ht
   .assumption
   .cases ht
  have heq:(Z 10000 t (.bool p) (.bool q)).run P w = .ok (p==q) w:=run_equalIn_bool' w 9999 t p q hu;cases neg with
  | false =>
   simp only[L,if_false]at ho ⊢;simp[execOp,ho,h1,h2,eqGuard_at_bool,binOp,N,M,heq]
  | true =>
   simp only[if_true]at ho ⊢;simp[execOp,ho,h1,h2,eqGuard_at_bool,binOp,N,M,heq]
 .cases h
def ZiO(P:Program)(op:BinOp)(t:Nat)(hs:List Hint)(x y:AV):Option Res :=
 match x,y with
 | .d (.sc (.int k a)),.d (.sc (.int k' b))=>ZjI op k a k' b hs
 | .d (.sc (.bool a)),.d (.sc (.bool b))=>match op with
  | .eql=>Z65 P Y t a b hs
  | .neq=>Z65 P X t a b hs
  | _=>V
 | .ag l,.ag l'=>match op with
  | .eql=>Zbv P Y t l l' hs
  | .neq=>Zbv P X t l l' hs
  | _=>V
 | _,_=>V
def Zjw{P:Program}{o:Oper}{id:Nat}{E:Operand->AV}{H:Heap}{r:Res}{x y:Operand}{op:BinOp}{t t':Nat}{hs:List Hint}
  (ho:o.op = .binOp op t x y t') (h:ZiO P op t hs (E x) (E y)=U r):Z1X P o id E H r:=by
 unfold ZiO at h;split at h
 .exact Zhx ho aa aa h
 .split at h
  .exact Z7q (neg:=Y) ho aa aa h
  .exact Z7q (neg:=X) ho aa aa h
  .cases h
 .split at h
  .exact Zab (neg:=Y) ho aa aa h
  .exact Zab (neg:=X) ho aa aa h
  .cases h
 .cases h
def Z7W(P:Program)(t:Nat):Bool:=match P.underlying t with | U (.slice _)=>X | _=>Y
def ZfB(P:Program)(neg:Bool)(t:Nat)(x:AV):Option Res:=match x,Z7W P t with
 | .d (.sl _ els),true=>U ⟨.d (.sc (.bool neg)),V,[els≠[]]⟩
 | .d (.sc (.slice none _ _)),true=>U ⟨.d (.sc (.bool (!neg))),V,[]⟩
 | .d (.sc (.slice (some _) _ _)),true=>U ⟨.d (.sc (.bool neg)),V,[]⟩
 | _,_=>V
def Z84{P:Program}{w:World}(d:Nat){t e:Nat}(hu:P.underlying t=U (.slice e))(p:Option Addr)(m k n c:Nat):(Z (d+1) t (.slice p m k) (.slice V n c)).run P w = .ok p.isNone w:=by
 cases p<;>simp[Z,run_underlying hu]
def isSlice{P:Program}{t:Nat}(h:Z7W P t=X):∃ e,P.underlying t=U (.slice e):=by
 unfold Z7W at h;split at h
 .exact⟨_,aa⟩
 .cases h
def ZdL{P:Program}{w:World}{a:Act}{o:Oper}{x:Operand}{neg:Bool}{t t' n c m k:Nat}{p:Option Addr}(ho:o.op = .binOp (if neg then .neq else .eql) t x (.const (.slice V n c)) t')
  (ht:Z7W P t=X) (hv:a.eval x = .slice p m k):(execOp a.eval o).run P w = .ok (.value (.bool (if neg then !p.isNone else p.isNone))) w:=by
 obtain⟨e,hu⟩:=isSlice ht;have heq:(Z 10000 t (.slice p m k) (.slice V n c)).run P w = .ok p.isNone w:=Z84 9999 hu p m k n c;have h2:a.eval (.const (.slice V n c)) = .slice V n c:=rfl;cases neg with
 | false =>
  simp only[L,if_false]at ho ⊢;simp[execOp,ho,hv,h2,eqGuard_at_slice,binOp,N,M,heq]
 | true =>
  simp only[if_true]at ho ⊢;simp[execOp,ho,hv,h2,eqGuard_at_slice,binOp,N,M,heq]
def Zde{P:Program}{o:Oper}{id:Nat}{E:Operand->AV}{H:Heap}{r:Res}{x:Operand}{neg:Bool}{t t' n c:Nat}
  (ho:o.op = .binOp (if neg then .neq else .eql) t x (.const (.slice V n c)) t') (h:ZfB P neg t (E x)=U r):Z1X P o id E H r:=by
 unfold ZfB at h;intro Ow Im0 w0 ρ w Im clk a I _ _ hE hph;have h1:=hE x;generalize hv:a.eval x=v at h1;split at h
 .rename_i els hx ht;cases h;have hne:els≠[]:=by simpa[allP]using hph
  rw[hx]at h1;cases h1 with
  | d h1 =>
   cases h1 with
   | slNil=>exact absurd rfl hne
   | sl s' els' p m k f=>exact .inl ⟨.bool neg,w,by rw[ZdL ho ht hv];cases neg<;>rfl,.same I (.d (.sc _ rfl))⟩
 .rename_i hx ht;cases h;rw[hx]at h1;have h2:=Z0G h1;exact .inl ⟨.bool (!neg),w,by rw[ZdL ho ht (hv.trans h2)];cases neg<;>rfl,.same I (.d (.sc _ rfl))⟩
 .rename_i hx ht;cases h;rw[hx]at h1;have h2:=Z0G h1;exact .inl ⟨.bool neg,w,by rw[ZdL ho ht (hv.trans h2)];cases neg<;>rfl,.same I (.d (.sc _ rfl))⟩
 .cases h
def Zb0(P:Program)(t:Nat):Bool:=match P.underlying t with | U (.interface _)=>X | _=>Y
def ZaU(P:Program)(neg:Bool)(t:Nat)(x:AV):Option Res:=match x,Zb0 P t with
 | .ic _ _,true=>U ⟨.d (.sc (.bool neg)),V,[]⟩
 | .d (.sc .nilIface),true=>U ⟨.d (.sc (.bool (!neg))),V,[]⟩
 | _,_=>V
def isIface{P:Program}{t:Nat}(h:Zb0 P t=X):∃ m,P.underlying t=U (.interface m):=by
 unfold Zb0 at h;split at h
 .exact⟨_,aa⟩
 .cases h
def ZbL{P:Program}{w:World}(d:Nat){t u:Nat}{m:Array (String×TypeId)}(v:Value)(hu:P.underlying t=U (.interface m)):(Z (d+1) t (.iface u v) .nilIface).run P w = .ok Y w:=by
 simp[Z,run_underlying hu]
def Z9H{P:Program}{w:World}(d:Nat){t:Nat}{m:Array (String×TypeId)}(hu:P.underlying t=U (.interface m)):(Z (d+1) t .nilIface .nilIface).run P w = .ok X w:=by
 simp[Z,run_underlying hu]
def Z9Y{P:Program}{o:Oper}{id:Nat}{E:Operand->AV}{H:Heap}{r:Res}{x:Operand}{neg:Bool}{t t':Nat}
  (ho:o.op = .binOp (if neg then .neq else .eql) t x (.const .nilIface) t') (h:ZaU P neg t (E x)=U r):Z1X P o id E H r:=by
 unfold ZaU at h;have e2:∀ a:Act,a.eval (.const .nilIface) = .nilIface:=λ_=>rfl;split at h
 .rename_i u b hx ht;cases h;obtain⟨m,hu⟩:=isIface ht;intro Ow Im0 w0 ρ w Im clk a I _ _ hE hph;have h1:=hE x;rw[hx]at h1;generalize hv:a.eval x=v at h1;cases h1 with
  | @ic _ _ v1 h1 =>
   have heq:(Z 10000 t (.iface u v1) .nilIface).run P w = .ok Y w:=ZbL 9999 v1 hu;refine .inl ⟨.bool neg,w, ?_,.same I (.d (.sc _ rfl))⟩;cases neg<;>simp only[L,if_false,if_true]at ho ⊢ <;> simp[execOp,ho,hv,e2,eqGuard_at_iface,binOp,N,M,heq]
 .rename_i hx ht;cases h;obtain⟨m,hu⟩:=isIface ht;intro Ow Im0 w0 ρ w Im clk a I _ _ hE hph;have h1:=Z0G (hx▸hE x);have heq:(Z 10000 t .nilIface .nilIface).run P w = .ok X w:=Z9H 9999 hu;refine .inl ⟨.bool (!neg),w, ?_,.same I (.d (.sc _ rfl))⟩;cases neg<;>simp only[L,if_false,if_true]at ho ⊢ <;> simp[execOp,ho,h1,e2,eqGuard,binOp,N,M,heq]
 .cases h
def ZeU(P:Program)(op:BinOp)(t:Nat)(hs:List Hint)(x:AV)(yo:Operand)(y:AV):Option Res :=
 match yo with
 | .const (.slice none _ _)=>match op with
  | .eql=>ZfB P Y t x
  | .neq=>ZfB P X t x
  | _=>V
 | .const .nilIface=>match op with
  | .eql=>ZaU P Y t x
  | .neq=>ZaU P X t x
  | _=>V
 | _=>ZiO P op t hs x y
def ZgO{P:Program}{o:Oper}{id:Nat}{E:Operand->AV}{H:Heap}{r:Res}{x y:Operand}{op:BinOp}{t t':Nat}{hs:List Hint}
  (ho:o.op = .binOp op t x y t') (h:ZeU P op t hs (E x) y (E y)=U r):Z1X P o id E H r:=by
 unfold ZeU at h;split at h
 .split at h
  .exact Zde (neg:=Y) ho h
  .exact Zde (neg:=X) ho h
  .cases h
 .split at h
  .exact Z9Y (neg:=Y) ho h
  .exact Z9Y (neg:=X) ho h
  .cases h
 .exact Zjw ho h
def ZnU(op:UnOp)(hs:List Hint)(x:AV):Option Res :=
 match op,x with
 | .not,.d (.sc (.bool b))=>U (Z4D (!b) hs)
 | .neg,.d (.sc (.int k n))=>U (numR k (k.wrap (0-n)) [] hs)
 | _,_=>V
def Zmc{P:Program}{o:Oper}{id:Nat}{E:Operand->AV}{H:Heap}{r:Res}{x:Operand}{op:UnOp}{t:Nat}{hs:List Hint}
  (ho:o.op = .unOp op t x) (h:ZnU op hs (E x)=U r):Z1X P o id E H r:=by
 unfold ZnU at h;split at h
 .rename_i b hx;cases h;exact Z2L λρ w Im a hE=>by have h1:=Z0G (hx▸hE x);simp[execOp,ho,h1,Lq]
 .rename_i k n hx;cases h;exact Z1y λρ w Im a hE _=>by have h1:=Z0G (hx▸hE x);simp[execOp,ho,h1,Lq,La]
 .cases h
def Zco(P:Program)(t:Nat):Option IntKind:=match P.underlying t with | U (.int k)=>U k | _=>V
def Zex(P:Program)(src dst:Nat)(hs:List Hint)(x:AV):Option Res :=
 match x with
 | .d (.sc (.int _ n))=>match Zco P dst,P.underlying src with
  | some k,some _=>U (numR k (k.wrap n) [] hs)
  | _,_=>V
 | _=>V
def Zgx{P:Program}{o:Oper}{id:Nat}{E:Operand->AV}{H:Heap}{r:Res}{x:Operand}{src dst:Nat}{hs:List Hint}
  (ho:o.op = .convert src dst x) (h:Zex P src dst hs (E x)=U r):Z1X P o id E H r:=by
 unfold Zex at h;split at h
 .rename_i k n hx;split at h
  .rename_i k' d hk hd;cases h;refine Z1y λρ w Im a hE _=>?_;have h1:=Z0G (hx▸hE x);unfold Zco at hk;split at hk
   .rename_i k0 hk0;cases hk;simp[execOp,ho,h1,convert,run_underlying hd,run_underlying hk0,Conv.intToInt]
   .cases hk
  .cases h
 .cases h
end Go.Sx
