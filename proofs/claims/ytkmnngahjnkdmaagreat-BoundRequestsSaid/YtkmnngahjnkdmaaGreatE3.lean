/-
 The statement BoundRequests: part 3.
 Conditions: none.
-/
import Derived.MapKept
import Derived.Test.YtkmnngahjnkdmaaGreatE2
set_option maxRecDepth 100000
set_option maxHeartbeats 2000000
set_option linter.all false
open Option renaming some->U,none->X,map_eq_some_iff->Le,bind_some->Xf,getD_some->Xg,map_some->Xh
open Bool renaming true->Y,false->Z,and_eq_true->W,not_eq_true'->Lw,or_eq_true->LJ,and_false->LW,false_or->LX,not_true->LY
open List renaming mem_cons->N,mem_append->M,mem_of_getElem?->L,all_eq_true->La,mem_cons_of_mem->Lb,mem_flatMap->Lc,mem_map->Ld,map_cons->Lf,mem_range->Ll,getD->Lo,getElem?_eq_getElem->Lp,getElem?_eq_some_iff->Lq,getElem?_append->Lt,nodup_cons->Lu,getElem?_map->Lz,length_map->LA,map_append->LB,map_congr_left->LC,range->LD,getElem?_of_mem->LL,length_append->LM,flatMap_cons->L0,getD_eq_getElem?_getD->L1,getElem?_append_left->L2,getElem?_eq_none->L3,getElem?_zip_eq_some->L4,length_cons->L5,length_eq_one_iff->L6,length_nil->L7,mem_filter->L8,mem_iff_getElem?->L9,nodup_append->Xa,replicate->Xb
open Go.Op renaming operands->O
open Nat renaming lt_of_lt_of_le->F,ble->Lg,le_trans->Lh,beq->Lj,le_of_ble_eq_true->Lr,le_refl->Lv,add_zero->LN,eq_of_beq_eq_true->LO,ne_of_beq_eq_false->Xc,strongRecOn->Xd,testBit_or->Xe
open Option.some renaming injEq->Li
open Go.Region renaming wanted->Lk
open Go.Oper renaming wp->Lm,upon_value->LF,upon_enter->LP
open Go.Call renaming operands->Ln
open Array renaming getElem?_eq_getElem->Ls,getD->LG,getElem?_append->LH,replicate->LI,all_eq_true_iff_forall_mem->LR,getElem?_map->LS,length_toList->LU,size_map->LV
open Go.Deferred renaming ofValue->Lx
open List.cons renaming injEq->Ly
open Classical renaming choose->LK,choose_spec->LZ
open Go.Result renaming andThen_ok->LQ
namespace Go.Sx
def mpC(l:List Int)(k:Int):Bool:=decide (k∈l)
def mpV(l:List Int)(k:Int):Int:=if k∈l then(l.idxOf k:Int)else 0
def Z0c(P:Program)(t:Nat):Bool:=match P.underlying t with|some (.map k e)=>(match P.underlying k with|U (.int .u64)=>Y|_=>Z)&&(match zeroOf P e with|U (.int .i64 n)=>n==0|_=>Z)|_=>Z
def Z4V(id:Nat):Be:=⟨.pt id 0 mpO,U (id,.mp []),[]⟩
def Z0u(P:Program)(t:Nat)(ok:Bool)(hs:List Hint)(x y:AV)(H:Heap):Option Be:=match x with|.pt b _ o=>(match HY o,H b with|false,some (.mp l)=>(match y,Z0c P t with|.d (.sc (.int .u64 k)),true=>(match ok with|true=>(match hs with|.int v::.br c::_=>U ⟨.tu [.d (.sc (.int .i64 v)),.d (.sc (.bool c))],X,[mpV l k=v,mpC l k=c]⟩|.br c::_=>U ⟨.tu [.d (.sc (.int .i64 (mpV l k))),.d (.sc (.bool c))],X,[mpC l k=c]⟩|_=>U ⟨.tu [.d (.sc (.int .i64 (mpV l k))),.d (.sc (.bool (mpC l k)))],X,[]⟩)|false=>U (Gn .i64 (mpV l k) [] hs))|_,_=>X)|_,_=>X)|_=>X
def Z0Q(P:Program)(t:Nat)(x y z:AV)(H:Heap):Option Be:=match x with|.pt b _ o=>(match HY o,H b with|false,some (.mp l)=>(match y,z,Z0c P t with|.d (.sc (.int .u64 k)),.d (.sc (.int .i64 n)),true=>U ⟨.any,U (b,.mp (l++[k])),[k∉l,n=l.length,l.length<2^30]⟩|_,_,_=>X)|_,_=>X)|_=>X
theorem Zd6{g s i o:Nat}(h:HY o=Z):ptV g s i o=.map (U g):=by have:=LO (by grind[HY]:Lj o mpO=Y);exact if_pos this
def Z8O{P}{t:Nat}(h:Z0c P t=Y):∃k e,P.underlying t=U (.map k e)/\P.underlying k=U (.int .u64)/\∀w:World,(zeroValue e).run P w=.ok (.int .i64 0) w:=by
 unfold Z0c at h;split at h;rotate_left;cases h;rename_i k e j;simp only[W]at h;obtain⟨b,c⟩:=h;split at b;rotate_left;cases b;rename_i f;split at c;rotate_left;cases c;rename_i n a;have g:n=0:=by grind
 subst g;refine⟨k,e,j,f,λw=>?_⟩;unfold zeroOf at a;split at a;rename_i i d;simp[zeroValue,typeInfo,d,a];cases a
theorem Z7y:∀(l:List Int) (a:List MapEntry) (k:Int) (m:Nat),a.length=l.length->(∀(i:Nat) (e:MapEntry) (x:Int),a[i]?=U e->l[i]?=U x->e.key=.int .u64 x/\e.val=.int .i64 ((m+i:Nat):Int)) ->
  Instr.findNow (.int .u64) (.int .u64 k) a m=U (if k∈l then U (m+l.idxOf k,.int .i64 ((m+l.idxOf k:Nat):Int))else X)
 |[],[],_,_,_,_=>rfl
 |[],_::_,_,_,h,_=>by simp at h
 |_::_,[],_,_,h,_=>by simp at h
 |x::l,e::a,k,m,hl,h=>by
  obtain⟨d,f⟩:=h 0 e x rfl rfl;rw[LN]at f;unfold Instr.findNow;rw[d];simp only[Instr.sameNow,if_true];by_cases hk:k=x
  .grind
  .have c:(k==x)=Z:=by grind
   rw[c];simp only;rw[Z7y l a k (m+1) (by simpa using hl) (λi b y g j=>by
    have:=h (i+1) b y (by simpa using g) (by simpa using j);grind)]
   grind
section
variable{P:Program}{o:Oper}{id:Nat}{E:Operand->AV}{H:Heap}{r:Be}
theorem ZcA{t:TypeId}(j:o.op=.makeMap t X):E3 P o id E H (Z4V id):=by intro Ow g w0 ρ w d clk a I b f _ _;have c:=Hj (β:=⟨U w.heap.size,0,0⟩) (I.fresh id b f);refine .inl ⟨.map (U w.heap.size),w.alloc (.map #[] 0),by simp[execOp,j,Instr.makeMap],Cd ρ id ⟨U w.heap.size,0,0⟩,I.addO id b f _ _ _ _ ?_,Ext.alloc d w _ I.imb,c, ?_⟩;exact⟨by simp[big],w.heap.size,#[],0,rfl,heap_alloc_new _ _,rfl,λi e x h=>by simp at h⟩;exact Zk.pt (w:=w.alloc (.map #[] 0)) (Im:=d) (i:=0) (o:=mpO) (I9 ρ id ⟨U w.heap.size,0,0⟩)
theorem Z9w{Ow Im0 w0 w ρ Im}{clk b i d:Nat}{l:List Int}{v}(I:Inv Ow Im0 w0 ρ w Im H clk)(h:Zk ρ w Im (.pt b i d) v)(ho:HY d=Z)(f:H b=U (.mp l)) :∃g s n a c,ρ b=U ⟨U g,s,n⟩/\v=.map (U g)/\w.heap[g]?=U (.map a c)/\a.size=l.length/\l.length<=big/\(∀(i:Nat) (e:MapEntry) (x:Int),a[i]?=U e->l[i]?=U x->e.key=.int .u64 x/\e.val=.int .i64 i) /\
   ∀k:Int,Instr.findNow (.int .u64) (.int .u64 k) a.toList 0=U (if k∈l then U (l.idxOf k,.int .i64 (l.idxOf k:Int))else X):=by obtain⟨g,s,n,h1,h2⟩:=NJ h;obtain⟨β,h3,h4,g',a,c,h5,h6,h7,h8⟩:=I.blk b _ f;grind[Zd6,Z7y]
theorem ZjW{t:Nat}{x y:Operand}{ok:Bool}{hs}(ho:o.op=.lookup t x y ok)(h:Z0u P t ok hs (E x) (E y) H=U r):E3 P o id E H r:=by
 unfold Z0u at h;split at h;rotate_left;cases h;rename_i b i oo hx;split at h;rotate_left;cases h;rename_i l a2 hb;split at h;rotate_left;cases h;rename_i k hy a3;obtain⟨kt,et,u1,u2,u3⟩:=Z8O a3;have j:∀(p:Own) (d:Nat->Prop) (z:World) (ρ:ZM) (w:World) (f:Nat->Prop) (clk:Nat) (a:Act),Inv p d z ρ w f H clk->(∀x,Zk ρ w f (E x) (a.eval x)) ->
   (execOp a.eval o).run P w=.ok (.value (if ok then .tuple #[.int .i64 (mpV l k),.bool (mpC l k)]else .int .i64 (mpV l k))) w:=by
  intro p d z ρ w f clk a I q;obtain⟨g,s,n,es,c,g1,g2,g3,g4,g5,g6,g7⟩:=Z9w I (hx▸q x) a2 hb;have a4:=BV (hy▸q y);have hk:MapKept.IsKey (.int .u64) (.int .u64 k):=rfl;have hf:=MapKept.run_findKey (w:=w) u2 (g7 k);simp only[execOp,ho,g2,a4,Instr.lookup];by_cases hm:k∈l
  .simp[run_underlying u1,MapKept.run_getObj_map g3,MapKept.run_checkKey u2 hk,hf,hm,mpV,mpC,Result.andThen]
  .simp[run_underlying u1,MapKept.run_getObj_map g3,MapKept.run_checkKey u2 hk,hf,hm,mpV,mpC,u3,Result.andThen]
 cases ok with
 |false =>simp only[Li]at h;subst h;intro p d z ρ w f clk a I a0 hH q e;have m:=j p d z ρ w f clk a I q;unfold Gn at e⊢;split at e;obtain⟨h1,_⟩:=Ha.1 e;rw[h1]at m;exact .inl ⟨_,w,m,.same I (.d (.sc _ rfl))⟩;exact .inl ⟨_,w,m,.same I (.d (.sc _ rfl))⟩
 |true =>
  have a1:∀{ρ:ZM} {w:World} {f:Nat->Prop} (v:Int) (c:Bool),Zk ρ w f (.tu [.d (.sc (.int .i64 v)),.d (.sc (.bool c))]) (.tuple #[.int .i64 v,.bool c]):=by(intro ρ w f v c;refine .tu _ _ rfl λi a u ha hu=>?_;rcases i with _|_|i;simp at ha hu;subst ha;subst hu;exact .d (.sc _ rfl);simp at ha hu;subst ha;subst hu;exact .d (.sc _ rfl);simp at ha)
  simp only at h;split at h;cases h;intro p d z ρ w f clk a I a0 hH q e;obtain⟨h1,h2⟩:=Ha.1 e;obtain⟨h2,_⟩:=Ha.1 h2;have m:=j p d z ρ w f clk a I q;rw[h1,h2]at m;exact .inl ⟨_,w,by simpa using m,.same I (a1 _ _)⟩;cases h;intro p d z ρ w f clk a I a0 hH q e;obtain⟨h2,_⟩:=Ha.1 e;have m:=j p d z ρ w f clk a I q;rw[h2]at m;exact .inl ⟨_,w,by simpa using m,.same I (a1 _ _)⟩;cases h;intro p d z ρ w f clk a I a0 hH q e;have m:=j p d z ρ w f clk a I q;exact .inl ⟨_,w,by simpa using m,.same I (a1 _ _)⟩
theorem ZgG{t:Nat}{x y z:Operand}(ho:o.op=.mapUpdate t x y z)(h:Z0Q P t (E x) (E y) (E z) H=U r):E3 P o id E H r:=by
 unfold Z0Q at h;split at h;rotate_left;cases h;rename_i b i oo hx;split at h;rotate_left;cases h;rename_i l u hb;split at h;rotate_left;cases h;rename_i k n hy hz a0;cases h;obtain⟨kt,et,u1,u2,u3⟩:=Z8O a0;intro Ow a4 w0 ρ w Im clk a I a5 hH q d;obtain⟨hk,d⟩:=Ha.1 d;obtain⟨hn,d⟩:=Ha.1 d;have a3:l.length<2^30:=by grind[B9]
 subst hn;obtain⟨g,s,m,es,c,g1,g2,p,g4,g5,g6,g7⟩:=Z9w I (hx▸q x) u hb;have a1:=BV (hy▸q y);have a2:=BV (hz▸q z);have f:MapKept.IsKey (.int .u64) (.int .u64 k):=rfl;have hf:=MapKept.run_findKey (w:=w) u2 (g7 k);rw[if_neg hk]at hf;obtain⟨q1,q2⟩:=MapKept.heap_set (o':=.map (es.push ⟨.int .u64 k,.int .i64 (l.length:Int),c⟩) (c+1)) p;obtain⟨J,he⟩:=I.turn b g s m {w with heap:=w.heap.setIfInBounds g (.map (es.push ⟨.int .u64 k,.int .i64 (l.length:Int),c⟩) (c+1))} (.mp (l++[k])) g1 ⟨_,hb,by simp⟩ ⟨rfl,rfl,rfl⟩ pq q2 (λj=>by
  grind[rows]) (λ_=>⟨by grind[big],g,_,_,rfl,q1,by simp[g4],λi e v he hv=>by
  grind⟩)
 exact .inr ⟨_,by simp[execOp,ho,g2,a1,a2,Instr.mapUpdate,run_underlying u1,MapKept.run_getObj_map p,MapKept.run_checkKey u2 f,hf,MapKept.run_setObj_map _ p,Result.andThen],ρ,J,he,λ_ _ h=>h,.any _⟩
end
def act(P:Program)(o:Oper)(id:Nat)(hs:List Hint)(E:Operand->AV)(H:Heap):Option Be:=
 match o.op with
 |.move x=>U (Z2S (E x))
 |.assign x=>match hs with|.own::_=>(match x with|.const (.slice none 0 0)=>Z3e P o.type id|_=>X)|.int n::_=>(match E x with|.d (.sc (.int k m))=>U (Gn k m [] (.int n::[]))|_=>X)|_=>U (Z2S (E x))
 |.alloc t=>Z2s P t id
 |.box t x=>Z1l t id (E x)
 |.build t parts=>Z2I P t id hs (parts.toList.map λp=>(p.1,E p.2))
 |.buildSlice t len parts=>Z3m P t len id hs (parts.toList.map λp=>(p.1,E p.2))
 |.load t x=>Dg P t hs (E x) H
 |.store t x y=>match BG P t with|0=>X|_+1=>O1 P t hs (E x) (E y) H
 |.nilCheck x=>Z16 (E x)
 |.binOp op t x y _=>Z1Q P op t hs (E x) y (E y)
 |.unOp op _ x=>Z1k op hs (E x)
 |.convert s t x=>Z1e P s t hs (E x)
 |.makeFunc fn first captured=>OB fn first captured E
 |.makeInterface t x=>Z3G P t (E x)
 |.typeAssert x _ t ok=>Z1x P t ok (E x)
 |.makeSlice t x y=>Z2h P t id hs (E x) (E y)
 |.slice t x lo hi mx=>match mx with|none=>(match Gq P t with|some e=>(match P.info? e with|some _=>Z07 P t hs (E x) (lo.map E) (hi.map E) H|none=>X)|none=>X)|some _=>X
 |.fieldAddr t x f=>Z1R P t f (E x)
 |.field t x f=>Z2M P t f (E x)
 |.indexAddr t x y=>Z0G P t hs (E x) (E y) H
 |.extract x n=>Z1C n (E x)
 |.makeMap _ r=>match r with|none=>U (Z4V id)|some _=>X
 |.lookup t x y ok=>Z0u P t ok hs (E x) (E y) H
 |.mapUpdate t x y z=>Z0Q P t (E x) (E y) (E z) H
 |.call c=>match c.callee with|.builtin .len=>(match c.args.toList,c.argTypes.toList with|[x],[t]=>Oi P t hs (E x) H|_,_=>X)|.builtin .copy=>(match c.args.toList,c.argTypes.toList with|[x,y],[t,_]=>O2 P t hs (E x) (E y) H|_,_=>X)|.builtin .clear=>(match c.args.toList,c.argTypes.toList with|[x],[t]=>Z0F P t hs (E x) H|_,_=>X)|.builtin .max=>(match c.args.toList,c.argTypes.toList with|[x,y],[_,_]=>D3 Y hs (E x) (E y)|_,_=>X)|.builtin .min=>(match c.args.toList,c.argTypes.toList with|[x,y],[_,_]=>D3 Z hs (E x) (E y)|_,_=>X)|_=>X
 |_=>X
theorem Md{c:Call}{b:Builtin}{l:List Operand}{m:List TypeId}(a:c.callee=.builtin b)(d:c.args.toList=l)(e:c.argTypes.toList=m):c=⟨.builtin b,l.toArray,m.toArray⟩:=by obtain⟨x,y,z⟩:=c;simp only at a d e;subst a;subst d;subst e;simp
def Z72{P o id hs E}{H:Heap}{r:Be}(h:act P o id hs E H=U r):E3 P o id E H r:=by
 unfold act at h;split at h;cases h;exact Z8a (.inl aa);split at h;split at h;exact ZfS aa h;cases h;rename_i x d _ n _;split at h;rename_i k m i;cases h;exact Hm λρ w Im a hE _=>by have:=BV (i▸hE x);simp[execOp,d,this]
 cases h;cases h;exact Z8a (.inr aa);exact Zet aa h;exact Zlq aa h;exact Zbm aa h;exact Zfw aa h;exact Zdt aa h;split at h;cases h;exact Zgk aa oq h;exact Zjk aa h;exact Ziv aa h;exact Zam aa h;exact ZaF aa h;grind[ZiM];exact ZbQ aa h;exact Zk6 aa h;exact ZiA aa h;grind[ZiI];exact ZaH aa h;exact Zf9 aa h;exact Zgd aa h;exact Zl4 aa h;split at h;cases h;exact ZcA aa;cases h;exact ZjW aa h;exact ZgG aa h;rename_i c d;split at h;rename_i b;split at h;rename_i x t e f;exact Zdf (by grind[Md]) h;cases h;rename_i b;split at h;rename_i x y t g e f;exact Zff (by rw[d,Md b e f]) h;cases h;rename_i b;split at h;rename_i x t e f;exact ZlL (by grind[Md]) h;cases h;rename_i b;split at h;rename_i x y t g e f;exact Zh9 (by rw[d,Md b e f]) h;cases h;rename_i b;split at h;rename_i x y t g e f;exact Zkw (by rw[d,Md b e f]) h;cases h;cases h;cases h
theorem Z3C{P}{o:Oper}{id hs}{E E':Operand→AV}{H:Heap}(h:∀x∈o.op.operands.toList,E x=E' x):act P o id hs E H=act P o id hs E' H:=by
 unfold act;cases hop:o.op with
 |move x=>grind[Op.operands]
 |assign x=>grind[Op.operands]
 |box t x=>grind[Op.operands]
 |build t parts =>grind[List.map_congr_left,Op.operands]
 |buildSlice t n parts =>grind[List.map_congr_left,Op.operands]
 |load t x=>grind[Op.operands]
 |store t x y=>grind[Op.operands]
 |nilCheck x=>grind[Op.operands]
 |binOp e t x y g=>grind[Op.operands]
 |unOp e t x=>grind[Op.operands]
 |convert s t x=>grind[Op.operands]
 |makeFunc fn first a =>have:(a.toList.map E)=a.toList.map E':=List.map_congr_left fun p hp=>h p (by grind[Op.operands]);simp only[OB,this];grind[Op.operands]
 |makeInterface t x=>grind[Op.operands]
 |typeAssert x t g ok=>grind[Op.operands]
 |makeSlice t x y=>grind[Op.operands]
 |slice t x d b mx =>
  have e1:d.map E=d.map E':=by cases d with|none=>rfl|some y=>grind[Op.operands]
  have e2:b.map E=b.map E':=by cases b with|none=>rfl|some y=>grind[Op.operands]
  grind[Op.operands]
 |fieldAddr t x f=>grind[Op.operands]
 |field t x f=>grind[Op.operands]
 |indexAddr t x y=>grind[Op.operands]
 |extract x n=>grind[Op.operands]
 |lookup t x y ok=>grind[Op.operands]
 |mapUpdate t x y z=>grind[Op.operands]
 |call c =>grind[Op.operands,Call.operands]
 |_=>rfl
def bv(b:Bool):AV:=.d (.sc (.bool b))
def Z2e{a b:Bool}(h:bv a=bv b):a=b:=by grind[bv]
def Z5D:Bool->Bool->Bool|true,b=>b|false,b=>!b
def guardOf(ops:Array Oper)(tmps:List AV):Option (Nat×Bool)->Option (Option Bool)|none=>U X|some (j,want)=>match ops[j]? with|some a=>(match a.dst with|some t=>(match tmps.getD t .any with|.d (.sc (.bool b))=>U (U (Z5D want b))|.gd g (.d (.sc (.bool b)))=>U (U (g&&Z5D want b))|_=>X)|none=>X)|none=>X
def Ec(G:Option Bool)(R:Operand->AV)(x:Operand):AV:=match G with|X=>R x|U _=>strip (R x)
def Hq(G:Option Bool)(R:Operand->AV):List Operand->List (AV×AV)|[]=>[]|x::xs=>match G with|none=>Hq G R xs|some g=>match R x with|.gd g' _=>(bv g',bv g)::Hq G R xs|_=>Hq G R xs
def EJ(l:List (AV×AV)):Prop:=∀p∈l,p.1=p.2
def AE{ρ w Im G R}{l:List Operand}{x:Operand}{v}(f:x∈l)(b:EJ (Hq G R l))(e:∀g,G=U g->g=Y)(h:Zk ρ w Im (R x) v):Zk ρ w Im (Ec G R x) v:=by
 cases G with
 |none=>exact h
 |some g =>
  have hg:=e g rfl;simp only[Ec];cases hR:R x with
  |gd c a =>
   have:(bv c,bv g)∈Hq (U g) R l:=by
    clear b h;induction l with|nil=>simp at f|cons y l ih =>grind[Hq]
   have:=Z2e (b _ this);rw[hR]at h;cases h with|gd d h2=>exact d (by grind)
  |_=>rw[hR]at h;exact h
def mkG:Option Bool->AV->AV|none,a=>a|some g,a=>.gd g a
def phG:Option Bool->List Prop->List Prop|none,l=>l|some g,l=>l.map λp=>g=Y->p
def O0{G l}(h:B9 (phG G l))(a:∀g,G=U g->g=Y):B9 l:=by
 cases G with|none=>exact h|some g =>have hg:=a g rfl;induction l<;>grind[phG,Ha]
def RF(w:World)(Im:Nat->Prop)(fr:Bool)(res:AV)(news:List Z3)(v:Value)(w':World):Prop:=
 Kept (λ_=>False) w w'/\∃(ρ':ZM) (a:Nat->Prop),(∀g,a g->(fr=Z/\Im g)\/w.heap.size<=g)/\(∀g,a g->g<w'.heap.size) /\
  (∀b β g,ρ' b=U β->β.g=U g->w.heap.size<=g/\g<w'.heap.size/\¬ a g)/\(∀b c β β' g,ρ' b=U β->ρ' c=U β'->β.g=U g->β'.g=U g->b=c) /\
  (∀(k:Nat) (β:Bi),ρ' k=U β->k<news.length)/\(∀(k:Nat) (B:Z3),news[k]?=U B->∃β,ρ' k=U β/\RelB ρ' w' a β B)/\Zk ρ' w' a res v
def GSpec(P:Program)(f:Nat)(args:List AV)(fr:Bool)(res:AV)(news:List Z3):Prop:=
 ∀(w:World) (a:Nat->Prop) (b:Array Value),(∀g,a g->g<w.heap.size)->b.size=args.length->(∀(i:Nat) (x:AV) (v:Value),args[i]?=U x->b[i]?=U v->Zk (λ_=>X) w a x v) ->
  Calls P f b w λe c=>∃v,e=.returned v/\RF w a fr res news v c
def Hr(H:Heap)(x:AV):Option AV:=match x with
 |.d x=>U (.d x)
 |.rp e o=>U (.rp e o)
 |.ow _|.os .. => match EX H x with|U (s,els)=>U (.d (.sl s els))|X=>X
 |_=>X
def IS(H:Heap):List AV->Option (List AV)|[]=>U []|a::l=>match Hr H a,IS H l with|some x,some r=>U (x::r)|_,_=>X
def toD(H:Heap)(x:AV):Option AV:=match x with|.ag l=>(IS H l).map .ag|.fn f l=>(IS H l).map (.fn f)|.ic t a=>(Hr H a).map (.ic t)|a=>Hr H a
def IL(H:Heap):List AV->Option (List AV)|[]=>U []|a::l=>match toD H a,IL H l with|some x,some r=>U (x::r)|_,_=>X
def M8(ρ:ZM)(Im:Nat->Prop):Nat->Prop:=λg=>Im g\/∃b β,ρ b=U β/\β.g=U g
section
variable{Ow:Own}{Im0:Nat->Prop}{w0:World}{ρ:ZM}{w:World}{Im:Nat->Prop}{H:Heap}{clk:Nat}
theorem Z9l{x v}{s:Nat}{els:List (List DV)}(I:Inv Ow Im0 w0 ρ w Im H clk)(j:Zk ρ w Im x v)(h:EX H x=U (s,els)):CM w (M8 ρ Im) (.sl s els) v:=by
 obtain⟨p,c,rfl,hb,hc,hl,a⟩:=AH I j h;by_cases he:els=[];subst he;exact .slNil _ _ _;rcases a with a|⟨q,rfl,hq,a⟩;grind;have t:∀(i:Nat) (e:List DV) (o:Nat) (y:DV),els[i]?=U e->e[o]?=U y->CM w (M8 ρ Im) y ((w.cell? ⟨q.block,q.off+(i*s+o),X⟩).getD undef):=by(intro i e o y hi ho;obtain⟨u,k1,k2⟩:=a i e o y hi ho;rw[k1];exact k2.mono (Ext.refl _ _) (λ_ h=>.inl h))
 refine .sl s els q els.length c (λi o=>(w.cell? ⟨q.block,q.off+(i*s+o),X⟩).getD undef) rfl hc hb (hl he) hq ?_ ?_ t;unfold EX at h;split at h;cases h;cases j with
 |d j =>
  cases j with|slNil=>grind|sl _ _ _ _ _ _ _ _ _ _ _ a0=>exact .inl a0
 grind
 .split at h;rotate_left;cases h;rename_i b _ ty s' f n;cases h;generalize k:Value.slice (U q) els.length c=vv at j;cases j with|ow hρ r _ l =>injection k with e1 e2 e3;rcases l with l|⟨g,z,e,_⟩;simp_all;rw[<-e1]at e;cases e;exact .inr ⟨b,_,hρ,z⟩
 .split at h;rotate_left;cases h;rename_i b oo m _ ty s' f n;cases h;generalize k:Value.slice (U q) ((f.drop oo).take m).length c=vv at j;cases j with|os hρ hn r _ l =>injection k with e1 e2 e3;rcases l with l|⟨g,z,e,_⟩;simp_all;rw[<-e1]at e;cases e;exact .inr ⟨b,_,hρ,z⟩
 cases h;grind
theorem Ot{x y:AV}{v}(I:Inv Ow Im0 w0 ρ w Im H clk)(a:Zk ρ w Im x v)(h:Hr H x=U y):Zk (λ_=>X) w (M8 ρ Im) y v:=by
 unfold Hr at h;split at h;cases h;cases a with|d a=>exact .d (a.mono (Ext.refl _ _) (λ_ h=>.inl h))
 cases h;cases a with|rp b c e=>exact .rp b (.inl c) (λj x a=>let ⟨v,k1,f⟩:=e j x a;⟨v,k1,f.mono (Ext.refl _ _) (λ_ h=>.inl h)⟩)
 split at h;cases h;exact .d (Z9l I a aa);cases h;split at h;cases h;exact .d (Z9l I a aa);cases h;cases h
theorem Z3h{H}:∀{l m:List AV},IS H l=U m->m.length=l.length/\∀(i:Nat) (y:AV),m[i]?=U y->∃x,l[i]?=U x/\Hr H x=U y
 |[],m,h=>by grind[IS]
 |a::l,m,h=>by
  simp only[IS]at h;split at h
  .rename_i x r hx b;cases h;obtain⟨h1,h2⟩:=Z3h b;grind
  .cases h
theorem Z65{x y:AV}{v}(I:Inv Ow Im0 w0 ρ w Im H clk)(c:Zk ρ w Im x v)(h:toD H x=U y):Zk (λ_=>X) w (M8 ρ Im) y v:=by
 unfold toD at h;split at h;simp only[Le]at h;obtain⟨m,b,rfl⟩:=h;obtain⟨e,f⟩:=Z3h b;obtain⟨d,rfl,k1,k,l⟩:=Hx c;refine .ag _ d oq k λi a u g j=>?_;grind[Ot];simp only[Le]at h;obtain⟨m,b,rfl⟩:=h;obtain⟨e,f⟩:=Z3h b;cases c with|fn k1 l =>refine .fn oq λi a u g j=>?_;grind[Ot]
 simp only[Le]at h;obtain⟨m,b,rfl⟩:=h;cases c with|ic c=>exact .ic (Ot I c b)
 grind[Ot]
end
def Z3T{H}:∀{l m:List AV},IL H l=U m->m.length=l.length/\∀(i:Nat) (y:AV),m[i]?=U y->∃x,l[i]?=U x/\toD H x=U y
 |[],m,h=>by grind[IL]
 |a::l,m,h=>by
  simp only[IL]at h;split at h
  .rename_i x r hx b;cases h;obtain⟨h1,h2⟩:=Z3T b;grind
  .cases h
def An:AV->Bool|.d _|.rp .. => Y|_=>Z
def A9:AV->Bool|.ag l=>l.all An|.fn _ l=>l.all An|.ic _ (.ag l)=>l.all An|.ic _ a=>An a|a=>An a
theorem MJ{ρ ρ' w Im x v}(h:Zk ρ w Im x v)(a:An x=Y):Zk ρ' w Im x v:=by
 cases h<;>first|(simp[An]at a;done)|skip
 exact .d aa;exact .rp aa aa aa
def Z6U{ρ ρ' w Im x v}(h:Zk ρ w Im x v)(b:A9 x=Y):Zk ρ' w Im x v:=by
 unfold A9 at b;split at b;obtain⟨f,rfl,k1,g,e⟩:=Hx h;simp only[La]at b;exact .ag _ f k1 g λi a u c d=>MJ (e i a u c d) (b a (L c));cases h with|fn k1 e =>simp only[La]at b;exact .fn k1 λi a u c d=>MJ (e i a u c d) (b a (L c))
 cases h with|ic h =>obtain⟨f,rfl,k1,g,e⟩:=Hx h;simp only[La]at b;exact .ic (.ag _ f k1 g λi a u c d=>MJ (e i a u c d) (b a (L c)))
 cases h with|ic h=>exact .ic (MJ h b)
 grind[MJ]
def Cf(dst clk k:Nat):Nat:=clk*8000+(k+1)*1000+dst
def Z3F(dst clk:Nat):AV->AV|.pt k i o=>.pt (Cf dst clk k) i o|.os k o n=>.os (Cf dst clk k) o n|.ow k=>.ow (Cf dst clk k)|a=>a
def IK(f:AV->AV):AV->AV|.tu l=>.tu (l.map (HX f))|a=>HX f a
def DD:Z3->Bool|.arr .. |.mp _=>Y|_=>Z
def OU(dst clk:Nat):Nat->List Z3->Heap->Heap|_,[],H=>H|k,B::r,H=>OU dst clk (k+1) r (Bm H (Cf dst clk k) B)
def IV(dst clk:Nat):Nat->List Z3->Heap->Bool|_,[],_=>Y|k,B::r,H=>DD B&&(match H (Cf dst clk k)with|X=>Y|U _=>Z)&&IV dst clk (k+1) r (Bm H (Cf dst clk k) B)
def MS{ρ ρ' w}{Im Im':Nat->Prop}{f:AV->AV}(m:∀g,Im g->Im' g)(e:∀b i o v,Zk ρ w Im (.pt b i o) v->Zk ρ' w Im' (f (.pt b i o)) v)(c:∀b o n v,Zk ρ w Im (.os b o n) v->Zk ρ' w Im' (f (.os b o n)) v)(d:∀b v,Zk ρ w Im (.ow b) v->Zk ρ' w Im' (f (.ow b)) v){a v}(h:Zk ρ w Im a v):Zk ρ' w Im' (IK f a) v:=by
 cases a with
 |tu l =>
  cases h with|tu _ j k h3 =>refine .tu _ j (by simpa using k) λi x v hx hv=>?_;grind[Me]
 |_=>exact Me m e c d h
def RelB.arr_any{ρ ρ' w}{Im Im':Nat->Prop}{β}{B:Z3}(hB:DD B=Y)(h:RelB ρ w Im β B)(r:∀g,Im g->Im' g):RelB ρ' w Im' β B:=by
 cases B with|box=>grind[DD]|dead=>grind[DD]|mp ks=>exact h|arr ty s els =>obtain⟨c,d,a,f,j⟩:=h;exact⟨c,d,a,f,j.imp (λh=>h) λ⟨g,b,k,l,m,n⟩=>⟨g,b,k,l,m,λi e o x t u=>let ⟨v,p,q⟩:=n i e o x t u;⟨v,p,q.mono (Ext.refl _ _) r⟩⟩⟩
section
variable{Ow:Own}{Im0:Nat->Prop}{w0:World}{ρ:ZM}{w:World}{Im:Nat->Prop}{H:Heap}{clk:Nat}
theorem Inv.adopt(I:Inv Ow Im0 w0 ρ w Im H clk)(id:Nat)(hid:clk*8000<=id)(hH:H id=X)(β:Bi) B(hg:∀g,β.g=U g->(∀k κ,ρ k=U κ->κ.g≠U g)/\¬ Im g/\g<w.heap.size/\w0.heap.size<=g)(hB:RelB (Cd ρ id β) w Im β B):Inv Ow Im0 w0 (Cd ρ id β) w Im (Bm H id B) clk:=by have hn:=I.fresh id hid hH;refine⟨I.kept, ?_, ?_, ?_, ?_,I.imb,I.im0, ?_, ?_,MC I.one hid⟩;intro b b' κ κ' g l1 l2 h1 h2 h3 h4;unfold Cd at h1 h2;split at h1<;>split at h2;omega;grind;grind;exact I.inj b b' κ κ' g (H3 l1 aa) (H3 l2 aa) h1 h2 h3 h4;intro b κ g l h h';unfold Cd at h;split at h;grind;exact I.notIm b κ g (H3 l aa) h h';intro b κ g h h';unfold Cd at h;split at h;grind;exact I.bnd b κ g h h';intro b κ g h h';unfold Cd at h;split at h;rename_i hbi;cases h;have:=I.one;grind;exact I.own b κ g h h';intro b B' h;unfold Bm at h;split at h;grind[I9];obtain⟨κ,h1,h2⟩:=I.blk b B' h;exact⟨κ,Hj hn _ _ h1,h2.mono (Ext.refl _ _) (λ_ h=>h) (Hj hn) I.bnd (λ_ _=>rfl)⟩;intro b hb h;unfold Bm at h;unfold Cd;split;grind;rename_i hbi;simp only[hbi,if_false]at h;exact I.fresh b hb h
theorem Zk7{dst clk k a:Nat}(h:Cf dst clk k=Cf dst clk a):k=a:=by grind[Cf]
theorem Ag(dst clk k:Nat):clk*8000<=Cf dst clk k:=by grind[Cf]
theorem Z8T{ρ':ZM}{dst}:∀(news:List Z3) (k:Nat) (ρ:ZM) (H:Heap),Inv Ow Im0 w0 ρ w Im H clk->IV dst clk k news H=Y -> (∀(i:Nat) (B:Z3),news[i]?=U B->∃β,ρ' (k+i)=U β/\RelB ρ' w Im β B/\∀g,β.g=U g->¬ Im g/\g<w.heap.size/\w0.heap.size<=g) -> (∀b l β β' g,ρ' b=U β->ρ' l=U β'->β.g=U g->β'.g=U g->b=l) -> (∀i,i<news.length->∀β g,ρ' (k+i)=U β->β.g=U g->∀b κ,ρ b=U κ->κ.g≠U g) ->
  ∃ρ2,Inv Ow Im0 w0 ρ2 w Im (OU dst clk k news H) clk/\(∀b β,ρ b=U β->ρ2 b=U β)/\∀i β,i<news.length->ρ' (k+i)=U β->ρ2 (Cf dst clk (k+i))=U β
 |[],k,ρ,H,I,_,_,_,_=>⟨ρ,I,λ_ _ h=>h,λi β f _=>by simp at f⟩
 |B::news,k,ρ,H,I,hok,hnews,hinj,hfree=>by
  simp only[IV,W]at hok;obtain⟨⟨r,j⟩,c⟩:=hok;have m:H (Cf dst clk k)=X:=by grind
  obtain⟨β,p,q,e⟩:=hnews 0 B rfl;rw[LN]at p;have J:=I.adopt (Cf dst clk k) (Ag dst clk k) m β B (λg d=>⟨λb κ a=>hfree 0 pq β g oq d b κ a,(e g d).1,(e g d).2.1,(e g d).2.2⟩) (q.arr_any r (λ_ h=>h));obtain⟨ρ2,o,s1,s2⟩:=Z8T news (k+1) _ _ J c (λi n s=>by
    have:=hnews (i+1) n (by grind);grind) hinj (λi f β' g t d b κ a=>by
    unfold Cd at a;split at a
    .grind
    .exact hfree (i+1) qo β' g (by grind) d b κ a)
  refine⟨ρ2,o,λb κ a=>s1 b κ (Hj (I.fresh _ (Ag dst clk k) m) b κ a),λi κ f hκ=>?_⟩;cases i<;>grind[I9]
theorem Inv.called(I:Inv Ow Im0 w0 ρ w Im H clk){w'}(K:Kept (λ_=>False) w w')(Im':Nat->Prop)(d:∀g,Im' g->Im g\/w.heap.size<=g)(h2:∀g,Im' g->g<w'.heap.size) :Inv Ow Im0 w0 ρ w' (λg=>Im g\/Im' g) H clk/\Ext Im w w':=by have i:Ext Im w w':=⟨K.size,λg a=>K.block g (I.imb g a) (λh=>h),λg a=>K.rows g a⟩;refine⟨⟨⟨K.os.trans I.kept.os,K.tape.trans I.kept.tape,K.output.trans I.kept.output,Lh I.kept.size K.size,λk f j=>?_,λk f=>?_⟩,I.inj, ?_,λb β g h e=>F (I.bnd b β g h e) K.size,I.own, ?_, ?_, ?_,I.fresh,I.one⟩,i⟩;rw[K.block k (F f I.kept.size) (λh=>h)];exact I.kept.block k f j;rw[K.rows k (F f I.kept.size)];exact I.kept.rows k f;intro b β g l h e c;rcases c with c|c;exact I.notIm b β g l h e c;rcases d g c with d|d;exact I.notIm b β g l h e d;have:=I.bnd b β g h e;omega;intro g a;rcases a with a|a;exact F (I.imb g a) K.size;grind;intro g a;rcases a with a|a;exact I.im0 g a;rcases d g a with d|d;exact I.im0 g d;exact .inr (.inl (Lh I.kept.size d));intro b B h;obtain⟨β,k1,m⟩:=I.blk b B h;exact⟨β,k1,m.mono i (λ_ h=>.inl h) (λ_ _ h=>h) I.bnd (λg a=>K.block g (I.bnd b β g k1 a) (λh=>h))⟩
end
structure Out where
 tmps:List AV
 H:Heap
 ph:List Prop
 eq:List (AV×AV)
structure Core where
 sl:Option (Nat×AV)
 ups:List (Nat×Z3)
 ph:List Prop
 eq:List (AV×AV)
def BQ:List (Nat×Z3)->Heap->Heap|[],H=>H|(b,B)::r,H=>BQ r (Bm H b B)
def Core.out(c:Core)(tmps:List AV)(H:Heap):Out:=⟨match c.sl with|U (d,v)=>tmps.set d v|X=>tmps,BQ c.ups H,c.ph,c.eq⟩
def look(k:Nat):List (Nat×List Hint)->List Hint|[]=>[]|(j,h)::r=>if j=k then h else look k r
def keyOf(o:Oper):Nat:=match o.dst with|some d=>d|none=>match o.op with|.store _ (.tmp t) _=>10000+t|_=>20000
def Be.ups(r:Be):List (Nat×Z3):=match r.up with|U x=>[x]|X=>[]
theorem Be.applyU(r:Be)(H:Heap):BQ r.ups H=r.heap H:=by
 unfold Be.ups Be.heap;cases r.up with|none=>rfl|some x=>rfl
def Z5q:Option (Nat×Z3)->Option Bool->Bool|none,_=>Y|some _,none=>Y|some _,some g=>g
def NA(P:Program)(clk:Nat)(hints:List (Nat×List Hint))(o:Oper)(G:Option Bool)(tmps:List AV)(H:Heap):Option Core:=
 match o.dst with|some d=>(match H (clk*8000+d)with|some _=>X|none=>match act P o (clk*8000+d) (look (keyOf o) hints) (Ec G (ev tmps)) H with|some r=>(match Z5q r.up G with|true=>U ⟨U (d,mkG G r.val),r.ups,phG G r.ph,Hq G (ev tmps) o.op.operands.toList⟩|false=>match G with|some false=>U ⟨U (d,mkG G .any),[],[],[]⟩|_=>X)|none=>X)|none=>match G with|some _=>X|none=>match H (clk*8000+7999)with|some _=>X|none=>match act P o (clk*8000+7999) (look (keyOf o) hints) (ev tmps) H with|some r=>U ⟨X,r.ups,r.ph,[]⟩|none=>X
def Mi(G:Option Bool)(b:Bool):Bool:=match G with|X=>b|U g=>g&&b
def asB(x:AV):Option Bool:=match x with|.d (.sc (.bool b))=>U b|_=>X
def gdB(x:AV):Option (Bool×Bool):=match x with|.gd g (.d (.sc (.bool b)))=>U (g,b)|_=>X
def Z1A(x:Operand):Bool:=match x with|.const (.bool b)=>b|_=>Z
def Z1X(x:Operand):Bool:=match x with|.const (.bool b)=>!b|_=>Z
def ML(hints:List (Nat×List Hint))(o:Oper)(c a b:Operand)(G:Option Bool)(tmps:List AV):Option Core:=
 match o.dst with|none=>X|some d=>match asB (Ec G (ev tmps) c)with|none=>X|some gc=>match Z1A a with|true=>(match gdB (ev tmps b)with|some (g',v)=>U ⟨U (d,mkG G (Hv (gc||v) (look d hints)).val),[],phG G (Hv (gc||v) (look d hints)).ph,Hq G (ev tmps) [c]++[(bv g',bv (Mi G (!gc)))]⟩|none=>X)|false=>match Z1X b with|true=>(match gdB (ev tmps a)with|some (g',v)=>U ⟨U (d,mkG G (Hv (gc&&v) (look d hints)).val),[],phG G (Hv (gc&&v) (look d hints)).ph,Hq G (ev tmps) [c]++[(bv g',bv (Mi G gc))]⟩|none=>X)|false=>X
def SH(P:Program)(f:Nat):Bool:=match P.funcs[f]? with|U fn=>fn.body.isSome&&!(fn.name == "runtime.NumGoroutine")|X=>Z
def P4(dst clk:Nat):Nat->List Z3->List (Nat×Z3)|_,[]=>[]|k,B::r=>(Cf dst clk k,B)::P4 dst clk (k+1) r
theorem Z8L dst clk:∀(news:List Z3) (k:Nat) (H:Heap),BQ (P4 dst clk k news) H=OU dst clk k news H|[],_,_=>rfl|B::r,k,H=>Z8L dst clk r (k+1) (Bm H (Cf dst clk k) B)
def Tx(P:Program)(clk:Nat)(hints:List (Nat×List Hint))(o:Oper)(f:Operand)(args:List Operand)(G:Option Bool)(tmps:List AV)(H:Heap):Option Core:=
 match o.dst with
 |none=>X
 |some d=>match Ec G (ev tmps) f with
  |.fn k caps=>match look d hints with
   |.call fr res news::_ =>
    match (match fr with|Y=>IL H ((args.map (Ec G (ev tmps)))++caps)|Z=>(if((args.map (Ec G (ev tmps)))++caps).all A9 then U ((args.map (Ec G (ev tmps)))++caps)else X))with
    | some a=>if SH P k&&IV d clk 0 news H then
     match G,news with|some _,_::_=>X|_,_=>U ⟨U (d,mkG G (IK (Z3F d clk) res)),P4 d clk 0 news,phG G [GSpec P k a fr res news],Hq G (ev tmps) (f::args)⟩
     else X
    |none=>X
   |_=>X
  |_=>X
def Z3D:AV->Bool|.tu l=>l.all A9|a=>A9 a
def E5(b:Nat):List Nat->Nat->Option Nat|[],_=>X|x::l,k=>match Lj x b with|Y=>U k|Z=>E5 b l (k+1)
def nodupB:List Nat->Bool|[]=>Y|x::l=>(match E5 x l 0 with|X=>Y|U _=>Z)&&nodupB l
def ksL:AV->List Nat|.ow b=>[b]|.os b _ _=>[b]|_=>[]
def ksM:AV->List Nat|.ag l=>l.flatMap ksL|.fn _ l=>l.flatMap ksL|.ic _ a=>ksL a|a=>ksL a
def S7(H:Heap):List Nat->Bool|[]=>Y|b::l=>(match H b with|U (.arr ..)=>Y|_=>Z)&&Lg 8000 b&&S7 H l
def To(P:Program)(clk:Nat)(hints:List (Nat×List Hint))(o:Oper)(f:Operand)(args:List Operand)(G:Option Bool)(tmps:List AV)(H:Heap):Option Core:=
 match G with|some _=>X|none=>match o.dst with|none=>X|some d=>match ev tmps f with|.fn k caps=>(match look d hints with|.kill res::_=>(match IL H (args.map (ev tmps)++caps)with|some a=>(match SH P k&&S7 H ((args.map (ev tmps)++caps).flatMap ksM)&&Z3D res with|true=>U ⟨U (d,res),((args.map (ev tmps)++caps).flatMap ksM).map λb=>(b,.dead),[GSpec P k a Z res []],[]⟩|false=>X)|none=>X)|_=>X)|_=>X
def Z6X(o:Oper)(hints:List (Nat×List Hint)):Bool:=match o.dst with|some d=>(match look d hints with|.kill _::_=>Y|_=>Z)|none=>Z
def HL(g:AV->Option AV):List AV->Option (List AV)|[]=>U []|a::l=>match g a,HL g l with|some x,some r=>U (x::r)|_,_=>X
def nmL(f:Nat->Option Nat)(x:AV):Option AV:=match x with|.d x=>U (.d x)|.rp e o=>U (.rp e o)|.pt b i o=>(match f b with|U k=>U (.pt k i o)|X=>X)|.os b o n=>(match f b with|U k=>U (.os k o n)|X=>X)|.ow b=>(match f b with|U k=>U (.ow k)|X=>X)|_=>X
def nmM(f:Nat->Option Nat)(x:AV):Option AV:=match x with|.ag l=>(match HL (nmL f) l with|U r=>U (.ag r)|X=>X)|.fn g l=>(match HL (nmL f) l with|U r=>U (.fn g r)|X=>X)|.ic t (.ag l)=>(match HL (nmL f) l with|U r=>U (.ic t (.ag r))|X=>X)|.ic t a=>(match nmL f a with|U r=>U (.ic t r)|X=>X)|x=>nmL f x
def nmB(f:Nat->Option Nat)(B:Z3):Option Z3:=match B with|.box ty cells=>(match HL (nmM f) cells with|U r=>U (.box ty r)|X=>X)|.arr ty s els=>U (.arr ty s els)|.mp ks=>U (.mp ks)|.dead=>X
def preB(f:Nat->Option Nat)(H:Heap):List Nat->Option (List Z3)|[]=>U []|b::l=>match H b,preB f H l with|some B,some r=>(match nmB f B with|U C=>U (C::r)|X=>X)|_,_=>X
def hL(l:List Z3):Heap:=λk=>l[k]?
def BorSpec(P:Program)(f:Nat)(args:List AV)(pre:List Z3)(res:AV)(post:List Z3):Prop:=
 ∀(w:World) (c:Nat->Prop) (ρ:ZM) (j:Array Value),(∀g,c g->g<w.heap.size)->j.size=args.length->(∀k β,ρ k=U β->k<pre.length) ->
  (∀b l β β' g,ρ b=U β->ρ l=U β'->β.g=U g->β'.g=U g->b=l)->(∀b β g,ρ b=U β->β.g=U g->g<w.heap.size/\¬ c g) ->
  (∀(k:Nat) (B:Z3),pre[k]?=U B->∃β,ρ k=U β/\RelB ρ w c β B)->(∀(i:Nat) (x:AV) (v:Value),args[i]?=U x->j[i]?=U v->Zk ρ w c x v) ->
  Calls P f j w λe d=>∃v,e=.returned v/\Kept (OwA (GZ ρ)) w d/\∃(ρ':ZM) (a:Nat->Prop),(∀k β,ρ k=U β->ρ' k=U β)/\(∀k β,ρ' k=U β->k<post.length) /\
   (∀g,a g->c g\/w.heap.size<=g\/OwA (GZ ρ) g)/\(∀g,a g->g<d.heap.size) /\
   (∀k β g,ρ' k=U β->β.g=U g->g<d.heap.size/\(w.heap.size<=g\/OwA (GZ ρ) g)) /\
   (∀k β g,live (hL post) k->ρ' k=U β->β.g=U g->¬ a g) /\
   (∀k h β β' g,live (hL post) k->live (hL post) h->ρ' k=U β->ρ' h=U β'->β.g=U g->β'.g=U g->k=h) /\
   (∀(k:Nat) (B:Z3),post[k]?=U B->∃β,ρ' k=U β/\RelB ρ' d a β B)/\Zk ρ' d a res v
abbrev LentSpec:=BorSpec
def Em(dst clk:Nat):Nat->Nat->List Nat|_,0=>[]|k,n+1=>Cf dst clk k::Em dst clk (k+1) n
def Ie(H:Heap):List Nat->Bool|[]=>Y|b::l=>(match H b with|X=>Y|U _=>Z)&&Ie H l
def Io(ids:List Nat):AV->AV|.pt k i o=>.pt (ids.getD k 0) i o|.os k o n=>.os (ids.getD k 0) o n|.ow k=>.ow (ids.getD k 0)|a=>a
def GL(ids:List Nat):Z3->Z3|.box ty cells=>.box ty (cells.map (HX (Io ids)))|B=>B
def Z2A:AV->List Operand->Option (Nat×List AV)|.fn k caps,_=>U (k,caps)|.fm k a,[]=>U (k,[a])|_,_=>X
def Gl(dst clk:Nat)(ls:List Nat)(post:List Z3):List Nat:=ls++Em dst clk 0 (post.length-ls.length)
def TQ:List Hint->Option (Option (Nat×Nat)×List Nat×AV×List Z3)|.bor ls res post::_=>U (X,ls,res,post)|.gh ty s::.bor ls res post::_=>U (U (ty,s),ls,res,post)|_=>X
def ghH(g:Nat)(H:Heap):Option (Nat×Nat)->Heap|none=>H|some (ty,s)=>Bm H g (.arr ty s [])
def ghV(g:Nat)(a:Operand->AV):Option (Nat×Nat)->Operand->AV|none,y=>a y|some _,.const (.slice none 0 0)=>.ow g|some _,y=>a y
def MQ(g:Nat)(ls:List Nat)(H:Heap):Option (Nat×Nat)->Bool|none=>Y|some _=>Ie H [g]&&(match E5 g ls 0 with|X=>Z|U _=>Y)
def MK(P:Program)(clk:Nat)(hints:List (Nat×List Hint))(o:Oper)(f:Operand)(args:List Operand)(G:Option Bool)(tmps:List AV)(H:Heap):Option Core:=
 match o.dst with|none=>X|some d=>match (match G with|X=>Y|U g=>g)with|false=>(match TQ (look d hints)with|some (_,_,res,_)=>U ⟨U (d,mkG G res),[],[],[]⟩|none=>X)|true=>match Z2A (Ec G (ev tmps) f) args with|some (k,caps)=>(match TQ (look d hints)with|some (gh,ls,res,post)=>(match HL (nmM λb=>E5 b ls 0) (args.map (ghV (Cf d clk 6) (Ec G (ev tmps)) gh)++caps),preB (λb=>E5 b ls 0) (ghH (Cf d clk 6) H gh) ls with|some as,some pre=>(match post with|[]=>(match SH P k&&nodupB ls&&gh.isNone with|true=>U ⟨U (d,IK (Io ls) res),[],[BorSpec P k as pre res pre],Hq G (ev tmps) (f::args)⟩|false=>X)|B::post=>match SH P k&&nodupB (Gl d clk ls (B::post))&&Lg ls.length (B::post).length&&Lg ((B::post).length-ls.length) 7&&Ie H (Em d clk 0 ((B::post).length-ls.length))&&MQ (Cf d clk 6) ls H gh with|true=>U ⟨U (d,IK (Io (Gl d clk ls (B::post))) res),(Gl d clk ls (B::post)).zip ((B::post).map (GL (Gl d clk ls (B::post)))),[BorSpec P k as pre res (B::post)],Hq G (ev tmps) (f::args)⟩|false=>X)|_,_=>X)|none=>X)|none=>X
def Z69(o:Oper)(hints:List (Nat×List Hint)):Bool:=match o.dst with|some d=>(TQ (look d hints)).isSome|none=>Z
def Z1n(hints:List (Nat×List Hint))(o:Oper):List Nat:=match o.dst with|some d=>(match TQ (look d hints)with|U (_,ls,_,_)=>ls|X=>[])|none=>[]
def MM(P:Program)(clk:Nat)(hints:List (Nat×List Hint))(o:Oper)(c:Call)(tmps:List AV)(H:Heap):Option Core:=
 match o.dst with|none=>X|some d=>match c.args.toList,c.argTypes.toList with|[x,y],[t,t']=>(match H (clk*8000+d)with|some _=>X|none=>match DU P t t' (clk*8000+d) (look d hints) (ev tmps x) (ev tmps y) H with|some (b,r)=>U ⟨U (d,r.val),(b,.dead)::r.ups,r.ph,[]⟩|none=>X)|_,_=>X
def ghL:List Hint->List (Nat×Nat×Nat)|.gh ty s::.int (.ofNat k)::r=>(ty,s,k)::ghL r|_=>[]
def ghU(d clk:Nat):Nat->List (Nat×Nat×Nat)->List (Nat×Z3)|_,[]=>[]|j,x::r=>(Cf d clk j,.arr x.1 x.2.1 [])::ghU d clk (j+1) r
def ghN(d clk:Nat):Nat->List (Nat×Nat×Nat)->Nat->Option Nat|_,[],_=>X|j,x::r,i=>match Lj i x.2.2 with|Y=>U (Cf d clk j)|Z=>ghN d clk (j+1) r i
def MA(P:Program)(clk:Nat)(o:Oper)(l:List (Nat×Nat×Nat))(t:Nat)(G:Option Bool)(H:Heap):Option Core:=
 match G,o.dst with|none,some d=>(match H (clk*8000+d),Ie H (Em d clk 0 l.length)&&Lg l.length 7,zeroOf P t with|none,true,some (.agg cs)=>(match M2 cs.toList with|true=>U ⟨U (d,.pt (clk*8000+d) 0 0),ghU d clk 0 l++[(clk*8000+d,.box t (ghC (ghN d clk 0 l) 0 cs.toList))],[],[]⟩|false=>X)|_,_,_=>X)|_,_=>X
def Zgw(o:Oper)(hints:List (Nat×List Hint)):List Hint:=match o.dst with|U d=>look d hints|X=>[]
def Ng(P:Program)(clk:Nat)(ops:Array Oper)(hints:List (Nat×List Hint))(o:Oper)(tmps:List AV)(H:Heap):Option Core:=
 match guardOf ops tmps o.guard with|none=>X|some G=>match o.op with|.pick c a b=>ML hints o c a b G tmps|.alloc t=>(match ghL (Zgw o hints)with|x::l=>MA P clk o (x::l) t G H|[]=>NA P clk hints o G tmps H)|.call c=>(match c.callee with|.value f=>(match Z6X o hints with|true=>To P clk hints o f c.args.toList G tmps H|false=>match Z69 o hints with|true=>MK P clk hints o f c.args.toList G tmps H|false=>Tx P clk hints o f c.args.toList G tmps H)|.builtin .append=>(match G with|none=>MM P clk hints o c tmps H|some _=>X)|_=>NA P clk hints o G tmps H)|_=>NA P clk hints o G tmps H
def AC(P:Program)(clk:Nat)(ops:Array Oper)(hints:List (Nat×List Hint))(o:Oper)(tmps:List AV)(H:Heap):Option Out:=
 match Ng P clk ops hints o tmps H with|some c=>U (c.out tmps H)|none=>X
def getD_some{tmps:List AV}{t:Nat}{x:AV}(h:tmps.getD t .any=x)(hx:x≠.any):tmps[t]?=U x:=by grind
def Ct.at{D ρ w Im tmps a}(T:Ct D ρ w Im tmps a){t:Nat}{x:AV}(h:tmps[t]?=U x):∃v,a.tmps[t]?=U v/\Zk ρ w Im x v:=by
 have b:t<a.tmps.size:=by rw[T.size];exact(Lq.1 h).1
 exact⟨a.tmps[t],Ls b,T.tmp t x _ h (Ls b)⟩
theorem Zgu{D ρ w Im tmps a}(T:Ct D ρ w Im tmps a){ops}{o:Oper}{G:Option Bool}(h:guardOf ops tmps o.guard=U G) :(G=X/\Lk o (yielded ops a.tmps)=Y)\/∃g,G=U g/\Lk o (yielded ops a.tmps)=g:=by
 unfold guardOf at h;split at h;grind[Lk]
 .rename_i j want hg;split at h;rotate_left;cases h;rename_i oj hj;split at h;rotate_left;cases h;rename_i t ht;split at h;rename_i b hb;cases h;obtain⟨v,h1,h2⟩:=T.at (getD_some hb pq);cases BV h2;refine .inr ⟨_,rfl, ?_⟩;simp only[Lk,hg,yielded,hj,Xf,ht,h1];cases want<;>cases b<;>rfl;rename_i g b hb;cases h;obtain⟨v,h1,h2⟩:=T.at (getD_some hb pq);refine .inr ⟨_,rfl, ?_⟩;cases h2 with
  |gd k1 k2 =>
   cases g with|true =>cases BV (k1 rfl);simp only[Lk,hg,yielded,hj,Xf,ht,h1];cases want<;>cases b<;>rfl|false =>grind[Lk,yielded,undef]
  cases h
section
variable{P:Program}{Ow:Own}{Im0:Nat->Prop}{w0:World}{clk:Nat}{hints:List (Nat×List Hint)}{o:Oper}{tmps:List AV}{H:Heap}{a:Act}{w:World}{out:Out}{next:Act->World->Prop}{Q:Exit->Act->World->Prop}
abbrev HW(P:Program)(Ow:Own)(Im0:Nat->Prop)(w0:World)(clk:Nat)(o:Oper)(G:Option Bool)(H:Heap)(tmps:List AV)(out:Out):Prop:=
 ∀(a:Act) (w:World) (ρ:ZM) (Im:Nat->Prop) (next:Act->World->Prop) (Q:Exit->Act->World->Prop),Inv Ow Im0 w0 ρ w Im H clk->Ct Ow.ds ρ w Im tmps a->B9 out.ph->EJ out.eq ->
  (∀a' w',Sys Ow Im0 w0 out.tmps out.H clk a' w'->next a' w')->((∀g,G=U g->g=Y)->o.wp P a w next Q)/\((∃g,G=U g/\g=Z)->next (a.put o.dst undef) w)
theorem EJ.left{l m:List (AV×AV)}(h:EJ (l++m)):EJ l:=λp b=>h p (M.2 (.inl b))
theorem EJ.right{l m:List (AV×AV)}(h:EJ (l++m)):EJ m:=λp b=>h p (M.2 (.inr b))
theorem Z0C{ρ w Im}{G:Option Bool}{x v}(hG:∀g,G=U g->g=Y)(h:Zk ρ w Im x v):Zk ρ w Im (mkG G x) v:=by
 cases G with|none=>exact h|some g=>exact .gd (λ_=>h) (λe=>by grind)
theorem Dh{ρ Im}(I:Inv Ow Im0 w0 ρ w Im H clk)(T:Ct Ow.ds ρ w Im tmps a){G:Option Bool}(b:∃g,G=U g/\g=Z)(d:Nat) x:Sys Ow Im0 w0 (tmps.set d (mkG G x)) H clk (a.put (U d) undef) w:=by obtain⟨g,rfl,rfl⟩:=b;exact⟨ρ,Im,I,T.put d (.gd (λh=>by cases h) (λ_=>rfl))⟩
open Classical in
theorem Z3u{G}{out:Core}(h:NA P clk hints o G tmps H=U out):HW P Ow Im0 w0 clk o G H tmps (out.out tmps H):=by
 intro a w ρ k next Q I T i p l
 unfold NA at h;split at h
 .rename_i d f;split at h;cases h;rename_i m;split at h;rotate_left;cases h;rename_i r z;let y:Operand->AV:=λx=>if x∈o.op.operands.toList then Ec G (ev tmps) x else .any;have e:act P o (clk*8000+d) (look (keyOf o) hints) y H=U r:=by grind[Z3C]
  have s:=Z72 e;have u:(out=⟨U (d,mkG G r.val),r.ups,phG G r.ph,Hq G (ev tmps) o.op.operands.toList⟩/\Z5q r.up G=Y)\/(G=U Z/\out=⟨U (d,mkG G .any),[],[],[]⟩):=by grind
  rcases u with⟨rfl,j⟩|⟨hg,rfl⟩;rotate_left;refine⟨λc=>(by have:=c Z hg;cases this),λc=>?_⟩;rw[f];exact l _ _ (Dh I T c d _);refine⟨λc=>?_,λc=>?_⟩;refine(s Ow Im0 w0 ρ w k clk a I oq m (λx=>?_) (O0 i c)).wp λv w' t=>?_;simp only[y];split;rename_i hx;exact AE hx p c (Ed T x);exact .any _;obtain⟨ρ',I',n,b,hv⟩:=t;rw[f];exact l _ _ ⟨ρ',k,by show Inv _ _ _ _ _ _ (BQ r.ups H) _;grind[Be.applyU],(T.mono n (λ_ h=>h) b I.bnd).put d (Z0C c hv)⟩;rw[f];have:r.up=X:=by
   obtain⟨g,rfl,rfl⟩:=c;cases hu:r.up with|none=>rfl|some x=>rw[hu]at j;cases j
  have q:BQ r.ups H=H:=by grind[Be.applyU,Be.heap]
  refine l _ _ ?_;show Sys Ow Im0 w0 (tmps.set d (mkG G r.val)) (BQ r.ups H) clk _ _;grind[Dh]
 .rename_i f;split at h;cases h;split at h;cases h;rename_i m;split at h;rotate_left;cases h;rename_i r z;cases h;have s:=Z72 z;refine⟨λ_=>?_,λc=>by grind⟩;refine(s Ow Im0 w0 ρ w k clk a I oq m (λx=>Ed T x) i).wp λv w' t=>?_;obtain⟨ρ',I',n,b,hv⟩:=t;rw[f];exact l _ _ ⟨ρ',k,by show Inv _ _ _ _ _ _ (BQ r.ups H) _;grind[Be.applyU],(T.mono n (λ_ h=>h) b I.bnd)⟩
theorem Z8B{b hs}(h:B9 (Hv b hs).ph) ρ w Im:Zk ρ w Im (Hv b hs).val (.bool b):=by
 unfold Hv at h⊢;split at h;rename_i c _;have:b=c:=by grind[B9]
 rw[this];exact .d (.sc _ rfl);exact .d (.sc _ rfl)
theorem Z0B{x:AV}{b:Bool}(h:asB x=U b):x=bv b:=by unfold asB at h;split at h;cases h;rfl;cases h
theorem Z9D{x:AV}{g b:Bool}(h:gdB x=U (g,b)):x=.gd g (bv b):=by unfold gdB at h;split at h;cases h;rfl;cases h
theorem ZhG{x:Operand}(h:Z1A x=Y):x=.const (.bool Y):=by unfold Z1A at h;grind
theorem Zjj{x:Operand}(h:Z1X x=Y):x=.const (.bool Z):=by unfold Z1X at h;grind
theorem Z75{G:Option Bool}{b:Bool}(hG:∀g,G=U g->g=Y):Mi G b=b:=by cases G<;>grind[Mi]
theorem ZlP{G}{c x y:Operand}{out:Core}(ho:o.op=.pick c x y)(h:ML hints o c x y G tmps=U out):HW P Ow Im0 w0 clk o G H tmps (out.out tmps H):=by
 intro a w ρ u next Q I T s i hn
 unfold ML at h;split at h;cases h;rename_i d z;split at h;cases h;rename_i gc a0;have j:=Z0B a0;split at h
 .rename_i hx;have n:=ZhG hx;split at h;rotate_left;cases h;rename_i q v m;have f:=Z9D m;cases h;refine⟨λb=>?_,λb=>by rw[z];exact hn _ _ (Dh I T b d _)⟩;have r:=AE (l:=[c]) (x:=c) pq i.left b (Ed T c);rw[j]at r;have e:=BV r;have k:q = !gc:=by(have:=Z2e (i.right (bv q,bv (Mi G (!gc))) pq);grind[Z75])
  have t:=Ed T y;rw[f]at t;have g:(execOp a.eval o).run P w=.ok (.value (.bool (gc||v))) w:=by
   cases gc with
   |true =>
    have p:a.eval x=.bool Y:=by rw[n];rfl
    simp[execOp,ho,e,asBool,p]
   |false =>
    cases t with|gd k1 k2 =>have:=BV (k1 (by rw[k];rfl));simp[execOp,ho,e,asBool,this]
  simp only[Lm,g,LF];rw[z];exact hn _ _ ⟨ρ,u,I,T.put d (Z0C b (Z8B (O0 s b) ρ w u))⟩
 .split at h;rotate_left;cases h;rename_i hx;have n:=Zjj hx;split at h;rotate_left;cases h;rename_i q v m;have f:=Z9D m;cases h;refine⟨λb=>?_,λb=>by rw[z];exact hn _ _ (Dh I T b d _)⟩;have r:=AE (l:=[c]) (x:=c) pq i.left b (Ed T c);rw[j]at r;have e:=BV r;have k:q=gc:=by(have:=Z2e (i.right (bv q,bv (Mi G gc)) pq);grind[Z75])
  have t:=Ed T x;rw[f]at t;have g:(execOp a.eval o).run P w=.ok (.value (.bool (gc&&v))) w:=by
   cases gc with
   |false =>
    have p:a.eval y=.bool Z:=by rw[n];rfl
    simp[execOp,ho,e,asBool,p]
   |true =>
    cases t with|gd k1 k2 =>have:=BV (k1 k);simp[execOp,ho,e,asBool,this]
  simp only[Lm,g,LF];rw[z];exact hn _ _ ⟨ρ,u,I,T.put d (Z0C b (Z8B (O0 s b) ρ w u))⟩
theorem Ns{f:Nat}(h:SH P f=Y) args(w:World):(callFunc f args).run P w=.ok (.enter f args) w:=by
 unfold SH at h;split at h;rename_i fn hf;simp only[W,Lw]at h;obtain⟨h1,h2⟩:=h;have h3:fn.body.isNone=Z:=by simp_all
 grind[callFunc,Sem.run_bind,run_program,LQ,Sem.run_pure];cases h
theorem Z7w{c:Call}{f:Operand}{d k:Nat}{fr res news as}{cs:Array Value}{a w ρ}{Im ImC:Nat->Prop}{next:Act->World->Prop}{Q}(ho:o.op=.call c)(hc:c.callee=.value f)(hd:o.dst=U d)(a8:SH P k=Y)(t:IV d clk 0 news H=Y)(p:GSpec P k as fr res news)(I:Inv Ow Im0 w0 ρ w Im H clk)(T:Ct Ow.ds ρ w Im tmps a)(a7:a.eval f=.func (.func k) #[] cs)(u:(c.args.map a.eval++cs).size=as.length)(m1:∀g,ImC g->g<w.heap.size)(m2:fr=Z->∀g,ImC g->Im g)(m4:∀(i:Nat) (x:AV) (v:Value),as[i]?=U x->(c.args.map a.eval++cs)[i]?=U v->Zk (λ_=>X) w ImC x v)(hn:∀ρ2 Im2 v w',Inv Ow Im0 w0 ρ2 w' Im2 (OU d clk 0 news H) clk->Ct Ow.ds ρ2 w' Im2 tmps a->Zk ρ2 w' Im2 (IK (Z3F d clk) res) v->next (a.put (U d) v) w'):o.wp P a w next Q:=by
 have m:=p w ImC (c.args.map a.eval++cs) m1 u m4;have a2:(execOp a.eval o).run P w=.ok (.enter k (c.args.map a.eval++cs)) w:=by grind[Ns,execOp,resolve,Lx,invoke]
 simp only[Lm,a2,LP];refine m.mono λe w' he=>?_;obtain⟨v,rfl,K,ρ',q,r1,r2,r3,r4,r5,r6,r7⟩:=he;have a1:∀g,q g->Im g\/w.heap.size<=g:=λg j=>(r1 g j).imp (λ⟨r,z⟩=>m2 r g z) (λh=>h);obtain⟨J,a0⟩:=I.called K q a1 r2;have a4:∀(b:Nat) (β:Bi) (g:Nat),ρ' b=U β->β.g=U g->¬ (Im g\/q g):=by(intro b β g hb j a5;obtain⟨q1,q2,q3⟩:=r3 b β g hb j;rcases a5 with h|h;have:=I.imb g h;omega;exact q3 h)
 obtain⟨ρ2,J2,s1,s2⟩:=Z8T (ρ':=ρ') (dst:=d) news 0 ρ H J t (λi B hB=>by
  obtain⟨β,k1,k2⟩:=r6 i B hB;refine⟨β,by grind, ?_,λg j=>⟨a4 i β g k1 j,(r3 i β g k1 j).2.1, ?_⟩⟩;have a3:DD B=Y:=by
    have:=t;clear p m r5 r6;have:∀(l:List Z3) (k:Nat) (H:Heap),IV d clk k l H=Y->∀B∈l,DD B=Y:=by
     intro l;induction l with|nil=>grind|cons x l ih =>grind[IV]
    exact this news 0 H t B (L hB)
  exact k2.arr_any a3 (λg j=>.inr j);have:=(r3 i β g k1 j).1;have:=I.kept.size;omega) r4 (λi hi β g hb j b κ hκ a6=>by
  have:=(r3 _ β g hb j).1;have:=I.bnd b κ g hκ a6;omega)
 rw[hd];refine hn ρ2 (λg=>Im g\/q g) _ _ J2 (T.mono a0 (λ_ h=>.inl h) s1 I.bnd) ?_;have y:∀k β,ρ' k=U β->ρ2 (Cf d clk k)=U β:=by grind
 refine MS (ρ:=ρ') (λg j=>.inr j) ?_ ?_ ?_ r7;intro b i oo v h;obtain⟨g,s,n,r,rfl⟩:=NJ h;exact .pt (y _ _ r);intro b oo n v h;cases h with|os r z h3 h4 h5=>exact .os (y _ _ r) z h3 h4 h5
 intro b v h;cases h with|ow r z h3 h4=>exact .ow (y _ _ r) z h3 h4
theorem ZjP{G}{c:Call}{f:Operand}{out:Core}(ho:o.op=.call c)(hc:c.callee=.value f)(h:Tx P clk hints o f c.args.toList G tmps H=U out):HW P Ow Im0 w0 clk o G H tmps (out.out tmps H):=by
 intro a w ρ Im next Q I T a4 u hn
 unfold Tx at h;split at h;cases h;rename_i d hd;split at h;rotate_left;cases h;rename_i k m hf;split at h;rotate_left;cases h;rename_i fr a2 e _ _;split at h;rotate_left;cases h;rename_i as j;split at h;rotate_left;cases h;rename_i p;simp only[W]at p;have a8:out=⟨U (d,mkG G (IK (Z3F d clk) a2)),P4 d clk 0 e,phG G [GSpec P k as fr a2 e],Hq G (ev tmps) (f::c.args.toList)⟩/\(G=X\/e=[]):=by
  clear u a4 hn j hf p;cases G with|none=>grind|some g =>cases e<;>grind
 obtain⟨rfl,a7⟩:=a8;refine⟨λhG=>?_,λhG=>?_⟩;rotate_left;rw[hd];have:e=[]:=by grind
 subst this;exact hn _ _ (Dh I T hG d _);have a1:GSpec P k as fr a2 e:=by simpa[B9]using O0 a4 hG
 have z:=AE (l:=f::c.args.toList) (x:=f) pq u hG (Ed T f);rw[hf]at z;generalize a6:a.eval f=fv at z;cases z with
 |fn a5 a9 =>
  rename_i cs;have a3:∀(i:Nat) (x:AV) (v:Value),((c.args.toList.map (Ec G (ev tmps)))++m)[i]?=U x->(c.args.map a.eval++cs)[i]?=U v->Zk ρ w Im x v:=by
   intro i x v q s;rw[Lt]at q;rw[LH]at s;simp only[LA,LU,LV]at q s;split at q;rename_i hi;rw[if_pos hi]at s;simp only[Lz,Le,LS]at q s;obtain⟨y,hy,rfl⟩:=q;obtain⟨y',b0,rfl⟩:=s;have:y=y':=by grind
   subst this;exact AE (Lb _ (L hy)) u hG (Ed T y);grind
  have a0:(c.args.map a.eval++cs).size=((c.args.toList.map (Ec G (ev tmps)))++m).length:=by simp[a5]
  have t:∃n:Nat->Prop,(∀g,n g->g<w.heap.size)/\(fr=Z->∀g,n g->Im g)/\as.length=((c.args.toList.map (Ec G (ev tmps)))++m).length/\∀(i:Nat) (x:AV) (v:Value),as[i]?=U x->(c.args.map a.eval++cs)[i]?=U v->Zk (λ_=>X) w n x v:=by
   cases fr with
   |true =>simp only at j;obtain⟨h1,h2⟩:=Z3T j;refine⟨M8 ρ Im,λg hg=>?_,λh=>by simp at h,h1,λi x v q s=>?_⟩;rcases hg with hg|⟨b,β,hb,hg⟩;exact I.imb g hg;exact I.bnd b β g hb hg;grind[Z65]
   |false =>simp only at j;split at j;rotate_left;cases j;rename_i hp;cases j;simp only[La]at hp;exact⟨Im,I.imb,λ_ g hg=>hg,rfl,λi x v q s=>Z6U (a3 i x v q s) (hp x (L q))⟩
  obtain⟨n,m1,m2,m3,m4⟩:=t;exact Z7w ho hc hd p.1 p.2 a1 I T a6 (by rw[a0,m3]) m1 m2 m4 λρ2 Im2 v w' J2 T2 r=>by(exact hn _ _ ⟨ρ2,Im2,by show Inv _ _ _ _ _ _ (BQ (P4 d clk 0 e) H) _;grind[Z8L],T2.put d (Z0C hG r)⟩)
theorem Z4f{ρ ρ' w}{Im Im':Nat->Prop}{x v}(h:Zk ρ w Im x v)(e:A9 x=Y)(d:∀g,Im g->Im' g):Zk ρ' w Im' x v:=by have:=Z6U (ρ':=λ_=>X) h e;exact this.mono (Ext.refl _ _) d (λb β c=>by cases c) (λb β g c=>by cases c)
theorem Zii{ρ ρ' w}{Im Im':Nat->Prop}{x v}(h:Zk ρ w Im x v)(b:Z3D x=Y)(d:∀g,Im g->Im' g):Zk ρ' w Im' x v:=by
 cases x with
 |tu l =>
  cases h with|tu _ e f j =>simp only[Z3D,La]at b;exact .tu _ e f λi a u c k=>Z4f (j i a u c k) (b a (L c)) d
 |_=>exact Z4f h b d
theorem IR{b}:∀{l:List Nat} {k n:Nat},E5 b l k=U n->k<=n/\l[n-k]?=U b
 |[],_,_,h=>by cases h
 |x::l,k,n,h=>by
  simp only[E5]at h;split at h
  .simp_all
  .obtain⟨h1,h2⟩:=IR h;grind
theorem Ds{b}:∀{l:List Nat} {k:Nat},E5 b l k=X->b∉l
 |[],_,_=>by simp
 |x::l,k,h=>by
  simp only[E5]at h;split at h
  .cases h
  .rename_i e;have:=Xc e;simp only[N,not_or];exact⟨λe=>this e.symm,Ds h⟩
theorem Mh:∀{l:List Nat},nodupB l=Y->l.Nodup
 |[],_=>List.nodup_nil
 |x::l,h=>by
  simp only[nodupB,W]at h;refine Lu.2 ⟨?_,Mh h.2⟩;grind[Ds]
theorem Ad{b:Nat}:∀{l:List Nat} {i j:Nat},l.Nodup->l[i]?=U b->l[j]?=U b->i=j
 |[],i,j,_,hi,_=>by simp at hi
 |x::l,i,j,hn,hi,hj=>by
  obtain⟨h1,c⟩:=Lu.1 hn;cases i with
  |zero =>
   grind
  |succ i =>
   cases j with
   |zero =>
    grind
   |succ j =>
    have:=Ad c (by simpa using hi) (by simpa using hj);omega
theorem Z3A{ls:List Nat}:∀{post:List Z3} {H:Heap},ls.Nodup->post.length=ls.length->∀b,(∀(k:Nat),ls[k]?=U b->∃B,post[k]?=U B/\BQ (ls.zip post) H b=U B)/\(b∉ls->BQ (ls.zip post) H b=H b):=by
 induction ls with
 |nil=>intro post H _ _ b;exact⟨λk h=>by simp at h,λ_=>rfl⟩
 |cons x ls d =>
  intro post H c hl b;cases post with|nil=>simp at hl|cons B post =>obtain⟨n1,e⟩:=Lu.1 c;obtain⟨i1,i2⟩:=d (post:=post) (H:=Bm H x B) e (by simpa using hl) b;simp only[List.zip_cons_cons,BQ];grind[Bm]
def IW(ks:List Nat)(ρ:ZM):ZM:=λb=>if b∈ks then ρ b else X
def IJ(ks:List Nat)(H:Heap):Heap:=λb=>if b∈ks then H b else X
theorem Z8X{H}:∀{l:List Nat},S7 H l=Y->∀b∈l,(∃ty s els,H b=U (.arr ty s els))/\8000<=b
 |[],_,b,hb=>by simp at hb
 |c::l,h,b,hb=>by
  simp only[S7,W]at h;obtain⟨⟨h1,d⟩,e⟩:=h;rcases N.1 hb with rfl|hb
  .refine⟨?_,Lr d⟩;grind
  .exact Z8X e b hb
theorem Inv.only{ρ Im}{ks:List Nat}(I:Inv Ow Im0 w0 ρ w Im H clk)(m:∀b∈ks,∃ty s els,H b=U (.arr ty s els)):Inv Ow Im0 w0 (IW ks ρ) w Im (IJ ks H) clk:=by
 have c:∀b β,IW ks ρ b=U β->b∈ks/\ρ b=U β:=by grind[IW]
 have f:∀b B,IJ ks H b=U B->b∈ks/\H b=U B:=by grind[IJ]
 have hl:∀b,live (IJ ks H) b->live H b:=λb ⟨B,j,k⟩=>⟨B,(f b B j).2,k⟩;refine⟨I.kept,λb d β β' g n p t u=>I.inj b d β β' g (hl b n) (hl d p) (c _ _ t).2 (c _ _ u).2,λb β g l q=>I.notIm b β g (hl b l) (c _ _ q).2,λb β g q=>I.bnd b β g (c _ _ q).2,λb β g q=>I.own b β g (c _ _ q).2,I.imb,I.im0,λb B q=>?_,λb hb q=>?_,I.one.1,λb β h q=>I.one.2 b β h (c _ _ q).2⟩;obtain⟨k1,i⟩:=f b B q;obtain⟨β,m1,r⟩:=I.blk b B i;obtain⟨ty,s,els,e⟩:=m b k1;rw[i]at e;cases e;exact⟨β,by grind[IW],r.arr_any rfl (λ_ h=>h)⟩;grind[IJ,IW]
section
variable{ks:List Nat}
theorem Z33{ρ Im}{x y:AV}{v}(h:Zk ρ w Im x v)(hd:Hr H x=U y)(j:∀b∈ksL x,b∈ks):Zk (IW ks ρ) w Im x v/\Hr (IJ ks H) x=U y:=by
 cases x with
 |d x=>cases h with|d h=>exact⟨.d h,hd⟩
 |rp e o=>cases h with|rp g c f=>exact⟨.rp g c f,hd⟩
 |ow b =>
  have l:=j b (by simp[ksL]);refine⟨?_, ?_⟩;cases h with|ow g c f i=>exact .ow (by grind[IW]) c f i
  grind[Hr,EX,IJ]
 |os b o n =>
  have l:=j b (by simp[ksL]);refine⟨?_, ?_⟩;cases h with|os g c f i k=>exact .os (by grind[IW]) c f i k
  grind[Hr,EX,IJ]
 |_=>grind[Hr]
theorem Z2a{ρ Im}:∀{l m:List AV},IS H l=U m->(∀b∈l.flatMap ksL,b∈ks)->IS (IJ ks H) l=U m/\∀(i:Nat) (a:AV) (v:Value),l[i]?=U a->Zk ρ w Im a v->Zk (IW ks ρ) w Im a v
 |[],m,h,_=>⟨h,λi a v c=>by simp at c⟩
 |x::l,m,h,hk=>by
  simp only[IS]at h;split at h;rotate_left
  .cases h
  rename_i y r f p;cases h;obtain⟨g,h2⟩:=Z2a (ρ:=ρ) (Im:=Im) p (λb j=>hk b (by grind));have k:∀b∈ksL x,b∈ks:=λb j=>hk b (by grind);refine⟨?_,λi a v c hv=>?_⟩
  .simp only[IS,g];have:Hr (IJ ks H) x=U y:=by
    cases x with|d x=>exact f|rp e o=>exact f|ow b=>grind[Hr,EX,IJ,ksL]|os b o n=>grind[Hr,EX,IJ,ksL]|_=>grind[Hr]
   rw[this]
  grind[Z33]
theorem Zc4{ρ Im}{x y:AV}{v}(h:Zk ρ w Im x v)(hd:toD H x=U y)(e:∀b∈ksM x,b∈ks):Zk (IW ks ρ) w Im x v/\toD (IJ ks H) x=U y:=by
 cases x with
 |ag l =>simp only[toD,Le]at hd⊢;obtain⟨m,d,rfl⟩:=hd;obtain⟨g,j⟩:=Z2a (ρ:=ρ) (Im:=Im) (w:=w) d e;obtain⟨p,rfl,k1,q,n⟩:=Hx h;exact⟨.ag _ p k1 q λi a u c k=>j i a u c (n i a u c k),m,g,rfl⟩
 |fn f l =>
  simp only[toD,Le]at hd⊢;obtain⟨m,d,rfl⟩:=hd;obtain⟨g,j⟩:=Z2a (ρ:=ρ) (Im:=Im) (w:=w) d e;cases h with|fn k1 n=>exact⟨.fn k1 λi a u c k=>j i a u c (n i a u c k),m,g,rfl⟩
 |ic t a =>
  simp only[toD,Le]at hd⊢;obtain⟨m,d,rfl⟩:=hd;cases h with|ic h =>obtain⟨r,s⟩:=Z33 (ks:=ks) h d e;exact⟨.ic r,m,s,rfl⟩
 |_=>exact Z33 (H:=H) h hd e
end
theorem Z7u{ks:List Nat}:∀{H:Heap} (b:Nat),(b∈ks->BQ (ks.map λb=>(b,Z3.dead)) H b=U .dead)/\(b∉ks->BQ (ks.map λb=>(b,Z3.dead)) H b=H b):=by
 induction ks with|nil=>intro H b;exact⟨λh=>by simp at h,λ_=>rfl⟩|cons x ks c =>intro H b;obtain⟨i1,i2⟩:=c (H:=Bm H x .dead) b;simp only[Lf,BQ,N,not_or];grind[Bm]
theorem ZeH{G}{c:Call}{f:Operand}{out:Core}(ho:o.op=.call c)(hc:c.callee=.value f)(h:To P clk hints o f c.args.toList G tmps H=U out):HW P Ow Im0 w0 clk o G H tmps (out.out tmps H):=by
 intro a w ρ Im next Q I T c2 c7 hn
 unfold To at h;split at h;cases h;split at h;cases h;rename_i d hd;split at h;rotate_left;cases h;rename_i k u hf;split at h;rotate_left;cases h;rename_i b7 _ _;split at h;rotate_left;cases h;rename_i as b8;generalize c9:(c.args.toList.map (ev tmps)++u).flatMap ksM=ks at h;split at h;rotate_left;cases h;rename_i b4;cases h;simp only[W]at b4;obtain⟨⟨c3,z⟩,b5⟩:=b4;have z:=Z8X z;obtain⟨a1,a2⟩:=Z3T b8;refine⟨λ_=>?_,λhG=>by grind⟩;have a9:GSpec P k as Z b7 []:=by simpa[B9,Core.out]using c2
 have a5:=Ed T f;rw[hf]at a5;generalize c8:a.eval f=fv at a5;cases a5 with
 |fn b9 c6 =>
  rename_i cs;have b3:∀(i:Nat) (x:AV) (v:Value),((c.args.toList.map (ev tmps))++u)[i]?=U x->(c.args.map a.eval++cs)[i]?=U v->Zk ρ w Im x v:=by grind[Ed]
  have a8:(c.args.map a.eval++cs).size=((c.args.toList.map (ev tmps))++u).length:=by simp[b9]
  have hk:∀b∈ks,∃ty s els,H b=U (.arr ty s els):=λb hb=>(z b hb).1;have J:=I.only hk;let r:=M8 (IW ks ρ) Im;have p:∀g,r g->Im g\/∃b β,b∈ks/\ρ b=U β/\β.g=U g:=by(rintro g (h|⟨b,β,h1,h2⟩);exact .inl h;grind[IW])
  have a6:∀b∈ks,live H b:=λb hb=>by(obtain⟨ty,s,els,e⟩:=hk b hb;exact⟨_,e,by simp⟩)
  have a4:=a9 w r (c.args.map a.eval++cs) (λg j=>by
   rcases p g j with h|⟨b,β,_,h2,h3⟩;exact I.imb g h;exact I.bnd b β g h2 h3) (by rw[a8,a1]) (λi y v hy hv=>by
   obtain⟨x,hx,c0⟩:=a2 i y hy;obtain⟨t,q2⟩:=Zc4 (ks:=ks) (b3 i x v hx hv) c0 (λb hb=>by
     grind)
   grind[Z65])
  have b6:(execOp a.eval o).run P w=.ok (.enter k (c.args.map a.eval++cs)) w:=by grind[Ns,execOp,resolve,Lx,invoke]
  simp only[Lm,b6,LP];refine a4.mono λe w' he=>?_;obtain⟨v,rfl,K,ρ',b0,r1,r2,r3,r4,r5,r6,r7⟩:=he;have a3:Ext Im w w':=⟨K.size,λg j=>K.block g (I.imb g j) (λh=>h),λg j=>K.rows g j⟩;have b1:∀b B,BQ (ks.map λb=>(b,Z3.dead)) H b=U B->(b∈ks/\B=.dead)\/(b∉ks/\H b=U B):=by grind[Z7u]
  have m:∀b,live (BQ (ks.map λb=>(b,Z3.dead)) H) b->b∉ks/\live H b:=by(rintro b ⟨B,h1,h2⟩;rcases b1 b B h1 with⟨_,rfl⟩|⟨t,q⟩;grind;exact⟨t,B,q,h2⟩)
  rw[hd];have a7:Zk ρ w' (λg=>(Im g\/r g)\/b0 g) b7 v:=Zii r7 b5 (λg j=>.inr j);refine hn _ _ ⟨ρ,λg=>(Im g\/r g)\/b0 g,⟨⟨K.os.trans I.kept.os,K.tape.trans I.kept.tape,K.output.trans I.kept.output,Lh I.kept.size K.size,λkk hk c1=>?_,λkk hk=>?_⟩,
   λb b' β β' g l1 l2=>I.inj b b' β β' g (m b l1).2 (m b' l2).2,λb β g l t q2 n=>?_,λb β g t q2=>F (I.bnd b β g t q2) K.size,I.own,λg j=>?_,λg j=>?_,λb B hB=>?_,λb hb hB=>?_,I.one⟩,
   (T.mono a3 (λ_ h=>.inl (.inl h)) (λ_ _ h=>h) I.bnd).put d a7⟩
  rw[K.block kk (F hk I.kept.size) (λh=>h)];exact I.kept.block kk hk c1;rw[K.rows kk (F hk I.kept.size)];exact I.kept.rows kk hk;obtain⟨l1,l2⟩:=m b l;have a0:¬ r g:=by(intro hc;rcases p g hc with h|⟨b2,β2,h1,h2,h3⟩;exact I.notIm b β g l2 t q2 h;have:=I.inj b b2 β β2 g l2 (a6 b2 h1) t h2 q2 h3;grind)
  rcases n with(n|n)|n;exact I.notIm b β g l2 t q2 n;exact a0 n;rcases r1 g n with⟨_,h⟩|h;exact a0 h;have:=I.bnd b β g t q2;omega;rcases j with(j|j)|j;exact F (I.imb g j) K.size;rcases p g j with h|⟨b,β,_,h2,h3⟩;exact F (I.imb g h) K.size;exact F (I.bnd b β g h2 h3) K.size;grind
  .have a0:∀g,r g->Im0 g\/w0.heap.size<=g\/OwA Ow g:=by
    intro g j;rcases p g j with h|⟨b,β,h1,h2,h3⟩;exact I.im0 g h
    .rcases I.own b β g h2 h3 with⟨h,_⟩|h;all_goals grind
   rcases j with(j|j)|j;exact I.im0 g j;exact a0 g j;rcases r1 g j with⟨_,h⟩|h;exact a0 g h;exact .inr (.inl (Lh I.kept.size h))
  rcases b1 b B hB with⟨t,rfl⟩|⟨t,q2⟩;obtain⟨ty,s,els,e⟩:=hk b t;obtain⟨β,m1,_⟩:=I.blk b _ e;exact⟨β,m1,trivial⟩;obtain⟨β,m1,m2⟩:=I.blk b B q2;exact⟨β,m1,m2.mono a3 (λ_ h=>.inl (.inl h)) (λ_ _ h=>h) I.bnd (λg j=>K.block g (I.bnd b β g m1 j) (λh=>h))⟩
  .refine I.fresh b hb ?_;have c4:BQ (ks.map λb=>(b,Z3.dead)) H b=X:=hB;by_cases c5:b∈ks;all_goals grind[Z7u]
theorem Sw{f}:∀{l r:List AV},HL f l=U r->r.length=l.length/\∀(i:Nat) (y:AV),r[i]?=U y->∃x,l[i]?=U x/\f x=U y
 |[],r,h=>by grind[HL]
 |a::l,r,h=>by
  simp only[HL]at h;split at h;rotate_left
  .cases h
  rename_i x m hx b;cases h;obtain⟨h1,h2⟩:=Sw b;grind
section
variable{ρ ρ':ZM}{w:World}{Im:Nat->Prop}{f:Nat->Option Nat}
theorem OS(p:∀b k β,f b=U k->ρ b=U β->ρ' k=U β){x y:AV}{v}(h:Zk ρ w Im x v)(c:nmL f x=U y):Zk ρ' w Im y v:=by
 unfold nmL at c;split at c;cases c;cases h with|d h=>exact .d h
 cases c;cases h with|rp e i j=>exact .rp e i j
 split at c;rename_i k l;cases c;obtain⟨g,s,n,e,rfl⟩:=NJ h;exact .pt (p _ _ _ l e);cases c;split at c;rename_i k l;cases c;cases h with|os e i j m q=>exact .os (p _ _ _ l e) i j m q
 cases c;split at c;rename_i k l;cases c;cases h with|ow e i j m=>exact .ow (p _ _ _ l e) i j m
 cases c;cases c
theorem Z4m(m:∀b k β,f b=U k->ρ b=U β->ρ' k=U β){x y:AV}{v}(h:Zk ρ w Im x v)(c:nmM f x=U y):Zk ρ' w Im y v:=by
 have agg:∀{l r:List AV} {v:Value},Zk ρ w Im (.ag l) v->HL (nmL f) l=U r->Zk ρ' w Im (.ag r) v:=λh d=>by(obtain⟨e,rfl,h1,g,h3⟩:=Hx h;obtain⟨k1,p⟩:=Sw d;refine .ag _ e oq g λi a u j n=>?_;grind[OS])
 unfold nmM at c;split at c;grind;split at c;rename_i r d;cases c;obtain⟨k1,p⟩:=Sw d;cases h with|fn hn h =>refine .fn oq λi a u j n=>?_;grind[OS]
 cases c;split at c;rename_i r d;cases c;cases h with|ic h=>exact .ic (agg h d)
 cases c;split at c;rename_i r d;cases c;cases h with|ic h=>exact .ic (OS m h d)
 cases c;grind[OS]
theorem Zl0(hf:∀b k β,f b=U k->ρ b=U β->ρ' k=U β){β}{B C:Z3}(h:RelB ρ w Im β B)(c:nmB f B=U C):RelB ρ' w Im β C:=by
 cases B with|box p cells =>simp only[nmB]at c;split at c;rotate_left;cases c;rename_i r n;cases c;obtain⟨k1,k2⟩:=Sw n;obtain⟨j,d,g,i,l,m,h3,e,h4⟩:=h;refine⟨by rw[j,k1],d,g,i,l,m,by omega,e,λo a v ha hv=>?_⟩;grind[Z4m]|arr p s els=>cases c;exact h|mp ks=>cases c;exact h|dead=>cases c
theorem Z1u{H}:∀{l:List Nat} {r:List Z3},preB f H l=U r->r.length=l.length/\∀(k:Nat) (C:Z3),r[k]?=U C->∃b B,l[k]?=U b/\H b=U B/\nmB f B=U C
 |[],r,h=>by grind[preB]
 |b::l,r,h=>by
  simp only[preB]at h;split at h;rotate_left
  .cases h
  rename_i B r' hB c;split at h;rotate_left
  .cases h
  rename_i C hd;cases h;obtain⟨h1,h2⟩:=Z1u c;grind
end
theorem Z4Z dst clk:∀(n k i:Nat),i<n->(Em dst clk k n)[i]?=U (Cf dst clk (k+i))
 |0,_,_,h=>by omega
 |n+1,k,0,_=>rfl
 |n+1,k,i+1,h=>by
  simp only[Em,List.getElem?_cons_succ];rw[Z4Z dst clk n (k+1) i oq,show k+1+i=k+(i+1)from by omega]
theorem Ou dst clk:∀(n k:Nat),(Em dst clk k n).length=n|0,_=>rfl|n+1,k=>by simp[Em,Ou dst clk n (k+1)]
theorem Z4Q{dst clk b:Nat}:∀{n k:Nat},b∈Em dst clk k n->∃i,Cf dst clk i=b
 |0,_,h=>by grind[Em]
 |n+1,k,h=>by
  simp only[Em,N]at h;rcases h with rfl|h
  .grind
  .exact Z4Q h
theorem Z7O{dst clk j:Nat}:∀{n k:Nat},j<k->Cf dst clk j∉Em dst clk k n
 |0,_,_,h=>by grind[Em]
 |n+1,k,hj,h=>by
  simp only[Em,N]at h;rcases h with h|h
  .grind[Zk7]
  .exact Z7O oq h
theorem Z4J{dst clk b:Nat}:∀{n k:Nat},b∈Em dst clk k n->clk*8000<=b
 |0,_,h=>by grind[Em]
 |n+1,k,h=>by
  simp only[Em,N]at h;rcases h with rfl|h
  .grind[Ag]
  .exact Z4J h
theorem O4{H H':Heap}:∀{l:List Nat},(∀b∈l,H b=H' b)->Ie H l=Ie H' l
 |[],_=>rfl
 |b::l,h=>by
  simp only[Ie];rw[h b pq,O4 (l:=l) (λy c=>h y (by simp[c]))]
theorem PC{H}:∀{l:List Nat},Ie H l=Y->∀b∈l,H b=X
 |[],_,b,hb=>by simp at hb
 |x::l,h,b,hb=>by
  simp only[Ie,W]at h;rcases N.1 hb with rfl|hb
  .grind
  .exact PC h.2 b hb
theorem Zhb{ids}{B:Z3}(h:GL ids B≠.dead):B≠.dead:=by rintro rfl;exact h rfl
section
variable{ρ ρ':ZM}{w:World}{Im Im':Nat->Prop}{ids:List Nat}
theorem O6(j:∀k β,ρ k=U β->ρ' (ids.getD k 0)=U β) :(∀b i o v,Zk ρ w Im (.pt b i o) v->Zk ρ' w Im' (Io ids (.pt b i o)) v)/\(∀b o n v,Zk ρ w Im (.os b o n) v->Zk ρ' w Im' (Io ids (.os b o n)) v)/\∀b v,Zk ρ w Im (.ow b) v->Zk ρ' w Im' (Io ids (.ow b)) v:=by
 refine⟨λb i o v h=>?_,λb o n v h=>?_,λb v h=>?_⟩;obtain⟨g,s,n,c,rfl⟩:=NJ h;exact .pt (j _ _ c);cases h with|os c d e f l=>exact .os (j _ _ c) d e f l
 cases h with|ow c d e f=>exact .ow (j _ _ c) d e f
theorem Z14(l:∀g,Im g->Im' g)(m:∀k β,ρ k=U β->ρ' (ids.getD k 0)=U β){β B}(h:RelB ρ w Im β B):RelB ρ' w Im' β (GL ids B):=by
 obtain⟨q1,q2,q3⟩:=O6 (w:=w) (Im:=Im) (Im':=Im') m;cases B with|box n cells =>obtain⟨e,b,g,d,f,i,j,c,h4⟩:=h;refine⟨by simpa using e,b,g,d,f,i,by simpa using j,c,λo x v hx hv=>?_⟩;grind[Me]|arr n s els=>exact RelB.arr_any (by rfl) h l|mp ks=>exact h|dead=>trivial
end
theorem Z3P{G:Option Bool}{c:Call}{f:Operand}{d k:Nat}{a8 as:List AV}{ls res}{pre post:List Z3}(ho:o.op=.call c)(hc:c.callee=.value f)(hd:o.dst=U d)(g2:∀g,G=U g->g=Y)(hf:Z2A (Ec G (ev tmps) f) c.args.toList=U (k,a8)){av:Operand->AV}(g4:∀(a:Act) (w:World) (ρ:ZM) (Im:Nat->Prop),Inv Ow Im0 w0 ρ w Im H clk->∀y,Zk ρ w Im (Ec G (ev tmps) y) (a.eval y)->Zk ρ w Im (av y) (a.eval y))(g3:HL (nmM λb=>E5 b ls 0) (c.args.toList.map av++a8)=U as)(f8:preB (λb=>E5 b ls 0) H ls=U pre)(f6:(SH P k&&nodupB (Gl d clk ls post)&&Lg ls.length post.length&&Lg (post.length-ls.length) 7&&Ie H (Em d clk 0 (post.length-ls.length)))=Y) :HW P Ow Im0 w0 clk o G H tmps ((⟨U (d,IK (Io (Gl d clk ls post)) res),(Gl d clk ls post).zip (post.map (GL (Gl d clk ls post))),[BorSpec P k as pre res post],Hq G (ev tmps) (f::c.args.toList)⟩:Core).out tmps H):=by
 intro a w ρ Im next Q I T f7 d9 hn
 simp only[W]at f6;obtain⟨⟨⟨⟨d0,b1⟩,c9⟩,_⟩,a7⟩:=f6;have b1:=Mh b1;have c9:=Lr c9;have a7:=PC a7;obtain⟨p1,p2⟩:=Z1u f8;obtain⟨a1,a2⟩:=Sw g3;refine⟨λhG=>?_,λhG=>by obtain⟨g,h1,z⟩:=hG;have:=g2 g h1;rw[this]at z;cases z⟩;have d6:BorSpec P k as pre res post:=by simpa[B9,Core.out]using f7
 have b6:=AE (l:=f::c.args.toList) (x:=f) pq d9 hG (Ed T f);generalize f0:a.eval f=fv at b6;obtain⟨V,d4,d5,d8⟩:∃V:Array Value,(∀w,(execOp a.eval o).run P w=.ok (.enter k V) w)/\V.size=((c.args.toList.map av)++a8).length/\∀(i:Nat) (x:AV) (v:Value),((c.args.toList.map av)++a8)[i]?=U x->V[i]?=U v->Zk ρ w Im x v:=by
  unfold Z2A at hf;split at hf;rename_i k' g1 e;cases hf;rw[e]at b6;cases b6 with
  |fn g6 g7 =>
   rename_i cs;refine⟨c.args.map a.eval++cs,λw=>?_,by simp[g6],λi x v hx hv=>?_⟩;have:=Ns (P:=P) d0 (c.args.map a.eval++cs) w;simp[execOp,ho,resolve,hc,f0,Lx,invoke,this];rw[Lt]at hx;rw[LH]at hv;simp only[LA,LU,LV]at hx hv;split at hx;rename_i hi;rw[if_pos hi]at hv;simp only[Lz,Le,LS]at hx hv;obtain⟨y,hy,rfl⟩:=hx;obtain⟨y',g0,rfl⟩:=hv;have:y=y':=by(rw[Array.getElem?_toList]at hy;rw[hy]at g0;cases g0;rfl)
   subst this;exact g4 a w ρ Im I y (AE (Lb _ (L hy)) d9 hG (Ed T y));rename_i hi;rw[if_neg hi]at hv;exact g7 _ x v hx hv
  rename_i k' a' e he;cases hf;rw[e]at b6;have hz:c.args=#[]:=by simpa using he
  cases b6 with
  |fm hr =>
   rename_i u;refine⟨#[u],λw=>?_,by simp[hz],λi x v hx hv=>?_⟩;have:=Ns (P:=P) d0 #[u] w;simp[execOp,ho,resolve,hc,f0,hz,Lx,invoke,this];rw[hz]at hx;cases i with|zero=>simp at hx hv;subst hx;subst hv;exact hr|succ i=>simp at hv
  cases hf
 have f2:ls.Nodup:=(Xa.1 b1).1;let ρc:ZM:=λk=>match ls[k]? with|U b=>ρ b|X=>X
 have c5:∀k β,ρc k=U β->∃b,ls[k]?=U b/\ρ b=U β:=by(intro k β hk;simp only[ρc]at hk;split at hk;exact⟨_,aa,hk⟩;cases hk)
 have c0:∀(k b:Nat),ls[k]?=U b->ρc k=ρ b:=by intro k b h;simp only[ρc,h]
 have f4:∀b k β,E5 b ls 0=U k->ρ b=U β->ρc k=U β:=by(intro b k β hk s;obtain⟨_,p⟩:=IR hk;rw[c0 k b (by simpa using p)];exact s)
 have b4:∀(k b:Nat),ls[k]?=U b->∃B C β,pre[k]?=U C/\H b=U B/\nmB (λb=>E5 b ls 0) B=U C/\ρ b=U β/\RelB ρ w Im β B:=by
  intro k b hk;have f1:k<pre.length:=by rw[p1];exact(Lq.1 hk).1
  obtain⟨b',B,m,p,q3⟩:=p2 k _ (Lp f1);rw[hk]at m;cases m;obtain⟨β,q4,q5⟩:=I.blk b _ p;exact⟨_,_,β,Lp f1,p,q3,q4,q5⟩
 have a3:∀(k b:Nat),ls[k]?=U b->live H b:=by(intro k b hk;obtain⟨B,C,β,_,p,q3,_⟩:=b4 k b hk;exact⟨B,p,by rintro rfl;simp[nmB]at q3⟩)
 have d1:=d6 w Im ρc V I.imb (by rw[d5,a1]) (λk β hk=>by
  obtain⟨b,m,_⟩:=c5 k β hk;rw[p1];exact(Lq.1 m).1) (λb b' β β' g h1 z h3 h4=>by
  obtain⟨c1,m,p⟩:=c5 b β h1;obtain⟨c2,r1,r2⟩:=c5 b' β' z;have:=I.inj c1 c2 β β' g (a3 _ _ m) (a3 _ _ r1) p r2 h3 h4;subst this;exact Ad f2 m r1) (λb β g h1 z=>by
  obtain⟨c1,m,p⟩:=c5 b β h1;exact⟨I.bnd c1 β g p z,I.notIm c1 β g (a3 _ _ m) p z⟩) (λk C hC=>by
  obtain⟨b,B,m,p,q3⟩:=p2 k C hC;obtain⟨β,q4,q5⟩:=I.blk b B p;exact⟨β,by rw[c0 k b m];exact q4,Zl0 f4 q5 q3⟩) (λi y v hy hv=>by
  obtain⟨x,hx,hr⟩:=a2 i y hy;exact Z4m f4 (d8 i x v hx hv) hr)
 have f9:=d4 w;simp only[Lm,f9,LP];refine d1.mono λe w' he=>?_;obtain⟨v,rfl,K,ρ',c6,s1,s2,r1,r2,s3,s4,s5,r3,r4⟩:=he;have a6:∀g,OwA (GZ ρc) g->∃(j b:Nat) (β:Bi),ls[j]?=U b/\ρ b=U β/\β.g=U g:=by(rintro g ⟨j,β,h1,z⟩;obtain⟨b,m,p⟩:=c5 j β h1;exact⟨j,b,β,m,p,z⟩)
 have f3:∀g,Im g->¬ OwA (GZ ρc) g:=by(intro g hg h;obtain⟨j,b,β,m,p,q3⟩:=a6 g h;exact I.notIm b β g (a3 _ _ m) p q3 hg)
 have c8:Ext Im w w':=⟨K.size,λg hg=>K.block g (I.imb g hg) (f3 g hg),λg hg=>K.rows g hg⟩;generalize b9:Gl d clk ls post=ids at b1 hn f7;have b7:ids.length=post.length:=by(rw[<-b9,Gl,LM,Ou];omega)
 have b8:∀(j b:Nat),ids[j]?=U b->ls[j]?=U b\/(ls.length<=j/\clk*8000<=b/\H b=X):=by(intro j b s;rw[<-b9,Gl,Lt]at s;split at s;exact .inl s;have hm:=L s;exact .inr ⟨by omega,Z4J hm,a7 b hm⟩)
 have d2:∀(j b:Nat),ls[j]?=U b->ids[j]?=U b:=by(intro j b s;rw[<-b9,Gl,Lt,if_pos (Lq.1 s).1];exact s)
 have a4:∀b,b∈ids->∃j:Nat,ids[j]?=U b:=λb s=>LL s;let ρ2:ZM:=λb=>match E5 b ids 0 with|U j=>ρ' j|X=>ρ b
 have r:∀(j b:Nat),ids[j]?=U b->ρ2 b=ρ' j:=by
  intro j b s;simp only[ρ2];cases hx:E5 b ids 0 with|none=>exact absurd (L s) (Ds hx)|some k2 =>obtain⟨_,q⟩:=IR hx;rw[Ad b1 s (by simpa using q)]
 have n:∀b,b∉ids->ρ2 b=ρ b:=by
  intro b s;simp only[ρ2];cases hx:E5 b ids 0 with|none=>rfl|some k2 =>obtain⟨_,q⟩:=IR hx;exact absurd (L q) s
 have b0:∀b β,ρ b=U β->ρ2 b=U β:=by(intro b β s;by_cases hm:b∈ids;obtain⟨j,t⟩:=a4 b hm;rw[r j b t];rcases b8 j b t with h|⟨_,h1,z⟩;exact s1 j β (by rw[c0 j b h];exact s);rw[I.fresh b h1 z]at s;cases s;rw[n b hm];exact s)
 have c7:=λb=>Z3A (ls:=ids) (post:=post.map (GL ids)) (H:=H) b1 (by simp[b7]) b;have d7:∀b B,BQ (ids.zip (post.map (GL ids))) H b=U B->(∃(j:Nat) (C:Z3),ids[j]?=U b/\post[j]?=U C/\B=GL ids C)\/(b∉ids/\H b=U B):=by(intro b B hB;by_cases s:b∈ids;obtain⟨j,t⟩:=a4 b s;obtain⟨C,c1,c2⟩:=(c7 b).1 j t;rw[c2]at hB;cases hB;simp only[Lz,Le]at c1;obtain⟨C',c3,c4⟩:=c1;exact .inl ⟨j,C',t,c3,c4.symm⟩;rw[(c7 b).2 s]at hB;exact .inr ⟨s,hB⟩)
 have a5:∀b,live (BQ (ids.zip (post.map (GL ids))) H) b->(∃j:Nat,ids[j]?=U b/\live (hL post) j)\/(b∉ids/\live H b):=by(rintro b ⟨B,h1,z⟩;rcases d7 b B h1 with⟨j,C,m,p,rfl⟩|⟨m,p⟩;exact .inl ⟨j,m,C,p,Zhb z⟩;exact .inr ⟨m,B,p,z⟩)
 have a9:∀b β g,b∉ids->live H b->ρ b=U β->β.g=U g->¬ (w.heap.size<=g\/OwA (GZ ρc) g):=by(rintro b β g s hl h1 z (h|h);have:=I.bnd b β g h1 z;omega;obtain⟨j,b2,β2,m,p,q3⟩:=a6 g h;have:=I.inj b b2 β β2 g hl (a3 _ _ m) h1 p z q3;subst this;exact s (L (d2 _ _ m)))
 have g5:=I.one.1;rw[hd];refine hn _ _ ⟨ρ2,λg=>Im g\/c6 g,⟨⟨K.os.trans I.kept.os,K.tape.trans I.kept.tape,K.output.trans I.kept.output,Lh I.kept.size K.size,λj hk f5=>?_,λj hk=>?_⟩,
  λb b' β β' g l1 l2 h1 z h3 h4=>?_,λb β g l m p a0=>?_,λb β g m p=>?_,λb β g m p=>?_,λg hg=>?_,λg hg=>?_,λb B hB=>?_,λb s hB=>?_,g5,λb β s hβ=>?_⟩,
  (T.mono c8 (λ_ h=>.inl h) b0 I.bnd).put d ?_⟩
 rw[K.block j (F hk I.kept.size) (λh=>?_)];exact I.kept.block j hk f5;obtain⟨_,b,β,_,m2,m3⟩:=a6 j h;rcases I.own b β j m2 m3 with⟨h,_⟩|h;omega;exact f5 h;rw[K.rows j (F hk I.kept.size)];exact I.kept.rows j hk;rcases a5 b l1 with⟨k1,m1,m2⟩|⟨m1,m2⟩<;>rcases a5 b' l2 with⟨k2,n1,n2⟩|⟨n1,n2⟩;rw[r _ _ m1]at h1;rw[r _ _ n1]at z;have:=s5 k1 k2 β β' g m2 n2 h1 z h3 h4;subst this;rw[m1]at n1;cases n1;rfl;rw[r _ _ m1]at h1;rw[n _ n1]at z;exact absurd (s3 k1 β g h1 h3).2 (a9 b' β' g n1 n2 z h4);rw[n _ m1]at h1;rw[r _ _ n1]at z;exact absurd (s3 k2 β' g z h4).2 (a9 b β g m1 m2 h1 h3);rw[n _ m1]at h1;rw[n _ n1]at z;exact I.inj b b' β β' g m2 n2 h1 z h3 h4;rcases a5 b l with⟨k1,m1,m2⟩|⟨m1,m2⟩;rw[r _ _ m1]at m;rcases a0 with a0|a0;rcases(s3 k1 β g m p).2 with h|h;have:=I.imb g a0;omega;exact f3 g a0 h;exact s4 k1 β g m2 m p a0;rw[n _ m1]at m;rcases a0 with a0|a0;exact I.notIm b β g m2 m p a0;rcases r1 g a0 with h|h;exact I.notIm b β g m2 m p h;exact a9 b β g m1 m2 m p h;by_cases hm:b∈ids;obtain⟨j,t⟩:=a4 b hm;rw[r j b t]at m;exact(s3 j β g m p).1;rw[n b hm]at m;exact F (I.bnd b β g m p) K.size;by_cases hm:b∈ids;obtain⟨j,t⟩:=a4 b hm;rw[r j b t]at m;rcases b8 j b t with h|⟨_,h8,_⟩;obtain⟨B,C,β2,_,_,_,n1,_⟩:=b4 j b h;have e:=s1 j β2 (by rw[c0 j b h];exact n1);rw[m]at e;cases e;exact I.own b β g n1 p;rcases(s3 j β g m p).2 with h|h;exact .inl ⟨Lh I.kept.size h,by omega⟩;obtain⟨_,b2,β2,_,m2,m3⟩:=a6 g h;exact(I.own b2 β2 g m2 m3).imp (λh=>⟨h.1,by omega⟩) (λh=>h);rw[n b hm]at m;exact I.own b β g m p;rcases hg with hg|hg;exact F (I.imb g hg) K.size;exact r2 g hg;rcases hg with hg|hg;exact I.im0 g hg;rcases r1 g hg with h|h|h;exact I.im0 g h;exact .inr (.inl (Lh I.kept.size h));obtain⟨_,b2,β2,_,m2,m3⟩:=a6 g h;exact(I.own b2 β2 g m2 m3).elim (λh=>.inr (.inl h.1)) (λh=>.inr (.inr h));rcases d7 b B hB with⟨j,C,m,p,rfl⟩|⟨m,p⟩;obtain⟨β,m1,m2⟩:=r3 j C p;refine⟨β,by rw[r j b m];exact m1,Z14 (λ_ h=>.inr h) (λk3 β3 h3=>?_) m2⟩;have d3:k3<ids.length:=by rw[b7];exact s2 k3 β3 h3
 have e:=Lp d3;rw[L1,e];show ρ2 ids[k3]=U β3;rw[r k3 _ e];exact h3;obtain⟨β,m1,m2⟩:=I.blk b B p;by_cases b5:B=.dead;subst b5;exact⟨β,b0 b β m1,trivial⟩;refine⟨β,b0 b β m1,m2.mono c8 (λ_ h=>.inl h) b0 I.bnd (λg hg=>K.block g (I.bnd b β g m1 hg) λh=>?_)⟩;exact a9 b β g m ⟨B,p,b5⟩ m1 hg (.inr h);by_cases hm:b∈ids;obtain⟨j,t⟩:=a4 b hm;obtain⟨C,_,c2⟩:=(c7 b).1 j t;have b3:BQ (ids.zip (post.map (GL ids))) H b=X:=hB;rw[c2]at b3;cases b3;have b3:BQ (ids.zip (post.map (GL ids))) H b=X:=hB;rw[(c7 b).2 hm]at b3;rw[n b hm];exact I.fresh b s b3;by_cases hm:b∈ids;obtain⟨j,t⟩:=a4 b hm;rw[r j b t]at hβ;rcases b8 j b t with h|⟨_,h8,_⟩;obtain⟨B,C,β2,_,_,_,n1,_⟩:=b4 j b h;have e:=s1 j β2 (by rw[c0 j b h];exact n1);rw[hβ]at e;cases e;exact I.one.2 b β s n1;omega;rw[n b hm]at hβ;exact I.one.2 b β s hβ;have hr:∀k3 β3,ρ' k3=U β3->ρ2 (ids.getD k3 0)=U β3:=by
  intro k3 β3 h3;have d3:k3<ids.length:=by rw[b7];exact s2 k3 β3 h3
  have e:=Lp d3;rw[L1,e];show ρ2 ids[k3]=U β3;rw[r k3 _ e];exact h3
 obtain⟨m,p,q3⟩:=O6 (w:=w') (Im:=c6) (Im':=λg=>Im g\/c6 g) hr;exact MS (λ_ h=>.inr h) m p q3 r4
theorem P2{ls}{x y:AV}(h:nmL (λb=>E5 b ls 0) x=U y):N4 (Io ls) y=x:=by
 have c:∀b k,E5 b ls 0=U k->ls.getD k 0=b:=λb k e=>by(obtain⟨_,q⟩:=IR e;grind)
 unfold nmL at h;grind[N4,Io]
theorem MD{g:AV->Option AV}{f:AV->AV}(h:∀x y,g x=U y->f y=x):∀{l r:List AV},HL g l=U r->r.map f=l
 |[],r,e=>by grind[HL]
 |a::l,r,e=>by
  simp only[HL]at e;split at e
  .rename_i x r' b c;cases e;rw[Lf,h _ _ b,MD h c]
  .cases e
theorem Zi1{f}{y:AV}(h:∀l,y≠.ag l)(b:∀g l,y≠.fn g l)(c:∀t z,y≠.ic t z)(d:∀t z,y≠.fm t z):HX f y=N4 f y:=by cases y<;>first|rfl|(exact absurd rfl (d _ _))|(exact absurd rfl (h _))|(exact absurd rfl (b _ _))|(exact absurd rfl (c _ _))
theorem Z8e{g}{x y:AV}(h:nmL g x=U y):(∀l,y≠.ag l)/\(∀k l,y≠.fn k l)/\(∀t z,y≠.ic t z)/\∀t z,y≠.fm t z:=by unfold nmL at h;grind
theorem Ze7{ls}{x y:AV}(h:nmM (λb=>E5 b ls 0) x=U y):HX (Io ls) y=x:=by
 have leaf:∀{x y:AV},nmL (λb=>E5 b ls 0) x=U y->HX (Io ls) y=x:=λ{x y} h=>by(grind[Z8e,Zi1,P2])
 unfold nmM at h;split at h;grind[HX,MD,P2];grind[HX,MD,P2];grind[HX,MD,P2];split at h;rename_i r e;cases h;have q:=P2 e;obtain⟨c,_⟩:=Z8e e;cases r<;>first|(exact absurd rfl (c _))|(simp only[HX];rw[q])
 cases h;grind
theorem ZeF{ls}{B C:Z3}(h:nmB (λb=>E5 b ls 0) B=U C):GL ls C=B:=by unfold nmB at h;grind[GL,MD,Ze7]
theorem Z5R{H:Heap}:∀{us:List (Nat×Z3)},(∀p∈us,H p.1=U p.2)->BQ us H=H
 |[],_=>rfl
 |(b,B)::us,h=>by
  have e:Bm H b B=H:=by
   funext x
   unfold Bm;split
   .simp_all
   .rfl
  simp only[BQ,e];exact Z5R λp c=>h p (Lb _ c)
theorem Zcd{gid:Nat}{x:Nat×Nat}{b:Operand->AV}{H:Heap}{clk}(i:H gid=U (.arr x.1 x.2 [])){Ow Im0 w0}(a:Act) w ρ Im(I:Inv Ow Im0 w0 ρ w Im H clk)(y:Operand)(h:Zk ρ w Im (b y) (a.eval y)):Zk ρ w Im (ghV gid b (U x) y) (a.eval y):=by unfold ghV;split;exact h;obtain⟨⟨g,s,n⟩,e,f⟩:=I.blk _ _ i;obtain⟨_,d,_⟩:=f;simp only[L7]at d;subst d;exact Zk.ow (c:=0) (a:=X) e (Lv _) (by simp[big]) (.inl rfl);exact h
theorem ZiE{G:Option Bool}{c:Call}{f:Operand}{out:Core}(ho:o.op=.call c)(hc:c.callee=.value f)(h:MK P clk hints o f c.args.toList G tmps H=U out):HW P Ow Im0 w0 clk o G H tmps (out.out tmps H):=by
 unfold MK at h;split at h
 .cases h
 rename_i d hd;split at h
 .-- passed over
  rename_i hg;split at h;rotate_left
  .cases h
  cases h;intro a w ρ Im next Q I T a7 a4 hn
  refine⟨λhG=>?_,λhG=>?_⟩
  .cases G with
   |none=>cases hg
   |some g=>have:=hG g rfl;simp[this]at hg
  .rw[hd];exact hn _ _ (Dh I T hG d _)
 rename_i hg;have a1:∀g,G=U g->g=Y:=by
  intro g e;subst e;exact hg
 split at h;rotate_left
 .cases h
 rename_i k b1 hf;split at h;rotate_left
 .cases h
 rename_i gh t a0 v _;split at h;rotate_left
 .cases h
 rename_i as a3 y m;cases v with
 |nil =>
  simp only at h;split at h;rotate_left
  .cases h
  rename_i l;cases h;simp only[W]at l;obtain⟨l,a8⟩:=l;cases gh with
  |some x=>cases a8
  |none =>
  simp only[ghV,ghH]at y m;obtain⟨p1,p2⟩:=Z1u m;have e0:Gl d clk t a3=t:=by simp[Gl,p1,Em]
  have g:=Z3P (Ow:=Ow) (Im0:=Im0) (w0:=w0) (res:=a0) (post:=a3) ho hc hd a1 hf (λ_ _ _ _ _ _ h=>h) y m (by rw[e0,p1,Nat.sub_self,l.1,l.2,Nat.ble_eq_true_of_le (Lv t.length)];rfl);rw[e0]at g;have e1:BQ (t.zip (a3.map (GL t))) H=H:=Z5R λp hp=>by
   obtain⟨i,hi⟩:=L9.1 hp;rw[L4]at hi;obtain⟨h1,h2⟩:=hi;simp only[Lz,Le]at h2;obtain⟨C,h2,h3⟩:=h2;obtain⟨b,B,q1,q2,q3⟩:=p2 i C h2;rw[h1]at q1;cases q1;rw[q2,<-h3,ZeF q3]
  simp only[Core.out,e1]at g⊢;exact g
 |cons u j =>
  simp only at h;split at h;rotate_left
  .cases h
  rename_i l;cases h;rw[W]at l;obtain⟨l,a6⟩:=l;cases gh with
  |none =>
   simp only[ghV,ghH]at y m;exact Z3P ho hc hd a1 hf (λ_ _ _ _ _ _ h=>h) y m l
  |some x =>
   simp only[MQ,Ie,W,Bool.and_true]at a6;obtain⟨g1,g2⟩:=a6;have z:H (Cf d clk 6)=X:=by
    cases hx:H (Cf d clk 6)with
    |none=>rfl
    |some B=>rw[hx]at g1;cases g1
   obtain⟨ty,s⟩:=x;simp only[ghH]at m;have a9:Cf d clk 6∈Gl d clk t (u::j):=by
    unfold Gl;refine List.mem_append_left _ ?_;cases hi:E5 (Cf d clk 6) t 0 with
    |none=>rw[hi]at g2;cases g2
    |some n=>exact L (IR hi).2
   have r:=l;simp only[W]at r;have a2:=Mh r.1.1.1.2;have a5:(Gl d clk t (u::j)).length=(u::j).length:=by
    have:=Lr r.1.1.2;rw[Gl,LM,Ou];omega
   have b0:Ie (Bm H (Cf d clk 6) (.arr ty s [])) (Em d clk 0 ((u::j).length-t.length))=Y:=by
    have h1:=PC r.2;have h2:∀b∈Em d clk 0 ((u::j).length-t.length),b≠Cf d clk 6:=by
     intro b hb e;subst e;cases hi:E5 (Cf d clk 6) t 0 with
     |none=>rw[hi]at g2;cases g2
     |some n=>exact(Xa.1 a2).2.2 _ (L (IR hi).2) _ hb rfl
    rw[<-r.2];exact O4 λb hb=>by unfold Bm;rw[if_neg (h2 b hb)]
   have g:=Z3P (Ow:=Ow) (Im0:=Im0) (w0:=w0) (H:=Bm H (Cf d clk 6) (.arr ty s [])) (res:=a0) ho hc hd a1 hf (Zcd (by simp[Bm])) y m (by
    simp only[W];exact⟨r.1,b0⟩)
   have e:BQ ((Gl d clk t (u::j)).zip ((u::j).map (GL (Gl d clk t (u::j))))) (Bm H (Cf d clk 6) (.arr ty s []))=BQ ((Gl d clk t (u::j)).zip ((u::j).map (GL (Gl d clk t (u::j))))) H:=by
    funext b
    have z1:=Z3A (post:=(u::j).map (GL (Gl d clk t (u::j)))) (H:=Bm H (Cf d clk 6) (.arr ty s [])) a2 (by rw[LA,a5]) b;have z2:=Z3A (post:=(u::j).map (GL (Gl d clk t (u::j)))) (H:=H) a2 (by rw[LA,a5]) b;by_cases hb:b∈Gl d clk t (u::j)
    .obtain⟨n,hn⟩:=LL hb;obtain⟨C,c1,c2⟩:=z1.1 n hn;obtain⟨C',c3,c4⟩:=z2.1 n hn;rw[c2,c4];rw[c1]at c3;exact c3
    .rw[z1.2 hb,z2.2 hb];unfold Bm;rw[if_neg (λq:b=Cf d clk 6=>hb (by rw[q];exact a9))]
   intro a w ρ Im next Q I T a7 a4 hn
   refine g a w _ Im next Q (Oa I (Ag d clk 6) z) (T.mono (Ext.refl _ _) (λ_ h=>h) (Hj (I.fresh _ (Ag d clk 6) z)) I.bnd) a7 a4 ?_
   simp only[Core.out,e]at hn⊢;exact hn
theorem Ziz{c:Call}{out:Core}(ho:o.op=.call c)(hc:c.callee=.builtin .append)(h:MM P clk hints o c tmps H=U out):HW P Ow Im0 w0 clk o X H tmps (out.out tmps H):=by
 intro a w ρ g next Q I T f k l
 unfold MM at h;split at h;cases h;rename_i d j;split at h;rotate_left;cases h;rename_i x y t q h1 h2;split at h;cases h;rename_i i;split at h;rotate_left;cases h;rename_i b r m;cases h;refine⟨λ_=>?_,λhG=>by grind⟩;have e:o.op=.call ⟨.builtin .append,#[x,y],#[t,q]⟩:=by grind[Md]
 obtain⟨v,w',ρ',k1,k2,n,p⟩:=Zkr e m I T oq i (Ed T x) (Ed T y) f;simp only[Lm,k1,LF];rw[j];exact l _ _ ⟨ρ',g,by show Inv _ _ _ _ _ _ (BQ r.ups (Bm H b .dead)) _;grind[Be.applyU],n.put d p⟩
theorem Zc5{l m:List (Nat×Z3)}:∀{H:Heap},BQ (l++m) H=BQ m (BQ l H):=by
 induction l with|nil=>intro H;rfl|cons x l c=>intro H;obtain⟨b,B⟩:=x;exact c
theorem Z58{d clk b:Nat}:∀{l:List (Nat×Nat×Nat)} {j:Nat} {H:Heap},b∉Em d clk j l.length->BQ (ghU d clk j l) H b=H b
 |[],_,_,_=>rfl
 |x::l,j,H,h=>by
  simp only[L5,Em,N,not_or]at h;simp only[ghU,BQ];rw[Z58 h.2];grind[Bm]
theorem Z5J{d Im}:∀{l:List (Nat×Nat×Nat)} {j:Nat} {ρ:ZM} {H:Heap},Inv Ow Im0 w0 ρ w Im H clk->(∀b∈Em d clk j l.length,H b=X) ->
  ∃ρ',Inv Ow Im0 w0 ρ' w Im (BQ (ghU d clk j l) H) clk/\(∀b β,ρ b=U β->ρ' b=U β)/\∀i g,ghN d clk j l i=U g->∃s,ρ' g=U ⟨X,s,0⟩
 |[],_,ρ,_,I,_=>⟨ρ,I,λ_ _ h=>h,λi g h=>by simp[ghN]at h⟩
 |x::l,j,ρ,H,I,h=>by
  have c:=h (Cf d clk j) (by simp[Em]);have J:=Oa (ty:=x.1) (s:=x.2.1) I (Ag d clk j) c;obtain⟨ρ',K,s1,s2⟩:=Z5J (d:=d) (l:=l) (j:=j+1) J (λb e=>by
   grind[Bm,Z7O,Em])
  have sub:=Hj (β:=⟨X,x.2.1,0⟩) (I.fresh _ (Ag d clk j) c);refine⟨ρ',K,λb β e=>s1 b β (sub b β e),λi g hg=>?_⟩;grind[ghN,I9]
theorem ZhF{l}{t:Nat}{G}{out:Core}(ho:o.op=.alloc t)(h:MA P clk o l t G H=U out):HW P Ow Im0 w0 clk o G H tmps (out.out tmps H):=by
 intro a w ρ v next Q I T a2 a0 hn
 unfold MA at h;split at h;rotate_left;cases h;rename_i d hd;split at h;rotate_left;cases h;rename_i k hH x n;split at h;rotate_left;cases h;rename_i j;cases h;simp only[W]at x;refine⟨λ_=>?_,λhG=>by grind⟩;obtain⟨ρ1,J,m,p⟩:=Z5J I (PC x.1);simp only[M2,La]at j;have h1:∀(i:Nat) (u:Value),k[i]?=U u->u.oneCell'=Y:=λi u y=>j u (by grind);obtain⟨c1,c2⟩:=Z1r (f:=ghN d clk 0 l) (l:=k.toList) (i:=0);have R:Zk ρ1 w v (.ag (ghC (ghN d clk 0 l) 0 k.toList)) (.agg k):=by(refine .ag _ _ (by simp[c1]) h1 λi a u ha y=>?_;rcases c2 i a u ha (by simpa using y)with rfl|⟨g,e,rfl,rfl⟩;grind[Z0p];obtain⟨s,hs⟩:=p _ _ e;exact Zk.ow (c:=0) (a:=X) hs (Lv _) (by simp[big]) (.inl rfl))
 have a1:clk*8000+d∉Em d clk 0 l.length:=λq=>by(grind[Z4Q,Cf])
 obtain⟨ρ',z,he,r,hv⟩:=EY.box (ty:=t) J (id:=clk*8000+d) oq (by grind[Z58]) R rfl;have hx:(execOp a.eval o).run P w=.ok (.value (.pointer (U ⟨w.heap.size,0,X⟩))) (w.alloc (.cells k t)):=by(unfold zeroOf at n;split at n;rename_i i hi;simp[execOp,ho,Instr.alloc,zeroValue,typeInfo,hi,n,newVar,newRow,Value.cells];cases n)
 simp only[Lm,hx,LF];rw[hd];exact hn _ _ ⟨ρ',v,by show Inv _ _ _ _ _ _ (BQ (_++_) H) _;rw[Zc5];exact z,(T.mono he (λ_ h=>h) (λb β hb=>r b β (m b β hb)) I.bnd).put d hv⟩
theorem Z2Z{ops}(h:AC P clk ops hints o tmps H=U out)(e:Sys Ow Im0 w0 tmps H clk a w)(j:B9 out.ph)(f:EJ out.eq)(hn:∀d w',Sys Ow Im0 w0 out.tmps out.H clk d w'->next d w') :(Lk o (yielded ops a.tmps)=Y->o.wp P a w next Q)/\(Lk o (yielded ops a.tmps)=Z->next (a.put o.dst undef) w):=by
 obtain⟨ρ,Im,I,T⟩:=e;unfold AC at h;split at h;rotate_left;cases h;rename_i c b;cases h;unfold Ng at b;split at b;cases b;rename_i G hG;have g:HW P Ow Im0 w0 clk o G H tmps (c.out tmps H):=by
  revert b;intro h;split at h;grind[ZlP];grind[ZhF,Z3u];rename_i c i;split at h;grind[ZeH,ZiE,ZjP]
  .split at h;all_goals grind[Ziz]
  exact Z3u h;exact Z3u h
 grind[Zgu]
end
def G3:AV->List Nat|.pt b _ _=>[b]|.os b _ _=>[b]|.ow b=>[b]|_=>[]
def G8:AV->List Nat|.ag l=>l.flatMap G3|.fn _ l=>l.flatMap G3|.ic _ a=>G3 a|.fm _ a=>G3 a|a=>G3 a
def Ez:AV->List Nat|.fn _ l=>l.flatMap G8|a=>G8 a
def Zkq{x}{b:Nat}(h:b∈G3 x):b∈G8 x:=by cases x<;>first|exact h|simp[G3]at h
def Z9t{x}{b:Nat}(h:b∈G8 x):b∈Ez x:=by
 cases x with|fn f l =>obtain⟨y,c,a⟩:=Lc.1 h;exact Lc.2 ⟨y,c,Zkq a⟩|_=>exact h
def idV:AV->List Nat|.gd _ a=>Ez a|a=>Ez a
def Z3M:Operand->List Nat|.tmp t=>[t]|_=>[]
def No(ops:Array Oper)(o:Oper):List Nat:=o.op.operands.toList.flatMap Z3M++(match o.guard with|X=>[]|U (j,_)=>match ops[j]? with|U a=>(match a.dst with|U t=>[t]|X=>[])|X=>[])
def Z04(tmps:List AV)(o:Oper):List Nat:=match o.op with|.move _=>[]|_=>o.op.operands.toList.flatMap λx=>idV (ev tmps x)
def Db(hints:List (Nat×List Hint))(tmps:List AV)(o:Oper):List Nat:=Z04 tmps o++Z1n hints o
def Z3V tmps{o:Oper}(h:∀x,o.op≠.move x):Z04 tmps o=o.op.operands.toList.flatMap λx=>idV (ev tmps x):=by grind[Z04]
def II(clk:Nat)(o:Oper):List Nat:=match o.dst with|some d=>(clk*8000+d)::(LD 7).map λk=>Cf d clk k|none=>[clk*8000+7999]
def Zdu G R x:∀b,b∈Ez (Ec G R x)->b∈idV (R x):=by
 intro b c;cases G with
 |none =>
  simp only[Ec]at c;cases h:R x with|gd g a=>grind[Ez,G8,G3]|_=>rw[h]at c;exact c
 |some g =>
  simp only[Ec]at c;cases h:R x with|gd g' a=>rw[h]at c;exact c|_=>rw[h]at c;exact c
section
variable{P:Program}{H H':Heap}
theorem Z34{x}(h:∀b∈Ez x,H b=H' b):EX H x=EX H' x:=by
 cases x with
 |ow b=>grind[EX,Ez,G8,G3]
 |os b o n=>grind[EX,Ez,G8,G3]
 |d x =>
  cases x with|sl=>rfl|sc v=>unfold EX;grind
 |_=>rfl
theorem Zfo{o:Oper}{id hs}{E:Operand->AV}(h:∀x∈o.op.operands.toList,∀b∈Ez (E x),H b=H' b):act P o id hs E H=act P o id hs E H':=by
 unfold act;cases hop:o.op with
 |load t x =>have a:=h x (by grind[O]);simp only[Dg];grind[Ez,G8,G3]
 |store t x y =>have a:=h x (by grind[O]);dsimp only;split;rfl;simp only[O1];cases hE:E x<;>grind[Ez,G8,G3]
 |slice t x lo hi mx =>have a:=h x (by grind[O]);simp only[Z07];cases hE:E x<;>grind[Ez,G8,G3]
 |indexAddr t x y =>
  have a:=h x (by grind[O]);simp only[Z0G];cases hE:E x with|ow b=>grind[Ez,G8,G3]|os b o n=>grind[Ez,G8,G3]|d x=>cases x<;>rfl|_=>rfl
 |lookup t x y ok =>have a:=h x (by grind[O]);simp only[Z0u];grind[Ez,G8,G3]
 |mapUpdate t x y z =>have a:=h x (by grind[O]);simp only[Z0Q];grind[Ez,G8,G3]
 |call c =>
  have f:∀x∈c.args.toList,∀b∈Ez (E x),H b=H' b:=λx a=>h x (by grind[O,Ln]);dsimp only;split;split;rename_i x t e g;have a:=f x (by rw[e];simp);simp only[Oi];grind[Ez,G8,G3];rfl;split;rename_i x y t t' e g;have a:=f x (by rw[e];simp);have i:=f y (by rw[e];simp);simp only[O2];rw[Z34 i];cases hE:E x with|ow b=>simp only;rw[a b (by grind[Ez,G8,G3])]|os b o n=>simp only;rw[a b (by grind[Ez,G8,G3])]|_=>rfl
  rfl;split;rename_i x t e g;have a:=f x (by rw[e];simp);simp only[Z0F];cases hE:E x with|ow b=>simp only;rw[a b (by grind[Ez,G8,G3])]|os b o n=>simp only;rw[a b (by grind[Ez,G8,G3])]|_=>rfl
  rfl;all_goals rfl
 |_=>rfl
theorem OV{x}(h:∀b∈G3 x,H b=H' b):Hr H x=Hr H' x:=by cases x<;>grind[Hr,Z34,Ez,G8]
theorem Z31:∀{l:List AV},(∀b∈l.flatMap G3,H b=H' b)->IS H l=IS H' l
 |[],_=>rfl
 |a::l,h=>by
  simp only[IS];rw[OV (λb c=>h b (by simp[c])),Z31 (l:=l) (λb c=>h b (by
   grind))]
theorem Zjy{x}(h:∀b∈G8 x,H b=H' b):toD H x=toD H' x:=by
 cases x with|ag l=>simp only[toD];rw[Z31 h]|fn f l=>simp only[toD];rw[Z31 h]|ic t a=>simp only[toD];rw[OV h]|ow b=>exact OV (x:=.ow b) h|os b o n=>exact OV (x:=.os b o n) h|_=>rfl
theorem Z3v:∀{l:List AV},(∀x∈l,∀b∈G8 x,H b=H' b)->IL H l=IL H' l
 |[],_=>rfl
 |a::l,h=>by
  simp only[IL];rw[Zjy (h a pq),Z3v (l:=l) (λx c=>h x (by simp[c]))]
theorem Z4y{d clk}:∀{news:List Z3} {k:Nat} {H H':Heap},(∀i,k<=i->i<k+news.length->H (Cf d clk i)=H' (Cf d clk i))->IV d clk k news H=IV d clk k news H'
 |[],k,H,H',_=>rfl
 |B::r,k,H,H',h=>by
  simp only[IV];rw[h k (Lv _) pq,Z4y (news:=r) (k:=k+1) (H:=Bm H (Cf d clk k) B) (H':=Bm H' (Cf d clk k) B) (λi h1 h2=>by
   grind[Bm])]
theorem Z3N{x}{b:Nat}(h:b∈ksL x):b∈G3 x:=by cases x<;>first|exact h|simp[ksL]at h
theorem Zda{x}{b:Nat}(h:b∈ksM x):b∈G8 x:=by
 cases x with|ag l =>obtain⟨y,d,c⟩:=Lc.1 h;exact Lc.2 ⟨y,d,Z3N c⟩|fn f l =>obtain⟨y,d,c⟩:=Lc.1 h;exact Lc.2 ⟨y,d,Z3N c⟩|ic t a=>exact Z3N (x:=a) h|ow b=>exact h|os b o n=>exact h|_=>grind[ksM,ksL]
theorem Z64:∀{l:List Nat},(∀b∈l,H b=H' b)->S7 H l=S7 H' l
 |[],_=>rfl
 |b::l,h=>by
  simp only[S7];rw[h b pq,Z64 (l:=l) λc a=>h c (by simp[a])]
theorem Zkg{t t' id hs x y}(hx:∀b∈Ez x,H b=H' b)(a:∀b∈Ez y,H b=H' b):M6 P t t' id hs x y H=M6 P t t' id hs x y H':=by unfold M6;rw[Z34 a];grind[Ez,G8,G3]
theorem Zkp{t t' id hs x y}(hx:∀b∈Ez x,H b=H' b)(hy:∀b∈Ez y,H b=H' b):DU P t t' id hs x y H=DU P t t' id hs x y H':=by unfold DU;split;unfold Z0r;grind[Ez,G8,G3];grind[Zkg]
end
def P5{G}{R R':Operand->AV}:∀{l:List Operand},(∀x∈l,R x=R' x)->Hq G R l=Hq G R' l
 |[],_=>rfl
 |x::l,h=>by
  simp only[Hq];rw[h x pq,P5 (l:=l) (λy a=>h y (by simp[a]))]
def Z6k{H H':Heap}{f}:∀{l:List Nat},(∀b∈l,H b=H' b)->preB f H l=preB f H' l
 |[],_=>rfl
 |b::l,h=>by
  simp only[preB];rw[h b pq,Z6k (l:=l) (λy a=>h y (by simp[a]))]
def Z5H{dst clk b:Nat}:∀{n k:Nat},b∈Em dst clk k n->∃i,i<k+n/\Cf dst clk i=b
 |0,_,h=>by grind[Em]
 |n+1,k,h=>by
  simp only[Em,N]at h;rcases h with rfl|h
  .grind
  .obtain⟨i,h1,h2⟩:=Z5H h;grind
def Z93{P clk ops hints o}{tmps a:List AV}{H H':Heap}{c:Core}(ht:∀t∈No ops o,tmps.getD t .any=a.getD t .any)(hH:∀b∈Db hints tmps o++II clk o,H b=H' b)(hn:∀d,o.dst=U d->∀fr res news r,look d hints=.call fr res news::r->news.length<=7)(h:Ng P clk ops hints o tmps H=U c):Ng P clk ops hints o a H'=U c:=by
 rw[<-h];have a0:∀x∈o.op.operands.toList,ev a x=ev tmps x:=by
  intro x v;cases x with|tmp t=>exact(ht t (by simp only[No,M,Lc];exact .inl ⟨_,v,by simp[Z3M]⟩)).symm|_=>rfl
 have hg:guardOf ops a o.guard=guardOf ops tmps o.guard:=by
  cases hgd:o.guard with
  |none=>rfl
  |some p =>
   obtain⟨j,want⟩:=p;simp only[guardOf];cases hj:ops[j]? with
   |none=>rfl
   |some oj =>
    cases hd:oj.dst with|none=>simp only[hd]|some t =>have:=ht t (by simp[No,hgd,hj,hd]);simp only[hd];rw[this]
 have u:∀G,∀x∈o.op.operands.toList,Ec G (ev a) x=Ec G (ev tmps) x:=by(intro G x v;cases G<;>simp only[Ec,a0 x v])
 have s:(∀x,o.op≠.move x)->∀G,∀x∈o.op.operands.toList,∀b∈Ez (Ec G (ev tmps) x),H b=H' b:=by(intro hm G x v b hb;exact hH b (M.2 (.inl (M.2 (.inl (by rw[Z3V tmps hm];exact Lc.2 ⟨x,v,Zdu G _ x b hb⟩))))))
 have a2:∀b∈II clk o,H b=H' b:=λb hb=>hH b (M.2 (.inr hb));have a1:∀G,NA P clk hints o G a H'=NA P clk hints o G tmps H:=by
  intro G;have a8:∀id hs (E:Operand->AV),(∀x∈o.op.operands.toList,∀b∈Ez (E x),(∀x,o.op≠.move x)->H b=H' b)->act P o id hs E H'=act P o id hs E H:=by(intro id hs E hE;by_cases hm:∃x,o.op=.move x;obtain⟨x,v⟩:=hm;simp only[act,v];exact(Zfo λx v b hb=>hE x v b hb (λx v=>hm ⟨x,v⟩)).symm)
  unfold NA;cases hd:o.dst with
  |some d =>simp only;rw[<-a2 (clk*8000+d) (by simp[II,hd])];rw[Z3C (E:=Ec G (ev a)) (E':=Ec G (ev tmps)) (u G),a8 _ _ _ (λx v b hb hm=>s hm G x v b hb),P5 a0]
  |none =>
   cases G with|some g=>rfl|none =>simp only;rw[<-a2 (clk*8000+7999) (by simp[II,hd])];have e1:act P o (clk*8000+7999) (look (keyOf o) hints) (ev a) H'=act P o (clk*8000+7999) (look (keyOf o) hints) (ev tmps) H':=Z3C a0;have e2:act P o (clk*8000+7999) (look (keyOf o) hints) (ev tmps) H'=act P o (clk*8000+7999) (look (keyOf o) hints) (ev tmps) H:=a8 _ _ _ (λx v b hb hm=>s hm X x v b hb);rw[e1,e2]
 unfold Ng;rw[hg];cases guardOf ops tmps o.guard with
 |none=>rfl
 |some G =>
  simp only;cases hop:o.op with
  |pick x y z =>have h1:=u G x (by simp[hop,O]);have h2:=a0 y (by simp[hop,O]);have h3:=a0 z (by simp[hop,O]);have h4:=a0 x (by simp[hop,O]);simp only[ML];rw[h1,h2,h3,P5 (G:=G) (l:=[x]) (R:=ev a) (R':=ev tmps) (by simpa using h4)]
  |alloc t =>
   simp only;split;rename_i x l _;simp only[MA];cases G with
   |some g=>rfl
   |none =>
    cases hd:o.dst with
    |none=>rfl
    |some d =>
     simp only;rw[<-a2 (clk*8000+d) (by simp[II,hd])];cases hb:Lg (x::l).length 7 with
     |false=>simp only[LW]
     |true =>
      rw[O4 (H:=H) (H':=H') λb b8=>a2 b (by
       have c5:=Lr hb;obtain⟨i,hi,rfl⟩:=Z5H b8;simp only[II,hd,N,Ld,Ll];exact .inr ⟨i,by omega,rfl⟩)]
   exact a1 G
  |call cl =>
   have hm:∀x,o.op≠.move x:=λx h=>by rw[hop]at h;cases h
   have s:=s hm;simp only;cases hcal:cl.callee with
   |value f =>
    simp only;cases Z6X o hints with
    |true =>
     have n:o.op.operands.toList=f::cl.args.toList:=by simp[hop,O,Ln,hcal]
     cases G with|some g=>rfl|none =>
     have a4:cl.args.toList.map (ev a)=cl.args.toList.map (ev tmps):=LC λx v=>a0 x (by rw[n];exact Lb _ v);have a5:=a0 f (by rw[n];simp);simp only[To];cases hd:o.dst with
     |none=>rfl
     |some d =>
      simp only;rw[a5,a4];cases hfv:ev tmps f with
      |fn k w =>
       simp only;have a9:∀x∈cl.args.toList.map (ev tmps)++w,∀b∈G8 x,H b=H' b:=by(intro x v b hb;rcases M.1 v with v|v;obtain⟨y,hy,rfl⟩:=Ld.1 v;exact s X y (by rw[n];exact Lb _ hy) b (Z9t hb);refine s X f (by rw[n];simp) b ?_;simp only[Ec];rw[hfv];exact Lc.2 ⟨x,v,hb⟩)
       have b0:IL H' (cl.args.toList.map (ev tmps)++w)=IL H (cl.args.toList.map (ev tmps)++w):=(Z3v a9).symm;have b3:S7 H' ((cl.args.toList.map (ev tmps)++w).flatMap ksM)=S7 H ((cl.args.toList.map (ev tmps)++w).flatMap ksM):=by(refine(Z64 λb hb=>?_).symm;obtain⟨x,v,c0⟩:=Lc.1 hb;exact a9 x v b (Zda c0))
       rw[b0,b3]
      |_=>rfl
    |false =>
    cases hib:Z69 o hints with
    |true =>
     have n:o.op.operands.toList=f::cl.args.toList:=by simp[hop,O,Ln,hcal]
     have a4:cl.args.toList.map (Ec G (ev a))=cl.args.toList.map (Ec G (ev tmps)):=LC λx v=>u G x (by rw[n];exact Lb _ v);have a5:=u G f (by rw[n];simp);have b9:∀b∈Z1n hints o,H b=H' b:=λb hb=>hH b (M.2 (.inl (M.2 (.inr hb))));simp only[MK];cases hd:o.dst with
     |none=>rfl
     |some d =>
      simp only;have b7:∀gh,cl.args.toList.map (ghV (Cf d clk 6) (Ec G (ev a)) gh)=cl.args.toList.map (ghV (Cf d clk 6) (Ec G (ev tmps)) gh):=λgh=>LC λx v=>by(have:=u G x (by rw[n];exact Lb _ v);unfold ghV;split<;>first|rfl|exact this)
      rw[a5,P5 (G:=G) (l:=f::cl.args.toList) (R:=ev a) (R':=ev tmps) (by rw[<-n];exact a0)];have a6:∀i,i<7->H (Cf d clk i)=H' (Cf d clk i):=λi hi=>a2 _ (by
       simp only[II,hd,N,Ld,Ll];exact .inr ⟨i,hi,rfl⟩)
      cases hl:TQ (look d hints)with
      |none=>rfl
      |some q =>
       obtain⟨gh,ls,res,a3⟩:=q;simp only[b7];have b4:preB (λb=>E5 b ls 0) (ghH (Cf d clk 6) H' gh) ls=preB (λb=>E5 b ls 0) (ghH (Cf d clk 6) H gh) ls:=by
        refine(Z6k λb hb=>?_).symm;have:=b9 b (by simp only[Z1n,hd,hl];exact hb);cases gh with|none=>exact this|some x=>simp only[ghH,Bm];rw[this]
       have c1:MQ (Cf d clk 6) ls H' gh=MQ (Cf d clk 6) ls H gh:=by
        cases gh with|none=>rfl|some x=>simp only[MQ,Ie];rw[a6 6 oq]
       rw[b4,c1];cases a3 with|nil=>rfl|cons B0 b2 =>
       generalize a7:B0::b2=a3;simp only[<-a7];rw[a7];rcases Bool.eq_false_or_eq_true (Lg (a3.length-ls.length) 7)with h7|h7;have c3:Ie H' (Em d clk 0 (a3.length-ls.length))=Ie H (Em d clk 0 (a3.length-ls.length)):=by
        refine(O4 λb hb=>?_).symm;obtain⟨i,hi⟩:=LL hb;have c2:i<a3.length-ls.length:=by(have:=(Lq.1 hi).1;rwa [Ou]at this)
        rw[Z4Z _ _ _ _ _ c2]at hi;have h7:=Lr h7;have:=a6 (0+i) oq;cases hi;exact this
       rw[c3];rw[h7];simp only[LW,Bool.false_and]
    |false =>
    have n:o.op.operands.toList=f::cl.args.toList:=by simp[hop,O,Ln,hcal]
    have a4:cl.args.toList.map (Ec G (ev a))=cl.args.toList.map (Ec G (ev tmps)):=LC λx v=>u G x (by rw[n];exact Lb _ v);have a5:=u G f (by rw[n];simp);simp only[Tx];cases hd:o.dst with
    |none=>rfl
    |some d =>
     simp only;rw[a5,a4,P5 (G:=G) (l:=f::cl.args.toList) (R:=ev a) (R':=ev tmps) (by rw[<-n];exact a0)];cases hfv:Ec G (ev tmps) f with
     |fn k w =>
      simp only;cases hl:look d hints with
      |nil=>rfl
      |cons hh r =>
       cases hh with
       |call fr res news =>
        simp only;have b0:IL H' (cl.args.toList.map (Ec G (ev tmps))++w)=IL H (cl.args.toList.map (Ec G (ev tmps))++w):=by(refine(Z3v λx v b hb=>?_).symm;rcases M.1 v with v|v;obtain⟨y,hy,rfl⟩:=Ld.1 v;exact s G y (by rw[n];exact Lb _ hy) b (Z9t hb);refine s G f (by rw[n];simp) b ?_;rw[hfv];exact Lc.2 ⟨x,v,hb⟩)
        have b1:IV d clk 0 news H'=IV d clk 0 news H:=by(have c4:=hn d hd fr res news r hl;refine(Z4y λi _ hi=>?_).symm;refine a2 _ ?_;simp only[II,hd,N,Ld,Ll];exact .inr ⟨i,by omega,rfl⟩)
        rw[b0,b1]
       |_=>rfl
     |_=>rfl
   |builtin b =>
    cases b with
    |append =>
     cases G with
     |some g=>rfl
     |none =>
      simp only[MM];cases hd:o.dst with
      |none=>rfl
      |some d =>
       simp only;split;rename_i x y t t' h1 h2;have b5:x∈o.op.operands.toList:=by simp[hop,O,Ln,hcal,h1]
       have b6:y∈o.op.operands.toList:=by simp[hop,O,Ln,hcal,h1]
       rw[<-a2 (clk*8000+d) (by simp[II,hd]),a0 x b5,a0 y b6];have e:=Zkp (P:=P) (t:=t) (t':=t') (id:=clk*8000+d) (hs:=look d hints) (s X x b5) (s X y b6);simp only[Ec]at e;rw[e];rfl
    |_=>exact a1 G
   |invoke r m=>exact a1 G
  |_=>exact a1 G
def Ax{us:List (Nat×Z3)}{H}{b:Nat}(h:b∉us.map (·.1)):BQ us H b=H b:=by
 induction us generalizing H with|nil=>rfl|cons u us a =>obtain⟨k,B⟩:=u;simp only[Lf,N,not_or]at h;simp only[BQ];rw[a h.2];unfold Bm;rw[if_neg h.1]
def Z7I{us:List (Nat×Z3)}{H H':Heap}{b:Nat}(h:b∈us.map (·.1)\/H b=H' b):BQ us H b=BQ us H' b:=by
 induction us generalizing H H' with
 |nil =>rcases h with h|h;simp at h;exact h
 |cons u us c =>obtain⟨k,B⟩:=u;simp only[BQ];refine c ?_;by_cases a:b=k;right;unfold Bm;simp[a];rcases h with h|h;simp only[Lf,N]at h;exact .inl (h.resolve_left a);right;unfold Bm;simp[a,h]
def ZfE{us c:List (Nat×Z3)}{H}(h:∀b,b∈us.map (·.1)->b∉c.map (·.1)):BQ us (BQ c H)=BQ c (BQ us H):=by funext b;by_cases a:b∈us.map (·.1);rw[Ax (h b a)];exact Z7I (.inl a);rw[Ax a];by_cases d:b∈c.map (·.1);exact Z7I (.inl d);rw[Ax d,Ax d,Ax a]
structure Rec where
 i:Nat
 rs:List Nat
 c:Core
def Core.slot(c:Core)(tmps:List AV):List AV:=match c.sl with|U (d,v)=>tmps.set d v|X=>tmps
section
variable(P:Program)(clk:Nat)(ops:Array Oper)(hints:List (Nat×List Hint))
def SG:List Rec->List AV->Heap->Prop|[],_,_=>True|r::l,t,H=>∃o,ops[r.i]?=U o/\Ng P clk ops hints o t H=U r.c/\r.rs=Db hints t o/\SG l (r.c.slot t) (BQ r.c.ups H)
end
def Rn:List Rec->List AV->List AV|[],t=>t|r::l,t=>Rn l (r.c.slot t)
def Rq:List Rec->Heap->Heap|[],H=>H|r::l,H=>Rq l (BQ r.c.ups H)
structure Apart (clk:Nat) (ops:Array Oper) (y x:Rec):Prop where
 slots:∀oy ox,ops[y.i]?=U oy->ops[x.i]?=U ox->(∀d,oy.dst=U d->d∉No ops ox/\ox.dst≠U d)/\(∀d,ox.dst=U d->d∉No ops oy)
 heapY:∀ox,ops[x.i]?=U ox->∀b∈y.c.ups.map (·.1),b∉x.rs/\b∉II clk ox/\b∉x.c.ups.map (·.1)
 heapX:∀oy,ops[y.i]?=U oy->∀b∈x.c.ups.map (·.1),b∉y.rs/\b∉II clk oy
section
variable{P:Program}{clk:Nat}{ops:Array Oper}{hints:List (Nat×List Hint)}
theorem Z4T{o:Oper}{t:List AV}{H:Heap}{c:Core}(h:Ng P clk ops hints o t H=U c):∀d v,c.sl=U (d,v)->o.dst=U d:=by
 intro d v b;unfold Ng at h;split at h
 .cases h
 rename_i G hG;have plain:NA P clk hints o G t H=U c->o.dst=U d:=by
  intro h;unfold NA at h;split at h
  .rename_i e a;split at h
   .cases h
   split at h;rotate_left
   .cases h
   split at h
   .cases h;cases b;exact a
   .split at h
    .cases h;cases b;exact a
    .cases h
  .split at h
   .cases h
   split at h
   .cases h
   split at h
   .cases h;cases b
   .cases h
 split at h
 .unfold ML at h;split at h
  .cases h
  rename_i e a;split at h
  .cases h
  split at h
  .split at h
   .cases h;cases b;exact a
   .cases h
  .split at h
   .split at h
    .cases h;cases b;exact a
    .cases h
   .cases h
 .split at h
  .unfold MA at h;split at h;rotate_left
   .cases h
   rename_i e a;split at h;rotate_left
   .cases h
   split at h
   .cases h;cases b;exact a
   .cases h
  .exact plain h
 .split at h
  .split at h
   .unfold To at h;split at h
    .cases h
    split at h
    .cases h
    rename_i e a;split at h;rotate_left
    .cases h
    split at h;rotate_left
    .cases h
    split at h;rotate_left
    .cases h
    split at h
    .cases h;cases b;exact a
    .cases h
   split at h
   .unfold MK at h;split at h
    .cases h
    rename_i e a;split at h
    .split at h
     .cases h;cases b;exact a
     .cases h
    .split at h;rotate_left
     .cases h
     split at h;rotate_left
     .cases h
     split at h;rotate_left
     .cases h
     split at h
     .split at h
      .cases h;cases b;exact a
      .cases h
     .split at h
      .cases h;cases b;exact a
      .cases h
   unfold Tx at h;split at h
   .cases h
   rename_i e a;split at h;rotate_left
   .cases h
   split at h;rotate_left
   .cases h
   split at h;rotate_left
   .cases h
   split at h;rotate_left
   .cases h
   split at h
   .cases h
   .cases h;cases b;exact a
  .split at h
   .unfold MM at h;split at h
    .cases h
    rename_i e a;split at h;rotate_left
    .cases h
    split at h
    .cases h
    split at h
    .cases h;cases b;exact a
    .cases h
   .cases h
  .exact plain h
 .exact plain h
def Z0R(ops:Array Oper)(hints:List (Nat×List Hint)):Prop:=∀(i:Nat) (o:Oper),ops[i]?=U o->∀d,o.dst=U d->∀c b a r,look d hints=.call c b a::r->a.length<=7
theorem Z9b{c:Core}{t}{k:Nat}(h:∀d v,c.sl=U (d,v)->d≠k):(c.slot t).getD k .any=t.getD k .any:=by
 unfold Core.slot;cases hs:c.sl with|none=>rfl|some p =>obtain⟨d,v⟩:=p;have:=h d v hs;simp only[Lo];rw[List.getElem?_set];rw[if_neg this]
theorem Z6h{t t':List AV}{o}(h:∀k∈No ops o,t.getD k .any=t'.getD k .any):Db hints t o=Db hints t' o:=by
 unfold Db;congr 1;by_cases b:∃x,o.op=.move x;obtain⟨x,a⟩:=b;simp only[Z04,a];rw[Z3V t (λx a=>b ⟨x,a⟩),Z3V t' (λx a=>b ⟨x,a⟩)];clear b;have:∀x∈o.op.operands.toList,idV (ev t x)=idV (ev t' x):=by
  intro x a;cases x with|tmp k=>simp only[ev];rw[h k (by simp only[No,M,Lc];exact .inl ⟨_,a,by simp[Z3M]⟩)]|_=>rfl
 revert this;generalize o.op.operands.toList=l;intro this;induction l with|nil=>rfl|cons x l d=>rw[L0,L0,this x pq,d (λy c=>this y (by simp[c]))]
theorem swap{y x}{l:List Rec}{t H}(z:Z0R ops hints)(ha:Apart clk ops y x)(h:SG P clk ops hints (y::x::l) t H) :SG P clk ops hints (x::y::l) t H/\x.c.slot (y.c.slot t)=y.c.slot (x.c.slot t)/\BQ x.c.ups (BQ y.c.ups H)=BQ y.c.ups (BQ x.c.ups H):=by
 obtain⟨u,i,a3,a5,s,g,a0,a2,hl⟩:=h;obtain⟨s1,s2⟩:=ha.slots u s i g;have dy:=Z4T a3;have dx:=Z4T a0;have c:=ha.heapY s g;have n:=ha.heapX u i;have tx:∀k∈No ops s,(y.c.slot t).getD k .any=t.getD k .any:=λk hk=>Z9b λd v m=>by(have:=(s1 d (dy d v m)).1;rintro rfl;exact this hk)
 have fx:=Z6h (hints:=hints) (o:=s) tx;have a1:Ng P clk ops hints s t H=U x.c:=by(refine Z93 tx (λb a=>?_) (λd m fr w f r hl=>z x.i s g d m fr w f r hl) a0;refine Ax λj=>?_;obtain⟨q1,q2,_⟩:=c b j;rcases M.1 a with a|a;exact q1 (by rw[a2];exact a);exact q2 a)
 have ty:∀k∈No ops u,t.getD k .any=(x.c.slot t).getD k .any:=λk hk=>(Z9b λd v m=>by
  have:=s2 d (dx d v m);rintro rfl;exact this hk).symm
 have fy:=Z6h (hints:=hints) (o:=u) ty;have a4:Ng P clk ops hints u (x.c.slot t) (BQ x.c.ups H)=U y.c:=by(refine Z93 ty (λb a=>?_) (λd m fr w f r hl=>z y.i u i d m fr w f r hl) a3;refine(Ax λj=>?_).symm;obtain⟨q1,q2⟩:=n b j;rcases M.1 a with a|a;exact q1 (by rw[a5];exact a);exact q2 a)
 have es:x.c.slot (y.c.slot t)=y.c.slot (x.c.slot t):=by
  unfold Core.slot;cases hsx:x.c.sl with
  |none=>cases hsy:y.c.sl<;>rfl
  |some p =>
   obtain⟨d,v⟩:=p;cases hsy:y.c.sl with|none=>rfl|some q =>obtain⟨d',v'⟩:=q;have h1:=dx d v hsx;have h2:=dy d' v' hsy;have:=(s1 d' h2).2;rw[h1]at this;have a7:d≠d':=λe=>this (by rw[e]);simp only;exact List.set_comm _ _ oq
 have eh:BQ x.c.ups (BQ y.c.ups H)=BQ y.c.ups (BQ x.c.ups H):=(ZfE λb a a6=>(c b a).2.2 a6).symm;refine⟨⟨s,g,a1,by rw[a2,fx],u,i,a4,by rw[a5,fy], ?_⟩,es,eh⟩;rw[<-es,<-eh];exact hl
theorem Z5u(a:Z0R ops hints):∀{r1:List Rec} {x:Rec} {r2:List Rec} {t:List AV} {H:Heap},(∀y∈r1,Apart clk ops y x)->SG P clk ops hints (r1++x::r2) t H ->
  SG P clk ops hints (x::(r1++r2)) t H/\Rn (r1++x::r2) t=Rn (x::(r1++r2)) t/\Rq (r1++x::r2) H=Rq (x::(r1++r2)) H
 |[],x,r2,t,H,_,h=>⟨h,rfl,rfl⟩
 |y::r1,x,r2,t,H,ha,h=>by
  obtain⟨m,b,c,d,hl⟩:=h;obtain⟨k1,g,i⟩:=Z5u a (λz f=>ha z (by simp[f])) hl;have e:SG P clk ops hints (y::x::(r1++r2)) t H:=⟨m,b,c,d,k1⟩
  obtain⟨j,k,l⟩:=swap a (ha y pq) e;refine⟨j, ?_, ?_⟩
  .show Rn (r1++x::r2) (y.c.slot t)=Rn (y::(r1++r2)) (x.c.slot t);rw[g];show Rn (r1++r2) (x.c.slot (y.c.slot t))=Rn (r1++r2) (y.c.slot (x.c.slot t));rw[k]
  .show Rq (r1++x::r2) (BQ y.c.ups H)=Rq (y::(r1++r2)) (BQ x.c.ups H);rw[i];show Rq (r1++r2) (BQ x.c.ups (BQ y.c.ups H))=Rq (r1++r2) (BQ y.c.ups (BQ x.c.ups H));rw[l]
inductive ME (clk:Nat) (ops:Array Oper):List Nat->List Rec->Prop|nil:ME clk ops [] []|cons {i:Nat} {l:List Nat} {r1 r2:List Rec} {x:Rec} (hi:x.i=i) (ha:∀y∈r1,Apart clk ops y x) (h:ME clk ops l (r1++r2)):ME clk ops (i::l) (r1++x::r2)
theorem Zfl(n:Z0R ops hints){Ow Im0 w0}{Q:Exit->Act->World->Prop}:∀{l:List Nat} {b:List Rec},ME clk ops l b->∀{t:List AV} {H:Heap} {a:Act} {w:World},SG P clk ops hints b t H ->
  Sys Ow Im0 w0 t H clk a w->(∀r∈b,B9 r.c.ph/\EJ r.c.eq)->(∀f w',Sys Ow Im0 w0 (Rn b t) (Rq b H) clk f w'->Q .normal f w')->wpOps P ops Q l a w:=by
 intro l b hs;induction hs with
 |nil=>intro t H a w _ k _ j;exact j a w k
 |cons hi z q ih =>
  rename_i i l r1 r2 x;intro t H a w hc k v j;obtain⟨k1,k2,k3⟩:=Z5u n z hc;obtain⟨o,u,c,_,hl⟩:=k1;rw[hi]at u;have p:AC P clk ops hints o t H=U (x.c.out t H):=by unfold AC;rw[c]
  have y:=v x pq;have e:=Z2Z (next:=wpOps P ops Q l) (Q:=Q) p k y.1 y.2 λf w' m=>ih (t:=x.c.slot t) (H:=BQ x.c.ups H) hl m (λr hr=>v r (by
   rcases M.1 hr with h|h;simp[h];simp[h])) (λg s d=>j g s (by rw[k2,k3];exact d))
  simp only[wpOps,u];split;exact .inl (e.1 aa);rename_i hw;exact e.2 ((Bool.not_eq_true _).mp hw)
end
end Go.Sx
namespace Go.Sx
open Go.Region
def NG(acc:List Nat):List Edge->Nat|[]=>0|e::l=>if binds .any e then NG acc l |||2^e.on |||acc.getD e.on 0 else NG acc l
def Z1V{acc}{y:Nat}:∀{l:List Edge},(NG acc l).testBit y=Y->∃e∈l,binds .any e=Y/\(e.on=y\/(acc.getD e.on 0).testBit y=Y)
 |[],h=>by simp[NG]at h
 |e::l,h=>by
  simp only[NG]at h;split at h
  .rename_i d;rw[Xe,Xe,LJ,LJ]at h;rcases h with(h|h)|h
   .obtain⟨a,b,c⟩:=Z1V h;exact⟨a,by simp[b],c⟩
   .rw[Nat.testBit_two_pow]at h;exact⟨e,by simp,d,.inl (by simpa using h)⟩
   .exact⟨e,by simp,d,.inr h⟩
  .obtain⟨a,b,c⟩:=Z1V h;exact⟨a,by simp[b],c⟩
def Sj:List Oper->List Nat->List Nat|[],acc=>acc|o::l,acc=>Sj l (acc++[NG acc o.after.toList])
def Z2P:∀{l:List Oper} {acc:List Nat} {k:Nat},k<acc.length->(Sj l acc).getD k 0=acc.getD k 0
 |[],acc,k,h=>rfl
 |o::l,acc,k,h=>by
  simp only[Sj];rw[Z2P qo];simp[Lo,L2 h]
def Z7b:∀{l:List Oper} {acc:List Nat} {i y:Nat},acc.length<=i->((Sj l acc).getD i 0).testBit y=Y->∃o,l[i-acc.length]?=U o/\∃e∈o.after.toList,binds .any e=Y/\(e.on=y\/((Sj l acc).getD e.on 0).testBit y=Y)
 |[],acc,i,y,hi,h=>by
  simp only[Sj]at h;rw[show acc.getD i 0=0 from by simp[Lo,L3 hi]]at h;simp at h
 |o::l,acc,i,y,hi,h=>by
  simp only[Sj]at h⊢;by_cases f:i=acc.length
  .subst f;rw[Z2P pq]at h;rw[show(acc++[NG acc o.after.toList]).getD acc.length 0=NG acc o.after.toList from by simp[Lo]]at h;obtain⟨e,b,c,d⟩:=Z1V h;refine⟨o,by simp,e,b,c,d.imp (λh=>h) λh=>?_⟩;by_cases a:e.on<acc.length
   .rw[Z2P qo];rw[show(acc++[NG acc o.after.toList]).getD e.on 0=acc.getD e.on 0 from by simp[Lo,L2 a]];exact h
   .rw[show acc.getD e.on 0=0 from by simp[Lo,L3 (Nat.le_of_not_lt a)]]at h;simp at h
  .obtain⟨g,b,c⟩:=Z7b (l:=l) (acc:=acc++[NG acc o.after.toList]) (i:=i) (y:=y) qo h;refine⟨g, ?_,c⟩;simp only[LM,L5,L7]at b;rw[show i-acc.length=(i-(acc.length+(0+1)))+1 from by omega];simpa using b
def bitsOf(ops:Array Oper):List Nat:=Sj ops.toList []
def Dy(a:List Nat)(y x:Nat):Bool:=(a.getD x 0).testBit y
def ZgS{ops}{i y:Nat}(h:Dy (bitsOf ops) y i=Y):∃o,ops[i]?=U o/\∃e∈o.after.toList,binds .any e=Y/\(e.on=y\/Dy (bitsOf ops) y e.on=Y):=by obtain⟨o,a,b⟩:=Z7b (l:=ops.toList) (acc:=[]) pq h;exact⟨o,by simpa using a,b⟩
def Tv(n:Nat):List Oper->Bool|[]=>Y|o::l=>o.after.toList.all (λe=>!(binds .any e)||decide (e.on<n))&&Tv (n+1) l
def Z2w:∀{l:List Oper} {n:Nat},Tv n l=Y->∀(i:Nat) (o:Oper),l[i]?=U o->∀e∈o.after.toList,binds .any e=Y->e.on<n+i
 |[],n,_,i,o,h=>by simp at h
 |o0::l,n,h,i,o,hi=>by
  simp only[Tv,W,La]at h;intro e b a;cases i with
  |zero =>
   simp at hi;subst hi;have:=h.1 e b;simpa[a]using this
  |succ i =>
   have:=Z2w h.2 i o (by simpa using hi) e b a;omega
section
variable{clk:Nat}{ops:Array Oper}
def Rf(clk:Nat)(ops:Array Oper):List Rec->Prop|[]=>True|y::l=>(∀x∈l,Dy (bitsOf ops) y.i x.i=Y\/Apart clk ops y x)/\Rf clk ops l
theorem Rf.mid:∀{r1:List Rec} {x:Rec} {r2:List Rec},Rf clk ops (r1++x::r2)->∀y∈r1,Dy (bitsOf ops) y.i x.i=Y\/Apart clk ops y x
 |[],_,_,_,y,hy=>by simp at hy
 |z::r1,x,r2,h,y,hy=>by
  rcases N.1 hy with e|e
  .rw[e];exact h.1 x pq
  .exact Rf.mid h.2 y e
theorem Rf.drop:∀{r1:List Rec} {x:Rec} {r2:List Rec},Rf clk ops (r1++x::r2)->Rf clk ops (r1++r2)
 |[],_,_,h=>h.2
 |z::r1,x,r2,h=>⟨λy a=>h.1 y (by
   rcases M.1 a with h|h
   .exact M.2 (.inl h)
   .exact M.2 (.inr (Lb _ h))),Rf.drop h.2⟩
theorem Z5W{a:Nat}:∀{b l2:List Nat},(b++a::l2).Nodup->a∉b++l2/\(b++l2).Nodup:=by intro b l2 h;have:=(List.perm_middle (a:=a) (l₁:=b) (l₂:=l2)).nodup_iff.1 h;exact Lu.1 this
theorem Z2y{p:Nat->Prop}:(∃n,p n)->∃n,p n/\∀m,p m->n<=m:=by
 intro⟨n,hn⟩;induction n using Xd with|ind n ih =>by_cases h:∃m,m<n/\p m;obtain⟨m,h1,h2⟩:=h;exact ih m h1 h2;refine⟨n,hn,λm hm=>?_⟩;by_cases hlt:m<n;exact absurd ⟨m,hlt,hm⟩ h;omega
theorem Zea(q:Tv 0 ops.toList=Y):∀(g t:Nat) (listed:Array Bool) (acc:List Nat) (a:List Rec),a.length=g->listed.size=ops.size -> (∀i,i<ops.size->(listed.getD i Y=Z↔i∈a.map (·.i)))->(∀r∈a,r.i<ops.size)->(a.map (·.i)).Nodup->Rf clk ops a -> (∀j,j<ops.size->listed.getD j Y=Y->∀y,Dy (bitsOf ops) y j=Y->y∉a.map (·.i)) ->
  ∃l,linearise.go .any ops g t listed acc=acc.reverse++l/\ME clk ops l a:=by
 intro g;induction g with
 |zero =>intro t listed acc a hn _ _ _ _ _ _;have:a=[]:=List.length_eq_zero_iff.1 hn;subst this;exact⟨[],by simp[linearise.go],.nil⟩
 |succ g ih =>
  intro t listed acc a hn b1 hl b3 a1 hp s;simp only[linearise.go];generalize b9:(LD ops.size).filter (λi=>!listed.getD i Y&&((ops[i]?).map (·.after.all λe=>!binds .any e||listed.getD e.on Z)).getD Z)=rs;have c3:rs≠[]:=by
   have b8:a.map (·.i)≠[]:=by
    intro h;have h2:a=[]:=by simpa using h
    rw[h2]at hn;simp at hn
   obtain⟨m,b4,c2⟩:=Z2y (p:=λi=>i∈a.map (·.i)) (List.exists_mem_of_ne_nil _ b8);have n:m<ops.size:=by obtain⟨r,hr,rfl⟩:=Ld.1 b4;exact b3 r hr
   intro z;have:m∈rs:=by
    rw[<-b9,L8];refine⟨Ll.2 n, ?_⟩;have h1:=(hl m n).2 b4;rw[h1,Ls n];simp only[Bool.not_false,Bool.true_and,Xh,Xg];rw[LR];intro e he;cases hb:binds .any e with
    |false=>rfl
    |true =>
     simp only[LY,LX];have c4:=Z2w q m ops[m] (by simp[n]) e (by simpa using he) hb;have f:e.on<ops.size:=by omega
     have b7:e.on∉a.map (·.i):=λh=>by have:=c2 e.on h;omega
     have:¬ listed.getD e.on Y=Z:=λh=>b7 ((hl e.on f).1 h);have hs:e.on<listed.size:=by omega
     simp only[LG,hs,dite_true]at this⊢;simpa using this
   rw[z]at this;simp at this
  have a4:t%rs.length<rs.length:=Nat.mod_lt _ (List.length_pos_iff.2 c3);rw[Lp a4];simp only;generalize hi:rs[t%rs.length]=i;have a5:i∈rs:=by rw[<-hi];exact List.getElem_mem a4
  rw[<-b9,L8]at a5;obtain⟨c1,b0⟩:=a5;have k:=Ll.1 c1;simp only[W,Lw]at b0;obtain⟨c0,a0⟩:=b0;have a7:=(hl i k).1 c0;obtain⟨x,hx,a2⟩:=Ld.1 a7;obtain⟨r1,r2,rfl⟩:=List.append_of_mem hx;rw[Ls k]at a0;simp only[Xh,Xg]at a0;rw[LR]at a0;have u:∀y,Dy (bitsOf ops) y i=Y->y∉(r1++x::r2).map (·.i):=by
   intro y hy;obtain⟨o,ho,e,he,hb,a9⟩:=ZgS hy;rw[Ls k]at ho;cases ho;have w:=a0 e (by simpa using he);rw[hb]at w;simp only[LY,LX]at w;have f:e.on<ops.size:=by(have:=Z2w q i ops[i] (by simp[k]) e he hb;omega)
   have b:listed.getD e.on Y=Y:=by
    have hs:e.on<listed.size:=by omega
    simp only[LG,hs,dite_true]at w⊢;exact w
   rcases a9 with rfl|a9;intro h;rw[(hl e.on f).2 h]at b;cases b;exact s e.on f b y a9
  have v:∀y∈r1,Apart clk ops y x:=by(intro y hy;rcases hp.mid y hy with h|h;exfalso;rw[a2]at h;exact u y.i h (Ld.2 ⟨y,by simp[hy],rfl⟩);exact h)
  have b6:i∉(r1++r2).map (·.i):=by(rw[<-a2];simp only[LB,Lf]at a1⊢;exact(Z5W a1).1)
  have b5:((r1++r2).map (·.i)).Nodup:=by(simp only[LB,Lf]at a1⊢;exact(Z5W a1).2)
  have b2:(listed.setIfInBounds i Y).size=ops.size:=by simp[b1]
  have a3:∀j d,(listed.setIfInBounds i Y).getD j d=if j=i then(if i<listed.size then Y else d)else listed.getD j d:=by(intro j d;simp only[Array.getD_eq_getD_getElem?,Array.getElem?_setIfInBounds];by_cases c:i=j;subst c;simp only[if_true];split<;>rfl;simp only[c,if_false];rw[if_neg (λh=>c h.symm)])
  obtain⟨l,h1,h2⟩:=ih (t/rs.length) (listed.setIfInBounds i Y) (i::acc) (r1++r2) (by simp at hn⊢;omega) b2 (λj hj=>by
   rw[a3];by_cases c:j=i;subst c;simp only[if_true,b1,hj];exact⟨(λh=>nomatch h),λh=>absurd h b6⟩;simp only[c,if_false];rw[hl j hj];simp only[LB,Lf,M,N,a2,c,false_or]) (λr hr=>b3 r (by
   rcases M.1 hr with h|h;simp[h];simp[h])) b5 hp.drop (λj hj a8 y hy=>by
   have a6:y∉(r1++x::r2).map (·.i)->y∉(r1++r2).map (·.i):=λh h'=>h (by
     simp only[LB,Lf,M,N]at h'⊢;rcases h' with h'|h';exact .inl h';exact .inr (.inr h'))
   rw[a3]at a8;by_cases c:j=i;subst c;exact a6 (u y hy);simp only[c,if_false]at a8;exact a6 (s j hj a8 y hy))
  refine⟨i::l, ?_,.cons a2 v h2⟩;rw[h1];simp
end
end Go.Sx
namespace Go.Sx
open Go.Region
def Tj(P:Program)(clk:Nat)(ops:Array Oper)(hints:List (Nat×List Hint)):List Nat->List AV->Heap->Option (List Rec)|[],_,_=>U []|i::l,t,H=>match ops[i]? with|none=>X|some o=>match Ng P clk ops hints o t H with|none=>X|some c=>match Tj P clk ops hints l (c.slot t) (BQ c.ups H)with|none=>X|some rs=>U (⟨i,Db hints t o,c⟩::rs)
def Z53{P clk ops hints}:∀{l:List Nat} {t:List AV} {H:Heap} {a:List Rec},Tj P clk ops hints l t H=U a->SG P clk ops hints a t H/\a.map (·.i)=l
 |[],t,H,a,h=>by
  simp only[Tj,Li]at h;subst h;exact⟨trivial,rfl⟩
 |i::l,t,H,a,h=>by
  simp only[Tj]at h;split at h
  .cases h
  rename_i o g;split at h
  .cases h
  rename_i c f;split at h
  .cases h
  rename_i rs b;cases h;obtain⟨d,e⟩:=Z53 b;exact⟨⟨o,g,f,rfl,d⟩,by simp[e]⟩
def phs:List Rec->List Prop|[]=>[]|r::l=>r.c.ph++phs l
def eqs:List Rec->List (AV×AV)|[]=>[]|r::l=>r.c.eq++eqs l
def Z4v:∀{l:List Rec},B9 (phs l)->∀r∈l,B9 r.c.ph
 |[],_,r,hr=>by simp at hr
 |x::l,h,r,hr=>by
  obtain⟨a,b⟩:=Hk.1 h;rcases N.1 hr with e|e
  .rw[e];exact a
  .exact Z4v b r e
def Z8m:∀{l:List Rec},EJ (eqs l)->∀r∈l,EJ r.c.eq
 |[],_,r,hr=>by simp at hr
 |x::l,h,r,hr=>by
  rcases N.1 hr with e|e
  .rw[e];exact h.left
  .exact Z8m h.right r e
structure Foot where
 i:Nat
 bits:Nat
 dst:Option Nat
 reads:List Nat
 rs:List Nat
 own:List Nat
 keys:List Nat
def mem2(b:Nat):List Nat->Bool|[]=>Z|x::l=>match Lj x b with|true=>Y|false=>mem2 b l
def Z3c{b}{l:List Nat}:mem2 b l=Z↔b∉l:=by
 induction l with
 |nil=>simp[mem2]
 |cons x l a =>
  simp only[mem2];cases h:Lj x b with|true =>have:=LO h;simp[this]|false =>have:=Xc h;simp only[a,N,not_or];exact⟨λh=>⟨λe=>this e.symm,h⟩,λh=>h.2⟩
def DY(clk:Nat)(ops:Array Oper)(a:List Nat):List Rec->Option (List Foot)|[]=>U []|r::l=>match ops[r.i]? with|none=>X|some o=>match DY clk ops a l with|none=>X|some b=>U (⟨r.i,a.getD r.i 0,o.dst,No ops o,r.rs,II clk o,r.c.ups.map (·.1)⟩::b)
def Z3R(y x:Foot):Bool:=
  (match y.dst with
   |some d=>!mem2 d x.reads&&(match x.dst with|U a=>!Nat.beq a d|X=>Y)
   |none=>Y) &&
  (match x.dst with
   |some d=>!mem2 d y.reads
   |none=>Y) &&
  (y.keys.all λb=>!mem2 b x.rs&&!mem2 b x.own&&!mem2 b x.keys) &&
  (x.keys.all λb=>!mem2 b y.rs&&!mem2 b y.own)
def Pr:List Foot->Bool|[]=>Y|y::l=>(l.all λx=>x.bits.testBit y.i||Z3R y x)&&Pr l
section
variable{clk:Nat}{ops:Array Oper}
def Z1B(clk:Nat)(ops:Array Oper)(a:List Nat)(r:Rec)(f:Foot):Prop:=
 ∃o,ops[r.i]?=U o/\f=⟨r.i,a.getD r.i 0,o.dst,No ops o,r.rs,II clk o,r.c.ups.map (·.1)⟩
theorem Zlc{n y x p o}(u:Z1B clk ops n y p)(t:Z1B clk ops n x o)(h:Z3R p o=Y):Apart clk ops y x:=by obtain⟨oy,g,rfl⟩:=u;obtain⟨ox,f,rfl⟩:=t;unfold Z3R at h;simp only[W,La,Lw,Z3c]at h;obtain⟨⟨⟨e,q⟩,r⟩,s⟩:=h;refine⟨λm l c a=>?_,λl a b i=>?_,λm c b i=>?_⟩;rw[g]at c;rw[f]at a;cases c;cases a;refine⟨λd j=>?_,λd j=>?_⟩;rw[j]at e;simp only[W,Lw,Z3c]at e;refine⟨e.1,λk=>?_⟩;have e:=e.2;rw[k]at e;simp at e;rw[j]at q;simpa[Z3c]using q;rw[f]at a;cases a;obtain⟨⟨v,w⟩,z⟩:=r b i;exact⟨v,w,z⟩;rw[g]at c;cases c;exact s b i
theorem Z6n{c}:∀{l:List Rec} {a:List Foot},DY clk ops c l=U a->∀r∈l,∃f∈a,Z1B clk ops c r f
 |[],_,_,r,hr=>by simp at hr
 |x::l,a,h,r,hr=>by
  simp only[DY]at h;split at h
  .cases h
  rename_i o i;split at h
  .cases h
  rename_i gs b;cases h;rcases N.1 hr with e|e
  .subst e;exact⟨_,by simp,o,i,rfl⟩
  .obtain⟨f,d,g⟩:=Z6n b r e;exact⟨f,by simp[d],g⟩
theorem Z4K:∀{l:List Rec} {b:List Foot},DY clk ops (bitsOf ops) l=U b->Pr b=Y->Rf clk ops l
 |[],_,_,_=>trivial
 |y::l,b,h,hp=>by
  simp only[DY]at h;split at h
  .cases h
  rename_i o i;split at h
  .cases h
  rename_i gs a;cases h;simp only[Pr,W,La,LJ]at hp;refine⟨λx k=>?_,Z4K a hp.2⟩;obtain⟨f,g,d⟩:=Z6n a x k;have c:=d;obtain⟨ox,j,e⟩:=c;rcases hp.1 f g with h1|h1
  .left;rw[e]at h1;exact h1
  .right;exact Zlc ⟨o,i,rfl⟩ d h1
end
def AF:List (Nat×List Hint)->Bool|[]=>Y|(_,.call _ _ news::_)::l=>Lg news.length 7&&AF l|_::l=>AF l
def Z9O:∀{hints:List (Nat×List Hint)},AF hints=Y->∀(d:Nat) fr res news r,look d hints=.call fr res news::r->news.length<=7
 |[],_,d,fr,res,news,r,h=>by simp[look]at h
 |(j,hs)::l,hf,d,fr,res,news,r,h=>by
  have hl:AF l=Y:=by
   unfold AF at hf;split at hf
   .cases ‹_=[]›
   .rename_i a;cases a;exact(W _ _▸hf).2
   .rename_i a;cases a;exact hf
  simp only[look]at h;split at h
  .subst h;simp only[AF,W]at hf;exact Lr hf.1
  .exact Z9O hl d fr res news r h
def Z17(P:Program)(clk:Nat)(ops:Array Oper)(hints:List (Nat×List Hint))(t:List AV)(H:Heap):Option Out:=
 match Tj P clk ops hints (LD ops.size) t H with|none=>X|some a=>match DY clk ops (bitsOf ops) a with|none=>X|some b=>match (P.follows .mixedOrders||!departs ops)&&(Tv 0 ops.toList&&(AF hints&&Pr b))with|true=>U ⟨Rn a t,Rq a H,phs a,eqs a⟩|false=>X
def ZaS{P Ow Im0 w0 clk hints ops}{Q:Exit->Act->World->Prop}{tmps}{H:Heap}{a w}{out:Out}{id}(h:Z17 P clk ops hints tmps H=U out)(hS:Sys Ow Im0 w0 tmps H clk a w)(a1:B9 out.ph)(y:EJ out.eq)(hQ:∀a' w',Sys Ow Im0 w0 out.tmps out.H clk a' w'->Q .normal a' w'):(Code.region id ops Y).wp P Q a w:=by
 unfold Z17 at h;split at h;cases h;rename_i c m;split at h;cases h;rename_i fs z;split at h;rotate_left;cases h;rename_i hb;cases h;simp only[W]at hb;obtain⟨hm,k,p,f⟩:=hb;obtain⟨e,b⟩:=Z53 m;have a0:Z0R ops hints:=λi o _ d _ fr a2 t r hl=>Z9O p d fr a2 t r hl;refine wp_region_draw λn=>?_;have s:schedule (P.follows .mixedOrders) ops n=linearise .any ops n:=by(unfold schedule;rw[if_pos hm])
 rw[s];unfold linearise;have q:c.length=ops.size:=by(have:=congrArg List.length b;simpa using this)
 have g:∀i,i<ops.size->(LI ops.size Z).getD i Y=Z:=by(intro i u;simp[LG,u])
 obtain⟨l,h1,h2⟩:=Zea (clk:=clk) (ops:=ops) k ops.size n (LI ops.size Z) [] c q pq (λi u=>by
  rw[b];exact⟨λ_=>Ll.2 u,λ_=>g i u⟩) (λr v=>by
  have:r.i∈c.map (·.i):=Ld.2 ⟨r,v,rfl⟩;rw[b]at this;exact Ll.1 this) (by rw[b];exact List.nodup_range) (Z4K z f) (λj hj hl=>by rw[g j hj]at hl;cases hl)
 rw[h1];have x:Sys Ow Im0 w0 tmps H clk a {w with drawn:=w.drawn+1}:=by(obtain⟨ρ,Im,I,T⟩:=hS;exact⟨ρ,Im,I.draw,T.mono (w':=w.drew) (Ext.draw Im w) (λ_ h=>h) (λ_ _ h=>h) I.bnd⟩)
 exact Zfl a0 h2 e x (λr v=>⟨Z4v a1 r v,Z8m y r v⟩) hQ
def Rw(P:Program)(clk:Nat)(ops:Array Oper)(hints:List (Nat×List Hint)):List Nat->List AV->Heap->Option Out|[],t,H=>U ⟨t,H,[],[]⟩|i::l,t,H=>match ops[i]? with|none=>X|some o=>match AC P clk ops hints o t H with|none=>X|some x=>match Rw P clk ops hints l x.tmps x.H with|none=>X|some y=>U ⟨y.tmps,y.H,x.ph++y.ph,x.eq++y.eq⟩
def Z43{P Ow Im0 w0 clk hints ops}{Q:Exit->Act->World->Prop}:∀{l:List Nat} {tmps:List AV} {H:Heap} {a:Act} {w:World} {out:Out},
  Rw P clk ops hints l tmps H=U out->Sys Ow Im0 w0 tmps H clk a w->B9 out.ph->EJ out.eq->(∀b w',Sys Ow Im0 w0 out.tmps out.H clk b w'->Q .normal b w')->wpOps P ops Q l a w
 |[],tmps,H,a,w,out,h,hS,_,_,hQ=>by
  simp only[Rw,Li]at h;subst h;exact hQ a w hS
 |i::l,tmps,H,a,w,out,h,hS,hph,heq,hQ=>by
  simp only[Rw]at h;split at h
  .cases h
  rename_i o ho;split at h
  .cases h
  rename_i x d;split at h
  .cases h
  rename_i y e;cases h;obtain⟨g,p2⟩:=Hk.1 hph;have f:=Z2Z (next:=wpOps P ops Q l) (Q:=Q) d hS g heq.left λb w' c=>Z43 e c p2 heq.right hQ;grind[wpOps]
structure Tg where
 tmps:List AV
 hl:List (Nat×Z3)
 clk:Nat
def Bv:List (Nat×Z3)->Heap|[],_=>X|(b,B)::r,k=>if k=b then U B else Bv r k
inductive Ex where|nrm|ext (n:Nat)|ret
def Ex.exit:Ex->Exit|.nrm=>.normal|.ext n=>.exit n|.ret=>.ret
def CSpec(P:Program)(c:Code)(s:St)(e:Ex)(t:St):Prop:=
 ∀(d:Own) (b:Nat->Prop) (f:World) (a:Act) (w:World),Sys d b f s.tmps s.H s.clk a w->c.wp P (λh g i=>h=e.exit/\Sys d b f t.tmps t.H t.clk g i) a w
def Tg.st(t:Tg):St:=⟨t.tmps,Bv t.hl,t.clk⟩
def R6(b:Nat):List Nat->Bool|[]=>Z|x::l=>if x=b then Y else R6 b l
def SX(ids:List Nat):AV->Bool|.pt b _ _=>R6 b ids|.os b _ _=>R6 b ids|.ow b=>R6 b ids|.d _=>Y|.rp .. => Y|.any=>Y|_=>Z
def refs(ids:List Nat):AV->Bool|.ag l=>l.all (SX ids)|.fn _ l=>l.all (SX ids)|.fm _ a=>SX ids a|.ic _ a=>SX ids a|a=>SX ids a
def Te(ids:List Nat):AV->Bool|.tu l=>l.all (refs ids)|a=>refs ids a
def Z09(ids:List Nat):Z3->Bool|.box _ cells=>cells.all (refs ids)|.arr .. => Y|.mp _=>Y|.dead=>Z
def G9:Z3->AV|.box ty cells=>.tu [.d (.sc (.int .i64 ty)),.tu cells]|.arr ty s els=>.tu [.d (.sc (.int .i64 ty)),.d (.sl s els)]|.mp ks=>.tu [.d (.sl 0 (ks.map λx=>[.sc (.int .u64 x)]))]|.dead=>.tu []
theorem Z2J{B a:Z3}(h:G9 B=G9 a):B=a:=by
 cases B with|box b cells =>cases a<;>grind[G9,AV.tu.injEq,Ly,AV.d.injEq,DV.sc.injEq,Value.int.injEq]|mp ks =>cases a<;>grind[G9,AV.tu.injEq,Ly,AV.d.injEq,DV.sl.injEq,List.map_inj_right]|dead =>cases a<;>grind[G9]|arr b s els =>cases a<;>grind[G9,AV.tu.injEq,Ly,AV.d.injEq,DV.sc.injEq,DV.sl.injEq,Value.int.injEq]
def Z97:AV->Bool|.any=>Y|_=>Z
def wkT(ids:List Nat):List AV->List AV->Option (List (AV×AV))|[],[]=>U []|x::xs,y::ys=>(match wkT ids xs ys with|none=>X|some r=>if Z97 y then U r else if Te ids y then U ((x,y)::r)else X)|_,_=>X
def wkH(ids:List Nat)(H:Heap):List (Nat×Z3)->Option (List (AV×AV))|[]=>U []|(b,B)::r=>match H b with|none=>X|some a=>match wkH ids H r with|none=>X|some l=>if Z09 ids B then U ((G9 a,G9 B)::l)else X
def wk(s:St)(t:Tg):Option (List (AV×AV)):=
 match t.clk with
 |0=>X
 |_+1=>match wkT (t.hl.map (·.1)) s.tmps t.tmps,wkH (t.hl.map (·.1)) s.H t.hl with
 |some l,some m=>U (l++m)
 |_,_=>X
theorem RI{b}{l:List Nat}:R6 b l=Y↔b∈l:=by induction l<;>grind[R6]
section
variable{ρ ρ':ZM}{w:World}{Im:Nat->Prop}{ids:List Nat}
theorem N9(l:∀b∈ids,∀β,ρ b=U β->ρ' b=U β){x v}(h:Zk ρ w Im x v)(k:SX ids x=Y):Zk ρ' w Im x v:=by
 cases x with|pt b i o=>obtain⟨g,s,n,a,rfl⟩:=NJ h;exact .pt (l b (RI.1 k) _ a)|os b o n=>(cases h with|os a c f j m=>exact .os (l b (RI.1 k) _ a) c f j m)|ow b=>(cases h with|ow a c f j=>exact .ow (l b (RI.1 k) _ a) c f j)|d x=>(cases h with|d h=>exact .d h)|rp e o=>(cases h with|rp a c f=>exact .rp a c f)|any=>exact .any _|_=>grind[SX]
theorem Z21(e:∀b∈ids,∀β,ρ b=U β->ρ' b=U β){x v}(h:Zk ρ w Im x v)(c:refs ids x=Y):Zk ρ' w Im x v:=by
 cases x with
 |ag l =>obtain⟨m,rfl,k1,n,k⟩:=Hx h;simp only[refs,La]at c;exact .ag _ m k1 n λi a u g j=>N9 e (k i a u g j) (c a (L g))
 |fn f l =>
  cases h with|fn k1 k =>simp only[refs,La]at c;exact .fn k1 λi a u g j=>N9 e (k i a u g j) (c a (L g))
 |ic t a=>cases h with|ic h=>exact .ic (N9 e h c)
 |fm t a=>cases h with|fm h=>exact .fm (N9 e h c)
 |pt=>exact N9 e h c
 |os=>exact N9 e h c
 |ow=>exact N9 e h c
 |d=>exact N9 e h c
 |rp=>exact N9 e h c
 |tu=>exact N9 e h c
 |gd=>exact N9 e h c
 |any=>exact N9 e h c
theorem Z6r(e:∀b∈ids,∀β,ρ b=U β->ρ' b=U β){x v}(h:Zk ρ w Im x v)(c:Te ids x=Y):Zk ρ' w Im x v:=by
 cases x with
 |tu l =>
  cases h with|tu _ f k1 j =>simp only[Te,La]at c;exact .tu _ f k1 λi a u d g=>Z21 e (j i a u d g) (c a (L d))
 |_=>exact Z21 e h c
theorem ZjJ(q:∀b∈ids,∀β,ρ b=U β->ρ' b=U β){β B}(h:RelB ρ w Im β B)(f:Z09 ids B=Y):RelB ρ' w Im β B:=by
 cases B with|box r cells =>obtain⟨j,c,g,i,k,l,m,d,n⟩:=h;simp only[Z09,La]at f;exact⟨j,c,g,i,k,l,m,d,λo a v e p=>Z21 q (n o a v e p) (f a (L e))⟩|arr r s els=>exact h|mp ks=>exact h|dead=>trivial
end
theorem Rh{hl}{k:Nat}:(∀B,Bv hl k=U B->(k,B)∈hl)/\(Bv hl k=X↔k∉hl.map (·.1)):=by induction hl<;>grind[Bv,Lb]
def Z1t{ids}:∀{xs a:List AV} {l:List (AV×AV)},wkT ids xs a=U l->EJ l->xs.length=a.length/\∀(i:Nat) (y:AV),a[i]?=U y->y=.any\/(xs[i]?=U y/\Te ids y=Y)
 |[],[],l,_,_=>by simp
 |[],_::_,l,h,_=>by simp[wkT]at h
 |_::_,[],l,h,_=>by simp[wkT]at h
 |x::xs,y::a,l,h,he=>by
  simp only[wkT]at h;split at h
  .cases h
  rename_i r c;split at h
  .rename_i j;cases h;obtain⟨b,e⟩:=Z1t c he;grind[Z97]
  .split at h
   .rename_i j g;cases h;obtain⟨b,e⟩:=Z1t c (λp f=>he p (Lb _ f));refine⟨by simp[b],λi z d=>?_⟩;cases i with
    |zero =>
     simp at d;subst d;right;have:x=y:=he (x,y) pq;grind
    |succ i=>grind
   .cases h
def Z9N{ids H}:∀{hl:List (Nat×Z3)} {l:List (AV×AV)},wkH ids H hl=U l->EJ l->∀b B,(b,B)∈hl->H b=U B/\Z09 ids B=Y
 |[],l,_,_=>by simp
 |(b0,B0)::r,l,h,he=>by
  simp only[wkH]at h;split at h
  .cases h
  rename_i a c;split at h
  .cases h
  rename_i m f;split at h;rotate_left
  .cases h
  rename_i i;cases h;intro b B d;rcases N.1 d with e|e
  .injection e with e1 e2;subst e1;subst e2;have:G9 a=G9 B:=he (G9 a,G9 B) pq;grind[Z2J]
  .exact Z9N f (λp g=>he p (Lb _ g)) b B e
theorem DC{s:St}{t:Tg}{l:List (AV×AV)}(h:wk s t=U l)(o:EJ l){Ow:Own}{Im0:Nat->Prop}{w0:World}{a:Act}{w:World}(hS:Sys Ow Im0 w0 s.tmps s.H s.clk a w):Sys Ow Im0 w0 t.st.tmps t.st.H t.st.clk a w:=by
 unfold wk at h;split at h
 .cases h
 rename_i m n;split at h;rotate_left
 .cases h
 rename_i r u h1 h2;cases h;obtain⟨ρ,x,I,T⟩:=hS;obtain⟨k1,k2⟩:=Z1t h1 o.left;have p:=Z9N h2 o.right;let e:=t.hl.map (·.1);let ρ':ZM:=λb=>if R6 b e then ρ b else X
 have k:∀b∈e,∀β,ρ b=U β->ρ' b=U β:=by grind[RI]
 have c:∀b β,ρ' b=U β->ρ b=U β:=by grind
 have d:∀b,live t.st.H b->live s.H b:=λb ⟨B,f,j⟩=>⟨B,(p b B (Rh.1 B f)).1,j⟩
 refine⟨ρ',x,⟨I.kept,λb z β β' g r u f j q3 q4=>I.inj b z β β' g (d _ r) (d _ u) (c _ _ f) (c _ _ j) q3 q4,λb β g l q=>I.notIm b β g (d _ l) (c _ _ q),λb β g q=>I.bnd b β g (c _ _ q),λb β g q=>I.own b β g (c _ _ q),I.imb,I.im0,λb B q=>?_,λb _ q=>?_,⟨by show 1<=t.clk;omega,λb β h q=>I.one.2 b β h (c _ _ q)⟩⟩,⟨by rw[T.size,k1];rfl,λi y v hy hv=>?_,T.defers⟩⟩
 .obtain⟨f,j⟩:=p b B (Rh.1 B q);obtain⟨β,m1,m2⟩:=I.blk b B f;have hb:b∈e:=by
   have:=Rh.1 B q;exact Ld.2 ⟨(b,B),this,rfl⟩
  grind[ZjJ]
 .have:b∉e:=Rh.2.1 q;grind[RI]
 .rcases k2 i y hy with rfl|⟨f,j⟩
  .exact .any _
  .exact Z6r k (T.tmp i y v f hv) j
def Mn(k:Nat):List (Nat×Tg×Ex×Tg)->Option (Tg×Ex×Tg)|[]=>X|(j,h)::r=>if j=k then U h else Mn k r
def Zj1:Operand->Nat|.tmp t=>t|_=>30000
def brs:List Hint->List Hint|.br b::l=>.br b::l|_::l=>brs l|[]=>[]
structure ZL where
 e:Ex
 s:St
 ph:List Prop
 eq:List (AV×AV)
def Cp(P:Program)(hints:List (Nat×List Hint))(a:List (Nat×Tg×Ex×Tg)):Code->St->Option ZL|.skip,s=>U ⟨.nrm,s,[],[]⟩|.label _,s=>U ⟨.nrm,s,[],[]⟩|.region _ ops dr,s=>(match (match dr with|Y=>Z17 P s.clk ops hints s.tmps s.H|Z=>Rw P s.clk ops hints (LD ops.size) s.tmps s.H)with|some x=>U ⟨.nrm,⟨x.tmps,x.H,s.clk+1⟩,x.ph,x.eq⟩|none=>X)|.seq x y,s=>(match Cp P hints a x s with|none=>X|some r=>match r.e with|.nrm=>(match Cp P hints a y r.s with|some q=>U ⟨q.e,q.s,r.ph++q.ph,r.eq++q.eq⟩|none=>X)|e=>U ⟨e,r.s,r.ph,r.eq⟩)|.cond c x y,s=>(match asB (ev s.tmps c)with|none=>X|some b=>match brs (look (Zj1 c) hints)with|.br true::_=>(match Cp P hints a x s with|some q=>U ⟨q.e,q.s,(b=Y)::q.ph,q.eq⟩|none=>X)|.br false::_=>(match Cp P hints a y s with|some q=>U ⟨q.e,q.s,(b=Z)::q.ph,q.eq⟩|none=>X)|_=>match b with|true=>Cp P hints a x s|false=>Cp P hints a y s)|.block n c,s=>(match Mn n a with|some (pre,e,post)=>(match wk s pre with|some l=>U ⟨e,post.st,[CSpec P (.block n c) pre.st e post.st],l⟩|none=>X)|none=>match Cp P hints a c s with|none=>X|some r=>match r.e with|.ext m=>if m=n then U ⟨.nrm,r.s,r.ph,r.eq⟩else U r|_=>U r)|.exit n,s=>U ⟨.ext n,s,[],[]⟩|.ret,s=>U ⟨.ret,s,[],[]⟩|_,_=>X
def Sys.clk{Ow Im0 w0 tmps H}{clk c:Nat}{a w}(h:Sys Ow Im0 w0 tmps H clk a w)(d:clk<=c):Sys Ow Im0 w0 tmps H c a w:=by obtain⟨ρ,e,I,T⟩:=h;exact⟨ρ,e,⟨I.kept,I.inj,I.notIm,I.bnd,I.own,I.imb,I.im0,I.blk,λb f h=>I.fresh b (Lh (Nat.mul_le_mul_right _ d) f) h,Lh I.one.1 d,I.one.2⟩,T⟩
def MH{P:Program}{hints:List (Nat×List Hint)}{a0:List (Nat×Tg×Ex×Tg)}:∀{c:Code} {s:St} {r:ZL},Cp P hints a0 c s=U r->B9 r.ph->EJ r.eq->CSpec P c s r.e r.s:=by
 intro c;induction c with
 |skip=>intro s r h _ _ o d t a w j;simp only[Cp,Li]at h;subst h;exact wp_skip ⟨rfl,j⟩
 |label n=>intro s r h _ _ o d t a w j;simp only[Cp,Li]at h;subst h;exact wp_label ⟨rfl,j⟩
 |region n a7 dr =>
  intro s r h i g o d t a w j;simp only[Cp]at h;split at h;rotate_left
  .cases h
  rename_i x hx;cases h;cases dr with
  |false=>exact wp_region (Z43 hx j i g λa' w' k=>⟨rfl,k.clk pq⟩)
  |true=>exact ZaS hx j i g λa' w' k=>⟨rfl,k.clk pq⟩
 |seq x y u z =>
  intro s r h i g o d t a w j;simp only[Cp]at h;split at h
  .cases h
  rename_i q v;split at h
  .rename_i he;split at h;rotate_left
   .cases h
   rename_i q2 a3;cases h;obtain⟨p1,p2⟩:=Hk.1 i;refine wp_seq (wp_mono (u v p1 g.left o d t a w j) ?_);rintro e a' w' ⟨rfl,k⟩;rw[he];exact z a3 p2 g.right o d t a' w' k
  .rename_i he;cases h;refine wp_seq (wp_mono (u v i g o d t a w j) ?_);rintro e a' w' ⟨rfl,k⟩;cases hqe:q.e with
   |nrm=>grind
   |ext n=>exact⟨rfl,k⟩
   |ret=>exact⟨rfl,k⟩
 |cond c x y u z =>
  intro s r h i g o d t a w j;simp only[Cp]at h;split at h
  .cases h
  rename_i b hb;have hv:a.eval c=.bool b:=by
   obtain⟨ρ,Im,I,T⟩:=j;have:=Ed T c;rw[Z0B hb]at this;exact BV this
  split at h
  .split at h;rotate_left
   .cases h
   rename_i q v;cases h;obtain⟨p1,p2⟩:=Ha.1 i;exact wp_cond_true (by rw[hv,p1]) (u v p2 g o d t a w j)
  .split at h;rotate_left
   .cases h
   rename_i q v;cases h;obtain⟨p1,p2⟩:=Ha.1 i;exact wp_cond_false (by rw[hv,p1]) (z v p2 g o d t a w j)
  .split at h
   .exact wp_cond_true hv (u h i g o d t a w j)
   .exact wp_cond_false hv (z h i g o d t a w j)
 |block n c ih =>
  intro s r h i g o d t a w j;simp only[Cp]at h;split at h
  .rename_i a5 e a1 hl;split at h;rotate_left
   .cases h
   rename_i l a4;cases h;have hC:CSpec P (.block n c) a5.st e a1.st:=by simpa[B9]using i
   exact hC o d t a w (DC a4 g j)
  .split at h
   .cases h
   rename_i q v;split at h
   .rename_i m hm;split at h
    .rename_i a2;cases h;refine wp_block (wp_mono (ih v i g o d t a w j) ?_);grind[Ex.exit,Exit.inBlock]
    .rename_i a2;cases h;refine wp_block (wp_mono (ih v i g o d t a w j) ?_);grind[Ex.exit,Exit.inBlock]
   .rename_i a6;cases h;refine wp_block (wp_mono (ih v i g o d t a w j) ?_);rintro e a' w' ⟨rfl,k⟩;cases hqe:r.e with
    |nrm=>exact⟨rfl,k⟩
    |ext m=>grind
    |ret=>exact⟨rfl,k⟩
 |exit n=>intro s r h _ _ o d t a w j;simp only[Cp,Li]at h;subst h;exact wp_exit ⟨rfl,j⟩
 |ret=>intro s r h _ _ o d t a w j;simp only[Cp,Li]at h;subst h;exact wp_ret ⟨rfl,j⟩
 |loop c ih=>grind[Cp]
 |rangeFunc f p x y=>grind[Cp]
 |scope c ih=>grind[Cp]
 |goto n=>grind[Cp]
 |refuse y=>grind[Cp]
def IY(P:Program)(c:Code):Nat->St->Ex->St->Prop|0,s,e,t=>e≠.nrm/\CSpec P c s e t|n+1,s,e,t=>∃a,CSpec P c s .nrm a/\IY P c n a e t
def least{p:Nat->Prop}(h:∃n,p n):∃n,p n/\∀m,p m->n<=m:=by
 obtain⟨n,e⟩:=h;induction n using Xd with|_ n f =>by_cases a:∃m,m<n/\p m;obtain⟨m,b,c⟩:=a;exact f m b c;refine⟨n,e,λm d=>?_⟩;rcases Nat.lt_or_ge m n with h|h;exact absurd ⟨m,h,d⟩ a;exact h
open Classical in
def Z2W{P c n s t e}(h:IY P c n s e t):CSpec P (.loop c) s e t:=by
 intro k f v a w hS;let I:Act->World->Prop:=λa w=>∃n i,Sys k f v i.tmps i.H i.clk a w/\IY P c n i e t;let μ:Act->World->Nat:=λa w=>if h:I a w then LK (least h)else 0;refine wp_loop I μ ⟨n,s,hS,h⟩ λa w p=>?_;have hμ:μ a w=LK (least p):=dif_pos p;obtain⟨k1,x⟩:=LZ (least p);rw[<-hμ]at k1 x;obtain⟨i,g,q⟩:=k1;generalize hm:μ a w=m at q x⊢;cases m with
 |zero =>
  obtain⟨o,j⟩:=q;refine wp_mono (j k f v a w g) ?_;rintro z l u ⟨rfl,b⟩;cases e with|nrm=>exact absurd rfl o|ext n=>exact⟨rfl,b⟩|ret=>exact⟨rfl,b⟩
 |succ m =>obtain⟨y,o,j⟩:=q;refine wp_mono (o k f v a w g) ?_;rintro z l u ⟨rfl,b⟩;have d:I l u:=⟨m,y,b,j⟩;refine⟨d, ?_⟩;have r:μ l u=LK (least d):=dif_pos d;have:=(LZ (least d)).2 m ⟨y,b,j⟩;rw[<-r]at this;omega
def ZhD{P c}{n:Nat}{s t}(h:CSpec P c s (.ext n) t):CSpec P (.block n c) s .nrm t:=by intro f b i a w g;refine wp_block (wp_mono (h f b i a w g) ?_);rintro e a' w' ⟨rfl,d⟩;simp only[Ex.exit,Exit.inBlock,if_true];exact⟨by trivial,d⟩
def Zlj{P c}{n:Nat}{s t}(h:CSpec P c s .ret t):CSpec P (.block n c) s .ret t:=by intro f b i a w g;refine wp_block (wp_mono (h f b i a w g) ?_);rintro e a' w' ⟨rfl,d⟩;exact⟨rfl,d⟩
def rounds{P c a n s t e}(b:CSpec P c s .nrm a)(d:IY P c n a e t):IY P c (n+1) s e t:=⟨a,b,d⟩
def DX(P:Program)(hints:List (Nat×List Hint))(a:List (Nat×Tg×Ex×Tg))(c:Code)(s:St)(t:Tg):Option ZL:=
 match Cp P hints a c s with|none=>X|some r=>match wk r.s t with|some l=>U ⟨r.e,r.s,r.ph,r.eq++l⟩|none=>X
def PM:Option ZL->Prop|some r=>B9 r.ph|none=>False
def Z0q:Option ZL->List AV|some r=>r.eq.map (·.1)|none=>[]
def Z08:Option ZL->List AV|some r=>r.eq.map (·.2)|none=>[]
def exO:Option ZL->Option Ex|some r=>U r.e|none=>X
theorem Au{l:List (AV×AV)}(h:l.map (·.1)=l.map (·.2)):EJ l:=by
 induction l with|nil=>intro p a;simp at a|cons x l b =>simp only[Lf,Ly]at h;intro p a;rcases N.1 a with e|e;rw[e];exact h.1;exact b h.2 p e
def Z4W{P}(hints:List (Nat×List Hint)) b{c s}{e:Ex}{t}{φ:Prop}(f:φ)(m:PM (DX P hints b c s t)=φ)(i:Z0q (DX P hints b c s t)=Z08 (DX P hints b c s t))(j:exO (DX P hints b c s t)=U e):CSpec P c s e t.st:=by
 rw[<-m]at f;cases hr:DX P hints b c s t with
 |none=>rw[hr]at f;exact f.elim
 |some r =>
  rw[hr]at f i j;have d:EJ r.eq:=Au i;have o:r.e=e:=by simpa[exO]using j
  unfold DX at hr;split at hr;cases hr;rename_i q p;split at hr;rotate_left;cases hr;rename_i l hl;cases hr;intro k g u a w n;refine wp_mono (MH p f d.left k g u a w n) ?_;rintro e' a' w' ⟨rfl,h⟩;exact⟨by rw[<-o],DC hl d.right h⟩
def Ca(els:List (List DV)):Prop:=∀e∈els,∀x∈e,∃v,x=.sc v
def idx(b:Nat):List Nat->Nat->Option Nat|[],_=>X|x::l,k=>if x=b then U k else idx b l (k+1)
def Ac(keep:List Nat)(H:Heap)(fr:Bool):AV->Option (AV×List Prop)|.d x=>(match fr with|false=>U (.d x,[])|true=>match x with|.sc v=>U (.d (.sc v),[])|.sl s els=>match els with|[]=>U (.d (.sl s []),[])|_=>X)|.rp e o=>(match fr with|false=>U (.rp e o,[])|true=>X)|.ow b=>(match idx b keep 0 with|some k=>U (.ow k,[])|none=>match H b with|some (.arr _ s els)=>U (.d (.sl s els),match fr with|Y=>[Ca els]|Z=>[])|_=>X)|.os b o n=>(match idx b keep 0 with|some k=>U (.os k o n,[])|none=>match H b with|some (.arr _ s els)=>U (.d (.sl s ((els.drop o).take n)),match fr with|Y=>[Ca els]|Z=>[])|_=>X)|_=>X
def SP(f:AV->Option (AV×List Prop)):List AV->Option (List AV×List Prop)|[]=>U ([],[])|a::l=>match f a,SP f l with|some (x,p),some (r,q)=>U (x::r,p++q)|_,_=>X
def PY(keep:List Nat)(H:Heap)(fr:Bool)(a:AV):Option (AV×List Prop):=match a with|.ag l=>(match SP (Ac keep H fr) l with|U (r,q)=>U (.ag r,q)|X=>X)|.fn f l=>(match SP (Ac keep H fr) l with|U (r,q)=>U (.fn f r,q)|X=>X)|.ic t (.ag l)=>(match SP (Ac keep H fr) l with|U (r,q)=>U (.ic t (.ag r),q)|X=>X)|.ic t x=>(match Ac keep H fr x with|U (r,q)=>U (.ic t r,q)|X=>X)|x=>Ac keep H fr x
def Td(keep:List Nat)(H:Heap)(fr:Bool)(a:AV):Option (AV×List Prop):=match a with|.tu l=>(match SP (PY keep H fr) l with|U (r,q)=>U (.tu r,q)|X=>X)|x=>PY keep H fr x
def A8(keep:List Nat)(H:Heap)(fr:Bool):Option (List Z3×List Prop):=match keep with|[]=>U ([],[])|b::r=>match H b,A8 r H fr with|some (.arr ty s els),some (l,q)=>U (.arr ty s els::l,(match fr with|Y=>[Ca els]|Z=>[])++q)|_,_=>X
def OG(P:Program)(tmps:List AV)(H:Heap):ResultVar->Option AV|.tmp t=>U (tmps.getD t .any)|.cell t ty=>match Dg P ty [] (tmps.getD t .any) H with|some r=>(match r.ph with|[]=>U r.val|_=>X)|none=>X
def Ru(P:Program)(tmps:List AV)(H:Heap):List ResultVar->Option (List AV)|[]=>U []|x::l=>match OG P tmps H x,Ru P tmps H l with|some a,some r=>U (a::r)|_,_=>X
def SF:List AV->AV|[a]=>a|l=>.tu l
def Sy(x r:AV):AV×List Prop:=match x with|.d (.sl s els)=>(match s with|0=>(match r with|.d (.sl s' _)=>(.d (.sl s' []),[els=[]])|_=>(.d (.sl 0 els),[]))|s+1=>(.d (.sl (s+1) els),[]))|x=>(x,[])
def Ik(f:AV->AV->AV×List Prop):List AV->List AV->List AV×List Prop|x::l,r::m=>((f x r).1::(Ik f l m).1,(f x r).2++(Ik f l m).2)|l,_=>(l,[])
def D7(x r:AV):AV×List Prop:=match x with|.ag l=>(match r with|.ag m=>(.ag (Ik Sy l m).1,(Ik Sy l m).2)|_=>(.ag l,[]))|x=>Sy x r
def Ij(x r:AV):AV×List Prop:=match x with|.tu l=>(match r with|.tu m=>(.tu (Ik D7 l m).1,(Ik D7 l m).2)|_=>(.tu l,[]))|x=>D7 x r
section
variable{ρ:ZM}{w:World}{Im:Nat->Prop}
theorem Z36{x r v}(h:Zk ρ w Im x v)(b:B9 (Sy x r).2):Zk ρ w Im (Sy x r).1 v:=by
 unfold Sy at b⊢;split at b;rename_i s els;split at b;split at b;rename_i g e';have i:els=[]:=b;subst i;cases h with
 |d h =>
  cases h with|slNil _ a c=>exact .d (.slNil g a c)|sl _ _ p n c f e hc=>simp at e;subst e;exact .d (.slNil g _ c)
 exact h;exact h;exact h
theorem Pt{f}:∀{l m:List AV},B9 (Ik f l m).2->(Ik f l m).1.length=l.length/\∀(i:Nat) (y:AV),(Ik f l m).1[i]?=U y->∃x,l[i]?=U x/\(y=x\/∃r,y=(f x r).1/\B9 (f x r).2)
 |[],_,_=>by simp[Ik]
 |x::l,[],_=>⟨rfl,λi y h=>⟨y,h,.inl rfl⟩⟩
 |x::l,r::m,h=>by
  obtain⟨b,c⟩:=Hk.1 h;obtain⟨k1,g⟩:=Pt c;refine⟨by simp[Ik,k1],λi y a=>?_⟩;cases i with
  |zero =>
   simp only[Ik,List.getElem?_cons_zero,Li]at a;exact⟨x,rfl,.inr ⟨r,a.symm,b⟩⟩
  |succ i =>
   obtain⟨z,d,e⟩:=g i y (by simpa[Ik]using a);exact⟨z,by simpa using d,e⟩
theorem Za7{x r v}(h:Zk ρ w Im x v)(b:B9 (D7 x r).2):Zk ρ w Im (D7 x r).1 v:=by unfold D7 at b⊢;split at b;split at b;obtain⟨f,rfl,k1,l,e⟩:=Hx h;obtain⟨m,n⟩:=Pt b;refine .ag _ f (by rw[m];exact k1) l λi a u k d=>?_;obtain⟨x,c,g⟩:=n i a k;rcases g with rfl|⟨r,rfl,j⟩;exact e i _ u c d;exact Z36 (e i x u c d) j;exact h;exact Z36 h b
theorem Z5n{x r v}(h:Zk ρ w Im x v)(b:B9 (Ij x r).2):Zk ρ w Im (Ij x r).1 v:=by
 unfold Ij at b⊢;split at b;split at b;cases h with|tu _ f k1 e =>obtain⟨l,m⟩:=Pt b;refine .tu _ f (by rw[l];exact k1) λi a u k d=>?_;obtain⟨x,c,g⟩:=m i a k;rcases g with rfl|⟨r,rfl,j⟩;exact e i _ u c d;exact Za7 (e i x u c d) j
 exact h;exact Za7 h b
end
def Iv(P:Program)(hints:List (Nat×List Hint))(a:List (Nat×Tg×Ex×Tg))(keep:List Nat)(fn:Func)(args:List AV)(fr:Bool)(res:AV)(news:List Z3):Option ZL:=
 match fn.body with|none=>X|some c=>match args.all A9 with|false=>X|true=>match Cp P hints a c ⟨args++Xb (fn.ntmps-args.length) .any,λ_=>X,1⟩with|none=>X|some r=>match r.e with|.ext _=>X|_=>match Ru P r.s.tmps r.s.H fn.results.toList with|none=>X|some l=>match Td keep r.s.H fr (SF l),A8 keep r.s.H fr with|some (x,p),some (ns,q)=>if news.length=ns.length then U ⟨r.e,r.s,r.ph++(p++(Ij x res).2)++q,r.eq++[((Ij x res).1,res)]++(ns.map G9).zip (news.map G9)⟩else X|_,_=>X
def Dd(tmps:Array Value):ResultVar->Sem Value|.tmp t=>pure (tmps.getD t undef)|.cell a t=>do loadVar t (<-asAddr (tmps.getD a undef))
theorem Z7P fn(tmps:Array Value):results fn tmps=(do
  let vs <-fn.results.mapM (Dd tmps)
  pure (if h:vs.size=1 then vs[0]else .tuple vs)):=by unfold results;congr 1
section
variable{Ow:Own}{Im0:Nat->Prop}{w0:World}{ρ:ZM}{w:World}{Im:Nat->Prop}{H:Heap}{clk:Nat}
theorem Zds{P tmps a}(I:Inv Ow Im0 w0 ρ w Im H clk)(T:Ct Ow.ds ρ w Im tmps a){r:ResultVar}{x:AV}(h:OG P tmps H r=U x) :∃v,(Dd a.tmps r).run P w=.ok v w/\Zk ρ w Im x v:=by
 have b:∀t,Zk ρ w Im (tmps.getD t .any) (a.tmps.getD t undef):=λt=>Ed T (.tmp t);cases r with|tmp t =>simp only[OG,Li]at h;subst h;exact⟨_,rfl,b t⟩|cell c t =>simp only[OG]at h;split at h;rotate_left;cases h;rename_i r e;split at h;rotate_left;cases h;rename_i d;cases h;obtain⟨p,v,h1,h2,h3,_⟩:=Z7e I (b c) e (by rw[d];trivial);grind[Dd,asAddr]
theorem Z60{P tmps a}(I:Inv Ow Im0 w0 ρ w Im H clk)(T:Ct Ow.ds ρ w Im tmps a):∀{rs:List ResultVar} {l:List AV},Ru P tmps H rs=U l ->
  ∃b:List Value,(rs.mapM (Dd a.tmps)).run P w=.ok b w/\b.length=l.length/\∀(i:Nat) (x:AV) (v:Value),l[i]?=U x->b[i]?=U v->Zk ρ w Im x v
 |[],l,h=>by simp[Ru]at h;simp_all
 |r::rs,l,h=>by
  simp only[Ru]at h;split at h;rotate_left
  .cases h
  rename_i x m e d;cases h;obtain⟨v,h1,h2⟩:=Zds I T e;obtain⟨b,h3,c,h5⟩:=Z60 I T d;refine⟨v::b, ?_,by simp[c],λi y u hy hu=>?_⟩
  .simp_all
  grind
theorem Z1U{P}{fn:Func}{tmps a}(I:Inv Ow Im0 w0 ρ w Im H clk)(T:Ct Ow.ds ρ w Im tmps a){l:List AV}(h:Ru P tmps H fn.results.toList=U l) :∃v,(results fn a.tmps).run P w=.ok v w/\Zk ρ w Im (SF l) v:=by
 obtain⟨b,d,f,c⟩:=Z60 I T h;have hm:(fn.results.mapM (Dd a.tmps)).run P w=.ok b.toArray w:=by
  have e:fn.results=fn.results.toList.toArray:=by simp
  rw[e,List.mapM_toArray];simp only[Sem.run_map,d,LQ]
 refine⟨if h:b.toArray.size=1 then b.toArray[0]else .tuple b.toArray, ?_, ?_⟩;grind[Z7P,Sem.run_bind,LQ,Sem.run_pure];by_cases hl:b.length=1;obtain⟨v,rfl⟩:∃v,b=[v]:=L6.1 hl;obtain⟨x,rfl⟩:∃x,l=[x]:=L6.1 oq;simpa[SF]using c 0 x v rfl rfl;rw[dif_neg (by simpa using hl)];have:SF l=.tu l:=by(unfold SF;split;grind;rfl)
 rw[this];exact .tu l _ (by simpa using f) λi x v j g=>c i x v j (by simpa using g)
end
def Z25{b}:∀{l:List Nat} {k n:Nat},idx b l k=U n->k<=n/\l[n-k]?=U b
 |[],k,n,h=>by simp[idx]at h
 |x::l,k,n,h=>by
  simp only[idx]at h;split at h
  .grind
  .obtain⟨h1,h2⟩:=Z25 h;grind
def Z3p{b}:∀{l:List Nat} {k:Nat},idx b l k=X->b∉l
 |[],_,_=>by simp
 |x::l,k,h=>by
  simp only[idx]at h;split at h
  .cases h
  .rename_i e;have:=Z3p h;grind
theorem Z1a{w w' Im Im' els}(b:Ca els){e:List DV}{x:DV}{v}(a:e∈els)(c:x∈e)(h:CM w Im x v):CM w' Im' x v:=by
 obtain⟨u,rfl⟩:=b e a x c;cases h with|sc _ h=>exact .sc _ h
def TX{f}:∀{l r:List AV} {q:List Prop},SP f l=U (r,q)->B9 q->r.length=l.length/\∀(i:Nat) (y:AV),r[i]?=U y->∃x p,l[i]?=U x/\f x=U (y,p)/\B9 p
 |[],r,q,h,_=>by grind[SP]
 |a::l,r,q,h,hq=>by
  simp only[SP]at h;split at h;rotate_left
  .cases h
  rename_i x p m q' hx b;cases h;obtain⟨p1,p2⟩:=Hk.1 hq;obtain⟨h1,h2⟩:=TX b p2;grind
section
variable{Im0:Nat->Prop}{w0:World}{ρ:ZM}{w:World}{Im:Nat->Prop}{H:Heap}{clk:Nat}{keep:List Nat}{fr:Bool}
def R9(ρ:ZM)(keep:List Nat):ZM:=λk=>match keep[k]? with|U b=>ρ b|X=>X
def ImK(fr:Bool)(Im:Nat->Prop)(ρ:ZM)(H:Heap)(keep:List Nat):Nat->Prop:=λg=>(fr=Z/\Im g)\/∃b β,b∉keep/\live H b/\ρ b=U β/\β.g=U g
theorem Z3x{x v}{s:Nat}{els els0:List (List DV)}{b:Nat}(I:Inv EU Im0 w0 ρ w Im H clk)(hx:Zk ρ w Im x v)(h:EX H x=U (s,els))(t:b∉keep)(f:live H b)(r:∀e∈els,e∈els0)(hf:fr=Y->Ca els0)(j:∀a n c,v=.slice (U a) n c->n≠0->∃β,ρ b=U β/\β.g=U a.block):CM w (ImK fr Im ρ H keep) (.sl s els) v:=by
 obtain⟨p,c,rfl,k,z,hl,d⟩:=AH I hx h;by_cases m:els=[];subst m;exact .slNil _ _ _;rcases d with d|⟨q,rfl,hq,d⟩;grind;have hn:els.length≠0:=by grind
 obtain⟨β,hβ,l⟩:=j q _ c rfl hn;refine .sl s els q els.length c (λi o=>(w.cell? ⟨q.block,q.off+(i*s+o),X⟩).getD undef) rfl z k (hl m) hq (.inr ⟨b,β,t,f,hβ,l⟩) ?_ ?_;grind;intro i e o y hi ho;obtain⟨u,k1,k2⟩:=d i e o y hi ho;rw[k1];cases fr with|true=>grind[Z1a]|false=>exact k2.mono (Ext.refl _ _) (λg l=>.inl ⟨rfl,l⟩)
theorem TP(I:Inv EU Im0 w0 ρ w Im H clk){x y:AV}{v:Value}{p:List Prop}(f:Zk ρ w Im x v)(h:Ac keep H fr x=U (y,p))(hp:B9 p):Zk (R9 ρ keep) w (ImK fr Im ρ H keep) y v:=by
 unfold Ac at h;split at h
 .split at h
  .cases h;cases f with
   |d f=>exact .d (f.mono (Ext.refl _ _) (λg hg=>.inl ⟨rfl,hg⟩))
  .split at h
   .cases h;cases f with
    |d f=>cases f with|sc _ h=>exact .d (.sc _ h)
   .split at h
    .cases h;cases f with
     |d f =>
      cases f with
      |slNil=>exact .d (.slNil _ _ _)
      |sl _ _ _ _ _ _ t=>simp at t;subst t;exact .d (.slNil _ _ _)
    .cases h
 .split at h
  .cases h;cases f with
   |rp u o q=>exact .rp u (.inl ⟨rfl,o⟩) (λj x f=>let ⟨v,k1,k2⟩:=q j x f;⟨v,k1,k2.mono (Ext.refl _ _) (λg hg=>.inl ⟨rfl,hg⟩)⟩)
  .cases h
 .rename_i b;split at h
  .rename_i k i;cases h;obtain⟨_,a1⟩:=Z25 i;cases f with
   |ow u o q z=>exact .ow (by grind[R9]) o q z
  .rename_i i;have l:=Z3p i;split at h;rotate_left
   .cases h
   rename_i ty s els r;cases h;refine .d (Z3x (b:=b) (els0:=els) I f (by simp[EX,r]) l ⟨_,r,by simp⟩ (λe he=>he) (λa0=>by grind[B9]) λa n c hv t=>?_);subst hv;generalize a2:Value.slice (U a) n c=vv at f;cases f<;>grind
 .rename_i b oo m;split at h
  .rename_i k i;cases h;obtain⟨_,a1⟩:=Z25 i;cases f with
   |os u o q z h5=>exact .os (by grind[R9]) o q z h5
  .rename_i i;have l:=Z3p i;split at h;rotate_left
   .cases h
   rename_i ty s els r;cases h;refine .d (Z3x (b:=b) (els0:=els) I f (by simp[EX,r]) l ⟨_,r,by simp⟩ (λe he=>List.mem_of_mem_drop (List.mem_of_mem_take he)) (λa0=>by grind[B9]) λa n c hv t=>?_);subst hv;generalize a2:Value.slice (U a) n c=vv at f;cases f<;>grind
 .cases h
theorem Z5i(I:Inv EU Im0 w0 ρ w Im H clk){x y:AV}{v}{p:List Prop}(b:Zk ρ w Im x v)(h:PY keep H fr x=U (y,p))(d:B9 p):Zk (R9 ρ keep) w (ImK fr Im ρ H keep) y v:=by
 unfold PY at h;split at h
 .split at h;rotate_left;cases h;rename_i r q c;cases h;obtain⟨g,j⟩:=TX c d;obtain⟨e,rfl,k1,f,m⟩:=Hx b;refine .ag _ e oq f λi a u k l=>?_;grind[TP]
 .split at h;rotate_left;cases h;rename_i r q c;cases h;obtain⟨g,j⟩:=TX c d;cases b with|fn k1 m =>refine .fn oq λi a u k l=>?_;grind[TP]
 .split at h;rotate_left;cases h;rename_i r q c;cases h;obtain⟨g,j⟩:=TX c d;cases b with|ic b =>obtain⟨e,rfl,k1,f,m⟩:=Hx b;refine .ic (.ag _ e oq f λi a u k l=>?_);grind[TP]
 .split at h;rotate_left;cases h;rename_i r q c;cases h;cases b with|ic b=>exact .ic (TP I b c d)
 grind[TP]
theorem Zel(I:Inv EU Im0 w0 ρ w Im H clk){x y:AV}{v}{p:List Prop}(e:Zk ρ w Im x v)(h:Td keep H fr x=U (y,p))(c:B9 p):Zk (R9 ρ keep) w (ImK fr Im ρ H keep) y v:=by
 unfold Td at h;split at h
 .split at h;rotate_left;cases h;rename_i r q d;cases h;obtain⟨h1,h2⟩:=TX d c;cases e with|tu _ b k1 k3 =>refine .tu _ b oq λi a u ha hu=>?_;grind[Z5i]
 grind[Z5i]
theorem Z5g{H}:∀{keep:List Nat} {l:List Z3} {q:List Prop},A8 keep H fr=U (l,q)->B9 q->l.length=keep.length/\∀(k:Nat) (B:Z3),l[k]?=U B->∃b ty s els,keep[k]?=U b/\H b=U (.arr ty s els)/\B=.arr ty s els/\(fr=Y->Ca els)
 |[],l,q,h,_=>by grind[A8]
 |b::keep,l,q,h,hq=>by
  simp only[A8]at h;split at h;rotate_left
  .cases h
  rename_i ty s els m q' hb d;cases h;obtain⟨p1,p2⟩:=Hk.1 hq;obtain⟨c,h2⟩:=Z5g d p2;refine⟨by simp[c],λk B a=>?_⟩;cases k with|zero=>simp at a;subst a;grind[B9]|succ k=>grind
end
theorem Z1o(b:Nat):∀{l:List Nat} {i j:Nat},l.Nodup->l[i]?=U b->l[j]?=U b->i=j
 |[],i,j,_,hi,_=>by simp at hi
 |x::l,i,j,hn,hi,hj=>by
  obtain⟨h1,a⟩:=Lu.1 hn;cases i with
  |zero =>
   grind
  |succ i =>
   cases j with
   |zero =>
    grind
   |succ j =>
    have:=Z1o b a (by simpa using hi) (by simpa using hj);omega
def Pv{w:World}{Im:Nat->Prop}{c:Array Value}{args:List AV}{n:Nat}(d:∀g,Im g->g<w.heap.size)(a:c.size=args.length)(e:∀(i:Nat) (x:AV) (v:Value),args[i]?=U x->c[i]?=U v->Zk (λ_=>X) w Im x v) :Sys EU Im w (args++Xb (n-args.length) .any) (λ_=>X) 1 {tmps:=c++LI (n-c.size) undef,defers:=[]} w:=by refine⟨λ_=>X,Im,⟨Kept.refl _ _,(λb b' β β' g _ _ h=>nomatch h),(λb β g _ h=>nomatch h),(λb β g h=>nomatch h),(λb β g h=>nomatch h),d,(λg h=>.inl h),(λb B h=>nomatch h),λ_ _ _=>rfl,Lv 1,λb β _ h=>nomatch h⟩,⟨by simp[a],λi y v f j=>?_,rfl⟩⟩;rw[Lt]at f;simp only[LH]at j;rw[a]at j;split at f;grind;have:=L f;rw[(List.mem_replicate.1 this).2];exact .any _
def Z0J{P:Program}{fn:Func}{keep:List Nat}{fr:Bool}{res x:AV}{ns:List Z3}{l:List AV}{p qq:List Prop}{st:St}{w:World}{Im:Nat->Prop}{a':Act}{w':World}(b0:keep.Nodup)(a6:Sys EU Im w st.tmps st.H st.clk a' w')(hl:Ru P st.tmps st.H fn.results.toList=U l)(hx:Td keep st.H fr (SF l)=U (x,p))(a0:B9 p)(n:B9 (Ij x res).2)(b4:(Ij x res).1=res)(b3:A8 keep st.H fr=U (ns,qq))(a1:B9 qq) :∃v,(results fn a'.tmps).run P w'=.ok v w'/\RF w Im fr res ns v w':=by
 obtain⟨ρ,a4,I,T⟩:=a6;obtain⟨v,h1,j⟩:=Z1U I T hl;refine⟨v,h1, ?_⟩;have a2:=Z5n (r:=res) (Zel I j hx a0) n;rw[b4]at a2;obtain⟨n1,n2⟩:=Z5g b3 a1;have hK:∀(k b:Nat),keep[k]?=U b->∃B:Z3,ns[k]?=U B:=by
  intro k b a;have d:=(Lq.1 a).1;exact⟨ns[k],Lp oq⟩
 refine⟨⟨I.kept.os,I.kept.tape,I.kept.output,I.kept.size,λk a _=>I.kept.block k a (λh=>h.no),I.kept.rows⟩,R9 ρ keep,ImK fr a4 ρ st.H keep, ?_, ?_, ?_, ?_, ?_, ?_,a2⟩
 .rintro g (⟨h1,j⟩|⟨b,β,_,_,hb,c⟩)
  .rcases I.im0 g j with h|h|h
   .grind
   .exact .inr h
   .exact h.no.elim
  .rcases I.own b β g hb c with⟨h,_⟩|h
   .exact .inr h
   .exact h.no.elim
 .rintro g (⟨h1,j⟩|⟨b,β,_,_,hb,c⟩)
  .exact I.imb g j
  .exact I.bnd b β g hb c
 .intro k β g a c;simp only[R9]at a;split at a;rotate_left
  .cases a
  rename_i b f;refine⟨?_,I.bnd b β g a c, ?_⟩
  .rcases I.own b β g a c with⟨h,_⟩|h
   .exact h
   .exact h.no.elim
  .obtain⟨B,z⟩:=hK k b f;obtain⟨b',ty,s,els,q,t,m3,m4⟩:=n2 k B z;rw[f]at q;cases q;rintro(⟨_,h⟩|⟨b2,β2,j,b1,a7,a9⟩)
   .exact I.notIm b β g ⟨_,t,by simp⟩ a c h
   .have:=I.inj b b2 β β2 g ⟨_,t,by simp⟩ b1 a a7 c a9;grind
 .intro k k' β β' g a d c a8;simp only[R9]at a d;split at a;rotate_left
  .cases a
  rename_i b f;split at d;rotate_left
  .cases d
  rename_i b' m;obtain⟨B,z⟩:=hK k b f;obtain⟨_,ty,s,els,q,t,_,_⟩:=n2 k B z;rw[f]at q;cases q;obtain⟨B',a5⟩:=hK k' b' m;obtain⟨_,b7,s',b6,a3,b5,_,_⟩:=n2 k' B' a5;rw[m]at a3;cases a3;have:=I.inj b b' β β' g ⟨_,t,by simp⟩ ⟨_,b5,by simp⟩ a d c a8;grind[Z1o]
 .grind[R9]
 .intro k B z;obtain⟨b,ty,s,els,q,t,rfl,m4⟩:=n2 k B z;obtain⟨β,h1,j⟩:=I.blk b _ t;refine⟨β,by grind[R9], ?_⟩;obtain⟨k0,k1,k2,k3,k4⟩:=j;refine⟨k0,k1,k2,k3,k4.imp (λh=>h) λ⟨g,cs,j1,j2,j3,j4⟩=>⟨g,cs,j1,j2,j3,λi e o y hi ho=>?_⟩⟩;obtain⟨u,j5,j6⟩:=j4 i e o y hi ho;refine⟨u,j5, ?_⟩;cases fr with
  |true=>grind[Z1a]
  |false=>exact j6.mono (Ext.refl _ _) (λg c=>.inl ⟨rfl,c⟩)
def Zbx{P:Program}{f:Nat}{fn:Func}{args fr res news}(hints:List (Nat×List Hint)) a(keep:List Nat)(j:keep.Nodup)(hf:P.funcs[f]?=U fn){φ:Prop}(m:φ)(h1:PM (Iv P hints a keep fn args fr res news)=φ)(o:Z0q (Iv P hints a keep fn args fr res news)=Z08 (Iv P hints a keep fn args fr res news)):GSpec P f args fr res news:=by
 rw[<-h1]at m;cases hr:Iv P hints a keep fn args fr res news with
 |none=>rw[hr]at m;exact m.elim
 |some r =>
  rw[hr]at m o;have h:EJ r.eq:=Au o;have a5:B9 r.ph:=m;clear h1 o m;unfold Iv at hr;split at hr;cases hr;rename_i c hb;split at hr;cases hr;rename_i a6;split at hr;cases hr;rename_i q hq;split at hr;cases hr;rename_i b0;split at hr;cases hr;rename_i l hl;split at hr;rotate_left;cases hr;rename_i x p ns qq hx a4;split at hr;rotate_left;cases hr;rename_i a9;cases hr;obtain⟨z,a1⟩:=Hk.1 a5;obtain⟨a0,b⟩:=Hk.1 z;have t:=h.left.left;have a8:(Ij x res).1=res:=h.left.right ((Ij x res).1,res) pq;obtain⟨b,k⟩:=Hk.1 b;have y:ns=news:=by
   apply List.ext_getElem?;intro i;by_cases hi:i<ns.length;have a3:i<news.length:=by omega
   have:(G9 ns[i],G9 news[i])∈(ns.map G9).zip (news.map G9):=by(refine L9.2 ⟨i, ?_⟩;simp[L4,hi,a3])
   have:=Z2J (h.right _ this);grind;grind
  subst y;intro w Im vs a2 a7 g;refine calls_of_wp hf hb ?_;have hS:=Pv (n:=fn.ntmps) a2 a7 g;refine wp_mono (MH hq a0 t _ _ _ _ _ hS) ?_;rintro e a' w' ⟨rfl,s⟩;have d:a'.defers=[]/\∃v,(results fn a'.tmps).run P w'=.ok v w'/\∃u,Ending.returned v=.returned u/\RF w Im fr res ns u w':=by(obtain⟨v,h1,o⟩:=Z0J j s hl hx b k a8 a4 a1;obtain⟨_,_,_,T⟩:=s;exact⟨T.defers,v,h1,v,rfl,o⟩)
  cases hqe:q.e with|nrm=>exact d|ret=>exact d|ext n=>grind
def Ak(n:Nat):Code->Option Code|.block m c=>(match Lj m n with|true=>U (.block m c)|false=>Ak n c)|.seq a b=>(match Ak n a with|some c=>U c|none=>Ak n b)|.cond _ a b=>(match Ak n a with|some c=>U c|none=>Ak n b)|.loop c=>Ak n c|_=>X
def Zl(fn:Func)(n:Nat):Code:=match fn.body with|some c=>(match Ak n c with|some b=>b|none=>.skip)|none=>.skip
def Zn(fn:Func)(n:Nat):Code:=match Zl fn n with|.block _ (.loop c)=>c|_=>.skip
def RZ(n:Nat):Code->Bool|.block m (.loop _)=>Lj m n|_=>Z
def Oo{fn n}(h:RZ n (Zl fn n)=Y):Zl fn n=.block n (.loop (Zn fn n)):=by unfold Zn;generalize Zl fn n=c at h⊢;unfold RZ at h;split at h;rw[LO h];cases h
def Z1p{P fn n k s t}(h:RZ n (Zl fn n)=Y)(a:IY P (Zn fn n) k s (.ext n) t):CSpec P (Zl fn n) s .nrm t:=by rw[Oo h];exact ZhD (Z2W a)
def Z1D{P fn n k s t}(h:RZ n (Zl fn n)=Y)(a:IY P (Zn fn n) k s .ret t):CSpec P (Zl fn n) s .ret t:=by rw[Oo h];exact Zlj (Z2W a)
def Z2N{P c}{S:Nat->St}{e:Ex}{t}(n:Nat)(h:∀i,i<n->CSpec P c (S i) .nrm (S (i+1)))(hl:e≠.nrm)(b:CSpec P c (S n) e t):IY P c n (S 0) e t:=by
 have:∀m i,i+m=n->IY P c m (S i) e t:=by
  intro m;induction m with|zero=>intro i a;rw[LN]at a;subst a;exact⟨hl,b⟩|succ m d=>intro i a;exact⟨S (i+1),h i oq,d (i+1) oq⟩
 exact this n 0 oq
def Bs{P fn b}{S:Nat->St}{t}(n:Nat)(a:RZ b (Zl fn b)=Y)(h:∀i,i<n->CSpec P (Zn fn b) (S i) .nrm (S (i+1)))(c:CSpec P (Zn fn b) (S n) (.ext b) t):CSpec P (Zl fn b) (S 0) .nrm t:=
 Z1p a (Z2N n h (λh=>nomatch h) c)
def EF{P fn b}{S:Nat->St}{t}(n:Nat)(a:RZ b (Zl fn b)=Y)(h:∀i,i<n->CSpec P (Zn fn b) (S i) .nrm (S (i+1)))(c:CSpec P (Zn fn b) (S n) .ret t):CSpec P (Zl fn b) (S 0) .ret t:=
 Z1D a (Z2N n h (λh=>nomatch h) c)
def nI(n:Int):AV:=.d (.sc (.int .i64 n))
def uU(n:Int):AV:=.d (.sc (.int .u64 n))
def bL(b:Bool):AV:=.d (.sc (.bool b))
def Ze(n:Int):DV:=.sc (.int .i64 n)
def ZD(n:Int):DV:=.sc (.int .u64 n)
def wD(x:Int):List DV:=[ZD x]
def iD(x:Int):List DV:=[Ze x]
def Dj(k:Nat):List (Nat×AV)->AV|[]=>.any|(j,a)::r=>match Lj j k with|true=>a|false=>Dj k r
def SU(l:List (Nat×AV)):Nat->Nat->List AV|0,_=>[]|n+1,k=>Dj k l::SU l n (k+1)
def tm(n:Nat)(l:List (Nat×AV)):List AV:=SU l n 0
end Go.Sx
