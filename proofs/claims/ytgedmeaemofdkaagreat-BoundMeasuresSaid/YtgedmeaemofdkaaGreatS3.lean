/-
 The statement BoundMeasures: part 3.
 Conditions: none.
-/
import Derived.MapKept
import Derived.Test.YtgedmeaemofdkaaGreatS2
set_option maxRecDepth 100000
set_option maxHeartbeats 2000000
set_option linter.all false
open Option renaming some->U,none->X,map_eq_some_iff->Ld,bind_some->L4,getD_some->Xo,map_some->Xp
open Bool renaming true->Y,false->Z,and_eq_true->M,not_eq_true'->LD,or_eq_true->LW,and_false->L6,false_or->L7,not_eq_true->L8,not_true->L9,true_and->Xa
open List renaming mem_of_getElem?->W,mem_cons->N,mem_append->L,mem_cons_of_mem->F,all_eq_true->Lb,mem_flatMap->Lc,getElem?_eq_getElem->Le,map_cons->Lf,mem_map->Lg,getD->Lk,getElem?_eq_some_iff->Ln,getElem?_map->Lo,mem_range->Lp,getElem?_append->Ls,flatMap_cons->Lw,getElem?_eq_none->Lx,length_map->Ly,nodup_cons->Lz,map_append->LH,map_congr_left->LI,range->LJ,getD_eq_getElem?_getD->LY,getElem?_append_left->LZ,getElem?_of_mem->L0,length_append->L1,length_pos_iff->L2,getElem?_zip_eq_some->Xc,length_cons->Xd,length_eq_one_iff->Xe,length_nil->Xf,mem_filter->Xg,mem_iff_getElem?->Xh,nodup_append->Xi,replicate->Xj
open Go.Op renaming operands->O
open Nat renaming lt_of_lt_of_le->La,ble->Lh,le_trans->Li,beq->Ll,le_of_ble_eq_true->Lt,le_refl->Lu,add_zero->LA,eq_of_beq_eq_true->LK,zero_add->LL,le_of_not_lt->Xk,ne_of_beq_eq_false->Xl,strongRecOn->Xm,testBit_or->Xn
open Option.some renaming injEq->Lj
open Go.Region renaming wanted->Lm
open Go.Oper renaming wp->Lq,upon_value->LM,upon_enter->L3
open Go.Call renaming operands->Lr
open Array renaming getElem?_eq_getElem->Lv,getElem?_append->LC,getD->LP,getElem?_map->LQ,getElem?_toList->LR,length_toList->LS,replicate->LU,size_map->LV,all_eq_true_iff_forall_mem->L5
open Go.Result renaming andThen_ok->LB
open Go.Deferred renaming ofValue->LF
open List.cons renaming injEq->LG
open Go.Sem renaming run_bind->LN,run_pure->LO
open Classical renaming choose->LX,choose_spec->Xb
namespace Go.Sx
def mpC(l:List Int)(k:Int):Bool:=decide (k∈l)
def mpV(l:List Int)(k:Int):Int:=if k∈l then(l.idxOf k:Int)else 0
def Zkr(P:Program)(t:Nat):Bool:=match P.underlying t with
 | some (.map k e)=>(match P.underlying k with | U (.int .u64)=>Y | _=>Z)&&(match zeroOf P e with | U (.int .i64 n)=>n==0 | _=>Z)
 | _=>Z
def Zak(id:Nat):Res:=⟨.pt id 0 mpO,U (id,.mp []),[]⟩
def Z6c(P:Program)(t:Nat)(ok:Bool)(hs:List Hint)(x y:AV)(H:Heap):Option Res:=match x with
 | .pt b _ o=>match noMp o,H b with
  | false,some (.mp l)=>match y,Zkr P t with
   | .d (.sc (.int .u64 k)),true=>match ok with
    | true=>match hs with
     | .int v::.br c::_=>U ⟨.tu [.d (.sc (.int .i64 v)),.d (.sc (.bool c))],X,[mpV l k=v,mpC l k=c]⟩
     | .br c::_=>U ⟨.tu [.d (.sc (.int .i64 (mpV l k))),.d (.sc (.bool c))],X,[mpC l k=c]⟩
     | _=>U ⟨.tu [.d (.sc (.int .i64 (mpV l k))),.d (.sc (.bool (mpC l k)))],X,[]⟩
    | false=>U (numR .i64 (mpV l k) [] hs)
   | _,_=>X
  | _,_=>X
 | _=>X
def Z3M(P:Program)(t:Nat)(x y z:AV)(H:Heap):Option Res:=match x with
 | .pt b _ o=>match noMp o,H b with
  | false,some (.mp l)=>match y,z,Zkr P t with
   | .d (.sc (.int .u64 k)),.d (.sc (.int .i64 n)),true=>U ⟨.any,U (b,.mp (l++[k])),[k∉l,n=l.length,l.length<2^30]⟩
   | _,_,_=>X
  | _,_=>X
 | _=>X
def Znt{g s i o:Nat}(h:noMp o=Z):ptV g s i o = .map (U g):=by
 have:=LK (by simpa[noMp]using h:Ll o mpO=Y);exact if_pos this
def ZaC{P:Program}{t:Nat}(h:Zkr P t=Y):∃ k e,P.underlying t=U (.map k e)/\P.underlying k=U (.int .u64)/\∀ w:World,(zeroValue e).run P w = .ok (.int .i64 0) w:=by
 unfold Zkr at h;split at h;rotate_left
 .cases h
 rename_i k e hu;simp only[M]at h;obtain⟨h1,h2⟩:=h;split at h1;rotate_left
 .cases h1
 rename_i hk;split at h2;rotate_left
 .cases h2
 rename_i n hz;have hn:n=0:=by simpa using h2
 subst hn;refine⟨k,e,hu,hk,λw=>?_⟩;unfold zeroOf at hz;split at hz
 .rename_i i hi;simp[zeroValue,typeInfo,hi,hz]
 .cases hz
def Zjt:∀ (l:List Int) (es:List MapEntry) (k:Int) (m:Nat),es.length=l.length->(∀ (i:Nat) (e:MapEntry) (x:Int),es[i]? = U e->l[i]? = U x->e.key = .int .u64 x/\e.val = .int .i64 ((m+i:Nat):Int)) ->
  Instr.findNow (.int .u64) (.int .u64 k) es m=U (if k∈l then U (m+l.idxOf k,.int .i64 ((m+l.idxOf k:Nat):Int))else X)
 | [],[],_,_,_,_=>rfl
 | [],_::_,_,_,h,_=>by simp at h
 | _::_,[],_,_,h,_=>by simp at h
 | x::l,e::es,k,m,hl,h=>by
  obtain⟨h1,h2⟩:=h 0 e x rfl rfl;rw[LA]at h2;unfold Instr.findNow;rw[h1];simp only[Instr.sameNow,if_true];by_cases hk:k=x
  .subst hk;simp[h2]
  .have e1:(k==x)=Z:=by simpa using hk
   rw[e1];simp only;rw[Zjt l es k (m+1) (by simpa using hl) (λi e' y he hy=>by
    have:=h (i+1) e' y (by simpa using he) (by simpa using hy);rw[show m+1+i=m+(i+1)from by omega];exact this)]
   have e2:(x==k)=Z:=by simpa using λh=>hk h.symm
   by_cases hm:k∈l
   .rw[if_pos hm,if_pos (by simp[hm]),List.idxOf_cons,e2];simp only[cond_false];rw[show m+1+l.idxOf k=m+(l.idxOf k+1)from by omega]
   .rw[if_neg hm,if_neg (by simp[hm,hk])]
section
variable {P:Program} {o:Oper} {id:Nat} {E:Operand->AV} {H:Heap} {r:Res}
theorem ZbK{t:TypeId}(ho:o.op = .makeMap t X):Z1X P o id E H (Zak id):=by
 intro Ow Im0 w0 ρ w Im clk a I hid hH _ _;have hsub:=Z1q (β:=⟨U w.heap.size,0,0⟩) (I.fresh id hid hH);refine .inl ⟨.map (U w.heap.size),w.alloc (.map #[] 0),by simp[execOp,ho,Instr.makeMap],updR ρ id ⟨U w.heap.size,0,0⟩,I.addO id hid hH _ _ _ _ ?_,Ext.alloc Im w _ I.imb,hsub, ?_⟩
 .exact⟨by simp[big],w.heap.size,#[],0,rfl,heap_alloc_new _ _,rfl,λi e x h=>by simp at h⟩
 .exact Rel.pt (w:=w.alloc (.map #[] 0)) (Im:=Im) (i:=0) (o:=mpO) (Z1w ρ id ⟨U w.heap.size,0,0⟩)
theorem ZhL{Ow:Own}{Im0:Nat->Prop}{w0 w:World}{ρ:Rho}{Im:Nat->Prop}{clk b i oo:Nat}{l:List Int}{v:Value}(I:Inv Ow Im0 w0 ρ w Im H clk)(hx:Rel ρ w Im (.pt b i oo) v)(ho:noMp oo=Z)(hb:H b=U (.mp l)) :
  ∃ g s n es c,ρ b=U ⟨U g,s,n⟩/\v = .map (U g)/\w.heap[g]? = U (.map es c)/\es.size=l.length/\l.length<=big/\(∀ (i:Nat) (e:MapEntry) (x:Int),es[i]? = U e->l[i]? = U x->e.key = .int .u64 x/\e.val = .int .i64 i) /\
   ∀ k:Int,Instr.findNow (.int .u64) (.int .u64 k) es.toList 0=U (if k∈l then U (l.idxOf k,.int .i64 (l.idxOf k:Int))else X):=by
 obtain⟨g,s,n,h1,h2⟩:=Z4p hx;obtain⟨β,h3,h4,g',es,c,h5,h6,h7,h8⟩:=I.blk b _ hb;rw[h1]at h3;cases h3;cases h5;refine⟨g,s,n,es,c,h1,h2.trans (Znt ho),h6,h7,h4,h8,λk=>?_⟩;have:=Zjt l es.toList k 0 (by simpa using h7) (λi e x he hx=>by rw[LL];exact h8 i e x (by simpa using he) hx);simpa using this
theorem ZcK{t:Nat}{x y:Operand}{ok:Bool}{hs:List Hint}(ho:o.op = .lookup t x y ok)(h:Z6c P t ok hs (E x) (E y) H=U r):Z1X P o id E H r:=by
 unfold Z6c at h;split at h;rotate_left
 .cases h
 rename_i b i oo hx;split at h;rotate_left
 .cases h
 rename_i l hmp hb;split at h;rotate_left
 .cases h
 rename_i k hy hty;obtain⟨kt,et,u1,u2,u3⟩:=ZaC hty;have base:∀ (Ow:Own) (Im0:Nat->Prop) (w0:World) (ρ:Rho) (w:World) (Im:Nat->Prop) (clk:Nat) (a:Act),Inv Ow Im0 w0 ρ w Im H clk->(∀ x,Rel ρ w Im (E x) (a.eval x)) ->
   (execOp a.eval o).run P w = .ok (.value (if ok then .tuple #[.int .i64 (mpV l k),.bool (mpC l k)]else .int .i64 (mpV l k))) w:=by
  intro Ow Im0 w0 ρ w Im clk a I hE;obtain⟨g,s,n,es,c,g1,g2,g3,g4,g5,g6,g7⟩:=ZhL I (hx▸hE x) hmp hb;have hyv:=Z0G (hy▸hE y);have hk:MapKept.IsKey (.int .u64) (.int .u64 k):=rfl;have hf:=MapKept.run_findKey (w:=w) u2 (g7 k);simp only[execOp,ho,g2,hyv,Instr.lookup];by_cases hm:k∈l
  .simp[run_underlying u1,MapKept.run_getObj_map g3,MapKept.run_checkKey u2 hk,hf,hm,mpV,mpC,Result.andThen]
  .simp[run_underlying u1,MapKept.run_getObj_map g3,MapKept.run_checkKey u2 hk,hf,hm,mpV,mpC,u3,Result.andThen]
 cases ok with
 | false =>
  simp only[Lj]at h;subst h;intro Ow Im0 w0 ρ w Im clk a I hid hH hE hph;have b0:=base Ow Im0 w0 ρ w Im clk a I hE;unfold numR at hph ⊢;split at hph
  .obtain⟨h1,_⟩:=allP_cons.1 hph;rw[h1]at b0;exact .inl ⟨_,w,b0,.same I (.d (.sc _ rfl))⟩
  .exact .inl ⟨_,w,b0,.same I (.d (.sc _ rfl))⟩
 | true =>
  have tup:∀ {ρ:Rho} {w:World} {Im:Nat->Prop} (v:Int) (c:Bool),Rel ρ w Im (.tu [.d (.sc (.int .i64 v)),.d (.sc (.bool c))]) (.tuple #[.int .i64 v,.bool c]):=by
   intro ρ w Im v c;refine .tu _ _ rfl λi a u ha hu=>?_;rcases i with _ | _ | i
   .simp at ha hu;subst ha;subst hu;exact .d (.sc _ rfl)
   .simp at ha hu;subst ha;subst hu;exact .d (.sc _ rfl)
   .simp at ha
  simp only at h;split at h
  .cases h;intro Ow Im0 w0 ρ w Im clk a I hid hH hE hph;obtain⟨h1,h2⟩:=allP_cons.1 hph;obtain⟨h2,_⟩:=allP_cons.1 h2;have b0:=base Ow Im0 w0 ρ w Im clk a I hE;rw[h1,h2]at b0;exact .inl ⟨_,w,by simpa using b0,.same I (tup _ _)⟩
  .cases h;intro Ow Im0 w0 ρ w Im clk a I hid hH hE hph;obtain⟨h2,_⟩:=allP_cons.1 hph;have b0:=base Ow Im0 w0 ρ w Im clk a I hE;rw[h2]at b0;exact .inl ⟨_,w,by simpa using b0,.same I (tup _ _)⟩
  .cases h;intro Ow Im0 w0 ρ w Im clk a I hid hH hE hph;have b0:=base Ow Im0 w0 ρ w Im clk a I hE;exact .inl ⟨_,w,by simpa using b0,.same I (tup _ _)⟩
theorem Z8W{t:Nat}{x y z:Operand}(ho:o.op = .mapUpdate t x y z)(h:Z3M P t (E x) (E y) (E z) H=U r):Z1X P o id E H r:=by
 unfold Z3M at h;split at h;rotate_left
 .cases h
 rename_i b i oo hx;split at h;rotate_left
 .cases h
 rename_i l hmp hb;split at h;rotate_left
 .cases h
 rename_i k n hy hz hty;cases h;obtain⟨kt,et,u1,u2,u3⟩:=ZaC hty;intro Ow Im0 w0 ρ w Im clk a I hid hH hE hph;obtain⟨hk,hph⟩:=allP_cons.1 hph;obtain⟨hn,hph⟩:=allP_cons.1 hph;have hlen:l.length<2^30:=by simpa[allP]using hph
 subst hn;obtain⟨g,s,m,es,c,g1,g2,g3,g4,g5,g6,g7⟩:=ZhL I (hx▸hE x) hmp hb;have hyv:=Z0G (hy▸hE y);have hzv:=Z0G (hz▸hE z);have hkey:MapKept.IsKey (.int .u64) (.int .u64 k):=rfl;have hf:=MapKept.run_findKey (w:=w) u2 (g7 k);rw[if_neg hk]at hf;obtain⟨q1,q2⟩:=MapKept.heap_set (o':=.map (es.push ⟨.int .u64 k,.int .i64 (l.length:Int),c⟩) (c+1)) g3;obtain⟨J,he⟩:=I.turn b g s m { w with heap:=w.heap.setIfInBounds g (.map (es.push ⟨.int .u64 k,.int .i64 (l.length:Int),c⟩) (c+1)) } (.mp (l++[k])) g1 ⟨_,hb,by simp⟩ ⟨rfl,rfl,rfl⟩ pq q2 (λj=>by
   unfold rows;by_cases hj:j=g
   .subst hj;rw[q1,g3]
   .rw[q2 j hj]) (λ_=>⟨by simp[big];omega,g,_,_,rfl,q1,by simp[g4],λi e v he hv=>by
   rw[Array.getElem?_push]at he;split at he
   .rename_i hi;cases he;rw[List.getElem?_append_right oq,show i-l.length=0 from by omega]at hv;cases hv;exact⟨rfl,by rw[hi,g4]⟩
   .rename_i hi;have hl:i<es.size:=(Array.getElem?_eq_some_iff.1 he).1;rw[LZ oq]at hv;exact g6 i e v he hv⟩)
 exact .inr ⟨_,by simp[execOp,ho,g2,hyv,hzv,Instr.mapUpdate,run_underlying u1,MapKept.run_getObj_map g3,MapKept.run_checkKey u2 hkey,hf,MapKept.run_setObj_map _ g3,Result.andThen],ρ,J,he,λ_ _ h=>h,.any _⟩
end
def act(P:Program)(o:Oper)(id:Nat)(hs:List Hint)(E:Operand->AV)(H:Heap):Option Res :=
 match o.op with
 | .move x=>U (Zeo (E x))
 | .assign x=>match hs with
  | .own::_=>match x with
   | .const (.slice none 0 0)=>ZhR P o.type id
   | _=>X
  | .int n::_=>match E x with
   | .d (.sc (.int k m))=>U (numR k m [] (.int n::[]))
   | _=>X
  | _=>U (Zeo (E x))
 | .alloc t=>Zbm P t id
 | .box t x=>ZjU t id (E x)
 | .build t parts=>Zbh P t id hs (parts.toList.map λp=>(p.1,E p.2))
 | .buildSlice t len parts=>Z4r P t len id hs (parts.toList.map λp=>(p.1,E p.2))
 | .load t x=>Z77 P t hs (E x) H
 | .store t x y=>match szOf P t with
  | 0=>X
  | _+1=>Z7C P t hs (E x) (E y) H
 | .nilCheck x=>Z5W (E x)
 | .binOp op t x y _=>ZeU P op t hs (E x) y (E y)
 | .unOp op _ x=>ZnU op hs (E x)
 | .convert s t x=>Zex P s t hs (E x)
 | .makeFunc fn first captured=>Z4o fn first captured E
 | .makeInterface t x=>Z3i P t (E x)
 | .typeAssert x _ t ok=>Z9q P t ok (E x)
 | .makeSlice t x y=>Z4R P t id hs (E x) (E y)
 | .slice t x lo hi mx=>match mx with
  | none=>match Z16 P t with
   | some e=>match P.info? e with
    | some _=>Z7Z P t hs (E x) (lo.map E) (hi.map E) H
    | none=>X
   | none=>X
  | some _=>X
 | .fieldAddr t x f=>Z4G P t f (E x)
 | .field t x f=>Zb8 P t f (E x)
 | .indexAddr t x y=>Z3R P t hs (E x) (E y) H
 | .extract x n=>Z7b n (E x)
 | .makeMap _ r=>match r with
  | none=>U (Zak id)
  | some _=>X
 | .lookup t x y ok=>Z6c P t ok hs (E x) (E y) H
 | .mapUpdate t x y z=>Z3M P t (E x) (E y) (E z) H
 | .call c=>match c.callee with
  | .builtin .len=>match c.args.toList,c.argTypes.toList with
   | [x],[t]=>Zgb P t hs (E x) H
   | _,_=>X
  | .builtin .copy=>match c.args.toList,c.argTypes.toList with
   | [x,y],[t,_]=>ZaW P t hs (E x) (E y) H
   | _,_=>X
  | .builtin .clear=>match c.args.toList,c.argTypes.toList with
   | [x],[t]=>Z7U P t hs (E x) H
   | _,_=>X
  | .builtin .max=>match c.args.toList,c.argTypes.toList with
   | [x,y],[_,_]=>Zgq Y hs (E x) (E y)
   | _,_=>X
  | .builtin .min=>match c.args.toList,c.argTypes.toList with
   | [x,y],[_,_]=>Zgq Z hs (E x) (E y)
   | _,_=>X
  | _=>X
 | _=>X
def Z7a{c:Call}{b:Builtin}{l:List Operand}{m:List TypeId}(h1:c.callee = .builtin b)(h2:c.args.toList=l)(h3:c.argTypes.toList=m):c=⟨.builtin b,l.toArray,m.toArray⟩:=by
 obtain⟨x,y,z⟩:=c;simp only at h1 h2 h3;subst h1;subst h2;subst h3;simp
def ZcY{P:Program}{o:Oper}{id:Nat}{hs:List Hint}{E:Operand->AV}{H:Heap}{r:Res}(h:act P o id hs E H=U r):Z1X P o id E H r:=by
 unfold act at h;split at h
 .cases h;exact Za6 (.inl aa)
 .split at h
  .split at h
   .exact Ziv aa h
   .cases h
  .rename_i x hop _ n _;split at h
   .rename_i k m hx;cases h;exact Z1y λρ w Im a hE _=>by have:=Z0G (hx▸hE x);simp[execOp,hop,this]
   .cases h
  .cases h;exact Za6 (.inr aa)
 .exact ZdS aa h
 .exact ZiA aa h
 .exact ZdU aa h
 .exact Z7t aa h
 .exact Zhg aa h
 .split at h
  .cases h
  .exact ZdH aa oq h
 .exact Z9K aa h
 .exact ZgO aa h
 .exact Zmc aa h
 .exact Zgx aa h
 .exact Z9F aa h
 .exact Z5T aa h
 .exact ZcA aa h
 .exact Z8l aa h
 .rename_i hop;split at h
  .split at h
   .rename_i e he;split at h
    .rename_i i hi;exact ZeG hop (λe' he'=>by rw[he]at he';cases he';rw[hi];rfl) h
    .cases h
   .cases h
  .cases h
 .exact Z8Y aa h
 .exact Zea aa h
 .exact Z9c aa h
 .exact ZbZ aa h
 .split at h
  .cases h;exact ZbK aa
  .cases h
 .exact ZcK aa h
 .exact Z8W aa h
 .rename_i c hop;split at h
  .rename_i hcal;split at h
   .rename_i x t h1 h2;exact ZhG (by rw[hop,Z7a hcal h1 h2]) h
   .cases h
  .rename_i hcal;split at h
   .rename_i x y t t' h1 h2;exact Zhp (by rw[hop,Z7a hcal h1 h2]) h
   .cases h
  .rename_i hcal;split at h
   .rename_i x t h1 h2;exact ZeE (by rw[hop,Z7a hcal h1 h2]) h
   .cases h
  .rename_i hcal;split at h
   .rename_i x y t t' h1 h2;exact ZjT (by rw[hop,Z7a hcal h1 h2]) h
   .cases h
  .rename_i hcal;split at h
   .rename_i x y t t' h1 h2;exact Ziq (by rw[hop,Z7a hcal h1 h2]) h
   .cases h
  .cases h
 .cases h
theorem Z82{P:Program}{o:Oper}{id:Nat}{hs:List Hint}{E E':Operand→AV}{H:Heap}(h:∀ x∈o.op.operands.toList,E x=E' x):act P o id hs E H=act P o id hs E' H:=by
 unfold act;cases hop:o.op with
 | move x=>simp only[h x (by simp[hop,Op.operands])]
 | assign x=>simp only[h x (by simp[hop,Op.operands])]
 | box t x=>simp only[h x (by simp[hop,Op.operands])]
 | build t parts =>
  have:(parts.toList.map fun p=>(p.1,E p.2))=parts.toList.map fun p=>(p.1,E' p.2):=List.map_congr_left fun p hp=>by
   rw[h p.2 (by simp[hop,Op.operands];exact⟨p.1,by simpa using hp⟩)]
  simp only[this]
 | buildSlice t n parts =>
  have:(parts.toList.map fun p=>(p.1,E p.2))=parts.toList.map fun p=>(p.1,E' p.2):=List.map_congr_left fun p hp=>by
   rw[h p.2 (by simp[hop,Op.operands];exact⟨p.1,by simpa using hp⟩)]
  simp only[this]
 | load t x=>simp only[h x (by simp[hop,Op.operands])]
 | store t x y=>simp only[h x (by simp[hop,Op.operands]),h y (by simp[hop,Op.operands])]
 | nilCheck x=>simp only[h x (by simp[hop,Op.operands])]
 | binOp op t x y t'=>simp only[h x (by simp[hop,Op.operands]),h y (by simp[hop,Op.operands])]
 | unOp op t x=>simp only[h x (by simp[hop,Op.operands])]
 | convert s t x=>simp only[h x (by simp[hop,Op.operands])]
 | makeFunc fn first captured =>
  have:(captured.toList.map E)=captured.toList.map E':=List.map_congr_left fun p hp=>h p (by simp[hop,Op.operands];exact .inr (by simpa using hp));simp only[Z4o,this];cases fn with
  | func f =>
   split
   ·rfl
   ·rename_i x _ hf;rw[h x (by simp[hop,Op.operands];exact .inl (by
     have:x∈first.toList:=by rw[hf];simp
     simpa using this))]
   ·rfl
  | _=>rfl
 | makeInterface t x=>simp only[h x (by simp[hop,Op.operands])]
 | typeAssert x t t' ok=>simp only[h x (by simp[hop,Op.operands])]
 | makeSlice t x y=>simp only[h x (by simp[hop,Op.operands]),h y (by simp[hop,Op.operands])]
 | slice t x lo hi mx =>
  have e1:lo.map E=lo.map E':=by cases lo with | none=>rfl | some y=>simp only[Option.map_some];rw[h y (by simp[hop,Op.operands])]
  have e2:hi.map E=hi.map E':=by cases hi with | none=>rfl | some y=>simp only[Option.map_some];rw[h y (by simp[hop,Op.operands])]
  simp only[h x (by simp[hop,Op.operands]),e1,e2]
 | fieldAddr t x f=>simp only[h x (by simp[hop,Op.operands])]
 | field t x f=>simp only[h x (by simp[hop,Op.operands])]
 | indexAddr t x y=>simp only[h x (by simp[hop,Op.operands]),h y (by simp[hop,Op.operands])]
 | extract x n=>simp only[h x (by simp[hop,Op.operands])]
 | lookup t x y ok=>simp only[h x (by simp[hop,Op.operands]),h y (by simp[hop,Op.operands])]
 | mapUpdate t x y z=>simp only[h x (by simp[hop,Op.operands]),h y (by simp[hop,Op.operands]),h z (by simp[hop,Op.operands])]
 | call c =>
  have hm:∀ x∈c.args.toList,E x=E' x:=fun x hx=>h x (by simp only[hop,Op.operands,Call.operands,Array.toList_append,List.mem_append];exact .inr hx);dsimp only;split
  ·split
   ·rename_i x t h1 h2;rw[hm x (by rw[h1];simp)]
   ·rfl
  ·split
   ·rename_i x y t t' h1 h2;rw[hm x (by rw[h1];simp),hm y (by rw[h1];simp)]
   ·rfl
  ·split
   ·rename_i x t h1 h2;rw[hm x (by rw[h1];simp)]
   ·rfl
  ·split
   ·rename_i x y t t' h1 h2;rw[hm x (by rw[h1];simp),hm y (by rw[h1];simp)]
   ·rfl
  ·split
   ·rename_i x y t t' h1 h2;rw[hm x (by rw[h1];simp),hm y (by rw[h1];simp)]
   ·rfl
  ·rfl
 | _=>rfl
def bv(b:Bool):AV:=.d (.sc (.bool b))
def Zjo{a b:Bool}(h:bv a=bv b):a=b:=by unfold bv at h;injection h with h;injection h with h;injection h
def ZpE:Bool->Bool->Bool
 | true,b=>b
 | false,b=>!b
def guardOf(ops:Array Oper)(tmps:List AV):Option (Nat×Bool)->Option (Option Bool)
 | none=>U X
 | some (j,want)=>match ops[j]? with
  | some oj=>match oj.dst with
   | some t=>match tmps.getD t .any with
    | .d (.sc (.bool b))=>U (U (ZpE want b))
    | .gd g (.d (.sc (.bool b)))=>U (U (g&&ZpE want b))
    | _=>X
   | none=>X
  | none=>X
def Z1i(G:Option Bool)(R:Operand->AV)(x:Operand):AV:=match G with | X=>R x | U _=>strip (R x)
def Z2F(G:Option Bool)(R:Operand->AV):List Operand->List (AV×AV)
 | []=>[]
 | x::xs=>match G with
  | none=>Z2F G R xs
  | some g=>match R x with
   | .gd g' _=>(bv g',bv g)::Z2F G R xs
   | _=>Z2F G R xs
def EqP(l:List (AV×AV)):Prop:=∀ p∈l,p.1=p.2
def Z32{ρ:Rho}{w:World}{Im:Nat->Prop}{G:Option Bool}{R:Operand->AV}{l:List Operand}{x:Operand}{v:Value}(hx:x∈l)(hp:EqP (Z2F G R l))(hG:∀ g,G=U g->g=Y)(h:Rel ρ w Im (R x) v):Rel ρ w Im (Z1i G R x) v:=by
 cases G with
 | none=>exact h
 | some g =>
  have hg:=hG g rfl;simp only[Z1i];cases hR:R x with
  | gd g' a =>
   have:(bv g',bv g)∈Z2F (U g) R l:=by
    clear hp h;induction l with
    | nil=>simp at hx
    | cons y l ih =>
     rcases N.1 hx with e | e
     .subst e;simp[Z2F,hR]
     .have:=ih e;simp only[Z2F];split
      .exact F _ this
      .exact this
   have:=Zjo (hp _ this);rw[hR]at h;cases h with
   | gd h1 h2=>exact h1 (by rw[this];exact hg)
  | _=>rw[hR]at h;exact h
def mkG:Option Bool->AV->AV
 | none,a=>a
 | some g,a=>.gd g a
def phG:Option Bool->List Prop->List Prop
 | none,l=>l
 | some g,l=>l.map λp=>g=Y->p
def Z7Y{G:Option Bool}{l:List Prop}(h:allP (phG G l))(hG:∀ g,G=U g->g=Y):allP l:=by
 cases G with
 | none=>exact h
 | some g =>
  have hg:=hG g rfl;induction l with
  | nil=>trivial
  | cons p l ih =>
   simp only[phG,Lf]at h;obtain⟨h1,h2⟩:=allP_cons.1 h;exact allP_cons.2 ⟨h1 hg,ih h2⟩
def Zeh(w:World)(Im:Nat->Prop)(fr:Bool)(res:AV)(news:List Blk)(v:Value)(w':World):Prop :=
 Kept (λ_=>False) w w'/\∃ (ρ':Rho) (Im':Nat->Prop),(∀ g,Im' g->(fr=Z/\Im g)\/w.heap.size<=g)/\(∀ g,Im' g->g<w'.heap.size) /\
  (∀ b β g,ρ' b=U β->β.g=U g->w.heap.size<=g/\g<w'.heap.size/\¬ Im' g)/\(∀ b b' β β' g,ρ' b=U β->ρ' b'=U β'->β.g=U g->β'.g=U g->b=b') /\
  (∀ (k:Nat) (β:Bi),ρ' k=U β->k<news.length)/\(∀ (k:Nat) (B:Blk),news[k]? = U B->∃ β,ρ' k=U β/\RelB ρ' w' Im' β B)/\Rel ρ' w' Im' res v
def GSpec(P:Program)(f:Nat)(args:List AV)(fr:Bool)(res:AV)(news:List Blk):Prop :=
 ∀ (w:World) (Im:Nat->Prop) (vs:Array Value),(∀ g,Im g->g<w.heap.size)->vs.size=args.length->(∀ (i:Nat) (x:AV) (v:Value),args[i]? = U x->vs[i]? = U v->Rel (λ_=>X) w Im x v) ->
  Calls P f vs w λe w'=>∃ v,e = .returned v/\Zeh w Im fr res news v w'
def toD1(H:Heap)(x:AV):Option AV:=match x with
 | .d x=>U (.d x)
 | .rp e o=>U (.rp e o)
 | .ow _ | .os .. => match Z1f H x with | U (s,els)=>U (.d (.sl s els)) | X=>X
 | _=>X
def toDs(H:Heap):List AV->Option (List AV)
 | []=>U []
 | a::l=>match toD1 H a,toDs H l with
  | some x,some r=>U (x::r)
  | _,_=>X
def toD(H:Heap)(x:AV):Option AV:=match x with
 | .ag l=>(toDs H l).map .ag
 | .fn f l=>(toDs H l).map (.fn f)
 | .ic t a=>(toD1 H a).map (.ic t)
 | a=>toD1 H a
def toDD(H:Heap):List AV->Option (List AV)
 | []=>U []
 | a::l=>match toD H a,toDD H l with
  | some x,some r=>U (x::r)
  | _,_=>X
def Zh3(ρ:Rho)(Im:Nat->Prop):Nat->Prop:=λg=>Im g\/∃ b β,ρ b=U β/\β.g=U g
section
variable {Ow:Own} {Im0:Nat->Prop} {w0:World} {ρ:Rho} {w:World} {Im:Nat->Prop} {H:Heap} {clk:Nat}
theorem Z7d{x:AV}{v:Value}{s:Nat}{els:List (List DV)}(I:Inv Ow Im0 w0 ρ w Im H clk)(hx:Rel ρ w Im x v)(h:Z1f H x=U (s,els)):RelD w (Zh3 ρ Im) (.sl s els) v:=by
 obtain⟨p,c,rfl,hb,hc,hl,hcell⟩:=Z1Q I hx h;by_cases he:els=[]
 .subst he;exact .slNil _ _ _
 rcases hcell with hcell | ⟨q,rfl,hq,hcell⟩
 .exact absurd hcell he
 have hex:∀ (i:Nat) (e:List DV) (o:Nat) (y:DV),els[i]? = U e->e[o]? = U y->RelD w (Zh3 ρ Im) y ((w.cell? ⟨q.block,q.off+(i*s+o),X⟩).getD undef):=by
  intro i e o y hi ho;obtain⟨u,k1,k2⟩:=hcell i e o y hi ho;rw[k1];exact k2.mono (Ext.refl _ _) (λ_ h=>.inl h)
 refine .sl s els q els.length c (λi o=>(w.cell? ⟨q.block,q.off+(i*s+o),X⟩).getD undef) rfl hc hb (hl he) hq ?_ ?_ hex
 .unfold Z1f at h;split at h
  .cases h;cases hx with
   | d hx =>
    cases hx with
    | slNil=>exact absurd rfl he
    | sl _ _ _ _ _ _ _ _ _ _ _ him=>exact .inl him
  .cases h;exact absurd rfl he
  .split at h;rotate_left
   .cases h
   rename_i b _ ty s' els' hb';cases h;generalize hvv:Value.slice (U q) els.length c=vv at hx;cases hx with
   | ow hρ hcc _ ha =>
    injection hvv with e1 e2 e3;rcases ha with ha | ⟨g,hg,e,_⟩
    .have:0<els.length:=L2.2 he;omega
    .rw[<- e1]at e;cases e;exact .inr ⟨b,_,hρ,hg⟩
  .split at h;rotate_left
   .cases h
   rename_i b oo m _ ty s' els' hb';cases h;generalize hvv:Value.slice (U q) ((els'.drop oo).take m).length c=vv at hx;cases hx with
   | os hρ hn hcc _ ha =>
    injection hvv with e1 e2 e3;rcases ha with ha | ⟨g,hg,e,_⟩
    .exfalso;have:0<((els'.drop oo).take m).length:=L2.2 he;omega
    .rw[<- e1]at e;cases e;exact .inr ⟨b,_,hρ,hg⟩
  .cases h
 .intro i e o y hi ho;obtain⟨u,k1,_⟩:=hcell i e o y hi ho;rw[k1];rfl
theorem Z7D{x y:AV}{v:Value}(I:Inv Ow Im0 w0 ρ w Im H clk)(hx:Rel ρ w Im x v)(h:toD1 H x=U y):Rel (λ_=>X) w (Zh3 ρ Im) y v:=by
 unfold toD1 at h;split at h
 .cases h;cases hx with | d hx=>exact .d (hx.mono (Ext.refl _ _) (λ_ h=>.inl h))
 .cases h;cases hx with | rp h1 h2 h3=>exact .rp h1 (.inl h2) (λj x hx=>let ⟨v,k1,k2⟩:=h3 j x hx;⟨v,k1,k2.mono (Ext.refl _ _) (λ_ h=>.inl h)⟩)
 .split at h
  .cases h;exact .d (Z7d I hx aa)
  .cases h
 .split at h
  .cases h;exact .d (Z7d I hx aa)
  .cases h
 .cases h
theorem ZbB{H:Heap}:∀ {l m:List AV},toDs H l=U m->m.length=l.length/\∀ (i:Nat) (y:AV),m[i]? = U y->∃ x,l[i]? = U x/\toD1 H x=U y
 | [],m,h=>by simp[toDs]at h;subst h;simp
 | a::l,m,h=>by
  simp only[toDs]at h;split at h
  .rename_i x r hx hr;cases h;obtain⟨h1,h2⟩:=ZbB hr;refine⟨by simp[h1],λi y hy=>?_⟩;cases i with
   | zero=>simp at hy;subst hy;exact⟨a,rfl,hx⟩
   | succ i=>exact h2 i y (by simpa using hy)
  .cases h
theorem Zjn{x y:AV}{v:Value}(I:Inv Ow Im0 w0 ρ w Im H clk)(hx:Rel ρ w Im x v)(h:toD H x=U y):Rel (λ_=>X) w (Zh3 ρ Im) y v:=by
 unfold toD at h;split at h
 .simp only[Ld]at h;obtain⟨m,hm,rfl⟩:=h;obtain⟨h1,h2⟩:=ZbB hm;obtain⟨cs,rfl,k1,k2,k3⟩:=Z3a hx;refine .ag _ cs oq k2 λi a u ha hu=>?_;obtain⟨x,hx',hd⟩:=h2 i a ha;exact Z7D I (k3 i x u hx' hu) hd
 .simp only[Ld]at h;obtain⟨m,hm,rfl⟩:=h;obtain⟨h1,h2⟩:=ZbB hm;cases hx with
  | fn k1 k3 =>
   refine .fn oq λi a u ha hu=>?_;obtain⟨x,hx',hd⟩:=h2 i a ha;exact Z7D I (k3 i x u hx' hu) hd
 .simp only[Ld]at h;obtain⟨m,hm,rfl⟩:=h;cases hx with
  | ic hx=>exact .ic (Z7D I hx hm)
 .exact Z7D I hx h
end
def ZbY{H:Heap}:∀ {l m:List AV},toDD H l=U m->m.length=l.length/\∀ (i:Nat) (y:AV),m[i]? = U y->∃ x,l[i]? = U x/\toD H x=U y
 | [],m,h=>by simp[toDD]at h;subst h;simp
 | a::l,m,h=>by
  simp only[toDD]at h;split at h
  .rename_i x r hx hr;cases h;obtain⟨h1,h2⟩:=ZbY hr;refine⟨by simp[h1],λi y hy=>?_⟩;cases i with
   | zero=>simp at hy;subst hy;exact⟨a,rfl,hx⟩
   | succ i=>exact h2 i y (by simpa using hy)
  .cases h
def Z5Q:AV->Bool
 | .d _ | .rp .. => Y
 | _=>Z
def Z86:AV->Bool
 | .ag l=>l.all Z5Q
 | .fn _ l=>l.all Z5Q
 | .ic _ (.ag l)=>l.all Z5Q
 | .ic _ a=>Z5Q a
 | a=>Z5Q a
def Z3z{ρ ρ':Rho}{w:World}{Im:Nat->Prop}{x:AV}{v:Value}(h:Rel ρ w Im x v)(hp:Z5Q x=Y):Rel ρ' w Im x v:=by
 cases h<;>first | (simp[Z5Q]at hp;done) | skip
 .exact .d aa
 .exact .rp aa aa aa
def Z9T{ρ ρ':Rho}{w:World}{Im:Nat->Prop}{x:AV}{v:Value}(h:Rel ρ w Im x v)(hp:Z86 x=Y):Rel ρ' w Im x v:=by
 unfold Z86 at hp;split at hp
 .obtain⟨cs,rfl,k1,k2,k3⟩:=Z3a h;simp only[Lb]at hp;exact .ag _ cs k1 k2 λi a u ha hu=>Z3z (k3 i a u ha hu) (hp a (W ha))
 .cases h with
  | fn k1 k3 =>
   simp only[Lb]at hp;exact .fn k1 λi a u ha hu=>Z3z (k3 i a u ha hu) (hp a (W ha))
 .cases h with
  | ic h =>
   obtain⟨cs,rfl,k1,k2,k3⟩:=Z3a h;simp only[Lb]at hp;exact .ic (.ag _ cs k1 k2 λi a u ha hu=>Z3z (k3 i a u ha hu) (hp a (W ha)))
 .cases h with
  | ic h=>exact .ic (Z3z h hp)
 .exact Z3z h hp
def nid(dst clk k:Nat):Nat:=clk*8000+(k+1)*1000+dst
def renF(dst clk:Nat):AV->AV
 | .pt k i o=>.pt (nid dst clk k) i o
 | .os k o n=>.os (nid dst clk k) o n
 | .ow k=>.ow (nid dst clk k)
 | a=>a
def mapT(f:AV->AV):AV->AV
 | .tu l=>.tu (l.map (mapA f))
 | a=>mapA f a
def ZgU:Blk->Bool
 | .arr .. | .mp _=>Y
 | _=>Z
def Zee(dst clk:Nat):Nat->List Blk->Heap->Heap
 | _,[],H=>H
 | k,B::r,H=>Zee dst clk (k+1) r (updH H (nid dst clk k) B)
def Z59(dst clk:Nat):Nat->List Blk->Heap->Bool
 | _,[],_=>Y
 | k,B::r,H=>ZgU B&&(match H (nid dst clk k)with | X=>Y | U _=>Z)&&Z59 dst clk (k+1) r (updH H (nid dst clk k) B)
def Z7J{ρ ρ':Rho}{w:World}{Im Im':Nat->Prop}{f:AV->AV}(hi:∀ g,Im g->Im' g)(hpt:∀ b i o v,Rel ρ w Im (.pt b i o) v->Rel ρ' w Im' (f (.pt b i o)) v)(hos:∀ b o n v,Rel ρ w Im (.os b o n) v->Rel ρ' w Im' (f (.os b o n)) v)
  (how:∀ b v,Rel ρ w Im (.ow b) v->Rel ρ' w Im' (f (.ow b)) v) {a:AV} {v:Value} (h:Rel ρ w Im a v):Rel ρ' w Im' (mapT f a) v:=by
 cases a with
 | tu l =>
  cases h with
  | tu _ cs h1 h3 =>
   refine .tu _ cs (by simpa using h1) λi x v hx hv=>?_;simp only[Lo,Ld]at hx;obtain⟨y,hy,rfl⟩:=hx;exact Z6u hi hpt hos how (h3 i y v hy hv)
 | _=>exact Z6u hi hpt hos how h
def RelB.arr_any{ρ ρ':Rho}{w:World}{Im Im':Nat->Prop}{β:Bi}{B:Blk}(hB:ZgU B=Y)(h:RelB ρ w Im β B)(hi:∀ g,Im g->Im' g):RelB ρ' w Im' β B:=by
 cases B with
 | box=>simp[ZgU]at hB
 | dead=>simp[ZgU]at hB
 | mp ks=>exact h
 | arr ty s els =>
  obtain⟨h0,h1,hb',h2,h3⟩:=h;exact⟨h0,h1,hb',h2,h3.imp (λh=>h) λ⟨g,cs,h4,h5,h6,h7⟩=>⟨g,cs,h4,h5,h6,λi e o x hx hy=>let ⟨v,h8,h9⟩:=h7 i e o x hx hy;⟨v,h8,h9.mono (Ext.refl _ _) hi⟩⟩⟩
section
variable {Ow:Own} {Im0:Nat->Prop} {w0:World} {ρ:Rho} {w:World} {Im:Nat->Prop} {H:Heap} {clk:Nat}
theorem Inv.adopt(I:Inv Ow Im0 w0 ρ w Im H clk)(id:Nat)(hid:clk*8000<=id)(hH:H id=X)(β:Bi)(B:Blk)
  (hg:∀ g,β.g=U g->(∀ k κ,ρ k=U κ->κ.g≠U g)/\¬ Im g/\g<w.heap.size/\w0.heap.size<=g)
  (hB:RelB (updR ρ id β) w Im β B):Inv Ow Im0 w0 (updR ρ id β) w Im (updH H id B) clk:=by
 have hn:=I.fresh id hid hH;refine⟨I.kept, ?_, ?_, ?_, ?_,I.imb,I.im0, ?_, ?_,Z8i I.one hid⟩
 .intro b b' κ κ' g l1 l2 h1 h2 h3 h4;unfold updR at h1 h2;split at h1<;>split at h2
  .omega
  .cases h1;exact absurd h4 ((hg g h3).1 b' κ' h2)
  .cases h2;exact absurd h3 ((hg g h4).1 b κ h1)
  .exact I.inj b b' κ κ' g (Z1o l1 aa) (Z1o l2 aa) h1 h2 h3 h4
 .intro b κ g l h h';unfold updR at h;split at h
  .cases h;exact(hg g h').2.1
  .exact I.notIm b κ g (Z1o l aa) h h'
 .intro b κ g h h';unfold updR at h;split at h
  .cases h;exact(hg g h').2.2.1
  .exact I.bnd b κ g h h'
 .intro b κ g h h';unfold updR at h;split at h
  .rename_i hbi;cases h;have:=I.one;exact .inl ⟨(hg g h').2.2.2,by omega⟩
  .exact I.own b κ g h h'
 .intro b B' h;unfold updH at h;split at h
  .cases h;rename_i hb;exact⟨_,by rw[hb];exact Z1w _ _ _,hB⟩
  .obtain⟨κ,h1,h2⟩:=I.blk b B' h;exact⟨κ,Z1q hn _ _ h1,h2.mono (Ext.refl _ _) (λ_ h=>h) (Z1q hn) I.bnd (λ_ _=>rfl)⟩
 .intro b hb h;unfold updH at h;unfold updR;split
  .rename_i hbi;simp[hbi]at h
  .rename_i hbi;simp only[hbi,if_false]at h;exact I.fresh b hb h
theorem Zol{dst clk k k':Nat}(h:nid dst clk k=nid dst clk k'):k=k':=by unfold nid at h;omega
theorem Z9a(dst clk k:Nat):clk*8000<=nid dst clk k:=by unfold nid;omega
theorem ZcS{ρ':Rho}{dst:Nat}:∀ (news:List Blk) (k:Nat) (ρ:Rho) (H:Heap),Inv Ow Im0 w0 ρ w Im H clk->Z59 dst clk k news H=Y ->
  (∀ (i:Nat) (B:Blk),news[i]? = U B->∃ β,ρ' (k+i)=U β/\RelB ρ' w Im β B/\∀ g,β.g=U g->¬ Im g/\g<w.heap.size/\w0.heap.size<=g) ->
  (∀ b b' β β' g,ρ' b=U β->ρ' b'=U β'->β.g=U g->β'.g=U g->b=b') ->
  (∀ i,i<news.length->∀ β g,ρ' (k+i)=U β->β.g=U g->∀ b κ,ρ b=U κ->κ.g≠U g) ->
  ∃ ρ2,Inv Ow Im0 w0 ρ2 w Im (Zee dst clk k news H) clk/\(∀ b β,ρ b=U β->ρ2 b=U β)/\∀ i β,i<news.length->ρ' (k+i)=U β->ρ2 (nid dst clk (k+i))=U β
 | [],k,ρ,H,I,_,_,_,_=>⟨ρ,I,λ_ _ h=>h,λi β hi _=>by simp at hi⟩
 | B::news,k,ρ,H,I,hok,hnews,hinj,hfree=>by
  simp only[Z59,M]at hok;obtain⟨⟨hB,hnone⟩,hrest⟩:=hok;have hH:H (nid dst clk k)=X:=by
   revert hnone;cases H (nid dst clk k)with
   | none=>exact λ_=>rfl
   | some _=>exact λh=>by cases h
  obtain⟨β,h1,h2,h3⟩:=hnews 0 B rfl;rw[LA]at h1;have J:=I.adopt (nid dst clk k) (Z9a dst clk k) hH β B (λg hg=>⟨λb κ hb=>hfree 0 pq β g (by rw[LA];exact h1) hg b κ hb,(h3 g hg).1,(h3 g hg).2.1,(h3 g hg).2.2⟩) (h2.arr_any hB (λ_ h=>h));obtain⟨ρ2,J2,s1,s2⟩:=ZcS news (k+1) _ _ J hrest (λi B' hB'=>by
    have:=hnews (i+1) B' (by simpa using hB');rwa [show k+(i+1)=k+1+i from by omega]at this) hinj (λi hi β' g hβ' hg b κ hb=>by
    unfold updR at hb;split at hb
    .cases hb;intro hg';have:=hinj _ _ _ _ g h1 hβ' hg' hg;omega
    .exact hfree (i+1) qo β' g (by rw[show k+(i+1)=k+1+i from by omega];exact hβ') hg b κ hb)
  refine⟨ρ2,J2,λb κ hb=>s1 b κ (Z1q (I.fresh _ (Z9a dst clk k) hH) b κ hb),λi κ hi hκ=>?_⟩;cases i with
  | zero =>
   rw[LA]at hκ ⊢;rw[h1]at hκ;cases hκ;exact s1 _ _ (Z1w _ _ _)
  | succ i =>
   rw[show k+(i+1)=k+1+i from by omega]at hκ ⊢;exact s2 i κ (by simpa using hi) hκ
theorem Inv.called(I:Inv Ow Im0 w0 ρ w Im H clk){w':World}(K:Kept (λ_=>False) w w')(Im':Nat->Prop)(h1:∀ g,Im' g->Im g\/w.heap.size<=g)(h2:∀ g,Im' g->g<w'.heap.size) :
  Inv Ow Im0 w0 ρ w' (λg=>Im g\/Im' g) H clk/\Ext Im w w':=by
 have he:Ext Im w w':=⟨K.size,λg hg=>K.block g (I.imb g hg) (λh=>h),λg hg=>K.rows g hg⟩
 refine⟨⟨⟨K.os.trans I.kept.os,K.tape.trans I.kept.tape,K.output.trans I.kept.output,Li I.kept.size K.size,λk hk ho=>?_,λk hk=>?_⟩,I.inj, ?_,λb β g h h'=>La (I.bnd b β g h h') K.size,I.own, ?_, ?_, ?_,I.fresh,I.one⟩,he⟩
 .rw[K.block k (La hk I.kept.size) (λh=>h)];exact I.kept.block k hk ho
 .rw[K.rows k (La hk I.kept.size)];exact I.kept.rows k hk
 .intro b β g l h h' him;rcases him with him | him
  .exact I.notIm b β g l h h' him
  .rcases h1 g him with h1 | h1
   .exact I.notIm b β g l h h' h1
   .have:=I.bnd b β g h h';omega
 .intro g hg;rcases hg with hg | hg
  .exact La (I.imb g hg) K.size
  .exact h2 g hg
 .intro g hg;rcases hg with hg | hg
  .exact I.im0 g hg
  .rcases h1 g hg with h1 | h1
   .exact I.im0 g h1
   .exact .inr (.inl (Li I.kept.size h1))
 .intro b B h;obtain⟨β,k1,k2⟩:=I.blk b B h;exact⟨β,k1,k2.mono he (λ_ h=>.inl h) (λ_ _ h=>h) I.bnd (λg hg=>K.block g (I.bnd b β g k1 hg) (λh=>h))⟩
end
structure Out where
 tmps:List AV
 H:Heap
 ph:List Prop
 eq:List (AV×AV)
structure Core where
 sl:Option (Nat×AV)
 ups:List (Nat×Blk)
 ph:List Prop
 eq:List (AV×AV)
def applyU:List (Nat×Blk)->Heap->Heap
 | [],H=>H
 | (b,B)::r,H=>applyU r (updH H b B)
def Core.out(c:Core)(tmps:List AV)(H:Heap):Out:=⟨match c.sl with | U (d,v)=>tmps.set d v | X=>tmps,applyU c.ups H,c.ph,c.eq⟩
def look(k:Nat):List (Nat×List Hint)->List Hint
 | []=>[]
 | (j,h)::r=>if j=k then h else look k r
def keyOf(o:Oper):Nat:=match o.dst with
 | some d=>d
 | none=>match o.op with
  | .store _ (.tmp t) _=>10000+t
  | _=>20000
def Res.ups(r:Res):List (Nat×Blk):=match r.up with | U x=>[x] | X=>[]
def Res.applyU(r:Res)(H:Heap):applyU r.ups H=r.heap H:=by
 unfold Res.ups Res.heap;cases r.up with
 | none=>rfl
 | some x=>rfl
def Z26(P:Program)(clk:Nat)(hints:List (Nat×List Hint))(o:Oper)(G:Option Bool)(tmps:List AV)(H:Heap):Option Core :=
 match o.dst with
 | some d=>match H (clk*8000+d)with
  | some _=>X
  | none=>match act P o (clk*8000+d) (look (keyOf o) hints) (Z1i G (ev tmps)) H with
   | some r=>match G,r.up with
    | some _,some _=>X
    | _,_=>U ⟨U (d,mkG G r.val),r.ups,phG G r.ph,Z2F G (ev tmps) o.op.operands.toList⟩
   | none=>X
 | none=>match G with
  | some _=>X
  | none=>match H (clk*8000+7999)with
   | some _=>X
   | none=>match act P o (clk*8000+7999) (look (keyOf o) hints) (ev tmps) H with
    | some r=>U ⟨X,r.ups,r.ph,[]⟩
    | none=>X
def conj(G:Option Bool)(b:Bool):Bool:=match G with | X=>b | U g=>g&&b
def asB(x:AV):Option Bool:=match x with | .d (.sc (.bool b))=>U b | _=>X
def gdB(x:AV):Option (Bool×Bool):=match x with | .gd g (.d (.sc (.bool b)))=>U (g,b) | _=>X
def ZjZ(x:Operand):Bool:=match x with | .const (.bool b)=>b | _=>Z
def Zeg(x:Operand):Bool:=match x with | .const (.bool b)=>!b | _=>Z
def Z5Y(hints:List (Nat×List Hint))(o:Oper)(c a b:Operand)(G:Option Bool)(tmps:List AV):Option Core :=
 match o.dst with
 | none=>X
 | some d=>match asB (Z1i G (ev tmps) c)with
  | none=>X
  | some gc=>match ZjZ a with
   | true=>match gdB (ev tmps b)with
    | some (g',v)=>U ⟨U (d,mkG G (Z4D (gc||v) (look d hints)).val),[],phG G (Z4D (gc||v) (look d hints)).ph,Z2F G (ev tmps) [c]++[(bv g',bv (conj G (!gc)))]⟩
    | none=>X
   | false=>match Zeg b with
    | true=>match gdB (ev tmps a)with
     | some (g',v)=>U ⟨U (d,mkG G (Z4D (gc&&v) (look d hints)).val),[],phG G (Z4D (gc&&v) (look d hints)).ph,Z2F G (ev tmps) [c]++[(bv g',bv (conj G gc))]⟩
     | none=>X
    | false=>X
def Z8K(P:Program)(f:Nat):Bool:=match P.funcs[f]? with | U fn=>fn.body.isSome&&!(fn.name == "runtime.NumGoroutine") | X=>Z
def Zi4(dst clk:Nat):Nat->List Blk->List (Nat×Blk)
 | _,[]=>[]
 | k,B::r=>(nid dst clk k,B)::Zi4 dst clk (k+1) r
def Z8x(dst clk:Nat):∀ (news:List Blk) (k:Nat) (H:Heap),applyU (Zi4 dst clk k news) H=Zee dst clk k news H
 | [],_,_=>rfl
 | B::r,k,H=>Z8x dst clk r (k+1) (updH H (nid dst clk k) B)
def Z6a(P:Program)(clk:Nat)(hints:List (Nat×List Hint))(o:Oper)(f:Operand)(args:List Operand)(G:Option Bool)(tmps:List AV)(H:Heap):Option Core :=
 match o.dst with
 | none=>X
 | some d=>match Z1i G (ev tmps) f with
  | .fn k caps=>match look d hints with
   | .call fr res news::_ =>
    match (match fr with | Y=>toDD H ((args.map (Z1i G (ev tmps)))++caps) | Z=>(if((args.map (Z1i G (ev tmps)))++caps).all Z86 then U ((args.map (Z1i G (ev tmps)))++caps)else X))with
    | some as=>if Z8K P k&&Z59 d clk 0 news H then
     match G,news with
     | some _,_::_=>X
     | _,_=>U ⟨U (d,mkG G (mapT (renF d clk) res)),Zi4 d clk 0 news,phG G [GSpec P k as fr res news],Z2F G (ev tmps) (f::args)⟩
     else X
    | none=>X
   | _=>X
  | _=>X
def Zod:AV->Bool
 | .tu l=>l.all Z86
 | a=>Z86 a
def idxN(b:Nat):List Nat->Nat->Option Nat
 | [],_=>X
 | x::l,k=>match Ll x b with | Y=>U k | Z=>idxN b l (k+1)
def nodupB:List Nat->Bool
 | []=>Y
 | x::l=>(match idxN x l 0 with | X=>Y | U _=>Z)&&nodupB l
def ksL:AV->List Nat
 | .ow b=>[b]
 | .os b _ _=>[b]
 | _=>[]
def ksM:AV->List Nat
 | .ag l=>l.flatMap ksL
 | .fn _ l=>l.flatMap ksL
 | .ic _ a=>ksL a
 | a=>ksL a
def Z6h(H:Heap):List Nat->Bool
 | []=>Y
 | b::l=>(match H b with | U (.arr ..)=>Y | _=>Z)&&Lh 8000 b&&Z6h H l
def Z6F(P:Program)(clk:Nat)(hints:List (Nat×List Hint))(o:Oper)(f:Operand)(args:List Operand)(G:Option Bool)(tmps:List AV)(H:Heap):Option Core :=
 match G with
 | some _=>X
 | none=>match o.dst with
  | none=>X
  | some d=>match ev tmps f with
   | .fn k caps=>match look d hints with
    | .kill res::_=>match toDD H (args.map (ev tmps)++caps)with
     | some as=>match Z8K P k&&Z6h H ((args.map (ev tmps)++caps).flatMap ksM)&&Zod res with
      | true=>U ⟨U (d,res),((args.map (ev tmps)++caps).flatMap ksM).map λb=>(b,.dead),[GSpec P k as Z res []],[]⟩
      | false=>X
     | none=>X
    | _=>X
   | _=>X
def Zmr(o:Oper)(hints:List (Nat×List Hint)):Bool:=match o.dst with
 | some d=>match look d hints with | .kill _::_=>Y | _=>Z
 | none=>Z
def allO(g:AV->Option AV):List AV->Option (List AV)
 | []=>U []
 | a::l=>match g a,allO g l with
  | some x,some r=>U (x::r)
  | _,_=>X
def nmL(f:Nat->Option Nat)(x:AV):Option AV:=match x with
 | .d x=>U (.d x)
 | .rp e o=>U (.rp e o)
 | .pt b i o=>match f b with | U k=>U (.pt k i o) | X=>X
 | .os b o n=>match f b with | U k=>U (.os k o n) | X=>X
 | .ow b=>match f b with | U k=>U (.ow k) | X=>X
 | _=>X
def nmM(f:Nat->Option Nat)(x:AV):Option AV:=match x with
 | .ag l=>match allO (nmL f) l with | U r=>U (.ag r) | X=>X
 | .fn g l=>match allO (nmL f) l with | U r=>U (.fn g r) | X=>X
 | .ic t (.ag l)=>match allO (nmL f) l with | U r=>U (.ic t (.ag r)) | X=>X
 | .ic t a=>match nmL f a with | U r=>U (.ic t r) | X=>X
 | x=>nmL f x
def nmB(f:Nat->Option Nat)(B:Blk):Option Blk:=match B with
 | .box ty cells=>match allO (nmM f) cells with | U r=>U (.box ty r) | X=>X
 | .arr ty s els=>U (.arr ty s els)
 | .mp ks=>U (.mp ks)
 | .dead=>X
def preB(f:Nat->Option Nat)(H:Heap):List Nat->Option (List Blk)
 | []=>U []
 | b::l=>match H b,preB f H l with
  | some B,some r=>match nmB f B with | U C=>U (C::r) | X=>X
  | _,_=>X
def hL(l:List Blk):Heap:=λk=>l[k]?
def BorSpec(P:Program)(f:Nat)(args:List AV)(pre:List Blk)(res:AV)(post:List Blk):Prop :=
 ∀ (w:World) (Im:Nat->Prop) (ρ:Rho) (vs:Array Value),(∀ g,Im g->g<w.heap.size)->vs.size=args.length->(∀ k β,ρ k=U β->k<pre.length) ->
  (∀ b b' β β' g,ρ b=U β->ρ b'=U β'->β.g=U g->β'.g=U g->b=b')->(∀ b β g,ρ b=U β->β.g=U g->g<w.heap.size/\¬ Im g) ->
  (∀ (k:Nat) (B:Blk),pre[k]? = U B->∃ β,ρ k=U β/\RelB ρ w Im β B)->(∀ (i:Nat) (x:AV) (v:Value),args[i]? = U x->vs[i]? = U v->Rel ρ w Im x v) ->
  Calls P f vs w λe w'=>∃ v,e = .returned v/\Kept (OwA (ownR ρ)) w w'/\∃ (ρ':Rho) (Im':Nat->Prop),(∀ k β,ρ k=U β->ρ' k=U β)/\(∀ k β,ρ' k=U β->k<post.length) /\
   (∀ g,Im' g->Im g\/w.heap.size<=g\/OwA (ownR ρ) g)/\(∀ g,Im' g->g<w'.heap.size) /\
   (∀ k β g,ρ' k=U β->β.g=U g->g<w'.heap.size/\(w.heap.size<=g\/OwA (ownR ρ) g)) /\
   (∀ k β g,live (hL post) k->ρ' k=U β->β.g=U g->¬ Im' g) /\
   (∀ k k' β β' g,live (hL post) k->live (hL post) k'->ρ' k=U β->ρ' k'=U β'->β.g=U g->β'.g=U g->k=k') /\
   (∀ (k:Nat) (B:Blk),post[k]? = U B->∃ β,ρ' k=U β/\RelB ρ' w' Im' β B)/\Rel ρ' w' Im' res v
abbrev LentSpec:=BorSpec
def nids(dst clk:Nat):Nat->Nat->List Nat
 | _,0=>[]
 | k,n+1=>nid dst clk k::nids dst clk (k+1) n
def Z2A(H:Heap):List Nat->Bool
 | []=>Y
 | b::l=>(match H b with | X=>Y | U _=>Z)&&Z2A H l
def renI(ids:List Nat):AV->AV
 | .pt k i o=>.pt (ids.getD k 0) i o
 | .os k o n=>.os (ids.getD k 0) o n
 | .ow k=>.ow (ids.getD k 0)
 | a=>a
def Z3F(ids:List Nat):Blk->Blk
 | .box ty cells=>.box ty (cells.map (mapA (renI ids)))
 | B=>B
def fnOf:AV->List Operand->Option (Nat×List AV)
 | .fn k caps,_=>U (k,caps)
 | .fm k a,[]=>U (k,[a])
 | _,_=>X
def Z1W(dst clk:Nat)(ls:List Nat)(post:List Blk):List Nat:=ls++nids dst clk 0 (post.length-ls.length)
def borH:List Hint->Option (Option (Nat×Nat)×List Nat×AV×List Blk)
 | .bor ls res post::_=>U (X,ls,res,post)
 | .gh ty s::.bor ls res post::_=>U (U (ty,s),ls,res,post)
 | _=>X
def ghH(g:Nat)(H:Heap):Option (Nat×Nat)->Heap
 | none=>H
 | some (ty,s)=>updH H g (.arr ty s [])
def ghV(g:Nat)(av:Operand->AV):Option (Nat×Nat)->Operand->AV
 | none,y=>av y
 | some _,.const (.slice none 0 0)=>.ow g
 | some _,y=>av y
def ghOk(g:Nat)(ls:List Nat)(H:Heap):Option (Nat×Nat)->Bool
 | none=>Y
 | some _=>Z2A H [g]&&(match idxN g ls 0 with | X=>Z | U _=>Y)
def Z8u(P:Program)(clk:Nat)(hints:List (Nat×List Hint))(o:Oper)(f:Operand)(args:List Operand)(G:Option Bool)(tmps:List AV)(H:Heap):Option Core :=
 match o.dst with
 | none=>X
 | some d=>match (match G with | X=>Y | U g=>g)with
  | false=>match borH (look d hints)with
   | some (_,_,res,_)=>U ⟨U (d,mkG G res),[],[],[]⟩
   | none=>X
  | true=>match fnOf (Z1i G (ev tmps) f) args with
   | some (k,caps)=>match borH (look d hints)with
    | some (gh,ls,res,post)=>match allO (nmM λb=>idxN b ls 0) (args.map (ghV (nid d clk 6) (Z1i G (ev tmps)) gh)++caps),preB (λb=>idxN b ls 0) (ghH (nid d clk 6) H gh) ls with
     | some as,some pre=>match post with
      | []=>match Z8K P k&&nodupB ls&&gh.isNone with
       | true=>U ⟨U (d,mapT (renI ls) res),[],[BorSpec P k as pre res pre],Z2F G (ev tmps) (f::args)⟩
       | false=>X
      | B::post=>match Z8K P k&&nodupB (Z1W d clk ls (B::post))&&Lh ls.length (B::post).length&&Lh ((B::post).length-ls.length) 7&&Z2A H (nids d clk 0 ((B::post).length-ls.length))&&ghOk (nid d clk 6) ls H gh with
       | true=>U ⟨U (d,mapT (renI (Z1W d clk ls (B::post))) res),(Z1W d clk ls (B::post)).zip ((B::post).map (Z3F (Z1W d clk ls (B::post)))),[BorSpec P k as pre res (B::post)],Z2F G (ev tmps) (f::args)⟩
       | false=>X
     | _,_=>X
    | none=>X
   | none=>X
def ZoY(o:Oper)(hints:List (Nat×List Hint)):Bool:=match o.dst with
 | some d=>(borH (look d hints)).isSome
 | none=>Z
def borL(hints:List (Nat×List Hint))(o:Oper):List Nat:=match o.dst with
 | some d=>match borH (look d hints)with | U (_,ls,_,_)=>ls | X=>[]
 | none=>[]
def Z49(P:Program)(clk:Nat)(hints:List (Nat×List Hint))(o:Oper)(c:Call)(tmps:List AV)(H:Heap):Option Core :=
 match o.dst with
 | none=>X
 | some d=>match c.args.toList,c.argTypes.toList with
  | [x,y],[t,t']=>match H (clk*8000+d)with
   | some _=>X
   | none=>match Z47 P t t' (clk*8000+d) (look d hints) (ev tmps x) (ev tmps y) H with
    | some (b,r)=>U ⟨U (d,r.val),(b,.dead)::r.ups,r.ph,[]⟩
    | none=>X
  | _,_=>X
def ghL:List Hint->List (Nat×Nat×Nat)
 | .gh ty s::.int (.ofNat k)::r=>(ty,s,k)::ghL r
 | _=>[]
def ghU(d clk:Nat):Nat->List (Nat×Nat×Nat)->List (Nat×Blk)
 | _,[]=>[]
 | j,x::r=>(nid d clk j,.arr x.1 x.2.1 [])::ghU d clk (j+1) r
def ghN(d clk:Nat):Nat->List (Nat×Nat×Nat)->Nat->Option Nat
 | _,[],_=>X
 | j,x::r,i=>match Ll i x.2.2 with | Y=>U (nid d clk j) | Z=>ghN d clk (j+1) r i
def Z4H(P:Program)(clk:Nat)(o:Oper)(l:List (Nat×Nat×Nat))(t:Nat)(G:Option Bool)(H:Heap):Option Core :=
 match G,o.dst with
 | none,some d=>match H (clk*8000+d),Z2A H (nids d clk 0 l.length)&&Lh l.length 7,zeroOf P t with
  | none,true,some (.agg cs)=>match Zac cs.toList with
   | true=>U ⟨U (d,.pt (clk*8000+d) 0 0),ghU d clk 0 l++[(clk*8000+d,.box t (ghC (ghN d clk 0 l) 0 cs.toList))],[],[]⟩
   | false=>X
  | _,_,_=>X
 | _,_=>X
def Znz(o:Oper)(hints:List (Nat×List Hint)):List Hint:=match o.dst with | U d=>look d hints | X=>[]
def Z2w(P:Program)(clk:Nat)(ops:Array Oper)(hints:List (Nat×List Hint))(o:Oper)(tmps:List AV)(H:Heap):Option Core :=
 match guardOf ops tmps o.guard with
 | none=>X
 | some G=>match o.op with
  | .pick c a b=>Z5Y hints o c a b G tmps
  | .alloc t=>match ghL (Znz o hints)with
   | x::l=>Z4H P clk o (x::l) t G H
   | []=>Z26 P clk hints o G tmps H
  | .call c=>match c.callee with
   | .value f=>match Zmr o hints with
    | true=>Z6F P clk hints o f c.args.toList G tmps H
    | false=>match ZoY o hints with
     | true=>Z8u P clk hints o f c.args.toList G tmps H
     | false=>Z6a P clk hints o f c.args.toList G tmps H
   | .builtin .append=>match G with
    | none=>Z49 P clk hints o c tmps H
    | some _=>X
   | _=>Z26 P clk hints o G tmps H
  | _=>Z26 P clk hints o G tmps H
def Z92(P:Program)(clk:Nat)(ops:Array Oper)(hints:List (Nat×List Hint))(o:Oper)(tmps:List AV)(H:Heap):Option Out :=
 match Z2w P clk ops hints o tmps H with
 | some c=>U (c.out tmps H)
 | none=>X
def getD_some{tmps:List AV}{t:Nat}{x:AV}(h:tmps.getD t .any=x)(hx:x≠.any):tmps[t]? = U x:=by
 by_cases ht:t<tmps.length
 .simp[Lk,Le ht]at h;rw[Le ht,h]
 .simp[Lk,Lx (Xk ht)]at h;exact absurd h.symm hx
def RelT.at{D:List Deferred}{ρ:Rho}{w:World}{Im:Nat->Prop}{tmps:List AV}{a:Act}(T:RelT D ρ w Im tmps a){t:Nat}{x:AV}(h:tmps[t]? = U x):∃ v,a.tmps[t]? = U v/\Rel ρ w Im x v:=by
 have ht:t<a.tmps.size:=by rw[T.size];exact(Ln.1 h).1
 exact⟨a.tmps[t],Lv ht,T.tmp t x _ h (Lv ht)⟩
def Zhr{D:List Deferred}{ρ:Rho}{w:World}{Im:Nat->Prop}{tmps:List AV}{a:Act}(T:RelT D ρ w Im tmps a){ops:Array Oper}{o:Oper}{G:Option Bool}(h:guardOf ops tmps o.guard=U G) :
  (G=X/\Lm o (yielded ops a.tmps)=Y)\/∃ g,G=U g/\Lm o (yielded ops a.tmps)=g:=by
 unfold guardOf at h;split at h
 .rename_i hg;cases h;exact .inl ⟨rfl,by simp[Lm,hg]⟩
 .rename_i j want hg;split at h;rotate_left
  .cases h
  rename_i oj hj;split at h;rotate_left
  .cases h
  rename_i t ht;split at h
  .rename_i b hb;cases h;obtain⟨v,h1,h2⟩:=T.at (getD_some hb pq)
   cases Z0G h2;refine .inr ⟨_,rfl, ?_⟩;simp only[Lm,hg,yielded,hj,L4,ht,h1];cases want<;>cases b<;>rfl
  .rename_i g b hb;cases h;obtain⟨v,h1,h2⟩:=T.at (getD_some hb pq)
   refine .inr ⟨_,rfl, ?_⟩;cases h2 with
   | gd k1 k2 =>
    cases g with
    | true =>
     cases Z0G (k1 rfl);simp only[Lm,hg,yielded,hj,L4,ht,h1];cases want<;>cases b<;>rfl
    | false =>
     rw[k2 rfl]at h1;simp only[Lm,hg,yielded,hj,L4,ht,h1,undef];cases want<;>rfl
  .cases h
section
variable {P:Program} {Ow:Own} {Im0:Nat->Prop} {w0:World} {clk:Nat} {hints:List (Nat×List Hint)} {o:Oper} {tmps:List AV} {H:Heap} {a:Act} {w:World} {out:Out} {next:Act->World->Prop} {Q:Exit->Act->World->Prop}
abbrev Z6t(P:Program)(Ow:Own)(Im0:Nat->Prop)(w0:World)(clk:Nat)(o:Oper)(G:Option Bool)(H:Heap)(tmps:List AV)(out:Out):Prop :=
 ∀ (a:Act) (w:World) (ρ:Rho) (Im:Nat->Prop) (next:Act->World->Prop) (Q:Exit->Act->World->Prop),Inv Ow Im0 w0 ρ w Im H clk->RelT Ow.ds ρ w Im tmps a->allP out.ph->EqP out.eq ->
  (∀ a' w',Sys Ow Im0 w0 out.tmps out.H clk a' w'->next a' w')->((∀ g,G=U g->g=Y)->o.wp P a w next Q)/\((∃ g,G=U g/\g=Z)->next (a.put o.dst undef) w)
theorem EqP.left{l m:List (AV×AV)}(h:EqP (l++m)):EqP l:=λp hp=>h p (L.2 (.inl hp))
theorem EqP.right{l m:List (AV×AV)}(h:EqP (l++m)):EqP m:=λp hp=>h p (L.2 (.inr hp))
theorem Zb4{ρ:Rho}{w:World}{Im:Nat->Prop}{G:Option Bool}{x:AV}{v:Value}(hG:∀ g,G=U g->g=Y)(h:Rel ρ w Im x v):Rel ρ w Im (mkG G x) v:=by
 cases G with
 | none=>exact h
 | some g=>exact .gd (λ_=>h) (λe=>by rw[hG g rfl]at e;cases e)
theorem Z93{ρ:Rho}{Im:Nat->Prop}(I:Inv Ow Im0 w0 ρ w Im H clk)(T:RelT Ow.ds ρ w Im tmps a){G:Option Bool}(hG:∃ g,G=U g/\g=Z)(d:Nat)(x:AV):Sys Ow Im0 w0 (tmps.set d (mkG G x)) H clk (a.put (U d) undef) w:=by
 obtain⟨g,rfl,rfl⟩:=hG;exact⟨ρ,Im,I,T.put d (.gd (λh=>by cases h) (λ_=>rfl))⟩
open Classical in
theorem Zb3{G:Option Bool}{out:Core}(h:Z26 P clk hints o G tmps H=U out):Z6t P Ow Im0 w0 clk o G H tmps (out.out tmps H):=by
 intro a w ρ Im next Q I T hph heq hn
 unfold Z26 at h;split at h
 .rename_i d hd;split at h
  .cases h
  rename_i hH;split at h;rotate_left
  .cases h
  rename_i r hr;let E2:Operand->AV:=λx=>if x∈o.op.operands.toList then Z1i G (ev tmps) x else .any
  have hcong:act P o (clk*8000+d) (look (keyOf o) hints) E2 H=U r:=by
   rw[<- hr];exact Z82 λx hx=>by simp only[E2];rw[if_pos hx]
  have hs:=ZcY hcong;have key:out=⟨U (d,mkG G r.val),r.ups,phG G r.ph,Z2F G (ev tmps) o.op.operands.toList⟩/\(G=X\/r.up=X):=by
   clear hr hcong hs heq hph hn E2;cases G with
   | none=>injection h with h;exact⟨h.symm,.inl rfl⟩
   | some g =>
    cases hu:r.up with
    | none=>rw[hu]at h;injection h with h;exact⟨h.symm,.inr rfl⟩
    | some x=>rw[hu]at h;cases h
  obtain⟨rfl,hup⟩:=key;refine⟨λhG=>?_,λhG=>?_⟩
  .refine(hs Ow Im0 w0 ρ w Im clk a I oq hH (λx=>?_) (Z7Y hph hG)).wp λv w' ht=>?_
   .simp only[E2];split
    .rename_i hx;exact Z32 hx heq hG (Z1p T x)
    .exact .any _
   .obtain⟨ρ',I',he,hsub,hv⟩:=ht;rw[hd];exact hn _ _ ⟨ρ',Im,by show Inv _ _ _ _ _ _ (applyU r.ups H) _;rw[Res.applyU];exact I',(T.mono he (λ_ h=>h) hsub I.bnd).put d (Zb4 hG hv)⟩
  .rw[hd];have:r.up=X:=by
    rcases hup with h | h
    .obtain⟨g,hg,_⟩:=hG;rw[h]at hg;cases hg
    .exact h
   have hheap:applyU r.ups H=H:=by rw[Res.applyU];simp[Res.heap,this]
   refine hn _ _ ?_;show Sys Ow Im0 w0 (tmps.set d (mkG G r.val)) (applyU r.ups H) clk _ _;rw[hheap];exact Z93 I T hG d r.val
 .rename_i hd;split at h
  .cases h
  split at h
  .cases h
  rename_i hH;split at h;rotate_left
  .cases h
  rename_i r hr;cases h;have hs:=ZcY hr;refine⟨λ_=>?_,λhG=>by obtain⟨g,hg,_⟩:=hG;cases hg⟩;refine(hs Ow Im0 w0 ρ w Im clk a I oq hH (λx=>Z1p T x) hph).wp λv w' ht=>?_;obtain⟨ρ',I',he,hsub,hv⟩:=ht;rw[hd];exact hn _ _ ⟨ρ',Im,by show Inv _ _ _ _ _ _ (applyU r.ups H) _;rw[Res.applyU];exact I',(T.mono he (λ_ h=>h) hsub I.bnd)⟩
theorem Zaq{b:Bool}{hs:List Hint}(h:allP (Z4D b hs).ph)(ρ:Rho)(w:World)(Im:Nat->Prop):Rel ρ w Im (Z4D b hs).val (.bool b):=by
 unfold Z4D at h ⊢;split at h
 .rename_i c _;have:b=c:=by simpa[allP]using h
  rw[this];exact .d (.sc _ rfl)
 .exact .d (.sc _ rfl)
theorem Z7S{x:AV}{b:Bool}(h:asB x=U b):x=bv b:=by
 unfold asB at h;split at h
 .cases h;rfl
 .cases h
theorem ZfE{x:AV}{g b:Bool}(h:gdB x=U (g,b)):x = .gd g (bv b):=by
 unfold gdB at h;split at h
 .cases h;rfl
 .cases h
theorem ZeM{x:Operand}(h:ZjZ x=Y):x = .const (.bool Y):=by
 unfold ZjZ at h;split at h
 .rw[h]
 .cases h
theorem Zdh{x:Operand}(h:Zeg x=Y):x = .const (.bool Z):=by
 unfold Zeg at h;split at h
 .rename_i b;cases b<;>simp_all
 .cases h
theorem Zcg{G:Option Bool}{b:Bool}(hG:∀ g,G=U g->g=Y):conj G b=b:=by
 cases G with
 | none=>rfl
 | some g=>rw[conj,hG g rfl,Xa]
theorem Zni{G:Option Bool}{c x y:Operand}{out:Core}(ho:o.op = .pick c x y)(h:Z5Y hints o c x y G tmps=U out):Z6t P Ow Im0 w0 clk o G H tmps (out.out tmps H):=by
 intro a w ρ Im next Q I T hph heq hn
 unfold Z5Y at h;split at h
 .cases h
 rename_i d hd;split at h
 .cases h
 rename_i gc hgc;have hgc':=Z7S hgc;split at h
 .rename_i hx;have hxt:=ZeM hx;split at h;rotate_left
  .cases h
  rename_i g' v hgv;have hgv':=ZfE hgv;cases h;refine⟨λhG=>?_,λhG=>by rw[hd];exact hn _ _ (Z93 I T hG d _)⟩;have hc:=Z32 (l:=[c]) (x:=c) pq heq.left hG (Z1p T c);rw[hgc']at hc;have hcv:=Z0G hc;have hg':g' = !gc:=by
   have:=Zjo (heq.right (bv g',bv (conj G (!gc))) pq);rw[this,Zcg hG]
  have hy:=Z1p T y;rw[hgv']at hy;have hrun:(execOp a.eval o).run P w = .ok (.value (.bool (gc||v))) w:=by
   cases gc with
   | true =>
    have hxv:a.eval x = .bool Y:=by rw[hxt];rfl
    simp[execOp,ho,hcv,asBool,hxv]
   | false =>
    cases hy with
    | gd k1 k2 =>
     have:=Z0G (k1 (by rw[hg'];rfl));simp[execOp,ho,hcv,asBool,this]
  simp only[Lq,hrun,LM];rw[hd];exact hn _ _ ⟨ρ,Im,I,T.put d (Zb4 hG (Zaq (Z7Y hph hG) ρ w Im))⟩
 .split at h;rotate_left
  .cases h
  rename_i hx;have hxt:=Zdh hx;split at h;rotate_left
  .cases h
  rename_i g' v hgv;have hgv':=ZfE hgv;cases h;refine⟨λhG=>?_,λhG=>by rw[hd];exact hn _ _ (Z93 I T hG d _)⟩;have hc:=Z32 (l:=[c]) (x:=c) pq heq.left hG (Z1p T c);rw[hgc']at hc;have hcv:=Z0G hc;have hg':g'=gc:=by
   have:=Zjo (heq.right (bv g',bv (conj G gc)) pq);rw[this,Zcg hG]
  have hy:=Z1p T x;rw[hgv']at hy;have hrun:(execOp a.eval o).run P w = .ok (.value (.bool (gc&&v))) w:=by
   cases gc with
   | false =>
    have hxv:a.eval y = .bool Z:=by rw[hxt];rfl
    simp[execOp,ho,hcv,asBool,hxv]
   | true =>
    cases hy with
    | gd k1 k2 =>
     have:=Z0G (k1 hg');simp[execOp,ho,hcv,asBool,this]
  simp only[Lq,hrun,LM];rw[hd];exact hn _ _ ⟨ρ,Im,I,T.put d (Zb4 hG (Zaq (Z7Y hph hG) ρ w Im))⟩
theorem Z1O{f:Nat}(h:Z8K P f=Y)(args:Array Value)(w:World):(callFunc f args).run P w = .ok (.enter f args) w:=by
 unfold Z8K at h;split at h
 .rename_i fn hf;simp only[M,LD]at h;obtain⟨h1,h2⟩:=h;have h3:fn.body.isNone=Z:=by cases hb:fn.body<;>simp_all
  simp only[callFunc,LN,run_program,LB,hf,h2,h3,Bool.false_eq_true,if_false,LO]
 .cases h
theorem Znl{G:Option Bool}{c:Call}{f:Operand}{out:Core}(ho:o.op = .call c)(hc:c.callee = .value f)(h:Z6a P clk hints o f c.args.toList G tmps H=U out):Z6t P Ow Im0 w0 clk o G H tmps (out.out tmps H):=by
 intro a w ρ Im next Q I T hph heq hn
 unfold Z6a at h;split at h
 .cases h
 rename_i d hd;split at h;rotate_left
 .cases h
 rename_i k caps hf;split at h;rotate_left
 .cases h
 rename_i fr res news _ _;split at h;rotate_left
 .cases h
 rename_i as has;split at h;rotate_left
 .cases h
 rename_i hok;simp only[M]at hok;have key:out=⟨U (d,mkG G (mapT (renF d clk) res)),Zi4 d clk 0 news,phG G [GSpec P k as fr res news],Z2F G (ev tmps) (f::c.args.toList)⟩/\(G=X\/news=[]):=by
  clear heq hph hn has hf hok;cases G with
  | none=>injection h with h;exact⟨h.symm,.inl rfl⟩
  | some g =>
   cases news with
   | nil=>injection h with h;exact⟨h.symm,.inr rfl⟩
   | cons x l=>cases h
 obtain⟨rfl,hnews⟩:=key;refine⟨λhG=>?_,λhG=>?_⟩;rotate_left
 .rw[hd];have:news=[]:=by
   rcases hnews with h | h
   .obtain⟨g,hg,_⟩:=hG;rw[h]at hg;cases hg
   .exact h
  subst this;exact hn _ _ (Z93 I T hG d _)
 have hspec:GSpec P k as fr res news:=by simpa[allP]using Z7Y hph hG
 have hfv:=Z32 (l:=f::c.args.toList) (x:=f) pq heq hG (Z1p T f);rw[hf]at hfv;generalize hfe:a.eval f=fv at hfv;cases hfv with
 | fn hcn hcr =>
  rename_i cs;have hall:∀ (i:Nat) (x:AV) (v:Value),((c.args.toList.map (Z1i G (ev tmps)))++caps)[i]? = U x->(c.args.map a.eval++cs)[i]? = U v->Rel ρ w Im x v:=by
   intro i x v hx hv;rw[Ls]at hx;rw[LC]at hv;simp only[Ly,LS,LV]at hx hv;split at hx
   .rename_i hi;rw[if_pos hi]at hv;simp only[Lo,Ld,LQ]at hx hv;obtain⟨y,hy,rfl⟩:=hx;obtain⟨y',hy',rfl⟩:=hv;have:y=y':=by
     rw[LR]at hy;rw[hy]at hy';cases hy';rfl
    subst this;exact Z32 (F _ (W hy)) heq hG (Z1p T y)
   .rename_i hi;rw[if_neg hi]at hv;exact hcr _ x v hx hv
  have hsize:(c.args.map a.eval++cs).size=((c.args.toList.map (Z1i G (ev tmps)))++caps).length:=by simp[hcn]
  have hdata:∃ ImC:Nat->Prop,(∀ g,ImC g->g<w.heap.size)/\(fr=Z->∀ g,ImC g->Im g)/\as.length=((c.args.toList.map (Z1i G (ev tmps)))++caps).length/\∀ (i:Nat) (x:AV) (v:Value),as[i]? = U x->(c.args.map a.eval++cs)[i]? = U v->Rel (λ_=>X) w ImC x v:=by
   cases fr with
   | true =>
    simp only at has;obtain⟨h1,h2⟩:=ZbY has;refine⟨Zh3 ρ Im,λg hg=>?_,λh=>by simp at h,h1,λi x v hx hv=>?_⟩
    .rcases hg with hg | ⟨b,β,hb,hg⟩
     .exact I.imb g hg
     .exact I.bnd b β g hb hg
    .obtain⟨y,hy,hd⟩:=h2 i x hx;exact Zjn I (hall i y v hy hv) hd
   | false =>
    simp only at has;split at has;rotate_left
    .cases has
    rename_i hp;cases has;simp only[Lb]at hp;exact⟨Im,I.imb,λ_ g hg=>hg,rfl,λi x v hx hv=>Z9T (hall i x v hx hv) (hp x (W hx))⟩
  obtain⟨ImC,m1,m2,m3,m4⟩:=hdata;have hcall:=hspec w ImC (c.args.map a.eval++cs) m1 (by rw[hsize,m3]) m4;have hrun:(execOp a.eval o).run P w = .ok (.enter k (c.args.map a.eval++cs)) w:=by
   have:=Z1O (P:=P) hok.1 (c.args.map a.eval++cs) w;simp[execOp,ho,resolve,hc,hfe,LF,invoke,this]
  simp only[Lq,hrun,L3];refine hcall.mono λe w' he=>?_;obtain⟨v,rfl,K,ρ',Im',r1,r2,r3,r4,r5,r6,r7⟩:=he;have him':∀ g,Im' g->Im g\/w.heap.size<=g:=λg hg=>(r1 g hg).imp (λ⟨h1,h2⟩=>m2 h1 g h2) (λh=>h);obtain⟨J,hext⟩:=I.called K Im' him' r2;have hnm:∀ (b:Nat) (β:Bi) (g:Nat),ρ' b=U β->β.g=U g->¬ (Im g\/Im' g):=by
   intro b β g hb hg hor;obtain⟨q1,q2,q3⟩:=r3 b β g hb hg;rcases hor with h | h
   .have:=I.imb g h;omega
   .exact q3 h
  obtain⟨ρ2,J2,s1,s2⟩:=ZcS (ρ':=ρ') (dst:=d) news 0 ρ H J hok.2 (λi B hB=>by
    obtain⟨β,k1,k2⟩:=r6 i B hB;refine⟨β,by rw[LL];exact k1, ?_,λg hg=>⟨hnm i β g k1 hg,(r3 i β g k1 hg).2.1, ?_⟩⟩
    .have hB':ZgU B=Y:=by
      have:=hok.2;clear hnews hspec hcall r5 r6 h;have:∀ (l:List Blk) (k:Nat) (H:Heap),Z59 d clk k l H=Y->∀ B∈l,ZgU B=Y:=by
       intro l;induction l with
       | nil=>intro k H _ B hB;simp at hB
       | cons x l ih =>
        intro k H h B hB;simp only[Z59,M]at h;rcases N.1 hB with e | e
        .rw[e];exact h.1.1
        .exact ih _ _ h.2 B e
      exact this news 0 H hok.2 B (W hB)
     exact k2.arr_any hB' (λg hg=>.inr hg)
    .have:=(r3 i β g k1 hg).1;have:=I.kept.size;omega) r4 (λi hi β g hb hg b κ hκ hκg=>by
    have:=(r3 _ β g hb hg).1;have:=I.bnd b κ g hκ hκg;omega)
  rw[hd];refine hn _ _ ⟨ρ2,λg=>Im g\/Im' g,by show Inv _ _ _ _ _ _ (applyU (Zi4 d clk 0 news) H) _;rw[Z8x];exact J2,(T.mono hext (λ_ h=>.inl h) s1 I.bnd).put d (Zb4 hG ?_)⟩;have ren:∀ k β,ρ' k=U β->ρ2 (nid d clk k)=U β:=by
   intro k β hk;have:=s2 k β (r5 k β hk) (by rw[LL];exact hk);rwa [LL]at this
  refine Z7J (ρ:=ρ') (λg hg=>.inr hg) ?_ ?_ ?_ r7
  .intro b i oo v h;obtain⟨g,s,n,h1,rfl⟩:=Z4p h;exact .pt (ren _ _ h1)
  .intro b oo n v h;cases h with
   | os h1 h2 h3 h4 h5=>exact .os (ren _ _ h1) h2 h3 h4 h5
  .intro b v h;cases h with
   | ow h1 h2 h3 h4=>exact .ow (ren _ _ h1) h2 h3 h4
theorem ZaA{ρ ρ':Rho}{w:World}{Im Im':Nat->Prop}{x:AV}{v:Value}(h:Rel ρ w Im x v)(hp:Z86 x=Y)(hi:∀ g,Im g->Im' g):Rel ρ' w Im' x v:=by
 have:=Z9T (ρ':=λ_=>X) h hp;exact this.mono (Ext.refl _ _) hi (λb β hb=>by cases hb) (λb β g hb=>by cases hb)
theorem Zj2{ρ ρ':Rho}{w:World}{Im Im':Nat->Prop}{x:AV}{v:Value}(h:Rel ρ w Im x v)(hp:Zod x=Y)(hi:∀ g,Im g->Im' g):Rel ρ' w Im' x v:=by
 cases x with
 | tu l =>
  cases h with
  | tu _ cs h1 h3 =>
   simp only[Zod,Lb]at hp;exact .tu _ cs h1 λi a u ha hu=>ZaA (h3 i a u ha hu) (hp a (W ha)) hi
 | _=>exact ZaA h hp hi
theorem Z1K{b:Nat}:∀ {l:List Nat} {k n:Nat},idxN b l k=U n->k<=n/\l[n-k]? = U b
 | [],_,_,h=>by cases h
 | x::l,k,n,h=>by
  simp only[idxN]at h;split at h
  .rename_i e;cases h;exact⟨Lu _,by simp[LK e]⟩
  .obtain⟨h1,h2⟩:=Z1K h;refine⟨by omega, ?_⟩;rw[show n-k=n-(k+1)+1 from by omega];simpa using h2
theorem Z41{b:Nat}:∀ {l:List Nat} {k:Nat},idxN b l k=X->b∉l
 | [],_,_=>by simp
 | x::l,k,h=>by
  simp only[idxN]at h;split at h
  .cases h
  .rename_i e;have:=Xl e;simp only[N,not_or];exact⟨λe=>this e.symm,Z41 h⟩
theorem Z30:∀ {l:List Nat},nodupB l=Y->l.Nodup
 | [],_=>List.nodup_nil
 | x::l,h=>by
  simp only[nodupB,M]at h;refine Lz.2 ⟨?_,Z30 h.2⟩;have h1:=h.1;revert h1;cases hx:idxN x l 0 with
  | none=>intro _;exact Z41 hx
  | some _=>intro h;cases h
theorem Z4n{b:Nat}:∀ {l:List Nat} {i j:Nat},l.Nodup->l[i]? = U b->l[j]? = U b->i=j
 | [],i,j,_,hi,_=>by simp at hi
 | x::l,i,j,hn,hi,hj=>by
  obtain⟨h1,h2⟩:=Lz.1 hn;cases i with
  | zero =>
   cases j with
   | zero=>rfl
   | succ j =>
    simp at hi hj;subst hi;exact absurd (W hj) h1
  | succ i =>
   cases j with
   | zero =>
    simp at hi hj;subst hj;exact absurd (W hi) h1
   | succ j =>
    have:=Z4n h2 (by simpa using hi) (by simpa using hj);omega
theorem Z71{ls:List Nat}:∀ {post:List Blk} {H:Heap},ls.Nodup->post.length=ls.length->∀ b,(∀ (k:Nat),ls[k]? = U b->∃ B,post[k]? = U B/\applyU (ls.zip post) H b=U B)/\(b∉ls->applyU (ls.zip post) H b=H b):=by
 induction ls with
 | nil=>intro post H _ _ b;exact⟨λk h=>by simp at h,λ_=>rfl⟩
 | cons x ls ih =>
  intro post H hn hl b;cases post with
  | nil=>simp at hl
  | cons B post =>
   obtain⟨n1,n2⟩:=Lz.1 hn;obtain⟨i1,i2⟩:=ih (post:=post) (H:=updH H x B) n2 (by simpa using hl) b;simp only[List.zip_cons_cons,applyU];refine⟨λk hk=>?_,λhb=>?_⟩
   .cases k with
    | zero =>
     simp at hk;subst hk;exact⟨B,rfl,by rw[i2 n1];simp[updH]⟩
    | succ k =>
     obtain⟨C,c1,c2⟩:=i1 k (by simpa using hk);exact⟨C,by simpa using c1,c2⟩
   .simp only[N,not_or]at hb;rw[i2 hb.2];simp[updH,hb.1]
def Z7x(ks:List Nat)(ρ:Rho):Rho:=λb=>if b∈ks then ρ b else X
def Z6Z(ks:List Nat)(H:Heap):Heap:=λb=>if b∈ks then H b else X
theorem Z9t{H:Heap}:∀ {l:List Nat},Z6h H l=Y->∀ b∈l,(∃ ty s els,H b=U (.arr ty s els))/\8000<=b
 | [],_,b,hb=>by simp at hb
 | c::l,h,b,hb=>by
  simp only[Z6h,M]at h;obtain⟨⟨h1,h2⟩,h3⟩:=h;rcases N.1 hb with rfl | hb
  .refine⟨?_,Lt h2⟩;split at h1
   .exact⟨_,_,_,by assumption⟩
   .cases h1
  .exact Z9t h3 b hb
theorem Inv.only{ρ:Rho}{Im:Nat->Prop}{ks:List Nat}(I:Inv Ow Im0 w0 ρ w Im H clk)(hk:∀ b∈ks,∃ ty s els,H b=U (.arr ty s els)):Inv Ow Im0 w0 (Z7x ks ρ) w Im (Z6Z ks H) clk:=by
 have hρ:∀ b β,Z7x ks ρ b=U β->b∈ks/\ρ b=U β:=by
  intro b β h;unfold Z7x at h;split at h
  .exact⟨aa,h⟩
  .cases h
 have hH:∀ b B,Z6Z ks H b=U B->b∈ks/\H b=U B:=by
  intro b β h;unfold Z6Z at h;split at h
  .exact⟨aa,h⟩
  .cases h
 have hl:∀ b,live (Z6Z ks H) b->live H b:=λb ⟨B,h1,h2⟩=>⟨B,(hH b B h1).2,h2⟩
 refine⟨I.kept,λb b' β β' g l1 l2 q1 q2=>I.inj b b' β β' g (hl b l1) (hl b' l2) (hρ _ _ q1).2 (hρ _ _ q2).2,λb β g l q=>I.notIm b β g (hl b l) (hρ _ _ q).2,λb β g q=>I.bnd b β g (hρ _ _ q).2,λb β g q=>I.own b β g (hρ _ _ q).2,I.imb,I.im0,λb B q=>?_,λb hb q=>?_,I.one.1,λb β h q=>I.one.2 b β h (hρ _ _ q).2⟩
 .obtain⟨k1,k2⟩:=hH b B q;obtain⟨β,m1,m2⟩:=I.blk b B k2;obtain⟨ty,s,els,e⟩:=hk b k1;rw[k2]at e;cases e;exact⟨β,by unfold Z7x;rw[if_pos k1];exact m1,m2.arr_any rfl (λ_ h=>h)⟩
 .unfold Z6Z at q;unfold Z7x;split
  .rename_i hm;rw[if_pos hm]at q;exact I.fresh b hb q
  .rfl
section
variable {ks:List Nat}
theorem ZdN{ρ:Rho}{Im:Nat->Prop}{x y:AV}{v:Value}(h:Rel ρ w Im x v)(hd:toD1 H x=U y)(hk:∀ b∈ksL x,b∈ks):Rel (Z7x ks ρ) w Im x v/\toD1 (Z6Z ks H) x=U y:=by
 cases x with
 | d x=>cases h with | d h=>exact⟨.d h,hd⟩
 | rp e o=>cases h with | rp h1 h2 h3=>exact⟨.rp h1 h2 h3,hd⟩
 | ow b =>
  have hb:=hk b (by simp[ksL]);refine⟨?_, ?_⟩
  .cases h with | ow h1 h2 h3 h4=>exact .ow (by unfold Z7x;rw[if_pos hb];exact h1) h2 h3 h4
  .simp only[toD1,Z1f]at hd ⊢;simp only[Z6Z,if_pos hb];exact hd
 | os b o n =>
  have hb:=hk b (by simp[ksL]);refine⟨?_, ?_⟩
  .cases h with | os h1 h2 h3 h4 h5=>exact .os (by unfold Z7x;rw[if_pos hb];exact h1) h2 h3 h4 h5
  .simp only[toD1,Z1f]at hd ⊢;simp only[Z6Z,if_pos hb];exact hd
 | _=>simp[toD1]at hd
theorem ksLs{ρ:Rho}{Im:Nat->Prop}:∀ {l m:List AV},toDs H l=U m->(∀ b∈l.flatMap ksL,b∈ks)->toDs (Z6Z ks H) l=U m/\∀ (i:Nat) (a:AV) (v:Value),l[i]? = U a->Rel ρ w Im a v->Rel (Z7x ks ρ) w Im a v
 | [],m,h,_=>⟨h,λi a v ha=>by simp at ha⟩
 | x::l,m,h,hk=>by
  simp only[toDs]at h;split at h;rotate_left
  .cases h
  rename_i y r hy hr;cases h;obtain⟨h1,h2⟩:=ksLs (ρ:=ρ) (Im:=Im) hr (λb hb=>hk b (by simp only[Lw,L];exact .inr hb));have hkx:∀ b∈ksL x,b∈ks:=λb hb=>hk b (by simp only[Lw,L];exact .inl hb);refine⟨?_,λi a v ha hv=>?_⟩
  .simp only[toDs,h1];have:toD1 (Z6Z ks H) x=U y:=by
    cases x with
    | d x=>exact hy
    | rp e o=>exact hy
    | ow b=>simp only[toD1,Z1f]at hy ⊢;simp only[Z6Z,if_pos (hkx b (by simp[ksL]))];exact hy
    | os b o n=>simp only[toD1,Z1f]at hy ⊢;simp only[Z6Z,if_pos (hkx b (by simp[ksL]))];exact hy
    | _=>simp[toD1]at hy
   rw[this]
  .cases i with
   | zero=>simp at ha;subst ha;exact(ZdN hv hy hkx).1
   | succ i=>exact h2 i a v (by simpa using ha) hv
theorem Znp{ρ:Rho}{Im:Nat->Prop}{x y:AV}{v:Value}(h:Rel ρ w Im x v)(hd:toD H x=U y)(hk:∀ b∈ksM x,b∈ks):Rel (Z7x ks ρ) w Im x v/\toD (Z6Z ks H) x=U y:=by
 cases x with
 | ag l =>
  simp only[toD,Ld]at hd ⊢;obtain⟨m,hm,rfl⟩:=hd;obtain⟨h1,h2⟩:=ksLs (ρ:=ρ) (Im:=Im) (w:=w) hm hk;obtain⟨cs,rfl,k1,k2,k3⟩:=Z3a h;exact⟨.ag _ cs k1 k2 λi a u ha hu=>h2 i a u ha (k3 i a u ha hu),m,h1,rfl⟩
 | fn f l =>
  simp only[toD,Ld]at hd ⊢;obtain⟨m,hm,rfl⟩:=hd;obtain⟨h1,h2⟩:=ksLs (ρ:=ρ) (Im:=Im) (w:=w) hm hk;cases h with
  | fn k1 k3=>exact⟨.fn k1 λi a u ha hu=>h2 i a u ha (k3 i a u ha hu),m,h1,rfl⟩
 | ic t a =>
  simp only[toD,Ld]at hd ⊢;obtain⟨m,hm,rfl⟩:=hd;cases h with
  | ic h =>
   obtain⟨q1,q2⟩:=ZdN (ks:=ks) h hm hk;exact⟨.ic q1,m,q2,rfl⟩
 | _=>exact ZdN (H:=H) h hd hk
end
theorem Z4l{ks:List Nat}:∀ {H:Heap} (b:Nat),(b∈ks->applyU (ks.map λb=>(b,Blk.dead)) H b=U .dead)/\(b∉ks->applyU (ks.map λb=>(b,Blk.dead)) H b=H b):=by
 induction ks with
 | nil=>intro H b;exact⟨λh=>by simp at h,λ_=>rfl⟩
 | cons x ks ih =>
  intro H b;obtain⟨i1,i2⟩:=ih (H:=updH H x .dead) b;simp only[Lf,applyU,N,not_or];refine⟨λh=>?_,λh=>?_⟩
  .by_cases hb:b∈ks
   .exact i1 hb
   .rw[i2 hb];rcases h with h | h
    .simp[updH,h]
    .exact absurd h hb
  .rw[i2 h.2];simp[updH,h.1]
theorem ZnR{G:Option Bool}{c:Call}{f:Operand}{out:Core}(ho:o.op = .call c)(hc:c.callee = .value f)(h:Z6F P clk hints o f c.args.toList G tmps H=U out):Z6t P Ow Im0 w0 clk o G H tmps (out.out tmps H):=by
 intro a w ρ Im next Q I T hph heq hn
 unfold Z6F at h;split at h
 .cases h
 split at h
 .cases h
 rename_i d hd;split at h;rotate_left
 .cases h
 rename_i k caps hf;split at h;rotate_left
 .cases h
 rename_i res _ _;split at h;rotate_left
 .cases h
 rename_i as has;generalize hks:(c.args.toList.map (ev tmps)++caps).flatMap ksM=ks at h;split at h;rotate_left
 .cases h
 rename_i hok;cases h;simp only[M]at hok;obtain⟨⟨hok1,harr⟩,hres⟩:=hok;have harr:=Z9t harr;obtain⟨a1,a2⟩:=ZbY has;refine⟨λ_=>?_,λhG=>by obtain⟨g,hg,_⟩:=hG;cases hg⟩;have hspec:GSpec P k as Z res []:=by simpa[allP,Core.out]using hph
 have hfv:=Z1p T f;rw[hf]at hfv;generalize hfe:a.eval f=fv at hfv;cases hfv with
 | fn hcn hcr =>
  rename_i cs;have hall:∀ (i:Nat) (x:AV) (v:Value),((c.args.toList.map (ev tmps))++caps)[i]? = U x->(c.args.map a.eval++cs)[i]? = U v->Rel ρ w Im x v:=by
   intro i x v hx hv;rw[Ls]at hx;rw[LC]at hv;simp only[Ly,LS,LV]at hx hv;split at hx
   .rename_i hi;rw[if_pos hi]at hv;simp only[Lo,Ld,LQ]at hx hv;obtain⟨y,hy,rfl⟩:=hx;obtain⟨y',hy',rfl⟩:=hv;have:y=y':=by
     rw[LR]at hy;rw[hy]at hy';cases hy';rfl
    subst this;exact Z1p T y
   .rename_i hi;rw[if_neg hi]at hv;exact hcr _ x v hx hv
  have hsize:(c.args.map a.eval++cs).size=((c.args.toList.map (ev tmps))++caps).length:=by simp[hcn]
  have hk:∀ b∈ks,∃ ty s els,H b=U (.arr ty s els):=λb hb=>(harr b hb).1;have J:=I.only hk;let ImC:=Zh3 (Z7x ks ρ) Im;have hImC:∀ g,ImC g->Im g\/∃ b β,b∈ks/\ρ b=U β/\β.g=U g:=by
   rintro g (h | ⟨b,β,h1,h2⟩)
   .exact .inl h
   .unfold Z7x at h1;split at h1
    .exact .inr ⟨b,β,aa,h1,h2⟩
    .cases h1
  have hlive:∀ b∈ks,live H b:=λb hb=>by
   obtain⟨ty,s,els,e⟩:=hk b hb;exact⟨_,e,by simp⟩
  have hcall:=hspec w ImC (c.args.map a.eval++cs) (λg hg=>by
    rcases hImC g hg with h | ⟨b,β,_,h2,h3⟩
    .exact I.imb g h
    .exact I.bnd b β g h2 h3) (by rw[hsize,a1]) (λi y v hy hv=>by
    obtain⟨x,hx,hdx⟩:=a2 i y hy;obtain⟨q1,q2⟩:=Znp (ks:=ks) (hall i x v hx hv) hdx (λb hb=>by
     rw[<- hks];exact Lc.2 ⟨x,W hx,hb⟩)
    exact Zjn J q1 q2)
  have hrun:(execOp a.eval o).run P w = .ok (.enter k (c.args.map a.eval++cs)) w:=by
   have:=Z1O (P:=P) hok1 (c.args.map a.eval++cs) w;simp[execOp,ho,resolve,hc,hfe,LF,invoke,this]
  simp only[Lq,hrun,L3];refine hcall.mono λe w' he=>?_;obtain⟨v,rfl,K,ρ',Im',r1,r2,r3,r4,r5,r6,r7⟩:=he;have hext:Ext Im w w':=⟨K.size,λg hg=>K.block g (I.imb g hg) (λh=>h),λg hg=>K.rows g hg⟩
  have hH':∀ b B,applyU (ks.map λb=>(b,Blk.dead)) H b=U B->(b∈ks/\B = .dead)\/(b∉ks/\H b=U B):=by
   intro b B hB;by_cases hb:b∈ks
   .rw[(Z4l (H:=H) b).1 hb]at hB;cases hB;exact .inl ⟨hb,rfl⟩
   .rw[(Z4l (H:=H) b).2 hb]at hB;exact .inr ⟨hb,hB⟩
  have hlive':∀ b,live (applyU (ks.map λb=>(b,Blk.dead)) H) b->b∉ks/\live H b:=by
   rintro b ⟨B,h1,h2⟩;rcases hH' b B h1 with⟨_,rfl⟩ | ⟨q1,q⟩
   .exact absurd rfl h2
   .exact⟨q1,B,q,h2⟩
  rw[hd];have hres':Rel ρ w' (λg=>(Im g\/ImC g)\/Im' g) res v:=Zj2 r7 hres (λg hg=>.inr hg);refine hn _ _ ⟨ρ,λg=>(Im g\/ImC g)\/Im' g,⟨⟨K.os.trans I.kept.os,K.tape.trans I.kept.tape,K.output.trans I.kept.output,Li I.kept.size K.size,λkk hk hno=>?_,λkk hk=>?_⟩,
   λb b' β β' g l1 l2=>I.inj b b' β β' g (hlive' b l1).2 (hlive' b' l2).2,λb β g l q1 q2 him=>?_,λb β g q1 q2=>La (I.bnd b β g q1 q2) K.size,I.own,λg hg=>?_,λg hg=>?_,λb B hB=>?_,λb hb hB=>?_,I.one⟩,
   (T.mono hext (λ_ h=>.inl (.inl h)) (λ_ _ h=>h) I.bnd).put d hres'⟩
  .rw[K.block kk (La hk I.kept.size) (λh=>h)];exact I.kept.block kk hk hno
  .rw[K.rows kk (La hk I.kept.size)];exact I.kept.rows kk hk
  .obtain⟨l1,l2⟩:=hlive' b l;have key:¬ ImC g:=by
    intro hc;rcases hImC g hc with h | ⟨b2,β2,h1,h2,h3⟩
    .exact I.notIm b β g l2 q1 q2 h
    .have:=I.inj b b2 β β2 g l2 (hlive b2 h1) q1 h2 q2 h3;subst this;exact l1 h1
   rcases him with(him | him) | him
   .exact I.notIm b β g l2 q1 q2 him
   .exact key him
   .rcases r1 g him with⟨_,h⟩ | h
    .exact key h
    .have:=I.bnd b β g q1 q2;omega
  .rcases hg with(hg | hg) | hg
   .exact La (I.imb g hg) K.size
   .rcases hImC g hg with h | ⟨b,β,_,h2,h3⟩
    .exact La (I.imb g h) K.size
    .exact La (I.bnd b β g h2 h3) K.size
   .exact r2 g hg
  .have key:∀ g,ImC g->Im0 g\/w0.heap.size<=g\/OwA Ow g:=by
    intro g hg;rcases hImC g hg with h | ⟨b,β,h1,h2,h3⟩
    .exact I.im0 g h
    .rcases I.own b β g h2 h3 with⟨h,_⟩ | h
     .exact .inr (.inl h)
     .exact .inr (.inr h)
   rcases hg with(hg | hg) | hg
   .exact I.im0 g hg
   .exact key g hg
   .rcases r1 g hg with⟨_,h⟩ | h
    .exact key g h
    .exact .inr (.inl (Li I.kept.size h))
  .rcases hH' b B hB with⟨q1,rfl⟩ | ⟨q1,q2⟩
   .obtain⟨ty,s,els,e⟩:=hk b q1;obtain⟨β,m1,_⟩:=I.blk b _ e;exact⟨β,m1,trivial⟩
   .obtain⟨β,m1,m2⟩:=I.blk b B q2;exact⟨β,m1,m2.mono hext (λ_ h=>.inl (.inl h)) (λ_ _ h=>h) I.bnd (λg hg=>K.block g (I.bnd b β g m1 hg) (λh=>h))⟩
  .refine I.fresh b hb ?_;have hB':applyU (ks.map λb=>(b,Blk.dead)) H b=X:=hB;by_cases hbk:b∈ks
   .rw[(Z4l (H:=H) b).1 hbk]at hB';cases hB'
   .rw[(Z4l (H:=H) b).2 hbk]at hB';exact hB'
theorem Z37{f:AV->Option AV}:∀ {l r:List AV},allO f l=U r->r.length=l.length/\∀ (i:Nat) (y:AV),r[i]? = U y->∃ x,l[i]? = U x/\f x=U y
 | [],r,h=>by simp[allO]at h;subst h;simp
 | a::l,r,h=>by
  simp only[allO]at h;split at h;rotate_left
  .cases h
  rename_i x m hx hm;cases h;obtain⟨h1,h2⟩:=Z37 hm;refine⟨by simp[h1],λi y hy=>?_⟩;cases i with
  | zero=>simp at hy;subst hy;exact⟨a,rfl,hx⟩
  | succ i=>exact h2 i y (by simpa using hy)
section
variable {ρ ρ':Rho} {w:World} {Im:Nat->Prop} {f:Nat->Option Nat}
theorem ZbD(hf:∀ b k β,f b=U k->ρ b=U β->ρ' k=U β){x y:AV}{v:Value}(h:Rel ρ w Im x v)(hx:nmL f x=U y):Rel ρ' w Im y v:=by
 unfold nmL at hx;split at hx
 .cases hx;cases h with
  | d h=>exact .d h
 .cases hx;cases h with
  | rp h1 h2 h3=>exact .rp h1 h2 h3
 .split at hx
  .rename_i k hk;cases hx;obtain⟨g,s,n,h1,rfl⟩:=Z4p h;exact .pt (hf _ _ _ hk h1)
  .cases hx
 .split at hx
  .rename_i k hk;cases hx;cases h with
   | os h1 h2 h3 h4 h5=>exact .os (hf _ _ _ hk h1) h2 h3 h4 h5
  .cases hx
 .split at hx
  .rename_i k hk;cases hx;cases h with
   | ow h1 h2 h3 h4=>exact .ow (hf _ _ _ hk h1) h2 h3 h4
  .cases hx
 .cases hx
theorem Zim(hf:∀ b k β,f b=U k->ρ b=U β->ρ' k=U β){x y:AV}{v:Value}(h:Rel ρ w Im x v)(hx:nmM f x=U y):Rel ρ' w Im y v:=by
 have agg:∀ {l r:List AV} {v:Value},Rel ρ w Im (.ag l) v->allO (nmL f) l=U r->Rel ρ' w Im (.ag r) v:=λh hr=>by
  obtain⟨cs,rfl,h1,h2,h3⟩:=Z3a h;obtain⟨k1,k2⟩:=Z37 hr;refine .ag _ cs oq h2 λi a u ha hu=>?_;obtain⟨z,m1,m2⟩:=k2 i a ha;exact ZbD hf (h3 i z u m1 hu) m2
 unfold nmM at hx;split at hx
 .split at hx
  .rename_i r hr;cases hx;exact agg h hr
  .cases hx
 .split at hx
  .rename_i r hr;cases hx;obtain⟨k1,k2⟩:=Z37 hr;cases h with
   | fn hn h =>
    refine .fn oq λi a u ha hu=>?_;obtain⟨z,m1,m2⟩:=k2 i a ha;exact ZbD hf (h i z u m1 hu) m2
  .cases hx
 .split at hx
  .rename_i r hr;cases hx;cases h with
   | ic h=>exact .ic (agg h hr)
  .cases hx
 .split at hx
  .rename_i r hr;cases hx;cases h with
   | ic h=>exact .ic (ZbD hf h hr)
  .cases hx
 .exact ZbD hf h hx
theorem ZnW(hf:∀ b k β,f b=U k->ρ b=U β->ρ' k=U β){β:Bi}{B C:Blk}(h:RelB ρ w Im β B)(hx:nmB f B=U C):RelB ρ' w Im β C:=by
 cases B with
 | box ty cells =>
  simp only[nmB]at hx;split at hx;rotate_left
  .cases hx
  rename_i r hr;cases hx;obtain⟨k1,k2⟩:=Z37 hr;obtain⟨h0,h00,g,cs,h1,h2,h3,h3',h4⟩:=h;refine⟨by rw[h0,k1],h00,g,cs,h1,h2,by rw[k1];exact h3,h3',λo a v ha hv=>?_⟩;obtain⟨z,m1,m2⟩:=k2 o a ha;exact Zim hf (h4 o z v m1 hv) m2
 | arr ty s els=>cases hx;exact h
 | mp ks=>cases hx;exact h
 | dead=>cases hx
theorem Z8U{H:Heap}:∀ {l:List Nat} {r:List Blk},preB f H l=U r->r.length=l.length/\∀ (k:Nat) (C:Blk),r[k]? = U C->∃ b B,l[k]? = U b/\H b=U B/\nmB f B=U C
 | [],r,h=>by simp[preB]at h;subst h;simp
 | b::l,r,h=>by
  simp only[preB]at h;split at h;rotate_left
  .cases h
  rename_i B r' hB hr;split at h;rotate_left
  .cases h
  rename_i C hd;cases h;obtain⟨h1,h2⟩:=Z8U hr;refine⟨by simp[h1],λk D hD=>?_⟩;cases k with
  | zero=>simp at hD;subst hD;exact⟨b,B,rfl,hB,hd⟩
  | succ k=>simpa using h2 k D (by simpa using hD)
end
theorem ZfT(dst clk:Nat):∀ (n k i:Nat),i<n->(nids dst clk k n)[i]? = U (nid dst clk (k+i))
 | 0,_,_,h=>by omega
 | n+1,k,0,_=>rfl
 | n+1,k,i+1,h=>by
  simp only[nids,List.getElem?_cons_succ];rw[ZfT dst clk n (k+1) i oq,show k+1+i=k+(i+1)from by omega]
theorem Z7R(dst clk:Nat):∀ (n k:Nat),(nids dst clk k n).length=n
 | 0,_=>rfl
 | n+1,k=>by simp[nids,Z7R dst clk n (k+1)]
theorem ZhQ{dst clk b:Nat}:∀ {n k:Nat},b∈nids dst clk k n->∃ i,nid dst clk i=b
 | 0,_,h=>by simp[nids]at h
 | n+1,k,h=>by
  simp only[nids,N]at h;rcases h with rfl | h
  .exact⟨k,rfl⟩
  .exact ZhQ h
theorem ZfV{dst clk j:Nat}:∀ {n k:Nat},j<k->nid dst clk j∉nids dst clk k n
 | 0,_,_,h=>by simp[nids]at h
 | n+1,k,hj,h=>by
  simp only[nids,N]at h;rcases h with h | h
  .have:=Zol h;omega
  .exact ZfV oq h
theorem ZdI{dst clk b:Nat}:∀ {n k:Nat},b∈nids dst clk k n->clk*8000<=b
 | 0,_,h=>by simp[nids]at h
 | n+1,k,h=>by
  simp only[nids,N]at h;rcases h with rfl | h
  .exact Z9a _ _ _
  .exact ZdI h
theorem Z3n{H H':Heap}:∀ {l:List Nat},(∀ b∈l,H b=H' b)->Z2A H l=Z2A H' l
 | [],_=>rfl
 | b::l,h=>by
  simp only[Z2A];rw[h b pq,Z3n (l:=l) (λy hy=>h y (by simp[hy]))]
theorem Z3Q{H:Heap}:∀ {l:List Nat},Z2A H l=Y->∀ b∈l,H b=X
 | [],_,b,hb=>by simp at hb
 | x::l,h,b,hb=>by
  simp only[Z2A,M]at h;rcases N.1 hb with rfl | hb
  .have h1:=h.1;revert h1;cases H b with
   | none=>exact λ_=>rfl
   | some _=>exact λh=>by cases h
  .exact Z3Q h.2 b hb
theorem Zgn{ids:List Nat}{B:Blk}(h:Z3F ids B≠.dead):B≠.dead:=by
 rintro rfl;exact h rfl
section
variable {ρ ρ':Rho} {w:World} {Im Im':Nat->Prop} {ids:List Nat}
theorem Z7E(hr:∀ k β,ρ k=U β->ρ' (ids.getD k 0)=U β) :
  (∀ b i o v,Rel ρ w Im (.pt b i o) v->Rel ρ' w Im' (renI ids (.pt b i o)) v)/\(∀ b o n v,Rel ρ w Im (.os b o n) v->Rel ρ' w Im' (renI ids (.os b o n)) v)/\∀ b v,Rel ρ w Im (.ow b) v->Rel ρ' w Im' (renI ids (.ow b)) v:=by
 refine⟨λb i o v h=>?_,λb o n v h=>?_,λb v h=>?_⟩
 .obtain⟨g,s,n,h1,rfl⟩:=Z4p h;exact .pt (hr _ _ h1)
 .cases h with
  | os h1 h2 h3 h4 h5=>exact .os (hr _ _ h1) h2 h3 h4 h5
 .cases h with
  | ow h1 h2 h3 h4=>exact .ow (hr _ _ h1) h2 h3 h4
theorem Z8Z(hi:∀ g,Im g->Im' g)(hr:∀ k β,ρ k=U β->ρ' (ids.getD k 0)=U β){β:Bi}{B:Blk}(h:RelB ρ w Im β B):RelB ρ' w Im' β (Z3F ids B):=by
 obtain⟨q1,q2,q3⟩:=Z7E (w:=w) (Im:=Im) (Im':=Im') hr;cases B with
 | box ty cells =>
  obtain⟨h0,h00,g,cs,h1,h2,h3,h3',h4⟩:=h;refine⟨by simpa using h0,h00,g,cs,h1,h2,by simpa using h3,h3',λo x v hx hv=>?_⟩;simp only[Lo,Ld]at hx;obtain⟨y,hy,rfl⟩:=hx;exact Z6u hi q1 q2 q3 (h4 o y v hy hv)
 | arr ty s els=>exact RelB.arr_any (by rfl) h hi
 | mp ks=>exact h
 | dead=>trivial
end
theorem ZdP{G:Option Bool}{c:Call}{f:Operand}{d k:Nat}{caps as:List AV}{ls:List Nat}{res:AV}{pre post:List Blk}(ho:o.op = .call c)(hc:c.callee = .value f)(hd:o.dst=U d)(hGt:∀ g,G=U g->g=Y)(hf:fnOf (Z1i G (ev tmps) f) c.args.toList=U (k,caps)){av:Operand->AV}
  (hav:∀ (a:Act) (w:World) (ρ:Rho) (Im:Nat->Prop),Inv Ow Im0 w0 ρ w Im H clk->∀ y,Rel ρ w Im (Z1i G (ev tmps) y) (a.eval y)->Rel ρ w Im (av y) (a.eval y))
  (has:allO (nmM λb=>idxN b ls 0) (c.args.toList.map av++caps)=U as) (hpre:preB (λb=>idxN b ls 0) H ls=U pre) (hok:(Z8K P k&&nodupB (Z1W d clk ls post)&&Lh ls.length post.length&&Lh (post.length-ls.length) 7&&Z2A H (nids d clk 0 (post.length-ls.length)))=Y) :
  Z6t P Ow Im0 w0 clk o G H tmps ((⟨U (d,mapT (renI (Z1W d clk ls post)) res),(Z1W d clk ls post).zip (post.map (Z3F (Z1W d clk ls post))),[BorSpec P k as pre res post],Z2F G (ev tmps) (f::c.args.toList)⟩:Core).out tmps H):=by
 intro a w ρ Im next Q I T hph heq hn
 simp only[M]at hok;obtain⟨⟨⟨⟨hok1,hnd⟩,hlen⟩,_⟩,hnone⟩:=hok;have hnd:=Z30 hnd;have hlen:=Lt hlen;have hnone:=Z3Q hnone;obtain⟨p1,p2⟩:=Z8U hpre;obtain⟨a1,a2⟩:=Z37 has;refine⟨λhG=>?_,λhG=>by obtain⟨g,h1,h2⟩:=hG;have:=hGt g h1;rw[this]at h2;cases h2⟩;have hspec:BorSpec P k as pre res post:=by simpa[allP,Core.out]using hph
 have hfv:=Z32 (l:=f::c.args.toList) (x:=f) pq heq hG (Z1p T f);generalize hfe:a.eval f=fv at hfv;obtain⟨V,hrunV,hsize,hall⟩:∃ V:Array Value,(∀ w,(execOp a.eval o).run P w = .ok (.enter k V) w)/\V.size=((c.args.toList.map av)++caps).length/\∀ (i:Nat) (x:AV) (v:Value),((c.args.toList.map av)++caps)[i]? = U x->V[i]? = U v->Rel ρ w Im x v:=by
  unfold fnOf at hf;split at hf
  .rename_i k' caps' e;cases hf;rw[e]at hfv;cases hfv with
   | fn hcn hcr =>
    rename_i cs;refine⟨c.args.map a.eval++cs,λw=>?_,by simp[hcn],λi x v hx hv=>?_⟩
    .have:=Z1O (P:=P) hok1 (c.args.map a.eval++cs) w;simp[execOp,ho,resolve,hc,hfe,LF,invoke,this]
    rw[Ls]at hx;rw[LC]at hv;simp only[Ly,LS,LV]at hx hv;split at hx
    .rename_i hi;rw[if_pos hi]at hv;simp only[Lo,Ld,LQ]at hx hv;obtain⟨y,hy,rfl⟩:=hx;obtain⟨y',hy',rfl⟩:=hv;have:y=y':=by
      rw[LR]at hy;rw[hy]at hy';cases hy';rfl
     subst this;exact hav a w ρ Im I y (Z32 (F _ (W hy)) heq hG (Z1p T y))
    .rename_i hi;rw[if_neg hi]at hv;exact hcr _ x v hx hv
  .rename_i k' a' e he;cases hf;rw[e]at hfv;have hz:c.args = #[]:=by simpa using he
   cases hfv with
   | fm hr =>
    rename_i u;refine⟨#[u],λw=>?_,by simp[hz],λi x v hx hv=>?_⟩
    .have:=Z1O (P:=P) hok1 #[u] w;simp[execOp,ho,resolve,hc,hfe,hz,LF,invoke,this]
    .rw[hz]at hx;cases i with
     | zero=>simp at hx hv;subst hx;subst hv;exact hr
     | succ i=>simp at hv
  .cases hf
 have hndl:ls.Nodup:=(Xi.1 hnd).1;let ρc:Rho:=λk=>match ls[k]? with | U b=>ρ b | X=>X
 have hρc:∀ k β,ρc k=U β->∃ b,ls[k]? = U b/\ρ b=U β:=by
  intro k β hk;simp only[ρc]at hk;split at hk
  .exact⟨_,aa,hk⟩
  .cases hk
 have hin:∀ (k b:Nat),ls[k]? = U b->ρc k=ρ b:=by intro k b h;simp only[ρc,h]
 have hnm:∀ b k β,idxN b ls 0=U k->ρ b=U β->ρc k=U β:=by
  intro b k β hk hb;obtain⟨_,q2⟩:=Z1K hk;rw[hin k b (by simpa using q2)];exact hb
 have hblk:∀ (k b:Nat),ls[k]? = U b->∃ B C β,pre[k]? = U C/\H b=U B/\nmB (λb=>idxN b ls 0) B=U C/\ρ b=U β/\RelB ρ w Im β B:=by
  intro k b hk;have hk':k<pre.length:=by rw[p1];exact(Ln.1 hk).1
  obtain⟨b',B,q1,q2,q3⟩:=p2 k _ (Le hk');rw[hk]at q1;cases q1;obtain⟨β,q4,q5⟩:=I.blk b _ q2;exact⟨_,_,β,Le hk',q2,q3,q4,q5⟩
 have hlive:∀ (k b:Nat),ls[k]? = U b->live H b:=by
  intro k b hk;obtain⟨B,C,β,_,q2,q3,_⟩:=hblk k b hk;exact⟨B,q2,by rintro rfl;simp[nmB]at q3⟩
 have hcall:=hspec w Im ρc V I.imb (by rw[hsize,a1]) (λk β hk=>by
   obtain⟨b,q1,_⟩:=hρc k β hk;rw[p1];exact(Ln.1 q1).1) (λb b' β β' g h1 h2 h3 h4=>by
   obtain⟨c1,q1,q2⟩:=hρc b β h1;obtain⟨c2,r1,r2⟩:=hρc b' β' h2;have:=I.inj c1 c2 β β' g (hlive _ _ q1) (hlive _ _ r1) q2 r2 h3 h4;subst this;exact Z4n hndl q1 r1) (λb β g h1 h2=>by
   obtain⟨c1,q1,q2⟩:=hρc b β h1;exact⟨I.bnd c1 β g q2 h2,I.notIm c1 β g (hlive _ _ q1) q2 h2⟩) (λk C hC=>by
   obtain⟨b,B,q1,q2,q3⟩:=p2 k C hC;obtain⟨β,q4,q5⟩:=I.blk b B q2;exact⟨β,by rw[hin k b q1];exact q4,ZnW hnm q5 q3⟩) (λi y v hy hv=>by
   obtain⟨x,hx,hr⟩:=a2 i y hy;exact Zim hnm (hall i x v hx hv) hr)
 have hrun:=hrunV w;simp only[Lq,hrun,L3];refine hcall.mono λe w' he=>?_;obtain⟨v,rfl,K,ρ',Im',s1,s2,r1,r2,s3,s4,s5,r3,r4⟩:=he;have hmem:∀ g,OwA (ownR ρc) g->∃ (kk b:Nat) (β:Bi),ls[kk]? = U b/\ρ b=U β/\β.g=U g:=by
  rintro g ⟨kk,β,h1,h2⟩;obtain⟨b,q1,q2⟩:=hρc kk β h1;exact⟨kk,b,β,q1,q2,h2⟩
 have hnl:∀ g,Im g->¬ OwA (ownR ρc) g:=by
  intro g hg h;obtain⟨kk,b,β,q1,q2,q3⟩:=hmem g h;exact I.notIm b β g (hlive _ _ q1) q2 q3 hg
 have hext:Ext Im w w':=⟨K.size,λg hg=>K.block g (I.imb g hg) (hnl g hg),λg hg=>K.rows g hg⟩
 generalize hids:Z1W d clk ls post=ids at hnd hn hph;have hidl:ids.length=post.length:=by
  rw[<- hids,Z1W,L1,Z7R];omega
 have hidn:∀ (kk b:Nat),ids[kk]? = U b->ls[kk]? = U b\/(ls.length<=kk/\clk*8000<=b/\H b=X):=by
  intro kk b hb;rw[<- hids,Z1W,Ls]at hb;split at hb
  .exact .inl hb
  .have hm:=W hb;exact .inr ⟨by omega,ZdI hm,hnone b hm⟩
 have hidls:∀ (kk b:Nat),ls[kk]? = U b->ids[kk]? = U b:=by
  intro kk b hb;rw[<- hids,Z1W,Ls,if_pos (Ln.1 hb).1];exact hb
 have hidm:∀ b,b∈ids->∃ kk:Nat,ids[kk]? = U b:=λb hb=>L0 hb;let ρ2:Rho:=λb=>match idxN b ids 0 with | U kk=>ρ' kk | X=>ρ b
 have hρin:∀ (kk b:Nat),ids[kk]? = U b->ρ2 b=ρ' kk:=by
  intro kk b hb;simp only[ρ2];cases hx:idxN b ids 0 with
  | none=>exact absurd (W hb) (Z41 hx)
  | some k2 =>
   obtain⟨_,q⟩:=Z1K hx;rw[Z4n hnd hb (by simpa using q)]
 have hρout:∀ b,b∉ids->ρ2 b=ρ b:=by
  intro b hb;simp only[ρ2];cases hx:idxN b ids 0 with
  | none=>rfl
  | some k2 =>
   obtain⟨_,q⟩:=Z1K hx;exact absurd (W q) hb
 have hsub:∀ b β,ρ b=U β->ρ2 b=U β:=by
  intro b β hb;by_cases hm:b∈ids
  .obtain⟨kk,hkk⟩:=hidm b hm;rw[hρin kk b hkk];rcases hidn kk b hkk with h | ⟨_,h1,h2⟩
   .exact s1 kk β (by rw[hin kk b h];exact hb)
   .rw[I.fresh b h1 h2]at hb;cases hb
  .rw[hρout b hm];exact hb
 have hH2:=λb=>Z71 (ls:=ids) (post:=post.map (Z3F ids)) (H:=H) hnd (by simp[hidl]) b;have hH':∀ b B,applyU (ids.zip (post.map (Z3F ids))) H b=U B->(∃ (kk:Nat) (C:Blk),ids[kk]? = U b/\post[kk]? = U C/\B=Z3F ids C)\/(b∉ids/\H b=U B):=by
  intro b B hB;by_cases hb:b∈ids
  .obtain⟨kk,hkk⟩:=hidm b hb;obtain⟨C,c1,c2⟩:=(hH2 b).1 kk hkk;rw[c2]at hB;cases hB;simp only[Lo,Ld]at c1;obtain⟨C',c3,c4⟩:=c1;exact .inl ⟨kk,C',hkk,c3,c4.symm⟩
  .rw[(hH2 b).2 hb]at hB;exact .inr ⟨hb,hB⟩
 have hlive':∀ b,live (applyU (ids.zip (post.map (Z3F ids))) H) b->(∃ kk:Nat,ids[kk]? = U b/\live (hL post) kk)\/(b∉ids/\live H b):=by
  rintro b ⟨B,h1,h2⟩;rcases hH' b B h1 with⟨kk,C,q1,q2,rfl⟩ | ⟨q1,q2⟩
  .exact .inl ⟨kk,q1,C,q2,Zgn h2⟩
  .exact .inr ⟨q1,B,q2,h2⟩
 have hoth:∀ b β g,b∉ids->live H b->ρ b=U β->β.g=U g->¬ (w.heap.size<=g\/OwA (ownR ρc) g):=by
  rintro b β g hb hl h1 h2 (h | h)
  .have:=I.bnd b β g h1 h2;omega
  .obtain⟨kk,b2,β2,q1,q2,q3⟩:=hmem g h;have:=I.inj b b2 β β2 g hl (hlive _ _ q1) h1 q2 h2 q3;subst this;exact hb (W (hidls _ _ q1))
 have hcl:=I.one.1;rw[hd];refine hn _ _ ⟨ρ2,λg=>Im g\/Im' g,⟨⟨K.os.trans I.kept.os,K.tape.trans I.kept.tape,K.output.trans I.kept.output,Li I.kept.size K.size,λkk hk hno=>?_,λkk hk=>?_⟩,
  λb b' β β' g l1 l2 h1 h2 h3 h4=>?_,λb β g l q1 q2 him=>?_,λb β g q1 q2=>?_,λb β g q1 q2=>?_,λg hg=>?_,λg hg=>?_,λb B hB=>?_,λb hb hB=>?_,hcl,λb β hb hβ=>?_⟩,
  (T.mono hext (λ_ h=>.inl h) hsub I.bnd).put d ?_⟩
 .rw[K.block kk (La hk I.kept.size) (λh=>?_)]
  .exact I.kept.block kk hk hno
  .obtain⟨_,b,β,_,m2,m3⟩:=hmem kk h;rcases I.own b β kk m2 m3 with⟨h,_⟩ | h
   .omega
   .exact hno h
 .rw[K.rows kk (La hk I.kept.size)];exact I.kept.rows kk hk
 .rcases hlive' b l1 with⟨k1,m1,m2⟩ | ⟨m1,m2⟩<;>rcases hlive' b' l2 with⟨k2,n1,n2⟩ | ⟨n1,n2⟩
  .rw[hρin _ _ m1]at h1;rw[hρin _ _ n1]at h2;have:=s5 k1 k2 β β' g m2 n2 h1 h2 h3 h4;subst this;rw[m1]at n1;cases n1;rfl
  .rw[hρin _ _ m1]at h1;rw[hρout _ n1]at h2;exact absurd (s3 k1 β g h1 h3).2 (hoth b' β' g n1 n2 h2 h4)
  .rw[hρout _ m1]at h1;rw[hρin _ _ n1]at h2;exact absurd (s3 k2 β' g h2 h4).2 (hoth b β g m1 m2 h1 h3)
  .rw[hρout _ m1]at h1;rw[hρout _ n1]at h2;exact I.inj b b' β β' g m2 n2 h1 h2 h3 h4
 .rcases hlive' b l with⟨k1,m1,m2⟩ | ⟨m1,m2⟩
  .rw[hρin _ _ m1]at q1;rcases him with him | him
   .rcases(s3 k1 β g q1 q2).2 with h | h
    .have:=I.imb g him;omega
    .exact hnl g him h
   .exact s4 k1 β g m2 q1 q2 him
  .rw[hρout _ m1]at q1;rcases him with him | him
   .exact I.notIm b β g m2 q1 q2 him
   .rcases r1 g him with h | h
    .exact I.notIm b β g m2 q1 q2 h
    .exact hoth b β g m1 m2 q1 q2 h
 .by_cases hm:b∈ids
  .obtain⟨kk,hkk⟩:=hidm b hm;rw[hρin kk b hkk]at q1;exact(s3 kk β g q1 q2).1
  .rw[hρout b hm]at q1;exact La (I.bnd b β g q1 q2) K.size
 .by_cases hm:b∈ids
  .obtain⟨kk,hkk⟩:=hidm b hm;rw[hρin kk b hkk]at q1;rcases hidn kk b hkk with h | ⟨_,h8,_⟩
   .obtain⟨B,C,β2,_,_,_,n1,_⟩:=hblk kk b h;have e:=s1 kk β2 (by rw[hin kk b h];exact n1);rw[q1]at e;cases e;exact I.own b β g n1 q2
   .rcases(s3 kk β g q1 q2).2 with h | h
    .exact .inl ⟨Li I.kept.size h,by omega⟩
    .obtain⟨_,b2,β2,_,m2,m3⟩:=hmem g h;exact(I.own b2 β2 g m2 m3).imp (λh=>⟨h.1,by omega⟩) (λh=>h)
  .rw[hρout b hm]at q1;exact I.own b β g q1 q2
 .rcases hg with hg | hg
  .exact La (I.imb g hg) K.size
  .exact r2 g hg
 .rcases hg with hg | hg
  .exact I.im0 g hg
  .rcases r1 g hg with h | h | h
   .exact I.im0 g h
   .exact .inr (.inl (Li I.kept.size h))
   .obtain⟨_,b2,β2,_,m2,m3⟩:=hmem g h;exact(I.own b2 β2 g m2 m3).elim (λh=>.inr (.inl h.1)) (λh=>.inr (.inr h))
 .rcases hH' b B hB with⟨kk,C,q1,q2,rfl⟩ | ⟨q1,q2⟩
  .obtain⟨β,m1,m2⟩:=r3 kk C q2;refine⟨β,by rw[hρin kk b q1];exact m1,Z8Z (λ_ h=>.inr h) (λk3 β3 h3=>?_) m2⟩;have hk3:k3<ids.length:=by rw[hidl];exact s2 k3 β3 h3
   have e:=Le hk3;rw[LY,e];show ρ2 ids[k3]=U β3;rw[hρin k3 _ e];exact h3
  .obtain⟨β,m1,m2⟩:=I.blk b B q2;by_cases hdead:B = .dead
   .subst hdead;exact⟨β,hsub b β m1,trivial⟩
   .refine⟨β,hsub b β m1,m2.mono hext (λ_ h=>.inl h) hsub I.bnd (λg hg=>K.block g (I.bnd b β g m1 hg) λh=>?_)⟩;exact hoth b β g q1 ⟨B,q2,hdead⟩ m1 hg (.inr h)
 .by_cases hm:b∈ids
  .obtain⟨kk,hkk⟩:=hidm b hm;obtain⟨C,_,c2⟩:=(hH2 b).1 kk hkk;have hB':applyU (ids.zip (post.map (Z3F ids))) H b=X:=hB;rw[c2]at hB';cases hB'
  .have hB':applyU (ids.zip (post.map (Z3F ids))) H b=X:=hB;rw[(hH2 b).2 hm]at hB';rw[hρout b hm];exact I.fresh b hb hB'
 .by_cases hm:b∈ids
  .obtain⟨kk,hkk⟩:=hidm b hm;rw[hρin kk b hkk]at hβ;rcases hidn kk b hkk with h | ⟨_,h8,_⟩
   .obtain⟨B,C,β2,_,_,_,n1,_⟩:=hblk kk b h;have e:=s1 kk β2 (by rw[hin kk b h];exact n1);rw[hβ]at e;cases e;exact I.one.2 b β hb n1
   .omega
  .rw[hρout b hm]at hβ;exact I.one.2 b β hb hβ
 .have hr:∀ k3 β3,ρ' k3=U β3->ρ2 (ids.getD k3 0)=U β3:=by
   intro k3 β3 h3;have hk3:k3<ids.length:=by rw[hidl];exact s2 k3 β3 h3
   have e:=Le hk3;rw[LY,e];show ρ2 ids[k3]=U β3;rw[hρin k3 _ e];exact h3
  obtain⟨q1,q2,q3⟩:=Z7E (w:=w') (Im:=Im') (Im':=λg=>Im g\/Im' g) hr;exact Z7J (λ_ h=>.inr h) q1 q2 q3 r4
theorem Z8f{ls:List Nat}{x y:AV}(h:nmL (λb=>idxN b ls 0) x=U y):Z6b (renI ls) y=x:=by
 have key:∀ b k,idxN b ls 0=U k->ls.getD k 0=b:=λb k e=>by
  obtain⟨_,q⟩:=Z1K e;rw[LY];simp only[Nat.sub_zero]at q;rw[q];rfl
 unfold nmL at h;split at h
 .cases h;rfl
 .cases h;rfl
 .split at h
  .rename_i e;cases h;simp only[Z6b,renI,key _ _ e]
  .cases h
 .split at h
  .rename_i e;cases h;simp only[Z6b,renI,key _ _ e]
  .cases h
 .split at h
  .rename_i e;cases h;simp only[Z6b,renI,key _ _ e]
  .cases h
 .cases h
theorem Z6w{g:AV->Option AV}{f:AV->AV}(h:∀ x y,g x=U y->f y=x):∀ {l r:List AV},allO g l=U r->r.map f=l
 | [],r,e=>by simp[allO]at e;subst e;rfl
 | a::l,r,e=>by
  simp only[allO]at e;split at e
  .rename_i x r' e1 e2;cases e;rw[Lf,h _ _ e1,Z6w h e2]
  .cases e
theorem Zmf{f:AV->AV}{y:AV}(h:∀ l,y≠.ag l)(h2:∀ g l,y≠.fn g l)(h3:∀ t z,y≠.ic t z)(h4:∀ t z,y≠.fm t z):mapA f y=Z6b f y:=by
 cases y<;>first | rfl | (exact absurd rfl (h4 _ _)) | (exact absurd rfl (h _)) | (exact absurd rfl (h2 _ _)) | (exact absurd rfl (h3 _ _))
theorem Zg8{g:Nat->Option Nat}{x y:AV}(h:nmL g x=U y):(∀ l,y≠.ag l)/\(∀ k l,y≠.fn k l)/\(∀ t z,y≠.ic t z)/\∀ t z,y≠.fm t z:=by
 unfold nmL at h;repeat' split at h
 all_goals cases h
 all_goals exact⟨nofun,nofun,nofun,nofun⟩
theorem Zoi{ls:List Nat}{x y:AV}(h:nmM (λb=>idxN b ls 0) x=U y):mapA (renI ls) y=x:=by
 have leaf:∀ {x y:AV},nmL (λb=>idxN b ls 0) x=U y->mapA (renI ls) y=x:=λ{x y} h=>by
  obtain⟨h1,h2,h3,h4⟩:=Zg8 h;rw[Zmf h1 h2 h3 h4,Z8f h]
 unfold nmM at h;split at h
 .split at h
  .rename_i e;cases h;simp only[mapA,Z6w (λ_ _=>Z8f) e]
  .cases h
 .split at h
  .rename_i e;cases h;simp only[mapA,Z6w (λ_ _=>Z8f) e]
  .cases h
 .split at h
  .rename_i e;cases h;simp only[mapA,Z6w (λ_ _=>Z8f) e]
  .cases h
 .split at h
  .rename_i r e;cases h;have q:=Z8f e;obtain⟨h1,_⟩:=Zg8 e;cases r<;>first | (exact absurd rfl (h1 _)) | (simp only[mapA];rw[q])
  .cases h
 .exact leaf h
theorem Zng{ls:List Nat}{B C:Blk}(h:nmB (λb=>idxN b ls 0) B=U C):Z3F ls C=B:=by
 unfold nmB at h;split at h
 .split at h
  .rename_i e;cases h;simp only[Z3F,Z6w (λ_ _=>Zoi) e]
  .cases h
 .cases h;rfl
 .cases h;rfl
 .cases h
theorem Z8F{H:Heap}:∀ {us:List (Nat×Blk)},(∀ p∈us,H p.1=U p.2)->applyU us H=H
 | [],_=>rfl
 | (b,B)::us,h=>by
  have e:updH H b B=H:=by
   funext x
   unfold updH;split
   .rename_i q;rw[q];exact(h (b,B) pq).symm
   .rfl
  simp only[applyU,e];exact Z8F λp hp=>h p (F _ hp)
theorem Znd{gid:Nat}{x:Nat×Nat}{av:Operand->AV}{H:Heap}{clk:Nat}(hg:H gid=U (.arr x.1 x.2 [])){Ow:Own}{Im0:Nat->Prop}{w0:World}(a:Act)(w:World)(ρ:Rho)(Im:Nat->Prop)(I:Inv Ow Im0 w0 ρ w Im H clk)(y:Operand)(h:Rel ρ w Im (av y) (a.eval y)):Rel ρ w Im (ghV gid av (U x) y) (a.eval y):=by
 unfold ghV;split
 .exact h
 .obtain⟨⟨g,s,n⟩,h1,h2⟩:=I.blk _ _ hg;obtain⟨_,h3,_⟩:=h2;simp only[Xf]at h3;subst h3;exact Rel.ow (c:=0) (a:=X) h1 (Lu _) (by simp[big]) (.inl rfl)
 .exact h
theorem ZoH{G:Option Bool}{c:Call}{f:Operand}{out:Core}(ho:o.op = .call c)(hc:c.callee = .value f)(h:Z8u P clk hints o f c.args.toList G tmps H=U out):Z6t P Ow Im0 w0 clk o G H tmps (out.out tmps H):=by
 unfold Z8u at h;split at h
 .cases h
 rename_i d hd;split at h
 .-- passed over
  rename_i hg;split at h;rotate_left
  .cases h
  cases h;intro a w ρ Im next Q I T hph heq hn
  refine⟨λhG=>?_,λhG=>?_⟩
  .cases G with
   | none=>cases hg
   | some g=>have:=hG g rfl;simp[this]at hg
  .rw[hd];exact hn _ _ (Z93 I T hG d _)
 rename_i hg;have hGt:∀ g,G=U g->g=Y:=by
  intro g e;subst e;exact hg
 split at h;rotate_left
 .cases h
 rename_i k caps hf;split at h;rotate_left
 .cases h
 rename_i gh ls res post _;split at h;rotate_left
 .cases h
 rename_i as pre has hpre;cases post with
 | nil =>
  simp only at h;split at h;rotate_left
  .cases h
  rename_i hok;cases h;simp only[M]at hok;obtain⟨hok,hgn⟩:=hok;cases gh with
  | some x=>cases hgn
  | none =>
  simp only[ghV,ghH]at has hpre;obtain⟨p1,p2⟩:=Z8U hpre;have e0:Z1W d clk ls pre=ls:=by simp[Z1W,p1,nids]
  have g:=ZdP (Ow:=Ow) (Im0:=Im0) (w0:=w0) (res:=res) (post:=pre) ho hc hd hGt hf (λ_ _ _ _ _ _ h=>h) has hpre (by rw[e0,p1,Nat.sub_self,hok.1,hok.2,Nat.ble_eq_true_of_le (Lu ls.length)];rfl);rw[e0]at g;have e1:applyU (ls.zip (pre.map (Z3F ls))) H=H:=Z8F λp hp=>by
   obtain⟨i,hi⟩:=Xh.1 hp;rw[Xc]at hi;obtain⟨h1,h2⟩:=hi;simp only[Lo,Ld]at h2;obtain⟨C,h2,h3⟩:=h2;obtain⟨b,B,q1,q2,q3⟩:=p2 i C h2;rw[h1]at q1;cases q1;rw[q2,<- h3,Zng q3]
  simp only[Core.out,e1]at g ⊢;exact g
 | cons B0 post0 =>
  simp only at h;split at h;rotate_left
  .cases h
  rename_i hok;cases h;rw[M]at hok;obtain⟨hok,hgo⟩:=hok;cases gh with
  | none =>
   simp only[ghV,ghH]at has hpre;exact ZdP ho hc hd hGt hf (λ_ _ _ _ _ _ h=>h) has hpre hok
  | some x =>
   simp only[ghOk,Z2A,M,Bool.and_true]at hgo;obtain⟨g1,g2⟩:=hgo;have hnone:H (nid d clk 6)=X:=by
    cases hx:H (nid d clk 6)with
    | none=>rfl
    | some B=>rw[hx]at g1;cases g1
   obtain⟨ty,s⟩:=x;simp only[ghH]at hpre;have hid:nid d clk 6∈Z1W d clk ls (B0::post0):=by
    unfold Z1W;refine List.mem_append_left _ ?_;cases hi:idxN (nid d clk 6) ls 0 with
    | none=>rw[hi]at g2;cases g2
    | some n=>exact W (Z1K hi).2
   have hok2:=hok;simp only[M]at hok2;have hnd:=Z30 hok2.1.1.1.2;have hge:(Z1W d clk ls (B0::post0)).length=(B0::post0).length:=by
    have:=Lt hok2.1.1.2;rw[Z1W,L1,Z7R];omega
   have hno:Z2A (updH H (nid d clk 6) (.arr ty s [])) (nids d clk 0 ((B0::post0).length-ls.length))=Y:=by
    have h1:=Z3Q hok2.2;have h2:∀ b∈nids d clk 0 ((B0::post0).length-ls.length),b≠nid d clk 6:=by
     intro b hb e;subst e;cases hi:idxN (nid d clk 6) ls 0 with
     | none=>rw[hi]at g2;cases g2
     | some n=>exact(Xi.1 hnd).2.2 _ (W (Z1K hi).2) _ hb rfl
    rw[<- hok2.2];exact Z3n λb hb=>by unfold updH;rw[if_neg (h2 b hb)]
   have g:=ZdP (Ow:=Ow) (Im0:=Im0) (w0:=w0) (H:=updH H (nid d clk 6) (.arr ty s [])) (res:=res) ho hc hd hGt hf (Znd (by simp[updH])) has hpre (by
    simp only[M];exact⟨hok2.1,hno⟩)
   have e:applyU ((Z1W d clk ls (B0::post0)).zip ((B0::post0).map (Z3F (Z1W d clk ls (B0::post0))))) (updH H (nid d clk 6) (.arr ty s []))=applyU ((Z1W d clk ls (B0::post0)).zip ((B0::post0).map (Z3F (Z1W d clk ls (B0::post0))))) H:=by
    funext b
    have z1:=Z71 (post:=(B0::post0).map (Z3F (Z1W d clk ls (B0::post0)))) (H:=updH H (nid d clk 6) (.arr ty s [])) hnd (by rw[Ly,hge]) b;have z2:=Z71 (post:=(B0::post0).map (Z3F (Z1W d clk ls (B0::post0)))) (H:=H) hnd (by rw[Ly,hge]) b;by_cases hb:b∈Z1W d clk ls (B0::post0)
    .obtain⟨n,hn⟩:=L0 hb;obtain⟨C,c1,c2⟩:=z1.1 n hn;obtain⟨C',c3,c4⟩:=z2.1 n hn;rw[c2,c4];rw[c1]at c3;exact c3
    .rw[z1.2 hb,z2.2 hb];unfold updH;rw[if_neg (λq:b=nid d clk 6=>hb (by rw[q];exact hid))]
   intro a w ρ Im next Q I T hph heq hn
   refine g a w _ Im next Q (Z6o I (Z9a d clk 6) hnone) (T.mono (Ext.refl _ _) (λ_ h=>h) (Z1q (I.fresh _ (Z9a d clk 6) hnone)) I.bnd) hph heq ?_
   simp only[Core.out,e]at hn ⊢;exact hn
theorem Zjc{c:Call}{out:Core}(ho:o.op = .call c)(hc:c.callee = .builtin .append)(h:Z49 P clk hints o c tmps H=U out):Z6t P Ow Im0 w0 clk o X H tmps (out.out tmps H):=by
 intro a w ρ Im next Q I T hph heq hn
 unfold Z49 at h;split at h
 .cases h
 rename_i d hd;split at h;rotate_left
 .cases h
 rename_i x y t t' h1 h2;split at h
 .cases h
 rename_i hH;split at h;rotate_left
 .cases h
 rename_i b r hr;cases h;refine⟨λ_=>?_,λhG=>by obtain⟨g,hg,_⟩:=hG;cases hg⟩;have hop:o.op = .call ⟨.builtin .append,#[x,y],#[t,t']⟩:=by rw[ho,Z7a hc h1 h2]
 obtain⟨v,w',ρ',k1,k2,k3,k4⟩:=ZgD hop hr I T oq hH (Z1p T x) (Z1p T y) hph;simp only[Lq,k1,LM];rw[hd];exact hn _ _ ⟨ρ',Im,by show Inv _ _ _ _ _ _ (applyU r.ups (updH H b .dead)) _;rw[Res.applyU];exact k2,k3.put d k4⟩
theorem ZgE{l m:List (Nat×Blk)}:∀ {H:Heap},applyU (l++m) H=applyU m (applyU l H):=by
 induction l with
 | nil=>intro H;rfl
 | cons x l ih=>intro H;obtain⟨b,B⟩:=x;exact ih
theorem Zdc{d clk b:Nat}:∀ {l:List (Nat×Nat×Nat)} {j:Nat} {H:Heap},b∉nids d clk j l.length->applyU (ghU d clk j l) H b=H b
 | [],_,_,_=>rfl
 | x::l,j,H,h=>by
  simp only[Xd,nids,N,not_or]at h;simp only[ghU,applyU];rw[Zdc h.2];unfold updH;rw[if_neg h.1]
theorem ZaD{d:Nat}{Im:Nat->Prop}:∀ {l:List (Nat×Nat×Nat)} {j:Nat} {ρ:Rho} {H:Heap},Inv Ow Im0 w0 ρ w Im H clk->(∀ b∈nids d clk j l.length,H b=X) ->
  ∃ ρ',Inv Ow Im0 w0 ρ' w Im (applyU (ghU d clk j l) H) clk/\(∀ b β,ρ b=U β->ρ' b=U β)/\∀ i g,ghN d clk j l i=U g->∃ s,ρ' g=U ⟨X,s,0⟩
 | [],_,ρ,_,I,_=>⟨ρ,I,λ_ _ h=>h,λi g h=>by simp[ghN]at h⟩
 | x::l,j,ρ,H,I,h=>by
  have h0:=h (nid d clk j) (by simp[nids]);have J:=Z6o (ty:=x.1) (s:=x.2.1) I (Z9a d clk j) h0;obtain⟨ρ',K,s1,s2⟩:=ZaD (d:=d) (l:=l) (j:=j+1) J (λb hb=>by
   unfold updH;split
   .rename_i e;subst e;exact absurd hb (ZfV (Nat.lt_succ_self j))
   .exact h b (by simp[nids,hb]))
  have sub:=Z1q (β:=⟨X,x.2.1,0⟩) (I.fresh _ (Z9a d clk j) h0);refine⟨ρ',K,λb β hb=>s1 b β (sub b β hb),λi g hg=>?_⟩;simp only[ghN]at hg;split at hg
  .cases hg;exact⟨x.2.1,s1 _ _ (Z1w _ _ _)⟩
  .exact s2 i g hg
theorem Zk9{l:List (Nat×Nat×Nat)}{t:Nat}{G:Option Bool}{out:Core}(ho:o.op = .alloc t)(h:Z4H P clk o l t G H=U out):Z6t P Ow Im0 w0 clk o G H tmps (out.out tmps H):=by
 intro a w ρ Im next Q I T hph heq hn
 unfold Z4H at h;split at h;rotate_left
 .cases h
 rename_i d hd;split at h;rotate_left
 .cases h
 rename_i cs hH hg hz;split at h;rotate_left
 .cases h
 rename_i hone;cases h;simp only[M]at hg;refine⟨λ_=>?_,λhG=>by obtain⟨g,hg,_⟩:=hG;cases hg⟩;obtain⟨ρ1,J,hsub,hgh⟩:=ZaD I (Z3Q hg.1);simp only[Zac,Lb]at hone;have h1:∀ (i:Nat) (u:Value),cs[i]? = U u->u.oneCell'=Y:=λi u hu=>hone u (by have:=Array.mem_of_getElem? hu;simpa using this);obtain⟨c1,c2⟩:=ZdO (f:=ghN d clk 0 l) (l:=cs.toList) (i:=0);have R:Rel ρ1 w Im (.ag (ghC (ghN d clk 0 l) 0 cs.toList)) (.agg cs):=by
  refine .ag _ _ (by simp[c1]) h1 λi a u ha hu=>?_;rcases c2 i a u ha (by simpa using hu)with rfl | ⟨g,e,rfl,rfl⟩
  .exact Zbt _ _ _ _ (h1 i u hu)
  .obtain⟨s,hs⟩:=hgh _ _ e;exact Rel.ow (c:=0) (a:=X) hs (Lu _) (by simp[big]) (.inl rfl)
 have hne:clk*8000+d∉nids d clk 0 l.length:=λq=>by
  have:=ZdI q;obtain⟨k,hk⟩:=ZhQ q;unfold nid at hk;omega
 obtain⟨ρ',I',he,hs',hv⟩:=Then.box (ty:=t) J (id:=clk*8000+d) oq (by rw[Zdc hne];exact hH) R rfl;have hx:(execOp a.eval o).run P w = .ok (.value (.pointer (U ⟨w.heap.size,0,X⟩))) (w.alloc (.cells cs t)):=by
  unfold zeroOf at hz;split at hz
  .rename_i i hi;simp[execOp,ho,Instr.alloc,zeroValue,typeInfo,hi,hz,newVar,newRow,Value.cells]
  .cases hz
 simp only[Lq,hx,LM];rw[hd];exact hn _ _ ⟨ρ',Im,by show Inv _ _ _ _ _ _ (applyU (_++_) H) _;rw[ZgE];exact I',(T.mono he (λ_ h=>h) (λb β hb=>hs' b β (hsub b β hb)) I.bnd).put d hv⟩
theorem Z96{ops:Array Oper}(h:Z92 P clk ops hints o tmps H=U out)(hS:Sys Ow Im0 w0 tmps H clk a w)(hph:allP out.ph)(heq:EqP out.eq)(hn:∀ a' w',Sys Ow Im0 w0 out.tmps out.H clk a' w'->next a' w') :
  (Lm o (yielded ops a.tmps)=Y->o.wp P a w next Q)/\(Lm o (yielded ops a.tmps)=Z->next (a.put o.dst undef) w):=by
 obtain⟨ρ,Im,I,T⟩:=hS;unfold Z92 at h;split at h;rotate_left
 .cases h
 rename_i c h';cases h;unfold Z2w at h';split at h'
 .cases h'
 rename_i G hG;have hok:Z6t P Ow Im0 w0 clk o G H tmps (c.out tmps H):=by
  revert h';intro h;split at h
  .exact Zni aa h
  .split at h
   .exact Zk9 aa h
   .exact Zb3 h
  .rename_i c hop;split at h
   .split at h
    .exact ZnR hop aa h
    .split at h
     .exact ZoH hop aa h
     .exact Znl hop aa h
   .split at h
    .exact Zjc hop aa h
    .cases h
   .exact Zb3 h
  .exact Zb3 h
 obtain⟨k1,k2⟩:=hok a w ρ Im next Q I T hph heq hn
 rcases Zhr T hG with⟨rfl,hw⟩ | ⟨g,rfl,hw⟩
 .exact⟨λ_=>k1 (λg hg=>by cases hg),λh=>by rw[hw]at h;cases h⟩
 .exact⟨λh=>k1 (λg' hg'=>by cases hg';rw[<- hw];exact h),λh=>k2 ⟨g,rfl,by rw[<- hw];exact h⟩⟩
end
def idL:AV->List Nat
 | .pt b _ _=>[b]
 | .os b _ _=>[b]
 | .ow b=>[b]
 | _=>[]
def idM:AV->List Nat
 | .ag l=>l.flatMap idL
 | .fn _ l=>l.flatMap idL
 | .ic _ a=>idL a
 | .fm _ a=>idL a
 | a=>idL a
def idA:AV->List Nat
 | .fn _ l=>l.flatMap idM
 | a=>idM a
def ZpV{x:AV}{b:Nat}(h:b∈idL x):b∈idM x:=by
 cases x<;>first | exact h | simp[idL]at h
def ZoV{x:AV}{b:Nat}(h:b∈idM x):b∈idA x:=by
 cases x with
 | fn f l =>
  obtain⟨y,hy,hb⟩:=Lc.1 h;exact Lc.2 ⟨y,hy,ZpV hb⟩
 | _=>exact h
def idV:AV->List Nat
 | .gd _ a=>idA a
 | a=>idA a
def ZiZ:Operand->List Nat
 | .tmp t=>[t]
 | _=>[]
def Z3u(ops:Array Oper)(o:Oper):List Nat:=o.op.operands.toList.flatMap ZiZ++(match o.guard with | X=>[] | U (j,_)=>match ops[j]? with | U oj=>(match oj.dst with | U t=>[t] | X=>[]) | X=>[])
def Zlb(tmps:List AV)(o:Oper):List Nat:=match o.op with
 | .move _=>[]
 | _=>o.op.operands.toList.flatMap λx=>idV (ev tmps x)
def Zh1(hints:List (Nat×List Hint))(tmps:List AV)(o:Oper):List Nat:=Zlb tmps o++borL hints o
def ZbR(tmps:List AV){o:Oper}(h:∀ x,o.op≠.move x):Zlb tmps o=o.op.operands.toList.flatMap λx=>idV (ev tmps x):=by
 unfold Zlb;split
 .rename_i x hx;exact absurd hx (h x)
 .rfl
def Z43(clk:Nat)(o:Oper):List Nat:=match o.dst with
 | some d=>(clk*8000+d)::(LJ 7).map λk=>nid d clk k
 | none=>[clk*8000+7999]
def Zib(G:Option Bool)(R:Operand->AV)(x:Operand):∀ b,b∈idA (Z1i G R x)->b∈idV (R x):=by
 intro b hb;cases G with
 | none =>
  simp only[Z1i]at hb;cases h:R x with
  | gd g a=>rw[h]at hb;simp[idA,idM,idL]at hb
  | _=>rw[h]at hb;exact hb
 | some g =>
  simp only[Z1i]at hb;cases h:R x with
  | gd g' a=>rw[h]at hb;exact hb
  | _=>rw[h]at hb;exact hb
section
variable {P:Program} {H H':Heap}
theorem Z3K{x:AV}(h:∀ b∈idA x,H b=H' b):Z1f H x=Z1f H' x:=by
 cases x with
 | ow b=>simp only[Z1f];rw[h b (by simp[idA,idM,idL])]
 | os b o n=>simp only[Z1f];rw[h b (by simp[idA,idM,idL])]
 | d x =>
  cases x with
  | sl=>rfl
  | sc v=>unfold Z1f;split<;>first | rfl | (split<;>simp_all) | simp_all
 | _=>rfl
theorem ZlM{o:Oper}{id:Nat}{hs:List Hint}{E:Operand->AV}(h:∀ x∈o.op.operands.toList,∀ b∈idA (E x),H b=H' b):act P o id hs E H=act P o id hs E H':=by
 unfold act;cases hop:o.op with
 | load t x =>
  have hx:=h x (by simp[hop,O]);simp only[Z77];cases hE:E x with
  | pt b i o=>simp only;rw[hx b (by rw[hE];simp[idA,idM,idL])]
  | _=>rfl
 | store t x y =>
  have hx:=h x (by simp[hop,O]);dsimp only;split
  .rfl
  .simp only[Z7C];cases hE:E x with
   | pt b i o=>simp only;rw[hx b (by rw[hE];simp[idA,idM,idL])]
   | _=>rfl
 | slice t x lo hi mx =>
  have hx:=h x (by simp[hop,O]);simp only[Z7Z];cases hE:E x with
  | ow b=>simp only;rw[hx b (by rw[hE];simp[idA,idM,idL])]
  | os b o n=>simp only;rw[hx b (by rw[hE];simp[idA,idM,idL])]
  | d x=>cases x<;>rfl
  | _=>rfl
 | indexAddr t x y =>
  have hx:=h x (by simp[hop,O]);simp only[Z3R];cases hE:E x with
  | ow b=>simp only;rw[hx b (by rw[hE];simp[idA,idM,idL])]
  | os b o n=>simp only;rw[hx b (by rw[hE];simp[idA,idM,idL])]
  | d x=>cases x<;>rfl
  | _=>rfl
 | lookup t x y ok =>
  have hx:=h x (by simp[hop,O]);simp only[Z6c];cases hE:E x with
  | pt b i o=>simp only;rw[hx b (by rw[hE];simp[idA,idM,idL])]
  | _=>rfl
 | mapUpdate t x y z =>
  have hx:=h x (by simp[hop,O]);simp only[Z3M];cases hE:E x with
  | pt b i o=>simp only;rw[hx b (by rw[hE];simp[idA,idM,idL])]
  | _=>rfl
 | call c =>
  have hm:∀ x∈c.args.toList,∀ b∈idA (E x),H b=H' b:=λx hx=>h x (by simp only[hop,O,Lr,Array.toList_append,L];exact .inr hx);dsimp only;split
  .split
   .rename_i x t h1 h2;have hx:=hm x (by rw[h1];simp);simp only[Zgb];cases hE:E x with
    | ow b=>simp only;rw[hx b (by rw[hE];simp[idA,idM,idL])]
    | d x=>cases x<;>rfl
    | _=>rfl
   .rfl
  .split
   .rename_i x y t t' h1 h2;have hx:=hm x (by rw[h1];simp);have hy:=hm y (by rw[h1];simp);simp only[ZaW];rw[Z3K hy];cases hE:E x with
    | ow b=>simp only;rw[hx b (by rw[hE];simp[idA,idM,idL])]
    | os b o n=>simp only;rw[hx b (by rw[hE];simp[idA,idM,idL])]
    | _=>rfl
   .rfl
  .split
   .rename_i x t h1 h2;have hx:=hm x (by rw[h1];simp);simp only[Z7U];cases hE:E x with
    | ow b=>simp only;rw[hx b (by rw[hE];simp[idA,idM,idL])]
    | os b o n=>simp only;rw[hx b (by rw[hE];simp[idA,idM,idL])]
    | _=>rfl
   .rfl
  all_goals rfl
 | _=>rfl
theorem Z6z{x:AV}(h:∀ b∈idL x,H b=H' b):toD1 H x=toD1 H' x:=by
 cases x with
 | ow b=>simp only[toD1];rw[Z3K (x:=.ow b) (λb hb=>h b (by simpa[idA,idM]using hb))]
 | os b o n=>simp only[toD1];rw[Z3K (x:=.os b o n) (λb hb=>h b (by simpa[idA,idM]using hb))]
 | _=>rfl
theorem Z94:∀ {l:List AV},(∀ b∈l.flatMap idL,H b=H' b)->toDs H l=toDs H' l
 | [],_=>rfl
 | a::l,h=>by
  simp only[toDs];rw[Z6z (λb hb=>h b (by simp[hb])),Z94 (l:=l) (λb hb=>h b (by
   simp only[Lw,L];exact .inr hb))]
theorem ZlC{x:AV}(h:∀ b∈idM x,H b=H' b):toD H x=toD H' x:=by
 cases x with
 | ag l=>simp only[toD];rw[Z94 h]
 | fn f l=>simp only[toD];rw[Z94 h]
 | ic t a=>simp only[toD];rw[Z6z h]
 | ow b=>exact Z6z (x:=.ow b) h
 | os b o n=>exact Z6z (x:=.os b o n) h
 | _=>rfl
theorem Z8O:∀ {l:List AV},(∀ x∈l,∀ b∈idM x,H b=H' b)->toDD H l=toDD H' l
 | [],_=>rfl
 | a::l,h=>by
  simp only[toDD];rw[ZlC (h a pq),Z8O (l:=l) (λx hx=>h x (by simp[hx]))]
theorem Z8n{d clk:Nat}:∀ {news:List Blk} {k:Nat} {H H':Heap},(∀ i,k<=i->i<k+news.length->H (nid d clk i)=H' (nid d clk i))->Z59 d clk k news H=Z59 d clk k news H'
 | [],k,H,H',_=>rfl
 | B::r,k,H,H',h=>by
  simp only[Z59];rw[h k (Lu _) pq,Z8n (news:=r) (k:=k+1) (H:=updH H (nid d clk k) B) (H':=updH H' (nid d clk k) B) (λi h1 h2=>by
   unfold updH;split
   .rfl
   .exact h i oq qo)]
theorem ZeQ{x:AV}{b:Nat}(h:b∈ksL x):b∈idL x:=by
 cases x<;>first | exact h | simp[ksL]at h
theorem ZnS{x:AV}{b:Nat}(h:b∈ksM x):b∈idM x:=by
 cases x with
 | ag l =>
  obtain⟨y,hy,hb⟩:=Lc.1 h;exact Lc.2 ⟨y,hy,ZeQ hb⟩
 | fn f l =>
  obtain⟨y,hy,hb⟩:=Lc.1 h;exact Lc.2 ⟨y,hy,ZeQ hb⟩
 | ic t a=>exact ZeQ (x:=a) h
 | ow b=>exact h
 | os b o n=>exact h
 | _=>simp[ksM,ksL]at h
theorem Z95:∀ {l:List Nat},(∀ b∈l,H b=H' b)->Z6h H l=Z6h H' l
 | [],_=>rfl
 | b::l,h=>by
  simp only[Z6h];rw[h b pq,Z95 (l:=l) λc hc=>h c (by simp[hc])]
theorem Z8B{t t' id:Nat}{hs:List Hint}{x y:AV}(hx:∀ b∈idA x,H b=H' b)(hy:∀ b∈idA y,H b=H' b):Z3p P t t' id hs x y H=Z3p P t t' id hs x y H':=by
 unfold Z3p;rw[Z3K hy];cases x with
 | ow b=>simp only;rw[hx b (by simp[idA,idM,idL])]
 | _=>rfl
theorem Z9O{t t' id:Nat}{hs:List Hint}{x y:AV}(hx:∀ b∈idA x,H b=H' b)(hy:∀ b∈idA y,H b=H' b):Z47 P t t' id hs x y H=Z47 P t t' id hs x y H':=by
 unfold Z47;split
 .unfold Z5r;cases x with
  | ow b=>simp only;rw[hx b (by simp[idA,idM,idL])]
  | _=>rfl
 .exact Z8B hx hy
end
def Z3c{G:Option Bool}{R R':Operand->AV}:∀ {l:List Operand},(∀ x∈l,R x=R' x)->Z2F G R l=Z2F G R' l
 | [],_=>rfl
 | x::l,h=>by
  simp only[Z2F];rw[h x pq,Z3c (l:=l) (λy hy=>h y (by simp[hy]))]
def Zc6{H H':Heap}{f:Nat->Option Nat}:∀ {l:List Nat},(∀ b∈l,H b=H' b)->preB f H l=preB f H' l
 | [],_=>rfl
 | b::l,h=>by
  simp only[preB];rw[h b pq,Zc6 (l:=l) (λy hy=>h y (by simp[hy]))]
def Zj7{dst clk b:Nat}:∀ {n k:Nat},b∈nids dst clk k n->∃ i,i<k+n/\nid dst clk i=b
 | 0,_,h=>by simp[nids]at h
 | n+1,k,h=>by
  simp only[nids,N]at h;rcases h with rfl | h
  .exact⟨k,by omega,rfl⟩
  .obtain⟨i,h1,h2⟩:=Zj7 h;exact⟨i,by omega,h2⟩
def Z5D{P:Program}{clk:Nat}{ops:Array Oper}{hints:List (Nat×List Hint)}{o:Oper}{tmps tmps':List AV}{H H':Heap}{c:Core}
  (ht:∀ t∈Z3u ops o,tmps.getD t .any=tmps'.getD t .any) (hH:∀ b∈Zh1 hints tmps o++Z43 clk o,H b=H' b) (hn:∀ d,o.dst=U d->∀ fr res news r,look d hints = .call fr res news::r->news.length<=7)
  (h:Z2w P clk ops hints o tmps H=U c):Z2w P clk ops hints o tmps' H'=U c:=by
 rw[<- h];have hev:∀ x∈o.op.operands.toList,ev tmps' x=ev tmps x:=by
  intro x hx;cases x with
  | tmp t=>exact(ht t (by simp only[Z3u,L,Lc];exact .inl ⟨_,hx,by simp[ZiZ]⟩)).symm
  | _=>rfl
 have hg:guardOf ops tmps' o.guard=guardOf ops tmps o.guard:=by
  cases hgd:o.guard with
  | none=>rfl
  | some p =>
   obtain⟨j,want⟩:=p;simp only[guardOf];cases hj:ops[j]? with
   | none=>rfl
   | some oj =>
    cases hd:oj.dst with
    | none=>simp only[hd]
    | some t =>
     have:=ht t (by simp[Z3u,hgd,hj,hd]);simp only[hd];rw[this]
 have hstrip:∀ G,∀ x∈o.op.operands.toList,Z1i G (ev tmps') x=Z1i G (ev tmps) x:=by
  intro G x hx;cases G<;>simp only[Z1i,hev x hx]
 have hfoot:(∀ x,o.op≠.move x)->∀ G,∀ x∈o.op.operands.toList,∀ b∈idA (Z1i G (ev tmps) x),H b=H' b:=by
  intro hm G x hx b hb;exact hH b (L.2 (.inl (L.2 (.inl (by rw[ZbR tmps hm];exact Lc.2 ⟨x,hx,Zib G _ x b hb⟩)))))
 have hown:∀ b∈Z43 clk o,H b=H' b:=λb hb=>hH b (L.2 (.inr hb));have hplain:∀ G,Z26 P clk hints o G tmps' H'=Z26 P clk hints o G tmps H:=by
  intro G;have hact:∀ id hs (E:Operand->AV),(∀ x∈o.op.operands.toList,∀ b∈idA (E x),(∀ x,o.op≠.move x)->H b=H' b)->act P o id hs E H'=act P o id hs E H:=by
   intro id hs E hE;by_cases hm:∃ x,o.op = .move x
   .obtain⟨x,hx⟩:=hm;simp only[act,hx]
   .exact(ZlM λx hx b hb=>hE x hx b hb (λx hx=>hm ⟨x,hx⟩)).symm
  unfold Z26;cases hd:o.dst with
  | some d =>
   simp only;rw[<- hown (clk*8000+d) (by simp[Z43,hd])];rw[Z82 (E:=Z1i G (ev tmps')) (E':=Z1i G (ev tmps)) (hstrip G),hact _ _ _ (λx hx b hb hm=>hfoot hm G x hx b hb),Z3c hev]
  | none =>
   cases G with
   | some g=>rfl
   | none =>
    simp only;rw[<- hown (clk*8000+7999) (by simp[Z43,hd])];have e1:act P o (clk*8000+7999) (look (keyOf o) hints) (ev tmps') H'=act P o (clk*8000+7999) (look (keyOf o) hints) (ev tmps) H':=Z82 hev;have e2:act P o (clk*8000+7999) (look (keyOf o) hints) (ev tmps) H'=act P o (clk*8000+7999) (look (keyOf o) hints) (ev tmps) H:=hact _ _ _ (λx hx b hb hm=>hfoot hm X x hx b hb);rw[e1,e2]
 unfold Z2w;rw[hg];cases guardOf ops tmps o.guard with
 | none=>rfl
 | some G =>
  simp only;cases hop:o.op with
  | pick x y z =>
   have h1:=hstrip G x (by simp[hop,O]);have h2:=hev y (by simp[hop,O]);have h3:=hev z (by simp[hop,O]);have h4:=hev x (by simp[hop,O]);simp only[Z5Y];rw[h1,h2,h3,Z3c (G:=G) (l:=[x]) (R:=ev tmps') (R':=ev tmps) (by simpa using h4)]
  | alloc t =>
   simp only;split
   .rename_i x l _;simp only[Z4H];cases G with
    | some g=>rfl
    | none =>
     cases hd:o.dst with
     | none=>rfl
     | some d =>
      simp only;rw[<- hown (clk*8000+d) (by simp[Z43,hd])];cases hb:Lh (x::l).length 7 with
      | false=>simp only[L6]
      | true =>
       rw[Z3n (H:=H) (H':=H') λb hb'=>hown b (by
        have hle:=Lt hb;obtain⟨i,hi,rfl⟩:=Zj7 hb';simp only[Z43,hd,N,Lg,Lp];exact .inr ⟨i,by omega,rfl⟩)]
   .exact hplain G
  | call cl =>
   have hm:∀ x,o.op≠.move x:=λx h=>by rw[hop]at h;cases h
   have hfoot:=hfoot hm;simp only;cases hcal:cl.callee with
   | value f =>
    simp only;cases Zmr o hints with
    | true =>
     have hops:o.op.operands.toList=f::cl.args.toList:=by simp[hop,O,Lr,hcal]
     cases G with
     | some g=>rfl
     | none =>
     have hargs:cl.args.toList.map (ev tmps')=cl.args.toList.map (ev tmps):=LI λx hx=>hev x (by rw[hops];exact F _ hx);have hfe:=hev f (by rw[hops];simp);simp only[Z6F];cases hd:o.dst with
     | none=>rfl
     | some d =>
      simp only;rw[hfe,hargs];cases hfv:ev tmps f with
      | fn k caps =>
       simp only;have hall:∀ x∈cl.args.toList.map (ev tmps)++caps,∀ b∈idM x,H b=H' b:=by
        intro x hx b hb;rcases L.1 hx with hx | hx
        .obtain⟨y,hy,rfl⟩:=Lg.1 hx;exact hfoot X y (by rw[hops];exact F _ hy) b (ZoV hb)
        .refine hfoot X f (by rw[hops];simp) b ?_;simp only[Z1i];rw[hfv];exact Lc.2 ⟨x,hx,hb⟩
       have hdd:toDD H' (cl.args.toList.map (ev tmps)++caps)=toDD H (cl.args.toList.map (ev tmps)++caps):=(Z8O hall).symm;have harr:Z6h H' ((cl.args.toList.map (ev tmps)++caps).flatMap ksM)=Z6h H ((cl.args.toList.map (ev tmps)++caps).flatMap ksM):=by
        refine(Z95 λb hb=>?_).symm;obtain⟨x,hx,hbx⟩:=Lc.1 hb;exact hall x hx b (ZnS hbx)
       rw[hdd,harr]
      | _=>rfl
    | false =>
    cases hib:ZoY o hints with
    | true =>
     have hops:o.op.operands.toList=f::cl.args.toList:=by simp[hop,O,Lr,hcal]
     have hargs:cl.args.toList.map (Z1i G (ev tmps'))=cl.args.toList.map (Z1i G (ev tmps)):=LI λx hx=>hstrip G x (by rw[hops];exact F _ hx);have hfe:=hstrip G f (by rw[hops];simp);have hbl:∀ b∈borL hints o,H b=H' b:=λb hb=>hH b (L.2 (.inl (L.2 (.inr hb))));simp only[Z8u];cases hd:o.dst with
     | none=>rfl
     | some d =>
      simp only;have hav:∀ gh,cl.args.toList.map (ghV (nid d clk 6) (Z1i G (ev tmps')) gh)=cl.args.toList.map (ghV (nid d clk 6) (Z1i G (ev tmps)) gh):=λgh=>LI λx hx=>by
       have:=hstrip G x (by rw[hops];exact F _ hx);unfold ghV;split<;>first | rfl | exact this
      rw[hfe,Z3c (G:=G) (l:=f::cl.args.toList) (R:=ev tmps') (R':=ev tmps) (by rw[<- hops];exact hev)];have hown':∀ i,i<7->H (nid d clk i)=H' (nid d clk i):=λi hi=>hown _ (by
       simp only[Z43,hd,N,Lg,Lp];exact .inr ⟨i,hi,rfl⟩)
      cases hl:borH (look d hints)with
      | none=>rfl
      | some q =>
       obtain⟨gh,ls,res,post⟩:=q;simp only[hav];have hpre:preB (λb=>idxN b ls 0) (ghH (nid d clk 6) H' gh) ls=preB (λb=>idxN b ls 0) (ghH (nid d clk 6) H gh) ls:=by
        refine(Zc6 λb hb=>?_).symm;have:=hbl b (by simp only[borL,hd,hl];exact hb);cases gh with
        | none=>exact this
        | some x=>simp only[ghH,updH];rw[this]
       have hgo:ghOk (nid d clk 6) ls H' gh=ghOk (nid d clk 6) ls H gh:=by
        cases gh with
        | none=>rfl
        | some x=>simp only[ghOk,Z2A];rw[hown' 6 oq]
       rw[hpre,hgo];cases post with
       | nil=>rfl
       | cons B0 post0 =>
       generalize hpost:B0::post0=post;simp only[<- hpost];rw[hpost];rcases Bool.eq_false_or_eq_true (Lh (post.length-ls.length) 7)with h7 | h7
       .have hno:Z2A H' (nids d clk 0 (post.length-ls.length))=Z2A H (nids d clk 0 (post.length-ls.length)):=by
         refine(Z3n λb hb=>?_).symm;obtain⟨i,hi⟩:=L0 hb;have hil:i<post.length-ls.length:=by
          have:=(Ln.1 hi).1;rwa [Z7R]at this
         rw[ZfT _ _ _ _ _ hil]at hi;have h7:=Lt h7;have:=hown' (0+i) oq;cases hi;exact this
        rw[hno]
       .rw[h7];simp only[L6,Bool.false_and]
    | false =>
    have hops:o.op.operands.toList=f::cl.args.toList:=by simp[hop,O,Lr,hcal]
    have hargs:cl.args.toList.map (Z1i G (ev tmps'))=cl.args.toList.map (Z1i G (ev tmps)):=LI λx hx=>hstrip G x (by rw[hops];exact F _ hx);have hfe:=hstrip G f (by rw[hops];simp);simp only[Z6a];cases hd:o.dst with
    | none=>rfl
    | some d =>
     simp only;rw[hfe,hargs,Z3c (G:=G) (l:=f::cl.args.toList) (R:=ev tmps') (R':=ev tmps) (by rw[<- hops];exact hev)];cases hfv:Z1i G (ev tmps) f with
     | fn k caps =>
      simp only;cases hl:look d hints with
      | nil=>rfl
      | cons hh r =>
       cases hh with
       | call fr res news =>
        simp only;have hdd:toDD H' (cl.args.toList.map (Z1i G (ev tmps))++caps)=toDD H (cl.args.toList.map (Z1i G (ev tmps))++caps):=by
         refine(Z8O λx hx b hb=>?_).symm;rcases L.1 hx with hx | hx
         .obtain⟨y,hy,rfl⟩:=Lg.1 hx;exact hfoot G y (by rw[hops];exact F _ hy) b (ZoV hb)
         .refine hfoot G f (by rw[hops];simp) b ?_;rw[hfv];exact Lc.2 ⟨x,hx,hb⟩
        have hnews:Z59 d clk 0 news H'=Z59 d clk 0 news H:=by
         have hlen:=hn d hd fr res news r hl;refine(Z8n λi _ hi=>?_).symm;refine hown _ ?_;simp only[Z43,hd,N,Lg,Lp];exact .inr ⟨i,by omega,rfl⟩
        rw[hdd,hnews]
       | _=>rfl
     | _=>rfl
   | builtin b =>
    cases b with
    | append =>
     cases G with
     | some g=>rfl
     | none =>
      simp only[Z49];cases hd:o.dst with
      | none=>rfl
      | some d =>
       simp only;split
       .rename_i x y t t' h1 h2;have hxm:x∈o.op.operands.toList:=by simp[hop,O,Lr,hcal,h1]
        have hym:y∈o.op.operands.toList:=by simp[hop,O,Lr,hcal,h1]
        rw[<- hown (clk*8000+d) (by simp[Z43,hd]),hev x hxm,hev y hym];have e:=Z9O (P:=P) (t:=t) (t':=t') (id:=clk*8000+d) (hs:=look d hints) (hfoot X x hxm) (hfoot X y hym);simp only[Z1i]at e;rw[e]
       .rfl
    | _=>exact hplain G
   | invoke r m=>exact hplain G
  | _=>exact hplain G
def Z31{us:List (Nat×Blk)}{H:Heap}{b:Nat}(h:b∉us.map (·.1)):applyU us H b=H b:=by
 induction us generalizing H with
 | nil=>rfl
 | cons u us ih =>
  obtain⟨k,B⟩:=u;simp only[Lf,N,not_or]at h;simp only[applyU];rw[ih h.2];unfold updH;rw[if_neg h.1]
def Z7m{us:List (Nat×Blk)}{H H':Heap}{b:Nat}(h:b∈us.map (·.1)\/H b=H' b):applyU us H b=applyU us H' b:=by
 induction us generalizing H H' with
 | nil =>
  rcases h with h | h
  .simp at h
  .exact h
 | cons u us ih =>
  obtain⟨k,B⟩:=u;simp only[applyU];refine ih ?_;by_cases hb:b=k
  .right;unfold updH;simp[hb]
  .rcases h with h | h
   .simp only[Lf,N]at h;exact .inl (h.resolve_left hb)
   .right;unfold updH;simp[hb,h]
def Ze3{us vs:List (Nat×Blk)}{H:Heap}(h:∀ b,b∈us.map (·.1)->b∉vs.map (·.1)):applyU us (applyU vs H)=applyU vs (applyU us H):=by
 funext b
 by_cases h1:b∈us.map (·.1)
 .rw[Z31 (h b h1)];exact Z7m (.inl h1)
 .rw[Z31 h1];by_cases h2:b∈vs.map (·.1)
  .exact Z7m (.inl h2)
  .rw[Z31 h2,Z31 h2,Z31 h1]
structure Rec where
 i:Nat
 rs:List Nat
 c:Core
def Core.slot(c:Core)(tmps:List AV):List AV:=match c.sl with | U (d,v)=>tmps.set d v | X=>tmps
section
variable (P:Program) (clk:Nat) (ops:Array Oper) (hints:List (Nat×List Hint))
def Zdk:List Rec->List AV->Heap->Prop
 | [],_,_=>True
 | r::l,t,H=>∃ o,ops[r.i]? = U o/\Z2w P clk ops hints o t H=U r.c/\r.rs=Zh1 hints t o/\Zdk l (r.c.slot t) (applyU r.c.ups H)
end
def ZbF:List Rec->List AV->List AV
 | [],t=>t
 | r::l,t=>ZbF l (r.c.slot t)
def ZaP:List Rec->Heap->Heap
 | [],H=>H
 | r::l,H=>ZaP l (applyU r.c.ups H)
structure Apart (clk:Nat) (ops:Array Oper) (y x:Rec):Prop where
 slots:∀ oy ox,ops[y.i]? = U oy->ops[x.i]? = U ox->(∀ d,oy.dst=U d->d∉Z3u ops ox/\ox.dst≠U d)/\(∀ d,ox.dst=U d->d∉Z3u ops oy)
 heapY:∀ ox,ops[x.i]? = U ox->∀ b∈y.c.ups.map (·.1),b∉x.rs/\b∉Z43 clk ox/\b∉x.c.ups.map (·.1)
 heapX:∀ oy,ops[y.i]? = U oy->∀ b∈x.c.ups.map (·.1),b∉y.rs/\b∉Z43 clk oy
section
variable {P:Program} {clk:Nat} {ops:Array Oper} {hints:List (Nat×List Hint)}
theorem Zgh{o:Oper}{t:List AV}{H:Heap}{c:Core}(h:Z2w P clk ops hints o t H=U c):∀ d v,c.sl=U (d,v)->o.dst=U d:=by
 intro d v hc;unfold Z2w at h;split at h
 .cases h
 rename_i G hG;have plain:Z26 P clk hints o G t H=U c->o.dst=U d:=by
  intro h;unfold Z26 at h;split at h
  .rename_i d' hd;split at h
   .cases h
   split at h;rotate_left
   .cases h
   split at h
   .cases h
   .cases h;cases hc;exact hd
  .split at h
   .cases h
   split at h
   .cases h
   split at h
   .cases h;cases hc
   .cases h
 split at h
 .unfold Z5Y at h;split at h
  .cases h
  rename_i d' hd;split at h
  .cases h
  split at h
  .split at h
   .cases h;cases hc;exact hd
   .cases h
  .split at h
   .split at h
    .cases h;cases hc;exact hd
    .cases h
   .cases h
 .split at h
  .unfold Z4H at h;split at h;rotate_left
   .cases h
   rename_i d' hd;split at h;rotate_left
   .cases h
   split at h
   .cases h;cases hc;exact hd
   .cases h
  .exact plain h
 .split at h
  .split at h
   .unfold Z6F at h;split at h
    .cases h
    split at h
    .cases h
    rename_i d' hd;split at h;rotate_left
    .cases h
    split at h;rotate_left
    .cases h
    split at h;rotate_left
    .cases h
    split at h
    .cases h;cases hc;exact hd
    .cases h
   split at h
   .unfold Z8u at h;split at h
    .cases h
    rename_i d' hd;split at h
    .split at h
     .cases h;cases hc;exact hd
     .cases h
    .split at h;rotate_left
     .cases h
     split at h;rotate_left
     .cases h
     split at h;rotate_left
     .cases h
     split at h
     .split at h
      .cases h;cases hc;exact hd
      .cases h
     .split at h
      .cases h;cases hc;exact hd
      .cases h
   unfold Z6a at h;split at h
   .cases h
   rename_i d' hd;split at h;rotate_left
   .cases h
   split at h;rotate_left
   .cases h
   split at h;rotate_left
   .cases h
   split at h;rotate_left
   .cases h
   split at h
   .cases h
   .cases h;cases hc;exact hd
  .split at h
   .unfold Z49 at h;split at h
    .cases h
    rename_i d' hd;split at h;rotate_left
    .cases h
    split at h
    .cases h
    split at h
    .cases h;cases hc;exact hd
    .cases h
   .cases h
  .exact plain h
 .exact plain h
def Zbd(ops:Array Oper)(hints:List (Nat×List Hint)):Prop:=∀ (i:Nat) (o:Oper),ops[i]? = U o->∀ d,o.dst=U d->∀ fr res news r,look d hints = .call fr res news::r->news.length<=7
theorem ZfM{c:Core}{t:List AV}{k:Nat}(h:∀ d v,c.sl=U (d,v)->d≠k):(c.slot t).getD k .any=t.getD k .any:=by
 unfold Core.slot;cases hs:c.sl with
 | none=>rfl
 | some p =>
  obtain⟨d,v⟩:=p;have:=h d v hs;simp only[Lk];rw[List.getElem?_set];rw[if_neg this]
theorem Z98{t t':List AV}{o:Oper}(h:∀ k∈Z3u ops o,t.getD k .any=t'.getD k .any):Zh1 hints t o=Zh1 hints t' o:=by
 unfold Zh1;congr 1;by_cases hm:∃ x,o.op = .move x
 .obtain⟨x,hx⟩:=hm;simp only[Zlb,hx]
 rw[ZbR t (λx hx=>hm ⟨x,hx⟩),ZbR t' (λx hx=>hm ⟨x,hx⟩)];clear hm;have:∀ x∈o.op.operands.toList,idV (ev t x)=idV (ev t' x):=by
  intro x hx;cases x with
  | tmp k=>simp only[ev];rw[h k (by simp only[Z3u,L,Lc];exact .inl ⟨_,hx,by simp[ZiZ]⟩)]
  | _=>rfl
 revert this;generalize o.op.operands.toList=l;intro this;induction l with
 | nil=>rfl
 | cons x l ih=>rw[Lw,Lw,this x pq,ih (λy hy=>this y (by simp[hy]))]
theorem swap{y x:Rec}{l:List Rec}{t:List AV}{H:Heap}(hnf:Zbd ops hints)(ha:Apart clk ops y x)(h:Zdk P clk ops hints (y::x::l) t H) :
  Zdk P clk ops hints (x::y::l) t H/\x.c.slot (y.c.slot t)=y.c.slot (x.c.slot t)/\applyU x.c.ups (applyU y.c.ups H)=applyU y.c.ups (applyU x.c.ups H):=by
 obtain⟨oy,hy1,hy2,hy3,ox,hx1,hx2,hx3,hl⟩:=h;obtain⟨s1,s2⟩:=ha.slots oy ox hy1 hx1;have dy:=Zgh hy2;have dx:=Zgh hx2;have hkeys:=ha.heapY ox hx1;have hkeyx:=ha.heapX oy hy1;have tx:∀ k∈Z3u ops ox,(y.c.slot t).getD k .any=t.getD k .any:=λk hk=>ZfM λd v hd=>by
  have:=(s1 d (dy d v hd)).1;rintro rfl;exact this hk
 have fx:=Z98 (hints:=hints) (o:=ox) tx;have hx2':Z2w P clk ops hints ox t H=U x.c:=by
  refine Z5D tx (λb hb=>?_) (λd hd fr res news r hl=>hnf x.i ox hx1 d hd fr res news r hl) hx2;refine Z31 λhbu=>?_;obtain⟨q1,q2,_⟩:=hkeys b hbu;rcases L.1 hb with hb | hb
  .exact q1 (by rw[hx3];exact hb)
  .exact q2 hb
 have ty:∀ k∈Z3u ops oy,t.getD k .any=(x.c.slot t).getD k .any:=λk hk=>(ZfM λd v hd=>by
  have:=s2 d (dx d v hd);rintro rfl;exact this hk).symm
 have fy:=Z98 (hints:=hints) (o:=oy) ty;have hy2':Z2w P clk ops hints oy (x.c.slot t) (applyU x.c.ups H)=U y.c:=by
  refine Z5D ty (λb hb=>?_) (λd hd fr res news r hl=>hnf y.i oy hy1 d hd fr res news r hl) hy2;refine(Z31 λhbu=>?_).symm;obtain⟨q1,q2⟩:=hkeyx b hbu;rcases L.1 hb with hb | hb
  .exact q1 (by rw[hy3];exact hb)
  .exact q2 hb
 have es:x.c.slot (y.c.slot t)=y.c.slot (x.c.slot t):=by
  unfold Core.slot;cases hsx:x.c.sl with
  | none=>cases hsy:y.c.sl<;>rfl
  | some p =>
   obtain⟨d,v⟩:=p;cases hsy:y.c.sl with
   | none=>rfl
   | some q =>
    obtain⟨d',v'⟩:=q;have h1:=dx d v hsx;have h2:=dy d' v' hsy;have:=(s1 d' h2).2;rw[h1]at this;have hne:d≠d':=λe=>this (by rw[e]);simp only;exact List.set_comm _ _ oq
 have eh:applyU x.c.ups (applyU y.c.ups H)=applyU y.c.ups (applyU x.c.ups H):=(Ze3 λb hb hbx=>(hkeys b hb).2.2 hbx).symm;refine⟨⟨ox,hx1,hx2',by rw[hx3,fx],oy,hy1,hy2',by rw[hy3,fy], ?_⟩,es,eh⟩;rw[<- es,<- eh];exact hl
theorem ZiK(hnf:Zbd ops hints):∀ {r1:List Rec} {x:Rec} {r2:List Rec} {t:List AV} {H:Heap},(∀ y∈r1,Apart clk ops y x)->Zdk P clk ops hints (r1++x::r2) t H ->
  Zdk P clk ops hints (x::(r1++r2)) t H/\ZbF (r1++x::r2) t=ZbF (x::(r1++r2)) t/\ZaP (r1++x::r2) H=ZaP (x::(r1++r2)) H
 | [],x,r2,t,H,_,h=>⟨h,rfl,rfl⟩
 | y::r1,x,r2,t,H,ha,h=>by
  obtain⟨oy,hy1,hy2,hy3,hl⟩:=h;obtain⟨k1,k2,k3⟩:=ZiK hnf (λz hz=>ha z (by simp[hz])) hl;have hc:Zdk P clk ops hints (y::x::(r1++r2)) t H:=⟨oy,hy1,hy2,hy3,k1⟩
  obtain⟨m1,m2,m3⟩:=swap hnf (ha y pq) hc;refine⟨m1, ?_, ?_⟩
  .show ZbF (r1++x::r2) (y.c.slot t)=ZbF (y::(r1++r2)) (x.c.slot t);rw[k2];show ZbF (r1++r2) (x.c.slot (y.c.slot t))=ZbF (r1++r2) (y.c.slot (x.c.slot t));rw[m2]
  .show ZaP (r1++x::r2) (applyU y.c.ups H)=ZaP (y::(r1++r2)) (applyU x.c.ups H);rw[k3];show ZaP (r1++r2) (applyU x.c.ups (applyU y.c.ups H))=ZaP (r1++r2) (applyU y.c.ups (applyU x.c.ups H));rw[m3]
inductive Sched (clk:Nat) (ops:Array Oper):List Nat->List Rec->Prop
 | nil:Sched clk ops [] []
 | cons {i:Nat} {l:List Nat} {r1 r2:List Rec} {x:Rec} (hi:x.i=i) (ha:∀ y∈r1,Apart clk ops y x) (h:Sched clk ops l (r1++r2)):Sched clk ops (i::l) (r1++x::r2)
theorem ZkU(hnf:Zbd ops hints){Ow:Own}{Im0:Nat->Prop}{w0:World}{Q:Exit->Act->World->Prop}:∀ {l:List Nat} {recs:List Rec},Sched clk ops l recs->∀ {t:List AV} {H:Heap} {a:Act} {w:World},Zdk P clk ops hints recs t H ->
  Sys Ow Im0 w0 t H clk a w->(∀ r∈recs,allP r.c.ph/\EqP r.c.eq)->(∀ a' w',Sys Ow Im0 w0 (ZbF recs t) (ZaP recs H) clk a' w'->Q .normal a' w')->wpOps P ops Q l a w:=by
 intro l recs hs;induction hs with
 | nil=>intro t H a w _ hS _ hQ;exact hQ a w hS
 | cons hi ha hrest ih =>
  rename_i i l r1 r2 x;intro t H a w hc hS hp hQ;obtain⟨k1,k2,k3⟩:=ZiK hnf ha hc;obtain⟨o,ho,hstep,_,hl⟩:=k1;rw[hi]at ho;have hop:Z92 P clk ops hints o t H=U (x.c.out t H):=by unfold Z92;rw[hstep]
  have hx:=hp x pq;have key:=Z96 (next:=wpOps P ops Q l) (Q:=Q) hop hS hx.1 hx.2 λa' w' hS'=>ih (t:=x.c.slot t) (H:=applyU x.c.ups H) hl hS' (λr hr=>hp r (by
   rcases L.1 hr with h | h
   .simp[h]
   .simp[h])) (λa'' w'' hS''=>hQ a'' w'' (by rw[k2,k3];exact hS''))
  simp only[wpOps,ho];split
  .exact .inl (key.1 aa)
  .rename_i hw;exact key.2 ((L8 _).mp hw)
end
end Go.Sx
namespace Go.Sx
open Go.Region
def Z36(acc:List Nat):List Edge->Nat
 | []=>0
 | e::l=>if binds .any e then Z36 acc l ||| 2^e.on ||| acc.getD e.on 0 else Z36 acc l
def Z4s{acc:List Nat}{y:Nat}:∀ {l:List Edge},(Z36 acc l).testBit y=Y->∃ e∈l,binds .any e=Y/\(e.on=y\/(acc.getD e.on 0).testBit y=Y)
 | [],h=>by simp[Z36]at h
 | e::l,h=>by
  simp only[Z36]at h;split at h
  .rename_i hb;rw[Xn,Xn,LW,LW]at h;rcases h with(h | h) | h
   .obtain⟨e',h1,h2⟩:=Z4s h;exact⟨e',by simp[h1],h2⟩
   .rw[Nat.testBit_two_pow]at h;exact⟨e,by simp,hb,.inl (by simpa using h)⟩
   .exact⟨e,by simp,hb,.inr h⟩
  .obtain⟨e',h1,h2⟩:=Z4s h;exact⟨e',by simp[h1],h2⟩
def Zds:List Oper->List Nat->List Nat
 | [],acc=>acc
 | o::l,acc=>Zds l (acc++[Z36 acc o.after.toList])
def Z4P:∀ {l:List Oper} {acc:List Nat} {k:Nat},k<acc.length->(Zds l acc).getD k 0=acc.getD k 0
 | [],acc,k,h=>rfl
 | o::l,acc,k,h=>by
  simp only[Zds];rw[Z4P qo];simp[Lk,LZ h]
def Zai:∀ {l:List Oper} {acc:List Nat} {i y:Nat},acc.length<=i->((Zds l acc).getD i 0).testBit y=Y->∃ o,l[i-acc.length]? = U o/\∃ e∈o.after.toList,binds .any e=Y/\(e.on=y\/((Zds l acc).getD e.on 0).testBit y=Y)
 | [],acc,i,y,hi,h=>by
  simp only[Zds]at h;rw[show acc.getD i 0=0 from by simp[Lk,Lx hi]]at h;simp at h
 | o::l,acc,i,y,hi,h=>by
  simp only[Zds]at h ⊢;by_cases he:i=acc.length
  .subst he;rw[Z4P pq]at h;rw[show(acc++[Z36 acc o.after.toList]).getD acc.length 0=Z36 acc o.after.toList from by simp[Lk]]at h;obtain⟨e,h1,h2,h3⟩:=Z4s h;refine⟨o,by simp,e,h1,h2,h3.imp (λh=>h) λh=>?_⟩;by_cases hlt:e.on<acc.length
   .rw[Z4P qo];rw[show(acc++[Z36 acc o.after.toList]).getD e.on 0=acc.getD e.on 0 from by simp[Lk,LZ hlt]];exact h
   .rw[show acc.getD e.on 0=0 from by simp[Lk,Lx (Xk hlt)]]at h;simp at h
  .obtain⟨o',h1,h2⟩:=Zai (l:=l) (acc:=acc++[Z36 acc o.after.toList]) (i:=i) (y:=y) qo h;refine⟨o', ?_,h2⟩;simp only[L1,Xd,Xf]at h1;rw[show i-acc.length=(i-(acc.length+(0+1)))+1 from by omega];simpa using h1
def bitsOf(ops:Array Oper):List Nat:=Zds ops.toList []
def Z6M(bt:List Nat)(y x:Nat):Bool:=(bt.getD x 0).testBit y
def ZcW{ops:Array Oper}{i y:Nat}(h:Z6M (bitsOf ops) y i=Y):∃ o,ops[i]? = U o/\∃ e∈o.after.toList,binds .any e=Y/\(e.on=y\/Z6M (bitsOf ops) y e.on=Y):=by
 obtain⟨o,h1,h2⟩:=Zai (l:=ops.toList) (acc:=[]) pq h;exact⟨o,by simpa using h1,h2⟩
def ZcV(n:Nat):List Oper->Bool
 | []=>Y
 | o::l=>o.after.toList.all (λe=>!(binds .any e)||decide (e.on<n))&&ZcV (n+1) l
def Z5K:∀ {l:List Oper} {n:Nat},ZcV n l=Y->∀ (i:Nat) (o:Oper),l[i]? = U o->∀ e∈o.after.toList,binds .any e=Y->e.on<n+i
 | [],n,_,i,o,h=>by simp at h
 | o0::l,n,h,i,o,hi=>by
  simp only[ZcV,M,Lb]at h;intro e he hb;cases i with
  | zero =>
   simp at hi;subst hi;have:=h.1 e he;simpa[hb]using this
  | succ i =>
   have:=Z5K h.2 i o (by simpa using hi) e he hb;omega
section
variable {clk:Nat} {ops:Array Oper}
def PairsOk(clk:Nat)(ops:Array Oper):List Rec->Prop
 | []=>True
 | y::l=>(∀ x∈l,Z6M (bitsOf ops) y.i x.i=Y\/Apart clk ops y x)/\PairsOk clk ops l
theorem PairsOk.mid:∀ {r1:List Rec} {x:Rec} {r2:List Rec},PairsOk clk ops (r1++x::r2)->∀ y∈r1,Z6M (bitsOf ops) y.i x.i=Y\/Apart clk ops y x
 | [],_,_,_,y,hy=>by simp at hy
 | z::r1,x,r2,h,y,hy=>by
  rcases N.1 hy with e | e
  .rw[e];exact h.1 x pq
  .exact PairsOk.mid h.2 y e
theorem PairsOk.drop:∀ {r1:List Rec} {x:Rec} {r2:List Rec},PairsOk clk ops (r1++x::r2)->PairsOk clk ops (r1++r2)
 | [],_,_,h=>h.2
 | z::r1,x,r2,h=>⟨λy hy=>h.1 y (by
   rcases L.1 hy with h | h
   .exact L.2 (.inl h)
   .exact L.2 (.inr (F _ h))),PairsOk.drop h.2⟩
theorem ZcP{a:Nat}:∀ {l1 l2:List Nat},(l1++a::l2).Nodup->a∉l1++l2/\(l1++l2).Nodup:=by
 intro l1 l2 h;have:=(List.perm_middle (a:=a) (l₁:=l1) (l₂:=l2)).nodup_iff.1 h;exact Lz.1 this
theorem ZiR{p:Nat->Prop}:(∃ n,p n)->∃ n,p n/\∀ m,p m->n<=m:=by
 intro⟨n,hn⟩;induction n using Xm with
 | ind n ih =>
  by_cases h:∃ m,m<n/\p m
  .obtain⟨m,h1,h2⟩:=h;exact ih m h1 h2
  .refine⟨n,hn,λm hm=>?_⟩;by_cases hlt:m<n
   .exact absurd ⟨m,hlt,hm⟩ h
   .omega
theorem Zku(hback:ZcV 0 ops.toList=Y):∀ (fuel t:Nat) (listed:Array Bool) (acc:List Nat) (recs:List Rec),recs.length=fuel->listed.size=ops.size ->
  (∀ i,i<ops.size->(listed.getD i Y=Z↔i∈recs.map (·.i)))->(∀ r∈recs,r.i<ops.size)->(recs.map (·.i)).Nodup->PairsOk clk ops recs ->
  (∀ j,j<ops.size->listed.getD j Y=Y->∀ y,Z6M (bitsOf ops) y j=Y->y∉recs.map (·.i)) ->
  ∃ l,linearise.go .any ops fuel t listed acc=acc.reverse++l/\Sched clk ops l recs:=by
 intro fuel;induction fuel with
 | zero =>
  intro t listed acc recs hn _ _ _ _ _ _;have:recs=[]:=List.length_eq_zero_iff.1 hn;subst this;exact⟨[],by simp[linearise.go],.nil⟩
 | succ fuel ih =>
  intro t listed acc recs hn hls hl hlt hnd hp hclos;simp only[linearise.go];generalize hrs:(LJ ops.size).filter (λi=>!listed.getD i Y&&((ops[i]?).map (·.after.all λe=>!binds .any e||listed.getD e.on Z)).getD Z)=rs;have hne:rs≠[]:=by
   have hpos:recs.map (·.i)≠[]:=by
    intro h;have h2:recs=[]:=by simpa using h
    rw[h2]at hn;simp at hn
   obtain⟨m,hm1,hm2⟩:=ZiR (p:=λi=>i∈recs.map (·.i)) (List.exists_mem_of_ne_nil _ hpos);have hmlt:m<ops.size:=by obtain⟨r,hr,rfl⟩:=Lg.1 hm1;exact hlt r hr
   intro hempty;have:m∈rs:=by
    rw[<- hrs,Xg];refine⟨Lp.2 hmlt, ?_⟩;have h1:=(hl m hmlt).2 hm1;rw[h1,Lv hmlt];simp only[Bool.not_false,Xa,Xp,Xo];rw[L5];intro e he;cases hb:binds .any e with
    | false=>rfl
    | true =>
     simp only[L9,L7];have hon:=Z5K hback m ops[m] (by simp[hmlt]) e (by simpa using he) hb;have honlt:e.on<ops.size:=by omega
     have hnot:e.on∉recs.map (·.i):=λh=>by have:=hm2 e.on h;omega
     have:¬ listed.getD e.on Y=Z:=λh=>hnot ((hl e.on honlt).1 h);have hs:e.on<listed.size:=by omega
     simp only[LP,hs,dite_true]at this ⊢;simpa using this
   rw[hempty]at this;simp at this
  have hidx:t%rs.length<rs.length:=Nat.mod_lt _ (L2.2 hne);rw[Le hidx];simp only;generalize hi:rs[t%rs.length]=i;have hirs:i∈rs:=by rw[<- hi];exact List.getElem_mem hidx
  rw[<- hrs,Xg]at hirs;obtain⟨hir,hic⟩:=hirs;have hilt:=Lp.1 hir;simp only[M,LD]at hic;obtain⟨hi1,hi2⟩:=hic;have himem:=(hl i hilt).1 hi1;obtain⟨x,hx,hxi⟩:=Lg.1 himem;obtain⟨r1,r2,rfl⟩:=List.append_of_mem hx;rw[Lv hilt]at hi2;simp only[Xp,Xo]at hi2;rw[L5]at hi2;have hfree:∀ y,Z6M (bitsOf ops) y i=Y->y∉(r1++x::r2).map (·.i):=by
   intro y hy;obtain⟨o,ho,e,he,hb,hor⟩:=ZcW hy;rw[Lv hilt]at ho;cases ho;have hel:=hi2 e (by simpa using he);rw[hb]at hel;simp only[L9,L7]at hel;have honlt:e.on<ops.size:=by
    have:=Z5K hback i ops[i] (by simp[hilt]) e he hb;omega
   have hlisted:listed.getD e.on Y=Y:=by
    have hs:e.on<listed.size:=by omega
    simp only[LP,hs,dite_true]at hel ⊢;exact hel
   rcases hor with rfl | hor
   .intro h;rw[(hl e.on honlt).2 h]at hlisted;cases hlisted
   .exact hclos e.on honlt hlisted y hor
  have hapart:∀ y∈r1,Apart clk ops y x:=by
   intro y hy;rcases hp.mid y hy with h | h
   .exfalso;rw[hxi]at h;exact hfree y.i h (Lg.2 ⟨y,by simp[hy],rfl⟩)
   .exact h
  have hndm:i∉(r1++r2).map (·.i):=by
   rw[<- hxi];simp only[LH,Lf]at hnd ⊢;exact(ZcP hnd).1
  have hnd2:((r1++r2).map (·.i)).Nodup:=by
   simp only[LH,Lf]at hnd ⊢;exact(ZcP hnd).2
  have hls2:(listed.setIfInBounds i Y).size=ops.size:=by simp[hls]
  have hget:∀ j d,(listed.setIfInBounds i Y).getD j d=if j=i then(if i<listed.size then Y else d)else listed.getD j d:=by
   intro j d;simp only[Array.getD_eq_getD_getElem?,Array.getElem?_setIfInBounds];by_cases hji:i=j
   .subst hji;simp only[if_true];split<;>rfl
   .simp only[hji,if_false];rw[if_neg (λh=>hji h.symm)]
  obtain⟨l,h1,h2⟩:=ih (t/rs.length) (listed.setIfInBounds i Y) (i::acc) (r1++r2) (by simp at hn ⊢;omega) hls2 (λj hj=>by
    rw[hget];by_cases hji:j=i
    .subst hji;simp only[if_true,hls,hj];exact⟨(λh=>nomatch h),λh=>absurd h hndm⟩
    .simp only[hji,if_false];rw[hl j hj];simp only[LH,Lf,L,N,hxi,hji,false_or]) (λr hr=>hlt r (by
    rcases L.1 hr with h | h
    .simp[h]
    .simp[h])) hnd2 hp.drop (λj hj hjl y hy=>by
    have hsub:y∉(r1++x::r2).map (·.i)->y∉(r1++r2).map (·.i):=λh h'=>h (by
     simp only[LH,Lf,L,N]at h' ⊢;rcases h' with h' | h'
     .exact .inl h'
     .exact .inr (.inr h'))
    rw[hget]at hjl;by_cases hji:j=i
    .subst hji;exact hsub (hfree y hy)
    .simp only[hji,if_false]at hjl;exact hsub (hclos j hj hjl y hy))
  refine⟨i::l, ?_,.cons hxi hapart h2⟩;rw[h1];simp
end
end Go.Sx
namespace Go.Sx
open Go.Region
def Z8N(P:Program)(clk:Nat)(ops:Array Oper)(hints:List (Nat×List Hint)):List Nat->List AV->Heap->Option (List Rec)
 | [],_,_=>U []
 | i::l,t,H=>match ops[i]? with
  | none=>X
  | some o=>match Z2w P clk ops hints o t H with
   | none=>X
   | some c=>match Z8N P clk ops hints l (c.slot t) (applyU c.ups H)with
    | none=>X
    | some rs=>U (⟨i,Zh1 hints t o,c⟩::rs)
def Z6C{P:Program}{clk:Nat}{ops:Array Oper}{hints:List (Nat×List Hint)}:∀ {l:List Nat} {t:List AV} {H:Heap} {recs:List Rec},Z8N P clk ops hints l t H=U recs->Zdk P clk ops hints recs t H/\recs.map (·.i)=l
 | [],t,H,recs,h=>by
  simp only[Z8N,Lj]at h;subst h;exact⟨trivial,rfl⟩
 | i::l,t,H,recs,h=>by
  simp only[Z8N]at h;split at h
  .cases h
  rename_i o ho;split at h
  .cases h
  rename_i c hc;split at h
  .cases h
  rename_i rs hrs;cases h;obtain⟨h1,h2⟩:=Z6C hrs;exact⟨⟨o,ho,hc,rfl,h1⟩,by simp[h2]⟩
def phs:List Rec->List Prop
 | []=>[]
 | r::l=>r.c.ph++phs l
def eqs:List Rec->List (AV×AV)
 | []=>[]
 | r::l=>r.c.eq++eqs l
def Zi7:∀ {l:List Rec},allP (phs l)->∀ r∈l,allP r.c.ph
 | [],_,r,hr=>by simp at hr
 | x::l,h,r,hr=>by
  obtain⟨h1,h2⟩:=allP_append.1 h;rcases N.1 hr with e | e
  .rw[e];exact h1
  .exact Zi7 h2 r e
def Zie:∀ {l:List Rec},EqP (eqs l)->∀ r∈l,EqP r.c.eq
 | [],_,r,hr=>by simp at hr
 | x::l,h,r,hr=>by
  rcases N.1 hr with e | e
  .rw[e];exact h.left
  .exact Zie h.right r e
structure Foot where
 i:Nat
 bits:Nat
 dst:Option Nat
 reads:List Nat
 rs:List Nat
 own:List Nat
 keys:List Nat
def mem2(b:Nat):List Nat->Bool
 | []=>Z
 | x::l=>match Ll x b with
  | true=>Y
  | false=>mem2 b l
def Zbo{b:Nat}{l:List Nat}:mem2 b l=Z↔b∉l:=by
 induction l with
 | nil=>simp[mem2]
 | cons x l ih =>
  simp only[mem2];cases h:Ll x b with
  | true =>
   have:=LK h;simp[this]
  | false =>
   have:=Xl h;simp only[ih,N,not_or];exact⟨λh=>⟨λe=>this e.symm,h⟩,λh=>h.2⟩
def feet(clk:Nat)(ops:Array Oper)(bt:List Nat):List Rec->Option (List Foot)
 | []=>U []
 | r::l=>match ops[r.i]? with
  | none=>X
  | some o=>match feet clk ops bt l with
   | none=>X
   | some fs=>U (⟨r.i,bt.getD r.i 0,o.dst,Z3u ops o,r.rs,Z43 clk o,r.c.ups.map (·.1)⟩::fs)
def Zj5(y x:Foot):Bool :=
  (match y.dst with
   | some d=>!mem2 d x.reads&&(match x.dst with | U d'=>!Nat.beq d' d | X=>Y)
   | none=>Y) &&
  (match x.dst with
   | some d=>!mem2 d y.reads
   | none=>Y) &&
  (y.keys.all λb=>!mem2 b x.rs&&!mem2 b x.own&&!mem2 b x.keys) &&
  (x.keys.all λb=>!mem2 b y.rs&&!mem2 b y.own)
def ZeY:List Foot->Bool
 | []=>Y
 | y::l=>(l.all λx=>x.bits.testBit y.i||Zj5 y x)&&ZeY l
section
variable {clk:Nat} {ops:Array Oper}
def ZjD(clk:Nat)(ops:Array Oper)(bt:List Nat)(r:Rec)(f:Foot):Prop :=
 ∃ o,ops[r.i]? = U o/\f=⟨r.i,bt.getD r.i 0,o.dst,Z3u ops o,r.rs,Z43 clk o,r.c.ups.map (·.1)⟩
theorem Zic{bt:List Nat}{y x:Rec}{fy fx:Foot}(hy:ZjD clk ops bt y fy)(hx:ZjD clk ops bt x fx)(h:Zj5 fy fx=Y):Apart clk ops y x:=by
 obtain⟨oy,hy1,rfl⟩:=hy;obtain⟨ox,hx1,rfl⟩:=hx;unfold Zj5 at h;simp only[M,Lb,LD,Zbo]at h;obtain⟨⟨⟨h1,h2⟩,h3⟩,h4⟩:=h;refine⟨λoy' ox' hy' hx'=>?_,λox' hx' b hb=>?_,λoy' hy' b hb=>?_⟩
 .rw[hy1]at hy';rw[hx1]at hx';cases hy';cases hx';refine⟨λd hd=>?_,λd hd=>?_⟩
  .rw[hd]at h1;simp only[M,LD,Zbo]at h1;refine⟨h1.1,λhd'=>?_⟩;have h1:=h1.2;rw[hd']at h1;simp at h1
  .rw[hd]at h2;simpa[Zbo]using h2
 .rw[hx1]at hx';cases hx';obtain⟨⟨q1,q2⟩,q3⟩:=h3 b hb;exact⟨q1,q2,q3⟩
 .rw[hy1]at hy';cases hy';exact h4 b hb
theorem Zfp{bt:List Nat}:∀ {l:List Rec} {fs:List Foot},feet clk ops bt l=U fs->∀ r∈l,∃ f∈fs,ZjD clk ops bt r f
 | [],_,_,r,hr=>by simp at hr
 | x::l,fs,h,r,hr=>by
  simp only[feet]at h;split at h
  .cases h
  rename_i o ho;split at h
  .cases h
  rename_i gs hgs;cases h;rcases N.1 hr with e | e
  .subst e;exact⟨_,by simp,o,ho,rfl⟩
  .obtain⟨f,hf,hi⟩:=Zfp hgs r e;exact⟨f,by simp[hf],hi⟩
theorem Zch:∀ {l:List Rec} {fs:List Foot},feet clk ops (bitsOf ops) l=U fs->ZeY fs=Y->PairsOk clk ops l
 | [],_,_,_=>trivial
 | y::l,fs,h,hp=>by
  simp only[feet]at h;split at h
  .cases h
  rename_i o ho;split at h
  .cases h
  rename_i gs hgs;cases h;simp only[ZeY,M,Lb,LW]at hp;refine⟨λx hx=>?_,Zch hgs hp.2⟩;obtain⟨f,hf,hi⟩:=Zfp hgs x hx;have hi':=hi;obtain⟨ox,hox,e⟩:=hi';rcases hp.1 f hf with h1 | h1
  .left;rw[e]at h1;exact h1
  .right;exact Zic ⟨o,ho,rfl⟩ hi h1
end
def Z4x:List (Nat×List Hint)->Bool
 | []=>Y
 | (_,.call _ _ news::_)::l=>Lh news.length 7&&Z4x l
 | _::l=>Z4x l
def Z87:∀ {hints:List (Nat×List Hint)},Z4x hints=Y->∀ (d:Nat) fr res news r,look d hints = .call fr res news::r->news.length<=7
 | [],_,d,fr,res,news,r,h=>by simp[look]at h
 | (j,hs)::l,hf,d,fr,res,news,r,h=>by
  have hl:Z4x l=Y:=by
   unfold Z4x at hf;split at hf
   .cases ‹_=[]›
   .rename_i h1;cases h1;exact(M _ _▸hf).2
   .rename_i h1;cases h1;exact hf
  simp only[look]at h;split at h
  .subst h;simp only[Z4x,M]at hf;exact Lt hf.1
  .exact Z87 hl d fr res news r h
def ZeR(P:Program)(clk:Nat)(ops:Array Oper)(hints:List (Nat×List Hint))(t:List AV)(H:Heap):Option Out :=
 match Z8N P clk ops hints (LJ ops.size) t H with
 | none=>X
 | some recs=>match feet clk ops (bitsOf ops) recs with
  | none=>X
  | some fs=>match (P.follows .mixedOrders||!departs ops)&&(ZcV 0 ops.toList&&(Z4x hints&&ZeY fs))with
   | true=>U ⟨ZbF recs t,ZaP recs H,phs recs,eqs recs⟩
   | false=>X
def Zhf{P:Program}{Ow:Own}{Im0:Nat->Prop}{w0:World}{clk:Nat}{hints:List (Nat×List Hint)}{ops:Array Oper}{Q:Exit->Act->World->Prop}{tmps:List AV}{H:Heap}{a:Act}{w:World}{out:Out}{id:Nat}
  (h:ZeR P clk ops hints tmps H=U out) (hS:Sys Ow Im0 w0 tmps H clk a w) (hph:allP out.ph) (heq:EqP out.eq) (hQ:∀ a' w',Sys Ow Im0 w0 out.tmps out.H clk a' w'->Q .normal a' w'):(Code.region id ops Y).wp P Q a w:=by
 unfold ZeR at h;split at h
 .cases h
 rename_i recs hrecs;split at h
 .cases h
 rename_i fs hfs;split at h;rotate_left
 .cases h
 rename_i hb;cases h;simp only[M]at hb;obtain⟨hm,hback,hfit,hpairs⟩:=hb;obtain⟨hchain,hmap⟩:=Z6C hrecs;have hnf:Zbd ops hints:=λi o _ d _ fr res news r hl=>Z87 hfit d fr res news r hl;refine wp_region_draw λn=>?_;have hsch:schedule (P.follows .mixedOrders) ops n=linearise .any ops n:=by
  unfold schedule;rw[if_pos hm]
 rw[hsch];unfold linearise;have hlen:recs.length=ops.size:=by
  have:=congrArg List.length hmap;simpa using this
 have hget:∀ i,i<ops.size->(LU ops.size Z).getD i Y=Z:=by
  intro i hi;simp[LP,hi]
 obtain⟨l,h1,h2⟩:=Zku (clk:=clk) (ops:=ops) hback ops.size n (LU ops.size Z) [] recs hlen pq (λi hi=>by
   rw[hmap];exact⟨λ_=>Lp.2 hi,λ_=>hget i hi⟩) (λr hr=>by
   have:r.i∈recs.map (·.i):=Lg.2 ⟨r,hr,rfl⟩;rw[hmap]at this;exact Lp.1 this) (by rw[hmap];exact List.nodup_range) (Zch hfs hpairs) (λj hj hl=>by rw[hget j hj]at hl;cases hl)
 rw[h1];have hS':Sys Ow Im0 w0 tmps H clk a { w with drawn:=w.drawn+1 }:=by
  obtain⟨ρ,Im,I,T⟩:=hS;exact⟨ρ,Im,I.draw,T.mono (w':=w.drew) (Ext.draw Im w) (λ_ h=>h) (λ_ _ h=>h) I.bnd⟩
 exact ZkU hnf h2 hchain hS' (λr hr=>⟨Zi7 hph r hr,Zie heq r hr⟩) hQ
def Z67(P:Program)(clk:Nat)(ops:Array Oper)(hints:List (Nat×List Hint)):List Nat->List AV->Heap->Option Out
 | [],t,H=>U ⟨t,H,[],[]⟩
 | i::l,t,H=>match ops[i]? with
  | none=>X
  | some o=>match Z92 P clk ops hints o t H with
   | none=>X
   | some x=>match Z67 P clk ops hints l x.tmps x.H with
    | none=>X
    | some y=>U ⟨y.tmps,y.H,x.ph++y.ph,x.eq++y.eq⟩
def Zcu{P:Program}{Ow:Own}{Im0:Nat->Prop}{w0:World}{clk:Nat}{hints:List (Nat×List Hint)}{ops:Array Oper}{Q:Exit->Act->World->Prop}:∀ {l:List Nat} {tmps:List AV} {H:Heap} {a:Act} {w:World} {out:Out},
  Z67 P clk ops hints l tmps H=U out->Sys Ow Im0 w0 tmps H clk a w->allP out.ph->EqP out.eq->(∀ a' w',Sys Ow Im0 w0 out.tmps out.H clk a' w'->Q .normal a' w')->wpOps P ops Q l a w
 | [],tmps,H,a,w,out,h,hS,_,_,hQ=>by
  simp only[Z67,Lj]at h;subst h;exact hQ a w hS
 | i::l,tmps,H,a,w,out,h,hS,hph,heq,hQ=>by
  simp only[Z67]at h;split at h
  .cases h
  rename_i o ho;split at h
  .cases h
  rename_i x hx;split at h
  .cases h
  rename_i y hy;cases h;obtain⟨p1,p2⟩:=allP_append.1 hph;have key:=Z96 (next:=wpOps P ops Q l) (Q:=Q) hx hS p1 heq.left λa' w' hS'=>Zcu hy hS' p2 heq.right hQ;simp only[wpOps,ho];split
  .exact .inl (key.1 aa)
  .rename_i hw;exact key.2 ((L8 _).mp hw)
structure Tg where
 tmps:List AV
 hl:List (Nat×Blk)
 clk:Nat
def hOf:List (Nat×Blk)->Heap
 | [],_=>X
 | (b,B)::r,k=>if k=b then U B else hOf r k
inductive Ex where
 | nrm
 | ext (n:Nat)
 | ret
def Ex.exit:Ex->Exit
 | .nrm=>.normal
 | .ext n=>.exit n
 | .ret=>.ret
def CSpec(P:Program)(c:Code)(s:St)(e:Ex)(t:St):Prop :=
 ∀ (Ow:Own) (Im0:Nat->Prop) (w0:World) (a:Act) (w:World),Sys Ow Im0 w0 s.tmps s.H s.clk a w->c.wp P (λe' a' w'=>e'=e.exit/\Sys Ow Im0 w0 t.tmps t.H t.clk a' w') a w
def Tg.st(t:Tg):St:=⟨t.tmps,hOf t.hl,t.clk⟩
def memN(b:Nat):List Nat->Bool
 | []=>Z
 | x::l=>if x=b then Y else memN b l
def Zew(ids:List Nat):AV->Bool
 | .pt b _ _=>memN b ids
 | .os b _ _=>memN b ids
 | .ow b=>memN b ids
 | .d _=>Y
 | .rp .. => Y
 | .any=>Y
 | _=>Z
def refs(ids:List Nat):AV->Bool
 | .ag l=>l.all (Zew ids)
 | .fn _ l=>l.all (Zew ids)
 | .fm _ a=>Zew ids a
 | .ic _ a=>Zew ids a
 | a=>Zew ids a
def ZjF(ids:List Nat):AV->Bool
 | .tu l=>l.all (refs ids)
 | a=>refs ids a
def ZkL(ids:List Nat):Blk->Bool
 | .box _ cells=>cells.all (refs ids)
 | .arr .. => Y
 | .mp _=>Y
 | .dead=>Z
def encB:Blk->AV
 | .box ty cells=>.tu [.d (.sc (.int .i64 ty)),.tu cells]
 | .arr ty s els=>.tu [.d (.sc (.int .i64 ty)),.d (.sl s els)]
 | .mp ks=>.tu [.d (.sl 0 (ks.map λx=>[.sc (.int .u64 x)]))]
 | .dead=>.tu []
def ZbP{B B':Blk}(h:encB B=encB B'):B=B':=by
 cases B with
 | box ty cells =>
  cases B' with
  | box ty' cells' =>
   simp only[encB,AV.tu.injEq,LG,AV.d.injEq,DV.sc.injEq,Value.int.injEq,and_true,true_and]at h;obtain⟨h1,h2⟩:=h;have:ty=ty':=by omega
   rw[this,h2]
  | _=>simp[encB]at h
 | mp ks =>
  cases B' with
  | mp ks' =>
   simp only[encB,AV.tu.injEq,LG,AV.d.injEq,DV.sl.injEq,and_true,true_and]at h;rw[List.map_inj_right pq]at h;rw[h]
  | _=>simp[encB]at h
 | dead =>
  cases B' with
  | dead=>rfl
  | _=>simp[encB]at h
 | arr ty s els =>
  cases B' with
  | box=>simp[encB]at h
  | mp=>simp[encB]at h
  | dead=>simp[encB]at h
  | arr ty' s' els' =>
   simp only[encB,AV.tu.injEq,LG,AV.d.injEq,DV.sc.injEq,DV.sl.injEq,Value.int.injEq,and_true,true_and]at h;obtain⟨h1,h2,h3⟩:=h;have:ty=ty':=by omega
   rw[this,h2,h3]
def ZpK:AV->Bool
 | .any=>Y
 | _=>Z
def wkT(ids:List Nat):List AV->List AV->Option (List (AV×AV))
 | [],[]=>U []
 | x::xs,y::ys=>match wkT ids xs ys with
  | none=>X
  | some r=>if ZpK y then U r else if ZjF ids y then U ((x,y)::r)else X
 | _,_=>X
def wkH(ids:List Nat)(H:Heap):List (Nat×Blk)->Option (List (AV×AV))
 | []=>U []
 | (b,B)::r=>match H b with
  | none=>X
  | some B'=>match wkH ids H r with
   | none=>X
   | some l=>if ZkL ids B then U ((encB B',encB B)::l)else X
def wk(s:St)(t:Tg):Option (List (AV×AV)) :=
 match t.clk with
 | 0=>X
 | _+1=>match wkT (t.hl.map (·.1)) s.tmps t.tmps,wkH (t.hl.map (·.1)) s.H t.hl with
 | some l,some m=>U (l++m)
 | _,_=>X
def memN_iff{b:Nat}{l:List Nat}:memN b l=Y↔b∈l:=by
 induction l with
 | nil=>simp[memN]
 | cons x l ih =>
  simp only[memN];split
  .rename_i h;subst h;simp
  .rename_i h;rw[ih];simp;omega
section
variable {ρ ρ':Rho} {w:World} {Im:Nat->Prop} {ids:List Nat}
theorem Z1Y(hρ:∀ b∈ids,∀ β,ρ b=U β->ρ' b=U β){x:AV}{v:Value}(h:Rel ρ w Im x v)(hr:Zew ids x=Y):Rel ρ' w Im x v:=by
 cases x with
 | pt b i o=>obtain⟨g,s,n,h1,rfl⟩:=Z4p h;exact .pt (hρ b (memN_iff.1 hr) _ h1)
 | os b o n=>cases h with | os h1 h2 h3 h4 h5=>exact .os (hρ b (memN_iff.1 hr) _ h1) h2 h3 h4 h5
 | ow b=>cases h with | ow h1 h2 h3 h4=>exact .ow (hρ b (memN_iff.1 hr) _ h1) h2 h3 h4
 | d x=>cases h with | d h=>exact .d h
 | rp e o=>cases h with | rp h1 h2 h3=>exact .rp h1 h2 h3
 | any=>exact .any _
 | _=>simp[Zew]at hr
theorem Zbz(hρ:∀ b∈ids,∀ β,ρ b=U β->ρ' b=U β){x:AV}{v:Value}(h:Rel ρ w Im x v)(hr:refs ids x=Y):Rel ρ' w Im x v:=by
 cases x with
 | ag l =>
  obtain⟨cs,rfl,k1,k2,k3⟩:=Z3a h;simp only[refs,Lb]at hr;exact .ag _ cs k1 k2 λi a u ha hu=>Z1Y hρ (k3 i a u ha hu) (hr a (W ha))
 | fn f l =>
  cases h with
  | fn k1 k3 =>
   simp only[refs,Lb]at hr;exact .fn k1 λi a u ha hu=>Z1Y hρ (k3 i a u ha hu) (hr a (W ha))
 | ic t a=>cases h with | ic h=>exact .ic (Z1Y hρ h hr)
 | fm t a=>cases h with | fm h=>exact .fm (Z1Y hρ h hr)
 | pt=>exact Z1Y hρ h hr
 | os=>exact Z1Y hρ h hr
 | ow=>exact Z1Y hρ h hr
 | d=>exact Z1Y hρ h hr
 | rp=>exact Z1Y hρ h hr
 | tu=>exact Z1Y hρ h hr
 | gd=>exact Z1Y hρ h hr
 | any=>exact Z1Y hρ h hr
theorem Zdj(hρ:∀ b∈ids,∀ β,ρ b=U β->ρ' b=U β){x:AV}{v:Value}(h:Rel ρ w Im x v)(hr:ZjF ids x=Y):Rel ρ' w Im x v:=by
 cases x with
 | tu l =>
  cases h with
  | tu _ cs k1 k3 =>
   simp only[ZjF,Lb]at hr;exact .tu _ cs k1 λi a u ha hu=>Zbz hρ (k3 i a u ha hu) (hr a (W ha))
 | _=>exact Zbz hρ h hr
theorem Zix(hρ:∀ b∈ids,∀ β,ρ b=U β->ρ' b=U β){β:Bi}{B:Blk}(h:RelB ρ w Im β B)(hr:ZkL ids B=Y):RelB ρ' w Im β B:=by
 cases B with
 | box ty cells =>
  obtain⟨h0,h00,g,cs,h1,h2,h3,h3',h4⟩:=h;simp only[ZkL,Lb]at hr;exact⟨h0,h00,g,cs,h1,h2,h3,h3',λo a v ha hv=>Zbz hρ (h4 o a v ha hv) (hr a (W ha))⟩
 | arr ty s els=>exact h
 | mp ks=>exact h
 | dead=>trivial
end
def hOf_mem{hl:List (Nat×Blk)}{k:Nat}:(∀ B,hOf hl k=U B->(k,B)∈hl)/\(hOf hl k=X↔k∉hl.map (·.1)):=by
 induction hl with
 | nil=>simp[hOf]
 | cons p r ih =>
  obtain⟨b,B0⟩:=p;refine⟨λB h=>?_, ?_⟩
  .simp only[hOf]at h;split at h
   .rename_i e;cases h;rw[e];simp
   .exact F _ (ih.1 B h)
  .simp only[hOf];split
   .rename_i e;subst e;simp
   .rename_i e;rw[ih.2];simp[e]
def ZbO{ids:List Nat}:∀ {xs ys:List AV} {l:List (AV×AV)},wkT ids xs ys=U l->EqP l->xs.length=ys.length/\∀ (i:Nat) (y:AV),ys[i]? = U y->y = .any\/(xs[i]? = U y/\ZjF ids y=Y)
 | [],[],l,_,_=>by simp
 | [],_::_,l,h,_=>by simp[wkT]at h
 | _::_,[],l,h,_=>by simp[wkT]at h
 | x::xs,y::ys,l,h,he=>by
  simp only[wkT]at h;split at h
  .cases h
  rename_i r hr;split at h
  .rename_i hy;cases h;obtain⟨h1,h2⟩:=ZbO hr he;refine⟨by simp[h1],λi z hz=>?_⟩;cases i with
   | zero =>
    simp at hz;subst hz;left;cases y<;>first | rfl | simp[ZpK]at hy
   | succ i=>simpa using h2 i z (by simpa using hz)
  .split at h
   .rename_i hy hrf;cases h;obtain⟨h1,h2⟩:=ZbO hr (λp hp=>he p (F _ hp));refine⟨by simp[h1],λi z hz=>?_⟩;cases i with
    | zero =>
     simp at hz;subst hz;right;have:x=y:=he (x,y) pq;exact⟨by simp[this],hrf⟩
    | succ i=>simpa using h2 i z (by simpa using hz)
   .cases h
def Zfv{ids:List Nat}{H:Heap}:∀ {hl:List (Nat×Blk)} {l:List (AV×AV)},wkH ids H hl=U l->EqP l->∀ b B,(b,B)∈hl->H b=U B/\ZkL ids B=Y
 | [],l,_,_=>by simp
 | (b0,B0)::r,l,h,he=>by
  simp only[wkH]at h;split at h
  .cases h
  rename_i B' hB';split at h
  .cases h
  rename_i m hm;split at h;rotate_left
  .cases h
  rename_i hrf;cases h;intro b B hb;rcases N.1 hb with e | e
  .injection e with e1 e2;subst e1;subst e2;have:encB B'=encB B:=he (encB B',encB B) pq;rw[ZbP this]at hB';exact⟨hB',hrf⟩
  .exact Zfv hm (λp hp=>he p (F _ hp)) b B e
def ZgZ{s:St}{t:Tg}{l:List (AV×AV)}(h:wk s t=U l)(he:EqP l){Ow:Own}{Im0:Nat->Prop}{w0:World}{a:Act}{w:World}(hS:Sys Ow Im0 w0 s.tmps s.H s.clk a w):Sys Ow Im0 w0 t.st.tmps t.st.H t.st.clk a w:=by
 unfold wk at h;split at h
 .cases h
 rename_i clk0 hclk;split at h;rotate_left
 .cases h
 rename_i l1 l2 h1 h2;cases h;obtain⟨ρ,Im,I,T⟩:=hS;obtain⟨k1,k2⟩:=ZbO h1 he.left;have k3:=Zfv h2 he.right;let ids:=t.hl.map (·.1);let ρ':Rho:=λb=>if memN b ids then ρ b else X
 have hin:∀ b∈ids,∀ β,ρ b=U β->ρ' b=U β:=by
  intro b hb β h;simp only[ρ'];rw[if_pos (memN_iff.2 hb)];exact h
 have hout:∀ b β,ρ' b=U β->ρ b=U β:=by
  intro b β h;simp only[ρ']at h;split at h
  .exact h
  .cases h
 have hlive:∀ b,live t.st.H b->live s.H b:=λb ⟨B,q1,q2⟩=>⟨B,(k3 b B (hOf_mem.1 B q1)).1,q2⟩
 refine⟨ρ',Im,⟨I.kept,λb b' β β' g l1 l2 q1 q2 q3 q4=>I.inj b b' β β' g (hlive _ l1) (hlive _ l2) (hout _ _ q1) (hout _ _ q2) q3 q4,λb β g l q=>I.notIm b β g (hlive _ l) (hout _ _ q),λb β g q=>I.bnd b β g (hout _ _ q),λb β g q=>I.own b β g (hout _ _ q),I.imb,I.im0,λb B q=>?_,λb _ q=>?_,⟨by show 1<=t.clk;omega,λb β h q=>I.one.2 b β h (hout _ _ q)⟩⟩,⟨by rw[T.size,k1];rfl,λi y v hy hv=>?_,T.defers⟩⟩
 .obtain⟨q1,q2⟩:=k3 b B (hOf_mem.1 B q);obtain⟨β,m1,m2⟩:=I.blk b B q1;have hb:b∈ids:=by
   have:=hOf_mem.1 B q;exact Lg.2 ⟨(b,B),this,rfl⟩
  exact⟨β,hin b hb β m1,Zix hin m2 q2⟩
 .have:b∉ids:=hOf_mem.2.1 q;simp only[ρ'];rw[if_neg (λh=>this (memN_iff.1 h))]
 .rcases k2 i y hy with rfl | ⟨q1,q2⟩
  .exact .any _
  .exact Zdj hin (T.tmp i y v q1 hv) q2
def Zhy(k:Nat):List (Nat×Tg×Ex×Tg)->Option (Tg×Ex×Tg)
 | []=>X
 | (j,h)::r=>if j=k then U h else Zhy k r
def keyC:Operand->Nat
 | .tmp t=>t
 | _=>30000
def brs:List Hint->List Hint
 | .br b::l=>.br b::l
 | _::l=>brs l
 | []=>[]
structure Run where
 e:Ex
 s:St
 ph:List Prop
 eq:List (AV×AV)
def runC(P:Program)(hints:List (Nat×List Hint))(cuts:List (Nat×Tg×Ex×Tg)):Code->St->Option Run
 | .skip,s=>U ⟨.nrm,s,[],[]⟩
 | .label _,s=>U ⟨.nrm,s,[],[]⟩
 | .region _ ops dr,s=>match (match dr with | Y=>ZeR P s.clk ops hints s.tmps s.H | Z=>Z67 P s.clk ops hints (LJ ops.size) s.tmps s.H)with
  | some x=>U ⟨.nrm,⟨x.tmps,x.H,s.clk+1⟩,x.ph,x.eq⟩
  | none=>X
 | .seq x y,s=>match runC P hints cuts x s with
  | none=>X
  | some r=>match r.e with
   | .nrm=>match runC P hints cuts y r.s with
    | some q=>U ⟨q.e,q.s,r.ph++q.ph,r.eq++q.eq⟩
    | none=>X
   | e=>U ⟨e,r.s,r.ph,r.eq⟩
 | .cond c x y,s=>match asB (ev s.tmps c)with
  | none=>X
  | some b=>match brs (look (keyC c) hints)with
   | .br true::_=>match runC P hints cuts x s with
    | some q=>U ⟨q.e,q.s,(b=Y)::q.ph,q.eq⟩
    | none=>X
   | .br false::_=>match runC P hints cuts y s with
    | some q=>U ⟨q.e,q.s,(b=Z)::q.ph,q.eq⟩
    | none=>X
   | _=>match b with
    | true=>runC P hints cuts x s
    | false=>runC P hints cuts y s
 | .block n c,s=>match Zhy n cuts with
  | some (pre,e,post)=>match wk s pre with
   | some l=>U ⟨e,post.st,[CSpec P (.block n c) pre.st e post.st],l⟩
   | none=>X
  | none=>match runC P hints cuts c s with
   | none=>X
   | some r=>match r.e with
    | .ext m=>if m=n then U ⟨.nrm,r.s,r.ph,r.eq⟩else U r
    | _=>U r
 | .exit n,s=>U ⟨.ext n,s,[],[]⟩
 | .ret,s=>U ⟨.ret,s,[],[]⟩
 | _,_=>X
def Sys.clk{Ow:Own}{Im0:Nat->Prop}{w0:World}{tmps:List AV}{H:Heap}{clk clk':Nat}{a:Act}{w:World}(h:Sys Ow Im0 w0 tmps H clk a w)(hle:clk<=clk'):Sys Ow Im0 w0 tmps H clk' a w:=by
 obtain⟨ρ,Im,I,T⟩:=h;exact⟨ρ,Im,⟨I.kept,I.inj,I.notIm,I.bnd,I.own,I.imb,I.im0,I.blk,λb hb h=>I.fresh b (Li (Nat.mul_le_mul_right _ hle) hb) h,Li I.one.1 hle,I.one.2⟩,T⟩
def Z9s{P:Program}{hints:List (Nat×List Hint)}{cuts:List (Nat×Tg×Ex×Tg)}:∀ {c:Code} {s:St} {r:Run},runC P hints cuts c s=U r->allP r.ph->EqP r.eq->CSpec P c s r.e r.s:=by
 intro c;induction c with
 | skip=>intro s r h _ _ Ow Im0 w0 a w hS;simp only[runC,Lj]at h;subst h;exact wp_skip ⟨rfl,hS⟩
 | label n=>intro s r h _ _ Ow Im0 w0 a w hS;simp only[runC,Lj]at h;subst h;exact wp_label ⟨rfl,hS⟩
 | region n ops dr =>
  intro s r h hph heq Ow Im0 w0 a w hS;simp only[runC]at h;split at h;rotate_left
  .cases h
  rename_i x hx;cases h;cases dr with
  | false=>exact wp_region (Zcu hx hS hph heq λa' w' hS'=>⟨rfl,hS'.clk pq⟩)
  | true=>exact Zhf hx hS hph heq λa' w' hS'=>⟨rfl,hS'.clk pq⟩
 | seq x y ihx ihy =>
  intro s r h hph heq Ow Im0 w0 a w hS;simp only[runC]at h;split at h
  .cases h
  rename_i q hq;split at h
  .rename_i he;split at h;rotate_left
   .cases h
   rename_i q2 hq2;cases h;obtain⟨p1,p2⟩:=allP_append.1 hph;refine wp_seq (wp_mono (ihx hq p1 heq.left Ow Im0 w0 a w hS) ?_);rintro e a' w' ⟨rfl,hS'⟩;rw[he];exact ihy hq2 p2 heq.right Ow Im0 w0 a' w' hS'
  .rename_i he;cases h;refine wp_seq (wp_mono (ihx hq hph heq Ow Im0 w0 a w hS) ?_);rintro e a' w' ⟨rfl,hS'⟩;cases hqe:q.e with
   | nrm=>exact absurd hqe he
   | ext n=>exact⟨rfl,hS'⟩
   | ret=>exact⟨rfl,hS'⟩
 | cond c x y ihx ihy =>
  intro s r h hph heq Ow Im0 w0 a w hS;simp only[runC]at h;split at h
  .cases h
  rename_i b hb;have hv:a.eval c = .bool b:=by
   obtain⟨ρ,Im,I,T⟩:=hS;have:=Z1p T c;rw[Z7S hb]at this;exact Z0G this
  split at h
  .split at h;rotate_left
   .cases h
   rename_i q hq;cases h;obtain⟨p1,p2⟩:=allP_cons.1 hph;exact wp_cond_true (by rw[hv,p1]) (ihx hq p2 heq Ow Im0 w0 a w hS)
  .split at h;rotate_left
   .cases h
   rename_i q hq;cases h;obtain⟨p1,p2⟩:=allP_cons.1 hph;exact wp_cond_false (by rw[hv,p1]) (ihy hq p2 heq Ow Im0 w0 a w hS)
  .split at h
   .exact wp_cond_true hv (ihx h hph heq Ow Im0 w0 a w hS)
   .exact wp_cond_false hv (ihy h hph heq Ow Im0 w0 a w hS)
 | block n c ih =>
  intro s r h hph heq Ow Im0 w0 a w hS;simp only[runC]at h;split at h
  .rename_i pre e post hl;split at h;rotate_left
   .cases h
   rename_i l hwk;cases h;have hC:CSpec P (.block n c) pre.st e post.st:=by simpa[allP]using hph
   exact hC Ow Im0 w0 a w (ZgZ hwk heq hS)
  .split at h
   .cases h
   rename_i q hq;split at h
   .rename_i m hm;split at h
    .rename_i hmn;cases h;refine wp_block (wp_mono (ih hq hph heq Ow Im0 w0 a w hS) ?_);rintro e a' w' ⟨rfl,hS'⟩;rw[hm];simp only[Ex.exit,Exit.inBlock,hmn,if_true];exact⟨by trivial,hS'⟩
    .rename_i hmn;cases h;refine wp_block (wp_mono (ih hq hph heq Ow Im0 w0 a w hS) ?_);rintro e a' w' ⟨rfl,hS'⟩;rw[hm];simp only[Ex.exit,Exit.inBlock,hmn,if_false];exact⟨by trivial,hS'⟩
   .rename_i hne;cases h;refine wp_block (wp_mono (ih hq hph heq Ow Im0 w0 a w hS) ?_);rintro e a' w' ⟨rfl,hS'⟩;cases hqe:r.e with
    | nrm=>exact⟨rfl,hS'⟩
    | ext m=>exact absurd hqe (hne m)
    | ret=>exact⟨rfl,hS'⟩
 | exit n=>intro s r h _ _ Ow Im0 w0 a w hS;simp only[runC,Lj]at h;subst h;exact wp_exit ⟨rfl,hS⟩
 | ret=>intro s r h _ _ Ow Im0 w0 a w hS;simp only[runC,Lj]at h;subst h;exact wp_ret ⟨rfl,hS⟩
 | loop c ih=>intro s r h;simp[runC]at h
 | rangeFunc f p x y=>intro s r h;simp[runC]at h
 | scope c ih=>intro s r h;simp[runC]at h
 | goto n=>intro s r h;simp[runC]at h
 | refuse y=>intro s r h;simp[runC]at h
def Z2v(P:Program)(c:Code):Nat->St->Ex->St->Prop
 | 0,s,e,t=>e≠.nrm/\CSpec P c s e t
 | n+1,s,e,t=>∃ s',CSpec P c s .nrm s'/\Z2v P c n s' e t
def least{p:Nat->Prop}(h:∃ n,p n):∃ n,p n/\∀ m,p m->n<=m:=by
 obtain⟨n,hn⟩:=h;induction n using Xm with
 | _ n ih =>
  by_cases hx:∃ m,m<n/\p m
  .obtain⟨m,h1,h2⟩:=hx;exact ih m h1 h2
  .refine⟨n,hn,λm hm=>?_⟩;rcases Nat.lt_or_ge m n with h | h
   .exact absurd ⟨m,h,hm⟩ hx
   .exact h
open Classical in
def Ze9{P:Program}{c:Code}{n:Nat}{s t:St}{e:Ex}(h:Z2v P c n s e t):CSpec P (.loop c) s e t:=by
 intro Ow Im0 w0 a w hS;let I:Act->World->Prop:=λa w=>∃ n s',Sys Ow Im0 w0 s'.tmps s'.H s'.clk a w/\Z2v P c n s' e t;let μ:Act->World->Nat:=λa w=>if h:I a w then LX (least h)else 0
 refine wp_loop I μ ⟨n,s,hS,h⟩ λa w hI=>?_;have hμ:μ a w=LX (least hI):=dif_pos hI;obtain⟨k1,k2⟩:=Xb (least hI);rw[<- hμ]at k1 k2;obtain⟨s',hS',hr⟩:=k1;generalize hm:μ a w=m at hr k2 ⊢;cases m with
 | zero =>
  obtain⟨h1,h2⟩:=hr;refine wp_mono (h2 Ow Im0 w0 a w hS') ?_;rintro e' a' w' ⟨rfl,hS''⟩;cases e with
  | nrm=>exact absurd rfl h1
  | ext n=>exact⟨rfl,hS''⟩
  | ret=>exact⟨rfl,hS''⟩
 | succ m =>
  obtain⟨s2,h1,h2⟩:=hr;refine wp_mono (h1 Ow Im0 w0 a w hS') ?_;rintro e' a' w' ⟨rfl,hS''⟩;have hI':I a' w':=⟨m,s2,hS'',h2⟩
  refine⟨hI', ?_⟩;have hμ':μ a' w'=LX (least hI'):=dif_pos hI';have:=(Xb (least hI')).2 m ⟨s2,hS'',h2⟩;rw[<- hμ']at this;omega
def Zjf{P:Program}{c:Code}{n:Nat}{s t:St}(h:CSpec P c s (.ext n) t):CSpec P (.block n c) s .nrm t:=by
 intro Ow Im0 w0 a w hS;refine wp_block (wp_mono (h Ow Im0 w0 a w hS) ?_);rintro e a' w' ⟨rfl,hS'⟩;simp only[Ex.exit,Exit.inBlock,if_true];exact⟨by trivial,hS'⟩
def ZiS{P:Program}{c:Code}{n:Nat}{s t:St}(h:CSpec P c s .ret t):CSpec P (.block n c) s .ret t:=by
 intro Ow Im0 w0 a w hS;refine wp_block (wp_mono (h Ow Im0 w0 a w hS) ?_);rintro e a' w' ⟨rfl,hS'⟩;exact⟨rfl,hS'⟩
def rounds{P:Program}{c:Code}{s':St}{n:Nat}{s t:St}{e:Ex}(h1:CSpec P c s .nrm s')(h2:Z2v P c n s' e t):Z2v P c (n+1) s e t:=⟨s',h1,h2⟩
def ZgP(P:Program)(hints:List (Nat×List Hint))(cuts:List (Nat×Tg×Ex×Tg))(c:Code)(s:St)(t:Tg):Option Run :=
 match runC P hints cuts c s with
 | none=>X
 | some r=>match wk r.s t with
  | some l=>U ⟨r.e,r.s,r.ph,r.eq++l⟩
  | none=>X
def oblO:Option Run->Prop
 | some r=>allP r.ph
 | none=>False
def lefO:Option Run->List AV
 | some r=>r.eq.map (·.1)
 | none=>[]
def rigO:Option Run->List AV
 | some r=>r.eq.map (·.2)
 | none=>[]
def exO:Option Run->Option Ex
 | some r=>U r.e
 | none=>X
def Z8y{l:List (AV×AV)}(h:l.map (·.1)=l.map (·.2)):EqP l:=by
 induction l with
 | nil=>intro p hp;simp at hp
 | cons x l ih =>
  simp only[Lf,LG]at h;intro p hp;rcases N.1 hp with e | e
  .rw[e];exact h.1
  .exact ih h.2 p e
def Z1v{P:Program}(hints:List (Nat×List Hint))(cuts:List (Nat×Tg×Ex×Tg)){c:Code}{s:St}{e:Ex}{t:Tg}{φ:Prop}(hφ:φ)
  (h1:oblO (ZgP P hints cuts c s t)=φ) (h2:lefO (ZgP P hints cuts c s t)=rigO (ZgP P hints cuts c s t)) (h3:exO (ZgP P hints cuts c s t)=U e):CSpec P c s e t.st:=by
 rw[<- h1]at hφ;cases hr:ZgP P hints cuts c s t with
 | none=>rw[hr]at hφ;exact hφ.elim
 | some r =>
  rw[hr]at hφ h2 h3;have heq:EqP r.eq:=Z8y h2;have he:r.e=e:=by simpa[exO]using h3
  unfold ZgP at hr;split at hr
  .cases hr
  rename_i q hq;split at hr;rotate_left
  .cases hr
  rename_i l hl;cases hr;intro Ow Im0 w0 a w hS;refine wp_mono (Z9s hq hφ heq.left Ow Im0 w0 a w hS) ?_;rintro e' a' w' ⟨rfl,hS'⟩;exact⟨by rw[<- he],ZgZ hl heq.right hS'⟩
def Z1s(els:List (List DV)):Prop:=∀ e∈els,∀ x∈e,∃ v,x = .sc v
def idx(b:Nat):List Nat->Nat->Option Nat
 | [],_=>X
 | x::l,k=>if x=b then U k else idx b l (k+1)
def fin1(keep:List Nat)(H:Heap)(fr:Bool):AV->Option (AV×List Prop)
 | .d x=>match fr with
  | false=>U (.d x,[])
  | true=>match x with
   | .sc v=>U (.d (.sc v),[])
   | .sl s els=>match els with
    | []=>U (.d (.sl s []),[])
    | _=>X
 | .rp e o=>match fr with
  | false=>U (.rp e o,[])
  | true=>X
 | .ow b=>match idx b keep 0 with
  | some k=>U (.ow k,[])
  | none=>match H b with
   | some (.arr _ s els)=>U (.d (.sl s els),match fr with | Y=>[Z1s els] | Z=>[])
   | _=>X
 | .os b o n=>match idx b keep 0 with
  | some k=>U (.os k o n,[])
  | none=>match H b with
   | some (.arr _ s els)=>U (.d (.sl s ((els.drop o).take n)),match fr with | Y=>[Z1s els] | Z=>[])
   | _=>X
 | _=>X
def finL(f:AV->Option (AV×List Prop)):List AV->Option (List AV×List Prop)
 | []=>U ([],[])
 | a::l=>match f a,finL f l with
  | some (x,p),some (r,q)=>U (x::r,p++q)
  | _,_=>X
def finA(keep:List Nat)(H:Heap)(fr:Bool)(a:AV):Option (AV×List Prop):=match a with
 | .ag l=>match finL (fin1 keep H fr) l with | U (r,q)=>U (.ag r,q) | X=>X
 | .fn f l=>match finL (fin1 keep H fr) l with | U (r,q)=>U (.fn f r,q) | X=>X
 | .ic t (.ag l)=>match finL (fin1 keep H fr) l with | U (r,q)=>U (.ic t (.ag r),q) | X=>X
 | .ic t x=>match fin1 keep H fr x with | U (r,q)=>U (.ic t r,q) | X=>X
 | x=>fin1 keep H fr x
def finT(keep:List Nat)(H:Heap)(fr:Bool)(a:AV):Option (AV×List Prop):=match a with
 | .tu l=>match finL (finA keep H fr) l with | U (r,q)=>U (.tu r,q) | X=>X
 | x=>finA keep H fr x
def finN(keep:List Nat)(H:Heap)(fr:Bool):Option (List Blk×List Prop):=match keep with
 | []=>U ([],[])
 | b::r=>match H b,finN r H fr with
  | some (.arr ty s els),some (l,q)=>U (.arr ty s els::l,(match fr with | Y=>[Z1s els] | Z=>[])++q)
  | _,_=>X
def ZfS(P:Program)(tmps:List AV)(H:Heap):ResultVar->Option AV
 | .tmp t=>U (tmps.getD t .any)
 | .cell t ty=>match Z77 P ty [] (tmps.getD t .any) H with
  | some r=>match r.ph with
   | []=>U r.val
   | _=>X
  | none=>X
def Z8J(P:Program)(tmps:List AV)(H:Heap):List ResultVar->Option (List AV)
 | []=>U []
 | x::l=>match ZfS P tmps H x,Z8J P tmps H l with
  | some a,some r=>U (a::r)
  | _,_=>X
def resV:List AV->AV
 | [a]=>a
 | l=>.tu l
def coe1(x r:AV):AV×List Prop:=match x with
 | .d (.sl s els)=>match s with
  | 0=>match r with
   | .d (.sl s' _)=>(.d (.sl s' []),[els=[]])
   | _=>(.d (.sl 0 els),[])
  | s+1=>(.d (.sl (s+1) els),[])
 | x=>(x,[])
def coeL(f:AV->AV->AV×List Prop):List AV->List AV->List AV×List Prop
 | x::l,r::m=>((f x r).1::(coeL f l m).1,(f x r).2++(coeL f l m).2)
 | l,_=>(l,[])
def coeM(x r:AV):AV×List Prop:=match x with
 | .ag l=>match r with
  | .ag m=>(.ag (coeL coe1 l m).1,(coeL coe1 l m).2)
  | _=>(.ag l,[])
 | x=>coe1 x r
def coeT(x r:AV):AV×List Prop:=match x with
 | .tu l=>match r with
  | .tu m=>(.tu (coeL coeM l m).1,(coeL coeM l m).2)
  | _=>(.tu l,[])
 | x=>coeM x r
section
variable {ρ:Rho} {w:World} {Im:Nat->Prop}
theorem Zbx{x r:AV}{v:Value}(h:Rel ρ w Im x v)(hp:allP (coe1 x r).2):Rel ρ w Im (coe1 x r).1 v:=by
 unfold coe1 at hp ⊢;split at hp
 .rename_i s els;split at hp
  .split at hp
   .rename_i s' e';have he:els=[]:=hp;subst he;cases h with
    | d h =>
     cases h with
     | slNil _ a c=>exact .d (.slNil s' a c)
     | sl _ _ p n c f hn hc=>simp at hn;subst hn;exact .d (.slNil s' _ c)
   .exact h
  .exact h
 .exact h
theorem Z68{f:AV->AV->AV×List Prop}:∀ {l m:List AV},allP (coeL f l m).2->(coeL f l m).1.length=l.length/\∀ (i:Nat) (y:AV),(coeL f l m).1[i]? = U y->∃ x,l[i]? = U x/\(y=x\/∃ r,y=(f x r).1/\allP (f x r).2)
 | [],_,_=>by simp[coeL]
 | x::l,[],_=>⟨rfl,λi y h=>⟨y,h,.inl rfl⟩⟩
 | x::l,r::m,h=>by
  obtain⟨h1,h2⟩:=allP_append.1 h;obtain⟨k1,k2⟩:=Z68 h2;refine⟨by simp[coeL,k1],λi y hy=>?_⟩;cases i with
  | zero =>
   simp only[coeL,List.getElem?_cons_zero,Lj]at hy;exact⟨x,rfl,.inr ⟨r,hy.symm,h1⟩⟩
  | succ i =>
   obtain⟨z,h3,h4⟩:=k2 i y (by simpa[coeL]using hy);exact⟨z,by simpa using h3,h4⟩
theorem Zgg{x r:AV}{v:Value}(h:Rel ρ w Im x v)(hp:allP (coeM x r).2):Rel ρ w Im (coeM x r).1 v:=by
 unfold coeM at hp ⊢;split at hp
 .split at hp
  .obtain⟨cs,rfl,k1,k2,k3⟩:=Z3a h;obtain⟨n1,n2⟩:=Z68 hp;refine .ag _ cs (by rw[n1];exact k1) k2 λi a u ha hu=>?_;obtain⟨x,h1,h2⟩:=n2 i a ha;rcases h2 with rfl | ⟨r,rfl,h3⟩
   .exact k3 i _ u h1 hu
   .exact Zbx (k3 i x u h1 hu) h3
  .exact h
 .exact Zbx h hp
theorem Zg9{x r:AV}{v:Value}(h:Rel ρ w Im x v)(hp:allP (coeT x r).2):Rel ρ w Im (coeT x r).1 v:=by
 unfold coeT at hp ⊢;split at hp
 .split at hp
  .cases h with
   | tu _ cs k1 k3 =>
    obtain⟨n1,n2⟩:=Z68 hp;refine .tu _ cs (by rw[n1];exact k1) λi a u ha hu=>?_;obtain⟨x,h1,h2⟩:=n2 i a ha;rcases h2 with rfl | ⟨r,rfl,h3⟩
    .exact k3 i _ u h1 hu
    .exact Zgg (k3 i x u h1 hu) h3
  .exact h
 .exact Zgg h hp
end
def runF(P:Program)(hints:List (Nat×List Hint))(cuts:List (Nat×Tg×Ex×Tg))(keep:List Nat)(fn:Func)(args:List AV)(fr:Bool)(res:AV)(news:List Blk):Option Run :=
 match fn.body with
 | none=>X
 | some c=>match args.all Z86 with
  | false=>X
  | true=>match runC P hints cuts c ⟨args++Xj (fn.ntmps-args.length) .any,λ_=>X,1⟩with
   | none=>X
   | some r=>match r.e with
    | .ext _=>X
    | _=>match Z8J P r.s.tmps r.s.H fn.results.toList with
     | none=>X
     | some l=>match finT keep r.s.H fr (resV l),finN keep r.s.H fr with
      | some (x,p),some (ns,q)=>if news.length=ns.length then U ⟨r.e,r.s,r.ph++(p++(coeT x res).2)++q,r.eq++[((coeT x res).1,res)]++(ns.map encB).zip (news.map encB)⟩else X
      | _,_=>X
def ZaH(tmps:Array Value):ResultVar->Sem Value
 | .tmp t=>pure (tmps.getD t undef)
 | .cell a t=>do loadVar t (<- asAddr (tmps.getD a undef))
def Za0(fn:Func)(tmps:Array Value):results fn tmps=(do
  let vs <- fn.results.mapM (ZaH tmps)
  pure (if h:vs.size=1 then vs[0]else .tuple vs)):=by
 unfold results;congr 1
section
variable {Ow:Own} {Im0:Nat->Prop} {w0:World} {ρ:Rho} {w:World} {Im:Nat->Prop} {H:Heap} {clk:Nat}
theorem ZjM{P:Program}{tmps:List AV}{a:Act}(I:Inv Ow Im0 w0 ρ w Im H clk)(T:RelT Ow.ds ρ w Im tmps a){r:ResultVar}{x:AV}(h:ZfS P tmps H r=U x) :
  ∃ v,(ZaH a.tmps r).run P w = .ok v w/\Rel ρ w Im x v:=by
 have hev:∀ t,Rel ρ w Im (tmps.getD t .any) (a.tmps.getD t undef):=λt=>Z1p T (.tmp t);cases r with
 | tmp t =>
  simp only[ZfS,Lj]at h;subst h;exact⟨_,rfl,hev t⟩
 | cell c t =>
  simp only[ZfS]at h;split at h;rotate_left
  .cases h
  rename_i r hr;split at h;rotate_left
  .cases h
  rename_i hp;cases h;obtain⟨p,v,h1,h2,h3,_⟩:=Zfy I (hev c) hr (by rw[hp];trivial);exact⟨v,by simp only[ZaH,h1,asAddr,LN,LO,LB,h2],h3⟩
theorem Zdz{P:Program}{tmps:List AV}{a:Act}(I:Inv Ow Im0 w0 ρ w Im H clk)(T:RelT Ow.ds ρ w Im tmps a):∀ {rs:List ResultVar} {l:List AV},Z8J P tmps H rs=U l ->
  ∃ vs:List Value,(rs.mapM (ZaH a.tmps)).run P w = .ok vs w/\vs.length=l.length/\∀ (i:Nat) (x:AV) (v:Value),l[i]? = U x->vs[i]? = U v->Rel ρ w Im x v
 | [],l,h=>by simp[Z8J]at h;subst h;exact⟨[],rfl,rfl,by simp⟩
 | r::rs,l,h=>by
  simp only[Z8J]at h;split at h;rotate_left
  .cases h
  rename_i x m hx hm;cases h;obtain⟨v,h1,h2⟩:=ZjM I T hx;obtain⟨vs,h3,h4,h5⟩:=Zdz I T hm;refine⟨v::vs, ?_,by simp[h4],λi y u hy hu=>?_⟩
  .rw[List.mapM_cons];simp only[LN,h1,h3,LB,LO]
  .cases i with
   | zero=>simp at hy hu;subst hy;subst hu;exact h2
   | succ i=>exact h5 i y u (by simpa using hy) (by simpa using hu)
theorem Z78{P:Program}{fn:Func}{tmps:List AV}{a:Act}(I:Inv Ow Im0 w0 ρ w Im H clk)(T:RelT Ow.ds ρ w Im tmps a){l:List AV}(h:Z8J P tmps H fn.results.toList=U l) :
  ∃ v,(results fn a.tmps).run P w = .ok v w/\Rel ρ w Im (resV l) v:=by
 obtain⟨vs,h1,h2,h3⟩:=Zdz I T h;have hm:(fn.results.mapM (ZaH a.tmps)).run P w = .ok vs.toArray w:=by
  have e:fn.results=fn.results.toList.toArray:=by simp
  rw[e,List.mapM_toArray];simp only[Sem.run_map,h1,LB]
 refine⟨if h:vs.toArray.size=1 then vs.toArray[0]else .tuple vs.toArray, ?_, ?_⟩
 .rw[Za0];simp only[LN,hm,LB,LO]
 .by_cases hl:vs.length=1
  .obtain⟨v,rfl⟩:∃ v,vs=[v]:=Xe.1 hl;obtain⟨x,rfl⟩:∃ x,l=[x]:=Xe.1 oq;simpa[resV]using h3 0 x v rfl rfl
  .rw[dif_neg (by simpa using hl)];have:resV l = .tu l:=by
    unfold resV;split
    .rename_i a;simp at h2;omega
    .rfl
   rw[this];exact .tu l _ (by simpa using h2) λi x v hx hv=>h3 i x v hx (by simpa using hv)
end
def ZaK{b:Nat}:∀ {l:List Nat} {k n:Nat},idx b l k=U n->k<=n/\l[n-k]? = U b
 | [],k,n,h=>by simp[idx]at h
 | x::l,k,n,h=>by
  simp only[idx]at h;split at h
  .rename_i e;cases h;simp[e]
  .obtain⟨h1,h2⟩:=ZaK h;refine⟨by omega, ?_⟩;rw[show n-k=(n-(k+1))+1 from by omega];simpa using h2
def ZaS{b:Nat}:∀ {l:List Nat} {k:Nat},idx b l k=X->b∉l
 | [],_,_=>by simp
 | x::l,k,h=>by
  simp only[idx]at h;split at h
  .cases h
  .rename_i e;have:=ZaS h;simp only[N,not_or];exact⟨λh=>e h.symm,this⟩
def ZbN{w w':World}{Im Im':Nat->Prop}{els:List (List DV)}(hf:Z1s els){e:List DV}{x:DV}{v:Value}(he:e∈els)(hx:x∈e)(h:RelD w Im x v):RelD w' Im' x v:=by
 obtain⟨u,rfl⟩:=hf e he x hx;cases h with
 | sc _ h=>exact .sc _ h
def Z5a{f:AV->Option (AV×List Prop)}:∀ {l r:List AV} {q:List Prop},finL f l=U (r,q)->allP q->r.length=l.length/\∀ (i:Nat) (y:AV),r[i]? = U y->∃ x p,l[i]? = U x/\f x=U (y,p)/\allP p
 | [],r,q,h,_=>by simp[finL]at h;obtain⟨rfl,rfl⟩:=h;simp
 | a::l,r,q,h,hq=>by
  simp only[finL]at h;split at h;rotate_left
  .cases h
  rename_i x p m q' hx hm;cases h;obtain⟨p1,p2⟩:=allP_append.1 hq;obtain⟨h1,h2⟩:=Z5a hm p2;refine⟨by simp[h1],λi y hy=>?_⟩;cases i with
  | zero=>simp at hy;subst hy;exact⟨a,p,rfl,hx,p1⟩
  | succ i=>exact h2 i y (by simpa using hy)
section
variable {Im0:Nat->Prop} {w0:World} {ρ:Rho} {w:World} {Im:Nat->Prop} {H:Heap} {clk:Nat} {keep:List Nat} {fr:Bool}
def rhoK(ρ:Rho)(keep:List Nat):Rho:=λk=>match keep[k]? with | U b=>ρ b | X=>X
def ImK(fr:Bool)(Im:Nat->Prop)(ρ:Rho)(H:Heap)(keep:List Nat):Nat->Prop:=λg=>(fr=Z/\Im g)\/∃ b β,b∉keep/\live H b/\ρ b=U β/\β.g=U g
theorem Z5L{x:AV}{v:Value}{s:Nat}{els els0:List (List DV)}{b:Nat}(I:Inv Z3E Im0 w0 ρ w Im H clk)(hx:Rel ρ w Im x v)(h:Z1f H x=U (s,els))(hb:b∉keep)(hlive:live H b)
  (hsub:∀ e∈els,e∈els0) (hf:fr=Y->Z1s els0) (hblk:∀ a n c,v = .slice (U a) n c->n≠0->∃ β,ρ b=U β/\β.g=U a.block):RelD w (ImK fr Im ρ H keep) (.sl s els) v:=by
 obtain⟨p,c,rfl,hbg,hc,hl,hcell⟩:=Z1Q I hx h;by_cases he:els=[]
 .subst he;exact .slNil _ _ _
 rcases hcell with hcell | ⟨q,rfl,hq,hcell⟩
 .exact absurd hcell he
 have hn:els.length≠0:=by simpa using he
 obtain⟨β,hβ,hg⟩:=hblk q _ c rfl hn;refine .sl s els q els.length c (λi o=>(w.cell? ⟨q.block,q.off+(i*s+o),X⟩).getD undef) rfl hc hbg (hl he) hq (.inr ⟨b,β,hb,hlive,hβ,hg⟩) ?_ ?_
 .intro i e o y hi ho;obtain⟨u,k1,_⟩:=hcell i e o y hi ho;rw[k1];rfl
 .intro i e o y hi ho;obtain⟨u,k1,k2⟩:=hcell i e o y hi ho;rw[k1];cases fr with
  | true=>exact ZbN (hf rfl) (hsub e (W hi)) (W ho) k2
  | false=>exact k2.mono (Ext.refl _ _) (λg hg=>.inl ⟨rfl,hg⟩)
theorem Z90(I:Inv Z3E Im0 w0 ρ w Im H clk){x y:AV}{v:Value}{p:List Prop}(hx:Rel ρ w Im x v)(h:fin1 keep H fr x=U (y,p))(hp:allP p):Rel (rhoK ρ keep) w (ImK fr Im ρ H keep) y v:=by
 unfold fin1 at h;split at h
 .split at h
  .cases h;cases hx with
   | d hx=>exact .d (hx.mono (Ext.refl _ _) (λg hg=>.inl ⟨rfl,hg⟩))
  .split at h
   .cases h;cases hx with
    | d hx=>cases hx with | sc _ h=>exact .d (.sc _ h)
   .split at h
    .cases h;cases hx with
     | d hx =>
      cases hx with
      | slNil=>exact .d (.slNil _ _ _)
      | sl _ _ _ _ _ _ hn=>simp at hn;subst hn;exact .d (.slNil _ _ _)
    .cases h
 .split at h
  .cases h;cases hx with
   | rp h1 h2 h3=>exact .rp h1 (.inl ⟨rfl,h2⟩) (λj x hx=>let ⟨v,k1,k2⟩:=h3 j x hx;⟨v,k1,k2.mono (Ext.refl _ _) (λg hg=>.inl ⟨rfl,hg⟩)⟩)
  .cases h
 .rename_i b;split at h
  .rename_i k hk;cases h;obtain⟨_,hk2⟩:=ZaK hk;cases hx with
   | ow h1 h2 h3 h4=>exact .ow (by simp only[rhoK];rw[show keep[k]? = U b from by simpa using hk2];exact h1) h2 h3 h4
  .rename_i hk;have hnk:=ZaS hk;split at h;rotate_left
   .cases h
   rename_i ty s els hb;cases h;refine .d (Z5L (b:=b) (els0:=els) I hx (by simp[Z1f,hb]) hnk ⟨_,hb,by simp⟩ (λe he=>he) (λhfr=>by subst hfr;simpa[allP]using hp) λa n c hv hn=>?_);subst hv;generalize hvv:Value.slice (U a) n c=vv at hx;cases hx with
   | ow h1 h2 h3 h4 =>
    injection hvv with e1 e2 e3;rcases h4 with h4 | ⟨g,hg,e,_⟩
    .omega
    .rw[<- e1]at e;cases e;exact⟨_,h1,hg⟩
 .rename_i b oo m;split at h
  .rename_i k hk;cases h;obtain⟨_,hk2⟩:=ZaK hk;cases hx with
   | os h1 h2 h3 h4 h5=>exact .os (by simp only[rhoK];rw[show keep[k]? = U b from by simpa using hk2];exact h1) h2 h3 h4 h5
  .rename_i hk;have hnk:=ZaS hk;split at h;rotate_left
   .cases h
   rename_i ty s els hb;cases h;refine .d (Z5L (b:=b) (els0:=els) I hx (by simp[Z1f,hb]) hnk ⟨_,hb,by simp⟩ (λe he=>List.mem_of_mem_drop (List.mem_of_mem_take he)) (λhfr=>by subst hfr;simpa[allP]using hp) λa n c hv hn=>?_);subst hv;generalize hvv:Value.slice (U a) n c=vv at hx;cases hx with
   | os h1 h2 h3 h4 h5 =>
    injection hvv with e1 e2 e3;rcases h5 with h5 | ⟨g,hg,e,_⟩
    .omega
    .rw[<- e1]at e;cases e;exact⟨_,h1,hg⟩
 .cases h
theorem Zjj(I:Inv Z3E Im0 w0 ρ w Im H clk){x y:AV}{v:Value}{p:List Prop}(hx:Rel ρ w Im x v)(h:finA keep H fr x=U (y,p))(hp:allP p):Rel (rhoK ρ keep) w (ImK fr Im ρ H keep) y v:=by
 unfold finA at h;split at h
 .split at h;rotate_left
  .cases h
  rename_i r q hr;cases h;obtain⟨h1,h2⟩:=Z5a hr hp;obtain⟨cs,rfl,k1,k2,k3⟩:=Z3a hx;refine .ag _ cs oq k2 λi a u ha hu=>?_;obtain⟨z,p',m1,m2,m3⟩:=h2 i a ha;exact Z90 I (k3 i z u m1 hu) m2 m3
 .split at h;rotate_left
  .cases h
  rename_i r q hr;cases h;obtain⟨h1,h2⟩:=Z5a hr hp;cases hx with
  | fn k1 k3 =>
   refine .fn oq λi a u ha hu=>?_;obtain⟨z,p',m1,m2,m3⟩:=h2 i a ha;exact Z90 I (k3 i z u m1 hu) m2 m3
 .split at h;rotate_left
  .cases h
  rename_i r q hr;cases h;obtain⟨h1,h2⟩:=Z5a hr hp;cases hx with
  | ic hx =>
   obtain⟨cs,rfl,k1,k2,k3⟩:=Z3a hx;refine .ic (.ag _ cs oq k2 λi a u ha hu=>?_);obtain⟨z,p',m1,m2,m3⟩:=h2 i a ha;exact Z90 I (k3 i z u m1 hu) m2 m3
 .split at h;rotate_left
  .cases h
  rename_i r q hr;cases h;cases hx with
  | ic hx=>exact .ic (Z90 I hx hr hp)
 .exact Z90 I hx h hp
theorem Zox(I:Inv Z3E Im0 w0 ρ w Im H clk){x y:AV}{v:Value}{p:List Prop}(hx:Rel ρ w Im x v)(h:finT keep H fr x=U (y,p))(hp:allP p):Rel (rhoK ρ keep) w (ImK fr Im ρ H keep) y v:=by
 unfold finT at h;split at h
 .split at h;rotate_left
  .cases h
  rename_i r q hr;cases h;obtain⟨h1,h2⟩:=Z5a hr hp;cases hx with
  | tu _ cs k1 k3 =>
   refine .tu _ cs oq λi a u ha hu=>?_;obtain⟨z,p',m1,m2,m3⟩:=h2 i a ha;exact Zjj I (k3 i z u m1 hu) m2 m3
 .exact Zjj I hx h hp
theorem Zcn{H:Heap}:∀ {keep:List Nat} {l:List Blk} {q:List Prop},finN keep H fr=U (l,q)->allP q->l.length=keep.length/\∀ (k:Nat) (B:Blk),l[k]? = U B->∃ b ty s els,keep[k]? = U b/\H b=U (.arr ty s els)/\B = .arr ty s els/\(fr=Y->Z1s els)
 | [],l,q,h,_=>by simp[finN]at h;obtain⟨rfl,rfl⟩:=h;simp
 | b::keep,l,q,h,hq=>by
  simp only[finN]at h;split at h;rotate_left
  .cases h
  rename_i ty s els m q' hb hm;cases h;obtain⟨p1,p2⟩:=allP_append.1 hq;obtain⟨h1,h2⟩:=Zcn hm p2;refine⟨by simp[h1],λk B hB=>?_⟩;cases k with
  | zero=>simp at hB;subst hB;exact⟨b,ty,s,els,rfl,hb,rfl,λh=>by subst h;simpa[allP]using p1⟩
  | succ k=>exact h2 k B (by simpa using hB)
end
def Zom(b:Nat):∀ {l:List Nat} {i j:Nat},l.Nodup->l[i]? = U b->l[j]? = U b->i=j
 | [],i,j,_,hi,_=>by simp at hi
 | x::l,i,j,hn,hi,hj=>by
  obtain⟨h1,h2⟩:=Lz.1 hn;cases i with
  | zero =>
   cases j with
   | zero=>rfl
   | succ j =>
    simp at hi hj;subst hi;exact absurd (W hj) h1
  | succ i =>
   cases j with
   | zero =>
    simp at hi hj;subst hj;exact absurd (W hi) h1
   | succ j =>
    have:=Zom b h2 (by simpa using hi) (by simpa using hj);omega
def Z0j{P:Program}{f:Nat}{fn:Func}{args:List AV}{fr:Bool}{res:AV}{news:List Blk}(hints:List (Nat×List Hint))(cuts:List (Nat×Tg×Ex×Tg))(keep:List Nat)(hkeep:keep.Nodup)
  (hf:P.funcs[f]? = U fn) {φ:Prop} (hφ:φ) (h1:oblO (runF P hints cuts keep fn args fr res news)=φ) (h2:lefO (runF P hints cuts keep fn args fr res news)=rigO (runF P hints cuts keep fn args fr res news)):GSpec P f args fr res news:=by
 rw[<- h1]at hφ;cases hr:runF P hints cuts keep fn args fr res news with
 | none=>rw[hr]at hφ;exact hφ.elim
 | some r =>
  rw[hr]at hφ h2;have heq:EqP r.eq:=Z8y h2;have hph:allP r.ph:=hφ;clear h1 h2 hφ;unfold runF at hr;split at hr
  .cases hr
  rename_i c hb;split at hr
  .cases hr
  rename_i hpure;split at hr
  .cases hr
  rename_i q hq;split at hr
  .cases hr
  rename_i hne;split at hr
  .cases hr
  rename_i l hl;split at hr;rotate_left
  .cases hr
  rename_i x p ns qq hx hns;split at hr;rotate_left
  .cases hr
  rename_i hlen;cases hr;obtain⟨hph',hph3⟩:=allP_append.1 hph;obtain⟨hph1,hph2⟩:=allP_append.1 hph';have heq1:=heq.left.left;have hxe:(coeT x res).1=res:=heq.left.right ((coeT x res).1,res) pq;obtain⟨hph2,hph2'⟩:=allP_append.1 hph2;have hnse:ns=news:=by
   apply List.ext_getElem?;intro i;by_cases hi:i<ns.length
   .have hi':i<news.length:=by omega
    have:(encB ns[i],encB news[i])∈(ns.map encB).zip (news.map encB):=by
     refine Xh.2 ⟨i, ?_⟩;simp[Xc,hi,hi']
    have:=ZbP (heq.right _ this);rw[Le hi,Le hi',this]
   .rw[Lx oq,Lx oq]
  subst hnse;intro w Im vs hIm hsz hargs;refine calls_of_wp hf hb ?_;have hS:Sys Z3E Im w (args++Xj (fn.ntmps-args.length) .any) (λ_=>X) 1 { tmps:=vs++LU (fn.ntmps-vs.size) undef,defers:=[] } w:=by
   refine⟨λ_=>X,Im,⟨Kept.refl _ _,(λb b' β β' g _ _ h=>nomatch h),(λb β g _ h=>nomatch h),(λb β g h=>nomatch h),(λb β g h=>nomatch h),hIm,(λg h=>.inl h),(λb B h=>nomatch h),λ_ _ _=>rfl,Lu 1,λb β _ h=>nomatch h⟩,⟨by simp[hsz],λi y v hy hv=>?_,rfl⟩⟩;rw[Ls]at hy;simp only[LC]at hv;rw[hsz]at hv;split at hy
   .rename_i hi;rw[if_pos hi]at hv;exact hargs i y v hy hv
   .have:=W hy;rw[(List.mem_replicate.1 this).2];exact .any _
  refine wp_mono (Z9s hq hph1 heq1 _ _ _ _ _ hS) ?_;rintro e a' w' ⟨rfl,hS'⟩;have post:a'.defers=[]/\∃ v,(results fn a'.tmps).run P w' = .ok v w'/\∃ u,Ending.returned v = .returned u/\Zeh w Im fr res ns u w':=by
   obtain⟨ρ,Im',I,T⟩:=hS';obtain⟨v,h1,h2⟩:=Z78 I T hl;refine⟨T.defers,v,h1,v,rfl, ?_⟩;have hxr:=Zg9 (r:=res) (Zox I h2 hx hph2) hph2';rw[hxe]at hxr;obtain⟨n1,n2⟩:=Zcn hns hph3;have hK:∀ (k b:Nat),keep[k]? = U b->∃ B:Blk,ns[k]? = U B:=by
    intro k b hk;have hk':=(Ln.1 hk).1;exact⟨ns[k],Le oq⟩
   refine⟨⟨I.kept.os,I.kept.tape,I.kept.output,I.kept.size,λk hk _=>I.kept.block k hk (λh=>h.no),I.kept.rows⟩,rhoK ρ keep,ImK fr Im' ρ q.s.H keep, ?_, ?_, ?_, ?_, ?_, ?_,hxr⟩
   .rintro g (⟨h1,h2⟩ | ⟨b,β,_,_,hb,hg⟩)
    .rcases I.im0 g h2 with h | h | h
     .exact .inl ⟨h1,h⟩
     .exact .inr h
     .exact h.no.elim
    .rcases I.own b β g hb hg with⟨h,_⟩ | h
     .exact .inr h
     .exact h.no.elim
   .rintro g (⟨h1,h2⟩ | ⟨b,β,_,_,hb,hg⟩)
    .exact I.imb g h2
    .exact I.bnd b β g hb hg
   .intro k β g hk hg;simp only[rhoK]at hk;split at hk;rotate_left
    .cases hk
    rename_i b hkb;refine⟨?_,I.bnd b β g hk hg, ?_⟩
    .rcases I.own b β g hk hg with⟨h,_⟩ | h
     .exact h
     .exact h.no.elim
    .obtain⟨B,hB⟩:=hK k b hkb;obtain⟨b',ty,s,els,m1,m2,m3,m4⟩:=n2 k B hB;rw[hkb]at m1;cases m1;rintro(⟨_,h⟩ | ⟨b2,β2,h2,hl2,hb2,hg2⟩)
     .exact I.notIm b β g ⟨_,m2,by simp⟩ hk hg h
     .have:=I.inj b b2 β β2 g ⟨_,m2,by simp⟩ hl2 hk hb2 hg hg2;subst this;exact h2 (W hkb)
   .intro k k' β β' g hk hk' hg hg';simp only[rhoK]at hk hk';split at hk;rotate_left
    .cases hk
    rename_i b hkb;split at hk';rotate_left
    .cases hk'
    rename_i b' hkb';obtain⟨B,hB⟩:=hK k b hkb;obtain⟨_,ty,s,els,m1,m2,_,_⟩:=n2 k B hB;rw[hkb]at m1;cases m1;obtain⟨B',hB'⟩:=hK k' b' hkb';obtain⟨_,ty',s',els',m1',m2',_,_⟩:=n2 k' B' hB';rw[hkb']at m1';cases m1';have:=I.inj b b' β β' g ⟨_,m2,by simp⟩ ⟨_,m2',by simp⟩ hk hk' hg hg';subst this;exact Zom b hkeep hkb hkb'
   .intro k β hk;simp only[rhoK]at hk;split at hk;rotate_left
    .cases hk
    rename_i b hkb;rw[n1];exact(Ln.1 hkb).1
   .intro k B hB;obtain⟨b,ty,s,els,m1,m2,rfl,m4⟩:=n2 k B hB;obtain⟨β,h1,h2⟩:=I.blk b _ m2;refine⟨β,by simp only[rhoK];rw[m1];exact h1, ?_⟩;obtain⟨k0,k1,k2,k3,k4⟩:=h2;refine⟨k0,k1,k2,k3,k4.imp (λh=>h) λ⟨g,cs,j1,j2,j3,j4⟩=>⟨g,cs,j1,j2,j3,λi e o y hi ho=>?_⟩⟩;obtain⟨u,j5,j6⟩:=j4 i e o y hi ho;refine⟨u,j5, ?_⟩;cases fr with
    | true=>exact ZbN (m4 rfl) (W hi) (W ho) j6
    | false=>exact j6.mono (Ext.refl _ _) (λg hg=>.inl ⟨rfl,hg⟩)
  cases hqe:q.e with
  | nrm=>exact post
  | ret=>exact post
  | ext n=>exact absurd hqe (hne n)
def Zec(n:Nat):Code->Option Code
 | .block m c=>match Ll m n with
  | true=>U (.block m c)
  | false=>Zec n c
 | .seq a b=>match Zec n a with
  | some c=>U c
  | none=>Zec n b
 | .cond _ a b=>match Zec n a with
  | some c=>U c
  | none=>Zec n b
 | .loop c=>Zec n c
 | _=>X
def blkF(fn:Func)(n:Nat):Code:=match fn.body with
 | some c=>match Zec n c with
  | some b=>b
  | none=>.skip
 | none=>.skip
def rndF(fn:Func)(n:Nat):Code:=match blkF fn n with
 | .block _ (.loop c)=>c
 | _=>.skip
def Z63(n:Nat):Code->Bool
 | .block m (.loop _)=>Ll m n
 | _=>Z
def Z6q{fn:Func}{n:Nat}(h:Z63 n (blkF fn n)=Y):blkF fn n = .block n (.loop (rndF fn n)):=by
 unfold rndF;generalize blkF fn n=c at h ⊢;unfold Z63 at h;split at h
 .rw[LK h]
 .cases h
def ZbH{P:Program}{fn:Func}{n k:Nat}{s t:St}(h:Z63 n (blkF fn n)=Y)(hr:Z2v P (rndF fn n) k s (.ext n) t):CSpec P (blkF fn n) s .nrm t:=by
 rw[Z6q h];exact Zjf (Ze9 hr)
def Zbq{P:Program}{fn:Func}{n k:Nat}{s t:St}(h:Z63 n (blkF fn n)=Y)(hr:Z2v P (rndF fn n) k s .ret t):CSpec P (blkF fn n) s .ret t:=by
 rw[Z6q h];exact ZiS (Ze9 hr)
def Zey{P:Program}{c:Code}{S:Nat->St}{e:Ex}{t:St}(n:Nat)(h:∀ i,i<n->CSpec P c (S i) .nrm (S (i+1)))(hl:e≠.nrm)(hn:CSpec P c (S n) e t):Z2v P c n (S 0) e t:=by
 have:∀ m i,i+m=n->Z2v P c m (S i) e t:=by
  intro m;induction m with
  | zero=>intro i hi;rw[LA]at hi;subst hi;exact⟨hl,hn⟩
  | succ m ih=>intro i hi;exact⟨S (i+1),h i oq,ih (i+1) oq⟩
 exact this n 0 oq
def Z08{P:Program}{fn:Func}{b:Nat}{S:Nat->St}{t:St}(n:Nat)(hb:Z63 b (blkF fn b)=Y)(h:∀ i,i<n->CSpec P (rndF fn b) (S i) .nrm (S (i+1)))(hn:CSpec P (rndF fn b) (S n) (.ext b) t):CSpec P (blkF fn b) (S 0) .nrm t :=
 ZbH hb (Zey n h (λh=>nomatch h) hn)
def Z0v{P:Program}{fn:Func}{b:Nat}{S:Nat->St}{t:St}(n:Nat)(hb:Z63 b (blkF fn b)=Y)(h:∀ i,i<n->CSpec P (rndF fn b) (S i) .nrm (S (i+1)))(hn:CSpec P (rndF fn b) (S n) .ret t):CSpec P (blkF fn b) (S 0) .ret t :=
 Zbq hb (Zey n h (λh=>nomatch h) hn)
def int(n:Int):AV:=.d (.sc (.int .i64 n))
def u64(n:Int):AV:=.d (.sc (.int .u64 n))
def bool(b:Bool):AV:=.d (.sc (.bool b))
def dint(n:Int):DV:=.sc (.int .i64 n)
def du64(n:Int):DV:=.sc (.int .u64 n)
def wdv(x:Int):List DV:=[du64 x]
def idv(x:Int):List DV:=[dint x]
def Zpa(k:Nat):List (Nat×AV)->AV
 | []=>.any
 | (j,a)::r=>match Ll j k with
  | true=>a
  | false=>Zpa k r
def tmGo(l:List (Nat×AV)):Nat->Nat->List AV
 | 0,_=>[]
 | n+1,k=>Zpa k l::tmGo l n (k+1)
def tm(n:Nat)(l:List (Nat×AV)):List AV:=tmGo l n 0
end Go.Sx
