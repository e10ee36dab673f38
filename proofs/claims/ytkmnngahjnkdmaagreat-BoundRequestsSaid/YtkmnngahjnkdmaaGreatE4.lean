/-
 The statement BoundRequests: part 4.
 Conditions: none.
-/
import Derived.Deep.Slices
import Derived.KernelRfl
import Derived.ProofKit
import Derived.SizedLaws
import Derived.Test.YtkmnngahjnkdmaaGreatE3
set_option maxRecDepth 100000
set_option maxHeartbeats 2000000
set_option linter.all false
open Option renaming some->U,none->Y,map_eq_some_iff->Lj
open Bool renaming true->X,false->N,and_eq_true->O
open Nat renaming beq->Z,ne_of_beq_eq_false->M,eq_of_beq_eq_true->La,blt->Lc
open Go.DataW renaming weightsEach->L,TrodAll->Le,trod->Lf,weights->Ll,weightsAll->Lm
open List renaming mem_append->Lb,all_eq_true->Lg,getElem?_eq_some_iff->Lh,getElem?_map->Li,all_append->Ln,all_cons->Lo,getElem?_eq_getElem->Lp
open Go.Value renaming cells->Ld,okWide->Lq
open Go.World renaming cells?_some->Lk
namespace Go.Sx
open Go.ChangeShapes Go.WideShapes Go.ChangeAt Go.RowKit
def Z32(f:Nat->List DV->Prop):List Field->List DV->Prop|[],l=>l=[]|fd::fs,l=>∃a b,l=a++b/\f fd.type a/\Z32 f fs b
def E4(P:Program):Nat->Nat->List DV->Prop|0,_,_=>False|n+1,t,l=>match P.underlying t with|some (.int k)=>∃x:Int,l=[.sc (.int k x)]/\(Lit.int k x).wf=X|some .bool=>∃b:Bool,l=[.sc (.bool b)]|some (.slice e)=>∃els:List (List DV),l=[.sl (P.cellsOf e) els]/\els.length<=140737488355328/\∀x∈els,E4 P n e x|some (.struct fs)=>Z32 (E4 P n) fs.toList l|_=>False
def Oh(c:Nat->Nat):List Field->Nat->Nat->Bool|[],off,tot=>Z off tot|f::fs,off,tot=>Z f.offset off&&Oh c fs (off+c f.type) tot
def IA(P:Program):Nat->Nat->Bool|0,_=>N|n+1,t=>match P.underlying t with|some (.int _)=>X|some .bool=>X|some (.slice e)=>IA P n e&&(Lc 0 (P.cellsOf e)&&Lc 0 (P.bytesOf e))|some (.struct fs)=>Oh P.cellsOf fs.toList 0 (P.cellsOf t)&&fs.toList.all λf=>IA P n f.type|_=>N
def Hf(w:World)(Im:Nat->Prop)(l:List DV)(cs:List Value):Prop:=l.length=cs.length/\∀(i:Nat) (x:DV) (v:Value),l[i]?=U x->cs[i]?=U v->CM w Im x v
def Hf.append{w Im a b x y}(h:Hf w Im a x)(k:Hf w Im b y):Hf w Im (a++b) (x++y):=by obtain⟨c,h2⟩:=h;obtain⟨k1,k2⟩:=k;refine⟨by simp[c,k1],λi d v hd hv=>?_⟩;grind
def Hf.one{w Im d v}(h:CM w Im d v):Hf w Im [d] [v]:=by refine⟨rfl,λi x u hx hu=>?_⟩;grind
section
variable{H:Type}{enc:TypeId×Value->H}{P:Program}{w:World}{r:Nat}{spare:Nat->Bool}{held:Bool}
theorem Z6H{e}:∀{b:List (DataW H)} {d:DataW H},d∈b->∀n∈d.weights P e,n∈Lm P e b
 |[],d,h,_,_=>by simp at h
 |a::b,d,h,n,hn=>by
  simp only[Lm,Lb];rcases List.mem_cons.1 h with rfl|h
  .exact .inl hn
  .exact .inr (Z6H h n hn)
theorem Z6m{n m}{cs:List Value}(e:∀(t:Nat) (cs:List Value) (x:DataW H×List MemPlace),IA P n t=X->Lf enc P w r spare held m t cs=U x->(∀k∈x.1.weights P t,k<=reachBytes)->∃l,E4 P n t l/\Hf w (λg=>g<w.heap.size) l cs) :∀(c:List Field) (off:Nat),Oh P.cellsOf c off cs.length=X->(∀f∈c,IA P n f.type=X) ->
  (∀f∈c,∃x,Lf enc P w r spare held m f.type ((cs.drop f.offset).take (P.cellsOf f.type))=U x/\∀k∈x.1.weights P f.type,k<=reachBytes) ->
  ∃l,Z32 (E4 P n) c l/\Hf w (λg=>g<w.heap.size) l (cs.drop off)
 |[],off,ht,_,_=>by
  have:off=cs.length:=La ht;exact⟨[],rfl,by grind[Hf]⟩
 |f::c,off,ht,hp,hx=>by
  simp only[Oh,O]at ht;obtain⟨i,j⟩:=ht;have o:f.offset=off:=La i;obtain⟨x,k1,p⟩:=hx f pq;obtain⟨a,q,h⟩:=e _ _ _ (hp f pq) k1 p;obtain⟨b,s,u⟩:=Z6m e c _ j (λg d=>hp g (by simp[d])) (λg d=>hx g (by simp[d]));refine⟨a++b,⟨a,b,rfl,q,s⟩, ?_⟩;rw[o]at h;have:=h.append u;grind[List.drop_drop,List.take_append_drop]
theorem read:∀(n m t:Nat) (cs:List Value) (x:DataW H×List MemPlace),IA P n t=X->Lf enc P w r spare held m t cs=U x->(∀k∈x.1.weights P t,k<=reachBytes)->∃l,E4 P n t l/\Hf w (λg=>g<w.heap.size) l cs
 |0,m,t,cs,x,hp,_,_=>by grind[IA]
 |n+1,m,t,cs,x,hp,h,hw=>by
  unfold IA at hp;unfold E4;split at hp
  .rename_i k v;obtain⟨y,rfl,_,b0⟩:=DataW.trod_int v h;exact⟨[.sc (.int k y)],⟨y,rfl,b0⟩,Hf.one (.sc _ rfl)⟩
  .rename_i v;obtain⟨b,rfl,_⟩:=DataW.trod_bool v h;exact⟨[.sc (.bool b)],⟨b,rfl⟩,Hf.one (.sc _ rfl)⟩
  .rename_i e v;simp only[O]at hp;obtain⟨a4,a5,b5⟩:=hp;have hc:0<P.cellsOf e:=by simp_all
   have hb:0<P.bytesOf e:=by simp_all
   rcases Deep.open_slice v h with⟨rfl,_⟩|⟨a,len,cap,mm,q,D,Pl,rfl,a7,a9,b2,b4,rfl,hx⟩
   .exact⟨[.sl (P.cellsOf e) []],⟨[],rfl,by simp,by simp⟩,Hf.one (.slNil _ _ _)⟩
   .have b3:len<=mm:=by grind
    simp only[Ll,v]at hw;have b1:len<=reachBytes:=by
     have:=hw _ (List.mem_cons_self);simp only[List.length_map,List.length_range]at this;have h1:len+(mm-len)<=(len+(mm-len))*P.bytesOf e:=Nat.le_mul_of_pos_right _ hb;omega
    have hr:=reachBytes_lt;have a0:∀i,i<len->∃p:List DV×List Value,w.cells? r (a.add (i*P.cellsOf e)) (P.cellsOf e)=U p.2/\E4 P n e p.1/\Hf w (λg=>g<w.heap.size) p.1 p.2:=by
     intro i hi;obtain⟨a1,h1,h2⟩:=hx i oq;obtain⟨l,h3,h4⟩:=read n q e a1 _ a4 h2 (λk hk=>hw k (by
      refine List.mem_cons_of_mem _ (Lb.2 (.inl (Z6H (d:=D i) ?_ k hk)));grind))
     exact⟨(l,a1),h1,h3,h4⟩
    obtain⟨F,hF⟩:=Deep.choose_lt a0;refine⟨[.sl (P.cellsOf e) ((List.range len).map λi=>(F i).1)],⟨_,rfl,by simp;omega,λx hx=>?_⟩,Hf.one ?_⟩
    .grind
    .by_cases h0:len=0
     .subst h0;exact .slNil _ _ _
     .obtain⟨k1,k2,k3⟩:=Lk (hF 0 oq).1;have c0:=k3 0 hc;have a6:a.spot=Y:=by grind[World.cell?_spot,Addr.add]
      have a2:a.block<w.heap.size:=by
       have:=World.cells?_block (hF 0 oq).1 hc;simpa[Addr.add]using this
      obtain⟨ab,ao,as⟩:=a;simp only at a6;subst a6;refine .sl _ _ _ _ _ (λi o=>(F i).2.getD o default) pq a9 (by grind[ZkN]) (λl z=>?_) rfl a2 (λi l o d z ho=>?_) (λi l o d z ho=>?_)
      .obtain⟨i,hi,rfl⟩:=List.mem_map.1 z;obtain⟨g1,_,g3⟩:=hF i (List.mem_range.1 hi);obtain⟨_,g4,_⟩:=Lk g1;rw[g3.1,g4]
      .simp only[Li,Lj]at z;obtain⟨j,hj,rfl⟩:=z;obtain⟨s,u⟩:=Lh.1 hj;simp at u s;subst u;obtain⟨g1,_,g3⟩:=hF i s;obtain⟨_,g4,g5⟩:=Lk g1;have a3:o<(F i).2.length:=by rw[<-g3.1];exact(Lh.1 ho).1
       grind[Addr.add_lit]
      .simp only[Li,Lj]at z;obtain⟨j,hj,rfl⟩:=z;obtain⟨s,u⟩:=Lh.1 hj;simp at u s;subst u;obtain⟨g1,_,g3⟩:=hF i s;have a3:o<(F i).2.length:=by rw[<-g3.1];exact(Lh.1 ho).1
       refine g3.2 o d _ ho ?_;grind
  .rename_i fs v;simp only[O,Lg]at hp;obtain⟨a4,a5⟩:=hp;obtain⟨xs,q,rfl,rfl,z,b6,hx⟩:=DataW.trod_struct v h;simp only[Ll,v]at hw;obtain⟨l,h1,h2⟩:=Z6m (cs:=cs) (λt cs x a b c=>read n q t cs x a b c) fs.toList 0 (by grind) a5 (λf hf=>by
    obtain⟨i,hi,rfl⟩:=List.getElem_of_mem hf;have a8:i<xs.length:=by grind
    refine⟨xs[i], ?_,λk hk=>hw k (DataW.weights_mem_each (j:=i) (t:=fs.toList[i].type) (d:=xs[i].1) ?_ ?_ k hk)⟩
    .rw[<-Lp a8];grind
    all_goals grind)
   grind
  .cases hp
end
def ZfG{P f j fr b}(h:GSpec P f j fr (bL b) []){W}{c:Array Value}(m:c.size=j.length)(a:∀(i:Nat) (x:AV) (v:Value),j[i]?=U x->c[i]?=U v->Zk (λ_=>Y) W (λg=>g<W.heap.size) x v) :Calls P f c W λe n=>e=.returned (.bool b)/\Below W.heap.size W n:=by
 refine(h W _ c (λg p=>p) m a).mono ?_;rintro e n ⟨v,rfl,K,ρ',o,_,_,_,_,_,_,l⟩;have r:v=.bool b:=by
  cases l with|d l=>cases l with|sc=>rfl
 subst r;exact⟨rfl,K.os,K.tape,K.output,K.size,λk q=>K.block k q (λh=>h)⟩
section
variable{H:Type}{enc:TypeId×Value->H}{P:Program}
theorem Z8i(hl:laidOutB P=X){W k:World}(l:Below W.heap.size W k):∀{f:List TypeId} {g:List Value} {e:List (DataW H)} {c:List MemPlace},(f.all λt=>P.readableRec t&&Lc t P.types.size)=X ->
  Le enc P W 0 (λ_=>X) X f g e c->(∀x∈c,x.block<W.heap.size)->Le enc P k 0 (λb=>decide (b<W.heap.size)) X f g e c
 |[],g,e,c,_,h,_=>by
  obtain⟨rfl,rfl,rfl⟩:=trodAll_nil h;rfl
 |t::f,g,e,c,hts,h,hlt=>by
  obtain⟨v,r,d,m,a,b,rfl,rfl,rfl,n,o⟩:=trodAll_cons h;simp only[Lo,O]at hts;obtain⟨⟨p,q2⟩,q⟩:=hts;have j:t<P.types.size:=by simp_all
  exact⟨a,b,Below.trod hl p j n l (λx i=>hlt x (Lb.2 (.inl i))),Z8i hl l q o (λx i=>hlt x (Lb.2 (.inr i))),rfl⟩
theorem Zcp{f:Func}{s:ChangeSpec}{tb:Nat}{W k}{args:Array Value}{e l a}(hl:laidOutB P=X)(j:(f.params.toList.all λt=>P.readableRec t&&Lc t P.types.size)=X)(g:f.resultTypes=#[tb])(i:P.underlying tb=U .bool)(d:s.vars=[])(o:DataW.Whole enc P f.params.toList s.vars N W args.toList e l a)(b:s.fn H (e++l)={results:=[.lit (.bool X)],args:=e})(m:Below W.heap.size W k) :
  s.post enc P f N X N N W args (.bool X) k:=by have c:=o;obtain⟨p,q,r,n,rfl,u,v⟩:=o;rw[d]at n;obtain⟨rfl,rfl⟩:=trodVars_none n;refine⟨e,[],p++[],[],p,[],c, ?_, ?_, ?_,m.frame _,λh=>nomatch h⟩;rw[b,g];refine⟨[],[],⟨1, ?_⟩,rfl,rfl⟩;simp[Lf,i,Ld];rw[b];exact Z8i hl m j r (λx w=>c.lt x (Lb.2 (.inl w)));rw[b,d];rfl
theorem Zm3{W c f e o spare}(h:Le enc P W 0 spare X c e f o)(s:((L P c f).all (· <= reachBytes))=X) :e.length=c.length/\∀(n i t:Nat) (v:Value),c[i]?=U t->e[i]?=U v->IA P n t=X->∃l,E4 P n t l/\Hf W (λg=>g<W.heap.size) l v.cells.toList:=by
 induction c generalizing e f o with
 |nil =>obtain⟨rfl,rfl,rfl⟩:=trodAll_nil h;grind
 |cons t c u =>
  obtain⟨v,w,d,p,a,b,rfl,rfl,rfl,q,r⟩:=trodAll_cons h;simp only[L,Ln,O,Lg,decide_eq_true_eq]at s;obtain⟨k1,k2⟩:=u r (by grind);refine⟨by simp[k1],λn i t' v' j k hp=>?_⟩;cases i with|zero =>simp at j k;subst j;subst k;obtain⟨m,hm⟩:=q;grind[read]|succ i=>grind
end
theorem ZfW{W Im}{x:DV}{v:Value}(h:Hf W Im [x] v.cells.toList)(a:∀cs,v≠.agg cs):Zk (λ_=>Y) W Im (.d x) v:=by
 have:v.cells=#[v]:=by cases v<;>first|rfl|exact absurd rfl (a _)
 rw[this]at h;exact .d (h.2 0 x v rfl rfl)
theorem Zcv{W Im l cs}(h:Hf W Im l (Value.agg cs).cells.toList):Zk (λ_=>Y) W Im (.ag (l.map .d)) (.agg cs):=by
 obtain⟨h1,b⟩:=h;refine .ag _ cs (by grind[Ld]) (λi v e=>?_) λi a v c e=>?_;have d:i<l.length:=by grind[Ld]
 exact(b i l[i] v (Lp d) (by grind[Ld])).one;simp only[Li,Lj]at c;obtain⟨x,f,rfl⟩:=c;exact .d (b i x v f (by grind[Ld]))
def Z7L(P:Program)(t:Nat):Bool:=match P.underlying t with|some (.struct _)=>X|_=>N
def avT(P:Program)(t:Nat)(l:List DV):AV:=match Z7L P t with|true=>.ag (l.map .d)|false=>match l with|[x]=>.d x|_=>.any
def RE(P:Program):List Nat->List (List DV)->List AV|t::ts,l::ls=>avT P t l::RE P ts ls|_,_=>[]
def Zjg{P}{n t a:Nat}{r W l v Im}(c:IA P n t=X)(b:Lq P W r a t v)(h:Hf W Im l v.cells.toList)(hs:E4 P n t l):Zk (λ_=>Y) W Im (avT P t l) v:=by
 cases n with|zero=>grind[IA]|succ n =>unfold IA at c;unfold E4 at hs;unfold avT Z7L;grind[okWide_int,ZfW,okWide_bool,okWide_slice,okWide_struct,Zcv]
def Z6F{H:Type}{enc P W spare n f r}:∀{c:List TypeId} {e:List Value} {h:List (DataW H)} {k:List MemPlace},Le enc P W 0 spare X c e h k -> ((L P c h).all (· <= reachBytes))=X->(c.all λt=>IA P n t)=X->(∀(j:Nat) t v,c[j]?=U t->e[j]?=U v->Lq P W r f t v) ->
  ∃ls:List (List DV),ls.length=c.length/\h.length=c.length/\(∀(i t:Nat) (l:List DV),c[i]?=U t->ls[i]?=U l->E4 P n t l)/\e.length=(RE P c ls).length /\
   ∀(i:Nat) (x:AV) (v:Value),(RE P c ls)[i]?=U x->e[i]?=U v->Zk (λ_=>Y) W (λg=>g<W.heap.size) x v
 |[],e,h,k,hA,_,_,_=>by
  obtain⟨rfl,rfl,rfl⟩:=trodAll_nil hA;exact⟨[],rfl,rfl,by simp,rfl,by simp[RE]⟩
 |t::c,e,h,k,hA,hw,hp,hok=>by
  obtain⟨v,a0,d,s,a,b,rfl,rfl,rfl,w,y⟩:=trodAll_cons hA;simp only[L,Ln,O,Lg,decide_eq_true_eq]at hw;simp only[Lo,O]at hp;obtain⟨ls,k1,k2,k3,k4,k5⟩:=Z6F (n:=n) y (by grind) hp.2 (λj t v o hv=>hok (j+1) t v (by simpa using o) (by simpa using hv));obtain⟨m,z⟩:=w;obtain⟨l,q1,q2⟩:=read n m _ _ _ hp.1 z hw.1;refine⟨l::ls,by simp[k1],by simp[k2],λi t' l' o hl=>?_,by simp[RE,k4],λi x u q p=>?_⟩
  .grind
  .cases i with
   |zero =>
    simp[RE]at q p;subst q;subst p;exact Zjg hp.1 (hok 0 t v rfl rfl) q2 q1
   |succ i=>grind[RE]
def Zc3{C:Checked}{os:Os}{f:FuncId}{fn:Func}{s:ChangeSpec}{H:Type}{enc:TypeId×Value->H}{tb:Nat} n(own:ownKnob C.prog.godebug=Y)(b:os.Started)(g:C.prog.inits.idxOf? f=Y)(z:C.prog.funcs[f]?=U fn)(c:∃(w:World) (a:Tape) (i:Input),w.os=os/\(w.forCall a i).Shaped C.prog/\i.vars=[]/\Input.okWide C.prog (w.forCall a i) .any w.heap.size f i /\
   s.pre6 enc C.prog fn [] N (w.forCall a i).memory i.args/\({}:Assume).holds C.prog (lone (Frame.enter C.prog f i.args .normal) [] (w.forCall a i)))(hl:laidOutB C.prog=X)(a7:(fn.params.toList.all λt=>C.prog.readableRec t&&Lc t C.prog.types.size)=X)(e:(fn.params.toList.all λt=>IA C.prog n t)=X)(a5:fn.resultTypes=#[tb])(a6:C.prog.underlying tb=U .bool)(a0:s.vars=[])(a3:∀d:List (DataW H),d.length=fn.params.toList.length->s.fn H (d++[])={results:=[.lit (.bool X)],args:=d})(a1:∀ls:List (List DV),ls.length=fn.params.toList.length->(∀(i t:Nat) (l:List DV),fn.params.toList[i]?=U t->ls[i]?=U l->E4 C.prog n t l)->∃fr,GSpec C.prog f (RE C.prog fn.params.toList ls) fr (bL X) []) :
  ReturnsInHanded {} C os f .any (s.pre6 enc C.prog fn [] N) (s.post enc C.prog fn N X N N):=by
 refine returnsInHanded_of_change_sized own b g z c ?_;intro W a2 args d gs y r hW _ m _;have a4:=hW;obtain⟨p,q,hA,hV,rfl,_,_⟩:=hW;rw[a0]at hV;obtain⟨rfl,rfl⟩:=trodVars_none hV;have o:((L C.prog fn.params.toList d).all (· <= reachBytes))=X:=by
  rw[List.append_nil]at m;rw[Lg]at m⊢;intro k hk;refine m k ?_;revert hk;have:∀(u us:List TypeId) (d:List (DataW H)),k∈L C.prog u d->k∈L C.prog (u++us) d:=by
   intro u us;induction u with|nil=>grind[L]|cons t u ih =>intro d h;cases d<;>grind[L,id]
  exact this _ _ _
 obtain⟨ls,k1,k2,k3,k4,k5⟩:=Z6F (n:=n) hA o e (λj t v ht hv=>r j t v (by simpa using ht) (by simpa using hv));obtain⟨fr,hG⟩:=a1 ls k1 k3;refine(ZfG hG (by simpa using k4) (λi x v hx hv=>k5 i x v hx (by simpa using hv))).mono ?_;grind[Zcp]
def NC(a b:Nat):AV->AV|.pt k i o=>(match Z k a with|true=>.pt b i o|false=>match Z k b with|X=>.any|N=>.pt k i o)|.os k o n=>(match Z k a with|true=>.os b o n|false=>match Z k b with|X=>.any|N=>.os k o n)|.ow k=>(match Z k a with|true=>.ow b|false=>match Z k b with|X=>.any|N=>.ow k)|x=>x
def DK(a b:Nat):Z3->Z3|.box ty cells=>.box ty (cells.map (HX (NC a b)))|.arr ty s els=>.arr ty s els|.mp ks=>.mp ks|.dead=>.dead
def T9(a b:Nat)(H:Heap):Heap:=λk=>match Z k b with|true=>(match H a with|U B=>U (DK a b B)|Y=>Y)|false=>match Z k a with|true=>Y|false=>match H k with|U B=>U (DK a b B)|Y=>Y
def Z1d(a b:Nat)(s:St):Option St:=match Z a b||!Nat.ble 8000 b with|true=>Y|false=>match s.H a with|none=>Y|some _=>U ⟨s.tmps.map (IK (NC a b)),T9 a b s.H,s.clk⟩
def MI:List (Nat×Nat)->St->Option St|[],s=>U s|(a,b)::l,s=>match Z1d a b s with|some c=>MI l c|none=>Y
def Hp(a b:Nat)(ρ:ZM):ZM:=λk=>if k=b then ρ a else if k=a then Y else ρ k
section
variable{ρ:ZM}{w:World}{Im:Nat->Prop}{a b:Nat}
theorem Z4F{k:Nat}{v}(h:Zk ρ w Im (.ow k) v):Zk (Hp a b ρ) w Im (NC a b (.ow k)) v:=by
 simp only[NC];cases h1:Z k a with
 |true =>
  have e:=La h1;subst e;cases h with|ow g f d c=>exact .ow (by grind[Hp]) f d c
 |false =>
  have e1:=M h1;cases h2:Z k b with
  |true=>exact .any _
  |false =>
   have e2:=M h2;cases h with|ow g f d c=>exact .ow (by grind[Hp]) f d c
theorem Z8o{k o n:Nat}{v}(h:Zk ρ w Im (.os k o n) v):Zk (Hp a b ρ) w Im (NC a b (.os k o n)) v:=by
 simp only[NC];cases h1:Z k a with
 |true =>
  have e:=La h1;subst e;cases h with|os i g f d c=>exact .os (by grind[Hp]) g f d c
 |false =>
  have e1:=M h1;cases h2:Z k b with
  |true=>exact .any _
  |false =>
   have e2:=M h2;cases h with|os i g f d c=>exact .os (by grind[Hp]) g f d c
theorem Z5k{k i o:Nat}{v}(h:Zk ρ w Im (.pt k i o) v):Zk (Hp a b ρ) w Im (NC a b (.pt k i o)) v:=by
 simp only[NC];obtain⟨g,s,n,c,rfl⟩:=NJ h;cases h1:Z k a with
 |true =>have e:=La h1;subst e;exact .pt (by simp only[Hp,if_true];exact c)
 |false =>
  have d:=M h1;cases h2:Z k b with|true=>exact .any _|false =>have f:=M h2;exact .pt (by simp only[Hp,if_neg d,if_neg f];exact c)
theorem Zbh{x v}(h:Zk ρ w Im x v):Zk (Hp a b ρ) w Im (HX (NC a b) x) v:=
 Me (λ_ h=>h) (λ_ _ _ _ h=>Z5k h) (λ_ _ _ _ h=>Z8o h) (λ_ _ h=>Z4F h) h
theorem Zf0{x v}(h:Zk ρ w Im x v):Zk (Hp a b ρ) w Im (IK (NC a b) x) v:=
 MS (λ_ h=>h) (λ_ _ _ _ h=>Z5k h) (λ_ _ _ _ h=>Z8o h) (λ_ _ h=>Z4F h) h
theorem Za3{β B}(h:RelB ρ w Im β B):RelB (Hp a b ρ) w Im β (DK a b B):=by
 cases B with|box l cells =>obtain⟨f,c,g,e,i,j,k,d,h4⟩:=h;refine⟨by simpa using f,c,g,e,i,j,by simpa using k,d,λo x v hx hv=>?_⟩;grind[Zbh]|arr l s els=>exact h|mp ks=>exact h|dead=>trivial
theorem Z7g{B:Z3}(h:DK a b B≠.dead):B≠.dead:=by rintro rfl;exact h rfl
theorem Zcr{s s':St}(h:Z1d a b s=U s'){Ow Im0 w0 x w}(hS:Sys Ow Im0 w0 s.tmps s.H s.clk x w):Sys Ow Im0 w0 s'.tmps s'.H s'.clk x w:=by
 unfold Z1d at h;split at h;cases h;rename_i hab;simp only[Bool.or_eq_false_iff,Bool.not_eq_false']at hab;have hne:=M hab.1;have hb8:=Nat.le_of_ble_eq_true hab.2;split at h;cases h;rename_i B0 hB0;cases h;obtain⟨ρ,Im,I,T⟩:=hS;have hH:∀k B,T9 a b s.H k=U B->(k=b/\∃B',s.H a=U B'/\B=DK a b B')\/(k≠b/\k≠a/\∃B',s.H k=U B'/\B=DK a b B'):=by grind[T9,La,M]
 have hρ:∀k β,Hp a b ρ k=U β->(k=b/\ρ a=U β)\/(k≠b/\k≠a/\ρ k=U β):=by grind[Hp]
 have hlive:∀k,live (T9 a b s.H) k->(k=b/\live s.H a)\/(k≠b/\k≠a/\live s.H k):=by(rintro k ⟨B,h1,h2⟩;rcases hH k B h1 with⟨e,B',h3,rfl⟩|⟨e1,e2,B',h3,rfl⟩;exact .inl ⟨e,B',h3,Z7g h2⟩;exact .inr ⟨e1,e2,B',h3,Z7g h2⟩)
 refine⟨Hp a b ρ,Im,⟨I.kept,λk k' β β' g l1 l2 q1 q2 q3 q4=>?_,λk β g l q=>?_,λk β g q=>?_,λk β g q=>?_,I.imb,I.im0,λk B q=>?_,λk hk q=>?_,I.one.1,λk β h q=>?_⟩,⟨by rw[T.size];simp,λi y v hy hv=>?_,T.defers⟩⟩;rcases hρ k β q1 with⟨e1,r1⟩|⟨e1,f1,r1⟩<;>rcases hρ k' β' q2 with⟨e2,r2⟩|⟨e2,f2,r2⟩;rw[e1,e2];rcases hlive k l1 with⟨_,m1⟩|⟨m,_⟩;rcases hlive k' l2 with⟨m,_⟩|⟨_,_,m2⟩;omega;exact absurd (I.inj a k' β β' g m1 m2 r1 r2 q3 q4).symm f2;omega;rcases hlive k l1 with⟨m,_⟩|⟨_,_,m1⟩;omega;rcases hlive k' l2 with⟨_,m2⟩|⟨m,_⟩;exact absurd (I.inj k a β β' g m1 m2 r1 r2 q3 q4) f1;omega;rcases hlive k l1 with⟨m,_⟩|⟨_,_,m1⟩;omega;rcases hlive k' l2 with⟨m,_⟩|⟨_,_,m2⟩;omega;exact I.inj k k' β β' g m1 m2 r1 r2 q3 q4;rcases hρ k β q with⟨e1,r1⟩|⟨e1,f1,r1⟩;rcases hlive k l with⟨_,m1⟩|⟨m,_⟩;exact I.notIm a β g m1 r1;omega;rcases hlive k l with⟨m,_⟩|⟨_,_,m1⟩;omega;exact I.notIm k β g m1 r1;rcases hρ k β q with⟨_,r1⟩|⟨_,_,r1⟩;exact I.bnd a β g r1;exact I.bnd k β g r1;rcases hρ k β q with⟨_,r1⟩|⟨_,_,r1⟩;rename_i hk0;intro hg;exact(I.own a β g r1 hg).imp (λh=>⟨h.1,by omega⟩) (λh=>h);exact I.own k β g r1;rotate_left 2;rcases hρ k β q with⟨e1,r1⟩|⟨_,_,r1⟩;omega;exact I.one.2 k β h r1;rotate_right 2;rcases hH k B q with⟨rfl,B',h3,rfl⟩|⟨e1,e2,B',h3,rfl⟩;obtain⟨β,h4,h5⟩:=I.blk a B' h3;grind[Hp,Za3];obtain⟨β,h4,h5⟩:=I.blk k B' h3;grind[Hp,Za3];simp only[T9]at q;simp only[Hp];cases h1:Z k b with
 |true=>grind
 |false =>
  rw[h1]at q;rw[if_neg (M h1)];cases h2:Z k a with
  |true=>simp_all
  |false =>
   rw[if_neg (M h2)];rw[h2]at q;cases h3:s.H k with|none=>exact I.fresh k hk h3|some B'=>grind
 simp only[Li,Lj]at hy;obtain⟨z,hz,rfl⟩:=hy;exact Zf0 (T.tmp i z v hz hv)
end
def O8:∀{l:List (Nat×Nat)} {s c:St},MI l s=U c->∀{Ow:Own} {Im0:Nat->Prop} {w0:World} {x:Act} {w:World},Sys Ow Im0 w0 s.tmps s.H s.clk x w->Sys Ow Im0 w0 c.tmps c.H c.clk x w
 |[],s,c,h,_,_,_,_,_,hS=>by
  grind[MI]
 |(a,b)::l,s,c,h,_,_,_,_,_,hS=>by
  simp only[MI]at h;split at h
  .rename_i s1 d;exact O8 h (Zcr d hS)
  .cases h
def EE(P:Program)(hints:List (Nat×List Hint))(a:List (Nat×Tg×Ex×Tg))(b:List (Nat×Nat))(c:Code)(s:St)(t:Tg):Option ZL:=
 match Cp P hints a c s with|none=>Y|some r=>match MI b r.s with|none=>Y|some d=>match wk d t with|some l=>U ⟨r.e,d,r.ph,r.eq++l⟩|none=>Y
def ZjK{P}(hints:List (Nat×List Hint)) b d{c s}{e:Ex}{t}{φ:Prop}(g:φ)(n:PM (EE P hints b d c s t)=φ)(k:Z0q (EE P hints b d c s t)=Z08 (EE P hints b d c s t))(o:exO (EE P hints b d c s t)=U e):CSpec P c s e t.st:=by
 rw[<-n]at g;cases hr:EE P hints b d c s t with
 |none=>rw[hr]at g;exact g.elim
 |some r =>
  rw[hr]at g k o;have f:EJ r.eq:=Au k;have u:r.e=e:=by grind[exO]
  unfold EE at hr;split at hr;cases hr;rename_i q x;split at hr;cases hr;rename_i s' j;split at hr;rotate_left;cases hr;rename_i l v;cases hr;intro m h y a w p;refine wp_mono (MH x g f.left m h y a w p) ?_;rintro e' a' w' ⟨rfl,i⟩;exact⟨by rw[<-u],DC v f.right (O8 j i)⟩
end Go.Sx
