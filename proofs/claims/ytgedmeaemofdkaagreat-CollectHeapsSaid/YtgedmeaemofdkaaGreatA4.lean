/-
 The statement CollectHeaps: part 4.
 Conditions: none.
-/
import Derived.Deep.Slices
import Derived.KernelRfl
import Derived.ProofKit
import Derived.SizedLaws
import Derived.Test.YtgedmeaemofdkaaGreatA3
set_option maxRecDepth 100000
set_option maxHeartbeats 2000000
set_option linter.all false
open Option renaming some->U,none->Z,map_eq_some_iff->Le
open Bool renaming true->X,false->N,and_eq_true->O
open Nat renaming beq->Y,ne_of_beq_eq_false->M,eq_of_beq_eq_true->La,blt->Ld
open Go.DataW renaming weightsEach->L,TrodAll->Lg,trod->Lh,weights->Lm,weightsAll->Ln
open List renaming getElem?_map->Lb,mem_append->Lc,all_eq_true->Li,getElem?_eq_some_iff->Lj,all_append->Lo,all_cons->Lp,getElem?_eq_getElem->Lq
open Go.Value renaming cells->Lf,okWide->Lr
open Option.some renaming injEq->Lk
open Go.World renaming cells?_some->Ll
namespace Go.Sx
open Go.ChangeShapes Go.WideShapes Go.ChangeAt Go.RowKit
def Z2v(f:Nat->List DV->Prop):List Field->List DV->Prop|[],l=>l=[]|fd::fs,l=>∃a b,l=a++b/\f fd.type a/\Z2v f fs b
def CX(P:Program):Nat->Nat->List DV->Prop|0,_,_=>False|n+1,t,l=>match P.underlying t with|some (.int k)=>∃x:Int,l=[.sc (.int k x)]/\(Lit.int k x).wf=X|some .bool=>∃b:Bool,l=[.sc (.bool b)]|some (.slice e)=>∃els:List (List DV),l=[.sl (P.cellsOf e) els]/\els.length<=140737488355328/\∀x∈els,CX P n e x|some (.struct fs)=>Z2v (CX P n) fs.toList l|_=>False
def PX(c:Nat->Nat):List Field->Nat->Nat->Bool|[],off,tot=>Y off tot|f::fs,off,tot=>Y f.offset off&&PX c fs (off+c f.type) tot
def Ir(P:Program):Nat->Nat->Bool|0,_=>N|n+1,t=>match P.underlying t with|some (.int _)=>X|some .bool=>X|some (.slice e)=>Ir P n e&&(Ld 0 (P.cellsOf e)&&Ld 0 (P.bytesOf e))|some (.struct fs)=>PX P.cellsOf fs.toList 0 (P.cellsOf t)&&fs.toList.all λf=>Ir P n f.type|_=>N
def H1(w:World)(Im:Nat->Prop)(l:List DV)(cs:List Value):Prop:=l.length=cs.length/\∀(i:Nat) (x:DV) (v:Value),l[i]?=U x->cs[i]?=U v->Cz w Im x v
def H1.append{w Im a b x y}(h:H1 w Im a x)(k:H1 w Im b y):H1 w Im (a++b) (x++y):=by obtain⟨c,h2⟩:=h;obtain⟨k1,k2⟩:=k;refine⟨by simp[c,k1],λi d v hd hv=>?_⟩;grind
def H1.one{w Im d v}(h:Cz w Im d v):H1 w Im [d] [v]:=by refine⟨rfl,λi x u hx hu=>?_⟩;grind
section
variable{H:Type}{enc:TypeId×Value->H}{P:Program}{w:World}{r:Nat}{spare:Nat->Bool}{held:Bool}
theorem Z7e{e}:∀{b:List (DataW H)} {d:DataW H},d∈b->∀n∈d.weights P e,n∈Ln P e b
 |[],d,h,_,_=>by simp at h
 |a::b,d,h,n,hn=>by
  simp only[Ln,Lc];rcases List.mem_cons.1 h with rfl|h
  .exact .inl hn
  .exact .inr (Z7e h n hn)
theorem Z9v{n m}{cs:List Value}(e:∀(t:Nat) (cs:List Value) (x:DataW H×List MemPlace),Ir P n t=X->Lh enc P w r spare held m t cs=U x->(∀k∈x.1.weights P t,k<=reachBytes)->∃l,CX P n t l/\H1 w (λg=>g<w.heap.size) l cs) :∀(c:List Field) (off:Nat),PX P.cellsOf c off cs.length=X->(∀f∈c,Ir P n f.type=X) ->
  (∀f∈c,∃x,Lh enc P w r spare held m f.type ((cs.drop f.offset).take (P.cellsOf f.type))=U x/\∀k∈x.1.weights P f.type,k<=reachBytes) ->
  ∃l,Z2v (CX P n) c l/\H1 w (λg=>g<w.heap.size) l (cs.drop off)
 |[],off,ht,_,_=>by
  have:off=cs.length:=La ht;exact⟨[],rfl,by grind[H1]⟩
 |f::c,off,ht,hp,hx=>by
  simp only[PX,O]at ht;obtain⟨i,j⟩:=ht;have o:f.offset=off:=La i;obtain⟨x,k1,p⟩:=hx f pq;obtain⟨a,q,h⟩:=e _ _ _ (hp f pq) k1 p;obtain⟨b,s,u⟩:=Z9v e c _ j (λg d=>hp g (by simp[d])) (λg d=>hx g (by simp[d]));refine⟨a++b,⟨a,b,rfl,q,s⟩, ?_⟩;rw[o]at h;have:=h.append u;grind[List.drop_drop,List.take_append_drop]
theorem read:∀(n m t:Nat) (cs:List Value) (x:DataW H×List MemPlace),Ir P n t=X->Lh enc P w r spare held m t cs=U x->(∀k∈x.1.weights P t,k<=reachBytes)->∃l,CX P n t l/\H1 w (λg=>g<w.heap.size) l cs
 |0,m,t,cs,x,hp,_,_=>by grind[Ir]
 |n+1,m,t,cs,x,hp,h,hw=>by
  unfold Ir at hp;unfold CX;split at hp
  .rename_i k v;obtain⟨y,rfl,_,b0⟩:=DataW.trod_int v h;exact⟨[.sc (.int k y)],⟨y,rfl,b0⟩,H1.one (.sc _ rfl)⟩
  .rename_i v;obtain⟨b,rfl,_⟩:=DataW.trod_bool v h;exact⟨[.sc (.bool b)],⟨b,rfl⟩,H1.one (.sc _ rfl)⟩
  .rename_i e v;simp only[O]at hp;obtain⟨a4,a5,b5⟩:=hp;have hc:0<P.cellsOf e:=by simp_all
   have hb:0<P.bytesOf e:=by simp_all
   rcases Deep.open_slice v h with⟨rfl,_⟩|⟨a,len,cap,mm,q,D,Pl,rfl,a7,a9,b2,b4,rfl,hx⟩
   .exact⟨[.sl (P.cellsOf e) []],⟨[],rfl,by simp,by simp⟩,H1.one (.slNil _ _ _)⟩
   .have b3:len<=mm:=by grind
    simp only[Lm,v]at hw;have b1:len<=reachBytes:=by
     have:=hw _ (List.mem_cons_self);simp only[List.length_map,List.length_range]at this;have h1:len+(mm-len)<=(len+(mm-len))*P.bytesOf e:=Nat.le_mul_of_pos_right _ hb;omega
    have hr:=reachBytes_lt;have a0:∀i,i<len->∃p:List DV×List Value,w.cells? r (a.add (i*P.cellsOf e)) (P.cellsOf e)=U p.2/\CX P n e p.1/\H1 w (λg=>g<w.heap.size) p.1 p.2:=by
     intro i hi;obtain⟨a1,h1,h2⟩:=hx i oq;obtain⟨l,h3,h4⟩:=read n q e a1 _ a4 h2 (λk hk=>hw k (by
      refine List.mem_cons_of_mem _ (Lc.2 (.inl (Z7e (d:=D i) ?_ k hk)));grind))
     exact⟨(l,a1),h1,h3,h4⟩
    obtain⟨F,hF⟩:=Deep.choose_lt a0;refine⟨[.sl (P.cellsOf e) ((List.range len).map λi=>(F i).1)],⟨_,rfl,by simp;omega,λx hx=>?_⟩,H1.one ?_⟩
    .grind
    .by_cases h0:len=0
     .subst h0;exact .slNil _ _ _
     .obtain⟨k1,k2,k3⟩:=Ll (hF 0 oq).1;have c0:=k3 0 hc;have a6:a.spot=Z:=by grind[World.cell?_spot,Addr.add]
      have a2:a.block<w.heap.size:=by
       have:=World.cells?_block (hF 0 oq).1 hc;simpa[Addr.add]using this
      obtain⟨ab,ao,as⟩:=a;simp only at a6;subst a6;refine .sl _ _ _ _ _ (λi o=>(F i).2.getD o default) pq a9 (by grind[Zkc]) (λl z=>?_) rfl a2 (λi l o d z ho=>?_) (λi l o d z ho=>?_)
      .obtain⟨i,hi,rfl⟩:=List.mem_map.1 z;obtain⟨g1,_,g3⟩:=hF i (List.mem_range.1 hi);obtain⟨_,g4,_⟩:=Ll g1;rw[g3.1,g4]
      .simp only[Lb,Le]at z;obtain⟨j,hj,rfl⟩:=z;obtain⟨s,u⟩:=Lj.1 hj;simp at u s;subst u;obtain⟨g1,_,g3⟩:=hF i s;obtain⟨_,g4,g5⟩:=Ll g1;have a3:o<(F i).2.length:=by rw[<-g3.1];exact(Lj.1 ho).1
       grind[Addr.add_lit]
      .simp only[Lb,Le]at z;obtain⟨j,hj,rfl⟩:=z;obtain⟨s,u⟩:=Lj.1 hj;simp at u s;subst u;obtain⟨g1,_,g3⟩:=hF i s;have a3:o<(F i).2.length:=by rw[<-g3.1];exact(Lj.1 ho).1
       refine g3.2 o d _ ho ?_;grind
  .rename_i fs v;simp only[O,Li]at hp;obtain⟨a4,a5⟩:=hp;obtain⟨xs,q,rfl,rfl,z,b6,hx⟩:=DataW.trod_struct v h;simp only[Lm,v]at hw;obtain⟨l,h1,h2⟩:=Z9v (cs:=cs) (λt cs x a b c=>read n q t cs x a b c) fs.toList 0 (by grind) a5 (λf hf=>by
    obtain⟨i,hi,rfl⟩:=List.getElem_of_mem hf;have a8:i<xs.length:=by grind
    refine⟨xs[i], ?_,λk hk=>hw k (DataW.weights_mem_each (j:=i) (t:=fs.toList[i].type) (d:=xs[i].1) ?_ ?_ k hk)⟩
    .rw[<-Lq a8];grind
    all_goals grind)
   grind
  .cases hp
end
def ZbP{P f j fr b}(h:GSpec P f j fr (bL b) []){W}{c:Array Value}(m:c.size=j.length)(a:∀(i:Nat) (x:AV) (v:Value),j[i]?=U x->c[i]?=U v->Zj (λ_=>Z) W (λg=>g<W.heap.size) x v) :Calls P f c W λe n=>e=.returned (.bool b)/\Below W.heap.size W n:=by
 refine(h W _ c (λg p=>p) m a).mono ?_;rintro e n ⟨v,rfl,K,ρ',o,_,_,_,_,_,_,l⟩;have r:v=.bool b:=by
  cases l with|d l=>cases l with|sc=>rfl
 subst r;exact⟨rfl,K.os,K.tape,K.output,K.size,λk q=>K.block k q (λh=>h)⟩
section
variable{H:Type}{enc:TypeId×Value->H}{P:Program}
theorem Z5f(hl:laidOutB P=X){W k:World}(l:Below W.heap.size W k):∀{f:List TypeId} {g:List Value} {e:List (DataW H)} {c:List MemPlace},(f.all λt=>P.readableRec t&&Ld t P.types.size)=X ->
  Lg enc P W 0 (λ_=>X) X f g e c->(∀x∈c,x.block<W.heap.size)->Lg enc P k 0 (λb=>decide (b<W.heap.size)) X f g e c
 |[],g,e,c,_,h,_=>by
  obtain⟨rfl,rfl,rfl⟩:=trodAll_nil h;rfl
 |t::f,g,e,c,hts,h,hlt=>by
  obtain⟨v,r,d,m,a,b,rfl,rfl,rfl,n,o⟩:=trodAll_cons h;simp only[Lp,O]at hts;obtain⟨⟨p,q2⟩,q⟩:=hts;have j:t<P.types.size:=by simp_all
  exact⟨a,b,Below.trod hl p j n l (λx i=>hlt x (Lc.2 (.inl i))),Z5f hl l q o (λx i=>hlt x (Lc.2 (.inr i))),rfl⟩
theorem ZcR{f:Func}{s:ChangeSpec}{tb:Nat}{W k}{args:Array Value}{e l a}(hl:laidOutB P=X)(j:(f.params.toList.all λt=>P.readableRec t&&Ld t P.types.size)=X)(g:f.resultTypes=#[tb])(i:P.underlying tb=U .bool)(d:s.vars=[])(o:DataW.Whole enc P f.params.toList s.vars N W args.toList e l a)(b:s.fn H (e++l)={results:=[.lit (.bool X)],args:=e})(m:Below W.heap.size W k) :
  s.post enc P f N X N N W args (.bool X) k:=by have c:=o;obtain⟨p,q,r,n,rfl,u,v⟩:=o;rw[d]at n;obtain⟨rfl,rfl⟩:=trodVars_none n;refine⟨e,[],p++[],[],p,[],c, ?_, ?_, ?_,m.frame _,λh=>nomatch h⟩;rw[b,g];refine⟨[],[],⟨1, ?_⟩,rfl,rfl⟩;simp[Lh,i,Lf];rw[b];exact Z5f hl m j r (λx w=>c.lt x (Lc.2 (.inl w)));rw[b,d];rfl
theorem Zlw{W c f e o spare}(h:Lg enc P W 0 spare X c e f o)(s:((L P c f).all (· <= reachBytes))=X) :e.length=c.length/\∀(n i t:Nat) (v:Value),c[i]?=U t->e[i]?=U v->Ir P n t=X->∃l,CX P n t l/\H1 W (λg=>g<W.heap.size) l v.cells.toList:=by
 induction c generalizing e f o with
 |nil =>obtain⟨rfl,rfl,rfl⟩:=trodAll_nil h;grind
 |cons t c u =>
  obtain⟨v,w,d,p,a,b,rfl,rfl,rfl,q,r⟩:=trodAll_cons h;simp only[L,Lo,O,Li,decide_eq_true_eq]at s;obtain⟨k1,k2⟩:=u r (by grind);refine⟨by simp[k1],λn i t' v' j k hp=>?_⟩;cases i with|zero =>simp at j k;subst j;subst k;obtain⟨m,hm⟩:=q;grind[read]|succ i=>grind
end
theorem Zj2{W Im}{x:DV}{v:Value}(h:H1 W Im [x] v.cells.toList)(a:∀cs,v≠.agg cs):Zj (λ_=>Z) W Im (.d x) v:=by
 have:v.cells=#[v]:=by cases v<;>first|rfl|exact absurd rfl (a _)
 rw[this]at h;exact .d (h.2 0 x v rfl rfl)
theorem Zfv{W Im l cs}(h:H1 W Im l (Value.agg cs).cells.toList):Zj (λ_=>Z) W Im (.ag (l.map .d)) (.agg cs):=by
 obtain⟨h1,b⟩:=h;refine .ag _ cs (by grind[Lf]) (λi v e=>?_) λi a v c e=>?_;have d:i<l.length:=by grind[Lf]
 exact(b i l[i] v (Lq d) (by grind[Lf])).one;simp only[Lb,Le]at c;obtain⟨x,f,rfl⟩:=c;exact .d (b i x v f (by grind[Lf]))
def Z62(P:Program)(t:Nat):Bool:=match P.underlying t with|some (.struct _)=>X|_=>N
def avT(P:Program)(t:Nat)(l:List DV):AV:=match Z62 P t with|true=>.ag (l.map .d)|false=>match l with|[x]=>.d x|_=>.any
def RE(P:Program):List Nat->List (List DV)->List AV|t::ts,l::ls=>avT P t l::RE P ts ls|_,_=>[]
def Zfh{P}{n t a:Nat}{r W l v Im}(c:Ir P n t=X)(b:Lr P W r a t v)(h:H1 W Im l v.cells.toList)(hs:CX P n t l):Zj (λ_=>Z) W Im (avT P t l) v:=by
 cases n with|zero=>grind[Ir]|succ n =>unfold Ir at c;unfold CX at hs;unfold avT Z62;grind[okWide_int,Zj2,okWide_bool,okWide_slice,okWide_struct,Zfv]
def Z9P{H:Type}{enc P W spare n f r}:∀{c:List TypeId} {e:List Value} {h:List (DataW H)} {k:List MemPlace},Lg enc P W 0 spare X c e h k -> ((L P c h).all (· <= reachBytes))=X->(c.all λt=>Ir P n t)=X->(∀(j:Nat) t v,c[j]?=U t->e[j]?=U v->Lr P W r f t v) ->
  ∃ls:List (List DV),ls.length=c.length/\h.length=c.length/\(∀(i t:Nat) (l:List DV),c[i]?=U t->ls[i]?=U l->CX P n t l)/\e.length=(RE P c ls).length /\
   ∀(i:Nat) (x:AV) (v:Value),(RE P c ls)[i]?=U x->e[i]?=U v->Zj (λ_=>Z) W (λg=>g<W.heap.size) x v
 |[],e,h,k,hA,_,_,_=>by
  obtain⟨rfl,rfl,rfl⟩:=trodAll_nil hA;exact⟨[],rfl,rfl,by simp,rfl,by simp[RE]⟩
 |t::c,e,h,k,hA,hw,hp,hok=>by
  obtain⟨v,a0,d,s,a,b,rfl,rfl,rfl,w,y⟩:=trodAll_cons hA;simp only[L,Lo,O,Li,decide_eq_true_eq]at hw;simp only[Lp,O]at hp;obtain⟨ls,k1,k2,k3,k4,k5⟩:=Z9P (n:=n) y (by grind) hp.2 (λj t v o hv=>hok (j+1) t v (by simpa using o) (by simpa using hv));obtain⟨m,z⟩:=w;obtain⟨l,q1,q2⟩:=read n m _ _ _ hp.1 z hw.1;refine⟨l::ls,by simp[k1],by simp[k2],λi t' l' o hl=>?_,by simp[RE,k4],λi x u q p=>?_⟩
  .grind
  .cases i with
   |zero =>
    simp[RE]at q p;subst q;subst p;exact Zfh hp.1 (hok 0 t v rfl rfl) q2 q1
   |succ i=>grind[RE]
def Zkd{C:Checked}{os:Os}{f:FuncId}{fn:Func}{s:ChangeSpec}{H:Type}{enc:TypeId×Value->H}{tb:Nat} n(own:ownKnob C.prog.godebug=Z)(b:os.Started)(g:C.prog.inits.idxOf? f=Z)(z:C.prog.funcs[f]?=U fn)(c:∃(w:World) (a:Tape) (i:Input),w.os=os/\(w.forCall a i).Shaped C.prog/\i.vars=[]/\Input.okWide C.prog (w.forCall a i) .any w.heap.size f i /\
   s.pre6 enc C.prog fn [] N (w.forCall a i).memory i.args/\({}:Assume).holds C.prog (lone (Frame.enter C.prog f i.args .normal) [] (w.forCall a i)))(hl:laidOutB C.prog=X)(a7:(fn.params.toList.all λt=>C.prog.readableRec t&&Ld t C.prog.types.size)=X)(e:(fn.params.toList.all λt=>Ir C.prog n t)=X)(a5:fn.resultTypes=#[tb])(a6:C.prog.underlying tb=U .bool)(a0:s.vars=[])(a3:∀d:List (DataW H),d.length=fn.params.toList.length->s.fn H (d++[])={results:=[.lit (.bool X)],args:=d})(a1:∀ls:List (List DV),ls.length=fn.params.toList.length->(∀(i t:Nat) (l:List DV),fn.params.toList[i]?=U t->ls[i]?=U l->CX C.prog n t l)->∃fr,GSpec C.prog f (RE C.prog fn.params.toList ls) fr (bL X) []) :
  ReturnsInHanded {} C os f .any (s.pre6 enc C.prog fn [] N) (s.post enc C.prog fn N X N N):=by
 refine returnsInHanded_of_change_sized own b g z c ?_;intro W a2 args d gs y r hW _ m _;have a4:=hW;obtain⟨p,q,hA,hV,rfl,_,_⟩:=hW;rw[a0]at hV;obtain⟨rfl,rfl⟩:=trodVars_none hV;have o:((L C.prog fn.params.toList d).all (· <= reachBytes))=X:=by
  rw[List.append_nil]at m;rw[Li]at m⊢;intro k hk;refine m k ?_;revert hk;have:∀(u us:List TypeId) (d:List (DataW H)),k∈L C.prog u d->k∈L C.prog (u++us) d:=by
   intro u us;induction u with|nil=>grind[L]|cons t u ih =>intro d h;cases d<;>grind[L,id]
  exact this _ _ _
 obtain⟨ls,k1,k2,k3,k4,k5⟩:=Z9P (n:=n) hA o e (λj t v ht hv=>r j t v (by simpa using ht) (by simpa using hv));obtain⟨fr,hG⟩:=a1 ls k1 k3;refine(ZbP hG (by simpa using k4) (λi x v hx hv=>k5 i x v hx (by simpa using hv))).mono ?_;grind[ZcR]
def Ns(a b:Nat):AV->AV|.pt k i o=>(match Y k a with|true=>.pt b i o|false=>match Y k b with|X=>.any|N=>.pt k i o)|.os k o n=>(match Y k a with|true=>.os b o n|false=>match Y k b with|X=>.any|N=>.os k o n)|.ow k=>(match Y k a with|true=>.ow b|false=>match Y k b with|X=>.any|N=>.ow k)|x=>x
def AT(a b:Nat):Z4->Z4|.box ty cells=>.box ty (cells.map (HB (Ns a b)))|.arr ty s els=>.arr ty s els|.mp ks=>.mp ks|.dead=>.dead
def Mv(a b:Nat)(H:Heap):Heap:=λk=>match Y k b with|true=>(match H a with|U B=>U (AT a b B)|Z=>Z)|false=>match Y k a with|true=>Z|false=>match H k with|U B=>U (AT a b B)|Z=>Z
def Z1z(a b:Nat)(s:St):Option St:=match Y a b||!Nat.ble 8000 b with|true=>Z|false=>match s.H a with|none=>Z|some _=>U ⟨s.tmps.map (Ip (Ns a b)),Mv a b s.H,s.clk⟩
def Ti:List (Nat×Nat)->St->Option St|[],s=>U s|(a,b)::l,s=>match Z1z a b s with|some c=>Ti l c|none=>Z
def H8(a b:Nat)(ρ:ZK):ZK:=λk=>if k=b then ρ a else if k=a then Z else ρ k
section
variable{ρ:ZK}{w:World}{Im:Nat->Prop}{a b:Nat}
theorem Z5P{k:Nat}{v}(h:Zj ρ w Im (.ow k) v):Zj (H8 a b ρ) w Im (Ns a b (.ow k)) v:=by
 simp only[Ns];cases h1:Y k a with
 |true =>
  have e:=La h1;subst e;cases h with|ow g f d c=>exact .ow (by simp only[H8,if_true];exact g) f d c
 |false =>
  have i:=M h1;cases h2:Y k b with
  |true=>exact .any _
  |false =>
   have j:=M h2;cases h with|ow g f d c=>exact .ow (by simp only[H8,if_neg i,if_neg j];exact g) f d c
theorem Z6a{k o n:Nat}{v}(h:Zj ρ w Im (.os k o n) v):Zj (H8 a b ρ) w Im (Ns a b (.os k o n)) v:=by
 simp only[Ns];cases h1:Y k a with
 |true =>
  have e:=La h1;subst e;cases h with|os i g f d c=>exact .os (by simp only[H8,if_true];exact i) g f d c
 |false =>
  have j:=M h1;cases h2:Y k b with
  |true=>exact .any _
  |false =>
   have l:=M h2;cases h with|os i g f d c=>exact .os (by simp only[H8,if_neg j,if_neg l];exact i) g f d c
theorem Z8i{k i o:Nat}{v}(h:Zj ρ w Im (.pt k i o) v):Zj (H8 a b ρ) w Im (Ns a b (.pt k i o)) v:=by
 simp only[Ns];obtain⟨g,s,n,c,rfl⟩:=NP h;cases h1:Y k a with
 |true =>have e:=La h1;subst e;exact .pt (by simp only[H8,if_true];exact c)
 |false =>
  have d:=M h1;cases h2:Y k b with|true=>exact .any _|false =>have f:=M h2;exact .pt (by simp only[H8,if_neg d,if_neg f];exact c)
theorem Zi7{x v}(h:Zj ρ w Im x v):Zj (H8 a b ρ) w Im (HB (Ns a b) x) v:=
 DK (λ_ h=>h) (λ_ _ _ _ h=>Z8i h) (λ_ _ _ _ h=>Z6a h) (λ_ _ h=>Z5P h) h
theorem ZbA{x v}(h:Zj ρ w Im x v):Zj (H8 a b ρ) w Im (Ip (Ns a b) x) v:=
 M8 (λ_ h=>h) (λ_ _ _ _ h=>Z8i h) (λ_ _ _ _ h=>Z6a h) (λ_ _ h=>Z5P h) h
theorem Z7n{β B}(h:RelB ρ w Im β B):RelB (H8 a b ρ) w Im β (AT a b B):=by
 cases B with|box q cells =>obtain⟨i,c,g,f,j,k,l,d,m⟩:=h;refine⟨by simpa using i,c,g,f,j,k,by simpa using l,d,λo x v e n=>?_⟩;simp only[Lb,Le]at e;obtain⟨y,p,rfl⟩:=e;exact Zi7 (m o y v p n)|arr q s els=>exact h|mp ks=>exact h|dead=>trivial
theorem Z6Z{B:Z4}(h:AT a b B≠.dead):B≠.dead:=by rintro rfl;exact h rfl
theorem Zj5{s s':St}(h:Z1z a b s=U s'){Ow Im0 w0 x w}(hS:Sys Ow Im0 w0 s.tmps s.H s.clk x w):Sys Ow Im0 w0 s'.tmps s'.H s'.clk x w:=by
 unfold Z1z at h;split at h;cases h;rename_i hab;simp only[Bool.or_eq_false_iff,Bool.not_eq_false']at hab;have hne:=M hab.1;have hb8:=Nat.le_of_ble_eq_true hab.2;split at h;cases h;rename_i B0 hB0;cases h;obtain⟨ρ,Im,I,T⟩:=hS;have hH:∀k B,Mv a b s.H k=U B->(k=b/\∃B',s.H a=U B'/\B=AT a b B')\/(k≠b/\k≠a/\∃B',s.H k=U B'/\B=AT a b B'):=by
  intro k B hk;simp only[Mv]at hk;cases h1:Y k b with
  |true =>rw[h1,hB0]at hk;simp only[Lk]at hk;exact .inl ⟨La h1,B0,hB0,hk.symm⟩
  |false =>
   rw[h1]at hk;cases h2:Y k a with
   |true=>rw[h2]at hk;simp at hk
   |false =>
    rw[h2]at hk;cases h3:s.H k with|none=>rw[h3]at hk;simp at hk|some B' =>rw[h3]at hk;simp only[Lk]at hk;exact .inr ⟨M h1,M h2,B',rfl,hk.symm⟩
 have hρ:∀k β,H8 a b ρ k=U β->(k=b/\ρ a=U β)\/(k≠b/\k≠a/\ρ k=U β):=by(intro k β hk;simp only[H8]at hk;split at hk;rename_i e;exact .inl ⟨e,hk⟩;rename_i e;split at hk;cases hk;rename_i e2;exact .inr ⟨e,e2,hk⟩)
 have hlive:∀k,live (Mv a b s.H) k->(k=b/\live s.H a)\/(k≠b/\k≠a/\live s.H k):=by(rintro k ⟨B,h1,h2⟩;rcases hH k B h1 with⟨e,B',h3,rfl⟩|⟨e1,e2,B',h3,rfl⟩;exact .inl ⟨e,B',h3,Z6Z h2⟩;exact .inr ⟨e1,e2,B',h3,Z6Z h2⟩)
 refine⟨H8 a b ρ,Im,⟨I.kept,λk k' β β' g l1 l2 q1 q2 q3 q4=>?_,λk β g l q=>?_,λk β g q=>?_,λk β g q=>?_,I.imb,I.im0,λk B q=>?_,λk hk q=>?_,I.one.1,λk β h q=>?_⟩,⟨by rw[T.size];simp,λi y v hy hv=>?_,T.defers⟩⟩;rcases hρ k β q1 with⟨e1,r1⟩|⟨e1,f1,r1⟩<;>rcases hρ k' β' q2 with⟨e2,r2⟩|⟨e2,f2,r2⟩;rw[e1,e2];rcases hlive k l1 with⟨_,m1⟩|⟨m,_⟩;rcases hlive k' l2 with⟨m,_⟩|⟨_,_,m2⟩;exact absurd m e2;exact absurd (I.inj a k' β β' g m1 m2 r1 r2 q3 q4).symm f2;exact absurd e1 m;rcases hlive k l1 with⟨m,_⟩|⟨_,_,m1⟩;exact absurd m e1;rcases hlive k' l2 with⟨_,m2⟩|⟨m,_⟩;exact absurd (I.inj k a β β' g m1 m2 r1 r2 q3 q4) f1;exact absurd e2 m;rcases hlive k l1 with⟨m,_⟩|⟨_,_,m1⟩;exact absurd m e1;rcases hlive k' l2 with⟨m,_⟩|⟨_,_,m2⟩;exact absurd m e2;exact I.inj k k' β β' g m1 m2 r1 r2 q3 q4;rcases hρ k β q with⟨e1,r1⟩|⟨e1,f1,r1⟩;rcases hlive k l with⟨_,m1⟩|⟨m,_⟩;exact I.notIm a β g m1 r1;exact absurd e1 m;rcases hlive k l with⟨m,_⟩|⟨_,_,m1⟩;exact absurd m e1;exact I.notIm k β g m1 r1;rcases hρ k β q with⟨_,r1⟩|⟨_,_,r1⟩;exact I.bnd a β g r1;exact I.bnd k β g r1;rcases hρ k β q with⟨_,r1⟩|⟨_,_,r1⟩;rename_i hk0;intro hg;exact(I.own a β g r1 hg).imp (λh=>⟨h.1,by omega⟩) (λh=>h);exact I.own k β g r1;rotate_left 2;rcases hρ k β q with⟨e1,r1⟩|⟨_,_,r1⟩;omega;exact I.one.2 k β h r1;rotate_right 2;rcases hH k B q with⟨rfl,B',h3,rfl⟩|⟨e1,e2,B',h3,rfl⟩;obtain⟨β,h4,h5⟩:=I.blk a B' h3;exact⟨β,by simp only[H8,if_true];exact h4,Z7n h5⟩;obtain⟨β,h4,h5⟩:=I.blk k B' h3;exact⟨β,by simp only[H8,if_neg e1,if_neg e2];exact h4,Z7n h5⟩;simp only[Mv]at q;simp only[H8];cases h1:Y k b with
 |true=>rw[h1,hB0]at q;simp at q
 |false =>
  rw[h1]at q;rw[if_neg (M h1)];cases h2:Y k a with
  |true=>rw[if_pos (La h2)]
  |false =>
   rw[if_neg (M h2)];rw[h2]at q;cases h3:s.H k with|none=>exact I.fresh k hk h3|some B'=>rw[h3]at q;simp at q
 simp only[Lb,Le]at hy;obtain⟨z,hz,rfl⟩:=hy;exact ZbA (T.tmp i z v hz hv)
end
def Pd:∀{l:List (Nat×Nat)} {s c:St},Ti l s=U c->∀{Ow:Own} {Im0:Nat->Prop} {w0:World} {x:Act} {w:World},Sys Ow Im0 w0 s.tmps s.H s.clk x w->Sys Ow Im0 w0 c.tmps c.H c.clk x w
 |[],s,c,h,_,_,_,_,_,hS=>by
  simp only[Ti,Lk]at h;subst h;exact hS
 |(a,b)::l,s,c,h,_,_,_,_,_,hS=>by
  simp only[Ti]at h;split at h
  .rename_i s1 d;exact Pd h (Zj5 d hS)
  .cases h
def Eu(P:Program)(hints:List (Nat×List Hint))(a:List (Nat×Tg×Ex×Tg))(b:List (Nat×Nat))(c:Code)(s:St)(t:Tg):Option ZI:=
 match Cf P hints a c s with|none=>Z|some r=>match Ti b r.s with|none=>Z|some d=>match wk d t with|some l=>U ⟨r.e,d,r.ph,r.eq++l⟩|none=>Z
def ZaO{P}(hints:List (Nat×List Hint)) b d{c s}{e:Ex}{t}{φ:Prop}(g:φ)(o:Ol (Eu P hints b d c s t)=φ)(k:Z0w (Eu P hints b d c s t)=P1 (Eu P hints b d c s t))(m:exO (Eu P hints b d c s t)=U e):CSpec P c s e t.st:=by
 rw[<-o]at g;cases hr:Eu P hints b d c s t with
 |none=>rw[hr]at g;exact g.elim
 |some r =>
  rw[hr]at g k m;have f:Ey r.eq:=Ai k;have u:r.e=e:=by simpa[exO]using m
  unfold Eu at hr;split at hr;cases hr;rename_i q x;split at hr;cases hr;rename_i s' j;split at hr;rotate_left;cases hr;rename_i l v;cases hr;intro n h y a w p;refine wp_mono (Ms x g f.left n h y a w p) ?_;rintro e' a' w' ⟨rfl,i⟩;exact⟨by rw[<-u],AQ v f.right (Pd j i)⟩
end Go.Sx
