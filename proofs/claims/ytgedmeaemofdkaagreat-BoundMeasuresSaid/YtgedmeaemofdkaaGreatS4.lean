/-
 The statement BoundMeasures: part 4.
 Conditions: none.
-/
import Derived.Deep.Slices
import Derived.KernelRfl
import Derived.ProofKit
import Derived.SizedLaws
import Derived.Test.YtgedmeaemofdkaaGreatS3
set_option maxRecDepth 100000
set_option maxHeartbeats 2000000
set_option linter.all false
open Bool renaming true->U,false->Y,and_eq_true->O
open Option renaming some->X,none->L,map_eq_some_iff->Lj
open Go.DataW renaming weightsEach->Z,trod->Ld,TrodAll->Lf,weights->Ll,weightsAll->Lm
open List renaming getElem?_eq_getElem->N,mem_append->La,getElem?_map->Lb,getElem?_eq_some_iff->Le,all_eq_true->Lg,mem_map->Lh,mem_range->Li,all_cons->Ln,getD->Lo
open Nat renaming blt->M,beq->Lp,eq_of_beq_eq_true->Lq
open Go.Value renaming cells->Lc,okWide->Lr
open Go.World renaming cells?_some->Lk
namespace Go.Sx
open Go.ChangeShapes Go.WideShapes Go.ChangeAt Go.RowKit
def Zok(f:Nat->List DV->Prop):List Field->List DV->Prop
 | [],l=>l=[]
 | fd::fs,l=>∃ a b,l=a++b/\f fd.type a/\Zok f fs b
def shp(P:Program):Nat->Nat->List DV->Prop
 | 0,_,_=>False
 | n+1,t,l=>match P.underlying t with
  | some (.int k)=>∃ x:Int,l=[.sc (.int k x)]/\(Lit.int k x).wf=U
  | some .bool=>∃ b:Bool,l=[.sc (.bool b)]
  | some (.slice e)=>∃ els:List (List DV),l=[.sl (P.cellsOf e) els]/\els.length<=140737488355328/\∀ x∈els,shp P n e x
  | some (.struct fs)=>Zok (shp P n) fs.toList l
  | _=>False
def Zlz(c:Nat->Nat):List Field->Nat->Nat->Bool
 | [],off,tot=>Lp off tot
 | f::fs,off,tot=>Lp f.offset off&&Zlz c fs (off+c f.type) tot
def Z4z(P:Program):Nat->Nat->Bool
 | 0,_=>Y
 | n+1,t=>match P.underlying t with
  | some (.int _)=>U
  | some .bool=>U
  | some (.slice e)=>Z4z P n e&&(M 0 (P.cellsOf e)&&M 0 (P.bytesOf e))
  | some (.struct fs)=>Zlz P.cellsOf fs.toList 0 (P.cellsOf t)&&fs.toList.all λf=>Z4z P n f.type
  | _=>Y
def RelDs(w:World)(Im:Nat->Prop)(l:List DV)(cs:List Value):Prop:=l.length=cs.length/\∀ (i:Nat) (x:DV) (v:Value),l[i]? = X x->cs[i]? = X v->RelD w Im x v
def RelDs.append{w:World}{Im:Nat->Prop}{a b:List DV}{x y:List Value}(h:RelDs w Im a x)(k:RelDs w Im b y):RelDs w Im (a++b) (x++y):=by
 obtain⟨h1,h2⟩:=h;obtain⟨k1,k2⟩:=k;refine⟨by simp[h1,k1],λi d v hd hv=>?_⟩;rw[List.getElem?_append]at hd hv;rw[h1]at hd;split at hd
 .rename_i hi;rw[if_pos hi]at hv;exact h2 i d v hd hv
 .rename_i hi;rw[if_neg hi]at hv;exact k2 _ d v hd hv
def RelDs.one{w:World}{Im:Nat->Prop}{d:DV}{v:Value}(h:RelD w Im d v):RelDs w Im [d] [v]:=by
 refine⟨rfl,λi x u hx hu=>?_⟩;cases i with
 | zero=>simp at hx hu;subst hx;subst hu;exact h
 | succ i=>simp at hx
section
variable {H:Type} {enc:TypeId×Value->H} {P:Program} {w:World} {base:Nat} {spare:Nat->Bool} {held:Bool}
theorem Z5B{e:TypeId}:∀ {ds:List (DataW H)} {d:DataW H},d∈ds->∀ n∈d.weights P e,n∈Lm P e ds
 | [],d,h,_,_=>by simp at h
 | a::ds,d,h,n,hn=>by
  simp only[Lm,La];rcases List.mem_cons.1 h with rfl | h
  .exact .inl hn
  .exact .inr (Z5B h n hn)
theorem Z8t{n m:Nat}{cs:List Value}(ih:∀ (t:Nat) (cs:List Value) (x:DataW H×List MemPlace),Z4z P n t=U->Ld enc P w base spare held m t cs=X x->(∀ k∈x.1.weights P t,k<=reachBytes)->∃ l,shp P n t l/\RelDs w (λg=>g<w.heap.size) l cs) :
  ∀ (fs:List Field) (off:Nat),Zlz P.cellsOf fs off cs.length=U->(∀ f∈fs,Z4z P n f.type=U) ->
  (∀ f∈fs,∃ x,Ld enc P w base spare held m f.type ((cs.drop f.offset).take (P.cellsOf f.type))=X x/\∀ k∈x.1.weights P f.type,k<=reachBytes) ->
  ∃ l,Zok (shp P n) fs l/\RelDs w (λg=>g<w.heap.size) l (cs.drop off)
 | [],off,ht,_,_=>by
  have:off=cs.length:=Lq ht;exact⟨[],rfl,by subst this;simp[RelDs]⟩
 | f::fs,off,ht,hp,hx=>by
  simp only[Zlz,O]at ht;obtain⟨h1,h2⟩:=ht;have ho:f.offset=off:=Lq h1;obtain⟨x,k1,k2⟩:=hx f pq;obtain⟨a,k3,k4⟩:=ih _ _ _ (hp f pq) k1 k2;obtain⟨b,k5,k6⟩:=Z8t ih fs _ h2 (λg hg=>hp g (by simp[hg])) (λg hg=>hx g (by simp[hg]));refine⟨a++b,⟨a,b,rfl,k3,k5⟩, ?_⟩;rw[ho]at k4;have:=k4.append k6;rw[<- List.drop_drop,List.take_append_drop]at this;exact this
theorem read:∀ (n m t:Nat) (cs:List Value) (x:DataW H×List MemPlace),Z4z P n t=U->Ld enc P w base spare held m t cs=X x->(∀ k∈x.1.weights P t,k<=reachBytes)->∃ l,shp P n t l/\RelDs w (λg=>g<w.heap.size) l cs
 | 0,m,t,cs,x,hp,_,_=>by simp[Z4z]at hp
 | n+1,m,t,cs,x,hp,h,hw=>by
  unfold Z4z at hp;unfold shp;split at hp
  .rename_i k hu;obtain⟨y,rfl,_,hwf⟩:=DataW.trod_int hu h;exact⟨[.sc (.int k y)],⟨y,rfl,hwf⟩,RelDs.one (.sc _ rfl)⟩
  .rename_i hu;obtain⟨b,rfl,_⟩:=DataW.trod_bool hu h;exact⟨[.sc (.bool b)],⟨b,rfl⟩,RelDs.one (.sc _ rfl)⟩
  .rename_i e hu;simp only[O]at hp;obtain⟨hp1,hp2,hp3⟩:=hp;have hc:0<P.cellsOf e:=by
    have:1<=P.cellsOf e:=by simpa[M]using hp2
    omega
   have hb:0<P.bytesOf e:=by
    have:1<=P.bytesOf e:=by simpa[M]using hp3
    omega
   rcases Deep.open_slice hu h with⟨rfl,_⟩ | ⟨a,len,cap,mm,q,D,Pl,rfl,hbase,hlc,hcm,hmm,rfl,hx⟩
   .exact⟨[.sl (P.cellsOf e) []],⟨[],rfl,by simp,by simp⟩,RelDs.one (.slNil _ _ _)⟩
   .have hle:len<=mm:=by rw[hmm];split<;>omega
    simp only[Ll,hu]at hw;have hlen:len<=reachBytes:=by
     have:=hw _ (List.mem_cons_self);simp only[List.length_map,List.length_range]at this;have h1:len+(mm-len)<=(len+(mm-len))*P.bytesOf e:=Nat.le_mul_of_pos_right _ hb;omega
    have hr:=reachBytes_lt;have hsome:∀ i,i<len->∃ p:List DV×List Value,w.cells? base (a.add (i*P.cellsOf e)) (P.cellsOf e)=X p.2/\shp P n e p.1/\RelDs w (λg=>g<w.heap.size) p.1 p.2:=by
     intro i hi;obtain⟨cs',h1,h2⟩:=hx i oq;obtain⟨l,h3,h4⟩:=read n q e cs' _ hp1 h2 (λk hk=>hw k (by
      refine List.mem_cons_of_mem _ (La.2 (.inl (Z5B (d:=D i) ?_ k hk)));exact Lh.2 ⟨i,Li.2 hi,rfl⟩))
     exact⟨(l,cs'),h1,h3,h4⟩
    obtain⟨F,hF⟩:=Deep.choose_lt hsome;refine⟨[.sl (P.cellsOf e) ((List.range len).map λi=>(F i).1)],⟨_,rfl,by simp;omega,λx hx=>?_⟩,RelDs.one ?_⟩
    .obtain⟨i,hi,rfl⟩:=Lh.1 hx;exact(hF i (Li.1 hi)).2.1
    .by_cases h0:len=0
     .subst h0;exact .slNil _ _ _
     .obtain⟨k1,k2,k3⟩:=Lk (hF 0 oq).1;have c0:=k3 0 hc;have hsp:a.spot=L:=by
       have e0:(F 0).2[0]? = X ((F 0).2[0]' oq):=N oq;rw[e0]at c0;have:=World.cell?_spot c0;simpa[Addr.add]using this
      have hblk:a.block<w.heap.size:=by
       have:=World.cells?_block (hF 0 oq).1 hc;simpa[Addr.add]using this
      obtain⟨ab,ao,as⟩:=a;simp only at hsp;subst hsp;refine .sl _ _ _ _ _ (λi o=>(F i).2.getD o default) pq hlc (by rw[ZoP];omega) (λl hl=>?_) rfl hblk (λi l o d hl ho=>?_) (λi l o d hl ho=>?_)
      .obtain⟨i,hi,rfl⟩:=Lh.1 hl;obtain⟨g1,_,g3⟩:=hF i (Li.1 hi);obtain⟨_,g4,_⟩:=Lk g1;rw[g3.1,g4]
      .simp only[Lb,Lj]at hl;obtain⟨j,hj,rfl⟩:=hl;obtain⟨hj1,hj2⟩:=Le.1 hj;simp at hj2 hj1;subst hj2;obtain⟨g1,_,g3⟩:=hF i hj1;obtain⟨_,g4,g5⟩:=Lk g1;have holt:o<(F i).2.length:=by rw[<- g3.1];exact(Le.1 ho).1
       have:=g5 o oq;rw[Addr.add_lit,Addr.add_lit,N holt]at this;rw[<- Nat.add_assoc,this];simp[Lo,N holt]
      .simp only[Lb,Lj]at hl;obtain⟨j,hj,rfl⟩:=hl;obtain⟨hj1,hj2⟩:=Le.1 hj;simp at hj2 hj1;subst hj2;obtain⟨g1,_,g3⟩:=hF i hj1;have holt:o<(F i).2.length:=by rw[<- g3.1];exact(Le.1 ho).1
       refine g3.2 o d _ ho ?_;simp[Lo,N holt]
  .rename_i fs hu;simp only[O,Lg]at hp;obtain⟨hp1,hp2⟩:=hp;obtain⟨xs,q,rfl,rfl,hl,hxl,hx⟩:=DataW.trod_struct hu h;simp only[Ll,hu]at hw;obtain⟨l,h1,h2⟩:=Z8t (cs:=cs) (λt cs x a b c=>read n q t cs x a b c) fs.toList 0 (by rw[hl];exact hp1) hp2 (λf hf=>by
    obtain⟨i,hi,rfl⟩:=List.getElem_of_mem hf;have hi':i<xs.length:=by rw[hxl];simpa using hi
    refine⟨xs[i], ?_,λk hk=>hw k (DataW.weights_mem_each (j:=i) (t:=fs.toList[i].type) (d:=xs[i].1) ?_ ?_ k hk)⟩
    .rw[<- N hi'];exact hx i _ pq
    .rw[Lb,N hi];rfl
    .rw[Lb,N hi'];rfl)
   exact⟨l,h1,by simpa using h2⟩
  .cases hp
end
def Z9A{P:Program}{f:Nat}{as:List AV}{fr b:Bool}(h:GSpec P f as fr (bool b) []){W:World}{vs:Array Value}(hsz:vs.size=as.length)
  (hrel:∀ (i:Nat) (x:AV) (v:Value),as[i]? = X x->vs[i]? = X v->Rel (λ_=>L) W (λg=>g<W.heap.size) x v) :
  Calls P f vs W λe W'=>e = .returned (.bool b)/\Below W.heap.size W W':=by
 refine(h W _ vs (λg hg=>hg) hsz hrel).mono ?_;rintro e W' ⟨v,rfl,K,ρ',Im',_,_,_,_,_,_,hr⟩;have hv:v = .bool b:=by
  cases hr with
  | d hr=>cases hr with | sc=>rfl
 subst hv;exact⟨rfl,K.os,K.tape,K.output,K.size,λk hk=>K.block k hk (λh=>h)⟩
section
variable {H:Type} {enc:TypeId×Value->H} {P:Program}
theorem Z6v(hl:laidOutB P=U){W W':World}(hB:Below W.heap.size W W'):∀ {ts:List TypeId} {vs:List Value} {ds:List (DataW H)} {ps:List MemPlace},(ts.all λt=>P.readableRec t&&M t P.types.size)=U ->
  Lf enc P W 0 (λ_=>U) U ts vs ds ps->(∀ x∈ps,x.block<W.heap.size)->Lf enc P W' 0 (λb=>decide (b<W.heap.size)) U ts vs ds ps
 | [],vs,ds,ps,_,h,_=>by
  obtain⟨rfl,rfl,rfl⟩:=trodAll_nil h;rfl
 | t::ts,vs,ds,ps,hts,h,hlt=>by
  obtain⟨v,vs1,d,ds1,a,b,rfl,rfl,rfl,h1,h2⟩:=trodAll_cons h;simp only[Ln,O]at hts;obtain⟨⟨q1,q2⟩,q3⟩:=hts;have q2':t<P.types.size:=by
   have:Nat.succ t<=P.types.size:=by simpa[M]using q2
   exact Nat.lt_of_succ_le this
  exact⟨a,b,Below.trod hl q1 q2' h1 hB (λx hx=>hlt x (La.2 (.inl hx))),Z6v hl hB q3 h2 (λx hx=>hlt x (La.2 (.inr hx))),rfl⟩
theorem Zb2{f:Func}{s:ChangeSpec}{tb:Nat}{W W':World}{args:Array Value}{ds gs:List (DataW H)}{before:List MemPlace}(hl:laidOutB P=U)
  (hts:(f.params.toList.all λt=>P.readableRec t&&M t P.types.size)=U) (hrt:f.resultTypes = #[tb]) (htb:P.underlying tb=X .bool) (hsv:s.vars=[])
  (hW:DataW.Whole enc P f.params.toList s.vars Y W args.toList ds gs before) (hfn:s.fn H (ds++gs) = { results:=[.lit (.bool U)],args:=ds }) (hB:Below W.heap.size W W') :
  s.post enc P f Y U Y Y W args (.bool U) W':=by
 have hW0:=hW;obtain⟨p,q,hA,hV,rfl,hfz,hnd⟩:=hW;rw[hsv]at hV;obtain⟨rfl,rfl⟩:=trodVars_none hV;refine⟨ds,[],p++[],[],p,[],hW0, ?_, ?_, ?_,hB.frame _,λh=>nomatch h⟩
 .rw[hfn,hrt];refine⟨[],[],⟨1, ?_⟩,rfl,rfl⟩;simp[Ld,htb,Lc]
 .rw[hfn];exact Z6v hl hB hts hA (λx hx=>hW0.lt x (La.2 (.inl hx)))
 .rw[hfn,hsv];rfl
end
def Zes{W:World}{Im:Nat->Prop}{x:DV}{v:Value}(h:RelDs W Im [x] v.cells.toList)(hn:∀ cs,v≠.agg cs):Rel (λ_=>L) W Im (.d x) v:=by
 have:v.cells = #[v]:=by cases v<;>first | rfl | exact absurd rfl (hn _)
 rw[this]at h;exact .d (h.2 0 x v rfl rfl)
def Zn0{W:World}{Im:Nat->Prop}{l:List DV}{cs:Array Value}(h:RelDs W Im l (Value.agg cs).cells.toList):Rel (λ_=>L) W Im (.ag (l.map .d)) (.agg cs):=by
 obtain⟨h1,h2⟩:=h;refine .ag _ cs (by simpa[Lc]using h1.symm) (λi v hv=>?_) λi a v ha hv=>?_
 .have hi:i<l.length:=by
   have:=(Array.getElem?_eq_some_iff.1 hv).1;simp[Lc]at h1;omega
  exact(h2 i l[i] v (N hi) (by simpa[Lc]using hv)).one
 .simp only[Lb,Lj]at ha;obtain⟨x,hx,rfl⟩:=ha;exact .d (h2 i x v hx (by simpa[Lc]using hv))
def Zg1(P:Program)(t:Nat):Bool:=match P.underlying t with
 | some (.struct _)=>U
 | _=>Y
def avT(P:Program)(t:Nat)(l:List DV):AV:=match Zg1 P t with
 | true=>.ag (l.map .d)
 | false=>match l with
  | [x]=>.d x
  | _=>.any
def Zb5(P:Program):List Nat->List (List DV)->List AV
 | t::ts,l::ls=>avT P t l::Zb5 P ts ls
 | _,_=>[]
def ZmT{P:Program}{n t base:Nat}{r:Reach}{W:World}{l:List DV}{v:Value}{Im:Nat->Prop}(hp:Z4z P n t=U)(hok:Lr P W r base t v)(h:RelDs W Im l v.cells.toList)(hs:shp P n t l):Rel (λ_=>L) W Im (avT P t l) v:=by
 cases n with
 | zero=>simp[Z4z]at hp
 | succ n =>
  unfold Z4z at hp;unfold shp at hs;unfold avT Zg1;split at hp
  .rename_i k hu;rw[hu]at hs ⊢;obtain⟨x,rfl,_⟩:=hs;obtain⟨m,rfl⟩:=okWide_int hu hok;exact Zes h (λcs h=>nomatch h)
  .rename_i hu;rw[hu]at hs ⊢;obtain⟨x,rfl⟩:=hs;obtain⟨m,rfl⟩:=okWide_bool hu hok;exact Zes h (λcs h=>nomatch h)
  .rename_i e hu;rw[hu]at hs ⊢;obtain⟨x,rfl,_⟩:=hs;obtain⟨a,len,cap,rfl⟩:=okWide_slice hu hok;exact Zes h (λcs h=>nomatch h)
  .rename_i fs hu;rw[hu]at hs ⊢;obtain⟨cs,rfl,_⟩:=okWide_struct hu hok;exact Zn0 h
  .cases hp
def Zcz{H:Type}{enc:TypeId×Value->H}{P:Program}{W:World}{spare:Nat->Bool}{n base:Nat}{r:Reach}:∀ {ts:List TypeId} {vs:List Value} {ds:List (DataW H)} {ps:List MemPlace},Lf enc P W 0 spare U ts vs ds ps ->
  ((Z P ts ds).all (· <= reachBytes))=U->(ts.all λt=>Z4z P n t)=U->(∀ (j:Nat) t v,ts[j]? = X t->vs[j]? = X v->Lr P W r base t v) ->
  ∃ ls:List (List DV),ls.length=ts.length/\ds.length=ts.length/\(∀ (i t:Nat) (l:List DV),ts[i]? = X t->ls[i]? = X l->shp P n t l)/\vs.length=(Zb5 P ts ls).length /\
   ∀ (i:Nat) (x:AV) (v:Value),(Zb5 P ts ls)[i]? = X x->vs[i]? = X v->Rel (λ_=>L) W (λg=>g<W.heap.size) x v
 | [],vs,ds,ps,hA,_,_,_=>by
  obtain⟨rfl,rfl,rfl⟩:=trodAll_nil hA;exact⟨[],rfl,rfl,by simp,rfl,by simp[Zb5]⟩
 | t::ts,vs,ds,ps,hA,hw,hp,hok=>by
  obtain⟨v,vs1,d,ds1,a,b,rfl,rfl,rfl,h1,h2⟩:=trodAll_cons hA;simp only[Z,List.all_append,O,Lg,decide_eq_true_eq]at hw;simp only[Ln,O]at hp;obtain⟨ls,k1,k2,k3,k4,k5⟩:=Zcz (n:=n) h2 (by simpa using hw.2) hp.2 (λj t v ht hv=>hok (j+1) t v (by simpa using ht) (by simpa using hv));obtain⟨m,hm⟩:=h1;obtain⟨l,q1,q2⟩:=read n m _ _ _ hp.1 hm hw.1;refine⟨l::ls,by simp[k1],by simp[k2],λi t' l' ht hl=>?_,by simp[Zb5,k4],λi x u hx hu=>?_⟩
  .cases i with
   | zero=>simp at ht hl;subst ht;subst hl;exact q1
   | succ i=>exact k3 i t' l' (by simpa using ht) (by simpa using hl)
  .cases i with
   | zero =>
    simp[Zb5]at hx hu;subst hx;subst hu;exact ZmT hp.1 (hok 0 t v rfl rfl) q2 q1
   | succ i=>exact k5 i x u (by simpa[Zb5]using hx) (by simpa using hu)
def ZcT{C:Checked}{os:Os}{f:FuncId}{fn:Func}{s:ChangeSpec}{H:Type}{enc:TypeId×Value->H}{tb:Nat}(n:Nat)
  (own:ownKnob C.prog.godebug=L) (started:os.Started) (noInit:C.prog.inits.idxOf? f=L) (hfn:C.prog.funcs[f]? = X fn)
  (witness:∃ (w:World) (tape:Tape) (i:Input),w.os=os/\(w.forCall tape i).Shaped C.prog/\i.vars=[]/\Input.okWide C.prog (w.forCall tape i) .any w.heap.size f i /\
   s.pre6 enc C.prog fn [] Y (w.forCall tape i).memory i.args/\({}:Assume).holds C.prog (lone (Frame.enter C.prog f i.args .normal) [] (w.forCall tape i)))
  (hl:laidOutB C.prog=U) (hts:(fn.params.toList.all λt=>C.prog.readableRec t&&M t C.prog.types.size)=U) (hplain:(fn.params.toList.all λt=>Z4z C.prog n t)=U)
  (hrt:fn.resultTypes = #[tb]) (htb:C.prog.underlying tb=X .bool) (hsv:s.vars=[]) (hres:∀ ds:List (DataW H),ds.length=fn.params.toList.length->s.fn H (ds++[]) = { results:=[.lit (.bool U)],args:=ds })
  (key:∀ ls:List (List DV),ls.length=fn.params.toList.length->(∀ (i t:Nat) (l:List DV),fn.params.toList[i]? = X t->ls[i]? = X l->shp C.prog n t l)->∃ fr,GSpec C.prog f (Zb5 C.prog fn.params.toList ls) fr (bool U) []) :
  ReturnsInHanded {} C os f .any (s.pre6 enc C.prog fn [] Y) (s.post enc C.prog fn Y U Y Y):=by
 refine returnsInHanded_of_change_sized own started noInit hfn witness ?_;intro W base args ds gs before hval hW _ hsz _;have hW0:=hW;obtain⟨p,q,hA,hV,rfl,_,_⟩:=hW;rw[hsv]at hV;obtain⟨rfl,rfl⟩:=trodVars_none hV;have hsz':((Z C.prog fn.params.toList ds).all (· <= reachBytes))=U:=by
  rw[List.append_nil]at hsz;rw[Lg]at hsz ⊢;intro k hk;refine hsz k ?_;revert hk;have:∀ (ts us:List TypeId) (ds:List (DataW H)),k∈Z C.prog ts ds->k∈Z C.prog (ts++us) ds:=by
   intro ts us;induction ts with
   | nil=>intro ds h;cases ds<;>simp[Z]at h
   | cons t ts ih =>
    intro ds h;cases ds with
    | nil=>simp[Z]at h
    | cons d ds =>
     simp only[List.cons_append,Z,La]at h ⊢;exact h.imp id (ih ds)
  exact this _ _ _
 obtain⟨ls,k1,k2,k3,k4,k5⟩:=Zcz (n:=n) hA hsz' hplain (λj t v ht hv=>hval j t v (by simpa using ht) (by simpa using hv));obtain⟨fr,hG⟩:=key ls k1 k3;refine(Z9A hG (by simpa using k4) (λi x v hx hv=>k5 i x v hx (by simpa using hv))).mono ?_;rintro e W' ⟨rfl,hB⟩;exact⟨_,rfl,Zb2 hl hts hrt htb hsv hW0 (hres ds k2) hB⟩
end Go.Sx
