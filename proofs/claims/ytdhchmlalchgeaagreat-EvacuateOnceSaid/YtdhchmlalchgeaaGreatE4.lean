/-
 The statement EvacuateOnce: part 4.
 Conditions: none.
-/
import Derived.Deep.Slices
import Derived.KernelRfl
import Derived.ProofKit
import Derived.SizedLaws
import Derived.Test.YtdhchmlalchgeaaGreatE3
set_option maxRecDepth 100000
set_option maxHeartbeats 2000000
set_option linter.all false
namespace Go.Sx
open Go.ChangeShapes Go.WideShapes Go.ChangeAt Go.RowKit
def ZnD(f:Nat→List DV→Prop):List Field→List DV→Prop
 | [],l=>l=[]
 | fd::fs,l=>∃ a b,l=a++b∧f fd.type a∧ZnD f fs b
def shp(P:Program):Nat→Nat→List DV→Prop
 | 0,_,_=>False
 | n+1,t,l=>match P.underlying t with
  | some (.int k)=>∃ x:Int,l=[.sc (.int k x)]∧(Lit.int k x).wf=true
  | some .bool=>∃ b:Bool,l=[.sc (.bool b)]
  | some (.slice e)=>∃ els:List (List DV),l=[.sl (P.cellsOf e) els]∧els.length≤140737488355328∧∀ x∈els,shp P n e x
  | some (.struct fs)=>ZnD (shp P n) fs.toList l
  | _=>False
def Zl9(c:Nat→Nat):List Field→Nat→Nat→Bool
 | [],off,tot=>Nat.beq off tot
 | f::fs,off,tot=>Nat.beq f.offset off&&Zl9 c fs (off+c f.type) tot
def Z4K(P:Program):Nat→Nat→Bool
 | 0,_=>false
 | n+1,t=>match P.underlying t with
  | some (.int _)=>true
  | some .bool=>true
  | some (.slice e)=>Z4K P n e&&(Nat.blt 0 (P.cellsOf e)&&Nat.blt 0 (P.bytesOf e))
  | some (.struct fs)=>Zl9 P.cellsOf fs.toList 0 (P.cellsOf t)&&fs.toList.all fun f=>Z4K P n f.type
  | _=>false
def RelDs(w:World)(Im:Nat→Prop)(l:List DV)(cs:List Value):Prop:=l.length=cs.length∧∀ (i:Nat) (x:DV) (v:Value),l[i]? = some x→cs[i]? = some v→RelD w Im x v
theorem RelDs.append{w:World}{Im:Nat→Prop}{a b:List DV}{x y:List Value}(h:RelDs w Im a x)(k:RelDs w Im b y):RelDs w Im (a++b) (x++y):=by
 obtain⟨h1,h2⟩:=h;obtain⟨k1,k2⟩:=k;refine⟨by simp[h1,k1],fun i d v hd hv=>?_⟩;rw[List.getElem?_append]at hd hv;rw[h1]at hd;split at hd
 ·rename_i hi;rw[if_pos hi]at hv;exact h2 i d v hd hv
 ·rename_i hi;rw[if_neg hi]at hv;exact k2 _ d v hd hv
theorem RelDs.one{w:World}{Im:Nat→Prop}{d:DV}{v:Value}(h:RelD w Im d v):RelDs w Im [d] [v]:=by
 refine⟨rfl,fun i x u hx hu=>?_⟩;cases i with
 | zero=>simp at hx hu;subst hx;subst hu;exact h
 | succ i=>simp at hx
section
variable {H:Type} {enc:TypeId×Value→H} {P:Program} {w:World} {base:Nat} {spare:Nat→Bool} {held:Bool}
theorem Z60{e:TypeId}:∀ {ds:List (DataW H)} {d:DataW H},d∈ds→∀ n∈d.weights P e,n∈DataW.weightsAll P e ds
 | [],d,h,_,_=>by simp at h
 | a::ds,d,h,n,hn=>by
  simp only[DataW.weightsAll,List.mem_append];rcases List.mem_cons.1 h with rfl | h
  ·exact .inl hn
  ·exact .inr (Z60 h n hn)
theorem Z9J{n m:Nat}{cs:List Value}(ih:∀ (t:Nat) (cs:List Value) (x:DataW H×List MemPlace),Z4K P n t=true→DataW.trod enc P w base spare held m t cs=some x→(∀ k∈x.1.weights P t,k≤reachBytes)→∃ l,shp P n t l∧RelDs w (fun g=>g<w.heap.size) l cs) :
  ∀ (fs:List Field) (off:Nat),Zl9 P.cellsOf fs off cs.length=true→(∀ f∈fs,Z4K P n f.type=true) →
  (∀ f∈fs,∃ x,DataW.trod enc P w base spare held m f.type ((cs.drop f.offset).take (P.cellsOf f.type))=some x∧∀ k∈x.1.weights P f.type,k≤reachBytes) →
  ∃ l,ZnD (shp P n) fs l∧RelDs w (fun g=>g<w.heap.size) l (cs.drop off)
 | [],off,ht,_,_=>by
  have:off=cs.length:=Nat.eq_of_beq_eq_true ht;exact⟨[],rfl,by subst this;simp[RelDs]⟩
 | f::fs,off,ht,hp,hx=>by
  simp only[Zl9,Bool.and_eq_true]at ht;obtain⟨h1,h2⟩:=ht;have ho:f.offset=off:=Nat.eq_of_beq_eq_true h1;obtain⟨x,k1,k2⟩:=hx f pq;obtain⟨a,k3,k4⟩:=ih _ _ _ (hp f pq) k1 k2;obtain⟨b,k5,k6⟩:=Z9J ih fs _ h2 (fun g hg=>hp g (by simp[hg])) (fun g hg=>hx g (by simp[hg]));refine⟨a++b,⟨a,b,rfl,k3,k5⟩, ?_⟩;rw[ho]at k4;have:=k4.append k6;rw[← List.drop_drop,List.take_append_drop]at this;exact this
theorem read:∀ (n m t:Nat) (cs:List Value) (x:DataW H×List MemPlace),Z4K P n t=true→DataW.trod enc P w base spare held m t cs=some x→(∀ k∈x.1.weights P t,k≤reachBytes)→∃ l,shp P n t l∧RelDs w (fun g=>g<w.heap.size) l cs
 | 0,m,t,cs,x,hp,_,_=>by simp[Z4K]at hp
 | n+1,m,t,cs,x,hp,h,hw=>by
  unfold Z4K at hp;unfold shp;split at hp
  ·rename_i k hu;obtain⟨y,rfl,_,hwf⟩:=DataW.trod_int hu h;exact⟨[.sc (.int k y)],⟨y,rfl,hwf⟩,RelDs.one (.sc _ rfl)⟩
  ·rename_i hu;obtain⟨b,rfl,_⟩:=DataW.trod_bool hu h;exact⟨[.sc (.bool b)],⟨b,rfl⟩,RelDs.one (.sc _ rfl)⟩
  ·rename_i e hu;simp only[Bool.and_eq_true]at hp;obtain⟨hp1,hp2,hp3⟩:=hp;have hc:0<P.cellsOf e:=by
    have:1≤P.cellsOf e:=by simpa[Nat.blt]using hp2
    omega
   have hb:0<P.bytesOf e:=by
    have:1≤P.bytesOf e:=by simpa[Nat.blt]using hp3
    omega
   rcases Deep.open_slice hu h with⟨rfl,_⟩ | ⟨a,len,cap,mm,q,D,Pl,rfl,hbase,hlc,hcm,hmm,rfl,hx⟩
   ·exact⟨[.sl (P.cellsOf e) []],⟨[],rfl,by simp,by simp⟩,RelDs.one (.slNil _ _ _)⟩
   ·have hle:len≤mm:=by rw[hmm];split<;>omega
    simp only[DataW.weights,hu]at hw;have hlen:len≤reachBytes:=by
     have:=hw _ (List.mem_cons_self);simp only[List.length_map,List.length_range]at this;have h1:len+(mm-len)≤(len+(mm-len))*P.bytesOf e:=Nat.le_mul_of_pos_right _ hb;omega
    have hr:=reachBytes_lt;have hsome:∀ i,i<len→∃ p:List DV×List Value,w.cells? base (a.add (i*P.cellsOf e)) (P.cellsOf e)=some p.2∧shp P n e p.1∧RelDs w (fun g=>g<w.heap.size) p.1 p.2:=by
     intro i hi;obtain⟨cs',h1,h2⟩:=hx i oq;obtain⟨l,h3,h4⟩:=read n q e cs' _ hp1 h2 (fun k hk=>hw k (by
      refine List.mem_cons_of_mem _ (List.mem_append.2 (.inl (Z60 (d:=D i) ?_ k hk)));exact List.mem_map.2 ⟨i,List.mem_range.2 hi,rfl⟩))
     exact⟨(l,cs'),h1,h3,h4⟩
    obtain⟨F,hF⟩:=Deep.choose_lt hsome;refine⟨[.sl (P.cellsOf e) ((List.range len).map fun i=>(F i).1)],⟨_,rfl,by simp;omega,fun x hx=>?_⟩,RelDs.one ?_⟩
    ·obtain⟨i,hi,rfl⟩:=List.mem_map.1 hx;exact(hF i (List.mem_range.1 hi)).2.1
    ·by_cases h0:len=0
     ·subst h0;exact .slNil _ _ _
     ·obtain⟨k1,k2,k3⟩:=World.cells?_some (hF 0 oq).1;have c0:=k3 0 hc;have hsp:a.spot=none:=by
       have e0:(F 0).2[0]? = some ((F 0).2[0]' oq):=List.getElem?_eq_getElem oq;rw[e0]at c0;have:=World.cell?_spot c0;simpa[Addr.add]using this
      have hblk:a.block<w.heap.size:=by
       have:=World.cells?_block (hF 0 oq).1 hc;simpa[Addr.add]using this
      obtain⟨ab,ao,as⟩:=a;simp only at hsp;subst hsp;refine .sl _ _ _ _ _ (fun i o=>(F i).2.getD o default) pq hlc (by rw[ZoW];omega) (fun l hl=>?_) rfl hblk (fun i l o d hl ho=>?_) (fun i l o d hl ho=>?_)
      ·obtain⟨i,hi,rfl⟩:=List.mem_map.1 hl;obtain⟨g1,_,g3⟩:=hF i (List.mem_range.1 hi);obtain⟨_,g4,_⟩:=World.cells?_some g1;rw[g3.1,g4]
      ·simp only[List.getElem?_map,Option.map_eq_some_iff]at hl;obtain⟨j,hj,rfl⟩:=hl;obtain⟨hj1,hj2⟩:=List.getElem?_eq_some_iff.1 hj;simp at hj2 hj1;subst hj2;obtain⟨g1,_,g3⟩:=hF i hj1;obtain⟨_,g4,g5⟩:=World.cells?_some g1;have holt:o<(F i).2.length:=by rw[← g3.1];exact(List.getElem?_eq_some_iff.1 ho).1
       have:=g5 o oq;rw[Addr.add_lit,Addr.add_lit,List.getElem?_eq_getElem holt]at this;rw[← Nat.add_assoc,this];simp[List.getD,List.getElem?_eq_getElem holt]
      ·simp only[List.getElem?_map,Option.map_eq_some_iff]at hl;obtain⟨j,hj,rfl⟩:=hl;obtain⟨hj1,hj2⟩:=List.getElem?_eq_some_iff.1 hj;simp at hj2 hj1;subst hj2;obtain⟨g1,_,g3⟩:=hF i hj1;have holt:o<(F i).2.length:=by rw[← g3.1];exact(List.getElem?_eq_some_iff.1 ho).1
       refine g3.2 o d _ ho ?_;simp[List.getD,List.getElem?_eq_getElem holt]
  ·rename_i fs hu;simp only[Bool.and_eq_true,List.all_eq_true]at hp;obtain⟨hp1,hp2⟩:=hp;obtain⟨xs,q,rfl,rfl,hl,hxl,hx⟩:=DataW.trod_struct hu h;simp only[DataW.weights,hu]at hw;obtain⟨l,h1,h2⟩:=Z9J (cs:=cs) (fun t cs x a b c=>read n q t cs x a b c) fs.toList 0 (by rw[hl];exact hp1) hp2 (fun f hf=>by
    obtain⟨i,hi,rfl⟩:=List.getElem_of_mem hf;have hi':i<xs.length:=by rw[hxl];simpa using hi
    refine⟨xs[i], ?_,fun k hk=>hw k (DataW.weights_mem_each (j:=i) (t:=fs.toList[i].type) (d:=xs[i].1) ?_ ?_ k hk)⟩
    ·rw[← List.getElem?_eq_getElem hi'];exact hx i _ pq
    ·rw[List.getElem?_map,List.getElem?_eq_getElem hi];rfl
    ·rw[List.getElem?_map,List.getElem?_eq_getElem hi'];rfl)
   exact⟨l,h1,by simpa using h2⟩
  ·cases hp
end
theorem Zac{P:Program}{f:Nat}{as:List AV}{fr b:Bool}(h:GSpec P f as fr (bool b) []){W:World}{vs:Array Value}(hsz:vs.size=as.length)
  (hrel:∀ (i:Nat) (x:AV) (v:Value),as[i]? = some x→vs[i]? = some v→Rel (fun _=>none) W (fun g=>g<W.heap.size) x v) :
  Calls P f vs W fun e W'=>e = .returned (.bool b)∧Below W.heap.size W W':=by
 refine(h W _ vs (fun g hg=>hg) hsz hrel).mono ?_;rintro e W' ⟨v,rfl,K,ρ',Im',_,_,_,_,_,_,hr⟩;have hv:v = .bool b:=by
  cases hr with
  | d hr=>cases hr with | sc=>rfl
 subst hv;exact⟨rfl,K.os,K.tape,K.output,K.size,fun k hk=>K.block k hk (fun h=>h)⟩
section
variable {H:Type} {enc:TypeId×Value→H} {P:Program}
theorem Z6w(hl:laidOutB P=true){W W':World}(hB:Below W.heap.size W W'):∀ {ts:List TypeId} {vs:List Value} {ds:List (DataW H)} {ps:List MemPlace},(ts.all fun t=>P.readableRec t&&Nat.blt t P.types.size)=true →
  DataW.TrodAll enc P W 0 (fun _=>true) true ts vs ds ps→(∀ x∈ps,x.block<W.heap.size)→DataW.TrodAll enc P W' 0 (fun b=>decide (b<W.heap.size)) true ts vs ds ps
 | [],vs,ds,ps,_,h,_=>by
  obtain⟨rfl,rfl,rfl⟩:=trodAll_nil h;rfl
 | t::ts,vs,ds,ps,hts,h,hlt=>by
  obtain⟨v,vs1,d,ds1,a,b,rfl,rfl,rfl,h1,h2⟩:=trodAll_cons h;simp only[List.all_cons,Bool.and_eq_true]at hts;obtain⟨⟨q1,q2⟩,q3⟩:=hts;have q2':t<P.types.size:=by
   have:Nat.succ t≤P.types.size:=by simpa[Nat.blt]using q2
   exact Nat.lt_of_succ_le this
  exact⟨a,b,Below.trod hl q1 q2' h1 hB (fun x hx=>hlt x (List.mem_append.2 (.inl hx))),Z6w hl hB q3 h2 (fun x hx=>hlt x (List.mem_append.2 (.inr hx))),rfl⟩
theorem Zch{f:Func}{s:ChangeSpec}{tb:Nat}{W W':World}{args:Array Value}{ds gs:List (DataW H)}{before:List MemPlace}(hl:laidOutB P=true)
  (hts:(f.params.toList.all fun t=>P.readableRec t&&Nat.blt t P.types.size)=true) (hrt:f.resultTypes = #[tb]) (htb:P.underlying tb=some .bool) (hsv:s.vars=[])
  (hW:DataW.Whole enc P f.params.toList s.vars false W args.toList ds gs before) (hfn:s.fn H (ds++gs) = { results:=[.lit (.bool true)],args:=ds }) (hB:Below W.heap.size W W') :
  s.post enc P f false true false false W args (.bool true) W':=by
 have hW0:=hW;obtain⟨p,q,hA,hV,rfl,hfz,hnd⟩:=hW;rw[hsv]at hV;obtain⟨rfl,rfl⟩:=trodVars_none hV;refine⟨ds,[],p++[],[],p,[],hW0, ?_, ?_, ?_,hB.frame _,fun h=>nomatch h⟩
 ·rw[hfn,hrt];refine⟨[],[],⟨1, ?_⟩,rfl,rfl⟩;simp[DataW.trod,htb,Value.cells]
 ·rw[hfn];exact Z6w hl hB hts hA (fun x hx=>hW0.lt x (List.mem_append.2 (.inl hx)))
 ·rw[hfn,hsv];rfl
end
theorem Zew{W:World}{Im:Nat→Prop}{x:DV}{v:Value}(h:RelDs W Im [x] v.cells.toList)(hn:∀ cs,v≠.agg cs):Rel (fun _=>none) W Im (.d x) v:=by
 have:v.cells = #[v]:=by cases v<;>first | rfl | exact absurd rfl (hn _)
 rw[this]at h;exact .d (h.2 0 x v rfl rfl)
theorem ZmY{W:World}{Im:Nat→Prop}{l:List DV}{cs:Array Value}(h:RelDs W Im l (Value.agg cs).cells.toList):Rel (fun _=>none) W Im (.ag (l.map .d)) (.agg cs):=by
 obtain⟨h1,h2⟩:=h;refine .ag _ cs (by simpa[Value.cells]using h1.symm) (fun i v hv=>?_) fun i a v ha hv=>?_
 ·have hi:i<l.length:=by
   have:=(Array.getElem?_eq_some_iff.1 hv).1;simp[Value.cells]at h1;omega
  exact(h2 i l[i] v (List.getElem?_eq_getElem hi) (by simpa[Value.cells]using hv)).one
 ·simp only[List.getElem?_map,Option.map_eq_some_iff]at ha;obtain⟨x,hx,rfl⟩:=ha;exact .d (h2 i x v hx (by simpa[Value.cells]using hv))
def Zfn(P:Program)(t:Nat):Bool:=match P.underlying t with
 | some (.struct _)=>true
 | _=>false
def avT(P:Program)(t:Nat)(l:List DV):AV:=match Zfn P t with
 | true=>.ag (l.map .d)
 | false=>match l with
  | [x]=>.d x
  | _=>.any
def Zbl(P:Program):List Nat→List (List DV)→List AV
 | t::ts,l::ls=>avT P t l::Zbl P ts ls
 | _,_=>[]
theorem Zov{P:Program}{n t base:Nat}{r:Reach}{W:World}{l:List DV}{v:Value}{Im:Nat→Prop}(hp:Z4K P n t=true)(hok:Value.okWide P W r base t v)(h:RelDs W Im l v.cells.toList)(hs:shp P n t l):Rel (fun _=>none) W Im (avT P t l) v:=by
 cases n with
 | zero=>simp[Z4K]at hp
 | succ n =>
  unfold Z4K at hp;unfold shp at hs;unfold avT Zfn;split at hp
  ·rename_i k hu;rw[hu]at hs ⊢;obtain⟨x,rfl,_⟩:=hs;obtain⟨m,rfl⟩:=okWide_int hu hok;exact Zew h (fun cs h=>nomatch h)
  ·rename_i hu;rw[hu]at hs ⊢;obtain⟨x,rfl⟩:=hs;obtain⟨m,rfl⟩:=okWide_bool hu hok;exact Zew h (fun cs h=>nomatch h)
  ·rename_i e hu;rw[hu]at hs ⊢;obtain⟨x,rfl,_⟩:=hs;obtain⟨a,len,cap,rfl⟩:=okWide_slice hu hok;exact Zew h (fun cs h=>nomatch h)
  ·rename_i fs hu;rw[hu]at hs ⊢;obtain⟨cs,rfl,_⟩:=okWide_struct hu hok;exact ZmY h
  ·cases hp
theorem ZcM{H:Type}{enc:TypeId×Value→H}{P:Program}{W:World}{spare:Nat→Bool}{n base:Nat}{r:Reach}:∀ {ts:List TypeId} {vs:List Value} {ds:List (DataW H)} {ps:List MemPlace},DataW.TrodAll enc P W 0 spare true ts vs ds ps →
  ((DataW.weightsEach P ts ds).all (· ≤ reachBytes))=true→(ts.all fun t=>Z4K P n t)=true→(∀ (j:Nat) t v,ts[j]? = some t→vs[j]? = some v→Value.okWide P W r base t v) →
  ∃ ls:List (List DV),ls.length=ts.length∧ds.length=ts.length∧(∀ (i t:Nat) (l:List DV),ts[i]? = some t→ls[i]? = some l→shp P n t l)∧vs.length=(Zbl P ts ls).length ∧
   ∀ (i:Nat) (x:AV) (v:Value),(Zbl P ts ls)[i]? = some x→vs[i]? = some v→Rel (fun _=>none) W (fun g=>g<W.heap.size) x v
 | [],vs,ds,ps,hA,_,_,_=>by
  obtain⟨rfl,rfl,rfl⟩:=trodAll_nil hA;exact⟨[],rfl,rfl,by simp,rfl,by simp[Zbl]⟩
 | t::ts,vs,ds,ps,hA,hw,hp,hok=>by
  obtain⟨v,vs1,d,ds1,a,b,rfl,rfl,rfl,h1,h2⟩:=trodAll_cons hA;simp only[DataW.weightsEach,List.all_append,Bool.and_eq_true,List.all_eq_true,decide_eq_true_eq]at hw;simp only[List.all_cons,Bool.and_eq_true]at hp;obtain⟨ls,k1,k2,k3,k4,k5⟩:=ZcM (n:=n) h2 (by simpa using hw.2) hp.2 (fun j t v ht hv=>hok (j+1) t v (by simpa using ht) (by simpa using hv));obtain⟨m,hm⟩:=h1;obtain⟨l,q1,q2⟩:=read n m _ _ _ hp.1 hm hw.1;refine⟨l::ls,by simp[k1],by simp[k2],fun i t' l' ht hl=>?_,by simp[Zbl,k4],fun i x u hx hu=>?_⟩
  ·cases i with
   | zero=>simp at ht hl;subst ht;subst hl;exact q1
   | succ i=>exact k3 i t' l' (by simpa using ht) (by simpa using hl)
  ·cases i with
   | zero =>
    simp[Zbl]at hx hu;subst hx;subst hu;exact Zov hp.1 (hok 0 t v rfl rfl) q2 q1
   | succ i=>exact k5 i x u (by simpa[Zbl]using hx) (by simpa using hu)
theorem Zd7{C:Checked}{os:Os}{f:FuncId}{fn:Func}{s:ChangeSpec}{H:Type}{enc:TypeId×Value→H}{tb:Nat}(n:Nat)
  (own:ownKnob C.prog.godebug=none) (started:os.Started) (noInit:C.prog.inits.idxOf? f=none) (hfn:C.prog.funcs[f]? = some fn)
  (witness:∃ (w:World) (tape:Tape) (i:Input),w.os=os∧(w.forCall tape i).Shaped C.prog∧i.vars=[]∧Input.okWide C.prog (w.forCall tape i) .any w.heap.size f i ∧
   s.pre6 enc C.prog fn [] false (w.forCall tape i).memory i.args∧({}:Assume).holds C.prog (lone (Frame.enter C.prog f i.args .normal) [] (w.forCall tape i)))
  (hl:laidOutB C.prog=true) (hts:(fn.params.toList.all fun t=>C.prog.readableRec t&&Nat.blt t C.prog.types.size)=true) (hplain:(fn.params.toList.all fun t=>Z4K C.prog n t)=true)
  (hrt:fn.resultTypes = #[tb]) (htb:C.prog.underlying tb=some .bool) (hsv:s.vars=[]) (hres:∀ ds:List (DataW H),ds.length=fn.params.toList.length→s.fn H (ds++[]) = { results:=[.lit (.bool true)],args:=ds })
  (key:∀ ls:List (List DV),ls.length=fn.params.toList.length→(∀ (i t:Nat) (l:List DV),fn.params.toList[i]? = some t→ls[i]? = some l→shp C.prog n t l)→∃ fr,GSpec C.prog f (Zbl C.prog fn.params.toList ls) fr (bool true) []) :
  ReturnsInHanded {} C os f .any (s.pre6 enc C.prog fn [] false) (s.post enc C.prog fn false true false false):=by
 refine returnsInHanded_of_change_sized own started noInit hfn witness ?_;intro W base args ds gs before hval hW _ hsz _;have hW0:=hW;obtain⟨p,q,hA,hV,rfl,_,_⟩:=hW;rw[hsv]at hV;obtain⟨rfl,rfl⟩:=trodVars_none hV;have hsz':((DataW.weightsEach C.prog fn.params.toList ds).all (· ≤ reachBytes))=true:=by
  rw[List.append_nil]at hsz;rw[List.all_eq_true]at hsz ⊢;intro k hk;refine hsz k ?_;revert hk;have:∀ (ts us:List TypeId) (ds:List (DataW H)),k∈DataW.weightsEach C.prog ts ds→k∈DataW.weightsEach C.prog (ts++us) ds:=by
   intro ts us;induction ts with
   | nil=>intro ds h;cases ds<;>simp[DataW.weightsEach]at h
   | cons t ts ih =>
    intro ds h;cases ds with
    | nil=>simp[DataW.weightsEach]at h
    | cons d ds =>
     simp only[List.cons_append,DataW.weightsEach,List.mem_append]at h ⊢;exact h.imp id (ih ds)
  exact this _ _ _
 obtain⟨ls,k1,k2,k3,k4,k5⟩:=ZcM (n:=n) hA hsz' hplain (fun j t v ht hv=>hval j t v (by simpa using ht) (by simpa using hv));obtain⟨fr,hG⟩:=key ls k1 k3;refine(Zac hG (by simpa using k4) (fun i x v hx hv=>k5 i x v hx (by simpa using hv))).mono ?_;rintro e W' ⟨rfl,hB⟩;exact⟨_,rfl,Zch hl hts hrt htb hsv hW0 (hres ds k2) hB⟩
end Go.Sx
