/-
 The statement EvacuateOnce: part 3.
 Conditions: none.
-/
import Derived.Test.YtdhchmlalchgeaaGreatE2
set_option maxRecDepth 100000
set_option maxHeartbeats 2000000
set_option linter.all false
namespace Go.Sx
open Go.Region
def Z8Q(P:Program)(clk:Nat)(ops:Array Oper)(hints:List (Nat×List Hint)):List Nat→List AV→Heap→Option (List Rec)
 | [],_,_=>some []
 | i::l,t,H=>match ops[i]? with
  | none=>none
  | some o=>match Z2F P clk ops hints o t H with
   | none=>none
   | some c=>match Z8Q P clk ops hints l (c.slot t) (applyU c.ups H)with
    | none=>none
    | some rs=>some (⟨i,Zhv hints t o,c⟩::rs)
theorem Z6D{P:Program}{clk:Nat}{ops:Array Oper}{hints:List (Nat×List Hint)}:∀ {l:List Nat} {t:List AV} {H:Heap} {recs:List Rec},Z8Q P clk ops hints l t H=some recs→ZdL P clk ops hints recs t H∧recs.map (·.i)=l
 | [],t,H,recs,h=>by
  simp only[Z8Q,Option.some.injEq]at h;subst h;exact⟨trivial,rfl⟩
 | i::l,t,H,recs,h=>by
  simp only[Z8Q]at h;split at h
  ·cases h
  rename_i o ho;split at h
  ·cases h
  rename_i c hc;split at h
  ·cases h
  rename_i rs hrs;cases h;obtain⟨h1,h2⟩:=Z6D hrs;exact⟨⟨o,ho,hc,rfl,h1⟩,by simp[h2]⟩
def phs:List Rec→List Prop
 | []=>[]
 | r::l=>r.c.ph++phs l
def eqs:List Rec→List (AV×AV)
 | []=>[]
 | r::l=>r.c.eq++eqs l
theorem ZjP:∀ {l:List Rec},allP (phs l)→∀ r∈l,allP r.c.ph
 | [],_,r,hr=>by simp at hr
 | x::l,h,r,hr=>by
  obtain⟨h1,h2⟩:=allP_append.1 h;rcases List.mem_cons.1 hr with e | e
  ·rw[e];exact h1
  ·exact ZjP h2 r e
theorem Zio:∀ {l:List Rec},EqP (eqs l)→∀ r∈l,EqP r.c.eq
 | [],_,r,hr=>by simp at hr
 | x::l,h,r,hr=>by
  rcases List.mem_cons.1 hr with e | e
  ·rw[e];exact h.left
  ·exact Zio h.right r e
structure Foot where
 i:Nat
 bits:Nat
 dst:Option Nat
 reads:List Nat
 rs:List Nat
 own:List Nat
 keys:List Nat
def mem2(b:Nat):List Nat→Bool
 | []=>false
 | x::l=>match Nat.beq x b with
  | true=>true
  | false=>mem2 b l
theorem ZbU{b:Nat}{l:List Nat}:mem2 b l=false↔b∉l:=by
 induction l with
 | nil=>simp[mem2]
 | cons x l ih =>
  simp only[mem2];cases h:Nat.beq x b with
  | true =>
   have:=Nat.eq_of_beq_eq_true h;simp[this]
  | false =>
   have:=Nat.ne_of_beq_eq_false h;simp only[ih,List.mem_cons,not_or];exact⟨fun h=>⟨fun e=>this e.symm,h⟩,fun h=>h.2⟩
def feet(clk:Nat)(ops:Array Oper)(bt:List Nat):List Rec→Option (List Foot)
 | []=>some []
 | r::l=>match ops[r.i]? with
  | none=>none
  | some o=>match feet clk ops bt l with
   | none=>none
   | some fs=>some (⟨r.i,bt.getD r.i 0,o.dst,Z3L ops o,r.rs,Z4R clk o,r.c.ups.map (·.1)⟩::fs)
def ZjR(y x:Foot):Bool :=
  (match y.dst with
   | some d=>!mem2 d x.reads&&(match x.dst with | some d'=>!Nat.beq d' d | none=>true)
   | none=>true) &&
  (match x.dst with
   | some d=>!mem2 d y.reads
   | none=>true) &&
  (y.keys.all fun b=>!mem2 b x.rs&&!mem2 b x.own&&!mem2 b x.keys) &&
  (x.keys.all fun b=>!mem2 b y.rs&&!mem2 b y.own)
def ZfW:List Foot→Bool
 | []=>true
 | y::l=>(l.all fun x=>x.bits.testBit y.i||ZjR y x)&&ZfW l
section
variable {clk:Nat} {ops:Array Oper}
def ZhN(clk:Nat)(ops:Array Oper)(bt:List Nat)(r:Rec)(f:Foot):Prop :=
 ∃ o,ops[r.i]? = some o∧f=⟨r.i,bt.getD r.i 0,o.dst,Z3L ops o,r.rs,Z4R clk o,r.c.ups.map (·.1)⟩
theorem Zjm{bt:List Nat}{y x:Rec}{fy fx:Foot}(hy:ZhN clk ops bt y fy)(hx:ZhN clk ops bt x fx)(h:ZjR fy fx=true):Apart clk ops y x:=by
 obtain⟨oy,hy1,rfl⟩:=hy;obtain⟨ox,hx1,rfl⟩:=hx;unfold ZjR at h;simp only[Bool.and_eq_true,List.all_eq_true,Bool.not_eq_true',ZbU]at h;obtain⟨⟨⟨h1,h2⟩,h3⟩,h4⟩:=h;refine⟨fun oy' ox' hy' hx'=>?_,fun ox' hx' b hb=>?_,fun oy' hy' b hb=>?_⟩
 ·rw[hy1]at hy';rw[hx1]at hx';cases hy';cases hx';refine⟨fun d hd=>?_,fun d hd=>?_⟩
  ·rw[hd]at h1;simp only[Bool.and_eq_true,Bool.not_eq_true',ZbU]at h1;refine⟨h1.1,fun hd'=>?_⟩;have h1:=h1.2;rw[hd']at h1;simp at h1
  ·rw[hd]at h2;simpa[ZbU]using h2
 ·rw[hx1]at hx';cases hx';obtain⟨⟨q1,q2⟩,q3⟩:=h3 b hb;exact⟨q1,q2,q3⟩
 ·rw[hy1]at hy';cases hy';exact h4 b hb
theorem Zfv{bt:List Nat}:∀ {l:List Rec} {fs:List Foot},feet clk ops bt l=some fs→∀ r∈l,∃ f∈fs,ZhN clk ops bt r f
 | [],_,_,r,hr=>by simp at hr
 | x::l,fs,h,r,hr=>by
  simp only[feet]at h;split at h
  ·cases h
  rename_i o ho;split at h
  ·cases h
  rename_i gs hgs;cases h;rcases List.mem_cons.1 hr with e | e
  ·subst e;exact⟨_,by simp,o,ho,rfl⟩
  ·obtain⟨f,hf,hi⟩:=Zfv hgs r e;exact⟨f,by simp[hf],hi⟩
theorem ZcS:∀ {l:List Rec} {fs:List Foot},feet clk ops (bitsOf ops) l=some fs→ZfW fs=true→PairsOk clk ops l
 | [],_,_,_=>trivial
 | y::l,fs,h,hp=>by
  simp only[feet]at h;split at h
  ·cases h
  rename_i o ho;split at h
  ·cases h
  rename_i gs hgs;cases h;simp only[ZfW,Bool.and_eq_true,List.all_eq_true,Bool.or_eq_true]at hp;refine⟨fun x hx=>?_,ZcS hgs hp.2⟩;obtain⟨f,hf,hi⟩:=Zfv hgs x hx;have hi':=hi;obtain⟨ox,hox,e⟩:=hi';rcases hp.1 f hf with h1 | h1
  ·left;rw[e]at h1;exact h1
  ·right;exact Zjm ⟨o,ho,rfl⟩ hi h1
end
def Z4C:List (Nat×List Hint)→Bool
 | []=>true
 | (_,.call _ _ news::_)::l=>Nat.ble news.length 7&&Z4C l
 | _::l=>Z4C l
theorem Z8v:∀ {hints:List (Nat×List Hint)},Z4C hints=true→∀ (d:Nat) fr res news r,look d hints = .call fr res news::r→news.length≤7
 | [],_,d,fr,res,news,r,h=>by simp[look]at h
 | (j,hs)::l,hf,d,fr,res,news,r,h=>by
  have hl:Z4C l=true:=by
   unfold Z4C at hf;split at hf
   ·cases ‹_=[]›
   ·rename_i h1;cases h1;exact(Bool.and_eq_true _ _▸hf).2
   ·rename_i h1;cases h1;exact hf
  simp only[look]at h;split at h
  ·subst h;simp only[Z4C,Bool.and_eq_true]at hf;exact Nat.le_of_ble_eq_true hf.1
  ·exact Z8v hl d fr res news r h
def Zed(P:Program)(clk:Nat)(ops:Array Oper)(hints:List (Nat×List Hint))(t:List AV)(H:Heap):Option Out :=
 match Z8Q P clk ops hints (List.range ops.size) t H with
 | none=>none
 | some recs=>match feet clk ops (bitsOf ops) recs with
  | none=>none
  | some fs=>match (P.follows .mixedOrders||!departs ops)&&(Zco 0 ops.toList&&(Z4C hints&&ZfW fs))with
   | true=>some ⟨ZbV recs t,Zbu recs H,phs recs,eqs recs⟩
   | false=>none
theorem ZgA{P:Program}{Ow:Own}{Im0:Nat→Prop}{w0:World}{clk:Nat}{hints:List (Nat×List Hint)}{ops:Array Oper}{Q:Exit→Act→World→Prop}{tmps:List AV}{H:Heap}{a:Act}{w:World}{out:Out}{id:Nat}
  (h:Zed P clk ops hints tmps H=some out) (hS:Sys Ow Im0 w0 tmps H clk a w) (hph:allP out.ph) (heq:EqP out.eq) (hQ:∀ a' w',Sys Ow Im0 w0 out.tmps out.H clk a' w'→Q .normal a' w'):(Code.region id ops true).wp P Q a w:=by
 unfold Zed at h;split at h
 ·cases h
 rename_i recs hrecs;split at h
 ·cases h
 rename_i fs hfs;split at h;rotate_left
 ·cases h
 rename_i hb;cases h;simp only[Bool.and_eq_true]at hb;obtain⟨hm,hback,hfit,hpairs⟩:=hb;obtain⟨hchain,hmap⟩:=Z6D hrecs;have hnf:Zbc ops hints:=fun i o _ d _ fr res news r hl=>Z8v hfit d fr res news r hl;refine wp_region_draw fun n=>?_;have hsch:schedule (P.follows .mixedOrders) ops n=linearise .any ops n:=by
  unfold schedule;rw[if_pos hm]
 rw[hsch];unfold linearise;have hlen:recs.length=ops.size:=by
  have:=congrArg List.length hmap;simpa using this
 have hget:∀ i,i<ops.size→(Array.replicate ops.size false).getD i true=false:=by
  intro i hi;simp[Array.getD,hi]
 obtain⟨l,h1,h2⟩:=ZlJ (clk:=clk) (ops:=ops) hback ops.size n (Array.replicate ops.size false) [] recs hlen pq (fun i hi=>by
   rw[hmap];exact⟨fun _=>List.mem_range.2 hi,fun _=>hget i hi⟩) (fun r hr=>by
   have:r.i∈recs.map (·.i):=List.mem_map.2 ⟨r,hr,rfl⟩;rw[hmap]at this;exact List.mem_range.1 this) (by rw[hmap];exact List.nodup_range) (ZcS hfs hpairs) (fun j hj hl=>by rw[hget j hj]at hl;cases hl)
 rw[h1];have hS':Sys Ow Im0 w0 tmps H clk a { w with drawn:=w.drawn+1 }:=by
  obtain⟨ρ,Im,I,T⟩:=hS;exact⟨ρ,Im,I.draw,T.mono (w':=w.drew) (Ext.draw Im w) (fun _ h=>h) (fun _ _ h=>h) I.bnd⟩
 exact Zky hnf h2 hchain hS' (fun r hr=>⟨ZjP hph r hr,Zio heq r hr⟩) hQ
def Z6J(P:Program)(clk:Nat)(ops:Array Oper)(hints:List (Nat×List Hint)):List Nat→List AV→Heap→Option Out
 | [],t,H=>some ⟨t,H,[],[]⟩
 | i::l,t,H=>match ops[i]? with
  | none=>none
  | some o=>match Z9c P clk ops hints o t H with
   | none=>none
   | some x=>match Z6J P clk ops hints l x.tmps x.H with
    | none=>none
    | some y=>some ⟨y.tmps,y.H,x.ph++y.ph,x.eq++y.eq⟩
theorem Zcp{P:Program}{Ow:Own}{Im0:Nat→Prop}{w0:World}{clk:Nat}{hints:List (Nat×List Hint)}{ops:Array Oper}{Q:Exit→Act→World→Prop}:∀ {l:List Nat} {tmps:List AV} {H:Heap} {a:Act} {w:World} {out:Out},
  Z6J P clk ops hints l tmps H=some out→Sys Ow Im0 w0 tmps H clk a w→allP out.ph→EqP out.eq→(∀ a' w',Sys Ow Im0 w0 out.tmps out.H clk a' w'→Q .normal a' w')→wpOps P ops Q l a w
 | [],tmps,H,a,w,out,h,hS,_,_,hQ=>by
  simp only[Z6J,Option.some.injEq]at h;subst h;exact hQ a w hS
 | i::l,tmps,H,a,w,out,h,hS,hph,heq,hQ=>by
  simp only[Z6J]at h;split at h
  ·cases h
  rename_i o ho;split at h
  ·cases h
  rename_i x hx;split at h
  ·cases h
  rename_i y hy;cases h;obtain⟨p1,p2⟩:=allP_append.1 hph;have key:=Z8y (next:=wpOps P ops Q l) (Q:=Q) hx hS p1 heq.left fun a' w' hS'=>Zcp hy hS' p2 heq.right hQ;simp only[wpOps,ho];split
  ·exact .inl (key.1 aa)
  ·rename_i hw;exact key.2 ((Bool.not_eq_true _).mp hw)
structure Tg where
 tmps:List AV
 hl:List (Nat×Blk)
 clk:Nat
def hOf:List (Nat×Blk)→Heap
 | [],_=>none
 | (b,B)::r,k=>if k=b then some B else hOf r k
inductive Ex where
 | nrm
 | ext (n:Nat)
 | ret
def Ex.exit:Ex→Exit
 | .nrm=>.normal
 | .ext n=>.exit n
 | .ret=>.ret
def CSpec(P:Program)(c:Code)(s:St)(e:Ex)(t:St):Prop :=
 ∀ (Ow:Own) (Im0:Nat→Prop) (w0:World) (a:Act) (w:World),Sys Ow Im0 w0 s.tmps s.H s.clk a w→c.wp P (fun e' a' w'=>e'=e.exit∧Sys Ow Im0 w0 t.tmps t.H t.clk a' w') a w
def Tg.st(t:Tg):St:=⟨t.tmps,hOf t.hl,t.clk⟩
def memN(b:Nat):List Nat→Bool
 | []=>false
 | x::l=>if x=b then true else memN b l
def ZgP(ids:List Nat):AV→Bool
 | .pt b _ _=>memN b ids
 | .os b _ _=>memN b ids
 | .ow b=>memN b ids
 | .d _=>true
 | .rp .. => true
 | .any=>true
 | _=>false
def refs(ids:List Nat):AV→Bool
 | .ag l=>l.all (ZgP ids)
 | .fn _ l=>l.all (ZgP ids)
 | .ic _ a=>ZgP ids a
 | a=>ZgP ids a
def Zid(ids:List Nat):AV→Bool
 | .tu l=>l.all (refs ids)
 | a=>refs ids a
def Zl2(ids:List Nat):Blk→Bool
 | .box _ cells=>cells.all (refs ids)
 | .arr .. => true
 | .dead=>false
def encB:Blk→AV
 | .box ty cells=>.tu [.d (.sc (.int .i64 ty)),.tu cells]
 | .arr ty s els=>.tu [.d (.sc (.int .i64 ty)),.d (.sl s els)]
 | .dead=>.tu []
theorem ZbX{B B':Blk}(h:encB B=encB B'):B=B':=by
 cases B with
 | box ty cells =>
  cases B' with
  | box ty' cells' =>
   simp only[encB,AV.tu.injEq,List.cons.injEq,AV.d.injEq,DV.sc.injEq,Value.int.injEq,and_true,true_and]at h;obtain⟨h1,h2⟩:=h;have:ty=ty':=by omega
   rw[this,h2]
  | arr=>simp[encB]at h
  | dead=>simp[encB]at h
 | dead =>
  cases B' with
  | dead=>rfl
  | _=>simp[encB]at h
 | arr ty s els =>
  cases B' with
  | box=>simp[encB]at h
  | dead=>simp[encB]at h
  | arr ty' s' els' =>
   simp only[encB,AV.tu.injEq,List.cons.injEq,AV.d.injEq,DV.sc.injEq,DV.sl.injEq,Value.int.injEq,and_true,true_and]at h;obtain⟨h1,h2,h3⟩:=h;have:ty=ty':=by omega
   rw[this,h2,h3]
def ZoU:AV→Bool
 | .any=>true
 | _=>false
def wkT(ids:List Nat):List AV→List AV→Option (List (AV×AV))
 | [],[]=>some []
 | x::xs,y::ys=>match wkT ids xs ys with
  | none=>none
  | some r=>if ZoU y then some r else if Zid ids y then some ((x,y)::r)else none
 | _,_=>none
def wkH(ids:List Nat)(H:Heap):List (Nat×Blk)→Option (List (AV×AV))
 | []=>some []
 | (b,B)::r=>match H b with
  | none=>none
  | some B'=>match wkH ids H r with
   | none=>none
   | some l=>if Zl2 ids B then some ((encB B',encB B)::l)else none
def wk(s:St)(t:Tg):Option (List (AV×AV)) :=
 match t.clk with
 | 0=>none
 | _+1=>match wkT (t.hl.map (·.1)) s.tmps t.tmps,wkH (t.hl.map (·.1)) s.H t.hl with
 | some l,some m=>some (l++m)
 | _,_=>none
theorem memN_iff{b:Nat}{l:List Nat}:memN b l=true↔b∈l:=by
 induction l with
 | nil=>simp[memN]
 | cons x l ih =>
  simp only[memN];split
  ·rename_i h;subst h;simp
  ·rename_i h;rw[ih];simp;omega
section
variable {ρ ρ':Rho} {w:World} {Im:Nat→Prop} {ids:List Nat}
theorem Z2k(hρ:∀ b∈ids,∀ β,ρ b=some β→ρ' b=some β){x:AV}{v:Value}(h:Rel ρ w Im x v)(hr:ZgP ids x=true):Rel ρ' w Im x v:=by
 cases x with
 | pt b i o=>obtain⟨g,s,n,h1,rfl⟩:=Z2J h;exact .pt (hρ b (memN_iff.1 hr) _ h1)
 | os b o n=>cases h with | os h1 h2 h3 h4 h5=>exact .os (hρ b (memN_iff.1 hr) _ h1) h2 h3 h4 h5
 | ow b=>cases h with | ow h1 h2 h3 h4=>exact .ow (hρ b (memN_iff.1 hr) _ h1) h2 h3 h4
 | d x=>cases h with | d h=>exact .d h
 | rp e o=>cases h with | rp h1 h2 h3=>exact .rp h1 h2 h3
 | any=>exact .any _
 | _=>simp[ZgP]at hr
theorem ZbW(hρ:∀ b∈ids,∀ β,ρ b=some β→ρ' b=some β){x:AV}{v:Value}(h:Rel ρ w Im x v)(hr:refs ids x=true):Rel ρ' w Im x v:=by
 cases x with
 | ag l =>
  obtain⟨cs,rfl,k1,k2,k3⟩:=Z3u h;simp only[refs,List.all_eq_true]at hr;exact .ag _ cs k1 k2 fun i a u ha hu=>Z2k hρ (k3 i a u ha hu) (hr a (List.mem_of_getElem? ha))
 | fn f l =>
  cases h with
  | fn k1 k3 =>
   simp only[refs,List.all_eq_true]at hr;exact .fn k1 fun i a u ha hu=>Z2k hρ (k3 i a u ha hu) (hr a (List.mem_of_getElem? ha))
 | ic t a=>cases h with | ic h=>exact .ic (Z2k hρ h hr)
 | pt=>exact Z2k hρ h hr
 | os=>exact Z2k hρ h hr
 | ow=>exact Z2k hρ h hr
 | d=>exact Z2k hρ h hr
 | rp=>exact Z2k hρ h hr
 | tu=>exact Z2k hρ h hr
 | gd=>exact Z2k hρ h hr
 | any=>exact Z2k hρ h hr
theorem ZcK(hρ:∀ b∈ids,∀ β,ρ b=some β→ρ' b=some β){x:AV}{v:Value}(h:Rel ρ w Im x v)(hr:Zid ids x=true):Rel ρ' w Im x v:=by
 cases x with
 | tu l =>
  cases h with
  | tu _ cs k1 k3 =>
   simp only[Zid,List.all_eq_true]at hr;exact .tu _ cs k1 fun i a u ha hu=>ZbW hρ (k3 i a u ha hu) (hr a (List.mem_of_getElem? ha))
 | _=>exact ZbW hρ h hr
theorem Zi1(hρ:∀ b∈ids,∀ β,ρ b=some β→ρ' b=some β){β:Bi}{B:Blk}(h:RelB ρ w Im β B)(hr:Zl2 ids B=true):RelB ρ' w Im β B:=by
 cases B with
 | box ty cells =>
  obtain⟨h0,h00,g,cs,h1,h2,h3,h3',h4⟩:=h;simp only[Zl2,List.all_eq_true]at hr;exact⟨h0,h00,g,cs,h1,h2,h3,h3',fun o a v ha hv=>ZbW hρ (h4 o a v ha hv) (hr a (List.mem_of_getElem? ha))⟩
 | arr ty s els=>exact h
 | dead=>trivial
end
theorem hOf_mem{hl:List (Nat×Blk)}{k:Nat}:(∀ B,hOf hl k=some B→(k,B)∈hl)∧(hOf hl k=none↔k∉hl.map (·.1)):=by
 induction hl with
 | nil=>simp[hOf]
 | cons p r ih =>
  obtain⟨b,B0⟩:=p;refine⟨fun B h=>?_, ?_⟩
  ·simp only[hOf]at h;split at h
   ·rename_i e;cases h;rw[e];simp
   ·exact List.mem_cons_of_mem _ (ih.1 B h)
  ·simp only[hOf];split
   ·rename_i e;subst e;simp
   ·rename_i e;rw[ih.2];simp[e]
theorem Zce{ids:List Nat}:∀ {xs ys:List AV} {l:List (AV×AV)},wkT ids xs ys=some l→EqP l→xs.length=ys.length∧∀ (i:Nat) (y:AV),ys[i]? = some y→y = .any∨(xs[i]? = some y∧Zid ids y=true)
 | [],[],l,_,_=>by simp
 | [],_::_,l,h,_=>by simp[wkT]at h
 | _::_,[],l,h,_=>by simp[wkT]at h
 | x::xs,y::ys,l,h,he=>by
  simp only[wkT]at h;split at h
  ·cases h
  rename_i r hr;split at h
  ·rename_i hy;cases h;obtain⟨h1,h2⟩:=Zce hr he;refine⟨by simp[h1],fun i z hz=>?_⟩;cases i with
   | zero =>
    simp at hz;subst hz;left;cases y<;>first | rfl | simp[ZoU]at hy
   | succ i=>simpa using h2 i z (by simpa using hz)
  ·split at h
   ·rename_i hy hrf;cases h;obtain⟨h1,h2⟩:=Zce hr (fun p hp=>he p (List.mem_cons_of_mem _ hp));refine⟨by simp[h1],fun i z hz=>?_⟩;cases i with
    | zero =>
     simp at hz;subst hz;right;have:x=y:=he (x,y) pq;exact⟨by simp[this],hrf⟩
    | succ i=>simpa using h2 i z (by simpa using hz)
   ·cases h
theorem Zf2{ids:List Nat}{H:Heap}:∀ {hl:List (Nat×Blk)} {l:List (AV×AV)},wkH ids H hl=some l→EqP l→∀ b B,(b,B)∈hl→H b=some B∧Zl2 ids B=true
 | [],l,_,_=>by simp
 | (b0,B0)::r,l,h,he=>by
  simp only[wkH]at h;split at h
  ·cases h
  rename_i B' hB';split at h
  ·cases h
  rename_i m hm;split at h;rotate_left
  ·cases h
  rename_i hrf;cases h;intro b B hb;rcases List.mem_cons.1 hb with e | e
  ·injection e with e1 e2;subst e1;subst e2;have:encB B'=encB B:=he (encB B',encB B) pq;rw[ZbX this]at hB';exact⟨hB',hrf⟩
  ·exact Zf2 hm (fun p hp=>he p (List.mem_cons_of_mem _ hp)) b B e
theorem ZgG{s:St}{t:Tg}{l:List (AV×AV)}(h:wk s t=some l)(he:EqP l){Ow:Own}{Im0:Nat→Prop}{w0:World}{a:Act}{w:World}(hS:Sys Ow Im0 w0 s.tmps s.H s.clk a w):Sys Ow Im0 w0 t.st.tmps t.st.H t.st.clk a w:=by
 unfold wk at h;split at h
 ·cases h
 rename_i clk0 hclk;split at h;rotate_left
 ·cases h
 rename_i l1 l2 h1 h2;cases h;obtain⟨ρ,Im,I,T⟩:=hS;obtain⟨k1,k2⟩:=Zce h1 he.left;have k3:=Zf2 h2 he.right;let ids:=t.hl.map (·.1);let ρ':Rho:=fun b=>if memN b ids then ρ b else none
 have hin:∀ b∈ids,∀ β,ρ b=some β→ρ' b=some β:=by
  intro b hb β h;simp only[ρ'];rw[if_pos (memN_iff.2 hb)];exact h
 have hout:∀ b β,ρ' b=some β→ρ b=some β:=by
  intro b β h;simp only[ρ']at h;split at h
  ·exact h
  ·cases h
 have hlive:∀ b,live t.st.H b→live s.H b:=fun b ⟨B,q1,q2⟩=>⟨B,(k3 b B (hOf_mem.1 B q1)).1,q2⟩
 refine⟨ρ',Im,⟨I.kept,fun b b' β β' g l1 l2 q1 q2 q3 q4=>I.inj b b' β β' g (hlive _ l1) (hlive _ l2) (hout _ _ q1) (hout _ _ q2) q3 q4,fun b β g l q=>I.notIm b β g (hlive _ l) (hout _ _ q),fun b β g q=>I.bnd b β g (hout _ _ q),fun b β g q=>I.own b β g (hout _ _ q),I.imb,I.im0,fun b B q=>?_,fun b _ q=>?_,⟨by show 1≤t.clk;omega,fun b β h q=>I.one.2 b β h (hout _ _ q)⟩⟩,⟨by rw[T.size,k1];rfl,fun i y v hy hv=>?_,T.defers⟩⟩
 ·obtain⟨q1,q2⟩:=k3 b B (hOf_mem.1 B q);obtain⟨β,m1,m2⟩:=I.blk b B q1;have hb:b∈ids:=by
   have:=hOf_mem.1 B q;exact List.mem_map.2 ⟨(b,B),this,rfl⟩
  exact⟨β,hin b hb β m1,Zi1 hin m2 q2⟩
 ·have:b∉ids:=hOf_mem.2.1 q;simp only[ρ'];rw[if_neg (fun h=>this (memN_iff.1 h))]
 ·rcases k2 i y hy with rfl | ⟨q1,q2⟩
  ·exact .any _
  ·exact ZcK hin (T.tmp i y v q1 hv) q2
def Zjh(k:Nat):List (Nat×Tg×Ex×Tg)→Option (Tg×Ex×Tg)
 | []=>none
 | (j,h)::r=>if j=k then some h else Zjh k r
def keyC:Operand→Nat
 | .tmp t=>t
 | _=>30000
def brs:List Hint→List Hint
 | .br b::l=>.br b::l
 | _::l=>brs l
 | []=>[]
structure Run where
 e:Ex
 s:St
 ph:List Prop
 eq:List (AV×AV)
def runC(P:Program)(hints:List (Nat×List Hint))(cuts:List (Nat×Tg×Ex×Tg)):Code→St→Option Run
 | .skip,s=>some ⟨.nrm,s,[],[]⟩
 | .label _,s=>some ⟨.nrm,s,[],[]⟩
 | .region _ ops dr,s=>match (match dr with | true=>Zed P s.clk ops hints s.tmps s.H | false=>Z6J P s.clk ops hints (List.range ops.size) s.tmps s.H)with
  | some x=>some ⟨.nrm,⟨x.tmps,x.H,s.clk+1⟩,x.ph,x.eq⟩
  | none=>none
 | .seq x y,s=>match runC P hints cuts x s with
  | none=>none
  | some r=>match r.e with
   | .nrm=>match runC P hints cuts y r.s with
    | some q=>some ⟨q.e,q.s,r.ph++q.ph,r.eq++q.eq⟩
    | none=>none
   | e=>some ⟨e,r.s,r.ph,r.eq⟩
 | .cond c x y,s=>match asB (ev s.tmps c)with
  | none=>none
  | some b=>match brs (look (keyC c) hints)with
   | .br true::_=>match runC P hints cuts x s with
    | some q=>some ⟨q.e,q.s,(b=true)::q.ph,q.eq⟩
    | none=>none
   | .br false::_=>match runC P hints cuts y s with
    | some q=>some ⟨q.e,q.s,(b=false)::q.ph,q.eq⟩
    | none=>none
   | _=>match b with
    | true=>runC P hints cuts x s
    | false=>runC P hints cuts y s
 | .block n c,s=>match Zjh n cuts with
  | some (pre,e,post)=>match wk s pre with
   | some l=>some ⟨e,post.st,[CSpec P (.block n c) pre.st e post.st],l⟩
   | none=>none
  | none=>match runC P hints cuts c s with
   | none=>none
   | some r=>match r.e with
    | .ext m=>if m=n then some ⟨.nrm,r.s,r.ph,r.eq⟩else some r
    | _=>some r
 | .exit n,s=>some ⟨.ext n,s,[],[]⟩
 | .ret,s=>some ⟨.ret,s,[],[]⟩
 | _,_=>none
theorem Sys.clk{Ow:Own}{Im0:Nat→Prop}{w0:World}{tmps:List AV}{H:Heap}{clk clk':Nat}{a:Act}{w:World}(h:Sys Ow Im0 w0 tmps H clk a w)(hle:clk≤clk'):Sys Ow Im0 w0 tmps H clk' a w:=by
 obtain⟨ρ,Im,I,T⟩:=h;exact⟨ρ,Im,⟨I.kept,I.inj,I.notIm,I.bnd,I.own,I.imb,I.im0,I.blk,fun b hb h=>I.fresh b (Nat.le_trans (Nat.mul_le_mul_right _ hle) hb) h,Nat.le_trans I.one.1 hle,I.one.2⟩,T⟩
theorem Z9N{P:Program}{hints:List (Nat×List Hint)}{cuts:List (Nat×Tg×Ex×Tg)}:∀ {c:Code} {s:St} {r:Run},runC P hints cuts c s=some r→allP r.ph→EqP r.eq→CSpec P c s r.e r.s:=by
 intro c;induction c with
 | skip=>intro s r h _ _ Ow Im0 w0 a w hS;simp only[runC,Option.some.injEq]at h;subst h;exact wp_skip ⟨rfl,hS⟩
 | label n=>intro s r h _ _ Ow Im0 w0 a w hS;simp only[runC,Option.some.injEq]at h;subst h;exact wp_label ⟨rfl,hS⟩
 | region n ops dr =>
  intro s r h hph heq Ow Im0 w0 a w hS;simp only[runC]at h;split at h;rotate_left
  ·cases h
  rename_i x hx;cases h;cases dr with
  | false=>exact wp_region (Zcp hx hS hph heq fun a' w' hS'=>⟨rfl,hS'.clk pq⟩)
  | true=>exact ZgA hx hS hph heq fun a' w' hS'=>⟨rfl,hS'.clk pq⟩
 | seq x y ihx ihy =>
  intro s r h hph heq Ow Im0 w0 a w hS;simp only[runC]at h;split at h
  ·cases h
  rename_i q hq;split at h
  ·rename_i he;split at h;rotate_left
   ·cases h
   rename_i q2 hq2;cases h;obtain⟨p1,p2⟩:=allP_append.1 hph;refine wp_seq (wp_mono (ihx hq p1 heq.left Ow Im0 w0 a w hS) ?_);rintro e a' w' ⟨rfl,hS'⟩;rw[he];exact ihy hq2 p2 heq.right Ow Im0 w0 a' w' hS'
  ·rename_i he;cases h;refine wp_seq (wp_mono (ihx hq hph heq Ow Im0 w0 a w hS) ?_);rintro e a' w' ⟨rfl,hS'⟩;cases hqe:q.e with
   | nrm=>exact absurd hqe he
   | ext n=>exact⟨rfl,hS'⟩
   | ret=>exact⟨rfl,hS'⟩
 | cond c x y ihx ihy =>
  intro s r h hph heq Ow Im0 w0 a w hS;simp only[runC]at h;split at h
  ·cases h
  rename_i b hb;have hv:a.eval c = .bool b:=by
   obtain⟨ρ,Im,I,T⟩:=hS;have:=Z1x T c;rw[Z8k hb]at this;exact Z10 this
  split at h
  ·split at h;rotate_left
   ·cases h
   rename_i q hq;cases h;obtain⟨p1,p2⟩:=allP_cons.1 hph;exact wp_cond_true (by rw[hv,p1]) (ihx hq p2 heq Ow Im0 w0 a w hS)
  ·split at h;rotate_left
   ·cases h
   rename_i q hq;cases h;obtain⟨p1,p2⟩:=allP_cons.1 hph;exact wp_cond_false (by rw[hv,p1]) (ihy hq p2 heq Ow Im0 w0 a w hS)
  ·split at h
   ·exact wp_cond_true hv (ihx h hph heq Ow Im0 w0 a w hS)
   ·exact wp_cond_false hv (ihy h hph heq Ow Im0 w0 a w hS)
 | block n c ih =>
  intro s r h hph heq Ow Im0 w0 a w hS;simp only[runC]at h;split at h
  ·rename_i pre e post hl;split at h;rotate_left
   ·cases h
   rename_i l hwk;cases h;have hC:CSpec P (.block n c) pre.st e post.st:=by simpa[allP]using hph
   exact hC Ow Im0 w0 a w (ZgG hwk heq hS)
  ·split at h
   ·cases h
   rename_i q hq;split at h
   ·rename_i m hm;split at h
    ·rename_i hmn;cases h;refine wp_block (wp_mono (ih hq hph heq Ow Im0 w0 a w hS) ?_);rintro e a' w' ⟨rfl,hS'⟩;rw[hm];simp only[Ex.exit,Exit.inBlock,hmn,if_true];exact⟨by trivial,hS'⟩
    ·rename_i hmn;cases h;refine wp_block (wp_mono (ih hq hph heq Ow Im0 w0 a w hS) ?_);rintro e a' w' ⟨rfl,hS'⟩;rw[hm];simp only[Ex.exit,Exit.inBlock,hmn,if_false];exact⟨by trivial,hS'⟩
   ·rename_i hne;cases h;refine wp_block (wp_mono (ih hq hph heq Ow Im0 w0 a w hS) ?_);rintro e a' w' ⟨rfl,hS'⟩;cases hqe:r.e with
    | nrm=>exact⟨rfl,hS'⟩
    | ext m=>exact absurd hqe (hne m)
    | ret=>exact⟨rfl,hS'⟩
 | exit n=>intro s r h _ _ Ow Im0 w0 a w hS;simp only[runC,Option.some.injEq]at h;subst h;exact wp_exit ⟨rfl,hS⟩
 | ret=>intro s r h _ _ Ow Im0 w0 a w hS;simp only[runC,Option.some.injEq]at h;subst h;exact wp_ret ⟨rfl,hS⟩
 | loop c ih=>intro s r h;simp[runC]at h
 | rangeFunc f p x y=>intro s r h;simp[runC]at h
 | scope c ih=>intro s r h;simp[runC]at h
 | goto n=>intro s r h;simp[runC]at h
 | refuse y=>intro s r h;simp[runC]at h
def Z2G(P:Program)(c:Code):Nat→St→Ex→St→Prop
 | 0,s,e,t=>e≠.nrm∧CSpec P c s e t
 | n+1,s,e,t=>∃ s',CSpec P c s .nrm s'∧Z2G P c n s' e t
theorem least{p:Nat→Prop}(h:∃ n,p n):∃ n,p n∧∀ m,p m→n≤m:=by
 obtain⟨n,hn⟩:=h;induction n using Nat.strongRecOn with
 | _ n ih =>
  by_cases hx:∃ m,m<n∧p m
  ·obtain⟨m,h1,h2⟩:=hx;exact ih m h1 h2
  ·refine⟨n,hn,fun m hm=>?_⟩;rcases Nat.lt_or_ge m n with h | h
   ·exact absurd ⟨m,h,hm⟩ hx
   ·exact h
open Classical in
theorem Zeb{P:Program}{c:Code}{n:Nat}{s t:St}{e:Ex}(h:Z2G P c n s e t):CSpec P (.loop c) s e t:=by
 intro Ow Im0 w0 a w hS;let I:Act→World→Prop:=fun a w=>∃ n s',Sys Ow Im0 w0 s'.tmps s'.H s'.clk a w∧Z2G P c n s' e t;let μ:Act→World→Nat:=fun a w=>if h:I a w then Classical.choose (least h)else 0
 refine wp_loop I μ ⟨n,s,hS,h⟩ fun a w hI=>?_;have hμ:μ a w=Classical.choose (least hI):=dif_pos hI;obtain⟨k1,k2⟩:=Classical.choose_spec (least hI);rw[← hμ]at k1 k2;obtain⟨s',hS',hr⟩:=k1;generalize hm:μ a w=m at hr k2 ⊢;cases m with
 | zero =>
  obtain⟨h1,h2⟩:=hr;refine wp_mono (h2 Ow Im0 w0 a w hS') ?_;rintro e' a' w' ⟨rfl,hS''⟩;cases e with
  | nrm=>exact absurd rfl h1
  | ext n=>exact⟨rfl,hS''⟩
  | ret=>exact⟨rfl,hS''⟩
 | succ m =>
  obtain⟨s2,h1,h2⟩:=hr;refine wp_mono (h1 Ow Im0 w0 a w hS') ?_;rintro e' a' w' ⟨rfl,hS''⟩;have hI':I a' w':=⟨m,s2,hS'',h2⟩
  refine⟨hI', ?_⟩;have hμ':μ a' w'=Classical.choose (least hI'):=dif_pos hI';have:=(Classical.choose_spec (least hI')).2 m ⟨s2,hS'',h2⟩;rw[← hμ']at this;omega
theorem ZiX{P:Program}{c:Code}{n:Nat}{s t:St}(h:CSpec P c s (.ext n) t):CSpec P (.block n c) s .nrm t:=by
 intro Ow Im0 w0 a w hS;refine wp_block (wp_mono (h Ow Im0 w0 a w hS) ?_);rintro e a' w' ⟨rfl,hS'⟩;simp only[Ex.exit,Exit.inBlock,if_true];exact⟨by trivial,hS'⟩
theorem Ziw{P:Program}{c:Code}{n:Nat}{s t:St}(h:CSpec P c s .ret t):CSpec P (.block n c) s .ret t:=by
 intro Ow Im0 w0 a w hS;refine wp_block (wp_mono (h Ow Im0 w0 a w hS) ?_);rintro e a' w' ⟨rfl,hS'⟩;exact⟨rfl,hS'⟩
theorem rounds{P:Program}{c:Code}{s':St}{n:Nat}{s t:St}{e:Ex}(h1:CSpec P c s .nrm s')(h2:Z2G P c n s' e t):Z2G P c (n+1) s e t:=⟨s',h1,h2⟩
def ZgQ(P:Program)(hints:List (Nat×List Hint))(cuts:List (Nat×Tg×Ex×Tg))(c:Code)(s:St)(t:Tg):Option Run :=
 match runC P hints cuts c s with
 | none=>none
 | some r=>match wk r.s t with
  | some l=>some ⟨r.e,r.s,r.ph,r.eq++l⟩
  | none=>none
def oblO:Option Run→Prop
 | some r=>allP r.ph
 | none=>False
def lefO:Option Run→List AV
 | some r=>r.eq.map (·.1)
 | none=>[]
def rigO:Option Run→List AV
 | some r=>r.eq.map (·.2)
 | none=>[]
def exO:Option Run→Option Ex
 | some r=>some r.e
 | none=>none
theorem Z8R{l:List (AV×AV)}(h:l.map (·.1)=l.map (·.2)):EqP l:=by
 induction l with
 | nil=>intro p hp;simp at hp
 | cons x l ih =>
  simp only[List.map_cons,List.cons.injEq]at h;intro p hp;rcases List.mem_cons.1 hp with e | e
  ·rw[e];exact h.1
  ·exact ih h.2 p e
theorem Z1C{P:Program}(hints:List (Nat×List Hint))(cuts:List (Nat×Tg×Ex×Tg)){c:Code}{s:St}{e:Ex}{t:Tg}{φ:Prop}(hφ:φ)
  (h1:oblO (ZgQ P hints cuts c s t)=φ) (h2:lefO (ZgQ P hints cuts c s t)=rigO (ZgQ P hints cuts c s t)) (h3:exO (ZgQ P hints cuts c s t)=some e):CSpec P c s e t.st:=by
 rw[← h1]at hφ;cases hr:ZgQ P hints cuts c s t with
 | none=>rw[hr]at hφ;exact hφ.elim
 | some r =>
  rw[hr]at hφ h2 h3;have heq:EqP r.eq:=Z8R h2;have he:r.e=e:=by simpa[exO]using h3
  unfold ZgQ at hr;split at hr
  ·cases hr
  rename_i q hq;split at hr;rotate_left
  ·cases hr
  rename_i l hl;cases hr;intro Ow Im0 w0 a w hS;refine wp_mono (Z9N hq hφ heq.left Ow Im0 w0 a w hS) ?_;rintro e' a' w' ⟨rfl,hS'⟩;exact⟨by rw[← he],ZgG hl heq.right hS'⟩
def Z0S(els:List (List DV)):Prop:=∀ e∈els,∀ x∈e,∃ v,x = .sc v
def idx(b:Nat):List Nat→Nat→Option Nat
 | [],_=>none
 | x::l,k=>if x=b then some k else idx b l (k+1)
def fin1(keep:List Nat)(H:Heap)(fr:Bool):AV→Option (AV×List Prop)
 | .d x=>match fr with
  | false=>some (.d x,[])
  | true=>match x with
   | .sc v=>some (.d (.sc v),[])
   | .sl s els=>match els with
    | []=>some (.d (.sl s []),[])
    | _=>none
 | .rp e o=>match fr with
  | false=>some (.rp e o,[])
  | true=>none
 | .ow b=>match idx b keep 0 with
  | some k=>some (.ow k,[])
  | none=>match H b with
   | some (.arr _ s els)=>some (.d (.sl s els),match fr with | true=>[Z0S els] | false=>[])
   | _=>none
 | .os b o n=>match idx b keep 0 with
  | some k=>some (.os k o n,[])
  | none=>match H b with
   | some (.arr _ s els)=>some (.d (.sl s ((els.drop o).take n)),match fr with | true=>[Z0S els] | false=>[])
   | _=>none
 | _=>none
def finL(f:AV→Option (AV×List Prop)):List AV→Option (List AV×List Prop)
 | []=>some ([],[])
 | a::l=>match f a,finL f l with
  | some (x,p),some (r,q)=>some (x::r,p++q)
  | _,_=>none
def finA(keep:List Nat)(H:Heap)(fr:Bool)(a:AV):Option (AV×List Prop):=match a with
 | .ag l=>match finL (fin1 keep H fr) l with | some (r,q)=>some (.ag r,q) | none=>none
 | .fn f l=>match finL (fin1 keep H fr) l with | some (r,q)=>some (.fn f r,q) | none=>none
 | .ic t (.ag l)=>match finL (fin1 keep H fr) l with | some (r,q)=>some (.ic t (.ag r),q) | none=>none
 | .ic t x=>match fin1 keep H fr x with | some (r,q)=>some (.ic t r,q) | none=>none
 | x=>fin1 keep H fr x
def finT(keep:List Nat)(H:Heap)(fr:Bool)(a:AV):Option (AV×List Prop):=match a with
 | .tu l=>match finL (finA keep H fr) l with | some (r,q)=>some (.tu r,q) | none=>none
 | x=>finA keep H fr x
def finN(keep:List Nat)(H:Heap)(fr:Bool):Option (List Blk×List Prop):=match keep with
 | []=>some ([],[])
 | b::r=>match H b,finN r H fr with
  | some (.arr ty s els),some (l,q)=>some (.arr ty s els::l,(match fr with | true=>[Z0S els] | false=>[])++q)
  | _,_=>none
def Zgm(P:Program)(tmps:List AV)(H:Heap):ResultVar→Option AV
 | .tmp t=>some (tmps.getD t .any)
 | .cell t ty=>match Z7i P ty [] (tmps.getD t .any) H with
  | some r=>match r.ph with
   | []=>some r.val
   | _=>none
  | none=>none
def Z8G(P:Program)(tmps:List AV)(H:Heap):List ResultVar→Option (List AV)
 | []=>some []
 | x::l=>match Zgm P tmps H x,Z8G P tmps H l with
  | some a,some r=>some (a::r)
  | _,_=>none
def resV:List AV→AV
 | [a]=>a
 | l=>.tu l
def coe1(x r:AV):AV×List Prop:=match x with
 | .d (.sl s els)=>match s with
  | 0=>match r with
   | .d (.sl s' _)=>(.d (.sl s' []),[els=[]])
   | _=>(.d (.sl 0 els),[])
  | s+1=>(.d (.sl (s+1) els),[])
 | x=>(x,[])
def coeL(f:AV→AV→AV×List Prop):List AV→List AV→List AV×List Prop
 | x::l,r::m=>((f x r).1::(coeL f l m).1,(f x r).2++(coeL f l m).2)
 | l,_=>(l,[])
def coeM(x r:AV):AV×List Prop:=match x with
 | .ag l=>match r with
  | .ag m=>(.ag (coeL coe1 l m).1,(coeL coe1 l m).2)
  | _=>(.ag l,[])
 | x=>coe1 x r
def coeT(x r:AV):AV×List Prop:=match x with
 | .tu l=>match r with
  | .tu m=>(.tu (coeL coeM l m).1,(coeL coeM l m).2)
  | _=>(.tu l,[])
 | x=>coeM x r
section
variable {ρ:Rho} {w:World} {Im:Nat→Prop}
theorem Zcg{x r:AV}{v:Value}(h:Rel ρ w Im x v)(hp:allP (coe1 x r).2):Rel ρ w Im (coe1 x r).1 v:=by
 unfold coe1 at hp ⊢;split at hp
 ·rename_i s els;split at hp
  ·split at hp
   ·rename_i s' e';have he:els=[]:=hp;subst he;cases h with
    | d h =>
     cases h with
     | slNil _ a c=>exact .d (.slNil s' a c)
     | sl _ _ p n c f hn hc=>simp at hn;subst hn;exact .d (.slNil s' _ c)
   ·exact h
  ·exact h
 ·exact h
theorem Z6r{f:AV→AV→AV×List Prop}:∀ {l m:List AV},allP (coeL f l m).2→(coeL f l m).1.length=l.length∧∀ (i:Nat) (y:AV),(coeL f l m).1[i]? = some y→∃ x,l[i]? = some x∧(y=x∨∃ r,y=(f x r).1∧allP (f x r).2)
 | [],_,_=>by simp[coeL]
 | x::l,[],_=>⟨rfl,fun i y h=>⟨y,h,.inl rfl⟩⟩
 | x::l,r::m,h=>by
  obtain⟨h1,h2⟩:=allP_append.1 h;obtain⟨k1,k2⟩:=Z6r h2;refine⟨by simp[coeL,k1],fun i y hy=>?_⟩;cases i with
  | zero =>
   simp only[coeL,List.getElem?_cons_zero,Option.some.injEq]at hy;exact⟨x,rfl,.inr ⟨r,hy.symm,h1⟩⟩
  | succ i =>
   obtain⟨z,h3,h4⟩:=k2 i y (by simpa[coeL]using hy);exact⟨z,by simpa using h3,h4⟩
theorem ZfX{x r:AV}{v:Value}(h:Rel ρ w Im x v)(hp:allP (coeM x r).2):Rel ρ w Im (coeM x r).1 v:=by
 unfold coeM at hp ⊢;split at hp
 ·split at hp
  ·obtain⟨cs,rfl,k1,k2,k3⟩:=Z3u h;obtain⟨n1,n2⟩:=Z6r hp;refine .ag _ cs (by rw[n1];exact k1) k2 fun i a u ha hu=>?_;obtain⟨x,h1,h2⟩:=n2 i a ha;rcases h2 with rfl | ⟨r,rfl,h3⟩
   ·exact k3 i _ u h1 hu
   ·exact Zcg (k3 i x u h1 hu) h3
  ·exact h
 ·exact Zcg h hp
theorem Zgo{x r:AV}{v:Value}(h:Rel ρ w Im x v)(hp:allP (coeT x r).2):Rel ρ w Im (coeT x r).1 v:=by
 unfold coeT at hp ⊢;split at hp
 ·split at hp
  ·cases h with
   | tu _ cs k1 k3 =>
    obtain⟨n1,n2⟩:=Z6r hp;refine .tu _ cs (by rw[n1];exact k1) fun i a u ha hu=>?_;obtain⟨x,h1,h2⟩:=n2 i a ha;rcases h2 with rfl | ⟨r,rfl,h3⟩
    ·exact k3 i _ u h1 hu
    ·exact ZfX (k3 i x u h1 hu) h3
  ·exact h
 ·exact ZfX h hp
end
def runF(P:Program)(hints:List (Nat×List Hint))(cuts:List (Nat×Tg×Ex×Tg))(keep:List Nat)(fn:Func)(args:List AV)(fr:Bool)(res:AV)(news:List Blk):Option Run :=
 match fn.body with
 | none=>none
 | some c=>match args.all Z8O with
  | false=>none
  | true=>match runC P hints cuts c ⟨args++List.replicate (fn.ntmps-args.length) .any,fun _=>none,1⟩with
   | none=>none
   | some r=>match r.e with
    | .ext _=>none
    | _=>match Z8G P r.s.tmps r.s.H fn.results.toList with
     | none=>none
     | some l=>match finT keep r.s.H fr (resV l),finN keep r.s.H fr with
      | some (x,p),some (ns,q)=>if news.length=ns.length then some ⟨r.e,r.s,r.ph++(p++(coeT x res).2)++q,r.eq++[((coeT x res).1,res)]++(ns.map encB).zip (news.map encB)⟩else none
      | _,_=>none
def ZaU(tmps:Array Value):ResultVar→Sem Value
 | .tmp t=>pure (tmps.getD t undef)
 | .cell a t=>do loadVar t (← asAddr (tmps.getD a undef))
theorem ZaD(fn:Func)(tmps:Array Value):results fn tmps=(do
  let vs ← fn.results.mapM (ZaU tmps)
  pure (if h:vs.size=1 then vs[0]else .tuple vs)):=by
 unfold results;congr 1
section
variable {Ow:Own} {Im0:Nat→Prop} {w0:World} {ρ:Rho} {w:World} {Im:Nat→Prop} {H:Heap} {clk:Nat}
theorem ZiQ{P:Program}{tmps:List AV}{a:Act}(I:Inv Ow Im0 w0 ρ w Im H clk)(T:RelT ρ w Im tmps a){r:ResultVar}{x:AV}(h:Zgm P tmps H r=some x) :
  ∃ v,(ZaU a.tmps r).run P w = .ok v w∧Rel ρ w Im x v:=by
 have hev:∀ t,Rel ρ w Im (tmps.getD t .any) (a.tmps.getD t undef):=fun t=>Z1x T (.tmp t);cases r with
 | tmp t =>
  simp only[Zgm,Option.some.injEq]at h;subst h;exact⟨_,rfl,hev t⟩
 | cell c t =>
  simp only[Zgm]at h;split at h;rotate_left
  ·cases h
  rename_i r hr;split at h;rotate_left
  ·cases h
  rename_i hp;cases h;obtain⟨p,v,h1,h2,h3,_⟩:=Zgn I (hev c) hr (by rw[hp];trivial);exact⟨v,by simp only[ZaU,h1,asAddr,Sem.run_bind,Sem.run_pure,Result.andThen_ok,h2],h3⟩
theorem Zcy{P:Program}{tmps:List AV}{a:Act}(I:Inv Ow Im0 w0 ρ w Im H clk)(T:RelT ρ w Im tmps a):∀ {rs:List ResultVar} {l:List AV},Z8G P tmps H rs=some l →
  ∃ vs:List Value,(rs.mapM (ZaU a.tmps)).run P w = .ok vs w∧vs.length=l.length∧∀ (i:Nat) (x:AV) (v:Value),l[i]? = some x→vs[i]? = some v→Rel ρ w Im x v
 | [],l,h=>by simp[Z8G]at h;subst h;exact⟨[],rfl,rfl,by simp⟩
 | r::rs,l,h=>by
  simp only[Z8G]at h;split at h;rotate_left
  ·cases h
  rename_i x m hx hm;cases h;obtain⟨v,h1,h2⟩:=ZiQ I T hx;obtain⟨vs,h3,h4,h5⟩:=Zcy I T hm;refine⟨v::vs, ?_,by simp[h4],fun i y u hy hu=>?_⟩
  ·rw[List.mapM_cons];simp only[Sem.run_bind,h1,h3,Result.andThen_ok,Sem.run_pure]
  ·cases i with
   | zero=>simp at hy hu;subst hy;subst hu;exact h2
   | succ i=>exact h5 i y u (by simpa using hy) (by simpa using hu)
theorem Z7o{P:Program}{fn:Func}{tmps:List AV}{a:Act}(I:Inv Ow Im0 w0 ρ w Im H clk)(T:RelT ρ w Im tmps a){l:List AV}(h:Z8G P tmps H fn.results.toList=some l) :
  ∃ v,(results fn a.tmps).run P w = .ok v w∧Rel ρ w Im (resV l) v:=by
 obtain⟨vs,h1,h2,h3⟩:=Zcy I T h;have hm:(fn.results.mapM (ZaU a.tmps)).run P w = .ok vs.toArray w:=by
  have e:fn.results=fn.results.toList.toArray:=by simp
  rw[e,List.mapM_toArray];simp only[Sem.run_map,h1,Result.andThen_ok]
 refine⟨if h:vs.toArray.size=1 then vs.toArray[0]else .tuple vs.toArray, ?_, ?_⟩
 ·rw[ZaD];simp only[Sem.run_bind,hm,Result.andThen_ok,Sem.run_pure]
 ·by_cases hl:vs.length=1
  ·obtain⟨v,rfl⟩:∃ v,vs=[v]:=List.length_eq_one_iff.1 hl;obtain⟨x,rfl⟩:∃ x,l=[x]:=List.length_eq_one_iff.1 oq;simpa[resV]using h3 0 x v rfl rfl
  ·rw[dif_neg (by simpa using hl)];have:resV l = .tu l:=by
    unfold resV;split
    ·rename_i a;simp at h2;omega
    ·rfl
   rw[this];exact .tu l _ (by simpa using h2) fun i x v hx hv=>h3 i x v hx (by simpa using hv)
end
theorem ZbB{b:Nat}:∀ {l:List Nat} {k n:Nat},idx b l k=some n→k≤n∧l[n-k]? = some b
 | [],k,n,h=>by simp[idx]at h
 | x::l,k,n,h=>by
  simp only[idx]at h;split at h
  ·rename_i e;cases h;simp[e]
  ·obtain⟨h1,h2⟩:=ZbB h;refine⟨by omega, ?_⟩;rw[show n-k=(n-(k+1))+1 from by omega];simpa using h2
theorem Zbe{b:Nat}:∀ {l:List Nat} {k:Nat},idx b l k=none→b∉l
 | [],_,_=>by simp
 | x::l,k,h=>by
  simp only[idx]at h;split at h
  ·cases h
  ·rename_i e;have:=Zbe h;simp only[List.mem_cons,not_or];exact⟨fun h=>e h.symm,this⟩
theorem Zbp{w w':World}{Im Im':Nat→Prop}{els:List (List DV)}(hf:Z0S els){e:List DV}{x:DV}{v:Value}(he:e∈els)(hx:x∈e)(h:RelD w Im x v):RelD w' Im' x v:=by
 obtain⟨u,rfl⟩:=hf e he x hx;cases h with
 | sc _ h=>exact .sc _ h
theorem Z4V{f:AV→Option (AV×List Prop)}:∀ {l r:List AV} {q:List Prop},finL f l=some (r,q)→allP q→r.length=l.length∧∀ (i:Nat) (y:AV),r[i]? = some y→∃ x p,l[i]? = some x∧f x=some (y,p)∧allP p
 | [],r,q,h,_=>by simp[finL]at h;obtain⟨rfl,rfl⟩:=h;simp
 | a::l,r,q,h,hq=>by
  simp only[finL]at h;split at h;rotate_left
  ·cases h
  rename_i x p m q' hx hm;cases h;obtain⟨p1,p2⟩:=allP_append.1 hq;obtain⟨h1,h2⟩:=Z4V hm p2;refine⟨by simp[h1],fun i y hy=>?_⟩;cases i with
  | zero=>simp at hy;subst hy;exact⟨a,p,rfl,hx,p1⟩
  | succ i=>exact h2 i y (by simpa using hy)
section
variable {Im0:Nat→Prop} {w0:World} {ρ:Rho} {w:World} {Im:Nat→Prop} {H:Heap} {clk:Nat} {keep:List Nat} {fr:Bool}
def rhoK(ρ:Rho)(keep:List Nat):Rho:=fun k=>match keep[k]? with | some b=>ρ b | none=>none
def ImK(fr:Bool)(Im:Nat→Prop)(ρ:Rho)(H:Heap)(keep:List Nat):Nat→Prop:=fun g=>(fr=false∧Im g)∨∃ b β,b∉keep∧live H b∧ρ b=some β∧β.g=some g
theorem Z6j{x:AV}{v:Value}{s:Nat}{els els0:List (List DV)}{b:Nat}(I:Inv Z4g Im0 w0 ρ w Im H clk)(hx:Rel ρ w Im x v)(h:Z1l H x=some (s,els))(hb:b∉keep)(hlive:live H b)
  (hsub:∀ e∈els,e∈els0) (hf:fr=true→Z0S els0) (hblk:∀ a n c,v = .slice (some a) n c→n≠0→∃ β,ρ b=some β∧β.g=some a.block):RelD w (ImK fr Im ρ H keep) (.sl s els) v:=by
 obtain⟨p,c,rfl,hbg,hc,hl,hcell⟩:=Z1R I hx h;by_cases he:els=[]
 ·subst he;exact .slNil _ _ _
 rcases hcell with hcell | ⟨q,rfl,hq,hcell⟩
 ·exact absurd hcell he
 have hn:els.length≠0:=by simpa using he
 obtain⟨β,hβ,hg⟩:=hblk q _ c rfl hn;refine .sl s els q els.length c (fun i o=>(w.cell? ⟨q.block,q.off+(i*s+o),none⟩).getD undef) rfl hc hbg (hl he) hq (.inr ⟨b,β,hb,hlive,hβ,hg⟩) ?_ ?_
 ·intro i e o y hi ho;obtain⟨u,k1,_⟩:=hcell i e o y hi ho;rw[k1];rfl
 ·intro i e o y hi ho;obtain⟨u,k1,k2⟩:=hcell i e o y hi ho;rw[k1];cases fr with
  | true=>exact Zbp (hf rfl) (hsub e (List.mem_of_getElem? hi)) (List.mem_of_getElem? ho) k2
  | false=>exact k2.mono (Ext.refl _ _) (fun g hg=>.inl ⟨rfl,hg⟩)
theorem Z8I(I:Inv Z4g Im0 w0 ρ w Im H clk){x y:AV}{v:Value}{p:List Prop}(hx:Rel ρ w Im x v)(h:fin1 keep H fr x=some (y,p))(hp:allP p):Rel (rhoK ρ keep) w (ImK fr Im ρ H keep) y v:=by
 unfold fin1 at h;split at h
 ·split at h
  ·cases h;cases hx with
   | d hx=>exact .d (hx.mono (Ext.refl _ _) (fun g hg=>.inl ⟨rfl,hg⟩))
  ·split at h
   ·cases h;cases hx with
    | d hx=>cases hx with | sc _ h=>exact .d (.sc _ h)
   ·split at h
    ·cases h;cases hx with
     | d hx =>
      cases hx with
      | slNil=>exact .d (.slNil _ _ _)
      | sl _ _ _ _ _ _ hn=>simp at hn;subst hn;exact .d (.slNil _ _ _)
    ·cases h
 ·split at h
  ·cases h;cases hx with
   | rp h1 h2 h3=>exact .rp h1 (.inl ⟨rfl,h2⟩) (fun j x hx=>let ⟨v,k1,k2⟩:=h3 j x hx;⟨v,k1,k2.mono (Ext.refl _ _) (fun g hg=>.inl ⟨rfl,hg⟩)⟩)
  ·cases h
 ·rename_i b;split at h
  ·rename_i k hk;cases h;obtain⟨_,hk2⟩:=ZbB hk;cases hx with
   | ow h1 h2 h3 h4=>exact .ow (by simp only[rhoK];rw[show keep[k]? = some b from by simpa using hk2];exact h1) h2 h3 h4
  ·rename_i hk;have hnk:=Zbe hk;split at h;rotate_left
   ·cases h
   rename_i ty s els hb;cases h;refine .d (Z6j (b:=b) (els0:=els) I hx (by simp[Z1l,hb]) hnk ⟨_,hb,by simp⟩ (fun e he=>he) (fun hfr=>by subst hfr;simpa[allP]using hp) fun a n c hv hn=>?_);subst hv;generalize hvv:Value.slice (some a) n c=vv at hx;cases hx with
   | ow h1 h2 h3 h4 =>
    injection hvv with e1 e2 e3;rcases h4 with h4 | ⟨g,hg,e,_⟩
    ·omega
    ·rw[← e1]at e;cases e;exact⟨_,h1,hg⟩
 ·rename_i b oo m;split at h
  ·rename_i k hk;cases h;obtain⟨_,hk2⟩:=ZbB hk;cases hx with
   | os h1 h2 h3 h4 h5=>exact .os (by simp only[rhoK];rw[show keep[k]? = some b from by simpa using hk2];exact h1) h2 h3 h4 h5
  ·rename_i hk;have hnk:=Zbe hk;split at h;rotate_left
   ·cases h
   rename_i ty s els hb;cases h;refine .d (Z6j (b:=b) (els0:=els) I hx (by simp[Z1l,hb]) hnk ⟨_,hb,by simp⟩ (fun e he=>List.mem_of_mem_drop (List.mem_of_mem_take he)) (fun hfr=>by subst hfr;simpa[allP]using hp) fun a n c hv hn=>?_);subst hv;generalize hvv:Value.slice (some a) n c=vv at hx;cases hx with
   | os h1 h2 h3 h4 h5 =>
    injection hvv with e1 e2 e3;rcases h5 with h5 | ⟨g,hg,e,_⟩
    ·omega
    ·rw[← e1]at e;cases e;exact⟨_,h1,hg⟩
 ·cases h
theorem ZjH(I:Inv Z4g Im0 w0 ρ w Im H clk){x y:AV}{v:Value}{p:List Prop}(hx:Rel ρ w Im x v)(h:finA keep H fr x=some (y,p))(hp:allP p):Rel (rhoK ρ keep) w (ImK fr Im ρ H keep) y v:=by
 unfold finA at h;split at h
 ·split at h;rotate_left
  ·cases h
  rename_i r q hr;cases h;obtain⟨h1,h2⟩:=Z4V hr hp;obtain⟨cs,rfl,k1,k2,k3⟩:=Z3u hx;refine .ag _ cs oq k2 fun i a u ha hu=>?_;obtain⟨z,p',m1,m2,m3⟩:=h2 i a ha;exact Z8I I (k3 i z u m1 hu) m2 m3
 ·split at h;rotate_left
  ·cases h
  rename_i r q hr;cases h;obtain⟨h1,h2⟩:=Z4V hr hp;cases hx with
  | fn k1 k3 =>
   refine .fn oq fun i a u ha hu=>?_;obtain⟨z,p',m1,m2,m3⟩:=h2 i a ha;exact Z8I I (k3 i z u m1 hu) m2 m3
 ·split at h;rotate_left
  ·cases h
  rename_i r q hr;cases h;obtain⟨h1,h2⟩:=Z4V hr hp;cases hx with
  | ic hx =>
   obtain⟨cs,rfl,k1,k2,k3⟩:=Z3u hx;refine .ic (.ag _ cs oq k2 fun i a u ha hu=>?_);obtain⟨z,p',m1,m2,m3⟩:=h2 i a ha;exact Z8I I (k3 i z u m1 hu) m2 m3
 ·split at h;rotate_left
  ·cases h
  rename_i r q hr;cases h;cases hx with
  | ic hx=>exact .ic (Z8I I hx hr hp)
 ·exact Z8I I hx h hp
theorem Zo0(I:Inv Z4g Im0 w0 ρ w Im H clk){x y:AV}{v:Value}{p:List Prop}(hx:Rel ρ w Im x v)(h:finT keep H fr x=some (y,p))(hp:allP p):Rel (rhoK ρ keep) w (ImK fr Im ρ H keep) y v:=by
 unfold finT at h;split at h
 ·split at h;rotate_left
  ·cases h
  rename_i r q hr;cases h;obtain⟨h1,h2⟩:=Z4V hr hp;cases hx with
  | tu _ cs k1 k3 =>
   refine .tu _ cs oq fun i a u ha hu=>?_;obtain⟨z,p',m1,m2,m3⟩:=h2 i a ha;exact ZjH I (k3 i z u m1 hu) m2 m3
 ·exact ZjH I hx h hp
theorem ZdA{H:Heap}:∀ {keep:List Nat} {l:List Blk} {q:List Prop},finN keep H fr=some (l,q)→allP q→l.length=keep.length∧∀ (k:Nat) (B:Blk),l[k]? = some B→∃ b ty s els,keep[k]? = some b∧H b=some (.arr ty s els)∧B = .arr ty s els∧(fr=true→Z0S els)
 | [],l,q,h,_=>by simp[finN]at h;obtain⟨rfl,rfl⟩:=h;simp
 | b::keep,l,q,h,hq=>by
  simp only[finN]at h;split at h;rotate_left
  ·cases h
  rename_i ty s els m q' hb hm;cases h;obtain⟨p1,p2⟩:=allP_append.1 hq;obtain⟨h1,h2⟩:=ZdA hm p2;refine⟨by simp[h1],fun k B hB=>?_⟩;cases k with
  | zero=>simp at hB;subst hB;exact⟨b,ty,s,els,rfl,hb,rfl,fun h=>by subst h;simpa[allP]using p1⟩
  | succ k=>exact h2 k B (by simpa using hB)
end
theorem ZnK(b:Nat):∀ {l:List Nat} {i j:Nat},l.Nodup→l[i]? = some b→l[j]? = some b→i=j
 | [],i,j,_,hi,_=>by simp at hi
 | x::l,i,j,hn,hi,hj=>by
  obtain⟨h1,h2⟩:=List.nodup_cons.1 hn;cases i with
  | zero =>
   cases j with
   | zero=>rfl
   | succ j =>
    simp at hi hj;subst hi;exact absurd (List.mem_of_getElem? hj) h1
  | succ i =>
   cases j with
   | zero =>
    simp at hi hj;subst hj;exact absurd (List.mem_of_getElem? hi) h1
   | succ j =>
    have:=ZnK b h2 (by simpa using hi) (by simpa using hj);omega
theorem Z0i{P:Program}{f:Nat}{fn:Func}{args:List AV}{fr:Bool}{res:AV}{news:List Blk}(hints:List (Nat×List Hint))(cuts:List (Nat×Tg×Ex×Tg))(keep:List Nat)(hkeep:keep.Nodup)
  (hf:P.funcs[f]? = some fn) {φ:Prop} (hφ:φ) (h1:oblO (runF P hints cuts keep fn args fr res news)=φ) (h2:lefO (runF P hints cuts keep fn args fr res news)=rigO (runF P hints cuts keep fn args fr res news)):GSpec P f args fr res news:=by
 rw[← h1]at hφ;cases hr:runF P hints cuts keep fn args fr res news with
 | none=>rw[hr]at hφ;exact hφ.elim
 | some r =>
  rw[hr]at hφ h2;have heq:EqP r.eq:=Z8R h2;have hph:allP r.ph:=hφ;clear h1 h2 hφ;unfold runF at hr;split at hr
  ·cases hr
  rename_i c hb;split at hr
  ·cases hr
  rename_i hpure;split at hr
  ·cases hr
  rename_i q hq;split at hr
  ·cases hr
  rename_i hne;split at hr
  ·cases hr
  rename_i l hl;split at hr;rotate_left
  ·cases hr
  rename_i x p ns qq hx hns;split at hr;rotate_left
  ·cases hr
  rename_i hlen;cases hr;obtain⟨hph',hph3⟩:=allP_append.1 hph;obtain⟨hph1,hph2⟩:=allP_append.1 hph';have heq1:=heq.left.left;have hxe:(coeT x res).1=res:=heq.left.right ((coeT x res).1,res) pq;obtain⟨hph2,hph2'⟩:=allP_append.1 hph2;have hnse:ns=news:=by
   apply List.ext_getElem?;intro i;by_cases hi:i<ns.length
   ·have hi':i<news.length:=by omega
    have:(encB ns[i],encB news[i])∈(ns.map encB).zip (news.map encB):=by
     refine List.mem_iff_getElem?.2 ⟨i, ?_⟩;simp[List.getElem?_zip_eq_some,hi,hi']
    have:=ZbX (heq.right _ this);rw[List.getElem?_eq_getElem hi,List.getElem?_eq_getElem hi',this]
   ·rw[List.getElem?_eq_none oq,List.getElem?_eq_none oq]
  subst hnse;intro w Im vs hIm hsz hargs;refine calls_of_wp hf hb ?_;have hS:Sys Z4g Im w (args++List.replicate (fn.ntmps-args.length) .any) (fun _=>none) 1 { tmps:=vs++Array.replicate (fn.ntmps-vs.size) undef,defers:=[] } w:=by
   refine⟨fun _=>none,Im,⟨Kept.refl _ _,(fun b b' β β' g _ _ h=>nomatch h),(fun b β g _ h=>nomatch h),(fun b β g h=>nomatch h),(fun b β g h=>nomatch h),hIm,(fun g h=>.inl h),(fun b B h=>nomatch h),fun _ _ _=>rfl,Nat.le_refl 1,fun b β _ h=>nomatch h⟩,⟨by simp[hsz],fun i y v hy hv=>?_,rfl⟩⟩;rw[List.getElem?_append]at hy;simp only[Array.getElem?_append]at hv;rw[hsz]at hv;split at hy
   ·rename_i hi;rw[if_pos hi]at hv;exact hargs i y v hy hv
   ·have:=List.mem_of_getElem? hy;rw[(List.mem_replicate.1 this).2];exact .any _
  refine wp_mono (Z9N hq hph1 heq1 _ _ _ _ _ hS) ?_;rintro e a' w' ⟨rfl,hS'⟩;have post:a'.defers=[]∧∃ v,(results fn a'.tmps).run P w' = .ok v w'∧∃ u,Ending.returned v = .returned u∧ZeW w Im fr res ns u w':=by
   obtain⟨ρ,Im',I,T⟩:=hS';obtain⟨v,h1,h2⟩:=Z7o I T hl;refine⟨T.defers,v,h1,v,rfl, ?_⟩;have hxr:=Zgo (r:=res) (Zo0 I h2 hx hph2) hph2';rw[hxe]at hxr;obtain⟨n1,n2⟩:=ZdA hns hph3;have hK:∀ (k b:Nat),keep[k]? = some b→∃ B:Blk,ns[k]? = some B:=by
    intro k b hk;have hk':=(List.getElem?_eq_some_iff.1 hk).1;exact⟨ns[k],List.getElem?_eq_getElem oq⟩
   refine⟨⟨I.kept.os,I.kept.tape,I.kept.output,I.kept.size,fun k hk _=>I.kept.block k hk (fun h=>h.no),I.kept.rows⟩,rhoK ρ keep,ImK fr Im' ρ q.s.H keep, ?_, ?_, ?_, ?_, ?_, ?_,hxr⟩
   ·rintro g (⟨h1,h2⟩ | ⟨b,β,_,_,hb,hg⟩)
    ·rcases I.im0 g h2 with h | h | h
     ·exact .inl ⟨h1,h⟩
     ·exact .inr h
     ·exact h.no.elim
    ·rcases I.own b β g hb hg with⟨h,_⟩ | h
     ·exact .inr h
     ·exact h.no.elim
   ·rintro g (⟨h1,h2⟩ | ⟨b,β,_,_,hb,hg⟩)
    ·exact I.imb g h2
    ·exact I.bnd b β g hb hg
   ·intro k β g hk hg;simp only[rhoK]at hk;split at hk;rotate_left
    ·cases hk
    rename_i b hkb;refine⟨?_,I.bnd b β g hk hg, ?_⟩
    ·rcases I.own b β g hk hg with⟨h,_⟩ | h
     ·exact h
     ·exact h.no.elim
    ·obtain⟨B,hB⟩:=hK k b hkb;obtain⟨b',ty,s,els,m1,m2,m3,m4⟩:=n2 k B hB;rw[hkb]at m1;cases m1;rintro(⟨_,h⟩ | ⟨b2,β2,h2,hl2,hb2,hg2⟩)
     ·exact I.notIm b β g ⟨_,m2,by simp⟩ hk hg h
     ·have:=I.inj b b2 β β2 g ⟨_,m2,by simp⟩ hl2 hk hb2 hg hg2;subst this;exact h2 (List.mem_of_getElem? hkb)
   ·intro k k' β β' g hk hk' hg hg';simp only[rhoK]at hk hk';split at hk;rotate_left
    ·cases hk
    rename_i b hkb;split at hk';rotate_left
    ·cases hk'
    rename_i b' hkb';obtain⟨B,hB⟩:=hK k b hkb;obtain⟨_,ty,s,els,m1,m2,_,_⟩:=n2 k B hB;rw[hkb]at m1;cases m1;obtain⟨B',hB'⟩:=hK k' b' hkb';obtain⟨_,ty',s',els',m1',m2',_,_⟩:=n2 k' B' hB';rw[hkb']at m1';cases m1';have:=I.inj b b' β β' g ⟨_,m2,by simp⟩ ⟨_,m2',by simp⟩ hk hk' hg hg';subst this;exact ZnK b hkeep hkb hkb'
   ·intro k β hk;simp only[rhoK]at hk;split at hk;rotate_left
    ·cases hk
    rename_i b hkb;rw[n1];exact(List.getElem?_eq_some_iff.1 hkb).1
   ·intro k B hB;obtain⟨b,ty,s,els,m1,m2,rfl,m4⟩:=n2 k B hB;obtain⟨β,h1,h2⟩:=I.blk b _ m2;refine⟨β,by simp only[rhoK];rw[m1];exact h1, ?_⟩;obtain⟨k0,k1,k2,k3,k4⟩:=h2;refine⟨k0,k1,k2,k3,k4.imp (fun h=>h) fun⟨g,cs,j1,j2,j3,j4⟩=>⟨g,cs,j1,j2,j3,fun i e o y hi ho=>?_⟩⟩;obtain⟨u,j5,j6⟩:=j4 i e o y hi ho;refine⟨u,j5, ?_⟩;cases fr with
    | true=>exact Zbp (m4 rfl) (List.mem_of_getElem? hi) (List.mem_of_getElem? ho) j6
    | false=>exact j6.mono (Ext.refl _ _) (fun g hg=>.inl ⟨rfl,hg⟩)
  cases hqe:q.e with
  | nrm=>exact post
  | ret=>exact post
  | ext n=>exact absurd hqe (hne n)
def Zev(n:Nat):Code→Option Code
 | .block m c=>match Nat.beq m n with
  | true=>some (.block m c)
  | false=>Zev n c
 | .seq a b=>match Zev n a with
  | some c=>some c
  | none=>Zev n b
 | .cond _ a b=>match Zev n a with
  | some c=>some c
  | none=>Zev n b
 | .loop c=>Zev n c
 | _=>none
def blkF(fn:Func)(n:Nat):Code:=match fn.body with
 | some c=>match Zev n c with
  | some b=>b
  | none=>.skip
 | none=>.skip
def rndF(fn:Func)(n:Nat):Code:=match blkF fn n with
 | .block _ (.loop c)=>c
 | _=>.skip
def Z6Z(n:Nat):Code→Bool
 | .block m (.loop _)=>Nat.beq m n
 | _=>false
theorem Z6E{fn:Func}{n:Nat}(h:Z6Z n (blkF fn n)=true):blkF fn n = .block n (.loop (rndF fn n)):=by
 unfold rndF;generalize blkF fn n=c at h ⊢;unfold Z6Z at h;split at h
 ·rw[Nat.eq_of_beq_eq_true h]
 ·cases h
theorem ZbT{P:Program}{fn:Func}{n k:Nat}{s t:St}(h:Z6Z n (blkF fn n)=true)(hr:Z2G P (rndF fn n) k s (.ext n) t):CSpec P (blkF fn n) s .nrm t:=by
 rw[Z6E h];exact ZiX (Zeb hr)
theorem ZbO{P:Program}{fn:Func}{n k:Nat}{s t:St}(h:Z6Z n (blkF fn n)=true)(hr:Z2G P (rndF fn n) k s .ret t):CSpec P (blkF fn n) s .ret t:=by
 rw[Z6E h];exact Ziw (Zeb hr)
theorem ZdW{P:Program}{c:Code}{S:Nat→St}{e:Ex}{t:St}(n:Nat)(h:∀ i,i<n→CSpec P c (S i) .nrm (S (i+1)))(hl:e≠.nrm)(hn:CSpec P c (S n) e t):Z2G P c n (S 0) e t:=by
 have:∀ m i,i+m=n→Z2G P c m (S i) e t:=by
  intro m;induction m with
  | zero=>intro i hi;rw[Nat.add_zero]at hi;subst hi;exact⟨hl,hn⟩
  | succ m ih=>intro i hi;exact⟨S (i+1),h i oq,ih (i+1) oq⟩
 exact this n 0 oq
theorem Z0a{P:Program}{fn:Func}{b:Nat}{S:Nat→St}{t:St}(n:Nat)(hb:Z6Z b (blkF fn b)=true)(h:∀ i,i<n→CSpec P (rndF fn b) (S i) .nrm (S (i+1)))(hn:CSpec P (rndF fn b) (S n) (.ext b) t):CSpec P (blkF fn b) (S 0) .nrm t :=
 ZbT hb (ZdW n h (fun h=>nomatch h) hn)
theorem Z0I{P:Program}{fn:Func}{b:Nat}{S:Nat→St}{t:St}(n:Nat)(hb:Z6Z b (blkF fn b)=true)(h:∀ i,i<n→CSpec P (rndF fn b) (S i) .nrm (S (i+1)))(hn:CSpec P (rndF fn b) (S n) .ret t):CSpec P (blkF fn b) (S 0) .ret t :=
 ZbO hb (ZdW n h (fun h=>nomatch h) hn)
def int(n:Int):AV:=.d (.sc (.int .i64 n))
def u64(n:Int):AV:=.d (.sc (.int .u64 n))
def bool(b:Bool):AV:=.d (.sc (.bool b))
def dint(n:Int):DV:=.sc (.int .i64 n)
def du64(n:Int):DV:=.sc (.int .u64 n)
def wdv(x:Int):List DV:=[du64 x]
def idv(x:Int):List DV:=[dint x]
def ZoQ(k:Nat):List (Nat×AV)→AV
 | []=>.any
 | (j,a)::r=>match Nat.beq j k with
  | true=>a
  | false=>ZoQ k r
def tmGo(l:List (Nat×AV)):Nat→Nat→List AV
 | 0,_=>[]
 | n+1,k=>ZoQ k l::tmGo l n (k+1)
def tm(n:Nat)(l:List (Nat×AV)):List AV:=tmGo l n 0
end Go.Sx
