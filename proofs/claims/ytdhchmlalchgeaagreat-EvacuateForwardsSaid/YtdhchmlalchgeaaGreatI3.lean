/-
 The statement EvacuateForwards: part 3.
 Conditions: none.
-/
import Derived.Test.YtdhchmlalchgeaaGreatI2
set_option maxRecDepth 100000
set_option maxHeartbeats 2000000
set_option linter.all false
namespace Go.Sx
def idL:AV→List Nat
 | .pt b _ _=>[b]
 | .os b _ _=>[b]
 | .ow b=>[b]
 | _=>[]
def idM:AV→List Nat
 | .ag l=>l.flatMap idL
 | .fn _ l=>l.flatMap idL
 | .ic _ a=>idL a
 | a=>idL a
def idA:AV→List Nat
 | .fn _ l=>l.flatMap idM
 | a=>idM a
theorem Zn2{x:AV}{b:Nat}(h:b∈idL x):b∈idM x:=by
 cases x<;>first | exact h | simp[idL]at h
theorem Zot{x:AV}{b:Nat}(h:b∈idM x):b∈idA x:=by
 cases x with
 | fn f l =>
  obtain⟨y,hy,hb⟩:=List.mem_flatMap.1 h;exact List.mem_flatMap.2 ⟨y,hy,Zn2 hb⟩
 | _=>exact h
def idV:AV→List Nat
 | .gd _ a=>idA a
 | a=>idA a
def ZjP:Operand→List Nat
 | .tmp t=>[t]
 | _=>[]
def Z3z(ops:Array Oper)(o:Oper):List Nat:=o.op.operands.toList.flatMap ZjP++(match o.guard with | none=>[] | some (j,_)=>match ops[j]? with | some oj=>(match oj.dst with | some t=>[t] | none=>[]) | none=>[])
def ZkT(tmps:List AV)(o:Oper):List Nat:=match o.op with
 | .move _=>[]
 | _=>o.op.operands.toList.flatMap fun x=>idV (ev tmps x)
def Zhw(hints:List (Nat×List Hint))(tmps:List AV)(o:Oper):List Nat:=ZkT tmps o++borL hints o
theorem ZbD(tmps:List AV){o:Oper}(h:∀ x,o.op≠.move x):ZkT tmps o=o.op.operands.toList.flatMap fun x=>idV (ev tmps x):=by
 unfold ZkT;split
 ·rename_i x hx;exact absurd hx (h x)
 ·rfl
def Z4I(clk:Nat)(o:Oper):List Nat:=match o.dst with
 | some d=>(clk*8000+d)::(List.range 7).map fun k=>nid d clk k
 | none=>[clk*8000+7999]
theorem ZhT(G:Option Bool)(R:Operand→AV)(x:Operand):∀ b,b∈idA (Z0X G R x)→b∈idV (R x):=by
 intro b hb;cases G with
 | none =>
  simp only[Z0X]at hb;cases h:R x with
  | gd g a=>rw[h]at hb;simp[idA,idM,idL]at hb
  | _=>rw[h]at hb;exact hb
 | some g =>
  simp only[Z0X]at hb;cases h:R x with
  | gd g' a=>rw[h]at hb;exact hb
  | _=>rw[h]at hb;exact hb
section
variable {P:Program} {H H':Heap}
theorem Z3L{x:AV}(h:∀ b∈idA x,H b=H' b):Z15 H x=Z15 H' x:=by
 cases x with
 | ow b=>simp only[Z15];rw[h b (by simp[idA,idM,idL])]
 | os b o n=>simp only[Z15];rw[h b (by simp[idA,idM,idL])]
 | d x =>
  cases x with
  | sl=>rfl
  | sc v=>unfold Z15;split<;>first | rfl | (split<;>simp_all) | simp_all
 | _=>rfl
theorem Zl4{o:Oper}{id:Nat}{hs:List Hint}{E:Operand→AV}(h:∀ x∈o.op.operands.toList,∀ b∈idA (E x),H b=H' b):act P o id hs E H=act P o id hs E H':=by
 unfold act;cases hop:o.op with
 | load t x =>
  have hx:=h x (by simp[hop,Op.operands]);simp only[Z7e];cases hE:E x with
  | pt b i o=>simp only;rw[hx b (by rw[hE];simp[idA,idM,idL])]
  | _=>rfl
 | store t x y =>
  have hx:=h x (by simp[hop,Op.operands]);dsimp only;split
  ·rfl
  ·simp only[Z87];cases hE:E x with
   | pt b i o=>simp only;rw[hx b (by rw[hE];simp[idA,idM,idL])]
   | _=>rfl
 | slice t x lo hi mx =>
  have hx:=h x (by simp[hop,Op.operands]);simp only[Z7V];cases hE:E x with
  | ow b=>simp only;rw[hx b (by rw[hE];simp[idA,idM,idL])]
  | os b o n=>simp only;rw[hx b (by rw[hE];simp[idA,idM,idL])]
  | d x=>cases x<;>rfl
  | _=>rfl
 | indexAddr t x y =>
  have hx:=h x (by simp[hop,Op.operands]);simp only[Z3O];cases hE:E x with
  | ow b=>simp only;rw[hx b (by rw[hE];simp[idA,idM,idL])]
  | os b o n=>simp only;rw[hx b (by rw[hE];simp[idA,idM,idL])]
  | d x=>cases x<;>rfl
  | _=>rfl
 | call c =>
  have hm:∀ x∈c.args.toList,∀ b∈idA (E x),H b=H' b:=fun x hx=>h x (by simp only[hop,Op.operands,Call.operands,Array.toList_append,List.mem_append];exact .inr hx);dsimp only;split
  ·split
   ·rename_i x t h1 h2;have hx:=hm x (by rw[h1];simp);simp only[Zg3];cases hE:E x with
    | ow b=>simp only;rw[hx b (by rw[hE];simp[idA,idM,idL])]
    | d x=>cases x<;>rfl
    | _=>rfl
   ·rfl
  ·split
   ·rename_i x y t t' h1 h2;have hx:=hm x (by rw[h1];simp);have hy:=hm y (by rw[h1];simp);simp only[ZbM];rw[Z3L hy];cases hE:E x with
    | ow b=>simp only;rw[hx b (by rw[hE];simp[idA,idM,idL])]
    | os b o n=>simp only;rw[hx b (by rw[hE];simp[idA,idM,idL])]
    | _=>rfl
   ·rfl
  ·split
   ·rename_i x t h1 h2;have hx:=hm x (by rw[h1];simp);simp only[Z89];cases hE:E x with
    | ow b=>simp only;rw[hx b (by rw[hE];simp[idA,idM,idL])]
    | os b o n=>simp only;rw[hx b (by rw[hE];simp[idA,idM,idL])]
    | _=>rfl
   ·rfl
  all_goals rfl
 | _=>rfl
theorem Z6S{x:AV}(h:∀ b∈idL x,H b=H' b):toD1 H x=toD1 H' x:=by
 cases x with
 | ow b=>simp only[toD1];rw[Z3L (x:=.ow b) (fun b hb=>h b (by simpa[idA,idM]using hb))]
 | os b o n=>simp only[toD1];rw[Z3L (x:=.os b o n) (fun b hb=>h b (by simpa[idA,idM]using hb))]
 | _=>rfl
theorem Z9m:∀ {l:List AV},(∀ b∈l.flatMap idL,H b=H' b)→toDs H l=toDs H' l
 | [],_=>rfl
 | a::l,h=>by
  simp only[toDs];rw[Z6S (fun b hb=>h b (by simp[hb])),Z9m (l:=l) (fun b hb=>h b (by
   simp only[List.flatMap_cons,List.mem_append];exact .inr hb))]
theorem Zkr{x:AV}(h:∀ b∈idM x,H b=H' b):toD H x=toD H' x:=by
 cases x with
 | ag l=>simp only[toD];rw[Z9m h]
 | fn f l=>simp only[toD];rw[Z9m h]
 | ic t a=>simp only[toD];rw[Z6S h]
 | ow b=>exact Z6S (x:=.ow b) h
 | os b o n=>exact Z6S (x:=.os b o n) h
 | _=>rfl
theorem Z8r:∀ {l:List AV},(∀ x∈l,∀ b∈idM x,H b=H' b)→toDD H l=toDD H' l
 | [],_=>rfl
 | a::l,h=>by
  simp only[toDD];rw[Zkr (h a pq),Z8r (l:=l) (fun x hx=>h x (by simp[hx]))]
theorem Z9w{d clk:Nat}:∀ {news:List Blk} {k:Nat} {H H':Heap},(∀ i,k≤i→i<k+news.length→H (nid d clk i)=H' (nid d clk i))→Z5a d clk k news H=Z5a d clk k news H'
 | [],k,H,H',_=>rfl
 | B::r,k,H,H',h=>by
  simp only[Z5a];rw[h k (Nat.le_refl _) pq,Z9w (news:=r) (k:=k+1) (H:=updH H (nid d clk k) B) (H':=updH H' (nid d clk k) B) (fun i h1 h2=>by
   unfold updH;split
   ·rfl
   ·exact h i oq qo)]
theorem ZeU{x:AV}{b:Nat}(h:b∈ksL x):b∈idL x:=by
 cases x<;>first | exact h | simp[ksL]at h
theorem ZnX{x:AV}{b:Nat}(h:b∈ksM x):b∈idM x:=by
 cases x with
 | ag l =>
  obtain⟨y,hy,hb⟩:=List.mem_flatMap.1 h;exact List.mem_flatMap.2 ⟨y,hy,ZeU hb⟩
 | fn f l =>
  obtain⟨y,hy,hb⟩:=List.mem_flatMap.1 h;exact List.mem_flatMap.2 ⟨y,hy,ZeU hb⟩
 | ic t a=>exact ZeU (x:=a) h
 | ow b=>exact h
 | os b o n=>exact h
 | _=>simp[ksM,ksL]at h
theorem Z9v:∀ {l:List Nat},(∀ b∈l,H b=H' b)→Z6C H l=Z6C H' l
 | [],_=>rfl
 | b::l,h=>by
  simp only[Z6C];rw[h b pq,Z9v (l:=l) fun c hc=>h c (by simp[hc])]
theorem Zfh{x:AV}{b:Nat}(h:b∈ptId x):b∈idL x:=by
 unfold ptId at h;split at h
 ·exact h
 ·simp at h
theorem ZlP{x:AV}{b:Nat}(h:b∈ptId x):b∈idA x:=Zot (Zn2 (Zfh h))
theorem ZaR:∀ {l:List Nat},(∀ b∈l,H b=H' b)→Z9U H l=Z9U H' l
 | [],_=>rfl
 | b::l,h=>by
  simp only[Z9U];rw[h b pq,ZaR (l:=l) fun c hc=>h c (by simp[hc])]
theorem Z9e{t t' id:Nat}{hs:List Hint}{x y:AV}(hx:∀ b∈idA x,H b=H' b)(hy:∀ b∈idA y,H b=H' b):Z3o P t t' id hs x y H=Z3o P t t' id hs x y H':=by
 unfold Z3o;rw[Z3L hy];cases x with
 | ow b=>simp only;rw[hx b (by simp[idA,idM,idL])]
 | _=>rfl
theorem Z9H{t t' id:Nat}{hs:List Hint}{x y:AV}(hx:∀ b∈idA x,H b=H' b)(hy:∀ b∈idA y,H b=H' b):Z46 P t t' id hs x y H=Z46 P t t' id hs x y H':=by
 unfold Z46;split
 ·unfold Z5r;cases x with
  | ow b=>simp only;rw[hx b (by simp[idA,idM,idL])]
  | _=>rfl
 ·exact Z9e hx hy
end
theorem Z2F{G:Option Bool}{R R':Operand→AV}:∀ {l:List Operand},(∀ x∈l,R x=R' x)→Z2D G R l=Z2D G R' l
 | [],_=>rfl
 | x::l,h=>by
  simp only[Z2D];rw[h x pq,Z2F (l:=l) (fun y hy=>h y (by simp[hy]))]
theorem Zdn{H H':Heap}{f:Nat→Option Nat}:∀ {l:List Nat},(∀ b∈l,H b=H' b)→preB f H l=preB f H' l
 | [],_=>rfl
 | b::l,h=>by
  simp only[preB];rw[h b pq,Zdn (l:=l) (fun y hy=>h y (by simp[hy]))]
theorem Z7z{H H':Heap}:∀ {l:List Nat},(∀ b∈l,H b=H' b)→Z3T H l=Z3T H' l
 | [],_=>rfl
 | b::l,h=>by
  simp only[Z3T];rw[h b pq,Z7z (l:=l) (fun y hy=>h y (by simp[hy]))]
theorem Z5O{P:Program}{clk:Nat}{ops:Array Oper}{hints:List (Nat×List Hint)}{o:Oper}{tmps tmps':List AV}{H H':Heap}{c:Core}
  (ht:∀ t∈Z3z ops o,tmps.getD t .any=tmps'.getD t .any) (hH:∀ b∈Zhw hints tmps o++Z4I clk o,H b=H' b) (hn:∀ d,o.dst=some d→∀ fr res news r,look d hints = .call fr res news::r→news.length≤7)
  (h:Z2z P clk ops hints o tmps H=some c):Z2z P clk ops hints o tmps' H'=some c:=by
 rw[← h];have hev:∀ x∈o.op.operands.toList,ev tmps' x=ev tmps x:=by
  intro x hx;cases x with
  | tmp t=>exact(ht t (by simp only[Z3z,List.mem_append,List.mem_flatMap];exact .inl ⟨_,hx,by simp[ZjP]⟩)).symm
  | _=>rfl
 have hg:guardOf ops tmps' o.guard=guardOf ops tmps o.guard:=by
  cases hgd:o.guard with
  | none=>rfl
  | some p =>
   obtain⟨j,want⟩:=p;simp only[guardOf];cases hj:ops[j]? with
   | none=>rfl
   | some oj =>
    cases hd:oj.dst with
    | none=>simp only[hd]
    | some t =>
     have:=ht t (by simp[Z3z,hgd,hj,hd]);simp only[hd];rw[this]
 have hstrip:∀ G,∀ x∈o.op.operands.toList,Z0X G (ev tmps') x=Z0X G (ev tmps) x:=by
  intro G x hx;cases G<;>simp only[Z0X,hev x hx]
 have hfoot:(∀ x,o.op≠.move x)→∀ G,∀ x∈o.op.operands.toList,∀ b∈idA (Z0X G (ev tmps) x),H b=H' b:=by
  intro hm G x hx b hb;exact hH b (List.mem_append.2 (.inl (List.mem_append.2 (.inl (by rw[ZbD tmps hm];exact List.mem_flatMap.2 ⟨x,hx,ZhT G _ x b hb⟩)))))
 have hown:∀ b∈Z4I clk o,H b=H' b:=fun b hb=>hH b (List.mem_append.2 (.inr hb));have hplain:∀ G,Z2v P clk hints o G tmps' H'=Z2v P clk hints o G tmps H:=by
  intro G;have hact:∀ id hs (E:Operand→AV),(∀ x∈o.op.operands.toList,∀ b∈idA (E x),(∀ x,o.op≠.move x)→H b=H' b)→act P o id hs E H'=act P o id hs E H:=by
   intro id hs E hE;by_cases hm:∃ x,o.op = .move x
   ·obtain⟨x,hx⟩:=hm;simp only[act,hx]
   ·exact(Zl4 fun x hx b hb=>hE x hx b hb (fun x hx=>hm ⟨x,hx⟩)).symm
  unfold Z2v;cases hd:o.dst with
  | some d =>
   simp only;rw[← hown (clk*8000+d) (by simp[Z4I,hd])];rw[Z9i (E:=Z0X G (ev tmps')) (E':=Z0X G (ev tmps)) (hstrip G),hact _ _ _ (fun x hx b hb hm=>hfoot hm G x hx b hb),Z2F hev]
  | none =>
   cases G with
   | some g=>rfl
   | none =>
    simp only;rw[← hown (clk*8000+7999) (by simp[Z4I,hd])];have e1:act P o (clk*8000+7999) (look (keyOf o) hints) (ev tmps') H'=act P o (clk*8000+7999) (look (keyOf o) hints) (ev tmps) H':=Z9i hev;have e2:act P o (clk*8000+7999) (look (keyOf o) hints) (ev tmps) H'=act P o (clk*8000+7999) (look (keyOf o) hints) (ev tmps) H:=hact _ _ _ (fun x hx b hb hm=>hfoot hm none x hx b hb);rw[e1,e2]
 unfold Z2z;rw[hg];cases guardOf ops tmps o.guard with
 | none=>rfl
 | some G =>
  simp only;cases hop:o.op with
  | pick x y z =>
   have h1:=hstrip G x (by simp[hop,Op.operands]);have h2:=hev y (by simp[hop,Op.operands]);have h3:=hev z (by simp[hop,Op.operands]);have h4:=hev x (by simp[hop,Op.operands]);simp only[Z6n];rw[h1,h2,h3,Z2F (G:=G) (l:=[x]) (R:=ev tmps') (R':=ev tmps) (by simpa using h4)]
  | call cl =>
   have hm:∀ x,o.op≠.move x:=fun x h=>by rw[hop]at h;cases h
   have hfoot:=hfoot hm;simp only;cases hcal:cl.callee with
   | value f =>
    simp only;cases Zmt o hints with
    | true =>
     have hops:o.op.operands.toList=f::cl.args.toList:=by simp[hop,Op.operands,Call.operands,hcal]
     have hargs:cl.args.toList.map (Z0X G (ev tmps'))=cl.args.toList.map (Z0X G (ev tmps)):=List.map_congr_left fun x hx=>hstrip G x (by rw[hops];exact List.mem_cons_of_mem _ hx);have hfe:=hstrip G f (by rw[hops];simp);simp only[Z6o];cases hd:o.dst with
     | none=>rfl
     | some d =>
      simp only;rw[hfe,hargs,Z2F (G:=G) (l:=f::cl.args.toList) (R:=ev tmps') (R':=ev tmps) (by rw[← hops];exact hev)];cases hfv:Z0X G (ev tmps) f with
      | fn k caps =>
       simp only;have hpre:Z9U H' ((cl.args.toList.map (Z0X G (ev tmps))++caps).flatMap ptId)=Z9U H ((cl.args.toList.map (Z0X G (ev tmps))++caps).flatMap ptId):=by
        refine(ZaR fun b hb=>?_).symm;obtain⟨x,hx,hbx⟩:=List.mem_flatMap.1 hb;rcases List.mem_append.1 hx with hx | hx
        ·obtain⟨y,hy,rfl⟩:=List.mem_map.1 hx;exact hfoot G y (by rw[hops];exact List.mem_cons_of_mem _ hy) b (ZlP hbx)
        ·refine hfoot G f (by rw[hops];simp) b ?_;rw[hfv];exact List.mem_flatMap.2 ⟨x,hx,Zn2 (Zfh hbx)⟩
       rw[hpre]
      | _=>rfl
    | false =>
    cases ZmB o hints with
    | true =>
     have hops:o.op.operands.toList=f::cl.args.toList:=by simp[hop,Op.operands,Call.operands,hcal]
     cases G with
     | some g=>rfl
     | none =>
     have hargs:cl.args.toList.map (ev tmps')=cl.args.toList.map (ev tmps):=List.map_congr_left fun x hx=>hev x (by rw[hops];exact List.mem_cons_of_mem _ hx);have hfe:=hev f (by rw[hops];simp);simp only[Z6F];cases hd:o.dst with
     | none=>rfl
     | some d =>
      simp only;rw[hfe,hargs];cases hfv:ev tmps f with
      | fn k caps =>
       simp only;have hall:∀ x∈cl.args.toList.map (ev tmps)++caps,∀ b∈idM x,H b=H' b:=by
        intro x hx b hb;rcases List.mem_append.1 hx with hx | hx
        ·obtain⟨y,hy,rfl⟩:=List.mem_map.1 hx;exact hfoot none y (by rw[hops];exact List.mem_cons_of_mem _ hy) b (Zot hb)
        ·refine hfoot none f (by rw[hops];simp) b ?_;simp only[Z0X];rw[hfv];exact List.mem_flatMap.2 ⟨x,hx,hb⟩
       have hdd:toDD H' (cl.args.toList.map (ev tmps)++caps)=toDD H (cl.args.toList.map (ev tmps)++caps):=(Z8r hall).symm;have harr:Z6C H' ((cl.args.toList.map (ev tmps)++caps).flatMap ksM)=Z6C H ((cl.args.toList.map (ev tmps)++caps).flatMap ksM):=by
        refine(Z9v fun b hb=>?_).symm;obtain⟨x,hx,hbx⟩:=List.mem_flatMap.1 hb;exact hall x hx b (ZnX hbx)
       rw[hdd,harr]
      | _=>rfl
    | false =>
    cases hib:ZoM o hints with
    | true =>
     have hops:o.op.operands.toList=f::cl.args.toList:=by simp[hop,Op.operands,Call.operands,hcal]
     have hargs:cl.args.toList.map (Z0X G (ev tmps'))=cl.args.toList.map (Z0X G (ev tmps)):=List.map_congr_left fun x hx=>hstrip G x (by rw[hops];exact List.mem_cons_of_mem _ hx);have hfe:=hstrip G f (by rw[hops];simp);have hbl:∀ b∈borL hints o,H b=H' b:=fun b hb=>hH b (List.mem_append.2 (.inl (List.mem_append.2 (.inr hb))));simp only[Z8I];cases hd:o.dst with
     | none=>rfl
     | some d =>
      simp only;rw[hfe,hargs,Z2F (G:=G) (l:=f::cl.args.toList) (R:=ev tmps') (R':=ev tmps) (by rw[← hops];exact hev)];cases hl:look d hints with
      | nil=>rfl
      | cons hh r =>
       cases hh with
       | bor ls res post =>
        simp only;have hpre:preB (fun b=>idxN b ls 0) H' ls=preB (fun b=>idxN b ls 0) H ls:=by
         refine(Zdn fun b hb=>?_).symm;exact hbl b (by simp only[borL,hd,hl];exact hb)
        rw[hpre];cases post with
        | nil=>rfl
        | cons B0 post0 =>
        generalize hpost:B0::post0=post;simp only[← hpost];rw[hpost];rcases Bool.eq_false_or_eq_true (Nat.ble (post.length-ls.length) 7)with h7 | h7
        ·have hno:Z3T H' (nids d clk 0 (post.length-ls.length))=Z3T H (nids d clk 0 (post.length-ls.length)):=by
          refine(Z7z fun b hb=>hown b ?_).symm;obtain⟨i,hi⟩:=List.getElem?_of_mem hb;have hil:i<post.length-ls.length:=by
           have:=(List.getElem?_eq_some_iff.1 hi).1;rwa [ZbN]at this
          rw[Zfx _ _ _ _ _ hil]at hi;have h7:=Nat.le_of_ble_eq_true h7;simp only[Z4I,hd,List.mem_cons,List.mem_map,List.mem_range];exact .inr ⟨0+i,by omega,by simpa using hi⟩
         rw[hno]
        ·rw[h7];simp only[Bool.and_false,Bool.false_and]
       | _=>rfl
    | false =>
    have hops:o.op.operands.toList=f::cl.args.toList:=by simp[hop,Op.operands,Call.operands,hcal]
    have hargs:cl.args.toList.map (Z0X G (ev tmps'))=cl.args.toList.map (Z0X G (ev tmps)):=List.map_congr_left fun x hx=>hstrip G x (by rw[hops];exact List.mem_cons_of_mem _ hx);have hfe:=hstrip G f (by rw[hops];simp);simp only[Z72];cases hd:o.dst with
    | none=>rfl
    | some d =>
     simp only;rw[hfe,hargs,Z2F (G:=G) (l:=f::cl.args.toList) (R:=ev tmps') (R':=ev tmps) (by rw[← hops];exact hev)];cases hfv:Z0X G (ev tmps) f with
     | fn k caps =>
      simp only;cases hl:look d hints with
      | nil=>rfl
      | cons hh r =>
       cases hh with
       | call fr res news =>
        simp only;have hdd:toDD H' (cl.args.toList.map (Z0X G (ev tmps))++caps)=toDD H (cl.args.toList.map (Z0X G (ev tmps))++caps):=by
         refine(Z8r fun x hx b hb=>?_).symm;rcases List.mem_append.1 hx with hx | hx
         ·obtain⟨y,hy,rfl⟩:=List.mem_map.1 hx;exact hfoot G y (by rw[hops];exact List.mem_cons_of_mem _ hy) b (Zot hb)
         ·refine hfoot G f (by rw[hops];simp) b ?_;rw[hfv];exact List.mem_flatMap.2 ⟨x,hx,hb⟩
        have hnews:Z5a d clk 0 news H'=Z5a d clk 0 news H:=by
         have hlen:=hn d hd fr res news r hl;refine(Z9w fun i _ hi=>?_).symm;refine hown _ ?_;simp only[Z4I,hd,List.mem_cons,List.mem_map,List.mem_range];exact .inr ⟨i,by omega,rfl⟩
        rw[hdd,hnews]
       | _=>rfl
     | _=>rfl
   | builtin b =>
    cases b with
    | append =>
     cases G with
     | some g=>rfl
     | none =>
      simp only[Z42];cases hd:o.dst with
      | none=>rfl
      | some d =>
       simp only;split
       ·rename_i x y t t' h1 h2;have hxm:x∈o.op.operands.toList:=by simp[hop,Op.operands,Call.operands,hcal,h1]
        have hym:y∈o.op.operands.toList:=by simp[hop,Op.operands,Call.operands,hcal,h1]
        rw[← hown (clk*8000+d) (by simp[Z4I,hd]),hev x hxm,hev y hym];have e:=Z9H (P:=P) (t:=t) (t':=t') (id:=clk*8000+d) (hs:=look d hints) (hfoot none x hxm) (hfoot none y hym);simp only[Z0X]at e;rw[e]
       ·rfl
    | _=>exact hplain G
   | invoke r m=>exact hplain G
  | _=>exact hplain G
theorem Z2Y{us:List (Nat×Blk)}{H:Heap}{b:Nat}(h:b∉us.map (·.1)):applyU us H b=H b:=by
 induction us generalizing H with
 | nil=>rfl
 | cons u us ih =>
  obtain⟨k,B⟩:=u;simp only[List.map_cons,List.mem_cons,not_or]at h;simp only[applyU];rw[ih h.2];unfold updH;rw[if_neg h.1]
theorem Z7L{us:List (Nat×Blk)}{H H':Heap}{b:Nat}(h:b∈us.map (·.1)∨H b=H' b):applyU us H b=applyU us H' b:=by
 induction us generalizing H H' with
 | nil =>
  rcases h with h | h
  ·simp at h
  ·exact h
 | cons u us ih =>
  obtain⟨k,B⟩:=u;simp only[applyU];refine ih ?_;by_cases hb:b=k
  ·right;unfold updH;simp[hb]
  ·rcases h with h | h
   ·simp only[List.map_cons,List.mem_cons]at h;exact .inl (h.resolve_left hb)
   ·right;unfold updH;simp[hb,h]
theorem ZeS{us vs:List (Nat×Blk)}{H:Heap}(h:∀ b,b∈us.map (·.1)→b∉vs.map (·.1)):applyU us (applyU vs H)=applyU vs (applyU us H):=by
 funext b
 by_cases h1:b∈us.map (·.1)
 ·rw[Z2Y (h b h1)];exact Z7L (.inl h1)
 ·rw[Z2Y h1];by_cases h2:b∈vs.map (·.1)
  ·exact Z7L (.inl h2)
  ·rw[Z2Y h2,Z2Y h2,Z2Y h1]
structure Rec where
 i:Nat
 rs:List Nat
 c:Core
def Core.slot(c:Core)(tmps:List AV):List AV:=match c.sl with | some (d,v)=>tmps.set d v | none=>tmps
section
variable (P:Program) (clk:Nat) (ops:Array Oper) (hints:List (Nat×List Hint))
def Zdm:List Rec→List AV→Heap→Prop
 | [],_,_=>True
 | r::l,t,H=>∃ o,ops[r.i]? = some o∧Z2z P clk ops hints o t H=some r.c∧r.rs=Zhw hints t o∧Zdm l (r.c.slot t) (applyU r.c.ups H)
end
def ZbF:List Rec→List AV→List AV
 | [],t=>t
 | r::l,t=>ZbF l (r.c.slot t)
def Zbi:List Rec→Heap→Heap
 | [],H=>H
 | r::l,H=>Zbi l (applyU r.c.ups H)
structure Apart (clk:Nat) (ops:Array Oper) (y x:Rec):Prop where
 slots:∀ oy ox,ops[y.i]? = some oy→ops[x.i]? = some ox→(∀ d,oy.dst=some d→d∉Z3z ops ox∧ox.dst≠some d)∧(∀ d,ox.dst=some d→d∉Z3z ops oy)
 heapY:∀ ox,ops[x.i]? = some ox→∀ b∈y.c.ups.map (·.1),b∉x.rs∧b∉Z4I clk ox∧b∉x.c.ups.map (·.1)
 heapX:∀ oy,ops[y.i]? = some oy→∀ b∈x.c.ups.map (·.1),b∉y.rs∧b∉Z4I clk oy
section
variable {P:Program} {clk:Nat} {ops:Array Oper} {hints:List (Nat×List Hint)}
theorem Zfv{o:Oper}{t:List AV}{H:Heap}{c:Core}(h:Z2z P clk ops hints o t H=some c):∀ d v,c.sl=some (d,v)→o.dst=some d:=by
 intro d v hc;unfold Z2z at h;split at h
 ·cases h
 rename_i G hG;have plain:Z2v P clk hints o G t H=some c→o.dst=some d:=by
  intro h;unfold Z2v at h;split at h
  ·rename_i d' hd;split at h
   ·cases h
   split at h;rotate_left
   ·cases h
   split at h
   ·cases h
   ·cases h;cases hc;exact hd
  ·split at h
   ·cases h
   split at h
   ·cases h
   split at h
   ·cases h;cases hc
   ·cases h
 split at h
 ·unfold Z6n at h;split at h
  ·cases h
  rename_i d' hd;split at h
  ·cases h
  split at h
  ·split at h
   ·cases h;cases hc;exact hd
   ·cases h
  ·split at h
   ·split at h
    ·cases h;cases hc;exact hd
    ·cases h
   ·cases h
 ·split at h
  ·split at h
   ·unfold Z6o at h;split at h
    ·cases h
    rename_i d' hd;split at h
    ·split at h
     ·cases h;cases hc;exact hd
     ·cases h
    ·split at h;rotate_left
     ·cases h
     split at h;rotate_left
     ·cases h
     split at h;rotate_left
     ·cases h
     split at h
     ·cases h;cases hc;exact hd
     ·cases h
   split at h
   ·unfold Z6F at h;split at h
    ·cases h
    split at h
    ·cases h
    rename_i d' hd;split at h;rotate_left
    ·cases h
    split at h;rotate_left
    ·cases h
    split at h;rotate_left
    ·cases h
    split at h
    ·cases h;cases hc;exact hd
    ·cases h
   split at h
   ·unfold Z8I at h;split at h
    ·cases h
    rename_i d' hd;split at h
    ·split at h
     ·cases h;cases hc;exact hd
     ·cases h
    ·split at h;rotate_left
     ·cases h
     split at h;rotate_left
     ·cases h
     split at h;rotate_left
     ·cases h
     split at h
     ·split at h
      ·cases h;cases hc;exact hd
      ·cases h
     ·split at h
      ·cases h;cases hc;exact hd
      ·cases h
   unfold Z72 at h;split at h
   ·cases h
   rename_i d' hd;split at h;rotate_left
   ·cases h
   split at h;rotate_left
   ·cases h
   split at h;rotate_left
   ·cases h
   split at h;rotate_left
   ·cases h
   split at h
   ·cases h
   ·cases h;cases hc;exact hd
  ·split at h
   ·unfold Z42 at h;split at h
    ·cases h
    rename_i d' hd;split at h;rotate_left
    ·cases h
    split at h
    ·cases h
    split at h
    ·cases h;cases hc;exact hd
    ·cases h
   ·cases h
  ·exact plain h
 ·exact plain h
def ZbA(ops:Array Oper)(hints:List (Nat×List Hint)):Prop:=∀ (i:Nat) (o:Oper),ops[i]? = some o→∀ d,o.dst=some d→∀ fr res news r,look d hints = .call fr res news::r→news.length≤7
theorem Zfq{c:Core}{t:List AV}{k:Nat}(h:∀ d v,c.sl=some (d,v)→d≠k):(c.slot t).getD k .any=t.getD k .any:=by
 unfold Core.slot;cases hs:c.sl with
 | none=>rfl
 | some p =>
  obtain⟨d,v⟩:=p;have:=h d v hs;simp only[List.getD];rw[List.getElem?_set];rw[if_neg this]
theorem Z9j{t t':List AV}{o:Oper}(h:∀ k∈Z3z ops o,t.getD k .any=t'.getD k .any):Zhw hints t o=Zhw hints t' o:=by
 unfold Zhw;congr 1;by_cases hm:∃ x,o.op = .move x
 ·obtain⟨x,hx⟩:=hm;simp only[ZkT,hx]
 rw[ZbD t (fun x hx=>hm ⟨x,hx⟩),ZbD t' (fun x hx=>hm ⟨x,hx⟩)];clear hm;have:∀ x∈o.op.operands.toList,idV (ev t x)=idV (ev t' x):=by
  intro x hx;cases x with
  | tmp k=>simp only[ev];rw[h k (by simp only[Z3z,List.mem_append,List.mem_flatMap];exact .inl ⟨_,hx,by simp[ZjP]⟩)]
  | _=>rfl
 revert this;generalize o.op.operands.toList=l;intro this;induction l with
 | nil=>rfl
 | cons x l ih=>rw[List.flatMap_cons,List.flatMap_cons,this x pq,ih (fun y hy=>this y (by simp[hy]))]
theorem swap{y x:Rec}{l:List Rec}{t:List AV}{H:Heap}(hnf:ZbA ops hints)(ha:Apart clk ops y x)(h:Zdm P clk ops hints (y::x::l) t H) :
  Zdm P clk ops hints (x::y::l) t H∧x.c.slot (y.c.slot t)=y.c.slot (x.c.slot t)∧applyU x.c.ups (applyU y.c.ups H)=applyU y.c.ups (applyU x.c.ups H):=by
 obtain⟨oy,hy1,hy2,hy3,ox,hx1,hx2,hx3,hl⟩:=h;obtain⟨s1,s2⟩:=ha.slots oy ox hy1 hx1;have dy:=Zfv hy2;have dx:=Zfv hx2;have hkeys:=ha.heapY ox hx1;have hkeyx:=ha.heapX oy hy1;have tx:∀ k∈Z3z ops ox,(y.c.slot t).getD k .any=t.getD k .any:=fun k hk=>Zfq fun d v hd=>by
  have:=(s1 d (dy d v hd)).1;rintro rfl;exact this hk
 have fx:=Z9j (hints:=hints) (o:=ox) tx;have hx2':Z2z P clk ops hints ox t H=some x.c:=by
  refine Z5O tx (fun b hb=>?_) (fun d hd fr res news r hl=>hnf x.i ox hx1 d hd fr res news r hl) hx2;refine Z2Y fun hbu=>?_;obtain⟨q1,q2,_⟩:=hkeys b hbu;rcases List.mem_append.1 hb with hb | hb
  ·exact q1 (by rw[hx3];exact hb)
  ·exact q2 hb
 have ty:∀ k∈Z3z ops oy,t.getD k .any=(x.c.slot t).getD k .any:=fun k hk=>(Zfq fun d v hd=>by
  have:=s2 d (dx d v hd);rintro rfl;exact this hk).symm
 have fy:=Z9j (hints:=hints) (o:=oy) ty;have hy2':Z2z P clk ops hints oy (x.c.slot t) (applyU x.c.ups H)=some y.c:=by
  refine Z5O ty (fun b hb=>?_) (fun d hd fr res news r hl=>hnf y.i oy hy1 d hd fr res news r hl) hy2;refine(Z2Y fun hbu=>?_).symm;obtain⟨q1,q2⟩:=hkeyx b hbu;rcases List.mem_append.1 hb with hb | hb
  ·exact q1 (by rw[hy3];exact hb)
  ·exact q2 hb
 have es:x.c.slot (y.c.slot t)=y.c.slot (x.c.slot t):=by
  unfold Core.slot;cases hsx:x.c.sl with
  | none=>cases hsy:y.c.sl<;>rfl
  | some p =>
   obtain⟨d,v⟩:=p;cases hsy:y.c.sl with
   | none=>rfl
   | some q =>
    obtain⟨d',v'⟩:=q;have h1:=dx d v hsx;have h2:=dy d' v' hsy;have:=(s1 d' h2).2;rw[h1]at this;have hne:d≠d':=fun e=>this (by rw[e]);simp only;exact List.set_comm _ _ oq
 have eh:applyU x.c.ups (applyU y.c.ups H)=applyU y.c.ups (applyU x.c.ups H):=(ZeS fun b hb hbx=>(hkeys b hb).2.2 hbx).symm;refine⟨⟨ox,hx1,hx2',by rw[hx3,fx],oy,hy1,hy2',by rw[hy3,fy], ?_⟩,es,eh⟩;rw[← es,← eh];exact hl
theorem Zix(hnf:ZbA ops hints):∀ {r1:List Rec} {x:Rec} {r2:List Rec} {t:List AV} {H:Heap},(∀ y∈r1,Apart clk ops y x)→Zdm P clk ops hints (r1++x::r2) t H →
  Zdm P clk ops hints (x::(r1++r2)) t H∧ZbF (r1++x::r2) t=ZbF (x::(r1++r2)) t∧Zbi (r1++x::r2) H=Zbi (x::(r1++r2)) H
 | [],x,r2,t,H,_,h=>⟨h,rfl,rfl⟩
 | y::r1,x,r2,t,H,ha,h=>by
  obtain⟨oy,hy1,hy2,hy3,hl⟩:=h;obtain⟨k1,k2,k3⟩:=Zix hnf (fun z hz=>ha z (by simp[hz])) hl;have hc:Zdm P clk ops hints (y::x::(r1++r2)) t H:=⟨oy,hy1,hy2,hy3,k1⟩
  obtain⟨m1,m2,m3⟩:=swap hnf (ha y pq) hc;refine⟨m1, ?_, ?_⟩
  ·show ZbF (r1++x::r2) (y.c.slot t)=ZbF (y::(r1++r2)) (x.c.slot t);rw[k2];show ZbF (r1++r2) (x.c.slot (y.c.slot t))=ZbF (r1++r2) (y.c.slot (x.c.slot t));rw[m2]
  ·show Zbi (r1++x::r2) (applyU y.c.ups H)=Zbi (y::(r1++r2)) (applyU x.c.ups H);rw[k3];show Zbi (r1++r2) (applyU x.c.ups (applyU y.c.ups H))=Zbi (r1++r2) (applyU y.c.ups (applyU x.c.ups H));rw[m3]
inductive Sched (clk:Nat) (ops:Array Oper):List Nat→List Rec→Prop
 | nil:Sched clk ops [] []
 | cons {i:Nat} {l:List Nat} {r1 r2:List Rec} {x:Rec} (hi:x.i=i) (ha:∀ y∈r1,Apart clk ops y x) (h:Sched clk ops l (r1++r2)):Sched clk ops (i::l) (r1++x::r2)
theorem Zka(hnf:ZbA ops hints){Ow:Own}{Im0:Nat→Prop}{w0:World}{Q:Exit→Act→World→Prop}:∀ {l:List Nat} {recs:List Rec},Sched clk ops l recs→∀ {t:List AV} {H:Heap} {a:Act} {w:World},Zdm P clk ops hints recs t H →
  Sys Ow Im0 w0 t H clk a w→(∀ r∈recs,allP r.c.ph∧EqP r.c.eq)→(∀ a' w',Sys Ow Im0 w0 (ZbF recs t) (Zbi recs H) clk a' w'→Q .normal a' w')→wpOps P ops Q l a w:=by
 intro l recs hs;induction hs with
 | nil=>intro t H a w _ hS _ hQ;exact hQ a w hS
 | cons hi ha hrest ih =>
  rename_i i l r1 r2 x;intro t H a w hc hS hp hQ;obtain⟨k1,k2,k3⟩:=Zix hnf ha hc;obtain⟨o,ho,hstep,_,hl⟩:=k1;rw[hi]at ho;have hop:Z8X P clk ops hints o t H=some (x.c.out t H):=by unfold Z8X;rw[hstep]
  have hx:=hp x pq;have key:=Z8P (next:=wpOps P ops Q l) (Q:=Q) hop hS hx.1 hx.2 fun a' w' hS'=>ih (t:=x.c.slot t) (H:=applyU x.c.ups H) hl hS' (fun r hr=>hp r (by
   rcases List.mem_append.1 hr with h | h
   ·simp[h]
   ·simp[h])) (fun a'' w'' hS''=>hQ a'' w'' (by rw[k2,k3];exact hS''))
  simp only[wpOps,ho];split
  ·exact .inl (key.1 aa)
  ·rename_i hw;exact key.2 ((Bool.not_eq_true _).mp hw)
end
end Go.Sx
namespace Go.Sx
open Go.Region
def Z34(acc:List Nat):List Edge→Nat
 | []=>0
 | e::l=>if binds .any e then Z34 acc l ||| 2^e.on ||| acc.getD e.on 0 else Z34 acc l
theorem Z4m{acc:List Nat}{y:Nat}:∀ {l:List Edge},(Z34 acc l).testBit y=true→∃ e∈l,binds .any e=true∧(e.on=y∨(acc.getD e.on 0).testBit y=true)
 | [],h=>by simp[Z34]at h
 | e::l,h=>by
  simp only[Z34]at h;split at h
  ·rename_i hb;rw[Nat.testBit_or,Nat.testBit_or,Bool.or_eq_true,Bool.or_eq_true]at h;rcases h with(h | h) | h
   ·obtain⟨e',h1,h2⟩:=Z4m h;exact⟨e',by simp[h1],h2⟩
   ·rw[Nat.testBit_two_pow]at h;exact⟨e,by simp,hb,.inl (by simpa using h)⟩
   ·exact⟨e,by simp,hb,.inr h⟩
  ·obtain⟨e',h1,h2⟩:=Z4m h;exact⟨e',by simp[h1],h2⟩
def Zde:List Oper→List Nat→List Nat
 | [],acc=>acc
 | o::l,acc=>Zde l (acc++[Z34 acc o.after.toList])
theorem Z4M:∀ {l:List Oper} {acc:List Nat} {k:Nat},k<acc.length→(Zde l acc).getD k 0=acc.getD k 0
 | [],acc,k,h=>rfl
 | o::l,acc,k,h=>by
  simp only[Zde];rw[Z4M qo];simp[List.getD,List.getElem?_append_left h]
theorem Zaf:∀ {l:List Oper} {acc:List Nat} {i y:Nat},acc.length≤i→((Zde l acc).getD i 0).testBit y=true→∃ o,l[i-acc.length]? = some o∧∃ e∈o.after.toList,binds .any e=true∧(e.on=y∨((Zde l acc).getD e.on 0).testBit y=true)
 | [],acc,i,y,hi,h=>by
  simp only[Zde]at h;rw[show acc.getD i 0=0 from by simp[List.getD,List.getElem?_eq_none hi]]at h;simp at h
 | o::l,acc,i,y,hi,h=>by
  simp only[Zde]at h ⊢;by_cases he:i=acc.length
  ·subst he;rw[Z4M pq]at h;rw[show(acc++[Z34 acc o.after.toList]).getD acc.length 0=Z34 acc o.after.toList from by simp[List.getD]]at h;obtain⟨e,h1,h2,h3⟩:=Z4m h;refine⟨o,by simp,e,h1,h2,h3.imp (fun h=>h) fun h=>?_⟩;by_cases hlt:e.on<acc.length
   ·rw[Z4M qo];rw[show(acc++[Z34 acc o.after.toList]).getD e.on 0=acc.getD e.on 0 from by simp[List.getD,List.getElem?_append_left hlt]];exact h
   ·rw[show acc.getD e.on 0=0 from by simp[List.getD,List.getElem?_eq_none (Nat.le_of_not_lt hlt)]]at h;simp at h
  ·obtain⟨o',h1,h2⟩:=Zaf (l:=l) (acc:=acc++[Z34 acc o.after.toList]) (i:=i) (y:=y) qo h;refine⟨o', ?_,h2⟩;simp only[List.length_append,List.length_cons,List.length_nil]at h1;rw[show i-acc.length=(i-(acc.length+(0+1)))+1 from by omega];simpa using h1
def bitsOf(ops:Array Oper):List Nat:=Zde ops.toList []
def Z79(bt:List Nat)(y x:Nat):Bool:=(bt.getD x 0).testBit y
theorem Zd9{ops:Array Oper}{i y:Nat}(h:Z79 (bitsOf ops) y i=true):∃ o,ops[i]? = some o∧∃ e∈o.after.toList,binds .any e=true∧(e.on=y∨Z79 (bitsOf ops) y e.on=true):=by
 obtain⟨o,h1,h2⟩:=Zaf (l:=ops.toList) (acc:=[]) pq h;exact⟨o,by simpa using h1,h2⟩
def Zdf(n:Nat):List Oper→Bool
 | []=>true
 | o::l=>o.after.toList.all (fun e=>!(binds .any e)||decide (e.on<n))&&Zdf (n+1) l
theorem Z5Z:∀ {l:List Oper} {n:Nat},Zdf n l=true→∀ (i:Nat) (o:Oper),l[i]? = some o→∀ e∈o.after.toList,binds .any e=true→e.on<n+i
 | [],n,_,i,o,h=>by simp at h
 | o0::l,n,h,i,o,hi=>by
  simp only[Zdf,Bool.and_eq_true,List.all_eq_true]at h;intro e he hb;cases i with
  | zero =>
   simp at hi;subst hi;have:=h.1 e he;simpa[hb]using this
  | succ i =>
   have:=Z5Z h.2 i o (by simpa using hi) e he hb;omega
section
variable {clk:Nat} {ops:Array Oper}
def PairsOk(clk:Nat)(ops:Array Oper):List Rec→Prop
 | []=>True
 | y::l=>(∀ x∈l,Z79 (bitsOf ops) y.i x.i=true∨Apart clk ops y x)∧PairsOk clk ops l
theorem PairsOk.mid:∀ {r1:List Rec} {x:Rec} {r2:List Rec},PairsOk clk ops (r1++x::r2)→∀ y∈r1,Z79 (bitsOf ops) y.i x.i=true∨Apart clk ops y x
 | [],_,_,_,y,hy=>by simp at hy
 | z::r1,x,r2,h,y,hy=>by
  rcases List.mem_cons.1 hy with e | e
  ·rw[e];exact h.1 x pq
  ·exact PairsOk.mid h.2 y e
theorem PairsOk.drop:∀ {r1:List Rec} {x:Rec} {r2:List Rec},PairsOk clk ops (r1++x::r2)→PairsOk clk ops (r1++r2)
 | [],_,_,h=>h.2
 | z::r1,x,r2,h=>⟨fun y hy=>h.1 y (by
   rcases List.mem_append.1 hy with h | h
   ·exact List.mem_append.2 (.inl h)
   ·exact List.mem_append.2 (.inr (List.mem_cons_of_mem _ h))),PairsOk.drop h.2⟩
theorem ZcX{a:Nat}:∀ {l1 l2:List Nat},(l1++a::l2).Nodup→a∉l1++l2∧(l1++l2).Nodup:=by
 intro l1 l2 h;have:=(List.perm_middle (a:=a) (l₁:=l1) (l₂:=l2)).nodup_iff.1 h;exact List.nodup_cons.1 this
theorem ZjX{p:Nat→Prop}:(∃ n,p n)→∃ n,p n∧∀ m,p m→n≤m:=by
 intro⟨n,hn⟩;induction n using Nat.strongRecOn with
 | ind n ih =>
  by_cases h:∃ m,m<n∧p m
  ·obtain⟨m,h1,h2⟩:=h;exact ih m h1 h2
  ·refine⟨n,hn,fun m hm=>?_⟩;by_cases hlt:m<n
   ·exact absurd ⟨m,hlt,hm⟩ h
   ·omega
theorem Zm5(hback:Zdf 0 ops.toList=true):∀ (fuel t:Nat) (listed:Array Bool) (acc:List Nat) (recs:List Rec),recs.length=fuel→listed.size=ops.size →
  (∀ i,i<ops.size→(listed.getD i true=false↔i∈recs.map (·.i)))→(∀ r∈recs,r.i<ops.size)→(recs.map (·.i)).Nodup→PairsOk clk ops recs →
  (∀ j,j<ops.size→listed.getD j true=true→∀ y,Z79 (bitsOf ops) y j=true→y∉recs.map (·.i)) →
  ∃ l,linearise.go .any ops fuel t listed acc=acc.reverse++l∧Sched clk ops l recs:=by
 intro fuel;induction fuel with
 | zero =>
  intro t listed acc recs hn _ _ _ _ _ _;have:recs=[]:=List.length_eq_zero_iff.1 hn;subst this;exact⟨[],by simp[linearise.go],.nil⟩
 | succ fuel ih =>
  intro t listed acc recs hn hls hl hlt hnd hp hclos;simp only[linearise.go];generalize hrs:(List.range ops.size).filter (fun i=>!listed.getD i true&&((ops[i]?).map (·.after.all fun e=>!binds .any e||listed.getD e.on false)).getD false)=rs;have hne:rs≠[]:=by
   have hpos:recs.map (·.i)≠[]:=by
    intro h;have h2:recs=[]:=by simpa using h
    rw[h2]at hn;simp at hn
   obtain⟨m,hm1,hm2⟩:=ZjX (p:=fun i=>i∈recs.map (·.i)) (List.exists_mem_of_ne_nil _ hpos);have hmlt:m<ops.size:=by obtain⟨r,hr,rfl⟩:=List.mem_map.1 hm1;exact hlt r hr
   intro hempty;have:m∈rs:=by
    rw[← hrs,List.mem_filter];refine⟨List.mem_range.2 hmlt, ?_⟩;have h1:=(hl m hmlt).2 hm1;rw[h1,Array.getElem?_eq_getElem hmlt];simp only[Bool.not_false,Bool.true_and,Option.map_some,Option.getD_some];rw[Array.all_eq_true_iff_forall_mem];intro e he;cases hb:binds .any e with
    | false=>rfl
    | true =>
     simp only[Bool.not_true,Bool.false_or];have hon:=Z5Z hback m ops[m] (by simp[hmlt]) e (by simpa using he) hb;have honlt:e.on<ops.size:=by omega
     have hnot:e.on∉recs.map (·.i):=fun h=>by have:=hm2 e.on h;omega
     have:¬ listed.getD e.on true=false:=fun h=>hnot ((hl e.on honlt).1 h);have hs:e.on<listed.size:=by omega
     simp only[Array.getD,hs,dite_true]at this ⊢;simpa using this
   rw[hempty]at this;simp at this
  have hidx:t%rs.length<rs.length:=Nat.mod_lt _ (List.length_pos_iff.2 hne);rw[List.getElem?_eq_getElem hidx];simp only;generalize hi:rs[t%rs.length]=i;have hirs:i∈rs:=by rw[← hi];exact List.getElem_mem hidx
  rw[← hrs,List.mem_filter]at hirs;obtain⟨hir,hic⟩:=hirs;have hilt:=List.mem_range.1 hir;simp only[Bool.and_eq_true,Bool.not_eq_true']at hic;obtain⟨hi1,hi2⟩:=hic;have himem:=(hl i hilt).1 hi1;obtain⟨x,hx,hxi⟩:=List.mem_map.1 himem;obtain⟨r1,r2,rfl⟩:=List.append_of_mem hx;rw[Array.getElem?_eq_getElem hilt]at hi2;simp only[Option.map_some,Option.getD_some]at hi2;rw[Array.all_eq_true_iff_forall_mem]at hi2;have hfree:∀ y,Z79 (bitsOf ops) y i=true→y∉(r1++x::r2).map (·.i):=by
   intro y hy;obtain⟨o,ho,e,he,hb,hor⟩:=Zd9 hy;rw[Array.getElem?_eq_getElem hilt]at ho;cases ho;have hel:=hi2 e (by simpa using he);rw[hb]at hel;simp only[Bool.not_true,Bool.false_or]at hel;have honlt:e.on<ops.size:=by
    have:=Z5Z hback i ops[i] (by simp[hilt]) e he hb;omega
   have hlisted:listed.getD e.on true=true:=by
    have hs:e.on<listed.size:=by omega
    simp only[Array.getD,hs,dite_true]at hel ⊢;exact hel
   rcases hor with rfl | hor
   ·intro h;rw[(hl e.on honlt).2 h]at hlisted;cases hlisted
   ·exact hclos e.on honlt hlisted y hor
  have hapart:∀ y∈r1,Apart clk ops y x:=by
   intro y hy;rcases hp.mid y hy with h | h
   ·exfalso;rw[hxi]at h;exact hfree y.i h (List.mem_map.2 ⟨y,by simp[hy],rfl⟩)
   ·exact h
  have hndm:i∉(r1++r2).map (·.i):=by
   rw[← hxi];simp only[List.map_append,List.map_cons]at hnd ⊢;exact(ZcX hnd).1
  have hnd2:((r1++r2).map (·.i)).Nodup:=by
   simp only[List.map_append,List.map_cons]at hnd ⊢;exact(ZcX hnd).2
  have hls2:(listed.setIfInBounds i true).size=ops.size:=by simp[hls]
  have hget:∀ j d,(listed.setIfInBounds i true).getD j d=if j=i then(if i<listed.size then true else d)else listed.getD j d:=by
   intro j d;simp only[Array.getD_eq_getD_getElem?,Array.getElem?_setIfInBounds];by_cases hji:i=j
   ·subst hji;simp only[if_true];split<;>rfl
   ·simp only[hji,if_false];rw[if_neg (fun h=>hji h.symm)]
  obtain⟨l,h1,h2⟩:=ih (t/rs.length) (listed.setIfInBounds i true) (i::acc) (r1++r2) (by simp at hn ⊢;omega) hls2 (fun j hj=>by
    rw[hget];by_cases hji:j=i
    ·subst hji;simp only[if_true,hls,hj];exact⟨(fun h=>nomatch h),fun h=>absurd h hndm⟩
    ·simp only[hji,if_false];rw[hl j hj];simp only[List.map_append,List.map_cons,List.mem_append,List.mem_cons,hxi,hji,false_or]) (fun r hr=>hlt r (by
    rcases List.mem_append.1 hr with h | h
    ·simp[h]
    ·simp[h])) hnd2 hp.drop (fun j hj hjl y hy=>by
    have hsub:y∉(r1++x::r2).map (·.i)→y∉(r1++r2).map (·.i):=fun h h'=>h (by
     simp only[List.map_append,List.map_cons,List.mem_append,List.mem_cons]at h' ⊢;rcases h' with h' | h'
     ·exact .inl h'
     ·exact .inr (.inr h'))
    rw[hget]at hjl;by_cases hji:j=i
    ·subst hji;exact hsub (hfree y hy)
    ·simp only[hji,if_false]at hjl;exact hsub (hclos j hj hjl y hy))
  refine⟨i::l, ?_,.cons hxi hapart h2⟩;rw[h1];simp
end
end Go.Sx
namespace Go.Sx
open Go.Region
def Z8K(P:Program)(clk:Nat)(ops:Array Oper)(hints:List (Nat×List Hint)):List Nat→List AV→Heap→Option (List Rec)
 | [],_,_=>some []
 | i::l,t,H=>match ops[i]? with
  | none=>none
  | some o=>match Z2z P clk ops hints o t H with
   | none=>none
   | some c=>match Z8K P clk ops hints l (c.slot t) (applyU c.ups H)with
    | none=>none
    | some rs=>some (⟨i,Zhw hints t o,c⟩::rs)
theorem Z6O{P:Program}{clk:Nat}{ops:Array Oper}{hints:List (Nat×List Hint)}:∀ {l:List Nat} {t:List AV} {H:Heap} {recs:List Rec},Z8K P clk ops hints l t H=some recs→Zdm P clk ops hints recs t H∧recs.map (·.i)=l
 | [],t,H,recs,h=>by
  simp only[Z8K,Option.some.injEq]at h;subst h;exact⟨trivial,rfl⟩
 | i::l,t,H,recs,h=>by
  simp only[Z8K]at h;split at h
  ·cases h
  rename_i o ho;split at h
  ·cases h
  rename_i c hc;split at h
  ·cases h
  rename_i rs hrs;cases h;obtain⟨h1,h2⟩:=Z6O hrs;exact⟨⟨o,ho,hc,rfl,h1⟩,by simp[h2]⟩
def phs:List Rec→List Prop
 | []=>[]
 | r::l=>r.c.ph++phs l
def eqs:List Rec→List (AV×AV)
 | []=>[]
 | r::l=>r.c.eq++eqs l
theorem Zii:∀ {l:List Rec},allP (phs l)→∀ r∈l,allP r.c.ph
 | [],_,r,hr=>by simp at hr
 | x::l,h,r,hr=>by
  obtain⟨h1,h2⟩:=allP_append.1 h;rcases List.mem_cons.1 hr with e | e
  ·rw[e];exact h1
  ·exact Zii h2 r e
theorem ZjH:∀ {l:List Rec},EqP (eqs l)→∀ r∈l,EqP r.c.eq
 | [],_,r,hr=>by simp at hr
 | x::l,h,r,hr=>by
  rcases List.mem_cons.1 hr with e | e
  ·rw[e];exact h.left
  ·exact ZjH h.right r e
structure Foot where
 i:Nat
 bits:Nat
 dst:Option Nat
 reads:List Nat
 rs:List Nat
 own:List Nat
 keys:List Nat
def mem2(b:Nat):List Nat→Bool
 | []=>false
 | x::l=>match Nat.beq x b with
  | true=>true
  | false=>mem2 b l
theorem ZbJ{b:Nat}{l:List Nat}:mem2 b l=false↔b∉l:=by
 induction l with
 | nil=>simp[mem2]
 | cons x l ih =>
  simp only[mem2];cases h:Nat.beq x b with
  | true =>
   have:=Nat.eq_of_beq_eq_true h;simp[this]
  | false =>
   have:=Nat.ne_of_beq_eq_false h;simp only[ih,List.mem_cons,not_or];exact⟨fun h=>⟨fun e=>this e.symm,h⟩,fun h=>h.2⟩
def feet(clk:Nat)(ops:Array Oper)(bt:List Nat):List Rec→Option (List Foot)
 | []=>some []
 | r::l=>match ops[r.i]? with
  | none=>none
  | some o=>match feet clk ops bt l with
   | none=>none
   | some fs=>some (⟨r.i,bt.getD r.i 0,o.dst,Z3z ops o,r.rs,Z4I clk o,r.c.ups.map (·.1)⟩::fs)
def Zjn(y x:Foot):Bool :=
  (match y.dst with
   | some d=>!mem2 d x.reads&&(match x.dst with | some d'=>!Nat.beq d' d | none=>true)
   | none=>true) &&
  (match x.dst with
   | some d=>!mem2 d y.reads
   | none=>true) &&
  (y.keys.all fun b=>!mem2 b x.rs&&!mem2 b x.own&&!mem2 b x.keys) &&
  (x.keys.all fun b=>!mem2 b y.rs&&!mem2 b y.own)
def ZfH:List Foot→Bool
 | []=>true
 | y::l=>(l.all fun x=>x.bits.testBit y.i||Zjn y x)&&ZfH l
section
variable {clk:Nat} {ops:Array Oper}
def Zjw(clk:Nat)(ops:Array Oper)(bt:List Nat)(r:Rec)(f:Foot):Prop :=
 ∃ o,ops[r.i]? = some o∧f=⟨r.i,bt.getD r.i 0,o.dst,Z3z ops o,r.rs,Z4I clk o,r.c.ups.map (·.1)⟩
theorem ZjO{bt:List Nat}{y x:Rec}{fy fx:Foot}(hy:Zjw clk ops bt y fy)(hx:Zjw clk ops bt x fx)(h:Zjn fy fx=true):Apart clk ops y x:=by
 obtain⟨oy,hy1,rfl⟩:=hy;obtain⟨ox,hx1,rfl⟩:=hx;unfold Zjn at h;simp only[Bool.and_eq_true,List.all_eq_true,Bool.not_eq_true',ZbJ]at h;obtain⟨⟨⟨h1,h2⟩,h3⟩,h4⟩:=h;refine⟨fun oy' ox' hy' hx'=>?_,fun ox' hx' b hb=>?_,fun oy' hy' b hb=>?_⟩
 ·rw[hy1]at hy';rw[hx1]at hx';cases hy';cases hx';refine⟨fun d hd=>?_,fun d hd=>?_⟩
  ·rw[hd]at h1;simp only[Bool.and_eq_true,Bool.not_eq_true',ZbJ]at h1;refine⟨h1.1,fun hd'=>?_⟩;have h1:=h1.2;rw[hd']at h1;simp at h1
  ·rw[hd]at h2;simpa[ZbJ]using h2
 ·rw[hx1]at hx';cases hx';obtain⟨⟨q1,q2⟩,q3⟩:=h3 b hb;exact⟨q1,q2,q3⟩
 ·rw[hy1]at hy';cases hy';exact h4 b hb
theorem Zgb{bt:List Nat}:∀ {l:List Rec} {fs:List Foot},feet clk ops bt l=some fs→∀ r∈l,∃ f∈fs,Zjw clk ops bt r f
 | [],_,_,r,hr=>by simp at hr
 | x::l,fs,h,r,hr=>by
  simp only[feet]at h;split at h
  ·cases h
  rename_i o ho;split at h
  ·cases h
  rename_i gs hgs;cases h;rcases List.mem_cons.1 hr with e | e
  ·subst e;exact⟨_,by simp,o,ho,rfl⟩
  ·obtain⟨f,hf,hi⟩:=Zgb hgs r e;exact⟨f,by simp[hf],hi⟩
theorem Zd7:∀ {l:List Rec} {fs:List Foot},feet clk ops (bitsOf ops) l=some fs→ZfH fs=true→PairsOk clk ops l
 | [],_,_,_=>trivial
 | y::l,fs,h,hp=>by
  simp only[feet]at h;split at h
  ·cases h
  rename_i o ho;split at h
  ·cases h
  rename_i gs hgs;cases h;simp only[ZfH,Bool.and_eq_true,List.all_eq_true,Bool.or_eq_true]at hp;refine⟨fun x hx=>?_,Zd7 hgs hp.2⟩;obtain⟨f,hf,hi⟩:=Zgb hgs x hx;have hi':=hi;obtain⟨ox,hox,e⟩:=hi';rcases hp.1 f hf with h1 | h1
  ·left;rw[e]at h1;exact h1
  ·right;exact ZjO ⟨o,ho,rfl⟩ hi h1
end
def Z4q:List (Nat×List Hint)→Bool
 | []=>true
 | (_,.call _ _ news::_)::l=>Nat.ble news.length 7&&Z4q l
 | _::l=>Z4q l
theorem Z8x:∀ {hints:List (Nat×List Hint)},Z4q hints=true→∀ (d:Nat) fr res news r,look d hints = .call fr res news::r→news.length≤7
 | [],_,d,fr,res,news,r,h=>by simp[look]at h
 | (j,hs)::l,hf,d,fr,res,news,r,h=>by
  have hl:Z4q l=true:=by
   unfold Z4q at hf;split at hf
   ·cases ‹_=[]›
   ·rename_i h1;cases h1;exact(Bool.and_eq_true _ _▸hf).2
   ·rename_i h1;cases h1;exact hf
  simp only[look]at h;split at h
  ·subst h;simp only[Z4q,Bool.and_eq_true]at hf;exact Nat.le_of_ble_eq_true hf.1
  ·exact Z8x hl d fr res news r h
def ZdO(P:Program)(clk:Nat)(ops:Array Oper)(hints:List (Nat×List Hint))(t:List AV)(H:Heap):Option Out :=
 match Z8K P clk ops hints (List.range ops.size) t H with
 | none=>none
 | some recs=>match feet clk ops (bitsOf ops) recs with
  | none=>none
  | some fs=>match (P.follows .mixedOrders||!departs ops)&&(Zdf 0 ops.toList&&(Z4q hints&&ZfH fs))with
   | true=>some ⟨ZbF recs t,Zbi recs H,phs recs,eqs recs⟩
   | false=>none
theorem Zho{P:Program}{Ow:Own}{Im0:Nat→Prop}{w0:World}{clk:Nat}{hints:List (Nat×List Hint)}{ops:Array Oper}{Q:Exit→Act→World→Prop}{tmps:List AV}{H:Heap}{a:Act}{w:World}{out:Out}{id:Nat}
  (h:ZdO P clk ops hints tmps H=some out) (hS:Sys Ow Im0 w0 tmps H clk a w) (hph:allP out.ph) (heq:EqP out.eq) (hQ:∀ a' w',Sys Ow Im0 w0 out.tmps out.H clk a' w'→Q .normal a' w'):(Code.region id ops true).wp P Q a w:=by
 unfold ZdO at h;split at h
 ·cases h
 rename_i recs hrecs;split at h
 ·cases h
 rename_i fs hfs;split at h;rotate_left
 ·cases h
 rename_i hb;cases h;simp only[Bool.and_eq_true]at hb;obtain⟨hm,hback,hfit,hpairs⟩:=hb;obtain⟨hchain,hmap⟩:=Z6O hrecs;have hnf:ZbA ops hints:=fun i o _ d _ fr res news r hl=>Z8x hfit d fr res news r hl;refine wp_region_draw fun n=>?_;have hsch:schedule (P.follows .mixedOrders) ops n=linearise .any ops n:=by
  unfold schedule;rw[if_pos hm]
 rw[hsch];unfold linearise;have hlen:recs.length=ops.size:=by
  have:=congrArg List.length hmap;simpa using this
 have hget:∀ i,i<ops.size→(Array.replicate ops.size false).getD i true=false:=by
  intro i hi;simp[Array.getD,hi]
 obtain⟨l,h1,h2⟩:=Zm5 (clk:=clk) (ops:=ops) hback ops.size n (Array.replicate ops.size false) [] recs hlen pq (fun i hi=>by
   rw[hmap];exact⟨fun _=>List.mem_range.2 hi,fun _=>hget i hi⟩) (fun r hr=>by
   have:r.i∈recs.map (·.i):=List.mem_map.2 ⟨r,hr,rfl⟩;rw[hmap]at this;exact List.mem_range.1 this) (by rw[hmap];exact List.nodup_range) (Zd7 hfs hpairs) (fun j hj hl=>by rw[hget j hj]at hl;cases hl)
 rw[h1];have hS':Sys Ow Im0 w0 tmps H clk a { w with drawn:=w.drawn+1 }:=by
  obtain⟨ρ,Im,I,T⟩:=hS;exact⟨ρ,Im,I.draw,T.mono (w':=w.drew) (Ext.draw Im w) (fun _ h=>h) (fun _ _ h=>h) I.bnd⟩
 exact Zka hnf h2 hchain hS' (fun r hr=>⟨Zii hph r hr,ZjH heq r hr⟩) hQ
def Z73(P:Program)(clk:Nat)(ops:Array Oper)(hints:List (Nat×List Hint)):List Nat→List AV→Heap→Option Out
 | [],t,H=>some ⟨t,H,[],[]⟩
 | i::l,t,H=>match ops[i]? with
  | none=>none
  | some o=>match Z8X P clk ops hints o t H with
   | none=>none
   | some x=>match Z73 P clk ops hints l x.tmps x.H with
    | none=>none
    | some y=>some ⟨y.tmps,y.H,x.ph++y.ph,x.eq++y.eq⟩
theorem ZcJ{P:Program}{Ow:Own}{Im0:Nat→Prop}{w0:World}{clk:Nat}{hints:List (Nat×List Hint)}{ops:Array Oper}{Q:Exit→Act→World→Prop}:∀ {l:List Nat} {tmps:List AV} {H:Heap} {a:Act} {w:World} {out:Out},
  Z73 P clk ops hints l tmps H=some out→Sys Ow Im0 w0 tmps H clk a w→allP out.ph→EqP out.eq→(∀ a' w',Sys Ow Im0 w0 out.tmps out.H clk a' w'→Q .normal a' w')→wpOps P ops Q l a w
 | [],tmps,H,a,w,out,h,hS,_,_,hQ=>by
  simp only[Z73,Option.some.injEq]at h;subst h;exact hQ a w hS
 | i::l,tmps,H,a,w,out,h,hS,hph,heq,hQ=>by
  simp only[Z73]at h;split at h
  ·cases h
  rename_i o ho;split at h
  ·cases h
  rename_i x hx;split at h
  ·cases h
  rename_i y hy;cases h;obtain⟨p1,p2⟩:=allP_append.1 hph;have key:=Z8P (next:=wpOps P ops Q l) (Q:=Q) hx hS p1 heq.left fun a' w' hS'=>ZcJ hy hS' p2 heq.right hQ;simp only[wpOps,ho];split
  ·exact .inl (key.1 aa)
  ·rename_i hw;exact key.2 ((Bool.not_eq_true _).mp hw)
structure Tg where
 tmps:List AV
 hl:List (Nat×Blk)
 clk:Nat
def hOf:List (Nat×Blk)→Heap
 | [],_=>none
 | (b,B)::r,k=>if k=b then some B else hOf r k
inductive Ex where
 | nrm
 | ext (n:Nat)
 | ret
def Ex.exit:Ex→Exit
 | .nrm=>.normal
 | .ext n=>.exit n
 | .ret=>.ret
def CSpec(P:Program)(c:Code)(s:St)(e:Ex)(t:St):Prop :=
 ∀ (Ow:Own) (Im0:Nat→Prop) (w0:World) (a:Act) (w:World),Sys Ow Im0 w0 s.tmps s.H s.clk a w→c.wp P (fun e' a' w'=>e'=e.exit∧Sys Ow Im0 w0 t.tmps t.H t.clk a' w') a w
def Tg.st(t:Tg):St:=⟨t.tmps,hOf t.hl,t.clk⟩
def memN(b:Nat):List Nat→Bool
 | []=>false
 | x::l=>if x=b then true else memN b l
def Zhs(ids:List Nat):AV→Bool
 | .pt b _ _=>memN b ids
 | .os b _ _=>memN b ids
 | .ow b=>memN b ids
 | .d _=>true
 | .rp .. => true
 | .any=>true
 | _=>false
def refs(ids:List Nat):AV→Bool
 | .ag l=>l.all (Zhs ids)
 | .fn _ l=>l.all (Zhs ids)
 | .ic _ a=>Zhs ids a
 | a=>Zhs ids a
def ZiA(ids:List Nat):AV→Bool
 | .tu l=>l.all (refs ids)
 | a=>refs ids a
def ZlE(ids:List Nat):Blk→Bool
 | .box _ cells=>cells.all (refs ids)
 | .arr .. => true
 | .dead=>false
def encB:Blk→AV
 | .box ty cells=>.tu [.d (.sc (.int .i64 ty)),.tu cells]
 | .arr ty s els=>.tu [.d (.sc (.int .i64 ty)),.d (.sl s els)]
 | .dead=>.tu []
theorem Z8f{B B':Blk}(h:encB B=encB B'):B=B':=by
 cases B with
 | box ty cells =>
  cases B' with
  | box ty' cells' =>
   simp only[encB,AV.tu.injEq,List.cons.injEq,AV.d.injEq,DV.sc.injEq,Value.int.injEq,and_true,true_and]at h;obtain⟨h1,h2⟩:=h;have:ty=ty':=by omega
   rw[this,h2]
  | arr=>simp[encB]at h
  | dead=>simp[encB]at h
 | dead =>
  cases B' with
  | dead=>rfl
  | _=>simp[encB]at h
 | arr ty s els =>
  cases B' with
  | box=>simp[encB]at h
  | dead=>simp[encB]at h
  | arr ty' s' els' =>
   simp only[encB,AV.tu.injEq,List.cons.injEq,AV.d.injEq,DV.sc.injEq,DV.sl.injEq,Value.int.injEq,and_true,true_and]at h;obtain⟨h1,h2,h3⟩:=h;have:ty=ty':=by omega
   rw[this,h2,h3]
def ZoY:AV→Bool
 | .any=>true
 | _=>false
def wkT(ids:List Nat):List AV→List AV→Option (List (AV×AV))
 | [],[]=>some []
 | x::xs,y::ys=>match wkT ids xs ys with
  | none=>none
  | some r=>if ZoY y then some r else if ZiA ids y then some ((x,y)::r)else none
 | _,_=>none
def wkH(ids:List Nat)(H:Heap):List (Nat×Blk)→Option (List (AV×AV))
 | []=>some []
 | (b,B)::r=>match H b with
  | none=>none
  | some B'=>match wkH ids H r with
   | none=>none
   | some l=>if ZlE ids B then some ((encB B',encB B)::l)else none
def wk(s:St)(t:Tg):Option (List (AV×AV)) :=
 match t.clk with
 | 0=>none
 | _+1=>match wkT (t.hl.map (·.1)) s.tmps t.tmps,wkH (t.hl.map (·.1)) s.H t.hl with
 | some l,some m=>some (l++m)
 | _,_=>none
theorem memN_iff{b:Nat}{l:List Nat}:memN b l=true↔b∈l:=by
 induction l with
 | nil=>simp[memN]
 | cons x l ih =>
  simp only[memN];split
  ·rename_i h;subst h;simp
  ·rename_i h;rw[ih];simp;omega
section
variable {ρ ρ':Rho} {w:World} {Im:Nat→Prop} {ids:List Nat}
theorem Z2f(hρ:∀ b∈ids,∀ β,ρ b=some β→ρ' b=some β){x:AV}{v:Value}(h:Rel ρ w Im x v)(hr:Zhs ids x=true):Rel ρ' w Im x v:=by
 cases x with
 | pt b i o=>obtain⟨g,s,n,h1,rfl⟩:=Z2n h;exact .pt (hρ b (memN_iff.1 hr) _ h1)
 | os b o n=>cases h with | os h1 h2 h3 h4 h5=>exact .os (hρ b (memN_iff.1 hr) _ h1) h2 h3 h4 h5
 | ow b=>cases h with | ow h1 h2 h3 h4=>exact .ow (hρ b (memN_iff.1 hr) _ h1) h2 h3 h4
 | d x=>cases h with | d h=>exact .d h
 | rp e o=>cases h with | rp h1 h2 h3=>exact .rp h1 h2 h3
 | any=>exact .any _
 | _=>simp[Zhs]at hr
theorem ZbQ(hρ:∀ b∈ids,∀ β,ρ b=some β→ρ' b=some β){x:AV}{v:Value}(h:Rel ρ w Im x v)(hr:refs ids x=true):Rel ρ' w Im x v:=by
 cases x with
 | ag l =>
  obtain⟨cs,rfl,k1,k2,k3⟩:=Z2R h;simp only[refs,List.all_eq_true]at hr;exact .ag _ cs k1 k2 fun i a u ha hu=>Z2f hρ (k3 i a u ha hu) (hr a (List.mem_of_getElem? ha))
 | fn f l =>
  cases h with
  | fn k1 k3 =>
   simp only[refs,List.all_eq_true]at hr;exact .fn k1 fun i a u ha hu=>Z2f hρ (k3 i a u ha hu) (hr a (List.mem_of_getElem? ha))
 | ic t a=>cases h with | ic h=>exact .ic (Z2f hρ h hr)
 | pt=>exact Z2f hρ h hr
 | os=>exact Z2f hρ h hr
 | ow=>exact Z2f hρ h hr
 | d=>exact Z2f hρ h hr
 | rp=>exact Z2f hρ h hr
 | tu=>exact Z2f hρ h hr
 | gd=>exact Z2f hρ h hr
 | any=>exact Z2f hρ h hr
theorem ZcD(hρ:∀ b∈ids,∀ β,ρ b=some β→ρ' b=some β){x:AV}{v:Value}(h:Rel ρ w Im x v)(hr:ZiA ids x=true):Rel ρ' w Im x v:=by
 cases x with
 | tu l =>
  cases h with
  | tu _ cs k1 k3 =>
   simp only[ZiA,List.all_eq_true]at hr;exact .tu _ cs k1 fun i a u ha hu=>ZbQ hρ (k3 i a u ha hu) (hr a (List.mem_of_getElem? ha))
 | _=>exact ZbQ hρ h hr
theorem ZjF(hρ:∀ b∈ids,∀ β,ρ b=some β→ρ' b=some β){β:Bi}{B:Blk}(h:RelB ρ w Im β B)(hr:ZlE ids B=true):RelB ρ' w Im β B:=by
 cases B with
 | box ty cells =>
  obtain⟨h0,h00,g,cs,h1,h2,h3,h3',h4⟩:=h;simp only[ZlE,List.all_eq_true]at hr;exact⟨h0,h00,g,cs,h1,h2,h3,h3',fun o a v ha hv=>ZbQ hρ (h4 o a v ha hv) (hr a (List.mem_of_getElem? ha))⟩
 | arr ty s els=>exact h
 | dead=>trivial
end
theorem hOf_mem{hl:List (Nat×Blk)}{k:Nat}:(∀ B,hOf hl k=some B→(k,B)∈hl)∧(hOf hl k=none↔k∉hl.map (·.1)):=by
 induction hl with
 | nil=>simp[hOf]
 | cons p r ih =>
  obtain⟨b,B0⟩:=p;refine⟨fun B h=>?_, ?_⟩
  ·simp only[hOf]at h;split at h
   ·rename_i e;cases h;rw[e];simp
   ·exact List.mem_cons_of_mem _ (ih.1 B h)
  ·simp only[hOf];split
   ·rename_i e;subst e;simp
   ·rename_i e;rw[ih.2];simp[e]
theorem Zbm{ids:List Nat}:∀ {xs ys:List AV} {l:List (AV×AV)},wkT ids xs ys=some l→EqP l→xs.length=ys.length∧∀ (i:Nat) (y:AV),ys[i]? = some y→y = .any∨(xs[i]? = some y∧ZiA ids y=true)
 | [],[],l,_,_=>by simp
 | [],_::_,l,h,_=>by simp[wkT]at h
 | _::_,[],l,h,_=>by simp[wkT]at h
 | x::xs,y::ys,l,h,he=>by
  simp only[wkT]at h;split at h
  ·cases h
  rename_i r hr;split at h
  ·rename_i hy;cases h;obtain⟨h1,h2⟩:=Zbm hr he;refine⟨by simp[h1],fun i z hz=>?_⟩;cases i with
   | zero =>
    simp at hz;subst hz;left;cases y<;>first | rfl | simp[ZoY]at hy
   | succ i=>simpa using h2 i z (by simpa using hz)
  ·split at h
   ·rename_i hy hrf;cases h;obtain⟨h1,h2⟩:=Zbm hr (fun p hp=>he p (List.mem_cons_of_mem _ hp));refine⟨by simp[h1],fun i z hz=>?_⟩;cases i with
    | zero =>
     simp at hz;subst hz;right;have:x=y:=he (x,y) pq;exact⟨by simp[this],hrf⟩
    | succ i=>simpa using h2 i z (by simpa using hz)
   ·cases h
theorem Zgo{ids:List Nat}{H:Heap}:∀ {hl:List (Nat×Blk)} {l:List (AV×AV)},wkH ids H hl=some l→EqP l→∀ b B,(b,B)∈hl→H b=some B∧ZlE ids B=true
 | [],l,_,_=>by simp
 | (b0,B0)::r,l,h,he=>by
  simp only[wkH]at h;split at h
  ·cases h
  rename_i B' hB';split at h
  ·cases h
  rename_i m hm;split at h;rotate_left
  ·cases h
  rename_i hrf;cases h;intro b B hb;rcases List.mem_cons.1 hb with e | e
  ·injection e with e1 e2;subst e1;subst e2;have:encB B'=encB B:=he (encB B',encB B) pq;rw[Z8f this]at hB';exact⟨hB',hrf⟩
  ·exact Zgo hm (fun p hp=>he p (List.mem_cons_of_mem _ hp)) b B e
theorem Zh0{s:St}{t:Tg}{l:List (AV×AV)}(h:wk s t=some l)(he:EqP l){Ow:Own}{Im0:Nat→Prop}{w0:World}{a:Act}{w:World}(hS:Sys Ow Im0 w0 s.tmps s.H s.clk a w):Sys Ow Im0 w0 t.st.tmps t.st.H t.st.clk a w:=by
 unfold wk at h;split at h
 ·cases h
 rename_i clk0 hclk;split at h;rotate_left
 ·cases h
 rename_i l1 l2 h1 h2;cases h;obtain⟨ρ,Im,I,T⟩:=hS;obtain⟨k1,k2⟩:=Zbm h1 he.left;have k3:=Zgo h2 he.right;let ids:=t.hl.map (·.1);let ρ':Rho:=fun b=>if memN b ids then ρ b else none
 have hin:∀ b∈ids,∀ β,ρ b=some β→ρ' b=some β:=by
  intro b hb β h;simp only[ρ'];rw[if_pos (memN_iff.2 hb)];exact h
 have hout:∀ b β,ρ' b=some β→ρ b=some β:=by
  intro b β h;simp only[ρ']at h;split at h
  ·exact h
  ·cases h
 have hlive:∀ b,live t.st.H b→live s.H b:=fun b ⟨B,q1,q2⟩=>⟨B,(k3 b B (hOf_mem.1 B q1)).1,q2⟩
 refine⟨ρ',Im,⟨I.kept,fun b b' β β' g l1 l2 q1 q2 q3 q4=>I.inj b b' β β' g (hlive _ l1) (hlive _ l2) (hout _ _ q1) (hout _ _ q2) q3 q4,fun b β g l q=>I.notIm b β g (hlive _ l) (hout _ _ q),fun b β g q=>I.bnd b β g (hout _ _ q),fun b β g q=>I.own b β g (hout _ _ q),I.imb,I.im0,fun b B q=>?_,fun b _ q=>?_,⟨by show 1≤t.clk;omega,fun b β h q=>I.one.2 b β h (hout _ _ q)⟩⟩,⟨by rw[T.size,k1];rfl,fun i y v hy hv=>?_,T.defers⟩⟩
 ·obtain⟨q1,q2⟩:=k3 b B (hOf_mem.1 B q);obtain⟨β,m1,m2⟩:=I.blk b B q1;have hb:b∈ids:=by
   have:=hOf_mem.1 B q;exact List.mem_map.2 ⟨(b,B),this,rfl⟩
  exact⟨β,hin b hb β m1,ZjF hin m2 q2⟩
 ·have:b∉ids:=hOf_mem.2.1 q;simp only[ρ'];rw[if_neg (fun h=>this (memN_iff.1 h))]
 ·rcases k2 i y hy with rfl | ⟨q1,q2⟩
  ·exact .any _
  ·exact ZcD hin (T.tmp i y v q1 hv) q2
def ZjV(k:Nat):List (Nat×Tg×Ex×Tg)→Option (Tg×Ex×Tg)
 | []=>none
 | (j,h)::r=>if j=k then some h else ZjV k r
def keyC:Operand→Nat
 | .tmp t=>t
 | _=>30000
def brs:List Hint→List Hint
 | .br b::l=>.br b::l
 | _::l=>brs l
 | []=>[]
structure Run where
 e:Ex
 s:St
 ph:List Prop
 eq:List (AV×AV)
def runC(P:Program)(hints:List (Nat×List Hint))(cuts:List (Nat×Tg×Ex×Tg)):Code→St→Option Run
 | .skip,s=>some ⟨.nrm,s,[],[]⟩
 | .label _,s=>some ⟨.nrm,s,[],[]⟩
 | .region _ ops dr,s=>match (match dr with | true=>ZdO P s.clk ops hints s.tmps s.H | false=>Z73 P s.clk ops hints (List.range ops.size) s.tmps s.H)with
  | some x=>some ⟨.nrm,⟨x.tmps,x.H,s.clk+1⟩,x.ph,x.eq⟩
  | none=>none
 | .seq x y,s=>match runC P hints cuts x s with
  | none=>none
  | some r=>match r.e with
   | .nrm=>match runC P hints cuts y r.s with
    | some q=>some ⟨q.e,q.s,r.ph++q.ph,r.eq++q.eq⟩
    | none=>none
   | e=>some ⟨e,r.s,r.ph,r.eq⟩
 | .cond c x y,s=>match asB (ev s.tmps c)with
  | none=>none
  | some b=>match brs (look (keyC c) hints)with
   | .br true::_=>match runC P hints cuts x s with
    | some q=>some ⟨q.e,q.s,(b=true)::q.ph,q.eq⟩
    | none=>none
   | .br false::_=>match runC P hints cuts y s with
    | some q=>some ⟨q.e,q.s,(b=false)::q.ph,q.eq⟩
    | none=>none
   | _=>match b with
    | true=>runC P hints cuts x s
    | false=>runC P hints cuts y s
 | .block n c,s=>match ZjV n cuts with
  | some (pre,e,post)=>match wk s pre with
   | some l=>some ⟨e,post.st,[CSpec P (.block n c) pre.st e post.st],l⟩
   | none=>none
  | none=>match runC P hints cuts c s with
   | none=>none
   | some r=>match r.e with
    | .ext m=>if m=n then some ⟨.nrm,r.s,r.ph,r.eq⟩else some r
    | _=>some r
 | .exit n,s=>some ⟨.ext n,s,[],[]⟩
 | .ret,s=>some ⟨.ret,s,[],[]⟩
 | _,_=>none
theorem Sys.clk{Ow:Own}{Im0:Nat→Prop}{w0:World}{tmps:List AV}{H:Heap}{clk clk':Nat}{a:Act}{w:World}(h:Sys Ow Im0 w0 tmps H clk a w)(hle:clk≤clk'):Sys Ow Im0 w0 tmps H clk' a w:=by
 obtain⟨ρ,Im,I,T⟩:=h;exact⟨ρ,Im,⟨I.kept,I.inj,I.notIm,I.bnd,I.own,I.imb,I.im0,I.blk,fun b hb h=>I.fresh b (Nat.le_trans (Nat.mul_le_mul_right _ hle) hb) h,Nat.le_trans I.one.1 hle,I.one.2⟩,T⟩
theorem Z7p{P:Program}{hints:List (Nat×List Hint)}{cuts:List (Nat×Tg×Ex×Tg)}:∀ {c:Code} {s:St} {r:Run},runC P hints cuts c s=some r→allP r.ph→EqP r.eq→CSpec P c s r.e r.s:=by
 intro c;induction c with
 | skip=>intro s r h _ _ Ow Im0 w0 a w hS;simp only[runC,Option.some.injEq]at h;subst h;exact wp_skip ⟨rfl,hS⟩
 | label n=>intro s r h _ _ Ow Im0 w0 a w hS;simp only[runC,Option.some.injEq]at h;subst h;exact wp_label ⟨rfl,hS⟩
 | region n ops dr =>
  intro s r h hph heq Ow Im0 w0 a w hS;simp only[runC]at h;split at h;rotate_left
  ·cases h
  rename_i x hx;cases h;cases dr with
  | false=>exact wp_region (ZcJ hx hS hph heq fun a' w' hS'=>⟨rfl,hS'.clk pq⟩)
  | true=>exact Zho hx hS hph heq fun a' w' hS'=>⟨rfl,hS'.clk pq⟩
 | seq x y ihx ihy =>
  intro s r h hph heq Ow Im0 w0 a w hS;simp only[runC]at h;split at h
  ·cases h
  rename_i q hq;split at h
  ·rename_i he;split at h;rotate_left
   ·cases h
   rename_i q2 hq2;cases h;obtain⟨p1,p2⟩:=allP_append.1 hph;refine wp_seq (wp_mono (ihx hq p1 heq.left Ow Im0 w0 a w hS) ?_);rintro e a' w' ⟨rfl,hS'⟩;rw[he];exact ihy hq2 p2 heq.right Ow Im0 w0 a' w' hS'
  ·rename_i he;cases h;refine wp_seq (wp_mono (ihx hq hph heq Ow Im0 w0 a w hS) ?_);rintro e a' w' ⟨rfl,hS'⟩;cases hqe:q.e with
   | nrm=>exact absurd hqe he
   | ext n=>exact⟨rfl,hS'⟩
   | ret=>exact⟨rfl,hS'⟩
 | cond c x y ihx ihy =>
  intro s r h hph heq Ow Im0 w0 a w hS;simp only[runC]at h;split at h
  ·cases h
  rename_i b hb;have hv:a.eval c = .bool b:=by
   obtain⟨ρ,Im,I,T⟩:=hS;have:=Z1q T c;rw[Z8e hb]at this;exact Z0L this
  split at h
  ·split at h;rotate_left
   ·cases h
   rename_i q hq;cases h;obtain⟨p1,p2⟩:=allP_cons.1 hph;exact wp_cond_true (by rw[hv,p1]) (ihx hq p2 heq Ow Im0 w0 a w hS)
  ·split at h;rotate_left
   ·cases h
   rename_i q hq;cases h;obtain⟨p1,p2⟩:=allP_cons.1 hph;exact wp_cond_false (by rw[hv,p1]) (ihy hq p2 heq Ow Im0 w0 a w hS)
  ·split at h
   ·exact wp_cond_true hv (ihx h hph heq Ow Im0 w0 a w hS)
   ·exact wp_cond_false hv (ihy h hph heq Ow Im0 w0 a w hS)
 | block n c ih =>
  intro s r h hph heq Ow Im0 w0 a w hS;simp only[runC]at h;split at h
  ·rename_i pre e post hl;split at h;rotate_left
   ·cases h
   rename_i l hwk;cases h;have hC:CSpec P (.block n c) pre.st e post.st:=by simpa[allP]using hph
   exact hC Ow Im0 w0 a w (Zh0 hwk heq hS)
  ·split at h
   ·cases h
   rename_i q hq;split at h
   ·rename_i m hm;split at h
    ·rename_i hmn;cases h;refine wp_block (wp_mono (ih hq hph heq Ow Im0 w0 a w hS) ?_);rintro e a' w' ⟨rfl,hS'⟩;rw[hm];simp only[Ex.exit,Exit.inBlock,hmn,if_true];exact⟨by trivial,hS'⟩
    ·rename_i hmn;cases h;refine wp_block (wp_mono (ih hq hph heq Ow Im0 w0 a w hS) ?_);rintro e a' w' ⟨rfl,hS'⟩;rw[hm];simp only[Ex.exit,Exit.inBlock,hmn,if_false];exact⟨by trivial,hS'⟩
   ·rename_i hne;cases h;refine wp_block (wp_mono (ih hq hph heq Ow Im0 w0 a w hS) ?_);rintro e a' w' ⟨rfl,hS'⟩;cases hqe:r.e with
    | nrm=>exact⟨rfl,hS'⟩
    | ext m=>exact absurd hqe (hne m)
    | ret=>exact⟨rfl,hS'⟩
 | exit n=>intro s r h _ _ Ow Im0 w0 a w hS;simp only[runC,Option.some.injEq]at h;subst h;exact wp_exit ⟨rfl,hS⟩
 | ret=>intro s r h _ _ Ow Im0 w0 a w hS;simp only[runC,Option.some.injEq]at h;subst h;exact wp_ret ⟨rfl,hS⟩
 | loop c ih=>intro s r h;simp[runC]at h
 | rangeFunc f p x y=>intro s r h;simp[runC]at h
 | scope c ih=>intro s r h;simp[runC]at h
 | goto n=>intro s r h;simp[runC]at h
 | refuse y=>intro s r h;simp[runC]at h
def Z2A(P:Program)(c:Code):Nat→St→Ex→St→Prop
 | 0,s,e,t=>e≠.nrm∧CSpec P c s e t
 | n+1,s,e,t=>∃ s',CSpec P c s .nrm s'∧Z2A P c n s' e t
theorem least{p:Nat→Prop}(h:∃ n,p n):∃ n,p n∧∀ m,p m→n≤m:=by
 obtain⟨n,hn⟩:=h;induction n using Nat.strongRecOn with
 | _ n ih =>
  by_cases hx:∃ m,m<n∧p m
  ·obtain⟨m,h1,h2⟩:=hx;exact ih m h1 h2
  ·refine⟨n,hn,fun m hm=>?_⟩;rcases Nat.lt_or_ge m n with h | h
   ·exact absurd ⟨m,h,hm⟩ hx
   ·exact h
open Classical in
theorem ZeA{P:Program}{c:Code}{n:Nat}{s t:St}{e:Ex}(h:Z2A P c n s e t):CSpec P (.loop c) s e t:=by
 intro Ow Im0 w0 a w hS;let I:Act→World→Prop:=fun a w=>∃ n s',Sys Ow Im0 w0 s'.tmps s'.H s'.clk a w∧Z2A P c n s' e t;let μ:Act→World→Nat:=fun a w=>if h:I a w then Classical.choose (least h)else 0
 refine wp_loop I μ ⟨n,s,hS,h⟩ fun a w hI=>?_;have hμ:μ a w=Classical.choose (least hI):=dif_pos hI;obtain⟨k1,k2⟩:=Classical.choose_spec (least hI);rw[← hμ]at k1 k2;obtain⟨s',hS',hr⟩:=k1;generalize hm:μ a w=m at hr k2 ⊢;cases m with
 | zero =>
  obtain⟨h1,h2⟩:=hr;refine wp_mono (h2 Ow Im0 w0 a w hS') ?_;rintro e' a' w' ⟨rfl,hS''⟩;cases e with
  | nrm=>exact absurd rfl h1
  | ext n=>exact⟨rfl,hS''⟩
  | ret=>exact⟨rfl,hS''⟩
 | succ m =>
  obtain⟨s2,h1,h2⟩:=hr;refine wp_mono (h1 Ow Im0 w0 a w hS') ?_;rintro e' a' w' ⟨rfl,hS''⟩;have hI':I a' w':=⟨m,s2,hS'',h2⟩
  refine⟨hI', ?_⟩;have hμ':μ a' w'=Classical.choose (least hI'):=dif_pos hI';have:=(Classical.choose_spec (least hI')).2 m ⟨s2,hS'',h2⟩;rw[← hμ']at this;omega
theorem Zjs{P:Program}{c:Code}{n:Nat}{s t:St}(h:CSpec P c s (.ext n) t):CSpec P (.block n c) s .nrm t:=by
 intro Ow Im0 w0 a w hS;refine wp_block (wp_mono (h Ow Im0 w0 a w hS) ?_);rintro e a' w' ⟨rfl,hS'⟩;simp only[Ex.exit,Exit.inBlock,if_true];exact⟨by trivial,hS'⟩
theorem Zj1{P:Program}{c:Code}{n:Nat}{s t:St}(h:CSpec P c s .ret t):CSpec P (.block n c) s .ret t:=by
 intro Ow Im0 w0 a w hS;refine wp_block (wp_mono (h Ow Im0 w0 a w hS) ?_);rintro e a' w' ⟨rfl,hS'⟩;exact⟨rfl,hS'⟩
theorem rounds{P:Program}{c:Code}{s':St}{n:Nat}{s t:St}{e:Ex}(h1:CSpec P c s .nrm s')(h2:Z2A P c n s' e t):Z2A P c (n+1) s e t:=⟨s',h1,h2⟩
def ZgV(P:Program)(hints:List (Nat×List Hint))(cuts:List (Nat×Tg×Ex×Tg))(c:Code)(s:St)(t:Tg):Option Run :=
 match runC P hints cuts c s with
 | none=>none
 | some r=>match wk r.s t with
  | some l=>some ⟨r.e,r.s,r.ph,r.eq++l⟩
  | none=>none
def oblO:Option Run→Prop
 | some r=>allP r.ph
 | none=>False
def lefO:Option Run→List AV
 | some r=>r.eq.map (·.1)
 | none=>[]
def rigO:Option Run→List AV
 | some r=>r.eq.map (·.2)
 | none=>[]
def exO:Option Run→Option Ex
 | some r=>some r.e
 | none=>none
theorem Z7K{l:List (AV×AV)}(h:l.map (·.1)=l.map (·.2)):EqP l:=by
 induction l with
 | nil=>intro p hp;simp at hp
 | cons x l ih =>
  simp only[List.map_cons,List.cons.injEq]at h;intro p hp;rcases List.mem_cons.1 hp with e | e
  ·rw[e];exact h.1
  ·exact ih h.2 p e
theorem Z1e{P:Program}(hints:List (Nat×List Hint))(cuts:List (Nat×Tg×Ex×Tg)){c:Code}{s:St}{e:Ex}{t:Tg}{φ:Prop}(hφ:φ)
  (h1:oblO (ZgV P hints cuts c s t)=φ) (h2:lefO (ZgV P hints cuts c s t)=rigO (ZgV P hints cuts c s t)) (h3:exO (ZgV P hints cuts c s t)=some e):CSpec P c s e t.st:=by
 rw[← h1]at hφ;cases hr:ZgV P hints cuts c s t with
 | none=>rw[hr]at hφ;exact hφ.elim
 | some r =>
  rw[hr]at hφ h2 h3;have heq:EqP r.eq:=Z7K h2;have he:r.e=e:=by simpa[exO]using h3
  unfold ZgV at hr;split at hr
  ·cases hr
  rename_i q hq;split at hr;rotate_left
  ·cases hr
  rename_i l hl;cases hr;intro Ow Im0 w0 a w hS;refine wp_mono (Z7p hq hφ heq.left Ow Im0 w0 a w hS) ?_;rintro e' a' w' ⟨rfl,hS'⟩;exact⟨by rw[← he],Zh0 hl heq.right hS'⟩
def Z0J(els:List (List DV)):Prop:=∀ e∈els,∀ x∈e,∃ v,x = .sc v
def idx(b:Nat):List Nat→Nat→Option Nat
 | [],_=>none
 | x::l,k=>if x=b then some k else idx b l (k+1)
def fin1(keep:List Nat)(H:Heap)(fr:Bool):AV→Option (AV×List Prop)
 | .d x=>match fr with
  | false=>some (.d x,[])
  | true=>match x with
   | .sc v=>some (.d (.sc v),[])
   | .sl s els=>match els with
    | []=>some (.d (.sl s []),[])
    | _=>none
 | .rp e o=>match fr with
  | false=>some (.rp e o,[])
  | true=>none
 | .ow b=>match idx b keep 0 with
  | some k=>some (.ow k,[])
  | none=>match H b with
   | some (.arr _ s els)=>some (.d (.sl s els),match fr with | true=>[Z0J els] | false=>[])
   | _=>none
 | .os b o n=>match idx b keep 0 with
  | some k=>some (.os k o n,[])
  | none=>match H b with
   | some (.arr _ s els)=>some (.d (.sl s ((els.drop o).take n)),match fr with | true=>[Z0J els] | false=>[])
   | _=>none
 | _=>none
def finL(f:AV→Option (AV×List Prop)):List AV→Option (List AV×List Prop)
 | []=>some ([],[])
 | a::l=>match f a,finL f l with
  | some (x,p),some (r,q)=>some (x::r,p++q)
  | _,_=>none
def finA(keep:List Nat)(H:Heap)(fr:Bool)(a:AV):Option (AV×List Prop):=match a with
 | .ag l=>match finL (fin1 keep H fr) l with | some (r,q)=>some (.ag r,q) | none=>none
 | .fn f l=>match finL (fin1 keep H fr) l with | some (r,q)=>some (.fn f r,q) | none=>none
 | .ic t (.ag l)=>match finL (fin1 keep H fr) l with | some (r,q)=>some (.ic t (.ag r),q) | none=>none
 | .ic t x=>match fin1 keep H fr x with | some (r,q)=>some (.ic t r,q) | none=>none
 | x=>fin1 keep H fr x
def finT(keep:List Nat)(H:Heap)(fr:Bool)(a:AV):Option (AV×List Prop):=match a with
 | .tu l=>match finL (finA keep H fr) l with | some (r,q)=>some (.tu r,q) | none=>none
 | x=>finA keep H fr x
def finN(keep:List Nat)(H:Heap)(fr:Bool):Option (List Blk×List Prop):=match keep with
 | []=>some ([],[])
 | b::r=>match H b,finN r H fr with
  | some (.arr ty s els),some (l,q)=>some (.arr ty s els::l,(match fr with | true=>[Z0J els] | false=>[])++q)
  | _,_=>none
def ZfZ(P:Program)(tmps:List AV)(H:Heap):ResultVar→Option AV
 | .tmp t=>some (tmps.getD t .any)
 | .cell t ty=>match Z7e P ty [] (tmps.getD t .any) H with
  | some r=>match r.ph with
   | []=>some r.val
   | _=>none
  | none=>none
def Z7B(P:Program)(tmps:List AV)(H:Heap):List ResultVar→Option (List AV)
 | []=>some []
 | x::l=>match ZfZ P tmps H x,Z7B P tmps H l with
  | some a,some r=>some (a::r)
  | _,_=>none
def resV:List AV→AV
 | [a]=>a
 | l=>.tu l
def coe1(x r:AV):AV×List Prop:=match x with
 | .d (.sl s els)=>match s with
  | 0=>match r with
   | .d (.sl s' _)=>(.d (.sl s' []),[els=[]])
   | _=>(.d (.sl 0 els),[])
  | s+1=>(.d (.sl (s+1) els),[])
 | x=>(x,[])
def coeL(f:AV→AV→AV×List Prop):List AV→List AV→List AV×List Prop
 | x::l,r::m=>((f x r).1::(coeL f l m).1,(f x r).2++(coeL f l m).2)
 | l,_=>(l,[])
def coeM(x r:AV):AV×List Prop:=match x with
 | .ag l=>match r with
  | .ag m=>(.ag (coeL coe1 l m).1,(coeL coe1 l m).2)
  | _=>(.ag l,[])
 | x=>coe1 x r
def coeT(x r:AV):AV×List Prop:=match x with
 | .tu l=>match r with
  | .tu m=>(.tu (coeL coeM l m).1,(coeL coeM l m).2)
  | _=>(.tu l,[])
 | x=>coeM x r
section
variable {ρ:Rho} {w:World} {Im:Nat→Prop}
theorem Z7Z{x r:AV}{v:Value}(h:Rel ρ w Im x v)(hp:allP (coe1 x r).2):Rel ρ w Im (coe1 x r).1 v:=by
 unfold coe1 at hp ⊢;split at hp
 ·rename_i s els;split at hp
  ·split at hp
   ·rename_i s' e';have he:els=[]:=hp;subst he;cases h with
    | d h =>
     cases h with
     | slNil _ a c=>exact .d (.slNil s' a c)
     | sl _ _ p n c f hn hc=>simp at hn;subst hn;exact .d (.slNil s' _ c)
   ·exact h
  ·exact h
 ·exact h
theorem Z4T{f:AV→AV→AV×List Prop}:∀ {l m:List AV},allP (coeL f l m).2→(coeL f l m).1.length=l.length∧∀ (i:Nat) (y:AV),(coeL f l m).1[i]? = some y→∃ x,l[i]? = some x∧(y=x∨∃ r,y=(f x r).1∧allP (f x r).2)
 | [],_,_=>by simp[coeL]
 | x::l,[],_=>⟨rfl,fun i y h=>⟨y,h,.inl rfl⟩⟩
 | x::l,r::m,h=>by
  obtain⟨h1,h2⟩:=allP_append.1 h;obtain⟨k1,k2⟩:=Z4T h2;refine⟨by simp[coeL,k1],fun i y hy=>?_⟩;cases i with
  | zero =>
   simp only[coeL,List.getElem?_cons_zero,Option.some.injEq]at hy;exact⟨x,rfl,.inr ⟨r,hy.symm,h1⟩⟩
  | succ i =>
   obtain⟨z,h3,h4⟩:=k2 i y (by simpa[coeL]using hy);exact⟨z,by simpa using h3,h4⟩
theorem Zf8{x r:AV}{v:Value}(h:Rel ρ w Im x v)(hp:allP (coeM x r).2):Rel ρ w Im (coeM x r).1 v:=by
 unfold coeM at hp ⊢;split at hp
 ·split at hp
  ·obtain⟨cs,rfl,k1,k2,k3⟩:=Z2R h;obtain⟨n1,n2⟩:=Z4T hp;refine .ag _ cs (by rw[n1];exact k1) k2 fun i a u ha hu=>?_;obtain⟨x,h1,h2⟩:=n2 i a ha;rcases h2 with rfl | ⟨r,rfl,h3⟩
   ·exact k3 i _ u h1 hu
   ·exact Z7Z (k3 i x u h1 hu) h3
  ·exact h
 ·exact Z7Z h hp
theorem ZbW{x r:AV}{v:Value}(h:Rel ρ w Im x v)(hp:allP (coeT x r).2):Rel ρ w Im (coeT x r).1 v:=by
 unfold coeT at hp ⊢;split at hp
 ·split at hp
  ·cases h with
   | tu _ cs k1 k3 =>
    obtain⟨n1,n2⟩:=Z4T hp;refine .tu _ cs (by rw[n1];exact k1) fun i a u ha hu=>?_;obtain⟨x,h1,h2⟩:=n2 i a ha;rcases h2 with rfl | ⟨r,rfl,h3⟩
    ·exact k3 i _ u h1 hu
    ·exact Zf8 (k3 i x u h1 hu) h3
  ·exact h
 ·exact Zf8 h hp
end
def runF(P:Program)(hints:List (Nat×List Hint))(cuts:List (Nat×Tg×Ex×Tg))(keep:List Nat)(fn:Func)(args:List AV)(fr:Bool)(res:AV)(news:List Blk):Option Run :=
 match fn.body with
 | none=>none
 | some c=>match args.all Z6q with
  | false=>none
  | true=>match runC P hints cuts c ⟨args++List.replicate (fn.ntmps-args.length) .any,fun _=>none,1⟩with
   | none=>none
   | some r=>match r.e with
    | .ext _=>none
    | _=>match Z7B P r.s.tmps r.s.H fn.results.toList with
     | none=>none
     | some l=>match finT keep r.s.H fr (resV l),finN keep r.s.H fr with
      | some (x,p),some (ns,q)=>if news.length=ns.length then some ⟨r.e,r.s,r.ph++(p++(coeT x res).2)++q,r.eq++[((coeT x res).1,res)]++(ns.map encB).zip (news.map encB)⟩else none
      | _,_=>none
def Za6(tmps:Array Value):ResultVar→Sem Value
 | .tmp t=>pure (tmps.getD t undef)
 | .cell a t=>do loadVar t (← asAddr (tmps.getD a undef))
theorem Zav(fn:Func)(tmps:Array Value):results fn tmps=(do
  let vs ← fn.results.mapM (Za6 tmps)
  pure (if h:vs.size=1 then vs[0]else .tuple vs)):=by
 unfold results;congr 1
section
variable {Ow:Own} {Im0:Nat→Prop} {w0:World} {ρ:Rho} {w:World} {Im:Nat→Prop} {H:Heap} {clk:Nat}
theorem Zj6{P:Program}{tmps:List AV}{a:Act}(I:Inv Ow Im0 w0 ρ w Im H clk)(T:RelT ρ w Im tmps a){r:ResultVar}{x:AV}(h:ZfZ P tmps H r=some x) :
  ∃ v,(Za6 a.tmps r).run P w = .ok v w∧Rel ρ w Im x v:=by
 have hev:∀ t,Rel ρ w Im (tmps.getD t .any) (a.tmps.getD t undef):=fun t=>Z1q T (.tmp t);cases r with
 | tmp t =>
  simp only[ZfZ,Option.some.injEq]at h;subst h;exact⟨_,rfl,hev t⟩
 | cell c t =>
  simp only[ZfZ]at h;split at h;rotate_left
  ·cases h
  rename_i r hr;split at h;rotate_left
  ·cases h
  rename_i hp;cases h;obtain⟨p,v,h1,h2,h3,_⟩:=Zfp I (hev c) hr (by rw[hp];trivial);exact⟨v,by simp only[Za6,h1,asAddr,Sem.run_bind,Sem.run_pure,Result.andThen_ok,h2],h3⟩
theorem Zce{P:Program}{tmps:List AV}{a:Act}(I:Inv Ow Im0 w0 ρ w Im H clk)(T:RelT ρ w Im tmps a):∀ {rs:List ResultVar} {l:List AV},Z7B P tmps H rs=some l →
  ∃ vs:List Value,(rs.mapM (Za6 a.tmps)).run P w = .ok vs w∧vs.length=l.length∧∀ (i:Nat) (x:AV) (v:Value),l[i]? = some x→vs[i]? = some v→Rel ρ w Im x v
 | [],l,h=>by simp[Z7B]at h;subst h;exact⟨[],rfl,rfl,by simp⟩
 | r::rs,l,h=>by
  simp only[Z7B]at h;split at h;rotate_left
  ·cases h
  rename_i x m hx hm;cases h;obtain⟨v,h1,h2⟩:=Zj6 I T hx;obtain⟨vs,h3,h4,h5⟩:=Zce I T hm;refine⟨v::vs, ?_,by simp[h4],fun i y u hy hu=>?_⟩
  ·rw[List.mapM_cons];simp only[Sem.run_bind,h1,h3,Result.andThen_ok,Sem.run_pure]
  ·cases i with
   | zero=>simp at hy hu;subst hy;subst hu;exact h2
   | succ i=>exact h5 i y u (by simpa using hy) (by simpa using hu)
theorem Z5u{P:Program}{fn:Func}{tmps:List AV}{a:Act}(I:Inv Ow Im0 w0 ρ w Im H clk)(T:RelT ρ w Im tmps a){l:List AV}(h:Z7B P tmps H fn.results.toList=some l) :
  ∃ v,(results fn a.tmps).run P w = .ok v w∧Rel ρ w Im (resV l) v:=by
 obtain⟨vs,h1,h2,h3⟩:=Zce I T h;have hm:(fn.results.mapM (Za6 a.tmps)).run P w = .ok vs.toArray w:=by
  have e:fn.results=fn.results.toList.toArray:=by simp
  rw[e,List.mapM_toArray];simp only[Sem.run_map,h1,Result.andThen_ok]
 refine⟨if h:vs.toArray.size=1 then vs.toArray[0]else .tuple vs.toArray, ?_, ?_⟩
 ·rw[Zav];simp only[Sem.run_bind,hm,Result.andThen_ok,Sem.run_pure]
 ·by_cases hl:vs.length=1
  ·obtain⟨v,rfl⟩:∃ v,vs=[v]:=List.length_eq_one_iff.1 hl;obtain⟨x,rfl⟩:∃ x,l=[x]:=List.length_eq_one_iff.1 oq;simpa[resV]using h3 0 x v rfl rfl
  ·rw[dif_neg (by simpa using hl)];have:resV l = .tu l:=by
    unfold resV;split
    ·rename_i a;simp at h2;omega
    ·rfl
   rw[this];exact .tu l _ (by simpa using h2) fun i x v hx hv=>h3 i x v hx (by simpa using hv)
end
theorem ZbC{b:Nat}:∀ {l:List Nat} {k n:Nat},idx b l k=some n→k≤n∧l[n-k]? = some b
 | [],k,n,h=>by simp[idx]at h
 | x::l,k,n,h=>by
  simp only[idx]at h;split at h
  ·rename_i e;cases h;simp[e]
  ·obtain⟨h1,h2⟩:=ZbC h;refine⟨by omega, ?_⟩;rw[show n-k=(n-(k+1))+1 from by omega];simpa using h2
theorem ZbB{b:Nat}:∀ {l:List Nat} {k:Nat},idx b l k=none→b∉l
 | [],_,_=>by simp
 | x::l,k,h=>by
  simp only[idx]at h;split at h
  ·cases h
  ·rename_i e;have:=ZbB h;simp only[List.mem_cons,not_or];exact⟨fun h=>e h.symm,this⟩
theorem Zc3{w w':World}{Im Im':Nat→Prop}{els:List (List DV)}(hf:Z0J els){e:List DV}{x:DV}{v:Value}(he:e∈els)(hx:x∈e)(h:RelD w Im x v):RelD w' Im' x v:=by
 obtain⟨u,rfl⟩:=hf e he x hx;cases h with
 | sc _ h=>exact .sc _ h
theorem Z4J{f:AV→Option (AV×List Prop)}:∀ {l r:List AV} {q:List Prop},finL f l=some (r,q)→allP q→r.length=l.length∧∀ (i:Nat) (y:AV),r[i]? = some y→∃ x p,l[i]? = some x∧f x=some (y,p)∧allP p
 | [],r,q,h,_=>by simp[finL]at h;obtain⟨rfl,rfl⟩:=h;simp
 | a::l,r,q,h,hq=>by
  simp only[finL]at h;split at h;rotate_left
  ·cases h
  rename_i x p m q' hx hm;cases h;obtain⟨p1,p2⟩:=allP_append.1 hq;obtain⟨h1,h2⟩:=Z4J hm p2;refine⟨by simp[h1],fun i y hy=>?_⟩;cases i with
  | zero=>simp at hy;subst hy;exact⟨a,p,rfl,hx,p1⟩
  | succ i=>exact h2 i y (by simpa using hy)
section
variable {Im0:Nat→Prop} {w0:World} {ρ:Rho} {w:World} {Im:Nat→Prop} {H:Heap} {clk:Nat} {keep:List Nat} {fr:Bool}
def rhoK(ρ:Rho)(keep:List Nat):Rho:=fun k=>match keep[k]? with | some b=>ρ b | none=>none
def ImK(fr:Bool)(Im:Nat→Prop)(ρ:Rho)(H:Heap)(keep:List Nat):Nat→Prop:=fun g=>(fr=false∧Im g)∨∃ b β,b∉keep∧live H b∧ρ b=some β∧β.g=some g
theorem Z5T{x:AV}{v:Value}{s:Nat}{els els0:List (List DV)}{b:Nat}(I:Inv Z40 Im0 w0 ρ w Im H clk)(hx:Rel ρ w Im x v)(h:Z15 H x=some (s,els))(hb:b∉keep)(hlive:live H b)
  (hsub:∀ e∈els,e∈els0) (hf:fr=true→Z0J els0) (hblk:∀ a n c,v = .slice (some a) n c→n≠0→∃ β,ρ b=some β∧β.g=some a.block):RelD w (ImK fr Im ρ H keep) (.sl s els) v:=by
 obtain⟨p,c,rfl,hbg,hc,hl,hcell⟩:=Z1u I hx h;by_cases he:els=[]
 ·subst he;exact .slNil _ _ _
 rcases hcell with hcell | ⟨q,rfl,hq,hcell⟩
 ·exact absurd hcell he
 have hn:els.length≠0:=by simpa using he
 obtain⟨β,hβ,hg⟩:=hblk q _ c rfl hn;refine .sl s els q els.length c (fun i o=>(w.cell? ⟨q.block,q.off+(i*s+o),none⟩).getD undef) rfl hc hbg (hl he) hq (.inr ⟨b,β,hb,hlive,hβ,hg⟩) ?_ ?_
 ·intro i e o y hi ho;obtain⟨u,k1,_⟩:=hcell i e o y hi ho;rw[k1];rfl
 ·intro i e o y hi ho;obtain⟨u,k1,k2⟩:=hcell i e o y hi ho;rw[k1];cases fr with
  | true=>exact Zc3 (hf rfl) (hsub e (List.mem_of_getElem? hi)) (List.mem_of_getElem? ho) k2
  | false=>exact k2.mono (Ext.refl _ _) (fun g hg=>.inl ⟨rfl,hg⟩)
theorem Z9l(I:Inv Z40 Im0 w0 ρ w Im H clk){x y:AV}{v:Value}{p:List Prop}(hx:Rel ρ w Im x v)(h:fin1 keep H fr x=some (y,p))(hp:allP p):Rel (rhoK ρ keep) w (ImK fr Im ρ H keep) y v:=by
 unfold fin1 at h;split at h
 ·split at h
  ·cases h;cases hx with
   | d hx=>exact .d (hx.mono (Ext.refl _ _) (fun g hg=>.inl ⟨rfl,hg⟩))
  ·split at h
   ·cases h;cases hx with
    | d hx=>cases hx with | sc _ h=>exact .d (.sc _ h)
   ·split at h
    ·cases h;cases hx with
     | d hx =>
      cases hx with
      | slNil=>exact .d (.slNil _ _ _)
      | sl _ _ _ _ _ _ hn=>simp at hn;subst hn;exact .d (.slNil _ _ _)
    ·cases h
 ·split at h
  ·cases h;cases hx with
   | rp h1 h2 h3=>exact .rp h1 (.inl ⟨rfl,h2⟩) (fun j x hx=>let ⟨v,k1,k2⟩:=h3 j x hx;⟨v,k1,k2.mono (Ext.refl _ _) (fun g hg=>.inl ⟨rfl,hg⟩)⟩)
  ·cases h
 ·rename_i b;split at h
  ·rename_i k hk;cases h;obtain⟨_,hk2⟩:=ZbC hk;cases hx with
   | ow h1 h2 h3 h4=>exact .ow (by simp only[rhoK];rw[show keep[k]? = some b from by simpa using hk2];exact h1) h2 h3 h4
  ·rename_i hk;have hnk:=ZbB hk;split at h;rotate_left
   ·cases h
   rename_i ty s els hb;cases h;refine .d (Z5T (b:=b) (els0:=els) I hx (by simp[Z15,hb]) hnk ⟨_,hb,by simp⟩ (fun e he=>he) (fun hfr=>by subst hfr;simpa[allP]using hp) fun a n c hv hn=>?_);subst hv;generalize hvv:Value.slice (some a) n c=vv at hx;cases hx with
   | ow h1 h2 h3 h4 =>
    injection hvv with e1 e2 e3;rcases h4 with h4 | ⟨g,hg,e,_⟩
    ·omega
    ·rw[← e1]at e;cases e;exact⟨_,h1,hg⟩
 ·rename_i b oo m;split at h
  ·rename_i k hk;cases h;obtain⟨_,hk2⟩:=ZbC hk;cases hx with
   | os h1 h2 h3 h4 h5=>exact .os (by simp only[rhoK];rw[show keep[k]? = some b from by simpa using hk2];exact h1) h2 h3 h4 h5
  ·rename_i hk;have hnk:=ZbB hk;split at h;rotate_left
   ·cases h
   rename_i ty s els hb;cases h;refine .d (Z5T (b:=b) (els0:=els) I hx (by simp[Z15,hb]) hnk ⟨_,hb,by simp⟩ (fun e he=>List.mem_of_mem_drop (List.mem_of_mem_take he)) (fun hfr=>by subst hfr;simpa[allP]using hp) fun a n c hv hn=>?_);subst hv;generalize hvv:Value.slice (some a) n c=vv at hx;cases hx with
   | os h1 h2 h3 h4 h5 =>
    injection hvv with e1 e2 e3;rcases h5 with h5 | ⟨g,hg,e,_⟩
    ·omega
    ·rw[← e1]at e;cases e;exact⟨_,h1,hg⟩
 ·cases h
theorem ZiQ(I:Inv Z40 Im0 w0 ρ w Im H clk){x y:AV}{v:Value}{p:List Prop}(hx:Rel ρ w Im x v)(h:finA keep H fr x=some (y,p))(hp:allP p):Rel (rhoK ρ keep) w (ImK fr Im ρ H keep) y v:=by
 unfold finA at h;split at h
 ·split at h;rotate_left
  ·cases h
  rename_i r q hr;cases h;obtain⟨h1,h2⟩:=Z4J hr hp;obtain⟨cs,rfl,k1,k2,k3⟩:=Z2R hx;refine .ag _ cs oq k2 fun i a u ha hu=>?_;obtain⟨z,p',m1,m2,m3⟩:=h2 i a ha;exact Z9l I (k3 i z u m1 hu) m2 m3
 ·split at h;rotate_left
  ·cases h
  rename_i r q hr;cases h;obtain⟨h1,h2⟩:=Z4J hr hp;cases hx with
  | fn k1 k3 =>
   refine .fn oq fun i a u ha hu=>?_;obtain⟨z,p',m1,m2,m3⟩:=h2 i a ha;exact Z9l I (k3 i z u m1 hu) m2 m3
 ·split at h;rotate_left
  ·cases h
  rename_i r q hr;cases h;obtain⟨h1,h2⟩:=Z4J hr hp;cases hx with
  | ic hx =>
   obtain⟨cs,rfl,k1,k2,k3⟩:=Z2R hx;refine .ic (.ag _ cs oq k2 fun i a u ha hu=>?_);obtain⟨z,p',m1,m2,m3⟩:=h2 i a ha;exact Z9l I (k3 i z u m1 hu) m2 m3
 ·split at h;rotate_left
  ·cases h
  rename_i r q hr;cases h;cases hx with
  | ic hx=>exact .ic (Z9l I hx hr hp)
 ·exact Z9l I hx h hp
theorem Zon(I:Inv Z40 Im0 w0 ρ w Im H clk){x y:AV}{v:Value}{p:List Prop}(hx:Rel ρ w Im x v)(h:finT keep H fr x=some (y,p))(hp:allP p):Rel (rhoK ρ keep) w (ImK fr Im ρ H keep) y v:=by
 unfold finT at h;split at h
 ·split at h;rotate_left
  ·cases h
  rename_i r q hr;cases h;obtain⟨h1,h2⟩:=Z4J hr hp;cases hx with
  | tu _ cs k1 k3 =>
   refine .tu _ cs oq fun i a u ha hu=>?_;obtain⟨z,p',m1,m2,m3⟩:=h2 i a ha;exact ZiQ I (k3 i z u m1 hu) m2 m3
 ·exact ZiQ I hx h hp
theorem Zcx{H:Heap}:∀ {keep:List Nat} {l:List Blk} {q:List Prop},finN keep H fr=some (l,q)→allP q→l.length=keep.length∧∀ (k:Nat) (B:Blk),l[k]? = some B→∃ b ty s els,keep[k]? = some b∧H b=some (.arr ty s els)∧B = .arr ty s els∧(fr=true→Z0J els)
 | [],l,q,h,_=>by simp[finN]at h;obtain⟨rfl,rfl⟩:=h;simp
 | b::keep,l,q,h,hq=>by
  simp only[finN]at h;split at h;rotate_left
  ·cases h
  rename_i ty s els m q' hb hm;cases h;obtain⟨p1,p2⟩:=allP_append.1 hq;obtain⟨h1,h2⟩:=Zcx hm p2;refine⟨by simp[h1],fun k B hB=>?_⟩;cases k with
  | zero=>simp at hB;subst hB;exact⟨b,ty,s,els,rfl,hb,rfl,fun h=>by subst h;simpa[allP]using p1⟩
  | succ k=>exact h2 k B (by simpa using hB)
end
theorem ZnP(b:Nat):∀ {l:List Nat} {i j:Nat},l.Nodup→l[i]? = some b→l[j]? = some b→i=j
 | [],i,j,_,hi,_=>by simp at hi
 | x::l,i,j,hn,hi,hj=>by
  obtain⟨h1,h2⟩:=List.nodup_cons.1 hn;cases i with
  | zero =>
   cases j with
   | zero=>rfl
   | succ j =>
    simp at hi hj;subst hi;exact absurd (List.mem_of_getElem? hj) h1
  | succ i =>
   cases j with
   | zero =>
    simp at hi hj;subst hj;exact absurd (List.mem_of_getElem? hi) h1
   | succ j =>
    have:=ZnP b h2 (by simpa using hi) (by simpa using hj);omega
theorem Z0f{P:Program}{f:Nat}{fn:Func}{args:List AV}{fr:Bool}{res:AV}{news:List Blk}(hints:List (Nat×List Hint))(cuts:List (Nat×Tg×Ex×Tg))(keep:List Nat)(hkeep:keep.Nodup)
  (hf:P.funcs[f]? = some fn) {φ:Prop} (hφ:φ) (h1:oblO (runF P hints cuts keep fn args fr res news)=φ) (h2:lefO (runF P hints cuts keep fn args fr res news)=rigO (runF P hints cuts keep fn args fr res news)):GSpec P f args fr res news:=by
 rw[← h1]at hφ;cases hr:runF P hints cuts keep fn args fr res news with
 | none=>rw[hr]at hφ;exact hφ.elim
 | some r =>
  rw[hr]at hφ h2;have heq:EqP r.eq:=Z7K h2;have hph:allP r.ph:=hφ;clear h1 h2 hφ;unfold runF at hr;split at hr
  ·cases hr
  rename_i c hb;split at hr
  ·cases hr
  rename_i hpure;split at hr
  ·cases hr
  rename_i q hq;split at hr
  ·cases hr
  rename_i hne;split at hr
  ·cases hr
  rename_i l hl;split at hr;rotate_left
  ·cases hr
  rename_i x p ns qq hx hns;split at hr;rotate_left
  ·cases hr
  rename_i hlen;cases hr;obtain⟨hph',hph3⟩:=allP_append.1 hph;obtain⟨hph1,hph2⟩:=allP_append.1 hph';have heq1:=heq.left.left;have hxe:(coeT x res).1=res:=heq.left.right ((coeT x res).1,res) pq;obtain⟨hph2,hph2'⟩:=allP_append.1 hph2;have hnse:ns=news:=by
   apply List.ext_getElem?;intro i;by_cases hi:i<ns.length
   ·have hi':i<news.length:=by omega
    have:(encB ns[i],encB news[i])∈(ns.map encB).zip (news.map encB):=by
     refine List.mem_iff_getElem?.2 ⟨i, ?_⟩;simp[List.getElem?_zip_eq_some,hi,hi']
    have:=Z8f (heq.right _ this);rw[List.getElem?_eq_getElem hi,List.getElem?_eq_getElem hi',this]
   ·rw[List.getElem?_eq_none oq,List.getElem?_eq_none oq]
  subst hnse;intro w Im vs hIm hsz hargs;refine calls_of_wp hf hb ?_;have hS:Sys Z40 Im w (args++List.replicate (fn.ntmps-args.length) .any) (fun _=>none) 1 { tmps:=vs++Array.replicate (fn.ntmps-vs.size) undef,defers:=[] } w:=by
   refine⟨fun _=>none,Im,⟨Kept.refl _ _,(fun b b' β β' g _ _ h=>nomatch h),(fun b β g _ h=>nomatch h),(fun b β g h=>nomatch h),(fun b β g h=>nomatch h),hIm,(fun g h=>.inl h),(fun b B h=>nomatch h),fun _ _ _=>rfl,Nat.le_refl 1,fun b β _ h=>nomatch h⟩,⟨by simp[hsz],fun i y v hy hv=>?_,rfl⟩⟩;rw[List.getElem?_append]at hy;simp only[Array.getElem?_append]at hv;rw[hsz]at hv;split at hy
   ·rename_i hi;rw[if_pos hi]at hv;exact hargs i y v hy hv
   ·have:=List.mem_of_getElem? hy;rw[(List.mem_replicate.1 this).2];exact .any _
  refine wp_mono (Z7p hq hph1 heq1 _ _ _ _ _ hS) ?_;rintro e a' w' ⟨rfl,hS'⟩;have post:a'.defers=[]∧∃ v,(results fn a'.tmps).run P w' = .ok v w'∧∃ u,Ending.returned v = .returned u∧Zee w Im fr res ns u w':=by
   obtain⟨ρ,Im',I,T⟩:=hS';obtain⟨v,h1,h2⟩:=Z5u I T hl;refine⟨T.defers,v,h1,v,rfl, ?_⟩;have hxr:=ZbW (r:=res) (Zon I h2 hx hph2) hph2';rw[hxe]at hxr;obtain⟨n1,n2⟩:=Zcx hns hph3;have hK:∀ (k b:Nat),keep[k]? = some b→∃ B:Blk,ns[k]? = some B:=by
    intro k b hk;have hk':=(List.getElem?_eq_some_iff.1 hk).1;exact⟨ns[k],List.getElem?_eq_getElem oq⟩
   refine⟨⟨I.kept.os,I.kept.tape,I.kept.output,I.kept.size,fun k hk _=>I.kept.block k hk (fun h=>h.no),I.kept.rows⟩,rhoK ρ keep,ImK fr Im' ρ q.s.H keep, ?_, ?_, ?_, ?_, ?_, ?_,hxr⟩
   ·rintro g (⟨h1,h2⟩ | ⟨b,β,_,_,hb,hg⟩)
    ·rcases I.im0 g h2 with h | h | h
     ·exact .inl ⟨h1,h⟩
     ·exact .inr h
     ·exact h.no.elim
    ·rcases I.own b β g hb hg with⟨h,_⟩ | h
     ·exact .inr h
     ·exact h.no.elim
   ·rintro g (⟨h1,h2⟩ | ⟨b,β,_,_,hb,hg⟩)
    ·exact I.imb g h2
    ·exact I.bnd b β g hb hg
   ·intro k β g hk hg;simp only[rhoK]at hk;split at hk;rotate_left
    ·cases hk
    rename_i b hkb;refine⟨?_,I.bnd b β g hk hg, ?_⟩
    ·rcases I.own b β g hk hg with⟨h,_⟩ | h
     ·exact h
     ·exact h.no.elim
    ·obtain⟨B,hB⟩:=hK k b hkb;obtain⟨b',ty,s,els,m1,m2,m3,m4⟩:=n2 k B hB;rw[hkb]at m1;cases m1;rintro(⟨_,h⟩ | ⟨b2,β2,h2,hl2,hb2,hg2⟩)
     ·exact I.notIm b β g ⟨_,m2,by simp⟩ hk hg h
     ·have:=I.inj b b2 β β2 g ⟨_,m2,by simp⟩ hl2 hk hb2 hg hg2;subst this;exact h2 (List.mem_of_getElem? hkb)
   ·intro k k' β β' g hk hk' hg hg';simp only[rhoK]at hk hk';split at hk;rotate_left
    ·cases hk
    rename_i b hkb;split at hk';rotate_left
    ·cases hk'
    rename_i b' hkb';obtain⟨B,hB⟩:=hK k b hkb;obtain⟨_,ty,s,els,m1,m2,_,_⟩:=n2 k B hB;rw[hkb]at m1;cases m1;obtain⟨B',hB'⟩:=hK k' b' hkb';obtain⟨_,ty',s',els',m1',m2',_,_⟩:=n2 k' B' hB';rw[hkb']at m1';cases m1';have:=I.inj b b' β β' g ⟨_,m2,by simp⟩ ⟨_,m2',by simp⟩ hk hk' hg hg';subst this;exact ZnP b hkeep hkb hkb'
   ·intro k β hk;simp only[rhoK]at hk;split at hk;rotate_left
    ·cases hk
    rename_i b hkb;rw[n1];exact(List.getElem?_eq_some_iff.1 hkb).1
   ·intro k B hB;obtain⟨b,ty,s,els,m1,m2,rfl,m4⟩:=n2 k B hB;obtain⟨β,h1,h2⟩:=I.blk b _ m2;refine⟨β,by simp only[rhoK];rw[m1];exact h1, ?_⟩;obtain⟨k0,k1,k2,k3,k4⟩:=h2;refine⟨k0,k1,k2,k3,k4.imp (fun h=>h) fun⟨g,cs,j1,j2,j3,j4⟩=>⟨g,cs,j1,j2,j3,fun i e o y hi ho=>?_⟩⟩;obtain⟨u,j5,j6⟩:=j4 i e o y hi ho;refine⟨u,j5, ?_⟩;cases fr with
    | true=>exact Zc3 (m4 rfl) (List.mem_of_getElem? hi) (List.mem_of_getElem? ho) j6
    | false=>exact j6.mono (Ext.refl _ _) (fun g hg=>.inl ⟨rfl,hg⟩)
  cases hqe:q.e with
  | nrm=>exact post
  | ret=>exact post
  | ext n=>exact absurd hqe (hne n)
def ZeQ(n:Nat):Code→Option Code
 | .block m c=>match Nat.beq m n with
  | true=>some (.block m c)
  | false=>ZeQ n c
 | .seq a b=>match ZeQ n a with
  | some c=>some c
  | none=>ZeQ n b
 | .cond _ a b=>match ZeQ n a with
  | some c=>some c
  | none=>ZeQ n b
 | .loop c=>ZeQ n c
 | _=>none
def blkF(fn:Func)(n:Nat):Code:=match fn.body with
 | some c=>match ZeQ n c with
  | some b=>b
  | none=>.skip
 | none=>.skip
def rndF(fn:Func)(n:Nat):Code:=match blkF fn n with
 | .block _ (.loop c)=>c
 | _=>.skip
def Z6w(n:Nat):Code→Bool
 | .block m (.loop _)=>Nat.beq m n
 | _=>false
theorem Z6r{fn:Func}{n:Nat}(h:Z6w n (blkF fn n)=true):blkF fn n = .block n (.loop (rndF fn n)):=by
 unfold rndF;generalize blkF fn n=c at h ⊢;unfold Z6w at h;split at h
 ·rw[Nat.eq_of_beq_eq_true h]
 ·cases h
theorem Zbp{P:Program}{fn:Func}{n k:Nat}{s t:St}(h:Z6w n (blkF fn n)=true)(hr:Z2A P (rndF fn n) k s (.ext n) t):CSpec P (blkF fn n) s .nrm t:=by
 rw[Z6r h];exact Zjs (ZeA hr)
theorem Zc4{P:Program}{fn:Func}{n k:Nat}{s t:St}(h:Z6w n (blkF fn n)=true)(hr:Z2A P (rndF fn n) k s .ret t):CSpec P (blkF fn n) s .ret t:=by
 rw[Z6r h];exact Zj1 (ZeA hr)
theorem ZeH{P:Program}{c:Code}{S:Nat→St}{e:Ex}{t:St}(n:Nat)(h:∀ i,i<n→CSpec P c (S i) .nrm (S (i+1)))(hl:e≠.nrm)(hn:CSpec P c (S n) e t):Z2A P c n (S 0) e t:=by
 have:∀ m i,i+m=n→Z2A P c m (S i) e t:=by
  intro m;induction m with
  | zero=>intro i hi;rw[Nat.add_zero]at hi;subst hi;exact⟨hl,hn⟩
  | succ m ih=>intro i hi;exact⟨S (i+1),h i oq,ih (i+1) oq⟩
 exact this n 0 oq
theorem Z08{P:Program}{fn:Func}{b:Nat}{S:Nat→St}{t:St}(n:Nat)(hb:Z6w b (blkF fn b)=true)(h:∀ i,i<n→CSpec P (rndF fn b) (S i) .nrm (S (i+1)))(hn:CSpec P (rndF fn b) (S n) (.ext b) t):CSpec P (blkF fn b) (S 0) .nrm t :=
 Zbp hb (ZeH n h (fun h=>nomatch h) hn)
theorem Z0z{P:Program}{fn:Func}{b:Nat}{S:Nat→St}{t:St}(n:Nat)(hb:Z6w b (blkF fn b)=true)(h:∀ i,i<n→CSpec P (rndF fn b) (S i) .nrm (S (i+1)))(hn:CSpec P (rndF fn b) (S n) .ret t):CSpec P (blkF fn b) (S 0) .ret t :=
 Zc4 hb (ZeH n h (fun h=>nomatch h) hn)
def int(n:Int):AV:=.d (.sc (.int .i64 n))
def u64(n:Int):AV:=.d (.sc (.int .u64 n))
def bool(b:Bool):AV:=.d (.sc (.bool b))
def dint(n:Int):DV:=.sc (.int .i64 n)
def du64(n:Int):DV:=.sc (.int .u64 n)
def wdv(x:Int):List DV:=[du64 x]
def idv(x:Int):List DV:=[dint x]
def ZoS(k:Nat):List (Nat×AV)→AV
 | []=>.any
 | (j,a)::r=>match Nat.beq j k with
  | true=>a
  | false=>ZoS k r
def tmGo(l:List (Nat×AV)):Nat→Nat→List AV
 | 0,_=>[]
 | n+1,k=>ZoS k l::tmGo l n (k+1)
def tm(n:Nat)(l:List (Nat×AV)):List AV:=tmGo l n 0
end Go.Sx
