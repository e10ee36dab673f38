/-
 The statement EvacuateOnce: part 15.
 Conditions: none.
-/
import Derived.Test.YtdhchmlalchgeaaGreatE14
set_option maxRecDepth 100000
set_option maxHeartbeats 2000000
set_option linter.all false
namespace Go.Proofs.YtdhchmlalchgeaaGreat
open Go.Sx
theorem Zpn{all:List Int}(nd:all.Pairwise (· < ·)){k:Nat}(hk:k<all.length)(s s':Int→Int)(h:∀ y∈all,y≠all.getD k default→s' y=s y):(all.map s).set k (s' (all.getD k default))=all.map s':=by
 refine List.ext_getElem pq fun i h1 h2=>?_;have hi:i<all.length:=by simpa using h2
 rw[List.getElem_set,List.getElem_map,List.getElem_map];have e:all.getD k default=all[k]:=by rw[List.getD_eq_getElem?_getD,List.getElem?_eq_getElem hk];rfl
 split
 ·rename_i q;subst q;rw[e]
 ·rename_i q;refine(h _ (List.getElem_mem hi) ?_).symm;rw[e];have p:=List.pairwise_iff_getElem.1 nd;rcases Nat.lt_trichotomy i k with c | c | c
  ·have:=p i k hi hk c;omega
  ·exact absurd c.symm q
  ·have:=p k i hk hi c;omega
def onL(all to order:List Int)(w:Work)(s:Int)(i:Nat):Tg:=⟨tm 129 [(1,Z0q order),(4,bool false),(6,.pt 32006 0 0),(8,.ow 41031),(10,.ow 64042),(11,int s),(12,int i)],[(64042,.arr 35 1 (to.map wdv)),(41031,.arr 35 1 (all.map wdv)),(32006,.box 73 w.cells)],11⟩
structure OnR (all to:List Int) (w:Work) (o s s':Int):Prop where
 f:FwOk w (ixX all o)
 e:(w.fwd (ixX all o)).2.2=0
 a:(w.fwd (ixX all o)).2.1≠0
 t:to.getD (o%all.length).toNat default=0∧s'=s+1∨to.getD (o%all.length).toNat default=(w.fwd (ixX all o)).2.1∧s'=s
 q:((w.fwd (ixX all o)).1.Q.length:Int)=s'
 n:(w.fwd (ixX all o)).1.rep.copied+(w.fwd (ixX all o)).1.rep.kept=s'
 m:(w.fwd (ixX all o)).2.1∈(w.fwd (ixX all o)).1.Q
 b:0≤s∧s≤1000∧(w.fwd (ixX all o)).1.Q.length≤1000
 c:0≤(w.fwd (ixX all o)).1.rep.copied∧0≤(w.fwd (ixX all o)).1.rep.kept
section
variable (all to order:List Int) (w:Work) (s s':Int) (i:Nat) (ha:1≤all.length) (hl:all.length≤16384) (ht:to.length=all.length) (hi:i<order.length) (ho:order.length≤60) (R:OnR all to w (order.getD i default) s s')
include ha hl ht hi ho R
theorem Zo6:CP (rndF Tryz.f7 0) (onL all to order w s i).st .nrm (onL all (to.set (order.getD i default%all.length).toNat (w.fwd (ixX all (order.getD i default))).2.1) order (w.fwd (ixX all (order.getD i default))).1 s' (i+1)).st:=by
 obtain⟨f,e,a,t,q,n,m,b,c⟩:=R;have r0:=f.rg;have r1:=Z7n (order.getD i default) (n:=all.length) oq;have ei1:IntKind.i64.wrap ((order.getD i default).tmod all.length+all.length)=(order.getD i default).tmod all.length+all.length:=wrapI' oq oq;have ej2:=Zdp (order.getD i default) (n:=all.length) oq;have ei2:((order.getD i default).tmod all.length+all.length)%all.length=(order.getD i default)%all.length:=(ZmT oq).symm.trans ej2;have k0:=Int.emod_nonneg (order.getD i default) (show(all.length:Int)≠0 by omega);have k1:=Int.emod_lt_of_pos (order.getD i default) (show(0:Int)<all.length by omega);unfold ixX at *;rcases t with⟨t,rfl⟩ | ⟨t,rfl⟩
 ·exact sF [] [] (Fh 10104 [.els (List.map wdv (to.set (order.getD i default%(↑all.length:Int)).toNat (w.fwd (all.getD (order.getD i default%(↑all.length:Int)).toNat default)).snd.fst))] (FN 45 46 51 idv order i (Fl 54 wdv all (Fo ((↑all.length:Int)≠0) (Fl 57 wdv all (Fi 58 ((order.getD i default).tmod (↑all.length:Int)+(↑all.length:Int)) (Fl 60 wdv all (Fgo 61 (((order.getD i default).tmod (↑all.length:Int)+(↑all.length:Int)).tmod (↑all.length:Int)) (order.getD i default%(↑all.length:Int)) (Fo ((↑all.length:Int)≠0) (Fmq 67 wdv all (order.getD i default%(↑all.length:Int)) (Fc 68 (@Z6b w (all.getD (order.getD i default%(↑all.length:Int)).toNat default) aa aa) (FmGq 82 (!((0:Int) != 0||(w.fwd (all.getD (order.getD i default%(↑all.length:Int)).toNat default)).snd.fst==0)) wdv to (order.getD i default%(↑all.length:Int)) (FmGq 88 (!((0:Int) != 0||(w.fwd (all.getD (order.getD i default%(↑all.length:Int)).toNat default)).snd.fst==0)&&to.getD (order.getD i default%(↑all.length:Int)).toNat default != 0) wdv to (order.getD i default%(↑all.length:Int)) (Ffb 92 ((w.fwd (all.getD (order.getD i default%(↑all.length:Int)).toNat default)).snd.fst==0||to.getD (order.getD i default%(↑all.length:Int)).toNat default != 0&&to.getD (order.getD i default%(↑all.length:Int)).toNat default != (w.fwd (all.getD (order.getD i default%(↑all.length:Int)).toNat default)).snd.fst) (Fmq 96 wdv to (order.getD i default%(↑all.length:Int)) (Ftb 97 (to.getD (order.getD i default%(↑all.length:Int)).toNat default==0) (Fi 99 (s+1) (Fa (by(simp only[List.length_map];omega):0≤order.getD i default%(↑all.length:Int)∧(order.getD i default%(↑all.length:Int)).toNat<(List.map wdv to).length) (Fa (by(simp only[List.length_map];omega):(order.getD i default%(↑all.length:Int)).toNat<(List.map wdv to).length) (Fa (ms:(List.map wdv to).set (order.getD i default%(↑all.length:Int)).toNat [du64 (w.fwd (all.getD (order.getD i default%(↑all.length:Int)).toNat default)).snd.fst]=List.map wdv (to.set (order.getD i default%(↑all.length:Int)).toNat (w.fwd (all.getD (order.getD i default%(↑all.length:Int)).toNat default)).snd.fst)) (Fl 107 wdv (w.fwd (all.getD (order.getD i default%(↑all.length:Int)).toNat default)).fst.Q (FiG 117 (!(↑(w.fwd (all.getD (order.getD i default%(↑all.length:Int)).toNat default)).fst.Q.length:Int) != s+1) ((w.fwd (all.getD (order.getD i default%(↑all.length:Int)).toNat default)).fst.rep.copied+(w.fwd (all.getD (order.getD i default%(↑all.length:Int)).toNat default)).fst.rep.kept) (FcG 125 (!((↑(w.fwd (all.getD (order.getD i default%(↑all.length:Int)).toNat default)).fst.Q.length:Int) != s+1||(w.fwd (all.getD (order.getD i default%(↑all.length:Int)).toNat default)).fst.rep.copied+(w.fwd (all.getD (order.getD i default%(↑all.length:Int)).toNat default)).fst.rep.kept != s+1)) (fun hg=>by(try simp only[bs]at hg);exact @Z12 ((w.fwd (all.getD (order.getD i default%(↑all.length:Int)).toNat default)).fst.Q) ((w.fwd (all.getD (order.getD i default%(↑all.length:Int)).toNat default)).snd.fst) oq) (Ffs 127 ((↑(w.fwd (all.getD (order.getD i default%(↑all.length:Int)).toNat default)).fst.Q.length:Int) != s+1||(w.fwd (all.getD (order.getD i default%(↑all.length:Int)).toNat default)).fst.rep.copied+(w.fwd (all.getD (order.getD i default%(↑all.length:Int)).toNat default)).fst.rep.kept != s+1||!decide ((w.fwd (all.getD (order.getD i default%(↑all.length:Int)).toNat default)).snd.fst∈(w.fwd (all.getD (order.getD i default%(↑all.length:Int)).toNat default)).fst.Q)) (Fx 48 i Fz)))))))))))))))))))))))))
 ·exact sF [] [] (Fh 10104 [.els (List.map wdv (to.set (order.getD i default%(↑all.length:Int)).toNat (w.fwd (all.getD (order.getD i default%(↑all.length:Int)).toNat default)).snd.fst))] (FN 45 46 51 idv order i (Fl 54 wdv all (Fo ((↑all.length:Int)≠0) (Fl 57 wdv all (Fi 58 ((order.getD i default).tmod (↑all.length:Int)+(↑all.length:Int)) (Fl 60 wdv all (Fgo 61 (((order.getD i default).tmod (↑all.length:Int)+(↑all.length:Int)).tmod (↑all.length:Int)) (order.getD i default%(↑all.length:Int)) (Fo ((↑all.length:Int)≠0) (Fmq 67 wdv all (order.getD i default%(↑all.length:Int)) (Fc 68 (@Z6b w (all.getD (order.getD i default%(↑all.length:Int)).toNat default) aa aa) (FmGq 82 (!((0:Int) != 0||(w.fwd (all.getD (order.getD i default%(↑all.length:Int)).toNat default)).snd.fst==0)) wdv to (order.getD i default%(↑all.length:Int)) (FmGq 88 (!((0:Int) != 0||(w.fwd (all.getD (order.getD i default%(↑all.length:Int)).toNat default)).snd.fst==0)&&to.getD (order.getD i default%(↑all.length:Int)).toNat default != 0) wdv to (order.getD i default%(↑all.length:Int)) (Ffb 92 ((w.fwd (all.getD (order.getD i default%(↑all.length:Int)).toNat default)).snd.fst==0||to.getD (order.getD i default%(↑all.length:Int)).toNat default != 0&&to.getD (order.getD i default%(↑all.length:Int)).toNat default != (w.fwd (all.getD (order.getD i default%(↑all.length:Int)).toNat default)).snd.fst) (Fmq 96 wdv to (order.getD i default%(↑all.length:Int)) (Ffb 97 (to.getD (order.getD i default%(↑all.length:Int)).toNat default==0) (Fa (by(simp only[List.length_map];omega):0≤order.getD i default%(↑all.length:Int)∧(order.getD i default%(↑all.length:Int)).toNat<(List.map wdv to).length) (Fa (by(simp only[List.length_map];omega):(order.getD i default%(↑all.length:Int)).toNat<(List.map wdv to).length) (Fa (ms:(List.map wdv to).set (order.getD i default%(↑all.length:Int)).toNat [du64 (w.fwd (all.getD (order.getD i default%(↑all.length:Int)).toNat default)).snd.fst]=List.map wdv (to.set (order.getD i default%(↑all.length:Int)).toNat (w.fwd (all.getD (order.getD i default%(↑all.length:Int)).toNat default)).snd.fst)) (Fl 107 wdv (w.fwd (all.getD (order.getD i default%(↑all.length:Int)).toNat default)).fst.Q (FiG 117 (!(↑(w.fwd (all.getD (order.getD i default%(↑all.length:Int)).toNat default)).fst.Q.length:Int) != s') ((w.fwd (all.getD (order.getD i default%(↑all.length:Int)).toNat default)).fst.rep.copied+(w.fwd (all.getD (order.getD i default%(↑all.length:Int)).toNat default)).fst.rep.kept) (FcG 125 (!((↑(w.fwd (all.getD (order.getD i default%(↑all.length:Int)).toNat default)).fst.Q.length:Int) != s'||(w.fwd (all.getD (order.getD i default%(↑all.length:Int)).toNat default)).fst.rep.copied+(w.fwd (all.getD (order.getD i default%(↑all.length:Int)).toNat default)).fst.rep.kept != s')) (fun hg=>by(try simp only[bs]at hg);exact @Z12 ((w.fwd (all.getD (order.getD i default%(↑all.length:Int)).toNat default)).fst.Q) ((w.fwd (all.getD (order.getD i default%(↑all.length:Int)).toNat default)).snd.fst) oq) (Ffs 127 ((↑(w.fwd (all.getD (order.getD i default%(↑all.length:Int)).toNat default)).fst.Q.length:Int) != s'||(w.fwd (all.getD (order.getD i default%(↑all.length:Int)).toNat default)).fst.rep.copied+(w.fwd (all.getD (order.getD i default%(↑all.length:Int)).toNat default)).fst.rep.kept != s'||!decide ((w.fwd (all.getD (order.getD i default%(↑all.length:Int)).toNat default)).snd.fst∈(w.fwd (all.getD (order.getD i default%(↑all.length:Int)).toNat default)).fst.Q)) (Fx 48 i Fz))))))))))))))))))))))))
end
theorem Zq7(all to order:List Int)(w:Work)(s:Int):CP (rndF Tryz.f7 0) (onL all to order w s order.length).st (.ext 0) (Tg.st ⟨tm 129 [(4,bool false)],[],11⟩):=by
 exact sF [] [] (FO 45 46 idv order Fz)
structure OnS (all order:List Int) (w:Nat→Work):Prop where
 r:∀ i,i<order.length→OnR all (all.map (Z38 (w i))) (w i) (order.getD i default) (w i).Q.length (w (i+1)).Q.length
 s:∀ i,i<order.length→w (i+1)=((w i).fwd (ixX all (order.getD i default))).1
 u:∀ i,i<order.length→all.map (Z38 (w (i+1)))=(all.map (Z38 (w i))).set (order.getD i default%all.length).toNat ((w i).fwd (ixX all (order.getD i default))).2.1
 z:all.map (Z38 (w 0))=List.replicate ((all.length:Nat):Int).toNat 0
 q:((w 0).Q.length:Int)=0
theorem Zpz(all order:List Int)(w:Nat→Work)(w0:Work)(h0:w 0=w0)(ha:1≤all.length)(hl:all.length≤16384)(ho:order.length≤60)(h:OnS all order w):CP (blkF Tryz.f7 0) (Tg.st ⟨tm 129 [(1,Z0q order),(4,bool false),(6,.pt 32006 0 0),(8,.ow 41031),(10,.ow 64042),(11,int 0),(12,int 0)],[(64042,.arr 35 1 ((List.replicate ((all.length:Nat):Int).toNat 0).map wdv)),(41031,.arr 35 1 (all.map wdv)),(32006,.box 73 w0.cells)],11⟩) .nrm (Tg.st ⟨tm 129 [(4,bool false)],[],11⟩):=by
 subst h0;have:=Z0a (S:=fun i=>(onL all (all.map (Z38 (w i))) order (w i) ((w i).Q.length:Int) i).st) order.length kr (fun i hi=>by
  have:=Zo6 all (all.map (Z38 (w i))) order (w i) _ _ i ha hl pq hi ho (h.r i hi);rw[← h.u i hi,← h.s i hi]at this;exact this) (Zq7 all _ order (w order.length) _)
 simp only[onL,h.z,h.q]at this;exact this
def onW(h:Heap)(order:List Int):Nat→Work:=fwN (beginW h) (order.map (ixX (Z03 h).1))
section
variable {h:Heap} {T:Nat→List Int} (g:Gd h T) (mv:MV h) (hw:WOk h.W) {order:List Int} (hl:1≤(Z03 h).1.length)
include g mv hw hl
theorem Zg3{i:Nat}(hi:i<order.length)(o:OnW h T (onW h order i))(ho:(onW h order i).old=(Z03 h).1):onW h order (i+1)=((onW h order i).fwd (ixX (Z03 h).1 (order.getD i default))).1:=by
 have hr:ixX (Z03 h).1 (order.getD i default)∈(onW h order i).old:=by rw[ho];exact Zc0 _ hl
 have e:(order.map (ixX (Z03 h).1)).getD i default=ixX (Z03 h).1 (order.getD i default):=by
  simp[List.getD_eq_getElem?_getD,List.getElem?_eq_getElem hi]
 have k:=o.ok g mv hr;unfold onW at k ⊢;rw[fwN,e,if_pos k]
theorem ZcN:∀ i,i≤order.length→OnW h T (onW h order i)∧(onW h order i).old=(Z03 h).1∧(onW h order i).Q.length≤i
 | 0,_=>⟨OnW.begin g hw,rfl,Nat.le_refl _⟩
 | i+1,hi=>by
  obtain⟨o,ho,hq⟩:=ZcN i oq;have hr:ixX (Z03 h).1 (order.getD i default)∈(onW h order i).old:=by rw[ho];exact Zc0 _ hl
  obtain⟨s1,s2,s3,s4,s5⟩:=o.seen g mv hr;rw[Zg3 g mv hw hl oq o ho];refine⟨o.fwd g mv hr,s4.trans ho, ?_⟩;split at s5<;>omega
theorem Zq0(hn:order.length≤60):OnS (Z03 h).1 order (onW h order):=by
 have st:=fun i hi=>Zg3 g mv hw hl (order:=order) (i:=i) hi (ZcN g mv hw hl i oq).1 (ZcN g mv hw hl i oq).2.1;refine⟨fun i hi=>?_,st,fun i hi=>?_, ?_,rfl⟩
 ·obtain⟨o,ho,hq⟩:=ZcN g mv hw hl (order:=order) i oq;have hm:=Zc0 (all:=(Z03 h).1) (order.getD i default) hl;have hr:ixX (Z03 h).1 (order.getD i default)∈(onW h order i).old:=by rw[ho];exact hm
  obtain⟨s1,s2,s3,s4,s5⟩:=o.seen g mv hr;have o':=o.fwd g mv hr;have rr:=Z3k _ _ hm;have k0:=Int.emod_nonneg (order.getD i default) (show((Z03 h).1.length:Int)≠0 by omega);have k1:=Int.emod_lt_of_pos (order.getD i default) (show(0:Int)<(Z03 h).1.length by omega);have kk:(order.getD i default%((Z03 h).1.length:Int)).toNat<(Z03 h).1.length:=by omega
  have et:((Z03 h).1.map (Z38 (onW h order i))).getD (order.getD i default%((Z03 h).1.length:Int)).toNat default=Z38 (onW h order i) (ixX (Z03 h).1 (order.getD i default)):=by
   unfold ixX;generalize (order.getD i default%((Z03 h).1.length:Int)).toNat=j at kk ⊢;simp only[List.getD_eq_getElem?_getD,List.getElem?_map,List.getElem?_eq_getElem kk,Option.map_some,Option.getD_some]
  have rk:=o'.c.ok.rk;rw[st i hi];refine⟨o.c.fw g oq,o.ok g mv hr,s1, ?_,rfl,o'.n, ?_,⟨by omega,by omega, ?_⟩,⟨rk.2.1,rk.1⟩⟩
  ·rw[et];by_cases q:Z38 (onW h order i) (ixX (Z03 h).1 (order.getD i default))=0
   ·rw[if_pos q]at s5;exact .inl ⟨q,s5⟩
   ·rw[if_neg q]at s5;refine .inr ⟨?_,by omega⟩;rw[o.same g mv hr q]
  ·have:=o'.q _ (by rw[s4];exact hr) (by rw[s2];exact s1);rw[s2]at this;exact this
  ·split at s5<;>omega
 ·obtain⟨o,ho,hq⟩:=ZcN g mv hw hl (order:=order) i oq;have hm:=Zc0 (all:=(Z03 h).1) (order.getD i default) hl;have hr:ixX (Z03 h).1 (order.getD i default)∈(onW h order i).old:=by rw[ho];exact hm
  obtain⟨s1,s2,s3,s4,s5⟩:=o.seen g mv hr;have k0:=Int.emod_nonneg (order.getD i default) (show((Z03 h).1.length:Int)≠0 by omega);have k1:=Int.emod_lt_of_pos (order.getD i default) (show(0:Int)<(Z03 h).1.length by omega);rw[st i hi,← s2];exact(Zpn (Z91 h) oq _ _ fun y hy hne=>s3 y (by rw[ho];exact hy) hne).symm
 ·show(Z03 h).1.map (Z38 (beginW h))=_;rw[List.map_congr_left (l:=(Z03 h).1) (g:=fun _=>(0:Int)) fun y hy=>(Z7h g hy).1];refine List.eq_replicate_iff.2 ⟨by simp,fun b hb=>?_⟩;obtain⟨_,_,rfl⟩:=List.mem_map.1 hb;rfl
end
theorem Znv(tape order:List Int)(h1:tape.length≤140737488355328)(h2:order.length≤140737488355328):GP 7 [Z0q tape,Z0q order] true (bool true) []:=by
 have hm:=ZfC tape;have hw:=hm.W;obtain⟨T,g,_⟩:=Zf7 tape;have mv:=ZkS tape;have hg:=(Zhr tape).1;have hp:=g.p;have ol:=Z2f (Z15 tape).heap;by_cases c0:60<order.length
 ·exact gF [] Tryz.func7 [] (Fl 18 idv order (Ftb 19 (decide (60<(↑order.length:Int))) Fz))
 ·by_cases c:(Z03 (Z15 tape).heap).1.length=0
  ·exact gF [] Tryz.func7 [] (Fl 18 idv order (Ffb 19 (decide (60<(↑order.length:Int))) (Fc 21 (@Zb4 tape aa) (Fc 25 (@Zat ((Z15 tape).heap) aa aa aa) (Fc 31 (@Ziu ((Z15 tape).heap) aa) (Fl 37 wdv (Z03 (Z15 tape).heap).fst (Ftb 38 ((↑(Z03 (Z15 tape).heap).fst.length:Int)==0) (Fc 39 (@ZaG) Fz))))))))
  ·have S:=Zq0 g mv hw (order:=order) oq oq;have e0:onW (Z15 tape).heap order 0=beginW (Z15 tape).heap:=rfl;exact gF [] Tryz.func7 [] (Fh 42 [.els (List.map wdv (List.replicate (↑(Z03 (Z15 tape).heap).fst.length:Int).toNat 0))] (Fl 18 idv order (Ffb 19 (decide (60<(↑order.length:Int))) (Fc 21 (@Zb4 tape aa) (Fc 25 (@Zat ((Z15 tape).heap) aa aa aa) (Fc 31 (@Ziu ((Z15 tape).heap) aa) (Fl 37 wdv (Z03 (Z15 tape).heap).fst (Ffb 38 ((↑(Z03 (Z15 tape).heap).fst.length:Int)==0) (Fl 41 wdv (Z03 (Z15 tape).heap).fst (Fb (0≤(↑(Z03 (Z15 tape).heap).fst.length:Int)∧(↑(Z03 (Z15 tape).heap).fst.length:Int)≤(↑(Z03 (Z15 tape).heap).fst.length:Int)∧(↑(Z03 (Z15 tape).heap).fst.length:Int)*((↑(nat_lit 7):Int)+1)≤2^48) (Fa (ms:List.replicate (↑(Z03 (Z15 tape).heap).fst.length:Int).toNat [du64 0]=List.map wdv (List.replicate (↑(Z03 (Z15 tape).heap).fst.length:Int).toNat 0)) (Fu (@Zpz ((Z03 (Z15 tape).heap).fst) order (onW (Z15 tape).heap order) (beginW (Z15 tape).heap) e0 oq aa oq aa) (Fc 128 (@ZaG) Fz)))))))))))))
end Go.Proofs.YtdhchmlalchgeaaGreat
namespace Go.Proofs.YtdhchmlalchgeaaGreat
open Go.Sx Go.RowKit
theorem Z6d(os:Os)(started:os.Started)(H:Type)(enc:TypeId×Value→H) :
  ReturnsInHanded {} Tryz.checked os 7 .any (Rows.evacuateOnceSpec.pre6 enc Tryz.prog Tryz.f7 Rows.evacuateOnceRow.domain false) (Rows.evacuateOnceSpec.post enc Tryz.prog Tryz.f7 false true false false):=by
 refine Zd7 (C:=Tryz.checked) (tb:=4) 5 own0 started kr Tryz.func7
  (ChangeSpec.witness6 (enc:=enc) (C:=Tryz.checked) false ⟨#[],#[.slice none 0 0,.slice none 0 0],[]⟩ 8 kr kr kr kr)
  ZlZ kr kr kr kr rfl (fun ds hd=>?_) (fun ls hl h=>?_)
 ·match ds,hd with
  | [a0,a1],_=>rfl
 ·match ls,hl with
  | [l0,l1],_ =>
   obtain⟨tape,rfl,htape⟩:=Zgi (n:=3) (h 0 22 l0 kr rfl);obtain⟨order,rfl,horder⟩:=Zgi (n:=3) (h 1 22 l1 kr rfl);have e:Zbl Tryz.prog Tryz.f7.params.toList [[.sl 1 (tape.map idv)],[.sl 1 (order.map idv)]]=[Z0q tape,Z0q order]:=by kernel_rfl
   exact⟨true,e▸Znv tape order htape horder⟩
theorem Z8q:(Rows.evacuateOnceRow.inPlace==Tryz.prog.inPlace 7)=true:=by kernel_rfl
theorem Z9t:(Rows.evacuateOnceRow.unfollowed==Tryz.prog.unfollowed 7)=true:=by kernel_rfl
theorem Z9r:(Rows.evacuateOnceRow.recurses==Tryz.prog.recurses 7)=true:=by kernel_rfl
theorem Z9a:(Rows.evacuateOnceRow.named==Tryz.prog.varsNamed 7)=true:=by kernel_rfl
theorem Z6c:joinedFacts Tryz.prog 7 Tryz.f7 Rows.evacuateOnceSpec Rows.evacuateOnceRow=true:=by
 unfold joinedFacts;rw[Z8q,Z9t,Z9r,Z9a];kernel_rfl
theorem evacuateOnce_holds:Rows.EvacuateOnceSaid :=
 OpenClaim.holds_of_wide 7 Tryz.f7 rfl rfl rfl rfl rfl rfl rfl ⟨rfl,rfl,rfl,rfl,rfl⟩ rfl rfl rfl rfl rfl kr Tryz.func7 Z6c
  (of_decide_eq_true kr) (by unfold Func.isWrapper;first | (rw[if_pos (by decide+kernel)];kernel_rfl) | (rw[if_neg (by decide+kernel)];exact⟨rfl,rfl⟩))
  (fun os started H enc _=>Z6d os started H enc)
end Go.Proofs.YtdhchmlalchgeaaGreat
