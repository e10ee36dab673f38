/-
 The statement WalkJoins: part 11.
 Conditions: none.
-/
import Derived.Test.YtjflpmnenhdeeaaGreatD10
set_option maxRecDepth 100000
set_option maxHeartbeats 2000000
set_option linter.all false
namespace Go.Proofs.YtjflpmnenhdeeaaGreat
open Go.Sx
theorem Zlf(w:Work)(r x:Int)(hs:w.heap.space=0∨w.heap.space=1)(hl:w.heap.pages.length≤1048576)(hx:0≤x):CSpec Tryz.prog (blkF Tryz.f159 0) (Tg.st ⟨tm 202 [(1,u64 r),(2,.pt 8002 0 0),(4,.pt 8004 0 0),(5,u64 0),(6,int 0),(14,int (x+1))],[(88094,.arr 56 4 ((w.heap.pages.set x.toNat ⟨(w.heap.pages.getD x.toNat default).kind,1-w.heap.space,(w.heap.pages.getD x.toNat default).used,(w.heap.pages.getD x.toNat default).pins⟩).map Page.dv)),(8002,.box 176 [int w.heap.conf.pw,int w.heap.conf.pg,Z02 w.heap.words,.ow 88094,int w.heap.space,int w.heap.bump,Z02 w.old,Z0T w.taken,Z02 w.queue,int w.scanned,int w.rep.copied,int w.rep.kept,int w.rep.filled,int w.rep.freed,int w.rep.cleared,int w.rep.steps]),(8004,.box 176 [int 0,int 0,.d (.sl 0 []),.d (.sl 0 []),int 0,int 0,.d (.sl 0 []),.d (.sl 0 []),.d (.sl 0 []),int 0,int 0,int 0,int 0,int 0,int 0,int 0])],60⟩) .nrm (Tg.st ⟨tm 202 [(1,u64 r),(2,.pt 8002 0 0),(4,.pt 8004 0 0),(5,u64 0),(6,int 0)],[(88094,.arr 56 4 ((Z0F w.heap.pages x.toNat (Z0w w.heap.pages x.toNat) (1-w.heap.space)).map Page.dv)),(8002,.box 176 [int w.heap.conf.pw,int w.heap.conf.pg,Z02 w.heap.words,.ow 88094,int w.heap.space,int w.heap.bump,Z02 w.old,Z0T w.taken,Z02 w.queue,int w.scanned,int w.rep.copied,int w.rep.kept,int w.rep.filled,int w.rep.freed,int w.rep.cleared,int w.rep.steps]),(8004,.box 176 [int 0,int 0,.d (.sl 0 []),.d (.sl 0 []),int 0,int 0,.d (.sl 0 []),.d (.sl 0 []),.d (.sl 0 []),int 0,int 0,int 0,int 0,int 0,int 0,int 0])],60⟩):=by
 have h:=Z0c (S:=fun k=>(fwdL w r x k).st) (Z0w w.heap.pages x.toNat) (by kernel_rfl) (fun k hk=>Zi6 w r x k hs hl hx hk) (Zm6 w r x hl hx)
 have hz:=Zfi (l:=w.heap.pages) (i:=x.toNat) (1-w.heap.space)
 simp only[fwdL,hz,Zbf,Int.natCast_zero,Int.add_zero]at h
 exact h
section
variable (w:Work) (r:Int) (hw:WkOk w) (h0:0≤r∧r≤18446744073709551615) (c1:r≠0) (c2:r∉w.queue) (c3:r∈w.old) (c4:(Z0p (loadA w.heap.words r).1).2=false) (c5:(ofA w.heap.conf r).2.2=0)
include hw h0 c1 c2 c3 c4 c5
theorem Zhl(c6:Z1h w (ofA w.heap.conf r).1=false)(c7:(w.heap.pages.getD (Z1b w r) default).kind=2):GSpec Tryz.prog 159 [w.av,u64 r] false (.tu [((w.flip (Z1b w r)).keep r).av,u64 r,int 0]) []:=by
 have h1:=hw.mu
 have h2:=hw.ol
 have h3:=hw.wl
 have h4:=Z0P hw.words r
 have h5:=hw.pl
 have h6:=validB_iff.1 hw.conf
 have h7:=hw.tl
 have h8:=Z3w hw.conf c5
 have h9:=hw.sp
 have h10:=Zh9 hw (Z1b w r)
 have h12:(⟨⟨w.heap.conf,w.heap.words,Z0F w.heap.pages (ofA w.heap.conf r).1.toNat (Z0w w.heap.pages (ofA w.heap.conf r).1.toNat) (1-w.heap.space),w.heap.space,w.heap.bump⟩,w.old,w.taken,w.queue,w.scanned,w.rep⟩:Work)=w.flip (Z1b w r):=rfl
 unfold Z1b at c7
 have Q0 {h_ c_ p_} (r_:Fq h_ c_ p_):=FcG 29 (!r==0) (fun hg=>by(try simp only[bs]at hg);exact @Z0X w.queue r (by(try simp only[bs]at hg);omega)) r_
 rcases bb (r==0||decide (r∈w.queue))with hc0 | hc0<;>have hc0p:=hc0<;>simp only[bs]at hc0p
 ·exact gF [] Tryz.func159 [false,false,false,false,true] (Q0 (Ft 30 hc0 (Fr w.heap.conf.pw (Fr w.heap.conf.pg (Fr (List.map wdv w.heap.words) (Fa (by refine congrArg _ ?_;grind[]:List.map Page.dv w.heap.pages=List.map Page.dv ((w.flip (Z1b w r)).keep r).heap.pages) (Fr w.heap.space (Fr w.heap.bump (Fr (List.map wdv w.old) (Fr (List.map idv w.taken) (Fa (by refine congrArg _ ?_;grind[]:List.map wdv w.queue=List.map wdv ((w.flip (Z1b w r)).keep r).queue) (Fr w.scanned (Fr w.rep.copied (Fa (by grind[]:w.rep.kept=((w.flip (Z1b w r)).keep r).rep.kept) (Fr w.rep.filled (Fr w.rep.freed (Fr w.rep.cleared (Fr w.rep.steps (Fr r (Fr (0:Int) Fz))))))))))))))))))))
 ·obtain⟨hc0pa,hc0pb⟩:=hc0p
  exact gF [] Tryz.func159 [] (Fh 73 [.br false] (Fh 77 [.call true (Sx.bool (Z1h w (ofA w.heap.conf r).fst)) [],.br false] (Fh 139 [.kill ((Work.mk (Heap.mk w.heap.conf w.heap.words (Z0F w.heap.pages (ofA w.heap.conf r).fst.toNat (Z0w w.heap.pages (ofA w.heap.conf r).fst.toNat) (1-w.heap.space)) w.heap.space w.heap.bump) w.old w.taken w.queue w.scanned w.rep).keep r).av] (Q0 (Ff 30 hc0 (Fc 36 (@Z0X w.old r (by omega)) (Ffb 37 (!decide (r∈w.old)) (Fc 44 (@Z1K w.heap.words r (by omega) ‹_›) (Fc 49 (@Z2F ((loadA w.heap.words r).fst) (by omega) (by omega)) (Fa ‹(Z0p (loadA w.heap.words r).fst).snd=false› (Fc 60 (@Z4d w.heap.conf r (by omega) (by omega)) (FlG 71 (!(ofA w.heap.conf r).snd.snd != 0) Page.dv w.heap.pages (Ffb 52 ((ofA w.heap.conf r).snd.snd != 0||decide ((↑w.heap.pages.length:Int)≤(ofA w.heap.conf r).fst)) (Fa (@Z1T w ((ofA w.heap.conf r).fst) (by omega) (by omega)) (Fa ‹Z1h w (ofA w.heap.conf r).fst=false› (Fe 86 Page.dv w.heap.pages ((ofA w.heap.conf r).fst) (Ftb 89 ((w.heap.pages.getD (ofA w.heap.conf r).fst.toNat default).kind==2) (Fs 90 (List.map Page.dv []) (Fa (by(simp[*];omega):(List.map Page.dv []).length+(List.map Page.dv w.heap.pages).length≤2^30) (Fs 94 (List.map Page.dv w.heap.pages) (Fi 104 (1-w.heap.space) (Fm0 Page.dv w.heap.pages ((ofA w.heap.conf r).fst) ((ofA w.heap.conf r).fst.toNat) (FS 10106 Page.dv w.heap.pages ((ofA w.heap.conf r).fst.toNat) (Page.mk (w.heap.pages.getD (ofA w.heap.conf r).fst.toNat default).kind (1-w.heap.space) (w.heap.pages.getD (ofA w.heap.conf r).fst.toNat default).used (w.heap.pages.getD (ofA w.heap.conf r).fst.toNat default).pins) ((w.heap.pages.getD (ofA w.heap.conf r).fst.toNat default).dv) (Fi 108 ((ofA w.heap.conf r).fst+1) (Fu (@Zlf w r ((ofA w.heap.conf r).fst) ‹_› (by omega) (by omega)) (Fa (@Zbj (Work.mk (Heap.mk w.heap.conf w.heap.words (Z0F w.heap.pages (ofA w.heap.conf r).fst.toNat (Z0w w.heap.pages (ofA w.heap.conf r).fst.toNat) (1-w.heap.space)) w.heap.space w.heap.bump) w.old w.taken w.queue w.scanned w.rep) r ‹_›) Fz))))))))))))))))))))))))))
end
theorem Z3p(w:Work)(r:Int)(hw:WkOk w)(h0:0≤r∧r≤18446744073709551615):GSpec Tryz.prog 159 [w.av,u64 r] false (.tu [(w.fwd r).1.av,u64 (w.fwd r).2.1,int (w.fwd r).2.2]) []:=by
 unfold Work.fwd
 by_cases c1:r=0∨r∈w.queue
 ·rw[if_pos c1]
  exact ZhQ w r hw h0 c1
 ·rw[if_neg c1]
  have c1':r≠0:=fun h=>c1 (Or.inl h)
  have c2':r∉w.queue:=fun h=>c1 (Or.inr h)
  by_cases c3:r∈w.old
  ·rw[if_neg (by simpa using c3)]
   by_cases c4:(Z0p (loadA w.heap.words r).1).2=true
   ·rw[if_pos c4]
    exact Zho w r hw h0 c1' c2' c3 c4
   ·rw[if_neg c4]
    have c4':(Z0p (loadA w.heap.words r).1).2=false:=by simpa using c4
    by_cases c5:(ofA w.heap.conf r).2.2=0
    ·rw[if_neg (by simpa using c5)]
     by_cases c6:Z1h w (ofA w.heap.conf r).1=true
     ·rw[if_pos c6]
      exact ZfI w r hw h0 c1' c2' c3 c4' c5 c6
     ·rw[if_neg c6]
      have c6':Z1h w (ofA w.heap.conf r).1=false:=by simpa using c6
      by_cases c7:(w.heap.pages.getD (Z1b w r) default).kind=2
      ·rw[if_pos c7]
       exact Zhl w r hw h0 c1' c2' c3 c4' c5 c6' c7
      ·rw[if_neg c7]
       by_cases c8:(w.place (sizeH (hdW w r))).2.2=false
       ·rw[if_pos c8]
        exact ZfK w r hw h0 c1' c2' c3 c4' c5 c6' c7 c8
       ·rw[if_neg c8]
        exact Zgu w r hw h0 c1' c2' c3 c4' c5 c6' c7 (by simpa using c8)
    ·rw[if_pos c5]
     exact ZgP w r hw h0 c1' c2' c3 c4' c5
  ·rw[if_pos c3]
   exact Zh3 w r hw h0 c1' c2' c3
def Z1o(w:Work)(roots:List Int):Nat→Work×List Int
 | 0=>(w,[])
 | k+1=>(((Z1o w roots k).1.fwd (roots.getD k default)).1,(Z1o w roots k).2++[((Z1o w roots k).1.fwd (roots.getD k default)).2.1])
def Z29(w:Work)(roots:List Int)(k:Nat):Int:=((Z1o w roots k).1.fwd (roots.getD k default)).2.2
def rootsF(w:Work)(roots:List Int):Work×List Int×Int:=match (List.range roots.length).find? (fun k=>decide (Z29 w roots k≠0))with
 | none=>((Z1o w roots roots.length).1,(Z1o w roots roots.length).2,0)
 | some k=>(noWork,[],Z29 w roots k)
def rtsL(w:Work)(roots out:List Int)(i:Nat):Tg:=⟨tm 39 [(1,Z02 roots),(2,.pt 8002 0 0),(4,.pt 8004 0 0),(5,.d (.sl 0 [])),(6,int 0),(7,.ow 16007),(8,int i)],[(16007,.arr 39 1 (out.map wdv)),(8004,.box 176 [int 0,int 0,.d (.sl 0 []),.d (.sl 0 []),int 0,int 0,.d (.sl 0 []),.d (.sl 0 []),.d (.sl 0 []),int 0,int 0,int 0,int 0,int 0,int 0,int 0]),(8002,.box 176 w.cells)],60⟩
section
variable (w:Work) (roots out:List Int) (i:Nat) (hw:WkOk w) (hr:0≤roots.getD i default∧roots.getD i default≤18446744073709551615) (hl:roots.length≤1048576) (ho:out.length≤1048576) (hi:i<roots.length)
include hw hr hl ho hi
theorem Ze2(e:(w.fwd (roots.getD i default)).2.2=0):CSpec Tryz.prog (rndF Tryz.f140 0) (rtsL w roots out i).st .nrm (rtsL (w.fwd (roots.getD i default)).1 roots (out++[(w.fwd (roots.getD i default)).2.1]) (i+1)).st:=by
 exact sF [(504036,16007)] [] (Fh 36 [.els (List.map wdv (out++[(w.fwd (roots.getD i default)).snd.fst]))] (Fl 14 wdv roots (Ftb 15 (decide ((↑i:Int)<(↑roots.length:Int))) (Fek 22 wdv roots (↑i) i (Fc 24 (@Z3p w (roots.getD i default) ‹_› ‹_›) (Ffb 29 ((w.fwd (roots.getD i default)).snd.snd != 0) (Fs 35 (List.map wdv [(w.fwd (roots.getD i default)).snd.fst]) (Fa (by(simp[*];omega):(List.map wdv out).length+(List.map wdv [(w.fwd (roots.getD i default)).snd.fst]).length≤2^30) (Fa (by simp[List.map_take,List.map_drop,List.map_set,List.map_append,wdv,idv]:List.map wdv out++List.map wdv [(w.fwd (roots.getD i default)).snd.fst]=List.map wdv (out++[(w.fwd (roots.getD i default)).snd.fst])) (Fx 17 i Fz))))))))))
theorem ZjM(e:¬ (w.fwd (roots.getD i default)).2.2=0):CSpec Tryz.prog (rndF Tryz.f140 0) (rtsL w roots out i).st .ret (Tg.st ⟨tm 39 [(4,.pt 8004 0 0),(5,.d (.sl 0 [])),(6,int (w.fwd (roots.getD i default)).2.2)],[(8004,.box 176 [int 0,int 0,.d (.sl 0 []),.d (.sl 0 []),int 0,int 0,.d (.sl 0 []),.d (.sl 0 []),.d (.sl 0 []),int 0,int 0,int 0,int 0,int 0,int 0,int 0])],60⟩):=by
 exact sF [] [] (Fl 14 wdv roots (Ftb 15 (decide ((↑i:Int)<(↑roots.length:Int))) (Fek 22 wdv roots (↑i) i (Fc 24 (@Z3p w (roots.getD i default) ‹_› ‹_›) (Ftb 29 ((w.fwd (roots.getD i default)).snd.snd != 0) Fz)))))
end
theorem Zme(w:Work)(roots out:List Int):CSpec Tryz.prog (rndF Tryz.f140 0) (rtsL w roots out roots.length).st (.ext 0) (Tg.st ⟨tm 39 [(2,.pt 8002 0 0),(4,.pt 8004 0 0),(7,.ow 16007)],[(16007,.arr 39 1 (out.map wdv)),(8004,.box 176 [int 0,int 0,.d (.sl 0 []),.d (.sl 0 []),int 0,int 0,.d (.sl 0 []),.d (.sl 0 []),.d (.sl 0 []),int 0,int 0,int 0,int 0,int 0,int 0,int 0]),(8002,.box 176 w.cells)],60⟩):=by
 exact sF [] [] (Fl 14 wdv roots (Ffb 15 (decide ((↑roots.length:Int)<(↑roots.length:Int))) Fz))
theorem Z3J(w:Work)(roots:List Int):∀ k,(Z1o w roots k).2.length=k
 | 0=>rfl
 | k+1=>by simp[Z1o,Z3J w roots k]
theorem Z2Y{w:Work}{roots:List Int}(hw:WkOk w):∀ k,(∀ j,j<k→Z29 w roots j=0)→WkOk (Z1o w roots k).1∧(∀ x∈(Z1o w roots k).2,0≤x∧x≤4294967296)∧(Z1o w roots k).1.scanned=w.scanned
 | 0,_=>⟨hw,by simp[Z1o],rfl⟩
 | k+1,h=>by
  have ih:=Z2Y hw k (fun j hj=>h j (by omega))
  have hf:=Zg1 ih.1 (roots.getD k default) (h k (by omega))
  refine⟨hf.1, ?_, ?_⟩
  ·intro x hx
   simp only[Z1o,List.mem_append,List.mem_singleton]at hx
   rcases hx with hx | rfl
   ·exact ih.2.1 x hx
   ·exact⟨hf.2.1,hf.2.2.1⟩
  ·show((Z1o w roots k).1.fwd (roots.getD k default)).1.scanned=w.scanned
   rw[hf.2.2.2.2.1,ih.2.2]
section
variable (w:Work) (roots:List Int) (hw:WkOk w) (hr:ULe roots) (hl:roots.length≤1048575)
include hw hr hl
theorem ZkL(hb:(List.range roots.length).find? (fun k=>decide (Z29 w roots k≠0))=none):CSpec Tryz.prog (blkF Tryz.f140 0) (Tg.st ⟨tm 39 [(1,Z02 roots),(2,.pt 8002 0 0),(4,.pt 8004 0 0),(5,.d (.sl 0 [])),(6,int 0),(7,.ow 16007),(8,int 0)],[(16007,.arr 39 1 []),(8004,.box 176 [int 0,int 0,.d (.sl 0 []),.d (.sl 0 []),int 0,int 0,.d (.sl 0 []),.d (.sl 0 []),.d (.sl 0 []),int 0,int 0,int 0,int 0,int 0,int 0,int 0]),(8002,.box 176 w.cells)],60⟩) .nrm (Tg.st ⟨tm 39 [(2,.pt 8002 0 0),(4,.pt 8004 0 0),(7,.ow 16007)],[(16007,.arr 39 1 ((Z1o w roots roots.length).2.map wdv)),(8004,.box 176 [int 0,int 0,.d (.sl 0 []),.d (.sl 0 []),int 0,int 0,.d (.sl 0 []),.d (.sl 0 []),.d (.sl 0 []),int 0,int 0,int 0,int 0,int 0,int 0,int 0]),(8002,.box 176 (Z1o w roots roots.length).1.cells)],60⟩):=by
 have h0:∀ j,j<roots.length→Z29 w roots j=0:=fun j hj=>by
  have:=List.find?_eq_none.1 hb j (List.mem_range.2 hj)
  simpa using this
 exact Z0c (S:=fun k=>(rtsL (Z1o w roots k).1 roots (Z1o w roots k).2 k).st) roots.length (by kernel_rfl) (fun k hk=>Ze2 _ roots _ k (Z2Y hw k fun j hj=>h0 j (by omega)).1 (Z59 hr k) (by omega) (by rw[Z3J];omega) hk (h0 k hk)) (Zme _ roots _)
theorem Zi2(i:Nat)(hb:(List.range roots.length).find? (fun k=>decide (Z29 w roots k≠0))=some i):CSpec Tryz.prog (blkF Tryz.f140 0) (Tg.st ⟨tm 39 [(1,Z02 roots),(2,.pt 8002 0 0),(4,.pt 8004 0 0),(5,.d (.sl 0 [])),(6,int 0),(7,.ow 16007),(8,int 0)],[(16007,.arr 39 1 []),(8004,.box 176 [int 0,int 0,.d (.sl 0 []),.d (.sl 0 []),int 0,int 0,.d (.sl 0 []),.d (.sl 0 []),.d (.sl 0 []),int 0,int 0,int 0,int 0,int 0,int 0,int 0]),(8002,.box 176 w.cells)],60⟩) .ret (Tg.st ⟨tm 39 [(4,.pt 8004 0 0),(5,.d (.sl 0 [])),(6,int (Z29 w roots i))],[(8004,.box 176 [int 0,int 0,.d (.sl 0 []),.d (.sl 0 []),int 0,int 0,.d (.sl 0 []),.d (.sl 0 []),.d (.sl 0 []),int 0,int 0,int 0,int 0,int 0,int 0,int 0])],60⟩):=by
 obtain⟨h1,h2,h3⟩:=List.find?_range_eq_some.1 hb
 have h2:=List.mem_range.1 h2
 have h0:∀ j,j<i→Z29 w roots j=0:=fun j hj=>by simpa using h3 j hj
 exact Z0Q (S:=fun k=>(rtsL (Z1o w roots k).1 roots (Z1o w roots k).2 k).st) i (by kernel_rfl) (fun k hk=>Ze2 _ roots _ k (Z2Y hw k fun j hj=>h0 j (by omega)).1 (Z59 hr k) (by omega) (by rw[Z3J];omega) (by omega) (h0 k hk)) (ZjM _ roots _ i (Z2Y hw i h0).1 (Z59 hr i) (by omega) (by rw[Z3J];omega) h2 (of_decide_eq_true h1))
theorem Z4R:GSpec Tryz.prog 140 [w.av,Z02 roots] false (.tu [(rootsF w roots).1.av,Z02 (rootsF w roots).2.1,int (rootsF w roots).2.2]) []:=by
 cases hb:(List.range roots.length).find? (fun k=>decide (Z29 w roots k≠0))with
 | none =>
  have e7:rootsF w roots=((Z1o w roots roots.length).1,(Z1o w roots roots.length).2,0):=by rw[rootsF,hb]
  rw[e7]
  exact gF [] Tryz.func140 [] (Fh 7 [.own] (Fu (@ZkL w roots ‹_› ‹_› ‹_› ‹_›) Fz))
 | some i =>
  have e7:rootsF w roots=(noWork,[],Z29 w roots i):=by rw[rootsF,hb]
  rw[e7]
  exact gF [] Tryz.func140 [] (Fh 7 [.own] (Fu (@Zi2 w roots ‹_› ‹_› ‹_› i ‹_›) (Fnl (Fnl (Fnl (Fnl (Fnl (Fnl Fz))))))))
end
def Z1P(h:Header):Nat→List Int
 | 0=>[]
 | i+1=>if Z0m h (i:Int)=true then Z1P h i++[(i:Int)]else Z1P h i
theorem Z6p(h:Header):∀ i,(Z1P h i).length≤i
 | 0=>Nat.le_refl _
 | i+1=>by
  have:=Z6p h i
  simp only[Z1P]
  split<;>simp<;>omega
def Z0g(h:Header):List Int:=if Z0i h=true then Z1P h h.length.toNat else []
def ZhO(h:Header)(i:Nat):Tg:=⟨tm 23 [(1,.pt 8001 0 0),(3,.ow 16003),(4,int i)],[(16003,.arr 3 1 ((Z1P h i).map idv)),(8001,.box 34 [int h.kind,int h.length,u32 h.map])],60⟩
theorem Zh4(h:Header)(i:Nat)(hm:0≤h.map∧h.map≤4294967295)(hv:Z0i h=true)(hb:h.length≤255)(hi:i<h.length):CSpec Tryz.prog (rndF Tryz.f171 0) (ZhO h i).st .nrm (ZhO h (i+1)).st:=by
 have hn:=Z6p h i
 by_cases hp:Z0m h (i:Int)=true
 ·have e:Z1P h (i+1)=Z1P h i++[(i:Int)]:=by rw[Z1P,if_pos hp]
  exact sF [(496021,16003)] [false,false,false,false,false,true] (Fh 17 [.call true (Sx.bool (Z0m h (↑i:Int))) [],.br true] (Fh 21 [.els (List.map idv (Z1P h i++[(↑i:Int)]))] (FcG 11 (decide ((↑i:Int)<h.length)) (fun hg=>by(try simp only[bs]at hg);exact @Z27 h (by(try simp only[bs]at hg);assumption)) (Ft 12 (by simp[*]:(decide ((↑i:Int)<h.length)&&Z0i h)=true) (Fa (@Z2a h ((↑i:Int)) ‹_›) (Fa ‹Z0m h (↑i:Int)=true› (Fs 20 (List.map idv [(↑i:Int)]) (Fa (by(simp[*];omega):(List.map idv (Z1P h i)).length+(List.map idv [(↑i:Int)]).length≤2^30) (Fa (by simp[List.map_take,List.map_drop,List.map_set,List.map_append,wdv,idv]:List.map idv (Z1P h i)++List.map idv [(↑i:Int)]=List.map idv (Z1P h i++[(↑i:Int)])) (Fx 14 i (Fr (3:Int) (Fa (by refine congrArg _ ?_;rw[e]:List.map idv (Z1P h i++[(↑i:Int)])=List.map idv (Z1P h (i+1))) Fz))))))))))))
 ·have e:Z1P h (i+1)=Z1P h i:=by rw[Z1P,if_neg hp]
  have hp':Z0m h (i:Int)=false:=by simpa using hp
  exact sF [] [false,false,false,false,false,true] (Fh 17 [.call true (Sx.bool (Z0m h (↑i:Int))) [],.br false] (FcG 11 (decide ((↑i:Int)<h.length)) (fun hg=>by(try simp only[bs]at hg);exact @Z27 h (by(try simp only[bs]at hg);assumption)) (Ft 12 (by simp[*]:(decide ((↑i:Int)<h.length)&&Z0i h)=true) (Fa (@Z2a h ((↑i:Int)) ‹_›) (Fa ‹Z0m h (↑i:Int)=false› (Fx 14 i (Fr (3:Int) (Fa (by refine congrArg _ ?_;rw[e]:List.map idv (Z1P h i)=List.map idv (Z1P h (i+1))) Fz))))))))
theorem ZgW(h:Header)(i:Nat)(hm:0≤h.map∧h.map≤4294967295)(hi:h.length≤i∨Z0i h=false):CSpec Tryz.prog (rndF Tryz.f171 0) (ZhO h i).st (.ext 0) (Tg.st ⟨tm 23 [(3,.ow 16003)],[(16003,.arr 3 1 ((Z1P h i).map idv))],60⟩):=by
 rcases hi with hi | hi
 ·exact sF [] [] (FcG 11 (decide ((↑i:Int)<h.length)) (fun hg=>by(try simp only[bs]at hg);exact @Z27 h (by(try simp only[bs]at hg);assumption)) (Ffb 12 (decide ((↑i:Int)<h.length)&&Z0i h) Fz))
 ·exact sF [] [] (FcG 11 (decide ((↑i:Int)<h.length)) (fun hg=>by(try simp only[bs]at hg);exact @Z27 h (by(try simp only[bs]at hg);assumption)) (Ff 12 (by simp[*]:(decide ((↑i:Int)<h.length)&&Z0i h)=false) Fz))
theorem ZjF(h:Header)(hm:0≤h.map∧h.map≤4294967295):CSpec Tryz.prog (blkF Tryz.f171 0) (Tg.st ⟨tm 23 [(1,.pt 8001 0 0),(3,.ow 16003),(4,int 0)],[(16003,.arr 3 1 []),(8001,.box 34 [int h.kind,int h.length,u32 h.map])],60⟩) .nrm (Tg.st ⟨tm 23 [(3,.ow 16003)],[(16003,.arr 3 1 ((Z0g h).map idv))],60⟩):=by
 unfold Z0g
 by_cases hv:Z0i h=true
 ·rw[if_pos hv]
  have hb:=validH_iff.1 hv
  exact Z0c (S:=fun i=>(ZhO h i).st) h.length.toNat (by kernel_rfl) (fun i hi=>Zh4 h i hm hv (by omega) (by omega)) (ZgW h _ hm (.inl (by omega)))
 ·rw[if_neg hv]
  exact Z0c (S:=fun i=>(ZhO h i).st) 0 (by kernel_rfl) (fun i hi=>by omega) (ZgW h 0 hm (.inr (by simpa using hv)))
theorem Z6U(h:Header)(hm:0≤h.map∧h.map≤4294967295):GSpec Tryz.prog 171 [h.av] true (.d (.sl 1 ((Z0g h).map idv))) []:=by
 exact gF [] Tryz.func171 [] (Fh 3 [.own] (Fu (@ZjF h ‹_›) (Fa (by exact Ziz _:Z1n (List.map idv (Z0g h))) Fz)))
def Work.in1(w:Work)(a:Int):Work:=⟨⟨(w.fwd (loadA w.heap.words a).1).1.heap.conf,(Z0E (w.fwd (loadA w.heap.words a).1).1.heap.words a (w.fwd (loadA w.heap.words a).1).2.1).1,(w.fwd (loadA w.heap.words a).1).1.heap.pages,(w.fwd (loadA w.heap.words a).1).1.heap.space,(w.fwd (loadA w.heap.words a).1).1.heap.bump⟩,(w.fwd (loadA w.heap.words a).1).1.old,(w.fwd (loadA w.heap.words a).1).1.taken,(w.fwd (loadA w.heap.words a).1).1.queue,(w.fwd (loadA w.heap.words a).1).1.scanned,(w.fwd (loadA w.heap.words a).1).1.rep⟩
def innN(w:Work)(a:Int)(l:List Int):Nat→Work
 | 0=>w
 | k+1=>(innN w a l k).in1 (a+1+l.getD k default)
def innE(w:Work)(a:Int)(l:List Int)(k:Nat):Int:=((innN w a l k).fwd (loadA (innN w a l k).heap.words (a+1+l.getD k default)).1).2.2
def Z2Z(w:Work):Int:=w.queue.getD w.scanned.toNat default
def Z1N(w:Work):List Int:=Z0g (hdW w (Z2Z w))
def ZcO(w:Work)(n:Int):Work:=⟨w.heap,w.old,w.taken,w.queue,w.scanned+1,⟨w.rep.copied,w.rep.kept,w.rep.filled,w.rep.freed,w.rep.cleared,w.rep.steps+1+n⟩⟩
def Z0H(w:Work):Work×Bool×Int :=
 if w.scanned<w.queue.length then
  match (List.range (Z1N w).length).find? (fun k=>decide (innE w (Z2Z w) (Z1N w) k≠0))with
  | none=>(ZcO (innN w (Z2Z w) (Z1N w) (Z1N w).length) (Z1N w).length,true,0)
  | some k=>(noWork,false,innE w (Z2Z w) (Z1N w) k)
 else(w,false,0)
theorem ZlT{w:Work}(hw:WkOk w)(a:Int)(e:(w.fwd (loadA w.heap.words a).1).2.2=0):WkOk (w.in1 a)∧w.queue.length≤(w.in1 a).queue.length∧(w.in1 a).scanned=w.scanned∧(w.in1 a).rep.steps=w.rep.steps:=by
 have hf:=Zg1 hw _ e
 have hl:=ZaV (w.fwd (loadA w.heap.words a).1).1.heap.words a (w.fwd (loadA w.heap.words a).1).2.1
 have hl2:=hf.1.wl
 exact⟨hf.1.withWords (Z7D hf.1.words (by omega) a) (by omega),hf.2.2.2.1,hf.2.2.2.2.1,hf.2.2.2.2.2⟩
theorem Z3Z{w:Work}(hw:WkOk w)(a:Int)(l:List Int):∀ k,(∀ j,j<k→innE w a l j=0)→WkOk (innN w a l k)∧w.queue.length≤(innN w a l k).queue.length∧(innN w a l k).scanned=w.scanned∧(innN w a l k).rep.steps=w.rep.steps
 | 0,_=>⟨hw,Nat.le_refl _,rfl,rfl⟩
 | k+1,h=>by
  have ih:=Z3Z hw a l k (fun j hj=>h j (by omega))
  have hi:=ZlT ih.1 (a+1+l.getD k default) (h k (by omega))
  exact⟨hi.1,Nat.le_trans ih.2.1 hi.2.1,hi.2.2.1.trans ih.2.2.1,hi.2.2.2.trans ih.2.2.2⟩
theorem Z4z(h:Header):∀ i,∀ x∈Z1P h i,0≤x∧x<i
 | 0,x,hx=>by simp[Z1P]at hx
 | i+1,x,hx=>by
  have ih:=Z4z h i
  simp only[Z1P]at hx
  split at hx
  ·rcases List.mem_append.1 hx with hx | hx
   ·have:=ih x hx;omega
   ·simp at hx;omega
  ·have:=ih x hx;omega
theorem Z4A(h:Header):(Z0g h).length≤255∧∀ x∈Z0g h,0≤x∧x≤255:=by
 unfold Z0g
 split
 ·rename_i hv
  have:=validH_iff.1 hv
  have hl:=Z6p h h.length.toNat
  exact⟨by omega,fun x hx=>by have:=Z4z h _ x hx;omega⟩
 ·simp
theorem Zf7(w:Work)(hw:WkOk w)(hs:¬ w.scanned<w.queue.length):GSpec Tryz.prog 160 [w.av] false (.tu [w.av,bool false,int 0]) []:=by
 have h3:=hw.mu
 exact gF [] Tryz.func160 [] (Fl 18 wdv w.queue (Ftb 19 (decide ((↑w.queue.length:Int)≤w.scanned)) Fz))
def stpL(w:Work)(a:Int)(l:List Int)(k:Nat):Tg:=⟨tm 90 [(1,.pt 8001 0 0),(2,.pt 8002 0 0),(3,bool false),(4,int 0),(5,u64 a),(6,Z0T l),(7,int k)],[(8002,.box 176 [int 0,int 0,.d (.sl 0 []),.d (.sl 0 []),int 0,int 0,.d (.sl 0 []),.d (.sl 0 []),.d (.sl 0 []),int 0,int 0,int 0,int 0,int 0,int 0,int 0]),(8001,.box 176 w.cells)],60⟩
section
variable (w:Work) (a:Int) (l:List Int) (k:Nat) (hw:WkOk w) (ha:0≤a∧a≤16384) (hl:l.length≤255) (hr:0≤l.getD k default∧l.getD k default≤255) (hk:k<l.length)
include hw ha hl hr hk
theorem Zeb(e:(w.fwd (loadA w.heap.words (a+1+l.getD k default)).1).2.2=0):CSpec Tryz.prog (rndF Tryz.f160 0) (stpL w a l k).st .nrm (stpL (w.in1 (a+1+l.getD k default)) a l (k+1)).st:=by
 have h1:=hw.wl
 have h2:=Z0P hw.words (a+1+l.getD k default)
 have h3:=Zg1 hw _ e
 have h4:=h3.1.wl
 exact sF [] [] (Fl 33 idv l (Ftb 34 (decide ((↑k:Int)<(↑l.length:Int))) (Fv 38 (a+1) (Fek 41 idv l (↑k) k (Fv 43 (l.getD k default) (Fv 44 (a+1+l.getD k default) (Fc 50 (@Z1K w.heap.words (a+1+l.getD k default) (by omega) (by omega)) (Fc 56 (@Z3p w ((loadA w.heap.words (a+1+l.getD k default)).fst) ‹_› ‹_›) (Ffb 61 ((w.fwd (loadA w.heap.words (a+1+l.getD k default)).fst).snd.snd != 0) (Fc 71 (@Z8k ((w.fwd (loadA w.heap.words (a+1+l.getD k default)).fst).fst.heap.words) (a+1+l.getD k default) ((w.fwd (loadA w.heap.words (a+1+l.getD k default)).fst).snd.fst) (by omega) (by omega)) (Fx 36 k Fz)))))))))))
theorem ZjQ(e:¬ (w.fwd (loadA w.heap.words (a+1+l.getD k default)).1).2.2=0):CSpec Tryz.prog (rndF Tryz.f160 0) (stpL w a l k).st .ret (Tg.st ⟨tm 90 [(2,.pt 8002 0 0),(3,bool false),(4,int (w.fwd (loadA w.heap.words (a+1+l.getD k default)).1).2.2)],[(8002,.box 176 [int 0,int 0,.d (.sl 0 []),.d (.sl 0 []),int 0,int 0,.d (.sl 0 []),.d (.sl 0 []),.d (.sl 0 []),int 0,int 0,int 0,int 0,int 0,int 0,int 0])],60⟩):=by
 have h1:=hw.wl
 have h2:=Z0P hw.words (a+1+l.getD k default)
 exact sF [] [] (Fl 33 idv l (Ftb 34 (decide ((↑k:Int)<(↑l.length:Int))) (Fv 38 (a+1) (Fek 41 idv l (↑k) k (Fv 43 (l.getD k default) (Fv 44 (a+1+l.getD k default) (Fc 50 (@Z1K w.heap.words (a+1+l.getD k default) (by omega) (by omega)) (Fc 56 (@Z3p w ((loadA w.heap.words (a+1+l.getD k default)).fst) ‹_› ‹_›) (Ftb 61 ((w.fwd (loadA w.heap.words (a+1+l.getD k default)).fst).snd.snd != 0) Fz)))))))))
end
theorem ZlC(w:Work)(a:Int)(l:List Int):CSpec Tryz.prog (rndF Tryz.f160 0) (stpL w a l l.length).st (.ext 0) (Tg.st ⟨tm 90 [(1,.pt 8001 0 0),(2,.pt 8002 0 0),(6,Z0T l)],[(8002,.box 176 [int 0,int 0,.d (.sl 0 []),.d (.sl 0 []),int 0,int 0,.d (.sl 0 []),.d (.sl 0 []),.d (.sl 0 []),int 0,int 0,int 0,int 0,int 0,int 0,int 0]),(8001,.box 176 w.cells)],60⟩):=by
 exact sF [] [] (Fl 33 idv l (Ffb 34 (decide ((↑l.length:Int)<(↑l.length:Int))) Fz))
section
variable (w:Work) (a:Int) (l:List Int) (hw:WkOk w) (ha:0≤a∧a≤16384) (hl:l.length≤255) (hr:∀ x∈l,0≤x∧x≤255)
include hw ha hl hr
theorem ZkN(hb:(List.range l.length).find? (fun k=>decide (innE w a l k≠0))=none):CSpec Tryz.prog (blkF Tryz.f160 0) (Tg.st ⟨tm 90 [(1,.pt 8001 0 0),(2,.pt 8002 0 0),(3,bool false),(4,int 0),(5,u64 a),(6,Z0T l),(7,int 0)],[(8002,.box 176 [int 0,int 0,.d (.sl 0 []),.d (.sl 0 []),int 0,int 0,.d (.sl 0 []),.d (.sl 0 []),.d (.sl 0 []),int 0,int 0,int 0,int 0,int 0,int 0,int 0]),(8001,.box 176 w.cells)],60⟩) .nrm (Tg.st ⟨tm 90 [(1,.pt 8001 0 0),(2,.pt 8002 0 0),(6,Z0T l)],[(8002,.box 176 [int 0,int 0,.d (.sl 0 []),.d (.sl 0 []),int 0,int 0,.d (.sl 0 []),.d (.sl 0 []),.d (.sl 0 []),int 0,int 0,int 0,int 0,int 0,int 0,int 0]),(8001,.box 176 (innN w a l l.length).cells)],60⟩):=by
 have h0:∀ j,j<l.length→innE w a l j=0:=fun j hj=>by
  have:=List.find?_eq_none.1 hb j (List.mem_range.2 hj)
  simpa using this
 exact Z0c (S:=fun k=>(stpL (innN w a l k) a l k).st) l.length (by kernel_rfl) (fun k hk=>Zeb _ a l k (Z3Z hw a l k fun j hj=>h0 j (by omega)).1 ha hl (hr _ (getD_mem_iff.2 ⟨k,hk,rfl⟩)) hk (h0 k hk)) (ZlC _ a l)
theorem ZiK(i:Nat)(hb:(List.range l.length).find? (fun k=>decide (innE w a l k≠0))=some i):CSpec Tryz.prog (blkF Tryz.f160 0) (Tg.st ⟨tm 90 [(1,.pt 8001 0 0),(2,.pt 8002 0 0),(3,bool false),(4,int 0),(5,u64 a),(6,Z0T l),(7,int 0)],[(8002,.box 176 [int 0,int 0,.d (.sl 0 []),.d (.sl 0 []),int 0,int 0,.d (.sl 0 []),.d (.sl 0 []),.d (.sl 0 []),int 0,int 0,int 0,int 0,int 0,int 0,int 0]),(8001,.box 176 w.cells)],60⟩) .ret (Tg.st ⟨tm 90 [(2,.pt 8002 0 0),(3,bool false),(4,int (innE w a l i))],[(8002,.box 176 [int 0,int 0,.d (.sl 0 []),.d (.sl 0 []),int 0,int 0,.d (.sl 0 []),.d (.sl 0 []),.d (.sl 0 []),int 0,int 0,int 0,int 0,int 0,int 0,int 0])],60⟩):=by
 obtain⟨h1,h2,h3⟩:=List.find?_range_eq_some.1 hb
 have h2:=List.mem_range.1 h2
 have h0:∀ j,j<i→innE w a l j=0:=fun j hj=>by simpa using h3 j hj
 exact Z0Q (S:=fun k=>(stpL (innN w a l k) a l k).st) i (by kernel_rfl) (fun k hk=>Zeb _ a l k (Z3Z hw a l k fun j hj=>h0 j (by omega)).1 ha hl (hr _ (getD_mem_iff.2 ⟨k,by omega,rfl⟩)) (by omega) (h0 k hk)) (ZjQ _ a l i (Z3Z hw a l i h0).1 ha hl (hr _ (getD_mem_iff.2 ⟨i,h2,rfl⟩)) h2 (of_decide_eq_true h1))
end
theorem Z8i(w:Work)(hw:WkOk w):GSpec Tryz.prog 160 [w.av] false (.tu [(Z0H w).1.av,bool (Z0H w).2.1,int (Z0H w).2.2]) []:=by
 by_cases hs:w.scanned<w.queue.length
 ·have h2:=hw.sc
  have h1:=hw.q _ (getD_mem_iff.2 ⟨w.scanned.toNat,by omega,rfl⟩)
  have h3:=hw.mu
  have h4:=Z2c (loadA w.heap.words (w.queue.getD w.scanned.toNat default)).1 (Z0P hw.words _).1
  have h5:hdW w (w.queue.getD w.scanned.toNat default)=(decodeH (loadA w.heap.words (w.queue.getD w.scanned.toNat default)).1).1:=rfl
  have h6:=Z4A (hdW w (w.queue.getD w.scanned.toNat default))
  rw[← h5]at h4
  unfold Z0H
  rw[if_pos hs]
  cases hb:(List.range (Z1N w).length).find? (fun k=>decide (innE w (Z2Z w) (Z1N w) k≠0))with
  | none =>
   have h0:∀ j,j<(Z1N w).length→innE w (Z2Z w) (Z1N w) j=0:=fun j hj=>by
    have:=List.find?_eq_none.1 hb j (List.mem_range.2 hj)
    simpa using this
   have k1:=Z3Z hw (Z2Z w) (Z1N w) (Z1N w).length h0
   have k2:=k1.1.rs
   have k3:=k1.1.sc
   have k4:=k1.1.mu
   unfold Z1N Z2Z at *
   exact gF [] Tryz.func160 [] (Fl 18 wdv w.queue (Ffb 19 (decide ((↑w.queue.length:Int)≤w.scanned)) (Fe 25 wdv w.queue w.scanned (Fc 29 (@Zel w (w.queue.getD w.scanned.toNat default) ‹_› (by omega)) (Fc 30 (@Z6U (hdW w (w.queue.getD w.scanned.toNat default)) ‹_›) (Fu (@ZkN w (w.queue.getD w.scanned.toNat default) (Z0g (hdW w (w.queue.getD w.scanned.toNat default))) ‹_› ‹_› (by omega) (by grind[ZcO]) ‹_›) (Fi 78 ((innN w (w.queue.getD w.scanned.toNat default) (Z0g (hdW w (w.queue.getD w.scanned.toNat default))) (Z0g (hdW w (w.queue.getD w.scanned.toNat default))).length).scanned+1) (Fi 83 ((innN w (w.queue.getD w.scanned.toNat default) (Z0g (hdW w (w.queue.getD w.scanned.toNat default))) (Z0g (hdW w (w.queue.getD w.scanned.toNat default))).length).rep.steps+1) (Fl 85 idv (Z0g (hdW w (w.queue.getD w.scanned.toNat default))) (Fi 86 ((innN w (w.queue.getD w.scanned.toNat default) (Z0g (hdW w (w.queue.getD w.scanned.toNat default))) (Z0g (hdW w (w.queue.getD w.scanned.toNat default))).length).rep.steps+1+(↑(Z0g (hdW w (w.queue.getD w.scanned.toNat default))).length:Int)) Fz))))))))))
  | some k =>
   unfold Z1N Z2Z at *
   exact gF [] Tryz.func160 [] (Fl 18 wdv w.queue (Ffb 19 (decide ((↑w.queue.length:Int)≤w.scanned)) (Fe 25 wdv w.queue w.scanned (Fc 29 (@Zel w (w.queue.getD w.scanned.toNat default) ‹_› (by omega)) (Fc 30 (@Z6U (hdW w (w.queue.getD w.scanned.toNat default)) ‹_›) (Fu (@ZiK w (w.queue.getD w.scanned.toNat default) (Z0g (hdW w (w.queue.getD w.scanned.toNat default))) ‹_› ‹_› (by omega) (by grind[noWork,noHeap]) k ‹_›) (Fnl (Fnl (Fnl (Fnl (Fnl Fz)))))))))))
 ·have e:Z0H w=(w,false,0):=by rw[Z0H,if_neg hs]
  rw[e]
  exact Zf7 w hw hs
theorem Zew{w:Work}(hw:WkOk w)(e:(Z0H w).2.2=0):WkOk (Z0H w).1∧((Z0H w).2.1=true→(Z0H w).1.scanned=w.scanned+1):=by
 by_cases hs:w.scanned<w.queue.length
 ·unfold Z0H at e ⊢
  rw[if_pos hs]at e ⊢
  cases hb:(List.range (Z1N w).length).find? (fun k=>decide (innE w (Z2Z w) (Z1N w) k≠0))with
  | none =>
   have h0:∀ j,j<(Z1N w).length→innE w (Z2Z w) (Z1N w) j=0:=fun j hj=>by
    have:=List.find?_eq_none.1 hb j (List.mem_range.2 hj)
    simpa using this
   have k1:=Z3Z hw (Z2Z w) (Z1N w) (Z1N w).length h0
   have k2:=k1.1.rs
   have k3:=k1.1.sc
   have k5:=(Z4A (hdW w (Z2Z w))).1
   have k6:=hw.sc
   simp only
   refine⟨⟨k1.1.words,k1.1.wl,k1.1.conf,k1.1.pl,k1.1.sp,k1.1.ol,k1.1.o,k1.1.tk,k1.1.tl,k1.1.q,k1.1.us,k1.1.mu, ?_,k1.1.rk, ?_,k1.1.r0⟩, ?_⟩
   ·simp only[ZcO];omega
   ·simp only[ZcO];unfold Z1N at *;omega
   ·intro _;simp only[ZcO];omega
  | some k =>
   simp only[hb]at e
   have:=(List.find?_range_eq_some.1 hb).1
   simp[e]at this
 ·have e:Z0H w=(w,false,0):=by rw[Z0H,if_neg hs]
  rw[e]
  exact⟨hw,fun h=>by cases h⟩
def itW(w:Work):Nat→Work
 | 0=>w
 | k+1=>(Z0H (itW w k)).1
def bndW(w:Work):Nat:=1000002+w.old.length
def Z37(w:Work)(k:Nat):Bool:=decide ((Z0H (itW w k)).2.2≠0∨(Z0H (itW w k)).2.1=false)
def allF(w:Work):Work×Int:=match (List.range (bndW w)).find? (Z37 w)with
 | none=>(w,0)
 | some k=>if(Z0H (itW w k)).2.2=0 then((Z0H (itW w k)).1,0)else(noWork,(Z0H (itW w k)).2.2)
theorem Z3L{w:Work}(hw:WkOk w):∀ k,(∀ j,j<k→Z37 w j=false)→WkOk (itW w k)∧(itW w k).scanned=w.scanned+k
 | 0,_=>⟨hw,by simp[itW]⟩
 | k+1,h=>by
  have ih:=Z3L hw k (fun j hj=>h j (by omega))
  have hk:=h k (by omega)
  simp only[Z37,decide_eq_false_iff_not,not_or,Decidable.not_not]at hk
  have hs:=Zew ih.1 hk.1
  refine⟨hs.1, ?_⟩
  have:=hs.2 (by simpa using hk.2)
  simp only[itW]
  omega
theorem Z4I{w:Work}(hw:WkOk w):∃ k,(List.range (bndW w)).find? (Z37 w)=some k:=by
 cases hb:(List.range (bndW w)).find? (Z37 w)with
 | some k=>exact⟨k,rfl⟩
 | none =>
  exfalso
  have h0:∀ j,j<1000001→Z37 w j=false:=fun j hj=>by
   have:=List.find?_eq_none.1 hb j (List.mem_range.2 (by unfold bndW;omega))
   simpa using this
  have k:=Z3L hw 1000001 h0
  have h1:=k.1.sc
  have h2:=k.1.mu
  have h3:=hw.sc
  omega
def allL(w:Work):Tg:=⟨tm 21 [(1,.pt 8001 0 0),(2,.pt 8002 0 0),(3,int 0)],[(8002,.box 176 [int 0,int 0,.d (.sl 0 []),.d (.sl 0 []),int 0,int 0,.d (.sl 0 []),.d (.sl 0 []),.d (.sl 0 []),int 0,int 0,int 0,int 0,int 0,int 0,int 0]),(8001,.box 176 w.cells)],60⟩
section
variable (w:Work) (hw:WkOk w)
include hw
theorem Zek(e:(Z0H w).2.2=0)(m:(Z0H w).2.1=true):CSpec Tryz.prog (rndF Tryz.f141 0) (allL w).st .nrm (allL (Z0H w).1).st:=by
 exact sF [] [] (Fc 9 (@Z8i w ‹_›) (Ffb 14 ((Z0H w).snd.snd != 0) (Ffb 19 (!(Z0H w).snd.fst) Fz)))
theorem Zkh(e:(Z0H w).2.2=0)(m:(Z0H w).2.1=false):CSpec Tryz.prog (rndF Tryz.f141 0) (allL w).st .ret (Tg.st ⟨tm 21 [(2,.pt 8002 0 0),(3,int 0)],[(8002,.box 176 (Z0H w).1.cells)],60⟩):=by
 exact sF [] [] (Fc 9 (@Z8i w ‹_›) (Ffb 14 ((Z0H w).snd.snd != 0) (Ftb 19 (!(Z0H w).snd.fst) Fz)))
theorem ZlP(e:¬ (Z0H w).2.2=0):CSpec Tryz.prog (rndF Tryz.f141 0) (allL w).st .ret (Tg.st ⟨tm 21 [(2,.pt 8002 0 0),(3,int (Z0H w).2.2)],[(8002,.box 176 [int 0,int 0,.d (.sl 0 []),.d (.sl 0 []),int 0,int 0,.d (.sl 0 []),.d (.sl 0 []),.d (.sl 0 []),int 0,int 0,int 0,int 0,int 0,int 0,int 0])],60⟩):=by
 exact sF [] [] (Fc 9 (@Z8i w ‹_›) (Ftb 14 ((Z0H w).snd.snd != 0) Fz))
theorem Zlb(k:Nat)(hb:(List.range (bndW w)).find? (Z37 w)=some k)(e:(Z0H (itW w k)).2.2=0):CSpec Tryz.prog (blkF Tryz.f141 0) (Tg.st ⟨tm 21 [(1,.pt 8001 0 0),(2,.pt 8002 0 0),(3,int 0)],[(8002,.box 176 [int 0,int 0,.d (.sl 0 []),.d (.sl 0 []),int 0,int 0,.d (.sl 0 []),.d (.sl 0 []),.d (.sl 0 []),int 0,int 0,int 0,int 0,int 0,int 0,int 0]),(8001,.box 176 w.cells)],60⟩) .ret (Tg.st ⟨tm 21 [(2,.pt 8002 0 0),(3,int 0)],[(8002,.box 176 (Z0H (itW w k)).1.cells)],60⟩):=by
 obtain⟨h1,h2,h3⟩:=List.find?_range_eq_some.1 hb
 have h0:∀ j,j<k→Z37 w j=false:=fun j hj=>by simpa using h3 j hj
 have m:(Z0H (itW w k)).2.1=false:=by
  simp only[Z37,decide_eq_true_eq,e]at h1
  simpa using h1
 exact Z0Q (S:=fun k=>(allL (itW w k)).st) k (by kernel_rfl) (fun j hj=>by
  have hk:=h0 j hj
  simp only[Z37,decide_eq_false_iff_not,not_or,Decidable.not_not]at hk
  exact Zek _ (Z3L hw j fun i hi=>h0 i (by omega)).1 hk.1 (by simpa using hk.2)) (Zkh _ (Z3L hw k h0).1 e m)
theorem ZhY(k:Nat)(hb:(List.range (bndW w)).find? (Z37 w)=some k)(e:¬ (Z0H (itW w k)).2.2=0):CSpec Tryz.prog (blkF Tryz.f141 0) (Tg.st ⟨tm 21 [(1,.pt 8001 0 0),(2,.pt 8002 0 0),(3,int 0)],[(8002,.box 176 [int 0,int 0,.d (.sl 0 []),.d (.sl 0 []),int 0,int 0,.d (.sl 0 []),.d (.sl 0 []),.d (.sl 0 []),int 0,int 0,int 0,int 0,int 0,int 0,int 0]),(8001,.box 176 w.cells)],60⟩) .ret (Tg.st ⟨tm 21 [(2,.pt 8002 0 0),(3,int (Z0H (itW w k)).2.2)],[(8002,.box 176 [int 0,int 0,.d (.sl 0 []),.d (.sl 0 []),int 0,int 0,.d (.sl 0 []),.d (.sl 0 []),.d (.sl 0 []),int 0,int 0,int 0,int 0,int 0,int 0,int 0])],60⟩):=by
 obtain⟨h1,h2,h3⟩:=List.find?_range_eq_some.1 hb
 have h0:∀ j,j<k→Z37 w j=false:=fun j hj=>by simpa using h3 j hj
 exact Z0Q (S:=fun k=>(allL (itW w k)).st) k (by kernel_rfl) (fun j hj=>by
  have hk:=h0 j hj
  simp only[Z37,decide_eq_false_iff_not,not_or,Decidable.not_not]at hk
  exact Zek _ (Z3L hw j fun i hi=>h0 i (by omega)).1 hk.1 (by simpa using hk.2)) (ZlP _ (Z3L hw k h0).1 e)
theorem Z9H:GSpec Tryz.prog 141 [w.av] false (.tu [(allF w).1.av,int (allF w).2]) []:=by
 obtain⟨k,hb⟩:=Z4I hw
 by_cases e:(Z0H (itW w k)).2.2=0
 ·have e7:allF w=((Z0H (itW w k)).1,0):=by rw[allF,hb];simp only[if_pos e]
  rw[e7]
  exact gF [] Tryz.func141 [] (Fu (@Zlb w ‹_› k ‹_› ‹_›) Fz)
 ·have e7:allF w=(noWork,(Z0H (itW w k)).2.2):=by rw[allF,hb];simp only[if_neg e]
  rw[e7]
  exact gF [] Tryz.func141 [] (Fu (@ZhY w ‹_› k ‹_› ‹_›) (Fnl (Fnl (Fnl (Fnl (Fnl Fz))))))
omit hw in
theorem Zll(hw:WkOk w)(e:(allF w).2=0):WkOk (allF w).1:=by
 obtain⟨k,hb⟩:=Z4I hw
 obtain⟨h1,h2,h3⟩:=List.find?_range_eq_some.1 hb
 have h0:∀ j,j<k→Z37 w j=false:=fun j hj=>by simpa using h3 j hj
 unfold allF at e ⊢
 rw[hb]at e ⊢
 simp only at e ⊢
 split at e
 ·rename_i c
  rw[if_pos c]
  exact(Zew (Z3L hw k h0).1 c).1
 ·rename_i c
  exact absurd e c
end
def hlA(ws:List Int)(a:Int):Int:=(decodeH (loadA ws a).1).1.length
theorem Z0d(ws:List Int)(a:Int):0≤hlA ws a∧hlA ws a≤255:=by
 have:=validH_iff.1 (Z2e (loadA ws a).1)
 exact⟨this.2.2.1,this.2.2.2.1⟩
theorem Z1F{ws l:List Int}{a b:Int}(h:4096≤a∧a-4096+l.length≤ws.length)(hb:b<a∨a+l.length≤b):loadA (Z0b ws a l).1 b=loadA ws b:=by
 unfold Z0b
 rw[if_pos h]
 have hl:(spl ws (a-4096).toNat l).length=ws.length:=Z3e (by omega)
 unfold loadA
 simp only[hl]
 split
 ·have:=Z9u (ws:=ws) (l:=l) (i:=(a-4096).toNat) (k:=l.length) (by omega) (Nat.le_refl _) (b-4096).toNat
  rw[Zbr]at this
  rw[List.getD_eq_getElem?_getD,List.getD_eq_getElem?_getD,this]
  by_cases h1:(b-4096).toNat<(a-4096).toNat
  ·rw[if_pos h1]
  ·rw[if_neg h1,if_neg (by omega)]
 ·rfl
theorem Z1B{ws l:List Int}{a b:Int}(h:4096≤a∧a-4096+l.length≤ws.length)(hb:a≤b∧b<a+l.length):loadA (Z0b ws a l).1 b=(l.getD (b-a).toNat 0,0):=by
 unfold Z0b
 rw[if_pos h]
 have hl:(spl ws (a-4096).toNat l).length=ws.length:=Z3e (by omega)
 unfold loadA
 simp only[hl]
 rw[if_pos (by omega)]
 have:=Z9u (ws:=ws) (l:=l) (i:=(a-4096).toNat) (k:=l.length) (by omega) (Nat.le_refl _) (b-4096).toNat
 rw[Zbr]at this
 rw[List.getD_eq_getElem?_getD,List.getD_eq_getElem?_getD,this,if_neg (by omega),if_pos (by omega),show(b-4096).toNat-(a-4096).toNat=(b-a).toNat by omega]
theorem Z2s{ws:List Int}{a v:Int}(h:4096≤a∧a<4096+ws.length):(Z0E ws a v).1.length=ws.length:=by
 unfold Z0E Z0b
 rw[if_pos (by simp;omega)]
 exact Z3e (by simp;omega)
theorem Z0C{ws:List Int}{a b v:Int}(h:4096≤a∧a<4096+ws.length)(hb:b≠a):loadA (Z0E ws a v).1 b=loadA ws b :=
 Z1F (by simp;omega) (by simp;omega)
theorem Z2x{ws:List Int}{a v:Int}(h:4096≤a∧a<4096+ws.length):loadA (Z0E ws a v).1 a=(v,0):=by
 have:=Z1B (ws:=ws) (l:=[v]) (a:=a) (b:=a) (by simp;omega) (by simp;omega)
 rw[Z0E,this]
 simp
theorem Z7N{ws:List Int}{a b n:Int}(hn:1≤n)(ha:4096≤a∧a-4096+n≤ws.length)(hb:4096≤b∧b-4096+n≤ws.length) :
  (moveA ws a b n).1.length=ws.length∧loadA (moveA ws a b n).1 a=((loadA ws b).1,0)∧∀ x,x<a∨a+n≤x→loadA (moveA ws a b n).1 x=loadA ws x:=by
 have e1:Z1c ws b n=((ws.drop (b-4096).toNat).take n.toNat,0):=by rw[Z1c,if_neg (by omega),if_pos hb]
 have e2:moveA ws a b n=Z0b ws a ((ws.drop (b-4096).toNat).take n.toNat):=by rw[moveA,e1];simp
 have hl:((ws.drop (b-4096).toNat).take n.toNat).length=n.toNat:=by simp;omega
 rw[e2]
 refine⟨?_, ?_, ?_⟩
 ·unfold Z0b
  rw[if_pos (by omega)]
  exact Z3e (by omega)
 ·rw[Z1B (by omega) (by omega)]
  congr 1
  unfold loadA
  rw[if_pos (by omega)]
  simp only[List.getD_eq_getElem?_getD,Int.sub_self,Int.toNat_zero]
  rw[List.getElem?_take_of_lt (by omega),List.getElem?_drop]
  simp
 ·intro x hx
  exact Z1F (by omega) (by omega)
theorem ZeQ(a:Int):(decodeH (4*a+2)).1.length=0:=by
 unfold decodeH
 rw[if_neg]
 ·rfl
 ·rintro⟨h1,h2⟩
  unfold Z06 at h1 h2
  split at h2
  ·simp only[Z2f]at h2;omega
  ·simp only at h2;omega
def occP(p:Page):Int:=if p.kind=0 then 0 else p.used
structure Inv (w:Work):Prop where
 L:(w.heap.words.length:Int)=w.heap.conf.pw*w.heap.conf.pg
 r:∀ a∈w.old++w.queue,4096≤a∧a+hlA w.heap.words a<4096+w.heap.words.length
 s:∀ a∈w.old++w.queue,∀ b∈w.old++w.queue,a<b→a+hlA w.heap.words a<b
 f:∀ i:Nat,i<w.heap.pages.length→(w.heap.pages.getD i default).kind=0∨(i:Int)∈w.taken→∀ a∈w.old++w.queue,a+hlA w.heap.words a<4096+i*w.heap.conf.pw+occP (w.heap.pages.getD i default)∨4096+i*w.heap.conf.pw+w.heap.conf.pw≤a
 z:∀ x∈w.old,(w.heap.pages.getD (ofA w.heap.conf x).1.toNat default).kind=2∨hlA w.heap.words x+1≤w.heap.conf.pw
theorem Inv.withWords{w:Work}(h:Inv w){l:List Int}(hl:l.length=w.heap.words.length)(hh:∀ a∈w.old++w.queue,hlA l a≤hlA w.heap.words a):Inv ⟨⟨w.heap.conf,l,w.heap.pages,w.heap.space,w.heap.bump⟩,w.old,w.taken,w.queue,w.scanned,w.rep⟩:=by
 refine⟨?_, ?_, ?_, ?_, ?_⟩
 ·simp only[hl];exact h.L
 ·intro a ha
  have h1:=h.r a ha
  have h2:=hh a ha
  simp only[hl]
  omega
 ·intro a ha b hb hab
  have h1:=h.s a ha b hb hab
  have h2:=hh a ha
  simp only
  omega
 ·intro i hi hc a ha
  have h1:=h.f i hi hc a ha
  have h2:=hh a ha
  simp only at *
  omega
 ·intro x hx
  have h1:=h.z x hx
  have h2:=hh x (List.mem_append_left _ hx)
  simp only at *
  omega
theorem Inv.keep{w:Work}(h:Inv w){r:Int}(hr:r∈w.old):Inv (w.keep r):=by
 have hm:∀ a,a∈w.old++(w.queue++[r])→a∈w.old++w.queue:=by
  intro a ha
  simp only[List.mem_append,List.mem_singleton]at ha ⊢
  rcases ha with ha | ha | rfl
  ·exact Or.inl ha
  ·exact Or.inr ha
  ·exact Or.inl hr
 exact⟨h.L,fun a ha=>h.r a (hm a ha),fun a ha b hb=>h.s a (hm a ha) b (hm b hb),fun i hi hc a ha=>h.f i hi hc a (hm a ha),h.z⟩
theorem Inv.flip{w:Work}(h:Inv w)(i:Nat):Inv (w.flip i):=by
 have hk:∀ j,((Z0F w.heap.pages i (Z0w w.heap.pages i) (1-w.heap.space)).getD j default).kind=(w.heap.pages.getD j default).kind∧((Z0F w.heap.pages i (Z0w w.heap.pages i) (1-w.heap.space)).getD j default).used=(w.heap.pages.getD j default).used:=by
  intro j
  by_cases hj:j<w.heap.pages.length
  ·rw[Z1w hj]
   split
   ·exact⟨rfl,rfl⟩
   ·exact⟨rfl,rfl⟩
  ·rw[List.getD_eq_getElem?_getD,List.getD_eq_getElem?_getD,List.getElem?_eq_none (by rw[Z1v];omega),List.getElem?_eq_none (by omega)]
   exact⟨rfl,rfl⟩
 refine⟨h.L,h.r,h.s, ?_, ?_⟩
 ·intro j hj hc a ha
  simp only[Work.flip,Z1v,occP,hk]at hj hc ha ⊢
  exact h.f j hj hc a ha
 ·intro x hx
  simp only[Work.flip,hk]
  exact h.z x hx
theorem Z52{w:Work}{n:Int}(hw:WkOk w)(hn:1≤n∧n≤w.heap.conf.pw)(h:(w.place n).2.2=true) :
  ∃ (i:Nat) (p:Page) (t:List Int),i<w.heap.pages.length∧((w.heap.pages.getD i default).kind=0∨((i:Int)∈w.taken∧(w.heap.pages.getD i default).kind=1))∧p.kind=1∧p.used=occP (w.heap.pages.getD i default)+n∧occP (w.heap.pages.getD i default)+n≤w.heap.conf.pw∧0≤occP (w.heap.pages.getD i default)∧(∀ x∈t,x∈w.taken∨x=(i:Int))∧(w.place n).2.1=4096+i*w.heap.conf.pw+occP (w.heap.pages.getD i default) ∧
  (w.place n).1=⟨⟨w.heap.conf,w.heap.words,w.heap.pages.set i p,w.heap.space,w.heap.bump⟩,w.old,t,w.queue,w.scanned,w.rep⟩:=by
 have hb:=validB_iff.1 hw.conf
 have hpl:=hw.pl
 by_cases hf:Z4r w n
 ·have e:w.place n=(⟨⟨w.heap.conf,w.heap.words,Z21 w.heap.pages (Z0R w).toNat n,w.heap.space,w.heap.bump⟩,w.old,w.taken,w.queue,w.scanned,w.rep⟩,4096+Z0R w*w.heap.conf.pw+(w.heap.pages.getD (Z0R w).toNat default).used,true):=by rw[Work.place,if_pos hf]
  unfold Z4r at hf
  have hm:=hw.tk _ (Z1x hf.1)
  have hu:=hw.us (Z0R w).toNat (by omega)
  have hk:=hm.2.2
  have hup:occP (w.heap.pages.getD (Z0R w).toNat default)=(w.heap.pages.getD (Z0R w).toNat default).used:=by rw[occP,if_neg (by omega)]
  have hc:(((Z0R w).toNat:Nat):Int)=Z0R w:=by omega
  refine⟨(Z0R w).toNat,⟨(w.heap.pages.getD (Z0R w).toNat default).kind,(w.heap.pages.getD (Z0R w).toNat default).space,(w.heap.pages.getD (Z0R w).toNat default).used+n,(w.heap.pages.getD (Z0R w).toNat default).pins⟩,w.taken,by omega,Or.inr ⟨by rw[hc];exact Z1x hf.1,hk⟩,hk,by rw[hup],by rw[hup];omega,by rw[hup];omega,fun x hx=>Or.inl hx, ?_, ?_⟩
  ·rw[e,hup,hc]
  ·rw[e];rfl
 ·by_cases hg:0≤Z0t w
  ·have e:w.place n=(⟨⟨w.heap.conf,w.heap.words,Z21 (Z2w w) (Z0t w).toNat n,w.heap.space,w.heap.bump⟩,w.old,w.taken++[Z0t w],w.queue,w.scanned,w.rep⟩,4096+Z0t w*w.heap.conf.pw,true):=by rw[Work.place,if_neg hf,if_pos hg]
   obtain⟨f1,f2,f3,f4⟩:=Z2y (h:=⟨w.heap.conf,w.heap.words,w.heap.pages,1-w.heap.space,w.heap.bump⟩) (by have:=hw.sp;simp only;omega) hg
   obtain⟨g1,g2,g3⟩:=Z1z hg
   simp only at f1 f2 f3 f4
   have hi:(Z0t w).toNat<w.heap.pages.length:=by unfold Z0t;omega
   have hk:(w.heap.pages.getD (Z0t w).toNat default).kind=0:=by
    have:=freeK_iff.1 g3 0 (by decide)
    simpa[Z0t]using this
   have hup:occP (w.heap.pages.getD (Z0t w).toNat default)=0:=by rw[occP,if_pos hk]
   have hc:(((Z0t w).toNat:Nat):Int)=Z0t w:=by omega
   have hq:Z21 (Z2w w) (Z0t w).toNat n=w.heap.pages.set (Z0t w).toNat ⟨1,1-w.heap.space,n,0⟩:=by
    unfold Z21
    have e4:(Z2w w).getD (Z0t w).toNat default=⟨1,1-w.heap.space,0,0⟩:=f4
    rw[e4]
    have e1:Z2w w=w.heap.pages.set (Z0t w).toNat ⟨1,1-w.heap.space,0,0⟩:=by
     have:Z2w w=tookP w.heap.pages (Z0t w).toNat 1 ⟨1,1-w.heap.space,0,0⟩ ⟨0,0,0,0⟩:=f1
     rw[this,Z89 hi]
    rw[e1,List.set_set]
    simp
   refine⟨(Z0t w).toNat,⟨1,1-w.heap.space,n,0⟩,w.taken++[Z0t w],hi,Or.inl hk,rfl,by rw[hup];simp,by rw[hup];omega,by rw[hup];decide, ?_, ?_, ?_⟩
   ·intro x hx
    simp only[List.mem_append,List.mem_singleton]at hx
    rcases hx with hx | rfl
    ·exact Or.inl hx
    ·exact Or.inr hc.symm
   ·rw[e,hup,hc];simp
   ·rw[e,hq]
  ·rw[Work.place,if_neg hf,if_neg hg]at h
   simp at h
theorem Z14{i j pw:Int}(h:i<j)(hp:0≤pw):i*pw+pw≤j*pw:=by
 have:=Int.mul_le_mul_of_nonneg_right (show i+1≤j by omega) hp
 rw[Int.add_mul,Int.one_mul]at this
 exact this
theorem Inv.copy{w:Work}(hw:WkOk w)(h:Inv w){r n:Int}(hr:r∈w.old)(hn:n=hlA w.heap.words r+1)(hp:n≤w.heap.conf.pw)(hc:(w.place n).2.2=true):Inv ((w.place n).1.copy r (w.place n).2.1 n):=by
 have hlr:=Z0d w.heap.words r
 obtain⟨i,p,t,h1,h2,h3,h4,h5,h6,h7,h8,e⟩:=Z52 hw ⟨by omega,hp⟩ hc
 have hb:=validB_iff.1 hw.conf
 have hpl:=hw.pl
 have hL:=h.L
 have hio:(i:Int)*w.heap.conf.pw+w.heap.conf.pw≤w.heap.conf.pw*w.heap.conf.pg:=by
  have:=Z14 (i:=i) (j:=w.heap.conf.pg) (pw:=w.heap.conf.pw) (by omega) (by omega)
  rw[Int.mul_comm w.heap.conf.pw];exact this
 have hi0:0≤(i:Int)*w.heap.conf.pw:=Int.mul_nonneg (by omega) (by omega)
 rw[e,h8]
 generalize hu:occP (w.heap.pages.getD i default)=u at *
 generalize ha:4096+(i:Int)*w.heap.conf.pw+u=at'
 have hrr:=h.r r (List.mem_append_left _ hr)
 have hf:=h.f i h1 (by rcases h2 with h2 | h2;exact Or.inl h2;exact Or.inr h2.1)
 rw[hu]at hf
 obtain⟨m1,m2,m3⟩:=Z7N (ws:=w.heap.words) (a:=at') (b:=r) (n:=n) (by omega) (by omega) (by omega)
 have hfr:=hf r (List.mem_append_left _ hr)
 have hne:r≠at':=by omega
 have hsr:4096≤r∧r<4096+(moveA w.heap.words at' r n).1.length:=by omega
 have k1:∀ a∈w.old++w.queue,hlA (Z0E (moveA w.heap.words at' r n).1 r (4*at'+2)).1 a≤hlA w.heap.words a:=by
  intro a hA
  have hfa:=hf a hA
  have hla:=Z0d w.heap.words a
  by_cases hk:a=r
  ·subst hk
   have:hlA (Z0E (moveA w.heap.words at' a n).1 a (4*at'+2)).1 a=0:=by
    unfold hlA
    rw[Z2x hsr]
    exact ZeQ at'
   omega
  ·have:hlA (Z0E (moveA w.heap.words at' r n).1 r (4*at'+2)).1 a=hlA w.heap.words a:=by
    unfold hlA
    rw[Z0C hsr hk,m3 a (by omega)]
   omega
 have k2:hlA (Z0E (moveA w.heap.words at' r n).1 r (4*at'+2)).1 at'=n-1:=by
  have:hlA (Z0E (moveA w.heap.words at' r n).1 r (4*at'+2)).1 at'=hlA w.heap.words r:=by
   unfold hlA
   rw[Z0C hsr (Ne.symm hne),m2]
  omega
 have hlen:(Z0E (moveA w.heap.words at' r n).1 r (4*at'+2)).1.length=w.heap.words.length:=by rw[Z2s hsr,m1]
 have hmem:∀ a,a∈w.old++(w.queue++[at'])→a∈w.old++w.queue∨a=at':=by
  intro a hA
  simp only[List.mem_append,List.mem_singleton]at hA ⊢
  rcases hA with hA | hA | hA
  ·exact Or.inl (Or.inl hA)
  ·exact Or.inl (Or.inr hA)
  ·exact Or.inr hA
 refine⟨?_, ?_, ?_, ?_, ?_⟩
 ·simp only[Work.copy,hlen];exact hL
 ·intro a hA
  simp only[Work.copy,hlen]at hA ⊢
  rcases hmem a hA with hA | rfl
  ·have q1:=h.r a hA
   have q2:=k1 a hA
   omega
  ·rw[k2];omega
 ·intro a hA b hB hab
  simp only[Work.copy]at hA hB ⊢
  rcases hmem a hA with hA' | e1<;>rcases hmem b hB with hB' | e2
  ·have q1:=h.s a hA' b hB' hab
   have q2:=k1 a hA'
   omega
  ·have q1:=hf a hA'
   have q2:=k1 a hA'
   omega
  ·have q1:=hf b hB'
   have q2:=Z0d w.heap.words b
   rw[e1,k2];omega
  ·omega
 ·intro j hj hcj a hA
  simp only[Work.copy,List.length_set]at hj hcj hA ⊢
  by_cases hij:i=j
  ·subst hij
   rw[Z0q h1,if_pos rfl]
   have hup:occP p=u+n:=by rw[occP,if_neg (by omega),h4]
   rw[hup]
   rcases hmem a hA with hA | rfl
   ·have q1:=hf a hA
    have q2:=k1 a hA
    omega
   ·rw[k2];omega
  ·rw[Z0q h1,if_neg hij]at hcj ⊢
   have hcj':(w.heap.pages.getD j default).kind=0∨(j:Int)∈w.taken:=by
    rcases hcj with hcj | hcj
    ·exact Or.inl hcj
    ·rcases h7 _ hcj with q | q
     ·exact Or.inr q
     ·omega
   rcases hmem a hA with hA | rfl
   ·have q1:=h.f j hj hcj' a hA
    have q2:=k1 a hA
    omega
   ·rw[k2]
    have hus:0≤occP (w.heap.pages.getD j default):=by
     have:=hw.us j hj
     unfold occP
     split<;>omega
    by_cases hlt:i<j
    ·have:=Z14 (i:=i) (j:=j) (pw:=w.heap.conf.pw) (by omega) (by omega)
     omega
    ·have:=Z14 (i:=j) (j:=i) (pw:=w.heap.conf.pw) (by omega) (by omega)
     omega
 ·intro x hx
  simp only[Work.copy]at hx ⊢
  have q1:=h.z x hx
  have q2:=k1 x (List.mem_append_left _ hx)
  rw[Z0q h1]
  split
  ·rename_i hxi
   rw[← hxi]at q1
   rcases h2 with h2 | h2<;>omega
  ·omega
structure Ext (w v:Work):Prop where
 c:v.heap.conf=w.heap.conf
 o:v.old=w.old
 q:∀ x∈w.queue,x∈v.queue
 l:∀ x∈w.queue,hlA v.heap.words x=hlA w.heap.words x
theorem Ext.rfl'(w:Work):Ext w w:=⟨rfl,rfl,fun _ h=>h,fun _ _=>rfl⟩
theorem Ext.trans{u v w:Work}(h1:Ext u v)(h2:Ext v w):Ext u w :=
 ⟨h2.c.trans h1.c,h2.o.trans h1.o,fun x hx=>h2.q x (h1.q x hx),fun x hx=>(h2.l x (h1.q x hx)).trans (h1.l x hx)⟩
theorem Z3f(w:Work)(r:Int):sizeH (hdW w r)=hlA w.heap.words r+1:=by
 have hv:Z0i (hdW w r)=true:=Z2e _
 rw[sizeH,if_pos hv]
 rfl
theorem Zif{w:Work}(hw:WkOk w)(h:Inv w){r n:Int}(hr:r∈w.old)(hq:r∉w.queue)(hn:n=hlA w.heap.words r+1)(hp:n≤w.heap.conf.pw)(hc:(w.place n).2.2=true):Ext w ((w.place n).1.copy r (w.place n).2.1 n):=by
 have hlr:=Z0d w.heap.words r
 obtain⟨i,p,t,h1,h2,h3,h4,h5,h6,h7,h8,e⟩:=Z52 hw ⟨by omega,hp⟩ hc
 have hb:=validB_iff.1 hw.conf
 have hpl:=hw.pl
 have hL:=h.L
 have hio:(i:Int)*w.heap.conf.pw+w.heap.conf.pw≤w.heap.conf.pw*w.heap.conf.pg:=by
  have:=Z14 (i:=i) (j:=w.heap.conf.pg) (pw:=w.heap.conf.pw) (by omega) (by omega)
  rw[Int.mul_comm w.heap.conf.pw];exact this
 have hi0:0≤(i:Int)*w.heap.conf.pw:=Int.mul_nonneg (by omega) (by omega)
 rw[e,h8]
 generalize hu:occP (w.heap.pages.getD i default)=u at *
 generalize ha:4096+(i:Int)*w.heap.conf.pw+u=at'
 have hrr:=h.r r (List.mem_append_left _ hr)
 have hf:=h.f i h1 (by rcases h2 with h2 | h2;exact Or.inl h2;exact Or.inr h2.1)
 rw[hu]at hf
 obtain⟨m1,m2,m3⟩:=Z7N (ws:=w.heap.words) (a:=at') (b:=r) (n:=n) (by omega) (by omega) (by omega)
 have hsr:4096≤r∧r<4096+(moveA w.heap.words at' r n).1.length:=by omega
 refine⟨rfl,rfl,fun x hx=>List.mem_append_left _ hx, ?_⟩
 intro x hx
 have hfx:=hf x (List.mem_append_right _ hx)
 have hlx:=Z0d w.heap.words x
 simp only[Work.copy]
 unfold hlA at *
 rw[Z0C hsr (fun q=>hq (q▸hx)),m3 x (by omega)]
theorem Z6q{w:Work}(hw:WkOk w)(h:Inv w)(r:Int)(e:(w.fwd r).2.2=0):Inv (w.fwd r).1∧Ext w (w.fwd r).1:=by
 unfold Work.fwd at e ⊢
 split at e
 ·rename_i c1
  rw[if_pos c1]
  exact⟨h,Ext.rfl' w⟩
 ·rename_i c1
  rw[if_neg c1]
  have c1':r∉w.queue:=fun h=>c1 (Or.inr h)
  split at e
  ·simp at e
  ·rename_i c2
   rw[if_neg c2]
   have c2':r∈w.old:=Decidable.not_not.1 c2
   split at e
   ·rename_i c3
    rw[if_pos c3]
    exact⟨h,Ext.rfl' w⟩
   ·rename_i c3
    rw[if_neg c3]
    split at e
    ·simp at e
    ·rename_i c4
     rw[if_neg c4]
     split at e
     ·rename_i c5
      rw[if_pos c5]
      exact⟨h.keep c2',⟨rfl,rfl,fun x hx=>List.mem_append_left _ hx,fun _ _=>rfl⟩⟩
     ·rename_i c5
      rw[if_neg c5]
      split at e
      ·rename_i c6
       rw[if_pos c6]
       exact⟨(h.flip _).keep c2',⟨rfl,rfl,fun x hx=>List.mem_append_left _ hx,fun _ _=>rfl⟩⟩
      ·rename_i c6
       rw[if_neg c6]
       split at e
       ·simp at e
       ·rename_i c7
        rw[if_neg c7]
        have c7':(w.place (sizeH (hdW w r))).2.2=true:=by simpa using c7
        have hz:=h.z r c2'
        have hp:sizeH (hdW w r)≤w.heap.conf.pw:=by
         rw[Z3f]
         rcases hz with hz | hz
         ·exact absurd hz c6
         ·exact hz
        exact⟨h.copy hw c2' (Z3f w r) hp c7',Zif hw h c2' c1' (Z3f w r) hp c7'⟩
theorem Zle{w:Work}(hw:WkOk w)(h:Inv w){q j:Int}(hq:q∈w.queue)(hj:0≤j∧j<hlA w.heap.words q)(e:(w.fwd (loadA w.heap.words (q+1+j)).1).2.2=0):Inv (w.in1 (q+1+j))∧Ext w (w.in1 (q+1+j)):=by
 obtain⟨i1,x1⟩:=Z6q hw h _ e
 have hq1:=x1.q q hq
 have hl1:=x1.l q hq
 have hr:=i1.r q (List.mem_append_right _ hq1)
 have hs:=i1.s q (List.mem_append_right _ hq1)
 have hin:4096≤q+1+j∧q+1+j<4096+(w.fwd (loadA w.heap.words (q+1+j)).1).1.heap.words.length:=by omega
 have hk:∀ a∈(w.fwd (loadA w.heap.words (q+1+j)).1).1.old++(w.fwd (loadA w.heap.words (q+1+j)).1).1.queue,hlA (Z0E (w.fwd (loadA w.heap.words (q+1+j)).1).1.heap.words (q+1+j) (w.fwd (loadA w.heap.words (q+1+j)).1).2.1).1 a=hlA (w.fwd (loadA w.heap.words (q+1+j)).1).1.heap.words a:=by
  intro a ha
  unfold hlA
  rw[Z0C hin]
  intro hc
  have:=hs a ha (by omega)
  omega
 refine⟨i1.withWords (Z2s hin) (fun a ha=>Int.le_of_eq (hk a ha)),x1.trans ⟨rfl,rfl,fun _ h=>h,fun x hx=>hk x (List.mem_append_right _ hx)⟩⟩
theorem Z4K(h:Header):∀ x∈Z0g h,0≤x∧x<h.length:=by
 unfold Z0g
 split
 ·intro x hx
  have:=Z4z h _ x hx
  omega
 ·simp
theorem Z7f{w:Work}(hw:WkOk w)(h:Inv w){q:Int}(hq:q∈w.queue){l:List Int}(hl:∀ x∈l,0≤x∧x<hlA w.heap.words q):∀ k,k≤l.length→(∀ j,j<k→innE w q l j=0)→Inv (innN w q l k)∧Ext w (innN w q l k)
 | 0,_,_=>⟨h,Ext.rfl' w⟩
 | k+1,hk,he=>by
  have ih:=Z7f hw h hq hl k (by omega) (fun j hj=>he j (by omega))
  have ok:=(Z3Z hw q l k (fun j hj=>he j (by omega))).1
  have hx:=hl _ (getD_mem_iff.2 ⟨k,by omega,rfl⟩)
  have:=Zle ok ih.1 (ih.2.q q hq) (j:=l.getD k default) ⟨hx.1,by rw[ih.2.l q hq];exact hx.2⟩ (he k (by omega))
  exact⟨this.1,ih.2.trans this.2⟩
theorem Zc9{w:Work}(hw:WkOk w)(h:Inv w)(e:(Z0H w).2.2=0):Inv (Z0H w).1∧Ext w (Z0H w).1:=by
 by_cases hs:w.scanned<w.queue.length
 ·have hsc:=hw.sc
  have hq:Z2Z w∈w.queue:=getD_mem_iff.2 ⟨w.scanned.toNat,by omega,rfl⟩
  unfold Z0H at e ⊢
  rw[if_pos hs]at e ⊢
  cases hb:(List.range (Z1N w).length).find? (fun k=>decide (innE w (Z2Z w) (Z1N w) k≠0))with
  | none =>
   have h0:∀ j,j<(Z1N w).length→innE w (Z2Z w) (Z1N w) j=0:=fun j hj=>by
    have:=List.find?_eq_none.1 hb j (List.mem_range.2 hj)
    simpa using this
   obtain⟨k1,k2⟩:=Z7f hw h hq (l:=Z1N w) (Z4K (hdW w (Z2Z w))) (Z1N w).length (Nat.le_refl _) h0
   exact⟨⟨k1.L,k1.r,k1.s,k1.f,k1.z⟩,⟨k2.c,k2.o,k2.q,k2.l⟩⟩
  | some k =>
   simp only[hb]at e
   have:=(List.find?_range_eq_some.1 hb).1
   simp[e]at this
 ·have e:Z0H w=(w,false,0):=by rw[Z0H,if_neg hs]
  rw[e]
  exact⟨h,Ext.rfl' w⟩
theorem Z6B{w:Work}(hw:WkOk w)(h:Inv w):∀ k,(∀ j,j<k→Z37 w j=false)→Inv (itW w k)∧Ext w (itW w k)
 | 0,_=>⟨h,Ext.rfl' w⟩
 | k+1,hh=>by
  have ih:=Z6B hw h k (fun j hj=>hh j (by omega))
  have ok:=(Z3L hw k (fun j hj=>hh j (by omega))).1
  have hk:=hh k (by omega)
  simp only[Z37,decide_eq_false_iff_not,not_or,Decidable.not_not]at hk
  have:=Zc9 ok ih.1 hk.1
  exact⟨this.1,ih.2.trans this.2⟩
theorem Zaa{w:Work}(hw:WkOk w)(h:Inv w)(e:(allF w).2=0):Inv (allF w).1∧Ext w (allF w).1:=by
 obtain⟨k,hb⟩:=Z4I hw
 obtain⟨h1,h2,h3⟩:=List.find?_range_eq_some.1 hb
 have h0:∀ j,j<k→Z37 w j=false:=fun j hj=>by simpa using h3 j hj
 unfold allF at e ⊢
 rw[hb]at e ⊢
 simp only at e ⊢
 split at e
 ·rename_i c
  rw[if_pos c]
  have i1:=Z6B hw h k h0
  have i2:=Zc9 (Z3L hw k h0).1 i1.1 c
  exact⟨i2.1,i1.2.trans i2.2⟩
 ·rename_i c
  exact absurd e c
theorem Z57{w:Work}{roots:List Int}(hw:WkOk w)(h:Inv w):∀ k,(∀ j,j<k→Z29 w roots j=0)→Inv (Z1o w roots k).1∧Ext w (Z1o w roots k).1
 | 0,_=>⟨h,Ext.rfl' w⟩
 | k+1,hh=>by
  have ih:=Z57 hw h k (fun j hj=>hh j (by omega))
  have ok:=(Z2Y (roots:=roots) hw k (fun j hj=>hh j (by omega))).1
  have:=Z6q ok ih.1 (roots.getD k default) (hh k (by omega))
  exact⟨this.1,ih.2.trans this.2⟩
theorem Z2W{w:Work}{roots:List Int}(hw:WkOk w)(h:Inv w)(e:(rootsF w roots).2.2=0):WkOk (rootsF w roots).1∧Inv (rootsF w roots).1∧Ext w (rootsF w roots).1∧(∀ x∈(rootsF w roots).2.1,0≤x∧x≤4294967296)∧(rootsF w roots).2.1.length=roots.length:=by
 unfold rootsF at e ⊢
 cases hb:(List.range roots.length).find? (fun k=>decide (Z29 w roots k≠0))with
 | none =>
  have h0:∀ j,j<roots.length→Z29 w roots j=0:=fun j hj=>by
   have:=List.find?_eq_none.1 hb j (List.mem_range.2 hj)
   simpa using this
  have k1:=Z2Y (roots:=roots) hw roots.length h0
  have k2:=Z57 (roots:=roots) hw h roots.length h0
  exact⟨k1.1,k2.1,k2.2,k1.2.1,Z3J w roots _⟩
 | some k =>
  simp only[hb]at e
  have:=(List.find?_range_eq_some.1 hb).1
  simp[e]at this
theorem Z5D(sp:Int):∀ (l:List Page) (m:Nat),m<Z18 sp l→m<l.length∧(l.getD m default).kind=3∧(l.getD m default).space=sp
 | [],m,h=>by simp[Z18]at h
 | p::l,m,h=>by
  unfold Z18 at h
  split at h
  ·rename_i hp
   cases m with
   | zero=>exact⟨by simp,hp⟩
   | succ m =>
    obtain⟨h1,h2⟩:=Z5D sp l m (by omega)
    exact⟨by simp;omega,by simpa using h2⟩
  ·omega
theorem Z4q{c:Conf}{n:Int}(h:1≤need c n):n≤need c n*c.pw:=by
 unfold need at h ⊢
 split at h
 ·rename_i hc
  rw[if_pos hc]
  have hb:=validB_iff.1 hc.1
  split at h
  ·omega
  ·rename_i hd
   rw[if_neg hd]
   have e:=Int.mul_ediv_add_emod (n+c.pw-1) c.pw
   have l:=Int.emod_lt_of_pos (n+c.pw-1) (b:=c.pw) (by omega)
   rw[Int.mul_comm]at e
   omega
 ·omega
theorem Z6W{h:Heap}(hp:Z03 h=true){j:Nat}(hj:j<h.pages.length)(hk:(h.pages.getD j default).kind=2) :
  1≤need h.conf (h.pages.getD j default).used∧∀ m:Nat,1≤m→(m:Int)<need h.conf (h.pages.getD j default).used→j+m<h.pages.length∧(h.pages.getD (j+m) default).kind=3∧(h.pages.getD (j+m) default).space=(h.pages.getD j default).space:=by
 have hi:=properB_iff.1 hp
 obtain⟨d,_,hc⟩:=Zh2 (by omega) hi.2.2.2.2.2 (by omega) j (by omega) hj
 have ht:=hc.2.2.2.2.2.2.2.2.2.1 hk
 refine⟨ht.1, ?_⟩
 intro m h1 h2
 obtain⟨g1,g2⟩:=Z5D (h.pages.getD j default).space (h.pages.drop (j+1)) (m-1) (by omega)
 have g3:j+m<h.pages.length:=by simp at g1;omega
 refine⟨g3, ?_⟩
 have:(h.pages.drop (j+1)).getD (m-1) default=h.pages.getD (j+m) default:=by
  rw[List.getD_eq_getElem?_getD,List.getD_eq_getElem?_getD,List.getElem?_drop,show j+1+(m-1)=j+m by omega]
 rw[this]at g2
 exact g2
theorem Za4{h:Heap}(hp:Z03 h=true){j:Nat}(hj:j<h.pages.length)(hk:(h.pages.getD j default).kind=1∨(h.pages.getD j default).kind=2):(j:Int)*h.conf.pw+(h.pages.getD j default).used≤h.conf.pw*h.conf.pg:=by
 have po:=Z09 hp
 have pp:=Z0I hp hj
 rcases hk with hk | hk
 ·have:=Z14 (i:=j) (j:=h.conf.pg) (pw:=h.conf.pw) (by omega) (by omega)
  rw[Int.mul_comm h.conf.pg]at this
  omega
 ·obtain⟨t1,t2⟩:=Z6W hp hj hk
  have nu:=Z4q t1
  have hl:(j:Int)+need h.conf (h.pages.getD j default).used≤h.conf.pg:=by
   by_cases h1:need h.conf (h.pages.getD j default).used=1
   ·omega
   ·have:=(t2 (need h.conf (h.pages.getD j default).used-1).toNat (by omega) (by omega)).1
    omega
  have:=Int.mul_le_mul_of_nonneg_right hl (show 0≤h.conf.pw by omega)
  rw[Int.add_mul,Int.mul_comm h.conf.pg]at this
  omega
theorem Z41{h:Heap}(hp:Z03 h=true){i j:Nat}(hij:i<j)(hj:j<h.pages.length)(hk:(h.pages.getD i default).kind=1∨(h.pages.getD i default).kind=2)(hk':(h.pages.getD j default).kind≠3):(i:Int)*h.conf.pw+(h.pages.getD i default).used≤j*h.conf.pw:=by
 have po:=Z09 hp
 have pp:=Z0I hp (show i<h.pages.length by omega)
 rcases hk with hk | hk
 ·have:=Z14 (i:=i) (j:=j) (pw:=h.conf.pw) (by omega) (by omega)
  omega
 ·obtain⟨t1,t2⟩:=Z6W hp (show i<h.pages.length by omega) hk
  have nu:=Z4q t1
  have hl:(i:Int)+need h.conf (h.pages.getD i default).used≤j:=by
   by_cases h1:(i:Int)+need h.conf (h.pages.getD i default).used≤j
   ·exact h1
   ·have:=(t2 (j-i) (by omega) (by omega)).2
    rw[show i+(j-i)=j by omega]at this
    exact absurd this.1 hk'
  have:=Int.mul_le_mul_of_nonneg_right hl (show 0≤h.conf.pw by omega)
  rw[Int.add_mul]at this
  omega
theorem Z7s{c:Conf}{i o:Int}(hv:Z07 c=true)(h1:0≤i∧i<c.pg)(h2:0≤o∧o<c.pw):ofA c (4096+(i*c.pw+o))=(i,o,0):=by
 have hb:=validB_iff.1 hv
 have hs:=Z14 (i:=i) (j:=c.pg) (pw:=c.pw) h1.2 (by omega)
 have h0:0≤i*c.pw:=Int.mul_nonneg h1.1 (by omega)
 rw[Int.mul_comm c.pg]at hs
 unfold ofA
 rw[if_pos hv,if_pos (by omega),show 4096+(i*c.pw+o)-4096=o+i*c.pw by omega,Int.add_mul_ediv_right _ _ (by omega),Int.add_mul_emod_self_right,Int.ediv_eq_zero_of_lt h2.1 h2.2,Int.emod_eq_of_lt h2.1 h2.2]
 simp
structure OnP (h:Heap) (j:Nat) (a:Int):Prop where
 k:(h.pages.getD j default).kind=1∨(h.pages.getD j default).kind=2
 lo:4096+j*h.conf.pw≤a
 hi:a<4096+j*h.conf.pw+h.conf.pw
 of:(ofA h.conf a).1=j
 e:a+hlA h.words a<4096+j*h.conf.pw+(h.pages.getD j default).used
 z:(h.pages.getD j default).kind=2∨hlA h.words a+1≤h.conf.pw
 at':(atH h a).2=0
theorem Zej{h:Heap}{j:Nat}(hp:Z03 h=true)(hj:j<h.pages.length)(hk:(h.pages.getD j default).kind=1∨(h.pages.getD j default).kind=2):∀ (f:Nat) (o:Int) (l:List Int),0≤o→((h.pages.getD j default).kind=2→o=0)→Z2O h j f o=some l →
  (∀ a∈l,OnP h j a∧4096+j*h.conf.pw+o≤a)∧l.Pairwise (fun a b=>a+hlA h.words a<b)
 | 0,o,l,_,_,e=>by simp[Z2O]at e;subst e;simp
 | f+1,o,l,h0,h2,e=>by
  have po:=Z09 hp
  have pp:=Z0I hp hj
  unfold Z2O at e
  have hpg:pg h (j:Int)=h.pages.getD j default:=by simp[pg]
  rw[hpg]at e
  split at e
  ·rename_i ho
   have hop:o<h.conf.pw:=by
    rcases hk with hk | hk
    ·omega
    ·have:=h2 hk;omega
   have ea:adr h j o=4096+(j*h.conf.pw+o):=by
    unfold adr address
    rw[if_pos po.1,if_pos (inB_iff.2 ⟨by omega,by omega,h0,hop⟩)]
   have eo:=Z7s (c:=h.conf) (i:=j) (o:=o) po.1 (by omega) ⟨h0,hop⟩
   split at e
   ·rename_i hat
    have hat':=hat
    rw[ea]at hat'
    have hsz:sizeH (decodeH (loadA h.words (4096+(j*h.conf.pw+o))).1).1=hlA h.words (4096+(j*h.conf.pw+o))+1:=by
     rw[sizeH,if_pos (Z2e _)];rfl
    have hle:=Z0d h.words (4096+(j*h.conf.pw+o))
    have key:((h.pages.getD j default).kind=1→o+(hlA h.words (4096+(j*h.conf.pw+o))+1)≤(h.pages.getD j default).used)∧((h.pages.getD j default).kind=2→hlA h.words (4096+(j*h.conf.pw+o))+1=(h.pages.getD j default).used)∧sizeH (atH h (4096+(j*h.conf.pw+o))).1=hlA h.words (4096+(j*h.conf.pw+o))+1:=by
     unfold atH at hat' ⊢
     rw[if_pos hp]at hat' ⊢
     simp only[eo,hsz,if_true,Int.toNat_natCast]at hat' ⊢
     split at hat'
     ·rename_i g1
      split at hat'
      ·simp at hat'
      ·rename_i g2
       rw[if_pos g1,if_neg g2]
       refine⟨fun hk1=>?_,fun hk2=>?_,hsz⟩
       ·omega
       ·omega
     ·simp at hat'
    have hon:OnP h j (adr h j o):=by
     refine⟨hk, ?_, ?_, ?_, ?_, ?_,hat⟩
     ·rw[ea];omega
     ·rw[ea];omega
     ·rw[ea,eo]
     ·rw[ea]
      rcases hk with hk | hk
      ·have:=key.1 hk;omega
      ·have:=key.2.1 hk;have:=h2 hk;omega
     ·rw[ea]
      rcases hk with hk | hk
      ·have:=key.1 hk;omega
      ·exact Or.inl hk
    split at e
    ·cases e
     simp only[List.mem_singleton,List.pairwise_cons,List.not_mem_nil,List.Pairwise.nil]
     refine⟨?_,by simp⟩
     rintro a rfl
     exact⟨hon,by rw[ea];omega⟩
    ·rename_i hk2
     rw[Option.map_eq_some_iff]at e
     obtain⟨m,hm,rfl⟩:=e
     rw[ea,key.2.2]at hm
     obtain⟨i1,i2⟩:=Zej hp hj hk f _ m (by omega) (fun q=>absurd q hk2) hm
     constructor
     ·intro a ha
      rcases List.mem_cons.1 ha with rfl | ha
      ·exact⟨hon,by rw[ea];omega⟩
      ·have:=i1 a ha
       exact⟨this.1,by omega⟩
     ·rw[List.pairwise_cons]
      refine⟨fun b hb=>?_,i2⟩
      have:=(i1 b hb).2
      rw[ea];omega
   ·cases e
  ·cases e;simp
theorem Z6H{h:Heap}(hp:Z03 h=true):∀ (f i:Nat),i+f=h.pages.length→(Z0v h f i).1.Pairwise (fun a b=>a+hlA h.words a<b)∧∀ a∈(Z0v h f i).1,∃ j,i≤j∧j<h.pages.length∧OnP h j a
 | 0,i,_=>by simp[Z0v]
 | f+1,i,hf=>by
  have ih:=Z6H hp f (i+1) (by omega)
  have hpg:(Z0r h i).1.Pairwise (fun a b=>a+hlA h.words a<b)∧∀ a∈(Z0r h i).1,OnP h i a:=by
   unfold Z0r
   rw[if_pos hp,if_pos (by omega)]
   have hg:pg h (i:Int)=h.pages.getD i default:=by simp[pg]
   rw[hg]
   split
   ·simp
   ·rename_i hk
    cases hw:Z2O h i 256 0 with
    | none=>simp
    | some l =>
     have pp:=Z0I hp (show i<h.pages.length by omega)
     obtain⟨w1,w2⟩:=Zej hp (show i<h.pages.length by omega) (by omega) 256 0 l (by omega) (fun _=>rfl) hw
     exact⟨w2,fun a ha=>(w1 a ha).1⟩
  unfold Z0v
  split
  ·split
   ·simp only
    constructor
    ·rw[List.pairwise_append]
     refine⟨hpg.1,ih.1,fun a ha b hb=>?_⟩
     have o1:=hpg.2 a ha
     obtain⟨j,j1,j2,o2⟩:=ih.2 b hb
     have:=Z41 hp (show i<j by omega) j2 o1.k (by have:=o2.k;omega)
     have:=o1.e
     have:=o2.lo
     omega
    ·intro a ha
     rcases List.mem_append.1 ha with ha | ha
     ·exact⟨i,by omega,by omega,hpg.2 a ha⟩
     ·obtain⟨j,j1,j2,o2⟩:=ih.2 a ha
      exact⟨j,by omega,j2,o2⟩
   ·simp
  ·simp
theorem Z7S{h:Heap}(hp:Z03 h=true):(∀ a∈(Z08 h).1,∃ j,j<h.pages.length∧OnP h j a)∧∀ a∈(Z08 h).1,∀ b∈(Z08 h).1,a<b→a+hlA h.words a<b:=by
 have hs:=Z6H hp h.pages.length 0 (by omega)
 have e:Z01 h=Z0v h h.pages.length 0:=by rw[Z01,if_pos hp]
 rw[← e]at hs
 have h1:∀ a∈(Z08 h).1,∃ j,j<h.pages.length∧OnP h j a:=by
  intro a ha
  obtain⟨j,_,j2,o⟩:=hs.2 a (List.mem_filter.1 ha).1
  exact⟨j,j2,o⟩
 refine⟨h1, ?_⟩
 have hpw:(Z08 h).1.Pairwise (fun a b=>a+hlA h.words a<b):=List.Pairwise.filter _ hs.1
 intro a ha b hb hab
 obtain⟨i,hi,ei⟩:=List.mem_iff_getElem.1 ha
 obtain⟨k,hk,ek⟩:=List.mem_iff_getElem.1 hb
 have hlb:=Z0d h.words b
 rcases Nat.lt_trichotomy i k with q | q | q
 ·have:=List.pairwise_iff_getElem.1 hpw i k hi hk q
  rw[ei,ek]at this
  exact this
 ·subst q;omega
 ·have:=List.pairwise_iff_getElem.1 hpw k i hk hi q
  rw[ei,ek]at this
  omega
theorem Z2X{h:Heap}(hp:Z03 h=true):Inv (beginW h):=by
 have po:=Z09 hp
 have hs:=Z7S hp
 have hq:∀ j,((h.pages.map (begQ (1-h.space))).getD j default).kind=(h.pages.getD j default).kind∧((h.pages.map (begQ (1-h.space))).getD j default).used=(h.pages.getD j default).used:=by
  intro j
  by_cases hj:j<h.pages.length
  ·have:(h.pages.map (begQ (1-h.space))).getD j default=begQ (1-h.space) (h.pages.getD j default):=by simp[List.getD_eq_getElem?_getD,hj]
   rw[this,begQ]
   split
   ·exact⟨rfl,rfl⟩
   ·exact⟨rfl,rfl⟩
  ·rw[List.getD_eq_getElem?_getD,List.getD_eq_getElem?_getD,List.getElem?_eq_none (by simp;omega),List.getElem?_eq_none (by omega)]
   exact⟨rfl,rfl⟩
 refine⟨po.2.2.2.2.2.1, ?_, ?_, ?_, ?_⟩
 ·intro a ha
  simp only[beginW,List.append_nil]at ha ⊢
  obtain⟨j,j1,o⟩:=hs.1 a ha
  have h1:=o.lo
  have h2:=o.e
  have h3:=Za4 hp j1 o.k
  have h4:0≤(j:Int)*h.conf.pw:=Int.mul_nonneg (by omega) (by omega)
  have h5:=po.2.2.2.2.2.1
  omega
 ·intro a ha b hb hab
  simp only[beginW,List.append_nil]at ha hb ⊢
  exact hs.2 a ha b hb hab
 ·intro i hi hc a ha
  simp only[beginW,List.append_nil,List.length_map,List.not_mem_nil,or_false]at hi hc ha ⊢
  rw[(hq i).1]at hc
  have hoc:occP ((h.pages.map (begQ (1-h.space))).getD i default)=0:=by rw[occP,(hq i).1,if_pos hc]
  rw[hoc]
  obtain⟨j,j1,o⟩:=hs.1 a ha
  have hk:=o.k
  have hne:i≠j:=by rintro rfl;omega
  by_cases hlt:i<j
  ·have:=Z14 (i:=i) (j:=j) (pw:=h.conf.pw) (by omega) (by omega)
   have:=o.lo
   omega
  ·have:=Z41 hp (show j<i by omega) hi hk (by omega)
   have:=o.e
   omega
 ·intro x hx
  simp only[beginW]at hx ⊢
  obtain⟨j,j1,o⟩:=hs.1 x hx
  rw[o.of,Int.toNat_natCast,(hq j).1]
  exact o.z
theorem Z36{h:Heap}(hw:WOk h.words)(hp:Z03 h=true):WkOk (beginW h):=by
 have po:=Z09 hp
 have ho:=Z3v h
 have hr:=Z5j h
 have hus:∀ j,j<h.pages.length→0≤((h.pages.map (begQ (1-h.space))).getD j default).used∧((h.pages.map (begQ (1-h.space))).getD j default).used≤1024:=by
  intro j hj
  have pp:=Z0I hp hj
  have:(h.pages.map (begQ (1-h.space))).getD j default=begQ (1-h.space) (h.pages.getD j default):=by simp[List.getD_eq_getElem?_getD,hj]
  rw[this,begQ]
  split
  ·simp only;omega
  ·omega
 refine⟨hw,po.2.2.2.2.2.2.1,po.1,by simp only[beginW,List.length_map];exact po.2.2.2.2.2.2.2.1,po.2.2.2.2.2.2.2.2,by simp only[beginW];omega,hr,by simp[beginW],by simp[beginW],by simp[beginW],by simpa only[beginW,List.length_map]using hus, ?_,by simp[beginW],by simp[beginW],by simp[beginW],by simp[beginW]⟩
 simp only[beginW,muW,List.length_nil]
 have h1:Zcf (Z08 h).1 []≤(Z08 h).1.length:=List.length_filter_le _ _
 have h2:∀ l:List Page,(∀ p∈l,Za8 h.conf.pw p≤64)→Z7t h.conf.pw l≤64*l.length:=by
  intro l
  induction l with
  | nil=>intro _;simp[Z7t]
  | cons p l ih =>
   intro hl
   have:=ih fun q hq=>hl q (List.mem_cons_of_mem _ hq)
   have:=hl p (List.mem_cons_self)
   simp only[Z7t,List.map_cons,List.sum_cons,List.length_cons]at *
   omega
 have h3:=h2 (h.pages.map (begQ (1-h.space))) (by
  intro p hp'
  obtain⟨j,hj,e⟩:=List.mem_iff_getElem.1 hp'
  have:=hus j (by simpa using hj)
  rw[show(h.pages.map (begQ (1-h.space))).getD j default=p by simp only[List.getD_eq_getElem?_getD,List.getElem?_eq_getElem hj,e];rfl]at this
  unfold Za8
  split<;>omega)
 simp only[List.length_map]at h3
 omega
theorem Zj9(h:Heap):¬ (atH h 0).2=0:=by
 unfold atH
 split
 ·have:¬ (ofA h.conf 0).2.2=0:=by
   unfold ofA
   split
   ·rw[if_neg (by omega)]
    simp
   ·simp
  rw[if_neg this];simp
 ·simp
theorem ZlM{h:Heap}(hp:Z03 h=true){i o:Int}(hi:0≤i∧i<h.pages.length)(ho:0≤o∧o<h.conf.pw)(e:(atH h (adr h i o)).2=0):(pg h i).kind=2→o=0∧sizeH (atH h (adr h i o)).1=(pg h i).used:=by
 have hv:=Z09 hp
 have hq:=properB_iff.1 hp
 have ea:adr h i o=4096+(i*h.conf.pw+o):=by
  unfold adr address
  rw[if_pos hv.1,if_pos (by unfold inB;simp;omega)]
 have eo:=Z7s (c:=h.conf) (i:=i) (o:=o) hv.1 (by omega) ho
 rw[← ea]at eo
 unfold atH at e ⊢
 rw[if_pos hp,eo]at e ⊢
 simp only[if_true]at e ⊢
 intro hk
 have hk':(h.pages.getD i.toNat default).kind=2:=hk
 split at e
 ·rename_i h1
  rw[if_pos h1]
  split at e
  ·simp at e
  ·rename_i h2
   rw[if_neg h2]
   simp only[hk',not_or,not_and]at h2
   have:=h2.2
   simp only[true_and,not_or,Classical.not_not,forall_const]at this
   exact⟨this.1,this.2⟩
 ·simp at e
theorem Z91{h:Heap}(hp:Z03 h=true){i:Int}(hi:0≤i∧i<h.pages.length):∀ (f:Nat) (o:Int),0≤o→((pg h i).kind=2→o=0) →
  ((Z2i h i f o).2=true→Z2O h i f o=some ((Z2i h i f o).1.map (·.addr)))∧((Z2i h i f o).2=false→Z2O h i f o=none)
 | 0,o,_,_=>⟨fun _=>rfl,fun h=>by cases h⟩
 | f+1,o,h0,hk=>by
  unfold Z2i Z2O
  by_cases ho:o<(pg h i).used
  ·rw[if_pos ho,if_pos ho]
   by_cases ha:(address h.conf i o).2=0
   ·by_cases hh:(atH h (adr h i o)).2=0
    ·rw[if_pos ⟨ha,hh⟩,if_pos hh]
     have hpw:o<h.conf.pw:=by
      unfold address at ha
      split at ha
      ·split at ha
       ·rename_i hb;unfold inB at hb;simp at hb;omega
       ·simp at ha
      ·simp at ha
     have h2:=ZlM hp hi ⟨h0,hpw⟩ hh
     by_cases hk2:(pg h i).kind=2
     ·rw[if_pos hk2]
      have e:Z2i h i f (o+sizeH (atH h (adr h i o)).1)=([],true):=by
       have:=h2 hk2
       cases f with
       | zero=>rfl
       | succ f=>unfold Z2i;rw[if_neg (by omega)]
      rw[e]
      exact⟨fun _=>rfl,fun h=>by cases h⟩
     ·rw[if_neg hk2]
      have sz:=Z1E (atH h (adr h i o)).1
      obtain⟨i1,i2⟩:=Z91 hp hi f (o+sizeH (atH h (adr h i o)).1) (by omega) (fun h=>absurd h hk2)
      exact⟨fun h=>by rw[i1 h];rfl,fun h=>by rw[i2 h];rfl⟩
    ·rw[if_neg (fun q=>hh q.2),if_neg hh]
     exact⟨fun h=>(by cases h),fun _=>rfl⟩
   ·have e:adr h i o=0:=by
     unfold adr address at *
     split at ha
     ·rename_i hv
      split at ha
      ·simp at ha
      ·rename_i hb;rw[if_pos hv,if_neg hb]
     ·rename_i hv;rw[if_neg hv]
    rw[if_neg (fun q=>ha q.1),if_neg (by rw[e];exact Zj9 h)]
    exact⟨fun h=>(by cases h),fun _=>rfl⟩
  ·rw[if_neg ho,if_neg ho]
   exact⟨fun _=>rfl,fun h=>(by cases h)⟩
theorem Ze8{h:Heap}{i:Int}:∀ {f:Nat} {o:Int},∀ x∈(Z2i h i f o).1,x.hd=(atH h x.addr).1∧(atH h x.addr).2=0∧∃ o,x.addr=adr h i o
 | 0,o,x,hx=>by simp[Z2i]at hx
 | f+1,o,x,hx=>by
  unfold Z2i at hx
  split at hx
  ·split at hx
   ·rename_i h1
    rcases List.mem_cons.1 hx with rfl | hx
    ·exact⟨rfl,h1.2,o,rfl⟩
    ·exact Ze8 x hx
   ·simp at hx
  ·simp at hx
theorem Zc4{h:Heap}{i:Int}:∀ {f:Nat} {o:Int},(Z2i h i f o).1.length≤f
 | 0,o=>by simp[Z2i]
 | f+1,o=>by
  unfold Z2i
  split
  ·split
   ·have:=Zc4 (h:=h) (i:=i) (f:=f) (o:=o+sizeH (atH h (adr h i o)).1)
    simp only[List.length_cons];omega
   ·simp
  ·simp
theorem ZeU{h:Heap}(hp:Z03 h=true){i:Int}(hi:0≤i∧i<h.pages.length):Z0r h i=((Z0L h i).1.map (·.addr),(Z0L h i).2):=by
 have hk:=(Z0I hp (j:=i.toNat) (by omega))
 unfold Z0r Z0L Z2b
 rw[if_pos hp,if_pos hi]
 by_cases h1:(pg h i).kind=0∨(pg h i).kind=3
 ·have e:(if(pg h i).kind=1∨(pg h i).kind=2 then Z2i h i 256 0 else([],true))=([],true):=if_neg (by omega)
  rw[if_pos h1,e]
  rfl
 ·have h2:(pg h i).kind=1∨(pg h i).kind=2:=by
   have:0≤(pg h i).kind∧(pg h i).kind≤3:=⟨hk.2.2.2.2.1,hk.2.2.2.2.2.1⟩
   omega
  rw[if_neg h1,if_pos h2]
  obtain⟨i1,i2⟩:=Z91 hp hi 256 0 (by omega) (fun _=>rfl)
  cases e:(Z2i h i 256 0).2 with
  | true=>rw[i1 e];rfl
  | false=>rw[i2 e];rfl
theorem Z5v(h:Heap)(i:Int):(Z0L h i).1.length≤256:=by
 unfold Z0L Z2b
 split
 ·split
  ·exact Zc4
  ·simp
 ·simp
theorem Z94{h:Heap}{i:Int}:∀ x∈(Z0L h i).1,x.hd=(atH h x.addr).1∧(atH h x.addr).2=0∧∃ o,x.addr=adr h i o:=by
 intro x hx
 unfold Z0L Z2b at hx
 split at hx
 ·split at hx
  ·exact Ze8 x hx
  ·simp at hx
 ·simp at hx
def allR(h:Heap):Nat→Nat→List Found×Int
 | 0,_=>([],0)
 | f+1,i=>if(Z0L h i).2=0 then(if(allR h f (i+1)).2=0 then((Z0L h i).1++(allR h f (i+1)).1,0)else([],(allR h f (i+1)).2))else([],(Z0L h i).2)
def allW(h:Heap):List Found×Int:=if Z03 h=true then allR h h.pages.length 0 else([],1)
theorem Zgf{h:Heap}(hp:Z03 h=true):∀ (f i:Nat),i+f≤h.pages.length→Z0v h f i=((allR h f i).1.map (·.addr),(allR h f i).2)
 | 0,i,_=>rfl
 | f+1,i,hi=>by
  unfold Z0v allR
  rw[ZeU hp (i:=i) (by omega),Zgf hp f (i+1) (by omega)]
  simp only
  split
  ·split
   ·simp
   ·rfl
  ·rfl
theorem Zdr(h:Heap):Z01 h=((allW h).1.map (·.addr),(allW h).2):=by
 unfold Z01 allW
 split
 ·rename_i hp;exact Zgf hp _ _ (by omega)
 ·rfl
theorem Ze7(h:Heap):∀ (f i:Nat),¬ (allR h f i).2=0→(allR h f i).1=[]
 | 0,i,e=>absurd rfl e
 | f+1,i,e=>by
  unfold allR at e ⊢
  split at e
  ·rename_i h1
   rw[if_pos h1]
   split at e
   ·exact absurd rfl e
   ·rename_i h2;rw[if_neg h2]
  ·rename_i h1;rw[if_neg h1]
theorem Zgs{h:Heap}:∀ (f i:Nat),∀ x∈(allR h f i).1,x.hd=(atH h x.addr).1∧(atH h x.addr).2=0
 | 0,i,x,hx=>by simp[allR]at hx
 | f+1,i,x,hx=>by
  unfold allR at hx
  split at hx
  ·split at hx
   ·rcases List.mem_append.1 hx with hx | hx
    ·exact⟨(Z94 x hx).1,(Z94 x hx).2.1⟩
    ·exact Zgs f (i+1) x hx
   ·simp at hx
  ·simp at hx
theorem ZhA{h:Heap}:∀ x∈(allW h).1,x.hd=(atH h x.addr).1∧(atH h x.addr).2=0:=by
 intro x hx
 unfold allW at hx
 split at hx
 ·exact Zgs _ _ x hx
 ·simp at hx
theorem ZdK(h:Heap):∀ (f i:Nat),(allR h f i).1.length≤256*f
 | 0,i=>by simp[allR]
 | f+1,i=>by
  have:=Z5v h i
  have:=ZdK h f (i+1)
  unfold allR
  split
  ·split
   ·simp;omega
   ·simp
  ·simp
theorem Zat(h:Heap):(allW h).1.length≤16384:=by
 unfold allW
 split
 ·rename_i hp
  have:=ZdK h h.pages.length 0
  have:=Z09 hp
  omega
 ·simp
end Go.Proofs.YtjflpmnenhdeeaaGreat
namespace Go.Proofs.YtjflpmnenhdeeaaGreat
open Go.Sx Go.RowKit
theorem ZfQ{h:Heap}{i:Int}(e:(Z2b h i).2=true):Z0L h i=((Z2b h i).1,0):=if_pos e
theorem Zfg{h:Heap}{i:Int}(e:(Z2b h i).2=false):Z0L h i=([],19):=if_neg (by rw[e];simp)
theorem Z79{w00 X:World}(K:Kept (fun _=>False) w00 X){g:Nat}{o:Obj}(hg:w00.heap.size≤g):Kept (fun _=>False) w00 (X.putObj g o):=by
 refine⟨K.os,K.tape,K.output,by rw[World.putObj_size];exact K.size,fun k hk _=>by rw[World.putObj_heap_other (by omega)];exact K.block k hk id,fun k hk=>?_⟩
 have:=K.rows k hk
 unfold rows at this ⊢
 rw[World.putObj_heap_other (by omega)]
 exact this
theorem Zex{w00 X:World}(K:Kept (fun _=>False) w00 X){g:Nat}{cs:Array Value}(hg:w00.heap.size≤g):Kept (fun _=>False) w00 (X.setRow g cs):=by
 refine⟨K.os,K.tape,K.output,by have:=K.size;simp[World.setRow];omega,fun k hk _=>by rw[setRow_other X g k _ (by omega)];exact K.block k hk id,fun k hk=>?_⟩
 have:=K.rows k hk
 unfold rows at this ⊢
 rw[setRow_other X g k _ (by omega)]
 exact this
theorem kept_alloc{w00 X:World}(K:Kept (fun _=>False) w00 X)(o:Obj):Kept (fun _=>False) w00 (X.alloc o):=by
 have hs:=K.size
 refine⟨K.os,K.tape,K.output,by simp;omega,fun k hk _=>by rw[Below.heap_alloc _ _ _ (by omega)];exact K.block k hk id,fun k hk=>?_⟩
 have:=K.rows k hk
 unfold rows at this ⊢
 rw[Below.heap_alloc _ _ _ (by omega)]
 exact this
theorem Zhs{X:World}{l g:Nat}{x y:Option (List Deferred)}(h:X.heap[l]? = some (.deferred x)):rows (X.putObj l (.deferred y)) g=rows X g:=by
 by_cases hg:g=l
 ·subst hg;simp[rows,h,World.putObj_heap_same (Array.getElem?_eq_some_iff.1 h).1]
 ·simp only[rows,World.putObj_heap_other hg]
theorem Zg0{X:World}{l g:Nat}{x y:Loop}(h:X.heap[l]? = some (.loop x)):rows (X.putObj l (.loop y)) g=rows X g:=by
 by_cases hg:g=l
 ·subst hg;simp[rows,h,World.putObj_heap_same (Array.getElem?_eq_some_iff.1 h).1]
 ·simp only[rows,World.putObj_heap_other hg]
theorem Z5I{a:Act}{k:Nat}{v:Value}(h:a.tmps[k]? = some v):a.eval (.tmp k)=v:=by
 show a.tmps.getD k undef=v
 simp[Array.getD_eq_getD_getElem?,h]
theorem Z6N{a:Act}{k d:Nat}{u v:Value}(h:a.tmps[k]? = some v)(hk:d≠k):(a.put (some d) u).tmps[k]? = some v:=by
 show(a.tmps.setIfInBounds d u)[k]? = some v
 rw[Array.getElem?_setIfInBounds_ne hk];exact h
theorem Z5B{a:Act}{d:Nat}{u:Value}(h:d<a.tmps.size):(a.put (some d) u).tmps[d]? = some u:=by
 show(a.tmps.setIfInBounds d u)[d]? = some u
 rw[Array.getElem?_setIfInBounds_self_of_lt h]
theorem Zjn{W:World}{g6:Nat}(c6:W.heap[g6]? = some (.cells #[.slice none 0 0] 85 (0,0)))(prot:List (Nat×Obj))(hp:∀ p∈prot,W.heap[p.1]? = some p.2∧p.1≠g6):LJ g6 prot (fun g=>g=g6) [] W:=by
 have l6:g6<W.heap.size:=(Array.getElem?_eq_some_iff.1 c6).1
 let ρ:Rho:=fun b=>if b=6 then some ⟨some g6,1,1⟩else if b=8020 then some ⟨none,4,0⟩else none
 have hρ:∀ b β,ρ b=some β→(b=6∧β=⟨some g6,1,1⟩)∨(b=8020∧β=⟨none,4,0⟩):=by
  intro b β h
  simp only[ρ]at h
  split at h
  ·cases h;exact .inl ⟨‹_›,rfl⟩
  ·split at h
   ·cases h;exact .inr ⟨‹_›,rfl⟩
   ·cases h
 have hA:∀ g,g=g6↔∃ b β,ρ b=some β∧β.g=some g:=by
  intro g
  constructor
  ·rintro rfl;exact⟨6,_,rfl,rfl⟩
  ·rintro⟨b,β,h,h'⟩
   rcases hρ b β h with⟨_,rfl⟩ | ⟨_,rfl⟩
   ·cases h';rfl
   ·cases h'
 have hg:∀ b β g,ρ b=some β→β.g=some g→b=6∧g=g6:=by
  intro b β g h h'
  rcases hρ b β h with⟨rfl,rfl⟩ | ⟨_,rfl⟩
  ·cases h';exact⟨rfl,rfl⟩
  ·cases h'
 refine⟨ρ,hA,⟨Kept.refl _ _,fun b b' β β' g _ _ q1 q2 q3 q4=>by rw[(hg _ _ _ q1 q3).1,(hg _ _ _ q2 q4).1],fun _ _ _ _ _ _ h=>h,fun b β g q1 q2=>by rw[(hg _ _ _ q1 q2).2];exact l6,fun b β g q1 q2=>.inr ⟨b,β,q1,q2⟩,fun _ h=>h.elim,fun _ h=>h.elim,fun b B q=>?_,fun b hb _=>?_,by decide⟩,⟨1,1,rfl⟩,fun b β h=>?_,fun b β g q1 q2=>?_,fun p hpp=>hp p hpp⟩
 ·simp only[lstH,List.map_nil,hOf]at q
  split at q
  ·rename_i hb
   cases q
   subst hb
   exact⟨_,rfl,rfl,rfl,by simp[big],by simp,.inl ⟨rfl,rfl⟩⟩
  ·split at q
   ·rename_i hb
    cases q
    subst hb
    refine⟨_,rfl,rfl,rfl,g6,_,rfl,c6,rfl,fun i v h=>?_,fun o a v ha hv=>?_⟩
    ·rcases i with _ | i<;>simp at h
     subst h;rfl
    ·rcases o with _ | o<;>simp at ha hv
     subst ha;subst hv
     exact .ow (β:=⟨none,4,0⟩) rfl (Nat.le_refl _) (by simp[big]) (.inl rfl)
   ·cases q
 ·simp only[ρ]
  rw[if_neg (by omega),if_neg (by omega)]
 ·rcases hρ b β h with⟨rfl,_⟩ | ⟨rfl,_⟩<;>simp
 ·obtain⟨rfl,rfl⟩:=hg _ _ _ q1 q2
  rcases hρ _ _ q1 with⟨_,rfl⟩ | ⟨h,_⟩
  ·simp[rows,c6]
  ·omega
theorem Zhg{w00 W:World}{Im Im':Nat→Prop}{v4 v5:Value}{l:List Found}{e:Int}(K:Kept (fun _=>False) w00 W)(h1:∀ g,Im' g→w00.heap.size≤g∧g<W.heap.size)(h4:RelD W Im' (.sl 4 (l.map Found.dv)) v4)(h5:v5 = .int .i64 e) :
  Zfv w00 Im true (.tu [Z13 l,int e]) [] (.tuple #[v4,v5]) W:=by
 subst h5
 refine⟨K,fun _=>none,Im',fun g hg=>.inr (h1 g hg).1,fun g hg=>(h1 g hg).2,fun _ _ _ h=>(by cases h),fun _ _ _ _ _ h=>(by cases h),fun _ _ h=>(by cases h),fun k B h=>(by simp at h),.tu _ _ rfl fun i a v ha hv=>?_⟩
 rcases i with _ | _ | i<;>simp at ha hv
 ·subst ha;subst hv;exact .d h4
 ·subst ha;subst hv;exact .d (.sc _ rfl)
theorem ZjD{h:Heap}{i:Int}(hw:WOk h.words)(hp:Z03 h=true)(hi:0≤i∧i<h.pages.length){w00 w4:World}{Im Im4:Nat→Prop}{a4:Act}{g4 g5 g6:Nat}{u4 u5 p1 p2:Value}
  (K:Kept (fun _=>False) w00 w4) (ha:a4.tmps.size=22) (t4:a4.tmps[4]? = some (.pointer (some ⟨g4,0,none⟩))) (t5:a4.tmps[5]? = some (.pointer (some ⟨g5,0,none⟩))) (t6:a4.tmps[6]? = some (.pointer (some ⟨g6,0,none⟩)))
  (t11:a4.tmps[11]? = some (.func (.func 122) #[] #[p1,p2])) (hd:a4.defers=[]) (l4:w00.heap.size≤g4) (l5:w00.heap.size≤g5) (n45:g4≠g5) (n46:g4≠g6) (n56:g5≠g6) (l6:w00.heap.size≤g6)
  (c4:w4.heap[g4]? = some (.cells #[u4] 85 (0,0))) (c5:w4.heap[g5]? = some (.cells #[u5] 40 (0,0))) (c6:w4.heap[g6]? = some (.cells #[.slice none 0 0] 85 (0,0)))
  (hIm:∀ g,Im4 g→g<w4.heap.size∧g≠g6) (r1:Rel (fun _=>none) w4 Im4 (.rp h.dvs 0) p1) (r2:Rel (fun _=>none) w4 Im4 (.rp [dint i] 0) p2) {Q:Exit→Act→World→Prop}
  (hQ:bodyPostM Fence.wide 10 Tryz.prog Tryz.f47 (fun e w'=>∃ v,e=Ending.returned v∧Zfv w00 Im true (AV.tu [Z13 (Z0L h i).1,int (Z0L h i).2]) [] v w')=Q) :
  (blkF Tryz.f47 0).wpIn Fence.wide 10 Tryz.prog (Exit.then ((Code.seq (.region 8 (rgO Tryz.f47 8) false) .ret).wpIn Fence.wide 10 Tryz.prog Q) Q) a4 w4:=by
 have hs4:=K.size
 rw[show blkF Tryz.f47 0 = .block 0 (.rangeFunc (.tmp 11) #[12,13] (asgF Tryz.f47 0) (bodF Tryz.f47 0))from by kernel_rfl]
 refine wpIn_block (wpIn_rangeFunc ?_)
 intro fn hfn
 have q4:g4<w4.heap.size:=(Array.getElem?_eq_some_iff.1 c4).1
 have q5:g5<w4.heap.size:=(Array.getElem?_eq_some_iff.1 c5).1
 have q6:g6<w4.heap.size:=(Array.getElem?_eq_some_iff.1 c6).1
 obtain⟨D,hD⟩:∃ D,w4.heap.size=D:=⟨_,rfl⟩
 obtain⟨W1,hW1⟩:∃ W1,(w4.alloc (.deferred (some []))).alloc (recV Tryz.f47 fn a4.tmps D .ready none)=W1:=⟨_,rfl⟩
 have old:∀ {g:Nat},g<D→W1.heap[g]? = w4.heap[g]? := fun {g} hg=>by
  rw[← hW1,Below.heap_alloc _ _ _ (by simp;omega),Below.heap_alloc _ _ _ (by omega)]
 have atD:W1.heap[D]? = some (.deferred (some [])):=by
  rw[← hW1,Below.heap_alloc _ _ _ (by simp;omega),← hD];exact World.alloc_heap_new _ _
 have atL:W1.heap[D+1]? = some (recV Tryz.f47 fn a4.tmps D .ready none):=by
  have:=World.alloc_heap_new (w4.alloc (.deferred (some []))) (recV Tryz.f47 fn a4.tmps D .ready none)
  rw[World.size_alloc,hD]at this
  rw[← hW1];exact this
 have z1:W1.heap.size=D+2:=by rw[← hW1];simp;omega
 have K1:Kept (fun _=>False) w00 W1:=by rw[← hW1];exact kept_alloc (kept_alloc K _) _
 have E1:Sx.Ext Im4 w4 W1:=⟨by omega,fun g hg=>old (by have:=(hIm g hg).1;omega),fun g hg=>by unfold rows;rw[old (by omega)]⟩
 have J0:LK w00 g6 [(D+1,recV Tryz.f47 fn a4.tmps D .ready none),(D,.deferred (some [])),(g4,.cells #[u4] 85 (0,0)),(g5,.cells #[u5] 40 (0,0))] (fun g=>g=g6) [] W1:=by
  refine⟨Zjn (by rw[old (by omega)];exact c6) _ fun p hpp=>?_,K1,fun g hg=>by omega⟩
  simp only[List.mem_cons,List.not_mem_nil,or_false]at hpp
  rcases hpp with rfl | rfl | rfl | rfl
  ·exact⟨atL,by show D+1≠g6;omega⟩
  ·exact⟨atD,by show D≠g6;omega⟩
  ·exact⟨by rw[old (by show g4<D;omega)];exact c4,n46⟩
  ·exact⟨by rw[old (by show g5<D;omega)];exact c5,n56⟩
 have RR:=Zks (w00:=w00) (fn:=fn) (a0:=a4.tmps) (D:=D) (l:=D+1) (n:=8) (g4:=g4) (g5:=g5) (g6:=g6) (u4:=u4) (u5:=u5) ha t4 t5 t6 n45 l4 l5 (by omega)
 have v11:=Z5I t11
 refine⟨D+1,[{ target:=.collected D,args := #[] }],W1,{ target:=.fn (.func 122) #[p1,p2],args := #[Z24 (D+1)] },W1,122,#[Z24 (D+1)] ++ #[p1,p2],W1, ?_, ?_,fun _ _=>trivial, ?_,fun _=>by decide, ?_⟩
 ·rw[← hW1,← hD];exact run_enterLoop_outer _ _ _ _ _
 ·simp[resolve,t11,Deferred.ofValue,rangeCall,Z24,go_sem]
 ·have:=Z26 (P:=Tryz.prog) (f:=122) (by kernel_rfl) (#[Z24 (D+1)] ++ #[p1,p2]) W1
  simp[invoke,go_sem]at this ⊢ <;> exact this
 ·refine(Zkg h i (D+1) 8 hw hp hi RR (Im:=Im4) (fun g hg=>⟨by have:=(hIm g hg).1;omega,(hIm g hg).2⟩) (r1.mono E1 (fun _ h=>h) (fun _ _ h=>h) (fun _ _ _ h=>nomatch h)) (r2.mono E1 (fun _ h=>h) (fun _ _ h=>h) (fun _ _ _ h=>nomatch h)) J0).mono ?_
  rintro e W2 ⟨⟨v,rfl⟩,hh⟩
  rcases hh with⟨e1,A,J2⟩ | ⟨e1,x1,x2,x3,x4,x5⟩
  ·obtain⟨sv,s1,s2,s3,Im',s4,s5⟩:=Zi7 J2
   obtain⟨⟨ρ,_,_,_,_,_,hpp⟩,K2,hge⟩:=J2
   have pl:=hpp (D+1,recV Tryz.f47 fn a4.tmps D .ready none) (by simp)
   have pD:=hpp (D,.deferred (some [])) (by simp)
   have p4:=hpp (g4,.cells #[u4] 85 (0,0)) (by simp)
   have p5:=hpp (g5,.cells #[u5] 40 (0,0)) (by simp)
   have n6:∀ {g:Nat},¬ A g→g6≠g:=fun hg e=>hg (e▸s3)
   refine⟨none,_,run_endLoop pl.1 (by simp), ?_⟩
   show(Code.seq (.region 8 (rgO Tryz.f47 8) false) .ret).wpIn Fence.wide 10 Tryz.prog Q { tmps:=a4.tmps,defers:=[{ target:=.collected D,args := #[] }]++a4.defers } _
   rw[hd]
   generalize hW3:W2.putObj (D+1) _=W3
   have o3:∀ {g:Nat},g≠D+1→W3.heap[g]? = W2.heap[g]? := fun {g} hg=>by rw[← hW3];exact World.putObj_heap_other hg
   have K3:Kept (fun _=>False) w00 W3:=by rw[← hW3];exact Z79 K2 (by omega)
   have z3:W3.heap.size=W2.heap.size:=by rw[← hW3];exact World.putObj_size
   have d6:W3.heap[g6]? = some (.cells #[sv] 85 (0,0)):=by rw[o3 (n6 pl.2)];exact s1
   have d4:W3.heap[g4]? = some (.cells #[u4] 85 (0,0)):=by rw[o3 (by omega)];exact p4.1
   have d5:W3.heap[g5]? = some (.cells #[u5] 40 (0,0)):=by rw[o3 (by omega)];exact p5.1
   have dD:W3.heap[D]? = some (.deferred (some [])):=by rw[o3 (by omega)];exact pD.1
   refine wpIn_seq (wpIn_region ?_)
   rw[show List.range (rgO Tryz.f47 8).size=[0,1,2]from by kernel_rfl]
   refine Z2o (o:=(rgO Tryz.f47 8).getD 0 default) (by kernel_rfl) (by kernel_rfl) (Z2J (ro:=none) (by intro c h;cases h) (Z66 (Zky (t:=85) (x:=.tmp 6) (by kernel_rfl) (Z5I t6) d6 s2 (by kernel_rfl)) ?_))
   have e4:(W3.setRow g4 #[sv]).heap[g4]? = some (.cells #[sv] 85 (0,0)):=setRow_self d4
   have f5:(W3.setRow g4 #[sv]).heap[g5]? = some (.cells #[u5] 40 (0,0)):=by rw[setRow_other W3 g4 g5 _ n45.symm];exact d5
   refine Z2o (o:=(rgO Tryz.f47 8).getD 1 default) (by kernel_rfl) (by kernel_rfl) (Z2J (ro:=none) (by intro c h;cases h) (Z4P (Z76 (t:=85) (x:=.tmp 4) (y:=.tmp 21) (v:=sv) (by kernel_rfl) (Z5I (Z6N t4 (by decide))) (Z5I (Z5B (by show 21<a4.tmps.size;omega))) d4 s2 (by kernel_rfl)) ?_))
   refine Z2o (o:=(rgO Tryz.f47 8).getD 2 default) (by kernel_rfl) (by kernel_rfl) (Z2J (ro:=none) (by intro c h;cases h) (Z4P (Z76 (t:=40) (x:=.tmp 5) (y:=.const (.int .i64 0)) (v:=.int .i64 0) (by kernel_rfl) (Z5I (Z6N t5 (by decide))) rfl f5 rfl (by kernel_rfl)) ?_))
   generalize hW5:(W3.setRow g4 #[sv]).setRow g5 #[.int .i64 0]=W5
   have o5:∀ {g:Nat},g≠g4→g≠g5→W5.heap[g]? = W3.heap[g]? := fun {g} h k=>by
    rw[← hW5,setRow_other _ g5 g _ k,setRow_other _ g4 g _ h]
   have m4:g4≠D:=by omega
   have m5:g5≠D:=by omega
   have K5:Kept (fun _=>False) w00 W5:=by rw[← hW5];exact Zex (Zex K3 l4) l5
   have z5:W5.heap.size=W2.heap.size:=by rw[← hW5,← z3];simp[World.setRow]
   refine wpIn_ret ?_
   show Q .ret _ W5
   rw[← hQ,ZfQ e1]
   refine ZaU (g4:=g4) (g5:=g5) (v4:=sv) (v5:=.int .i64 0) (Z5I (a := { tmps:=_,defers:=[] }) (Z6N t4 (by decide))) (Z5I (a := { tmps:=_,defers:=[] }) (Z6N t5 (by decide))) ?_ ?_ s2 rfl ?_ ⟨_,rfl,Zhg (Im':=Im') (Z79 K5 (by omega)) (fun g hg=>?_) (s5.mono ⟨?_,fun g hg=>?_,fun g hg=>?_⟩ (fun _ h=>h)) rfl⟩
   ·rw[← hW5,setRow_other _ g5 g4 _ n45];exact e4
   ·rw[← hW5];exact setRow_self f5
   ·rw[o5 m4.symm m5.symm];exact dD
   ·have:=(s4 g hg).2
    have:=hge g (s4 g hg).1
    rw[World.putObj_size];omega
   ·rw[World.putObj_size];omega
   ·have hA:=(s4 g hg).1
    have ne:∀ {k:Nat},¬ A k→g≠k:=fun hk e=>hk (e▸hA)
    rw[World.putObj_heap_other (ne pD.2),o5 (ne p4.2) (ne p5.2),o3 (ne pl.2)]
   ·rw[Zhs (by rw[o5 m4.symm m5.symm];exact dD),← hW5,Z1I _ g5 #[u5] #[.int .i64 0] _ f5 rfl,Z1I _ g4 #[u4] #[sv] _ d4 rfl,← hW3,Zg0 pl.1]
  ·refine⟨some .ret,_,run_endLoop x1 (by simp), ?_⟩
   refine wpIn_ret ?_
   show Q .ret { tmps:=a4.tmps,defers:=[{ target:=.collected D,args := #[] }]++a4.defers } _
   rw[hd,← hQ,Zfg e1]
   refine ZaU (g4:=g4) (g5:=g5) (v4:=.slice none 0 0) (v5:=.int .i64 19) (Z5I (a := { tmps:=_,defers:=[] }) t4) (Z5I (a := { tmps:=_,defers:=[] }) t5) ?_ ?_ rfl rfl ?_ ⟨_,rfl,Zhg (Im':=fun _=>False) (Z79 (Z79 x5 (by omega)) (by omega)) (fun _ h=>h.elim) (.slNil _ _ _) rfl⟩
   ·rw[World.putObj_heap_other (by omega)];exact x3
   ·rw[World.putObj_heap_other (by omega)];exact x4
   ·rw[World.putObj_heap_other (by omega)];exact x2
theorem Z9e(h:Heap)(i:Int)(hw:WOk h.words)(hp:Z03 h=true)(hi:0≤i∧i<h.pages.length):GSpec Tryz.prog 47 [h.av,int i] true (.tu [Z13 (Z0L h i).1,int (Z0L h i).2]) []:=by
 intro w00 Im vs hIm hsz hargs
 rw[← callsIn_wide (n:=10)]
 refine callsIn_of_wp_marks Tryz.func47 (c:=bdyF Tryz.f47) (by kernel_rfl) trivial ?_ rfl
 have S0:Sx.Sys (fun _=>False) Im w00 (tm 22 [(0,h.av),(1,int i)]) (hOf []) 1 { tmps:=vs++Array.replicate (Tryz.f47.ntmps-vs.size) undef,defers:=[] } w00:=by
  have hs2:vs.size=2:=hsz
  refine⟨_,Im,Sx.Inv.empty hIm (Nat.le_refl 1),⟨by rw[hs2];simp[hs2];kernel_rfl,fun k y v hy hv=>?_,rfl⟩⟩
  rw[show tm 22 [(0,h.av),(1,int i)]=[h.av,int i]++List.replicate 20 .any from by kernel_rfl,List.getElem?_append]at hy
  rw[Array.getElem?_append]at hv
  split at hy
  ·rename_i hk
   rw[if_pos (by rw[hsz];exact hk)]at hv
   exact hargs k y v hy hv
  ·have:=List.mem_of_getElem? hy
   rw[(List.mem_replicate.1 this).2]
   exact .any _
 generalize hR:(fun e w'=>∃ v,e=Ending.returned v∧Zfv w00 Im true (AV.tu [Z13 (Z0L h i).1,int (Z0L h i).2]) [] v w')=R
 generalize hQ:bodyPostM Fence.wide 10 Tryz.prog Tryz.f47 R=Q
 refine ZkB h i 10 Q _ _ _ _ _ S0 ?_
 rintro a1 w1 ⟨ρ1,Im1,I1,T1⟩
 obtain⟨v2,t2,r2⟩:=T1.at (t:=2) (x:=.pt 8002 0 0) rfl
 obtain⟨v4,t4,r4⟩:=T1.at (t:=4) (x:=.pt 8004 0 0) rfl
 obtain⟨v5,t5,r5⟩:=T1.at (t:=5) (x:=.pt 8005 0 0) rfl
 obtain⟨β2,m2,n2⟩:=I1.blk 8002 _ rfl
 obtain⟨β4,m4,n4⟩:=I1.blk 8004 _ rfl
 obtain⟨β5,m5,n5⟩:=I1.blk 8005 _ rfl
 have rp2:Rel (fun _=>none) w1 (fun g=>Im1 g∨β2.g=some g) (.rp h.dvs 0) v2:=Z6o m2 n2 r2 (fun _ h=>.inl h) (fun _ h=>.inr h)
 obtain⟨g4,s4,k4,e4,rfl⟩:=Z2K r4
 obtain⟨g5,s5,k5,e5,rfl⟩:=Z2K r5
 rw[m4]at e4;cases e4
 rw[m5]at e5;cases e5
 have h45:g4≠g5:=by
  rintro rfl
  have:=I1.inj 8004 8005 _ _ g4 ⟨_,rfl,by simp⟩ ⟨_,rfl,by simp⟩ m4 m5 rfl rfl
  omega
 have l4:w00.heap.size≤g4:=(I1.own 8004 _ g4 m4 rfl).elim (·.1) (fun h=>h.elim)
 have l5:w00.heap.size≤g5:=(I1.own 8005 _ g5 m5 rfl).elim (·.1) (fun h=>h.elim)
 have cell:∀ {β:Bi} {ty g:Nat} {x:AV},RelB ρ1 w1 Im1 β (.box ty [x])→β.g=some g→∃ u,w1.heap[g]? = some (.cells #[u] ty (0,0)):=by
  intro β ty g x hb hg
  obtain⟨_,_,g',cs,q1,q2,q3,_⟩:=hb
  rw[hg]at q1;cases q1
  have hc:cs.size=1:=q3
  exact⟨cs[0],by
   have:cs = #[cs[0]]:=by
    apply Array.ext
    ·simp[hc]
    ·intro k hk _
     rcases k with _ | k
     ·rfl
     ·omega
   rw[← this];exact q2⟩
 obtain⟨u4,c4⟩:=cell n4 rfl
 obtain⟨u5,c5⟩:=cell n5 rfl
 have er:rest Tryz.prog 10 1 (bdyF Tryz.f47) Q a1 w1=(Code.region 1 (rgO Tryz.f47 1) false).wpIn Fence.wide 10 Tryz.prog (Exit.then ((Code.seq (.seq (.region 2 (rgO Tryz.f47 2) false) (blkF Tryz.f47 0)) (.seq (.region 8 (rgO Tryz.f47 8) false) .ret)).wpIn Fence.wide 10 Tryz.prog Q) Q) a1 w1:=by kernel_rfl
 rw[er]
 refine wpIn_region ?_
 rw[show List.range (rgO Tryz.f47 1).size=[0]from by kernel_rfl]
 refine Z2o (o:=(rgO Tryz.f47 1).getD 0 default) (by kernel_rfl) (by kernel_rfl) (Z2J (ro:=none) (by intro c h;cases h) (Z66 (Zid (t:=85) (z:=.slice none 0 0) (by kernel_rfl) (by kernel_rfl)) ?_))
 show(Code.seq (.seq (.region 2 (rgO Tryz.f47 2) false) (blkF Tryz.f47 0)) (.seq (.region 8 (rgO Tryz.f47 8) false) .ret)).wpIn Fence.wide 10 Tryz.prog Q (a1.put (some 6) (.pointer (some ⟨w1.heap.size,0,none⟩))) (w1.alloc (.cells #[.slice none 0 0] 85))
 obtain⟨w2,hw2⟩:∃ w2,w1.alloc (.cells #[.slice none 0 0] 85)=w2:=⟨_,rfl⟩
 rw[hw2]
 obtain⟨g6,hg6⟩:∃ g6,w1.heap.size=g6:=⟨_,rfl⟩
 rw[hg6]
 have E2:Sx.Ext (fun g=>Im1 g∨β2.g=some g) w1 w2:=by
  rw[← hw2]
  refine Sx.Ext.alloc _ w1 _ ?_
  rintro g (hg | hg)
  ·exact I1.imb g hg
  ·exact I1.bnd _ _ g m2 hg
 have z2:w2.heap.size=w1.heap.size+1:=by rw[← hw2];simp
 have K2:Kept (fun _=>False) w1 w2:=by
  rw[← hw2]
  exact⟨rfl,rfl,rfl,by simp,fun k hk _=>Below.heap_alloc _ _ _ hk,fun k hk=>by simp only[rows];rw[Below.heap_alloc _ _ _ hk]⟩
 have c6:w2.heap[g6]? = some (.cells #[.slice none 0 0] 85 (0,0)):=by rw[← hw2,← hg6];exact World.alloc_heap_new _ _
 have T2:RelT (fun _=>none) w2 (fun g=>Im1 g∨β2.g=some g) (tm 22 [(1,int i),(2,.rp h.dvs 0),(4,ptr g4),(5,ptr g5),(6,ptr g6)]) (a1.put (some 6) (.pointer (some ⟨g6,0,none⟩))):=by
  have A1:RelT ρ1 w1 (fun g=>Im1 g∨β2.g=some g) _ a1:=T1.mono (Sx.Ext.refl _ _) (fun _ h=>.inl h) (fun _ _ h=>h) I1.bnd
  have A2:=((((A1.reSet 2 .any (fun v _=>.any v)).reSet 4 .any (fun v _=>.any v)).reSet 5 .any (fun v _=>.any v)).pure (by kernel_rfl))
  have A3:=((A2.reSet 2 (.rp h.dvs 0) (fun v hv=>by rw[t2]at hv;cases hv;exact rp2)).reSet 4 (ptr g4) (fun v hv=>by rw[t4]at hv;cases hv;simp only[Nat.zero_mul,Nat.add_zero];exact .d (.sc _ rfl))).reSet 5 (ptr g5) (fun v hv=>by rw[t5]at hv;cases hv;simp only[Nat.zero_mul,Nat.add_zero];exact .d (.sc _ rfl))
  exact(A3.mono E2 (fun _ h=>h) (fun _ _ h=>h) (fun _ _ _ h=>nomatch h)).put 6 (Rel.d (RelD.sc _ rfl))
 have S2:Sx.Sys (fun _=>False) (fun g=>Im1 g∨β2.g=some g) w2 (tm 22 [(1,int i),(2,.rp h.dvs 0),(4,ptr g4),(5,ptr g5),(6,ptr g6)]) (hOf []) 20 (a1.put (some 6) (.pointer (some ⟨g6,0,none⟩))) w2:=by
  refine⟨_,_,Sx.Inv.empty ?_ (by decide),T2⟩
  rintro g (hg | hg)
  ·have:=I1.imb g hg;omega
  ·have:=I1.bnd _ _ g m2 hg;omega
 refine wpIn_seq (wpIn_seq (wpIn_region ?_))
 rw[show List.range (rgO Tryz.f47 2).size=[0,1]++[2]from by kernel_rfl]
 refine Z3c (ro:=none) (hints:=[]) (out:=⟨tm 22 [(1,int i),(2,.rp h.dvs 0),(4,ptr g4),(5,ptr g5),(6,ptr g6),(9,h.av),(10,int i)],hOf [],[],[]⟩) (by kernel_rfl) S2 trivial (fun p hp=>by simp at hp) ?_
 rintro a3 w3 ⟨ρ3,Im3,I3,T3⟩
 have T3:=T3.pure (by kernel_rfl)
 have hcall:(execOp a3.eval ((rgO Tryz.f47 2).getD 2 default)).run Tryz.prog w3 = .ok (.enter 87 #[a3.eval (.tmp 9),a3.eval (.tmp 10)]) w3:=by
  have hop:((rgO Tryz.f47 2).getD 2 default).op = .call ⟨.value (.func 87),#[.tmp 9,.tmp 10],tsOf ((rgO Tryz.f47 2).getD 2 default)⟩:=by kernel_rfl
  have:=Z26 (P:=Tryz.prog) (f:=87) (by kernel_rfl) #[a3.eval (.tmp 9),a3.eval (.tmp 10)] w3
  have hev:a3.eval (.func 87) = .func (.func 87) #[] #[]:=rfl
  generalize (rgO Tryz.f47 2).getD 2 default=o at hop ⊢
  simp[execOp,hop,resolve,hev,Deferred.ofValue,invoke,this]
 refine Z2o (o:=(rgO Tryz.f47 2).getD 2 default) (by kernel_rfl) (by kernel_rfl) (Z2J (ro:=none) (by intro c h;cases h) ?_)
 unfold Oper.wp
 rw[hcall,Oper.upon_enter]
 refine(ZlI h i w3 Im3 _ _ I3.imb (Z1u T3 (.tmp 9)) (Z1u T3 (.tmp 10))).mono ?_
 rintro e w4 ⟨p1,p2,Im4,rfl,K4,hIm4,rp1,rp2'⟩
 have hdst:((rgO Tryz.f47 2).getD 2 default).dst=some 11:=by kernel_rfl
 rw[hdst]
 have b4:g4<g6:=by rw[← hg6];exact I1.bnd _ _ _ m4 rfl
 have b5:g5<g6:=by rw[← hg6];exact I1.bnd _ _ _ m5 rfl
 have s1:=I1.kept.size
 have s3:=I3.kept.size
 obtain⟨x4,y4,q4⟩:=T3.at (t:=4) (x:=ptr g4) rfl
 obtain⟨x5,y5,q5⟩:=T3.at (t:=5) (x:=ptr g5) rfl
 obtain⟨x6,y6,q6⟩:=T3.at (t:=6) (x:=ptr g6) rfl
 rw[Z0D q4]at y4
 rw[Z0D q5]at y5
 rw[Z0D q6]at y6
 have hz:a3.tmps.size=22:=T3.size
 have to4:∀ {g:Nat},g<w2.heap.size→w4.heap[g]? = w2.heap[g]? := fun {g} hg=>by
  rw[K4.block g (by omega) id,I3.kept.block g hg id]
 have to2:∀ {g:Nat},g<w1.heap.size→w2.heap[g]? = w1.heap[g]? := fun {g} hg=>K2.block g hg id
 refine ZjD hw hp hi (w4:=w4) (Im4:=Im4) (g4:=g4) (g5:=g5) (g6:=g6) (u4:=u4) (u5:=u5) (p1:=p1) (p2:=p2) (Z3t (Z3t (Z3t I1.kept K2 (fun _ h=>h.elim)) I3.kept (fun _ h=>h.elim)) K4 (fun _ h=>h.elim)) ?_ (Z6N y4 (by decide)) (Z6N y5 (by decide)) (Z6N y6 (by decide)) (Z5B (by omega)) T3.defers l4 l5 h45 (by omega) (by omega) (by omega) ?_ ?_ ?_ (fun g hg=>?_) rp1 rp2' (by rw[hR];exact hQ)
 ·show(a3.tmps.setIfInBounds 11 _).size=22
  rw[Array.size_setIfInBounds];exact hz
 ·rw[to4 (by omega),to2 (by omega)];exact c4
 ·rw[to4 (by omega),to2 (by omega)];exact c5
 ·rw[to4 (by omega)];exact c6
 ·obtain⟨h1,h2⟩:=hIm4 g hg
  refine⟨h2, ?_⟩
  rcases h1 with h1 | h1
  ·rcases I3.im0 g h1 with k | k | k
   ·rcases k with k | k
    ·have:=I1.imb g k;omega
    ·have:=I1.bnd _ _ g m2 k;omega
   ·omega
   ·exact k.elim
  ·omega
end Go.Proofs.YtjflpmnenhdeeaaGreat
namespace Go.Proofs.YtjflpmnenhdeeaaGreat
open Go.Sx
theorem Z7Y{l:List Found}{i:Nat}(hi:i<l.length):l.take (i+1)=l.take i++[l.getD i default]:=by
 rw[List.take_succ]
 simp[hi]
def Zim(l:List Found)(i:Nat):Tg:=⟨tm 19 [(2,.d (.sl 0 [])),(3,.ow 16003),(6,Z13 l),(7,int l.length),(8,int i)],[(16003,.arr 39 1 (((l.take i).map (·.addr)).map wdv))],60⟩
theorem Zgy(l:List Found)(i:Nat)(hl:l.length≤1048576)(hi:i<l.length):CSpec Tryz.prog (rndF Tryz.f48 0) (Zim l i).st .nrm (Zim l (i+1)).st:=by
 have e:(l.take (i+1)).map (·.addr)=(l.take i).map (·.addr)++[(l.getD i default).addr]:=by rw[Z7Y hi,List.map_append];rfl
 have en:((l.take i).map (·.addr)).length≤1048576:=by simp;omega
 exact sF [(496016,16003)] [false,false,false,false,false,true] (Fh 16 [.els (List.map wdv (List.map (fun(x:Found)=>x.addr) (List.take i l)++[(l.getD i default).addr]))] (Ftb 9 (decide ((↑i:Int)<(↑l.length:Int))) (Fek 10 Found.dv l (↑i) i (Fs 15 (List.map wdv [(l.getD i default).addr]) (Fa (by(simp[*];omega):(List.map wdv (List.map (fun(x:Found)=>x.addr) (List.take i l))).length+(List.map wdv [(l.getD i default).addr]).length≤2^30) (Fa (by simp[List.map_take,List.map_drop,List.map_set,List.map_append,wdv,idv]:List.map wdv (List.map (fun(x:Found)=>x.addr) (List.take i l))++List.map wdv [(l.getD i default).addr]=List.map wdv (List.map (fun(x:Found)=>x.addr) (List.take i l)++[(l.getD i default).addr])) (Fx 17 i (Fr (39:Int) (Fa (by refine congrArg _ ?_;rw[e]:List.map wdv (List.map (fun(x:Found)=>x.addr) (List.take i l)++[(l.getD i default).addr])=List.map wdv (List.map (fun(x:Found)=>x.addr) (List.take (i+1) l))) Fz)))))))))
theorem Zkt(l:List Found):CSpec Tryz.prog (rndF Tryz.f48 0) (Zim l l.length).st (.ext 0) (Tg.st ⟨tm 19 [(2,.d (.sl 0 [])),(3,.ow 16003)],[(16003,.arr 39 1 ((l.map (·.addr)).map wdv))],60⟩):=by
 exact sF [] [false,false,true] (Ffb 9 (decide ((↑l.length:Int)<(↑l.length:Int))) (Fr (39:Int) (Fa (by refine congrArg _ ?_;refine congrArg _ ?_;simp[List.map_take,List.map_drop,List.map_set,List.map_append,wdv,idv]:List.map wdv (List.map (fun(x:Found)=>x.addr) (List.take l.length l))=List.map wdv (List.map (fun(x:Found)=>x.addr) l)) Fz)))
theorem Zjv(l:List Found)(hl:l.length≤1048576):CSpec Tryz.prog (blkF Tryz.f48 0) (Tg.st ⟨tm 19 [(2,.d (.sl 0 [])),(3,.ow 16003),(6,Z13 l),(7,int l.length),(8,int 0)],[(16003,.arr 39 1 [])],60⟩) .nrm (Tg.st ⟨tm 19 [(2,.d (.sl 0 [])),(3,.ow 16003)],[(16003,.arr 39 1 ((l.map (·.addr)).map wdv))],60⟩) :=
 Z0c (S:=fun j=>(Zim l j).st) l.length (by kernel_rfl) (fun j hj=>Zgy l j hl hj) (Zkt l)
theorem Z6e(l:List Found)(hl:l.length≤1048576):GSpec Tryz.prog 48 [Z13 l] true (Z02 (l.map (·.addr))) []:=by
 exact gF [] Tryz.func48 [] (Fh 3 [.own] (Fl 7 Found.dv l (Fu (@Zjv l ‹_›) (Fa (by exact Z46 _:Z1n (List.map wdv (List.map (fun(x:Found)=>x.addr) l))) Fz))))
def ZeT(h:Heap)(i:Nat)(acc:List Found):Tg:=⟨tm 31 [(1,.pt 8001 0 0),(2,.d (.sl 0 [])),(3,int 0),(4,.ow 24004),(13,int h.pages.length),(14,int i)],[(24004,.arr 132 4 (acc.map Found.dv)),(8001,.box 28 h.cells)],60⟩
section
variable (h:Heap) (i:Nat) (acc:List Found) (hw:WOk h.words) (hp:Z03 h=true) (hl:h.pages.length≤1048576) (ha:acc.length≤1048576)
include hw hp hl ha
theorem ZhT(hi:i<h.pages.length)(e:(Z0L h i).2=0):CSpec Tryz.prog (rndF Tryz.f55 0) (ZeT h i acc).st .nrm (ZeT h (i+1) (acc++(Z0L h i).1)).st:=by
 have hn:=Z5v h i
 exact sF [(512028,24004)] [] (Fh 28 [.els (List.map Found.dv (acc++(Z0L h (↑i:Int)).fst))] (Ftb 15 (decide ((↑i:Int)<(↑h.pages.length:Int))) (Fc 20 (@Z9e h ((↑i:Int)) ‹_› ‹_› (by omega)) (Ffb 24 ((Z0L h (↑i:Int)).snd != 0) (Fa (by(simp only[List.length_map];omega):(List.map Found.dv acc).length+(List.map Found.dv (Z0L h (↑i:Int)).fst).length≤2^30) (Fa (by simp[List.map_take,List.map_drop,List.map_set,List.map_append,wdv,idv]:List.map Found.dv acc++List.map Found.dv (Z0L h (↑i:Int)).fst=List.map Found.dv (acc++(Z0L h (↑i:Int)).fst)) (Fx 29 i Fz)))))))
theorem Zlh(hi:i<h.pages.length)(e:¬ (Z0L h i).2=0):CSpec Tryz.prog (rndF Tryz.f55 0) (ZeT h i acc).st .ret (Tg.st ⟨tm 31 [(2,.d (.sl 0 [])),(3,int (Z0L h i).2)],[],60⟩):=by
 exact sF [] [] (Ftb 15 (decide ((↑i:Int)<(↑h.pages.length:Int))) (Fc 20 (@Z9e h ((↑i:Int)) ‹_› ‹_› (by omega)) (Ftb 24 ((Z0L h (↑i:Int)).snd != 0) Fz)))
omit hw hp hl ha in
theorem ZkF:CSpec Tryz.prog (rndF Tryz.f55 0) (ZeT h h.pages.length acc).st (.ext 0) (Tg.st ⟨tm 31 [(2,.d (.sl 0 [])),(3,int 0),(4,.ow 24004)],[(24004,.arr 132 4 (acc.map Found.dv))],60⟩):=by
 exact sF [] [] (Ffb 15 (decide ((↑h.pages.length:Int)<(↑h.pages.length:Int))) Fz)
end
theorem ZjR(h:Heap)(hw:WOk h.words)(hp:Z03 h=true)(hl:h.pages.length≤1048576):∀ (f i:Nat) (acc:List Found),i+f=h.pages.length→acc.length+256*f≤1048576 →
  ((allR h f i).2=0→LSpec Tryz.prog Tryz.f55 0 (ZeT h i acc).st (.ext 0) (Tg.st ⟨tm 31 [(2,.d (.sl 0 [])),(3,int 0),(4,.ow 24004)],[(24004,.arr 132 4 ((acc++(allR h f i).1).map Found.dv))],60⟩)) ∧
  (¬ (allR h f i).2=0→LSpec Tryz.prog Tryz.f55 0 (ZeT h i acc).st .ret (Tg.st ⟨tm 31 [(2,.d (.sl 0 [])),(3,int (allR h f i).2)],[],60⟩)):=by
 intro f
 induction f with
 | zero =>
  intro i acc hi _
  have:i=h.pages.length:=by omega
  subst this
  refine⟨fun _=>?_,fun e=>absurd rfl e⟩
  rw[allR,List.append_nil]
  exact .endx (ZkF h acc)
 | succ f ih =>
  intro i acc hi hb
  have hn:=Z5v h i
  unfold allR
  by_cases e:(Z0L h i).2=0
  ·rw[if_pos e]
   have hr:=ZhT h i acc hw hp hl (by omega) (by omega) e
   obtain⟨i1,i2⟩:=ih (i+1) (acc++(Z0L h i).1) (by omega) (by simp;omega)
   by_cases e2:(allR h f (i+1)).2=0
   ·rw[if_pos e2]
    refine⟨fun _=>?_,fun e=>absurd rfl e⟩
    have:=i1 e2
    rw[List.append_assoc]at this
    exact .next hr this
   ·rw[if_neg e2]
    exact⟨fun e=>absurd e e2,fun _=>.next hr (i2 e2)⟩
  ·rw[if_neg e]
   exact⟨fun e'=>absurd e' e,fun _=>.endr (Zlh h i acc hw hp hl (by omega) (by omega) e)⟩
theorem Zi0(h:Heap)(hw:WOk h.words)(hp:Z03 h=true)(hl:h.pages.length≤64)(e:(allR h h.pages.length 0).2=0):CSpec Tryz.prog (blkF Tryz.f55 0) (Tg.st ⟨tm 31 [(1,.pt 8001 0 0),(2,.d (.sl 0 [])),(3,int 0),(4,.ow 24004),(13,int h.pages.length),(14,int 0)],[(24004,.arr 132 4 []),(8001,.box 28 h.cells)],60⟩) .nrm
  (Tg.st ⟨tm 31 [(2,.d (.sl 0 [])),(3,int 0),(4,.ow 24004)],[(24004,.arr 132 4 ((allR h h.pages.length 0).1.map Found.dv))],60⟩) :=
 ((ZjR h hw hp (by omega) h.pages.length 0 [] (by omega) (by simp;omega)).1 e).ext (by kernel_rfl)
theorem Zdt(h:Heap)(hw:WOk h.words)(hp:Z03 h=true)(hl:h.pages.length≤64)(e:¬ (allR h h.pages.length 0).2=0):CSpec Tryz.prog (blkF Tryz.f55 0) (Tg.st ⟨tm 31 [(1,.pt 8001 0 0),(2,.d (.sl 0 [])),(3,int 0),(4,.ow 24004),(13,int h.pages.length),(14,int 0)],[(24004,.arr 132 4 []),(8001,.box 28 h.cells)],60⟩) .ret
  (Tg.st ⟨tm 31 [(2,.d (.sl 0 [])),(3,int (allR h h.pages.length 0).2)],[],60⟩) :=
 ((ZjR h hw hp (by omega) h.pages.length 0 [] (by omega) (by simp;omega)).2 e).ret (by kernel_rfl)
theorem Z9M(h:Heap)(hw:WOk h.words)(e:(allW h).2=0):GSpec Tryz.prog 55 [h.av] true (.tu [.ow 0,int 0]) [.arr 132 4 ((allW h).1.map Found.dv)]:=by
 have hp:Z03 h=true:=by
  unfold allW at e
  split at e
  ·assumption
  ·simp at e
 have po:=Z09 hp
 have e7:allW h=allR h h.pages.length 0:=by rw[allW,if_pos hp]
 rw[e7]at e ⊢
 exact gF [24004] Tryz.func55 [] (Fh 4 [.own] (Fc 9 (@Z0N h) (Ffb 10 (!Z03 h) (Fl 13 Page.dv h.pages (Fu (@Zi0 h ‹_› ‹_› (by omega) ‹_›) (Fa (by exact Zin _:Z1n (List.map Found.dv (allR h h.pages.length 0).fst)) Fz))))))
theorem Z6y(h:Heap)(hw:WOk h.words)(e:¬ (allW h).2=0):GSpec Tryz.prog 55 [h.av] true (.tu [Z13 [],int (allW h).2]) []:=by
 cases hp:Z03 h with
 | false =>
  have e7:allW h=([],1):=by rw[allW,if_neg (by rw[hp];simp)]
  refine gspec_ofE [((9:Nat),[Hint.call true (Sx.bool (Z03 h)) []]),((10:Nat),[Hint.br true])] [] [] (by decide) Tryz.func55 [true] (φ:=GSpec Tryz.prog 34 [h.av] true (Sx.bool (Z03 h)) []∧(!Z03 h)=true∧true=true∧([]:List (List DV))=[]∧[]=List.map Found.dv []∧(1:Int)=(allW h).snd) ?_ (by kernel_rfl) (by kernel_rfl)
  exact⟨(@Z0N (h)),(by(simp only[bs];omega)),rfl,rfl,rfl,(by rw[e7])⟩
 | true =>
  have po:=Z09 hp
  have e7:allW h=allR h h.pages.length 0:=by rw[allW,if_pos hp]
  rw[e7]at e ⊢
  refine gspec_ofE [((9:Nat),[Hint.call true (Sx.bool (Z03 h)) []]),((10:Nat),[Hint.br false]),((4:Nat),[Hint.own]),((13:Nat),[Hint.int (↑h.pages.length:Int)])] [((0:Nat),Tg.mk (tm (31:Nat) [((1:Nat),AV.pt (8001:Nat) (0:Nat) (0:Nat)),((2:Nat),AV.d (DV.sl (0:Nat) [])),((3:Nat),int (0:Int)),((4:Nat),AV.ow (24004:Nat)),((13:Nat),int (↑h.pages.length:Int)),((14:Nat),int (0:Int))]) [((24004:Nat),Blk.arr 132 (4:Nat) []),((8001:Nat),Blk.box 28 h.cells)] (60:Nat),Ex.ret,Tg.mk (tm (31:Nat) [((2:Nat),AV.d (DV.sl (0:Nat) [])),((3:Nat),int (allR h h.pages.length (0:Nat)).snd)]) [] (60:Nat))] [] (by decide) Tryz.func55 [] (φ:=GSpec Tryz.prog 34 [h.av] true (Sx.bool (Z03 h)) []∧(!Z03 h)=false∧false=false∧(↑(List.map Page.dv h.pages).length:Int)=(↑h.pages.length:Int)∧CSpec Tryz.prog (blkF Tryz.f55 (0:Nat)) (Tg.mk (tm (31:Nat) [((1:Nat),AV.pt (8001:Nat) (0:Nat) (0:Nat)),((2:Nat),AV.d (DV.sl (0:Nat) [])),((3:Nat),int (0:Int)),((4:Nat),AV.ow (24004:Nat)),((13:Nat),int (↑h.pages.length:Int)),((14:Nat),int (0:Int))]) [((24004:Nat),Blk.arr 132 (4:Nat) []),((8001:Nat),Blk.box 28 h.cells)] (60:Nat)).st Ex.ret (Tg.mk (tm (31:Nat) [((2:Nat),AV.d (DV.sl (0:Nat) [])),((3:Nat),int (allR h h.pages.length (0:Nat)).snd)]) [] (60:Nat)).st∧([]:List (List DV))=[]) ?_ (by kernel_rfl) (by kernel_rfl)
  exact⟨(@Z0N (h)),(by(simp only[bs];omega)),rfl,(by simp only[List.length_map]),(@Zdt (h) ‹_› ‹_› (by omega) ‹_›),rfl⟩
theorem Z5c(h:Heap)(hw:WOk h.words):GSpec Tryz.prog 22 [h.av] false (.tu [Z02 (Z01 h).1,int (Z01 h).2]) []:=by
 have e7:=Zdr h
 have el:=Zat h
 by_cases e:(allW h).2=0
 ·exact gF [] Tryz.func22 [true] (Fc 8 (@Z9M h ‹_› ‹_›) (Fc 15 (@Z6e ((allW h).fst) (by omega)) (Fa (by refine congrArg _ ?_;rw[e7]:List.map wdv (List.map (fun(x:Found)=>x.addr) (allW h).fst)=List.map wdv (Z01 h).fst) (Fa (by rw[e7,e]:0=(Z01 h).snd) Fz))))
 ·have e8:(allW h).1=[]:=by
   unfold allW at e ⊢
   split at e
   ·rename_i hp;rw[if_pos hp];exact Ze7 h _ _ e
   ·rename_i hp;rw[if_neg hp]
  exact gF [] Tryz.func22 [true] (Fc 8 (@Z6y h ‹_› ‹_›) (Ftb 12 ((allW h).snd != 0) (Fnl (Fa (by rw[e7,e8];rfl:[]=List.map wdv (Z01 h).fst) (Fa (by rw[e7]:(allW h).snd=(Z01 h).snd) Fz)))))
def Z2r(f:Found):Bool:=!(f.hd.kind==0)
theorem Zeg(x:Found):GSpec Tryz.prog 91 [x.av] true (bool (x.hd.kind==0)) []:=by
 exact gF [] Tryz.func91 [] Fz
def Z0K(l:List Found):Nat:=(l.takeWhile Z2r).length
theorem Z5W{l:List Found}{m:Nat}(h:m<Z0K l):m<l.length∧((l.getD m default).hd.kind==0)=false:=by
 obtain⟨h1,h2⟩:=Zl3 _ _ _ h
 refine⟨h1, ?_⟩
 rw[List.getD_eq_getElem?_getD,List.getElem?_eq_getElem h1]
 simpa[Z2r]using h2
theorem Z9i{l:List Found}(h:Z0K l<l.length):((l.getD (Z0K l) default).hd.kind==0)=true:=by
 have h2:=ZgT Z2r l h
 have h3:l.getD (Z0K l) default=l[(l.takeWhile Z2r).length]:=by
  rw[List.getD_eq_getElem?_getD,List.getElem?_eq_getElem h];rfl
 rw[h3]
 simpa[Z2r]using h2
def idxF(l:List Found):Int:=if Z0K l<l.length then Z0K l else -1
def ZeP(l:List Found)(i:Nat):Tg:=⟨tm 19 [(0,Z13 l),(1,.fn 91 []),(4,int 0),(7,int l.length),(8,int i)],[],60⟩
theorem Zc8(l:List Found)(i:Nat)(hl:l.length≤1048576)(hi:i<l.length)(e:((l.getD i default).hd.kind==0)=false):CSpec Tryz.prog (rndF Tryz.f123 0) (ZeP l i).st .nrm (ZeP l (i+1)).st:=by
 exact sF [] [] (Fh 16 [.call true (Sx.bool ((l.getD i default).hd.kind==0)) [],.br false] (Ftb 9 (decide ((↑i:Int)<(↑l.length:Int))) (Fek 14 Found.dv l (↑i) i (Fa (@Zeg (l.getD i default)) (Fa ‹((l.getD i default).hd.kind==0)=false› (Fx 18 i Fz))))))
theorem Zh5(l:List Found)(i:Nat)(hl:l.length≤1048576)(hi:i<l.length)(e:((l.getD i default).hd.kind==0)=true):CSpec Tryz.prog (rndF Tryz.f123 0) (ZeP l i).st .ret (Tg.st ⟨tm 19 [(4,int i)],[],60⟩):=by
 exact sF [] [] (Fh 16 [.call true (Sx.bool ((l.getD i default).hd.kind==0)) [],.br true] (Ftb 9 (decide ((↑i:Int)<(↑l.length:Int))) (Fek 14 Found.dv l (↑i) i (Fa (@Zeg (l.getD i default)) (Fa ‹((l.getD i default).hd.kind==0)=true› Fz)))))
theorem Zkc(l:List Found):CSpec Tryz.prog (rndF Tryz.f123 0) (ZeP l l.length).st (.ext 0) (Tg.st ⟨tm 19 [(4,int 0)],[],60⟩):=by
 exact sF [] [] (Ffb 9 (decide ((↑l.length:Int)<(↑l.length:Int))) Fz)
theorem Zih(l:List Found)(hl:l.length≤1048576)(h:¬ Z0K l<l.length):CSpec Tryz.prog (blkF Tryz.f123 0) (Tg.st ⟨tm 19 [(0,Z13 l),(1,.fn 91 []),(4,int 0),(7,int l.length),(8,int 0)],[],60⟩) .nrm (Tg.st ⟨tm 19 [(4,int 0)],[],60⟩) :=
 Z0c (S:=fun j=>(ZeP l j).st) l.length (by kernel_rfl) (fun j hj=>Zc8 l j hl hj (Z5W (by omega)).2) (Zkc l)
theorem Zgl(l:List Found)(hl:l.length≤1048576)(h:Z0K l<l.length):CSpec Tryz.prog (blkF Tryz.f123 0) (Tg.st ⟨tm 19 [(0,Z13 l),(1,.fn 91 []),(4,int 0),(7,int l.length),(8,int 0)],[],60⟩) .ret (Tg.st ⟨tm 19 [(4,int (Z0K l))],[],60⟩) :=
 Z0Q (S:=fun j=>(ZeP l j).st) (Z0K l) (by kernel_rfl) (fun j hj=>Zc8 l j hl (by omega) (Z5W hj).2) (Zh5 l (Z0K l) hl h (Z9i h))
theorem Zk5(l:List Found)(hl:l.length≤1048576):GSpec Tryz.prog 123 [Z13 l,.fn 91 []] true (int (idxF l)) []:=by
 by_cases h:Z0K l<l.length
 ·have e7:idxF l=Z0K l:=if_pos h
  rw[e7]
  exact gF [] Tryz.func123 [] (Fl 7 Found.dv l (Fu (@Zgl l ‹_› ‹_›) Fz))
 ·have e7:idxF l=-1:=if_neg h
  rw[e7]
  exact gF [] Tryz.func123 [] (Fl 7 Found.dv l (Fu (@Zih l ‹_› ‹_›) Fz))
def dfS(l:List Found)(i0:Nat):Nat→List Found×Nat
 | 0=>(l,i0)
 | m+1=>if Z2r ((dfS l i0 m).1.getD (i0+1+m) default)=true then((dfS l i0 m).1.set (dfS l i0 m).2 ((dfS l i0 m).1.getD (i0+1+m) default),(dfS l i0 m).2+1)else dfS l i0 m
theorem Zgi{l:List Found}{i0:Nat}(h0:(l.take i0).filter Z2r=l.take i0)(h1:i0<l.length)(h2:Z2r (l.getD i0 default)=false):∀ m,i0+1+m≤l.length →
  (dfS l i0 m).1.length=l.length∧(dfS l i0 m).2≤i0+m∧(∀ k,i0+1+m≤k→(dfS l i0 m).1.getD k default=l.getD k default)∧(dfS l i0 m).1.take (dfS l i0 m).2=(l.take (i0+1+m)).filter Z2r
 | 0,_=>by
  refine⟨rfl,Nat.le_refl _,fun _ _=>rfl, ?_⟩
  show l.take i0=(l.take (i0+1)).filter Z2r
  rw[Z7Y h1,List.filter_append,h0]
  generalize l.getD i0 default=y at h2 ⊢
  simp[h2]
 | m+1,hm=>by
  obtain⟨a1,a2,a3,a4⟩:=Zgi h0 h1 h2 m (by omega)
  have e:=a3 (i0+1+m) (Nat.le_refl _)
  have et:l.take (i0+1+(m+1))=l.take (i0+1+m)++[l.getD (i0+1+m) default]:=Z7Y (l:=l) (i:=i0+1+m) (show i0+1+m<l.length by omega)
  unfold dfS
  rw[e,et,List.filter_append]
  generalize hd:dfS l i0 m=d at *
  by_cases hk:Z2r (l.getD (i0+1+m) default)=true
  ·rw[if_pos hk]
   refine⟨by simp[a1],by simp only;omega,fun k hk'=>?_, ?_⟩
   ·simp only
    rw[List.getD_eq_getElem?_getD,List.getElem?_set_ne (by omega),← List.getD_eq_getElem?_getD]
    exact a3 k (by omega)
   ·have hlt:d.2<d.1.length:=by omega
    simp only
    rw[← a4,List.take_succ,List.take_set_of_le (by omega)]
    generalize l.getD (i0+1+m) default=y at hk ⊢
    simp[hk,hlt]
  ·rw[if_neg hk]
   refine⟨a1,by omega,fun k hk'=>a3 k (by omega), ?_⟩
   rw[a4]
   generalize l.getD (i0+1+m) default=y at hk ⊢
   simp[hk]
theorem Z8g(l:List Found):(l.take (Z0K l)).filter Z2r=l.take (Z0K l):=by
 rw[List.filter_eq_self]
 intro x hx
 obtain⟨k,hk⟩:=List.getElem?_of_mem hx
 rw[List.getElem?_take]at hk
 split at hk
 ·rename_i hlt
  have:=(Z5W hlt).2
  rw[List.getD_eq_getElem?_getD,hk]at this
  simpa[Z2r]using this
 ·cases hk
theorem Z8U{l:List Found}(h:Z0K l<l.length):Z2r (l.getD (Z0K l) default)=false:=by
 have:=Z9i h
 show(!((l.getD (Z0K l) default).hd.kind==0))=false
 rw[this];rfl
theorem ZfM{l:List Found}(h:Z0K l<l.length):(dfS l (Z0K l) (l.length-Z0K l-1)).1.take (dfS l (Z0K l) (l.length-Z0K l-1)).2=l.filter Z2r∧(dfS l (Z0K l) (l.length-Z0K l-1)).1.length=l.length∧(dfS l (Z0K l) (l.length-Z0K l-1)).2≤l.length:=by
 have h0:=Z8g l
 have h2:=Z8U h
 obtain⟨a1,a2,a3,a4⟩:=Zgi h0 h h2 (l.length-Z0K l-1) (by omega)
 refine⟨?_,a1,by omega⟩
 rw[a4,show Z0K l+1+(l.length-Z0K l-1)=l.length from by omega,List.take_length]
theorem ZgE{l:List Found}(h:¬ Z0K l<l.length):l.filter Z2r=l:=by
 rw[List.filter_eq_self]
 intro x hx
 obtain⟨k,hk⟩:=List.getElem?_of_mem hx
 have hlt:k<l.length:=(List.getElem?_eq_some_iff.1 hk).1
 have:=(Z5W (l:=l) (m:=k) (by omega)).2
 rw[List.getD_eq_getElem?_getD,hk]at this
 simpa[Z2r]using this
theorem Zl9(l:List Found)(hl:l.length≤1048576)(h:¬ Z0K l<l.length):CSpec Tryz.prog (bdyF Tryz.f90) (Tg.st ⟨tm 42 [(0,.ow 0),(1,.fn 91 [])],[(0,.arr 132 4 (l.map Found.dv))],1⟩) .ret (Tg.st ⟨tm 42 [(4,.ow 0)],[(0,.arr 132 4 (l.map Found.dv))],60⟩):=by
 have e7:idxF l=-1:=if_neg h
 exact sF [] [] (Fc 10 (@Zk5 l ‹_›) (Ftb 12 (idxF l==(-1:Int)) Fz))
def delL(l:List Found)(i0 m:Nat):Tg:=⟨tm 42 [(0,.ow 0),(1,.fn 91 []),(5,int (dfS l i0 m).2),(6,int (i0+1+m:Nat))],[(0,.arr 132 4 ((dfS l i0 m).1.map Found.dv))],60⟩
section
variable (l:List Found) (i0 m:Nat) (hl:l.length≤1048576) (h1:(dfS l i0 m).1.length=l.length) (h2:(dfS l i0 m).2≤i0+m)
include hl h1 h2
theorem Zki(hm:i0+1+m<l.length)(hk:(((dfS l i0 m).1.getD (i0+1+m) default).hd.kind==0)=false):CSpec Tryz.prog (rndF Tryz.f90 0) (delL l i0 m).st .nrm (delL l i0 (m+1)).st:=by
 have e7:dfS l i0 (m+1)=((dfS l i0 m).1.set (dfS l i0 m).2 ((dfS l i0 m).1.getD (i0+1+m) default),(dfS l i0 m).2+1):=by
  rw[dfS,if_pos (by unfold Z2r;rw[hk];rfl)]
 have hk2:¬ ((dfS l i0 m).1.getD ((i0+1+m:Nat):Int).toNat default).hd.kind=0:=by rw[Int.toNat_natCast];simpa using hk
 exact sF [] [false,false,true,false,true] (Fh 10033 [.els (List.map Found.dv ((dfS l i0 m).fst.set (↑(dfS l i0 m).snd:Int).toNat ((dfS l i0 m).fst.getD (↑(i0+1+m):Int).toNat default)))] (Fl 18 Found.dv (dfS l i0 m).fst (Ftb 19 (decide ((↑(i0+1+m):Int)<(↑(dfS l i0 m).fst.length:Int))) (Fm 25 Found.dv ((dfS l i0 m).fst) (↑(i0+1+m):Int) ((↑(i0+1+m):Int).toNat) (Fc 28 (@Zeg ((dfS l i0 m).fst.getD (↑(i0+1+m):Int).toNat default)) (Ftb 29 (!((dfS l i0 m).fst.getD (↑(i0+1+m):Int).toNat default).hd.kind==0) (Fa (by(simp only[List.length_map];omega):0≤(↑(dfS l i0 m).snd:Int)∧(↑(dfS l i0 m).snd:Int).toNat<(List.map Found.dv (dfS l i0 m).fst).length) (Fa (by(simp only[List.length_map];omega):(↑(dfS l i0 m).snd:Int).toNat<(List.map Found.dv (dfS l i0 m).fst).length) (Fa (by rw[List.map_set];rfl:(List.map Found.dv (dfS l i0 m).fst).set (↑(dfS l i0 m).snd:Int).toNat [du64 ((dfS l i0 m).fst.getD (↑(i0+1+m):Int).toNat default).addr,dint ((dfS l i0 m).fst.getD (↑(i0+1+m):Int).toNat default).hd.kind,dint ((dfS l i0 m).fst.getD (↑(i0+1+m):Int).toNat default).hd.length,DV.sc (Value.int IntKind.u32 ((dfS l i0 m).fst.getD (↑(i0+1+m):Int).toNat default).hd.map)]=List.map Found.dv ((dfS l i0 m).fst.set (↑(dfS l i0 m).snd:Int).toNat ((dfS l i0 m).fst.getD (↑(i0+1+m):Int).toNat default))) (Fw 35 ((↑(dfS l i0 m).snd:Int)+1) (↑((dfS l i0 m).snd+1):Int) (Fw 21 ((↑(i0+1+m):Int)+1) (↑(i0+1+m+1):Int) (Fa (by rw[e7]:(↑((dfS l i0 m).snd+1):Int)=(↑(dfS l i0 (m+1)).snd:Int)) (Fr (132:Int) (Fa (by refine congrArg _ ?_;rw[e7];rfl:List.map Found.dv ((dfS l i0 m).fst.set (↑(dfS l i0 m).snd:Int).toNat ((dfS l i0 m).fst.getD (↑(i0+1+m):Int).toNat default))=List.map Found.dv (dfS l i0 (m+1)).fst) Fz))))))))))))))
theorem ZkC(hm:i0+1+m<l.length)(hk:(((dfS l i0 m).1.getD (i0+1+m) default).hd.kind==0)=true):CSpec Tryz.prog (rndF Tryz.f90 0) (delL l i0 m).st .nrm (delL l i0 (m+1)).st:=by
 have e7:dfS l i0 (m+1)=dfS l i0 m:=by
  rw[dfS,if_neg (by unfold Z2r;rw[hk];simp)]
 have hk2:((dfS l i0 m).1.getD ((i0+1+m:Nat):Int).toNat default).hd.kind=0:=by rw[Int.toNat_natCast];simpa using hk
 exact sF [] [false,false,true,false,true] (Fl 18 Found.dv (dfS l i0 m).fst (Ftb 19 (decide ((↑(i0+1+m):Int)<(↑(dfS l i0 m).fst.length:Int))) (Fm 25 Found.dv ((dfS l i0 m).fst) (↑(i0+1+m):Int) ((↑(i0+1+m):Int).toNat) (Fc 28 (@Zeg ((dfS l i0 m).fst.getD (↑(i0+1+m):Int).toNat default)) (Ffb 29 (!((dfS l i0 m).fst.getD (↑(i0+1+m):Int).toNat default).hd.kind==0) (Fw 21 ((↑(i0+1+m):Int)+1) (↑(i0+1+m+1):Int) (Fa (by rw[e7]:(↑(dfS l i0 m).snd:Int)=(↑(dfS l i0 (m+1)).snd:Int)) (Fr (132:Int) (Fa (by refine congrArg _ ?_;rw[e7]:List.map Found.dv (dfS l i0 m).fst=List.map Found.dv (dfS l i0 (m+1)).fst) Fz)))))))))
theorem Zm9(hm:i0+1+m=l.length):CSpec Tryz.prog (rndF Tryz.f90 0) (delL l i0 m).st (.ext 0) (Tg.st ⟨tm 42 [(0,.ow 0),(5,int (dfS l i0 m).2)],[(0,.arr 132 4 ((dfS l i0 m).1.map Found.dv))],60⟩):=by
 exact sF [] [] (Fl 18 Found.dv (dfS l i0 m).fst (Ffb 19 (decide ((↑(i0+1+m):Int)<(↑(dfS l i0 m).fst.length:Int))) Fz))
end
def delR(l:List Found):List Found×Nat:=dfS l (Z0K l) (l.length-Z0K l-1)
theorem Zkf(l:List Found)(hl:l.length≤1048576)(h:Z0K l<l.length):CSpec Tryz.prog (blkF Tryz.f90 0) (Tg.st ⟨tm 42 [(0,.ow 0),(1,.fn 91 []),(5,int (idxF l)),(6,int (idxF l+1))],[(0,.arr 132 4 (l.map Found.dv))],60⟩) .nrm
  (Tg.st ⟨tm 42 [(0,.ow 0),(5,int (delR l).2)],[(0,.arr 132 4 ((delR l).1.map Found.dv))],60⟩):=by
 rw[show idxF l=Z0K l from if_pos h]
 have h0:(l.take (Z0K l)).filter Z2r=l.take (Z0K l):=Z8g l
 have h2:Z2r (l.getD (Z0K l) default)=false:=Z8U h
 have hh:=fun m hm=>Zgi h0 h h2 m hm
 have:=Z0c (S:=fun j=>(delL l (Z0K l) j).st) (l.length-Z0K l-1) (by kernel_rfl) (fun j hj=>by
  obtain⟨a1,a2,a3,a4⟩:=hh j (by omega)
  cases hk:(((dfS l (Z0K l) j).1.getD (Z0K l+1+j) default).hd.kind==0)with
  | false=>exact Zki l (Z0K l) j hl a1 a2 (by omega) hk
  | true=>exact ZkC l (Z0K l) j hl a1 a2 (by omega) hk) (Zm9 l (Z0K l) _ hl (hh _ (by omega)).1 (hh _ (by omega)).2.1 (by omega))
 exact this
theorem ZkW(l:List Found)(hl:l.length≤1048576)(h:Z0K l<l.length):CSpec Tryz.prog (bdyF Tryz.f90) (Tg.st ⟨tm 42 [(0,.ow 0),(1,.fn 91 [])],[(0,.arr 132 4 (l.map Found.dv))],1⟩) .ret (Tg.st ⟨tm 42 [(4,.os 0 0 (delR l).2)],[(0,.arr 132 4 (((delR l).1.take (delR l).2++List.replicate ((delR l).1.length-(delR l).2) noFound).map Found.dv))],60⟩):=by
 have e7:idxF l=Z0K l:=if_pos h
 obtain⟨d1,d2,d3⟩:=ZfM h
 have d4:(delR l).1.length=l.length:=d2
 have d5:(delR l).2≤l.length:=d3
 exact sF [] [false,false,false,false,false,false,true] (Fh 20000 [.els (List.map Found.dv (List.take (↑(delR l).snd:Int).toNat (delR l).fst++List.replicate ((↑(List.map Found.dv (delR l).fst).length:Int).toNat-(↑(delR l).snd:Int).toNat) (Found.mk 0 (Header.mk 0 0 0))++List.drop ((↑(delR l).snd:Int).toNat+(List.replicate ((↑(List.map Found.dv (delR l).fst).length:Int).toNat-(↑(delR l).snd:Int).toNat) (Found.mk 0 (Header.mk 0 0 0))).length) (delR l).fst))] (Fc 10 (@Zk5 l ‹_›) (Ffb 12 (idxF l==(-1:Int)) (Fi 15 (idxF l+1) (Fu (@Zkf l ‹_› ‹_›) (Fa (by(simp only[List.length_map];omega):0≤(↑(delR l).snd:Int)∧(↑(delR l).snd:Int)≤(↑(List.map Found.dv (delR l).fst).length:Int)) (Fa (by simp only[Z0M,List.map_append,List.map_take,List.map_drop,List.map_replicate,List.length_replicate];rfl:Z0M (List.map Found.dv (delR l).fst) (↑(delR l).snd:Int).toNat (List.replicate ((↑(List.map Found.dv (delR l).fst).length:Int).toNat-(↑(delR l).snd:Int).toNat) [du64 0,dint 0,dint 0,DV.sc (Value.int IntKind.u32 0)])=List.map Found.dv (List.take (↑(delR l).snd:Int).toNat (delR l).fst++List.replicate ((↑(List.map Found.dv (delR l).fst).length:Int).toNat-(↑(delR l).snd:Int).toNat) (Found.mk 0 (Header.mk 0 0 0))++List.drop ((↑(delR l).snd:Int).toNat+(List.replicate ((↑(List.map Found.dv (delR l).fst).length:Int).toNat-(↑(delR l).snd:Int).toNat) (Found.mk 0 (Header.mk 0 0 0))).length) (delR l).fst)) (Fa (by simp[*]:0≤(↑(delR l).snd:Int)∧(↑(delR l).snd:Int)≤(↑(List.map Found.dv (List.take (↑(delR l).snd:Int).toNat (delR l).fst++List.replicate ((↑(List.map Found.dv (delR l).fst).length:Int).toNat-(↑(delR l).snd:Int).toNat) (Found.mk 0 (Header.mk 0 0 0))++List.drop ((↑(delR l).snd:Int).toNat+(List.replicate ((↑(List.map Found.dv (delR l).fst).length:Int).toNat-(↑(delR l).snd:Int).toNat) (Found.mk 0 (Header.mk 0 0 0))).length) (delR l).fst)).length:Int)) (Fr (132:Int) (Fa (by refine congrArg _ ?_;simp only[Int.toNat_natCast,List.length_map,List.length_replicate];rw[List.drop_of_length_le (by omega),List.append_nil];rfl:List.map Found.dv (List.take (↑(delR l).snd:Int).toNat (delR l).fst++List.replicate ((↑(List.map Found.dv (delR l).fst).length:Int).toNat-(↑(delR l).snd:Int).toNat) (Found.mk 0 (Header.mk 0 0 0))++List.drop ((↑(delR l).snd:Int).toNat+(List.replicate ((↑(List.map Found.dv (delR l).fst).length:Int).toNat-(↑(delR l).snd:Int).toNat) (Found.mk 0 (Header.mk 0 0 0))).length) (delR l).fst)=List.map Found.dv (List.take (delR l).snd (delR l).fst++List.replicate ((delR l).fst.length-(delR l).snd) noFound)) Fz))))))))))
theorem ZkT(h:Heap)(hw:WOk h.words)(e:(allW h).2=0):ZcG Tryz.prog 4 (bdyF Tryz.f53) (Tg.st ⟨tm 17 [(0,h.av)],[],1⟩) (Tg.st ⟨tm 17 [(4,.ow 17008)],[(17008,.arr 132 4 ((allW h).1.map Found.dv))],20⟩):=by
 refine Z4N [((8:Nat),[Hint.call true (AV.tu [AV.ow (0:Nat),int (0:Int)]) [Blk.arr 132 (4:Nat) (List.map Found.dv (allW h).fst)]])] [] [] (φ:=GSpec Tryz.prog 55 [h.av] true (AV.tu [AV.ow (0:Nat),int (0:Int)]) [Blk.arr 132 (4:Nat) (List.map Found.dv (allW h).fst)]) ?_ (by kernel_rfl) (by kernel_rfl) (by kernel_rfl) (by kernel_rfl)
 exact(@Z9M (h) ‹_› ‹_›)
theorem Z8L(h:Heap)(hw:WOk h.words)(e:¬ (allW h).2=0):GSpec Tryz.prog 53 [h.av] true (.tu [Z02 [],int (allW h).2]) []:=by
 exact gF [] Tryz.func53 [] (Fc 8 (@Z6y h ‹_› ‹_›) (Ftb 12 ((allW h).snd != 0) (Fnl Fz)))
end Go.Proofs.YtjflpmnenhdeeaaGreat
namespace Go.Proofs.YtjflpmnenhdeeaaGreat
open Go.Sx Go.RowKit
theorem ZiW{Ow Im0:Nat→Prop}{w0:World}{ρ:Rho}{w:World}{Im:Nat→Prop}{H:Sx.Heap}{clk:Nat}{x:AV}{v:Value}{s:Nat}{els:List (List DV)}{β:Bi}(I:Sx.Inv Ow Im0 w0 ρ w Im H clk)(hx:Rel ρ w Im x v)(h:Z1a H x=some (s,els))
  (hblk:∀ a n c,v = .slice (some a) n c→n≠0→β.g=some a.block):RelD w (fun g=>Im g∨β.g=some g) (.sl s els) v:=by
 obtain⟨p,c,rfl,hbg,hc,hl,hcell⟩:=Z1Q I hx h
 by_cases he:els=[]
 ·subst he;exact .slNil _ _ _
 rcases hcell with hcell | ⟨q,rfl,hq,hcell⟩
 ·exact absurd hcell he
 have hn:els.length≠0:=by simpa using he
 refine .sl s els q els.length c (fun i o=>(w.cell? ⟨q.block,q.off+(i*s+o),none⟩).getD undef) rfl hc hbg (hl he) hq (.inr (hblk q _ c rfl hn)) ?_ ?_
 ·intro i e o y hi ho
  obtain⟨u,k1,_⟩:=hcell i e o y hi ho
  rw[k1];rfl
 ·intro i e o y hi ho
  obtain⟨u,k1,k2⟩:=hcell i e o y hi ho
  rw[k1]
  exact k2.mono (Sx.Ext.refl _ _) (fun g hg=>.inl hg)
def rho0(β:Bi):Rho:=fun b=>if b=0 then some β else none
theorem Z4w{β κ:Bi}{b:Nat}(h:rho0 β b=some κ):b=0∧κ=β:=by
 unfold rho0 at h
 split at h
 ·cases h;exact⟨‹_›,rfl⟩
 ·cases h
theorem Zl8(l:List Found)(hl:l.length≤1048576){w:World}{Im:Nat→Prop}{β:Bi}{v:Value}(hIm:∀ g,Im g→g<w.heap.size)(hB:RelB (rho0 β) w Im β (.arr 132 4 (l.map Found.dv)))(hg:∀ g,β.g=some g→g<w.heap.size∧¬ Im g)
  (hv:Rel (rho0 β) w Im (.ow 0) v):Calls Tryz.prog 90 #[v,.func (.func 91) #[] #[]] w fun e w'=>∃ u,∃ Im':Nat→Prop,e = .returned u∧Kept (fun g=>β.g=some g) w w' ∧
   (∀ g,Im' g→(Im g∨β.g=some g∨w.heap.size≤g)∧g<w'.heap.size)∧RelD w' Im' (.sl 4 ((l.filter Z2r).map Found.dv)) u:=by
 refine calls_of_wp Tryz.func90 (c:=bdyF Tryz.f90) (by kernel_rfl) ?_
 have I0:Sx.Inv (fun g=>β.g=some g) Im w (rho0 β) w Im (hOf [(0,.arr 132 4 (l.map Found.dv))]) 1:=by
  refine⟨Kept.refl _ _,fun b b' κ κ' g _ _ q1 q2 _ _=>by rw[(Z4w q1).1,(Z4w q2).1],fun b κ g _ q1 q2=>?_,fun b κ g q1 q2=>?_,fun b κ g q1 q2=>?_,hIm,fun g h=>.inl h,fun b B q=>?_,fun b hb _=>?_,Nat.le_refl _⟩
  ·rw[(Z4w q1).2]at q2;exact(hg g q2).2
  ·rw[(Z4w q1).2]at q2;exact(hg g q2).1
  ·rw[(Z4w q1).2]at q2;exact .inr q2
  ·simp only[hOf]at q
   split at q
   ·rename_i hb;cases q;subst hb;exact⟨β,rfl,hB⟩
   ·cases q
  ·unfold rho0;rw[if_neg (by omega)]
 have S:Sx.Sys (fun g=>β.g=some g) Im w (tm 42 [(0,.ow 0),(1,.fn 91 [])]) (hOf [(0,.arr 132 4 (l.map Found.dv))]) 1 { tmps := #[v,.func (.func 91) #[] #[]]++Array.replicate (Tryz.f90.ntmps-(#[v,.func (.func 91) #[] #[]]:Array Value).size) undef,defers:=[] } w:=by
  refine⟨_,Im,I0,⟨by kernel_rfl,fun k y u hy hu=>?_,rfl⟩⟩
  rw[show tm 42 [(0,.ow 0),(1,.fn 91 [])]=[.ow 0,.fn 91 []]++List.replicate 40 .any from by kernel_rfl,List.getElem?_append]at hy
  rw[Array.getElem?_append]at hu
  split at hy
  ·rename_i hk
   have hk3:k<2:=hk
   rw[if_pos (show k<(#[v,.func (.func 91) #[] #[]]:Array Value).size from hk3)]at hu
   rcases k with _ | _ | k
   ·cases hy;cases hu;exact hv
   ·cases hy;cases hu;exact .fn rfl (fun i a v h=>by simp at h)
   ·omega
  ·have:=List.mem_of_getElem? hy
   rw[(List.mem_replicate.1 this).2]
   exact .any _
 have fin:∀ (x:AV) (els:List (List DV)) (L:List (List DV)) (clk:Nat) (a':Act) (w':World),Sx.Sys (fun g=>β.g=some g) Im w (tm 42 [(4,x)]) (hOf [(0,.arr 132 4 els)]) clk a' w'→(tm 42 [(4,x)]).getD 4 .any=x→(x = .ow 0∨∃ o n,x = .os 0 o n)→Z1a (hOf [(0,.arr 132 4 els)]) x=some (4,L)→L=(l.filter Z2r).map Found.dv →
   bodyPost Tryz.prog Tryz.f90 (fun e w'=>∃ u,∃ Im':Nat→Prop,e = .returned u∧Kept (fun g=>β.g=some g) w w'∧(∀ g,Im' g→(Im g∨β.g=some g∨w.heap.size≤g)∧g<w'.heap.size)∧RelD w' Im' (.sl 4 ((l.filter Z2r).map Found.dv)) u) .ret a' w':=by
  rintro x els L clk a' w' ⟨ρ,Im',I,T⟩ hx4 hx hc hL
  refine bodyPost_ret (results_tmp rfl _ _ _) T.defers ?_
  have hr:Rel ρ w' Im' x (a'.tmps.getD 4 undef):=by
   have:=Z1u T (.tmp 4)
   rw[show ev (tm 42 [(4,x)]) (.tmp 4)=(tm 42 [(4,x)]).getD 4 .any from rfl,hx4]at this
   exact this
  generalize a'.tmps.getD 4 undef=u at hr
  obtain⟨κ,k1,k2⟩:=I.blk 0 _ rfl
  have hκ:∀ g,κ.g=some g→w.heap.size≤g∨β.g=some g:=fun g h=>(I.own 0 κ g k1 h).imp (·.1) id
  refine⟨u,fun g=>Im' g∨κ.g=some g,rfl,I.kept,fun g h=>?_, ?_⟩
  ·rcases h with h | h
   ·refine⟨?_,I.imb g h⟩
    rcases I.im0 g h with q | q | q
    ·exact .inl q
    ·exact .inr (.inr q)
    ·exact .inr (.inl q)
   ·refine⟨?_,I.bnd 0 κ g k1 h⟩
    rcases hκ g h with q | q
    ·exact .inr (.inr q)
    ·exact .inr (.inl q)
  ·rw[← hL]
   refine ZiW I hr hc fun a n c hv hn=>?_
   subst hv
   rcases hx with rfl | ⟨o,m,rfl⟩
   ·generalize hvv:Value.slice (some a) n c=vv at hr
    cases hr with
    | ow h1 h2 h3 h4 =>
     injection hvv with e1 e2 e3
     rw[k1]at h1;cases h1
     rcases h4 with h4 | ⟨g,hg,e,_⟩
     ·omega
     ·rw[← e1]at e;cases e;exact hg
   ·generalize hvv:Value.slice (some a) n c=vv at hr
    cases hr with
    | os h1 h2 h3 h4 h5 =>
     injection hvv with e1 e2 e3
     rw[k1]at h1;cases h1
     rcases h5 with h5 | ⟨g,hg,e,_⟩
     ·omega
     ·rw[← e1]at e;cases e;exact hg
 by_cases h:Z0K l<l.length
 ·refine wp_mono (ZkW l hl h _ _ _ _ _ S) ?_
  rintro e a' w' ⟨rfl,S1⟩
  obtain⟨d1,d2,d3⟩:=ZfM h
  refine fin (.os 0 0 (delR l).2) _ _ _ a' w' S1 rfl (.inr ⟨_,_,rfl⟩) rfl ?_
  have d5:(delR l).2≤(delR l).1.length:=by have:(delR l).1.length=l.length:=d2;have:(delR l).2≤l.length:=d3;omega
  rw[List.drop_zero,← List.map_take,List.take_append_of_le_length (by rw[List.length_take];omega),List.take_take,Nat.min_self]
  exact congrArg _ d1
 ·refine wp_mono (Zl9 l hl h _ _ _ _ _ S) ?_
  rintro e a' w' ⟨rfl,S1⟩
  refine fin (.ow 0) _ _ _ a' w' S1 rfl (.inl rfl) rfl ?_
  rw[ZgE h]
theorem Zcg{P:Program}{o:Oper}{a:Act}{w:World}{x:Operand}(ho:o.op = .assign x):(execOp a.eval o).run P w = .ok (.value (a.eval x)) w:=by
 simp[execOp,ho]
theorem Zkw{P:Program}{o:Oper}{a:Act}{w:World}{x:Operand}(ho:o.op = .move x):(execOp a.eval o).run P w = .ok (.value (a.eval x)) w:=by
 simp[execOp,ho]
theorem ZaJ(h:Heap)(hw:WOk h.words)(e:(allW h).2=0):GSpec Tryz.prog 53 [h.av] true (.tu [Z02 (((allW h).1.filter Z2r).map (·.addr)),int 0]) []:=by
 intro w00 Im vs hIm hsz hargs
 rw[← callsIn_wide (n:=10)]
 refine callsIn_of_wp Tryz.func53 (c:=bdyF Tryz.f53) (by kernel_rfl) trivial ?_ rfl
 have hs1:vs.size=1:=hsz
 have S0:Sx.Sys (fun _=>False) Im w00 (tm 17 [(0,h.av)]) (hOf []) 1 { tmps:=vs++Array.replicate (Tryz.f53.ntmps-vs.size) undef,defers:=[] } w00:=by
  refine⟨_,Im,Sx.Inv.empty hIm (Nat.le_refl 1),⟨by rw[hs1];simp[hs1];kernel_rfl,fun k y v hy hv=>?_,rfl⟩⟩
  rw[show tm 17 [(0,h.av)]=[h.av]++List.replicate 16 .any from by kernel_rfl,List.getElem?_append]at hy
  rw[Array.getElem?_append]at hv
  split at hy
  ·rename_i hk
   rw[if_pos (by rw[hsz];exact hk)]at hv
   exact hargs k y v hy hv
  ·have:=List.mem_of_getElem? hy
   rw[(List.mem_replicate.1 this).2]
   exact .any _
 generalize hR:(fun e w'=>∃ v,e=Ending.returned v∧Zfv w00 Im true (AV.tu [Z02 (((allW h).1.filter Z2r).map (·.addr)),int 0]) [] v w')=R
 generalize hQ:bodyPost Tryz.prog Tryz.f53 R=Q
 refine ZkT h hw e 10 Q _ _ _ _ _ S0 ?_
 rintro a1 w1 ⟨ρ1,Im1,I1,T1⟩
 obtain⟨v4,t4,r4⟩:=T1.at (t:=4) (x:=.ow 17008) rfl
 obtain⟨β,m,n⟩:=I1.blk 17008 _ rfl
 have hz1:a1.tmps.size=17:=T1.size
 have er:rest Tryz.prog 10 4 (bdyF Tryz.f53) Q a1 w1=(Code.region 4 (rgO Tryz.f53 4) false).wpIn Fence.wide 10 Tryz.prog (Exit.then (Code.ret.wpIn Fence.wide 10 Tryz.prog Q) Q) a1 w1:=by kernel_rfl
 rw[er]
 refine wpIn_region ?_
 rw[show List.range (rgO Tryz.f53 4).size=[0,1,2,3,4]from by kernel_rfl]
 refine Z2o (o:=(rgO Tryz.f53 4).getD 0 default) (by kernel_rfl) (by kernel_rfl) (Z2J (ro:=none) (by intro c h;cases h) (Z66 (Zkw (x:=.tmp 4) (by kernel_rfl)) ?_))
 rw[show((rgO Tryz.f53 4).getD 0 default).dst=some 14 from by kernel_rfl,Z5I t4]
 generalize ha2:a1.put (some 14) v4=a2
 have t14:a2.tmps[14]? = some v4:=by rw[← ha2];exact Z5B (by omega)
 have hz2:a2.tmps.size=17:=by rw[← ha2];show(a1.tmps.setIfInBounds 14 v4).size=17;rw[Array.size_setIfInBounds];exact hz1
 have hd2:a2.defers=[]:=by rw[← ha2];exact T1.defers
 have hcall:(execOp a2.eval ((rgO Tryz.f53 4).getD 1 default)).run Tryz.prog w1 = .ok (.enter 90 #[v4,.func (.func 91) #[] #[]]) w1:=by
  have hop:((rgO Tryz.f53 4).getD 1 default).op = .call ⟨.value (.func 90),#[.tmp 14,.func 91],tsOf ((rgO Tryz.f53 4).getD 1 default)⟩:=by kernel_rfl
  have:=Z26 (P:=Tryz.prog) (f:=90) (by kernel_rfl) #[v4,.func (.func 91) #[] #[]] w1
  have hev:∀ f,a2.eval (.func f) = .func (.func f) #[] #[]:=fun f=>rfl
  have hev2:=Z5I t14
  generalize (rgO Tryz.f53 4).getD 1 default=o at hop ⊢
  simp[execOp,hop,resolve,hev,hev2,Deferred.ofValue,invoke,this]
 refine Z2o (o:=(rgO Tryz.f53 4).getD 1 default) (by kernel_rfl) (by kernel_rfl) (Z2J (ro:=none) (by intro c h;cases h) ?_)
 unfold Oper.wp
 rw[hcall,Oper.upon_enter]
 have al:=Zat h
 refine(Zl8 (allW h).1 (by omega) (w:=w1) (Im:=Im1) (β:=β) I1.imb (by
  obtain⟨b1,b2,b3,b4,b5⟩:=n
  refine⟨b1,b2,b3,b4,b5⟩) (fun g hg=>⟨I1.bnd _ _ g m hg,I1.notIm _ _ g ⟨_,rfl,by simp⟩ m hg⟩) (by
  cases r4 with
  | ow h1 h2 h3 h4=>rw[m]at h1;cases h1;exact .ow rfl h2 h3 h4)).mono ?_
 rintro e w2 ⟨u,Im2,rfl,K2,hIm2,hu⟩
 rw[show((rgO Tryz.f53 4).getD 1 default).dst=some 15 from by kernel_rfl]
 show wpOpsIn _ _ _ _ _ [2,3,4] (a2.put (some 15) u) w2
 generalize ha3:a2.put (some 15) u=a3
 have t15:a3.tmps[15]? = some u:=by rw[← ha3];exact Z5B (by omega)
 have hz3:a3.tmps.size=17:=by rw[← ha3];show(a2.tmps.setIfInBounds 15 u).size=17;rw[Array.size_setIfInBounds];exact hz2
 have hd3:a3.defers=[]:=by rw[← ha3];exact hd2
 have hcall2:(execOp a3.eval ((rgO Tryz.f53 4).getD 2 default)).run Tryz.prog w2 = .ok (.enter 48 #[u]) w2:=by
  have hop:((rgO Tryz.f53 4).getD 2 default).op = .call ⟨.value (.func 48),#[.tmp 15],tsOf ((rgO Tryz.f53 4).getD 2 default)⟩:=by kernel_rfl
  have:=Z26 (P:=Tryz.prog) (f:=48) (by kernel_rfl) #[u] w2
  have hev:∀ f,a3.eval (.func f) = .func (.func f) #[] #[]:=fun f=>rfl
  have hev2:=Z5I t15
  generalize (rgO Tryz.f53 4).getD 2 default=o at hop ⊢
  simp[execOp,hop,resolve,hev,hev2,Deferred.ofValue,invoke,this]
 refine Z2o (o:=(rgO Tryz.f53 4).getD 2 default) (by kernel_rfl) (by kernel_rfl) (Z2J (ro:=none) (by intro c h;cases h) ?_)
 unfold Oper.wp
 rw[hcall2,Oper.upon_enter]
 refine(Z6e ((allW h).1.filter Z2r) (by have:=List.length_filter_le Z2r (allW h).1;omega) w2 Im2 #[u] (fun g hg=>(hIm2 g hg).2) rfl (fun i x v hx hv=>by
  rcases i with _ | i
  ·cases hx;cases hv;exact .d hu
  ·simp at hx)).mono ?_
 rintro e w3 ⟨v2,rfl,K3,ρ3,Im3,h31,h32,_,_,h35,_,r2⟩
 rw[show((rgO Tryz.f53 4).getD 2 default).dst=some 16 from by kernel_rfl]
 show wpOpsIn _ _ _ _ _ [3,4] (a3.put (some 16) v2) w3
 have r2':RelD w3 Im3 (.sl 1 ((((allW h).1.filter Z2r).map (·.addr)).map wdv)) v2:=by
  cases r2 with | d r=>exact r
 refine Z2o (o:=(rgO Tryz.f53 4).getD 3 default) (by kernel_rfl) (by kernel_rfl) (Z2J (ro:=none) (by intro c h;cases h) (Z66 (Zcg (x:=.tmp 16) (by kernel_rfl)) ?_))
 refine Z2o (o:=(rgO Tryz.f53 4).getD 4 default) (by kernel_rfl) (by kernel_rfl) (Z2J (ro:=none) (by intro c h;cases h) (Z66 (Zcg (x:=.const (.int .i64 0)) (by kernel_rfl)) ?_))
 rw[show((rgO Tryz.f53 4).getD 3 default).dst=some 2 from by kernel_rfl,show((rgO Tryz.f53 4).getD 4 default).dst=some 3 from by kernel_rfl,Z5I (a:=a3.put (some 16) v2) (Z5B (by omega))]
 have hs16:(a3.put (some 16) v2).tmps.size=17:=by show(a3.tmps.setIfInBounds 16 v2).size=17;rw[Array.size_setIfInBounds];exact hz3
 generalize ha4:a3.put (some 16) v2=a4 at hs16 ⊢
 have hd4:a4.defers=[]:=by rw[← ha4];exact hd3
 have t2:(a4.put (some 2) v2).tmps[2]? = some v2:=Z5B (by omega)
 have hs2:(a4.put (some 2) v2).tmps.size=17:=by show(a4.tmps.setIfInBounds 2 v2).size=17;rw[Array.size_setIfInBounds];exact hs16
 refine wpIn_ret ?_
 show Q .ret _ w3
 rw[← hQ]
 refine bodyPost_ret (results_tmp2 rfl _ _ _) (show a4.defers=[]from hd4) ?_
 rw[← hR]
 have q2:=Z5I (Z6N (u:=.int .i64 0) t2 (show 3≠2 by decide))
 have q3:=Z5I (a:=(a4.put (some 2) v2).put (some 3) (.int .i64 0)) (Z5B (u:=.int .i64 0) (by omega))
 have s1:=I1.kept.size
 have s2:=K2.size
 refine⟨_,rfl,Z3t (Z3t I1.kept K2 (fun g hg=>(I1.own _ _ g m hg).elim (·.1) (fun h=>h.elim))) K3 (fun _ h=>h.elim),fun _=>none,Im3,fun g hg=>.inr ?_,h32,fun _ _ _ q=>(by cases q),fun _ _ _ _ _ q=>(by cases q),fun _ _ q=>(by cases q),fun k B q=>by simp at q,.tu _ _ rfl fun i x v hx hv=>?_⟩
 ·rcases h31 g hg with q | q
  ·cases q.1
  ·omega
 rcases i with _ | _ | i
 ·cases hx;cases hv
  show Rel (fun _=>none) w3 Im3 _ (((a4.put (some 2) v2).put (some 3) (.int .i64 0)).tmps.getD 2 undef)
  rw[show((a4.put (some 2) v2).put (some 3) (.int .i64 0)).tmps.getD 2 undef=v2 from q2]
  exact .d r2'
 ·cases hx;cases hv
  show Rel (fun _=>none) w3 Im3 _ (((a4.put (some 2) v2).put (some 3) (.int .i64 0)).tmps.getD 3 undef)
  rw[show((a4.put (some 2) v2).put (some 3) (.int .i64 0)).tmps.getD 3 undef = .int .i64 0 from q3]
  exact .d (.sc _ rfl)
 ·simp at hx
theorem Zln(h:Heap)(e:(allW h).2=0):Z08 h=(((allW h).1.filter Z2r).map (·.addr),0):=by
 have e1:=Zdr h
 unfold Z08
 rw[e1,e]
 simp only[Prod.mk.injEq,and_true]
 rw[List.filter_map]
 congr 1
 refine List.filter_congr fun x hx=>?_
 have:=(ZhA x hx).1
 simp only[Function.comp,Z34,Z2r,this]
 by_cases hk:(atH h x.addr).1.kind=0<;>simp[hk]
theorem Zjy(h:Heap)(e:¬ (allW h).2=0):Z08 h=([],(allW h).2):=by
 have e1:=Zdr h
 have e8:(allW h).1=[]:=by
  unfold allW at e ⊢
  split at e
  ·rename_i hp;rw[if_pos hp];exact Ze7 h _ _ e
  ·rename_i hp;rw[if_neg hp]
 unfold Z08
 rw[e1,e8]
 rfl
theorem ZcQ(h:Heap)(hw:WOk h.words):GSpec Tryz.prog 53 [h.av] true (.tu [Z02 (Z08 h).1,int (Z08 h).2]) []:=by
 by_cases e:(allW h).2=0
 ·rw[Zln h e];exact ZaJ h hw e
 ·rw[Zjy h e];exact Z8L h hw e
end Go.Proofs.YtjflpmnenhdeeaaGreat
namespace Go.Proofs.YtjflpmnenhdeeaaGreat
open Go.Sx
theorem ZlQ{a v k:Nat}(ha:a<2^k)(hv:a+v*2^k<18446744073709551616):bits .or .u64 (a:Int) ((v*2^k:Nat):Int)=((a+v*2^k:Nat):Int):=by
 rw[bits_or_u64_nat a (v*2^k) (by omega) (by omega),Nat.mul_comm v,Nat.or_comm,← Nat.two_pow_add_eq_or_of_lt ha,Nat.add_comm]
theorem Zd0{v n:Nat}(hn:n≤64)(hv:v<2^n):bits .andNot .u64 (v:Int) (2^n-1)=0:=by
 have h64:(2:Nat)^n≤2^64:=Nat.pow_le_pow_right (by decide) hn
 have hp:0<(2:Nat)^n:=Nat.two_pow_pos n
 have e:((2:Int)^n-1)=((2^n-1:Nat):Int):=by
  have:((2^n:Nat):Int)=2^n:=by simp
  omega
 rw[e]
 have h1:(BitVec.ofInt 64 (v:Int)).toNat=v:=by
  rw[BitVec.ofInt_natCast,BitVec.toNat_ofNat];exact Nat.mod_eq_of_lt (by omega)
 have h2:(BitVec.ofInt 64 ((2^n-1:Nat):Int)).toNat=2^n-1:=by
  rw[BitVec.ofInt_natCast,BitVec.toNat_ofNat];exact Nat.mod_eq_of_lt (by omega)
 show IntKind.u64.wrap ((BitVec.ofInt 64 (v:Int) &&& ~~~ BitVec.ofInt 64 ((2^n-1:Nat):Int)).toNat:Int)=_
 rw[BitVec.toNat_and,BitVec.toNat_not,h1,h2]
 have e2:2^64-1-(2^n-1)=2^n*(2^(64-n)-1):=by
  have:(2:Nat)^64=2^n*2^(64-n):=by rw[← Nat.pow_add];congr 1;omega
  rw[Nat.mul_sub,Nat.mul_one,← this];omega
 have e3:v &&& (2^64-1-(2^n-1))=0:=by
  rw[e2]
  apply Nat.eq_of_testBit_eq
  intro i
  rw[Nat.testBit_and,Nat.zero_testBit,Nat.testBit_two_pow_mul]
  by_cases hi:n≤i
  ·rw[Nat.testBit_lt_two_pow (Nat.lt_of_lt_of_le hv (Nat.pow_le_pow_right (by decide) hi)),Bool.false_and]
  ·simp[hi]
 rw[e3]
 decide
theorem Z7h(v n:Int)(h0:0≤v)(hn:0≤n∧n≤64)(hv:v<2^n.toNat):GSpec Tryz.prog 147 [u64 v,int n] true (bool true) []:=by
 have e:bits .andNot .u64 v (ones n)=0:=by
  obtain⟨a,rfl⟩:=Int.eq_ofNat_of_zero_le h0
  rw[ones,Nat.min_eq_left (by omega)]
  exact Zd0 (by omega) (by exact_mod_cast hv)
 exact gF [] Tryz.func147 [true] (Fc 7 (@Z5e n) (Fb ((bits BinOp.andNot IntKind.u64 v (ones n)==0)=true) Fz))
structure BField where
 width:Int
 value:Int
 deriving DecidableEq,Inhabited
def BField.dv(f:BField):List DV:=[.sc (.int .i64 f.width),.sc (.int .u64 f.value)]
def Z0s(k l m:Int):List BField:=[⟨2,1⟩,⟨2,k⟩,⟨12,l⟩,⟨32,m⟩]
def pk1(k l m:Int)(i:Nat):Tg:=⟨tm 55 [(0,.d (.sl 2 ((Z0s k l m).map BField.dv))),(2,u64 0),(3,int 0),(4,int ([64,62,60,48,16].getD i 0)),(11,.d (.sl 2 ((Z0s k l m).map BField.dv))),(12,int (Z0s k l m).length),(13,int i)],[],4⟩
theorem ZhX(k l m:Int)(i:Nat)(hi:i<4):CSpec Tryz.prog (rndF Tryz.f117 0) (pk1 k l m i).st .nrm (pk1 k l m (i+1)).st:=by
 have eL:(Z0s k l m).length=4:=rfl
 have e0:(Z0s k l m).getD 0 default=⟨2,1⟩:=rfl
 have e1:(Z0s k l m).getD 1 default=⟨2,k⟩:=rfl
 have e2:(Z0s k l m).getD 2 default=⟨12,l⟩:=rfl
 have e3:(Z0s k l m).getD 3 default=⟨32,m⟩:=rfl
 have h:i=0∨i=1∨i=2∨i=3:=by omega
 rcases h with rfl | rfl | rfl | rfl
 ·refine stretchE [((15:Nat),[Hint.el ((Z0s k l m).getD (0:Nat) default).dv]),((29:Nat),[Hint.int ((64:Int)-((Z0s k l m).getD (0:Nat) default).width)])] [] [] [] (φ:=((0:Int)≤(↑(0:Nat):Int)∧(List.map BField.dv (Z0s k l m))[(↑(0:Nat):Int).toNat]? = some ((Z0s k l m).getD (0:Nat) default).dv)∧IntKind.i64.wrap ([(64:Int),(62:Int),(60:Int),(48:Int),(16:Int)].getD (0:Nat) (0:Int)-((Z0s k l m).getD (0:Nat) default).width)=(64:Int)-((Z0s k l m).getD (0:Nat) default).width) ?_ (by kernel_rfl) (by kernel_rfl) (by kernel_rfl)
  exact⟨(by exact elI (by omega) (by omega) (by omega)),rfl⟩
 ·refine stretchE [((15:Nat),[Hint.el ((Z0s k l m).getD (1:Nat) default).dv]),((29:Nat),[Hint.int ((62:Int)-((Z0s k l m).getD (1:Nat) default).width)])] [] [] [] (φ:=((0:Int)≤(↑(1:Nat):Int)∧(List.map BField.dv (Z0s k l m))[(↑(1:Nat):Int).toNat]? = some ((Z0s k l m).getD (1:Nat) default).dv)∧IntKind.i64.wrap ([(64:Int),(62:Int),(60:Int),(48:Int),(16:Int)].getD (1:Nat) (0:Int)-((Z0s k l m).getD (1:Nat) default).width)=(62:Int)-((Z0s k l m).getD (1:Nat) default).width) ?_ (by kernel_rfl) (by kernel_rfl) (by kernel_rfl)
  exact⟨(by exact elI (by omega) (by omega) (by omega)),rfl⟩
 ·refine stretchE [((15:Nat),[Hint.el ((Z0s k l m).getD (2:Nat) default).dv]),((29:Nat),[Hint.int ((60:Int)-((Z0s k l m).getD (2:Nat) default).width)])] [] [] [] (φ:=((0:Int)≤(↑(2:Nat):Int)∧(List.map BField.dv (Z0s k l m))[(↑(2:Nat):Int).toNat]? = some ((Z0s k l m).getD (2:Nat) default).dv)∧IntKind.i64.wrap ([(64:Int),(62:Int),(60:Int),(48:Int),(16:Int)].getD (2:Nat) (0:Int)-((Z0s k l m).getD (2:Nat) default).width)=(60:Int)-((Z0s k l m).getD (2:Nat) default).width) ?_ (by kernel_rfl) (by kernel_rfl) (by kernel_rfl)
  exact⟨(by exact elI (by omega) (by omega) (by omega)),rfl⟩
 ·refine stretchE [((15:Nat),[Hint.el ((Z0s k l m).getD (3:Nat) default).dv]),((29:Nat),[Hint.int ((48:Int)-((Z0s k l m).getD (3:Nat) default).width)])] [] [] [] (φ:=((0:Int)≤(↑(3:Nat):Int)∧(List.map BField.dv (Z0s k l m))[(↑(3:Nat):Int).toNat]? = some ((Z0s k l m).getD (3:Nat) default).dv)∧IntKind.i64.wrap ([(64:Int),(62:Int),(60:Int),(48:Int),(16:Int)].getD (3:Nat) (0:Int)-((Z0s k l m).getD (3:Nat) default).width)=(48:Int)-((Z0s k l m).getD (3:Nat) default).width) ?_ (by kernel_rfl) (by kernel_rfl) (by kernel_rfl)
  exact⟨(by exact elI (by omega) (by omega) (by omega)),rfl⟩
theorem ZlO(k l m:Int):CSpec Tryz.prog (rndF Tryz.f117 0) (pk1 k l m 4).st (.ext 0) (Tg.st ⟨tm 55 [(0,.d (.sl 2 ((Z0s k l m).map BField.dv))),(2,u64 0),(3,int 0)],[],4⟩):=by
 have eL:(Z0s k l m).length=4:=rfl
 refine stretchE [] [] [] [] (φ:=True) ?_ (by kernel_rfl) (by kernel_rfl) (by kernel_rfl)
 exact trivial
theorem Zlg(k l m:Int):CSpec Tryz.prog (blkF Tryz.f117 0) (Tg.st ⟨tm 55 [(0,.d (.sl 2 ((Z0s k l m).map BField.dv))),(2,u64 0),(3,int 0),(4,int 64),(11,.d (.sl 2 ((Z0s k l m).map BField.dv))),(12,int (Z0s k l m).length),(13,int 0)],[],4⟩) .nrm (Tg.st ⟨tm 55 [(0,.d (.sl 2 ((Z0s k l m).map BField.dv))),(2,u64 0),(3,int 0)],[],4⟩) :=
 Z0c (S:=fun i=>(pk1 k l m i).st) 4 (by kernel_rfl) (fun i hi=>ZhX k l m i hi) (ZlO k l m)
def pkW(k l m:Int)(i:Nat):Int:=[0,1,1+4*k,1+4*k+16*l,1+4*k+16*l+65536*m].getD i 0
def pk2(k l m:Int)(i:Nat):Tg:=⟨tm 55 [(2,u64 0),(3,int 0),(7,u64 (pkW k l m i)),(8,int ([0,2,4,16,48].getD i 0)),(31,.d (.sl 2 ((Z0s k l m).map BField.dv))),(32,int (Z0s k l m).length),(33,int i)],[],6⟩
theorem orI(n:Nat){p a v:Int}(hp:p=((2^n:Nat):Int))(ha:0≤a)(hv:0≤v)(h1:a<p)(h2:a+v*p<18446744073709551616):bits .or .u64 a (IntKind.u64.wrap (v*p))=a+v*p:=by
 obtain⟨x,rfl⟩:=Int.eq_ofNat_of_zero_le ha
 obtain⟨y,rfl⟩:=Int.eq_ofNat_of_zero_le hv
 have hm:(y:Int)*p=((y*2^n:Nat):Int):=by rw[hp,Int.natCast_mul]
 rw[hm]at h2 ⊢
 rw[wrapU' (by omega) (by omega)]
 exact ZlQ (by omega) (by omega)
theorem ZiQ(k l m:Int)(i:Nat)(h1:0≤k∧k≤3)(h2:0≤l∧l≤255)(h3:0≤m∧m≤4294967295)(hi:i<4):CSpec Tryz.prog (rndF Tryz.f117 2) (pk2 k l m i).st .nrm (pk2 k l m (i+1)).st:=by
 have eL:(Z0s k l m).length=4:=rfl
 have e0:(Z0s k l m).getD 0 default=⟨2,1⟩:=rfl
 have e1:(Z0s k l m).getD 1 default=⟨2,k⟩:=rfl
 have e2:(Z0s k l m).getD 2 default=⟨12,l⟩:=rfl
 have e3:(Z0s k l m).getD 3 default=⟨32,m⟩:=rfl
 have h:i=0∨i=1∨i=2∨i=3:=by omega
 have f1:bits .or .u64 (pkW k l m 1) (IntKind.u64.wrap (((Z0s k l m).getD 1 default).value*4))=pkW k l m (1+1):=(orI 2 (a:=1) (v:=k) (by decide) (by omega) (by omega) (by omega) (by omega)).trans (by show _=1+4*k;omega)
 have f2:bits .or .u64 (pkW k l m 2) (IntKind.u64.wrap (((Z0s k l m).getD 2 default).value*16))=pkW k l m (2+1):=(orI 4 (a:=1+4*k) (v:=l) (by decide) (by omega) (by omega) (by omega) (by omega)).trans (by show _=1+4*k+16*l;omega)
 have f3:bits .or .u64 (pkW k l m 3) (IntKind.u64.wrap (((Z0s k l m).getD 3 default).value*65536))=pkW k l m (3+1):=(orI 16 (a:=1+4*k+16*l) (v:=m) (by decide) (by omega) (by omega) (by omega) (by omega)).trans (by show _=1+4*k+16*l+65536*m;omega)
 rcases h with rfl | rfl | rfl | rfl
 ·refine stretchE [((35:Nat),[Hint.el ((Z0s k l m).getD (0:Nat) default).dv]),((41:Nat),[Hint.call true (Sx.bool true) []]),((47:Nat),[Hint.int (((Z0s k l m).getD (0:Nat) default).value*(1:Int))]),((52:Nat),[Hint.int ((0:Int)+((Z0s k l m).getD (0:Nat) default).width)])] [] [] [] (φ:=((0:Int)≤(↑(0:Nat):Int)∧(List.map BField.dv (Z0s k l m))[(↑(0:Nat):Int).toNat]? = some ((Z0s k l m).getD (0:Nat) default).dv)∧GSpec Tryz.prog 147 [u64 ((Z0s k l m).getD (0:Nat) default).value,int ((Z0s k l m).getD (0:Nat) default).width] true (Sx.bool true) []∧IntKind.u64.wrap (((Z0s k l m).getD (0:Nat) default).value*(2:Int)^min ([(0:Int),(2:Int),(4:Int),(16:Int),(48:Int)].getD (0:Nat) (0:Int)).toNat (64:Nat))=((Z0s k l m).getD (0:Nat) default).value*(1:Int)∧(0:Int)≤[(0:Int),(2:Int),(4:Int),(16:Int),(48:Int)].getD (0:Nat) (0:Int)∧IntKind.i64.wrap ([(0:Int),(2:Int),(4:Int),(16:Int),(48:Int)].getD (0:Nat) (0:Int)+((Z0s k l m).getD (0:Nat) default).width)=(0:Int)+((Z0s k l m).getD (0:Nat) default).width) ?_ (by kernel_rfl) (by kernel_rfl) (by kernel_rfl)
  exact⟨(by exact elI (by omega) (by omega) (by omega)),(@Z7h (((Z0s k l m).getD (0:Nat) default).value) (((Z0s k l m).getD (0:Nat) default).width) (by grind[pkW]) (by grind[pkW]) (by grind[pkW])),rfl,(by simp[pkW, *]),rfl⟩
 ·refine stretchE [((35:Nat),[Hint.el ((Z0s k l m).getD (1:Nat) default).dv]),((41:Nat),[Hint.call true (Sx.bool true) []]),((48:Nat),[Hint.int (bits BinOp.or IntKind.u64 (pkW k l m (1:Nat)) (IntKind.u64.wrap (((Z0s k l m).getD (1:Nat) default).value*(4:Int))))]),((52:Nat),[Hint.int ((2:Int)+((Z0s k l m).getD (1:Nat) default).width)])] [] [] [false,false,true] (φ:=((0:Int)≤(↑(1:Nat):Int)∧(List.map BField.dv (Z0s k l m))[(↑(1:Nat):Int).toNat]? = some ((Z0s k l m).getD (1:Nat) default).dv)∧GSpec Tryz.prog 147 [u64 ((Z0s k l m).getD (1:Nat) default).value,int ((Z0s k l m).getD (1:Nat) default).width] true (Sx.bool true) []∧(0:Int)≤[(0:Int),(2:Int),(4:Int),(16:Int),(48:Int)].getD (1:Nat) (0:Int)∧bits BinOp.or IntKind.u64 (pkW k l m (1:Nat)) (IntKind.u64.wrap (((Z0s k l m).getD (1:Nat) default).value*(2:Int)^min ([(0:Int),(2:Int),(4:Int),(16:Int),(48:Int)].getD (1:Nat) (0:Int)).toNat (64:Nat)))=bits BinOp.or IntKind.u64 (pkW k l m (1:Nat)) (IntKind.u64.wrap (((Z0s k l m).getD (1:Nat) default).value*(4:Int)))∧IntKind.i64.wrap ([(0:Int),(2:Int),(4:Int),(16:Int),(48:Int)].getD (1:Nat) (0:Int)+((Z0s k l m).getD (1:Nat) default).width)=(2:Int)+((Z0s k l m).getD (1:Nat) default).width∧bits BinOp.or IntKind.u64 (pkW k l m (1:Nat)) (IntKind.u64.wrap (((Z0s k l m).getD (1:Nat) default).value*(4:Int)))=pkW k l m ((1:Nat)+(1:Nat))) ?_ (by kernel_rfl) (by kernel_rfl) (by kernel_rfl)
  exact⟨(by exact elI (by omega) (by omega) (by omega)),(@Z7h (((Z0s k l m).getD (1:Nat) default).value) (((Z0s k l m).getD (1:Nat) default).width) (by simp only[bs, *,true_or,or_true,true_and,and_true,not_true_eq_false,not_false_eq_true,Bool.true_eq_false,Bool.false_eq_true]) (by grind[pkW]) (by grind[pkW])),(by simp[pkW, *]),rfl,rfl,‹_›⟩
 ·refine stretchE [((35:Nat),[Hint.el ((Z0s k l m).getD (2:Nat) default).dv]),((41:Nat),[Hint.call true (Sx.bool true) []]),((48:Nat),[Hint.int (bits BinOp.or IntKind.u64 (pkW k l m (2:Nat)) (IntKind.u64.wrap (((Z0s k l m).getD (2:Nat) default).value*(16:Int))))]),((52:Nat),[Hint.int ((4:Int)+((Z0s k l m).getD (2:Nat) default).width)])] [] [] [false,false,true] (φ:=((0:Int)≤(↑(2:Nat):Int)∧(List.map BField.dv (Z0s k l m))[(↑(2:Nat):Int).toNat]? = some ((Z0s k l m).getD (2:Nat) default).dv)∧GSpec Tryz.prog 147 [u64 ((Z0s k l m).getD (2:Nat) default).value,int ((Z0s k l m).getD (2:Nat) default).width] true (Sx.bool true) []∧(0:Int)≤[(0:Int),(2:Int),(4:Int),(16:Int),(48:Int)].getD (2:Nat) (0:Int)∧bits BinOp.or IntKind.u64 (pkW k l m (2:Nat)) (IntKind.u64.wrap (((Z0s k l m).getD (2:Nat) default).value*(2:Int)^min ([(0:Int),(2:Int),(4:Int),(16:Int),(48:Int)].getD (2:Nat) (0:Int)).toNat (64:Nat)))=bits BinOp.or IntKind.u64 (pkW k l m (2:Nat)) (IntKind.u64.wrap (((Z0s k l m).getD (2:Nat) default).value*(16:Int)))∧IntKind.i64.wrap ([(0:Int),(2:Int),(4:Int),(16:Int),(48:Int)].getD (2:Nat) (0:Int)+((Z0s k l m).getD (2:Nat) default).width)=(4:Int)+((Z0s k l m).getD (2:Nat) default).width∧bits BinOp.or IntKind.u64 (pkW k l m (2:Nat)) (IntKind.u64.wrap (((Z0s k l m).getD (2:Nat) default).value*(16:Int)))=pkW k l m ((2:Nat)+(1:Nat))) ?_ (by kernel_rfl) (by kernel_rfl) (by kernel_rfl)
  exact⟨(by exact elI (by omega) (by omega) (by omega)),(@Z7h (((Z0s k l m).getD (2:Nat) default).value) (((Z0s k l m).getD (2:Nat) default).width) (by simp only[bs, *,true_or,or_true,true_and,and_true,not_true_eq_false,not_false_eq_true,Bool.true_eq_false,Bool.false_eq_true]) (by grind[pkW]) (by grind[pkW])),(by simp[pkW, *]),rfl,rfl,‹_›⟩
 ·refine stretchE [((35:Nat),[Hint.el ((Z0s k l m).getD (3:Nat) default).dv]),((41:Nat),[Hint.call true (Sx.bool true) []]),((48:Nat),[Hint.int (bits BinOp.or IntKind.u64 (pkW k l m (3:Nat)) (IntKind.u64.wrap (((Z0s k l m).getD (3:Nat) default).value*(65536:Int))))]),((52:Nat),[Hint.int ((16:Int)+((Z0s k l m).getD (3:Nat) default).width)])] [] [] [false,false,true] (φ:=((0:Int)≤(↑(3:Nat):Int)∧(List.map BField.dv (Z0s k l m))[(↑(3:Nat):Int).toNat]? = some ((Z0s k l m).getD (3:Nat) default).dv)∧GSpec Tryz.prog 147 [u64 ((Z0s k l m).getD (3:Nat) default).value,int ((Z0s k l m).getD (3:Nat) default).width] true (Sx.bool true) []∧(0:Int)≤[(0:Int),(2:Int),(4:Int),(16:Int),(48:Int)].getD (3:Nat) (0:Int)∧bits BinOp.or IntKind.u64 (pkW k l m (3:Nat)) (IntKind.u64.wrap (((Z0s k l m).getD (3:Nat) default).value*(2:Int)^min ([(0:Int),(2:Int),(4:Int),(16:Int),(48:Int)].getD (3:Nat) (0:Int)).toNat (64:Nat)))=bits BinOp.or IntKind.u64 (pkW k l m (3:Nat)) (IntKind.u64.wrap (((Z0s k l m).getD (3:Nat) default).value*(65536:Int)))∧IntKind.i64.wrap ([(0:Int),(2:Int),(4:Int),(16:Int),(48:Int)].getD (3:Nat) (0:Int)+((Z0s k l m).getD (3:Nat) default).width)=(16:Int)+((Z0s k l m).getD (3:Nat) default).width∧bits BinOp.or IntKind.u64 (pkW k l m (3:Nat)) (IntKind.u64.wrap (((Z0s k l m).getD (3:Nat) default).value*(65536:Int)))=pkW k l m ((3:Nat)+(1:Nat))) ?_ (by kernel_rfl) (by kernel_rfl) (by kernel_rfl)
  exact⟨(by exact elI (by omega) (by omega) (by omega)),(@Z7h (((Z0s k l m).getD (3:Nat) default).value) (((Z0s k l m).getD (3:Nat) default).width) (by simp only[bs, *,true_or,or_true,true_and,and_true,not_true_eq_false,not_false_eq_true,Bool.true_eq_false,Bool.false_eq_true]) (by grind[pkW]) (by grind[pkW])),(by simp[pkW, *]),rfl,rfl,‹_›⟩
theorem Zm1(k l m:Int):CSpec Tryz.prog (rndF Tryz.f117 2) (pk2 k l m 4).st (.ext 2) (Tg.st ⟨tm 55 [(2,u64 0),(3,int 0),(7,u64 (1+4*k+16*l+65536*m))],[],6⟩):=by
 have eL:(Z0s k l m).length=4:=rfl
 have ew:pkW k l m 4=1+4*k+16*l+65536*m:=rfl
 refine stretchE [] [] [] [] (φ:=True) ?_ (by kernel_rfl) (by kernel_rfl) (by kernel_rfl)
 exact trivial
theorem Zku(k l m:Int)(h1:0≤k∧k≤3)(h2:0≤l∧l≤255)(h3:0≤m∧m≤4294967295):CSpec Tryz.prog (blkF Tryz.f117 2) (Tg.st ⟨tm 55 [(2,u64 0),(3,int 0),(7,u64 0),(8,int 0),(31,.d (.sl 2 ((Z0s k l m).map BField.dv))),(32,int (Z0s k l m).length),(33,int 0)],[],6⟩) .nrm (Tg.st ⟨tm 55 [(2,u64 0),(3,int 0),(7,u64 (1+4*k+16*l+65536*m))],[],6⟩) :=
 Z0c (S:=fun i=>(pk2 k l m i).st) 4 (by kernel_rfl) (fun i hi=>ZiQ k l m i h1 h2 h3 hi) (Zm1 k l m)
theorem Zi8(k l m:Int)(h1:0≤k∧k≤3)(h2:0≤l∧l≤255)(h3:0≤m∧m≤4294967295):GSpec Tryz.prog 117 [.d (.sl 2 ((Z0s k l m).map BField.dv))] true (.tu [u64 (1+4*k+16*l+65536*m),int 0]) []:=by
 exact gF [] Tryz.func117 [] (Fg 12 (rfl:(↑(List.map BField.dv (Z0s k l m)).length:Int)=(↑(Z0s k l m).length:Int)) (Fu (@Zlg k l m) (Fg 32 (rfl:(↑(List.map BField.dv (Z0s k l m)).length:Int)=(↑(Z0s k l m).length:Int)) (Fu (@Zku k l m ‹_› ‹_› ‹_›) Fz))))
theorem Z3s(h:Header)(hm:0≤h.map∧h.map≤4294967295):GSpec Tryz.prog 77 [h.av] true (.tu [u64 (Z06 h).1,int (Z06 h).2]) []:=by
 rcases bb (!Z0i h)with hc0 | hc0<;>have hc0p:=hc0<;>simp only[bs]at hc0p
 ·exact gF [] Tryz.func77 [true] (Fc 5 (@Z2H h ‹_›) (Ft 6 hc0 (Fa (by simp[Z06, *]:0=(Z06 h).fst) (Fa (by simp[Z06, *]:1=(Z06 h).snd) Fz))))
 ·have hf3:=validH_iff.1 hc0p
  obtain⟨hf3a,⟨hf3ba,⟨hf3bba,⟨hf3bbba,hf3bbbb⟩⟩⟩⟩:=hf3
  exact gF [] Tryz.func77 [true] (Fc 5 (@Z2H h ‹_›) (Ff 6 hc0 (Fv 10 h.kind (Fv 14 h.length (Fv 18 h.map (Fs 20 (List.map BField.dv [BField.mk 2 1,BField.mk 2 h.kind,BField.mk 12 h.length,BField.mk 32 h.map]) (Fc 21 (@Zi8 h.kind h.length h.map (by omega) (by omega) ‹_›) (Fa (by simp[Z06, *]:(1:Int)+4*h.kind+16*h.length+65536*h.map=(Z06 h).fst) (Fa (by simp[Z06, *]:0=(Z06 h).snd) Fz)))))))))
theorem ZjT{α β:Type}{f:α→β}{l:List α}(h:l≠[]):l.map f≠[]:=by simpa using h
theorem Zd8(ws:List Int)(hw:ws.length≤1048576)(hne:ws≠[]):GSpec Tryz.prog 119 [Z02 ws] true (.ow 0) [.arr 39 1 (ws.map wdv)]:=by
 exact gF [24007] Tryz.func119 [] (Fa (by exact ZjT hne:List.map wdv ws≠[]) (Fs 5 (List.map wdv []) (Fa (by(simp[*];omega):(List.map wdv []).length+(List.map wdv ws).length≤2^30) (Fs 7 (List.map wdv ws) (Fa (by exact Z46 _:Z1n (List.map wdv ws)) Fz)))))
theorem ZeO(l:List Page)(hl:l.length≤1048576)(hne:l≠[]):GSpec Tryz.prog 74 [Z0z l] true (Z0z l) []:=by
 exact gF [] Tryz.func74 [] (Fa (by exact ZjT hne:List.map Page.dv l≠[]) (Fs 5 (List.map Page.dv []) (Fa (by(simp[*];omega):(List.map Page.dv []).length+(List.map Page.dv l).length≤2^30) (Fs 7 (List.map Page.dv l) (Fa (by exact Z3H _:Z1n (List.map Page.dv l)) Fz)))))
theorem Zbi{α:Type}{l:List α}(h:0<l.length):l≠[]:=by
 rintro rfl
 simp at h
theorem Z6x(ws l:List Int)(a:Int)(hw:ws.length≤1048576)(hl:l.length≤1048576)(h0:0≤a∧a≤18446744073709551615)(hn:0<l.length):GSpec Tryz.prog 78 [Z02 ws,u64 a,Z02 l] true (.tu [Z02 (Z0b ws a l).1,int (Z0b ws a l).2]) []:=by
 by_cases h:4096≤a∧a-4096+l.length≤ws.length
 ·have e7:Z0b ws a l=(spl ws (a-4096).toNat l,0):=by rw[Z0b,if_pos h]
  have e1:Z0a ws a (l.length:Int)=(a-4096,true):=by
   rw[Z0a,if_pos (by omega)]
   simp;omega
  have e2:=congrArg (fun x=>x.1) e1
  have e3:=congrArg (fun x=>x.2) e1
  simp only at e2 e3
  have hne:ws≠[]:=Zbi (by omega)
  have hs:Z0M (List.map wdv ws) (Z0a ws a l.length).1.toNat (List.map wdv l)=List.map wdv (List.take (Z0a ws a l.length).1.toNat ws++l++List.drop ((Z0a ws a l.length).1.toNat+l.length) ws):=by simp[Z0M]
  rw[e7]
  exact gF [] Tryz.func78 [true] (Fh 27 [.els (List.map wdv (List.take (Z0a ws a (↑l.length:Int)).fst.toNat ws++l++List.drop ((Z0a ws a (↑l.length:Int)).fst.toNat+l.length) ws))] (Fl 15 wdv l (Fc 16 (@Z53 ws a ((↑l.length:Int)) ‹_› ‹_›) (Ffb 20 (!(Z0a ws a (↑l.length:Int)).snd) (Fc 22 (@Zd8 ws ‹_› ‹_›) (Fa (by(simp only[List.length_map];omega):0≤(Z0a ws a (↑l.length:Int)).fst∧(Z0a ws a (↑l.length:Int)).fst≤(↑(List.map wdv ws).length:Int)) (Fa (by(simp only[List.length_map];omega):(List.map wdv l).length≤(↑(List.map wdv ws).length:Int).toNat-(Z0a ws a (↑l.length:Int)).fst.toNat) (Fa (by exact hs:Z0M (List.map wdv ws) (Z0a ws a (↑l.length:Int)).fst.toNat (List.map wdv l)=List.map wdv (List.take (Z0a ws a (↑l.length:Int)).fst.toNat ws++l++List.drop ((Z0a ws a (↑l.length:Int)).fst.toNat+l.length) ws)) (Fa (by exact Z46 _:Z1n (List.map wdv (List.take (Z0a ws a (↑l.length:Int)).fst.toNat ws++l++List.drop ((Z0a ws a (↑l.length:Int)).fst.toNat+l.length) ws))) (Fa (by refine congrArg _ ?_;simp[spl, *]:List.map wdv (List.take (Z0a ws a (↑l.length:Int)).fst.toNat ws++l++List.drop ((Z0a ws a (↑l.length:Int)).fst.toNat+l.length) ws)=List.map wdv (spl ws (a-4096).toNat l,0).fst) (Fr (0:Int) Fz)))))))))))
 ·have e7:Z0b ws a l=([],2):=by rw[Z0b,if_neg h]
  have e3:(Z0a ws a (l.length:Int)).2=false:=by
   unfold Z0a
   split
   ·simp;omega
   ·rfl
  rw[e7]
  exact gF [] Tryz.func78 [] (Fl 15 wdv l (Fc 16 (@Z53 ws a ((↑l.length:Int)) ‹_› ‹_›) (Ftb 20 (!(Z0a ws a (↑l.length:Int)).snd) (Fnl Fz))))
theorem Z5n(h:Heap)(ws:List Int)(e:Int)(hp:h.pages.length≤1048576)(he:e=0)(hne:h.pages≠[]):GSpec Tryz.prog 79 [h.av,Z02 ws,int e] false (.tu [Heap.av ⟨h.conf,ws,h.pages,h.space,h.bump⟩,int 0]) []:=by
 exact gF [] Tryz.func79 [] (Ffb 9 (e != 0) (Fc 15 (@ZeO h.pages ‹_› ‹_›) Fz))
theorem Z8z(h:Heap)(ws:List Int)(e:Int)(he:¬ e=0):GSpec Tryz.prog 79 [h.av,Z02 ws,int e] false (.tu [noHeap.av,int e]) []:=by
 exact gF [] Tryz.func79 [] (Ftb 9 (e != 0) (Fnl (Fnl Fz)))
theorem ZjC:GSpec Tryz.prog 40 [.ag [int 16,int 8]] true (.tu [.ag [int 16,int 8,.ow 0,.ow 1,int 0,int (-1)],int 0]) [.arr 39 1 ((List.replicate 128 0).map wdv),.arr 56 4 ((List.replicate 8 (⟨0,0,0,0⟩:Page)).map Page.dv)]:=by
 have h:Z07 ⟨16,8⟩=true:=by decide
 have ei:(8:Int)*16=128:=rfl
 exact gF [24014,24017] Tryz.func40 [] (Fc 5 (@Z0u (Conf.mk 16 8)) (Fa (by decide+kernel:0≤IntKind.i64.wrap ((8:Int)*16)∧IntKind.i64.wrap ((8:Int)*16)≤IntKind.i64.wrap ((8:Int)*16)∧IntKind.i64.wrap ((8:Int)*16)*((↑(nat_lit 7):Int)+1)≤2^48) (Fs 14 (List.map wdv (List.replicate (Int.toNat 128) 0)) (Fa (by decide+kernel:(0:Int)≤(8:Int)∧(8:Int)≤(8:Int)∧8*((↑(nat_lit 31):Int)+1)≤2^48) (Fs 17 (List.map Page.dv [Page.mk 0 0 0 0,Page.mk 0 0 0 0,Page.mk 0 0 0 0,Page.mk 0 0 0 0,Page.mk 0 0 0 0,Page.mk 0 0 0 0,Page.mk 0 0 0 0,Page.mk 0 0 0 0]) (Fa (by exact Z46 _:Z1n (List.map wdv (List.replicate (Int.toNat 128) 0))) (Fa (by exact Z3H _:Z1n (List.map Page.dv [Page.mk 0 0 0 0,Page.mk 0 0 0 0,Page.mk 0 0 0 0,Page.mk 0 0 0 0,Page.mk 0 0 0 0,Page.mk 0 0 0 0,Page.mk 0 0 0 0,Page.mk 0 0 0 0])) Fz)))))))
structure PgOk (c:Conf) (p:Page):Prop where
 s:0≤p.space∧p.space≤1
 n:0≤p.pins∧p.pins≤2147483647
 k:0≤p.kind∧p.kind≤3
 k0:p.kind=0→p.space=0∧p.used=0∧p.pins=0
 k1:p.kind=1→0≤p.used∧p.used≤c.pw
 k3:p.kind=3→p.used=0∧p.pins=0
structure PT (c:Conf) (l:List Page):Prop where
 b:∀ i,i<l.length→PgOk c (l.getD i default)
 lg:∀ i,i<l.length→(l.getD i default).kind=2→1≤need c (l.getD i default).used∧∀ m:Nat,1≤m→(m:Int)<need c (l.getD i default).used→i+m<l.length∧(l.getD (i+m) default).kind=3∧(l.getD (i+m) default).space=(l.getD i default).space
 tl:∀ i,i<l.length→(l.getD i default).kind=3→∃ j,j<i∧(l.getD j default).kind=2∧(i:Int)<j+need c (l.getD j default).used
def Z4m(c:Conf)(l:List Page):Nat→Int
 | 0=>0
 | i+1=>rdue c l i (Z4m c l i)
theorem ZgH{c:Conf}{l:List Page}:∀ {f i:Nat},l.length≤i+f→(rpB c l f i (Z4m c l i)=true↔∀ j,i≤j→j<l.length→rchk c l j (Z4m c l j))
 | 0,i,h=>by
  simp only[rpB,true_iff]
  intro j h1 h2
  omega
 | f+1,i,h=>by
  unfold rpB
  by_cases hi:i<l.length
  ·rw[if_pos hi,Bool.and_eq_true,decide_eq_true_eq,show rdue c l i (Z4m c l i)=Z4m c l (i+1)from rfl,ZgH (f:=f) (i:=i+1) (by omega)]
   constructor
   ·rintro⟨h1,h2⟩ j h3 h4
    by_cases hj:j=i
    ·subst hj;exact h1
    ·exact h2 j (by omega) h4
   ·intro hh
    exact⟨hh i (Nat.le_refl _) hi,fun j h3 h4=>hh j (by omega) h4⟩
  ·rw[if_neg hi]
   simp only[true_iff]
   intro j h1 h2
   omega
theorem Z8v{c:Conf}{l:List Page}:∀ i,0≤Z4m c l i→0<Z4m c l i→∃ j,j<i∧(l.getD j default).kind=2∧Z4m c l i=j+need c (l.getD j default).used-i
 | 0,_,h=>by simp[Z4m]at h
 | i+1,h0,h=>by
  simp only[Z4m,rdue]at h0 h ⊢
  split at h
  ·rename_i hk
   refine⟨i,by omega,hk, ?_⟩
   rw[if_pos hk];omega
  ·rename_i hk
   have h1:1<Z4m c l i:=by omega
   obtain⟨j,j1,j2,j3⟩:=Z8v (c:=c) (l:=l) i (by omega) (by omega)
   refine⟨j,by omega,j2, ?_⟩
   rw[if_neg hk];omega
theorem Z99(sp:Int):∀ (l:List Page) (k:Nat),(∀ m,m<k→m<l.length∧(l.getD m default).kind=3∧(l.getD m default).space=sp)→k≤Z18 sp l
 | _,0,_=>Nat.zero_le _
 | [],k+1,h=>by have:=(h 0 (by omega)).1;simp at this
 | p::l,k+1,h=>by
  have h0:=(h 0 (by omega)).2
  simp only[List.getD_cons_zero]at h0
  rw[Z18,if_pos h0]
  have:=Z99 sp l k fun m hm=>by
   have:=h (m+1) (by omega)
   simpa using this
  omega
theorem PT.due{c:Conf}{l:List Page}(h:PT c l){i:Nat}(hi:i<l.length)(hk:(l.getD i default).kind=2):∀ m:Nat,(m:Int)<need c (l.getD i default).used→Z4m c l (i+1+m)=need c (l.getD i default).used-1-m
 | 0,hm=>by
  show rdue c l i (Z4m c l i)=_
  rw[rdue,if_pos hk];omega
 | m+1,hm=>by
  have ih:=h.due hi hk m (by omega)
  have ht:=((h.lg i hi hk).2 (m+1) (by omega) hm).2.1
  show rdue c l (i+1+m) (Z4m c l (i+1+m))=_
  rw[rdue,show i+1+m=i+(m+1) by omega,if_neg (by rw[ht];decide),show i+(m+1)=i+1+m by omega,ih]
  omega
theorem Z6Q{c:Conf}{l:List Page}(h:∀ i,i<l.length→(l.getD i default).kind=2→1≤need c (l.getD i default).used):∀ i,i≤l.length→0≤Z4m c l i
 | 0,_=>Int.le_refl _
 | i+1,hi=>by
  have ih:=Z6Q h i (by omega)
  simp only[Z4m,rdue]
  split
  ·rename_i hk
   have:=h i (by omega) hk
   omega
  ·omega
theorem Zm0{c:Conf}{l:List Page}:rpB c l l.length 0 0=true↔PT c l:=by
 have e:=ZgH (c:=c) (l:=l) (f:=l.length) (i:=0) (by omega)
 rw[show Z4m c l 0=0 from rfl]at e
 rw[e]
 constructor
 ·intro h
  have hb:∀ i,i<l.length→PgOk c (l.getD i default):=by
   intro i hi
   have q:=h i (by omega) hi
   unfold rchk at q
   exact⟨⟨q.2.1,q.2.2.1⟩,⟨q.2.2.2.1,q.2.2.2.2.1⟩,⟨q.2.2.2.2.2.1,q.2.2.2.2.2.2.1⟩,q.2.2.2.2.2.2.2.1,q.2.2.2.2.2.2.2.2.1,q.2.2.2.2.2.2.2.2.2.2⟩
  have hl:∀ i,i<l.length→(l.getD i default).kind=2→1≤need c (l.getD i default).used∧∀ m:Nat,1≤m→(m:Int)<need c (l.getD i default).used→i+m<l.length∧(l.getD (i+m) default).kind=3∧(l.getD (i+m) default).space=(l.getD i default).space:=by
   intro i hi hk
   have q:=(h i (by omega) hi).2.2.2.2.2.2.2.2.2.1 hk
   refine⟨q.1, ?_⟩
   intro m h1 h2
   obtain⟨g1,g2⟩:=Z5D (l.getD i default).space (l.drop (i+1)) (m-1) (by omega)
   have g3:i+m<l.length:=by simp at g1;omega
   have:(l.drop (i+1)).getD (m-1) default=l.getD (i+m) default:=by
    rw[List.getD_eq_getElem?_getD,List.getD_eq_getElem?_getD,List.getElem?_drop,show i+1+(m-1)=i+m by omega]
   rw[this]at g2
   exact⟨g3,g2⟩
  refine⟨hb,hl, ?_⟩
  intro i hi hk
  have q:=(h i (by omega) hi).1.1 hk
  obtain⟨j,j1,j2,j3⟩:=Z8v (c:=c) (l:=l) i (by omega) q
  exact⟨j,j1,j2,by omega⟩
 ·intro h j _ hj
  have b:=h.b j hj
  have hd:=Z6Q (fun i hi hk=>(h.lg i hi hk).1) j (by omega)
  refine⟨⟨?_, ?_⟩,b.s.1,b.s.2,b.n.1,b.n.2,b.k.1,b.k.2,b.k0,b.k1, ?_,b.k3⟩
  ·intro hk
   obtain⟨i,i1,i2,i3⟩:=h.tl j hj hk
   have:=h.due (show i<l.length by omega) i2 (j-i-1) (by omega)
   rw[show i+1+(j-i-1)=j by omega]at this
   omega
  ·intro hp
   obtain⟨i,i1,i2,i3⟩:=Z8v j hd hp
   have:=((h.lg i (by omega) i2).2 (j-i) (by omega) (by omega)).2.1
   rw[show i+(j-i)=j by omega]at this
   exact this
  ·intro hk
   have q:=h.lg j hj hk
   refine⟨q.1, ?_⟩
   have:=Z99 (l.getD j default).space (l.drop (j+1)) (need c (l.getD j default).used-1).toNat fun m hm=>by
    have r:=q.2 (m+1) (by omega) (by omega)
    have e2:(l.drop (j+1)).getD m default=l.getD (j+(m+1)) default:=by
     rw[List.getD_eq_getElem?_getD,List.getD_eq_getElem?_getD,List.getElem?_drop,show j+1+m=j+(m+1) by omega]
    rw[e2]
    exact⟨by simp;omega,r.2⟩
   omega
theorem Z1d{h:Heap}:Z03 h=true↔Z07 h.conf=true∧(h.words.length:Int)=h.conf.pw*h.conf.pg∧(h.pages.length:Int)=h.conf.pg∧(h.space=0∨h.space=1) ∧
  (h.bump=-1∨(0≤h.bump∧h.bump<h.pages.length∧(h.pages.getD h.bump.toNat default).kind=1))∧PT h.conf h.pages:=by
 rw[properB_iff,Zm0]
theorem PT.setPage{c:Conf}{l:List Page}(h:PT c l){i:Nat}(hi:i<l.length)(hk:(l.getD i default).kind=0∨(l.getD i default).kind=1){p:Page}(hp:PgOk c p)(hpk:p.kind=0∨p.kind=1):PT c (l.set i p):=by
 refine⟨?_, ?_, ?_⟩
 ·intro j hj
  rw[List.length_set]at hj
  rw[Z0q hi]
  split
  ·exact hp
  ·exact h.b j hj
 ·intro j hj hk2
  rw[List.length_set]at hj
  rw[Z0q hi]at hk2 ⊢
  by_cases hij:i=j
  ·rw[if_pos hij]at hk2;omega
  ·rw[if_neg hij]at hk2 ⊢
   have q:=h.lg j hj hk2
   refine⟨q.1,fun m h1 h2=>?_⟩
   have r:=q.2 m h1 h2
   rw[List.length_set,Z0q hi,if_neg (by rintro rfl;omega)]
   exact r
 ·intro j hj hk3
  rw[List.length_set]at hj
  rw[Z0q hi]at hk3
  by_cases hij:i=j
  ·rw[if_pos hij]at hk3;omega
  ·rw[if_neg hij]at hk3
   obtain⟨a,a1,a2,a3⟩:=h.tl j hj hk3
   refine⟨a,a1, ?_⟩
   rw[Z0q hi,if_neg (by rintro rfl;omega)]
   exact⟨a2,a3⟩
theorem PT.mapPages{c:Conf}{l:List Page}(h:PT c l)(f:Page→Page)(h1:∀ p,PgOk c p→PgOk c (f p))(h2:∀ p,PgOk c p→(f p).kind=2→p.kind=2∧(f p).used=p.used)
  (h3:∀ p,PgOk c p→(f p).kind=3→p.kind=3) (h4:∀ p q,PgOk c p→PgOk c q→p.kind=2→q.kind=3→q.space=p.space→((f p).kind=2↔(f q).kind=3)∧((f p).kind=2→(f q).space=(f p).space)):PT c (l.map f):=by
 have hg:∀ j,j<l.length→(l.map f).getD j default=f (l.getD j default):=by
  intro j hj
  simp[List.getD_eq_getElem?_getD,hj]
 refine⟨?_, ?_, ?_⟩
 ·intro j hj
  rw[List.length_map]at hj
  rw[hg j hj]
  exact h1 _ (h.b j hj)
 ·intro j hj hk
  rw[List.length_map]at hj
  rw[hg j hj]at hk ⊢
  have q:=h2 _ (h.b j hj) hk
  have r:=h.lg j hj q.1
  rw[q.2]
  refine⟨r.1,fun m m1 m2=>?_⟩
  have s:=r.2 m m1 m2
  have t:=h4 _ _ (h.b j hj) (h.b (j+m) s.1) q.1 s.2.1 s.2.2
  rw[List.length_map,hg _ s.1]
  exact⟨s.1,t.1.1 hk,t.2 hk⟩
 ·intro j hj hk
  rw[List.length_map]at hj
  rw[hg j hj]at hk
  have q:=h3 _ (h.b j hj) hk
  obtain⟨a,a1,a2,a3⟩:=h.tl j hj q
  have ha:a<l.length:=by omega
  have s:=(h.lg a ha a2).2 (j-a) (by omega) (by omega)
  rw[show a+(j-a)=j by omega]at s
  have t:=h4 _ _ (h.b a ha) (h.b j hj) a2 s.2.1 s.2.2
  have hk2:=t.1.2 hk
  refine⟨a,a1, ?_⟩
  rw[hg a ha]
  exact⟨hk2,by rw[(h2 _ (h.b a ha) hk2).2];exact a3⟩
theorem Z6f{l:List Page}{i k:Nat}{p q:Page}(hk:1≤k)(h:i+k≤l.length)(j:Nat):(tookP l i k p q).getD j default=if j=i then p else if i<j∧j<i+k then q else l.getD j default:=by
 have hl:(wr l (List.replicate k q) i k).length=l.length:=Z4D (by simpa using h) (by simp)
 unfold tookP
 rw[List.getD_eq_getElem?_getD,List.getElem?_set]
 by_cases hj:j=i
 ·subst hj
  rw[if_pos rfl,if_pos rfl,if_pos (by omega)]
  rfl
 ·rw[if_neg (fun e=>hj e.symm),if_neg hj,Z9u (by simpa using h) (by simp)]
  by_cases h1:j<i
  ·rw[if_pos h1,if_neg (by omega),List.getD_eq_getElem?_getD]
  ·rw[if_neg h1]
   by_cases h2:j<i+k
   ·rw[if_pos h2,if_pos (by omega)]
    simp[show j-i<k by omega]
   ·rw[if_neg h2,if_neg (by omega),List.getD_eq_getElem?_getD]
theorem PT.took{c:Conf}{l:List Page}(h:PT c l){i k:Nat}{n sp:Int}(hk:1≤k)(hik:i+k≤l.length)(hf:∀ j,j<k→(l.getD (i+j) default).kind=0)(hn:need c n=k)(hs:sp=0∨sp=1):PT c (tookP l i k ⟨2,sp,n,0⟩ ⟨3,sp,0,0⟩):=by
 have hg:=Z6f (p:=⟨2,sp,n,0⟩) (q:=⟨3,sp,0,0⟩) hk hik
 have hl:(tookP l i k ⟨2,sp,n,0⟩ ⟨3,sp,0,0⟩).length=l.length:=Z5T hik
 have hf':∀ j,i≤j→j<i+k→(l.getD j default).kind=0:=fun j h1 h2=>by
  have:=hf (j-i) (by omega)
  rwa [show i+(j-i)=j by omega]at this
 refine⟨?_, ?_, ?_⟩
 ·intro j hj
  rw[hl]at hj
  rw[hg]
  split
  ·exact⟨by simp only;omega,by simp,by simp,by simp,by simp,by simp⟩
  ·split
   ·exact⟨by simp only;omega,by simp,by simp,by simp,by simp,by simp⟩
   ·exact h.b j hj
 ·intro j hj hk2
  rw[hl]at hj ⊢
  simp only[hg]at hk2 ⊢
  by_cases hji:j=i
  ·subst hji
   simp only[if_pos]at hk2 ⊢
   rw[hn]
   refine⟨by omega,fun m h1 h2=>⟨by omega, ?_⟩⟩
   rw[if_neg (by omega),if_pos (by omega)]
   exact⟨rfl,rfl⟩
  ·rw[if_neg hji]at hk2 ⊢
   by_cases hr:i<j∧j<i+k
   ·rw[if_pos hr]at hk2;simp at hk2
   ·rw[if_neg hr]at hk2 ⊢
    have q:=h.lg j hj hk2
    refine⟨q.1,fun m h1 h2=>?_⟩
    have r:=q.2 m h1 h2
    have hne:¬ (i≤j+m∧j+m<i+k):=fun hc=>by
     have:=hf' (j+m) hc.1 hc.2
     omega
    rw[if_neg (by omega),if_neg (by omega)]
    exact r
 ·intro j hj hk3
  rw[hl]at hj
  simp only[hg]at hk3 ⊢
  by_cases hji:j=i
  ·rw[if_pos hji]at hk3;simp at hk3
  ·rw[if_neg hji]at hk3
   by_cases hr:i<j∧j<i+k
   ·refine⟨i,hr.1, ?_⟩
    simp only[if_pos]
    refine⟨trivial, ?_⟩
    rw[hn];omega
   ·rw[if_neg hr]at hk3
    obtain⟨a,a1,a2,a3⟩:=h.tl j hj hk3
    have hne:¬ (i≤a∧a<i+k):=fun hc=>by
     have:=hf' a hc.1 hc.2
     omega
    refine⟨a,a1, ?_⟩
    rw[if_neg (by omega),if_neg (by omega)]
    exact⟨a2,a3⟩
theorem Z3x{l:List Page}{i:Nat}{n:Int}:Z21 l i n=l.set i ⟨(l.getD i default).kind,(l.getD i default).space,(l.getD i default).used+n,(l.getD i default).pins⟩:=rfl
theorem Z3b{h:Heap}(hs:h.space=0∨h.space=1)(hf:0≤first h.pages 1)(n:Int):Z21 (Z2D h) (first h.pages 1).toNat n=h.pages.set (first h.pages 1).toNat ⟨1,h.space,n,0⟩∧(h.pages.getD (first h.pages 1).toNat default).kind=0∧(first h.pages 1).toNat<h.pages.length:=by
 obtain⟨f1,f2,f3,f4⟩:=Z2y hs hf
 obtain⟨g1,g2,g3⟩:=Z1z hf
 have hi:(first h.pages 1).toNat<h.pages.length:=by omega
 refine⟨?_, ?_,hi⟩
 ·rw[Z3x,f4,f1,Z89 hi,List.set_set]
  simp
 ·have:=freeK_iff.1 g3 0 (by decide)
  simpa using this
structure PutOk (h:Heap) (n:Int) (h':Heap) (a:Int):Prop where
 pr:Z03 h'=true
 c:h'.conf=h.conf
 w:h'.words=h.words
 l:h'.pages.length=h.pages.length
 sp:h'.space=h.space
 pin:∀ p∈h'.pages,p.pins=0∨∃ q∈h.pages,p.pins=q.pins
 lo:4096≤a
 hi:a+n≤4096+h.words.length
theorem getD_in{l:List Page}{i:Nat}(h:i<l.length):l.getD i default∈l:=by
 rw[List.getD_eq_getElem?_getD,List.getElem?_eq_getElem h]
 exact List.getElem_mem h
theorem ZeM{h:Heap}{n:Int}(hp:Z03 h=true)(hn:1≤n∧n≤h.conf.pw)(e:(Z0e h n).2.2=true):PutOk h n (Z0e h n).1 (Z0e h n).2.1:=by
 have hp':=hp
 rw[Z1d]at hp
 obtain⟨p1,p2,p3,p4,p5,p6⟩:=hp
 have hb:=validB_iff.1 p1
 by_cases hf:Z5X h n
 ·have e7:Z0e h n=(⟨h.conf,h.words,Z21 h.pages h.bump.toNat n,h.space,h.bump⟩,4096+h.bump*h.conf.pw+(h.pages.getD h.bump.toNat default).used,true):=by rw[Z0e,if_pos hf]
  unfold Z5X at hf
  have hbi:h.bump.toNat<h.pages.length:=by omega
  have hk:(h.pages.getD h.bump.toNat default).kind=1:=by omega
  have ok:=p6.b h.bump.toNat hbi
  have u:=ok.k1 hk
  have ha:=Z2C p1 (i:=h.bump) (by omega) (by omega)
  have hio:=Z14 (i:=h.bump) (j:=h.conf.pg) (pw:=h.conf.pw) (by omega) (by omega)
  rw[Int.mul_comm h.conf.pg]at hio
  rw[e7]
  refine⟨?_,rfl,rfl,by simp[Z21],rfl, ?_,by simp only;omega,by simp only;omega⟩
  ·rw[Z1d]
   refine⟨p1,p2,by simp[Z21,p3],p4, ?_, ?_⟩
   ·refine Or.inr ⟨hf.1,by simp[Z21];omega, ?_⟩
    show((Z21 h.pages h.bump.toNat n).getD h.bump.toNat default).kind=1
    rw[Z3x,Z0q hbi,if_pos rfl]
    exact hk
   ·exact p6.setPage hbi (Or.inr hk) ⟨ok.s,ok.n,ok.k,fun q=>by simp only at q;omega,fun _=>by simp only;omega,fun q=>by simp only at q;omega⟩ (Or.inr hk)
  ·intro p hp
   rcases List.mem_or_eq_of_mem_set hp with hp | rfl
   ·exact Or.inr ⟨p,hp,rfl⟩
   ·exact Or.inr ⟨_,getD_in hbi,rfl⟩
 ·by_cases hg:0≤first h.pages 1∧(Z1e h.pages:Int)<Z22 h.conf
  ·have e7:Z0e h n=(⟨h.conf,h.words,Z21 (Z2D h) (first h.pages 1).toNat n,h.space,first h.pages 1⟩,4096+first h.pages 1*h.conf.pw+((Z2D h).getD (first h.pages 1).toNat default).used,true):=by rw[Z0e,if_neg hf,if_pos hg]
   obtain⟨g1,g2,g3⟩:=Z3b p4 hg.1 n
   have g4:=congrArg Page.used (Z2y p4 hg.1).2.2.2
   simp only at g4
   have ha:=Z2C p1 (i:=first h.pages 1) (by omega) (by omega)
   have hio:=Z14 (i:=first h.pages 1) (j:=h.conf.pg) (pw:=h.conf.pw) (by omega) (by omega)
   rw[Int.mul_comm h.conf.pg]at hio
   rw[e7,g1,g4]
   refine⟨?_,rfl,rfl,by simp,rfl, ?_,by simp only;omega,by simp only;omega⟩
   ·rw[Z1d]
    refine⟨p1,p2,by simp[p3],p4, ?_, ?_⟩
    ·refine Or.inr ⟨hg.1,by simp only[List.length_set];omega, ?_⟩
     simp only
     rw[Z0q g3,if_pos rfl]
    ·exact p6.setPage g3 (Or.inl g2) ⟨by simp only;omega,by simp,by simp,by simp,fun _=>by simp only;omega,by simp⟩ (Or.inr rfl)
   ·intro p hp
    rcases List.mem_or_eq_of_mem_set hp with hp | rfl
    ·exact Or.inr ⟨p,hp,rfl⟩
    ·exact Or.inl rfl
  ·rw[Z0e,if_neg hf,if_neg hg]at e
   simp at e
theorem ZfE{h:Heap}{n:Int}(hp:Z03 h=true)(hk:1≤need h.conf n)(e:(Z0n h n (need h.conf n)).2.2=true):PutOk h n (Z0n h n (need h.conf n)).1 (Z0n h n (need h.conf n)).2.1:=by
 have hp':=hp
 rw[Z1d]at hp
 obtain⟨p1,p2,p3,p4,p5,p6⟩:=hp
 have hb:=validB_iff.1 p1
 by_cases hg:0≤first h.pages (need h.conf n)∧Z1e h.pages+need h.conf n≤Z22 h.conf
 ·obtain⟨g1,g2,g3⟩:=Z1z hg.1
  have el:(Z28 h.conf h.pages (first h.pages (need h.conf n)) h.space n).1=tookP h.pages (first h.pages (need h.conf n)).toNat (need h.conf n).toNat ⟨2,h.space,n,0⟩ ⟨3,h.space,0,0⟩:=by
   rw[Z28,if_pos ⟨hk,by omega⟩,Z2l,if_pos (by omega),if_pos g3]
  have e7:Z0n h n (need h.conf n)=(⟨h.conf,h.words,tookP h.pages (first h.pages (need h.conf n)).toNat (need h.conf n).toNat ⟨2,h.space,n,0⟩ ⟨3,h.space,0,0⟩,h.space,h.bump⟩,4096+first h.pages (need h.conf n)*h.conf.pw,true):=by rw[Z0n,if_pos hg,el]
  have hf:∀ j,j<(need h.conf n).toNat→(h.pages.getD ((first h.pages (need h.conf n)).toNat+j) default).kind=0:=freeK_iff.1 g3
  have hlen:(tookP h.pages (first h.pages (need h.conf n)).toNat (need h.conf n).toNat ⟨2,h.space,n,0⟩ ⟨3,h.space,0,0⟩).length=h.pages.length:=Z5T (by omega)
  have hu:=Z4q hk
  have h0:0≤first h.pages (need h.conf n)*h.conf.pw:=Int.mul_nonneg hg.1 (by omega)
  have hio:=Int.mul_le_mul_of_nonneg_right (show first h.pages (need h.conf n)+need h.conf n≤h.conf.pg by omega) (show 0≤h.conf.pw by omega)
  rw[Int.add_mul,Int.mul_comm h.conf.pg]at hio
  rw[e7]
  refine⟨?_,rfl,rfl,hlen,rfl, ?_,by simp only;omega,by simp only;omega⟩
  ·rw[Z1d]
   refine⟨p1,p2,by simp only[hlen];exact p3,p4, ?_, ?_⟩
   ·simp only[hlen]
    rcases p5 with p5 | p5
    ·exact Or.inl p5
    ·refine Or.inr ⟨p5.1,p5.2.1, ?_⟩
     have hne:¬ ((first h.pages (need h.conf n)).toNat≤h.bump.toNat∧h.bump.toNat<(first h.pages (need h.conf n)).toNat+(need h.conf n).toNat):=fun hc=>by
      have:=hf (h.bump.toNat-(first h.pages (need h.conf n)).toNat) (by omega)
      rw[show(first h.pages (need h.conf n)).toNat+(h.bump.toNat-(first h.pages (need h.conf n)).toNat)=h.bump.toNat by omega]at this
      omega
     rw[Z6f (by omega) (by omega),if_neg (by omega),if_neg (by omega)]
     exact p5.2.2
   ·exact p6.took (by omega) (by omega) hf (by omega) p4
  ·intro p hp
   rcases List.mem_or_eq_of_mem_set hp with hp | rfl
   ·simp only[wr,List.mem_append]at hp
    rcases hp with(hp | hp) | hp
    ·exact Or.inr ⟨p,List.mem_of_mem_take hp,rfl⟩
    ·have:=List.eq_of_mem_replicate (List.mem_of_mem_take hp)
     subst this
     exact Or.inl rfl
    ·exact Or.inr ⟨p,List.mem_of_mem_drop hp,rfl⟩
   ·exact Or.inl rfl
 ·rw[Z0n,if_neg hg]at e
  simp at e
theorem Zdv{hd:Header}(hv:Z0i hd=true)(hm:0≤hd.map∧hd.map≤4294967295):WOk (objW hd)∧((objW hd).length:Int)=sizeH hd:=by
 have hb:=Z9W hv hm.1 hm.2
 constructor
 ·intro x hx
  simp only[objW,List.mem_cons,List.mem_replicate,Z06,if_pos hv]at hx
  rcases hx with rfl | ⟨_,rfl⟩<;>omega
 ·rw[sizeH,if_pos hv]
  simp[objW];omega
theorem Zdl{h:Heap}{hd:Header}(hw:WOk h.words)(hm:0≤hd.map∧hd.map≤4294967295)(e:(new7 h hd).2.2=0) :
  Z03 h=true∧Z2R h.conf hd=true∧PutOk h (sizeH hd) (put7 h hd).1 (put7 h hd).2.1∧(put7 h hd).2.2=true∧(new7 h hd).2.1=(put7 h hd).2.1∧(new7 h hd).1 = { (put7 h hd).1 with words:=(Z0b h.words (put7 h hd).2.1 (objW hd)).1 }∧Z03 (new7 h hd).1=true∧WOk (new7 h hd).1.words:=by
 unfold new7 at e
 split at e
 ·rename_i c1
  split at e
  ·rename_i c2
   obtain⟨a1,a2,a3,a4,a5⟩:=Z4Y c1.2
   have po:=Z09 c1.1
   have hput:PutOk h (sizeH hd) (put7 h hd).1 (put7 h hd).2.1:=by
    by_cases hn:0<need h.conf (sizeH hd)
    ·have e7:put7 h hd=Z0n h (sizeH hd) (need h.conf (sizeH hd)):=by rw[put7,if_pos hn]
     rw[e7]at c2 ⊢
     exact ZfE c1.1 (by omega) c2
    ·have e7:put7 h hd=Z0e h (sizeH hd):=by rw[put7,if_neg hn]
     rw[e7]at c2 ⊢
     refine ZeM c1.1 ⟨a2, ?_⟩ c2
     unfold need at hn a4
     split at a4
     ·rename_i hc
      rw[if_pos hc]at hn
      split at a4
      ·omega
      ·rename_i hd'
       rw[if_neg hd']at hn
       have e:=Int.mul_ediv_add_emod (sizeH hd+h.conf.pw-1) h.conf.pw
       have hz:(sizeH hd+h.conf.pw-1)/h.conf.pw=0:=by omega
       rw[hz]at e
       have:=Int.emod_lt_of_pos (sizeH hd+h.conf.pw-1) (b:=h.conf.pw) (by omega)
       omega
     ·omega
   have ho:=Zdv a1 hm
   have hin:4096≤(put7 h hd).2.1∧(put7 h hd).2.1-4096+(objW hd).length≤h.words.length:=⟨hput.lo,by have:=hput.hi;omega⟩
   have e2:Z0b h.words (put7 h hd).2.1 (objW hd)=(spl h.words ((put7 h hd).2.1-4096).toNat (objW hd),0):=by rw[Z0b,if_pos hin]
   have hlen:(spl h.words ((put7 h hd).2.1-4096).toNat (objW hd)).length=h.words.length:=Z3e (by omega)
   have e3:(Z0y (put7 h hd).1 (put7 h hd).2.1 hd).1 = { (put7 h hd).1 with words:=(Z0b h.words (put7 h hd).2.1 (objW hd)).1 }:=by
    rw[Z0y,if_pos ⟨hput.pr,a1⟩,hput.w,e2]
    simp
   have e4:new7 h hd=((Z0y (put7 h hd).1 (put7 h hd).2.1 hd).1,(put7 h hd).2.1,0):=by rw[new7,if_pos c1,if_pos c2]
   refine⟨c1.1,c1.2,hput,c2,by rw[e4],by rw[e4];exact e3, ?_, ?_⟩
   ·rw[e4]
    simp only
    rw[e3,e2]
    have q:=hput.pr
    rw[Z1d]at q ⊢
    refine⟨q.1, ?_,q.2.2.1,q.2.2.2.1,q.2.2.2.2.1,q.2.2.2.2.2⟩
    simp only[hlen]
    have:=q.2.1
    rw[hput.w]at this
    exact this
   ·rw[e4]
    simp only
    rw[e3]
    exact Z4j hw ho.1 _
  ·simp at e
 ·simp at e
theorem ZlK{h:Heap}{a:Int}(e:(atH h a).2=0):4096≤a∧a+(atH h a).1.length<4096+h.words.length:=by
 have k:=Ze3 e
 have po:=Z09 k.1
 have o:=Z3w po.1 k.2.1
 have hj:(ofA h.conf a).1.toNat<h.pages.length:=by omega
 have hk:(((ofA h.conf a).1.toNat:Nat):Int)=(ofA h.conf a).1:=by omega
 have h2:=e
 unfold atH at h2 ⊢
 rw[if_pos k.1,if_pos k.2.1]at h2 ⊢
 split at h2
 ·rename_i g1
  split at h2
  ·simp at h2
  ·rename_i g2
   rw[if_pos g1,if_neg g2]
   have hv:Z0i (decodeH (loadA h.words a).1).1=true:=Z2e _
   have hs:sizeH (decodeH (loadA h.words a).1).1=(decodeH (loadA h.words a).1).1.length+1:=by rw[sizeH,if_pos hv]
   have hvb:=(validH_iff.1 hv).2.2.1
   have ue:=Za4 k.1 hj g1.1
   rw[hk]at ue
   have h0:0≤(ofA h.conf a).1*h.conf.pw:=Int.mul_nonneg o.1 (by omega)
   have hio:=Z14 (i:=(ofA h.conf a).1) (j:=h.conf.pg) (pw:=h.conf.pw) o.2.1 (by omega)
   rw[Int.mul_comm h.conf.pg]at hio
   have hL:=po.2.2.2.2.2.1
   refine⟨by omega, ?_⟩
   simp only
   rcases g1.1 with g | g<;>omega
 ·simp at h2
theorem Z5J{h:Heap}{a i v:Int}(hw:WOk h.words)(hv:0≤v∧v≤18446744073709551615)(e:(getH h a).2=0)(hi:0≤i∧i<(getH h a).1.length):Z0f h a i v=({ h with words:=(Z0E h.words (a+1+i) v).1 },0)∧Z03 (Z0f h a i v).1=true∧WOk (Z0f h a i v).1.words:=by
 have g:=Z3Y e
 have k:=ZlK g.2.1
 rw[← g.1]at k
 have hin:4096≤a+1+i∧a+1+i<4096+h.words.length:=by omega
 have hf:(Z1r h a i).2=0:=by
  unfold Z1r
  rw[if_pos e,if_pos hi]
  unfold loadA
  rw[if_pos hin]
 have e1:Z0f h a i v=({ h with words:=(Z0E h.words (a+1+i) v).1 },0):=by rw[Z0f,if_pos hf]
 refine⟨e1, ?_, ?_⟩
 ·rw[e1]
  have q:=g.2.2.1
  rw[Z1d]at q ⊢
  refine⟨q.1, ?_,q.2.2.1,q.2.2.2.1,q.2.2.2.2.1,q.2.2.2.2.2⟩
  simp only[Z2s hin]
  exact q.2.1
 ·rw[e1]
  exact Z7D hw hv _
end Go.Proofs.YtjflpmnenhdeeaaGreat
