/-
 The statement EvacuateForwards: part 11.
 Conditions: none.
-/
import Derived.Test.YtdhchmlalchgeaaGreatI10
set_option maxRecDepth 100000
set_option maxHeartbeats 2000000
set_option linter.all false
namespace Go.Proofs.YtdhchmlalchgeaaGreat
open Go.Sx
def ixUL(l:List Int)(v:Int)(i:Nat):Tg:=⟨tm 19 [(0,Z01 l),(1,u64 v),(4,int 0),(7,int l.length),(8,int i)],[],3⟩
theorem ZfQ(l:List Int)(v:Int)(i:Nat)(hl:l.length≤1048576)(hi:i<l.length)(e:(v==l.getD i default)=false):CP (rndF Tryz.f126 0) (ixUL l v i).st .nrm (ixUL l v (i+1)).st:=by
 exact sF [] [] (Ftb 9 (decide ((↑i:Int)<(↑l.length:Int))) (Fek 14 wdv l (↑i) i (Ff 16 ‹(v==l.getD i default)=false› (Fx 18 i Fz))))
theorem Zmj(l:List Int)(v:Int)(i:Nat)(hl:l.length≤1048576)(hi:i<l.length)(e:(v==l.getD i default)=true):CP (rndF Tryz.f126 0) (ixUL l v i).st .ret (Tg.st ⟨tm 19 [(4,int i)],[],60⟩):=by
 exact sF [] [] (Ftb 9 (decide ((↑i:Int)<(↑l.length:Int))) (Fek 14 wdv l (↑i) i (Ft 16 ‹(v==l.getD i default)=true› Fz)))
theorem ZpX(l:List Int)(v:Int):CP (rndF Tryz.f126 0) (ixUL l v l.length).st (.ext 0) (Tg.st ⟨tm 19 [(4,int 0)],[],60⟩):=by
 exact sF [] [] (Ffb 9 (decide ((↑l.length:Int)<(↑l.length:Int))) Fz)
def Znw(l:List Int)(v:Int)(hl:l.length≤1048576)(h:¬ v∈l)  := Z08 (S:=fun j=>(ixUL l v j).st) l.length (by kernel_rfl) (fun j hj=>ZfQ l v j hl hj (Z4V (by rcases Nat.lt_or_ge j (Z2e l v)with q | q;exact q;exact absurd (firstI_mem.1 (by omega)) h)).2) (ZpX l v)
theorem Zlk(l:List Int)(v:Int)(hl:l.length≤1048576)(h:v∈l):CP (blkF Tryz.f126 0) (Tg.st ⟨tm 19 [(0,Z01 l),(1,u64 v),(4,int 0),(7,int l.length),(8,int 0)],[],3⟩) .ret (Tg.st ⟨tm 19 [(4,int (Z2e l v))],[],60⟩) :=
 have h1:Z2e l v<l.length:=firstI_mem.2 h
 Z0z (S:=fun j=>(ixUL l v j).st) (Z2e l v) kr (fun j hj=>ZfQ l v j hl oq (Z4V hj).2) (Zmj l v (Z2e l v) hl h1 (Z7t h1))
def ixIL(l:List Int)(v:Int)(i:Nat):Tg:=⟨tm 19 [(0,Z0j l),(1,int v),(4,int 0),(7,int l.length),(8,int i)],[],3⟩
theorem Zgl(l:List Int)(v:Int)(i:Nat)(hl:l.length≤1048576)(hi:i<l.length)(e:(v==l.getD i default)=false):CP (rndF Tryz.f181 0) (ixIL l v i).st .nrm (ixIL l v (i+1)).st:=by
 exact sF [] [] (Ftb 9 (decide ((↑i:Int)<(↑l.length:Int))) (Fek 14 idv l (↑i) i (Ff 16 ‹(v==l.getD i default)=false› (Fx 18 i Fz))))
theorem Zma(l:List Int)(v:Int)(i:Nat)(hl:l.length≤1048576)(hi:i<l.length)(e:(v==l.getD i default)=true):CP (rndF Tryz.f181 0) (ixIL l v i).st .ret (Tg.st ⟨tm 19 [(4,int i)],[],60⟩):=by
 exact sF [] [] (Ftb 9 (decide ((↑i:Int)<(↑l.length:Int))) (Fek 14 idv l (↑i) i (Ft 16 ‹(v==l.getD i default)=true› Fz)))
theorem Zpp(l:List Int)(v:Int):CP (rndF Tryz.f181 0) (ixIL l v l.length).st (.ext 0) (Tg.st ⟨tm 19 [(4,int 0)],[],60⟩):=by
 exact sF [] [] (Ffb 9 (decide ((↑l.length:Int)<(↑l.length:Int))) Fz)
def Zoo(l:List Int)(v:Int)(hl:l.length≤1048576)(h:¬ v∈l)  := Z08 (S:=fun j=>(ixIL l v j).st) l.length (by kernel_rfl) (fun j hj=>Zgl l v j hl hj (Z4V (by rcases Nat.lt_or_ge j (Z2e l v)with q | q;exact q;exact absurd (firstI_mem.1 (by omega)) h)).2) (Zpp l v)
theorem ZlX(l:List Int)(v:Int)(hl:l.length≤1048576)(h:v∈l):CP (blkF Tryz.f181 0) (Tg.st ⟨tm 19 [(0,Z0j l),(1,int v),(4,int 0),(7,int l.length),(8,int 0)],[],3⟩) .ret (Tg.st ⟨tm 19 [(4,int (Z2e l v))],[],60⟩) :=
 have h1:Z2e l v<l.length:=firstI_mem.2 h
 Z0z (S:=fun j=>(ixIL l v j).st) (Z2e l v) kr (fun j hj=>Zgl l v j hl oq (Z4V hj).2) (Zma l v (Z2e l v) hl h1 (Z7t h1))
theorem ZpF(l:List Int)(v:Int)(hl:l.length≤1048576):GP 126 [Z01 l,u64 v] true (int (idxI l v)) []:=by
 by_cases h:v∈l
 ·have e7:idxI l v=Z2e l v:=if_pos h;rw[e7];exact gF [] Tryz.func126 [] (Fl 7 wdv l (Fu (@Zlk l v aa aa) Fz))
 ·have e7:idxI l v=-1:=if_neg h;rw[e7];exact gF [] Tryz.func126 [] (Fl 7 wdv l (Fu (@Znw l v aa aa) Fz))
theorem ZpS(l:List Int)(v:Int)(hl:l.length≤1048576):GP 181 [Z0j l,int v] true (int (idxI l v)) []:=by
 by_cases h:v∈l
 ·have e7:idxI l v=Z2e l v:=if_pos h;rw[e7];exact gF [] Tryz.func181 [] (Fl 7 idv l (Fu (@ZlX l v aa aa) Fz))
 ·have e7:idxI l v=-1:=if_neg h;rw[e7];exact gF [] Tryz.func181 [] (Fl 7 idv l (Fu (@Zoo l v aa aa) Fz))
theorem Z0P(l:List Int)(v:Int)(hl:l.length≤1048576):GP 76 [Z01 l,u64 v] true (bool (decide (v∈l))) []:=by
 have h:(0≤idxI l v↔v∈l):=by unfold idxI;split<;>simp[*]
 exact gF [] Tryz.func76 [true] (Fc 7 (@ZpF l v aa) (Fbs (decide (0≤idxI l v)=decide (v∈l)) Fz))
theorem Z6H(l:List Int)(v:Int)(hl:l.length≤1048576):GP 146 [Z0j l,int v] true (bool (decide (v∈l))) []:=by
 have h:(0≤idxI l v↔v∈l):=by unfold idxI;split<;>simp[*]
 exact gF [] Tryz.func146 [true] (Fc 7 (@ZpS l v aa) (Fbs (decide (0≤idxI l v)=decide (v∈l)) Fz))
theorem Zb7(c:Nat):GP 80 [.d (.sc (.slice none 0 c))] true (.ow 0) [.arr 35 1 []] :=
 gspec_ofE [((2:Nat),[Hint.own])] [] [(24002:Nat)] dd Tryz.func80 [] (φ:=Z0J []) (fun _ h=>nomatch h) kr kr
theorem Z9J(p:Addr)(c:Nat):GP 80 [.d (.sc (.slice (some p) 0 c))] true (.ow 0) [.arr 35 1 []]:=by
 exact gF [24007] Tryz.func80 [] (Fs 5 (List.map wdv []) (Fa (by simp[*]:(List.map wdv []).length+([]:List (List DV)).length≤2^30) (Fs 7 (List.map wdv []) (Fa (by exact Z1T _:Z0J (List.map wdv [])) Fz))))
theorem ZdU(ws:List Int)(hw:ws.length≤1048576)(hne:ws≠[]):GP 80 [Z01 ws] true (.ow 0) [.arr 35 1 (ws.map wdv)]:=by
 exact gF [24007] Tryz.func80 [] (Fa (by exact Zg7 hne:List.map wdv ws≠[]) (FA 5 7 wdv ws (Fa (by exact Z1T _:Z0J (List.map wdv ws)) Fz)))
theorem Z4v(ws:List Int)(hw:ws.length≤1048576):GP 80 [Z01 ws] true (.ow 0) [.arr 35 1 (ws.map wdv)]:=by
 by_cases hne:ws=[]
 ·subst hne;exact Z68 fun p c=>match p with | none=>Zb7 c | some p=>Z9J p c
 ·exact ZdU ws hw hne
theorem Zdj(c:Nat):GP 135 [.d (.sc (.slice none 0 c))] true (.ow 0) [.arr 3 1 []] :=
 gspec_ofE [((2:Nat),[Hint.own])] [] [(24002:Nat)] dd Tryz.func135 [] (φ:=Z0J []) (fun _ h=>nomatch h) kr kr
theorem Zbu(p:Addr)(c:Nat):GP 135 [.d (.sc (.slice (some p) 0 c))] true (.ow 0) [.arr 3 1 []]:=by
 exact gF [24007] Tryz.func135 [] (Fs 5 (List.map idv []) (Fa (by simp[*]:(List.map idv []).length+([]:List (List DV)).length≤2^30) (Fs 7 (List.map idv []) (Fa (by exact Z5m _:Z0J (List.map idv [])) Fz))))
theorem Zgq(ws:List Int)(hw:ws.length≤1048576)(hne:ws≠[]):GP 135 [Z0j ws] true (.ow 0) [.arr 3 1 (ws.map idv)]:=by
 exact gF [24007] Tryz.func135 [] (Fa (by exact Zg7 hne:List.map idv ws≠[]) (FA 5 7 idv ws (Fa (by exact Z5m _:Z0J (List.map idv ws)) Fz)))
theorem Zhj(ws:List Int)(hw:ws.length≤1048576):GP 135 [Z0j ws] true (.ow 0) [.arr 3 1 (ws.map idv)]:=by
 by_cases hne:ws=[]
 ·subst hne;exact Z68 fun p c=>match p with | none=>Zdj c | some p=>Zbu p c
 ·exact Zgq ws hw hne
theorem ZbX(c:Nat):GP 81 [.d (.sc (.slice none 0 c))] true (.ow 0) [.arr 84 4 []] :=
 gspec_ofE [((2:Nat),[Hint.own])] [] [(24002:Nat)] dd Tryz.func81 [] (φ:=Z0J []) (fun _ h=>nomatch h) kr kr
theorem Z9W(p:Addr)(c:Nat):GP 81 [.d (.sc (.slice (some p) 0 c))] true (.ow 0) [.arr 84 4 []]:=by
 exact gF [24007] Tryz.func81 [] (Fs 5 (List.map Page.dv []) (Fa (by simp[*]:(List.map Page.dv []).length+([]:List (List DV)).length≤2^30) (Fs 7 (List.map Page.dv []) (Fa (by exact Z2i _:Z0J (List.map Page.dv [])) Fz))))
theorem ZdY(l:List Page)(hl:l.length≤1048576):GP 81 [Z0n l] true (.ow 0) [.arr 84 4 (l.map Page.dv)]:=by
 by_cases hne:l=[]
 ·subst hne;exact Z68 fun p c=>match p with | none=>ZbX c | some p=>Z9W p c
 ·exact Z6c l hl hne
def Z1B(w:Work)(r:Int):Int:=if r∈w.Q then r else(Z0a (loadA w.heap.W r).1).1
theorem ZaS(w:Work)(r:Int)(hw:WOk w.heap.W)(hl:w.heap.W.length≤4096)(hq:w.Q.length≤1048576)(h0:0≤r∧r≤18446744073709551615):GP 119 [w.av,u64 r] true (u64 (Z1B w r)) []:=by
 have h1:=Z0C hw r;rcases bb (decide (r∈w.Q))with hc0 | hc0<;>have hc0p:=hc0<;>simp only[bs]at hc0p
 ·exact gF [] Tryz.func119 [true] (Fh 12 [.call true (Sx.bool (decide (r∈w.Q))) [],.br true] (Fa (@Z0Y w.Q r aa) (Fa hc0 (Fa (by simp[Z1B, *]:r=Z1B w r) Fz))))
 ·exact gF [] Tryz.func119 [true] (Fh 12 [.call true (Sx.bool (decide (r∈w.Q))) [],.br false] (Fa (@Z0Y w.Q r aa) (Fa hc0 (Fc 19 (@Z1M w.heap.W r oq aa) (Fc 24 (@Z31 ((loadA w.heap.W r).fst) oq oq) (Fa (by simp[Z1B, *]:(Z0a (loadA w.heap.W r).fst).fst=Z1B w r) Fz))))))
theorem ZhA(w:Work)(a:Int)(hw:WOk w.heap.W)(h1:w.heap.W.length≤4096)(h0:0≤a∧a≤18446744073709551615):GP 100 [w.av,u64 a] true (hdW w a).av []:=by
 have h2:=Z0C hw a;exact gF [] Tryz.func100 [] (Fc 14 (@Z1M w.heap.W a oq aa) (Fc 19 (@Z32 ((loadA w.heap.W a).fst) oq oq) Fz))
def Z7R(w:Work)(x:Int):Work:=if Z0E w (ofA w.heap.C x).1=true∧x∉w.Q then⟨⟨w.heap.C,(Z0G w.heap.W x (objW ⟨0,(hdW w x).length,0⟩)).1,w.heap.P,w.heap.S,w.heap.B⟩,w.old,w.T,w.Q,w.D,⟨w.rep.copied,w.rep.kept,w.rep.filled+1,w.rep.freed,w.rep.cleared,w.rep.steps⟩⟩else w
def fillN(w:Work):Nat→Work
 | 0=>w
 | k+1=>Z7R (fillN w k) (w.old.getD k default)
def ZlZ(w:Work)(i:Nat):Tg:=⟨tm 84 [(1,.pt 8001 0 0),(2,.pt 8002 0 0),(3,int i)],[(8002,.box 89 zW),(8001,.box 89 w.cells)],60⟩
structure FOk (w:Work):Prop where
 W:WOk w.heap.W
 wl:w.heap.W.length≤4096
 pl:w.heap.P.length≤64
 ol:w.old.length≤524288
 o:∀ x∈w.old,0≤x∧x≤8192
 tl:w.T.length≤1000000
 ql:w.Q.length≤1000000
theorem WkOk.fok{w:Work}(h:WkOk w):FOk w:=by
 have h1:=h.mu;have h2:=h.tl;have h3:=h.pl;have h4:=validB_iff.1 h.C;exact⟨h.W,h.wl,by omega,h.ol,h.o,by omega,by omega⟩
theorem Z7X{n:Int}(h:0≤n∧n≤255):Z0c ⟨0,n,0⟩=(1+16*n,0):=by
 have hv:Z0g ⟨0,n,0⟩=true:=validH_iff.2 ⟨by simp,by simp,h.1,h.2,by simp⟩;rw[Z0c,if_pos hv];simp
section
variable (w:Work) (i:Nat) (hw:FOk w) (hi:i<w.old.length) (hr:0≤w.rep.filled∧w.rep.filled≤1000000)
include hw hi hr
theorem ZjW:CP (rndF Tryz.f121 0) (ZlZ w i).st .nrm (ZlZ (Z7R w (w.old.getD i default)) (i+1)).st:=by
 have h1:=hw.W;have h2:=hw.wl;have h3:=hw.pl;have h4:=hw.ol;have h5:=hw.tl;have h6:=hw.ql;have hx:=hw.o _ (getD_mem_iff.2 ⟨i,hi,rfl⟩);have hm:=Z1y (loadA w.heap.W (w.old.getD i default)).1 (Z0C h1 _).1;have hh:0≤(hdW w (w.old.getD i default)).length∧(hdW w (w.old.getD i default)).length≤255:=Z0t w.heap.W (w.old.getD i default);have he:=Z7X hh;by_cases c1:Z0E w (ofA w.heap.C (w.old.getD i default)).1=true
 ·by_cases c2:w.old.getD i default∈w.Q
  ·have e7:Z7R w (w.old.getD i default)=w:=by rw[Z7R,if_neg (by rintro⟨_,q⟩;exact q c2)]
   rw[e7];exact sF [] [] (FN 13 14 24 wdv w.old i (Fc 26 (@Z4B w.heap.C (w.old.getD i default) oq oq) (Fc 32 (@Z1C w ((ofA w.heap.C (w.old.getD i default)).fst) oq oq) (FeG 40 (!!Z0E w (ofA w.heap.C (w.old.getD i default)).fst) wdv w.old (↑i) i (FcG 42 (!!Z0E w (ofA w.heap.C (w.old.getD i default)).fst) (fun hg=>by(try simp only[bs]at hg);exact @Z0Y w.Q (w.old.getD i default) oq) (Fts 43 (!Z0E w (ofA w.heap.C (w.old.getD i default)).fst||decide (w.old.getD i default∈w.Q)) (Fx 16 i Fz)))))))
  ·have e7:Z7R w (w.old.getD i default)=⟨⟨w.heap.C,(Z0G w.heap.W (w.old.getD i default) (objW ⟨0,(hdW w (w.old.getD i default)).length,0⟩)).1,w.heap.P,w.heap.S,w.heap.B⟩,w.old,w.T,w.Q,w.D,⟨w.rep.copied,w.rep.kept,w.rep.filled+1,w.rep.freed,w.rep.cleared,w.rep.steps⟩⟩:=by rw[Z7R,if_pos ⟨c1,c2⟩]
   rw[e7];exact sF [] [] (Fh 71 [.els (List.map wdv ([(Z0c (Header.mk 0 (hdW w (w.old.getD i default)).length 0)).fst]++List.replicate (hdW w (w.old.getD i default)).length.toNat 0))] (FN 13 14 24 wdv w.old i (Fc 26 (@Z4B w.heap.C (w.old.getD i default) oq oq) (Fc 32 (@Z1C w ((ofA w.heap.C (w.old.getD i default)).fst) oq oq) (FeG 40 (!!Z0E w (ofA w.heap.C (w.old.getD i default)).fst) wdv w.old (↑i) i (FcG 42 (!!Z0E w (ofA w.heap.C (w.old.getD i default)).fst) (fun hg=>by(try simp only[bs]at hg);exact @Z0Y w.Q (w.old.getD i default) oq) (Ffs 43 (!Z0E w (ofA w.heap.C (w.old.getD i default)).fst||decide (w.old.getD i default∈w.Q)) (Fek 48 wdv w.old (↑i) i (Fc 50 (@ZhA w (w.old.getD i default) aa aa oq) (Fc 55 (@Z3n (Header.mk 0 (hdW w (w.old.getD i default)).length 0) (by(simp only[bs];omega))) (Fek 65 wdv w.old (↑i) i (Fs 68 (List.map wdv [(Z0c (Header.mk 0 (hdW w (w.old.getD i default)).length 0)).fst]) (Fa (by grind[objW]:0≤(hdW w (w.old.getD i default)).length∧(↑(List.map wdv [(Z0c (Header.mk 0 (hdW w (w.old.getD i default)).length 0)).fst]).length:Int)+(hdW w (w.old.getD i default)).length≤2^30) (Fa (by simp[objW,List.map_take,List.map_drop,List.map_set,List.map_append,wdv,idv]:List.map wdv [(Z0c (Header.mk 0 (hdW w (w.old.getD i default)).length 0)).fst]++List.replicate (hdW w (w.old.getD i default)).length.toNat [du64 0]=List.map wdv ([(Z0c (Header.mk 0 (hdW w (w.old.getD i default)).length 0)).fst]++List.replicate (hdW w (w.old.getD i default)).length.toNat 0)) (Fc 72 (@Z4F w.heap.W ([(Z0c (Header.mk 0 (hdW w (w.old.getD i default)).length 0)).fst]++List.replicate (hdW w (w.old.getD i default)).length.toNat 0) (w.old.getD i default) oq oq (by grind[objW])) (Fi 80 (w.rep.filled+1) (Fx 16 i Fz)))))))))))))))))
 ·have e7:Z7R w (w.old.getD i default)=w:=by rw[Z7R,if_neg (by rintro⟨q,_⟩;exact c1 q)]
  rw[e7];exact sF [] [] (FN 13 14 24 wdv w.old i (Fc 26 (@Z4B w.heap.C (w.old.getD i default) oq oq) (Fc 32 (@Z1C w ((ofA w.heap.C (w.old.getD i default)).fst) oq oq) (FeG 40 (!!Z0E w (ofA w.heap.C (w.old.getD i default)).fst) wdv w.old (↑i) i (FcG 42 (!!Z0E w (ofA w.heap.C (w.old.getD i default)).fst) (fun hg=>by(try simp only[bs]at hg);exact @Z0Y w.Q (w.old.getD i default) oq) (Fts 43 (!Z0E w (ofA w.heap.C (w.old.getD i default)).fst||decide (w.old.getD i default∈w.Q)) (Fx 16 i Fz)))))))
end
theorem Zno(w:Work):CP (rndF Tryz.f121 0) (ZlZ w w.old.length).st (.ext 0) (Tg.st ⟨tm 84 [(1,.pt 8001 0 0),(2,.pt 8002 0 0)],[(8002,.box 89 zW),(8001,.box 89 w.cells)],60⟩):=by
 exact sF [] [] (FO 13 14 wdv w.old Fz)
theorem Zkm(w:Work)(x:Int):∃ l n,Z7R w x=⟨⟨w.heap.C,l,w.heap.P,w.heap.S,w.heap.B⟩,w.old,w.T,w.Q,w.D,⟨w.rep.copied,w.rep.kept,n,w.rep.freed,w.rep.cleared,w.rep.steps⟩⟩∧l.length≤w.heap.W.length∧(WOk w.heap.W→WOk l)∧w.rep.filled≤n∧n≤w.rep.filled+1:=by
 unfold Z7R;split
 ·refine⟨_,_,rfl,Z8u _ _ _,fun h=>Z6z h ?_ _,by omega,by omega⟩;intro y hy;have hh:0≤(hdW w x).length∧(hdW w x).length≤255:=Z0t w.heap.W x;simp only[objW,List.mem_cons,List.mem_replicate,Z7X hh]at hy;rcases hy with rfl | ⟨_,rfl⟩<;>omega
 ·exact⟨w.heap.W,w.rep.filled,rfl,Nat.le_refl _,fun h=>h,by omega,by omega⟩
theorem Z6A(w:Work)(hw:FOk w):∀ k,FOk (fillN w k)∧(fillN w k).heap.C=w.heap.C∧(fillN w k).heap.P=w.heap.P∧(fillN w k).heap.S=w.heap.S∧(fillN w k).heap.B=w.heap.B∧(fillN w k).old=w.old∧(fillN w k).T=w.T∧(fillN w k).Q=w.Q∧(fillN w k).rep.freed=w.rep.freed∧(fillN w k).rep.cleared=w.rep.cleared∧w.rep.filled≤(fillN w k).rep.filled∧(fillN w k).rep.filled≤w.rep.filled+k
 | 0=>⟨hw,rfl,rfl,rfl,rfl,rfl,rfl,rfl,rfl,rfl,by simp[fillN],by simp[fillN]⟩
 | k+1=>by
  obtain⟨i0,i1,i2,i3,i4,i5,i6,i7,i8,i9,i10,i11⟩:=Z6A w hw k;obtain⟨l,n,e,e1,e2,e3,e4⟩:=Zkm (fillN w k) (w.old.getD k default);have:fillN w (k+1)=_:=e;rw[this];have hl:=i0.wl;exact⟨⟨e2 i0.W,by simp only;omega,i0.pl,i0.ol,i0.o,i0.tl,i0.ql⟩,i1,i2,i3,i4,i5,i6,i7,i8,i9,by simp only;omega,by simp only;omega⟩
section
variable (w:Work) (hw:FOk w) (hr:w.rep.filled=0)
include hw hr
theorem Zlp:CP (blkF Tryz.f121 0) (Tg.st ⟨tm 84 [(1,.pt 8001 0 0),(2,.pt 8002 0 0),(3,int 0)],[(8002,.box 89 zW),(8001,.box 89 w.cells)],60⟩) .nrm (Tg.st ⟨tm 84 [(1,.pt 8001 0 0),(2,.pt 8002 0 0)],[(8002,.box 89 zW),(8001,.box 89 (fillN w w.old.length).cells)],60⟩):=by
 have hol:=hw.ol;refine Z08 (S:=fun k=>(ZlZ (fillN w k) k).st) w.old.length kr (fun k hk=>?_) ?_
 ·have h:=Z6A w hw k;have:=ZjW (fillN w k) k h.1 (by rw[h.2.2.2.2.2.1];exact hk) oq;rw[h.2.2.2.2.2.1]at this;exact this
 ·have h:=Z6A w hw w.old.length;have:=Zno (fillN w w.old.length);rw[h.2.2.2.2.2.1]at this;exact this
theorem Zcs:GP 121 [w.av] false (fillN w w.old.length).av []:=by
 exact gF [] Tryz.func121 [] (Fu (@Zlp w aa aa) Fz)
end
def Z7h(s:Int)(p:Page):Prop:=p.K≠0∧p.S=s
instance (s:Int) (p:Page):Decidable (Z7h s p):=by unfold Z7h;infer_instance
def Z2G(s:Int)(p:Page):Page:=if Z7h s p then⟨0,0,0,0⟩else p
def Z2P(pw s:Int)(l:List Page)(ws:List Int):Nat→List Int
 | 0=>ws
 | i+1=>if Z7h s (l.getD i default)then spl (Z2P pw s l ws i) (i*pw.toNat) (List.replicate pw.toNat 0)else Z2P pw s l ws i
def Z4A(n s:Int)(l:List Page):Nat→Int
 | 0=>n
 | i+1=>if Z7h s (l.getD i default)then Z4A n s l i+1 else Z4A n s l i
def ZgQ(w:Work)(ps:List Page)(ws:List Int)(n:Int)(i:Nat):Tg:=⟨tm 78 [(1,.pt 8001 0 0),(2,.pt 8002 0 0),(3,int i)],[(8001,.box 89 [int w.heap.C.pw,int w.heap.C.pg,.ow 24017,.ow 16010,int w.heap.S,int w.heap.B,Z01 w.old,Z0j w.T,Z01 w.Q,int w.D,int w.rep.copied,int w.rep.kept,int w.rep.filled,int n,int w.rep.cleared,int w.rep.steps]),(24017,.arr 35 1 (ws.map wdv)),(16010,.arr 84 4 (ps.map Page.dv)),(8002,.box 89 zW)],60⟩
theorem Zlg(w:Work)(ps:List Page)(ws:List Int)(n:Int)(i:Nat)(hl:ps.length≤64)(hi:i<ps.length)(hb:¬ Z7h w.heap.S (ps.getD i default)):CP (rndF Tryz.f120 0) (ZgQ w ps ws n i).st .nrm (ZgQ w ps ws n (i+1)).st:=by
 unfold Z7h at hb;have hb':¬ ((ps.getD (i:Int).toNat default).K≠0∧(ps.getD (i:Int).toNat default).S=w.heap.S):=hb;exact sF [] [] (FM 24 25 Page.dv ps i (Fmq 33 Page.dv ps (↑i) (Ftb 44 ((ps.getD (↑i:Int).toNat default).K==0||(ps.getD (↑i:Int).toNat default).S != w.heap.S) (Fx 27 i Fz))))
def ZhC(w:Work)(ps:List Page)(ws:List Int)(n:Int)(i k:Nat):Tg:=⟨tm 78 [(1,.pt 8001 0 0),(2,.pt 8002 0 0),(3,int i),(5,int k)],[(8001,.box 89 [int w.heap.C.pw,int w.heap.C.pg,.ow 24017,.ow 16010,int w.heap.S,int w.heap.B,Z01 w.old,Z0j w.T,Z01 w.Q,int w.D,int w.rep.copied,int w.rep.kept,int w.rep.filled,int n,int w.rep.cleared,int w.rep.steps]),(16010,.arr 84 4 (ps.map Page.dv)),(24017,.arr 35 1 ((wr ws (List.replicate w.heap.C.pw.toNat 0) (i*w.heap.C.pw.toNat) k).map wdv)),(8002,.box 89 zW)],64⟩
section
variable (w:Work) (ps:List Page) (ws:List Int) (n:Int) (i k:Nat) (hp:0≤w.heap.C.pw∧w.heap.C.pw≤64) (hi:i≤64) (hl:i*w.heap.C.pw.toNat+w.heap.C.pw.toNat≤ws.length) (hw:ws.length≤4096)
include hp hi hl hw
theorem Zi2(hk:k<w.heap.C.pw.toNat):CP (rndF Tryz.f120 2) (ZhC w ps ws n i k).st .nrm (ZhC w ps ws n i (k+1)).st:=by
 have hs:=ZaU (ws:=ws) (l:=List.replicate w.heap.C.pw.toNat 0) (i:=i*w.heap.C.pw.toNat) (k:=k) (by simpa using hl) (by simpa using hk) (0:Int);rw[show(List.replicate w.heap.C.pw.toNat (0:Int)).getD k 0=0 by simp[List.getD,hk]]at hs;have hn:=Z4Y (ws:=ws) (l:=List.replicate w.heap.C.pw.toNat (0:Int)) (i:=i*w.heap.C.pw.toNat) (k:=k) (by simpa using hl) qo;have em:(i:Int)*w.heap.C.pw=((i*w.heap.C.pw.toNat:Nat):Int):=by rw[Int.natCast_mul,Int.toNat_of_nonneg hp.1]
 have ei:(i:Int)*w.heap.C.pw+k=((i*w.heap.C.pw.toNat+k:Nat):Int):=by omega
 exact sF [] (fO 6) (Fh 10076 [.els (List.map wdv ((wr ws (List.replicate w.heap.C.pw.toNat 0) (i*w.heap.C.pw.toNat) k).set (↑(i*w.heap.C.pw.toNat+k):Int).toNat 0))] (Ftb 62 (decide ((↑k:Int)<w.heap.C.pw)) (Fi 73 ((↑i:Int)*w.heap.C.pw) (Fg 75 (by rw[wrapI' oq oq];omega:IntKind.i64.wrap ((↑i:Int)*w.heap.C.pw+(↑k:Int))=(↑(i*w.heap.C.pw.toNat+k):Int)) (Fa (by(simp only[List.length_map];omega):0≤(↑(i*w.heap.C.pw.toNat+k):Int)∧(↑(i*w.heap.C.pw.toNat+k):Int).toNat<(List.map wdv (wr ws (List.replicate w.heap.C.pw.toNat 0) (i*w.heap.C.pw.toNat) k)).length) (Fa (by(simp only[List.length_map];omega):(↑(i*w.heap.C.pw.toNat+k):Int).toNat<(List.map wdv (wr ws (List.replicate w.heap.C.pw.toNat 0) (i*w.heap.C.pw.toNat) k)).length) (Fa (ms:(List.map wdv (wr ws (List.replicate w.heap.C.pw.toNat 0) (i*w.heap.C.pw.toNat) k)).set (↑(i*w.heap.C.pw.toNat+k):Int).toNat [du64 0]=List.map wdv ((wr ws (List.replicate w.heap.C.pw.toNat 0) (i*w.heap.C.pw.toNat) k).set (↑(i*w.heap.C.pw.toNat+k):Int).toNat 0)) (Fx 64 k (Fr (35:Int) (Fa (by refine congrArg _ ?_;exact hs:List.map wdv ((wr ws (List.replicate w.heap.C.pw.toNat 0) (i*w.heap.C.pw.toNat) k).set (↑(i*w.heap.C.pw.toNat+k):Int).toNat 0)=List.map wdv (wr ws (List.replicate w.heap.C.pw.toNat 0) (i*w.heap.C.pw.toNat) (k+1))) Fz))))))))))
theorem Zof:CP (rndF Tryz.f120 2) (ZhC w ps ws n i w.heap.C.pw.toNat).st (.ext 2) (Tg.st ⟨tm 78 [(1,.pt 8001 0 0),(2,.pt 8002 0 0),(3,int i)],[(8001,.box 89 [int w.heap.C.pw,int w.heap.C.pg,.ow 24017,.ow 16010,int w.heap.S,int w.heap.B,Z01 w.old,Z0j w.T,Z01 w.Q,int w.D,int w.rep.copied,int w.rep.kept,int w.rep.filled,int n,int w.rep.cleared,int w.rep.steps]),(16010,.arr 84 4 (ps.map Page.dv)),(24017,.arr 35 1 ((spl ws (i*w.heap.C.pw.toNat) (List.replicate w.heap.C.pw.toNat 0)).map wdv)),(8002,.box 89 zW)],64⟩):=by
 have hs:=Zch ws (List.replicate w.heap.C.pw.toNat (0:Int)) (i*w.heap.C.pw.toNat);rw[List.length_replicate]at hs;exact sF [] (fO 5) (Ffb 62 (decide ((↑w.heap.C.pw.toNat:Int)<w.heap.C.pw)) (Fr (35:Int) (Fa (by refine congrArg _ ?_;assumption:List.map wdv (wr ws (List.replicate w.heap.C.pw.toNat 0) (i*w.heap.C.pw.toNat) w.heap.C.pw.toNat)=List.map wdv (spl ws (i*w.heap.C.pw.toNat) (List.replicate w.heap.C.pw.toNat 0))) Fz)))
theorem Zl1:CP (blkF Tryz.f120 2) (Tg.st ⟨tm 78 [(1,.pt 8001 0 0),(2,.pt 8002 0 0),(3,int i),(5,int 0)],[(8001,.box 89 [int w.heap.C.pw,int w.heap.C.pg,.ow 24017,.ow 16010,int w.heap.S,int w.heap.B,Z01 w.old,Z0j w.T,Z01 w.Q,int w.D,int w.rep.copied,int w.rep.kept,int w.rep.filled,int n,int w.rep.cleared,int w.rep.steps]),(16010,.arr 84 4 (ps.map Page.dv)),(24017,.arr 35 1 (ws.map wdv)),(8002,.box 89 zW)],64⟩) .nrm (Tg.st ⟨tm 78 [(1,.pt 8001 0 0),(2,.pt 8002 0 0),(3,int i)],[(8001,.box 89 [int w.heap.C.pw,int w.heap.C.pg,.ow 24017,.ow 16010,int w.heap.S,int w.heap.B,Z01 w.old,Z0j w.T,Z01 w.Q,int w.D,int w.rep.copied,int w.rep.kept,int w.rep.filled,int n,int w.rep.cleared,int w.rep.steps]),(16010,.arr 84 4 (ps.map Page.dv)),(24017,.arr 35 1 ((spl ws (i*w.heap.C.pw.toNat) (List.replicate w.heap.C.pw.toNat 0)).map wdv)),(8002,.box 89 zW)],64⟩):=by
 have:=Z08 (S:=fun k=>(ZhC w ps ws n i k).st) w.heap.C.pw.toNat kr (fun k hk=>Zi2 w ps ws n i k hp hi hl hw hk) (Zof w ps ws n i hp hi hl hw)
 simp only[ZhC,Z8U]at this;exact this
end
theorem Zkc(w:Work)(ps:List Page)(ws:List Int)(n:Int)(i:Nat)(hl:ps.length≤64)(hi:i<ps.length)(hb:Z7h w.heap.S (ps.getD i default))(hp:0≤w.heap.C.pw∧w.heap.C.pw≤64)(hs:i*w.heap.C.pw.toNat+w.heap.C.pw.toNat≤ws.length)(hw:ws.length≤4096)(hn:0≤n∧n≤64):CP (rndF Tryz.f120 0) (ZgQ w ps ws n i).st .nrm (ZgQ w (ps.set i ⟨0,0,0,0⟩) (spl ws (i*w.heap.C.pw.toNat) (List.replicate w.heap.C.pw.toNat 0)) (n+1) (i+1)).st:=by
 unfold Z7h at hb;have hb':(ps.getD (i:Int).toNat default).K≠0∧(ps.getD (i:Int).toNat default).S=w.heap.S:=hb;exact sF [] [] (Fh 10050 [.els (List.map Page.dv (ps.set (↑i:Int).toNat (Page.mk 0 0 0 0)))] (FM 24 25 Page.dv ps i (Fmq 33 Page.dv ps (↑i) (Ffb 44 ((ps.getD (↑i:Int).toNat default).K==0||(ps.getD (↑i:Int).toNat default).S != w.heap.S) (Fa (by(simp only[List.length_map];omega):0≤(↑i:Int)∧(↑i:Int).toNat<(List.map Page.dv ps).length) (Fa (by(simp only[List.length_map];omega):(↑i:Int).toNat<(List.map Page.dv ps).length) (Fa (by rw[List.map_set];rfl:(List.map Page.dv ps).set (↑i:Int).toNat [dint 0,dint 0,dint 0,dint 0]=List.map Page.dv (ps.set (↑i:Int).toNat (Page.mk 0 0 0 0))) (Fi 54 (n+1) (Fu (@Zl1 w (ps.set (↑i:Int).toNat (Page.mk 0 0 0 0)) ws (n+1) i aa oq aa aa) (Fx 27 i Fz))))))))))
theorem Z5o{pw s:Int}{l:List Page}{ws:List Int}(h:l.length*pw.toNat≤ws.length):∀ i,i≤l.length→(Z2P pw s l ws i).length=ws.length
 | 0,_=>rfl
 | i+1,hi=>by
  have ih:=Z5o (s:=s) h i oq;have hm:(i+1)*pw.toNat≤l.length*pw.toNat:=Nat.mul_le_mul_right _ hi;rw[Nat.add_mul,Nat.one_mul]at hm;unfold Z2P;split
  ·rw[Z4i qo,ih]
  ·exact ih
theorem Z67(n s:Int)(l:List Page):∀ i:Nat,n≤Z4A n s l i∧Z4A n s l i≤n+i
 | 0=>by simp[Z4A]
 | i+1=>by
  have ih:=Z67 n s l i;unfold Z4A;split<;>omega
def Z1z(w:Work):Work:=⟨⟨w.heap.C,Z2P w.heap.C.pw w.heap.S w.heap.P w.heap.W w.heap.P.length,w.heap.P.map (Z2G w.heap.S),w.heap.S,w.heap.B⟩,w.old,w.T,w.Q,w.D,⟨w.rep.copied,w.rep.kept,w.rep.filled,Z4A w.rep.freed w.heap.S w.heap.P w.heap.P.length,w.rep.cleared,w.rep.steps⟩⟩
theorem Znu(w:Work)(ps:List Page)(ws:List Int)(n:Int):CP (rndF Tryz.f120 0) (ZgQ w ps ws n ps.length).st (.ext 0) (Tg.st ⟨tm 78 [(1,.pt 8001 0 0),(2,.pt 8002 0 0)],[(8001,.box 89 [int w.heap.C.pw,int w.heap.C.pg,.ow 24017,.ow 16010,int w.heap.S,int w.heap.B,Z01 w.old,Z0j w.T,Z01 w.Q,int w.D,int w.rep.copied,int w.rep.kept,int w.rep.filled,int n,int w.rep.cleared,int w.rep.steps]),(24017,.arr 35 1 (ws.map wdv)),(16010,.arr 84 4 (ps.map Page.dv)),(8002,.box 89 zW)],60⟩):=by
 exact sF [] [] (FO 24 25 Page.dv ps Fz)
section
variable (w:Work) (hl:w.heap.P.length≤64) (hp:0≤w.heap.C.pw∧w.heap.C.pw≤64) (hs:w.heap.P.length*w.heap.C.pw.toNat≤w.heap.W.length) (hw:w.heap.W.length≤4096) (hr:w.rep.freed=0)
include hl hp hs hw hr
theorem Zkk:CP (blkF Tryz.f120 0) (Tg.st ⟨tm 78 [(1,.pt 8001 0 0),(2,.pt 8002 0 0),(3,int 0)],[(8001,.box 89 [int w.heap.C.pw,int w.heap.C.pg,.ow 24017,.ow 16010,int w.heap.S,int w.heap.B,Z01 w.old,Z0j w.T,Z01 w.Q,int w.D,int w.rep.copied,int w.rep.kept,int w.rep.filled,int w.rep.freed,int w.rep.cleared,int w.rep.steps]),(24017,.arr 35 1 (w.heap.W.map wdv)),(16010,.arr 84 4 (w.heap.P.map Page.dv)),(8002,.box 89 zW)],60⟩) .nrm (Tg.st ⟨tm 78 [(1,.pt 8001 0 0),(2,.pt 8002 0 0)],[(8001,.box 89 [int w.heap.C.pw,int w.heap.C.pg,.ow 24017,.ow 16010,int w.heap.S,int w.heap.B,Z01 w.old,Z0j w.T,Z01 w.Q,int w.D,int w.rep.copied,int w.rep.kept,int w.rep.filled,int (Z4A w.rep.freed w.heap.S w.heap.P w.heap.P.length),int w.rep.cleared,int w.rep.steps]),(24017,.arr 35 1 ((Z2P w.heap.C.pw w.heap.S w.heap.P w.heap.W w.heap.P.length).map wdv)),(16010,.arr 84 4 ((w.heap.P.map (Z2G w.heap.S)).map Page.dv)),(8002,.box 89 zW)],60⟩):=by
 refine Z08 (S:=fun k=>(ZgQ w (preM (Z2G w.heap.S) w.heap.P k) (Z2P w.heap.C.pw w.heap.S w.heap.P w.heap.W k) (Z4A w.rep.freed w.heap.S w.heap.P k) k).st) w.heap.P.length kr (fun k hk=>?_) ?_
 ·have h1:=Z3G (Z2G w.heap.S) w.heap.P k;have h2:=Z88 (Z2G w.heap.S) w.heap.P (Nat.le_refl k) default;have h3:=Z5o (s:=w.heap.S) hs k oq;have h4:=Z67 w.rep.freed w.heap.S w.heap.P k;by_cases hb:Z7h w.heap.S (w.heap.P.getD k default)
  ·have e1:=Z6i (Z2G w.heap.S) w.heap.P hk default;have e2:Z2P w.heap.C.pw w.heap.S w.heap.P w.heap.W (k+1)=spl (Z2P w.heap.C.pw w.heap.S w.heap.P w.heap.W k) (k*w.heap.C.pw.toNat) (List.replicate w.heap.C.pw.toNat 0):=by rw[Z2P,if_pos hb]
   have e3:Z4A w.rep.freed w.heap.S w.heap.P (k+1)=Z4A w.rep.freed w.heap.S w.heap.P k+1:=by rw[Z4A,if_pos hb]
   rw[Z2G,if_pos hb]at e1;rw[← e1,e2,e3];have hm:(k+1)*w.heap.C.pw.toNat≤w.heap.P.length*w.heap.C.pw.toNat:=Nat.mul_le_mul_right _ hk;rw[Nat.add_mul,Nat.one_mul]at hm;exact Zkc w _ _ _ k oq oq (by rw[h2];exact hb) hp oq oq oq
  ·have e1:=Z9b (Z2G w.heap.S) w.heap.P hk default (by rw[Z2G,if_neg hb]);have e2:Z2P w.heap.C.pw w.heap.S w.heap.P w.heap.W (k+1)=Z2P w.heap.C.pw w.heap.S w.heap.P w.heap.W k:=by rw[Z2P,if_neg hb]
   have e3:Z4A w.rep.freed w.heap.S w.heap.P (k+1)=Z4A w.rep.freed w.heap.S w.heap.P k:=by rw[Z4A,if_neg hb]
   rw[← e1,e2,e3];exact Zlg w _ _ _ k oq oq (by rw[h2];exact hb)
 ·have h:=Znu w (preM (Z2G w.heap.S) w.heap.P w.heap.P.length) (Z2P w.heap.C.pw w.heap.S w.heap.P w.heap.W w.heap.P.length) (Z4A w.rep.freed w.heap.S w.heap.P w.heap.P.length);rw[Z3G,Z7T]at h;simp only[Z7T];exact h
theorem ZcK:GP 120 [w.av] false (Z1z w).av []:=by
 have h1:=Z5o (s:=w.heap.S) hs w.heap.P.length (Nat.le_refl _);have h2:=Z67 w.rep.freed w.heap.S w.heap.P w.heap.P.length;exact gF [] Tryz.func120 [] (FAx 6 10 Page.dv w.heap.P (by(simp[Z1z, *];omega)) (FAx 13 17 wdv w.heap.W (by(simp[Z1z, *];omega)) (Fu (@Zkk w aa aa aa aa aa) Fz)))
end
def rep0:Rep:=⟨0,0,0,0,0,0⟩
theorem Z55{h:Heap}{l:List Int}(e:Z0m h l=true):Z0p h=⟨0,0,0⟩:=by
 simp only[Z0m,Bool.and_eq_true,decide_eq_true_eq]at e;exact e.1
section
variable (h:Heap) (s k:List Int) (hw:WOk h.W) (hs:s.length≤1048575) (hk:k.length≤1048575) (hs2:ULe s) (hk2:ULe k)
include hw hs hk hs2 hk2
theorem Zm1(hp:Z02 h=false):GP 69 [h.av,Z01 s,Z01 k] false (.tu [noHeap.av,Z01 [],Z01 [],.ag rep0.cells,int 1]) []:=by
 exact gF [] Tryz.func69 [] (Fc 20 (@Z0i h) (Ftb 21 (!Z02 h) (Fnl (Fnl (Fnl (Fnl Fz))))))
theorem ZlB(hp:Z02 h=true)(hr:Z0m h s=false∨Z0m h k=false):GP 69 [h.av,Z01 s,Z01 k] false (.tu [noHeap.av,Z01 [],Z01 [],.ag rep0.cells,int 19]) []:=by
 by_cases h1:Z0m h s=false
 ·exact gF [] Tryz.func69 [] (Fc 20 (@Z0i h) (Ffb 21 (!Z02 h) (Fc 26 (@Z1N h s aa oq) (FcG 31 (!!Z0m h s) (fun hg=>by(try simp only[bs]at hg);exact @Zcw h k aa (by(try simp only[bs]at hg);grind[noHeap,rep0])) (Fts 33 (!Z0m h s||true) (Fnl (Fnl (Fnl (Fnl Fz)))))))))
 ·have h2:Z0m h k=false:=by
   rcases hr with hr | hr
   ·exact absurd hr h1
   ·exact hr
  exact gF [] Tryz.func69 [] (Fc 20 (@Z0i h) (Ffb 21 (!Z02 h) (Fc 26 (@Z1N h s aa oq) (FcG 31 (!!Z0m h s) (fun hg=>by(try simp only[bs]at hg);exact @Z1N h k aa oq) (Ftb 33 (!Z0m h s||!Z0m h k) (Fnl (Fnl (Fnl (Fnl Fz)))))))))
theorem Zky(hp:Z02 h=true)(hr:Z0m h s=true)(hr':Z0m h k=true)(e:¬ (rootsF (beginW h) s).2.2=0):GP 69 [h.av,Z01 s,Z01 k] false (.tu [noHeap.av,Z01 [],Z01 [],.ag rep0.cells,int (rootsF (beginW h) s).2.2]) []:=by
 have hb:=Z3N hw hp;have hg:=Z55 hr;exact gF [] Tryz.func69 [] (Fc 20 (@Z0i h) (Ffb 21 (!Z02 h) (Fc 26 (@Z1N h s aa oq) (FcG 31 (!!Z0m h s) (fun hg=>by(try simp only[bs]at hg);exact @Z1N h k aa oq) (Ffs 33 (!Z0m h s||!Z0m h k) (Fc 38 (@Z3y h aa aa aa) (Fc 44 (@Z5E (beginW h) s aa aa aa) (Ftb 49 ((rootsF (beginW h) s).snd.snd != 0) (Fnl (Fnl (Fnl (Fnl Fz))))))))))))
theorem ZkG(hp:Z02 h=true)(hr:Z0m h s=true)(hr':Z0m h k=true)(e:(rootsF (beginW h) s).2.2=0)(e2:¬ (allF (rootsF (beginW h) s).1).2=0):GP 69 [h.av,Z01 s,Z01 k] false (.tu [noHeap.av,Z01 [],Z01 [],.ag rep0.cells,int (allF (rootsF (beginW h) s).1).2]) []:=by
 have hb:=Z3N hw hp;have hi:=Z49 hp;have hg:=Z55 hr;have ho:=Z4Q (roots:=s) hb hi e;have ho1:=ho.1;let y0:=rootsF (beginW h) s;exact gF [] Tryz.func69 [] (Fc 20 (@Z0i h) (Ffb 21 (!Z02 h) (Fc 26 (@Z1N h s aa oq) (FcG 31 (!!Z0m h s) (fun hg=>by(try simp only[bs]at hg);exact @Z1N h k aa oq) (Ffs 33 (!Z0m h s||!Z0m h k) (Fc 38 (@Z3y h aa aa aa) (Fc 44 (@Z5E (beginW h) s aa aa aa) (Ffb 49 (y0.snd.snd != 0) (Fc 55 (@Zba (y0.fst) aa) (Ftb 59 ((allF y0.fst).snd != 0) (Fnl (Fnl (Fnl (Fnl Fz))))))))))))))
end
def Z8j(w:Work)(x:Int):Int:=if x=0 then 0 else Z1B w x
def Z9N(w:Work)(x:Int):Work:=⟨w.heap,w.old,w.T,w.Q,w.D,⟨w.rep.copied,w.rep.kept,w.rep.filled,w.rep.freed,if x≠0∧Z1B w x=0 then w.rep.cleared+1 else w.rep.cleared,w.rep.steps⟩⟩
def weakS(w:Work)(k:List Int):Nat→Work
 | 0=>w
 | i+1=>Z9N (weakS w k i) (k.getD i default)
def Z6a(w:Work)(k:List Int):Nat→List Int
 | 0=>[]
 | i+1=>Z6a w k i++[Z8j (weakS w k i) (k.getD i default)]
theorem Z8a(w:Work)(k:List Int):∀ i,(weakS w k i).heap=w.heap∧(weakS w k i).old=w.old∧(weakS w k i).T=w.T∧(weakS w k i).Q=w.Q∧(weakS w k i).rep.filled=w.rep.filled∧(weakS w k i).rep.freed=w.rep.freed∧w.rep.cleared≤(weakS w k i).rep.cleared∧(weakS w k i).rep.cleared≤w.rep.cleared+i
 | 0=>⟨rfl,rfl,rfl,rfl,rfl,rfl,by simp[weakS],by simp[weakS]⟩
 | i+1=>by
  obtain⟨h1,h2,h3,h4,h5,h6,h7,h8⟩:=Z8a w k i;refine⟨h1,h2,h3,h4,h5,h6, ?_, ?_⟩
  ·simp only[weakS,Z9N];split<;>omega
  ·simp only[weakS,Z9N];split<;>omega
theorem Z8o(w:Work)(k:List Int):∀ i,(Z6a w k i).length=i
 | 0=>rfl
 | i+1=>by simp[Z6a,Z8o w k i]
def ZlK(w:Work)(k roots out:List Int)(i:Nat):Tg:=⟨tm 122 [(2,Z01 k),(6,.pt 8006 0 0),(7,.d (.sl 0 [])),(8,.d (.sl 0 [])),(9,.pt 8009 0 0),(10,int 0),(11,.pt 32011 0 0),(13,Z01 roots),(15,.ow 72015),(16,int i)],[(72015,.arr 35 1 (out.map wdv)),(32011,.box 89 w.cells),(8009,.box 71 [int 0,int 0,int 0,int 0,int 0,int 0]),(8006,.box 28 [int 0,int 0,.d (.sl 0 []),.d (.sl 0 []),int 0,int 0])],60⟩
section
variable (w:Work) (k roots out:List Int) (i:Nat) (hw:WOk w.heap.W) (hl:w.heap.W.length≤4096) (hq:w.Q.length≤1048576) (hk:k.length≤1048575) (hx:0≤k.getD i default∧k.getD i default≤18446744073709551615) (ho:out.length≤1048576) (hi:i<k.length) (hc:0≤w.rep.cleared∧w.rep.cleared≤2097152)
include hw hl hq hk hx ho hi hc
theorem ZiM:CP (rndF Tryz.f69 0) (ZlK w k roots out i).st .nrm (ZlK (Z9N w (k.getD i default)) k roots (out++[Z8j w (k.getD i default)]) (i+1)).st:=by
 by_cases h0:k.getD i default=0
 ·have e1:Z8j w (k.getD i default)=0:=by rw[Z8j,if_pos h0]
  have e2:Z9N w (k.getD i default)=w:=by rw[Z9N,if_neg (by rintro⟨q,_⟩;exact q h0)]
  rw[e1,e2];exact sF [(504091,72015)] [] (Fh 91 [.els (List.map wdv (out++[0]))] (FN 65 66 71 wdv k i (Ffb 73 (k.getD i default != 0) (Fs 90 (List.map wdv [0]) (Fa (by(simp[*];omega):(List.map wdv out).length+(List.map wdv [0]).length≤2^30) (Fa (ms:List.map wdv out++List.map wdv [0]=List.map wdv (out++[0])) (Fx 68 i Fz)))))))
 ·have e1:Z8j w (k.getD i default)=Z1B w (k.getD i default):=by rw[Z8j,if_neg h0]
  rw[e1];by_cases h2:Z1B w (k.getD i default)=0
  ·have e2:Z9N w (k.getD i default)=⟨w.heap,w.old,w.T,w.Q,w.D,⟨w.rep.copied,w.rep.kept,w.rep.filled,w.rep.freed,w.rep.cleared+1,w.rep.steps⟩⟩:=by rw[Z9N,if_pos ⟨h0,h2⟩]
   rw[e2];let y0:=k.getD i default;exact sF [(528091,72015)] [] (Fh 91 [.els (List.map wdv (out++[Z1B w y0]))] (FN 65 66 71 wdv k i (Ftb 73 (k.getD i default != 0) (Fek 77 wdv k (↑i) i (Fc 79 (@ZaS w y0 aa aa aa aa) (Ftb 81 (Z1B w y0==0) (Fi 85 (w.rep.cleared+1) (Fs 90 (List.map wdv [Z1B w y0]) (Fa (by(simp[*];omega):(List.map wdv out).length+(List.map wdv [Z1B w y0]).length≤2^30) (Fa (ms:List.map wdv out++List.map wdv [Z1B w y0]=List.map wdv (out++[Z1B w y0])) (Fx 68 i Fz)))))))))))
  ·have e2:Z9N w (k.getD i default)=w:=by rw[Z9N,if_neg (by rintro⟨_,q⟩;exact h2 q)]
   rw[e2];let y1:=k.getD i default;exact sF [(520091,72015)] [] (Fh 91 [.els (List.map wdv (out++[Z1B w y1]))] (FN 65 66 71 wdv k i (Ftb 73 (k.getD i default != 0) (Fek 77 wdv k (↑i) i (Fc 79 (@ZaS w y1 aa aa aa aa) (Ffb 81 (Z1B w y1==0) (Fs 90 (List.map wdv [Z1B w y1]) (Fa (by(simp[*];omega):(List.map wdv out).length+(List.map wdv [Z1B w y1]).length≤2^30) (Fa (ms:List.map wdv out++List.map wdv [Z1B w y1]=List.map wdv (out++[Z1B w y1])) (Fx 68 i Fz))))))))))
end
theorem Zo6(w:Work)(k roots out:List Int):CP (rndF Tryz.f69 0) (ZlK w k roots out k.length).st (.ext 0) (Tg.st ⟨tm 122 [(6,.pt 8006 0 0),(7,.d (.sl 0 [])),(8,.d (.sl 0 [])),(9,.pt 8009 0 0),(10,int 0),(11,.pt 32011 0 0),(13,Z01 roots),(15,.ow 72015)],[(72015,.arr 35 1 (out.map wdv)),(32011,.box 89 w.cells),(8009,.box 71 [int 0,int 0,int 0,int 0,int 0,int 0]),(8006,.box 28 [int 0,int 0,.d (.sl 0 []),.d (.sl 0 []),int 0,int 0])],60⟩):=by
 exact sF [] [] (FO 65 66 wdv k Fz)
theorem Zfy(w:Work)(k roots:List Int)(hw:WOk w.heap.W)(hl:w.heap.W.length≤4096)(hq:w.Q.length≤1048576)(hk:k.length≤1048575)(hx:ULe k)(hc:w.rep.cleared=0):CP (blkF Tryz.f69 0) (ZlK (weakS w k 0) k roots (Z6a w k 0) 0).st .nrm (Tg.st ⟨tm 122 [(6,.pt 8006 0 0),(7,.d (.sl 0 [])),(8,.d (.sl 0 [])),(9,.pt 8009 0 0),(10,int 0),(11,.pt 32011 0 0),(13,Z01 roots),(15,.ow 72015)],[(72015,.arr 35 1 ((Z6a w k k.length).map wdv)),(32011,.box 89 (weakS w k k.length).cells),(8009,.box 71 [int 0,int 0,int 0,int 0,int 0,int 0]),(8006,.box 28 [int 0,int 0,.d (.sl 0 []),.d (.sl 0 []),int 0,int 0])],60⟩):=by
 refine Z08 (S:=fun i=>(ZlK (weakS w k i) k roots (Z6a w k i) i).st) k.length kr (fun i hi=>?_) (Zo6 _ k roots _);have h:=Z8a w k i;exact ZiM _ k roots _ i (by rw[h.1];exact hw) (by rw[h.1];exact hl) (by rw[h.2.2.2.1];exact hq) hk (Z5i hx i) (by rw[Z8o];omega) hi oq
abbrev cB(h:Heap)(s k:List Int):Work:=weakS (allF (rootsF (beginW h) s).fst).fst k k.length
abbrev cA(h:Heap)(s k:List Int):Work:=fillN (cB h s k) (cB h s k).old.length
theorem Zeo{n:Int}(h:0≤n∧n≤255):(decodeH (1+16*n)).1.length=n:=by
 have e:Z39 (1+16*n)=⟨0,n,0⟩:=by
  simp only[Z39,Header.mk.injEq];omega
 have he:=Z7X h;unfold decodeH;rw[e,he];simp
theorem Zk6{w:Work}(h:CIv w){x:Int}(hx:x∈w.old):CIv (Z7R w x):=by
 unfold Z7R;split
 ·rename_i hc;have hr:=h.r x (List.mem_append_left _ hx);have hh:=Z0t w.heap.W x;have hl:(objW ⟨0,(hdW w x).length,0⟩).length=(hlA w.heap.W x+1).toNat:=by
   show(objW ⟨0,hlA w.heap.W x,0⟩).length=_;simp[objW];omega
  have hin:4096≤x∧x-4096+(objW ⟨0,(hdW w x).length,0⟩).length≤w.heap.W.length:=by omega
  have hlen:(Z0G w.heap.W x (objW ⟨0,(hdW w x).length,0⟩)).1.length=w.heap.W.length:=by
   unfold Z0G;rw[if_pos hin];exact Z4i oq
  have:=h.withWords hlen (fun a ha=>?_)
  ·exact⟨this.L,this.r,this.s,this.f,this.z⟩
  ·by_cases he:a=x
   ·subst he;have:hlA (Z0G w.heap.W a (objW ⟨0,(hdW w a).length,0⟩)).1 a=hlA w.heap.W a:=by
     have e1:=Z4r (b:=a) hin oq;unfold hlA at *;rw[e1];have e2:(objW ⟨0,(hdW w a).length,0⟩).getD (a-a).toNat 0=1+16*(decodeH (loadA w.heap.W a).1).1.length:=by
      rw[Int.sub_self];show(Z0c ⟨0,(hdW w a).length,0⟩).1=_;rw[Z7X (show 0≤(hdW w a).length∧(hdW w a).length≤255 from hh)];rfl
     rw[e2];exact Zeo hh
    omega
   ·have s1:=h.s a ha x (List.mem_append_left _ hx);have s2:=h.s x (List.mem_append_left _ hx) a ha;have ha0:=Z0t w.heap.W a;have:hlA (Z0G w.heap.W x (objW ⟨0,(hdW w x).length,0⟩)).1 a=hlA w.heap.W a:=by
     have e1:=Z3P (b:=a) hin (by
      rcases Int.lt_or_lt_of_ne he with q | q
      ·exact Or.inl q
      ·have:=s2 q;exact Or.inr oq)
     unfold hlA;rw[e1]
    omega
 ·exact h
theorem ZcH{w:Work}(hw:FOk w)(h:CIv w):∀ k,k≤w.old.length→CIv (fillN w k)
 | 0,_=>h
 | k+1,hk=>Zk6 (ZcH hw h k oq) (by rw[(Z6A w hw k).2.2.2.2.2.1];exact getD_mem_iff.2 ⟨k,by omega,rfl⟩)
theorem Zdx{w:Work}(h:CIv w)(k:List Int):∀ i,CIv (weakS w k i)
 | 0=>h
 | i+1=>by
  have ih:=Zdx h k i;exact⟨ih.L,ih.r,ih.s,ih.f,ih.z⟩
theorem Zds{w:Work}(h:FOk w)(k:List Int):∀ i,FOk (weakS w k i)
 | 0=>h
 | i+1=>by
  have ih:=Zds h k i;exact⟨ih.W,ih.wl,ih.pl,ih.ol,ih.o,ih.tl,ih.ql⟩
def cW2(h:Heap)(s:List Int):Work:=(allF (rootsF (beginW h) s).1).1
def cW3(h:Heap)(s k:List Int):Work:=weakS (cW2 h s) k k.length
def cW4(h:Heap)(s k:List Int):Work:=fillN (cW3 h s k) (cW3 h s k).old.length
def cW5(h:Heap)(s k:List Int):Work:=Z1z (cW4 h s k)
def endH(w:Work):Heap:=⟨w.heap.C,w.heap.W,w.heap.P,1-w.heap.S,if 0<w.T.length then Z0s w else -1⟩
structure COk (h:Heap) (s k:List Int):Prop where
 w2:WkOk (cW2 h s)
 i2:CIv (cW2 h s)
 x2:CEx (beginW h) (cW2 h s)
 f3:FOk (cW3 h s k)
 i3:CIv (cW3 h s k)
 r3:(cW3 h s k).rep.filled=0∧(cW3 h s k).rep.freed=0
 f4:FOk (cW4 h s k)
 i4:CIv (cW4 h s k)
 h4:(cW4 h s k).heap.C=h.C∧(cW4 h s k).heap.P=(cW2 h s).heap.P∧(cW4 h s k).heap.S=(cW2 h s).heap.S∧(cW4 h s k).T=(cW2 h s).T∧(cW4 h s k).rep.freed=0
section
variable (h:Heap) (s k:List Int) (hw:WOk h.W) (hp:Z02 h=true) (e:(rootsF (beginW h) s).2.2=0) (e2:(allF (rootsF (beginW h) s).1).2=0)
include hw hp e e2
theorem cOk:COk h s k:=by
 have hb:=Z3N hw hp;have hi:=Z49 hp;have ho:=Z4Q (roots:=s) hb hi e;have w2:WkOk (cW2 h s):=ZmW _ ho.1 e2;have i2:=Zlr ho.1 ho.2.1 e2;have x2:CEx (beginW h) (cW2 h s):=ho.2.2.1.trans i2.2;have f3:FOk (cW3 h s k):=Zds w2.fok k _;have i3:CIv (cW3 h s k):=Zdx i2.1 k _;obtain⟨a1,a2,a3,a4,a5,a6,a7,a8⟩:=Z8a (cW2 h s) k k.length;have hr0:=w2.r0;have r3:(cW3 h s k).rep.filled=0∧(cW3 h s k).rep.freed=0:=⟨a5.trans hr0.1,a6.trans hr0.2.1⟩
 obtain⟨b0,b1,b2,b3,b4,b5,b6,b7,b8,b9,b10,b11⟩:=Z6A (cW3 h s k) f3 (cW3 h s k).old.length;refine⟨w2,i2.1,x2,f3,i3,r3,b0,ZcH f3 i3 _ (Nat.le_refl _), ?_, ?_, ?_, ?_, ?_⟩
 ·show(fillN (cW3 h s k) (cW3 h s k).old.length).heap.C=_;rw[b1];show(weakS (cW2 h s) k k.length).heap.C=_;rw[a1];exact x2.c
 ·show(fillN (cW3 h s k) (cW3 h s k).old.length).heap.P=_;rw[b2];show(weakS (cW2 h s) k k.length).heap.P=_;rw[a1]
 ·show(fillN (cW3 h s k) (cW3 h s k).old.length).heap.S=_;rw[b3];show(weakS (cW2 h s) k k.length).heap.S=_;rw[a1]
 ·show(fillN (cW3 h s k) (cW3 h s k).old.length).T=_;rw[b6];exact a3
 ·show(fillN (cW3 h s k) (cW3 h s k).old.length).rep.freed=_;rw[b8];exact r3.2
theorem cOk5:(cW4 h s k).heap.P.length≤64∧0≤(cW4 h s k).heap.C.pw∧(cW4 h s k).heap.C.pw≤64∧(cW4 h s k).heap.P.length*(cW4 h s k).heap.C.pw.toNat≤(cW4 h s k).heap.W.length∧(cW4 h s k).heap.W.length≤4096:=by
 have c:=cOk h s k hw hp e e2;have po:=Z07 hp;have hL:=c.i4.L;have hpl:=c.w2.pl;have hc2:=c.x2.c;have hc:(cW2 h s).heap.C=h.C:=hc2;rw[hc]at hpl;rw[c.h4.1]at hL;have hl4:=c.f4.wl;rw[c.h4.1,c.h4.2.1];refine⟨by omega,by omega,by omega, ?_,hl4⟩;have:(((cW2 h s).heap.P.length*h.C.pw.toNat:Nat):Int)=h.C.pw*h.C.pg:=by
  rw[Int.natCast_mul,Int.toNat_of_nonneg oq,hpl,Int.mul_comm]
 omega
end
def Z0o(h:Heap)(s k:List Int):Heap×List Int×List Int×Rep×Int :=
 if Z02 h=true then
  (if Z0m h s=true∧Z0m h k=true then
   (if(rootsF (beginW h) s).2.2=0 then
    (if(allF (rootsF (beginW h) s).1).2=0 then(endH (cW5 h s k),(rootsF (beginW h) s).2.1,Z6a (cW2 h s) k k.length,(cW5 h s k).rep,0)
    else(noHeap,[],[],rep0,(allF (rootsF (beginW h) s).1).2))
   else(noHeap,[],[],rep0,(rootsF (beginW h) s).2.2))
  else(noHeap,[],[],rep0,19))
 else(noHeap,[],[],rep0,1)
section
variable (h:Heap) (s k:List Int) (hw:WOk h.W) (hs:s.length≤1048575) (hk:k.length≤1048575) (hs2:ULe s) (hk2:ULe k)
include hw hs hk hs2 hk2
theorem Zlf(hp:Z02 h=true)(hr:Z0m h s=true)(hr':Z0m h k=true)(e:(rootsF (beginW h) s).2.2=0)(e2:(allF (rootsF (beginW h) s).1).2=0):GP 69 [h.av,Z01 s,Z01 k] false (.tu [(endH (cW5 h s k)).av,Z01 (rootsF (beginW h) s).2.1,Z01 (Z6a (cW2 h s) k k.length),.ag (cW5 h s k).rep.cells,int 0]) []:=by
 have hb:=Z3N hw hp;have hi:=Z49 hp;have hg:=Z55 hr;have ho:=Z4Q (roots:=s) hb hi e;have ho1:=ho.1;have ho4:=ho.2.2.2.2;have c:=cOk h s k hw hp e e2;obtain⟨q1,q2,q3,q4,q5⟩:=cOk5 h s k hw hp e e2;have w2:=c.w2;have f3:=c.f3;have r3:=c.r3.1;obtain⟨g1,g2,g3,g4,g5⟩:=c.h4;have v1:=w2.W;have v2:=w2.wl;have v3:=w2.mu;have v4:=w2.tl;have v5:=w2.sp;have v6:=w2.r0.2.2;have v7:=congrArg List.length g4;have z1:(Z1z (cW4 h s k)).T=(cW4 h s k).T:=rfl;have v8:=congrArg List.length z1;have z2:(Z1z (cW4 h s k)).heap.S=(cW4 h s k).heap.S:=rfl;clear c;unfold cW4 at *;unfold cW3 at *;unfold cW2 at *;rcases bb (decide (0<(↑(Z1z (fillN (weakS (allF (rootsF (beginW h) s).fst).fst k k.length) (weakS (allF (rootsF (beginW h) s).fst).fst k k.length).old.length)).T.length:Int)))with hc0 | hc0<;>have hc0p:=hc0<;>simp only[bs]at hc0p
 ·rw[show endH (cW5 h s k)=Heap.mk (Z1z (fillN (weakS (allF (rootsF (beginW h) s).fst).fst k k.length) (weakS (allF (rootsF (beginW h) s).fst).fst k k.length).old.length)).heap.C (Z1z (fillN (weakS (allF (rootsF (beginW h) s).fst).fst k k.length) (weakS (allF (rootsF (beginW h) s).fst).fst k k.length).old.length)).heap.W (Z1z (fillN (weakS (allF (rootsF (beginW h) s).fst).fst k k.length) (weakS (allF (rootsF (beginW h) s).fst).fst k k.length).old.length)).heap.P ((1:Int)-(Z1z (fillN (weakS (allF (rootsF (beginW h) s).fst).fst k k.length) (weakS (allF (rootsF (beginW h) s).fst).fst k k.length).old.length)).heap.S) ((Z1z (fillN (weakS (allF (rootsF (beginW h) s).fst).fst k k.length) (weakS (allF (rootsF (beginW h) s).fst).fst k k.length).old.length)).T.getD ((↑(Z1z (fillN (weakS (allF (rootsF (beginW h) s).fst).fst k k.length) (weakS (allF (rootsF (beginW h) s).fst).fst k k.length).old.length)).T.length:Int)-(1:Int)).toNat default)from by(simp only[endH,cW5,cW4,cW3,cW2,Z0s] ;exact sj)];refine gspec_ofE [((20:Nat),[Hint.call true (Sx.bool (Z02 h)) []]),((21:Nat),[Hint.br false]),((26:Nat),[Hint.call true (Sx.bool (Z0m h s)) []]),((31:Nat),[Hint.call true (Sx.bool (Z0m h k)) []]),((33:Nat),[Hint.br false]),((38:Nat),[Hint.call false (AV.tu [(beginW h).av,int (0:Int)]) []]),((44:Nat),[Hint.call false (AV.tu [(rootsF (beginW h) s).fst.av,Z01 (rootsF (beginW h) s).snd.fst,int (rootsF (beginW h) s).snd.snd]) []]),((49:Nat),[Hint.br false]),((55:Nat),[Hint.call false (AV.tu [(allF (rootsF (beginW h) s).fst).fst.av,int (allF (rootsF (beginW h) s).fst).snd]) []]),((59:Nat),[Hint.br false]),((15:Nat),[Hint.own]),((93:Nat),[Hint.call false (fillN (weakS (allF (rootsF (beginW h) s).fst).fst k k.length) (weakS (allF (rootsF (beginW h) s).fst).fst k k.length).old.length).av []]),((94:Nat),[Hint.call false (Z1z (fillN (weakS (allF (rootsF (beginW h) s).fst).fst k k.length) (weakS (allF (rootsF (beginW h) s).fst).fst k k.length).old.length)).av []]),((98:Nat),[Hint.int ((1:Int)-(Z1z (fillN (weakS (allF (rootsF (beginW h) s).fst).fst k k.length) (weakS (allF (rootsF (beginW h) s).fst).fst k k.length).old.length)).heap.S)]),((105:Nat),[Hint.int (↑(Z1z (fillN (weakS (allF (rootsF (beginW h) s).fst).fst k k.length) (weakS (allF (rootsF (beginW h) s).fst).fst k k.length).old.length)).T.length:Int)]),((107:Nat),[Hint.br true]),((111:Nat),[Hint.int ((↑(Z1z (fillN (weakS (allF (rootsF (beginW h) s).fst).fst k k.length) (weakS (allF (rootsF (beginW h) s).fst).fst k k.length).old.length)).T.length:Int)-(1:Int))]),((112:Nat),[Hint.el (idv ((Z1z (fillN (weakS (allF (rootsF (beginW h) s).fst).fst k k.length) (weakS (allF (rootsF (beginW h) s).fst).fst k k.length).old.length)).T.getD ((↑(Z1z (fillN (weakS (allF (rootsF (beginW h) s).fst).fst k k.length) (weakS (allF (rootsF (beginW h) s).fst).fst k k.length).old.length)).T.length:Int)-(1:Int)).toNat default))])] [((0:Nat),Tg.mk (tm (122:Nat) [((2:Nat),Z01 k),((6:Nat),AV.pt (8006:Nat) (0:Nat) (0:Nat)),((7:Nat),AV.d (DV.sl (0:Nat) [])),((8:Nat),AV.d (DV.sl (0:Nat) [])),((9:Nat),AV.pt (8009:Nat) (0:Nat) (0:Nat)),((10:Nat),int (0:Int)),((11:Nat),AV.pt (32011:Nat) (0:Nat) (0:Nat)),((13:Nat),Z01 (rootsF (beginW h) s).snd.fst),((15:Nat),AV.ow (72015:Nat)),((16:Nat),int (0:Int))]) [((72015:Nat),Blk.arr 35 (1:Nat) []),((32011:Nat),Blk.box 89 (allF (rootsF (beginW h) s).fst).fst.cells),((8009:Nat),Blk.box 71 [int (0:Int),int (0:Int),int (0:Int),int (0:Int),int (0:Int),int (0:Int)]),((8006:Nat),Blk.box 28 [int (0:Int),int (0:Int),AV.d (DV.sl (0:Nat) []),AV.d (DV.sl (0:Nat) []),int (0:Int),int (0:Int)])] (60:Nat),Ex.nrm,Tg.mk (tm (122:Nat) [((6:Nat),AV.pt (8006:Nat) (0:Nat) (0:Nat)),((7:Nat),AV.d (DV.sl (0:Nat) [])),((8:Nat),AV.d (DV.sl (0:Nat) [])),((9:Nat),AV.pt (8009:Nat) (0:Nat) (0:Nat)),((10:Nat),int (0:Int)),((11:Nat),AV.pt (32011:Nat) (0:Nat) (0:Nat)),((13:Nat),Z01 (rootsF (beginW h) s).snd.fst),((15:Nat),AV.ow (72015:Nat))]) [((72015:Nat),Blk.arr 35 (1:Nat) (List.map wdv (Z6a (allF (rootsF (beginW h) s).fst).fst k k.length))),((32011:Nat),Blk.box 89 (weakS (allF (rootsF (beginW h) s).fst).fst k k.length).cells),((8009:Nat),Blk.box 71 [int (0:Int),int (0:Int),int (0:Int),int (0:Int),int (0:Int),int (0:Int)]),((8006:Nat),Blk.box 28 [int (0:Int),int (0:Int),AV.d (DV.sl (0:Nat) []),AV.d (DV.sl (0:Nat) []),int (0:Int),int (0:Int)])] (60:Nat))] [] dd Tryz.func69 [] (φ:=GP 70 [h.av] true (Sx.bool (Z02 h)) []∧(!Z02 h)=false∧false=false∧GP 118 [h.av,Z01 s] true (Sx.bool (Z0m h s)) []∧((!!Z0m h s)=true→GP 118 [h.av,Z01 k] true (Sx.bool (Z0m h k)) [])∧(!Z0m h s||!Z0m h k)=false∧false=false∧GP 41 [h.av] false (AV.tu [(beginW h).av,int (0:Int)]) []∧GP 47 [(beginW h).av,Z01 s] false (AV.tu [(rootsF (beginW h) s).fst.av,Z01 (rootsF (beginW h) s).snd.fst,int (rootsF (beginW h) s).snd.snd]) []∧((rootsF (beginW h) s).snd.snd != (0:Int))=false∧false=false∧GP 53 [(rootsF (beginW h) s).fst.av] false (AV.tu [(allF (rootsF (beginW h) s).fst).fst.av,int (allF (rootsF (beginW h) s).fst).snd]) []∧((allF (rootsF (beginW h) s).fst).snd != (0:Int))=false∧false=false∧CP (blkF Tryz.f69 (0:Nat)) (Tg.mk (tm (122:Nat) [((2:Nat),Z01 k),((6:Nat),AV.pt (8006:Nat) (0:Nat) (0:Nat)),((7:Nat),AV.d (DV.sl (0:Nat) [])),((8:Nat),AV.d (DV.sl (0:Nat) [])),((9:Nat),AV.pt (8009:Nat) (0:Nat) (0:Nat)),((10:Nat),int (0:Int)),((11:Nat),AV.pt (32011:Nat) (0:Nat) (0:Nat)),((13:Nat),Z01 (rootsF (beginW h) s).snd.fst),((15:Nat),AV.ow (72015:Nat)),((16:Nat),int (0:Int))]) [((72015:Nat),Blk.arr 35 (1:Nat) []),((32011:Nat),Blk.box 89 (allF (rootsF (beginW h) s).fst).fst.cells),((8009:Nat),Blk.box 71 [int (0:Int),int (0:Int),int (0:Int),int (0:Int),int (0:Int),int (0:Int)]),((8006:Nat),Blk.box 28 [int (0:Int),int (0:Int),AV.d (DV.sl (0:Nat) []),AV.d (DV.sl (0:Nat) []),int (0:Int),int (0:Int)])] (60:Nat)).st Ex.nrm (Tg.mk (tm (122:Nat) [((6:Nat),AV.pt (8006:Nat) (0:Nat) (0:Nat)),((7:Nat),AV.d (DV.sl (0:Nat) [])),((8:Nat),AV.d (DV.sl (0:Nat) [])),((9:Nat),AV.pt (8009:Nat) (0:Nat) (0:Nat)),((10:Nat),int (0:Int)),((11:Nat),AV.pt (32011:Nat) (0:Nat) (0:Nat)),((13:Nat),Z01 (rootsF (beginW h) s).snd.fst),((15:Nat),AV.ow (72015:Nat))]) [((72015:Nat),Blk.arr 35 (1:Nat) (List.map wdv (Z6a (allF (rootsF (beginW h) s).fst).fst k k.length))),((32011:Nat),Blk.box 89 (weakS (allF (rootsF (beginW h) s).fst).fst k k.length).cells),((8009:Nat),Blk.box 71 [int (0:Int),int (0:Int),int (0:Int),int (0:Int),int (0:Int),int (0:Int)]),((8006:Nat),Blk.box 28 [int (0:Int),int (0:Int),AV.d (DV.sl (0:Nat) []),AV.d (DV.sl (0:Nat) []),int (0:Int),int (0:Int)])] (60:Nat)).st∧GP 121 [(weakS (allF (rootsF (beginW h) s).fst).fst k k.length).av] false (fillN (weakS (allF (rootsF (beginW h) s).fst).fst k k.length) (weakS (allF (rootsF (beginW h) s).fst).fst k k.length).old.length).av []∧GP 120 [(fillN (weakS (allF (rootsF (beginW h) s).fst).fst k k.length) (weakS (allF (rootsF (beginW h) s).fst).fst k k.length).old.length).av] false (Z1z (fillN (weakS (allF (rootsF (beginW h) s).fst).fst k k.length) (weakS (allF (rootsF (beginW h) s).fst).fst k k.length).old.length)).av []∧IntKind.i64.wrap ((1:Int)-(Z1z (fillN (weakS (allF (rootsF (beginW h) s).fst).fst k k.length) (weakS (allF (rootsF (beginW h) s).fst).fst k k.length).old.length)).heap.S)=(1:Int)-(Z1z (fillN (weakS (allF (rootsF (beginW h) s).fst).fst k k.length) (weakS (allF (rootsF (beginW h) s).fst).fst k k.length).old.length)).heap.S∧(↑(List.map idv (Z1z (fillN (weakS (allF (rootsF (beginW h) s).fst).fst k k.length) (weakS (allF (rootsF (beginW h) s).fst).fst k k.length).old.length)).T).length:Int)=(↑(Z1z (fillN (weakS (allF (rootsF (beginW h) s).fst).fst k k.length) (weakS (allF (rootsF (beginW h) s).fst).fst k k.length).old.length)).T.length:Int)∧decide ((0:Int)<(↑(Z1z (fillN (weakS (allF (rootsF (beginW h) s).fst).fst k k.length) (weakS (allF (rootsF (beginW h) s).fst).fst k k.length).old.length)).T.length:Int))=true∧true=true∧IntKind.i64.wrap ((↑(Z1z (fillN (weakS (allF (rootsF (beginW h) s).fst).fst k k.length) (weakS (allF (rootsF (beginW h) s).fst).fst k k.length).old.length)).T.length:Int)-(1:Int))=(↑(Z1z (fillN (weakS (allF (rootsF (beginW h) s).fst).fst k k.length) (weakS (allF (rootsF (beginW h) s).fst).fst k k.length).old.length)).T.length:Int)-(1:Int)∧(0:Int)≤(↑(Z1z (fillN (weakS (allF (rootsF (beginW h) s).fst).fst k k.length) (weakS (allF (rootsF (beginW h) s).fst).fst k k.length).old.length)).T.length:Int)-(1:Int)∧(List.map idv (Z1z (fillN (weakS (allF (rootsF (beginW h) s).fst).fst k k.length) (weakS (allF (rootsF (beginW h) s).fst).fst k k.length).old.length)).T)[((↑(Z1z (fillN (weakS (allF (rootsF (beginW h) s).fst).fst k k.length) (weakS (allF (rootsF (beginW h) s).fst).fst k k.length).old.length)).T.length:Int)-(1:Int)).toNat]? = some (idv ((Z1z (fillN (weakS (allF (rootsF (beginW h) s).fst).fst k k.length) (weakS (allF (rootsF (beginW h) s).fst).fst k k.length).old.length)).T.getD ((↑(Z1z (fillN (weakS (allF (rootsF (beginW h) s).fst).fst k k.length) (weakS (allF (rootsF (beginW h) s).fst).fst k k.length).old.length)).T.length:Int)-(1:Int)).toNat default))) ?_ kr kr;exact⟨(@Z0i (h)),(by(simp only[bs];omega)),rfl,(@Z1N (h) (s) aa oq),(fun hg=>by(try simp only[bs]at hg);exact @Z1N (h) (k) (by(try simp only[bs]at hg);assumption) (by(try simp only[bs]at hg);omega)),(by simp only[bs, *,true_or,or_true,true_and,and_true,not_true_eq_false,not_false_eq_true,Bool.true_eq_false,Bool.false_eq_true]),rfl,(@Z3y (h) aa aa aa),(@Z5E (beginW h) (s) aa aa aa),(by(simp only[bs];omega)),rfl,(@Zba ((rootsF (beginW h) s).fst) aa),(by(simp only[bs];omega)),rfl,(@Zfy ((allF (rootsF (beginW h) s).fst).fst) (k) ((rootsF (beginW h) s).snd.fst) aa aa oq aa aa aa),(@Zcs (weakS (allF (rootsF (beginW h) s).fst).fst k k.length) aa aa),(@ZcK (fillN (weakS (allF (rootsF (beginW h) s).fst).fst k k.length) (weakS (allF (rootsF (beginW h) s).fst).fst k k.length).old.length) aa oq aa aa aa),(by exact wrapI2 rfl oq oq),(by simp only[List.length_map]),aa,rfl,(by exact wrapI2 rfl oq oq),(by exact elI oq oq oq)⟩
 ·rw[show endH (cW5 h s k)=Heap.mk (Z1z (fillN (weakS (allF (rootsF (beginW h) s).fst).fst k k.length) (weakS (allF (rootsF (beginW h) s).fst).fst k k.length).old.length)).heap.C (Z1z (fillN (weakS (allF (rootsF (beginW h) s).fst).fst k k.length) (weakS (allF (rootsF (beginW h) s).fst).fst k k.length).old.length)).heap.W (Z1z (fillN (weakS (allF (rootsF (beginW h) s).fst).fst k k.length) (weakS (allF (rootsF (beginW h) s).fst).fst k k.length).old.length)).heap.P ((1:Int)-(Z1z (fillN (weakS (allF (rootsF (beginW h) s).fst).fst k k.length) (weakS (allF (rootsF (beginW h) s).fst).fst k k.length).old.length)).heap.S) (-1:Int)from by(simp[endH,cW5,cW4,cW3,cW2,Z0s, *];omega)];let y1:=rootsF (beginW h) s;let y0:=weakS (allF y1.fst).fst k k.length;let y2:=fillN y0 y0.old.length;exact gF [] Tryz.func69 [] (Fh 15 [.own] (Fc 20 (@Z0i h) (Ffb 21 (!Z02 h) (Fc 26 (@Z1N h s aa oq) (FcG 31 (!!Z0m h s) (fun hg=>by(try simp only[bs]at hg);exact @Z1N h k aa oq) (Ffs 33 (!Z0m h s||!Z0m h k) (Fc 38 (@Z3y h aa aa aa) (Fc 44 (@Z5E (beginW h) s aa aa aa) (Ffb 49 (y1.snd.snd != 0) (Fc 55 (@Zba (y1.fst) aa) (Ffb 59 ((allF y1.fst).snd != 0) (Fu (@Zfy ((allF y1.fst).fst) k (y1.snd.fst) aa aa oq aa aa aa) (Fc 93 (@Zcs y0 aa aa) (Fc 94 (@ZcK y2 aa oq aa aa aa) (Fi 98 (1-(Z1z y2).heap.S) (Fl 105 idv (Z1z y2).T (Ff 107 hc0 Fz)))))))))))))))))
end
def pinB(w:WorldM)(i:Nat)(n:Int):WorldM:=⟨⟨w.heap.C,w.heap.W,w.heap.P.set i ⟨(w.heap.P.getD i default).K,(w.heap.P.getD i default).S,(w.heap.P.getD i default).U,(w.heap.P.getD i default).N+n⟩,w.heap.S,w.heap.B⟩,w.G,w.E⟩
def pinI(w:WorldM)(t:Tape):Nat:=(ofA w.heap.C (w.pick t)).1.toNat
def WorldM.pin(w:WorldM)(t:Tape):WorldM :=
  if(ofA w.heap.C (w.pick t)).2.2=0 then
    (if 0<(w.heap.P.getD (pinI w t) default).N∧(w.pickT t).next 2=0 then pinB w (pinI w t) (-1)
     else if 0<(w.heap.P.getD (pinI w t) default).N∨(w.heap.P.getD (pinI w t) default).K=2∨(crowd w.heap.P:Int)<w.heap.C.pg/4 then pinB w (pinI w t) 1 else w)else w
def WorldM.pinT(w:WorldM)(t:Tape):Tape:=if(ofA w.heap.C (w.pick t)).2.2=0∧0<(w.heap.P.getD (pinI w t) default).N then(w.pickT t).step 2 else w.pickT t
theorem ZkB(w:WorldM)(t:Tape)(hw:WMok w)(ht:TOk t)(ha:t.at'≤1000000)(hv:Z05 w.heap.C=true)(hp:(w.heap.P.length:Int)=w.heap.C.pg)(hpn:∀ j,j<w.heap.P.length→-1048576≤(w.heap.P.getD j default).N∧(w.heap.P.getD j default).N≤4294967296):LP 107 [w.av,.pt 0 0 0] [t.b] (w.pin t).av [(w.pinT t).b]:=by
 have hb:=validB_iff.1 hv;have s1:=Zbb w t;have k1:=Z5d ht s1.2.2 oq oq;have p1:=Z4b hw t;have q1:=hpn (pinI w t);have hcr:=Z2M w.heap.P w.heap.P.length;unfold pinI at q1;have o1:=fun e=>Z2S (a:=w.pick t) hv e;by_cases e:(ofA w.heap.C (w.pick t)).2.2=0
 ·have o2:=o1 e;by_cases c1:0<(w.heap.P.getD (ofA w.heap.C (w.pick t)).1.toNat default).N
  ·have eT:w.pinT t=(w.pickT t).step 2:=by rw[WorldM.pinT,if_pos ⟨e,c1⟩]
   by_cases c2:(w.pickT t).next 2=0
   ·have eP:w.pin t=⟨⟨w.heap.C,w.heap.W,w.heap.P.set (ofA w.heap.C (w.pick t)).1.toNat ⟨(w.heap.P.getD (ofA w.heap.C (w.pick t)).1.toNat default).K,(w.heap.P.getD (ofA w.heap.C (w.pick t)).1.toNat default).S,(w.heap.P.getD (ofA w.heap.C (w.pick t)).1.toNat default).U,(w.heap.P.getD (ofA w.heap.C (w.pick t)).1.toNat default).N-1⟩,w.heap.S,w.heap.B⟩,w.G,w.E⟩:=by rw[WorldM.pin,if_pos e,if_pos ⟨c1,c2⟩];rfl
    rw[eP,eT];exact lF Tryz.func107 [] (Fh 42 [.br true] (Fh 37 [.br true] (Fh 51 [.el (w.heap.P.getD (ofA w.heap.C (w.pick t)).fst.toNat default).dv] (Fp 12 (@Z1Z w t aa aa oq) (Fc 18 (@Z4B w.heap.C (w.pick t) oq oq) (Ffb 23 ((ofA w.heap.C (w.pick t)).snd.snd != 0) (FA 25 29 Page.dv w.heap.P (Fmq 41 Page.dv w.heap.P ((ofA w.heap.C (w.pick t)).fst) (Fb (decide (0<(w.heap.P.getD (ofA w.heap.C (w.pick t)).fst.toNat default).N)=true) (Fp 45 (@Z0H (w.pickT t) (2) aa oq oq) (Fb (((w.pickT t).next (2:Int)==0)=true) (Fa (by exact Z0B oq:(List.map Page.dv w.heap.P)[(ofA w.heap.C (w.pick t)).fst.toNat]? = some (w.heap.P.getD (ofA w.heap.C (w.pick t)).fst.toNat default).dv) (Fi 52 ((w.heap.P.getD (ofA w.heap.C (w.pick t)).fst.toNat default).N-1) (Fa (by exact Z0B oq:(List.map Page.dv w.heap.P)[(ofA w.heap.C (w.pick t)).fst.toNat]? = some (w.heap.P.getD (ofA w.heap.C (w.pick t)).fst.toNat default).dv) (FS 10054 Page.dv w.heap.P ((ofA w.heap.C (w.pick t)).fst.toNat) (Page.mk (w.heap.P.getD (ofA w.heap.C (w.pick t)).fst.toNat default).K (w.heap.P.getD (ofA w.heap.C (w.pick t)).fst.toNat default).S (w.heap.P.getD (ofA w.heap.C (w.pick t)).fst.toNat default).U ((w.heap.P.getD (ofA w.heap.C (w.pick t)).fst.toNat default).N-1)) ((w.heap.P.getD (ofA w.heap.C (w.pick t)).fst.toNat default).dv) Fz)))))))))))))))
   ·have eP:w.pin t=⟨⟨w.heap.C,w.heap.W,w.heap.P.set (ofA w.heap.C (w.pick t)).1.toNat ⟨(w.heap.P.getD (ofA w.heap.C (w.pick t)).1.toNat default).K,(w.heap.P.getD (ofA w.heap.C (w.pick t)).1.toNat default).S,(w.heap.P.getD (ofA w.heap.C (w.pick t)).1.toNat default).U,(w.heap.P.getD (ofA w.heap.C (w.pick t)).1.toNat default).N+1⟩,w.heap.S,w.heap.B⟩,w.G,w.E⟩:=by rw[WorldM.pin,if_pos e,if_neg (fun q=>c2 q.2),if_pos (.inl c1)];rfl
    rw[eP,eT];exact lF Tryz.func107 [] (Fh 42 [.br true] (Fh 37 [.br false] (Fh 59 [.el (w.heap.P.getD (ofA w.heap.C (w.pick t)).fst.toNat default).dv] (Fh 65 [.el (w.heap.P.getD (ofA w.heap.C (w.pick t)).fst.toNat default).dv] (Fh 76 [.int (w.heap.C.pg/4)] (Fh 55 [.br true] (Fh 82 [.el (w.heap.P.getD (ofA w.heap.C (w.pick t)).fst.toNat default).dv] (Fp 12 (@Z1Z w t aa aa oq) (Fc 18 (@Z4B w.heap.C (w.pick t) oq oq) (Ffb 23 ((ofA w.heap.C (w.pick t)).snd.snd != 0) (FA 25 29 Page.dv w.heap.P (Fmq 41 Page.dv w.heap.P ((ofA w.heap.C (w.pick t)).fst) (Fb (decide (0<(w.heap.P.getD (ofA w.heap.C (w.pick t)).fst.toNat default).N)=true) (Fp 45 (@Z0H (w.pickT t) (2) aa oq oq) (Fb (((w.pickT t).next (2:Int)==0)=false) (Fa (by exact Z0B oq:(List.map Page.dv w.heap.P)[(ofA w.heap.C (w.pick t)).fst.toNat]? = some (w.heap.P.getD (ofA w.heap.C (w.pick t)).fst.toNat default).dv) (Fa (by intro hg;(try simp only[bs]at hg);exact Z0B oq:(!decide (0<(w.heap.P.getD (ofA w.heap.C (w.pick t)).fst.toNat default).N))=true→(List.map Page.dv w.heap.P)[(ofA w.heap.C (w.pick t)).fst.toNat]? = some (w.heap.P.getD (ofA w.heap.C (w.pick t)).fst.toNat default).dv) (FcG 71 (!(decide (0<(w.heap.P.getD (ofA w.heap.C (w.pick t)).fst.toNat default).N)||(w.heap.P.getD (ofA w.heap.C (w.pick t)).fst.toNat default).K==2)) (fun hg=>by(try simp only[bs]at hg);exact @Z8Z w.heap oq) (Fa (by intro hg;(try simp only[bs]at hg);rw[wrapI' oq oq];omega:(!(decide (0<(w.heap.P.getD (ofA w.heap.C (w.pick t)).fst.toNat default).N)||(w.heap.P.getD (ofA w.heap.C (w.pick t)).fst.toNat default).K==2))=true→IntKind.i64.wrap (w.heap.C.pg.tdiv 4)=w.heap.C.pg/4) (Fa (by intro hg;(try simp only[bs]at hg);omega:(!(decide (0<(w.heap.P.getD (ofA w.heap.C (w.pick t)).fst.toNat default).N)||(w.heap.P.getD (ofA w.heap.C (w.pick t)).fst.toNat default).K==2))=true→(4:Int)=0→False) (Fb ((decide (0<(w.heap.P.getD (ofA w.heap.C (w.pick t)).fst.toNat default).N)||(w.heap.P.getD (ofA w.heap.C (w.pick t)).fst.toNat default).K==2||decide ((↑(crowd w.heap.P):Int)<w.heap.C.pg/4))=true) (Fa (by exact Z0B oq:(List.map Page.dv w.heap.P)[(ofA w.heap.C (w.pick t)).fst.toNat]? = some (w.heap.P.getD (ofA w.heap.C (w.pick t)).fst.toNat default).dv) (Fi 83 ((w.heap.P.getD (ofA w.heap.C (w.pick t)).fst.toNat default).N+1) (Fa (by exact Z0B oq:(List.map Page.dv w.heap.P)[(ofA w.heap.C (w.pick t)).fst.toNat]? = some (w.heap.P.getD (ofA w.heap.C (w.pick t)).fst.toNat default).dv) (FS 10085 Page.dv w.heap.P ((ofA w.heap.C (w.pick t)).fst.toNat) (Page.mk (w.heap.P.getD (ofA w.heap.C (w.pick t)).fst.toNat default).K (w.heap.P.getD (ofA w.heap.C (w.pick t)).fst.toNat default).S (w.heap.P.getD (ofA w.heap.C (w.pick t)).fst.toNat default).U ((w.heap.P.getD (ofA w.heap.C (w.pick t)).fst.toNat default).N+1)) ((w.heap.P.getD (ofA w.heap.C (w.pick t)).fst.toNat default).dv) Fz)))))))))))))))))))))))))
  ·have eT:w.pinT t=w.pickT t:=by rw[WorldM.pinT,if_neg (fun q=>c1 q.2)]
   by_cases c3:(w.heap.P.getD (ofA w.heap.C (w.pick t)).1.toNat default).K=2∨(crowd w.heap.P:Int)<w.heap.C.pg/4
   ·have eP:w.pin t=⟨⟨w.heap.C,w.heap.W,w.heap.P.set (ofA w.heap.C (w.pick t)).1.toNat ⟨(w.heap.P.getD (ofA w.heap.C (w.pick t)).1.toNat default).K,(w.heap.P.getD (ofA w.heap.C (w.pick t)).1.toNat default).S,(w.heap.P.getD (ofA w.heap.C (w.pick t)).1.toNat default).U,(w.heap.P.getD (ofA w.heap.C (w.pick t)).1.toNat default).N+1⟩,w.heap.S,w.heap.B⟩,w.G,w.E⟩:=by rw[WorldM.pin,if_pos e,if_neg (fun q=>c1 q.1),if_pos (.inr c3)];rfl
    rw[eP,eT];exact lF Tryz.func107 [] (Fh 42 [.br false] (Fh 45 [.lent (int ((w.pickT t).next 2)) [((w.pickT t).step 2).b]] (Fh 59 [.el (w.heap.P.getD (ofA w.heap.C (w.pick t)).fst.toNat default).dv] (Fh 65 [.el (w.heap.P.getD (ofA w.heap.C (w.pick t)).fst.toNat default).dv] (Fh 76 [.int (w.heap.C.pg/4)] (Fh 55 [.br true] (Fh 82 [.el (w.heap.P.getD (ofA w.heap.C (w.pick t)).fst.toNat default).dv] (Fp 12 (@Z1Z w t aa aa oq) (Fc 18 (@Z4B w.heap.C (w.pick t) oq oq) (Ffb 23 ((ofA w.heap.C (w.pick t)).snd.snd != 0) (FA 25 29 Page.dv w.heap.P (Fmq 41 Page.dv w.heap.P ((ofA w.heap.C (w.pick t)).fst) (Fb (decide (0<(w.heap.P.getD (ofA w.heap.C (w.pick t)).fst.toNat default).N)=false) (Fa (by exact Z0B oq:(List.map Page.dv w.heap.P)[(ofA w.heap.C (w.pick t)).fst.toNat]? = some (w.heap.P.getD (ofA w.heap.C (w.pick t)).fst.toNat default).dv) (Fa (by intro hg;(try simp only[bs]at hg);exact Z0B oq:(!decide (0<(w.heap.P.getD (ofA w.heap.C (w.pick t)).fst.toNat default).N))=true→(List.map Page.dv w.heap.P)[(ofA w.heap.C (w.pick t)).fst.toNat]? = some (w.heap.P.getD (ofA w.heap.C (w.pick t)).fst.toNat default).dv) (FcG 71 (!(decide (0<(w.heap.P.getD (ofA w.heap.C (w.pick t)).fst.toNat default).N)||(w.heap.P.getD (ofA w.heap.C (w.pick t)).fst.toNat default).K==2)) (fun hg=>by(try simp only[bs]at hg);exact @Z8Z w.heap oq) (Fa (by intro hg;(try simp only[bs]at hg);rw[Int.tdiv_eq_ediv_of_nonneg oq,wrapI' oq oq]:(!(decide (0<(w.heap.P.getD (ofA w.heap.C (w.pick t)).fst.toNat default).N)||(w.heap.P.getD (ofA w.heap.C (w.pick t)).fst.toNat default).K==2))=true→IntKind.i64.wrap (w.heap.C.pg.tdiv 4)=w.heap.C.pg/4) (Fa (by intro hg;(try simp only[bs]at hg);omega:(!(decide (0<(w.heap.P.getD (ofA w.heap.C (w.pick t)).fst.toNat default).N)||(w.heap.P.getD (ofA w.heap.C (w.pick t)).fst.toNat default).K==2))=true→(4:Int)=0→False) (Fb ((decide (0<(w.heap.P.getD (ofA w.heap.C (w.pick t)).fst.toNat default).N)||(w.heap.P.getD (ofA w.heap.C (w.pick t)).fst.toNat default).K==2||decide ((↑(crowd w.heap.P):Int)<w.heap.C.pg/4))=true) (Fa (by exact Z0B oq:(List.map Page.dv w.heap.P)[(ofA w.heap.C (w.pick t)).fst.toNat]? = some (w.heap.P.getD (ofA w.heap.C (w.pick t)).fst.toNat default).dv) (Fi 83 ((w.heap.P.getD (ofA w.heap.C (w.pick t)).fst.toNat default).N+1) (Fa (by exact Z0B oq:(List.map Page.dv w.heap.P)[(ofA w.heap.C (w.pick t)).fst.toNat]? = some (w.heap.P.getD (ofA w.heap.C (w.pick t)).fst.toNat default).dv) (FS 10085 Page.dv w.heap.P ((ofA w.heap.C (w.pick t)).fst.toNat) (Page.mk (w.heap.P.getD (ofA w.heap.C (w.pick t)).fst.toNat default).K (w.heap.P.getD (ofA w.heap.C (w.pick t)).fst.toNat default).S (w.heap.P.getD (ofA w.heap.C (w.pick t)).fst.toNat default).U ((w.heap.P.getD (ofA w.heap.C (w.pick t)).fst.toNat default).N+1)) ((w.heap.P.getD (ofA w.heap.C (w.pick t)).fst.toNat default).dv) Fz)))))))))))))))))))))))
   ·have eP:w.pin t=w:=by rw[WorldM.pin,if_pos e,if_neg (fun q=>c1 q.1),if_neg (fun q=>q.elim c1 c3)]
    rw[eP,eT];exact lF Tryz.func107 [] (Fh 42 [.br false] (Fh 45 [.lent (int ((w.pickT t).next 2)) [((w.pickT t).step 2).b]] (Fh 59 [.el (w.heap.P.getD (ofA w.heap.C (w.pick t)).fst.toNat default).dv] (Fh 65 [.el (w.heap.P.getD (ofA w.heap.C (w.pick t)).fst.toNat default).dv] (Fh 76 [.int (w.heap.C.pg/4)] (Fh 55 [.br false] (Fp 12 (@Z1Z w t aa aa oq) (Fc 18 (@Z4B w.heap.C (w.pick t) oq oq) (Ffb 23 ((ofA w.heap.C (w.pick t)).snd.snd != 0) (FA 25 29 Page.dv w.heap.P (Fmq 41 Page.dv w.heap.P ((ofA w.heap.C (w.pick t)).fst) (Fb (decide (0<(w.heap.P.getD (ofA w.heap.C (w.pick t)).fst.toNat default).N)=false) (Fa (by exact Z0B oq:(List.map Page.dv w.heap.P)[(ofA w.heap.C (w.pick t)).fst.toNat]? = some (w.heap.P.getD (ofA w.heap.C (w.pick t)).fst.toNat default).dv) (Fa (by intro hg;(try simp only[bs]at hg);exact Z0B oq:(!decide (0<(w.heap.P.getD (ofA w.heap.C (w.pick t)).fst.toNat default).N))=true→(List.map Page.dv w.heap.P)[(ofA w.heap.C (w.pick t)).fst.toNat]? = some (w.heap.P.getD (ofA w.heap.C (w.pick t)).fst.toNat default).dv) (FcG 71 (!(decide (0<(w.heap.P.getD (ofA w.heap.C (w.pick t)).fst.toNat default).N)||(w.heap.P.getD (ofA w.heap.C (w.pick t)).fst.toNat default).K==2)) (fun hg=>by(try simp only[bs]at hg);exact @Z8Z w.heap oq) (Fa (by intro hg;(try simp only[bs]at hg);rw[Int.tdiv_eq_ediv_of_nonneg oq,wrapI' oq oq]:(!(decide (0<(w.heap.P.getD (ofA w.heap.C (w.pick t)).fst.toNat default).N)||(w.heap.P.getD (ofA w.heap.C (w.pick t)).fst.toNat default).K==2))=true→IntKind.i64.wrap (w.heap.C.pg.tdiv 4)=w.heap.C.pg/4) (Fa (by intro hg;(try simp only[bs]at hg);omega:(!(decide (0<(w.heap.P.getD (ofA w.heap.C (w.pick t)).fst.toNat default).N)||(w.heap.P.getD (ofA w.heap.C (w.pick t)).fst.toNat default).K==2))=true→(4:Int)=0→False) (Fb ((decide (0<(w.heap.P.getD (ofA w.heap.C (w.pick t)).fst.toNat default).N)||(w.heap.P.getD (ofA w.heap.C (w.pick t)).fst.toNat default).K==2||decide ((↑(crowd w.heap.P):Int)<w.heap.C.pg/4))=false) Fz))))))))))))))))))
 ·have eP:w.pin t=w:=by rw[WorldM.pin,if_neg e]
  have eT:w.pinT t=w.pickT t:=by rw[WorldM.pinT,if_neg (fun q=>e q.1)]
  rw[eP,eT];exact lF Tryz.func107 [] (Fp 12 (@Z1Z w t aa aa oq) (Fc 18 (@Z4B w.heap.C (w.pick t) oq oq) (Ftb 23 ((ofA w.heap.C (w.pick t)).snd.snd != 0) Fz)))
theorem Z7G(h:Heap)(s k:List Int)(hw:WOk h.W)(hs:s.length≤1048575)(hk:k.length≤1048575)(hs2:ULe s)(hk2:ULe k):GP 69 [h.av,Z01 s,Z01 k] false (.tu [(Z0o h s k).1.av,Z01 (Z0o h s k).2.1,Z01 (Z0o h s k).2.2.1,.ag (Z0o h s k).2.2.2.1.cells,int (Z0o h s k).2.2.2.2]) []:=by
 unfold Z0o;by_cases hp:Z02 h=true
 ·rw[if_pos hp];by_cases hr:Z0m h s=true∧Z0m h k=true
  ·rw[if_pos hr];by_cases e:(rootsF (beginW h) s).2.2=0
   ·rw[if_pos e];by_cases e2:(allF (rootsF (beginW h) s).1).2=0
    ·rw[if_pos e2];exact Zlf h s k hw hs hk hs2 hk2 hp hr.1 hr.2 e e2
    ·rw[if_neg e2];exact ZkG h s k hw hs hk hs2 hk2 hp hr.1 hr.2 e e2
   ·rw[if_neg e];exact Zky h s k hw hs hk hs2 hk2 hp hr.1 hr.2 e
  ·rw[if_neg hr];refine ZlB h s k hw hs hk hs2 hk2 hp ?_;by_cases q:Z0m h s=true
   ·refine Or.inr ?_;have:¬ Z0m h k=true:=fun q2=>hr ⟨q,q2⟩;simpa using this
   ·exact Or.inl (by simpa using q)
 ·rw[if_neg hp];exact Zm1 h s k hw hs hk hs2 hk2 (by simpa using hp)
def WorldM.collect(w:WorldM):WorldM:=if(Z0o w.heap w.G w.E).2.2.2.2=0 then⟨(Z0o w.heap w.G w.E).1,(Z0o w.heap w.G w.E).2.1,(Z0o w.heap w.G w.E).2.2.1⟩else w
theorem Zdv(w:WorldM)(hw:WOk w.heap.W)(hs:w.G.length≤1048575)(hk:w.E.length≤1048575)(hs2:ULe w.G)(hk2:ULe w.E):GP 23 [w.av] false w.collect.av []:=by
 by_cases e:(Z0o w.heap w.G w.E).2.2.2.2=0
 ·have e7:w.collect=⟨(Z0o w.heap w.G w.E).1,(Z0o w.heap w.G w.E).2.1,(Z0o w.heap w.G w.E).2.2.1⟩:=by rw[WorldM.collect,if_pos e]
  rw[e7];exact gF [] Tryz.func23 [] (Fc 15 (@Z7G w.heap w.G w.E aa aa aa aa aa) (Ftb 22 ((Z0o w.heap w.G w.E).snd.snd.snd.snd==0) Fz))
 ·have e7:w.collect=w:=by rw[WorldM.collect,if_neg e]
  rw[e7];exact gF [] Tryz.func23 [] (Fc 15 (@Z7G w.heap w.G w.E aa aa aa aa aa) (Ffb 22 ((Z0o w.heap w.G w.E).snd.snd.snd.snd==0) Fz))
section
variable (P:Work→Prop) (hf:∀ w r,WkOk w→CIv w→P w→(w.fwd r).2.2=0→P (w.fwd r).1)
 (hin:∀ w q j,WkOk w→CIv w→P w→q∈w.Q→0≤j→j<hlA w.heap.W q→(w.fwd (loadA w.heap.W (q+1+j)).1).2.2=0→P (w.in1 (q+1+j))) (hsd:∀ w n,P w→P (Zhm w n))
include hin in
theorem Zmw{w:Work}(hw:WkOk w)(h:CIv w)(hp:P w){q:Int}(hq:q∈w.Q){l:List Int}(hl:∀ x∈l,0≤x∧x<hlA w.heap.W q):∀ k,k≤l.length→(∀ j,j<k→innE w q l j=0)→P (innN w q l k)
 | 0,_,_=>hp
 | k+1,hk,he=>by
  have ih:=Zmw hw h hp hq hl k oq (fun j hj=>he j oq);have ok:=(Z5b hw q l k (fun j hj=>he j oq)).1;have iv:=Zb5 hw h hq hl k oq (fun j hj=>he j oq);have hx:=hl _ (getD_mem_iff.2 ⟨k,by omega,rfl⟩);exact hin _ q (l.getD k default) ok iv.1 ih (iv.2.q q hq) hx.1 (by rw[iv.2.l q hq];exact hx.2) (he k oq)
include hin hsd in
theorem ZiJ{w:Work}(hw:WkOk w)(h:CIv w)(hp:P w)(e:(Z0Z w).2.2=0):P (Z0Z w).1:=by
 by_cases hs:w.D<w.Q.length
 ·have hsc:=hw.sc;have hq:Z3W w∈w.Q:=getD_mem_iff.2 ⟨w.D.toNat,by omega,rfl⟩;unfold Z0Z at e ⊢;rw[if_pos hs]at e ⊢;cases hb:(List.range (Z2m w).length).find? (fun k=>decide (innE w (Z3W w) (Z2m w) k≠0))with
  | none =>
   have h0:∀ j,j<(Z2m w).length→innE w (Z3W w) (Z2m w) j=0:=fun j hj=>by
    have:=List.find?_eq_none.1 hb j (List.mem_range.2 hj);simpa using this
   exact hsd _ _ (Zmw P hin hw h hp hq (l:=Z2m w) (Z7E (hdW w (Z3W w))) (Z2m w).length (Nat.le_refl _) h0)
  | some k =>
   simp only[hb]at e;have:=(List.find?_range_eq_some.1 hb).1;simp[e]at this
 ·have e:Z0Z w=(w,false,0):=by rw[Z0Z,if_neg hs]
  rw[e];exact hp
include hin hsd in
theorem ZoO{w:Work}(hw:WkOk w)(h:CIv w)(hp:P w):∀ k,(∀ j,j<k→Z48 w j=false)→P (itW w k)
 | 0,_=>hp
 | k+1,hh=>by
  have ih:=ZoO hw h hp k (fun j hj=>hh j oq);have ok:=(Z4E hw k (fun j hj=>hh j oq)).1;have iv:=(Zbd hw h k (fun j hj=>hh j oq)).1;have hk:=hh k oq;simp only[Z48,decide_eq_false_iff_not,not_or,Decidable.not_not]at hk;exact ZiJ P hin hsd ok iv ih hk.1
include hin hsd in
theorem ZpR{w:Work}(hw:WkOk w)(h:CIv w)(hp:P w)(e:(allF w).2=0):P (allF w).1:=by
 obtain⟨k,hb⟩:=Z6Q hw;obtain⟨h1,h2,h3⟩:=List.find?_range_eq_some.1 hb;have h0:∀ j,j<k→Z48 w j=false:=fun j hj=>by simpa using h3 j hj
 unfold allF at e ⊢;rw[hb]at e ⊢;simp only at e ⊢;split at e
 ·rename_i c;rw[if_pos c];exact ZiJ P hin hsd (Z4E hw k h0).1 (Zbd hw h k h0).1 (ZoO P hin hsd hw h hp k h0) c
 ·rename_i c;exact absurd e c
include hf in
theorem Zgj{w:Work}{roots:List Int}(hw:WkOk w)(h:CIv w)(hp:P w):∀ k,(∀ j,j<k→Z2Q w roots j=0)→P (Z1D w roots k).1
 | 0,_=>hp
 | k+1,hh=>by
  have ih:=Zgj hw h hp k (fun j hj=>hh j oq);have ok:=(Z3w (roots:=roots) hw k (fun j hj=>hh j oq)).1;have iv:=(Z76 (roots:=roots) hw h k (fun j hj=>hh j oq)).1;exact hf _ _ ok iv ih (hh k oq)
include hf in
theorem Zm9{w:Work}{roots:List Int}(hw:WkOk w)(h:CIv w)(hp:P w)(e:(rootsF w roots).2.2=0):P (rootsF w roots).1:=by
 unfold rootsF at e ⊢;cases hb:(List.range roots.length).find? (fun k=>decide (Z2Q w roots k≠0))with
 | none =>
  have h0:∀ j,j<roots.length→Z2Q w roots j=0:=fun j hj=>by
   have:=List.find?_eq_none.1 hb j (List.mem_range.2 hj);simpa using this
  exact Zgj P hf hw h hp roots.length h0
 | some k =>
  simp only[hb]at e;have:=(List.find?_range_eq_some.1 hb).1;simp[e]at this
include hf hin hsd in
theorem Zq9{h:Heap}{s:List Int}(hw:WOk h.W)(hp:Z02 h=true)(h0:P (beginW h))(e:(rootsF (beginW h) s).2.2=0)(e2:(allF (rootsF (beginW h) s).1).2=0):P (cW2 h s):=by
 have hb:=Z3N hw hp;have hi:=Z49 hp;have ho:=Z4Q (roots:=s) hb hi e;exact ZpR P hin hsd ho.1 ho.2.1 (Zm9 P hf hb hi h0 e) e2
end
theorem ZiG{l:List Page}{i k:Nat}(h:∀ m,m<k→i+1+m<l.length∧(l.getD (i+1+m) default).K=3):k≤Z0h l i:=by
 by_cases hc:k≤Z0h l i
 ·exact hc
 ·have h1:=h (Z0h l i) oq;exact absurd h1.2 (Zbk h1.1)
theorem PT.flip{c:Conf}{l:List Page}(h:PT c l){i:Nat}(hi:i<l.length)(hk:(l.getD i default).K=2){s:Int}(hs:0≤s∧s≤1):PT c (Z0l l i (Z0h l i) s):=by
 have hr:∀ j,i<j→j≤i+Z0h l i→(l.getD j default).K=3:=fun j h1 h2=>by
  have:=(Z7i (l:=l) (i:=i) (m:=j-i-1) oq).2;rwa [show i+1+(j-i-1)=j by omega]at this
 have hg:∀ j,j<l.length→((Z0l l i (Z0h l i) s).getD j default).K=(l.getD j default).K∧((Z0l l i (Z0h l i) s).getD j default).U=(l.getD j default).U∧((Z0l l i (Z0h l i) s).getD j default).N=(l.getD j default).N:=fun j hj=>by
  rw[Z1H hj];split
  ·exact⟨rfl,rfl,rfl⟩
  ·exact⟨rfl,rfl,rfl⟩
 refine⟨?_, ?_, ?_⟩
 ·intro j hj;rw[Z1l]at hj;have b:=h.b j hj;rw[Z1H hj];split
  ·rename_i hc;refine⟨hs,b.n,b.k,fun q=>?_,b.k1,b.k3⟩;exfalso;have q':(l.getD j default).K=0:=q;by_cases hij:j=i
   ·subst hij;omega
   ·have:=hr j oq hc.2;omega
  ·exact b
 ·intro j hj hk2;rw[Z1l]at hj ⊢;rw[(hg j hj).1]at hk2;rw[(hg j hj).2.1];have q:=h.lg j hj hk2;refine⟨q.1,fun m h1 h2=>?_⟩;have r:=q.2 m h1 h2;refine⟨r.1,by rw[(hg _ r.1).1];exact r.2.1, ?_⟩;rw[Z1H r.1,Z1H hj];by_cases hij:j=i
  ·subst hij;have hT:(need c (l.getD j default).U-1).toNat≤Z0h l j:=ZiG fun m' hm'=>by
    have:=q.2 (m'+1) oq oq;rw[show j+1+m'=j+(m'+1) by omega];exact⟨this.1,this.2.1⟩
   rw[if_pos oq,if_pos oq];rfl
  ·have hj1:¬ (i≤j∧j≤i+Z0h l i):=fun hc=>by
    have:=hr j oq hc.2;omega
   have hj2:¬ (i≤j+m∧j+m≤i+Z0h l i):=fun hc=>by
    by_cases hlt:j<i
    ·by_cases he:j+m=i
     ·have:=r.2.1;rw[he]at this;omega
     ·have:=(q.2 (i-j) oq oq).2.1;rw[show j+(i-j)=i by omega]at this;omega
    ·omega
   rw[if_neg hj1,if_neg hj2];exact r.2.2
 ·intro j hj hk3;rw[Z1l]at hj;rw[(hg j hj).1]at hk3;obtain⟨a,a1,a2,a3⟩:=h.tl j hj hk3;exact⟨a,a1,by rw[(hg a oq).1];exact a2,by rw[(hg a oq).2.1];exact a3⟩
structure Tab (B:Int) (w:Work):Prop where
 pt:PT w.heap.C w.heap.P
 tk:∀ x∈w.T,(w.heap.P.getD x.toNat default).S=1-w.heap.S
 pin:∀ p∈w.heap.P,p.N≤B
theorem Tab.withWords{B:Int}{w:Work}(h:Tab B w)(l:List Int):Tab B ⟨⟨w.heap.C,l,w.heap.P,w.heap.S,w.heap.B⟩,w.old,w.T,w.Q,w.D,w.rep⟩:=⟨h.pt,h.tk,h.pin⟩
theorem Tab.place{B:Int}(hB:0≤B){w:Work}(hw:WkOk w)(h:Tab B w){n:Int}(hn:1≤n∧n≤w.heap.C.pw)(hc:(w.place n).2.2=true):PT (w.place n).1.heap.C (w.place n).1.heap.P∧(∀ x∈(w.place n).1.T,((w.place n).1.heap.P.getD x.toNat default).S=1-(w.place n).1.heap.S)∧∀ p∈(w.place n).1.heap.P,p.N≤B:=by
 have hsp:=hw.sp;by_cases hf:Z2O w n
 ·have e:w.place n=(⟨⟨w.heap.C,w.heap.W,Z1P w.heap.P (Z0s w).toNat n,w.heap.S,w.heap.B⟩,w.old,w.T,w.Q,w.D,w.rep⟩,4096+Z0s w*w.heap.C.pw+(w.heap.P.getD (Z0s w).toNat default).U,true):=by rw[Work.place,if_pos hf]
  unfold Z2O at hf;have hm:=hw.tk _ (Z1k hf.1);have hi:(Z0s w).toNat<w.heap.P.length:=by omega
  have ok:=h.pt.b _ hi;have u:=ok.k1 hm.2.2;rw[e];refine⟨h.pt.setPage hi (Or.inr hm.2.2) ⟨ok.s,ok.n,ok.k,fun q=>by simp only at q;omega,fun _=>by simp only;omega,fun q=>by simp only at q;omega⟩ (Or.inr hm.2.2), ?_, ?_⟩
  ·intro x hx;simp only;rw[Z6G,Z1a hi];split
   ·rename_i q;have:=h.tk _ (Z1k hf.1);simp only;omega
   ·exact h.tk x hx
  ·intro p hp;rcases List.mem_or_eq_of_mem_set hp with hp | rfl
   ·exact h.pin p hp
   ·exact h.pin (w.heap.P.getD (Z0s w).toNat default) (getD_in hi)
 ·by_cases hg:0≤Z0e w
  ·have e:w.place n=(⟨⟨w.heap.C,w.heap.W,Z1P (Z20 w) (Z0e w).toNat n,w.heap.S,w.heap.B⟩,w.old,w.T++[Z0e w],w.Q,w.D,w.rep⟩,4096+Z0e w*w.heap.C.pw,true):=by rw[Work.place,if_neg hf,if_pos hg]
   obtain⟨g1,g2,g3⟩:=Z5v (h:=⟨w.heap.C,w.heap.W,w.heap.P,1-w.heap.S,w.heap.B⟩) (by simp only;omega) hg n;have g1':Z1P (Z20 w) (Z0e w).toNat n=w.heap.P.set (Z0e w).toNat ⟨1,1-w.heap.S,n,0⟩:=g1;have g2':(w.heap.P.getD (Z0e w).toNat default).K=0:=g2;have g3':(Z0e w).toNat<w.heap.P.length:=g3;rw[e,g1'];refine⟨h.pt.setPage g3' (Or.inl g2') ⟨by simp only;omega,by simp,by simp,by simp,fun _=>by simp only;omega,by simp⟩ (Or.inr rfl), ?_, ?_⟩
   ·intro x hx;simp only at hx ⊢;rw[Z1a g3'];split
    ·rfl
    ·rename_i hne;rcases List.mem_append.1 hx with hx | hx
     ·exact h.tk x hx
     ·simp at hx;subst hx;exact absurd rfl hne
   ·intro p hp;rcases List.mem_or_eq_of_mem_set hp with hp | rfl
    ·exact h.pin p hp
    ·exact hB
  ·rw[Work.place,if_neg hf,if_neg hg]at hc;simp at hc
theorem Tab.fwd{B:Int}(hB:0≤B)(w:Work)(r:Int)(hw:WkOk w)(hi:CIv w)(h:Tab B w)(e:(w.fwd r).2.2=0):Tab B (w.fwd r).1:=by
 unfold Work.fwd at e ⊢;split at e
 ·rename_i c1;rw[if_pos c1];exact h
 ·rename_i c1;rw[if_neg c1];split at e
  ·simp at e
  ·rename_i c2;rw[if_neg c2];have c2':r∈w.old:=Decidable.not_not.1 c2;split at e
   ·rename_i c3;rw[if_pos c3];exact h
   ·rename_i c3;rw[if_neg c3];split at e
    ·simp at e
    ·rename_i c4;rw[if_neg c4];split at e
     ·rename_i c5;rw[if_pos c5];exact⟨h.pt,h.tk,h.pin⟩
     ·rename_i c5;rw[if_neg c5];split at e
      ·rename_i c6;rw[if_pos c6];have hsp:=hw.sp;have o:=Z2S hw.C (Decidable.not_not.1 c4);have hpl:=hw.pl;have hl:Z1v w r<w.heap.P.length:=by unfold Z1v;omega
       refine⟨h.pt.flip hl c6 oq, ?_, ?_⟩
       ·intro x hx;have t:=hw.tk x hx;simp only[Work.keep,Work.flip];rw[Z1H oq];split
        ·rename_i hc;exfalso;by_cases hx':x.toNat=Z1v w r
         ·rw[hx']at t;omega
         ·have:=(Z7i (l:=w.heap.P) (i:=Z1v w r) (m:=x.toNat-Z1v w r-1) oq).2;rw[show Z1v w r+1+(x.toNat-Z1v w r-1)=x.toNat by omega]at this;omega
        ·exact h.tk x hx
       ·intro p hp;simp only[Work.keep,Work.flip,Z0l,List.mem_map,List.mem_range]at hp;obtain⟨j,hj,rfl⟩:=hp;split
        ·exact h.pin (w.heap.P.getD j default) (getD_in hj)
        ·exact h.pin (w.heap.P.getD j default) (getD_in hj)
      ·rename_i c6;rw[if_neg c6];split at e
       ·simp at e
       ·rename_i c7;rw[if_neg c7];have c7':(w.place (sizeH (hdW w r))).2.2=true:=by simpa using c7
        have hz:=hi.z r c2';have hs:=Z3e w r;have hp:sizeH (hdW w r)≤w.heap.C.pw:=by
         rw[Z3X];rcases hz with hz | hz
         ·exact absurd hz c6
         ·exact hz
        obtain⟨q1,q2,q3⟩:=h.place hB hw ⟨hs.1,hp⟩ c7';exact⟨q1,q2,q3⟩
theorem ZhL{B:Int}{h:Heap}(hp:Z02 h=true)(hb:∀ p∈h.P,p.N≤B):Tab B (beginW h):=by
 have hp':=hp;rw[Z2c]at hp';have hs:=hp'.2.2.2.1;refine⟨?_,by simp[beginW], ?_⟩
 ·refine hp'.2.2.2.2.2.mapPages _ ?_ ?_ ?_ ?_
  ·intro p hp;unfold begQ;split
   ·rename_i hc;exact⟨by simp only;omega,hp.n,hp.k,fun q=>by simp only at q;omega,hp.k1,fun q=>by simp only at q;omega⟩
   ·exact hp
  ·intro p hp hk;unfold begQ at hk ⊢;split at hk
   ·rename_i hc;simp only at hk;omega
   ·rename_i hc;rw[if_neg hc];exact⟨hk,rfl⟩
  ·intro p hp hk;unfold begQ at hk;split at hk
   ·rename_i hc;simp only at hk;omega
   ·exact hk
  ·intro p q hp hq h2 h3 he;have e1:begQ (1-h.S) p=p:=by rw[begQ,if_neg oq]
   have e2:begQ (1-h.S) q=q:=by rw[begQ,if_neg oq]
   rw[e1,e2];exact⟨⟨fun _=>h3,fun _=>h2⟩,fun _=>he⟩
 ·intro p hp;simp only[beginW,List.mem_map]at hp;obtain⟨q,hq,rfl⟩:=hp;unfold begQ;split
  ·exact hb q hq
  ·exact hb q hq
theorem Zn3{B:Int}(hB:0≤B){h:Heap}{s:List Int}(hw:WOk h.W)(hp:Z02 h=true)(hb:∀ p∈h.P,p.N≤B)(e:(rootsF (beginW h) s).2.2=0)(e2:(allF (rootsF (beginW h) s).1).2=0):Tab B (cW2 h s) :=
 Zq9 (Tab B) (fun w r hw hi h e=>h.fwd hB w r hw hi e) (fun w q j hw hi h hq h0 h1 e=>(Tab.fwd hB w _ hw hi h e).withWords _) (fun w n h=>⟨h.pt,h.tk,h.pin⟩) hw hp (ZhL hp hb) e e2
structure MOk (w:WorldM) (n:Nat):Prop where
 W:WOk w.heap.W
 hv:Z05 w.heap.C=true
 pl:(w.heap.P.length:Int)=w.heap.C.pg
 L:(w.heap.W.length:Int)=w.heap.C.pw*w.heap.C.pg
 N:∀ j,j<w.heap.P.length→0≤(w.heap.P.getD j default).N∧(w.heap.P.getD j default).N≤n
 us:∀ j,j<w.heap.P.length→0≤(w.heap.P.getD j default).U∧(w.heap.P.getD j default).U≤256
 G:ULe w.G
 E:ULe w.E
 sl:w.G.length≤n
 wl:w.E.length≤n
theorem MOk.wm{w:WorldM}{n:Nat}(h:MOk w n)(hn:n≤1000000):WMok w:=⟨h.W,h.G,h.E,Nat.le_trans h.sl oq,Nat.le_trans h.wl oq⟩
def WorldM.dup(w:WorldM)(t:Tape):WorldM:=⟨w.heap,w.G++[w.pick t],w.E⟩
def WorldM.step(w:WorldM)(t:Tape):WorldM :=
 if t.next 12≤3 then w.put ((t.step 12).header w.heap.C)
 else if t.next 12≤6 then w.link (t.step 12)
 else if t.next 12≤7 then w.pin (t.step 12)
 else if t.next 12≤9 then w.drop (t.step 12)
 else if t.next 12≤10 then w.collect
 else w.dup (t.step 12)
def WorldM.stepT(w:WorldM)(t:Tape):Tape :=
 if t.next 12≤3 then(t.step 12).headerT w.heap.C
 else if t.next 12≤6 then w.linkT (t.step 12)
 else if t.next 12≤7 then w.pinT (t.step 12)
 else if t.next 12≤9 then w.dropT (t.step 12)
 else if t.next 12≤10 then t.step 12
 else w.pickT (t.step 12)
theorem ZaD(t:Tape)(c:Conf):0≤(t.header c).map∧(t.header c).map≤4294967295:=by
 have h:∀ n:Int,0≤((Z3g t c).step 4).next (2^(min (min n 32) 12).toNat)∧((Z3g t c).step 4).next (2^(min (min n 32) 12).toNat)≤4294967295:=by
  intro n;have p:=ZnD (n:=min (min n 32) 12) oq;have r:=Z1h ((Z3g t c).step 4) (n:=2^(min (min n 32) 12).toNat) p.1;omega
 unfold Tape.header;split
 ·simp
 ·split
  ·simp
  ·exact h _
theorem Z1Y(t:Tape)(d:Int)(hd:t.next 12=d)(ht:TOk t):LP 22 [.pt 0 0 0,int 12] [t.b] (int d) [(t.step 12).b]:=by
 rw[← hd];exact Z0H t 12 ht dd dd
section
variable (w:WorldM) (t:Tape) (n:Nat) (hm:MOk w n) (hn:n≤1000000) (ht:TOk t) (ha:t.at'≤900000)
include hm hn ht ha
theorem Zk2:LP 58 [w.av,.pt 0 0 0] [t.b] (w.step t).av [(w.stepT t).b]:=by
 have hw:=hm.wm hn;have h1:=hm.W;have h2:=hm.G;have h3:=hm.E;have h4:=hm.sl;have h5:=hm.wl;have s1:=Z3U (t:=t) 12;have k1:=Z5d ht s1.2.2 oq oq;have n1:=Z1h t (n:=12) dd;have hmap:=ZaD (t.step 12) w.heap.C;have hv:=hm.hv;have hpl:=hm.pl;have hpn:∀ j,j<w.heap.P.length→-1048576≤(w.heap.P.getD j default).N∧(w.heap.P.getD j default).N≤4294967296:=fun j hj=>by
  have:=hm.N j hj;omega
 have hd:t.next 12=0∨t.next 12=1∨t.next 12=2∨t.next 12=3∨t.next 12=4∨t.next 12=5∨t.next 12=6∨t.next 12=7∨t.next 12=8∨t.next 12=9∨t.next 12=10∨t.next 12=11:=by omega
 rcases hd with hd | hd | hd | hd | hd | hd | hd | hd | hd | hd | hd | hd
 ·have e7:w.step t=w.put ((t.step 12).header w.heap.C):=by simp[WorldM.step,hd]
  have e8:w.stepT t=(t.step 12).headerT w.heap.C:=by simp[WorldM.stepT,hd]
  rw[e7,e8];exact lF Tryz.func58 [] (Fp 6 (@Z1Y t (0) aa aa) (Fp 17 (@Z5B (t.step 12) w.heap.C aa oq aa) (Fc 18 (@Z6h w ((t.step 12).header w.heap.C) aa aa) Fz)))
 ·have e7:w.step t=w.put ((t.step 12).header w.heap.C):=by simp[WorldM.step,hd]
  have e8:w.stepT t=(t.step 12).headerT w.heap.C:=by simp[WorldM.stepT,hd]
  rw[e7,e8];exact lF Tryz.func58 [] (Fp 6 (@Z1Y t (1) aa aa) (Fp 17 (@Z5B (t.step 12) w.heap.C aa oq aa) (Fc 18 (@Z6h w ((t.step 12).header w.heap.C) aa aa) Fz)))
 ·have e7:w.step t=w.put ((t.step 12).header w.heap.C):=by simp[WorldM.step,hd]
  have e8:w.stepT t=(t.step 12).headerT w.heap.C:=by simp[WorldM.stepT,hd]
  rw[e7,e8];exact lF Tryz.func58 [] (Fp 6 (@Z1Y t (2) aa aa) (Fp 17 (@Z5B (t.step 12) w.heap.C aa oq aa) (Fc 18 (@Z6h w ((t.step 12).header w.heap.C) aa aa) Fz)))
 ·have e7:w.step t=w.put ((t.step 12).header w.heap.C):=by simp[WorldM.step,hd]
  have e8:w.stepT t=(t.step 12).headerT w.heap.C:=by simp[WorldM.stepT,hd]
  rw[e7,e8];exact lF Tryz.func58 [] (Fp 6 (@Z1Y t (3) aa aa) (Fp 17 (@Z5B (t.step 12) w.heap.C aa oq aa) (Fc 18 (@Z6h w ((t.step 12).header w.heap.C) aa aa) Fz)))
 ·have e7:w.step t=w.link (t.step 12):=by simp[WorldM.step,hd]
  have e8:w.stepT t=w.linkT (t.step 12):=by simp[WorldM.stepT,hd]
  rw[e7,e8];exact lF Tryz.func58 [] (Fp 6 (@Z1Y t (4) aa aa) (Fp 25 (@Z8M w (t.step 12) aa aa oq) Fz))
 ·have e7:w.step t=w.link (t.step 12):=by simp[WorldM.step,hd]
  have e8:w.stepT t=w.linkT (t.step 12):=by simp[WorldM.stepT,hd]
  rw[e7,e8];exact lF Tryz.func58 [] (Fp 6 (@Z1Y t (5) aa aa) (Fp 25 (@Z8M w (t.step 12) aa aa oq) Fz))
 ·have e7:w.step t=w.link (t.step 12):=by simp[WorldM.step,hd]
  have e8:w.stepT t=w.linkT (t.step 12):=by simp[WorldM.stepT,hd]
  rw[e7,e8];exact lF Tryz.func58 [] (Fp 6 (@Z1Y t (6) aa aa) (Fp 25 (@Z8M w (t.step 12) aa aa oq) Fz))
 ·have e7:w.step t=w.pin (t.step 12):=by simp[WorldM.step,hd]
  have e8:w.stepT t=w.pinT (t.step 12):=by simp[WorldM.stepT,hd]
  rw[e7,e8];exact lF Tryz.func58 [] (Fp 6 (@Z1Y t (7) aa aa) (Fp 30 (@ZkB w (t.step 12) aa aa oq aa oq aa) Fz))
 ·have e7:w.step t=w.drop (t.step 12):=by simp[WorldM.step,hd]
  have e8:w.stepT t=w.dropT (t.step 12):=by simp[WorldM.stepT,hd]
  rw[e7,e8];exact lF Tryz.func58 [] (Fp 6 (@Z1Y t (8) aa aa) (Fp 36 (@ZcL w (t.step 12) aa aa oq) Fz))
 ·have e7:w.step t=w.drop (t.step 12):=by simp[WorldM.step,hd]
  have e8:w.stepT t=w.dropT (t.step 12):=by simp[WorldM.stepT,hd]
  rw[e7,e8];exact lF Tryz.func58 [] (Fp 6 (@Z1Y t (9) aa aa) (Fp 36 (@ZcL w (t.step 12) aa aa oq) Fz))
 ·have e7:w.step t=w.collect:=by simp[WorldM.step,hd]
  have e8:w.stepT t=t.step 12:=by simp[WorldM.stepT,hd]
  rw[e7,e8];exact lF Tryz.func58 [] (Fp 6 (@Z1Y t (10) aa aa) (Fc 40 (@Zdv w aa oq oq aa aa) Fz))
 ·have e7:w.step t=w.dup (t.step 12):=by simp[WorldM.step,hd]
  have e8:w.stepT t=w.pickT (t.step 12):=by simp[WorldM.stepT,hd]
  rw[e7,e8];exact lF Tryz.func58 [] (Fh 49 [.els (List.map wdv (w.G++[w.pick (t.step 12)]))] (Fp 6 (@Z1Y t (11) aa aa) (FAx 41 44 wdv w.G (by(simp[WorldM.dup, *];omega)) (Fp 47 (@Z1Z w (t.step 12) aa aa oq) (Fs 48 (List.map wdv [w.pick (t.step 12)]) (Fa (by(simp[WorldM.dup, *];omega):(List.map wdv w.G).length+(List.map wdv [w.pick (t.step 12)]).length≤2^30) (Fa (by simp[WorldM.dup,List.map_take,List.map_drop,List.map_set,List.map_append,wdv,idv]:List.map wdv w.G++List.map wdv [w.pick (t.step 12)]=List.map wdv (w.G++[w.pick (t.step 12)])) Fz)))))))
end
theorem Zaj{pw s:Int}{l:List Page}{ws:List Int}(h:WOk ws):∀ i,WOk (Z2P pw s l ws i)
 | 0=>h
 | i+1=>by
  have ih:=Zaj (pw:=pw) (s:=s) (l:=l) h i;unfold Z2P;split
  ·intro x hx;simp only[spl,List.mem_append,List.mem_replicate]at hx;rcases hx with(hx | hx) | hx
   ·exact ih x (List.mem_of_mem_take hx)
   ·omega
   ·exact ih x (List.mem_of_mem_drop hx)
  ·exact ih
theorem Zom{c:Conf}{l:List Page}(h:PT c l)(s:Int):PT c (l.map (Z2G s)):=by
 refine h.mapPages _ ?_ ?_ ?_ ?_
 ·intro p hp;unfold Z2G;split
  ·exact⟨by simp,by simp,by simp,by simp,by simp,by simp⟩
  ·exact hp
 ·intro p hp hk;unfold Z2G at hk ⊢;split at hk
  ·simp at hk
  ·rename_i hc;rw[if_neg hc];exact⟨hk,rfl⟩
 ·intro p hp hk;unfold Z2G at hk;split at hk
  ·simp at hk
  ·exact hk
 ·intro p q hp hq h2 h3 he;by_cases hg:p.S=s
  ·have e1:Z2G s p=⟨0,0,0,0⟩:=by rw[Z2G,if_pos ⟨by omega,hg⟩]
   have e2:Z2G s q=⟨0,0,0,0⟩:=by rw[Z2G,if_pos ⟨by omega,by omega⟩]
   rw[e1,e2];simp
  ·have e1:Z2G s p=p:=by rw[Z2G,if_neg (by unfold Z7h;omega)]
   have e2:Z2G s q=q:=by rw[Z2G,if_neg (by unfold Z7h;omega)]
   rw[e1,e2];exact⟨⟨fun _=>h3,fun _=>h2⟩,fun _=>he⟩
theorem Z8k{w:Work}(hw:WkOk w)(k:List Int):∀ i,∀ x∈Z6a w k i,0≤x∧x≤4294967296
 | 0,x,hx=>by simp[Z6a]at hx
 | i+1,x,hx=>by
  simp only[Z6a,List.mem_append,List.mem_singleton]at hx;rcases hx with hx | rfl
  ·exact Z8k hw k i x hx
  ·have h:=Z8a w k i;unfold Z8j;split
   ·omega
   ·unfold Z1B;rw[h.2.2.2.1,h.1];split
    ·rename_i hq;have:=hw.q _ hq;omega
    ·have:=Z6M (Z0C hw.W (k.getD i default)).1;omega
structure ColOk (B:Int) (h:Heap) (s k:List Int):Prop where
 p0:Z02 h=true
 p1:Z02 (Z0o h s k).1=true
 w:WOk (Z0o h s k).1.W
 n:∀ p∈(Z0o h s k).1.P,p.N≤B
 c:(Z0o h s k).1.C=h.C
 r:∀ x∈(Z0o h s k).2.1,0≤x∧x≤4294967296
 rl:(Z0o h s k).2.1.length=s.length
 v:∀ x∈(Z0o h s k).2.2.1,0≤x∧x≤4294967296
 vl:(Z0o h s k).2.2.1.length=k.length
theorem Zha{B:Int}(hB:0≤B){h:Heap}{s k:List Int}(hw:WOk h.W)(hb:∀ p∈h.P,p.N≤B)(e:(Z0o h s k).2.2.2.2=0):ColOk B h s k:=by
 by_cases hp:Z02 h=true
 ·by_cases hr:Z0m h s=true∧Z0m h k=true
  ·by_cases e1:(rootsF (beginW h) s).2.2=0
   ·by_cases e2:(allF (rootsF (beginW h) s).1).2=0
    ·have e7:Z0o h s k=(endH (cW5 h s k),(rootsF (beginW h) s).2.1,Z6a (cW2 h s) k k.length,(cW5 h s k).rep,0):=by rw[Z0o,if_pos hp,if_pos hr,if_pos e1,if_pos e2]
     have ho:=Z4Q (roots:=s) (Z3N hw hp) (Z49 hp) e1;have c:=cOk h s k hw hp e1 e2;have c5:=cOk5 h s k hw hp e1 e2;have tb:=Zn3 hB hw hp hb e1 e2;obtain⟨g1,g2,g3,g4,g5⟩:=c.h4;have hsp:=c.w2.sp;have hc2:(cW2 h s).heap.C=h.C:=c.x2.c;have hpl:=c.w2.pl;rw[hc2]at hpl;have hL:=c.i4.L;rw[g1]at hL;have hfl:=Z5o (s:=(cW4 h s k).heap.S) c5.2.2.2.1 (cW4 h s k).heap.P.length (Nat.le_refl _);refine⟨hp, ?_, ?_, ?_, ?_, ?_, ?_, ?_, ?_⟩
     ·rw[e7,Z2c];simp only[endH,cW5,Z1z,g1,g2,g3,g4];have hptf:=Zom (s:=(cW2 h s).heap.S) tb.pt;rw[hc2]at hptf;refine⟨(Z07 hp).1, ?_,by simp only[List.length_map];exact hpl,by omega, ?_,hptf⟩
      ·rw[g1,g2,g3]at hfl;rw[hfl];exact hL
      ·split
       ·rename_i ht;have hm:=Z1k (w:=cW2 h s) ht;have t1:=c.w2.tk _ hm;have t2:=tb.tk _ hm;refine Or.inr ⟨t1.1,by simp only[List.length_map];exact t1.2.1, ?_⟩;have hx:(List.map (Z2G (cW2 h s).heap.S) (cW2 h s).heap.P).getD (Z0s (cW2 h s)).toNat default=(cW2 h s).heap.P.getD (Z0s (cW2 h s)).toNat default:=by
         have hi:(Z0s (cW2 h s)).toNat<(cW2 h s).heap.P.length:=by omega
         have:(List.map (Z2G (cW2 h s).heap.S) (cW2 h s).heap.P).getD (Z0s (cW2 h s)).toNat default=Z2G (cW2 h s).heap.S ((cW2 h s).heap.P.getD (Z0s (cW2 h s)).toNat default):=by simp[List.getD_eq_getElem?_getD,hi]
         rw[this,Z2G,if_neg (by unfold Z7h;omega)]
        show((List.map (Z2G (cW2 h s).heap.S) (cW2 h s).heap.P).getD (Z0s (cW2 h s)).toNat default).K=1;rw[hx];exact t1.2.2
       ·exact Or.inl rfl
     ·rw[e7];exact Zaj c.f4.W _
     ·rw[e7];intro p hp';simp only[endH,cW5,Z1z,g2,List.mem_map]at hp';obtain⟨q,hq,rfl⟩:=hp';unfold Z2G;split
      ·exact hB
      ·exact tb.pin q hq
     ·rw[e7];exact g1
     ·rw[e7];exact ho.2.2.2.1
     ·rw[e7];exact ho.2.2.2.2
     ·rw[e7];exact Z8k c.w2 k _
     ·rw[e7];exact Z8o _ _ _
    ·rw[Z0o,if_pos hp,if_pos hr,if_pos e1,if_neg e2]at e;exact absurd e e2
   ·rw[Z0o,if_pos hp,if_pos hr,if_neg e1]at e;exact absurd e e1
  ·rw[Z0o,if_pos hp,if_neg hr]at e;simp at e
 ·rw[Z0o,if_neg hp]at e;simp at e
theorem ZeF{h:Heap}(hp:Z02 h=true):∀ p∈h.P,0≤p.N:=by
 rw[Z2c]at hp;intro p hp';obtain⟨i,hi,e⟩:=List.mem_iff_getElem.1 hp';have:=(hp.2.2.2.2.2.b i hi).n.1;rwa [show h.P.getD i default=p by rw[List.getD_eq_getElem?_getD,List.getElem?_eq_getElem hi,e];rfl]at this
theorem MOk.of_proper{w:WorldM}{n:Nat}(hp:Z02 w.heap=true)(hw:WOk w.heap.W)(hn:∀ p∈w.heap.P,p.N≤n)(h1:ULe w.G)(h2:ULe w.E)(h3:w.G.length≤n)(h4:w.E.length≤n):MOk w n:=by
 have po:=Z07 hp;exact⟨hw,po.1,po.2.2.2.2.2.2.2.1,po.2.2.2.2.2.1,fun j hj=>⟨ZeF hp _ (getD_in hj),hn _ (getD_in hj)⟩,fun j hj=>by have:=Z0M hp hj;omega,h1,h2,h3,h4⟩
theorem MOk.pin_mem{w:WorldM}{n:Nat}(h:MOk w n):∀ p∈w.heap.P,0≤p.N∧p.N≤n:=by
 intro p hp;obtain⟨i,hi,e⟩:=List.mem_iff_getElem.1 hp;have:=h.N i hi;rwa [show w.heap.P.getD i default=p by rw[List.getD_eq_getElem?_getD,List.getElem?_eq_getElem hi,e];rfl]at this
theorem MOk.mono{w:WorldM}{n:Nat}(h:MOk w n):MOk w (n+1) :=
 ⟨h.W,h.hv,h.pl,h.L,fun j hj=>by have:=h.N j hj;omega,h.us,h.G,h.E,by have:=h.sl;omega,by have:=h.wl;omega⟩
theorem Ze3{l:List Int}(h:ULe l){x:Int}(hx:0≤x∧x≤18446744073709551615):ULe (l++[x]):=by
 intro y hy;simp only[List.mem_append,List.mem_singleton]at hy;rcases hy with hy | rfl
 ·exact h y hy
 ·exact hx
theorem MOk.put{w:WorldM}{n:Nat}(h:MOk w n){hd:Header}(hm:0≤hd.map∧hd.map≤4294967295):MOk (w.put hd) (n+1):=by
 unfold WorldM.put;split
 ·rename_i e;obtain⟨k1,k2,k3,k4,k5,k6,k7,k8⟩:=Znd h.W hm e;have po:=Z07 k1;have hl:=h.sl;have hl2:=h.wl;have z:=(ZbL k2).2.1;have a1:=k3.lo;have a2:=k3.hi;refine MOk.of_proper k7 k8 ?_ (Ze3 h.G (by rw[k5];omega)) h.E qo (by simp only;omega);intro p hp;simp only at hp;rw[k6]at hp;simp only at hp;rcases k3.pin p hp with q | ⟨q,q1,q2⟩
  ·omega
  ·have:=h.pin_mem q q1;omega
 ·exact h.mono
theorem MOk.link{w:WorldM}{n:Nat}(h:MOk w n)(hn:n≤1000000)(t:Tape):MOk (w.link t) (n+1):=by
 unfold WorldM.link;split
 ·rename_i hc;have g:=Z54 hc.1;have hw:=h.wm hn;have hlen:1≤(getH w.heap (w.pick t)).1.length:=by omega
  have n1:=Z1h (w.pickT (w.pickT t)) (n:=8) dd;have hi:0≤Z7S w t∧Z7S w t<(getH w.heap (w.pick t)).1.length:=by
   unfold Z7S;rw[Int.tmod_eq_emod_of_nonneg n1.1];exact⟨Int.emod_nonneg _ oq,Int.emod_lt_of_pos _ oq⟩
  have hv:0≤Z9Z w t∧Z9Z w t≤18446744073709551615:=by
   unfold Z9Z;split
   ·exact Z4b hw _
   ·have:=Z1h ((w.pickT (w.pickT t)).step 8) (n:=1048576) dd;omega
  obtain⟨s1,s2,s3⟩:=Ze7 h.W hv hc.1 hi;have hl:=h.sl;have hl2:=h.wl;refine MOk.of_proper s2 s3 ?_ h.G h.E (by simp only;omega) (by simp only;omega);intro p hp;simp only at hp;rw[s1]at hp;have:=h.pin_mem p hp;omega
 ·exact h.mono
theorem ZiZ{w:WorldM}{n:Nat}(h:MOk w n){i:Nat}(hi:i<w.heap.P.length){d:Int}(hd:d=1∨(d=-1∧0<(w.heap.P.getD i default).N)):MOk (pinB w i d) (n+1):=by
 have hp:=h.N i hi;refine⟨h.W,h.hv, ?_,h.L, ?_, ?_,h.G,h.E,by have:=h.sl;simp only[pinB];omega,by have:=h.wl;simp only[pinB];omega⟩
 ·simp only[pinB,List.length_set];exact h.pl
 ·intro j hj;simp only[pinB,List.length_set]at hj ⊢;rw[Z1a hi];split
  ·simp only;omega
  ·have:=h.N j hj;omega
 ·intro j hj;simp only[pinB,List.length_set]at hj ⊢;rw[Z1a hi];split
  ·exact h.us i hi
  ·exact h.us j hj
theorem MOk.pin{w:WorldM}{n:Nat}(h:MOk w n)(t:Tape):MOk (w.pin t) (n+1):=by
 unfold WorldM.pin;split
 ·rename_i e;have o:=Z2S h.hv e;have hpl:=h.pl;have hi:pinI w t<w.heap.P.length:=by unfold pinI;omega
  split
  ·rename_i hc;exact ZiZ h hi (Or.inr ⟨rfl,hc.1⟩)
  ·split
   ·exact ZiZ h hi (Or.inl rfl)
   ·exact h.mono
 ·exact h.mono
theorem MOk.drop{w:WorldM}{n:Nat}(h:MOk w n)(t:Tape):MOk (w.drop t) (n+1):=by
 unfold WorldM.drop;split
 ·have hl:=h.sl;have hl2:=h.wl;refine⟨h.W,h.hv,h.pl,h.L,fun j hj=>by have:=h.N j hj;simp only;omega,h.us, ?_, ?_, ?_, ?_⟩
  ·intro x hx;rcases List.mem_append.1 hx with hx | hx
   ·exact h.G x (List.mem_of_mem_take hx)
   ·exact h.G x (List.mem_of_mem_drop hx)
  ·simp only;split
   ·exact Ze3 h.E (Z5i h.G _)
   ·exact h.E
  ·simp only[List.length_append,List.length_take,List.length_drop];omega
  ·simp only;split
   ·simp;omega
   ·omega
 ·exact h.mono
theorem MOk.collect{w:WorldM}{n:Nat}(h:MOk w n):MOk w.collect (n+1):=by
 unfold WorldM.collect;split
 ·rename_i e;have c:=Zha (B:=n) oq h.W (fun p hp=>(h.pin_mem p hp).2) e;have hl:=h.sl;have hl2:=h.wl;refine MOk.of_proper c.p1 c.w (fun p hp=>by have:=c.n p hp;omega) (fun x hx=>by have:=c.r x hx;omega) (fun x hx=>by have:=c.v x hx;omega) (by simp only[c.rl];omega) (by simp only[c.vl];omega)
 ·exact h.mono
theorem MOk.step{w:WorldM}{n:Nat}(h:MOk w n)(hn:n≤1000000)(t:Tape):MOk (w.step t) (n+1):=by
 unfold WorldM.step;repeat' split
 ·exact h.put (ZaD _ _)
 ·exact h.link hn _
 ·exact h.pin _
 ·exact h.drop _
 ·exact h.collect
 ·have hl:=h.sl;have hl2:=h.wl;exact⟨h.W,h.hv,h.pl,h.L,fun j hj=>by have:=h.N j hj;simp only[WorldM.dup]at *;omega,h.us,Ze3 h.G (Z4b (h.wm hn) _),h.E,by simp only[WorldM.dup,List.length_append,List.length_singleton];omega,by simp only[WorldM.dup];omega⟩
theorem ZgH{a:Int}(h0:0≤a)(h1:a<4294967296):Z0a (4*a+2)=(a,true):=by
 have e:(4*a+2)/4=a:=by omega
 rw[Z0a,if_pos oq,e]
theorem Z7y(w:WorldM)(t:Tape)(n:Nat)(hm:MOk w n)(hn:n≤1000000)(ht:TOk t)(ha:t.at'≤900000):LP 58 [w.av,.pt 0 0 0] [t.b] (w.step t).av [(w.stepT t).b] :=
 Zk2 w t n hm hn ht ha
structure TUp (n:Int) (t u:Tape):Prop where
 l:u.l=t.l
 lo:t.at'≤u.at'
 hi:u.at'≤t.at'+n
theorem TUp.step(t:Tape)(n:Int):TUp 1 t (t.step n):=by
 have:=Z3U (t:=t) n;exact⟨this.2.2,this.1,this.2.1⟩
theorem TUp.trans{m n:Int}{t u v:Tape}(h1:TUp m t u)(h2:TUp n u v):TUp (m+n) t v :=
 ⟨h2.l.trans h1.l,by have:=h1.lo;have:=h2.lo;omega,by have:=h1.hi;have:=h2.hi;omega⟩
theorem TUp.mono{m n:Int}{t u:Tape}(h:TUp m t u)(hmn:m≤n):TUp n t u:=⟨h.l,h.lo,by have:=h.hi;omega⟩
theorem ZgA(t:Tape)(c:Conf):TUp 10 t (t.headerT c):=by
 have h1:TUp 4 t (Z3g t c):=by
  unfold Z3g;split
  ·exact(((TUp.step t _).trans (TUp.step _ 12)).trans (TUp.step _ _)).mono dd
  ·exact((TUp.step t _).trans (TUp.step _ 12)).mono dd
 unfold Tape.headerT;repeat' split
 ·exact(h1.trans (TUp.step _ 4)).mono dd
 ·exact(h1.trans (TUp.step _ 4)).mono dd
 ·exact((h1.trans (TUp.step _ 4)).trans (TUp.step _ _)).mono dd
theorem Zlu(w:WorldM)(t:Tape):TUp 10 t (w.linkT t):=by
 have h1:TUp 1 t (w.pickT t):=TUp.step _ _;have h2:TUp 1 (w.pickT t) (w.pickT (w.pickT t)):=TUp.step _ _;unfold WorldM.linkT;split
 ·exact((((h1.trans h2).trans (TUp.step _ 8))).trans (TUp.step _ _)).mono dd
 ·exact((h1.trans h2).trans (TUp.step _ 8)).mono dd
theorem Zku(w:WorldM)(t:Tape):(w.stepT t).l=t.l∧t.at'+1≤(w.stepT t).at'∧(w.stepT t).at'≤t.at'+20:=by
 have h0:(t.step 12).at'=t.at'+1∧(t.step 12).l=t.l:=by simp[Tape.step]
 have key:TUp 10 (t.step 12) (w.stepT t):=by
  unfold WorldM.stepT;repeat' split
  ·exact ZgA _ _
  ·exact Zlu _ _
  ·unfold WorldM.pinT;split
   ·exact((TUp.step _ _).trans (TUp.step _ 2)).mono dd
   ·exact(TUp.step _ _).mono dd
  ·unfold WorldM.dropT;split
   ·exact((TUp.step _ _).trans (TUp.step _ 3)).mono dd
   ·exact⟨rfl,by omega,by omega⟩
  ·exact⟨rfl,by omega,by omega⟩
  ·exact(TUp.step _ _).mono dd
 have a:=key.l;have b:=key.lo;have c:=key.hi;exact⟨a.trans h0.2,by omega,by omega⟩
def mkS(w:WorldM)(t:Tape):Nat→WorldM×Tape
 | 0=>(w,t)
 | k+1=>((mkS w t k).1.step (mkS w t k).2,(mkS w t k).1.stepT (mkS w t k).2)
def mkB(w:WorldM)(t:Tape)(k:Nat):Bool:=decide (((mkS w t k).2.l.length:Int)≤(mkS w t k).2.at')
def mkN(w:WorldM)(t:Tape):Nat:=((List.range (2+t.l.length)).find? (mkB w t)).getD 0
def Ze2(w:WorldM)(t:Tape):WorldM:=(mkS w t (mkN w t)).1
theorem Zff(w:WorldM)(t:Tape):∀ k:Nat,(mkS w t k).2.l=t.l∧t.at'+k≤(mkS w t k).2.at'∧(mkS w t k).2.at'≤t.at'+20*k
 | 0=>by simp[mkS]
 | k+1=>by
  have ih:=Zff w t k;have:=Zku (mkS w t k).1 (mkS w t k).2;refine⟨this.1.trans ih.1, ?_, ?_⟩
  ·simp only[mkS];omega
  ·simp only[mkS];omega
theorem Zfz{w:WorldM}{n:Nat}(h:MOk w n)(t:Tape):∀ k,n+k≤1000000→MOk (mkS w t k).1 (n+k)
 | 0,_=>h
 | k+1,hk=>(Zfz h t k oq).step oq _
theorem Zja(w:WorldM)(t:Tape)(ht:0≤t.at'):mkB w t (mkN w t)=true∧(∀ j,j<mkN w t→mkB w t j=false)∧mkN w t≤t.l.length+1:=by
 cases hb:(List.range (2+t.l.length)).find? (mkB w t)with
 | none =>
  exfalso;have:=List.find?_eq_none.1 hb t.l.length (List.mem_range.2 oq);have u:=Zff w t t.l.length;simp only[mkB,decide_eq_true_eq,u.1]at this;omega
 | some k =>
  obtain⟨h1,h2,h3⟩:=List.find?_range_eq_some.1 hb;have h2:=List.mem_range.1 h2;have e:mkN w t=k:=by rw[mkN,hb];rfl
  rw[e];exact⟨h1,fun j hj=>by simpa using h3 j hj,by omega⟩
def mkLA(w:WorldM)(t:Tape):Tg:=⟨tm 22 [(2,.pt 8002 0 0),(3,.pt 32012 0 0),(4,.pt 40004 0 0)],[(40004,.box 30 w.cells),(32012,t.b),(8002,.box 30 [int 0,int 0,.d (.sl 0 []),.d (.sl 0 []),int 0,int 0,.d (.sl 0 []),.d (.sl 0 [])])],60⟩
theorem Zl3(w:WorldM)(t:Tape)(n:Nat)(hm:MOk w n)(hn:n≤1000000)(ht:TOk t)(ha:t.at'≤900000)(hd:t.at'<t.l.length):CP (rndF Tryz.f15 0) (mkLA w t).st .nrm (mkLA (w.step t) (w.stepT t)).st:=by
 exact sF [] [] (Fp 16 (@Z84 t aa) (Ftb 17 (!decide ((↑t.l.length:Int)≤t.at')) (Fp 20 (@Z7y w t n aa aa aa aa) Fz)))
theorem ZpP(w:WorldM)(t:Tape)(ht:TOk t)(hd:¬ t.at'<t.l.length):CP (rndF Tryz.f15 0) (mkLA w t).st (.ext 0) (Tg.st ⟨tm 22 [(2,.pt 8002 0 0),(4,.pt 40004 0 0)],[(40004,.box 30 w.cells),(8002,.box 30 [int 0,int 0,.d (.sl 0 []),.d (.sl 0 []),int 0,int 0,.d (.sl 0 []),.d (.sl 0 [])])],60⟩):=by
 exact sF [] [] (Fp 16 (@Z84 t aa) (Ffb 17 (!decide ((↑t.l.length:Int)≤t.at')) Fz))
theorem Znl(w:WorldM)(t:Tape)(hm:MOk w 0)(hl:t.l.length≤300)(h0:0≤t.at')(h1:t.at'≤1000):CP (blkF Tryz.f15 0) (Tg.st ⟨tm 22 [(2,.pt 8002 0 0),(3,.pt 32012 0 0),(4,.pt 40004 0 0)],[(40004,.box 30 w.cells),(32012,t.b),(8002,.box 30 [int 0,int 0,.d (.sl 0 []),.d (.sl 0 []),int 0,int 0,.d (.sl 0 []),.d (.sl 0 [])])],60⟩) .nrm (Tg.st ⟨tm 22 [(2,.pt 8002 0 0),(4,.pt 40004 0 0)],[(40004,.box 30 (Ze2 w t).cells),(8002,.box 30 [int 0,int 0,.d (.sl 0 []),.d (.sl 0 []),int 0,int 0,.d (.sl 0 []),.d (.sl 0 [])])],60⟩):=by
 have hk:=Zja w t h0;have tok:∀ k,k≤mkN w t→TOk (mkS w t k).2∧(mkS w t k).2.at'≤900000:=fun k hk'=>by
  have u:=Zff w t k;refine⟨?_,by omega⟩;unfold TOk;rw[u.1];omega
 refine Z08 (S:=fun k=>(mkLA (mkS w t k).1 (mkS w t k).2).st) (mkN w t) kr (fun k hk'=>?_) ?_
 ·have hs:=hk.2.1 k hk';simp only[mkB,decide_eq_false_iff_not]at hs;have m:=Zfz hm t k oq;exact Zl3 _ _ (0+k) m oq (tok k oq).1 (tok k oq).2 oq
 ·have hs:=hk.1;simp only[mkB,decide_eq_true_eq]at hs;exact ZpP _ _ (tok _ (Nat.le_refl _)).1 oq
def mkLB(w:WorldM)(t:Tape):Tg:=⟨tm 22 [(2,.pt 8002 0 0),(3,.pt 24012 0 0),(4,.pt 32004 0 0)],[(32004,.box 30 w.cells),(24012,t.b),(8002,.box 30 [int 0,int 0,.d (.sl 0 []),.d (.sl 0 []),int 0,int 0,.d (.sl 0 []),.d (.sl 0 [])])],60⟩
theorem ZkP(w:WorldM)(t:Tape)(n:Nat)(hm:MOk w n)(hn:n≤1000000)(ht:TOk t)(ha:t.at'≤900000)(hd:t.at'<t.l.length):CP (rndF Tryz.f15 0) (mkLB w t).st .nrm (mkLB (w.step t) (w.stepT t)).st:=by
 exact sF [] [] (Fp 16 (@Z84 t aa) (Ftb 17 (!decide ((↑t.l.length:Int)≤t.at')) (Fp 20 (@Z7y w t n aa aa aa aa) Fz)))
theorem ZoU(w:WorldM)(t:Tape)(ht:TOk t)(hd:¬ t.at'<t.l.length):CP (rndF Tryz.f15 0) (mkLB w t).st (.ext 0) (Tg.st ⟨tm 22 [(2,.pt 8002 0 0),(4,.pt 32004 0 0)],[(32004,.box 30 w.cells),(8002,.box 30 [int 0,int 0,.d (.sl 0 []),.d (.sl 0 []),int 0,int 0,.d (.sl 0 []),.d (.sl 0 [])])],60⟩):=by
 exact sF [] [] (Fp 16 (@Z84 t aa) (Ffb 17 (!decide ((↑t.l.length:Int)≤t.at')) Fz))
theorem ZnT(w:WorldM)(t:Tape)(hm:MOk w 0)(hl:t.l.length≤300)(h0:0≤t.at')(h1:t.at'≤1000):CP (blkF Tryz.f15 0) (Tg.st ⟨tm 22 [(2,.pt 8002 0 0),(3,.pt 24012 0 0),(4,.pt 32004 0 0)],[(32004,.box 30 w.cells),(24012,t.b),(8002,.box 30 [int 0,int 0,.d (.sl 0 []),.d (.sl 0 []),int 0,int 0,.d (.sl 0 []),.d (.sl 0 [])])],60⟩) .nrm (Tg.st ⟨tm 22 [(2,.pt 8002 0 0),(4,.pt 32004 0 0)],[(32004,.box 30 (Ze2 w t).cells),(8002,.box 30 [int 0,int 0,.d (.sl 0 []),.d (.sl 0 []),int 0,int 0,.d (.sl 0 []),.d (.sl 0 [])])],60⟩):=by
 have hk:=Zja w t h0;have tok:∀ k,k≤mkN w t→TOk (mkS w t k).2∧(mkS w t k).2.at'≤900000:=fun k hk'=>by
  have u:=Zff w t k;refine⟨?_,by omega⟩;unfold TOk;rw[u.1];omega
 refine Z08 (S:=fun k=>(mkLB (mkS w t k).1 (mkS w t k).2).st) (mkN w t) kr (fun k hk'=>?_) ?_
 ·have hs:=hk.2.1 k hk';simp only[mkB,decide_eq_false_iff_not]at hs;have m:=Zfz hm t k oq;exact ZkP _ _ (0+k) m oq (tok k oq).1 (tok k oq).2 oq
 ·have hs:=hk.1;simp only[mkB,decide_eq_true_eq]at hs;exact ZoU _ _ (tok _ (Nat.le_refl _)).1 oq
def Z4R(l:List Int):Tape:=⟨l.take 300,0⟩
def Z13(l:List Int):WorldM:=Ze2 (Z4R l).empty (((Z4R l).step 4).step 5)
theorem Zf3(t:Tape):MOk t.empty 0:=by
 have hv:=Z4P t;have hb:=validB_iff.1 hv;refine⟨?_,hv, ?_, ?_, ?_, ?_, ?_, ?_,by simp[Tape.empty],by simp[Tape.empty]⟩
 ·intro x hx;simp only[Tape.empty,Z4c,List.mem_replicate]at hx;omega
 ·simp only[Tape.empty,Z4c,List.length_replicate];omega
 ·have:=area hv;simp only[Tape.empty,Z4c,List.length_replicate];omega
 ·intro j hj;simp only[Tape.empty,Z4c,List.length_replicate]at hj ⊢;have:(List.replicate t.C.pg.toNat (⟨0,0,0,0⟩:Page)).getD j default=⟨0,0,0,0⟩:=by simp[List.getD_eq_getElem?_getD,hj]
  rw[this];simp
 ·intro j hj;simp only[Tape.empty,Z4c,List.length_replicate]at hj ⊢;have:(List.replicate t.C.pg.toNat (⟨0,0,0,0⟩:Page)).getD j default=⟨0,0,0,0⟩:=by simp[List.getD_eq_getElem?_getD,hj]
  rw[this];simp
 ·intro x hx;simp[Tape.empty]at hx
 ·intro x hx;simp[Tape.empty]at hx
theorem Zay(l:List Int):(((Z4R l).step 4).step 5).l=l.take 300∧(((Z4R l).step 4).step 5).at'=2:=by simp[Z4R,Tape.step]
theorem Zft(l:List Int):MOk (Z13 l) 1000:=by
 have e:=Zay l;have hl:(((Z4R l).step 4).step 5).l.length≤300:=by rw[e.1];simp;omega
 have hk:=Zja (Z4R l).empty (((Z4R l).step 4).step 5) oq;have m:=Zfz (Zf3 (Z4R l)) (((Z4R l).step 4).step 5) (mkN (Z4R l).empty (((Z4R l).step 4).step 5)) oq;have h2:∀ (w:WorldM) (a b:Nat),MOk w a→a≤b→MOk w b:=fun w a b h hab =>
  ⟨h.W,h.hv,h.pl,h.L,fun j hj=>by have:=h.N j hj;omega,h.us,h.G,h.E,by have:=h.sl;omega,by have:=h.wl;omega⟩
 exact h2 _ _ _ m oq
theorem Zg6(l:List Int)(hl:l.length≤140737488355328):GP 15 [Z0j l] false (Z13 l).av []:=by
 have e:=Zay l;have he:=Zf3 (Z4R l);have h1:(((Z4R l).step 4).step 5).l.length≤300:=by rw[e.1];simp;omega
 have h2:=e.2;by_cases h:300<l.length
 ·have ht:TOk ⟨List.take (Int.toNat 300) l,0⟩:=by simp[TOk];omega
  have e9:Z4R l=⟨List.take (Int.toNat 300) l,0⟩:=rfl;unfold Z13;rw[e9]at he h1 h2 ⊢;exact gF [] Tryz.func15 [] (Fh 9 [.els (List.map idv (List.take (Int.toNat 300) l))] (Fl 6 idv l (Ftb 7 (decide (300<(↑l.length:Int))) (Fa (by(simp only[List.length_map];omega):(0:Int)≤(300:Int)∧300≤(↑(List.map idv l).length:Int)) (Fa (ms:List.take (Int.toNat 300) (List.map idv l)=List.map idv (List.take (Int.toNat 300) l)) (Fp 14 (@Zd8 (Tape.mk (List.take (Int.toNat 300) l) 0) aa (by(simp only[bs];omega))) (Fu (@Znl ((Tape.mk (List.take (Int.toNat 300) l) 0).empty) (((Tape.mk (List.take (Int.toNat 300) l) 0).step 4).step 5) aa aa oq oq) Fz)))))))
 ·have ht:TOk ⟨l,0⟩:=by simp[TOk];omega
  have e9:Z4R l=⟨l,0⟩:=by rw[Z4R,List.take_of_length_le oq]
  unfold Z13;rw[e9]at he h1 h2 ⊢;exact gF [] Tryz.func15 [] (Fl 6 idv l (Ffb 7 (decide (300<(↑l.length:Int))) (Fp 14 (@Zd8 (Tape.mk l 0) aa (by(simp only[bs];omega))) (Fu (@ZnT ((Tape.mk l 0).empty) (((Tape.mk l 0).step 4).step 5) aa aa oq oq) Fz))))
def RootOn(h:Heap)(r:Int):Prop:=(ofA h.C r).2.2=0→(h.P.getD (ofA h.C r).1.toNat default).K=1∨(h.P.getD (ofA h.C r).1.toNat default).K=2
theorem RootOn.mono{h h':Heap}{r:Int}(hr:RootOn h r)(hc:h'.C=h.C)(hk:∀ j:Nat,(h.P.getD j default).K≠0→(h'.P.getD j default).K=(h.P.getD j default).K):RootOn h' r:=by
 intro e;rw[hc]at e ⊢;have q:=hr e;rw[hk _ oq];exact q
def hdA(ws:List Int)(a:Int):Header:=(decodeH (loadA ws a).1).1
def okA(ws:List Int)(a:Int):Prop:=(decodeH (loadA ws a).1).2=true
def kdA(ws:List Int)(a:Int):Int:=(hdA ws a).K
def kpA(ws:List Int)(a:Int):Int:=if kdA ws a=0 then 1 else hlA ws a+1
def bsP(h:Heap)(i:Nat):Int:=4096+i*h.C.pw
def tile(ws:List Int):Int→Int→List Int→Prop
 | a,b,[]=>a=b
 | a,b,x::l=>x=a∧okA ws a∧tile ws (a+hlA ws a+1) b l
theorem Z3d(ws:List Int)(a:Int):sizeH (hdA ws a)=hlA ws a+1:=by
 unfold hdA;rw[sizeH,if_pos (Z2l _)];rfl
theorem ZdH{ws:List Int}:∀ {l:List Int} {a b:Int},tile ws a b l→a≤b
 | [],a,b,h=>by simp only[tile]at h;omega
 | x::l,a,b,h=>by
  have:=ZdH h.2.2;have:=Z0t ws a;omega
theorem Z2x{ws:List Int}{x:Int}:∀ {l:List Int} {a b:Int},tile ws a b l→x∈l→okA ws x∧a≤x∧x+hlA ws x<b
 | [],_,_,_,hx=>by simp at hx
 | y::l,a,b,h,hx=>by
  have hr:=Z0t ws a;rcases List.mem_cons.1 hx with rfl | hx
  ·have:=ZdH h.2.2;rw[h.1];exact⟨h.2.1,by omega,by omega⟩
  ·have:=Z2x h.2.2 hx;exact⟨this.1,by omega,this.2.2⟩
theorem ZbY{ws:List Int}{x y:Int}:∀ {l:List Int} {a b:Int},tile ws a b l→x∈l→y∈l→x<y→x+hlA ws x<y
 | [],_,_,_,hx,_,_=>by simp at hx
 | z::l,a,b,h,hx,hy,hxy=>by
  have hr:=Z0t ws a;have h1:=h.1;rcases List.mem_cons.1 hx with e | hx'
  ·rcases List.mem_cons.1 hy with e2 | hy'
   ·omega
   ·have:=(Z2x h.2.2 hy').2.1;rw[e,h1];omega
  ·rcases List.mem_cons.1 hy with e2 | hy'
   ·have:=(Z2x h.2.2 hx').2.1;omega
   ·exact ZbY h.2.2 hx' hy' hxy
theorem Zfd{ws:List Int}{m:List Int}{b c:Int}:∀ {l:List Int} {a:Int},tile ws a b l→tile ws b c m→tile ws a c (l++m)
 | [],a,h,h2=>by simp only[tile]at h;subst h;exact h2
 | _::_,_,h,h2=>⟨h.1,h.2.1,Zfd h.2.2 h2⟩
theorem Z5j{ws ws':List Int}:∀ {l:List Int} {a b:Int},tile ws a b l→(∀ x∈l,okA ws' x∧hlA ws' x=hlA ws x)→tile ws' a b l
 | [],_,_,h,_=>h
 | x::l,a,b,h,hh=>by
  have hx:=hh x pq;have h1:=h.1;subst h1;refine⟨rfl,hx.1, ?_⟩;rw[hx.2];exact Z5j h.2.2 fun y hy=>hh y (List.mem_cons_of_mem _ hy)
theorem Z5N{ws ws':List Int}{a:Int}(h:(loadA ws' a).1=(loadA ws a).1):(okA ws a→okA ws' a)∧hlA ws' a=hlA ws a∧kdA ws' a=kdA ws a∧hdA ws' a=hdA ws a∧kpA ws' a=kpA ws a:=by
 have e:hdA ws' a=hdA ws a:=by rw[hdA,hdA,h]
 have e2:hlA ws' a=hlA ws a:=by rw[hlA,hlA,h]
 have e3:kdA ws' a=kdA ws a:=by rw[kdA,kdA,e]
 exact⟨fun q=>by rw[okA,h];exact q,e2,e3,e,by rw[kpA,kpA,e2,e3]⟩
structure Gt (h:Heap) (T:Nat→List Int):Prop where
 p:Z02 h=true
 t1:∀ i,i<h.P.length→(h.P.getD i default).K=1→tile h.W (bsP h i) (bsP h i+(h.P.getD i default).U) (T i)
 t2:∀ i,i<h.P.length→(h.P.getD i default).K=2→T i=[bsP h i]∧okA h.W (bsP h i)∧hlA h.W (bsP h i)+1=(h.P.getD i default).U
 t0:∀ i x,x∈T i→i<h.P.length∧((h.P.getD i default).K=1∨(h.P.getD i default).K=2)
structure Gd (h:Heap) (T:Nat→List Int):Prop where
 p:Z02 h=true
 sp:∀ i,i<h.P.length→(h.P.getD i default).K≠0→(h.P.getD i default).S=h.S
 t1:∀ i,i<h.P.length→(h.P.getD i default).K=1→tile h.W (bsP h i) (bsP h i+(h.P.getD i default).U) (T i)∧∀ x∈T i,hlA h.W x+1≤Z00 h.C
 t2:∀ i,i<h.P.length→(h.P.getD i default).K=2→T i=[bsP h i]∧okA h.W (bsP h i)∧hlA h.W (bsP h i)+1=(h.P.getD i default).U∧kdA h.W (bsP h i)≠0
 t0:∀ i x,x∈T i→i<h.P.length∧((h.P.getD i default).K=1∨(h.P.getD i default).K=2)
 d:∀ a,(loadA h.W a).1≠0→∃ i x,x∈T i∧x≤a∧a<x+kpA h.W x
 q:∀ i x k,x∈T i→kdA h.W x≠0→0≤k→k<hlA h.W x→Z0d (hdA h.W x) k=true→(loadA h.W (x+1+k)).1=0∨∃ j,(loadA h.W (x+1+k)).1∈T j∧kdA h.W (loadA h.W (x+1+k)).1≠0
 cr:(crowd h.P:Int)≤h.C.pg/4
def Ob(h:Heap)(T:Nat→List Int)(x:Int):Prop:=∃ j,x∈T j∧kdA h.W x≠0
section
variable {h:Heap} {T:Nat→List Int} (g:Gt h T)
include g
theorem Gt.on{i:Nat}{x:Int}(hx:x∈T i):i<h.P.length∧((h.P.getD i default).K=1∨(h.P.getD i default).K=2)∧bsP h i≤x∧x<bsP h i+h.C.pw∧x+hlA h.W x<bsP h i+(h.P.getD i default).U∧okA h.W x∧((h.P.getD i default).K=2→x=bsP h i∧hlA h.W x+1=(h.P.getD i default).U):=by
 have t:=g.t0 i x hx;have po:=Z07 g.p;have pp:=Z0M g.p t.1;have hr:=Z0t h.W x;refine⟨t.1,t.2, ?_⟩;rcases t.2 with k | k
 ·have m:=Z2x (g.t1 i t.1 k) hx;exact⟨m.2.1,by omega,m.2.2,m.1,fun q=>by omega⟩
 ·have m:=g.t2 i t.1 k;rw[m.1]at hx;have hx:=List.mem_singleton.1 hx;subst hx;exact⟨by omega,by omega,by omega,m.2.1,fun _=>⟨rfl,m.2.2⟩⟩
theorem Gt.ofx{i:Nat}{x:Int}(hx:x∈T i):ofA h.C x=((i:Int),x-bsP h i,0):=by
 have o:=g.on hx;have po:=Z07 g.p;have:=ZfS (c:=h.C) (i:=i) (o:=x-bsP h i) po.1 oq oq;rw[← this];congr 1;unfold bsP;omega
theorem Gt.sep{i j:Nat}{x y:Int}(hx:x∈T i)(hy:y∈T j)(hxy:x<y):x+hlA h.W x<y:=by
 have o1:=g.on hx;have o2:=g.on hy;have r2:=Z0t h.W y;have r1:=Z0t h.W x;unfold bsP at o1 o2;rcases Nat.lt_trichotomy i j with q | q | q
 ·have:=Z5t g.p q o2.1 o1.2.1 oq;omega
 ·subst q;rcases o1.2.1 with k | k
  ·exact ZbY (g.t1 i o1.1 k) hx hy hxy
  ·have:=(o1.2.2.2.2.2.2 k).1;have:=(o2.2.2.2.2.2.2 k).1;omega
 ·have:=Z5t g.p q o1.1 o2.2.1 oq;omega
theorem Gt.free{i j:Nat}{x:Int}(hi:i<h.P.length)(hk:(h.P.getD i default).K=0∨(h.P.getD i default).K=1)(hx:x∈T j):x+hlA h.W x<bsP h i+occP (h.P.getD i default)∨bsP h i+h.C.pw≤x:=by
 have o:=g.on hx;have po:=Z07 g.p;have pp:=Z0M g.p hi;have hoc:0≤occP (h.P.getD i default):=by unfold occP;split<;>omega
 unfold bsP at o ⊢;rcases Nat.lt_trichotomy i j with q | q | q
 ·have:=Z1r (i:=i) (j:=j) (pw:=h.C.pw) oq oq;omega
 ·subst q;rw[occP,if_neg oq];omega
 ·have:=Z5t g.p q hi o.2.1 oq;omega
theorem Gt.at'{i:Nat}{x:Int}(hx:x∈T i):atH h x=(hdA h.W x,0):=by
 have o:=g.on hx;have r:=Z0t h.W x;have s:sizeH (decodeH (loadA h.W x).1).1=hlA h.W x+1:=Z3d h.W x;unfold atH;rw[if_pos g.p,g.ofx hx];simp only[Int.toNat_natCast,s,if_true];rw[if_pos ⟨o.2.1,by omega,o.2.2.2.2.2.1⟩,if_neg]
 ·rfl
 ·have:=o.2.2.2.2.2.2;omega
theorem ZcA{i:Nat}(hi:i<h.P.length)(hk:(h.P.getD i default).K=1):∀ (f:Nat) (o:Int) (l:List Int),tile h.W (bsP h i+o) (bsP h i+(h.P.getD i default).U) l→(∀ x∈l,x∈T i)→0≤o→(h.P.getD i default).U-o≤f→Z2t h i f o=some l
 | 0,o,[],ht,hm,h0,hf=>rfl
 | 0,o,x::l,ht,hm,h0,hf=>by
  have:=ZdH ht.2.2;have:=Z0t h.W (bsP h i+o);omega
 | f+1,o,[],ht,hm,h0,hf=>by
  simp only[tile]at ht;unfold Z2t;rw[if_neg];show ¬ o<(h.P.getD (i:Int).toNat default).U;rw[Int.toNat_natCast];omega
 | f+1,o,x::l,ht,hm,h0,hf=>by
  have hx:=hm x pq;have e:=ht.1;have on:=g.on hx;have po:=Z07 g.p;have hr:=Z0t h.W x;have hpg:pg h (i:Int)=h.P.getD i default:=by simp[pg]
  have ea:adr h i o=x:=by
   unfold adr address;rw[if_pos po.1,if_pos (inB_iff.2 ⟨by omega,by omega,h0,by omega⟩),e];unfold bsP;simp only;omega
  have t3:=ht.2.2;rw[← e]at t3;have ih:=ZcA hi hk f (o+(hlA h.W x+1)) l (by rw[show bsP h i+(o+(hlA h.W x+1))=x+hlA h.W x+1 by omega];exact t3) (fun y hy=>hm y (List.mem_cons_of_mem _ hy)) oq oq;unfold Z2t;rw[hpg,if_pos oq,ea,g.at' hx];simp only[if_true];rw[if_neg oq,Z3d,ih];rfl
theorem Gt.page{i:Nat}(hi:i<h.P.length):Z06 h i=(T i,0):=by
 have pp:=Z0M g.p hi;have hpg:pg h (i:Int)=h.P.getD i default:=by simp[pg]
 unfold Z06;rw[if_pos g.p,if_pos oq,hpg];by_cases hk:(h.P.getD i default).K=0∨(h.P.getD i default).K=3
 ·rw[if_pos hk];have:T i=[]:=List.eq_nil_iff_forall_not_mem.2 fun x hx=>by have:=(g.t0 i x hx).2;omega
  rw[this]
 ·rw[if_neg hk];by_cases h1:(h.P.getD i default).K=1
  ·have:=ZcA g hi h1 256 0 (T i) (by rw[Int.add_zero];exact(g.t1 i hi h1)) (fun _ q=>q) oq oq;rw[this]
  ·have h2:(h.P.getD i default).K=2:=by omega
   have t:=g.t2 i hi h2;have hx:bsP h i∈T i:=by rw[t.1];simp
   have on:=g.on hx;have po:=Z07 g.p;have hr:=Z0t h.W (bsP h i);have ea:adr h i 0=bsP h i:=by
    unfold adr address;rw[if_pos po.1,if_pos (inB_iff.2 ⟨by omega,by omega,by omega,by omega⟩)];unfold bsP;simp
   have:Z2t h i 256 0=some (T i):=by
    unfold Z2t;rw[hpg,if_pos oq,ea,g.at' hx];simp only[if_true];rw[if_pos h2,t.1]
   rw[this]
theorem Gt.starts:∀ (f i:Nat),i+f=h.P.length→(Z0I h f i).2=0∧∀ x,x∈(Z0I h f i).1↔∃ j,i≤j∧x∈T j
 | 0,i,hf=>by
  refine⟨rfl,fun x=>⟨fun hx=>by simp[Z0I]at hx, ?_⟩⟩;rintro⟨j,hj,hx⟩;have:=(g.t0 j x hx).1;omega
 | f+1,i,hf=>by
  obtain⟨i1,i2⟩:=Gt.starts f (i+1) oq;unfold Z0I;rw[g.page (show i<h.P.length by omega)];simp only[i1,if_true];refine⟨trivial,fun x=>?_⟩;rw[List.mem_append,i2];constructor
  ·rintro(hx | ⟨j,hj,hx⟩)
   ·exact⟨i,Nat.le_refl _,hx⟩
   ·exact⟨j,by omega,hx⟩
  ·rintro⟨j,hj,hx⟩;by_cases q:j=i
   ·subst q;exact Or.inl hx
   ·exact Or.inr ⟨j,by omega,hx⟩
theorem Gt.objs:(Z03 h).2=0∧∀ x,x∈(Z03 h).1↔Ob h T x:=by
 have s:=g.starts h.P.length 0 oq;have e:Z0w h=Z0I h h.P.length 0:=by rw[Z0w,if_pos g.p]
 unfold Z03;rw[e];refine⟨s.1,fun x=>?_⟩;rw[List.mem_filter,s.2];constructor
 ·rintro⟨⟨j,_,hj⟩,hb⟩;have hb':(atH h x).1.K≠0:=of_decide_eq_true hb;rw[g.at' hj]at hb';exact⟨j,hj,hb'⟩
 ·rintro⟨j,hj,hb⟩;refine⟨⟨j,by omega,hj⟩,decide_eq_true ?_⟩;rw[g.at' hj];exact hb
end
section
variable {h:Heap} {T:Nat→List Int} (g:Gd h T)
include g
theorem Gd.gt:Gt h T:=⟨g.p,fun i hi hk=>(g.t1 i hi hk).1,fun i hi hk=>⟨(g.t2 i hi hk).1,(g.t2 i hi hk).2.1,(g.t2 i hi hk).2.2.1⟩,g.t0⟩
theorem Gd.on{i:Nat}{x:Int}(hx:x∈T i):i<h.P.length∧((h.P.getD i default).K=1∨(h.P.getD i default).K=2)∧bsP h i≤x∧x<bsP h i+h.C.pw∧x+hlA h.W x<bsP h i+(h.P.getD i default).U∧okA h.W x∧((h.P.getD i default).K=2→x=bsP h i∧hlA h.W x+1=(h.P.getD i default).U):=g.gt.on hx
theorem Gd.ofx{i:Nat}{x:Int}(hx:x∈T i):ofA h.C x=((i:Int),x-bsP h i,0):=g.gt.ofx hx
theorem Gd.sep{i j:Nat}{x y:Int}(hx:x∈T i)(hy:y∈T j)(hxy:x<y):x+hlA h.W x<y:=g.gt.sep hx hy hxy
theorem Gd.free{i j:Nat}{x:Int}(hi:i<h.P.length)(hk:(h.P.getD i default).K=0∨(h.P.getD i default).K=1)(hx:x∈T j):x+hlA h.W x<bsP h i+occP (h.P.getD i default)∨bsP h i+h.C.pw≤x:=g.gt.free hi hk hx
theorem Gd.at'{i:Nat}{x:Int}(hx:x∈T i):atH h x=(hdA h.W x,0):=g.gt.at' hx
theorem Gd.page{i:Nat}(hi:i<h.P.length):Z06 h i=(T i,0):=g.gt.page hi
theorem Gd.objs:(Z03 h).2=0∧∀ x,x∈(Z03 h).1↔Ob h T x:=g.gt.objs
end
theorem Zjv{l:List Page}:∀ {i j:Nat},j≤i→(l.getD j default).K≠3→(∀ m,j<m→m≤i→(l.getD m default).K=3)→Z0v l i=j
 | 0,j,h,_,_=>by simp[Z0v];omega
 | i+1,j,h,hk,hm=>by
  unfold Z0v;by_cases q:j=i+1
  ·subst q;rw[if_neg hk]
  ·rw[if_pos (hm (i+1) oq (Nat.le_refl _))];exact Zjv oq hk fun m h1 h2=>hm m h1 oq
theorem ZlQ{ws:List Int}{a n:Int}{k:Nat}(hn:0≤n)(ha:4096≤a∧a-4096+n≤ws.length)(hk:(k:Int)<n):(Z1j ws a n).1.getD k default=(loadA ws (a+k)).1:=by
 unfold Z1j loadA;rw[if_neg oq,if_pos ha,if_pos oq];simp only[List.getD_eq_getElem?_getD];rw[List.getElem?_take_of_lt oq,List.getElem?_drop,show(a-4096).toNat+k=(a+k-4096).toNat by omega];rfl
section
variable {h:Heap} {T:Nat→List Int} (g:Gd h T)
include g
theorem Gd.inw{i:Nat}{x:Int}(hx:x∈T i):4096≤x∧x+hlA h.W x<4096+h.W.length:=by
 have o:=g.on hx;have po:=Z07 g.p;have u:=Z7W g.p o.1 o.2.1;have h0:0≤(i:Int)*h.C.pw:=Int.mul_nonneg oq oq;unfold bsP at o;omega
theorem Gd.head{i j:Nat}{x a:Int}(hx:x∈T j)(h1:x≤a)(h2:a≤x+hlA h.W x)(hi:i<h.P.length)(h3:bsP h i≤a)(h4:a<bsP h i+h.C.pw):Z0v h.P i=j:=by
 have o:=g.on hx;have po:=Z07 g.p;unfold bsP at o h3 h4;have hji:j≤i:=by
  by_cases q:j≤i
  ·exact q
  ·have:=Z1r (i:=i) (j:=j) (pw:=h.C.pw) oq oq;omega
 refine Zjv hji oq fun m m1 m2=>?_;have hms:=Z1r (i:=j) (j:=m) (pw:=h.C.pw) oq oq;have hmi:(m:Int)*h.C.pw≤i*h.C.pw:=Int.mul_le_mul_of_nonneg_right oq oq;rcases o.2.1 with k | k
 ·have pp:=Z0M g.p o.1;omega
 ·by_cases q:(h.P.getD m default).K=3
  ·exact q
  ·have:=Z5t g.p m1 oq (Or.inr k) q;omega
theorem Gd.badd{i k:Nat}(hi:i<h.P.length)(hk:(k:Int)<h.C.pw):badD h i (Z1O h i) k=false:=by
 have po:=Z07 g.p;unfold badD;have ew:Z3u h i k=(loadA h.W (bsP h i+k)).1:=by
  unfold Z3u address;rw[if_pos po.1,if_pos (inB_iff.2 ⟨by omega,by omega,by omega,by omega⟩)];unfold bsP;simp only;rw[Int.add_assoc]
 rw[ew];by_cases h0:(loadA h.W (bsP h i+k)).1=0
 ·rw[h0];simp
 ·obtain⟨j,x,hx,h1,h2⟩:=g.d _ h0;have hr:=Z0t h.W x;have hkp:kpA h.W x≤hlA h.W x+1:=by unfold kpA;split<;>omega
  have hh:=g.head hx h1 oq hi oq oq;have hb:(Z1O h i).getD k default=true:=by
   unfold Z1O Z1A;rw[hh,g.page (g.on hx).1];have hkk:k<h.C.pw.toNat:=by omega
   simp only[List.getD_eq_getElem?_getD,List.getElem?_map,List.getElem?_range hkk,Option.map_some,Option.getD_some,List.any_eq_true];refine⟨x,hx, ?_⟩;unfold Z7f;have ek:Z3A h x=kpA h.W x:=by
    unfold Z3A kpA;rw[g.at' hx];rw[Z3d];rfl
   rw[ek,Bool.and_eq_true,decide_eq_true_eq,decide_eq_true_eq];unfold bsP at h1 h2;omega
  rw[hb];simp
theorem Gd.dirt{i:Nat}(hi:i<h.P.length):Z2u h i (Z1O h i)=0:=by
 have hl:=Z58 h i;unfold Z2u;have:(List.range (Z1O h i).length).find? (badD h i (Z1O h i))=none:=by
  rw[List.find?_eq_none];intro k hk;have hk:=List.mem_range.1 hk;rw[g.badd hi oq];simp
 rw[this]
theorem Gd.cls{i:Nat}{x:Int}(hx:x∈T i):Z1d h i x=false:=by
 have o:=g.on hx;unfold Z1d;rw[g.at' hx,Z3d,Int.toNat_natCast];rcases o.2.1 with k | k
 ·have:=(g.t1 i o.1 k).2 x hx;rw[k];simp;omega
 ·have t:=g.t2 i o.1 k;have hx2:=(o.2.2.2.2.2.2 k).1;have:(hdA h.W x).K≠0:=by rw[hx2];exact t.2.2.2
  rw[k];simp;exact this
theorem Gd.pageF{i:Nat}(hi:i<h.P.length):(pageF h i).fault=0:=by
 have hs:=g.sp i hi;have hc:Z11 h i (T i)=0:=by
  unfold Z11;have:(T i).find? (Z1d h i)=none:=by
   rw[List.find?_eq_none];intro x hx;rw[g.cls hx];simp
  rw[this];rfl
 unfold Go.Proofs.YtdhchmlalchgeaaGreat.pageF;rw[if_neg (by rintro⟨q1,q2⟩;exact q2 (hs q1)),g.page hi,if_neg pq,if_neg (by rw[hc];simp),if_neg (by rw[g.dirt hi];simp)]
end
theorem ZgL{w:Work}{n:Int}(hw:WkOk w)(hn:1≤n∧n≤w.heap.C.pw)(h:(w.place n).2.2=true) :
  ∃ (i:Nat) (p:Page) (t:List Int),i<w.heap.P.length∧((w.heap.P.getD i default).K=0∧t=w.T++[(i:Int)]∧p.N=0∨(i:Int)∈w.T∧(w.heap.P.getD i default).K=1∧t=w.T∧p.N=(w.heap.P.getD i default).N)∧p.K=1∧p.U=occP (w.heap.P.getD i default)+n∧occP (w.heap.P.getD i default)+n≤w.heap.C.pw∧0≤occP (w.heap.P.getD i default)∧(w.place n).2.1=4096+i*w.heap.C.pw+occP (w.heap.P.getD i default) ∧
  (w.place n).1=⟨⟨w.heap.C,w.heap.W,w.heap.P.set i p,w.heap.S,w.heap.B⟩,w.old,t,w.Q,w.D,w.rep⟩:=by
 by_cases hf:Z2O w n
 ·have e:w.place n=(⟨⟨w.heap.C,w.heap.W,Z1P w.heap.P (Z0s w).toNat n,w.heap.S,w.heap.B⟩,w.old,w.T,w.Q,w.D,w.rep⟩,4096+Z0s w*w.heap.C.pw+(w.heap.P.getD (Z0s w).toNat default).U,true):=by rw[Work.place,if_pos hf]
  unfold Z2O at hf;have hm:=hw.tk _ (Z1k hf.1);have hu:=hw.us (Z0s w).toNat oq
  have hoc:occP (w.heap.P.getD (Z0s w).toNat default)=(w.heap.P.getD (Z0s w).toNat default).U:=by rw[occP,if_neg oq]
  have hle:(((Z0s w).toNat:Nat):Int)=Z0s w:=by omega
  refine⟨(Z0s w).toNat,⟨(w.heap.P.getD (Z0s w).toNat default).K,(w.heap.P.getD (Z0s w).toNat default).S,(w.heap.P.getD (Z0s w).toNat default).U+n,(w.heap.P.getD (Z0s w).toNat default).N⟩,w.T,by omega,Or.inr ⟨by rw[hle];exact Z1k hf.1,hm.2.2,rfl,rfl⟩,hm.2.2, ?_,by rw[hoc];omega,by rw[hoc];omega, ?_, ?_⟩
  ·rw[hoc]
  ·rw[e,hoc,hle]
  ·rw[e,Z6G]
 ·by_cases hg:0≤Z0e w
  ·have e:w.place n=(⟨⟨w.heap.C,w.heap.W,Z1P (Z20 w) (Z0e w).toNat n,w.heap.S,w.heap.B⟩,w.old,w.T++[Z0e w],w.Q,w.D,w.rep⟩,4096+Z0e w*w.heap.C.pw,true):=by rw[Work.place,if_neg hf,if_pos hg]
   obtain⟨g1,g2,g3⟩:=Z5v (h:=⟨w.heap.C,w.heap.W,w.heap.P,1-w.heap.S,w.heap.B⟩) (by have:=hw.sp;simp only;omega) hg n;have g1':Z1P (Z20 w) (Z0e w).toNat n=w.heap.P.set (Z0e w).toNat ⟨1,1-w.heap.S,n,0⟩:=g1;have g2':(w.heap.P.getD (Z0e w).toNat default).K=0:=g2;have g3':(Z0e w).toNat<w.heap.P.length:=g3;have hoc:occP (w.heap.P.getD (Z0e w).toNat default)=0:=by rw[occP,if_pos g2']
   have hle:(((Z0e w).toNat:Nat):Int)=Z0e w:=by omega
   refine⟨(Z0e w).toNat,⟨1,1-w.heap.S,n,0⟩,w.T++[Z0e w],g3',Or.inl ⟨g2',by rw[hle],rfl⟩,rfl,by rw[hoc];simp,by rw[hoc];omega,by rw[hoc];omega, ?_, ?_⟩
   ·rw[e,hoc,hle];simp
   ·rw[e,g1']
  ·rw[Work.place,if_neg hf,if_neg hg]at h;simp at h
structure KI (h:Heap) (T tq:Nat→List Int) (w:Work):Prop where
 c:w.heap.C=h.C
 sp:w.heap.S=h.S
 old:∀ x,x∈w.old↔Ob h T x
 pl:w.heap.P.length=h.P.length
 wl:w.heap.W.length=h.W.length
 pg:∀ i:Nat,(i:Int)∉w.T→(w.heap.P.getD i default).K=(h.P.getD i default).K∧(w.heap.P.getD i default).U=(h.P.getD i default).U∧(w.heap.P.getD i default).N=(h.P.getD i default).N
 tk:∀ i:Nat,(i:Int)∈w.T→i<h.P.length∧(h.P.getD i default).K=0∧(w.heap.P.getD i default).K=1∧(w.heap.P.getD i default).N=0∧(w.heap.P.getD i default).U≤h.C.pw∧tile w.heap.W (bsP h i) (bsP h i+(w.heap.P.getD i default).U) (tq i)∧∀ x∈tq i,x∈w.Q∧kdA w.heap.W x≠0∧hlA w.heap.W x+1≤Z00 h.C
 tk0:∀ i:Nat,(i:Int)∉w.T→tq i=[]
 q:∀ x∈w.Q,(∃ i:Nat,(i:Int)∉w.T∧x∈T i∧kdA h.W x≠0∧(w.heap.P.getD i default).S≠w.heap.S)∨(∃ i:Nat,(i:Int)∈w.T∧x∈tq i)
 hd:∀ i x,x∈T i→(loadA w.heap.W x).1=(loadA h.W x).1∨((Z0a (loadA w.heap.W x).1).2=true∧(w.heap.P.getD i default).K=1∧(w.heap.P.getD i default).S=w.heap.S)
 dt:∀ a,(loadA w.heap.W a).1≠0→(∃ i x,x∈T i∧x≤a∧a<x+kpA h.W x)∨(∃ i:Nat,(i:Int)∈w.T∧bsP h i≤a∧a<bsP h i+(w.heap.P.getD i default).U)
 lg:∀ i:Nat,(h.P.getD i default).K=2→(w.heap.P.getD i default).S≠w.heap.S→bsP h i∈w.Q
section
variable {h:Heap} {T:Nat→List Int} (g:Gd h T)
include g
theorem KI.nt{tq:Nat→List Int}{w:Work}(k:KI h T tq w){i:Nat}{x:Int}(hx:x∈T i):(i:Int)∉w.T:=by
 intro q;have:=(k.tk i q).2.1;have:=(g.t0 i x hx).2;omega
theorem KI.sepT{tq:Nat→List Int}{w:Work}(k:KI h T tq w){i j:Nat}{x y:Int}(hi:(i:Int)∈w.T)(hx:x∈tq i)(hy:y∈T j):bsP h i≤x∧x+hlA w.heap.W x<bsP h i+h.C.pw∧(y+hlA h.W y<bsP h i∨bsP h i+h.C.pw≤y):=by
 have t:=k.tk i hi;have m:=Z2x t.2.2.2.2.2.1 hx;have f:=g.free t.1 (Or.inl t.2.1) hy;rw[occP,if_pos t.2.1]at f;exact⟨m.2.1,by omega,by omega⟩
omit g in
theorem KI.sepQ(g:Gd h T){tq:Nat→List Int}{w:Work}(k:KI h T tq w){i j:Nat}{x y:Int}(hi:(i:Int)∈w.T)(hx:x∈tq i)(hj:(j:Int)∈w.T)(hy:y∈tq j)(hxy:x<y):x+hlA w.heap.W x<y:=by
 have t:=k.tk i hi;have u:=k.tk j hj;have m:=Z2x t.2.2.2.2.2.1 hx;have n:=Z2x u.2.2.2.2.2.1 hy;have po:=Z07 g.p;have r:=Z0t w.heap.W y;unfold bsP at m n;rcases Nat.lt_trichotomy i j with q | q | q
 ·have:=Z1r (i:=i) (j:=j) (pw:=h.C.pw) oq oq;omega
 ·subst q;exact ZbY t.2.2.2.2.2.1 hx hy hxy
 ·have:=Z1r (i:=j) (j:=i) (pw:=h.C.pw) oq oq;omega
theorem KI.withWords{tq:Nat→List Int}{w:Work}(k:KI h T tq w){l:List Int}(hl:l.length=w.heap.W.length)(h1:∀ i x,x∈T i→(loadA l x).1=(loadA w.heap.W x).1)(h2:∀ (i:Nat) x,(i:Int)∈w.T→x∈tq i→(loadA l x).1=(loadA w.heap.W x).1)
  (h3:∀ a,(loadA l a).1≠0→(loadA w.heap.W a).1≠0∨(∃ i x,x∈T i∧x≤a∧a<x+kpA h.W x)∨(∃ i:Nat,(i:Int)∈w.T∧bsP h i≤a∧a<bsP h i+(w.heap.P.getD i default).U)) :
  KI h T tq ⟨⟨w.heap.C,l,w.heap.P,w.heap.S,w.heap.B⟩,w.old,w.T,w.Q,w.D,w.rep⟩:=by
 refine⟨k.c,k.sp,k.old,k.pl,hl.trans k.wl,k.pg, ?_,k.tk0,k.q, ?_, ?_,k.lg⟩
 ·intro i hi;obtain⟨t1,t2,t3,t4,t5,t6,t7⟩:=k.tk i hi;have ky:=fun x hx=>Z5N (h2 i x hi hx);refine⟨t1,t2,t3,t4,t5,Z5j t6 fun x hx=>⟨(ky x hx).1 (Z2x t6 hx).1,(ky x hx).2.1⟩,fun x hx=>?_⟩;have:=t7 x hx;simp only;rw[(ky x hx).2.2.1,(ky x hx).2.1];exact this
 ·intro i x hx;simp only;rw[h1 i x hx];exact k.hd i x hx
 ·intro a ha;rcases h3 a ha with q | q
  ·exact k.dt a q
  ·exact q
theorem KI.keep{tq:Nat→List Int}{w:Work}(k:KI h T tq w){r:Int}{i:Nat}(hi:r∈T i)(hk:kdA h.W r≠0)(hs:(w.heap.P.getD i default).S≠w.heap.S):KI h T tq (w.keep r):=by
 refine⟨k.c,k.sp,k.old,k.pl,k.wl,k.pg, ?_,k.tk0, ?_,k.hd,k.dt, ?_⟩
 ·intro j hj;obtain⟨t1,t2,t3,t4,t5,t6,t7⟩:=k.tk j hj;exact⟨t1,t2,t3,t4,t5,t6,fun x hx=>⟨List.mem_append_left _ (t7 x hx).1,(t7 x hx).2⟩⟩
 ·intro x hx;simp only[Work.keep,List.mem_append,List.mem_singleton]at hx;rcases hx with hx | rfl
  ·exact k.q x hx
  ·exact Or.inl ⟨i,k.nt g hi,hi,hk,hs⟩
 ·intro j h1 h2;exact List.mem_append_left _ (k.lg j h1 h2)
theorem KI.flip{tq:Nat→List Int}{w:Work}(k:KI h T tq w)(hw:WkOk w){r:Int}{i:Nat}(hi:r∈T i)(hk:kdA h.W r≠0)(h2:(w.heap.P.getD i default).K=2):KI h T tq ((w.flip i).keep r):=by
 have hil:=(g.t0 i r hi).1;have hpl:=k.pl;have hsp:=hw.sp;have hu:∀ j,((Z0l w.heap.P i (Z0h w.heap.P i) (1-w.heap.S)).getD j default).K=(w.heap.P.getD j default).K∧((Z0l w.heap.P i (Z0h w.heap.P i) (1-w.heap.S)).getD j default).U=(w.heap.P.getD j default).U∧((Z0l w.heap.P i (Z0h w.heap.P i) (1-w.heap.S)).getD j default).N=(w.heap.P.getD j default).N:=by
  intro j;by_cases hj:j<w.heap.P.length
  ·rw[Z1H hj];split
   ·exact⟨rfl,rfl,rfl⟩
   ·exact⟨rfl,rfl,rfl⟩
  ·rw[List.getD_eq_getElem?_getD,List.getD_eq_getElem?_getD,List.getElem?_eq_none (by rw[Z1l];omega),List.getElem?_eq_none oq];exact⟨rfl,rfl,rfl⟩
 have hs1:∀ j,(w.heap.P.getD j default).K=1→((Z0l w.heap.P i (Z0h w.heap.P i) (1-w.heap.S)).getD j default).S=(w.heap.P.getD j default).S:=by
  intro j hj;by_cases hjl:j<w.heap.P.length
  ·rw[Z1H hjl];split
   ·rename_i c;exfalso;by_cases q:j=i
    ·subst q;omega
    ·have:=(Z7i (l:=w.heap.P) (i:=i) (m:=j-i-1) oq).2;rw[show i+1+(j-i-1)=j by omega]at this;omega
   ·rfl
  ·rw[List.getD_eq_getElem?_getD,List.getD_eq_getElem?_getD,List.getElem?_eq_none (by rw[Z1l];omega),List.getElem?_eq_none oq]
 have hs2:∀ j,(w.heap.P.getD j default).S≠w.heap.S→((Z0l w.heap.P i (Z0h w.heap.P i) (1-w.heap.S)).getD j default).S≠w.heap.S:=by
  intro j hj;by_cases hjl:j<w.heap.P.length
  ·rw[Z1H hjl];split
   ·simp only[Z99];omega
   ·exact hj
  ·rw[List.getD_eq_getElem?_getD,List.getElem?_eq_none (by rw[Z1l];omega)];rw[List.getD_eq_getElem?_getD,List.getElem?_eq_none oq]at hj;exact hj
 have hs3:∀ j,(w.heap.P.getD j default).K=2→j≠i→((Z0l w.heap.P i (Z0h w.heap.P i) (1-w.heap.S)).getD j default).S=(w.heap.P.getD j default).S:=by
  intro j hj hne;by_cases hjl:j<w.heap.P.length
  ·rw[Z1H hjl];split
   ·rename_i c;exfalso;have:=(Z7i (l:=w.heap.P) (i:=i) (m:=j-i-1) oq).2;rw[show i+1+(j-i-1)=j by omega]at this;omega
   ·rfl
  ·rw[List.getD_eq_getElem?_getD,List.getElem?_eq_none oq]at hj;have d:(default:Page).K=0:=rfl;simp only[Option.getD_none]at hj;omega
 have hsi:((Z0l w.heap.P i (Z0h w.heap.P i) (1-w.heap.S)).getD i default).S≠w.heap.S:=by
  rw[Z1H oq,if_pos ⟨Nat.le_refl _,Nat.le_add_right _ _⟩];simp only[Z99];omega
 have kf:KI h T tq ⟨⟨w.heap.C,w.heap.W,Z0l w.heap.P i (Z0h w.heap.P i) (1-w.heap.S),w.heap.S,w.heap.B⟩,w.old,w.T,w.Q++[r],w.D,w.rep⟩:=by
  refine⟨k.c,k.sp,k.old,by simp only[Z1l];exact k.pl,k.wl, ?_, ?_,k.tk0, ?_, ?_, ?_, ?_⟩
  ·intro j hj;simp only[hu];exact k.pg j hj
  ·intro j hj;simp only[hu];obtain⟨t1,t2,t3,t4,t5,t6,t7⟩:=k.tk j hj;exact⟨t1,t2,t3,t4,t5,t6,fun x hx=>⟨List.mem_append_left _ (t7 x hx).1,(t7 x hx).2⟩⟩
  ·intro x hx;simp only[List.mem_append,List.mem_singleton]at hx;rcases hx with hx | rfl
   ·rcases k.q x hx with⟨j,j1,j2,j3,j4⟩ | q
    ·exact Or.inl ⟨j,j1,j2,j3,hs2 j j4⟩
    ·exact Or.inr q
   ·exact Or.inl ⟨i,k.nt g hi,hi,hk,hsi⟩
  ·intro j x hx;rcases k.hd j x hx with q | q
   ·exact Or.inl q
   ·refine Or.inr ⟨q.1, ?_, ?_⟩
    ·simp only[hu];exact q.2.1
    ·simp only;rw[hs1 j q.2.1];exact q.2.2
  ·intro a ha;simp only[hu];exact k.dt a ha
  ·intro j h1 h2';simp only at h2' ⊢;by_cases q:j=i
   ·subst q;have:=(g.on hi).2.2.2.2.2.2 h1;rw[← this.1];simp
   ·have hjt:(j:Int)∉w.T:=fun q=>by have:=(k.tk j q).2.1;omega
    rw[hs3 j (by rw[(k.pg j hjt).1];exact h1) q]at h2';exact List.mem_append_left _ (k.lg j h1 h2')
 exact⟨kf.c,kf.sp,kf.old,kf.pl,kf.wl,kf.pg,kf.tk,kf.tk0,kf.q,kf.hd,kf.dt,kf.lg⟩
end
section
variable {h:Heap} {T:Nat→List Int} (g:Gd h T)
include g
theorem KI.copy{tq:Nat→List Int}{w:Work}(k:KI h T tq w)(hw:WkOk w){r n:Int}{i0:Nat}(hr:r∈T i0)(hkd:kdA h.W r≠0)(h1:(h.P.getD i0 default).K=1)(hs:(w.heap.P.getD i0 default).S=w.heap.S)(he:(loadA w.heap.W r).1=(loadA h.W r).1)
  (hn:n=hlA w.heap.W r+1) (hp:n≤w.heap.C.pw) (hc:(w.place n).2.2=true):∃ tq',KI h T tq' ((w.place n).1.copy r (w.place n).2.1 n):=by
 have hlr:=Z0t w.heap.W r;have ey:=Z5N he;obtain⟨i,p,t,p1,p2,p3,p4,p5,p6,p7,e⟩:=ZgL hw ⟨by omega,hp⟩ hc;have hcc:=k.c;have hpl:=k.pl;have hwl:=k.wl;have po:=Z07 g.p;have hin:=g.inw hr;have hki:(h.P.getD i default).K=0:=by
  rcases p2 with q | q
  ·by_cases c:(i:Int)∈w.T
   ·exact(k.tk i c).2.1
   ·rw[← (k.pg i c).1];exact q.1
  ·exact(k.tk i q.1).2.1
 have hio:=Z1r (i:=i) (j:=h.C.pg) (pw:=h.C.pw) oq oq;rw[Int.mul_comm h.C.pg]at hio;have hi0:0≤(i:Int)*h.C.pw:=Int.mul_nonneg oq oq;rw[hcc]at p5 p7 hp;have hbp:4096+(i:Int)*h.C.pw=bsP h i:=rfl;rw[e,p7,hbp];generalize hu:occP (w.heap.P.getD i default)=u at *;generalize ha:bsP h i+u=a;have hbl:4096≤a∧a+n≤4096+w.heap.W.length:=by omega
 have far:∀ j x,x∈T j→x+hlA h.W x<bsP h i∨bsP h i+h.C.pw≤x:=by
  intro j x hx;have:=g.free (show i<h.P.length by omega) (Or.inl hki) hx;rw[occP,if_pos hki]at this;omega
 have farr:=far i0 r hr;obtain⟨m1,m2,m3⟩:=Ze5 (ws:=w.heap.W) (a:=a) (b:=r) (n:=n) oq oq oq;have hsr:4096≤r∧r<4096+(moveA w.heap.W a r n).1.length:=by omega
 have w1:∀ x,x≠r→(x<a∨a+n≤x)→loadA (Z10 (moveA w.heap.W a r n).1 r (4*a+2)).1 x=loadA w.heap.W x:=fun x q1 q2=>by rw[Z2h hsr q1,m3 x q2]
 have w2:(loadA (Z10 (moveA w.heap.W a r n).1 r (4*a+2)).1 r).1=4*a+2:=by rw[Z6L hsr]
 have w3:(loadA (Z10 (moveA w.heap.W a r n).1 r (4*a+2)).1 a).1=(loadA w.heap.W r).1:=by rw[Z2h hsr oq,m2]
 have hlen:(Z10 (moveA w.heap.W a r n).1 r (4*a+2)).1.length=w.heap.W.length:=by rw[Z3J hsr,m1]
 have hit:(i:Int)∈t:=by rcases p2 with q | q;(rw[q.2.1];simp);(rw[q.2.2.1];exact q.1)
 have htt:∀ x,x∈t↔x∈w.T∨x=(i:Int):=by
  intro x;rcases p2 with q | q
  ·rw[q.2.1];simp
  ·rw[q.2.2.1];exact⟨Or.inl,fun c=>c.elim id fun c=>c▸q.1⟩
 have w4:∀ (j:Nat) x,(j:Int)∈w.T→x∈tq j→x≠r∧(x<a∨a+n≤x)∧(j=i→x+hlA w.heap.W x<a):=by
  intro j x hj hx;have s:=k.sepT g hj hx hr;have rx:=Z0t w.heap.W x;have t:=k.tk j hj;have m:=Z2x t.2.2.2.2.2.1 hx;refine⟨by omega, ?_⟩;rcases Nat.lt_trichotomy j i with q | q | q
  ·have:=Z1r (i:=j) (j:=i) (pw:=h.C.pw) oq oq;unfold bsP at s;rw[← hbp]at ha;exact⟨Or.inl oq,fun q2=>by omega⟩
  ·subst q;have:u=(w.heap.P.getD j default).U:=by rw[← hu,occP,if_neg oq]
   exact⟨Or.inl oq,fun _=>by omega⟩
  ·have:=Z1r (i:=i) (j:=j) (pw:=h.C.pw) oq oq;unfold bsP at s;rw[← hbp]at ha;exact⟨Or.inr oq,fun q2=>by omega⟩
 have kq:∀ (j:Nat) x,(j:Int)∈w.T→x∈tq j→(loadA (Z10 (moveA w.heap.W a r n).1 r (4*a+2)).1 x).1=(loadA w.heap.W x).1:=fun j x hj hx=>by
  have:=w4 j x hj hx;rw[w1 x this.1 this.2.1]
 refine⟨fun j=>if j=i then tq i++[a]else tq j,k.c,k.sp,k.old, ?_, ?_, ?_, ?_, ?_, ?_, ?_, ?_, ?_⟩
 ·simp only[Work.copy,List.length_set];exact k.pl
 ·simp only[Work.copy,hlen];exact k.wl
 ·intro j hj;simp only[Work.copy]at hj ⊢;have hj':=fun q=>hj ((htt _).2 (Or.inl q));have hne:¬ i=j:=fun q=>hj (q▸hit);rw[Z1a p1,if_neg hne];exact k.pg j hj'
 ·intro j hj;simp only[Work.copy]at hj ⊢;rw[Z1a p1];by_cases q:i=j
  ·subst q;rw[if_pos rfl];simp only[if_true];have ka:=Z5N (ws:=w.heap.W) (ws':=(Z10 (moveA w.heap.W a r n).1 r (4*a+2)).1) (a:=a);have ke:hdA (Z10 (moveA w.heap.W a r n).1 r (4*a+2)).1 a=hdA h.W r:=by rw[hdA,hdA,w3,he]
   have kl:hlA (Z10 (moveA w.heap.W a r n).1 r (4*a+2)).1 a=n-1:=by
    have:hlA (Z10 (moveA w.heap.W a r n).1 r (4*a+2)).1 a=hlA w.heap.W r:=by rw[hlA,hlA,w3]
    omega
   have kk:okA (Z10 (moveA w.heap.W a r n).1 r (4*a+2)).1 a:=by
    have:=(g.on hr).2.2.2.2.2.1;rw[okA]at this ⊢;rw[w3,he];exact this
   refine⟨by omega,hki,p3, ?_,by omega, ?_, ?_⟩
   ·rcases p2 with q | q
    ·exact q.2.2
    ·rw[q.2.2.2];exact(k.tk i q.1).2.2.2.1
   ·refine Zfd (b:=a) ?_ ⟨rfl,kk,by rw[kl];simp only[tile];omega⟩;by_cases c:(i:Int)∈w.T
    ·have t:=k.tk i c;have hue:u=(w.heap.P.getD i default).U:=by rw[← hu,occP,if_neg oq]
     have t6:=t.2.2.2.2.2.1;rw[← hue,ha]at t6;exact Z5j t6 fun x hx=>⟨(Z5N (kq i x c hx)).1 (Z2x t6 hx).1,(Z5N (kq i x c hx)).2.1⟩
    ·rw[k.tk0 i c];have hue:u=0:=by
      rcases p2 with q | q
      ·rw[← hu,occP,if_pos q.1]
      ·exact absurd q.1 c
     simp only[tile];omega
   ·intro x hx;rcases List.mem_append.1 hx with hx | hx
    ·by_cases c:(i:Int)∈w.T
     ·have t:=(k.tk i c).2.2.2.2.2.2 x hx;have o:=Z5N (kq i x c hx);rw[o.2.2.1,o.2.1];exact⟨List.mem_append_left _ t.1,t.2⟩
     ·rw[k.tk0 i c]at hx;simp at hx
    ·have:=List.mem_singleton.1 hx;subst this;refine⟨by simp,by rw[kdA,ke];exact hkd, ?_⟩;have:=(g.t1 i0 (g.t0 i0 r hr).1 h1).2 r hr;rw[kl];have:=ey.2.1;omega
  ·rw[if_neg q];have hj':(j:Int)∈w.T:=by
    rcases(htt _).1 hj with c | c
    ·exact c
    ·omega
   obtain⟨t1,t2,t3,t4,t5,t6,t7⟩:=k.tk j hj';simp only[show ¬ j=i from fun c=>q c.symm,if_false];refine⟨t1,t2,t3,t4,t5,Z5j t6 fun x hx=>⟨(Z5N (kq j x hj' hx)).1 (Z2x t6 hx).1,(Z5N (kq j x hj' hx)).2.1⟩,fun x hx=>?_⟩;have o:=Z5N (kq j x hj' hx);rw[o.2.2.1,o.2.1];exact⟨List.mem_append_left _ (t7 x hx).1,(t7 x hx).2⟩
 ·intro j hj;simp only[Work.copy]at hj;have hne:¬ j=i:=fun q=>hj (q▸hit);simp only[hne,if_false];exact k.tk0 j fun q=>hj ((htt _).2 (Or.inl q))
 ·intro x hx;simp only[Work.copy,List.mem_append,List.mem_singleton]at hx ⊢;rcases hx with hx | rfl
  ·rcases k.q x hx with⟨j,j1,j2,j3,j4⟩ | ⟨j,j1,j2⟩
   ·have hne:¬ i=j:=by
     rintro rfl;have:=(g.t0 i x j2).2;omega
    refine Or.inl ⟨j,fun c=>?_,j2,j3,by rw[Z1a p1,if_neg hne];exact j4⟩;rcases(htt _).1 c with c | c
    ·exact j1 c
    ·omega
   ·refine Or.inr ⟨j,(htt _).2 (Or.inl j1), ?_⟩;split
    ·rename_i q;subst q;exact List.mem_append_left _ j2
    ·exact j2
  ·exact Or.inr ⟨i,hit,by simp⟩
 ·intro j x hx;simp only[Work.copy];have hne:¬ i=j:=by
   rintro rfl;have:=(g.t0 i x hx).2;omega
  rw[Z1a p1,if_neg hne];by_cases q:x=r
  ·subst q;refine Or.inr ⟨by rw[w2,ZgH oq oq], ?_, ?_⟩
   ·have e1:=g.ofx hx;have e2:=g.ofx hr;rw[e1]at e2;have:j=i0:=by simp only[Prod.mk.injEq]at e2;omega
    subst this;rw[(k.pg j (k.nt g hx)).1];exact h1
   ·have e1:=g.ofx hx;have e2:=g.ofx hr;rw[e1]at e2;have:j=i0:=by simp only[Prod.mk.injEq]at e2;omega
    subst this;exact hs
  ·have f:=far j x hx;have rx:=Z0t h.W x;rw[w1 x q oq];exact k.hd j x hx
 ·intro b hb;simp only[Work.copy]at hb ⊢;by_cases q:a≤b∧b<a+n
  ·exact Or.inr ⟨i,hit,by omega,by rw[Z1a p1,if_pos rfl];omega⟩
  ·by_cases q2:b=r
   ·refine Or.inl ⟨i0,r,hr,by omega, ?_⟩;rw[kpA,if_neg hkd];have:=Z0t h.W r;omega
   ·rw[w1 b q2 oq]at hb;rcases k.dt b hb with c | ⟨j,j1,j2,j3⟩
    ·exact Or.inl c
    ·refine Or.inr ⟨j,(htt _).2 (Or.inl j1),j2, ?_⟩;rw[Z1a p1];split
     ·rename_i c;subst c;have:=(k.tk i j1).2.2.1;have:u=(w.heap.P.getD i default).U:=by rw[← hu,occP,if_neg oq]
      omega
     ·exact j3
 ·intro j h2 hsj;simp only[Work.copy]at hsj ⊢;have hne:¬ i=j:=by rintro rfl;omega
  rw[Z1a p1,if_neg hne]at hsj;exact List.mem_append_left _ (k.lg j h2 hsj)
theorem KI.fwd{tq:Nat→List Int}{w:Work}(k:KI h T tq w)(hw:WkOk w)(hi:CIv w)(r:Int)(e:(w.fwd r).2.2=0):∃ tq',KI h T tq' (w.fwd r).1:=by
 unfold Work.fwd at e ⊢;split at e
 ·rename_i c1;rw[if_pos c1];exact⟨tq,k⟩
 ·rename_i c1;rw[if_neg c1];split at e
  ·simp at e
  ·rename_i c2;rw[if_neg c2];have c2':r∈w.old:=Decidable.not_not.1 c2;obtain⟨i0,hr,hkd⟩:=(k.old r).1 c2';have ofr:ofA w.heap.C r=((i0:Int),r-bsP h i0,0):=by rw[k.c];exact g.ofx hr
   have nt:=k.nt g hr;have pgi:=k.pg i0 nt;have hil:=(g.t0 i0 r hr).1;have hki:=(g.t0 i0 r hr).2;have hpl:=k.pl;split at e
   ·rename_i c3;rw[if_pos c3];exact⟨tq,k⟩
   ·rename_i c3;rw[if_neg c3];split at e
    ·simp at e
    ·rename_i c4;rw[if_neg c4];split at e
     ·rename_i c5;rw[if_pos c5];simp only[Z0E,decide_eq_true_eq]at c5;rw[ofr]at c5;simp only[Int.toNat_natCast]at c5;exact⟨tq,k.keep g hr hkd c5.2.2.2.1⟩
     ·rename_i c5;rw[if_neg c5];have epw:Z1v w r=i0:=by rw[Z1v,ofr];simp
      split at e
      ·rename_i c6;rw[if_pos c6];rw[epw]at c6 ⊢;exact⟨tq,k.flip g hw hr hkd c6⟩
      ·rename_i c6;rw[if_neg c6];split at e
       ·simp at e
       ·rename_i c7;rw[if_neg c7];have c7':(w.place (sizeH (hdW w r))).2.2=true:=by simpa using c7
        rw[epw]at c6;have k1:(h.P.getD i0 default).K=1:=by omega
        have hs:(w.heap.P.getD i0 default).S=w.heap.S:=by
         by_cases q:(w.heap.P.getD i0 default).S=w.heap.S
         ·exact q
         ·exfalso;apply c5;simp only[Z0E,decide_eq_true_eq];rw[ofr];simp only[Int.toNat_natCast];exact⟨by omega,by omega,by omega,q,nt⟩
        have he:(loadA w.heap.W r).1=(loadA h.W r).1:=by
         rcases k.hd i0 r hr with q | q
         ·exact q
         ·exact absurd q.1 c3
        have hz:=hi.z r c2';have hp:sizeH (hdW w r)≤w.heap.C.pw:=by
         rw[Z3X];rw[ofr]at hz;simp only[Int.toNat_natCast]at hz;rcases hz with hz | hz
         ·exact absurd hz c6
         ·exact hz
        exact k.copy g hw hr hkd k1 hs he (Z3X w r) hp c7'
theorem KI.field{tq:Nat→List Int}{w:Work}(k:KI h T tq w){q j:Int}(hq:q∈w.Q)(hj:0≤j∧j<hlA w.heap.W q) :
  (∀ i x,x∈T i→x≠q+1+j)∧(∀ (i:Nat) x,(i:Int)∈w.T→x∈tq i→x≠q+1+j)∧((∃ i x,x∈T i∧x≤q+1+j∧q+1+j<x+kpA h.W x)∨(∃ i:Nat,(i:Int)∈w.T∧bsP h i≤q+1+j∧q+1+j<bsP h i+(w.heap.P.getD i default).U)):=by
 rcases k.q q hq with⟨i,i1,i2,i3,i4⟩ | ⟨i,i1,i2⟩
 ·have he:(loadA w.heap.W q).1=(loadA h.W q).1:=by
   rcases k.hd i q i2 with c | c
   ·exact c
   ·exact absurd c.2.2 i4
  have o:=Z5N he;rw[o.2.1]at hj;refine⟨fun m x hx c=>?_,fun m x hm hx c=>?_,Or.inl ⟨i,q,i2,by omega,by rw[kpA,if_neg i3];omega⟩⟩
  ·have:=g.sep i2 hx oq;omega
  ·have:=k.sepT g hm hx i2;have:=Z0t w.heap.W x;omega
 ·have t:=k.tk i i1;have m:=Z2x t.2.2.2.2.2.1 i2;refine⟨fun m x hx c=>?_,fun m x hm hx c=>?_,Or.inr ⟨i,i1,by omega,by omega⟩⟩
  ·have:=k.sepT g i1 i2 hx;have:=Z0t h.W x;omega
  ·have:=k.sepQ g i1 i2 hm hx oq;omega
theorem KI.begin:KI h T (fun _=>[]) (beginW h):=by
 have hq:∀ j,((h.P.map (begQ (1-h.S))).getD j default).K=(h.P.getD j default).K∧((h.P.map (begQ (1-h.S))).getD j default).U=(h.P.getD j default).U∧((h.P.map (begQ (1-h.S))).getD j default).N=(h.P.getD j default).N∧((h.P.getD j default).K=2→((h.P.map (begQ (1-h.S))).getD j default).S=(h.P.getD j default).S):=by
  intro j;by_cases hj:j<h.P.length
  ·have:(h.P.map (begQ (1-h.S))).getD j default=begQ (1-h.S) (h.P.getD j default):=by simp[List.getD_eq_getElem?_getD,hj]
   rw[this,begQ];split
   ·rename_i c;exact⟨rfl,rfl,rfl,fun q=>by omega⟩
   ·exact⟨rfl,rfl,rfl,fun _=>rfl⟩
  ·rw[List.getD_eq_getElem?_getD,List.getD_eq_getElem?_getD,List.getElem?_eq_none qo,List.getElem?_eq_none oq];exact⟨rfl,rfl,rfl,fun _=>rfl⟩
 refine⟨rfl,rfl,g.objs.2,by simp[beginW],rfl,fun i _=>⟨(hq i).1,(hq i).2.1,(hq i).2.2.1⟩,by simp[beginW],fun _ _=>rfl,by simp[beginW],fun _ _ _=>Or.inl rfl,fun a ha=>Or.inl (g.d a ha), ?_⟩;intro i h2 hs;exfalso;simp only[beginW]at hs;rw[(hq i).2.2.2 h2]at hs;by_cases hi:i<h.P.length
 ·exact hs (g.sp i hi oq)
 ·rw[List.getD_eq_getElem?_getD,List.getElem?_eq_none oq]at h2;have d:(default:Page).K=0:=rfl;simp only[Option.getD_none]at h2;omega
end
theorem Ziz{h:Heap}(hp:Z02 h=true){i:Nat}(hi:i<h.P.length){o:Int}(h0:0≤o)(hu:o<(h.P.getD i default).U)(hk:(h.P.getD i default).K=1∨(h.P.getD i default).K=2∧o=0)(e:(atH h (adr h i o)).2=0):adr h i o=bsP h i+o∧okA h.W (bsP h i+o)∧(atH h (adr h i o)).1=hdA h.W (bsP h i+o)∧((h.P.getD i default).K=1→o+hlA h.W (bsP h i+o)+1≤(h.P.getD i default).U)∧((h.P.getD i default).K=2→hlA h.W (bsP h i+o)+1=(h.P.getD i default).U):=by
 have po:=Z07 hp;have pp:=Z0M hp hi;have ht:=validB_iff.1 po.1;have ho:o<h.C.pw:=by omega
 have ea:adr h i o=bsP h i+o:=by
  unfold adr address;rw[if_pos po.1,if_pos (inB_iff.2 ⟨by omega,by omega,by omega,by omega⟩)];unfold bsP;simp only;omega
 rw[ea]at e ⊢;have ef:=ZfS (c:=h.C) (i:=i) (o:=o) po.1 oq oq;rw[show 4096+((i:Int)*h.C.pw+o)=bsP h i+o by unfold bsP;omega]at ef;unfold atH at e ⊢;rw[if_pos hp,ef]at e ⊢;simp only[Int.toNat_natCast,if_true]at e ⊢;by_cases q:((h.P.getD i default).K=1∨(h.P.getD i default).K=2)∧o<(h.P.getD i default).U∧(decodeH (loadA h.W (bsP h i+o)).1).2=true
 ·rw[if_pos q]at e ⊢;have s:sizeH (decodeH (loadA h.W (bsP h i+o)).1).1=hlA h.W (bsP h i+o)+1:=Z3d h.W _;split at e
  ·simp at e
  ·rename_i q2;rw[if_neg q2];refine⟨trivial,q.2.2,rfl, ?_, ?_⟩<;>omega
 ·rw[if_neg q]at e;simp at e
theorem Zab{h:Heap}(hp:Z02 h=true){i:Nat}(hi:i<h.P.length)(hk:(h.P.getD i default).K=1):∀ (f:Nat) (o:Int) (l:List Int),Z2t h i f o=some l→0≤o→o≤(h.P.getD i default).U→(h.P.getD i default).U-o≤f→tile h.W (bsP h i+o) (bsP h i+(h.P.getD i default).U) l
 | 0,o,l,e,h0,h1,hf=>by
  cases e;simp only[tile];omega
 | f+1,o,l,e,h0,h1,hf=>by
  have hpg:pg h (i:Int)=h.P.getD i default:=by simp[pg]
  unfold Z2t at e;rw[hpg]at e;split at e
  ·rename_i hu;split at e
   ·rename_i ha;rw[if_neg oq]at e;obtain⟨t1,t2,t3,t4,_⟩:=Ziz hp hi h0 hu (Or.inl hk) ha;simp only[Option.map_eq_some_iff]at e;obtain⟨l',e,rfl⟩:=e;have r:=Z0t h.W (bsP h i+o);rw[t3,Z3d]at e;have:=Zab hp hi hk f _ l' e oq (by have:=t4 hk;omega) oq;refine⟨t1,by rw[t1]at *;exact t2, ?_⟩;rw[show bsP h i+o+hlA h.W (bsP h i+o)+1=bsP h i+(o+(hlA h.W (bsP h i+o)+1)) by omega];exact this
   ·cases e
  ·cases e;simp only[tile];omega
theorem ZnV{h:Heap}(hg:Z0p h=⟨0,0,0⟩):Gd h (fun i:Nat=>(Z06 h (i:Int)).1):=by
 have hp:Z02 h=true:=by
  by_cases q:Z02 h=true
  ·exact q
  ·rw[Z0p,if_neg q]at hg;cases hg
 have po:=Z07 hp;have ht:=validB_iff.1 po.1;rw[Z0p,if_pos hp]at hg;have hpf:∀ i,i<h.P.length→(pageF h i).fault=0:=by
  intro i hi;cases hb:Z2r h with
  | some j =>
   rw[hb]at hg;simp only at hg;have:=List.find?_some hb;rw[hg]at this;simp at this
  | none =>
   have:=List.find?_eq_none.1 hb i (List.mem_range.2 hi);simpa using this
 have hnone:Z2r h=none:=by
  unfold Z2r;rw[List.find?_eq_none];intro i hi;simp[hpf i (List.mem_range.1 hi)]
 rw[hnone]at hg;simp only at hg;have hpg:∀ i,i<h.P.length→((h.P.getD i default).K≠0→(h.P.getD i default).S=h.S)∧(Z06 h (i:Int)).2=0∧Z11 h (i:Int) (Z06 h (i:Int)).1=0∧Z2u h i (Z1O h i)=0:=by
  intro i hi;have q:=hpf i hi;unfold pageF at q;split at q
  ·simp at q
  ·rename_i c1;split at q
   ·simp at q
   ·rename_i c2;split at q
    ·simp at q
    ·rename_i c3;split at q
     ·simp at q
     ·rename_i c4;exact⟨fun c=>by by_cases d:(h.P.getD i default).S=h.S;exact d;exact absurd ⟨c,d⟩ c1,by simpa using c2,by simpa using c3,by simpa using c4⟩
 have hT:∀ i,i<h.P.length→((h.P.getD i default).K=1→tile h.W (bsP h i) (bsP h i+(h.P.getD i default).U) (Z06 h (i:Int)).1)∧((h.P.getD i default).K=2→(Z06 h (i:Int)).1=[bsP h i]∧okA h.W (bsP h i)∧hlA h.W (bsP h i)+1=(h.P.getD i default).U):=by
  intro i hi;have q:=(hpg i hi).2.1;have pp:=Z0M hp hi;have e:pg h (i:Int)=h.P.getD i default:=by simp[pg]
  unfold Z06 at q ⊢;rw[if_pos hp,if_pos oq,e]at q ⊢;refine⟨fun k=>?_,fun k=>?_⟩
  ·rw[if_neg oq]at q ⊢;cases hw:Z2t h i 256 0 with
   | none=>rw[hw]at q;simp at q
   | some l =>
    have:=Zab hp hi k 256 0 l hw oq oq oq;rwa [Int.add_zero]at this
  ·rw[if_neg oq]at q ⊢;cases hw:Z2t h i 256 0 with
   | none=>rw[hw]at q;simp at q
   | some l =>
    have hpt:=hp;rw[Z2c]at hpt;have lg:=(hpt.2.2.2.2.2.lg i hi k).1;have hu:0<(h.P.getD i default).U:=by
     unfold need at lg;split at lg
     ·rename_i c;omega
     ·omega
    unfold Z2t at hw;rw[e,if_pos hu]at hw;split at hw
    ·rename_i ha;obtain⟨t1,t2,t3,_,t5⟩:=Ziz hp hi (Int.le_refl 0) hu (Or.inr ⟨k,rfl⟩) ha;rw[Int.add_zero]at t1 t2 t5;cases hw;exact⟨by rw[t1],t2,t5 k⟩
    ·cases hw
 have ht0:∀ i x,x∈(Z06 h ((i:Nat):Int)).1→i<h.P.length∧((h.P.getD i default).K=1∨(h.P.getD i default).K=2):=by
  intro i x hx;have e:pg h (i:Int)=h.P.getD i default:=by simp[pg]
  unfold Z06 at hx;rw[if_pos hp,e]at hx;split at hx
  ·rename_i c;have pp:=Z0M hp (show i<h.P.length by omega);split at hx
   ·simp at hx
   ·exact⟨by omega,by omega⟩
  ·simp at hx
 have g:Gt h (fun i:Nat=>(Z06 h (i:Int)).1):=⟨hp,fun i hi=>(hT i hi).1,fun i hi=>(hT i hi).2,ht0⟩
 have hcls:∀ i x,x∈(Z06 h ((i:Nat):Int)).1→Z1d h i x=false:=by
  intro i x hx;have c:=(hpg i (ht0 i x hx).1).2.2.1;unfold Z11 at c;cases hb:(Z06 h (i:Int)).1.find? (Z1d h i)with
  | some y =>
   rw[hb]at c;simp only[Option.getD_some]at c;have hy:=List.mem_of_find?_eq_some hb;have o:=g.on (i:=i) hy;have:0≤(i:Int)*h.C.pw:=Int.mul_nonneg oq oq;unfold bsP at o;omega
  | none=>simpa using List.find?_eq_none.1 hb x hx
 refine⟨hp,fun i hi=>(hpg i hi).1,fun i hi k=>⟨(hT i hi).1 k,fun x hx=>?_⟩,fun i hi k=>?_,ht0,fun a ha=>?_,fun i x k hx hk h0 h1 hptr=>?_, ?_⟩
 ·have c:=hcls i x hx;unfold Z1d at c;rw[g.at' hx,Z3d,Int.toNat_natCast,k]at c;simp at c;omega
 ·have t:=(hT i hi).2 k;refine⟨t.1,t.2.1,t.2.2, ?_⟩;have hx:bsP h i∈(Z06 h (i:Int)).1:=by rw[t.1];simp
  have c:=hcls i _ hx;unfold Z1d at c;rw[g.at' hx,Int.toNat_natCast,k]at c;simp at c;exact c
 ·have har:4096≤a∧a-4096<h.W.length:=by
   by_cases q:4096≤a∧a-4096<h.W.length
   ·exact q
   ·unfold loadA at ha;rw[if_neg oq]at ha;exact absurd rfl ha
  have hL:=po.2;have q1:=Int.ediv_nonneg (a:=a-4096) (b:=h.C.pw) oq oq;have q2:(a-4096)/h.C.pw<h.C.pg:=Int.ediv_lt_of_lt_mul oq (by rw[Int.mul_comm];omega);have q3:=Int.emod_nonneg (a-4096) (b:=h.C.pw) oq;have q4:=Int.emod_lt_of_pos (a-4096) (b:=h.C.pw) oq;have q5:=Int.mul_ediv_add_emod (a-4096) h.C.pw;obtain⟨i,hi⟩:=Int.eq_ofNat_of_zero_le q1;obtain⟨k,hk⟩:=Int.eq_ofNat_of_zero_le q3;rw[hi,hk,Int.mul_comm]at q5;rw[hi]at q2;rw[hk]at q4;have hil:i<h.P.length:=by omega
  have ea:a=bsP h i+k:=by unfold bsP;omega
  have hd:=(hpg i hil).2.2.2;unfold Z2u at hd;cases hb:(List.range (Z1O h i).length).find? (badD h i (Z1O h i))with
  | some m=>rw[hb]at hd;simp only at hd;have:0≤(i:Int)*h.C.pw:=Int.mul_nonneg oq oq;omega
  | none =>
   have:=List.find?_eq_none.1 hb k (List.mem_range.2 (by rw[Z58];omega));unfold badD at this;have ew:Z3u h i k=(loadA h.W (bsP h i+k)).1:=by
    unfold Z3u address;rw[if_pos po.1,if_pos (inB_iff.2 ⟨by omega,by omega,by omega,by omega⟩)];unfold bsP;simp only;rw[Int.add_assoc]
   rw[ea]at ha;rw[ew,decide_eq_true ha,Bool.and_true]at this;have hu:(Z1O h i).getD k default=true:=by simpa using this
   unfold Z1O Z1A at hu;have hkk:k<h.C.pw.toNat:=by omega
   simp only[List.getD_eq_getElem?_getD,List.getElem?_map,List.getElem?_range hkk,Option.map_some,Option.getD_some,List.any_eq_true]at hu;obtain⟨x,hx,hc⟩:=hu;unfold Z7f at hc;rw[Bool.and_eq_true,decide_eq_true_eq,decide_eq_true_eq]at hc;have ek:Z3A h x=kpA h.W x:=by
    unfold Z3A kpA;rw[g.at' hx,Z3d];rfl
   rw[ek]at hc;refine⟨_,x,hx, ?_, ?_⟩<;>(rw[ea];unfold bsP;omega)
 ·have hall:=(g.objs.2 x).2 ⟨i,hx,hk⟩;have hpt:(Z0Q h (Z03 h).1).fault=0:=by
   by_cases q:(Z0Q h (Z03 h).1).fault=0
   ·exact q
   ·rw[if_pos q]at hg;rw[hg]at q;exact absurd rfl q
  obtain⟨m,hm,e⟩:=getD_mem_iff.1 hall;unfold Z0Q at hpt;cases hb:(List.range (Z03 h).1.length).find? (fun i=>(Z28 h (Z03 h).1 i).isSome)with
  | some y=>rw[hb]at hpt;simp at hpt
  | none =>
   have:=List.find?_eq_none.1 hb m (List.mem_range.2 hm);unfold Z28 at this;rw[e]at this;have n:=g.on hx;have r:=Z0t h.W x;have pp:=Z0M hp n.1;have eg:getH h x=(hdA h.W x,0):=by
    unfold getH;rw[if_pos hp,if_neg (by have:0≤(i:Int)*h.C.pw:=Int.mul_nonneg oq oq;unfold bsP at n;omega),g.at' hx,if_neg];rintro⟨_,q⟩;exact hk q
   have ue:=Z7W hp n.1 n.2.1;have hi0:0≤(i:Int)*h.C.pw:=Int.mul_nonneg oq oq;have hxr:4096≤x∧x+hlA h.W x<4096+h.W.length:=by unfold bsP at n;omega
   have ef:Z0S h x=Z1j h.W (x+1) (hlA h.W x):=by
    unfold Z0S;rw[eg,if_pos rfl];rfl
   have fl:((Z0S h x).1.length:Int)=hlA h.W x:=by
    rw[ef];unfold Z1j;rw[if_neg oq,if_pos oq];simp only[List.length_take,List.length_drop];omega
   obtain⟨k',rfl⟩:=Int.eq_ofNat_of_zero_le h0;have fk:(Z0S h x).1.getD k' default=(loadA h.W (x+1+k')).1:=by
    rw[ef];exact ZlQ r.1 oq h1
   have hn:(List.range (Z0S h x).1.length).find? (Z8H (getH h x).1 (Z0S h x).1 (Z03 h).1)=none:=by simpa using this
   have:=List.find?_eq_none.1 hn k' (List.mem_range.2 oq);unfold Z8H at this;rw[eg,fk]at this;have hptr':Z0d (hdA h.W x) (k':Int)=true:=hptr;simp only[hptr',Bool.true_and,Bool.and_eq_true,decide_eq_true_eq,Bool.not_eq_true',decide_eq_false_iff_not,not_and,Decidable.not_not]at this;by_cases z:(loadA h.W (x+1+(k':Int))).1=0
   ·exact Or.inl z
   ·exact Or.inr ((g.objs.2 _).1 (this z))
 ·by_cases q:(Z0Q h (Z03 h).1).fault=0
  ·rw[if_neg (by rw[q];simp)]at hg;split at hg
   ·cases hg
   ·rename_i c;show(Z0F h.P h.P.length:Int)≤_;omega
  ·rw[if_pos q]at hg;rw[hg]at q;exact absurd rfl q
end Go.Proofs.YtdhchmlalchgeaaGreat
