/-
 The statement EvacuateBegins: part 11.
 Conditions: none.
-/
import Derived.Test.YtdhchmlalchgeaaGreatH10
set_option maxRecDepth 100000
set_option maxHeartbeats 2000000
set_option linter.all false
namespace Go.Proofs.YtdhchmlalchgeaaGreat
open Go.Sx
def ixUL(l:List Int)(v:Int)(i:Nat):Tg:=⟨tm 19 [(0,Z01 l),(1,u64 v),(4,int 0),(7,int l.length),(8,int i)],[],3⟩
theorem Zfa(l:List Int)(v:Int)(i:Nat)(hl:l.length≤1048576)(hi:i<l.length)(e:(v==l.getD i default)=false):CP (rndF Tryz.f126 0) (ixUL l v i).st .nrm (ixUL l v (i+1)).st:=by
 exact sF [] [] (Ftb 9 (decide ((↑i:Int)<(↑l.length:Int))) (Fek 14 wdv l (↑i) i (Ff 16 ‹(v==l.getD i default)=false› (Fx 18 i Fz))))
theorem Zka(l:List Int)(v:Int)(i:Nat)(hl:l.length≤1048576)(hi:i<l.length)(e:(v==l.getD i default)=true):CP (rndF Tryz.f126 0) (ixUL l v i).st .ret (Tg.st ⟨tm 19 [(4,int i)],[],60⟩):=by
 exact sF [] [] (Ftb 9 (decide ((↑i:Int)<(↑l.length:Int))) (Fek 14 wdv l (↑i) i (Ft 16 ‹(v==l.getD i default)=true› Fz)))
theorem ZoN(l:List Int)(v:Int):CP (rndF Tryz.f126 0) (ixUL l v l.length).st (.ext 0) (Tg.st ⟨tm 19 [(4,int 0)],[],60⟩):=by
 exact sF [] [] (Ffb 9 (decide ((↑l.length:Int)<(↑l.length:Int))) Fz)
def Zne(l:List Int)(v:Int)(hl:l.length≤1048576)(h:¬ v∈l)  := Z07 (S:=fun j=>(ixUL l v j).st) l.length (by kernel_rfl) (fun j hj=>Zfa l v j hl hj (Z4O (by rcases Nat.lt_or_ge j (Z26 l v)with q | q;exact q;exact absurd (firstI_mem.1 (by omega)) h)).2) (ZoN l v)
theorem Zk6(l:List Int)(v:Int)(hl:l.length≤1048576)(h:v∈l):CP (blkF Tryz.f126 0) (Tg.st ⟨tm 19 [(0,Z01 l),(1,u64 v),(4,int 0),(7,int l.length),(8,int 0)],[],3⟩) .ret (Tg.st ⟨tm 19 [(4,int (Z26 l v))],[],60⟩) :=
 have h1:Z26 l v<l.length:=firstI_mem.2 h
 Z0z (S:=fun j=>(ixUL l v j).st) (Z26 l v) kr (fun j hj=>Zfa l v j hl oq (Z4O hj).2) (Zka l v (Z26 l v) hl h1 (Z7j h1))
def ixIL(l:List Int)(v:Int)(i:Nat):Tg:=⟨tm 19 [(0,Z0l l),(1,int v),(4,int 0),(7,int l.length),(8,int i)],[],3⟩
theorem ZeV(l:List Int)(v:Int)(i:Nat)(hl:l.length≤1048576)(hi:i<l.length)(e:(v==l.getD i default)=false):CP (rndF Tryz.f181 0) (ixIL l v i).st .nrm (ixIL l v (i+1)).st:=by
 exact sF [] [] (Ftb 9 (decide ((↑i:Int)<(↑l.length:Int))) (Fek 14 idv l (↑i) i (Ff 16 ‹(v==l.getD i default)=false› (Fx 18 i Fz))))
theorem Zm3(l:List Int)(v:Int)(i:Nat)(hl:l.length≤1048576)(hi:i<l.length)(e:(v==l.getD i default)=true):CP (rndF Tryz.f181 0) (ixIL l v i).st .ret (Tg.st ⟨tm 19 [(4,int i)],[],60⟩):=by
 exact sF [] [] (Ftb 9 (decide ((↑i:Int)<(↑l.length:Int))) (Fek 14 idv l (↑i) i (Ft 16 ‹(v==l.getD i default)=true› Fz)))
theorem Zpq(l:List Int)(v:Int):CP (rndF Tryz.f181 0) (ixIL l v l.length).st (.ext 0) (Tg.st ⟨tm 19 [(4,int 0)],[],60⟩):=by
 exact sF [] [] (Ffb 9 (decide ((↑l.length:Int)<(↑l.length:Int))) Fz)
def Znu(l:List Int)(v:Int)(hl:l.length≤1048576)(h:¬ v∈l)  := Z07 (S:=fun j=>(ixIL l v j).st) l.length (by kernel_rfl) (fun j hj=>ZeV l v j hl hj (Z4O (by rcases Nat.lt_or_ge j (Z26 l v)with q | q;exact q;exact absurd (firstI_mem.1 (by omega)) h)).2) (Zpq l v)
theorem Zki(l:List Int)(v:Int)(hl:l.length≤1048576)(h:v∈l):CP (blkF Tryz.f181 0) (Tg.st ⟨tm 19 [(0,Z0l l),(1,int v),(4,int 0),(7,int l.length),(8,int 0)],[],3⟩) .ret (Tg.st ⟨tm 19 [(4,int (Z26 l v))],[],60⟩) :=
 have h1:Z26 l v<l.length:=firstI_mem.2 h
 Z0z (S:=fun j=>(ixIL l v j).st) (Z26 l v) kr (fun j hj=>ZeV l v j hl oq (Z4O hj).2) (Zm3 l v (Z26 l v) hl h1 (Z7j h1))
theorem Zph(l:List Int)(v:Int)(hl:l.length≤1048576):GP 126 [Z01 l,u64 v] true (int (idxI l v)) []:=by
 by_cases h:v∈l
 ·have e7:idxI l v=Z26 l v:=if_pos h;rw[e7];exact gF [] Tryz.func126 [] (Fl 7 wdv l (Fu (@Zk6 l v aa aa) Fz))
 ·have e7:idxI l v=-1:=if_neg h;rw[e7];exact gF [] Tryz.func126 [] (Fl 7 wdv l (Fu (@Zne l v aa aa) Fz))
theorem ZoG(l:List Int)(v:Int)(hl:l.length≤1048576):GP 181 [Z0l l,int v] true (int (idxI l v)) []:=by
 by_cases h:v∈l
 ·have e7:idxI l v=Z26 l v:=if_pos h;rw[e7];exact gF [] Tryz.func181 [] (Fl 7 idv l (Fu (@Zki l v aa aa) Fz))
 ·have e7:idxI l v=-1:=if_neg h;rw[e7];exact gF [] Tryz.func181 [] (Fl 7 idv l (Fu (@Znu l v aa aa) Fz))
theorem Z0M(l:List Int)(v:Int)(hl:l.length≤1048576):GP 76 [Z01 l,u64 v] true (bool (decide (v∈l))) []:=by
 have h:(0≤idxI l v↔v∈l):=by unfold idxI;split<;>simp[*]
 exact gF [] Tryz.func76 [true] (Fc 7 (@Zph l v aa) (Fbs (decide (0≤idxI l v)=decide (v∈l)) Fz))
theorem Z6a(l:List Int)(v:Int)(hl:l.length≤1048576):GP 146 [Z0l l,int v] true (bool (decide (v∈l))) []:=by
 have h:(0≤idxI l v↔v∈l):=by unfold idxI;split<;>simp[*]
 exact gF [] Tryz.func146 [true] (Fc 7 (@ZoG l v aa) (Fbs (decide (0≤idxI l v)=decide (v∈l)) Fz))
theorem ZaU(c:Nat):GP 80 [.d (.sc (.slice none 0 c))] true (.ow 0) [.arr 35 1 []] :=
 gspec_ofE [((2:Nat),[Hint.own])] [] [(24002:Nat)] dd Tryz.func80 [] (φ:=Z0O []) (fun _ h=>nomatch h) kr kr
theorem Z9z(p:Addr)(c:Nat):GP 80 [.d (.sc (.slice (some p) 0 c))] true (.ow 0) [.arr 35 1 []]:=by
 exact gF [24007] Tryz.func80 [] (Fs 5 (List.map wdv []) (Fa (by simp[*]:(List.map wdv []).length+([]:List (List DV)).length≤2^30) (Fs 7 (List.map wdv []) (Fa (by exact Z2o _:Z0O (List.map wdv [])) Fz))))
theorem ZdT(ws:List Int)(hw:ws.length≤1048576)(hne:ws≠[]):GP 80 [Z01 ws] true (.ow 0) [.arr 35 1 (ws.map wdv)]:=by
 exact gF [24007] Tryz.func80 [] (Fa (by exact ZeP hne:List.map wdv ws≠[]) (FA 5 7 wdv ws (Fa (by exact Z2o _:Z0O (List.map wdv ws)) Fz)))
theorem Z4a(ws:List Int)(hw:ws.length≤1048576):GP 80 [Z01 ws] true (.ow 0) [.arr 35 1 (ws.map wdv)]:=by
 by_cases hne:ws=[]
 ·subst hne;exact Z5H fun p c=>match p with | none=>ZaU c | some p=>Z9z p c
 ·exact ZdT ws hw hne
theorem Zca(c:Nat):GP 135 [.d (.sc (.slice none 0 c))] true (.ow 0) [.arr 3 1 []] :=
 gspec_ofE [((2:Nat),[Hint.own])] [] [(24002:Nat)] dd Tryz.func135 [] (φ:=Z0O []) (fun _ h=>nomatch h) kr kr
theorem Zbn(p:Addr)(c:Nat):GP 135 [.d (.sc (.slice (some p) 0 c))] true (.ow 0) [.arr 3 1 []]:=by
 exact gF [24007] Tryz.func135 [] (Fs 5 (List.map idv []) (Fa (by simp[*]:(List.map idv []).length+([]:List (List DV)).length≤2^30) (Fs 7 (List.map idv []) (Fa (by exact Z65 _:Z0O (List.map idv [])) Fz))))
theorem ZgP(ws:List Int)(hw:ws.length≤1048576)(hne:ws≠[]):GP 135 [Z0l ws] true (.ow 0) [.arr 3 1 (ws.map idv)]:=by
 exact gF [24007] Tryz.func135 [] (Fa (by exact ZeP hne:List.map idv ws≠[]) (FA 5 7 idv ws (Fa (by exact Z65 _:Z0O (List.map idv ws)) Fz)))
theorem Zhi(ws:List Int)(hw:ws.length≤1048576):GP 135 [Z0l ws] true (.ow 0) [.arr 3 1 (ws.map idv)]:=by
 by_cases hne:ws=[]
 ·subst hne;exact Z5H fun p c=>match p with | none=>Zca c | some p=>Zbn p c
 ·exact ZgP ws hw hne
theorem ZbT(c:Nat):GP 81 [.d (.sc (.slice none 0 c))] true (.ow 0) [.arr 84 4 []] :=
 gspec_ofE [((2:Nat),[Hint.own])] [] [(24002:Nat)] dd Tryz.func81 [] (φ:=Z0O []) (fun _ h=>nomatch h) kr kr
theorem Z9t(p:Addr)(c:Nat):GP 81 [.d (.sc (.slice (some p) 0 c))] true (.ow 0) [.arr 84 4 []]:=by
 exact gF [24007] Tryz.func81 [] (Fs 5 (List.map Page.dv []) (Fa (by simp[*]:(List.map Page.dv []).length+([]:List (List DV)).length≤2^30) (Fs 7 (List.map Page.dv []) (Fa (by exact Z2x _:Z0O (List.map Page.dv [])) Fz))))
theorem Zew(l:List Page)(hl:l.length≤1048576):GP 81 [Z0n l] true (.ow 0) [.arr 84 4 (l.map Page.dv)]:=by
 by_cases hne:l=[]
 ·subst hne;exact Z5H fun p c=>match p with | none=>ZbT c | some p=>Z9t p c
 ·exact Z5V l hl hne
def Z1y(w:Work)(r:Int):Int:=if r∈w.Q then r else(Z0a (loadA w.heap.W r).1).1
theorem Z9Q(w:Work)(r:Int)(hw:WOk w.heap.W)(hl:w.heap.W.length≤4096)(hq:w.Q.length≤1048576)(h0:0≤r∧r≤18446744073709551615):GP 119 [w.av,u64 r] true (u64 (Z1y w r)) []:=by
 have h1:=Z0C hw r;rcases bb (decide (r∈w.Q))with hc0 | hc0<;>have hc0p:=hc0<;>simp only[bs]at hc0p
 ·exact gF [] Tryz.func119 [true] (Fh 12 [.call true (Sx.bool (decide (r∈w.Q))) [],.br true] (Fa (@Z14 w.Q r aa) (Fa hc0 (Fa (by simp[Z1y, *]:r=Z1y w r) Fz))))
 ·exact gF [] Tryz.func119 [true] (Fh 12 [.call true (Sx.bool (decide (r∈w.Q))) [],.br false] (Fa (@Z14 w.Q r aa) (Fa hc0 (Fc 19 (@Z1K w.heap.W r oq aa) (Fc 24 (@Z2Z ((loadA w.heap.W r).fst) oq oq) (Fa (by simp[Z1y, *]:(Z0a (loadA w.heap.W r).fst).fst=Z1y w r) Fz))))))
theorem Zj1(w:Work)(a:Int)(hw:WOk w.heap.W)(h1:w.heap.W.length≤4096)(h0:0≤a∧a≤18446744073709551615):GP 100 [w.av,u64 a] true (hdW w a).av []:=by
 have h2:=Z0C hw a;exact gF [] Tryz.func100 [] (Fc 14 (@Z1K w.heap.W a oq aa) (Fc 19 (@Z2V ((loadA w.heap.W a).fst) oq oq) Fz))
def Z7J(w:Work)(x:Int):Work:=if Z0B w (ofA w.heap.C x).1=true∧x∉w.Q then⟨⟨w.heap.C,(Z0E w.heap.W x (objW ⟨0,(hdW w x).length,0⟩)).1,w.heap.P,w.heap.S,w.heap.B⟩,w.old,w.T,w.Q,w.D,⟨w.rep.copied,w.rep.kept,w.rep.filled+1,w.rep.freed,w.rep.cleared,w.rep.steps⟩⟩else w
def fillN(w:Work):Nat→Work
 | 0=>w
 | k+1=>Z7J (fillN w k) (w.old.getD k default)
def ZlX(w:Work)(i:Nat):Tg:=⟨tm 84 [(1,.pt 8001 0 0),(2,.pt 8002 0 0),(3,int i)],[(8002,.box 89 zW),(8001,.box 89 w.cells)],60⟩
structure FOk (w:Work):Prop where
 W:WOk w.heap.W
 wl:w.heap.W.length≤4096
 pl:w.heap.P.length≤64
 ol:w.old.length≤524288
 o:∀ x∈w.old,0≤x∧x≤8192
 tl:w.T.length≤1000000
 ql:w.Q.length≤1000000
theorem WkOk.fok{w:Work}(h:WkOk w):FOk w:=by
 have h1:=h.mu;have h2:=h.tl;have h3:=h.pl;have h4:=validB_iff.1 h.C;exact⟨h.W,h.wl,by omega,h.ol,h.o,by omega,by omega⟩
theorem Z86{n:Int}(h:0≤n∧n≤255):Z0c ⟨0,n,0⟩=(1+16*n,0):=by
 have hv:Z0g ⟨0,n,0⟩=true:=validH_iff.2 ⟨by simp,by simp,h.1,h.2,by simp⟩;rw[Z0c,if_pos hv];simp
section
variable (w:Work) (i:Nat) (hw:FOk w) (hi:i<w.old.length) (hr:0≤w.rep.filled∧w.rep.filled≤1000000)
include hw hi hr
theorem ZiK:CP (rndF Tryz.f121 0) (ZlX w i).st .nrm (ZlX (Z7J w (w.old.getD i default)) (i+1)).st:=by
 have h1:=hw.W;have h2:=hw.wl;have h3:=hw.pl;have h4:=hw.ol;have h5:=hw.tl;have h6:=hw.ql;have hx:=hw.o _ (getD_mem_iff.2 ⟨i,hi,rfl⟩);have hm:=Z1w (loadA w.heap.W (w.old.getD i default)).1 (Z0C h1 _).1;have hh:0≤(hdW w (w.old.getD i default)).length∧(hdW w (w.old.getD i default)).length≤255:=Z0Q w.heap.W (w.old.getD i default);have he:=Z86 hh;by_cases c1:Z0B w (ofA w.heap.C (w.old.getD i default)).1=true
 ·by_cases c2:w.old.getD i default∈w.Q
  ·have e7:Z7J w (w.old.getD i default)=w:=by rw[Z7J,if_neg (by rintro⟨_,q⟩;exact q c2)]
   rw[e7];exact sF [] [] (FN 13 14 24 wdv w.old i (Fc 26 (@Z4v w.heap.C (w.old.getD i default) oq oq) (Fc 32 (@Z1r w ((ofA w.heap.C (w.old.getD i default)).fst) oq oq) (FeG 40 (!!Z0B w (ofA w.heap.C (w.old.getD i default)).fst) wdv w.old (↑i) i (FcG 42 (!!Z0B w (ofA w.heap.C (w.old.getD i default)).fst) (fun hg=>by(try simp only[bs]at hg);exact @Z14 w.Q (w.old.getD i default) oq) (Fts 43 (!Z0B w (ofA w.heap.C (w.old.getD i default)).fst||decide (w.old.getD i default∈w.Q)) (Fx 16 i Fz)))))))
  ·have e7:Z7J w (w.old.getD i default)=⟨⟨w.heap.C,(Z0E w.heap.W (w.old.getD i default) (objW ⟨0,(hdW w (w.old.getD i default)).length,0⟩)).1,w.heap.P,w.heap.S,w.heap.B⟩,w.old,w.T,w.Q,w.D,⟨w.rep.copied,w.rep.kept,w.rep.filled+1,w.rep.freed,w.rep.cleared,w.rep.steps⟩⟩:=by rw[Z7J,if_pos ⟨c1,c2⟩]
   rw[e7];exact sF [] [] (Fh 71 [.els (List.map wdv ([(Z0c (Header.mk 0 (hdW w (w.old.getD i default)).length 0)).fst]++List.replicate (hdW w (w.old.getD i default)).length.toNat 0))] (FN 13 14 24 wdv w.old i (Fc 26 (@Z4v w.heap.C (w.old.getD i default) oq oq) (Fc 32 (@Z1r w ((ofA w.heap.C (w.old.getD i default)).fst) oq oq) (FeG 40 (!!Z0B w (ofA w.heap.C (w.old.getD i default)).fst) wdv w.old (↑i) i (FcG 42 (!!Z0B w (ofA w.heap.C (w.old.getD i default)).fst) (fun hg=>by(try simp only[bs]at hg);exact @Z14 w.Q (w.old.getD i default) oq) (Ffs 43 (!Z0B w (ofA w.heap.C (w.old.getD i default)).fst||decide (w.old.getD i default∈w.Q)) (Fek 48 wdv w.old (↑i) i (Fc 50 (@Zj1 w (w.old.getD i default) aa aa oq) (Fc 55 (@Z3l (Header.mk 0 (hdW w (w.old.getD i default)).length 0) (by(simp only[bs];omega))) (Fek 65 wdv w.old (↑i) i (Fs 68 (List.map wdv [(Z0c (Header.mk 0 (hdW w (w.old.getD i default)).length 0)).fst]) (Fa (by grind[objW]:0≤(hdW w (w.old.getD i default)).length∧(↑(List.map wdv [(Z0c (Header.mk 0 (hdW w (w.old.getD i default)).length 0)).fst]).length:Int)+(hdW w (w.old.getD i default)).length≤2^30) (Fa (by simp[objW,List.map_take,List.map_drop,List.map_set,List.map_append,wdv,idv]:List.map wdv [(Z0c (Header.mk 0 (hdW w (w.old.getD i default)).length 0)).fst]++List.replicate (hdW w (w.old.getD i default)).length.toNat [du64 0]=List.map wdv ([(Z0c (Header.mk 0 (hdW w (w.old.getD i default)).length 0)).fst]++List.replicate (hdW w (w.old.getD i default)).length.toNat 0)) (Fc 72 (@Z4X w.heap.W ([(Z0c (Header.mk 0 (hdW w (w.old.getD i default)).length 0)).fst]++List.replicate (hdW w (w.old.getD i default)).length.toNat 0) (w.old.getD i default) oq oq (by grind[objW])) (Fi 80 (w.rep.filled+1) (Fx 16 i Fz)))))))))))))))))
 ·have e7:Z7J w (w.old.getD i default)=w:=by rw[Z7J,if_neg (by rintro⟨q,_⟩;exact c1 q)]
  rw[e7];exact sF [] [] (FN 13 14 24 wdv w.old i (Fc 26 (@Z4v w.heap.C (w.old.getD i default) oq oq) (Fc 32 (@Z1r w ((ofA w.heap.C (w.old.getD i default)).fst) oq oq) (FeG 40 (!!Z0B w (ofA w.heap.C (w.old.getD i default)).fst) wdv w.old (↑i) i (FcG 42 (!!Z0B w (ofA w.heap.C (w.old.getD i default)).fst) (fun hg=>by(try simp only[bs]at hg);exact @Z14 w.Q (w.old.getD i default) oq) (Fts 43 (!Z0B w (ofA w.heap.C (w.old.getD i default)).fst||decide (w.old.getD i default∈w.Q)) (Fx 16 i Fz)))))))
end
theorem ZmQ(w:Work):CP (rndF Tryz.f121 0) (ZlX w w.old.length).st (.ext 0) (Tg.st ⟨tm 84 [(1,.pt 8001 0 0),(2,.pt 8002 0 0)],[(8002,.box 89 zW),(8001,.box 89 w.cells)],60⟩):=by
 exact sF [] [] (FO 13 14 wdv w.old Fz)
theorem Zm1(w:Work)(x:Int):∃ l n,Z7J w x=⟨⟨w.heap.C,l,w.heap.P,w.heap.S,w.heap.B⟩,w.old,w.T,w.Q,w.D,⟨w.rep.copied,w.rep.kept,n,w.rep.freed,w.rep.cleared,w.rep.steps⟩⟩∧l.length≤w.heap.W.length∧(WOk w.heap.W→WOk l)∧w.rep.filled≤n∧n≤w.rep.filled+1:=by
 unfold Z7J;split
 ·refine⟨_,_,rfl,Z8A _ _ _,fun h=>Z6I h ?_ _,by omega,by omega⟩;intro y hy;have hh:0≤(hdW w x).length∧(hdW w x).length≤255:=Z0Q w.heap.W x;simp only[objW,List.mem_cons,List.mem_replicate,Z86 hh]at hy;rcases hy with rfl | ⟨_,rfl⟩<;>omega
 ·exact⟨w.heap.W,w.rep.filled,rfl,Nat.le_refl _,fun h=>h,by omega,by omega⟩
theorem Z6J(w:Work)(hw:FOk w):∀ k,FOk (fillN w k)∧(fillN w k).heap.C=w.heap.C∧(fillN w k).heap.P=w.heap.P∧(fillN w k).heap.S=w.heap.S∧(fillN w k).heap.B=w.heap.B∧(fillN w k).old=w.old∧(fillN w k).T=w.T∧(fillN w k).Q=w.Q∧(fillN w k).rep.freed=w.rep.freed∧(fillN w k).rep.cleared=w.rep.cleared∧w.rep.filled≤(fillN w k).rep.filled∧(fillN w k).rep.filled≤w.rep.filled+k
 | 0=>⟨hw,rfl,rfl,rfl,rfl,rfl,rfl,rfl,rfl,rfl,by simp[fillN],by simp[fillN]⟩
 | k+1=>by
  obtain⟨i0,i1,i2,i3,i4,i5,i6,i7,i8,i9,i10,i11⟩:=Z6J w hw k;obtain⟨l,n,e,e1,e2,e3,e4⟩:=Zm1 (fillN w k) (w.old.getD k default);have:fillN w (k+1)=_:=e;rw[this];have hl:=i0.wl;exact⟨⟨e2 i0.W,by simp only;omega,i0.pl,i0.ol,i0.o,i0.tl,i0.ql⟩,i1,i2,i3,i4,i5,i6,i7,i8,i9,by simp only;omega,by simp only;omega⟩
section
variable (w:Work) (hw:FOk w) (hr:w.rep.filled=0)
include hw hr
theorem Zkw:CP (blkF Tryz.f121 0) (Tg.st ⟨tm 84 [(1,.pt 8001 0 0),(2,.pt 8002 0 0),(3,int 0)],[(8002,.box 89 zW),(8001,.box 89 w.cells)],60⟩) .nrm (Tg.st ⟨tm 84 [(1,.pt 8001 0 0),(2,.pt 8002 0 0)],[(8002,.box 89 zW),(8001,.box 89 (fillN w w.old.length).cells)],60⟩):=by
 have hol:=hw.ol;refine Z07 (S:=fun k=>(ZlX (fillN w k) k).st) w.old.length kr (fun k hk=>?_) ?_
 ·have h:=Z6J w hw k;have:=ZiK (fillN w k) k h.1 (by rw[h.2.2.2.2.2.1];exact hk) oq;rw[h.2.2.2.2.2.1]at this;exact this
 ·have h:=Z6J w hw w.old.length;have:=ZmQ (fillN w w.old.length);rw[h.2.2.2.2.2.1]at this;exact this
theorem Zcu:GP 121 [w.av] false (fillN w w.old.length).av []:=by
 exact gF [] Tryz.func121 [] (Fu (@Zkw w aa aa) Fz)
end
def Z6Z(s:Int)(p:Page):Prop:=p.K≠0∧p.S=s
instance (s:Int) (p:Page):Decidable (Z6Z s p):=by unfold Z6Z;infer_instance
def Z2A(s:Int)(p:Page):Page:=if Z6Z s p then⟨0,0,0,0⟩else p
def Z2L(pw s:Int)(l:List Page)(ws:List Int):Nat→List Int
 | 0=>ws
 | i+1=>if Z6Z s (l.getD i default)then spl (Z2L pw s l ws i) (i*pw.toNat) (List.replicate pw.toNat 0)else Z2L pw s l ws i
def Z4u(n s:Int)(l:List Page):Nat→Int
 | 0=>n
 | i+1=>if Z6Z s (l.getD i default)then Z4u n s l i+1 else Z4u n s l i
def Zgf(w:Work)(ps:List Page)(ws:List Int)(n:Int)(i:Nat):Tg:=⟨tm 78 [(1,.pt 8001 0 0),(2,.pt 8002 0 0),(3,int i)],[(8001,.box 89 [int w.heap.C.pw,int w.heap.C.pg,.ow 24017,.ow 16010,int w.heap.S,int w.heap.B,Z01 w.old,Z0l w.T,Z01 w.Q,int w.D,int w.rep.copied,int w.rep.kept,int w.rep.filled,int n,int w.rep.cleared,int w.rep.steps]),(24017,.arr 35 1 (ws.map wdv)),(16010,.arr 84 4 (ps.map Page.dv)),(8002,.box 89 zW)],60⟩
theorem Zlz(w:Work)(ps:List Page)(ws:List Int)(n:Int)(i:Nat)(hl:ps.length≤64)(hi:i<ps.length)(hb:¬ Z6Z w.heap.S (ps.getD i default)):CP (rndF Tryz.f120 0) (Zgf w ps ws n i).st .nrm (Zgf w ps ws n (i+1)).st:=by
 unfold Z6Z at hb;have hb':¬ ((ps.getD (i:Int).toNat default).K≠0∧(ps.getD (i:Int).toNat default).S=w.heap.S):=hb;exact sF [] [] (FM 24 25 Page.dv ps i (Fmq 33 Page.dv ps (↑i) (Ftb 44 ((ps.getD (↑i:Int).toNat default).K==0||(ps.getD (↑i:Int).toNat default).S != w.heap.S) (Fx 27 i Fz))))
def ZiG(w:Work)(ps:List Page)(ws:List Int)(n:Int)(i k:Nat):Tg:=⟨tm 78 [(1,.pt 8001 0 0),(2,.pt 8002 0 0),(3,int i),(5,int k)],[(8001,.box 89 [int w.heap.C.pw,int w.heap.C.pg,.ow 24017,.ow 16010,int w.heap.S,int w.heap.B,Z01 w.old,Z0l w.T,Z01 w.Q,int w.D,int w.rep.copied,int w.rep.kept,int w.rep.filled,int n,int w.rep.cleared,int w.rep.steps]),(16010,.arr 84 4 (ps.map Page.dv)),(24017,.arr 35 1 ((wr ws (List.replicate w.heap.C.pw.toNat 0) (i*w.heap.C.pw.toNat) k).map wdv)),(8002,.box 89 zW)],64⟩
section
variable (w:Work) (ps:List Page) (ws:List Int) (n:Int) (i k:Nat) (hp:0≤w.heap.C.pw∧w.heap.C.pw≤64) (hi:i≤64) (hl:i*w.heap.C.pw.toNat+w.heap.C.pw.toNat≤ws.length) (hw:ws.length≤4096)
include hp hi hl hw
theorem ZhJ(hk:k<w.heap.C.pw.toNat):CP (rndF Tryz.f120 2) (ZiG w ps ws n i k).st .nrm (ZiG w ps ws n i (k+1)).st:=by
 have hs:=Zb7 (ws:=ws) (l:=List.replicate w.heap.C.pw.toNat 0) (i:=i*w.heap.C.pw.toNat) (k:=k) (by simpa using hl) (by simpa using hk) (0:Int);rw[show(List.replicate w.heap.C.pw.toNat (0:Int)).getD k 0=0 by simp[List.getD,hk]]at hs;have hn:=Z4I (ws:=ws) (l:=List.replicate w.heap.C.pw.toNat (0:Int)) (i:=i*w.heap.C.pw.toNat) (k:=k) (by simpa using hl) qo;have em:(i:Int)*w.heap.C.pw=((i*w.heap.C.pw.toNat:Nat):Int):=by rw[Int.natCast_mul,Int.toNat_of_nonneg hp.1]
 have ei:(i:Int)*w.heap.C.pw+k=((i*w.heap.C.pw.toNat+k:Nat):Int):=by omega
 exact sF [] (fO 6) (Fh 10076 [.els (List.map wdv ((wr ws (List.replicate w.heap.C.pw.toNat 0) (i*w.heap.C.pw.toNat) k).set (↑(i*w.heap.C.pw.toNat+k):Int).toNat 0))] (Ftb 62 (decide ((↑k:Int)<w.heap.C.pw)) (Fi 73 ((↑i:Int)*w.heap.C.pw) (Fg 75 (by rw[wrapI' oq oq];omega:IntKind.i64.wrap ((↑i:Int)*w.heap.C.pw+(↑k:Int))=(↑(i*w.heap.C.pw.toNat+k):Int)) (Fa (by(simp only[List.length_map];omega):0≤(↑(i*w.heap.C.pw.toNat+k):Int)∧(↑(i*w.heap.C.pw.toNat+k):Int).toNat<(List.map wdv (wr ws (List.replicate w.heap.C.pw.toNat 0) (i*w.heap.C.pw.toNat) k)).length) (Fa (by(simp only[List.length_map];omega):(↑(i*w.heap.C.pw.toNat+k):Int).toNat<(List.map wdv (wr ws (List.replicate w.heap.C.pw.toNat 0) (i*w.heap.C.pw.toNat) k)).length) (Fa (ms:(List.map wdv (wr ws (List.replicate w.heap.C.pw.toNat 0) (i*w.heap.C.pw.toNat) k)).set (↑(i*w.heap.C.pw.toNat+k):Int).toNat [du64 0]=List.map wdv ((wr ws (List.replicate w.heap.C.pw.toNat 0) (i*w.heap.C.pw.toNat) k).set (↑(i*w.heap.C.pw.toNat+k):Int).toNat 0)) (Fx 64 k (Fr (35:Int) (Fa (by refine congrArg _ ?_;exact hs:List.map wdv ((wr ws (List.replicate w.heap.C.pw.toNat 0) (i*w.heap.C.pw.toNat) k).set (↑(i*w.heap.C.pw.toNat+k):Int).toNat 0)=List.map wdv (wr ws (List.replicate w.heap.C.pw.toNat 0) (i*w.heap.C.pw.toNat) (k+1))) Fz))))))))))
theorem Znp:CP (rndF Tryz.f120 2) (ZiG w ps ws n i w.heap.C.pw.toNat).st (.ext 2) (Tg.st ⟨tm 78 [(1,.pt 8001 0 0),(2,.pt 8002 0 0),(3,int i)],[(8001,.box 89 [int w.heap.C.pw,int w.heap.C.pg,.ow 24017,.ow 16010,int w.heap.S,int w.heap.B,Z01 w.old,Z0l w.T,Z01 w.Q,int w.D,int w.rep.copied,int w.rep.kept,int w.rep.filled,int n,int w.rep.cleared,int w.rep.steps]),(16010,.arr 84 4 (ps.map Page.dv)),(24017,.arr 35 1 ((spl ws (i*w.heap.C.pw.toNat) (List.replicate w.heap.C.pw.toNat 0)).map wdv)),(8002,.box 89 zW)],64⟩):=by
 have hs:=Zc5 ws (List.replicate w.heap.C.pw.toNat (0:Int)) (i*w.heap.C.pw.toNat);rw[List.length_replicate]at hs;exact sF [] (fO 5) (Ffb 62 (decide ((↑w.heap.C.pw.toNat:Int)<w.heap.C.pw)) (Fr (35:Int) (Fa (by refine congrArg _ ?_;assumption:List.map wdv (wr ws (List.replicate w.heap.C.pw.toNat 0) (i*w.heap.C.pw.toNat) w.heap.C.pw.toNat)=List.map wdv (spl ws (i*w.heap.C.pw.toNat) (List.replicate w.heap.C.pw.toNat 0))) Fz)))
theorem Zl2:CP (blkF Tryz.f120 2) (Tg.st ⟨tm 78 [(1,.pt 8001 0 0),(2,.pt 8002 0 0),(3,int i),(5,int 0)],[(8001,.box 89 [int w.heap.C.pw,int w.heap.C.pg,.ow 24017,.ow 16010,int w.heap.S,int w.heap.B,Z01 w.old,Z0l w.T,Z01 w.Q,int w.D,int w.rep.copied,int w.rep.kept,int w.rep.filled,int n,int w.rep.cleared,int w.rep.steps]),(16010,.arr 84 4 (ps.map Page.dv)),(24017,.arr 35 1 (ws.map wdv)),(8002,.box 89 zW)],64⟩) .nrm (Tg.st ⟨tm 78 [(1,.pt 8001 0 0),(2,.pt 8002 0 0),(3,int i)],[(8001,.box 89 [int w.heap.C.pw,int w.heap.C.pg,.ow 24017,.ow 16010,int w.heap.S,int w.heap.B,Z01 w.old,Z0l w.T,Z01 w.Q,int w.D,int w.rep.copied,int w.rep.kept,int w.rep.filled,int n,int w.rep.cleared,int w.rep.steps]),(16010,.arr 84 4 (ps.map Page.dv)),(24017,.arr 35 1 ((spl ws (i*w.heap.C.pw.toNat) (List.replicate w.heap.C.pw.toNat 0)).map wdv)),(8002,.box 89 zW)],64⟩):=by
 have:=Z07 (S:=fun k=>(ZiG w ps ws n i k).st) w.heap.C.pw.toNat kr (fun k hk=>ZhJ w ps ws n i k hp hi hl hw hk) (Znp w ps ws n i hp hi hl hw)
 simp only[ZiG,Z9h]at this;exact this
end
theorem Zmb(w:Work)(ps:List Page)(ws:List Int)(n:Int)(i:Nat)(hl:ps.length≤64)(hi:i<ps.length)(hb:Z6Z w.heap.S (ps.getD i default))(hp:0≤w.heap.C.pw∧w.heap.C.pw≤64)(hs:i*w.heap.C.pw.toNat+w.heap.C.pw.toNat≤ws.length)(hw:ws.length≤4096)(hn:0≤n∧n≤64):CP (rndF Tryz.f120 0) (Zgf w ps ws n i).st .nrm (Zgf w (ps.set i ⟨0,0,0,0⟩) (spl ws (i*w.heap.C.pw.toNat) (List.replicate w.heap.C.pw.toNat 0)) (n+1) (i+1)).st:=by
 unfold Z6Z at hb;have hb':(ps.getD (i:Int).toNat default).K≠0∧(ps.getD (i:Int).toNat default).S=w.heap.S:=hb;exact sF [] [] (Fh 10050 [.els (List.map Page.dv (ps.set (↑i:Int).toNat (Page.mk 0 0 0 0)))] (FM 24 25 Page.dv ps i (Fmq 33 Page.dv ps (↑i) (Ffb 44 ((ps.getD (↑i:Int).toNat default).K==0||(ps.getD (↑i:Int).toNat default).S != w.heap.S) (Fa (by(simp only[List.length_map];omega):0≤(↑i:Int)∧(↑i:Int).toNat<(List.map Page.dv ps).length) (Fa (by(simp only[List.length_map];omega):(↑i:Int).toNat<(List.map Page.dv ps).length) (Fa (by rw[List.map_set];rfl:(List.map Page.dv ps).set (↑i:Int).toNat [dint 0,dint 0,dint 0,dint 0]=List.map Page.dv (ps.set (↑i:Int).toNat (Page.mk 0 0 0 0))) (Fi 54 (n+1) (Fu (@Zl2 w (ps.set (↑i:Int).toNat (Page.mk 0 0 0 0)) ws (n+1) i aa oq aa aa) (Fx 27 i Fz))))))))))
theorem Z5k{pw s:Int}{l:List Page}{ws:List Int}(h:l.length*pw.toNat≤ws.length):∀ i,i≤l.length→(Z2L pw s l ws i).length=ws.length
 | 0,_=>rfl
 | i+1,hi=>by
  have ih:=Z5k (s:=s) h i oq;have hm:(i+1)*pw.toNat≤l.length*pw.toNat:=Nat.mul_le_mul_right _ hi;rw[Nat.add_mul,Nat.one_mul]at hm;unfold Z2L;split
  ·rw[Z4i qo,ih]
  ·exact ih
theorem Z5N(n s:Int)(l:List Page):∀ i:Nat,n≤Z4u n s l i∧Z4u n s l i≤n+i
 | 0=>by simp[Z4u]
 | i+1=>by
  have ih:=Z5N n s l i;unfold Z4u;split<;>omega
def Z1v(w:Work):Work:=⟨⟨w.heap.C,Z2L w.heap.C.pw w.heap.S w.heap.P w.heap.W w.heap.P.length,w.heap.P.map (Z2A w.heap.S),w.heap.S,w.heap.B⟩,w.old,w.T,w.Q,w.D,⟨w.rep.copied,w.rep.kept,w.rep.filled,Z4u w.rep.freed w.heap.S w.heap.P w.heap.P.length,w.rep.cleared,w.rep.steps⟩⟩
theorem ZnR(w:Work)(ps:List Page)(ws:List Int)(n:Int):CP (rndF Tryz.f120 0) (Zgf w ps ws n ps.length).st (.ext 0) (Tg.st ⟨tm 78 [(1,.pt 8001 0 0),(2,.pt 8002 0 0)],[(8001,.box 89 [int w.heap.C.pw,int w.heap.C.pg,.ow 24017,.ow 16010,int w.heap.S,int w.heap.B,Z01 w.old,Z0l w.T,Z01 w.Q,int w.D,int w.rep.copied,int w.rep.kept,int w.rep.filled,int n,int w.rep.cleared,int w.rep.steps]),(24017,.arr 35 1 (ws.map wdv)),(16010,.arr 84 4 (ps.map Page.dv)),(8002,.box 89 zW)],60⟩):=by
 exact sF [] [] (FO 24 25 Page.dv ps Fz)
section
variable (w:Work) (hl:w.heap.P.length≤64) (hp:0≤w.heap.C.pw∧w.heap.C.pw≤64) (hs:w.heap.P.length*w.heap.C.pw.toNat≤w.heap.W.length) (hw:w.heap.W.length≤4096) (hr:w.rep.freed=0)
include hl hp hs hw hr
theorem Zmf:CP (blkF Tryz.f120 0) (Tg.st ⟨tm 78 [(1,.pt 8001 0 0),(2,.pt 8002 0 0),(3,int 0)],[(8001,.box 89 [int w.heap.C.pw,int w.heap.C.pg,.ow 24017,.ow 16010,int w.heap.S,int w.heap.B,Z01 w.old,Z0l w.T,Z01 w.Q,int w.D,int w.rep.copied,int w.rep.kept,int w.rep.filled,int w.rep.freed,int w.rep.cleared,int w.rep.steps]),(24017,.arr 35 1 (w.heap.W.map wdv)),(16010,.arr 84 4 (w.heap.P.map Page.dv)),(8002,.box 89 zW)],60⟩) .nrm (Tg.st ⟨tm 78 [(1,.pt 8001 0 0),(2,.pt 8002 0 0)],[(8001,.box 89 [int w.heap.C.pw,int w.heap.C.pg,.ow 24017,.ow 16010,int w.heap.S,int w.heap.B,Z01 w.old,Z0l w.T,Z01 w.Q,int w.D,int w.rep.copied,int w.rep.kept,int w.rep.filled,int (Z4u w.rep.freed w.heap.S w.heap.P w.heap.P.length),int w.rep.cleared,int w.rep.steps]),(24017,.arr 35 1 ((Z2L w.heap.C.pw w.heap.S w.heap.P w.heap.W w.heap.P.length).map wdv)),(16010,.arr 84 4 ((w.heap.P.map (Z2A w.heap.S)).map Page.dv)),(8002,.box 89 zW)],60⟩):=by
 refine Z07 (S:=fun k=>(Zgf w (preM (Z2A w.heap.S) w.heap.P k) (Z2L w.heap.C.pw w.heap.S w.heap.P w.heap.W k) (Z4u w.rep.freed w.heap.S w.heap.P k) k).st) w.heap.P.length kr (fun k hk=>?_) ?_
 ·have h1:=Z35 (Z2A w.heap.S) w.heap.P k;have h2:=Z63 (Z2A w.heap.S) w.heap.P (Nat.le_refl k) default;have h3:=Z5k (s:=w.heap.S) hs k oq;have h4:=Z5N w.rep.freed w.heap.S w.heap.P k;by_cases hb:Z6Z w.heap.S (w.heap.P.getD k default)
  ·have e1:=Z4U (Z2A w.heap.S) w.heap.P hk default;have e2:Z2L w.heap.C.pw w.heap.S w.heap.P w.heap.W (k+1)=spl (Z2L w.heap.C.pw w.heap.S w.heap.P w.heap.W k) (k*w.heap.C.pw.toNat) (List.replicate w.heap.C.pw.toNat 0):=by rw[Z2L,if_pos hb]
   have e3:Z4u w.rep.freed w.heap.S w.heap.P (k+1)=Z4u w.rep.freed w.heap.S w.heap.P k+1:=by rw[Z4u,if_pos hb]
   rw[Z2A,if_pos hb]at e1;rw[← e1,e2,e3];have hm:(k+1)*w.heap.C.pw.toNat≤w.heap.P.length*w.heap.C.pw.toNat:=Nat.mul_le_mul_right _ hk;rw[Nat.add_mul,Nat.one_mul]at hm;exact Zmb w _ _ _ k oq oq (by rw[h2];exact hb) hp oq oq oq
  ·have e1:=Z6v (Z2A w.heap.S) w.heap.P hk default (by rw[Z2A,if_neg hb]);have e2:Z2L w.heap.C.pw w.heap.S w.heap.P w.heap.W (k+1)=Z2L w.heap.C.pw w.heap.S w.heap.P w.heap.W k:=by rw[Z2L,if_neg hb]
   have e3:Z4u w.rep.freed w.heap.S w.heap.P (k+1)=Z4u w.rep.freed w.heap.S w.heap.P k:=by rw[Z4u,if_neg hb]
   rw[← e1,e2,e3];exact Zlz w _ _ _ k oq oq (by rw[h2];exact hb)
 ·have h:=ZnR w (preM (Z2A w.heap.S) w.heap.P w.heap.P.length) (Z2L w.heap.C.pw w.heap.S w.heap.P w.heap.W w.heap.P.length) (Z4u w.rep.freed w.heap.S w.heap.P w.heap.P.length);rw[Z35,Z6o]at h;simp only[Z6o];exact h
theorem Zcw:GP 120 [w.av] false (Z1v w).av []:=by
 have h1:=Z5k (s:=w.heap.S) hs w.heap.P.length (Nat.le_refl _);have h2:=Z5N w.rep.freed w.heap.S w.heap.P w.heap.P.length;exact gF [] Tryz.func120 [] (FAx 6 10 Page.dv w.heap.P (by(simp[Z1v, *];omega)) (FAx 13 17 wdv w.heap.W (by(simp[Z1v, *];omega)) (Fu (@Zmf w aa aa aa aa aa) Fz)))
end
def rep0:Rep:=⟨0,0,0,0,0,0⟩
theorem Z4P{h:Heap}{l:List Int}(e:Z0m h l=true):Z0s h=⟨0,0,0⟩:=by
 simp only[Z0m,Bool.and_eq_true,decide_eq_true_eq]at e;exact e.1
section
variable (h:Heap) (s k:List Int) (hw:WOk h.W) (hs:s.length≤1048575) (hk:k.length≤1048575) (hs2:ULe s) (hk2:ULe k)
include hw hs hk hs2 hk2
theorem ZlL(hp:Z02 h=false):GP 69 [h.av,Z01 s,Z01 k] false (.tu [noHeap.av,Z01 [],Z01 [],.ag rep0.cells,int 1]) []:=by
 exact gF [] Tryz.func69 [] (Fc 20 (@Z0h h) (Ftb 21 (!Z02 h) (Fnl (Fnl (Fnl (Fnl Fz))))))
theorem ZkZ(hp:Z02 h=true)(hr:Z0m h s=false∨Z0m h k=false):GP 69 [h.av,Z01 s,Z01 k] false (.tu [noHeap.av,Z01 [],Z01 [],.ag rep0.cells,int 19]) []:=by
 by_cases h1:Z0m h s=false
 ·exact gF [] Tryz.func69 [] (Fc 20 (@Z0h h) (Ffb 21 (!Z02 h) (Fc 26 (@Z1M h s aa oq) (FcG 31 (!!Z0m h s) (fun hg=>by(try simp only[bs]at hg);exact @Zde h k aa (by(try simp only[bs]at hg);grind[noHeap,rep0])) (Fts 33 (!Z0m h s||true) (Fnl (Fnl (Fnl (Fnl Fz)))))))))
 ·have h2:Z0m h k=false:=by
   rcases hr with hr | hr
   ·exact absurd hr h1
   ·exact hr
  exact gF [] Tryz.func69 [] (Fc 20 (@Z0h h) (Ffb 21 (!Z02 h) (Fc 26 (@Z1M h s aa oq) (FcG 31 (!!Z0m h s) (fun hg=>by(try simp only[bs]at hg);exact @Z1M h k aa oq) (Ftb 33 (!Z0m h s||!Z0m h k) (Fnl (Fnl (Fnl (Fnl Fz)))))))))
theorem ZlK(hp:Z02 h=true)(hr:Z0m h s=true)(hr':Z0m h k=true)(e:¬ (rootsF (beginW h) s).2.2=0):GP 69 [h.av,Z01 s,Z01 k] false (.tu [noHeap.av,Z01 [],Z01 [],.ag rep0.cells,int (rootsF (beginW h) s).2.2]) []:=by
 have hb:=Z3H hw hp;have hg:=Z4P hr;exact gF [] Tryz.func69 [] (Fc 20 (@Z0h h) (Ffb 21 (!Z02 h) (Fc 26 (@Z1M h s aa oq) (FcG 31 (!!Z0m h s) (fun hg=>by(try simp only[bs]at hg);exact @Z1M h k aa oq) (Ffs 33 (!Z0m h s||!Z0m h k) (Fc 38 (@Z3v h aa aa aa) (Fc 44 (@Z5l (beginW h) s aa aa aa) (Ftb 49 ((rootsF (beginW h) s).snd.snd != 0) (Fnl (Fnl (Fnl (Fnl Fz))))))))))))
theorem ZkY(hp:Z02 h=true)(hr:Z0m h s=true)(hr':Z0m h k=true)(e:(rootsF (beginW h) s).2.2=0)(e2:¬ (allF (rootsF (beginW h) s).1).2=0):GP 69 [h.av,Z01 s,Z01 k] false (.tu [noHeap.av,Z01 [],Z01 [],.ag rep0.cells,int (allF (rootsF (beginW h) s).1).2]) []:=by
 have hb:=Z3H hw hp;have hi:=Z54 hp;have hg:=Z4P hr;have ho:=Z4S (roots:=s) hb hi e;have ho1:=ho.1;let y0:=rootsF (beginW h) s;exact gF [] Tryz.func69 [] (Fc 20 (@Z0h h) (Ffb 21 (!Z02 h) (Fc 26 (@Z1M h s aa oq) (FcG 31 (!!Z0m h s) (fun hg=>by(try simp only[bs]at hg);exact @Z1M h k aa oq) (Ffs 33 (!Z0m h s||!Z0m h k) (Fc 38 (@Z3v h aa aa aa) (Fc 44 (@Z5l (beginW h) s aa aa aa) (Ffb 49 (y0.snd.snd != 0) (Fc 55 (@ZbY (y0.fst) aa) (Ftb 59 ((allF y0.fst).snd != 0) (Fnl (Fnl (Fnl (Fnl Fz))))))))))))))
end
def Z8P(w:Work)(x:Int):Int:=if x=0 then 0 else Z1y w x
def Z9r(w:Work)(x:Int):Work:=⟨w.heap,w.old,w.T,w.Q,w.D,⟨w.rep.copied,w.rep.kept,w.rep.filled,w.rep.freed,if x≠0∧Z1y w x=0 then w.rep.cleared+1 else w.rep.cleared,w.rep.steps⟩⟩
def weakS(w:Work)(k:List Int):Nat→Work
 | 0=>w
 | i+1=>Z9r (weakS w k i) (k.getD i default)
def Z5Y(w:Work)(k:List Int):Nat→List Int
 | 0=>[]
 | i+1=>Z5Y w k i++[Z8P (weakS w k i) (k.getD i default)]
theorem Z7P(w:Work)(k:List Int):∀ i,(weakS w k i).heap=w.heap∧(weakS w k i).old=w.old∧(weakS w k i).T=w.T∧(weakS w k i).Q=w.Q∧(weakS w k i).rep.filled=w.rep.filled∧(weakS w k i).rep.freed=w.rep.freed∧w.rep.cleared≤(weakS w k i).rep.cleared∧(weakS w k i).rep.cleared≤w.rep.cleared+i
 | 0=>⟨rfl,rfl,rfl,rfl,rfl,rfl,by simp[weakS],by simp[weakS]⟩
 | i+1=>by
  obtain⟨h1,h2,h3,h4,h5,h6,h7,h8⟩:=Z7P w k i;refine⟨h1,h2,h3,h4,h5,h6, ?_, ?_⟩
  ·simp only[weakS,Z9r];split<;>omega
  ·simp only[weakS,Z9r];split<;>omega
theorem Z8m(w:Work)(k:List Int):∀ i,(Z5Y w k i).length=i
 | 0=>rfl
 | i+1=>by simp[Z5Y,Z8m w k i]
def Zl4(w:Work)(k roots out:List Int)(i:Nat):Tg:=⟨tm 122 [(2,Z01 k),(6,.pt 8006 0 0),(7,.d (.sl 0 [])),(8,.d (.sl 0 [])),(9,.pt 8009 0 0),(10,int 0),(11,.pt 32011 0 0),(13,Z01 roots),(15,.ow 72015),(16,int i)],[(72015,.arr 35 1 (out.map wdv)),(32011,.box 89 w.cells),(8009,.box 71 [int 0,int 0,int 0,int 0,int 0,int 0]),(8006,.box 28 [int 0,int 0,.d (.sl 0 []),.d (.sl 0 []),int 0,int 0])],60⟩
section
variable (w:Work) (k roots out:List Int) (i:Nat) (hw:WOk w.heap.W) (hl:w.heap.W.length≤4096) (hq:w.Q.length≤1048576) (hk:k.length≤1048575) (hx:0≤k.getD i default∧k.getD i default≤18446744073709551615) (ho:out.length≤1048576) (hi:i<k.length) (hc:0≤w.rep.cleared∧w.rep.cleared≤2097152)
include hw hl hq hk hx ho hi hc
theorem ZiH:CP (rndF Tryz.f69 0) (Zl4 w k roots out i).st .nrm (Zl4 (Z9r w (k.getD i default)) k roots (out++[Z8P w (k.getD i default)]) (i+1)).st:=by
 by_cases h0:k.getD i default=0
 ·have e1:Z8P w (k.getD i default)=0:=by rw[Z8P,if_pos h0]
  have e2:Z9r w (k.getD i default)=w:=by rw[Z9r,if_neg (by rintro⟨q,_⟩;exact q h0)]
  rw[e1,e2];exact sF [(504091,72015)] [] (Fh 91 [.els (List.map wdv (out++[0]))] (FN 65 66 71 wdv k i (Ffb 73 (k.getD i default != 0) (Fs 90 (List.map wdv [0]) (Fa (by(simp[*];omega):(List.map wdv out).length+(List.map wdv [0]).length≤2^30) (Fa (ms:List.map wdv out++List.map wdv [0]=List.map wdv (out++[0])) (Fx 68 i Fz)))))))
 ·have e1:Z8P w (k.getD i default)=Z1y w (k.getD i default):=by rw[Z8P,if_neg h0]
  rw[e1];by_cases h2:Z1y w (k.getD i default)=0
  ·have e2:Z9r w (k.getD i default)=⟨w.heap,w.old,w.T,w.Q,w.D,⟨w.rep.copied,w.rep.kept,w.rep.filled,w.rep.freed,w.rep.cleared+1,w.rep.steps⟩⟩:=by rw[Z9r,if_pos ⟨h0,h2⟩]
   rw[e2];let y0:=k.getD i default;exact sF [(528091,72015)] [] (Fh 91 [.els (List.map wdv (out++[Z1y w y0]))] (FN 65 66 71 wdv k i (Ftb 73 (k.getD i default != 0) (Fek 77 wdv k (↑i) i (Fc 79 (@Z9Q w y0 aa aa aa aa) (Ftb 81 (Z1y w y0==0) (Fi 85 (w.rep.cleared+1) (Fs 90 (List.map wdv [Z1y w y0]) (Fa (by(simp[*];omega):(List.map wdv out).length+(List.map wdv [Z1y w y0]).length≤2^30) (Fa (ms:List.map wdv out++List.map wdv [Z1y w y0]=List.map wdv (out++[Z1y w y0])) (Fx 68 i Fz)))))))))))
  ·have e2:Z9r w (k.getD i default)=w:=by rw[Z9r,if_neg (by rintro⟨_,q⟩;exact h2 q)]
   rw[e2];let y1:=k.getD i default;exact sF [(520091,72015)] [] (Fh 91 [.els (List.map wdv (out++[Z1y w y1]))] (FN 65 66 71 wdv k i (Ftb 73 (k.getD i default != 0) (Fek 77 wdv k (↑i) i (Fc 79 (@Z9Q w y1 aa aa aa aa) (Ffb 81 (Z1y w y1==0) (Fs 90 (List.map wdv [Z1y w y1]) (Fa (by(simp[*];omega):(List.map wdv out).length+(List.map wdv [Z1y w y1]).length≤2^30) (Fa (ms:List.map wdv out++List.map wdv [Z1y w y1]=List.map wdv (out++[Z1y w y1])) (Fx 68 i Fz))))))))))
end
theorem Zow(w:Work)(k roots out:List Int):CP (rndF Tryz.f69 0) (Zl4 w k roots out k.length).st (.ext 0) (Tg.st ⟨tm 122 [(6,.pt 8006 0 0),(7,.d (.sl 0 [])),(8,.d (.sl 0 [])),(9,.pt 8009 0 0),(10,int 0),(11,.pt 32011 0 0),(13,Z01 roots),(15,.ow 72015)],[(72015,.arr 35 1 (out.map wdv)),(32011,.box 89 w.cells),(8009,.box 71 [int 0,int 0,int 0,int 0,int 0,int 0]),(8006,.box 28 [int 0,int 0,.d (.sl 0 []),.d (.sl 0 []),int 0,int 0])],60⟩):=by
 exact sF [] [] (FO 65 66 wdv k Fz)
theorem Zf3(w:Work)(k roots:List Int)(hw:WOk w.heap.W)(hl:w.heap.W.length≤4096)(hq:w.Q.length≤1048576)(hk:k.length≤1048575)(hx:ULe k)(hc:w.rep.cleared=0):CP (blkF Tryz.f69 0) (Zl4 (weakS w k 0) k roots (Z5Y w k 0) 0).st .nrm (Tg.st ⟨tm 122 [(6,.pt 8006 0 0),(7,.d (.sl 0 [])),(8,.d (.sl 0 [])),(9,.pt 8009 0 0),(10,int 0),(11,.pt 32011 0 0),(13,Z01 roots),(15,.ow 72015)],[(72015,.arr 35 1 ((Z5Y w k k.length).map wdv)),(32011,.box 89 (weakS w k k.length).cells),(8009,.box 71 [int 0,int 0,int 0,int 0,int 0,int 0]),(8006,.box 28 [int 0,int 0,.d (.sl 0 []),.d (.sl 0 []),int 0,int 0])],60⟩):=by
 refine Z07 (S:=fun i=>(Zl4 (weakS w k i) k roots (Z5Y w k i) i).st) k.length kr (fun i hi=>?_) (Zow _ k roots _);have h:=Z7P w k i;exact ZiH _ k roots _ i (by rw[h.1];exact hw) (by rw[h.1];exact hl) (by rw[h.2.2.2.1];exact hq) hk (Z4p hx i) (by rw[Z8m];omega) hi oq
abbrev cB(h:Heap)(s k:List Int):Work:=weakS (allF (rootsF (beginW h) s).fst).fst k k.length
abbrev cA(h:Heap)(s k:List Int):Work:=fillN (cB h s k) (cB h s k).old.length
theorem ZdM{n:Int}(h:0≤n∧n≤255):(decodeH (1+16*n)).1.length=n:=by
 have e:Z36 (1+16*n)=⟨0,n,0⟩:=by
  simp only[Z36,Header.mk.injEq];omega
 have he:=Z86 h;unfold decodeH;rw[e,he];simp
theorem Zip{w:Work}(h:CIv w){x:Int}(hx:x∈w.old):CIv (Z7J w x):=by
 unfold Z7J;split
 ·rename_i hc;have hr:=h.r x (List.mem_append_left _ hx);have hh:=Z0Q w.heap.W x;have hl:(objW ⟨0,(hdW w x).length,0⟩).length=(hlA w.heap.W x+1).toNat:=by
   show(objW ⟨0,hlA w.heap.W x,0⟩).length=_;simp[objW];omega
  have hin:4096≤x∧x-4096+(objW ⟨0,(hdW w x).length,0⟩).length≤w.heap.W.length:=by omega
  have hlen:(Z0E w.heap.W x (objW ⟨0,(hdW w x).length,0⟩)).1.length=w.heap.W.length:=by
   unfold Z0E;rw[if_pos hin];exact Z4i oq
  have:=h.withWords hlen (fun a ha=>?_)
  ·exact⟨this.L,this.r,this.s,this.f,this.z⟩
  ·by_cases he:a=x
   ·subst he;have:hlA (Z0E w.heap.W a (objW ⟨0,(hdW w a).length,0⟩)).1 a=hlA w.heap.W a:=by
     have e1:=Z48 (b:=a) hin oq;unfold hlA at *;rw[e1];have e2:(objW ⟨0,(hdW w a).length,0⟩).getD (a-a).toNat 0=1+16*(decodeH (loadA w.heap.W a).1).1.length:=by
      rw[Int.sub_self];show(Z0c ⟨0,(hdW w a).length,0⟩).1=_;rw[Z86 (show 0≤(hdW w a).length∧(hdW w a).length≤255 from hh)];rfl
     rw[e2];exact ZdM hh
    omega
   ·have s1:=h.s a ha x (List.mem_append_left _ hx);have s2:=h.s x (List.mem_append_left _ hx) a ha;have ha0:=Z0Q w.heap.W a;have:hlA (Z0E w.heap.W x (objW ⟨0,(hdW w x).length,0⟩)).1 a=hlA w.heap.W a:=by
     have e1:=Z3M (b:=a) hin (by
      rcases Int.lt_or_lt_of_ne he with q | q
      ·exact Or.inl q
      ·have:=s2 q;exact Or.inr oq)
     unfold hlA;rw[e1]
    omega
 ·exact h
theorem Zdr{w:Work}(hw:FOk w)(h:CIv w):∀ k,k≤w.old.length→CIv (fillN w k)
 | 0,_=>h
 | k+1,hk=>Zip (Zdr hw h k oq) (by rw[(Z6J w hw k).2.2.2.2.2.1];exact getD_mem_iff.2 ⟨k,by omega,rfl⟩)
theorem ZcO{w:Work}(h:CIv w)(k:List Int):∀ i,CIv (weakS w k i)
 | 0=>h
 | i+1=>by
  have ih:=ZcO h k i;exact⟨ih.L,ih.r,ih.s,ih.f,ih.z⟩
theorem ZcI{w:Work}(h:FOk w)(k:List Int):∀ i,FOk (weakS w k i)
 | 0=>h
 | i+1=>by
  have ih:=ZcI h k i;exact⟨ih.W,ih.wl,ih.pl,ih.ol,ih.o,ih.tl,ih.ql⟩
def cW2(h:Heap)(s:List Int):Work:=(allF (rootsF (beginW h) s).1).1
def cW3(h:Heap)(s k:List Int):Work:=weakS (cW2 h s) k k.length
def cW4(h:Heap)(s k:List Int):Work:=fillN (cW3 h s k) (cW3 h s k).old.length
def cW5(h:Heap)(s k:List Int):Work:=Z1v (cW4 h s k)
def endH(w:Work):Heap:=⟨w.heap.C,w.heap.W,w.heap.P,1-w.heap.S,if 0<w.T.length then Z0w w else -1⟩
structure COk (h:Heap) (s k:List Int):Prop where
 w2:WkOk (cW2 h s)
 i2:CIv (cW2 h s)
 x2:CEx (beginW h) (cW2 h s)
 f3:FOk (cW3 h s k)
 i3:CIv (cW3 h s k)
 r3:(cW3 h s k).rep.filled=0∧(cW3 h s k).rep.freed=0
 f4:FOk (cW4 h s k)
 i4:CIv (cW4 h s k)
 h4:(cW4 h s k).heap.C=h.C∧(cW4 h s k).heap.P=(cW2 h s).heap.P∧(cW4 h s k).heap.S=(cW2 h s).heap.S∧(cW4 h s k).T=(cW2 h s).T∧(cW4 h s k).rep.freed=0
section
variable (h:Heap) (s k:List Int) (hw:WOk h.W) (hp:Z02 h=true) (e:(rootsF (beginW h) s).2.2=0) (e2:(allF (rootsF (beginW h) s).1).2=0)
include hw hp e e2
theorem cOk:COk h s k:=by
 have hb:=Z3H hw hp;have hi:=Z54 hp;have ho:=Z4S (roots:=s) hb hi e;have w2:WkOk (cW2 h s):=Znz _ ho.1 e2;have i2:=Zld ho.1 ho.2.1 e2;have x2:CEx (beginW h) (cW2 h s):=ho.2.2.1.trans i2.2;have f3:FOk (cW3 h s k):=ZcI w2.fok k _;have i3:CIv (cW3 h s k):=ZcO i2.1 k _;obtain⟨a1,a2,a3,a4,a5,a6,a7,a8⟩:=Z7P (cW2 h s) k k.length;have hr0:=w2.r0;have r3:(cW3 h s k).rep.filled=0∧(cW3 h s k).rep.freed=0:=⟨a5.trans hr0.1,a6.trans hr0.2.1⟩
 obtain⟨b0,b1,b2,b3,b4,b5,b6,b7,b8,b9,b10,b11⟩:=Z6J (cW3 h s k) f3 (cW3 h s k).old.length;refine⟨w2,i2.1,x2,f3,i3,r3,b0,Zdr f3 i3 _ (Nat.le_refl _), ?_, ?_, ?_, ?_, ?_⟩
 ·show(fillN (cW3 h s k) (cW3 h s k).old.length).heap.C=_;rw[b1];show(weakS (cW2 h s) k k.length).heap.C=_;rw[a1];exact x2.c
 ·show(fillN (cW3 h s k) (cW3 h s k).old.length).heap.P=_;rw[b2];show(weakS (cW2 h s) k k.length).heap.P=_;rw[a1]
 ·show(fillN (cW3 h s k) (cW3 h s k).old.length).heap.S=_;rw[b3];show(weakS (cW2 h s) k k.length).heap.S=_;rw[a1]
 ·show(fillN (cW3 h s k) (cW3 h s k).old.length).T=_;rw[b6];exact a3
 ·show(fillN (cW3 h s k) (cW3 h s k).old.length).rep.freed=_;rw[b8];exact r3.2
theorem cOk5:(cW4 h s k).heap.P.length≤64∧0≤(cW4 h s k).heap.C.pw∧(cW4 h s k).heap.C.pw≤64∧(cW4 h s k).heap.P.length*(cW4 h s k).heap.C.pw.toNat≤(cW4 h s k).heap.W.length∧(cW4 h s k).heap.W.length≤4096:=by
 have c:=cOk h s k hw hp e e2;have po:=Z09 hp;have hL:=c.i4.L;have hpl:=c.w2.pl;have hc2:=c.x2.c;have hc:(cW2 h s).heap.C=h.C:=hc2;rw[hc]at hpl;rw[c.h4.1]at hL;have hl4:=c.f4.wl;rw[c.h4.1,c.h4.2.1];refine⟨by omega,by omega,by omega, ?_,hl4⟩;have:(((cW2 h s).heap.P.length*h.C.pw.toNat:Nat):Int)=h.C.pw*h.C.pg:=by
  rw[Int.natCast_mul,Int.toNat_of_nonneg oq,hpl,Int.mul_comm]
 omega
end
def Z0o(h:Heap)(s k:List Int):Heap×List Int×List Int×Rep×Int :=
 if Z02 h=true then
  (if Z0m h s=true∧Z0m h k=true then
   (if(rootsF (beginW h) s).2.2=0 then
    (if(allF (rootsF (beginW h) s).1).2=0 then(endH (cW5 h s k),(rootsF (beginW h) s).2.1,Z5Y (cW2 h s) k k.length,(cW5 h s k).rep,0)
    else(noHeap,[],[],rep0,(allF (rootsF (beginW h) s).1).2))
   else(noHeap,[],[],rep0,(rootsF (beginW h) s).2.2))
  else(noHeap,[],[],rep0,19))
 else(noHeap,[],[],rep0,1)
section
variable (h:Heap) (s k:List Int) (hw:WOk h.W) (hs:s.length≤1048575) (hk:k.length≤1048575) (hs2:ULe s) (hk2:ULe k)
include hw hs hk hs2 hk2
theorem ZlN(hp:Z02 h=true)(hr:Z0m h s=true)(hr':Z0m h k=true)(e:(rootsF (beginW h) s).2.2=0)(e2:(allF (rootsF (beginW h) s).1).2=0):GP 69 [h.av,Z01 s,Z01 k] false (.tu [(endH (cW5 h s k)).av,Z01 (rootsF (beginW h) s).2.1,Z01 (Z5Y (cW2 h s) k k.length),.ag (cW5 h s k).rep.cells,int 0]) []:=by
 have hb:=Z3H hw hp;have hi:=Z54 hp;have hg:=Z4P hr;have ho:=Z4S (roots:=s) hb hi e;have ho1:=ho.1;have ho4:=ho.2.2.2.2;have c:=cOk h s k hw hp e e2;obtain⟨q1,q2,q3,q4,q5⟩:=cOk5 h s k hw hp e e2;have w2:=c.w2;have f3:=c.f3;have r3:=c.r3.1;obtain⟨g1,g2,g3,g4,g5⟩:=c.h4;have v1:=w2.W;have v2:=w2.wl;have v3:=w2.mu;have v4:=w2.tl;have v5:=w2.sp;have v6:=w2.r0.2.2;have v7:=congrArg List.length g4;have z1:(Z1v (cW4 h s k)).T=(cW4 h s k).T:=rfl;have v8:=congrArg List.length z1;have z2:(Z1v (cW4 h s k)).heap.S=(cW4 h s k).heap.S:=rfl;clear c;unfold cW4 at *;unfold cW3 at *;unfold cW2 at *;rcases bb (decide (0<(↑(Z1v (fillN (weakS (allF (rootsF (beginW h) s).fst).fst k k.length) (weakS (allF (rootsF (beginW h) s).fst).fst k k.length).old.length)).T.length:Int)))with hc0 | hc0<;>have hc0p:=hc0<;>simp only[bs]at hc0p
 ·rw[show endH (cW5 h s k)=Heap.mk (Z1v (fillN (weakS (allF (rootsF (beginW h) s).fst).fst k k.length) (weakS (allF (rootsF (beginW h) s).fst).fst k k.length).old.length)).heap.C (Z1v (fillN (weakS (allF (rootsF (beginW h) s).fst).fst k k.length) (weakS (allF (rootsF (beginW h) s).fst).fst k k.length).old.length)).heap.W (Z1v (fillN (weakS (allF (rootsF (beginW h) s).fst).fst k k.length) (weakS (allF (rootsF (beginW h) s).fst).fst k k.length).old.length)).heap.P ((1:Int)-(Z1v (fillN (weakS (allF (rootsF (beginW h) s).fst).fst k k.length) (weakS (allF (rootsF (beginW h) s).fst).fst k k.length).old.length)).heap.S) ((Z1v (fillN (weakS (allF (rootsF (beginW h) s).fst).fst k k.length) (weakS (allF (rootsF (beginW h) s).fst).fst k k.length).old.length)).T.getD ((↑(Z1v (fillN (weakS (allF (rootsF (beginW h) s).fst).fst k k.length) (weakS (allF (rootsF (beginW h) s).fst).fst k k.length).old.length)).T.length:Int)-(1:Int)).toNat default)from by(simp only[endH,cW5,cW4,cW3,cW2,Z0w] ;exact sj)];refine gspec_ofE [((20:Nat),[Hint.call true (Sx.bool (Z02 h)) []]),((21:Nat),[Hint.br false]),((26:Nat),[Hint.call true (Sx.bool (Z0m h s)) []]),((31:Nat),[Hint.call true (Sx.bool (Z0m h k)) []]),((33:Nat),[Hint.br false]),((38:Nat),[Hint.call false (AV.tu [(beginW h).av,int (0:Int)]) []]),((44:Nat),[Hint.call false (AV.tu [(rootsF (beginW h) s).fst.av,Z01 (rootsF (beginW h) s).snd.fst,int (rootsF (beginW h) s).snd.snd]) []]),((49:Nat),[Hint.br false]),((55:Nat),[Hint.call false (AV.tu [(allF (rootsF (beginW h) s).fst).fst.av,int (allF (rootsF (beginW h) s).fst).snd]) []]),((59:Nat),[Hint.br false]),((15:Nat),[Hint.own]),((93:Nat),[Hint.call false (fillN (weakS (allF (rootsF (beginW h) s).fst).fst k k.length) (weakS (allF (rootsF (beginW h) s).fst).fst k k.length).old.length).av []]),((94:Nat),[Hint.call false (Z1v (fillN (weakS (allF (rootsF (beginW h) s).fst).fst k k.length) (weakS (allF (rootsF (beginW h) s).fst).fst k k.length).old.length)).av []]),((98:Nat),[Hint.int ((1:Int)-(Z1v (fillN (weakS (allF (rootsF (beginW h) s).fst).fst k k.length) (weakS (allF (rootsF (beginW h) s).fst).fst k k.length).old.length)).heap.S)]),((105:Nat),[Hint.int (↑(Z1v (fillN (weakS (allF (rootsF (beginW h) s).fst).fst k k.length) (weakS (allF (rootsF (beginW h) s).fst).fst k k.length).old.length)).T.length:Int)]),((107:Nat),[Hint.br true]),((111:Nat),[Hint.int ((↑(Z1v (fillN (weakS (allF (rootsF (beginW h) s).fst).fst k k.length) (weakS (allF (rootsF (beginW h) s).fst).fst k k.length).old.length)).T.length:Int)-(1:Int))]),((112:Nat),[Hint.el (idv ((Z1v (fillN (weakS (allF (rootsF (beginW h) s).fst).fst k k.length) (weakS (allF (rootsF (beginW h) s).fst).fst k k.length).old.length)).T.getD ((↑(Z1v (fillN (weakS (allF (rootsF (beginW h) s).fst).fst k k.length) (weakS (allF (rootsF (beginW h) s).fst).fst k k.length).old.length)).T.length:Int)-(1:Int)).toNat default))])] [((0:Nat),Tg.mk (tm (122:Nat) [((2:Nat),Z01 k),((6:Nat),AV.pt (8006:Nat) (0:Nat) (0:Nat)),((7:Nat),AV.d (DV.sl (0:Nat) [])),((8:Nat),AV.d (DV.sl (0:Nat) [])),((9:Nat),AV.pt (8009:Nat) (0:Nat) (0:Nat)),((10:Nat),int (0:Int)),((11:Nat),AV.pt (32011:Nat) (0:Nat) (0:Nat)),((13:Nat),Z01 (rootsF (beginW h) s).snd.fst),((15:Nat),AV.ow (72015:Nat)),((16:Nat),int (0:Int))]) [((72015:Nat),Blk.arr 35 (1:Nat) []),((32011:Nat),Blk.box 89 (allF (rootsF (beginW h) s).fst).fst.cells),((8009:Nat),Blk.box 71 [int (0:Int),int (0:Int),int (0:Int),int (0:Int),int (0:Int),int (0:Int)]),((8006:Nat),Blk.box 28 [int (0:Int),int (0:Int),AV.d (DV.sl (0:Nat) []),AV.d (DV.sl (0:Nat) []),int (0:Int),int (0:Int)])] (60:Nat),Ex.nrm,Tg.mk (tm (122:Nat) [((6:Nat),AV.pt (8006:Nat) (0:Nat) (0:Nat)),((7:Nat),AV.d (DV.sl (0:Nat) [])),((8:Nat),AV.d (DV.sl (0:Nat) [])),((9:Nat),AV.pt (8009:Nat) (0:Nat) (0:Nat)),((10:Nat),int (0:Int)),((11:Nat),AV.pt (32011:Nat) (0:Nat) (0:Nat)),((13:Nat),Z01 (rootsF (beginW h) s).snd.fst),((15:Nat),AV.ow (72015:Nat))]) [((72015:Nat),Blk.arr 35 (1:Nat) (List.map wdv (Z5Y (allF (rootsF (beginW h) s).fst).fst k k.length))),((32011:Nat),Blk.box 89 (weakS (allF (rootsF (beginW h) s).fst).fst k k.length).cells),((8009:Nat),Blk.box 71 [int (0:Int),int (0:Int),int (0:Int),int (0:Int),int (0:Int),int (0:Int)]),((8006:Nat),Blk.box 28 [int (0:Int),int (0:Int),AV.d (DV.sl (0:Nat) []),AV.d (DV.sl (0:Nat) []),int (0:Int),int (0:Int)])] (60:Nat))] [] dd Tryz.func69 [] (φ:=GP 70 [h.av] true (Sx.bool (Z02 h)) []∧(!Z02 h)=false∧false=false∧GP 118 [h.av,Z01 s] true (Sx.bool (Z0m h s)) []∧((!!Z0m h s)=true→GP 118 [h.av,Z01 k] true (Sx.bool (Z0m h k)) [])∧(!Z0m h s||!Z0m h k)=false∧false=false∧GP 41 [h.av] false (AV.tu [(beginW h).av,int (0:Int)]) []∧GP 47 [(beginW h).av,Z01 s] false (AV.tu [(rootsF (beginW h) s).fst.av,Z01 (rootsF (beginW h) s).snd.fst,int (rootsF (beginW h) s).snd.snd]) []∧((rootsF (beginW h) s).snd.snd != (0:Int))=false∧false=false∧GP 53 [(rootsF (beginW h) s).fst.av] false (AV.tu [(allF (rootsF (beginW h) s).fst).fst.av,int (allF (rootsF (beginW h) s).fst).snd]) []∧((allF (rootsF (beginW h) s).fst).snd != (0:Int))=false∧false=false∧CP (blkF Tryz.f69 (0:Nat)) (Tg.mk (tm (122:Nat) [((2:Nat),Z01 k),((6:Nat),AV.pt (8006:Nat) (0:Nat) (0:Nat)),((7:Nat),AV.d (DV.sl (0:Nat) [])),((8:Nat),AV.d (DV.sl (0:Nat) [])),((9:Nat),AV.pt (8009:Nat) (0:Nat) (0:Nat)),((10:Nat),int (0:Int)),((11:Nat),AV.pt (32011:Nat) (0:Nat) (0:Nat)),((13:Nat),Z01 (rootsF (beginW h) s).snd.fst),((15:Nat),AV.ow (72015:Nat)),((16:Nat),int (0:Int))]) [((72015:Nat),Blk.arr 35 (1:Nat) []),((32011:Nat),Blk.box 89 (allF (rootsF (beginW h) s).fst).fst.cells),((8009:Nat),Blk.box 71 [int (0:Int),int (0:Int),int (0:Int),int (0:Int),int (0:Int),int (0:Int)]),((8006:Nat),Blk.box 28 [int (0:Int),int (0:Int),AV.d (DV.sl (0:Nat) []),AV.d (DV.sl (0:Nat) []),int (0:Int),int (0:Int)])] (60:Nat)).st Ex.nrm (Tg.mk (tm (122:Nat) [((6:Nat),AV.pt (8006:Nat) (0:Nat) (0:Nat)),((7:Nat),AV.d (DV.sl (0:Nat) [])),((8:Nat),AV.d (DV.sl (0:Nat) [])),((9:Nat),AV.pt (8009:Nat) (0:Nat) (0:Nat)),((10:Nat),int (0:Int)),((11:Nat),AV.pt (32011:Nat) (0:Nat) (0:Nat)),((13:Nat),Z01 (rootsF (beginW h) s).snd.fst),((15:Nat),AV.ow (72015:Nat))]) [((72015:Nat),Blk.arr 35 (1:Nat) (List.map wdv (Z5Y (allF (rootsF (beginW h) s).fst).fst k k.length))),((32011:Nat),Blk.box 89 (weakS (allF (rootsF (beginW h) s).fst).fst k k.length).cells),((8009:Nat),Blk.box 71 [int (0:Int),int (0:Int),int (0:Int),int (0:Int),int (0:Int),int (0:Int)]),((8006:Nat),Blk.box 28 [int (0:Int),int (0:Int),AV.d (DV.sl (0:Nat) []),AV.d (DV.sl (0:Nat) []),int (0:Int),int (0:Int)])] (60:Nat)).st∧GP 121 [(weakS (allF (rootsF (beginW h) s).fst).fst k k.length).av] false (fillN (weakS (allF (rootsF (beginW h) s).fst).fst k k.length) (weakS (allF (rootsF (beginW h) s).fst).fst k k.length).old.length).av []∧GP 120 [(fillN (weakS (allF (rootsF (beginW h) s).fst).fst k k.length) (weakS (allF (rootsF (beginW h) s).fst).fst k k.length).old.length).av] false (Z1v (fillN (weakS (allF (rootsF (beginW h) s).fst).fst k k.length) (weakS (allF (rootsF (beginW h) s).fst).fst k k.length).old.length)).av []∧IntKind.i64.wrap ((1:Int)-(Z1v (fillN (weakS (allF (rootsF (beginW h) s).fst).fst k k.length) (weakS (allF (rootsF (beginW h) s).fst).fst k k.length).old.length)).heap.S)=(1:Int)-(Z1v (fillN (weakS (allF (rootsF (beginW h) s).fst).fst k k.length) (weakS (allF (rootsF (beginW h) s).fst).fst k k.length).old.length)).heap.S∧(↑(List.map idv (Z1v (fillN (weakS (allF (rootsF (beginW h) s).fst).fst k k.length) (weakS (allF (rootsF (beginW h) s).fst).fst k k.length).old.length)).T).length:Int)=(↑(Z1v (fillN (weakS (allF (rootsF (beginW h) s).fst).fst k k.length) (weakS (allF (rootsF (beginW h) s).fst).fst k k.length).old.length)).T.length:Int)∧decide ((0:Int)<(↑(Z1v (fillN (weakS (allF (rootsF (beginW h) s).fst).fst k k.length) (weakS (allF (rootsF (beginW h) s).fst).fst k k.length).old.length)).T.length:Int))=true∧true=true∧IntKind.i64.wrap ((↑(Z1v (fillN (weakS (allF (rootsF (beginW h) s).fst).fst k k.length) (weakS (allF (rootsF (beginW h) s).fst).fst k k.length).old.length)).T.length:Int)-(1:Int))=(↑(Z1v (fillN (weakS (allF (rootsF (beginW h) s).fst).fst k k.length) (weakS (allF (rootsF (beginW h) s).fst).fst k k.length).old.length)).T.length:Int)-(1:Int)∧(0:Int)≤(↑(Z1v (fillN (weakS (allF (rootsF (beginW h) s).fst).fst k k.length) (weakS (allF (rootsF (beginW h) s).fst).fst k k.length).old.length)).T.length:Int)-(1:Int)∧(List.map idv (Z1v (fillN (weakS (allF (rootsF (beginW h) s).fst).fst k k.length) (weakS (allF (rootsF (beginW h) s).fst).fst k k.length).old.length)).T)[((↑(Z1v (fillN (weakS (allF (rootsF (beginW h) s).fst).fst k k.length) (weakS (allF (rootsF (beginW h) s).fst).fst k k.length).old.length)).T.length:Int)-(1:Int)).toNat]? = some (idv ((Z1v (fillN (weakS (allF (rootsF (beginW h) s).fst).fst k k.length) (weakS (allF (rootsF (beginW h) s).fst).fst k k.length).old.length)).T.getD ((↑(Z1v (fillN (weakS (allF (rootsF (beginW h) s).fst).fst k k.length) (weakS (allF (rootsF (beginW h) s).fst).fst k k.length).old.length)).T.length:Int)-(1:Int)).toNat default))) ?_ kr kr;exact⟨(@Z0h (h)),(by(simp only[bs];omega)),rfl,(@Z1M (h) (s) aa oq),(fun hg=>by(try simp only[bs]at hg);exact @Z1M (h) (k) (by(try simp only[bs]at hg);assumption) (by(try simp only[bs]at hg);omega)),(by simp only[bs, *,true_or,or_true,true_and,and_true,not_true_eq_false,not_false_eq_true,Bool.true_eq_false,Bool.false_eq_true]),rfl,(@Z3v (h) aa aa aa),(@Z5l (beginW h) (s) aa aa aa),(by(simp only[bs];omega)),rfl,(@ZbY ((rootsF (beginW h) s).fst) aa),(by(simp only[bs];omega)),rfl,(@Zf3 ((allF (rootsF (beginW h) s).fst).fst) (k) ((rootsF (beginW h) s).snd.fst) aa aa oq aa aa aa),(@Zcu (weakS (allF (rootsF (beginW h) s).fst).fst k k.length) aa aa),(@Zcw (fillN (weakS (allF (rootsF (beginW h) s).fst).fst k k.length) (weakS (allF (rootsF (beginW h) s).fst).fst k k.length).old.length) aa oq aa aa aa),(by exact wrapI2 rfl oq oq),(by simp only[List.length_map]),aa,rfl,(by exact wrapI2 rfl oq oq),(by exact elI oq oq oq)⟩
 ·rw[show endH (cW5 h s k)=Heap.mk (Z1v (fillN (weakS (allF (rootsF (beginW h) s).fst).fst k k.length) (weakS (allF (rootsF (beginW h) s).fst).fst k k.length).old.length)).heap.C (Z1v (fillN (weakS (allF (rootsF (beginW h) s).fst).fst k k.length) (weakS (allF (rootsF (beginW h) s).fst).fst k k.length).old.length)).heap.W (Z1v (fillN (weakS (allF (rootsF (beginW h) s).fst).fst k k.length) (weakS (allF (rootsF (beginW h) s).fst).fst k k.length).old.length)).heap.P ((1:Int)-(Z1v (fillN (weakS (allF (rootsF (beginW h) s).fst).fst k k.length) (weakS (allF (rootsF (beginW h) s).fst).fst k k.length).old.length)).heap.S) (-1:Int)from by(simp[endH,cW5,cW4,cW3,cW2,Z0w, *];omega)];let y1:=rootsF (beginW h) s;let y0:=weakS (allF y1.fst).fst k k.length;let y2:=fillN y0 y0.old.length;exact gF [] Tryz.func69 [] (Fh 15 [.own] (Fc 20 (@Z0h h) (Ffb 21 (!Z02 h) (Fc 26 (@Z1M h s aa oq) (FcG 31 (!!Z0m h s) (fun hg=>by(try simp only[bs]at hg);exact @Z1M h k aa oq) (Ffs 33 (!Z0m h s||!Z0m h k) (Fc 38 (@Z3v h aa aa aa) (Fc 44 (@Z5l (beginW h) s aa aa aa) (Ffb 49 (y1.snd.snd != 0) (Fc 55 (@ZbY (y1.fst) aa) (Ffb 59 ((allF y1.fst).snd != 0) (Fu (@Zf3 ((allF y1.fst).fst) k (y1.snd.fst) aa aa oq aa aa aa) (Fc 93 (@Zcu y0 aa aa) (Fc 94 (@Zcw y2 aa oq aa aa aa) (Fi 98 (1-(Z1v y2).heap.S) (Fl 105 idv (Z1v y2).T (Ff 107 hc0 Fz)))))))))))))))))
end
def pinB(w:WorldM)(i:Nat)(n:Int):WorldM:=⟨⟨w.heap.C,w.heap.W,w.heap.P.set i ⟨(w.heap.P.getD i default).K,(w.heap.P.getD i default).S,(w.heap.P.getD i default).U,(w.heap.P.getD i default).N+n⟩,w.heap.S,w.heap.B⟩,w.G,w.E⟩
def pinI(w:WorldM)(t:Tape):Nat:=(ofA w.heap.C (w.pick t)).1.toNat
def WorldM.pin(w:WorldM)(t:Tape):WorldM :=
  if(ofA w.heap.C (w.pick t)).2.2=0 then
    (if 0<(w.heap.P.getD (pinI w t) default).N∧(w.pickT t).next 2=0 then pinB w (pinI w t) (-1)
     else if 0<(w.heap.P.getD (pinI w t) default).N∨(w.heap.P.getD (pinI w t) default).K=2∨(crowd w.heap.P:Int)<w.heap.C.pg/4 then pinB w (pinI w t) 1 else w)else w
def WorldM.pinT(w:WorldM)(t:Tape):Tape:=if(ofA w.heap.C (w.pick t)).2.2=0∧0<(w.heap.P.getD (pinI w t) default).N then(w.pickT t).step 2 else w.pickT t
theorem ZlU(w:WorldM)(t:Tape)(hw:WMok w)(ht:TOk t)(ha:t.at'≤1000000)(hv:Z05 w.heap.C=true)(hp:(w.heap.P.length:Int)=w.heap.C.pg)(hpn:∀ j,j<w.heap.P.length→-1048576≤(w.heap.P.getD j default).N∧(w.heap.P.getD j default).N≤4294967296):LP 107 [w.av,.pt 0 0 0] [t.b] (w.pin t).av [(w.pinT t).b]:=by
 have hb:=validB_iff.1 hv;have s1:=Zbc w t;have k1:=Z3z ht s1.2.2 oq oq;have p1:=Z3W hw t;have q1:=hpn (pinI w t);have hcr:=Z2J w.heap.P w.heap.P.length;unfold pinI at q1;have o1:=fun e=>Z2M (a:=w.pick t) hv e;by_cases e:(ofA w.heap.C (w.pick t)).2.2=0
 ·have o2:=o1 e;by_cases c1:0<(w.heap.P.getD (ofA w.heap.C (w.pick t)).1.toNat default).N
  ·have eT:w.pinT t=(w.pickT t).step 2:=by rw[WorldM.pinT,if_pos ⟨e,c1⟩]
   by_cases c2:(w.pickT t).next 2=0
   ·have eP:w.pin t=⟨⟨w.heap.C,w.heap.W,w.heap.P.set (ofA w.heap.C (w.pick t)).1.toNat ⟨(w.heap.P.getD (ofA w.heap.C (w.pick t)).1.toNat default).K,(w.heap.P.getD (ofA w.heap.C (w.pick t)).1.toNat default).S,(w.heap.P.getD (ofA w.heap.C (w.pick t)).1.toNat default).U,(w.heap.P.getD (ofA w.heap.C (w.pick t)).1.toNat default).N-1⟩,w.heap.S,w.heap.B⟩,w.G,w.E⟩:=by rw[WorldM.pin,if_pos e,if_pos ⟨c1,c2⟩];rfl
    rw[eP,eT];exact lF Tryz.func107 [] (Fh 42 [.br true] (Fh 37 [.br true] (Fh 51 [.el (w.heap.P.getD (ofA w.heap.C (w.pick t)).fst.toNat default).dv] (Fp 12 (@Z1T w t aa aa oq) (Fc 18 (@Z4v w.heap.C (w.pick t) oq oq) (Ffb 23 ((ofA w.heap.C (w.pick t)).snd.snd != 0) (FA 25 29 Page.dv w.heap.P (Fmq 41 Page.dv w.heap.P ((ofA w.heap.C (w.pick t)).fst) (Fb (decide (0<(w.heap.P.getD (ofA w.heap.C (w.pick t)).fst.toNat default).N)=true) (Fp 45 (@Z0d (w.pickT t) (2) aa oq oq) (Fb (((w.pickT t).next (2:Int)==0)=true) (Fa (by exact Z0v oq:(List.map Page.dv w.heap.P)[(ofA w.heap.C (w.pick t)).fst.toNat]? = some (w.heap.P.getD (ofA w.heap.C (w.pick t)).fst.toNat default).dv) (Fi 52 ((w.heap.P.getD (ofA w.heap.C (w.pick t)).fst.toNat default).N-1) (Fa (by exact Z0v oq:(List.map Page.dv w.heap.P)[(ofA w.heap.C (w.pick t)).fst.toNat]? = some (w.heap.P.getD (ofA w.heap.C (w.pick t)).fst.toNat default).dv) (FS 10054 Page.dv w.heap.P ((ofA w.heap.C (w.pick t)).fst.toNat) (Page.mk (w.heap.P.getD (ofA w.heap.C (w.pick t)).fst.toNat default).K (w.heap.P.getD (ofA w.heap.C (w.pick t)).fst.toNat default).S (w.heap.P.getD (ofA w.heap.C (w.pick t)).fst.toNat default).U ((w.heap.P.getD (ofA w.heap.C (w.pick t)).fst.toNat default).N-1)) ((w.heap.P.getD (ofA w.heap.C (w.pick t)).fst.toNat default).dv) Fz)))))))))))))))
   ·have eP:w.pin t=⟨⟨w.heap.C,w.heap.W,w.heap.P.set (ofA w.heap.C (w.pick t)).1.toNat ⟨(w.heap.P.getD (ofA w.heap.C (w.pick t)).1.toNat default).K,(w.heap.P.getD (ofA w.heap.C (w.pick t)).1.toNat default).S,(w.heap.P.getD (ofA w.heap.C (w.pick t)).1.toNat default).U,(w.heap.P.getD (ofA w.heap.C (w.pick t)).1.toNat default).N+1⟩,w.heap.S,w.heap.B⟩,w.G,w.E⟩:=by rw[WorldM.pin,if_pos e,if_neg (fun q=>c2 q.2),if_pos (.inl c1)];rfl
    rw[eP,eT];exact lF Tryz.func107 [] (Fh 42 [.br true] (Fh 37 [.br false] (Fh 59 [.el (w.heap.P.getD (ofA w.heap.C (w.pick t)).fst.toNat default).dv] (Fh 65 [.el (w.heap.P.getD (ofA w.heap.C (w.pick t)).fst.toNat default).dv] (Fh 76 [.int (w.heap.C.pg/4)] (Fh 55 [.br true] (Fh 82 [.el (w.heap.P.getD (ofA w.heap.C (w.pick t)).fst.toNat default).dv] (Fp 12 (@Z1T w t aa aa oq) (Fc 18 (@Z4v w.heap.C (w.pick t) oq oq) (Ffb 23 ((ofA w.heap.C (w.pick t)).snd.snd != 0) (FA 25 29 Page.dv w.heap.P (Fmq 41 Page.dv w.heap.P ((ofA w.heap.C (w.pick t)).fst) (Fb (decide (0<(w.heap.P.getD (ofA w.heap.C (w.pick t)).fst.toNat default).N)=true) (Fp 45 (@Z0d (w.pickT t) (2) aa oq oq) (Fb (((w.pickT t).next (2:Int)==0)=false) (Fa (by exact Z0v oq:(List.map Page.dv w.heap.P)[(ofA w.heap.C (w.pick t)).fst.toNat]? = some (w.heap.P.getD (ofA w.heap.C (w.pick t)).fst.toNat default).dv) (Fa (by intro hg;(try simp only[bs]at hg);exact Z0v oq:(!decide (0<(w.heap.P.getD (ofA w.heap.C (w.pick t)).fst.toNat default).N))=true→(List.map Page.dv w.heap.P)[(ofA w.heap.C (w.pick t)).fst.toNat]? = some (w.heap.P.getD (ofA w.heap.C (w.pick t)).fst.toNat default).dv) (FcG 71 (!(decide (0<(w.heap.P.getD (ofA w.heap.C (w.pick t)).fst.toNat default).N)||(w.heap.P.getD (ofA w.heap.C (w.pick t)).fst.toNat default).K==2)) (fun hg=>by(try simp only[bs]at hg);exact @Z9o w.heap oq) (Fa (by intro hg;(try simp only[bs]at hg);rw[wrapI' oq oq];omega:(!(decide (0<(w.heap.P.getD (ofA w.heap.C (w.pick t)).fst.toNat default).N)||(w.heap.P.getD (ofA w.heap.C (w.pick t)).fst.toNat default).K==2))=true→IntKind.i64.wrap (w.heap.C.pg.tdiv 4)=w.heap.C.pg/4) (Fa (by intro hg;(try simp only[bs]at hg);omega:(!(decide (0<(w.heap.P.getD (ofA w.heap.C (w.pick t)).fst.toNat default).N)||(w.heap.P.getD (ofA w.heap.C (w.pick t)).fst.toNat default).K==2))=true→(4:Int)=0→False) (Fb ((decide (0<(w.heap.P.getD (ofA w.heap.C (w.pick t)).fst.toNat default).N)||(w.heap.P.getD (ofA w.heap.C (w.pick t)).fst.toNat default).K==2||decide ((↑(crowd w.heap.P):Int)<w.heap.C.pg/4))=true) (Fa (by exact Z0v oq:(List.map Page.dv w.heap.P)[(ofA w.heap.C (w.pick t)).fst.toNat]? = some (w.heap.P.getD (ofA w.heap.C (w.pick t)).fst.toNat default).dv) (Fi 83 ((w.heap.P.getD (ofA w.heap.C (w.pick t)).fst.toNat default).N+1) (Fa (by exact Z0v oq:(List.map Page.dv w.heap.P)[(ofA w.heap.C (w.pick t)).fst.toNat]? = some (w.heap.P.getD (ofA w.heap.C (w.pick t)).fst.toNat default).dv) (FS 10085 Page.dv w.heap.P ((ofA w.heap.C (w.pick t)).fst.toNat) (Page.mk (w.heap.P.getD (ofA w.heap.C (w.pick t)).fst.toNat default).K (w.heap.P.getD (ofA w.heap.C (w.pick t)).fst.toNat default).S (w.heap.P.getD (ofA w.heap.C (w.pick t)).fst.toNat default).U ((w.heap.P.getD (ofA w.heap.C (w.pick t)).fst.toNat default).N+1)) ((w.heap.P.getD (ofA w.heap.C (w.pick t)).fst.toNat default).dv) Fz)))))))))))))))))))))))))
  ·have eT:w.pinT t=w.pickT t:=by rw[WorldM.pinT,if_neg (fun q=>c1 q.2)]
   by_cases c3:(w.heap.P.getD (ofA w.heap.C (w.pick t)).1.toNat default).K=2∨(crowd w.heap.P:Int)<w.heap.C.pg/4
   ·have eP:w.pin t=⟨⟨w.heap.C,w.heap.W,w.heap.P.set (ofA w.heap.C (w.pick t)).1.toNat ⟨(w.heap.P.getD (ofA w.heap.C (w.pick t)).1.toNat default).K,(w.heap.P.getD (ofA w.heap.C (w.pick t)).1.toNat default).S,(w.heap.P.getD (ofA w.heap.C (w.pick t)).1.toNat default).U,(w.heap.P.getD (ofA w.heap.C (w.pick t)).1.toNat default).N+1⟩,w.heap.S,w.heap.B⟩,w.G,w.E⟩:=by rw[WorldM.pin,if_pos e,if_neg (fun q=>c1 q.1),if_pos (.inr c3)];rfl
    rw[eP,eT];exact lF Tryz.func107 [] (Fh 42 [.br false] (Fh 45 [.lent (int ((w.pickT t).next 2)) [((w.pickT t).step 2).b]] (Fh 59 [.el (w.heap.P.getD (ofA w.heap.C (w.pick t)).fst.toNat default).dv] (Fh 65 [.el (w.heap.P.getD (ofA w.heap.C (w.pick t)).fst.toNat default).dv] (Fh 76 [.int (w.heap.C.pg/4)] (Fh 55 [.br true] (Fh 82 [.el (w.heap.P.getD (ofA w.heap.C (w.pick t)).fst.toNat default).dv] (Fp 12 (@Z1T w t aa aa oq) (Fc 18 (@Z4v w.heap.C (w.pick t) oq oq) (Ffb 23 ((ofA w.heap.C (w.pick t)).snd.snd != 0) (FA 25 29 Page.dv w.heap.P (Fmq 41 Page.dv w.heap.P ((ofA w.heap.C (w.pick t)).fst) (Fb (decide (0<(w.heap.P.getD (ofA w.heap.C (w.pick t)).fst.toNat default).N)=false) (Fa (by exact Z0v oq:(List.map Page.dv w.heap.P)[(ofA w.heap.C (w.pick t)).fst.toNat]? = some (w.heap.P.getD (ofA w.heap.C (w.pick t)).fst.toNat default).dv) (Fa (by intro hg;(try simp only[bs]at hg);exact Z0v oq:(!decide (0<(w.heap.P.getD (ofA w.heap.C (w.pick t)).fst.toNat default).N))=true→(List.map Page.dv w.heap.P)[(ofA w.heap.C (w.pick t)).fst.toNat]? = some (w.heap.P.getD (ofA w.heap.C (w.pick t)).fst.toNat default).dv) (FcG 71 (!(decide (0<(w.heap.P.getD (ofA w.heap.C (w.pick t)).fst.toNat default).N)||(w.heap.P.getD (ofA w.heap.C (w.pick t)).fst.toNat default).K==2)) (fun hg=>by(try simp only[bs]at hg);exact @Z9o w.heap oq) (Fa (by intro hg;(try simp only[bs]at hg);rw[Int.tdiv_eq_ediv_of_nonneg oq,wrapI' oq oq]:(!(decide (0<(w.heap.P.getD (ofA w.heap.C (w.pick t)).fst.toNat default).N)||(w.heap.P.getD (ofA w.heap.C (w.pick t)).fst.toNat default).K==2))=true→IntKind.i64.wrap (w.heap.C.pg.tdiv 4)=w.heap.C.pg/4) (Fa (by intro hg;(try simp only[bs]at hg);omega:(!(decide (0<(w.heap.P.getD (ofA w.heap.C (w.pick t)).fst.toNat default).N)||(w.heap.P.getD (ofA w.heap.C (w.pick t)).fst.toNat default).K==2))=true→(4:Int)=0→False) (Fb ((decide (0<(w.heap.P.getD (ofA w.heap.C (w.pick t)).fst.toNat default).N)||(w.heap.P.getD (ofA w.heap.C (w.pick t)).fst.toNat default).K==2||decide ((↑(crowd w.heap.P):Int)<w.heap.C.pg/4))=true) (Fa (by exact Z0v oq:(List.map Page.dv w.heap.P)[(ofA w.heap.C (w.pick t)).fst.toNat]? = some (w.heap.P.getD (ofA w.heap.C (w.pick t)).fst.toNat default).dv) (Fi 83 ((w.heap.P.getD (ofA w.heap.C (w.pick t)).fst.toNat default).N+1) (Fa (by exact Z0v oq:(List.map Page.dv w.heap.P)[(ofA w.heap.C (w.pick t)).fst.toNat]? = some (w.heap.P.getD (ofA w.heap.C (w.pick t)).fst.toNat default).dv) (FS 10085 Page.dv w.heap.P ((ofA w.heap.C (w.pick t)).fst.toNat) (Page.mk (w.heap.P.getD (ofA w.heap.C (w.pick t)).fst.toNat default).K (w.heap.P.getD (ofA w.heap.C (w.pick t)).fst.toNat default).S (w.heap.P.getD (ofA w.heap.C (w.pick t)).fst.toNat default).U ((w.heap.P.getD (ofA w.heap.C (w.pick t)).fst.toNat default).N+1)) ((w.heap.P.getD (ofA w.heap.C (w.pick t)).fst.toNat default).dv) Fz)))))))))))))))))))))))
   ·have eP:w.pin t=w:=by rw[WorldM.pin,if_pos e,if_neg (fun q=>c1 q.1),if_neg (fun q=>q.elim c1 c3)]
    rw[eP,eT];exact lF Tryz.func107 [] (Fh 42 [.br false] (Fh 45 [.lent (int ((w.pickT t).next 2)) [((w.pickT t).step 2).b]] (Fh 59 [.el (w.heap.P.getD (ofA w.heap.C (w.pick t)).fst.toNat default).dv] (Fh 65 [.el (w.heap.P.getD (ofA w.heap.C (w.pick t)).fst.toNat default).dv] (Fh 76 [.int (w.heap.C.pg/4)] (Fh 55 [.br false] (Fp 12 (@Z1T w t aa aa oq) (Fc 18 (@Z4v w.heap.C (w.pick t) oq oq) (Ffb 23 ((ofA w.heap.C (w.pick t)).snd.snd != 0) (FA 25 29 Page.dv w.heap.P (Fmq 41 Page.dv w.heap.P ((ofA w.heap.C (w.pick t)).fst) (Fb (decide (0<(w.heap.P.getD (ofA w.heap.C (w.pick t)).fst.toNat default).N)=false) (Fa (by exact Z0v oq:(List.map Page.dv w.heap.P)[(ofA w.heap.C (w.pick t)).fst.toNat]? = some (w.heap.P.getD (ofA w.heap.C (w.pick t)).fst.toNat default).dv) (Fa (by intro hg;(try simp only[bs]at hg);exact Z0v oq:(!decide (0<(w.heap.P.getD (ofA w.heap.C (w.pick t)).fst.toNat default).N))=true→(List.map Page.dv w.heap.P)[(ofA w.heap.C (w.pick t)).fst.toNat]? = some (w.heap.P.getD (ofA w.heap.C (w.pick t)).fst.toNat default).dv) (FcG 71 (!(decide (0<(w.heap.P.getD (ofA w.heap.C (w.pick t)).fst.toNat default).N)||(w.heap.P.getD (ofA w.heap.C (w.pick t)).fst.toNat default).K==2)) (fun hg=>by(try simp only[bs]at hg);exact @Z9o w.heap oq) (Fa (by intro hg;(try simp only[bs]at hg);rw[Int.tdiv_eq_ediv_of_nonneg oq,wrapI' oq oq]:(!(decide (0<(w.heap.P.getD (ofA w.heap.C (w.pick t)).fst.toNat default).N)||(w.heap.P.getD (ofA w.heap.C (w.pick t)).fst.toNat default).K==2))=true→IntKind.i64.wrap (w.heap.C.pg.tdiv 4)=w.heap.C.pg/4) (Fa (by intro hg;(try simp only[bs]at hg);omega:(!(decide (0<(w.heap.P.getD (ofA w.heap.C (w.pick t)).fst.toNat default).N)||(w.heap.P.getD (ofA w.heap.C (w.pick t)).fst.toNat default).K==2))=true→(4:Int)=0→False) (Fb ((decide (0<(w.heap.P.getD (ofA w.heap.C (w.pick t)).fst.toNat default).N)||(w.heap.P.getD (ofA w.heap.C (w.pick t)).fst.toNat default).K==2||decide ((↑(crowd w.heap.P):Int)<w.heap.C.pg/4))=false) Fz))))))))))))))))))
 ·have eP:w.pin t=w:=by rw[WorldM.pin,if_neg e]
  have eT:w.pinT t=w.pickT t:=by rw[WorldM.pinT,if_neg (fun q=>e q.1)]
  rw[eP,eT];exact lF Tryz.func107 [] (Fp 12 (@Z1T w t aa aa oq) (Fc 18 (@Z4v w.heap.C (w.pick t) oq oq) (Ftb 23 ((ofA w.heap.C (w.pick t)).snd.snd != 0) Fz)))
theorem Z7p(h:Heap)(s k:List Int)(hw:WOk h.W)(hs:s.length≤1048575)(hk:k.length≤1048575)(hs2:ULe s)(hk2:ULe k):GP 69 [h.av,Z01 s,Z01 k] false (.tu [(Z0o h s k).1.av,Z01 (Z0o h s k).2.1,Z01 (Z0o h s k).2.2.1,.ag (Z0o h s k).2.2.2.1.cells,int (Z0o h s k).2.2.2.2]) []:=by
 unfold Z0o;by_cases hp:Z02 h=true
 ·rw[if_pos hp];by_cases hr:Z0m h s=true∧Z0m h k=true
  ·rw[if_pos hr];by_cases e:(rootsF (beginW h) s).2.2=0
   ·rw[if_pos e];by_cases e2:(allF (rootsF (beginW h) s).1).2=0
    ·rw[if_pos e2];exact ZlN h s k hw hs hk hs2 hk2 hp hr.1 hr.2 e e2
    ·rw[if_neg e2];exact ZkY h s k hw hs hk hs2 hk2 hp hr.1 hr.2 e e2
   ·rw[if_neg e];exact ZlK h s k hw hs hk hs2 hk2 hp hr.1 hr.2 e
  ·rw[if_neg hr];refine ZkZ h s k hw hs hk hs2 hk2 hp ?_;by_cases q:Z0m h s=true
   ·refine Or.inr ?_;have:¬ Z0m h k=true:=fun q2=>hr ⟨q,q2⟩;simpa using this
   ·exact Or.inl (by simpa using q)
 ·rw[if_neg hp];exact ZlL h s k hw hs hk hs2 hk2 (by simpa using hp)
def WorldM.collect(w:WorldM):WorldM:=if(Z0o w.heap w.G w.E).2.2.2.2=0 then⟨(Z0o w.heap w.G w.E).1,(Z0o w.heap w.G w.E).2.1,(Z0o w.heap w.G w.E).2.2.1⟩else w
theorem ZcM(w:WorldM)(hw:WOk w.heap.W)(hs:w.G.length≤1048575)(hk:w.E.length≤1048575)(hs2:ULe w.G)(hk2:ULe w.E):GP 23 [w.av] false w.collect.av []:=by
 by_cases e:(Z0o w.heap w.G w.E).2.2.2.2=0
 ·have e7:w.collect=⟨(Z0o w.heap w.G w.E).1,(Z0o w.heap w.G w.E).2.1,(Z0o w.heap w.G w.E).2.2.1⟩:=by rw[WorldM.collect,if_pos e]
  rw[e7];exact gF [] Tryz.func23 [] (Fc 15 (@Z7p w.heap w.G w.E aa aa aa aa aa) (Ftb 22 ((Z0o w.heap w.G w.E).snd.snd.snd.snd==0) Fz))
 ·have e7:w.collect=w:=by rw[WorldM.collect,if_neg e]
  rw[e7];exact gF [] Tryz.func23 [] (Fc 15 (@Z7p w.heap w.G w.E aa aa aa aa aa) (Ffb 22 ((Z0o w.heap w.G w.E).snd.snd.snd.snd==0) Fz))
section
variable (P:Work→Prop) (hf:∀ w r,WkOk w→CIv w→P w→(w.fwd r).2.2=0→P (w.fwd r).1)
 (hin:∀ w q j,WkOk w→CIv w→P w→q∈w.Q→0≤j→j<hlA w.heap.W q→(w.fwd (loadA w.heap.W (q+1+j)).1).2.2=0→P (w.in1 (q+1+j))) (hsd:∀ w n,P w→P (ZgV w n))
include hin in
theorem ZmA{w:Work}(hw:WkOk w)(h:CIv w)(hp:P w){q:Int}(hq:q∈w.Q){l:List Int}(hl:∀ x∈l,0≤x∧x<hlA w.heap.W q):∀ k,k≤l.length→(∀ j,j<k→innE w q l j=0)→P (innN w q l k)
 | 0,_,_=>hp
 | k+1,hk,he=>by
  have ih:=ZmA hw h hp hq hl k oq (fun j hj=>he j oq);have ok:=(Z4D hw q l k (fun j hj=>he j oq)).1;have iv:=Zb3 hw h hq hl k oq (fun j hj=>he j oq);have hx:=hl _ (getD_mem_iff.2 ⟨k,by omega,rfl⟩);exact hin _ q (l.getD k default) ok iv.1 ih (iv.2.q q hq) hx.1 (by rw[iv.2.l q hq];exact hx.2) (he k oq)
include hin hsd in
theorem ZhE{w:Work}(hw:WkOk w)(h:CIv w)(hp:P w)(e:(Z0Y w).2.2=0):P (Z0Y w).1:=by
 by_cases hs:w.D<w.Q.length
 ·have hsc:=hw.sc;have hq:Z3S w∈w.Q:=getD_mem_iff.2 ⟨w.D.toNat,by omega,rfl⟩;unfold Z0Y at e ⊢;rw[if_pos hs]at e ⊢;cases hb:(List.range (Z2f w).length).find? (fun k=>decide (innE w (Z3S w) (Z2f w) k≠0))with
  | none =>
   have h0:∀ j,j<(Z2f w).length→innE w (Z3S w) (Z2f w) j=0:=fun j hj=>by
    have:=List.find?_eq_none.1 hb j (List.mem_range.2 hj);simpa using this
   exact hsd _ _ (ZmA P hin hw h hp hq (l:=Z2f w) (Z7C (hdW w (Z3S w))) (Z2f w).length (Nat.le_refl _) h0)
  | some k =>
   simp only[hb]at e;have:=(List.find?_range_eq_some.1 hb).1;simp[e]at this
 ·have e:Z0Y w=(w,false,0):=by rw[Z0Y,if_neg hs]
  rw[e];exact hp
include hin hsd in
theorem ZpK{w:Work}(hw:WkOk w)(h:CIv w)(hp:P w):∀ k,(∀ j,j<k→Z3U w j=false)→P (itW w k)
 | 0,_=>hp
 | k+1,hh=>by
  have ih:=ZpK hw h hp k (fun j hj=>hh j oq);have ok:=(Z4H hw k (fun j hj=>hh j oq)).1;have iv:=(Zb4 hw h k (fun j hj=>hh j oq)).1;have hk:=hh k oq;simp only[Z3U,decide_eq_false_iff_not,not_or,Decidable.not_not]at hk;exact ZhE P hin hsd ok iv ih hk.1
include hin hsd in
theorem ZpO{w:Work}(hw:WkOk w)(h:CIv w)(hp:P w)(e:(allF w).2=0):P (allF w).1:=by
 obtain⟨k,hb⟩:=Z6s hw;obtain⟨h1,h2,h3⟩:=List.find?_range_eq_some.1 hb;have h0:∀ j,j<k→Z3U w j=false:=fun j hj=>by simpa using h3 j hj
 unfold allF at e ⊢;rw[hb]at e ⊢;simp only at e ⊢;split at e
 ·rename_i c;rw[if_pos c];exact ZhE P hin hsd (Z4H hw k h0).1 (Zb4 hw h k h0).1 (ZpK P hin hsd hw h hp k h0) c
 ·rename_i c;exact absurd e c
include hf in
theorem Zf7{w:Work}{roots:List Int}(hw:WkOk w)(h:CIv w)(hp:P w):∀ k,(∀ j,j<k→Z2O w roots j=0)→P (Z1B w roots k).1
 | 0,_=>hp
 | k+1,hh=>by
  have ih:=Zf7 hw h hp k (fun j hj=>hh j oq);have ok:=(Z3s (roots:=roots) hw k (fun j hj=>hh j oq)).1;have iv:=(Z7e (roots:=roots) hw h k (fun j hj=>hh j oq)).1;exact hf _ _ ok iv ih (hh k oq)
include hf in
theorem Zkd{w:Work}{roots:List Int}(hw:WkOk w)(h:CIv w)(hp:P w)(e:(rootsF w roots).2.2=0):P (rootsF w roots).1:=by
 unfold rootsF at e ⊢;cases hb:(List.range roots.length).find? (fun k=>decide (Z2O w roots k≠0))with
 | none =>
  have h0:∀ j,j<roots.length→Z2O w roots j=0:=fun j hj=>by
   have:=List.find?_eq_none.1 hb j (List.mem_range.2 hj);simpa using this
  exact Zf7 P hf hw h hp roots.length h0
 | some k =>
  simp only[hb]at e;have:=(List.find?_range_eq_some.1 hb).1;simp[e]at this
include hf hin hsd in
theorem Zqf{h:Heap}{s:List Int}(hw:WOk h.W)(hp:Z02 h=true)(h0:P (beginW h))(e:(rootsF (beginW h) s).2.2=0)(e2:(allF (rootsF (beginW h) s).1).2=0):P (cW2 h s):=by
 have hb:=Z3H hw hp;have hi:=Z54 hp;have ho:=Z4S (roots:=s) hb hi e;exact ZpO P hin hsd ho.1 ho.2.1 (Zkd P hf hb hi h0 e) e2
end
theorem ZjP{l:List Page}{i k:Nat}(h:∀ m,m<k→i+1+m<l.length∧(l.getD (i+1+m) default).K=3):k≤Z0k l i:=by
 by_cases hc:k≤Z0k l i
 ·exact hc
 ·have h1:=h (Z0k l i) oq;exact absurd h1.2 (ZaO h1.1)
theorem PT.flip{c:Conf}{l:List Page}(h:PT c l){i:Nat}(hi:i<l.length)(hk:(l.getD i default).K=2){s:Int}(hs:0≤s∧s≤1):PT c (Z0p l i (Z0k l i) s):=by
 have hr:∀ j,i<j→j≤i+Z0k l i→(l.getD j default).K=3:=fun j h1 h2=>by
  have:=(Zby (l:=l) (i:=i) (m:=j-i-1) oq).2;rwa [show i+1+(j-i-1)=j by omega]at this
 have hg:∀ j,j<l.length→((Z0p l i (Z0k l i) s).getD j default).K=(l.getD j default).K∧((Z0p l i (Z0k l i) s).getD j default).U=(l.getD j default).U∧((Z0p l i (Z0k l i) s).getD j default).N=(l.getD j default).N:=fun j hj=>by
  rw[Z2I hj];split
  ·exact⟨rfl,rfl,rfl⟩
  ·exact⟨rfl,rfl,rfl⟩
 refine⟨?_, ?_, ?_⟩
 ·intro j hj;rw[Z1L]at hj;have b:=h.b j hj;rw[Z2I hj];split
  ·rename_i hc;refine⟨hs,b.n,b.k,fun q=>?_,b.k1,b.k3⟩;exfalso;have q':(l.getD j default).K=0:=q;by_cases hij:j=i
   ·subst hij;omega
   ·have:=hr j oq hc.2;omega
  ·exact b
 ·intro j hj hk2;rw[Z1L]at hj ⊢;rw[(hg j hj).1]at hk2;rw[(hg j hj).2.1];have q:=h.lg j hj hk2;refine⟨q.1,fun m h1 h2=>?_⟩;have r:=q.2 m h1 h2;refine⟨r.1,by rw[(hg _ r.1).1];exact r.2.1, ?_⟩;rw[Z2I r.1,Z2I hj];by_cases hij:j=i
  ·subst hij;have hT:(need c (l.getD j default).U-1).toNat≤Z0k l j:=ZjP fun m' hm'=>by
    have:=q.2 (m'+1) oq oq;rw[show j+1+m'=j+(m'+1) by omega];exact⟨this.1,this.2.1⟩
   rw[if_pos oq,if_pos oq];rfl
  ·have hj1:¬ (i≤j∧j≤i+Z0k l i):=fun hc=>by
    have:=hr j oq hc.2;omega
   have hj2:¬ (i≤j+m∧j+m≤i+Z0k l i):=fun hc=>by
    by_cases hlt:j<i
    ·by_cases he:j+m=i
     ·have:=r.2.1;rw[he]at this;omega
     ·have:=(q.2 (i-j) oq oq).2.1;rw[show j+(i-j)=i by omega]at this;omega
    ·omega
   rw[if_neg hj1,if_neg hj2];exact r.2.2
 ·intro j hj hk3;rw[Z1L]at hj;rw[(hg j hj).1]at hk3;obtain⟨a,a1,a2,a3⟩:=h.tl j hj hk3;exact⟨a,a1,by rw[(hg a oq).1];exact a2,by rw[(hg a oq).2.1];exact a3⟩
structure Tab (B:Int) (w:Work):Prop where
 pt:PT w.heap.C w.heap.P
 tk:∀ x∈w.T,(w.heap.P.getD x.toNat default).S=1-w.heap.S
 pin:∀ p∈w.heap.P,p.N≤B
theorem Tab.withWords{B:Int}{w:Work}(h:Tab B w)(l:List Int):Tab B ⟨⟨w.heap.C,l,w.heap.P,w.heap.S,w.heap.B⟩,w.old,w.T,w.Q,w.D,w.rep⟩:=⟨h.pt,h.tk,h.pin⟩
theorem Tab.place{B:Int}(hB:0≤B){w:Work}(hw:WkOk w)(h:Tab B w){n:Int}(hn:1≤n∧n≤w.heap.C.pw)(hc:(w.place n).2.2=true):PT (w.place n).1.heap.C (w.place n).1.heap.P∧(∀ x∈(w.place n).1.T,((w.place n).1.heap.P.getD x.toNat default).S=1-(w.place n).1.heap.S)∧∀ p∈(w.place n).1.heap.P,p.N≤B:=by
 have hsp:=hw.sp;by_cases hf:Z3f w n
 ·have e:w.place n=(⟨⟨w.heap.C,w.heap.W,Z2b w.heap.P (Z0w w).toNat n,w.heap.S,w.heap.B⟩,w.old,w.T,w.Q,w.D,w.rep⟩,4096+Z0w w*w.heap.C.pw+(w.heap.P.getD (Z0w w).toNat default).U,true):=by rw[Work.place,if_pos hf]
  unfold Z3f at hf;have hm:=hw.tk _ (Z1C hf.1);have hi:(Z0w w).toNat<w.heap.P.length:=by omega
  have ok:=h.pt.b _ hi;have u:=ok.k1 hm.2.2;rw[e];refine⟨h.pt.setPage hi (Or.inr hm.2.2) ⟨ok.s,ok.n,ok.k,fun q=>by simp only at q;omega,fun _=>by simp only;omega,fun q=>by simp only at q;omega⟩ (Or.inr hm.2.2), ?_, ?_⟩
  ·intro x hx;simp only;rw[Zb0,Z1E hi];split
   ·rename_i q;have:=h.tk _ (Z1C hf.1);simp only;omega
   ·exact h.tk x hx
  ·intro p hp;rcases List.mem_or_eq_of_mem_set hp with hp | rfl
   ·exact h.pin p hp
   ·exact h.pin (w.heap.P.getD (Z0w w).toNat default) (getD_in hi)
 ·by_cases hg:0≤Z0i w
  ·have e:w.place n=(⟨⟨w.heap.C,w.heap.W,Z2b (Z2e w) (Z0i w).toNat n,w.heap.S,w.heap.B⟩,w.old,w.T++[Z0i w],w.Q,w.D,w.rep⟩,4096+Z0i w*w.heap.C.pw,true):=by rw[Work.place,if_neg hf,if_pos hg]
   obtain⟨g1,g2,g3⟩:=Z9P (h:=⟨w.heap.C,w.heap.W,w.heap.P,1-w.heap.S,w.heap.B⟩) (by simp only;omega) hg n;have g1':Z2b (Z2e w) (Z0i w).toNat n=w.heap.P.set (Z0i w).toNat ⟨1,1-w.heap.S,n,0⟩:=g1;have g2':(w.heap.P.getD (Z0i w).toNat default).K=0:=g2;have g3':(Z0i w).toNat<w.heap.P.length:=g3;rw[e,g1'];refine⟨h.pt.setPage g3' (Or.inl g2') ⟨by simp only;omega,by simp,by simp,by simp,fun _=>by simp only;omega,by simp⟩ (Or.inr rfl), ?_, ?_⟩
   ·intro x hx;simp only at hx ⊢;rw[Z1E g3'];split
    ·rfl
    ·rename_i hne;rcases List.mem_append.1 hx with hx | hx
     ·exact h.tk x hx
     ·simp at hx;subst hx;exact absurd rfl hne
   ·intro p hp;rcases List.mem_or_eq_of_mem_set hp with hp | rfl
    ·exact h.pin p hp
    ·exact hB
  ·rw[Work.place,if_neg hf,if_neg hg]at hc;simp at hc
theorem Tab.fwd{B:Int}(hB:0≤B)(w:Work)(r:Int)(hw:WkOk w)(hi:CIv w)(h:Tab B w)(e:(w.fwd r).2.2=0):Tab B (w.fwd r).1:=by
 unfold Work.fwd at e ⊢;split at e
 ·rename_i c1;rw[if_pos c1];exact h
 ·rename_i c1;rw[if_neg c1];split at e
  ·simp at e
  ·rename_i c2;rw[if_neg c2];have c2':r∈w.old:=Decidable.not_not.1 c2;split at e
   ·rename_i c3;rw[if_pos c3];exact h
   ·rename_i c3;rw[if_neg c3];split at e
    ·simp at e
    ·rename_i c4;rw[if_neg c4];split at e
     ·rename_i c5;rw[if_pos c5];exact⟨h.pt,h.tk,h.pin⟩
     ·rename_i c5;rw[if_neg c5];split at e
      ·rename_i c6;rw[if_pos c6];have hsp:=hw.sp;have o:=Z2M hw.C (Decidable.not_not.1 c4);have hpl:=hw.pl;have hl:Z1x w r<w.heap.P.length:=by unfold Z1x;omega
       refine⟨h.pt.flip hl c6 oq, ?_, ?_⟩
       ·intro x hx;have t:=hw.tk x hx;simp only[Work.keep,Work.flip];rw[Z2I oq];split
        ·rename_i hc;exfalso;by_cases hx':x.toNat=Z1x w r
         ·rw[hx']at t;omega
         ·have:=(Zby (l:=w.heap.P) (i:=Z1x w r) (m:=x.toNat-Z1x w r-1) oq).2;rw[show Z1x w r+1+(x.toNat-Z1x w r-1)=x.toNat by omega]at this;omega
        ·exact h.tk x hx
       ·intro p hp;simp only[Work.keep,Work.flip,Z0p,List.mem_map,List.mem_range]at hp;obtain⟨j,hj,rfl⟩:=hp;split
        ·exact h.pin (w.heap.P.getD j default) (getD_in hj)
        ·exact h.pin (w.heap.P.getD j default) (getD_in hj)
      ·rename_i c6;rw[if_neg c6];split at e
       ·simp at e
       ·rename_i c7;rw[if_neg c7];have c7':(w.place (sizeH (hdW w r))).2.2=true:=by simpa using c7
        have hz:=hi.z r c2';have hs:=Z39 w r;have hp:sizeH (hdW w r)≤w.heap.C.pw:=by
         rw[Z4y];rcases hz with hz | hz
         ·exact absurd hz c6
         ·exact hz
        obtain⟨q1,q2,q3⟩:=h.place hB hw ⟨hs.1,hp⟩ c7';exact⟨q1,q2,q3⟩
theorem ZjB{B:Int}{h:Heap}(hp:Z02 h=true)(hb:∀ p∈h.P,p.N≤B):Tab B (beginW h):=by
 have hp':=hp;rw[Z2l]at hp';have hs:=hp'.2.2.2.1;refine⟨?_,by simp[beginW], ?_⟩
 ·refine hp'.2.2.2.2.2.mapPages _ ?_ ?_ ?_ ?_
  ·intro p hp;unfold begQ;split
   ·rename_i hc;exact⟨by simp only;omega,hp.n,hp.k,fun q=>by simp only at q;omega,hp.k1,fun q=>by simp only at q;omega⟩
   ·exact hp
  ·intro p hp hk;unfold begQ at hk ⊢;split at hk
   ·rename_i hc;simp only at hk;omega
   ·rename_i hc;rw[if_neg hc];exact⟨hk,rfl⟩
  ·intro p hp hk;unfold begQ at hk;split at hk
   ·rename_i hc;simp only at hk;omega
   ·exact hk
  ·intro p q hp hq h2 h3 he;have e1:begQ (1-h.S) p=p:=by rw[begQ,if_neg oq]
   have e2:begQ (1-h.S) q=q:=by rw[begQ,if_neg oq]
   rw[e1,e2];exact⟨⟨fun _=>h3,fun _=>h2⟩,fun _=>he⟩
 ·intro p hp;simp only[beginW,List.mem_map]at hp;obtain⟨q,hq,rfl⟩:=hp;unfold begQ;split
  ·exact hb q hq
  ·exact hb q hq
theorem Zog{B:Int}(hB:0≤B){h:Heap}{s:List Int}(hw:WOk h.W)(hp:Z02 h=true)(hb:∀ p∈h.P,p.N≤B)(e:(rootsF (beginW h) s).2.2=0)(e2:(allF (rootsF (beginW h) s).1).2=0):Tab B (cW2 h s) :=
 Zqf (Tab B) (fun w r hw hi h e=>h.fwd hB w r hw hi e) (fun w q j hw hi h hq h0 h1 e=>(Tab.fwd hB w _ hw hi h e).withWords _) (fun w n h=>⟨h.pt,h.tk,h.pin⟩) hw hp (ZjB hp hb) e e2
structure MOk (w:WorldM) (n:Nat):Prop where
 W:WOk w.heap.W
 hv:Z05 w.heap.C=true
 pl:(w.heap.P.length:Int)=w.heap.C.pg
 L:(w.heap.W.length:Int)=w.heap.C.pw*w.heap.C.pg
 N:∀ j,j<w.heap.P.length→0≤(w.heap.P.getD j default).N∧(w.heap.P.getD j default).N≤n
 us:∀ j,j<w.heap.P.length→0≤(w.heap.P.getD j default).U∧(w.heap.P.getD j default).U≤256
 G:ULe w.G
 E:ULe w.E
 sl:w.G.length≤n
 wl:w.E.length≤n
theorem MOk.wm{w:WorldM}{n:Nat}(h:MOk w n)(hn:n≤1000000):WMok w:=⟨h.W,h.G,h.E,Nat.le_trans h.sl oq,Nat.le_trans h.wl oq⟩
def WorldM.dup(w:WorldM)(t:Tape):WorldM:=⟨w.heap,w.G++[w.pick t],w.E⟩
def WorldM.step(w:WorldM)(t:Tape):WorldM :=
 if t.next 12≤3 then w.put ((t.step 12).header w.heap.C)
 else if t.next 12≤6 then w.link (t.step 12)
 else if t.next 12≤7 then w.pin (t.step 12)
 else if t.next 12≤9 then w.drop (t.step 12)
 else if t.next 12≤10 then w.collect
 else w.dup (t.step 12)
def WorldM.stepT(w:WorldM)(t:Tape):Tape :=
 if t.next 12≤3 then(t.step 12).headerT w.heap.C
 else if t.next 12≤6 then w.linkT (t.step 12)
 else if t.next 12≤7 then w.pinT (t.step 12)
 else if t.next 12≤9 then w.dropT (t.step 12)
 else if t.next 12≤10 then t.step 12
 else w.pickT (t.step 12)
theorem Za0(t:Tape)(c:Conf):0≤(t.header c).map∧(t.header c).map≤4294967295:=by
 have h:∀ n:Int,0≤((Z3c t c).step 4).next (2^(min (min n 32) 12).toNat)∧((Z3c t c).step 4).next (2^(min (min n 32) 12).toNat)≤4294967295:=by
  intro n;have p:=Zo8 (n:=min (min n 32) 12) oq;have r:=Z0Z ((Z3c t c).step 4) (n:=2^(min (min n 32) 12).toNat) p.1;omega
 unfold Tape.header;split
 ·simp
 ·split
  ·simp
  ·exact h _
theorem Z0X(t:Tape)(d:Int)(hd:t.next 12=d)(ht:TOk t):LP 22 [.pt 0 0 0,int 12] [t.b] (int d) [(t.step 12).b]:=by
 rw[← hd];exact Z0d t 12 ht dd dd
section
variable (w:WorldM) (t:Tape) (n:Nat) (hm:MOk w n) (hn:n≤1000000) (ht:TOk t) (ha:t.at'≤900000)
include hm hn ht ha
theorem Zi0:LP 58 [w.av,.pt 0 0 0] [t.b] (w.step t).av [(w.stepT t).b]:=by
 have hw:=hm.wm hn;have h1:=hm.W;have h2:=hm.G;have h3:=hm.E;have h4:=hm.sl;have h5:=hm.wl;have s1:=Z30 (t:=t) 12;have k1:=Z3z ht s1.2.2 oq oq;have n1:=Z0Z t (n:=12) dd;have hmap:=Za0 (t.step 12) w.heap.C;have hv:=hm.hv;have hpl:=hm.pl;have hpn:∀ j,j<w.heap.P.length→-1048576≤(w.heap.P.getD j default).N∧(w.heap.P.getD j default).N≤4294967296:=fun j hj=>by
  have:=hm.N j hj;omega
 have hd:t.next 12=0∨t.next 12=1∨t.next 12=2∨t.next 12=3∨t.next 12=4∨t.next 12=5∨t.next 12=6∨t.next 12=7∨t.next 12=8∨t.next 12=9∨t.next 12=10∨t.next 12=11:=by omega
 rcases hd with hd | hd | hd | hd | hd | hd | hd | hd | hd | hd | hd | hd
 ·have e7:w.step t=w.put ((t.step 12).header w.heap.C):=by simp[WorldM.step,hd]
  have e8:w.stepT t=(t.step 12).headerT w.heap.C:=by simp[WorldM.stepT,hd]
  rw[e7,e8];exact lF Tryz.func58 [] (Fp 6 (@Z0X t (0) aa aa) (Fp 17 (@Z5v (t.step 12) w.heap.C aa oq aa) (Fc 18 (@Z6h w ((t.step 12).header w.heap.C) aa aa) Fz)))
 ·have e7:w.step t=w.put ((t.step 12).header w.heap.C):=by simp[WorldM.step,hd]
  have e8:w.stepT t=(t.step 12).headerT w.heap.C:=by simp[WorldM.stepT,hd]
  rw[e7,e8];exact lF Tryz.func58 [] (Fp 6 (@Z0X t (1) aa aa) (Fp 17 (@Z5v (t.step 12) w.heap.C aa oq aa) (Fc 18 (@Z6h w ((t.step 12).header w.heap.C) aa aa) Fz)))
 ·have e7:w.step t=w.put ((t.step 12).header w.heap.C):=by simp[WorldM.step,hd]
  have e8:w.stepT t=(t.step 12).headerT w.heap.C:=by simp[WorldM.stepT,hd]
  rw[e7,e8];exact lF Tryz.func58 [] (Fp 6 (@Z0X t (2) aa aa) (Fp 17 (@Z5v (t.step 12) w.heap.C aa oq aa) (Fc 18 (@Z6h w ((t.step 12).header w.heap.C) aa aa) Fz)))
 ·have e7:w.step t=w.put ((t.step 12).header w.heap.C):=by simp[WorldM.step,hd]
  have e8:w.stepT t=(t.step 12).headerT w.heap.C:=by simp[WorldM.stepT,hd]
  rw[e7,e8];exact lF Tryz.func58 [] (Fp 6 (@Z0X t (3) aa aa) (Fp 17 (@Z5v (t.step 12) w.heap.C aa oq aa) (Fc 18 (@Z6h w ((t.step 12).header w.heap.C) aa aa) Fz)))
 ·have e7:w.step t=w.link (t.step 12):=by simp[WorldM.step,hd]
  have e8:w.stepT t=w.linkT (t.step 12):=by simp[WorldM.stepT,hd]
  rw[e7,e8];exact lF Tryz.func58 [] (Fp 6 (@Z0X t (4) aa aa) (Fp 25 (@Z8p w (t.step 12) aa aa oq) Fz))
 ·have e7:w.step t=w.link (t.step 12):=by simp[WorldM.step,hd]
  have e8:w.stepT t=w.linkT (t.step 12):=by simp[WorldM.stepT,hd]
  rw[e7,e8];exact lF Tryz.func58 [] (Fp 6 (@Z0X t (5) aa aa) (Fp 25 (@Z8p w (t.step 12) aa aa oq) Fz))
 ·have e7:w.step t=w.link (t.step 12):=by simp[WorldM.step,hd]
  have e8:w.stepT t=w.linkT (t.step 12):=by simp[WorldM.stepT,hd]
  rw[e7,e8];exact lF Tryz.func58 [] (Fp 6 (@Z0X t (6) aa aa) (Fp 25 (@Z8p w (t.step 12) aa aa oq) Fz))
 ·have e7:w.step t=w.pin (t.step 12):=by simp[WorldM.step,hd]
  have e8:w.stepT t=w.pinT (t.step 12):=by simp[WorldM.stepT,hd]
  rw[e7,e8];exact lF Tryz.func58 [] (Fp 6 (@Z0X t (7) aa aa) (Fp 30 (@ZlU w (t.step 12) aa aa oq aa oq aa) Fz))
 ·have e7:w.step t=w.drop (t.step 12):=by simp[WorldM.step,hd]
  have e8:w.stepT t=w.dropT (t.step 12):=by simp[WorldM.stepT,hd]
  rw[e7,e8];exact lF Tryz.func58 [] (Fp 6 (@Z0X t (8) aa aa) (Fp 36 (@ZcU w (t.step 12) aa aa oq) Fz))
 ·have e7:w.step t=w.drop (t.step 12):=by simp[WorldM.step,hd]
  have e8:w.stepT t=w.dropT (t.step 12):=by simp[WorldM.stepT,hd]
  rw[e7,e8];exact lF Tryz.func58 [] (Fp 6 (@Z0X t (9) aa aa) (Fp 36 (@ZcU w (t.step 12) aa aa oq) Fz))
 ·have e7:w.step t=w.collect:=by simp[WorldM.step,hd]
  have e8:w.stepT t=t.step 12:=by simp[WorldM.stepT,hd]
  rw[e7,e8];exact lF Tryz.func58 [] (Fp 6 (@Z0X t (10) aa aa) (Fc 40 (@ZcM w aa oq oq aa aa) Fz))
 ·have e7:w.step t=w.dup (t.step 12):=by simp[WorldM.step,hd]
  have e8:w.stepT t=w.pickT (t.step 12):=by simp[WorldM.stepT,hd]
  rw[e7,e8];exact lF Tryz.func58 [] (Fh 49 [.els (List.map wdv (w.G++[w.pick (t.step 12)]))] (Fp 6 (@Z0X t (11) aa aa) (FAx 41 44 wdv w.G (by(simp[WorldM.dup, *];omega)) (Fp 47 (@Z1T w (t.step 12) aa aa oq) (Fs 48 (List.map wdv [w.pick (t.step 12)]) (Fa (by(simp[WorldM.dup, *];omega):(List.map wdv w.G).length+(List.map wdv [w.pick (t.step 12)]).length≤2^30) (Fa (by simp[WorldM.dup,List.map_take,List.map_drop,List.map_set,List.map_append,wdv,idv]:List.map wdv w.G++List.map wdv [w.pick (t.step 12)]=List.map wdv (w.G++[w.pick (t.step 12)])) Fz)))))))
end
theorem Za2{pw s:Int}{l:List Page}{ws:List Int}(h:WOk ws):∀ i,WOk (Z2L pw s l ws i)
 | 0=>h
 | i+1=>by
  have ih:=Za2 (pw:=pw) (s:=s) (l:=l) h i;unfold Z2L;split
  ·intro x hx;simp only[spl,List.mem_append,List.mem_replicate]at hx;rcases hx with(hx | hx) | hx
   ·exact ih x (List.mem_of_mem_take hx)
   ·omega
   ·exact ih x (List.mem_of_mem_drop hx)
  ·exact ih
theorem ZnB{c:Conf}{l:List Page}(h:PT c l)(s:Int):PT c (l.map (Z2A s)):=by
 refine h.mapPages _ ?_ ?_ ?_ ?_
 ·intro p hp;unfold Z2A;split
  ·exact⟨by simp,by simp,by simp,by simp,by simp,by simp⟩
  ·exact hp
 ·intro p hp hk;unfold Z2A at hk ⊢;split at hk
  ·simp at hk
  ·rename_i hc;rw[if_neg hc];exact⟨hk,rfl⟩
 ·intro p hp hk;unfold Z2A at hk;split at hk
  ·simp at hk
  ·exact hk
 ·intro p q hp hq h2 h3 he;by_cases hg:p.S=s
  ·have e1:Z2A s p=⟨0,0,0,0⟩:=by rw[Z2A,if_pos ⟨by omega,hg⟩]
   have e2:Z2A s q=⟨0,0,0,0⟩:=by rw[Z2A,if_pos ⟨by omega,by omega⟩]
   rw[e1,e2];simp
  ·have e1:Z2A s p=p:=by rw[Z2A,if_neg (by unfold Z6Z;omega)]
   have e2:Z2A s q=q:=by rw[Z2A,if_neg (by unfold Z6Z;omega)]
   rw[e1,e2];exact⟨⟨fun _=>h3,fun _=>h2⟩,fun _=>he⟩
theorem Z9f{w:Work}(hw:WkOk w)(k:List Int):∀ i,∀ x∈Z5Y w k i,0≤x∧x≤4294967296
 | 0,x,hx=>by simp[Z5Y]at hx
 | i+1,x,hx=>by
  simp only[Z5Y,List.mem_append,List.mem_singleton]at hx;rcases hx with hx | rfl
  ·exact Z9f hw k i x hx
  ·have h:=Z7P w k i;unfold Z8P;split
   ·omega
   ·unfold Z1y;rw[h.2.2.2.1,h.1];split
    ·rename_i hq;have:=hw.q _ hq;omega
    ·have:=Z69 (Z0C hw.W (k.getD i default)).1;omega
structure ColOk (B:Int) (h:Heap) (s k:List Int):Prop where
 p0:Z02 h=true
 p1:Z02 (Z0o h s k).1=true
 w:WOk (Z0o h s k).1.W
 n:∀ p∈(Z0o h s k).1.P,p.N≤B
 c:(Z0o h s k).1.C=h.C
 r:∀ x∈(Z0o h s k).2.1,0≤x∧x≤4294967296
 rl:(Z0o h s k).2.1.length=s.length
 v:∀ x∈(Z0o h s k).2.2.1,0≤x∧x≤4294967296
 vl:(Z0o h s k).2.2.1.length=k.length
theorem Zhh{B:Int}(hB:0≤B){h:Heap}{s k:List Int}(hw:WOk h.W)(hb:∀ p∈h.P,p.N≤B)(e:(Z0o h s k).2.2.2.2=0):ColOk B h s k:=by
 by_cases hp:Z02 h=true
 ·by_cases hr:Z0m h s=true∧Z0m h k=true
  ·by_cases e1:(rootsF (beginW h) s).2.2=0
   ·by_cases e2:(allF (rootsF (beginW h) s).1).2=0
    ·have e7:Z0o h s k=(endH (cW5 h s k),(rootsF (beginW h) s).2.1,Z5Y (cW2 h s) k k.length,(cW5 h s k).rep,0):=by rw[Z0o,if_pos hp,if_pos hr,if_pos e1,if_pos e2]
     have ho:=Z4S (roots:=s) (Z3H hw hp) (Z54 hp) e1;have c:=cOk h s k hw hp e1 e2;have c5:=cOk5 h s k hw hp e1 e2;have tb:=Zog hB hw hp hb e1 e2;obtain⟨g1,g2,g3,g4,g5⟩:=c.h4;have hsp:=c.w2.sp;have hc2:(cW2 h s).heap.C=h.C:=c.x2.c;have hpl:=c.w2.pl;rw[hc2]at hpl;have hL:=c.i4.L;rw[g1]at hL;have hfl:=Z5k (s:=(cW4 h s k).heap.S) c5.2.2.2.1 (cW4 h s k).heap.P.length (Nat.le_refl _);refine⟨hp, ?_, ?_, ?_, ?_, ?_, ?_, ?_, ?_⟩
     ·rw[e7,Z2l];simp only[endH,cW5,Z1v,g1,g2,g3,g4];have hptf:=ZnB (s:=(cW2 h s).heap.S) tb.pt;rw[hc2]at hptf;refine⟨(Z09 hp).1, ?_,by simp only[List.length_map];exact hpl,by omega, ?_,hptf⟩
      ·rw[g1,g2,g3]at hfl;rw[hfl];exact hL
      ·split
       ·rename_i ht;have hm:=Z1C (w:=cW2 h s) ht;have t1:=c.w2.tk _ hm;have t2:=tb.tk _ hm;refine Or.inr ⟨t1.1,by simp only[List.length_map];exact t1.2.1, ?_⟩;have hx:(List.map (Z2A (cW2 h s).heap.S) (cW2 h s).heap.P).getD (Z0w (cW2 h s)).toNat default=(cW2 h s).heap.P.getD (Z0w (cW2 h s)).toNat default:=by
         have hi:(Z0w (cW2 h s)).toNat<(cW2 h s).heap.P.length:=by omega
         have:(List.map (Z2A (cW2 h s).heap.S) (cW2 h s).heap.P).getD (Z0w (cW2 h s)).toNat default=Z2A (cW2 h s).heap.S ((cW2 h s).heap.P.getD (Z0w (cW2 h s)).toNat default):=by simp[List.getD_eq_getElem?_getD,hi]
         rw[this,Z2A,if_neg (by unfold Z6Z;omega)]
        show((List.map (Z2A (cW2 h s).heap.S) (cW2 h s).heap.P).getD (Z0w (cW2 h s)).toNat default).K=1;rw[hx];exact t1.2.2
       ·exact Or.inl rfl
     ·rw[e7];exact Za2 c.f4.W _
     ·rw[e7];intro p hp';simp only[endH,cW5,Z1v,g2,List.mem_map]at hp';obtain⟨q,hq,rfl⟩:=hp';unfold Z2A;split
      ·exact hB
      ·exact tb.pin q hq
     ·rw[e7];exact g1
     ·rw[e7];exact ho.2.2.2.1
     ·rw[e7];exact ho.2.2.2.2
     ·rw[e7];exact Z9f c.w2 k _
     ·rw[e7];exact Z8m _ _ _
    ·rw[Z0o,if_pos hp,if_pos hr,if_pos e1,if_neg e2]at e;exact absurd e e2
   ·rw[Z0o,if_pos hp,if_pos hr,if_neg e1]at e;exact absurd e e1
  ·rw[Z0o,if_pos hp,if_neg hr]at e;simp at e
 ·rw[Z0o,if_neg hp]at e;simp at e
theorem Zei{h:Heap}(hp:Z02 h=true):∀ p∈h.P,0≤p.N:=by
 rw[Z2l]at hp;intro p hp';obtain⟨i,hi,e⟩:=List.mem_iff_getElem.1 hp';have:=(hp.2.2.2.2.2.b i hi).n.1;rwa [show h.P.getD i default=p by rw[List.getD_eq_getElem?_getD,List.getElem?_eq_getElem hi,e];rfl]at this
theorem MOk.of_proper{w:WorldM}{n:Nat}(hp:Z02 w.heap=true)(hw:WOk w.heap.W)(hn:∀ p∈w.heap.P,p.N≤n)(h1:ULe w.G)(h2:ULe w.E)(h3:w.G.length≤n)(h4:w.E.length≤n):MOk w n:=by
 have po:=Z09 hp;exact⟨hw,po.1,po.2.2.2.2.2.2.2.1,po.2.2.2.2.2.1,fun j hj=>⟨Zei hp _ (getD_in hj),hn _ (getD_in hj)⟩,fun j hj=>by have:=Z15 hp hj;omega,h1,h2,h3,h4⟩
theorem MOk.pin_mem{w:WorldM}{n:Nat}(h:MOk w n):∀ p∈w.heap.P,0≤p.N∧p.N≤n:=by
 intro p hp;obtain⟨i,hi,e⟩:=List.mem_iff_getElem.1 hp;have:=h.N i hi;rwa [show w.heap.P.getD i default=p by rw[List.getD_eq_getElem?_getD,List.getElem?_eq_getElem hi,e];rfl]at this
theorem MOk.mono{w:WorldM}{n:Nat}(h:MOk w n):MOk w (n+1) :=
 ⟨h.W,h.hv,h.pl,h.L,fun j hj=>by have:=h.N j hj;omega,h.us,h.G,h.E,by have:=h.sl;omega,by have:=h.wl;omega⟩
theorem Ze1{l:List Int}(h:ULe l){x:Int}(hx:0≤x∧x≤18446744073709551615):ULe (l++[x]):=by
 intro y hy;simp only[List.mem_append,List.mem_singleton]at hy;rcases hy with hy | rfl
 ·exact h y hy
 ·exact hx
theorem MOk.put{w:WorldM}{n:Nat}(h:MOk w n){hd:Header}(hm:0≤hd.map∧hd.map≤4294967295):MOk (w.put hd) (n+1):=by
 unfold WorldM.put;split
 ·rename_i e;obtain⟨k1,k2,k3,k4,k5,k6,k7,k8⟩:=Zok h.W hm e;have po:=Z09 k1;have hl:=h.sl;have hl2:=h.wl;have z:=(Zbd k2).2.1;have a1:=k3.lo;have a2:=k3.hi;refine MOk.of_proper k7 k8 ?_ (Ze1 h.G (by rw[k5];omega)) h.E qo (by simp only;omega);intro p hp;simp only at hp;rw[k6]at hp;simp only at hp;rcases k3.pin p hp with q | ⟨q,q1,q2⟩
  ·omega
  ·have:=h.pin_mem q q1;omega
 ·exact h.mono
theorem MOk.link{w:WorldM}{n:Nat}(h:MOk w n)(hn:n≤1000000)(t:Tape):MOk (w.link t) (n+1):=by
 unfold WorldM.link;split
 ·rename_i hc;have g:=Z4B hc.1;have hw:=h.wm hn;have hlen:1≤(getH w.heap (w.pick t)).1.length:=by omega
  have n1:=Z0Z (w.pickT (w.pickT t)) (n:=8) dd;have hi:0≤Z7K w t∧Z7K w t<(getH w.heap (w.pick t)).1.length:=by
   unfold Z7K;rw[Int.tmod_eq_emod_of_nonneg n1.1];exact⟨Int.emod_nonneg _ oq,Int.emod_lt_of_pos _ oq⟩
  have hv:0≤Z9s w t∧Z9s w t≤18446744073709551615:=by
   unfold Z9s;split
   ·exact Z3W hw _
   ·have:=Z0Z ((w.pickT (w.pickT t)).step 8) (n:=1048576) dd;omega
  obtain⟨s1,s2,s3⟩:=ZeK h.W hv hc.1 hi;have hl:=h.sl;have hl2:=h.wl;refine MOk.of_proper s2 s3 ?_ h.G h.E (by simp only;omega) (by simp only;omega);intro p hp;simp only at hp;rw[s1]at hp;have:=h.pin_mem p hp;omega
 ·exact h.mono
theorem Ziu{w:WorldM}{n:Nat}(h:MOk w n){i:Nat}(hi:i<w.heap.P.length){d:Int}(hd:d=1∨(d=-1∧0<(w.heap.P.getD i default).N)):MOk (pinB w i d) (n+1):=by
 have hp:=h.N i hi;refine⟨h.W,h.hv, ?_,h.L, ?_, ?_,h.G,h.E,by have:=h.sl;simp only[pinB];omega,by have:=h.wl;simp only[pinB];omega⟩
 ·simp only[pinB,List.length_set];exact h.pl
 ·intro j hj;simp only[pinB,List.length_set]at hj ⊢;rw[Z1E hi];split
  ·simp only;omega
  ·have:=h.N j hj;omega
 ·intro j hj;simp only[pinB,List.length_set]at hj ⊢;rw[Z1E hi];split
  ·exact h.us i hi
  ·exact h.us j hj
theorem MOk.pin{w:WorldM}{n:Nat}(h:MOk w n)(t:Tape):MOk (w.pin t) (n+1):=by
 unfold WorldM.pin;split
 ·rename_i e;have o:=Z2M h.hv e;have hpl:=h.pl;have hi:pinI w t<w.heap.P.length:=by unfold pinI;omega
  split
  ·rename_i hc;exact Ziu h hi (Or.inr ⟨rfl,hc.1⟩)
  ·split
   ·exact Ziu h hi (Or.inl rfl)
   ·exact h.mono
 ·exact h.mono
theorem MOk.drop{w:WorldM}{n:Nat}(h:MOk w n)(t:Tape):MOk (w.drop t) (n+1):=by
 unfold WorldM.drop;split
 ·have hl:=h.sl;have hl2:=h.wl;refine⟨h.W,h.hv,h.pl,h.L,fun j hj=>by have:=h.N j hj;simp only;omega,h.us, ?_, ?_, ?_, ?_⟩
  ·intro x hx;rcases List.mem_append.1 hx with hx | hx
   ·exact h.G x (List.mem_of_mem_take hx)
   ·exact h.G x (List.mem_of_mem_drop hx)
  ·simp only;split
   ·exact Ze1 h.E (Z4p h.G _)
   ·exact h.E
  ·simp only[List.length_append,List.length_take,List.length_drop];omega
  ·simp only;split
   ·simp;omega
   ·omega
 ·exact h.mono
theorem MOk.collect{w:WorldM}{n:Nat}(h:MOk w n):MOk w.collect (n+1):=by
 unfold WorldM.collect;split
 ·rename_i e;have c:=Zhh (B:=n) oq h.W (fun p hp=>(h.pin_mem p hp).2) e;have hl:=h.sl;have hl2:=h.wl;refine MOk.of_proper c.p1 c.w (fun p hp=>by have:=c.n p hp;omega) (fun x hx=>by have:=c.r x hx;omega) (fun x hx=>by have:=c.v x hx;omega) (by simp only[c.rl];omega) (by simp only[c.vl];omega)
 ·exact h.mono
theorem MOk.step{w:WorldM}{n:Nat}(h:MOk w n)(hn:n≤1000000)(t:Tape):MOk (w.step t) (n+1):=by
 unfold WorldM.step;repeat' split
 ·exact h.put (Za0 _ _)
 ·exact h.link hn _
 ·exact h.pin _
 ·exact h.drop _
 ·exact h.collect
 ·have hl:=h.sl;have hl2:=h.wl;exact⟨h.W,h.hv,h.pl,h.L,fun j hj=>by have:=h.N j hj;simp only[WorldM.dup]at *;omega,h.us,Ze1 h.G (Z3W (h.wm hn) _),h.E,by simp only[WorldM.dup,List.length_append,List.length_singleton];omega,by simp only[WorldM.dup];omega⟩
theorem Zdi(h:Heap):GP 40 [h.av] true (bool (decide (h.W.length≤5000∧h.P.length≤100))) []:=by
 exact gF [] Tryz.func40 (fO 4) (Fl 5 wdv h.W (FlG 10 (decide ((↑h.W.length:Int)≤5000)) Page.dv h.P (Fa (by grind[]:(decide ((↑h.W.length:Int)≤5000)&&decide ((↑h.P.length:Int)≤100))=decide (h.W.length≤5000∧h.P.length≤100)) Fz)))
theorem Z7u(w:WorldM)(t:Tape)(n:Nat)(hm:MOk w n)(hn:n≤1000000)(ht:TOk t)(ha:t.at'≤900000):LP 58 [w.av,.pt 0 0 0] [t.b] (w.step t).av [(w.stepT t).b] :=
 Zi0 w t n hm hn ht ha
structure TUp (n:Int) (t u:Tape):Prop where
 l:u.l=t.l
 lo:t.at'≤u.at'
 hi:u.at'≤t.at'+n
theorem TUp.step(t:Tape)(n:Int):TUp 1 t (t.step n):=by
 have:=Z30 (t:=t) n;exact⟨this.2.2,this.1,this.2.1⟩
theorem TUp.trans{m n:Int}{t u v:Tape}(h1:TUp m t u)(h2:TUp n u v):TUp (m+n) t v :=
 ⟨h2.l.trans h1.l,by have:=h1.lo;have:=h2.lo;omega,by have:=h1.hi;have:=h2.hi;omega⟩
theorem TUp.mono{m n:Int}{t u:Tape}(h:TUp m t u)(hmn:m≤n):TUp n t u:=⟨h.l,h.lo,by have:=h.hi;omega⟩
theorem ZgE(t:Tape)(c:Conf):TUp 10 t (t.headerT c):=by
 have h1:TUp 4 t (Z3c t c):=by
  unfold Z3c;split
  ·exact(((TUp.step t _).trans (TUp.step _ 12)).trans (TUp.step _ _)).mono dd
  ·exact((TUp.step t _).trans (TUp.step _ 12)).mono dd
 unfold Tape.headerT;repeat' split
 ·exact(h1.trans (TUp.step _ 4)).mono dd
 ·exact(h1.trans (TUp.step _ 4)).mono dd
 ·exact((h1.trans (TUp.step _ 4)).trans (TUp.step _ _)).mono dd
theorem Zk3(w:WorldM)(t:Tape):TUp 10 t (w.linkT t):=by
 have h1:TUp 1 t (w.pickT t):=TUp.step _ _;have h2:TUp 1 (w.pickT t) (w.pickT (w.pickT t)):=TUp.step _ _;unfold WorldM.linkT;split
 ·exact((((h1.trans h2).trans (TUp.step _ 8))).trans (TUp.step _ _)).mono dd
 ·exact((h1.trans h2).trans (TUp.step _ 8)).mono dd
theorem Zly(w:WorldM)(t:Tape):(w.stepT t).l=t.l∧t.at'+1≤(w.stepT t).at'∧(w.stepT t).at'≤t.at'+20:=by
 have h0:(t.step 12).at'=t.at'+1∧(t.step 12).l=t.l:=by simp[Tape.step]
 have key:TUp 10 (t.step 12) (w.stepT t):=by
  unfold WorldM.stepT;repeat' split
  ·exact ZgE _ _
  ·exact Zk3 _ _
  ·unfold WorldM.pinT;split
   ·exact((TUp.step _ _).trans (TUp.step _ 2)).mono dd
   ·exact(TUp.step _ _).mono dd
  ·unfold WorldM.dropT;split
   ·exact((TUp.step _ _).trans (TUp.step _ 3)).mono dd
   ·exact⟨rfl,by omega,by omega⟩
  ·exact⟨rfl,by omega,by omega⟩
  ·exact(TUp.step _ _).mono dd
 have a:=key.l;have b:=key.lo;have c:=key.hi;exact⟨a.trans h0.2,by omega,by omega⟩
def mkS(w:WorldM)(t:Tape):Nat→WorldM×Tape
 | 0=>(w,t)
 | k+1=>((mkS w t k).1.step (mkS w t k).2,(mkS w t k).1.stepT (mkS w t k).2)
def mkB(w:WorldM)(t:Tape)(k:Nat):Bool:=decide (((mkS w t k).2.l.length:Int)≤(mkS w t k).2.at')
def mkN(w:WorldM)(t:Tape):Nat:=((List.range (2+t.l.length)).find? (mkB w t)).getD 0
def Zed(w:WorldM)(t:Tape):WorldM:=(mkS w t (mkN w t)).1
theorem ZfH(w:WorldM)(t:Tape):∀ k:Nat,(mkS w t k).2.l=t.l∧t.at'+k≤(mkS w t k).2.at'∧(mkS w t k).2.at'≤t.at'+20*k
 | 0=>by simp[mkS]
 | k+1=>by
  have ih:=ZfH w t k;have:=Zly (mkS w t k).1 (mkS w t k).2;refine⟨this.1.trans ih.1, ?_, ?_⟩
  ·simp only[mkS];omega
  ·simp only[mkS];omega
theorem ZfZ{w:WorldM}{n:Nat}(h:MOk w n)(t:Tape):∀ k,n+k≤1000000→MOk (mkS w t k).1 (n+k)
 | 0,_=>h
 | k+1,hk=>(ZfZ h t k oq).step oq _
theorem ZiI(w:WorldM)(t:Tape)(ht:0≤t.at'):mkB w t (mkN w t)=true∧(∀ j,j<mkN w t→mkB w t j=false)∧mkN w t≤t.l.length+1:=by
 cases hb:(List.range (2+t.l.length)).find? (mkB w t)with
 | none =>
  exfalso;have:=List.find?_eq_none.1 hb t.l.length (List.mem_range.2 oq);have u:=ZfH w t t.l.length;simp only[mkB,decide_eq_true_eq,u.1]at this;omega
 | some k =>
  obtain⟨h1,h2,h3⟩:=List.find?_range_eq_some.1 hb;have h2:=List.mem_range.1 h2;have e:mkN w t=k:=by rw[mkN,hb];rfl
  rw[e];exact⟨h1,fun j hj=>by simpa using h3 j hj,by omega⟩
def mkLA(w:WorldM)(t:Tape):Tg:=⟨tm 22 [(2,.pt 8002 0 0),(3,.pt 32012 0 0),(4,.pt 40004 0 0)],[(40004,.box 30 w.cells),(32012,t.b),(8002,.box 30 [int 0,int 0,.d (.sl 0 []),.d (.sl 0 []),int 0,int 0,.d (.sl 0 []),.d (.sl 0 [])])],60⟩
theorem Zlv(w:WorldM)(t:Tape)(n:Nat)(hm:MOk w n)(hn:n≤1000000)(ht:TOk t)(ha:t.at'≤900000)(hd:t.at'<t.l.length):CP (rndF Tryz.f15 0) (mkLA w t).st .nrm (mkLA (w.step t) (w.stepT t)).st:=by
 exact sF [] [] (Fp 16 (@Z7L t aa) (Ftb 17 (!decide ((↑t.l.length:Int)≤t.at')) (Fp 20 (@Z7u w t n aa aa aa aa) Fz)))
theorem ZpM(w:WorldM)(t:Tape)(ht:TOk t)(hd:¬ t.at'<t.l.length):CP (rndF Tryz.f15 0) (mkLA w t).st (.ext 0) (Tg.st ⟨tm 22 [(2,.pt 8002 0 0),(4,.pt 40004 0 0)],[(40004,.box 30 w.cells),(8002,.box 30 [int 0,int 0,.d (.sl 0 []),.d (.sl 0 []),int 0,int 0,.d (.sl 0 []),.d (.sl 0 [])])],60⟩):=by
 exact sF [] [] (Fp 16 (@Z7L t aa) (Ffb 17 (!decide ((↑t.l.length:Int)≤t.at')) Fz))
theorem ZnL(w:WorldM)(t:Tape)(hm:MOk w 0)(hl:t.l.length≤300)(h0:0≤t.at')(h1:t.at'≤1000):CP (blkF Tryz.f15 0) (Tg.st ⟨tm 22 [(2,.pt 8002 0 0),(3,.pt 32012 0 0),(4,.pt 40004 0 0)],[(40004,.box 30 w.cells),(32012,t.b),(8002,.box 30 [int 0,int 0,.d (.sl 0 []),.d (.sl 0 []),int 0,int 0,.d (.sl 0 []),.d (.sl 0 [])])],60⟩) .nrm (Tg.st ⟨tm 22 [(2,.pt 8002 0 0),(4,.pt 40004 0 0)],[(40004,.box 30 (Zed w t).cells),(8002,.box 30 [int 0,int 0,.d (.sl 0 []),.d (.sl 0 []),int 0,int 0,.d (.sl 0 []),.d (.sl 0 [])])],60⟩):=by
 have hk:=ZiI w t h0;have tok:∀ k,k≤mkN w t→TOk (mkS w t k).2∧(mkS w t k).2.at'≤900000:=fun k hk'=>by
  have u:=ZfH w t k;refine⟨?_,by omega⟩;unfold TOk;rw[u.1];omega
 refine Z07 (S:=fun k=>(mkLA (mkS w t k).1 (mkS w t k).2).st) (mkN w t) kr (fun k hk'=>?_) ?_
 ·have hs:=hk.2.1 k hk';simp only[mkB,decide_eq_false_iff_not]at hs;have m:=ZfZ hm t k oq;exact Zlv _ _ (0+k) m oq (tok k oq).1 (tok k oq).2 oq
 ·have hs:=hk.1;simp only[mkB,decide_eq_true_eq]at hs;exact ZpM _ _ (tok _ (Nat.le_refl _)).1 oq
def mkLB(w:WorldM)(t:Tape):Tg:=⟨tm 22 [(2,.pt 8002 0 0),(3,.pt 24012 0 0),(4,.pt 32004 0 0)],[(32004,.box 30 w.cells),(24012,t.b),(8002,.box 30 [int 0,int 0,.d (.sl 0 []),.d (.sl 0 []),int 0,int 0,.d (.sl 0 []),.d (.sl 0 [])])],60⟩
theorem Zkm(w:WorldM)(t:Tape)(n:Nat)(hm:MOk w n)(hn:n≤1000000)(ht:TOk t)(ha:t.at'≤900000)(hd:t.at'<t.l.length):CP (rndF Tryz.f15 0) (mkLB w t).st .nrm (mkLB (w.step t) (w.stepT t)).st:=by
 exact sF [] [] (Fp 16 (@Z7L t aa) (Ftb 17 (!decide ((↑t.l.length:Int)≤t.at')) (Fp 20 (@Z7u w t n aa aa aa aa) Fz)))
theorem ZpH(w:WorldM)(t:Tape)(ht:TOk t)(hd:¬ t.at'<t.l.length):CP (rndF Tryz.f15 0) (mkLB w t).st (.ext 0) (Tg.st ⟨tm 22 [(2,.pt 8002 0 0),(4,.pt 32004 0 0)],[(32004,.box 30 w.cells),(8002,.box 30 [int 0,int 0,.d (.sl 0 []),.d (.sl 0 []),int 0,int 0,.d (.sl 0 []),.d (.sl 0 [])])],60⟩):=by
 exact sF [] [] (Fp 16 (@Z7L t aa) (Ffb 17 (!decide ((↑t.l.length:Int)≤t.at')) Fz))
theorem Znl(w:WorldM)(t:Tape)(hm:MOk w 0)(hl:t.l.length≤300)(h0:0≤t.at')(h1:t.at'≤1000):CP (blkF Tryz.f15 0) (Tg.st ⟨tm 22 [(2,.pt 8002 0 0),(3,.pt 24012 0 0),(4,.pt 32004 0 0)],[(32004,.box 30 w.cells),(24012,t.b),(8002,.box 30 [int 0,int 0,.d (.sl 0 []),.d (.sl 0 []),int 0,int 0,.d (.sl 0 []),.d (.sl 0 [])])],60⟩) .nrm (Tg.st ⟨tm 22 [(2,.pt 8002 0 0),(4,.pt 32004 0 0)],[(32004,.box 30 (Zed w t).cells),(8002,.box 30 [int 0,int 0,.d (.sl 0 []),.d (.sl 0 []),int 0,int 0,.d (.sl 0 []),.d (.sl 0 [])])],60⟩):=by
 have hk:=ZiI w t h0;have tok:∀ k,k≤mkN w t→TOk (mkS w t k).2∧(mkS w t k).2.at'≤900000:=fun k hk'=>by
  have u:=ZfH w t k;refine⟨?_,by omega⟩;unfold TOk;rw[u.1];omega
 refine Z07 (S:=fun k=>(mkLB (mkS w t k).1 (mkS w t k).2).st) (mkN w t) kr (fun k hk'=>?_) ?_
 ·have hs:=hk.2.1 k hk';simp only[mkB,decide_eq_false_iff_not]at hs;have m:=ZfZ hm t k oq;exact Zkm _ _ (0+k) m oq (tok k oq).1 (tok k oq).2 oq
 ·have hs:=hk.1;simp only[mkB,decide_eq_true_eq]at hs;exact ZpH _ _ (tok _ (Nat.le_refl _)).1 oq
def Z4Y(l:List Int):Tape:=⟨l.take 300,0⟩
def Z0I(l:List Int):WorldM:=Zed (Z4Y l).empty (((Z4Y l).step 4).step 5)
theorem ZfQ(t:Tape):MOk t.empty 0:=by
 have hv:=Z4M t;have hb:=validB_iff.1 hv;refine⟨?_,hv, ?_, ?_, ?_, ?_, ?_, ?_,by simp[Tape.empty],by simp[Tape.empty]⟩
 ·intro x hx;simp only[Tape.empty,Z4n,List.mem_replicate]at hx;omega
 ·simp only[Tape.empty,Z4n,List.length_replicate];omega
 ·have:=area hv;simp only[Tape.empty,Z4n,List.length_replicate];omega
 ·intro j hj;simp only[Tape.empty,Z4n,List.length_replicate]at hj ⊢;have:(List.replicate t.C.pg.toNat (⟨0,0,0,0⟩:Page)).getD j default=⟨0,0,0,0⟩:=by simp[List.getD_eq_getElem?_getD,hj]
  rw[this];simp
 ·intro j hj;simp only[Tape.empty,Z4n,List.length_replicate]at hj ⊢;have:(List.replicate t.C.pg.toNat (⟨0,0,0,0⟩:Page)).getD j default=⟨0,0,0,0⟩:=by simp[List.getD_eq_getElem?_getD,hj]
  rw[this];simp
 ·intro x hx;simp[Tape.empty]at hx
 ·intro x hx;simp[Tape.empty]at hx
theorem Z9S(l:List Int):(((Z4Y l).step 4).step 5).l=l.take 300∧(((Z4Y l).step 4).step 5).at'=2:=by simp[Z4Y,Tape.step]
theorem Zfr(l:List Int):MOk (Z0I l) 1000:=by
 have e:=Z9S l;have hl:(((Z4Y l).step 4).step 5).l.length≤300:=by rw[e.1];simp;omega
 have hk:=ZiI (Z4Y l).empty (((Z4Y l).step 4).step 5) oq;have m:=ZfZ (ZfQ (Z4Y l)) (((Z4Y l).step 4).step 5) (mkN (Z4Y l).empty (((Z4Y l).step 4).step 5)) oq;have h2:∀ (w:WorldM) (a b:Nat),MOk w a→a≤b→MOk w b:=fun w a b h hab =>
  ⟨h.W,h.hv,h.pl,h.L,fun j hj=>by have:=h.N j hj;omega,h.us,h.G,h.E,by have:=h.sl;omega,by have:=h.wl;omega⟩
 exact h2 _ _ _ m oq
theorem Zbg(l:List Int)(hl:l.length≤140737488355328):GP 15 [Z0l l] false (Z0I l).av []:=by
 have e:=Z9S l;have he:=ZfQ (Z4Y l);have h1:(((Z4Y l).step 4).step 5).l.length≤300:=by rw[e.1];simp;omega
 have h2:=e.2;by_cases h:300<l.length
 ·have ht:TOk ⟨List.take (Int.toNat 300) l,0⟩:=by simp[TOk];omega
  have e9:Z4Y l=⟨List.take (Int.toNat 300) l,0⟩:=rfl;unfold Z0I;rw[e9]at he h1 h2 ⊢;exact gF [] Tryz.func15 [] (Fh 9 [.els (List.map idv (List.take (Int.toNat 300) l))] (Fl 6 idv l (Ftb 7 (decide (300<(↑l.length:Int))) (Fa (by(simp only[List.length_map];omega):(0:Int)≤(300:Int)∧300≤(↑(List.map idv l).length:Int)) (Fa (ms:List.take (Int.toNat 300) (List.map idv l)=List.map idv (List.take (Int.toNat 300) l)) (Fp 14 (@ZcD (Tape.mk (List.take (Int.toNat 300) l) 0) aa (by(simp only[bs];omega))) (Fu (@ZnL ((Tape.mk (List.take (Int.toNat 300) l) 0).empty) (((Tape.mk (List.take (Int.toNat 300) l) 0).step 4).step 5) aa aa oq oq) Fz)))))))
 ·have ht:TOk ⟨l,0⟩:=by simp[TOk];omega
  have e9:Z4Y l=⟨l,0⟩:=by rw[Z4Y,List.take_of_length_le oq]
  unfold Z0I;rw[e9]at he h1 h2 ⊢;exact gF [] Tryz.func15 [] (Fl 6 idv l (Ffb 7 (decide (300<(↑l.length:Int))) (Fp 14 (@ZcD (Tape.mk l 0) aa (by(simp only[bs];omega))) (Fu (@Znl ((Tape.mk l 0).empty) (((Tape.mk l 0).step 4).step 5) aa aa oq oq) Fz))))
def RootOn(h:Heap)(r:Int):Prop:=(ofA h.C r).2.2=0→(h.P.getD (ofA h.C r).1.toNat default).K=1∨(h.P.getD (ofA h.C r).1.toNat default).K=2
theorem RootOn.mono{h h':Heap}{r:Int}(hr:RootOn h r)(hc:h'.C=h.C)(hk:∀ j:Nat,(h.P.getD j default).K≠0→(h'.P.getD j default).K=(h.P.getD j default).K):RootOn h' r:=by
 intro e;rw[hc]at e ⊢;have q:=hr e;rw[hk _ oq];exact q
def hdA(ws:List Int)(a:Int):Header:=(decodeH (loadA ws a).1).1
def okA(ws:List Int)(a:Int):Prop:=(decodeH (loadA ws a).1).2=true
def kdA(ws:List Int)(a:Int):Int:=(hdA ws a).K
def kpA(ws:List Int)(a:Int):Int:=if kdA ws a=0 then 1 else hlA ws a+1
def bsP(h:Heap)(i:Nat):Int:=4096+i*h.C.pw
def tile(ws:List Int):Int→Int→List Int→Prop
 | a,b,[]=>a=b
 | a,b,x::l=>x=a∧okA ws a∧tile ws (a+hlA ws a+1) b l
theorem Z6S(ws:List Int)(a:Int):sizeH (hdA ws a)=hlA ws a+1:=by
 unfold hdA;rw[sizeH,if_pos (Z2a _)];rfl
theorem Zek{ws:List Int}:∀ {l:List Int} {a b:Int},tile ws a b l→a≤b
 | [],a,b,h=>by simp only[tile]at h;omega
 | x::l,a,b,h=>by
  have:=Zek h.2.2;have:=Z0Q ws a;omega
theorem Zfi{ws:List Int}{x:Int}:∀ {l:List Int} {a b:Int},tile ws a b l→x∈l→okA ws x∧a≤x∧x+hlA ws x<b
 | [],_,_,_,hx=>by simp at hx
 | y::l,a,b,h,hx=>by
  have hr:=Z0Q ws a;rcases List.mem_cons.1 hx with rfl | hx
  ·have:=Zek h.2.2;rw[h.1];exact⟨h.2.1,by omega,by omega⟩
  ·have:=Zfi h.2.2 hx;exact⟨this.1,by omega,this.2.2⟩
structure Gt (h:Heap) (T:Nat→List Int):Prop where
 p:Z02 h=true
 t1:∀ i,i<h.P.length→(h.P.getD i default).K=1→tile h.W (bsP h i) (bsP h i+(h.P.getD i default).U) (T i)
 t2:∀ i,i<h.P.length→(h.P.getD i default).K=2→T i=[bsP h i]∧okA h.W (bsP h i)∧hlA h.W (bsP h i)+1=(h.P.getD i default).U
 t0:∀ i x,x∈T i→i<h.P.length∧((h.P.getD i default).K=1∨(h.P.getD i default).K=2)
structure Gd (h:Heap) (T:Nat→List Int):Prop where
 p:Z02 h=true
 sp:∀ i,i<h.P.length→(h.P.getD i default).K≠0→(h.P.getD i default).S=h.S
 t1:∀ i,i<h.P.length→(h.P.getD i default).K=1→tile h.W (bsP h i) (bsP h i+(h.P.getD i default).U) (T i)∧∀ x∈T i,hlA h.W x+1≤Z00 h.C
 t2:∀ i,i<h.P.length→(h.P.getD i default).K=2→T i=[bsP h i]∧okA h.W (bsP h i)∧hlA h.W (bsP h i)+1=(h.P.getD i default).U∧kdA h.W (bsP h i)≠0
 t0:∀ i x,x∈T i→i<h.P.length∧((h.P.getD i default).K=1∨(h.P.getD i default).K=2)
 d:∀ a,(loadA h.W a).1≠0→∃ i x,x∈T i∧x≤a∧a<x+kpA h.W x
 q:∀ i x k,x∈T i→kdA h.W x≠0→0≤k→k<hlA h.W x→Z0e (hdA h.W x) k=true→(loadA h.W (x+1+k)).1=0∨∃ j,(loadA h.W (x+1+k)).1∈T j∧kdA h.W (loadA h.W (x+1+k)).1≠0
 cr:(crowd h.P:Int)≤h.C.pg/4
section
variable {h:Heap} {T:Nat→List Int} (g:Gt h T)
include g
theorem Gt.on{i:Nat}{x:Int}(hx:x∈T i):i<h.P.length∧((h.P.getD i default).K=1∨(h.P.getD i default).K=2)∧bsP h i≤x∧x<bsP h i+h.C.pw∧x+hlA h.W x<bsP h i+(h.P.getD i default).U∧okA h.W x∧((h.P.getD i default).K=2→x=bsP h i∧hlA h.W x+1=(h.P.getD i default).U):=by
 have t:=g.t0 i x hx;have po:=Z09 g.p;have pp:=Z15 g.p t.1;have hr:=Z0Q h.W x;refine⟨t.1,t.2, ?_⟩;rcases t.2 with k | k
 ·have m:=Zfi (g.t1 i t.1 k) hx;exact⟨m.2.1,by omega,m.2.2,m.1,fun q=>by omega⟩
 ·have m:=g.t2 i t.1 k;rw[m.1]at hx;have hx:=List.mem_singleton.1 hx;subst hx;exact⟨by omega,by omega,by omega,m.2.1,fun _=>⟨rfl,m.2.2⟩⟩
theorem Gt.ofx{i:Nat}{x:Int}(hx:x∈T i):ofA h.C x=((i:Int),x-bsP h i,0):=by
 have o:=g.on hx;have po:=Z09 g.p;have:=Zjk (c:=h.C) (i:=i) (o:=x-bsP h i) po.1 oq oq;rw[← this];congr 1;unfold bsP;omega
theorem Gt.at'{i:Nat}{x:Int}(hx:x∈T i):atH h x=(hdA h.W x,0):=by
 have o:=g.on hx;have r:=Z0Q h.W x;have s:sizeH (decodeH (loadA h.W x).1).1=hlA h.W x+1:=Z6S h.W x;unfold atH;rw[if_pos g.p,g.ofx hx];simp only[Int.toNat_natCast,s,if_true];rw[if_pos ⟨o.2.1,by omega,o.2.2.2.2.2.1⟩,if_neg]
 ·rfl
 ·have:=o.2.2.2.2.2.2;omega
theorem Zdv{i:Nat}(hi:i<h.P.length)(hk:(h.P.getD i default).K=1):∀ (f:Nat) (o:Int) (l:List Int),tile h.W (bsP h i+o) (bsP h i+(h.P.getD i default).U) l→(∀ x∈l,x∈T i)→0≤o→(h.P.getD i default).U-o≤f→Z2R h i f o=some l
 | 0,o,[],ht,hm,h0,hf=>rfl
 | 0,o,x::l,ht,hm,h0,hf=>by
  have:=Zek ht.2.2;have:=Z0Q h.W (bsP h i+o);omega
 | f+1,o,[],ht,hm,h0,hf=>by
  simp only[tile]at ht;unfold Z2R;rw[if_neg];show ¬ o<(h.P.getD (i:Int).toNat default).U;rw[Int.toNat_natCast];omega
 | f+1,o,x::l,ht,hm,h0,hf=>by
  have hx:=hm x pq;have e:=ht.1;have on:=g.on hx;have po:=Z09 g.p;have hr:=Z0Q h.W x;have hpg:pg h (i:Int)=h.P.getD i default:=by simp[pg]
  have ea:adr h i o=x:=by
   unfold adr address;rw[if_pos po.1,if_pos (inB_iff.2 ⟨by omega,by omega,h0,by omega⟩),e];unfold bsP;simp only;omega
  have t3:=ht.2.2;rw[← e]at t3;have ih:=Zdv hi hk f (o+(hlA h.W x+1)) l (by rw[show bsP h i+(o+(hlA h.W x+1))=x+hlA h.W x+1 by omega];exact t3) (fun y hy=>hm y (List.mem_cons_of_mem _ hy)) oq oq;unfold Z2R;rw[hpg,if_pos oq,ea,g.at' hx];simp only[if_true];rw[if_neg oq,Z6S,ih];rfl
theorem Gt.page{i:Nat}(hi:i<h.P.length):Z06 h i=(T i,0):=by
 have pp:=Z15 g.p hi;have hpg:pg h (i:Int)=h.P.getD i default:=by simp[pg]
 unfold Z06;rw[if_pos g.p,if_pos oq,hpg];by_cases hk:(h.P.getD i default).K=0∨(h.P.getD i default).K=3
 ·rw[if_pos hk];have:T i=[]:=List.eq_nil_iff_forall_not_mem.2 fun x hx=>by have:=(g.t0 i x hx).2;omega
  rw[this]
 ·rw[if_neg hk];by_cases h1:(h.P.getD i default).K=1
  ·have:=Zdv g hi h1 256 0 (T i) (by rw[Int.add_zero];exact(g.t1 i hi h1)) (fun _ q=>q) oq oq;rw[this]
  ·have h2:(h.P.getD i default).K=2:=by omega
   have t:=g.t2 i hi h2;have hx:bsP h i∈T i:=by rw[t.1];simp
   have on:=g.on hx;have po:=Z09 g.p;have hr:=Z0Q h.W (bsP h i);have ea:adr h i 0=bsP h i:=by
    unfold adr address;rw[if_pos po.1,if_pos (inB_iff.2 ⟨by omega,by omega,by omega,by omega⟩)];unfold bsP;simp
   have:Z2R h i 256 0=some (T i):=by
    unfold Z2R;rw[hpg,if_pos oq,ea,g.at' hx];simp only[if_true];rw[if_pos h2,t.1]
   rw[this]
end
section
variable {h:Heap} {T:Nat→List Int} (g:Gd h T)
include g
theorem Gd.gt:Gt h T:=⟨g.p,fun i hi hk=>(g.t1 i hi hk).1,fun i hi hk=>⟨(g.t2 i hi hk).1,(g.t2 i hi hk).2.1,(g.t2 i hi hk).2.2.1⟩,g.t0⟩
theorem Gd.on{i:Nat}{x:Int}(hx:x∈T i):i<h.P.length∧((h.P.getD i default).K=1∨(h.P.getD i default).K=2)∧bsP h i≤x∧x<bsP h i+h.C.pw∧x+hlA h.W x<bsP h i+(h.P.getD i default).U∧okA h.W x∧((h.P.getD i default).K=2→x=bsP h i∧hlA h.W x+1=(h.P.getD i default).U):=g.gt.on hx
theorem Gd.ofx{i:Nat}{x:Int}(hx:x∈T i):ofA h.C x=((i:Int),x-bsP h i,0):=g.gt.ofx hx
theorem Gd.at'{i:Nat}{x:Int}(hx:x∈T i):atH h x=(hdA h.W x,0):=g.gt.at' hx
theorem Gd.page{i:Nat}(hi:i<h.P.length):Z06 h i=(T i,0):=g.gt.page hi
end
theorem Zid{l:List Page}:∀ {i j:Nat},j≤i→(l.getD j default).K≠3→(∀ m,j<m→m≤i→(l.getD m default).K=3)→Z0u l i=j
 | 0,j,h,_,_=>by simp[Z0u];omega
 | i+1,j,h,hk,hm=>by
  unfold Z0u;by_cases q:j=i+1
  ·subst q;rw[if_neg hk]
  ·rw[if_pos (hm (i+1) oq (Nat.le_refl _))];exact Zid oq hk fun m h1 h2=>hm m h1 oq
section
variable {h:Heap} {T:Nat→List Int} (g:Gd h T)
include g
theorem Gd.head{i j:Nat}{x a:Int}(hx:x∈T j)(h1:x≤a)(h2:a≤x+hlA h.W x)(hi:i<h.P.length)(h3:bsP h i≤a)(h4:a<bsP h i+h.C.pw):Z0u h.P i=j:=by
 have o:=g.on hx;have po:=Z09 g.p;unfold bsP at o h3 h4;have hji:j≤i:=by
  by_cases q:j≤i
  ·exact q
  ·have:=Z21 (i:=i) (j:=j) (pw:=h.C.pw) oq oq;omega
 refine Zid hji oq fun m m1 m2=>?_;have hms:=Z21 (i:=j) (j:=m) (pw:=h.C.pw) oq oq;have hmi:(m:Int)*h.C.pw≤i*h.C.pw:=Int.mul_le_mul_of_nonneg_right oq oq;rcases o.2.1 with k | k
 ·have pp:=Z15 g.p o.1;omega
 ·by_cases q:(h.P.getD m default).K=3
  ·exact q
  ·have:=ZbD g.p m1 oq (Or.inr k) q;omega
theorem Gd.badd{i k:Nat}(hi:i<h.P.length)(hk:(k:Int)<h.C.pw):badD h i (Z24 h i) k=false:=by
 have po:=Z09 g.p;unfold badD;have ew:Z3T h i k=(loadA h.W (bsP h i+k)).1:=by
  unfold Z3T address;rw[if_pos po.1,if_pos (inB_iff.2 ⟨by omega,by omega,by omega,by omega⟩)];unfold bsP;simp only;rw[Int.add_assoc]
 rw[ew];by_cases h0:(loadA h.W (bsP h i+k)).1=0
 ·rw[h0];simp
 ·obtain⟨j,x,hx,h1,h2⟩:=g.d _ h0;have hr:=Z0Q h.W x;have hkp:kpA h.W x≤hlA h.W x+1:=by unfold kpA;split<;>omega
  have hh:=g.head hx h1 oq hi oq oq;have hb:(Z24 h i).getD k default=true:=by
   unfold Z24 Z1z;rw[hh,g.page (g.on hx).1];have hkk:k<h.C.pw.toNat:=by omega
   simp only[List.getD_eq_getElem?_getD,List.getElem?_map,List.getElem?_range hkk,Option.map_some,Option.getD_some,List.any_eq_true];refine⟨x,hx, ?_⟩;unfold Z9c;have ek:Z47 h x=kpA h.W x:=by
    unfold Z47 kpA;rw[g.at' hx];rw[Z6S];rfl
   rw[ek,Bool.and_eq_true,decide_eq_true_eq,decide_eq_true_eq];unfold bsP at h1 h2;omega
  rw[hb];simp
theorem Gd.dirt{i:Nat}(hi:i<h.P.length):Z2C h i (Z24 h i)=0:=by
 have hl:=Z6i h i;unfold Z2C;have:(List.range (Z24 h i).length).find? (badD h i (Z24 h i))=none:=by
  rw[List.find?_eq_none];intro k hk;have hk:=List.mem_range.1 hk;rw[g.badd hi oq];simp
 rw[this]
theorem Gd.cls{i:Nat}{x:Int}(hx:x∈T i):Z1o h i x=false:=by
 have o:=g.on hx;unfold Z1o;rw[g.at' hx,Z6S,Int.toNat_natCast];rcases o.2.1 with k | k
 ·have:=(g.t1 i o.1 k).2 x hx;rw[k];simp;omega
 ·have t:=g.t2 i o.1 k;have hx2:=(o.2.2.2.2.2.2 k).1;have:(hdA h.W x).K≠0:=by rw[hx2];exact t.2.2.2
  rw[k];simp;exact this
theorem Gd.pageF{i:Nat}(hi:i<h.P.length):(pageF h i).fault=0:=by
 have hs:=g.sp i hi;have hc:Z12 h i (T i)=0:=by
  unfold Z12;have:(T i).find? (Z1o h i)=none:=by
   rw[List.find?_eq_none];intro x hx;rw[g.cls hx];simp
  rw[this];rfl
 unfold Go.Proofs.YtdhchmlalchgeaaGreat.pageF;rw[if_neg (by rintro⟨q1,q2⟩;exact q2 (hs q1)),g.page hi,if_neg pq,if_neg (by rw[hc];simp),if_neg (by rw[g.dirt hi];simp)]
end
def SpOk(l:List Page):Prop:=∀ p∈l,p.S=0∨p.S=1
theorem SpOk.at{l:List Page}(h:SpOk l){i:Nat}(hi:i<l.length):(l.getD i default).S=0∨(l.getD i default).S=1:=by
 rw[List.getD_eq_getElem?_getD,List.getElem?_eq_getElem hi];exact h _ (List.getElem_mem hi)
theorem SpOk.begin{h:Heap}(hp:Z02 h=true):SpOk (beginW h).heap.P:=fun p hq=>by
 have po:=Z09 hp;simp only[beginW,List.mem_map]at hq;obtain⟨q,hq,rfl⟩:=hq;obtain⟨i,hi,rfl⟩:=List.getElem_of_mem hq;have pp:=Z15 hp hi;rw[List.getD_eq_getElem?_getD,List.getElem?_eq_getElem hi,Option.getD_some]at pp;unfold begQ;split
 ·simp only;omega
 ·omega
structure CkOk (w:Work):Prop where
 ok:WkOk w
 so:SpOk w.heap.P
 L:(w.heap.W.length:Int)=w.heap.C.pw*w.heap.C.pg
structure FwOk (w:Work) (r:Int):Prop where
 ck:CkOk w
 rg:0≤r∧r≤18446744073709551615
 ol:r∈w.old→4096≤r∧r+hlA w.heap.W r<4096+w.heap.W.length∧(ofA w.heap.C r).2.2=0∧(ofA w.heap.C r).1.toNat<w.heap.P.length
 dc:r∈w.old→(Z0a (loadA w.heap.W r).1).2=false→(decodeH (loadA w.heap.W r).1).2=true
 sz:r∈w.old→(w.heap.P.getD (ofA w.heap.C r).1.toNat default).K=2∨hlA w.heap.W r+1≤w.heap.C.pw
def Work.ckc(w:Work)(a b c d e:Nat):List AV:=[int w.heap.C.pw,int w.heap.C.pg,.ow a,.ow b,int w.heap.S,int w.heap.B,.ow c,.ow d,.ow e,int w.D,int w.rep.copied,int w.rep.kept,int w.rep.filled,int w.rep.freed,int w.rep.cleared,int w.rep.steps]
def Work.ckB(w:Work)(a b c d e:Nat):Blk:=.box 140 (w.ckc a b c d e)
def Z0t(l:List Int):Blk:=.arr 35 1 (l.map wdv)
def Z3d(l:List Int):Blk:=.arr 3 1 (l.map idv)
def Z1S(l:List Page):Blk:=.arr 84 4 (l.map Page.dv)
def Work.ckp(w:Work):List Blk:=[w.ckB 1 2 3 4 5,Z0t w.heap.W,Z1S w.heap.P,Z0t w.old,Z3d w.T,Z0t w.Q]
def Work.ckq(w:Work):List Blk:=[w.ckB 1 6 3 7 8,Z0t w.heap.W,.dead,Z0t w.old,.dead,.dead,Z1S w.heap.P,Z3d w.T,Z0t w.Q]
def Work.ckr(w:Work):List Blk:=[w.ckB 1 2 3 4 6,Z0t w.heap.W,Z1S w.heap.P,Z0t w.old,Z3d w.T,.dead,Z0t w.Q]
def Work.cks(w:Work):List Blk:=[w.ckB 1 6 3 7 5,Z0t w.heap.W,.dead,Z0t w.old,.dead,Z0t w.Q,Z1S w.heap.P,Z3d w.T]
structure LnOk (w:Work):Prop where
 wl:w.heap.W.length≤1048576
 pl:w.heap.P.length≤1048576
 ol:w.old.length≤1048576
 tl:w.T.length≤1048576
 ql:w.Q.length≤1048576
theorem CkOk.ln{w:Work}(k:CkOk w):LnOk w:=by
 have h1:=k.ok.mu;have h2:=k.ok.ol;have h3:=k.ok.wl;have h4:=k.ok.pl;have h5:=validB_iff.1 k.ok.C;have h6:=k.ok.tl;exact⟨by omega,by omega,by omega,by omega,by omega⟩
theorem ZpZ{c:Conf}{a:Int}(hv:Z05 c=true)(h:4096≤a∧a-4096<c.pw*c.pg):(ofA c a).2.2=0∧(ofA c a).1*c.pw+(ofA c a).2.1=a-4096∧0≤(ofA c a).1*c.pw∧(ofA c a).1*c.pw≤a-4096∧0≤(ofA c a).2.1:=by
 have cf:=validB_iff.1 hv;have e:(ofA c a).2.2=0:=by
  unfold ofA;rw[if_pos hv,if_pos oq]
 have o:=Z2M hv e;have:=Int.mul_nonneg o.1 (show 0≤c.pw by omega);omega
structure MemOk (w:Work):Prop where
 C:Z05 w.heap.C=true
 wl:w.heap.W.length≤4096
 pl:(w.heap.P.length:Int)=w.heap.C.pg
 L:(w.heap.W.length:Int)=w.heap.C.pw*w.heap.C.pg
theorem CkOk.mem{w:Work}(k:CkOk w):MemOk w:=⟨k.ok.C,k.ok.wl,k.ok.pl,k.L⟩
def ckX(pw pg sp bm sc r1 r2 r3 r4 r5 r6:Int)(a b c d e:Nat):Blk:=.box 140 [int pw,int pg,.ow a,.ow b,int sp,int bm,.ow c,.ow d,.ow e,int sc,int r1,int r2,int r3,int r4,int r5,int r6]
theorem Z8q(pw pg sp bm sc r1 r2 r3 r4 r5 r6:Int)(ws ol q tk:List Int)(ps:List Page)(hs:sp=0∨sp=1):BP 140 [.pt 0 0 0] [ckX pw pg sp bm sc r1 r2 r3 r4 r5 r6 1 2 3 4 5,Z0t ws,Z1S ps,Z0t ol,Z3d tk,Z0t q] (int (1-sp)) [ckX pw pg sp bm sc r1 r2 r3 r4 r5 r6 1 2 3 4 5,Z0t ws,Z1S ps,Z0t ol,Z3d tk,Z0t q]:=by
 exact borF [0,1,2,3,4,5] [] Tryz.func140 [] (Fi 8 (1-sp) Fz)
theorem Z2y(w:Work)(i:Int)(hw:CkOk w):BP 89 [.pt 0 0 0,int i] w.ckp (bool (Z0B w i)) w.ckp:=by
 have k:=hw.ok;have mu:=k.mu;have pl:=k.pl;have cf:=validB_iff.1 k.C;have tl:=k.tl;have sp:=k.sp;have so:=fun h=>hw.so.at (i:=i.toNat) h;rcases bb (decide (i<0)||decide ((↑w.heap.P.length:Int)≤i))with hc0 | hc0<;>have hc0p:=hc0<;>simp only[bs]at hc0p
 ·exact borF [0,1,2,3,4,5] [] Tryz.func89 (fO 8) (FlG 15 (!decide (i<0)) Page.dv w.heap.P (Ft 17 hc0 (Fa (by(simp[Z0B, *];omega):false=Z0B w i) Fz)))
 ·obtain⟨hc0pa,hc0pb⟩:=hc0p;have Q0 {h_ c_ p_} (r_:Fq h_ c_ p_):=FlG 15 (!decide (i<0)) Page.dv w.heap.P (Ff 17 hc0 (Fmq 25 Page.dv w.heap.P i r_));rcases bb ((w.heap.P.getD i.toNat default).K==1)with hc1 | hc1<;>have hc1p:=hc1<;>simp only[bs]at hc1p
  ·exact borF [0,1,2,3,4,5] [] Tryz.func89 (fO 19) (Fh 28 [.br true] (Q0 (Fa hc1 (Fbq 33 [0,1,2,3,4,5] (@Z8q w.heap.C.pw w.heap.C.pg w.heap.S w.heap.B w.D w.rep.copied w.rep.kept w.rep.filled w.rep.freed w.rep.cleared w.rep.steps w.heap.W w.old w.Q w.T w.heap.P aa) (FcG 42 (true&&(w.heap.P.getD i.toNat default).S==1-w.heap.S) (fun hg=>by(try simp only[bs]at hg);exact @Z6a w.T i oq) (Fa (by grind[Z0B]:((w.heap.P.getD i.toNat default).S==1-w.heap.S&&!decide (i∈w.T))=Z0B w i) Fz))))))
  ·exact borF [0,1,2,3,4,5] [] Tryz.func89 (fO 19) (Fh 28 [.br false] (Fh 33 [.bor [0,1,2,3,4,5] (int (1-w.heap.S)) []] (Q0 (Fa hc1 (FcG 42 (false&&(w.heap.P.getD i.toNat default).S==1-w.heap.S) (fun hg=>by(try simp only[bs]at hg);exact @Z6a w.T i oq) (Fa (by(simp only[Z0B] ;exact sj):false=Z0B w i) Fz))))))
theorem Z2g(w:Work)(a n:Int)(hw:MemOk w)(h:4096≤a∧1≤n∧a-4096+n≤w.heap.W.length):BP 136 [.pt 0 0 0,u64 a,int n] w.ckp (.tu [.os 1 (a-4096).toNat n.toNat,bool true]) w.ckp:=by
 have wl:=hw.wl;have pl:=hw.pl;have cf:=validB_iff.1 hw.C;have L:=hw.L;have hv:=hw.C;have o:=ZpZ (c:=w.heap.C) (a:=a) hv oq;have eo:(ofA w.heap.C a).2.2=0:=o.1;have q:=o.2.1;have r1:=o.2.2;have ei0:IntKind.i64.wrap ((ofA w.heap.C a).1*w.heap.C.pw)=(ofA w.heap.C a).1*w.heap.C.pw:=wrapI' oq oq;have ei1:IntKind.i64.wrap ((ofA w.heap.C a).1*w.heap.C.pw+(ofA w.heap.C a).2.1)=a-4096:=by rw[q];exact wrapI' oq oq
 exact borF [0,1,2,3,4,5] [] Tryz.func136 (fO 10) (Fc 19 (@Z29 w.heap.C a oq oq) (Fi 30 ((ofA w.heap.C a).fst*w.heap.C.pw) (Fi 32 ((ofA w.heap.C a).fst*w.heap.C.pw+(ofA w.heap.C a).snd.fst) (FlG 42 (!(ofA w.heap.C a).snd.snd != 0) wdv w.heap.W (FiG 44 (!(ofA w.heap.C a).snd.snd != 0) ((↑w.heap.W.length:Int)-((ofA w.heap.C a).fst*w.heap.C.pw+(ofA w.heap.C a).snd.fst)) (Ffb 46 ((ofA w.heap.C a).snd.snd != 0||decide ((↑w.heap.W.length:Int)-((ofA w.heap.C a).fst*w.heap.C.pw+(ofA w.heap.C a).snd.fst)<n)) (Fi 55 ((ofA w.heap.C a).fst*w.heap.C.pw+(ofA w.heap.C a).snd.fst+n) (Fa (by(simp only[List.length_map];omega):0≤(ofA w.heap.C a).fst*w.heap.C.pw+(ofA w.heap.C a).snd.fst∧(ofA w.heap.C a).fst*w.heap.C.pw+(ofA w.heap.C a).snd.fst≤(ofA w.heap.C a).fst*w.heap.C.pw+(ofA w.heap.C a).snd.fst+n∧(ofA w.heap.C a).fst*w.heap.C.pw+(ofA w.heap.C a).snd.fst+n≤(↑(List.map wdv w.heap.W).length:Int)) (Fa (by(simp[eo, *];omega):AV.os 1 ((ofA w.heap.C a).fst*w.heap.C.pw+(ofA w.heap.C a).snd.fst).toNat (((ofA w.heap.C a).fst*w.heap.C.pw+(ofA w.heap.C a).snd.fst+n).toNat-((ofA w.heap.C a).fst*w.heap.C.pw+(ofA w.heap.C a).snd.fst).toNat)=AV.os 1 (a-4096).toNat n.toNat) (Ftt Fz))))))))))
theorem Zmy(pw pg sp bm sc r1 r2 r3 r4 r5 r6 r:Int)(ws ol q tk:List Int)(ps:List Page)(hq:q.length≤1000000)(hr:0≤r2∧r2≤1000000):BP 139 [.pt 0 0 0,u64 r] [ckX pw pg sp bm sc r1 r2 r3 r4 r5 r6 1 2 3 4 5,Z0t ws,Z1S ps,Z0t ol,Z3d tk,Z0t q] (.tu [u64 r,int 0]) [ckX pw pg sp bm sc r1 (r2+1) r3 r4 r5 r6 1 2 3 4 6,Z0t ws,Z1S ps,Z0t ol,Z3d tk,.dead,Z0t (q++[r])]:=by
 have ei0:IntKind.i64.wrap (r2+1)=r2+1:=wrapI' oq oq;exact borF [0,1,2,3,4,8005] [24013] Tryz.func139 [] (Fh 13 [.els (List.map wdv (q++[r]))] (Fs 12 (List.map wdv [r]) (Fa (by(simp[*];omega):(List.map wdv q).length+(List.map wdv [r]).length≤2^30) (Fa (ms:List.map wdv q++List.map wdv [r]=List.map wdv (q++[r])) (Fi 21 (r2+1) Fz)))))
theorem Zi4(w:Work)(n:Int)(hw:CkOk w)(hn:1≤n∧n≤256)(h:Z3f w n):BP 142 [.pt 0 0 0,int n] w.ckp (.tu [int (Z0w w),int (w.heap.P.getD (Z0w w).toNat default).U,int 0]) w.ckp:=by
 have k:=hw.ok;have mu:=k.mu;have pl:=k.pl;have cf:=validB_iff.1 k.C;have tl:=k.tl;have hm:=k.tk _ (Z1C h.1);have hu:=k.us (Z0w w).toNat oq
 have h':=h;unfold Z3f at h';have ei0:IntKind.i64.wrap ((w.T.length:Int)-1)=(w.T.length:Int)-1:=wrapI' oq oq;have ei1:IntKind.i64.wrap (w.heap.C.pw-(w.heap.P.getD (w.T.getD ((w.T.length:Int)-1).toNat default).toNat default).U)=w.heap.C.pw-(w.heap.P.getD (w.T.getD ((w.T.length:Int)-1).toNat default).toNat default).U:=by
  unfold Z0w at hu;exact wrapI' oq oq
 unfold Z0w at *;let y0:=(↑w.T.length:Int)-1;let y2:=w.heap.P.getD (w.T.getD y0.toNat default).toNat default;let y3:=0<(↑w.T.length:Int);let y1:=decide y3&&decide (0≤w.T.getD y0.toNat default);exact borF [0,1,2,3,4,5] [] Tryz.func142 [] (Fl 17 idv w.T (FiG 26 (decide y3) y0 (FmGq 28 (decide y3) idv w.T y0 (FiG 37 y1 y0 (FmGq 39 y1 idv w.T y0 (FlG 45 y1 Page.dv w.heap.P (Ftb 47 (decide y3&&decide (0≤w.T.getD y0.toNat default)&&decide (w.T.getD y0.toNat default<(↑w.heap.P.length:Int))) (Fi 53 y0 (Fmq 55 idv w.T y0 (Fmq 64 Page.dv w.heap.P (w.T.getD y0.toNat default) (Fi 73 (w.heap.C.pw-y2.U) (Ftb 74 (decide (n≤w.heap.C.pw-y2.U)) Fz))))))))))))
theorem Zgg(w:Work)(n:Int)(hw:CkOk w)(hn:1≤n∧n≤256)(h:¬ Z3f w n)(hf:¬ 0≤Z0i w):BP 142 [.pt 0 0 0,int n] w.ckp (.tu [int 0,int 0,int 3]) w.ckp:=by
 have k:=hw.ok;have mu:=k.mu;have pl:=k.pl;have cf:=validB_iff.1 k.C;have tl:=k.tl;have hu:=fun q=>k.us (Z0w w).toNat q;unfold Z3f at h;unfold Z0w at h hu;unfold Z0i at hf;have ei0:0<w.T.length→IntKind.i64.wrap ((w.T.length:Int)-1)=(w.T.length:Int)-1:=fun _=>wrapI' oq oq;have Q0 {h_ c_ p_} (r_:Fq h_ c_ p_):=Fl 17 idv w.T (FiG 26 (decide (0<(↑w.T.length:Int))) ((↑w.T.length:Int)-1) (FmGq 28 (decide (0<(↑w.T.length:Int))) idv w.T ((↑w.T.length:Int)-1) (FiG 37 (decide (0<(↑w.T.length:Int))&&decide (0≤w.T.getD ((↑w.T.length:Int)-1).toNat default)) ((↑w.T.length:Int)-1) (FmGq 39 (decide (0<(↑w.T.length:Int))&&decide (0≤w.T.getD ((↑w.T.length:Int)-1).toNat default)) idv w.T ((↑w.T.length:Int)-1) (FlG 45 (decide (0<(↑w.T.length:Int))&&decide (0≤w.T.getD ((↑w.T.length:Int)-1).toNat default)) Page.dv w.heap.P r_)))));rcases bb (decide (0<(↑w.T.length:Int))&&decide (0≤w.T.getD ((↑w.T.length:Int)-1).toNat default)&&decide (w.T.getD ((↑w.T.length:Int)-1).toNat default<(↑w.heap.P.length:Int)))with hc0 | hc0<;>have hc0p:=hc0<;>simp only[bs]at hc0p
 ·obtain⟨⟨hc0paa,hc0pab⟩,hc0pb⟩:=hc0p;exact borF [0,1,2,3,4,5] [] Tryz.func142 [] (Q0 (Ft 47 hc0 (Fi 53 ((↑w.T.length:Int)-1) (Fmq 55 idv w.T ((↑w.T.length:Int)-1) (Fmq 64 Page.dv w.heap.P (w.T.getD ((↑w.T.length:Int)-1).toNat default) (Fi 73 (w.heap.C.pw-(w.heap.P.getD (w.T.getD ((↑w.T.length:Int)-1).toNat default).toNat default).U) (Ffb 74 (decide (n≤w.heap.C.pw-(w.heap.P.getD (w.T.getD ((↑w.T.length:Int)-1).toNat default).toNat default).U)) (Fc 82 (@Z6j w.heap.P (1) oq) (Ftb 84 (decide (first w.heap.P (1:Int)<0)) Fz)))))))))
 ·exact borF [0,1,2,3,4,5] [] Tryz.func142 [] (Q0 (Ff 47 hc0 (Fc 82 (@Z6j w.heap.P (1) oq) (Ftb 84 (decide (first w.heap.P (1:Int)<0)) Fz))))
def Work.took(w:Work):Work:=⟨⟨w.heap.C,w.heap.W,Z2e w,w.heap.S,w.heap.B⟩,w.old,w.T++[Z0i w],w.Q,w.D,w.rep⟩
theorem Zjq(w:Work)(n:Int)(hw:CkOk w)(hn:1≤n∧n≤256)(h:¬ Z3f w n)(hf:0≤Z0i w):BP 142 [.pt 0 0 0,int n] w.ckp (.tu [int (Z0i w),int 0,int 0]) w.took.cks:=by
 have k:=hw.ok;have mu:=k.mu;have pl:=k.pl;have cf:=validB_iff.1 k.C;have tl:=k.tl;have sp:=k.sp;have hu:=fun q=>k.us (Z0w w).toNat q;unfold Z3f at h;unfold Z0w at h hu;obtain⟨f1,f2,f3,f4⟩:=Z2E (h:=⟨w.heap.C,w.heap.W,w.heap.P,1-w.heap.S,w.heap.B⟩) (by simp only;omega) hf;have f1':Z2e w=tookP w.heap.P (Z0i w).toNat 1 ⟨1,1-w.heap.S,0,0⟩ ⟨0,0,0,0⟩:=f1;have ff:=Z1u hf;have ei0:0<w.T.length→IntKind.i64.wrap ((w.T.length:Int)-1)=(w.T.length:Int)-1:=fun _=>wrapI' oq oq;unfold Work.took;rw[f1'];unfold Z0i at *;have Q0 {h_ c_ p_} (r_:Fq h_ c_ p_):=Fl 17 idv w.T (FiG 26 (decide (0<(↑w.T.length:Int))) ((↑w.T.length:Int)-1) (FmGq 28 (decide (0<(↑w.T.length:Int))) idv w.T ((↑w.T.length:Int)-1) (FiG 37 (decide (0<(↑w.T.length:Int))&&decide (0≤w.T.getD ((↑w.T.length:Int)-1).toNat default)) ((↑w.T.length:Int)-1) (FmGq 39 (decide (0<(↑w.T.length:Int))&&decide (0≤w.T.getD ((↑w.T.length:Int)-1).toNat default)) idv w.T ((↑w.T.length:Int)-1) (FlG 45 (decide (0<(↑w.T.length:Int))&&decide (0≤w.T.getD ((↑w.T.length:Int)-1).toNat default)) Page.dv w.heap.P r_)))));rcases bb (decide (0<(↑w.T.length:Int))&&decide (0≤w.T.getD ((↑w.T.length:Int)-1).toNat default)&&decide (w.T.getD ((↑w.T.length:Int)-1).toNat default<(↑w.heap.P.length:Int)))with hc0 | hc0<;>have hc0p:=hc0<;>simp only[bs]at hc0p
 ·obtain⟨⟨hc0paa,hc0pab⟩,hc0pb⟩:=hc0p;exact borF [0,1,8002,3,8004,5] [81094,96109] Tryz.func142 [] (Fh 109 [.els (List.map idv (w.T++[first w.heap.P 1]))] (Q0 (Ft 47 hc0 (Fi 53 ((↑w.T.length:Int)-1) (Fmq 55 idv w.T ((↑w.T.length:Int)-1) (Fmq 64 Page.dv w.heap.P (w.T.getD ((↑w.T.length:Int)-1).toNat default) (Fi 73 (w.heap.C.pw-(w.heap.P.getD (w.T.getD ((↑w.T.length:Int)-1).toNat default).toNat default).U) (Ffb 74 (decide (n≤w.heap.C.pw-(w.heap.P.getD (w.T.getD ((↑w.T.length:Int)-1).toNat default).toNat default).U)) (Fc 82 (@Z6j w.heap.P (1) oq) (Ffb 84 (decide (first w.heap.P (1:Int)<0)) (Fbq 93 [0,1,8002,3,8004,5] (@Z8q w.heap.C.pw w.heap.C.pg w.heap.S w.heap.B w.D w.rep.copied w.rep.kept w.rep.filled w.rep.freed w.rep.cleared w.rep.steps w.heap.W w.old w.Q w.T w.heap.P aa) (Fc 94 (@ZaC w.heap.P (first w.heap.P 1) (1-w.heap.S) oq oq oq (by grind[])) (Fs 108 (List.map idv [first w.heap.P 1]) (Fa (by(simp[*];omega):(List.map idv w.T).length+(List.map idv [first w.heap.P 1]).length≤2^30) (Fa (ms:List.map idv w.T++List.map idv [first w.heap.P 1]=List.map idv (w.T++[first w.heap.P 1])) Fz)))))))))))))))
 ·exact borF [0,1,8002,3,8004,5] [57094,72109] Tryz.func142 [] (Fh 109 [.els (List.map idv (w.T++[first w.heap.P 1]))] (Q0 (Ff 47 hc0 (Fc 82 (@Z6j w.heap.P (1) oq) (Ffb 84 (decide (first w.heap.P (1:Int)<0)) (Fbq 93 [0,1,8002,3,8004,5] (@Z8q w.heap.C.pw w.heap.C.pg w.heap.S w.heap.B w.D w.rep.copied w.rep.kept w.rep.filled w.rep.freed w.rep.cleared w.rep.steps w.heap.W w.old w.Q w.T w.heap.P aa) (Fc 94 (@ZaC w.heap.P (first w.heap.P 1) (1-w.heap.S) oq oq oq (by grind[])) (Fs 108 (List.map idv [first w.heap.P 1]) (Fa (by(simp[*];omega):(List.map idv w.T).length+(List.map idv [first w.heap.P 1]).length≤2^30) (Fa (ms:List.map idv w.T++List.map idv [first w.heap.P 1]=List.map idv (w.T++[first w.heap.P 1])) Fz))))))))))
end Go.Proofs.YtdhchmlalchgeaaGreat
