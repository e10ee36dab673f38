/-
 The statement WalkJoins: part 12.
 Conditions: none.
-/
import Derived.Test.YtjflpmnenhdeeaaGreatD11
set_option maxRecDepth 100000
set_option maxHeartbeats 2000000
set_option linter.all false
namespace Go.Proofs.YtjflpmnenhdeeaaGreat
open Go.Sx
def Zja(a:List Int)(i:Nat):Tg:=⟨tm 26 [(0,Z02 a),(1,Z02 a),(4,bool false),(5,int i)],[],60⟩
theorem ZgL(a:List Int)(i:Nat)(ha:a.length≤1048576)(hi:i<a.length):CSpec Tryz.prog (rndF Tryz.f17 0) (Zja a i).st .nrm (Zja a (i+1)).st:=by
 exact sF [] [] (Fl 13 wdv a (Ftb 14 (decide ((↑i:Int)<(↑a.length:Int))) (Fek 19 wdv a (↑i) i (Fek 23 wdv a (↑i) i (Ff 25 (by simp only[bs, *,true_or,or_true,true_and,and_true,not_true_eq_false,not_false_eq_true,Bool.true_eq_false,Bool.false_eq_true]:(a.getD i default != a.getD i default)=false) (Fx 16 i Fz))))))
theorem ZkU(a:List Int):CSpec Tryz.prog (rndF Tryz.f17 0) (Zja a a.length).st (.ext 0) (Tg.st ⟨tm 26 [],[],60⟩):=by
 exact sF [] [] (Fl 13 wdv a (Ffb 14 (decide ((↑a.length:Int)<(↑a.length:Int))) Fz))
theorem ZiU(a:List Int)(ha:a.length≤1048576):CSpec Tryz.prog (blkF Tryz.f17 0) (Tg.st ⟨tm 26 [(0,Z02 a),(1,Z02 a),(4,bool false),(5,int 0)],[],60⟩) .nrm (Tg.st ⟨tm 26 [],[],60⟩) :=
 Z0c (S:=fun i=>(Zja a i).st) a.length (by kernel_rfl) (fun i hi=>ZgL a i ha hi) (ZkU a)
theorem Zgk(a:List Int)(ha:a.length≤1048576):GSpec Tryz.prog 17 [Z02 a,Z02 a] true (bool true) []:=by
 exact gF [] Tryz.func17 [] (Fl 7 wdv a (Fl 9 wdv a (Ff 10 (by simp only[bs, *,true_or,or_true,true_and,and_true,not_true_eq_false,not_false_eq_true,Bool.true_eq_false,Bool.false_eq_true]:((↑a.length:Int) != (↑a.length:Int))=false) (Fu (@ZiU a ‹_›) Fz))))
theorem Zf8(h:Heap)(a:Int)(hd:Header)(hw:WOk h.words)(h0:0≤a∧a≤18446744073709551615)(hm:0≤hd.map∧hd.map≤4294967295):GSpec Tryz.prog 39 [h.av,u64 a,hd.av] false (.tu [(Z0y h a hd).1.av,int (Z0y h a hd).2]) []:=by
 by_cases hp:Z03 h=true∧(Z06 hd).2=0
 ·have ok:=Z8V hp.2
  have hz:sizeH hd=hd.length+1:=by rw[sizeH,if_pos ok.1]
  have po:=Z09 hp.1
  have hp1:=hp.1
  have hp2:=hp.2
  have es:(List.replicate (sizeH hd).toNat 0).set 0 (Z06 hd).1=objW hd:=by
   rw[hz,objW,show(hd.length+1).toNat=hd.length.toNat+1 from by omega,List.replicate_succ,List.set_cons_zero]
  have el:((List.replicate (sizeH hd).toNat 0).set 0 (Z06 hd).1).length=hd.length.toNat+1:=by rw[es];simp[objW]
  have hne:h.pages≠[]:=Zbi (by omega)
  by_cases e:(Z0b h.words a ((List.replicate (sizeH hd).toNat 0).set 0 (Z06 hd).1)).2=0
  ·have e7:Z0y h a hd=({ h with words:=(Z0b h.words a ((List.replicate (sizeH hd).toNat 0).set 0 (Z06 hd).1)).1 },0):=by
    rw[es]at e ⊢
    rw[Z0y,if_pos ⟨hp.1,ok.1⟩,if_pos e]
   rw[e7]
   exact gF [] Tryz.func39 [] (Fh 27 [.els (List.map wdv (List.replicate (sizeH hd).toNat 0))] (Fh 10030 [.els (List.map wdv ((List.replicate (sizeH hd).toNat 0).set 0 (Z06 hd).fst))] (Fc 14 (@Z3s hd ‹_›) (FcG 21 (!(Z06 hd).snd != 0) (fun hg=>by(try simp only[bs]at hg);exact @Z0N h) (Ff 23 (by simp only[bs, *,true_or,or_true,true_and,and_true,not_true_eq_false,not_false_eq_true,Bool.true_eq_false,Bool.false_eq_true]:((Z06 hd).snd != 0||!Z03 h)=false) (Fc 26 (@Z0Z hd ‹_›) (Fb (0≤sizeH hd∧sizeH hd≤sizeH hd∧sizeH hd*((↑(nat_lit 7):Int)+1)≤2^48) (Fa (by simp[List.map_take,List.map_drop,List.map_set,List.map_append,wdv,idv]:List.replicate (sizeH hd).toNat [du64 0]=List.map wdv (List.replicate (sizeH hd).toNat 0)) (Fa (by(simp[*];omega):(0:Int)≤0∧Int.toNat 0<(List.map wdv (List.replicate (sizeH hd).toNat 0)).length) (Fa (by(simp[*];omega):Int.toNat 0<(List.map wdv (List.replicate (sizeH hd).toNat 0)).length) (Fa (by simp[List.map_take,List.map_drop,List.map_set,List.map_append,wdv,idv]:(List.map wdv (List.replicate (sizeH hd).toNat 0)).set (Int.toNat 0) [du64 (Z06 hd).fst]=List.map wdv ((List.replicate (sizeH hd).toNat 0).set 0 (Z06 hd).fst)) (Fc 36 (@Z6x h.words ((List.replicate (sizeH hd).toNat 0).set 0 (Z06 hd).fst) a (by omega) (by omega) ‹_› (by omega)) (Fc 42 (@Z5n h ((Z0b h.words a ((List.replicate (sizeH hd).toNat 0).set 0 (Z06 hd).fst)).fst) ((Z0b h.words a ((List.replicate (sizeH hd).toNat 0).set 0 (Z06 hd).fst)).snd) (by omega) ‹_› ‹_›) Fz)))))))))))))
  ·have e7:Z0y h a hd=(noHeap,(Z0b h.words a ((List.replicate (sizeH hd).toNat 0).set 0 (Z06 hd).1)).2):=by
    rw[es]at e ⊢
    rw[Z0y,if_pos ⟨hp.1,ok.1⟩,if_neg e]
   rw[e7]
   exact gF [] Tryz.func39 [] (Fh 27 [.els (List.map wdv (List.replicate (sizeH hd).toNat 0))] (Fh 10030 [.els (List.map wdv ((List.replicate (sizeH hd).toNat 0).set 0 (Z06 hd).fst))] (Fc 14 (@Z3s hd ‹_›) (FcG 21 (!(Z06 hd).snd != 0) (fun hg=>by(try simp only[bs]at hg);exact @Z0N h) (Ff 23 (by simp only[bs, *,true_or,or_true,true_and,and_true,not_true_eq_false,not_false_eq_true,Bool.true_eq_false,Bool.false_eq_true]:((Z06 hd).snd != 0||!Z03 h)=false) (Fc 26 (@Z0Z hd ‹_›) (Fb (0≤sizeH hd∧sizeH hd≤sizeH hd∧sizeH hd*((↑(nat_lit 7):Int)+1)≤2^48) (Fa (by simp[noHeap,List.map_take,List.map_drop,List.map_set,List.map_append,wdv,idv]:List.replicate (sizeH hd).toNat [du64 0]=List.map wdv (List.replicate (sizeH hd).toNat 0)) (Fa (by(simp[noHeap, *];omega):(0:Int)≤0∧Int.toNat 0<(List.map wdv (List.replicate (sizeH hd).toNat 0)).length) (Fa (by(simp[noHeap, *];omega):Int.toNat 0<(List.map wdv (List.replicate (sizeH hd).toNat 0)).length) (Fa (by simp[noHeap,List.map_take,List.map_drop,List.map_set,List.map_append,wdv,idv]:(List.map wdv (List.replicate (sizeH hd).toNat 0)).set (Int.toNat 0) [du64 (Z06 hd).fst]=List.map wdv ((List.replicate (sizeH hd).toNat 0).set 0 (Z06 hd).fst)) (Fc 36 (@Z6x h.words ((List.replicate (sizeH hd).toNat 0).set 0 (Z06 hd).fst) a (by omega) (by omega) ‹_› (by omega)) (Fc 42 (@Z8z h ((Z0b h.words a ((List.replicate (sizeH hd).toNat 0).set 0 (Z06 hd).fst)).fst) ((Z0b h.words a ((List.replicate (sizeH hd).toNat 0).set 0 (Z06 hd).fst)).snd) ‹_›) Fz)))))))))))))
 ·have e7:Z0y h a hd=(noHeap,1):=ZaT (by
   by_cases q:Z03 h=true
   ·exact .inr fun q2=>hp ⟨q,q2⟩
   ·exact .inl (by simpa using q))
  rw[e7]
  have Q0 {h_ c_ p_} (r_:Fq h_ c_ p_):=Fc 14 (@Z3s hd ‹_›) (FcG 21 (!(Z06 hd).snd != 0) (fun hg=>by(try simp only[bs]at hg);exact @Z0N h) r_)
  rcases bb ((Z06 hd).snd != 0||!Z03 h)with hc0 | hc0<;>have hc0p:=hc0<;>simp only[bs]at hc0p
  ·exact gF [] Tryz.func39 [] (Q0 (Ft 23 hc0 (Fnl (Fnl Fz))))
  ·obtain⟨hc0pa,hc0pb⟩:=hc0p
   exact gF [] Tryz.func39 [false,false,false,true] (Fh 27 [.els (List.map wdv (List.replicate (sizeH hd).toNat 0))] (Fh 10030 [.els (List.map wdv ((List.replicate (sizeH hd).toNat 0).set 0 (Z06 hd).fst))] (Q0 (Ff 23 hc0 (Fc 26 (@Z0Z hd ‹_›) (Fa (by(simp only[noHeap];(repeat' split)<;>first | rfl | omega | (exfalso;omega) | simp_all):0≤sizeH hd∧sizeH hd≤sizeH hd∧sizeH hd*((↑(nat_lit 7):Int)+1)≤2^48) (Fa (by simp[noHeap,List.map_take,List.map_drop,List.map_set,List.map_append,wdv,idv]:List.replicate (sizeH hd).toNat [du64 0]=List.map wdv (List.replicate (sizeH hd).toNat 0)) (Fa (by grind[noHeap]:(0:Int)≤0∧Int.toNat 0<(List.map wdv (List.replicate (sizeH hd).toNat 0)).length) (Fa (by grind[noHeap]:Int.toNat 0<(List.map wdv (List.replicate (sizeH hd).toNat 0)).length) (Fa (by simp[noHeap,List.map_take,List.map_drop,List.map_set,List.map_append,wdv,idv]:(List.map wdv (List.replicate (sizeH hd).toNat 0)).set (Int.toNat 0) [du64 (Z06 hd).fst]=List.map wdv ((List.replicate (sizeH hd).toNat 0).set 0 (Z06 hd).fst)) (Fc 36 (@Z6x h.words ((List.replicate (sizeH hd).toNat 0).set 0 (Z06 hd).fst) a (by grind[noHeap]) (by grind[noHeap]) ‹_› (by grind[noHeap])) (Fc 42 (@Z5n h ((Z0b h.words a ((List.replicate (sizeH hd).toNat 0).set 0 (Z06 hd).fst)).fst) ((Z0b h.words a ((List.replicate (sizeH hd).toNat 0).set 0 (Z06 hd).fst)).snd) (by grind[noHeap]) (by grind[noHeap]) (by grind[noHeap])) (Fa (by(simp only[noHeap];(repeat' split)<;>first | rfl | omega | (exfalso;omega) | simp_all):(Heap.mk h.conf (Z0b h.words a ((List.replicate (sizeH hd).toNat 0).set 0 (Z06 hd).fst)).fst h.pages h.space h.bump).conf.pw=0) (Fa (by(simp only[noHeap];(repeat' split)<;>first | rfl | omega | (exfalso;omega) | simp_all):(Heap.mk h.conf (Z0b h.words a ((List.replicate (sizeH hd).toNat 0).set 0 (Z06 hd).fst)).fst h.pages h.space h.bump).conf.pg=0) (Fa (by refine congrArg _ ?_;(simp only[noHeap];(repeat' split)<;>first | rfl | omega | (exfalso;omega) | simp_all):List.map wdv (Heap.mk h.conf (Z0b h.words a ((List.replicate (sizeH hd).toNat 0).set 0 (Z06 hd).fst)).fst h.pages h.space h.bump).words=List.map wdv (noHeap,1).fst.words) (Fa (by refine congrArg _ ?_;(simp only[noHeap];(repeat' split)<;>first | rfl | omega | (exfalso;omega) | simp_all):List.map Page.dv (Heap.mk h.conf (Z0b h.words a ((List.replicate (sizeH hd).toNat 0).set 0 (Z06 hd).fst)).fst h.pages h.space h.bump).pages=List.map Page.dv (noHeap,1).fst.pages) (Fa (by(simp only[noHeap];(repeat' split)<;>first | rfl | omega | (exfalso;omega) | simp_all):(Heap.mk h.conf (Z0b h.words a ((List.replicate (sizeH hd).toNat 0).set 0 (Z06 hd).fst)).fst h.pages h.space h.bump).space=0) (Fa (by(simp only[noHeap];(repeat' split)<;>first | rfl | omega | (exfalso;omega) | simp_all):(Heap.mk h.conf (Z0b h.words a ((List.replicate (sizeH hd).toNat 0).set 0 (Z06 hd).fst)).fst h.pages h.space h.bump).bump=0) (Fa (by grind[noHeap]:(0:Int)=1) Fz)))))))))))))))))))
def Z2t(h:Heap)(a n:Int):Heap×Int:=if Z03 h=true∧1≤n∧n≤256 then Z0y h a ⟨0,n-1,0⟩else(noHeap,1)
theorem ZjB{h:Heap}{a n:Int}(e:¬ (1≤n∧n≤256)):Z2t h a n=(noHeap,1):=if_neg (fun q=>e q.2)
theorem ZkO{h:Heap}{a n:Int}(e:1≤n∧n≤256):Z2t h a n=Z0y h a ⟨0,n-1,0⟩:=by
 unfold Z2t
 by_cases hp:Z03 h=true
 ·rw[if_pos ⟨hp,e⟩]
 ·rw[if_neg (fun q=>hp q.1),Z0y,if_neg (fun q=>hp q.1)]
theorem ZjL(h:Heap)(a n:Int)(hw:WOk h.words)(h0:0≤a∧a≤18446744073709551615)(hn:-9223372036854775808≤n∧n≤9223372036854775807):GSpec Tryz.prog 23 [h.av,u64 a,int n] false (.tu [(Z2t h a n).1.av,int (Z2t h a n).2]) []:=by
 by_cases e:1≤n∧n≤256
 ·have e7:=ZkO (h:=h) (a:=a) e
  rw[e7]
  exact gF [] Tryz.func23 [] (Ffb 13 (decide (n<1)||decide (256<n)) (Fi 18 (n-1) (Fc 20 (@Zf8 h a (Header.mk 0 (n-1) 0) ‹_› ‹_› (by(simp only[bs];omega))) Fz)))
 ·have e7:=ZjB (h:=h) (a:=a) e
  rw[e7]
  exact gF [] Tryz.func23 [] (Ftb 13 (decide (n<1)||decide (256<n)) (Fnl (Fnl Fz)))
theorem ZjH{l:List Found}{i:Nat}(h:i<l.length):l.getD i default∈l:=by
 rw[List.getD_eq_getElem?_getD,List.getElem?_eq_getElem h];exact List.getElem_mem h
theorem ZcH{h:Heap}(e:(allW h).2=0):Z03 h=true:=by
 unfold allW at e
 split at e
 ·assumption
 ·simp at e
structure Cen where
 o:Int
 w:Int
 f:Int
 g:Int
def ZaF(c:Cen)(x:Found):Cen:=if x.hd.kind=0 then⟨c.o,c.w,c.f+1,c.g+sizeH x.hd⟩else⟨c.o+1,c.w+sizeH x.hd,c.f,c.g⟩
def cenN(l:List Found):Nat→Cen
 | 0=>⟨0,0,0,0⟩
 | i+1=>ZaF (cenN l i) (l.getD i default)
theorem ZjZ(l:List Found):∀ i:Nat,0≤(cenN l i).o∧(cenN l i).o≤256*i∧0≤(cenN l i).w∧(cenN l i).w≤256*i∧0≤(cenN l i).f∧(cenN l i).f≤256*i∧0≤(cenN l i).g∧(cenN l i).g≤256*i
 | 0=>by simp[cenN]
 | i+1=>by
  have h:=ZjZ l i
  have hs:=Z1E (l.getD i default).hd
  simp only[cenN,ZaF]
  split
  ·simp only;omega
  ·simp only;omega
def cntV(c:Cen)(free:Int):AV:=.ag [int c.o,int c.w,int c.f,int c.g,int free]
def cntL(l:List Found)(fr:Int)(i:Nat):Tg:=⟨tm 57 [(2,.pt 8002 0 0),(3,int 0),(6,.pt 32006 0 0),(28,.ow 17013),(29,int l.length),(30,int i)],[(32006,.box 96 [int (cenN l i).o,int (cenN l i).w,int (cenN l i).f,int (cenN l i).g,int fr]),(17013,.arr 132 4 (l.map Found.dv)),(8002,.box 96 [int 0,int 0,int 0,int 0,int 0])],60⟩
theorem Ziu(l:List Found)(fr:Int)(i:Nat)(hl:l.length≤16384)(hi:i<l.length)(hm:0≤(l.getD i default).hd.map∧(l.getD i default).hd.map≤4294967295):CSpec Tryz.prog (rndF Tryz.f54 0) (cntL l fr i).st .nrm (cntL l fr (i+1)).st:=by
 have cl:=ZjZ l i
 have hs:=Z1E (l.getD i default).hd
 by_cases hk:(l.getD i default).hd.kind=0
 ·have e7:cenN l (i+1)=⟨(cenN l i).o,(cenN l i).w,(cenN l i).f+1,(cenN l i).g+sizeH (l.getD i default).hd⟩:=by rw[cenN,ZaF,if_pos hk]
  rcases bb ((l.getD (↑i:Int).toNat default).hd.kind==0)with hc0 | hc0<;>have hc0p:=hc0<;>simp only[bs]at hc0p
  ·exact sF [] [false,false,false,false,false,false,true] (Ftb 31 (decide ((↑i:Int)<(↑l.length:Int))) (Fm 33 Found.dv l (↑i) ((↑i:Int).toNat) (Ft 39 hc0 (Fi 45 ((cenN l i).f+1) (Fc 52 (@Z0Z ((l.getD (↑i:Int).toNat default).hd) ‹_›) (Fx 55 i (Fr (96:Int) (Fa (by rw[e7]:(cenN l i).o=(cenN l (i+1)).o) (Fa (by rw[e7]:(cenN l i).w=(cenN l (i+1)).w) (Fa (by rw[e7]:(cenN l i).f+1=(cenN l (i+1)).f) (Fa (by rw[Int.toNat_natCast,e7,IntKind.wrap_i64];simp only;omega:IntKind.i64.wrap ((cenN l i).g+sizeH (l.getD (↑i:Int).toNat default).hd)=(cenN l (i+1)).g) (Fr fr Fz))))))))))))
  ·contradiction
 ·have e7:cenN l (i+1)=⟨(cenN l i).o+1,(cenN l i).w+sizeH (l.getD i default).hd,(cenN l i).f,(cenN l i).g⟩:=by rw[cenN,ZaF,if_neg hk]
  rcases bb ((l.getD (↑i:Int).toNat default).hd.kind==0)with hc0 | hc0<;>have hc0p:=hc0<;>simp only[bs]at hc0p
  ·contradiction
  ·exact sF [] [false,false,false,false,false,false,true] (Ftb 31 (decide ((↑i:Int)<(↑l.length:Int))) (Fm 33 Found.dv l (↑i) ((↑i:Int).toNat) (Ff 39 hc0 (Fi 45 ((cenN l i).o+1) (Fc 52 (@Z0Z ((l.getD (↑i:Int).toNat default).hd) ‹_›) (Fx 55 i (Fr (96:Int) (Fa (by rw[e7]:(cenN l i).o+1=(cenN l (i+1)).o) (Fa (by rw[Int.toNat_natCast,e7,IntKind.wrap_i64];simp only;omega:IntKind.i64.wrap ((cenN l i).w+sizeH (l.getD (↑i:Int).toNat default).hd)=(cenN l (i+1)).w) (Fa (by rw[e7]:(cenN l i).f=(cenN l (i+1)).f) (Fa (by rw[e7]:(cenN l i).g=(cenN l (i+1)).g) (Fr fr Fz))))))))))))
theorem Zmc(l:List Found)(fr:Int):CSpec Tryz.prog (rndF Tryz.f54 0) (cntL l fr l.length).st (.ext 0) (Tg.st ⟨tm 57 [(2,.pt 8002 0 0),(3,int 0),(6,.pt 32006 0 0)],[(32006,.box 96 [int (cenN l l.length).o,int (cenN l l.length).w,int (cenN l l.length).f,int (cenN l l.length).g,int fr]),(8002,.box 96 [int 0,int 0,int 0,int 0,int 0])],60⟩):=by
 exact sF [] [] (Ffb 31 (decide ((↑l.length:Int)<(↑l.length:Int))) Fz)
theorem Zlk(l:List Found)(fr:Int)(hl:l.length≤16384)(hm:∀ x∈l,0≤x.hd.map∧x.hd.map≤4294967295):CSpec Tryz.prog (blkF Tryz.f54 0) (Tg.st ⟨tm 57 [(2,.pt 8002 0 0),(3,int 0),(6,.pt 32006 0 0),(28,.ow 17013),(29,int l.length),(30,int 0)],[(32006,.box 96 [int 0,int 0,int 0,int 0,int fr]),(17013,.arr 132 4 (l.map Found.dv)),(8002,.box 96 [int 0,int 0,int 0,int 0,int 0])],60⟩) .nrm
  (Tg.st ⟨tm 57 [(2,.pt 8002 0 0),(3,int 0),(6,.pt 32006 0 0)],[(32006,.box 96 [int (cenN l l.length).o,int (cenN l l.length).w,int (cenN l l.length).f,int (cenN l l.length).g,int fr]),(8002,.box 96 [int 0,int 0,int 0,int 0,int 0])],60⟩) :=
 Z0c (S:=fun j=>(cntL l fr j).st) l.length (by kernel_rfl) (fun j hj=>Ziu l fr j hl hj (hm _ (ZjH hj))) (Zmc l fr)
def cntR(h:Heap):Cen×Int:=if(allW h).2=0 then(cenN (allW h).1 (allW h).1.length,h.pages.length-Z1e h.pages)else(⟨0,0,0,0⟩,0)
theorem ZgD(h:Heap)(hw:WOk h.words):GSpec Tryz.prog 54 [h.av] true (.tu [cntV (cntR h).1 (cntR h).2,int (allW h).2]) []:=by
 by_cases e:(allW h).2=0
 ·have hp:=ZcH e
  have po:=Z09 hp
  have iu:=Z4l h.pages
  have al:=Zat h
  have hm:∀ x∈(allW h).1,0≤x.hd.map∧x.hd.map≤4294967295:=fun x hx=>by rw[(ZhA x hx).1];exact Z3A hw x.addr
  rw[cntR,if_pos e,e]
  unfold cntV
  exact gF [] Tryz.func54 [] (Fc 13 (@Z9M h ‹_› ‹_›) (Fl 22 Page.dv h.pages (Fc 25 (@ZgA h.pages (by omega)) (Fi 26 ((↑h.pages.length:Int)-(↑(Z1e h.pages):Int)) (Fl 29 Found.dv (allW h).fst (Fu (@Zlk ((allW h).fst) ((↑h.pages.length:Int)-(↑(Z1e h.pages):Int)) ‹_› ‹_›) Fz))))))
 ·rw[cntR,if_neg e]
  unfold cntV
  exact gF [] Tryz.func54 [] (Fc 13 (@Z6y h ‹_› ‹_›) (Ftb 17 ((allW h).snd != 0) Fz))
def Z1s(w:Work)(r:Int):Int:=if r∈w.queue then r else(Z0p (loadA w.heap.words r).1).1
theorem Z9g(w:Work)(r:Int)(hw:WOk w.heap.words)(hl:w.heap.words.length≤4096)(hq:w.queue.length≤1048576)(h0:0≤r∧r≤18446744073709551615):GSpec Tryz.prog 142 [w.av,u64 r] true (u64 (Z1s w r)) []:=by
 have h1:=Z0P hw r
 rcases bb (decide (r∈w.queue))with hc0 | hc0<;>have hc0p:=hc0<;>simp only[bs]at hc0p
 ·exact gF [] Tryz.func142 [true] (Fh 12 [.call true (Sx.bool (decide (r∈w.queue))) [],.br true] (Fa (@Z0X w.queue r ‹_›) (Fa hc0 (Fa (by simp[Z1s, *]:r=Z1s w r) Fz))))
 ·exact gF [] Tryz.func142 [true] (Fh 12 [.call true (Sx.bool (decide (r∈w.queue))) [],.br false] (Fa (@Z0X w.queue r ‹_›) (Fa hc0 (Fc 19 (@Z1K w.heap.words r (by omega) ‹_›) (Fc 24 (@Z2F ((loadA w.heap.words r).fst) (by omega) (by omega)) (Fa (by simp[Z1s, *]:(Z0p (loadA w.heap.words r).fst).fst=Z1s w r) Fz))))))
theorem ZfR(w:Work)(a:Int)(hw:WOk w.heap.words)(h1:w.heap.words.length≤4096)(h0:0≤a∧a≤18446744073709551615):GSpec Tryz.prog 163 [w.av,u64 a] true (hdW w a).av []:=by
 have h2:=Z0P hw a
 exact gF [] Tryz.func163 [] (Fc 14 (@Z1K w.heap.words a (by omega) ‹_›) (Fc 19 (@Z2E ((loadA w.heap.words a).fst) (by omega) (by omega)) Fz))
def Z5g(w:Work)(x:Int):Work:=if Z1h w (ofA w.heap.conf x).1=true∧x∉w.queue then⟨⟨w.heap.conf,(Z0b w.heap.words x (objW ⟨0,(hdW w x).length,0⟩)).1,w.heap.pages,w.heap.space,w.heap.bump⟩,w.old,w.taken,w.queue,w.scanned,⟨w.rep.copied,w.rep.kept,w.rep.filled+1,w.rep.freed,w.rep.cleared,w.rep.steps⟩⟩else w
def fillN(w:Work):Nat→Work
 | 0=>w
 | k+1=>Z5g (fillN w k) (w.old.getD k default)
def ZjE(w:Work)(i:Nat):Tg:=⟨tm 84 [(1,.pt 8001 0 0),(2,.pt 8002 0 0),(3,int i)],[(8002,.box 176 [int 0,int 0,.d (.sl 0 []),.d (.sl 0 []),int 0,int 0,.d (.sl 0 []),.d (.sl 0 []),.d (.sl 0 []),int 0,int 0,int 0,int 0,int 0,int 0,int 0]),(8001,.box 176 w.cells)],60⟩
structure FOk (w:Work):Prop where
 words:WOk w.heap.words
 wl:w.heap.words.length≤4096
 pl:w.heap.pages.length≤64
 ol:w.old.length≤524288
 o:∀ x∈w.old,0≤x∧x≤8192
 tl:w.taken.length≤1000000
 ql:w.queue.length≤1000000
theorem WkOk.fok{w:Work}(h:WkOk w):FOk w:=by
 have h1:=h.mu
 have h2:=h.tl
 have h3:=h.pl
 have h4:=validB_iff.1 h.conf
 exact⟨h.words,h.wl,by omega,h.ol,h.o,by omega,by omega⟩
theorem Z4W{n:Int}(h:0≤n∧n≤255):Z06 ⟨0,n,0⟩=(1+16*n,0):=by
 have hv:Z0i ⟨0,n,0⟩=true:=validH_iff.2 ⟨by simp,by simp,h.1,h.2,by simp⟩
 rw[Z06,if_pos hv]
 simp
section
variable (w:Work) (i:Nat) (hw:FOk w) (hi:i<w.old.length) (hr:0≤w.rep.filled∧w.rep.filled≤1000000)
include hw hi hr
theorem ZhI:CSpec Tryz.prog (rndF Tryz.f144 0) (ZjE w i).st .nrm (ZjE (Z5g w (w.old.getD i default)) (i+1)).st:=by
 have h1:=hw.words
 have h2:=hw.wl
 have h3:=hw.pl
 have h4:=hw.ol
 have h5:=hw.tl
 have h6:=hw.ql
 have hx:=hw.o _ (getD_mem_iff.2 ⟨i,hi,rfl⟩)
 have hm:=Z2c (loadA w.heap.words (w.old.getD i default)).1 (Z0P h1 _).1
 have hh:0≤(hdW w (w.old.getD i default)).length∧(hdW w (w.old.getD i default)).length≤255:=Z0d w.heap.words (w.old.getD i default)
 have he:=Z4W hh
 by_cases c1:Z1h w (ofA w.heap.conf (w.old.getD i default)).1=true
 ·by_cases c2:w.old.getD i default∈w.queue
  ·have e7:Z5g w (w.old.getD i default)=w:=by rw[Z5g,if_neg (by rintro⟨_,q⟩;exact q c2)]
   rw[e7]
   exact sF [] [] (Fl 13 wdv w.old (Ftb 14 (decide ((↑i:Int)<(↑w.old.length:Int))) (Fek 24 wdv w.old (↑i) i (Fc 26 (@Z4d w.heap.conf (w.old.getD i default) (by omega) (by omega)) (Fc 32 (@Z1T w ((ofA w.heap.conf (w.old.getD i default)).fst) (by omega) (by omega)) (FeG 40 (!!Z1h w (ofA w.heap.conf (w.old.getD i default)).fst) wdv w.old (↑i) i (FcG 42 (!!Z1h w (ofA w.heap.conf (w.old.getD i default)).fst) (fun hg=>by(try simp only[bs]at hg);exact @Z0X w.queue (w.old.getD i default) (by(try simp only[bs]at hg);omega)) (Ft 43 (by simp only[bs, *,true_or,or_true,true_and,and_true,not_true_eq_false,not_false_eq_true,Bool.true_eq_false,Bool.false_eq_true]:(!Z1h w (ofA w.heap.conf (w.old.getD i default)).fst||decide (w.old.getD i default∈w.queue))=true) (Fx 16 i Fz)))))))))
  ·have e7:Z5g w (w.old.getD i default)=⟨⟨w.heap.conf,(Z0b w.heap.words (w.old.getD i default) (objW ⟨0,(hdW w (w.old.getD i default)).length,0⟩)).1,w.heap.pages,w.heap.space,w.heap.bump⟩,w.old,w.taken,w.queue,w.scanned,⟨w.rep.copied,w.rep.kept,w.rep.filled+1,w.rep.freed,w.rep.cleared,w.rep.steps⟩⟩:=by rw[Z5g,if_pos ⟨c1,c2⟩]
   rw[e7]
   exact sF [] [] (Fh 71 [.els (List.map wdv ([(Z06 (Header.mk 0 (hdW w (w.old.getD i default)).length 0)).fst]++List.replicate (hdW w (w.old.getD i default)).length.toNat 0))] (Fl 13 wdv w.old (Ftb 14 (decide ((↑i:Int)<(↑w.old.length:Int))) (Fek 24 wdv w.old (↑i) i (Fc 26 (@Z4d w.heap.conf (w.old.getD i default) (by omega) (by omega)) (Fc 32 (@Z1T w ((ofA w.heap.conf (w.old.getD i default)).fst) (by omega) (by omega)) (FeG 40 (!!Z1h w (ofA w.heap.conf (w.old.getD i default)).fst) wdv w.old (↑i) i (FcG 42 (!!Z1h w (ofA w.heap.conf (w.old.getD i default)).fst) (fun hg=>by(try simp only[bs]at hg);exact @Z0X w.queue (w.old.getD i default) (by(try simp only[bs]at hg);omega)) (Ff 43 (by simp only[bs, *,true_or,or_true,true_and,and_true,not_true_eq_false,not_false_eq_true,Bool.true_eq_false,Bool.false_eq_true]:(!Z1h w (ofA w.heap.conf (w.old.getD i default)).fst||decide (w.old.getD i default∈w.queue))=false) (Fek 48 wdv w.old (↑i) i (Fc 50 (@ZfR w (w.old.getD i default) ‹_› ‹_› (by omega)) (Fc 55 (@Z39 (Header.mk 0 (hdW w (w.old.getD i default)).length 0) (by(simp only[bs];omega))) (Fek 65 wdv w.old (↑i) i (Fs 68 (List.map wdv [(Z06 (Header.mk 0 (hdW w (w.old.getD i default)).length 0)).fst]) (Fa (by grind[objW]:0≤(hdW w (w.old.getD i default)).length∧(↑(List.map wdv [(Z06 (Header.mk 0 (hdW w (w.old.getD i default)).length 0)).fst]).length:Int)+(hdW w (w.old.getD i default)).length≤2^30) (Fa (by simp[objW,List.map_take,List.map_drop,List.map_set,List.map_append,wdv,idv]:List.map wdv [(Z06 (Header.mk 0 (hdW w (w.old.getD i default)).length 0)).fst]++List.replicate (hdW w (w.old.getD i default)).length.toNat [du64 0]=List.map wdv ([(Z06 (Header.mk 0 (hdW w (w.old.getD i default)).length 0)).fst]++List.replicate (hdW w (w.old.getD i default)).length.toNat 0)) (Fc 72 (@Z4F w.heap.words ([(Z06 (Header.mk 0 (hdW w (w.old.getD i default)).length 0)).fst]++List.replicate (hdW w (w.old.getD i default)).length.toNat 0) (w.old.getD i default) (by omega) (by omega) (by grind[objW])) (Fi 80 (w.rep.filled+1) (Fx 16 i Fz)))))))))))))))))))
 ·have e7:Z5g w (w.old.getD i default)=w:=by rw[Z5g,if_neg (by rintro⟨q,_⟩;exact c1 q)]
  rw[e7]
  exact sF [] [] (Fl 13 wdv w.old (Ftb 14 (decide ((↑i:Int)<(↑w.old.length:Int))) (Fek 24 wdv w.old (↑i) i (Fc 26 (@Z4d w.heap.conf (w.old.getD i default) (by omega) (by omega)) (Fc 32 (@Z1T w ((ofA w.heap.conf (w.old.getD i default)).fst) (by omega) (by omega)) (FeG 40 (!!Z1h w (ofA w.heap.conf (w.old.getD i default)).fst) wdv w.old (↑i) i (FcG 42 (!!Z1h w (ofA w.heap.conf (w.old.getD i default)).fst) (fun hg=>by(try simp only[bs]at hg);exact @Z0X w.queue (w.old.getD i default) (by(try simp only[bs]at hg);omega)) (Ft 43 (by simp only[bs, *,true_or,or_true,true_and,and_true,not_true_eq_false,not_false_eq_true,Bool.true_eq_false,Bool.false_eq_true]:(!Z1h w (ofA w.heap.conf (w.old.getD i default)).fst||decide (w.old.getD i default∈w.queue))=true) (Fx 16 i Fz)))))))))
end
theorem Zl7(w:Work):CSpec Tryz.prog (rndF Tryz.f144 0) (ZjE w w.old.length).st (.ext 0) (Tg.st ⟨tm 84 [(1,.pt 8001 0 0),(2,.pt 8002 0 0)],[(8002,.box 176 [int 0,int 0,.d (.sl 0 []),.d (.sl 0 []),int 0,int 0,.d (.sl 0 []),.d (.sl 0 []),.d (.sl 0 []),int 0,int 0,int 0,int 0,int 0,int 0,int 0]),(8001,.box 176 w.cells)],60⟩):=by
 exact sF [] [] (Fl 13 wdv w.old (Ffb 14 (decide ((↑w.old.length:Int)<(↑w.old.length:Int))) Fz))
theorem ZiT(w:Work)(x:Int):∃ l n,Z5g w x=⟨⟨w.heap.conf,l,w.heap.pages,w.heap.space,w.heap.bump⟩,w.old,w.taken,w.queue,w.scanned,⟨w.rep.copied,w.rep.kept,n,w.rep.freed,w.rep.cleared,w.rep.steps⟩⟩∧l.length≤w.heap.words.length∧(WOk w.heap.words→WOk l)∧w.rep.filled≤n∧n≤w.rep.filled+1:=by
 unfold Z5g
 split
 ·refine⟨_,_,rfl,Z7n _ _ _,fun h=>Z4j h ?_ _,by omega,by omega⟩
  intro y hy
  have hh:0≤(hdW w x).length∧(hdW w x).length≤255:=Z0d w.heap.words x
  simp only[objW,List.mem_cons,List.mem_replicate,Z4W hh]at hy
  rcases hy with rfl | ⟨_,rfl⟩<;>omega
 ·exact⟨w.heap.words,w.rep.filled,rfl,Nat.le_refl _,fun h=>h,by omega,by omega⟩
theorem Z58(w:Work)(hw:FOk w):∀ k,FOk (fillN w k)∧(fillN w k).heap.conf=w.heap.conf∧(fillN w k).heap.pages=w.heap.pages∧(fillN w k).heap.space=w.heap.space∧(fillN w k).heap.bump=w.heap.bump∧(fillN w k).old=w.old∧(fillN w k).taken=w.taken∧(fillN w k).queue=w.queue∧(fillN w k).rep.freed=w.rep.freed∧(fillN w k).rep.cleared=w.rep.cleared∧w.rep.filled≤(fillN w k).rep.filled∧(fillN w k).rep.filled≤w.rep.filled+k
 | 0=>⟨hw,rfl,rfl,rfl,rfl,rfl,rfl,rfl,rfl,rfl,by simp[fillN],by simp[fillN]⟩
 | k+1=>by
  obtain⟨i0,i1,i2,i3,i4,i5,i6,i7,i8,i9,i10,i11⟩:=Z58 w hw k
  obtain⟨l,n,e,e1,e2,e3,e4⟩:=ZiT (fillN w k) (w.old.getD k default)
  have:fillN w (k+1)=_:=e
  rw[this]
  have hl:=i0.wl
  exact⟨⟨e2 i0.words,by simp only;omega,i0.pl,i0.ol,i0.o,i0.tl,i0.ql⟩,i1,i2,i3,i4,i5,i6,i7,i8,i9,by simp only;omega,by simp only;omega⟩
section
variable (w:Work) (hw:FOk w) (hr:w.rep.filled=0)
include hw hr
theorem Zjt:CSpec Tryz.prog (blkF Tryz.f144 0) (Tg.st ⟨tm 84 [(1,.pt 8001 0 0),(2,.pt 8002 0 0),(3,int 0)],[(8002,.box 176 [int 0,int 0,.d (.sl 0 []),.d (.sl 0 []),int 0,int 0,.d (.sl 0 []),.d (.sl 0 []),.d (.sl 0 []),int 0,int 0,int 0,int 0,int 0,int 0,int 0]),(8001,.box 176 w.cells)],60⟩) .nrm (Tg.st ⟨tm 84 [(1,.pt 8001 0 0),(2,.pt 8002 0 0)],[(8002,.box 176 [int 0,int 0,.d (.sl 0 []),.d (.sl 0 []),int 0,int 0,.d (.sl 0 []),.d (.sl 0 []),.d (.sl 0 []),int 0,int 0,int 0,int 0,int 0,int 0,int 0]),(8001,.box 176 (fillN w w.old.length).cells)],60⟩):=by
 have hol:=hw.ol
 refine Z0c (S:=fun k=>(ZjE (fillN w k) k).st) w.old.length (by kernel_rfl) (fun k hk=>?_) ?_
 ·have h:=Z58 w hw k
  have:=ZhI (fillN w k) k h.1 (by rw[h.2.2.2.2.2.1];exact hk) (by omega)
  rw[h.2.2.2.2.2.1]at this
  exact this
 ·have h:=Z58 w hw w.old.length
  have:=Zl7 (fillN w w.old.length)
  rw[h.2.2.2.2.2.1]at this
  exact this
theorem ZbN:GSpec Tryz.prog 144 [w.av] false (fillN w w.old.length).av []:=by
 exact gF [] Tryz.func144 [] (Fu (@Zjt w ‹_› ‹_›) Fz)
end
def Z32(s:Int)(p:Page):Prop:=p.kind≠0∧p.space=s
instance (s:Int) (p:Page):Decidable (Z32 s p):=by unfold Z32;infer_instance
def Z1i(s:Int)(p:Page):Page:=if Z32 s p then⟨0,0,0,0⟩else p
def Z25(pw s:Int)(l:List Page)(ws:List Int):Nat→List Int
 | 0=>ws
 | i+1=>if Z32 s (l.getD i default)then spl (Z25 pw s l ws i) (i*pw.toNat) (List.replicate pw.toNat 0)else Z25 pw s l ws i
def Z4e(n s:Int)(l:List Page):Nat→Int
 | 0=>n
 | i+1=>if Z32 s (l.getD i default)then Z4e n s l i+1 else Z4e n s l i
def ZeK(w:Work)(ps:List Page)(ws:List Int)(n:Int)(i:Nat):Tg:=⟨tm 78 [(1,.pt 8001 0 0),(2,.pt 8002 0 0),(3,int i)],[(8001,.box 176 [int w.heap.conf.pw,int w.heap.conf.pg,.ow 24017,.ow 16010,int w.heap.space,int w.heap.bump,Z02 w.old,Z0T w.taken,Z02 w.queue,int w.scanned,int w.rep.copied,int w.rep.kept,int w.rep.filled,int n,int w.rep.cleared,int w.rep.steps]),(24017,.arr 39 1 (ws.map wdv)),(16010,.arr 56 4 (ps.map Page.dv)),(8002,.box 176 [int 0,int 0,.d (.sl 0 []),.d (.sl 0 []),int 0,int 0,.d (.sl 0 []),.d (.sl 0 []),.d (.sl 0 []),int 0,int 0,int 0,int 0,int 0,int 0,int 0])],60⟩
theorem Zjd(w:Work)(ps:List Page)(ws:List Int)(n:Int)(i:Nat)(hl:ps.length≤64)(hi:i<ps.length)(hb:¬ Z32 w.heap.space (ps.getD i default)):CSpec Tryz.prog (rndF Tryz.f143 0) (ZeK w ps ws n i).st .nrm (ZeK w ps ws n (i+1)).st:=by
 unfold Z32 at hb
 have hb':¬ ((ps.getD (i:Int).toNat default).kind≠0∧(ps.getD (i:Int).toNat default).space=w.heap.space):=hb
 exact sF [] [] (Fl 24 Page.dv ps (Ftb 25 (decide ((↑i:Int)<(↑ps.length:Int))) (Fm 33 Page.dv ps (↑i) ((↑i:Int).toNat) (Ftb 44 ((ps.getD (↑i:Int).toNat default).kind==0||(ps.getD (↑i:Int).toNat default).space != w.heap.space) (Fx 27 i Fz)))))
def Zhu(w:Work)(ps:List Page)(ws:List Int)(n:Int)(i k:Nat):Tg:=⟨tm 78 [(1,.pt 8001 0 0),(2,.pt 8002 0 0),(3,int i),(5,int k)],[(8001,.box 176 [int w.heap.conf.pw,int w.heap.conf.pg,.ow 24017,.ow 16010,int w.heap.space,int w.heap.bump,Z02 w.old,Z0T w.taken,Z02 w.queue,int w.scanned,int w.rep.copied,int w.rep.kept,int w.rep.filled,int n,int w.rep.cleared,int w.rep.steps]),(16010,.arr 56 4 (ps.map Page.dv)),(24017,.arr 39 1 ((wr ws (List.replicate w.heap.conf.pw.toNat 0) (i*w.heap.conf.pw.toNat) k).map wdv)),(8002,.box 176 [int 0,int 0,.d (.sl 0 []),.d (.sl 0 []),int 0,int 0,.d (.sl 0 []),.d (.sl 0 []),.d (.sl 0 []),int 0,int 0,int 0,int 0,int 0,int 0,int 0])],64⟩
section
variable (w:Work) (ps:List Page) (ws:List Int) (n:Int) (i k:Nat) (hp:0≤w.heap.conf.pw∧w.heap.conf.pw≤64) (hi:i≤64) (hl:i*w.heap.conf.pw.toNat+w.heap.conf.pw.toNat≤ws.length) (hw:ws.length≤4096)
include hp hi hl hw
theorem Zhz(hk:k<w.heap.conf.pw.toNat):CSpec Tryz.prog (rndF Tryz.f143 2) (Zhu w ps ws n i k).st .nrm (Zhu w ps ws n i (k+1)).st:=by
 have hs:=ZaO (ws:=ws) (l:=List.replicate w.heap.conf.pw.toNat 0) (i:=i*w.heap.conf.pw.toNat) (k:=k) (by simpa using hl) (by simpa using hk) (0:Int)
 rw[show(List.replicate w.heap.conf.pw.toNat (0:Int)).getD k 0=0 by simp[List.getD,hk]]at hs
 have hn:=Z4D (ws:=ws) (l:=List.replicate w.heap.conf.pw.toNat (0:Int)) (i:=i*w.heap.conf.pw.toNat) (k:=k) (by simpa using hl) (by simp;omega)
 have em:(i:Int)*w.heap.conf.pw=((i*w.heap.conf.pw.toNat:Nat):Int):=by rw[Int.natCast_mul,Int.toNat_of_nonneg hp.1]
 have ei:(i:Int)*w.heap.conf.pw+k=((i*w.heap.conf.pw.toNat+k:Nat):Int):=by omega
 exact sF [] [false,false,false,false,false,false,true] (Fh 10076 [.els (List.map wdv ((wr ws (List.replicate w.heap.conf.pw.toNat 0) (i*w.heap.conf.pw.toNat) k).set (↑(i*w.heap.conf.pw.toNat+k):Int).toNat 0))] (Ftb 62 (decide ((↑k:Int)<w.heap.conf.pw)) (Fi 73 ((↑i:Int)*w.heap.conf.pw) (Fg 75 (by rw[wrapI' (by omega) (by omega)];omega:IntKind.i64.wrap ((↑i:Int)*w.heap.conf.pw+(↑k:Int))=(↑(i*w.heap.conf.pw.toNat+k):Int)) (Fa (by(simp only[List.length_map];omega):0≤(↑(i*w.heap.conf.pw.toNat+k):Int)∧(↑(i*w.heap.conf.pw.toNat+k):Int).toNat<(List.map wdv (wr ws (List.replicate w.heap.conf.pw.toNat 0) (i*w.heap.conf.pw.toNat) k)).length) (Fa (by(simp only[List.length_map];omega):(↑(i*w.heap.conf.pw.toNat+k):Int).toNat<(List.map wdv (wr ws (List.replicate w.heap.conf.pw.toNat 0) (i*w.heap.conf.pw.toNat) k)).length) (Fa (by simp[List.map_take,List.map_drop,List.map_set,List.map_append,wdv,idv]:(List.map wdv (wr ws (List.replicate w.heap.conf.pw.toNat 0) (i*w.heap.conf.pw.toNat) k)).set (↑(i*w.heap.conf.pw.toNat+k):Int).toNat [du64 0]=List.map wdv ((wr ws (List.replicate w.heap.conf.pw.toNat 0) (i*w.heap.conf.pw.toNat) k).set (↑(i*w.heap.conf.pw.toNat+k):Int).toNat 0)) (Fx 64 k (Fr (39:Int) (Fa (by refine congrArg _ ?_;exact hs:List.map wdv ((wr ws (List.replicate w.heap.conf.pw.toNat 0) (i*w.heap.conf.pw.toNat) k).set (↑(i*w.heap.conf.pw.toNat+k):Int).toNat 0)=List.map wdv (wr ws (List.replicate w.heap.conf.pw.toNat 0) (i*w.heap.conf.pw.toNat) (k+1))) Fz))))))))))
theorem ZkA:CSpec Tryz.prog (rndF Tryz.f143 2) (Zhu w ps ws n i w.heap.conf.pw.toNat).st (.ext 2) (Tg.st ⟨tm 78 [(1,.pt 8001 0 0),(2,.pt 8002 0 0),(3,int i)],[(8001,.box 176 [int w.heap.conf.pw,int w.heap.conf.pg,.ow 24017,.ow 16010,int w.heap.space,int w.heap.bump,Z02 w.old,Z0T w.taken,Z02 w.queue,int w.scanned,int w.rep.copied,int w.rep.kept,int w.rep.filled,int n,int w.rep.cleared,int w.rep.steps]),(16010,.arr 56 4 (ps.map Page.dv)),(24017,.arr 39 1 ((spl ws (i*w.heap.conf.pw.toNat) (List.replicate w.heap.conf.pw.toNat 0)).map wdv)),(8002,.box 176 [int 0,int 0,.d (.sl 0 []),.d (.sl 0 []),int 0,int 0,.d (.sl 0 []),.d (.sl 0 []),.d (.sl 0 []),int 0,int 0,int 0,int 0,int 0,int 0,int 0])],64⟩):=by
 have hs:=Zbr ws (List.replicate w.heap.conf.pw.toNat (0:Int)) (i*w.heap.conf.pw.toNat)
 rw[List.length_replicate]at hs
 exact sF [] [false,false,false,false,false,true] (Ffb 62 (decide ((↑w.heap.conf.pw.toNat:Int)<w.heap.conf.pw)) (Fr (39:Int) (Fa (by refine congrArg _ ?_;assumption:List.map wdv (wr ws (List.replicate w.heap.conf.pw.toNat 0) (i*w.heap.conf.pw.toNat) w.heap.conf.pw.toNat)=List.map wdv (spl ws (i*w.heap.conf.pw.toNat) (List.replicate w.heap.conf.pw.toNat 0))) Fz)))
theorem Zjo:CSpec Tryz.prog (blkF Tryz.f143 2) (Tg.st ⟨tm 78 [(1,.pt 8001 0 0),(2,.pt 8002 0 0),(3,int i),(5,int 0)],[(8001,.box 176 [int w.heap.conf.pw,int w.heap.conf.pg,.ow 24017,.ow 16010,int w.heap.space,int w.heap.bump,Z02 w.old,Z0T w.taken,Z02 w.queue,int w.scanned,int w.rep.copied,int w.rep.kept,int w.rep.filled,int n,int w.rep.cleared,int w.rep.steps]),(16010,.arr 56 4 (ps.map Page.dv)),(24017,.arr 39 1 (ws.map wdv)),(8002,.box 176 [int 0,int 0,.d (.sl 0 []),.d (.sl 0 []),int 0,int 0,.d (.sl 0 []),.d (.sl 0 []),.d (.sl 0 []),int 0,int 0,int 0,int 0,int 0,int 0,int 0])],64⟩) .nrm (Tg.st ⟨tm 78 [(1,.pt 8001 0 0),(2,.pt 8002 0 0),(3,int i)],[(8001,.box 176 [int w.heap.conf.pw,int w.heap.conf.pg,.ow 24017,.ow 16010,int w.heap.space,int w.heap.bump,Z02 w.old,Z0T w.taken,Z02 w.queue,int w.scanned,int w.rep.copied,int w.rep.kept,int w.rep.filled,int n,int w.rep.cleared,int w.rep.steps]),(16010,.arr 56 4 (ps.map Page.dv)),(24017,.arr 39 1 ((spl ws (i*w.heap.conf.pw.toNat) (List.replicate w.heap.conf.pw.toNat 0)).map wdv)),(8002,.box 176 [int 0,int 0,.d (.sl 0 []),.d (.sl 0 []),int 0,int 0,.d (.sl 0 []),.d (.sl 0 []),.d (.sl 0 []),int 0,int 0,int 0,int 0,int 0,int 0,int 0])],64⟩):=by
 have:=Z0c (S:=fun k=>(Zhu w ps ws n i k).st) w.heap.conf.pw.toNat (by kernel_rfl) (fun k hk=>Zhz w ps ws n i k hp hi hl hw hk) (ZkA w ps ws n i hp hi hl hw)
 simp only[Zhu,Z8t]at this
 exact this
end
theorem Zju(w:Work)(ps:List Page)(ws:List Int)(n:Int)(i:Nat)(hl:ps.length≤64)(hi:i<ps.length)(hb:Z32 w.heap.space (ps.getD i default))(hp:0≤w.heap.conf.pw∧w.heap.conf.pw≤64)(hs:i*w.heap.conf.pw.toNat+w.heap.conf.pw.toNat≤ws.length)(hw:ws.length≤4096)(hn:0≤n∧n≤64):CSpec Tryz.prog (rndF Tryz.f143 0) (ZeK w ps ws n i).st .nrm (ZeK w (ps.set i ⟨0,0,0,0⟩) (spl ws (i*w.heap.conf.pw.toNat) (List.replicate w.heap.conf.pw.toNat 0)) (n+1) (i+1)).st:=by
 unfold Z32 at hb
 have hb':(ps.getD (i:Int).toNat default).kind≠0∧(ps.getD (i:Int).toNat default).space=w.heap.space:=hb
 exact sF [] [] (Fh 10050 [.els (List.map Page.dv (ps.set (↑i:Int).toNat (Page.mk 0 0 0 0)))] (Fl 24 Page.dv ps (Ftb 25 (decide ((↑i:Int)<(↑ps.length:Int))) (Fm 33 Page.dv ps (↑i) ((↑i:Int).toNat) (Ffb 44 ((ps.getD (↑i:Int).toNat default).kind==0||(ps.getD (↑i:Int).toNat default).space != w.heap.space) (Fa (by(simp only[List.length_map];omega):0≤(↑i:Int)∧(↑i:Int).toNat<(List.map Page.dv ps).length) (Fa (by(simp only[List.length_map];omega):(↑i:Int).toNat<(List.map Page.dv ps).length) (Fa (by rw[List.map_set];rfl:(List.map Page.dv ps).set (↑i:Int).toNat [dint 0,dint 0,dint 0,dint 0]=List.map Page.dv (ps.set (↑i:Int).toNat (Page.mk 0 0 0 0))) (Fi 54 (n+1) (Fu (@Zjo w (ps.set (↑i:Int).toNat (Page.mk 0 0 0 0)) ws (n+1) i ‹_› (by omega) ‹_› ‹_›) (Fx 27 i Fz)))))))))))
theorem Z4U{pw s:Int}{l:List Page}{ws:List Int}(h:l.length*pw.toNat≤ws.length):∀ i,i≤l.length→(Z25 pw s l ws i).length=ws.length
 | 0,_=>rfl
 | i+1,hi=>by
  have ih:=Z4U (s:=s) h i (by omega)
  have hm:(i+1)*pw.toNat≤l.length*pw.toNat:=Nat.mul_le_mul_right _ hi
  rw[Nat.add_mul,Nat.one_mul]at hm
  unfold Z25
  split
  ·rw[Z3e (by simp;omega),ih]
  ·exact ih
theorem Z5G(n s:Int)(l:List Page):∀ i:Nat,n≤Z4e n s l i∧Z4e n s l i≤n+i
 | 0=>by simp[Z4e]
 | i+1=>by
  have ih:=Z5G n s l i
  unfold Z4e
  split<;>omega
def Z0Y(w:Work):Work:=⟨⟨w.heap.conf,Z25 w.heap.conf.pw w.heap.space w.heap.pages w.heap.words w.heap.pages.length,w.heap.pages.map (Z1i w.heap.space),w.heap.space,w.heap.bump⟩,w.old,w.taken,w.queue,w.scanned,⟨w.rep.copied,w.rep.kept,w.rep.filled,Z4e w.rep.freed w.heap.space w.heap.pages w.heap.pages.length,w.rep.cleared,w.rep.steps⟩⟩
theorem Zl4(w:Work)(ps:List Page)(ws:List Int)(n:Int):CSpec Tryz.prog (rndF Tryz.f143 0) (ZeK w ps ws n ps.length).st (.ext 0) (Tg.st ⟨tm 78 [(1,.pt 8001 0 0),(2,.pt 8002 0 0)],[(8001,.box 176 [int w.heap.conf.pw,int w.heap.conf.pg,.ow 24017,.ow 16010,int w.heap.space,int w.heap.bump,Z02 w.old,Z0T w.taken,Z02 w.queue,int w.scanned,int w.rep.copied,int w.rep.kept,int w.rep.filled,int n,int w.rep.cleared,int w.rep.steps]),(24017,.arr 39 1 (ws.map wdv)),(16010,.arr 56 4 (ps.map Page.dv)),(8002,.box 176 [int 0,int 0,.d (.sl 0 []),.d (.sl 0 []),int 0,int 0,.d (.sl 0 []),.d (.sl 0 []),.d (.sl 0 []),int 0,int 0,int 0,int 0,int 0,int 0,int 0])],60⟩):=by
 exact sF [] [] (Fl 24 Page.dv ps (Ffb 25 (decide ((↑ps.length:Int)<(↑ps.length:Int))) Fz))
section
variable (w:Work) (hl:w.heap.pages.length≤64) (hp:0≤w.heap.conf.pw∧w.heap.conf.pw≤64) (hs:w.heap.pages.length*w.heap.conf.pw.toNat≤w.heap.words.length) (hw:w.heap.words.length≤4096) (hr:w.rep.freed=0)
include hl hp hs hw hr
theorem Zjs:CSpec Tryz.prog (blkF Tryz.f143 0) (Tg.st ⟨tm 78 [(1,.pt 8001 0 0),(2,.pt 8002 0 0),(3,int 0)],[(8001,.box 176 [int w.heap.conf.pw,int w.heap.conf.pg,.ow 24017,.ow 16010,int w.heap.space,int w.heap.bump,Z02 w.old,Z0T w.taken,Z02 w.queue,int w.scanned,int w.rep.copied,int w.rep.kept,int w.rep.filled,int w.rep.freed,int w.rep.cleared,int w.rep.steps]),(24017,.arr 39 1 (w.heap.words.map wdv)),(16010,.arr 56 4 (w.heap.pages.map Page.dv)),(8002,.box 176 [int 0,int 0,.d (.sl 0 []),.d (.sl 0 []),int 0,int 0,.d (.sl 0 []),.d (.sl 0 []),.d (.sl 0 []),int 0,int 0,int 0,int 0,int 0,int 0,int 0])],60⟩) .nrm (Tg.st ⟨tm 78 [(1,.pt 8001 0 0),(2,.pt 8002 0 0)],[(8001,.box 176 [int w.heap.conf.pw,int w.heap.conf.pg,.ow 24017,.ow 16010,int w.heap.space,int w.heap.bump,Z02 w.old,Z0T w.taken,Z02 w.queue,int w.scanned,int w.rep.copied,int w.rep.kept,int w.rep.filled,int (Z4e w.rep.freed w.heap.space w.heap.pages w.heap.pages.length),int w.rep.cleared,int w.rep.steps]),(24017,.arr 39 1 ((Z25 w.heap.conf.pw w.heap.space w.heap.pages w.heap.words w.heap.pages.length).map wdv)),(16010,.arr 56 4 ((w.heap.pages.map (Z1i w.heap.space)).map Page.dv)),(8002,.box 176 [int 0,int 0,.d (.sl 0 []),.d (.sl 0 []),int 0,int 0,.d (.sl 0 []),.d (.sl 0 []),.d (.sl 0 []),int 0,int 0,int 0,int 0,int 0,int 0,int 0])],60⟩):=by
 refine Z0c (S:=fun k=>(ZeK w (preM (Z1i w.heap.space) w.heap.pages k) (Z25 w.heap.conf.pw w.heap.space w.heap.pages w.heap.words k) (Z4e w.rep.freed w.heap.space w.heap.pages k) k).st) w.heap.pages.length (by kernel_rfl) (fun k hk=>?_) ?_
 ·have h1:=Z55 (Z1i w.heap.space) w.heap.pages k
  have h2:=Zap (Z1i w.heap.space) w.heap.pages (Nat.le_refl k) default
  have h3:=Z4U (s:=w.heap.space) hs k (by omega)
  have h4:=Z5G w.rep.freed w.heap.space w.heap.pages k
  by_cases hb:Z32 w.heap.space (w.heap.pages.getD k default)
  ·have e1:=Z80 (Z1i w.heap.space) w.heap.pages hk default
   have e2:Z25 w.heap.conf.pw w.heap.space w.heap.pages w.heap.words (k+1)=spl (Z25 w.heap.conf.pw w.heap.space w.heap.pages w.heap.words k) (k*w.heap.conf.pw.toNat) (List.replicate w.heap.conf.pw.toNat 0):=by rw[Z25,if_pos hb]
   have e3:Z4e w.rep.freed w.heap.space w.heap.pages (k+1)=Z4e w.rep.freed w.heap.space w.heap.pages k+1:=by rw[Z4e,if_pos hb]
   rw[Z1i,if_pos hb]at e1
   rw[← e1,e2,e3]
   have hm:(k+1)*w.heap.conf.pw.toNat≤w.heap.pages.length*w.heap.conf.pw.toNat:=Nat.mul_le_mul_right _ hk
   rw[Nat.add_mul,Nat.one_mul]at hm
   exact Zju w _ _ _ k (by omega) (by omega) (by rw[h2];exact hb) hp (by omega) (by omega) (by omega)
  ·have e1:=Zca (Z1i w.heap.space) w.heap.pages hk default (by rw[Z1i,if_neg hb])
   have e2:Z25 w.heap.conf.pw w.heap.space w.heap.pages w.heap.words (k+1)=Z25 w.heap.conf.pw w.heap.space w.heap.pages w.heap.words k:=by rw[Z25,if_neg hb]
   have e3:Z4e w.rep.freed w.heap.space w.heap.pages (k+1)=Z4e w.rep.freed w.heap.space w.heap.pages k:=by rw[Z4e,if_neg hb]
   rw[← e1,e2,e3]
   exact Zjd w _ _ _ k (by omega) (by omega) (by rw[h2];exact hb)
 ·have h:=Zl4 w (preM (Z1i w.heap.space) w.heap.pages w.heap.pages.length) (Z25 w.heap.conf.pw w.heap.space w.heap.pages w.heap.words w.heap.pages.length) (Z4e w.rep.freed w.heap.space w.heap.pages w.heap.pages.length)
  rw[Z55,Z9J]at h
  simp only[Z9J]
  exact h
theorem Zcl:GSpec Tryz.prog 143 [w.av] false (Z0Y w).av []:=by
 have h1:=Z4U (s:=w.heap.space) hs w.heap.pages.length (Nat.le_refl _)
 have h2:=Z5G w.rep.freed w.heap.space w.heap.pages w.heap.pages.length
 exact gF [] Tryz.func143 [] (Fs 6 (List.map Page.dv []) (Fa (by(simp[Z0Y, *];omega):(List.map Page.dv []).length+(List.map Page.dv w.heap.pages).length≤2^30) (Fs 10 (List.map Page.dv w.heap.pages) (Fs 13 (List.map wdv []) (Fa (by(simp[Z0Y, *];omega):(List.map wdv []).length+(List.map wdv w.heap.words).length≤2^30) (Fs 17 (List.map wdv w.heap.words) (Fu (@Zjs w ‹_› ‹_› ‹_› ‹_› ‹_›) Fz)))))))
end
def rep0:Rep:=⟨0,0,0,0,0,0⟩
theorem Z4o{h:Heap}{l:List Int}(e:Z0k h l=true):Z0O h=⟨0,0,0⟩:=by
 simp only[Z0k,Bool.and_eq_true,decide_eq_true_eq]at e
 exact e.1
section
variable (h:Heap) (s k:List Int) (hw:WOk h.words) (hs:s.length≤1048575) (hk:k.length≤1048575) (hs2:ULe s) (hk2:ULe k)
include hw hs hk hs2 hk2
theorem Zj4(hp:Z03 h=false):GSpec Tryz.prog 106 [h.av,Z02 s,Z02 k] false (.tu [noHeap.av,Z02 [],Z02 [],.ag rep0.cells,int 1]) []:=by
 exact gF [] Tryz.func106 [] (Fc 20 (@Z0l h) (Ftb 21 (!Z03 h) (Fnl (Fnl (Fnl (Fnl Fz))))))
theorem ZiX(hp:Z03 h=true)(hr:Z0k h s=false∨Z0k h k=false):GSpec Tryz.prog 106 [h.av,Z02 s,Z02 k] false (.tu [noHeap.av,Z02 [],Z02 [],.ag rep0.cells,int 19]) []:=by
 by_cases h1:Z0k h s=false
 ·exact gF [] Tryz.func106 [] (Fc 20 (@Z0l h) (Ffb 21 (!Z03 h) (Fc 26 (@Z1O h s ‹_› (by omega)) (FcG 31 (!!Z0k h s) (fun hg=>by(try simp only[bs]at hg);exact @Zck h k (by(try simp only[bs]at hg);assumption) (by(try simp only[bs]at hg);grind[noHeap,rep0])) (Ft 33 (by simp only[bs, *,true_or,or_true,true_and,and_true,not_true_eq_false,not_false_eq_true,Bool.true_eq_false,Bool.false_eq_true]:(!Z0k h s||true)=true) (Fnl (Fnl (Fnl (Fnl Fz)))))))))
 ·have h2:Z0k h k=false:=by
   rcases hr with hr | hr
   ·exact absurd hr h1
   ·exact hr
  exact gF [] Tryz.func106 [] (Fc 20 (@Z0l h) (Ffb 21 (!Z03 h) (Fc 26 (@Z1O h s ‹_› (by omega)) (FcG 31 (!!Z0k h s) (fun hg=>by(try simp only[bs]at hg);exact @Z1O h k (by(try simp only[bs]at hg);assumption) (by(try simp only[bs]at hg);omega)) (Ftb 33 (!Z0k h s||!Z0k h k) (Fnl (Fnl (Fnl (Fnl Fz)))))))))
theorem ZiO(hp:Z03 h=true)(hr:Z0k h s=true)(hr':Z0k h k=true)(e:¬ (rootsF (beginW h) s).2.2=0):GSpec Tryz.prog 106 [h.av,Z02 s,Z02 k] false (.tu [noHeap.av,Z02 [],Z02 [],.ag rep0.cells,int (rootsF (beginW h) s).2.2]) []:=by
 have hb:=Z36 hw hp
 have hg:=Z4o hr
 exact gF [] Tryz.func106 [] (Fc 20 (@Z0l h) (Ffb 21 (!Z03 h) (Fc 26 (@Z1O h s ‹_› (by omega)) (FcG 31 (!!Z0k h s) (fun hg=>by(try simp only[bs]at hg);exact @Z1O h k (by(try simp only[bs]at hg);assumption) (by(try simp only[bs]at hg);omega)) (Ff 33 (by simp only[bs, *,true_or,or_true,true_and,and_true,not_true_eq_false,not_false_eq_true,Bool.true_eq_false,Bool.false_eq_true]:(!Z0k h s||!Z0k h k)=false) (Fc 38 (@Z44 h ‹_› ‹_› ‹_›) (Fc 44 (@Z4R (beginW h) s ‹_› ‹_› ‹_›) (Ftb 49 ((rootsF (beginW h) s).snd.snd != 0) (Fnl (Fnl (Fnl (Fnl Fz))))))))))))
theorem Zil(hp:Z03 h=true)(hr:Z0k h s=true)(hr':Z0k h k=true)(e:(rootsF (beginW h) s).2.2=0)(e2:¬ (allF (rootsF (beginW h) s).1).2=0):GSpec Tryz.prog 106 [h.av,Z02 s,Z02 k] false (.tu [noHeap.av,Z02 [],Z02 [],.ag rep0.cells,int (allF (rootsF (beginW h) s).1).2]) []:=by
 have hb:=Z36 hw hp
 have hi:=Z2X hp
 have hg:=Z4o hr
 have ho:=Z2W (roots:=s) hb hi e
 have ho1:=ho.1
 exact gF [] Tryz.func106 [] (Fc 20 (@Z0l h) (Ffb 21 (!Z03 h) (Fc 26 (@Z1O h s ‹_› (by omega)) (FcG 31 (!!Z0k h s) (fun hg=>by(try simp only[bs]at hg);exact @Z1O h k (by(try simp only[bs]at hg);assumption) (by(try simp only[bs]at hg);omega)) (Ff 33 (by simp only[bs, *,true_or,or_true,true_and,and_true,not_true_eq_false,not_false_eq_true,Bool.true_eq_false,Bool.false_eq_true]:(!Z0k h s||!Z0k h k)=false) (Fc 38 (@Z44 h ‹_› ‹_› ‹_›) (Fc 44 (@Z4R (beginW h) s ‹_› ‹_› ‹_›) (Ffb 49 ((rootsF (beginW h) s).snd.snd != 0) (Fc 55 (@Z9H ((rootsF (beginW h) s).fst) ‹_›) (Ftb 59 ((allF (rootsF (beginW h) s).fst).snd != 0) (Fnl (Fnl (Fnl (Fnl Fz))))))))))))))
end
def Z6h(w:Work)(x:Int):Int:=if x=0 then 0 else Z1s w x
def Z8D(w:Work)(x:Int):Work:=⟨w.heap,w.old,w.taken,w.queue,w.scanned,⟨w.rep.copied,w.rep.kept,w.rep.filled,w.rep.freed,if x≠0∧Z1s w x=0 then w.rep.cleared+1 else w.rep.cleared,w.rep.steps⟩⟩
def weakS(w:Work)(k:List Int):Nat→Work
 | 0=>w
 | i+1=>Z8D (weakS w k i) (k.getD i default)
def Z2I(w:Work)(k:List Int):Nat→List Int
 | 0=>[]
 | i+1=>Z2I w k i++[Z6h (weakS w k i) (k.getD i default)]
theorem Z3R(w:Work)(k:List Int):∀ i,(weakS w k i).heap=w.heap∧(weakS w k i).old=w.old∧(weakS w k i).taken=w.taken∧(weakS w k i).queue=w.queue∧(weakS w k i).rep.filled=w.rep.filled∧(weakS w k i).rep.freed=w.rep.freed∧w.rep.cleared≤(weakS w k i).rep.cleared∧(weakS w k i).rep.cleared≤w.rep.cleared+i
 | 0=>⟨rfl,rfl,rfl,rfl,rfl,rfl,by simp[weakS],by simp[weakS]⟩
 | i+1=>by
  obtain⟨h1,h2,h3,h4,h5,h6,h7,h8⟩:=Z3R w k i
  refine⟨h1,h2,h3,h4,h5,h6, ?_, ?_⟩
  ·simp only[weakS,Z8D];split<;>omega
  ·simp only[weakS,Z8D];split<;>omega
theorem Z8q(w:Work)(k:List Int):∀ i,(Z2I w k i).length=i
 | 0=>rfl
 | i+1=>by simp[Z2I,Z8q w k i]
def Zit(w:Work)(k roots out:List Int)(i:Nat):Tg:=⟨tm 122 [(2,Z02 k),(6,.pt 8006 0 0),(7,.d (.sl 0 [])),(8,.d (.sl 0 [])),(9,.pt 8009 0 0),(10,int 0),(11,.pt 32011 0 0),(13,Z02 roots),(15,.ow 72015),(16,int i)],[(72015,.arr 39 1 (out.map wdv)),(32011,.box 176 w.cells),(8009,.box 149 [int 0,int 0,int 0,int 0,int 0,int 0]),(8006,.box 28 [int 0,int 0,.d (.sl 0 []),.d (.sl 0 []),int 0,int 0])],60⟩
section
variable (w:Work) (k roots out:List Int) (i:Nat) (hw:WOk w.heap.words) (hl:w.heap.words.length≤4096) (hq:w.queue.length≤1048576) (hk:k.length≤1048575) (hx:0≤k.getD i default∧k.getD i default≤18446744073709551615) (ho:out.length≤1048576) (hi:i<k.length) (hc:0≤w.rep.cleared∧w.rep.cleared≤2097152)
include hw hl hq hk hx ho hi hc
theorem ZhL:CSpec Tryz.prog (rndF Tryz.f106 0) (Zit w k roots out i).st .nrm (Zit (Z8D w (k.getD i default)) k roots (out++[Z6h w (k.getD i default)]) (i+1)).st:=by
 by_cases h0:k.getD i default=0
 ·have e1:Z6h w (k.getD i default)=0:=by rw[Z6h,if_pos h0]
  have e2:Z8D w (k.getD i default)=w:=by rw[Z8D,if_neg (by rintro⟨q,_⟩;exact q h0)]
  rw[e1,e2]
  exact sF [(504091,72015)] [] (Fh 91 [.els (List.map wdv (out++[0]))] (Fl 65 wdv k (Ftb 66 (decide ((↑i:Int)<(↑k.length:Int))) (Fek 71 wdv k (↑i) i (Ffb 73 (k.getD i default != 0) (Fs 90 (List.map wdv [0]) (Fa (by(simp[*];omega):(List.map wdv out).length+(List.map wdv [0]).length≤2^30) (Fa (by simp[List.map_take,List.map_drop,List.map_set,List.map_append,wdv,idv]:List.map wdv out++List.map wdv [0]=List.map wdv (out++[0])) (Fx 68 i Fz)))))))))
 ·have e1:Z6h w (k.getD i default)=Z1s w (k.getD i default):=by rw[Z6h,if_neg h0]
  rw[e1]
  by_cases h2:Z1s w (k.getD i default)=0
  ·have e2:Z8D w (k.getD i default)=⟨w.heap,w.old,w.taken,w.queue,w.scanned,⟨w.rep.copied,w.rep.kept,w.rep.filled,w.rep.freed,w.rep.cleared+1,w.rep.steps⟩⟩:=by rw[Z8D,if_pos ⟨h0,h2⟩]
   rw[e2]
   exact sF [(528091,72015)] [] (Fh 91 [.els (List.map wdv (out++[Z1s w (k.getD i default)]))] (Fl 65 wdv k (Ftb 66 (decide ((↑i:Int)<(↑k.length:Int))) (Fek 71 wdv k (↑i) i (Ftb 73 (k.getD i default != 0) (Fek 77 wdv k (↑i) i (Fc 79 (@Z9g w (k.getD i default) ‹_› ‹_› ‹_› ‹_›) (Ftb 81 (Z1s w (k.getD i default)==0) (Fi 85 (w.rep.cleared+1) (Fs 90 (List.map wdv [Z1s w (k.getD i default)]) (Fa (by(simp[*];omega):(List.map wdv out).length+(List.map wdv [Z1s w (k.getD i default)]).length≤2^30) (Fa (by simp[List.map_take,List.map_drop,List.map_set,List.map_append,wdv,idv]:List.map wdv out++List.map wdv [Z1s w (k.getD i default)]=List.map wdv (out++[Z1s w (k.getD i default)])) (Fx 68 i Fz)))))))))))))
  ·have e2:Z8D w (k.getD i default)=w:=by rw[Z8D,if_neg (by rintro⟨_,q⟩;exact h2 q)]
   rw[e2]
   exact sF [(520091,72015)] [] (Fh 91 [.els (List.map wdv (out++[Z1s w (k.getD i default)]))] (Fl 65 wdv k (Ftb 66 (decide ((↑i:Int)<(↑k.length:Int))) (Fek 71 wdv k (↑i) i (Ftb 73 (k.getD i default != 0) (Fek 77 wdv k (↑i) i (Fc 79 (@Z9g w (k.getD i default) ‹_› ‹_› ‹_› ‹_›) (Ffb 81 (Z1s w (k.getD i default)==0) (Fs 90 (List.map wdv [Z1s w (k.getD i default)]) (Fa (by(simp[*];omega):(List.map wdv out).length+(List.map wdv [Z1s w (k.getD i default)]).length≤2^30) (Fa (by simp[List.map_take,List.map_drop,List.map_set,List.map_append,wdv,idv]:List.map wdv out++List.map wdv [Z1s w (k.getD i default)]=List.map wdv (out++[Z1s w (k.getD i default)])) (Fx 68 i Fz))))))))))))
end
theorem Zl5(w:Work)(k roots out:List Int):CSpec Tryz.prog (rndF Tryz.f106 0) (Zit w k roots out k.length).st (.ext 0) (Tg.st ⟨tm 122 [(6,.pt 8006 0 0),(7,.d (.sl 0 [])),(8,.d (.sl 0 [])),(9,.pt 8009 0 0),(10,int 0),(11,.pt 32011 0 0),(13,Z02 roots),(15,.ow 72015)],[(72015,.arr 39 1 (out.map wdv)),(32011,.box 176 w.cells),(8009,.box 149 [int 0,int 0,int 0,int 0,int 0,int 0]),(8006,.box 28 [int 0,int 0,.d (.sl 0 []),.d (.sl 0 []),int 0,int 0])],60⟩):=by
 exact sF [] [] (Fl 65 wdv k (Ffb 66 (decide ((↑k.length:Int)<(↑k.length:Int))) Fz))
theorem Zee(w:Work)(k roots:List Int)(hw:WOk w.heap.words)(hl:w.heap.words.length≤4096)(hq:w.queue.length≤1048576)(hk:k.length≤1048575)(hx:ULe k)(hc:w.rep.cleared=0):CSpec Tryz.prog (blkF Tryz.f106 0) (Tg.st ⟨tm 122 [(2,Z02 k),(6,.pt 8006 0 0),(7,.d (.sl 0 [])),(8,.d (.sl 0 [])),(9,.pt 8009 0 0),(10,int 0),(11,.pt 32011 0 0),(13,Z02 roots),(15,.ow 72015),(16,int 0)],[(72015,.arr 39 1 []),(32011,.box 176 w.cells),(8009,.box 149 [int 0,int 0,int 0,int 0,int 0,int 0]),(8006,.box 28 [int 0,int 0,.d (.sl 0 []),.d (.sl 0 []),int 0,int 0])],60⟩) .nrm (Tg.st ⟨tm 122 [(6,.pt 8006 0 0),(7,.d (.sl 0 [])),(8,.d (.sl 0 [])),(9,.pt 8009 0 0),(10,int 0),(11,.pt 32011 0 0),(13,Z02 roots),(15,.ow 72015)],[(72015,.arr 39 1 ((Z2I w k k.length).map wdv)),(32011,.box 176 (weakS w k k.length).cells),(8009,.box 149 [int 0,int 0,int 0,int 0,int 0,int 0]),(8006,.box 28 [int 0,int 0,.d (.sl 0 []),.d (.sl 0 []),int 0,int 0])],60⟩):=by
 refine Z0c (S:=fun i=>(Zit (weakS w k i) k roots (Z2I w k i) i).st) k.length (by kernel_rfl) (fun i hi=>?_) (Zl5 _ k roots _)
 have h:=Z3R w k i
 exact ZhL _ k roots _ i (by rw[h.1];exact hw) (by rw[h.1];exact hl) (by rw[h.2.2.2.1];exact hq) hk (Z59 hx i) (by rw[Z8q];omega) hi (by omega)
abbrev cB(h:Heap)(s k:List Int):Work:=weakS (allF (rootsF (beginW h) s).fst).fst k k.length
abbrev cA(h:Heap)(s k:List Int):Work:=fillN (cB h s k) (cB h s k).old.length
theorem Zd7{n:Int}(h:0≤n∧n≤255):(decodeH (1+16*n)).1.length=n:=by
 have e:Z2f (1+16*n)=⟨0,n,0⟩:=by
  simp only[Z2f,Header.mk.injEq]
  omega
 have he:=Z4W h
 unfold decodeH
 rw[e,he]
 simp
theorem ZfJ{w:Work}(h:Inv w){x:Int}(hx:x∈w.old):Inv (Z5g w x):=by
 unfold Z5g
 split
 ·rename_i hc
  have hr:=h.r x (List.mem_append_left _ hx)
  have hh:=Z0d w.heap.words x
  have hl:(objW ⟨0,(hdW w x).length,0⟩).length=(hlA w.heap.words x+1).toNat:=by
   show(objW ⟨0,hlA w.heap.words x,0⟩).length=_
   simp[objW];omega
  have hin:4096≤x∧x-4096+(objW ⟨0,(hdW w x).length,0⟩).length≤w.heap.words.length:=by omega
  have hlen:(Z0b w.heap.words x (objW ⟨0,(hdW w x).length,0⟩)).1.length=w.heap.words.length:=by
   unfold Z0b
   rw[if_pos hin]
   exact Z3e (by omega)
  have:=h.withWords hlen (fun a ha=>?_)
  ·exact⟨this.L,this.r,this.s,this.f,this.z⟩
  ·by_cases he:a=x
   ·subst he
    have:hlA (Z0b w.heap.words a (objW ⟨0,(hdW w a).length,0⟩)).1 a=hlA w.heap.words a:=by
     have e1:=Z1B (b:=a) hin (by omega)
     unfold hlA at *
     rw[e1]
     have e2:(objW ⟨0,(hdW w a).length,0⟩).getD (a-a).toNat 0=1+16*(decodeH (loadA w.heap.words a).1).1.length:=by
      rw[Int.sub_self]
      show(Z06 ⟨0,(hdW w a).length,0⟩).1=_
      rw[Z4W (show 0≤(hdW w a).length∧(hdW w a).length≤255 from hh)]
      rfl
     rw[e2]
     exact Zd7 hh
    omega
   ·have s1:=h.s a ha x (List.mem_append_left _ hx)
    have s2:=h.s x (List.mem_append_left _ hx) a ha
    have ha0:=Z0d w.heap.words a
    have:hlA (Z0b w.heap.words x (objW ⟨0,(hdW w x).length,0⟩)).1 a=hlA w.heap.words a:=by
     have e1:=Z1F (b:=a) hin (by
      rcases Int.lt_or_lt_of_ne he with q | q
      ·exact Or.inl q
      ·have:=s2 q;exact Or.inr (by omega))
     unfold hlA
     rw[e1]
    omega
 ·exact h
theorem ZbT{w:Work}(hw:FOk w)(h:Inv w):∀ k,k≤w.old.length→Inv (fillN w k)
 | 0,_=>h
 | k+1,hk=>ZfJ (ZbT hw h k (by omega)) (by rw[(Z58 w hw k).2.2.2.2.2.1];exact getD_mem_iff.2 ⟨k,by omega,rfl⟩)
theorem Zb6{w:Work}(h:Inv w)(k:List Int):∀ i,Inv (weakS w k i)
 | 0=>h
 | i+1=>by
  have ih:=Zb6 h k i
  exact⟨ih.L,ih.r,ih.s,ih.f,ih.z⟩
theorem ZbO{w:Work}(h:FOk w)(k:List Int):∀ i,FOk (weakS w k i)
 | 0=>h
 | i+1=>by
  have ih:=ZbO h k i
  exact⟨ih.words,ih.wl,ih.pl,ih.ol,ih.o,ih.tl,ih.ql⟩
def cW2(h:Heap)(s:List Int):Work:=(allF (rootsF (beginW h) s).1).1
def cW3(h:Heap)(s k:List Int):Work:=weakS (cW2 h s) k k.length
def cW4(h:Heap)(s k:List Int):Work:=fillN (cW3 h s k) (cW3 h s k).old.length
def cW5(h:Heap)(s k:List Int):Work:=Z0Y (cW4 h s k)
def endH(w:Work):Heap:=⟨w.heap.conf,w.heap.words,w.heap.pages,1-w.heap.space,if 0<w.taken.length then Z0R w else -1⟩
structure COk (h:Heap) (s k:List Int):Prop where
 w2:WkOk (cW2 h s)
 i2:Inv (cW2 h s)
 x2:Ext (beginW h) (cW2 h s)
 f3:FOk (cW3 h s k)
 i3:Inv (cW3 h s k)
 r3:(cW3 h s k).rep.filled=0∧(cW3 h s k).rep.freed=0
 f4:FOk (cW4 h s k)
 i4:Inv (cW4 h s k)
 h4:(cW4 h s k).heap.conf=h.conf∧(cW4 h s k).heap.pages=(cW2 h s).heap.pages∧(cW4 h s k).heap.space=(cW2 h s).heap.space∧(cW4 h s k).taken=(cW2 h s).taken∧(cW4 h s k).rep.freed=0
section
variable (h:Heap) (s k:List Int) (hw:WOk h.words) (hp:Z03 h=true) (e:(rootsF (beginW h) s).2.2=0) (e2:(allF (rootsF (beginW h) s).1).2=0)
include hw hp e e2
theorem cOk:COk h s k:=by
 have hb:=Z36 hw hp
 have hi:=Z2X hp
 have ho:=Z2W (roots:=s) hb hi e
 have w2:WkOk (cW2 h s):=Zll _ ho.1 e2
 have i2:=Zaa ho.1 ho.2.1 e2
 have x2:Ext (beginW h) (cW2 h s):=ho.2.2.1.trans i2.2
 have f3:FOk (cW3 h s k):=ZbO w2.fok k _
 have i3:Inv (cW3 h s k):=Zb6 i2.1 k _
 obtain⟨a1,a2,a3,a4,a5,a6,a7,a8⟩:=Z3R (cW2 h s) k k.length
 have hr0:=w2.r0
 have r3:(cW3 h s k).rep.filled=0∧(cW3 h s k).rep.freed=0:=⟨a5.trans hr0.1,a6.trans hr0.2.1⟩
 obtain⟨b0,b1,b2,b3,b4,b5,b6,b7,b8,b9,b10,b11⟩:=Z58 (cW3 h s k) f3 (cW3 h s k).old.length
 refine⟨w2,i2.1,x2,f3,i3,r3,b0,ZbT f3 i3 _ (Nat.le_refl _), ?_, ?_, ?_, ?_, ?_⟩
 ·show(fillN (cW3 h s k) (cW3 h s k).old.length).heap.conf=_
  rw[b1]
  show(weakS (cW2 h s) k k.length).heap.conf=_
  rw[a1]
  exact x2.c
 ·show(fillN (cW3 h s k) (cW3 h s k).old.length).heap.pages=_
  rw[b2]
  show(weakS (cW2 h s) k k.length).heap.pages=_
  rw[a1]
 ·show(fillN (cW3 h s k) (cW3 h s k).old.length).heap.space=_
  rw[b3]
  show(weakS (cW2 h s) k k.length).heap.space=_
  rw[a1]
 ·show(fillN (cW3 h s k) (cW3 h s k).old.length).taken=_
  rw[b6]
  exact a3
 ·show(fillN (cW3 h s k) (cW3 h s k).old.length).rep.freed=_
  rw[b8]
  exact r3.2
theorem cOk5:(cW4 h s k).heap.pages.length≤64∧0≤(cW4 h s k).heap.conf.pw∧(cW4 h s k).heap.conf.pw≤64∧(cW4 h s k).heap.pages.length*(cW4 h s k).heap.conf.pw.toNat≤(cW4 h s k).heap.words.length∧(cW4 h s k).heap.words.length≤4096:=by
 have c:=cOk h s k hw hp e e2
 have po:=Z09 hp
 have hL:=c.i4.L
 have hpl:=c.w2.pl
 have hc2:=c.x2.c
 have hc:(cW2 h s).heap.conf=h.conf:=hc2
 rw[hc]at hpl
 rw[c.h4.1]at hL
 have hl4:=c.f4.wl
 rw[c.h4.1,c.h4.2.1]
 refine⟨by omega,by omega,by omega, ?_,hl4⟩
 have:(((cW2 h s).heap.pages.length*h.conf.pw.toNat:Nat):Int)=h.conf.pw*h.conf.pg:=by
  rw[Int.natCast_mul,Int.toNat_of_nonneg (by omega),hpl,Int.mul_comm]
 omega
end
def Z0h(h:Heap)(s k:List Int):Heap×List Int×List Int×Rep×Int :=
 if Z03 h=true then
  (if Z0k h s=true∧Z0k h k=true then
   (if(rootsF (beginW h) s).2.2=0 then
    (if(allF (rootsF (beginW h) s).1).2=0 then(endH (cW5 h s k),(rootsF (beginW h) s).2.1,Z2I (cW2 h s) k k.length,(cW5 h s k).rep,0)
    else(noHeap,[],[],rep0,(allF (rootsF (beginW h) s).1).2))
   else(noHeap,[],[],rep0,(rootsF (beginW h) s).2.2))
  else(noHeap,[],[],rep0,19))
 else(noHeap,[],[],rep0,1)
section
variable (h:Heap) (s k:List Int) (hw:WOk h.words) (hs:s.length≤1048575) (hk:k.length≤1048575) (hs2:ULe s) (hk2:ULe k)
include hw hs hk hs2 hk2
theorem Zjq(hp:Z03 h=true)(hr:Z0k h s=true)(hr':Z0k h k=true)(e:(rootsF (beginW h) s).2.2=0)(e2:(allF (rootsF (beginW h) s).1).2=0):GSpec Tryz.prog 106 [h.av,Z02 s,Z02 k] false (.tu [(endH (cW5 h s k)).av,Z02 (rootsF (beginW h) s).2.1,Z02 (Z2I (cW2 h s) k k.length),.ag (cW5 h s k).rep.cells,int 0]) []:=by
 have hb:=Z36 hw hp
 have hi:=Z2X hp
 have hg:=Z4o hr
 have ho:=Z2W (roots:=s) hb hi e
 have ho1:=ho.1
 have ho4:=ho.2.2.2.2
 have c:=cOk h s k hw hp e e2
 obtain⟨q1,q2,q3,q4,q5⟩:=cOk5 h s k hw hp e e2
 have w2:=c.w2
 have f3:=c.f3
 have r3:=c.r3.1
 obtain⟨g1,g2,g3,g4,g5⟩:=c.h4
 have v1:=w2.words
 have v2:=w2.wl
 have v3:=w2.mu
 have v4:=w2.tl
 have v5:=w2.sp
 have v6:=w2.r0.2.2
 have v7:=congrArg List.length g4
 have z1:(Z0Y (cW4 h s k)).taken=(cW4 h s k).taken:=rfl
 have v8:=congrArg List.length z1
 have z2:(Z0Y (cW4 h s k)).heap.space=(cW4 h s k).heap.space:=rfl
 clear c
 unfold cW4 at *
 unfold cW3 at *
 unfold cW2 at *
 have Q0 {h_ c_ p_} (r_:Fq h_ c_ p_):=Fc 20 (@Z0l h) (Ffb 21 (!Z03 h) (Fc 26 (@Z1O h s ‹_› (by omega)) (FcG 31 (!!Z0k h s) (fun hg=>by(try simp only[bs]at hg);exact @Z1O h k (by(try simp only[bs]at hg);assumption) (by(try simp only[bs]at hg);omega)) (Ff 33 (by simp only[bs, *,true_or,or_true,true_and,and_true,not_true_eq_false,not_false_eq_true,Bool.true_eq_false,Bool.false_eq_true]:(!Z0k h s||!Z0k h k)=false) (Fc 38 (@Z44 h ‹_› ‹_› ‹_›) (Fc 44 (@Z4R (beginW h) s ‹_› ‹_› ‹_›) (Ffb 49 ((rootsF (beginW h) s).snd.snd != 0) (Fc 55 (@Z9H ((rootsF (beginW h) s).fst) ‹_›) (Ffb 59 ((allF (rootsF (beginW h) s).fst).snd != 0) (Fu (@Zee ((allF (rootsF (beginW h) s).fst).fst) k ((rootsF (beginW h) s).snd.fst) ‹_› ‹_› (by omega) ‹_› ‹_› ‹_›) (Fc 93 (@ZbN (weakS (allF (rootsF (beginW h) s).fst).fst k k.length) ‹_› ‹_›) (Fc 94 (@Zcl (fillN (weakS (allF (rootsF (beginW h) s).fst).fst k k.length) (weakS (allF (rootsF (beginW h) s).fst).fst k k.length).old.length) ‹_› (by omega) ‹_› ‹_› ‹_›) (Fi 98 (1-(Z0Y (fillN (weakS (allF (rootsF (beginW h) s).fst).fst k k.length) (weakS (allF (rootsF (beginW h) s).fst).fst k k.length).old.length)).heap.space) (Fl 105 idv (Z0Y (fillN (weakS (allF (rootsF (beginW h) s).fst).fst k k.length) (weakS (allF (rootsF (beginW h) s).fst).fst k k.length).old.length)).taken r_))))))))))))))
 rcases bb (decide (0<(↑(Z0Y (fillN (weakS (allF (rootsF (beginW h) s).fst).fst k k.length) (weakS (allF (rootsF (beginW h) s).fst).fst k k.length).old.length)).taken.length:Int)))with hc0 | hc0<;>have hc0p:=hc0<;>simp only[bs]at hc0p
 ·exact gF [] Tryz.func106 [false,false,false,false,false,false,false,false,false,false,false,false,false,false,false,false,false,false,true] (Fh 15 [.own] (Q0 (Ft 107 hc0 (Fi 111 ((↑(Z0Y (fillN (weakS (allF (rootsF (beginW h) s).fst).fst k k.length) (weakS (allF (rootsF (beginW h) s).fst).fst k k.length).old.length)).taken.length:Int)-1) (Fek 112 idv ((Z0Y (fillN (weakS (allF (rootsF (beginW h) s).fst).fst k k.length) (weakS (allF (rootsF (beginW h) s).fst).fst k k.length).old.length)).taken) ((↑(Z0Y (fillN (weakS (allF (rootsF (beginW h) s).fst).fst k k.length) (weakS (allF (rootsF (beginW h) s).fst).fst k k.length).old.length)).taken.length:Int)-1) (((↑(Z0Y (fillN (weakS (allF (rootsF (beginW h) s).fst).fst k k.length) (weakS (allF (rootsF (beginW h) s).fst).fst k k.length).old.length)).taken.length:Int)-1).toNat) (Fr ((endH (cW5 h s k)).conf.pw) (Fr ((endH (cW5 h s k)).conf.pg) (Fr (List.map wdv (endH (cW5 h s k)).words) (Fr (List.map Page.dv (endH (cW5 h s k)).pages) (Fr ((endH (cW5 h s k)).space) (Fa (by(simp only[endH,cW5,cW4,cW3,cW2,Z0R];(repeat' split)<;>first | rfl | omega | (exfalso;omega) | simp_all):(Z0Y (fillN (weakS (allF (rootsF (beginW h) s).fst).fst k k.length) (weakS (allF (rootsF (beginW h) s).fst).fst k k.length).old.length)).taken.getD ((↑(Z0Y (fillN (weakS (allF (rootsF (beginW h) s).fst).fst k k.length) (weakS (allF (rootsF (beginW h) s).fst).fst k k.length).old.length)).taken.length:Int)-1).toNat default=(endH (cW5 h s k)).bump) (Fr (List.map wdv (rootsF (beginW h) s).snd.fst) (Fr (List.map wdv (Z2I (allF (rootsF (beginW h) s).fst).fst k k.length)) (Fr ((cW5 h s k).rep.copied) (Fr ((cW5 h s k).rep.kept) (Fr ((cW5 h s k).rep.filled) (Fr ((cW5 h s k).rep.freed) (Fr ((cW5 h s k).rep.cleared) (Fr ((cW5 h s k).rep.steps) (Fr (0:Int) Fz))))))))))))))))))))
 ·exact gF [] Tryz.func106 [false,false,false,false,false,false,false,false,false,false,false,false,false,false,false,false,false,false,true] (Fh 15 [.own] (Q0 (Ff 107 hc0 (Fr ((endH (cW5 h s k)).conf.pw) (Fr ((endH (cW5 h s k)).conf.pg) (Fr (List.map wdv (endH (cW5 h s k)).words) (Fr (List.map Page.dv (endH (cW5 h s k)).pages) (Fr ((endH (cW5 h s k)).space) (Fa (by(simp[endH,cW5,cW4,cW3,cW2,Z0R, *];omega):(-1:Int)=(endH (cW5 h s k)).bump) (Fr (List.map wdv (rootsF (beginW h) s).snd.fst) (Fr (List.map wdv (Z2I (allF (rootsF (beginW h) s).fst).fst k k.length)) (Fr ((cW5 h s k).rep.copied) (Fr ((cW5 h s k).rep.kept) (Fr ((cW5 h s k).rep.filled) (Fr ((cW5 h s k).rep.freed) (Fr ((cW5 h s k).rep.cleared) (Fr ((cW5 h s k).rep.steps) (Fr (0:Int) Fz))))))))))))))))))
end
def pinB(w:WorldM)(i:Nat)(n:Int):WorldM:=⟨⟨w.heap.conf,w.heap.words,w.heap.pages.set i ⟨(w.heap.pages.getD i default).kind,(w.heap.pages.getD i default).space,(w.heap.pages.getD i default).used,(w.heap.pages.getD i default).pins+n⟩,w.heap.space,w.heap.bump⟩,w.strong,w.weak⟩
def pinI(w:WorldM)(t:Tape):Nat:=(ofA w.heap.conf (w.pick t)).1.toNat
def WorldM.pin(w:WorldM)(t:Tape):WorldM :=
  if(ofA w.heap.conf (w.pick t)).2.2=0 then
    (if 0<(w.heap.pages.getD (pinI w t) default).pins∧(w.pickT t).next 2=0 then pinB w (pinI w t) (-1)
     else if 0<(w.heap.pages.getD (pinI w t) default).pins∨(w.heap.pages.getD (pinI w t) default).kind=2∨(crowd w.heap.pages:Int)<w.heap.conf.pg/4 then pinB w (pinI w t) 1 else w)else w
def WorldM.pinT(w:WorldM)(t:Tape):Tape:=if(ofA w.heap.conf (w.pick t)).2.2=0∧0<(w.heap.pages.getD (pinI w t) default).pins then(w.pickT t).step 2 else w.pickT t
theorem Zii(w:WorldM)(t:Tape)(hw:WMok w)(ht:TOk t)(ha:t.at'≤1000000)(hv:Z07 w.heap.conf=true)(hp:(w.heap.pages.length:Int)=w.heap.conf.pg)(hpn:∀ j,j<w.heap.pages.length→-1048576≤(w.heap.pages.getD j default).pins∧(w.heap.pages.getD j default).pins≤4294967296):LentSpec Tryz.prog 65 [w.av,.pt 0 0 0] [t.b] (w.pin t).av [(w.pinT t).b]:=by
 have hb:=validB_iff.1 hv
 have s1:=Z9Q w t
 have k1:=Z4C ht s1.2.2 (by omega) (by omega)
 have p1:=Z2P hw t
 have q1:=hpn (pinI w t)
 have hcr:=Z3M w.heap.pages w.heap.pages.length
 unfold pinI at q1
 have o1:=fun e=>Z3w (a:=w.pick t) hv e
 by_cases e:(ofA w.heap.conf (w.pick t)).2.2=0
 ·have o2:=o1 e
  by_cases c1:0<(w.heap.pages.getD (ofA w.heap.conf (w.pick t)).1.toNat default).pins
  ·have eT:w.pinT t=(w.pickT t).step 2:=by rw[WorldM.pinT,if_pos ⟨e,c1⟩]
   by_cases c2:(w.pickT t).next 2=0
   ·have eP:w.pin t=⟨⟨w.heap.conf,w.heap.words,w.heap.pages.set (ofA w.heap.conf (w.pick t)).1.toNat ⟨(w.heap.pages.getD (ofA w.heap.conf (w.pick t)).1.toNat default).kind,(w.heap.pages.getD (ofA w.heap.conf (w.pick t)).1.toNat default).space,(w.heap.pages.getD (ofA w.heap.conf (w.pick t)).1.toNat default).used,(w.heap.pages.getD (ofA w.heap.conf (w.pick t)).1.toNat default).pins-1⟩,w.heap.space,w.heap.bump⟩,w.strong,w.weak⟩:=by rw[WorldM.pin,if_pos e,if_pos ⟨c1,c2⟩];rfl
    rw[eP,eT]
    exact lF Tryz.func65 [] (Fh 42 [.br true] (Fh 37 [.br true] (Fh 51 [.el (w.heap.pages.getD (ofA w.heap.conf (w.pick t)).fst.toNat default).dv] (Fp 12 (@Z1X w t ‹_› ‹_› (by omega)) (Fc 18 (@Z4d w.heap.conf (w.pick t) (by omega) (by omega)) (Ffb 23 ((ofA w.heap.conf (w.pick t)).snd.snd != 0) (Fs 25 (List.map Page.dv []) (Fa (by(simp[*];omega):(List.map Page.dv []).length+(List.map Page.dv w.heap.pages).length≤2^30) (Fs 29 (List.map Page.dv w.heap.pages) (Fm 41 Page.dv w.heap.pages ((ofA w.heap.conf (w.pick t)).fst) ((ofA w.heap.conf (w.pick t)).fst.toNat) (Fb (decide (0<(w.heap.pages.getD (ofA w.heap.conf (w.pick t)).fst.toNat default).pins)=true) (Fp 45 (@Z0x (w.pickT t) (2) ‹_› (by omega) (by omega)) (Fb (((w.pickT t).next (2:Int)==0)=true) (Fa (by exact Z1D (by omega):(List.map Page.dv w.heap.pages)[(ofA w.heap.conf (w.pick t)).fst.toNat]? = some (w.heap.pages.getD (ofA w.heap.conf (w.pick t)).fst.toNat default).dv) (Fi 52 ((w.heap.pages.getD (ofA w.heap.conf (w.pick t)).fst.toNat default).pins-1) (Fa (by exact Z1D (by omega):(List.map Page.dv w.heap.pages)[(ofA w.heap.conf (w.pick t)).fst.toNat]? = some (w.heap.pages.getD (ofA w.heap.conf (w.pick t)).fst.toNat default).dv) (FS 10054 Page.dv w.heap.pages ((ofA w.heap.conf (w.pick t)).fst.toNat) (Page.mk (w.heap.pages.getD (ofA w.heap.conf (w.pick t)).fst.toNat default).kind (w.heap.pages.getD (ofA w.heap.conf (w.pick t)).fst.toNat default).space (w.heap.pages.getD (ofA w.heap.conf (w.pick t)).fst.toNat default).used ((w.heap.pages.getD (ofA w.heap.conf (w.pick t)).fst.toNat default).pins-1)) ((w.heap.pages.getD (ofA w.heap.conf (w.pick t)).fst.toNat default).dv) Fz)))))))))))))))))
   ·have eP:w.pin t=⟨⟨w.heap.conf,w.heap.words,w.heap.pages.set (ofA w.heap.conf (w.pick t)).1.toNat ⟨(w.heap.pages.getD (ofA w.heap.conf (w.pick t)).1.toNat default).kind,(w.heap.pages.getD (ofA w.heap.conf (w.pick t)).1.toNat default).space,(w.heap.pages.getD (ofA w.heap.conf (w.pick t)).1.toNat default).used,(w.heap.pages.getD (ofA w.heap.conf (w.pick t)).1.toNat default).pins+1⟩,w.heap.space,w.heap.bump⟩,w.strong,w.weak⟩:=by rw[WorldM.pin,if_pos e,if_neg (fun q=>c2 q.2),if_pos (.inl c1)];rfl
    rw[eP,eT]
    exact lF Tryz.func65 [] (Fh 42 [.br true] (Fh 37 [.br false] (Fh 59 [.el (w.heap.pages.getD (ofA w.heap.conf (w.pick t)).fst.toNat default).dv] (Fh 65 [.el (w.heap.pages.getD (ofA w.heap.conf (w.pick t)).fst.toNat default).dv] (Fh 76 [.int (w.heap.conf.pg/4)] (Fh 55 [.br true] (Fh 82 [.el (w.heap.pages.getD (ofA w.heap.conf (w.pick t)).fst.toNat default).dv] (Fp 12 (@Z1X w t ‹_› ‹_› (by omega)) (Fc 18 (@Z4d w.heap.conf (w.pick t) (by omega) (by omega)) (Ffb 23 ((ofA w.heap.conf (w.pick t)).snd.snd != 0) (Fs 25 (List.map Page.dv []) (Fa (by(simp[*];omega):(List.map Page.dv []).length+(List.map Page.dv w.heap.pages).length≤2^30) (Fs 29 (List.map Page.dv w.heap.pages) (Fm 41 Page.dv w.heap.pages ((ofA w.heap.conf (w.pick t)).fst) ((ofA w.heap.conf (w.pick t)).fst.toNat) (Fb (decide (0<(w.heap.pages.getD (ofA w.heap.conf (w.pick t)).fst.toNat default).pins)=true) (Fp 45 (@Z0x (w.pickT t) (2) ‹_› (by omega) (by omega)) (Fb (((w.pickT t).next (2:Int)==0)=false) (Fa (by exact Z1D (by omega):(List.map Page.dv w.heap.pages)[(ofA w.heap.conf (w.pick t)).fst.toNat]? = some (w.heap.pages.getD (ofA w.heap.conf (w.pick t)).fst.toNat default).dv) (Fa (by intro hg;(try simp only[bs]at hg);exact Z1D (by omega):(!decide (0<(w.heap.pages.getD (ofA w.heap.conf (w.pick t)).fst.toNat default).pins))=true→(List.map Page.dv w.heap.pages)[(ofA w.heap.conf (w.pick t)).fst.toNat]? = some (w.heap.pages.getD (ofA w.heap.conf (w.pick t)).fst.toNat default).dv) (FcG 71 (!(decide (0<(w.heap.pages.getD (ofA w.heap.conf (w.pick t)).fst.toNat default).pins)||(w.heap.pages.getD (ofA w.heap.conf (w.pick t)).fst.toNat default).kind==2)) (fun hg=>by(try simp only[bs]at hg);exact @Z7U w.heap (by(try simp only[bs]at hg);omega)) (Fa (by intro hg;(try simp only[bs]at hg);rw[wrapI' (by omega) (by omega)];omega:(!(decide (0<(w.heap.pages.getD (ofA w.heap.conf (w.pick t)).fst.toNat default).pins)||(w.heap.pages.getD (ofA w.heap.conf (w.pick t)).fst.toNat default).kind==2))=true→IntKind.i64.wrap (w.heap.conf.pg.tdiv 4)=w.heap.conf.pg/4) (Fa (by intro hg;(try simp only[bs]at hg);omega:(!(decide (0<(w.heap.pages.getD (ofA w.heap.conf (w.pick t)).fst.toNat default).pins)||(w.heap.pages.getD (ofA w.heap.conf (w.pick t)).fst.toNat default).kind==2))=true→(4:Int)=0→False) (Fb ((decide (0<(w.heap.pages.getD (ofA w.heap.conf (w.pick t)).fst.toNat default).pins)||(w.heap.pages.getD (ofA w.heap.conf (w.pick t)).fst.toNat default).kind==2||decide ((↑(crowd w.heap.pages):Int)<w.heap.conf.pg/4))=true) (Fa (by exact Z1D (by omega):(List.map Page.dv w.heap.pages)[(ofA w.heap.conf (w.pick t)).fst.toNat]? = some (w.heap.pages.getD (ofA w.heap.conf (w.pick t)).fst.toNat default).dv) (Fi 83 ((w.heap.pages.getD (ofA w.heap.conf (w.pick t)).fst.toNat default).pins+1) (Fa (by exact Z1D (by omega):(List.map Page.dv w.heap.pages)[(ofA w.heap.conf (w.pick t)).fst.toNat]? = some (w.heap.pages.getD (ofA w.heap.conf (w.pick t)).fst.toNat default).dv) (FS 10085 Page.dv w.heap.pages ((ofA w.heap.conf (w.pick t)).fst.toNat) (Page.mk (w.heap.pages.getD (ofA w.heap.conf (w.pick t)).fst.toNat default).kind (w.heap.pages.getD (ofA w.heap.conf (w.pick t)).fst.toNat default).space (w.heap.pages.getD (ofA w.heap.conf (w.pick t)).fst.toNat default).used ((w.heap.pages.getD (ofA w.heap.conf (w.pick t)).fst.toNat default).pins+1)) ((w.heap.pages.getD (ofA w.heap.conf (w.pick t)).fst.toNat default).dv) Fz)))))))))))))))))))))))))))
  ·have eT:w.pinT t=w.pickT t:=by rw[WorldM.pinT,if_neg (fun q=>c1 q.2)]
   by_cases c3:(w.heap.pages.getD (ofA w.heap.conf (w.pick t)).1.toNat default).kind=2∨(crowd w.heap.pages:Int)<w.heap.conf.pg/4
   ·have eP:w.pin t=⟨⟨w.heap.conf,w.heap.words,w.heap.pages.set (ofA w.heap.conf (w.pick t)).1.toNat ⟨(w.heap.pages.getD (ofA w.heap.conf (w.pick t)).1.toNat default).kind,(w.heap.pages.getD (ofA w.heap.conf (w.pick t)).1.toNat default).space,(w.heap.pages.getD (ofA w.heap.conf (w.pick t)).1.toNat default).used,(w.heap.pages.getD (ofA w.heap.conf (w.pick t)).1.toNat default).pins+1⟩,w.heap.space,w.heap.bump⟩,w.strong,w.weak⟩:=by rw[WorldM.pin,if_pos e,if_neg (fun q=>c1 q.1),if_pos (.inr c3)];rfl
    rw[eP,eT]
    exact lF Tryz.func65 [] (Fh 42 [.br false] (Fh 45 [.lent (int ((w.pickT t).next 2)) [((w.pickT t).step 2).b]] (Fh 59 [.el (w.heap.pages.getD (ofA w.heap.conf (w.pick t)).fst.toNat default).dv] (Fh 65 [.el (w.heap.pages.getD (ofA w.heap.conf (w.pick t)).fst.toNat default).dv] (Fh 76 [.int (w.heap.conf.pg/4)] (Fh 55 [.br true] (Fh 82 [.el (w.heap.pages.getD (ofA w.heap.conf (w.pick t)).fst.toNat default).dv] (Fp 12 (@Z1X w t ‹_› ‹_› (by omega)) (Fc 18 (@Z4d w.heap.conf (w.pick t) (by omega) (by omega)) (Ffb 23 ((ofA w.heap.conf (w.pick t)).snd.snd != 0) (Fs 25 (List.map Page.dv []) (Fa (by(simp[*];omega):(List.map Page.dv []).length+(List.map Page.dv w.heap.pages).length≤2^30) (Fs 29 (List.map Page.dv w.heap.pages) (Fm 41 Page.dv w.heap.pages ((ofA w.heap.conf (w.pick t)).fst) ((ofA w.heap.conf (w.pick t)).fst.toNat) (Fb (decide (0<(w.heap.pages.getD (ofA w.heap.conf (w.pick t)).fst.toNat default).pins)=false) (Fa (by exact Z1D (by omega):(List.map Page.dv w.heap.pages)[(ofA w.heap.conf (w.pick t)).fst.toNat]? = some (w.heap.pages.getD (ofA w.heap.conf (w.pick t)).fst.toNat default).dv) (Fa (by intro hg;(try simp only[bs]at hg);exact Z1D (by omega):(!decide (0<(w.heap.pages.getD (ofA w.heap.conf (w.pick t)).fst.toNat default).pins))=true→(List.map Page.dv w.heap.pages)[(ofA w.heap.conf (w.pick t)).fst.toNat]? = some (w.heap.pages.getD (ofA w.heap.conf (w.pick t)).fst.toNat default).dv) (FcG 71 (!(decide (0<(w.heap.pages.getD (ofA w.heap.conf (w.pick t)).fst.toNat default).pins)||(w.heap.pages.getD (ofA w.heap.conf (w.pick t)).fst.toNat default).kind==2)) (fun hg=>by(try simp only[bs]at hg);exact @Z7U w.heap (by(try simp only[bs]at hg);omega)) (Fa (by intro hg;(try simp only[bs]at hg);rw[Int.tdiv_eq_ediv_of_nonneg (by omega),wrapI' (by omega) (by omega)]:(!(decide (0<(w.heap.pages.getD (ofA w.heap.conf (w.pick t)).fst.toNat default).pins)||(w.heap.pages.getD (ofA w.heap.conf (w.pick t)).fst.toNat default).kind==2))=true→IntKind.i64.wrap (w.heap.conf.pg.tdiv 4)=w.heap.conf.pg/4) (Fa (by intro hg;(try simp only[bs]at hg);omega:(!(decide (0<(w.heap.pages.getD (ofA w.heap.conf (w.pick t)).fst.toNat default).pins)||(w.heap.pages.getD (ofA w.heap.conf (w.pick t)).fst.toNat default).kind==2))=true→(4:Int)=0→False) (Fb ((decide (0<(w.heap.pages.getD (ofA w.heap.conf (w.pick t)).fst.toNat default).pins)||(w.heap.pages.getD (ofA w.heap.conf (w.pick t)).fst.toNat default).kind==2||decide ((↑(crowd w.heap.pages):Int)<w.heap.conf.pg/4))=true) (Fa (by exact Z1D (by omega):(List.map Page.dv w.heap.pages)[(ofA w.heap.conf (w.pick t)).fst.toNat]? = some (w.heap.pages.getD (ofA w.heap.conf (w.pick t)).fst.toNat default).dv) (Fi 83 ((w.heap.pages.getD (ofA w.heap.conf (w.pick t)).fst.toNat default).pins+1) (Fa (by exact Z1D (by omega):(List.map Page.dv w.heap.pages)[(ofA w.heap.conf (w.pick t)).fst.toNat]? = some (w.heap.pages.getD (ofA w.heap.conf (w.pick t)).fst.toNat default).dv) (FS 10085 Page.dv w.heap.pages ((ofA w.heap.conf (w.pick t)).fst.toNat) (Page.mk (w.heap.pages.getD (ofA w.heap.conf (w.pick t)).fst.toNat default).kind (w.heap.pages.getD (ofA w.heap.conf (w.pick t)).fst.toNat default).space (w.heap.pages.getD (ofA w.heap.conf (w.pick t)).fst.toNat default).used ((w.heap.pages.getD (ofA w.heap.conf (w.pick t)).fst.toNat default).pins+1)) ((w.heap.pages.getD (ofA w.heap.conf (w.pick t)).fst.toNat default).dv) Fz)))))))))))))))))))))))))
   ·have eP:w.pin t=w:=by rw[WorldM.pin,if_pos e,if_neg (fun q=>c1 q.1),if_neg (fun q=>q.elim c1 c3)]
    rw[eP,eT]
    exact lF Tryz.func65 [] (Fh 42 [.br false] (Fh 45 [.lent (int ((w.pickT t).next 2)) [((w.pickT t).step 2).b]] (Fh 59 [.el (w.heap.pages.getD (ofA w.heap.conf (w.pick t)).fst.toNat default).dv] (Fh 65 [.el (w.heap.pages.getD (ofA w.heap.conf (w.pick t)).fst.toNat default).dv] (Fh 76 [.int (w.heap.conf.pg/4)] (Fh 55 [.br false] (Fp 12 (@Z1X w t ‹_› ‹_› (by omega)) (Fc 18 (@Z4d w.heap.conf (w.pick t) (by omega) (by omega)) (Ffb 23 ((ofA w.heap.conf (w.pick t)).snd.snd != 0) (Fs 25 (List.map Page.dv []) (Fa (by(simp[*];omega):(List.map Page.dv []).length+(List.map Page.dv w.heap.pages).length≤2^30) (Fs 29 (List.map Page.dv w.heap.pages) (Fm 41 Page.dv w.heap.pages ((ofA w.heap.conf (w.pick t)).fst) ((ofA w.heap.conf (w.pick t)).fst.toNat) (Fb (decide (0<(w.heap.pages.getD (ofA w.heap.conf (w.pick t)).fst.toNat default).pins)=false) (Fa (by exact Z1D (by omega):(List.map Page.dv w.heap.pages)[(ofA w.heap.conf (w.pick t)).fst.toNat]? = some (w.heap.pages.getD (ofA w.heap.conf (w.pick t)).fst.toNat default).dv) (Fa (by intro hg;(try simp only[bs]at hg);exact Z1D (by omega):(!decide (0<(w.heap.pages.getD (ofA w.heap.conf (w.pick t)).fst.toNat default).pins))=true→(List.map Page.dv w.heap.pages)[(ofA w.heap.conf (w.pick t)).fst.toNat]? = some (w.heap.pages.getD (ofA w.heap.conf (w.pick t)).fst.toNat default).dv) (FcG 71 (!(decide (0<(w.heap.pages.getD (ofA w.heap.conf (w.pick t)).fst.toNat default).pins)||(w.heap.pages.getD (ofA w.heap.conf (w.pick t)).fst.toNat default).kind==2)) (fun hg=>by(try simp only[bs]at hg);exact @Z7U w.heap (by(try simp only[bs]at hg);omega)) (Fa (by intro hg;(try simp only[bs]at hg);rw[Int.tdiv_eq_ediv_of_nonneg (by omega),wrapI' (by omega) (by omega)]:(!(decide (0<(w.heap.pages.getD (ofA w.heap.conf (w.pick t)).fst.toNat default).pins)||(w.heap.pages.getD (ofA w.heap.conf (w.pick t)).fst.toNat default).kind==2))=true→IntKind.i64.wrap (w.heap.conf.pg.tdiv 4)=w.heap.conf.pg/4) (Fa (by intro hg;(try simp only[bs]at hg);omega:(!(decide (0<(w.heap.pages.getD (ofA w.heap.conf (w.pick t)).fst.toNat default).pins)||(w.heap.pages.getD (ofA w.heap.conf (w.pick t)).fst.toNat default).kind==2))=true→(4:Int)=0→False) (Fb ((decide (0<(w.heap.pages.getD (ofA w.heap.conf (w.pick t)).fst.toNat default).pins)||(w.heap.pages.getD (ofA w.heap.conf (w.pick t)).fst.toNat default).kind==2||decide ((↑(crowd w.heap.pages):Int)<w.heap.conf.pg/4))=false) Fz))))))))))))))))))))
 ·have eP:w.pin t=w:=by rw[WorldM.pin,if_neg e]
  have eT:w.pinT t=w.pickT t:=by rw[WorldM.pinT,if_neg (fun q=>e q.1)]
  rw[eP,eT]
  exact lF Tryz.func65 [] (Fp 12 (@Z1X w t ‹_› ‹_› (by omega)) (Fc 18 (@Z4d w.heap.conf (w.pick t) (by omega) (by omega)) (Ftb 23 ((ofA w.heap.conf (w.pick t)).snd.snd != 0) Fz)))
theorem Z6P(h:Heap)(s k:List Int)(hw:WOk h.words)(hs:s.length≤1048575)(hk:k.length≤1048575)(hs2:ULe s)(hk2:ULe k):GSpec Tryz.prog 106 [h.av,Z02 s,Z02 k] false (.tu [(Z0h h s k).1.av,Z02 (Z0h h s k).2.1,Z02 (Z0h h s k).2.2.1,.ag (Z0h h s k).2.2.2.1.cells,int (Z0h h s k).2.2.2.2]) []:=by
 unfold Z0h
 by_cases hp:Z03 h=true
 ·rw[if_pos hp]
  by_cases hr:Z0k h s=true∧Z0k h k=true
  ·rw[if_pos hr]
   by_cases e:(rootsF (beginW h) s).2.2=0
   ·rw[if_pos e]
    by_cases e2:(allF (rootsF (beginW h) s).1).2=0
    ·rw[if_pos e2]
     exact Zjq h s k hw hs hk hs2 hk2 hp hr.1 hr.2 e e2
    ·rw[if_neg e2]
     exact Zil h s k hw hs hk hs2 hk2 hp hr.1 hr.2 e e2
   ·rw[if_neg e]
    exact ZiO h s k hw hs hk hs2 hk2 hp hr.1 hr.2 e
  ·rw[if_neg hr]
   refine ZiX h s k hw hs hk hs2 hk2 hp ?_
   by_cases q:Z0k h s=true
   ·refine Or.inr ?_
    have:¬ Z0k h k=true:=fun q2=>hr ⟨q,q2⟩
    simpa using this
   ·exact Or.inl (by simpa using q)
 ·rw[if_neg hp]
  exact Zj4 h s k hw hs hk hs2 hk2 (by simpa using hp)
def WorldM.collect(w:WorldM):WorldM:=if(Z0h w.heap w.strong w.weak).2.2.2.2=0 then⟨(Z0h w.heap w.strong w.weak).1,(Z0h w.heap w.strong w.weak).2.1,(Z0h w.heap w.strong w.weak).2.2.1⟩else w
theorem Zb2(w:WorldM)(hw:WOk w.heap.words)(hs:w.strong.length≤1048575)(hk:w.weak.length≤1048575)(hs2:ULe w.strong)(hk2:ULe w.weak):GSpec Tryz.prog 67 [w.av] false w.collect.av []:=by
 by_cases e:(Z0h w.heap w.strong w.weak).2.2.2.2=0
 ·have e7:w.collect=⟨(Z0h w.heap w.strong w.weak).1,(Z0h w.heap w.strong w.weak).2.1,(Z0h w.heap w.strong w.weak).2.2.1⟩:=by rw[WorldM.collect,if_pos e]
  rw[e7]
  exact gF [] Tryz.func67 [] (Fc 15 (@Z6P w.heap w.strong w.weak ‹_› ‹_› ‹_› ‹_› ‹_›) (Ftb 22 ((Z0h w.heap w.strong w.weak).snd.snd.snd.snd==0) Fz))
 ·have e7:w.collect=w:=by rw[WorldM.collect,if_neg e]
  rw[e7]
  exact gF [] Tryz.func67 [] (Fc 15 (@Z6P w.heap w.strong w.weak ‹_› ‹_› ‹_› ‹_› ‹_›) (Ffb 22 ((Z0h w.heap w.strong w.weak).snd.snd.snd.snd==0) Fz))
section
variable (P:Work→Prop) (hf:∀ w r,WkOk w→Inv w→P w→(w.fwd r).2.2=0→P (w.fwd r).1)
 (hin:∀ w q j,WkOk w→Inv w→P w→q∈w.queue→0≤j→j<hlA w.heap.words q→(w.fwd (loadA w.heap.words (q+1+j)).1).2.2=0→P (w.in1 (q+1+j))) (hsd:∀ w n,P w→P (ZcO w n))
include hin in
theorem Zgx{w:Work}(hw:WkOk w)(h:Inv w)(hp:P w){q:Int}(hq:q∈w.queue){l:List Int}(hl:∀ x∈l,0≤x∧x<hlA w.heap.words q):∀ k,k≤l.length→(∀ j,j<k→innE w q l j=0)→P (innN w q l k)
 | 0,_,_=>hp
 | k+1,hk,he=>by
  have ih:=Zgx hw h hp hq hl k (by omega) (fun j hj=>he j (by omega))
  have ok:=(Z3Z hw q l k (fun j hj=>he j (by omega))).1
  have iv:=Z7f hw h hq hl k (by omega) (fun j hj=>he j (by omega))
  have hx:=hl _ (getD_mem_iff.2 ⟨k,by omega,rfl⟩)
  exact hin _ q (l.getD k default) ok iv.1 ih (iv.2.q q hq) hx.1 (by rw[iv.2.l q hq];exact hx.2) (he k (by omega))
include hin hsd in
theorem ZhJ{w:Work}(hw:WkOk w)(h:Inv w)(hp:P w)(e:(Z0H w).2.2=0):P (Z0H w).1:=by
 by_cases hs:w.scanned<w.queue.length
 ·have hsc:=hw.sc
  have hq:Z2Z w∈w.queue:=getD_mem_iff.2 ⟨w.scanned.toNat,by omega,rfl⟩
  unfold Z0H at e ⊢
  rw[if_pos hs]at e ⊢
  cases hb:(List.range (Z1N w).length).find? (fun k=>decide (innE w (Z2Z w) (Z1N w) k≠0))with
  | none =>
   have h0:∀ j,j<(Z1N w).length→innE w (Z2Z w) (Z1N w) j=0:=fun j hj=>by
    have:=List.find?_eq_none.1 hb j (List.mem_range.2 hj)
    simpa using this
   exact hsd _ _ (Zgx P hin hw h hp hq (l:=Z1N w) (Z4K (hdW w (Z2Z w))) (Z1N w).length (Nat.le_refl _) h0)
  | some k =>
   simp only[hb]at e
   have:=(List.find?_range_eq_some.1 hb).1
   simp[e]at this
 ·have e:Z0H w=(w,false,0):=by rw[Z0H,if_neg hs]
  rw[e]
  exact hp
include hin hsd in
theorem ZiS{w:Work}(hw:WkOk w)(h:Inv w)(hp:P w):∀ k,(∀ j,j<k→Z37 w j=false)→P (itW w k)
 | 0,_=>hp
 | k+1,hh=>by
  have ih:=ZiS hw h hp k (fun j hj=>hh j (by omega))
  have ok:=(Z3L hw k (fun j hj=>hh j (by omega))).1
  have iv:=(Z6B hw h k (fun j hj=>hh j (by omega))).1
  have hk:=hh k (by omega)
  simp only[Z37,decide_eq_false_iff_not,not_or,Decidable.not_not]at hk
  exact ZhJ P hin hsd ok iv ih hk.1
include hin hsd in
theorem Zmi{w:Work}(hw:WkOk w)(h:Inv w)(hp:P w)(e:(allF w).2=0):P (allF w).1:=by
 obtain⟨k,hb⟩:=Z4I hw
 obtain⟨h1,h2,h3⟩:=List.find?_range_eq_some.1 hb
 have h0:∀ j,j<k→Z37 w j=false:=fun j hj=>by simpa using h3 j hj
 unfold allF at e ⊢
 rw[hb]at e ⊢
 simp only at e ⊢
 split at e
 ·rename_i c
  rw[if_pos c]
  exact ZhJ P hin hsd (Z3L hw k h0).1 (Z6B hw h k h0).1 (ZiS P hin hsd hw h hp k h0) c
 ·rename_i c
  exact absurd e c
include hf in
theorem Zac{w:Work}{roots:List Int}(hw:WkOk w)(h:Inv w)(hp:P w):∀ k,(∀ j,j<k→Z29 w roots j=0)→P (Z1o w roots k).1
 | 0,_=>hp
 | k+1,hh=>by
  have ih:=Zac hw h hp k (fun j hj=>hh j (by omega))
  have ok:=(Z2Y (roots:=roots) hw k (fun j hj=>hh j (by omega))).1
  have iv:=(Z57 (roots:=roots) hw h k (fun j hj=>hh j (by omega))).1
  exact hf _ _ ok iv ih (hh k (by omega))
include hf in
theorem Zab{w:Work}{roots:List Int}(hw:WkOk w)(h:Inv w)(hp:P w)(e:(rootsF w roots).2.2=0):P (rootsF w roots).1:=by
 unfold rootsF at e ⊢
 cases hb:(List.range roots.length).find? (fun k=>decide (Z29 w roots k≠0))with
 | none =>
  have h0:∀ j,j<roots.length→Z29 w roots j=0:=fun j hj=>by
   have:=List.find?_eq_none.1 hb j (List.mem_range.2 hj)
   simpa using this
  exact Zac P hf hw h hp roots.length h0
 | some k =>
  simp only[hb]at e
  have:=(List.find?_range_eq_some.1 hb).1
  simp[e]at this
include hf hin hsd in
theorem Zl0{h:Heap}{s:List Int}(hw:WOk h.words)(hp:Z03 h=true)(h0:P (beginW h))(e:(rootsF (beginW h) s).2.2=0)(e2:(allF (rootsF (beginW h) s).1).2=0):P (cW2 h s):=by
 have hb:=Z36 hw hp
 have hi:=Z2X hp
 have ho:=Z2W (roots:=s) hb hi e
 exact Zmi P hin hsd ho.1 ho.2.1 (Zab P hf hb hi h0 e) e2
end
theorem ZgG{l:List Page}{i k:Nat}(h:∀ m,m<k→i+1+m<l.length∧(l.getD (i+1+m) default).kind=3):k≤Z0w l i:=by
 by_cases hc:k≤Z0w l i
 ·exact hc
 ·have h1:=h (Z0w l i) (by omega)
  exact absurd h1.2 (ZeG h1.1)
theorem PT.flip{c:Conf}{l:List Page}(h:PT c l){i:Nat}(hi:i<l.length)(hk:(l.getD i default).kind=2){s:Int}(hs:0≤s∧s≤1):PT c (Z0F l i (Z0w l i) s):=by
 have hr:∀ j,i<j→j≤i+Z0w l i→(l.getD j default).kind=3:=fun j h1 h2=>by
  have:=(Z7w (l:=l) (i:=i) (m:=j-i-1) (by omega)).2
  rwa [show i+1+(j-i-1)=j by omega]at this
 have hg:∀ j,j<l.length→((Z0F l i (Z0w l i) s).getD j default).kind=(l.getD j default).kind∧((Z0F l i (Z0w l i) s).getD j default).used=(l.getD j default).used∧((Z0F l i (Z0w l i) s).getD j default).pins=(l.getD j default).pins:=fun j hj=>by
  rw[Z1w hj]
  split
  ·exact⟨rfl,rfl,rfl⟩
  ·exact⟨rfl,rfl,rfl⟩
 refine⟨?_, ?_, ?_⟩
 ·intro j hj
  rw[Z1v]at hj
  have b:=h.b j hj
  rw[Z1w hj]
  split
  ·rename_i hc
   refine⟨hs,b.n,b.k,fun q=>?_,b.k1,b.k3⟩
   exfalso
   have q':(l.getD j default).kind=0:=q
   by_cases hij:j=i
   ·subst hij;omega
   ·have:=hr j (by omega) hc.2;omega
  ·exact b
 ·intro j hj hk2
  rw[Z1v]at hj ⊢
  rw[(hg j hj).1]at hk2
  rw[(hg j hj).2.1]
  have q:=h.lg j hj hk2
  refine⟨q.1,fun m h1 h2=>?_⟩
  have r:=q.2 m h1 h2
  refine⟨r.1,by rw[(hg _ r.1).1];exact r.2.1, ?_⟩
  rw[Z1w r.1,Z1w hj]
  by_cases hij:j=i
  ·subst hij
   have hT:(need c (l.getD j default).used-1).toNat≤Z0w l j:=ZgG fun m' hm'=>by
    have:=q.2 (m'+1) (by omega) (by omega)
    rw[show j+1+m'=j+(m'+1) by omega]
    exact⟨this.1,this.2.1⟩
   rw[if_pos (by omega),if_pos (by omega)]
   rfl
  ·have hj1:¬ (i≤j∧j≤i+Z0w l i):=fun hc=>by
    have:=hr j (by omega) hc.2;omega
   have hj2:¬ (i≤j+m∧j+m≤i+Z0w l i):=fun hc=>by
    by_cases hlt:j<i
    ·by_cases he:j+m=i
     ·have:=r.2.1;rw[he]at this;omega
     ·have:=(q.2 (i-j) (by omega) (by omega)).2.1
      rw[show j+(i-j)=i by omega]at this
      omega
    ·omega
   rw[if_neg hj1,if_neg hj2]
   exact r.2.2
 ·intro j hj hk3
  rw[Z1v]at hj
  rw[(hg j hj).1]at hk3
  obtain⟨a,a1,a2,a3⟩:=h.tl j hj hk3
  exact⟨a,a1,by rw[(hg a (by omega)).1];exact a2,by rw[(hg a (by omega)).2.1];exact a3⟩
structure Tab (B:Int) (w:Work):Prop where
 pt:PT w.heap.conf w.heap.pages
 tk:∀ x∈w.taken,(w.heap.pages.getD x.toNat default).space=1-w.heap.space
 pin:∀ p∈w.heap.pages,p.pins≤B
theorem Tab.withWords{B:Int}{w:Work}(h:Tab B w)(l:List Int):Tab B ⟨⟨w.heap.conf,l,w.heap.pages,w.heap.space,w.heap.bump⟩,w.old,w.taken,w.queue,w.scanned,w.rep⟩:=⟨h.pt,h.tk,h.pin⟩
theorem Tab.place{B:Int}(hB:0≤B){w:Work}(hw:WkOk w)(h:Tab B w){n:Int}(hn:1≤n∧n≤w.heap.conf.pw)(hc:(w.place n).2.2=true):PT (w.place n).1.heap.conf (w.place n).1.heap.pages∧(∀ x∈(w.place n).1.taken,((w.place n).1.heap.pages.getD x.toNat default).space=1-(w.place n).1.heap.space)∧∀ p∈(w.place n).1.heap.pages,p.pins≤B:=by
 have hsp:=hw.sp
 by_cases hf:Z4r w n
 ·have e:w.place n=(⟨⟨w.heap.conf,w.heap.words,Z21 w.heap.pages (Z0R w).toNat n,w.heap.space,w.heap.bump⟩,w.old,w.taken,w.queue,w.scanned,w.rep⟩,4096+Z0R w*w.heap.conf.pw+(w.heap.pages.getD (Z0R w).toNat default).used,true):=by rw[Work.place,if_pos hf]
  unfold Z4r at hf
  have hm:=hw.tk _ (Z1x hf.1)
  have hi:(Z0R w).toNat<w.heap.pages.length:=by omega
  have ok:=h.pt.b _ hi
  have u:=ok.k1 hm.2.2
  rw[e]
  refine⟨h.pt.setPage hi (Or.inr hm.2.2) ⟨ok.s,ok.n,ok.k,fun q=>by simp only at q;omega,fun _=>by simp only;omega,fun q=>by simp only at q;omega⟩ (Or.inr hm.2.2), ?_, ?_⟩
  ·intro x hx
   simp only
   rw[Z3x,Z0q hi]
   split
   ·rename_i q
    have:=h.tk _ (Z1x hf.1)
    simp only
    omega
   ·exact h.tk x hx
  ·intro p hp
   rcases List.mem_or_eq_of_mem_set hp with hp | rfl
   ·exact h.pin p hp
   ·exact h.pin (w.heap.pages.getD (Z0R w).toNat default) (getD_in hi)
 ·by_cases hg:0≤Z0t w
  ·have e:w.place n=(⟨⟨w.heap.conf,w.heap.words,Z21 (Z2w w) (Z0t w).toNat n,w.heap.space,w.heap.bump⟩,w.old,w.taken++[Z0t w],w.queue,w.scanned,w.rep⟩,4096+Z0t w*w.heap.conf.pw,true):=by rw[Work.place,if_neg hf,if_pos hg]
   obtain⟨g1,g2,g3⟩:=Z3b (h:=⟨w.heap.conf,w.heap.words,w.heap.pages,1-w.heap.space,w.heap.bump⟩) (by simp only;omega) hg n
   have g1':Z21 (Z2w w) (Z0t w).toNat n=w.heap.pages.set (Z0t w).toNat ⟨1,1-w.heap.space,n,0⟩:=g1
   have g2':(w.heap.pages.getD (Z0t w).toNat default).kind=0:=g2
   have g3':(Z0t w).toNat<w.heap.pages.length:=g3
   rw[e,g1']
   refine⟨h.pt.setPage g3' (Or.inl g2') ⟨by simp only;omega,by simp,by simp,by simp,fun _=>by simp only;omega,by simp⟩ (Or.inr rfl), ?_, ?_⟩
   ·intro x hx
    simp only at hx ⊢
    rw[Z0q g3']
    split
    ·rfl
    ·rename_i hne
     rcases List.mem_append.1 hx with hx | hx
     ·exact h.tk x hx
     ·simp at hx;subst hx;exact absurd rfl hne
   ·intro p hp
    rcases List.mem_or_eq_of_mem_set hp with hp | rfl
    ·exact h.pin p hp
    ·exact hB
  ·rw[Work.place,if_neg hf,if_neg hg]at hc
   simp at hc
theorem Tab.fwd{B:Int}(hB:0≤B)(w:Work)(r:Int)(hw:WkOk w)(hi:Inv w)(h:Tab B w)(e:(w.fwd r).2.2=0):Tab B (w.fwd r).1:=by
 unfold Work.fwd at e ⊢
 split at e
 ·rename_i c1
  rw[if_pos c1]
  exact h
 ·rename_i c1
  rw[if_neg c1]
  split at e
  ·simp at e
  ·rename_i c2
   rw[if_neg c2]
   have c2':r∈w.old:=Decidable.not_not.1 c2
   split at e
   ·rename_i c3
    rw[if_pos c3]
    exact h
   ·rename_i c3
    rw[if_neg c3]
    split at e
    ·simp at e
    ·rename_i c4
     rw[if_neg c4]
     split at e
     ·rename_i c5
      rw[if_pos c5]
      exact⟨h.pt,h.tk,h.pin⟩
     ·rename_i c5
      rw[if_neg c5]
      split at e
      ·rename_i c6
       rw[if_pos c6]
       have hsp:=hw.sp
       have o:=Z3w hw.conf (Decidable.not_not.1 c4)
       have hpl:=hw.pl
       have hl:Z1b w r<w.heap.pages.length:=by unfold Z1b;omega
       refine⟨h.pt.flip hl c6 (by omega), ?_, ?_⟩
       ·intro x hx
        have t:=hw.tk x hx
        simp only[Work.keep,Work.flip]
        rw[Z1w (by omega)]
        split
        ·rename_i hc
         exfalso
         by_cases hx':x.toNat=Z1b w r
         ·rw[hx']at t;omega
         ·have:=(Z7w (l:=w.heap.pages) (i:=Z1b w r) (m:=x.toNat-Z1b w r-1) (by omega)).2
          rw[show Z1b w r+1+(x.toNat-Z1b w r-1)=x.toNat by omega]at this
          omega
        ·exact h.tk x hx
       ·intro p hp
        simp only[Work.keep,Work.flip,Z0F,List.mem_map,List.mem_range]at hp
        obtain⟨j,hj,rfl⟩:=hp
        split
        ·exact h.pin (w.heap.pages.getD j default) (getD_in hj)
        ·exact h.pin (w.heap.pages.getD j default) (getD_in hj)
      ·rename_i c6
       rw[if_neg c6]
       split at e
       ·simp at e
       ·rename_i c7
        rw[if_neg c7]
        have c7':(w.place (sizeH (hdW w r))).2.2=true:=by simpa using c7
        have hz:=hi.z r c2'
        have hs:=Z5L w r
        have hp:sizeH (hdW w r)≤w.heap.conf.pw:=by
         rw[Z3f]
         rcases hz with hz | hz
         ·exact absurd hz c6
         ·exact hz
        obtain⟨q1,q2,q3⟩:=h.place hB hw ⟨hs.1,hp⟩ c7'
        exact⟨q1,q2,q3⟩
theorem Z4s{B:Int}{h:Heap}(hp:Z03 h=true)(hb:∀ p∈h.pages,p.pins≤B):Tab B (beginW h):=by
 have hp':=hp
 rw[Z1d]at hp'
 have hs:=hp'.2.2.2.1
 refine⟨?_,by simp[beginW], ?_⟩
 ·refine hp'.2.2.2.2.2.mapPages _ ?_ ?_ ?_ ?_
  ·intro p hp
   unfold begQ
   split
   ·rename_i hc
    exact⟨by simp only;omega,hp.n,hp.k,fun q=>by simp only at q;omega,hp.k1,fun q=>by simp only at q;omega⟩
   ·exact hp
  ·intro p hp hk
   unfold begQ at hk ⊢
   split at hk
   ·rename_i hc;simp only at hk;omega
   ·rename_i hc;rw[if_neg hc];exact⟨hk,rfl⟩
  ·intro p hp hk
   unfold begQ at hk
   split at hk
   ·rename_i hc;simp only at hk;omega
   ·exact hk
  ·intro p q hp hq h2 h3 he
   have e1:begQ (1-h.space) p=p:=by rw[begQ,if_neg (by omega)]
   have e2:begQ (1-h.space) q=q:=by rw[begQ,if_neg (by omega)]
   rw[e1,e2]
   exact⟨⟨fun _=>h3,fun _=>h2⟩,fun _=>he⟩
 ·intro p hp
  simp only[beginW,List.mem_map]at hp
  obtain⟨q,hq,rfl⟩:=hp
  unfold begQ
  split
  ·exact hb q hq
  ·exact hb q hq
theorem Zkr{B:Int}(hB:0≤B){h:Heap}{s:List Int}(hw:WOk h.words)(hp:Z03 h=true)(hb:∀ p∈h.pages,p.pins≤B)(e:(rootsF (beginW h) s).2.2=0)(e2:(allF (rootsF (beginW h) s).1).2=0):Tab B (cW2 h s) :=
 Zl0 (Tab B) (fun w r hw hi h e=>h.fwd hB w r hw hi e) (fun w q j hw hi h hq h0 h1 e=>(Tab.fwd hB w _ hw hi h e).withWords _) (fun w n h=>⟨h.pt,h.tk,h.pin⟩) hw hp (Z4s hp hb) e e2
structure MOk (w:WorldM) (n:Nat):Prop where
 words:WOk w.heap.words
 hv:Z07 w.heap.conf=true
 pl:(w.heap.pages.length:Int)=w.heap.conf.pg
 L:(w.heap.words.length:Int)=w.heap.conf.pw*w.heap.conf.pg
 pins:∀ j,j<w.heap.pages.length→0≤(w.heap.pages.getD j default).pins∧(w.heap.pages.getD j default).pins≤n
 us:∀ j,j<w.heap.pages.length→0≤(w.heap.pages.getD j default).used∧(w.heap.pages.getD j default).used≤256
 strong:ULe w.strong
 weak:ULe w.weak
 sl:w.strong.length≤n
 wl:w.weak.length≤n
theorem MOk.wm{w:WorldM}{n:Nat}(h:MOk w n)(hn:n≤1000000):WMok w:=⟨h.words,h.strong,h.weak,Nat.le_trans h.sl (by omega),Nat.le_trans h.wl (by omega)⟩
def WorldM.dup(w:WorldM)(t:Tape):WorldM:=⟨w.heap,w.strong++[w.pick t],w.weak⟩
def WorldM.step(w:WorldM)(t:Tape):WorldM :=
 if t.next 12≤3 then w.put ((t.step 12).header w.heap.conf)
 else if t.next 12≤6 then w.link (t.step 12)
 else if t.next 12≤7 then w.pin (t.step 12)
 else if t.next 12≤9 then w.drop (t.step 12)
 else if t.next 12≤10 then w.collect
 else w.dup (t.step 12)
def WorldM.stepT(w:WorldM)(t:Tape):Tape :=
 if t.next 12≤3 then(t.step 12).headerT w.heap.conf
 else if t.next 12≤6 then w.linkT (t.step 12)
 else if t.next 12≤7 then w.pinT (t.step 12)
 else if t.next 12≤9 then w.dropT (t.step 12)
 else if t.next 12≤10 then t.step 12
 else w.pickT (t.step 12)
theorem Z51(t:Tape)(c:Conf):0≤(t.header c).map∧(t.header c).map≤4294967295:=by
 have h:∀ n:Int,0≤((Z1G t c).step 4).next (2^(min (min n 32) 12).toNat)∧((Z1G t c).step 4).next (2^(min (min n 32) 12).toNat)≤4294967295:=by
  intro n
  have p:=ZkI (n:=min (min n 32) 12) (by omega)
  have r:=Z0G ((Z1G t c).step 4) (n:=2^(min (min n 32) 12).toNat) p.1
  omega
 unfold Tape.header
 split
 ·simp
 ·split
  ·simp
  ·exact h _
theorem Z1V(t:Tape)(d:Int)(hd:t.next 12=d)(ht:TOk t):LentSpec Tryz.prog 33 [.pt 0 0 0,int 12] [t.b] (int d) [(t.step 12).b]:=by
 rw[← hd]
 exact Z0x t 12 ht (by decide) (by decide)
section
variable (w:WorldM) (t:Tape) (n:Nat) (hm:MOk w n) (hn:n≤1000000) (ht:TOk t) (ha:t.at'≤900000)
include hm hn ht ha
theorem ZfZ:LentSpec Tryz.prog 31 [w.av,.pt 0 0 0] [t.b] (w.step t).av [(w.stepT t).b]:=by
 have hw:=hm.wm hn
 have h1:=hm.words
 have h2:=hm.strong
 have h3:=hm.weak
 have h4:=hm.sl
 have h5:=hm.wl
 have s1:=Z3B (t:=t) 12
 have k1:=Z4C ht s1.2.2 (by omega) (by omega)
 have n1:=Z0G t (n:=12) (by decide)
 have hmap:=Z51 (t.step 12) w.heap.conf
 have hv:=hm.hv
 have hpl:=hm.pl
 have hpn:∀ j,j<w.heap.pages.length→-1048576≤(w.heap.pages.getD j default).pins∧(w.heap.pages.getD j default).pins≤4294967296:=fun j hj=>by
  have:=hm.pins j hj;omega
 have hd:t.next 12=0∨t.next 12=1∨t.next 12=2∨t.next 12=3∨t.next 12=4∨t.next 12=5∨t.next 12=6∨t.next 12=7∨t.next 12=8∨t.next 12=9∨t.next 12=10∨t.next 12=11:=by omega
 rcases hd with hd | hd | hd | hd | hd | hd | hd | hd | hd | hd | hd | hd
 ·have e7:w.step t=w.put ((t.step 12).header w.heap.conf):=by simp[WorldM.step,hd]
  have e8:w.stepT t=(t.step 12).headerT w.heap.conf:=by simp[WorldM.stepT,hd]
  rw[e7,e8]
  exact lF Tryz.func31 [] (Fp 6 (@Z1V t (0) ‹_› ‹_›) (Fp 17 (@Z5b (t.step 12) w.heap.conf ‹_› (by omega) ‹_›) (Fc 18 (@Z77 w ((t.step 12).header w.heap.conf) ‹_› ‹_›) Fz)))
 ·have e7:w.step t=w.put ((t.step 12).header w.heap.conf):=by simp[WorldM.step,hd]
  have e8:w.stepT t=(t.step 12).headerT w.heap.conf:=by simp[WorldM.stepT,hd]
  rw[e7,e8]
  exact lF Tryz.func31 [] (Fp 6 (@Z1V t (1) ‹_› ‹_›) (Fp 17 (@Z5b (t.step 12) w.heap.conf ‹_› (by omega) ‹_›) (Fc 18 (@Z77 w ((t.step 12).header w.heap.conf) ‹_› ‹_›) Fz)))
 ·have e7:w.step t=w.put ((t.step 12).header w.heap.conf):=by simp[WorldM.step,hd]
  have e8:w.stepT t=(t.step 12).headerT w.heap.conf:=by simp[WorldM.stepT,hd]
  rw[e7,e8]
  exact lF Tryz.func31 [] (Fp 6 (@Z1V t (2) ‹_› ‹_›) (Fp 17 (@Z5b (t.step 12) w.heap.conf ‹_› (by omega) ‹_›) (Fc 18 (@Z77 w ((t.step 12).header w.heap.conf) ‹_› ‹_›) Fz)))
 ·have e7:w.step t=w.put ((t.step 12).header w.heap.conf):=by simp[WorldM.step,hd]
  have e8:w.stepT t=(t.step 12).headerT w.heap.conf:=by simp[WorldM.stepT,hd]
  rw[e7,e8]
  exact lF Tryz.func31 [] (Fp 6 (@Z1V t (3) ‹_› ‹_›) (Fp 17 (@Z5b (t.step 12) w.heap.conf ‹_› (by omega) ‹_›) (Fc 18 (@Z77 w ((t.step 12).header w.heap.conf) ‹_› ‹_›) Fz)))
 ·have e7:w.step t=w.link (t.step 12):=by simp[WorldM.step,hd]
  have e8:w.stepT t=w.linkT (t.step 12):=by simp[WorldM.stepT,hd]
  rw[e7,e8]
  exact lF Tryz.func31 [] (Fp 6 (@Z1V t (4) ‹_› ‹_›) (Fp 25 (@Z8c w (t.step 12) ‹_› ‹_› (by omega)) Fz))
 ·have e7:w.step t=w.link (t.step 12):=by simp[WorldM.step,hd]
  have e8:w.stepT t=w.linkT (t.step 12):=by simp[WorldM.stepT,hd]
  rw[e7,e8]
  exact lF Tryz.func31 [] (Fp 6 (@Z1V t (5) ‹_› ‹_›) (Fp 25 (@Z8c w (t.step 12) ‹_› ‹_› (by omega)) Fz))
 ·have e7:w.step t=w.link (t.step 12):=by simp[WorldM.step,hd]
  have e8:w.stepT t=w.linkT (t.step 12):=by simp[WorldM.stepT,hd]
  rw[e7,e8]
  exact lF Tryz.func31 [] (Fp 6 (@Z1V t (6) ‹_› ‹_›) (Fp 25 (@Z8c w (t.step 12) ‹_› ‹_› (by omega)) Fz))
 ·have e7:w.step t=w.pin (t.step 12):=by simp[WorldM.step,hd]
  have e8:w.stepT t=w.pinT (t.step 12):=by simp[WorldM.stepT,hd]
  rw[e7,e8]
  exact lF Tryz.func31 [] (Fp 6 (@Z1V t (7) ‹_› ‹_›) (Fp 30 (@Zii w (t.step 12) ‹_› ‹_› (by omega) ‹_› (by omega) ‹_›) Fz))
 ·have e7:w.step t=w.drop (t.step 12):=by simp[WorldM.step,hd]
  have e8:w.stepT t=w.dropT (t.step 12):=by simp[WorldM.stepT,hd]
  rw[e7,e8]
  exact lF Tryz.func31 [] (Fp 6 (@Z1V t (8) ‹_› ‹_›) (Fp 36 (@ZaQ w (t.step 12) ‹_› ‹_› (by omega)) Fz))
 ·have e7:w.step t=w.drop (t.step 12):=by simp[WorldM.step,hd]
  have e8:w.stepT t=w.dropT (t.step 12):=by simp[WorldM.stepT,hd]
  rw[e7,e8]
  exact lF Tryz.func31 [] (Fp 6 (@Z1V t (9) ‹_› ‹_›) (Fp 36 (@ZaQ w (t.step 12) ‹_› ‹_› (by omega)) Fz))
 ·have e7:w.step t=w.collect:=by simp[WorldM.step,hd]
  have e8:w.stepT t=t.step 12:=by simp[WorldM.stepT,hd]
  rw[e7,e8]
  exact lF Tryz.func31 [] (Fp 6 (@Z1V t (10) ‹_› ‹_›) (Fc 40 (@Zb2 w ‹_› (by omega) (by omega) ‹_› ‹_›) Fz))
 ·have e7:w.step t=w.dup (t.step 12):=by simp[WorldM.step,hd]
  have e8:w.stepT t=w.pickT (t.step 12):=by simp[WorldM.stepT,hd]
  rw[e7,e8]
  exact lF Tryz.func31 [] (Fh 49 [.els (List.map wdv (w.strong++[w.pick (t.step 12)]))] (Fp 6 (@Z1V t (11) ‹_› ‹_›) (Fs 41 (List.map wdv []) (Fa (by(simp[WorldM.dup, *];omega):(List.map wdv []).length+(List.map wdv w.strong).length≤2^30) (Fs 44 (List.map wdv w.strong) (Fp 47 (@Z1X w (t.step 12) ‹_› ‹_› (by omega)) (Fs 48 (List.map wdv [w.pick (t.step 12)]) (Fa (by(simp[WorldM.dup, *];omega):(List.map wdv w.strong).length+(List.map wdv [w.pick (t.step 12)]).length≤2^30) (Fa (by simp[WorldM.dup,List.map_take,List.map_drop,List.map_set,List.map_append,wdv,idv]:List.map wdv w.strong++List.map wdv [w.pick (t.step 12)]=List.map wdv (w.strong++[w.pick (t.step 12)])) Fz)))))))))
end
theorem Z9E{pw s:Int}{l:List Page}{ws:List Int}(h:WOk ws):∀ i,WOk (Z25 pw s l ws i)
 | 0=>h
 | i+1=>by
  have ih:=Z9E (pw:=pw) (s:=s) (l:=l) h i
  unfold Z25
  split
  ·intro x hx
   simp only[spl,List.mem_append,List.mem_replicate]at hx
   rcases hx with(hx | hx) | hx
   ·exact ih x (List.mem_of_mem_take hx)
   ·omega
   ·exact ih x (List.mem_of_mem_drop hx)
  ·exact ih
theorem Zl2{c:Conf}{l:List Page}(h:PT c l)(s:Int):PT c (l.map (Z1i s)):=by
 refine h.mapPages _ ?_ ?_ ?_ ?_
 ·intro p hp
  unfold Z1i
  split
  ·exact⟨by simp,by simp,by simp,by simp,by simp,by simp⟩
  ·exact hp
 ·intro p hp hk
  unfold Z1i at hk ⊢
  split at hk
  ·simp at hk
  ·rename_i hc;rw[if_neg hc];exact⟨hk,rfl⟩
 ·intro p hp hk
  unfold Z1i at hk
  split at hk
  ·simp at hk
  ·exact hk
 ·intro p q hp hq h2 h3 he
  by_cases hg:p.space=s
  ·have e1:Z1i s p=⟨0,0,0,0⟩:=by rw[Z1i,if_pos ⟨by omega,hg⟩]
   have e2:Z1i s q=⟨0,0,0,0⟩:=by rw[Z1i,if_pos ⟨by omega,by omega⟩]
   rw[e1,e2]
   simp
  ·have e1:Z1i s p=p:=by rw[Z1i,if_neg (by unfold Z32;omega)]
   have e2:Z1i s q=q:=by rw[Z1i,if_neg (by unfold Z32;omega)]
   rw[e1,e2]
   exact⟨⟨fun _=>h3,fun _=>h2⟩,fun _=>he⟩
theorem Z7M{w:Work}(hw:WkOk w)(k:List Int):∀ i,∀ x∈Z2I w k i,0≤x∧x≤4294967296
 | 0,x,hx=>by simp[Z2I]at hx
 | i+1,x,hx=>by
  simp only[Z2I,List.mem_append,List.mem_singleton]at hx
  rcases hx with hx | rfl
  ·exact Z7M hw k i x hx
  ·have h:=Z3R w k i
   unfold Z6h
   split
   ·omega
   ·unfold Z1s
    rw[h.2.2.2.1,h.1]
    split
    ·rename_i hq
     have:=hw.q _ hq
     omega
    ·have:=Z65 (Z0P hw.words (k.getD i default)).1
     omega
structure ColOk (B:Int) (h:Heap) (s k:List Int):Prop where
 p0:Z03 h=true
 p1:Z03 (Z0h h s k).1=true
 w:WOk (Z0h h s k).1.words
 n:∀ p∈(Z0h h s k).1.pages,p.pins≤B
 c:(Z0h h s k).1.conf=h.conf
 r:∀ x∈(Z0h h s k).2.1,0≤x∧x≤4294967296
 rl:(Z0h h s k).2.1.length=s.length
 v:∀ x∈(Z0h h s k).2.2.1,0≤x∧x≤4294967296
 vl:(Z0h h s k).2.2.1.length=k.length
theorem Z6t{B:Int}(hB:0≤B){h:Heap}{s k:List Int}(hw:WOk h.words)(hb:∀ p∈h.pages,p.pins≤B)(e:(Z0h h s k).2.2.2.2=0):ColOk B h s k:=by
 by_cases hp:Z03 h=true
 ·by_cases hr:Z0k h s=true∧Z0k h k=true
  ·by_cases e1:(rootsF (beginW h) s).2.2=0
   ·by_cases e2:(allF (rootsF (beginW h) s).1).2=0
    ·have e7:Z0h h s k=(endH (cW5 h s k),(rootsF (beginW h) s).2.1,Z2I (cW2 h s) k k.length,(cW5 h s k).rep,0):=by rw[Z0h,if_pos hp,if_pos hr,if_pos e1,if_pos e2]
     have ho:=Z2W (roots:=s) (Z36 hw hp) (Z2X hp) e1
     have c:=cOk h s k hw hp e1 e2
     have c5:=cOk5 h s k hw hp e1 e2
     have tb:=Zkr hB hw hp hb e1 e2
     obtain⟨g1,g2,g3,g4,g5⟩:=c.h4
     have hsp:=c.w2.sp
     have hc2:(cW2 h s).heap.conf=h.conf:=c.x2.c
     have hpl:=c.w2.pl
     rw[hc2]at hpl
     have hL:=c.i4.L
     rw[g1]at hL
     have hfl:=Z4U (s:=(cW4 h s k).heap.space) c5.2.2.2.1 (cW4 h s k).heap.pages.length (Nat.le_refl _)
     refine⟨hp, ?_, ?_, ?_, ?_, ?_, ?_, ?_, ?_⟩
     ·rw[e7,Z1d]
      simp only[endH,cW5,Z0Y,g1,g2,g3,g4]
      have hptf:=Zl2 (s:=(cW2 h s).heap.space) tb.pt
      rw[hc2]at hptf
      refine⟨(Z09 hp).1, ?_,by simp only[List.length_map];exact hpl,by omega, ?_,hptf⟩
      ·rw[g1,g2,g3]at hfl
       rw[hfl]
       exact hL
      ·split
       ·rename_i ht
        have hm:=Z1x (w:=cW2 h s) ht
        have t1:=c.w2.tk _ hm
        have t2:=tb.tk _ hm
        refine Or.inr ⟨t1.1,by simp only[List.length_map];exact t1.2.1, ?_⟩
        have hx:(List.map (Z1i (cW2 h s).heap.space) (cW2 h s).heap.pages).getD (Z0R (cW2 h s)).toNat default=(cW2 h s).heap.pages.getD (Z0R (cW2 h s)).toNat default:=by
         have hi:(Z0R (cW2 h s)).toNat<(cW2 h s).heap.pages.length:=by omega
         have:(List.map (Z1i (cW2 h s).heap.space) (cW2 h s).heap.pages).getD (Z0R (cW2 h s)).toNat default=Z1i (cW2 h s).heap.space ((cW2 h s).heap.pages.getD (Z0R (cW2 h s)).toNat default):=by simp[List.getD_eq_getElem?_getD,hi]
         rw[this,Z1i,if_neg (by unfold Z32;omega)]
        show((List.map (Z1i (cW2 h s).heap.space) (cW2 h s).heap.pages).getD (Z0R (cW2 h s)).toNat default).kind=1
        rw[hx]
        exact t1.2.2
       ·exact Or.inl rfl
     ·rw[e7]
      exact Z9E c.f4.words _
     ·rw[e7]
      intro p hp'
      simp only[endH,cW5,Z0Y,g2,List.mem_map]at hp'
      obtain⟨q,hq,rfl⟩:=hp'
      unfold Z1i
      split
      ·exact hB
      ·exact tb.pin q hq
     ·rw[e7]
      exact g1
     ·rw[e7]
      exact ho.2.2.2.1
     ·rw[e7]
      exact ho.2.2.2.2
     ·rw[e7]
      exact Z7M c.w2 k _
     ·rw[e7]
      exact Z8q _ _ _
    ·rw[Z0h,if_pos hp,if_pos hr,if_pos e1,if_neg e2]at e
     exact absurd e e2
   ·rw[Z0h,if_pos hp,if_pos hr,if_neg e1]at e
    exact absurd e e1
  ·rw[Z0h,if_pos hp,if_neg hr]at e
   simp at e
 ·rw[Z0h,if_neg hp]at e
  simp at e
theorem Zdh{h:Heap}(hp:Z03 h=true):∀ p∈h.pages,0≤p.pins:=by
 rw[Z1d]at hp
 intro p hp'
 obtain⟨i,hi,e⟩:=List.mem_iff_getElem.1 hp'
 have:=(hp.2.2.2.2.2.b i hi).n.1
 rwa [show h.pages.getD i default=p by rw[List.getD_eq_getElem?_getD,List.getElem?_eq_getElem hi,e];rfl]at this
theorem MOk.of_proper{w:WorldM}{n:Nat}(hp:Z03 w.heap=true)(hw:WOk w.heap.words)(hn:∀ p∈w.heap.pages,p.pins≤n)(h1:ULe w.strong)(h2:ULe w.weak)(h3:w.strong.length≤n)(h4:w.weak.length≤n):MOk w n:=by
 have po:=Z09 hp
 exact⟨hw,po.1,po.2.2.2.2.2.2.2.1,po.2.2.2.2.2.1,fun j hj=>⟨Zdh hp _ (getD_in hj),hn _ (getD_in hj)⟩,fun j hj=>by have:=Z0I hp hj;omega,h1,h2,h3,h4⟩
theorem MOk.pin_mem{w:WorldM}{n:Nat}(h:MOk w n):∀ p∈w.heap.pages,0≤p.pins∧p.pins≤n:=by
 intro p hp
 obtain⟨i,hi,e⟩:=List.mem_iff_getElem.1 hp
 have:=h.pins i hi
 rwa [show w.heap.pages.getD i default=p by rw[List.getD_eq_getElem?_getD,List.getElem?_eq_getElem hi,e];rfl]at this
theorem MOk.mono{w:WorldM}{n:Nat}(h:MOk w n):MOk w (n+1) :=
 ⟨h.words,h.hv,h.pl,h.L,fun j hj=>by have:=h.pins j hj;omega,h.us,h.strong,h.weak,by have:=h.sl;omega,by have:=h.wl;omega⟩
theorem Zdu{l:List Int}(h:ULe l){x:Int}(hx:0≤x∧x≤18446744073709551615):ULe (l++[x]):=by
 intro y hy
 simp only[List.mem_append,List.mem_singleton]at hy
 rcases hy with hy | rfl
 ·exact h y hy
 ·exact hx
theorem MOk.put{w:WorldM}{n:Nat}(h:MOk w n){hd:Header}(hm:0≤hd.map∧hd.map≤4294967295):MOk (w.put hd) (n+1):=by
 unfold WorldM.put
 split
 ·rename_i e
  obtain⟨k1,k2,k3,k4,k5,k6,k7,k8⟩:=Zdl h.words hm e
  have po:=Z09 k1
  have hl:=h.sl
  have hl2:=h.wl
  have z:=(Z4Y k2).2.1
  have a1:=k3.lo
  have a2:=k3.hi
  refine MOk.of_proper k7 k8 ?_ (Zdu h.strong (by rw[k5];omega)) h.weak (by simp;omega) (by simp only;omega)
  intro p hp
  simp only at hp
  rw[k6]at hp
  simp only at hp
  rcases k3.pin p hp with q | ⟨q,q1,q2⟩
  ·omega
  ·have:=h.pin_mem q q1;omega
 ·exact h.mono
theorem MOk.link{w:WorldM}{n:Nat}(h:MOk w n)(hn:n≤1000000)(t:Tape):MOk (w.link t) (n+1):=by
 unfold WorldM.link
 split
 ·rename_i hc
  have g:=Z3Y hc.1
  have hw:=h.wm hn
  have hlen:1≤(getH w.heap (w.pick t)).1.length:=by omega
  have n1:=Z0G (w.pickT (w.pickT t)) (n:=8) (by decide)
  have hi:0≤Z1J w t∧Z1J w t<(getH w.heap (w.pick t)).1.length:=by
   unfold Z1J
   rw[Int.tmod_eq_emod_of_nonneg n1.1]
   exact⟨Int.emod_nonneg _ (by omega),Int.emod_lt_of_pos _ (by omega)⟩
  have hv:0≤Z1L w t∧Z1L w t≤18446744073709551615:=by
   unfold Z1L
   split
   ·exact Z2P hw _
   ·have:=Z0G ((w.pickT (w.pickT t)).step 8) (n:=1048576) (by decide)
    omega
  obtain⟨s1,s2,s3⟩:=Z5J h.words hv hc.1 hi
  have hl:=h.sl
  have hl2:=h.wl
  refine MOk.of_proper s2 s3 ?_ h.strong h.weak (by simp only;omega) (by simp only;omega)
  intro p hp
  simp only at hp
  rw[s1]at hp
  have:=h.pin_mem p hp
  omega
 ·exact h.mono
theorem ZgU{w:WorldM}{n:Nat}(h:MOk w n){i:Nat}(hi:i<w.heap.pages.length){d:Int}(hd:d=1∨(d=-1∧0<(w.heap.pages.getD i default).pins)):MOk (pinB w i d) (n+1):=by
 have hp:=h.pins i hi
 refine⟨h.words,h.hv, ?_,h.L, ?_, ?_,h.strong,h.weak,by have:=h.sl;simp only[pinB];omega,by have:=h.wl;simp only[pinB];omega⟩
 ·simp only[pinB,List.length_set];exact h.pl
 ·intro j hj
  simp only[pinB,List.length_set]at hj ⊢
  rw[Z0q hi]
  split
  ·simp only;omega
  ·have:=h.pins j hj;omega
 ·intro j hj
  simp only[pinB,List.length_set]at hj ⊢
  rw[Z0q hi]
  split
  ·exact h.us i hi
  ·exact h.us j hj
theorem MOk.pin{w:WorldM}{n:Nat}(h:MOk w n)(t:Tape):MOk (w.pin t) (n+1):=by
 unfold WorldM.pin
 split
 ·rename_i e
  have o:=Z3w h.hv e
  have hpl:=h.pl
  have hi:pinI w t<w.heap.pages.length:=by unfold pinI;omega
  split
  ·rename_i hc
   exact ZgU h hi (Or.inr ⟨rfl,hc.1⟩)
  ·split
   ·exact ZgU h hi (Or.inl rfl)
   ·exact h.mono
 ·exact h.mono
theorem MOk.drop{w:WorldM}{n:Nat}(h:MOk w n)(t:Tape):MOk (w.drop t) (n+1):=by
 unfold WorldM.drop
 split
 ·have hl:=h.sl
  have hl2:=h.wl
  refine⟨h.words,h.hv,h.pl,h.L,fun j hj=>by have:=h.pins j hj;simp only;omega,h.us, ?_, ?_, ?_, ?_⟩
  ·intro x hx
   rcases List.mem_append.1 hx with hx | hx
   ·exact h.strong x (List.mem_of_mem_take hx)
   ·exact h.strong x (List.mem_of_mem_drop hx)
  ·simp only
   split
   ·exact Zdu h.weak (Z59 h.strong _)
   ·exact h.weak
  ·simp only[List.length_append,List.length_take,List.length_drop];omega
  ·simp only
   split
   ·simp;omega
   ·omega
 ·exact h.mono
theorem MOk.collect{w:WorldM}{n:Nat}(h:MOk w n):MOk w.collect (n+1):=by
 unfold WorldM.collect
 split
 ·rename_i e
  have c:=Z6t (B:=n) (by omega) h.words (fun p hp=>(h.pin_mem p hp).2) e
  have hl:=h.sl
  have hl2:=h.wl
  refine MOk.of_proper c.p1 c.w (fun p hp=>by have:=c.n p hp;omega) (fun x hx=>by have:=c.r x hx;omega) (fun x hx=>by have:=c.v x hx;omega) (by simp only[c.rl];omega) (by simp only[c.vl];omega)
 ·exact h.mono
theorem MOk.step{w:WorldM}{n:Nat}(h:MOk w n)(hn:n≤1000000)(t:Tape):MOk (w.step t) (n+1):=by
 unfold WorldM.step
 repeat' split
 ·exact h.put (Z51 _ _)
 ·exact h.link hn _
 ·exact h.pin _
 ·exact h.drop _
 ·exact h.collect
 ·have hl:=h.sl
  have hl2:=h.wl
  exact⟨h.words,h.hv,h.pl,h.L,fun j hj=>by have:=h.pins j hj;simp only[WorldM.dup]at *;omega,h.us,Zdu h.strong (Z2P (h.wm hn) _),h.weak,by simp only[WorldM.dup,List.length_append,List.length_singleton];omega,by simp only[WorldM.dup];omega⟩
theorem Z6O(w:WorldM)(t:Tape)(n:Nat)(hm:MOk w n)(hn:n≤1000000)(ht:TOk t)(ha:t.at'≤900000):LentSpec Tryz.prog 31 [w.av,.pt 0 0 0] [t.b] (w.step t).av [(w.stepT t).b] :=
 ZfZ w t n hm hn ht ha
structure TUp (n:Int) (t u:Tape):Prop where
 l:u.l=t.l
 lo:t.at'≤u.at'
 hi:u.at'≤t.at'+n
theorem TUp.step(t:Tape)(n:Int):TUp 1 t (t.step n):=by
 have:=Z3B (t:=t) n
 exact⟨this.2.2,this.1,this.2.1⟩
theorem TUp.trans{m n:Int}{t u v:Tape}(h1:TUp m t u)(h2:TUp n u v):TUp (m+n) t v :=
 ⟨h2.l.trans h1.l,by have:=h1.lo;have:=h2.lo;omega,by have:=h1.hi;have:=h2.hi;omega⟩
theorem TUp.mono{m n:Int}{t u:Tape}(h:TUp m t u)(hmn:m≤n):TUp n t u:=⟨h.l,h.lo,by have:=h.hi;omega⟩
theorem Zfd(t:Tape)(c:Conf):TUp 10 t (t.headerT c):=by
 have h1:TUp 4 t (Z1G t c):=by
  unfold Z1G
  split
  ·exact(((TUp.step t _).trans (TUp.step _ 12)).trans (TUp.step _ _)).mono (by decide)
  ·exact((TUp.step t _).trans (TUp.step _ 12)).mono (by decide)
 unfold Tape.headerT
 repeat' split
 ·exact(h1.trans (TUp.step _ 4)).mono (by decide)
 ·exact(h1.trans (TUp.step _ 4)).mono (by decide)
 ·exact((h1.trans (TUp.step _ 4)).trans (TUp.step _ _)).mono (by decide)
theorem ZhV(w:WorldM)(t:Tape):TUp 10 t (w.linkT t):=by
 have h1:TUp 1 t (w.pickT t):=TUp.step _ _
 have h2:TUp 1 (w.pickT t) (w.pickT (w.pickT t)):=TUp.step _ _
 unfold WorldM.linkT
 split
 ·exact((((h1.trans h2).trans (TUp.step _ 8))).trans (TUp.step _ _)).mono (by decide)
 ·exact((h1.trans h2).trans (TUp.step _ 8)).mono (by decide)
theorem Zjf(w:WorldM)(t:Tape):(w.stepT t).l=t.l∧t.at'+1≤(w.stepT t).at'∧(w.stepT t).at'≤t.at'+20:=by
 have h0:(t.step 12).at'=t.at'+1∧(t.step 12).l=t.l:=by simp[Tape.step]
 have key:TUp 10 (t.step 12) (w.stepT t):=by
  unfold WorldM.stepT
  repeat' split
  ·exact Zfd _ _
  ·exact ZhV _ _
  ·unfold WorldM.pinT
   split
   ·exact((TUp.step _ _).trans (TUp.step _ 2)).mono (by decide)
   ·exact(TUp.step _ _).mono (by decide)
  ·unfold WorldM.dropT
   split
   ·exact((TUp.step _ _).trans (TUp.step _ 3)).mono (by decide)
   ·exact⟨rfl,by omega,by omega⟩
  ·exact⟨rfl,by omega,by omega⟩
  ·exact(TUp.step _ _).mono (by decide)
 have a:=key.l
 have b:=key.lo
 have c:=key.hi
 exact⟨a.trans h0.2,by omega,by omega⟩
def mkS(w:WorldM)(t:Tape):Nat→WorldM×Tape
 | 0=>(w,t)
 | k+1=>((mkS w t k).1.step (mkS w t k).2,(mkS w t k).1.stepT (mkS w t k).2)
def mkB(w:WorldM)(t:Tape)(k:Nat):Bool:=decide (((mkS w t k).2.l.length:Int)≤(mkS w t k).2.at')
def mkN(w:WorldM)(t:Tape):Nat:=((List.range (2+t.l.length)).find? (mkB w t)).getD 0
def Zd4(w:WorldM)(t:Tape):WorldM:=(mkS w t (mkN w t)).1
theorem ZdS(w:WorldM)(t:Tape):∀ k:Nat,(mkS w t k).2.l=t.l∧t.at'+k≤(mkS w t k).2.at'∧(mkS w t k).2.at'≤t.at'+20*k
 | 0=>by simp[mkS]
 | k+1=>by
  have ih:=ZdS w t k
  have:=Zjf (mkS w t k).1 (mkS w t k).2
  refine⟨this.1.trans ih.1, ?_, ?_⟩
  ·simp only[mkS];omega
  ·simp only[mkS];omega
theorem Z90{w:WorldM}{n:Nat}(h:MOk w n)(t:Tape):∀ k,n+k≤1000000→MOk (mkS w t k).1 (n+k)
 | 0,_=>h
 | k+1,hk=>(Z90 h t k (by omega)).step (by omega) _
theorem Ze0(w:WorldM)(t:Tape)(ht:0≤t.at'):mkB w t (mkN w t)=true∧(∀ j,j<mkN w t→mkB w t j=false)∧mkN w t≤t.l.length+1:=by
 cases hb:(List.range (2+t.l.length)).find? (mkB w t)with
 | none =>
  exfalso
  have:=List.find?_eq_none.1 hb t.l.length (List.mem_range.2 (by omega))
  have u:=ZdS w t t.l.length
  simp only[mkB,decide_eq_true_eq,u.1]at this
  omega
 | some k =>
  obtain⟨h1,h2,h3⟩:=List.find?_range_eq_some.1 hb
  have h2:=List.mem_range.1 h2
  have e:mkN w t=k:=by rw[mkN,hb];rfl
  rw[e]
  exact⟨h1,fun j hj=>by simpa using h3 j hj,by omega⟩
def mkLA(w:WorldM)(t:Tape):Tg:=⟨tm 22 [(2,.pt 8002 0 0),(3,.pt 32012 0 0),(4,.pt 40004 0 0)],[(40004,.box 30 w.cells),(32012,t.b),(8002,.box 30 [int 0,int 0,.d (.sl 0 []),.d (.sl 0 []),int 0,int 0,.d (.sl 0 []),.d (.sl 0 [])])],60⟩
theorem ZiR(w:WorldM)(t:Tape)(n:Nat)(hm:MOk w n)(hn:n≤1000000)(ht:TOk t)(ha:t.at'≤900000)(hd:t.at'<t.l.length):CSpec Tryz.prog (rndF Tryz.f8 0) (mkLA w t).st .nrm (mkLA (w.step t) (w.stepT t)).st:=by
 exact sF [] [] (Fp 16 (@Z7i t ‹_›) (Ftb 17 (!decide ((↑t.l.length:Int)≤t.at')) (Fp 20 (@Z6O w t n ‹_› ‹_› ‹_› ‹_›) Fz)))
theorem ZlH(w:WorldM)(t:Tape)(ht:TOk t)(hd:¬ t.at'<t.l.length):CSpec Tryz.prog (rndF Tryz.f8 0) (mkLA w t).st (.ext 0) (Tg.st ⟨tm 22 [(2,.pt 8002 0 0),(4,.pt 40004 0 0)],[(40004,.box 30 w.cells),(8002,.box 30 [int 0,int 0,.d (.sl 0 []),.d (.sl 0 []),int 0,int 0,.d (.sl 0 []),.d (.sl 0 [])])],60⟩):=by
 exact sF [] [] (Fp 16 (@Z7i t ‹_›) (Ffb 17 (!decide ((↑t.l.length:Int)≤t.at')) Fz))
theorem Zlp(w:WorldM)(t:Tape)(hm:MOk w 0)(hl:t.l.length≤300)(h0:0≤t.at')(h1:t.at'≤1000):CSpec Tryz.prog (blkF Tryz.f8 0) (Tg.st ⟨tm 22 [(2,.pt 8002 0 0),(3,.pt 32012 0 0),(4,.pt 40004 0 0)],[(40004,.box 30 w.cells),(32012,t.b),(8002,.box 30 [int 0,int 0,.d (.sl 0 []),.d (.sl 0 []),int 0,int 0,.d (.sl 0 []),.d (.sl 0 [])])],60⟩) .nrm (Tg.st ⟨tm 22 [(2,.pt 8002 0 0),(4,.pt 40004 0 0)],[(40004,.box 30 (Zd4 w t).cells),(8002,.box 30 [int 0,int 0,.d (.sl 0 []),.d (.sl 0 []),int 0,int 0,.d (.sl 0 []),.d (.sl 0 [])])],60⟩):=by
 have hk:=Ze0 w t h0
 have tok:∀ k,k≤mkN w t→TOk (mkS w t k).2∧(mkS w t k).2.at'≤900000:=fun k hk'=>by
  have u:=ZdS w t k
  refine⟨?_,by omega⟩
  unfold TOk
  rw[u.1]
  omega
 refine Z0c (S:=fun k=>(mkLA (mkS w t k).1 (mkS w t k).2).st) (mkN w t) (by kernel_rfl) (fun k hk'=>?_) ?_
 ·have hs:=hk.2.1 k hk'
  simp only[mkB,decide_eq_false_iff_not]at hs
  have m:=Z90 hm t k (by omega)
  exact ZiR _ _ (0+k) m (by omega) (tok k (by omega)).1 (tok k (by omega)).2 (by omega)
 ·have hs:=hk.1
  simp only[mkB,decide_eq_true_eq]at hs
  exact ZlH _ _ (tok _ (Nat.le_refl _)).1 (by omega)
def mkLB(w:WorldM)(t:Tape):Tg:=⟨tm 22 [(2,.pt 8002 0 0),(3,.pt 24012 0 0),(4,.pt 32004 0 0)],[(32004,.box 30 w.cells),(24012,t.b),(8002,.box 30 [int 0,int 0,.d (.sl 0 []),.d (.sl 0 []),int 0,int 0,.d (.sl 0 []),.d (.sl 0 [])])],60⟩
theorem Zjk(w:WorldM)(t:Tape)(n:Nat)(hm:MOk w n)(hn:n≤1000000)(ht:TOk t)(ha:t.at'≤900000)(hd:t.at'<t.l.length):CSpec Tryz.prog (rndF Tryz.f8 0) (mkLB w t).st .nrm (mkLB (w.step t) (w.stepT t)).st:=by
 exact sF [] [] (Fp 16 (@Z7i t ‹_›) (Ftb 17 (!decide ((↑t.l.length:Int)≤t.at')) (Fp 20 (@Z6O w t n ‹_› ‹_› ‹_› ‹_›) Fz)))
theorem ZlY(w:WorldM)(t:Tape)(ht:TOk t)(hd:¬ t.at'<t.l.length):CSpec Tryz.prog (rndF Tryz.f8 0) (mkLB w t).st (.ext 0) (Tg.st ⟨tm 22 [(2,.pt 8002 0 0),(4,.pt 32004 0 0)],[(32004,.box 30 w.cells),(8002,.box 30 [int 0,int 0,.d (.sl 0 []),.d (.sl 0 []),int 0,int 0,.d (.sl 0 []),.d (.sl 0 [])])],60⟩):=by
 exact sF [] [] (Fp 16 (@Z7i t ‹_›) (Ffb 17 (!decide ((↑t.l.length:Int)≤t.at')) Fz))
theorem Zlw(w:WorldM)(t:Tape)(hm:MOk w 0)(hl:t.l.length≤300)(h0:0≤t.at')(h1:t.at'≤1000):CSpec Tryz.prog (blkF Tryz.f8 0) (Tg.st ⟨tm 22 [(2,.pt 8002 0 0),(3,.pt 24012 0 0),(4,.pt 32004 0 0)],[(32004,.box 30 w.cells),(24012,t.b),(8002,.box 30 [int 0,int 0,.d (.sl 0 []),.d (.sl 0 []),int 0,int 0,.d (.sl 0 []),.d (.sl 0 [])])],60⟩) .nrm (Tg.st ⟨tm 22 [(2,.pt 8002 0 0),(4,.pt 32004 0 0)],[(32004,.box 30 (Zd4 w t).cells),(8002,.box 30 [int 0,int 0,.d (.sl 0 []),.d (.sl 0 []),int 0,int 0,.d (.sl 0 []),.d (.sl 0 [])])],60⟩):=by
 have hk:=Ze0 w t h0
 have tok:∀ k,k≤mkN w t→TOk (mkS w t k).2∧(mkS w t k).2.at'≤900000:=fun k hk'=>by
  have u:=ZdS w t k
  refine⟨?_,by omega⟩
  unfold TOk
  rw[u.1]
  omega
 refine Z0c (S:=fun k=>(mkLB (mkS w t k).1 (mkS w t k).2).st) (mkN w t) (by kernel_rfl) (fun k hk'=>?_) ?_
 ·have hs:=hk.2.1 k hk'
  simp only[mkB,decide_eq_false_iff_not]at hs
  have m:=Z90 hm t k (by omega)
  exact Zjk _ _ (0+k) m (by omega) (tok k (by omega)).1 (tok k (by omega)).2 (by omega)
 ·have hs:=hk.1
  simp only[mkB,decide_eq_true_eq]at hs
  exact ZlY _ _ (tok _ (Nat.le_refl _)).1 (by omega)
def Z3k(l:List Int):Tape:=⟨l.take 300,0⟩
def Z04(l:List Int):WorldM:=Zd4 (Z3k l).empty (((Z3k l).step 4).step 5)
theorem Z9T(t:Tape):MOk t.empty 0:=by
 have hv:=Z2B t
 have hb:=validB_iff.1 hv
 refine⟨?_,hv, ?_, ?_, ?_, ?_, ?_, ?_,by simp[Tape.empty],by simp[Tape.empty]⟩
 ·intro x hx
  simp only[Tape.empty,Z2S,List.mem_replicate]at hx
  omega
 ·simp only[Tape.empty,Z2S,List.length_replicate];omega
 ·have:=area hv
  simp only[Tape.empty,Z2S,List.length_replicate];omega
 ·intro j hj
  simp only[Tape.empty,Z2S,List.length_replicate]at hj ⊢
  have:(List.replicate t.conf.pg.toNat (⟨0,0,0,0⟩:Page)).getD j default=⟨0,0,0,0⟩:=by simp[List.getD_eq_getElem?_getD,hj]
  rw[this];simp
 ·intro j hj
  simp only[Tape.empty,Z2S,List.length_replicate]at hj ⊢
  have:(List.replicate t.conf.pg.toNat (⟨0,0,0,0⟩:Page)).getD j default=⟨0,0,0,0⟩:=by simp[List.getD_eq_getElem?_getD,hj]
  rw[this];simp
 ·intro x hx;simp[Tape.empty]at hx
 ·intro x hx;simp[Tape.empty]at hx
theorem Z6u(l:List Int):(((Z3k l).step 4).step 5).l=l.take 300∧(((Z3k l).step 4).step 5).at'=2:=by simp[Z3k,Tape.step]
theorem Zjx(l:List Int):MOk (Z04 l) 1000:=by
 have e:=Z6u l
 have hl:(((Z3k l).step 4).step 5).l.length≤300:=by rw[e.1];simp;omega
 have hk:=Ze0 (Z3k l).empty (((Z3k l).step 4).step 5) (by omega)
 have m:=Z90 (Z9T (Z3k l)) (((Z3k l).step 4).step 5) (mkN (Z3k l).empty (((Z3k l).step 4).step 5)) (by omega)
 have h2:∀ (w:WorldM) (a b:Nat),MOk w a→a≤b→MOk w b:=fun w a b h hab =>
  ⟨h.words,h.hv,h.pl,h.L,fun j hj=>by have:=h.pins j hj;omega,h.us,h.strong,h.weak,by have:=h.sl;omega,by have:=h.wl;omega⟩
 exact h2 _ _ _ m (by omega)
theorem Za5(l:List Int)(hl:l.length≤140737488355328):GSpec Tryz.prog 8 [Z0T l] false (Z04 l).av []:=by
 have e:=Z6u l
 have he:=Z9T (Z3k l)
 have h1:(((Z3k l).step 4).step 5).l.length≤300:=by rw[e.1];simp;omega
 have h2:=e.2
 by_cases h:300<l.length
 ·have ht:TOk ⟨List.take (Int.toNat 300) l,0⟩:=by simp[TOk];omega
  have e9:Z3k l=⟨List.take (Int.toNat 300) l,0⟩:=rfl
  unfold Z04
  rw[e9]at he h1 h2 ⊢
  exact gF [] Tryz.func8 [] (Fh 9 [.els (List.map idv (List.take (Int.toNat 300) l))] (Fl 6 idv l (Ftb 7 (decide (300<(↑l.length:Int))) (Fa (by(simp only[List.length_map];omega):(0:Int)≤(300:Int)∧300≤(↑(List.map idv l).length:Int)) (Fa (by simp[List.map_take,List.map_drop,List.map_set,List.map_append,wdv,idv]:List.take (Int.toNat 300) (List.map idv l)=List.map idv (List.take (Int.toNat 300) l)) (Fp 14 (@ZbG (Tape.mk (List.take (Int.toNat 300) l) 0) ‹_› (by(simp only[bs];omega))) (Fu (@Zlp ((Tape.mk (List.take (Int.toNat 300) l) 0).empty) (((Tape.mk (List.take (Int.toNat 300) l) 0).step 4).step 5) ‹_› ‹_› (by omega) (by omega)) Fz)))))))
 ·have ht:TOk ⟨l,0⟩:=by simp[TOk];omega
  have e9:Z3k l=⟨l,0⟩:=by rw[Z3k,List.take_of_length_le (by omega)]
  unfold Z04
  rw[e9]at he h1 h2 ⊢
  exact gF [] Tryz.func8 [] (Fl 6 idv l (Ffb 7 (decide (300<(↑l.length:Int))) (Fp 14 (@ZbG (Tape.mk l 0) ‹_› (by(simp only[bs];omega))) (Fu (@Zlw ((Tape.mk l 0).empty) (((Tape.mk l 0).step 4).step 5) ‹_› ‹_› (by omega) (by omega)) Fz))))
def pgOf(w:Work)(x:Int):Page:=w.heap.pages.getD (ofA w.heap.conf x).1.toNat default
structure Rt (w:Work):Prop where
 q:∀ x∈w.queue,((pgOf w x).kind=1∨(pgOf w x).kind=2)∧(pgOf w x).space=1-w.heap.space
 t:∀ x∈w.old,(Z0p (loadA w.heap.words x).1).2=true→(Z0p (loadA w.heap.words x).1).1∈w.queue
theorem Z9C{a:Int}(h0:0≤a)(h1:a<4294967296):Z0p (4*a+2)=(a,true):=by
 have e:(4*a+2)/4=a:=by omega
 rw[Z0p,if_pos (by omega),e]
theorem Rt.copy{B:Int}{w:Work}(hw:WkOk w)(h:Inv w)(hT:Tab B w)(hR:Rt w){r n:Int}(hr:r∈w.old)(hq:r∉w.queue)(hn:n=hlA w.heap.words r+1)(hp:n≤w.heap.conf.pw)(hc:(w.place n).2.2=true):Rt ((w.place n).1.copy r (w.place n).2.1 n):=by
 have hlr:=Z0d w.heap.words r
 obtain⟨i,p,t,h1,h2,h3,h4,h5,h6,h7,h8,e⟩:=Z52 hw ⟨by omega,hp⟩ hc
 have hsp:p.space=1-w.heap.space:=by
  by_cases hf:Z4r w n
  ·have e7:w.place n=(⟨⟨w.heap.conf,w.heap.words,Z21 w.heap.pages (Z0R w).toNat n,w.heap.space,w.heap.bump⟩,w.old,w.taken,w.queue,w.scanned,w.rep⟩,4096+Z0R w*w.heap.conf.pw+(w.heap.pages.getD (Z0R w).toNat default).used,true):=by rw[Work.place,if_pos hf]
   unfold Z4r at hf
   have hm:=hw.tk _ (Z1x hf.1)
   have ht:=hT.tk _ (Z1x hf.1)
   have hi:(Z0R w).toNat<w.heap.pages.length:=by omega
   rw[e7]at e
   simp only[Z3x,Work.mk.injEq,Heap.mk.injEq]at e
   have e2:=e.1.2.2.1
   have g1:(w.heap.pages.set i p).getD i default=p:=by rw[Z0q h1,if_pos rfl]
   rw[← e2,Z0q hi]at g1
   split at g1
   ·rw[← g1];exact ht
   ·rename_i hne
    have g2:(w.heap.pages.set i p).getD (Z0R w).toNat default=w.heap.pages.getD (Z0R w).toNat default:=by rw[Z0q h1,if_neg (fun q=>hne q.symm)]
    rw[← e2,Z0q hi,if_pos rfl]at g2
    have:=congrArg Page.used g2
    simp only at this
    omega
  ·by_cases hg:0≤Z0t w
   ·have e7:w.place n=(⟨⟨w.heap.conf,w.heap.words,Z21 (Z2w w) (Z0t w).toNat n,w.heap.space,w.heap.bump⟩,w.old,w.taken++[Z0t w],w.queue,w.scanned,w.rep⟩,4096+Z0t w*w.heap.conf.pw,true):=by rw[Work.place,if_neg hf,if_pos hg]
    obtain⟨g1,g2,g3⟩:=Z3b (h:=⟨w.heap.conf,w.heap.words,w.heap.pages,1-w.heap.space,w.heap.bump⟩) (by have:=hw.sp;simp only;omega) hg n
    have g1':Z21 (Z2w w) (Z0t w).toNat n=w.heap.pages.set (Z0t w).toNat ⟨1,1-w.heap.space,n,0⟩:=g1
    have g2':(w.heap.pages.getD (Z0t w).toNat default).kind=0:=g2
    have g3':(Z0t w).toNat<w.heap.pages.length:=g3
    rw[e7,g1']at e
    simp only[Work.mk.injEq,Heap.mk.injEq]at e
    have e2:=e.1.2.2.1
    have k1:(w.heap.pages.set i p).getD i default=p:=by rw[Z0q h1,if_pos rfl]
    rw[← e2,Z0q g3']at k1
    split at k1
    ·rw[← k1]
    ·rename_i hne
     have k2:(w.heap.pages.set i p).getD (Z0t w).toNat default=w.heap.pages.getD (Z0t w).toNat default:=by rw[Z0q h1,if_neg (fun q=>hne q.symm)]
     rw[← e2,Z0q g3',if_pos rfl]at k2
     rw[← k2]at g2'
     simp at g2'
   ·rw[Work.place,if_neg hf,if_neg hg]at hc
    simp at hc
 have hb:=validB_iff.1 hw.conf
 have hpl:=hw.pl
 have hL:=h.L
 have hio:(i:Int)*w.heap.conf.pw+w.heap.conf.pw≤w.heap.conf.pw*w.heap.conf.pg:=by
  have:=Z14 (i:=i) (j:=w.heap.conf.pg) (pw:=w.heap.conf.pw) (by omega) (by omega)
  rw[Int.mul_comm w.heap.conf.pw];exact this
 have hi0:0≤(i:Int)*w.heap.conf.pw:=Int.mul_nonneg (by omega) (by omega)
 have har:=area hw.conf
 rw[e,h8]
 generalize hu:occP (w.heap.pages.getD i default)=u at *
 have hof:(ofA w.heap.conf (4096+(i:Int)*w.heap.conf.pw+u)).1.toNat=i:=by
  have:=Z7s (c:=w.heap.conf) (i:=i) (o:=u) hw.conf (by omega) (by omega)
  rw[show 4096+(i:Int)*w.heap.conf.pw+u=4096+((i:Int)*w.heap.conf.pw+u) by omega,this]
  simp
 generalize ha:4096+(i:Int)*w.heap.conf.pw+u=at' at *
 have hrr:=h.r r (List.mem_append_left _ hr)
 have hf:=h.f i h1 (by rcases h2 with h2 | h2;exact Or.inl h2;exact Or.inr h2.1)
 rw[hu]at hf
 obtain⟨m1,m2,m3⟩:=Z7N (ws:=w.heap.words) (a:=at') (b:=r) (n:=n) (by omega) (by omega) (by omega)
 have hsr:4096≤r∧r<4096+(moveA w.heap.words at' r n).1.length:=by omega
 refine⟨?_, ?_⟩
 ·intro x hx
  simp only[Work.copy,List.mem_append,List.mem_singleton]at hx
  simp only[pgOf,Work.copy]
  rw[Z0q h1]
  split
  ·exact⟨Or.inl h3,hsp⟩
  ·rename_i hne
   rcases hx with hx | rfl
   ·exact hR.q x hx
   ·exact absurd hof.symm hne
 ·intro x hx ht
  simp only[Work.copy]at hx ht ⊢
  by_cases hxr:x=r
  ·subst hxr
   rw[Z2x hsr]at ht ⊢
   simp only
   rw[Z9C (by omega) (by omega)]
   simp
  ·have hfx:=hf x (List.mem_append_left _ hx)
   have hlx:=Z0d w.heap.words x
   have el:loadA (Z0E (moveA w.heap.words at' r n).1 r (4*at'+2)).1 x=loadA w.heap.words x:=by rw[Z0C hsr hxr,m3 x (by omega)]
   rw[el]at ht ⊢
   exact List.mem_append_left _ (hR.t x hx ht)
structure PR (B:Int) (w:Work):Prop where
 tab:Tab B w
 rt:Rt w
def ToOk(w:Work)(x:Int):Prop:=x=0∨x∈w.queue
theorem ZjU{B:Int}(w:Work)(r:Int)(hp:PR B w)(e:(w.fwd r).2.2=0):ToOk (w.fwd r).1 (w.fwd r).2.1:=by
 unfold Work.fwd at e ⊢
 split at e
 ·rename_i c1
  rw[if_pos c1]
  exact c1
 ·rename_i c1
  rw[if_neg c1]
  split at e
  ·simp at e
  ·rename_i c2
   rw[if_neg c2]
   have c2':r∈w.old:=Decidable.not_not.1 c2
   split at e
   ·rename_i c3
    rw[if_pos c3]
    exact Or.inr (hp.rt.t r c2' c3)
   ·rename_i c3
    rw[if_neg c3]
    split at e
    ·simp at e
    ·rename_i c4
     rw[if_neg c4]
     split at e
     ·rename_i c5
      rw[if_pos c5]
      exact Or.inr (List.mem_append_right _ (by simp))
     ·rename_i c5
      rw[if_neg c5]
      split at e
      ·rename_i c6
       rw[if_pos c6]
       exact Or.inr (List.mem_append_right _ (by simp))
      ·rename_i c6
       rw[if_neg c6]
       split at e
       ·simp at e
       ·rename_i c7
        rw[if_neg c7]
        exact Or.inr (List.mem_append_right _ (by simp))
theorem PR.fwd{B:Int}(hB:0≤B)(w:Work)(r:Int)(hw:WkOk w)(hi:Inv w)(h:PR B w)(e:(w.fwd r).2.2=0):PR B (w.fwd r).1:=by
 refine⟨h.tab.fwd hB w r hw hi e, ?_⟩
 have hR:=h.rt
 have hsp:=hw.sp
 unfold Work.fwd at e ⊢
 split at e
 ·rename_i c1
  rw[if_pos c1]
  exact hR
 ·rename_i c1
  rw[if_neg c1]
  have c1':r∉w.queue:=fun h=>c1 (Or.inr h)
  split at e
  ·simp at e
  ·rename_i c2
   rw[if_neg c2]
   have c2':r∈w.old:=Decidable.not_not.1 c2
   split at e
   ·rename_i c3
    rw[if_pos c3]
    exact hR
   ·rename_i c3
    rw[if_neg c3]
    split at e
    ·simp at e
    ·rename_i c4
     rw[if_neg c4]
     have o:=Z3w hw.conf (Decidable.not_not.1 c4)
     have hpl:=hw.pl
     split at e
     ·rename_i c5
      rw[if_pos c5]
      simp only[Z1h,decide_eq_true_eq]at c5
      have ok:=h.tab.pt.b (ofA w.heap.conf r).1.toNat (by omega)
      have oks:=ok.s
      refine⟨?_,fun x hx ht=>List.mem_append_left _ (hR.t x hx ht)⟩
      intro x hx
      simp only[Work.keep,List.mem_append,List.mem_singleton]at hx
      rcases hx with hx | rfl
      ·exact hR.q x hx
      ·refine⟨Or.inl c5.2.2.1, ?_⟩
       simp only[pgOf,Work.keep]
       omega
     ·rename_i c5
      rw[if_neg c5]
      split at e
      ·rename_i c6
       rw[if_pos c6]
       refine⟨?_,fun x hx ht=>List.mem_append_left _ (hR.t x hx ht)⟩
       have hlr:(ofA w.heap.conf r).1.toNat<w.heap.pages.length:=by omega
       intro x hx
       simp only[Work.keep,List.mem_append,List.mem_singleton]at hx
       have hxl:(ofA w.heap.conf x).1.toNat<w.heap.pages.length:=by
        rcases hx with hx | rfl
        ·by_cases q:(ofA w.heap.conf x).1.toNat<w.heap.pages.length
         ·exact q
         ·have:=(hR.q x hx).1
          rw[pgOf,List.getD_eq_getElem?_getD,List.getElem?_eq_none (by omega)]at this
          simp only[Option.getD_none]at this
          have d:(default:Page).kind=0:=rfl
          omega
        ·exact hlr
       simp only[pgOf,Work.keep,Work.flip]
       rw[Z1w hxl]
       split
       ·refine⟨?_,rfl⟩
        rcases hx with hx | rfl
        ·exact(hR.q x hx).1
        ·exact Or.inr c6
       ·rename_i hne
        rcases hx with hx | rfl
        ·exact hR.q x hx
        ·exact absurd ⟨Nat.le_refl _,Nat.le_add_right _ _⟩ hne
      ·rename_i c6
       rw[if_neg c6]
       split at e
       ·simp at e
       ·rename_i c7
        rw[if_neg c7]
        have c7':(w.place (sizeH (hdW w r))).2.2=true:=by simpa using c7
        have hz:=hi.z r c2'
        have hp:sizeH (hdW w r)≤w.heap.conf.pw:=by
         rw[Z3f]
         rcases hz with hz | hz
         ·exact absurd hz c6
         ·exact hz
        exact hR.copy hw hi h.tab c2' c1' (Z3f w r) hp c7'
theorem PR.in1{B:Int}(hB:0≤B)(w:Work)(q j:Int)(hw:WkOk w)(hi:Inv w)(h:PR B w)(hq:q∈w.queue)(h0:0≤j)(h1:j<hlA w.heap.words q)(e:(w.fwd (loadA w.heap.words (q+1+j)).1).2.2=0):PR B (w.in1 (q+1+j)):=by
 have hf:=PR.fwd hB w _ hw hi h e
 obtain⟨i1,x1⟩:=Z6q hw hi _ e
 have hq1:=x1.q q hq
 have hl1:=x1.l q hq
 have hr:=i1.r q (List.mem_append_right _ hq1)
 have hs:=i1.s q (List.mem_append_right _ hq1)
 have hin:4096≤q+1+j∧q+1+j<4096+(w.fwd (loadA w.heap.words (q+1+j)).1).1.heap.words.length:=by omega
 refine⟨hf.tab.withWords _,hf.rt.q,fun x hx ht=>?_⟩
 have el:loadA (Z0E (w.fwd (loadA w.heap.words (q+1+j)).1).1.heap.words (q+1+j) (w.fwd (loadA w.heap.words (q+1+j)).1).2.1).1 x=loadA (w.fwd (loadA w.heap.words (q+1+j)).1).1.heap.words x:=by
  refine Z0C hin fun hc=>?_
  have:=hs x (List.mem_append_left _ hx) (by omega)
  omega
 simp only[Work.in1]at hx ht ⊢
 rw[el]at ht ⊢
 exact hf.rt.t x hx ht
theorem Z75{h:Heap}(hp:Z03 h=true):Rt (beginW h):=by
 refine⟨by simp[beginW],fun x hx ht=>?_⟩
 exfalso
 simp only[beginW]at hx ht
 obtain⟨j,j1,o⟩:=(Z7S hp).1 x hx
 have e:=o.at'
 have k:=Ze3 e
 unfold atH at e
 rw[if_pos k.1,if_pos k.2.1]at e
 split at e
 ·rename_i g
  have hd:=g.2.2
  unfold decodeH at hd
  split at hd
  ·rename_i c
   have c1:=c.1
   have c2:=c.2
   unfold Z06 at c1 c2
   split at c2
   ·unfold Z0p at ht
    split at ht
    ·simp only at c2;omega
    ·simp at ht
   ·rename_i hv;rw[if_neg hv]at c1;simp at c1
  ·simp at hd
 ·simp at e
theorem Zk6{B:Int}(hB:0≤B){h:Heap}{s:List Int}(hw:WOk h.words)(hp:Z03 h=true)(hb:∀ p∈h.pages,p.pins≤B)(e:(rootsF (beginW h) s).2.2=0)(e2:(allF (rootsF (beginW h) s).1).2=0):PR B (cW2 h s) :=
 Zl0 (PR B) (fun w r hw hi h e=>PR.fwd hB w r hw hi h e) (fun w q j hw hi h hq h0 h1 e=>PR.in1 hB w q j hw hi h hq h0 h1 e) (fun w n h=>⟨⟨h.tab.pt,h.tab.tk,h.tab.pin⟩,h.rt.q,h.rt.t⟩) hw hp ⟨Z4s hp hb,Z75 hp⟩ e e2
theorem Z8s{B:Int}(hB:0≤B){w:Work}{roots:List Int}(hw:WkOk w)(h:Inv w)(hp:PR B w):∀ k,(∀ j,j<k→Z29 w roots j=0)→∀ x∈(Z1o w roots k).2,ToOk (Z1o w roots k).1 x
 | 0,_,x,hx=>by simp[Z1o]at hx
 | k+1,hh,x,hx=>by
  have ih:=Z8s hB (roots:=roots) hw h hp k (fun j hj=>hh j (by omega))
  have ok:=(Z2Y (roots:=roots) hw k (fun j hj=>hh j (by omega))).1
  have iv:=(Z57 (roots:=roots) hw h k (fun j hj=>hh j (by omega))).1
  have pr:=Zac (PR B) (fun w r hw hi h e=>PR.fwd hB w r hw hi h e) (roots:=roots) hw h hp k (fun j hj=>hh j (by omega))
  have he:=hh k (by omega)
  simp only[Z1o,List.mem_append,List.mem_singleton]at hx ⊢
  rcases hx with hx | rfl
  ·rcases ih x hx with q | q
   ·exact Or.inl q
   ·exact Or.inr ((Z6q ok iv _ he).2.q x q)
  ·exact ZjU _ _ pr he
def RootOn(h:Heap)(r:Int):Prop:=(ofA h.conf r).2.2=0→(h.pages.getD (ofA h.conf r).1.toNat default).kind=1∨(h.pages.getD (ofA h.conf r).1.toNat default).kind=2
structure POk (w:WorldM):Prop where
 p:Z03 w.heap=true
 s:∀ r∈w.strong,RootOn w.heap r
 k:∀ r∈w.weak,RootOn w.heap r
theorem ZlF(h:Heap):RootOn h 0:=by
 intro e
 exfalso
 unfold ofA at e
 split at e
 ·split at e
  ·omega
  ·simp at e
 ·simp at e
theorem ZcD{h:Heap}{n:Int}(hp:Z03 h=true)(hn:1≤n∧n≤h.conf.pw)(e:(Z0e h n).2.2=true):(∀ j:Nat,(h.pages.getD j default).kind≠0→((Z0e h n).1.pages.getD j default).kind=(h.pages.getD j default).kind)∧RootOn (Z0e h n).1 (Z0e h n).2.1:=by
 have hp':=hp
 rw[Z1d]at hp
 obtain⟨p1,p2,p3,p4,p5,p6⟩:=hp
 have hb:=validB_iff.1 p1
 by_cases hf:Z5X h n
 ·have e7:Z0e h n=(⟨h.conf,h.words,Z21 h.pages h.bump.toNat n,h.space,h.bump⟩,4096+h.bump*h.conf.pw+(h.pages.getD h.bump.toNat default).used,true):=by rw[Z0e,if_pos hf]
  unfold Z5X at hf
  have hbi:h.bump.toNat<h.pages.length:=by omega
  have hk:(h.pages.getD h.bump.toNat default).kind=1:=by omega
  have u:=(p6.b h.bump.toNat hbi).k1 hk
  rw[e7]
  refine⟨fun j hj=>?_,fun _=>?_⟩
  ·simp only[Z3x]
   rw[Z0q hbi]
   split
   ·rename_i q;subst q;rfl
   ·rfl
  ·have:=Z7s (c:=h.conf) (i:=h.bump) (o:=(h.pages.getD h.bump.toNat default).used) p1 (by omega) (by omega)
   simp only[Z3x]
   rw[show 4096+h.bump*h.conf.pw+(h.pages.getD h.bump.toNat default).used=4096+(h.bump*h.conf.pw+(h.pages.getD h.bump.toNat default).used) by omega,this]
   simp only
   rw[Z0q hbi,if_pos rfl]
   exact Or.inl hk
 ·by_cases hg:0≤first h.pages 1∧(Z1e h.pages:Int)<Z22 h.conf
  ·have e7:Z0e h n=(⟨h.conf,h.words,Z21 (Z2D h) (first h.pages 1).toNat n,h.space,first h.pages 1⟩,4096+first h.pages 1*h.conf.pw+((Z2D h).getD (first h.pages 1).toNat default).used,true):=by rw[Z0e,if_neg hf,if_pos hg]
   obtain⟨g1,g2,g3⟩:=Z3b p4 hg.1 n
   have g4:=congrArg Page.used (Z2y p4 hg.1).2.2.2
   simp only at g4
   rw[e7,g1,g4]
   refine⟨fun j hj=>?_,fun _=>?_⟩
   ·simp only
    rw[Z0q g3]
    split
    ·rename_i q;subst q;exact absurd g2 hj
    ·rfl
   ·have:=Z7s (c:=h.conf) (i:=first h.pages 1) (o:=0) p1 (by omega) (by omega)
    simp only
    rw[show 4096+first h.pages 1*h.conf.pw+0=4096+(first h.pages 1*h.conf.pw+0) by omega,this]
    simp only
    rw[Z0q g3,if_pos rfl]
    exact Or.inl rfl
  ·rw[Z0e,if_neg hf,if_neg hg]at e
   simp at e
theorem Zd6{h:Heap}{n:Int}(hp:Z03 h=true)(hk:1≤need h.conf n)(e:(Z0n h n (need h.conf n)).2.2=true):(∀ j:Nat,(h.pages.getD j default).kind≠0→((Z0n h n (need h.conf n)).1.pages.getD j default).kind=(h.pages.getD j default).kind)∧RootOn (Z0n h n (need h.conf n)).1 (Z0n h n (need h.conf n)).2.1:=by
 have hp':=hp
 rw[Z1d]at hp
 obtain⟨p1,p2,p3,p4,p5,p6⟩:=hp
 have hb:=validB_iff.1 p1
 by_cases hg:0≤first h.pages (need h.conf n)∧Z1e h.pages+need h.conf n≤Z22 h.conf
 ·obtain⟨g1,g2,g3⟩:=Z1z hg.1
  have el:(Z28 h.conf h.pages (first h.pages (need h.conf n)) h.space n).1=tookP h.pages (first h.pages (need h.conf n)).toNat (need h.conf n).toNat ⟨2,h.space,n,0⟩ ⟨3,h.space,0,0⟩:=by
   rw[Z28,if_pos ⟨hk,by omega⟩,Z2l,if_pos (by omega),if_pos g3]
  have e7:Z0n h n (need h.conf n)=(⟨h.conf,h.words,tookP h.pages (first h.pages (need h.conf n)).toNat (need h.conf n).toNat ⟨2,h.space,n,0⟩ ⟨3,h.space,0,0⟩,h.space,h.bump⟩,4096+first h.pages (need h.conf n)*h.conf.pw,true):=by rw[Z0n,if_pos hg,el]
  have hf:∀ j,j<(need h.conf n).toNat→(h.pages.getD ((first h.pages (need h.conf n)).toNat+j) default).kind=0:=freeK_iff.1 g3
  have hgt:=Z6f (l:=h.pages) (i:=(first h.pages (need h.conf n)).toNat) (k:=(need h.conf n).toNat) (p:=⟨2,h.space,n,0⟩) (q:=⟨3,h.space,0,0⟩) (by omega) (by omega)
  rw[e7]
  refine⟨fun j hj=>?_,fun _=>?_⟩
  ·simp only
   have hne:¬ ((first h.pages (need h.conf n)).toNat≤j∧j<(first h.pages (need h.conf n)).toNat+(need h.conf n).toNat):=fun hc=>by
    have:=hf (j-(first h.pages (need h.conf n)).toNat) (by omega)
    rw[show(first h.pages (need h.conf n)).toNat+(j-(first h.pages (need h.conf n)).toNat)=j by omega]at this
    exact hj this
   rw[hgt,if_neg (by omega),if_neg (by omega)]
  ·have:=Z7s (c:=h.conf) (i:=first h.pages (need h.conf n)) (o:=0) p1 (by omega) (by omega)
   simp only
   rw[show 4096+first h.pages (need h.conf n)*h.conf.pw=4096+(first h.pages (need h.conf n)*h.conf.pw+0) by omega,this]
   simp only
   rw[hgt,if_pos rfl]
   exact Or.inr rfl
 ·rw[Z0n,if_neg hg]at e
  simp at e
theorem RootOn.mono{h h':Heap}{r:Int}(hr:RootOn h r)(hc:h'.conf=h.conf)(hk:∀ j:Nat,(h.pages.getD j default).kind≠0→(h'.pages.getD j default).kind=(h.pages.getD j default).kind):RootOn h' r:=by
 intro e
 rw[hc]at e ⊢
 have q:=hr e
 rw[hk _ (by omega)]
 exact q
theorem Zfz{c:Conf}{hd:Header}(ha:Z2R c hd=true)(hv:Z07 c=true)(hn:¬ 0<need c (sizeH hd)):sizeH hd≤c.pw:=by
 obtain⟨a1,a2,a3,a4,a5⟩:=Z4Y ha
 have hb:=validB_iff.1 hv
 unfold need at hn a4
 split at a4
 ·rename_i hc
  rw[if_pos hc]at hn
  split at a4
  ·omega
  ·rename_i hd'
   rw[if_neg hd']at hn
   have e:=Int.mul_ediv_add_emod (sizeH hd+c.pw-1) c.pw
   have hz:(sizeH hd+c.pw-1)/c.pw=0:=by omega
   rw[hz]at e
   have:=Int.emod_lt_of_pos (sizeH hd+c.pw-1) (b:=c.pw) (by omega)
   omega
 ·omega
theorem POk.put{w:WorldM}(h:POk w)(hw:WOk w.heap.words){hd:Header}(hm:0≤hd.map∧hd.map≤4294967295):POk (w.put hd):=by
 unfold WorldM.put
 split
 ·rename_i e
  obtain⟨k1,k2,k3,k4,k5,k6,k7,k8⟩:=Zdl hw hm e
  have hv:=(Z09 k1).1
  obtain⟨a1,a2,a3,a4,a5⟩:=Z4Y k2
  have kk:(∀ j:Nat,(w.heap.pages.getD j default).kind≠0→((put7 w.heap hd).1.pages.getD j default).kind=(w.heap.pages.getD j default).kind)∧RootOn (put7 w.heap hd).1 (put7 w.heap hd).2.1:=by
   by_cases hn:0<need w.heap.conf (sizeH hd)
   ·have e7:put7 w.heap hd=Z0n w.heap (sizeH hd) (need w.heap.conf (sizeH hd)):=by rw[put7,if_pos hn]
    rw[e7]at k4 ⊢
    exact Zd6 k1 (by omega) k4
   ·have e7:put7 w.heap hd=Z0e w.heap (sizeH hd):=by rw[put7,if_neg hn]
    rw[e7]at k4 ⊢
    exact ZcD k1 ⟨a2,Zfz k2 hv hn⟩ k4
  have hc:(new7 w.heap hd).1.conf=w.heap.conf:=by rw[k6];exact k3.c
  have hk:∀ j:Nat,(w.heap.pages.getD j default).kind≠0→((new7 w.heap hd).1.pages.getD j default).kind=(w.heap.pages.getD j default).kind:=by rw[k6];exact kk.1
  refine⟨k7,fun r hr=>?_,fun r hr=>(h.k r hr).mono hc hk⟩
  rcases List.mem_append.1 hr with hr | hr
  ·exact(h.s r hr).mono hc hk
  ·simp only[List.mem_singleton]at hr
   subst hr
   rw[k5,k6]
   exact kk.2
 ·exact h
theorem POk.link{w:WorldM}{n:Nat}(h:POk w)(hm:MOk w n)(hn:n≤1000000)(t:Tape):POk (w.link t):=by
 unfold WorldM.link
 split
 ·rename_i hc
  have hw:=hm.wm hn
  have g:=Z3Y hc.1
  have n1:=Z0G (w.pickT (w.pickT t)) (n:=8) (by decide)
  have hi:0≤Z1J w t∧Z1J w t<(getH w.heap (w.pick t)).1.length:=by
   unfold Z1J
   rw[Int.tmod_eq_emod_of_nonneg n1.1]
   exact⟨Int.emod_nonneg _ (by omega),Int.emod_lt_of_pos _ (by omega)⟩
  have hv:0≤Z1L w t∧Z1L w t≤18446744073709551615:=by
   unfold Z1L
   split
   ·exact Z2P hw _
   ·have:=Z0G ((w.pickT (w.pickT t)).step 8) (n:=1048576) (by decide)
    omega
  obtain⟨s1,s2,s3⟩:=Z5J hm.words hv hc.1 hi
  refine⟨s2,fun r hr=>?_,fun r hr=>?_⟩
  ·simp only
   rw[s1]
   exact h.s r hr
  ·simp only
   rw[s1]
   exact h.k r hr
 ·exact h
theorem PT.setPins{c:Conf}{l:List Page}(h:PT c l){i:Nat}(hi:i<l.length)(hk:(l.getD i default).kind=1∨(l.getD i default).kind=2){n:Int}(hn:0≤n∧n≤2147483647):PT c (l.set i ⟨(l.getD i default).kind,(l.getD i default).space,(l.getD i default).used,n⟩):=by
 have e:∀ j,((l.set i ⟨(l.getD i default).kind,(l.getD i default).space,(l.getD i default).used,n⟩).getD j default).kind=(l.getD j default).kind∧((l.set i ⟨(l.getD i default).kind,(l.getD i default).space,(l.getD i default).used,n⟩).getD j default).space=(l.getD j default).space∧((l.set i ⟨(l.getD i default).kind,(l.getD i default).space,(l.getD i default).used,n⟩).getD j default).used=(l.getD j default).used:=by
  intro j
  rw[Z0q hi]
  split
  ·rename_i q;subst q;exact⟨rfl,rfl,rfl⟩
  ·exact⟨rfl,rfl,rfl⟩
 refine⟨?_, ?_, ?_⟩
 ·intro j hj
  rw[List.length_set]at hj
  rw[Z0q hi]
  split
  ·have b:=h.b i hi
   exact⟨b.s,hn,b.k,fun q=>by simp only at q;omega,b.k1,fun q=>by simp only at q;omega⟩
  ·exact h.b j hj
 ·intro j hj hk2
  rw[List.length_set]at hj
  rw[(e j).1]at hk2
  rw[(e j).2.2,(e j).2.1]
  have q:=h.lg j hj hk2
  refine⟨q.1,fun m h1 h2=>?_⟩
  rw[List.length_set,(e _).1,(e _).2.1]
  exact q.2 m h1 h2
 ·intro j hj hk3
  rw[List.length_set]at hj
  rw[(e j).1]at hk3
  obtain⟨a,a1,a2,a3⟩:=h.tl j hj hk3
  exact⟨a,a1,by rw[(e a).1];exact a2,by rw[(e a).2.2];exact a3⟩
theorem Zdx{w:WorldM}{n:Nat}(h:POk w)(hm:MOk w n)(hn:n≤1000000){i:Nat}(hi:i<w.heap.pages.length)(hk:(w.heap.pages.getD i default).kind=1∨(w.heap.pages.getD i default).kind=2){d:Int}(hd:d=1∨(d=-1∧0<(w.heap.pages.getD i default).pins)):POk (pinB w i d):=by
 have hp:=hm.pins i hi
 have kk:∀ j:Nat,((pinB w i d).heap.pages.getD j default).kind=(w.heap.pages.getD j default).kind:=by
  intro j
  simp only[pinB]
  rw[Z0q hi]
  split
  ·rename_i q;subst q;rfl
  ·rfl
 have pr:=h.p
 rw[Z1d]at pr
 obtain⟨p1,p2,p3,p4,p5,p6⟩:=pr
 refine⟨?_,fun r hr=>(h.s r hr).mono rfl (fun j _=>kk j),fun r hr=>(h.k r hr).mono rfl (fun j _=>kk j)⟩
 rw[Z1d]
 refine⟨p1,p2,by simp only[pinB,List.length_set];exact p3,p4, ?_,p6.setPins hi hk (by omega)⟩
 rcases p5 with p5 | p5
 ·exact Or.inl p5
 ·refine Or.inr ⟨p5.1,by simp only[pinB,List.length_set];exact p5.2.1, ?_⟩
  rw[show(pinB w i d).heap.bump=w.heap.bump from rfl,kk]
  exact p5.2.2
theorem Zea(w:WorldM)(t:Tape):w.pick t=0∨w.pick t∈w.strong∨w.pick t∈w.weak:=by
 have hn:=Z0G t (n:=(w.refs.length:Int)) (by simp[WorldM.refs];omega)
 have:w.pick t∈w.refs:=getD_mem_iff.2 ⟨_,by omega,rfl⟩
 simpa[WorldM.refs]using this
theorem POk.pick{w:WorldM}(h:POk w)(t:Tape):RootOn w.heap (w.pick t):=by
 rcases Zea w t with e | e | e
 ·rw[e];exact ZlF _
 ·exact h.s _ e
 ·exact h.k _ e
theorem POk.pin{w:WorldM}{n:Nat}(h:POk w)(hm:MOk w n)(hn:n≤1000000)(t:Tape):POk (w.pin t):=by
 unfold WorldM.pin
 split
 ·rename_i e
  have o:=Z3w hm.hv e
  have hpl:=hm.pl
  have hi:pinI w t<w.heap.pages.length:=by unfold pinI;omega
  have hk:=h.pick t e
  split
  ·rename_i hc
   exact Zdx h hm hn hi hk (Or.inr ⟨rfl,hc.1⟩)
  ·split
   ·exact Zdx h hm hn hi hk (Or.inl rfl)
   ·exact h
 ·exact h
theorem POk.drop{w:WorldM}(h:POk w)(t:Tape):POk (w.drop t):=by
 unfold WorldM.drop
 split
 ·rename_i hl
  have n1:=Z0G t (n:=(w.strong.length:Int)) (by omega)
  refine⟨h.p,fun r hr=>?_,fun r hr=>?_⟩
  ·rcases List.mem_append.1 hr with hr | hr
   ·exact h.s r (List.mem_of_mem_take hr)
   ·exact h.s r (List.mem_of_mem_drop hr)
  ·simp only at hr
   split at hr
   ·rcases List.mem_append.1 hr with hr | hr
    ·exact h.k r hr
    ·simp only[List.mem_singleton]at hr
     subst hr
     refine h.s _ (getD_mem_iff.2 ⟨_, ?_,rfl⟩)
     unfold ZfT
     omega
   ·exact h.k r hr
 ·exact h
theorem POk.collect{w:WorldM}{n:Nat}(h:POk w)(hm:MOk w n):POk w.collect:=by
 unfold WorldM.collect
 split
 ·rename_i e
  have c:=Z6t (B:=n) (by omega) hm.words (fun p hp=>(hm.pin_mem p hp).2) e
  have hp:=h.p
  by_cases hr:Z0k w.heap w.strong=true∧Z0k w.heap w.weak=true
  ·by_cases e1:(rootsF (beginW w.heap) w.strong).2.2=0
   ·by_cases e2:(allF (rootsF (beginW w.heap) w.strong).1).2=0
    ·have e7:Z0h w.heap w.strong w.weak=(endH (cW5 w.heap w.strong w.weak),(rootsF (beginW w.heap) w.strong).2.1,Z2I (cW2 w.heap w.strong) w.weak w.weak.length,(cW5 w.heap w.strong w.weak).rep,0):=by rw[Z0h,if_pos hp,if_pos hr,if_pos e1,if_pos e2]
     have hb:=Z36 hm.words hp
     have hi:=Z2X hp
     have pr0:PR n (beginW w.heap):=⟨Z4s hp (fun p hp=>(hm.pin_mem p hp).2),Z75 hp⟩
     have pr:=Zk6 (B:=n) (by omega) hm.words hp (fun p hp=>(hm.pin_mem p hp).2) e1 e2
     have ck:=cOk w.heap w.strong w.weak hm.words hp e1 e2
     obtain⟨g1,g2,g3,g4,g5⟩:=ck.h4
     have hc2:(cW2 w.heap w.strong).heap.conf=w.heap.conf:=ck.x2.c
     have hsp:=ck.w2.sp
     have seen:∀ x,ToOk (cW2 w.heap w.strong) x→RootOn (endH (cW5 w.heap w.strong w.weak)) x:=by
      intro x hx
      rcases hx with rfl | hx
      ·exact ZlF _
      ·intro he
       have q:=pr.rt.q x hx
       unfold pgOf at q
       simp only[endH,cW5,Z0Y,g1,g2,g3]at he ⊢
       rw[hc2]at q
       have hlt:(ofA w.heap.conf x).1.toNat<(cW2 w.heap w.strong).heap.pages.length:=by
        by_cases hq:(ofA w.heap.conf x).1.toNat<(cW2 w.heap w.strong).heap.pages.length
        ·exact hq
        ·have q1:=q.1
         rw[List.getD_eq_getElem?_getD,List.getElem?_eq_none (by omega)]at q1
         simp only[Option.getD_none]at q1
         have d:(default:Page).kind=0:=rfl
         omega
       have ef:(List.map (Z1i (cW2 w.heap w.strong).heap.space) (cW2 w.heap w.strong).heap.pages).getD (ofA w.heap.conf x).1.toNat default=Z1i (cW2 w.heap w.strong).heap.space ((cW2 w.heap w.strong).heap.pages.getD (ofA w.heap.conf x).1.toNat default):=by simp[List.getD_eq_getElem?_getD,hlt]
       rw[ef,Z1i,if_neg (by unfold Z32;omega)]
       exact q.1
     have hall:=Z2W (roots:=w.strong) hb hi e1
     have ax:=Zaa hall.1 hall.2.1 e2
     have r1:∀ x∈(rootsF (beginW w.heap) w.strong).2.1,ToOk (cW2 w.heap w.strong) x:=by
      intro x hx
      have:ToOk (rootsF (beginW w.heap) w.strong).1 x:=by
       unfold rootsF at e1 hx ⊢
       cases hbb:(List.range w.strong.length).find? (fun k=>decide (Z29 (beginW w.heap) w.strong k≠0))with
       | none =>
        rw[hbb]at hx
        have h0:∀ j,j<w.strong.length→Z29 (beginW w.heap) w.strong j=0:=fun j hj=>by
         have:=List.find?_eq_none.1 hbb j (List.mem_range.2 hj)
         simpa using this
        exact Z8s (B:=n) (by omega) hb hi pr0 w.strong.length h0 x hx
       | some k =>
        rw[hbb]at e1
        simp only at e1
        have:=(List.find?_range_eq_some.1 hbb).1
        simp[e1]at this
      rcases this with q | q
      ·exact Or.inl q
      ·exact Or.inr (ax.2.q x q)
     have r2:∀ i,i≤w.weak.length→∀ x∈Z2I (cW2 w.heap w.strong) w.weak i,ToOk (cW2 w.heap w.strong) x:=by
      intro i
      induction i with
      | zero=>intro _ x hx;simp[Z2I]at hx
      | succ i ih =>
       intro hi' x hx
       simp only[Z2I,List.mem_append,List.mem_singleton]at hx
       rcases hx with hx | rfl
       ·exact ih (by omega) x hx
       ·have hs:=Z3R (cW2 w.heap w.strong) w.weak i
        unfold Z6h
        split
        ·exact Or.inl rfl
        ·rename_i hne
         unfold Z1s
         rw[hs.2.2.2.1,hs.1]
         split
         ·rename_i hq;exact Or.inr hq
         ·cases ht:(Z0p (loadA (cW2 w.heap w.strong).heap.words (w.weak.getD i default)).1).2 with
          | true =>
           refine Or.inr (pr.rt.t _ ?_ ht)
           have ho:(cW2 w.heap w.strong).old=(Z08 w.heap).1:=ck.x2.o
           rw[ho]
           have hrf:=hr.2
           simp only[Z0k,Bool.and_eq_true,Option.isNone_iff_eq_none]at hrf
           have:=List.find?_eq_none.1 hrf.2 i (List.mem_range.2 (by omega))
           simp only[rfsB,decide_eq_true_eq,not_and,Decidable.not_not]at this
           exact this hne
          | false =>
           refine Or.inl ?_
           unfold Z0p at ht ⊢
           split at ht
           ·simp at ht
           ·rename_i hcc;rw[if_neg hcc]
     have p1:=c.p1
     rw[e7]at p1 ⊢
     exact⟨p1,fun x hx=>seen x (r1 x hx),fun x hx=>seen x (r2 _ (Nat.le_refl _) x hx)⟩
    ·rw[Z0h,if_pos hp,if_pos hr,if_pos e1,if_neg e2]at e
     exact absurd e e2
   ·rw[Z0h,if_pos hp,if_pos hr,if_neg e1]at e
    exact absurd e e1
  ·rw[Z0h,if_pos hp,if_neg hr]at e
   simp at e
 ·exact h
theorem POk.step{w:WorldM}{n:Nat}(h:POk w)(hm:MOk w n)(hn:n≤1000000)(t:Tape):POk (w.step t):=by
 unfold WorldM.step
 repeat' split
 ·exact h.put hm.words (Z51 _ _)
 ·exact h.link hm hn _
 ·exact h.pin hm hn _
 ·exact h.drop _
 ·exact h.collect hm
 ·refine⟨h.p,fun r hr=>?_,h.k⟩
  rcases List.mem_append.1 hr with hr | hr
  ·exact h.s r hr
  ·simp only[List.mem_singleton]at hr
   subst hr
   exact h.pick _
theorem Zbn(t:Tape):POk t.empty:=by
 refine⟨?_,by simp[Tape.empty],by simp[Tape.empty]⟩
 have hv:=Z2B t
 have hb:=validB_iff.1 hv
 have ha:=area hv
 rw[Z1d]
 have hg:∀ j,j<t.conf.pg.toNat→(List.replicate t.conf.pg.toNat (⟨0,0,0,0⟩:Page)).getD j default=⟨0,0,0,0⟩:=fun j hj=>by simp[List.getD_eq_getElem?_getD,hj]
 refine⟨hv,by simp only[Tape.empty,Z2S,List.length_replicate];omega,by simp only[Tape.empty,Z2S,List.length_replicate];omega,Or.inl rfl,Or.inl rfl, ?_⟩
 simp only[Tape.empty,Z2S]
 refine⟨fun j hj=>?_,fun j hj hk=>?_,fun j hj hk=>?_⟩
 ·rw[List.length_replicate]at hj
  rw[hg j hj]
  exact⟨by simp,by simp,by simp,by simp,by simp,by simp⟩
 ·rw[List.length_replicate]at hj
  rw[hg j hj]at hk
  simp at hk
 ·rw[List.length_replicate]at hj
  rw[hg j hj]at hk
  simp at hk
theorem ZfX{w:WorldM}{n:Nat}(h:POk w)(hm:MOk w n)(t:Tape):∀ k,n+k≤1000000→POk (mkS w t k).1
 | 0,_=>h
 | k+1,hk=>(ZfX h hm t k (by omega)).step (Z90 hm t k (by omega)) (by omega) _
def hAwake6:Heap:=(⟨⟨16,8⟩,(List.replicate 128 0).set 0 29,[⟨1,0,2,0⟩,⟨0,0,0,0⟩,⟨0,0,0,0⟩,⟨0,0,0,0⟩,⟨0,0,0,0⟩,⟨0,0,0,0⟩,⟨0,0,0,0⟩,⟨0,0,0,0⟩],0,-1⟩:Heap)
theorem Z6d:WOk hAwake6.words∧Z08 hAwake6=([4096],0)∧(allW hAwake6).2=0∧cntV (cntR hAwake6).1 (cntR hAwake6).2 = .ag [int 1,int 2,int 0,int 0,int 7]:=by
 have h1:(allW hAwake6).2=0:=by decide+kernel
 have c1:(cenN (allW hAwake6).1 (allW hAwake6).1.length).o=1:=by decide+kernel
 have c2:(cenN (allW hAwake6).1 (allW hAwake6).1.length).w=2:=by decide+kernel
 have c3:(cenN (allW hAwake6).1 (allW hAwake6).1.length).f=0:=by decide+kernel
 have c4:(cenN (allW hAwake6).1 (allW hAwake6).1.length).g=0:=by decide+kernel
 have c5:(hAwake6.pages.length:Int)-Z1e hAwake6.pages=7:=by decide+kernel
 refine⟨?_, ?_,h1, ?_⟩
 ·unfold WOk hAwake6
  decide+kernel
 ·decide+kernel
 ·rw[cntR,if_pos h1,cntV,c1,c2,c3,c4,c5]
theorem Zmj:GSpec Tryz.prog 53 [(⟨⟨16,8⟩,(List.replicate 128 0).set 0 29,[⟨1,0,2,0⟩,⟨0,0,0,0⟩,⟨0,0,0,0⟩,⟨0,0,0,0⟩,⟨0,0,0,0⟩,⟨0,0,0,0⟩,⟨0,0,0,0⟩,⟨0,0,0,0⟩],0,-1⟩:Heap).av] true (.tu [Z02 [4096],int 0]) []:=by
 obtain⟨f1,f2,f3,f4⟩:=Z6d
 have:=ZcQ hAwake6 f1
 rw[f2]at this
 exact this
theorem cntA:GSpec Tryz.prog 54 [(⟨⟨16,8⟩,(List.replicate 128 0).set 0 29,[⟨1,0,2,0⟩,⟨0,0,0,0⟩,⟨0,0,0,0⟩,⟨0,0,0,0⟩,⟨0,0,0,0⟩,⟨0,0,0,0⟩,⟨0,0,0,0⟩,⟨0,0,0,0⟩],0,-1⟩:Heap).av] true (.tu [.ag [int 1,int 2,int 0,int 0,int 7],int 0]) []:=by
 obtain⟨f1,f2,f3,f4⟩:=Z6d
 have:=ZgD hAwake6 f1
 rw[f3,f4]at this
 exact this
theorem Z7A:GSpec Tryz.prog 21 [] true (bool true) []:=by
 exact gF [] Tryz.func21 [] (Fh 42 [.el (wdv 4096)] (Fc 9 (@ZjC) (Fa (by simp[*]:(0:Int)≤0∧Int.toNat 0<(List.map Page.dv (List.replicate 8 (Page.mk 0 0 0 0))).length) (Fa (by simp[*]:Int.toNat 0<(List.map Page.dv (List.replicate 8 (Page.mk 0 0 0 0))).length) (Fs 10015 (List.map Page.dv [Page.mk 1 0 2 0,Page.mk 0 0 0 0,Page.mk 0 0 0 0,Page.mk 0 0 0 0,Page.mk 0 0 0 0,Page.mk 0 0 0 0,Page.mk 0 0 0 0,Page.mk 0 0 0 0]) (Fa (by simp[*]:(0:Int)≤0∧Int.toNat 0<(List.map wdv (List.replicate 128 0)).length) (Fa (by simp[*]:Int.toNat 0<(List.map wdv (List.replicate 128 0)).length) (Fs 10018 (List.map wdv ((List.replicate 128 0).set 0 29)) (Fc 21 (@Zmj) (Fc 26 (@cntA) (Fa (by intro hg;(try simp only[bs]at hg);simp[*]:((0:Int)==0&&(0:Int)==0&&(↑(List.map wdv [4096]).length:Int)==1)=true→(0:Int)≤0∧(List.map wdv [4096])[Int.toNat 0]? = some (wdv 4096)) Fz)))))))))))
end Go.Proofs.YtjflpmnenhdeeaaGreat
