/-
 The statement AuditDirt: part 12.
 Conditions: none.
-/
import Derived.Test.YtjflpmnenhdeeaaGreatB11
set_option maxRecDepth 100000
set_option maxHeartbeats 2000000
set_option linter.all false
namespace Go.Proofs.YtjflpmnenhdeeaaGreat
open Go.Sx
theorem Z60(h:Header)(i:Int)(hm:0≤h.map∧h.map≤4294967295):GSpec Tryz.prog 129 [h.av,int i] true (bool (Z0e h i)) []:=by
 rcases bb (!Z0h h||decide (i<0)||decide (h.length≤i))with hc0 | hc0<;>have hc0p:=hc0<;>simp only[bs]at hc0p
 ·exact gF [] Tryz.func129 [false,false,false,false,false,false,true] (Fc 6 (@Z2R h ‹_›) (Ft 17 hc0 (Fa (by grind[Z0e]:false=Z0e h i) Fz)))
 ·obtain⟨⟨hc0paa,hc0pab⟩,hc0pb⟩:=hc0p
  have hf3:=validH_iff.1 hc0paa
  obtain⟨hf3a,⟨hf3ba,⟨hf3bba,⟨hf3bbba,hf3bbbb⟩⟩⟩⟩:=hf3
  exact gF [] Tryz.func129 [false,false,false,false,false,false,false,false,false,false,false,false,false,false,false,false,false,true] (Fc 6 (@Z2R h ‹_›) (Ff 17 hc0 (Fa (by intro hg;(try simp only[bs]at hg);omega:(!h.kind==2&&h.kind==1)=true→0≤i) (Fa (by exact Zl6 h i hm ‹_› (by omega) (by omega):(h.kind==2||h.kind==1&&bits BinOp.and IntKind.u32 (h.map.fdiv (2^min i.toNat 32)) (1:Int)==1)=Z0e h i) Fz))))
def hptL(h:Header)(i:Nat):Tg:=⟨tm 19 [(1,.pt 8001 0 0),(2,.d (.sl 0 [])),(3,.ow 16003),(6,int (sizeH h)),(7,int i)],[(16003,.arr 3 1 ((Z0V h i).map idv)),(8001,.box 34 [int h.kind,int h.length,u32 h.map])],60⟩
theorem Zj6(h:Header)(i:Nat)(hm:0≤h.map∧h.map≤4294967295)(hi:(i:Int)<sizeH h):CSpec Tryz.prog (rndF Tryz.f96 0) (hptL h i).st .nrm (hptL h (i+1)).st:=by
 have hn:=Z40 h i
 have hs:=Z17 h
 by_cases hp:Z0e h (i:Int)=true
 ·have e:Z0V h (i+1)=Z0V h i++[(i:Int)]:=by rw[Z0V,if_pos hp]
  exact sF [(504016,16003)] [false,false,false,false,false,true] (Fh 12 [.call true (Sx.bool (Z0e h (↑i:Int))) [],.br true] (Fh 16 [.els (List.map idv (Z0V h i++[(↑i:Int)]))] (Ftb 8 (decide ((↑i:Int)<sizeH h)) (Fa (@Z60 h ((↑i:Int)) ‹_›) (Fa ‹Z0e h (↑i:Int)=true› (Fs 15 (List.map idv [(↑i:Int)]) (Fa (by(simp[*];omega):(List.map idv (Z0V h i)).length+(List.map idv [(↑i:Int)]).length≤2^30) (Fa (by simp[List.map_take,List.map_drop,List.map_set,List.map_append,wdv,idv]:List.map idv (Z0V h i)++List.map idv [(↑i:Int)]=List.map idv (Z0V h i++[(↑i:Int)])) (Fx 17 i (Fr (3:Int) (Fa (by refine congrArg _ ?_;rw[e]:List.map idv (Z0V h i++[(↑i:Int)])=List.map idv (Z0V h (i+1))) Fz)))))))))))
 ·have e:Z0V h (i+1)=Z0V h i:=by rw[Z0V,if_neg hp]
  have hp':Z0e h (i:Int)=false:=by simpa using hp
  exact sF [] [false,false,false,false,false,true] (Fh 12 [.call true (Sx.bool (Z0e h (↑i:Int))) [],.br false] (Ftb 8 (decide ((↑i:Int)<sizeH h)) (Fa (@Z60 h ((↑i:Int)) ‹_›) (Fa ‹Z0e h (↑i:Int)=false› (Fx 17 i (Fr (3:Int) (Fa (by refine congrArg _ ?_;rw[e]:List.map idv (Z0V h i)=List.map idv (Z0V h (i+1))) Fz)))))))
theorem Zn8(h:Header)(i:Nat)(hi:(i:Int)=sizeH h):CSpec Tryz.prog (rndF Tryz.f96 0) (hptL h i).st (.ext 0) (Tg.st ⟨tm 19 [(2,.d (.sl 0 [])),(3,.ow 16003)],[(16003,.arr 3 1 ((Z0V h i).map idv))],60⟩):=by
 exact sF [] [] (Ffb 8 (decide ((↑i:Int)<sizeH h)) Fz)
theorem Z7c(h:Header):Z0V h (sizeH h).toNat=Z08 h:=by
 unfold Z08 sizeH
 by_cases hv:Z0h h=true
 ·rw[if_pos hv,if_pos hv]
  have hb:=validH_iff.1 hv
  rw[show(h.length+1).toNat=h.length.toNat+1 from by omega,Z0V,if_neg]
  unfold Z0e
  simp
  omega
 ·rw[if_neg hv,if_neg hv];rfl
theorem Zlm(h:Header)(hm:0≤h.map∧h.map≤4294967295):CSpec Tryz.prog (blkF Tryz.f96 0) (Tg.st ⟨tm 19 [(1,.pt 8001 0 0),(2,.d (.sl 0 [])),(3,.ow 16003),(6,int (sizeH h)),(7,int 0)],[(16003,.arr 3 1 []),(8001,.box 34 [int h.kind,int h.length,u32 h.map])],60⟩) .nrm (Tg.st ⟨tm 19 [(2,.d (.sl 0 [])),(3,.ow 16003)],[(16003,.arr 3 1 ((Z08 h).map idv))],60⟩):=by
 have hs:=Z17 h
 rw[← Z7c]
 exact Z0c (S:=fun i=>(hptL h i).st) (sizeH h).toNat (by kernel_rfl) (fun i hi=>Zj6 h i hm (by omega)) (Zn8 h _ (by omega))
theorem Z5z(h:Header)(hm:0≤h.map∧h.map≤4294967295):GSpec Tryz.prog 96 [h.av] true (.d (.sl 1 ((Z08 h).map idv))) []:=by
 exact gF [] Tryz.func96 [] (Fh 3 [.own] (Fc 6 (@Z16 h ‹_›) (Fu (@Zlm h ‹_›) (Fa (by exact ZeF _:Z1p (List.map idv (Z08 h))) Fz))))
def ahdL(h:Heap)(i:Nat):Tg:=⟨tm 19 [(1,int i),(2,.pt 8002 0 0),(4,int 0)],[(8002,.box 28 h.cells)],60⟩
theorem ZiR(h:Heap)(i:Nat)(hi:i+1<h.pages.length)(hl:h.pages.length≤1048576)(hk:(h.pages.getD (i+1) default).kind=3):CSpec Tryz.prog (rndF Tryz.f125 0) (ahdL h (i+1)).st .nrm (ahdL h i).st:=by
 have ei:((i+1:Nat):Int)-1=(i:Int):=by omega
 exact sF [] [] (FeG 11 (decide (0<(↑(i+1):Int))) Page.dv h.pages (↑(i+1):Int) (i+1) (Ftb 15 (decide (0<(↑(i+1):Int))&&(h.pages.getD (i+1) default).kind==3) (Fg 17 (by rw[wrapI' (by omega) (by omega)];omega:IntKind.i64.wrap ((↑(i+1):Int)-1)=(↑i:Int)) Fz)))
theorem ZkS(h:Heap)(i:Nat)(hi:i<h.pages.length)(hl:h.pages.length≤1048576)(hk:¬ (h.pages.getD i default).kind=3):CSpec Tryz.prog (rndF Tryz.f125 0) (ahdL h i).st (.ext 0) (Tg.st ⟨tm 19 [(1,int i),(4,int 0)],[],60⟩):=by
 exact sF [] [] (FeG 11 (decide (0<(↑i:Int))) Page.dv h.pages (↑i) i (Ffb 15 (decide (0<(↑i:Int))&&(h.pages.getD i default).kind==3) Fz))
theorem ZmI(h:Heap)(hp:Z02 h=true)(hl:h.pages.length≤1048576):∀ i,i<h.pages.length→LSpec Tryz.prog Tryz.f125 0 (ahdL h i).st (.ext 0) (Tg.st ⟨tm 19 [(1,int (Z0s h.pages i)),(4,int 0)],[],60⟩)
 | 0,hi=>.endx (ZkS h 0 hi hl (Znq hp))
 | i+1,hi=>by
  unfold Z0s
  by_cases hk:(h.pages.getD (i+1) default).kind=3
  ·rw[if_pos hk]
   exact .next (ZiR h i hi hl hk) (ZmI h hp hl i (by omega))
  ·rw[if_neg hk]
   exact .endx (ZkS h (i+1) hi hl hk)
theorem Zld(h:Heap)(i:Nat)(hp:Z02 h=true)(hi:i<h.pages.length)(hl:h.pages.length≤1048576):CSpec Tryz.prog (blkF Tryz.f125 0) (ahdL h i).st .nrm (Tg.st ⟨tm 19 [(1,int (Z0s h.pages i)),(4,int 0)],[],60⟩) :=
 (ZmI h hp hl i hi).ext (by kernel_rfl)
theorem ZhU(h:Heap)(i:Nat)(hp:Z02 h=true)(hi:i<h.pages.length):GSpec Tryz.prog 125 [h.av,int i] true (int (Z0s h.pages i)) []:=by
 have po:=Z07 hp
 exact gF [] Tryz.func125 [] (Fu (@Zld h i ‹_› ‹_› (by omega)) Fz)
def aclL(h:Heap)(i:Int)(l:List Int)(n:Nat):Tg:=⟨tm 58 [(1,int i),(3,.pt 8003 0 0),(6,u64 0),(7,bool false),(13,Z01 l),(14,int l.length),(15,int n)],[(8003,.box 28 h.cells)],60⟩
section
variable (h:Heap) (i:Int) (l:List Int) (n:Nat) (hw:WOk h.words) (hl:l.length≤1048576) (hi:0≤i∧i<h.pages.length) (hp:h.pages.length≤1048576) (hr:∀ x∈l,0≤x∧x≤8192)
include hw hl hi hp hr
theorem Zer(hn:n<l.length)(hb:Z19 h i (l.getD n default)=false):CSpec Tryz.prog (rndF Tryz.f93 0) (aclL h i l n).st .nrm (aclL h i l (n+1)).st:=by
 have hx:=hr (l.getD n default) (getD_mem_iff.2 ⟨n,hn,rfl⟩)
 have hm:=Z3b hw (l.getD n default)
 simp only[Z19,bs]at hb
 exact sF [] [] (Ftb 16 (decide ((↑n:Int)<(↑l.length:Int))) (Fek 17 wdv l (↑n) n (Fc 22 (@Z3w h (l.getD n default) ‹_› (by omega)) (Fc 26 (@Z16 ((atH h (l.getD n default)).fst) ‹_›) (Fc 29 (@Z32 h.conf) (Fe 34 Page.dv h.pages i (FeG 46 (!((h.pages.getD i.toNat default).kind==1&&!decide (sizeH (atH h (l.getD n default)).fst≤Z00 h.conf))) Page.dv h.pages i i.toNat (Ffb 55 ((h.pages.getD i.toNat default).kind==1&&!decide (sizeH (atH h (l.getD n default)).fst≤Z00 h.conf)||(h.pages.getD i.toNat default).kind==2&&(atH h (l.getD n default)).fst.kind==0) (Fx 57 n Fz)))))))))
theorem Zkq(hn:n<l.length)(hb:Z19 h i (l.getD n default)=true):CSpec Tryz.prog (rndF Tryz.f93 0) (aclL h i l n).st .ret (Tg.st ⟨tm 58 [(6,u64 (l.getD n default)),(7,bool true)],[],60⟩):=by
 have hx:=hr (l.getD n default) (getD_mem_iff.2 ⟨n,hn,rfl⟩)
 have hm:=Z3b hw (l.getD n default)
 simp only[Z19,bs]at hb
 exact sF [] [] (Ftb 16 (decide ((↑n:Int)<(↑l.length:Int))) (Fek 17 wdv l (↑n) n (Fc 22 (@Z3w h (l.getD n default) ‹_› (by omega)) (Fc 26 (@Z16 ((atH h (l.getD n default)).fst) ‹_›) (Fc 29 (@Z32 h.conf) (Fe 34 Page.dv h.pages i (FeG 46 (!((h.pages.getD i.toNat default).kind==1&&!decide (sizeH (atH h (l.getD n default)).fst≤Z00 h.conf))) Page.dv h.pages i i.toNat (Ftb 55 ((h.pages.getD i.toNat default).kind==1&&!decide (sizeH (atH h (l.getD n default)).fst≤Z00 h.conf)||(h.pages.getD i.toNat default).kind==2&&(atH h (l.getD n default)).fst.kind==0) Fz))))))))
omit hw hl hi hp hr in
theorem Znp:CSpec Tryz.prog (rndF Tryz.f93 0) (aclL h i l l.length).st (.ext 0) (Tg.st ⟨tm 58 [(6,u64 0),(7,bool false)],[],60⟩):=by
 exact sF [] [] (Ffb 16 (decide ((↑l.length:Int)<(↑l.length:Int))) Fz)
end
theorem Zmf(h:Heap)(i:Int)(l:List Int)(hw:WOk h.words)(hl:l.length≤1048576)(hi:0≤i∧i<h.pages.length)(hp:h.pages.length≤1048576)(hr:∀ x∈l,0≤x∧x≤8192)(hf:l.find? (Z19 h i)=none) :
  CSpec Tryz.prog (blkF Tryz.f93 0) (Tg.st ⟨tm 58 [(1,int i),(3,.pt 8003 0 0),(6,u64 0),(7,bool false),(13,Z01 l),(14,int l.length),(15,int 0)],[(8003,.box 28 h.cells)],60⟩) .nrm (Tg.st ⟨tm 58 [(6,u64 0),(7,bool false)],[],60⟩) :=
 Z0c (S:=fun n=>(aclL h i l n).st) l.length (by kernel_rfl) (fun n hn=>Zer h i l n hw hl hi hp hr hn (Z6C hf n hn)) (Znp h i l)
theorem ZkH(h:Heap)(i:Int)(l:List Int)(x:Int)(hw:WOk h.words)(hl:l.length≤1048576)(hi:0≤i∧i<h.pages.length)(hp:h.pages.length≤1048576)(hr:∀ x∈l,0≤x∧x≤8192)(hf:l.find? (Z19 h i)=some x) :
  CSpec Tryz.prog (blkF Tryz.f93 0) (Tg.st ⟨tm 58 [(1,int i),(3,.pt 8003 0 0),(6,u64 0),(7,bool false),(13,Z01 l),(14,int l.length),(15,int 0)],[(8003,.box 28 h.cells)],60⟩) .ret (Tg.st ⟨tm 58 [(6,u64 x),(7,bool true)],[],60⟩):=by
 obtain⟨n,h1,h2,h3,h4⟩:=Z3s hf
 subst h2
 exact Z0G (S:=fun n=>(aclL h i l n).st) n (by kernel_rfl) (fun m hm=>Zer h i l m hw hl hi hp hr (by omega) (h4 m hm)) (Zkq h i l n hw hl hi hp hr h1 h3)
def Z1S(h:Heap)(i:Int)(l:List Int):Bool:=(l.find? (Z19 h i)).isSome
theorem Z3k(h:Heap)(i:Int)(l:List Int)(hw:WOk h.words)(hl:l.length≤1048576)(hp:h.pages.length≤1048576)(hi:0≤i∧i<h.pages.length)(hr:∀ x∈l,0≤x∧x≤8192):GSpec Tryz.prog 93 [h.av,int i,Z01 l] true (.tu [u64 (Z0X h i l),bool (Z1S h i l)]) []:=by
 cases hf:l.find? (Z19 h i)with
 | none =>
  have e7:Z0X h i l=0:=by rw[Z0X,hf];rfl
  have e8:Z1S h i l=false:=by rw[Z1S,hf];rfl
  rw[e7,e8]
  exact gF [] Tryz.func93 [] (Fl 14 wdv l (Fu (@Zmf h i l ‹_› ‹_› ‹_› ‹_› ‹_› ‹_›) Fz))
 | some x =>
  have e7:Z0X h i l=x:=by rw[Z0X,hf];rfl
  have e8:Z1S h i l=true:=by rw[Z1S,hf];rfl
  rw[e7,e8]
  exact gF [] Tryz.func93 [] (Fl 14 wdv l (Fu (@ZkH h i l x ‹_› ‹_› ‹_› ‹_› ‹_› ‹_›) Fz))
theorem ZfF(ws:List Int)(a n:Int)(hw:ws.length≤1048576)(h0:4096≤a∧1≤n∧n≤1000∧a-4096+n≤ws.length):GSpec Tryz.prog 124 [Z01 ws,u64 a,int n] true (.tu [.ow 0,int 0]) [.arr 39 1 (((ws.drop (a-4096).toNat).take n.toNat).map wdv)]:=by
 have ei1:(Z0a ws a n).1=a-4096:=by rw[Z0a,if_pos (by omega)]
 have e2:(Z0a ws a n).2=true:=by rw[Z0a,if_pos (by omega)];simp;omega
 have hne:(ws.drop (a-4096).toNat).take n.toNat≠[]:=Zhq (by rw[List.length_take,List.length_drop];omega)
 exact gF [41027] Tryz.func124 [false,true] (Fh 26 [.els (List.map wdv (List.take (((Z0a ws a n).fst+n).toNat-(Z0a ws a n).fst.toNat) (List.drop (Z0a ws a n).fst.toNat ws)))] (Ffb 11 (decide (n<0)) (Fc 16 (@Z6L ws a n ‹_› (by omega)) (Ffb 20 (!(Z0a ws a n).snd) (Fi 25 ((Z0a ws a n).fst+n) (Fa (by(simp only[List.length_map];omega):0≤(Z0a ws a n).fst∧(Z0a ws a n).fst≤(Z0a ws a n).fst+n∧(Z0a ws a n).fst+n≤(↑(List.map wdv ws).length:Int)) (Fa (by simp[e2,List.map_take,List.map_drop,List.map_set,List.map_append,wdv,idv]:List.take (((Z0a ws a n).fst+n).toNat-(Z0a ws a n).fst.toNat) (List.drop (Z0a ws a n).fst.toNat (List.map wdv ws))=List.map wdv (List.take (((Z0a ws a n).fst+n).toNat-(Z0a ws a n).fst.toNat) (List.drop (Z0a ws a n).fst.toNat ws))) (Fc 27 (@Zdr (List.take (((Z0a ws a n).fst+n).toNat-(Z0a ws a n).fst.toNat) (List.drop (Z0a ws a n).fst.toNat ws)) (by(simp[e2, *];omega)) (by(simp[e2, *];omega))) (Fa (by exact Z43 _:Z1p (List.map wdv (List.take (((Z0a ws a n).fst+n).toNat-(Z0a ws a n).fst.toNat) (List.drop (Z0a ws a n).fst.toNat ws)))) (Fr (39:Int) (Fa (by refine congrArg _ ?_;(simp[e2, *];omega):List.map wdv (List.take (((Z0a ws a n).fst+n).toNat-(Z0a ws a n).fst.toNat) (List.drop (Z0a ws a n).fst.toNat ws))=List.map wdv (List.take n.toNat (List.drop (a-4096).toNat ws))) Fz)))))))))))
def fstW(l:List Int):Nat:=(l.takeWhile fun x=>x==0).length
theorem ZaB{l:List Int}{m:Nat}(h:m<fstW l):m<l.length∧l.getD m default=0:=by
 obtain⟨h1,h2⟩:=ZhT _ _ _ h
 refine⟨h1, ?_⟩
 rw[List.getD_eq_getElem?_getD,List.getElem?_eq_getElem h1]
 simpa using h2
theorem ZeV{l:List Int}(h:fstW l<l.length):¬ l.getD (fstW l) default=0:=by
 have h2:=Zbt (fun x:Int=>x==0) l h
 have h3:l.getD (fstW l) default=l[(l.takeWhile fun x=>x==0).length]:=by
  rw[List.getD_eq_getElem?_getD,List.getElem?_eq_getElem h];rfl
 rw[h3]
 simpa using h2
def idxW(l:List Int):Int:=if fstW l<l.length then fstW l else -1
theorem Zhw(x:Int):GSpec Tryz.prog 126 [u64 x] true (bool (x != 0)) []:=by
 exact gF [] Tryz.func126 [] Fz
def Zgp(l:List Int)(i:Nat):Tg:=⟨tm 19 [(0,Z01 l),(1,.fn 126 []),(4,int 0),(7,int l.length),(8,int i)],[],60⟩
theorem ZbB(l:List Int)(i:Nat)(hl:l.length≤1048576)(hi:i<l.length)(e:l.getD i default=0):CSpec Tryz.prog (rndF Tryz.f99 0) (Zgp l i).st .nrm (Zgp l (i+1)).st:=by
 exact sF [] [] (Fh 16 [.call true (Sx.bool (l.getD i default != 0)) [],.br false] (Ftb 9 (decide ((↑i:Int)<(↑l.length:Int))) (Fek 14 wdv l (↑i) i (Fa (@Zhw (l.getD i default)) (Fb ((l.getD i default != 0)=false) (Fx 18 i Fz))))))
theorem Zir(l:List Int)(i:Nat)(hl:l.length≤1048576)(hi:i<l.length)(e:¬ l.getD i default=0):CSpec Tryz.prog (rndF Tryz.f99 0) (Zgp l i).st .ret (Tg.st ⟨tm 19 [(4,int i)],[],60⟩):=by
 exact sF [] [] (Fh 16 [.call true (Sx.bool (l.getD i default != 0)) [],.br true] (Ftb 9 (decide ((↑i:Int)<(↑l.length:Int))) (Fek 14 wdv l (↑i) i (Fa (@Zhw (l.getD i default)) (Fb ((l.getD i default != 0)=true) Fz)))))
theorem Zm9(l:List Int):CSpec Tryz.prog (rndF Tryz.f99 0) (Zgp l l.length).st (.ext 0) (Tg.st ⟨tm 19 [(4,int 0)],[],60⟩):=by
 exact sF [] [] (Ffb 9 (decide ((↑l.length:Int)<(↑l.length:Int))) Fz)
theorem Zj9(l:List Int)(hl:l.length≤1048576)(h:¬ fstW l<l.length):CSpec Tryz.prog (blkF Tryz.f99 0) (Tg.st ⟨tm 19 [(0,Z01 l),(1,.fn 126 []),(4,int 0),(7,int l.length),(8,int 0)],[],60⟩) .nrm (Tg.st ⟨tm 19 [(4,int 0)],[],60⟩) :=
 Z0c (S:=fun j=>(Zgp l j).st) l.length (by kernel_rfl) (fun j hj=>ZbB l j hl hj (ZaB (by omega)).2) (Zm9 l)
theorem ZhS(l:List Int)(hl:l.length≤1048576)(h:fstW l<l.length):CSpec Tryz.prog (blkF Tryz.f99 0) (Tg.st ⟨tm 19 [(0,Z01 l),(1,.fn 126 []),(4,int 0),(7,int l.length),(8,int 0)],[],60⟩) .ret (Tg.st ⟨tm 19 [(4,int (fstW l))],[],60⟩) :=
 Z0G (S:=fun j=>(Zgp l j).st) (fstW l) (by kernel_rfl) (fun j hj=>ZbB l j hl (by omega) (ZaB hj).2) (Zir l (fstW l) hl h (ZeV h))
theorem Znr(l:List Int)(hl:l.length≤1048576):GSpec Tryz.prog 99 [Z01 l,.fn 126 []] true (int (idxW l)) []:=by
 by_cases h:fstW l<l.length
 ·have e7:idxW l=fstW l:=if_pos h
  rw[e7]
  exact gF [] Tryz.func99 [] (Fl 7 wdv l (Fu (@ZhS l ‹_› ‹_›) Fz))
 ·have e7:idxW l=-1:=if_neg h
  rw[e7]
  exact gF [] Tryz.func99 [] (Fl 7 wdv l (Fu (@Zj9 l ‹_› ‹_›) Fz))
def loC(c:List Int)(x:Int):Nat:=(min (max x 0) (c.length:Int)).toNat
def clrW(c:List Int)(x k:Int):List Int:=c.take (loC c x)++List.replicate (loC c (x+k)-loC c x) 0++c.drop (loC c x+(loC c (x+k)-loC c x))
def cwN(h:Heap)(F:Int)(l c:List Int):Nat→List Int
 | 0=>c
 | n+1=>clrW (cwN h F l c n) (l.getD n default-F) (Z3J h (l.getD n default))
theorem Zej(c:List Int)(x:Int):loC c x≤c.length:=by unfold loC;omega
theorem ZeM(c:List Int)(x:Int){k:Int}(hk:0≤k):loC c x≤loC c (x+k):=by unfold loC;omega
theorem Z8I(h:Heap)(a:Int):0≤Z3J h a∧Z3J h a≤256:=by
 have:=Z17 (atH h a).1
 unfold Z3J
 split<;>omega
theorem Zk4(c:List Int)(x:Int){k:Int}(hk:0≤k):(clrW c x k).length=c.length:=by
 have h1:=Zej c x
 have h2:=Zej c (x+k)
 have h3:=ZeM c x hk
 simp[clrW];omega
theorem Z7P(h:Heap)(F:Int)(l c:List Int):∀ n,(cwN h F l c n).length=c.length
 | 0=>rfl
 | n+1=>by rw[cwN,Zk4 _ _ (Z8I h _).1,Z7P h F l c n]
def adL(h:Heap)(F:Int)(l c:List Int)(n:Nat):Tg:=⟨tm 90 [(2,.pt 8002 0 0),(4,u64 0),(5,bool false),(6,u64 F),(8,.ow 25033),(44,Z01 l),(45,int l.length),(46,int n)],[(25033,.arr 39 1 ((cwN h F l c n).map wdv)),(8002,.box 28 h.cells)],60⟩
theorem Zmc(h:Heap)(F:Int)(l c:List Int)(n:Nat)(hw:WOk h.words)(hF:0≤F∧F≤8192)(hl:l.length≤1048576)(hc:c.length≤64)(hr:∀ x∈l,0≤x∧x≤8192)(hn:n<l.length):CSpec Tryz.prog (rndF Tryz.f94 0) (adL h F l c n).st .nrm (adL h F l c (n+1)).st:=by
 have hx:=hr (l.getD n default) (getD_mem_iff.2 ⟨n,hn,rfl⟩)
 have hm:=Z3b hw (l.getD n default)
 have hlen:=Z7P h F l c n
 have hs:=Z17 (atH h (l.getD n default)).1
 by_cases hk:(atH h (l.getD n default)).1.kind=0
 ·have ek:Z3J h (l.getD n default)=1:=if_pos hk
  have e7:cwN h F l c (n+1)=clrW (cwN h F l c n) (l.getD n default-F) 1:=by rw[cwN,ek]
  exact sF [] [false,false,false,false,false,false,false,false,true] (Fh 20000 [.els (List.map wdv (List.take (min (max (l.getD n default-F) 0) (↑(cwN h F l c n).length:Int)).toNat (cwN h F l c n)++List.replicate ((min (max (l.getD n default-F+1) 0) (↑(cwN h F l c n).length:Int)).toNat-(min (max (l.getD n default-F) 0) (↑(cwN h F l c n).length:Int)).toNat) 0++List.drop ((min (max (l.getD n default-F) 0) (↑(cwN h F l c n).length:Int)).toNat+(List.replicate ((min (max (l.getD n default-F+1) 0) (↑(cwN h F l c n).length:Int)).toNat-(min (max (l.getD n default-F) 0) (↑(cwN h F l c n).length:Int)).toNat) 0).length) (cwN h F l c n)))] (Ftb 47 (decide ((↑n:Int)<(↑l.length:Int))) (Fek 48 wdv l (↑n) n (Fc 53 (@Z3w h (l.getD n default) ‹_› (by omega)) (Ffb 58 ((atH h (l.getD n default)).fst.kind != 0) (Fi 62 (l.getD n default) (Fi 64 F (Fi 65 (l.getD n default-F) (Fgo 68 (if 0 > l.getD n default-F then 0 else l.getD n default-F) (max (l.getD n default-F) 0) (Fl 70 wdv (cwN h F l c n) (Fgo 71 (if(↑(cwN h F l c n).length:Int)<max (l.getD n default-F) 0 then(↑(cwN h F l c n).length:Int)else max (l.getD n default-F) 0) (min (max (l.getD n default-F) 0) (↑(cwN h F l c n).length:Int)) (Fi 74 (l.getD n default-F+1) (Fgo 75 (if 0 > l.getD n default-F+1 then 0 else l.getD n default-F+1) (max (l.getD n default-F+1) 0) (Fl 77 wdv (cwN h F l c n) (Fgo 78 (if(↑(cwN h F l c n).length:Int)<max (l.getD n default-F+1) 0 then(↑(cwN h F l c n).length:Int)else max (l.getD n default-F+1) 0) (min (max (l.getD n default-F+1) 0) (↑(cwN h F l c n).length:Int)) (Fa (by(simp only[List.length_map];omega):0≤min (max (l.getD n default-F) 0) (↑(cwN h F l c n).length:Int)∧min (max (l.getD n default-F) 0) (↑(cwN h F l c n).length:Int)≤min (max (l.getD n default-F+1) 0) (↑(cwN h F l c n).length:Int)∧min (max (l.getD n default-F+1) 0) (↑(cwN h F l c n).length:Int)≤(↑(List.map wdv (cwN h F l c n)).length:Int)) (Fa (by simp only[Z0N,List.map_append,List.map_take,List.map_drop,List.map_replicate,List.length_replicate];rfl:Z0N (List.map wdv (cwN h F l c n)) (min (max (l.getD n default-F) 0) (↑(cwN h F l c n).length:Int)).toNat (List.replicate ((min (max (l.getD n default-F+1) 0) (↑(cwN h F l c n).length:Int)).toNat-(min (max (l.getD n default-F) 0) (↑(cwN h F l c n).length:Int)).toNat) [du64 0])=List.map wdv (List.take (min (max (l.getD n default-F) 0) (↑(cwN h F l c n).length:Int)).toNat (cwN h F l c n)++List.replicate ((min (max (l.getD n default-F+1) 0) (↑(cwN h F l c n).length:Int)).toNat-(min (max (l.getD n default-F) 0) (↑(cwN h F l c n).length:Int)).toNat) 0++List.drop ((min (max (l.getD n default-F) 0) (↑(cwN h F l c n).length:Int)).toNat+(List.replicate ((min (max (l.getD n default-F+1) 0) (↑(cwN h F l c n).length:Int)).toNat-(min (max (l.getD n default-F) 0) (↑(cwN h F l c n).length:Int)).toNat) 0).length) (cwN h F l c n))) (Fx 80 n (Fr (39:Int) (Fa (by refine congrArg _ ?_;rw[e7];simp only[clrW,loC,List.length_replicate]:List.map wdv (List.take (min (max (l.getD n default-F) 0) (↑(cwN h F l c n).length:Int)).toNat (cwN h F l c n)++List.replicate ((min (max (l.getD n default-F+1) 0) (↑(cwN h F l c n).length:Int)).toNat-(min (max (l.getD n default-F) 0) (↑(cwN h F l c n).length:Int)).toNat) 0++List.drop ((min (max (l.getD n default-F) 0) (↑(cwN h F l c n).length:Int)).toNat+(List.replicate ((min (max (l.getD n default-F+1) 0) (↑(cwN h F l c n).length:Int)).toNat-(min (max (l.getD n default-F) 0) (↑(cwN h F l c n).length:Int)).toNat) 0).length) (cwN h F l c n))=List.map wdv (cwN h F l c (n+1))) Fz))))))))))))))))))))
 ·have ek:Z3J h (l.getD n default)=sizeH (atH h (l.getD n default)).1:=if_neg hk
  have e7:cwN h F l c (n+1)=clrW (cwN h F l c n) (l.getD n default-F) (sizeH (atH h (l.getD n default)).1):=by rw[cwN,ek]
  exact sF [] [false,false,false,false,false,false,false,false,true] (Fh 20000 [.els (List.map wdv (List.take (min (max (l.getD n default-F) 0) (↑(cwN h F l c n).length:Int)).toNat (cwN h F l c n)++List.replicate ((min (max (l.getD n default-F+sizeH (atH h (l.getD n default)).fst) 0) (↑(cwN h F l c n).length:Int)).toNat-(min (max (l.getD n default-F) 0) (↑(cwN h F l c n).length:Int)).toNat) 0++List.drop ((min (max (l.getD n default-F) 0) (↑(cwN h F l c n).length:Int)).toNat+(List.replicate ((min (max (l.getD n default-F+sizeH (atH h (l.getD n default)).fst) 0) (↑(cwN h F l c n).length:Int)).toNat-(min (max (l.getD n default-F) 0) (↑(cwN h F l c n).length:Int)).toNat) 0).length) (cwN h F l c n)))] (Ftb 47 (decide ((↑n:Int)<(↑l.length:Int))) (Fek 48 wdv l (↑n) n (Fc 53 (@Z3w h (l.getD n default) ‹_› (by omega)) (Ftb 58 ((atH h (l.getD n default)).fst.kind != 0) (Fc 60 (@Z16 ((atH h (l.getD n default)).fst) ‹_›) (Fi 62 (l.getD n default) (Fi 64 F (Fi 65 (l.getD n default-F) (Fgo 68 (if 0 > l.getD n default-F then 0 else l.getD n default-F) (max (l.getD n default-F) 0) (Fl 70 wdv (cwN h F l c n) (Fgo 71 (if(↑(cwN h F l c n).length:Int)<max (l.getD n default-F) 0 then(↑(cwN h F l c n).length:Int)else max (l.getD n default-F) 0) (min (max (l.getD n default-F) 0) (↑(cwN h F l c n).length:Int)) (Fi 74 (l.getD n default-F+sizeH (atH h (l.getD n default)).fst) (Fgo 75 (if 0 > l.getD n default-F+sizeH (atH h (l.getD n default)).fst then 0 else l.getD n default-F+sizeH (atH h (l.getD n default)).fst) (max (l.getD n default-F+sizeH (atH h (l.getD n default)).fst) 0) (Fl 77 wdv (cwN h F l c n) (Fgo 78 (if(↑(cwN h F l c n).length:Int)<max (l.getD n default-F+sizeH (atH h (l.getD n default)).fst) 0 then(↑(cwN h F l c n).length:Int)else max (l.getD n default-F+sizeH (atH h (l.getD n default)).fst) 0) (min (max (l.getD n default-F+sizeH (atH h (l.getD n default)).fst) 0) (↑(cwN h F l c n).length:Int)) (Fa (by(simp only[List.length_map];omega):0≤min (max (l.getD n default-F) 0) (↑(cwN h F l c n).length:Int)∧min (max (l.getD n default-F) 0) (↑(cwN h F l c n).length:Int)≤min (max (l.getD n default-F+sizeH (atH h (l.getD n default)).fst) 0) (↑(cwN h F l c n).length:Int)∧min (max (l.getD n default-F+sizeH (atH h (l.getD n default)).fst) 0) (↑(cwN h F l c n).length:Int)≤(↑(List.map wdv (cwN h F l c n)).length:Int)) (Fa (by simp only[Z0N,List.map_append,List.map_take,List.map_drop,List.map_replicate,List.length_replicate];rfl:Z0N (List.map wdv (cwN h F l c n)) (min (max (l.getD n default-F) 0) (↑(cwN h F l c n).length:Int)).toNat (List.replicate ((min (max (l.getD n default-F+sizeH (atH h (l.getD n default)).fst) 0) (↑(cwN h F l c n).length:Int)).toNat-(min (max (l.getD n default-F) 0) (↑(cwN h F l c n).length:Int)).toNat) [du64 0])=List.map wdv (List.take (min (max (l.getD n default-F) 0) (↑(cwN h F l c n).length:Int)).toNat (cwN h F l c n)++List.replicate ((min (max (l.getD n default-F+sizeH (atH h (l.getD n default)).fst) 0) (↑(cwN h F l c n).length:Int)).toNat-(min (max (l.getD n default-F) 0) (↑(cwN h F l c n).length:Int)).toNat) 0++List.drop ((min (max (l.getD n default-F) 0) (↑(cwN h F l c n).length:Int)).toNat+(List.replicate ((min (max (l.getD n default-F+sizeH (atH h (l.getD n default)).fst) 0) (↑(cwN h F l c n).length:Int)).toNat-(min (max (l.getD n default-F) 0) (↑(cwN h F l c n).length:Int)).toNat) 0).length) (cwN h F l c n))) (Fx 80 n (Fr (39:Int) (Fa (by refine congrArg _ ?_;rw[e7];simp only[clrW,loC,List.length_replicate]:List.map wdv (List.take (min (max (l.getD n default-F) 0) (↑(cwN h F l c n).length:Int)).toNat (cwN h F l c n)++List.replicate ((min (max (l.getD n default-F+sizeH (atH h (l.getD n default)).fst) 0) (↑(cwN h F l c n).length:Int)).toNat-(min (max (l.getD n default-F) 0) (↑(cwN h F l c n).length:Int)).toNat) 0++List.drop ((min (max (l.getD n default-F) 0) (↑(cwN h F l c n).length:Int)).toNat+(List.replicate ((min (max (l.getD n default-F+sizeH (atH h (l.getD n default)).fst) 0) (↑(cwN h F l c n).length:Int)).toNat-(min (max (l.getD n default-F) 0) (↑(cwN h F l c n).length:Int)).toNat) 0).length) (cwN h F l c n))=List.map wdv (cwN h F l c (n+1))) Fz)))))))))))))))))))))
theorem ZnH(h:Heap)(F:Int)(l c:List Int):CSpec Tryz.prog (rndF Tryz.f94 0) (adL h F l c l.length).st (.ext 0) (Tg.st ⟨tm 90 [(4,u64 0),(5,bool false),(6,u64 F),(8,.ow 25033)],[(25033,.arr 39 1 ((cwN h F l c l.length).map wdv))],60⟩):=by
 exact sF [] [] (Ffb 47 (decide ((↑l.length:Int)<(↑l.length:Int))) Fz)
theorem Zns(h:Heap)(F:Int)(l c:List Int)(hw:WOk h.words)(hF:0≤F∧F≤8192)(hl:l.length≤1048576)(hc:c.length≤64)(hr:∀ x∈l,0≤x∧x≤8192):CSpec Tryz.prog (blkF Tryz.f94 0) (Tg.st ⟨tm 90 [(2,.pt 8002 0 0),(4,u64 0),(5,bool false),(6,u64 F),(8,.ow 25033),(44,Z01 l),(45,int l.length),(46,int 0)],[(25033,.arr 39 1 (c.map wdv)),(8002,.box 28 h.cells)],60⟩) .nrm
  (Tg.st ⟨tm 90 [(4,u64 0),(5,bool false),(6,u64 F),(8,.ow 25033)],[(25033,.arr 39 1 ((cwN h F l c l.length).map wdv))],60⟩) :=
 Z0c (S:=fun n=>(adL h F l c n).st) l.length (by kernel_rfl) (fun n hn=>Zmc h F l c n hw hF hl hc hr hn) (ZnH h F l c)
def rawP(h:Heap)(i:Nat):List Int:=(h.words.drop ((address h.conf i 0).1-4096).toNat).take h.conf.pw.toNat
def clrP(h:Heap)(i:Nat):List Int:=cwN h (address h.conf i 0).1 (Z06 h (Z0s h.pages i:Nat)).1 (rawP h i) (Z06 h (Z0s h.pages i:Nat)).1.length
theorem auditDirt(h:Heap)(i:Nat)(hw:WOk h.words)(hp:Z02 h=true)(hi:i<h.pages.length):GSpec Tryz.prog 94 [h.av,int i] true (.tu [u64 ((address h.conf i 0).1+max (idxW (clrP h i)) 0),bool (decide (0≤idxW (clrP h i)))]) []:=by
 have po:=Z07 hp
 have ea:(address h.conf i 0).1=4096+i*h.conf.pw:=by
  unfold address
  rw[if_pos po.1,if_pos (inB_iff.2 (by omega))]
  simp only;omega
 have ap:=Z2x po.1 (i:=i) (by omega) (by omega)
 have hh:=Z7o h.pages i
 have hx:(i:Int)*h.conf.pw+h.conf.pw≤h.words.length:=by
  have h1:((i:Int)+1)*h.conf.pw≤h.conf.pg*h.conf.pw:=Int.mul_le_mul_of_nonneg_right (by omega) (by omega)
  have h2:((i:Int)+1)*h.conf.pw=i*h.conf.pw+h.conf.pw:=by rw[Int.add_mul,Int.one_mul]
  have h3:h.conf.pg*h.conf.pw=h.conf.pw*h.conf.pg:=Int.mul_comm _ _
  omega
 have hr:=Z2y hp (Z0s h.pages i:Nat)
 have hn:=Z2C h (Z0s h.pages i:Nat)
 have hlen:(clrP h i).length≤64:=by
  rw[clrP,Z7P,rawP,List.length_take];omega
 have hix:idxW (clrP h i)≤64∧-1≤idxW (clrP h i):=by
  have:fstW (clrP h i)≤(clrP h i).length:=(List.takeWhile_sublist _).length_le
  unfold idxW;split<;>omega
 have hrl:(rawP h i).length≤64:=by rw[rawP,List.length_take];omega
 unfold clrP rawP at *
 exact gF [] Tryz.func94 [] (Fc 23 (@Z4g h.conf ((↑i:Int)) (0)) (Fc 33 (@ZfF h.words ((address h.conf (↑i:Int) 0).fst) h.conf.pw (by omega) (by omega)) (Fc 40 (@ZhU h i ‹_› ‹_›) (Fc 41 (@Z3g h ((↑(Z0s h.pages i):Int)) ‹_› (by omega)) (Fl 45 wdv (Z06 h (↑(Z0s h.pages i):Int)).fst (Fu (@Zns h ((address h.conf (↑i:Int) 0).fst) ((Z06 h (↑(Z0s h.pages i):Int)).fst) (List.take h.conf.pw.toNat (List.drop ((address h.conf (↑i:Int) 0).fst-4096).toNat h.words)) ‹_› (by omega) (by omega) ‹_› ‹_›) (Fc 82 (@Znr (cwN h (address h.conf (↑i:Int) 0).fst (Z06 h (↑(Z0s h.pages i):Int)).fst (List.take h.conf.pw.toNat (List.drop ((address h.conf (↑i:Int) 0).fst-4096).toNat h.words)) (Z06 h (↑(Z0s h.pages i):Int)).fst.length) (by omega)) (Fgo 85 (if 0 > idxW (cwN h (address h.conf (↑i:Int) 0).fst (Z06 h (↑(Z0s h.pages i):Int)).fst (List.take h.conf.pw.toNat (List.drop ((address h.conf (↑i:Int) 0).fst-4096).toNat h.words)) (Z06 h (↑(Z0s h.pages i):Int)).fst.length)then 0 else idxW (cwN h (address h.conf (↑i:Int) 0).fst (Z06 h (↑(Z0s h.pages i):Int)).fst (List.take h.conf.pw.toNat (List.drop ((address h.conf (↑i:Int) 0).fst-4096).toNat h.words)) (Z06 h (↑(Z0s h.pages i):Int)).fst.length)) (max (idxW (cwN h (address h.conf (↑i:Int) 0).fst (Z06 h (↑(Z0s h.pages i):Int)).fst (List.take h.conf.pw.toNat (List.drop ((address h.conf (↑i:Int) 0).fst-4096).toNat h.words)) (Z06 h (↑(Z0s h.pages i):Int)).fst.length)) 0) (Fv 86 (max (idxW (cwN h (address h.conf (↑i:Int) 0).fst (Z06 h (↑(Z0s h.pages i):Int)).fst (List.take h.conf.pw.toNat (List.drop ((address h.conf (↑i:Int) 0).fst-4096).toNat h.words)) (Z06 h (↑(Z0s h.pages i):Int)).fst.length)) 0) (Fv 87 ((address h.conf (↑i:Int) 0).fst+max (idxW (cwN h (address h.conf (↑i:Int) 0).fst (Z06 h (↑(Z0s h.pages i):Int)).fst (List.take h.conf.pw.toNat (List.drop ((address h.conf (↑i:Int) 0).fst-4096).toNat h.words)) (Z06 h (↑(Z0s h.pages i):Int)).fst.length)) 0) Fz))))))))))
def unS(fn:Func):Func:=match fn.body with
 | some (.seq x (.scope c)) => { fn with body:=some (.seq x c) }
 | _=>fn
def firS(fn:Func):Code:=match fn.body with
 | some (.seq x _)=>x
 | _=>.skip
def bdyS(fn:Func):Code:=match fn.body with
 | some (.seq _ c)=>c
 | _=>.skip
theorem ZiI{P:Program}{c:Code}{n m:Nat}{s t:St}(hmn:m≠n)(h:CSpec P c s (.ext m) t):CSpec P (.block n c) s (.ext m) t:=by
 intro Ow Im0 w0 a w hS
 refine wp_block (wp_mono (h Ow Im0 w0 a w hS) ?_)
 rintro e a' w' ⟨rfl,hS'⟩
 show(if m=n then _ else _)
 rw[if_neg hmn]
 exact⟨rfl,hS'⟩
theorem ZdI{P:Program}{fn:Func}{b m:Nat}{S:Nat→St}{t:St}(n:Nat)(hb:Z6f b (blkF fn b)=true)(hm:m≠b)(h:∀ i,i<n→CSpec P (rndF fn b) (S i) .nrm (S (i+1)))(hn:CSpec P (rndF fn b) (S n) (.ext m) t):CSpec P (blkF fn b) (S 0) (.ext m) t:=by
 rw[Z6z hb]
 exact ZiI hm (Zd2 (ZcX n h (fun h=>nomatch h) hn))
def fdV(h:Heap)(a k:Int):Int:=(loadA h.words (a+1+k)).1
def pbad(h:Heap)(all:List Int)(a k:Int):Bool:=(fdV h a k != 0)&&!decide (fdV h a k∈all)
theorem pbad_yes{h:Heap}{all:List Int}{a k:Int}:pbad h all a k=true↔¬ fdV h a k=0∧¬ fdV h a k∈all:=by simp[pbad]
theorem pbad_no{h:Heap}{all:List Int}{a k:Int}:pbad h all a k=false↔fdV h a k=0∨fdV h a k∈all:=by
 by_cases h1:fdV h a k=0<;>by_cases h2:fdV h a k∈all<;>simp[pbad,h1,h2]
def yJ(a:Int)(P:List Int):Nat→Int
 | 0=>0
 | j+1=>a+1+P.getD j default
def apI(h:Heap)(all:List Int)(i:Nat)(a:Int)(P:List Int)(j:Nat):Tg:=⟨tm 83 [(1,.pt 8001 0 0),(2,.pt 8002 0 0),(3,Z01 all),(5,u64 (yJ a P j)),(7,u64 a),(24,Z01 all),(25,int all.length),(26,int i),(37,Z0P P),(38,int P.length),(39,int j)],[(8002,.box 64 [int 0,int 0,u64 0]),(8001,.box 28 h.cells)],64⟩
section
variable (h:Heap) (all:List Int) (i:Nat) (a:Int) (P:List Int) (j:Nat) (hw:WOk h.words) (hwl:h.words.length≤1048576) (hl:all.length≤1048576) (hs:all.Pairwise (· < ·)) (ha:0≤a∧a≤8192) (hP:P.length≤256) (hk:0≤P.getD j default∧P.getD j default≤256) (hj:j<P.length)
include hw hwl hl hs ha hP hk hj
theorem ZeY(hb:pbad h all a (P.getD j default)=false):CSpec Tryz.prog (rndF (unS Tryz.f58) 2) (apI h all i a P j).st .nrm (apI h all i a P (j+1)).st:=by
 have ey:yJ a P (j+1)=a+1+P.getD j default:=rfl
 have hb':=pbad_no.1 hb
 unfold fdV at hb'
 clear hb
 generalize hy:yJ a P (j+1)=y1 at ey
 unfold apI
 rw[hy]
 rcases hb' with hb | hb
 ·exact sF [] [false,false,false,false,false,true] (Ftb 40 (decide ((↑j:Int)<(↑P.length:Int))) (Fek 41 idv P (↑j) j (Fv 44 (a+1) (Fv 46 (P.getD j default) (Fv 47 (a+1+P.getD j default) (Fc 52 (@Z68 h.words (a+1+P.getD j default) ‹_› (by omega)) (Fc 58 (@bsearch all ((loadA h.words (a+1+P.getD j default)).fst) ‹_› ‹_›) (Ffb 66 ((loadA h.words (a+1+P.getD j default)).fst != 0&&!decide ((loadA h.words (a+1+P.getD j default)).fst∈all)) (Fx 67 j (Fa ‹a+1+P.getD j default=y1› Fz))))))))))
 ·exact sF [] [false,false,false,false,false,true] (Ftb 40 (decide ((↑j:Int)<(↑P.length:Int))) (Fek 41 idv P (↑j) j (Fv 44 (a+1) (Fv 46 (P.getD j default) (Fv 47 (a+1+P.getD j default) (Fc 52 (@Z68 h.words (a+1+P.getD j default) ‹_› (by omega)) (Fc 58 (@bsearch all ((loadA h.words (a+1+P.getD j default)).fst) ‹_› ‹_›) (Ff 66 (by simp only[bs, *,true_or,or_true,true_and,and_true,not_true_eq_false,not_false_eq_true,Bool.true_eq_false,Bool.false_eq_true]:((loadA h.words (a+1+P.getD j default)).fst != 0&&!decide ((loadA h.words (a+1+P.getD j default)).fst∈all))=false) (Fx 67 j (Fa ‹a+1+P.getD j default=y1› Fz))))))))))
theorem ZjE(hb:pbad h all a (P.getD j default)=true):CSpec Tryz.prog (rndF (unS Tryz.f58) 2) (apI h all i a P j).st (.ext 0) (Tg.st ⟨tm 83 [(1,.pt 8001 0 0),(2,.pt 8002 0 0),(5,u64 (a+1+P.getD j default))],[(8002,.box 64 [int 0,int 0,u64 0]),(8001,.box 28 h.cells)],68⟩):=by
 obtain⟨hb1,hb2⟩:=pbad_yes.1 hb
 unfold fdV at hb1 hb2
 clear hb
 exact sF [] [] (Ftb 40 (decide ((↑j:Int)<(↑P.length:Int))) (Fek 41 idv P (↑j) j (Fv 44 (a+1) (Fv 46 (P.getD j default) (Fv 47 (a+1+P.getD j default) (Fc 52 (@Z68 h.words (a+1+P.getD j default) ‹_› (by omega)) (Fc 58 (@bsearch all ((loadA h.words (a+1+P.getD j default)).fst) ‹_› ‹_›) (Ft 66 (by simp only[bs, *,true_or,or_true,true_and,and_true,not_true_eq_false,not_false_eq_true,Bool.true_eq_false,Bool.false_eq_true]:((loadA h.words (a+1+P.getD j default)).fst != 0&&!decide ((loadA h.words (a+1+P.getD j default)).fst∈all))=true) Fz))))))))
end
theorem Zny(h:Heap)(all:List Int)(i:Nat)(a:Int)(P:List Int):CSpec Tryz.prog (rndF (unS Tryz.f58) 2) (apI h all i a P P.length).st (.ext 2) (Tg.st ⟨tm 83 [(1,.pt 8001 0 0),(2,.pt 8002 0 0),(3,Z01 all),(24,Z01 all),(25,int all.length),(26,int i)],[(8002,.box 64 [int 0,int 0,u64 0]),(8001,.box 28 h.cells)],68⟩):=by
 exact sF [] [] (Ffb 40 (decide ((↑P.length:Int)<(↑P.length:Int))) Fz)
theorem Zm1(h:Heap)(all:List Int)(i:Nat)(a:Int)(P:List Int)(hw:WOk h.words)(hwl:h.words.length≤1048576)(hl:all.length≤1048576)(hs:all.Pairwise (· < ·))(ha:0≤a∧a≤8192)(hP:P.length≤256)(hk:∀ k∈P,0≤k∧k≤256)(hf:P.find? (pbad h all a)=none) :
  CSpec Tryz.prog (blkF (unS Tryz.f58) 2) (Tg.st ⟨tm 83 [(1,.pt 8001 0 0),(2,.pt 8002 0 0),(3,Z01 all),(5,u64 0),(7,u64 a),(24,Z01 all),(25,int all.length),(26,int i),(37,Z0P P),(38,int P.length),(39,int 0)],[(8002,.box 64 [int 0,int 0,u64 0]),(8001,.box 28 h.cells)],64⟩) .nrm (Tg.st ⟨tm 83 [(1,.pt 8001 0 0),(2,.pt 8002 0 0),(3,Z01 all),(24,Z01 all),(25,int all.length),(26,int i)],[(8002,.box 64 [int 0,int 0,u64 0]),(8001,.box 28 h.cells)],68⟩) :=
 Z0c (S:=fun j=>(apI h all i a P j).st) P.length (by kernel_rfl) (fun j hj=>ZeY h all i a P j hw hwl hl hs ha hP (hk _ (getD_mem_iff.2 ⟨j,hj,rfl⟩)) hj (Z6C hf j hj)) (Zny h all i a P)
theorem ZiS(h:Heap)(all:List Int)(i:Nat)(a:Int)(P:List Int)(x:Int)(hw:WOk h.words)(hwl:h.words.length≤1048576)(hl:all.length≤1048576)(hs:all.Pairwise (· < ·))(ha:0≤a∧a≤8192)(hP:P.length≤256)(hk:∀ k∈P,0≤k∧k≤256)(hf:P.find? (pbad h all a)=some x) :
  CSpec Tryz.prog (blkF (unS Tryz.f58) 2) (Tg.st ⟨tm 83 [(1,.pt 8001 0 0),(2,.pt 8002 0 0),(3,Z01 all),(5,u64 0),(7,u64 a),(24,Z01 all),(25,int all.length),(26,int i),(37,Z0P P),(38,int P.length),(39,int 0)],[(8002,.box 64 [int 0,int 0,u64 0]),(8001,.box 28 h.cells)],64⟩) (.ext 0) (Tg.st ⟨tm 83 [(1,.pt 8001 0 0),(2,.pt 8002 0 0),(5,u64 (a+1+x))],[(8002,.box 64 [int 0,int 0,u64 0]),(8001,.box 28 h.cells)],68⟩):=by
 obtain⟨n,h1,h2,h3,h4⟩:=Z3s hf
 subst h2
 exact ZdI (S:=fun j=>(apI h all i a P j).st) n (by kernel_rfl) (by decide) (fun j hj=>ZeY h all i a P j hw hwl hl hs ha hP (hk _ (getD_mem_iff.2 ⟨j,by omega,rfl⟩)) (by omega) (h4 j hj)) (ZjE h all i a P n hw hwl hl hs ha hP (hk _ (getD_mem_iff.2 ⟨n,h1,rfl⟩)) h1 h3)
def apF(h:Heap)(all:List Int)(a:Int):Option Int:=(Z08 (atH h a).1).find? (pbad h all a)
def apL(h:Heap)(all:List Int)(i:Nat):Tg:=⟨tm 83 [(1,.pt 8001 0 0),(2,.pt 8002 0 0),(3,Z01 all),(5,u64 0),(24,Z01 all),(25,int all.length),(26,int i)],[(8002,.box 64 [int 0,int 0,u64 0]),(8001,.box 28 h.cells)],60⟩
theorem Z6G(h:Header):∀ n:Nat,∀ k∈Z0V h n,0≤k∧k<n
 | 0,k,hk=>by simp[Z0V]at hk
 | n+1,k,hk=>by
  unfold Z0V at hk
  split at hk
  ·rcases List.mem_append.1 hk with hk | hk
   ·have:=Z6G h n k hk;omega
   ·simp only[List.mem_cons,List.not_mem_nil,or_false]at hk;omega
  ·have:=Z6G h n k hk;omega
theorem Z4h(h:Header):(Z08 h).length≤256∧∀ k∈Z08 h,0≤k∧k≤256:=by
 rw[← Z7c]
 have hs:=Z17 h
 have h1:=Z40 h (sizeH h).toNat
 exact⟨by omega,fun k hk=>by have:=Z6G h _ k hk;omega⟩
section
variable (h:Heap) (all:List Int) (i:Nat) (hw:WOk h.words) (hwl:h.words.length≤1048576) (hl:all.length≤1048576) (hs:all.Pairwise (· < ·)) (hr:∀ x∈all,0≤x∧x≤8192) (hi:i<all.length)
include hw hwl hl hs hr hi
theorem Ziu(hb:apF h all (all.getD i default)=none):CSpec Tryz.prog (rndF (unS Tryz.f58) 0) (apL h all i).st .nrm (apL h all (i+1)).st:=by
 have hx:=hr (all.getD i default) (getD_mem_iff.2 ⟨i,hi,rfl⟩)
 have hm:=Z3b hw (all.getD i default)
 have hq:=Z4h (atH h (all.getD i default)).1
 have hq1:=hq.1
 have hq2:=hq.2
 unfold apF at hb
 exact sF [] [] (Fk (2,Tg.mk (tm 83 [(1,AV.pt 8001 0 0),(2,AV.pt 8002 0 0),(3,Z01 all),(5,u64 0),(7,u64 (all.getD i default)),(24,Z01 all),(25,int ↑all.length),(26,int ↑i),(37,Z0P (Z08 (atH h (all.getD i default)).fst)),(38,int (↑(Z08 (atH h (all.getD i default)).fst).length:Int)),(39,int 0)]) [(8002,Blk.box 64 [int 0,int 0,u64 0]),(8001,Blk.box 28 h.cells)] 64,Ex.nrm,Tg.mk (tm 83 [(1,AV.pt 8001 0 0),(2,AV.pt 8002 0 0),(3,Z01 all),(24,Z01 all),(25,int ↑all.length),(26,int ↑i)]) [(8002,Blk.box 64 [int 0,int 0,u64 0]),(8001,Blk.box 28 h.cells)] 68) (Ftb 27 (decide ((↑i:Int)<(↑all.length:Int))) (Fek 28 wdv all (↑i) i (Fc 33 (@Z3w h (all.getD i default) ‹_› (by omega)) (Fc 37 (@Z5z ((atH h (all.getD i default)).fst) ‹_›) (Fl 38 idv (Z08 (atH h (all.getD i default)).fst) (Fa (@Zm1 h all i (all.getD i default) (Z08 (atH h (all.getD i default)).fst) ‹_› ‹_› ‹_› ‹_› ‹_› ‹_› ‹_› ‹_›) (Fx 68 i Fz))))))))
theorem Zmo(x:Int)(hb:apF h all (all.getD i default)=some x):CSpec Tryz.prog (rndF (unS Tryz.f58) 0) (apL h all i).st (.ext 0) (Tg.st ⟨tm 83 [(1,.pt 8001 0 0),(2,.pt 8002 0 0),(5,u64 (all.getD i default+1+x))],[(8002,.box 64 [int 0,int 0,u64 0]),(8001,.box 28 h.cells)],72⟩):=by
 have hx:=hr (all.getD i default) (getD_mem_iff.2 ⟨i,hi,rfl⟩)
 have hm:=Z3b hw (all.getD i default)
 have hq:=Z4h (atH h (all.getD i default)).1
 have hq1:=hq.1
 have hq2:=hq.2
 unfold apF at hb
 exact sF [] [] (Fk (2,Tg.mk (tm 83 [(1,AV.pt 8001 0 0),(2,AV.pt 8002 0 0),(3,Z01 all),(5,u64 0),(7,u64 (all.getD i default)),(24,Z01 all),(25,int ↑all.length),(26,int ↑i),(37,Z0P (Z08 (atH h (all.getD i default)).fst)),(38,int (↑(Z08 (atH h (all.getD i default)).fst).length:Int)),(39,int 0)]) [(8002,Blk.box 64 [int 0,int 0,u64 0]),(8001,Blk.box 28 h.cells)] 64,Ex.ext 0,Tg.mk (tm 83 [(1,AV.pt 8001 0 0),(2,AV.pt 8002 0 0),(5,u64 (all.getD i default+1+x))]) [(8002,Blk.box 64 [int 0,int 0,u64 0]),(8001,Blk.box 28 h.cells)] 68) (Ftb 27 (decide ((↑i:Int)<(↑all.length:Int))) (Fek 28 wdv all (↑i) i (Fc 33 (@Z3w h (all.getD i default) ‹_› (by omega)) (Fc 37 (@Z5z ((atH h (all.getD i default)).fst) ‹_›) (Fl 38 idv (Z08 (atH h (all.getD i default)).fst) (Fa (@ZiS h all i (all.getD i default) (Z08 (atH h (all.getD i default)).fst) x ‹_› ‹_› ‹_› ‹_› ‹_› ‹_› ‹_› ‹_›) Fz)))))))
end
theorem ZnB(h:Heap)(all:List Int):CSpec Tryz.prog (rndF (unS Tryz.f58) 0) (apL h all all.length).st (.ext 0) (Tg.st ⟨tm 83 [(1,.pt 8001 0 0),(2,.pt 8002 0 0),(5,u64 0)],[(8002,.box 64 [int 0,int 0,u64 0]),(8001,.box 28 h.cells)],72⟩):=by
 exact sF [] [] (Ffb 27 (decide ((↑all.length:Int)<(↑all.length:Int))) Fz)
theorem ZmO(h:Heap)(all:List Int)(hw:WOk h.words)(hwl:h.words.length≤1048576)(hl:all.length≤1048576)(hs:all.Pairwise (· < ·))(hr:∀ x∈all,0≤x∧x≤8192)(hf:all.find? (fun a=>(apF h all a).isSome)=none):CSpec Tryz.prog (blkF (unS Tryz.f58) 0) (Tg.st ⟨tm 83 [(1,.pt 8001 0 0),(2,.pt 8002 0 0),(3,Z01 all),(5,u64 0),(24,Z01 all),(25,int all.length),(26,int 0)],[(8002,.box 64 [int 0,int 0,u64 0]),(8001,.box 28 h.cells)],60⟩) .nrm (Tg.st ⟨tm 83 [(1,.pt 8001 0 0),(2,.pt 8002 0 0),(5,u64 0)],[(8002,.box 64 [int 0,int 0,u64 0]),(8001,.box 28 h.cells)],72⟩) :=
 Z0c (S:=fun i=>(apL h all i).st) all.length (by kernel_rfl) (fun i hi=>Ziu h all i hw hwl hl hs hr hi (by simpa using Z6C hf i hi)) (ZnB h all)
theorem Zmg(h:Heap)(all:List Int)(a x:Int)(hw:WOk h.words)(hwl:h.words.length≤1048576)(hl:all.length≤1048576)(hs:all.Pairwise (· < ·))(hr:∀ x∈all,0≤x∧x≤8192)(hf:all.find? (fun a=>(apF h all a).isSome)=some a)(hx:apF h all a=some x):CSpec Tryz.prog (blkF (unS Tryz.f58) 0) (Tg.st ⟨tm 83 [(1,.pt 8001 0 0),(2,.pt 8002 0 0),(3,Z01 all),(5,u64 0),(24,Z01 all),(25,int all.length),(26,int 0)],[(8002,.box 64 [int 0,int 0,u64 0]),(8001,.box 28 h.cells)],60⟩) .nrm (Tg.st ⟨tm 83 [(1,.pt 8001 0 0),(2,.pt 8002 0 0),(5,u64 (a+1+x))],[(8002,.box 64 [int 0,int 0,u64 0]),(8001,.box 28 h.cells)],72⟩):=by
 obtain⟨n,h1,h2,h3,h4⟩:=Z3s hf
 subst h2
 exact Z0c (S:=fun i=>(apL h all i).st) n (by kernel_rfl) (fun i hi=>Ziu h all i hw hwl hl hs hr (by omega) (by simpa using h4 i hi)) (Zmo h all n hw hwl hl hs hr h1 x hx)
theorem ZnE(h:Heap):CSpec Tryz.prog (firS (unS Tryz.f58)) (Tg.st ⟨tm 83 [(0,h.av)],[],1⟩) .nrm (Tg.st ⟨tm 83 [(1,.pt 8001 0 0),(2,.pt 8002 0 0)],[(8002,.box 64 [int 0,int 0,u64 0]),(8001,.box 28 h.cells)],20⟩):=by
 exact sF [] [] Fz
def apAt(h:Heap):Int:=match (Z04 h).1.find? (fun a=>(apF h (Z04 h).1 a).isSome)with
 | some a=>a+1+(apF h (Z04 h).1 a).getD 0
 | none=>0
def apW(h:Heap):Finding:=if apAt h=0 then⟨0,0,0⟩else⟨6,(ofA h.conf (apAt h)).1,apAt h⟩
theorem ZnI(h:Heap)(hw:WOk h.words)(hwl:h.words.length≤1048576):CSpec Tryz.prog (bdyS (unS Tryz.f58)) (Tg.st ⟨tm 83 [(1,.pt 8001 0 0),(2,.pt 8002 0 0)],[(8002,.box 64 [int 0,int 0,u64 0]),(8001,.box 28 h.cells)],20⟩) .ret (Tg.st ⟨tm 83 [(2,.pt 8002 0 0)],[(8002,.box 64 [int (apW h).fault,int (apW h).page,u64 (apW h).addr])],90⟩):=by
 have hl:=Z39 h
 have hs:=ZdO h
 have hr:=Z3Q h
 cases hf:(Z04 h).1.find? (fun a=>(apF h (Z04 h).1 a).isSome)with
 | none =>
  have e1:apAt h=0:=by simp only[apAt,hf]
  have e7:apW h=⟨0,0,0⟩:=if_pos e1
  rw[e7]
  exact sF [] [] (Fk (0,Tg.mk (tm 83 [(1,AV.pt 8001 0 0),(2,AV.pt 8002 0 0),(3,Z01 (Z04 h).fst),(5,u64 0),(24,Z01 (Z04 h).fst),(25,int (↑(Z04 h).fst.length:Int)),(26,int 0)]) [(8002,Blk.box 64 [int 0,int 0,u64 0]),(8001,Blk.box 28 h.cells)] 60,Ex.nrm,Tg.mk (tm 83 [(1,AV.pt 8001 0 0),(2,AV.pt 8002 0 0),(5,u64 0)]) [(8002,Blk.box 64 [int 0,int 0,u64 0]),(8001,Blk.box 28 h.cells)] 72) (Fc 21 (@Z7D h ‹_›) (Fl 25 wdv (Z04 h).fst (Fa (@ZmO h ((Z04 h).fst) ‹_› ‹_› (by omega) ‹_› ‹_› ‹_›) Fz))))
 | some a =>
  obtain⟨n,h1,h2,h3,h4⟩:=Z3s hf
  obtain⟨x,hx⟩:=Option.isSome_iff_exists.1 h3
  have ha:=hr a (getD_mem_iff.2 ⟨n,h1,h2⟩)
  have hxr:=(Z4h (atH h a).1).2 x (List.mem_of_find?_eq_some hx)
  have e1:apAt h=a+1+x:=by simp only[apAt,hf,hx,Option.getD_some]
  have e7:apW h=⟨6,(ofA h.conf (a+1+x)).1,a+1+x⟩:=by rw[apW,e1,if_neg (by omega)]
  rw[e7]
  exact sF [] [] (Fk (0,Tg.mk (tm 83 [(1,AV.pt 8001 0 0),(2,AV.pt 8002 0 0),(3,Z01 (Z04 h).fst),(5,u64 0),(24,Z01 (Z04 h).fst),(25,int (↑(Z04 h).fst.length:Int)),(26,int 0)]) [(8002,Blk.box 64 [int 0,int 0,u64 0]),(8001,Blk.box 28 h.cells)] 60,Ex.nrm,Tg.mk (tm 83 [(1,AV.pt 8001 0 0),(2,AV.pt 8002 0 0),(5,u64 (a+1+x))]) [(8002,Blk.box 64 [int 0,int 0,u64 0]),(8001,Blk.box 28 h.cells)] 72) (Fc 21 (@Z7D h ‹_›) (Fl 25 wdv (Z04 h).fst (Fa (@Zmg h ((Z04 h).fst) a x ‹_› ‹_› (by omega) ‹_› ‹_› ‹_› ‹_›) (Ffb 70 (a+1+x==0) (Fc 76 (@Z3D h.conf (a+1+x) (by omega) (by omega)) Fz))))))
end Go.Proofs.YtjflpmnenhdeeaaGreat
namespace Go.Proofs.YtjflpmnenhdeeaaGreat
open Go.Sx Go.RowKit
def Finding.val(f:Finding):Value:=.agg #[.int .i64 f.fault,.int .i64 f.page,.int .u64 f.addr]
theorem ZdR(ρ:Rho)(w:World)(Im:Nat→Prop)(f:Finding):Rel ρ w Im f.av f.val:=by
 refine .ag _ _ rfl (fun i v h=>?_) (fun i a v ha hv=>?_)
 ·rcases i with _ | _ | _ | i<;>simp at h<;>subst h<;>rfl
 ·rcases i with _ | _ | _ | i<;>simp at ha hv<;>subst ha<;>subst hv<;>exact .d (.sc _ rfl)
theorem Zgo{ρ:Rho}{w:World}{Im:Nat→Prop}{f:Finding}{v:Value}(h:Rel ρ w Im f.av v):v=f.val:=by
 obtain⟨cs,h1,h2,h3,h4⟩:=Z3e h
 rw[h1]
 have g:∀ (k:Nat) (hk:k<cs.size) (v:Value),[int f.fault,int f.page,u64 f.addr][k]? = some (.d (.sc v))→cs[k]=v:=fun k hk v hv=>Z0C (h4 k _ cs[k] hv (Array.getElem?_eq_getElem hk))
 have hs:cs.size=3:=h2
 simp only[Finding.val]
 congr 1
 apply Array.ext
 ·simp[hs]
 ·intro k hk _
  rcases k with _ | _ | _ | k
  ·exact g 0 hk _ rfl
  ·exact g 1 hk _ rfl
  ·exact g 2 hk _ rfl
  ·omega
theorem noGoto_ret{Q:Exit→Act→World→Prop}{a:Act}{w:World}(h:Q .ret a w):Exit.noGoto Q Ex.ret.exit a w:=h
theorem Z4c(h:Heap)(hw:WOk h.words)(hwl:h.words.length≤1048576):GSpec Tryz.prog 58 [h.av] true (apW h).av []:=by
 intro w00 Im vs hIm hsz hargs
 have hs1:vs.size=1:=hsz
 have hbody:Tryz.f58.body=some (.seq (firS (unS Tryz.f58)) (.scope (bdyS (unS Tryz.f58)))):=by kernel_rfl
 refine calls_of_wp Tryz.func58 hbody ?_
 have S0:Sx.Sys (fun _=>False) Im w00 (tm 83 [(0,h.av)]) (hOf []) 1 { tmps:=vs++Array.replicate (Tryz.f58.ntmps-vs.size) undef,defers:=[] } w00:=by
  refine⟨_,Im,Sx.Inv.empty hIm (Nat.le_refl 1),⟨by rw[hs1];simp[hs1];kernel_rfl,fun k y v hy hv=>?_,rfl⟩⟩
  rw[show tm 83 [(0,h.av)]=[h.av]++List.replicate 82 .any from by kernel_rfl,List.getElem?_append]at hy
  rw[Array.getElem?_append]at hv
  split at hy
  ·rename_i hk
   rw[if_pos (by rw[hsz];exact hk)]at hv
   exact hargs k y v hy hv
  ·have:=List.mem_of_getElem? hy
   rw[(List.mem_replicate.1 this).2]
   exact .any _
 refine wp_seq (wp_mono (ZnE h _ _ _ _ _ S0) ?_)
 rintro e a1 w1 ⟨rfl,S1⟩
 refine wp_scope_straight (wp_mono (ZnI h hw hwl _ _ _ _ _ S1) ?_)
 rintro e a2 w2 ⟨rfl,ρ2,Im2,I2,T2⟩
 obtain⟨v,hv1,hv2⟩:=Z6W (P:=Tryz.prog) (fn:=Tryz.f58) (l:=[(apW h).av]) I2 T2 (by kernel_rfl)
 refine noGoto_ret (bodyPost_ret hv1 T2.defers ⟨v,rfl,I2.kept,fun _=>none,fun _=>False,fun _ q=>q.elim,fun _ q=>q.elim,fun _ _ _ q=>(by cases q),fun _ _ _ _ _ q=>(by cases q),fun _ _ q=>(by cases q),fun k B q=>by simp at q, ?_⟩)
 rw[Zgo (show Rel ρ2 w2 Im2 (apW h).av v from hv2)]
 exact ZdR _ _ _ _
end Go.Proofs.YtjflpmnenhdeeaaGreat
namespace Go.Proofs.YtjflpmnenhdeeaaGreat
open Go.Sx
theorem Zjw{c:List Int}{x k:Int}(hk:0≤k){o:Nat}(ho:o<c.length):(clrW c x k).getD o 0=if x≤o∧(o:Int)<x+k then 0 else c.getD o 0:=by
 have h1:loC c x≤c.length:=Zej c x
 have h2:loC c (x+k)≤c.length:=Zej c (x+k)
 have h3:=ZeM c x hk
 have e1:loC c x+(loC c (x+k)-loC c x)=loC c (x+k):=by omega
 have a1:o<loC c x↔(o:Int)<x:=by unfold loC;omega
 have a2:o<loC c (x+k)↔(o:Int)<x+k:=by unfold loC;omega
 unfold clrW
 rw[e1]
 simp only[List.getD_eq_getElem?_getD]
 by_cases h4:o<loC c x
 ·rw[List.append_assoc,List.getElem?_append_left (by simp;omega),List.getElem?_take,if_pos h4,if_neg (by have:=a1.1 h4;omega)]
 ·by_cases h5:o<loC c (x+k)
  ·rw[List.getElem?_append_left (by simp;omega),List.getElem?_append_right (by simp;omega),if_pos (by have:=a2.1 h5;omega)]
   rw[List.getElem?_replicate,if_pos (by simp;omega)]
   rfl
  ·rw[List.getElem?_append_right (by simp;omega),List.getElem?_drop,if_neg (fun q=>h5 (a2.2 q.2))]
   congr 2
   simp
   omega
theorem Zhm{h:Heap}{F:Int}{l c:List Int}{o:Nat}(ho:o<c.length):∀ n:Nat,n≤l.length→(cwN h F l c n).getD o 0=if(l.take n).any (fun a=>decide (a-F≤o)&&decide ((o:Int)<a-F+Z3J h a))=true then 0 else c.getD o 0
 | 0,_=>by simp[cwN]
 | n+1,hn=>by
  have hl:=Z7P h F l c n
  rw[cwN,Zjw (Z8I h _).1 (by omega),Zhm ho n (by omega),Z8s (by omega),List.any_append]
  generalize l.getD n default=a
  generalize (l.take n).any _=b
  by_cases h1:a-F≤o∧(o:Int)<a-F+Z3J h a
  ·rw[if_pos h1,if_pos (by simp[h1])]
  ·rw[if_neg h1]
   have:([a].any fun a=>decide (a-F≤(o:Int))&&decide ((o:Int)<a-F+Z3J h a))=false:=by
    simp only[List.any_cons,List.any_nil,Bool.or_false,Bool.and_eq_false_iff,decide_eq_false_iff_not]
    omega
   rw[this,Bool.or_false]
theorem Zb1{h:Heap}(hp:Z02 h=true){i:Nat}(hi:i<h.pages.length){o:Int}(ho:0≤o∧o<h.conf.pw):(address h.conf i o).1=4096+(i*h.conf.pw+o):=by
 have po:=Z07 hp
 unfold address
 rw[if_pos po.1,if_pos (inB_iff.2 (by omega))]
theorem Zdu{h:Heap}(hp:Z02 h=true){i:Nat}(hi:i<h.pages.length):0≤(i:Int)*h.conf.pw∧(i:Int)*h.conf.pw+h.conf.pw≤h.words.length:=by
 have po:=Z07 hp
 have h1:((i:Int)+1)*h.conf.pw≤h.conf.pg*h.conf.pw:=Int.mul_le_mul_of_nonneg_right (by omega) (by omega)
 have h2:((i:Int)+1)*h.conf.pw=i*h.conf.pw+h.conf.pw:=by rw[Int.add_mul,Int.one_mul]
 have h3:h.conf.pg*h.conf.pw=h.conf.pw*h.conf.pg:=Int.mul_comm _ _
 have h4:(0:Int)≤i*h.conf.pw:=Int.mul_nonneg (by omega) (by omega)
 omega
theorem Zjm{h:Heap}(hp:Z02 h=true){i:Nat}(hi:i<h.pages.length):(rawP h i).length=h.conf.pw.toNat∧∀ o:Nat,o<h.conf.pw.toNat→(rawP h i).getD o 0=Z3d h i o:=by
 have po:=Z07 hp
 have pi:=Zdu hp hi
 have e0:=Zb1 hp hi (o:=0) (by omega)
 constructor
 ·simp only[rawP,List.length_take,List.length_drop];omega
 ·intro o ho
  have e1:=Zb1 hp hi (o:=o) (by omega)
  unfold Z3d loadA
  rw[e1]
  rw[if_pos (by omega)]
  simp only[rawP,List.getD_eq_getElem?_getD,List.getElem?_take,List.getElem?_drop,if_pos ho]
  rw[e0,show(4096+((i:Int)*h.conf.pw+0)-4096).toNat+o=(4096+((i:Int)*h.conf.pw+(o:Int))-4096).toNat from by omega]
theorem ZaM{h:Heap}(hp:Z02 h=true){i:Nat}(hi:i<h.pages.length):(clrP h i).length=h.conf.pw.toNat∧∀ o:Nat,o<h.conf.pw.toNat→(clrP h i).getD o 0=if(Z1z h i).getD o default=true then 0 else Z3d h i o:=by
 have po:=Z07 hp
 obtain⟨r1,r2⟩:=Zjm hp hi
 constructor
 ·rw[clrP,Z7P,r1]
 ·intro o ho
  rw[clrP,Zhm (by omega) _ (Nat.le_refl _),List.take_length,r2 o ho]
  have e0:=Zb1 hp hi (o:=0) (by omega)
  have e:(Z1z h i).getD o default=(Z06 h (Z0s h.pages i:Nat)).1.any (fun a=>decide (a-(address h.conf i 0).1≤(o:Int))&&decide ((o:Int)<a-(address h.conf i 0).1+Z3J h a)):=by
   unfold Z1z Z1B
   rw[List.getD_eq_getElem?_getD,List.getElem?_map,List.getElem?_range ho]
   simp only[Option.map_some,Option.getD_some]
   congr 1
   funext a
   unfold Z4Y
   rw[e0,show a-(4096+((i:Int)*h.conf.pw+0))=a-4096-i*h.conf.pw from by omega]
  rw[e]
theorem Zf3{h:Heap}(hp:Z02 h=true){i:Nat}(hi:i<h.pages.length)(e:fstW (clrP h i)<(clrP h i).length):Z2k h i (Z1z h i)=4096+i*h.conf.pw+fstW (clrP h i):=by
 obtain⟨c1,c2⟩:=ZaM hp hi
 have hu:=Z3U h i
 have hf:(List.range (Z1z h i).length).find? (badD h i (Z1z h i))=some (fstW (clrP h i)):=by
  rw[List.find?_range_eq_some]
  refine⟨?_,List.mem_range.2 (by omega),fun j hj=>?_⟩
  ·have h1:=ZeV e
   rw[show(default:Int)=0 from rfl,c2 _ (by omega)]at h1
   split at h1
   ·exact absurd rfl h1
   ·rename_i h2
    simp only[badD,Bool.and_eq_true,Bool.not_eq_true',decide_eq_true_eq]
    exact⟨by simpa using h2,h1⟩
  ·have h1:=(ZaB hj).2
   rw[show(default:Int)=0 from rfl,c2 _ (by omega)]at h1
   simp only[badD,Bool.not_and,Bool.not_not,Bool.or_eq_true,Bool.not_eq_true',decide_eq_false_iff_not]
   split at h1
   ·rename_i h2;exact .inl h2
   ·exact .inr (fun q=>q h1)
 unfold Z2k
 rw[hf]
theorem ZlL{h:Heap}(hp:Z02 h=true){i:Nat}(hi:i<h.pages.length)(e:¬ fstW (clrP h i)<(clrP h i).length):Z2k h i (Z1z h i)=0:=by
 obtain⟨c1,c2⟩:=ZaM hp hi
 have hu:=Z3U h i
 have hf:(List.range (Z1z h i).length).find? (badD h i (Z1z h i))=none:=by
  rw[List.find?_eq_none]
  intro j hj
  have hj:=List.mem_range.1 hj
  have h1:=(ZaB (l:=clrP h i) (m:=j) (by omega)).2
  rw[show(default:Int)=0 from rfl,c2 _ (by omega)]at h1
  simp only[badD,Bool.and_eq_true,Bool.not_eq_true',decide_eq_true_eq,not_and]
  intro h2 h3
  rw[if_neg (by rw[h2];simp)]at h1
  exact h3 h1
 unfold Z2k
 rw[hf]
theorem Z6I{h:Heap}(hp:Z02 h=true){i:Nat}(hi:i<h.pages.length):Z1S h i (Z06 h i).1=decide (Z0X h i (Z06 h i).1≠0):=by
 unfold Z0X Z1S
 cases hf:(Z06 h i).1.find? (Z19 h i)with
 | none=>simp
 | some x =>
  have hx:=List.mem_of_find?_eq_some hf
  have e:=Z6U hp (i:=i) (by omega)
  rw[e]at hx
  obtain⟨y,hy,rfl⟩:=List.mem_map.1 hx
  have h1:=(Z4E y hy).1
  have h2:=(Zdu hp hi).1
  have:y.addr≠0:=by omega
  simp[this]
theorem find_congr{α:Type}{p q:α→Bool}:∀ {l:List α},(∀ x∈l,p x=q x)→l.find? p=l.find? q
 | [],_=>rfl
 | a::l,h=>by
  rw[List.find?_cons,List.find?_cons,h a (by simp),find_congr (l:=l) (fun x hx=>h x (by simp[hx]))]
theorem find_range{l:List Int}{p:Int→Bool}:match (List.range l.length).find? (fun i=>p (l.getD i default))with | none=>l.find? p=none | some i=>l.find? p=some (l.getD i default):=by
 split
 ·rename_i hb
  rw[List.find?_eq_none]at hb ⊢
  intro x hx
  obtain⟨i,hi,e⟩:=getD_mem_iff.1 hx
  have:=hb i (List.mem_range.2 hi)
  rwa [e]at this
 ·rename_i i hb
  obtain⟨h1,h2,h3⟩:=List.find?_range_eq_some.1 hb
  have h2:=List.mem_range.1 h2
  cases hf:l.find? p with
  | none =>
   have:=List.find?_eq_none.1 hf (l.getD i default) (getD_mem_iff.2 ⟨i,h2,rfl⟩)
   exact absurd h1 this
  | some x =>
   obtain⟨n,k1,k2,k3,k4⟩:=Z3s hf
   have hn:n=i:=by
    rcases Nat.lt_trichotomy n i with q | q | q
    ·have:=h3 n q
     rw[k2,k3]at this;cases this
    ·exact q
    ·have:=k4 i q
     rw[h1]at this;cases this
   subst hn
   rw[k2]
theorem Z8f{h:Heap}{a:Int}(ha:a∈(Z04 h).1):(atH h a).2=0∧(atH h a).1.kind≠0:=by
 by_cases e:(allW h).2=0
 ·rw[Zin h e]at ha
  obtain⟨x,hx,rfl⟩:=List.mem_map.1 ha
  obtain⟨h1,h2⟩:=List.mem_filter.1 hx
  obtain⟨h3,h4⟩:=Zgx x h1
  refine⟨h4, ?_⟩
  rw[← h3]
  simpa[Z2r]using h2
 ·rw[Zea h e]at ha
  simp at ha
theorem Z6k(hd:Header):∀ n:Nat,Z0V hd n=((List.range n).filter (fun k:Nat=>Z0e hd k)).map (fun k:Nat=>(k:Int))
 | 0=>rfl
 | n+1=>by
  rw[Z0V,List.range_succ,List.filter_append,List.map_append,← Z6k hd n]
  by_cases h:Z0e hd (n:Int)=true
  ·rw[if_pos h];simp[h]
  ·rw[if_neg h];simp[h]
def ptrF(h:Heap)(all:List Int)(a:Int):Option Nat:=(List.range (Z0M h a).1.length).find? (Z8X (getH h a).1 (Z0M h a).1 all)
theorem ZmC{h:Heap}{a:Int}(e:(atH h a).2=0)(hk:(atH h a).1.kind≠0)(all:List Int):apF h all a=(ptrF h all a).map (fun k:Nat=>(k:Int)):=by
 have i1:=Zim e
 have i2:=(Zcq e).1
 have g1:getH h a=atH h a:=by
  unfold getH
  rw[if_pos i2,if_neg (by omega),if_neg (fun q=>hk q.2)]
 have g2:=Z3P (h:=h) (a:=a) (by rw[g1];exact e)
 rw[g1]at g2
 have hv:=g2.2.2.2.2.2.2.1
 have hl:=g2.2.2.2.2.2.2.2.2.2
 have f1:(Z0M h a).1=(h.words.drop (a+1-4096).toNat).take (atH h a).1.length.toNat:=by
  unfold Z0M
  rw[g1,if_pos e,Z1e,if_neg (by omega),if_pos (by omega)]
 have fl:(Z0M h a).1.length=(atH h a).1.length.toNat:=by
  rw[f1,List.length_take,List.length_drop];omega
 have fg:∀ k:Nat,k<(atH h a).1.length.toNat→(Z0M h a).1.getD k default=fdV h a k:=by
  intro k hk
  unfold fdV loadA
  rw[if_pos (by omega),f1]
  simp only[List.getD_eq_getElem?_getD,List.getElem?_take,List.getElem?_drop,if_pos hk]
  rw[show(a+1-4096).toNat+k=(a+1+(k:Int)-4096).toNat from by omega]
  rfl
 unfold apF ptrF Z08
 rw[if_pos hv,Z6k,List.find?_map,List.find?_filter,fl,g1]
 congr 1
 refine find_congr fun k hk=>?_
 have hk:=List.mem_range.1 hk
 rw[Z8X,fg k hk]
 simp only[Function.comp,pbad]
 cases Z0e (atH h a).1 (k:Int)<;>simp
theorem Znh(h:Heap):apW h=Z0Q h (Z04 h).1:=by
 have hr:=find_range (l:=(Z04 h).1) (p:=fun a=>(ptrF h (Z04 h).1 a).isSome)
 have hc:(Z04 h).1.find? (fun a=>(apF h (Z04 h).1 a).isSome)=(Z04 h).1.find? (fun a=>(ptrF h (Z04 h).1 a).isSome):=find_congr fun a ha=>by
  rw[ZmC (Z8f ha).1 (Z8f ha).2,Option.isSome_map]
 unfold apW apAt Z0Q
 rw[hc]
 change match (List.range (Z04 h).1.length).find? (fun i=>(Z1X h (Z04 h).1 i).isSome)with | none=>_ | some i=>_ at hr
 split at hr
 ·rename_i hb
  rw[hr,hb]
  rfl
 ·rename_i i hb
  have h1:=(List.find?_range_eq_some.1 hb)
  have hm:(Z04 h).1.getD i default∈(Z04 h).1:=getD_mem_iff.2 ⟨i,List.mem_range.1 h1.2.1,rfl⟩
  obtain⟨k,hk⟩:=Option.isSome_iff_exists.1 h1.1
  have hk':ptrF h (Z04 h).1 ((Z04 h).1.getD i default)=some k:=hk
  have i1:=Zim (Z8f hm).1
  rw[hr,hb]
  simp only[hk,ZmC (Z8f hm).1 (Z8f hm).2,hk',Option.map_some,Option.getD_some]
  rw[if_neg (by omega)]
def apgL(h:Heap)(i:Nat):Tg:=⟨tm 64 [(1,.pt 8001 0 0),(2,.pt 8002 0 0),(12,Z0x h.pages),(13,int h.pages.length),(14,int i)],[(8002,.box 64 [int 0,int 0,u64 0]),(8001,.box 28 h.cells)],60⟩
def apgE(f:Finding):Tg:=⟨tm 64 [(2,.pt 8002 0 0)],[(8002,.box 64 [int f.fault,int f.page,u64 f.addr])],64⟩
section
variable (h:Heap) (i:Nat) (hw:WOk h.words) (hp:Z02 h=true) (hi:i<h.pages.length)
include hw hp hi
theorem ZmY(e:Z2k h i (Z1z h i)=0):idxW (clrP h i)=-1:=by
 by_cases hc:fstW (clrP h i)<(clrP h i).length
 ·have h1:=Zf3 hp hi hc
  have h2:=(Zdu hp hi).1
  omega
 ·exact if_neg hc
theorem ZlJ(e:¬ Z2k h i (Z1z h i)=0):0≤idxW (clrP h i)∧idxW (clrP h i)≤64∧Z2k h i (Z1z h i)=(address h.conf i 0).1+idxW (clrP h i):=by
 have po:=Z07 hp
 by_cases hc:fstW (clrP h i)<(clrP h i).length
 ·have h1:=Zf3 hp hi hc
  have h2:idxW (clrP h i)=fstW (clrP h i):=if_pos hc
  have h3:=Zb1 hp hi (o:=0) (by omega)
  have h4:=(ZaM hp hi).1
  rw[h1,h2,h3];omega
 ·exact absurd (ZlL hp hi hc) e
theorem Zeg(n1:(h.pages.getD i default).kind=0∨(h.pages.getD i default).space=h.space)(n2:(Z06 h (i:Int)).2=0)(n3:Z0X h (i:Int) (Z06 h (i:Int)).1=0)(n4:Z2k h i (Z1z h i)=0):CSpec Tryz.prog (rndF Tryz.f57 0) (apgL h i).st .nrm (apgL h (i+1)).st:=by
 have po:=Z07 hp
 have hn:=Z2C h (i:Int)
 have hr:=Z2y hp (i:Int)
 have q3:=Z6I hp hi
 rw[n3]at q3
 have q4:=ZmY h i hw hp hi n4
 simp only[ne_eq,not_true_eq_false,decide_false]at q3
 rcases n1 with n1 | n1
 ·exact sF [] [] (Fh 48 [.br false] (Fh 58 [.br false] (Ftb 15 (decide ((↑i:Int)<(↑h.pages.length:Int))) (Fek 17 Page.dv h.pages (↑i) i (Ffb 28 ((h.pages.getD i default).kind != 0&&(h.pages.getD i default).space != h.space) (Fc 34 (@Z3g h ((↑i:Int)) ‹_› (by omega)) (Ffb 38 ((Z06 h (↑i:Int)).snd != 0) (Fc 45 (@Z3k h ((↑i:Int)) ((Z06 h (↑i:Int)).fst) ‹_› (by omega) (by omega) (by omega) ‹_›) (Fa ‹Z1S h (↑i:Int) (Z06 h (↑i:Int)).fst=false› (Fc 55 (@auditDirt h i ‹_› ‹_› ‹_›) (Fb (decide (0≤idxW (clrP h i))=false) (Fx 62 i Fz))))))))))))
 ·exact sF [] [] (Fh 48 [.br false] (Fh 58 [.br false] (Ftb 15 (decide ((↑i:Int)<(↑h.pages.length:Int))) (Fek 17 Page.dv h.pages (↑i) i (Ffb 28 ((h.pages.getD i default).kind != 0&&(h.pages.getD i default).space != h.space) (Fc 34 (@Z3g h ((↑i:Int)) ‹_› (by omega)) (Ffb 38 ((Z06 h (↑i:Int)).snd != 0) (Fc 45 (@Z3k h ((↑i:Int)) ((Z06 h (↑i:Int)).fst) ‹_› (by omega) (by omega) (by omega) ‹_›) (Fa ‹Z1S h (↑i:Int) (Z06 h (↑i:Int)).fst=false› (Fc 55 (@auditDirt h i ‹_› ‹_› ‹_›) (Fb (decide (0≤idxW (clrP h i))=false) (Fx 62 i Fz))))))))))))
theorem ZnG(n1:¬ (h.pages.getD i default).kind=0∧¬ (h.pages.getD i default).space=h.space):CSpec Tryz.prog (rndF Tryz.f57 0) (apgL h i).st .ret (apgE ⟨2,i,0⟩).st:=by
 have po:=Z07 hp
 obtain⟨n1,n2⟩:=n1
 exact sF [] [] (Ftb 15 (decide ((↑i:Int)<(↑h.pages.length:Int))) (Fek 17 Page.dv h.pages (↑i) i (Ftb 28 ((h.pages.getD i default).kind != 0&&(h.pages.getD i default).space != h.space) Fz)))
theorem ZnA(n1:(h.pages.getD i default).kind=0∨(h.pages.getD i default).space=h.space)(n2:¬ (Z06 h (i:Int)).2=0):CSpec Tryz.prog (rndF Tryz.f57 0) (apgL h i).st .ret (apgE ⟨3,i,0⟩).st:=by
 have po:=Z07 hp
 rcases n1 with n1 | n1
 ·exact sF [] [] (Ftb 15 (decide ((↑i:Int)<(↑h.pages.length:Int))) (Fek 17 Page.dv h.pages (↑i) i (Ffb 28 ((h.pages.getD i default).kind != 0&&(h.pages.getD i default).space != h.space) (Fc 34 (@Z3g h ((↑i:Int)) ‹_› (by omega)) (Ftb 38 ((Z06 h (↑i:Int)).snd != 0) Fz)))))
 ·exact sF [] [] (Ftb 15 (decide ((↑i:Int)<(↑h.pages.length:Int))) (Fek 17 Page.dv h.pages (↑i) i (Ffb 28 ((h.pages.getD i default).kind != 0&&(h.pages.getD i default).space != h.space) (Fc 34 (@Z3g h ((↑i:Int)) ‹_› (by omega)) (Ftb 38 ((Z06 h (↑i:Int)).snd != 0) Fz)))))
theorem ZnJ(n1:(h.pages.getD i default).kind=0∨(h.pages.getD i default).space=h.space)(n2:(Z06 h (i:Int)).2=0)(n3:¬ Z0X h (i:Int) (Z06 h (i:Int)).1=0):CSpec Tryz.prog (rndF Tryz.f57 0) (apgL h i).st .ret (apgE ⟨5,i,Z0X h (i:Int) (Z06 h (i:Int)).1⟩).st:=by
 have po:=Z07 hp
 have hn:=Z2C h (i:Int)
 have hr:=Z2y hp (i:Int)
 have q3:Z1S h i (Z06 h i).1=true:=by rw[Z6I hp hi];simpa using n3
 rcases n1 with n1 | n1
 ·exact sF [] [] (Fh 48 [.br true] (Ftb 15 (decide ((↑i:Int)<(↑h.pages.length:Int))) (Fek 17 Page.dv h.pages (↑i) i (Ffb 28 ((h.pages.getD i default).kind != 0&&(h.pages.getD i default).space != h.space) (Fc 34 (@Z3g h ((↑i:Int)) ‹_› (by omega)) (Ffb 38 ((Z06 h (↑i:Int)).snd != 0) (Fc 45 (@Z3k h ((↑i:Int)) ((Z06 h (↑i:Int)).fst) ‹_› (by omega) (by omega) (by omega) ‹_›) (Fa ‹Z1S h (↑i:Int) (Z06 h (↑i:Int)).fst=true› Fz))))))))
 ·exact sF [] [] (Fh 48 [.br true] (Ftb 15 (decide ((↑i:Int)<(↑h.pages.length:Int))) (Fek 17 Page.dv h.pages (↑i) i (Ffb 28 ((h.pages.getD i default).kind != 0&&(h.pages.getD i default).space != h.space) (Fc 34 (@Z3g h ((↑i:Int)) ‹_› (by omega)) (Ffb 38 ((Z06 h (↑i:Int)).snd != 0) (Fc 45 (@Z3k h ((↑i:Int)) ((Z06 h (↑i:Int)).fst) ‹_› (by omega) (by omega) (by omega) ‹_›) (Fa ‹Z1S h (↑i:Int) (Z06 h (↑i:Int)).fst=true› Fz))))))))
theorem ZnK(n1:(h.pages.getD i default).kind=0∨(h.pages.getD i default).space=h.space)(n2:(Z06 h (i:Int)).2=0)(n3:Z0X h (i:Int) (Z06 h (i:Int)).1=0)(n4:¬ Z2k h i (Z1z h i)=0):CSpec Tryz.prog (rndF Tryz.f57 0) (apgL h i).st .ret (apgE ⟨4,i,Z2k h i (Z1z h i)⟩).st:=by
 have po:=Z07 hp
 have hn:=Z2C h (i:Int)
 have hr:=Z2y hp (i:Int)
 have q3:=Z6I hp hi
 rw[n3]at q3
 simp only[ne_eq,not_true_eq_false,decide_false]at q3
 obtain⟨q4,q5,q6⟩:=ZlJ h i hw hp hi n4
 have q7:max (idxW (clrP h i)) 0=idxW (clrP h i):=by omega
 rw[q6]
 rcases n1 with n1 | n1
 ·exact sF [] [false,false,false,false,false,false,true] (Fh 48 [.br false] (Fh 58 [.br true] (Ftb 15 (decide ((↑i:Int)<(↑h.pages.length:Int))) (Fek 17 Page.dv h.pages (↑i) i (Ffb 28 ((h.pages.getD i default).kind != 0&&(h.pages.getD i default).space != h.space) (Fc 34 (@Z3g h ((↑i:Int)) ‹_› (by omega)) (Ffb 38 ((Z06 h (↑i:Int)).snd != 0) (Fc 45 (@Z3k h ((↑i:Int)) ((Z06 h (↑i:Int)).fst) ‹_› (by omega) (by omega) (by omega) ‹_›) (Fa ‹Z1S h (↑i:Int) (Z06 h (↑i:Int)).fst=false› (Fc 55 (@auditDirt h i ‹_› ‹_› ‹_›) (Fb (decide (0≤idxW (clrP h i))=true) (Fr (64:Int) (Fr (4:Int) (Fr (↑i:Int) (Fa (by rw[q7]:(address h.conf (↑i:Int) 0).fst+max (idxW (clrP h i)) 0=(Finding.mk 4 (↑i:Int) ((address h.conf (↑i:Int) 0).fst+idxW (clrP h i))).addr) Fz)))))))))))))))
 ·exact sF [] [false,false,false,false,false,false,true] (Fh 48 [.br false] (Fh 58 [.br true] (Ftb 15 (decide ((↑i:Int)<(↑h.pages.length:Int))) (Fek 17 Page.dv h.pages (↑i) i (Ffb 28 ((h.pages.getD i default).kind != 0&&(h.pages.getD i default).space != h.space) (Fc 34 (@Z3g h ((↑i:Int)) ‹_› (by omega)) (Ffb 38 ((Z06 h (↑i:Int)).snd != 0) (Fc 45 (@Z3k h ((↑i:Int)) ((Z06 h (↑i:Int)).fst) ‹_› (by omega) (by omega) (by omega) ‹_›) (Fa ‹Z1S h (↑i:Int) (Z06 h (↑i:Int)).fst=false› (Fc 55 (@auditDirt h i ‹_› ‹_› ‹_›) (Fb (decide (0≤idxW (clrP h i))=true) (Fr (64:Int) (Fr (4:Int) (Fr (↑i:Int) (Fa (by rw[q7]:(address h.conf (↑i:Int) 0).fst+max (idxW (clrP h i)) 0=(Finding.mk 4 (↑i:Int) ((address h.conf (↑i:Int) 0).fst+idxW (clrP h i))).addr) Fz)))))))))))))))
end
theorem ZmV(h:Heap):CSpec Tryz.prog (rndF Tryz.f57 0) (apgL h h.pages.length).st (.ext 0) (apgE ⟨0,0,0⟩).st:=by
 exact sF [] [] (Ffb 15 (decide ((↑h.pages.length:Int)<(↑h.pages.length:Int))) Fz)
def apgV(h:Heap):Finding:=match Z2p h with | some i=>pageF h i | none=>⟨0,0,0⟩
theorem Zfm{h:Heap}{i:Nat}(e:(pageF h i).fault=0):((h.pages.getD i default).kind=0∨(h.pages.getD i default).space=h.space)∧(Z06 h (i:Int)).2=0∧Z0X h (i:Int) (Z06 h (i:Int)).1=0∧Z2k h i (Z1z h i)=0:=by
 unfold pageF at e
 split at e
 ·simp at e
 ·rename_i h1
  split at e
  ·simp at e
  ·rename_i h2
   split at e
   ·simp at e
   ·rename_i h3
    split at e
    ·simp at e
    ·rename_i h4
     refine⟨?_,Classical.not_not.1 h2,Classical.not_not.1 h3,Classical.not_not.1 h4⟩
     by_cases q:(h.pages.getD i default).kind=0
     ·exact .inl q
     ·refine .inr (Classical.not_not.1 fun q2=>h1 ⟨q,q2⟩)
theorem Zkb(h:Heap)(i:Nat)(hw:WOk h.words)(hp:Z02 h=true)(hi:i<h.pages.length)(e:(pageF h i).fault≠0):CSpec Tryz.prog (rndF Tryz.f57 0) (apgL h i).st .ret (apgE (pageF h i)).st:=by
 unfold pageF at e ⊢
 split
 ·rename_i h1
  exact ZnG h i hw hp hi h1
 ·rename_i h1
  have n1:(h.pages.getD i default).kind=0∨(h.pages.getD i default).space=h.space:=by
   by_cases q:(h.pages.getD i default).kind=0
   ·exact .inl q
   ·exact .inr (Classical.not_not.1 fun q2=>h1 ⟨q,q2⟩)
  split
  ·rename_i h2
   exact ZnA h i hw hp hi n1 h2
  ·rename_i h2
   split
   ·rename_i h3
    exact ZnJ h i hw hp hi n1 (Classical.not_not.1 h2) h3
   ·rename_i h3
    split
    ·rename_i h4
     exact ZnK h i hw hp hi n1 (Classical.not_not.1 h2) (Classical.not_not.1 h3) h4
    ·rename_i h4
     rw[if_neg h1,if_neg h2,if_neg h3,if_neg h4]at e
     exact absurd rfl e
theorem ZlX(h:Heap)(hw:WOk h.words)(hp:Z02 h=true)(hf:Z2p h=none):CSpec Tryz.prog (blkF Tryz.f57 0) (Tg.st ⟨tm 64 [(1,.pt 8001 0 0),(2,.pt 8002 0 0),(12,Z0x h.pages),(13,int h.pages.length),(14,int 0)],[(8002,.box 64 [int 0,int 0,u64 0]),(8001,.box 28 h.cells)],60⟩) .nrm (Tg.st ⟨tm 64 [(2,.pt 8002 0 0)],[(8002,.box 64 [int 0,int 0,u64 0])],64⟩):=by
 refine Z0c (S:=fun k=>(apgL h k).st) h.pages.length (by kernel_rfl) (fun k hk=>?_) (ZmV h)
 have e:=List.find?_eq_none.1 hf k (List.mem_range.2 hk)
 obtain⟨n1,n2,n3,n4⟩:=Zfm (h:=h) (i:=k) (by simpa using e)
 exact Zeg h k hw hp hk n1 n2 n3 n4
theorem Zjq(h:Heap)(i:Nat)(hw:WOk h.words)(hp:Z02 h=true)(hf:Z2p h=some i):CSpec Tryz.prog (blkF Tryz.f57 0) (Tg.st ⟨tm 64 [(1,.pt 8001 0 0),(2,.pt 8002 0 0),(12,Z0x h.pages),(13,int h.pages.length),(14,int 0)],[(8002,.box 64 [int 0,int 0,u64 0]),(8001,.box 28 h.cells)],60⟩) .ret (Tg.st ⟨tm 64 [(2,.pt 8002 0 0)],[(8002,.box 64 [int (pageF h i).fault,int (pageF h i).page,u64 (pageF h i).addr])],64⟩):=by
 obtain⟨h1,h2,h3⟩:=List.find?_range_eq_some.1 hf
 have h2:=List.mem_range.1 h2
 refine Z0G (S:=fun k=>(apgL h k).st) i (by kernel_rfl) (fun k hk=>?_) (Zkb h i hw hp h2 (by simpa using h1))
 have e:=h3 k hk
 obtain⟨n1,n2,n3,n4⟩:=Zfm (h:=h) (i:=k) (by simpa using e)
 exact Zeg h k hw hp (by omega) n1 n2 n3 n4
theorem Z5p(h:Heap)(hw:WOk h.words)(hp:Z02 h=true):GSpec Tryz.prog 57 [h.av] true (apgV h).av []:=by
 have po:=Z07 hp
 cases hf:Z2p h with
 | none =>
  have e7:apgV h=⟨0,0,0⟩:=by simp only[apgV,hf]
  rw[e7]
  exact gF [] Tryz.func57 [] (Fl 13 Page.dv h.pages (Fu (@ZlX h ‹_› ‹_› ‹_›) Fz))
 | some i =>
  have e7:apgV h=pageF h i:=by simp only[apgV,hf]
  rw[e7]
  exact gF [] Tryz.func57 [] (Fl 13 Page.dv h.pages (Fu (@Zjq h i ‹_› ‹_› ‹_›) Fz))
theorem Z6q(h:Heap)(hw:WOk h.words)(hp:Z02 h=false):GSpec Tryz.prog 26 [h.av] true (Finding.av ⟨1,0,0⟩) []:=by
 exact gF [] Tryz.func26 [] (Fc 9 (@Z0A h) (Ftb 10 (!Z02 h) Fz))
theorem Z92(h:Heap)(hw:WOk h.words)(hp:Z02 h=true)(i:Nat)(hb:Z2p h=some i):GSpec Tryz.prog 26 [h.av] true (pageF h i).av []:=by
 have po:=Z07 hp
 have e7:apgV h=pageF h i:=by simp only[apgV,hb]
 have h1:¬ (pageF h i).fault=0:=by simpa using (List.find?_range_eq_some.1 hb).1
 rw[← e7]at h1 ⊢
 exact gF [] Tryz.func26 [] (Fc 9 (@Z0A h) (Ffb 10 (!Z02 h) (Fc 13 (@Z5p h ‹_› ‹_›) (Ftb 16 (!((apgV h).fault==0&&((apgV h).page==0&&(apgV h).addr==0))) Fz))))
theorem Zb8(h:Heap)(hw:WOk h.words)(hp:Z02 h=true)(hb:Z2p h=none)(hq:¬ (apW h).fault=0):GSpec Tryz.prog 26 [h.av] true (apW h).av []:=by
 have po:=Z07 hp
 have e7:apgV h=⟨0,0,0⟩:=by simp only[apgV,hb]
 have q1:(apgV h).fault=0:=by rw[e7]
 have q2:(apgV h).page=0:=by rw[e7]
 have q3:(apgV h).addr=0:=by rw[e7]
 exact gF [] Tryz.func26 [] (Fc 9 (@Z0A h) (Ffb 10 (!Z02 h) (Fc 13 (@Z5p h ‹_› ‹_›) (Ffb 16 (!((apgV h).fault==0&&((apgV h).page==0&&(apgV h).addr==0))) (Fc 19 (@Z4c h ‹_› (by omega)) (Ftb 22 (!((apW h).fault==0&&((apW h).page==0&&(apW h).addr==0))) Fz))))))
def acrL(h:Heap)(i:Nat):Tg:=⟨tm 50 [(1,.pt 8001 0 0),(2,.pt 8002 0 0),(5,int (Z0r h.pages i)),(25,Z0x h.pages),(26,int h.pages.length),(27,int i)],[(8002,.box 64 [int 0,int 0,u64 0]),(8001,.box 28 h.cells)],60⟩
theorem ZkF(h:Heap)(i:Nat)(hp:Z02 h=true)(hi:i<h.pages.length):CSpec Tryz.prog (rndF Tryz.f26 0) (acrL h i).st .nrm (acrL h (i+1)).st:=by
 have po:=Z07 hp
 have:=Z2E h.pages i
 by_cases h1:(h.pages.getD i default).kind=1
 ·by_cases h2:0<(h.pages.getD i default).pins
  ·have e:Z0r h.pages (i+1)=Z0r h.pages i+1:=by rw[Z0r,if_pos ⟨h1,h2⟩]
   rw[acrL,acrL,e]
   exact sF [] [] (Ftb 28 (decide ((↑i:Int)<(↑h.pages.length:Int))) (Fek 29 Page.dv h.pages (↑i) i (Ftb 38 ((h.pages.getD i default).kind==1&&decide (0<(h.pages.getD i default).pins)) (Fw 40 ((↑(Z0r h.pages i):Int)+1) (↑(Z0r h.pages i+1):Int) (Fx 41 i Fz)))))
  ·have e:Z0r h.pages (i+1)=Z0r h.pages i:=by rw[Z0r,if_neg (fun q=>h2 q.2)];rfl
   rw[acrL,acrL,e]
   exact sF [] [] (Ftb 28 (decide ((↑i:Int)<(↑h.pages.length:Int))) (Fek 29 Page.dv h.pages (↑i) i (Ffb 38 ((h.pages.getD i default).kind==1&&decide (0<(h.pages.getD i default).pins)) (Fx 41 i Fz))))
 ·have e:Z0r h.pages (i+1)=Z0r h.pages i:=by rw[Z0r,if_neg (fun q=>h1 q.1)];rfl
  rw[acrL,acrL,e]
  exact sF [] [] (Ftb 28 (decide ((↑i:Int)<(↑h.pages.length:Int))) (Fek 29 Page.dv h.pages (↑i) i (Ffb 38 ((h.pages.getD i default).kind==1&&decide (0<(h.pages.getD i default).pins)) (Fx 41 i Fz))))
theorem ZmW(h:Heap):CSpec Tryz.prog (rndF Tryz.f26 0) (acrL h h.pages.length).st (.ext 0) (Tg.st ⟨tm 50 [(1,.pt 8001 0 0),(2,.pt 8002 0 0),(5,int (Z0r h.pages h.pages.length))],[(8002,.box 64 [int 0,int 0,u64 0]),(8001,.box 28 h.cells)],64⟩):=by
 exact sF [] [] (Ffb 28 (decide ((↑h.pages.length:Int)<(↑h.pages.length:Int))) Fz)
theorem ZhQ(h:Heap)(hp:Z02 h=true):CSpec Tryz.prog (blkF Tryz.f26 0) (Tg.st ⟨tm 50 [(1,.pt 8001 0 0),(2,.pt 8002 0 0),(5,int 0),(25,Z0x h.pages),(26,int h.pages.length),(27,int 0)],[(8002,.box 64 [int 0,int 0,u64 0]),(8001,.box 28 h.cells)],60⟩) .nrm (Tg.st ⟨tm 50 [(1,.pt 8001 0 0),(2,.pt 8002 0 0),(5,int (Z0r h.pages h.pages.length))],[(8002,.box 64 [int 0,int 0,u64 0]),(8001,.box 28 h.cells)],64⟩) :=
 Z0c (S:=fun i=>(acrL h i).st) h.pages.length (by kernel_rfl) (fun i hi=>ZkF h i hp hi) (ZmW h)
theorem Z8w(h:Heap)(hw:WOk h.words)(hp:Z02 h=true)(hb:Z2p h=none)(hq:(apW h).fault=0)(hc:h.conf.pg/4<(Z0r h.pages h.pages.length:Nat)):GSpec Tryz.prog 26 [h.av] true (Finding.av ⟨7,0,0⟩) []:=by
 have po:=Z07 hp
 have cl:=Z2E h.pages h.pages.length
 have e7:apgV h=⟨0,0,0⟩:=by simp only[apgV,hb]
 have q1:(apgV h).fault=0:=by rw[e7]
 have q2:(apgV h).page=0:=by rw[e7]
 have q3:(apgV h).addr=0:=by rw[e7]
 have e8:apW h=⟨0,0,0⟩:=by
  unfold apW at hq ⊢
  split at hq
  ·rename_i h1;rw[if_pos h1]
  ·simp at hq
 have q4:(apW h).fault=0:=by rw[e8]
 have q5:(apW h).page=0:=by rw[e8]
 have q6:(apW h).addr=0:=by rw[e8]
 exact gF [] Tryz.func26 [] (Fc 9 (@Z0A h) (Ffb 10 (!Z02 h) (Fc 13 (@Z5p h ‹_› ‹_›) (Ffb 16 (!((apgV h).fault==0&&((apgV h).page==0&&(apgV h).addr==0))) (Fc 19 (@Z4c h ‹_› (by omega)) (Ffb 22 (!((apW h).fault==0&&((apW h).page==0&&(apW h).addr==0))) (Fl 26 Page.dv h.pages (Fu (@ZhQ h ‹_›) (Fg 46 (by rw[Int.tdiv_eq_ediv_of_nonneg (by omega),wrapI' (by omega) (by omega)]:IntKind.i64.wrap (h.conf.pg.tdiv 4)=h.conf.pg/4) (Fa (by decide:(4:Int)≠0) (Ftb 47 (decide (h.conf.pg/4<(↑(Z0r h.pages h.pages.length):Int))) Fz)))))))))))
theorem Z8V(h:Heap)(hw:WOk h.words)(hp:Z02 h=true)(hb:Z2p h=none)(hq:(apW h).fault=0)(hc:¬ h.conf.pg/4<(Z0r h.pages h.pages.length:Nat)):GSpec Tryz.prog 26 [h.av] true (Finding.av ⟨0,0,0⟩) []:=by
 have po:=Z07 hp
 have cl:=Z2E h.pages h.pages.length
 have e7:apgV h=⟨0,0,0⟩:=by simp only[apgV,hb]
 have q1:(apgV h).fault=0:=by rw[e7]
 have q2:(apgV h).page=0:=by rw[e7]
 have q3:(apgV h).addr=0:=by rw[e7]
 have e8:apW h=⟨0,0,0⟩:=by
  unfold apW at hq ⊢
  split at hq
  ·rename_i h1;rw[if_pos h1]
  ·simp at hq
 have q4:(apW h).fault=0:=by rw[e8]
 have q5:(apW h).page=0:=by rw[e8]
 have q6:(apW h).addr=0:=by rw[e8]
 exact gF [] Tryz.func26 [] (Fc 9 (@Z0A h) (Ffb 10 (!Z02 h) (Fc 13 (@Z5p h ‹_› ‹_›) (Ffb 16 (!((apgV h).fault==0&&((apgV h).page==0&&(apgV h).addr==0))) (Fc 19 (@Z4c h ‹_› (by omega)) (Ffb 22 (!((apW h).fault==0&&((apW h).page==0&&(apW h).addr==0))) (Fl 26 Page.dv h.pages (Fu (@ZhQ h ‹_›) (Fg 46 (by rw[Int.tdiv_eq_ediv_of_nonneg (by omega),wrapI' (by omega) (by omega)]:IntKind.i64.wrap (h.conf.pg.tdiv 4)=h.conf.pg/4) (Fa (by decide:(4:Int)≠0) (Ffb 47 (decide (h.conf.pg/4<(↑(Z0r h.pages h.pages.length):Int))) Fz)))))))))))
theorem Z9o(h:Heap)(hw:WOk h.words):GSpec Tryz.prog 26 [h.av] true (Z0t h).av []:=by
 have e7:=Znh h
 unfold Z0t
 rw[← e7]
 by_cases hp:Z02 h=true
 ·rw[if_pos hp]
  cases hb:Z2p h with
  | some i=>exact Z92 h hw hp i hb
  | none =>
   by_cases hq:(apW h).fault=0
   ·simp only[hq,ne_eq,not_true_eq_false,if_false]
    by_cases hc:h.conf.pg/4<(Z0r h.pages h.pages.length:Nat)
    ·rw[if_pos hc];exact Z8w h hw hp hb hq hc
    ·rw[if_neg hc];exact Z8V h hw hp hb hq hc
   ·simp only[ne_eq,hq,not_false_eq_true,if_true]
    exact Zb8 h hw hp hb hq
 ·rw[if_neg hp]
  exact Z6q h hw (by simpa using hp)
theorem ZnF(h:Heap):((Z0t h).fault==0&&((Z0t h).page==0&&(Z0t h).addr==0))=decide (Z0t h=⟨0,0,0⟩):=by
 cases Z0t h with
 | mk a b c=>by_cases h1:a=0<;>by_cases h2:b=0<;>by_cases h3:c=0<;>simp[h1,h2,h3]
theorem Zit(h:Heap)(hw:WOk h.words):GSpec Tryz.prog 27 [h.av] true (bool (decide (Z0t h=⟨0,0,0⟩))) []:=by
 have e9:=ZnF h
 exact gF [] Tryz.func27 [true] (Fc 4 (@Z9o h ‹_›) (Fa (by exact e9:((Z0t h).fault==0&&((Z0t h).page==0&&(Z0t h).addr==0))=decide (Z0t h=Finding.mk 0 0 0)) Fz))
def Z1t(w:Work)(r:Int):Int:=if r∈w.queue then r else(Z0o (loadA w.heap.words r).1).1
theorem Z9y(w:Work)(r:Int)(hw:WOk w.heap.words)(hl:w.heap.words.length≤4096)(hq:w.queue.length≤1048576)(h0:0≤r∧r≤18446744073709551615):GSpec Tryz.prog 142 [w.av,u64 r] true (u64 (Z1t w r)) []:=by
 have h1:=Z0U hw r
 rcases bb (decide (r∈w.queue))with hc0 | hc0<;>have hc0p:=hc0<;>simp only[bs]at hc0p
 ·exact gF [] Tryz.func142 [true] (Fh 12 [.call true (Sx.bool (decide (r∈w.queue))) [],.br true] (Fa (@Z10 w.queue r ‹_›) (Fa hc0 (Fa (by simp[Z1t, *]:r=Z1t w r) Fz))))
 ·exact gF [] Tryz.func142 [true] (Fh 12 [.call true (Sx.bool (decide (r∈w.queue))) [],.br false] (Fa (@Z10 w.queue r ‹_›) (Fa hc0 (Fc 19 (@Z1L w.heap.words r (by omega) ‹_›) (Fc 24 (@Z2Z ((loadA w.heap.words r).fst) (by omega) (by omega)) (Fa (by simp[Z1t, *]:(Z0o (loadA w.heap.words r).fst).fst=Z1t w r) Fz))))))
theorem ZgO(w:Work)(a:Int)(hw:WOk w.heap.words)(h1:w.heap.words.length≤4096)(h0:0≤a∧a≤18446744073709551615):GSpec Tryz.prog 163 [w.av,u64 a] true (hdW w a).av []:=by
 have h2:=Z0U hw a
 exact gF [] Tryz.func163 [] (Fc 14 (@Z1L w.heap.words a (by omega) ‹_›) (Fc 19 (@Z2L ((loadA w.heap.words a).fst) (by omega) (by omega)) Fz))
def Z5s(w:Work)(x:Int):Work:=if Z1j w (ofA w.heap.conf x).1=true∧x∉w.queue then⟨⟨w.heap.conf,(Z0u w.heap.words x (objW ⟨0,(hdW w x).length,0⟩)).1,w.heap.pages,w.heap.space,w.heap.bump⟩,w.old,w.taken,w.queue,w.scanned,⟨w.rep.copied,w.rep.kept,w.rep.filled+1,w.rep.freed,w.rep.cleared,w.rep.steps⟩⟩else w
def fillN(w:Work):Nat→Work
 | 0=>w
 | k+1=>Z5s (fillN w k) (w.old.getD k default)
def ZjD(w:Work)(i:Nat):Tg:=⟨tm 84 [(1,.pt 8001 0 0),(2,.pt 8002 0 0),(3,int i)],[(8002,.box 176 [int 0,int 0,.d (.sl 0 []),.d (.sl 0 []),int 0,int 0,.d (.sl 0 []),.d (.sl 0 []),.d (.sl 0 []),int 0,int 0,int 0,int 0,int 0,int 0,int 0]),(8001,.box 176 w.cells)],60⟩
structure FOk (w:Work):Prop where
 words:WOk w.heap.words
 wl:w.heap.words.length≤4096
 pl:w.heap.pages.length≤64
 ol:w.old.length≤524288
 o:∀ x∈w.old,0≤x∧x≤8192
 tl:w.taken.length≤1000000
 ql:w.queue.length≤1000000
theorem WkOk.fok{w:Work}(h:WkOk w):FOk w:=by
 have h1:=h.mu
 have h2:=h.tl
 have h3:=h.pl
 have h4:=validB_iff.1 h.conf
 exact⟨h.words,h.wl,by omega,h.ol,h.o,by omega,by omega⟩
theorem Z51{n:Int}(h:0≤n∧n≤255):Z0b ⟨0,n,0⟩=(1+16*n,0):=by
 have hv:Z0h ⟨0,n,0⟩=true:=validH_iff.2 ⟨by simp,by simp,h.1,h.2,by simp⟩
 rw[Z0b,if_pos hv]
 simp
section
variable (w:Work) (i:Nat) (hw:FOk w) (hi:i<w.old.length) (hr:0≤w.rep.filled∧w.rep.filled≤1000000)
include hw hi hr
theorem ZgU:CSpec Tryz.prog (rndF Tryz.f144 0) (ZjD w i).st .nrm (ZjD (Z5s w (w.old.getD i default)) (i+1)).st:=by
 have h1:=hw.words
 have h2:=hw.wl
 have h3:=hw.pl
 have h4:=hw.ol
 have h5:=hw.tl
 have h6:=hw.ql
 have hx:=hw.o _ (getD_mem_iff.2 ⟨i,hi,rfl⟩)
 have hm:=Z2b (loadA w.heap.words (w.old.getD i default)).1 (Z0U h1 _).1
 have hh:0≤(hdW w (w.old.getD i default)).length∧(hdW w (w.old.getD i default)).length≤255:=Z0i w.heap.words (w.old.getD i default)
 have he:=Z51 hh
 by_cases c1:Z1j w (ofA w.heap.conf (w.old.getD i default)).1=true
 ·by_cases c2:w.old.getD i default∈w.queue
  ·have e7:Z5s w (w.old.getD i default)=w:=by rw[Z5s,if_neg (by rintro⟨_,q⟩;exact q c2)]
   rw[e7]
   exact sF [] [] (Fl 13 wdv w.old (Ftb 14 (decide ((↑i:Int)<(↑w.old.length:Int))) (Fek 24 wdv w.old (↑i) i (Fc 26 (@Z4r w.heap.conf (w.old.getD i default) (by omega) (by omega)) (Fc 32 (@Z1T w ((ofA w.heap.conf (w.old.getD i default)).fst) (by omega) (by omega)) (FeG 40 (!!Z1j w (ofA w.heap.conf (w.old.getD i default)).fst) wdv w.old (↑i) i (FcG 42 (!!Z1j w (ofA w.heap.conf (w.old.getD i default)).fst) (fun hg=>by(try simp only[bs]at hg);exact @Z10 w.queue (w.old.getD i default) (by(try simp only[bs]at hg);omega)) (Ft 43 (by simp only[bs, *,true_or,or_true,true_and,and_true,not_true_eq_false,not_false_eq_true,Bool.true_eq_false,Bool.false_eq_true]:(!Z1j w (ofA w.heap.conf (w.old.getD i default)).fst||decide (w.old.getD i default∈w.queue))=true) (Fx 16 i Fz)))))))))
  ·have e7:Z5s w (w.old.getD i default)=⟨⟨w.heap.conf,(Z0u w.heap.words (w.old.getD i default) (objW ⟨0,(hdW w (w.old.getD i default)).length,0⟩)).1,w.heap.pages,w.heap.space,w.heap.bump⟩,w.old,w.taken,w.queue,w.scanned,⟨w.rep.copied,w.rep.kept,w.rep.filled+1,w.rep.freed,w.rep.cleared,w.rep.steps⟩⟩:=by rw[Z5s,if_pos ⟨c1,c2⟩]
   rw[e7]
   exact sF [] [] (Fh 71 [.els (List.map wdv ([(Z0b (Header.mk 0 (hdW w (w.old.getD i default)).length 0)).fst]++List.replicate (hdW w (w.old.getD i default)).length.toNat 0))] (Fl 13 wdv w.old (Ftb 14 (decide ((↑i:Int)<(↑w.old.length:Int))) (Fek 24 wdv w.old (↑i) i (Fc 26 (@Z4r w.heap.conf (w.old.getD i default) (by omega) (by omega)) (Fc 32 (@Z1T w ((ofA w.heap.conf (w.old.getD i default)).fst) (by omega) (by omega)) (FeG 40 (!!Z1j w (ofA w.heap.conf (w.old.getD i default)).fst) wdv w.old (↑i) i (FcG 42 (!!Z1j w (ofA w.heap.conf (w.old.getD i default)).fst) (fun hg=>by(try simp only[bs]at hg);exact @Z10 w.queue (w.old.getD i default) (by(try simp only[bs]at hg);omega)) (Ff 43 (by simp only[bs, *,true_or,or_true,true_and,and_true,not_true_eq_false,not_false_eq_true,Bool.true_eq_false,Bool.false_eq_true]:(!Z1j w (ofA w.heap.conf (w.old.getD i default)).fst||decide (w.old.getD i default∈w.queue))=false) (Fek 48 wdv w.old (↑i) i (Fc 50 (@ZgO w (w.old.getD i default) ‹_› ‹_› (by omega)) (Fc 55 (@Z3o (Header.mk 0 (hdW w (w.old.getD i default)).length 0) (by(simp only[bs];omega))) (Fek 65 wdv w.old (↑i) i (Fs 68 (List.map wdv [(Z0b (Header.mk 0 (hdW w (w.old.getD i default)).length 0)).fst]) (Fa (by grind[objW]:0≤(hdW w (w.old.getD i default)).length∧(↑(List.map wdv [(Z0b (Header.mk 0 (hdW w (w.old.getD i default)).length 0)).fst]).length:Int)+(hdW w (w.old.getD i default)).length≤2^30) (Fa (by simp[objW,List.map_take,List.map_drop,List.map_set,List.map_append,wdv,idv]:List.map wdv [(Z0b (Header.mk 0 (hdW w (w.old.getD i default)).length 0)).fst]++List.replicate (hdW w (w.old.getD i default)).length.toNat [du64 0]=List.map wdv ([(Z0b (Header.mk 0 (hdW w (w.old.getD i default)).length 0)).fst]++List.replicate (hdW w (w.old.getD i default)).length.toNat 0)) (Fc 72 (@Z4v w.heap.words ([(Z0b (Header.mk 0 (hdW w (w.old.getD i default)).length 0)).fst]++List.replicate (hdW w (w.old.getD i default)).length.toNat 0) (w.old.getD i default) (by omega) (by omega) (by grind[objW])) (Fi 80 (w.rep.filled+1) (Fx 16 i Fz)))))))))))))))))))
 ·have e7:Z5s w (w.old.getD i default)=w:=by rw[Z5s,if_neg (by rintro⟨q,_⟩;exact c1 q)]
  rw[e7]
  exact sF [] [] (Fl 13 wdv w.old (Ftb 14 (decide ((↑i:Int)<(↑w.old.length:Int))) (Fek 24 wdv w.old (↑i) i (Fc 26 (@Z4r w.heap.conf (w.old.getD i default) (by omega) (by omega)) (Fc 32 (@Z1T w ((ofA w.heap.conf (w.old.getD i default)).fst) (by omega) (by omega)) (FeG 40 (!!Z1j w (ofA w.heap.conf (w.old.getD i default)).fst) wdv w.old (↑i) i (FcG 42 (!!Z1j w (ofA w.heap.conf (w.old.getD i default)).fst) (fun hg=>by(try simp only[bs]at hg);exact @Z10 w.queue (w.old.getD i default) (by(try simp only[bs]at hg);omega)) (Ft 43 (by simp only[bs, *,true_or,or_true,true_and,and_true,not_true_eq_false,not_false_eq_true,Bool.true_eq_false,Bool.false_eq_true]:(!Z1j w (ofA w.heap.conf (w.old.getD i default)).fst||decide (w.old.getD i default∈w.queue))=true) (Fx 16 i Fz)))))))))
end
theorem Zmw(w:Work):CSpec Tryz.prog (rndF Tryz.f144 0) (ZjD w w.old.length).st (.ext 0) (Tg.st ⟨tm 84 [(1,.pt 8001 0 0),(2,.pt 8002 0 0)],[(8002,.box 176 [int 0,int 0,.d (.sl 0 []),.d (.sl 0 []),int 0,int 0,.d (.sl 0 []),.d (.sl 0 []),.d (.sl 0 []),int 0,int 0,int 0,int 0,int 0,int 0,int 0]),(8001,.box 176 w.cells)],60⟩):=by
 exact sF [] [] (Fl 13 wdv w.old (Ffb 14 (decide ((↑w.old.length:Int)<(↑w.old.length:Int))) Fz))
theorem Zkd(w:Work)(x:Int):∃ l n,Z5s w x=⟨⟨w.heap.conf,l,w.heap.pages,w.heap.space,w.heap.bump⟩,w.old,w.taken,w.queue,w.scanned,⟨w.rep.copied,w.rep.kept,n,w.rep.freed,w.rep.cleared,w.rep.steps⟩⟩∧l.length≤w.heap.words.length∧(WOk w.heap.words→WOk l)∧w.rep.filled≤n∧n≤w.rep.filled+1:=by
 unfold Z5s
 split
 ·refine⟨_,_,rfl,Z81 _ _ _,fun h=>Z5Y h ?_ _,by omega,by omega⟩
  intro y hy
  have hh:0≤(hdW w x).length∧(hdW w x).length≤255:=Z0i w.heap.words x
  simp only[objW,List.mem_cons,List.mem_replicate,Z51 hh]at hy
  rcases hy with rfl | ⟨_,rfl⟩<;>omega
 ·exact⟨w.heap.words,w.rep.filled,rfl,Nat.le_refl _,fun h=>h,by omega,by omega⟩
theorem Z5m(w:Work)(hw:FOk w):∀ k,FOk (fillN w k)∧(fillN w k).heap.conf=w.heap.conf∧(fillN w k).heap.pages=w.heap.pages∧(fillN w k).heap.space=w.heap.space∧(fillN w k).heap.bump=w.heap.bump∧(fillN w k).old=w.old∧(fillN w k).taken=w.taken∧(fillN w k).queue=w.queue∧(fillN w k).rep.freed=w.rep.freed∧(fillN w k).rep.cleared=w.rep.cleared∧w.rep.filled≤(fillN w k).rep.filled∧(fillN w k).rep.filled≤w.rep.filled+k
 | 0=>⟨hw,rfl,rfl,rfl,rfl,rfl,rfl,rfl,rfl,rfl,by simp[fillN],by simp[fillN]⟩
 | k+1=>by
  obtain⟨i0,i1,i2,i3,i4,i5,i6,i7,i8,i9,i10,i11⟩:=Z5m w hw k
  obtain⟨l,n,e,e1,e2,e3,e4⟩:=Zkd (fillN w k) (w.old.getD k default)
  have:fillN w (k+1)=_:=e
  rw[this]
  have hl:=i0.wl
  exact⟨⟨e2 i0.words,by simp only;omega,i0.pl,i0.ol,i0.o,i0.tl,i0.ql⟩,i1,i2,i3,i4,i5,i6,i7,i8,i9,by simp only;omega,by simp only;omega⟩
section
variable (w:Work) (hw:FOk w) (hr:w.rep.filled=0)
include hw hr
theorem Zjj:CSpec Tryz.prog (blkF Tryz.f144 0) (Tg.st ⟨tm 84 [(1,.pt 8001 0 0),(2,.pt 8002 0 0),(3,int 0)],[(8002,.box 176 [int 0,int 0,.d (.sl 0 []),.d (.sl 0 []),int 0,int 0,.d (.sl 0 []),.d (.sl 0 []),.d (.sl 0 []),int 0,int 0,int 0,int 0,int 0,int 0,int 0]),(8001,.box 176 w.cells)],60⟩) .nrm (Tg.st ⟨tm 84 [(1,.pt 8001 0 0),(2,.pt 8002 0 0)],[(8002,.box 176 [int 0,int 0,.d (.sl 0 []),.d (.sl 0 []),int 0,int 0,.d (.sl 0 []),.d (.sl 0 []),.d (.sl 0 []),int 0,int 0,int 0,int 0,int 0,int 0,int 0]),(8001,.box 176 (fillN w w.old.length).cells)],60⟩):=by
 have hol:=hw.ol
 refine Z0c (S:=fun k=>(ZjD (fillN w k) k).st) w.old.length (by kernel_rfl) (fun k hk=>?_) ?_
 ·have h:=Z5m w hw k
  have:=ZgU (fillN w k) k h.1 (by rw[h.2.2.2.2.2.1];exact hk) (by omega)
  rw[h.2.2.2.2.2.1]at this
  exact this
 ·have h:=Z5m w hw w.old.length
  have:=Zmw (fillN w w.old.length)
  rw[h.2.2.2.2.2.1]at this
  exact this
theorem Zcj:GSpec Tryz.prog 144 [w.av] false (fillN w w.old.length).av []:=by
 exact gF [] Tryz.func144 [] (Fu (@Zjj w ‹_› ‹_›) Fz)
end
def Z3a(s:Int)(p:Page):Prop:=p.kind≠0∧p.space=s
instance (s:Int) (p:Page):Decidable (Z3a s p):=by unfold Z3a;infer_instance
def Z1m(s:Int)(p:Page):Page:=if Z3a s p then⟨0,0,0,0⟩else p
def Z29(pw s:Int)(l:List Page)(ws:List Int):Nat→List Int
 | 0=>ws
 | i+1=>if Z3a s (l.getD i default)then spl (Z29 pw s l ws i) (i*pw.toNat) (List.replicate pw.toNat 0)else Z29 pw s l ws i
def Z4s(n s:Int)(l:List Page):Nat→Int
 | 0=>n
 | i+1=>if Z3a s (l.getD i default)then Z4s n s l i+1 else Z4s n s l i
def Zga(w:Work)(ps:List Page)(ws:List Int)(n:Int)(i:Nat):Tg:=⟨tm 78 [(1,.pt 8001 0 0),(2,.pt 8002 0 0),(3,int i)],[(8001,.box 176 [int w.heap.conf.pw,int w.heap.conf.pg,.ow 24017,.ow 16010,int w.heap.space,int w.heap.bump,Z01 w.old,Z0P w.taken,Z01 w.queue,int w.scanned,int w.rep.copied,int w.rep.kept,int w.rep.filled,int n,int w.rep.cleared,int w.rep.steps]),(24017,.arr 39 1 (ws.map wdv)),(16010,.arr 56 4 (ps.map Page.dv)),(8002,.box 176 [int 0,int 0,.d (.sl 0 []),.d (.sl 0 []),int 0,int 0,.d (.sl 0 []),.d (.sl 0 []),.d (.sl 0 []),int 0,int 0,int 0,int 0,int 0,int 0,int 0])],60⟩
theorem ZjC(w:Work)(ps:List Page)(ws:List Int)(n:Int)(i:Nat)(hl:ps.length≤64)(hi:i<ps.length)(hb:¬ Z3a w.heap.space (ps.getD i default)):CSpec Tryz.prog (rndF Tryz.f143 0) (Zga w ps ws n i).st .nrm (Zga w ps ws n (i+1)).st:=by
 unfold Z3a at hb
 have hb':¬ ((ps.getD (i:Int).toNat default).kind≠0∧(ps.getD (i:Int).toNat default).space=w.heap.space):=hb
 exact sF [] [] (Fl 24 Page.dv ps (Ftb 25 (decide ((↑i:Int)<(↑ps.length:Int))) (Fm 33 Page.dv ps (↑i) ((↑i:Int).toNat) (Ftb 44 ((ps.getD (↑i:Int).toNat default).kind==0||(ps.getD (↑i:Int).toNat default).space != w.heap.space) (Fx 27 i Fz)))))
def Zip(w:Work)(ps:List Page)(ws:List Int)(n:Int)(i k:Nat):Tg:=⟨tm 78 [(1,.pt 8001 0 0),(2,.pt 8002 0 0),(3,int i),(5,int k)],[(8001,.box 176 [int w.heap.conf.pw,int w.heap.conf.pg,.ow 24017,.ow 16010,int w.heap.space,int w.heap.bump,Z01 w.old,Z0P w.taken,Z01 w.queue,int w.scanned,int w.rep.copied,int w.rep.kept,int w.rep.filled,int n,int w.rep.cleared,int w.rep.steps]),(16010,.arr 56 4 (ps.map Page.dv)),(24017,.arr 39 1 ((wr ws (List.replicate w.heap.conf.pw.toNat 0) (i*w.heap.conf.pw.toNat) k).map wdv)),(8002,.box 176 [int 0,int 0,.d (.sl 0 []),.d (.sl 0 []),int 0,int 0,.d (.sl 0 []),.d (.sl 0 []),.d (.sl 0 []),int 0,int 0,int 0,int 0,int 0,int 0,int 0])],64⟩
section
variable (w:Work) (ps:List Page) (ws:List Int) (n:Int) (i k:Nat) (hp:0≤w.heap.conf.pw∧w.heap.conf.pw≤64) (hi:i≤64) (hl:i*w.heap.conf.pw.toNat+w.heap.conf.pw.toNat≤ws.length) (hw:ws.length≤4096)
include hp hi hl hw
theorem Zh8(hk:k<w.heap.conf.pw.toNat):CSpec Tryz.prog (rndF Tryz.f143 2) (Zip w ps ws n i k).st .nrm (Zip w ps ws n i (k+1)).st:=by
 have hs:=Zbf (ws:=ws) (l:=List.replicate w.heap.conf.pw.toNat 0) (i:=i*w.heap.conf.pw.toNat) (k:=k) (by simpa using hl) (by simpa using hk) (0:Int)
 rw[show(List.replicate w.heap.conf.pw.toNat (0:Int)).getD k 0=0 by simp[List.getD,hk]]at hs
 have hn:=Z4N (ws:=ws) (l:=List.replicate w.heap.conf.pw.toNat (0:Int)) (i:=i*w.heap.conf.pw.toNat) (k:=k) (by simpa using hl) (by simp;omega)
 have em:(i:Int)*w.heap.conf.pw=((i*w.heap.conf.pw.toNat:Nat):Int):=by rw[Int.natCast_mul,Int.toNat_of_nonneg hp.1]
 have ei:(i:Int)*w.heap.conf.pw+k=((i*w.heap.conf.pw.toNat+k:Nat):Int):=by omega
 exact sF [] [false,false,false,false,false,false,true] (Fh 10076 [.els (List.map wdv ((wr ws (List.replicate w.heap.conf.pw.toNat 0) (i*w.heap.conf.pw.toNat) k).set (↑(i*w.heap.conf.pw.toNat+k):Int).toNat 0))] (Ftb 62 (decide ((↑k:Int)<w.heap.conf.pw)) (Fi 73 ((↑i:Int)*w.heap.conf.pw) (Fg 75 (by rw[wrapI' (by omega) (by omega)];omega:IntKind.i64.wrap ((↑i:Int)*w.heap.conf.pw+(↑k:Int))=(↑(i*w.heap.conf.pw.toNat+k):Int)) (Fa (by(simp only[List.length_map];omega):0≤(↑(i*w.heap.conf.pw.toNat+k):Int)∧(↑(i*w.heap.conf.pw.toNat+k):Int).toNat<(List.map wdv (wr ws (List.replicate w.heap.conf.pw.toNat 0) (i*w.heap.conf.pw.toNat) k)).length) (Fa (by(simp only[List.length_map];omega):(↑(i*w.heap.conf.pw.toNat+k):Int).toNat<(List.map wdv (wr ws (List.replicate w.heap.conf.pw.toNat 0) (i*w.heap.conf.pw.toNat) k)).length) (Fa (by simp[List.map_take,List.map_drop,List.map_set,List.map_append,wdv,idv]:(List.map wdv (wr ws (List.replicate w.heap.conf.pw.toNat 0) (i*w.heap.conf.pw.toNat) k)).set (↑(i*w.heap.conf.pw.toNat+k):Int).toNat [du64 0]=List.map wdv ((wr ws (List.replicate w.heap.conf.pw.toNat 0) (i*w.heap.conf.pw.toNat) k).set (↑(i*w.heap.conf.pw.toNat+k):Int).toNat 0)) (Fx 64 k (Fr (39:Int) (Fa (by refine congrArg _ ?_;exact hs:List.map wdv ((wr ws (List.replicate w.heap.conf.pw.toNat 0) (i*w.heap.conf.pw.toNat) k).set (↑(i*w.heap.conf.pw.toNat+k):Int).toNat 0)=List.map wdv (wr ws (List.replicate w.heap.conf.pw.toNat 0) (i*w.heap.conf.pw.toNat) (k+1))) Fz))))))))))
theorem Zlk:CSpec Tryz.prog (rndF Tryz.f143 2) (Zip w ps ws n i w.heap.conf.pw.toNat).st (.ext 2) (Tg.st ⟨tm 78 [(1,.pt 8001 0 0),(2,.pt 8002 0 0),(3,int i)],[(8001,.box 176 [int w.heap.conf.pw,int w.heap.conf.pg,.ow 24017,.ow 16010,int w.heap.space,int w.heap.bump,Z01 w.old,Z0P w.taken,Z01 w.queue,int w.scanned,int w.rep.copied,int w.rep.kept,int w.rep.filled,int n,int w.rep.cleared,int w.rep.steps]),(16010,.arr 56 4 (ps.map Page.dv)),(24017,.arr 39 1 ((spl ws (i*w.heap.conf.pw.toNat) (List.replicate w.heap.conf.pw.toNat 0)).map wdv)),(8002,.box 176 [int 0,int 0,.d (.sl 0 []),.d (.sl 0 []),int 0,int 0,.d (.sl 0 []),.d (.sl 0 []),.d (.sl 0 []),int 0,int 0,int 0,int 0,int 0,int 0,int 0])],64⟩):=by
 have hs:=ZcE ws (List.replicate w.heap.conf.pw.toNat (0:Int)) (i*w.heap.conf.pw.toNat)
 rw[List.length_replicate]at hs
 exact sF [] [false,false,false,false,false,true] (Ffb 62 (decide ((↑w.heap.conf.pw.toNat:Int)<w.heap.conf.pw)) (Fr (39:Int) (Fa (by refine congrArg _ ?_;assumption:List.map wdv (wr ws (List.replicate w.heap.conf.pw.toNat 0) (i*w.heap.conf.pw.toNat) w.heap.conf.pw.toNat)=List.map wdv (spl ws (i*w.heap.conf.pw.toNat) (List.replicate w.heap.conf.pw.toNat 0))) Fz)))
theorem ZiO:CSpec Tryz.prog (blkF Tryz.f143 2) (Tg.st ⟨tm 78 [(1,.pt 8001 0 0),(2,.pt 8002 0 0),(3,int i),(5,int 0)],[(8001,.box 176 [int w.heap.conf.pw,int w.heap.conf.pg,.ow 24017,.ow 16010,int w.heap.space,int w.heap.bump,Z01 w.old,Z0P w.taken,Z01 w.queue,int w.scanned,int w.rep.copied,int w.rep.kept,int w.rep.filled,int n,int w.rep.cleared,int w.rep.steps]),(16010,.arr 56 4 (ps.map Page.dv)),(24017,.arr 39 1 (ws.map wdv)),(8002,.box 176 [int 0,int 0,.d (.sl 0 []),.d (.sl 0 []),int 0,int 0,.d (.sl 0 []),.d (.sl 0 []),.d (.sl 0 []),int 0,int 0,int 0,int 0,int 0,int 0,int 0])],64⟩) .nrm (Tg.st ⟨tm 78 [(1,.pt 8001 0 0),(2,.pt 8002 0 0),(3,int i)],[(8001,.box 176 [int w.heap.conf.pw,int w.heap.conf.pg,.ow 24017,.ow 16010,int w.heap.space,int w.heap.bump,Z01 w.old,Z0P w.taken,Z01 w.queue,int w.scanned,int w.rep.copied,int w.rep.kept,int w.rep.filled,int n,int w.rep.cleared,int w.rep.steps]),(16010,.arr 56 4 (ps.map Page.dv)),(24017,.arr 39 1 ((spl ws (i*w.heap.conf.pw.toNat) (List.replicate w.heap.conf.pw.toNat 0)).map wdv)),(8002,.box 176 [int 0,int 0,.d (.sl 0 []),.d (.sl 0 []),int 0,int 0,.d (.sl 0 []),.d (.sl 0 []),.d (.sl 0 []),int 0,int 0,int 0,int 0,int 0,int 0,int 0])],64⟩):=by
 have:=Z0c (S:=fun k=>(Zip w ps ws n i k).st) w.heap.conf.pw.toNat (by kernel_rfl) (fun k hk=>Zh8 w ps ws n i k hp hi hl hw hk) (Zlk w ps ws n i hp hi hl hw)
 simp only[Zip,Z7V]at this
 exact this
end
theorem Zjc(w:Work)(ps:List Page)(ws:List Int)(n:Int)(i:Nat)(hl:ps.length≤64)(hi:i<ps.length)(hb:Z3a w.heap.space (ps.getD i default))(hp:0≤w.heap.conf.pw∧w.heap.conf.pw≤64)(hs:i*w.heap.conf.pw.toNat+w.heap.conf.pw.toNat≤ws.length)(hw:ws.length≤4096)(hn:0≤n∧n≤64):CSpec Tryz.prog (rndF Tryz.f143 0) (Zga w ps ws n i).st .nrm (Zga w (ps.set i ⟨0,0,0,0⟩) (spl ws (i*w.heap.conf.pw.toNat) (List.replicate w.heap.conf.pw.toNat 0)) (n+1) (i+1)).st:=by
 unfold Z3a at hb
 have hb':(ps.getD (i:Int).toNat default).kind≠0∧(ps.getD (i:Int).toNat default).space=w.heap.space:=hb
 exact sF [] [] (Fh 10050 [.els (List.map Page.dv (ps.set (↑i:Int).toNat (Page.mk 0 0 0 0)))] (Fl 24 Page.dv ps (Ftb 25 (decide ((↑i:Int)<(↑ps.length:Int))) (Fm 33 Page.dv ps (↑i) ((↑i:Int).toNat) (Ffb 44 ((ps.getD (↑i:Int).toNat default).kind==0||(ps.getD (↑i:Int).toNat default).space != w.heap.space) (Fa (by(simp only[List.length_map];omega):0≤(↑i:Int)∧(↑i:Int).toNat<(List.map Page.dv ps).length) (Fa (by(simp only[List.length_map];omega):(↑i:Int).toNat<(List.map Page.dv ps).length) (Fa (by rw[List.map_set];rfl:(List.map Page.dv ps).set (↑i:Int).toNat [dint 0,dint 0,dint 0,dint 0]=List.map Page.dv (ps.set (↑i:Int).toNat (Page.mk 0 0 0 0))) (Fi 54 (n+1) (Fu (@ZiO w (ps.set (↑i:Int).toNat (Page.mk 0 0 0 0)) ws (n+1) i ‹_› (by omega) ‹_› ‹_›) (Fx 27 i Fz)))))))))))
theorem Z5j{pw s:Int}{l:List Page}{ws:List Int}(h:l.length*pw.toNat≤ws.length):∀ i,i≤l.length→(Z29 pw s l ws i).length=ws.length
 | 0,_=>rfl
 | i+1,hi=>by
  have ih:=Z5j (s:=s) h i (by omega)
  have hm:(i+1)*pw.toNat≤l.length*pw.toNat:=Nat.mul_le_mul_right _ hi
  rw[Nat.add_mul,Nat.one_mul]at hm
  unfold Z29
  split
  ·rw[Z3M (by simp;omega),ih]
  ·exact ih
theorem Z5Q(n s:Int)(l:List Page):∀ i:Nat,n≤Z4s n s l i∧Z4s n s l i≤n+i
 | 0=>by simp[Z4s]
 | i+1=>by
  have ih:=Z5Q n s l i
  unfold Z4s
  split<;>omega
def Z11(w:Work):Work:=⟨⟨w.heap.conf,Z29 w.heap.conf.pw w.heap.space w.heap.pages w.heap.words w.heap.pages.length,w.heap.pages.map (Z1m w.heap.space),w.heap.space,w.heap.bump⟩,w.old,w.taken,w.queue,w.scanned,⟨w.rep.copied,w.rep.kept,w.rep.filled,Z4s w.rep.freed w.heap.space w.heap.pages w.heap.pages.length,w.rep.cleared,w.rep.steps⟩⟩
theorem ZlR(w:Work)(ps:List Page)(ws:List Int)(n:Int):CSpec Tryz.prog (rndF Tryz.f143 0) (Zga w ps ws n ps.length).st (.ext 0) (Tg.st ⟨tm 78 [(1,.pt 8001 0 0),(2,.pt 8002 0 0)],[(8001,.box 176 [int w.heap.conf.pw,int w.heap.conf.pg,.ow 24017,.ow 16010,int w.heap.space,int w.heap.bump,Z01 w.old,Z0P w.taken,Z01 w.queue,int w.scanned,int w.rep.copied,int w.rep.kept,int w.rep.filled,int n,int w.rep.cleared,int w.rep.steps]),(24017,.arr 39 1 (ws.map wdv)),(16010,.arr 56 4 (ps.map Page.dv)),(8002,.box 176 [int 0,int 0,.d (.sl 0 []),.d (.sl 0 []),int 0,int 0,.d (.sl 0 []),.d (.sl 0 []),.d (.sl 0 []),int 0,int 0,int 0,int 0,int 0,int 0,int 0])],60⟩):=by
 exact sF [] [] (Fl 24 Page.dv ps (Ffb 25 (decide ((↑ps.length:Int)<(↑ps.length:Int))) Fz))
section
variable (w:Work) (hl:w.heap.pages.length≤64) (hp:0≤w.heap.conf.pw∧w.heap.conf.pw≤64) (hs:w.heap.pages.length*w.heap.conf.pw.toNat≤w.heap.words.length) (hw:w.heap.words.length≤4096) (hr:w.rep.freed=0)
include hl hp hs hw hr
theorem Zkx:CSpec Tryz.prog (blkF Tryz.f143 0) (Tg.st ⟨tm 78 [(1,.pt 8001 0 0),(2,.pt 8002 0 0),(3,int 0)],[(8001,.box 176 [int w.heap.conf.pw,int w.heap.conf.pg,.ow 24017,.ow 16010,int w.heap.space,int w.heap.bump,Z01 w.old,Z0P w.taken,Z01 w.queue,int w.scanned,int w.rep.copied,int w.rep.kept,int w.rep.filled,int w.rep.freed,int w.rep.cleared,int w.rep.steps]),(24017,.arr 39 1 (w.heap.words.map wdv)),(16010,.arr 56 4 (w.heap.pages.map Page.dv)),(8002,.box 176 [int 0,int 0,.d (.sl 0 []),.d (.sl 0 []),int 0,int 0,.d (.sl 0 []),.d (.sl 0 []),.d (.sl 0 []),int 0,int 0,int 0,int 0,int 0,int 0,int 0])],60⟩) .nrm (Tg.st ⟨tm 78 [(1,.pt 8001 0 0),(2,.pt 8002 0 0)],[(8001,.box 176 [int w.heap.conf.pw,int w.heap.conf.pg,.ow 24017,.ow 16010,int w.heap.space,int w.heap.bump,Z01 w.old,Z0P w.taken,Z01 w.queue,int w.scanned,int w.rep.copied,int w.rep.kept,int w.rep.filled,int (Z4s w.rep.freed w.heap.space w.heap.pages w.heap.pages.length),int w.rep.cleared,int w.rep.steps]),(24017,.arr 39 1 ((Z29 w.heap.conf.pw w.heap.space w.heap.pages w.heap.words w.heap.pages.length).map wdv)),(16010,.arr 56 4 ((w.heap.pages.map (Z1m w.heap.space)).map Page.dv)),(8002,.box 176 [int 0,int 0,.d (.sl 0 []),.d (.sl 0 []),int 0,int 0,.d (.sl 0 []),.d (.sl 0 []),.d (.sl 0 []),int 0,int 0,int 0,int 0,int 0,int 0,int 0])],60⟩):=by
 refine Z0c (S:=fun k=>(Zga w (preM (Z1m w.heap.space) w.heap.pages k) (Z29 w.heap.conf.pw w.heap.space w.heap.pages w.heap.words k) (Z4s w.rep.freed w.heap.space w.heap.pages k) k).st) w.heap.pages.length (by kernel_rfl) (fun k hk=>?_) ?_
 ·have h1:=Z56 (Z1m w.heap.space) w.heap.pages k
  have h2:=Zab (Z1m w.heap.space) w.heap.pages (Nat.le_refl k) default
  have h3:=Z5j (s:=w.heap.space) hs k (by omega)
  have h4:=Z5Q w.rep.freed w.heap.space w.heap.pages k
  by_cases hb:Z3a w.heap.space (w.heap.pages.getD k default)
  ·have e1:=Z7R (Z1m w.heap.space) w.heap.pages hk default
   have e2:Z29 w.heap.conf.pw w.heap.space w.heap.pages w.heap.words (k+1)=spl (Z29 w.heap.conf.pw w.heap.space w.heap.pages w.heap.words k) (k*w.heap.conf.pw.toNat) (List.replicate w.heap.conf.pw.toNat 0):=by rw[Z29,if_pos hb]
   have e3:Z4s w.rep.freed w.heap.space w.heap.pages (k+1)=Z4s w.rep.freed w.heap.space w.heap.pages k+1:=by rw[Z4s,if_pos hb]
   rw[Z1m,if_pos hb]at e1
   rw[← e1,e2,e3]
   have hm:(k+1)*w.heap.conf.pw.toNat≤w.heap.pages.length*w.heap.conf.pw.toNat:=Nat.mul_le_mul_right _ hk
   rw[Nat.add_mul,Nat.one_mul]at hm
   exact Zjc w _ _ _ k (by omega) (by omega) (by rw[h2];exact hb) hp (by omega) (by omega) (by omega)
  ·have e1:=ZcK (Z1m w.heap.space) w.heap.pages hk default (by rw[Z1m,if_neg hb])
   have e2:Z29 w.heap.conf.pw w.heap.space w.heap.pages w.heap.words (k+1)=Z29 w.heap.conf.pw w.heap.space w.heap.pages w.heap.words k:=by rw[Z29,if_neg hb]
   have e3:Z4s w.rep.freed w.heap.space w.heap.pages (k+1)=Z4s w.rep.freed w.heap.space w.heap.pages k:=by rw[Z4s,if_neg hb]
   rw[← e1,e2,e3]
   exact ZjC w _ _ _ k (by omega) (by omega) (by rw[h2];exact hb)
 ·have h:=ZlR w (preM (Z1m w.heap.space) w.heap.pages w.heap.pages.length) (Z29 w.heap.conf.pw w.heap.space w.heap.pages w.heap.words w.heap.pages.length) (Z4s w.rep.freed w.heap.space w.heap.pages w.heap.pages.length)
  rw[Z56,ZaH]at h
  simp only[ZaH]
  exact h
theorem ZbO:GSpec Tryz.prog 143 [w.av] false (Z11 w).av []:=by
 have h1:=Z5j (s:=w.heap.space) hs w.heap.pages.length (Nat.le_refl _)
 have h2:=Z5Q w.rep.freed w.heap.space w.heap.pages w.heap.pages.length
 exact gF [] Tryz.func143 [] (Fs 6 (List.map Page.dv []) (Fa (by(simp[Z11, *];omega):(List.map Page.dv []).length+(List.map Page.dv w.heap.pages).length≤2^30) (Fs 10 (List.map Page.dv w.heap.pages) (Fs 13 (List.map wdv []) (Fa (by(simp[Z11, *];omega):(List.map wdv []).length+(List.map wdv w.heap.words).length≤2^30) (Fs 17 (List.map wdv w.heap.words) (Fu (@Zkx w ‹_› ‹_› ‹_› ‹_› ‹_›) Fz)))))))
end
def rep0:Rep:=⟨0,0,0,0,0,0⟩
theorem Z4w{h:Heap}{l:List Int}(e:Z0k h l=true):Z0t h=⟨0,0,0⟩:=by
 simp only[Z0k,Bool.and_eq_true,decide_eq_true_eq]at e
 exact e.1
section
variable (h:Heap) (s k:List Int) (hw:WOk h.words) (hs:s.length≤1048575) (hk:k.length≤1048575) (hs2:ULe s) (hk2:ULe k)
include hw hs hk hs2 hk2
theorem Zkw(hp:Z02 h=false):GSpec Tryz.prog 106 [h.av,Z01 s,Z01 k] false (.tu [noHeap.av,Z01 [],Z01 [],.ag rep0.cells,int 1]) []:=by
 exact gF [] Tryz.func106 [] (Fc 20 (@Z0l h) (Ftb 21 (!Z02 h) (Fnl (Fnl (Fnl (Fnl Fz))))))
theorem Zj3(hp:Z02 h=true)(hr:Z0k h s=false∨Z0k h k=false):GSpec Tryz.prog 106 [h.av,Z01 s,Z01 k] false (.tu [noHeap.av,Z01 [],Z01 [],.ag rep0.cells,int 19]) []:=by
 by_cases h1:Z0k h s=false
 ·exact gF [] Tryz.func106 [] (Fc 20 (@Z0l h) (Ffb 21 (!Z02 h) (Fc 26 (@Z1M h s ‹_› (by omega)) (FcG 31 (!!Z0k h s) (fun hg=>by(try simp only[bs]at hg);exact @Zcu h k (by(try simp only[bs]at hg);assumption) (by(try simp only[bs]at hg);grind[noHeap,rep0])) (Ft 33 (by simp only[bs, *,true_or,or_true,true_and,and_true,not_true_eq_false,not_false_eq_true,Bool.true_eq_false,Bool.false_eq_true]:(!Z0k h s||true)=true) (Fnl (Fnl (Fnl (Fnl Fz)))))))))
 ·have h2:Z0k h k=false:=by
   rcases hr with hr | hr
   ·exact absurd hr h1
   ·exact hr
  exact gF [] Tryz.func106 [] (Fc 20 (@Z0l h) (Ffb 21 (!Z02 h) (Fc 26 (@Z1M h s ‹_› (by omega)) (FcG 31 (!!Z0k h s) (fun hg=>by(try simp only[bs]at hg);exact @Z1M h k (by(try simp only[bs]at hg);assumption) (by(try simp only[bs]at hg);omega)) (Ftb 33 (!Z0k h s||!Z0k h k) (Fnl (Fnl (Fnl (Fnl Fz)))))))))
theorem ZkB(hp:Z02 h=true)(hr:Z0k h s=true)(hr':Z0k h k=true)(e:¬ (rootsF (beginW h) s).2.2=0):GSpec Tryz.prog 106 [h.av,Z01 s,Z01 k] false (.tu [noHeap.av,Z01 [],Z01 [],.ag rep0.cells,int (rootsF (beginW h) s).2.2]) []:=by
 have hb:=Z3h hw hp
 have hg:=Z4w hr
 exact gF [] Tryz.func106 [] (Fc 20 (@Z0l h) (Ffb 21 (!Z02 h) (Fc 26 (@Z1M h s ‹_› (by omega)) (FcG 31 (!!Z0k h s) (fun hg=>by(try simp only[bs]at hg);exact @Z1M h k (by(try simp only[bs]at hg);assumption) (by(try simp only[bs]at hg);omega)) (Ff 33 (by simp only[bs, *,true_or,or_true,true_and,and_true,not_true_eq_false,not_false_eq_true,Bool.true_eq_false,Bool.false_eq_true]:(!Z0k h s||!Z0k h k)=false) (Fc 38 (@Z4e h ‹_› ‹_› ‹_›) (Fc 44 (@Z5b (beginW h) s ‹_› ‹_› ‹_›) (Ftb 49 ((rootsF (beginW h) s).snd.snd != 0) (Fnl (Fnl (Fnl (Fnl Fz))))))))))))
theorem Zkn(hp:Z02 h=true)(hr:Z0k h s=true)(hr':Z0k h k=true)(e:(rootsF (beginW h) s).2.2=0)(e2:¬ (allF (rootsF (beginW h) s).1).2=0):GSpec Tryz.prog 106 [h.av,Z01 s,Z01 k] false (.tu [noHeap.av,Z01 [],Z01 [],.ag rep0.cells,int (allF (rootsF (beginW h) s).1).2]) []:=by
 have hb:=Z3h hw hp
 have hi:=Z38 hp
 have hg:=Z4w hr
 have ho:=Z35 (roots:=s) hb hi e
 have ho1:=ho.1
 exact gF [] Tryz.func106 [] (Fc 20 (@Z0l h) (Ffb 21 (!Z02 h) (Fc 26 (@Z1M h s ‹_› (by omega)) (FcG 31 (!!Z0k h s) (fun hg=>by(try simp only[bs]at hg);exact @Z1M h k (by(try simp only[bs]at hg);assumption) (by(try simp only[bs]at hg);omega)) (Ff 33 (by simp only[bs, *,true_or,or_true,true_and,and_true,not_true_eq_false,not_false_eq_true,Bool.true_eq_false,Bool.false_eq_true]:(!Z0k h s||!Z0k h k)=false) (Fc 38 (@Z4e h ‹_› ‹_› ‹_›) (Fc 44 (@Z5b (beginW h) s ‹_› ‹_› ‹_›) (Ffb 49 ((rootsF (beginW h) s).snd.snd != 0) (Fc 55 (@Zap ((rootsF (beginW h) s).fst) ‹_›) (Ftb 59 ((allF (rootsF (beginW h) s).fst).snd != 0) (Fnl (Fnl (Fnl (Fnl Fz))))))))))))))
end
def Z6d(w:Work)(x:Int):Int:=if x=0 then 0 else Z1t w x
def Z8Z(w:Work)(x:Int):Work:=⟨w.heap,w.old,w.taken,w.queue,w.scanned,⟨w.rep.copied,w.rep.kept,w.rep.filled,w.rep.freed,if x≠0∧Z1t w x=0 then w.rep.cleared+1 else w.rep.cleared,w.rep.steps⟩⟩
def weakS(w:Work)(k:List Int):Nat→Work
 | 0=>w
 | i+1=>Z8Z (weakS w k i) (k.getD i default)
def Z2U(w:Work)(k:List Int):Nat→List Int
 | 0=>[]
 | i+1=>Z2U w k i++[Z6d (weakS w k i) (k.getD i default)]
theorem Z49(w:Work)(k:List Int):∀ i,(weakS w k i).heap=w.heap∧(weakS w k i).old=w.old∧(weakS w k i).taken=w.taken∧(weakS w k i).queue=w.queue∧(weakS w k i).rep.filled=w.rep.filled∧(weakS w k i).rep.freed=w.rep.freed∧w.rep.cleared≤(weakS w k i).rep.cleared∧(weakS w k i).rep.cleared≤w.rep.cleared+i
 | 0=>⟨rfl,rfl,rfl,rfl,rfl,rfl,by simp[weakS],by simp[weakS]⟩
 | i+1=>by
  obtain⟨h1,h2,h3,h4,h5,h6,h7,h8⟩:=Z49 w k i
  refine⟨h1,h2,h3,h4,h5,h6, ?_, ?_⟩
  ·simp only[weakS,Z8Z];split<;>omega
  ·simp only[weakS,Z8Z];split<;>omega
theorem Z88(w:Work)(k:List Int):∀ i,(Z2U w k i).length=i
 | 0=>rfl
 | i+1=>by simp[Z2U,Z88 w k i]
def Zk6(w:Work)(k roots out:List Int)(i:Nat):Tg:=⟨tm 122 [(2,Z01 k),(6,.pt 8006 0 0),(7,.d (.sl 0 [])),(8,.d (.sl 0 [])),(9,.pt 8009 0 0),(10,int 0),(11,.pt 32011 0 0),(13,Z01 roots),(15,.ow 72015),(16,int i)],[(72015,.arr 39 1 (out.map wdv)),(32011,.box 176 w.cells),(8009,.box 149 [int 0,int 0,int 0,int 0,int 0,int 0]),(8006,.box 28 [int 0,int 0,.d (.sl 0 []),.d (.sl 0 []),int 0,int 0])],60⟩
section
variable (w:Work) (k roots out:List Int) (i:Nat) (hw:WOk w.heap.words) (hl:w.heap.words.length≤4096) (hq:w.queue.length≤1048576) (hk:k.length≤1048575) (hx:0≤k.getD i default∧k.getD i default≤18446744073709551615) (ho:out.length≤1048576) (hi:i<k.length) (hc:0≤w.rep.cleared∧w.rep.cleared≤2097152)
include hw hl hq hk hx ho hi hc
theorem Zgu:CSpec Tryz.prog (rndF Tryz.f106 0) (Zk6 w k roots out i).st .nrm (Zk6 (Z8Z w (k.getD i default)) k roots (out++[Z6d w (k.getD i default)]) (i+1)).st:=by
 by_cases h0:k.getD i default=0
 ·have e1:Z6d w (k.getD i default)=0:=by rw[Z6d,if_pos h0]
  have e2:Z8Z w (k.getD i default)=w:=by rw[Z8Z,if_neg (by rintro⟨q,_⟩;exact q h0)]
  rw[e1,e2]
  exact sF [(504091,72015)] [] (Fh 91 [.els (List.map wdv (out++[0]))] (Fl 65 wdv k (Ftb 66 (decide ((↑i:Int)<(↑k.length:Int))) (Fek 71 wdv k (↑i) i (Ffb 73 (k.getD i default != 0) (Fs 90 (List.map wdv [0]) (Fa (by(simp[*];omega):(List.map wdv out).length+(List.map wdv [0]).length≤2^30) (Fa (by simp[List.map_take,List.map_drop,List.map_set,List.map_append,wdv,idv]:List.map wdv out++List.map wdv [0]=List.map wdv (out++[0])) (Fx 68 i Fz)))))))))
 ·have e1:Z6d w (k.getD i default)=Z1t w (k.getD i default):=by rw[Z6d,if_neg h0]
  rw[e1]
  by_cases h2:Z1t w (k.getD i default)=0
  ·have e2:Z8Z w (k.getD i default)=⟨w.heap,w.old,w.taken,w.queue,w.scanned,⟨w.rep.copied,w.rep.kept,w.rep.filled,w.rep.freed,w.rep.cleared+1,w.rep.steps⟩⟩:=by rw[Z8Z,if_pos ⟨h0,h2⟩]
   rw[e2]
   exact sF [(528091,72015)] [] (Fh 91 [.els (List.map wdv (out++[Z1t w (k.getD i default)]))] (Fl 65 wdv k (Ftb 66 (decide ((↑i:Int)<(↑k.length:Int))) (Fek 71 wdv k (↑i) i (Ftb 73 (k.getD i default != 0) (Fek 77 wdv k (↑i) i (Fc 79 (@Z9y w (k.getD i default) ‹_› ‹_› ‹_› ‹_›) (Ftb 81 (Z1t w (k.getD i default)==0) (Fi 85 (w.rep.cleared+1) (Fs 90 (List.map wdv [Z1t w (k.getD i default)]) (Fa (by(simp[*];omega):(List.map wdv out).length+(List.map wdv [Z1t w (k.getD i default)]).length≤2^30) (Fa (by simp[List.map_take,List.map_drop,List.map_set,List.map_append,wdv,idv]:List.map wdv out++List.map wdv [Z1t w (k.getD i default)]=List.map wdv (out++[Z1t w (k.getD i default)])) (Fx 68 i Fz)))))))))))))
  ·have e2:Z8Z w (k.getD i default)=w:=by rw[Z8Z,if_neg (by rintro⟨_,q⟩;exact h2 q)]
   rw[e2]
   exact sF [(520091,72015)] [] (Fh 91 [.els (List.map wdv (out++[Z1t w (k.getD i default)]))] (Fl 65 wdv k (Ftb 66 (decide ((↑i:Int)<(↑k.length:Int))) (Fek 71 wdv k (↑i) i (Ftb 73 (k.getD i default != 0) (Fek 77 wdv k (↑i) i (Fc 79 (@Z9y w (k.getD i default) ‹_› ‹_› ‹_› ‹_›) (Ffb 81 (Z1t w (k.getD i default)==0) (Fs 90 (List.map wdv [Z1t w (k.getD i default)]) (Fa (by(simp[*];omega):(List.map wdv out).length+(List.map wdv [Z1t w (k.getD i default)]).length≤2^30) (Fa (by simp[List.map_take,List.map_drop,List.map_set,List.map_append,wdv,idv]:List.map wdv out++List.map wdv [Z1t w (k.getD i default)]=List.map wdv (out++[Z1t w (k.getD i default)])) (Fx 68 i Fz))))))))))))
end
theorem Zmx(w:Work)(k roots out:List Int):CSpec Tryz.prog (rndF Tryz.f106 0) (Zk6 w k roots out k.length).st (.ext 0) (Tg.st ⟨tm 122 [(6,.pt 8006 0 0),(7,.d (.sl 0 [])),(8,.d (.sl 0 [])),(9,.pt 8009 0 0),(10,int 0),(11,.pt 32011 0 0),(13,Z01 roots),(15,.ow 72015)],[(72015,.arr 39 1 (out.map wdv)),(32011,.box 176 w.cells),(8009,.box 149 [int 0,int 0,int 0,int 0,int 0,int 0]),(8006,.box 28 [int 0,int 0,.d (.sl 0 []),.d (.sl 0 []),int 0,int 0])],60⟩):=by
 exact sF [] [] (Fl 65 wdv k (Ffb 66 (decide ((↑k.length:Int)<(↑k.length:Int))) Fz))
theorem Zfd(w:Work)(k roots:List Int)(hw:WOk w.heap.words)(hl:w.heap.words.length≤4096)(hq:w.queue.length≤1048576)(hk:k.length≤1048575)(hx:ULe k)(hc:w.rep.cleared=0):CSpec Tryz.prog (blkF Tryz.f106 0) (Tg.st ⟨tm 122 [(2,Z01 k),(6,.pt 8006 0 0),(7,.d (.sl 0 [])),(8,.d (.sl 0 [])),(9,.pt 8009 0 0),(10,int 0),(11,.pt 32011 0 0),(13,Z01 roots),(15,.ow 72015),(16,int 0)],[(72015,.arr 39 1 []),(32011,.box 176 w.cells),(8009,.box 149 [int 0,int 0,int 0,int 0,int 0,int 0]),(8006,.box 28 [int 0,int 0,.d (.sl 0 []),.d (.sl 0 []),int 0,int 0])],60⟩) .nrm (Tg.st ⟨tm 122 [(6,.pt 8006 0 0),(7,.d (.sl 0 [])),(8,.d (.sl 0 [])),(9,.pt 8009 0 0),(10,int 0),(11,.pt 32011 0 0),(13,Z01 roots),(15,.ow 72015)],[(72015,.arr 39 1 ((Z2U w k k.length).map wdv)),(32011,.box 176 (weakS w k k.length).cells),(8009,.box 149 [int 0,int 0,int 0,int 0,int 0,int 0]),(8006,.box 28 [int 0,int 0,.d (.sl 0 []),.d (.sl 0 []),int 0,int 0])],60⟩):=by
 refine Z0c (S:=fun i=>(Zk6 (weakS w k i) k roots (Z2U w k i) i).st) k.length (by kernel_rfl) (fun i hi=>?_) (Zmx _ k roots _)
 have h:=Z49 w k i
 exact Zgu _ k roots _ i (by rw[h.1];exact hw) (by rw[h.1];exact hl) (by rw[h.2.2.2.1];exact hq) hk (Z5o hx i) (by rw[Z88];omega) hi (by omega)
abbrev cB(h:Heap)(s k:List Int):Work:=weakS (allF (rootsF (beginW h) s).fst).fst k k.length
abbrev cA(h:Heap)(s k:List Int):Work:=fillN (cB h s k) (cB h s k).old.length
theorem ZdY{n:Int}(h:0≤n∧n≤255):(decodeH (1+16*n)).1.length=n:=by
 have e:Z2l (1+16*n)=⟨0,n,0⟩:=by
  simp only[Z2l,Header.mk.injEq]
  omega
 have he:=Z51 h
 unfold decodeH
 rw[e,he]
 simp
theorem Zio{w:Work}(h:Inv w){x:Int}(hx:x∈w.old):Inv (Z5s w x):=by
 unfold Z5s
 split
 ·rename_i hc
  have hr:=h.r x (List.mem_append_left _ hx)
  have hh:=Z0i w.heap.words x
  have hl:(objW ⟨0,(hdW w x).length,0⟩).length=(hlA w.heap.words x+1).toNat:=by
   show(objW ⟨0,hlA w.heap.words x,0⟩).length=_
   simp[objW];omega
  have hin:4096≤x∧x-4096+(objW ⟨0,(hdW w x).length,0⟩).length≤w.heap.words.length:=by omega
  have hlen:(Z0u w.heap.words x (objW ⟨0,(hdW w x).length,0⟩)).1.length=w.heap.words.length:=by
   unfold Z0u
   rw[if_pos hin]
   exact Z3M (by omega)
  have:=h.withWords hlen (fun a ha=>?_)
  ·exact⟨this.L,this.r,this.s,this.f,this.z⟩
  ·by_cases he:a=x
   ·subst he
    have:hlA (Z0u w.heap.words a (objW ⟨0,(hdW w a).length,0⟩)).1 a=hlA w.heap.words a:=by
     have e1:=Z1W (b:=a) hin (by omega)
     unfold hlA at *
     rw[e1]
     have e2:(objW ⟨0,(hdW w a).length,0⟩).getD (a-a).toNat 0=1+16*(decodeH (loadA w.heap.words a).1).1.length:=by
      rw[Int.sub_self]
      show(Z0b ⟨0,(hdW w a).length,0⟩).1=_
      rw[Z51 (show 0≤(hdW w a).length∧(hdW w a).length≤255 from hh)]
      rfl
     rw[e2]
     exact ZdY hh
    omega
   ·have s1:=h.s a ha x (List.mem_append_left _ hx)
    have s2:=h.s x (List.mem_append_left _ hx) a ha
    have ha0:=Z0i w.heap.words a
    have:hlA (Z0u w.heap.words x (objW ⟨0,(hdW w x).length,0⟩)).1 a=hlA w.heap.words a:=by
     have e1:=Z22 (b:=a) hin (by
      rcases Int.lt_or_lt_of_ne he with q | q
      ·exact Or.inl q
      ·have:=s2 q;exact Or.inr (by omega))
     unfold hlA
     rw[e1]
    omega
 ·exact h
theorem ZbG{w:Work}(hw:FOk w)(h:Inv w):∀ k,k≤w.old.length→Inv (fillN w k)
 | 0,_=>h
 | k+1,hk=>Zio (ZbG hw h k (by omega)) (by rw[(Z5m w hw k).2.2.2.2.2.1];exact getD_mem_iff.2 ⟨k,by omega,rfl⟩)
theorem Zcb{w:Work}(h:Inv w)(k:List Int):∀ i,Inv (weakS w k i)
 | 0=>h
 | i+1=>by
  have ih:=Zcb h k i
  exact⟨ih.L,ih.r,ih.s,ih.f,ih.z⟩
theorem ZbD{w:Work}(h:FOk w)(k:List Int):∀ i,FOk (weakS w k i)
 | 0=>h
 | i+1=>by
  have ih:=ZbD h k i
  exact⟨ih.words,ih.wl,ih.pl,ih.ol,ih.o,ih.tl,ih.ql⟩
def cW2(h:Heap)(s:List Int):Work:=(allF (rootsF (beginW h) s).1).1
def cW3(h:Heap)(s k:List Int):Work:=weakS (cW2 h s) k k.length
def cW4(h:Heap)(s k:List Int):Work:=fillN (cW3 h s k) (cW3 h s k).old.length
def cW5(h:Heap)(s k:List Int):Work:=Z11 (cW4 h s k)
def endH(w:Work):Heap:=⟨w.heap.conf,w.heap.words,w.heap.pages,1-w.heap.space,if 0<w.taken.length then Z0Y w else -1⟩
structure COk (h:Heap) (s k:List Int):Prop where
 w2:WkOk (cW2 h s)
 i2:Inv (cW2 h s)
 x2:Ext (beginW h) (cW2 h s)
 f3:FOk (cW3 h s k)
 i3:Inv (cW3 h s k)
 r3:(cW3 h s k).rep.filled=0∧(cW3 h s k).rep.freed=0
 f4:FOk (cW4 h s k)
 i4:Inv (cW4 h s k)
 h4:(cW4 h s k).heap.conf=h.conf∧(cW4 h s k).heap.pages=(cW2 h s).heap.pages∧(cW4 h s k).heap.space=(cW2 h s).heap.space∧(cW4 h s k).taken=(cW2 h s).taken∧(cW4 h s k).rep.freed=0
section
variable (h:Heap) (s k:List Int) (hw:WOk h.words) (hp:Z02 h=true) (e:(rootsF (beginW h) s).2.2=0) (e2:(allF (rootsF (beginW h) s).1).2=0)
include hw hp e e2
theorem cOk:COk h s k:=by
 have hb:=Z3h hw hp
 have hi:=Z38 hp
 have ho:=Z35 (roots:=s) hb hi e
 have w2:WkOk (cW2 h s):=Zmz _ ho.1 e2
 have i2:=Zay ho.1 ho.2.1 e2
 have x2:Ext (beginW h) (cW2 h s):=ho.2.2.1.trans i2.2
 have f3:FOk (cW3 h s k):=ZbD w2.fok k _
 have i3:Inv (cW3 h s k):=Zcb i2.1 k _
 obtain⟨a1,a2,a3,a4,a5,a6,a7,a8⟩:=Z49 (cW2 h s) k k.length
 have hr0:=w2.r0
 have r3:(cW3 h s k).rep.filled=0∧(cW3 h s k).rep.freed=0:=⟨a5.trans hr0.1,a6.trans hr0.2.1⟩
 obtain⟨b0,b1,b2,b3,b4,b5,b6,b7,b8,b9,b10,b11⟩:=Z5m (cW3 h s k) f3 (cW3 h s k).old.length
 refine⟨w2,i2.1,x2,f3,i3,r3,b0,ZbG f3 i3 _ (Nat.le_refl _), ?_, ?_, ?_, ?_, ?_⟩
 ·show(fillN (cW3 h s k) (cW3 h s k).old.length).heap.conf=_
  rw[b1]
  show(weakS (cW2 h s) k k.length).heap.conf=_
  rw[a1]
  exact x2.c
 ·show(fillN (cW3 h s k) (cW3 h s k).old.length).heap.pages=_
  rw[b2]
  show(weakS (cW2 h s) k k.length).heap.pages=_
  rw[a1]
 ·show(fillN (cW3 h s k) (cW3 h s k).old.length).heap.space=_
  rw[b3]
  show(weakS (cW2 h s) k k.length).heap.space=_
  rw[a1]
 ·show(fillN (cW3 h s k) (cW3 h s k).old.length).taken=_
  rw[b6]
  exact a3
 ·show(fillN (cW3 h s k) (cW3 h s k).old.length).rep.freed=_
  rw[b8]
  exact r3.2
theorem cOk5:(cW4 h s k).heap.pages.length≤64∧0≤(cW4 h s k).heap.conf.pw∧(cW4 h s k).heap.conf.pw≤64∧(cW4 h s k).heap.pages.length*(cW4 h s k).heap.conf.pw.toNat≤(cW4 h s k).heap.words.length∧(cW4 h s k).heap.words.length≤4096:=by
 have c:=cOk h s k hw hp e e2
 have po:=Z07 hp
 have hL:=c.i4.L
 have hpl:=c.w2.pl
 have hc2:=c.x2.c
 have hc:(cW2 h s).heap.conf=h.conf:=hc2
 rw[hc]at hpl
 rw[c.h4.1]at hL
 have hl4:=c.f4.wl
 rw[c.h4.1,c.h4.2.1]
 refine⟨by omega,by omega,by omega, ?_,hl4⟩
 have:(((cW2 h s).heap.pages.length*h.conf.pw.toNat:Nat):Int)=h.conf.pw*h.conf.pg:=by
  rw[Int.natCast_mul,Int.toNat_of_nonneg (by omega),hpl,Int.mul_comm]
 omega
end
def Z0g(h:Heap)(s k:List Int):Heap×List Int×List Int×Rep×Int :=
 if Z02 h=true then
  (if Z0k h s=true∧Z0k h k=true then
   (if(rootsF (beginW h) s).2.2=0 then
    (if(allF (rootsF (beginW h) s).1).2=0 then(endH (cW5 h s k),(rootsF (beginW h) s).2.1,Z2U (cW2 h s) k k.length,(cW5 h s k).rep,0)
    else(noHeap,[],[],rep0,(allF (rootsF (beginW h) s).1).2))
   else(noHeap,[],[],rep0,(rootsF (beginW h) s).2.2))
  else(noHeap,[],[],rep0,19))
 else(noHeap,[],[],rep0,1)
section
variable (h:Heap) (s k:List Int) (hw:WOk h.words) (hs:s.length≤1048575) (hk:k.length≤1048575) (hs2:ULe s) (hk2:ULe k)
include hw hs hk hs2 hk2
theorem Zjk(hp:Z02 h=true)(hr:Z0k h s=true)(hr':Z0k h k=true)(e:(rootsF (beginW h) s).2.2=0)(e2:(allF (rootsF (beginW h) s).1).2=0):GSpec Tryz.prog 106 [h.av,Z01 s,Z01 k] false (.tu [(endH (cW5 h s k)).av,Z01 (rootsF (beginW h) s).2.1,Z01 (Z2U (cW2 h s) k k.length),.ag (cW5 h s k).rep.cells,int 0]) []:=by
 have hb:=Z3h hw hp
 have hi:=Z38 hp
 have hg:=Z4w hr
 have ho:=Z35 (roots:=s) hb hi e
 have ho1:=ho.1
 have ho4:=ho.2.2.2.2
 have c:=cOk h s k hw hp e e2
 obtain⟨q1,q2,q3,q4,q5⟩:=cOk5 h s k hw hp e e2
 have w2:=c.w2
 have f3:=c.f3
 have r3:=c.r3.1
 obtain⟨g1,g2,g3,g4,g5⟩:=c.h4
 have v1:=w2.words
 have v2:=w2.wl
 have v3:=w2.mu
 have v4:=w2.tl
 have v5:=w2.sp
 have v6:=w2.r0.2.2
 have v7:=congrArg List.length g4
 have z1:(Z11 (cW4 h s k)).taken=(cW4 h s k).taken:=rfl
 have v8:=congrArg List.length z1
 have z2:(Z11 (cW4 h s k)).heap.space=(cW4 h s k).heap.space:=rfl
 clear c
 unfold cW4 at *
 unfold cW3 at *
 unfold cW2 at *
 have Q0 {h_ c_ p_} (r_:Fq h_ c_ p_):=Fc 20 (@Z0l h) (Ffb 21 (!Z02 h) (Fc 26 (@Z1M h s ‹_› (by omega)) (FcG 31 (!!Z0k h s) (fun hg=>by(try simp only[bs]at hg);exact @Z1M h k (by(try simp only[bs]at hg);assumption) (by(try simp only[bs]at hg);omega)) (Ff 33 (by simp only[bs, *,true_or,or_true,true_and,and_true,not_true_eq_false,not_false_eq_true,Bool.true_eq_false,Bool.false_eq_true]:(!Z0k h s||!Z0k h k)=false) (Fc 38 (@Z4e h ‹_› ‹_› ‹_›) (Fc 44 (@Z5b (beginW h) s ‹_› ‹_› ‹_›) (Ffb 49 ((rootsF (beginW h) s).snd.snd != 0) (Fc 55 (@Zap ((rootsF (beginW h) s).fst) ‹_›) (Ffb 59 ((allF (rootsF (beginW h) s).fst).snd != 0) (Fu (@Zfd ((allF (rootsF (beginW h) s).fst).fst) k ((rootsF (beginW h) s).snd.fst) ‹_› ‹_› (by omega) ‹_› ‹_› ‹_›) (Fc 93 (@Zcj (weakS (allF (rootsF (beginW h) s).fst).fst k k.length) ‹_› ‹_›) (Fc 94 (@ZbO (fillN (weakS (allF (rootsF (beginW h) s).fst).fst k k.length) (weakS (allF (rootsF (beginW h) s).fst).fst k k.length).old.length) ‹_› (by omega) ‹_› ‹_› ‹_›) (Fi 98 (1-(Z11 (fillN (weakS (allF (rootsF (beginW h) s).fst).fst k k.length) (weakS (allF (rootsF (beginW h) s).fst).fst k k.length).old.length)).heap.space) (Fl 105 idv (Z11 (fillN (weakS (allF (rootsF (beginW h) s).fst).fst k k.length) (weakS (allF (rootsF (beginW h) s).fst).fst k k.length).old.length)).taken r_))))))))))))))
 rcases bb (decide (0<(↑(Z11 (fillN (weakS (allF (rootsF (beginW h) s).fst).fst k k.length) (weakS (allF (rootsF (beginW h) s).fst).fst k k.length).old.length)).taken.length:Int)))with hc0 | hc0<;>have hc0p:=hc0<;>simp only[bs]at hc0p
 ·exact gF [] Tryz.func106 [false,false,false,false,false,false,false,false,false,false,false,false,false,false,false,false,false,false,true] (Fh 15 [.own] (Q0 (Ft 107 hc0 (Fi 111 ((↑(Z11 (fillN (weakS (allF (rootsF (beginW h) s).fst).fst k k.length) (weakS (allF (rootsF (beginW h) s).fst).fst k k.length).old.length)).taken.length:Int)-1) (Fek 112 idv ((Z11 (fillN (weakS (allF (rootsF (beginW h) s).fst).fst k k.length) (weakS (allF (rootsF (beginW h) s).fst).fst k k.length).old.length)).taken) ((↑(Z11 (fillN (weakS (allF (rootsF (beginW h) s).fst).fst k k.length) (weakS (allF (rootsF (beginW h) s).fst).fst k k.length).old.length)).taken.length:Int)-1) (((↑(Z11 (fillN (weakS (allF (rootsF (beginW h) s).fst).fst k k.length) (weakS (allF (rootsF (beginW h) s).fst).fst k k.length).old.length)).taken.length:Int)-1).toNat) (Fr ((endH (cW5 h s k)).conf.pw) (Fr ((endH (cW5 h s k)).conf.pg) (Fr (List.map wdv (endH (cW5 h s k)).words) (Fr (List.map Page.dv (endH (cW5 h s k)).pages) (Fr ((endH (cW5 h s k)).space) (Fa (by(simp only[endH,cW5,cW4,cW3,cW2,Z0Y];(repeat' split)<;>first | rfl | omega | (exfalso;omega) | simp_all):(Z11 (fillN (weakS (allF (rootsF (beginW h) s).fst).fst k k.length) (weakS (allF (rootsF (beginW h) s).fst).fst k k.length).old.length)).taken.getD ((↑(Z11 (fillN (weakS (allF (rootsF (beginW h) s).fst).fst k k.length) (weakS (allF (rootsF (beginW h) s).fst).fst k k.length).old.length)).taken.length:Int)-1).toNat default=(endH (cW5 h s k)).bump) (Fr (List.map wdv (rootsF (beginW h) s).snd.fst) (Fr (List.map wdv (Z2U (allF (rootsF (beginW h) s).fst).fst k k.length)) (Fr ((cW5 h s k).rep.copied) (Fr ((cW5 h s k).rep.kept) (Fr ((cW5 h s k).rep.filled) (Fr ((cW5 h s k).rep.freed) (Fr ((cW5 h s k).rep.cleared) (Fr ((cW5 h s k).rep.steps) (Fr (0:Int) Fz))))))))))))))))))))
 ·exact gF [] Tryz.func106 [false,false,false,false,false,false,false,false,false,false,false,false,false,false,false,false,false,false,true] (Fh 15 [.own] (Q0 (Ff 107 hc0 (Fr ((endH (cW5 h s k)).conf.pw) (Fr ((endH (cW5 h s k)).conf.pg) (Fr (List.map wdv (endH (cW5 h s k)).words) (Fr (List.map Page.dv (endH (cW5 h s k)).pages) (Fr ((endH (cW5 h s k)).space) (Fa (by(simp[endH,cW5,cW4,cW3,cW2,Z0Y, *];omega):(-1:Int)=(endH (cW5 h s k)).bump) (Fr (List.map wdv (rootsF (beginW h) s).snd.fst) (Fr (List.map wdv (Z2U (allF (rootsF (beginW h) s).fst).fst k k.length)) (Fr ((cW5 h s k).rep.copied) (Fr ((cW5 h s k).rep.kept) (Fr ((cW5 h s k).rep.filled) (Fr ((cW5 h s k).rep.freed) (Fr ((cW5 h s k).rep.cleared) (Fr ((cW5 h s k).rep.steps) (Fr (0:Int) Fz))))))))))))))))))
end
end Go.Proofs.YtjflpmnenhdeeaaGreat
