/-
 The statement AuditChecks: part 12.
 Conditions: none.
-/
import Derived.Test.YtolnblaadleknaaGreatU11
set_option maxRecDepth 100000
set_option maxHeartbeats 2000000
set_option linter.all false
namespace Go.Proofs.YtolnblaadleknaaGreat
open Go.Sx
theorem Z5Y(h:Header)(i:Int)(hm:0≤h.map∧h.map≤4294967295):GSpec Tryz.prog 226 [h.av,int i] true (bool (Z0h h i)) []:=by
 rcases bb (!Z0j h||decide (i<0)||decide (h.length≤i))with hc0 | hc0<;>have hc0p:=hc0<;>simp only[bs]at hc0p
 ·exact gF [] Tryz.func226 [false,false,false,false,false,false,true] (Fc 6 (@Z2B h ‹_›) (Ft 17 hc0 (Fa (by grind[Z0h]:false=Z0h h i) Fz)))
 ·obtain⟨⟨hc0paa,hc0pab⟩,hc0pb⟩:=hc0p
  have hf3:=validH_iff.1 hc0paa
  obtain⟨hf3a,⟨hf3ba,⟨hf3bba,⟨hf3bbba,hf3bbbb⟩⟩⟩⟩:=hf3
  exact gF [] Tryz.func226 [false,false,false,false,false,false,false,false,false,false,false,false,false,false,false,false,false,true] (Fc 6 (@Z2B h ‹_›) (Ff 17 hc0 (Fa (by intro hg;(try simp only[bs]at hg);omega:(!h.kind==2&&h.kind==1)=true→0≤i) (Fa (by exact Zkh h i hm ‹_› (by omega) (by omega):(h.kind==2||h.kind==1&&bits BinOp.and IntKind.u32 (h.map.fdiv (2^min i.toNat 32)) (1:Int)==1)=Z0h h i) Fz))))
def hptL(h:Header)(i:Nat):Tg:=⟨tm 19 [(1,.pt 8001 0 0),(2,.d (.sl 0 [])),(3,.ow 16003),(6,int (sizeH h)),(7,int i)],[(16003,.arr 3 1 ((Z0V h i).map idv)),(8001,.box 143 [int h.kind,int h.length,u32 h.map])],60⟩
theorem Zk5(h:Header)(i:Nat)(hm:0≤h.map∧h.map≤4294967295)(hi:(i:Int)<sizeH h):CSpec Tryz.prog (rndF Tryz.f182 0) (hptL h i).st .nrm (hptL h (i+1)).st:=by
 have hn:=Z3A h i
 have hs:=Z12 h
 by_cases hp:Z0h h (i:Int)=true
 ·have e:Z0V h (i+1)=Z0V h i++[(i:Int)]:=by rw[Z0V,if_pos hp]
  exact sF [(504016,16003)] [false,false,false,false,false,true] (Fh 12 [.call true (Sx.bool (Z0h h (↑i:Int))) [],.br true] (Fh 16 [.els (List.map idv (Z0V h i++[(↑i:Int)]))] (Ftb 8 (decide ((↑i:Int)<sizeH h)) (Fa (@Z5Y h ((↑i:Int)) ‹_›) (Fa ‹Z0h h (↑i:Int)=true› (Fs 15 (List.map idv [(↑i:Int)]) (Fa (by(simp[*];omega):(List.map idv (Z0V h i)).length+(List.map idv [(↑i:Int)]).length≤2^30) (Fa (by simp[List.map_take,List.map_drop,List.map_set,List.map_append,wdv,idv]:List.map idv (Z0V h i)++List.map idv [(↑i:Int)]=List.map idv (Z0V h i++[(↑i:Int)])) (Fx 17 i (Fr (3:Int) (Fa (by refine congrArg _ ?_;rw[e]:List.map idv (Z0V h i++[(↑i:Int)])=List.map idv (Z0V h (i+1))) Fz)))))))))))
 ·have e:Z0V h (i+1)=Z0V h i:=by rw[Z0V,if_neg hp]
  have hp':Z0h h (i:Int)=false:=by simpa using hp
  exact sF [] [false,false,false,false,false,true] (Fh 12 [.call true (Sx.bool (Z0h h (↑i:Int))) [],.br false] (Ftb 8 (decide ((↑i:Int)<sizeH h)) (Fa (@Z5Y h ((↑i:Int)) ‹_›) (Fa ‹Z0h h (↑i:Int)=false› (Fx 17 i (Fr (3:Int) (Fa (by refine congrArg _ ?_;rw[e]:List.map idv (Z0V h i)=List.map idv (Z0V h (i+1))) Fz)))))))
theorem ZmL(h:Header)(i:Nat)(hi:(i:Int)=sizeH h):CSpec Tryz.prog (rndF Tryz.f182 0) (hptL h i).st (.ext 0) (Tg.st ⟨tm 19 [(2,.d (.sl 0 [])),(3,.ow 16003)],[(16003,.arr 3 1 ((Z0V h i).map idv))],60⟩):=by
 exact sF [] [] (Ffb 8 (decide ((↑i:Int)<sizeH h)) Fz)
theorem Z6N(h:Header):Z0V h (sizeH h).toNat=Z08 h:=by
 unfold Z08 sizeH
 by_cases hv:Z0j h=true
 ·rw[if_pos hv,if_pos hv]
  have hb:=validH_iff.1 hv
  rw[show(h.length+1).toNat=h.length.toNat+1 from by omega,Z0V,if_neg]
  unfold Z0h
  simp
  omega
 ·rw[if_neg hv,if_neg hv];rfl
theorem Zli(h:Header)(hm:0≤h.map∧h.map≤4294967295):CSpec Tryz.prog (blkF Tryz.f182 0) (Tg.st ⟨tm 19 [(1,.pt 8001 0 0),(2,.d (.sl 0 [])),(3,.ow 16003),(6,int (sizeH h)),(7,int 0)],[(16003,.arr 3 1 []),(8001,.box 143 [int h.kind,int h.length,u32 h.map])],60⟩) .nrm (Tg.st ⟨tm 19 [(2,.d (.sl 0 [])),(3,.ow 16003)],[(16003,.arr 3 1 ((Z08 h).map idv))],60⟩):=by
 have hs:=Z12 h
 rw[← Z6N]
 exact Z0b (S:=fun i=>(hptL h i).st) (sizeH h).toNat (by kernel_rfl) (fun i hi=>Zk5 h i hm (by omega)) (ZmL h _ (by omega))
theorem Z5a(h:Header)(hm:0≤h.map∧h.map≤4294967295):GSpec Tryz.prog 182 [h.av] true (.d (.sl 1 ((Z08 h).map idv))) []:=by
 exact gF [] Tryz.func182 [] (Fh 3 [.own] (Fc 6 (@Z13 h ‹_›) (Fu (@Zli h ‹_›) (Fa (by exact ZeF _:Z1f (List.map idv (Z08 h))) Fz))))
def ahdL(h:Heap)(i:Nat):Tg:=⟨tm 19 [(1,int i),(2,.pt 8002 0 0),(4,int 0)],[(8002,.box 28 h.cells)],60⟩
theorem Zit(h:Heap)(i:Nat)(hi:i+1<h.pages.length)(hl:h.pages.length≤1048576)(hk:(h.pages.getD (i+1) default).kind=3):CSpec Tryz.prog (rndF Tryz.f223 0) (ahdL h (i+1)).st .nrm (ahdL h i).st:=by
 have ei:((i+1:Nat):Int)-1=(i:Int):=by omega
 exact sF [] [] (FeG 11 (decide (0<(↑(i+1):Int))) Page.dv h.pages (↑(i+1):Int) (i+1) (Ftb 15 (decide (0<(↑(i+1):Int))&&(h.pages.getD (i+1) default).kind==3) (Fg 17 (by rw[wrapI' (by omega) (by omega)];omega:IntKind.i64.wrap ((↑(i+1):Int)-1)=(↑i:Int)) Fz)))
theorem Zkk(h:Heap)(i:Nat)(hi:i<h.pages.length)(hl:h.pages.length≤1048576)(hk:¬ (h.pages.getD i default).kind=3):CSpec Tryz.prog (rndF Tryz.f223 0) (ahdL h i).st (.ext 0) (Tg.st ⟨tm 19 [(1,int i),(4,int 0)],[],60⟩):=by
 exact sF [] [] (FeG 11 (decide (0<(↑i:Int))) Page.dv h.pages (↑i) i (Ffb 15 (decide (0<(↑i:Int))&&(h.pages.getD i default).kind==3) Fz))
theorem ZmQ(h:Heap)(hp:Z02 h=true)(hl:h.pages.length≤1048576):∀ i,i<h.pages.length→LSpec Tryz.prog Tryz.f223 0 (ahdL h i).st (.ext 0) (Tg.st ⟨tm 19 [(1,int (Z0s h.pages i)),(4,int 0)],[],60⟩)
 | 0,hi=>.endx (Zkk h 0 hi hl (Zml hp))
 | i+1,hi=>by
  unfold Z0s
  by_cases hk:(h.pages.getD (i+1) default).kind=3
  ·rw[if_pos hk]
   exact .next (Zit h i hi hl hk) (ZmQ h hp hl i (by omega))
  ·rw[if_neg hk]
   exact .endx (Zkk h (i+1) hi hl hk)
theorem ZkZ(h:Heap)(i:Nat)(hp:Z02 h=true)(hi:i<h.pages.length)(hl:h.pages.length≤1048576):CSpec Tryz.prog (blkF Tryz.f223 0) (ahdL h i).st .nrm (Tg.st ⟨tm 19 [(1,int (Z0s h.pages i)),(4,int 0)],[],60⟩) :=
 (ZmQ h hp hl i hi).ext (by kernel_rfl)
theorem ZgS(h:Heap)(i:Nat)(hp:Z02 h=true)(hi:i<h.pages.length):GSpec Tryz.prog 223 [h.av,int i] true (int (Z0s h.pages i)) []:=by
 have po:=Z0a hp
 exact gF [] Tryz.func223 [] (Fu (@ZkZ h i ‹_› ‹_› (by omega)) Fz)
def aclL(h:Heap)(i:Int)(l:List Int)(n:Nat):Tg:=⟨tm 58 [(1,int i),(3,.pt 8003 0 0),(6,u64 0),(7,bool false),(13,Z01 l),(14,int l.length),(15,int n)],[(8003,.box 28 h.cells)],60⟩
section
variable (h:Heap) (i:Int) (l:List Int) (n:Nat) (hw:WOk h.words) (hl:l.length≤1048576) (hi:0≤i∧i<h.pages.length) (hp:h.pages.length≤1048576) (hr:∀ x∈l,0≤x∧x≤8192)
include hw hl hi hp hr
theorem ZdO(hn:n<l.length)(hb:Z1v h i (l.getD n default)=false):CSpec Tryz.prog (rndF Tryz.f179 0) (aclL h i l n).st .nrm (aclL h i l (n+1)).st:=by
 have hx:=hr (l.getD n default) (getD_mem_iff.2 ⟨n,hn,rfl⟩)
 have hm:=Z2S hw (l.getD n default)
 simp only[Z1v,bs]at hb
 exact sF [] [] (Ftb 16 (decide ((↑n:Int)<(↑l.length:Int))) (Fek 17 wdv l (↑n) n (Fc 22 (@Z3k h (l.getD n default) ‹_› (by omega)) (Fc 26 (@Z13 ((atH h (l.getD n default)).fst) ‹_›) (Fc 29 (@Z2M h.conf) (Fe 34 Page.dv h.pages i (FeG 46 (!((h.pages.getD i.toNat default).kind==1&&!decide (sizeH (atH h (l.getD n default)).fst≤Z00 h.conf))) Page.dv h.pages i i.toNat (Ffb 55 ((h.pages.getD i.toNat default).kind==1&&!decide (sizeH (atH h (l.getD n default)).fst≤Z00 h.conf)||(h.pages.getD i.toNat default).kind==2&&(atH h (l.getD n default)).fst.kind==0) (Fx 57 n Fz)))))))))
theorem Zih(hn:n<l.length)(hb:Z1v h i (l.getD n default)=true):CSpec Tryz.prog (rndF Tryz.f179 0) (aclL h i l n).st .ret (Tg.st ⟨tm 58 [(6,u64 (l.getD n default)),(7,bool true)],[],60⟩):=by
 have hx:=hr (l.getD n default) (getD_mem_iff.2 ⟨n,hn,rfl⟩)
 have hm:=Z2S hw (l.getD n default)
 simp only[Z1v,bs]at hb
 exact sF [] [] (Ftb 16 (decide ((↑n:Int)<(↑l.length:Int))) (Fek 17 wdv l (↑n) n (Fc 22 (@Z3k h (l.getD n default) ‹_› (by omega)) (Fc 26 (@Z13 ((atH h (l.getD n default)).fst) ‹_›) (Fc 29 (@Z2M h.conf) (Fe 34 Page.dv h.pages i (FeG 46 (!((h.pages.getD i.toNat default).kind==1&&!decide (sizeH (atH h (l.getD n default)).fst≤Z00 h.conf))) Page.dv h.pages i i.toNat (Ftb 55 ((h.pages.getD i.toNat default).kind==1&&!decide (sizeH (atH h (l.getD n default)).fst≤Z00 h.conf)||(h.pages.getD i.toNat default).kind==2&&(atH h (l.getD n default)).fst.kind==0) Fz))))))))
omit hw hl hi hp hr in
theorem Zn4:CSpec Tryz.prog (rndF Tryz.f179 0) (aclL h i l l.length).st (.ext 0) (Tg.st ⟨tm 58 [(6,u64 0),(7,bool false)],[],60⟩):=by
 exact sF [] [] (Ffb 16 (decide ((↑l.length:Int)<(↑l.length:Int))) Fz)
end
theorem ZlH(h:Heap)(i:Int)(l:List Int)(hw:WOk h.words)(hl:l.length≤1048576)(hi:0≤i∧i<h.pages.length)(hp:h.pages.length≤1048576)(hr:∀ x∈l,0≤x∧x≤8192)(hf:l.find? (Z1v h i)=none) :
  CSpec Tryz.prog (blkF Tryz.f179 0) (Tg.st ⟨tm 58 [(1,int i),(3,.pt 8003 0 0),(6,u64 0),(7,bool false),(13,Z01 l),(14,int l.length),(15,int 0)],[(8003,.box 28 h.cells)],60⟩) .nrm (Tg.st ⟨tm 58 [(6,u64 0),(7,bool false)],[],60⟩) :=
 Z0b (S:=fun n=>(aclL h i l n).st) l.length (by kernel_rfl) (fun n hn=>ZdO h i l n hw hl hi hp hr hn (Z5v hf n hn)) (Zn4 h i l)
theorem ZiQ(h:Heap)(i:Int)(l:List Int)(x:Int)(hw:WOk h.words)(hl:l.length≤1048576)(hi:0≤i∧i<h.pages.length)(hp:h.pages.length≤1048576)(hr:∀ x∈l,0≤x∧x≤8192)(hf:l.find? (Z1v h i)=some x) :
  CSpec Tryz.prog (blkF Tryz.f179 0) (Tg.st ⟨tm 58 [(1,int i),(3,.pt 8003 0 0),(6,u64 0),(7,bool false),(13,Z01 l),(14,int l.length),(15,int 0)],[(8003,.box 28 h.cells)],60⟩) .ret (Tg.st ⟨tm 58 [(6,u64 x),(7,bool true)],[],60⟩):=by
 obtain⟨n,h1,h2,h3,h4⟩:=Z36 hf
 subst h2
 exact Z0C (S:=fun n=>(aclL h i l n).st) n (by kernel_rfl) (fun m hm=>ZdO h i l m hw hl hi hp hr (by omega) (h4 m hm)) (Zih h i l n hw hl hi hp hr h1 h3)
def Z1H(h:Heap)(i:Int)(l:List Int):Bool:=(l.find? (Z1v h i)).isSome
theorem Z32(h:Heap)(i:Int)(l:List Int)(hw:WOk h.words)(hl:l.length≤1048576)(hp:h.pages.length≤1048576)(hi:0≤i∧i<h.pages.length)(hr:∀ x∈l,0≤x∧x≤8192):GSpec Tryz.prog 179 [h.av,int i,Z01 l] true (.tu [u64 (Z0X h i l),bool (Z1H h i l)]) []:=by
 cases hf:l.find? (Z1v h i)with
 | none =>
  have e7:Z0X h i l=0:=by rw[Z0X,hf];rfl
  have e8:Z1H h i l=false:=by rw[Z1H,hf];rfl
  rw[e7,e8]
  exact gF [] Tryz.func179 [] (Fl 14 wdv l (Fu (@ZlH h i l ‹_› ‹_› ‹_› ‹_› ‹_› ‹_›) Fz))
 | some x =>
  have e7:Z0X h i l=x:=by rw[Z0X,hf];rfl
  have e8:Z1H h i l=true:=by rw[Z1H,hf];rfl
  rw[e7,e8]
  exact gF [] Tryz.func179 [] (Fl 14 wdv l (Fu (@ZiQ h i l x ‹_› ‹_› ‹_› ‹_› ‹_› ‹_›) Fz))
theorem Zfc(ws:List Int)(a n:Int)(hw:ws.length≤1048576)(h0:4096≤a∧1≤n∧n≤1000∧a-4096+n≤ws.length):GSpec Tryz.prog 187 [Z01 ws,u64 a,int n] true (.tu [.ow 0,int 0]) [.arr 56 1 (((ws.drop (a-4096).toNat).take n.toNat).map wdv)]:=by
 have ei1:(Z09 ws a n).1=a-4096:=by rw[Z09,if_pos (by omega)]
 have e2:(Z09 ws a n).2=true:=by rw[Z09,if_pos (by omega)];simp;omega
 have hne:(ws.drop (a-4096).toNat).take n.toNat≠[]:=Zg7 (by rw[List.length_take,List.length_drop];omega)
 exact gF [41027] Tryz.func187 [false,true] (Fh 26 [.els (List.map wdv (List.take (((Z09 ws a n).fst+n).toNat-(Z09 ws a n).fst.toNat) (List.drop (Z09 ws a n).fst.toNat ws)))] (Ffb 11 (decide (n<0)) (Fc 16 (@Z6k ws a n ‹_› (by omega)) (Ffb 20 (!(Z09 ws a n).snd) (Fi 25 ((Z09 ws a n).fst+n) (Fa (by(simp only[List.length_map];omega):0≤(Z09 ws a n).fst∧(Z09 ws a n).fst≤(Z09 ws a n).fst+n∧(Z09 ws a n).fst+n≤(↑(List.map wdv ws).length:Int)) (Fa (by simp[e2,List.map_take,List.map_drop,List.map_set,List.map_append,wdv,idv]:List.take (((Z09 ws a n).fst+n).toNat-(Z09 ws a n).fst.toNat) (List.drop (Z09 ws a n).fst.toNat (List.map wdv ws))=List.map wdv (List.take (((Z09 ws a n).fst+n).toNat-(Z09 ws a n).fst.toNat) (List.drop (Z09 ws a n).fst.toNat ws))) (Fc 27 (@Zco (List.take (((Z09 ws a n).fst+n).toNat-(Z09 ws a n).fst.toNat) (List.drop (Z09 ws a n).fst.toNat ws)) (by(simp[e2, *];omega)) (by(simp[e2, *];omega))) (Fa (by exact Z3J _:Z1f (List.map wdv (List.take (((Z09 ws a n).fst+n).toNat-(Z09 ws a n).fst.toNat) (List.drop (Z09 ws a n).fst.toNat ws)))) (Fr (56:Int) (Fa (by refine congrArg _ ?_;(simp[e2, *];omega):List.map wdv (List.take (((Z09 ws a n).fst+n).toNat-(Z09 ws a n).fst.toNat) (List.drop (Z09 ws a n).fst.toNat ws))=List.map wdv (List.take n.toNat (List.drop (a-4096).toNat ws))) Fz)))))))))))
def fstW(l:List Int):Nat:=(l.takeWhile fun x=>x==0).length
theorem Zad{l:List Int}{m:Nat}(h:m<fstW l):m<l.length∧l.getD m default=0:=by
 obtain⟨h1,h2⟩:=ZhO _ _ _ h
 refine⟨h1, ?_⟩
 rw[List.getD_eq_getElem?_getD,List.getElem?_eq_getElem h1]
 simpa using h2
theorem ZeD{l:List Int}(h:fstW l<l.length):¬ l.getD (fstW l) default=0:=by
 have h2:=Zbs (fun x:Int=>x==0) l h
 have h3:l.getD (fstW l) default=l[(l.takeWhile fun x=>x==0).length]:=by
  rw[List.getD_eq_getElem?_getD,List.getElem?_eq_getElem h];rfl
 rw[h3]
 simpa using h2
def idxW(l:List Int):Int:=if fstW l<l.length then fstW l else -1
theorem Zhn(x:Int):GSpec Tryz.prog 224 [u64 x] true (bool (x != 0)) []:=by
 exact gF [] Tryz.func224 [] Fz
def ZeO(l:List Int)(i:Nat):Tg:=⟨tm 19 [(0,Z01 l),(1,.fn 224 []),(4,int 0),(7,int l.length),(8,int i)],[],60⟩
theorem ZbY(l:List Int)(i:Nat)(hl:l.length≤1048576)(hi:i<l.length)(e:l.getD i default=0):CSpec Tryz.prog (rndF Tryz.f192 0) (ZeO l i).st .nrm (ZeO l (i+1)).st:=by
 exact sF [] [] (Fh 16 [.call true (Sx.bool (l.getD i default != 0)) [],.br false] (Ftb 9 (decide ((↑i:Int)<(↑l.length:Int))) (Fek 14 wdv l (↑i) i (Fa (@Zhn (l.getD i default)) (Fb ((l.getD i default != 0)=false) (Fx 18 i Fz))))))
theorem ZhP(l:List Int)(i:Nat)(hl:l.length≤1048576)(hi:i<l.length)(e:¬ l.getD i default=0):CSpec Tryz.prog (rndF Tryz.f192 0) (ZeO l i).st .ret (Tg.st ⟨tm 19 [(4,int i)],[],60⟩):=by
 exact sF [] [] (Fh 16 [.call true (Sx.bool (l.getD i default != 0)) [],.br true] (Ftb 9 (decide ((↑i:Int)<(↑l.length:Int))) (Fek 14 wdv l (↑i) i (Fa (@Zhn (l.getD i default)) (Fb ((l.getD i default != 0)=true) Fz)))))
theorem Zlo(l:List Int):CSpec Tryz.prog (rndF Tryz.f192 0) (ZeO l l.length).st (.ext 0) (Tg.st ⟨tm 19 [(4,int 0)],[],60⟩):=by
 exact sF [] [] (Ffb 9 (decide ((↑l.length:Int)<(↑l.length:Int))) Fz)
theorem Zjp(l:List Int)(hl:l.length≤1048576)(h:¬ fstW l<l.length):CSpec Tryz.prog (blkF Tryz.f192 0) (Tg.st ⟨tm 19 [(0,Z01 l),(1,.fn 224 []),(4,int 0),(7,int l.length),(8,int 0)],[],60⟩) .nrm (Tg.st ⟨tm 19 [(4,int 0)],[],60⟩) :=
 Z0b (S:=fun j=>(ZeO l j).st) l.length (by kernel_rfl) (fun j hj=>ZbY l j hl hj (Zad (by omega)).2) (Zlo l)
theorem ZhI(l:List Int)(hl:l.length≤1048576)(h:fstW l<l.length):CSpec Tryz.prog (blkF Tryz.f192 0) (Tg.st ⟨tm 19 [(0,Z01 l),(1,.fn 224 []),(4,int 0),(7,int l.length),(8,int 0)],[],60⟩) .ret (Tg.st ⟨tm 19 [(4,int (fstW l))],[],60⟩) :=
 Z0C (S:=fun j=>(ZeO l j).st) (fstW l) (by kernel_rfl) (fun j hj=>ZbY l j hl (by omega) (Zad hj).2) (ZhP l (fstW l) hl h (ZeD h))
theorem Zm1(l:List Int)(hl:l.length≤1048576):GSpec Tryz.prog 192 [Z01 l,.fn 224 []] true (int (idxW l)) []:=by
 by_cases h:fstW l<l.length
 ·have e7:idxW l=fstW l:=if_pos h
  rw[e7]
  exact gF [] Tryz.func192 [] (Fl 7 wdv l (Fu (@ZhI l ‹_› ‹_›) Fz))
 ·have e7:idxW l=-1:=if_neg h
  rw[e7]
  exact gF [] Tryz.func192 [] (Fl 7 wdv l (Fu (@Zjp l ‹_› ‹_›) Fz))
def loC(c:List Int)(x:Int):Nat:=(min (max x 0) (c.length:Int)).toNat
def clrW(c:List Int)(x k:Int):List Int:=c.take (loC c x)++List.replicate (loC c (x+k)-loC c x) 0++c.drop (loC c x+(loC c (x+k)-loC c x))
def cwN(h:Heap)(F:Int)(l c:List Int):Nat→List Int
 | 0=>c
 | n+1=>clrW (cwN h F l c n) (l.getD n default-F) (Z4a h (l.getD n default))
theorem ZeB(c:List Int)(x:Int):loC c x≤c.length:=by unfold loC;omega
theorem Zez(c:List Int)(x:Int){k:Int}(hk:0≤k):loC c x≤loC c (x+k):=by unfold loC;omega
theorem Z82(h:Heap)(a:Int):0≤Z4a h a∧Z4a h a≤256:=by
 have:=Z12 (atH h a).1
 unfold Z4a
 split<;>omega
theorem Zjh(c:List Int)(x:Int){k:Int}(hk:0≤k):(clrW c x k).length=c.length:=by
 have h1:=ZeB c x
 have h2:=ZeB c (x+k)
 have h3:=Zez c x hk
 simp[clrW];omega
theorem Z7e(h:Heap)(F:Int)(l c:List Int):∀ n,(cwN h F l c n).length=c.length
 | 0=>rfl
 | n+1=>by rw[cwN,Zjh _ _ (Z82 h _).1,Z7e h F l c n]
def adL(h:Heap)(F:Int)(l c:List Int)(n:Nat):Tg:=⟨tm 90 [(2,.pt 8002 0 0),(4,u64 0),(5,bool false),(6,u64 F),(8,.ow 25033),(44,Z01 l),(45,int l.length),(46,int n)],[(25033,.arr 56 1 ((cwN h F l c n).map wdv)),(8002,.box 28 h.cells)],60⟩
theorem Zlu(h:Heap)(F:Int)(l c:List Int)(n:Nat)(hw:WOk h.words)(hF:0≤F∧F≤8192)(hl:l.length≤1048576)(hc:c.length≤64)(hr:∀ x∈l,0≤x∧x≤8192)(hn:n<l.length):CSpec Tryz.prog (rndF Tryz.f180 0) (adL h F l c n).st .nrm (adL h F l c (n+1)).st:=by
 have hx:=hr (l.getD n default) (getD_mem_iff.2 ⟨n,hn,rfl⟩)
 have hm:=Z2S hw (l.getD n default)
 have hlen:=Z7e h F l c n
 have hs:=Z12 (atH h (l.getD n default)).1
 by_cases hk:(atH h (l.getD n default)).1.kind=0
 ·have ek:Z4a h (l.getD n default)=1:=if_pos hk
  have e7:cwN h F l c (n+1)=clrW (cwN h F l c n) (l.getD n default-F) 1:=by rw[cwN,ek]
  exact sF [] [false,false,false,false,false,false,false,false,true] (Fh 20000 [.els (List.map wdv (List.take (min (max (l.getD n default-F) 0) (↑(cwN h F l c n).length:Int)).toNat (cwN h F l c n)++List.replicate ((min (max (l.getD n default-F+1) 0) (↑(cwN h F l c n).length:Int)).toNat-(min (max (l.getD n default-F) 0) (↑(cwN h F l c n).length:Int)).toNat) 0++List.drop ((min (max (l.getD n default-F) 0) (↑(cwN h F l c n).length:Int)).toNat+(List.replicate ((min (max (l.getD n default-F+1) 0) (↑(cwN h F l c n).length:Int)).toNat-(min (max (l.getD n default-F) 0) (↑(cwN h F l c n).length:Int)).toNat) 0).length) (cwN h F l c n)))] (Ftb 47 (decide ((↑n:Int)<(↑l.length:Int))) (Fek 48 wdv l (↑n) n (Fc 53 (@Z3k h (l.getD n default) ‹_› (by omega)) (Ffb 58 ((atH h (l.getD n default)).fst.kind != 0) (Fi 62 (l.getD n default) (Fi 64 F (Fi 65 (l.getD n default-F) (Fgo 68 (if 0 > l.getD n default-F then 0 else l.getD n default-F) (max (l.getD n default-F) 0) (Fl 70 wdv (cwN h F l c n) (Fgo 71 (if(↑(cwN h F l c n).length:Int)<max (l.getD n default-F) 0 then(↑(cwN h F l c n).length:Int)else max (l.getD n default-F) 0) (min (max (l.getD n default-F) 0) (↑(cwN h F l c n).length:Int)) (Fi 74 (l.getD n default-F+1) (Fgo 75 (if 0 > l.getD n default-F+1 then 0 else l.getD n default-F+1) (max (l.getD n default-F+1) 0) (Fl 77 wdv (cwN h F l c n) (Fgo 78 (if(↑(cwN h F l c n).length:Int)<max (l.getD n default-F+1) 0 then(↑(cwN h F l c n).length:Int)else max (l.getD n default-F+1) 0) (min (max (l.getD n default-F+1) 0) (↑(cwN h F l c n).length:Int)) (Fa (by(simp only[List.length_map];omega):0≤min (max (l.getD n default-F) 0) (↑(cwN h F l c n).length:Int)∧min (max (l.getD n default-F) 0) (↑(cwN h F l c n).length:Int)≤min (max (l.getD n default-F+1) 0) (↑(cwN h F l c n).length:Int)∧min (max (l.getD n default-F+1) 0) (↑(cwN h F l c n).length:Int)≤(↑(List.map wdv (cwN h F l c n)).length:Int)) (Fa (by simp only[Z0F,List.map_append,List.map_take,List.map_drop,List.map_replicate,List.length_replicate];rfl:Z0F (List.map wdv (cwN h F l c n)) (min (max (l.getD n default-F) 0) (↑(cwN h F l c n).length:Int)).toNat (List.replicate ((min (max (l.getD n default-F+1) 0) (↑(cwN h F l c n).length:Int)).toNat-(min (max (l.getD n default-F) 0) (↑(cwN h F l c n).length:Int)).toNat) [du64 0])=List.map wdv (List.take (min (max (l.getD n default-F) 0) (↑(cwN h F l c n).length:Int)).toNat (cwN h F l c n)++List.replicate ((min (max (l.getD n default-F+1) 0) (↑(cwN h F l c n).length:Int)).toNat-(min (max (l.getD n default-F) 0) (↑(cwN h F l c n).length:Int)).toNat) 0++List.drop ((min (max (l.getD n default-F) 0) (↑(cwN h F l c n).length:Int)).toNat+(List.replicate ((min (max (l.getD n default-F+1) 0) (↑(cwN h F l c n).length:Int)).toNat-(min (max (l.getD n default-F) 0) (↑(cwN h F l c n).length:Int)).toNat) 0).length) (cwN h F l c n))) (Fx 80 n (Fr (56:Int) (Fa (by refine congrArg _ ?_;rw[e7];simp only[clrW,loC,List.length_replicate]:List.map wdv (List.take (min (max (l.getD n default-F) 0) (↑(cwN h F l c n).length:Int)).toNat (cwN h F l c n)++List.replicate ((min (max (l.getD n default-F+1) 0) (↑(cwN h F l c n).length:Int)).toNat-(min (max (l.getD n default-F) 0) (↑(cwN h F l c n).length:Int)).toNat) 0++List.drop ((min (max (l.getD n default-F) 0) (↑(cwN h F l c n).length:Int)).toNat+(List.replicate ((min (max (l.getD n default-F+1) 0) (↑(cwN h F l c n).length:Int)).toNat-(min (max (l.getD n default-F) 0) (↑(cwN h F l c n).length:Int)).toNat) 0).length) (cwN h F l c n))=List.map wdv (cwN h F l c (n+1))) Fz))))))))))))))))))))
 ·have ek:Z4a h (l.getD n default)=sizeH (atH h (l.getD n default)).1:=if_neg hk
  have e7:cwN h F l c (n+1)=clrW (cwN h F l c n) (l.getD n default-F) (sizeH (atH h (l.getD n default)).1):=by rw[cwN,ek]
  exact sF [] [false,false,false,false,false,false,false,false,true] (Fh 20000 [.els (List.map wdv (List.take (min (max (l.getD n default-F) 0) (↑(cwN h F l c n).length:Int)).toNat (cwN h F l c n)++List.replicate ((min (max (l.getD n default-F+sizeH (atH h (l.getD n default)).fst) 0) (↑(cwN h F l c n).length:Int)).toNat-(min (max (l.getD n default-F) 0) (↑(cwN h F l c n).length:Int)).toNat) 0++List.drop ((min (max (l.getD n default-F) 0) (↑(cwN h F l c n).length:Int)).toNat+(List.replicate ((min (max (l.getD n default-F+sizeH (atH h (l.getD n default)).fst) 0) (↑(cwN h F l c n).length:Int)).toNat-(min (max (l.getD n default-F) 0) (↑(cwN h F l c n).length:Int)).toNat) 0).length) (cwN h F l c n)))] (Ftb 47 (decide ((↑n:Int)<(↑l.length:Int))) (Fek 48 wdv l (↑n) n (Fc 53 (@Z3k h (l.getD n default) ‹_› (by omega)) (Ftb 58 ((atH h (l.getD n default)).fst.kind != 0) (Fc 60 (@Z13 ((atH h (l.getD n default)).fst) ‹_›) (Fi 62 (l.getD n default) (Fi 64 F (Fi 65 (l.getD n default-F) (Fgo 68 (if 0 > l.getD n default-F then 0 else l.getD n default-F) (max (l.getD n default-F) 0) (Fl 70 wdv (cwN h F l c n) (Fgo 71 (if(↑(cwN h F l c n).length:Int)<max (l.getD n default-F) 0 then(↑(cwN h F l c n).length:Int)else max (l.getD n default-F) 0) (min (max (l.getD n default-F) 0) (↑(cwN h F l c n).length:Int)) (Fi 74 (l.getD n default-F+sizeH (atH h (l.getD n default)).fst) (Fgo 75 (if 0 > l.getD n default-F+sizeH (atH h (l.getD n default)).fst then 0 else l.getD n default-F+sizeH (atH h (l.getD n default)).fst) (max (l.getD n default-F+sizeH (atH h (l.getD n default)).fst) 0) (Fl 77 wdv (cwN h F l c n) (Fgo 78 (if(↑(cwN h F l c n).length:Int)<max (l.getD n default-F+sizeH (atH h (l.getD n default)).fst) 0 then(↑(cwN h F l c n).length:Int)else max (l.getD n default-F+sizeH (atH h (l.getD n default)).fst) 0) (min (max (l.getD n default-F+sizeH (atH h (l.getD n default)).fst) 0) (↑(cwN h F l c n).length:Int)) (Fa (by(simp only[List.length_map];omega):0≤min (max (l.getD n default-F) 0) (↑(cwN h F l c n).length:Int)∧min (max (l.getD n default-F) 0) (↑(cwN h F l c n).length:Int)≤min (max (l.getD n default-F+sizeH (atH h (l.getD n default)).fst) 0) (↑(cwN h F l c n).length:Int)∧min (max (l.getD n default-F+sizeH (atH h (l.getD n default)).fst) 0) (↑(cwN h F l c n).length:Int)≤(↑(List.map wdv (cwN h F l c n)).length:Int)) (Fa (by simp only[Z0F,List.map_append,List.map_take,List.map_drop,List.map_replicate,List.length_replicate];rfl:Z0F (List.map wdv (cwN h F l c n)) (min (max (l.getD n default-F) 0) (↑(cwN h F l c n).length:Int)).toNat (List.replicate ((min (max (l.getD n default-F+sizeH (atH h (l.getD n default)).fst) 0) (↑(cwN h F l c n).length:Int)).toNat-(min (max (l.getD n default-F) 0) (↑(cwN h F l c n).length:Int)).toNat) [du64 0])=List.map wdv (List.take (min (max (l.getD n default-F) 0) (↑(cwN h F l c n).length:Int)).toNat (cwN h F l c n)++List.replicate ((min (max (l.getD n default-F+sizeH (atH h (l.getD n default)).fst) 0) (↑(cwN h F l c n).length:Int)).toNat-(min (max (l.getD n default-F) 0) (↑(cwN h F l c n).length:Int)).toNat) 0++List.drop ((min (max (l.getD n default-F) 0) (↑(cwN h F l c n).length:Int)).toNat+(List.replicate ((min (max (l.getD n default-F+sizeH (atH h (l.getD n default)).fst) 0) (↑(cwN h F l c n).length:Int)).toNat-(min (max (l.getD n default-F) 0) (↑(cwN h F l c n).length:Int)).toNat) 0).length) (cwN h F l c n))) (Fx 80 n (Fr (56:Int) (Fa (by refine congrArg _ ?_;rw[e7];simp only[clrW,loC,List.length_replicate]:List.map wdv (List.take (min (max (l.getD n default-F) 0) (↑(cwN h F l c n).length:Int)).toNat (cwN h F l c n)++List.replicate ((min (max (l.getD n default-F+sizeH (atH h (l.getD n default)).fst) 0) (↑(cwN h F l c n).length:Int)).toNat-(min (max (l.getD n default-F) 0) (↑(cwN h F l c n).length:Int)).toNat) 0++List.drop ((min (max (l.getD n default-F) 0) (↑(cwN h F l c n).length:Int)).toNat+(List.replicate ((min (max (l.getD n default-F+sizeH (atH h (l.getD n default)).fst) 0) (↑(cwN h F l c n).length:Int)).toNat-(min (max (l.getD n default-F) 0) (↑(cwN h F l c n).length:Int)).toNat) 0).length) (cwN h F l c n))=List.map wdv (cwN h F l c (n+1))) Fz)))))))))))))))))))))
theorem Znb(h:Heap)(F:Int)(l c:List Int):CSpec Tryz.prog (rndF Tryz.f180 0) (adL h F l c l.length).st (.ext 0) (Tg.st ⟨tm 90 [(4,u64 0),(5,bool false),(6,u64 F),(8,.ow 25033)],[(25033,.arr 56 1 ((cwN h F l c l.length).map wdv))],60⟩):=by
 exact sF [] [] (Ffb 47 (decide ((↑l.length:Int)<(↑l.length:Int))) Fz)
theorem Zm4(h:Heap)(F:Int)(l c:List Int)(hw:WOk h.words)(hF:0≤F∧F≤8192)(hl:l.length≤1048576)(hc:c.length≤64)(hr:∀ x∈l,0≤x∧x≤8192):CSpec Tryz.prog (blkF Tryz.f180 0) (Tg.st ⟨tm 90 [(2,.pt 8002 0 0),(4,u64 0),(5,bool false),(6,u64 F),(8,.ow 25033),(44,Z01 l),(45,int l.length),(46,int 0)],[(25033,.arr 56 1 (c.map wdv)),(8002,.box 28 h.cells)],60⟩) .nrm
  (Tg.st ⟨tm 90 [(4,u64 0),(5,bool false),(6,u64 F),(8,.ow 25033)],[(25033,.arr 56 1 ((cwN h F l c l.length).map wdv))],60⟩) :=
 Z0b (S:=fun n=>(adL h F l c n).st) l.length (by kernel_rfl) (fun n hn=>Zlu h F l c n hw hF hl hc hr hn) (Znb h F l c)
def rawP(h:Heap)(i:Nat):List Int:=(h.words.drop ((address h.conf i 0).1-4096).toNat).take h.conf.pw.toNat
def clrP(h:Heap)(i:Nat):List Int:=cwN h (address h.conf i 0).1 (Z07 h (Z0s h.pages i:Nat)).1 (rawP h i) (Z07 h (Z0s h.pages i:Nat)).1.length
theorem Z6d(h:Heap)(i:Nat)(hw:WOk h.words)(hp:Z02 h=true)(hi:i<h.pages.length):GSpec Tryz.prog 180 [h.av,int i] true (.tu [u64 ((address h.conf i 0).1+max (idxW (clrP h i)) 0),bool (decide (0≤idxW (clrP h i)))]) []:=by
 have po:=Z0a hp
 have ea:(address h.conf i 0).1=4096+i*h.conf.pw:=by
  unfold address
  rw[if_pos po.1,if_pos (inB_iff.2 (by omega))]
  simp only;omega
 have ap:=Z2h po.1 (i:=i) (by omega) (by omega)
 have hh:=Zax h.pages i
 have hx:(i:Int)*h.conf.pw+h.conf.pw≤h.words.length:=by
  have h1:((i:Int)+1)*h.conf.pw≤h.conf.pg*h.conf.pw:=Int.mul_le_mul_of_nonneg_right (by omega) (by omega)
  have h2:((i:Int)+1)*h.conf.pw=i*h.conf.pw+h.conf.pw:=by rw[Int.add_mul,Int.one_mul]
  have h3:h.conf.pg*h.conf.pw=h.conf.pw*h.conf.pg:=Int.mul_comm _ _
  omega
 have hr:=Z2i hp (Z0s h.pages i:Nat)
 have hn:=Z2p h (Z0s h.pages i:Nat)
 have hlen:(clrP h i).length≤64:=by
  rw[clrP,Z7e,rawP,List.length_take];omega
 have hix:idxW (clrP h i)≤64∧-1≤idxW (clrP h i):=by
  have:fstW (clrP h i)≤(clrP h i).length:=(List.takeWhile_sublist _).length_le
  unfold idxW;split<;>omega
 have hrl:(rawP h i).length≤64:=by rw[rawP,List.length_take];omega
 unfold clrP rawP at *
 exact gF [] Tryz.func180 [] (Fc 23 (@Z3X h.conf ((↑i:Int)) (0)) (Fc 33 (@Zfc h.words ((address h.conf (↑i:Int) 0).fst) h.conf.pw (by omega) (by omega)) (Fc 40 (@ZgS h i ‹_› ‹_›) (Fc 41 (@Z2Y h ((↑(Z0s h.pages i):Int)) ‹_› (by omega)) (Fl 45 wdv (Z07 h (↑(Z0s h.pages i):Int)).fst (Fu (@Zm4 h ((address h.conf (↑i:Int) 0).fst) ((Z07 h (↑(Z0s h.pages i):Int)).fst) (List.take h.conf.pw.toNat (List.drop ((address h.conf (↑i:Int) 0).fst-4096).toNat h.words)) ‹_› (by omega) (by omega) ‹_› ‹_›) (Fc 82 (@Zm1 (cwN h (address h.conf (↑i:Int) 0).fst (Z07 h (↑(Z0s h.pages i):Int)).fst (List.take h.conf.pw.toNat (List.drop ((address h.conf (↑i:Int) 0).fst-4096).toNat h.words)) (Z07 h (↑(Z0s h.pages i):Int)).fst.length) (by omega)) (Fgo 85 (if 0 > idxW (cwN h (address h.conf (↑i:Int) 0).fst (Z07 h (↑(Z0s h.pages i):Int)).fst (List.take h.conf.pw.toNat (List.drop ((address h.conf (↑i:Int) 0).fst-4096).toNat h.words)) (Z07 h (↑(Z0s h.pages i):Int)).fst.length)then 0 else idxW (cwN h (address h.conf (↑i:Int) 0).fst (Z07 h (↑(Z0s h.pages i):Int)).fst (List.take h.conf.pw.toNat (List.drop ((address h.conf (↑i:Int) 0).fst-4096).toNat h.words)) (Z07 h (↑(Z0s h.pages i):Int)).fst.length)) (max (idxW (cwN h (address h.conf (↑i:Int) 0).fst (Z07 h (↑(Z0s h.pages i):Int)).fst (List.take h.conf.pw.toNat (List.drop ((address h.conf (↑i:Int) 0).fst-4096).toNat h.words)) (Z07 h (↑(Z0s h.pages i):Int)).fst.length)) 0) (Fv 86 (max (idxW (cwN h (address h.conf (↑i:Int) 0).fst (Z07 h (↑(Z0s h.pages i):Int)).fst (List.take h.conf.pw.toNat (List.drop ((address h.conf (↑i:Int) 0).fst-4096).toNat h.words)) (Z07 h (↑(Z0s h.pages i):Int)).fst.length)) 0) (Fv 87 ((address h.conf (↑i:Int) 0).fst+max (idxW (cwN h (address h.conf (↑i:Int) 0).fst (Z07 h (↑(Z0s h.pages i):Int)).fst (List.take h.conf.pw.toNat (List.drop ((address h.conf (↑i:Int) 0).fst-4096).toNat h.words)) (Z07 h (↑(Z0s h.pages i):Int)).fst.length)) 0) Fz))))))))))
def unS(fn:Func):Func:=match fn.body with
 | some (.seq x (.scope c)) => { fn with body:=some (.seq x c) }
 | _=>fn
def firS(fn:Func):Code:=match fn.body with
 | some (.seq x _)=>x
 | _=>.skip
def bdyS(fn:Func):Code:=match fn.body with
 | some (.seq _ c)=>c
 | _=>.skip
theorem ZhZ{P:Program}{c:Code}{n m:Nat}{s t:St}(hmn:m≠n)(h:CSpec P c s (.ext m) t):CSpec P (.block n c) s (.ext m) t:=by
 intro Ow Im0 w0 a w hS
 refine wp_block (wp_mono (h Ow Im0 w0 a w hS) ?_)
 rintro e a' w' ⟨rfl,hS'⟩
 show(if m=n then _ else _)
 rw[if_neg hmn]
 exact⟨rfl,hS'⟩
theorem ZcZ{P:Program}{fn:Func}{b m:Nat}{S:Nat→St}{t:St}(n:Nat)(hb:Z6c b (blkF fn b)=true)(hm:m≠b)(h:∀ i,i<n→CSpec P (rndF fn b) (S i) .nrm (S (i+1)))(hn:CSpec P (rndF fn b) (S n) (.ext m) t):CSpec P (blkF fn b) (S 0) (.ext m) t:=by
 rw[Z5D hb]
 exact ZhZ hm (Zd1 (Zdf n h (fun h=>nomatch h) hn))
def fdV(h:Heap)(a k:Int):Int:=(loadA h.words (a+1+k)).1
def pbad(h:Heap)(all:List Int)(a k:Int):Bool:=(fdV h a k != 0)&&!decide (fdV h a k∈all)
theorem pbad_yes{h:Heap}{all:List Int}{a k:Int}:pbad h all a k=true↔¬ fdV h a k=0∧¬ fdV h a k∈all:=by simp[pbad]
theorem pbad_no{h:Heap}{all:List Int}{a k:Int}:pbad h all a k=false↔fdV h a k=0∨fdV h a k∈all:=by
 by_cases h1:fdV h a k=0<;>by_cases h2:fdV h a k∈all<;>simp[pbad,h1,h2]
def yJ(a:Int)(P:List Int):Nat→Int
 | 0=>0
 | j+1=>a+1+P.getD j default
def apI(h:Heap)(all:List Int)(i:Nat)(a:Int)(P:List Int)(j:Nat):Tg:=⟨tm 83 [(1,.pt 8001 0 0),(2,.pt 8002 0 0),(3,Z01 all),(5,u64 (yJ a P j)),(7,u64 a),(24,Z01 all),(25,int all.length),(26,int i),(37,Z0E P),(38,int P.length),(39,int j)],[(8002,.box 70 [int 0,int 0,u64 0]),(8001,.box 28 h.cells)],64⟩
section
variable (h:Heap) (all:List Int) (i:Nat) (a:Int) (P:List Int) (j:Nat) (hw:WOk h.words) (hwl:h.words.length≤1048576) (hl:all.length≤1048576) (hs:all.Pairwise (· < ·)) (ha:0≤a∧a≤8192) (hP:P.length≤256) (hk:0≤P.getD j default∧P.getD j default≤256) (hj:j<P.length)
include hw hwl hl hs ha hP hk hj
theorem Zdo(hb:pbad h all a (P.getD j default)=false):CSpec Tryz.prog (rndF (unS Tryz.f109) 2) (apI h all i a P j).st .nrm (apI h all i a P (j+1)).st:=by
 have ey:yJ a P (j+1)=a+1+P.getD j default:=rfl
 have hb':=pbad_no.1 hb
 unfold fdV at hb'
 clear hb
 generalize hy:yJ a P (j+1)=y1 at ey
 unfold apI
 rw[hy]
 rcases hb' with hb | hb
 ·exact sF [] [false,false,false,false,false,true] (Ftb 40 (decide ((↑j:Int)<(↑P.length:Int))) (Fek 41 idv P (↑j) j (Fv 44 (a+1) (Fv 46 (P.getD j default) (Fv 47 (a+1+P.getD j default) (Fc 52 (@Z5K h.words (a+1+P.getD j default) ‹_› (by omega)) (Fc 58 (@bsearch all ((loadA h.words (a+1+P.getD j default)).fst) ‹_› ‹_›) (Ffb 66 ((loadA h.words (a+1+P.getD j default)).fst != 0&&!decide ((loadA h.words (a+1+P.getD j default)).fst∈all)) (Fx 67 j (Fa ‹a+1+P.getD j default=y1› Fz))))))))))
 ·exact sF [] [false,false,false,false,false,true] (Ftb 40 (decide ((↑j:Int)<(↑P.length:Int))) (Fek 41 idv P (↑j) j (Fv 44 (a+1) (Fv 46 (P.getD j default) (Fv 47 (a+1+P.getD j default) (Fc 52 (@Z5K h.words (a+1+P.getD j default) ‹_› (by omega)) (Fc 58 (@bsearch all ((loadA h.words (a+1+P.getD j default)).fst) ‹_› ‹_›) (Ff 66 (by simp only[bs, *,true_or,or_true,true_and,and_true,not_true_eq_false,not_false_eq_true,Bool.true_eq_false,Bool.false_eq_true]:((loadA h.words (a+1+P.getD j default)).fst != 0&&!decide ((loadA h.words (a+1+P.getD j default)).fst∈all))=false) (Fx 67 j (Fa ‹a+1+P.getD j default=y1› Fz))))))))))
theorem ZiX(hb:pbad h all a (P.getD j default)=true):CSpec Tryz.prog (rndF (unS Tryz.f109) 2) (apI h all i a P j).st (.ext 0) (Tg.st ⟨tm 83 [(1,.pt 8001 0 0),(2,.pt 8002 0 0),(5,u64 (a+1+P.getD j default))],[(8002,.box 70 [int 0,int 0,u64 0]),(8001,.box 28 h.cells)],68⟩):=by
 obtain⟨hb1,hb2⟩:=pbad_yes.1 hb
 unfold fdV at hb1 hb2
 clear hb
 exact sF [] [] (Ftb 40 (decide ((↑j:Int)<(↑P.length:Int))) (Fek 41 idv P (↑j) j (Fv 44 (a+1) (Fv 46 (P.getD j default) (Fv 47 (a+1+P.getD j default) (Fc 52 (@Z5K h.words (a+1+P.getD j default) ‹_› (by omega)) (Fc 58 (@bsearch all ((loadA h.words (a+1+P.getD j default)).fst) ‹_› ‹_›) (Ft 66 (by simp only[bs, *,true_or,or_true,true_and,and_true,not_true_eq_false,not_false_eq_true,Bool.true_eq_false,Bool.false_eq_true]:((loadA h.words (a+1+P.getD j default)).fst != 0&&!decide ((loadA h.words (a+1+P.getD j default)).fst∈all))=true) Fz))))))))
end
theorem Zme(h:Heap)(all:List Int)(i:Nat)(a:Int)(P:List Int):CSpec Tryz.prog (rndF (unS Tryz.f109) 2) (apI h all i a P P.length).st (.ext 2) (Tg.st ⟨tm 83 [(1,.pt 8001 0 0),(2,.pt 8002 0 0),(3,Z01 all),(24,Z01 all),(25,int all.length),(26,int i)],[(8002,.box 70 [int 0,int 0,u64 0]),(8001,.box 28 h.cells)],68⟩):=by
 exact sF [] [] (Ffb 40 (decide ((↑P.length:Int)<(↑P.length:Int))) Fz)
theorem ZlV(h:Heap)(all:List Int)(i:Nat)(a:Int)(P:List Int)(hw:WOk h.words)(hwl:h.words.length≤1048576)(hl:all.length≤1048576)(hs:all.Pairwise (· < ·))(ha:0≤a∧a≤8192)(hP:P.length≤256)(hk:∀ k∈P,0≤k∧k≤256)(hf:P.find? (pbad h all a)=none) :
  CSpec Tryz.prog (blkF (unS Tryz.f109) 2) (Tg.st ⟨tm 83 [(1,.pt 8001 0 0),(2,.pt 8002 0 0),(3,Z01 all),(5,u64 0),(7,u64 a),(24,Z01 all),(25,int all.length),(26,int i),(37,Z0E P),(38,int P.length),(39,int 0)],[(8002,.box 70 [int 0,int 0,u64 0]),(8001,.box 28 h.cells)],64⟩) .nrm (Tg.st ⟨tm 83 [(1,.pt 8001 0 0),(2,.pt 8002 0 0),(3,Z01 all),(24,Z01 all),(25,int all.length),(26,int i)],[(8002,.box 70 [int 0,int 0,u64 0]),(8001,.box 28 h.cells)],68⟩) :=
 Z0b (S:=fun j=>(apI h all i a P j).st) P.length (by kernel_rfl) (fun j hj=>Zdo h all i a P j hw hwl hl hs ha hP (hk _ (getD_mem_iff.2 ⟨j,hj,rfl⟩)) hj (Z5v hf j hj)) (Zme h all i a P)
theorem ZiA(h:Heap)(all:List Int)(i:Nat)(a:Int)(P:List Int)(x:Int)(hw:WOk h.words)(hwl:h.words.length≤1048576)(hl:all.length≤1048576)(hs:all.Pairwise (· < ·))(ha:0≤a∧a≤8192)(hP:P.length≤256)(hk:∀ k∈P,0≤k∧k≤256)(hf:P.find? (pbad h all a)=some x) :
  CSpec Tryz.prog (blkF (unS Tryz.f109) 2) (Tg.st ⟨tm 83 [(1,.pt 8001 0 0),(2,.pt 8002 0 0),(3,Z01 all),(5,u64 0),(7,u64 a),(24,Z01 all),(25,int all.length),(26,int i),(37,Z0E P),(38,int P.length),(39,int 0)],[(8002,.box 70 [int 0,int 0,u64 0]),(8001,.box 28 h.cells)],64⟩) (.ext 0) (Tg.st ⟨tm 83 [(1,.pt 8001 0 0),(2,.pt 8002 0 0),(5,u64 (a+1+x))],[(8002,.box 70 [int 0,int 0,u64 0]),(8001,.box 28 h.cells)],68⟩):=by
 obtain⟨n,h1,h2,h3,h4⟩:=Z36 hf
 subst h2
 exact ZcZ (S:=fun j=>(apI h all i a P j).st) n (by kernel_rfl) (by decide) (fun j hj=>Zdo h all i a P j hw hwl hl hs ha hP (hk _ (getD_mem_iff.2 ⟨j,by omega,rfl⟩)) (by omega) (h4 j hj)) (ZiX h all i a P n hw hwl hl hs ha hP (hk _ (getD_mem_iff.2 ⟨n,h1,rfl⟩)) h1 h3)
def apF(h:Heap)(all:List Int)(a:Int):Option Int:=(Z08 (atH h a).1).find? (pbad h all a)
def apL(h:Heap)(all:List Int)(i:Nat):Tg:=⟨tm 83 [(1,.pt 8001 0 0),(2,.pt 8002 0 0),(3,Z01 all),(5,u64 0),(24,Z01 all),(25,int all.length),(26,int i)],[(8002,.box 70 [int 0,int 0,u64 0]),(8001,.box 28 h.cells)],60⟩
theorem Z6g(h:Header):∀ n:Nat,∀ k∈Z0V h n,0≤k∧k<n
 | 0,k,hk=>by simp[Z0V]at hk
 | n+1,k,hk=>by
  unfold Z0V at hk
  split at hk
  ·rcases List.mem_append.1 hk with hk | hk
   ·have:=Z6g h n k hk;omega
   ·simp only[List.mem_cons,List.not_mem_nil,or_false]at hk;omega
  ·have:=Z6g h n k hk;omega
theorem Z3T(h:Header):(Z08 h).length≤256∧∀ k∈Z08 h,0≤k∧k≤256:=by
 rw[← Z6N]
 have hs:=Z12 h
 have h1:=Z3A h (sizeH h).toNat
 exact⟨by omega,fun k hk=>by have:=Z6g h _ k hk;omega⟩
section
variable (h:Heap) (all:List Int) (i:Nat) (hw:WOk h.words) (hwl:h.words.length≤1048576) (hl:all.length≤1048576) (hs:all.Pairwise (· < ·)) (hr:∀ x∈all,0≤x∧x≤8192) (hi:i<all.length)
include hw hwl hl hs hr hi
theorem ZhB(hb:apF h all (all.getD i default)=none):CSpec Tryz.prog (rndF (unS Tryz.f109) 0) (apL h all i).st .nrm (apL h all (i+1)).st:=by
 have hx:=hr (all.getD i default) (getD_mem_iff.2 ⟨i,hi,rfl⟩)
 have hm:=Z2S hw (all.getD i default)
 have hq:=Z3T (atH h (all.getD i default)).1
 have hq1:=hq.1
 have hq2:=hq.2
 unfold apF at hb
 exact sF [] [] (Fk (2,Tg.mk (tm 83 [(1,AV.pt 8001 0 0),(2,AV.pt 8002 0 0),(3,Z01 all),(5,u64 0),(7,u64 (all.getD i default)),(24,Z01 all),(25,int ↑all.length),(26,int ↑i),(37,Z0E (Z08 (atH h (all.getD i default)).fst)),(38,int (↑(Z08 (atH h (all.getD i default)).fst).length:Int)),(39,int 0)]) [(8002,Blk.box 70 [int 0,int 0,u64 0]),(8001,Blk.box 28 h.cells)] 64,Ex.nrm,Tg.mk (tm 83 [(1,AV.pt 8001 0 0),(2,AV.pt 8002 0 0),(3,Z01 all),(24,Z01 all),(25,int ↑all.length),(26,int ↑i)]) [(8002,Blk.box 70 [int 0,int 0,u64 0]),(8001,Blk.box 28 h.cells)] 68) (Ftb 27 (decide ((↑i:Int)<(↑all.length:Int))) (Fek 28 wdv all (↑i) i (Fc 33 (@Z3k h (all.getD i default) ‹_› (by omega)) (Fc 37 (@Z5a ((atH h (all.getD i default)).fst) ‹_›) (Fl 38 idv (Z08 (atH h (all.getD i default)).fst) (Fa (@ZlV h all i (all.getD i default) (Z08 (atH h (all.getD i default)).fst) ‹_› ‹_› ‹_› ‹_› ‹_› ‹_› ‹_› ‹_›) (Fx 68 i Fz))))))))
theorem Zl0(x:Int)(hb:apF h all (all.getD i default)=some x):CSpec Tryz.prog (rndF (unS Tryz.f109) 0) (apL h all i).st (.ext 0) (Tg.st ⟨tm 83 [(1,.pt 8001 0 0),(2,.pt 8002 0 0),(5,u64 (all.getD i default+1+x))],[(8002,.box 70 [int 0,int 0,u64 0]),(8001,.box 28 h.cells)],72⟩):=by
 have hx:=hr (all.getD i default) (getD_mem_iff.2 ⟨i,hi,rfl⟩)
 have hm:=Z2S hw (all.getD i default)
 have hq:=Z3T (atH h (all.getD i default)).1
 have hq1:=hq.1
 have hq2:=hq.2
 unfold apF at hb
 exact sF [] [] (Fk (2,Tg.mk (tm 83 [(1,AV.pt 8001 0 0),(2,AV.pt 8002 0 0),(3,Z01 all),(5,u64 0),(7,u64 (all.getD i default)),(24,Z01 all),(25,int ↑all.length),(26,int ↑i),(37,Z0E (Z08 (atH h (all.getD i default)).fst)),(38,int (↑(Z08 (atH h (all.getD i default)).fst).length:Int)),(39,int 0)]) [(8002,Blk.box 70 [int 0,int 0,u64 0]),(8001,Blk.box 28 h.cells)] 64,Ex.ext 0,Tg.mk (tm 83 [(1,AV.pt 8001 0 0),(2,AV.pt 8002 0 0),(5,u64 (all.getD i default+1+x))]) [(8002,Blk.box 70 [int 0,int 0,u64 0]),(8001,Blk.box 28 h.cells)] 68) (Ftb 27 (decide ((↑i:Int)<(↑all.length:Int))) (Fek 28 wdv all (↑i) i (Fc 33 (@Z3k h (all.getD i default) ‹_› (by omega)) (Fc 37 (@Z5a ((atH h (all.getD i default)).fst) ‹_›) (Fl 38 idv (Z08 (atH h (all.getD i default)).fst) (Fa (@ZiA h all i (all.getD i default) (Z08 (atH h (all.getD i default)).fst) x ‹_› ‹_› ‹_› ‹_› ‹_› ‹_› ‹_› ‹_›) Fz)))))))
end
theorem Znk(h:Heap)(all:List Int):CSpec Tryz.prog (rndF (unS Tryz.f109) 0) (apL h all all.length).st (.ext 0) (Tg.st ⟨tm 83 [(1,.pt 8001 0 0),(2,.pt 8002 0 0),(5,u64 0)],[(8002,.box 70 [int 0,int 0,u64 0]),(8001,.box 28 h.cells)],72⟩):=by
 exact sF [] [] (Ffb 27 (decide ((↑all.length:Int)<(↑all.length:Int))) Fz)
theorem Zmn(h:Heap)(all:List Int)(hw:WOk h.words)(hwl:h.words.length≤1048576)(hl:all.length≤1048576)(hs:all.Pairwise (· < ·))(hr:∀ x∈all,0≤x∧x≤8192)(hf:all.find? (fun a=>(apF h all a).isSome)=none):CSpec Tryz.prog (blkF (unS Tryz.f109) 0) (Tg.st ⟨tm 83 [(1,.pt 8001 0 0),(2,.pt 8002 0 0),(3,Z01 all),(5,u64 0),(24,Z01 all),(25,int all.length),(26,int 0)],[(8002,.box 70 [int 0,int 0,u64 0]),(8001,.box 28 h.cells)],60⟩) .nrm (Tg.st ⟨tm 83 [(1,.pt 8001 0 0),(2,.pt 8002 0 0),(5,u64 0)],[(8002,.box 70 [int 0,int 0,u64 0]),(8001,.box 28 h.cells)],72⟩) :=
 Z0b (S:=fun i=>(apL h all i).st) all.length (by kernel_rfl) (fun i hi=>ZhB h all i hw hwl hl hs hr hi (by simpa using Z5v hf i hi)) (Znk h all)
theorem Zle(h:Heap)(all:List Int)(a x:Int)(hw:WOk h.words)(hwl:h.words.length≤1048576)(hl:all.length≤1048576)(hs:all.Pairwise (· < ·))(hr:∀ x∈all,0≤x∧x≤8192)(hf:all.find? (fun a=>(apF h all a).isSome)=some a)(hx:apF h all a=some x):CSpec Tryz.prog (blkF (unS Tryz.f109) 0) (Tg.st ⟨tm 83 [(1,.pt 8001 0 0),(2,.pt 8002 0 0),(3,Z01 all),(5,u64 0),(24,Z01 all),(25,int all.length),(26,int 0)],[(8002,.box 70 [int 0,int 0,u64 0]),(8001,.box 28 h.cells)],60⟩) .nrm (Tg.st ⟨tm 83 [(1,.pt 8001 0 0),(2,.pt 8002 0 0),(5,u64 (a+1+x))],[(8002,.box 70 [int 0,int 0,u64 0]),(8001,.box 28 h.cells)],72⟩):=by
 obtain⟨n,h1,h2,h3,h4⟩:=Z36 hf
 subst h2
 exact Z0b (S:=fun i=>(apL h all i).st) n (by kernel_rfl) (fun i hi=>ZhB h all i hw hwl hl hs hr (by omega) (by simpa using h4 i hi)) (Zl0 h all n hw hwl hl hs hr h1 x hx)
theorem Znc(h:Heap):CSpec Tryz.prog (firS (unS Tryz.f109)) (Tg.st ⟨tm 83 [(0,h.av)],[],1⟩) .nrm (Tg.st ⟨tm 83 [(1,.pt 8001 0 0),(2,.pt 8002 0 0)],[(8002,.box 70 [int 0,int 0,u64 0]),(8001,.box 28 h.cells)],20⟩):=by
 exact sF [] [] Fz
def apAt(h:Heap):Int:=match (Z04 h).1.find? (fun a=>(apF h (Z04 h).1 a).isSome)with
 | some a=>a+1+(apF h (Z04 h).1 a).getD 0
 | none=>0
def apW(h:Heap):Finding:=if apAt h=0 then⟨0,0,0⟩else⟨6,(ofA h.conf (apAt h)).1,apAt h⟩
theorem Zni(h:Heap)(hw:WOk h.words)(hwl:h.words.length≤1048576):CSpec Tryz.prog (bdyS (unS Tryz.f109)) (Tg.st ⟨tm 83 [(1,.pt 8001 0 0),(2,.pt 8002 0 0)],[(8002,.box 70 [int 0,int 0,u64 0]),(8001,.box 28 h.cells)],20⟩) .ret (Tg.st ⟨tm 83 [(2,.pt 8002 0 0)],[(8002,.box 70 [int (apW h).fault,int (apW h).page,u64 (apW h).addr])],90⟩):=by
 have hl:=Z2N h
 have hs:=ZcK h
 have hr:=Z3t h
 cases hf:(Z04 h).1.find? (fun a=>(apF h (Z04 h).1 a).isSome)with
 | none =>
  have e1:apAt h=0:=by simp only[apAt,hf]
  have e7:apW h=⟨0,0,0⟩:=if_pos e1
  rw[e7]
  exact sF [] [] (Fk (0,Tg.mk (tm 83 [(1,AV.pt 8001 0 0),(2,AV.pt 8002 0 0),(3,Z01 (Z04 h).fst),(5,u64 0),(24,Z01 (Z04 h).fst),(25,int (↑(Z04 h).fst.length:Int)),(26,int 0)]) [(8002,Blk.box 70 [int 0,int 0,u64 0]),(8001,Blk.box 28 h.cells)] 60,Ex.nrm,Tg.mk (tm 83 [(1,AV.pt 8001 0 0),(2,AV.pt 8002 0 0),(5,u64 0)]) [(8002,Blk.box 70 [int 0,int 0,u64 0]),(8001,Blk.box 28 h.cells)] 72) (Fc 21 (@walkObjects h ‹_›) (Fl 25 wdv (Z04 h).fst (Fa (@Zmn h ((Z04 h).fst) ‹_› ‹_› (by omega) ‹_› ‹_› ‹_›) Fz))))
 | some a =>
  obtain⟨n,h1,h2,h3,h4⟩:=Z36 hf
  obtain⟨x,hx⟩:=Option.isSome_iff_exists.1 h3
  have ha:=hr a (getD_mem_iff.2 ⟨n,h1,h2⟩)
  have hxr:=(Z3T (atH h a).1).2 x (List.mem_of_find?_eq_some hx)
  have e1:apAt h=a+1+x:=by simp only[apAt,hf,hx,Option.getD_some]
  have e7:apW h=⟨6,(ofA h.conf (a+1+x)).1,a+1+x⟩:=by rw[apW,e1,if_neg (by omega)]
  rw[e7]
  exact sF [] [] (Fk (0,Tg.mk (tm 83 [(1,AV.pt 8001 0 0),(2,AV.pt 8002 0 0),(3,Z01 (Z04 h).fst),(5,u64 0),(24,Z01 (Z04 h).fst),(25,int (↑(Z04 h).fst.length:Int)),(26,int 0)]) [(8002,Blk.box 70 [int 0,int 0,u64 0]),(8001,Blk.box 28 h.cells)] 60,Ex.nrm,Tg.mk (tm 83 [(1,AV.pt 8001 0 0),(2,AV.pt 8002 0 0),(5,u64 (a+1+x))]) [(8002,Blk.box 70 [int 0,int 0,u64 0]),(8001,Blk.box 28 h.cells)] 72) (Fc 21 (@walkObjects h ‹_›) (Fl 25 wdv (Z04 h).fst (Fa (@Zle h ((Z04 h).fst) a x ‹_› ‹_› (by omega) ‹_› ‹_› ‹_› ‹_›) (Ffb 70 (a+1+x==0) (Fc 76 (@Z3j h.conf (a+1+x) (by omega) (by omega)) Fz))))))
end Go.Proofs.YtolnblaadleknaaGreat
namespace Go.Proofs.YtolnblaadleknaaGreat
open Go.Sx Go.RowKit
def Finding.val(f:Finding):Value:=.agg #[.int .i64 f.fault,.int .i64 f.page,.int .u64 f.addr]
theorem ZcL(ρ:Rho)(w:World)(Im:Nat→Prop)(f:Finding):Rel ρ w Im f.av f.val:=by
 refine .ag _ _ rfl (fun i v h=>?_) (fun i a v ha hv=>?_)
 ·rcases i with _ | _ | _ | i<;>simp at h<;>subst h<;>rfl
 ·rcases i with _ | _ | _ | i<;>simp at ha hv<;>subst ha<;>subst hv<;>exact .d (.sc _ rfl)
theorem ZeS{ρ:Rho}{w:World}{Im:Nat→Prop}{f:Finding}{v:Value}(h:Rel ρ w Im f.av v):v=f.val:=by
 obtain⟨cs,h1,h2,h3,h4⟩:=Z2U h
 rw[h1]
 have g:∀ (k:Nat) (hk:k<cs.size) (v:Value),[int f.fault,int f.page,u64 f.addr][k]? = some (.d (.sc v))→cs[k]=v:=fun k hk v hv=>Z0B (h4 k _ cs[k] hv (Array.getElem?_eq_getElem hk))
 have hs:cs.size=3:=h2
 simp only[Finding.val]
 congr 1
 apply Array.ext
 ·simp[hs]
 ·intro k hk _
  rcases k with _ | _ | _ | k
  ·exact g 0 hk _ rfl
  ·exact g 1 hk _ rfl
  ·exact g 2 hk _ rfl
  ·omega
theorem noGoto_ret{Q:Exit→Act→World→Prop}{a:Act}{w:World}(h:Q .ret a w):Exit.noGoto Q Ex.ret.exit a w:=h
theorem Z3U(h:Heap)(hw:WOk h.words)(hwl:h.words.length≤1048576):GSpec Tryz.prog 109 [h.av] true (apW h).av []:=by
 intro w00 Im vs hIm hsz hargs
 have hs1:vs.size=1:=hsz
 have hbody:Tryz.f109.body=some (.seq (firS (unS Tryz.f109)) (.scope (bdyS (unS Tryz.f109)))):=by kernel_rfl
 refine calls_of_wp Tryz.func109 hbody ?_
 have S0:Sx.Sys (fun _=>False) Im w00 (tm 83 [(0,h.av)]) (hOf []) 1 { tmps:=vs++Array.replicate (Tryz.f109.ntmps-vs.size) undef,defers:=[] } w00:=by
  refine⟨_,Im,Sx.Inv.empty hIm (Nat.le_refl 1),⟨by rw[hs1];simp[hs1];kernel_rfl,fun k y v hy hv=>?_,rfl⟩⟩
  rw[show tm 83 [(0,h.av)]=[h.av]++List.replicate 82 .any from by kernel_rfl,List.getElem?_append]at hy
  rw[Array.getElem?_append]at hv
  split at hy
  ·rename_i hk
   rw[if_pos (by rw[hsz];exact hk)]at hv
   exact hargs k y v hy hv
  ·have:=List.mem_of_getElem? hy
   rw[(List.mem_replicate.1 this).2]
   exact .any _
 refine wp_seq (wp_mono (Znc h _ _ _ _ _ S0) ?_)
 rintro e a1 w1 ⟨rfl,S1⟩
 refine wp_scope_straight (wp_mono (Zni h hw hwl _ _ _ _ _ S1) ?_)
 rintro e a2 w2 ⟨rfl,ρ2,Im2,I2,T2⟩
 obtain⟨v,hv1,hv2⟩:=Z6u (P:=Tryz.prog) (fn:=Tryz.f109) (l:=[(apW h).av]) I2 T2 (by kernel_rfl)
 refine noGoto_ret (bodyPost_ret hv1 T2.defers ⟨v,rfl,I2.kept,fun _=>none,fun _=>False,fun _ q=>q.elim,fun _ q=>q.elim,fun _ _ _ q=>(by cases q),fun _ _ _ _ _ q=>(by cases q),fun _ _ q=>(by cases q),fun k B q=>by simp at q, ?_⟩)
 rw[ZeS (show Rel ρ2 w2 Im2 (apW h).av v from hv2)]
 exact ZcL _ _ _ _
end Go.Proofs.YtolnblaadleknaaGreat
namespace Go.Proofs.YtolnblaadleknaaGreat
open Go.Sx
theorem Zk7{c:List Int}{x k:Int}(hk:0≤k){o:Nat}(ho:o<c.length):(clrW c x k).getD o 0=if x≤o∧(o:Int)<x+k then 0 else c.getD o 0:=by
 have h1:loC c x≤c.length:=ZeB c x
 have h2:loC c (x+k)≤c.length:=ZeB c (x+k)
 have h3:=Zez c x hk
 have e1:loC c x+(loC c (x+k)-loC c x)=loC c (x+k):=by omega
 have a1:o<loC c x↔(o:Int)<x:=by unfold loC;omega
 have a2:o<loC c (x+k)↔(o:Int)<x+k:=by unfold loC;omega
 unfold clrW
 rw[e1]
 simp only[List.getD_eq_getElem?_getD]
 by_cases h4:o<loC c x
 ·rw[List.append_assoc,List.getElem?_append_left (by simp;omega),List.getElem?_take,if_pos h4,if_neg (by have:=a1.1 h4;omega)]
 ·by_cases h5:o<loC c (x+k)
  ·rw[List.getElem?_append_left (by simp;omega),List.getElem?_append_right (by simp;omega),if_pos (by have:=a2.1 h5;omega)]
   rw[List.getElem?_replicate,if_pos (by simp;omega)]
   rfl
  ·rw[List.getElem?_append_right (by simp;omega),List.getElem?_drop,if_neg (fun q=>h5 (a2.2 q.2))]
   congr 2
   simp
   omega
theorem ZhC{h:Heap}{F:Int}{l c:List Int}{o:Nat}(ho:o<c.length):∀ n:Nat,n≤l.length→(cwN h F l c n).getD o 0=if(l.take n).any (fun a=>decide (a-F≤o)&&decide ((o:Int)<a-F+Z4a h a))=true then 0 else c.getD o 0
 | 0,_=>by simp[cwN]
 | n+1,hn=>by
  have hl:=Z7e h F l c n
  rw[cwN,Zk7 (Z82 h _).1 (by omega),ZhC ho n (by omega),Z8b (by omega),List.any_append]
  generalize l.getD n default=a
  generalize (l.take n).any _=b
  by_cases h1:a-F≤o∧(o:Int)<a-F+Z4a h a
  ·rw[if_pos h1,if_pos (by simp[h1])]
  ·rw[if_neg h1]
   have:([a].any fun a=>decide (a-F≤(o:Int))&&decide ((o:Int)<a-F+Z4a h a))=false:=by
    simp only[List.any_cons,List.any_nil,Bool.or_false,Bool.and_eq_false_iff,decide_eq_false_iff_not]
    omega
   rw[this,Bool.or_false]
theorem Zae{h:Heap}(hp:Z02 h=true){i:Nat}(hi:i<h.pages.length){o:Int}(ho:0≤o∧o<h.conf.pw):(address h.conf i o).1=4096+(i*h.conf.pw+o):=by
 have po:=Z0a hp
 unfold address
 rw[if_pos po.1,if_pos (inB_iff.2 (by omega))]
theorem ZcQ{h:Heap}(hp:Z02 h=true){i:Nat}(hi:i<h.pages.length):0≤(i:Int)*h.conf.pw∧(i:Int)*h.conf.pw+h.conf.pw≤h.words.length:=by
 have po:=Z0a hp
 have h1:((i:Int)+1)*h.conf.pw≤h.conf.pg*h.conf.pw:=Int.mul_le_mul_of_nonneg_right (by omega) (by omega)
 have h2:((i:Int)+1)*h.conf.pw=i*h.conf.pw+h.conf.pw:=by rw[Int.add_mul,Int.one_mul]
 have h3:h.conf.pg*h.conf.pw=h.conf.pw*h.conf.pg:=Int.mul_comm _ _
 have h4:(0:Int)≤i*h.conf.pw:=Int.mul_nonneg (by omega) (by omega)
 omega
theorem Zjf{h:Heap}(hp:Z02 h=true){i:Nat}(hi:i<h.pages.length):(rawP h i).length=h.conf.pw.toNat∧∀ o:Nat,o<h.conf.pw.toNat→(rawP h i).getD o 0=Z3W h i o:=by
 have po:=Z0a hp
 have pi:=ZcQ hp hi
 have e0:=Zae hp hi (o:=0) (by omega)
 constructor
 ·simp only[rawP,List.length_take,List.length_drop];omega
 ·intro o ho
  have e1:=Zae hp hi (o:=o) (by omega)
  unfold Z3W loadA
  rw[e1]
  rw[if_pos (by omega)]
  simp only[rawP,List.getD_eq_getElem?_getD,List.getElem?_take,List.getElem?_drop,if_pos ho]
  rw[e0,show(4096+((i:Int)*h.conf.pw+0)-4096).toNat+o=(4096+((i:Int)*h.conf.pw+(o:Int))-4096).toNat from by omega]
theorem Za1{h:Heap}(hp:Z02 h=true){i:Nat}(hi:i<h.pages.length):(clrP h i).length=h.conf.pw.toNat∧∀ o:Nat,o<h.conf.pw.toNat→(clrP h i).getD o 0=if(Z2j h i).getD o default=true then 0 else Z3W h i o:=by
 have po:=Z0a hp
 obtain⟨r1,r2⟩:=Zjf hp hi
 constructor
 ·rw[clrP,Z7e,r1]
 ·intro o ho
  rw[clrP,ZhC (by omega) _ (Nat.le_refl _),List.take_length,r2 o ho]
  have e0:=Zae hp hi (o:=0) (by omega)
  have e:(Z2j h i).getD o default=(Z07 h (Z0s h.pages i:Nat)).1.any (fun a=>decide (a-(address h.conf i 0).1≤(o:Int))&&decide ((o:Int)<a-(address h.conf i 0).1+Z4a h a)):=by
   unfold Z2j Z1x
   rw[List.getD_eq_getElem?_getD,List.getElem?_map,List.getElem?_range ho]
   simp only[Option.map_some,Option.getD_some]
   congr 1
   funext a
   unfold Z9U
   rw[e0,show a-(4096+((i:Int)*h.conf.pw+0))=a-4096-i*h.conf.pw from by omega]
  rw[e]
theorem Zeh{h:Heap}(hp:Z02 h=true){i:Nat}(hi:i<h.pages.length)(e:fstW (clrP h i)<(clrP h i).length):Z2v h i (Z2j h i)=4096+i*h.conf.pw+fstW (clrP h i):=by
 obtain⟨c1,c2⟩:=Za1 hp hi
 have hu:=Z7K h i
 have hf:(List.range (Z2j h i).length).find? (badD h i (Z2j h i))=some (fstW (clrP h i)):=by
  rw[List.find?_range_eq_some]
  refine⟨?_,List.mem_range.2 (by omega),fun j hj=>?_⟩
  ·have h1:=ZeD e
   rw[show(default:Int)=0 from rfl,c2 _ (by omega)]at h1
   split at h1
   ·exact absurd rfl h1
   ·rename_i h2
    simp only[badD,Bool.and_eq_true,Bool.not_eq_true',decide_eq_true_eq]
    exact⟨by simpa using h2,h1⟩
  ·have h1:=(Zad hj).2
   rw[show(default:Int)=0 from rfl,c2 _ (by omega)]at h1
   simp only[badD,Bool.not_and,Bool.not_not,Bool.or_eq_true,Bool.not_eq_true',decide_eq_false_iff_not]
   split at h1
   ·rename_i h2;exact .inl h2
   ·exact .inr (fun q=>q h1)
 unfold Z2v
 rw[hf]
theorem Zlg{h:Heap}(hp:Z02 h=true){i:Nat}(hi:i<h.pages.length)(e:¬ fstW (clrP h i)<(clrP h i).length):Z2v h i (Z2j h i)=0:=by
 obtain⟨c1,c2⟩:=Za1 hp hi
 have hu:=Z7K h i
 have hf:(List.range (Z2j h i).length).find? (badD h i (Z2j h i))=none:=by
  rw[List.find?_eq_none]
  intro j hj
  have hj:=List.mem_range.1 hj
  have h1:=(Zad (l:=clrP h i) (m:=j) (by omega)).2
  rw[show(default:Int)=0 from rfl,c2 _ (by omega)]at h1
  simp only[badD,Bool.and_eq_true,Bool.not_eq_true',decide_eq_true_eq,not_and]
  intro h2 h3
  rw[if_neg (by rw[h2];simp)]at h1
  exact h3 h1
 unfold Z2v
 rw[hf]
theorem Z6v{h:Heap}(hp:Z02 h=true){i:Nat}(hi:i<h.pages.length):Z1H h i (Z07 h i).1=decide (Z0X h i (Z07 h i).1≠0):=by
 unfold Z0X Z1H
 cases hf:(Z07 h i).1.find? (Z1v h i)with
 | none=>simp
 | some x =>
  have hx:=List.mem_of_find?_eq_some hf
  have e:=Z6t hp (i:=i) (by omega)
  rw[e]at hx
  obtain⟨y,hy,rfl⟩:=List.mem_map.1 hx
  have h1:=(Z4n y hy).1
  have h2:=(ZcQ hp hi).1
  have:y.addr≠0:=by omega
  simp[this]
theorem find_congr{α:Type}{p q:α→Bool}:∀ {l:List α},(∀ x∈l,p x=q x)→l.find? p=l.find? q
 | [],_=>rfl
 | a::l,h=>by
  rw[List.find?_cons,List.find?_cons,h a (by simp),find_congr (l:=l) (fun x hx=>h x (by simp[hx]))]
theorem find_range{l:List Int}{p:Int→Bool}:match (List.range l.length).find? (fun i=>p (l.getD i default))with | none=>l.find? p=none | some i=>l.find? p=some (l.getD i default):=by
 split
 ·rename_i hb
  rw[List.find?_eq_none]at hb ⊢
  intro x hx
  obtain⟨i,hi,e⟩:=getD_mem_iff.1 hx
  have:=hb i (List.mem_range.2 hi)
  rwa [e]at this
 ·rename_i i hb
  obtain⟨h1,h2,h3⟩:=List.find?_range_eq_some.1 hb
  have h2:=List.mem_range.1 h2
  cases hf:l.find? p with
  | none =>
   have:=List.find?_eq_none.1 hf (l.getD i default) (getD_mem_iff.2 ⟨i,h2,rfl⟩)
   exact absurd h1 this
  | some x =>
   obtain⟨n,k1,k2,k3,k4⟩:=Z36 hf
   have hn:n=i:=by
    rcases Nat.lt_trichotomy n i with q | q | q
    ·have:=h3 n q
     rw[k2,k3]at this;cases this
    ·exact q
    ·have:=k4 i q
     rw[h1]at this;cases this
   subst hn
   rw[k2]
theorem Z7T{h:Heap}{a:Int}(ha:a∈(Z04 h).1):(atH h a).2=0∧(atH h a).1.kind≠0:=by
 by_cases e:(allW h).2=0
 ·rw[ZgV h e]at ha
  obtain⟨x,hx,rfl⟩:=List.mem_map.1 ha
  obtain⟨h1,h2⟩:=List.mem_filter.1 hx
  obtain⟨h3,h4⟩:=ZgI x h1
  refine⟨h4, ?_⟩
  rw[← h3]
  simpa[Z29]using h2
 ·rw[Zeb h e]at ha
  simp at ha
theorem Z5X(hd:Header):∀ n:Nat,Z0V hd n=((List.range n).filter (fun k:Nat=>Z0h hd k)).map (fun k:Nat=>(k:Int))
 | 0=>rfl
 | n+1=>by
  rw[Z0V,List.range_succ,List.filter_append,List.map_append,← Z5X hd n]
  by_cases h:Z0h hd (n:Int)=true
  ·rw[if_pos h];simp[h]
  ·rw[if_neg h];simp[h]
def ptrF(h:Heap)(all:List Int)(a:Int):Option Nat:=(List.range (Z0Q h a).1.length).find? (Z9X (getH h a).1 (Z0Q h a).1 all)
theorem ZmD{h:Heap}{a:Int}(e:(atH h a).2=0)(hk:(atH h a).1.kind≠0)(all:List Int):apF h all a=(ptrF h all a).map (fun k:Nat=>(k:Int)):=by
 have i1:=Zh3 e
 have i2:=(ZdR e).1
 have g1:getH h a=atH h a:=by
  unfold getH
  rw[if_pos i2,if_neg (by omega),if_neg (fun q=>hk q.2)]
 have g2:=Z4D (h:=h) (a:=a) (by rw[g1];exact e)
 rw[g1]at g2
 have hv:=g2.2.2.2.2.2.2.1
 have hl:=g2.2.2.2.2.2.2.2.2.2
 have f1:(Z0Q h a).1=(h.words.drop (a+1-4096).toNat).take (atH h a).1.length.toNat:=by
  unfold Z0Q
  rw[g1,if_pos e,Z1g,if_neg (by omega),if_pos (by omega)]
 have fl:(Z0Q h a).1.length=(atH h a).1.length.toNat:=by
  rw[f1,List.length_take,List.length_drop];omega
 have fg:∀ k:Nat,k<(atH h a).1.length.toNat→(Z0Q h a).1.getD k default=fdV h a k:=by
  intro k hk
  unfold fdV loadA
  rw[if_pos (by omega),f1]
  simp only[List.getD_eq_getElem?_getD,List.getElem?_take,List.getElem?_drop,if_pos hk]
  rw[show(a+1-4096).toNat+k=(a+1+(k:Int)-4096).toNat from by omega]
  rfl
 unfold apF ptrF Z08
 rw[if_pos hv,Z5X,List.find?_map,List.find?_filter,fl,g1]
 congr 1
 refine find_congr fun k hk=>?_
 have hk:=List.mem_range.1 hk
 rw[Z9X,fg k hk]
 simp only[Function.comp,pbad]
 cases Z0h (atH h a).1 (k:Int)<;>simp
theorem Zm5(h:Heap):apW h=Z0U h (Z04 h).1:=by
 have hr:=find_range (l:=(Z04 h).1) (p:=fun a=>(ptrF h (Z04 h).1 a).isSome)
 have hc:(Z04 h).1.find? (fun a=>(apF h (Z04 h).1 a).isSome)=(Z04 h).1.find? (fun a=>(ptrF h (Z04 h).1 a).isSome):=find_congr fun a ha=>by
  rw[ZmD (Z7T ha).1 (Z7T ha).2,Option.isSome_map]
 unfold apW apAt Z0U
 rw[hc]
 change match (List.range (Z04 h).1.length).find? (fun i=>(Z2e h (Z04 h).1 i).isSome)with | none=>_ | some i=>_ at hr
 split at hr
 ·rename_i hb
  rw[hr,hb]
  rfl
 ·rename_i i hb
  have h1:=(List.find?_range_eq_some.1 hb)
  have hm:(Z04 h).1.getD i default∈(Z04 h).1:=getD_mem_iff.2 ⟨i,List.mem_range.1 h1.2.1,rfl⟩
  obtain⟨k,hk⟩:=Option.isSome_iff_exists.1 h1.1
  have hk':ptrF h (Z04 h).1 ((Z04 h).1.getD i default)=some k:=hk
  have i1:=Zh3 (Z7T hm).1
  rw[hr,hb]
  simp only[hk,ZmD (Z7T hm).1 (Z7T hm).2,hk',Option.map_some,Option.getD_some]
  rw[if_neg (by omega)]
def apgL(h:Heap)(i:Nat):Tg:=⟨tm 64 [(1,.pt 8001 0 0),(2,.pt 8002 0 0),(12,Z0v h.pages),(13,int h.pages.length),(14,int i)],[(8002,.box 70 [int 0,int 0,u64 0]),(8001,.box 28 h.cells)],60⟩
def apgE(f:Finding):Tg:=⟨tm 64 [(2,.pt 8002 0 0)],[(8002,.box 70 [int f.fault,int f.page,u64 f.addr])],64⟩
section
variable (h:Heap) (i:Nat) (hw:WOk h.words) (hp:Z02 h=true) (hi:i<h.pages.length)
include hw hp hi
theorem Zmi(e:Z2v h i (Z2j h i)=0):idxW (clrP h i)=-1:=by
 by_cases hc:fstW (clrP h i)<(clrP h i).length
 ·have h1:=Zeh hp hi hc
  have h2:=(ZcQ hp hi).1
  omega
 ·exact if_neg hc
theorem Zlj(e:¬ Z2v h i (Z2j h i)=0):0≤idxW (clrP h i)∧idxW (clrP h i)≤64∧Z2v h i (Z2j h i)=(address h.conf i 0).1+idxW (clrP h i):=by
 have po:=Z0a hp
 by_cases hc:fstW (clrP h i)<(clrP h i).length
 ·have h1:=Zeh hp hi hc
  have h2:idxW (clrP h i)=fstW (clrP h i):=if_pos hc
  have h3:=Zae hp hi (o:=0) (by omega)
  have h4:=(Za1 hp hi).1
  rw[h1,h2,h3];omega
 ·exact absurd (Zlg hp hi hc) e
theorem Zev(n1:(h.pages.getD i default).kind=0∨(h.pages.getD i default).space=h.space)(n2:(Z07 h (i:Int)).2=0)(n3:Z0X h (i:Int) (Z07 h (i:Int)).1=0)(n4:Z2v h i (Z2j h i)=0):CSpec Tryz.prog (rndF Tryz.f108 0) (apgL h i).st .nrm (apgL h (i+1)).st:=by
 have po:=Z0a hp
 have hn:=Z2p h (i:Int)
 have hr:=Z2i hp (i:Int)
 have q3:=Z6v hp hi
 rw[n3]at q3
 have q4:=Zmi h i hw hp hi n4
 simp only[ne_eq,not_true_eq_false,decide_false]at q3
 rcases n1 with n1 | n1
 ·exact sF [] [] (Fh 48 [.br false] (Fh 58 [.br false] (Ftb 15 (decide ((↑i:Int)<(↑h.pages.length:Int))) (Fek 17 Page.dv h.pages (↑i) i (Ffb 28 ((h.pages.getD i default).kind != 0&&(h.pages.getD i default).space != h.space) (Fc 34 (@Z2Y h ((↑i:Int)) ‹_› (by omega)) (Ffb 38 ((Z07 h (↑i:Int)).snd != 0) (Fc 45 (@Z32 h ((↑i:Int)) ((Z07 h (↑i:Int)).fst) ‹_› (by omega) (by omega) (by omega) ‹_›) (Fa ‹Z1H h (↑i:Int) (Z07 h (↑i:Int)).fst=false› (Fc 55 (@Z6d h i ‹_› ‹_› ‹_›) (Fb (decide (0≤idxW (clrP h i))=false) (Fx 62 i Fz))))))))))))
 ·exact sF [] [] (Fh 48 [.br false] (Fh 58 [.br false] (Ftb 15 (decide ((↑i:Int)<(↑h.pages.length:Int))) (Fek 17 Page.dv h.pages (↑i) i (Ffb 28 ((h.pages.getD i default).kind != 0&&(h.pages.getD i default).space != h.space) (Fc 34 (@Z2Y h ((↑i:Int)) ‹_› (by omega)) (Ffb 38 ((Z07 h (↑i:Int)).snd != 0) (Fc 45 (@Z32 h ((↑i:Int)) ((Z07 h (↑i:Int)).fst) ‹_› (by omega) (by omega) (by omega) ‹_›) (Fa ‹Z1H h (↑i:Int) (Z07 h (↑i:Int)).fst=false› (Fc 55 (@Z6d h i ‹_› ‹_› ‹_›) (Fb (decide (0≤idxW (clrP h i))=false) (Fx 62 i Fz))))))))))))
theorem Znf(n1:¬ (h.pages.getD i default).kind=0∧¬ (h.pages.getD i default).space=h.space):CSpec Tryz.prog (rndF Tryz.f108 0) (apgL h i).st .ret (apgE ⟨2,i,0⟩).st:=by
 have po:=Z0a hp
 obtain⟨n1,n2⟩:=n1
 exact sF [] [] (Ftb 15 (decide ((↑i:Int)<(↑h.pages.length:Int))) (Fek 17 Page.dv h.pages (↑i) i (Ftb 28 ((h.pages.getD i default).kind != 0&&(h.pages.getD i default).space != h.space) Fz)))
theorem Znd(n1:(h.pages.getD i default).kind=0∨(h.pages.getD i default).space=h.space)(n2:¬ (Z07 h (i:Int)).2=0):CSpec Tryz.prog (rndF Tryz.f108 0) (apgL h i).st .ret (apgE ⟨3,i,0⟩).st:=by
 have po:=Z0a hp
 rcases n1 with n1 | n1
 ·exact sF [] [] (Ftb 15 (decide ((↑i:Int)<(↑h.pages.length:Int))) (Fek 17 Page.dv h.pages (↑i) i (Ffb 28 ((h.pages.getD i default).kind != 0&&(h.pages.getD i default).space != h.space) (Fc 34 (@Z2Y h ((↑i:Int)) ‹_› (by omega)) (Ftb 38 ((Z07 h (↑i:Int)).snd != 0) Fz)))))
 ·exact sF [] [] (Ftb 15 (decide ((↑i:Int)<(↑h.pages.length:Int))) (Fek 17 Page.dv h.pages (↑i) i (Ffb 28 ((h.pages.getD i default).kind != 0&&(h.pages.getD i default).space != h.space) (Fc 34 (@Z2Y h ((↑i:Int)) ‹_› (by omega)) (Ftb 38 ((Z07 h (↑i:Int)).snd != 0) Fz)))))
theorem Znj(n1:(h.pages.getD i default).kind=0∨(h.pages.getD i default).space=h.space)(n2:(Z07 h (i:Int)).2=0)(n3:¬ Z0X h (i:Int) (Z07 h (i:Int)).1=0):CSpec Tryz.prog (rndF Tryz.f108 0) (apgL h i).st .ret (apgE ⟨5,i,Z0X h (i:Int) (Z07 h (i:Int)).1⟩).st:=by
 have po:=Z0a hp
 have hn:=Z2p h (i:Int)
 have hr:=Z2i hp (i:Int)
 have q3:Z1H h i (Z07 h i).1=true:=by rw[Z6v hp hi];simpa using n3
 rcases n1 with n1 | n1
 ·exact sF [] [] (Fh 48 [.br true] (Ftb 15 (decide ((↑i:Int)<(↑h.pages.length:Int))) (Fek 17 Page.dv h.pages (↑i) i (Ffb 28 ((h.pages.getD i default).kind != 0&&(h.pages.getD i default).space != h.space) (Fc 34 (@Z2Y h ((↑i:Int)) ‹_› (by omega)) (Ffb 38 ((Z07 h (↑i:Int)).snd != 0) (Fc 45 (@Z32 h ((↑i:Int)) ((Z07 h (↑i:Int)).fst) ‹_› (by omega) (by omega) (by omega) ‹_›) (Fa ‹Z1H h (↑i:Int) (Z07 h (↑i:Int)).fst=true› Fz))))))))
 ·exact sF [] [] (Fh 48 [.br true] (Ftb 15 (decide ((↑i:Int)<(↑h.pages.length:Int))) (Fek 17 Page.dv h.pages (↑i) i (Ffb 28 ((h.pages.getD i default).kind != 0&&(h.pages.getD i default).space != h.space) (Fc 34 (@Z2Y h ((↑i:Int)) ‹_› (by omega)) (Ffb 38 ((Z07 h (↑i:Int)).snd != 0) (Fc 45 (@Z32 h ((↑i:Int)) ((Z07 h (↑i:Int)).fst) ‹_› (by omega) (by omega) (by omega) ‹_›) (Fa ‹Z1H h (↑i:Int) (Z07 h (↑i:Int)).fst=true› Fz))))))))
theorem Zng(n1:(h.pages.getD i default).kind=0∨(h.pages.getD i default).space=h.space)(n2:(Z07 h (i:Int)).2=0)(n3:Z0X h (i:Int) (Z07 h (i:Int)).1=0)(n4:¬ Z2v h i (Z2j h i)=0):CSpec Tryz.prog (rndF Tryz.f108 0) (apgL h i).st .ret (apgE ⟨4,i,Z2v h i (Z2j h i)⟩).st:=by
 have po:=Z0a hp
 have hn:=Z2p h (i:Int)
 have hr:=Z2i hp (i:Int)
 have q3:=Z6v hp hi
 rw[n3]at q3
 simp only[ne_eq,not_true_eq_false,decide_false]at q3
 obtain⟨q4,q5,q6⟩:=Zlj h i hw hp hi n4
 have q7:max (idxW (clrP h i)) 0=idxW (clrP h i):=by omega
 rw[q6]
 rcases n1 with n1 | n1
 ·exact sF [] [false,false,false,false,false,false,true] (Fh 48 [.br false] (Fh 58 [.br true] (Ftb 15 (decide ((↑i:Int)<(↑h.pages.length:Int))) (Fek 17 Page.dv h.pages (↑i) i (Ffb 28 ((h.pages.getD i default).kind != 0&&(h.pages.getD i default).space != h.space) (Fc 34 (@Z2Y h ((↑i:Int)) ‹_› (by omega)) (Ffb 38 ((Z07 h (↑i:Int)).snd != 0) (Fc 45 (@Z32 h ((↑i:Int)) ((Z07 h (↑i:Int)).fst) ‹_› (by omega) (by omega) (by omega) ‹_›) (Fa ‹Z1H h (↑i:Int) (Z07 h (↑i:Int)).fst=false› (Fc 55 (@Z6d h i ‹_› ‹_› ‹_›) (Fb (decide (0≤idxW (clrP h i))=true) (Fr (70:Int) (Fr (4:Int) (Fr (↑i:Int) (Fa (by rw[q7]:(address h.conf (↑i:Int) 0).fst+max (idxW (clrP h i)) 0=(Finding.mk 4 (↑i:Int) ((address h.conf (↑i:Int) 0).fst+idxW (clrP h i))).addr) Fz)))))))))))))))
 ·exact sF [] [false,false,false,false,false,false,true] (Fh 48 [.br false] (Fh 58 [.br true] (Ftb 15 (decide ((↑i:Int)<(↑h.pages.length:Int))) (Fek 17 Page.dv h.pages (↑i) i (Ffb 28 ((h.pages.getD i default).kind != 0&&(h.pages.getD i default).space != h.space) (Fc 34 (@Z2Y h ((↑i:Int)) ‹_› (by omega)) (Ffb 38 ((Z07 h (↑i:Int)).snd != 0) (Fc 45 (@Z32 h ((↑i:Int)) ((Z07 h (↑i:Int)).fst) ‹_› (by omega) (by omega) (by omega) ‹_›) (Fa ‹Z1H h (↑i:Int) (Z07 h (↑i:Int)).fst=false› (Fc 55 (@Z6d h i ‹_› ‹_› ‹_›) (Fb (decide (0≤idxW (clrP h i))=true) (Fr (70:Int) (Fr (4:Int) (Fr (↑i:Int) (Fa (by rw[q7]:(address h.conf (↑i:Int) 0).fst+max (idxW (clrP h i)) 0=(Finding.mk 4 (↑i:Int) ((address h.conf (↑i:Int) 0).fst+idxW (clrP h i))).addr) Fz)))))))))))))))
end
theorem Zmk(h:Heap):CSpec Tryz.prog (rndF Tryz.f108 0) (apgL h h.pages.length).st (.ext 0) (apgE ⟨0,0,0⟩).st:=by
 exact sF [] [] (Ffb 15 (decide ((↑h.pages.length:Int)<(↑h.pages.length:Int))) Fz)
def apgV(h:Heap):Finding:=match Z2Q h with | some i=>Z0P h i | none=>⟨0,0,0⟩
theorem Ze5{h:Heap}{i:Nat}(e:(Z0P h i).fault=0):((h.pages.getD i default).kind=0∨(h.pages.getD i default).space=h.space)∧(Z07 h (i:Int)).2=0∧Z0X h (i:Int) (Z07 h (i:Int)).1=0∧Z2v h i (Z2j h i)=0:=by
 unfold Z0P at e
 split at e
 ·simp at e
 ·rename_i h1
  split at e
  ·simp at e
  ·rename_i h2
   split at e
   ·simp at e
   ·rename_i h3
    split at e
    ·simp at e
    ·rename_i h4
     refine⟨?_,Classical.not_not.1 h2,Classical.not_not.1 h3,Classical.not_not.1 h4⟩
     by_cases q:(h.pages.getD i default).kind=0
     ·exact .inl q
     ·refine .inr (Classical.not_not.1 fun q2=>h1 ⟨q,q2⟩)
theorem Zjd(h:Heap)(i:Nat)(hw:WOk h.words)(hp:Z02 h=true)(hi:i<h.pages.length)(e:(Z0P h i).fault≠0):CSpec Tryz.prog (rndF Tryz.f108 0) (apgL h i).st .ret (apgE (Z0P h i)).st:=by
 unfold Z0P at e ⊢
 split
 ·rename_i h1
  exact Znf h i hw hp hi h1
 ·rename_i h1
  have n1:(h.pages.getD i default).kind=0∨(h.pages.getD i default).space=h.space:=by
   by_cases q:(h.pages.getD i default).kind=0
   ·exact .inl q
   ·exact .inr (Classical.not_not.1 fun q2=>h1 ⟨q,q2⟩)
  split
  ·rename_i h2
   exact Znd h i hw hp hi n1 h2
  ·rename_i h2
   split
   ·rename_i h3
    exact Znj h i hw hp hi n1 (Classical.not_not.1 h2) h3
   ·rename_i h3
    split
    ·rename_i h4
     exact Zng h i hw hp hi n1 (Classical.not_not.1 h2) (Classical.not_not.1 h3) h4
    ·rename_i h4
     rw[if_neg h1,if_neg h2,if_neg h3,if_neg h4]at e
     exact absurd rfl e
theorem ZkO(h:Heap)(hw:WOk h.words)(hp:Z02 h=true)(hf:Z2Q h=none):CSpec Tryz.prog (blkF Tryz.f108 0) (Tg.st ⟨tm 64 [(1,.pt 8001 0 0),(2,.pt 8002 0 0),(12,Z0v h.pages),(13,int h.pages.length),(14,int 0)],[(8002,.box 70 [int 0,int 0,u64 0]),(8001,.box 28 h.cells)],60⟩) .nrm (Tg.st ⟨tm 64 [(2,.pt 8002 0 0)],[(8002,.box 70 [int 0,int 0,u64 0])],64⟩):=by
 refine Z0b (S:=fun k=>(apgL h k).st) h.pages.length (by kernel_rfl) (fun k hk=>?_) (Zmk h)
 have e:=List.find?_eq_none.1 hf k (List.mem_range.2 hk)
 obtain⟨n1,n2,n3,n4⟩:=Ze5 (h:=h) (i:=k) (by simpa using e)
 exact Zev h k hw hp hk n1 n2 n3 n4
theorem Zif(h:Heap)(i:Nat)(hw:WOk h.words)(hp:Z02 h=true)(hf:Z2Q h=some i):CSpec Tryz.prog (blkF Tryz.f108 0) (Tg.st ⟨tm 64 [(1,.pt 8001 0 0),(2,.pt 8002 0 0),(12,Z0v h.pages),(13,int h.pages.length),(14,int 0)],[(8002,.box 70 [int 0,int 0,u64 0]),(8001,.box 28 h.cells)],60⟩) .ret (Tg.st ⟨tm 64 [(2,.pt 8002 0 0)],[(8002,.box 70 [int (Z0P h i).fault,int (Z0P h i).page,u64 (Z0P h i).addr])],64⟩):=by
 obtain⟨h1,h2,h3⟩:=List.find?_range_eq_some.1 hf
 have h2:=List.mem_range.1 h2
 refine Z0C (S:=fun k=>(apgL h k).st) i (by kernel_rfl) (fun k hk=>?_) (Zjd h i hw hp h2 (by simpa using h1))
 have e:=h3 k hk
 obtain⟨n1,n2,n3,n4⟩:=Ze5 (h:=h) (i:=k) (by simpa using e)
 exact Zev h k hw hp (by omega) n1 n2 n3 n4
theorem Z4P(h:Heap)(hw:WOk h.words)(hp:Z02 h=true):GSpec Tryz.prog 108 [h.av] true (apgV h).av []:=by
 have po:=Z0a hp
 cases hf:Z2Q h with
 | none =>
  have e7:apgV h=⟨0,0,0⟩:=by simp only[apgV,hf]
  rw[e7]
  exact gF [] Tryz.func108 [] (Fl 13 Page.dv h.pages (Fu (@ZkO h ‹_› ‹_› ‹_›) Fz))
 | some i =>
  have e7:apgV h=Z0P h i:=by simp only[apgV,hf]
  rw[e7]
  exact gF [] Tryz.func108 [] (Fl 13 Page.dv h.pages (Fu (@Zif h i ‹_› ‹_› ‹_›) Fz))
theorem Z5S(h:Heap)(hw:WOk h.words)(hp:Z02 h=false):GSpec Tryz.prog 42 [h.av] true (Finding.av ⟨1,0,0⟩) []:=by
 exact gF [] Tryz.func42 [] (Fc 9 (@Z0z h) (Ftb 10 (!Z02 h) Fz))
theorem Z8t(h:Heap)(hw:WOk h.words)(hp:Z02 h=true)(i:Nat)(hb:Z2Q h=some i):GSpec Tryz.prog 42 [h.av] true (Z0P h i).av []:=by
 have po:=Z0a hp
 have e7:apgV h=Z0P h i:=by simp only[apgV,hb]
 have h1:¬ (Z0P h i).fault=0:=by simpa using (List.find?_range_eq_some.1 hb).1
 rw[← e7]at h1 ⊢
 exact gF [] Tryz.func42 [] (Fc 9 (@Z0z h) (Ffb 10 (!Z02 h) (Fc 13 (@Z4P h ‹_› ‹_›) (Ftb 16 (!((apgV h).fault==0&&((apgV h).page==0&&(apgV h).addr==0))) Fz))))
theorem Zaa(h:Heap)(hw:WOk h.words)(hp:Z02 h=true)(hb:Z2Q h=none)(hq:¬ (apW h).fault=0):GSpec Tryz.prog 42 [h.av] true (apW h).av []:=by
 have po:=Z0a hp
 have e7:apgV h=⟨0,0,0⟩:=by simp only[apgV,hb]
 have q1:(apgV h).fault=0:=by rw[e7]
 have q2:(apgV h).page=0:=by rw[e7]
 have q3:(apgV h).addr=0:=by rw[e7]
 exact gF [] Tryz.func42 [] (Fc 9 (@Z0z h) (Ffb 10 (!Z02 h) (Fc 13 (@Z4P h ‹_› ‹_›) (Ffb 16 (!((apgV h).fault==0&&((apgV h).page==0&&(apgV h).addr==0))) (Fc 19 (@Z3U h ‹_› (by omega)) (Ftb 22 (!((apW h).fault==0&&((apW h).page==0&&(apW h).addr==0))) Fz))))))
def acrL(h:Heap)(i:Nat):Tg:=⟨tm 50 [(1,.pt 8001 0 0),(2,.pt 8002 0 0),(5,int (Z0x h.pages i)),(25,Z0v h.pages),(26,int h.pages.length),(27,int i)],[(8002,.box 70 [int 0,int 0,u64 0]),(8001,.box 28 h.cells)],60⟩
theorem Zib(h:Heap)(i:Nat)(hp:Z02 h=true)(hi:i<h.pages.length):CSpec Tryz.prog (rndF Tryz.f42 0) (acrL h i).st .nrm (acrL h (i+1)).st:=by
 have po:=Z0a hp
 have:=Z2q h.pages i
 by_cases h1:(h.pages.getD i default).kind=1
 ·by_cases h2:0<(h.pages.getD i default).pins
  ·have e:Z0x h.pages (i+1)=Z0x h.pages i+1:=by rw[Z0x,if_pos ⟨h1,h2⟩]
   rw[acrL,acrL,e]
   exact sF [] [] (Ftb 28 (decide ((↑i:Int)<(↑h.pages.length:Int))) (Fek 29 Page.dv h.pages (↑i) i (Ftb 38 ((h.pages.getD i default).kind==1&&decide (0<(h.pages.getD i default).pins)) (Fw 40 ((↑(Z0x h.pages i):Int)+1) (↑(Z0x h.pages i+1):Int) (Fx 41 i Fz)))))
  ·have e:Z0x h.pages (i+1)=Z0x h.pages i:=by rw[Z0x,if_neg (fun q=>h2 q.2)];rfl
   rw[acrL,acrL,e]
   exact sF [] [] (Ftb 28 (decide ((↑i:Int)<(↑h.pages.length:Int))) (Fek 29 Page.dv h.pages (↑i) i (Ffb 38 ((h.pages.getD i default).kind==1&&decide (0<(h.pages.getD i default).pins)) (Fx 41 i Fz))))
 ·have e:Z0x h.pages (i+1)=Z0x h.pages i:=by rw[Z0x,if_neg (fun q=>h1 q.1)];rfl
  rw[acrL,acrL,e]
  exact sF [] [] (Ftb 28 (decide ((↑i:Int)<(↑h.pages.length:Int))) (Fek 29 Page.dv h.pages (↑i) i (Ffb 38 ((h.pages.getD i default).kind==1&&decide (0<(h.pages.getD i default).pins)) (Fx 41 i Fz))))
theorem ZmY(h:Heap):CSpec Tryz.prog (rndF Tryz.f42 0) (acrL h h.pages.length).st (.ext 0) (Tg.st ⟨tm 50 [(1,.pt 8001 0 0),(2,.pt 8002 0 0),(5,int (Z0x h.pages h.pages.length))],[(8002,.box 70 [int 0,int 0,u64 0]),(8001,.box 28 h.cells)],64⟩):=by
 exact sF [] [] (Ffb 28 (decide ((↑h.pages.length:Int)<(↑h.pages.length:Int))) Fz)
theorem Zi2(h:Heap)(hp:Z02 h=true):CSpec Tryz.prog (blkF Tryz.f42 0) (Tg.st ⟨tm 50 [(1,.pt 8001 0 0),(2,.pt 8002 0 0),(5,int 0),(25,Z0v h.pages),(26,int h.pages.length),(27,int 0)],[(8002,.box 70 [int 0,int 0,u64 0]),(8001,.box 28 h.cells)],60⟩) .nrm (Tg.st ⟨tm 50 [(1,.pt 8001 0 0),(2,.pt 8002 0 0),(5,int (Z0x h.pages h.pages.length))],[(8002,.box 70 [int 0,int 0,u64 0]),(8001,.box 28 h.cells)],64⟩) :=
 Z0b (S:=fun i=>(acrL h i).st) h.pages.length (by kernel_rfl) (fun i hi=>Zib h i hp hi) (ZmY h)
theorem Z7Y(h:Heap)(hw:WOk h.words)(hp:Z02 h=true)(hb:Z2Q h=none)(hq:(apW h).fault=0)(hc:h.conf.pg/4<(Z0x h.pages h.pages.length:Nat)):GSpec Tryz.prog 42 [h.av] true (Finding.av ⟨7,0,0⟩) []:=by
 have po:=Z0a hp
 have cl:=Z2q h.pages h.pages.length
 have e7:apgV h=⟨0,0,0⟩:=by simp only[apgV,hb]
 have q1:(apgV h).fault=0:=by rw[e7]
 have q2:(apgV h).page=0:=by rw[e7]
 have q3:(apgV h).addr=0:=by rw[e7]
 have e8:apW h=⟨0,0,0⟩:=by
  unfold apW at hq ⊢
  split at hq
  ·rename_i h1;rw[if_pos h1]
  ·simp at hq
 have q4:(apW h).fault=0:=by rw[e8]
 have q5:(apW h).page=0:=by rw[e8]
 have q6:(apW h).addr=0:=by rw[e8]
 exact gF [] Tryz.func42 [] (Fc 9 (@Z0z h) (Ffb 10 (!Z02 h) (Fc 13 (@Z4P h ‹_› ‹_›) (Ffb 16 (!((apgV h).fault==0&&((apgV h).page==0&&(apgV h).addr==0))) (Fc 19 (@Z3U h ‹_› (by omega)) (Ffb 22 (!((apW h).fault==0&&((apW h).page==0&&(apW h).addr==0))) (Fl 26 Page.dv h.pages (Fu (@Zi2 h ‹_›) (Fg 46 (by rw[Int.tdiv_eq_ediv_of_nonneg (by omega),wrapI' (by omega) (by omega)]:IntKind.i64.wrap (h.conf.pg.tdiv 4)=h.conf.pg/4) (Fa (by decide:(4:Int)≠0) (Ftb 47 (decide (h.conf.pg/4<(↑(Z0x h.pages h.pages.length):Int))) Fz)))))))))))
theorem Z8J(h:Heap)(hw:WOk h.words)(hp:Z02 h=true)(hb:Z2Q h=none)(hq:(apW h).fault=0)(hc:¬ h.conf.pg/4<(Z0x h.pages h.pages.length:Nat)):GSpec Tryz.prog 42 [h.av] true (Finding.av ⟨0,0,0⟩) []:=by
 have po:=Z0a hp
 have cl:=Z2q h.pages h.pages.length
 have e7:apgV h=⟨0,0,0⟩:=by simp only[apgV,hb]
 have q1:(apgV h).fault=0:=by rw[e7]
 have q2:(apgV h).page=0:=by rw[e7]
 have q3:(apgV h).addr=0:=by rw[e7]
 have e8:apW h=⟨0,0,0⟩:=by
  unfold apW at hq ⊢
  split at hq
  ·rename_i h1;rw[if_pos h1]
  ·simp at hq
 have q4:(apW h).fault=0:=by rw[e8]
 have q5:(apW h).page=0:=by rw[e8]
 have q6:(apW h).addr=0:=by rw[e8]
 exact gF [] Tryz.func42 [] (Fc 9 (@Z0z h) (Ffb 10 (!Z02 h) (Fc 13 (@Z4P h ‹_› ‹_›) (Ffb 16 (!((apgV h).fault==0&&((apgV h).page==0&&(apgV h).addr==0))) (Fc 19 (@Z3U h ‹_› (by omega)) (Ffb 22 (!((apW h).fault==0&&((apW h).page==0&&(apW h).addr==0))) (Fl 26 Page.dv h.pages (Fu (@Zi2 h ‹_›) (Fg 46 (by rw[Int.tdiv_eq_ediv_of_nonneg (by omega),wrapI' (by omega) (by omega)]:IntKind.i64.wrap (h.conf.pg.tdiv 4)=h.conf.pg/4) (Fa (by decide:(4:Int)≠0) (Ffb 47 (decide (h.conf.pg/4<(↑(Z0x h.pages h.pages.length):Int))) Fz)))))))))))
theorem Z6s(h:Heap)(hw:WOk h.words):GSpec Tryz.prog 42 [h.av] true (Z0e h).av []:=by
 have e7:=Zm5 h
 unfold Z0e
 rw[← e7]
 by_cases hp:Z02 h=true
 ·rw[if_pos hp]
  cases hb:Z2Q h with
  | some i=>exact Z8t h hw hp i hb
  | none =>
   by_cases hq:(apW h).fault=0
   ·simp only[hq,ne_eq,not_true_eq_false,if_false]
    by_cases hc:h.conf.pg/4<(Z0x h.pages h.pages.length:Nat)
    ·rw[if_pos hc];exact Z7Y h hw hp hb hq hc
    ·rw[if_neg hc];exact Z8J h hw hp hb hq hc
   ·simp only[ne_eq,hq,not_false_eq_true,if_true]
    exact Zaa h hw hp hb hq
 ·rw[if_neg hp]
  exact Z5S h hw (by simpa using hp)
theorem Znh(h:Heap):((Z0e h).fault==0&&((Z0e h).page==0&&(Z0e h).addr==0))=decide (Z0e h=⟨0,0,0⟩):=by
 cases Z0e h with
 | mk a b c=>by_cases h1:a=0<;>by_cases h2:b=0<;>by_cases h3:c=0<;>simp[h1,h2,h3]
theorem Z7H(h:Heap)(hw:WOk h.words):GSpec Tryz.prog 44 [h.av] true (bool (decide (Z0e h=⟨0,0,0⟩))) []:=by
 have e9:=Znh h
 exact gF [] Tryz.func44 [true] (Fc 4 (@Z6s h ‹_›) (Fa (by exact e9:((Z0e h).fault==0&&((Z0e h).page==0&&(Z0e h).addr==0))=decide (Z0e h=Finding.mk 0 0 0)) Fz))
def Z1s(w:Work)(r:Int):Int:=if r∈w.queue then r else(Z0r (loadA w.heap.words r).1).1
theorem Z9b(w:Work)(r:Int)(hw:WOk w.heap.words)(hl:w.heap.words.length≤4096)(hq:w.queue.length≤1048576)(h0:0≤r∧r≤18446744073709551615):GSpec Tryz.prog 150 [w.av,u64 r] true (u64 (Z1s w r)) []:=by
 have h1:=Z0N hw r
 rcases bb (decide (r∈w.queue))with hc0 | hc0<;>have hc0p:=hc0<;>simp only[bs]at hc0p
 ·exact gF [] Tryz.func150 [true] (Fh 12 [.call true (Sx.bool (decide (r∈w.queue))) [],.br true] (Fa (@Z0W w.queue r ‹_›) (Fa hc0 (Fa (by simp[Z1s, *]:r=Z1s w r) Fz))))
 ·exact gF [] Tryz.func150 [true] (Fh 12 [.call true (Sx.bool (decide (r∈w.queue))) [],.br false] (Fa (@Z0W w.queue r ‹_›) (Fa hc0 (Fc 19 (@Z1C w.heap.words r (by omega) ‹_›) (Fc 24 (@Z2I ((loadA w.heap.words r).fst) (by omega) (by omega)) (Fa (by simp[Z1s, *]:(Z0r (loadA w.heap.words r).fst).fst=Z1s w r) Fz))))))
theorem Zhy(w:Work)(a:Int)(hw:WOk w.heap.words)(h1:w.heap.words.length≤4096)(h0:0≤a∧a≤18446744073709551615):GSpec Tryz.prog 209 [w.av,u64 a] true (hdW w a).av []:=by
 have h2:=Z0N hw a
 exact gF [] Tryz.func209 [] (Fc 14 (@Z1C w.heap.words a (by omega) ‹_›) (Fc 19 (@Z2z ((loadA w.heap.words a).fst) (by omega) (by omega)) Fz))
def Z6R(w:Work)(x:Int):Work:=if Z1D w (ofA w.heap.conf x).1=true∧x∉w.queue then⟨⟨w.heap.conf,(Z0w w.heap.words x (objW ⟨0,(hdW w x).length,0⟩)).1,w.heap.pages,w.heap.space,w.heap.bump⟩,w.old,w.taken,w.queue,w.scanned,⟨w.rep.copied,w.rep.kept,w.rep.filled+1,w.rep.freed,w.rep.cleared,w.rep.steps⟩⟩else w
def fillN(w:Work):Nat→Work
 | 0=>w
 | k+1=>Z6R (fillN w k) (w.old.getD k default)
def Zig(w:Work)(i:Nat):Tg:=⟨tm 84 [(1,.pt 8001 0 0),(2,.pt 8002 0 0),(3,int i)],[(8002,.box 100 [int 0,int 0,.d (.sl 0 []),.d (.sl 0 []),int 0,int 0,.d (.sl 0 []),.d (.sl 0 []),.d (.sl 0 []),int 0,int 0,int 0,int 0,int 0,int 0,int 0]),(8001,.box 100 w.cells)],60⟩
structure FOk (w:Work):Prop where
 words:WOk w.heap.words
 wl:w.heap.words.length≤4096
 pl:w.heap.pages.length≤64
 ol:w.old.length≤524288
 o:∀ x∈w.old,0≤x∧x≤8192
 tl:w.taken.length≤1000000
 ql:w.queue.length≤1000000
theorem WkOk.fok{w:Work}(h:WkOk w):FOk w:=by
 have h1:=h.mu
 have h2:=h.tl
 have h3:=h.pl
 have h4:=validB_iff.1 h.conf
 exact⟨h.words,h.wl,by omega,h.ol,h.o,by omega,by omega⟩
theorem Z77{n:Int}(h:0≤n∧n≤255):Z0c ⟨0,n,0⟩=(1+16*n,0):=by
 have hv:Z0j ⟨0,n,0⟩=true:=validH_iff.2 ⟨by simp,by simp,h.1,h.2,by simp⟩
 rw[Z0c,if_pos hv]
 simp
section
variable (w:Work) (i:Nat) (hw:FOk w) (hi:i<w.old.length) (hr:0≤w.rep.filled∧w.rep.filled≤1000000)
include hw hi hr
theorem Zhc:CSpec Tryz.prog (rndF Tryz.f152 0) (Zig w i).st .nrm (Zig (Z6R w (w.old.getD i default)) (i+1)).st:=by
 have h1:=hw.words
 have h2:=hw.wl
 have h3:=hw.pl
 have h4:=hw.ol
 have h5:=hw.tl
 have h6:=hw.ql
 have hx:=hw.o _ (getD_mem_iff.2 ⟨i,hi,rfl⟩)
 have hm:=Z1Y (loadA w.heap.words (w.old.getD i default)).1 (Z0N h1 _).1
 have hh:0≤(hdW w (w.old.getD i default)).length∧(hdW w (w.old.getD i default)).length≤255:=Z1Z w.heap.words (w.old.getD i default)
 have he:=Z77 hh
 by_cases c1:Z1D w (ofA w.heap.conf (w.old.getD i default)).1=true
 ·by_cases c2:w.old.getD i default∈w.queue
  ·have e7:Z6R w (w.old.getD i default)=w:=by rw[Z6R,if_neg (by rintro⟨_,q⟩;exact q c2)]
   rw[e7]
   exact sF [] [] (Fl 13 wdv w.old (Ftb 14 (decide ((↑i:Int)<(↑w.old.length:Int))) (Fek 24 wdv w.old (↑i) i (Fc 26 (@Z49 w.heap.conf (w.old.getD i default) (by omega) (by omega)) (Fc 32 (@Z1I w ((ofA w.heap.conf (w.old.getD i default)).fst) (by omega) (by omega)) (FeG 40 (!!Z1D w (ofA w.heap.conf (w.old.getD i default)).fst) wdv w.old (↑i) i (FcG 42 (!!Z1D w (ofA w.heap.conf (w.old.getD i default)).fst) (fun hg=>by(try simp only[bs]at hg);exact @Z0W w.queue (w.old.getD i default) (by(try simp only[bs]at hg);omega)) (Ft 43 (by simp only[bs, *,true_or,or_true,true_and,and_true,not_true_eq_false,not_false_eq_true,Bool.true_eq_false,Bool.false_eq_true]:(!Z1D w (ofA w.heap.conf (w.old.getD i default)).fst||decide (w.old.getD i default∈w.queue))=true) (Fx 16 i Fz)))))))))
  ·have e7:Z6R w (w.old.getD i default)=⟨⟨w.heap.conf,(Z0w w.heap.words (w.old.getD i default) (objW ⟨0,(hdW w (w.old.getD i default)).length,0⟩)).1,w.heap.pages,w.heap.space,w.heap.bump⟩,w.old,w.taken,w.queue,w.scanned,⟨w.rep.copied,w.rep.kept,w.rep.filled+1,w.rep.freed,w.rep.cleared,w.rep.steps⟩⟩:=by rw[Z6R,if_pos ⟨c1,c2⟩]
   rw[e7]
   exact sF [] [] (Fh 71 [.els (List.map wdv ([(Z0c (Header.mk 0 (hdW w (w.old.getD i default)).length 0)).fst]++List.replicate (hdW w (w.old.getD i default)).length.toNat 0))] (Fl 13 wdv w.old (Ftb 14 (decide ((↑i:Int)<(↑w.old.length:Int))) (Fek 24 wdv w.old (↑i) i (Fc 26 (@Z49 w.heap.conf (w.old.getD i default) (by omega) (by omega)) (Fc 32 (@Z1I w ((ofA w.heap.conf (w.old.getD i default)).fst) (by omega) (by omega)) (FeG 40 (!!Z1D w (ofA w.heap.conf (w.old.getD i default)).fst) wdv w.old (↑i) i (FcG 42 (!!Z1D w (ofA w.heap.conf (w.old.getD i default)).fst) (fun hg=>by(try simp only[bs]at hg);exact @Z0W w.queue (w.old.getD i default) (by(try simp only[bs]at hg);omega)) (Ff 43 (by simp only[bs, *,true_or,or_true,true_and,and_true,not_true_eq_false,not_false_eq_true,Bool.true_eq_false,Bool.false_eq_true]:(!Z1D w (ofA w.heap.conf (w.old.getD i default)).fst||decide (w.old.getD i default∈w.queue))=false) (Fek 48 wdv w.old (↑i) i (Fc 50 (@Zhy w (w.old.getD i default) ‹_› ‹_› (by omega)) (Fc 55 (@Z2Z (Header.mk 0 (hdW w (w.old.getD i default)).length 0) (by(simp only[bs];omega))) (Fek 65 wdv w.old (↑i) i (Fs 68 (List.map wdv [(Z0c (Header.mk 0 (hdW w (w.old.getD i default)).length 0)).fst]) (Fa (by grind[objW]:0≤(hdW w (w.old.getD i default)).length∧(↑(List.map wdv [(Z0c (Header.mk 0 (hdW w (w.old.getD i default)).length 0)).fst]).length:Int)+(hdW w (w.old.getD i default)).length≤2^30) (Fa (by simp[objW,List.map_take,List.map_drop,List.map_set,List.map_append,wdv,idv]:List.map wdv [(Z0c (Header.mk 0 (hdW w (w.old.getD i default)).length 0)).fst]++List.replicate (hdW w (w.old.getD i default)).length.toNat [du64 0]=List.map wdv ([(Z0c (Header.mk 0 (hdW w (w.old.getD i default)).length 0)).fst]++List.replicate (hdW w (w.old.getD i default)).length.toNat 0)) (Fc 72 (@Z4u w.heap.words ([(Z0c (Header.mk 0 (hdW w (w.old.getD i default)).length 0)).fst]++List.replicate (hdW w (w.old.getD i default)).length.toNat 0) (w.old.getD i default) (by omega) (by omega) (by grind[objW])) (Fi 80 (w.rep.filled+1) (Fx 16 i Fz)))))))))))))))))))
 ·have e7:Z6R w (w.old.getD i default)=w:=by rw[Z6R,if_neg (by rintro⟨q,_⟩;exact c1 q)]
  rw[e7]
  exact sF [] [] (Fl 13 wdv w.old (Ftb 14 (decide ((↑i:Int)<(↑w.old.length:Int))) (Fek 24 wdv w.old (↑i) i (Fc 26 (@Z49 w.heap.conf (w.old.getD i default) (by omega) (by omega)) (Fc 32 (@Z1I w ((ofA w.heap.conf (w.old.getD i default)).fst) (by omega) (by omega)) (FeG 40 (!!Z1D w (ofA w.heap.conf (w.old.getD i default)).fst) wdv w.old (↑i) i (FcG 42 (!!Z1D w (ofA w.heap.conf (w.old.getD i default)).fst) (fun hg=>by(try simp only[bs]at hg);exact @Z0W w.queue (w.old.getD i default) (by(try simp only[bs]at hg);omega)) (Ft 43 (by simp only[bs, *,true_or,or_true,true_and,and_true,not_true_eq_false,not_false_eq_true,Bool.true_eq_false,Bool.false_eq_true]:(!Z1D w (ofA w.heap.conf (w.old.getD i default)).fst||decide (w.old.getD i default∈w.queue))=true) (Fx 16 i Fz)))))))))
end
theorem Zlc(w:Work):CSpec Tryz.prog (rndF Tryz.f152 0) (Zig w w.old.length).st (.ext 0) (Tg.st ⟨tm 84 [(1,.pt 8001 0 0),(2,.pt 8002 0 0)],[(8002,.box 100 [int 0,int 0,.d (.sl 0 []),.d (.sl 0 []),int 0,int 0,.d (.sl 0 []),.d (.sl 0 []),.d (.sl 0 []),int 0,int 0,int 0,int 0,int 0,int 0,int 0]),(8001,.box 100 w.cells)],60⟩):=by
 exact sF [] [] (Fl 13 wdv w.old (Ffb 14 (decide ((↑w.old.length:Int)<(↑w.old.length:Int))) Fz))
theorem ZjF(w:Work)(x:Int):∃ l n,Z6R w x=⟨⟨w.heap.conf,l,w.heap.pages,w.heap.space,w.heap.bump⟩,w.old,w.taken,w.queue,w.scanned,⟨w.rep.copied,w.rep.kept,n,w.rep.freed,w.rep.cleared,w.rep.steps⟩⟩∧l.length≤w.heap.words.length∧(WOk w.heap.words→WOk l)∧w.rep.filled≤n∧n≤w.rep.filled+1:=by
 unfold Z6R
 split
 ·refine⟨_,_,rfl,Z7V _ _ _,fun h=>Z5M h ?_ _,by omega,by omega⟩
  intro y hy
  have hh:0≤(hdW w x).length∧(hdW w x).length≤255:=Z1Z w.heap.words x
  simp only[objW,List.mem_cons,List.mem_replicate,Z77 hh]at hy
  rcases hy with rfl | ⟨_,rfl⟩<;>omega
 ·exact⟨w.heap.words,w.rep.filled,rfl,Nat.le_refl _,fun h=>h,by omega,by omega⟩
theorem Z5F(w:Work)(hw:FOk w):∀ k,FOk (fillN w k)∧(fillN w k).heap.conf=w.heap.conf∧(fillN w k).heap.pages=w.heap.pages∧(fillN w k).heap.space=w.heap.space∧(fillN w k).heap.bump=w.heap.bump∧(fillN w k).old=w.old∧(fillN w k).taken=w.taken∧(fillN w k).queue=w.queue∧(fillN w k).rep.freed=w.rep.freed∧(fillN w k).rep.cleared=w.rep.cleared∧w.rep.filled≤(fillN w k).rep.filled∧(fillN w k).rep.filled≤w.rep.filled+k
 | 0=>⟨hw,rfl,rfl,rfl,rfl,rfl,rfl,rfl,rfl,rfl,by simp[fillN],by simp[fillN]⟩
 | k+1=>by
  obtain⟨i0,i1,i2,i3,i4,i5,i6,i7,i8,i9,i10,i11⟩:=Z5F w hw k
  obtain⟨l,n,e,e1,e2,e3,e4⟩:=ZjF (fillN w k) (w.old.getD k default)
  have:fillN w (k+1)=_:=e
  rw[this]
  have hl:=i0.wl
  exact⟨⟨e2 i0.words,by simp only;omega,i0.pl,i0.ol,i0.o,i0.tl,i0.ql⟩,i1,i2,i3,i4,i5,i6,i7,i8,i9,by simp only;omega,by simp only;omega⟩
section
variable (w:Work) (hw:FOk w) (hr:w.rep.filled=0)
include hw hr
theorem ZjK:CSpec Tryz.prog (blkF Tryz.f152 0) (Tg.st ⟨tm 84 [(1,.pt 8001 0 0),(2,.pt 8002 0 0),(3,int 0)],[(8002,.box 100 [int 0,int 0,.d (.sl 0 []),.d (.sl 0 []),int 0,int 0,.d (.sl 0 []),.d (.sl 0 []),.d (.sl 0 []),int 0,int 0,int 0,int 0,int 0,int 0,int 0]),(8001,.box 100 w.cells)],60⟩) .nrm (Tg.st ⟨tm 84 [(1,.pt 8001 0 0),(2,.pt 8002 0 0)],[(8002,.box 100 [int 0,int 0,.d (.sl 0 []),.d (.sl 0 []),int 0,int 0,.d (.sl 0 []),.d (.sl 0 []),.d (.sl 0 []),int 0,int 0,int 0,int 0,int 0,int 0,int 0]),(8001,.box 100 (fillN w w.old.length).cells)],60⟩):=by
 have hol:=hw.ol
 refine Z0b (S:=fun k=>(Zig (fillN w k) k).st) w.old.length (by kernel_rfl) (fun k hk=>?_) ?_
 ·have h:=Z5F w hw k
  have:=Zhc (fillN w k) k h.1 (by rw[h.2.2.2.2.2.1];exact hk) (by omega)
  rw[h.2.2.2.2.2.1]at this
  exact this
 ·have h:=Z5F w hw w.old.length
  have:=Zlc (fillN w w.old.length)
  rw[h.2.2.2.2.2.1]at this
  exact this
theorem Zbe:GSpec Tryz.prog 152 [w.av] false (fillN w w.old.length).av []:=by
 exact gF [] Tryz.func152 [] (Fu (@ZjK w ‹_› ‹_›) Fz)
end
def Z6m(s:Int)(p:Page):Prop:=p.kind≠0∧p.space=s
instance (s:Int) (p:Page):Decidable (Z6m s p):=by unfold Z6m;infer_instance
def Z2l(s:Int)(p:Page):Page:=if Z6m s p then⟨0,0,0,0⟩else p
def Z2x(pw s:Int)(l:List Page)(ws:List Int):Nat→List Int
 | 0=>ws
 | i+1=>if Z6m s (l.getD i default)then spl (Z2x pw s l ws i) (i*pw.toNat) (List.replicate pw.toNat 0)else Z2x pw s l ws i
def Z47(n s:Int)(l:List Page):Nat→Int
 | 0=>n
 | i+1=>if Z6m s (l.getD i default)then Z47 n s l i+1 else Z47 n s l i
def ZeU(w:Work)(ps:List Page)(ws:List Int)(n:Int)(i:Nat):Tg:=⟨tm 78 [(1,.pt 8001 0 0),(2,.pt 8002 0 0),(3,int i)],[(8001,.box 100 [int w.heap.conf.pw,int w.heap.conf.pg,.ow 24017,.ow 16010,int w.heap.space,int w.heap.bump,Z01 w.old,Z0E w.taken,Z01 w.queue,int w.scanned,int w.rep.copied,int w.rep.kept,int w.rep.filled,int n,int w.rep.cleared,int w.rep.steps]),(24017,.arr 56 1 (ws.map wdv)),(16010,.arr 134 4 (ps.map Page.dv)),(8002,.box 100 [int 0,int 0,.d (.sl 0 []),.d (.sl 0 []),int 0,int 0,.d (.sl 0 []),.d (.sl 0 []),.d (.sl 0 []),int 0,int 0,int 0,int 0,int 0,int 0,int 0])],60⟩
theorem Zjc(w:Work)(ps:List Page)(ws:List Int)(n:Int)(i:Nat)(hl:ps.length≤64)(hi:i<ps.length)(hb:¬ Z6m w.heap.space (ps.getD i default)):CSpec Tryz.prog (rndF Tryz.f151 0) (ZeU w ps ws n i).st .nrm (ZeU w ps ws n (i+1)).st:=by
 unfold Z6m at hb
 have hb':¬ ((ps.getD (i:Int).toNat default).kind≠0∧(ps.getD (i:Int).toNat default).space=w.heap.space):=hb
 exact sF [] [] (Fl 24 Page.dv ps (Ftb 25 (decide ((↑i:Int)<(↑ps.length:Int))) (Fm 33 Page.dv ps (↑i) ((↑i:Int).toNat) (Ftb 44 ((ps.getD (↑i:Int).toNat default).kind==0||(ps.getD (↑i:Int).toNat default).space != w.heap.space) (Fx 27 i Fz)))))
def Zg8(w:Work)(ps:List Page)(ws:List Int)(n:Int)(i k:Nat):Tg:=⟨tm 78 [(1,.pt 8001 0 0),(2,.pt 8002 0 0),(3,int i),(5,int k)],[(8001,.box 100 [int w.heap.conf.pw,int w.heap.conf.pg,.ow 24017,.ow 16010,int w.heap.space,int w.heap.bump,Z01 w.old,Z0E w.taken,Z01 w.queue,int w.scanned,int w.rep.copied,int w.rep.kept,int w.rep.filled,int n,int w.rep.cleared,int w.rep.steps]),(16010,.arr 134 4 (ps.map Page.dv)),(24017,.arr 56 1 ((wr ws (List.replicate w.heap.conf.pw.toNat 0) (i*w.heap.conf.pw.toNat) k).map wdv)),(8002,.box 100 [int 0,int 0,.d (.sl 0 []),.d (.sl 0 []),int 0,int 0,.d (.sl 0 []),.d (.sl 0 []),.d (.sl 0 []),int 0,int 0,int 0,int 0,int 0,int 0,int 0])],64⟩
section
variable (w:Work) (ps:List Page) (ws:List Int) (n:Int) (i k:Nat) (hp:0≤w.heap.conf.pw∧w.heap.conf.pw≤64) (hi:i≤64) (hl:i*w.heap.conf.pw.toNat+w.heap.conf.pw.toNat≤ws.length) (hw:ws.length≤4096)
include hp hi hl hw
theorem ZgP(hk:k<w.heap.conf.pw.toNat):CSpec Tryz.prog (rndF Tryz.f151 2) (Zg8 w ps ws n i k).st .nrm (Zg8 w ps ws n i (k+1)).st:=by
 have hs:=Za9 (ws:=ws) (l:=List.replicate w.heap.conf.pw.toNat 0) (i:=i*w.heap.conf.pw.toNat) (k:=k) (by simpa using hl) (by simpa using hk) (0:Int)
 rw[show(List.replicate w.heap.conf.pw.toNat (0:Int)).getD k 0=0 by simp[List.getD,hk]]at hs
 have hn:=Z4b (ws:=ws) (l:=List.replicate w.heap.conf.pw.toNat (0:Int)) (i:=i*w.heap.conf.pw.toNat) (k:=k) (by simpa using hl) (by simp;omega)
 have em:(i:Int)*w.heap.conf.pw=((i*w.heap.conf.pw.toNat:Nat):Int):=by rw[Int.natCast_mul,Int.toNat_of_nonneg hp.1]
 have ei:(i:Int)*w.heap.conf.pw+k=((i*w.heap.conf.pw.toNat+k:Nat):Int):=by omega
 exact sF [] [false,false,false,false,false,false,true] (Fh 10076 [.els (List.map wdv ((wr ws (List.replicate w.heap.conf.pw.toNat 0) (i*w.heap.conf.pw.toNat) k).set (↑(i*w.heap.conf.pw.toNat+k):Int).toNat 0))] (Ftb 62 (decide ((↑k:Int)<w.heap.conf.pw)) (Fi 73 ((↑i:Int)*w.heap.conf.pw) (Fg 75 (by rw[wrapI' (by omega) (by omega)];omega:IntKind.i64.wrap ((↑i:Int)*w.heap.conf.pw+(↑k:Int))=(↑(i*w.heap.conf.pw.toNat+k):Int)) (Fa (by(simp only[List.length_map];omega):0≤(↑(i*w.heap.conf.pw.toNat+k):Int)∧(↑(i*w.heap.conf.pw.toNat+k):Int).toNat<(List.map wdv (wr ws (List.replicate w.heap.conf.pw.toNat 0) (i*w.heap.conf.pw.toNat) k)).length) (Fa (by(simp only[List.length_map];omega):(↑(i*w.heap.conf.pw.toNat+k):Int).toNat<(List.map wdv (wr ws (List.replicate w.heap.conf.pw.toNat 0) (i*w.heap.conf.pw.toNat) k)).length) (Fa (by simp[List.map_take,List.map_drop,List.map_set,List.map_append,wdv,idv]:(List.map wdv (wr ws (List.replicate w.heap.conf.pw.toNat 0) (i*w.heap.conf.pw.toNat) k)).set (↑(i*w.heap.conf.pw.toNat+k):Int).toNat [du64 0]=List.map wdv ((wr ws (List.replicate w.heap.conf.pw.toNat 0) (i*w.heap.conf.pw.toNat) k).set (↑(i*w.heap.conf.pw.toNat+k):Int).toNat 0)) (Fx 64 k (Fr (56:Int) (Fa (by refine congrArg _ ?_;exact hs:List.map wdv ((wr ws (List.replicate w.heap.conf.pw.toNat 0) (i*w.heap.conf.pw.toNat) k).set (↑(i*w.heap.conf.pw.toNat+k):Int).toNat 0)=List.map wdv (wr ws (List.replicate w.heap.conf.pw.toNat 0) (i*w.heap.conf.pw.toNat) (k+1))) Fz))))))))))
theorem ZkP:CSpec Tryz.prog (rndF Tryz.f151 2) (Zg8 w ps ws n i w.heap.conf.pw.toNat).st (.ext 2) (Tg.st ⟨tm 78 [(1,.pt 8001 0 0),(2,.pt 8002 0 0),(3,int i)],[(8001,.box 100 [int w.heap.conf.pw,int w.heap.conf.pg,.ow 24017,.ow 16010,int w.heap.space,int w.heap.bump,Z01 w.old,Z0E w.taken,Z01 w.queue,int w.scanned,int w.rep.copied,int w.rep.kept,int w.rep.filled,int n,int w.rep.cleared,int w.rep.steps]),(16010,.arr 134 4 (ps.map Page.dv)),(24017,.arr 56 1 ((spl ws (i*w.heap.conf.pw.toNat) (List.replicate w.heap.conf.pw.toNat 0)).map wdv)),(8002,.box 100 [int 0,int 0,.d (.sl 0 []),.d (.sl 0 []),int 0,int 0,.d (.sl 0 []),.d (.sl 0 []),.d (.sl 0 []),int 0,int 0,int 0,int 0,int 0,int 0,int 0])],64⟩):=by
 have hs:=Zbr ws (List.replicate w.heap.conf.pw.toNat (0:Int)) (i*w.heap.conf.pw.toNat)
 rw[List.length_replicate]at hs
 exact sF [] [false,false,false,false,false,true] (Ffb 62 (decide ((↑w.heap.conf.pw.toNat:Int)<w.heap.conf.pw)) (Fr (56:Int) (Fa (by refine congrArg _ ?_;assumption:List.map wdv (wr ws (List.replicate w.heap.conf.pw.toNat 0) (i*w.heap.conf.pw.toNat) w.heap.conf.pw.toNat)=List.map wdv (spl ws (i*w.heap.conf.pw.toNat) (List.replicate w.heap.conf.pw.toNat 0))) Fz)))
theorem ZiT:CSpec Tryz.prog (blkF Tryz.f151 2) (Tg.st ⟨tm 78 [(1,.pt 8001 0 0),(2,.pt 8002 0 0),(3,int i),(5,int 0)],[(8001,.box 100 [int w.heap.conf.pw,int w.heap.conf.pg,.ow 24017,.ow 16010,int w.heap.space,int w.heap.bump,Z01 w.old,Z0E w.taken,Z01 w.queue,int w.scanned,int w.rep.copied,int w.rep.kept,int w.rep.filled,int n,int w.rep.cleared,int w.rep.steps]),(16010,.arr 134 4 (ps.map Page.dv)),(24017,.arr 56 1 (ws.map wdv)),(8002,.box 100 [int 0,int 0,.d (.sl 0 []),.d (.sl 0 []),int 0,int 0,.d (.sl 0 []),.d (.sl 0 []),.d (.sl 0 []),int 0,int 0,int 0,int 0,int 0,int 0,int 0])],64⟩) .nrm (Tg.st ⟨tm 78 [(1,.pt 8001 0 0),(2,.pt 8002 0 0),(3,int i)],[(8001,.box 100 [int w.heap.conf.pw,int w.heap.conf.pg,.ow 24017,.ow 16010,int w.heap.space,int w.heap.bump,Z01 w.old,Z0E w.taken,Z01 w.queue,int w.scanned,int w.rep.copied,int w.rep.kept,int w.rep.filled,int n,int w.rep.cleared,int w.rep.steps]),(16010,.arr 134 4 (ps.map Page.dv)),(24017,.arr 56 1 ((spl ws (i*w.heap.conf.pw.toNat) (List.replicate w.heap.conf.pw.toNat 0)).map wdv)),(8002,.box 100 [int 0,int 0,.d (.sl 0 []),.d (.sl 0 []),int 0,int 0,.d (.sl 0 []),.d (.sl 0 []),.d (.sl 0 []),int 0,int 0,int 0,int 0,int 0,int 0,int 0])],64⟩):=by
 have:=Z0b (S:=fun k=>(Zg8 w ps ws n i k).st) w.heap.conf.pw.toNat (by kernel_rfl) (fun k hk=>ZgP w ps ws n i k hp hi hl hw hk) (ZkP w ps ws n i hp hi hl hw)
 simp only[Zg8,Z7B]at this
 exact this
end
theorem ZiM(w:Work)(ps:List Page)(ws:List Int)(n:Int)(i:Nat)(hl:ps.length≤64)(hi:i<ps.length)(hb:Z6m w.heap.space (ps.getD i default))(hp:0≤w.heap.conf.pw∧w.heap.conf.pw≤64)(hs:i*w.heap.conf.pw.toNat+w.heap.conf.pw.toNat≤ws.length)(hw:ws.length≤4096)(hn:0≤n∧n≤64):CSpec Tryz.prog (rndF Tryz.f151 0) (ZeU w ps ws n i).st .nrm (ZeU w (ps.set i ⟨0,0,0,0⟩) (spl ws (i*w.heap.conf.pw.toNat) (List.replicate w.heap.conf.pw.toNat 0)) (n+1) (i+1)).st:=by
 unfold Z6m at hb
 have hb':(ps.getD (i:Int).toNat default).kind≠0∧(ps.getD (i:Int).toNat default).space=w.heap.space:=hb
 exact sF [] [] (Fh 10050 [.els (List.map Page.dv (ps.set (↑i:Int).toNat (Page.mk 0 0 0 0)))] (Fl 24 Page.dv ps (Ftb 25 (decide ((↑i:Int)<(↑ps.length:Int))) (Fm 33 Page.dv ps (↑i) ((↑i:Int).toNat) (Ffb 44 ((ps.getD (↑i:Int).toNat default).kind==0||(ps.getD (↑i:Int).toNat default).space != w.heap.space) (Fa (by(simp only[List.length_map];omega):0≤(↑i:Int)∧(↑i:Int).toNat<(List.map Page.dv ps).length) (Fa (by(simp only[List.length_map];omega):(↑i:Int).toNat<(List.map Page.dv ps).length) (Fa (by rw[List.map_set];rfl:(List.map Page.dv ps).set (↑i:Int).toNat [dint 0,dint 0,dint 0,dint 0]=List.map Page.dv (ps.set (↑i:Int).toNat (Page.mk 0 0 0 0))) (Fi 54 (n+1) (Fu (@ZiT w (ps.set (↑i:Int).toNat (Page.mk 0 0 0 0)) ws (n+1) i ‹_› (by omega) ‹_› ‹_›) (Fx 27 i Fz)))))))))))
theorem Z4S{pw s:Int}{l:List Page}{ws:List Int}(h:l.length*pw.toNat≤ws.length):∀ i,i≤l.length→(Z2x pw s l ws i).length=ws.length
 | 0,_=>rfl
 | i+1,hi=>by
  have ih:=Z4S (s:=s) h i (by omega)
  have hm:(i+1)*pw.toNat≤l.length*pw.toNat:=Nat.mul_le_mul_right _ hi
  rw[Nat.add_mul,Nat.one_mul]at hm
  unfold Z2x
  split
  ·rw[Z4G (by simp;omega),ih]
  ·exact ih
theorem Z5q(n s:Int)(l:List Page):∀ i:Nat,n≤Z47 n s l i∧Z47 n s l i≤n+i
 | 0=>by simp[Z47]
 | i+1=>by
  have ih:=Z5q n s l i
  unfold Z47
  split<;>omega
def Z16(w:Work):Work:=⟨⟨w.heap.conf,Z2x w.heap.conf.pw w.heap.space w.heap.pages w.heap.words w.heap.pages.length,w.heap.pages.map (Z2l w.heap.space),w.heap.space,w.heap.bump⟩,w.old,w.taken,w.queue,w.scanned,⟨w.rep.copied,w.rep.kept,w.rep.filled,Z47 w.rep.freed w.heap.space w.heap.pages w.heap.pages.length,w.rep.cleared,w.rep.steps⟩⟩
theorem Zky(w:Work)(ps:List Page)(ws:List Int)(n:Int):CSpec Tryz.prog (rndF Tryz.f151 0) (ZeU w ps ws n ps.length).st (.ext 0) (Tg.st ⟨tm 78 [(1,.pt 8001 0 0),(2,.pt 8002 0 0)],[(8001,.box 100 [int w.heap.conf.pw,int w.heap.conf.pg,.ow 24017,.ow 16010,int w.heap.space,int w.heap.bump,Z01 w.old,Z0E w.taken,Z01 w.queue,int w.scanned,int w.rep.copied,int w.rep.kept,int w.rep.filled,int n,int w.rep.cleared,int w.rep.steps]),(24017,.arr 56 1 (ws.map wdv)),(16010,.arr 134 4 (ps.map Page.dv)),(8002,.box 100 [int 0,int 0,.d (.sl 0 []),.d (.sl 0 []),int 0,int 0,.d (.sl 0 []),.d (.sl 0 []),.d (.sl 0 []),int 0,int 0,int 0,int 0,int 0,int 0,int 0])],60⟩):=by
 exact sF [] [] (Fl 24 Page.dv ps (Ffb 25 (decide ((↑ps.length:Int)<(↑ps.length:Int))) Fz))
section
variable (w:Work) (hl:w.heap.pages.length≤64) (hp:0≤w.heap.conf.pw∧w.heap.conf.pw≤64) (hs:w.heap.pages.length*w.heap.conf.pw.toNat≤w.heap.words.length) (hw:w.heap.words.length≤4096) (hr:w.rep.freed=0)
include hl hp hs hw hr
theorem ZjA:CSpec Tryz.prog (blkF Tryz.f151 0) (Tg.st ⟨tm 78 [(1,.pt 8001 0 0),(2,.pt 8002 0 0),(3,int 0)],[(8001,.box 100 [int w.heap.conf.pw,int w.heap.conf.pg,.ow 24017,.ow 16010,int w.heap.space,int w.heap.bump,Z01 w.old,Z0E w.taken,Z01 w.queue,int w.scanned,int w.rep.copied,int w.rep.kept,int w.rep.filled,int w.rep.freed,int w.rep.cleared,int w.rep.steps]),(24017,.arr 56 1 (w.heap.words.map wdv)),(16010,.arr 134 4 (w.heap.pages.map Page.dv)),(8002,.box 100 [int 0,int 0,.d (.sl 0 []),.d (.sl 0 []),int 0,int 0,.d (.sl 0 []),.d (.sl 0 []),.d (.sl 0 []),int 0,int 0,int 0,int 0,int 0,int 0,int 0])],60⟩) .nrm (Tg.st ⟨tm 78 [(1,.pt 8001 0 0),(2,.pt 8002 0 0)],[(8001,.box 100 [int w.heap.conf.pw,int w.heap.conf.pg,.ow 24017,.ow 16010,int w.heap.space,int w.heap.bump,Z01 w.old,Z0E w.taken,Z01 w.queue,int w.scanned,int w.rep.copied,int w.rep.kept,int w.rep.filled,int (Z47 w.rep.freed w.heap.space w.heap.pages w.heap.pages.length),int w.rep.cleared,int w.rep.steps]),(24017,.arr 56 1 ((Z2x w.heap.conf.pw w.heap.space w.heap.pages w.heap.words w.heap.pages.length).map wdv)),(16010,.arr 134 4 ((w.heap.pages.map (Z2l w.heap.space)).map Page.dv)),(8002,.box 100 [int 0,int 0,.d (.sl 0 []),.d (.sl 0 []),int 0,int 0,.d (.sl 0 []),.d (.sl 0 []),.d (.sl 0 []),int 0,int 0,int 0,int 0,int 0,int 0,int 0])],60⟩):=by
 refine Z0b (S:=fun k=>(ZeU w (preM (Z2l w.heap.space) w.heap.pages k) (Z2x w.heap.conf.pw w.heap.space w.heap.pages w.heap.words k) (Z47 w.rep.freed w.heap.space w.heap.pages k) k).st) w.heap.pages.length (by kernel_rfl) (fun k hk=>?_) ?_
 ·have h1:=Z3l (Z2l w.heap.space) w.heap.pages k
  have h2:=Z73 (Z2l w.heap.space) w.heap.pages (Nat.le_refl k) default
  have h3:=Z4S (s:=w.heap.space) hs k (by omega)
  have h4:=Z5q w.rep.freed w.heap.space w.heap.pages k
  by_cases hb:Z6m w.heap.space (w.heap.pages.getD k default)
  ·have e1:=Z63 (Z2l w.heap.space) w.heap.pages hk default
   have e2:Z2x w.heap.conf.pw w.heap.space w.heap.pages w.heap.words (k+1)=spl (Z2x w.heap.conf.pw w.heap.space w.heap.pages w.heap.words k) (k*w.heap.conf.pw.toNat) (List.replicate w.heap.conf.pw.toNat 0):=by rw[Z2x,if_pos hb]
   have e3:Z47 w.rep.freed w.heap.space w.heap.pages (k+1)=Z47 w.rep.freed w.heap.space w.heap.pages k+1:=by rw[Z47,if_pos hb]
   rw[Z2l,if_pos hb]at e1
   rw[← e1,e2,e3]
   have hm:(k+1)*w.heap.conf.pw.toNat≤w.heap.pages.length*w.heap.conf.pw.toNat:=Nat.mul_le_mul_right _ hk
   rw[Nat.add_mul,Nat.one_mul]at hm
   exact ZiM w _ _ _ k (by omega) (by omega) (by rw[h2];exact hb) hp (by omega) (by omega) (by omega)
  ·have e1:=Z7f (Z2l w.heap.space) w.heap.pages hk default (by rw[Z2l,if_neg hb])
   have e2:Z2x w.heap.conf.pw w.heap.space w.heap.pages w.heap.words (k+1)=Z2x w.heap.conf.pw w.heap.space w.heap.pages w.heap.words k:=by rw[Z2x,if_neg hb]
   have e3:Z47 w.rep.freed w.heap.space w.heap.pages (k+1)=Z47 w.rep.freed w.heap.space w.heap.pages k:=by rw[Z47,if_neg hb]
   rw[← e1,e2,e3]
   exact Zjc w _ _ _ k (by omega) (by omega) (by rw[h2];exact hb)
 ·have h:=Zky w (preM (Z2l w.heap.space) w.heap.pages w.heap.pages.length) (Z2x w.heap.conf.pw w.heap.space w.heap.pages w.heap.words w.heap.pages.length) (Z47 w.rep.freed w.heap.space w.heap.pages w.heap.pages.length)
  rw[Z3l,Z75]at h
  simp only[Z75]
  exact h
theorem Zbc:GSpec Tryz.prog 151 [w.av] false (Z16 w).av []:=by
 have h1:=Z4S (s:=w.heap.space) hs w.heap.pages.length (Nat.le_refl _)
 have h2:=Z5q w.rep.freed w.heap.space w.heap.pages w.heap.pages.length
 exact gF [] Tryz.func151 [] (Fs 6 (List.map Page.dv []) (Fa (by(simp[Z16, *];omega):(List.map Page.dv []).length+(List.map Page.dv w.heap.pages).length≤2^30) (Fs 10 (List.map Page.dv w.heap.pages) (Fs 13 (List.map wdv []) (Fa (by(simp[Z16, *];omega):(List.map wdv []).length+(List.map wdv w.heap.words).length≤2^30) (Fs 17 (List.map wdv w.heap.words) (Fu (@ZjA w ‹_› ‹_› ‹_› ‹_› ‹_›) Fz)))))))
end
def rep0:Rep:=⟨0,0,0,0,0,0⟩
theorem Z4f{h:Heap}{l:List Int}(e:Z0n h l=true):Z0e h=⟨0,0,0⟩:=by
 simp only[Z0n,Bool.and_eq_true,decide_eq_true_eq]at e
 exact e.1
section
variable (h:Heap) (s k:List Int) (hw:WOk h.words) (hs:s.length≤1048575) (hk:k.length≤1048575) (hs2:ULe s) (hk2:ULe k)
include hw hs hk hs2 hk2
theorem ZjL(hp:Z02 h=false):GSpec Tryz.prog 69 [h.av,Z01 s,Z01 k] false (.tu [noHeap.av,Z01 [],Z01 [],.ag rep0.cells,int 1]) []:=by
 exact gF [] Tryz.func69 [] (Fc 20 (@Z0l h) (Ftb 21 (!Z02 h) (Fnl (Fnl (Fnl (Fnl Fz))))))
theorem ZjI(hp:Z02 h=true)(hr:Z0n h s=false∨Z0n h k=false):GSpec Tryz.prog 69 [h.av,Z01 s,Z01 k] false (.tu [noHeap.av,Z01 [],Z01 [],.ag rep0.cells,int 19]) []:=by
 by_cases h1:Z0n h s=false
 ·exact gF [] Tryz.func69 [] (Fc 20 (@Z0l h) (Ffb 21 (!Z02 h) (Fc 26 (@Z1E h s ‹_› (by omega)) (FcG 31 (!!Z0n h s) (fun hg=>by(try simp only[bs]at hg);exact @Zc7 h k (by(try simp only[bs]at hg);assumption) (by(try simp only[bs]at hg);grind[noHeap,rep0])) (Ft 33 (by simp only[bs, *,true_or,or_true,true_and,and_true,not_true_eq_false,not_false_eq_true,Bool.true_eq_false,Bool.false_eq_true]:(!Z0n h s||true)=true) (Fnl (Fnl (Fnl (Fnl Fz)))))))))
 ·have h2:Z0n h k=false:=by
   rcases hr with hr | hr
   ·exact absurd hr h1
   ·exact hr
  exact gF [] Tryz.func69 [] (Fc 20 (@Z0l h) (Ffb 21 (!Z02 h) (Fc 26 (@Z1E h s ‹_› (by omega)) (FcG 31 (!!Z0n h s) (fun hg=>by(try simp only[bs]at hg);exact @Z1E h k (by(try simp only[bs]at hg);assumption) (by(try simp only[bs]at hg);omega)) (Ftb 33 (!Z0n h s||!Z0n h k) (Fnl (Fnl (Fnl (Fnl Fz)))))))))
theorem ZiE(hp:Z02 h=true)(hr:Z0n h s=true)(hr':Z0n h k=true)(e:¬ (rootsF (beginW h) s).2.2=0):GSpec Tryz.prog 69 [h.av,Z01 s,Z01 k] false (.tu [noHeap.av,Z01 [],Z01 [],.ag rep0.cells,int (rootsF (beginW h) s).2.2]) []:=by
 have hb:=Z4V hw hp
 have hg:=Z4f hr
 exact gF [] Tryz.func69 [] (Fc 20 (@Z0l h) (Ffb 21 (!Z02 h) (Fc 26 (@Z1E h s ‹_› (by omega)) (FcG 31 (!!Z0n h s) (fun hg=>by(try simp only[bs]at hg);exact @Z1E h k (by(try simp only[bs]at hg);assumption) (by(try simp only[bs]at hg);omega)) (Ff 33 (by simp only[bs, *,true_or,or_true,true_and,and_true,not_true_eq_false,not_false_eq_true,Bool.true_eq_false,Bool.false_eq_true]:(!Z0n h s||!Z0n h k)=false) (Fc 38 (@Z42 h ‹_› ‹_› ‹_›) (Fc 44 (@Z4Q (beginW h) s ‹_› ‹_› ‹_›) (Ftb 49 ((rootsF (beginW h) s).snd.snd != 0) (Fnl (Fnl (Fnl (Fnl Fz))))))))))))
theorem Zip(hp:Z02 h=true)(hr:Z0n h s=true)(hr':Z0n h k=true)(e:(rootsF (beginW h) s).2.2=0)(e2:¬ (allF (rootsF (beginW h) s).1).2=0):GSpec Tryz.prog 69 [h.av,Z01 s,Z01 k] false (.tu [noHeap.av,Z01 [],Z01 [],.ag rep0.cells,int (allF (rootsF (beginW h) s).1).2]) []:=by
 have hb:=Z4V hw hp
 have hi:=Z4C hp
 have hg:=Z4f hr
 have ho:=Z4F (roots:=s) hb hi e
 have ho1:=ho.1
 exact gF [] Tryz.func69 [] (Fc 20 (@Z0l h) (Ffb 21 (!Z02 h) (Fc 26 (@Z1E h s ‹_› (by omega)) (FcG 31 (!!Z0n h s) (fun hg=>by(try simp only[bs]at hg);exact @Z1E h k (by(try simp only[bs]at hg);assumption) (by(try simp only[bs]at hg);omega)) (Ff 33 (by simp only[bs, *,true_or,or_true,true_and,and_true,not_true_eq_false,not_false_eq_true,Bool.true_eq_false,Bool.false_eq_true]:(!Z0n h s||!Z0n h k)=false) (Fc 38 (@Z42 h ‹_› ‹_› ‹_›) (Fc 44 (@Z4Q (beginW h) s ‹_› ‹_› ‹_›) (Ffb 49 ((rootsF (beginW h) s).snd.snd != 0) (Fc 55 (@Z9R ((rootsF (beginW h) s).fst) ‹_›) (Ftb 59 ((allF (rootsF (beginW h) s).fst).snd != 0) (Fnl (Fnl (Fnl (Fnl Fz))))))))))))))
end
def Z7n(w:Work)(x:Int):Int:=if x=0 then 0 else Z1s w x
def Z8r(w:Work)(x:Int):Work:=⟨w.heap,w.old,w.taken,w.queue,w.scanned,⟨w.rep.copied,w.rep.kept,w.rep.filled,w.rep.freed,if x≠0∧Z1s w x=0 then w.rep.cleared+1 else w.rep.cleared,w.rep.steps⟩⟩
def weakS(w:Work)(k:List Int):Nat→Work
 | 0=>w
 | i+1=>Z8r (weakS w k i) (k.getD i default)
def Z3S(w:Work)(k:List Int):Nat→List Int
 | 0=>[]
 | i+1=>Z3S w k i++[Z7n (weakS w k i) (k.getD i default)]
theorem Z6U(w:Work)(k:List Int):∀ i,(weakS w k i).heap=w.heap∧(weakS w k i).old=w.old∧(weakS w k i).taken=w.taken∧(weakS w k i).queue=w.queue∧(weakS w k i).rep.filled=w.rep.filled∧(weakS w k i).rep.freed=w.rep.freed∧w.rep.cleared≤(weakS w k i).rep.cleared∧(weakS w k i).rep.cleared≤w.rep.cleared+i
 | 0=>⟨rfl,rfl,rfl,rfl,rfl,rfl,by simp[weakS],by simp[weakS]⟩
 | i+1=>by
  obtain⟨h1,h2,h3,h4,h5,h6,h7,h8⟩:=Z6U w k i
  refine⟨h1,h2,h3,h4,h5,h6, ?_, ?_⟩
  ·simp only[weakS,Z8r];split<;>omega
  ·simp only[weakS,Z8r];split<;>omega
theorem Z8d(w:Work)(k:List Int):∀ i,(Z3S w k i).length=i
 | 0=>rfl
 | i+1=>by simp[Z3S,Z8d w k i]
def Zi7(w:Work)(k roots out:List Int)(i:Nat):Tg:=⟨tm 122 [(2,Z01 k),(6,.pt 8006 0 0),(7,.d (.sl 0 [])),(8,.d (.sl 0 [])),(9,.pt 8009 0 0),(10,int 0),(11,.pt 32011 0 0),(13,Z01 roots),(15,.ow 72015),(16,int i)],[(72015,.arr 56 1 (out.map wdv)),(32011,.box 100 w.cells),(8009,.box 95 [int 0,int 0,int 0,int 0,int 0,int 0]),(8006,.box 28 [int 0,int 0,.d (.sl 0 []),.d (.sl 0 []),int 0,int 0])],60⟩
section
variable (w:Work) (k roots out:List Int) (i:Nat) (hw:WOk w.heap.words) (hl:w.heap.words.length≤4096) (hq:w.queue.length≤1048576) (hk:k.length≤1048575) (hx:0≤k.getD i default∧k.getD i default≤18446744073709551615) (ho:out.length≤1048576) (hi:i<k.length) (hc:0≤w.rep.cleared∧w.rep.cleared≤2097152)
include hw hl hq hk hx ho hi hc
theorem ZgF:CSpec Tryz.prog (rndF Tryz.f69 0) (Zi7 w k roots out i).st .nrm (Zi7 (Z8r w (k.getD i default)) k roots (out++[Z7n w (k.getD i default)]) (i+1)).st:=by
 by_cases h0:k.getD i default=0
 ·have e1:Z7n w (k.getD i default)=0:=by rw[Z7n,if_pos h0]
  have e2:Z8r w (k.getD i default)=w:=by rw[Z8r,if_neg (by rintro⟨q,_⟩;exact q h0)]
  rw[e1,e2]
  exact sF [(504091,72015)] [] (Fh 91 [.els (List.map wdv (out++[0]))] (Fl 65 wdv k (Ftb 66 (decide ((↑i:Int)<(↑k.length:Int))) (Fek 71 wdv k (↑i) i (Ffb 73 (k.getD i default != 0) (Fs 90 (List.map wdv [0]) (Fa (by(simp[*];omega):(List.map wdv out).length+(List.map wdv [0]).length≤2^30) (Fa (by simp[List.map_take,List.map_drop,List.map_set,List.map_append,wdv,idv]:List.map wdv out++List.map wdv [0]=List.map wdv (out++[0])) (Fx 68 i Fz)))))))))
 ·have e1:Z7n w (k.getD i default)=Z1s w (k.getD i default):=by rw[Z7n,if_neg h0]
  rw[e1]
  by_cases h2:Z1s w (k.getD i default)=0
  ·have e2:Z8r w (k.getD i default)=⟨w.heap,w.old,w.taken,w.queue,w.scanned,⟨w.rep.copied,w.rep.kept,w.rep.filled,w.rep.freed,w.rep.cleared+1,w.rep.steps⟩⟩:=by rw[Z8r,if_pos ⟨h0,h2⟩]
   rw[e2]
   exact sF [(528091,72015)] [] (Fh 91 [.els (List.map wdv (out++[Z1s w (k.getD i default)]))] (Fl 65 wdv k (Ftb 66 (decide ((↑i:Int)<(↑k.length:Int))) (Fek 71 wdv k (↑i) i (Ftb 73 (k.getD i default != 0) (Fek 77 wdv k (↑i) i (Fc 79 (@Z9b w (k.getD i default) ‹_› ‹_› ‹_› ‹_›) (Ftb 81 (Z1s w (k.getD i default)==0) (Fi 85 (w.rep.cleared+1) (Fs 90 (List.map wdv [Z1s w (k.getD i default)]) (Fa (by(simp[*];omega):(List.map wdv out).length+(List.map wdv [Z1s w (k.getD i default)]).length≤2^30) (Fa (by simp[List.map_take,List.map_drop,List.map_set,List.map_append,wdv,idv]:List.map wdv out++List.map wdv [Z1s w (k.getD i default)]=List.map wdv (out++[Z1s w (k.getD i default)])) (Fx 68 i Fz)))))))))))))
  ·have e2:Z8r w (k.getD i default)=w:=by rw[Z8r,if_neg (by rintro⟨_,q⟩;exact h2 q)]
   rw[e2]
   exact sF [(520091,72015)] [] (Fh 91 [.els (List.map wdv (out++[Z1s w (k.getD i default)]))] (Fl 65 wdv k (Ftb 66 (decide ((↑i:Int)<(↑k.length:Int))) (Fek 71 wdv k (↑i) i (Ftb 73 (k.getD i default != 0) (Fek 77 wdv k (↑i) i (Fc 79 (@Z9b w (k.getD i default) ‹_› ‹_› ‹_› ‹_›) (Ffb 81 (Z1s w (k.getD i default)==0) (Fs 90 (List.map wdv [Z1s w (k.getD i default)]) (Fa (by(simp[*];omega):(List.map wdv out).length+(List.map wdv [Z1s w (k.getD i default)]).length≤2^30) (Fa (by simp[List.map_take,List.map_drop,List.map_set,List.map_append,wdv,idv]:List.map wdv out++List.map wdv [Z1s w (k.getD i default)]=List.map wdv (out++[Z1s w (k.getD i default)])) (Fx 68 i Fz))))))))))))
end
theorem Zl1(w:Work)(k roots out:List Int):CSpec Tryz.prog (rndF Tryz.f69 0) (Zi7 w k roots out k.length).st (.ext 0) (Tg.st ⟨tm 122 [(6,.pt 8006 0 0),(7,.d (.sl 0 [])),(8,.d (.sl 0 [])),(9,.pt 8009 0 0),(10,int 0),(11,.pt 32011 0 0),(13,Z01 roots),(15,.ow 72015)],[(72015,.arr 56 1 (out.map wdv)),(32011,.box 100 w.cells),(8009,.box 95 [int 0,int 0,int 0,int 0,int 0,int 0]),(8006,.box 28 [int 0,int 0,.d (.sl 0 []),.d (.sl 0 []),int 0,int 0])],60⟩):=by
 exact sF [] [] (Fl 65 wdv k (Ffb 66 (decide ((↑k.length:Int)<(↑k.length:Int))) Fz))
theorem Zdp(w:Work)(k roots:List Int)(hw:WOk w.heap.words)(hl:w.heap.words.length≤4096)(hq:w.queue.length≤1048576)(hk:k.length≤1048575)(hx:ULe k)(hc:w.rep.cleared=0):CSpec Tryz.prog (blkF Tryz.f69 0) (Tg.st ⟨tm 122 [(2,Z01 k),(6,.pt 8006 0 0),(7,.d (.sl 0 [])),(8,.d (.sl 0 [])),(9,.pt 8009 0 0),(10,int 0),(11,.pt 32011 0 0),(13,Z01 roots),(15,.ow 72015),(16,int 0)],[(72015,.arr 56 1 []),(32011,.box 100 w.cells),(8009,.box 95 [int 0,int 0,int 0,int 0,int 0,int 0]),(8006,.box 28 [int 0,int 0,.d (.sl 0 []),.d (.sl 0 []),int 0,int 0])],60⟩) .nrm (Tg.st ⟨tm 122 [(6,.pt 8006 0 0),(7,.d (.sl 0 [])),(8,.d (.sl 0 [])),(9,.pt 8009 0 0),(10,int 0),(11,.pt 32011 0 0),(13,Z01 roots),(15,.ow 72015)],[(72015,.arr 56 1 ((Z3S w k k.length).map wdv)),(32011,.box 100 (weakS w k k.length).cells),(8009,.box 95 [int 0,int 0,int 0,int 0,int 0,int 0]),(8006,.box 28 [int 0,int 0,.d (.sl 0 []),.d (.sl 0 []),int 0,int 0])],60⟩):=by
 refine Z0b (S:=fun i=>(Zi7 (weakS w k i) k roots (Z3S w k i) i).st) k.length (by kernel_rfl) (fun i hi=>?_) (Zl1 _ k roots _)
 have h:=Z6U w k i
 exact ZgF _ k roots _ i (by rw[h.1];exact hw) (by rw[h.1];exact hl) (by rw[h.2.2.2.1];exact hq) hk (Z40 hx i) (by rw[Z8d];omega) hi (by omega)
abbrev cB(h:Heap)(s k:List Int):Work:=weakS (allF (rootsF (beginW h) s).fst).fst k k.length
abbrev cA(h:Heap)(s k:List Int):Work:=fillN (cB h s k) (cB h s k).old.length
theorem Zdi{n:Int}(h:0≤n∧n≤255):(decodeH (1+16*n)).1.length=n:=by
 have e:Z27 (1+16*n)=⟨0,n,0⟩:=by
  simp only[Z27,Header.mk.injEq]
  omega
 have he:=Z77 h
 unfold decodeH
 rw[e,he]
 simp
theorem Zht{w:Work}(h:Inv w){x:Int}(hx:x∈w.old):Inv (Z6R w x):=by
 unfold Z6R
 split
 ·rename_i hc
  have hr:=h.r x (List.mem_append_left _ hx)
  have hh:=Z1Z w.heap.words x
  have hl:(objW ⟨0,(hdW w x).length,0⟩).length=(hlA w.heap.words x+1).toNat:=by
   show(objW ⟨0,hlA w.heap.words x,0⟩).length=_
   simp[objW];omega
  have hin:4096≤x∧x-4096+(objW ⟨0,(hdW w x).length,0⟩).length≤w.heap.words.length:=by omega
  have hlen:(Z0w w.heap.words x (objW ⟨0,(hdW w x).length,0⟩)).1.length=w.heap.words.length:=by
   unfold Z0w
   rw[if_pos hin]
   exact Z4G (by omega)
  have:=h.withWords hlen (fun a ha=>?_)
  ·exact⟨this.L,this.r,this.s,this.f,this.z⟩
  ·by_cases he:a=x
   ·subst he
    have:hlA (Z0w w.heap.words a (objW ⟨0,(hdW w a).length,0⟩)).1 a=hlA w.heap.words a:=by
     have e1:=Z3V (b:=a) hin (by omega)
     unfold hlA at *
     rw[e1]
     have e2:(objW ⟨0,(hdW w a).length,0⟩).getD (a-a).toNat 0=1+16*(decodeH (loadA w.heap.words a).1).1.length:=by
      rw[Int.sub_self]
      show(Z0c ⟨0,(hdW w a).length,0⟩).1=_
      rw[Z77 (show 0≤(hdW w a).length∧(hdW w a).length≤255 from hh)]
      rfl
     rw[e2]
     exact Zdi hh
    omega
   ·have s1:=h.s a ha x (List.mem_append_left _ hx)
    have s2:=h.s x (List.mem_append_left _ hx) a ha
    have ha0:=Z1Z w.heap.words a
    have:hlA (Z0w w.heap.words x (objW ⟨0,(hdW w x).length,0⟩)).1 a=hlA w.heap.words a:=by
     have e1:=Z3p (b:=a) hin (by
      rcases Int.lt_or_lt_of_ne he with q | q
      ·exact Or.inl q
      ·have:=s2 q;exact Or.inr (by omega))
     unfold hlA
     rw[e1]
    omega
 ·exact h
theorem ZaP{w:Work}(hw:FOk w)(h:Inv w):∀ k,k≤w.old.length→Inv (fillN w k)
 | 0,_=>h
 | k+1,hk=>Zht (ZaP hw h k (by omega)) (by rw[(Z5F w hw k).2.2.2.2.2.1];exact getD_mem_iff.2 ⟨k,by omega,rfl⟩)
theorem Zbh{w:Work}(h:Inv w)(k:List Int):∀ i,Inv (weakS w k i)
 | 0=>h
 | i+1=>by
  have ih:=Zbh h k i
  exact⟨ih.L,ih.r,ih.s,ih.f,ih.z⟩
theorem ZbD{w:Work}(h:FOk w)(k:List Int):∀ i,FOk (weakS w k i)
 | 0=>h
 | i+1=>by
  have ih:=ZbD h k i
  exact⟨ih.words,ih.wl,ih.pl,ih.ol,ih.o,ih.tl,ih.ql⟩
def cW2(h:Heap)(s:List Int):Work:=(allF (rootsF (beginW h) s).1).1
def cW3(h:Heap)(s k:List Int):Work:=weakS (cW2 h s) k k.length
def cW4(h:Heap)(s k:List Int):Work:=fillN (cW3 h s k) (cW3 h s k).old.length
def cW5(h:Heap)(s k:List Int):Work:=Z16 (cW4 h s k)
def endH(w:Work):Heap:=⟨w.heap.conf,w.heap.words,w.heap.pages,1-w.heap.space,if 0<w.taken.length then Z1b w else -1⟩
structure COk (h:Heap) (s k:List Int):Prop where
 w2:WkOk (cW2 h s)
 i2:Inv (cW2 h s)
 x2:Ext (beginW h) (cW2 h s)
 f3:FOk (cW3 h s k)
 i3:Inv (cW3 h s k)
 r3:(cW3 h s k).rep.filled=0∧(cW3 h s k).rep.freed=0
 f4:FOk (cW4 h s k)
 i4:Inv (cW4 h s k)
 h4:(cW4 h s k).heap.conf=h.conf∧(cW4 h s k).heap.pages=(cW2 h s).heap.pages∧(cW4 h s k).heap.space=(cW2 h s).heap.space∧(cW4 h s k).taken=(cW2 h s).taken∧(cW4 h s k).rep.freed=0
section
variable (h:Heap) (s k:List Int) (hw:WOk h.words) (hp:Z02 h=true) (e:(rootsF (beginW h) s).2.2=0) (e2:(allF (rootsF (beginW h) s).1).2=0)
include hw hp e e2
theorem cOk:COk h s k:=by
 have hb:=Z4V hw hp
 have hi:=Z4C hp
 have ho:=Z4F (roots:=s) hb hi e
 have w2:WkOk (cW2 h s):=Zla _ ho.1 e2
 have i2:=Zk2 ho.1 ho.2.1 e2
 have x2:Ext (beginW h) (cW2 h s):=ho.2.2.1.trans i2.2
 have f3:FOk (cW3 h s k):=ZbD w2.fok k _
 have i3:Inv (cW3 h s k):=Zbh i2.1 k _
 obtain⟨a1,a2,a3,a4,a5,a6,a7,a8⟩:=Z6U (cW2 h s) k k.length
 have hr0:=w2.r0
 have r3:(cW3 h s k).rep.filled=0∧(cW3 h s k).rep.freed=0:=⟨a5.trans hr0.1,a6.trans hr0.2.1⟩
 obtain⟨b0,b1,b2,b3,b4,b5,b6,b7,b8,b9,b10,b11⟩:=Z5F (cW3 h s k) f3 (cW3 h s k).old.length
 refine⟨w2,i2.1,x2,f3,i3,r3,b0,ZaP f3 i3 _ (Nat.le_refl _), ?_, ?_, ?_, ?_, ?_⟩
 ·show(fillN (cW3 h s k) (cW3 h s k).old.length).heap.conf=_
  rw[b1]
  show(weakS (cW2 h s) k k.length).heap.conf=_
  rw[a1]
  exact x2.c
 ·show(fillN (cW3 h s k) (cW3 h s k).old.length).heap.pages=_
  rw[b2]
  show(weakS (cW2 h s) k k.length).heap.pages=_
  rw[a1]
 ·show(fillN (cW3 h s k) (cW3 h s k).old.length).heap.space=_
  rw[b3]
  show(weakS (cW2 h s) k k.length).heap.space=_
  rw[a1]
 ·show(fillN (cW3 h s k) (cW3 h s k).old.length).taken=_
  rw[b6]
  exact a3
 ·show(fillN (cW3 h s k) (cW3 h s k).old.length).rep.freed=_
  rw[b8]
  exact r3.2
theorem cOk5:(cW4 h s k).heap.pages.length≤64∧0≤(cW4 h s k).heap.conf.pw∧(cW4 h s k).heap.conf.pw≤64∧(cW4 h s k).heap.pages.length*(cW4 h s k).heap.conf.pw.toNat≤(cW4 h s k).heap.words.length∧(cW4 h s k).heap.words.length≤4096:=by
 have c:=cOk h s k hw hp e e2
 have po:=Z0a hp
 have hL:=c.i4.L
 have hpl:=c.w2.pl
 have hc2:=c.x2.c
 have hc:(cW2 h s).heap.conf=h.conf:=hc2
 rw[hc]at hpl
 rw[c.h4.1]at hL
 have hl4:=c.f4.wl
 rw[c.h4.1,c.h4.2.1]
 refine⟨by omega,by omega,by omega, ?_,hl4⟩
 have:(((cW2 h s).heap.pages.length*h.conf.pw.toNat:Nat):Int)=h.conf.pw*h.conf.pg:=by
  rw[Int.natCast_mul,Int.toNat_of_nonneg (by omega),hpl,Int.mul_comm]
 omega
end
def Z0o(h:Heap)(s k:List Int):Heap×List Int×List Int×Rep×Int :=
 if Z02 h=true then
  (if Z0n h s=true∧Z0n h k=true then
   (if(rootsF (beginW h) s).2.2=0 then
    (if(allF (rootsF (beginW h) s).1).2=0 then(endH (cW5 h s k),(rootsF (beginW h) s).2.1,Z3S (cW2 h s) k k.length,(cW5 h s k).rep,0)
    else(noHeap,[],[],rep0,(allF (rootsF (beginW h) s).1).2))
   else(noHeap,[],[],rep0,(rootsF (beginW h) s).2.2))
  else(noHeap,[],[],rep0,19))
 else(noHeap,[],[],rep0,1)
section
variable (h:Heap) (s k:List Int) (hw:WOk h.words) (hs:s.length≤1048575) (hk:k.length≤1048575) (hs2:ULe s) (hk2:ULe k)
include hw hs hk hs2 hk2
theorem ZjM(hp:Z02 h=true)(hr:Z0n h s=true)(hr':Z0n h k=true)(e:(rootsF (beginW h) s).2.2=0)(e2:(allF (rootsF (beginW h) s).1).2=0):GSpec Tryz.prog 69 [h.av,Z01 s,Z01 k] false (.tu [(endH (cW5 h s k)).av,Z01 (rootsF (beginW h) s).2.1,Z01 (Z3S (cW2 h s) k k.length),.ag (cW5 h s k).rep.cells,int 0]) []:=by
 have hb:=Z4V hw hp
 have hi:=Z4C hp
 have hg:=Z4f hr
 have ho:=Z4F (roots:=s) hb hi e
 have ho1:=ho.1
 have ho4:=ho.2.2.2.2
 have c:=cOk h s k hw hp e e2
 obtain⟨q1,q2,q3,q4,q5⟩:=cOk5 h s k hw hp e e2
 have w2:=c.w2
 have f3:=c.f3
 have r3:=c.r3.1
 obtain⟨g1,g2,g3,g4,g5⟩:=c.h4
 have v1:=w2.words
 have v2:=w2.wl
 have v3:=w2.mu
 have v4:=w2.tl
 have v5:=w2.sp
 have v6:=w2.r0.2.2
 have v7:=congrArg List.length g4
 have z1:(Z16 (cW4 h s k)).taken=(cW4 h s k).taken:=rfl
 have v8:=congrArg List.length z1
 have z2:(Z16 (cW4 h s k)).heap.space=(cW4 h s k).heap.space:=rfl
 clear c
 unfold cW4 at *
 unfold cW3 at *
 unfold cW2 at *
 have Q0 {h_ c_ p_} (r_:Fq h_ c_ p_):=Fc 20 (@Z0l h) (Ffb 21 (!Z02 h) (Fc 26 (@Z1E h s ‹_› (by omega)) (FcG 31 (!!Z0n h s) (fun hg=>by(try simp only[bs]at hg);exact @Z1E h k (by(try simp only[bs]at hg);assumption) (by(try simp only[bs]at hg);omega)) (Ff 33 (by simp only[bs, *,true_or,or_true,true_and,and_true,not_true_eq_false,not_false_eq_true,Bool.true_eq_false,Bool.false_eq_true]:(!Z0n h s||!Z0n h k)=false) (Fc 38 (@Z42 h ‹_› ‹_› ‹_›) (Fc 44 (@Z4Q (beginW h) s ‹_› ‹_› ‹_›) (Ffb 49 ((rootsF (beginW h) s).snd.snd != 0) (Fc 55 (@Z9R ((rootsF (beginW h) s).fst) ‹_›) (Ffb 59 ((allF (rootsF (beginW h) s).fst).snd != 0) (Fu (@Zdp ((allF (rootsF (beginW h) s).fst).fst) k ((rootsF (beginW h) s).snd.fst) ‹_› ‹_› (by omega) ‹_› ‹_› ‹_›) (Fc 93 (@Zbe (weakS (allF (rootsF (beginW h) s).fst).fst k k.length) ‹_› ‹_›) (Fc 94 (@Zbc (fillN (weakS (allF (rootsF (beginW h) s).fst).fst k k.length) (weakS (allF (rootsF (beginW h) s).fst).fst k k.length).old.length) ‹_› (by omega) ‹_› ‹_› ‹_›) (Fi 98 (1-(Z16 (fillN (weakS (allF (rootsF (beginW h) s).fst).fst k k.length) (weakS (allF (rootsF (beginW h) s).fst).fst k k.length).old.length)).heap.space) (Fl 105 idv (Z16 (fillN (weakS (allF (rootsF (beginW h) s).fst).fst k k.length) (weakS (allF (rootsF (beginW h) s).fst).fst k k.length).old.length)).taken r_))))))))))))))
 rcases bb (decide (0<(↑(Z16 (fillN (weakS (allF (rootsF (beginW h) s).fst).fst k k.length) (weakS (allF (rootsF (beginW h) s).fst).fst k k.length).old.length)).taken.length:Int)))with hc0 | hc0<;>have hc0p:=hc0<;>simp only[bs]at hc0p
 ·exact gF [] Tryz.func69 [false,false,false,false,false,false,false,false,false,false,false,false,false,false,false,false,false,false,true] (Fh 15 [.own] (Q0 (Ft 107 hc0 (Fi 111 ((↑(Z16 (fillN (weakS (allF (rootsF (beginW h) s).fst).fst k k.length) (weakS (allF (rootsF (beginW h) s).fst).fst k k.length).old.length)).taken.length:Int)-1) (Fek 112 idv ((Z16 (fillN (weakS (allF (rootsF (beginW h) s).fst).fst k k.length) (weakS (allF (rootsF (beginW h) s).fst).fst k k.length).old.length)).taken) ((↑(Z16 (fillN (weakS (allF (rootsF (beginW h) s).fst).fst k k.length) (weakS (allF (rootsF (beginW h) s).fst).fst k k.length).old.length)).taken.length:Int)-1) (((↑(Z16 (fillN (weakS (allF (rootsF (beginW h) s).fst).fst k k.length) (weakS (allF (rootsF (beginW h) s).fst).fst k k.length).old.length)).taken.length:Int)-1).toNat) (Fr ((endH (cW5 h s k)).conf.pw) (Fr ((endH (cW5 h s k)).conf.pg) (Fr (List.map wdv (endH (cW5 h s k)).words) (Fr (List.map Page.dv (endH (cW5 h s k)).pages) (Fr ((endH (cW5 h s k)).space) (Fa (by(simp only[endH,cW5,cW4,cW3,cW2,Z1b];(repeat' split)<;>first | rfl | omega | (exfalso;omega) | simp_all):(Z16 (fillN (weakS (allF (rootsF (beginW h) s).fst).fst k k.length) (weakS (allF (rootsF (beginW h) s).fst).fst k k.length).old.length)).taken.getD ((↑(Z16 (fillN (weakS (allF (rootsF (beginW h) s).fst).fst k k.length) (weakS (allF (rootsF (beginW h) s).fst).fst k k.length).old.length)).taken.length:Int)-1).toNat default=(endH (cW5 h s k)).bump) (Fr (List.map wdv (rootsF (beginW h) s).snd.fst) (Fr (List.map wdv (Z3S (allF (rootsF (beginW h) s).fst).fst k k.length)) (Fr ((cW5 h s k).rep.copied) (Fr ((cW5 h s k).rep.kept) (Fr ((cW5 h s k).rep.filled) (Fr ((cW5 h s k).rep.freed) (Fr ((cW5 h s k).rep.cleared) (Fr ((cW5 h s k).rep.steps) (Fr (0:Int) Fz))))))))))))))))))))
 ·exact gF [] Tryz.func69 [false,false,false,false,false,false,false,false,false,false,false,false,false,false,false,false,false,false,true] (Fh 15 [.own] (Q0 (Ff 107 hc0 (Fr ((endH (cW5 h s k)).conf.pw) (Fr ((endH (cW5 h s k)).conf.pg) (Fr (List.map wdv (endH (cW5 h s k)).words) (Fr (List.map Page.dv (endH (cW5 h s k)).pages) (Fr ((endH (cW5 h s k)).space) (Fa (by(simp[endH,cW5,cW4,cW3,cW2,Z1b, *];omega):(-1:Int)=(endH (cW5 h s k)).bump) (Fr (List.map wdv (rootsF (beginW h) s).snd.fst) (Fr (List.map wdv (Z3S (allF (rootsF (beginW h) s).fst).fst k k.length)) (Fr ((cW5 h s k).rep.copied) (Fr ((cW5 h s k).rep.kept) (Fr ((cW5 h s k).rep.filled) (Fr ((cW5 h s k).rep.freed) (Fr ((cW5 h s k).rep.cleared) (Fr ((cW5 h s k).rep.steps) (Fr (0:Int) Fz))))))))))))))))))
end
end Go.Proofs.YtolnblaadleknaaGreat
