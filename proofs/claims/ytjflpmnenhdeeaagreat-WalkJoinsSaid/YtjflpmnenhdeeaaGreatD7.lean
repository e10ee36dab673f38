/-
 The statement WalkJoins: part 7.
 Conditions: none.
-/
import Derived.Laws.Bits64b
import Derived.WalkSmall
import Derived.Test.YtjflpmnenhdeeaaGreatD6
set_option maxRecDepth 100000
set_option maxHeartbeats 2000000
set_option linter.all false
namespace Go.Proofs.YtjflpmnenhdeeaaGreat
open Go.Sx
def ones(n:Int):Int:=2^(min n.toNat 64)-1
structure Header where
 kind:Int
 length:Int
 map:Int
 deriving DecidableEq,Inhabited
def u32(n:Int):AV:=.d (.sc (.int .u32 n))
def Header.av(h:Header):AV:=.ag [int h.kind,int h.length,u32 h.map]
theorem or_one(k:Nat)(h:k<64):bits .or .u64 (IntKind.u64.wrap ((2^k-1)*2^min (Int.toNat 1) 64)) 1=2^(k+1)-1:=by
 have:k∈List.range 64:=List.mem_range.2 h
 revert k
 decide+kernel
def Zde(m:Nat)(i:Nat):Tg:=⟨tm 14 [(2,u64 0),(3,u64 (2^i-1)),(6,int m),(7,int i)],[],20⟩
theorem Zg3(m i:Nat)(hm:m≤64)(hi:i<m):CSpec Tryz.prog (rndF Tryz.f111 0) (Zde m i).st .nrm (Zde m (i+1)).st:=by
 have ho:=or_one i (by omega)
 exact sF [] [false,true] (Ftb 8 (decide ((↑i:Int)<(↑m:Int))) (Fo ((0:Int)≤1) (Fg 12 (by exact wrapI' (by omega) (by omega):IntKind.i64.wrap ((↑i:Int)+1)=(↑(i+1):Int)) (Fa (by exact ho:bits BinOp.or IntKind.u64 (IntKind.u64.wrap ((2^i-1)*2^min (Int.toNat 1) 64)) (1:Int)=2^(i+1)-1) Fz))))
theorem Zkd(m:Nat):CSpec Tryz.prog (rndF Tryz.f111 0) (Zde m m).st (.ext 0) (Tg.st ⟨tm 14 [(3,u64 (2^m-1))],[],60⟩):=by
 exact sF [] [] (Ffb 8 (decide ((↑m:Int)<(↑m:Int))) Fz)
theorem Zj7(m:Nat)(hm:m≤64):CSpec Tryz.prog (blkF Tryz.f111 0) (Zde m 0).st .nrm (Tg.st ⟨tm 14 [(3,u64 (2^m-1))],[],60⟩) :=
 Z0c (S:=fun i=>(Zde m i).st) m (by kernel_rfl) (fun i hi=>Zg3 m i hm hi) (Zkd m)
theorem Z5e(n:Int):GSpec Tryz.prog 111 [int n] true (u64 (ones n)) []:=by
 have ei:min (max n 0) 64=((min n.toNat 64:Nat):Int):=by omega
 exact gF [] Tryz.func111 [] (Fgo 5 (if 0 > n then 0 else n) (max n 0) (Fgo 6 (if 64<max n 0 then 64 else max n 0) (↑(min n.toNat 64):Int) (Fu (@Zj7 (min n.toNat 64) (by omega)) Fz)))
def Z0i(h:Header):Bool:=decide (0≤h.kind∧h.kind≤3∧0≤h.length∧h.length≤255∧(if h.kind=1 then h.length≤32∧h.map<2^h.length.toNat else h.map=0))
def sizeH(h:Header):Int:=if Z0i h=true then h.length+1 else 0
def Z0S:Header:=⟨0,0,0⟩
def Z06(h:Header):Int×Int:=if Z0i h=true then(1+4*h.kind+16*h.length+65536*h.map,0)else(0,1)
def Z2f(w:Int):Header:=⟨w/4%4,w/16%4096,w/65536%4294967296⟩
def decodeH(w:Int):Header×Bool:=if(Z06 (Z2f w)).2=0∧(Z06 (Z2f w)).1=w then(Z2f w,true)else(Z0S,false)
def Z0m(h:Header)(i:Int):Bool:=Z0i h&&decide (0≤i)&&decide (i<h.length)&&(h.kind==2||(h.kind==1&&(h.map/2^i.toNat%2==1)))
theorem validH_iff{h:Header}:Z0i h=true↔0≤h.kind∧h.kind≤3∧0≤h.length∧h.length≤255∧(if h.kind=1 then h.length≤32∧h.map<2^h.length.toNat else h.map=0):=by simp[Z0i]
theorem Zmh{n:Int}(h1:n≤32):(1:Int)≤2^n.toNat∧(2:Int)^n.toNat≤4294967296:=by
 have:n.toNat≤32:=by omega
 generalize n.toNat=k at this
 have hk:k∈List.range 33:=List.mem_range.2 (by omega)
 revert k
 decide+kernel
theorem Zko{n:Int}(h1:n≤32):IntKind.u64.wrap (1*2^min n.toNat 64)=2^n.toNat:=by
 have:=Zmh h1
 rw[Nat.min_eq_left (by omega),Int.one_mul]
 exact wrapU' (by omega) (by omega)
theorem Z9W{h:Header}(hv:Z0i h=true)(hm:0≤h.map)(hm2:h.map≤4294967295):0≤h.kind∧h.kind≤3∧0≤h.length∧h.length≤255∧0≤h.map∧h.map≤4294967295:=by
 have:=validH_iff.1 hv
 omega
theorem Z27(h:Header)(hm:0≤h.map∧h.map≤4294967295):GSpec Tryz.prog 52 [h.av] true (bool (Z0i h)) []:=by
 have hs:h.length≤32→IntKind.u64.wrap (1*2^min h.length.toNat 64)=2^h.length.toNat:=Zko
 rcases bb (decide (h.kind<0)||decide (3<h.kind)||decide (h.length<0)||decide (255<h.length))with hc0 | hc0<;>have hc0p:=hc0<;>simp only[bs]at hc0p
 ·exact gF [] Tryz.func52 [false,false,false,false,false,false,false,false,false,true] (Ft 20 hc0 (Fa (by(simp[Z0i, *];omega):false=Z0i h) Fz))
 ·obtain⟨⟨⟨hc0paaa,hc0paab⟩,hc0pab⟩,hc0pb⟩:=hc0p
  rcases bb (h.kind != 1)with hc1 | hc1<;>have hc1p:=hc1<;>simp only[bs]at hc1p
  ·exact gF [] Tryz.func52 [false,false,false,false,false,false,false,false,false,true] (Ff 20 hc0 (Ft 23 hc1 (Fa (by grind[Z0i]:(h.map==0)=Z0i h) Fz)))
  ·exact gF [] Tryz.func52 [false,false,false,false,false,false,false,false,false,false,false,false,false,false,false,false,false,true] (Fh 33 [.int h.map] (Fh 36 [.int h.length] (Ff 20 hc0 (Ff 23 hc1 (Fa (by intro hg;try simp only[bs]at hg;exact wrapU2 rfl (by omega) (by omega):decide (h.length≤32)=true→IntKind.u64.wrap h.map=h.map) (Fa (by intro hg;try simp only[bs]at hg;exact wrapU2 rfl (by omega) (by omega):decide (h.length≤32)=true→IntKind.u64.wrap h.length=h.length) (Fa (by intro hg;try simp only[bs]at hg;omega:decide (h.length≤32)=true→0≤h.length) (Fa (by grind[Z0i]:(decide (h.length≤32)&&decide (h.map<IntKind.u64.wrap ((1:Int)*2^min h.length.toNat 64)))=Z0i h) Fz))))))))
theorem Z1l(h:Header)(hm:0≤h.map∧h.map≤4294967295):GSpec Tryz.prog 20 [h.av] true (int (sizeH h)) []:=by
 rcases bb (!Z0i h)with hc0 | hc0<;>have hc0p:=hc0<;>simp only[bs]at hc0p
 ·exact gF [] Tryz.func20 [true] (Fc 4 (@Z27 h ‹_›) (Ft 5 hc0 (Fa (by simp[sizeH, *]:0=sizeH h) Fz)))
 ·have hf3:=validH_iff.1 hc0p
  exact gF [] Tryz.func20 [true] (Fc 4 (@Z27 h ‹_›) (Ff 5 hc0 (Fi 8 (h.length+1) (Fa (by simp[sizeH, *]:h.length+1=sizeH h) Fz))))
theorem Z39(h:Header)(hm:0≤h.map∧h.map≤4294967295):GSpec Tryz.prog 89 [h.av] true (.tu [u64 (Z06 h).1,int (Z06 h).2]) []:=by
 rcases bb (!Z0i h)with hc0 | hc0<;>have hc0p:=hc0<;>simp only[bs]at hc0p
 ·exact gF [] Tryz.func89 [true] (Fc 5 (@Z27 h ‹_›) (Ft 6 hc0 (Fa (by simp[Z06, *]:0=(Z06 h).1) (Fa (by simp[Z06, *]:1=(Z06 h).2) Fz))))
 ·have hf3:=validH_iff.1 hc0p
  exact gF [] Tryz.func89 [true] (Fc 5 (@Z27 h ‹_›) (Ff 6 hc0 (Fv 9 h.kind (Fv 10 (4*h.kind) (Fv 11 ((1:Int)+4*h.kind) (Fv 14 h.length (Fv 15 (16*h.length) (Fv 16 ((1:Int)+4*h.kind+16*h.length) (Fv 19 h.map (Fg 20 (by exact wrapU2 rfl (by omega) (by omega):IntKind.u64.wrap (h.map*2^min (Int.toNat 16) 64)=h.map*65536) (Fo ((0:Int)≤16) (Fv 21 ((1:Int)+4*h.kind+16*h.length+h.map*65536) (Fa (by(simp[Z06, *];omega):(1:Int)+4*h.kind+16*h.length+h.map*65536=(Z06 h).1) (Fa (by simp[Z06, *]:0=(Z06 h).2) Fz))))))))))))))
theorem Z7P(w:Int)(h0:0≤w):0≤(Z2f w).map∧(Z2f w).map≤4294967295:=by
 simp only[Z2f];omega
theorem Z2E(w:Int)(h0:0≤w)(h1:w≤18446744073709551615):GSpec Tryz.prog 51 [u64 w] true (.tu [(decodeH w).1.av,bool (decodeH w).2]) []:=by
 have hm:=Z7P w h0
 have Q0 {h_ c_ p_} (r_:Fq h_ c_ p_):=Fg 8 (by exact Z6I rfl (by decide):w.fdiv (2^min (Int.toNat 2) 64)=w/4) (Fo ((0:Int)≤2) (Fg 9 (by exact Z3q 2 (by decide) (by decide) (by omega) (by omega):bits BinOp.and IntKind.u64 (w/4) 3=w/4%4) (Fi 10 (w/4%4) (Fg 12 (by exact Z6I rfl (by decide):w.fdiv (2^min (Int.toNat 4) 64)=w/16) (Fo ((0:Int)≤4) (Fg 13 (by exact Z3q 12 (by decide) (by decide) (by omega) (by omega):bits BinOp.and IntKind.u64 (w/16) 4095=w/16%4096) (Fi 14 (w/16%4096) (Fg 16 (by exact Z6I rfl (by decide):w.fdiv (2^min (Int.toNat 16) 64)=w/65536) (Fo ((0:Int)≤16) (Fg 17 (rfl:IntKind.u32.wrap (w/65536)=w/65536%4294967296) (Fc 21 (@Z39 (Header.mk (w/4%4) (w/16%4096) (w/65536%4294967296)) ‹_›) r_)))))))))))
 rcases bb ((Z06 (Header.mk (w/4%4) (w/16%4096) (w/65536%4294967296))).2 != 0||(Z06 (Header.mk (w/4%4) (w/16%4096) (w/65536%4294967296))).1 != w)with hc0 | hc0<;>have hc0p:=hc0<;>simp only[bs]at hc0p
 ·exact gF [] Tryz.func51 [false,false,false,true] (Q0 (Ft 30 hc0 (Fa (by grind[decodeH,Z2f,Z0S]:0=(decodeH w).1.kind) (Fa (by grind[decodeH,Z2f,Z0S]:0=(decodeH w).1.length) (Fa (by grind[decodeH,Z2f,Z0S]:0=(decodeH w).1.map) (Fa (by grind[decodeH,Z2f,Z0S]:false=(decodeH w).2) Fz))))))
 ·obtain⟨hc0pa,hc0pb⟩:=hc0p
  exact gF [] Tryz.func51 [false,false,false,true] (Q0 (Ff 30 hc0 (Fa (by simp[decodeH,Z2f,Z0S, *]:w/4%4=(decodeH w).1.kind) (Fa (by simp[decodeH,Z2f,Z0S, *]:w/16%4096=(decodeH w).1.length) (Fa (by simp[decodeH,Z2f,Z0S, *]:w/65536%4294967296=(decodeH w).1.map) (Fa (by simp[decodeH,Z2f,Z0S, *]:true=(decodeH w).2) Fz))))))
theorem ZlW(h:Header)(i:Int)(hm:0≤h.map∧h.map≤4294967295)(hv:Z0i h=true)(h0:0≤i)(h1:i<h.length) :
  (h.kind==2||h.kind==1&&bits BinOp.and IntKind.u32 (h.map.fdiv (2^min i.toNat 32)) 1==1)=Z0m h i:=by
 have hv':=validH_iff.1 hv
 by_cases hk:h.kind=1
 ·have hl:h.length≤32:=by simp[hk]at hv';omega
  have hp:(0:Int)≤2^i.toNat:=Int.pow_nonneg (by decide)
  rw[Nat.min_eq_left (by omega),Int.fdiv_eq_ediv_of_nonneg _ hp]
  have h2:0≤h.map/2^i.toNat:=Int.ediv_nonneg hm.1 hp
  have h3:h.map/2^i.toNat≤h.map:=Int.ediv_le_self _ hm.1
  have:=Zfj 1 (by decide) (x:=h.map/2^i.toNat) (m:=1) (by decide) h2 (by omega)
  rw[this]
  simp[Z0m,hv,h0,h1,hk]
 ·have:(h.kind==1)=false:=by simp[hk]
  simp[Z0m,hv,h0,h1,this]
theorem Z2a(h:Header)(i:Int)(hm:0≤h.map∧h.map≤4294967295):GSpec Tryz.prog 103 [h.av,int i] true (bool (Z0m h i)) []:=by
 rcases bb (!Z0i h||decide (i<0)||decide (h.length≤i))with hc0 | hc0<;>have hc0p:=hc0<;>simp only[bs]at hc0p
 ·exact gF [] Tryz.func103 [false,false,false,false,false,false,true] (Fc 6 (@Z27 h ‹_›) (Ft 17 hc0 (Fa (by grind[Z0m]:false=Z0m h i) Fz)))
 ·obtain⟨⟨hc0paa,hc0pab⟩,hc0pb⟩:=hc0p
  have hf3:=validH_iff.1 hc0paa
  exact gF [] Tryz.func103 [false,false,false,false,false,false,false,false,false,false,false,false,false,false,false,false,false,false,true] (Fh 29 [.int i] (Fc 6 (@Z27 h ‹_›) (Ff 17 hc0 (Fa (by intro hg;try simp only[bs]at hg;exact wrapU2 rfl (by omega) (by omega):(!h.kind==2&&h.kind==1)=true→IntKind.u64.wrap i=i) (Fa (by intro hg;try simp only[bs]at hg;omega:(!h.kind==2&&h.kind==1)=true→0≤i) (Fa (by exact ZlW h i hm ‹_› (by omega) (by omega):(h.kind==2||h.kind==1&&bits BinOp.and IntKind.u32 (h.map.fdiv (2^min i.toNat 32)) (1:Int)==1)=Z0m h i) Fz))))))
def spl{α:Type}(ws:List α)(i:Nat)(l:List α):List α:=ws.take i++l++ws.drop (i+l.length)
def Z0a(ws:List Int)(a n:Int):Int×Bool:=if 4096≤a∧a≤4096+ws.length then(a-4096,decide (n≤ws.length-(a-4096)))else(0,false)
def Z0A(ws:List Int)(a:Int):Int×Int:=if 4096≤a∧a<4096+ws.length then(a-4096,0)else(0,2)
def loadA(ws:List Int)(a:Int):Int×Int:=if 4096≤a∧a<4096+ws.length then(ws.getD (a-4096).toNat 0,0)else(0,2)
def Z1c(ws:List Int)(a n:Int):List Int×Int:=if n<0 then([],1)else if 4096≤a∧a-4096+n≤ws.length then((ws.drop (a-4096).toNat).take n.toNat,0)else([],2)
def Z0b(ws:List Int)(a:Int)(l:List Int):List Int×Int:=if 4096≤a∧a-4096+l.length≤ws.length then(spl ws (a-4096).toNat l,0)else([],2)
def Z0E(ws:List Int)(a v:Int):List Int×Int:=Z0b ws a [v]
def moveA(ws:List Int)(a b n:Int):List Int×Int:=if(Z1c ws b n).2≠0 then([],(Z1c ws b n).2)else Z0b ws a (Z1c ws b n).1
theorem Zbc(ws:List Int)(a n:Int):(Z1c ws a n).1.length≤ws.length:=by
 unfold Z1c
 split
 ·simp
 ·split
  ·simp;omega
  ·simp
theorem Zbo{ws:List Int}{a n:Int}(h:(Z0a ws a n).2=true):(Z0a ws a n).1=a-4096∧4096≤a∧a≤4096+ws.length∧a-4096+n≤ws.length:=by
 unfold Z0a at h ⊢
 split at h
 ·rename_i hc;rw[if_pos hc];simp at h;simp;omega
 ·simp at h
theorem Zby{ws:List Int}{a n:Int}(h:(Z0a ws a n).2=false):¬ (4096≤a∧a≤4096+ws.length∧a-4096+n≤ws.length):=by
 unfold Z0a at h
 split at h
 ·simp at h;omega
 ·omega
theorem Zci{ws:List Int}{a:Int}(h:(Z0A ws a).2=0):(Z0A ws a).1=a-4096∧4096≤a∧a<4096+ws.length:=by
 unfold Z0A at h ⊢
 split at h
 ·rename_i hc;rw[if_pos hc];exact⟨rfl,hc⟩
 ·simp at h
theorem ZbW{ws:List Int}{a:Int}(h:¬ (Z0A ws a).2=0):¬ (4096≤a∧a<4096+ws.length)∧(Z0A ws a).2=2:=by
 unfold Z0A at h ⊢
 split at h
 ·simp at h
 ·rename_i hc;rw[if_neg hc];exact⟨hc,rfl⟩
theorem Z4O(ws:List Int)(a n:Int)(hw:ws.length≤1048576)(h0:0≤a∧a≤18446744073709551615):GSpec Tryz.prog 83 [Z02 ws,u64 a,int n] true (.tu [int (Z0a ws a n).1,bool (Z0a ws a n).2]) []:=by
 have Q0 {h_ c_ p_} (r_:Fq h_ c_ p_):=FlG 14 (!decide (a<4096)) wdv ws (FvG 15 (!decide (a<4096)) (↑ws.length) (FvG 16 (!decide (a<4096)) (4096+(↑ws.length:Int)) r_))
 rcases bb (decide (a<4096)||decide (4096+(↑ws.length:Int)<a))with hc0 | hc0<;>have hc0p:=hc0<;>simp only[bs]at hc0p
 ·exact gF [] Tryz.func83 [false,false,false,false,false,false,true] (Q0 (Ft 18 hc0 (Fa (by(simp only[Z0a];(repeat' split)<;>first | rfl | omega | (exfalso;omega) | simp_all):0=(Z0a ws a n).fst) (Fa (by(simp only[Z0a];(repeat' split)<;>first | rfl | omega | (exfalso;omega) | simp_all):false=(Z0a ws a n).snd) Fz))))
 ·obtain⟨hc0pa,hc0pb⟩:=hc0p
  exact gF [] Tryz.func83 [false,false,false,false,false,false,true] (Q0 (Ff 18 hc0 (Fv 20 (a-4096) (Fi 21 (a-4096) (Fl 25 wdv ws (Fi 27 ((↑ws.length:Int)-(a-4096)) (Fa (by(simp only[Z0a];(repeat' split)<;>first | rfl | omega | (exfalso;omega) | simp_all):a-4096=(Z0a ws a n).fst) (Fa (by(simp only[Z0a];(repeat' split)<;>first | rfl | omega | (exfalso;omega) | simp_all):decide (n≤(↑ws.length:Int)-(a-4096))=(Z0a ws a n).snd) Fz))))))))
theorem ZbV(ws:List Int)(a:Int)(hw:ws.length≤1048576)(h0:0≤a∧a≤18446744073709551615):GSpec Tryz.prog 88 [Z02 ws,u64 a] true (.tu [int (Z0A ws a).1,int (Z0A ws a).2]) []:=by
 have Q0 {h_ c_ p_} (r_:Fq h_ c_ p_):=Fc 11 (@Z4O ws a (1) ‹_› ‹_›) r_
 rcases bb (!(Z0a ws a 1).snd)with hc0 | hc0<;>have hc0p:=hc0<;>simp only[bs]at hc0p
 ·exact gF [] Tryz.func88 [true] (Q0 (Ft 15 hc0 (Fa (by grind[Z0a,Z0A]:0=(Z0A ws a).fst) (Fa (by grind[Z0a,Z0A]:2=(Z0A ws a).snd) Fz))))
 ·exact gF [] Tryz.func88 [true] (Q0 (Ff 15 hc0 (Fa (by grind[Z0a,Z0A]:(Z0a ws a 1).fst=(Z0A ws a).fst) (Fa (by grind[Z0a,Z0A]:0=(Z0A ws a).snd) Fz))))
theorem Z1K(ws:List Int)(a:Int)(hw:ws.length≤1048576)(h0:0≤a∧a≤18446744073709551615):GSpec Tryz.prog 50 [Z02 ws,u64 a] true (.tu [u64 (loadA ws a).1,int (loadA ws a).2]) []:=by
 have Q0 {h_ c_ p_} (r_:Fq h_ c_ p_):=Fc 11 (@ZbV ws a ‹_› ‹_›) r_
 rcases bb ((Z0A ws a).snd != 0)with hc0 | hc0<;>have hc0p:=hc0<;>simp only[bs]at hc0p
 ·have hf3:=ZbW hc0p
  obtain⟨hf3a,hf3b⟩:=hf3
  exact gF [] Tryz.func50 [true] (Q0 (Ft 15 hc0 (Fa (by simp[loadA, *]:0=(loadA ws a).fst) (Fa (by simp[loadA, *]:(Z0A ws a).snd=(loadA ws a).snd) Fz))))
 ·have hf5:=Zci hc0p
  obtain⟨hf5a,⟨hf5ba,hf5bb⟩⟩:=hf5
  exact gF [] Tryz.func50 [true] (Q0 (Ff 15 hc0 (Fe 19 wdv ws ((Z0A ws a).fst) (Fa (by simp[loadA, *]:ws.getD (Z0A ws a).fst.toNat default=(loadA ws a).fst) (Fa (by simp[loadA, *]:0=(loadA ws a).snd) Fz)))))
theorem Zan(ws:List Int)(a n:Int)(hw:ws.length≤1048576)(h0:0≤a∧a≤18446744073709551615):GSpec Tryz.prog 45 [Z02 ws,u64 a,int n] true (.tu [Z02 (Z1c ws a n).1,int (Z1c ws a n).2]) []:=by
 rcases bb (decide (n<0))with hc0 | hc0<;>have hc0p:=hc0<;>simp only[bs]at hc0p
 ·exact gF [] Tryz.func45 [true] (Ft 11 hc0 (Fnl (Fa (by simp[Z1c, *]:[]=List.map wdv (Z1c ws a n).fst) (Fa (by simp[Z1c, *]:1=(Z1c ws a n).snd) Fz))))
 ·have Q0 {h_ c_ p_} (r_:Fq h_ c_ p_):=Ff 11 hc0 (Fc 16 (@Z4O ws a n ‹_› ‹_›) r_)
  rcases bb (!(Z0a ws a n).snd)with hc9 | hc9<;>have hc9p:=hc9<;>simp only[bs]at hc9p
  ·have hf12:=Zby hc9p
   exact gF [] Tryz.func45 [true] (Q0 (Ft 20 hc9 (Fnl (Fa (by(simp only[Z1c];(repeat' split)<;>first | rfl | omega | (exfalso;omega) | simp_all):[]=List.map wdv (Z1c ws a n).fst) (Fa (by(simp only[Z1c];(repeat' split)<;>first | rfl | omega | (exfalso;omega) | simp_all):2=(Z1c ws a n).snd) Fz)))))
  ·have hf14:=Zbo hc9p
   obtain⟨hf14a,⟨hf14ba,⟨hf14bba,hf14bbb⟩⟩⟩:=hf14
   exact gF [] Tryz.func45 [true] (Fh 28 [.els (List.map wdv (List.take (((Z0a ws a n).fst+n).toNat-(Z0a ws a n).fst.toNat) (List.drop (Z0a ws a n).fst.toNat ws)))] (Q0 (Ff 20 hc9 (Fs 21 (List.map wdv []) (Fi 26 ((Z0a ws a n).fst+n) (Fa (by(simp only[List.length_map];omega):0≤(Z0a ws a n).fst∧(Z0a ws a n).fst≤(Z0a ws a n).fst+n∧(Z0a ws a n).fst+n≤(↑(List.map wdv ws).length:Int)) (Fa (by simp[Z1c,List.map_take,List.map_drop,List.map_set,List.map_append,wdv,idv]:List.take (((Z0a ws a n).fst+n).toNat-(Z0a ws a n).fst.toNat) (List.drop (Z0a ws a n).fst.toNat (List.map wdv ws))=List.map wdv (List.take (((Z0a ws a n).fst+n).toNat-(Z0a ws a n).fst.toNat) (List.drop (Z0a ws a n).fst.toNat ws))) (Fa (by(simp[Z1c, *];omega):(List.map wdv []).length+(List.map wdv (List.take (((Z0a ws a n).fst+n).toNat-(Z0a ws a n).fst.toNat) (List.drop (Z0a ws a n).fst.toNat ws))).length≤2^30) (Fs 27 (List.map wdv (List.take (((Z0a ws a n).fst+n).toNat-(Z0a ws a n).fst.toNat) (List.drop (Z0a ws a n).fst.toNat ws))) (Fa (by exact Z46 _:Z1n (List.map wdv (List.take (((Z0a ws a n).fst+n).toNat-(Z0a ws a n).fst.toNat) (List.drop (Z0a ws a n).fst.toNat ws)))) (Fa (by refine congrArg _ ?_;(simp[Z1c, *];omega):List.map wdv (List.take (((Z0a ws a n).fst+n).toNat-(Z0a ws a n).fst.toNat) (List.drop (Z0a ws a n).fst.toNat ws))=List.map wdv (Z1c ws a n).fst) (Fa (by simp[Z1c, *]:0=(Z1c ws a n).snd) Fz))))))))))))
def wr{α:Type}(ws l:List α)(i k:Nat):List α:=ws.take i++l.take k++ws.drop (i+k)
theorem Z8t{α:Type}(ws l:List α)(i:Nat):wr ws l i 0=ws:=by simp[wr]
theorem Zbr{α:Type}(ws l:List α)(i:Nat):wr ws l i l.length=spl ws i l:=by simp[wr,spl]
theorem Z4D{α:Type}{ws l:List α}{i k:Nat}(h:i+l.length≤ws.length)(hk:k≤l.length):(wr ws l i k).length=ws.length:=by
 simp[wr];omega
theorem Z3e{α:Type}{ws l:List α}{i:Nat}(h:i+l.length≤ws.length):(spl ws i l).length=ws.length:=by
 rw[← Zbr];exact Z4D h (Nat.le_refl _)
theorem Z9u{α:Type}{ws l:List α}{i k:Nat}(h:i+l.length≤ws.length)(hk:k≤l.length)(j:Nat):(wr ws l i k)[j]? = if j<i then ws[j]? else if j<i+k then l[j-i]? else ws[j]? := by
 have e:(l.take k).length=k:=by simp;omega
 have:=Z1Y (l:=ws) (xs:=l.take k) (o:=i) (by omega) j
 rw[e]at this
 rw[wr,this]
 split
 ·rfl
 ·split
  ·rw[List.getElem?_take_of_lt (by omega)]
  ·rfl
theorem ZaO{α:Type}{ws l:List α}{i k:Nat}(h:i+l.length≤ws.length)(hk:k<l.length)(d:α):(wr ws l i k).set (i+k) (l.getD k d)=wr ws l i (k+1):=by
 apply List.ext_getElem?
 intro j
 have hl:=Z4D h (Nat.le_of_lt hk)
 rw[List.getElem?_set,Z9u h (by omega),Z9u h (by omega),hl]
 by_cases hj:i+k=j
 ·subst hj
  rw[if_pos rfl,if_pos (by omega),if_neg (by omega),if_pos (by omega)]
  simp[List.getD,hk]
 ·rw[if_neg hj]
  by_cases h1:j<i
  ·rw[if_pos h1,if_pos h1]
  ·rw[if_neg h1,if_neg h1]
   by_cases h2:j<i+k
   ·rw[if_pos h2,if_pos (by omega)]
   ·rw[if_neg h2,if_neg (by omega)]
def Z83(ws l:List Int)(i:Int)(k:Nat):Tg:=⟨tm 41 [(2,Z02 l),(8,int i),(10,.ow 32024),(11,int k)],[(32024,.arr 39 1 ((wr ws l i.toNat k).map wdv))],60⟩
theorem ZcM(ws l:List Int)(i:Int)(k:Nat)(hw:ws.length≤1048576)(hi:0≤i)(h:i.toNat+l.length≤ws.length)(hk:k<l.length):CSpec Tryz.prog (rndF Tryz.f158 0) (Z83 ws l i k).st .nrm (Z83 ws l i (k+1)).st:=by
 have hs:=ZaO h hk default
 have hn:=Z4D h (Nat.le_of_lt hk)
 have ei:i+k=((i.toNat+k:Nat):Int):=by omega
 exact sF [] [false,false,false,false,true] (Fh 10039 [.els (List.map wdv ((wr ws l i.toNat k).set (↑(i.toNat+k):Int).toNat (l.getD k default)))] (Fl 27 wdv l (Ftb 28 (decide ((↑k:Int)<(↑l.length:Int))) (Fg 34 (by rw[wrapI' (by omega) (by omega)];omega:IntKind.i64.wrap (i+(↑k:Int))=(↑(i.toNat+k):Int)) (Fek 37 wdv l (↑k) k (Fa (by(simp only[List.length_map];omega):0≤(↑(i.toNat+k):Int)∧(↑(i.toNat+k):Int).toNat<(List.map wdv (wr ws l i.toNat k)).length) (Fa (by(simp only[List.length_map];omega):(↑(i.toNat+k):Int).toNat<(List.map wdv (wr ws l i.toNat k)).length) (Fa (by simp[List.map_take,List.map_drop,List.map_set,List.map_append,wdv,idv]:(List.map wdv (wr ws l i.toNat k)).set (↑(i.toNat+k):Int).toNat [du64 (l.getD k default)]=List.map wdv ((wr ws l i.toNat k).set (↑(i.toNat+k):Int).toNat (l.getD k default))) (Fx 30 k (Fr (39:Int) (Fa (by refine congrArg _ ?_;exact hs:List.map wdv ((wr ws l i.toNat k).set (↑(i.toNat+k):Int).toNat (l.getD k default))=List.map wdv (wr ws l i.toNat (k+1))) Fz)))))))))))
theorem ZfO(ws l:List Int)(i:Int):CSpec Tryz.prog (rndF Tryz.f158 0) (Z83 ws l i l.length).st (.ext 0) (Tg.st ⟨tm 41 [(10,.ow 32024)],[(32024,.arr 39 1 ((spl ws i.toNat l).map wdv))],60⟩):=by
 have hs:=Zbr ws l i.toNat
 exact sF [] [false,true] (Fl 27 wdv l (Ffb 28 (decide ((↑l.length:Int)<(↑l.length:Int))) (Fr (39:Int) (Fa (by refine congrArg _ ?_;assumption:List.map wdv (wr ws l i.toNat l.length)=List.map wdv (spl ws i.toNat l)) Fz))))
theorem Zf5(ws l:List Int)(i:Int)(hw:ws.length≤1048576)(hi:0≤i)(h:i.toNat+l.length≤ws.length):CSpec Tryz.prog (blkF Tryz.f158 0) (Tg.st ⟨tm 41 [(2,Z02 l),(8,int i),(10,.ow 32024),(11,int 0)],[(32024,.arr 39 1 (ws.map wdv))],60⟩) .nrm (Tg.st ⟨tm 41 [(10,.ow 32024)],[(32024,.arr 39 1 ((spl ws i.toNat l).map wdv))],60⟩):=by
 have:=Z0c (S:=fun k=>(Z83 ws l i k).st) l.length (by kernel_rfl) (fun k hk=>ZcM ws l i k hw hi h hk) (ZfO ws l i)
 simp only[Z83,Z8t]at this
 exact this
theorem Z4F(ws l:List Int)(a:Int)(hw:ws.length≤1048576)(h0:0≤a∧a≤18446744073709551615)(hl:l.length≤1048576):GSpec Tryz.prog 158 [Z02 ws,u64 a,Z02 l] true (.tu [Z02 (Z0b ws a l).1,int (Z0b ws a l).2]) []:=by
 have Q0 {h_ c_ p_} (r_:Fq h_ c_ p_):=Fl 16 wdv l (Fc 17 (@Z4O ws a ((↑l.length:Int)) ‹_› ‹_›) r_)
 rcases bb (!(Z0a ws a (↑l.length:Int)).snd)with hc0 | hc0<;>have hc0p:=hc0<;>simp only[bs]at hc0p
 ·have hf3:=Zby hc0p
  exact gF [] Tryz.func158 [true] (Q0 (Ft 21 hc0 (Fnl (Fa (by(simp only[Z0b];(repeat' split)<;>first | rfl | omega | (exfalso;omega) | simp_all):[]=List.map wdv (Z0b ws a l).fst) (Fa (by(simp only[Z0b];(repeat' split)<;>first | rfl | omega | (exfalso;omega) | simp_all):2=(Z0b ws a l).snd) Fz)))))
 ·have hf5:=Zbo hc0p
  obtain⟨hf5a,⟨hf5ba,⟨hf5bba,hf5bbb⟩⟩⟩:=hf5
  exact gF [] Tryz.func158 [false,false,false,false,false,true] (Q0 (Ff 21 hc0 (Fs 22 (List.map wdv []) (Fa (by(simp[Z0b, *];omega):(List.map wdv []).length+(List.map wdv ws).length≤2^30) (Fs 24 (List.map wdv ws) (Fu (@Zf5 ws l ((Z0a ws a (↑l.length:Int)).fst) ‹_› (by omega) (by omega)) (Fa (by exact Z46 _:Z1n (List.map wdv (spl ws (Z0a ws a (↑l.length:Int)).fst.toNat l))) (Fa (by refine congrArg _ ?_;simp[Z0b, *]:List.map wdv (spl ws (Z0a ws a (↑l.length:Int)).fst.toNat l)=List.map wdv (Z0b ws a l).fst) (Fa (by simp[Z0b, *]:0=(Z0b ws a l).snd) Fz)))))))))
theorem Z8k(ws:List Int)(a v:Int)(hw:ws.length≤1048576)(h0:0≤a∧a≤18446744073709551615):GSpec Tryz.prog 137 [Z02 ws,u64 a,u64 v] false (.tu [Z02 (Z0E ws a v).1,int (Z0E ws a v).2]) []:=by
 exact gF [] Tryz.func137 [] (Fs 11 (List.map wdv [v]) (Fc 12 (@Z4F ws ([v]) a ‹_› ‹_› (by simp[Z0E, *])) Fz))
theorem ZiP(ws:List Int)(a b n:Int)(hw:ws.length≤1048576)(h0:0≤a∧a≤18446744073709551615)(h1:0≤b∧b≤18446744073709551615):GSpec Tryz.prog 169 [Z02 ws,u64 a,u64 b,int n] false (.tu [Z02 (moveA ws a b n).1,int (moveA ws a b n).2]) []:=by
 have hr:=Zbc ws b n
 have Q0 {h_ c_ p_} (r_:Fq h_ c_ p_):=Fc 16 (@Zan ws b n ‹_› ‹_›) r_
 rcases bb ((Z1c ws b n).snd != 0)with hc0 | hc0<;>have hc0p:=hc0<;>simp only[bs]at hc0p
 ·exact gF [] Tryz.func169 [true] (Q0 (Ft 20 hc0 (Fnl (Fa (by simp[moveA, *]:[]=List.map wdv (moveA ws a b n).fst) (Fa (by simp[moveA, *]:(Z1c ws b n).snd=(moveA ws a b n).snd) Fz)))))
 ·exact gF [] Tryz.func169 [true] (Q0 (Ff 20 hc0 (Fc 25 (@Z4F ws ((Z1c ws b n).fst) a ‹_› ‹_› (by omega)) (Fa (by refine congrArg _ ?_;simp[moveA, *]:List.map wdv (Z0b ws a (Z1c ws b n).fst).fst=List.map wdv (moveA ws a b n).fst) (Fa (by simp[moveA, *]:(Z0b ws a (Z1c ws b n).fst).snd=(moveA ws a b n).snd) Fz)))))
theorem Z2U(n:Int):GSpec Tryz.prog 84 [int n] true (bool (decide (0≤n)&&decide (n≤2147483647))) []:=by
 exact gF [] Tryz.func84 [] Fz
def Z18(sp:Int):List Page→Nat
 | []=>0
 | p::r=>if p.kind=3∧p.space=sp then Z18 sp r+1 else 0
theorem Z4T(sp:Int):∀ l,Z18 sp l≤l.length
 | []=>Nat.le_refl _
 | p::r=>by
  have:=Z4T sp r
  simp only[Z18,List.length_cons]
  split<;>omega
theorem drop_at{l:List Page}{k:Nat}(h:k<l.length):l.drop k=l.getD k default::l.drop (k+1):=by
 rw[List.drop_eq_getElem_cons h]
 simp[List.getD,h]
def ZeD(l:List Page)(sp:Int)(n k:Nat):Tg:=⟨tm 37 [(0,Z0z l),(2,int sp),(7,int n),(8,int k)],[],60⟩
theorem Zf2(l:List Page)(hl:l.length≤1048576)(sp:Int)(n k:Nat)(hn:n≤k)(hk:k<l.length)(h:(l.getD k default).kind=3∧(l.getD k default).space=sp):CSpec Tryz.prog (rndF Tryz.f86 0) (ZeD l sp n k).st .nrm (ZeD l sp (n+1) (k+1)).st:=by
 exact sF [] [] (Fl 13 Page.dv l (FeG 18 (decide ((↑k:Int)<(↑l.length:Int))) Page.dv l (↑k) k (FeG 26 (decide ((↑k:Int)<(↑l.length:Int))&&(l.getD k default).kind==3) Page.dv l (↑k) k (Ftb 31 (decide ((↑k:Int)<(↑l.length:Int))&&(l.getD k default).kind==3&&(l.getD k default).space==sp) (Fx 35 n (Fx 33 k Fz))))))
theorem ZdF(l:List Page)(hl:l.length≤1048576)(sp:Int)(n k:Nat)(h:k<l.length→¬ ((l.getD k default).kind=3∧(l.getD k default).space=sp)):CSpec Tryz.prog (rndF Tryz.f86 0) (ZeD l sp n k).st (.ext 0) (Tg.st ⟨tm 37 [(7,int n)],[],60⟩):=by
 exact sF [] [] (Fl 13 Page.dv l (FeG 18 (decide ((↑k:Int)<(↑l.length:Int))) Page.dv l (↑k) k (FeG 26 (decide ((↑k:Int)<(↑l.length:Int))&&(l.getD k default).kind==3) Page.dv l (↑k) k (Ffb 31 (decide ((↑k:Int)<(↑l.length:Int))&&(l.getD k default).kind==3&&(l.getD k default).space==sp) Fz))))
theorem ZkV(l:List Page)(hl:l.length≤1048576)(sp:Int):∀ (m n k:Nat),l.length-k=m→n≤k→LSpec Tryz.prog Tryz.f86 0 (ZeD l sp n k).st (.ext 0) (Tg.st ⟨tm 37 [(7,int ((n+Z18 sp (l.drop k):Nat):Int))],[],60⟩):=by
 intro m
 induction m with
 | zero =>
  intro n k hm hn
  have e:l.drop k=[]:=List.drop_eq_nil_of_le (by omega)
  rw[e]
  exact .endx (ZdF l hl sp n k (fun h=>by omega))
 | succ m ih =>
  intro n k hm hn
  rw[drop_at (by omega),Z18]
  by_cases h:(l.getD k default).kind=3∧(l.getD k default).space=sp
  ·rw[if_pos h]
   have:=ih (n+1) (k+1) (by omega) (by omega)
   rw[show n+1+Z18 sp (l.drop (k+1))=n+(Z18 sp (l.drop (k+1))+1)from by omega]at this
   exact .next (Zf2 l hl sp n k hn (by omega) h) this
  ·rw[if_neg h]
   exact .endx (ZdF l hl sp n k (fun _=>h))
theorem ZhE(l:List Page)(sp:Int)(k:Nat)(hl:l.length≤1048576):CSpec Tryz.prog (blkF Tryz.f86 0) (Tg.st ⟨tm 37 [(0,Z0z l),(2,int sp),(7,int 0),(8,int k)],[],60⟩) .nrm (Tg.st ⟨tm 37 [(7,int (Z18 sp (l.drop k)))],[],60⟩):=by
 have:=(ZkV l hl sp _ 0 k rfl (by omega)).ext (by kernel_rfl)
 rw[Nat.zero_add]at this
 exact this
theorem Zb4(l:List Page)(i:Nat)(sp:Int)(hl:l.length≤1048576)(hi:i<l.length):GSpec Tryz.prog 86 [Z0z l,int i,int sp] true (int (Z18 sp (l.drop (i+1)))) []:=by
 exact gF [] Tryz.func86 [] (Fx 10 i (Fu (@ZhE l sp (i+1) ‹_›) Fz))
def rchk(c:Conf)(l:List Page)(i:Nat)(due:Int):Prop :=
 ((l.getD i default).kind=3↔0<due)∧0≤(l.getD i default).space∧(l.getD i default).space≤1∧0≤(l.getD i default).pins∧(l.getD i default).pins≤2147483647 ∧
 0≤(l.getD i default).kind∧(l.getD i default).kind≤3 ∧
 ((l.getD i default).kind=0→(l.getD i default).space=0∧(l.getD i default).used=0∧(l.getD i default).pins=0) ∧
 ((l.getD i default).kind=1→0≤(l.getD i default).used∧(l.getD i default).used≤c.pw) ∧
 ((l.getD i default).kind=2→1≤need c (l.getD i default).used∧need c (l.getD i default).used-1≤Z18 (l.getD i default).space (l.drop (i+1))) ∧
 ((l.getD i default).kind=3→(l.getD i default).used=0∧(l.getD i default).pins=0)
def rdue(c:Conf)(l:List Page)(i:Nat)(due:Int):Int:=if(l.getD i default).kind=2 then need c (l.getD i default).used-1 else max 0 (due-1)
def Z9p(h:Heap)(i:Nat)(due:Int):Tg:=⟨tm 157 [(1,.pt 8001 0 0),(2,bool false),(3,int due),(4,int i)],[(8001,.box 28 h.cells)],60⟩
theorem Z38(c:Conf)(n:Int):-1≤need c n∧need c n≤5:=by
 unfold need
 split
 ·rename_i h
  have:=validB_iff.1 h.1
  split
  ·omega
  ·have h1:0≤(n+c.pw-1)/c.pw:=Int.ediv_nonneg (by omega) (by omega)
   have h2:(n+c.pw-1)/c.pw<6:=Int.ediv_lt_of_lt_mul (by omega) (by omega)
   omega
 ·omega
theorem Z8Z(h:Heap)(i:Nat)(due:Int)(hl:h.pages.length≤1048576)(hi:i<h.pages.length)(hd:0≤due∧due≤5)(hc:rchk h.conf h.pages i due):CSpec Tryz.prog (rndF Tryz.f46 0) (Z9p h i due).st .nrm (Z9p h (i+1) (rdue h.conf h.pages i due)).st:=by
 have hn:=Z38 h.conf (h.pages.getD i default).used
 have ht:=Z4T (h.pages.getD i default).space (h.pages.drop (i+1))
 rw[List.length_drop]at ht
 unfold rchk at hc
 have Q0 {h_ c_ p_} (r_:Fq h_ c_ p_):=Fl 72 Page.dv h.pages (Ftb 73 (decide ((↑i:Int)<(↑h.pages.length:Int))) (Fek 79 Page.dv h.pages (↑i) i (FcG 100 (!(!((h.pages.getD i default).kind==3)==decide (0<due)||decide ((h.pages.getD i default).space<0)||decide (1<(h.pages.getD i default).space))) (fun hg=>by(try simp only[bs]at hg);exact @Z2U ((h.pages.getD i default).pins)) (Ffb 102 (!((h.pages.getD i default).kind==3)==decide (0<due)||decide ((h.pages.getD i default).space<0)||decide (1<(h.pages.getD i default).space)||!(decide (0≤(h.pages.getD i default).pins)&&decide ((h.pages.getD i default).pins≤2147483647))) r_))))
 rcases bb ((h.pages.getD i default).kind==0)with hc0 | hc0<;>have hc0p:=hc0<;>simp only[bs]at hc0p
 ·exact sF [] [false,false,false,false,false,false,false,false,false,false,false,false,true] (Fh 105 [.br true] (Q0 (Fa hc0 (Ffb 109 (!((h.pages.getD i default).kind==0&&((h.pages.getD i default).space==0&&((h.pages.getD i default).used==0&&(h.pages.getD i default).pins==0)))) (Fi 155 (due-1) (Fgo 156 (if due-1 > 0 then due-1 else 0) (max 0 (due-1)) (Fx 75 i (Fa (by grind[rdue]:max 0 (due-1)=rdue h.conf h.pages i due) Fz))))))))
 ·rcases bb ((h.pages.getD i default).kind==1)with hc1 | hc1<;>have hc1p:=hc1<;>simp only[bs]at hc1p
  ·exact sF [] [false,false,false,false,false,false,false,false,false,false,false,false,false,false,false,false,false,false,true] (Fh 110 [.br true] (Fh 122 [.br false] (Q0 (Fa hc0 (Fa hc1 (Ffb 105 (decide ((h.pages.getD i default).used<0)||decide (h.conf.pw<(h.pages.getD i default).used)) (Fi 155 (due-1) (Fgo 156 (if due-1 > 0 then due-1 else 0) (max 0 (due-1)) (Fx 75 i (Fa (by grind[rdue]:max 0 (due-1)=rdue h.conf h.pages i due) Fz))))))))))
  ·rcases bb ((h.pages.getD i default).kind==2)with hc2 | hc2<;>have hc2p:=hc2<;>simp only[bs]at hc2p
   ·exact sF [] [false,false,false,false,false,false,false,false,false,false,false,false,false,false,false,false,false,false,false,false,false,true] (Fh 110 [.br false] (Fh 123 [.br true] (Fh 142 [.br false] (Q0 (Fa hc0 (Fa hc1 (Fa hc2 (Fc 129 (@Z3T h.conf ((h.pages.getD i default).used)) (FcG 138 (!decide (need h.conf (h.pages.getD i default).used<1)) (fun hg=>by(try simp only[bs]at hg);exact @Zb4 h.pages i ((h.pages.getD i default).space) (by(try simp only[bs]at hg);assumption) (by(try simp only[bs]at hg);assumption)) (FiG 140 (!decide (need h.conf (h.pages.getD i default).used<1)) (need h.conf (h.pages.getD i default).used-1) (Ffb 105 (decide (need h.conf (h.pages.getD i default).used<1)||decide ((↑(Z18 (h.pages.getD i default).space (List.drop (i+1) h.pages)):Int)<need h.conf (h.pages.getD i default).used-1)) (Fi 155 (need h.conf (h.pages.getD i default).used-1) (Fgo 156 (if need h.conf (h.pages.getD i default).used-1 > 0 then need h.conf (h.pages.getD i default).used-1 else 0) (max 0 (need h.conf (h.pages.getD i default).used-1)) (Fx 75 i (Fa (by grind[rdue]:max 0 (need h.conf (h.pages.getD i default).used-1)=rdue h.conf h.pages i due) Fz)))))))))))))))
   ·exact sF [] [false,false,false,false,false,false,false,false,false,false,false,false,false,false,false,true] (Fh 110 [.br false] (Fh 123 [.br false] (Fh 144 [.br true] (Fh 153 [.br false] (Q0 (Fa hc0 (Fa hc1 (Fa hc2 (Fb (((h.pages.getD i default).kind==3)=true) (Ffb 105 ((h.pages.getD i default).used != 0||(h.pages.getD i default).pins != 0) (Fi 155 (due-1) (Fgo 156 (if due-1 > 0 then due-1 else 0) (max 0 (due-1)) (Fx 75 i (Fa (by grind[rdue]:max 0 (due-1)=rdue h.conf h.pages i due) Fz))))))))))))))
theorem Ziq(h:Heap)(i:Nat)(due:Int)(hl:h.pages.length≤1048576)(hi:i<h.pages.length)(hd:0≤due∧due≤5)(hc:¬ rchk h.conf h.pages i due):CSpec Tryz.prog (rndF Tryz.f46 0) (Z9p h i due).st .ret (Tg.st ⟨tm 157 [(2,bool false)],[],60⟩):=by
 have hn:=Z38 h.conf (h.pages.getD i default).used
 have ht:=Z4T (h.pages.getD i default).space (h.pages.drop (i+1))
 rw[List.length_drop]at ht
 unfold rchk at hc
 have Q0 {h_ c_ p_} (r_:Fq h_ c_ p_):=Fl 72 Page.dv h.pages (Ftb 73 (decide ((↑i:Int)<(↑h.pages.length:Int))) (Fek 79 Page.dv h.pages (↑i) i (FcG 100 (!(!((h.pages.getD i default).kind==3)==decide (0<due)||decide ((h.pages.getD i default).space<0)||decide (1<(h.pages.getD i default).space))) (fun hg=>by(try simp only[bs]at hg);exact @Z2U ((h.pages.getD i default).pins)) r_)))
 rcases bb (!((h.pages.getD i default).kind==3)==decide (0<due)||decide ((h.pages.getD i default).space<0)||decide (1<(h.pages.getD i default).space)||!(decide (0≤(h.pages.getD i default).pins)&&decide ((h.pages.getD i default).pins≤2147483647)))with hc0 | hc0<;>have hc0p:=hc0<;>simp only[bs]at hc0p
 ·exact sF [] [] (Q0 (Ft 102 hc0 Fz))
 ·obtain⟨⟨⟨hc0paaa,hc0paab⟩,hc0pab⟩,⟨hc0pba,hc0pbb⟩⟩:=hc0p
  rcases bb ((h.pages.getD i default).kind==0)with hc1 | hc1<;>have hc1p:=hc1<;>simp only[bs]at hc1p
  ·exact sF [] [] (Fh 109 [.br true] (Q0 (Ff 102 hc0 (Fa hc1 (Ftb 105 (!((h.pages.getD i default).kind==0&&((h.pages.getD i default).space==0&&((h.pages.getD i default).used==0&&(h.pages.getD i default).pins==0)))) Fz)))))
  ·rcases bb ((h.pages.getD i default).kind==1)with hc2 | hc2<;>have hc2p:=hc2<;>simp only[bs]at hc2p
   ·exact sF [] [] (Fh 105 [.br false] (Fh 122 [.br true] (Q0 (Ff 102 hc0 (Fa hc1 (Fa hc2 (Ftb 110 (decide ((h.pages.getD i default).used<0)||decide (h.conf.pw<(h.pages.getD i default).used)) Fz)))))))
   ·rcases bb ((h.pages.getD i default).kind==2)with hc3 | hc3<;>have hc3p:=hc3<;>simp only[bs]at hc3p
    ·exact sF [] [] (Fh 105 [.br false] (Fh 110 [.br false] (Fh 142 [.br true] (Q0 (Ff 102 hc0 (Fa hc1 (Fa hc2 (Fa hc3 (Fc 129 (@Z3T h.conf ((h.pages.getD i default).used)) (FcG 138 (!decide (need h.conf (h.pages.getD i default).used<1)) (fun hg=>by(try simp only[bs]at hg);exact @Zb4 h.pages i ((h.pages.getD i default).space) (by(try simp only[bs]at hg);assumption) (by(try simp only[bs]at hg);assumption)) (FiG 140 (!decide (need h.conf (h.pages.getD i default).used<1)) (need h.conf (h.pages.getD i default).used-1) (Ftb 123 (decide (need h.conf (h.pages.getD i default).used<1)||decide ((↑(Z18 (h.pages.getD i default).space (List.drop (i+1) h.pages)):Int)<need h.conf (h.pages.getD i default).used-1)) Fz))))))))))))
    ·rcases bb ((h.pages.getD i default).kind==3)with hc4 | hc4<;>have hc4p:=hc4<;>simp only[bs]at hc4p
     ·exact sF [] [] (Fh 105 [.br false] (Fh 110 [.br false] (Fh 123 [.br false] (Fh 153 [.br true] (Q0 (Ff 102 hc0 (Fa hc1 (Fa hc2 (Fa hc3 (Fa hc4 (Ftb 144 ((h.pages.getD i default).used != 0||(h.pages.getD i default).pins != 0) Fz)))))))))))
     ·exact sF [] [] (Fh 105 [.br false] (Fh 110 [.br false] (Fh 123 [.br false] (Fh 144 [.br false] (Q0 (Ff 102 hc0 (Fa hc1 (Fa hc2 (Fa hc3 (Fa hc4 Fz))))))))))
theorem ZdP(h:Heap)(due:Int):CSpec Tryz.prog (rndF Tryz.f46 0) (Z9p h h.pages.length due).st (.ext 0) (Tg.st ⟨tm 157 [],[],60⟩):=by
 exact sF [] [] (Fl 72 Page.dv h.pages (Ffb 73 (decide ((↑h.pages.length:Int)<(↑h.pages.length:Int))) Fz))
instance (c:Conf) (l:List Page) (i:Nat) (due:Int):Decidable (rchk c l i due):=by unfold rchk;infer_instance
def rpB(c:Conf)(l:List Page):Nat→Nat→Int→Bool
 | 0,_,_=>true
 | f+1,i,due=>if i<l.length then decide (rchk c l i due)&&rpB c l f (i+1) (rdue c l i due)else true
theorem Zj3{c:Conf}{l:List Page}{f i:Nat}{due:Int}(h:l.length≤i):rpB c l f i due=true:=by
 cases f with
 | zero=>rfl
 | succ f=>rw[rpB,if_neg (by omega)]
theorem ZaK{c:Conf}{l:List Page}{f i:Nat}{due:Int}(h:i<l.length)(hf:l.length≤i+f):rpB c l f i due=(decide (rchk c l i due)&&rpB c l (f-1) (i+1) (rdue c l i due)):=by
 cases f with
 | zero=>omega
 | succ f=>rw[rpB,if_pos h];rfl
theorem Z5E{c:Conf}{l:List Page}{f i:Nat}(h:i<l.length)(hf:l.length≤i+f):Z2m c l f i=(if Z1k c l i=0 then false else Z2m c l (f-1) (i+Z1k c l i)):=by
 cases f with
 | zero=>omega
 | succ f=>rw[Z2m,if_pos h];rfl
theorem Zdo{c:Conf}{l:List Page}:∀ {m f g i:Nat},l.length-i≤m→l.length≤i+f→l.length≤i+g→Z2m c l f i=Z2m c l g i:=by
 intro m
 induction m with
 | zero =>
  intro f g i hm hf hg
  have e:∀ f,Z2m c l f i=true:=by
   intro f
   cases f with
   | zero=>rw[Z2m,decide_eq_true (by omega)]
   | succ f=>rw[Z2m,if_neg (by omega)]
  rw[e,e]
 | succ m ih =>
  intro f g i hm hf hg
  by_cases h:i<l.length
  ·rw[Z5E h hf,Z5E h hg]
   by_cases h0:Z1k c l i=0
   ·rw[if_pos h0,if_pos h0]
   ·rw[if_neg h0,if_neg h0]
    exact ih (by omega) (by omega) (by omega)
  ·exact ih (by omega) hf hg
theorem getD_at{l:List Page}{i:Nat}(h:i<l.length):l[i]? = some (l.getD i default):=by
 simp[List.getD,h]
theorem Zhp{c:Conf}{l:List Page}{sp:Int}(hsp:sp=0∨sp=1)(q:Page)(hq:q.space=sp):∀ (d f i:Nat),d≤Z18 sp (l.drop i)→i+d≤l.length→l.length≤i+f →
  rpB c l f i d=(Z5p q ((l.drop i).take d)&&rpB c l (f-d) (i+d) 0):=by
 intro d
 induction d with
 | zero=>intro f i _ _ _;simp[Z5p]
 | succ d ih =>
  intro f i h1 h2 hf
  have hi:i<l.length:=by omega
  rw[drop_at hi,Z18]at h1
  by_cases hk:(l.getD i default).kind=3∧(l.getD i default).space=sp
  ·rw[if_pos hk]at h1
   have hd:rdue c l i ((d+1:Nat):Int)=(d:Int):=by
    unfold rdue;rw[if_neg (by omega)];omega
   rw[ZaK hi hf,hd,ih (f-1) (i+1) (by omega) (by omega) (by omega),drop_at hi,List.take_succ_cons,show f-1-d=f-(d+1)from by omega,show i+1+d=i+(d+1)from by omega]
   have e:decide (rchk c l i ((d+1:Nat):Int))=Z5f (l.getD i default) q:=by
    rw[Bool.eq_iff_iff]
    simp only[decide_eq_true_eq,Z5f]
    unfold rchk
    generalize l.getD i default=p at hk
    obtain⟨a,b,u,v⟩:=p
    simp only[Page.mk.injEq]at hk ⊢
    omega
   rw[e]
   simp[Z5p,Bool.and_assoc]
  ·rw[if_neg hk]at h1;omega
theorem Z4c{sp:Int}{q:Page}(hq:q.space=sp):∀ {l:List Page} {d:Nat},Z5p q (l.take d)=true→d≤l.length→d≤Z18 sp l
 | _,0,_,_=>Nat.zero_le _
 | [],d+1,_,h=>by simp at h
 | p::l,d+1,h,hl=>by
  simp only[Z5p,List.take_succ_cons,List.all_cons,Bool.and_eq_true]at h
  have h1:=h.1
  simp only[Z5f,decide_eq_true_eq]at h1
  have:=Z4c (sp:=sp) hq (l:=l) (d:=d) h.2 (by simpa using hl)
  rw[Z18,if_pos (by rw[h1];exact⟨rfl,hq⟩)]
  omega
theorem Zg7{c:Conf}{l:List Page}:∀ {m f i:Nat},l.length-i≤m→l.length≤i+f→rpB c l f i 0=Z2m c l f i:=by
 intro m
 induction m with
 | zero =>
  intro f i hm hf
  rw[Zj3 (by omega)]
  cases f with
  | zero=>rw[Z2m,decide_eq_true (by omega)]
  | succ f=>rw[Z2m,if_neg (by omega)]
 | succ m ih =>
  intro f i hm hf
  by_cases hi:i<l.length
  rotate_left
  ·exact ih (by omega) hf
  have hp:=getD_at hi
  rw[ZaK hi hf,Z5E hi hf]
  generalize hpe:l.getD i default=p at hp
  have hone:∀ (b:Bool),rdue c l i 0=0→decide (rchk c l i 0)=b→Z1k c l i=(if b=true then 1 else 0)→(decide (rchk c l i 0)&&rpB c l (f-1) (i+1) (rdue c l i 0))=(if Z1k c l i=0 then false else Z2m c l (f-1) (i+Z1k c l i)):=by
   intro b h1 h2 h3
   rw[h1,h2,h3,ih (by omega) (by omega)]
   cases b<;>simp
  by_cases hk2:p.kind=2
  rotate_left
  ·have hd:rdue c l i 0=0:=by unfold rdue;rw[hpe,if_neg hk2];omega
   by_cases hk0:p.kind=0
   ·refine hone (Z4t p) hd ?_ (by rw[Z1k,hp];simp only[hk0,if_true])
    rw[Bool.eq_iff_iff]
    simp only[decide_eq_true_eq,Z4t]
    unfold rchk
    rw[hpe]
    obtain⟨a,b,u,v⟩:=p
    simp only[Page.mk.injEq]at hk0 hk2 ⊢
    omega
   ·by_cases hk1:p.kind=1
    ·refine hone (Z4E p c) hd ?_ (by rw[Z1k,hp];simp[hk1])
     rw[Bool.eq_iff_iff]
     simp only[decide_eq_true_eq,Z4E,Z2T,Z3i,Bool.and_eq_true,Bool.or_eq_true,beq_iff_eq]
     unfold rchk
     rw[hpe]
     omega
    ·refine hone false hd ?_ (by rw[Z1k,hp];simp[hk0,hk1,hk2])
     simp only[decide_eq_false_iff_not]
     unfold rchk
     rw[hpe]
     omega
  ·have hd:rdue c l i 0=need c p.used-1:=by unfold rdue;rw[hpe,if_pos hk2]
   have hrc:rchk c l i 0↔Z2j p c=true∧need c p.used-1≤Z18 p.space (l.drop (i+1)):=by
    simp only[Z2j,Z2T,Z3i,Bool.and_eq_true,Bool.or_eq_true,beq_iff_eq,decide_eq_true_eq]
    unfold rchk
    rw[hpe]
    omega
   have hsp:Z1k c l i=(if Z2j p c=true then(if(need c p.used).toNat≤l.length-i∧Z5p p ((l.drop (i+1)).take ((need c p.used).toNat-1))=true then(need c p.used).toNat else 0)else 0):=by
    rw[Z1k,hp];simp[hk2]
   by_cases hl:Z2j p c=true
   ·have hn:1≤need c p.used∧(p.space=0∨p.space=1):=by
     simp only[Z2j,Z2T,Z3i,Bool.and_eq_true,Bool.or_eq_true,beq_iff_eq,decide_eq_true_eq]at hl
     omega
    have htl:=Z4T p.space (l.drop (i+1))
    rw[List.length_drop]at htl
    rw[hsp,if_pos hl,hd]
    by_cases ht:need c p.used-1≤Z18 p.space (l.drop (i+1))
    ·rw[decide_eq_true (hrc.2 ⟨hl,ht⟩),Bool.true_and]
     have e:need c p.used-1=(((need c p.used).toNat-1:Nat):Int):=by omega
     rw[e,Zhp hn.2 p rfl _ _ _ (by omega) (by omega) (by omega)]
     have hfit:(need c p.used).toNat≤l.length-i:=by omega
     cases htb:Z5p p ((l.drop (i+1)).take ((need c p.used).toNat-1))with
     | false=>simp
     | true =>
      simp only[hfit,and_self,if_true]
      rw[if_neg (by omega),Bool.true_and,ih (by omega) (by omega),show i+1+((need c p.used).toNat-1)=i+(need c p.used).toNat from by omega]
      exact Zdo (m:=l.length) (by omega) (by omega) (by omega)
    ·rw[decide_eq_false (fun h=>ht (hrc.1 h).2),Bool.false_and]
     have hno:¬ ((need c p.used).toNat≤l.length-i∧Z5p p ((l.drop (i+1)).take ((need c p.used).toNat-1))=true):=by
      intro h
      have:=Z4c (sp:=p.space) (q:=p) rfl h.2 (by rw[List.length_drop];omega)
      omega
     rw[if_neg hno]
     simp
   ·rw[hsp,if_neg hl,decide_eq_false (fun h=>hl (hrc.1 h).1)]
    simp
theorem Z8Y{c:Conf}{l:List Page}{i:Nat}{due:Int}(hd:0≤due∧due≤5)(hc:rchk c l i due):0≤rdue c l i due∧rdue c l i due≤5:=by
 have:=Z38 c (l.getD i default).used
 unfold rchk at hc
 unfold rdue
 split<;>omega
theorem Zlo(h:Heap)(hl:h.pages.length≤1048576):∀ (f i:Nat) (due:Int),i≤h.pages.length→h.pages.length≤i+f→0≤due∧due≤5→rpB h.conf h.pages f i due=true→LSpec Tryz.prog Tryz.f46 0 (Z9p h i due).st (.ext 0) (Tg.st ⟨tm 157 [],[],60⟩):=by
 intro f
 induction f with
 | zero =>
  intro i due hi hf hd hr
  have:i=h.pages.length:=by omega
  subst this
  exact .endx (ZdP h due)
 | succ f ih =>
  intro i due hi hf hd hr
  by_cases he:i<h.pages.length
  ·rw[rpB,if_pos he,Bool.and_eq_true]at hr
   have hc:=of_decide_eq_true hr.1
   exact .next (Z8Z h i due hl he hd hc) (ih (i+1) _ (by omega) (by omega) (Z8Y hd hc) hr.2)
  ·have:i=h.pages.length:=by omega
   subst this
   exact .endx (ZdP h due)
theorem ZeV(h:Heap)(hl:h.pages.length≤1048576):∀ (f i:Nat) (due:Int),0≤due∧due≤5→rpB h.conf h.pages f i due=false→LSpec Tryz.prog Tryz.f46 0 (Z9p h i due).st .ret (Tg.st ⟨tm 157 [(2,bool false)],[],60⟩):=by
 intro f
 induction f with
 | zero=>intro i due hd hr;cases hr
 | succ f ih =>
  intro i due hd hr
  by_cases he:i<h.pages.length
  ·rw[rpB,if_pos he]at hr
   by_cases hc:rchk h.conf h.pages i due
   ·rw[decide_eq_true hc,Bool.true_and]at hr
    exact .next (Z8Z h i due hl he hd hc) (ih (i+1) _ (Z8Y hd hc) hr)
   ·exact .endr (Ziq h i due hl he hd hc)
  ·rw[rpB,if_neg he]at hr;cases hr
theorem ZhC(h:Heap)(hl:h.pages.length≤1048576)(hr:rpB h.conf h.pages h.pages.length 0 0=true):CSpec Tryz.prog (blkF Tryz.f46 0) (Tg.st ⟨tm 157 [(1,.pt 8001 0 0),(2,bool false),(3,int 0),(4,int 0)],[(8001,.box 28 h.cells)],60⟩) .nrm (Tg.st ⟨tm 157 [],[],60⟩) :=
 (Zlo h hl _ 0 0 (by omega) (by omega) (by omega) hr).ext (by kernel_rfl)
theorem Zcs(h:Heap)(hl:h.pages.length≤1048576)(hr:rpB h.conf h.pages h.pages.length 0 0=false):CSpec Tryz.prog (blkF Tryz.f46 0) (Tg.st ⟨tm 157 [(1,.pt 8001 0 0),(2,bool false),(3,int 0),(4,int 0)],[(8001,.box 28 h.cells)],60⟩) .ret (Tg.st ⟨tm 157 [(2,bool false)],[],60⟩) :=
 (ZeV h hl _ 0 0 (by omega) hr).ret (by kernel_rfl)
theorem Z8o(l:List Page)(i:Int):Z1f l i=l.getD i.toNat default:=by
 rw[Z1f,List.getD_eq_getElem?_getD];rfl
theorem properB_iff{h:Heap}:Z03 h=true↔Z07 h.conf=true∧(h.words.length:Int)=h.conf.pw*h.conf.pg∧(h.pages.length:Int)=h.conf.pg∧(h.space=0∨h.space=1) ∧
  (h.bump=-1∨(0≤h.bump∧h.bump<h.pages.length∧(h.pages.getD h.bump.toNat default).kind=1))∧rpB h.conf h.pages h.pages.length 0 0=true:=by
 rw[Zg7 (m:=h.pages.length) (by omega) (by omega)]
 simp only[Z03,Bool.and_eq_true,shapeB_iff,Zhh,Bool.or_eq_true,beq_iff_eq,decide_eq_true_eq,Z8o]
 constructor
 ·rintro⟨⟨h1,h2,h3,h4⟩,h5,h6⟩
  exact⟨h1,h2,h3,h4,by omega,h6⟩
 ·rintro⟨h1,h2,h3,h4,h5,h6⟩
  exact⟨⟨h1,h2,h3,h4⟩,by omega,h6⟩
theorem Z0l(h:Heap):GSpec Tryz.prog 46 [h.av] true (bool (Z03 h)) []:=by
  by_cases hv:Z07 h.conf=true
  · have ha:=area hv
    rw[Int.mul_comm]at ha
    have hv':=validB_iff.1 hv
    have ei:h.conf.pg*h.conf.pw=h.conf.pw*h.conf.pg:=Int.mul_comm _ _
    cases hs:rpB h.conf h.pages h.pages.length 0 0 with
    | true => rcases Bool.eq_false_or_eq_true (!Z07 h.conf||(↑h.words.length:Int) != h.conf.pw*h.conf.pg||(↑h.pages.length:Int) != h.conf.pg||decide (h.space<(0:Int))||decide ((1:Int)<h.space))with hc0 | hc0
              · have hc0p:=hc0
                simp only[bs]at hc0p
                exact gF [] Tryz.func46 [false,false,false,false,false,false,false,false,false,false,false,false,false,false,false,false,false,false,false,false,false,false,false,false,true] (Fh 21 [.int (h.conf.pw*h.conf.pg)] (Fc 9 (@Z0u h.conf) (FlG 14 (!!Z07 h.conf) wdv h.words (Fa (by intro hg;(try simp only[bs]at hg);rw[wrapI' (by omega) (by omega)];omega:(!!Z07 h.conf)=true→IntKind.i64.wrap (h.conf.pg*h.conf.pw)=h.conf.pw*h.conf.pg) (FlG 27 (!(!Z07 h.conf||(↑h.words.length:Int) != h.conf.pw*h.conf.pg)) Page.dv h.pages (Ft 42 ‹(!Z07 h.conf||(↑h.words.length:Int) != h.conf.pw*h.conf.pg||(↑h.pages.length:Int) != h.conf.pg||decide (h.space<0)||decide (1<h.space))=true› (Fa (by exact(Bool.eq_false_iff.2 (fun hh=>by obtain⟨q1,q2,q3,q4,q5,q6⟩:=properB_iff.1 hh;simp[hv]at hc0p;omega)).symm:false=Z03 h) Fz)))))))
              · have hc0p:=hc0
                simp only[bs]at hc0p
                obtain⟨⟨⟨⟨hc0paaaa,hc0paaab⟩,hc0paab⟩,hc0pab⟩,hc0pb⟩:=hc0p
                have Q0 {h_ c_ p_} (r_:Fq h_ c_ p_):=Fc 9 (@Z0u h.conf) (FlG 14 (!!Z07 h.conf) wdv h.words (Fa (by intro hg;(try simp only[bs]at hg);rw[wrapI' (by omega) (by omega)];omega:(!!Z07 h.conf)=true→IntKind.i64.wrap (h.conf.pg*h.conf.pw)=h.conf.pw*h.conf.pg) (FlG 27 (!(!Z07 h.conf||(↑h.words.length:Int) != h.conf.pw*h.conf.pg)) Page.dv h.pages (Ff 42 ‹(!Z07 h.conf||(↑h.words.length:Int) != h.conf.pw*h.conf.pg||(↑h.pages.length:Int) != h.conf.pg||decide (h.space<0)||decide (1<h.space))=false› (FlG 55 (h.bump != (-1:Int)&&!decide (h.bump<0)) Page.dv h.pages (FeG 63 (h.bump != (-1:Int)&&!(decide (h.bump<0)||decide ((↑h.pages.length:Int)≤h.bump))) Page.dv h.pages h.bump h.bump.toNat r_))))))
                rcases bb (h.bump != (-1:Int)&&(decide (h.bump<0)||decide ((↑h.pages.length:Int)≤h.bump)||(h.pages.getD h.bump.toNat default).kind != 1))with hc1 | hc1<;>have hc1p:=hc1<;>simp only[bs]at hc1p
                · obtain⟨hc1pa,hc1pb⟩:=hc1p
                  exact gF [] Tryz.func46 [false,false,false,false,false,false,false,false,false,false,false,false,false,false,false,false,false,false,false,false,false,false,false,false,false,false,false,false,false,false,false,false,false,false,false,false,false,false,false,false,false,false,false,false,false,true] (Fh 21 [.int (h.conf.pw*h.conf.pg)] (Q0 (Ft 68 hc1 (Fa (by exact(Bool.eq_false_iff.2 (fun hh=>by obtain⟨q1,q2,q3,q4,q5,q6⟩:=properB_iff.1 hh;omega)).symm:false=Z03 h) Fz))))
                · exact gF [] Tryz.func46 [false,false,false,false,false,false,false,false,false,false,false,false,false,false,false,false,false,false,false,false,false,false,false,false,false,false,false,false,false,false,false,false,false,false,false,false,false,false,false,false,false,false,false,false,false,false,false,false,false,false,true] (Fh 21 [.int (h.conf.pw*h.conf.pg)] (Q0 (Ff 68 hc1 (Fu (@ZhC h (by omega) ‹_›) (Fa (by exact(properB_iff.2 ⟨hv,by omega,by omega,by omega,by omega,hs⟩).symm:true=Z03 h) Fz)))))
    | false => rcases Bool.eq_false_or_eq_true (!Z07 h.conf||(↑h.words.length:Int) != h.conf.pw*h.conf.pg||(↑h.pages.length:Int) != h.conf.pg||decide (h.space<(0:Int))||decide ((1:Int)<h.space))with hc0 | hc0
               · have hc0p:=hc0
                 simp only[bs]at hc0p
                 exact gF [] Tryz.func46 [false,false,false,false,false,false,false,false,false,false,false,false,false,false,false,false,false,false,false,false,false,false,false,false,true] (Fh 21 [.int (h.conf.pw*h.conf.pg)] (Fc 9 (@Z0u h.conf) (FlG 14 (!!Z07 h.conf) wdv h.words (Fa (by intro hg;(try simp only[bs]at hg);rw[wrapI' (by omega) (by omega)];omega:(!!Z07 h.conf)=true→IntKind.i64.wrap (h.conf.pg*h.conf.pw)=h.conf.pw*h.conf.pg) (FlG 27 (!(!Z07 h.conf||(↑h.words.length:Int) != h.conf.pw*h.conf.pg)) Page.dv h.pages (Ft 42 ‹(!Z07 h.conf||(↑h.words.length:Int) != h.conf.pw*h.conf.pg||(↑h.pages.length:Int) != h.conf.pg||decide (h.space<0)||decide (1<h.space))=true› (Fa (by exact(Bool.eq_false_iff.2 (fun hh=>by obtain⟨q1,q2,q3,q4,q5,q6⟩:=properB_iff.1 hh;simp[hv]at hc0p;omega)).symm:false=Z03 h) Fz)))))))
               · have hc0p:=hc0
                 simp only[bs]at hc0p
                 obtain⟨⟨⟨⟨hc0paaaa,hc0paaab⟩,hc0paab⟩,hc0pab⟩,hc0pb⟩:=hc0p
                 have Q1 {h_ c_ p_} (r_:Fq h_ c_ p_):=Fc 9 (@Z0u h.conf) (FlG 14 (!!Z07 h.conf) wdv h.words (Fa (by intro hg;(try simp only[bs]at hg);rw[wrapI' (by omega) (by omega)];omega:(!!Z07 h.conf)=true→IntKind.i64.wrap (h.conf.pg*h.conf.pw)=h.conf.pw*h.conf.pg) (FlG 27 (!(!Z07 h.conf||(↑h.words.length:Int) != h.conf.pw*h.conf.pg)) Page.dv h.pages (Ff 42 ‹(!Z07 h.conf||(↑h.words.length:Int) != h.conf.pw*h.conf.pg||(↑h.pages.length:Int) != h.conf.pg||decide (h.space<0)||decide (1<h.space))=false› (FlG 55 (h.bump != (-1:Int)&&!decide (h.bump<0)) Page.dv h.pages (FeG 63 (h.bump != (-1:Int)&&!(decide (h.bump<0)||decide ((↑h.pages.length:Int)≤h.bump))) Page.dv h.pages h.bump h.bump.toNat r_))))))
                 rcases bb (h.bump != (-1:Int)&&(decide (h.bump<0)||decide ((↑h.pages.length:Int)≤h.bump)||(h.pages.getD h.bump.toNat default).kind != 1))with hc1 | hc1<;>have hc1p:=hc1<;>simp only[bs]at hc1p
                 · obtain⟨hc1pa,hc1pb⟩:=hc1p
                   exact gF [] Tryz.func46 [false,false,false,false,false,false,false,false,false,false,false,false,false,false,false,false,false,false,false,false,false,false,false,false,false,false,false,false,false,false,false,false,false,false,false,false,false,false,false,false,false,false,false,false,false,true] (Fh 21 [.int (h.conf.pw*h.conf.pg)] (Q1 (Ft 68 hc1 (Fa (by exact(Bool.eq_false_iff.2 (fun hh=>by obtain⟨q1,q2,q3,q4,q5,q6⟩:=properB_iff.1 hh;omega)).symm:false=Z03 h) Fz))))
                 · exact gF [] Tryz.func46 [false,false,false,false,false,false,false,false,false,false,false,false,false,false,false,false,false,false,false,false,false,false,false,false,false,false,false,false,false,false,false,false,false,false,false,false,false,false,false,false,false,false,false,false,false,false,false,false,false,false,true] (Fh 21 [.int (h.conf.pw*h.conf.pg)] (Q1 (Ff 68 hc1 (Fu (@Zcs h (by omega) ‹_›) (Fa (by exact(Bool.eq_false_iff.2 (fun hh=>by have q:=(properB_iff.1 hh).2.2.2.2.2;rw[hs]at q;cases q)).symm:false=Z03 h) Fz)))))
  · have hf:Z07 h.conf=false:=by simpa using hv
    exact gF [] Tryz.func46 [false,false,false,false,false,false,false,false,false,false,false,false,false,false,false,false,false,false,false,false,false,false,false,false,true] (Fc 9 (@Z0u h.conf) (FlG 14 (!!Z07 h.conf) wdv h.words (FlG 27 (!(!Z07 h.conf||(↑h.words.length:Int) != IntKind.i64.wrap (h.conf.pg*h.conf.pw))) Page.dv h.pages (Ft 42 (by simp[*]:(!Z07 h.conf||(↑h.words.length:Int) != IntKind.i64.wrap (h.conf.pg*h.conf.pw)||(↑h.pages.length:Int) != h.conf.pg||decide (h.space<0)||decide (1<h.space))=true) (Fa (by exact(Bool.eq_false_iff.2 (fun hh=>hv (properB_iff.1 hh).1)).symm:false=Z03 h) Fz)))))
def WOk(ws:List Int):Prop:=∀ w∈ws,0≤w∧w≤18446744073709551615
theorem Zla{ws:List Int}(h:WOk ws)(i:Nat):0≤ws.getD i 0∧ws.getD i 0≤18446744073709551615:=by
 rw[List.getD_eq_getElem?_getD]
 cases e:ws[i]? with
 | none=>simp
 | some x=>exact h x (List.mem_of_getElem? e)
theorem Z0P{ws:List Int}(h:WOk ws)(a:Int):0≤(loadA ws a).1∧(loadA ws a).1≤18446744073709551615:=by
 unfold loadA
 split
 ·exact Zla h _
 ·simp
theorem Z2c(w:Int)(h:0≤w):0≤(decodeH w).1.map∧(decodeH w).1.map≤4294967295:=by
 unfold decodeH
 split
 ·exact Z7P w h
 ·simp[Z0S]
theorem Z09{h:Heap}(hp:Z03 h=true):Z07 h.conf=true∧16≤h.conf.pw∧h.conf.pw≤64∧8≤h.conf.pg∧h.conf.pg≤64∧(h.words.length:Int)=h.conf.pw*h.conf.pg∧h.words.length≤4096∧(h.pages.length:Int)=h.conf.pg∧(h.space=0∨h.space=1):=by
 simp only[Z03,Bool.and_eq_true]at hp
 obtain⟨h1,h2,h3,h4⟩:=shapeB_iff.1 hp.1
 have hv:=validB_iff.1 h1
 have:=area h1
 exact⟨h1,hv.1,hv.2.1,hv.2.2.2.1,hv.2.2.2.2,h2,by omega,h3,h4⟩
theorem Z3w{c:Conf}{a:Int}(hv:Z07 c=true)(h:(ofA c a).2.2=0):0≤(ofA c a).1∧(ofA c a).1<c.pg∧0≤(ofA c a).2.1∧(ofA c a).2.1<c.pw∧4096≤a∧a<4096+c.pw*c.pg∧a=4096+((ofA c a).1*c.pw+(ofA c a).2.1):=by
 have hb:=validB_iff.1 hv
 unfold ofA at h ⊢
 rw[if_pos hv]at h ⊢
 split at h
 ·rename_i hc
  rw[if_pos hc]
  simp only
  have h1:0≤(a-4096)/c.pw:=Int.ediv_nonneg (by omega) (by omega)
  have h2:(a-4096)/c.pw<c.pg:=Int.ediv_lt_of_lt_mul (by omega) (by rw[Int.mul_comm];omega)
  have h3:=Int.emod_nonneg (a-4096) (b:=c.pw) (by omega)
  have h4:=Int.emod_lt_of_pos (a-4096) (b:=c.pw) (by omega)
  have h5:=Int.mul_ediv_add_emod (a-4096) c.pw
  refine⟨h1,h2,h3,h4,hc.1,hc.2, ?_⟩
  rw[Int.mul_comm]at h5
  omega
 ·simp at h
def atH(h:Heap)(a:Int):Header×Int :=
 if Z03 h=true then
  (if(ofA h.conf a).2.2=0 then
   (if((h.pages.getD (ofA h.conf a).1.toNat default).kind=1∨(h.pages.getD (ofA h.conf a).1.toNat default).kind=2)∧(ofA h.conf a).2.1<(h.pages.getD (ofA h.conf a).1.toNat default).used∧(decodeH (loadA h.words a).1).2=true then
    (if((h.pages.getD (ofA h.conf a).1.toNat default).kind=1∧(h.pages.getD (ofA h.conf a).1.toNat default).used<(ofA h.conf a).2.1+sizeH (decodeH (loadA h.words a).1).1) ∨
      ((h.pages.getD (ofA h.conf a).1.toNat default).kind=2∧((ofA h.conf a).2.1≠0∨sizeH (decodeH (loadA h.words a).1).1≠(h.pages.getD (ofA h.conf a).1.toNat default).used))then(Z0S,19)
     else((decodeH (loadA h.words a).1).1,0))
    else(Z0S,19))
   else(Z0S,2))
 else(Z0S,1)
theorem Z1E(h:Header):0≤sizeH h∧sizeH h≤256:=by
 unfold sizeH
 split
 ·have:=validH_iff.1 ‹_›;omega
 ·omega
theorem Z3d(h:Heap)(a:Int)(hw:WOk h.words)(h0:0≤a∧a≤18446744073709551615):GSpec Tryz.prog 19 [h.av,u64 a] true (.tu [(atH h a).1.av,int (atH h a).2]) []:=by
 have hr:=Z0P hw a
 have hd:=Z2c (loadA h.words a).1 hr.1
 have hs:=Z1E (decodeH (loadA h.words a).1).1
 rcases bb (!Z03 h)with hc0 | hc0<;>have hc0p:=hc0<;>simp only[bs]at hc0p
 ·exact gF [] Tryz.func19 [true] (Fc 16 (@Z0l h) (Ft 17 hc0 (Fa (by simp[atH,Z0S, *]:0=(atH h a).fst.kind) (Fa (by simp[atH,Z0S, *]:0=(atH h a).fst.length) (Fa (by simp[atH,Z0S, *]:0=(atH h a).fst.map) (Fa (by simp[atH,Z0S, *]:1=(atH h a).snd) Fz))))))
 ·have hf5:=Z09 hc0p
  obtain⟨hf5a,⟨hf5ba,⟨hf5bba,⟨hf5bbba,⟨hf5bbbba,⟨hf5bbbbba,⟨hf5bbbbbba,⟨hf5bbbbbbba,hf5bbbbbbbb⟩⟩⟩⟩⟩⟩⟩⟩:=hf5
  have Q0 {h_ c_ p_} (r_:Fq h_ c_ p_):=Fc 16 (@Z0l h) (Ff 17 hc0 (Fc 23 (@Z4d h.conf a (by omega) (by omega)) r_))
  rcases bb ((ofA h.conf a).snd.snd != 0)with hc18 | hc18<;>have hc18p:=hc18<;>simp only[bs]at hc18p
  ·exact gF [] Tryz.func19 [true] (Q0 (Ft 28 hc18 (Fa (by simp[atH,Z0S, *]:0=(atH h a).fst.kind) (Fa (by simp[atH,Z0S, *]:0=(atH h a).fst.length) (Fa (by simp[atH,Z0S, *]:0=(atH h a).fst.map) (Fa (by simp[atH,Z0S, *]:2=(atH h a).snd) Fz))))))
  ·have hf25:=Z3w ‹_› hc18p
   obtain⟨hf25a,⟨hf25ba,⟨hf25bba,⟨hf25bbba,⟨hf25bbbba,⟨hf25bbbbba,hf25bbbbbb⟩⟩⟩⟩⟩⟩:=hf25
   have Q1 {h_ c_ p_} (r_:Fq h_ c_ p_):=Q0 (Ff 28 hc18 (Fe 33 Page.dv h.pages ((ofA h.conf a).fst) (Fc 39 (@Z1K h.words a (by omega) ‹_›) (Fc 44 (@Z2E ((loadA h.words a).fst) (by omega) (by omega)) r_))))
   rcases bb ((h.pages.getD (ofA h.conf a).fst.toNat default).kind != 1&&(h.pages.getD (ofA h.conf a).fst.toNat default).kind != 2||decide ((h.pages.getD (ofA h.conf a).fst.toNat default).used≤(ofA h.conf a).snd.fst)||!(decodeH (loadA h.words a).fst).snd)with hc27 | hc27<;>have hc27p:=hc27<;>simp only[bs]at hc27p
   ·exact gF [] Tryz.func19 [false,false,false,false,false,false,false,false,false,true] (Q1 (Ft 64 hc27 (Fa (by grind[atH,Z0S]:0=(atH h a).fst.kind) (Fa (by grind[atH,Z0S]:0=(atH h a).fst.length) (Fa (by grind[atH,Z0S]:0=(atH h a).fst.map) (Fa (by grind[atH,Z0S]:19=(atH h a).snd) Fz))))))
   ·obtain⟨⟨hc27paa,hc27pab⟩,hc27pb⟩:=hc27p
    have Q2 {h_ c_ p_} (r_:Fq h_ c_ p_):=Q1 (Ff 64 hc27 (Fc 67 (@Z1l ((decodeH (loadA h.words a).fst).fst) ‹_›) (FiG 74 ((h.pages.getD (ofA h.conf a).fst.toNat default).kind==1) ((ofA h.conf a).snd.fst+sizeH (decodeH (loadA h.words a).fst).fst) r_)))
    rcases bb ((h.pages.getD (ofA h.conf a).fst.toNat default).kind==1&&decide ((h.pages.getD (ofA h.conf a).fst.toNat default).used<(ofA h.conf a).snd.fst+sizeH (decodeH (loadA h.words a).fst).fst)||(h.pages.getD (ofA h.conf a).fst.toNat default).kind==2&&((ofA h.conf a).snd.fst != 0||sizeH (decodeH (loadA h.words a).fst).fst != (h.pages.getD (ofA h.conf a).fst.toNat default).used))with hc40 | hc40<;>have hc40p:=hc40<;>simp only[bs]at hc40p
    ·exact gF [] Tryz.func19 [false,false,false,false,false,false,false,false,false,false,false,false,false,false,false,false,false,false,false,false,false,false,false,false,false,false,false,false,true] (Q2 (Ft 93 hc40 (Fa (by grind[atH,Z0S]:0=(atH h a).fst.kind) (Fa (by grind[atH,Z0S]:0=(atH h a).fst.length) (Fa (by grind[atH,Z0S]:0=(atH h a).fst.map) (Fa (by grind[atH,Z0S]:19=(atH h a).snd) Fz))))))
    ·obtain⟨hc40pa,hc40pb⟩:=hc40p
     exact gF [] Tryz.func19 [false,false,false,false,false,false,false,false,false,false,false,false,false,false,false,false,false,false,false,false,false,false,false,false,false,false,false,false,true] (Q2 (Ff 93 hc40 (Fa (by grind[atH,Z0S]:(decodeH (loadA h.words a).fst).fst.kind=(atH h a).fst.kind) (Fa (by grind[atH,Z0S]:(decodeH (loadA h.words a).fst).fst.length=(atH h a).fst.length) (Fa (by grind[atH,Z0S]:(decodeH (loadA h.words a).fst).fst.map=(atH h a).fst.map) (Fa (by grind[atH,Z0S]:0=(atH h a).snd) Fz))))))
abbrev aP(h:Heap)(a:Int):Page:=h.pages.getD (ofA h.conf a).fst.toNat default
end Go.Proofs.YtjflpmnenhdeeaaGreat
namespace Go.Proofs.YtjflpmnenhdeeaaGreat
open Go.Sx Go.RowKit
theorem Zi9{n:Nat}{l:List DV}(h:shp Tryz.prog (n+2) 22 l):∃ m:List Int,l=[.sl 1 (m.map idv)]∧m.length≤140737488355328:=by
 have e:shp Tryz.prog (n+2) 22 l=(∃ els:List (List DV),l=[.sl 1 els]∧els.length≤140737488355328∧∀ x∈els,shp Tryz.prog (n+1) 3 x):=by kernel_rfl
 rw[e]at h
 obtain⟨els,rfl,h1,h2⟩:=h
 obtain⟨m,rfl⟩:=Z9w (f:=idv) fun x hx=>by
  obtain⟨v,rfl,_⟩:=ZgR (h2 x hx)
  exact⟨v,rfl⟩
 exact⟨m,rfl,by simpa using h1⟩
end Go.Proofs.YtjflpmnenhdeeaaGreat
