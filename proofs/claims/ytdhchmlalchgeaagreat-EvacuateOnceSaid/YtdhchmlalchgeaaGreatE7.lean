/-
 The statement EvacuateOnce: part 7.
 Conditions: none.
-/
import Derived.Laws.Bits64b
import Derived.WalkSmall
import Derived.Test.YtdhchmlalchgeaaGreatE6
set_option maxRecDepth 100000
set_option maxHeartbeats 2000000
set_option linter.all false
namespace Go.Proofs.YtdhchmlalchgeaaGreat
open Go.Sx
def ones(n:Int):Int:=2^(min n.toNat 64)-1
structure Header where
 K:Int
 length:Int
 map:Int
 deriving DecidableEq,Inhabited
def u32(n:Int):AV:=.d (.sc (.int .u32 n))
def Header.av(h:Header):AV:=.ag [int h.K,int h.length,u32 h.map]
theorem or_one(k:Nat)(h:k<64):bits .or .u64 (IntKind.u64.wrap ((2^k-1)*2^min (Int.toNat 1) 64)) 1=2^(k+1)-1:=by
 have:k∈List.range 64:=List.mem_range.2 h;revert k;decide+kernel
def ZdY(m:Nat)(i:Nat):Tg:=⟨tm 14 [(2,u64 0),(3,u64 (2^i-1)),(6,int m),(7,int i)],[],20⟩
theorem Zi8(m i:Nat)(hm:m≤64)(hi:i<m):CP (rndF Tryz.f163 0) (ZdY m i).st .nrm (ZdY m (i+1)).st:=by
 have ho:=or_one i oq;exact sF [] [false,true] (Ftb 8 (decide ((↑i:Int)<(↑m:Int))) (Fo ((0:Int)≤1) (Fg 12 (by exact wrapI' oq oq:IntKind.i64.wrap ((↑i:Int)+1)=(↑(i+1):Int)) (Fa (by exact ho:bits BinOp.or IntKind.u64 (IntKind.u64.wrap ((2^i-1)*2^min (Int.toNat 1) 64)) (1:Int)=2^(i+1)-1) Fz))))
theorem ZnO(m:Nat):CP (rndF Tryz.f163 0) (ZdY m m).st (.ext 0) (Tg.st ⟨tm 14 [(3,u64 (2^m-1))],[],60⟩):=by
 exact sF [] [] (Ffb 8 (decide ((↑m:Int)<(↑m:Int))) Fz)
def ZkK(m:Nat)(hm:m≤64)  := Z0a (S:=fun i=>(ZdY m i).st) m (by kernel_rfl) (fun i hi=>Zi8 m i hm hi) (ZnO m)
theorem Z3A(n:Int):GP 163 [int n] true (u64 (ones n)) []:=by
 have ei:min (max n 0) 64=((min n.toNat 64:Nat):Int):=by omega
 exact gF [] Tryz.func163 [] (Fgo 5 (if 0 > n then 0 else n) (max n 0) (Fgo 6 (if 64<max n 0 then 64 else max n 0) (↑(min n.toNat 64):Int) (Fu (@ZkK (min n.toNat 64) oq) Fz)))
def Z0g(h:Header):Bool:=decide (0≤h.K∧h.K≤3∧0≤h.length∧h.length≤255∧(if h.K=1 then h.length≤32∧h.map<2^h.length.toNat else h.map=0))
def sizeH(h:Header):Int:=if Z0g h=true then h.length+1 else 0
def Z28:Header:=⟨0,0,0⟩
def Z0c(h:Header):Int×Int:=if Z0g h=true then(1+4*h.K+16*h.length+65536*h.map,0)else(0,1)
def Z32(w:Int):Header:=⟨w/4%4,w/16%4096,w/65536%4294967296⟩
def decodeH(w:Int):Header×Bool:=if(Z0c (Z32 w)).2=0∧(Z0c (Z32 w)).1=w then(Z32 w,true)else(Z28,false)
def Z0f(h:Header)(i:Int):Bool:=Z0g h&&decide (0≤i)&&decide (i<h.length)&&(h.K==2||(h.K==1&&(h.map/2^i.toNat%2==1)))
theorem validH_iff{h:Header}:Z0g h=true↔0≤h.K∧h.K≤3∧0≤h.length∧h.length≤255∧(if h.K=1 then h.length≤32∧h.map<2^h.length.toNat else h.map=0):=by simp[Z0g]
theorem Zp3{n:Int}(h1:n≤32):(1:Int)≤2^n.toNat∧(2:Int)^n.toNat≤4294967296:=by
 have:n.toNat≤32:=by omega
 generalize n.toNat=k at this;have hk:k∈List.range 33:=List.mem_range.2 oq;revert k;decide+kernel
theorem Znh{n:Int}(h1:n≤32):IntKind.u64.wrap (1*2^min n.toNat 64)=2^n.toNat:=by
 have:=Zp3 h1;rw[Nat.min_eq_left oq,Int.one_mul];exact wrapU' oq oq
theorem Zc1{h:Header}(hv:Z0g h=true)(hm:0≤h.map)(hm2:h.map≤4294967295):0≤h.K∧h.K≤3∧0≤h.length∧h.length≤255∧0≤h.map∧h.map≤4294967295:=by
 have:=validH_iff.1 hv;omega
theorem Z2p(h:Header)(hm:0≤h.map∧h.map≤4294967295):GP 102 [h.av] true (bool (Z0g h)) []:=by
 have hs:h.length≤32→IntKind.u64.wrap (1*2^min h.length.toNat 64)=2^h.length.toNat:=Znh;rcases bb (decide (h.K<0)||decide (3<h.K)||decide (h.length<0)||decide (255<h.length))with hc0 | hc0<;>have hc0p:=hc0<;>simp only[bs]at hc0p
 ·exact gF [] Tryz.func102 (fO 9) (Ft 20 hc0 (Fa (by(simp[Z0g, *];omega):false=Z0g h) Fz))
 ·obtain⟨⟨⟨hc0paaa,hc0paab⟩,hc0pab⟩,hc0pb⟩:=hc0p;rcases bb (h.K != 1)with hc1 | hc1<;>have hc1p:=hc1<;>simp only[bs]at hc1p
  ·exact gF [] Tryz.func102 (fO 9) (Ff 20 hc0 (Ft 23 hc1 (Fa (by grind[Z0g]:(h.map==0)=Z0g h) Fz)))
  ·exact gF [] Tryz.func102 (fO 17) (Ff 20 hc0 (Ff 23 hc1 (FvG 33 (decide (h.length≤32)) h.map (FvG 36 (decide (h.length≤32)) h.length (Fa (by intro hg;(try simp only[bs]at hg);omega:decide (h.length≤32)=true→0≤h.length) (Fa (by grind[Z0g]:(decide (h.length≤32)&&decide (h.map<IntKind.u64.wrap ((1:Int)*2^min h.length.toNat 64)))=Z0g h) Fz))))))
theorem Z2a(h:Header)(hm:0≤h.map∧h.map≤4294967295):GP 75 [h.av] true (int (sizeH h)) []:=by
 rcases bb (!Z0g h)with hc0 | hc0<;>have hc0p:=hc0<;>simp only[bs]at hc0p
 ·exact gF [] Tryz.func75 [true] (Fc 4 (@Z2p h aa) (Ft 5 hc0 (Fa (by simp[sizeH, *]:0=sizeH h) Fz)))
 ·have hf3:=validH_iff.1 hc0p;obtain⟨hf3a,⟨hf3ba,⟨hf3bba,⟨hf3bbba,hf3bbbb⟩⟩⟩⟩:=hf3;exact gF [] Tryz.func75 [true] (Fc 4 (@Z2p h aa) (Ff 5 hc0 (Fi 8 (h.length+1) (Fa (by simp[sizeH, *]:h.length+1=sizeH h) Fz))))
theorem Z3E(h:Header)(hm:0≤h.map∧h.map≤4294967295):GP 101 [h.av] true (.tu [u64 (Z0c h).1,int (Z0c h).2]) []:=by
 rcases bb (!Z0g h)with hc0 | hc0<;>have hc0p:=hc0<;>simp only[bs]at hc0p
 ·rw[show Z0c h=((0:Int),(1:Int))from by simp[Z0c, *]];exact gF [] Tryz.func101 [] (Fc 5 (@Z2p h aa) (Ft 6 hc0 Fz))
 ·have hf3:=validH_iff.1 hc0p;obtain⟨hf3a,⟨hf3ba,⟨hf3bba,⟨hf3bbba,hf3bbbb⟩⟩⟩⟩:=hf3;rw[show Z0c h=((1:Int)+(4:Int)*h.K+(16:Int)*h.length+h.map*(65536:Int),(0:Int))from by(simp[Z0c, *];omega)];exact gF [] Tryz.func101 [] (Fc 5 (@Z2p h aa) (Ff 6 hc0 (Fv 9 h.K (Fv 10 (4*h.K) (Fv 11 ((1:Int)+4*h.K) (Fv 14 h.length (Fv 15 (16*h.length) (Fv 16 ((1:Int)+4*h.K+16*h.length) (Fv 19 h.map (Fg 20 (by exact wrapU2 rfl oq oq:IntKind.u64.wrap (h.map*2^min (Int.toNat 16) 64)=h.map*65536) (Fo ((0:Int)≤16) (Fv 21 ((1:Int)+4*h.K+16*h.length+h.map*65536) Fz))))))))))))
theorem Z8u(w:Int)(h0:0≤w):0≤(Z32 w).map∧(Z32 w).map≤4294967295:=by
 simp only[Z32];omega
theorem Z35(w:Int)(h0:0≤w)(h1:w≤18446744073709551615):GP 54 [u64 w] true (.tu [(decodeH w).1.av,bool (decodeH w).2]) []:=by
 have hm:=Z8u w h0;have Q0 {h_ c_ p_} (r_:Fq h_ c_ p_):=Fg 8 (by exact Z50 rfl dd:w.fdiv (2^min (Int.toNat 2) 64)=w/4) (Fo ((0:Int)≤2) (Fg 9 (by exact Z3h 2 dd dd oq oq:bits BinOp.and IntKind.u64 (w/4) 3=w/4%4) (Fi 10 (w/4%4) (Fg 12 (by exact Z50 rfl dd:w.fdiv (2^min (Int.toNat 4) 64)=w/16) (Fo ((0:Int)≤4) (Fg 13 (by exact Z3h 12 dd dd oq oq:bits BinOp.and IntKind.u64 (w/16) 4095=w/16%4096) (Fi 14 (w/16%4096) (Fg 16 (by exact Z50 rfl dd:w.fdiv (2^min (Int.toNat 16) 64)=w/65536) (Fo ((0:Int)≤16) (Fg 17 (rfl:IntKind.u32.wrap (w/65536)=w/65536%4294967296) (Fc 21 (@Z3E (Header.mk (w/4%4) (w/16%4096) (w/65536%4294967296)) aa) r_)))))))))));rcases bb ((Z0c (Header.mk (w/4%4) (w/16%4096) (w/65536%4294967296))).snd != 0||(Z0c (Header.mk (w/4%4) (w/16%4096) (w/65536%4294967296))).fst != w)with hc0 | hc0<;>have hc0p:=hc0<;>simp only[bs]at hc0p
 ·rw[show decodeH w=(Header.mk (0:Int) (0:Int) (0:Int),false)from by grind[decodeH,Z32,Z28]];exact gF [] Tryz.func54 [] (Q0 (Ft 30 hc0 Fz))
 ·obtain⟨hc0pa,hc0pb⟩:=hc0p;rw[show decodeH w=(Header.mk (w/(4:Int)%(4:Int)) (w/(16:Int)%(4096:Int)) (w/(65536:Int)%(4294967296:Int)),true)from by simp[decodeH,Z32,Z28, *]];exact gF [] Tryz.func54 [] (Q0 (Ff 30 hc0 Fz))
theorem Zmy(h:Header)(i:Int)(hm:0≤h.map∧h.map≤4294967295)(hv:Z0g h=true)(h0:0≤i)(h1:i<h.length) :
  (h.K==2||h.K==1&&bits BinOp.and IntKind.u32 (h.map.fdiv (2^min i.toNat 32)) 1==1)=Z0f h i:=by
 have hv':=validH_iff.1 hv;by_cases hk:h.K=1
 ·have hl:h.length≤32:=by simp[hk]at hv';omega
  have hp:(0:Int)≤2^i.toNat:=Int.pow_nonneg dd;rw[Nat.min_eq_left oq,Int.fdiv_eq_ediv_of_nonneg _ hp];have h2:0≤h.map/2^i.toNat:=Int.ediv_nonneg hm.1 hp;have h3:h.map/2^i.toNat≤h.map:=Int.ediv_le_self _ hm.1;have:=ZgW 1 dd (x:=h.map/2^i.toNat) (m:=1) dd h2 oq;rw[this];simp[Z0f,hv,h0,h1,hk]
 ·have:(h.K==1)=false:=by simp[hk]
  simp[Z0f,hv,h0,h1,this]
theorem Z2j(h:Header)(i:Int)(hm:0≤h.map∧h.map≤4294967295):GP 55 [h.av,int i] true (bool (Z0f h i)) []:=by
 rcases bb (!Z0g h||decide (i<0)||decide (h.length≤i))with hc0 | hc0<;>have hc0p:=hc0<;>simp only[bs]at hc0p
 ·exact gF [] Tryz.func55 (fO 6) (Fc 6 (@Z2p h aa) (Ft 17 hc0 (Fa (by grind[Z0f]:false=Z0f h i) Fz)))
 ·obtain⟨⟨hc0paa,hc0pab⟩,hc0pb⟩:=hc0p;have hf3:=validH_iff.1 hc0paa;obtain⟨hf3a,⟨hf3ba,⟨hf3bba,⟨hf3bbba,hf3bbbb⟩⟩⟩⟩:=hf3;exact gF [] Tryz.func55 (fO 18) (Fc 6 (@Z2p h aa) (Ff 17 hc0 (FvG 29 (!h.K==2&&h.K==1) i (Fa (by intro hg;(try simp only[bs]at hg);omega:(!h.K==2&&h.K==1)=true→0≤i) (Fa (by exact Zmy h i hm aa oq oq:(h.K==2||h.K==1&&bits BinOp.and IntKind.u32 (h.map.fdiv (2^min i.toNat 32)) (1:Int)==1)=Z0f h i) Fz)))))
def spl{α:Type}(ws:List α)(i:Nat)(l:List α):List α:=ws.take i++l++ws.drop (i+l.length)
def Z0b(ws:List Int)(a n:Int):Int×Bool:=if 4096≤a∧a≤4096+ws.length then(a-4096,decide (n≤ws.length-(a-4096)))else(0,false)
def Z0W(ws:List Int)(a:Int):Int×Int:=if 4096≤a∧a<4096+ws.length then(a-4096,0)else(0,2)
def loadA(ws:List Int)(a:Int):Int×Int:=if 4096≤a∧a<4096+ws.length then(ws.getD (a-4096).toNat 0,0)else(0,2)
def Z1i(ws:List Int)(a n:Int):List Int×Int:=if n<0 then([],1)else if 4096≤a∧a-4096+n≤ws.length then((ws.drop (a-4096).toNat).take n.toNat,0)else([],2)
def Z0z(ws:List Int)(a:Int)(l:List Int):List Int×Int:=if 4096≤a∧a-4096+l.length≤ws.length then(spl ws (a-4096).toNat l,0)else([],2)
def Z0J(ws:List Int)(a v:Int):List Int×Int:=Z0z ws a [v]
def moveA(ws:List Int)(a b n:Int):List Int×Int:=if(Z1i ws b n).2≠0 then([],(Z1i ws b n).2)else Z0z ws a (Z1i ws b n).1
theorem Zcm(ws:List Int)(a n:Int):(Z1i ws a n).1.length≤ws.length:=by
 unfold Z1i;split
 ·simp
 ·split
  ·simp;omega
  ·simp
theorem ZcZ{ws:List Int}{a n:Int}(h:(Z0b ws a n).2=true):(Z0b ws a n).1=a-4096∧4096≤a∧a≤4096+ws.length∧a-4096+n≤ws.length:=by
 unfold Z0b at h ⊢;split at h
 ·rename_i hc;rw[if_pos hc];simp at h;simp;omega
 ·simp at h
theorem ZcO{ws:List Int}{a n:Int}(h:(Z0b ws a n).2=false):¬ (4096≤a∧a≤4096+ws.length∧a-4096+n≤ws.length):=by
 unfold Z0b at h;split at h
 ·simp at h;omega
 ·omega
theorem ZcD{ws:List Int}{a:Int}(h:(Z0W ws a).2=0):(Z0W ws a).1=a-4096∧4096≤a∧a<4096+ws.length:=by
 unfold Z0W at h ⊢;split at h
 ·rename_i hc;rw[if_pos hc];exact⟨rfl,hc⟩
 ·simp at h
theorem ZcV{ws:List Int}{a:Int}(h:¬ (Z0W ws a).2=0):¬ (4096≤a∧a<4096+ws.length)∧(Z0W ws a).2=2:=by
 unfold Z0W at h ⊢;split at h
 ·simp at h
 ·rename_i hc;rw[if_neg hc];exact⟨hc,rfl⟩
theorem Z5I(ws:List Int)(a n:Int)(hw:ws.length≤1048576)(h0:0≤a∧a≤18446744073709551615):GP 157 [Z01 ws,u64 a,int n] true (.tu [int (Z0b ws a n).1,bool (Z0b ws a n).2]) []:=by
 have Q0 {h_ c_ p_} (r_:Fq h_ c_ p_):=FlG 14 (!decide (a<4096)) wdv ws (FvG 15 (!decide (a<4096)) (↑ws.length) (FvG 16 (!decide (a<4096)) (4096+(↑ws.length:Int)) r_));rcases bb (decide (a<4096)||decide (4096+(↑ws.length:Int)<a))with hc0 | hc0<;>have hc0p:=hc0<;>simp only[bs]at hc0p
 ·rw[show Z0b ws a n=((0:Int),false)from by(simp[Z0b, *];omega)];exact gF [] Tryz.func157 [] (Q0 (Ft 18 hc0 Fz))
 ·obtain⟨hc0pa,hc0pb⟩:=hc0p;rw[show Z0b ws a n=(a-(4096:Int),decide (n≤(↑ws.length:Int)-(a-(4096:Int))))from by simp[Z0b, *]];exact gF [] Tryz.func157 [] (Q0 (Ff 18 hc0 (Fv 20 (a-4096) (Fi 21 (a-4096) (Fl 25 wdv ws (Fi 27 ((↑ws.length:Int)-(a-4096)) Fz))))))
theorem Zdk(ws:List Int)(a:Int)(hw:ws.length≤1048576)(h0:0≤a∧a≤18446744073709551615):GP 147 [Z01 ws,u64 a] true (.tu [int (Z0W ws a).1,int (Z0W ws a).2]) []:=by
 have Q0 {h_ c_ p_} (r_:Fq h_ c_ p_):=Fc 11 (@Z5I ws a (1) aa aa) r_;rcases bb (!(Z0b ws a 1).snd)with hc0 | hc0<;>have hc0p:=hc0<;>simp only[bs]at hc0p
 ·rw[show Z0W ws a=((0:Int),(2:Int))from by grind[Z0b,Z0W]];exact gF [] Tryz.func147 [] (Q0 (Ft 15 hc0 Fz))
 ·rw[show Z0W ws a=((Z0b ws a (1:Int)).fst,(0:Int))from by grind[Z0b,Z0W]];exact gF [] Tryz.func147 [] (Q0 (Ff 15 hc0 Fz))
theorem Z1M(ws:List Int)(a:Int)(hw:ws.length≤1048576)(h0:0≤a∧a≤18446744073709551615):GP 91 [Z01 ws,u64 a] true (.tu [u64 (loadA ws a).1,int (loadA ws a).2]) []:=by
 rcases bb ((Z0W ws a).snd != 0)with hc0 | hc0<;>have hc0p:=hc0<;>simp only[bs]at hc0p
 ·have hf3:=ZcV hc0p;obtain⟨hf3a,hf3b⟩:=hf3;rw[show loadA ws a=((0:Int),(Z0W ws a).snd)from by simp[loadA, *]];exact gF [] Tryz.func91 [] (Fc 11 (@Zdk ws a aa aa) (Ft 15 hc0 Fz))
 ·have hf5:=ZcD hc0p;obtain⟨hf5a,⟨hf5ba,hf5bb⟩⟩:=hf5;rw[show loadA ws a=(ws.getD (Z0W ws a).fst.toNat default,(0:Int))from by simp[loadA, *]];refine gspec_ofE [((11:Nat),[Hint.call true (AV.tu [int (Z0W ws a).fst,int (Z0W ws a).snd]) []]),((15:Nat),[Hint.br false]),((19:Nat),[Hint.el (wdv (ws.getD (Z0W ws a).fst.toNat default))])] [] [] dd Tryz.func91 [] (φ:=GP 147 [Z01 ws,u64 a] true (AV.tu [int (Z0W ws a).fst,int (Z0W ws a).snd]) []∧((Z0W ws a).snd != (0:Int))=false∧false=false∧(0:Int)≤(Z0W ws a).fst∧(List.map wdv ws)[(Z0W ws a).fst.toNat]? = some (wdv (ws.getD (Z0W ws a).fst.toNat default))) ?_ kr kr;exact⟨(@Zdk (ws) (a) aa aa),aa,rfl,(by exact elI oq oq oq)⟩
theorem Zb6(ws:List Int)(a n:Int)(hw:ws.length≤1048576)(h0:0≤a∧a≤18446744073709551615):GP 114 [Z01 ws,u64 a,int n] true (.tu [Z01 (Z1i ws a n).1,int (Z1i ws a n).2]) []:=by
 rcases bb (decide (n<0))with hc0 | hc0<;>have hc0p:=hc0<;>simp only[bs]at hc0p
 ·exact gF [] Tryz.func114 [true] (Ft 11 hc0 (Fnl (Fa (by simp[Z1i, *]:[]=List.map wdv (Z1i ws a n).fst) (Fa (by simp[Z1i, *]:1=(Z1i ws a n).snd) Fz))))
 ·have Q0 {h_ c_ p_} (r_:Fq h_ c_ p_):=Ff 11 hc0 (Fc 16 (@Z5I ws a n aa aa) r_);rcases bb (!(Z0b ws a n).snd)with hc9 | hc9<;>have hc9p:=hc9<;>simp only[bs]at hc9p
  ·have hf12:=ZcO hc9p;exact gF [] Tryz.func114 [true] (Q0 (Ft 20 hc9 (Fnl (Fa (by(simp only[Z1i] ;exact sj):[]=List.map wdv (Z1i ws a n).fst) (Fa (by(simp only[Z1i] ;exact sj):2=(Z1i ws a n).snd) Fz)))))
  ·have hf14:=ZcZ hc9p;obtain⟨hf14a,⟨hf14ba,⟨hf14bba,hf14bbb⟩⟩⟩:=hf14;rw[show Z1i ws a n=(List.take (((Z0b ws a n).fst+n).toNat-(Z0b ws a n).fst.toNat) (List.drop (Z0b ws a n).fst.toNat ws),(0:Int))from by(simp[Z1i, *];omega)];exact gF [] Tryz.func114 [] (Fh 28 [.els (List.map wdv (List.take (((Z0b ws a n).fst+n).toNat-(Z0b ws a n).fst.toNat) (List.drop (Z0b ws a n).fst.toNat ws)))] (Q0 (Ff 20 hc9 (Fs 21 (List.map wdv []) (Fi 26 ((Z0b ws a n).fst+n) (Fa (by(simp only[List.length_map];omega):0≤(Z0b ws a n).fst∧(Z0b ws a n).fst≤(Z0b ws a n).fst+n∧(Z0b ws a n).fst+n≤(↑(List.map wdv ws).length:Int)) (Fa (by simp[Z1i,List.map_take,List.map_drop,List.map_set,List.map_append,wdv,idv]:List.take (((Z0b ws a n).fst+n).toNat-(Z0b ws a n).fst.toNat) (List.drop (Z0b ws a n).fst.toNat (List.map wdv ws))=List.map wdv (List.take (((Z0b ws a n).fst+n).toNat-(Z0b ws a n).fst.toNat) (List.drop (Z0b ws a n).fst.toNat ws))) (Fa (by(simp[Z1i, *];omega):(List.map wdv []).length+(List.map wdv (List.take (((Z0b ws a n).fst+n).toNat-(Z0b ws a n).fst.toNat) (List.drop (Z0b ws a n).fst.toNat ws))).length≤2^30) (Fs 27 (List.map wdv (List.take (((Z0b ws a n).fst+n).toNat-(Z0b ws a n).fst.toNat) (List.drop (Z0b ws a n).fst.toNat ws))) (Fa (by exact Z2I _:Z0S (List.map wdv (List.take (((Z0b ws a n).fst+n).toNat-(Z0b ws a n).fst.toNat) (List.drop (Z0b ws a n).fst.toNat ws)))) Fz))))))))))
def wr{α:Type}(ws l:List α)(i k:Nat):List α:=ws.take i++l.take k++ws.drop (i+k)
theorem Z7t{α:Type}(ws l:List α)(i:Nat):wr ws l i 0=ws:=by simp[wr]
theorem Zds{α:Type}(ws l:List α)(i:Nat):wr ws l i l.length=spl ws i l:=by simp[wr,spl]
theorem Z4l{α:Type}{ws l:List α}{i k:Nat}(h:i+l.length≤ws.length)(hk:k≤l.length):(wr ws l i k).length=ws.length:=by
 simp[wr];omega
theorem Z3P{α:Type}{ws l:List α}{i:Nat}(h:i+l.length≤ws.length):(spl ws i l).length=ws.length:=by
 rw[← Zds];exact Z4l h (Nat.le_refl _)
theorem Z8S{α:Type}{ws l:List α}{i k:Nat}(h:i+l.length≤ws.length)(hk:k≤l.length)(j:Nat):(wr ws l i k)[j]? = if j<i then ws[j]? else if j<i+k then l[j-i]? else ws[j]? := by
 have e:(l.take k).length=k:=by simp;omega
 have:=Z2r (l:=ws) (xs:=l.take k) (o:=i) oq j;rw[e]at this;rw[wr,this];split
 ·rfl
 ·split
  ·rw[List.getElem?_take_of_lt oq]
  ·rfl
theorem Z97{α:Type}{ws l:List α}{i k:Nat}(h:i+l.length≤ws.length)(hk:k<l.length)(d:α):(wr ws l i k).set (i+k) (l.getD k d)=wr ws l i (k+1):=by
 apply List.ext_getElem?;intro j;have hl:=Z4l h (Nat.le_of_lt hk);rw[List.getElem?_set,Z8S h oq,Z8S h oq,hl];by_cases hj:i+k=j
 ·subst hj;rw[if_pos rfl,if_pos oq,if_neg oq,if_pos oq];simp[List.getD,hk]
 ·rw[if_neg hj];by_cases h1:j<i
  ·rw[if_pos h1,if_pos h1]
  ·rw[if_neg h1,if_neg h1];by_cases h2:j<i+k
   ·rw[if_pos h2,if_pos oq]
   ·rw[if_neg h2,if_neg oq]
def Z8Z(ws l:List Int)(i:Int)(k:Nat):Tg:=⟨tm 41 [(2,Z01 l),(8,int i),(10,.ow 32024),(11,int k)],[(32024,.arr 35 1 ((wr ws l i.toNat k).map wdv))],60⟩
theorem Zet(ws l:List Int)(i:Int)(k:Nat)(hw:ws.length≤1048576)(hi:0≤i)(h:i.toNat+l.length≤ws.length)(hk:k<l.length):CP (rndF Tryz.f150 0) (Z8Z ws l i k).st .nrm (Z8Z ws l i (k+1)).st:=by
 have hs:=Z97 h hk default;have hn:=Z4l h (Nat.le_of_lt hk);have ei:i+k=((i.toNat+k:Nat):Int):=by omega
 exact sF [] (fO 4) (Fh 10039 [.els (List.map wdv ((wr ws l i.toNat k).set (↑(i.toNat+k):Int).toNat (l.getD k default)))] (FM 27 28 wdv l k (Fg 34 (by rw[wrapI' oq oq];omega:IntKind.i64.wrap (i+(↑k:Int))=(↑(i.toNat+k):Int)) (Fek 37 wdv l (↑k) k (Fa (by(simp only[List.length_map];omega):0≤(↑(i.toNat+k):Int)∧(↑(i.toNat+k):Int).toNat<(List.map wdv (wr ws l i.toNat k)).length) (Fa (by(simp only[List.length_map];omega):(↑(i.toNat+k):Int).toNat<(List.map wdv (wr ws l i.toNat k)).length) (Fa (ms:(List.map wdv (wr ws l i.toNat k)).set (↑(i.toNat+k):Int).toNat [du64 (l.getD k default)]=List.map wdv ((wr ws l i.toNat k).set (↑(i.toNat+k):Int).toNat (l.getD k default))) (Fx 30 k (Fr (35:Int) (Fa (by refine congrArg _ ?_;exact hs:List.map wdv ((wr ws l i.toNat k).set (↑(i.toNat+k):Int).toNat (l.getD k default))=List.map wdv (wr ws l i.toNat (k+1))) Fz))))))))))
theorem ZjQ(ws l:List Int)(i:Int):CP (rndF Tryz.f150 0) (Z8Z ws l i l.length).st (.ext 0) (Tg.st ⟨tm 41 [(10,.ow 32024)],[(32024,.arr 35 1 ((spl ws i.toNat l).map wdv))],60⟩):=by
 have hs:=Zds ws l i.toNat
 exact sF [] [false,true] (FO 27 28 wdv l (Fr (35:Int) (Fa (by refine congrArg _ ?_;assumption:List.map wdv (wr ws l i.toNat l.length)=List.map wdv (spl ws i.toNat l)) Fz)))
theorem Zhi(ws l:List Int)(i:Int)(hw:ws.length≤1048576)(hi:0≤i)(h:i.toNat+l.length≤ws.length):CP (blkF Tryz.f150 0) (Tg.st ⟨tm 41 [(2,Z01 l),(8,int i),(10,.ow 32024),(11,int 0)],[(32024,.arr 35 1 (ws.map wdv))],60⟩) .nrm (Tg.st ⟨tm 41 [(10,.ow 32024)],[(32024,.arr 35 1 ((spl ws i.toNat l).map wdv))],60⟩):=by
 have:=Z0a (S:=fun k=>(Z8Z ws l i k).st) l.length kr (fun k hk=>Zet ws l i k hw hi h hk) (ZjQ ws l i);simp only[Z8Z,Z7t]at this;exact this
theorem Z58(ws l:List Int)(a:Int)(hw:ws.length≤1048576)(h0:0≤a∧a≤18446744073709551615)(hl:l.length≤1048576):GP 150 [Z01 ws,u64 a,Z01 l] true (.tu [Z01 (Z0z ws a l).1,int (Z0z ws a l).2]) []:=by
 have Q0 {h_ c_ p_} (r_:Fq h_ c_ p_):=Fl 16 wdv l (Fc 17 (@Z5I ws a ((↑l.length:Int)) aa aa) r_);rcases bb (!(Z0b ws a (↑l.length:Int)).snd)with hc0 | hc0<;>have hc0p:=hc0<;>simp only[bs]at hc0p
 ·have hf3:=ZcO hc0p;exact gF [] Tryz.func150 [true] (Q0 (Ft 21 hc0 (Fnl (Fa (by(simp only[Z0z] ;exact sj):[]=List.map wdv (Z0z ws a l).fst) (Fa (by(simp only[Z0z] ;exact sj):2=(Z0z ws a l).snd) Fz)))))
 ·have hf5:=ZcZ hc0p;obtain⟨hf5a,⟨hf5ba,⟨hf5bba,hf5bbb⟩⟩⟩:=hf5;rw[show Z0z ws a l=(spl ws (Z0b ws a (↑l.length:Int)).fst.toNat l,(0:Int))from by simp[Z0z, *]];exact gF [] Tryz.func150 [] (Q0 (Ff 21 hc0 (FAx 22 24 wdv ws (by(simp[Z0z, *];omega)) (Fu (@Zhi ws l ((Z0b ws a (↑l.length:Int)).fst) aa oq oq) (Fa (by exact Z2I _:Z0S (List.map wdv (spl ws (Z0b ws a (↑l.length:Int)).fst.toNat l))) Fz)))))
theorem Z9E(ws:List Int)(a v:Int)(hw:ws.length≤1048576)(h0:0≤a∧a≤18446744073709551615):GP 97 [Z01 ws,u64 a,u64 v] false (.tu [Z01 (Z0J ws a v).1,int (Z0J ws a v).2]) []:=by
 exact gF [] Tryz.func97 [] (Fs 11 (List.map wdv [v]) (Fc 12 (@Z58 ws ([v]) a aa aa (by simp[Z0J, *])) Fz))
theorem Zmt(ws:List Int)(a b n:Int)(hw:ws.length≤1048576)(h0:0≤a∧a≤18446744073709551615)(h1:0≤b∧b≤18446744073709551615):GP 95 [Z01 ws,u64 a,u64 b,int n] false (.tu [Z01 (moveA ws a b n).1,int (moveA ws a b n).2]) []:=by
 have hr:=Zcm ws b n;have Q0 {h_ c_ p_} (r_:Fq h_ c_ p_):=Fc 16 (@Zb6 ws b n aa aa) r_;rcases bb ((Z1i ws b n).snd != 0)with hc0 | hc0<;>have hc0p:=hc0<;>simp only[bs]at hc0p
 ·exact gF [] Tryz.func95 [true] (Q0 (Ft 20 hc0 (Fnl (Fa (by simp[moveA, *]:[]=List.map wdv (moveA ws a b n).fst) (Fa (by simp[moveA, *]:(Z1i ws b n).snd=(moveA ws a b n).snd) Fz)))))
 ·rw[show moveA ws a b n=Z0z ws a (Z1i ws b n).fst from by simp[moveA, *]];exact gF [] Tryz.func95 [] (Q0 (Ff 20 hc0 (Fc 25 (@Z58 ws ((Z1i ws b n).fst) a aa aa oq) Fz)))
theorem Z3g(n:Int):GP 122 [int n] true (bool (decide (0≤n)&&decide (n≤2147483647))) []:=by
 exact gF [] Tryz.func122 [] Fz
def Z1d(sp:Int):List Page→Nat
 | []=>0
 | p::r=>if p.K=3∧p.S=sp then Z1d sp r+1 else 0
theorem Z5u(sp:Int):∀ l,Z1d sp l≤l.length
 | []=>Nat.le_refl _
 | p::r=>by
  have:=Z5u sp r;simp only[Z1d,List.length_cons];split<;>omega
theorem drop_at{l:List Page}{k:Nat}(h:k<l.length):l.drop k=l.getD k default::l.drop (k+1):=by
 rw[List.drop_eq_getElem_cons h];simp[List.getD,h]
def Zg2(l:List Page)(sp:Int)(n k:Nat):Tg:=⟨tm 37 [(0,Z0r l),(2,int sp),(7,int n),(8,int k)],[],60⟩
theorem ZgO(l:List Page)(hl:l.length≤1048576)(sp:Int)(n k:Nat)(hn:n≤k)(hk:k<l.length)(h:(l.getD k default).K=3∧(l.getD k default).S=sp):CP (rndF Tryz.f124 0) (Zg2 l sp n k).st .nrm (Zg2 l sp (n+1) (k+1)).st:=by
 let y0:=(↑k:Int)<(↑l.length:Int);exact sF [] [] (Fl 13 Page.dv l (FeG 18 (decide y0) Page.dv l (↑k) k (FeG 26 (decide y0&&(l.getD k default).K==3) Page.dv l (↑k) k (Ftb 31 (decide y0&&(l.getD k default).K==3&&(l.getD k default).S==sp) (Fx 35 n (Fx 33 k Fz))))))
theorem Zg6(l:List Page)(hl:l.length≤1048576)(sp:Int)(n k:Nat)(h:k<l.length→¬ ((l.getD k default).K=3∧(l.getD k default).S=sp)):CP (rndF Tryz.f124 0) (Zg2 l sp n k).st (.ext 0) (Tg.st ⟨tm 37 [(7,int n)],[],60⟩):=by
 let y0:=(↑k:Int)<(↑l.length:Int);exact sF [] [] (Fl 13 Page.dv l (FeG 18 (decide y0) Page.dv l (↑k) k (FeG 26 (decide y0&&(l.getD k default).K==3) Page.dv l (↑k) k (Ffb 31 (decide y0&&(l.getD k default).K==3&&(l.getD k default).S==sp) Fz))))
theorem Zoj(l:List Page)(hl:l.length≤1048576)(sp:Int):∀ (m n k:Nat),l.length-k=m→n≤k→LSpec Tryz.prog Tryz.f124 0 (Zg2 l sp n k).st (.ext 0) (Tg.st ⟨tm 37 [(7,int ((n+Z1d sp (l.drop k):Nat):Int))],[],60⟩):=by
 intro m;induction m with
 | zero =>
  intro n k hm hn;have e:l.drop k=[]:=List.drop_eq_nil_of_le oq;rw[e];exact .endx (Zg6 l hl sp n k (fun h=>by omega))
 | succ m ih =>
  intro n k hm hn;rw[drop_at oq,Z1d];by_cases h:(l.getD k default).K=3∧(l.getD k default).S=sp
  ·rw[if_pos h];have:=ih (n+1) (k+1) oq oq;rw[show n+1+Z1d sp (l.drop (k+1))=n+(Z1d sp (l.drop (k+1))+1)from by omega]at this;exact .next (ZgO l hl sp n k hn oq h) this
  ·rw[if_neg h];exact .endx (Zg6 l hl sp n k (fun _=>h))
theorem Zka(l:List Page)(sp:Int)(k:Nat)(hl:l.length≤1048576):CP (blkF Tryz.f124 0) (Tg.st ⟨tm 37 [(0,Z0r l),(2,int sp),(7,int 0),(8,int k)],[],60⟩) .nrm (Tg.st ⟨tm 37 [(7,int (Z1d sp (l.drop k)))],[],60⟩):=by
 have:=(Zoj l hl sp _ 0 k rfl oq).ext kr;rw[Nat.zero_add]at this;exact this
theorem ZdG(l:List Page)(i:Nat)(sp:Int)(hl:l.length≤1048576)(hi:i<l.length):GP 124 [Z0r l,int i,int sp] true (int (Z1d sp (l.drop (i+1)))) []:=by
 exact gF [] Tryz.func124 [] (Fx 10 i (Fu (@Zka l sp (i+1) aa) Fz))
def rchk(c:Conf)(l:List Page)(i:Nat)(due:Int):Prop :=
 ((l.getD i default).K=3↔0<due)∧0≤(l.getD i default).S∧(l.getD i default).S≤1∧0≤(l.getD i default).N∧(l.getD i default).N≤2147483647 ∧
 0≤(l.getD i default).K∧(l.getD i default).K≤3 ∧
 ((l.getD i default).K=0→(l.getD i default).S=0∧(l.getD i default).U=0∧(l.getD i default).N=0) ∧
 ((l.getD i default).K=1→0≤(l.getD i default).U∧(l.getD i default).U≤c.pw) ∧
 ((l.getD i default).K=2→1≤need c (l.getD i default).U∧need c (l.getD i default).U-1≤Z1d (l.getD i default).S (l.drop (i+1))) ∧
 ((l.getD i default).K=3→(l.getD i default).U=0∧(l.getD i default).N=0)
def rdue(c:Conf)(l:List Page)(i:Nat)(due:Int):Int:=if(l.getD i default).K=2 then need c (l.getD i default).U-1 else max 0 (due-1)
def ZaX(h:Heap)(i:Nat)(due:Int):Tg:=⟨tm 157 [(1,.pt 8001 0 0),(2,bool false),(3,int due),(4,int i)],[(8001,.box 28 h.cells)],60⟩
theorem Z3F(c:Conf)(n:Int):-1≤need c n∧need c n≤5:=by
 unfold need;split
 ·rename_i h;have:=validB_iff.1 h.1;split
  ·omega
  ·have h1:0≤(n+c.pw-1)/c.pw:=Int.ediv_nonneg oq oq;have h2:(n+c.pw-1)/c.pw<6:=Int.ediv_lt_of_lt_mul oq oq;omega
 ·omega
theorem ZaC(h:Heap)(i:Nat)(due:Int)(hl:h.P.length≤1048576)(hi:i<h.P.length)(hd:0≤due∧due≤5)(hc:rchk h.C h.P i due):CP (rndF Tryz.f70 0) (ZaX h i due).st .nrm (ZaX h (i+1) (rdue h.C h.P i due)).st:=by
 have hn:=Z3F h.C (h.P.getD i default).U;have ht:=Z5u (h.P.getD i default).S (h.P.drop (i+1));rw[List.length_drop]at ht;unfold rchk at hc;let y0:=h.P.getD i default;have Q0 {h_ c_ p_} (r_:Fq h_ c_ p_):=FN 72 73 79 Page.dv h.P i (FcG 100 (!(!(y0.K==3)==decide (0<due)||decide (y0.S<0)||decide (1<y0.S))) (fun hg=>by(try simp only[bs]at hg);exact @Z3g (y0.N)) (Ffb 102 (!(y0.K==3)==decide (0<due)||decide (y0.S<0)||decide (1<y0.S)||!(decide (0≤y0.N)&&decide (y0.N≤2147483647))) r_));rcases bb ((h.P.getD i default).K==0)with hc0 | hc0<;>have hc0p:=hc0<;>simp only[bs]at hc0p
 ·exact sF [] (fO 12) (Fh 105 [.br true] (Q0 (Fa hc0 (Ffb 109 (!(y0.K==0&&(y0.S==0&&(y0.U==0&&y0.N==0)))) (Fi 155 (due-1) (Fgo 156 (if due-1 > 0 then due-1 else 0) (max 0 (due-1)) (Fx 75 i (Fa (by grind[rdue]:max 0 (due-1)=rdue h.C h.P i due) Fz))))))))
 ·rcases bb ((h.P.getD i default).K==1)with hc1 | hc1<;>have hc1p:=hc1<;>simp only[bs]at hc1p
  ·exact sF [] (fO 18) (Fh 110 [.br true] (Fh 122 [.br false] (Q0 (Fa hc0 (Fa hc1 (Ffb 105 (decide (y0.U<0)||decide (h.C.pw<y0.U)) (Fi 155 (due-1) (Fgo 156 (if due-1 > 0 then due-1 else 0) (max 0 (due-1)) (Fx 75 i (Fa (by grind[rdue]:max 0 (due-1)=rdue h.C h.P i due) Fz))))))))))
  ·rcases bb ((h.P.getD i default).K==2)with hc2 | hc2<;>have hc2p:=hc2<;>simp only[bs]at hc2p
   ·let y1:=need h.C y0.U-1;exact sF [] (fO 21) (Fh 110 [.br false] (Fh 123 [.br true] (Fh 142 [.br false] (Q0 (Fa hc0 (Fa hc1 (Fa hc2 (Fc 129 (@Z4G h.C (y0.U)) (FcG 138 (!decide (need h.C y0.U<1)) (fun hg=>by(try simp only[bs]at hg);exact @ZdG h.P i (y0.S) aa aa) (FiG 140 (!decide (need h.C y0.U<1)) y1 (Ffb 105 (decide (need h.C y0.U<1)||decide ((↑(Z1d y0.S (List.drop (i+1) h.P)):Int)<need h.C y0.U-1)) (Fi 155 y1 (Fgo 156 (if need h.C y0.U-1 > 0 then need h.C y0.U-1 else 0) (max 0 y1) (Fx 75 i (Fa (by grind[rdue]:max 0 y1=rdue h.C h.P i due) Fz)))))))))))))))
   ·exact sF [] (fO 15) (Fh 110 [.br false] (Fh 123 [.br false] (Fh 144 [.br true] (Fh 153 [.br false] (Q0 (Fa hc0 (Fa hc1 (Fa hc2 (Fb ((y0.K==3)=true) (Ffb 105 (y0.U != 0||y0.N != 0) (Fi 155 (due-1) (Fgo 156 (if due-1 > 0 then due-1 else 0) (max 0 (due-1)) (Fx 75 i (Fa (by grind[rdue]:max 0 (due-1)=rdue h.C h.P i due) Fz))))))))))))))
theorem Zlm(h:Heap)(i:Nat)(due:Int)(hl:h.P.length≤1048576)(hi:i<h.P.length)(hd:0≤due∧due≤5)(hc:¬ rchk h.C h.P i due):CP (rndF Tryz.f70 0) (ZaX h i due).st .ret (Tg.st ⟨tm 157 [(2,bool false)],[],60⟩):=by
 have hn:=Z3F h.C (h.P.getD i default).U;have ht:=Z5u (h.P.getD i default).S (h.P.drop (i+1));rw[List.length_drop]at ht;unfold rchk at hc;let y0:=h.P.getD i default;have Q0 {h_ c_ p_} (r_:Fq h_ c_ p_):=FN 72 73 79 Page.dv h.P i (FcG 100 (!(!(y0.K==3)==decide (0<due)||decide (y0.S<0)||decide (1<y0.S))) (fun hg=>by(try simp only[bs]at hg);exact @Z3g (y0.N)) r_);rcases bb (!((h.P.getD i default).K==3)==decide (0<due)||decide ((h.P.getD i default).S<0)||decide (1<(h.P.getD i default).S)||!(decide (0≤(h.P.getD i default).N)&&decide ((h.P.getD i default).N≤2147483647)))with hc0 | hc0<;>have hc0p:=hc0<;>simp only[bs]at hc0p
 ·exact sF [] [] (Q0 (Ft 102 hc0 Fz))
 ·obtain⟨⟨⟨hc0paaa,hc0paab⟩,hc0pab⟩,⟨hc0pba,hc0pbb⟩⟩:=hc0p;rcases bb ((h.P.getD i default).K==0)with hc1 | hc1<;>have hc1p:=hc1<;>simp only[bs]at hc1p
  ·exact sF [] [] (Fh 109 [.br true] (Q0 (Ff 102 hc0 (Fa hc1 (Ftb 105 (!(y0.K==0&&(y0.S==0&&(y0.U==0&&y0.N==0)))) Fz)))))
  ·rcases bb ((h.P.getD i default).K==1)with hc2 | hc2<;>have hc2p:=hc2<;>simp only[bs]at hc2p
   ·exact sF [] [] (Fh 105 [.br false] (Fh 122 [.br true] (Q0 (Ff 102 hc0 (Fa hc1 (Fa hc2 (Ftb 110 (decide ((h.P.getD i default).U<0)||decide (h.C.pw<(h.P.getD i default).U)) Fz)))))))
   ·rcases bb ((h.P.getD i default).K==2)with hc3 | hc3<;>have hc3p:=hc3<;>simp only[bs]at hc3p
    ·exact sF [] [] (Fh 105 [.br false] (Fh 110 [.br false] (Fh 142 [.br true] (Q0 (Ff 102 hc0 (Fa hc1 (Fa hc2 (Fa hc3 (Fc 129 (@Z4G h.C (y0.U)) (FcG 138 (!decide (need h.C y0.U<1)) (fun hg=>by(try simp only[bs]at hg);exact @ZdG h.P i (y0.S) aa aa) (FiG 140 (!decide (need h.C y0.U<1)) (need h.C y0.U-1) (Ftb 123 (decide (need h.C y0.U<1)||decide ((↑(Z1d y0.S (List.drop (i+1) h.P)):Int)<need h.C y0.U-1)) Fz))))))))))))
    ·rcases bb ((h.P.getD i default).K==3)with hc4 | hc4<;>have hc4p:=hc4<;>simp only[bs]at hc4p
     ·exact sF [] [] (Fh 105 [.br false] (Fh 110 [.br false] (Fh 123 [.br false] (Fh 153 [.br true] (Q0 (Ff 102 hc0 (Fa hc1 (Fa hc2 (Fa hc3 (Fa hc4 (Ftb 144 (y0.U != 0||y0.N != 0) Fz)))))))))))
     ·exact sF [] [] (Fh 105 [.br false] (Fh 110 [.br false] (Fh 123 [.br false] (Fh 144 [.br false] (Q0 (Ff 102 hc0 (Fa hc1 (Fa hc2 (Fa hc3 (Fa hc4 Fz))))))))))
theorem ZfL(h:Heap)(due:Int):CP (rndF Tryz.f70 0) (ZaX h h.P.length due).st (.ext 0) (Tg.st ⟨tm 157 [],[],60⟩):=by
 exact sF [] [] (FO 72 73 Page.dv h.P Fz)
instance (c:Conf) (l:List Page) (i:Nat) (due:Int):Decidable (rchk c l i due):=by unfold rchk;infer_instance
def rpB(c:Conf)(l:List Page):Nat→Nat→Int→Bool
 | 0,_,_=>true
 | f+1,i,due=>if i<l.length then decide (rchk c l i due)&&rpB c l f (i+1) (rdue c l i due)else true
theorem Zl1{c:Conf}{l:List Page}{f i:Nat}{due:Int}(h:l.length≤i):rpB c l f i due=true:=by
 cases f with
 | zero=>rfl
 | succ f=>rw[rpB,if_neg oq]
theorem Zbx{c:Conf}{l:List Page}{f i:Nat}{due:Int}(h:i<l.length)(hf:l.length≤i+f):rpB c l f i due=(decide (rchk c l i due)&&rpB c l (f-1) (i+1) (rdue c l i due)):=by
 cases f with
 | zero=>omega
 | succ f=>rw[rpB,if_pos h];rfl
theorem Z6h{c:Conf}{l:List Page}{f i:Nat}(h:i<l.length)(hf:l.length≤i+f):Z2x c l f i=(if Z1q c l i=0 then false else Z2x c l (f-1) (i+Z1q c l i)):=by
 cases f with
 | zero=>omega
 | succ f=>rw[Z2x,if_pos h];rfl
theorem Zez{c:Conf}{l:List Page}:∀ {m f g i:Nat},l.length-i≤m→l.length≤i+f→l.length≤i+g→Z2x c l f i=Z2x c l g i:=by
 intro m;induction m with
 | zero =>
  intro f g i hm hf hg;have e:∀ f,Z2x c l f i=true:=by
   intro f;cases f with
   | zero=>rw[Z2x,decide_eq_true oq]
   | succ f=>rw[Z2x,if_neg oq]
  rw[e,e]
 | succ m ih =>
  intro f g i hm hf hg;by_cases h:i<l.length
  ·rw[Z6h h hf,Z6h h hg];by_cases h0:Z1q c l i=0
   ·rw[if_pos h0,if_pos h0]
   ·rw[if_neg h0,if_neg h0];exact ih oq oq oq
  ·exact ih oq hf hg
theorem getD_at{l:List Page}{i:Nat}(h:i<l.length):l[i]? = some (l.getD i default):=by
 simp[List.getD,h]
theorem Ziv{c:Conf}{l:List Page}{sp:Int}(hsp:sp=0∨sp=1)(q:Page)(hq:q.S=sp):∀ (d f i:Nat),d≤Z1d sp (l.drop i)→i+d≤l.length→l.length≤i+f →
  rpB c l f i d=(Z5V q ((l.drop i).take d)&&rpB c l (f-d) (i+d) 0):=by
 intro d;induction d with
 | zero=>intro f i _ _ _;simp[Z5V]
 | succ d ih =>
  intro f i h1 h2 hf;have hi:i<l.length:=by omega
  rw[drop_at hi,Z1d]at h1;by_cases hk:(l.getD i default).K=3∧(l.getD i default).S=sp
  ·rw[if_pos hk]at h1;have hd:rdue c l i ((d+1:Nat):Int)=(d:Int):=by
    unfold rdue;rw[if_neg oq];omega
   rw[Zbx hi hf,hd,ih (f-1) (i+1) oq oq oq,drop_at hi,List.take_succ_cons,show f-1-d=f-(d+1)from by omega,show i+1+d=i+(d+1)from by omega];have e:decide (rchk c l i ((d+1:Nat):Int))=Z5S (l.getD i default) q:=by
    rw[Bool.eq_iff_iff];simp only[decide_eq_true_eq,Z5S];unfold rchk;generalize l.getD i default=p at hk;obtain⟨a,b,u,v⟩:=p;simp only[Page.mk.injEq]at hk ⊢;omega
   rw[e];simp[Z5V,Bool.and_assoc]
  ·rw[if_neg hk]at h1;omega
theorem Z4H{sp:Int}{q:Page}(hq:q.S=sp):∀ {l:List Page} {d:Nat},Z5V q (l.take d)=true→d≤l.length→d≤Z1d sp l
 | _,0,_,_=>Nat.zero_le _
 | [],d+1,_,h=>by simp at h
 | p::l,d+1,h,hl=>by
  simp only[Z5V,List.take_succ_cons,List.all_cons,Bool.and_eq_true]at h;have h1:=h.1;simp only[Z5S,decide_eq_true_eq]at h1;have:=Z4H (sp:=sp) hq (l:=l) (d:=d) h.2 (by simpa using hl);rw[Z1d,if_pos (by rw[h1];exact⟨rfl,hq⟩)];omega
theorem ZhM{c:Conf}{l:List Page}:∀ {m f i:Nat},l.length-i≤m→l.length≤i+f→rpB c l f i 0=Z2x c l f i:=by
 intro m;induction m with
 | zero =>
  intro f i hm hf;rw[Zl1 oq];cases f with
  | zero=>rw[Z2x,decide_eq_true oq]
  | succ f=>rw[Z2x,if_neg oq]
 | succ m ih =>
  intro f i hm hf;by_cases hi:i<l.length;rotate_left
  ·exact ih oq hf
  have hp:=getD_at hi;rw[Zbx hi hf,Z6h hi hf];generalize hpe:l.getD i default=p at hp;have hone:∀ (b:Bool),rdue c l i 0=0→decide (rchk c l i 0)=b→Z1q c l i=(if b=true then 1 else 0)→(decide (rchk c l i 0)&&rpB c l (f-1) (i+1) (rdue c l i 0))=(if Z1q c l i=0 then false else Z2x c l (f-1) (i+Z1q c l i)):=by
   intro b h1 h2 h3;rw[h1,h2,h3,ih oq oq];cases b<;>simp
  by_cases hk2:p.K=2;rotate_left
  ·have hd:rdue c l i 0=0:=by unfold rdue;rw[hpe,if_neg hk2];omega
   by_cases hk0:p.K=0
   ·refine hone (Z4U p) hd ?_ (by rw[Z1q,hp];simp only[hk0,if_true]);rw[Bool.eq_iff_iff];simp only[decide_eq_true_eq,Z4U];unfold rchk;rw[hpe];obtain⟨a,b,u,v⟩:=p;simp only[Page.mk.injEq]at hk0 hk2 ⊢;omega
   ·by_cases hk1:p.K=1
    ·refine hone (Z5h p c) hd ?_ (by rw[Z1q,hp];simp[hk1]);rw[Bool.eq_iff_iff];simp only[decide_eq_true_eq,Z5h,Z27,Z3R,Bool.and_eq_true,Bool.or_eq_true,beq_iff_eq];unfold rchk;rw[hpe];omega
    ·refine hone false hd ?_ (by rw[Z1q,hp];simp[hk0,hk1,hk2]);simp only[decide_eq_false_iff_not];unfold rchk;rw[hpe];omega
  ·have hd:rdue c l i 0=need c p.U-1:=by unfold rdue;rw[hpe,if_pos hk2]
   have hrc:rchk c l i 0↔Z2w p c=true∧need c p.U-1≤Z1d p.S (l.drop (i+1)):=by
    simp only[Z2w,Z27,Z3R,Bool.and_eq_true,Bool.or_eq_true,beq_iff_eq,decide_eq_true_eq];unfold rchk;rw[hpe];omega
   have hsp:Z1q c l i=(if Z2w p c=true then(if(need c p.U).toNat≤l.length-i∧Z5V p ((l.drop (i+1)).take ((need c p.U).toNat-1))=true then(need c p.U).toNat else 0)else 0):=by
    rw[Z1q,hp];simp[hk2]
   by_cases hl:Z2w p c=true
   ·have hn:1≤need c p.U∧(p.S=0∨p.S=1):=by
     simp only[Z2w,Z27,Z3R,Bool.and_eq_true,Bool.or_eq_true,beq_iff_eq,decide_eq_true_eq]at hl;omega
    have htl:=Z5u p.S (l.drop (i+1));rw[List.length_drop]at htl;rw[hsp,if_pos hl,hd];by_cases ht:need c p.U-1≤Z1d p.S (l.drop (i+1))
    ·rw[decide_eq_true (hrc.2 ⟨hl,ht⟩),Bool.true_and];have e:need c p.U-1=(((need c p.U).toNat-1:Nat):Int):=by omega
     rw[e,Ziv hn.2 p rfl _ _ _ oq oq oq];have hfit:(need c p.U).toNat≤l.length-i:=by omega
     cases htb:Z5V p ((l.drop (i+1)).take ((need c p.U).toNat-1))with
     | false=>simp
     | true =>
      simp only[hfit,and_self,if_true];rw[if_neg oq,Bool.true_and,ih oq oq,show i+1+((need c p.U).toNat-1)=i+(need c p.U).toNat from by omega];exact Zez (m:=l.length) oq oq oq
    ·rw[decide_eq_false (fun h=>ht (hrc.1 h).2),Bool.false_and];have hno:¬ ((need c p.U).toNat≤l.length-i∧Z5V p ((l.drop (i+1)).take ((need c p.U).toNat-1))=true):=by
      intro h;have:=Z4H (sp:=p.S) (q:=p) rfl h.2 (by rw[List.length_drop];omega);omega
     rw[if_neg hno];simp
   ·rw[hsp,if_neg hl,decide_eq_false (fun h=>hl (hrc.1 h).1)];simp
theorem ZaH{c:Conf}{l:List Page}{i:Nat}{due:Int}(hd:0≤due∧due≤5)(hc:rchk c l i due):0≤rdue c l i due∧rdue c l i due≤5:=by
 have:=Z3F c (l.getD i default).U;unfold rchk at hc;unfold rdue;split<;>omega
theorem Zoo(h:Heap)(hl:h.P.length≤1048576):∀ (f i:Nat) (due:Int),i≤h.P.length→h.P.length≤i+f→0≤due∧due≤5→rpB h.C h.P f i due=true→LSpec Tryz.prog Tryz.f70 0 (ZaX h i due).st (.ext 0) (Tg.st ⟨tm 157 [],[],60⟩):=by
 intro f;induction f with
 | zero =>
  intro i due hi hf hd hr;have:i=h.P.length:=by omega
  subst this;exact .endx (ZfL h due)
 | succ f ih =>
  intro i due hi hf hd hr;by_cases he:i<h.P.length
  ·rw[rpB,if_pos he,Bool.and_eq_true]at hr;have hc:=of_decide_eq_true hr.1;exact .next (ZaC h i due hl he hd hc) (ih (i+1) _ oq oq (ZaH hd hc) hr.2)
  ·have:i=h.P.length:=by omega
   subst this;exact .endx (ZfL h due)
theorem Zhe(h:Heap)(hl:h.P.length≤1048576):∀ (f i:Nat) (due:Int),0≤due∧due≤5→rpB h.C h.P f i due=false→LSpec Tryz.prog Tryz.f70 0 (ZaX h i due).st .ret (Tg.st ⟨tm 157 [(2,bool false)],[],60⟩):=by
 intro f;induction f with
 | zero=>intro i due hd hr;cases hr
 | succ f ih =>
  intro i due hd hr;by_cases he:i<h.P.length
  ·rw[rpB,if_pos he]at hr;by_cases hc:rchk h.C h.P i due
   ·rw[decide_eq_true hc,Bool.true_and]at hr;exact .next (ZaC h i due hl he hd hc) (ih (i+1) _ (ZaH hd hc) hr)
   ·exact .endr (Zlm h i due hl he hd hc)
  ·rw[rpB,if_neg he]at hr;cases hr
theorem Zjj(h:Heap)(hl:h.P.length≤1048576)(hr:rpB h.C h.P h.P.length 0 0=true):CP (blkF Tryz.f70 0) (Tg.st ⟨tm 157 [(1,.pt 8001 0 0),(2,bool false),(3,int 0),(4,int 0)],[(8001,.box 28 h.cells)],60⟩) .nrm (Tg.st ⟨tm 157 [],[],60⟩) :=
 (Zoo h hl _ 0 0 oq oq oq hr).ext kr
theorem ZdE(h:Heap)(hl:h.P.length≤1048576)(hr:rpB h.C h.P h.P.length 0 0=false):CP (blkF Tryz.f70 0) (Tg.st ⟨tm 157 [(1,.pt 8001 0 0),(2,bool false),(3,int 0),(4,int 0)],[(8001,.box 28 h.cells)],60⟩) .ret (Tg.st ⟨tm 157 [(2,bool false)],[],60⟩) :=
 (Zhe h hl _ 0 0 oq hr).ret kr
theorem Z3K(l:List Page)(i:Int):Z1e l i=l.getD i.toNat default:=by
 rw[Z1e,List.getD_eq_getElem?_getD];rfl
theorem properB_iff{h:Heap}:Z02 h=true↔Z05 h.C=true∧(h.W.length:Int)=h.C.pw*h.C.pg∧(h.P.length:Int)=h.C.pg∧(h.S=0∨h.S=1) ∧
  (h.B=-1∨(0≤h.B∧h.B<h.P.length∧(h.P.getD h.B.toNat default).K=1))∧rpB h.C h.P h.P.length 0 0=true:=by
 rw[ZhM (m:=h.P.length) oq oq];simp only[Z02,Bool.and_eq_true,shapeB_iff,ZhA,Bool.or_eq_true,beq_iff_eq,decide_eq_true_eq,Z3K];constructor
 ·rintro⟨⟨h1,h2,h3,h4⟩,h5,h6⟩;exact⟨h1,h2,h3,h4,by omega,h6⟩
 ·rintro⟨h1,h2,h3,h4,h5,h6⟩;exact⟨⟨h1,h2,h3,h4⟩,by omega,h6⟩
theorem Z0j(h:Heap):GP 70 [h.av] true (bool (Z02 h)) []:=by
  by_cases hv:Z05 h.C=true
  · have ha:=area hv;rw[Int.mul_comm]at ha;have hv':=validB_iff.1 hv;have ei:h.C.pg*h.C.pw=h.C.pw*h.C.pg:=Int.mul_comm _ _;cases hs:rpB h.C h.P h.P.length 0 0 with
    | true => rcases Bool.eq_false_or_eq_true (!Z05 h.C||(↑h.W.length:Int) != h.C.pw*h.C.pg||(↑h.P.length:Int) != h.C.pg||decide (h.S<(0:Int))||decide ((1:Int)<h.S))with hc0 | hc0
              · have hc0p:=hc0;simp only[bs]at hc0p;exact gF [] Tryz.func70 (fO 24) (Fh 21 [.int (h.C.pw*h.C.pg)] (Fc 9 (@Z0E h.C) (FlG 14 (!!Z05 h.C) wdv h.W (Fa (by intro hg;(try simp only[bs]at hg);rw[wrapI' oq oq];omega:(!!Z05 h.C)=true→IntKind.i64.wrap (h.C.pg*h.C.pw)=h.C.pw*h.C.pg) (FlG 27 (!(!Z05 h.C||(↑h.W.length:Int) != h.C.pw*h.C.pg)) Page.dv h.P (Ft 42 ‹(!Z05 h.C||(↑h.W.length:Int) != h.C.pw*h.C.pg||(↑h.P.length:Int) != h.C.pg||decide (h.S<0)||decide (1<h.S))=true› (Fa (by exact(Bool.eq_false_iff.2 (fun hh=>by obtain⟨q1,q2,q3,q4,q5,q6⟩:=properB_iff.1 hh;simp[hv]at hc0p;omega)).symm:false=Z02 h) Fz)))))))
              · have hc0p:=hc0;simp only[bs]at hc0p;obtain⟨⟨⟨⟨hc0paaaa,hc0paaab⟩,hc0paab⟩,hc0pab⟩,hc0pb⟩:=hc0p;have Q0 {h_ c_ p_} (r_:Fq h_ c_ p_):=Fc 9 (@Z0E h.C) (FlG 14 (!!Z05 h.C) wdv h.W (Fa (by intro hg;(try simp only[bs]at hg);rw[wrapI' oq oq];omega:(!!Z05 h.C)=true→IntKind.i64.wrap (h.C.pg*h.C.pw)=h.C.pw*h.C.pg) (FlG 27 (!(!Z05 h.C||(↑h.W.length:Int) != h.C.pw*h.C.pg)) Page.dv h.P (Ff 42 ‹(!Z05 h.C||(↑h.W.length:Int) != h.C.pw*h.C.pg||(↑h.P.length:Int) != h.C.pg||decide (h.S<0)||decide (1<h.S))=false› (FlG 55 (h.B != (-1:Int)&&!decide (h.B<0)) Page.dv h.P (FeGq 63 (h.B != (-1:Int)&&!(decide (h.B<0)||decide ((↑h.P.length:Int)≤h.B))) Page.dv h.P h.B r_))))));rcases bb (h.B != (-1:Int)&&(decide (h.B<0)||decide ((↑h.P.length:Int)≤h.B)||(h.P.getD h.B.toNat default).K != 1))with hc1 | hc1<;>have hc1p:=hc1<;>simp only[bs]at hc1p
                · obtain⟨hc1pa,hc1pb⟩:=hc1p;exact gF [] Tryz.func70 (fO 45) (Fh 21 [.int (h.C.pw*h.C.pg)] (Q0 (Ft 68 hc1 (Fa (by exact(Bool.eq_false_iff.2 (fun hh=>by obtain⟨q1,q2,q3,q4,q5,q6⟩:=properB_iff.1 hh;omega)).symm:false=Z02 h) Fz))))
                · exact gF [] Tryz.func70 (fO 50) (Fh 21 [.int (h.C.pw*h.C.pg)] (Q0 (Ff 68 hc1 (Fu (@Zjj h oq aa) (Fa (by exact(properB_iff.2 ⟨hv,by omega,by omega,by omega,by omega,hs⟩).symm:true=Z02 h) Fz)))))
    | false => rcases Bool.eq_false_or_eq_true (!Z05 h.C||(↑h.W.length:Int) != h.C.pw*h.C.pg||(↑h.P.length:Int) != h.C.pg||decide (h.S<(0:Int))||decide ((1:Int)<h.S))with hc0 | hc0
               · have hc0p:=hc0;simp only[bs]at hc0p;exact gF [] Tryz.func70 (fO 24) (Fh 21 [.int (h.C.pw*h.C.pg)] (Fc 9 (@Z0E h.C) (FlG 14 (!!Z05 h.C) wdv h.W (Fa (by intro hg;(try simp only[bs]at hg);rw[wrapI' oq oq];omega:(!!Z05 h.C)=true→IntKind.i64.wrap (h.C.pg*h.C.pw)=h.C.pw*h.C.pg) (FlG 27 (!(!Z05 h.C||(↑h.W.length:Int) != h.C.pw*h.C.pg)) Page.dv h.P (Ft 42 ‹(!Z05 h.C||(↑h.W.length:Int) != h.C.pw*h.C.pg||(↑h.P.length:Int) != h.C.pg||decide (h.S<0)||decide (1<h.S))=true› (Fa (by exact(Bool.eq_false_iff.2 (fun hh=>by obtain⟨q1,q2,q3,q4,q5,q6⟩:=properB_iff.1 hh;simp[hv]at hc0p;omega)).symm:false=Z02 h) Fz)))))))
               · have hc0p:=hc0;simp only[bs]at hc0p;obtain⟨⟨⟨⟨hc0paaaa,hc0paaab⟩,hc0paab⟩,hc0pab⟩,hc0pb⟩:=hc0p;have Q1 {h_ c_ p_} (r_:Fq h_ c_ p_):=Fc 9 (@Z0E h.C) (FlG 14 (!!Z05 h.C) wdv h.W (Fa (by intro hg;(try simp only[bs]at hg);rw[wrapI' oq oq];omega:(!!Z05 h.C)=true→IntKind.i64.wrap (h.C.pg*h.C.pw)=h.C.pw*h.C.pg) (FlG 27 (!(!Z05 h.C||(↑h.W.length:Int) != h.C.pw*h.C.pg)) Page.dv h.P (Ff 42 ‹(!Z05 h.C||(↑h.W.length:Int) != h.C.pw*h.C.pg||(↑h.P.length:Int) != h.C.pg||decide (h.S<0)||decide (1<h.S))=false› (FlG 55 (h.B != (-1:Int)&&!decide (h.B<0)) Page.dv h.P (FeGq 63 (h.B != (-1:Int)&&!(decide (h.B<0)||decide ((↑h.P.length:Int)≤h.B))) Page.dv h.P h.B r_))))));rcases bb (h.B != (-1:Int)&&(decide (h.B<0)||decide ((↑h.P.length:Int)≤h.B)||(h.P.getD h.B.toNat default).K != 1))with hc1 | hc1<;>have hc1p:=hc1<;>simp only[bs]at hc1p
                 · obtain⟨hc1pa,hc1pb⟩:=hc1p;exact gF [] Tryz.func70 (fO 45) (Fh 21 [.int (h.C.pw*h.C.pg)] (Q1 (Ft 68 hc1 (Fa (by exact(Bool.eq_false_iff.2 (fun hh=>by obtain⟨q1,q2,q3,q4,q5,q6⟩:=properB_iff.1 hh;omega)).symm:false=Z02 h) Fz))))
                 · exact gF [] Tryz.func70 (fO 50) (Fh 21 [.int (h.C.pw*h.C.pg)] (Q1 (Ff 68 hc1 (Fu (@ZdE h oq aa) (Fa (by exact(Bool.eq_false_iff.2 (fun hh=>by have q:=(properB_iff.1 hh).2.2.2.2.2;rw[hs]at q;cases q)).symm:false=Z02 h) Fz)))))
  · have hf:Z05 h.C=false:=by simpa using hv
    exact gF [] Tryz.func70 (fO 24) (Fc 9 (@Z0E h.C) (FlG 14 (!!Z05 h.C) wdv h.W (FlG 27 (!(!Z05 h.C||(↑h.W.length:Int) != IntKind.i64.wrap (h.C.pg*h.C.pw))) Page.dv h.P (Ft 42 (by simp[*]:(!Z05 h.C||(↑h.W.length:Int) != IntKind.i64.wrap (h.C.pg*h.C.pw)||(↑h.P.length:Int) != h.C.pg||decide (h.S<0)||decide (1<h.S))=true) (Fa (by exact(Bool.eq_false_iff.2 (fun hh=>hv (properB_iff.1 hh).1)).symm:false=Z02 h) Fz)))))
def WOk(ws:List Int):Prop:=∀ w∈ws,0≤w∧w≤18446744073709551615
theorem Zoh{ws:List Int}(h:WOk ws)(i:Nat):0≤ws.getD i 0∧ws.getD i 0≤18446744073709551615:=by
 rw[List.getD_eq_getElem?_getD];cases e:ws[i]? with
 | none=>simp
 | some x=>exact h x (List.mem_of_getElem? e)
theorem Z0F{ws:List Int}(h:WOk ws)(a:Int):0≤(loadA ws a).1∧(loadA ws a).1≤18446744073709551615:=by
 unfold loadA;split
 ·exact Zoh h _
 ·simp
theorem Z1E(w:Int)(h:0≤w):0≤(decodeH w).1.map∧(decodeH w).1.map≤4294967295:=by
 unfold decodeH;split
 ·exact Z8u w h
 ·simp[Z28]
theorem Z06{h:Heap}(hp:Z02 h=true):Z05 h.C=true∧16≤h.C.pw∧h.C.pw≤64∧8≤h.C.pg∧h.C.pg≤64∧(h.W.length:Int)=h.C.pw*h.C.pg∧h.W.length≤4096∧(h.P.length:Int)=h.C.pg∧(h.S=0∨h.S=1):=by
 simp only[Z02,Bool.and_eq_true]at hp;obtain⟨h1,h2,h3,h4⟩:=shapeB_iff.1 hp.1;have hv:=validB_iff.1 h1;have:=area h1;exact⟨h1,hv.1,hv.2.1,hv.2.2.2.1,hv.2.2.2.2,h2,by omega,h3,h4⟩
theorem Z2C{c:Conf}{a:Int}(hv:Z05 c=true)(h:(ofA c a).2.2=0):0≤(ofA c a).1∧(ofA c a).1<c.pg∧0≤(ofA c a).2.1∧(ofA c a).2.1<c.pw∧4096≤a∧a<4096+c.pw*c.pg∧a=4096+((ofA c a).1*c.pw+(ofA c a).2.1):=by
 have hb:=validB_iff.1 hv;unfold ofA at h ⊢;rw[if_pos hv]at h ⊢;split at h
 ·rename_i hc;rw[if_pos hc];simp only;have h1:0≤(a-4096)/c.pw:=Int.ediv_nonneg oq oq;have h2:(a-4096)/c.pw<c.pg:=Int.ediv_lt_of_lt_mul oq (by rw[Int.mul_comm];omega);have h3:=Int.emod_nonneg (a-4096) (b:=c.pw) oq;have h4:=Int.emod_lt_of_pos (a-4096) (b:=c.pw) oq;have h5:=Int.mul_ediv_add_emod (a-4096) c.pw;refine⟨h1,h2,h3,h4,hc.1,hc.2, ?_⟩;rw[Int.mul_comm]at h5;omega
 ·simp at h
def atH(h:Heap)(a:Int):Header×Int :=
 if Z02 h=true then
  (if(ofA h.C a).2.2=0 then
   (if((h.P.getD (ofA h.C a).1.toNat default).K=1∨(h.P.getD (ofA h.C a).1.toNat default).K=2)∧(ofA h.C a).2.1<(h.P.getD (ofA h.C a).1.toNat default).U∧(decodeH (loadA h.W a).1).2=true then
    (if((h.P.getD (ofA h.C a).1.toNat default).K=1∧(h.P.getD (ofA h.C a).1.toNat default).U<(ofA h.C a).2.1+sizeH (decodeH (loadA h.W a).1).1) ∨
      ((h.P.getD (ofA h.C a).1.toNat default).K=2∧((ofA h.C a).2.1≠0∨sizeH (decodeH (loadA h.W a).1).1≠(h.P.getD (ofA h.C a).1.toNat default).U))then(Z28,19)
     else((decodeH (loadA h.W a).1).1,0))
    else(Z28,19))
   else(Z28,2))
 else(Z28,1)
theorem Z1a(h:Header):0≤sizeH h∧sizeH h≤256:=by
 unfold sizeH;split
 ·have:=validH_iff.1 aa;omega
 ·omega
theorem Z5d(h:Heap)(a:Int)(hw:WOk h.W)(h0:0≤a∧a≤18446744073709551615):GP 83 [h.av,u64 a] true (.tu [(atH h a).1.av,int (atH h a).2]) []:=by
 have hr:=Z0F hw a;have hd:=Z1E (loadA h.W a).1 hr.1;have hs:=Z1a (decodeH (loadA h.W a).1).1;rcases bb (!Z02 h)with hc0 | hc0<;>have hc0p:=hc0<;>simp only[bs]at hc0p
 ·rw[show atH h a=(Header.mk (0:Int) (0:Int) (0:Int),(1:Int))from by simp[atH,Z28, *]];exact gF [] Tryz.func83 [] (Fc 16 (@Z0j h) (Ft 17 hc0 Fz))
 ·have hf5:=Z06 hc0p;obtain⟨hf5a,⟨hf5ba,⟨hf5bba,⟨hf5bbba,⟨hf5bbbba,⟨hf5bbbbba,⟨hf5bbbbbba,⟨hf5bbbbbbba,hf5bbbbbbbb⟩⟩⟩⟩⟩⟩⟩⟩:=hf5;have Q0 {h_ c_ p_} (r_:Fq h_ c_ p_):=Fc 16 (@Z0j h) (Ff 17 hc0 (Fc 23 (@Z4L h.C a oq oq) r_));rcases bb ((ofA h.C a).snd.snd != 0)with hc18 | hc18<;>have hc18p:=hc18<;>simp only[bs]at hc18p
  ·rw[show atH h a=(Header.mk (0:Int) (0:Int) (0:Int),(2:Int))from by simp[atH,Z28, *]];exact gF [] Tryz.func83 [] (Q0 (Ft 28 hc18 Fz))
  ·have hf25:=Z2C aa hc18p;obtain⟨hf25a,⟨hf25ba,⟨hf25bba,⟨hf25bbba,⟨hf25bbbba,⟨hf25bbbbba,hf25bbbbbb⟩⟩⟩⟩⟩⟩:=hf25;have Q1 {h_ c_ p_} (r_:Fq h_ c_ p_):=Q0 (Ff 28 hc18 (Fe 33 Page.dv h.P ((ofA h.C a).fst) (Fc 39 (@Z1M h.W a oq aa) (Fc 44 (@Z35 ((loadA h.W a).fst) oq oq) r_))));rcases bb ((h.P.getD (ofA h.C a).fst.toNat default).K != 1&&(h.P.getD (ofA h.C a).fst.toNat default).K != 2||decide ((h.P.getD (ofA h.C a).fst.toNat default).U≤(ofA h.C a).snd.fst)||!(decodeH (loadA h.W a).fst).snd)with hc27 | hc27<;>have hc27p:=hc27<;>simp only[bs]at hc27p
   ·rw[show atH h a=(Header.mk (0:Int) (0:Int) (0:Int),(19:Int))from by grind[atH,Z28]];exact gF [] Tryz.func83 [] (Q1 (Ft 64 hc27 Fz))
   ·obtain⟨⟨hc27paa,hc27pab⟩,hc27pb⟩:=hc27p;have Q2 {h_ c_ p_} (r_:Fq h_ c_ p_):=Q1 (Ff 64 hc27 (Fc 67 (@Z2a ((decodeH (loadA h.W a).fst).fst) aa) (FiG 74 ((h.P.getD (ofA h.C a).fst.toNat default).K==1) ((ofA h.C a).snd.fst+sizeH (decodeH (loadA h.W a).fst).fst) r_)));rcases bb ((h.P.getD (ofA h.C a).fst.toNat default).K==1&&decide ((h.P.getD (ofA h.C a).fst.toNat default).U<(ofA h.C a).snd.fst+sizeH (decodeH (loadA h.W a).fst).fst)||(h.P.getD (ofA h.C a).fst.toNat default).K==2&&((ofA h.C a).snd.fst != 0||sizeH (decodeH (loadA h.W a).fst).fst != (h.P.getD (ofA h.C a).fst.toNat default).U))with hc40 | hc40<;>have hc40p:=hc40<;>simp only[bs]at hc40p
    ·rw[show atH h a=(Header.mk (0:Int) (0:Int) (0:Int),(19:Int))from by(simp only[atH,Z28] ;exact sj)];exact gF [] Tryz.func83 [] (Q2 (Ft 93 hc40 Fz))
    ·obtain⟨hc40pa,hc40pb⟩:=hc40p;rw[show atH h a=((decodeH (loadA h.W a).fst).fst,(0:Int))from by grind[atH,Z28]];exact gF [] Tryz.func83 [] (Q2 (Ff 93 hc40 Fz))
abbrev aP(h:Heap)(a:Int):Page:=h.P.getD (ofA h.C a).fst.toNat default
end Go.Proofs.YtdhchmlalchgeaaGreat
namespace Go.Proofs.YtdhchmlalchgeaaGreat
open Go.Sx Go.RowKit
theorem Zgi{n:Nat}{l:List DV}(h:shp Tryz.prog (n+2) 22 l):∃ m:List Int,l=[.sl 1 (m.map idv)]∧m.length≤140737488355328:=by
 have e:shp Tryz.prog (n+2) 22 l=(∃ els:List (List DV),l=[.sl 1 els]∧els.length≤140737488355328∧∀ x∈els,shp Tryz.prog (n+1) 3 x):=by kernel_rfl
 rw[e]at h;obtain⟨els,rfl,h1,h2⟩:=h;obtain⟨m,rfl⟩:=Zar (f:=idv) fun x hx=>by
  obtain⟨v,rfl,_⟩:=Zn7 (h2 x hx);exact⟨v,rfl⟩
 exact⟨m,rfl,by simpa using h1⟩
end Go.Proofs.YtdhchmlalchgeaaGreat
namespace Go.Proofs.YtdhchmlalchgeaaGreat
open Go.Sx
theorem Z7r{w:Int}(h:(decodeH w).2=true):Z0g (decodeH w).1=true:=by
 unfold decodeH at h ⊢;split at h
 ·rename_i hc;rw[if_pos hc];have:=hc.1;unfold Z0c at this;split at this
  ·assumption
  ·simp at this
 ·cases h
theorem ZdI{h:Heap}{a:Int}(e:(atH h a).2=0):Z02 h=true∧(ofA h.C a).2.2=0∧4096≤a∧a<8192∧Z0g (atH h a).1=true∧0≤(atH h a).1.K∧(atH h a).1.K≤3∧0≤(atH h a).1.length∧(atH h a).1.length≤255:=by
 have key:Z02 h=true∧(ofA h.C a).2.2=0∧Z0g (atH h a).1=true:=by
  unfold atH at e ⊢;split at e
  ·rename_i h1;split at e
   ·rename_i h2;split at e
    ·rename_i h3;split at e
     ·simp at e
     ·rename_i h4;rw[if_pos h1,if_pos h2,if_pos h3,if_neg h4];exact⟨h1,h2,Z7r h3.2.2⟩
    ·simp at e
   ·simp at e
  ·simp at e
 obtain⟨k1,k2,k3⟩:=key;have p:=Z06 k1;have o:=Z2C p.1 k2;have v:=validH_iff.1 k3;have ar:=area p.1;exact⟨k1,k2,o.2.2.2.2.1,by omega,k3,v.1,v.2.1,v.2.2.1,v.2.2.2.1⟩
theorem Z3x{h:Heap}(hw:WOk h.W)(a:Int):0≤(atH h a).1.map∧(atH h a).1.map≤4294967295:=by
 have hr:=Z0F hw a;have hd:=Z1E (loadA h.W a).1 hr.1;unfold atH;repeat' split
 all_goals first | exact hd | simp[Z28]
def getH(h:Heap)(a:Int):Header×Int:=if Z02 h=true then(if a=0 then(Z28,5)else if(atH h a).2=0∧(atH h a).1.K=0 then(Z28,4)else atH h a)else(Z28,1)
theorem ZbG{h:Heap}(hw:WOk h.W)(a:Int):0≤(getH h a).1.map∧(getH h a).1.map≤4294967295:=by
 have:=Z3x hw a;unfold getH;repeat' split
 all_goals first | exact this | simp[Z28]
theorem Z47{h:Heap}{a:Int}(e:(getH h a).2=0):getH h a=atH h a∧(atH h a).2=0∧Z02 h=true∧(ofA h.C a).2.2=0∧4096≤a∧a<8192∧Z0g (getH h a).1=true∧1≤(getH h a).1.K∧(getH h a).1.K≤3∧0≤(getH h a).1.length∧(getH h a).1.length≤255:=by
 have key:getH h a=atH h a∧(atH h a).2=0∧(atH h a).1.K≠0:=by
  unfold getH at e ⊢;split at e
  ·rename_i h1;split at e
   ·simp at e
   ·rename_i h2;split at e
    ·simp at e
    ·rename_i h3;rw[if_pos h1,if_neg h2,if_neg h3];exact⟨rfl,e,fun h=>h3 ⟨e,h⟩⟩
  ·simp at e
 obtain⟨k1,k2,k3⟩:=key;have k:=ZdI k2;rw[k1];exact⟨rfl,k2,k.1,k.2.1,k.2.2.1,k.2.2.2.1,k.2.2.2.2.1,by omega,k.2.2.2.2.2.2.1,k.2.2.2.2.2.2.2.1,k.2.2.2.2.2.2.2.2⟩
theorem Z49(h:Heap)(a:Int)(hw:WOk h.W)(h0:0≤a∧a≤18446744073709551615):GP 60 [h.av,u64 a] true (.tu [(getH h a).1.av,int (getH h a).2]) []:=by
 rcases bb (!Z02 h)with hc0 | hc0<;>have hc0p:=hc0<;>simp only[bs]at hc0p
 ·rw[show getH h a=(Header.mk (0:Int) (0:Int) (0:Int),(1:Int))from by simp[getH,Z28, *]];exact gF [] Tryz.func60 [] (Fc 9 (@Z0j h) (Ft 10 hc0 Fz))
 ·rcases bb (a==0)with hc1 | hc1<;>have hc1p:=hc1<;>simp only[bs]at hc1p
  ·rw[show getH h a=(Header.mk (0:Int) (0:Int) (0:Int),(5:Int))from by simp[getH,Z28, *]];exact gF [] Tryz.func60 [] (Fc 9 (@Z0j h) (Ff 10 hc0 (Ft 13 hc1 Fz)))
  ·have Q0 {h_ c_ p_} (r_:Fq h_ c_ p_):=Fc 9 (@Z0j h) (Ff 10 hc0 (Ff 13 hc1 (Fc 18 (@Z5d h a aa aa) r_)));rcases bb ((atH h a).snd==0&&(atH h a).fst.K==0)with hc2 | hc2<;>have hc2p:=hc2<;>simp only[bs]at hc2p
   ·obtain⟨hc2pa,hc2pb⟩:=hc2p;rw[show getH h a=(Header.mk (0:Int) (0:Int) (0:Int),(4:Int))from by simp[getH,Z28, *]];exact gF [] Tryz.func60 [] (Q0 (Ft 27 hc2 Fz))
   ·rw[show getH h a=atH h a from by(simp[getH,Z28, *];omega)];exact gF [] Tryz.func60 [] (Q0 (Ff 27 hc2 Fz))
def Z1S(h:Heap)(a i:Int):Int×Int:=if(getH h a).2=0 then(if 0≤i∧i<(getH h a).1.length then loadA h.W (a+1+i)else(0,2))else(0,(getH h a).2)
theorem ZcY(h:Heap)(a i:Int)(hw:WOk h.W)(h0:0≤a∧a≤18446744073709551615):GP 116 [h.av,u64 a,int i] true (.tu [u64 (Z1S h a i).1,int (Z1S h a i).2]) []:=by
 have Q0 {h_ c_ p_} (r_:Fq h_ c_ p_):=Fc 13 (@Z49 h a aa aa) r_;rcases bb ((getH h a).snd != 0)with hc0 | hc0<;>have hc0p:=hc0<;>simp only[bs]at hc0p
 ·rw[show Z1S h a i=((0:Int),(getH h a).snd)from by simp[Z1S, *]];exact gF [] Tryz.func116 [] (Q0 (Ft 17 hc0 Fz))
 ·have hf5:=Z47 hc0p;obtain⟨hf5a,⟨hf5ba,⟨hf5bba,⟨hf5bbba,⟨hf5bbbba,⟨hf5bbbbba,⟨hf5bbbbbba,⟨hf5bbbbbbba,⟨hf5bbbbbbbba,⟨hf5bbbbbbbbba,hf5bbbbbbbbbb⟩⟩⟩⟩⟩⟩⟩⟩⟩⟩:=hf5;have hf11:=Z06 hf5bba;obtain⟨hf11a,⟨hf11ba,⟨hf11bba,⟨hf11bbba,⟨hf11bbbba,⟨hf11bbbbba,⟨hf11bbbbbba,⟨hf11bbbbbbba,hf11bbbbbbbb⟩⟩⟩⟩⟩⟩⟩⟩:=hf11;rcases bb (decide (i<0)||decide ((getH h a).fst.length≤i))with hc20 | hc20<;>have hc20p:=hc20<;>simp only[bs]at hc20p
  ·rw[show Z1S h a i=((0:Int),(2:Int))from by(simp only[Z1S] ;exact sj)];exact gF [] Tryz.func116 [] (Q0 (Ff 17 hc0 (Ft 26 hc20 Fz)))
  ·obtain⟨hc20pa,hc20pb⟩:=hc20p;rw[show Z1S h a i=loadA h.W (a+(1:Int)+i)from by(simp only[Z1S] ;exact sj)];exact gF [] Tryz.func116 [] (Q0 (Ff 17 hc0 (Ff 26 hc20 (Fv 30 (a+1) (Fv 32 i (Fv 33 (a+1+i) (Fc 34 (@Z1M h.W (a+1+i) oq oq) Fz)))))))
theorem ZiB{h:Heap}{a i:Int}(e:(Z1S h a i).2=0):(getH h a).2=0∧0≤i∧i<(getH h a).1.length:=by
 unfold Z1S at e;split at e
 ·split at e
  ·exact⟨aa,aa⟩
  ·simp at e
 ·exact absurd e aa
def Z0v(h:Heap)(a i v:Int):Heap×Int:=if(Z1S h a i).2=0 then({ h with W:=(Z0J h.W (a+1+i) v).1 },0)else(noHeap,(Z1S h a i).2)
theorem Z7G(h:Heap)(a i v:Int)(hw:WOk h.W)(h0:0≤a∧a≤18446744073709551615):GP 63 [h.av,u64 a,int i,u64 v] false (.tu [(Z0v h a i v).1.av,int (Z0v h a i v).2]) []:=by
 have Q0 {h_ c_ p_} (r_:Fq h_ c_ p_):=Fc 16 (@ZcY h a i aa aa) r_;rcases bb ((Z1S h a i).snd != 0)with hc0 | hc0<;>have hc0p:=hc0<;>simp only[bs]at hc0p
 ·exact gF [] Tryz.func63 [true] (Q0 (Ft 20 hc0 (Fnl (Fnl (Fa (by simp[Z0v,noHeap, *]:0=(Z0v h a i v).fst.C.pw) (Fa (by simp[Z0v,noHeap, *]:0=(Z0v h a i v).fst.C.pg) (Fa (by simp[Z0v,noHeap, *]:[]=List.map wdv (Z0v h a i v).fst.W) (Fa (by simp[Z0v,noHeap, *]:[]=List.map Page.dv (Z0v h a i v).fst.P) (Fa (by simp[Z0v,noHeap, *]:0=(Z0v h a i v).fst.S) (Fa (by simp[Z0v,noHeap, *]:0=(Z0v h a i v).fst.B) (Fa (by simp[Z0v,noHeap, *]:(Z1S h a i).snd=(Z0v h a i v).snd) Fz)))))))))))
 ·have hf7:=ZiB hc0p;obtain⟨hf7a,⟨hf7ba,hf7bb⟩⟩:=hf7;have hf11:=Z47 hf7a;obtain⟨hf11a,⟨hf11ba,⟨hf11bba,⟨hf11bbba,⟨hf11bbbba,⟨hf11bbbbba,⟨hf11bbbbbba,⟨hf11bbbbbbba,⟨hf11bbbbbbbba,⟨hf11bbbbbbbbba,hf11bbbbbbbbbb⟩⟩⟩⟩⟩⟩⟩⟩⟩⟩:=hf11;have hf21:=Z06 hf11bba;obtain⟨hf21a,⟨hf21ba,⟨hf21bba,⟨hf21bbba,⟨hf21bbbba,⟨hf21bbbbba,⟨hf21bbbbbba,⟨hf21bbbbbbba,hf21bbbbbbbb⟩⟩⟩⟩⟩⟩⟩⟩:=hf21;rw[show Z0v h a i v=(Heap.mk h.C (Z0J h.W (a+(1:Int)+i) v).fst h.P h.S h.B,(0:Int))from by simp[Z0v,noHeap, *]];exact gF [] Tryz.func63 [] (Q0 (Ff 20 hc0 (Fv 27 (a+1) (Fv 29 i (Fv 30 (a+1+i) (Fc 32 (@Z9E h.W (a+1+i) v oq oq) Fz))))))
def Z0X(h:Heap)(a:Int):List Int×Int:=if(getH h a).2=0 then Z1i h.W (a+1) (getH h a).1.length else([],(getH h a).2)
theorem Zah(h:Heap)(a:Int)(hw:WOk h.W)(h0:0≤a∧a≤18446744073709551615):GP 61 [h.av,u64 a] false (.tu [Z01 (Z0X h a).1,int (Z0X h a).2]) []:=by
 have Q0 {h_ c_ p_} (r_:Fq h_ c_ p_):=Fc 11 (@Z49 h a aa aa) r_;rcases bb ((getH h a).snd != 0)with hc0 | hc0<;>have hc0p:=hc0<;>simp only[bs]at hc0p
 ·exact gF [] Tryz.func61 [true] (Q0 (Ft 15 hc0 (Fnl (Fa (by simp[Z0X, *]:[]=List.map wdv (Z0X h a).fst) (Fa (by simp[Z0X, *]:(getH h a).snd=(Z0X h a).snd) Fz)))))
 ·have hf5:=Z47 hc0p;obtain⟨hf5a,⟨hf5ba,⟨hf5bba,⟨hf5bbba,⟨hf5bbbba,⟨hf5bbbbba,⟨hf5bbbbbba,⟨hf5bbbbbbba,⟨hf5bbbbbbbba,⟨hf5bbbbbbbbba,hf5bbbbbbbbbb⟩⟩⟩⟩⟩⟩⟩⟩⟩⟩:=hf5;have hf11:=Z06 hf5bba;obtain⟨hf11a,⟨hf11ba,⟨hf11bba,⟨hf11bbba,⟨hf11bbbba,⟨hf11bbbbba,⟨hf11bbbbbba,⟨hf11bbbbbbba,hf11bbbbbbbb⟩⟩⟩⟩⟩⟩⟩⟩:=hf11;rw[show Z0X h a=Z1i h.W (a+(1:Int)) (getH h a).fst.length from by simp[Z0X, *]];exact gF [] Tryz.func61 [] (Q0 (Ff 15 hc0 (Fv 20 (a+1) (Fc 23 (@Zb6 h.W (a+1) ((getH h a).fst.length) oq oq) Fz))))
def objW(hd:Header):List Int:=(Z0c hd).1::List.replicate hd.length.toNat 0
def Z1p(h:Heap)(a:Int)(hd:Header):Heap×Int:=if Z02 h=true∧Z0g hd=true then(if(Z0z h.W a (objW hd)).2=0 then({ h with W:=(Z0z h.W a (objW hd)).1 },0)else(noHeap,(Z0z h.W a (objW hd)).2))else(noHeap,1)
theorem Zhp{hd:Header}(h:(Z0c hd).2=0):Z0g hd=true∧0≤hd.length∧hd.length≤255:=by
 unfold Z0c at h;split at h
 ·rename_i hv;have:=validH_iff.1 hv;exact⟨hv,this.2.2.1,this.2.2.2.1⟩
 ·simp at h
theorem Zek{hd:Header}(h:Z0g hd=true):(Z0c hd).2=0:=by simp[Z0c,h]
theorem Zi5{h:Heap}{a:Int}{hd:Header}(e:Z02 h=false∨¬ (Z0c hd).2=0):Z1p h a hd=(noHeap,1):=by
 unfold Z1p;rw[if_neg];rintro⟨h1,h2⟩;rcases e with e | e
 ·rw[h1]at e;cases e
 ·exact e (Zek h2)
theorem ZfE(h:Heap)(a:Int)(hd:Header)(hw:WOk h.W)(h0:0≤a∧a≤18446744073709551615)(hm:0≤hd.map∧hd.map≤4294967295):GP 161 [h.av,u64 a,hd.av] false (.tu [(Z1p h a hd).1.av,int (Z1p h a hd).2]) []:=by
 have Q0 {h_ c_ p_} (r_:Fq h_ c_ p_):=Fc 13 (@Z3E hd aa) (Fc 17 (@Z0j h) r_);rcases bb (!Z02 h||(Z0c hd).snd != 0)with hc0 | hc0<;>have hc0p:=hc0<;>simp only[bs]at hc0p
 ·have hf5:=Zi5 (a:=a) hc0p;exact gF [] Tryz.func161 (fO 2) (Q0 (Ft 22 hc0 (Fnl (Fnl (Fa (by grind[Z1p,noHeap,objW]:0=(Z1p h a hd).fst.C.pw) (Fa (by grind[Z1p,noHeap,objW]:0=(Z1p h a hd).fst.C.pg) (Fa (by grind[Z1p,noHeap,objW]:[]=List.map wdv (Z1p h a hd).fst.W) (Fa (by grind[Z1p,noHeap,objW]:[]=List.map Page.dv (Z1p h a hd).fst.P) (Fa (by grind[Z1p,noHeap,objW]:0=(Z1p h a hd).fst.S) (Fa (by grind[Z1p,noHeap,objW]:0=(Z1p h a hd).fst.B) (Fbs (1=(Z1p h a hd).snd) Fz)))))))))))
 ·obtain⟨hc0pa,hc0pb⟩:=hc0p;have hf7:=Z06 hc0pa;obtain⟨hf7a,⟨hf7ba,⟨hf7bba,⟨hf7bbba,⟨hf7bbbba,⟨hf7bbbbba,⟨hf7bbbbbba,⟨hf7bbbbbbba,hf7bbbbbbbb⟩⟩⟩⟩⟩⟩⟩⟩:=hf7;have hf11:=Zhp hc0pb;obtain⟨hf11a,⟨hf11ba,hf11bb⟩⟩:=hf11;have Q1 {h_ c_ p_} (r_:Fq h_ c_ p_):=Q0 (Ff 22 hc0 (Fs 29 (List.map wdv [(Z0c hd).fst]) (Fa (by(simp[Z1p,noHeap,objW, *];omega):0≤hd.length∧(↑(List.map wdv [(Z0c hd).fst]).length:Int)+hd.length≤2^30) (Fa (by simp[Z1p,noHeap,objW,List.map_take,List.map_drop,List.map_set,List.map_append,wdv,idv]:List.map wdv [(Z0c hd).fst]++List.replicate hd.length.toNat [du64 0]=List.map wdv ([(Z0c hd).fst]++List.replicate hd.length.toNat 0)) (Fc 33 (@Z58 h.W ([(Z0c hd).fst]++List.replicate hd.length.toNat 0) a oq aa (by(simp[Z1p,noHeap,objW, *];omega))) r_)))));rcases bb ((Z0z h.W a ([(Z0c hd).fst]++List.replicate hd.length.toNat 0)).snd != 0)with hc37 | hc37<;>have hc37p:=hc37<;>simp only[bs]at hc37p
  ·exact gF [] Tryz.func161 (fO 2) (Fh 32 [.els (List.map wdv ([(Z0c hd).fst]++List.replicate hd.length.toNat 0))] (Q1 (Ft 37 hc37 (Fnl (Fnl (Fa (by(simp only[Z1p,noHeap,objW] ;exact sj):0=(Z1p h a hd).fst.C.pw) (Fa (by(simp only[Z1p,noHeap,objW] ;exact sj):0=(Z1p h a hd).fst.C.pg) (Fa (by(simp only[Z1p,noHeap,objW] ;exact sj):[]=List.map wdv (Z1p h a hd).fst.W) (Fa (by(simp only[Z1p,noHeap,objW] ;exact sj):[]=List.map Page.dv (Z1p h a hd).fst.P) (Fa (by(simp only[Z1p,noHeap,objW] ;exact sj):0=(Z1p h a hd).fst.S) (Fa (by(simp only[Z1p,noHeap,objW] ;exact sj):0=(Z1p h a hd).fst.B) (Fa (by(simp only[Z1p,noHeap,objW] ;exact sj):(Z0z h.W a ([(Z0c hd).fst]++List.replicate hd.length.toNat 0)).snd=(Z1p h a hd).snd) Fz))))))))))))
  ·rw[show Z1p h a hd=(Heap.mk h.C (Z0z h.W a ([(Z0c hd).fst]++List.replicate hd.length.toNat (0:Int))).fst h.P h.S h.B,(0:Int))from by(simp only[Z1p,noHeap,objW] ;exact sj)];exact gF [] Tryz.func161 [] (Fh 32 [.els (List.map wdv ([(Z0c hd).fst]++List.replicate hd.length.toNat 0))] (Q1 (Ff 37 hc37 Fz)))
def Z6e(l:List Page)(i k:Nat):Bool:=(List.range k).all fun j=>(l.getD (i+j) default).K==0
theorem freeK_iff{l:List Page}{i k:Nat}:Z6e l i k=true↔∀ j,j<k→(l.getD (i+j) default).K=0:=by
 simp[Z6e]
def tookP(l:List Page)(i k:Nat)(p q:Page):List Page:=(wr l (List.replicate k q) i k).set i p
def Z2Z(l:List Page)(i:Int)(k:Int)(p q:Page):List Page×Int:=if 0≤i∧i<l.length∧k≤l.length-i then(if Z6e l i.toNat k.toNat=true then(tookP l i.toNat k.toNat p q,0)else([],20))else([],2)
theorem Z2O(l:List Page):Z0S (l.map Page.dv):=by
 intro e he x hx;obtain⟨y,_,rfl⟩:=List.mem_map.1 he;simp[Page.dv]at hx;rcases hx with rfl | rfl | rfl | rfl<;>exact⟨_,rfl⟩
theorem ZbK{α:Type}{l m:List α}{i j:Nat}{d:α}(h:l[i]? = m[j]?):l.getD i d=m.getD j d:=by
 rw[List.getD_eq_getElem?_getD,List.getD_eq_getElem?_getD,h]
def Zd5(l:List Page)(i:Int)(k:Int)(p q:Page)(n:Nat):Tg:=⟨tm 57 [(1,int i),(2,int k),(8,.pt 8008 0 0),(9,.pt 8009 0 0),(10,.d (.sl 0 [])),(11,int 0),(12,.ow 24032),(13,int n)],
 [(24032,.arr 84 4 ((wr l (List.replicate k.toNat q) i.toNat n).map Page.dv)),(8008,.box 84 [int p.K,int p.S,int p.U,int p.N]),(8009,.box 84 [int q.K,int q.S,int q.U,int q.N])],60⟩
section
variable (l:List Page) (i:Int) (k:Int) (p q:Page) (n:Nat) (hl:l.length≤1048576) (hi:0≤i) (hk0:0≤k) (hk:i.toNat+k.toNat≤l.length)
include hl hi hk0 hk
theorem ZmM(hn:n<k.toNat):(wr l (List.replicate k.toNat q) i.toNat n).getD (i.toNat+n) default=l.getD (i.toNat+n) default:=by
 refine ZbK ?_;rw[Z8S (by simpa using hk) qo,if_neg oq,if_neg oq]
theorem ZdK(hn:n<k.toNat)(hf:(l.getD (i.toNat+n) default).K=0):CP (rndF Tryz.f183 0) (Zd5 l i k p q n).st .nrm (Zd5 l i k p q (n+1)).st:=by
 have hlen:=Z4l (ws:=l) (l:=List.replicate k.toNat q) (i:=i.toNat) (k:=n) (by simpa using hk) qo;have ha:=ZmM l i k q n hl hi hk0 hk hn;have hs:=Z97 (ws:=l) (l:=List.replicate k.toNat q) (i:=i.toNat) (k:=n) (by simpa using hk) qo default;have hd:(List.replicate k.toNat q).getD n default=q:=by simp[List.getD,hn]
 rw[hd]at hs;have ei:i+n=((i.toNat+n:Nat):Int):=by omega
 rw[← ha]at hf;rcases bb (((wr l (List.replicate k.toNat q) i.toNat n).getD (↑(i.toNat+n):Int).toNat default).K != 0)with hc0 | hc0<;>have hc0p:=hc0<;>simp only[bs]at hc0p
 ·contradiction
 ·exact sF [] (fO 8) (Fh 10051 [.els (List.map Page.dv ((wr l (List.replicate k.toNat q) i.toNat n).set (↑(i.toNat+n):Int).toNat q))] (Ftb 35 (decide ((↑n:Int)<k)) (Fg 41 (by rw[wrapI' oq oq];omega:IntKind.i64.wrap (i+(↑n:Int))=(↑(i.toNat+n):Int)) (Fmq 44 Page.dv (wr l (List.replicate k.toNat q) i.toNat n) (↑(i.toNat+n):Int) (Ff 45 hc0 (Fg 49 (by rw[wrapI' oq oq];omega:IntKind.i64.wrap (i+(↑n:Int))=(↑(i.toNat+n):Int)) (Fa (by(simp only[List.length_map];omega):0≤(↑(i.toNat+n):Int)∧(↑(i.toNat+n):Int).toNat<(List.map Page.dv (wr l (List.replicate k.toNat q) i.toNat n)).length) (Fa (by(simp only[List.length_map];omega):(↑(i.toNat+n):Int).toNat<(List.map Page.dv (wr l (List.replicate k.toNat q) i.toNat n)).length) (Fa (by rw[List.map_set];rfl:(List.map Page.dv (wr l (List.replicate k.toNat q) i.toNat n)).set (↑(i.toNat+n):Int).toNat [dint q.K,dint q.S,dint q.U,dint q.N]=List.map Page.dv ((wr l (List.replicate k.toNat q) i.toNat n).set (↑(i.toNat+n):Int).toNat q)) (Fx 37 n (Fr (84:Int) (Fa (by refine congrArg _ ?_;exact hs:List.map Page.dv ((wr l (List.replicate k.toNat q) i.toNat n).set (↑(i.toNat+n):Int).toNat q)=List.map Page.dv (wr l (List.replicate k.toNat q) i.toNat (n+1))) Fz))))))))))))
theorem ZmW(hn:n<k.toNat)(hf:¬ (l.getD (i.toNat+n) default).K=0):CP (rndF Tryz.f183 0) (Zd5 l i k p q n).st .ret (Tg.st ⟨tm 57 [(10,.d (.sl 0 [])),(11,int 20)],[],60⟩):=by
 have hlen:=Z4l (ws:=l) (l:=List.replicate k.toNat q) (i:=i.toNat) (k:=n) (by simpa using hk) qo;have ha:=ZmM l i k q n hl hi hk0 hk hn;have ei:i+n=((i.toNat+n:Nat):Int):=by omega
 rw[← ha]at hf;rcases bb (((wr l (List.replicate k.toNat q) i.toNat n).getD (↑(i.toNat+n):Int).toNat default).K != 0)with hc0 | hc0<;>have hc0p:=hc0<;>simp only[bs]at hc0p
 ·exact sF [] [] (Ftb 35 (decide ((↑n:Int)<k)) (Fg 41 (by rw[wrapI' oq oq];omega:IntKind.i64.wrap (i+(↑n:Int))=(↑(i.toNat+n):Int)) (Fmq 44 Page.dv (wr l (List.replicate k.toNat q) i.toNat n) (↑(i.toNat+n):Int) (Ft 45 hc0 Fz))))
 ·contradiction
omit hl hi hk in
theorem Znf:CP (rndF Tryz.f183 0) (Zd5 l i k p q k.toNat).st (.ext 0) (Tg.st ⟨tm 57 [(1,int i),(8,.pt 8008 0 0),(12,.ow 24032)],[(24032,.arr 84 4 ((wr l (List.replicate k.toNat q) i.toNat k.toNat).map Page.dv)),(8008,.box 84 [int p.K,int p.S,int p.U,int p.N])],60⟩):=by
 exact sF [] [] (Ffb 35 (decide ((↑k.toNat:Int)<k)) Fz)
theorem Zfh(hf:Z6e l i.toNat k.toNat=true):CP (blkF Tryz.f183 0) (Tg.st ⟨tm 57 [(1,int i),(2,int k),(8,.pt 8008 0 0),(9,.pt 8009 0 0),(10,.d (.sl 0 [])),(11,int 0),(12,.ow 24032),(13,int 0)],
 [(24032,.arr 84 4 (l.map Page.dv)),(8008,.box 84 [int p.K,int p.S,int p.U,int p.N]),(8009,.box 84 [int q.K,int q.S,int q.U,int q.N])],60⟩) .nrm
 (Tg.st ⟨tm 57 [(1,int i),(8,.pt 8008 0 0),(12,.ow 24032)],[(24032,.arr 84 4 ((wr l (List.replicate k.toNat q) i.toNat k.toNat).map Page.dv)),(8008,.box 84 [int p.K,int p.S,int p.U,int p.N])],60⟩):=by
 have:=Z0a (S:=fun n=>(Zd5 l i k p q n).st) k.toNat kr (fun n hn=>ZdK l i k p q n hl hi hk0 hk hn (freeK_iff.1 hf n hn)) (Znf l i k p q hk0)
 simp only[Zd5,Z7t]at this;exact this
theorem Zey(hf:Z6e l i.toNat k.toNat=false):CP (blkF Tryz.f183 0) (Tg.st ⟨tm 57 [(1,int i),(2,int k),(8,.pt 8008 0 0),(9,.pt 8009 0 0),(10,.d (.sl 0 [])),(11,int 0),(12,.ow 24032),(13,int 0)],
 [(24032,.arr 84 4 (l.map Page.dv)),(8008,.box 84 [int p.K,int p.S,int p.U,int p.N]),(8009,.box 84 [int q.K,int q.S,int q.U,int q.N])],60⟩) .ret
 (Tg.st ⟨tm 57 [(10,.d (.sl 0 [])),(11,int 20)],[],60⟩):=by
 obtain⟨n,x,h1,h2,h3⟩:=Z4Z hf;have hn:n<k.toNat:=by have:=(List.getElem?_eq_some_iff.1 h1).1;simpa using this
 have hx:x=n:=by simp[List.getElem?_range,hn]at h1;exact h1.symm
 subst hx;have:=Z0I (S:=fun n=>(Zd5 l i k p q n).st) x kr (fun m hm=>?_) (ZmW l i k p q x hl hi hk0 hk hn (by simpa using h2))
 ·simp only[Zd5,Z7t]at this;exact this
 ·obtain⟨y,h4,h5⟩:=h3 m hm;have hy:y=m:=by simp[List.getElem?_range,show m<k.toNat from by omega]at h4;exact h4.symm
  subst hy;exact ZdK l i k p q y hl hi hk0 hk oq (by simpa using h5)
end
theorem Zkq(l:List Page)(i:Int)(k:Int)(p q:Page)(hl:l.length≤1048576)(hk:1≤k∧k≤5):GP 183 [Z0r l,int i,int k,p.av,q.av] true (.tu [Z0r (Z2Z l i k p q).1,int (Z2Z l i k p q).2]) []:=by
  cases hf:Z6e l i.toNat k.toNat with
  | true =>
    have hw:i.toNat+k.toNat≤l.length→(wr l (List.replicate k.toNat q) i.toNat k.toNat).length=l.length:=fun h=>Z4l (by simpa using h) pq;rcases bb (decide (i<0)||decide ((↑l.length:Int)≤i)||decide ((↑l.length:Int)-i<k))with hc0 | hc0<;>have hc0p:=hc0<;>simp only[bs]at hc0p
    · exact gF [] Tryz.func183 (fO 10) (FlG 19 (!decide (i<0)) Page.dv l (FlG 25 (!(decide (i<0)||decide ((↑l.length:Int)≤i))) Page.dv l (FiG 27 (!(decide (i<0)||decide ((↑l.length:Int)≤i))) ((↑l.length:Int)-i) (Ft 29 hc0 (Fnl (Fa (by(simp only[Z2Z,hf,tookP] ;exact sj):[]=List.map Page.dv (Z2Z l i k p q).fst) (Fa (by(simp only[Z2Z,hf,tookP] ;exact sj):2=(Z2Z l i k p q).snd) Fz)))))))
    · obtain⟨⟨hc0paa,hc0pab⟩,hc0pb⟩:=hc0p;rw[show Z2Z l i k p q=((wr l (List.replicate k.toNat q) i.toNat k.toNat).set i.toNat p,(0:Int))from by simp[Z2Z,hf,tookP, *]];exact gF [] Tryz.func183 [] (Fh 10055 [.els (List.map Page.dv ((wr l (List.replicate k.toNat q) i.toNat k.toNat).set i.toNat p))] (FlG 19 (!decide (i<0)) Page.dv l (FlG 25 (!(decide (i<0)||decide ((↑l.length:Int)≤i))) Page.dv l (FiG 27 (!(decide (i<0)||decide ((↑l.length:Int)≤i))) ((↑l.length:Int)-i) (Ff 29 hc0 (FAx 30 32 Page.dv l (by(simp[Z2Z,hf,tookP, *];omega)) (Fu (@Zfh l i k p q aa oq oq oq aa) (Fa (by(simp only[List.length_map];omega):0≤i∧i.toNat<(List.map Page.dv (wr l (List.replicate k.toNat q) i.toNat k.toNat)).length) (Fa (by(simp only[List.length_map];omega):i.toNat<(List.map Page.dv (wr l (List.replicate k.toNat q) i.toNat k.toNat)).length) (Fa (by rw[List.map_set];rfl:(List.map Page.dv (wr l (List.replicate k.toNat q) i.toNat k.toNat)).set i.toNat [dint p.K,dint p.S,dint p.U,dint p.N]=List.map Page.dv ((wr l (List.replicate k.toNat q) i.toNat k.toNat).set i.toNat p)) (Fa (by exact Z2O _:Z0S (List.map Page.dv ((wr l (List.replicate k.toNat q) i.toNat k.toNat).set i.toNat p))) Fz)))))))))))
  | false => rcases Bool.eq_false_or_eq_true (decide (i<(0:Int))||decide ((↑l.length:Int)≤i)||decide ((↑l.length:Int)-i<k))with hc0 | hc0
             · have hc0p:=hc0;simp only[bs]at hc0p;exact gF [] Tryz.func183 (fO 10) (FlG 19 (!decide (i<0)) Page.dv l (FlG 25 (!(decide (i<0)||decide ((↑l.length:Int)≤i))) Page.dv l (FiG 27 (!(decide (i<0)||decide ((↑l.length:Int)≤i))) ((↑l.length:Int)-i) (Ft 29 ‹(decide (i<0)||decide ((↑l.length:Int)≤i)||decide ((↑l.length:Int)-i<k))=true› (Fnl (Fa (by(simp only[Z2Z,hf] ;exact sj):[]=List.map Page.dv (Z2Z l i k p q).fst) (Fa (by(simp only[Z2Z,hf] ;exact sj):2=(Z2Z l i k p q).snd) Fz)))))))
             · have hc0p:=hc0;simp only[bs]at hc0p;obtain⟨⟨hc0paa,hc0pab⟩,hc0pb⟩:=hc0p;exact gF [] Tryz.func183 (fO 21) (FlG 19 (!decide (i<0)) Page.dv l (FlG 25 (!(decide (i<0)||decide ((↑l.length:Int)≤i))) Page.dv l (FiG 27 (!(decide (i<0)||decide ((↑l.length:Int)≤i))) ((↑l.length:Int)-i) (Ff 29 ‹(decide (i<0)||decide ((↑l.length:Int)≤i)||decide ((↑l.length:Int)-i<k))=false› (FAx 30 32 Page.dv l (by(simp[Z2Z,hf, *];omega)) (Fu (@Zey l i k p q aa oq oq oq aa) (Fnl (Fa (by(simp only[Z2Z,hf] ;exact sj):[]=List.map Page.dv (Z2Z l i k p q).fst) (Fa (by(simp only[Z2Z,hf] ;exact sj):20=(Z2Z l i k p q).snd) Fz)))))))))
theorem Zi3(l:List Page)(i:Int)(k:Int)(p q:Page)(hl:l.length≤1048576)(hk:1≤k∧k≤5)(hi:0≤i∧i+k≤l.length)(hf:Z6e l i.toNat k.toNat=true):GP 183 [Z0r l,int i,int k,p.av,q.av] true (.tu [.ow 0,int 0]) [.arr 84 4 ((tookP l i.toNat k.toNat p q).map Page.dv)]:=by
 have hw:(wr l (List.replicate k.toNat q) i.toNat k.toNat).length=l.length:=Z4l qo pq;exact gF [24032] Tryz.func183 [] (Fh 10055 [.els (List.map Page.dv ((wr l (List.replicate k.toNat q) i.toNat k.toNat).set i.toNat p))] (FlG 19 (!decide (i<0)) Page.dv l (FlG 25 (!(decide (i<0)||decide ((↑l.length:Int)≤i))) Page.dv l (FiG 27 (!(decide (i<0)||decide ((↑l.length:Int)≤i))) ((↑l.length:Int)-i) (Ffb 29 (decide (i<0)||decide ((↑l.length:Int)≤i)||decide ((↑l.length:Int)-i<k)) (FAx 30 32 Page.dv l (by(simp[tookP, *];omega)) (Fu (@Zfh l i k p q aa oq oq oq aa) (Fa (by(simp only[List.length_map];omega):0≤i∧i.toNat<(List.map Page.dv (wr l (List.replicate k.toNat q) i.toNat k.toNat)).length) (Fa (by(simp only[List.length_map];omega):i.toNat<(List.map Page.dv (wr l (List.replicate k.toNat q) i.toNat k.toNat)).length) (Fa (by rw[List.map_set];rfl:(List.map Page.dv (wr l (List.replicate k.toNat q) i.toNat k.toNat)).set i.toNat [dint p.K,dint p.S,dint p.U,dint p.N]=List.map Page.dv ((wr l (List.replicate k.toNat q) i.toNat k.toNat).set i.toNat p)) (Fa (by exact Z2O _:Z0S (List.map Page.dv ((wr l (List.replicate k.toNat q) i.toNat k.toNat).set i.toNat p))) Fz)))))))))))
def ZmH(l:List Page)(i sp:Int):List Page×Int:=if 0≤sp∧sp≤1 then Z2Z l i 1 ⟨1,sp,0,0⟩ ⟨0,0,0,0⟩else([],1)
def Z2E(c:Conf)(l:List Page)(i sp n:Int):List Page×Int:=if 1≤need c n∧0≤sp∧sp≤1 then Z2Z l i (need c n) ⟨2,sp,n,0⟩ ⟨3,sp,0,0⟩else([],1)
theorem Zj3(c:Conf)(l:List Page)(i sp n:Int)(hl:l.length≤1048576):GP 188 [c.av,Z0r l,int i,int sp,int n] false (.tu [Z0r (Z2E c l i sp n).1,int (Z2E c l i sp n).2]) []:=by
 have hn:=Z3F c n;rcases bb (decide (need c n<1)||decide (sp<0)||decide (1<sp))with hc0 | hc0<;>have hc0p:=hc0<;>simp only[bs]at hc0p
 ·exact gF [] Tryz.func188 (fO 4) (Fc 15 (@Z4G c n) (Ft 25 hc0 (Fnl (Fa (by(simp only[Z2E] ;exact sj):[]=List.map Page.dv (Z2E c l i sp n).fst) (Fa (by(simp only[Z2E] ;exact sj):1=(Z2E c l i sp n).snd) Fz)))))
 ·obtain⟨⟨hc0paa,hc0pab⟩,hc0pb⟩:=hc0p;rw[show Z2E c l i sp n=Z2Z l i (need c n) (Page.mk (2:Int) sp n (0:Int)) (Page.mk (3:Int) sp (0:Int) (0:Int))from by simp[Z2E, *]];exact gF [] Tryz.func188 [] (Fc 15 (@Z4G c n) (Ff 25 hc0 (Fc 34 (@Zkq l i (need c n) (Page.mk 2 sp n 0) (Page.mk 3 sp 0 0) aa oq) Fz)))
theorem Zav(l:List Page)(i sp:Int)(hl:l.length≤1048576)(hs:0≤sp∧sp≤1)(hi:0≤i∧i+1≤l.length)(hf:Z6e l i.toNat 1=true):GP 149 [Z0r l,int i,int sp] true (.tu [.ow 0,int 0]) [.arr 84 4 ((tookP l i.toNat 1 ⟨1,sp,0,0⟩ ⟨0,0,0,0⟩).map Page.dv)]:=by
 exact gF [25019] Tryz.func149 [] (Ffb 13 (decide (sp<0)||decide (1<sp)) (Fc 19 (@Zi3 l i (1) (Page.mk 1 sp 0 0) (Page.mk 0 0 0 0) aa oq aa aa) (Fa (by exact Z2O _:Z0S (List.map Page.dv (tookP l i.toNat (Int.toNat 1) (Page.mk 1 sp 0 0) (Page.mk 0 0 0 0)))) Fz)))
structure Run where
 frm:Int
 len:Int
 deriving DecidableEq,Inhabited
def Run.dv(r:Run):List DV:=[dint r.frm,dint r.len]
def Z76(l:List Run):AV:=.d (.sl 2 (l.map Run.dv))
def Z0l(out:List Run):Run:=out.getLast?.getD ⟨0,0⟩
def Z3f(out:List Run)(i:Int)(p:Page):List Run :=
 if p.K=0 then(if out≠[]∧(Z0l out).frm+(Z0l out).len=i then out.dropLast++[⟨(Z0l out).frm,(Z0l out).len+1⟩]else out++[⟨i,1⟩])else out
def Z04(l:List Page):Nat→List Run
 | 0=>[]
 | i+1=>Z3f (Z04 l i) i (Z1e l i)
theorem Z25{out:List Run}(h:out≠[]):out[out.length-1]? = some (Z0l out):=by
 rw[← List.getLast?_eq_getElem?,Z0l,List.getLast?_eq_some_getLast h];rfl
theorem Z2m(l:List Page):∀ i,(Z04 l i).length≤i∧∀ r∈Z04 l i,0≤r.frm∧1≤r.len∧r.frm+r.len≤i
 | 0=>⟨by simp[Z04],by simp[Z04]⟩
 | i+1=>by
  obtain⟨h1,h2⟩:=Z2m l i;simp only[Z04,Z3f];split
  ·split
   ·rename_i hc;have hl:=h2 _ (List.mem_of_getElem? (Z25 hc.1));have hp:0<(Z04 l i).length:=List.length_pos_iff.2 hc.1;refine⟨by simp;omega,fun r hr=>?_⟩;rcases List.mem_append.1 hr with hr | hr
    ·have:=h2 r (List.dropLast_subset _ hr);omega
    ·simp at hr;subst hr;simp only;omega
   ·refine⟨by simp;omega,fun r hr=>?_⟩;rcases List.mem_append.1 hr with hr | hr
    ·have:=h2 r hr;omega
    ·simp at hr;subst hr;simp only;omega
  ·refine⟨by omega,fun r hr=>?_⟩;have:=h2 r hr;omega
theorem Zf4{out:List Run}{i:Nat}{r:Run}(h:out[i]? = some r):(out.map Run.dv)[i]? = some r.dv:=by simp[h]
theorem Zga{out:List Run}(h:out≠[])(r:Run):(out.map Run.dv).set (out.length-1) r.dv=(out.dropLast++[r]).map Run.dv:=by
 obtain⟨a,b,rfl⟩:∃ a b,out=a++[b]:=⟨out.dropLast,out.getLast h,(List.dropLast_concat_getLast h).symm⟩
 simp
def Z6B(l:List Page)(i:Nat):Tg:=⟨tm 54 [(3,.ow 16003),(7,Z0r l),(8,int l.length),(9,int i)],[(16003,.arr 232 2 ((Z04 l i).map Run.dv))],20⟩
theorem Zab(l:List Page)(hl:l.length≤1048576)(i:Nat)(p:Page)(hp:l[i]? = some p)(hk:p.K≠0):CP (rndF Tryz.f196 0) (Z6B l i).st .nrm (Z6B l (i+1)).st:=by
 have hi:i<l.length:=(List.getElem?_eq_some_iff.1 hp).1;obtain⟨o1,o2⟩:=Z2m l i;have e:Z6B l (i+1)=⟨tm 54 [(3,.ow 16003),(7,Z0r l),(8,int l.length),(9,int ((i+1:Nat):Int))],[(16003,.arr 232 2 ((Z04 l i).map Run.dv))],20⟩:=by
  have hpa:Z1e l i=p:=by simp[Z1e,hp]
  rw[Z6B,Z04,Z3f,hpa,if_neg hk]
 rw[e];refine Z4u [(10,[.br true]),(12,[.el p.dv]),(15,[.int (Z04 l i).length]),(16,[.int ((Z04 l i).length-1:Int)]),(25,[.br true]),(52,[.int ((i+1:Nat):Int)])] [] [] (φ:=decide ((↑i:Int)<(↑l.length:Int))=true∧true=true∧((0:Int)≤(↑i:Int)∧(List.map Page.dv l)[(↑i:Int).toNat]? = some p.dv)∧(↑(List.map Run.dv (Z04 l i)).length:Int)=(↑(Z04 l i).length:Int)∧IntKind.i64.wrap ((↑(Z04 l i).length:Int)-(1:Int))=(↑(Z04 l i).length:Int)-(1:Int)∧(p.K != (0:Int))=true∧IntKind.i64.wrap ((↑i:Int)+(1:Int))=(↑(i+(1:Nat)):Int)) ?_ kr kr kr;exact⟨decide_eq_true oq,rfl,⟨by omega,Z1n hp⟩,by rw[List.length_map],Z18 oq oq,by simp[hk],Z18 oq oq⟩
theorem Za2(l:List Page)(hl:l.length≤1048576)(i:Nat)(p:Page)(hp:l[i]? = some p)(hk:p.K=0)(ho:Z04 l i≠[])(hm:(Z0l (Z04 l i)).frm+(Z0l (Z04 l i)).len=i):CP (rndF Tryz.f196 0) (Z6B l i).st .nrm (Z6B l (i+1)).st:=by
 have hi:i<l.length:=(List.getElem?_eq_some_iff.1 hp).1;obtain⟨o1,o2⟩:=Z2m l i;have hlast:=o2 _ (List.mem_of_getElem? (Z25 ho));have hpos:0<(Z04 l i).length:=List.length_pos_iff.2 ho;have e:Z04 l (i+1)=(Z04 l i).dropLast++[⟨(Z0l (Z04 l i)).frm,(Z0l (Z04 l i)).len+1⟩]:=by
  have hpa:Z1e l i=p:=by simp[Z1e,hp]
  rw[Z04,Z3f,hpa,if_pos hk,if_pos ⟨ho,hm⟩]
 refine Z4u [(10,[.br true]),(12,[.el p.dv]),(15,[.int (Z04 l i).length]),(16,[.int ((Z04 l i).length-1:Int)]),(25,[.br false]),(34,[.el (Z0l (Z04 l i)).dv]),(39,[.el (Z0l (Z04 l i)).dv]),(40,[.int i]),(43,[.br true]),(48,[.el (Z0l (Z04 l i)).dv]),(49,[.int ((Z0l (Z04 l i)).len+1)]),(10051,[.el (Z0l (Z04 l i)).dv,.els ((Z04 l (i+1)).map Run.dv)]),(52,[.int ((i+1:Nat):Int)])] [] [] (φ:=decide ((↑i:Int)<(↑l.length:Int))=true∧true=true∧((0:Int)≤(↑i:Int)∧(List.map Page.dv l)[(↑i:Int).toNat]? = some p.dv)∧(↑(List.map Run.dv (Z04 l i)).length:Int)=(↑(Z04 l i).length:Int)∧IntKind.i64.wrap ((↑(Z04 l i).length:Int)-(1:Int))=(↑(Z04 l i).length:Int)-(1:Int)∧(p.K != (0:Int))=false∧(decide ((0:Int)≤(↑(Z04 l i).length:Int)-(1:Int))=true→(0:Int)≤(↑(Z04 l i).length:Int)-(1:Int)∧((↑(Z04 l i).length:Int)-(1:Int)).toNat<(List.map Run.dv (Z04 l i)).length)∧(decide ((0:Int)≤(↑(Z04 l i).length:Int)-(1:Int))=true→(List.map Run.dv (Z04 l i))[((↑(Z04 l i).length:Int)-(1:Int)).toNat]? = some (Z0l (Z04 l i)).dv)∧(decide ((0:Int)≤(↑(Z04 l i).length:Int)-(1:Int))=true→(0:Int)≤(↑(Z04 l i).length:Int)-(1:Int)∧((↑(Z04 l i).length:Int)-(1:Int)).toNat<(List.map Run.dv (Z04 l i)).length)∧(decide ((0:Int)≤(↑(Z04 l i).length:Int)-(1:Int))=true→(List.map Run.dv (Z04 l i))[((↑(Z04 l i).length:Int)-(1:Int)).toNat]? = some (Z0l (Z04 l i)).dv)∧(decide ((0:Int)≤(↑(Z04 l i).length:Int)-(1:Int))=true→IntKind.i64.wrap ((Z0l (Z04 l i)).frm+(Z0l (Z04 l i)).len)=(↑i:Int))∧(decide ((0:Int)≤(↑(Z04 l i).length:Int)-(1:Int))&&(↑i:Int)==(↑i:Int))=true∧((0:Int)≤(↑(Z04 l i).length:Int)-(1:Int)∧((↑(Z04 l i).length:Int)-(1:Int)).toNat<(List.map Run.dv (Z04 l i)).length)∧(List.map Run.dv (Z04 l i))[((↑(Z04 l i).length:Int)-(1:Int)).toNat]? = some (Z0l (Z04 l i)).dv∧IntKind.i64.wrap ((Z0l (Z04 l i)).len+(1:Int))=(Z0l (Z04 l i)).len+(1:Int)∧((0:Int)≤(↑(Z04 l i).length:Int)-(1:Int)∧((↑(Z04 l i).length:Int)-(1:Int)).toNat<(List.map Run.dv (Z04 l i)).length)∧(List.map Run.dv (Z04 l i))[((↑(Z04 l i).length:Int)-(1:Int)).toNat]? = some (Z0l (Z04 l i)).dv∧(List.map Run.dv (Z04 l i)).set ((↑(Z04 l i).length:Int)-(1:Int)).toNat (Z1w (Z0l (Z04 l i)).dv ((0:Nat) + #[Field.mk "From" (3:Nat) (0:Nat) false "" "" (0:Nat),Field.mk "Len" (3:Nat) (1:Nat) false "" "" (8:Nat)][(1:Nat)].3) [dint ((Z0l (Z04 l i)).len+(1:Int))])=List.map Run.dv (Z04 l (i+(1:Nat)))∧IntKind.i64.wrap ((↑i:Int)+(1:Int))=(↑(i+(1:Nat)):Int)) ?_ kr kr kr;have hidx:0≤((Z04 l i).length:Int)-1∧(((Z04 l i).length:Int)-1).toNat<(List.map Run.dv (Z04 l i)).length:=by rw[List.length_map];omega
 have hat:(List.map Run.dv (Z04 l i))[(((Z04 l i).length:Int)-1).toNat]? = some (Z0l (Z04 l i)).dv:=by
  rw[show(((Z04 l i).length:Int)-1).toNat=(Z04 l i).length-1 from by omega];exact Zf4 (Z25 ho)
 refine⟨decide_eq_true oq,rfl,⟨by omega,Z1n hp⟩,by rw[List.length_map],Z18 oq oq,by simp[hk],fun _=>hidx,fun _=>hat,fun _=>hidx,fun _=>hat,fun _=>by rw[hm];exact Z18 oq oq,by simp;omega,hidx,hat,Z18 oq oq,hidx,hat, ?_,Z18 oq oq⟩;rw[e,← Zga ho,show(((Z04 l i).length:Int)-1).toNat=(Z04 l i).length-1 from by omega];rfl
theorem Zcj(l:List Page)(hl:l.length≤1048576)(i:Nat)(p:Page)(hp:l[i]? = some p)(hk:p.K=0)(ho:¬ (Z04 l i≠[]∧(Z0l (Z04 l i)).frm+(Z0l (Z04 l i)).len=i)):CP (rndF Tryz.f196 0) (Z6B l i).st .nrm (Z6B l (i+1)).st:=by
 have hi:i<l.length:=(List.getElem?_eq_some_iff.1 hp).1;obtain⟨o1,o2⟩:=Z2m l i;have e:Z04 l (i+1)=Z04 l i++[⟨i,1⟩]:=by
  have hpa:Z1e l i=p:=by simp[Z1e,hp]
  rw[Z04,Z3f,hpa,if_pos hk,if_neg ho]
 refine Z4u [(10,[.br true]),(12,[.el p.dv]),(15,[.int (Z04 l i).length]),(16,[.int ((Z04 l i).length-1:Int)]),(25,[.br false]),(34,[.el (Z0l (Z04 l i)).dv]),(39,[.el (Z0l (Z04 l i)).dv]),(43,[.br false]),(21,[.els ((Z04 l (i+1)).map Run.dv)]),(52,[.int ((i+1:Nat):Int)])] [] [(200021,16003)] (φ:=decide ((↑i:Int)<(↑l.length:Int))=true∧true=true∧((0:Int)≤(↑i:Int)∧(List.map Page.dv l)[(↑i:Int).toNat]? = some p.dv)∧(↑(List.map Run.dv (Z04 l i)).length:Int)=(↑(Z04 l i).length:Int)∧IntKind.i64.wrap ((↑(Z04 l i).length:Int)-(1:Int))=(↑(Z04 l i).length:Int)-(1:Int)∧(p.K != (0:Int))=false∧(decide ((0:Int)≤(↑(Z04 l i).length:Int)-(1:Int))=true→(0:Int)≤(↑(Z04 l i).length:Int)-(1:Int)∧((↑(Z04 l i).length:Int)-(1:Int)).toNat<(List.map Run.dv (Z04 l i)).length)∧(decide ((0:Int)≤(↑(Z04 l i).length:Int)-(1:Int))=true→(List.map Run.dv (Z04 l i))[((↑(Z04 l i).length:Int)-(1:Int)).toNat]? = some (Z0l (Z04 l i)).dv)∧(decide ((0:Int)≤(↑(Z04 l i).length:Int)-(1:Int))=true→(0:Int)≤(↑(Z04 l i).length:Int)-(1:Int)∧((↑(Z04 l i).length:Int)-(1:Int)).toNat<(List.map Run.dv (Z04 l i)).length)∧(decide ((0:Int)≤(↑(Z04 l i).length:Int)-(1:Int))=true→(List.map Run.dv (Z04 l i))[((↑(Z04 l i).length:Int)-(1:Int)).toNat]? = some (Z0l (Z04 l i)).dv)∧(decide ((0:Int)≤(↑(Z04 l i).length:Int)-(1:Int))&&IntKind.i64.wrap ((Z0l (Z04 l i)).frm+(Z0l (Z04 l i)).len)==(↑i:Int))=false∧(List.map Run.dv (Z04 l i)).length+((List.replicate (1:Nat) [dint (0:Int),dint (0:Int)]).set (0:Nat) [dint (↑i:Int),dint (1:Int)]).length≤(2:Nat)^(30:Nat)∧List.map Run.dv (Z04 l i)++(List.replicate (1:Nat) [dint (0:Int),dint (0:Int)]).set (0:Nat) [dint (↑i:Int),dint (1:Int)]=List.map Run.dv (Z04 l (i+(1:Nat)))∧IntKind.i64.wrap ((↑i:Int)+(1:Int))=(↑(i+(1:Nat)):Int)) ?_ kr kr kr;have hne:decide (0≤((Z04 l i).length:Int)-1)=true→Z04 l i≠[]:=by
  intro hd h0;rw[h0]at hd;simp at hd
 have hidx:decide (0≤((Z04 l i).length:Int)-1)=true→0≤((Z04 l i).length:Int)-1∧(((Z04 l i).length:Int)-1).toNat<(List.map Run.dv (Z04 l i)).length:=by
  intro hd;have:=of_decide_eq_true hd;rw[List.length_map];omega
 have hat:decide (0≤((Z04 l i).length:Int)-1)=true→(List.map Run.dv (Z04 l i))[(((Z04 l i).length:Int)-1).toNat]? = some (Z0l (Z04 l i)).dv:=by
  intro hd;rw[show(((Z04 l i).length:Int)-1).toNat=(Z04 l i).length-1 from by omega];exact Zf4 (Z25 (hne hd))
 refine⟨decide_eq_true oq,rfl,⟨by omega,Z1n hp⟩,by rw[List.length_map],Z18 oq oq,by simp[hk],hidx,hat,hidx,hat, ?_,by rw[List.length_map];simp;omega,by rw[e];simp[Run.dv],Z18 oq oq⟩;cases hd:decide (0≤((Z04 l i).length:Int)-1)with
 | false=>simp
 | true =>
  have h1:=hne hd;have hlast:=o2 _ (List.mem_of_getElem? (Z25 h1));rw[Z18 oq oq];simp;intro hh;exact ho ⟨h1,hh⟩
theorem Zjz(l:List Page)(hl:l.length≤1048576)(i:Nat)(hi:i<l.length):CP (rndF Tryz.f196 0) (Z6B l i).st .nrm (Z6B l (i+1)).st:=by
 have hp:=List.getElem?_eq_getElem hi;by_cases hk:l[i].K=0
 ·by_cases ho:Z04 l i≠[]∧(Z0l (Z04 l i)).frm+(Z0l (Z04 l i)).len=i
  ·exact Za2 l hl i _ hp hk ho.1 ho.2
  ·exact Zcj l hl i _ hp hk ho
 ·exact Zab l hl i _ hp hk
theorem Zof(l:List Page):CP (rndF Tryz.f196 0) (Z6B l l.length).st (.ext 0) (Tg.st ⟨tm 54 [(3,.ow 16003)],[(16003,.arr 232 2 ((Z04 l l.length).map Run.dv))],60⟩):=by
 refine Z1C [(10,[.br false])] [] (φ:=decide ((↑l.length:Int)<(↑l.length:Int))=false∧false=false) ?_ kr kr kr;exact⟨decide_eq_false oq,rfl⟩
def runs(l:List Page):List Run:=Z04 l l.length
theorem Zgb(l:List Page)(hl:l.length≤1048576):GP 196 [Z0r l] false (Z76 (runs l)) []:=by
 refine Z0i [(3,[.own]),(8,[.int l.length])] [(0,Z6B l 0,.nrm,⟨tm 54 [(3,.ow 16003)],[(16003,.arr 232 2 ((Z04 l l.length).map Run.dv))],60⟩)] [] dd Tryz.func196 (φ:=(↑(List.map Page.dv l).length:Int)=(↑l.length:Int)∧CP (blkF Tryz.f196 (0:Nat)) (Z6B l (0:Nat)).st Ex.nrm (Tg.mk (tm (54:Nat) [((3:Nat),AV.ow (16003:Nat))]) [((16003:Nat),Blk.arr 232 (2:Nat) (List.map Run.dv (Z04 l l.length)))] (60:Nat)).st) ?_ kr kr;exact⟨by rw[List.length_map],Z0a (S:=fun i=>(Z6B l i).st) l.length kr (fun i hi=>Zjz l hl i hi) (Zof l)⟩
def Z3Y(l:List Page)(i:Nat):Tg:=⟨tm 54 [(0,Z0r l),(3,.ow 16003),(4,int i)],[(16003,.arr 232 2 ((Z04 l i).map Run.dv))],20⟩
theorem Z8p(l:List Page)(hl:l.length≤1048576)(i:Nat)(p:Page)(hp:l[i]? = some p)(hk:p.K≠0):CP (rndF Tryz.f182 0) (Z3Y l i).st .nrm (Z3Y l (i+1)).st:=by
 have hi:i<l.length:=(List.getElem?_eq_some_iff.1 hp).1;have e:Z3Y l (i+1)=⟨tm 54 [(0,Z0r l),(3,.ow 16003),(4,int ((i+1:Nat):Int))],[(16003,.arr 232 2 ((Z04 l i).map Run.dv))],20⟩:=by
  have hpa:Z1e l i=p:=by simp[Z1e,hp]
  rw[Z3Y,Z04,Z3f,hpa,if_neg hk]
 rw[e];refine Z4u [(8,[.int l.length]),(9,[.br true]),(14,[.el p.dv]),(17,[.br true]),(11,[.int ((i+1:Nat):Int)])] [] [] (φ:=(↑(List.map Page.dv l).length:Int)=(↑l.length:Int)∧decide ((↑i:Int)<(↑l.length:Int))=true∧true=true∧((0:Int)≤(↑i:Int)∧(List.map Page.dv l)[(↑i:Int).toNat]? = some p.dv)∧(p.K != (0:Int))=true∧true=true∧IntKind.i64.wrap ((↑i:Int)+(1:Int))=(↑(i+(1:Nat)):Int)) ?_ kr kr kr;exact⟨by rw[List.length_map],decide_eq_true oq,rfl,⟨by omega,Z1n hp⟩,by simp[hk],rfl,Z18 oq oq⟩
theorem Z8W(l:List Page)(hl:l.length≤1048576)(i:Nat)(p:Page)(hp:l[i]? = some p)(hk:p.K=0)(ho:Z04 l i≠[])(hm:(Z0l (Z04 l i)).frm+(Z0l (Z04 l i)).len=i):CP (rndF Tryz.f182 0) (Z3Y l i).st .nrm (Z3Y l (i+1)).st:=by
 have hi:i<l.length:=(List.getElem?_eq_some_iff.1 hp).1;obtain⟨o1,o2⟩:=Z2m l i;have hlast:=o2 _ (List.mem_of_getElem? (Z25 ho));have hpos:0<(Z04 l i).length:=List.length_pos_iff.2 ho;have e:Z04 l (i+1)=(Z04 l i).dropLast++[⟨(Z0l (Z04 l i)).frm,(Z0l (Z04 l i)).len+1⟩]:=by
  have hpa:Z1e l i=p:=by simp[Z1e,hp]
  rw[Z04,Z3f,hpa,if_pos hk,if_pos ⟨ho,hm⟩]
 have hidx:0≤((Z04 l i).length:Int)-1∧(((Z04 l i).length:Int)-1).toNat<(List.map Run.dv (Z04 l i)).length:=by rw[List.length_map];omega
 have hat:(List.map Run.dv (Z04 l i))[(((Z04 l i).length:Int)-1).toNat]? = some (Z0l (Z04 l i)).dv:=by
  rw[show(((Z04 l i).length:Int)-1).toNat=(Z04 l i).length-1 from by omega];exact Zf4 (Z25 ho)
 have hset:(List.map Run.dv (Z04 l i)).set (((Z04 l i).length:Int)-1).toNat [dint (Z0l (Z04 l i)).frm,dint ((Z0l (Z04 l i)).len+1)]=List.map Run.dv (Z04 l (i+1)):=by
  rw[e,← Zga ho,show(((Z04 l i).length:Int)-1).toNat=(Z04 l i).length-1 from by omega];rfl
 have hw:IntKind.i64.wrap (((Z04 l i).length:Int)-1)=((Z04 l i).length:Int)-1:=Z18 oq oq;refine Z4u [(8,[.int l.length]),(9,[.br true]),(14,[.el p.dv]),(17,[.br false]),(19,[.int (Z04 l i).length]),(25,[.int ((Z04 l i).length-1:Int)]),(28,[.el (Z0l (Z04 l i)).dv]),(31,[.int ((Z04 l i).length-1:Int)]),(34,[.el (Z0l (Z04 l i)).dv]),(35,[.int i]),(38,[.br true]),(41,[.int ((Z04 l i).length-1:Int)]),(44,[.el (Z0l (Z04 l i)).dv]),(45,[.int ((Z0l (Z04 l i)).len+1)]),(10047,[.el (Z0l (Z04 l i)).dv,.els ((Z04 l (i+1)).map Run.dv)]),(11,[.int ((i+1:Nat):Int)])] [] [] (φ:=(↑(List.map Page.dv l).length:Int)=(↑l.length:Int)∧decide ((↑i:Int)<(↑l.length:Int))=true∧true=true∧((0:Int)≤(↑i:Int)∧(List.map Page.dv l)[(↑i:Int).toNat]? = some p.dv)∧(p.K != (0:Int))=false∧false=false∧(↑(List.map Run.dv (Z04 l i)).length:Int)=(↑(Z04 l i).length:Int)∧(decide ((0:Int)<(↑(Z04 l i).length:Int))=true→IntKind.i64.wrap ((↑(Z04 l i).length:Int)-(1:Int))=(↑(Z04 l i).length:Int)-(1:Int))∧(decide ((0:Int)<(↑(Z04 l i).length:Int))=true→(0:Int)≤(↑(Z04 l i).length:Int)-(1:Int)∧((↑(Z04 l i).length:Int)-(1:Int)).toNat<(List.map Run.dv (Z04 l i)).length)∧(decide ((0:Int)<(↑(Z04 l i).length:Int))=true→(List.map Run.dv (Z04 l i))[((↑(Z04 l i).length:Int)-(1:Int)).toNat]? = some (Z0l (Z04 l i)).dv)∧(decide ((0:Int)<(↑(Z04 l i).length:Int))=true→IntKind.i64.wrap ((↑(Z04 l i).length:Int)-(1:Int))=(↑(Z04 l i).length:Int)-(1:Int))∧(decide ((0:Int)<(↑(Z04 l i).length:Int))=true→(0:Int)≤(↑(Z04 l i).length:Int)-(1:Int)∧((↑(Z04 l i).length:Int)-(1:Int)).toNat<(List.map Run.dv (Z04 l i)).length)∧(decide ((0:Int)<(↑(Z04 l i).length:Int))=true→(List.map Run.dv (Z04 l i))[((↑(Z04 l i).length:Int)-(1:Int)).toNat]? = some (Z0l (Z04 l i)).dv)∧(decide ((0:Int)<(↑(Z04 l i).length:Int))=true→IntKind.i64.wrap ((Z0l (Z04 l i)).frm+(Z0l (Z04 l i)).len)=(↑i:Int))∧(decide ((0:Int)<(↑(Z04 l i).length:Int))&&(↑i:Int)==(↑i:Int))=true∧true=true∧IntKind.i64.wrap ((↑(Z04 l i).length:Int)-(1:Int))=(↑(Z04 l i).length:Int)-(1:Int)∧((0:Int)≤(↑(Z04 l i).length:Int)-(1:Int)∧((↑(Z04 l i).length:Int)-(1:Int)).toNat<(List.map Run.dv (Z04 l i)).length)∧(List.map Run.dv (Z04 l i))[((↑(Z04 l i).length:Int)-(1:Int)).toNat]? = some (Z0l (Z04 l i)).dv∧IntKind.i64.wrap ((Z0l (Z04 l i)).len+(1:Int))=(Z0l (Z04 l i)).len+(1:Int)∧((0:Int)≤(↑(Z04 l i).length:Int)-(1:Int)∧((↑(Z04 l i).length:Int)-(1:Int)).toNat<(List.map Run.dv (Z04 l i)).length)∧(List.map Run.dv (Z04 l i))[((↑(Z04 l i).length:Int)-(1:Int)).toNat]? = some (Z0l (Z04 l i)).dv∧(List.map Run.dv (Z04 l i)).set ((↑(Z04 l i).length:Int)-(1:Int)).toNat (Z1w (Z0l (Z04 l i)).dv ((0:Nat) + #[Field.mk "From" (3:Nat) (0:Nat) false "" "" (0:Nat),Field.mk "Len" (3:Nat) (1:Nat) false "" "" (8:Nat)][(1:Nat)].3) [dint ((Z0l (Z04 l i)).len+(1:Int))])=List.map Run.dv (Z04 l (i+(1:Nat)))∧IntKind.i64.wrap ((↑i:Int)+(1:Int))=(↑(i+(1:Nat)):Int)) ?_ kr kr kr;exact⟨by rw[List.length_map],decide_eq_true oq,rfl,⟨by omega,Z1n hp⟩,by simp[hk],rfl,by rw[List.length_map],fun _=>hw,fun _=>hidx,fun _=>hat,fun _=>hw,fun _=>hidx,fun _=>hat,fun _=>by rw[hm];exact Z18 oq oq,by simp;omega,rfl,hw,hidx,hat,Z18 oq oq,hidx,hat,hset,Z18 oq oq⟩
theorem Z9S(l:List Page)(hl:l.length≤1048576)(i:Nat)(p:Page)(hp:l[i]? = some p)(hk:p.K=0)(ho:¬ (Z04 l i≠[]∧(Z0l (Z04 l i)).frm+(Z0l (Z04 l i)).len=i)):CP (rndF Tryz.f182 0) (Z3Y l i).st .nrm (Z3Y l (i+1)).st:=by
 have hi:i<l.length:=(List.getElem?_eq_some_iff.1 hp).1;obtain⟨o1,o2⟩:=Z2m l i;have e:Z04 l (i+1)=Z04 l i++[⟨i,1⟩]:=by
  have hpa:Z1e l i=p:=by simp[Z1e,hp]
  rw[Z04,Z3f,hpa,if_pos hk,if_neg ho]
 have hne:decide (0<((Z04 l i).length:Int))=true→Z04 l i≠[]:=by
  intro hd h0;rw[h0]at hd;simp at hd
 have hidx:decide (0<((Z04 l i).length:Int))=true→0≤((Z04 l i).length:Int)-1∧(((Z04 l i).length:Int)-1).toNat<(List.map Run.dv (Z04 l i)).length:=by
  intro hd;have:=of_decide_eq_true hd;rw[List.length_map];omega
 have hat:decide (0<((Z04 l i).length:Int))=true→(List.map Run.dv (Z04 l i))[(((Z04 l i).length:Int)-1).toNat]? = some (Z0l (Z04 l i)).dv:=by
  intro hd;rw[show(((Z04 l i).length:Int)-1).toNat=(Z04 l i).length-1 from by omega];exact Zf4 (Z25 (hne hd))
 have hw:IntKind.i64.wrap (((Z04 l i).length:Int)-1)=((Z04 l i).length:Int)-1:=Z18 oq oq;refine Z4u [(8,[.int l.length]),(9,[.br true]),(14,[.el p.dv]),(17,[.br false]),(19,[.int (Z04 l i).length]),(25,[.int ((Z04 l i).length-1:Int)]),(28,[.el (Z0l (Z04 l i)).dv]),(31,[.int ((Z04 l i).length-1:Int)]),(34,[.el (Z0l (Z04 l i)).dv]),(38,[.br false]),(52,[.els ((Z04 l (i+1)).map Run.dv)]),(11,[.int ((i+1:Nat):Int)])] [] [(192052,16003)] (φ:=(↑(List.map Page.dv l).length:Int)=(↑l.length:Int)∧decide ((↑i:Int)<(↑l.length:Int))=true∧true=true∧((0:Int)≤(↑i:Int)∧(List.map Page.dv l)[(↑i:Int).toNat]? = some p.dv)∧(p.K != (0:Int))=false∧false=false∧(↑(List.map Run.dv (Z04 l i)).length:Int)=(↑(Z04 l i).length:Int)∧(decide ((0:Int)<(↑(Z04 l i).length:Int))=true→IntKind.i64.wrap ((↑(Z04 l i).length:Int)-(1:Int))=(↑(Z04 l i).length:Int)-(1:Int))∧(decide ((0:Int)<(↑(Z04 l i).length:Int))=true→(0:Int)≤(↑(Z04 l i).length:Int)-(1:Int)∧((↑(Z04 l i).length:Int)-(1:Int)).toNat<(List.map Run.dv (Z04 l i)).length)∧(decide ((0:Int)<(↑(Z04 l i).length:Int))=true→(List.map Run.dv (Z04 l i))[((↑(Z04 l i).length:Int)-(1:Int)).toNat]? = some (Z0l (Z04 l i)).dv)∧(decide ((0:Int)<(↑(Z04 l i).length:Int))=true→IntKind.i64.wrap ((↑(Z04 l i).length:Int)-(1:Int))=(↑(Z04 l i).length:Int)-(1:Int))∧(decide ((0:Int)<(↑(Z04 l i).length:Int))=true→(0:Int)≤(↑(Z04 l i).length:Int)-(1:Int)∧((↑(Z04 l i).length:Int)-(1:Int)).toNat<(List.map Run.dv (Z04 l i)).length)∧(decide ((0:Int)<(↑(Z04 l i).length:Int))=true→(List.map Run.dv (Z04 l i))[((↑(Z04 l i).length:Int)-(1:Int)).toNat]? = some (Z0l (Z04 l i)).dv)∧(decide ((0:Int)<(↑(Z04 l i).length:Int))&&IntKind.i64.wrap ((Z0l (Z04 l i)).frm+(Z0l (Z04 l i)).len)==(↑i:Int))=false∧false=false∧(List.map Run.dv (Z04 l i)).length+((List.replicate (1:Nat) [dint (0:Int),dint (0:Int)]).set (0:Nat) [dint (↑i:Int),dint (1:Int)]).length≤(2:Nat)^(30:Nat)∧List.map Run.dv (Z04 l i)++(List.replicate (1:Nat) [dint (0:Int),dint (0:Int)]).set (0:Nat) [dint (↑i:Int),dint (1:Int)]=List.map Run.dv (Z04 l (i+(1:Nat)))∧IntKind.i64.wrap ((↑i:Int)+(1:Int))=(↑(i+(1:Nat)):Int)) ?_ kr kr kr;refine⟨by rw[List.length_map],decide_eq_true oq,rfl,⟨by omega,Z1n hp⟩,by simp[hk],rfl,by rw[List.length_map],fun _=>hw,hidx,hat,fun _=>hw,hidx,hat, ?_,rfl,by rw[List.length_map];simp;omega,by rw[e];simp[Run.dv],Z18 oq oq⟩;cases hd:decide (0<((Z04 l i).length:Int))with
 | false=>simp
 | true =>
  have h1:=hne hd;have hlast:=o2 _ (List.mem_of_getElem? (Z25 h1));rw[Z18 oq oq];simp;intro hh;exact ho ⟨h1,hh⟩
theorem Zgv(l:List Page)(hl:l.length≤1048576)(i:Nat)(hi:i<l.length):CP (rndF Tryz.f182 0) (Z3Y l i).st .nrm (Z3Y l (i+1)).st:=by
 have hp:=List.getElem?_eq_getElem hi;by_cases hk:l[i].K=0
 ·by_cases ho:Z04 l i≠[]∧(Z0l (Z04 l i)).frm+(Z0l (Z04 l i)).len=i
  ·exact Z8W l hl i _ hp hk ho.1 ho.2
  ·exact Z9S l hl i _ hp hk ho
 ·exact Z8p l hl i _ hp hk
theorem ZkN(l:List Page):CP (rndF Tryz.f182 0) (Z3Y l l.length).st (.ext 0) (Tg.st ⟨tm 54 [(3,.ow 16003)],[(16003,.arr 232 2 ((Z04 l l.length).map Run.dv))],60⟩):=by
 refine Z1C [(8,[.int l.length]),(9,[.br false])] [] (φ:=(↑(List.map Page.dv l).length:Int)=(↑l.length:Int)∧decide ((↑l.length:Int)<(↑l.length:Int))=false∧false=false) ?_ kr kr kr;exact⟨by rw[List.length_map],decide_eq_false oq,rfl⟩
theorem Ze0(l:List Page)(hl:l.length≤1048576):GP 182 [Z0r l] false (Z76 (runs l)) []:=by
 refine Z0i [(3,[.own])] [(0,Z3Y l 0,.nrm,⟨tm 54 [(3,.ow 16003)],[(16003,.arr 232 2 ((Z04 l l.length).map Run.dv))],60⟩)] [] dd Tryz.func182 (φ:=CP (blkF Tryz.f182 (0:Nat)) (Z3Y l (0:Nat)).st Ex.nrm (Tg.mk (tm (54:Nat) [((3:Nat),AV.ow (16003:Nat))]) [((16003:Nat),Blk.arr 232 (2:Nat) (List.map Run.dv (Z04 l l.length)))] (60:Nat)).st) ?_ kr kr;exact Z0a (S:=fun i=>(Z3Y l i).st) l.length kr (fun i hi=>Zgv l hl i hi) (ZkN l)
theorem Z94{l:List Run}{i:Nat}{p:Run}(h:l[i]? = some p):(l.map Run.dv)[((i:Nat):Int).toNat]? = some p.dv:=by simp[h]
def Z1A(l:List Page):Nat→Nat
 | 0=>0
 | i+1=>Z1A l i+(if(Z1e l i).K=0 then 0 else 1)
theorem Z6v(l:List Page):∀ i,Z1A l i≤i
 | 0=>Nat.le_refl _
 | i+1=>by
  have:=Z6v l i;simp only[Z1A];split<;>omega
def Z1t(l:List Page):Nat:=Z1A l l.length
def Z7O(l:List Page)(i:Nat):Tg:=⟨tm 19 [(3,int (Z1A l i)),(6,Z0r l),(7,int l.length),(8,int i)],[],20⟩
theorem Zgu(l:List Page)(hl:l.length≤1048576)(i:Nat)(hi:i<l.length):CP (rndF Tryz.f206 0) (Z7O l i).st .nrm (Z7O l (i+1)).st:=by
 have hp:=List.getElem?_eq_getElem hi;have hle:=Z6v l i;have hpa:Z1e l i=l[i]:=by simp[Z1e,hp]
 by_cases hk:l[i].K=0
 ·have e:Z1A l (i+1)=Z1A l i:=by rw[Z1A,hpa,if_pos hk];rfl
  rw[show Z7O l (i+1)=⟨tm 19 [(3,int (Z1A l i)),(6,Z0r l),(7,int l.length),(8,int ((i+1:Nat):Int))],[],20⟩from by rw[Z7O,e]];refine Z1C [(9,[.br true]),(10,[.el l[i].dv]),(14,[.br false]),(17,[.int ((i+1:Nat):Int)])] [] (φ:=decide ((↑i:Int)<(↑l.length:Int))=true∧true=true∧((0:Int)≤(↑i:Int)∧(List.map Page.dv l)[(↑i:Int).toNat]? = some (l.get (Fin.mk i hi)).dv)∧((l.get (Fin.mk i hi)).K != (0:Int))=false∧false=false∧IntKind.i64.wrap ((↑i:Int)+(1:Int))=(↑(i+(1:Nat)):Int)) ?_ kr kr kr;exact⟨decide_eq_true oq,rfl,⟨by omega,Z1n hp⟩,by simp[hk],rfl,Z18 oq oq⟩
 ·have e:Z1A l (i+1)=Z1A l i+1:=by rw[Z1A,hpa,if_neg hk]
  refine Z1C [(9,[.br true]),(10,[.el l[i].dv]),(14,[.br true]),(16,[.int (Z1A l (i+1))]),(17,[.int ((i+1:Nat):Int)])] [] (φ:=decide ((↑i:Int)<(↑l.length:Int))=true∧true=true∧((0:Int)≤(↑i:Int)∧(List.map Page.dv l)[(↑i:Int).toNat]? = some (l.get (Fin.mk i hi)).dv)∧((l.get (Fin.mk i hi)).K != (0:Int))=true∧true=true∧IntKind.i64.wrap ((↑(Z1A l i):Int)+(1:Int))=(↑(Z1A l (i+(1:Nat))):Int)∧IntKind.i64.wrap ((↑i:Int)+(1:Int))=(↑(i+(1:Nat)):Int)) ?_ kr kr kr;exact⟨decide_eq_true oq,rfl,⟨by omega,Z1n hp⟩,by simp[hk],rfl,by rw[e];exact Z18 oq oq,Z18 oq oq⟩
theorem ZkZ(l:List Page):CP (rndF Tryz.f206 0) (Z7O l l.length).st (.ext 0) (Tg.st ⟨tm 19 [(3,int (Z1t l))],[],60⟩):=by
 refine Z1C [(9,[.br false])] [] (φ:=decide ((↑l.length:Int)<(↑l.length:Int))=false∧false=false) ?_ kr kr kr;exact⟨decide_eq_false oq,rfl⟩
theorem Zk8(l:List Page)(hl:l.length≤1048576):GP 206 [Z0r l] true (int (Z1t l)) []:=by
 refine Z0i [(7,[.int l.length])] [(0,Z7O l 0,.nrm,⟨tm 19 [(3,int (Z1t l))],[],60⟩)] [] dd Tryz.func206 (φ:=(↑(List.map Page.dv l).length:Int)=(↑l.length:Int)∧CP (blkF Tryz.f206 (0:Nat)) (Z7O l (0:Nat)).st Ex.nrm (Tg.mk (tm (19:Nat) [((3:Nat),int (↑(Z1t l):Int))]) [] (60:Nat)).st) ?_ kr kr;exact⟨by rw[List.length_map],Z0a (S:=fun i=>(Z7O l i).st) l.length kr (fun i hi=>Zgu l hl i hi) (ZkZ l)⟩
def Z54(l:List Page)(i:Nat):Tg:=⟨tm 20 [(0,Z0r l),(3,int (Z1A l i)),(4,int i)],[],20⟩
theorem Zee(l:List Page)(hl:l.length≤1048576)(i:Nat)(hi:i<l.length):CP (rndF Tryz.f187 0) (Z54 l i).st .nrm (Z54 l (i+1)).st:=by
 have hp:=List.getElem?_eq_getElem hi;have hle:=Z6v l i;have hpa:Z1e l i=l[i]:=by simp[Z1e,hp]
 by_cases hk:l[i].K=0
 ·have e:Z1A l (i+1)=Z1A l i:=by rw[Z1A,hpa,if_pos hk];rfl
  rw[show Z54 l (i+1)=⟨tm 20 [(0,Z0r l),(3,int (Z1A l i)),(4,int ((i+1:Nat):Int))],[],20⟩from by rw[Z54,e]];refine Z1C [(7,[.int l.length]),(8,[.br true]),(13,[.el l[i].dv]),(16,[.br false]),(10,[.int ((i+1:Nat):Int)])] [] (φ:=(↑(List.map Page.dv l).length:Int)=(↑l.length:Int)∧decide ((↑i:Int)<(↑l.length:Int))=true∧true=true∧((0:Int)≤(↑i:Int)∧(List.map Page.dv l)[(↑i:Int).toNat]? = some (l.get (Fin.mk i hi)).dv)∧((l.get (Fin.mk i hi)).K != (0:Int))=false∧false=false∧IntKind.i64.wrap ((↑i:Int)+(1:Int))=(↑(i+(1:Nat)):Int)) ?_ kr kr kr;exact⟨by rw[List.length_map],decide_eq_true oq,rfl,⟨by omega,Z1n hp⟩,by simp[hk],rfl,Z18 oq oq⟩
 ·have e:Z1A l (i+1)=Z1A l i+1:=by rw[Z1A,hpa,if_neg hk]
  refine Z1C [(7,[.int l.length]),(8,[.br true]),(13,[.el l[i].dv]),(16,[.br true]),(18,[.int (Z1A l (i+1))]),(10,[.int ((i+1:Nat):Int)])] [] (φ:=(↑(List.map Page.dv l).length:Int)=(↑l.length:Int)∧decide ((↑i:Int)<(↑l.length:Int))=true∧true=true∧((0:Int)≤(↑i:Int)∧(List.map Page.dv l)[(↑i:Int).toNat]? = some (l.get (Fin.mk i hi)).dv)∧((l.get (Fin.mk i hi)).K != (0:Int))=true∧true=true∧IntKind.i64.wrap ((↑(Z1A l i):Int)+(1:Int))=(↑(Z1A l (i+(1:Nat))):Int)∧IntKind.i64.wrap ((↑i:Int)+(1:Int))=(↑(i+(1:Nat)):Int)) ?_ kr kr kr;exact⟨by rw[List.length_map],decide_eq_true oq,rfl,⟨by omega,Z1n hp⟩,by simp[hk],rfl,by rw[e];exact Z18 oq oq,Z18 oq oq⟩
theorem ZhG(l:List Page):CP (rndF Tryz.f187 0) (Z54 l l.length).st (.ext 0) (Tg.st ⟨tm 20 [(3,int (Z1t l))],[],60⟩):=by
 refine Z1C [(7,[.int l.length]),(8,[.br false])] [] (φ:=(↑(List.map Page.dv l).length:Int)=(↑l.length:Int)∧decide ((↑l.length:Int)<(↑l.length:Int))=false∧false=false) ?_ kr kr kr;exact⟨by rw[List.length_map],decide_eq_false oq,rfl⟩
theorem Z73(l:List Page)(hl:l.length≤1048576):GP 187 [Z0r l] true (int (Z1t l)) []:=by
 refine Z0i [] [(0,Z54 l 0,.nrm,⟨tm 20 [(3,int (Z1t l))],[],60⟩)] [] dd Tryz.func187 (φ:=CP (blkF Tryz.f187 (0:Nat)) (Z54 l (0:Nat)).st Ex.nrm (Tg.mk (tm (20:Nat) [((3:Nat),int (↑(Z1t l):Int))]) [] (60:Nat)).st) ?_ kr kr;exact Z0a (S:=fun i=>(Z54 l i).st) l.length kr (fun i hi=>Zee l hl i hi) (ZhG l)
def Z2M:List Run→Int→Int
 | [],_=>-1
 | r::l,k=>if k≤r.len then r.frm else Z2M l k
def first(l:List Page)(k:Int):Int:=if k<1 then -1 else Z2M (runs l) k
theorem Z5c:∀ {l:List Run} {k:Int},(l.all fun r=>decide (r.len<k))=true→Z2M l k=-1
 | [],_,_=>rfl
 | r::l,k,h=>by
  simp only[List.all_cons,Bool.and_eq_true,decide_eq_true_eq]at h;rw[Z2M,if_neg oq,Z5c h.2]
theorem Z4W:∀ {l:List Run} {k:Int} {j:Nat} {r:Run},l[j]? = some r→k≤r.len→(∀ i:Nat,i<j→∃ y,l[i]? = some y∧decide (y.len<k)=true)→Z2M l k=r.frm
 | [],_,_,_,h,_,_=>by simp at h
 | x::l,k,0,r,h,hr,_=>by
  simp at h;subst h;rw[Z2M,if_pos hr]
 | x::l,k,j+1,r,h,hr,hb=>by
  obtain⟨y,h1,h2⟩:=hb 0 oq;simp at h1 h2;subst h1;rw[Z2M,if_neg oq];exact Z4W (by simpa using h) hr fun i hi=>by
   obtain⟨z,h3,h4⟩:=hb (i+1) oq;exact⟨z,by simpa using h3,h4⟩
theorem Zfz{l:List Page}:(runs l).length≤l.length:=(Z2m l l.length).1
def Z5Z(rs:List Run)(k:Int)(i:Nat):Tg:=⟨tm 23 [(1,int k),(4,int 0),(10,Z76 rs),(11,int rs.length),(12,int i)],[],20⟩
theorem ZaB(rs:List Run)(k:Int)(i:Nat)(r:Run)(hl:rs.length≤1048576)(hr:rs[i]? = some r)(hk:r.len<k):CP (rndF Tryz.f175 0) (Z5Z rs k i).st .nrm (Z5Z rs k (i+1)).st:=by
 have hi:i<rs.length:=(List.getElem?_eq_some_iff.1 hr).1;refine Z1C [(13,[.br true]),(14,[.el r.dv]),(19,[.br false]),(22,[.int ((i+1:Nat):Int)])] [] (φ:=decide ((↑i:Int)<(↑rs.length:Int))=true∧true=true∧((0:Int)≤(↑i:Int)∧(List.map Run.dv rs)[(↑i:Int).toNat]? = some r.dv)∧decide (k≤r.len)=false∧false=false∧IntKind.i64.wrap ((↑i:Int)+(1:Int))=(↑(i+(1:Nat)):Int)) ?_ kr kr kr;exact⟨decide_eq_true oq,rfl,⟨by omega,Z94 hr⟩,decide_eq_false oq,rfl,Z18 oq oq⟩
theorem ZgL(rs:List Run)(k:Int)(i:Nat)(r:Run)(hr:rs[i]? = some r)(hk:k≤r.len):CP (rndF Tryz.f175 0) (Z5Z rs k i).st .ret (Tg.st ⟨tm 23 [(4,int r.frm)],[],60⟩):=by
 have hi:i<rs.length:=(List.getElem?_eq_some_iff.1 hr).1;refine Z1C [(13,[.br true]),(14,[.el r.dv]),(19,[.br true])] [] (φ:=decide ((↑i:Int)<(↑rs.length:Int))=true∧true=true∧((0:Int)≤(↑i:Int)∧(List.map Run.dv rs)[(↑i:Int).toNat]? = some r.dv)∧decide (k≤r.len)=true∧true=true) ?_ kr kr kr;exact⟨decide_eq_true oq,rfl,⟨by omega,Z94 hr⟩,decide_eq_true oq,rfl⟩
theorem ZlQ(rs:List Run)(k:Int):CP (rndF Tryz.f175 0) (Z5Z rs k rs.length).st (.ext 0) (Tg.st ⟨tm 23 [],[],60⟩):=by
 refine Z1C [(13,[.br false])] [] (φ:=decide ((↑rs.length:Int)<(↑rs.length:Int))=false∧false=false) ?_ kr kr kr;exact⟨decide_eq_false oq,rfl⟩
theorem Z7a(l:List Page)(k:Int)(hl:l.length≤1048576):GP 175 [Z0r l,int k] true (int (first l k)) []:=by
 by_cases hk:k<1
 ·rw[first,if_pos hk];refine Z0i [(8,[.br true])] [] [] dd Tryz.func175 (φ:=decide (k<(1:Int))=true∧true=true) ?_ kr kr;exact⟨decide_eq_true hk,rfl⟩
 ·rw[first,if_neg hk];have hrl:=Zfz (l:=l);cases ha:(runs l).all fun r=>decide (r.len<k)with
  | true =>
   rw[Z5c ha];refine Z0i [(8,[.br false]),(10,[.call false (Z76 (runs l)) []]),(11,[.int (runs l).length])] [(0,Z5Z (runs l) k 0,.nrm,⟨tm 23 [],[],60⟩)] [] dd Tryz.func175 (φ:=decide (k<(1:Int))=false∧false=false∧GP 196 [AV.d (DV.sl (4:Nat) (List.map Page.dv l))] false (Z76 (runs l)) []∧(↑(List.map Run.dv (runs l)).length:Int)=(↑(runs l).length:Int)∧CP (blkF Tryz.f175 (0:Nat)) (Z5Z (runs l) k (0:Nat)).st Ex.nrm (Tg.mk (tm (23:Nat) []) [] (60:Nat)).st) ?_ kr kr;refine⟨decide_eq_false hk,rfl,Zgb l hl,by rw[List.length_map],Z0a (S:=fun i=>(Z5Z (runs l) k i).st) (runs l).length kr (fun i hi=>?_) (ZlQ _ _)⟩;have:=List.all_eq_true.1 ha _ (List.getElem_mem hi);exact ZaB _ k i _ oq (List.getElem?_eq_getElem hi) (by simpa using this)
  | false =>
   obtain⟨j,r,h1,h2,h3⟩:=Z4Z ha;have hr:k≤r.len:=by simpa using h2
   rw[Z4W h1 hr h3];refine Z0i [(8,[.br false]),(10,[.call false (Z76 (runs l)) []]),(11,[.int (runs l).length])] [(0,Z5Z (runs l) k 0,.ret,⟨tm 23 [(4,int r.frm)],[],60⟩)] [] dd Tryz.func175 (φ:=decide (k<(1:Int))=false∧false=false∧GP 196 [AV.d (DV.sl (4:Nat) (List.map Page.dv l))] false (Z76 (runs l)) []∧(↑(List.map Run.dv (runs l)).length:Int)=(↑(runs l).length:Int)∧CP (blkF Tryz.f175 (0:Nat)) (Z5Z (runs l) k (0:Nat)).st Ex.ret (Tg.mk (tm (23:Nat) [((4:Nat),int r.frm)]) [] (60:Nat)).st) ?_ kr kr;refine⟨decide_eq_false hk,rfl,Zgb l hl,by rw[List.length_map],Z0I (S:=fun i=>(Z5Z (runs l) k i).st) j kr (fun i hi=>?_) (ZgL _ k j r h1 hr)⟩;obtain⟨y,h4,h5⟩:=h3 i hi;exact ZaB _ k i y oq h4 (by simpa using h5)
def Z33(rs:List Run)(k:Int)(i:Nat):Tg:=⟨tm 31 [(1,int k),(4,int 0),(5,Z76 rs),(6,int i)],[],20⟩
theorem Z6o(rs:List Run)(k:Int)(i:Nat)(r:Run)(hl:rs.length≤1048576)(hr:rs[i]? = some r)(hk:k<1∨r.len<k):CP (rndF Tryz.f148 0) (Z33 rs k i).st .nrm (Z33 rs k (i+1)).st:=by
 have hi:i<rs.length:=(List.getElem?_eq_some_iff.1 hr).1;refine Z1C [(11,[.int rs.length]),(12,[.br true]),(20,[.el r.dv]),(25,[.br false]),(14,[.int ((i+1:Nat):Int)])] [] (φ:=(↑(List.map Run.dv rs).length:Int)=(↑rs.length:Int)∧decide ((↑i:Int)<(↑rs.length:Int))=true∧true=true∧(decide ((1:Int)≤k)=true→(0:Int)≤(↑i:Int)∧(List.map Run.dv rs)[(↑i:Int).toNat]? = some r.dv)∧(decide ((1:Int)≤k)&&decide (k≤r.len))=false∧false=false∧IntKind.i64.wrap ((↑i:Int)+(1:Int))=(↑(i+(1:Nat)):Int)) ?_ kr kr kr;exact⟨by rw[List.length_map],decide_eq_true oq,rfl,fun _=>⟨by omega,Z94 hr⟩,by simp;omega,rfl,Z18 oq oq⟩
theorem Ze2(rs:List Run)(k:Int)(i:Nat)(r:Run)(hr:rs[i]? = some r)(hk1:1≤k)(hk:k≤r.len):CP (rndF Tryz.f148 0) (Z33 rs k i).st .ret (Tg.st ⟨tm 31 [(4,int r.frm)],[],60⟩):=by
 have hi:i<rs.length:=(List.getElem?_eq_some_iff.1 hr).1;refine Z1C [(11,[.int rs.length]),(12,[.br true]),(20,[.el r.dv]),(25,[.br true]),(28,[.el r.dv])] [] (φ:=(↑(List.map Run.dv rs).length:Int)=(↑rs.length:Int)∧decide ((↑i:Int)<(↑rs.length:Int))=true∧true=true∧(decide ((1:Int)≤k)=true→(0:Int)≤(↑i:Int)∧(List.map Run.dv rs)[(↑i:Int).toNat]? = some r.dv)∧(decide ((1:Int)≤k)&&decide (k≤r.len))=true∧true=true∧(0:Int)≤(↑i:Int)∧(List.map Run.dv rs)[(↑i:Int).toNat]? = some r.dv) ?_ kr kr kr;exact⟨by rw[List.length_map],decide_eq_true oq,rfl,fun _=>⟨by omega,Z94 hr⟩,by simp;omega,rfl,⟨by omega,Z94 hr⟩⟩
theorem Zct(rs:List Run)(k:Int):CP (rndF Tryz.f148 0) (Z33 rs k rs.length).st (.ext 0) (Tg.st ⟨tm 31 [],[],60⟩):=by
 refine Z1C [(11,[.int rs.length]),(12,[.br false])] [] (φ:=(↑(List.map Run.dv rs).length:Int)=(↑rs.length:Int)∧decide ((↑rs.length:Int)<(↑rs.length:Int))=false∧false=false) ?_ kr kr kr;exact⟨by rw[List.length_map],decide_eq_false oq,rfl⟩
theorem Z5q(l:List Page)(k:Int)(hl:l.length≤1048576):GP 148 [Z0r l,int k] true (int (first l k)) []:=by
 have hrl:=Zfz (l:=l);by_cases hk:k<1
 ·rw[first,if_pos hk];refine Z0i [(8,[.call false (Z76 (runs l)) []])] [(0,Z33 (runs l) k 0,.nrm,⟨tm 31 [],[],60⟩)] [] dd Tryz.func148 (φ:=GP 182 [AV.d (DV.sl (4:Nat) (List.map Page.dv l))] false (Z76 (runs l)) []∧CP (blkF Tryz.f148 (0:Nat)) (Z33 (runs l) k (0:Nat)).st Ex.nrm (Tg.mk (tm (31:Nat) []) [] (60:Nat)).st) ?_ kr kr;exact⟨Ze0 l hl,Z0a (S:=fun i=>(Z33 (runs l) k i).st) (runs l).length kr (fun i hi=>Z6o _ k i _ oq (List.getElem?_eq_getElem hi) (.inl hk)) (Zct _ _)⟩
 ·rw[first,if_neg hk];cases ha:(runs l).all fun r=>decide (r.len<k)with
  | true =>
   rw[Z5c ha];refine Z0i [(8,[.call false (Z76 (runs l)) []])] [(0,Z33 (runs l) k 0,.nrm,⟨tm 31 [],[],60⟩)] [] dd Tryz.func148 (φ:=GP 182 [AV.d (DV.sl (4:Nat) (List.map Page.dv l))] false (Z76 (runs l)) []∧CP (blkF Tryz.f148 (0:Nat)) (Z33 (runs l) k (0:Nat)).st Ex.nrm (Tg.mk (tm (31:Nat) []) [] (60:Nat)).st) ?_ kr kr;refine⟨Ze0 l hl,Z0a (S:=fun i=>(Z33 (runs l) k i).st) (runs l).length kr (fun i hi=>?_) (Zct _ _)⟩;have:=List.all_eq_true.1 ha _ (List.getElem_mem hi);exact Z6o _ k i _ oq (List.getElem?_eq_getElem hi) (.inr (by simpa using this))
  | false =>
   obtain⟨j,r,h1,h2,h3⟩:=Z4Z ha;have hr:k≤r.len:=by simpa using h2
   rw[Z4W h1 hr h3];refine Z0i [(8,[.call false (Z76 (runs l)) []])] [(0,Z33 (runs l) k 0,.ret,⟨tm 31 [(4,int r.frm)],[],60⟩)] [] dd Tryz.func148 (φ:=GP 182 [AV.d (DV.sl (4:Nat) (List.map Page.dv l))] false (Z76 (runs l)) []∧CP (blkF Tryz.f148 (0:Nat)) (Z33 (runs l) k (0:Nat)).st Ex.ret (Tg.mk (tm (31:Nat) [((4:Nat),int r.frm)]) [] (60:Nat)).st) ?_ kr kr;refine⟨Ze0 l hl,Z0I (S:=fun i=>(Z33 (runs l) k i).st) j kr (fun i hi=>?_) (Ze2 _ k j r h1 oq hr)⟩;obtain⟨y,h4,h5⟩:=h3 i hi;exact Z6o _ k i y oq h4 (.inr (by simpa using h5))
theorem Z8X(l:List Page):∀ i,∀ r∈Z04 l i,∀ j:Int,r.frm≤j→j<r.frm+r.len→(l.getD j.toNat default).K=0
 | 0=>by simp[Z04]
 | i+1=>by
  have ih:=Z8X l i;have ok:=(Z2m l i).2;intro r hr j h1 h2;simp only[Z04,Z3f]at hr;have hpa:Z1e l i=l.getD i default:=by rw[Z3K];simp
  split at hr
  ·rename_i hk;rw[hpa]at hk;split at hr
   ·rename_i hc;have hmem:=List.mem_of_getElem? (Z25 hc.1);rcases List.mem_append.1 hr with hr | hr
    ·exact ih r (List.dropLast_subset _ hr) j h1 h2
    ·simp at hr;subst hr;simp only at h1 h2;by_cases hj:j=i
     ·subst hj;simpa using hk
     ·exact ih _ hmem j h1 oq
   ·rcases List.mem_append.1 hr with hr | hr
    ·exact ih r hr j h1 h2
    ·simp at hr;subst hr;simp only at h1 h2;have:j=i:=by omega
     subst this;simpa using hk
  ·exact ih r hr j h1 h2
theorem Z8J:∀ {l:List Run} {k:Int},0≤Z2M l k→∃ r∈l,Z2M l k=r.frm∧k≤r.len
 | [],_,h=>by simp[Z2M]at h
 | r::l,k,h=>by
  rw[Z2M]at h ⊢;split
  ·exact⟨r,by simp,rfl,aa⟩
  ·rename_i hk;rw[if_neg hk]at h;obtain⟨x,hx,h1,h2⟩:=Z8J h;exact⟨x,by simp[hx],h1,h2⟩
theorem Z1j{l:List Page}{k:Int}(h:0≤first l k):1≤k∧first l k+k≤l.length∧Z6e l (first l k).toNat k.toNat=true:=by
 unfold first at h ⊢
 split at h
 ·omega
 ·rename_i hk;rw[if_neg hk];obtain⟨r,hr,h1,h2⟩:=Z8J h;have ok:=(Z2m l l.length).2 r hr;rw[h1]at h ⊢;refine⟨by omega,by omega,freeK_iff.2 fun j hj=>?_⟩;have:=Z8X l l.length r hr (r.frm+j) oq oq;rwa [show(r.frm+(j:Int)).toNat=r.frm.toNat+j from by omega]at this
theorem Z6k(l:List Page)(k:Int):-1≤first l k∧first l k≤l.length:=by
 by_cases h:0≤first l k
 ·have:=Z1j h;omega
 ·unfold first at h ⊢
  split
  ·omega
  ·rename_i hk;rw[if_neg hk]at h;have:∀ m:List Run,(∀ r∈m,0≤r.frm)→-1≤Z2M m k:=by
    intro m;induction m with
    | nil=>intro _;simp[Z2M]
    | cons r m ih =>
     intro hm;rw[Z2M];split
     ·have:=hm r pq;omega
     ·exact ih fun x hx=>hm x (by simp[hx])
   have:=this (runs l) fun r hr=>((Z2m l l.length).2 r hr).1;omega
theorem ZjK{c:Conf}{l:List Page}:∀ {f i:Nat} {due:Int},0≤due→rpB c l f i due=true→l.length≤i+f→∀ j,i≤j→j<l.length→∃ d,0≤d∧rchk c l j d:=by
 intro f;induction f with
 | zero=>intro i due _ _ hl j h1 h2;omega
 | succ f ih =>
  intro i due hd hr hl j h1 h2;rw[rpB,if_pos oq,Bool.and_eq_true]at hr;have hc:=of_decide_eq_true hr.1;by_cases hj:j=i
  ·subst hj;exact⟨due,hd,hc⟩
  ·refine ih ?_ hr.2 oq j oq h2;unfold rdue;split
   ·rename_i hk;have:=hc.2.2.2.2.2.2.2.2.2.1 hk;omega
   ·omega
theorem Z0D{h:Heap}(hp:Z02 h=true){j:Nat}(hj:j<h.P.length):0≤(h.P.getD j default).S∧(h.P.getD j default).S≤1∧0≤(h.P.getD j default).N∧(h.P.getD j default).N≤2147483647 ∧
  0≤(h.P.getD j default).K∧(h.P.getD j default).K≤3∧0≤(h.P.getD j default).U∧(h.P.getD j default).U≤256∧((h.P.getD j default).K=1→(h.P.getD j default).U≤h.C.pw):=by
 have hi:=properB_iff.1 hp;have hv:=validB_iff.1 hi.1;obtain⟨d,_,hc⟩:=ZjK oq hi.2.2.2.2.2 oq j oq hj;unfold rchk at hc;have hu:(h.P.getD j default).K=2→1≤(h.P.getD j default).U∧(h.P.getD j default).U≤256:=by
  intro hk;have hn:=(hc.2.2.2.2.2.2.2.2.2.1 hk).1;unfold need at hn;split at hn
  ·omega
  ·omega
 omega
theorem Z7T(l:List Page):Z1t l≤l.length:=Z6v l l.length
abbrev tP(l:List Page)(s:Int):List Page:=tookP l (first l 1).toNat 1 (Page.mk 1 s 0 0) (Page.mk 0 0 0 0)
def Z3n(c:Conf)(hd:Header):Bool:=Z0g hd&&decide (hd.K≠0)&&decide (need c (sizeH hd)≠-1)
theorem Z5E(c:Conf)(hd:Header)(hm:0≤hd.map∧hd.map≤4294967295):GP 158 [c.av,hd.av] true (bool (Z3n c hd)) []:=by
 refine gspec_ofE [((6:Nat),[Hint.call true (Sx.bool (Z0g hd)) []]),((15:Nat),[Hint.call true (int (sizeH hd)) []]),((16:Nat),[Hint.call true (int (need c (sizeH hd))) []])] [] [] dd Tryz.func158 [false,false,false,false,false,false,false,false,true] (φ:=GP 102 [hd.av] true (Sx.bool (Z0g hd)) []∧((Z0g hd&&hd.K != (0:Int))=true→GP 75 [hd.av] true (int (sizeH hd)) [])∧((Z0g hd&&hd.K != (0:Int))=true→GP 123 [c.av,int (sizeH hd)] true (int (need c (sizeH hd))) [])∧(Z0g hd&&hd.K != (0:Int)&&need c (sizeH hd) != (-1:Int))=Z3n c hd) ?_ kr kr;exact⟨(@Z2p (hd) aa),(fun hg=>by(try simp only[bs]at hg);exact @Z2a (hd) (by(try simp only[bs]at hg);assumption)),(fun hg=>by(try simp only[bs]at hg);exact @Z4G (c) (sizeH hd)),(by grind[Z3n])⟩
def Z1B(l:List Page)(i:Nat)(n:Int):List Page:=l.set i ⟨(l.getD i default).K,(l.getD i default).S,(l.getD i default).U+n,(l.getD i default).N⟩
def Z7X(h:Heap)(n:Int):Prop:=0≤h.B∧(h.P.getD h.B.toNat default).S=h.S∧(h.P.getD h.B.toNat default).U+n≤h.C.pw∧(Z1t h.P:Int)≤Z2q h.C
instance (h:Heap) (n:Int):Decidable (Z7X h n):=by unfold Z7X;infer_instance
def Z3z(h:Heap):List Page:=(ZmH h.P (first h.P 1) h.S).1
def Z0o(h:Heap)(n:Int):Heap×Int×Bool :=
 if Z7X h n then(⟨h.C,h.W,Z1B h.P h.B.toNat n,h.S,h.B⟩,4096+h.B*h.C.pw+(h.P.getD h.B.toNat default).U,true)
 else if 0≤first h.P 1∧(Z1t h.P:Int)<Z2q h.C then
  (⟨h.C,h.W,Z1B (Z3z h) (first h.P 1).toNat n,h.S,first h.P 1⟩,4096+first h.P 1*h.C.pw+((Z3z h).getD (first h.P 1).toNat default).U,true)
 else(noHeap,0,false)
theorem Z6P{l:List Page}{i k:Nat}{p q:Page}(h:i+k≤l.length):(tookP l i k p q).length=l.length:=by
 rw[tookP,List.length_set];exact Z4l (by simpa using h) pq
theorem Z2D{h:Heap}(hs:h.S=0∨h.S=1)(hf:0≤first h.P 1):Z3z h=tookP h.P (first h.P 1).toNat 1 ⟨1,h.S,0,0⟩ ⟨0,0,0,0⟩∧(Z3z h).length=h.P.length∧(first h.P 1)<h.P.length ∧
  ((Z3z h).getD (first h.P 1).toNat default)=⟨1,h.S,0,0⟩:=by
 obtain⟨_,h1,h2⟩:=Z1j hf;have e:Z3z h=tookP h.P (first h.P 1).toNat 1 ⟨1,h.S,0,0⟩ ⟨0,0,0,0⟩:=by
  rw[Z3z,ZmH,if_pos oq,Z2Z,if_pos oq,if_pos h2];rfl
 have hl:(Z3z h).length=h.P.length:=by rw[e];exact Z6P oq
 refine⟨e,hl,by omega, ?_⟩;rw[e,tookP,List.getD_eq_getElem?_getD,List.getElem?_set,if_pos rfl,if_pos (by rw[Z4l qo pq];omega)];rfl
theorem Zgl{c:Conf}(hv:Z05 c=true):2≤Z2q c∧Z2q c≤16:=by
 have:=validB_iff.1 hv;rw[Z2q,if_pos hv,Z4O oq];omega
theorem Z2K{c:Conf}{i:Int}(hv:Z05 c=true)(h0:0≤i)(h1:i<c.pg):0≤i*c.pw∧i*c.pw+c.pw≤4096:=by
 have hb:=validB_iff.1 hv;have ha:=area hv;have h2:0≤i*c.pw:=Int.mul_nonneg h0 oq;have h3:(i+1)*c.pw≤c.pg*c.pw:=Int.mul_le_mul_of_nonneg_right oq oq;rw[Int.add_mul,Int.one_mul,Int.mul_comm c.pg]at h3;omega
theorem Z6X(h:Heap)(n:Int)(hp:Z02 h=true)(hn:1≤n∧n≤256):GP 159 [h.av,int n] false (.tu [(Z0o h n).1.av,u64 (Z0o h n).2.1,bool (Z0o h n).2.2]) []:=by
 have po:=Z06 hp;obtain⟨o1,o2,o3,o4,o5,o6,o7,o8,o9⟩:=po;have hb:=(properB_iff.1 hp).2.2.2.2.1;have hpg:=fun hj=>Z0D hp (j:=h.B.toNat) hj;have hr:=Z6k h.P 1;have hfo:=fun hf=>Z2D (h:=h) o9 hf;have hiu:=Z7T h.P;have hli:=Zgl o1;have hm1:0≤h.B→0≤h.B*h.C.pw∧h.B*h.C.pw+h.C.pw≤4096:=fun h0=>Z2K o1 h0 oq;have hm2:0≤first h.P 1→0≤first h.P 1*h.C.pw∧first h.P 1*h.C.pw+h.C.pw≤4096:=fun h0=>Z2K o1 h0 (by have:=hfo h0;omega)
 by_cases hf:Z7X h n
 ·have e7:Z0o h n=(⟨h.C,h.W,Z1B h.P h.B.toNat n,h.S,h.B⟩,4096+h.B*h.C.pw+(h.P.getD h.B.toNat default).U,true):=by rw[Z0o,if_pos hf]
  unfold Z7X at hf;rw[show Z0o h n=(Heap.mk h.C h.W (h.P.set h.B.toNat (Page.mk (h.P.getD h.B.toNat default).K (h.P.getD h.B.toNat default).S ((h.P.getD h.B.toNat default).U+n) (h.P.getD h.B.toNat default).N)) h.S h.B,(4096:Int)+h.B*h.C.pw+(h.P.getD h.B.toNat default).U,true)from by rw[e7];rfl];let y0:=h.P.getD h.B.toNat default;exact gF [] Tryz.func159 [] (FA 11 14 Page.dv h.P (Fc 18 (@Z6z h.C) (Fc 21 (@Z73 h.P oq) (FmGq 32 (!decide (h.B<0)) Page.dv h.P h.B (FmGq 43 (!(decide (h.B<0)||y0.S != h.S)) Page.dv h.P h.B (FiG 45 (!(decide (h.B<0)||y0.S != h.S)) (y0.U+n) (Ffb 55 (decide (h.B<0)||y0.S != h.S||decide (h.C.pw<y0.U+n)||decide (Z2q h.C<(↑(Z1t h.P):Int))) (Fi 83 (h.B*h.C.pw) (Fi 84 (4096+h.B*h.C.pw) (Fmq 90 Page.dv h.P h.B (Fi 91 (4096+h.B*h.C.pw+y0.U) (Fv 92 (4096+h.B*h.C.pw+y0.U) (Fmq 101 Page.dv h.P h.B (Fi 103 (y0.U+n) (Fm0q Page.dv h.P h.B (FS 10105 Page.dv h.P h.B.toNat (Page.mk y0.K y0.S (y0.U+n) y0.N) (y0.dv) Fz))))))))))))))))
 ·by_cases hg:0≤first h.P 1∧(Z1t h.P:Int)<Z2q h.C
  ·have e7:Z0o h n=(⟨h.C,h.W,Z1B (Z3z h) (first h.P 1).toNat n,h.S,first h.P 1⟩,4096+first h.P 1*h.C.pw+((Z3z h).getD (first h.P 1).toNat default).U,true):=by rw[Z0o,if_neg hf,if_pos hg]
   obtain⟨q1,q2,q3,q4⟩:=hfo hg.1;obtain⟨r1,r2,r3⟩:=Z1j hg.1;have r4:Z6e h.P (first h.P 1).toNat 1=true:=r3;rw[q1]at e7 q2 q4;have q6:=congrArg Page.U q4;simp only at q6;unfold Z7X at hf;rw[show Z0o h n=(Heap.mk h.C h.W ((tookP h.P (first h.P (1:Int)).toNat (1:Nat) (Page.mk (1:Int) h.S (0:Int) (0:Int)) (Page.mk (0:Int) (0:Int) (0:Int) (0:Int))).set (first h.P (1:Int)).toNat (Page.mk ((tookP h.P (first h.P (1:Int)).toNat (1:Nat) (Page.mk (1:Int) h.S (0:Int) (0:Int)) (Page.mk (0:Int) (0:Int) (0:Int) (0:Int))).getD (first h.P (1:Int)).toNat default).K ((tookP h.P (first h.P (1:Int)).toNat (1:Nat) (Page.mk (1:Int) h.S (0:Int) (0:Int)) (Page.mk (0:Int) (0:Int) (0:Int) (0:Int))).getD (first h.P (1:Int)).toNat default).S (((tookP h.P (first h.P (1:Int)).toNat (1:Nat) (Page.mk (1:Int) h.S (0:Int) (0:Int)) (Page.mk (0:Int) (0:Int) (0:Int) (0:Int))).getD (first h.P (1:Int)).toNat default).U+n) ((tookP h.P (first h.P (1:Int)).toNat (1:Nat) (Page.mk (1:Int) h.S (0:Int) (0:Int)) (Page.mk (0:Int) (0:Int) (0:Int) (0:Int))).getD (first h.P (1:Int)).toNat default).N)) h.S (first h.P (1:Int)),(4096:Int)+first h.P (1:Int)*h.C.pw+((tookP h.P (first h.P (1:Int)).toNat (1:Nat) (Page.mk (1:Int) h.S (0:Int) (0:Int)) (Page.mk (0:Int) (0:Int) (0:Int) (0:Int))).getD (first h.P (1:Int)).toNat default).U,true)from by rw[e7];rfl];let y1:=tookP h.P (first h.P 1).toNat 1 (Page.mk 1 h.S 0 0) (Page.mk 0 0 0 0);let y2:=y1.getD (first h.P 1).toNat default;let y3:=h.P.getD h.B.toNat default;exact gF [] Tryz.func159 [] (FA 11 14 Page.dv h.P (Fc 18 (@Z6z h.C) (Fc 21 (@Z73 h.P oq) (FmGq 32 (!decide (h.B<0)) Page.dv h.P h.B (FmGq 43 (!(decide (h.B<0)||y3.S != h.S)) Page.dv h.P h.B (FiG 45 (!(decide (h.B<0)||y3.S != h.S)) (y3.U+n) (Ftb 55 (decide (h.B<0)||y3.S != h.S||decide (h.C.pw<y3.U+n)||decide (Z2q h.C<(↑(Z1t h.P):Int))) (Fc 58 (@Z5q h.P (1) oq) (Ffb 65 (decide (first h.P (1:Int)<0)||decide (Z2q h.C≤(↑(Z1t h.P):Int))) (Fc 73 (@Zav h.P (first h.P 1) h.S oq oq oq aa) (Fi 83 (first h.P 1*h.C.pw) (Fi 84 (4096+first h.P 1*h.C.pw) (Fmq 90 Page.dv y1 (first h.P 1) (Fi 91 (4096+first h.P 1*h.C.pw+y2.U) (Fv 92 (4096+first h.P 1*h.C.pw+y2.U) (Fmq 101 Page.dv y1 (first h.P 1) (Fi 103 (y2.U+n) (Fm0q Page.dv y1 (first h.P 1) (FS 10105 Page.dv y1 ((first h.P 1).toNat) (Page.mk y2.K y2.S (y2.U+n) y2.N) (y2.dv) Fz)))))))))))))))))))
  ·have e7:Z0o h n=(noHeap,0,false):=by rw[Z0o,if_neg hf,if_neg hg]
   unfold Z7X at hf;rw[e7];let y4:=h.P.getD h.B.toNat default;exact gF [] Tryz.func159 [] (FAx 11 14 Page.dv h.P (by(simp[noHeap, *];omega)) (Fc 18 (@Z6z h.C) (Fc 21 (@Z73 h.P oq) (FmGq 32 (!decide (h.B<0)) Page.dv h.P h.B (FmGq 43 (!(decide (h.B<0)||y4.S != h.S)) Page.dv h.P h.B (FiG 45 (!(decide (h.B<0)||y4.S != h.S)) (y4.U+n) (Ftb 55 (decide (h.B<0)||y4.S != h.S||decide (h.C.pw<y4.U+n)||decide (Z2q h.C<(↑(Z1t h.P):Int))) (Fc 58 (@Z5q h.P (1) oq) (Ftb 65 (decide (first h.P (1:Int)<0)||decide (Z2q h.C≤(↑(Z1t h.P):Int))) (Fnl (Fnl Fz)))))))))))
end Go.Proofs.YtdhchmlalchgeaaGreat
