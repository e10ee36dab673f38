/-
 The statement EvacuateForwards: part 7.
 Conditions: none.
-/
import Derived.Laws.Bits64b
import Derived.WalkSmall
import Derived.Test.YtdhchmlalchgeaaGreatI6
set_option maxRecDepth 100000
set_option maxHeartbeats 2000000
set_option linter.all false
namespace Go.Proofs.YtdhchmlalchgeaaGreat
open Go.Sx
def ones(n:Int):Int:=2^(min n.toNat 64)-1
structure Header where
 K:Int
 length:Int
 map:Int
 deriving DecidableEq,Inhabited
def u32(n:Int):AV:=.d (.sc (.int .u32 n))
def Header.av(h:Header):AV:=.ag [int h.K,int h.length,u32 h.map]
theorem or_one(k:Nat)(h:k<64):bits .or .u64 (IntKind.u64.wrap ((2^k-1)*2^min (Int.toNat 1) 64)) 1=2^(k+1)-1:=by
 have:k∈List.range 64:=List.mem_range.2 h;revert k;decide+kernel
def Zeu(m:Nat)(i:Nat):Tg:=⟨tm 14 [(2,u64 0),(3,u64 (2^i-1)),(6,int m),(7,int i)],[],20⟩
theorem Zj3(m i:Nat)(hm:m≤64)(hi:i<m):CP (rndF Tryz.f163 0) (Zeu m i).st .nrm (Zeu m (i+1)).st:=by
 have ho:=or_one i oq;exact sF [] [false,true] (Ftb 8 (decide ((↑i:Int)<(↑m:Int))) (Fo ((0:Int)≤1) (Fg 12 (by exact wrapI' oq oq:IntKind.i64.wrap ((↑i:Int)+1)=(↑(i+1):Int)) (Fa (by exact ho:bits BinOp.or IntKind.u64 (IntKind.u64.wrap ((2^i-1)*2^min (Int.toNat 1) 64)) (1:Int)=2^(i+1)-1) Fz))))
theorem ZnB(m:Nat):CP (rndF Tryz.f163 0) (Zeu m m).st (.ext 0) (Tg.st ⟨tm 14 [(3,u64 (2^m-1))],[],60⟩):=by
 exact sF [] [] (Ffb 8 (decide ((↑m:Int)<(↑m:Int))) Fz)
def Zmk(m:Nat)(hm:m≤64)  := Z08 (S:=fun i=>(Zeu m i).st) m (by kernel_rfl) (fun i hi=>Zj3 m i hm hi) (ZnB m)
theorem Z3k(n:Int):GP 163 [int n] true (u64 (ones n)) []:=by
 have ei:min (max n 0) 64=((min n.toNat 64:Nat):Int):=by omega
 exact gF [] Tryz.func163 [] (Fgo 5 (if 0 > n then 0 else n) (max n 0) (Fgo 6 (if 64<max n 0 then 64 else max n 0) (↑(min n.toNat 64):Int) (Fu (@Zmk (min n.toNat 64) oq) Fz)))
def Z0g(h:Header):Bool:=decide (0≤h.K∧h.K≤3∧0≤h.length∧h.length≤255∧(if h.K=1 then h.length≤32∧h.map<2^h.length.toNat else h.map=0))
def sizeH(h:Header):Int:=if Z0g h=true then h.length+1 else 0
def Z25:Header:=⟨0,0,0⟩
def Z0c(h:Header):Int×Int:=if Z0g h=true then(1+4*h.K+16*h.length+65536*h.map,0)else(0,1)
def Z39(w:Int):Header:=⟨w/4%4,w/16%4096,w/65536%4294967296⟩
def decodeH(w:Int):Header×Bool:=if(Z0c (Z39 w)).2=0∧(Z0c (Z39 w)).1=w then(Z39 w,true)else(Z25,false)
def Z0d(h:Header)(i:Int):Bool:=Z0g h&&decide (0≤i)&&decide (i<h.length)&&(h.K==2||(h.K==1&&(h.map/2^i.toNat%2==1)))
theorem validH_iff{h:Header}:Z0g h=true↔0≤h.K∧h.K≤3∧0≤h.length∧h.length≤255∧(if h.K=1 then h.length≤32∧h.map<2^h.length.toNat else h.map=0):=by simp[Z0g]
theorem ZpI{n:Int}(h1:n≤32):(1:Int)≤2^n.toNat∧(2:Int)^n.toNat≤4294967296:=by
 have:n.toNat≤32:=by omega
 generalize n.toNat=k at this;have hk:k∈List.range 33:=List.mem_range.2 oq;revert k;decide+kernel
theorem ZnJ{n:Int}(h1:n≤32):IntKind.u64.wrap (1*2^min n.toNat 64)=2^n.toNat:=by
 have:=ZpI h1;rw[Nat.min_eq_left oq,Int.one_mul];exact wrapU' oq oq
theorem Zbs{h:Header}(hv:Z0g h=true)(hm:0≤h.map)(hm2:h.map≤4294967295):0≤h.K∧h.K≤3∧0≤h.length∧h.length≤255∧0≤h.map∧h.map≤4294967295:=by
 have:=validH_iff.1 hv;omega
theorem Z2g(h:Header)(hm:0≤h.map∧h.map≤4294967295):GP 102 [h.av] true (bool (Z0g h)) []:=by
 have hs:h.length≤32→IntKind.u64.wrap (1*2^min h.length.toNat 64)=2^h.length.toNat:=ZnJ;rcases bb (decide (h.K<0)||decide (3<h.K)||decide (h.length<0)||decide (255<h.length))with hc0 | hc0<;>have hc0p:=hc0<;>simp only[bs]at hc0p
 ·exact gF [] Tryz.func102 (fO 9) (Ft 20 hc0 (Fa (by(simp[Z0g, *];omega):false=Z0g h) Fz))
 ·obtain⟨⟨⟨hc0paaa,hc0paab⟩,hc0pab⟩,hc0pb⟩:=hc0p;rcases bb (h.K != 1)with hc1 | hc1<;>have hc1p:=hc1<;>simp only[bs]at hc1p
  ·exact gF [] Tryz.func102 (fO 9) (Ff 20 hc0 (Ft 23 hc1 (Fa (by grind[Z0g]:(h.map==0)=Z0g h) Fz)))
  ·exact gF [] Tryz.func102 (fO 17) (Ff 20 hc0 (Ff 23 hc1 (FvG 33 (decide (h.length≤32)) h.map (FvG 36 (decide (h.length≤32)) h.length (Fa (by intro hg;(try simp only[bs]at hg);omega:decide (h.length≤32)=true→0≤h.length) (Fa (by grind[Z0g]:(decide (h.length≤32)&&decide (h.map<IntKind.u64.wrap ((1:Int)*2^min h.length.toNat 64)))=Z0g h) Fz))))))
theorem Z29(h:Header)(hm:0≤h.map∧h.map≤4294967295):GP 75 [h.av] true (int (sizeH h)) []:=by
 rcases bb (!Z0g h)with hc0 | hc0<;>have hc0p:=hc0<;>simp only[bs]at hc0p
 ·exact gF [] Tryz.func75 [true] (Fc 4 (@Z2g h aa) (Ft 5 hc0 (Fa (by simp[sizeH, *]:0=sizeH h) Fz)))
 ·have hf3:=validH_iff.1 hc0p;obtain⟨hf3a,⟨hf3ba,⟨hf3bba,⟨hf3bbba,hf3bbbb⟩⟩⟩⟩:=hf3;exact gF [] Tryz.func75 [true] (Fc 4 (@Z2g h aa) (Ff 5 hc0 (Fi 8 (h.length+1) (Fa (by simp[sizeH, *]:h.length+1=sizeH h) Fz))))
theorem Z3n(h:Header)(hm:0≤h.map∧h.map≤4294967295):GP 101 [h.av] true (.tu [u64 (Z0c h).1,int (Z0c h).2]) []:=by
 rcases bb (!Z0g h)with hc0 | hc0<;>have hc0p:=hc0<;>simp only[bs]at hc0p
 ·rw[show Z0c h=((0:Int),(1:Int))from by simp[Z0c, *]];exact gF [] Tryz.func101 [] (Fc 5 (@Z2g h aa) (Ft 6 hc0 Fz))
 ·have hf3:=validH_iff.1 hc0p;obtain⟨hf3a,⟨hf3ba,⟨hf3bba,⟨hf3bbba,hf3bbbb⟩⟩⟩⟩:=hf3;rw[show Z0c h=((1:Int)+(4:Int)*h.K+(16:Int)*h.length+h.map*(65536:Int),(0:Int))from by(simp[Z0c, *];omega)];exact gF [] Tryz.func101 [] (Fc 5 (@Z2g h aa) (Ff 6 hc0 (Fv 9 h.K (Fv 10 (4*h.K) (Fv 11 ((1:Int)+4*h.K) (Fv 14 h.length (Fv 15 (16*h.length) (Fv 16 ((1:Int)+4*h.K+16*h.length) (Fv 19 h.map (Fg 20 (by exact wrapU2 rfl oq oq:IntKind.u64.wrap (h.map*2^min (Int.toNat 16) 64)=h.map*65536) (Fo ((0:Int)≤16) (Fv 21 ((1:Int)+4*h.K+16*h.length+h.map*65536) Fz))))))))))))
theorem Z9c(w:Int)(h0:0≤w):0≤(Z39 w).map∧(Z39 w).map≤4294967295:=by
 simp only[Z39];omega
theorem Z32(w:Int)(h0:0≤w)(h1:w≤18446744073709551615):GP 54 [u64 w] true (.tu [(decodeH w).1.av,bool (decodeH w).2]) []:=by
 have hm:=Z9c w h0;have Q0 {h_ c_ p_} (r_:Fq h_ c_ p_):=Fg 8 (by exact Z4S rfl dd:w.fdiv (2^min (Int.toNat 2) 64)=w/4) (Fo ((0:Int)≤2) (Fg 9 (by exact Z35 2 dd dd oq oq:bits BinOp.and IntKind.u64 (w/4) 3=w/4%4) (Fi 10 (w/4%4) (Fg 12 (by exact Z4S rfl dd:w.fdiv (2^min (Int.toNat 4) 64)=w/16) (Fo ((0:Int)≤4) (Fg 13 (by exact Z35 12 dd dd oq oq:bits BinOp.and IntKind.u64 (w/16) 4095=w/16%4096) (Fi 14 (w/16%4096) (Fg 16 (by exact Z4S rfl dd:w.fdiv (2^min (Int.toNat 16) 64)=w/65536) (Fo ((0:Int)≤16) (Fg 17 (rfl:IntKind.u32.wrap (w/65536)=w/65536%4294967296) (Fc 21 (@Z3n (Header.mk (w/4%4) (w/16%4096) (w/65536%4294967296)) aa) r_)))))))))));rcases bb ((Z0c (Header.mk (w/4%4) (w/16%4096) (w/65536%4294967296))).snd != 0||(Z0c (Header.mk (w/4%4) (w/16%4096) (w/65536%4294967296))).fst != w)with hc0 | hc0<;>have hc0p:=hc0<;>simp only[bs]at hc0p
 ·rw[show decodeH w=(Header.mk (0:Int) (0:Int) (0:Int),false)from by grind[decodeH,Z39,Z25]];exact gF [] Tryz.func54 [] (Q0 (Ft 30 hc0 Fz))
 ·obtain⟨hc0pa,hc0pb⟩:=hc0p;rw[show decodeH w=(Header.mk (w/(4:Int)%(4:Int)) (w/(16:Int)%(4096:Int)) (w/(65536:Int)%(4294967296:Int)),true)from by simp[decodeH,Z39,Z25, *]];exact gF [] Tryz.func54 [] (Q0 (Ff 30 hc0 Fz))
theorem Zmv(h:Header)(i:Int)(hm:0≤h.map∧h.map≤4294967295)(hv:Z0g h=true)(h0:0≤i)(h1:i<h.length) :
  (h.K==2||h.K==1&&bits BinOp.and IntKind.u32 (h.map.fdiv (2^min i.toNat 32)) 1==1)=Z0d h i:=by
 have hv':=validH_iff.1 hv;by_cases hk:h.K=1
 ·have hl:h.length≤32:=by simp[hk]at hv';omega
  have hp:(0:Int)≤2^i.toNat:=Int.pow_nonneg dd;rw[Nat.min_eq_left oq,Int.fdiv_eq_ediv_of_nonneg _ hp];have h2:0≤h.map/2^i.toNat:=Int.ediv_nonneg hm.1 hp;have h3:h.map/2^i.toNat≤h.map:=Int.ediv_le_self _ hm.1;have:=Zhk 1 dd (x:=h.map/2^i.toNat) (m:=1) dd h2 oq;rw[this];simp[Z0d,hv,h0,h1,hk]
 ·have:(h.K==1)=false:=by simp[hk]
  simp[Z0d,hv,h0,h1,this]
theorem Z2b(h:Header)(i:Int)(hm:0≤h.map∧h.map≤4294967295):GP 55 [h.av,int i] true (bool (Z0d h i)) []:=by
 rcases bb (!Z0g h||decide (i<0)||decide (h.length≤i))with hc0 | hc0<;>have hc0p:=hc0<;>simp only[bs]at hc0p
 ·exact gF [] Tryz.func55 (fO 6) (Fc 6 (@Z2g h aa) (Ft 17 hc0 (Fa (by grind[Z0d]:false=Z0d h i) Fz)))
 ·obtain⟨⟨hc0paa,hc0pab⟩,hc0pb⟩:=hc0p;have hf3:=validH_iff.1 hc0paa;obtain⟨hf3a,⟨hf3ba,⟨hf3bba,⟨hf3bbba,hf3bbbb⟩⟩⟩⟩:=hf3;exact gF [] Tryz.func55 (fO 18) (Fc 6 (@Z2g h aa) (Ff 17 hc0 (FvG 29 (!h.K==2&&h.K==1) i (Fa (by intro hg;(try simp only[bs]at hg);omega:(!h.K==2&&h.K==1)=true→0≤i) (Fa (by exact Zmv h i hm aa oq oq:(h.K==2||h.K==1&&bits BinOp.and IntKind.u32 (h.map.fdiv (2^min i.toNat 32)) (1:Int)==1)=Z0d h i) Fz)))))
def spl{α:Type}(ws:List α)(i:Nat)(l:List α):List α:=ws.take i++l++ws.drop (i+l.length)
def Z0b(ws:List Int)(a n:Int):Int×Bool:=if 4096≤a∧a≤4096+ws.length then(a-4096,decide (n≤ws.length-(a-4096)))else(0,false)
def Z0V(ws:List Int)(a:Int):Int×Int:=if 4096≤a∧a<4096+ws.length then(a-4096,0)else(0,2)
def loadA(ws:List Int)(a:Int):Int×Int:=if 4096≤a∧a<4096+ws.length then(ws.getD (a-4096).toNat 0,0)else(0,2)
def Z1j(ws:List Int)(a n:Int):List Int×Int:=if n<0 then([],1)else if 4096≤a∧a-4096+n≤ws.length then((ws.drop (a-4096).toNat).take n.toNat,0)else([],2)
def Z0G(ws:List Int)(a:Int)(l:List Int):List Int×Int:=if 4096≤a∧a-4096+l.length≤ws.length then(spl ws (a-4096).toNat l,0)else([],2)
def Z10(ws:List Int)(a v:Int):List Int×Int:=Z0G ws a [v]
def moveA(ws:List Int)(a b n:Int):List Int×Int:=if(Z1j ws b n).2≠0 then([],(Z1j ws b n).2)else Z0G ws a (Z1j ws b n).1
theorem Zdt(ws:List Int)(a n:Int):(Z1j ws a n).1.length≤ws.length:=by
 unfold Z1j;split
 ·simp
 ·split
  ·simp;omega
  ·simp
theorem Zd5{ws:List Int}{a n:Int}(h:(Z0b ws a n).2=true):(Z0b ws a n).1=a-4096∧4096≤a∧a≤4096+ws.length∧a-4096+n≤ws.length:=by
 unfold Z0b at h ⊢;split at h
 ·rename_i hc;rw[if_pos hc];simp at h;simp;omega
 ·simp at h
theorem Zdl{ws:List Int}{a n:Int}(h:(Z0b ws a n).2=false):¬ (4096≤a∧a≤4096+ws.length∧a-4096+n≤ws.length):=by
 unfold Z0b at h;split at h
 ·simp at h;omega
 ·omega
theorem ZdB{ws:List Int}{a:Int}(h:(Z0V ws a).2=0):(Z0V ws a).1=a-4096∧4096≤a∧a<4096+ws.length:=by
 unfold Z0V at h ⊢;split at h
 ·rename_i hc;rw[if_pos hc];exact⟨rfl,hc⟩
 ·simp at h
theorem Zd3{ws:List Int}{a:Int}(h:¬ (Z0V ws a).2=0):¬ (4096≤a∧a<4096+ws.length)∧(Z0V ws a).2=2:=by
 unfold Z0V at h ⊢;split at h
 ·simp at h
 ·rename_i hc;rw[if_neg hc];exact⟨hc,rfl⟩
theorem Z5l(ws:List Int)(a n:Int)(hw:ws.length≤1048576)(h0:0≤a∧a≤18446744073709551615):GP 157 [Z01 ws,u64 a,int n] true (.tu [int (Z0b ws a n).1,bool (Z0b ws a n).2]) []:=by
 have Q0 {h_ c_ p_} (r_:Fq h_ c_ p_):=FlG 14 (!decide (a<4096)) wdv ws (FvG 15 (!decide (a<4096)) (↑ws.length) (FvG 16 (!decide (a<4096)) (4096+(↑ws.length:Int)) r_));rcases bb (decide (a<4096)||decide (4096+(↑ws.length:Int)<a))with hc0 | hc0<;>have hc0p:=hc0<;>simp only[bs]at hc0p
 ·rw[show Z0b ws a n=((0:Int),false)from by(simp[Z0b, *];omega)];exact gF [] Tryz.func157 [] (Q0 (Ft 18 hc0 Fz))
 ·obtain⟨hc0pa,hc0pb⟩:=hc0p;rw[show Z0b ws a n=(a-(4096:Int),decide (n≤(↑ws.length:Int)-(a-(4096:Int))))from by simp[Z0b, *]];exact gF [] Tryz.func157 [] (Q0 (Ff 18 hc0 (Fv 20 (a-4096) (Fi 21 (a-4096) (Fl 25 wdv ws (Fi 27 ((↑ws.length:Int)-(a-4096)) Fz))))))
theorem ZcN(ws:List Int)(a:Int)(hw:ws.length≤1048576)(h0:0≤a∧a≤18446744073709551615):GP 147 [Z01 ws,u64 a] true (.tu [int (Z0V ws a).1,int (Z0V ws a).2]) []:=by
 have Q0 {h_ c_ p_} (r_:Fq h_ c_ p_):=Fc 11 (@Z5l ws a (1) aa aa) r_;rcases bb (!(Z0b ws a 1).snd)with hc0 | hc0<;>have hc0p:=hc0<;>simp only[bs]at hc0p
 ·rw[show Z0V ws a=((0:Int),(2:Int))from by grind[Z0b,Z0V]];exact gF [] Tryz.func147 [] (Q0 (Ft 15 hc0 Fz))
 ·rw[show Z0V ws a=((Z0b ws a (1:Int)).fst,(0:Int))from by grind[Z0b,Z0V]];exact gF [] Tryz.func147 [] (Q0 (Ff 15 hc0 Fz))
theorem Z1M(ws:List Int)(a:Int)(hw:ws.length≤1048576)(h0:0≤a∧a≤18446744073709551615):GP 91 [Z01 ws,u64 a] true (.tu [u64 (loadA ws a).1,int (loadA ws a).2]) []:=by
 rcases bb ((Z0V ws a).snd != 0)with hc0 | hc0<;>have hc0p:=hc0<;>simp only[bs]at hc0p
 ·have hf3:=Zd3 hc0p;obtain⟨hf3a,hf3b⟩:=hf3;rw[show loadA ws a=((0:Int),(Z0V ws a).snd)from by simp[loadA, *]];exact gF [] Tryz.func91 [] (Fc 11 (@ZcN ws a aa aa) (Ft 15 hc0 Fz))
 ·have hf5:=ZdB hc0p;obtain⟨hf5a,⟨hf5ba,hf5bb⟩⟩:=hf5;rw[show loadA ws a=(ws.getD (Z0V ws a).fst.toNat default,(0:Int))from by simp[loadA, *]];refine gspec_ofE [((11:Nat),[Hint.call true (AV.tu [int (Z0V ws a).fst,int (Z0V ws a).snd]) []]),((15:Nat),[Hint.br false]),((19:Nat),[Hint.el (wdv (ws.getD (Z0V ws a).fst.toNat default))])] [] [] dd Tryz.func91 [] (φ:=GP 147 [Z01 ws,u64 a] true (AV.tu [int (Z0V ws a).fst,int (Z0V ws a).snd]) []∧((Z0V ws a).snd != (0:Int))=false∧false=false∧(0:Int)≤(Z0V ws a).fst∧(List.map wdv ws)[(Z0V ws a).fst.toNat]? = some (wdv (ws.getD (Z0V ws a).fst.toNat default))) ?_ kr kr;exact⟨(@ZcN (ws) (a) aa aa),aa,rfl,(by exact elI oq oq oq)⟩
theorem Zb8(ws:List Int)(a n:Int)(hw:ws.length≤1048576)(h0:0≤a∧a≤18446744073709551615):GP 114 [Z01 ws,u64 a,int n] true (.tu [Z01 (Z1j ws a n).1,int (Z1j ws a n).2]) []:=by
 rcases bb (decide (n<0))with hc0 | hc0<;>have hc0p:=hc0<;>simp only[bs]at hc0p
 ·exact gF [] Tryz.func114 [true] (Ft 11 hc0 (Fnl (Fa (by simp[Z1j, *]:[]=List.map wdv (Z1j ws a n).fst) (Fa (by simp[Z1j, *]:1=(Z1j ws a n).snd) Fz))))
 ·have Q0 {h_ c_ p_} (r_:Fq h_ c_ p_):=Ff 11 hc0 (Fc 16 (@Z5l ws a n aa aa) r_);rcases bb (!(Z0b ws a n).snd)with hc9 | hc9<;>have hc9p:=hc9<;>simp only[bs]at hc9p
  ·have hf12:=Zdl hc9p;exact gF [] Tryz.func114 [true] (Q0 (Ft 20 hc9 (Fnl (Fa (by(simp only[Z1j] ;exact sj):[]=List.map wdv (Z1j ws a n).fst) (Fa (by(simp only[Z1j] ;exact sj):2=(Z1j ws a n).snd) Fz)))))
  ·have hf14:=Zd5 hc9p;obtain⟨hf14a,⟨hf14ba,⟨hf14bba,hf14bbb⟩⟩⟩:=hf14;rw[show Z1j ws a n=(List.take (((Z0b ws a n).fst+n).toNat-(Z0b ws a n).fst.toNat) (List.drop (Z0b ws a n).fst.toNat ws),(0:Int))from by(simp[Z1j, *];omega)];exact gF [] Tryz.func114 [] (Fh 28 [.els (List.map wdv (List.take (((Z0b ws a n).fst+n).toNat-(Z0b ws a n).fst.toNat) (List.drop (Z0b ws a n).fst.toNat ws)))] (Q0 (Ff 20 hc9 (Fs 21 (List.map wdv []) (Fi 26 ((Z0b ws a n).fst+n) (Fa (by(simp only[List.length_map];omega):0≤(Z0b ws a n).fst∧(Z0b ws a n).fst≤(Z0b ws a n).fst+n∧(Z0b ws a n).fst+n≤(↑(List.map wdv ws).length:Int)) (Fa (by simp[Z1j,List.map_take,List.map_drop,List.map_set,List.map_append,wdv,idv]:List.take (((Z0b ws a n).fst+n).toNat-(Z0b ws a n).fst.toNat) (List.drop (Z0b ws a n).fst.toNat (List.map wdv ws))=List.map wdv (List.take (((Z0b ws a n).fst+n).toNat-(Z0b ws a n).fst.toNat) (List.drop (Z0b ws a n).fst.toNat ws))) (Fa (by(simp[Z1j, *];omega):(List.map wdv []).length+(List.map wdv (List.take (((Z0b ws a n).fst+n).toNat-(Z0b ws a n).fst.toNat) (List.drop (Z0b ws a n).fst.toNat ws))).length≤2^30) (Fs 27 (List.map wdv (List.take (((Z0b ws a n).fst+n).toNat-(Z0b ws a n).fst.toNat) (List.drop (Z0b ws a n).fst.toNat ws))) (Fa (by exact Z1T _:Z0J (List.map wdv (List.take (((Z0b ws a n).fst+n).toNat-(Z0b ws a n).fst.toNat) (List.drop (Z0b ws a n).fst.toNat ws)))) Fz))))))))))
def wr{α:Type}(ws l:List α)(i k:Nat):List α:=ws.take i++l.take k++ws.drop (i+k)
theorem Z8U{α:Type}(ws l:List α)(i:Nat):wr ws l i 0=ws:=by simp[wr]
theorem Zch{α:Type}(ws l:List α)(i:Nat):wr ws l i l.length=spl ws i l:=by simp[wr,spl]
theorem Z4Y{α:Type}{ws l:List α}{i k:Nat}(h:i+l.length≤ws.length)(hk:k≤l.length):(wr ws l i k).length=ws.length:=by
 simp[wr];omega
theorem Z4i{α:Type}{ws l:List α}{i:Nat}(h:i+l.length≤ws.length):(spl ws i l).length=ws.length:=by
 rw[← Zch];exact Z4Y h (Nat.le_refl _)
theorem Za9{α:Type}{ws l:List α}{i k:Nat}(h:i+l.length≤ws.length)(hk:k≤l.length)(j:Nat):(wr ws l i k)[j]? = if j<i then ws[j]? else if j<i+k then l[j-i]? else ws[j]? := by
 have e:(l.take k).length=k:=by simp;omega
 have:=Z23 (l:=ws) (xs:=l.take k) (o:=i) oq j;rw[e]at this;rw[wr,this];split
 ·rfl
 ·split
  ·rw[List.getElem?_take_of_lt oq]
  ·rfl
theorem ZaU{α:Type}{ws l:List α}{i k:Nat}(h:i+l.length≤ws.length)(hk:k<l.length)(d:α):(wr ws l i k).set (i+k) (l.getD k d)=wr ws l i (k+1):=by
 apply List.ext_getElem?;intro j;have hl:=Z4Y h (Nat.le_of_lt hk);rw[List.getElem?_set,Za9 h oq,Za9 h oq,hl];by_cases hj:i+k=j
 ·subst hj;rw[if_pos rfl,if_pos oq,if_neg oq,if_pos oq];simp[List.getD,hk]
 ·rw[if_neg hj];by_cases h1:j<i
  ·rw[if_pos h1,if_pos h1]
  ·rw[if_neg h1,if_neg h1];by_cases h2:j<i+k
   ·rw[if_pos h2,if_pos oq]
   ·rw[if_neg h2,if_neg oq]
def Z9C(ws l:List Int)(i:Int)(k:Nat):Tg:=⟨tm 41 [(2,Z01 l),(8,int i),(10,.ow 32024),(11,int k)],[(32024,.arr 35 1 ((wr ws l i.toNat k).map wdv))],60⟩
theorem ZdX(ws l:List Int)(i:Int)(k:Nat)(hw:ws.length≤1048576)(hi:0≤i)(h:i.toNat+l.length≤ws.length)(hk:k<l.length):CP (rndF Tryz.f150 0) (Z9C ws l i k).st .nrm (Z9C ws l i (k+1)).st:=by
 have hs:=ZaU h hk default;have hn:=Z4Y h (Nat.le_of_lt hk);have ei:i+k=((i.toNat+k:Nat):Int):=by omega
 exact sF [] (fO 4) (Fh 10039 [.els (List.map wdv ((wr ws l i.toNat k).set (↑(i.toNat+k):Int).toNat (l.getD k default)))] (FM 27 28 wdv l k (Fg 34 (by rw[wrapI' oq oq];omega:IntKind.i64.wrap (i+(↑k:Int))=(↑(i.toNat+k):Int)) (Fek 37 wdv l (↑k) k (Fa (by(simp only[List.length_map];omega):0≤(↑(i.toNat+k):Int)∧(↑(i.toNat+k):Int).toNat<(List.map wdv (wr ws l i.toNat k)).length) (Fa (by(simp only[List.length_map];omega):(↑(i.toNat+k):Int).toNat<(List.map wdv (wr ws l i.toNat k)).length) (Fa (ms:(List.map wdv (wr ws l i.toNat k)).set (↑(i.toNat+k):Int).toNat [du64 (l.getD k default)]=List.map wdv ((wr ws l i.toNat k).set (↑(i.toNat+k):Int).toNat (l.getD k default))) (Fx 30 k (Fr (35:Int) (Fa (by refine congrArg _ ?_;exact hs:List.map wdv ((wr ws l i.toNat k).set (↑(i.toNat+k):Int).toNat (l.getD k default))=List.map wdv (wr ws l i.toNat (k+1))) Fz))))))))))
theorem Zip(ws l:List Int)(i:Int):CP (rndF Tryz.f150 0) (Z9C ws l i l.length).st (.ext 0) (Tg.st ⟨tm 41 [(10,.ow 32024)],[(32024,.arr 35 1 ((spl ws i.toNat l).map wdv))],60⟩):=by
 have hs:=Zch ws l i.toNat
 exact sF [] [false,true] (FO 27 28 wdv l (Fr (35:Int) (Fa (by refine congrArg _ ?_;assumption:List.map wdv (wr ws l i.toNat l.length)=List.map wdv (spl ws i.toNat l)) Fz)))
theorem ZgZ(ws l:List Int)(i:Int)(hw:ws.length≤1048576)(hi:0≤i)(h:i.toNat+l.length≤ws.length):CP (blkF Tryz.f150 0) (Tg.st ⟨tm 41 [(2,Z01 l),(8,int i),(10,.ow 32024),(11,int 0)],[(32024,.arr 35 1 (ws.map wdv))],60⟩) .nrm (Tg.st ⟨tm 41 [(10,.ow 32024)],[(32024,.arr 35 1 ((spl ws i.toNat l).map wdv))],60⟩):=by
 have:=Z08 (S:=fun k=>(Z9C ws l i k).st) l.length kr (fun k hk=>ZdX ws l i k hw hi h hk) (Zip ws l i);simp only[Z9C,Z8U]at this;exact this
theorem Z4F(ws l:List Int)(a:Int)(hw:ws.length≤1048576)(h0:0≤a∧a≤18446744073709551615)(hl:l.length≤1048576):GP 150 [Z01 ws,u64 a,Z01 l] true (.tu [Z01 (Z0G ws a l).1,int (Z0G ws a l).2]) []:=by
 have Q0 {h_ c_ p_} (r_:Fq h_ c_ p_):=Fl 16 wdv l (Fc 17 (@Z5l ws a ((↑l.length:Int)) aa aa) r_);rcases bb (!(Z0b ws a (↑l.length:Int)).snd)with hc0 | hc0<;>have hc0p:=hc0<;>simp only[bs]at hc0p
 ·have hf3:=Zdl hc0p;exact gF [] Tryz.func150 [true] (Q0 (Ft 21 hc0 (Fnl (Fa (by(simp only[Z0G] ;exact sj):[]=List.map wdv (Z0G ws a l).fst) (Fa (by(simp only[Z0G] ;exact sj):2=(Z0G ws a l).snd) Fz)))))
 ·have hf5:=Zd5 hc0p;obtain⟨hf5a,⟨hf5ba,⟨hf5bba,hf5bbb⟩⟩⟩:=hf5;rw[show Z0G ws a l=(spl ws (Z0b ws a (↑l.length:Int)).fst.toNat l,(0:Int))from by simp[Z0G, *]];exact gF [] Tryz.func150 [] (Q0 (Ff 21 hc0 (FAx 22 24 wdv ws (by(simp[Z0G, *];omega)) (Fu (@ZgZ ws l ((Z0b ws a (↑l.length:Int)).fst) aa oq oq) (Fa (by exact Z1T _:Z0J (List.map wdv (spl ws (Z0b ws a (↑l.length:Int)).fst.toNat l))) Fz)))))
theorem Z8w(ws:List Int)(a v:Int)(hw:ws.length≤1048576)(h0:0≤a∧a≤18446744073709551615):GP 97 [Z01 ws,u64 a,u64 v] false (.tu [Z01 (Z10 ws a v).1,int (Z10 ws a v).2]) []:=by
 exact gF [] Tryz.func97 [] (Fs 11 (List.map wdv [v]) (Fc 12 (@Z4F ws ([v]) a aa aa (by simp[Z10, *])) Fz))
theorem ZkM(ws:List Int)(a b n:Int)(hw:ws.length≤1048576)(h0:0≤a∧a≤18446744073709551615)(h1:0≤b∧b≤18446744073709551615):GP 95 [Z01 ws,u64 a,u64 b,int n] false (.tu [Z01 (moveA ws a b n).1,int (moveA ws a b n).2]) []:=by
 have hr:=Zdt ws b n;have Q0 {h_ c_ p_} (r_:Fq h_ c_ p_):=Fc 16 (@Zb8 ws b n aa aa) r_;rcases bb ((Z1j ws b n).snd != 0)with hc0 | hc0<;>have hc0p:=hc0<;>simp only[bs]at hc0p
 ·exact gF [] Tryz.func95 [true] (Q0 (Ft 20 hc0 (Fnl (Fa (by simp[moveA, *]:[]=List.map wdv (moveA ws a b n).fst) (Fa (by simp[moveA, *]:(Z1j ws b n).snd=(moveA ws a b n).snd) Fz)))))
 ·rw[show moveA ws a b n=Z0G ws a (Z1j ws b n).fst from by simp[moveA, *]];exact gF [] Tryz.func95 [] (Q0 (Ff 20 hc0 (Fc 25 (@Z4F ws ((Z1j ws b n).fst) a aa aa oq) Fz)))
theorem Z37(n:Int):GP 122 [int n] true (bool (decide (0≤n)&&decide (n≤2147483647))) []:=by
 exact gF [] Tryz.func122 [] Fz
def Z1g(sp:Int):List Page→Nat
 | []=>0
 | p::r=>if p.K=3∧p.S=sp then Z1g sp r+1 else 0
theorem Z5k(sp:Int):∀ l,Z1g sp l≤l.length
 | []=>Nat.le_refl _
 | p::r=>by
  have:=Z5k sp r;simp only[Z1g,List.length_cons];split<;>omega
theorem drop_at{l:List Page}{k:Nat}(h:k<l.length):l.drop k=l.getD k default::l.drop (k+1):=by
 rw[List.drop_eq_getElem_cons h];simp[List.getD,h]
def Zga(l:List Page)(sp:Int)(n k:Nat):Tg:=⟨tm 37 [(0,Z0n l),(2,int sp),(7,int n),(8,int k)],[],60⟩
theorem ZgS(l:List Page)(hl:l.length≤1048576)(sp:Int)(n k:Nat)(hn:n≤k)(hk:k<l.length)(h:(l.getD k default).K=3∧(l.getD k default).S=sp):CP (rndF Tryz.f124 0) (Zga l sp n k).st .nrm (Zga l sp (n+1) (k+1)).st:=by
 let y0:=(↑k:Int)<(↑l.length:Int);exact sF [] [] (Fl 13 Page.dv l (FeG 18 (decide y0) Page.dv l (↑k) k (FeG 26 (decide y0&&(l.getD k default).K==3) Page.dv l (↑k) k (Ftb 31 (decide y0&&(l.getD k default).K==3&&(l.getD k default).S==sp) (Fx 35 n (Fx 33 k Fz))))))
theorem ZeX(l:List Page)(hl:l.length≤1048576)(sp:Int)(n k:Nat)(h:k<l.length→¬ ((l.getD k default).K=3∧(l.getD k default).S=sp)):CP (rndF Tryz.f124 0) (Zga l sp n k).st (.ext 0) (Tg.st ⟨tm 37 [(7,int n)],[],60⟩):=by
 let y0:=(↑k:Int)<(↑l.length:Int);exact sF [] [] (Fl 13 Page.dv l (FeG 18 (decide y0) Page.dv l (↑k) k (FeG 26 (decide y0&&(l.getD k default).K==3) Page.dv l (↑k) k (Ffb 31 (decide y0&&(l.getD k default).K==3&&(l.getD k default).S==sp) Fz))))
theorem Zn1(l:List Page)(hl:l.length≤1048576)(sp:Int):∀ (m n k:Nat),l.length-k=m→n≤k→LSpec Tryz.prog Tryz.f124 0 (Zga l sp n k).st (.ext 0) (Tg.st ⟨tm 37 [(7,int ((n+Z1g sp (l.drop k):Nat):Int))],[],60⟩):=by
 intro m;induction m with
 | zero =>
  intro n k hm hn;have e:l.drop k=[]:=List.drop_eq_nil_of_le oq;rw[e];exact .endx (ZeX l hl sp n k (fun h=>by omega))
 | succ m ih =>
  intro n k hm hn;rw[drop_at oq,Z1g];by_cases h:(l.getD k default).K=3∧(l.getD k default).S=sp
  ·rw[if_pos h];have:=ih (n+1) (k+1) oq oq;rw[show n+1+Z1g sp (l.drop (k+1))=n+(Z1g sp (l.drop (k+1))+1)from by omega]at this;exact .next (ZgS l hl sp n k hn oq h) this
  ·rw[if_neg h];exact .endx (ZeX l hl sp n k (fun _=>h))
theorem ZhP(l:List Page)(sp:Int)(k:Nat)(hl:l.length≤1048576):CP (blkF Tryz.f124 0) (Tg.st ⟨tm 37 [(0,Z0n l),(2,int sp),(7,int 0),(8,int k)],[],60⟩) .nrm (Tg.st ⟨tm 37 [(7,int (Z1g sp (l.drop k)))],[],60⟩):=by
 have:=(Zn1 l hl sp _ 0 k rfl oq).ext kr;rw[Nat.zero_add]at this;exact this
theorem Zcc(l:List Page)(i:Nat)(sp:Int)(hl:l.length≤1048576)(hi:i<l.length):GP 124 [Z0n l,int i,int sp] true (int (Z1g sp (l.drop (i+1)))) []:=by
 exact gF [] Tryz.func124 [] (Fx 10 i (Fu (@ZhP l sp (i+1) aa) Fz))
def rchk(c:Conf)(l:List Page)(i:Nat)(due:Int):Prop :=
 ((l.getD i default).K=3↔0<due)∧0≤(l.getD i default).S∧(l.getD i default).S≤1∧0≤(l.getD i default).N∧(l.getD i default).N≤2147483647 ∧
 0≤(l.getD i default).K∧(l.getD i default).K≤3 ∧
 ((l.getD i default).K=0→(l.getD i default).S=0∧(l.getD i default).U=0∧(l.getD i default).N=0) ∧
 ((l.getD i default).K=1→0≤(l.getD i default).U∧(l.getD i default).U≤c.pw) ∧
 ((l.getD i default).K=2→1≤need c (l.getD i default).U∧need c (l.getD i default).U-1≤Z1g (l.getD i default).S (l.drop (i+1))) ∧
 ((l.getD i default).K=3→(l.getD i default).U=0∧(l.getD i default).N=0)
def rdue(c:Conf)(l:List Page)(i:Nat)(due:Int):Int:=if(l.getD i default).K=2 then need c (l.getD i default).U-1 else max 0 (due-1)
def Zaa(h:Heap)(i:Nat)(due:Int):Tg:=⟨tm 157 [(1,.pt 8001 0 0),(2,bool false),(3,int due),(4,int i)],[(8001,.box 28 h.cells)],60⟩
theorem Z3q(c:Conf)(n:Int):-1≤need c n∧need c n≤5:=by
 unfold need;split
 ·rename_i h;have:=validB_iff.1 h.1;split
  ·omega
  ·have h1:0≤(n+c.pw-1)/c.pw:=Int.ediv_nonneg oq oq;have h2:(n+c.pw-1)/c.pw<6:=Int.ediv_lt_of_lt_mul oq oq;omega
 ·omega
theorem ZaM(h:Heap)(i:Nat)(due:Int)(hl:h.P.length≤1048576)(hi:i<h.P.length)(hd:0≤due∧due≤5)(hc:rchk h.C h.P i due):CP (rndF Tryz.f70 0) (Zaa h i due).st .nrm (Zaa h (i+1) (rdue h.C h.P i due)).st:=by
 have hn:=Z3q h.C (h.P.getD i default).U;have ht:=Z5k (h.P.getD i default).S (h.P.drop (i+1));rw[List.length_drop]at ht;unfold rchk at hc;let y0:=h.P.getD i default;have Q0 {h_ c_ p_} (r_:Fq h_ c_ p_):=FN 72 73 79 Page.dv h.P i (FcG 100 (!(!(y0.K==3)==decide (0<due)||decide (y0.S<0)||decide (1<y0.S))) (fun hg=>by(try simp only[bs]at hg);exact @Z37 (y0.N)) (Ffb 102 (!(y0.K==3)==decide (0<due)||decide (y0.S<0)||decide (1<y0.S)||!(decide (0≤y0.N)&&decide (y0.N≤2147483647))) r_));rcases bb ((h.P.getD i default).K==0)with hc0 | hc0<;>have hc0p:=hc0<;>simp only[bs]at hc0p
 ·exact sF [] (fO 12) (Fh 105 [.br true] (Q0 (Fa hc0 (Ffb 109 (!(y0.K==0&&(y0.S==0&&(y0.U==0&&y0.N==0)))) (Fi 155 (due-1) (Fgo 156 (if due-1 > 0 then due-1 else 0) (max 0 (due-1)) (Fx 75 i (Fa (by grind[rdue]:max 0 (due-1)=rdue h.C h.P i due) Fz))))))))
 ·rcases bb ((h.P.getD i default).K==1)with hc1 | hc1<;>have hc1p:=hc1<;>simp only[bs]at hc1p
  ·exact sF [] (fO 18) (Fh 110 [.br true] (Fh 122 [.br false] (Q0 (Fa hc0 (Fa hc1 (Ffb 105 (decide (y0.U<0)||decide (h.C.pw<y0.U)) (Fi 155 (due-1) (Fgo 156 (if due-1 > 0 then due-1 else 0) (max 0 (due-1)) (Fx 75 i (Fa (by grind[rdue]:max 0 (due-1)=rdue h.C h.P i due) Fz))))))))))
  ·rcases bb ((h.P.getD i default).K==2)with hc2 | hc2<;>have hc2p:=hc2<;>simp only[bs]at hc2p
   ·let y1:=need h.C y0.U-1;exact sF [] (fO 21) (Fh 110 [.br false] (Fh 123 [.br true] (Fh 142 [.br false] (Q0 (Fa hc0 (Fa hc1 (Fa hc2 (Fc 129 (@Z4e h.C (y0.U)) (FcG 138 (!decide (need h.C y0.U<1)) (fun hg=>by(try simp only[bs]at hg);exact @Zcc h.P i (y0.S) aa aa) (FiG 140 (!decide (need h.C y0.U<1)) y1 (Ffb 105 (decide (need h.C y0.U<1)||decide ((↑(Z1g y0.S (List.drop (i+1) h.P)):Int)<need h.C y0.U-1)) (Fi 155 y1 (Fgo 156 (if need h.C y0.U-1 > 0 then need h.C y0.U-1 else 0) (max 0 y1) (Fx 75 i (Fa (by grind[rdue]:max 0 y1=rdue h.C h.P i due) Fz)))))))))))))))
   ·exact sF [] (fO 15) (Fh 110 [.br false] (Fh 123 [.br false] (Fh 144 [.br true] (Fh 153 [.br false] (Q0 (Fa hc0 (Fa hc1 (Fa hc2 (Fb ((y0.K==3)=true) (Ffb 105 (y0.U != 0||y0.N != 0) (Fi 155 (due-1) (Fgo 156 (if due-1 > 0 then due-1 else 0) (max 0 (due-1)) (Fx 75 i (Fa (by grind[rdue]:max 0 (due-1)=rdue h.C h.P i due) Fz))))))))))))))
theorem Zlo(h:Heap)(i:Nat)(due:Int)(hl:h.P.length≤1048576)(hi:i<h.P.length)(hd:0≤due∧due≤5)(hc:¬ rchk h.C h.P i due):CP (rndF Tryz.f70 0) (Zaa h i due).st .ret (Tg.st ⟨tm 157 [(2,bool false)],[],60⟩):=by
 have hn:=Z3q h.C (h.P.getD i default).U;have ht:=Z5k (h.P.getD i default).S (h.P.drop (i+1));rw[List.length_drop]at ht;unfold rchk at hc;let y0:=h.P.getD i default;have Q0 {h_ c_ p_} (r_:Fq h_ c_ p_):=FN 72 73 79 Page.dv h.P i (FcG 100 (!(!(y0.K==3)==decide (0<due)||decide (y0.S<0)||decide (1<y0.S))) (fun hg=>by(try simp only[bs]at hg);exact @Z37 (y0.N)) r_);rcases bb (!((h.P.getD i default).K==3)==decide (0<due)||decide ((h.P.getD i default).S<0)||decide (1<(h.P.getD i default).S)||!(decide (0≤(h.P.getD i default).N)&&decide ((h.P.getD i default).N≤2147483647)))with hc0 | hc0<;>have hc0p:=hc0<;>simp only[bs]at hc0p
 ·exact sF [] [] (Q0 (Ft 102 hc0 Fz))
 ·obtain⟨⟨⟨hc0paaa,hc0paab⟩,hc0pab⟩,⟨hc0pba,hc0pbb⟩⟩:=hc0p;rcases bb ((h.P.getD i default).K==0)with hc1 | hc1<;>have hc1p:=hc1<;>simp only[bs]at hc1p
  ·exact sF [] [] (Fh 109 [.br true] (Q0 (Ff 102 hc0 (Fa hc1 (Ftb 105 (!(y0.K==0&&(y0.S==0&&(y0.U==0&&y0.N==0)))) Fz)))))
  ·rcases bb ((h.P.getD i default).K==1)with hc2 | hc2<;>have hc2p:=hc2<;>simp only[bs]at hc2p
   ·exact sF [] [] (Fh 105 [.br false] (Fh 122 [.br true] (Q0 (Ff 102 hc0 (Fa hc1 (Fa hc2 (Ftb 110 (decide ((h.P.getD i default).U<0)||decide (h.C.pw<(h.P.getD i default).U)) Fz)))))))
   ·rcases bb ((h.P.getD i default).K==2)with hc3 | hc3<;>have hc3p:=hc3<;>simp only[bs]at hc3p
    ·exact sF [] [] (Fh 105 [.br false] (Fh 110 [.br false] (Fh 142 [.br true] (Q0 (Ff 102 hc0 (Fa hc1 (Fa hc2 (Fa hc3 (Fc 129 (@Z4e h.C (y0.U)) (FcG 138 (!decide (need h.C y0.U<1)) (fun hg=>by(try simp only[bs]at hg);exact @Zcc h.P i (y0.S) aa aa) (FiG 140 (!decide (need h.C y0.U<1)) (need h.C y0.U-1) (Ftb 123 (decide (need h.C y0.U<1)||decide ((↑(Z1g y0.S (List.drop (i+1) h.P)):Int)<need h.C y0.U-1)) Fz))))))))))))
    ·rcases bb ((h.P.getD i default).K==3)with hc4 | hc4<;>have hc4p:=hc4<;>simp only[bs]at hc4p
     ·exact sF [] [] (Fh 105 [.br false] (Fh 110 [.br false] (Fh 123 [.br false] (Fh 153 [.br true] (Q0 (Ff 102 hc0 (Fa hc1 (Fa hc2 (Fa hc3 (Fa hc4 (Ftb 144 (y0.U != 0||y0.N != 0) Fz)))))))))))
     ·exact sF [] [] (Fh 105 [.br false] (Fh 110 [.br false] (Fh 123 [.br false] (Fh 144 [.br false] (Q0 (Ff 102 hc0 (Fa hc1 (Fa hc2 (Fa hc3 (Fa hc4 Fz))))))))))
theorem Zg8(h:Heap)(due:Int):CP (rndF Tryz.f70 0) (Zaa h h.P.length due).st (.ext 0) (Tg.st ⟨tm 157 [],[],60⟩):=by
 exact sF [] [] (FO 72 73 Page.dv h.P Fz)
instance (c:Conf) (l:List Page) (i:Nat) (due:Int):Decidable (rchk c l i due):=by unfold rchk;infer_instance
def rpB(c:Conf)(l:List Page):Nat→Nat→Int→Bool
 | 0,_,_=>true
 | f+1,i,due=>if i<l.length then decide (rchk c l i due)&&rpB c l f (i+1) (rdue c l i due)else true
theorem Zmb{c:Conf}{l:List Page}{f i:Nat}{due:Int}(h:l.length≤i):rpB c l f i due=true:=by
 cases f with
 | zero=>rfl
 | succ f=>rw[rpB,if_neg oq]
theorem Zbw{c:Conf}{l:List Page}{f i:Nat}{due:Int}(h:i<l.length)(hf:l.length≤i+f):rpB c l f i due=(decide (rchk c l i due)&&rpB c l (f-1) (i+1) (rdue c l i due)):=by
 cases f with
 | zero=>omega
 | succ f=>rw[rpB,if_pos h];rfl
theorem Z63{c:Conf}{l:List Page}{f i:Nat}(h:i<l.length)(hf:l.length≤i+f):Z2p c l f i=(if Z1o c l i=0 then false else Z2p c l (f-1) (i+Z1o c l i)):=by
 cases f with
 | zero=>omega
 | succ f=>rw[Z2p,if_pos h];rfl
theorem ZdJ{c:Conf}{l:List Page}:∀ {m f g i:Nat},l.length-i≤m→l.length≤i+f→l.length≤i+g→Z2p c l f i=Z2p c l g i:=by
 intro m;induction m with
 | zero =>
  intro f g i hm hf hg;have e:∀ f,Z2p c l f i=true:=by
   intro f;cases f with
   | zero=>rw[Z2p,decide_eq_true oq]
   | succ f=>rw[Z2p,if_neg oq]
  rw[e,e]
 | succ m ih =>
  intro f g i hm hf hg;by_cases h:i<l.length
  ·rw[Z63 h hf,Z63 h hg];by_cases h0:Z1o c l i=0
   ·rw[if_pos h0,if_pos h0]
   ·rw[if_neg h0,if_neg h0];exact ih oq oq oq
  ·exact ih oq hf hg
theorem getD_at{l:List Page}{i:Nat}(h:i<l.length):l[i]? = some (l.getD i default):=by
 simp[List.getD,h]
theorem Zk5{c:Conf}{l:List Page}{sp:Int}(hsp:sp=0∨sp=1)(q:Page)(hq:q.S=sp):∀ (d f i:Nat),d≤Z1g sp (l.drop i)→i+d≤l.length→l.length≤i+f →
  rpB c l f i d=(Z5H q ((l.drop i).take d)&&rpB c l (f-d) (i+d) 0):=by
 intro d;induction d with
 | zero=>intro f i _ _ _;simp[Z5H]
 | succ d ih =>
  intro f i h1 h2 hf;have hi:i<l.length:=by omega
  rw[drop_at hi,Z1g]at h1;by_cases hk:(l.getD i default).K=3∧(l.getD i default).S=sp
  ·rw[if_pos hk]at h1;have hd:rdue c l i ((d+1:Nat):Int)=(d:Int):=by
    unfold rdue;rw[if_neg oq];omega
   rw[Zbw hi hf,hd,ih (f-1) (i+1) oq oq oq,drop_at hi,List.take_succ_cons,show f-1-d=f-(d+1)from by omega,show i+1+d=i+(d+1)from by omega];have e:decide (rchk c l i ((d+1:Nat):Int))=Z5F (l.getD i default) q:=by
    rw[Bool.eq_iff_iff];simp only[decide_eq_true_eq,Z5F];unfold rchk;generalize l.getD i default=p at hk;obtain⟨a,b,u,v⟩:=p;simp only[Page.mk.injEq]at hk ⊢;omega
   rw[e];simp[Z5H,Bool.and_assoc]
  ·rw[if_neg hk]at h1;omega
theorem Z4x{sp:Int}{q:Page}(hq:q.S=sp):∀ {l:List Page} {d:Nat},Z5H q (l.take d)=true→d≤l.length→d≤Z1g sp l
 | _,0,_,_=>Nat.zero_le _
 | [],d+1,_,h=>by simp at h
 | p::l,d+1,h,hl=>by
  simp only[Z5H,List.take_succ_cons,List.all_cons,Bool.and_eq_true]at h;have h1:=h.1;simp only[Z5F,decide_eq_true_eq]at h1;have:=Z4x (sp:=sp) hq (l:=l) (d:=d) h.2 (by simpa using hl);rw[Z1g,if_pos (by rw[h1];exact⟨rfl,hq⟩)];omega
theorem ZhJ{c:Conf}{l:List Page}:∀ {m f i:Nat},l.length-i≤m→l.length≤i+f→rpB c l f i 0=Z2p c l f i:=by
 intro m;induction m with
 | zero =>
  intro f i hm hf;rw[Zmb oq];cases f with
  | zero=>rw[Z2p,decide_eq_true oq]
  | succ f=>rw[Z2p,if_neg oq]
 | succ m ih =>
  intro f i hm hf;by_cases hi:i<l.length;rotate_left
  ·exact ih oq hf
  have hp:=getD_at hi;rw[Zbw hi hf,Z63 hi hf];generalize hpe:l.getD i default=p at hp;have hone:∀ (b:Bool),rdue c l i 0=0→decide (rchk c l i 0)=b→Z1o c l i=(if b=true then 1 else 0)→(decide (rchk c l i 0)&&rpB c l (f-1) (i+1) (rdue c l i 0))=(if Z1o c l i=0 then false else Z2p c l (f-1) (i+Z1o c l i)):=by
   intro b h1 h2 h3;rw[h1,h2,h3,ih oq oq];cases b<;>simp
  by_cases hk2:p.K=2;rotate_left
  ·have hd:rdue c l i 0=0:=by unfold rdue;rw[hpe,if_neg hk2];omega
   by_cases hk0:p.K=0
   ·refine hone (Z5f p) hd ?_ (by rw[Z1o,hp];simp only[hk0,if_true]);rw[Bool.eq_iff_iff];simp only[decide_eq_true_eq,Z5f];unfold rchk;rw[hpe];obtain⟨a,b,u,v⟩:=p;simp only[Page.mk.injEq]at hk0 hk2 ⊢;omega
   ·by_cases hk1:p.K=1
    ·refine hone (Z4G p c) hd ?_ (by rw[Z1o,hp];simp[hk1]);rw[Bool.eq_iff_iff];simp only[decide_eq_true_eq,Z4G,Z26,Z3t,Bool.and_eq_true,Bool.or_eq_true,beq_iff_eq];unfold rchk;rw[hpe];omega
    ·refine hone false hd ?_ (by rw[Z1o,hp];simp[hk0,hk1,hk2]);simp only[decide_eq_false_iff_not];unfold rchk;rw[hpe];omega
  ·have hd:rdue c l i 0=need c p.U-1:=by unfold rdue;rw[hpe,if_pos hk2]
   have hrc:rchk c l i 0↔Z2s p c=true∧need c p.U-1≤Z1g p.S (l.drop (i+1)):=by
    simp only[Z2s,Z26,Z3t,Bool.and_eq_true,Bool.or_eq_true,beq_iff_eq,decide_eq_true_eq];unfold rchk;rw[hpe];omega
   have hsp:Z1o c l i=(if Z2s p c=true then(if(need c p.U).toNat≤l.length-i∧Z5H p ((l.drop (i+1)).take ((need c p.U).toNat-1))=true then(need c p.U).toNat else 0)else 0):=by
    rw[Z1o,hp];simp[hk2]
   by_cases hl:Z2s p c=true
   ·have hn:1≤need c p.U∧(p.S=0∨p.S=1):=by
     simp only[Z2s,Z26,Z3t,Bool.and_eq_true,Bool.or_eq_true,beq_iff_eq,decide_eq_true_eq]at hl;omega
    have htl:=Z5k p.S (l.drop (i+1));rw[List.length_drop]at htl;rw[hsp,if_pos hl,hd];by_cases ht:need c p.U-1≤Z1g p.S (l.drop (i+1))
    ·rw[decide_eq_true (hrc.2 ⟨hl,ht⟩),Bool.true_and];have e:need c p.U-1=(((need c p.U).toNat-1:Nat):Int):=by omega
     rw[e,Zk5 hn.2 p rfl _ _ _ oq oq oq];have hfit:(need c p.U).toNat≤l.length-i:=by omega
     cases htb:Z5H p ((l.drop (i+1)).take ((need c p.U).toNat-1))with
     | false=>simp
     | true =>
      simp only[hfit,and_self,if_true];rw[if_neg oq,Bool.true_and,ih oq oq,show i+1+((need c p.U).toNat-1)=i+(need c p.U).toNat from by omega];exact ZdJ (m:=l.length) oq oq oq
    ·rw[decide_eq_false (fun h=>ht (hrc.1 h).2),Bool.false_and];have hno:¬ ((need c p.U).toNat≤l.length-i∧Z5H p ((l.drop (i+1)).take ((need c p.U).toNat-1))=true):=by
      intro h;have:=Z4x (sp:=p.S) (q:=p) rfl h.2 (by rw[List.length_drop];omega);omega
     rw[if_neg hno];simp
   ·rw[hsp,if_neg hl,decide_eq_false (fun h=>hl (hrc.1 h).1)];simp
theorem Zax{c:Conf}{l:List Page}{i:Nat}{due:Int}(hd:0≤due∧due≤5)(hc:rchk c l i due):0≤rdue c l i due∧rdue c l i due≤5:=by
 have:=Z3q c (l.getD i default).U;unfold rchk at hc;unfold rdue;split<;>omega
theorem ZnH(h:Heap)(hl:h.P.length≤1048576):∀ (f i:Nat) (due:Int),i≤h.P.length→h.P.length≤i+f→0≤due∧due≤5→rpB h.C h.P f i due=true→LSpec Tryz.prog Tryz.f70 0 (Zaa h i due).st (.ext 0) (Tg.st ⟨tm 157 [],[],60⟩):=by
 intro f;induction f with
 | zero =>
  intro i due hi hf hd hr;have:i=h.P.length:=by omega
  subst this;exact .endx (Zg8 h due)
 | succ f ih =>
  intro i due hi hf hd hr;by_cases he:i<h.P.length
  ·rw[rpB,if_pos he,Bool.and_eq_true]at hr;have hc:=of_decide_eq_true hr.1;exact .next (ZaM h i due hl he hd hc) (ih (i+1) _ oq oq (Zax hd hc) hr.2)
  ·have:i=h.P.length:=by omega
   subst this;exact .endx (Zg8 h due)
theorem Zh2(h:Heap)(hl:h.P.length≤1048576):∀ (f i:Nat) (due:Int),0≤due∧due≤5→rpB h.C h.P f i due=false→LSpec Tryz.prog Tryz.f70 0 (Zaa h i due).st .ret (Tg.st ⟨tm 157 [(2,bool false)],[],60⟩):=by
 intro f;induction f with
 | zero=>intro i due hd hr;cases hr
 | succ f ih =>
  intro i due hd hr;by_cases he:i<h.P.length
  ·rw[rpB,if_pos he]at hr;by_cases hc:rchk h.C h.P i due
   ·rw[decide_eq_true hc,Bool.true_and]at hr;exact .next (ZaM h i due hl he hd hc) (ih (i+1) _ (Zax hd hc) hr)
   ·exact .endr (Zlo h i due hl he hd hc)
  ·rw[rpB,if_neg he]at hr;cases hr
theorem ZiI(h:Heap)(hl:h.P.length≤1048576)(hr:rpB h.C h.P h.P.length 0 0=true):CP (blkF Tryz.f70 0) (Tg.st ⟨tm 157 [(1,.pt 8001 0 0),(2,bool false),(3,int 0),(4,int 0)],[(8001,.box 28 h.cells)],60⟩) .nrm (Tg.st ⟨tm 157 [],[],60⟩) :=
 (ZnH h hl _ 0 0 oq oq oq hr).ext kr
theorem Zcz(h:Heap)(hl:h.P.length≤1048576)(hr:rpB h.C h.P h.P.length 0 0=false):CP (blkF Tryz.f70 0) (Tg.st ⟨tm 157 [(1,.pt 8001 0 0),(2,bool false),(3,int 0),(4,int 0)],[(8001,.box 28 h.cells)],60⟩) .ret (Tg.st ⟨tm 157 [(2,bool false)],[],60⟩) :=
 (Zh2 h hl _ 0 0 oq hr).ret kr
theorem Z69(l:List Page)(i:Int):Z1i l i=l.getD i.toNat default:=by
 rw[Z1i,List.getD_eq_getElem?_getD];rfl
theorem properB_iff{h:Heap}:Z02 h=true↔Z05 h.C=true∧(h.W.length:Int)=h.C.pw*h.C.pg∧(h.P.length:Int)=h.C.pg∧(h.S=0∨h.S=1) ∧
  (h.B=-1∨(0≤h.B∧h.B<h.P.length∧(h.P.getD h.B.toNat default).K=1))∧rpB h.C h.P h.P.length 0 0=true:=by
 rw[ZhJ (m:=h.P.length) oq oq];simp only[Z02,Bool.and_eq_true,shapeB_iff,ZiO,Bool.or_eq_true,beq_iff_eq,decide_eq_true_eq,Z69];constructor
 ·rintro⟨⟨h1,h2,h3,h4⟩,h5,h6⟩;exact⟨h1,h2,h3,h4,by omega,h6⟩
 ·rintro⟨h1,h2,h3,h4,h5,h6⟩;exact⟨⟨h1,h2,h3,h4⟩,by omega,h6⟩
theorem Z0i(h:Heap):GP 70 [h.av] true (bool (Z02 h)) []:=by
  by_cases hv:Z05 h.C=true
  · have ha:=area hv;rw[Int.mul_comm]at ha;have hv':=validB_iff.1 hv;have ei:h.C.pg*h.C.pw=h.C.pw*h.C.pg:=Int.mul_comm _ _;cases hs:rpB h.C h.P h.P.length 0 0 with
    | true => rcases Bool.eq_false_or_eq_true (!Z05 h.C||(↑h.W.length:Int) != h.C.pw*h.C.pg||(↑h.P.length:Int) != h.C.pg||decide (h.S<(0:Int))||decide ((1:Int)<h.S))with hc0 | hc0
              · have hc0p:=hc0;simp only[bs]at hc0p;exact gF [] Tryz.func70 (fO 24) (Fh 21 [.int (h.C.pw*h.C.pg)] (Fc 9 (@Z0A h.C) (FlG 14 (!!Z05 h.C) wdv h.W (Fa (by intro hg;(try simp only[bs]at hg);rw[wrapI' oq oq];omega:(!!Z05 h.C)=true→IntKind.i64.wrap (h.C.pg*h.C.pw)=h.C.pw*h.C.pg) (FlG 27 (!(!Z05 h.C||(↑h.W.length:Int) != h.C.pw*h.C.pg)) Page.dv h.P (Ft 42 ‹(!Z05 h.C||(↑h.W.length:Int) != h.C.pw*h.C.pg||(↑h.P.length:Int) != h.C.pg||decide (h.S<0)||decide (1<h.S))=true› (Fa (by exact(Bool.eq_false_iff.2 (fun hh=>by obtain⟨q1,q2,q3,q4,q5,q6⟩:=properB_iff.1 hh;simp[hv]at hc0p;omega)).symm:false=Z02 h) Fz)))))))
              · have hc0p:=hc0;simp only[bs]at hc0p;obtain⟨⟨⟨⟨hc0paaaa,hc0paaab⟩,hc0paab⟩,hc0pab⟩,hc0pb⟩:=hc0p;have Q0 {h_ c_ p_} (r_:Fq h_ c_ p_):=Fc 9 (@Z0A h.C) (FlG 14 (!!Z05 h.C) wdv h.W (Fa (by intro hg;(try simp only[bs]at hg);rw[wrapI' oq oq];omega:(!!Z05 h.C)=true→IntKind.i64.wrap (h.C.pg*h.C.pw)=h.C.pw*h.C.pg) (FlG 27 (!(!Z05 h.C||(↑h.W.length:Int) != h.C.pw*h.C.pg)) Page.dv h.P (Ff 42 ‹(!Z05 h.C||(↑h.W.length:Int) != h.C.pw*h.C.pg||(↑h.P.length:Int) != h.C.pg||decide (h.S<0)||decide (1<h.S))=false› (FlG 55 (h.B != (-1:Int)&&!decide (h.B<0)) Page.dv h.P (FeGq 63 (h.B != (-1:Int)&&!(decide (h.B<0)||decide ((↑h.P.length:Int)≤h.B))) Page.dv h.P h.B r_))))));rcases bb (h.B != (-1:Int)&&(decide (h.B<0)||decide ((↑h.P.length:Int)≤h.B)||(h.P.getD h.B.toNat default).K != 1))with hc1 | hc1<;>have hc1p:=hc1<;>simp only[bs]at hc1p
                · obtain⟨hc1pa,hc1pb⟩:=hc1p;exact gF [] Tryz.func70 (fO 45) (Fh 21 [.int (h.C.pw*h.C.pg)] (Q0 (Ft 68 hc1 (Fa (by exact(Bool.eq_false_iff.2 (fun hh=>by obtain⟨q1,q2,q3,q4,q5,q6⟩:=properB_iff.1 hh;omega)).symm:false=Z02 h) Fz))))
                · exact gF [] Tryz.func70 (fO 50) (Fh 21 [.int (h.C.pw*h.C.pg)] (Q0 (Ff 68 hc1 (Fu (@ZiI h oq aa) (Fa (by exact(properB_iff.2 ⟨hv,by omega,by omega,by omega,by omega,hs⟩).symm:true=Z02 h) Fz)))))
    | false => rcases Bool.eq_false_or_eq_true (!Z05 h.C||(↑h.W.length:Int) != h.C.pw*h.C.pg||(↑h.P.length:Int) != h.C.pg||decide (h.S<(0:Int))||decide ((1:Int)<h.S))with hc0 | hc0
               · have hc0p:=hc0;simp only[bs]at hc0p;exact gF [] Tryz.func70 (fO 24) (Fh 21 [.int (h.C.pw*h.C.pg)] (Fc 9 (@Z0A h.C) (FlG 14 (!!Z05 h.C) wdv h.W (Fa (by intro hg;(try simp only[bs]at hg);rw[wrapI' oq oq];omega:(!!Z05 h.C)=true→IntKind.i64.wrap (h.C.pg*h.C.pw)=h.C.pw*h.C.pg) (FlG 27 (!(!Z05 h.C||(↑h.W.length:Int) != h.C.pw*h.C.pg)) Page.dv h.P (Ft 42 ‹(!Z05 h.C||(↑h.W.length:Int) != h.C.pw*h.C.pg||(↑h.P.length:Int) != h.C.pg||decide (h.S<0)||decide (1<h.S))=true› (Fa (by exact(Bool.eq_false_iff.2 (fun hh=>by obtain⟨q1,q2,q3,q4,q5,q6⟩:=properB_iff.1 hh;simp[hv]at hc0p;omega)).symm:false=Z02 h) Fz)))))))
               · have hc0p:=hc0;simp only[bs]at hc0p;obtain⟨⟨⟨⟨hc0paaaa,hc0paaab⟩,hc0paab⟩,hc0pab⟩,hc0pb⟩:=hc0p;have Q1 {h_ c_ p_} (r_:Fq h_ c_ p_):=Fc 9 (@Z0A h.C) (FlG 14 (!!Z05 h.C) wdv h.W (Fa (by intro hg;(try simp only[bs]at hg);rw[wrapI' oq oq];omega:(!!Z05 h.C)=true→IntKind.i64.wrap (h.C.pg*h.C.pw)=h.C.pw*h.C.pg) (FlG 27 (!(!Z05 h.C||(↑h.W.length:Int) != h.C.pw*h.C.pg)) Page.dv h.P (Ff 42 ‹(!Z05 h.C||(↑h.W.length:Int) != h.C.pw*h.C.pg||(↑h.P.length:Int) != h.C.pg||decide (h.S<0)||decide (1<h.S))=false› (FlG 55 (h.B != (-1:Int)&&!decide (h.B<0)) Page.dv h.P (FeGq 63 (h.B != (-1:Int)&&!(decide (h.B<0)||decide ((↑h.P.length:Int)≤h.B))) Page.dv h.P h.B r_))))));rcases bb (h.B != (-1:Int)&&(decide (h.B<0)||decide ((↑h.P.length:Int)≤h.B)||(h.P.getD h.B.toNat default).K != 1))with hc1 | hc1<;>have hc1p:=hc1<;>simp only[bs]at hc1p
                 · obtain⟨hc1pa,hc1pb⟩:=hc1p;exact gF [] Tryz.func70 (fO 45) (Fh 21 [.int (h.C.pw*h.C.pg)] (Q1 (Ft 68 hc1 (Fa (by exact(Bool.eq_false_iff.2 (fun hh=>by obtain⟨q1,q2,q3,q4,q5,q6⟩:=properB_iff.1 hh;omega)).symm:false=Z02 h) Fz))))
                 · exact gF [] Tryz.func70 (fO 50) (Fh 21 [.int (h.C.pw*h.C.pg)] (Q1 (Ff 68 hc1 (Fu (@Zcz h oq aa) (Fa (by exact(Bool.eq_false_iff.2 (fun hh=>by have q:=(properB_iff.1 hh).2.2.2.2.2;rw[hs]at q;cases q)).symm:false=Z02 h) Fz)))))
  · have hf:Z05 h.C=false:=by simpa using hv
    exact gF [] Tryz.func70 (fO 24) (Fc 9 (@Z0A h.C) (FlG 14 (!!Z05 h.C) wdv h.W (FlG 27 (!(!Z05 h.C||(↑h.W.length:Int) != IntKind.i64.wrap (h.C.pg*h.C.pw))) Page.dv h.P (Ft 42 (by simp[*]:(!Z05 h.C||(↑h.W.length:Int) != IntKind.i64.wrap (h.C.pg*h.C.pw)||(↑h.P.length:Int) != h.C.pg||decide (h.S<0)||decide (1<h.S))=true) (Fa (by exact(Bool.eq_false_iff.2 (fun hh=>hv (properB_iff.1 hh).1)).symm:false=Z02 h) Fz)))))
def WOk(ws:List Int):Prop:=∀ w∈ws,0≤w∧w≤18446744073709551615
theorem Znh{ws:List Int}(h:WOk ws)(i:Nat):0≤ws.getD i 0∧ws.getD i 0≤18446744073709551615:=by
 rw[List.getD_eq_getElem?_getD];cases e:ws[i]? with
 | none=>simp
 | some x=>exact h x (List.mem_of_getElem? e)
theorem Z0C{ws:List Int}(h:WOk ws)(a:Int):0≤(loadA ws a).1∧(loadA ws a).1≤18446744073709551615:=by
 unfold loadA;split
 ·exact Znh h _
 ·simp
theorem Z1y(w:Int)(h:0≤w):0≤(decodeH w).1.map∧(decodeH w).1.map≤4294967295:=by
 unfold decodeH;split
 ·exact Z9c w h
 ·simp[Z25]
theorem Z07{h:Heap}(hp:Z02 h=true):Z05 h.C=true∧16≤h.C.pw∧h.C.pw≤64∧8≤h.C.pg∧h.C.pg≤64∧(h.W.length:Int)=h.C.pw*h.C.pg∧h.W.length≤4096∧(h.P.length:Int)=h.C.pg∧(h.S=0∨h.S=1):=by
 simp only[Z02,Bool.and_eq_true]at hp;obtain⟨h1,h2,h3,h4⟩:=shapeB_iff.1 hp.1;have hv:=validB_iff.1 h1;have:=area h1;exact⟨h1,hv.1,hv.2.1,hv.2.2.2.1,hv.2.2.2.2,h2,by omega,h3,h4⟩
theorem Z2S{c:Conf}{a:Int}(hv:Z05 c=true)(h:(ofA c a).2.2=0):0≤(ofA c a).1∧(ofA c a).1<c.pg∧0≤(ofA c a).2.1∧(ofA c a).2.1<c.pw∧4096≤a∧a<4096+c.pw*c.pg∧a=4096+((ofA c a).1*c.pw+(ofA c a).2.1):=by
 have hb:=validB_iff.1 hv;unfold ofA at h ⊢;rw[if_pos hv]at h ⊢;split at h
 ·rename_i hc;rw[if_pos hc];simp only;have h1:0≤(a-4096)/c.pw:=Int.ediv_nonneg oq oq;have h2:(a-4096)/c.pw<c.pg:=Int.ediv_lt_of_lt_mul oq (by rw[Int.mul_comm];omega);have h3:=Int.emod_nonneg (a-4096) (b:=c.pw) oq;have h4:=Int.emod_lt_of_pos (a-4096) (b:=c.pw) oq;have h5:=Int.mul_ediv_add_emod (a-4096) c.pw;refine⟨h1,h2,h3,h4,hc.1,hc.2, ?_⟩;rw[Int.mul_comm]at h5;omega
 ·simp at h
def atH(h:Heap)(a:Int):Header×Int :=
 if Z02 h=true then
  (if(ofA h.C a).2.2=0 then
   (if((h.P.getD (ofA h.C a).1.toNat default).K=1∨(h.P.getD (ofA h.C a).1.toNat default).K=2)∧(ofA h.C a).2.1<(h.P.getD (ofA h.C a).1.toNat default).U∧(decodeH (loadA h.W a).1).2=true then
    (if((h.P.getD (ofA h.C a).1.toNat default).K=1∧(h.P.getD (ofA h.C a).1.toNat default).U<(ofA h.C a).2.1+sizeH (decodeH (loadA h.W a).1).1) ∨
      ((h.P.getD (ofA h.C a).1.toNat default).K=2∧((ofA h.C a).2.1≠0∨sizeH (decodeH (loadA h.W a).1).1≠(h.P.getD (ofA h.C a).1.toNat default).U))then(Z25,19)
     else((decodeH (loadA h.W a).1).1,0))
    else(Z25,19))
   else(Z25,2))
 else(Z25,1)
theorem Z19(h:Header):0≤sizeH h∧sizeH h≤256:=by
 unfold sizeH;split
 ·have:=validH_iff.1 aa;omega
 ·omega
theorem Z4X(h:Heap)(a:Int)(hw:WOk h.W)(h0:0≤a∧a≤18446744073709551615):GP 83 [h.av,u64 a] true (.tu [(atH h a).1.av,int (atH h a).2]) []:=by
 have hr:=Z0C hw a;have hd:=Z1y (loadA h.W a).1 hr.1;have hs:=Z19 (decodeH (loadA h.W a).1).1;rcases bb (!Z02 h)with hc0 | hc0<;>have hc0p:=hc0<;>simp only[bs]at hc0p
 ·rw[show atH h a=(Header.mk (0:Int) (0:Int) (0:Int),(1:Int))from by simp[atH,Z25, *]];exact gF [] Tryz.func83 [] (Fc 16 (@Z0i h) (Ft 17 hc0 Fz))
 ·have hf5:=Z07 hc0p;obtain⟨hf5a,⟨hf5ba,⟨hf5bba,⟨hf5bbba,⟨hf5bbbba,⟨hf5bbbbba,⟨hf5bbbbbba,⟨hf5bbbbbbba,hf5bbbbbbbb⟩⟩⟩⟩⟩⟩⟩⟩:=hf5;have Q0 {h_ c_ p_} (r_:Fq h_ c_ p_):=Fc 16 (@Z0i h) (Ff 17 hc0 (Fc 23 (@Z4B h.C a oq oq) r_));rcases bb ((ofA h.C a).snd.snd != 0)with hc18 | hc18<;>have hc18p:=hc18<;>simp only[bs]at hc18p
  ·rw[show atH h a=(Header.mk (0:Int) (0:Int) (0:Int),(2:Int))from by simp[atH,Z25, *]];exact gF [] Tryz.func83 [] (Q0 (Ft 28 hc18 Fz))
  ·have hf25:=Z2S aa hc18p;obtain⟨hf25a,⟨hf25ba,⟨hf25bba,⟨hf25bbba,⟨hf25bbbba,⟨hf25bbbbba,hf25bbbbbb⟩⟩⟩⟩⟩⟩:=hf25;have Q1 {h_ c_ p_} (r_:Fq h_ c_ p_):=Q0 (Ff 28 hc18 (Fe 33 Page.dv h.P ((ofA h.C a).fst) (Fc 39 (@Z1M h.W a oq aa) (Fc 44 (@Z32 ((loadA h.W a).fst) oq oq) r_))));rcases bb ((h.P.getD (ofA h.C a).fst.toNat default).K != 1&&(h.P.getD (ofA h.C a).fst.toNat default).K != 2||decide ((h.P.getD (ofA h.C a).fst.toNat default).U≤(ofA h.C a).snd.fst)||!(decodeH (loadA h.W a).fst).snd)with hc27 | hc27<;>have hc27p:=hc27<;>simp only[bs]at hc27p
   ·rw[show atH h a=(Header.mk (0:Int) (0:Int) (0:Int),(19:Int))from by grind[atH,Z25]];exact gF [] Tryz.func83 [] (Q1 (Ft 64 hc27 Fz))
   ·obtain⟨⟨hc27paa,hc27pab⟩,hc27pb⟩:=hc27p;have Q2 {h_ c_ p_} (r_:Fq h_ c_ p_):=Q1 (Ff 64 hc27 (Fc 67 (@Z29 ((decodeH (loadA h.W a).fst).fst) aa) (FiG 74 ((h.P.getD (ofA h.C a).fst.toNat default).K==1) ((ofA h.C a).snd.fst+sizeH (decodeH (loadA h.W a).fst).fst) r_)));rcases bb ((h.P.getD (ofA h.C a).fst.toNat default).K==1&&decide ((h.P.getD (ofA h.C a).fst.toNat default).U<(ofA h.C a).snd.fst+sizeH (decodeH (loadA h.W a).fst).fst)||(h.P.getD (ofA h.C a).fst.toNat default).K==2&&((ofA h.C a).snd.fst != 0||sizeH (decodeH (loadA h.W a).fst).fst != (h.P.getD (ofA h.C a).fst.toNat default).U))with hc40 | hc40<;>have hc40p:=hc40<;>simp only[bs]at hc40p
    ·rw[show atH h a=(Header.mk (0:Int) (0:Int) (0:Int),(19:Int))from by(simp only[atH,Z25] ;exact sj)];exact gF [] Tryz.func83 [] (Q2 (Ft 93 hc40 Fz))
    ·obtain⟨hc40pa,hc40pb⟩:=hc40p;rw[show atH h a=((decodeH (loadA h.W a).fst).fst,(0:Int))from by grind[atH,Z25]];exact gF [] Tryz.func83 [] (Q2 (Ff 93 hc40 Fz))
abbrev aP(h:Heap)(a:Int):Page:=h.P.getD (ofA h.C a).fst.toNat default
end Go.Proofs.YtdhchmlalchgeaaGreat
namespace Go.Proofs.YtdhchmlalchgeaaGreat
open Go.Sx Go.RowKit
theorem Z8T{α β:Type}{f:α→β}{p:α→Prop}:∀ {l:List β},(∀ x∈l,∃ a,x=f a∧p a)→∃ m:List α,l=m.map f∧∀ a∈m,p a
 | [],_=>⟨[],rfl,by simp⟩
 | x::l,h=>by
  obtain⟨a,rfl,ha⟩:=h x pq;obtain⟨m,rfl,hm⟩:=Z8T (l:=l) fun y hy=>h y (by simp[hy]);exact⟨a::m,rfl,fun b hb=>by rcases List.mem_cons.1 hb with rfl | hb;exact ha;exact hm b hb⟩
theorem Zjq{n:Nat}{l:List DV}(h:shp Tryz.prog (n+2) 25 l):∃ m:List Int,l=[.sl 1 (m.map wdv)]∧m.length≤140737488355328∧WOk m:=by
 have e:shp Tryz.prog (n+2) 25 l=(∃ els:List (List DV),l=[.sl 1 els]∧els.length≤140737488355328∧∀ x∈els,shp Tryz.prog (n+1) 35 x):=by kernel_rfl
 rw[e]at h;obtain⟨els,rfl,h1,h2⟩:=h;obtain⟨m,rfl,hm⟩:=Z8T (f:=wdv) (p:=fun x=>0≤x∧x≤18446744073709551615) fun x hx=>by
  obtain⟨v,rfl,hv⟩:=Znn (h2 x hx);exact⟨v,rfl,range_u64 hv⟩
 exact⟨m,rfl,by simpa using h1,hm⟩
theorem Zf6{n:Nat}{l:List DV}(h:shp Tryz.prog (n+2) 22 l):∃ m:List Int,l=[.sl 1 (m.map idv)]∧m.length≤140737488355328:=by
 have e:shp Tryz.prog (n+2) 22 l=(∃ els:List (List DV),l=[.sl 1 els]∧els.length≤140737488355328∧∀ x∈els,shp Tryz.prog (n+1) 3 x):=by kernel_rfl
 rw[e]at h;obtain⟨els,rfl,h1,h2⟩:=h;obtain⟨m,rfl⟩:=ZaL (f:=idv) fun x hx=>by
  obtain⟨v,rfl,_⟩:=Zoh (h2 x hx);exact⟨v,rfl⟩
 exact⟨m,rfl,by simpa using h1⟩
end Go.Proofs.YtdhchmlalchgeaaGreat
namespace Go.Proofs.YtdhchmlalchgeaaGreat
open Go.Sx
theorem Z78{w:Int}(h:(decodeH w).2=true):Z0g (decodeH w).1=true:=by
 unfold decodeH at h ⊢;split at h
 ·rename_i hc;rw[if_pos hc];have:=hc.1;unfold Z0c at this;split at this
  ·assumption
  ·simp at this
 ·cases h
theorem Zf0{h:Heap}{a:Int}(e:(atH h a).2=0):Z02 h=true∧(ofA h.C a).2.2=0∧4096≤a∧a<8192∧Z0g (atH h a).1=true∧0≤(atH h a).1.K∧(atH h a).1.K≤3∧0≤(atH h a).1.length∧(atH h a).1.length≤255:=by
 have key:Z02 h=true∧(ofA h.C a).2.2=0∧Z0g (atH h a).1=true:=by
  unfold atH at e ⊢;split at e
  ·rename_i h1;split at e
   ·rename_i h2;split at e
    ·rename_i h3;split at e
     ·simp at e
     ·rename_i h4;rw[if_pos h1,if_pos h2,if_pos h3,if_neg h4];exact⟨h1,h2,Z78 h3.2.2⟩
    ·simp at e
   ·simp at e
  ·simp at e
 obtain⟨k1,k2,k3⟩:=key;have p:=Z07 k1;have o:=Z2S p.1 k2;have v:=validH_iff.1 k3;have ar:=area p.1;exact⟨k1,k2,o.2.2.2.2.1,by omega,k3,v.1,v.2.1,v.2.2.1,v.2.2.2.1⟩
theorem Z3i{h:Heap}(hw:WOk h.W)(a:Int):0≤(atH h a).1.map∧(atH h a).1.map≤4294967295:=by
 have hr:=Z0C hw a;have hd:=Z1y (loadA h.W a).1 hr.1;unfold atH;repeat' split
 all_goals first | exact hd | simp[Z25]
def getH(h:Heap)(a:Int):Header×Int:=if Z02 h=true then(if a=0 then(Z25,5)else if(atH h a).2=0∧(atH h a).1.K=0 then(Z25,4)else atH h a)else(Z25,1)
theorem ZaT{h:Heap}(hw:WOk h.W)(a:Int):0≤(getH h a).1.map∧(getH h a).1.map≤4294967295:=by
 have:=Z3i hw a;unfold getH;repeat' split
 all_goals first | exact this | simp[Z25]
theorem Z54{h:Heap}{a:Int}(e:(getH h a).2=0):getH h a=atH h a∧(atH h a).2=0∧Z02 h=true∧(ofA h.C a).2.2=0∧4096≤a∧a<8192∧Z0g (getH h a).1=true∧1≤(getH h a).1.K∧(getH h a).1.K≤3∧0≤(getH h a).1.length∧(getH h a).1.length≤255:=by
 have key:getH h a=atH h a∧(atH h a).2=0∧(atH h a).1.K≠0:=by
  unfold getH at e ⊢;split at e
  ·rename_i h1;split at e
   ·simp at e
   ·rename_i h2;split at e
    ·simp at e
    ·rename_i h3;rw[if_pos h1,if_neg h2,if_neg h3];exact⟨rfl,e,fun h=>h3 ⟨e,h⟩⟩
  ·simp at e
 obtain⟨k1,k2,k3⟩:=key;have k:=Zf0 k2;rw[k1];exact⟨rfl,k2,k.1,k.2.1,k.2.2.1,k.2.2.2.1,k.2.2.2.2.1,by omega,k.2.2.2.2.2.2.1,k.2.2.2.2.2.2.2.1,k.2.2.2.2.2.2.2.2⟩
theorem Z3V(h:Heap)(a:Int)(hw:WOk h.W)(h0:0≤a∧a≤18446744073709551615):GP 60 [h.av,u64 a] true (.tu [(getH h a).1.av,int (getH h a).2]) []:=by
 rcases bb (!Z02 h)with hc0 | hc0<;>have hc0p:=hc0<;>simp only[bs]at hc0p
 ·rw[show getH h a=(Header.mk (0:Int) (0:Int) (0:Int),(1:Int))from by simp[getH,Z25, *]];exact gF [] Tryz.func60 [] (Fc 9 (@Z0i h) (Ft 10 hc0 Fz))
 ·rcases bb (a==0)with hc1 | hc1<;>have hc1p:=hc1<;>simp only[bs]at hc1p
  ·rw[show getH h a=(Header.mk (0:Int) (0:Int) (0:Int),(5:Int))from by simp[getH,Z25, *]];exact gF [] Tryz.func60 [] (Fc 9 (@Z0i h) (Ff 10 hc0 (Ft 13 hc1 Fz)))
  ·have Q0 {h_ c_ p_} (r_:Fq h_ c_ p_):=Fc 9 (@Z0i h) (Ff 10 hc0 (Ff 13 hc1 (Fc 18 (@Z4X h a aa aa) r_)));rcases bb ((atH h a).snd==0&&(atH h a).fst.K==0)with hc2 | hc2<;>have hc2p:=hc2<;>simp only[bs]at hc2p
   ·obtain⟨hc2pa,hc2pb⟩:=hc2p;rw[show getH h a=(Header.mk (0:Int) (0:Int) (0:Int),(4:Int))from by simp[getH,Z25, *]];exact gF [] Tryz.func60 [] (Q0 (Ft 27 hc2 Fz))
   ·rw[show getH h a=atH h a from by(simp[getH,Z25, *];omega)];exact gF [] Tryz.func60 [] (Q0 (Ff 27 hc2 Fz))
def Z1S(h:Heap)(a i:Int):Int×Int:=if(getH h a).2=0 then(if 0≤i∧i<(getH h a).1.length then loadA h.W (a+1+i)else(0,2))else(0,(getH h a).2)
theorem Zca(h:Heap)(a i:Int)(hw:WOk h.W)(h0:0≤a∧a≤18446744073709551615):GP 116 [h.av,u64 a,int i] true (.tu [u64 (Z1S h a i).1,int (Z1S h a i).2]) []:=by
 have Q0 {h_ c_ p_} (r_:Fq h_ c_ p_):=Fc 13 (@Z3V h a aa aa) r_;rcases bb ((getH h a).snd != 0)with hc0 | hc0<;>have hc0p:=hc0<;>simp only[bs]at hc0p
 ·rw[show Z1S h a i=((0:Int),(getH h a).snd)from by simp[Z1S, *]];exact gF [] Tryz.func116 [] (Q0 (Ft 17 hc0 Fz))
 ·have hf5:=Z54 hc0p;obtain⟨hf5a,⟨hf5ba,⟨hf5bba,⟨hf5bbba,⟨hf5bbbba,⟨hf5bbbbba,⟨hf5bbbbbba,⟨hf5bbbbbbba,⟨hf5bbbbbbbba,⟨hf5bbbbbbbbba,hf5bbbbbbbbbb⟩⟩⟩⟩⟩⟩⟩⟩⟩⟩:=hf5;have hf11:=Z07 hf5bba;obtain⟨hf11a,⟨hf11ba,⟨hf11bba,⟨hf11bbba,⟨hf11bbbba,⟨hf11bbbbba,⟨hf11bbbbbba,⟨hf11bbbbbbba,hf11bbbbbbbb⟩⟩⟩⟩⟩⟩⟩⟩:=hf11;rcases bb (decide (i<0)||decide ((getH h a).fst.length≤i))with hc20 | hc20<;>have hc20p:=hc20<;>simp only[bs]at hc20p
  ·rw[show Z1S h a i=((0:Int),(2:Int))from by(simp only[Z1S] ;exact sj)];exact gF [] Tryz.func116 [] (Q0 (Ff 17 hc0 (Ft 26 hc20 Fz)))
  ·obtain⟨hc20pa,hc20pb⟩:=hc20p;rw[show Z1S h a i=loadA h.W (a+(1:Int)+i)from by(simp only[Z1S] ;exact sj)];exact gF [] Tryz.func116 [] (Q0 (Ff 17 hc0 (Ff 26 hc20 (Fv 30 (a+1) (Fv 32 i (Fv 33 (a+1+i) (Fc 34 (@Z1M h.W (a+1+i) oq oq) Fz)))))))
theorem ZiD{h:Heap}{a i:Int}(e:(Z1S h a i).2=0):(getH h a).2=0∧0≤i∧i<(getH h a).1.length:=by
 unfold Z1S at e;split at e
 ·split at e
  ·exact⟨aa,aa⟩
  ·simp at e
 ·exact absurd e aa
def Z0x(h:Heap)(a i v:Int):Heap×Int:=if(Z1S h a i).2=0 then({ h with W:=(Z10 h.W (a+1+i) v).1 },0)else(noHeap,(Z1S h a i).2)
theorem Z7F(h:Heap)(a i v:Int)(hw:WOk h.W)(h0:0≤a∧a≤18446744073709551615):GP 63 [h.av,u64 a,int i,u64 v] false (.tu [(Z0x h a i v).1.av,int (Z0x h a i v).2]) []:=by
 have Q0 {h_ c_ p_} (r_:Fq h_ c_ p_):=Fc 16 (@Zca h a i aa aa) r_;rcases bb ((Z1S h a i).snd != 0)with hc0 | hc0<;>have hc0p:=hc0<;>simp only[bs]at hc0p
 ·exact gF [] Tryz.func63 [true] (Q0 (Ft 20 hc0 (Fnl (Fnl (Fa (by simp[Z0x,noHeap, *]:0=(Z0x h a i v).fst.C.pw) (Fa (by simp[Z0x,noHeap, *]:0=(Z0x h a i v).fst.C.pg) (Fa (by simp[Z0x,noHeap, *]:[]=List.map wdv (Z0x h a i v).fst.W) (Fa (by simp[Z0x,noHeap, *]:[]=List.map Page.dv (Z0x h a i v).fst.P) (Fa (by simp[Z0x,noHeap, *]:0=(Z0x h a i v).fst.S) (Fa (by simp[Z0x,noHeap, *]:0=(Z0x h a i v).fst.B) (Fa (by simp[Z0x,noHeap, *]:(Z1S h a i).snd=(Z0x h a i v).snd) Fz)))))))))))
 ·have hf7:=ZiD hc0p;obtain⟨hf7a,⟨hf7ba,hf7bb⟩⟩:=hf7;have hf11:=Z54 hf7a;obtain⟨hf11a,⟨hf11ba,⟨hf11bba,⟨hf11bbba,⟨hf11bbbba,⟨hf11bbbbba,⟨hf11bbbbbba,⟨hf11bbbbbbba,⟨hf11bbbbbbbba,⟨hf11bbbbbbbbba,hf11bbbbbbbbbb⟩⟩⟩⟩⟩⟩⟩⟩⟩⟩:=hf11;have hf21:=Z07 hf11bba;obtain⟨hf21a,⟨hf21ba,⟨hf21bba,⟨hf21bbba,⟨hf21bbbba,⟨hf21bbbbba,⟨hf21bbbbbba,⟨hf21bbbbbbba,hf21bbbbbbbb⟩⟩⟩⟩⟩⟩⟩⟩:=hf21;rw[show Z0x h a i v=(Heap.mk h.C (Z10 h.W (a+(1:Int)+i) v).fst h.P h.S h.B,(0:Int))from by simp[Z0x,noHeap, *]];exact gF [] Tryz.func63 [] (Q0 (Ff 20 hc0 (Fv 27 (a+1) (Fv 29 i (Fv 30 (a+1+i) (Fc 32 (@Z8w h.W (a+1+i) v oq oq) Fz))))))
def Z0S(h:Heap)(a:Int):List Int×Int:=if(getH h a).2=0 then Z1j h.W (a+1) (getH h a).1.length else([],(getH h a).2)
theorem Za4(h:Heap)(a:Int)(hw:WOk h.W)(h0:0≤a∧a≤18446744073709551615):GP 61 [h.av,u64 a] false (.tu [Z01 (Z0S h a).1,int (Z0S h a).2]) []:=by
 have Q0 {h_ c_ p_} (r_:Fq h_ c_ p_):=Fc 11 (@Z3V h a aa aa) r_;rcases bb ((getH h a).snd != 0)with hc0 | hc0<;>have hc0p:=hc0<;>simp only[bs]at hc0p
 ·exact gF [] Tryz.func61 [true] (Q0 (Ft 15 hc0 (Fnl (Fa (by simp[Z0S, *]:[]=List.map wdv (Z0S h a).fst) (Fa (by simp[Z0S, *]:(getH h a).snd=(Z0S h a).snd) Fz)))))
 ·have hf5:=Z54 hc0p;obtain⟨hf5a,⟨hf5ba,⟨hf5bba,⟨hf5bbba,⟨hf5bbbba,⟨hf5bbbbba,⟨hf5bbbbbba,⟨hf5bbbbbbba,⟨hf5bbbbbbbba,⟨hf5bbbbbbbbba,hf5bbbbbbbbbb⟩⟩⟩⟩⟩⟩⟩⟩⟩⟩:=hf5;have hf11:=Z07 hf5bba;obtain⟨hf11a,⟨hf11ba,⟨hf11bba,⟨hf11bbba,⟨hf11bbbba,⟨hf11bbbbba,⟨hf11bbbbbba,⟨hf11bbbbbbba,hf11bbbbbbbb⟩⟩⟩⟩⟩⟩⟩⟩:=hf11;rw[show Z0S h a=Z1j h.W (a+(1:Int)) (getH h a).fst.length from by simp[Z0S, *]];exact gF [] Tryz.func61 [] (Q0 (Ff 15 hc0 (Fv 20 (a+1) (Fc 23 (@Zb8 h.W (a+1) ((getH h a).fst.length) oq oq) Fz))))
def objW(hd:Header):List Int:=(Z0c hd).1::List.replicate hd.length.toNat 0
def Z1m(h:Heap)(a:Int)(hd:Header):Heap×Int:=if Z02 h=true∧Z0g hd=true then(if(Z0G h.W a (objW hd)).2=0 then({ h with W:=(Z0G h.W a (objW hd)).1 },0)else(noHeap,(Z0G h.W a (objW hd)).2))else(noHeap,1)
theorem Zhx{hd:Header}(h:(Z0c hd).2=0):Z0g hd=true∧0≤hd.length∧hd.length≤255:=by
 unfold Z0c at h;split at h
 ·rename_i hv;have:=validH_iff.1 hv;exact⟨hv,this.2.2.1,this.2.2.2.1⟩
 ·simp at h
theorem ZdI{hd:Header}(h:Z0g hd=true):(Z0c hd).2=0:=by simp[Z0c,h]
theorem ZiT{h:Heap}{a:Int}{hd:Header}(e:Z02 h=false∨¬ (Z0c hd).2=0):Z1m h a hd=(noHeap,1):=by
 unfold Z1m;rw[if_neg];rintro⟨h1,h2⟩;rcases e with e | e
 ·rw[h1]at e;cases e
 ·exact e (ZdI h2)
theorem ZeY(h:Heap)(a:Int)(hd:Header)(hw:WOk h.W)(h0:0≤a∧a≤18446744073709551615)(hm:0≤hd.map∧hd.map≤4294967295):GP 161 [h.av,u64 a,hd.av] false (.tu [(Z1m h a hd).1.av,int (Z1m h a hd).2]) []:=by
 have Q0 {h_ c_ p_} (r_:Fq h_ c_ p_):=Fc 13 (@Z3n hd aa) (Fc 17 (@Z0i h) r_);rcases bb (!Z02 h||(Z0c hd).snd != 0)with hc0 | hc0<;>have hc0p:=hc0<;>simp only[bs]at hc0p
 ·have hf5:=ZiT (a:=a) hc0p;exact gF [] Tryz.func161 (fO 2) (Q0 (Ft 22 hc0 (Fnl (Fnl (Fa (by grind[Z1m,noHeap,objW]:0=(Z1m h a hd).fst.C.pw) (Fa (by grind[Z1m,noHeap,objW]:0=(Z1m h a hd).fst.C.pg) (Fa (by grind[Z1m,noHeap,objW]:[]=List.map wdv (Z1m h a hd).fst.W) (Fa (by grind[Z1m,noHeap,objW]:[]=List.map Page.dv (Z1m h a hd).fst.P) (Fa (by grind[Z1m,noHeap,objW]:0=(Z1m h a hd).fst.S) (Fa (by grind[Z1m,noHeap,objW]:0=(Z1m h a hd).fst.B) (Fbs (1=(Z1m h a hd).snd) Fz)))))))))))
 ·obtain⟨hc0pa,hc0pb⟩:=hc0p;have hf7:=Z07 hc0pa;obtain⟨hf7a,⟨hf7ba,⟨hf7bba,⟨hf7bbba,⟨hf7bbbba,⟨hf7bbbbba,⟨hf7bbbbbba,⟨hf7bbbbbbba,hf7bbbbbbbb⟩⟩⟩⟩⟩⟩⟩⟩:=hf7;have hf11:=Zhx hc0pb;obtain⟨hf11a,⟨hf11ba,hf11bb⟩⟩:=hf11;have Q1 {h_ c_ p_} (r_:Fq h_ c_ p_):=Q0 (Ff 22 hc0 (Fs 29 (List.map wdv [(Z0c hd).fst]) (Fa (by(simp[Z1m,noHeap,objW, *];omega):0≤hd.length∧(↑(List.map wdv [(Z0c hd).fst]).length:Int)+hd.length≤2^30) (Fa (by simp[Z1m,noHeap,objW,List.map_take,List.map_drop,List.map_set,List.map_append,wdv,idv]:List.map wdv [(Z0c hd).fst]++List.replicate hd.length.toNat [du64 0]=List.map wdv ([(Z0c hd).fst]++List.replicate hd.length.toNat 0)) (Fc 33 (@Z4F h.W ([(Z0c hd).fst]++List.replicate hd.length.toNat 0) a oq aa (by(simp[Z1m,noHeap,objW, *];omega))) r_)))));rcases bb ((Z0G h.W a ([(Z0c hd).fst]++List.replicate hd.length.toNat 0)).snd != 0)with hc37 | hc37<;>have hc37p:=hc37<;>simp only[bs]at hc37p
  ·exact gF [] Tryz.func161 (fO 2) (Fh 32 [.els (List.map wdv ([(Z0c hd).fst]++List.replicate hd.length.toNat 0))] (Q1 (Ft 37 hc37 (Fnl (Fnl (Fa (by(simp only[Z1m,noHeap,objW] ;exact sj):0=(Z1m h a hd).fst.C.pw) (Fa (by(simp only[Z1m,noHeap,objW] ;exact sj):0=(Z1m h a hd).fst.C.pg) (Fa (by(simp only[Z1m,noHeap,objW] ;exact sj):[]=List.map wdv (Z1m h a hd).fst.W) (Fa (by(simp only[Z1m,noHeap,objW] ;exact sj):[]=List.map Page.dv (Z1m h a hd).fst.P) (Fa (by(simp only[Z1m,noHeap,objW] ;exact sj):0=(Z1m h a hd).fst.S) (Fa (by(simp only[Z1m,noHeap,objW] ;exact sj):0=(Z1m h a hd).fst.B) (Fa (by(simp only[Z1m,noHeap,objW] ;exact sj):(Z0G h.W a ([(Z0c hd).fst]++List.replicate hd.length.toNat 0)).snd=(Z1m h a hd).snd) Fz))))))))))))
  ·rw[show Z1m h a hd=(Heap.mk h.C (Z0G h.W a ([(Z0c hd).fst]++List.replicate hd.length.toNat (0:Int))).fst h.P h.S h.B,(0:Int))from by(simp only[Z1m,noHeap,objW] ;exact sj)];exact gF [] Tryz.func161 [] (Fh 32 [.els (List.map wdv ([(Z0c hd).fst]++List.replicate hd.length.toNat 0))] (Q1 (Ff 37 hc37 Fz)))
def Z5S(l:List Page)(i k:Nat):Bool:=(List.range k).all fun j=>(l.getD (i+j) default).K==0
theorem freeK_iff{l:List Page}{i k:Nat}:Z5S l i k=true↔∀ j,j<k→(l.getD (i+j) default).K=0:=by
 simp[Z5S]
def tookP(l:List Page)(i k:Nat)(p q:Page):List Page:=(wr l (List.replicate k q) i k).set i p
def Z2T(l:List Page)(i:Int)(k:Int)(p q:Page):List Page×Int:=if 0≤i∧i<l.length∧k≤l.length-i then(if Z5S l i.toNat k.toNat=true then(tookP l i.toNat k.toNat p q,0)else([],20))else([],2)
theorem Z2i(l:List Page):Z0J (l.map Page.dv):=by
 intro e he x hx;obtain⟨y,_,rfl⟩:=List.mem_map.1 he;simp[Page.dv]at hx;rcases hx with rfl | rfl | rfl | rfl<;>exact⟨_,rfl⟩
theorem ZbP{α:Type}{l m:List α}{i j:Nat}{d:α}(h:l[i]? = m[j]?):l.getD i d=m.getD j d:=by
 rw[List.getD_eq_getElem?_getD,List.getD_eq_getElem?_getD,h]
def Zdd(l:List Page)(i:Int)(k:Int)(p q:Page)(n:Nat):Tg:=⟨tm 57 [(1,int i),(2,int k),(8,.pt 8008 0 0),(9,.pt 8009 0 0),(10,.d (.sl 0 [])),(11,int 0),(12,.ow 24032),(13,int n)],
 [(24032,.arr 84 4 ((wr l (List.replicate k.toNat q) i.toNat n).map Page.dv)),(8008,.box 84 [int p.K,int p.S,int p.U,int p.N]),(8009,.box 84 [int q.K,int q.S,int q.U,int q.N])],60⟩
section
variable (l:List Page) (i:Int) (k:Int) (p q:Page) (n:Nat) (hl:l.length≤1048576) (hi:0≤i) (hk0:0≤k) (hk:i.toNat+k.toNat≤l.length)
include hl hi hk0 hk
theorem ZmF(hn:n<k.toNat):(wr l (List.replicate k.toNat q) i.toNat n).getD (i.toNat+n) default=l.getD (i.toNat+n) default:=by
 refine ZbP ?_;rw[Za9 (by simpa using hk) qo,if_neg oq,if_neg oq]
theorem ZdC(hn:n<k.toNat)(hf:(l.getD (i.toNat+n) default).K=0):CP (rndF Tryz.f183 0) (Zdd l i k p q n).st .nrm (Zdd l i k p q (n+1)).st:=by
 have hlen:=Z4Y (ws:=l) (l:=List.replicate k.toNat q) (i:=i.toNat) (k:=n) (by simpa using hk) qo;have ha:=ZmF l i k q n hl hi hk0 hk hn;have hs:=ZaU (ws:=l) (l:=List.replicate k.toNat q) (i:=i.toNat) (k:=n) (by simpa using hk) qo default;have hd:(List.replicate k.toNat q).getD n default=q:=by simp[List.getD,hn]
 rw[hd]at hs;have ei:i+n=((i.toNat+n:Nat):Int):=by omega
 rw[← ha]at hf;rcases bb (((wr l (List.replicate k.toNat q) i.toNat n).getD (↑(i.toNat+n):Int).toNat default).K != 0)with hc0 | hc0<;>have hc0p:=hc0<;>simp only[bs]at hc0p
 ·contradiction
 ·exact sF [] (fO 8) (Fh 10051 [.els (List.map Page.dv ((wr l (List.replicate k.toNat q) i.toNat n).set (↑(i.toNat+n):Int).toNat q))] (Ftb 35 (decide ((↑n:Int)<k)) (Fg 41 (by rw[wrapI' oq oq];omega:IntKind.i64.wrap (i+(↑n:Int))=(↑(i.toNat+n):Int)) (Fmq 44 Page.dv (wr l (List.replicate k.toNat q) i.toNat n) (↑(i.toNat+n):Int) (Ff 45 hc0 (Fg 49 (by rw[wrapI' oq oq];omega:IntKind.i64.wrap (i+(↑n:Int))=(↑(i.toNat+n):Int)) (Fa (by(simp only[List.length_map];omega):0≤(↑(i.toNat+n):Int)∧(↑(i.toNat+n):Int).toNat<(List.map Page.dv (wr l (List.replicate k.toNat q) i.toNat n)).length) (Fa (by(simp only[List.length_map];omega):(↑(i.toNat+n):Int).toNat<(List.map Page.dv (wr l (List.replicate k.toNat q) i.toNat n)).length) (Fa (by rw[List.map_set];rfl:(List.map Page.dv (wr l (List.replicate k.toNat q) i.toNat n)).set (↑(i.toNat+n):Int).toNat [dint q.K,dint q.S,dint q.U,dint q.N]=List.map Page.dv ((wr l (List.replicate k.toNat q) i.toNat n).set (↑(i.toNat+n):Int).toNat q)) (Fx 37 n (Fr (84:Int) (Fa (by refine congrArg _ ?_;exact hs:List.map Page.dv ((wr l (List.replicate k.toNat q) i.toNat n).set (↑(i.toNat+n):Int).toNat q)=List.map Page.dv (wr l (List.replicate k.toNat q) i.toNat (n+1))) Fz))))))))))))
theorem Zor(hn:n<k.toNat)(hf:¬ (l.getD (i.toNat+n) default).K=0):CP (rndF Tryz.f183 0) (Zdd l i k p q n).st .ret (Tg.st ⟨tm 57 [(10,.d (.sl 0 [])),(11,int 20)],[],60⟩):=by
 have hlen:=Z4Y (ws:=l) (l:=List.replicate k.toNat q) (i:=i.toNat) (k:=n) (by simpa using hk) qo;have ha:=ZmF l i k q n hl hi hk0 hk hn;have ei:i+n=((i.toNat+n:Nat):Int):=by omega
 rw[← ha]at hf;rcases bb (((wr l (List.replicate k.toNat q) i.toNat n).getD (↑(i.toNat+n):Int).toNat default).K != 0)with hc0 | hc0<;>have hc0p:=hc0<;>simp only[bs]at hc0p
 ·exact sF [] [] (Ftb 35 (decide ((↑n:Int)<k)) (Fg 41 (by rw[wrapI' oq oq];omega:IntKind.i64.wrap (i+(↑n:Int))=(↑(i.toNat+n):Int)) (Fmq 44 Page.dv (wr l (List.replicate k.toNat q) i.toNat n) (↑(i.toNat+n):Int) (Ft 45 hc0 Fz))))
 ·contradiction
omit hl hi hk in
theorem Znf:CP (rndF Tryz.f183 0) (Zdd l i k p q k.toNat).st (.ext 0) (Tg.st ⟨tm 57 [(1,int i),(8,.pt 8008 0 0),(12,.ow 24032)],[(24032,.arr 84 4 ((wr l (List.replicate k.toNat q) i.toNat k.toNat).map Page.dv)),(8008,.box 84 [int p.K,int p.S,int p.U,int p.N])],60⟩):=by
 exact sF [] [] (Ffb 35 (decide ((↑k.toNat:Int)<k)) Fz)
theorem Zg5(hf:Z5S l i.toNat k.toNat=true):CP (blkF Tryz.f183 0) (Tg.st ⟨tm 57 [(1,int i),(2,int k),(8,.pt 8008 0 0),(9,.pt 8009 0 0),(10,.d (.sl 0 [])),(11,int 0),(12,.ow 24032),(13,int 0)],
 [(24032,.arr 84 4 (l.map Page.dv)),(8008,.box 84 [int p.K,int p.S,int p.U,int p.N]),(8009,.box 84 [int q.K,int q.S,int q.U,int q.N])],60⟩) .nrm
 (Tg.st ⟨tm 57 [(1,int i),(8,.pt 8008 0 0),(12,.ow 24032)],[(24032,.arr 84 4 ((wr l (List.replicate k.toNat q) i.toNat k.toNat).map Page.dv)),(8008,.box 84 [int p.K,int p.S,int p.U,int p.N])],60⟩):=by
 have:=Z08 (S:=fun n=>(Zdd l i k p q n).st) k.toNat kr (fun n hn=>ZdC l i k p q n hl hi hk0 hk hn (freeK_iff.1 hf n hn)) (Znf l i k p q hk0)
 simp only[Zdd,Z8U]at this;exact this
theorem ZeK(hf:Z5S l i.toNat k.toNat=false):CP (blkF Tryz.f183 0) (Tg.st ⟨tm 57 [(1,int i),(2,int k),(8,.pt 8008 0 0),(9,.pt 8009 0 0),(10,.d (.sl 0 [])),(11,int 0),(12,.ow 24032),(13,int 0)],
 [(24032,.arr 84 4 (l.map Page.dv)),(8008,.box 84 [int p.K,int p.S,int p.U,int p.N]),(8009,.box 84 [int q.K,int q.S,int q.U,int q.N])],60⟩) .ret
 (Tg.st ⟨tm 57 [(10,.d (.sl 0 [])),(11,int 20)],[],60⟩):=by
 obtain⟨n,x,h1,h2,h3⟩:=Z4H hf;have hn:n<k.toNat:=by have:=(List.getElem?_eq_some_iff.1 h1).1;simpa using this
 have hx:x=n:=by simp[List.getElem?_range,hn]at h1;exact h1.symm
 subst hx;have:=Z0z (S:=fun n=>(Zdd l i k p q n).st) x kr (fun m hm=>?_) (Zor l i k p q x hl hi hk0 hk hn (by simpa using h2))
 ·simp only[Zdd,Z8U]at this;exact this
 ·obtain⟨y,h4,h5⟩:=h3 m hm;have hy:y=m:=by simp[List.getElem?_range,show m<k.toNat from by omega]at h4;exact h4.symm
  subst hy;exact ZdC l i k p q y hl hi hk0 hk oq (by simpa using h5)
end
theorem Zki(l:List Page)(i:Int)(k:Int)(p q:Page)(hl:l.length≤1048576)(hk:1≤k∧k≤5):GP 183 [Z0n l,int i,int k,p.av,q.av] true (.tu [Z0n (Z2T l i k p q).1,int (Z2T l i k p q).2]) []:=by
  cases hf:Z5S l i.toNat k.toNat with
  | true =>
    have hw:i.toNat+k.toNat≤l.length→(wr l (List.replicate k.toNat q) i.toNat k.toNat).length=l.length:=fun h=>Z4Y (by simpa using h) pq;rcases bb (decide (i<0)||decide ((↑l.length:Int)≤i)||decide ((↑l.length:Int)-i<k))with hc0 | hc0<;>have hc0p:=hc0<;>simp only[bs]at hc0p
    · exact gF [] Tryz.func183 (fO 10) (FlG 19 (!decide (i<0)) Page.dv l (FlG 25 (!(decide (i<0)||decide ((↑l.length:Int)≤i))) Page.dv l (FiG 27 (!(decide (i<0)||decide ((↑l.length:Int)≤i))) ((↑l.length:Int)-i) (Ft 29 hc0 (Fnl (Fa (by(simp only[Z2T,hf,tookP] ;exact sj):[]=List.map Page.dv (Z2T l i k p q).fst) (Fa (by(simp only[Z2T,hf,tookP] ;exact sj):2=(Z2T l i k p q).snd) Fz)))))))
    · obtain⟨⟨hc0paa,hc0pab⟩,hc0pb⟩:=hc0p;rw[show Z2T l i k p q=((wr l (List.replicate k.toNat q) i.toNat k.toNat).set i.toNat p,(0:Int))from by simp[Z2T,hf,tookP, *]];exact gF [] Tryz.func183 [] (Fh 10055 [.els (List.map Page.dv ((wr l (List.replicate k.toNat q) i.toNat k.toNat).set i.toNat p))] (FlG 19 (!decide (i<0)) Page.dv l (FlG 25 (!(decide (i<0)||decide ((↑l.length:Int)≤i))) Page.dv l (FiG 27 (!(decide (i<0)||decide ((↑l.length:Int)≤i))) ((↑l.length:Int)-i) (Ff 29 hc0 (FAx 30 32 Page.dv l (by(simp[Z2T,hf,tookP, *];omega)) (Fu (@Zg5 l i k p q aa oq oq oq aa) (Fa (by(simp only[List.length_map];omega):0≤i∧i.toNat<(List.map Page.dv (wr l (List.replicate k.toNat q) i.toNat k.toNat)).length) (Fa (by(simp only[List.length_map];omega):i.toNat<(List.map Page.dv (wr l (List.replicate k.toNat q) i.toNat k.toNat)).length) (Fa (by rw[List.map_set];rfl:(List.map Page.dv (wr l (List.replicate k.toNat q) i.toNat k.toNat)).set i.toNat [dint p.K,dint p.S,dint p.U,dint p.N]=List.map Page.dv ((wr l (List.replicate k.toNat q) i.toNat k.toNat).set i.toNat p)) (Fa (by exact Z2i _:Z0J (List.map Page.dv ((wr l (List.replicate k.toNat q) i.toNat k.toNat).set i.toNat p))) Fz)))))))))))
  | false => rcases Bool.eq_false_or_eq_true (decide (i<(0:Int))||decide ((↑l.length:Int)≤i)||decide ((↑l.length:Int)-i<k))with hc0 | hc0
             · have hc0p:=hc0;simp only[bs]at hc0p;exact gF [] Tryz.func183 (fO 10) (FlG 19 (!decide (i<0)) Page.dv l (FlG 25 (!(decide (i<0)||decide ((↑l.length:Int)≤i))) Page.dv l (FiG 27 (!(decide (i<0)||decide ((↑l.length:Int)≤i))) ((↑l.length:Int)-i) (Ft 29 ‹(decide (i<0)||decide ((↑l.length:Int)≤i)||decide ((↑l.length:Int)-i<k))=true› (Fnl (Fa (by(simp only[Z2T,hf] ;exact sj):[]=List.map Page.dv (Z2T l i k p q).fst) (Fa (by(simp only[Z2T,hf] ;exact sj):2=(Z2T l i k p q).snd) Fz)))))))
             · have hc0p:=hc0;simp only[bs]at hc0p;obtain⟨⟨hc0paa,hc0pab⟩,hc0pb⟩:=hc0p;exact gF [] Tryz.func183 (fO 21) (FlG 19 (!decide (i<0)) Page.dv l (FlG 25 (!(decide (i<0)||decide ((↑l.length:Int)≤i))) Page.dv l (FiG 27 (!(decide (i<0)||decide ((↑l.length:Int)≤i))) ((↑l.length:Int)-i) (Ff 29 ‹(decide (i<0)||decide ((↑l.length:Int)≤i)||decide ((↑l.length:Int)-i<k))=false› (FAx 30 32 Page.dv l (by(simp[Z2T,hf, *];omega)) (Fu (@ZeK l i k p q aa oq oq oq aa) (Fnl (Fa (by(simp only[Z2T,hf] ;exact sj):[]=List.map Page.dv (Z2T l i k p q).fst) (Fa (by(simp only[Z2T,hf] ;exact sj):20=(Z2T l i k p q).snd) Fz)))))))))
theorem ZiL(l:List Page)(i:Int)(k:Int)(p q:Page)(hl:l.length≤1048576)(hk:1≤k∧k≤5)(hi:0≤i∧i+k≤l.length)(hf:Z5S l i.toNat k.toNat=true):GP 183 [Z0n l,int i,int k,p.av,q.av] true (.tu [.ow 0,int 0]) [.arr 84 4 ((tookP l i.toNat k.toNat p q).map Page.dv)]:=by
 have hw:(wr l (List.replicate k.toNat q) i.toNat k.toNat).length=l.length:=Z4Y qo pq;exact gF [24032] Tryz.func183 [] (Fh 10055 [.els (List.map Page.dv ((wr l (List.replicate k.toNat q) i.toNat k.toNat).set i.toNat p))] (FlG 19 (!decide (i<0)) Page.dv l (FlG 25 (!(decide (i<0)||decide ((↑l.length:Int)≤i))) Page.dv l (FiG 27 (!(decide (i<0)||decide ((↑l.length:Int)≤i))) ((↑l.length:Int)-i) (Ffb 29 (decide (i<0)||decide ((↑l.length:Int)≤i)||decide ((↑l.length:Int)-i<k)) (FAx 30 32 Page.dv l (by(simp[tookP, *];omega)) (Fu (@Zg5 l i k p q aa oq oq oq aa) (Fa (by(simp only[List.length_map];omega):0≤i∧i.toNat<(List.map Page.dv (wr l (List.replicate k.toNat q) i.toNat k.toNat)).length) (Fa (by(simp only[List.length_map];omega):i.toNat<(List.map Page.dv (wr l (List.replicate k.toNat q) i.toNat k.toNat)).length) (Fa (by rw[List.map_set];rfl:(List.map Page.dv (wr l (List.replicate k.toNat q) i.toNat k.toNat)).set i.toNat [dint p.K,dint p.S,dint p.U,dint p.N]=List.map Page.dv ((wr l (List.replicate k.toNat q) i.toNat k.toNat).set i.toNat p)) (Fa (by exact Z2i _:Z0J (List.map Page.dv ((wr l (List.replicate k.toNat q) i.toNat k.toNat).set i.toNat p))) Fz)))))))))))
def ZmN(l:List Page)(i sp:Int):List Page×Int:=if 0≤sp∧sp≤1 then Z2T l i 1 ⟨1,sp,0,0⟩ ⟨0,0,0,0⟩else([],1)
def Z38(c:Conf)(l:List Page)(i sp n:Int):List Page×Int:=if 1≤need c n∧0≤sp∧sp≤1 then Z2T l i (need c n) ⟨2,sp,n,0⟩ ⟨3,sp,0,0⟩else([],1)
theorem Zi3(c:Conf)(l:List Page)(i sp n:Int)(hl:l.length≤1048576):GP 188 [c.av,Z0n l,int i,int sp,int n] false (.tu [Z0n (Z38 c l i sp n).1,int (Z38 c l i sp n).2]) []:=by
 have hn:=Z3q c n;rcases bb (decide (need c n<1)||decide (sp<0)||decide (1<sp))with hc0 | hc0<;>have hc0p:=hc0<;>simp only[bs]at hc0p
 ·exact gF [] Tryz.func188 (fO 4) (Fc 15 (@Z4e c n) (Ft 25 hc0 (Fnl (Fa (by(simp only[Z38] ;exact sj):[]=List.map Page.dv (Z38 c l i sp n).fst) (Fa (by(simp only[Z38] ;exact sj):1=(Z38 c l i sp n).snd) Fz)))))
 ·obtain⟨⟨hc0paa,hc0pab⟩,hc0pb⟩:=hc0p;rw[show Z38 c l i sp n=Z2T l i (need c n) (Page.mk (2:Int) sp n (0:Int)) (Page.mk (3:Int) sp (0:Int) (0:Int))from by simp[Z38, *]];exact gF [] Tryz.func188 [] (Fc 15 (@Z4e c n) (Ff 25 hc0 (Fc 34 (@Zki l i (need c n) (Page.mk 2 sp n 0) (Page.mk 3 sp 0 0) aa oq) Fz)))
theorem Zao(l:List Page)(i sp:Int)(hl:l.length≤1048576)(hs:0≤sp∧sp≤1)(hi:0≤i∧i+1≤l.length)(hf:Z5S l i.toNat 1=true):GP 149 [Z0n l,int i,int sp] true (.tu [.ow 0,int 0]) [.arr 84 4 ((tookP l i.toNat 1 ⟨1,sp,0,0⟩ ⟨0,0,0,0⟩).map Page.dv)]:=by
 exact gF [25019] Tryz.func149 [] (Ffb 13 (decide (sp<0)||decide (1<sp)) (Fc 19 (@ZiL l i (1) (Page.mk 1 sp 0 0) (Page.mk 0 0 0 0) aa oq aa aa) (Fa (by exact Z2i _:Z0J (List.map Page.dv (tookP l i.toNat (Int.toNat 1) (Page.mk 1 sp 0 0) (Page.mk 0 0 0 0)))) Fz)))
theorem Z7j{α:Type}:∀ {a b:List α},a.length=b.length→a≠b→∃ (j:Nat) (x y:α),a[j]? = some x∧b[j]? = some y∧x≠y∧∀ i:Nat,i<j→∃ z:α,a[i]? = some z∧b[i]? = some z
 | [],[],_,h=>absurd rfl h
 | [],_::_,h,_=>by simp at h
 | _::_,[],h,_=>by simp at h
 | x::a,y::b,hl,h=>by
  by_cases hxy:x=y
  ·subst hxy;obtain⟨j,u,v,h1,h2,h3,h4⟩:=Z7j (a:=a) (b:=b) (by simpa using hl) (fun e=>h (by rw[e]));refine⟨j+1,u,v,by simpa using h1,by simpa using h2,h3,fun i hi=>?_⟩;cases i with
   | zero=>exact⟨x,rfl,rfl⟩
   | succ i =>
    obtain⟨z,h5,h6⟩:=h4 i oq;exact⟨z,by simpa using h5,by simpa using h6⟩
  ·exact⟨0,x,y,rfl,rfl,hxy,fun i hi=>by omega⟩
def Z21(a b:List Page)(i:Nat):Tg:=⟨tm 26 [(0,Z0n a),(1,Z0n b),(4,bool false),(5,int i)],[],40⟩
theorem Z5G(a b:List Page)(i:Nat)(p:Page)(hl:a.length≤281474976710656)(ha:a[i]? = some p)(hb:b[i]? = some p):CP (rndF Tryz.f145 0) (Z21 a b i).st .nrm (Z21 a b (i+1)).st:=by
 have hi:i<a.length:=(List.getElem?_eq_some_iff.1 ha).1;refine Z1e [(13,[.int a.length]),(14,[.br true]),(19,[.el p.dv]),(23,[.el p.dv]),(25,[.br false]),(16,[.int ((i+1:Nat):Int)])] [] (φ:=(↑(List.map Page.dv a).length:Int)=(↑a.length:Int)∧decide ((↑i:Int)<(↑a.length:Int))=true∧true=true∧((0:Int)≤(↑i:Int)∧(List.map Page.dv a)[(↑i:Int).toNat]? = some p.dv)∧((0:Int)≤(↑i:Int)∧(List.map Page.dv b)[(↑i:Int).toNat]? = some p.dv)∧(!(p.K==p.K&&(p.S==p.S&&(p.U==p.U&&p.N==p.N))))=false∧false=false∧IntKind.i64.wrap ((↑i:Int)+(1:Int))=(↑(i+(1:Nat)):Int)) ?_ kr kr kr;exact⟨by rw[List.length_map],decide_eq_true oq,rfl,⟨by omega,Z16 ha⟩,⟨by omega,Z16 hb⟩,by simp,rfl,Z14 oq oq⟩
theorem ZcR(a b:List Page)(i:Nat)(p q:Page)(ha:a[i]? = some p)(hb:b[i]? = some q)(hne:p≠q):CP (rndF Tryz.f145 0) (Z21 a b i).st .ret (Tg.st ⟨tm 26 [(4,bool false)],[],60⟩):=by
 have hi:i<a.length:=(List.getElem?_eq_some_iff.1 ha).1;refine Z1e [(13,[.int a.length]),(14,[.br true]),(19,[.el p.dv]),(23,[.el q.dv]),(25,[.br true])] [] (φ:=(↑(List.map Page.dv a).length:Int)=(↑a.length:Int)∧decide ((↑i:Int)<(↑a.length:Int))=true∧true=true∧((0:Int)≤(↑i:Int)∧(List.map Page.dv a)[(↑i:Int).toNat]? = some p.dv)∧((0:Int)≤(↑i:Int)∧(List.map Page.dv b)[(↑i:Int).toNat]? = some q.dv)∧(!(p.K==q.K&&(p.S==q.S&&(p.U==q.U&&p.N==q.N))))=true∧true=true) ?_ kr kr kr;refine⟨by rw[List.length_map],decide_eq_true oq,rfl,⟨by omega,Z16 ha⟩,⟨by omega,Z16 hb⟩, ?_,rfl⟩;cases p;cases q;simp at hne;simp;omega
theorem Zck(a b:List Page):CP (rndF Tryz.f145 0) (Z21 a b a.length).st (.ext 0) (Tg.st ⟨tm 26 [],[],60⟩):=by
 refine Z1e [(13,[.int a.length]),(14,[.br false])] [] (φ:=(↑(List.map Page.dv a).length:Int)=(↑a.length:Int)∧decide ((↑a.length:Int)<(↑a.length:Int))=false∧false=false) ?_ kr kr kr;exact⟨by rw[List.length_map],decide_eq_false oq,rfl⟩
theorem Z4L(a b:List Page)(hl:a.length≤281474976710656):GP 145 [Z0n a,Z0n b] true (bool (decide (a=b))) []:=by
 by_cases hlen:a.length=b.length
 ·by_cases he:a=b
  ·subst he;rw[decide_eq_true rfl];refine Z0f [(7,[.int a.length]),(9,[.int a.length]),(10,[.br false])] [(0,Z21 a a 0,.nrm,⟨tm 26 [],[],60⟩)] [] dd Tryz.func145 (φ:=(↑(List.map Page.dv a).length:Int)=(↑a.length:Int)∧(↑(List.map Page.dv a).length:Int)=(↑a.length:Int)∧((↑a.length:Int) != (↑a.length:Int))=false∧false=false∧CP (blkF Tryz.f145 (0:Nat)) (Z21 a a (0:Nat)).st Ex.nrm (Tg.mk (tm (26:Nat) []) [] (60:Nat)).st) ?_ kr kr;exact⟨by rw[List.length_map],by rw[List.length_map],by simp,rfl,Z08 (S:=fun i=>(Z21 a a i).st) a.length kr (fun i hi=>Z5G a a i a[i] hl (List.getElem?_eq_getElem hi) (List.getElem?_eq_getElem hi)) (Zck a a)⟩
  ·rw[decide_eq_false he];refine Z0f [(7,[.int a.length]),(9,[.int b.length]),(10,[.br false])] [(0,Z21 a b 0,.ret,⟨tm 26 [(4,bool false)],[],60⟩)] [] dd Tryz.func145 (φ:=(↑(List.map Page.dv a).length:Int)=(↑a.length:Int)∧(↑(List.map Page.dv b).length:Int)=(↑b.length:Int)∧((↑a.length:Int) != (↑b.length:Int))=false∧false=false∧CP (blkF Tryz.f145 (0:Nat)) (Z21 a b (0:Nat)).st Ex.ret (Tg.mk (tm (26:Nat) [((4:Nat),Sx.bool false)]) [] (60:Nat)).st) ?_ kr kr;obtain⟨j,x,y,h1,h2,h3,h4⟩:=Z7j hlen he;refine⟨by rw[List.length_map],by rw[List.length_map],by simp[hlen],rfl,Z0z (S:=fun i=>(Z21 a b i).st) j kr (fun i hi=>?_) (ZcR a b j x y h1 h2 h3)⟩;obtain⟨z,h5,h6⟩:=h4 i hi;exact Z5G a b i z hl h5 h6
 ·have he:a≠b:=fun h=>hlen (by rw[h]);rw[decide_eq_false he];refine Z0f [(7,[.int a.length]),(9,[.int b.length]),(10,[.br true])] [] [] dd Tryz.func145 (φ:=(↑(List.map Page.dv a).length:Int)=(↑a.length:Int)∧(↑(List.map Page.dv b).length:Int)=(↑b.length:Int)∧((↑a.length:Int) != (↑b.length:Int))=true∧true=true) ?_ kr kr;exact⟨by rw[List.length_map],by rw[List.length_map],by simp;omega,rfl⟩
def Z9V(a b:Heap)(i:Nat):Tg:=⟨tm 60 [(2,.pt 8002 0 0),(3,.pt 8003 0 0),(4,bool false),(5,int i)],[(8002,.box 28 a.cells),(8003,.box 28 b.cells)],40⟩
theorem Z85{l:List Int}{i:Nat}{p:Int}(h:l[i]? = some p):(l.map wdv)[((i:Nat):Int).toNat]? = some [du64 p]:=by simp[h,wdv]
theorem Zdi(a b:Heap)(i:Nat)(p:Int)(hl:a.W.length≤281474976710656)(ha:a.W[i]? = some p)(hb:b.W[i]? = some p):CP (rndF Tryz.f88 0) (Z9V a b i).st .nrm (Z9V a b (i+1)).st:=by
 have hi:i<a.W.length:=(List.getElem?_eq_some_iff.1 ha).1;refine Z1e [(45,[.int a.W.length]),(46,[.br true]),(52,[.el [du64 p]]),(57,[.el [du64 p]]),(59,[.br false]),(48,[.int ((i+1:Nat):Int)])] [] (φ:=(↑(List.map wdv a.W).length:Int)=(↑a.W.length:Int)∧decide ((↑i:Int)<(↑a.W.length:Int))=true∧true=true∧((0:Int)≤(↑i:Int)∧(List.map wdv a.W)[(↑i:Int).toNat]? = some [du64 p])∧((0:Int)≤(↑i:Int)∧(List.map wdv b.W)[(↑i:Int).toNat]? = some [du64 p])∧(p != p)=false∧false=false∧IntKind.i64.wrap ((↑i:Int)+(1:Int))=(↑(i+(1:Nat)):Int)) ?_ kr kr kr;exact⟨by rw[List.length_map],decide_eq_true oq,rfl,⟨by omega,Z85 ha⟩,⟨by omega,Z85 hb⟩,by simp,rfl,Z14 oq oq⟩
theorem Zoc(a b:Heap)(i:Nat)(p q:Int)(ha:a.W[i]? = some p)(hb:b.W[i]? = some q)(hne:p≠q):CP (rndF Tryz.f88 0) (Z9V a b i).st .ret (Tg.st ⟨tm 60 [(4,bool false)],[],60⟩):=by
 have hi:i<a.W.length:=(List.getElem?_eq_some_iff.1 ha).1;refine Z1e [(45,[.int a.W.length]),(46,[.br true]),(52,[.el [du64 p]]),(57,[.el [du64 q]]),(59,[.br true])] [] (φ:=(↑(List.map wdv a.W).length:Int)=(↑a.W.length:Int)∧decide ((↑i:Int)<(↑a.W.length:Int))=true∧true=true∧((0:Int)≤(↑i:Int)∧(List.map wdv a.W)[(↑i:Int).toNat]? = some [du64 p])∧((0:Int)≤(↑i:Int)∧(List.map wdv b.W)[(↑i:Int).toNat]? = some [du64 q])∧(p != q)=true∧true=true) ?_ kr kr kr;exact⟨by rw[List.length_map],decide_eq_true oq,rfl,⟨by omega,Z85 ha⟩,⟨by omega,Z85 hb⟩,by simp[hne],rfl⟩
theorem ZmT(a b:Heap):CP (rndF Tryz.f88 0) (Z9V a b a.W.length).st (.ext 0) (Tg.st ⟨tm 60 [],[],60⟩):=by
 refine Z1e [(45,[.int a.W.length]),(46,[.br false])] [] (φ:=(↑(List.map wdv a.W).length:Int)=(↑a.W.length:Int)∧decide ((↑a.W.length:Int)<(↑a.W.length:Int))=false∧false=false) ?_ kr kr kr;exact⟨by rw[List.length_map],decide_eq_false oq,rfl⟩
theorem Zo9(a b:Heap)(hw:a.W.length≤281474976710656)(hl:a.P.length≤281474976710656):GP 88 [a.av,b.av] true (bool (decide (a=b))) []:=by
 by_cases h1:a.C=b.C∧a.S=b.S∧a.B=b.B∧a.P=b.P∧a.W.length=b.W.length
 ·have hc:(!(a.C.pw==b.C.pw&&a.C.pg==b.C.pg)||a.S != b.S||a.B != b.B||!decide (a.P=b.P)||(a.W.length:Int) != (b.W.length:Int))=false:=by
   obtain⟨q1,q2,q3,q4,q5⟩:=h1;simp[q1,q2,q3,q4,q5]
  by_cases he:a.W=b.W
  ·have e:a=b:=by
    cases a;cases b;simp only at h1 he;obtain⟨q1,q2,q3,q4,q5⟩:=h1;simp[q1,q2,q3,q4,he]
   rw[decide_eq_true e];refine Z0f [(30,[.call true (bool (decide (a.P=b.P))) []]),(36,[.int a.W.length]),(39,[.int b.W.length]),(41,[.br false])] [(0,Z9V a b 0,.nrm,⟨tm 60 [],[],60⟩)] [] dd Tryz.func88 (φ:=((!(!(a.C.pw==b.C.pw&&a.C.pg==b.C.pg)||a.S != b.S||a.B != b.B))=true→GP 145 [AV.d (DV.sl (4:Nat) (List.map Page.dv a.P)),AV.d (DV.sl (4:Nat) (List.map Page.dv b.P))] true (Sx.bool (decide (a.P=b.P))) [])∧((!(!(a.C.pw==b.C.pw&&a.C.pg==b.C.pg)||a.S != b.S||a.B != b.B||!decide (a.P=b.P)))=true→(↑(List.map wdv a.W).length:Int)=(↑a.W.length:Int))∧((!(!(a.C.pw==b.C.pw&&a.C.pg==b.C.pg)||a.S != b.S||a.B != b.B||!decide (a.P=b.P)))=true→(↑(List.map wdv b.W).length:Int)=(↑b.W.length:Int))∧(!(a.C.pw==b.C.pw&&a.C.pg==b.C.pg)||a.S != b.S||a.B != b.B||!decide (a.P=b.P)||(↑a.W.length:Int) != (↑b.W.length:Int))=false∧false=false∧CP (blkF Tryz.f88 (0:Nat)) (Z9V a b (0:Nat)).st Ex.nrm (Tg.mk (tm (60:Nat) []) [] (60:Nat)).st) ?_ kr kr;exact⟨fun _=>Z4L a.P b.P hl,fun _=>by rw[List.length_map],fun _=>by rw[List.length_map],hc,rfl,Z08 (S:=fun i=>(Z9V a b i).st) a.W.length kr (fun i hi=>Zdi a b i a.W[i] hw (List.getElem?_eq_getElem hi) (by rw[← he];exact List.getElem?_eq_getElem hi)) (ZmT a b)⟩
  ·have e:a≠b:=fun h=>he (by rw[h]);rw[decide_eq_false e];refine Z0f [(30,[.call true (bool (decide (a.P=b.P))) []]),(36,[.int a.W.length]),(39,[.int b.W.length]),(41,[.br false])] [(0,Z9V a b 0,.ret,⟨tm 60 [(4,bool false)],[],60⟩)] [] dd Tryz.func88 (φ:=((!(!(a.C.pw==b.C.pw&&a.C.pg==b.C.pg)||a.S != b.S||a.B != b.B))=true→GP 145 [AV.d (DV.sl (4:Nat) (List.map Page.dv a.P)),AV.d (DV.sl (4:Nat) (List.map Page.dv b.P))] true (Sx.bool (decide (a.P=b.P))) [])∧((!(!(a.C.pw==b.C.pw&&a.C.pg==b.C.pg)||a.S != b.S||a.B != b.B||!decide (a.P=b.P)))=true→(↑(List.map wdv a.W).length:Int)=(↑a.W.length:Int))∧((!(!(a.C.pw==b.C.pw&&a.C.pg==b.C.pg)||a.S != b.S||a.B != b.B||!decide (a.P=b.P)))=true→(↑(List.map wdv b.W).length:Int)=(↑b.W.length:Int))∧(!(a.C.pw==b.C.pw&&a.C.pg==b.C.pg)||a.S != b.S||a.B != b.B||!decide (a.P=b.P)||(↑a.W.length:Int) != (↑b.W.length:Int))=false∧false=false∧CP (blkF Tryz.f88 (0:Nat)) (Z9V a b (0:Nat)).st Ex.ret (Tg.mk (tm (60:Nat) [((4:Nat),Sx.bool false)]) [] (60:Nat)).st) ?_ kr kr;obtain⟨j,x,y,k1,k2,k3,k4⟩:=Z7j h1.2.2.2.2 he;refine⟨fun _=>Z4L a.P b.P hl,fun _=>by rw[List.length_map],fun _=>by rw[List.length_map],hc,rfl,Z0z (S:=fun i=>(Z9V a b i).st) j kr (fun i hi=>?_) (Zoc a b j x y k1 k2 k3)⟩;obtain⟨z,k5,k6⟩:=k4 i hi;exact Zdi a b i z hw k5 k6
 ·have hc:(!(a.C.pw==b.C.pw&&a.C.pg==b.C.pg)||a.S != b.S||a.B != b.B||!decide (a.P=b.P)||(a.W.length:Int) != (b.W.length:Int))=true:=by
   cases hh:(!(a.C.pw==b.C.pw&&a.C.pg==b.C.pg)||a.S != b.S||a.B != b.B||!decide (a.P=b.P)||(a.W.length:Int) != (b.W.length:Int))with
   | true=>rfl
   | false =>
    exfalso;simp at hh;obtain⟨⟨⟨⟨q1,q2⟩,q3⟩,q4⟩,q5⟩:=hh;refine h1 ⟨?_,q2,q3,q4,by omega⟩;cases hca:a.C;cases hcb:b.C;rw[hca,hcb]at q1;simp at q1;simp[q1]
  have e:a≠b:=fun h=>h1 (by rw[h];simp);rw[decide_eq_false e];refine Z0f [(30,[.call true (bool (decide (a.P=b.P))) []]),(36,[.int a.W.length]),(39,[.int b.W.length]),(41,[.br true])] [] [] dd Tryz.func88 (φ:=((!(!(a.C.pw==b.C.pw&&a.C.pg==b.C.pg)||a.S != b.S||a.B != b.B))=true→GP 145 [AV.d (DV.sl (4:Nat) (List.map Page.dv a.P)),AV.d (DV.sl (4:Nat) (List.map Page.dv b.P))] true (Sx.bool (decide (a.P=b.P))) [])∧((!(!(a.C.pw==b.C.pw&&a.C.pg==b.C.pg)||a.S != b.S||a.B != b.B||!decide (a.P=b.P)))=true→(↑(List.map wdv a.W).length:Int)=(↑a.W.length:Int))∧((!(!(a.C.pw==b.C.pw&&a.C.pg==b.C.pg)||a.S != b.S||a.B != b.B||!decide (a.P=b.P)))=true→(↑(List.map wdv b.W).length:Int)=(↑b.W.length:Int))∧(!(a.C.pw==b.C.pw&&a.C.pg==b.C.pg)||a.S != b.S||a.B != b.B||!decide (a.P=b.P)||(↑a.W.length:Int) != (↑b.W.length:Int))=true∧true=true) ?_ kr kr;exact⟨fun _=>Z4L a.P b.P hl,fun _=>by rw[List.length_map],fun _=>by rw[List.length_map],hc,rfl⟩
structure Run where
 frm:Int
 len:Int
 deriving DecidableEq,Inhabited
def Run.dv(r:Run):List DV:=[dint r.frm,dint r.len]
def Z6P(l:List Run):AV:=.d (.sl 2 (l.map Run.dv))
def Z0k(out:List Run):Run:=out.getLast?.getD ⟨0,0⟩
def Z3m(out:List Run)(i:Int)(p:Page):List Run :=
 if p.K=0 then(if out≠[]∧(Z0k out).frm+(Z0k out).len=i then out.dropLast++[⟨(Z0k out).frm,(Z0k out).len+1⟩]else out++[⟨i,1⟩])else out
def Z04(l:List Page):Nat→List Run
 | 0=>[]
 | i+1=>Z3m (Z04 l i) i (Z1i l i)
theorem Z22{out:List Run}(h:out≠[]):out[out.length-1]? = some (Z0k out):=by
 rw[← List.getLast?_eq_getElem?,Z0k,List.getLast?_eq_some_getLast h];rfl
theorem Z2w(l:List Page):∀ i,(Z04 l i).length≤i∧∀ r∈Z04 l i,0≤r.frm∧1≤r.len∧r.frm+r.len≤i
 | 0=>⟨by simp[Z04],by simp[Z04]⟩
 | i+1=>by
  obtain⟨h1,h2⟩:=Z2w l i;simp only[Z04,Z3m];split
  ·split
   ·rename_i hc;have hl:=h2 _ (List.mem_of_getElem? (Z22 hc.1));have hp:0<(Z04 l i).length:=List.length_pos_iff.2 hc.1;refine⟨by simp;omega,fun r hr=>?_⟩;rcases List.mem_append.1 hr with hr | hr
    ·have:=h2 r (List.dropLast_subset _ hr);omega
    ·simp at hr;subst hr;simp only;omega
   ·refine⟨by simp;omega,fun r hr=>?_⟩;rcases List.mem_append.1 hr with hr | hr
    ·have:=h2 r hr;omega
    ·simp at hr;subst hr;simp only;omega
  ·refine⟨by omega,fun r hr=>?_⟩;have:=h2 r hr;omega
theorem Zf5{out:List Run}{i:Nat}{r:Run}(h:out[i]? = some r):(out.map Run.dv)[i]? = some r.dv:=by simp[h]
theorem Zfi{out:List Run}(h:out≠[])(r:Run):(out.map Run.dv).set (out.length-1) r.dv=(out.dropLast++[r]).map Run.dv:=by
 obtain⟨a,b,rfl⟩:∃ a b,out=a++[b]:=⟨out.dropLast,out.getLast h,(List.dropLast_concat_getLast h).symm⟩
 simp
def Z6B(l:List Page)(i:Nat):Tg:=⟨tm 54 [(3,.ow 16003),(7,Z0n l),(8,int l.length),(9,int i)],[(16003,.arr 232 2 ((Z04 l i).map Run.dv))],20⟩
theorem Z9M(l:List Page)(hl:l.length≤1048576)(i:Nat)(p:Page)(hp:l[i]? = some p)(hk:p.K≠0):CP (rndF Tryz.f196 0) (Z6B l i).st .nrm (Z6B l (i+1)).st:=by
 have hi:i<l.length:=(List.getElem?_eq_some_iff.1 hp).1;obtain⟨o1,o2⟩:=Z2w l i;have e:Z6B l (i+1)=⟨tm 54 [(3,.ow 16003),(7,Z0n l),(8,int l.length),(9,int ((i+1:Nat):Int))],[(16003,.arr 232 2 ((Z04 l i).map Run.dv))],20⟩:=by
  have hpa:Z1i l i=p:=by simp[Z1i,hp]
  rw[Z6B,Z04,Z3m,hpa,if_neg hk]
 rw[e];refine Z4h [(10,[.br true]),(12,[.el p.dv]),(15,[.int (Z04 l i).length]),(16,[.int ((Z04 l i).length-1:Int)]),(25,[.br true]),(52,[.int ((i+1:Nat):Int)])] [] [] (φ:=decide ((↑i:Int)<(↑l.length:Int))=true∧true=true∧((0:Int)≤(↑i:Int)∧(List.map Page.dv l)[(↑i:Int).toNat]? = some p.dv)∧(↑(List.map Run.dv (Z04 l i)).length:Int)=(↑(Z04 l i).length:Int)∧IntKind.i64.wrap ((↑(Z04 l i).length:Int)-(1:Int))=(↑(Z04 l i).length:Int)-(1:Int)∧(p.K != (0:Int))=true∧IntKind.i64.wrap ((↑i:Int)+(1:Int))=(↑(i+(1:Nat)):Int)) ?_ kr kr kr;exact⟨decide_eq_true oq,rfl,⟨by omega,Z16 hp⟩,by rw[List.length_map],Z14 oq oq,by simp[hk],Z14 oq oq⟩
theorem Z9S(l:List Page)(hl:l.length≤1048576)(i:Nat)(p:Page)(hp:l[i]? = some p)(hk:p.K=0)(ho:Z04 l i≠[])(hm:(Z0k (Z04 l i)).frm+(Z0k (Z04 l i)).len=i):CP (rndF Tryz.f196 0) (Z6B l i).st .nrm (Z6B l (i+1)).st:=by
 have hi:i<l.length:=(List.getElem?_eq_some_iff.1 hp).1;obtain⟨o1,o2⟩:=Z2w l i;have hlast:=o2 _ (List.mem_of_getElem? (Z22 ho));have hpos:0<(Z04 l i).length:=List.length_pos_iff.2 ho;have e:Z04 l (i+1)=(Z04 l i).dropLast++[⟨(Z0k (Z04 l i)).frm,(Z0k (Z04 l i)).len+1⟩]:=by
  have hpa:Z1i l i=p:=by simp[Z1i,hp]
  rw[Z04,Z3m,hpa,if_pos hk,if_pos ⟨ho,hm⟩]
 refine Z4h [(10,[.br true]),(12,[.el p.dv]),(15,[.int (Z04 l i).length]),(16,[.int ((Z04 l i).length-1:Int)]),(25,[.br false]),(34,[.el (Z0k (Z04 l i)).dv]),(39,[.el (Z0k (Z04 l i)).dv]),(40,[.int i]),(43,[.br true]),(48,[.el (Z0k (Z04 l i)).dv]),(49,[.int ((Z0k (Z04 l i)).len+1)]),(10051,[.el (Z0k (Z04 l i)).dv,.els ((Z04 l (i+1)).map Run.dv)]),(52,[.int ((i+1:Nat):Int)])] [] [] (φ:=decide ((↑i:Int)<(↑l.length:Int))=true∧true=true∧((0:Int)≤(↑i:Int)∧(List.map Page.dv l)[(↑i:Int).toNat]? = some p.dv)∧(↑(List.map Run.dv (Z04 l i)).length:Int)=(↑(Z04 l i).length:Int)∧IntKind.i64.wrap ((↑(Z04 l i).length:Int)-(1:Int))=(↑(Z04 l i).length:Int)-(1:Int)∧(p.K != (0:Int))=false∧(decide ((0:Int)≤(↑(Z04 l i).length:Int)-(1:Int))=true→(0:Int)≤(↑(Z04 l i).length:Int)-(1:Int)∧((↑(Z04 l i).length:Int)-(1:Int)).toNat<(List.map Run.dv (Z04 l i)).length)∧(decide ((0:Int)≤(↑(Z04 l i).length:Int)-(1:Int))=true→(List.map Run.dv (Z04 l i))[((↑(Z04 l i).length:Int)-(1:Int)).toNat]? = some (Z0k (Z04 l i)).dv)∧(decide ((0:Int)≤(↑(Z04 l i).length:Int)-(1:Int))=true→(0:Int)≤(↑(Z04 l i).length:Int)-(1:Int)∧((↑(Z04 l i).length:Int)-(1:Int)).toNat<(List.map Run.dv (Z04 l i)).length)∧(decide ((0:Int)≤(↑(Z04 l i).length:Int)-(1:Int))=true→(List.map Run.dv (Z04 l i))[((↑(Z04 l i).length:Int)-(1:Int)).toNat]? = some (Z0k (Z04 l i)).dv)∧(decide ((0:Int)≤(↑(Z04 l i).length:Int)-(1:Int))=true→IntKind.i64.wrap ((Z0k (Z04 l i)).frm+(Z0k (Z04 l i)).len)=(↑i:Int))∧(decide ((0:Int)≤(↑(Z04 l i).length:Int)-(1:Int))&&(↑i:Int)==(↑i:Int))=true∧((0:Int)≤(↑(Z04 l i).length:Int)-(1:Int)∧((↑(Z04 l i).length:Int)-(1:Int)).toNat<(List.map Run.dv (Z04 l i)).length)∧(List.map Run.dv (Z04 l i))[((↑(Z04 l i).length:Int)-(1:Int)).toNat]? = some (Z0k (Z04 l i)).dv∧IntKind.i64.wrap ((Z0k (Z04 l i)).len+(1:Int))=(Z0k (Z04 l i)).len+(1:Int)∧((0:Int)≤(↑(Z04 l i).length:Int)-(1:Int)∧((↑(Z04 l i).length:Int)-(1:Int)).toNat<(List.map Run.dv (Z04 l i)).length)∧(List.map Run.dv (Z04 l i))[((↑(Z04 l i).length:Int)-(1:Int)).toNat]? = some (Z0k (Z04 l i)).dv∧(List.map Run.dv (Z04 l i)).set ((↑(Z04 l i).length:Int)-(1:Int)).toNat (Z1t (Z0k (Z04 l i)).dv ((0:Nat) + #[Field.mk "From" (3:Nat) (0:Nat) false "" "" (0:Nat),Field.mk "Len" (3:Nat) (1:Nat) false "" "" (8:Nat)][(1:Nat)].3) [dint ((Z0k (Z04 l i)).len+(1:Int))])=List.map Run.dv (Z04 l (i+(1:Nat)))∧IntKind.i64.wrap ((↑i:Int)+(1:Int))=(↑(i+(1:Nat)):Int)) ?_ kr kr kr;have hidx:0≤((Z04 l i).length:Int)-1∧(((Z04 l i).length:Int)-1).toNat<(List.map Run.dv (Z04 l i)).length:=by rw[List.length_map];omega
 have hat:(List.map Run.dv (Z04 l i))[(((Z04 l i).length:Int)-1).toNat]? = some (Z0k (Z04 l i)).dv:=by
  rw[show(((Z04 l i).length:Int)-1).toNat=(Z04 l i).length-1 from by omega];exact Zf5 (Z22 ho)
 refine⟨decide_eq_true oq,rfl,⟨by omega,Z16 hp⟩,by rw[List.length_map],Z14 oq oq,by simp[hk],fun _=>hidx,fun _=>hat,fun _=>hidx,fun _=>hat,fun _=>by rw[hm];exact Z14 oq oq,by simp;omega,hidx,hat,Z14 oq oq,hidx,hat, ?_,Z14 oq oq⟩;rw[e,← Zfi ho,show(((Z04 l i).length:Int)-1).toNat=(Z04 l i).length-1 from by omega];rfl
theorem Zbv(l:List Page)(hl:l.length≤1048576)(i:Nat)(p:Page)(hp:l[i]? = some p)(hk:p.K=0)(ho:¬ (Z04 l i≠[]∧(Z0k (Z04 l i)).frm+(Z0k (Z04 l i)).len=i)):CP (rndF Tryz.f196 0) (Z6B l i).st .nrm (Z6B l (i+1)).st:=by
 have hi:i<l.length:=(List.getElem?_eq_some_iff.1 hp).1;obtain⟨o1,o2⟩:=Z2w l i;have e:Z04 l (i+1)=Z04 l i++[⟨i,1⟩]:=by
  have hpa:Z1i l i=p:=by simp[Z1i,hp]
  rw[Z04,Z3m,hpa,if_pos hk,if_neg ho]
 refine Z4h [(10,[.br true]),(12,[.el p.dv]),(15,[.int (Z04 l i).length]),(16,[.int ((Z04 l i).length-1:Int)]),(25,[.br false]),(34,[.el (Z0k (Z04 l i)).dv]),(39,[.el (Z0k (Z04 l i)).dv]),(43,[.br false]),(21,[.els ((Z04 l (i+1)).map Run.dv)]),(52,[.int ((i+1:Nat):Int)])] [] [(200021,16003)] (φ:=decide ((↑i:Int)<(↑l.length:Int))=true∧true=true∧((0:Int)≤(↑i:Int)∧(List.map Page.dv l)[(↑i:Int).toNat]? = some p.dv)∧(↑(List.map Run.dv (Z04 l i)).length:Int)=(↑(Z04 l i).length:Int)∧IntKind.i64.wrap ((↑(Z04 l i).length:Int)-(1:Int))=(↑(Z04 l i).length:Int)-(1:Int)∧(p.K != (0:Int))=false∧(decide ((0:Int)≤(↑(Z04 l i).length:Int)-(1:Int))=true→(0:Int)≤(↑(Z04 l i).length:Int)-(1:Int)∧((↑(Z04 l i).length:Int)-(1:Int)).toNat<(List.map Run.dv (Z04 l i)).length)∧(decide ((0:Int)≤(↑(Z04 l i).length:Int)-(1:Int))=true→(List.map Run.dv (Z04 l i))[((↑(Z04 l i).length:Int)-(1:Int)).toNat]? = some (Z0k (Z04 l i)).dv)∧(decide ((0:Int)≤(↑(Z04 l i).length:Int)-(1:Int))=true→(0:Int)≤(↑(Z04 l i).length:Int)-(1:Int)∧((↑(Z04 l i).length:Int)-(1:Int)).toNat<(List.map Run.dv (Z04 l i)).length)∧(decide ((0:Int)≤(↑(Z04 l i).length:Int)-(1:Int))=true→(List.map Run.dv (Z04 l i))[((↑(Z04 l i).length:Int)-(1:Int)).toNat]? = some (Z0k (Z04 l i)).dv)∧(decide ((0:Int)≤(↑(Z04 l i).length:Int)-(1:Int))&&IntKind.i64.wrap ((Z0k (Z04 l i)).frm+(Z0k (Z04 l i)).len)==(↑i:Int))=false∧(List.map Run.dv (Z04 l i)).length+((List.replicate (1:Nat) [dint (0:Int),dint (0:Int)]).set (0:Nat) [dint (↑i:Int),dint (1:Int)]).length≤(2:Nat)^(30:Nat)∧List.map Run.dv (Z04 l i)++(List.replicate (1:Nat) [dint (0:Int),dint (0:Int)]).set (0:Nat) [dint (↑i:Int),dint (1:Int)]=List.map Run.dv (Z04 l (i+(1:Nat)))∧IntKind.i64.wrap ((↑i:Int)+(1:Int))=(↑(i+(1:Nat)):Int)) ?_ kr kr kr;have hne:decide (0≤((Z04 l i).length:Int)-1)=true→Z04 l i≠[]:=by
  intro hd h0;rw[h0]at hd;simp at hd
 have hidx:decide (0≤((Z04 l i).length:Int)-1)=true→0≤((Z04 l i).length:Int)-1∧(((Z04 l i).length:Int)-1).toNat<(List.map Run.dv (Z04 l i)).length:=by
  intro hd;have:=of_decide_eq_true hd;rw[List.length_map];omega
 have hat:decide (0≤((Z04 l i).length:Int)-1)=true→(List.map Run.dv (Z04 l i))[(((Z04 l i).length:Int)-1).toNat]? = some (Z0k (Z04 l i)).dv:=by
  intro hd;rw[show(((Z04 l i).length:Int)-1).toNat=(Z04 l i).length-1 from by omega];exact Zf5 (Z22 (hne hd))
 refine⟨decide_eq_true oq,rfl,⟨by omega,Z16 hp⟩,by rw[List.length_map],Z14 oq oq,by simp[hk],hidx,hat,hidx,hat, ?_,by rw[List.length_map];simp;omega,by rw[e];simp[Run.dv],Z14 oq oq⟩;cases hd:decide (0≤((Z04 l i).length:Int)-1)with
 | false=>simp
 | true =>
  have h1:=hne hd;have hlast:=o2 _ (List.mem_of_getElem? (Z22 h1));rw[Z14 oq oq];simp;intro hh;exact ho ⟨h1,hh⟩
theorem Zk0(l:List Page)(hl:l.length≤1048576)(i:Nat)(hi:i<l.length):CP (rndF Tryz.f196 0) (Z6B l i).st .nrm (Z6B l (i+1)).st:=by
 have hp:=List.getElem?_eq_getElem hi;by_cases hk:l[i].K=0
 ·by_cases ho:Z04 l i≠[]∧(Z0k (Z04 l i)).frm+(Z0k (Z04 l i)).len=i
  ·exact Z9S l hl i _ hp hk ho.1 ho.2
  ·exact Zbv l hl i _ hp hk ho
 ·exact Z9M l hl i _ hp hk
theorem Znz(l:List Page):CP (rndF Tryz.f196 0) (Z6B l l.length).st (.ext 0) (Tg.st ⟨tm 54 [(3,.ow 16003)],[(16003,.arr 232 2 ((Z04 l l.length).map Run.dv))],60⟩):=by
 refine Z1e [(10,[.br false])] [] (φ:=decide ((↑l.length:Int)<(↑l.length:Int))=false∧false=false) ?_ kr kr kr;exact⟨decide_eq_false oq,rfl⟩
def runs(l:List Page):List Run:=Z04 l l.length
theorem ZfW(l:List Page)(hl:l.length≤1048576):GP 196 [Z0n l] false (Z6P (runs l)) []:=by
 refine Z0f [(3,[.own]),(8,[.int l.length])] [(0,Z6B l 0,.nrm,⟨tm 54 [(3,.ow 16003)],[(16003,.arr 232 2 ((Z04 l l.length).map Run.dv))],60⟩)] [] dd Tryz.func196 (φ:=(↑(List.map Page.dv l).length:Int)=(↑l.length:Int)∧CP (blkF Tryz.f196 (0:Nat)) (Z6B l (0:Nat)).st Ex.nrm (Tg.mk (tm (54:Nat) [((3:Nat),AV.ow (16003:Nat))]) [((16003:Nat),Blk.arr 232 (2:Nat) (List.map Run.dv (Z04 l l.length)))] (60:Nat)).st) ?_ kr kr;exact⟨by rw[List.length_map],Z08 (S:=fun i=>(Z6B l i).st) l.length kr (fun i hi=>Zk0 l hl i hi) (Znz l)⟩
def Z3C(l:List Page)(i:Nat):Tg:=⟨tm 54 [(0,Z0n l),(3,.ow 16003),(4,int i)],[(16003,.arr 232 2 ((Z04 l i).map Run.dv))],20⟩
theorem Z8V(l:List Page)(hl:l.length≤1048576)(i:Nat)(p:Page)(hp:l[i]? = some p)(hk:p.K≠0):CP (rndF Tryz.f182 0) (Z3C l i).st .nrm (Z3C l (i+1)).st:=by
 have hi:i<l.length:=(List.getElem?_eq_some_iff.1 hp).1;have e:Z3C l (i+1)=⟨tm 54 [(0,Z0n l),(3,.ow 16003),(4,int ((i+1:Nat):Int))],[(16003,.arr 232 2 ((Z04 l i).map Run.dv))],20⟩:=by
  have hpa:Z1i l i=p:=by simp[Z1i,hp]
  rw[Z3C,Z04,Z3m,hpa,if_neg hk]
 rw[e];refine Z4h [(8,[.int l.length]),(9,[.br true]),(14,[.el p.dv]),(17,[.br true]),(11,[.int ((i+1:Nat):Int)])] [] [] (φ:=(↑(List.map Page.dv l).length:Int)=(↑l.length:Int)∧decide ((↑i:Int)<(↑l.length:Int))=true∧true=true∧((0:Int)≤(↑i:Int)∧(List.map Page.dv l)[(↑i:Int).toNat]? = some p.dv)∧(p.K != (0:Int))=true∧true=true∧IntKind.i64.wrap ((↑i:Int)+(1:Int))=(↑(i+(1:Nat)):Int)) ?_ kr kr kr;exact⟨by rw[List.length_map],decide_eq_true oq,rfl,⟨by omega,Z16 hp⟩,by simp[hk],rfl,Z14 oq oq⟩
theorem Z8G(l:List Page)(hl:l.length≤1048576)(i:Nat)(p:Page)(hp:l[i]? = some p)(hk:p.K=0)(ho:Z04 l i≠[])(hm:(Z0k (Z04 l i)).frm+(Z0k (Z04 l i)).len=i):CP (rndF Tryz.f182 0) (Z3C l i).st .nrm (Z3C l (i+1)).st:=by
 have hi:i<l.length:=(List.getElem?_eq_some_iff.1 hp).1;obtain⟨o1,o2⟩:=Z2w l i;have hlast:=o2 _ (List.mem_of_getElem? (Z22 ho));have hpos:0<(Z04 l i).length:=List.length_pos_iff.2 ho;have e:Z04 l (i+1)=(Z04 l i).dropLast++[⟨(Z0k (Z04 l i)).frm,(Z0k (Z04 l i)).len+1⟩]:=by
  have hpa:Z1i l i=p:=by simp[Z1i,hp]
  rw[Z04,Z3m,hpa,if_pos hk,if_pos ⟨ho,hm⟩]
 have hidx:0≤((Z04 l i).length:Int)-1∧(((Z04 l i).length:Int)-1).toNat<(List.map Run.dv (Z04 l i)).length:=by rw[List.length_map];omega
 have hat:(List.map Run.dv (Z04 l i))[(((Z04 l i).length:Int)-1).toNat]? = some (Z0k (Z04 l i)).dv:=by
  rw[show(((Z04 l i).length:Int)-1).toNat=(Z04 l i).length-1 from by omega];exact Zf5 (Z22 ho)
 have hset:(List.map Run.dv (Z04 l i)).set (((Z04 l i).length:Int)-1).toNat [dint (Z0k (Z04 l i)).frm,dint ((Z0k (Z04 l i)).len+1)]=List.map Run.dv (Z04 l (i+1)):=by
  rw[e,← Zfi ho,show(((Z04 l i).length:Int)-1).toNat=(Z04 l i).length-1 from by omega];rfl
 have hw:IntKind.i64.wrap (((Z04 l i).length:Int)-1)=((Z04 l i).length:Int)-1:=Z14 oq oq;refine Z4h [(8,[.int l.length]),(9,[.br true]),(14,[.el p.dv]),(17,[.br false]),(19,[.int (Z04 l i).length]),(25,[.int ((Z04 l i).length-1:Int)]),(28,[.el (Z0k (Z04 l i)).dv]),(31,[.int ((Z04 l i).length-1:Int)]),(34,[.el (Z0k (Z04 l i)).dv]),(35,[.int i]),(38,[.br true]),(41,[.int ((Z04 l i).length-1:Int)]),(44,[.el (Z0k (Z04 l i)).dv]),(45,[.int ((Z0k (Z04 l i)).len+1)]),(10047,[.el (Z0k (Z04 l i)).dv,.els ((Z04 l (i+1)).map Run.dv)]),(11,[.int ((i+1:Nat):Int)])] [] [] (φ:=(↑(List.map Page.dv l).length:Int)=(↑l.length:Int)∧decide ((↑i:Int)<(↑l.length:Int))=true∧true=true∧((0:Int)≤(↑i:Int)∧(List.map Page.dv l)[(↑i:Int).toNat]? = some p.dv)∧(p.K != (0:Int))=false∧false=false∧(↑(List.map Run.dv (Z04 l i)).length:Int)=(↑(Z04 l i).length:Int)∧(decide ((0:Int)<(↑(Z04 l i).length:Int))=true→IntKind.i64.wrap ((↑(Z04 l i).length:Int)-(1:Int))=(↑(Z04 l i).length:Int)-(1:Int))∧(decide ((0:Int)<(↑(Z04 l i).length:Int))=true→(0:Int)≤(↑(Z04 l i).length:Int)-(1:Int)∧((↑(Z04 l i).length:Int)-(1:Int)).toNat<(List.map Run.dv (Z04 l i)).length)∧(decide ((0:Int)<(↑(Z04 l i).length:Int))=true→(List.map Run.dv (Z04 l i))[((↑(Z04 l i).length:Int)-(1:Int)).toNat]? = some (Z0k (Z04 l i)).dv)∧(decide ((0:Int)<(↑(Z04 l i).length:Int))=true→IntKind.i64.wrap ((↑(Z04 l i).length:Int)-(1:Int))=(↑(Z04 l i).length:Int)-(1:Int))∧(decide ((0:Int)<(↑(Z04 l i).length:Int))=true→(0:Int)≤(↑(Z04 l i).length:Int)-(1:Int)∧((↑(Z04 l i).length:Int)-(1:Int)).toNat<(List.map Run.dv (Z04 l i)).length)∧(decide ((0:Int)<(↑(Z04 l i).length:Int))=true→(List.map Run.dv (Z04 l i))[((↑(Z04 l i).length:Int)-(1:Int)).toNat]? = some (Z0k (Z04 l i)).dv)∧(decide ((0:Int)<(↑(Z04 l i).length:Int))=true→IntKind.i64.wrap ((Z0k (Z04 l i)).frm+(Z0k (Z04 l i)).len)=(↑i:Int))∧(decide ((0:Int)<(↑(Z04 l i).length:Int))&&(↑i:Int)==(↑i:Int))=true∧true=true∧IntKind.i64.wrap ((↑(Z04 l i).length:Int)-(1:Int))=(↑(Z04 l i).length:Int)-(1:Int)∧((0:Int)≤(↑(Z04 l i).length:Int)-(1:Int)∧((↑(Z04 l i).length:Int)-(1:Int)).toNat<(List.map Run.dv (Z04 l i)).length)∧(List.map Run.dv (Z04 l i))[((↑(Z04 l i).length:Int)-(1:Int)).toNat]? = some (Z0k (Z04 l i)).dv∧IntKind.i64.wrap ((Z0k (Z04 l i)).len+(1:Int))=(Z0k (Z04 l i)).len+(1:Int)∧((0:Int)≤(↑(Z04 l i).length:Int)-(1:Int)∧((↑(Z04 l i).length:Int)-(1:Int)).toNat<(List.map Run.dv (Z04 l i)).length)∧(List.map Run.dv (Z04 l i))[((↑(Z04 l i).length:Int)-(1:Int)).toNat]? = some (Z0k (Z04 l i)).dv∧(List.map Run.dv (Z04 l i)).set ((↑(Z04 l i).length:Int)-(1:Int)).toNat (Z1t (Z0k (Z04 l i)).dv ((0:Nat) + #[Field.mk "From" (3:Nat) (0:Nat) false "" "" (0:Nat),Field.mk "Len" (3:Nat) (1:Nat) false "" "" (8:Nat)][(1:Nat)].3) [dint ((Z0k (Z04 l i)).len+(1:Int))])=List.map Run.dv (Z04 l (i+(1:Nat)))∧IntKind.i64.wrap ((↑i:Int)+(1:Int))=(↑(i+(1:Nat)):Int)) ?_ kr kr kr;exact⟨by rw[List.length_map],decide_eq_true oq,rfl,⟨by omega,Z16 hp⟩,by simp[hk],rfl,by rw[List.length_map],fun _=>hw,fun _=>hidx,fun _=>hat,fun _=>hw,fun _=>hidx,fun _=>hat,fun _=>by rw[hm];exact Z14 oq oq,by simp;omega,rfl,hw,hidx,hat,Z14 oq oq,hidx,hat,hset,Z14 oq oq⟩
theorem Z9R(l:List Page)(hl:l.length≤1048576)(i:Nat)(p:Page)(hp:l[i]? = some p)(hk:p.K=0)(ho:¬ (Z04 l i≠[]∧(Z0k (Z04 l i)).frm+(Z0k (Z04 l i)).len=i)):CP (rndF Tryz.f182 0) (Z3C l i).st .nrm (Z3C l (i+1)).st:=by
 have hi:i<l.length:=(List.getElem?_eq_some_iff.1 hp).1;obtain⟨o1,o2⟩:=Z2w l i;have e:Z04 l (i+1)=Z04 l i++[⟨i,1⟩]:=by
  have hpa:Z1i l i=p:=by simp[Z1i,hp]
  rw[Z04,Z3m,hpa,if_pos hk,if_neg ho]
 have hne:decide (0<((Z04 l i).length:Int))=true→Z04 l i≠[]:=by
  intro hd h0;rw[h0]at hd;simp at hd
 have hidx:decide (0<((Z04 l i).length:Int))=true→0≤((Z04 l i).length:Int)-1∧(((Z04 l i).length:Int)-1).toNat<(List.map Run.dv (Z04 l i)).length:=by
  intro hd;have:=of_decide_eq_true hd;rw[List.length_map];omega
 have hat:decide (0<((Z04 l i).length:Int))=true→(List.map Run.dv (Z04 l i))[(((Z04 l i).length:Int)-1).toNat]? = some (Z0k (Z04 l i)).dv:=by
  intro hd;rw[show(((Z04 l i).length:Int)-1).toNat=(Z04 l i).length-1 from by omega];exact Zf5 (Z22 (hne hd))
 have hw:IntKind.i64.wrap (((Z04 l i).length:Int)-1)=((Z04 l i).length:Int)-1:=Z14 oq oq;refine Z4h [(8,[.int l.length]),(9,[.br true]),(14,[.el p.dv]),(17,[.br false]),(19,[.int (Z04 l i).length]),(25,[.int ((Z04 l i).length-1:Int)]),(28,[.el (Z0k (Z04 l i)).dv]),(31,[.int ((Z04 l i).length-1:Int)]),(34,[.el (Z0k (Z04 l i)).dv]),(38,[.br false]),(52,[.els ((Z04 l (i+1)).map Run.dv)]),(11,[.int ((i+1:Nat):Int)])] [] [(192052,16003)] (φ:=(↑(List.map Page.dv l).length:Int)=(↑l.length:Int)∧decide ((↑i:Int)<(↑l.length:Int))=true∧true=true∧((0:Int)≤(↑i:Int)∧(List.map Page.dv l)[(↑i:Int).toNat]? = some p.dv)∧(p.K != (0:Int))=false∧false=false∧(↑(List.map Run.dv (Z04 l i)).length:Int)=(↑(Z04 l i).length:Int)∧(decide ((0:Int)<(↑(Z04 l i).length:Int))=true→IntKind.i64.wrap ((↑(Z04 l i).length:Int)-(1:Int))=(↑(Z04 l i).length:Int)-(1:Int))∧(decide ((0:Int)<(↑(Z04 l i).length:Int))=true→(0:Int)≤(↑(Z04 l i).length:Int)-(1:Int)∧((↑(Z04 l i).length:Int)-(1:Int)).toNat<(List.map Run.dv (Z04 l i)).length)∧(decide ((0:Int)<(↑(Z04 l i).length:Int))=true→(List.map Run.dv (Z04 l i))[((↑(Z04 l i).length:Int)-(1:Int)).toNat]? = some (Z0k (Z04 l i)).dv)∧(decide ((0:Int)<(↑(Z04 l i).length:Int))=true→IntKind.i64.wrap ((↑(Z04 l i).length:Int)-(1:Int))=(↑(Z04 l i).length:Int)-(1:Int))∧(decide ((0:Int)<(↑(Z04 l i).length:Int))=true→(0:Int)≤(↑(Z04 l i).length:Int)-(1:Int)∧((↑(Z04 l i).length:Int)-(1:Int)).toNat<(List.map Run.dv (Z04 l i)).length)∧(decide ((0:Int)<(↑(Z04 l i).length:Int))=true→(List.map Run.dv (Z04 l i))[((↑(Z04 l i).length:Int)-(1:Int)).toNat]? = some (Z0k (Z04 l i)).dv)∧(decide ((0:Int)<(↑(Z04 l i).length:Int))&&IntKind.i64.wrap ((Z0k (Z04 l i)).frm+(Z0k (Z04 l i)).len)==(↑i:Int))=false∧false=false∧(List.map Run.dv (Z04 l i)).length+((List.replicate (1:Nat) [dint (0:Int),dint (0:Int)]).set (0:Nat) [dint (↑i:Int),dint (1:Int)]).length≤(2:Nat)^(30:Nat)∧List.map Run.dv (Z04 l i)++(List.replicate (1:Nat) [dint (0:Int),dint (0:Int)]).set (0:Nat) [dint (↑i:Int),dint (1:Int)]=List.map Run.dv (Z04 l (i+(1:Nat)))∧IntKind.i64.wrap ((↑i:Int)+(1:Int))=(↑(i+(1:Nat)):Int)) ?_ kr kr kr;refine⟨by rw[List.length_map],decide_eq_true oq,rfl,⟨by omega,Z16 hp⟩,by simp[hk],rfl,by rw[List.length_map],fun _=>hw,hidx,hat,fun _=>hw,hidx,hat, ?_,rfl,by rw[List.length_map];simp;omega,by rw[e];simp[Run.dv],Z14 oq oq⟩;cases hd:decide (0<((Z04 l i).length:Int))with
 | false=>simp
 | true =>
  have h1:=hne hd;have hlast:=o2 _ (List.mem_of_getElem? (Z22 h1));rw[Z14 oq oq];simp;intro hh;exact ho ⟨h1,hh⟩
theorem Zh1(l:List Page)(hl:l.length≤1048576)(i:Nat)(hi:i<l.length):CP (rndF Tryz.f182 0) (Z3C l i).st .nrm (Z3C l (i+1)).st:=by
 have hp:=List.getElem?_eq_getElem hi;by_cases hk:l[i].K=0
 ·by_cases ho:Z04 l i≠[]∧(Z0k (Z04 l i)).frm+(Z0k (Z04 l i)).len=i
  ·exact Z8G l hl i _ hp hk ho.1 ho.2
  ·exact Z9R l hl i _ hp hk ho
 ·exact Z8V l hl i _ hp hk
theorem Zm3(l:List Page):CP (rndF Tryz.f182 0) (Z3C l l.length).st (.ext 0) (Tg.st ⟨tm 54 [(3,.ow 16003)],[(16003,.arr 232 2 ((Z04 l l.length).map Run.dv))],60⟩):=by
 refine Z1e [(8,[.int l.length]),(9,[.br false])] [] (φ:=(↑(List.map Page.dv l).length:Int)=(↑l.length:Int)∧decide ((↑l.length:Int)<(↑l.length:Int))=false∧false=false) ?_ kr kr kr;exact⟨by rw[List.length_map],decide_eq_false oq,rfl⟩
theorem ZeW(l:List Page)(hl:l.length≤1048576):GP 182 [Z0n l] false (Z6P (runs l)) []:=by
 refine Z0f [(3,[.own])] [(0,Z3C l 0,.nrm,⟨tm 54 [(3,.ow 16003)],[(16003,.arr 232 2 ((Z04 l l.length).map Run.dv))],60⟩)] [] dd Tryz.func182 (φ:=CP (blkF Tryz.f182 (0:Nat)) (Z3C l (0:Nat)).st Ex.nrm (Tg.mk (tm (54:Nat) [((3:Nat),AV.ow (16003:Nat))]) [((16003:Nat),Blk.arr 232 (2:Nat) (List.map Run.dv (Z04 l l.length)))] (60:Nat)).st) ?_ kr kr;exact Z08 (S:=fun i=>(Z3C l i).st) l.length kr (fun i hi=>Zh1 l hl i hi) (Zm3 l)
theorem Z9a{l:List Run}{i:Nat}{p:Run}(h:l[i]? = some p):(l.map Run.dv)[((i:Nat):Int).toNat]? = some p.dv:=by simp[h]
def Z1K(l:List Page):Nat→Nat
 | 0=>0
 | i+1=>Z1K l i+(if(Z1i l i).K=0 then 0 else 1)
theorem Z6T(l:List Page):∀ i,Z1K l i≤i
 | 0=>Nat.le_refl _
 | i+1=>by
  have:=Z6T l i;simp only[Z1K];split<;>omega
def Z1G(l:List Page):Nat:=Z1K l l.length
def Z7u(l:List Page)(i:Nat):Tg:=⟨tm 19 [(3,int (Z1K l i)),(6,Z0n l),(7,int l.length),(8,int i)],[],20⟩
theorem Zhn(l:List Page)(hl:l.length≤1048576)(i:Nat)(hi:i<l.length):CP (rndF Tryz.f206 0) (Z7u l i).st .nrm (Z7u l (i+1)).st:=by
 have hp:=List.getElem?_eq_getElem hi;have hle:=Z6T l i;have hpa:Z1i l i=l[i]:=by simp[Z1i,hp]
 by_cases hk:l[i].K=0
 ·have e:Z1K l (i+1)=Z1K l i:=by rw[Z1K,hpa,if_pos hk];rfl
  rw[show Z7u l (i+1)=⟨tm 19 [(3,int (Z1K l i)),(6,Z0n l),(7,int l.length),(8,int ((i+1:Nat):Int))],[],20⟩from by rw[Z7u,e]];refine Z1e [(9,[.br true]),(10,[.el l[i].dv]),(14,[.br false]),(17,[.int ((i+1:Nat):Int)])] [] (φ:=decide ((↑i:Int)<(↑l.length:Int))=true∧true=true∧((0:Int)≤(↑i:Int)∧(List.map Page.dv l)[(↑i:Int).toNat]? = some (l.get (Fin.mk i hi)).dv)∧((l.get (Fin.mk i hi)).K != (0:Int))=false∧false=false∧IntKind.i64.wrap ((↑i:Int)+(1:Int))=(↑(i+(1:Nat)):Int)) ?_ kr kr kr;exact⟨decide_eq_true oq,rfl,⟨by omega,Z16 hp⟩,by simp[hk],rfl,Z14 oq oq⟩
 ·have e:Z1K l (i+1)=Z1K l i+1:=by rw[Z1K,hpa,if_neg hk]
  refine Z1e [(9,[.br true]),(10,[.el l[i].dv]),(14,[.br true]),(16,[.int (Z1K l (i+1))]),(17,[.int ((i+1:Nat):Int)])] [] (φ:=decide ((↑i:Int)<(↑l.length:Int))=true∧true=true∧((0:Int)≤(↑i:Int)∧(List.map Page.dv l)[(↑i:Int).toNat]? = some (l.get (Fin.mk i hi)).dv)∧((l.get (Fin.mk i hi)).K != (0:Int))=true∧true=true∧IntKind.i64.wrap ((↑(Z1K l i):Int)+(1:Int))=(↑(Z1K l (i+(1:Nat))):Int)∧IntKind.i64.wrap ((↑i:Int)+(1:Int))=(↑(i+(1:Nat)):Int)) ?_ kr kr kr;exact⟨decide_eq_true oq,rfl,⟨by omega,Z16 hp⟩,by simp[hk],rfl,by rw[e];exact Z14 oq oq,Z14 oq oq⟩
theorem Zmf(l:List Page):CP (rndF Tryz.f206 0) (Z7u l l.length).st (.ext 0) (Tg.st ⟨tm 19 [(3,int (Z1G l))],[],60⟩):=by
 refine Z1e [(9,[.br false])] [] (φ:=decide ((↑l.length:Int)<(↑l.length:Int))=false∧false=false) ?_ kr kr kr;exact⟨decide_eq_false oq,rfl⟩
theorem ZiU(l:List Page)(hl:l.length≤1048576):GP 206 [Z0n l] true (int (Z1G l)) []:=by
 refine Z0f [(7,[.int l.length])] [(0,Z7u l 0,.nrm,⟨tm 19 [(3,int (Z1G l))],[],60⟩)] [] dd Tryz.func206 (φ:=(↑(List.map Page.dv l).length:Int)=(↑l.length:Int)∧CP (blkF Tryz.f206 (0:Nat)) (Z7u l (0:Nat)).st Ex.nrm (Tg.mk (tm (19:Nat) [((3:Nat),int (↑(Z1G l):Int))]) [] (60:Nat)).st) ?_ kr kr;exact⟨by rw[List.length_map],Z08 (S:=fun i=>(Z7u l i).st) l.length kr (fun i hi=>Zhn l hl i hi) (Zmf l)⟩
def Z4Z(l:List Page)(i:Nat):Tg:=⟨tm 20 [(0,Z0n l),(3,int (Z1K l i)),(4,int i)],[],20⟩
theorem ZeI(l:List Page)(hl:l.length≤1048576)(i:Nat)(hi:i<l.length):CP (rndF Tryz.f187 0) (Z4Z l i).st .nrm (Z4Z l (i+1)).st:=by
 have hp:=List.getElem?_eq_getElem hi;have hle:=Z6T l i;have hpa:Z1i l i=l[i]:=by simp[Z1i,hp]
 by_cases hk:l[i].K=0
 ·have e:Z1K l (i+1)=Z1K l i:=by rw[Z1K,hpa,if_pos hk];rfl
  rw[show Z4Z l (i+1)=⟨tm 20 [(0,Z0n l),(3,int (Z1K l i)),(4,int ((i+1:Nat):Int))],[],20⟩from by rw[Z4Z,e]];refine Z1e [(7,[.int l.length]),(8,[.br true]),(13,[.el l[i].dv]),(16,[.br false]),(10,[.int ((i+1:Nat):Int)])] [] (φ:=(↑(List.map Page.dv l).length:Int)=(↑l.length:Int)∧decide ((↑i:Int)<(↑l.length:Int))=true∧true=true∧((0:Int)≤(↑i:Int)∧(List.map Page.dv l)[(↑i:Int).toNat]? = some (l.get (Fin.mk i hi)).dv)∧((l.get (Fin.mk i hi)).K != (0:Int))=false∧false=false∧IntKind.i64.wrap ((↑i:Int)+(1:Int))=(↑(i+(1:Nat)):Int)) ?_ kr kr kr;exact⟨by rw[List.length_map],decide_eq_true oq,rfl,⟨by omega,Z16 hp⟩,by simp[hk],rfl,Z14 oq oq⟩
 ·have e:Z1K l (i+1)=Z1K l i+1:=by rw[Z1K,hpa,if_neg hk]
  refine Z1e [(7,[.int l.length]),(8,[.br true]),(13,[.el l[i].dv]),(16,[.br true]),(18,[.int (Z1K l (i+1))]),(10,[.int ((i+1:Nat):Int)])] [] (φ:=(↑(List.map Page.dv l).length:Int)=(↑l.length:Int)∧decide ((↑i:Int)<(↑l.length:Int))=true∧true=true∧((0:Int)≤(↑i:Int)∧(List.map Page.dv l)[(↑i:Int).toNat]? = some (l.get (Fin.mk i hi)).dv)∧((l.get (Fin.mk i hi)).K != (0:Int))=true∧true=true∧IntKind.i64.wrap ((↑(Z1K l i):Int)+(1:Int))=(↑(Z1K l (i+(1:Nat))):Int)∧IntKind.i64.wrap ((↑i:Int)+(1:Int))=(↑(i+(1:Nat)):Int)) ?_ kr kr kr;exact⟨by rw[List.length_map],decide_eq_true oq,rfl,⟨by omega,Z16 hp⟩,by simp[hk],rfl,by rw[e];exact Z14 oq oq,Z14 oq oq⟩
theorem Zi9(l:List Page):CP (rndF Tryz.f187 0) (Z4Z l l.length).st (.ext 0) (Tg.st ⟨tm 20 [(3,int (Z1G l))],[],60⟩):=by
 refine Z1e [(7,[.int l.length]),(8,[.br false])] [] (φ:=(↑(List.map Page.dv l).length:Int)=(↑l.length:Int)∧decide ((↑l.length:Int)<(↑l.length:Int))=false∧false=false) ?_ kr kr kr;exact⟨by rw[List.length_map],decide_eq_false oq,rfl⟩
theorem Z6Y(l:List Page)(hl:l.length≤1048576):GP 187 [Z0n l] true (int (Z1G l)) []:=by
 refine Z0f [] [(0,Z4Z l 0,.nrm,⟨tm 20 [(3,int (Z1G l))],[],60⟩)] [] dd Tryz.func187 (φ:=CP (blkF Tryz.f187 (0:Nat)) (Z4Z l (0:Nat)).st Ex.nrm (Tg.mk (tm (20:Nat) [((3:Nat),int (↑(Z1G l):Int))]) [] (60:Nat)).st) ?_ kr kr;exact Z08 (S:=fun i=>(Z4Z l i).st) l.length kr (fun i hi=>ZeI l hl i hi) (Zi9 l)
def Z2K:List Run→Int→Int
 | [],_=>-1
 | r::l,k=>if k≤r.len then r.frm else Z2K l k
def first(l:List Page)(k:Int):Int:=if k<1 then -1 else Z2K (runs l) k
theorem Z4K:∀ {l:List Run} {k:Int},(l.all fun r=>decide (r.len<k))=true→Z2K l k=-1
 | [],_,_=>rfl
 | r::l,k,h=>by
  simp only[List.all_cons,Bool.and_eq_true,decide_eq_true_eq]at h;rw[Z2K,if_neg oq,Z4K h.2]
theorem Z4O:∀ {l:List Run} {k:Int} {j:Nat} {r:Run},l[j]? = some r→k≤r.len→(∀ i:Nat,i<j→∃ y,l[i]? = some y∧decide (y.len<k)=true)→Z2K l k=r.frm
 | [],_,_,_,h,_,_=>by simp at h
 | x::l,k,0,r,h,hr,_=>by
  simp at h;subst h;rw[Z2K,if_pos hr]
 | x::l,k,j+1,r,h,hr,hb=>by
  obtain⟨y,h1,h2⟩:=hb 0 oq;simp at h1 h2;subst h1;rw[Z2K,if_neg oq];exact Z4O (by simpa using h) hr fun i hi=>by
   obtain⟨z,h3,h4⟩:=hb (i+1) oq;exact⟨z,by simpa using h3,h4⟩
theorem ZfP{l:List Page}:(runs l).length≤l.length:=(Z2w l l.length).1
def Z5I(rs:List Run)(k:Int)(i:Nat):Tg:=⟨tm 23 [(1,int k),(4,int 0),(10,Z6P rs),(11,int rs.length),(12,int i)],[],20⟩
theorem ZaF(rs:List Run)(k:Int)(i:Nat)(r:Run)(hl:rs.length≤1048576)(hr:rs[i]? = some r)(hk:r.len<k):CP (rndF Tryz.f175 0) (Z5I rs k i).st .nrm (Z5I rs k (i+1)).st:=by
 have hi:i<rs.length:=(List.getElem?_eq_some_iff.1 hr).1;refine Z1e [(13,[.br true]),(14,[.el r.dv]),(19,[.br false]),(22,[.int ((i+1:Nat):Int)])] [] (φ:=decide ((↑i:Int)<(↑rs.length:Int))=true∧true=true∧((0:Int)≤(↑i:Int)∧(List.map Run.dv rs)[(↑i:Int).toNat]? = some r.dv)∧decide (k≤r.len)=false∧false=false∧IntKind.i64.wrap ((↑i:Int)+(1:Int))=(↑(i+(1:Nat)):Int)) ?_ kr kr kr;exact⟨decide_eq_true oq,rfl,⟨by omega,Z9a hr⟩,decide_eq_false oq,rfl,Z14 oq oq⟩
theorem Zhf(rs:List Run)(k:Int)(i:Nat)(r:Run)(hr:rs[i]? = some r)(hk:k≤r.len):CP (rndF Tryz.f175 0) (Z5I rs k i).st .ret (Tg.st ⟨tm 23 [(4,int r.frm)],[],60⟩):=by
 have hi:i<rs.length:=(List.getElem?_eq_some_iff.1 hr).1;refine Z1e [(13,[.br true]),(14,[.el r.dv]),(19,[.br true])] [] (φ:=decide ((↑i:Int)<(↑rs.length:Int))=true∧true=true∧((0:Int)≤(↑i:Int)∧(List.map Run.dv rs)[(↑i:Int).toNat]? = some r.dv)∧decide (k≤r.len)=true∧true=true) ?_ kr kr kr;exact⟨decide_eq_true oq,rfl,⟨by omega,Z9a hr⟩,decide_eq_true oq,rfl⟩
theorem Zl6(rs:List Run)(k:Int):CP (rndF Tryz.f175 0) (Z5I rs k rs.length).st (.ext 0) (Tg.st ⟨tm 23 [],[],60⟩):=by
 refine Z1e [(13,[.br false])] [] (φ:=decide ((↑rs.length:Int)<(↑rs.length:Int))=false∧false=false) ?_ kr kr kr;exact⟨decide_eq_false oq,rfl⟩
theorem Z6K(l:List Page)(k:Int)(hl:l.length≤1048576):GP 175 [Z0n l,int k] true (int (first l k)) []:=by
 by_cases hk:k<1
 ·rw[first,if_pos hk];refine Z0f [(8,[.br true])] [] [] dd Tryz.func175 (φ:=decide (k<(1:Int))=true∧true=true) ?_ kr kr;exact⟨decide_eq_true hk,rfl⟩
 ·rw[first,if_neg hk];have hrl:=ZfP (l:=l);cases ha:(runs l).all fun r=>decide (r.len<k)with
  | true =>
   rw[Z4K ha];refine Z0f [(8,[.br false]),(10,[.call false (Z6P (runs l)) []]),(11,[.int (runs l).length])] [(0,Z5I (runs l) k 0,.nrm,⟨tm 23 [],[],60⟩)] [] dd Tryz.func175 (φ:=decide (k<(1:Int))=false∧false=false∧GP 196 [AV.d (DV.sl (4:Nat) (List.map Page.dv l))] false (Z6P (runs l)) []∧(↑(List.map Run.dv (runs l)).length:Int)=(↑(runs l).length:Int)∧CP (blkF Tryz.f175 (0:Nat)) (Z5I (runs l) k (0:Nat)).st Ex.nrm (Tg.mk (tm (23:Nat) []) [] (60:Nat)).st) ?_ kr kr;refine⟨decide_eq_false hk,rfl,ZfW l hl,by rw[List.length_map],Z08 (S:=fun i=>(Z5I (runs l) k i).st) (runs l).length kr (fun i hi=>?_) (Zl6 _ _)⟩;have:=List.all_eq_true.1 ha _ (List.getElem_mem hi);exact ZaF _ k i _ oq (List.getElem?_eq_getElem hi) (by simpa using this)
  | false =>
   obtain⟨j,r,h1,h2,h3⟩:=Z4H ha;have hr:k≤r.len:=by simpa using h2
   rw[Z4O h1 hr h3];refine Z0f [(8,[.br false]),(10,[.call false (Z6P (runs l)) []]),(11,[.int (runs l).length])] [(0,Z5I (runs l) k 0,.ret,⟨tm 23 [(4,int r.frm)],[],60⟩)] [] dd Tryz.func175 (φ:=decide (k<(1:Int))=false∧false=false∧GP 196 [AV.d (DV.sl (4:Nat) (List.map Page.dv l))] false (Z6P (runs l)) []∧(↑(List.map Run.dv (runs l)).length:Int)=(↑(runs l).length:Int)∧CP (blkF Tryz.f175 (0:Nat)) (Z5I (runs l) k (0:Nat)).st Ex.ret (Tg.mk (tm (23:Nat) [((4:Nat),int r.frm)]) [] (60:Nat)).st) ?_ kr kr;refine⟨decide_eq_false hk,rfl,ZfW l hl,by rw[List.length_map],Z0z (S:=fun i=>(Z5I (runs l) k i).st) j kr (fun i hi=>?_) (Zhf _ k j r h1 hr)⟩;obtain⟨y,h4,h5⟩:=h3 i hi;exact ZaF _ k i y oq h4 (by simpa using h5)
def Z2V(rs:List Run)(k:Int)(i:Nat):Tg:=⟨tm 31 [(1,int k),(4,int 0),(5,Z6P rs),(6,int i)],[],20⟩
theorem Z62(rs:List Run)(k:Int)(i:Nat)(r:Run)(hl:rs.length≤1048576)(hr:rs[i]? = some r)(hk:k<1∨r.len<k):CP (rndF Tryz.f148 0) (Z2V rs k i).st .nrm (Z2V rs k (i+1)).st:=by
 have hi:i<rs.length:=(List.getElem?_eq_some_iff.1 hr).1;refine Z1e [(11,[.int rs.length]),(12,[.br true]),(20,[.el r.dv]),(25,[.br false]),(14,[.int ((i+1:Nat):Int)])] [] (φ:=(↑(List.map Run.dv rs).length:Int)=(↑rs.length:Int)∧decide ((↑i:Int)<(↑rs.length:Int))=true∧true=true∧(decide ((1:Int)≤k)=true→(0:Int)≤(↑i:Int)∧(List.map Run.dv rs)[(↑i:Int).toNat]? = some r.dv)∧(decide ((1:Int)≤k)&&decide (k≤r.len))=false∧false=false∧IntKind.i64.wrap ((↑i:Int)+(1:Int))=(↑(i+(1:Nat)):Int)) ?_ kr kr kr;exact⟨by rw[List.length_map],decide_eq_true oq,rfl,fun _=>⟨by omega,Z9a hr⟩,by simp;omega,rfl,Z14 oq oq⟩
theorem ZeB(rs:List Run)(k:Int)(i:Nat)(r:Run)(hr:rs[i]? = some r)(hk1:1≤k)(hk:k≤r.len):CP (rndF Tryz.f148 0) (Z2V rs k i).st .ret (Tg.st ⟨tm 31 [(4,int r.frm)],[],60⟩):=by
 have hi:i<rs.length:=(List.getElem?_eq_some_iff.1 hr).1;refine Z1e [(11,[.int rs.length]),(12,[.br true]),(20,[.el r.dv]),(25,[.br true]),(28,[.el r.dv])] [] (φ:=(↑(List.map Run.dv rs).length:Int)=(↑rs.length:Int)∧decide ((↑i:Int)<(↑rs.length:Int))=true∧true=true∧(decide ((1:Int)≤k)=true→(0:Int)≤(↑i:Int)∧(List.map Run.dv rs)[(↑i:Int).toNat]? = some r.dv)∧(decide ((1:Int)≤k)&&decide (k≤r.len))=true∧true=true∧(0:Int)≤(↑i:Int)∧(List.map Run.dv rs)[(↑i:Int).toNat]? = some r.dv) ?_ kr kr kr;exact⟨by rw[List.length_map],decide_eq_true oq,rfl,fun _=>⟨by omega,Z9a hr⟩,by simp;omega,rfl,⟨by omega,Z9a hr⟩⟩
theorem Zcq(rs:List Run)(k:Int):CP (rndF Tryz.f148 0) (Z2V rs k rs.length).st (.ext 0) (Tg.st ⟨tm 31 [],[],60⟩):=by
 refine Z1e [(11,[.int rs.length]),(12,[.br false])] [] (φ:=(↑(List.map Run.dv rs).length:Int)=(↑rs.length:Int)∧decide ((↑rs.length:Int)<(↑rs.length:Int))=false∧false=false) ?_ kr kr kr;exact⟨by rw[List.length_map],decide_eq_false oq,rfl⟩
theorem Z5p(l:List Page)(k:Int)(hl:l.length≤1048576):GP 148 [Z0n l,int k] true (int (first l k)) []:=by
 have hrl:=ZfP (l:=l);by_cases hk:k<1
 ·rw[first,if_pos hk];refine Z0f [(8,[.call false (Z6P (runs l)) []])] [(0,Z2V (runs l) k 0,.nrm,⟨tm 31 [],[],60⟩)] [] dd Tryz.func148 (φ:=GP 182 [AV.d (DV.sl (4:Nat) (List.map Page.dv l))] false (Z6P (runs l)) []∧CP (blkF Tryz.f148 (0:Nat)) (Z2V (runs l) k (0:Nat)).st Ex.nrm (Tg.mk (tm (31:Nat) []) [] (60:Nat)).st) ?_ kr kr;exact⟨ZeW l hl,Z08 (S:=fun i=>(Z2V (runs l) k i).st) (runs l).length kr (fun i hi=>Z62 _ k i _ oq (List.getElem?_eq_getElem hi) (.inl hk)) (Zcq _ _)⟩
 ·rw[first,if_neg hk];cases ha:(runs l).all fun r=>decide (r.len<k)with
  | true =>
   rw[Z4K ha];refine Z0f [(8,[.call false (Z6P (runs l)) []])] [(0,Z2V (runs l) k 0,.nrm,⟨tm 31 [],[],60⟩)] [] dd Tryz.func148 (φ:=GP 182 [AV.d (DV.sl (4:Nat) (List.map Page.dv l))] false (Z6P (runs l)) []∧CP (blkF Tryz.f148 (0:Nat)) (Z2V (runs l) k (0:Nat)).st Ex.nrm (Tg.mk (tm (31:Nat) []) [] (60:Nat)).st) ?_ kr kr;refine⟨ZeW l hl,Z08 (S:=fun i=>(Z2V (runs l) k i).st) (runs l).length kr (fun i hi=>?_) (Zcq _ _)⟩;have:=List.all_eq_true.1 ha _ (List.getElem_mem hi);exact Z62 _ k i _ oq (List.getElem?_eq_getElem hi) (.inr (by simpa using this))
  | false =>
   obtain⟨j,r,h1,h2,h3⟩:=Z4H ha;have hr:k≤r.len:=by simpa using h2
   rw[Z4O h1 hr h3];refine Z0f [(8,[.call false (Z6P (runs l)) []])] [(0,Z2V (runs l) k 0,.ret,⟨tm 31 [(4,int r.frm)],[],60⟩)] [] dd Tryz.func148 (φ:=GP 182 [AV.d (DV.sl (4:Nat) (List.map Page.dv l))] false (Z6P (runs l)) []∧CP (blkF Tryz.f148 (0:Nat)) (Z2V (runs l) k (0:Nat)).st Ex.ret (Tg.mk (tm (31:Nat) [((4:Nat),int r.frm)]) [] (60:Nat)).st) ?_ kr kr;refine⟨ZeW l hl,Z0z (S:=fun i=>(Z2V (runs l) k i).st) j kr (fun i hi=>?_) (ZeB _ k j r h1 oq hr)⟩;obtain⟨y,h4,h5⟩:=h3 i hi;exact Z62 _ k i y oq h4 (.inr (by simpa using h5))
theorem Z8L(l:List Page):∀ i,∀ r∈Z04 l i,∀ j:Int,r.frm≤j→j<r.frm+r.len→(l.getD j.toNat default).K=0
 | 0=>by simp[Z04]
 | i+1=>by
  have ih:=Z8L l i;have ok:=(Z2w l i).2;intro r hr j h1 h2;simp only[Z04,Z3m]at hr;have hpa:Z1i l i=l.getD i default:=by rw[Z69];simp
  split at hr
  ·rename_i hk;rw[hpa]at hk;split at hr
   ·rename_i hc;have hmem:=List.mem_of_getElem? (Z22 hc.1);rcases List.mem_append.1 hr with hr | hr
    ·exact ih r (List.dropLast_subset _ hr) j h1 h2
    ·simp at hr;subst hr;simp only at h1 h2;by_cases hj:j=i
     ·subst hj;simpa using hk
     ·exact ih _ hmem j h1 oq
   ·rcases List.mem_append.1 hr with hr | hr
    ·exact ih r hr j h1 h2
    ·simp at hr;subst hr;simp only at h1 h2;have:j=i:=by omega
     subst this;simpa using hk
  ·exact ih r hr j h1 h2
theorem Z9q:∀ {l:List Run} {k:Int},0≤Z2K l k→∃ r∈l,Z2K l k=r.frm∧k≤r.len
 | [],_,h=>by simp[Z2K]at h
 | r::l,k,h=>by
  rw[Z2K]at h ⊢;split
  ·exact⟨r,by simp,rfl,aa⟩
  ·rename_i hk;rw[if_neg hk]at h;obtain⟨x,hx,h1,h2⟩:=Z9q h;exact⟨x,by simp[hx],h1,h2⟩
theorem Z1x{l:List Page}{k:Int}(h:0≤first l k):1≤k∧first l k+k≤l.length∧Z5S l (first l k).toNat k.toNat=true:=by
 unfold first at h ⊢
 split at h
 ·omega
 ·rename_i hk;rw[if_neg hk];obtain⟨r,hr,h1,h2⟩:=Z9q h;have ok:=(Z2w l l.length).2 r hr;rw[h1]at h ⊢;refine⟨by omega,by omega,freeK_iff.2 fun j hj=>?_⟩;have:=Z8L l l.length r hr (r.frm+j) oq oq;rwa [show(r.frm+(j:Int)).toNat=r.frm.toNat+j from by omega]at this
theorem Z60(l:List Page)(k:Int):-1≤first l k∧first l k≤l.length:=by
 by_cases h:0≤first l k
 ·have:=Z1x h;omega
 ·unfold first at h ⊢
  split
  ·omega
  ·rename_i hk;rw[if_neg hk]at h;have:∀ m:List Run,(∀ r∈m,0≤r.frm)→-1≤Z2K m k:=by
    intro m;induction m with
    | nil=>intro _;simp[Z2K]
    | cons r m ih =>
     intro hm;rw[Z2K];split
     ·have:=hm r pq;omega
     ·exact ih fun x hx=>hm x (by simp[hx])
   have:=this (runs l) fun r hr=>((Z2w l l.length).2 r hr).1;omega
theorem Zij{c:Conf}{l:List Page}:∀ {f i:Nat} {due:Int},0≤due→rpB c l f i due=true→l.length≤i+f→∀ j,i≤j→j<l.length→∃ d,0≤d∧rchk c l j d:=by
 intro f;induction f with
 | zero=>intro i due _ _ hl j h1 h2;omega
 | succ f ih =>
  intro i due hd hr hl j h1 h2;rw[rpB,if_pos oq,Bool.and_eq_true]at hr;have hc:=of_decide_eq_true hr.1;by_cases hj:j=i
  ·subst hj;exact⟨due,hd,hc⟩
  ·refine ih ?_ hr.2 oq j oq h2;unfold rdue;split
   ·rename_i hk;have:=hc.2.2.2.2.2.2.2.2.2.1 hk;omega
   ·omega
theorem Z0M{h:Heap}(hp:Z02 h=true){j:Nat}(hj:j<h.P.length):0≤(h.P.getD j default).S∧(h.P.getD j default).S≤1∧0≤(h.P.getD j default).N∧(h.P.getD j default).N≤2147483647 ∧
  0≤(h.P.getD j default).K∧(h.P.getD j default).K≤3∧0≤(h.P.getD j default).U∧(h.P.getD j default).U≤256∧((h.P.getD j default).K=1→(h.P.getD j default).U≤h.C.pw):=by
 have hi:=properB_iff.1 hp;have hv:=validB_iff.1 hi.1;obtain⟨d,_,hc⟩:=Zij oq hi.2.2.2.2.2 oq j oq hj;unfold rchk at hc;have hu:(h.P.getD j default).K=2→1≤(h.P.getD j default).U∧(h.P.getD j default).U≤256:=by
  intro hk;have hn:=(hc.2.2.2.2.2.2.2.2.2.1 hk).1;unfold need at hn;split at hn
  ·omega
  ·omega
 omega
theorem Z7w(l:List Page):Z1G l≤l.length:=Z6T l l.length
abbrev tP(l:List Page)(s:Int):List Page:=tookP l (first l 1).toNat 1 (Page.mk 1 s 0 0) (Page.mk 0 0 0 0)
end Go.Proofs.YtdhchmlalchgeaaGreat
