/-
 The statement BoundMeasures: part 7.
 Conditions: none.
-/
import Derived.Laws.Bits64b
import Derived.WalkSmall
import Derived.Test.YtgedmeaemofdkaaGreatS6
set_option maxRecDepth 100000
set_option maxHeartbeats 2000000
set_option linter.all false
open Bool renaming true->X,false->Z,and_eq_true->Le,eq_false_iff->Lm,or_eq_true->Lq,eq_false_or_eq_true->Lu,eq_iff_iff->Lv,true_and->Lw
open Decidable renaming decide->Y
open List renaming map->M,replicate->La,length_map->Lc,getElem?_eq_some_iff->Ld,drop->Lg,getElem?_eq_getElem->Lj,mem_of_getElem?->Lk,take->Ll,getD_eq_getElem?_getD->Lo,map_set->Lp,getD->Lr,length_drop->Ls,mem_append->Lt,length_pos_iff->Lz,range->LA,all_cons->LF,all_eq_true->LG,dropLast_subset->LH,getElem?_range->LI,getElem?_set->LJ,getElem_mem->LK,map_append->LL,map_drop->LM,map_take->LN,mem_range->LO,take_succ_cons->LQ
open Inhabited renaming default->L
open Option renaming some->O
open Go.IntKind renaming i64->Lb,u64->Lf,u32->Ly
open Fin renaming mk->Lh
open Int renaming toNat->Li,mul_comm->Ln,ediv_nonneg->Lx,ediv_lt_of_lt_mul->LC,one_mul->LD
open Nat renaming le_refl->LB,le_of_lt->LR,min_eq_left->LS
open Go.Proofs.Tryz
namespace Go.Proofs.YtgedmeaemofdkaaGreat
open Go.Sx
def ones(n:Int):Int:=2^(min n.toNat 64)-1
structure Header where
 K:Int
 length:Int
 map:Int
 deriving DecidableEq,Inhabited
def u32(n:Int):AV:=.d (.sc (.int .u32 n))
def Header.av(h:Header):AV:=.ag [int h.K,int h.length,u32 h.map]
def or_one(k:Nat)(h:k<64):bits .or .u64 (Lf.wrap ((2^k-1)*2^min (Li 1) 64)) 1=2^(k+1)-1:=by
 have:k∈LA 64:=LO.2 h;revert k;decide+kernel
def ZdR(m:Nat)(i:Nat):Tg:=⟨tm 14 [(2,u64 0),(3,u64 (2^i-1)),(6,int m),(7,int i)],[],20⟩
def ZjP(m i:Nat)(hm:m<=64)(hi:i<m):CP (rndF f170 0) (ZdR m i).st .nrm (ZdR m (i+1)).st:=by
 have ho:=or_one i oq;exact sF [] [Z,X] (Ftb 8 (Y ((i:Int)<(m:Int))) (Fo ((0:Int)<=1) (Fg 12 (by exact wrapI' oq oq:Lb.wrap ((i:Int)+1)=(↑(i+1):Int)) (Fa (by exact ho:bits BinOp.or Lf (Lf.wrap ((2^i-1)*2^min (Li 1) 64)) (1:Int)=2^(i+1)-1) Fz))))
def Zo0(m:Nat):CP (rndF f170 0) (ZdR m m).st (.ext 0) (Tg.st ⟨tm 14 [(3,u64 (2^m-1))],[],60⟩):=by
 exact sF [] [] (Ffb 8 (Y ((m:Int)<(m:Int))) Fz)
def Zm0(m:Nat)(hm:m<=64)  := Z08 (S:=λi=>(ZdR m i).st) m (by kernel_rfl) (λi hi=>ZjP m i hm hi) (Zo0 m)
def Z6I(n:Int):GP 170 [int n] X (u64 (ones n)) []:=by
 have ei:min (max n 0) 64=((min n.toNat 64:Nat):Int):=by omega
 exact gF [] func170 [] (Fgo 5 (if 0 > n then 0 else n) (max n 0) (Fgo 6 (if 64<max n 0 then 64 else max n 0) (↑(min n.toNat 64):Int) (Fu (@Zm0 (min n.toNat 64) oq) Fz)))
def Z0i(h:Header):Bool:=Y (0<=h.K/\h.K<=3/\0<=h.length/\h.length<=255/\(if h.K=1 then h.length<=32/\h.map<2^h.length.toNat else h.map=0))
def sizeH(h:Header):Int:=if Z0i h=X then h.length+1 else 0
def Z22:Header:=⟨0,0,0⟩
def Z0c(h:Header):Int×Int:=if Z0i h=X then(1+4*h.K+16*h.length+65536*h.map,0)else(0,1)
def Z3b(w:Int):Header:=⟨w/4%4,w/16%4096,w/65536%4294967296⟩
def decodeH(w:Int):Header×Bool:=if(Z0c (Z3b w)).2=0/\(Z0c (Z3b w)).1=w then(Z3b w,X)else(Z22,Z)
def Z0e(h:Header)(i:Int):Bool:=Z0i h&&Y (0<=i)&&Y (i<h.length)&&(h.K==2||(h.K==1&&(h.map/2^i.toNat%2==1)))
def validH_iff{h:Header}:Z0i h=X↔0<=h.K/\h.K<=3/\0<=h.length/\h.length<=255/\(if h.K=1 then h.length<=32/\h.map<2^h.length.toNat else h.map=0):=by simp[Z0i]
def ZoS{n:Int}(h1:n<=32):(1:Int)<=2^n.toNat/\(2:Int)^n.toNat<=4294967296:=by
 have:n.toNat<=32:=by omega
 generalize n.toNat=k at this;have hk:k∈LA 33:=LO.2 oq;revert k;decide+kernel
def ZnP{n:Int}(h1:n<=32):Lf.wrap (1*2^min n.toNat 64)=2^n.toNat:=by
 have:=ZoS h1;rw[LS oq,LD];exact wrapU' oq oq
def ZaT{h:Header}(hv:Z0i h=X)(hm:0<=h.map)(hm2:h.map<=4294967295):0<=h.K/\h.K<=3/\0<=h.length/\h.length<=255/\0<=h.map/\h.map<=4294967295:=by
 have:=validH_iff.1 hv;omega
def Z28(h:Header)(hm:0<=h.map/\h.map<=4294967295):GP 113 [h.av] X (bool (Z0i h)) []:=by
 have hs:h.length<=32->Lf.wrap (1*2^min h.length.toNat 64)=2^h.length.toNat:=ZnP;rcases bb (Y (h.K<0)||Y (3<h.K)||Y (h.length<0)||Y (255<h.length))with hc0 | hc0<;>have hc0p:=hc0<;>simp only[bs]at hc0p
 .exact gF [] func113 (fO 9) (Ft 20 hc0 (Fa (by(simp[Z0i, *];omega):Z=Z0i h) Fz))
 .obtain⟨⟨⟨hc0paaa,hc0paab⟩,hc0pab⟩,hc0pb⟩:=hc0p;rcases bb (h.K != 1)with hc1 | hc1<;>have hc1p:=hc1<;>simp only[bs]at hc1p
  .exact gF [] func113 (fO 9) (Ff 20 hc0 (Ft 23 hc1 (Fa (by grind[Z0i]:(h.map==0)=Z0i h) Fz)))
  .exact gF [] func113 (fO 17) (Ff 20 hc0 (Ff 23 hc1 (FvG 33 (Y (h.length<=32)) h.map (FvG 36 (Y (h.length<=32)) h.length (Fa (by intro hg;(try simp only[bs]at hg);omega:Y (h.length<=32)=X->0<=h.length) (Fa (by grind[Z0i]:(Y (h.length<=32)&&Y (h.map<Lf.wrap ((1:Int)*2^min h.length.toNat 64)))=Z0i h) Fz))))))
def Z1E(h:Header)(hm:0<=h.map/\h.map<=4294967295):GP 70 [h.av] X (int (sizeH h)) []:=by
 rcases bb (!Z0i h)with hc0 | hc0<;>have hc0p:=hc0<;>simp only[bs]at hc0p
 .exact gF [] func70 [X] (Fc 4 (@Z28 h aa) (Ft 5 hc0 (Fa (by simp[sizeH, *]:0=sizeH h) Fz)))
 .have hf3:=validH_iff.1 hc0p;obtain⟨hf3a,⟨hf3ba,⟨hf3bba,⟨hf3bbba,hf3bbbb⟩⟩⟩⟩:=hf3;exact gF [] func70 [X] (Fc 4 (@Z28 h aa) (Ff 5 hc0 (Fi 8 (h.length+1) (Fa (by simp[sizeH, *]:h.length+1=sizeH h) Fz))))
def Z3r(h:Header)(hm:0<=h.map/\h.map<=4294967295):GP 143 [h.av] X (.tu [u64 (Z0c h).1,int (Z0c h).2]) []:=by
 rcases bb (!Z0i h)with hc0 | hc0<;>have hc0p:=hc0<;>simp only[bs]at hc0p
 .rw[show Z0c h=((0:Int),(1:Int))from by simp[Z0c, *]];exact gF [] func143 [] (Fc 5 (@Z28 h aa) (Ft 6 hc0 Fz))
 .have hf3:=validH_iff.1 hc0p;obtain⟨hf3a,⟨hf3ba,⟨hf3bba,⟨hf3bbba,hf3bbbb⟩⟩⟩⟩:=hf3;rw[show Z0c h=((1:Int)+(4:Int)*h.K+(16:Int)*h.length+h.map*(65536:Int),(0:Int))from by(simp[Z0c, *];omega)];exact gF [] func143 [] (Fc 5 (@Z28 h aa) (Ff 6 hc0 (Fv 9 h.K (Fv 10 (4*h.K) (Fv 11 ((1:Int)+4*h.K) (Fv 14 h.length (Fv 15 (16*h.length) (Fv 16 ((1:Int)+4*h.K+16*h.length) (Fv 19 h.map (Fg 20 (by exact wrapU2 rfl oq oq:Lf.wrap (h.map*2^min (Li 16) 64)=h.map*65536) (Fo ((0:Int)<=16) (Fv 21 ((1:Int)+4*h.K+16*h.length+h.map*65536) Fz))))))))))))
def Z8P(w:Int)(h0:0<=w):0<=(Z3b w).map/\(Z3b w).map<=4294967295:=by
 simp only[Z3b];omega
def Z2P(w:Int)(h0:0<=w)(h1:w<=18446744073709551615):GP 148 [u64 w] X (.tu [(decodeH w).1.av,bool (decodeH w).2]) []:=by
 have hm:=Z8P w h0;have Q0 {h_ c_ p_} (r_:Fq h_ c_ p_):=Fg 8 (by exact Z5U rfl dd:w.fdiv (2^min (Li 2) 64)=w/4) (Fo ((0:Int)<=2) (Fg 9 (by exact Z3G 2 dd dd oq oq:bits BinOp.and Lf (w/4) 3=w/4%4) (Fi 10 (w/4%4) (Fg 12 (by exact Z5U rfl dd:w.fdiv (2^min (Li 4) 64)=w/16) (Fo ((0:Int)<=4) (Fg 13 (by exact Z3G 12 dd dd oq oq:bits BinOp.and Lf (w/16) 4095=w/16%4096) (Fi 14 (w/16%4096) (Fg 16 (by exact Z5U rfl dd:w.fdiv (2^min (Li 16) 64)=w/65536) (Fo ((0:Int)<=16) (Fg 17 (rfl:Ly.wrap (w/65536)=w/65536%4294967296) (Fc 21 (@Z3r (Header.mk (w/4%4) (w/16%4096) (w/65536%4294967296)) aa) r_)))))))))));rcases bb ((Z0c (Header.mk (w/4%4) (w/16%4096) (w/65536%4294967296))).2 != 0||(Z0c (Header.mk (w/4%4) (w/16%4096) (w/65536%4294967296))).1 != w)with hc0 | hc0<;>have hc0p:=hc0<;>simp only[bs]at hc0p
 .rw[show decodeH w=(Header.mk (0:Int) (0:Int) (0:Int),Z)from by grind[decodeH,Z3b,Z22]];exact gF [] func148 [] (Q0 (Ft 30 hc0 Fz))
 .obtain⟨hc0pa,hc0pb⟩:=hc0p;rw[show decodeH w=(Header.mk (w/(4:Int)%(4:Int)) (w/(16:Int)%(4096:Int)) (w/(65536:Int)%(4294967296:Int)),X)from by simp[decodeH,Z3b,Z22, *]];exact gF [] func148 [] (Q0 (Ff 30 hc0 Fz))
def Zmz(h:Header)(i:Int)(hm:0<=h.map/\h.map<=4294967295)(hv:Z0i h=X)(h0:0<=i)(h1:i<h.length) :
  (h.K==2||h.K==1&&bits BinOp.and Ly (h.map.fdiv (2^min i.toNat 32)) 1==1)=Z0e h i:=by
 have hv':=validH_iff.1 hv;by_cases hk:h.K=1
 .have hl:h.length<=32:=by simp[hk]at hv';omega
  have hp:(0:Int)<=2^i.toNat:=Int.pow_nonneg dd;rw[LS oq,Int.fdiv_eq_ediv_of_nonneg _ hp];have h2:0<=h.map/2^i.toNat:=Lx hm.1 hp;have h3:h.map/2^i.toNat<=h.map:=Int.ediv_le_self _ hm.1;have:=Zgr 1 dd (x:=h.map/2^i.toNat) (m:=1) dd h2 oq;rw[this];simp[Z0e,hv,h0,h1,hk]
 .have:(h.K==1)=Z:=by simp[hk]
  simp[Z0e,hv,h0,h1,this]
def Z1F(h:Header)(i:Int)(hm:0<=h.map/\h.map<=4294967295):GP 57 [h.av,int i] X (bool (Z0e h i)) []:=by
 rcases bb (!Z0i h||Y (i<0)||Y (h.length<=i))with hc0 | hc0<;>have hc0p:=hc0<;>simp only[bs]at hc0p
 .exact gF [] func57 (fO 6) (Fc 6 (@Z28 h aa) (Ft 17 hc0 (Fa (by grind[Z0e]:Z=Z0e h i) Fz)))
 .obtain⟨⟨hc0paa,hc0pab⟩,hc0pb⟩:=hc0p;have hf3:=validH_iff.1 hc0paa;obtain⟨hf3a,⟨hf3ba,⟨hf3bba,⟨hf3bbba,hf3bbbb⟩⟩⟩⟩:=hf3;exact gF [] func57 (fO 18) (Fc 6 (@Z28 h aa) (Ff 17 hc0 (FvG 29 (!h.K==2&&h.K==1) i (Fa (by intro hg;(try simp only[bs]at hg);omega:(!h.K==2&&h.K==1)=X->0<=i) (Fa (by exact Zmz h i hm aa oq oq:(h.K==2||h.K==1&&bits BinOp.and Ly (h.map.fdiv (2^min i.toNat 32)) (1:Int)==1)=Z0e h i) Fz)))))
def spl{α:Type}(ws:List α)(i:Nat)(l:List α):List α:=ws.take i++l++ws.drop (i+l.length)
def Z0b(ws:List Int)(a n:Int):Int×Bool:=if 4096<=a/\a<=4096+ws.length then(a-4096,Y (n<=ws.length-(a-4096)))else(0,Z)
def Z0O(ws:List Int)(a:Int):Int×Int:=if 4096<=a/\a<4096+ws.length then(a-4096,0)else(0,2)
def loadA(ws:List Int)(a:Int):Int×Int:=if 4096<=a/\a<4096+ws.length then(ws.getD (a-4096).toNat 0,0)else(0,2)
def Z1e(ws:List Int)(a n:Int):List Int×Int:=if n<0 then([],1)else if 4096<=a/\a-4096+n<=ws.length then((ws.drop (a-4096).toNat).take n.toNat,0)else([],2)
def Z0D(ws:List Int)(a:Int)(l:List Int):List Int×Int:=if 4096<=a/\a-4096+l.length<=ws.length then(spl ws (a-4096).toNat l,0)else([],2)
def Z1m(ws:List Int)(a v:Int):List Int×Int:=Z0D ws a [v]
def moveA(ws:List Int)(a b n:Int):List Int×Int:=if(Z1e ws b n).2≠0 then([],(Z1e ws b n).2)else Z0D ws a (Z1e ws b n).1
def Zc7(ws:List Int)(a n:Int):(Z1e ws a n).1.length<=ws.length:=by
 unfold Z1e;split
 .simp
 .split
  .simp;omega
  .simp
def Zd5{ws:List Int}{a n:Int}(h:(Z0b ws a n).2=X):(Z0b ws a n).1=a-4096/\4096<=a/\a<=4096+ws.length/\a-4096+n<=ws.length:=by
 unfold Z0b at h ⊢;split at h
 .rename_i hc;rw[if_pos hc];simp at h;simp;omega
 .simp at h
def ZdB{ws:List Int}{a n:Int}(h:(Z0b ws a n).2=Z):¬ (4096<=a/\a<=4096+ws.length/\a-4096+n<=ws.length):=by
 unfold Z0b at h;split at h
 .simp at h;omega
 .omega
def Zdn{ws:List Int}{a:Int}(h:(Z0O ws a).2=0):(Z0O ws a).1=a-4096/\4096<=a/\a<4096+ws.length:=by
 unfold Z0O at h ⊢;split at h
 .rename_i hc;rw[if_pos hc];exact⟨rfl,hc⟩
 .simp at h
def Zcc{ws:List Int}{a:Int}(h:¬ (Z0O ws a).2=0):¬ (4096<=a/\a<4096+ws.length)/\(Z0O ws a).2=2:=by
 unfold Z0O at h ⊢;split at h
 .simp at h
 .rename_i hc;rw[if_neg hc];exact⟨hc,rfl⟩
def Z5m(ws:List Int)(a n:Int)(hw:ws.length<=1048576)(h0:0<=a/\a<=18446744073709551615):GP 164 [Z01 ws,u64 a,int n] X (.tu [int (Z0b ws a n).1,bool (Z0b ws a n).2]) []:=by
 have Q0 {h_ c_ p_} (r_:Fq h_ c_ p_):=FlG 14 (!decide (a<4096)) wdv ws (FvG 15 (!decide (a<4096)) (↑ws.length) (FvG 16 (!decide (a<4096)) (4096+(ws.length:Int)) r_));rcases bb (Y (a<4096)||Y (4096+(ws.length:Int)<a))with hc0 | hc0<;>have hc0p:=hc0<;>simp only[bs]at hc0p
 .rw[show Z0b ws a n=((0:Int),Z)from by(simp[Z0b, *];omega)];exact gF [] func164 [] (Q0 (Ft 18 hc0 Fz))
 .obtain⟨hc0pa,hc0pb⟩:=hc0p;rw[show Z0b ws a n=(a-(4096:Int),Y (n<=(ws.length:Int)-(a-(4096:Int))))from by simp[Z0b, *]];exact gF [] func164 [] (Q0 (Ff 18 hc0 (Fv 20 (a-4096) (Fi 21 (a-4096) (Fl 25 wdv ws (Fi 27 ((ws.length:Int)-(a-4096)) Fz))))))
def Zdu(ws:List Int)(a:Int)(hw:ws.length<=1048576)(h0:0<=a/\a<=18446744073709551615):GP 190 [Z01 ws,u64 a] X (.tu [int (Z0O ws a).1,int (Z0O ws a).2]) []:=by
 have Q0 {h_ c_ p_} (r_:Fq h_ c_ p_):=Fc 11 (@Z5m ws a (1) aa aa) r_;rcases bb (!(Z0b ws a 1).2)with hc0 | hc0<;>have hc0p:=hc0<;>simp only[bs]at hc0p
 .rw[show Z0O ws a=((0:Int),(2:Int))from by grind[Z0b,Z0O]];exact gF [] func190 [] (Q0 (Ft 15 hc0 Fz))
 .rw[show Z0O ws a=((Z0b ws a (1:Int)).1,(0:Int))from by grind[Z0b,Z0O]];exact gF [] func190 [] (Q0 (Ff 15 hc0 Fz))
def Z1H(ws:List Int)(a:Int)(hw:ws.length<=1048576)(h0:0<=a/\a<=18446744073709551615):GP 139 [Z01 ws,u64 a] X (.tu [u64 (loadA ws a).1,int (loadA ws a).2]) []:=by
 rcases bb ((Z0O ws a).2 != 0)with hc0 | hc0<;>have hc0p:=hc0<;>simp only[bs]at hc0p
 .have hf3:=Zcc hc0p;obtain⟨hf3a,hf3b⟩:=hf3;rw[show loadA ws a=((0:Int),(Z0O ws a).2)from by simp[loadA, *]];exact gF [] func139 [] (Fc 11 (@Zdu ws a aa aa) (Ft 15 hc0 Fz))
 .have hf5:=Zdn hc0p;obtain⟨hf5a,⟨hf5ba,hf5bb⟩⟩:=hf5;rw[show loadA ws a=(ws.getD (Z0O ws a).1.toNat L,(0:Int))from by simp[loadA, *]];refine gspec_ofE [((11:Nat),[Hint.call X (AV.tu [int (Z0O ws a).1,int (Z0O ws a).2]) []]),((15:Nat),[Hint.br Z]),((19:Nat),[Hint.el (wdv (ws.getD (Z0O ws a).1.toNat L))])] [] [] dd func139 [] (φ:=GP 190 [Z01 ws,u64 a] X (AV.tu [int (Z0O ws a).1,int (Z0O ws a).2]) []/\((Z0O ws a).2 != (0:Int))=Z/\Z=Z/\(0:Int)<=(Z0O ws a).1/\(M wdv ws)[(Z0O ws a).1.toNat]? = O (wdv (ws.getD (Z0O ws a).1.toNat L))) ?_ kr kr;exact⟨(@Zdu (ws) (a) aa aa),aa,rfl,(by exact elI oq oq oq)⟩
def Zb1(ws:List Int)(a n:Int)(hw:ws.length<=1048576)(h0:0<=a/\a<=18446744073709551615):GP 112 [Z01 ws,u64 a,int n] X (.tu [Z01 (Z1e ws a n).1,int (Z1e ws a n).2]) []:=by
 rcases bb (Y (n<0))with hc0 | hc0<;>have hc0p:=hc0<;>simp only[bs]at hc0p
 .exact gF [] func112 [X] (Ft 11 hc0 (Fnl (Fa (by simp[Z1e, *]:[]=M wdv (Z1e ws a n).1) (Fa (by simp[Z1e, *]:1=(Z1e ws a n).2) Fz))))
 .have Q0 {h_ c_ p_} (r_:Fq h_ c_ p_):=Ff 11 hc0 (Fc 16 (@Z5m ws a n aa aa) r_);rcases bb (!(Z0b ws a n).2)with hc9 | hc9<;>have hc9p:=hc9<;>simp only[bs]at hc9p
  .have hf12:=ZdB hc9p;exact gF [] func112 [X] (Q0 (Ft 20 hc9 (Fnl (Fa (by(simp only[Z1e] ;exact sj):[]=M wdv (Z1e ws a n).1) (Fa (by(simp only[Z1e] ;exact sj):2=(Z1e ws a n).2) Fz)))))
  .have hf14:=Zd5 hc9p;obtain⟨hf14a,⟨hf14ba,⟨hf14bba,hf14bbb⟩⟩⟩:=hf14;rw[show Z1e ws a n=(Ll (((Z0b ws a n).1+n).toNat-(Z0b ws a n).1.toNat) (Lg (Z0b ws a n).1.toNat ws),(0:Int))from by(simp[Z1e, *];omega)];exact gF [] func112 [] (Fh 28 [.els (M wdv (Ll (((Z0b ws a n).1+n).toNat-(Z0b ws a n).1.toNat) (Lg (Z0b ws a n).1.toNat ws)))] (Q0 (Ff 20 hc9 (Fs 21 (M wdv []) (Fi 26 ((Z0b ws a n).1+n) (Fa (by(simp only[Lc];omega):0<=(Z0b ws a n).1/\(Z0b ws a n).1<=(Z0b ws a n).1+n/\(Z0b ws a n).1+n<=(↑(M wdv ws).length:Int)) (Fa (by simp[Z1e,LN,LM,Lp,LL,wdv,idv]:Ll (((Z0b ws a n).1+n).toNat-(Z0b ws a n).1.toNat) (Lg (Z0b ws a n).1.toNat (M wdv ws))=M wdv (Ll (((Z0b ws a n).1+n).toNat-(Z0b ws a n).1.toNat) (Lg (Z0b ws a n).1.toNat ws))) (Fa (by(simp[Z1e, *];omega):(M wdv []).length+(M wdv (Ll (((Z0b ws a n).1+n).toNat-(Z0b ws a n).1.toNat) (Lg (Z0b ws a n).1.toNat ws))).length<=2^30) (Fs 27 (M wdv (Ll (((Z0b ws a n).1+n).toNat-(Z0b ws a n).1.toNat) (Lg (Z0b ws a n).1.toNat ws))) (Fa (by exact Z4k _:Z1s (M wdv (Ll (((Z0b ws a n).1+n).toNat-(Z0b ws a n).1.toNat) (Lg (Z0b ws a n).1.toNat ws)))) Fz))))))))))
def wr{α:Type}(ws l:List α)(i k:Nat):List α:=ws.take i++l.take k++ws.drop (i+k)
def Z8a{α:Type}(ws l:List α)(i:Nat):wr ws l i 0=ws:=by simp[wr]
def Zd2{α:Type}(ws l:List α)(i:Nat):wr ws l i l.length=spl ws i l:=by simp[wr,spl]
def Z4X{α:Type}{ws l:List α}{i k:Nat}(h:i+l.length<=ws.length)(hk:k<=l.length):(wr ws l i k).length=ws.length:=by
 simp[wr];omega
def Z50{α:Type}{ws l:List α}{i:Nat}(h:i+l.length<=ws.length):(spl ws i l).length=ws.length:=by
 rw[<- Zd2];exact Z4X h (LB _)
def ZaG{α:Type}{ws l:List α}{i k:Nat}(h:i+l.length<=ws.length)(hk:k<=l.length)(j:Nat):(wr ws l i k)[j]? = if j<i then ws[j]? else if j<i+k then l[j-i]? else ws[j]? := by
 have e:(l.take k).length=k:=by simp;omega
 have:=Z2g (l:=ws) (xs:=l.take k) (o:=i) oq j;rw[e]at this;rw[wr,this];split
 .rfl
 .split
  .rw[List.getElem?_take_of_lt oq]
  .rfl
def ZbG{α:Type}{ws l:List α}{i k:Nat}(h:i+l.length<=ws.length)(hk:k<l.length)(d:α):(wr ws l i k).set (i+k) (l.getD k d)=wr ws l i (k+1):=by
 apply List.ext_getElem?;intro j;have hl:=Z4X h (LR hk);rw[LJ,ZaG h oq,ZaG h oq,hl];by_cases hj:i+k=j
 .subst hj;rw[if_pos rfl,if_pos oq,if_neg oq,if_pos oq];simp[Lr,hk]
 .rw[if_neg hj];by_cases h1:j<i
  .rw[if_pos h1,if_pos h1]
  .rw[if_neg h1,if_neg h1];by_cases h2:j<i+k
   .rw[if_pos h2,if_pos oq]
   .rw[if_neg h2,if_neg oq]
def Z81(ws l:List Int)(i:Int)(k:Nat):Tg:=⟨tm 41 [(2,Z01 l),(8,int i),(10,.ow 32024),(11,int k)],[(32024,.arr 35 1 ((wr ws l i.toNat k).map wdv))],60⟩
def ZeB(ws l:List Int)(i:Int)(k:Nat)(hw:ws.length<=1048576)(hi:0<=i)(h:i.toNat+l.length<=ws.length)(hk:k<l.length):CP (rndF f144 0) (Z81 ws l i k).st .nrm (Z81 ws l i (k+1)).st:=by
 have hs:=ZbG h hk L;have hn:=Z4X h (LR hk);have ei:i+k=((i.toNat+k:Nat):Int):=by omega
 exact sF [] (fO 4) (Fh 10039 [.els (M wdv ((wr ws l i.toNat k).set (↑(i.toNat+k):Int).toNat (l.getD k L)))] (FM 27 28 wdv l k (Fg 34 (by rw[wrapI' oq oq];omega:Lb.wrap (i+(k:Int))=(↑(i.toNat+k):Int)) (Fek 37 wdv l (↑k) k (Fa (by(simp only[Lc];omega):0<=(↑(i.toNat+k):Int)/\(↑(i.toNat+k):Int).toNat<(M wdv (wr ws l i.toNat k)).length) (Fa (by(simp only[Lc];omega):(↑(i.toNat+k):Int).toNat<(M wdv (wr ws l i.toNat k)).length) (Fa (ms:(M wdv (wr ws l i.toNat k)).set (↑(i.toNat+k):Int).toNat [du64 (l.getD k L)]=M wdv ((wr ws l i.toNat k).set (↑(i.toNat+k):Int).toNat (l.getD k L))) (Fx 30 k (Fr (35:Int) (Fa (by refine congrArg _ ?_;exact hs:M wdv ((wr ws l i.toNat k).set (↑(i.toNat+k):Int).toNat (l.getD k L))=M wdv (wr ws l i.toNat (k+1))) Fz))))))))))
def Zjr(ws l:List Int)(i:Int):CP (rndF f144 0) (Z81 ws l i l.length).st (.ext 0) (Tg.st ⟨tm 41 [(10,.ow 32024)],[(32024,.arr 35 1 ((spl ws i.toNat l).map wdv))],60⟩):=by
 have hs:=Zd2 ws l i.toNat
 exact sF [] [Z,X] (FO 27 28 wdv l (Fr (35:Int) (Fa (by refine congrArg _ ?_;assumption:M wdv (wr ws l i.toNat l.length)=M wdv (spl ws i.toNat l)) Fz)))
def Zgy(ws l:List Int)(i:Int)(hw:ws.length<=1048576)(hi:0<=i)(h:i.toNat+l.length<=ws.length):CP (blkF f144 0) (Tg.st ⟨tm 41 [(2,Z01 l),(8,int i),(10,.ow 32024),(11,int 0)],[(32024,.arr 35 1 (ws.map wdv))],60⟩) .nrm (Tg.st ⟨tm 41 [(10,.ow 32024)],[(32024,.arr 35 1 ((spl ws i.toNat l).map wdv))],60⟩):=by
 have:=Z08 (S:=λk=>(Z81 ws l i k).st) l.length kr (λk hk=>ZeB ws l i k hw hi h hk) (Zjr ws l i);simp only[Z81,Z8a]at this;exact this
def Z4T(ws l:List Int)(a:Int)(hw:ws.length<=1048576)(h0:0<=a/\a<=18446744073709551615)(hl:l.length<=1048576):GP 144 [Z01 ws,u64 a,Z01 l] X (.tu [Z01 (Z0D ws a l).1,int (Z0D ws a l).2]) []:=by
 have Q0 {h_ c_ p_} (r_:Fq h_ c_ p_):=Fl 16 wdv l (Fc 17 (@Z5m ws a ((l.length:Int)) aa aa) r_);rcases bb (!(Z0b ws a (l.length:Int)).2)with hc0 | hc0<;>have hc0p:=hc0<;>simp only[bs]at hc0p
 .have hf3:=ZdB hc0p;exact gF [] func144 [X] (Q0 (Ft 21 hc0 (Fnl (Fa (by(simp only[Z0D] ;exact sj):[]=M wdv (Z0D ws a l).1) (Fa (by(simp only[Z0D] ;exact sj):2=(Z0D ws a l).2) Fz)))))
 .have hf5:=Zd5 hc0p;obtain⟨hf5a,⟨hf5ba,⟨hf5bba,hf5bbb⟩⟩⟩:=hf5;rw[show Z0D ws a l=(spl ws (Z0b ws a (l.length:Int)).1.toNat l,(0:Int))from by simp[Z0D, *]];exact gF [] func144 [] (Q0 (Ff 21 hc0 (FAx 22 24 wdv ws (by(simp[Z0D, *];omega)) (Fu (@Zgy ws l ((Z0b ws a (l.length:Int)).1) aa oq oq) (Fa (by exact Z4k _:Z1s (M wdv (spl ws (Z0b ws a (l.length:Int)).1.toNat l))) Fz)))))
def Z8z(ws:List Int)(a v:Int)(hw:ws.length<=1048576)(h0:0<=a/\a<=18446744073709551615):GP 116 [Z01 ws,u64 a,u64 v] Z (.tu [Z01 (Z1m ws a v).1,int (Z1m ws a v).2]) []:=by
 exact gF [] func116 [] (Fs 11 (M wdv [v]) (Fc 12 (@Z4T ws ([v]) a aa aa (by simp[Z1m, *])) Fz))
def ZkB(ws:List Int)(a b n:Int)(hw:ws.length<=1048576)(h0:0<=a/\a<=18446744073709551615)(h1:0<=b/\b<=18446744073709551615):GP 187 [Z01 ws,u64 a,u64 b,int n] Z (.tu [Z01 (moveA ws a b n).1,int (moveA ws a b n).2]) []:=by
 have hr:=Zc7 ws b n;have Q0 {h_ c_ p_} (r_:Fq h_ c_ p_):=Fc 16 (@Zb1 ws b n aa aa) r_;rcases bb ((Z1e ws b n).2 != 0)with hc0 | hc0<;>have hc0p:=hc0<;>simp only[bs]at hc0p
 .exact gF [] func187 [X] (Q0 (Ft 20 hc0 (Fnl (Fa (by simp[moveA, *]:[]=M wdv (moveA ws a b n).1) (Fa (by simp[moveA, *]:(Z1e ws b n).2=(moveA ws a b n).2) Fz)))))
 .rw[show moveA ws a b n=Z0D ws a (Z1e ws b n).1 from by simp[moveA, *]];exact gF [] func187 [] (Q0 (Ff 20 hc0 (Fc 25 (@Z4T ws ((Z1e ws b n).1) a aa aa oq) Fz)))
def Z33(n:Int):GP 118 [int n] X (bool (Y (0<=n)&&Y (n<=2147483647))) []:=by
 exact gF [] func118 [] Fz
def Z1a(sp:Int):List Page->Nat
 | []=>0
 | p::r=>if p.K=3/\p.S=sp then Z1a sp r+1 else 0
def Z5p(sp:Int):∀ l,Z1a sp l<=l.length
 | []=>LB _
 | p::r=>by
  have:=Z5p sp r;simp only[Z1a,List.length_cons];split<;>omega
def drop_at{l:List Page}{k:Nat}(h:k<l.length):l.drop k=l.getD k L::l.drop (k+1):=by
 rw[List.drop_eq_getElem_cons h];simp[Lr,h]
def Zfh(l:List Page)(sp:Int)(n k:Nat):Tg:=⟨tm 37 [(0,Z0y l),(2,int sp),(7,int n),(8,int k)],[],60⟩
def Zhu(l:List Page)(hl:l.length<=1048576)(sp:Int)(n k:Nat)(hn:n<=k)(hk:k<l.length)(h:(l.getD k L).K=3/\(l.getD k L).S=sp):CP (rndF f119 0) (Zfh l sp n k).st .nrm (Zfh l sp (n+1) (k+1)).st:=by
 let y0:=(k:Int)<(l.length:Int);exact sF [] [] (Fl 13 Page.dv l (FeG 18 (decide y0) Page.dv l (↑k) k (FeG 26 (decide y0&&(l.getD k L).K==3) Page.dv l (↑k) k (Ftb 31 (decide y0&&(l.getD k L).K==3&&(l.getD k L).S==sp) (Fx 35 n (Fx 33 k Fz))))))
def ZfG(l:List Page)(hl:l.length<=1048576)(sp:Int)(n k:Nat)(h:k<l.length->¬ ((l.getD k L).K=3/\(l.getD k L).S=sp)):CP (rndF f119 0) (Zfh l sp n k).st (.ext 0) (Tg.st ⟨tm 37 [(7,int n)],[],60⟩):=by
 let y0:=(k:Int)<(l.length:Int);exact sF [] [] (Fl 13 Page.dv l (FeG 18 (decide y0) Page.dv l (↑k) k (FeG 26 (decide y0&&(l.getD k L).K==3) Page.dv l (↑k) k (Ffb 31 (decide y0&&(l.getD k L).K==3&&(l.getD k L).S==sp) Fz))))
def ZmY(l:List Page)(hl:l.length<=1048576)(sp:Int):∀ (m n k:Nat),l.length-k=m->n<=k->LSpec prog f119 0 (Zfh l sp n k).st (.ext 0) (Tg.st ⟨tm 37 [(7,int ((n+Z1a sp (l.drop k):Nat):Int))],[],60⟩):=by
 intro m;induction m with
 | zero =>
  intro n k hm hn;have e:l.drop k=[]:=List.drop_eq_nil_of_le oq;rw[e];exact .endx (ZfG l hl sp n k (λh=>by omega))
 | succ m ih =>
  intro n k hm hn;rw[drop_at oq,Z1a];by_cases h:(l.getD k L).K=3/\(l.getD k L).S=sp
  .rw[if_pos h];have:=ih (n+1) (k+1) oq oq;rw[show n+1+Z1a sp (l.drop (k+1))=n+(Z1a sp (l.drop (k+1))+1)from by omega]at this;exact .next (Zhu l hl sp n k hn oq h) this
  .rw[if_neg h];exact .endx (ZfG l hl sp n k (λ_=>h))
def Zji(l:List Page)(sp:Int)(k:Nat)(hl:l.length<=1048576):CP (blkF f119 0) (Tg.st ⟨tm 37 [(0,Z0y l),(2,int sp),(7,int 0),(8,int k)],[],60⟩) .nrm (Tg.st ⟨tm 37 [(7,int (Z1a sp (l.drop k)))],[],60⟩):=by
 have:=(ZmY l hl sp _ 0 k rfl oq).ext kr;rw[Nat.zero_add]at this;exact this
def ZcZ(l:List Page)(i:Nat)(sp:Int)(hl:l.length<=1048576)(hi:i<l.length):GP 119 [Z0y l,int i,int sp] X (int (Z1a sp (l.drop (i+1)))) []:=by
 exact gF [] func119 [] (Fx 10 i (Fu (@Zji l sp (i+1) aa) Fz))
def rchk(c:Conf)(l:List Page)(i:Nat)(due:Int):Prop :=
 ((l.getD i L).K=3↔0<due)/\0<=(l.getD i L).S/\(l.getD i L).S<=1/\0<=(l.getD i L).N/\(l.getD i L).N<=2147483647 /\
 0<=(l.getD i L).K/\(l.getD i L).K<=3 /\
 ((l.getD i L).K=0->(l.getD i L).S=0/\(l.getD i L).U=0/\(l.getD i L).N=0) /\
 ((l.getD i L).K=1->0<=(l.getD i L).U/\(l.getD i L).U<=c.pw) /\
 ((l.getD i L).K=2->1<=need c (l.getD i L).U/\need c (l.getD i L).U-1<=Z1a (l.getD i L).S (l.drop (i+1))) /\
 ((l.getD i L).K=3->(l.getD i L).U=0/\(l.getD i L).N=0)
def rdue(c:Conf)(l:List Page)(i:Nat)(due:Int):Int:=if(l.getD i L).K=2 then need c (l.getD i L).U-1 else max 0 (due-1)
def Za5(h:Heap)(i:Nat)(due:Int):Tg:=⟨tm 157 [(1,.pt 8001 0 0),(2,bool Z),(3,int due),(4,int i)],[(8001,.box 28 h.cells)],60⟩
def Z1J(c:Conf)(n:Int):-1<=need c n/\need c n<=5:=by
 unfold need;split
 .rename_i h;have:=validB_iff.1 h.1;split
  .omega
  .have h1:0<=(n+c.pw-1)/c.pw:=Lx oq oq;have h2:(n+c.pw-1)/c.pw<6:=LC oq oq;omega
 .omega
def Zap(h:Heap)(i:Nat)(due:Int)(hl:h.P.length<=1048576)(hi:i<h.P.length)(hd:0<=due/\due<=5)(hc:rchk h.C h.P i due):CP (rndF f65 0) (Za5 h i due).st .nrm (Za5 h (i+1) (rdue h.C h.P i due)).st:=by
 have hn:=Z1J h.C (h.P.getD i L).U;have ht:=Z5p (h.P.getD i L).S (h.P.drop (i+1));rw[Ls]at ht;unfold rchk at hc;let y0:=h.P.getD i L;have Q0 {h_ c_ p_} (r_:Fq h_ c_ p_):=FN 72 73 79 Page.dv h.P i (FcG 100 (!(!(y0.K==3)==Y (0<due)||Y (y0.S<0)||Y (1<y0.S))) (λhg=>by(try simp only[bs]at hg);exact @Z33 (y0.N)) (Ffb 102 (!(y0.K==3)==Y (0<due)||Y (y0.S<0)||Y (1<y0.S)||!(Y (0<=y0.N)&&Y (y0.N<=2147483647))) r_));rcases bb ((h.P.getD i L).K==0)with hc0 | hc0<;>have hc0p:=hc0<;>simp only[bs]at hc0p
 .exact sF [] (fO 12) (Fh 105 [.br X] (Q0 (Fa hc0 (Ffb 109 (!(y0.K==0&&(y0.S==0&&(y0.U==0&&y0.N==0)))) (Fi 155 (due-1) (Fgo 156 (if due-1 > 0 then due-1 else 0) (max 0 (due-1)) (Fx 75 i (Fa (by grind[rdue]:max 0 (due-1)=rdue h.C h.P i due) Fz))))))))
 .rcases bb ((h.P.getD i L).K==1)with hc1 | hc1<;>have hc1p:=hc1<;>simp only[bs]at hc1p
  .exact sF [] (fO 18) (Fh 110 [.br X] (Fh 122 [.br Z] (Q0 (Fa hc0 (Fa hc1 (Ffb 105 (Y (y0.U<0)||Y (h.C.pw<y0.U)) (Fi 155 (due-1) (Fgo 156 (if due-1 > 0 then due-1 else 0) (max 0 (due-1)) (Fx 75 i (Fa (by grind[rdue]:max 0 (due-1)=rdue h.C h.P i due) Fz))))))))))
  .rcases bb ((h.P.getD i L).K==2)with hc2 | hc2<;>have hc2p:=hc2<;>simp only[bs]at hc2p
   .let y1:=need h.C y0.U-1;exact sF [] (fO 21) (Fh 110 [.br Z] (Fh 123 [.br X] (Fh 142 [.br Z] (Q0 (Fa hc0 (Fa hc1 (Fa hc2 (Fc 129 (@Z3V h.C (y0.U)) (FcG 138 (!decide (need h.C y0.U<1)) (λhg=>by(try simp only[bs]at hg);exact @ZcZ h.P i (y0.S) aa aa) (FiG 140 (!decide (need h.C y0.U<1)) y1 (Ffb 105 (Y (need h.C y0.U<1)||Y ((↑(Z1a y0.S (Lg (i+1) h.P)):Int)<need h.C y0.U-1)) (Fi 155 y1 (Fgo 156 (if need h.C y0.U-1 > 0 then need h.C y0.U-1 else 0) (max 0 y1) (Fx 75 i (Fa (by grind[rdue]:max 0 y1=rdue h.C h.P i due) Fz)))))))))))))))
   .exact sF [] (fO 15) (Fh 110 [.br Z] (Fh 123 [.br Z] (Fh 144 [.br X] (Fh 153 [.br Z] (Q0 (Fa hc0 (Fa hc1 (Fa hc2 (Fb ((y0.K==3)=X) (Ffb 105 (y0.U != 0||y0.N != 0) (Fi 155 (due-1) (Fgo 156 (if due-1 > 0 then due-1 else 0) (max 0 (due-1)) (Fx 75 i (Fa (by grind[rdue]:max 0 (due-1)=rdue h.C h.P i due) Fz))))))))))))))
def ZkI(h:Heap)(i:Nat)(due:Int)(hl:h.P.length<=1048576)(hi:i<h.P.length)(hd:0<=due/\due<=5)(hc:¬ rchk h.C h.P i due):CP (rndF f65 0) (Za5 h i due).st .ret (Tg.st ⟨tm 157 [(2,bool Z)],[],60⟩):=by
 have hn:=Z1J h.C (h.P.getD i L).U;have ht:=Z5p (h.P.getD i L).S (h.P.drop (i+1));rw[Ls]at ht;unfold rchk at hc;let y0:=h.P.getD i L;have Q0 {h_ c_ p_} (r_:Fq h_ c_ p_):=FN 72 73 79 Page.dv h.P i (FcG 100 (!(!(y0.K==3)==Y (0<due)||Y (y0.S<0)||Y (1<y0.S))) (λhg=>by(try simp only[bs]at hg);exact @Z33 (y0.N)) r_);rcases bb (!((h.P.getD i L).K==3)==Y (0<due)||Y ((h.P.getD i L).S<0)||Y (1<(h.P.getD i L).S)||!(Y (0<=(h.P.getD i L).N)&&Y ((h.P.getD i L).N<=2147483647)))with hc0 | hc0<;>have hc0p:=hc0<;>simp only[bs]at hc0p
 .exact sF [] [] (Q0 (Ft 102 hc0 Fz))
 .obtain⟨⟨⟨hc0paaa,hc0paab⟩,hc0pab⟩,⟨hc0pba,hc0pbb⟩⟩:=hc0p;rcases bb ((h.P.getD i L).K==0)with hc1 | hc1<;>have hc1p:=hc1<;>simp only[bs]at hc1p
  .exact sF [] [] (Fh 109 [.br X] (Q0 (Ff 102 hc0 (Fa hc1 (Ftb 105 (!(y0.K==0&&(y0.S==0&&(y0.U==0&&y0.N==0)))) Fz)))))
  .rcases bb ((h.P.getD i L).K==1)with hc2 | hc2<;>have hc2p:=hc2<;>simp only[bs]at hc2p
   .exact sF [] [] (Fh 105 [.br Z] (Fh 122 [.br X] (Q0 (Ff 102 hc0 (Fa hc1 (Fa hc2 (Ftb 110 (Y ((h.P.getD i L).U<0)||Y (h.C.pw<(h.P.getD i L).U)) Fz)))))))
   .rcases bb ((h.P.getD i L).K==2)with hc3 | hc3<;>have hc3p:=hc3<;>simp only[bs]at hc3p
    .exact sF [] [] (Fh 105 [.br Z] (Fh 110 [.br Z] (Fh 142 [.br X] (Q0 (Ff 102 hc0 (Fa hc1 (Fa hc2 (Fa hc3 (Fc 129 (@Z3V h.C (y0.U)) (FcG 138 (!decide (need h.C y0.U<1)) (λhg=>by(try simp only[bs]at hg);exact @ZcZ h.P i (y0.S) aa aa) (FiG 140 (!decide (need h.C y0.U<1)) (need h.C y0.U-1) (Ftb 123 (Y (need h.C y0.U<1)||Y ((↑(Z1a y0.S (Lg (i+1) h.P)):Int)<need h.C y0.U-1)) Fz))))))))))))
    .rcases bb ((h.P.getD i L).K==3)with hc4 | hc4<;>have hc4p:=hc4<;>simp only[bs]at hc4p
     .exact sF [] [] (Fh 105 [.br Z] (Fh 110 [.br Z] (Fh 123 [.br Z] (Fh 153 [.br X] (Q0 (Ff 102 hc0 (Fa hc1 (Fa hc2 (Fa hc3 (Fa hc4 (Ftb 144 (y0.U != 0||y0.N != 0) Fz)))))))))))
     .exact sF [] [] (Fh 105 [.br Z] (Fh 110 [.br Z] (Fh 123 [.br Z] (Fh 144 [.br Z] (Q0 (Ff 102 hc0 (Fa hc1 (Fa hc2 (Fa hc3 (Fa hc4 Fz))))))))))
def Zfu(h:Heap)(due:Int):CP (rndF f65 0) (Za5 h h.P.length due).st (.ext 0) (Tg.st ⟨tm 157 [],[],60⟩):=by
 exact sF [] [] (FO 72 73 Page.dv h.P Fz)
instance (c:Conf) (l:List Page) (i:Nat) (due:Int):Decidable (rchk c l i due):=by unfold rchk;infer_instance
def rpB(c:Conf)(l:List Page):Nat->Nat->Int->Bool
 | 0,_,_=>X
 | f+1,i,due=>if i<l.length then Y (rchk c l i due)&&rpB c l f (i+1) (rdue c l i due)else X
def ZlZ{c:Conf}{l:List Page}{f i:Nat}{due:Int}(h:l.length<=i):rpB c l f i due=X:=by
 cases f with
 | zero=>rfl
 | succ f=>rw[rpB,if_neg oq]
def ZbJ{c:Conf}{l:List Page}{f i:Nat}{due:Int}(h:i<l.length)(hf:l.length<=i+f):rpB c l f i due=(Y (rchk c l i due)&&rpB c l (f-1) (i+1) (rdue c l i due)):=by
 cases f with
 | zero=>omega
 | succ f=>rw[rpB,if_pos h];rfl
def Z5H{c:Conf}{l:List Page}{f i:Nat}(h:i<l.length)(hf:l.length<=i+f):Z2o c l f i=(if Z1n c l i=0 then Z else Z2o c l (f-1) (i+Z1n c l i)):=by
 cases f with
 | zero=>omega
 | succ f=>rw[Z2o,if_pos h];rfl
def Ze2{c:Conf}{l:List Page}:∀ {m f g i:Nat},l.length-i<=m->l.length<=i+f->l.length<=i+g->Z2o c l f i=Z2o c l g i:=by
 intro m;induction m with
 | zero =>
  intro f g i hm hf hg;have e:∀ f,Z2o c l f i=X:=by
   intro f;cases f with
   | zero=>rw[Z2o,decide_eq_true oq]
   | succ f=>rw[Z2o,if_neg oq]
  rw[e,e]
 | succ m ih =>
  intro f g i hm hf hg;by_cases h:i<l.length
  .rw[Z5H h hf,Z5H h hg];by_cases h0:Z1n c l i=0
   .rw[if_pos h0,if_pos h0]
   .rw[if_neg h0,if_neg h0];exact ih oq oq oq
  .exact ih oq hf hg
def getD_at{l:List Page}{i:Nat}(h:i<l.length):l[i]? = O (l.getD i L):=by
 simp[Lr,h]
def Zip{c:Conf}{l:List Page}{sp:Int}(hsp:sp=0\/sp=1)(q:Page)(hq:q.S=sp):∀ (d f i:Nat),d<=Z1a sp (l.drop i)->i+d<=l.length->l.length<=i+f ->
  rpB c l f i d=(Z5A q ((l.drop i).take d)&&rpB c l (f-d) (i+d) 0):=by
 intro d;induction d with
 | zero=>intro f i _ _ _;simp[Z5A]
 | succ d ih =>
  intro f i h1 h2 hf;have hi:i<l.length:=by omega
  rw[drop_at hi,Z1a]at h1;by_cases hk:(l.getD i L).K=3/\(l.getD i L).S=sp
  .rw[if_pos hk]at h1;have hd:rdue c l i ((d+1:Nat):Int)=(d:Int):=by
    unfold rdue;rw[if_neg oq];omega
   rw[ZbJ hi hf,hd,ih (f-1) (i+1) oq oq oq,drop_at hi,LQ,show f-1-d=f-(d+1)from by omega,show i+1+d=i+(d+1)from by omega];have e:Y (rchk c l i ((d+1:Nat):Int))=Z5x (l.getD i L) q:=by
    rw[Lv];simp only[decide_eq_true_eq,Z5x];unfold rchk;generalize l.getD i L=p at hk;obtain⟨a,b,u,v⟩:=p;simp only[Page.mk.injEq]at hk ⊢;omega
   rw[e];simp[Z5A,Bool.and_assoc]
  .rw[if_neg hk]at h1;omega
def Z4C{sp:Int}{q:Page}(hq:q.S=sp):∀ {l:List Page} {d:Nat},Z5A q (l.take d)=X->d<=l.length->d<=Z1a sp l
 | _,0,_,_=>Nat.zero_le _
 | [],d+1,_,h=>by simp at h
 | p::l,d+1,h,hl=>by
  simp only[Z5A,LQ,LF,Le]at h;have h1:=h.1;simp only[Z5x,decide_eq_true_eq]at h1;have:=Z4C (sp:=sp) hq (l:=l) (d:=d) h.2 (by simpa using hl);rw[Z1a,if_pos (by rw[h1];exact⟨rfl,hq⟩)];omega
def ZjO{c:Conf}{l:List Page}:∀ {m f i:Nat},l.length-i<=m->l.length<=i+f->rpB c l f i 0=Z2o c l f i:=by
 intro m;induction m with
 | zero =>
  intro f i hm hf;rw[ZlZ oq];cases f with
  | zero=>rw[Z2o,decide_eq_true oq]
  | succ f=>rw[Z2o,if_neg oq]
 | succ m ih =>
  intro f i hm hf;by_cases hi:i<l.length;rotate_left
  .exact ih oq hf
  have hp:=getD_at hi;rw[ZbJ hi hf,Z5H hi hf];generalize hpe:l.getD i L=p at hp;have hone:∀ (b:Bool),rdue c l i 0=0->Y (rchk c l i 0)=b->Z1n c l i=(if b=X then 1 else 0)->(Y (rchk c l i 0)&&rpB c l (f-1) (i+1) (rdue c l i 0))=(if Z1n c l i=0 then Z else Z2o c l (f-1) (i+Z1n c l i)):=by
   intro b h1 h2 h3;rw[h1,h2,h3,ih oq oq];cases b<;>simp
  by_cases hk2:p.K=2;rotate_left
  .have hd:rdue c l i 0=0:=by unfold rdue;rw[hpe,if_neg hk2];omega
   by_cases hk0:p.K=0
   .refine hone (Z56 p) hd ?_ (by rw[Z1n,hp];simp only[hk0,if_true]);rw[Lv];simp only[decide_eq_true_eq,Z56];unfold rchk;rw[hpe];obtain⟨a,b,u,v⟩:=p;simp only[Page.mk.injEq]at hk0 hk2 ⊢;omega
   .by_cases hk1:p.K=1
    .refine hone (Z5f p c) hd ?_ (by rw[Z1n,hp];simp[hk1]);rw[Lv];simp only[decide_eq_true_eq,Z5f,Z2S,Z3w,Le,Lq,beq_iff_eq];unfold rchk;rw[hpe];omega
    .refine hone Z hd ?_ (by rw[Z1n,hp];simp[hk0,hk1,hk2]);simp only[decide_eq_false_iff_not];unfold rchk;rw[hpe];omega
  .have hd:rdue c l i 0=need c p.U-1:=by unfold rdue;rw[hpe,if_pos hk2]
   have hrc:rchk c l i 0↔Z2p p c=X/\need c p.U-1<=Z1a p.S (l.drop (i+1)):=by
    simp only[Z2p,Z2S,Z3w,Le,Lq,beq_iff_eq,decide_eq_true_eq];unfold rchk;rw[hpe];omega
   have hsp:Z1n c l i=(if Z2p p c=X then(if(need c p.U).toNat<=l.length-i/\Z5A p ((l.drop (i+1)).take ((need c p.U).toNat-1))=X then(need c p.U).toNat else 0)else 0):=by
    rw[Z1n,hp];simp[hk2]
   by_cases hl:Z2p p c=X
   .have hn:1<=need c p.U/\(p.S=0\/p.S=1):=by
     simp only[Z2p,Z2S,Z3w,Le,Lq,beq_iff_eq,decide_eq_true_eq]at hl;omega
    have htl:=Z5p p.S (l.drop (i+1));rw[Ls]at htl;rw[hsp,if_pos hl,hd];by_cases ht:need c p.U-1<=Z1a p.S (l.drop (i+1))
    .rw[decide_eq_true (hrc.2 ⟨hl,ht⟩),Lw];have e:need c p.U-1=(((need c p.U).toNat-1:Nat):Int):=by omega
     rw[e,Zip hn.2 p rfl _ _ _ oq oq oq];have hfit:(need c p.U).toNat<=l.length-i:=by omega
     cases htb:Z5A p ((l.drop (i+1)).take ((need c p.U).toNat-1))with
     | false=>simp
     | true =>
      simp only[hfit,and_self,if_true];rw[if_neg oq,Lw,ih oq oq,show i+1+((need c p.U).toNat-1)=i+(need c p.U).toNat from by omega];exact Ze2 (m:=l.length) oq oq oq
    .rw[decide_eq_false (λh=>ht (hrc.1 h).2),Bool.false_and];have hno:¬ ((need c p.U).toNat<=l.length-i/\Z5A p ((l.drop (i+1)).take ((need c p.U).toNat-1))=X):=by
      intro h;have:=Z4C (sp:=p.S) (q:=p) rfl h.2 (by rw[Ls];omega);omega
     rw[if_neg hno];simp
   .rw[hsp,if_neg hl,decide_eq_false (λh=>hl (hrc.1 h).1)];simp
def Zaw{c:Conf}{l:List Page}{i:Nat}{due:Int}(hd:0<=due/\due<=5)(hc:rchk c l i due):0<=rdue c l i due/\rdue c l i due<=5:=by
 have:=Z1J c (l.getD i L).U;unfold rchk at hc;unfold rdue;split<;>omega
def Zoq(h:Heap)(hl:h.P.length<=1048576):∀ (f i:Nat) (due:Int),i<=h.P.length->h.P.length<=i+f->0<=due/\due<=5->rpB h.C h.P f i due=X->LSpec prog f65 0 (Za5 h i due).st (.ext 0) (Tg.st ⟨tm 157 [],[],60⟩):=by
 intro f;induction f with
 | zero =>
  intro i due hi hf hd hr;have:i=h.P.length:=by omega
  subst this;exact .endx (Zfu h due)
 | succ f ih =>
  intro i due hi hf hd hr;by_cases he:i<h.P.length
  .rw[rpB,if_pos he,Le]at hr;have hc:=of_decide_eq_true hr.1;exact .next (Zap h i due hl he hd hc) (ih (i+1) _ oq oq (Zaw hd hc) hr.2)
  .have:i=h.P.length:=by omega
   subst this;exact .endx (Zfu h due)
def Zhb(h:Heap)(hl:h.P.length<=1048576):∀ (f i:Nat) (due:Int),0<=due/\due<=5->rpB h.C h.P f i due=Z->LSpec prog f65 0 (Za5 h i due).st .ret (Tg.st ⟨tm 157 [(2,bool Z)],[],60⟩):=by
 intro f;induction f with
 | zero=>intro i due hd hr;cases hr
 | succ f ih =>
  intro i due hd hr;by_cases he:i<h.P.length
  .rw[rpB,if_pos he]at hr;by_cases hc:rchk h.C h.P i due
   .rw[decide_eq_true hc,Lw]at hr;exact .next (Zap h i due hl he hd hc) (ih (i+1) _ (Zaw hd hc) hr)
   .exact .endr (ZkI h i due hl he hd hc)
  .rw[rpB,if_neg he]at hr;cases hr
def ZiD(h:Heap)(hl:h.P.length<=1048576)(hr:rpB h.C h.P h.P.length 0 0=X):CP (blkF f65 0) (Tg.st ⟨tm 157 [(1,.pt 8001 0 0),(2,bool Z),(3,int 0),(4,int 0)],[(8001,.box 28 h.cells)],60⟩) .nrm (Tg.st ⟨tm 157 [],[],60⟩) :=
 (Zoq h hl _ 0 0 oq oq oq hr).ext kr
def Zdi(h:Heap)(hl:h.P.length<=1048576)(hr:rpB h.C h.P h.P.length 0 0=Z):CP (blkF f65 0) (Tg.st ⟨tm 157 [(1,.pt 8001 0 0),(2,bool Z),(3,int 0),(4,int 0)],[(8001,.box 28 h.cells)],60⟩) .ret (Tg.st ⟨tm 157 [(2,bool Z)],[],60⟩) :=
 (Zhb h hl _ 0 0 oq hr).ret kr
def Z8g(l:List Page)(i:Int):Z1h l i=l.getD i.toNat L:=by
 rw[Z1h,Lo];rfl
def properB_iff{h:Heap}:Z02 h=X↔Z06 h.C=X/\(h.W.length:Int)=h.C.pw*h.C.pg/\(h.P.length:Int)=h.C.pg/\(h.S=0\/h.S=1) /\
  (h.B=-1\/(0<=h.B/\h.B<h.P.length/\(h.P.getD h.B.toNat L).K=1))/\rpB h.C h.P h.P.length 0 0=X:=by
 rw[ZjO (m:=h.P.length) oq oq];simp only[Z02,Le,shapeB_iff,Zjl,Lq,beq_iff_eq,decide_eq_true_eq,Z8g];constructor
 .rintro⟨⟨h1,h2,h3,h4⟩,h5,h6⟩;exact⟨h1,h2,h3,h4,by omega,h6⟩
 .rintro⟨h1,h2,h3,h4,h5,h6⟩;exact⟨⟨h1,h2,h3,h4⟩,by omega,h6⟩
def Z0h(h:Heap):GP 65 [h.av] X (bool (Z02 h)) []:=by
  by_cases hv:Z06 h.C=X
  . have ha:=area hv;rw[Ln]at ha;have hv':=validB_iff.1 hv;have ei:h.C.pg*h.C.pw=h.C.pw*h.C.pg:=Ln _ _;cases hs:rpB h.C h.P h.P.length 0 0 with
    | true => rcases Lu (!Z06 h.C||(h.W.length:Int) != h.C.pw*h.C.pg||(h.P.length:Int) != h.C.pg||Y (h.S<(0:Int))||Y ((1:Int)<h.S))with hc0 | hc0
              . have hc0p:=hc0;simp only[bs]at hc0p;exact gF [] func65 (fO 24) (Fh 21 [.int (h.C.pw*h.C.pg)] (Fc 9 (@Z0x h.C) (FlG 14 (!!Z06 h.C) wdv h.W (Fa (by intro hg;(try simp only[bs]at hg);rw[wrapI' oq oq];omega:(!!Z06 h.C)=X->Lb.wrap (h.C.pg*h.C.pw)=h.C.pw*h.C.pg) (FlG 27 (!(!Z06 h.C||(h.W.length:Int) != h.C.pw*h.C.pg)) Page.dv h.P (Ft 42 ‹(!Z06 h.C||(h.W.length:Int) != h.C.pw*h.C.pg||(h.P.length:Int) != h.C.pg||Y (h.S<0)||Y (1<h.S))=X› (Fa (by exact(Lm.2 (λhh=>by obtain⟨q1,q2,q3,q4,q5,q6⟩:=properB_iff.1 hh;simp[hv]at hc0p;omega)).symm:Z=Z02 h) Fz)))))))
              . have hc0p:=hc0;simp only[bs]at hc0p;obtain⟨⟨⟨⟨hc0paaaa,hc0paaab⟩,hc0paab⟩,hc0pab⟩,hc0pb⟩:=hc0p;have Q0 {h_ c_ p_} (r_:Fq h_ c_ p_):=Fc 9 (@Z0x h.C) (FlG 14 (!!Z06 h.C) wdv h.W (Fa (by intro hg;(try simp only[bs]at hg);rw[wrapI' oq oq];omega:(!!Z06 h.C)=X->Lb.wrap (h.C.pg*h.C.pw)=h.C.pw*h.C.pg) (FlG 27 (!(!Z06 h.C||(h.W.length:Int) != h.C.pw*h.C.pg)) Page.dv h.P (Ff 42 ‹(!Z06 h.C||(h.W.length:Int) != h.C.pw*h.C.pg||(h.P.length:Int) != h.C.pg||Y (h.S<0)||Y (1<h.S))=Z› (FlG 55 (h.B != (-1:Int)&&!decide (h.B<0)) Page.dv h.P (FeGq 63 (h.B != (-1:Int)&&!(Y (h.B<0)||Y ((h.P.length:Int)<=h.B))) Page.dv h.P h.B r_))))));rcases bb (h.B != (-1:Int)&&(Y (h.B<0)||Y ((h.P.length:Int)<=h.B)||(h.P.getD h.B.toNat L).K != 1))with hc1 | hc1<;>have hc1p:=hc1<;>simp only[bs]at hc1p
                . obtain⟨hc1pa,hc1pb⟩:=hc1p;exact gF [] func65 (fO 45) (Fh 21 [.int (h.C.pw*h.C.pg)] (Q0 (Ft 68 hc1 (Fa (by exact(Lm.2 (λhh=>by obtain⟨q1,q2,q3,q4,q5,q6⟩:=properB_iff.1 hh;omega)).symm:Z=Z02 h) Fz))))
                . exact gF [] func65 (fO 50) (Fh 21 [.int (h.C.pw*h.C.pg)] (Q0 (Ff 68 hc1 (Fu (@ZiD h oq aa) (Fa (by exact(properB_iff.2 ⟨hv,by omega,by omega,by omega,by omega,hs⟩).symm:X=Z02 h) Fz)))))
    | false => rcases Lu (!Z06 h.C||(h.W.length:Int) != h.C.pw*h.C.pg||(h.P.length:Int) != h.C.pg||Y (h.S<(0:Int))||Y ((1:Int)<h.S))with hc0 | hc0
               . have hc0p:=hc0;simp only[bs]at hc0p;exact gF [] func65 (fO 24) (Fh 21 [.int (h.C.pw*h.C.pg)] (Fc 9 (@Z0x h.C) (FlG 14 (!!Z06 h.C) wdv h.W (Fa (by intro hg;(try simp only[bs]at hg);rw[wrapI' oq oq];omega:(!!Z06 h.C)=X->Lb.wrap (h.C.pg*h.C.pw)=h.C.pw*h.C.pg) (FlG 27 (!(!Z06 h.C||(h.W.length:Int) != h.C.pw*h.C.pg)) Page.dv h.P (Ft 42 ‹(!Z06 h.C||(h.W.length:Int) != h.C.pw*h.C.pg||(h.P.length:Int) != h.C.pg||Y (h.S<0)||Y (1<h.S))=X› (Fa (by exact(Lm.2 (λhh=>by obtain⟨q1,q2,q3,q4,q5,q6⟩:=properB_iff.1 hh;simp[hv]at hc0p;omega)).symm:Z=Z02 h) Fz)))))))
               . have hc0p:=hc0;simp only[bs]at hc0p;obtain⟨⟨⟨⟨hc0paaaa,hc0paaab⟩,hc0paab⟩,hc0pab⟩,hc0pb⟩:=hc0p;have Q1 {h_ c_ p_} (r_:Fq h_ c_ p_):=Fc 9 (@Z0x h.C) (FlG 14 (!!Z06 h.C) wdv h.W (Fa (by intro hg;(try simp only[bs]at hg);rw[wrapI' oq oq];omega:(!!Z06 h.C)=X->Lb.wrap (h.C.pg*h.C.pw)=h.C.pw*h.C.pg) (FlG 27 (!(!Z06 h.C||(h.W.length:Int) != h.C.pw*h.C.pg)) Page.dv h.P (Ff 42 ‹(!Z06 h.C||(h.W.length:Int) != h.C.pw*h.C.pg||(h.P.length:Int) != h.C.pg||Y (h.S<0)||Y (1<h.S))=Z› (FlG 55 (h.B != (-1:Int)&&!decide (h.B<0)) Page.dv h.P (FeGq 63 (h.B != (-1:Int)&&!(Y (h.B<0)||Y ((h.P.length:Int)<=h.B))) Page.dv h.P h.B r_))))));rcases bb (h.B != (-1:Int)&&(Y (h.B<0)||Y ((h.P.length:Int)<=h.B)||(h.P.getD h.B.toNat L).K != 1))with hc1 | hc1<;>have hc1p:=hc1<;>simp only[bs]at hc1p
                 . obtain⟨hc1pa,hc1pb⟩:=hc1p;exact gF [] func65 (fO 45) (Fh 21 [.int (h.C.pw*h.C.pg)] (Q1 (Ft 68 hc1 (Fa (by exact(Lm.2 (λhh=>by obtain⟨q1,q2,q3,q4,q5,q6⟩:=properB_iff.1 hh;omega)).symm:Z=Z02 h) Fz))))
                 . exact gF [] func65 (fO 50) (Fh 21 [.int (h.C.pw*h.C.pg)] (Q1 (Ff 68 hc1 (Fu (@Zdi h oq aa) (Fa (by exact(Lm.2 (λhh=>by have q:=(properB_iff.1 hh).2.2.2.2.2;rw[hs]at q;cases q)).symm:Z=Z02 h) Fz)))))
  . have hf:Z06 h.C=Z:=by simpa using hv
    exact gF [] func65 (fO 24) (Fc 9 (@Z0x h.C) (FlG 14 (!!Z06 h.C) wdv h.W (FlG 27 (!(!Z06 h.C||(h.W.length:Int) != Lb.wrap (h.C.pg*h.C.pw))) Page.dv h.P (Ft 42 (by simp[*]:(!Z06 h.C||(h.W.length:Int) != Lb.wrap (h.C.pg*h.C.pw)||(h.P.length:Int) != h.C.pg||Y (h.S<0)||Y (1<h.S))=X) (Fa (by exact(Lm.2 (λhh=>hv (properB_iff.1 hh).1)).symm:Z=Z02 h) Fz)))))
def WOk(ws:List Int):Prop:=∀ w∈ws,0<=w/\w<=18446744073709551615
def ZnJ{ws:List Int}(h:WOk ws)(i:Nat):0<=ws.getD i 0/\ws.getD i 0<=18446744073709551615:=by
 rw[Lo];cases e:ws[i]? with
 | none=>simp
 | some x=>exact h x (Lk e)
def Z0H{ws:List Int}(h:WOk ws)(a:Int):0<=(loadA ws a).1/\(loadA ws a).1<=18446744073709551615:=by
 unfold loadA;split
 .exact ZnJ h _
 .simp
def Z29(w:Int)(h:0<=w):0<=(decodeH w).1.map/\(decodeH w).1.map<=4294967295:=by
 unfold decodeH;split
 .exact Z8P w h
 .simp[Z22]
def Z0a{h:Heap}(hp:Z02 h=X):Z06 h.C=X/\16<=h.C.pw/\h.C.pw<=64/\8<=h.C.pg/\h.C.pg<=64/\(h.W.length:Int)=h.C.pw*h.C.pg/\h.W.length<=4096/\(h.P.length:Int)=h.C.pg/\(h.S=0\/h.S=1):=by
 simp only[Z02,Le]at hp;obtain⟨h1,h2,h3,h4⟩:=shapeB_iff.1 hp.1;have hv:=validB_iff.1 h1;have:=area h1;exact⟨h1,hv.1,hv.2.1,hv.2.2.2.1,hv.2.2.2.2,h2,by omega,h3,h4⟩
def Z5e{c:Conf}{a:Int}(hv:Z06 c=X)(h:(ofA c a).2.2=0):0<=(ofA c a).1/\(ofA c a).1<c.pg/\0<=(ofA c a).2.1/\(ofA c a).2.1<c.pw/\4096<=a/\a<4096+c.pw*c.pg/\a=4096+((ofA c a).1*c.pw+(ofA c a).2.1):=by
 have hb:=validB_iff.1 hv;unfold ofA at h ⊢;rw[if_pos hv]at h ⊢;split at h
 .rename_i hc;rw[if_pos hc];simp only;have h1:0<=(a-4096)/c.pw:=Lx oq oq;have h2:(a-4096)/c.pw<c.pg:=LC oq (by rw[Ln];omega);have h3:=Int.emod_nonneg (a-4096) (b:=c.pw) oq;have h4:=Int.emod_lt_of_pos (a-4096) (b:=c.pw) oq;have h5:=Int.mul_ediv_add_emod (a-4096) c.pw;refine⟨h1,h2,h3,h4,hc.1,hc.2, ?_⟩;rw[Ln]at h5;omega
 .simp at h
def atH(h:Heap)(a:Int):Header×Int :=
 if Z02 h=X then
  (if(ofA h.C a).2.2=0 then
   (if((h.P.getD (ofA h.C a).1.toNat L).K=1\/(h.P.getD (ofA h.C a).1.toNat L).K=2)/\(ofA h.C a).2.1<(h.P.getD (ofA h.C a).1.toNat L).U/\(decodeH (loadA h.W a).1).2=X then
    (if((h.P.getD (ofA h.C a).1.toNat L).K=1/\(h.P.getD (ofA h.C a).1.toNat L).U<(ofA h.C a).2.1+sizeH (decodeH (loadA h.W a).1).1) \/
      ((h.P.getD (ofA h.C a).1.toNat L).K=2/\((ofA h.C a).2.1≠0\/sizeH (decodeH (loadA h.W a).1).1≠(h.P.getD (ofA h.C a).1.toNat L).U))then(Z22,19)
     else((decodeH (loadA h.W a).1).1,0))
    else(Z22,19))
   else(Z22,2))
 else(Z22,1)
def Z0T(h:Header):0<=sizeH h/\sizeH h<=256:=by
 unfold sizeH;split
 .have:=validH_iff.1 aa;omega
 .omega
def Z4Q(h:Heap)(a:Int)(hw:WOk h.W)(h0:0<=a/\a<=18446744073709551615):GP 91 [h.av,u64 a] X (.tu [(atH h a).1.av,int (atH h a).2]) []:=by
 have hr:=Z0H hw a;have hd:=Z29 (loadA h.W a).1 hr.1;have hs:=Z0T (decodeH (loadA h.W a).1).1;rcases bb (!Z02 h)with hc0 | hc0<;>have hc0p:=hc0<;>simp only[bs]at hc0p
 .rw[show atH h a=(Header.mk (0:Int) (0:Int) (0:Int),(1:Int))from by simp[atH,Z22, *]];exact gF [] func91 [] (Fc 16 (@Z0h h) (Ft 17 hc0 Fz))
 .have hf5:=Z0a hc0p;obtain⟨hf5a,⟨hf5ba,⟨hf5bba,⟨hf5bbba,⟨hf5bbbba,⟨hf5bbbbba,⟨hf5bbbbbba,⟨hf5bbbbbbba,hf5bbbbbbbb⟩⟩⟩⟩⟩⟩⟩⟩:=hf5;have Q0 {h_ c_ p_} (r_:Fq h_ c_ p_):=Fc 16 (@Z0h h) (Ff 17 hc0 (Fc 23 (@Z4j h.C a oq oq) r_));rcases bb ((ofA h.C a).2.2 != 0)with hc18 | hc18<;>have hc18p:=hc18<;>simp only[bs]at hc18p
  .rw[show atH h a=(Header.mk (0:Int) (0:Int) (0:Int),(2:Int))from by simp[atH,Z22, *]];exact gF [] func91 [] (Q0 (Ft 28 hc18 Fz))
  .have hf25:=Z5e aa hc18p;obtain⟨hf25a,⟨hf25ba,⟨hf25bba,⟨hf25bbba,⟨hf25bbbba,⟨hf25bbbbba,hf25bbbbbb⟩⟩⟩⟩⟩⟩:=hf25;have Q1 {h_ c_ p_} (r_:Fq h_ c_ p_):=Q0 (Ff 28 hc18 (Fe 33 Page.dv h.P ((ofA h.C a).1) (Fc 39 (@Z1H h.W a oq aa) (Fc 44 (@Z2P ((loadA h.W a).1) oq oq) r_))));rcases bb ((h.P.getD (ofA h.C a).1.toNat L).K != 1&&(h.P.getD (ofA h.C a).1.toNat L).K != 2||Y ((h.P.getD (ofA h.C a).1.toNat L).U<=(ofA h.C a).2.1)||!(decodeH (loadA h.W a).1).2)with hc27 | hc27<;>have hc27p:=hc27<;>simp only[bs]at hc27p
   .rw[show atH h a=(Header.mk (0:Int) (0:Int) (0:Int),(19:Int))from by grind[atH,Z22]];exact gF [] func91 [] (Q1 (Ft 64 hc27 Fz))
   .obtain⟨⟨hc27paa,hc27pab⟩,hc27pb⟩:=hc27p;have Q2 {h_ c_ p_} (r_:Fq h_ c_ p_):=Q1 (Ff 64 hc27 (Fc 67 (@Z1E ((decodeH (loadA h.W a).1).1) aa) (FiG 74 ((h.P.getD (ofA h.C a).1.toNat L).K==1) ((ofA h.C a).2.1+sizeH (decodeH (loadA h.W a).1).1) r_)));rcases bb ((h.P.getD (ofA h.C a).1.toNat L).K==1&&Y ((h.P.getD (ofA h.C a).1.toNat L).U<(ofA h.C a).2.1+sizeH (decodeH (loadA h.W a).1).1)||(h.P.getD (ofA h.C a).1.toNat L).K==2&&((ofA h.C a).2.1 != 0||sizeH (decodeH (loadA h.W a).1).1 != (h.P.getD (ofA h.C a).1.toNat L).U))with hc40 | hc40<;>have hc40p:=hc40<;>simp only[bs]at hc40p
    .rw[show atH h a=(Header.mk (0:Int) (0:Int) (0:Int),(19:Int))from by(simp only[atH,Z22] ;exact sj)];exact gF [] func91 [] (Q2 (Ft 93 hc40 Fz))
    .obtain⟨hc40pa,hc40pb⟩:=hc40p;rw[show atH h a=((decodeH (loadA h.W a).1).1,(0:Int))from by grind[atH,Z22]];exact gF [] func91 [] (Q2 (Ff 93 hc40 Fz))
abbrev aP(h:Heap)(a:Int):Page:=h.P.getD (ofA h.C a).1.toNat L
end Go.Proofs.YtgedmeaemofdkaaGreat
namespace Go.Proofs.YtgedmeaemofdkaaGreat
open Go.Sx Go.RowKit
def Z8j{α β:Type}{f:α->β}{p:α->Prop}:∀ {l:List β},(∀ x∈l,∃ a,x=f a/\p a)->∃ m:List α,l=m.map f/\∀ a∈m,p a
 | [],_=>⟨[],rfl,by simp⟩
 | x::l,h=>by
  obtain⟨a,rfl,ha⟩:=h x pq;obtain⟨m,rfl,hm⟩:=Z8j (l:=l) λy hy=>h y (by simp[hy]);exact⟨a::m,rfl,λb hb=>by rcases List.mem_cons.1 hb with rfl | hb;exact ha;exact hm b hb⟩
def Zd1{n:Nat}{l:List DV}(h:shp prog (n+2) 25 l):∃ m:List Int,l=[.sl 1 (m.map wdv)]/\m.length<=140737488355328/\WOk m:=by
 have e:shp prog (n+2) 25 l=(∃ els:List (List DV),l=[.sl 1 els]/\els.length<=140737488355328/\∀ x∈els,shp prog (n+1) 35 x):=by kernel_rfl
 rw[e]at h;obtain⟨els,rfl,h1,h2⟩:=h;obtain⟨m,rfl,hm⟩:=Z8j (f:=wdv) (p:=λx=>0<=x/\x<=18446744073709551615) λx hx=>by
  obtain⟨v,rfl,hv⟩:=ZoB (h2 x hx);exact⟨v,rfl,range_u64 hv⟩
 exact⟨m,rfl,by simpa using h1,hm⟩
def Zfs{n:Nat}{l:List DV}(h:shp prog (n+2) 22 l):∃ m:List Int,l=[.sl 1 (m.map idv)]/\m.length<=140737488355328:=by
 have e:shp prog (n+2) 22 l=(∃ els:List (List DV),l=[.sl 1 els]/\els.length<=140737488355328/\∀ x∈els,shp prog (n+1) 3 x):=by kernel_rfl
 rw[e]at h;obtain⟨els,rfl,h1,h2⟩:=h;obtain⟨m,rfl⟩:=Z73 (f:=idv) λx hx=>by
  obtain⟨v,rfl,_⟩:=Ze6 (h2 x hx);exact⟨v,rfl⟩
 exact⟨m,rfl,by simpa using h1⟩
def ZpM(h:Heap):List DV:=[dint h.C.pw,dint h.C.pg,.sl 1 (h.W.map wdv),.sl 4 (h.P.map Page.dv),dint h.S,dint h.B]
def Zm7{n:Nat}{l:List DV}(h:shp prog (n+4) 28 l):∃ x:Heap,l=ZpM x/\WOk x.W:=by
 have e:shp prog (n+4) 28 l=(∃ a b,l=a++b/\shp prog (n+3) 24 a/\∃ a1 b1,b=a1++b1/\shp prog (n+3) 25 a1/\∃ a2 b2,b1=a2++b2/\shp prog (n+3) 26 a2 /\
  ∃ a3 b3,b2=a3++b3/\shp prog (n+3) 3 a3/\∃ a4 b4,b3=a4++b4/\shp prog (n+3) 3 a4/\b4=[]):=by kernel_rfl
 rw[e]at h;obtain⟨a,b,rfl,k0,a1,b1,rfl,k1,a2,b2,rfl,k2,a3,b3,rfl,k3,a4,b4,rfl,k4,rfl⟩:=h;obtain⟨c,rfl⟩:=ZkN (n:=n+1) k0;obtain⟨ws,rfl,_,hw⟩:=Zd1 (n:=n+1) k1;obtain⟨ps,rfl,_⟩:=ZiW (n:=n) k2;obtain⟨s,rfl,_⟩:=Ze6 (n:=n+2) k3;obtain⟨u,rfl,_⟩:=Ze6 (n:=n+2) k4;exact⟨⟨c,ws,ps,s,u⟩,rfl,hw⟩
end Go.Proofs.YtgedmeaemofdkaaGreat
namespace Go.Proofs.YtgedmeaemofdkaaGreat
open Go.Sx
def Z70{w:Int}(h:(decodeH w).2=X):Z0i (decodeH w).1=X:=by
 unfold decodeH at h ⊢;split at h
 .rename_i hc;rw[if_pos hc];have:=hc.1;unfold Z0c at this;split at this
  .assumption
  .simp at this
 .cases h
def Zg4{h:Heap}{a:Int}(e:(atH h a).2=0):Z02 h=X/\(ofA h.C a).2.2=0/\4096<=a/\a<8192/\Z0i (atH h a).1=X/\0<=(atH h a).1.K/\(atH h a).1.K<=3/\0<=(atH h a).1.length/\(atH h a).1.length<=255:=by
 have key:Z02 h=X/\(ofA h.C a).2.2=0/\Z0i (atH h a).1=X:=by
  unfold atH at e ⊢;split at e
  .rename_i h1;split at e
   .rename_i h2;split at e
    .rename_i h3;split at e
     .simp at e
     .rename_i h4;rw[if_pos h1,if_pos h2,if_pos h3,if_neg h4];exact⟨h1,h2,Z70 h3.2.2⟩
    .simp at e
   .simp at e
  .simp at e
 obtain⟨k1,k2,k3⟩:=key;have p:=Z0a k1;have o:=Z5e p.1 k2;have v:=validH_iff.1 k3;have ar:=area p.1;exact⟨k1,k2,o.2.2.2.2.1,by omega,k3,v.1,v.2.1,v.2.2.1,v.2.2.2.1⟩
def Z27{h:Heap}(hw:WOk h.W)(a:Int):0<=(atH h a).1.map/\(atH h a).1.map<=4294967295:=by
 have hr:=Z0H hw a;have hd:=Z29 (loadA h.W a).1 hr.1;unfold atH;repeat' split
 all_goals first | exact hd | simp[Z22]
def getH(h:Heap)(a:Int):Header×Int:=if Z02 h=X then(if a=0 then(Z22,5)else if(atH h a).2=0/\(atH h a).1.K=0 then(Z22,4)else atH h a)else(Z22,1)
def Z7M{h:Heap}(hw:WOk h.W)(a:Int):0<=(getH h a).1.map/\(getH h a).1.map<=4294967295:=by
 have:=Z27 hw a;unfold getH;repeat' split
 all_goals first | exact this | simp[Z22]
def Z3A{h:Heap}{a:Int}(e:(getH h a).2=0):getH h a=atH h a/\(atH h a).2=0/\Z02 h=X/\(ofA h.C a).2.2=0/\4096<=a/\a<8192/\Z0i (getH h a).1=X/\1<=(getH h a).1.K/\(getH h a).1.K<=3/\0<=(getH h a).1.length/\(getH h a).1.length<=255:=by
 have key:getH h a=atH h a/\(atH h a).2=0/\(atH h a).1.K≠0:=by
  unfold getH at e ⊢;split at e
  .rename_i h1;split at e
   .simp at e
   .rename_i h2;split at e
    .simp at e
    .rename_i h3;rw[if_pos h1,if_neg h2,if_neg h3];exact⟨rfl,e,λh=>h3 ⟨e,h⟩⟩
  .simp at e
 obtain⟨k1,k2,k3⟩:=key;have k:=Zg4 k2;rw[k1];exact⟨rfl,k2,k.1,k.2.1,k.2.2.1,k.2.2.2.1,k.2.2.2.2.1,by omega,k.2.2.2.2.2.2.1,k.2.2.2.2.2.2.2.1,k.2.2.2.2.2.2.2.2⟩
def Z3e(h:Heap)(a:Int)(hw:WOk h.W)(h0:0<=a/\a<=18446744073709551615):GP 45 [h.av,u64 a] X (.tu [(getH h a).1.av,int (getH h a).2]) []:=by
 rcases bb (!Z02 h)with hc0 | hc0<;>have hc0p:=hc0<;>simp only[bs]at hc0p
 .rw[show getH h a=(Header.mk (0:Int) (0:Int) (0:Int),(1:Int))from by simp[getH,Z22, *]];exact gF [] func45 [] (Fc 9 (@Z0h h) (Ft 10 hc0 Fz))
 .rcases bb (a==0)with hc1 | hc1<;>have hc1p:=hc1<;>simp only[bs]at hc1p
  .rw[show getH h a=(Header.mk (0:Int) (0:Int) (0:Int),(5:Int))from by simp[getH,Z22, *]];exact gF [] func45 [] (Fc 9 (@Z0h h) (Ff 10 hc0 (Ft 13 hc1 Fz)))
  .have Q0 {h_ c_ p_} (r_:Fq h_ c_ p_):=Fc 9 (@Z0h h) (Ff 10 hc0 (Ff 13 hc1 (Fc 18 (@Z4Q h a aa aa) r_)));rcases bb ((atH h a).2==0&&(atH h a).1.K==0)with hc2 | hc2<;>have hc2p:=hc2<;>simp only[bs]at hc2p
   .obtain⟨hc2pa,hc2pb⟩:=hc2p;rw[show getH h a=(Header.mk (0:Int) (0:Int) (0:Int),(4:Int))from by simp[getH,Z22, *]];exact gF [] func45 [] (Q0 (Ft 27 hc2 Fz))
   .rw[show getH h a=atH h a from by(simp[getH,Z22, *];omega)];exact gF [] func45 [] (Q0 (Ff 27 hc2 Fz))
def Z1N(h:Heap)(a i:Int):Int×Int:=if(getH h a).2=0 then(if 0<=i/\i<(getH h a).1.length then loadA h.W (a+1+i)else(0,2))else(0,(getH h a).2)
def Zcp(h:Heap)(a i:Int)(hw:WOk h.W)(h0:0<=a/\a<=18446744073709551615):GP 115 [h.av,u64 a,int i] X (.tu [u64 (Z1N h a i).1,int (Z1N h a i).2]) []:=by
 have Q0 {h_ c_ p_} (r_:Fq h_ c_ p_):=Fc 13 (@Z3e h a aa aa) r_;rcases bb ((getH h a).2 != 0)with hc0 | hc0<;>have hc0p:=hc0<;>simp only[bs]at hc0p
 .rw[show Z1N h a i=((0:Int),(getH h a).2)from by simp[Z1N, *]];exact gF [] func115 [] (Q0 (Ft 17 hc0 Fz))
 .have hf5:=Z3A hc0p;obtain⟨hf5a,⟨hf5ba,⟨hf5bba,⟨hf5bbba,⟨hf5bbbba,⟨hf5bbbbba,⟨hf5bbbbbba,⟨hf5bbbbbbba,⟨hf5bbbbbbbba,⟨hf5bbbbbbbbba,hf5bbbbbbbbbb⟩⟩⟩⟩⟩⟩⟩⟩⟩⟩:=hf5;have hf11:=Z0a hf5bba;obtain⟨hf11a,⟨hf11ba,⟨hf11bba,⟨hf11bbba,⟨hf11bbbba,⟨hf11bbbbba,⟨hf11bbbbbba,⟨hf11bbbbbbba,hf11bbbbbbbb⟩⟩⟩⟩⟩⟩⟩⟩:=hf11;rcases bb (Y (i<0)||Y ((getH h a).1.length<=i))with hc20 | hc20<;>have hc20p:=hc20<;>simp only[bs]at hc20p
  .rw[show Z1N h a i=((0:Int),(2:Int))from by(simp only[Z1N] ;exact sj)];exact gF [] func115 [] (Q0 (Ff 17 hc0 (Ft 26 hc20 Fz)))
  .obtain⟨hc20pa,hc20pb⟩:=hc20p;rw[show Z1N h a i=loadA h.W (a+(1:Int)+i)from by(simp only[Z1N] ;exact sj)];exact gF [] func115 [] (Q0 (Ff 17 hc0 (Ff 26 hc20 (Fv 30 (a+1) (Fv 32 i (Fv 33 (a+1+i) (Fc 34 (@Z1H h.W (a+1+i) oq oq) Fz)))))))
def ZjL{h:Heap}{a i:Int}(e:(Z1N h a i).2=0):(getH h a).2=0/\0<=i/\i<(getH h a).1.length:=by
 unfold Z1N at e;split at e
 .split at e
  .exact⟨aa,aa⟩
  .simp at e
 .exact absurd e aa
def Z0w(h:Heap)(a i v:Int):Heap×Int:=if(Z1N h a i).2=0 then({ h with W:=(Z1m h.W (a+1+i) v).1 },0)else(noHeap,(Z1N h a i).2)
def Z7k(h:Heap)(a i v:Int)(hw:WOk h.W)(h0:0<=a/\a<=18446744073709551615):GP 59 [h.av,u64 a,int i,u64 v] Z (.tu [(Z0w h a i v).1.av,int (Z0w h a i v).2]) []:=by
 have Q0 {h_ c_ p_} (r_:Fq h_ c_ p_):=Fc 16 (@Zcp h a i aa aa) r_;rcases bb ((Z1N h a i).2 != 0)with hc0 | hc0<;>have hc0p:=hc0<;>simp only[bs]at hc0p
 .exact gF [] func59 [X] (Q0 (Ft 20 hc0 (Fnl (Fnl (Fa (by simp[Z0w,noHeap, *]:0=(Z0w h a i v).1.C.pw) (Fa (by simp[Z0w,noHeap, *]:0=(Z0w h a i v).1.C.pg) (Fa (by simp[Z0w,noHeap, *]:[]=M wdv (Z0w h a i v).1.W) (Fa (by simp[Z0w,noHeap, *]:[]=M Page.dv (Z0w h a i v).1.P) (Fa (by simp[Z0w,noHeap, *]:0=(Z0w h a i v).1.S) (Fa (by simp[Z0w,noHeap, *]:0=(Z0w h a i v).1.B) (Fa (by simp[Z0w,noHeap, *]:(Z1N h a i).2=(Z0w h a i v).2) Fz)))))))))))
 .have hf7:=ZjL hc0p;obtain⟨hf7a,⟨hf7ba,hf7bb⟩⟩:=hf7;have hf11:=Z3A hf7a;obtain⟨hf11a,⟨hf11ba,⟨hf11bba,⟨hf11bbba,⟨hf11bbbba,⟨hf11bbbbba,⟨hf11bbbbbba,⟨hf11bbbbbbba,⟨hf11bbbbbbbba,⟨hf11bbbbbbbbba,hf11bbbbbbbbbb⟩⟩⟩⟩⟩⟩⟩⟩⟩⟩:=hf11;have hf21:=Z0a hf11bba;obtain⟨hf21a,⟨hf21ba,⟨hf21bba,⟨hf21bbba,⟨hf21bbbba,⟨hf21bbbbba,⟨hf21bbbbbba,⟨hf21bbbbbbba,hf21bbbbbbbb⟩⟩⟩⟩⟩⟩⟩⟩:=hf21;rw[show Z0w h a i v=(Heap.mk h.C (Z1m h.W (a+(1:Int)+i) v).1 h.P h.S h.B,(0:Int))from by simp[Z0w,noHeap, *]];exact gF [] func59 [] (Q0 (Ff 20 hc0 (Fv 27 (a+1) (Fv 29 i (Fv 30 (a+1+i) (Fc 32 (@Z8z h.W (a+1+i) v oq oq) Fz))))))
def Z0t(h:Heap)(a:Int):List Int×Int:=if(getH h a).2=0 then Z1e h.W (a+1) (getH h a).1.length else([],(getH h a).2)
def Z72(h:Heap)(a:Int)(hw:WOk h.W)(h0:0<=a/\a<=18446744073709551615):GP 56 [h.av,u64 a] Z (.tu [Z01 (Z0t h a).1,int (Z0t h a).2]) []:=by
 have Q0 {h_ c_ p_} (r_:Fq h_ c_ p_):=Fc 11 (@Z3e h a aa aa) r_;rcases bb ((getH h a).2 != 0)with hc0 | hc0<;>have hc0p:=hc0<;>simp only[bs]at hc0p
 .exact gF [] func56 [X] (Q0 (Ft 15 hc0 (Fnl (Fa (by simp[Z0t, *]:[]=M wdv (Z0t h a).1) (Fa (by simp[Z0t, *]:(getH h a).2=(Z0t h a).2) Fz)))))
 .have hf5:=Z3A hc0p;obtain⟨hf5a,⟨hf5ba,⟨hf5bba,⟨hf5bbba,⟨hf5bbbba,⟨hf5bbbbba,⟨hf5bbbbbba,⟨hf5bbbbbbba,⟨hf5bbbbbbbba,⟨hf5bbbbbbbbba,hf5bbbbbbbbbb⟩⟩⟩⟩⟩⟩⟩⟩⟩⟩:=hf5;have hf11:=Z0a hf5bba;obtain⟨hf11a,⟨hf11ba,⟨hf11bba,⟨hf11bbba,⟨hf11bbbba,⟨hf11bbbbba,⟨hf11bbbbbba,⟨hf11bbbbbbba,hf11bbbbbbbb⟩⟩⟩⟩⟩⟩⟩⟩:=hf11;rw[show Z0t h a=Z1e h.W (a+(1:Int)) (getH h a).1.length from by simp[Z0t, *]];exact gF [] func56 [] (Q0 (Ff 15 hc0 (Fv 20 (a+1) (Fc 23 (@Zb1 h.W (a+1) ((getH h a).1.length) oq oq) Fz))))
def objW(hd:Header):List Int:=(Z0c hd).1::La hd.length.toNat 0
def Z1l(h:Heap)(a:Int)(hd:Header):Heap×Int:=if Z02 h=X/\Z0i hd=X then(if(Z0D h.W a (objW hd)).2=0 then({ h with W:=(Z0D h.W a (objW hd)).1 },0)else(noHeap,(Z0D h.W a (objW hd)).2))else(noHeap,1)
def ZgB{hd:Header}(h:(Z0c hd).2=0):Z0i hd=X/\0<=hd.length/\hd.length<=255:=by
 unfold Z0c at h;split at h
 .rename_i hv;have:=validH_iff.1 hv;exact⟨hv,this.2.2.1,this.2.2.2.1⟩
 .simp at h
def Zel{hd:Header}(h:Z0i hd=X):(Z0c hd).2=0:=by simp[Z0c,h]
def Zjv{h:Heap}{a:Int}{hd:Header}(e:Z02 h=Z\/¬ (Z0c hd).2=0):Z1l h a hd=(noHeap,1):=by
 unfold Z1l;rw[if_neg];rintro⟨h1,h2⟩;rcases e with e | e
 .rw[h1]at e;cases e
 .exact e (Zel h2)
def ZfD(h:Heap)(a:Int)(hd:Header)(hw:WOk h.W)(h0:0<=a/\a<=18446744073709551615)(hm:0<=hd.map/\hd.map<=4294967295):GP 168 [h.av,u64 a,hd.av] Z (.tu [(Z1l h a hd).1.av,int (Z1l h a hd).2]) []:=by
 have Q0 {h_ c_ p_} (r_:Fq h_ c_ p_):=Fc 13 (@Z3r hd aa) (Fc 17 (@Z0h h) r_);rcases bb (!Z02 h||(Z0c hd).2 != 0)with hc0 | hc0<;>have hc0p:=hc0<;>simp only[bs]at hc0p
 .have hf5:=Zjv (a:=a) hc0p;exact gF [] func168 (fO 2) (Q0 (Ft 22 hc0 (Fnl (Fnl (Fa (by grind[Z1l,noHeap,objW]:0=(Z1l h a hd).1.C.pw) (Fa (by grind[Z1l,noHeap,objW]:0=(Z1l h a hd).1.C.pg) (Fa (by grind[Z1l,noHeap,objW]:[]=M wdv (Z1l h a hd).1.W) (Fa (by grind[Z1l,noHeap,objW]:[]=M Page.dv (Z1l h a hd).1.P) (Fa (by grind[Z1l,noHeap,objW]:0=(Z1l h a hd).1.S) (Fa (by grind[Z1l,noHeap,objW]:0=(Z1l h a hd).1.B) (Fbs (1=(Z1l h a hd).2) Fz)))))))))))
 .obtain⟨hc0pa,hc0pb⟩:=hc0p;have hf7:=Z0a hc0pa;obtain⟨hf7a,⟨hf7ba,⟨hf7bba,⟨hf7bbba,⟨hf7bbbba,⟨hf7bbbbba,⟨hf7bbbbbba,⟨hf7bbbbbbba,hf7bbbbbbbb⟩⟩⟩⟩⟩⟩⟩⟩:=hf7;have hf11:=ZgB hc0pb;obtain⟨hf11a,⟨hf11ba,hf11bb⟩⟩:=hf11;have Q1 {h_ c_ p_} (r_:Fq h_ c_ p_):=Q0 (Ff 22 hc0 (Fs 29 (M wdv [(Z0c hd).1]) (Fa (by(simp[Z1l,noHeap,objW, *];omega):0<=hd.length/\(↑(M wdv [(Z0c hd).1]).length:Int)+hd.length<=2^30) (Fa (by simp[Z1l,noHeap,objW,LN,LM,Lp,LL,wdv,idv]:M wdv [(Z0c hd).1]++La hd.length.toNat [du64 0]=M wdv ([(Z0c hd).1]++La hd.length.toNat 0)) (Fc 33 (@Z4T h.W ([(Z0c hd).1]++La hd.length.toNat 0) a oq aa (by(simp[Z1l,noHeap,objW, *];omega))) r_)))));rcases bb ((Z0D h.W a ([(Z0c hd).1]++La hd.length.toNat 0)).2 != 0)with hc37 | hc37<;>have hc37p:=hc37<;>simp only[bs]at hc37p
  .exact gF [] func168 (fO 2) (Fh 32 [.els (M wdv ([(Z0c hd).1]++La hd.length.toNat 0))] (Q1 (Ft 37 hc37 (Fnl (Fnl (Fa (by(simp only[Z1l,noHeap,objW] ;exact sj):0=(Z1l h a hd).1.C.pw) (Fa (by(simp only[Z1l,noHeap,objW] ;exact sj):0=(Z1l h a hd).1.C.pg) (Fa (by(simp only[Z1l,noHeap,objW] ;exact sj):[]=M wdv (Z1l h a hd).1.W) (Fa (by(simp only[Z1l,noHeap,objW] ;exact sj):[]=M Page.dv (Z1l h a hd).1.P) (Fa (by(simp only[Z1l,noHeap,objW] ;exact sj):0=(Z1l h a hd).1.S) (Fa (by(simp only[Z1l,noHeap,objW] ;exact sj):0=(Z1l h a hd).1.B) (Fa (by(simp only[Z1l,noHeap,objW] ;exact sj):(Z0D h.W a ([(Z0c hd).1]++La hd.length.toNat 0)).2=(Z1l h a hd).2) Fz))))))))))))
  .rw[show Z1l h a hd=(Heap.mk h.C (Z0D h.W a ([(Z0c hd).1]++La hd.length.toNat (0:Int))).1 h.P h.S h.B,(0:Int))from by(simp only[Z1l,noHeap,objW] ;exact sj)];exact gF [] func168 [] (Fh 32 [.els (M wdv ([(Z0c hd).1]++La hd.length.toNat 0))] (Q1 (Ff 37 hc37 Fz)))
def Z8M(l:List Page)(i k:Nat):Bool:=(LA k).all λj=>(l.getD (i+j) L).K==0
def freeK_iff{l:List Page}{i k:Nat}:Z8M l i k=X↔∀ j,j<k->(l.getD (i+j) L).K=0:=by
 simp[Z8M]
def tookP(l:List Page)(i k:Nat)(p q:Page):List Page:=(wr l (La k q) i k).set i p
def Z2T(l:List Page)(i:Int)(k:Int)(p q:Page):List Page×Int:=if 0<=i/\i<l.length/\k<=l.length-i then(if Z8M l i.toNat k.toNat=X then(tookP l i.toNat k.toNat p q,0)else([],20))else([],2)
def Z6O(l:List Page):Z1s (l.map Page.dv):=by
 intro e he x hx;obtain⟨y,_,rfl⟩:=List.mem_map.1 he;simp[Page.dv]at hx;rcases hx with rfl | rfl | rfl | rfl<;>exact⟨_,rfl⟩
def ZaX{α:Type}{l m:List α}{i j:Nat}{d:α}(h:l[i]? = m[j]?):l.getD i d=m.getD j d:=by
 rw[Lo,Lo,h]
def Zdy(l:List Page)(i:Int)(k:Int)(p q:Page)(n:Nat):Tg:=⟨tm 57 [(1,int i),(2,int k),(8,.pt 8008 0 0),(9,.pt 8009 0 0),(10,.d (.sl 0 [])),(11,int 0),(12,.ow 24032),(13,int n)],
 [(24032,.arr 86 4 ((wr l (La k.toNat q) i.toNat n).map Page.dv)),(8008,.box 86 [int p.K,int p.S,int p.U,int p.N]),(8009,.box 86 [int q.K,int q.S,int q.U,int q.N])],60⟩
section
variable (l:List Page) (i:Int) (k:Int) (p q:Page) (n:Nat) (hl:l.length<=1048576) (hi:0<=i) (hk0:0<=k) (hk:i.toNat+k.toNat<=l.length)
include hl hi hk0 hk
theorem Zmv(hn:n<k.toNat):(wr l (La k.toNat q) i.toNat n).getD (i.toNat+n) L=l.getD (i.toNat+n) L:=by
 refine ZaX ?_;rw[ZaG (by simpa using hk) qo,if_neg oq,if_neg oq]
theorem ZdG(hn:n<k.toNat)(hf:(l.getD (i.toNat+n) L).K=0):CP (rndF f227 0) (Zdy l i k p q n).st .nrm (Zdy l i k p q (n+1)).st:=by
 have hlen:=Z4X (ws:=l) (l:=La k.toNat q) (i:=i.toNat) (k:=n) (by simpa using hk) qo;have ha:=Zmv l i k q n hl hi hk0 hk hn;have hs:=ZbG (ws:=l) (l:=La k.toNat q) (i:=i.toNat) (k:=n) (by simpa using hk) qo L;have hd:(La k.toNat q).getD n L=q:=by simp[Lr,hn]
 rw[hd]at hs;have ei:i+n=((i.toNat+n:Nat):Int):=by omega
 rw[<- ha]at hf;rcases bb (((wr l (La k.toNat q) i.toNat n).getD (↑(i.toNat+n):Int).toNat L).K != 0)with hc0 | hc0<;>have hc0p:=hc0<;>simp only[bs]at hc0p
 .contradiction
 .exact sF [] (fO 8) (Fh 10051 [.els (M Page.dv ((wr l (La k.toNat q) i.toNat n).set (↑(i.toNat+n):Int).toNat q))] (Ftb 35 (Y ((n:Int)<k)) (Fg 41 (by rw[wrapI' oq oq];omega:Lb.wrap (i+(n:Int))=(↑(i.toNat+n):Int)) (Fmq 44 Page.dv (wr l (La k.toNat q) i.toNat n) (↑(i.toNat+n):Int) (Ff 45 hc0 (Fg 49 (by rw[wrapI' oq oq];omega:Lb.wrap (i+(n:Int))=(↑(i.toNat+n):Int)) (Fa (by(simp only[Lc];omega):0<=(↑(i.toNat+n):Int)/\(↑(i.toNat+n):Int).toNat<(M Page.dv (wr l (La k.toNat q) i.toNat n)).length) (Fa (by(simp only[Lc];omega):(↑(i.toNat+n):Int).toNat<(M Page.dv (wr l (La k.toNat q) i.toNat n)).length) (Fa (by rw[Lp];rfl:(M Page.dv (wr l (La k.toNat q) i.toNat n)).set (↑(i.toNat+n):Int).toNat [dint q.K,dint q.S,dint q.U,dint q.N]=M Page.dv ((wr l (La k.toNat q) i.toNat n).set (↑(i.toNat+n):Int).toNat q)) (Fx 37 n (Fr (86:Int) (Fa (by refine congrArg _ ?_;exact hs:M Page.dv ((wr l (La k.toNat q) i.toNat n).set (↑(i.toNat+n):Int).toNat q)=M Page.dv (wr l (La k.toNat q) i.toNat (n+1))) Fz))))))))))))
theorem Zn7(hn:n<k.toNat)(hf:¬ (l.getD (i.toNat+n) L).K=0):CP (rndF f227 0) (Zdy l i k p q n).st .ret (Tg.st ⟨tm 57 [(10,.d (.sl 0 [])),(11,int 20)],[],60⟩):=by
 have hlen:=Z4X (ws:=l) (l:=La k.toNat q) (i:=i.toNat) (k:=n) (by simpa using hk) qo;have ha:=Zmv l i k q n hl hi hk0 hk hn;have ei:i+n=((i.toNat+n:Nat):Int):=by omega
 rw[<- ha]at hf;rcases bb (((wr l (La k.toNat q) i.toNat n).getD (↑(i.toNat+n):Int).toNat L).K != 0)with hc0 | hc0<;>have hc0p:=hc0<;>simp only[bs]at hc0p
 .exact sF [] [] (Ftb 35 (Y ((n:Int)<k)) (Fg 41 (by rw[wrapI' oq oq];omega:Lb.wrap (i+(n:Int))=(↑(i.toNat+n):Int)) (Fmq 44 Page.dv (wr l (La k.toNat q) i.toNat n) (↑(i.toNat+n):Int) (Ft 45 hc0 Fz))))
 .contradiction
omit hl hi hk in
theorem ZnM:CP (rndF f227 0) (Zdy l i k p q k.toNat).st (.ext 0) (Tg.st ⟨tm 57 [(1,int i),(8,.pt 8008 0 0),(12,.ow 24032)],[(24032,.arr 86 4 ((wr l (La k.toNat q) i.toNat k.toNat).map Page.dv)),(8008,.box 86 [int p.K,int p.S,int p.U,int p.N])],60⟩):=by
 exact sF [] [] (Ffb 35 (Y ((k.toNat:Int)<k)) Fz)
theorem Zfr(hf:Z8M l i.toNat k.toNat=X):CP (blkF f227 0) (Tg.st ⟨tm 57 [(1,int i),(2,int k),(8,.pt 8008 0 0),(9,.pt 8009 0 0),(10,.d (.sl 0 [])),(11,int 0),(12,.ow 24032),(13,int 0)],
 [(24032,.arr 86 4 (l.map Page.dv)),(8008,.box 86 [int p.K,int p.S,int p.U,int p.N]),(8009,.box 86 [int q.K,int q.S,int q.U,int q.N])],60⟩) .nrm
 (Tg.st ⟨tm 57 [(1,int i),(8,.pt 8008 0 0),(12,.ow 24032)],[(24032,.arr 86 4 ((wr l (La k.toNat q) i.toNat k.toNat).map Page.dv)),(8008,.box 86 [int p.K,int p.S,int p.U,int p.N])],60⟩):=by
 have:=Z08 (S:=λn=>(Zdy l i k p q n).st) k.toNat kr (λn hn=>ZdG l i k p q n hl hi hk0 hk hn (freeK_iff.1 hf n hn)) (ZnM l i k p q hk0)
 simp only[Zdy,Z8a]at this;exact this
theorem ZeF(hf:Z8M l i.toNat k.toNat=Z):CP (blkF f227 0) (Tg.st ⟨tm 57 [(1,int i),(2,int k),(8,.pt 8008 0 0),(9,.pt 8009 0 0),(10,.d (.sl 0 [])),(11,int 0),(12,.ow 24032),(13,int 0)],
 [(24032,.arr 86 4 (l.map Page.dv)),(8008,.box 86 [int p.K,int p.S,int p.U,int p.N]),(8009,.box 86 [int q.K,int q.S,int q.U,int q.N])],60⟩) .ret
 (Tg.st ⟨tm 57 [(10,.d (.sl 0 [])),(11,int 20)],[],60⟩):=by
 obtain⟨n,x,h1,h2,h3⟩:=Z51 hf;have hn:n<k.toNat:=by have:=(Ld.1 h1).1;simpa using this
 have hx:x=n:=by simp[LI,hn]at h1;exact h1.symm
 subst hx;have:=Z0v (S:=λn=>(Zdy l i k p q n).st) x kr (λm hm=>?_) (Zn7 l i k p q x hl hi hk0 hk hn (by simpa using h2))
 .simp only[Zdy,Z8a]at this;exact this
 .obtain⟨y,h4,h5⟩:=h3 m hm;have hy:y=m:=by simp[LI,show m<k.toNat from by omega]at h4;exact h4.symm
  subst hy;exact ZdG l i k p q y hl hi hk0 hk oq (by simpa using h5)
end
def Zl0(l:List Page)(i:Int)(k:Int)(p q:Page)(hl:l.length<=1048576)(hk:1<=k/\k<=5):GP 227 [Z0y l,int i,int k,p.av,q.av] X (.tu [Z0y (Z2T l i k p q).1,int (Z2T l i k p q).2]) []:=by
  cases hf:Z8M l i.toNat k.toNat with
  | true =>
    have hw:i.toNat+k.toNat<=l.length->(wr l (La k.toNat q) i.toNat k.toNat).length=l.length:=λh=>Z4X (by simpa using h) pq;rcases bb (Y (i<0)||Y ((l.length:Int)<=i)||Y ((l.length:Int)-i<k))with hc0 | hc0<;>have hc0p:=hc0<;>simp only[bs]at hc0p
    . exact gF [] func227 (fO 10) (FlG 19 (!decide (i<0)) Page.dv l (FlG 25 (!(Y (i<0)||Y ((l.length:Int)<=i))) Page.dv l (FiG 27 (!(Y (i<0)||Y ((l.length:Int)<=i))) ((l.length:Int)-i) (Ft 29 hc0 (Fnl (Fa (by(simp only[Z2T,hf,tookP] ;exact sj):[]=M Page.dv (Z2T l i k p q).1) (Fa (by(simp only[Z2T,hf,tookP] ;exact sj):2=(Z2T l i k p q).2) Fz)))))))
    . obtain⟨⟨hc0paa,hc0pab⟩,hc0pb⟩:=hc0p;rw[show Z2T l i k p q=((wr l (La k.toNat q) i.toNat k.toNat).set i.toNat p,(0:Int))from by simp[Z2T,hf,tookP, *]];exact gF [] func227 [] (Fh 10055 [.els (M Page.dv ((wr l (La k.toNat q) i.toNat k.toNat).set i.toNat p))] (FlG 19 (!decide (i<0)) Page.dv l (FlG 25 (!(Y (i<0)||Y ((l.length:Int)<=i))) Page.dv l (FiG 27 (!(Y (i<0)||Y ((l.length:Int)<=i))) ((l.length:Int)-i) (Ff 29 hc0 (FAx 30 32 Page.dv l (by(simp[Z2T,hf,tookP, *];omega)) (Fu (@Zfr l i k p q aa oq oq oq aa) (Fa (by(simp only[Lc];omega):0<=i/\i.toNat<(M Page.dv (wr l (La k.toNat q) i.toNat k.toNat)).length) (Fa (by(simp only[Lc];omega):i.toNat<(M Page.dv (wr l (La k.toNat q) i.toNat k.toNat)).length) (Fa (by rw[Lp];rfl:(M Page.dv (wr l (La k.toNat q) i.toNat k.toNat)).set i.toNat [dint p.K,dint p.S,dint p.U,dint p.N]=M Page.dv ((wr l (La k.toNat q) i.toNat k.toNat).set i.toNat p)) (Fa (by exact Z6O _:Z1s (M Page.dv ((wr l (La k.toNat q) i.toNat k.toNat).set i.toNat p))) Fz)))))))))))
  | false => rcases Lu (Y (i<(0:Int))||Y ((l.length:Int)<=i)||Y ((l.length:Int)-i<k))with hc0 | hc0
             . have hc0p:=hc0;simp only[bs]at hc0p;exact gF [] func227 (fO 10) (FlG 19 (!decide (i<0)) Page.dv l (FlG 25 (!(Y (i<0)||Y ((l.length:Int)<=i))) Page.dv l (FiG 27 (!(Y (i<0)||Y ((l.length:Int)<=i))) ((l.length:Int)-i) (Ft 29 ‹(Y (i<0)||Y ((l.length:Int)<=i)||Y ((l.length:Int)-i<k))=X› (Fnl (Fa (by(simp only[Z2T,hf] ;exact sj):[]=M Page.dv (Z2T l i k p q).1) (Fa (by(simp only[Z2T,hf] ;exact sj):2=(Z2T l i k p q).2) Fz)))))))
             . have hc0p:=hc0;simp only[bs]at hc0p;obtain⟨⟨hc0paa,hc0pab⟩,hc0pb⟩:=hc0p;exact gF [] func227 (fO 21) (FlG 19 (!decide (i<0)) Page.dv l (FlG 25 (!(Y (i<0)||Y ((l.length:Int)<=i))) Page.dv l (FiG 27 (!(Y (i<0)||Y ((l.length:Int)<=i))) ((l.length:Int)-i) (Ff 29 ‹(Y (i<0)||Y ((l.length:Int)<=i)||Y ((l.length:Int)-i<k))=Z› (FAx 30 32 Page.dv l (by(simp[Z2T,hf, *];omega)) (Fu (@ZeF l i k p q aa oq oq oq aa) (Fnl (Fa (by(simp only[Z2T,hf] ;exact sj):[]=M Page.dv (Z2T l i k p q).1) (Fa (by(simp only[Z2T,hf] ;exact sj):20=(Z2T l i k p q).2) Fz)))))))))
def Zid(l:List Page)(i:Int)(k:Int)(p q:Page)(hl:l.length<=1048576)(hk:1<=k/\k<=5)(hi:0<=i/\i+k<=l.length)(hf:Z8M l i.toNat k.toNat=X):GP 227 [Z0y l,int i,int k,p.av,q.av] X (.tu [.ow 0,int 0]) [.arr 86 4 ((tookP l i.toNat k.toNat p q).map Page.dv)]:=by
 have hw:(wr l (La k.toNat q) i.toNat k.toNat).length=l.length:=Z4X qo pq;exact gF [24032] func227 [] (Fh 10055 [.els (M Page.dv ((wr l (La k.toNat q) i.toNat k.toNat).set i.toNat p))] (FlG 19 (!decide (i<0)) Page.dv l (FlG 25 (!(Y (i<0)||Y ((l.length:Int)<=i))) Page.dv l (FiG 27 (!(Y (i<0)||Y ((l.length:Int)<=i))) ((l.length:Int)-i) (Ffb 29 (Y (i<0)||Y ((l.length:Int)<=i)||Y ((l.length:Int)-i<k)) (FAx 30 32 Page.dv l (by(simp[tookP, *];omega)) (Fu (@Zfr l i k p q aa oq oq oq aa) (Fa (by(simp only[Lc];omega):0<=i/\i.toNat<(M Page.dv (wr l (La k.toNat q) i.toNat k.toNat)).length) (Fa (by(simp only[Lc];omega):i.toNat<(M Page.dv (wr l (La k.toNat q) i.toNat k.toNat)).length) (Fa (by rw[Lp];rfl:(M Page.dv (wr l (La k.toNat q) i.toNat k.toNat)).set i.toNat [dint p.K,dint p.S,dint p.U,dint p.N]=M Page.dv ((wr l (La k.toNat q) i.toNat k.toNat).set i.toNat p)) (Fa (by exact Z6O _:Z1s (M Page.dv ((wr l (La k.toNat q) i.toNat k.toNat).set i.toNat p))) Fz)))))))))))
def ZmG(l:List Page)(i sp:Int):List Page×Int:=if 0<=sp/\sp<=1 then Z2T l i 1 ⟨1,sp,0,0⟩ ⟨0,0,0,0⟩else([],1)
def Z38(c:Conf)(l:List Page)(i sp n:Int):List Page×Int:=if 1<=need c n/\0<=sp/\sp<=1 then Z2T l i (need c n) ⟨2,sp,n,0⟩ ⟨3,sp,0,0⟩else([],1)
def ZiY(c:Conf)(l:List Page)(i sp n:Int)(hl:l.length<=1048576):GP 205 [c.av,Z0y l,int i,int sp,int n] Z (.tu [Z0y (Z38 c l i sp n).1,int (Z38 c l i sp n).2]) []:=by
 have hn:=Z1J c n;rcases bb (Y (need c n<1)||Y (sp<0)||Y (1<sp))with hc0 | hc0<;>have hc0p:=hc0<;>simp only[bs]at hc0p
 .exact gF [] func205 (fO 4) (Fc 15 (@Z3V c n) (Ft 25 hc0 (Fnl (Fa (by(simp only[Z38] ;exact sj):[]=M Page.dv (Z38 c l i sp n).1) (Fa (by(simp only[Z38] ;exact sj):1=(Z38 c l i sp n).2) Fz)))))
 .obtain⟨⟨hc0paa,hc0pab⟩,hc0pb⟩:=hc0p;rw[show Z38 c l i sp n=Z2T l i (need c n) (Page.mk (2:Int) sp n (0:Int)) (Page.mk (3:Int) sp (0:Int) (0:Int))from by simp[Z38, *]];exact gF [] func205 [] (Fc 15 (@Z3V c n) (Ff 25 hc0 (Fc 34 (@Zl0 l i (need c n) (Page.mk 2 sp n 0) (Page.mk 3 sp 0 0) aa oq) Fz)))
def ZaI(l:List Page)(i sp:Int)(hl:l.length<=1048576)(hs:0<=sp/\sp<=1)(hi:0<=i/\i+1<=l.length)(hf:Z8M l i.toNat 1=X):GP 204 [Z0y l,int i,int sp] X (.tu [.ow 0,int 0]) [.arr 86 4 ((tookP l i.toNat 1 ⟨1,sp,0,0⟩ ⟨0,0,0,0⟩).map Page.dv)]:=by
 exact gF [25019] func204 [] (Ffb 13 (Y (sp<0)||Y (1<sp)) (Fc 19 (@Zid l i (1) (Page.mk 1 sp 0 0) (Page.mk 0 0 0 0) aa oq aa aa) (Fa (by exact Z6O _:Z1s (M Page.dv (tookP l i.toNat (Li 1) (Page.mk 1 sp 0 0) (Page.mk 0 0 0 0)))) Fz)))
structure Run where
 frm:Int
 len:Int
 deriving DecidableEq,Inhabited
def Run.dv(r:Run):List DV:=[dint r.frm,dint r.len]
def Z6s(l:List Run):AV:=.d (.sl 2 (l.map Run.dv))
def Z0k(out:List Run):Run:=out.getLast?.getD ⟨0,0⟩
def Z3o(out:List Run)(i:Int)(p:Page):List Run :=
 if p.K=0 then(if out≠[]/\(Z0k out).frm+(Z0k out).len=i then out.dropLast++[⟨(Z0k out).frm,(Z0k out).len+1⟩]else out++[⟨i,1⟩])else out
def Z05(l:List Page):Nat->List Run
 | 0=>[]
 | i+1=>Z3o (Z05 l i) i (Z1h l i)
def Z20{out:List Run}(h:out≠[]):out[out.length-1]? = O (Z0k out):=by
 rw[<- List.getLast?_eq_getElem?,Z0k,List.getLast?_eq_some_getLast h];rfl
def Z2q(l:List Page):∀ i,(Z05 l i).length<=i/\∀ r∈Z05 l i,0<=r.frm/\1<=r.len/\r.frm+r.len<=i
 | 0=>⟨by simp[Z05],by simp[Z05]⟩
 | i+1=>by
  obtain⟨h1,h2⟩:=Z2q l i;simp only[Z05,Z3o];split
  .split
   .rename_i hc;have hl:=h2 _ (Lk (Z20 hc.1));have hp:0<(Z05 l i).length:=Lz.2 hc.1;refine⟨by simp;omega,λr hr=>?_⟩;rcases Lt.1 hr with hr | hr
    .have:=h2 r (LH _ hr);omega
    .simp at hr;subst hr;simp only;omega
   .refine⟨by simp;omega,λr hr=>?_⟩;rcases Lt.1 hr with hr | hr
    .have:=h2 r hr;omega
    .simp at hr;subst hr;simp only;omega
  .refine⟨by omega,λr hr=>?_⟩;have:=h2 r hr;omega
def Zgi{out:List Run}{i:Nat}{r:Run}(h:out[i]? = O r):(out.map Run.dv)[i]? = O r.dv:=by simp[h]
def ZfF{out:List Run}(h:out≠[])(r:Run):(out.map Run.dv).set (out.length-1) r.dv=(out.dropLast++[r]).map Run.dv:=by
 obtain⟨a,b,rfl⟩:∃ a b,out=a++[b]:=⟨out.dropLast,out.getLast h,(List.dropLast_concat_getLast h).symm⟩
 simp
def Z6f(l:List Page)(i:Nat):Tg:=⟨tm 54 [(3,.ow 16003),(7,Z0y l),(8,int l.length),(9,int i)],[(16003,.arr 267 2 ((Z05 l i).map Run.dv))],20⟩
def Z9C(l:List Page)(hl:l.length<=1048576)(i:Nat)(p:Page)(hp:l[i]? = O p)(hk:p.K≠0):CP (rndF f231 0) (Z6f l i).st .nrm (Z6f l (i+1)).st:=by
 have hi:i<l.length:=(Ld.1 hp).1;obtain⟨o1,o2⟩:=Z2q l i;have e:Z6f l (i+1)=⟨tm 54 [(3,.ow 16003),(7,Z0y l),(8,int l.length),(9,int ((i+1:Nat):Int))],[(16003,.arr 267 2 ((Z05 l i).map Run.dv))],20⟩:=by
  have hpa:Z1h l i=p:=by simp[Z1h,hp]
  rw[Z6f,Z05,Z3o,hpa,if_neg hk]
 rw[e];refine Z4t [(10,[.br X]),(12,[.el p.dv]),(15,[.int (Z05 l i).length]),(16,[.int ((Z05 l i).length-1:Int)]),(25,[.br X]),(52,[.int ((i+1:Nat):Int)])] [] [] (φ:=Y ((i:Int)<(l.length:Int))=X/\X=X/\((0:Int)<=(i:Int)/\(M Page.dv l)[(i:Int).toNat]? = O p.dv)/\(↑(M Run.dv (Z05 l i)).length:Int)=(↑(Z05 l i).length:Int)/\Lb.wrap ((↑(Z05 l i).length:Int)-(1:Int))=(↑(Z05 l i).length:Int)-(1:Int)/\(p.K != (0:Int))=X/\Lb.wrap ((i:Int)+(1:Int))=(↑(i+(1:Nat)):Int)) ?_ kr kr kr;exact⟨decide_eq_true oq,rfl,⟨by omega,Z1k hp⟩,by rw[Lc],Z14 oq oq,by simp[hk],Z14 oq oq⟩
def Z9u(l:List Page)(hl:l.length<=1048576)(i:Nat)(p:Page)(hp:l[i]? = O p)(hk:p.K=0)(ho:Z05 l i≠[])(hm:(Z0k (Z05 l i)).frm+(Z0k (Z05 l i)).len=i):CP (rndF f231 0) (Z6f l i).st .nrm (Z6f l (i+1)).st:=by
 have hi:i<l.length:=(Ld.1 hp).1;obtain⟨o1,o2⟩:=Z2q l i;have hlast:=o2 _ (Lk (Z20 ho));have hpos:0<(Z05 l i).length:=Lz.2 ho;have e:Z05 l (i+1)=(Z05 l i).dropLast++[⟨(Z0k (Z05 l i)).frm,(Z0k (Z05 l i)).len+1⟩]:=by
  have hpa:Z1h l i=p:=by simp[Z1h,hp]
  rw[Z05,Z3o,hpa,if_pos hk,if_pos ⟨ho,hm⟩]
 refine Z4t [(10,[.br X]),(12,[.el p.dv]),(15,[.int (Z05 l i).length]),(16,[.int ((Z05 l i).length-1:Int)]),(25,[.br Z]),(34,[.el (Z0k (Z05 l i)).dv]),(39,[.el (Z0k (Z05 l i)).dv]),(40,[.int i]),(43,[.br X]),(48,[.el (Z0k (Z05 l i)).dv]),(49,[.int ((Z0k (Z05 l i)).len+1)]),(10051,[.el (Z0k (Z05 l i)).dv,.els ((Z05 l (i+1)).map Run.dv)]),(52,[.int ((i+1:Nat):Int)])] [] [] (φ:=Y ((i:Int)<(l.length:Int))=X/\X=X/\((0:Int)<=(i:Int)/\(M Page.dv l)[(i:Int).toNat]? = O p.dv)/\(↑(M Run.dv (Z05 l i)).length:Int)=(↑(Z05 l i).length:Int)/\Lb.wrap ((↑(Z05 l i).length:Int)-(1:Int))=(↑(Z05 l i).length:Int)-(1:Int)/\(p.K != (0:Int))=Z/\(Y ((0:Int)<=(↑(Z05 l i).length:Int)-(1:Int))=X->(0:Int)<=(↑(Z05 l i).length:Int)-(1:Int)/\((↑(Z05 l i).length:Int)-(1:Int)).toNat<(M Run.dv (Z05 l i)).length)/\(Y ((0:Int)<=(↑(Z05 l i).length:Int)-(1:Int))=X->(M Run.dv (Z05 l i))[((↑(Z05 l i).length:Int)-(1:Int)).toNat]? = O (Z0k (Z05 l i)).dv)/\(Y ((0:Int)<=(↑(Z05 l i).length:Int)-(1:Int))=X->(0:Int)<=(↑(Z05 l i).length:Int)-(1:Int)/\((↑(Z05 l i).length:Int)-(1:Int)).toNat<(M Run.dv (Z05 l i)).length)/\(Y ((0:Int)<=(↑(Z05 l i).length:Int)-(1:Int))=X->(M Run.dv (Z05 l i))[((↑(Z05 l i).length:Int)-(1:Int)).toNat]? = O (Z0k (Z05 l i)).dv)/\(Y ((0:Int)<=(↑(Z05 l i).length:Int)-(1:Int))=X->Lb.wrap ((Z0k (Z05 l i)).frm+(Z0k (Z05 l i)).len)=(i:Int))/\(Y ((0:Int)<=(↑(Z05 l i).length:Int)-(1:Int))&&(i:Int)==(i:Int))=X/\((0:Int)<=(↑(Z05 l i).length:Int)-(1:Int)/\((↑(Z05 l i).length:Int)-(1:Int)).toNat<(M Run.dv (Z05 l i)).length)/\(M Run.dv (Z05 l i))[((↑(Z05 l i).length:Int)-(1:Int)).toNat]? = O (Z0k (Z05 l i)).dv/\Lb.wrap ((Z0k (Z05 l i)).len+(1:Int))=(Z0k (Z05 l i)).len+(1:Int)/\((0:Int)<=(↑(Z05 l i).length:Int)-(1:Int)/\((↑(Z05 l i).length:Int)-(1:Int)).toNat<(M Run.dv (Z05 l i)).length)/\(M Run.dv (Z05 l i))[((↑(Z05 l i).length:Int)-(1:Int)).toNat]? = O (Z0k (Z05 l i)).dv/\(M Run.dv (Z05 l i)).set ((↑(Z05 l i).length:Int)-(1:Int)).toNat (Z1r (Z0k (Z05 l i)).dv ((0:Nat) + #[Field.mk "From" (3:Nat) (0:Nat) Z "" "" (0:Nat),Field.mk "Len" (3:Nat) (1:Nat) Z "" "" (8:Nat)][(1:Nat)].3) [dint ((Z0k (Z05 l i)).len+(1:Int))])=M Run.dv (Z05 l (i+(1:Nat)))/\Lb.wrap ((i:Int)+(1:Int))=(↑(i+(1:Nat)):Int)) ?_ kr kr kr;have hidx:0<=((Z05 l i).length:Int)-1/\(((Z05 l i).length:Int)-1).toNat<(M Run.dv (Z05 l i)).length:=by rw[Lc];omega
 have hat:(M Run.dv (Z05 l i))[(((Z05 l i).length:Int)-1).toNat]? = O (Z0k (Z05 l i)).dv:=by
  rw[show(((Z05 l i).length:Int)-1).toNat=(Z05 l i).length-1 from by omega];exact Zgi (Z20 ho)
 refine⟨decide_eq_true oq,rfl,⟨by omega,Z1k hp⟩,by rw[Lc],Z14 oq oq,by simp[hk],λ_=>hidx,λ_=>hat,λ_=>hidx,λ_=>hat,λ_=>by rw[hm];exact Z14 oq oq,by simp;omega,hidx,hat,Z14 oq oq,hidx,hat, ?_,Z14 oq oq⟩;rw[e,<- ZfF ho,show(((Z05 l i).length:Int)-1).toNat=(Z05 l i).length-1 from by omega];rfl
def Zbk(l:List Page)(hl:l.length<=1048576)(i:Nat)(p:Page)(hp:l[i]? = O p)(hk:p.K=0)(ho:¬ (Z05 l i≠[]/\(Z0k (Z05 l i)).frm+(Z0k (Z05 l i)).len=i)):CP (rndF f231 0) (Z6f l i).st .nrm (Z6f l (i+1)).st:=by
 have hi:i<l.length:=(Ld.1 hp).1;obtain⟨o1,o2⟩:=Z2q l i;have e:Z05 l (i+1)=Z05 l i++[⟨i,1⟩]:=by
  have hpa:Z1h l i=p:=by simp[Z1h,hp]
  rw[Z05,Z3o,hpa,if_pos hk,if_neg ho]
 refine Z4t [(10,[.br X]),(12,[.el p.dv]),(15,[.int (Z05 l i).length]),(16,[.int ((Z05 l i).length-1:Int)]),(25,[.br Z]),(34,[.el (Z0k (Z05 l i)).dv]),(39,[.el (Z0k (Z05 l i)).dv]),(43,[.br Z]),(21,[.els ((Z05 l (i+1)).map Run.dv)]),(52,[.int ((i+1:Nat):Int)])] [] [(200021,16003)] (φ:=Y ((i:Int)<(l.length:Int))=X/\X=X/\((0:Int)<=(i:Int)/\(M Page.dv l)[(i:Int).toNat]? = O p.dv)/\(↑(M Run.dv (Z05 l i)).length:Int)=(↑(Z05 l i).length:Int)/\Lb.wrap ((↑(Z05 l i).length:Int)-(1:Int))=(↑(Z05 l i).length:Int)-(1:Int)/\(p.K != (0:Int))=Z/\(Y ((0:Int)<=(↑(Z05 l i).length:Int)-(1:Int))=X->(0:Int)<=(↑(Z05 l i).length:Int)-(1:Int)/\((↑(Z05 l i).length:Int)-(1:Int)).toNat<(M Run.dv (Z05 l i)).length)/\(Y ((0:Int)<=(↑(Z05 l i).length:Int)-(1:Int))=X->(M Run.dv (Z05 l i))[((↑(Z05 l i).length:Int)-(1:Int)).toNat]? = O (Z0k (Z05 l i)).dv)/\(Y ((0:Int)<=(↑(Z05 l i).length:Int)-(1:Int))=X->(0:Int)<=(↑(Z05 l i).length:Int)-(1:Int)/\((↑(Z05 l i).length:Int)-(1:Int)).toNat<(M Run.dv (Z05 l i)).length)/\(Y ((0:Int)<=(↑(Z05 l i).length:Int)-(1:Int))=X->(M Run.dv (Z05 l i))[((↑(Z05 l i).length:Int)-(1:Int)).toNat]? = O (Z0k (Z05 l i)).dv)/\(Y ((0:Int)<=(↑(Z05 l i).length:Int)-(1:Int))&&Lb.wrap ((Z0k (Z05 l i)).frm+(Z0k (Z05 l i)).len)==(i:Int))=Z/\(M Run.dv (Z05 l i)).length+((La (1:Nat) [dint (0:Int),dint (0:Int)]).set (0:Nat) [dint (i:Int),dint (1:Int)]).length<=(2:Nat)^(30:Nat)/\M Run.dv (Z05 l i)++(La (1:Nat) [dint (0:Int),dint (0:Int)]).set (0:Nat) [dint (i:Int),dint (1:Int)]=M Run.dv (Z05 l (i+(1:Nat)))/\Lb.wrap ((i:Int)+(1:Int))=(↑(i+(1:Nat)):Int)) ?_ kr kr kr;have hne:Y (0<=((Z05 l i).length:Int)-1)=X->Z05 l i≠[]:=by
  intro hd h0;rw[h0]at hd;simp at hd
 have hidx:Y (0<=((Z05 l i).length:Int)-1)=X->0<=((Z05 l i).length:Int)-1/\(((Z05 l i).length:Int)-1).toNat<(M Run.dv (Z05 l i)).length:=by
  intro hd;have:=of_decide_eq_true hd;rw[Lc];omega
 have hat:Y (0<=((Z05 l i).length:Int)-1)=X->(M Run.dv (Z05 l i))[(((Z05 l i).length:Int)-1).toNat]? = O (Z0k (Z05 l i)).dv:=by
  intro hd;rw[show(((Z05 l i).length:Int)-1).toNat=(Z05 l i).length-1 from by omega];exact Zgi (Z20 (hne hd))
 refine⟨decide_eq_true oq,rfl,⟨by omega,Z1k hp⟩,by rw[Lc],Z14 oq oq,by simp[hk],hidx,hat,hidx,hat, ?_,by rw[Lc];simp;omega,by rw[e];simp[Run.dv],Z14 oq oq⟩;cases hd:Y (0<=((Z05 l i).length:Int)-1)with
 | false=>simp
 | true =>
  have h1:=hne hd;have hlast:=o2 _ (Lk (Z20 h1));rw[Z14 oq oq];simp;intro hh;exact ho ⟨h1,hh⟩
def Zjk(l:List Page)(hl:l.length<=1048576)(i:Nat)(hi:i<l.length):CP (rndF f231 0) (Z6f l i).st .nrm (Z6f l (i+1)).st:=by
 have hp:=Lj hi;by_cases hk:l[i].K=0
 .by_cases ho:Z05 l i≠[]/\(Z0k (Z05 l i)).frm+(Z0k (Z05 l i)).len=i
  .exact Z9u l hl i _ hp hk ho.1 ho.2
  .exact Zbk l hl i _ hp hk ho
 .exact Z9C l hl i _ hp hk
def Zoh(l:List Page):CP (rndF f231 0) (Z6f l l.length).st (.ext 0) (Tg.st ⟨tm 54 [(3,.ow 16003)],[(16003,.arr 267 2 ((Z05 l l.length).map Run.dv))],60⟩):=by
 refine Z1v [(10,[.br Z])] [] (φ:=Y ((l.length:Int)<(l.length:Int))=Z/\Z=Z) ?_ kr kr kr;exact⟨decide_eq_false oq,rfl⟩
def runs(l:List Page):List Run:=Z05 l l.length
def Zfl(l:List Page)(hl:l.length<=1048576):GP 231 [Z0y l] Z (Z6s (runs l)) []:=by
 refine Z0j [(3,[.own]),(8,[.int l.length])] [(0,Z6f l 0,.nrm,⟨tm 54 [(3,.ow 16003)],[(16003,.arr 267 2 ((Z05 l l.length).map Run.dv))],60⟩)] [] dd func231 (φ:=(↑(M Page.dv l).length:Int)=(l.length:Int)/\CP (blkF f231 (0:Nat)) (Z6f l (0:Nat)).st Ex.nrm (Tg.mk (tm (54:Nat) [((3:Nat),AV.ow (16003:Nat))]) [((16003:Nat),Blk.arr 267 (2:Nat) (M Run.dv (Z05 l l.length)))] (60:Nat)).st) ?_ kr kr;exact⟨by rw[Lc],Z08 (S:=λi=>(Z6f l i).st) l.length kr (λi hi=>Zjk l hl i hi) (Zoh l)⟩
def Z3S(l:List Page)(i:Nat):Tg:=⟨tm 54 [(0,Z0y l),(3,.ow 16003),(4,int i)],[(16003,.arr 267 2 ((Z05 l i).map Run.dv))],20⟩
def Z97(l:List Page)(hl:l.length<=1048576)(i:Nat)(p:Page)(hp:l[i]? = O p)(hk:p.K≠0):CP (rndF f226 0) (Z3S l i).st .nrm (Z3S l (i+1)).st:=by
 have hi:i<l.length:=(Ld.1 hp).1;have e:Z3S l (i+1)=⟨tm 54 [(0,Z0y l),(3,.ow 16003),(4,int ((i+1:Nat):Int))],[(16003,.arr 267 2 ((Z05 l i).map Run.dv))],20⟩:=by
  have hpa:Z1h l i=p:=by simp[Z1h,hp]
  rw[Z3S,Z05,Z3o,hpa,if_neg hk]
 rw[e];refine Z4t [(8,[.int l.length]),(9,[.br X]),(14,[.el p.dv]),(17,[.br X]),(11,[.int ((i+1:Nat):Int)])] [] [] (φ:=(↑(M Page.dv l).length:Int)=(l.length:Int)/\Y ((i:Int)<(l.length:Int))=X/\X=X/\((0:Int)<=(i:Int)/\(M Page.dv l)[(i:Int).toNat]? = O p.dv)/\(p.K != (0:Int))=X/\X=X/\Lb.wrap ((i:Int)+(1:Int))=(↑(i+(1:Nat)):Int)) ?_ kr kr kr;exact⟨by rw[Lc],decide_eq_true oq,rfl,⟨by omega,Z1k hp⟩,by simp[hk],rfl,Z14 oq oq⟩
def Z8s(l:List Page)(hl:l.length<=1048576)(i:Nat)(p:Page)(hp:l[i]? = O p)(hk:p.K=0)(ho:Z05 l i≠[])(hm:(Z0k (Z05 l i)).frm+(Z0k (Z05 l i)).len=i):CP (rndF f226 0) (Z3S l i).st .nrm (Z3S l (i+1)).st:=by
 have hi:i<l.length:=(Ld.1 hp).1;obtain⟨o1,o2⟩:=Z2q l i;have hlast:=o2 _ (Lk (Z20 ho));have hpos:0<(Z05 l i).length:=Lz.2 ho;have e:Z05 l (i+1)=(Z05 l i).dropLast++[⟨(Z0k (Z05 l i)).frm,(Z0k (Z05 l i)).len+1⟩]:=by
  have hpa:Z1h l i=p:=by simp[Z1h,hp]
  rw[Z05,Z3o,hpa,if_pos hk,if_pos ⟨ho,hm⟩]
 have hidx:0<=((Z05 l i).length:Int)-1/\(((Z05 l i).length:Int)-1).toNat<(M Run.dv (Z05 l i)).length:=by rw[Lc];omega
 have hat:(M Run.dv (Z05 l i))[(((Z05 l i).length:Int)-1).toNat]? = O (Z0k (Z05 l i)).dv:=by
  rw[show(((Z05 l i).length:Int)-1).toNat=(Z05 l i).length-1 from by omega];exact Zgi (Z20 ho)
 have hset:(M Run.dv (Z05 l i)).set (((Z05 l i).length:Int)-1).toNat [dint (Z0k (Z05 l i)).frm,dint ((Z0k (Z05 l i)).len+1)]=M Run.dv (Z05 l (i+1)):=by
  rw[e,<- ZfF ho,show(((Z05 l i).length:Int)-1).toNat=(Z05 l i).length-1 from by omega];rfl
 have hw:Lb.wrap (((Z05 l i).length:Int)-1)=((Z05 l i).length:Int)-1:=Z14 oq oq;refine Z4t [(8,[.int l.length]),(9,[.br X]),(14,[.el p.dv]),(17,[.br Z]),(19,[.int (Z05 l i).length]),(25,[.int ((Z05 l i).length-1:Int)]),(28,[.el (Z0k (Z05 l i)).dv]),(31,[.int ((Z05 l i).length-1:Int)]),(34,[.el (Z0k (Z05 l i)).dv]),(35,[.int i]),(38,[.br X]),(41,[.int ((Z05 l i).length-1:Int)]),(44,[.el (Z0k (Z05 l i)).dv]),(45,[.int ((Z0k (Z05 l i)).len+1)]),(10047,[.el (Z0k (Z05 l i)).dv,.els ((Z05 l (i+1)).map Run.dv)]),(11,[.int ((i+1:Nat):Int)])] [] [] (φ:=(↑(M Page.dv l).length:Int)=(l.length:Int)/\Y ((i:Int)<(l.length:Int))=X/\X=X/\((0:Int)<=(i:Int)/\(M Page.dv l)[(i:Int).toNat]? = O p.dv)/\(p.K != (0:Int))=Z/\Z=Z/\(↑(M Run.dv (Z05 l i)).length:Int)=(↑(Z05 l i).length:Int)/\(Y ((0:Int)<(↑(Z05 l i).length:Int))=X->Lb.wrap ((↑(Z05 l i).length:Int)-(1:Int))=(↑(Z05 l i).length:Int)-(1:Int))/\(Y ((0:Int)<(↑(Z05 l i).length:Int))=X->(0:Int)<=(↑(Z05 l i).length:Int)-(1:Int)/\((↑(Z05 l i).length:Int)-(1:Int)).toNat<(M Run.dv (Z05 l i)).length)/\(Y ((0:Int)<(↑(Z05 l i).length:Int))=X->(M Run.dv (Z05 l i))[((↑(Z05 l i).length:Int)-(1:Int)).toNat]? = O (Z0k (Z05 l i)).dv)/\(Y ((0:Int)<(↑(Z05 l i).length:Int))=X->Lb.wrap ((↑(Z05 l i).length:Int)-(1:Int))=(↑(Z05 l i).length:Int)-(1:Int))/\(Y ((0:Int)<(↑(Z05 l i).length:Int))=X->(0:Int)<=(↑(Z05 l i).length:Int)-(1:Int)/\((↑(Z05 l i).length:Int)-(1:Int)).toNat<(M Run.dv (Z05 l i)).length)/\(Y ((0:Int)<(↑(Z05 l i).length:Int))=X->(M Run.dv (Z05 l i))[((↑(Z05 l i).length:Int)-(1:Int)).toNat]? = O (Z0k (Z05 l i)).dv)/\(Y ((0:Int)<(↑(Z05 l i).length:Int))=X->Lb.wrap ((Z0k (Z05 l i)).frm+(Z0k (Z05 l i)).len)=(i:Int))/\(Y ((0:Int)<(↑(Z05 l i).length:Int))&&(i:Int)==(i:Int))=X/\X=X/\Lb.wrap ((↑(Z05 l i).length:Int)-(1:Int))=(↑(Z05 l i).length:Int)-(1:Int)/\((0:Int)<=(↑(Z05 l i).length:Int)-(1:Int)/\((↑(Z05 l i).length:Int)-(1:Int)).toNat<(M Run.dv (Z05 l i)).length)/\(M Run.dv (Z05 l i))[((↑(Z05 l i).length:Int)-(1:Int)).toNat]? = O (Z0k (Z05 l i)).dv/\Lb.wrap ((Z0k (Z05 l i)).len+(1:Int))=(Z0k (Z05 l i)).len+(1:Int)/\((0:Int)<=(↑(Z05 l i).length:Int)-(1:Int)/\((↑(Z05 l i).length:Int)-(1:Int)).toNat<(M Run.dv (Z05 l i)).length)/\(M Run.dv (Z05 l i))[((↑(Z05 l i).length:Int)-(1:Int)).toNat]? = O (Z0k (Z05 l i)).dv/\(M Run.dv (Z05 l i)).set ((↑(Z05 l i).length:Int)-(1:Int)).toNat (Z1r (Z0k (Z05 l i)).dv ((0:Nat) + #[Field.mk "From" (3:Nat) (0:Nat) Z "" "" (0:Nat),Field.mk "Len" (3:Nat) (1:Nat) Z "" "" (8:Nat)][(1:Nat)].3) [dint ((Z0k (Z05 l i)).len+(1:Int))])=M Run.dv (Z05 l (i+(1:Nat)))/\Lb.wrap ((i:Int)+(1:Int))=(↑(i+(1:Nat)):Int)) ?_ kr kr kr;exact⟨by rw[Lc],decide_eq_true oq,rfl,⟨by omega,Z1k hp⟩,by simp[hk],rfl,by rw[Lc],λ_=>hw,λ_=>hidx,λ_=>hat,λ_=>hw,λ_=>hidx,λ_=>hat,λ_=>by rw[hm];exact Z14 oq oq,by simp;omega,rfl,hw,hidx,hat,Z14 oq oq,hidx,hat,hset,Z14 oq oq⟩
def Z9D(l:List Page)(hl:l.length<=1048576)(i:Nat)(p:Page)(hp:l[i]? = O p)(hk:p.K=0)(ho:¬ (Z05 l i≠[]/\(Z0k (Z05 l i)).frm+(Z0k (Z05 l i)).len=i)):CP (rndF f226 0) (Z3S l i).st .nrm (Z3S l (i+1)).st:=by
 have hi:i<l.length:=(Ld.1 hp).1;obtain⟨o1,o2⟩:=Z2q l i;have e:Z05 l (i+1)=Z05 l i++[⟨i,1⟩]:=by
  have hpa:Z1h l i=p:=by simp[Z1h,hp]
  rw[Z05,Z3o,hpa,if_pos hk,if_neg ho]
 have hne:Y (0<((Z05 l i).length:Int))=X->Z05 l i≠[]:=by
  intro hd h0;rw[h0]at hd;simp at hd
 have hidx:Y (0<((Z05 l i).length:Int))=X->0<=((Z05 l i).length:Int)-1/\(((Z05 l i).length:Int)-1).toNat<(M Run.dv (Z05 l i)).length:=by
  intro hd;have:=of_decide_eq_true hd;rw[Lc];omega
 have hat:Y (0<((Z05 l i).length:Int))=X->(M Run.dv (Z05 l i))[(((Z05 l i).length:Int)-1).toNat]? = O (Z0k (Z05 l i)).dv:=by
  intro hd;rw[show(((Z05 l i).length:Int)-1).toNat=(Z05 l i).length-1 from by omega];exact Zgi (Z20 (hne hd))
 have hw:Lb.wrap (((Z05 l i).length:Int)-1)=((Z05 l i).length:Int)-1:=Z14 oq oq;refine Z4t [(8,[.int l.length]),(9,[.br X]),(14,[.el p.dv]),(17,[.br Z]),(19,[.int (Z05 l i).length]),(25,[.int ((Z05 l i).length-1:Int)]),(28,[.el (Z0k (Z05 l i)).dv]),(31,[.int ((Z05 l i).length-1:Int)]),(34,[.el (Z0k (Z05 l i)).dv]),(38,[.br Z]),(52,[.els ((Z05 l (i+1)).map Run.dv)]),(11,[.int ((i+1:Nat):Int)])] [] [(192052,16003)] (φ:=(↑(M Page.dv l).length:Int)=(l.length:Int)/\Y ((i:Int)<(l.length:Int))=X/\X=X/\((0:Int)<=(i:Int)/\(M Page.dv l)[(i:Int).toNat]? = O p.dv)/\(p.K != (0:Int))=Z/\Z=Z/\(↑(M Run.dv (Z05 l i)).length:Int)=(↑(Z05 l i).length:Int)/\(Y ((0:Int)<(↑(Z05 l i).length:Int))=X->Lb.wrap ((↑(Z05 l i).length:Int)-(1:Int))=(↑(Z05 l i).length:Int)-(1:Int))/\(Y ((0:Int)<(↑(Z05 l i).length:Int))=X->(0:Int)<=(↑(Z05 l i).length:Int)-(1:Int)/\((↑(Z05 l i).length:Int)-(1:Int)).toNat<(M Run.dv (Z05 l i)).length)/\(Y ((0:Int)<(↑(Z05 l i).length:Int))=X->(M Run.dv (Z05 l i))[((↑(Z05 l i).length:Int)-(1:Int)).toNat]? = O (Z0k (Z05 l i)).dv)/\(Y ((0:Int)<(↑(Z05 l i).length:Int))=X->Lb.wrap ((↑(Z05 l i).length:Int)-(1:Int))=(↑(Z05 l i).length:Int)-(1:Int))/\(Y ((0:Int)<(↑(Z05 l i).length:Int))=X->(0:Int)<=(↑(Z05 l i).length:Int)-(1:Int)/\((↑(Z05 l i).length:Int)-(1:Int)).toNat<(M Run.dv (Z05 l i)).length)/\(Y ((0:Int)<(↑(Z05 l i).length:Int))=X->(M Run.dv (Z05 l i))[((↑(Z05 l i).length:Int)-(1:Int)).toNat]? = O (Z0k (Z05 l i)).dv)/\(Y ((0:Int)<(↑(Z05 l i).length:Int))&&Lb.wrap ((Z0k (Z05 l i)).frm+(Z0k (Z05 l i)).len)==(i:Int))=Z/\Z=Z/\(M Run.dv (Z05 l i)).length+((La (1:Nat) [dint (0:Int),dint (0:Int)]).set (0:Nat) [dint (i:Int),dint (1:Int)]).length<=(2:Nat)^(30:Nat)/\M Run.dv (Z05 l i)++(La (1:Nat) [dint (0:Int),dint (0:Int)]).set (0:Nat) [dint (i:Int),dint (1:Int)]=M Run.dv (Z05 l (i+(1:Nat)))/\Lb.wrap ((i:Int)+(1:Int))=(↑(i+(1:Nat)):Int)) ?_ kr kr kr;refine⟨by rw[Lc],decide_eq_true oq,rfl,⟨by omega,Z1k hp⟩,by simp[hk],rfl,by rw[Lc],λ_=>hw,hidx,hat,λ_=>hw,hidx,hat, ?_,rfl,by rw[Lc];simp;omega,by rw[e];simp[Run.dv],Z14 oq oq⟩;cases hd:Y (0<((Z05 l i).length:Int))with
 | false=>simp
 | true =>
  have h1:=hne hd;have hlast:=o2 _ (Lk (Z20 h1));rw[Z14 oq oq];simp;intro hh;exact ho ⟨h1,hh⟩
def ZgR(l:List Page)(hl:l.length<=1048576)(i:Nat)(hi:i<l.length):CP (rndF f226 0) (Z3S l i).st .nrm (Z3S l (i+1)).st:=by
 have hp:=Lj hi;by_cases hk:l[i].K=0
 .by_cases ho:Z05 l i≠[]/\(Z0k (Z05 l i)).frm+(Z0k (Z05 l i)).len=i
  .exact Z8s l hl i _ hp hk ho.1 ho.2
  .exact Z9D l hl i _ hp hk ho
 .exact Z97 l hl i _ hp hk
def Zl2(l:List Page):CP (rndF f226 0) (Z3S l l.length).st (.ext 0) (Tg.st ⟨tm 54 [(3,.ow 16003)],[(16003,.arr 267 2 ((Z05 l l.length).map Run.dv))],60⟩):=by
 refine Z1v [(8,[.int l.length]),(9,[.br Z])] [] (φ:=(↑(M Page.dv l).length:Int)=(l.length:Int)/\Y ((l.length:Int)<(l.length:Int))=Z/\Z=Z) ?_ kr kr kr;exact⟨by rw[Lc],decide_eq_false oq,rfl⟩
def Zei(l:List Page)(hl:l.length<=1048576):GP 226 [Z0y l] Z (Z6s (runs l)) []:=by
 refine Z0j [(3,[.own])] [(0,Z3S l 0,.nrm,⟨tm 54 [(3,.ow 16003)],[(16003,.arr 267 2 ((Z05 l l.length).map Run.dv))],60⟩)] [] dd func226 (φ:=CP (blkF f226 (0:Nat)) (Z3S l (0:Nat)).st Ex.nrm (Tg.mk (tm (54:Nat) [((3:Nat),AV.ow (16003:Nat))]) [((16003:Nat),Blk.arr 267 (2:Nat) (M Run.dv (Z05 l l.length)))] (60:Nat)).st) ?_ kr kr;exact Z08 (S:=λi=>(Z3S l i).st) l.length kr (λi hi=>ZgR l hl i hi) (Zl2 l)
def Z9e{l:List Run}{i:Nat}{p:Run}(h:l[i]? = O p):(l.map Run.dv)[((i:Nat):Int).toNat]? = O p.dv:=by simp[h]
def Z1P(l:List Page):Nat->Nat
 | 0=>0
 | i+1=>Z1P l i+(if(Z1h l i).K=0 then 0 else 1)
def Z5X(l:List Page):∀ i,Z1P l i<=i
 | 0=>LB _
 | i+1=>by
  have:=Z5X l i;simp only[Z1P];split<;>omega
def Z25(l:List Page):Nat:=Z1P l l.length
def Zct(l:List Page)(i:Nat):Tg:=⟨tm 19 [(3,int (Z1P l i)),(6,Z0y l),(7,int l.length),(8,int i)],[],20⟩
def ZoD(l:List Page)(hl:l.length<=1048576)(i:Nat)(hi:i<l.length):CP (rndF f249 0) (Zct l i).st .nrm (Zct l (i+1)).st:=by
 have hp:=Lj hi;have hle:=Z5X l i;have hpa:Z1h l i=l[i]:=by simp[Z1h,hp]
 by_cases hk:l[i].K=0
 .have e:Z1P l (i+1)=Z1P l i:=by rw[Z1P,hpa,if_pos hk];rfl
  rw[show Zct l (i+1)=⟨tm 19 [(3,int (Z1P l i)),(6,Z0y l),(7,int l.length),(8,int ((i+1:Nat):Int))],[],20⟩from by rw[Zct,e]];refine Z1v [(9,[.br X]),(10,[.el l[i].dv]),(14,[.br Z]),(17,[.int ((i+1:Nat):Int)])] [] (φ:=Y ((i:Int)<(l.length:Int))=X/\X=X/\((0:Int)<=(i:Int)/\(M Page.dv l)[(i:Int).toNat]? = O (l.get (Lh i hi)).dv)/\((l.get (Lh i hi)).K != (0:Int))=Z/\Z=Z/\Lb.wrap ((i:Int)+(1:Int))=(↑(i+(1:Nat)):Int)) ?_ kr kr kr;exact⟨decide_eq_true oq,rfl,⟨by omega,Z1k hp⟩,by simp[hk],rfl,Z14 oq oq⟩
 .have e:Z1P l (i+1)=Z1P l i+1:=by rw[Z1P,hpa,if_neg hk]
  refine Z1v [(9,[.br X]),(10,[.el l[i].dv]),(14,[.br X]),(16,[.int (Z1P l (i+1))]),(17,[.int ((i+1:Nat):Int)])] [] (φ:=Y ((i:Int)<(l.length:Int))=X/\X=X/\((0:Int)<=(i:Int)/\(M Page.dv l)[(i:Int).toNat]? = O (l.get (Lh i hi)).dv)/\((l.get (Lh i hi)).K != (0:Int))=X/\X=X/\Lb.wrap ((↑(Z1P l i):Int)+(1:Int))=(↑(Z1P l (i+(1:Nat))):Int)/\Lb.wrap ((i:Int)+(1:Int))=(↑(i+(1:Nat)):Int)) ?_ kr kr kr;exact⟨decide_eq_true oq,rfl,⟨by omega,Z1k hp⟩,by simp[hk],rfl,by rw[e];exact Z14 oq oq,Z14 oq oq⟩
def ZpU(l:List Page):CP (rndF f249 0) (Zct l l.length).st (.ext 0) (Tg.st ⟨tm 19 [(3,int (Z25 l))],[],60⟩):=by
 refine Z1v [(9,[.br Z])] [] (φ:=Y ((l.length:Int)<(l.length:Int))=Z/\Z=Z) ?_ kr kr kr;exact⟨decide_eq_false oq,rfl⟩
def Z5b(l:List Page)(i:Nat):Tg:=⟨tm 20 [(0,Z0y l),(3,int (Z1P l i)),(4,int i)],[],20⟩
def ZeD(l:List Page)(hl:l.length<=1048576)(i:Nat)(hi:i<l.length):CP (rndF f46 0) (Z5b l i).st .nrm (Z5b l (i+1)).st:=by
 have hp:=Lj hi;have hle:=Z5X l i;have hpa:Z1h l i=l[i]:=by simp[Z1h,hp]
 by_cases hk:l[i].K=0
 .have e:Z1P l (i+1)=Z1P l i:=by rw[Z1P,hpa,if_pos hk];rfl
  rw[show Z5b l (i+1)=⟨tm 20 [(0,Z0y l),(3,int (Z1P l i)),(4,int ((i+1:Nat):Int))],[],20⟩from by rw[Z5b,e]];refine Z1v [(7,[.int l.length]),(8,[.br X]),(13,[.el l[i].dv]),(16,[.br Z]),(10,[.int ((i+1:Nat):Int)])] [] (φ:=(↑(M Page.dv l).length:Int)=(l.length:Int)/\Y ((i:Int)<(l.length:Int))=X/\X=X/\((0:Int)<=(i:Int)/\(M Page.dv l)[(i:Int).toNat]? = O (l.get (Lh i hi)).dv)/\((l.get (Lh i hi)).K != (0:Int))=Z/\Z=Z/\Lb.wrap ((i:Int)+(1:Int))=(↑(i+(1:Nat)):Int)) ?_ kr kr kr;exact⟨by rw[Lc],decide_eq_true oq,rfl,⟨by omega,Z1k hp⟩,by simp[hk],rfl,Z14 oq oq⟩
 .have e:Z1P l (i+1)=Z1P l i+1:=by rw[Z1P,hpa,if_neg hk]
  refine Z1v [(7,[.int l.length]),(8,[.br X]),(13,[.el l[i].dv]),(16,[.br X]),(18,[.int (Z1P l (i+1))]),(10,[.int ((i+1:Nat):Int)])] [] (φ:=(↑(M Page.dv l).length:Int)=(l.length:Int)/\Y ((i:Int)<(l.length:Int))=X/\X=X/\((0:Int)<=(i:Int)/\(M Page.dv l)[(i:Int).toNat]? = O (l.get (Lh i hi)).dv)/\((l.get (Lh i hi)).K != (0:Int))=X/\X=X/\Lb.wrap ((↑(Z1P l i):Int)+(1:Int))=(↑(Z1P l (i+(1:Nat))):Int)/\Lb.wrap ((i:Int)+(1:Int))=(↑(i+(1:Nat)):Int)) ?_ kr kr kr;exact⟨by rw[Lc],decide_eq_true oq,rfl,⟨by omega,Z1k hp⟩,by simp[hk],rfl,by rw[e];exact Z14 oq oq,Z14 oq oq⟩
def ZjN(l:List Page):CP (rndF f46 0) (Z5b l l.length).st (.ext 0) (Tg.st ⟨tm 20 [(3,int (Z25 l))],[],60⟩):=by
 refine Z1v [(7,[.int l.length]),(8,[.br Z])] [] (φ:=(↑(M Page.dv l).length:Int)=(l.length:Int)/\Y ((l.length:Int)<(l.length:Int))=Z/\Z=Z) ?_ kr kr kr;exact⟨by rw[Lc],decide_eq_false oq,rfl⟩
def Z60(l:List Page)(hl:l.length<=1048576):GP 46 [Z0y l] X (int (Z25 l)) []:=by
 refine Z0j [] [(0,Z5b l 0,.nrm,⟨tm 20 [(3,int (Z25 l))],[],60⟩)] [] dd func46 (φ:=CP (blkF f46 (0:Nat)) (Z5b l (0:Nat)).st Ex.nrm (Tg.mk (tm (20:Nat) [((3:Nat),int (↑(Z25 l):Int))]) [] (60:Nat)).st) ?_ kr kr;exact Z08 (S:=λi=>(Z5b l i).st) l.length kr (λi hi=>ZeD l hl i hi) (ZjN l)
def Z2I:List Run->Int->Int
 | [],_=>-1
 | r::l,k=>if k<=r.len then r.frm else Z2I l k
def first(l:List Page)(k:Int):Int:=if k<1 then -1 else Z2I (runs l) k
def Z4O:∀ {l:List Run} {k:Int},(l.all λr=>Y (r.len<k))=X->Z2I l k=-1
 | [],_,_=>rfl
 | r::l,k,h=>by
  simp only[LF,Le,decide_eq_true_eq]at h;rw[Z2I,if_neg oq,Z4O h.2]
def Z4K:∀ {l:List Run} {k:Int} {j:Nat} {r:Run},l[j]? = O r->k<=r.len->(∀ i:Nat,i<j->∃ y,l[i]? = O y/\Y (y.len<k)=X)->Z2I l k=r.frm
 | [],_,_,_,h,_,_=>by simp at h
 | x::l,k,0,r,h,hr,_=>by
  simp at h;subst h;rw[Z2I,if_pos hr]
 | x::l,k,j+1,r,h,hr,hb=>by
  obtain⟨y,h1,h2⟩:=hb 0 oq;simp at h1 h2;subst h1;rw[Z2I,if_neg oq];exact Z4K (by simpa using h) hr λi hi=>by
   obtain⟨z,h3,h4⟩:=hb (i+1) oq;exact⟨z,by simpa using h3,h4⟩
def Zg3{l:List Page}:(runs l).length<=l.length:=(Z2q l l.length).1
def Z5C(rs:List Run)(k:Int)(i:Nat):Tg:=⟨tm 23 [(1,int k),(4,int 0),(10,Z6s rs),(11,int rs.length),(12,int i)],[],20⟩
def Zau(rs:List Run)(k:Int)(i:Nat)(r:Run)(hl:rs.length<=1048576)(hr:rs[i]? = O r)(hk:r.len<k):CP (rndF f210 0) (Z5C rs k i).st .nrm (Z5C rs k (i+1)).st:=by
 have hi:i<rs.length:=(Ld.1 hr).1;refine Z1v [(13,[.br X]),(14,[.el r.dv]),(19,[.br Z]),(22,[.int ((i+1:Nat):Int)])] [] (φ:=Y ((i:Int)<(rs.length:Int))=X/\X=X/\((0:Int)<=(i:Int)/\(M Run.dv rs)[(i:Int).toNat]? = O r.dv)/\Y (k<=r.len)=Z/\Z=Z/\Lb.wrap ((i:Int)+(1:Int))=(↑(i+(1:Nat)):Int)) ?_ kr kr kr;exact⟨decide_eq_true oq,rfl,⟨by omega,Z9e hr⟩,decide_eq_false oq,rfl,Z14 oq oq⟩
def Zhj(rs:List Run)(k:Int)(i:Nat)(r:Run)(hr:rs[i]? = O r)(hk:k<=r.len):CP (rndF f210 0) (Z5C rs k i).st .ret (Tg.st ⟨tm 23 [(4,int r.frm)],[],60⟩):=by
 have hi:i<rs.length:=(Ld.1 hr).1;refine Z1v [(13,[.br X]),(14,[.el r.dv]),(19,[.br X])] [] (φ:=Y ((i:Int)<(rs.length:Int))=X/\X=X/\((0:Int)<=(i:Int)/\(M Run.dv rs)[(i:Int).toNat]? = O r.dv)/\Y (k<=r.len)=X/\X=X) ?_ kr kr kr;exact⟨decide_eq_true oq,rfl,⟨by omega,Z9e hr⟩,decide_eq_true oq,rfl⟩
def ZlN(rs:List Run)(k:Int):CP (rndF f210 0) (Z5C rs k rs.length).st (.ext 0) (Tg.st ⟨tm 23 [],[],60⟩):=by
 refine Z1v [(13,[.br Z])] [] (φ:=Y ((rs.length:Int)<(rs.length:Int))=Z/\Z=Z) ?_ kr kr kr;exact⟨decide_eq_false oq,rfl⟩
def ZpF(l:List Page)(k:Int)(hl:l.length<=1048576):GP 210 [Z0y l,int k] X (int (first l k)) []:=by
 by_cases hk:k<1
 .rw[first,if_pos hk];refine Z0j [(8,[.br X])] [] [] dd func210 (φ:=Y (k<(1:Int))=X/\X=X) ?_ kr kr;exact⟨decide_eq_true hk,rfl⟩
 .rw[first,if_neg hk];have hrl:=Zg3 (l:=l);cases ha:(runs l).all λr=>Y (r.len<k)with
  | true =>
   rw[Z4O ha];refine Z0j [(8,[.br Z]),(10,[.call Z (Z6s (runs l)) []]),(11,[.int (runs l).length])] [(0,Z5C (runs l) k 0,.nrm,⟨tm 23 [],[],60⟩)] [] dd func210 (φ:=Y (k<(1:Int))=Z/\Z=Z/\GP 231 [AV.d (DV.sl (4:Nat) (M Page.dv l))] Z (Z6s (runs l)) []/\(↑(M Run.dv (runs l)).length:Int)=(↑(runs l).length:Int)/\CP (blkF f210 (0:Nat)) (Z5C (runs l) k (0:Nat)).st Ex.nrm (Tg.mk (tm (23:Nat) []) [] (60:Nat)).st) ?_ kr kr;refine⟨decide_eq_false hk,rfl,Zfl l hl,by rw[Lc],Z08 (S:=λi=>(Z5C (runs l) k i).st) (runs l).length kr (λi hi=>?_) (ZlN _ _)⟩;have:=LG.1 ha _ (LK hi);exact Zau _ k i _ oq (Lj hi) (by simpa using this)
  | false =>
   obtain⟨j,r,h1,h2,h3⟩:=Z51 ha;have hr:k<=r.len:=by simpa using h2
   rw[Z4K h1 hr h3];refine Z0j [(8,[.br Z]),(10,[.call Z (Z6s (runs l)) []]),(11,[.int (runs l).length])] [(0,Z5C (runs l) k 0,.ret,⟨tm 23 [(4,int r.frm)],[],60⟩)] [] dd func210 (φ:=Y (k<(1:Int))=Z/\Z=Z/\GP 231 [AV.d (DV.sl (4:Nat) (M Page.dv l))] Z (Z6s (runs l)) []/\(↑(M Run.dv (runs l)).length:Int)=(↑(runs l).length:Int)/\CP (blkF f210 (0:Nat)) (Z5C (runs l) k (0:Nat)).st Ex.ret (Tg.mk (tm (23:Nat) [((4:Nat),int r.frm)]) [] (60:Nat)).st) ?_ kr kr;refine⟨decide_eq_false hk,rfl,Zfl l hl,by rw[Lc],Z0v (S:=λi=>(Z5C (runs l) k i).st) j kr (λi hi=>?_) (Zhj _ k j r h1 hr)⟩;obtain⟨y,h4,h5⟩:=h3 i hi;exact Zau _ k i y oq h4 (by simpa using h5)
def Z2Y(rs:List Run)(k:Int)(i:Nat):Tg:=⟨tm 31 [(1,int k),(4,int 0),(5,Z6s rs),(6,int i)],[],20⟩
def Z5N(rs:List Run)(k:Int)(i:Nat)(r:Run)(hl:rs.length<=1048576)(hr:rs[i]? = O r)(hk:k<1\/r.len<k):CP (rndF f203 0) (Z2Y rs k i).st .nrm (Z2Y rs k (i+1)).st:=by
 have hi:i<rs.length:=(Ld.1 hr).1;refine Z1v [(11,[.int rs.length]),(12,[.br X]),(20,[.el r.dv]),(25,[.br Z]),(14,[.int ((i+1:Nat):Int)])] [] (φ:=(↑(M Run.dv rs).length:Int)=(rs.length:Int)/\Y ((i:Int)<(rs.length:Int))=X/\X=X/\(Y ((1:Int)<=k)=X->(0:Int)<=(i:Int)/\(M Run.dv rs)[(i:Int).toNat]? = O r.dv)/\(Y ((1:Int)<=k)&&Y (k<=r.len))=Z/\Z=Z/\Lb.wrap ((i:Int)+(1:Int))=(↑(i+(1:Nat)):Int)) ?_ kr kr kr;exact⟨by rw[Lc],decide_eq_true oq,rfl,λ_=>⟨by omega,Z9e hr⟩,by simp;omega,rfl,Z14 oq oq⟩
def ZdM(rs:List Run)(k:Int)(i:Nat)(r:Run)(hr:rs[i]? = O r)(hk1:1<=k)(hk:k<=r.len):CP (rndF f203 0) (Z2Y rs k i).st .ret (Tg.st ⟨tm 31 [(4,int r.frm)],[],60⟩):=by
 have hi:i<rs.length:=(Ld.1 hr).1;refine Z1v [(11,[.int rs.length]),(12,[.br X]),(20,[.el r.dv]),(25,[.br X]),(28,[.el r.dv])] [] (φ:=(↑(M Run.dv rs).length:Int)=(rs.length:Int)/\Y ((i:Int)<(rs.length:Int))=X/\X=X/\(Y ((1:Int)<=k)=X->(0:Int)<=(i:Int)/\(M Run.dv rs)[(i:Int).toNat]? = O r.dv)/\(Y ((1:Int)<=k)&&Y (k<=r.len))=X/\X=X/\(0:Int)<=(i:Int)/\(M Run.dv rs)[(i:Int).toNat]? = O r.dv) ?_ kr kr kr;exact⟨by rw[Lc],decide_eq_true oq,rfl,λ_=>⟨by omega,Z9e hr⟩,by simp;omega,rfl,⟨by omega,Z9e hr⟩⟩
def Zdo(rs:List Run)(k:Int):CP (rndF f203 0) (Z2Y rs k rs.length).st (.ext 0) (Tg.st ⟨tm 31 [],[],60⟩):=by
 refine Z1v [(11,[.int rs.length]),(12,[.br Z])] [] (φ:=(↑(M Run.dv rs).length:Int)=(rs.length:Int)/\Y ((rs.length:Int)<(rs.length:Int))=Z/\Z=Z) ?_ kr kr kr;exact⟨by rw[Lc],decide_eq_false oq,rfl⟩
def Z5o(l:List Page)(k:Int)(hl:l.length<=1048576):GP 203 [Z0y l,int k] X (int (first l k)) []:=by
 have hrl:=Zg3 (l:=l);by_cases hk:k<1
 .rw[first,if_pos hk];refine Z0j [(8,[.call Z (Z6s (runs l)) []])] [(0,Z2Y (runs l) k 0,.nrm,⟨tm 31 [],[],60⟩)] [] dd func203 (φ:=GP 226 [AV.d (DV.sl (4:Nat) (M Page.dv l))] Z (Z6s (runs l)) []/\CP (blkF f203 (0:Nat)) (Z2Y (runs l) k (0:Nat)).st Ex.nrm (Tg.mk (tm (31:Nat) []) [] (60:Nat)).st) ?_ kr kr;exact⟨Zei l hl,Z08 (S:=λi=>(Z2Y (runs l) k i).st) (runs l).length kr (λi hi=>Z5N _ k i _ oq (Lj hi) (.inl hk)) (Zdo _ _)⟩
 .rw[first,if_neg hk];cases ha:(runs l).all λr=>Y (r.len<k)with
  | true =>
   rw[Z4O ha];refine Z0j [(8,[.call Z (Z6s (runs l)) []])] [(0,Z2Y (runs l) k 0,.nrm,⟨tm 31 [],[],60⟩)] [] dd func203 (φ:=GP 226 [AV.d (DV.sl (4:Nat) (M Page.dv l))] Z (Z6s (runs l)) []/\CP (blkF f203 (0:Nat)) (Z2Y (runs l) k (0:Nat)).st Ex.nrm (Tg.mk (tm (31:Nat) []) [] (60:Nat)).st) ?_ kr kr;refine⟨Zei l hl,Z08 (S:=λi=>(Z2Y (runs l) k i).st) (runs l).length kr (λi hi=>?_) (Zdo _ _)⟩;have:=LG.1 ha _ (LK hi);exact Z5N _ k i _ oq (Lj hi) (.inr (by simpa using this))
  | false =>
   obtain⟨j,r,h1,h2,h3⟩:=Z51 ha;have hr:k<=r.len:=by simpa using h2
   rw[Z4K h1 hr h3];refine Z0j [(8,[.call Z (Z6s (runs l)) []])] [(0,Z2Y (runs l) k 0,.ret,⟨tm 31 [(4,int r.frm)],[],60⟩)] [] dd func203 (φ:=GP 226 [AV.d (DV.sl (4:Nat) (M Page.dv l))] Z (Z6s (runs l)) []/\CP (blkF f203 (0:Nat)) (Z2Y (runs l) k (0:Nat)).st Ex.ret (Tg.mk (tm (31:Nat) [((4:Nat),int r.frm)]) [] (60:Nat)).st) ?_ kr kr;refine⟨Zei l hl,Z0v (S:=λi=>(Z2Y (runs l) k i).st) j kr (λi hi=>?_) (ZdM _ k j r h1 oq hr)⟩;obtain⟨y,h4,h5⟩:=h3 i hi;exact Z5N _ k i y oq h4 (.inr (by simpa using h5))
def Z99(l:List Page):∀ i,∀ r∈Z05 l i,∀ j:Int,r.frm<=j->j<r.frm+r.len->(l.getD j.toNat L).K=0
 | 0=>by simp[Z05]
 | i+1=>by
  have ih:=Z99 l i;have ok:=(Z2q l i).2;intro r hr j h1 h2;simp only[Z05,Z3o]at hr;have hpa:Z1h l i=l.getD i L:=by rw[Z8g];simp
  split at hr
  .rename_i hk;rw[hpa]at hk;split at hr
   .rename_i hc;have hmem:=Lk (Z20 hc.1);rcases Lt.1 hr with hr | hr
    .exact ih r (LH _ hr) j h1 h2
    .simp at hr;subst hr;simp only at h1 h2;by_cases hj:j=i
     .subst hj;simpa using hk
     .exact ih _ hmem j h1 oq
   .rcases Lt.1 hr with hr | hr
    .exact ih r hr j h1 h2
    .simp at hr;subst hr;simp only at h1 h2;have:j=i:=by omega
     subst this;simpa using hk
  .exact ih r hr j h1 h2
def Z8T:∀ {l:List Run} {k:Int},0<=Z2I l k->∃ r∈l,Z2I l k=r.frm/\k<=r.len
 | [],_,h=>by simp[Z2I]at h
 | r::l,k,h=>by
  rw[Z2I]at h ⊢;split
  .exact⟨r,by simp,rfl,aa⟩
  .rename_i hk;rw[if_neg hk]at h;obtain⟨x,hx,h1,h2⟩:=Z8T h;exact⟨x,by simp[hx],h1,h2⟩
def Z21{l:List Page}{k:Int}(h:0<=first l k):1<=k/\first l k+k<=l.length/\Z8M l (first l k).toNat k.toNat=X:=by
 unfold first at h ⊢
 split at h
 .omega
 .rename_i hk;rw[if_neg hk];obtain⟨r,hr,h1,h2⟩:=Z8T h;have ok:=(Z2q l l.length).2 r hr;rw[h1]at h ⊢;refine⟨by omega,by omega,freeK_iff.2 λj hj=>?_⟩;have:=Z99 l l.length r hr (r.frm+j) oq oq;rwa [show(r.frm+(j:Int)).toNat=r.frm.toNat+j from by omega]at this
def Z5J(l:List Page)(k:Int):-1<=first l k/\first l k<=l.length:=by
 by_cases h:0<=first l k
 .have:=Z21 h;omega
 .unfold first at h ⊢
  split
  .omega
  .rename_i hk;rw[if_neg hk]at h;have:∀ m:List Run,(∀ r∈m,0<=r.frm)->-1<=Z2I m k:=by
    intro m;induction m with
    | nil=>intro _;simp[Z2I]
    | cons r m ih =>
     intro hm;rw[Z2I];split
     .have:=hm r pq;omega
     .exact ih λx hx=>hm x (by simp[hx])
   have:=this (runs l) λr hr=>((Z2q l l.length).2 r hr).1;omega
def Zjg{c:Conf}{l:List Page}:∀ {f i:Nat} {due:Int},0<=due->rpB c l f i due=X->l.length<=i+f->∀ j,i<=j->j<l.length->∃ d,0<=d/\rchk c l j d:=by
 intro f;induction f with
 | zero=>intro i due _ _ hl j h1 h2;omega
 | succ f ih =>
  intro i due hd hr hl j h1 h2;rw[rpB,if_pos oq,Le]at hr;have hc:=of_decide_eq_true hr.1;by_cases hj:j=i
  .subst hj;exact⟨due,hd,hc⟩
  .refine ih ?_ hr.2 oq j oq h2;unfold rdue;split
   .rename_i hk;have:=hc.2.2.2.2.2.2.2.2.2.1 hk;omega
   .omega
def Z0L{h:Heap}(hp:Z02 h=X){j:Nat}(hj:j<h.P.length):0<=(h.P.getD j L).S/\(h.P.getD j L).S<=1/\0<=(h.P.getD j L).N/\(h.P.getD j L).N<=2147483647 /\
  0<=(h.P.getD j L).K/\(h.P.getD j L).K<=3/\0<=(h.P.getD j L).U/\(h.P.getD j L).U<=256/\((h.P.getD j L).K=1->(h.P.getD j L).U<=h.C.pw):=by
 have hi:=properB_iff.1 hp;have hv:=validB_iff.1 hi.1;obtain⟨d,_,hc⟩:=Zjg oq hi.2.2.2.2.2 oq j oq hj;unfold rchk at hc;have hu:(h.P.getD j L).K=2->1<=(h.P.getD j L).U/\(h.P.getD j L).U<=256:=by
  intro hk;have hn:=(hc.2.2.2.2.2.2.2.2.2.1 hk).1;unfold need at hn;split at hn
  .omega
  .omega
 omega
def Z7g(l:List Page):Z25 l<=l.length:=Z5X l l.length
abbrev tP(l:List Page)(s:Int):List Page:=tookP l (first l 1).toNat 1 (Page.mk 1 s 0 0) (Page.mk 0 0 0 0)
def Z1j(c:Conf)(hd:Header):Bool:=Z0i hd&&Y (hd.K≠0)&&Y (need c (sizeH hd)≠-1)
def Z5u(c:Conf)(hd:Header)(hm:0<=hd.map/\hd.map<=4294967295):GP 165 [c.av,hd.av] X (bool (Z1j c hd)) []:=by
 refine gspec_ofE [((6:Nat),[Hint.call X (Sx.bool (Z0i hd)) []]),((15:Nat),[Hint.call X (int (sizeH hd)) []]),((16:Nat),[Hint.call X (int (need c (sizeH hd))) []])] [] [] dd func165 [Z,Z,Z,Z,Z,Z,Z,Z,X] (φ:=GP 113 [hd.av] X (Sx.bool (Z0i hd)) []/\((Z0i hd&&hd.K != (0:Int))=X->GP 70 [hd.av] X (int (sizeH hd)) [])/\((Z0i hd&&hd.K != (0:Int))=X->GP 47 [c.av,int (sizeH hd)] X (int (need c (sizeH hd))) [])/\(Z0i hd&&hd.K != (0:Int)&&need c (sizeH hd) != (-1:Int))=Z1j c hd) ?_ kr kr;exact⟨(@Z28 (hd) aa),(λhg=>by(try simp only[bs]at hg);exact @Z1E (hd) (by(try simp only[bs]at hg);assumption)),(λhg=>by(try simp only[bs]at hg);exact @Z3V (c) (sizeH hd)),(by grind[Z1j])⟩
def Z2W(l:List Page)(i:Nat)(n:Int):List Page:=l.set i ⟨(l.getD i L).K,(l.getD i L).S,(l.getD i L).U+n,(l.getD i L).N⟩
def Z9v(h:Heap)(n:Int):Prop:=0<=h.B/\(h.P.getD h.B.toNat L).S=h.S/\(h.P.getD h.B.toNat L).U+n<=h.C.pw/\(Z25 h.P:Int)<=Z0X h.C
instance (h:Heap) (n:Int):Decidable (Z9v h n):=by unfold Z9v;infer_instance
def Z3L(h:Heap):List Page:=(ZmG h.P (first h.P 1) h.S).1
def Z0o(h:Heap)(n:Int):Heap×Int×Bool :=
 if Z9v h n then(⟨h.C,h.W,Z2W h.P h.B.toNat n,h.S,h.B⟩,4096+h.B*h.C.pw+(h.P.getD h.B.toNat L).U,X)
 else if 0<=first h.P 1/\(Z25 h.P:Int)<Z0X h.C then
  (⟨h.C,h.W,Z2W (Z3L h) (first h.P 1).toNat n,h.S,first h.P 1⟩,4096+first h.P 1*h.C.pw+((Z3L h).getD (first h.P 1).toNat L).U,X)
 else(noHeap,0,Z)
def Z8v{l:List Page}{i k:Nat}{p q:Page}(h:i+k<=l.length):(tookP l i k p q).length=l.length:=by
 rw[tookP,List.length_set];exact Z4X (by simpa using h) pq
def Z3y{h:Heap}(hs:h.S=0\/h.S=1)(hf:0<=first h.P 1):Z3L h=tookP h.P (first h.P 1).toNat 1 ⟨1,h.S,0,0⟩ ⟨0,0,0,0⟩/\(Z3L h).length=h.P.length/\(first h.P 1)<h.P.length /\
  ((Z3L h).getD (first h.P 1).toNat L)=⟨1,h.S,0,0⟩:=by
 obtain⟨_,h1,h2⟩:=Z21 hf;have e:Z3L h=tookP h.P (first h.P 1).toNat 1 ⟨1,h.S,0,0⟩ ⟨0,0,0,0⟩:=by
  rw[Z3L,ZmG,if_pos oq,Z2T,if_pos oq,if_pos h2];rfl
 have hl:(Z3L h).length=h.P.length:=by rw[e];exact Z8v oq
 refine⟨e,hl,by omega, ?_⟩;rw[e,tookP,Lo,LJ,if_pos rfl,if_pos (by rw[Z4X qo pq];omega)];rfl
def Zbn{c:Conf}(hv:Z06 c=X):2<=Z0X c/\Z0X c<=16:=by
 have:=validB_iff.1 hv;rw[Z0X,if_pos hv,Z40 oq];omega
def Z2z{c:Conf}{i:Int}(hv:Z06 c=X)(h0:0<=i)(h1:i<c.pg):0<=i*c.pw/\i*c.pw+c.pw<=4096:=by
 have hb:=validB_iff.1 hv;have ha:=area hv;have h2:0<=i*c.pw:=Int.mul_nonneg h0 oq;have h3:(i+1)*c.pw<=c.pg*c.pw:=Int.mul_le_mul_of_nonneg_right oq oq;rw[Int.add_mul,LD,Ln c.pg]at h3;omega
def Z6d(h:Heap)(n:Int)(hp:Z02 h=X)(hn:1<=n/\n<=256):GP 166 [h.av,int n] Z (.tu [(Z0o h n).1.av,u64 (Z0o h n).2.1,bool (Z0o h n).2.2]) []:=by
 have po:=Z0a hp;obtain⟨o1,o2,o3,o4,o5,o6,o7,o8,o9⟩:=po;have hb:=(properB_iff.1 hp).2.2.2.2.1;have hpg:=λhj=>Z0L hp (j:=h.B.toNat) hj;have hr:=Z5J h.P 1;have hfo:=λhf=>Z3y (h:=h) o9 hf;have hiu:=Z7g h.P;have hli:=Zbn o1;have hm1:0<=h.B->0<=h.B*h.C.pw/\h.B*h.C.pw+h.C.pw<=4096:=λh0=>Z2z o1 h0 oq;have hm2:0<=first h.P 1->0<=first h.P 1*h.C.pw/\first h.P 1*h.C.pw+h.C.pw<=4096:=λh0=>Z2z o1 h0 (by have:=hfo h0;omega)
 by_cases hf:Z9v h n
 .have e7:Z0o h n=(⟨h.C,h.W,Z2W h.P h.B.toNat n,h.S,h.B⟩,4096+h.B*h.C.pw+(h.P.getD h.B.toNat L).U,X):=by rw[Z0o,if_pos hf]
  unfold Z9v at hf;rw[show Z0o h n=(Heap.mk h.C h.W (h.P.set h.B.toNat (Page.mk (h.P.getD h.B.toNat L).K (h.P.getD h.B.toNat L).S ((h.P.getD h.B.toNat L).U+n) (h.P.getD h.B.toNat L).N)) h.S h.B,(4096:Int)+h.B*h.C.pw+(h.P.getD h.B.toNat L).U,X)from by rw[e7];rfl];let y0:=h.P.getD h.B.toNat L;exact gF [] func166 [] (FA 11 14 Page.dv h.P (Fc 18 (@Z6A h.C) (Fc 21 (@Z60 h.P oq) (FmGq 32 (!decide (h.B<0)) Page.dv h.P h.B (FmGq 43 (!(Y (h.B<0)||y0.S != h.S)) Page.dv h.P h.B (FiG 45 (!(Y (h.B<0)||y0.S != h.S)) (y0.U+n) (Ffb 55 (Y (h.B<0)||y0.S != h.S||Y (h.C.pw<y0.U+n)||Y (Z0X h.C<(↑(Z25 h.P):Int))) (Fi 83 (h.B*h.C.pw) (Fi 84 (4096+h.B*h.C.pw) (Fmq 90 Page.dv h.P h.B (Fi 91 (4096+h.B*h.C.pw+y0.U) (Fv 92 (4096+h.B*h.C.pw+y0.U) (Fmq 101 Page.dv h.P h.B (Fi 103 (y0.U+n) (Fm0q Page.dv h.P h.B (FS 10105 Page.dv h.P h.B.toNat (Page.mk y0.K y0.S (y0.U+n) y0.N) (y0.dv) Fz))))))))))))))))
 .by_cases hg:0<=first h.P 1/\(Z25 h.P:Int)<Z0X h.C
  .have e7:Z0o h n=(⟨h.C,h.W,Z2W (Z3L h) (first h.P 1).toNat n,h.S,first h.P 1⟩,4096+first h.P 1*h.C.pw+((Z3L h).getD (first h.P 1).toNat L).U,X):=by rw[Z0o,if_neg hf,if_pos hg]
   obtain⟨q1,q2,q3,q4⟩:=hfo hg.1;obtain⟨r1,r2,r3⟩:=Z21 hg.1;have r4:Z8M h.P (first h.P 1).toNat 1=X:=r3;rw[q1]at e7 q2 q4;have q6:=congrArg Page.U q4;simp only at q6;unfold Z9v at hf;rw[show Z0o h n=(Heap.mk h.C h.W ((tookP h.P (first h.P (1:Int)).toNat (1:Nat) (Page.mk (1:Int) h.S (0:Int) (0:Int)) (Page.mk (0:Int) (0:Int) (0:Int) (0:Int))).set (first h.P (1:Int)).toNat (Page.mk ((tookP h.P (first h.P (1:Int)).toNat (1:Nat) (Page.mk (1:Int) h.S (0:Int) (0:Int)) (Page.mk (0:Int) (0:Int) (0:Int) (0:Int))).getD (first h.P (1:Int)).toNat L).K ((tookP h.P (first h.P (1:Int)).toNat (1:Nat) (Page.mk (1:Int) h.S (0:Int) (0:Int)) (Page.mk (0:Int) (0:Int) (0:Int) (0:Int))).getD (first h.P (1:Int)).toNat L).S (((tookP h.P (first h.P (1:Int)).toNat (1:Nat) (Page.mk (1:Int) h.S (0:Int) (0:Int)) (Page.mk (0:Int) (0:Int) (0:Int) (0:Int))).getD (first h.P (1:Int)).toNat L).U+n) ((tookP h.P (first h.P (1:Int)).toNat (1:Nat) (Page.mk (1:Int) h.S (0:Int) (0:Int)) (Page.mk (0:Int) (0:Int) (0:Int) (0:Int))).getD (first h.P (1:Int)).toNat L).N)) h.S (first h.P (1:Int)),(4096:Int)+first h.P (1:Int)*h.C.pw+((tookP h.P (first h.P (1:Int)).toNat (1:Nat) (Page.mk (1:Int) h.S (0:Int) (0:Int)) (Page.mk (0:Int) (0:Int) (0:Int) (0:Int))).getD (first h.P (1:Int)).toNat L).U,X)from by rw[e7];rfl];let y1:=tookP h.P (first h.P 1).toNat 1 (Page.mk 1 h.S 0 0) (Page.mk 0 0 0 0);let y2:=y1.getD (first h.P 1).toNat L;let y3:=h.P.getD h.B.toNat L;exact gF [] func166 [] (FA 11 14 Page.dv h.P (Fc 18 (@Z6A h.C) (Fc 21 (@Z60 h.P oq) (FmGq 32 (!decide (h.B<0)) Page.dv h.P h.B (FmGq 43 (!(Y (h.B<0)||y3.S != h.S)) Page.dv h.P h.B (FiG 45 (!(Y (h.B<0)||y3.S != h.S)) (y3.U+n) (Ftb 55 (Y (h.B<0)||y3.S != h.S||Y (h.C.pw<y3.U+n)||Y (Z0X h.C<(↑(Z25 h.P):Int))) (Fc 58 (@Z5o h.P (1) oq) (Ffb 65 (Y (first h.P (1:Int)<0)||Y (Z0X h.C<=(↑(Z25 h.P):Int))) (Fc 73 (@ZaI h.P (first h.P 1) h.S oq oq oq aa) (Fi 83 (first h.P 1*h.C.pw) (Fi 84 (4096+first h.P 1*h.C.pw) (Fmq 90 Page.dv y1 (first h.P 1) (Fi 91 (4096+first h.P 1*h.C.pw+y2.U) (Fv 92 (4096+first h.P 1*h.C.pw+y2.U) (Fmq 101 Page.dv y1 (first h.P 1) (Fi 103 (y2.U+n) (Fm0q Page.dv y1 (first h.P 1) (FS 10105 Page.dv y1 ((first h.P 1).toNat) (Page.mk y2.K y2.S (y2.U+n) y2.N) (y2.dv) Fz)))))))))))))))))))
  .have e7:Z0o h n=(noHeap,0,Z):=by rw[Z0o,if_neg hf,if_neg hg]
   unfold Z9v at hf;rw[e7];let y4:=h.P.getD h.B.toNat L;exact gF [] func166 [] (FAx 11 14 Page.dv h.P (by(simp[noHeap, *];omega)) (Fc 18 (@Z6A h.C) (Fc 21 (@Z60 h.P oq) (FmGq 32 (!decide (h.B<0)) Page.dv h.P h.B (FmGq 43 (!(Y (h.B<0)||y4.S != h.S)) Page.dv h.P h.B (FiG 45 (!(Y (h.B<0)||y4.S != h.S)) (y4.U+n) (Ftb 55 (Y (h.B<0)||y4.S != h.S||Y (h.C.pw<y4.U+n)||Y (Z0X h.C<(↑(Z25 h.P):Int))) (Fc 58 (@Z5o h.P (1) oq) (Ftb 65 (Y (first h.P (1:Int)<0)||Y (Z0X h.C<=(↑(Z25 h.P):Int))) (Fnl (Fnl Fz)))))))))))
end Go.Proofs.YtgedmeaemofdkaaGreat
