/-
 The statement CollectKeeps: part 7.
 Conditions: none.
-/
import Derived.Laws.Bits64b
import Derived.WalkSmall
import Derived.Test.YtgedmeaemofdkaaGreatX6
set_option maxRecDepth 100000
set_option maxHeartbeats 2000000
set_option linter.all false
open Decidable renaming decide->X
open Bool renaming true->Y,false->L,and_eq_true->Le,eq_false_iff->Ll,or_eq_true->Lq,eq_false_or_eq_true->Lu,eq_iff_iff->Lv,true_and->Lw
open List renaming map->Z,replicate->O,length_map->Lc,getElem?_eq_some_iff->Ld,drop->Lg,getElem?_eq_getElem->Li,mem_of_getElem?->Lj,take->Lk,getD_eq_getElem?_getD->Lo,map_set->Lp,getD->Lr,length_drop->Ls,mem_append->Lt,length_pos_iff->Lz,range->LA,all_cons->LF,all_eq_true->LG,dropLast_subset->LH,getElem?_range->LI,getElem?_set->LJ,getElem_mem->LK,map_append->LL,map_drop->LM,map_take->LN,mem_range->LO,take_succ_cons->LQ
open Inhabited renaming default->M
open Option renaming some->La
open Go.IntKind renaming i64->Lb,u64->Lf,u32->Ly
open Int renaming toNat->Lh,mul_comm->Ln,ediv_nonneg->Lx,ediv_lt_of_lt_mul->LC,one_mul->LD
open Go.Field renaming mk->Lm
open Nat renaming le_refl->LB,le_of_lt->LR,min_eq_left->LS
open Go.Proofs.Tryz
namespace Go.Proofs.YtgedmeaemofdkaaGreat
open Go.Sx
def ones(n:Int):Int:=2^(min n.toNat 64)-1
structure Zz where
 K:Int
 length:Int
 map:Int
 deriving DecidableEq,Inhabited
def u32(n:Int):AV:=.d (.sc (.int .u32 n))
def Zz.av(h:Zz):AV:=.ag [nI h.K,nI h.length,u32 h.map]
def or_one(k:Nat)(h:k<64):bits .or .u64 (Lf.wrap ((2^k-1)*2^min (Lh 1) 64)) 1=2^(k+1)-1:=by have:k∈LA 64:=LO.2 h;revert k;decide+kernel
def AP(m:Nat)(i:Nat):Tg:=⟨tm 14 [(2,uU 0),(3,uU (2^i-1)),(6,nI m),(7,nI i)],[],20⟩
def ZkT(m i:Nat)(hm:m<=64)(hi:i<m):CP (Zm f170 0) (AP m i).st .nrm (AP m (i+1)).st:=by have a:=or_one i oq;exact sF [] [L,Y]<|Ftb 8 (X ((i:Int)<(m:Int)))<|Fo ((0:Int)<=1)<|Fg 12 (Ef oq oq:Lb.wrap ((i:Int)+1)=(↑(i+1):Int))<|Fa (a:bits BinOp.or Lf (Lf.wrap ((2^i-1)*2^min (Lh 1) 64)) (1:Int)=2^(i+1)-1) Fz
def Zgl m:CP (Zm f170 0) (AP m m).st (.ext 0) (Tg.st ⟨tm 14 [(3,uU (2^m-1))],[],60⟩):=by exact sF [] []<|Ffb 8 (X ((m:Int)<(m:Int))) Fz
def ZiT(m:Nat)(b:m<=64)  := Bp (S:=λi=>(AP m i).st) m (by kernel_rfl) (λi a=>ZkT m i b a) (Zgl m)
def S8 n:GP 170 [nI n] Y (uU (ones n)) []:=by
 have ei:min (max n 0) 64=((min n.toNat 64:Nat):Int):=by omega
 exact gF [] func170 []<|Fgo 5 (if 0 > n then 0 else n) (max n 0)<|Fgo 6 (if 64<max n 0 then 64 else max n 0) (↑(min n.toNat 64):Int)<|Fu (@ZiT (min n.toNat 64) oq) Fz
def ZU(h:Zz):Bool:=X (0<=h.K/\h.K<=3/\0<=h.length/\h.length<=255/\(if h.K=1 then h.length<=32/\h.map<2^h.length.toNat else h.map=0))
def Z5(h:Zz):Int:=if ZU h=Y then h.length+1 else 0
def Ec:Zz:=⟨0,0,0⟩
def Zy(h:Zz):Int×Int:=if ZU h=Y then(1+4*h.K+16*h.length+65536*h.map,0)else(0,1)
def G0(w:Int):Zz:=⟨w/4%4,w/16%4096,w/65536%4294967296⟩
def Z8(w:Int):Zz×Bool:=if(Zy (G0 w)).2=0/\(Zy (G0 w)).1=w then(G0 w,Y)else(Ec,L)
def Ba(h:Zz)(i:Int):Bool:=ZU h&&X (0<=i)&&X (i<h.length)&&(h.K==2||(h.K==1&&(h.map/2^i.toNat%2==1)))
def Gx{h:Zz}:ZU h=Y↔0<=h.K/\h.K<=3/\0<=h.length/\h.length<=255/\(if h.K=1 then h.length<=32/\h.map<2^h.length.toNat else h.map=0):=by simp[ZU]
def Zak{n:Int}(h1:n<=32):(1:Int)<=2^n.toNat/\(2:Int)^n.toNat<=4294967296:=by
 have:n.toNat<=32:=by omega
 generalize n.toNat=k at this;have hk:k∈LA 33:=LO.2 oq;revert k;decide+kernel
def ZmX{n:Int}(a:n<=32):Lf.wrap (1*2^min n.toNat 64)=2^n.toNat:=by have:=Zak a;rw[LS oq,LD];exact Po oq oq
def Zfz{h:Zz}(b:ZU h=Y)(hm:0<=h.map)(a:h.map<=4294967295):0<=h.K/\h.K<=3/\0<=h.length/\h.length<=255/\0<=h.map/\h.map<=4294967295:=by have:=Gx.1 b;omega
def NH(h:Zz)(hm:0<=h.map/\h.map<=4294967295):GP 113 [h.av] Y (bL (ZU h)) []:=by have hs:h.length<=32->Lf.wrap (1*2^min h.length.toNat 64)=2^h.length.toNat:=ZmX;rcases bb (X (h.K<0)||X (3<h.K)||X (h.length<0)||X (255<h.length))with hc0|hc0<;>have a:=hc0<;>simp only[bs]at a;exact gF [] func113 (fO 9)<|Ft 20 hc0<|Fa (by(simp[ZU, *];omega):L=ZU h) Fz;obtain⟨⟨⟨b,c⟩,e⟩,f⟩:=a;rcases bb (h.K != 1)with hc1|hc1<;>have d:=hc1<;>simp only[bs]at d;exact gF [] func113 (fO 9)<|Ff 20 hc0<|Ft 23 hc1<|Fa (by grind[ZU]:(h.map==0)=ZU h) Fz;exact gF [] func113 (fO 17)<|Ff 20 hc0<|Ff 23 hc1<|FvG 33 (X (h.length<=32)) h.map<|FvG 36 (X (h.length<=32)) h.length<|Fa (by intro g;(try simp only[bs]at g);omega:X (h.length<=32)=Y->0<=h.length)<|Fa (by grind[ZU]:(X (h.length<=32)&&X (h.map<Lf.wrap ((1:Int)*2^min h.length.toNat 64)))=ZU h) Fz
def Iu(h:Zz)(hm:0<=h.map/\h.map<=4294967295):GP 70 [h.av] Y (nI (Z5 h)) []:=by rcases bb (!ZU h)with hc0|hc0<;>have a:=hc0<;>simp only[bs]at a;exact gF [] func70 [Y]<|Fc 4 (@NH h aa)<|Ft 5 hc0<|Fa (by simp[Z5, *]:0=Z5 h) Fz;have e:=Gx.1 a;obtain⟨g,⟨f,⟨d,⟨b,c⟩⟩⟩⟩:=e;exact gF [] func70 [Y]<|Fc 4 (@NH h aa)<|Ff 5 hc0<|Fi 8 (h.length+1)<|Fa (by simp[Z5, *]:h.length+1=Z5 h) Fz
def M5(h:Zz)(hm:0<=h.map/\h.map<=4294967295):GP 143 [h.av] Y (.tu [uU (Zy h).1,nI (Zy h).2]) []:=by rcases bb (!ZU h)with hc0|hc0<;>have a:=hc0<;>simp only[bs]at a;rw[show Zy h=((0:Int),(1:Int))from by simp[Zy, *]];exact gF [] func143 []<|Fc 5 (@NH h aa)<|Ft 6 hc0 Fz;have e:=Gx.1 a;obtain⟨g,⟨f,⟨d,⟨b,c⟩⟩⟩⟩:=e;rw[show Zy h=((1:Int)+(4:Int)*h.K+(16:Int)*h.length+h.map*(65536:Int),(0:Int))from by(simp[Zy, *];omega)];exact gF [] func143 []<|Fc 5 (@NH h aa)<|Ff 6 hc0<|Fv 9 h.K<|Fv 10 (4*h.K)<|Fv 11 ((1:Int)+4*h.K)<|Fv 14 h.length<|Fv 15 (16*h.length)<|Fv 16 ((1:Int)+4*h.K+16*h.length)<|Fv 19 h.map<|Fg 20 (Bs rfl oq oq:Lf.wrap (h.map*2^min (Lh 16) 64)=h.map*65536)<|Fo ((0:Int)<=16)<|Fv 21 ((1:Int)+4*h.K+16*h.length+h.map*65536) Fz
def Z1k(w:Int)(h0:0<=w):0<=(G0 w).map/\(G0 w).map<=4294967295:=by simp only[G0];omega
def AJ(w:Int)(h0:0<=w)(h1:w<=18446744073709551615):GP 148 [uU w] Y (.tu [(Z8 w).1.av,bL (Z8 w).2]) []:=by have hm:=Z1k w h0;have Q0 {h_ c_ p_} (r_:Fq h_ c_ p_):=Fg 8 (HI rfl dd:w.fdiv (2^min (Lh 2) 64)=w/4)<|Fo ((0:Int)<=2)<|Fg 9 (NU 2 dd dd oq oq:bits BinOp.and Lf (w/4) 3=w/4%4)<|Fi 10 (w/4%4)<|Fg 12 (HI rfl dd:w.fdiv (2^min (Lh 4) 64)=w/16)<|Fo ((0:Int)<=4)<|Fg 13 (NU 12 dd dd oq oq:bits BinOp.and Lf (w/16) 4095=w/16%4096)<|Fi 14 (w/16%4096)<|Fg 16 (HI rfl dd:w.fdiv (2^min (Lh 16) 64)=w/65536)<|Fo ((0:Int)<=16)<|Fg 17 (rfl:Ly.wrap (w/65536)=w/65536%4294967296)<|Fc 21 (@M5 (Zz.mk (w/4%4) (w/16%4096) (w/65536%4294967296)) aa) r_;rcases bb ((Zy (Zz.mk (w/4%4) (w/16%4096) (w/65536%4294967296))).2 != 0||(Zy (Zz.mk (w/4%4) (w/16%4096) (w/65536%4294967296))).1 != w)with hc0|hc0<;>have hc0p:=hc0<;>simp only[bs]at hc0p;rw[show Z8 w=(Zz.mk (0:Int) (0:Int) (0:Int),L)from by grind[Z8,G0,Ec]];exact gF [] func148 [] (Q0 (Ft 30 hc0 Fz));obtain⟨hc0pa,hc0pb⟩:=hc0p;rw[show Z8 w=(Zz.mk (w/(4:Int)%(4:Int)) (w/(16:Int)%(4096:Int)) (w/(65536:Int)%(4294967296:Int)),Y)from by simp[Z8,G0,Ec, *]];exact gF [] func148 [] (Q0 (Ff 30 hc0 Fz))
def Z6i(h:Zz)(i:Int)(f:0<=h.map/\h.map<=4294967295)(b:ZU h=Y)(d:0<=i)(e:i<h.length) :(h.K==2||h.K==1&&bits BinOp.and Ly (h.map.fdiv (2^min i.toNat 32)) 1==1)=Ba h i:=by
 have c:=Gx.1 b;by_cases a:h.K=1;have hl:h.length<=32:=by simp[a]at c;omega
 have g:(0:Int)<=2^i.toNat:=Int.pow_nonneg dd;rw[LS oq,Int.fdiv_eq_ediv_of_nonneg _ g];have j:0<=h.map/2^i.toNat:=Lx f.1 g;have h3:h.map/2^i.toNat<=h.map:=Int.ediv_le_self _ f.1;have:=Zk5 1 dd (x:=h.map/2^i.toNat) (m:=1) dd j oq;rw[this];simp[Ba,b,d,e,a];have:(h.K==1)=L:=by simp[a]
 simp[Ba,b,d,e,this]
def Nh(h:Zz) i(n:0<=h.map/\h.map<=4294967295):GP 57 [h.av,nI i] Y (bL (Ba h i)) []:=by rcases bb (!ZU h||X (i<0)||X (h.length<=i))with hc0|hc0<;>have b:=hc0<;>simp only[bs]at b;exact gF [] func57 (fO 6)<|Fc 6 (@NH h aa)<|Ft 17 hc0<|Fa (by grind[Ba]:L=Ba h i) Fz;obtain⟨⟨a,e⟩,g⟩:=b;have j:=Gx.1 a;obtain⟨l,⟨k,⟨f,⟨c,d⟩⟩⟩⟩:=j;exact gF [] func57 (fO 18)<|Fc 6 (@NH h aa)<|Ff 17 hc0<|FvG 29 (!h.K==2&&h.K==1) i<|Fa (by intro m;(try simp only[bs]at m);omega:(!h.K==2&&h.K==1)=Y->0<=i)<|Fa (Z6i h i n aa oq oq:(h.K==2||h.K==1&&bits BinOp.and Ly (h.map.fdiv (2^min i.toNat 32)) (1:Int)==1)=Ba h i) Fz
def Ck{α:Type}(ws:List α)(i:Nat)(l:List α):List α:=ws.take i++l++ws.drop (i+l.length)
def Zt(ws:List Int)(a n:Int):Int×Bool:=if 4096<=a/\a<=4096+ws.length then(a-4096,X (n<=ws.length-(a-4096)))else(0,L)
def Cl(ws:List Int)(a:Int):Int×Int:=if 4096<=a/\a<4096+ws.length then(a-4096,0)else(0,2)
def Z1(ws:List Int)(a:Int):Int×Int:=if 4096<=a/\a<4096+ws.length then(ws.getD (a-4096).toNat 0,0)else(0,2)
def BS(ws:List Int)(a n:Int):List Int×Int:=if n<0 then([],1)else if 4096<=a/\a-4096+n<=ws.length then((ws.drop (a-4096).toNat).take n.toNat,0)else([],2)
def ZX(ws:List Int)(a:Int)(l:List Int):List Int×Int:=if 4096<=a/\a-4096+l.length<=ws.length then(Ck ws (a-4096).toNat l,0)else([],2)
def BR(ws:List Int)(a v:Int):List Int×Int:=ZX ws a [v]
def moveA(ws:List Int)(a b n:Int):List Int×Int:=if(BS ws b n).2≠0 then([],(BS ws b n).2)else ZX ws a (BS ws b n).1
def Z7a ws a n:(BS ws a n).1.length<=ws.length:=by unfold BS;split;simp;split;simp;omega;simp
def Zah{ws a n}(h:(Zt ws a n).2=Y):(Zt ws a n).1=a-4096/\4096<=a/\a<=4096+ws.length/\a-4096+n<=ws.length:=by unfold Zt at h⊢;split at h;rename_i b;rw[if_pos b];simp at h;simp;omega;simp at h
def Z8H{ws a n}(h:(Zt ws a n).2=L):¬ (4096<=a/\a<=4096+ws.length/\a-4096+n<=ws.length):=by unfold Zt at h;split at h;simp at h;omega;omega
def Z7O{ws a}(h:(Cl ws a).2=0):(Cl ws a).1=a-4096/\4096<=a/\a<4096+ws.length:=by unfold Cl at h⊢;split at h;rename_i b;rw[if_pos b];exact⟨rfl,b⟩;simp at h
def Z6r{ws a}(h:¬ (Cl ws a).2=0):¬ (4096<=a/\a<4096+ws.length)/\(Cl ws a).2=2:=by unfold Cl at h⊢;split at h;simp at h;rename_i b;rw[if_neg b];exact⟨b,rfl⟩
def D7(ws:List Int)(a n:Int)(hw:ws.length<=1048576)(h0:0<=a/\a<=18446744073709551615):GP 164 [Z2 ws,uU a,nI n] Y (.tu [nI (Zt ws a n).1,bL (Zt ws a n).2]) []:=by have e {h_ c_ p_} (f:Fq h_ c_ p_):=FlG 14 (!decide (a<4096)) wD ws<|FvG 15 (!decide (a<4096)) (↑ws.length)<|FvG 16 (!decide (a<4096)) (4096+(ws.length:Int)) f;rcases bb (X (a<4096)||X (4096+(ws.length:Int)<a))with hc0|hc0<;>have b:=hc0<;>simp only[bs]at b;rw[show Zt ws a n=((0:Int),L)from by(simp[Zt, *];omega)];exact gF [] func164 [] (e (Ft 18 hc0 Fz));obtain⟨c,d⟩:=b;rw[show Zt ws a n=(a-(4096:Int),X (n<=(ws.length:Int)-(a-(4096:Int))))from by simp[Zt, *]];exact gF [] func164 [] (e (Ff 18 hc0<|Fv 20 (a-4096)<|Fi 21 (a-4096)<|Fl 25 wD ws<|Fi 27 ((ws.length:Int)-(a-4096)) Fz))
def Z4H(ws:List Int)(a:Int)(hw:ws.length<=1048576)(h0:0<=a/\a<=18446744073709551615):GP 190 [Z2 ws,uU a] Y (.tu [nI (Cl ws a).1,nI (Cl ws a).2]) []:=by have c {h_ c_ p_} (d:Fq h_ c_ p_):=Fc 11 (@D7 ws a (1) aa aa) d;rcases bb (!(Zt ws a 1).2)with hc0|hc0<;>have b:=hc0<;>simp only[bs]at b;rw[show Cl ws a=((0:Int),(2:Int))from by grind[Zt,Cl]];exact gF [] func190 [] (c (Ft 15 hc0 Fz));rw[show Cl ws a=((Zt ws a (1:Int)).1,(0:Int))from by grind[Zt,Cl]];exact gF [] func190 [] (c (Ff 15 hc0 Fz))
def HW(ws:List Int)(a:Int)(hw:ws.length<=1048576)(h0:0<=a/\a<=18446744073709551615):GP 139 [Z2 ws,uU a] Y (.tu [uU (Z1 ws a).1,nI (Z1 ws a).2]) []:=by rcases bb ((Cl ws a).2 != 0)with hc0|hc0<;>have b:=hc0<;>simp only[bs]at b;have c:=Z6r b;obtain⟨g,h⟩:=c;rw[show Z1 ws a=((0:Int),(Cl ws a).2)from by simp[Z1, *]];exact gF [] func139 []<|Fc 11 (@Z4H ws a aa aa)<|Ft 15 hc0 Fz;have d:=Z7O b;obtain⟨i,⟨e,f⟩⟩:=d;rw[show Z1 ws a=(ws.getD (Cl ws a).1.toNat M,(0:Int))from by simp[Z1, *]];refine Zc [((11:Nat),[Hint.call Y (AV.tu [nI (Cl ws a).1,nI (Cl ws a).2]) []]),((15:Nat),[Hint.br L]),((19:Nat),[Hint.el (wD (ws.getD (Cl ws a).1.toNat M))])] [] [] dd func139 [] (φ:=GP 190 [Z2 ws,uU a] Y (AV.tu [nI (Cl ws a).1,nI (Cl ws a).2]) []/\((Cl ws a).2 != (0:Int))=L/\L=L/\(0:Int)<=(Cl ws a).1/\(Z wD ws)[(Cl ws a).1.toNat]?=La (wD (ws.getD (Cl ws a).1.toNat M))) ?_ kr kr;exact⟨(@Z4H (ws) (a) aa aa),aa,rfl,(by exact Zn oq oq oq)⟩
def Z2q(ws:List Int)(a n:Int)(hw:ws.length<=1048576)(h0:0<=a/\a<=18446744073709551615):GP 112 [Z2 ws,uU a,nI n] Y (.tu [Z2 (BS ws a n).1,nI (BS ws a n).2]) []:=by rcases bb (X (n<0))with hc0|hc0<;>have hc0p:=hc0<;>simp only[bs]at hc0p;exact gF [] func112 [Y]<|Ft 11 hc0<|Fnl (Fa (by simp[BS, *]:[]=Z wD (BS ws a n).1)<|Fa (by simp[BS, *]:1=(BS ws a n).2) Fz);have Q0 {h_ c_ p_} (r_:Fq h_ c_ p_):=Ff 11 hc0<|Fc 16 (@D7 ws a n aa aa) r_;rcases bb (!(Zt ws a n).2)with hc9|hc9<;>have hc9p:=hc9<;>simp only[bs]at hc9p;have hf12:=Z8H hc9p;exact gF [] func112 [Y] (Q0 (Ft 20 hc9<|Fnl (Fa (by(simp only[BS] ;exact sj):[]=Z wD (BS ws a n).1)<|Fa (by(simp only[BS] ;exact sj):2=(BS ws a n).2) Fz)));have hf14:=Zah hc9p;obtain⟨hf14a,⟨hf14ba,⟨hf14bba,hf14bbb⟩⟩⟩:=hf14;rw[show BS ws a n=(Lk (((Zt ws a n).1+n).toNat-(Zt ws a n).1.toNat) (Lg (Zt ws a n).1.toNat ws),(0:Int))from by(simp[BS, *];omega)];exact gF [] func112 []<|Fh 28 [.els (Z wD (Lk (((Zt ws a n).1+n).toNat-(Zt ws a n).1.toNat) (Lg (Zt ws a n).1.toNat ws)))] (Q0 (Ff 20 hc9<|Fs 21 (Z wD [])<|Fi 26 ((Zt ws a n).1+n)<|Fa (by(simp only[Lc];omega):0<=(Zt ws a n).1/\(Zt ws a n).1<=(Zt ws a n).1+n/\(Zt ws a n).1+n<=(↑(Z wD ws).length:Int))<|Fa (by simp[BS,LN,LM,Lp,LL,wD,iD]:Lk (((Zt ws a n).1+n).toNat-(Zt ws a n).1.toNat) (Lg (Zt ws a n).1.toNat (Z wD ws))=Z wD (Lk (((Zt ws a n).1+n).toNat-(Zt ws a n).1.toNat) (Lg (Zt ws a n).1.toNat ws)))<|Fa (by(simp[BS, *];omega):(Z wD []).length+(Z wD (Lk (((Zt ws a n).1+n).toNat-(Zt ws a n).1.toNat) (Lg (Zt ws a n).1.toNat ws))).length<=2^30)<|Fs 27 (Z wD (Lk (((Zt ws a n).1+n).toNat-(Zt ws a n).1.toNat) (Lg (Zt ws a n).1.toNat ws)))<|Fa (Hd _:Ce (Z wD (Lk (((Zt ws a n).1+n).toNat-(Zt ws a n).1.toNat) (Lg (Zt ws a n).1.toNat ws)))) Fz))
def wr{α:Type}(ws l:List α)(i k:Nat):List α:=ws.take i++l.take k++ws.drop (i+k)
def Dw{α:Type}(ws l:List α)(i:Nat):wr ws l i 0=ws:=by simp[wr]
def Pg{α:Type}(ws l:List α)(i:Nat):wr ws l i l.length=Ck ws i l:=by simp[wr,Ck]
theorem II{α:Type}{ws l:List α}{i k:Nat}(h:i+l.length<=ws.length)(hk:k<=l.length):(wr ws l i k).length=ws.length:=by simp[wr];omega
def NI{α:Type}{ws l:List α}{i:Nat}(h:i+l.length<=ws.length):(Ck ws i l).length=ws.length:=by
 rw[<-Pg];exact II h (LB _)
theorem AR{α:Type}{ws l:List α}{i k:Nat}(h:i+l.length<=ws.length)(hk:k<=l.length)(j:Nat):(wr ws l i k)[j]?=if j<i then ws[j]? else if j<i+k then l[j-i]? else ws[j]?:=by
 have e:(l.take k).length=k:=by simp;omega
 have:=Sw (l:=ws) (xs:=l.take k) (o:=i) oq j;rw[e]at this;rw[wr,this];split
 .rfl
 .split
  .rw[List.getElem?_take_of_lt oq]
  .rfl
def MU{α:Type}{ws l:List α}{i k:Nat}(h:i+l.length<=ws.length)(e:k<l.length)(d:α):(wr ws l i k).set (i+k) (l.getD k d)=wr ws l i (k+1):=by apply List.ext_getElem?;intro j;have f:=II h (LR e);rw[LJ,AR h oq,AR h oq,f];by_cases c:i+k=j;subst c;rw[if_pos rfl,if_pos oq,if_neg oq,if_pos oq];simp[Lr,e];rw[if_neg c];by_cases a:j<i;rw[if_pos a,if_pos a];rw[if_neg a,if_neg a];by_cases b:j<i+k;rw[if_pos b,if_pos oq];rw[if_neg b,if_neg oq]
def MS(ws l:List Int)(i:Int)(k:Nat):Tg:=⟨tm 41 [(2,Z2 l),(8,nI i),(10,.ow 32024),(11,nI k)],[(32024,.arr 35 1 ((wr ws l i.toNat k).map wD))],60⟩
def ZgG(ws l:List Int)(i:Int)(k:Nat)(hw:ws.length<=1048576)(hi:0<=i)(h:i.toNat+l.length<=ws.length)(a:k<l.length):CP (Zm f144 0) (MS ws l i k).st .nrm (MS ws l i (k+1)).st:=by
 have b:=MU h a M;have hn:=II h (LR a);have ei:i+k=((i.toNat+k:Nat):Int):=by omega
 exact sF [] (fO 4)<|Fh 10039 [.els (Z wD ((wr ws l i.toNat k).set (↑(i.toNat+k):Int).toNat (l.getD k M)))]<|FM 27 28 wD l k<|Fg 34 (by rw[Ef oq oq];omega:Lb.wrap (i+(k:Int))=(↑(i.toNat+k):Int))<|Fek 37 wD l (↑k) k<|Fa (by(simp only[Lc];omega):0<=(↑(i.toNat+k):Int)/\(↑(i.toNat+k):Int).toNat<(Z wD (wr ws l i.toNat k)).length)<|Fa (by(simp only[Lc];omega):(↑(i.toNat+k):Int).toNat<(Z wD (wr ws l i.toNat k)).length)<|Fa (ms:(Z wD (wr ws l i.toNat k)).set (↑(i.toNat+k):Int).toNat [ZZ (l.getD k M)]=Z wD ((wr ws l i.toNat k).set (↑(i.toNat+k):Int).toNat (l.getD k M)))<|Fx 30 k<|Fr (35:Int)<|Fa (by refine congrArg _ ?_;exact b:Z wD ((wr ws l i.toNat k).set (↑(i.toNat+k):Int).toNat (l.getD k M))=Z wD (wr ws l i.toNat (k+1))) Fz
def ZgN(ws l:List Int)(i:Int):CP (Zm f144 0) (MS ws l i l.length).st (.ext 0) (Tg.st ⟨tm 41 [(10,.ow 32024)],[(32024,.arr 35 1 ((Ck ws i.toNat l).map wD))],60⟩):=by
 have hs:=Pg ws l i.toNat
 exact sF [] [L,Y]<|FO 27 28 wD l<|Fr (35:Int)<|Fa (by refine congrArg _ ?_;assumption:Z wD (wr ws l i.toNat l.length)=Z wD (Ck ws i.toNat l)) Fz
def ZdG(ws l:List Int)(i:Int)(c:ws.length<=1048576)(a:0<=i)(h:i.toNat+l.length<=ws.length):CP (Zi f144 0) (Tg.st ⟨tm 41 [(2,Z2 l),(8,nI i),(10,.ow 32024),(11,nI 0)],[(32024,.arr 35 1 (ws.map wD))],60⟩) .nrm (Tg.st ⟨tm 41 [(10,.ow 32024)],[(32024,.arr 35 1 ((Ck ws i.toNat l).map wD))],60⟩):=by
 have:=Bp (S:=λk=>(MS ws l i k).st) l.length kr (λk b=>ZgG ws l i k c a h b) (ZgN ws l i);simp only[MS,Dw]at this;exact this
def TM(ws l:List Int)(a:Int)(hw:ws.length<=1048576)(h0:0<=a/\a<=18446744073709551615)(hl:l.length<=1048576):GP 144 [Z2 ws,uU a,Z2 l] Y (.tu [Z2 (ZX ws a l).1,nI (ZX ws a l).2]) []:=by have Q0 {h_ c_ p_} (r_:Fq h_ c_ p_):=Fl 16 wD l<|Fc 17 (@D7 ws a ((l.length:Int)) aa aa) r_;rcases bb (!(Zt ws a (l.length:Int)).2)with hc0|hc0<;>have hc0p:=hc0<;>simp only[bs]at hc0p;have hf3:=Z8H hc0p;exact gF [] func144 [Y] (Q0 (Ft 21 hc0<|Fnl (Fa (by(simp only[ZX] ;exact sj):[]=Z wD (ZX ws a l).1)<|Fa (by(simp only[ZX] ;exact sj):2=(ZX ws a l).2) Fz)));have hf5:=Zah hc0p;obtain⟨hf5a,⟨hf5ba,⟨hf5bba,hf5bbb⟩⟩⟩:=hf5;rw[show ZX ws a l=(Ck ws (Zt ws a (l.length:Int)).1.toNat l,(0:Int))from by simp[ZX, *]];exact gF [] func144 [] (Q0 (Ff 21 hc0<|FAx 22 24 wD ws (by(simp[ZX, *];omega))<|Fu (@ZdG ws l ((Zt ws a (l.length:Int)).1) aa oq oq)<|Fa (Hd _:Ce (Z wD (Ck ws (Zt ws a (l.length:Int)).1.toNat l))) Fz))
def Z4a(ws:List Int)(a v:Int)(hw:ws.length<=1048576)(h0:0<=a/\a<=18446744073709551615):GP 116 [Z2 ws,uU a,uU v] L (.tu [Z2 (BR ws a v).1,nI (BR ws a v).2]) []:=by exact gF [] func116 []<|Fs 11 (Z wD [v])<|Fc 12 (@TM ws ([v]) a aa aa (by simp[BR, *])) Fz
def ZkG(ws:List Int)(a b n:Int)(hw:ws.length<=1048576)(h0:0<=a/\a<=18446744073709551615)(h1:0<=b/\b<=18446744073709551615):GP 187 [Z2 ws,uU a,uU b,nI n] L (.tu [Z2 (moveA ws a b n).1,nI (moveA ws a b n).2]) []:=by have hr:=Z7a ws b n;have d {h_ c_ p_} (e:Fq h_ c_ p_):=Fc 16 (@Z2q ws b n aa aa) e;rcases bb ((BS ws b n).2 != 0)with hc0|hc0<;>have c:=hc0<;>simp only[bs]at c;exact gF [] func187 [Y] (d (Ft 20 hc0<|Fnl (Fa (by simp[moveA, *]:[]=Z wD (moveA ws a b n).1)<|Fa (by simp[moveA, *]:(BS ws b n).2=(moveA ws a b n).2) Fz)));rw[show moveA ws a b n=ZX ws a (BS ws b n).1 from by simp[moveA, *]];exact gF [] func187 [] (d (Ff 20 hc0<|Fc 25 (@TM ws ((BS ws b n).1) a aa aa oq) Fz))
def NY n:GP 118 [nI n] Y (bL (X (0<=n)&&X (n<=2147483647))) []:=by exact gF [] func118 [] Fz
def EN(sp:Int):List Z0->Nat|[]=>0|p::r=>if p.K=3/\p.S=sp then EN sp r+1 else 0
def O5 sp:∀l,EN sp l<=l.length
 |[]=>LB _
 |p::r=>by
  have:=O5 sp r;simp only[EN,List.length_cons];split<;>omega
def drop_at{l:List Z0}{k:Nat}(h:k<l.length):l.drop k=l.getD k M::l.drop (k+1):=by rw[List.drop_eq_getElem_cons h];simp[Lr,h]
def OX(l:List Z0)(sp:Int)(n k:Nat):Tg:=⟨tm 37 [(0,B5 l),(2,nI sp),(7,nI n),(8,nI k)],[],60⟩
def ZiN(l:List Z0)(hl:l.length<=1048576)(sp:Int)(n k:Nat)(hn:n<=k)(hk:k<l.length)(h:(l.getD k M).K=3/\(l.getD k M).S=sp):CP (Zm f119 0) (OX l sp n k).st .nrm (OX l sp (n+1) (k+1)).st:=by let a:=(k:Int)<(l.length:Int);exact sF [] []<|Fl 13 Z0.dv l<|FeG 18 (decide a) Z0.dv l (↑k) k<|FeG 26 (decide a&&(l.getD k M).K==3) Z0.dv l (↑k) k<|Ftb 31 (decide a&&(l.getD k M).K==3&&(l.getD k M).S==sp)<|Fx 35 n<|Fx 33 k Fz
def Zar(l:List Z0)(hl:l.length<=1048576)(sp:Int)(n k:Nat)(h:k<l.length->¬ ((l.getD k M).K=3/\(l.getD k M).S=sp)):CP (Zm f119 0) (OX l sp n k).st (.ext 0) (Tg.st ⟨tm 37 [(7,nI n)],[],60⟩):=by let a:=(k:Int)<(l.length:Int);exact sF [] []<|Fl 13 Z0.dv l<|FeG 18 (decide a) Z0.dv l (↑k) k<|FeG 26 (decide a&&(l.getD k M).K==3) Z0.dv l (↑k) k<|Ffb 31 (decide a&&(l.getD k M).K==3&&(l.getD k M).S==sp) Fz
def Zee(l:List Z0)(hl:l.length<=1048576) sp:∀(m n k:Nat),l.length-k=m->n<=k->Gm prog f119 0 (OX l sp n k).st (.ext 0) (Tg.st ⟨tm 37 [(7,nI ((n+EN sp (l.drop k):Nat):Int))],[],60⟩):=by
 intro m;induction m with
 |zero =>intro n k b a;have e:l.drop k=[]:=List.drop_eq_nil_of_le oq;rw[e];exact .endx (Zar l hl sp n k (λh=>by omega))
 |succ m c =>
  intro n k b a;rw[drop_at oq,EN];by_cases h:(l.getD k M).K=3/\(l.getD k M).S=sp
  .rw[if_pos h];have:=c (n+1) (k+1) oq oq;rw[show n+1+EN sp (l.drop (k+1))=n+(EN sp (l.drop (k+1))+1)from by omega]at this;exact .next (ZiN l hl sp n k a oq h) this
  rw[if_neg h];exact .endx (Zar l hl sp n k (λ_=>h))
def Zb3(l:List Z0)(sp:Int)(k:Nat)(hl:l.length<=1048576):CP (Zi f119 0) (Tg.st ⟨tm 37 [(0,B5 l),(2,nI sp),(7,nI 0),(8,nI k)],[],60⟩) .nrm (Tg.st ⟨tm 37 [(7,nI (EN sp (l.drop k)))],[],60⟩):=by
 have:=(Zee l hl sp _ 0 k rfl oq).ext kr;rw[Nat.zero_add]at this;exact this
def Z7s(l:List Z0)(i:Nat) sp(hl:l.length<=1048576)(hi:i<l.length):GP 119 [B5 l,nI i,nI sp] Y (nI (EN sp (l.drop (i+1)))) []:=by exact gF [] func119 []<|Fx 10 i<|Fu (@Zb3 l sp (i+1) aa) Fz
def Gp(c:B7)(l:List Z0)(i:Nat)(a:Int):Prop:=
 ((l.getD i M).K=3↔0<a)/\0<=(l.getD i M).S/\(l.getD i M).S<=1/\0<=(l.getD i M).N/\(l.getD i M).N<=2147483647 /\
 0<=(l.getD i M).K/\(l.getD i M).K<=3 /\
 ((l.getD i M).K=0->(l.getD i M).S=0/\(l.getD i M).U=0/\(l.getD i M).N=0) /\
 ((l.getD i M).K=1->0<=(l.getD i M).U/\(l.getD i M).U<=c.pw) /\
 ((l.getD i M).K=2->1<=need c (l.getD i M).U/\need c (l.getD i M).U-1<=EN (l.getD i M).S (l.drop (i+1))) /\
 ((l.getD i M).K=3->(l.getD i M).U=0/\(l.getD i M).N=0)
def EG(c:B7)(l:List Z0)(i:Nat)(a:Int):Int:=if(l.getD i M).K=2 then need c (l.getD i M).U-1 else max 0 (a-1)
def Dt(h:Heap)(i:Nat)(a:Int):Tg:=⟨tm 157 [(1,.pt 8001 0 0),(2,bL L),(3,nI a),(4,nI i)],[(8001,.box 28 h.cells)],60⟩
def MB c(n:Int):-1<=need c n/\need c n<=5:=by unfold need;split;rename_i h;have:=BI.1 h.1;split;omega;have h1:0<=(n+c.pw-1)/c.pw:=Lx oq oq;have h2:(n+c.pw-1)/c.pw<6:=LC oq oq;omega;omega
def Z7g(h:Heap)(i:Nat)(a:Int)(hl:h.P.length<=1048576)(hi:i<h.P.length)(hd:0<=a/\a<=5)(k:Gp h.C h.P i a):CP (Zm f65 0) (Dt h i a).st .nrm (Dt h (i+1) (EG h.C h.P i a)).st:=by have hn:=MB h.C (h.P.getD i M).U;have l:=O5 (h.P.getD i M).S (h.P.drop (i+1));rw[Ls]at l;unfold Gp at k;let b:=h.P.getD i M;have f {h_ c_ p_} (m:Fq h_ c_ p_):=FN 72 73 79 Z0.dv h.P i<|FcG 100 (!(!(b.K==3)==X (0<a)||X (b.S<0)||X (1<b.S))) (λj=>by(try simp only[bs]at j);exact@NY (b.N))<|Ffb 102 (!(b.K==3)==X (0<a)||X (b.S<0)||X (1<b.S)||!(X (0<=b.N)&&X (b.N<=2147483647))) m;rcases bb ((h.P.getD i M).K==0)with hc0|hc0<;>have c:=hc0<;>simp only[bs]at c;exact sF [] (fO 12)<|Fh 105 [.br Y] (f (Fa hc0<|Ffb 109 (!(b.K==0&&(b.S==0&&(b.U==0&&b.N==0))))<|Fi 155 (a-1)<|Fgo 156 (if a-1 > 0 then a-1 else 0) (max 0 (a-1))<|Fx 75 i<|Fa (by grind[EG]:max 0 (a-1)=EG h.C h.P i a) Fz));rcases bb ((h.P.getD i M).K==1)with hc1|hc1<;>have d:=hc1<;>simp only[bs]at d;exact sF [] (fO 18)<|Fh 110 [.br Y]<|Fh 122 [.br L] (f (Fa hc0<|Fa hc1<|Ffb 105 (X (b.U<0)||X (h.C.pw<b.U))<|Fi 155 (a-1)<|Fgo 156 (if a-1 > 0 then a-1 else 0) (max 0 (a-1))<|Fx 75 i<|Fa (by grind[EG]:max 0 (a-1)=EG h.C h.P i a) Fz));rcases bb ((h.P.getD i M).K==2)with hc2|hc2<;>have e:=hc2<;>simp only[bs]at e;let g:=need h.C b.U-1;exact sF [] (fO 21)<|Fh 110 [.br L]<|Fh 123 [.br Y]<|Fh 142 [.br L] (f (Fa hc0<|Fa hc1<|Fa hc2<|Fc 129 (@RI h.C (b.U))<|FcG 138 (!decide (need h.C b.U<1)) (λj=>by(try simp only[bs]at j);exact@Z7s h.P i (b.S) aa aa)<|FiG 140 (!decide (need h.C b.U<1)) g<|Ffb 105 (X (need h.C b.U<1)||X ((↑(EN b.S (Lg (i+1) h.P)):Int)<need h.C b.U-1))<|Fi 155 g<|Fgo 156 (if need h.C b.U-1 > 0 then need h.C b.U-1 else 0) (max 0 g)<|Fx 75 i<|Fa (by grind[EG]:max 0 g=EG h.C h.P i a) Fz));exact sF [] (fO 15)<|Fh 110 [.br L]<|Fh 123 [.br L]<|Fh 144 [.br Y]<|Fh 153 [.br L] (f (Fa hc0<|Fa hc1<|Fa hc2<|Fb ((b.K==3)=Y)<|Ffb 105 (b.U != 0||b.N != 0)<|Fi 155 (a-1)<|Fgo 156 (if a-1 > 0 then a-1 else 0) (max 0 (a-1))<|Fx 75 i<|Fa (by grind[EG]:max 0 (a-1)=EG h.C h.P i a) Fz))
def Zhc(h:Heap)(i:Nat)(b:Int)(hl:h.P.length<=1048576)(hi:i<h.P.length)(hd:0<=b/\b<=5)(q:¬ Gp h.C h.P i b):CP (Zm f65 0) (Dt h i b).st .ret (Tg.st ⟨tm 157 [(2,bL L)],[],60⟩):=by have hn:=MB h.C (h.P.getD i M).U;have r:=O5 (h.P.getD i M).S (h.P.drop (i+1));rw[Ls]at r;unfold Gp at q;let a:=h.P.getD i M;have d {h_ c_ p_} (s:Fq h_ c_ p_):=FN 72 73 79 Z0.dv h.P i<|FcG 100 (!(!(a.K==3)==X (0<b)||X (a.S<0)||X (1<a.S))) (λp=>by(try simp only[bs]at p);exact@NY (a.N)) s;rcases bb (!((h.P.getD i M).K==3)==X (0<b)||X ((h.P.getD i M).S<0)||X (1<(h.P.getD i M).S)||!(X (0<=(h.P.getD i M).N)&&X ((h.P.getD i M).N<=2147483647)))with hc0|hc0<;>have c:=hc0<;>simp only[bs]at c;exact sF [] [] (d (Ft 102 hc0 Fz));obtain⟨⟨⟨e,f⟩,m⟩,⟨n,o⟩⟩:=c;rcases bb ((h.P.getD i M).K==0)with hc1|hc1<;>have g:=hc1<;>simp only[bs]at g;exact sF [] []<|Fh 109 [.br Y] (d (Ff 102 hc0<|Fa hc1<|Ftb 105 (!(a.K==0&&(a.S==0&&(a.U==0&&a.N==0)))) Fz));rcases bb ((h.P.getD i M).K==1)with hc2|hc2<;>have j:=hc2<;>simp only[bs]at j;exact sF [] []<|Fh 105 [.br L]<|Fh 122 [.br Y] (d (Ff 102 hc0<|Fa hc1<|Fa hc2<|Ftb 110 (X ((h.P.getD i M).U<0)||X (h.C.pw<(h.P.getD i M).U)) Fz));rcases bb ((h.P.getD i M).K==2)with hc3|hc3<;>have k:=hc3<;>simp only[bs]at k;exact sF [] []<|Fh 105 [.br L]<|Fh 110 [.br L]<|Fh 142 [.br Y] (d (Ff 102 hc0<|Fa hc1<|Fa hc2<|Fa hc3<|Fc 129 (@RI h.C (a.U))<|FcG 138 (!decide (need h.C a.U<1)) (λp=>by(try simp only[bs]at p);exact@Z7s h.P i (a.S) aa aa)<|FiG 140 (!decide (need h.C a.U<1)) (need h.C a.U-1)<|Ftb 123 (X (need h.C a.U<1)||X ((↑(EN a.S (Lg (i+1) h.P)):Int)<need h.C a.U-1)) Fz));rcases bb ((h.P.getD i M).K==3)with hc4|hc4<;>have l:=hc4<;>simp only[bs]at l;exact sF [] []<|Fh 105 [.br L]<|Fh 110 [.br L]<|Fh 123 [.br L]<|Fh 153 [.br Y] (d (Ff 102 hc0<|Fa hc1<|Fa hc2<|Fa hc3<|Fa hc4<|Ftb 144 (a.U != 0||a.N != 0) Fz));exact sF [] []<|Fh 105 [.br L]<|Fh 110 [.br L]<|Fh 123 [.br L]<|Fh 144 [.br L] (d (Ff 102 hc0<|Fa hc1<|Fa hc2<|Fa hc3<|Fa hc4 Fz))
def Z5R(h:Heap) a:CP (Zm f65 0) (Dt h h.P.length a).st (.ext 0) (Tg.st ⟨tm 157 [],[],60⟩):=by exact sF [] []<|FO 72 73 Z0.dv h.P Fz
instance (c:B7) (l:List Z0) (i:Nat) (due:Int):Decidable (Gp c l i due):=by unfold Gp;infer_instance
def Gr(c:B7)(l:List Z0):Nat->Nat->Int->Bool|0,_,_=>Y|f+1,i,due=>if i<l.length then X (Gp c l i due)&&Gr c l f (i+1) (EG c l i due)else Y
def Zil{c}{l:List Z0}{f i:Nat}{a:Int}(h:l.length<=i):Gr c l f i a=Y:=by
 cases f with|zero=>rfl|succ f=>rw[Gr,if_neg oq]
def Z20{c}{l:List Z0}{f i:Nat}{a:Int}(h:i<l.length)(hf:l.length<=i+f):Gr c l f i a=(X (Gp c l i a)&&Gr c l (f-1) (i+1) (EG c l i a)):=by
 cases f with|zero=>omega|succ f=>rw[Gr,if_pos h];rfl
def Z23{c}{l:List Z0}{f i:Nat}(h:i<l.length)(hf:l.length<=i+f):H1 c l f i=(if Ch c l i=0 then L else H1 c l (f-1) (i+Ch c l i)):=by
 cases f with|zero=>omega|succ f=>rw[H1,if_pos h];rfl
def Zlu{c}{l:List Z0}:∀{m f g i:Nat},l.length-i<=m->l.length<=i+f->l.length<=i+g->H1 c l f i=H1 c l g i:=by
 intro m;induction m with
 |zero =>
  intro f g i k b d;have e:∀f,H1 c l f i=Y:=by
   intro f;cases f with|zero=>rw[H1,decide_eq_true oq]|succ f=>rw[H1,if_neg oq]
  rw[e,e]
 |succ m j =>intro f g i k b d;by_cases h:i<l.length;rw[Z23 h b,Z23 h d];by_cases a:Ch c l i=0;rw[if_pos a,if_pos a];rw[if_neg a,if_neg a];exact j oq oq oq;exact j oq b d
def getD_at{l:List Z0}{i:Nat}(h:i<l.length):l[i]?=La (l.getD i M):=by simp[Lr,h]
def ZfB{c}{l:List Z0}{sp:Int}(n:sp=0\/sp=1)(q:Z0)(hq:q.S=sp):∀(d f i:Nat),d<=EN sp (l.drop i)->i+d<=l.length->l.length<=i+f ->
  Gr c l f i d=(Rc q ((l.drop i).take d)&&Gr c l (f-d) (i+d) 0):=by
 intro d;induction d with
 |zero=>intro f i _ _ _;simp[Rc]
 |succ d o =>
  intro f i h h2 m;have j:i<l.length:=by omega
  rw[drop_at j,EN]at h;by_cases g:(l.getD i M).K=3/\(l.getD i M).S=sp;rw[if_pos g]at h;have k:EG c l i ((d+1:Nat):Int)=(d:Int):=by(unfold EG;rw[if_neg oq];omega)
  rw[Z20 j m,k,o (f-1) (i+1) oq oq oq,drop_at j,LQ,show f-1-d=f-(d+1)from by omega,show i+1+d=i+(d+1)from by omega];have e:X (Gp c l i ((d+1:Nat):Int))=HV (l.getD i M) q:=by(rw[Lv];simp only[decide_eq_true_eq,HV];unfold Gp;generalize l.getD i M=p at g;obtain⟨a,b,u,v⟩:=p;simp only[Z0.mk.injEq]at g⊢;omega)
  rw[e];simp[Rc,Bool.and_assoc];rw[if_neg g]at h;omega
def Z9t{sp:Int}{q:Z0}(b:q.S=sp):∀{l:List Z0} {d:Nat},Rc q (l.take d)=Y->d<=l.length->d<=EN sp l
 |_,0,_,_=>Nat.zero_le _
 |[],d+1,_,h=>by simp at h
 |p::l,d+1,h,hl=>by
  simp only[Rc,LQ,LF,Le]at h;have a:=h.1;simp only[HV,decide_eq_true_eq]at a;have:=Z9t (sp:=sp) b (l:=l) (d:=d) h.2 (by simpa using hl);rw[EN,if_pos (by rw[a];exact⟨rfl,b⟩)];omega
def Zj0{c}{l:List Z0}:∀{m f i:Nat},l.length-i<=m->l.length<=i+f->Gr c l f i 0=H1 c l f i:=by
 intro m;induction m with
 |zero =>
  intro f i hm y;rw[Zil oq];cases f with|zero=>rw[H1,decide_eq_true oq]|succ f=>rw[H1,if_neg oq]
 |succ m ih =>
  intro f i hm y;by_cases z:i<l.length;rotate_left;exact ih oq y;have w:=getD_at z;rw[Z20 z y,Z23 z y];generalize d:l.getD i M=p at w;have j:∀(b:Bool),EG c l i 0=0->X (Gp c l i 0)=b->Ch c l i=(if b=Y then 1 else 0)->(X (Gp c l i 0)&&Gr c l (f-1) (i+1) (EG c l i 0))=(if Ch c l i=0 then L else H1 c l (f-1) (i+Ch c l i)):=by(intro b h1 h2 h3;rw[h1,h2,h3,ih oq oq];cases b<;>simp)
  by_cases g:p.K=2;rotate_left;have o:EG c l i 0=0:=by unfold EG;rw[d,if_neg g];omega
  by_cases k:p.K=0;refine j (HH p) o ?_ (by rw[Ch,w];simp only[k,if_true]);rw[Lv];simp only[decide_eq_true_eq,HH];unfold Gp;rw[d];obtain⟨a,b,u,v⟩:=p;simp only[Z0.mk.injEq]at k g⊢;omega;by_cases s:p.K=1;refine j (Nx p c) o ?_ (by rw[Ch,w];simp[s]);rw[Lv];simp only[decide_eq_true_eq,Nx,Hs,NG,Le,Lq,beq_iff_eq];unfold Gp;rw[d];omega;refine j L o ?_ (by rw[Ch,w];simp[k,s,g]);simp only[decide_eq_false_iff_not];unfold Gp;rw[d];omega;have o:EG c l i 0=need c p.U-1:=by unfold EG;rw[d,if_pos g]
  have n:Gp c l i 0↔GW p c=Y/\need c p.U-1<=EN p.S (l.drop (i+1)):=by(simp only[GW,Hs,NG,Le,Lq,beq_iff_eq,decide_eq_true_eq];unfold Gp;rw[d];omega)
  have x:Ch c l i=(if GW p c=Y then(if(need c p.U).toNat<=l.length-i/\Rc p ((l.drop (i+1)).take ((need c p.U).toNat-1))=Y then(need c p.U).toNat else 0)else 0):=by(rw[Ch,w];simp[g])
  by_cases t:GW p c=Y;have hn:1<=need c p.U/\(p.S=0\/p.S=1):=by(simp only[GW,Hs,NG,Le,Lq,beq_iff_eq,decide_eq_true_eq]at t;omega)
  have a1:=O5 p.S (l.drop (i+1));rw[Ls]at a1;rw[x,if_pos t,o];by_cases ht:need c p.U-1<=EN p.S (l.drop (i+1));rw[decide_eq_true (n.2 ⟨t,ht⟩),Lw];have e:need c p.U-1=(((need c p.U).toNat-1:Nat):Int):=by omega
  rw[e,ZfB hn.2 p rfl _ _ _ oq oq oq];have r:(need c p.U).toNat<=l.length-i:=by omega
  cases htb:Rc p ((l.drop (i+1)).take ((need c p.U).toNat-1))with|false=>simp|true =>simp only[r,and_self,if_true];rw[if_neg oq,Lw,ih oq oq,show i+1+((need c p.U).toNat-1)=i+(need c p.U).toNat from by omega];exact Zlu (m:=l.length) oq oq oq
  rw[decide_eq_false (λh=>ht (n.1 h).2),Bool.false_and];have a0:¬ ((need c p.U).toNat<=l.length-i/\Rc p ((l.drop (i+1)).take ((need c p.U).toNat-1))=Y):=by(intro h;have:=Z9t (sp:=p.S) (q:=p) rfl h.2 (by rw[Ls];omega);omega)
  rw[if_neg a0];simp;rw[x,if_neg t,decide_eq_false (λh=>t (n.1 h).1)];simp
def Zau{c l i}{a:Int}(hd:0<=a/\a<=5)(b:Gp c l i a):0<=EG c l i a/\EG c l i a<=5:=by have:=MB c (l.getD i M).U;unfold Gp at b;unfold EG;split<;>omega
def Zdt(h:Heap)(hl:h.P.length<=1048576):∀(f i:Nat) (a:Int),i<=h.P.length->h.P.length<=i+f->0<=a/\a<=5->Gr h.C h.P f i a=Y->Gm prog f65 0 (Dt h i a).st (.ext 0) (Tg.st ⟨tm 157 [],[],60⟩):=by
 intro f;induction f with
 |zero =>
  intro i a j g c b;have:i=h.P.length:=by omega
  subst this;exact .endx (Z5R h a)
 |succ f k =>
  intro i a j g c b;by_cases e:i<h.P.length
  .rw[Gr,if_pos e,Le]at b;have d:=of_decide_eq_true b.1;exact .next (Z7g h i a hl e c d) (k (i+1) _ oq oq (Zau c d) b.2)
  have:i=h.P.length:=by omega
  subst this;exact .endx (Z5R h a)
def Zej(h:Heap)(hl:h.P.length<=1048576):∀(f i:Nat) (a:Int),0<=a/\a<=5->Gr h.C h.P f i a=L->Gm prog f65 0 (Dt h i a).st .ret (Tg.st ⟨tm 157 [(2,bL L)],[],60⟩):=by
 intro f;induction f with
 |zero=>intro i a d b;cases b
 |succ f g =>
  intro i a d b;by_cases e:i<h.P.length;rw[Gr,if_pos e]at b;by_cases c:Gp h.C h.P i a
  .rw[decide_eq_true c,Lw]at b;exact .next (Z7g h i a hl e d c) (g (i+1) _ (Zau d c) b)
  exact .endr (Zhc h i a hl e d c);rw[Gr,if_neg e]at b;cases b
def Zl0(h:Heap)(hl:h.P.length<=1048576)(a:Gr h.C h.P h.P.length 0 0=Y):CP (Zi f65 0) (Tg.st ⟨tm 157 [(1,.pt 8001 0 0),(2,bL L),(3,nI 0),(4,nI 0)],[(8001,.box 28 h.cells)],60⟩) .nrm (Tg.st ⟨tm 157 [],[],60⟩):=
 (Zdt h hl _ 0 0 oq oq oq a).ext kr
def Zk3(h:Heap)(hl:h.P.length<=1048576)(a:Gr h.C h.P h.P.length 0 0=L):CP (Zi f65 0) (Tg.st ⟨tm 157 [(1,.pt 8001 0 0),(2,bL L),(3,nI 0),(4,nI 0)],[(8001,.box 28 h.cells)],60⟩) .ret (Tg.st ⟨tm 157 [(2,bL L)],[],60⟩):=
 (Zej h hl _ 0 0 oq a).ret kr
theorem Te l(i:Int):E7 l i=l.getD i.toNat M:=by rw[E7,Lo];rfl
def Iw{h:Heap}:Z9 h=Y↔Zv h.C=Y/\(h.W.length:Int)=h.C.pw*h.C.pg/\(h.P.length:Int)=h.C.pg/\(h.S=0\/h.S=1) /\ (h.B=-1\/(0<=h.B/\h.B<h.P.length/\(h.P.getD h.B.toNat M).K=1))/\Gr h.C h.P h.P.length 0 0=Y:=by rw[Zj0 (m:=h.P.length) oq oq];simp only[Z9,Le,Z0s,MY,Lq,beq_iff_eq,decide_eq_true_eq,Te];constructor;rintro⟨⟨a,b,c,d⟩,f,e⟩;exact⟨a,b,c,d,by omega,e⟩;rintro⟨a,b,c,d,f,e⟩;exact⟨⟨a,b,c,d⟩,by omega,e⟩
def CG(h:Heap):GP 65 [h.av] Y (bL (Z9 h)) []:=by
  by_cases m:Zv h.C=Y
  . have y:=Ij m;rw[Ln]at y;have z:=BI.1 m;have ei:h.C.pg*h.C.pw=h.C.pw*h.C.pg:=Ln _ _;cases x:Gr h.C h.P h.P.length 0 0 with
    | true => rcases Lu (!Zv h.C||(h.W.length:Int) != h.C.pw*h.C.pg||(h.P.length:Int) != h.C.pg||X (h.S<(0:Int))||X ((1:Int)<h.S))with hc0 | hc0
              . have a:=hc0;simp only[bs]at a;exact gF [] func65 (fO 24)<|Fh 21 [.int (h.C.pw*h.C.pg)]<|Fc 9 (@GJ h.C)<|FlG 14 (!!Zv h.C) wD h.W<|Fa (by intro l;(try simp only[bs]at l);rw[Ef oq oq];omega:(!!Zv h.C)=Y->Lb.wrap (h.C.pg*h.C.pw)=h.C.pw*h.C.pg)<|FlG 27 (!(!Zv h.C||(h.W.length:Int) != h.C.pw*h.C.pg)) Z0.dv h.P<|Ft 42 ‹(!Zv h.C||(h.W.length:Int) != h.C.pw*h.C.pg||(h.P.length:Int) != h.C.pg||X (h.S<0)||X (1<h.S))=Y›<|Fa (by exact(Ll.2 (λf=>by obtain⟨n,o,p,r,s,t⟩:=Iw.1 f;simp[m]at a;omega)).symm:L=Z9 h) Fz
              . have a:=hc0;simp only[bs]at a;obtain⟨⟨⟨⟨c,d⟩,e⟩,g⟩,i⟩:=a;have v {h_ c_ p_} (u:Fq h_ c_ p_):=Fc 9 (@GJ h.C)<|FlG 14 (!!Zv h.C) wD h.W<|Fa (by intro l;(try simp only[bs]at l);rw[Ef oq oq];omega:(!!Zv h.C)=Y->Lb.wrap (h.C.pg*h.C.pw)=h.C.pw*h.C.pg)<|FlG 27 (!(!Zv h.C||(h.W.length:Int) != h.C.pw*h.C.pg)) Z0.dv h.P<|Ff 42 ‹(!Zv h.C||(h.W.length:Int) != h.C.pw*h.C.pg||(h.P.length:Int) != h.C.pg||X (h.S<0)||X (1<h.S))=L›<|FlG 55 (h.B != (-1:Int)&&!decide (h.B<0)) Z0.dv h.P<|FeGq 63 (h.B != (-1:Int)&&!(X (h.B<0)||X ((h.P.length:Int)<=h.B))) Z0.dv h.P h.B u;rcases bb (h.B != (-1:Int)&&(X (h.B<0)||X ((h.P.length:Int)<=h.B)||(h.P.getD h.B.toNat M).K != 1))with hc1|hc1<;>have b:=hc1<;>simp only[bs]at b
                . obtain⟨j,k⟩:=b;exact gF [] func65 (fO 45)<|Fh 21 [.int (h.C.pw*h.C.pg)] (v (Ft 68 hc1<|Fa (by exact(Ll.2 (λf=>by obtain⟨n,o,p,r,s,t⟩:=Iw.1 f;omega)).symm:L=Z9 h) Fz))
                . exact gF [] func65 (fO 50)<|Fh 21 [.int (h.C.pw*h.C.pg)] (v (Ff 68 hc1<|Fu (@Zl0 h oq aa)<|Fa (by exact(Iw.2 ⟨m,by omega,by omega,by omega,by omega,x⟩).symm:Y=Z9 h) Fz))
    | false => rcases Lu (!Zv h.C||(h.W.length:Int) != h.C.pw*h.C.pg||(h.P.length:Int) != h.C.pg||X (h.S<(0:Int))||X ((1:Int)<h.S))with hc0 | hc0
               . have a:=hc0;simp only[bs]at a;exact gF [] func65 (fO 24)<|Fh 21 [.int (h.C.pw*h.C.pg)]<|Fc 9 (@GJ h.C)<|FlG 14 (!!Zv h.C) wD h.W<|Fa (by intro l;(try simp only[bs]at l);rw[Ef oq oq];omega:(!!Zv h.C)=Y->Lb.wrap (h.C.pg*h.C.pw)=h.C.pw*h.C.pg)<|FlG 27 (!(!Zv h.C||(h.W.length:Int) != h.C.pw*h.C.pg)) Z0.dv h.P<|Ft 42 ‹(!Zv h.C||(h.W.length:Int) != h.C.pw*h.C.pg||(h.P.length:Int) != h.C.pg||X (h.S<0)||X (1<h.S))=Y›<|Fa (by exact(Ll.2 (λf=>by obtain⟨n,o,p,r,s,t⟩:=Iw.1 f;simp[m]at a;omega)).symm:L=Z9 h) Fz
               . have a:=hc0;simp only[bs]at a;obtain⟨⟨⟨⟨c,d⟩,e⟩,g⟩,i⟩:=a;have w {h_ c_ p_} (u:Fq h_ c_ p_):=Fc 9 (@GJ h.C)<|FlG 14 (!!Zv h.C) wD h.W<|Fa (by intro l;(try simp only[bs]at l);rw[Ef oq oq];omega:(!!Zv h.C)=Y->Lb.wrap (h.C.pg*h.C.pw)=h.C.pw*h.C.pg)<|FlG 27 (!(!Zv h.C||(h.W.length:Int) != h.C.pw*h.C.pg)) Z0.dv h.P<|Ff 42 ‹(!Zv h.C||(h.W.length:Int) != h.C.pw*h.C.pg||(h.P.length:Int) != h.C.pg||X (h.S<0)||X (1<h.S))=L›<|FlG 55 (h.B != (-1:Int)&&!decide (h.B<0)) Z0.dv h.P<|FeGq 63 (h.B != (-1:Int)&&!(X (h.B<0)||X ((h.P.length:Int)<=h.B))) Z0.dv h.P h.B u;rcases bb (h.B != (-1:Int)&&(X (h.B<0)||X ((h.P.length:Int)<=h.B)||(h.P.getD h.B.toNat M).K != 1))with hc1|hc1<;>have b:=hc1<;>simp only[bs]at b
                 . obtain⟨j,k⟩:=b;exact gF [] func65 (fO 45)<|Fh 21 [.int (h.C.pw*h.C.pg)] (w (Ft 68 hc1<|Fa (by exact(Ll.2 (λf=>by obtain⟨n,o,p,r,s,t⟩:=Iw.1 f;omega)).symm:L=Z9 h) Fz))
                 . exact gF [] func65 (fO 50)<|Fh 21 [.int (h.C.pw*h.C.pg)] (w (Ff 68 hc1<|Fu (@Zk3 h oq aa)<|Fa (by exact(Ll.2 (λf=>by have q:=(Iw.1 f).2.2.2.2.2;rw[x]at q;cases q)).symm:L=Z9 h) Fz))
  . have hf:Zv h.C=L:=by simpa using m
    exact gF [] func65 (fO 24)<|Fc 9 (@GJ h.C)<|FlG 14 (!!Zv h.C) wD h.W<|FlG 27 (!(!Zv h.C||(h.W.length:Int) != Lb.wrap (h.C.pg*h.C.pw))) Z0.dv h.P<|Ft 42 (by simp[*]:(!Zv h.C||(h.W.length:Int) != Lb.wrap (h.C.pg*h.C.pw)||(h.P.length:Int) != h.C.pg||X (h.S<0)||X (1<h.S))=Y)<|Fa (by exact(Ll.2 (λf=>m (Iw.1 f).1)).symm:L=Z9 h) Fz
def Zx(ws:List Int):Prop:=∀w∈ws,0<=w/\w<=18446744073709551615
def Z3L{ws}(h:Zx ws)(i:Nat):0<=ws.getD i 0/\ws.getD i 0<=18446744073709551615:=by
 rw[Lo];cases e:ws[i]? with|none=>simp|some x=>exact h x (Lj e)
def EP{ws}(h:Zx ws) a:0<=(Z1 ws a).1/\(Z1 ws a).1<=18446744073709551615:=by unfold Z1;split;exact Z3L h _;simp
def Nk(w:Int)(h:0<=w):0<=(Z8 w).1.map/\(Z8 w).1.map<=4294967295:=by unfold Z8;split;exact Z1k w h;simp[Ec]
def B6{h:Heap}(c:Z9 h=Y):Zv h.C=Y/\16<=h.C.pw/\h.C.pw<=64/\8<=h.C.pg/\h.C.pg<=64/\(h.W.length:Int)=h.C.pw*h.C.pg/\h.W.length<=4096/\(h.P.length:Int)=h.C.pg/\(h.S=0\/h.S=1):=by simp only[Z9,Le]at c;obtain⟨b,d,e,f⟩:=Z0s.1 c.1;have a:=BI.1 b;have:=Ij b;exact⟨b,a.1,a.2.1,a.2.2.2.1,a.2.2.2.2,d,by omega,e,f⟩
def H4{c:B7}{a}(e:Zv c=Y)(h:(Z4 c a).2.2=0):0<=(Z4 c a).1/\(Z4 c a).1<c.pg/\0<=(Z4 c a).2.1/\(Z4 c a).2.1<c.pw/\4096<=a/\a<4096+c.pw*c.pg/\a=4096+((Z4 c a).1*c.pw+(Z4 c a).2.1):=by have hb:=BI.1 e;unfold Z4 at h⊢;rw[if_pos e]at h⊢;split at h;rename_i d;rw[if_pos d];simp only;have f:0<=(a-4096)/c.pw:=Lx oq oq;have g:(a-4096)/c.pw<c.pg:=LC oq (by rw[Ln];omega);have i:=Int.emod_nonneg (a-4096) (b:=c.pw) oq;have j:=Int.emod_lt_of_pos (a-4096) (b:=c.pw) oq;have k:=Int.mul_ediv_add_emod (a-4096) c.pw;refine⟨f,g,i,j,d.1,d.2, ?_⟩;rw[Ln]at k;omega;simp at h
def Z6(h:Heap)(a:Int):Zz×Int:=
 if Z9 h=Y then
  (if(Z4 h.C a).2.2=0 then
   (if((h.P.getD (Z4 h.C a).1.toNat M).K=1\/(h.P.getD (Z4 h.C a).1.toNat M).K=2)/\(Z4 h.C a).2.1<(h.P.getD (Z4 h.C a).1.toNat M).U/\(Z8 (Z1 h.W a).1).2=Y then
    (if((h.P.getD (Z4 h.C a).1.toNat M).K=1/\(h.P.getD (Z4 h.C a).1.toNat M).U<(Z4 h.C a).2.1+Z5 (Z8 (Z1 h.W a).1).1) \/
      ((h.P.getD (Z4 h.C a).1.toNat M).K=2/\((Z4 h.C a).2.1≠0\/Z5 (Z8 (Z1 h.W a).1).1≠(h.P.getD (Z4 h.C a).1.toNat M).U))then(Ec,19)
     else((Z8 (Z1 h.W a).1).1,0))
    else(Ec,19))
   else(Ec,2))
 else(Ec,1)
def Ip(h:Zz):0<=Z5 h/\Z5 h<=256:=by unfold Z5;split;have:=Gx.1 aa;omega;omega
def NK(h:Heap)(a:Int)(hw:Zx h.W)(h0:0<=a/\a<=18446744073709551615):GP 91 [h.av,uU a] Y (.tu [(Z6 h a).1.av,nI (Z6 h a).2]) []:=by have hr:=EP hw a;have hd:=Nk (Z1 h.W a).1 hr.1;have hs:=Ip (Z8 (Z1 h.W a).1).1;rcases bb (!Z9 h)with hc0|hc0<;>have g:=hc0<;>simp only[bs]at g;rw[show Z6 h a=(Zz.mk (0:Int) (0:Int) (0:Int),(1:Int))from by simp[Z6,Ec, *]];exact gF [] func91 []<|Fc 16 (@CG h)<|Ft 17 hc0 Fz;have a1:=B6 g;obtain⟨a3,⟨a2,⟨z,⟨t,⟨o,⟨m,⟨k,⟨e,f⟩⟩⟩⟩⟩⟩⟩⟩:=a1;have Q0 {h_ c_ p_} (u:Fq h_ c_ p_):=Fc 16 (@CG h)<|Ff 17 hc0<|Fc 23 (@Hr h.C a oq oq) u;rcases bb ((Z4 h.C a).2.2 != 0)with hc18|hc18<;>have b:=hc18<;>simp only[bs]at b;rw[show Z6 h a=(Zz.mk (0:Int) (0:Int) (0:Int),(2:Int))from by simp[Z6,Ec, *]];exact gF [] func91 [] (Q0 (Ft 28 hc18 Fz));have r:=H4 aa b;obtain⟨a0,⟨y,⟨s,⟨n,⟨l,⟨i,j⟩⟩⟩⟩⟩⟩:=r;have Q1 {h_ c_ p_} (u:Fq h_ c_ p_):=Q0<|Ff 28 hc18<|Fe 33 Z0.dv h.P ((Z4 h.C a).1)<|Fc 39 (@HW h.W a oq aa)<|Fc 44 (@AJ ((Z1 h.W a).1) oq oq) u;rcases bb ((h.P.getD (Z4 h.C a).1.toNat M).K != 1&&(h.P.getD (Z4 h.C a).1.toNat M).K != 2||X ((h.P.getD (Z4 h.C a).1.toNat M).U<=(Z4 h.C a).2.1)||!(Z8 (Z1 h.W a).1).2)with hc27|hc27<;>have c:=hc27<;>simp only[bs]at c;rw[show Z6 h a=(Zz.mk (0:Int) (0:Int) (0:Int),(19:Int))from by grind[Z6,Ec]];exact gF [] func91 [] (Q1 (Ft 64 hc27 Fz));obtain⟨⟨p,q⟩,v⟩:=c;have Q2 {h_ c_ p_} (u:Fq h_ c_ p_):=Q1<|Ff 64 hc27<|Fc 67 (@Iu ((Z8 (Z1 h.W a).1).1) aa)<|FiG 74 ((h.P.getD (Z4 h.C a).1.toNat M).K==1) ((Z4 h.C a).2.1+Z5 (Z8 (Z1 h.W a).1).1) u;rcases bb ((h.P.getD (Z4 h.C a).1.toNat M).K==1&&X ((h.P.getD (Z4 h.C a).1.toNat M).U<(Z4 h.C a).2.1+Z5 (Z8 (Z1 h.W a).1).1)||(h.P.getD (Z4 h.C a).1.toNat M).K==2&&((Z4 h.C a).2.1 != 0||Z5 (Z8 (Z1 h.W a).1).1 != (h.P.getD (Z4 h.C a).1.toNat M).U))with hc40|hc40<;>have d:=hc40<;>simp only[bs]at d;rw[show Z6 h a=(Zz.mk (0:Int) (0:Int) (0:Int),(19:Int))from by(simp only[Z6,Ec] ;exact sj)];exact gF [] func91 [] (Q2 (Ft 93 hc40 Fz));obtain⟨w,x⟩:=d;rw[show Z6 h a=((Z8 (Z1 h.W a).1).1,(0:Int))from by grind[Z6,Ec]];exact gF [] func91 [] (Q2 (Ff 93 hc40 Fz))
abbrev aP(h:Heap)(a:Int):Z0:=h.P.getD (Z4 h.C a).1.toNat M
end Go.Proofs.YtgedmeaemofdkaaGreat
namespace Go.Proofs.YtgedmeaemofdkaaGreat
open Go.Sx Go.RowKit
def Zdk{n:Nat}{l}(h:shp prog (n+2) 22 l):∃m:List Int,l=[.sl 1 (m.map iD)]/\m.length<=140737488355328:=by
 have e:shp prog (n+2) 22 l=(∃els:List (List DV),l=[.sl 1 els]/\els.length<=140737488355328/\∀x∈els,shp prog (n+1) 3 x):=by kernel_rfl
 rw[e]at h;obtain⟨els,rfl,a,b⟩:=h;obtain⟨m,rfl⟩:=Z8S (f:=iD) λx c=>by(obtain⟨v,rfl,_⟩:=ZlC (b x c);exact⟨v,rfl⟩)
 exact⟨m,rfl,by simpa using a⟩
end Go.Proofs.YtgedmeaemofdkaaGreat
namespace Go.Proofs.YtgedmeaemofdkaaGreat
open Go.Sx
def Z3A{w}(h:(Z8 w).2=Y):ZU (Z8 w).1=Y:=by unfold Z8 at h⊢;split at h;rename_i a;rw[if_pos a];have:=a.1;unfold Zy at this;split at this;assumption;simp at this;cases h
def Pj{h a}(e:(Z6 h a).2=0):Z9 h=Y/\(Z4 h.C a).2.2=0/\4096<=a/\a<8192/\ZU (Z6 h a).1=Y/\0<=(Z6 h a).1.K/\(Z6 h a).1.K<=3/\0<=(Z6 h a).1.length/\(Z6 h a).1.length<=255:=by
 have b:Z9 h=Y/\(Z4 h.C a).2.2=0/\ZU (Z6 h a).1=Y:=by(unfold Z6 at e⊢;split at e;rename_i c;split at e;rename_i d;split at e;rename_i f;split at e;simp at e;rename_i j;rw[if_pos c,if_pos d,if_pos f,if_neg j];exact⟨c,d,Z3A f.2.2⟩;simp at e;simp at e;simp at e)
 obtain⟨k1,g,i⟩:=b;have p:=B6 k1;have o:=H4 p.1 g;have v:=Gx.1 i;have ar:=Ij p.1;exact⟨k1,g,o.2.2.2.2.1,by omega,i,v.1,v.2.1,v.2.2.1,v.2.2.2.1⟩
def Hy{h:Heap}(d:Zx h.W) a:0<=(Z6 h a).1.map/\(Z6 h a).1.map<=4294967295:=by
 have c:=EP d a;have b:=Nk (Z1 h.W a).1 c.1;unfold Z6;repeat' split
 all_goals first|exact b|simp[Ec]
def Zw(h:Heap)(a:Int):Zz×Int:=if Z9 h=Y then(if a=0 then(Ec,5)else if(Z6 h a).2=0/\(Z6 h a).1.K=0 then(Ec,4)else Z6 h a)else(Ec,1)
def O0{h:Heap}(b:Zx h.W) a:0<=(Zw h a).1.map/\(Zw h a).1.map<=4294967295:=by
 have:=Hy b a;unfold Zw;repeat' split
 all_goals first|exact this|simp[Ec]
def It{h a}(e:(Zw h a).2=0):Zw h a=Z6 h a/\(Z6 h a).2=0/\Z9 h=Y/\(Z4 h.C a).2.2=0/\4096<=a/\a<8192/\ZU (Zw h a).1=Y/\1<=(Zw h a).1.K/\(Zw h a).1.K<=3/\0<=(Zw h a).1.length/\(Zw h a).1.length<=255:=by
 have b:Zw h a=Z6 h a/\(Z6 h a).2=0/\(Z6 h a).1.K≠0:=by(unfold Zw at e⊢;split at e;rename_i f;split at e;simp at e;rename_i g;split at e;simp at e;rename_i c;rw[if_pos f,if_neg g,if_neg c];exact⟨rfl,e,λh=>c ⟨e,h⟩⟩;simp at e)
 obtain⟨k1,d,k3⟩:=b;have k:=Pj d;rw[k1];exact⟨rfl,d,k.1,k.2.1,k.2.2.1,k.2.2.2.1,k.2.2.2.2.1,by omega,k.2.2.2.2.2.2.1,k.2.2.2.2.2.2.2.1,k.2.2.2.2.2.2.2.2⟩
def Na(h:Heap)(a:Int)(hw:Zx h.W)(h0:0<=a/\a<=18446744073709551615):GP 45 [h.av,uU a] Y (.tu [(Zw h a).1.av,nI (Zw h a).2]) []:=by rcases bb (!Z9 h)with hc0|hc0<;>have c:=hc0<;>simp only[bs]at c;rw[show Zw h a=(Zz.mk (0:Int) (0:Int) (0:Int),(1:Int))from by simp[Zw,Ec, *]];exact gF [] func45 []<|Fc 9 (@CG h)<|Ft 10 hc0 Fz;rcases bb (a==0)with hc1|hc1<;>have d:=hc1<;>simp only[bs]at d;rw[show Zw h a=(Zz.mk (0:Int) (0:Int) (0:Int),(5:Int))from by simp[Zw,Ec, *]];exact gF [] func45 []<|Fc 9 (@CG h)<|Ff 10 hc0<|Ft 13 hc1 Fz;have g {h_ c_ p_} (i:Fq h_ c_ p_):=Fc 9 (@CG h)<|Ff 10 hc0<|Ff 13 hc1<|Fc 18 (@NK h a aa aa) i;rcases bb ((Z6 h a).2==0&&(Z6 h a).1.K==0)with hc2|hc2<;>have b:=hc2<;>simp only[bs]at b;obtain⟨e,f⟩:=b;rw[show Zw h a=(Zz.mk (0:Int) (0:Int) (0:Int),(4:Int))from by simp[Zw,Ec, *]];exact gF [] func45 [] (g (Ft 27 hc2 Fz));rw[show Zw h a=Z6 h a from by(simp[Zw,Ec, *];omega)];exact gF [] func45 [] (g (Ff 27 hc2 Fz))
def Gb(h:Heap)(a i:Int):Int×Int:=if(Zw h a).2=0 then(if 0<=i/\i<(Zw h a).1.length then Z1 h.W (a+1+i)else(0,2))else(0,(Zw h a).2)
def Z92(h:Heap)(a i:Int)(hw:Zx h.W)(h0:0<=a/\a<=18446744073709551615):GP 115 [h.av,uU a,nI i] Y (.tu [uU (Gb h a i).1,nI (Gb h a i).2]) []:=by have z {h_ c_ p_} (r_:Fq h_ c_ p_):=Fc 13 (@Na h a aa aa) r_;rcases bb ((Zw h a).2 != 0)with hc0|hc0<;>have m:=hc0<;>simp only[bs]at m;rw[show Gb h a i=((0:Int),(Zw h a).2)from by simp[Gb, *]];exact gF [] func115 [] (z (Ft 17 hc0 Fz));have a1:=It m;obtain⟨a3,⟨a2,⟨k,⟨v,⟨s,⟨q,⟨o,⟨l,⟨g,⟨c,d⟩⟩⟩⟩⟩⟩⟩⟩⟩⟩:=a1;have t:=B6 k;obtain⟨a0,⟨y,⟨u,⟨r,⟨p,⟨n,⟨j,⟨e,f⟩⟩⟩⟩⟩⟩⟩⟩:=t;rcases bb (X (i<0)||X ((Zw h a).1.length<=i))with hc20|hc20<;>have b:=hc20<;>simp only[bs]at b;rw[show Gb h a i=((0:Int),(2:Int))from by(simp only[Gb] ;exact sj)];exact gF [] func115 [] (z (Ff 17 hc0<|Ft 26 hc20 Fz));obtain⟨w,x⟩:=b;rw[show Gb h a i=Z1 h.W (a+(1:Int)+i)from by(simp only[Gb] ;exact sj)];exact gF [] func115 [] (z (Ff 17 hc0<|Ff 26 hc20<|Fv 30 (a+1)<|Fv 32 i<|Fv 33 (a+1+i)<|Fc 34 (@HW h.W (a+1+i) oq oq) Fz))
def ZhE{h a i}(e:(Gb h a i).2=0):(Zw h a).2=0/\0<=i/\i<(Zw h a).1.length:=by unfold Gb at e;split at e;split at e;exact⟨aa,aa⟩;simp at e;exact absurd e aa
def Eb(h:Heap)(a i v:Int):Heap×Int:=if(Gb h a i).2=0 then({h with W:=(BR h.W (a+1+i) v).1},0)else(B9,(Gb h a i).2)
def Z5N(h:Heap)(a i v:Int)(hw:Zx h.W)(h0:0<=a/\a<=18446744073709551615):GP 59 [h.av,uU a,nI i,uU v] L (.tu [(Eb h a i v).1.av,nI (Eb h a i v).2]) []:=by have Q0 {h_ c_ p_} (r_:Fq h_ c_ p_):=Fc 16 (@Z92 h a i aa aa) r_;rcases bb ((Gb h a i).2 != 0)with hc0|hc0<;>have m:=hc0<;>simp only[bs]at m;exact gF [] func59 [Y] (Q0 (Ft 20 hc0<|Fnl (Fnl (Fa (by simp[Eb,B9, *]:0=(Eb h a i v).1.C.pw)<|Fa (by simp[Eb,B9, *]:0=(Eb h a i v).1.C.pg)<|Fa (by simp[Eb,B9, *]:[]=Z wD (Eb h a i v).1.W)<|Fa (by simp[Eb,B9, *]:[]=Z Z0.dv (Eb h a i v).1.P)<|Fa (by simp[Eb,B9, *]:0=(Eb h a i v).1.S)<|Fa (by simp[Eb,B9, *]:0=(Eb h a i v).1.B)<|Fa (by simp[Eb,B9, *]:(Gb h a i).2=(Eb h a i v).2) Fz))));have a2:=ZhE m;obtain⟨x,⟨a3,a4⟩⟩:=a2;have t:=It x;obtain⟨a0,⟨y,⟨d,⟨r,⟨p,⟨n,⟨k,⟨f,⟨e,⟨b,c⟩⟩⟩⟩⟩⟩⟩⟩⟩⟩:=t;have u:=B6 d;obtain⟨a1,⟨z,⟨w,⟨s,⟨q,⟨o,⟨l,⟨g,j⟩⟩⟩⟩⟩⟩⟩⟩:=u;rw[show Eb h a i v=(Heap.mk h.C (BR h.W (a+(1:Int)+i) v).1 h.P h.S h.B,(0:Int))from by simp[Eb,B9, *]];exact gF [] func59 [] (Q0 (Ff 20 hc0<|Fv 27 (a+1)<|Fv 29 i<|Fv 30 (a+1+i)<|Fc 32 (@Z4a h.W (a+1+i) v oq oq) Fz))
def C0(h:Heap)(a:Int):List Int×Int:=if(Zw h a).2=0 then BS h.W (a+1) (Zw h a).1.length else([],(Zw h a).2)
def Z3z(h:Heap)(a:Int)(hw:Zx h.W)(h0:0<=a/\a<=18446744073709551615):GP 56 [h.av,uU a] L (.tu [Z2 (C0 h a).1,nI (C0 h a).2]) []:=by have y {h_ c_ p_} (r_:Fq h_ c_ p_):=Fc 11 (@Na h a aa aa) r_;rcases bb ((Zw h a).2 != 0)with hc0|hc0<;>have k:=hc0<;>simp only[bs]at k;exact gF [] func56 [Y] (y (Ft 15 hc0<|Fnl (Fa (by simp[C0, *]:[]=Z wD (C0 h a).1)<|Fa (by simp[C0, *]:(Zw h a).2=(C0 h a).2) Fz)));have w:=It k;obtain⟨z,⟨x,⟨i,⟨t,⟨q,⟨o,⟨m,⟨j,⟨f,⟨b,c⟩⟩⟩⟩⟩⟩⟩⟩⟩⟩:=w;have r:=B6 i;obtain⟨v,⟨u,⟨s,⟨p,⟨n,⟨l,⟨g,⟨d,e⟩⟩⟩⟩⟩⟩⟩⟩:=r;rw[show C0 h a=BS h.W (a+(1:Int)) (Zw h a).1.length from by simp[C0, *]];exact gF [] func56 [] (y (Ff 15 hc0<|Fv 20 (a+1)<|Fc 23 (@Z2q h.W (a+1) ((Zw h a).1.length) oq oq) Fz))
def BE(a:Zz):List Int:=(Zy a).1::O a.length.toNat 0
def BK(h:Heap)(a:Int)(b:Zz):Heap×Int:=if Z9 h=Y/\ZU b=Y then(if(ZX h.W a (BE b)).2=0 then({h with W:=(ZX h.W a (BE b)).1},0)else(B9,(ZX h.W a (BE b)).2))else(B9,1)
def Z9o{a}(h:(Zy a).2=0):ZU a=Y/\0<=a.length/\a.length<=255:=by unfold Zy at h;split at h;rename_i b;have:=Gx.1 b;exact⟨b,this.2.2.1,this.2.2.2.1⟩;simp at h
def ZiQ{a:Zz}(h:ZU a=Y):(Zy a).2=0:=by simp[Zy,h]
def Z5z{h:Heap}{a b}(e:Z9 h=L\/¬ (Zy b).2=0):BK h a b=(B9,1):=by unfold BK;rw[if_neg];rintro⟨c,d⟩;rcases e with e|e;rw[c]at e;cases e;exact e (ZiQ d)
def Z99(h:Heap)(a:Int)(b:Zz)(hw:Zx h.W)(h0:0<=a/\a<=18446744073709551615)(hm:0<=b.map/\b.map<=4294967295):GP 168 [h.av,uU a,b.av] L (.tu [(BK h a b).1.av,nI (BK h a b).2]) []:=by have v {h_ c_ p_} (u:Fq h_ c_ p_):=Fc 13 (@M5 b aa)<|Fc 17 (@CG h) u;rcases bb (!Z9 h||(Zy b).2 != 0)with hc0|hc0<;>have c:=hc0<;>simp only[bs]at c;have y:=Z5z (a:=a) c;exact gF [] func168 (fO 2) (v (Ft 22 hc0<|Fnl (Fnl (Fa (by grind[BK,B9,BE]:0=(BK h a b).1.C.pw)<|Fa (by grind[BK,B9,BE]:0=(BK h a b).1.C.pg)<|Fa (by grind[BK,B9,BE]:[]=Z wD (BK h a b).1.W)<|Fa (by grind[BK,B9,BE]:[]=Z Z0.dv (BK h a b).1.P)<|Fa (by grind[BK,B9,BE]:0=(BK h a b).1.S)<|Fa (by grind[BK,B9,BE]:0=(BK h a b).1.B)<|Fbs (1=(BK h a b).2) Fz))));obtain⟨g,i⟩:=c;have s:=B6 g;obtain⟨x,⟨t,⟨q,⟨n,⟨l,⟨k,⟨f,⟨d,e⟩⟩⟩⟩⟩⟩⟩⟩:=s;have m:=Z9o i;obtain⟨r,⟨o,p⟩⟩:=m;have w {h_ c_ p_} (u:Fq h_ c_ p_):=v<|Ff 22 hc0<|Fs 29 (Z wD [(Zy b).1])<|Fa (by(simp[BK,B9,BE, *];omega):0<=b.length/\(↑(Z wD [(Zy b).1]).length:Int)+b.length<=2^30)<|Fa (by simp[BK,B9,BE,LN,LM,Lp,LL,wD,iD]:Z wD [(Zy b).1]++O b.length.toNat [ZZ 0]=Z wD ([(Zy b).1]++O b.length.toNat 0))<|Fc 33 (@TM h.W ([(Zy b).1]++O b.length.toNat 0) a oq aa (by(simp[BK,B9,BE, *];omega))) u;rcases bb ((ZX h.W a ([(Zy b).1]++O b.length.toNat 0)).2 != 0)with hc37|hc37<;>have j:=hc37<;>simp only[bs]at j;exact gF [] func168 (fO 2)<|Fh 32 [.els (Z wD ([(Zy b).1]++O b.length.toNat 0))] (w (Ft 37 hc37<|Fnl (Fnl (Fa (by(simp only[BK,B9,BE] ;exact sj):0=(BK h a b).1.C.pw)<|Fa (by(simp only[BK,B9,BE] ;exact sj):0=(BK h a b).1.C.pg)<|Fa (by(simp only[BK,B9,BE] ;exact sj):[]=Z wD (BK h a b).1.W)<|Fa (by(simp only[BK,B9,BE] ;exact sj):[]=Z Z0.dv (BK h a b).1.P)<|Fa (by(simp only[BK,B9,BE] ;exact sj):0=(BK h a b).1.S)<|Fa (by(simp only[BK,B9,BE] ;exact sj):0=(BK h a b).1.B)<|Fa (by(simp only[BK,B9,BE] ;exact sj):(ZX h.W a ([(Zy b).1]++O b.length.toNat 0)).2=(BK h a b).2) Fz))));rw[show BK h a b=(Heap.mk h.C (ZX h.W a ([(Zy b).1]++O b.length.toNat (0:Int))).1 h.P h.S h.B,(0:Int))from by(simp only[BK,B9,BE] ;exact sj)];exact gF [] func168 []<|Fh 32 [.els (Z wD ([(Zy b).1]++O b.length.toNat 0))] (w (Ff 37 hc37 Fz))
def Ia(l:List Z0)(i k:Nat):Bool:=(LA k).all λj=>(l.getD (i+j) M).K==0
def Si{l}{i k:Nat}:Ia l i k=Y↔∀j,j<k->(l.getD (i+j) M).K=0:=by simp[Ia]
def ZN(l:List Z0)(i k:Nat)(p q:Z0):List Z0:=(wr l (O k q) i k).set i p
def ER(l:List Z0)(i:Int)(k:Int)(p q:Z0):List Z0×Int:=if 0<=i/\i<l.length/\k<=l.length-i then(if Ia l i.toNat k.toNat=Y then(ZN l i.toNat k.toNat p q,0)else([],20))else([],2)
def N8(l:List Z0):Ce (l.map Z0.dv):=by intro e b x a;obtain⟨y,_,rfl⟩:=List.mem_map.1 b;simp[Z0.dv]at a;rcases a with rfl|rfl|rfl|rfl<;>exact⟨_,rfl⟩
def ZlN{α:Type}{l m:List α}{i j:Nat}{d:α}(h:l[i]?=m[j]?):l.getD i d=m.getD j d:=by rw[Lo,Lo,h]
def Aa(l:List Z0)(i:Int)(k:Int)(p q:Z0)(n:Nat):Tg:=⟨tm 57 [(1,nI i),(2,nI k),(8,.pt 8008 0 0),(9,.pt 8009 0 0),(10,.d (.sl 0 [])),(11,nI 0),(12,.ow 24032),(13,nI n)],
 [(24032,.arr 86 4 ((wr l (O k.toNat q) i.toNat n).map Z0.dv)),(8008,.box 86 [nI p.K,nI p.S,nI p.U,nI p.N]),(8009,.box 86 [nI q.K,nI q.S,nI q.U,nI q.N])],60⟩
section
variable(l:List Z0)(i:Int)(k:Int)(p q:Z0)(n:Nat)(hl:l.length<=1048576)(c:0<=i)(a:0<=k)(b:i.toNat+k.toNat<=l.length)
include hl c a b
theorem Z5F(hn:n<k.toNat):(wr l (O k.toNat q) i.toNat n).getD (i.toNat+n) M=l.getD (i.toNat+n) M:=by refine ZlN ?_;rw[AR (by simpa using b) qo,if_neg oq,if_neg oq]
theorem Z9T(f:n<k.toNat)(m:(l.getD (i.toNat+n) M).K=0):CP (Zm f227 0) (Aa l i k p q n).st .nrm (Aa l i k p q (n+1)).st:=by
 have e:=II (ws:=l) (l:=O k.toNat q) (i:=i.toNat) (k:=n) (by simpa using b) qo;have h:=Z5F l i k q n hl c a b f;have g:=MU (ws:=l) (l:=O k.toNat q) (i:=i.toNat) (k:=n) (by simpa using b) qo M;have j:(O k.toNat q).getD n M=q:=by simp[Lr,f]
 rw[j]at g;have ei:i+n=((i.toNat+n:Nat):Int):=by omega
 rw[<-h]at m;rcases bb (((wr l (O k.toNat q) i.toNat n).getD (↑(i.toNat+n):Int).toNat M).K != 0)with hc0|hc0<;>have d:=hc0<;>simp only[bs]at d;contradiction;exact sF [] (fO 8)<|Fh 10051 [.els (Z Z0.dv ((wr l (O k.toNat q) i.toNat n).set (↑(i.toNat+n):Int).toNat q))]<|Ftb 35 (X ((n:Int)<k))<|Fg 41 (by rw[Ef oq oq];omega:Lb.wrap (i+(n:Int))=(↑(i.toNat+n):Int))<|Fmq 44 Z0.dv (wr l (O k.toNat q) i.toNat n) (↑(i.toNat+n):Int)<|Ff 45 hc0<|Fg 49 (by rw[Ef oq oq];omega:Lb.wrap (i+(n:Int))=(↑(i.toNat+n):Int))<|Fa (by(simp only[Lc];omega):0<=(↑(i.toNat+n):Int)/\(↑(i.toNat+n):Int).toNat<(Z Z0.dv (wr l (O k.toNat q) i.toNat n)).length)<|Fa (by(simp only[Lc];omega):(↑(i.toNat+n):Int).toNat<(Z Z0.dv (wr l (O k.toNat q) i.toNat n)).length)<|Fa (by rw[Lp];rfl:(Z Z0.dv (wr l (O k.toNat q) i.toNat n)).set (↑(i.toNat+n):Int).toNat [Zq q.K,Zq q.S,Zq q.U,Zq q.N]=Z Z0.dv ((wr l (O k.toNat q) i.toNat n).set (↑(i.toNat+n):Int).toNat q))<|Fx 37 n<|Fr (86:Int)<|Fa (by refine congrArg _ ?_;exact g:Z Z0.dv ((wr l (O k.toNat q) i.toNat n).set (↑(i.toNat+n):Int).toNat q)=Z Z0.dv (wr l (O k.toNat q) i.toNat (n+1))) Fz
theorem ZlW(h:n<k.toNat)(g:¬ (l.getD (i.toNat+n) M).K=0):CP (Zm f227 0) (Aa l i k p q n).st .ret (Tg.st ⟨tm 57 [(10,.d (.sl 0 [])),(11,nI 20)],[],60⟩):=by
 have e:=II (ws:=l) (l:=O k.toNat q) (i:=i.toNat) (k:=n) (by simpa using b) qo;have f:=Z5F l i k q n hl c a b h;have ei:i+n=((i.toNat+n:Nat):Int):=by omega
 rw[<-f]at g;rcases bb (((wr l (O k.toNat q) i.toNat n).getD (↑(i.toNat+n):Int).toNat M).K != 0)with hc0|hc0<;>have d:=hc0<;>simp only[bs]at d;exact sF [] []<|Ftb 35 (X ((n:Int)<k))<|Fg 41 (by rw[Ef oq oq];omega:Lb.wrap (i+(n:Int))=(↑(i.toNat+n):Int))<|Fmq 44 Z0.dv (wr l (O k.toNat q) i.toNat n) (↑(i.toNat+n):Int)<|Ft 45 hc0 Fz;contradiction
omit hl c b in
theorem Zei:CP (Zm f227 0) (Aa l i k p q k.toNat).st (.ext 0) (Tg.st ⟨tm 57 [(1,nI i),(8,.pt 8008 0 0),(12,.ow 24032)],[(24032,.arr 86 4 ((wr l (O k.toNat q) i.toNat k.toNat).map Z0.dv)),(8008,.box 86 [nI p.K,nI p.S,nI p.U,nI p.N])],60⟩):=by exact sF [] []<|Ffb 35 (X ((k.toNat:Int)<k)) Fz
theorem Z4G(e:Ia l i.toNat k.toNat=Y):CP (Zi f227 0) (Tg.st ⟨tm 57 [(1,nI i),(2,nI k),(8,.pt 8008 0 0),(9,.pt 8009 0 0),(10,.d (.sl 0 [])),(11,nI 0),(12,.ow 24032),(13,nI 0)], [(24032,.arr 86 4 (l.map Z0.dv)),(8008,.box 86 [nI p.K,nI p.S,nI p.U,nI p.N]),(8009,.box 86 [nI q.K,nI q.S,nI q.U,nI q.N])],60⟩) .nrm (Tg.st ⟨tm 57 [(1,nI i),(8,.pt 8008 0 0),(12,.ow 24032)],[(24032,.arr 86 4 ((wr l (O k.toNat q) i.toNat k.toNat).map Z0.dv)),(8008,.box 86 [nI p.K,nI p.S,nI p.U,nI p.N])],60⟩):=by
 have:=Bp (S:=λn=>(Aa l i k p q n).st) k.toNat kr (λn d=>Z9T l i k p q n hl c a b d (Si.1 e n d)) (Zei l i k p q a)
 simp only[Aa,Dw]at this;exact this
theorem ZkC(o:Ia l i.toNat k.toNat=L):CP (Zi f227 0) (Tg.st ⟨tm 57 [(1,nI i),(2,nI k),(8,.pt 8008 0 0),(9,.pt 8009 0 0),(10,.d (.sl 0 [])),(11,nI 0),(12,.ow 24032),(13,nI 0)], [(24032,.arr 86 4 (l.map Z0.dv)),(8008,.box 86 [nI p.K,nI p.S,nI p.U,nI p.N]),(8009,.box 86 [nI q.K,nI q.S,nI q.U,nI q.N])],60⟩) .ret (Tg.st ⟨tm 57 [(10,.d (.sl 0 [])),(11,nI 20)],[],60⟩):=by
 obtain⟨n,x,d,g,h⟩:=PH o;have f:n<k.toNat:=by have:=(Ld.1 d).1;simpa using this
 have s:x=n:=by simp[LI,f]at d;exact d.symm
 subst s;have:=EJ (S:=λn=>(Aa l i k p q n).st) x kr (λm r=>?_) (ZlW l i k p q x hl c a b f (by simpa using g))
 .simp only[Aa,Dw]at this;exact this
 .obtain⟨y,e,j⟩:=h m r;have t:y=m:=by simp[LI,show m<k.toNat from by omega]at e;exact e.symm
  subst t;exact Z9T l i k p q y hl c a b oq (by simpa using j)
end
def ZcA(l:List Z0)(i:Int)(k:Int)(p q:Z0)(hl:l.length<=1048576)(hk:1<=k/\k<=5):GP 227 [B5 l,nI i,nI k,p.av,q.av] Y (.tu [B5 (ER l i k p q).1,nI (ER l i k p q).2]) []:=by
  cases hf:Ia l i.toNat k.toNat with
  |true =>
    have hw:i.toNat+k.toNat<=l.length->(wr l (O k.toNat q) i.toNat k.toNat).length=l.length:=λh=>II (by simpa using h) pq;rcases bb (X (i<0)||X ((l.length:Int)<=i)||X ((l.length:Int)-i<k))with hc0|hc0<;>have a:=hc0<;>simp only[bs]at a
    . exact gF [] func227 (fO 10)<|FlG 19 (!decide (i<0)) Z0.dv l<|FlG 25 (!(X (i<0)||X ((l.length:Int)<=i))) Z0.dv l<|FiG 27 (!(X (i<0)||X ((l.length:Int)<=i))) ((l.length:Int)-i)<|Ft 29 hc0<|Fnl (Fa (by(simp only[ER,hf,ZN] ;exact sj):[]=Z Z0.dv (ER l i k p q).1)<|Fa (by(simp only[ER,hf,ZN] ;exact sj):2=(ER l i k p q).2) Fz)
    . obtain⟨⟨b,c⟩,d⟩:=a;rw[show ER l i k p q=((wr l (O k.toNat q) i.toNat k.toNat).set i.toNat p,(0:Int))from by simp[ER,hf,ZN, *]];exact gF [] func227 []<|Fh 10055 [.els (Z Z0.dv ((wr l (O k.toNat q) i.toNat k.toNat).set i.toNat p))]<|FlG 19 (!decide (i<0)) Z0.dv l<|FlG 25 (!(X (i<0)||X ((l.length:Int)<=i))) Z0.dv l<|FiG 27 (!(X (i<0)||X ((l.length:Int)<=i))) ((l.length:Int)-i)<|Ff 29 hc0<|FAx 30 32 Z0.dv l (by(simp[ER,hf,ZN, *];omega))<|Fu (@Z4G l i k p q aa oq oq oq aa)<|Fa (by(simp only[Lc];omega):0<=i/\i.toNat<(Z Z0.dv (wr l (O k.toNat q) i.toNat k.toNat)).length)<|Fa (by(simp only[Lc];omega):i.toNat<(Z Z0.dv (wr l (O k.toNat q) i.toNat k.toNat)).length)<|Fa (by rw[Lp];rfl:(Z Z0.dv (wr l (O k.toNat q) i.toNat k.toNat)).set i.toNat [Zq p.K,Zq p.S,Zq p.U,Zq p.N]=Z Z0.dv ((wr l (O k.toNat q) i.toNat k.toNat).set i.toNat p))<|Fa (N8 _:Ce (Z Z0.dv ((wr l (O k.toNat q) i.toNat k.toNat).set i.toNat p))) Fz
  | false => rcases Lu (X (i<(0:Int))||X ((l.length:Int)<=i)||X ((l.length:Int)-i<k))with hc0 | hc0
             . have a:=hc0;simp only[bs]at a;exact gF [] func227 (fO 10)<|FlG 19 (!decide (i<0)) Z0.dv l<|FlG 25 (!(X (i<0)||X ((l.length:Int)<=i))) Z0.dv l<|FiG 27 (!(X (i<0)||X ((l.length:Int)<=i))) ((l.length:Int)-i)<|Ft 29 ‹(X (i<0)||X ((l.length:Int)<=i)||X ((l.length:Int)-i<k))=Y›<|Fnl (Fa (by(simp only[ER,hf] ;exact sj):[]=Z Z0.dv (ER l i k p q).1)<|Fa (by(simp only[ER,hf] ;exact sj):2=(ER l i k p q).2) Fz)
             . have a:=hc0;simp only[bs]at a;obtain⟨⟨b,c⟩,d⟩:=a;exact gF [] func227 (fO 21)<|FlG 19 (!decide (i<0)) Z0.dv l<|FlG 25 (!(X (i<0)||X ((l.length:Int)<=i))) Z0.dv l<|FiG 27 (!(X (i<0)||X ((l.length:Int)<=i))) ((l.length:Int)-i)<|Ff 29 ‹(X (i<0)||X ((l.length:Int)<=i)||X ((l.length:Int)-i<k))=L›<|FAx 30 32 Z0.dv l (by(simp[ER,hf, *];omega))<|Fu (@ZkC l i k p q aa oq oq oq aa)<|Fnl (Fa (by(simp only[ER,hf] ;exact sj):[]=Z Z0.dv (ER l i k p q).1)<|Fa (by(simp only[ER,hf] ;exact sj):20=(ER l i k p q).2) Fz)
def ZjO(l:List Z0)(i:Int)(k:Int)(p q:Z0)(hl:l.length<=1048576)(hk:1<=k/\k<=5)(hi:0<=i/\i+k<=l.length)(hf:Ia l i.toNat k.toNat=Y):GP 227 [B5 l,nI i,nI k,p.av,q.av] Y (.tu [.ow 0,nI 0]) [.arr 86 4 ((ZN l i.toNat k.toNat p q).map Z0.dv)]:=by have hw:(wr l (O k.toNat q) i.toNat k.toNat).length=l.length:=II qo pq;exact gF [24032] func227 []<|Fh 10055 [.els (Z Z0.dv ((wr l (O k.toNat q) i.toNat k.toNat).set i.toNat p))]<|FlG 19 (!decide (i<0)) Z0.dv l<|FlG 25 (!(X (i<0)||X ((l.length:Int)<=i))) Z0.dv l<|FiG 27 (!(X (i<0)||X ((l.length:Int)<=i))) ((l.length:Int)-i)<|Ffb 29 (X (i<0)||X ((l.length:Int)<=i)||X ((l.length:Int)-i<k))<|FAx 30 32 Z0.dv l (by(simp[ZN, *];omega))<|Fu (@Z4G l i k p q aa oq oq oq aa)<|Fa (by(simp only[Lc];omega):0<=i/\i.toNat<(Z Z0.dv (wr l (O k.toNat q) i.toNat k.toNat)).length)<|Fa (by(simp only[Lc];omega):i.toNat<(Z Z0.dv (wr l (O k.toNat q) i.toNat k.toNat)).length)<|Fa (by rw[Lp];rfl:(Z Z0.dv (wr l (O k.toNat q) i.toNat k.toNat)).set i.toNat [Zq p.K,Zq p.S,Zq p.U,Zq p.N]=Z Z0.dv ((wr l (O k.toNat q) i.toNat k.toNat).set i.toNat p))<|Fa (N8 _:Ce (Z Z0.dv ((wr l (O k.toNat q) i.toNat k.toNat).set i.toNat p))) Fz
def Z6w(l:List Z0)(i sp:Int):List Z0×Int:=if 0<=sp/\sp<=1 then ER l i 1 ⟨1,sp,0,0⟩ ⟨0,0,0,0⟩else([],1)
def H5(c:B7)(l:List Z0)(i sp n:Int):List Z0×Int:=if 1<=need c n/\0<=sp/\sp<=1 then ER l i (need c n) ⟨2,sp,n,0⟩ ⟨3,sp,0,0⟩else([],1)
def ZgL(c:B7)(l:List Z0) i sp n(hl:l.length<=1048576):GP 205 [c.av,B5 l,nI i,nI sp,nI n] L (.tu [B5 (H5 c l i sp n).1,nI (H5 c l i sp n).2]) []:=by have hn:=MB c n;rcases bb (X (need c n<1)||X (sp<0)||X (1<sp))with hc0|hc0<;>have a:=hc0<;>simp only[bs]at a;exact gF [] func205 (fO 4)<|Fc 15 (@RI c n)<|Ft 25 hc0<|Fnl (Fa (by(simp only[H5] ;exact sj):[]=Z Z0.dv (H5 c l i sp n).1)<|Fa (by(simp only[H5] ;exact sj):1=(H5 c l i sp n).2) Fz);obtain⟨⟨b,d⟩,e⟩:=a;rw[show H5 c l i sp n=ER l i (need c n) (Z0.mk (2:Int) sp n (0:Int)) (Z0.mk (3:Int) sp (0:Int) (0:Int))from by simp[H5, *]];exact gF [] func205 []<|Fc 15 (@RI c n)<|Ff 25 hc0<|Fc 34 (@ZcA l i (need c n) (Z0.mk 2 sp n 0) (Z0.mk 3 sp 0 0) aa oq) Fz
def Z4A(l:List Z0)(i sp:Int)(hl:l.length<=1048576)(hs:0<=sp/\sp<=1)(hi:0<=i/\i+1<=l.length)(hf:Ia l i.toNat 1=Y):GP 204 [B5 l,nI i,nI sp] Y (.tu [.ow 0,nI 0]) [.arr 86 4 ((ZN l i.toNat 1 ⟨1,sp,0,0⟩ ⟨0,0,0,0⟩).map Z0.dv)]:=by exact gF [25019] func204 []<|Ffb 13 (X (sp<0)||X (1<sp))<|Fc 19 (@ZjO l i (1) (Z0.mk 1 sp 0 0) (Z0.mk 0 0 0 0) aa oq aa aa)<|Fa (N8 _:Ce (Z Z0.dv (ZN l i.toNat (Lh 1) (Z0.mk 1 sp 0 0) (Z0.mk 0 0 0 0)))) Fz
structure ZL where
 frm:Int
 len:Int
 deriving DecidableEq,Inhabited
def ZL.dv(r:ZL):List DV:=[Zq r.frm,Zq r.len]
def IG(l:List ZL):AV:=.d (.sl 2 (l.map ZL.dv))
def Bv(out:List ZL):ZL:=out.getLast?.getD ⟨0,0⟩
def Rj(out:List ZL)(i:Int)(p:Z0):List ZL:=
 if p.K=0 then(if out≠[]/\(Bv out).frm+(Bv out).len=i then out.dropLast++[⟨(Bv out).frm,(Bv out).len+1⟩]else out++[⟨i,1⟩])else out
def Zh(l:List Z0):Nat->List ZL|0=>[]|i+1=>Rj (Zh l i) i (E7 l i)
def NT{out:List ZL}(h:out≠[]):out[out.length-1]?=La (Bv out):=by rw[<-List.getLast?_eq_getElem?,Bv,List.getLast?_eq_some_getLast h];rfl
def ND l:∀i,(Zh l i).length<=i/\∀r∈Zh l i,0<=r.frm/\1<=r.len/\r.frm+r.len<=i
 |0=>⟨by simp[Zh],by simp[Zh]⟩
 |i+1=>by
  obtain⟨h1,b⟩:=ND l i;simp only[Zh,Rj];split
  .split
   .rename_i c;have hl:=b _ (Lj (NT c.1));have hp:0<(Zh l i).length:=Lz.2 c.1;refine⟨by simp;omega,λr a=>?_⟩;rcases Lt.1 a with a|a
    .have:=b r (LH _ a);omega
    .simp at a;subst a;simp only;omega
   .refine⟨by simp;omega,λr a=>?_⟩;rcases Lt.1 a with a|a
    .have:=b r a;omega
    .simp at a;subst a;simp only;omega
  .refine⟨by omega,λr a=>?_⟩;have:=b r a;omega
def Z0Q{out:List ZL}{i:Nat}{r}(h:out[i]?=La r):(out.map ZL.dv)[i]?=La r.dv:=by simp[h]
def Z4J{out:List ZL}(h:out≠[])(r:ZL):(out.map ZL.dv).set (out.length-1) r.dv=(out.dropLast++[r]).map ZL.dv:=by obtain⟨a,b,rfl⟩:∃a b,out=a++[b]:=⟨out.dropLast,out.getLast h,(List.dropLast_concat_getLast h).symm⟩;simp
def IF(l:List Z0)(i:Nat):Tg:=⟨tm 54 [(3,.ow 16003),(7,B5 l),(8,nI l.length),(9,nI i)],[(16003,.arr 267 2 ((Zh l i).map ZL.dv))],20⟩
def Zct(l:List Z0)(hl:l.length<=1048576)(i:Nat) p(hp:l[i]?=La p)(hk:p.K≠0):CP (Zm f231 0) (IF l i).st .nrm (IF l (i+1)).st:=by
 have hi:i<l.length:=(Ld.1 hp).1;obtain⟨o1,o2⟩:=ND l i;have e:IF l (i+1)=⟨tm 54 [(3,.ow 16003),(7,B5 l),(8,nI l.length),(9,nI ((i+1:Nat):Int))],[(16003,.arr 267 2 ((Zh l i).map ZL.dv))],20⟩:=by
  have hpa:E7 l i=p:=by simp[E7,hp]
  rw[IF,Zh,Rj,hpa,if_neg hk]
 rw[e];exact sF [] []<|Fh 12 [.el p.dv]<|Fh 25 [.br Y]<|Ftb 10 (X ((i:Int)<(l.length:Int)))<|Fa ((⟨by omega,HZ hp⟩):0<=(i:Int)/\(Z Z0.dv l)[(i:Int).toNat]?=La p.dv)<|Fg 15 (by rw[Lc]:(↑(Z ZL.dv (Zh l i)).length:Int)=(↑(Zh l i).length:Int))<|Fi 16 ((↑(Zh l i).length:Int)-1)<|Fa (by simp[hk]:(p.K != 0)=Y)<|Fx 52 i Fz
def ZfG(l:List Z0)(hl:l.length<=1048576)(i:Nat)(p:Z0)(hp:l[i]?=La p)(hk:p.K=0)(ho:Zh l i≠[])(hm:(Bv (Zh l i)).frm+(Bv (Zh l i)).len=i):CP (Zm f231 0) (IF l i).st .nrm (IF l (i+1)).st:=by
 have hi:i<l.length:=(Ld.1 hp).1;obtain⟨o1,o2⟩:=ND l i;have hlast:=o2 _ (Lj (NT ho));have hpos:0<(Zh l i).length:=Lz.2 ho;have e:Zh l (i+1)=(Zh l i).dropLast++[⟨(Bv (Zh l i)).frm,(Bv (Zh l i)).len+1⟩]:=by
  have hpa:E7 l i=p:=by simp[E7,hp]
  rw[Zh,Rj,hpa,if_pos hk,if_pos ⟨ho,hm⟩]
 have hidx:0<=((Zh l i).length:Int)-1/\(((Zh l i).length:Int)-1).toNat<(Z ZL.dv (Zh l i)).length:=by rw[Lc];omega
 have hat:(Z ZL.dv (Zh l i))[(((Zh l i).length:Int)-1).toNat]?=La (Bv (Zh l i)).dv:=by
  rw[show(((Zh l i).length:Int)-1).toNat=(Zh l i).length-1 from by omega];exact Z0Q (NT ho)
 have qz0:(Z ZL.dv (Zh l i)).set ((↑(Zh l i).length:Int)-(1:Int)).toNat (Gn (Bv (Zh l i)).dv ((0:Nat) + #[Lm "From" (3:Nat) (0:Nat) L "" "" (0:Nat),Lm "Len" (3:Nat) (1:Nat) L "" "" (8:Nat)][(1:Nat)].3) [Zq ((Bv (Zh l i)).len+(1:Int))])=Z ZL.dv (Zh l (i+(1:Nat))):=by
  rw[e,<-Z4J ho,show(((Zh l i).length:Int)-1).toNat=(Zh l i).length-1 from by omega];rfl
 exact sF [] []<|Fh 12 [.el p.dv]<|Fh 16 [.int ((↑(Zh l i).length:Int)-1)]<|Fh 25 [.br L]<|Fh 34 [.el (Bv (Zh l i)).dv]<|Fh 39 [.el (Bv (Zh l i)).dv]<|Fh 40 [.int ↑i]<|Fh 43 [.br Y]<|Fh 48 [.el (Bv (Zh l i)).dv]<|Fh 49 [.int ((Bv (Zh l i)).len+1)]<|Fh 10051 [.el (Bv (Zh l i)).dv,.els ((Zh l (i+1)).map ZL.dv)]<|Fh 52 [.int (↑(i+1):Int)]<|Ft 10 ((decide_eq_true oq):X ((i:Int)<(l.length:Int))=Y)<|Fa ((⟨by omega,HZ hp⟩):0<=(i:Int)/\(Z Z0.dv l)[(i:Int).toNat]?=La p.dv)<|Fg 15 (by rw[Lc]:(↑(Z ZL.dv (Zh l i)).length:Int)=(↑(Zh l i).length:Int))<|Fa ((C5 oq oq):Lb.wrap ((↑(Zh l i).length:Int)-1)=(↑(Zh l i).length:Int)-1)<|Fa (by simp[hk]:(p.K != 0)=L)<|Fa ((λ_=>hidx):X (0<=(↑(Zh l i).length:Int)-1)=Y->0<=(↑(Zh l i).length:Int)-1/\((↑(Zh l i).length:Int)-1).toNat<(Z ZL.dv (Zh l i)).length)<|Fa ((λ_=>hat):X (0<=(↑(Zh l i).length:Int)-1)=Y->(Z ZL.dv (Zh l i))[((↑(Zh l i).length:Int)-1).toNat]?=La (Bv (Zh l i)).dv)<|Fa ((λ_=>hidx):X (0<=(↑(Zh l i).length:Int)-1)=Y->0<=(↑(Zh l i).length:Int)-1/\((↑(Zh l i).length:Int)-1).toNat<(Z ZL.dv (Zh l i)).length)<|Fa ((λ_=>hat):X (0<=(↑(Zh l i).length:Int)-1)=Y->(Z ZL.dv (Zh l i))[((↑(Zh l i).length:Int)-1).toNat]?=La (Bv (Zh l i)).dv)<|Fa ((λ_=>by rw[hm];exact C5 oq oq):X (0<=(↑(Zh l i).length:Int)-1)=Y->Lb.wrap ((Bv (Zh l i)).frm+(Bv (Zh l i)).len)=(i:Int))<|Fa (by simp;omega:(X (0<=(↑(Zh l i).length:Int)-1)&&(i:Int)==(i:Int))=Y)<|Fa (hidx:0<=(↑(Zh l i).length:Int)-1/\((↑(Zh l i).length:Int)-1).toNat<(Z ZL.dv (Zh l i)).length)<|Fa (hat:(Z ZL.dv (Zh l i))[((↑(Zh l i).length:Int)-1).toNat]?=La (Bv (Zh l i)).dv)<|Fa ((C5 oq oq):Lb.wrap ((Bv (Zh l i)).len+1)=(Bv (Zh l i)).len+1)<|Fa (hidx:0<=(↑(Zh l i).length:Int)-1/\((↑(Zh l i).length:Int)-1).toNat<(Z ZL.dv (Zh l i)).length)<|Fa (hat:(Z ZL.dv (Zh l i))[((↑(Zh l i).length:Int)-1).toNat]?=La (Bv (Zh l i)).dv)<|Fa (qz0:(Z ZL.dv (Zh l i)).set ((↑(Zh l i).length:Int)-1).toNat (Gn (Bv (Zh l i)).dv (0 + #[Lm "From" 3 0 L "" "" 0,Lm "Len" 3 1 L "" "" 8][1].3) [Zq ((Bv (Zh l i)).len+1)])=Z ZL.dv (Zh l (i+1)))<|Fa ((C5 oq oq):Lb.wrap ((i:Int)+1)=(↑(i+1):Int)) Fz
def ZdV(l:List Z0)(hl:l.length<=1048576)(i:Nat)(p:Z0)(hp:l[i]?=La p)(hk:p.K=0)(ho:¬ (Zh l i≠[]/\(Bv (Zh l i)).frm+(Bv (Zh l i)).len=i)):CP (Zm f231 0) (IF l i).st .nrm (IF l (i+1)).st:=by
 have hi:i<l.length:=(Ld.1 hp).1;obtain⟨o1,o2⟩:=ND l i;have e:Zh l (i+1)=Zh l i++[⟨i,1⟩]:=by
  have hpa:E7 l i=p:=by simp[E7,hp]
  rw[Zh,Rj,hpa,if_pos hk,if_neg ho]
 have hne:X (0<=((Zh l i).length:Int)-1)=Y->Zh l i≠[]:=by
  intro hd h0;rw[h0]at hd;simp at hd
 have hidx:X (0<=((Zh l i).length:Int)-1)=Y->0<=((Zh l i).length:Int)-1/\(((Zh l i).length:Int)-1).toNat<(Z ZL.dv (Zh l i)).length:=by
  intro hd;have:=of_decide_eq_true hd;rw[Lc];omega
 have hat:X (0<=((Zh l i).length:Int)-1)=Y->(Z ZL.dv (Zh l i))[(((Zh l i).length:Int)-1).toNat]?=La (Bv (Zh l i)).dv:=by
  intro hd;rw[show(((Zh l i).length:Int)-1).toNat=(Zh l i).length-1 from by omega];exact Z0Q (NT (hne hd))
 have qz0:(X ((0:Int)<=(↑(Zh l i).length:Int)-(1:Int))&&Lb.wrap ((Bv (Zh l i)).frm+(Bv (Zh l i)).len)==(i:Int))=L:=by
  cases hd:X (0<=((Zh l i).length:Int)-1)with
  |false=>simp
  |true =>
   have h1:=hne hd;have hlast:=o2 _ (Lj (NT h1));rw[C5 oq oq];simp;intro hh;exact ho ⟨h1,hh⟩
 exact sF [(200021,16003)] []<|Fh 12 [.el p.dv]<|Fh 25 [.br L]<|Fh 34 [.el (Bv (Zh l i)).dv]<|Fh 39 [.el (Bv (Zh l i)).dv]<|Fh 43 [.br L]<|Fh 21 [.els ((Zh l (i+1)).map ZL.dv)]<|Ftb 10 (X ((i:Int)<(l.length:Int)))<|Fa ((⟨by omega,HZ hp⟩):0<=(i:Int)/\(Z Z0.dv l)[(i:Int).toNat]?=La p.dv)<|Fg 15 (by rw[Lc]:(↑(Z ZL.dv (Zh l i)).length:Int)=(↑(Zh l i).length:Int))<|Fi 16 ((↑(Zh l i).length:Int)-1)<|Fa (by simp[hk]:(p.K != 0)=L)<|Fa (hidx:X (0<=(↑(Zh l i).length:Int)-1)=Y->0<=(↑(Zh l i).length:Int)-1/\((↑(Zh l i).length:Int)-1).toNat<(Z ZL.dv (Zh l i)).length)<|Fa (hat:X (0<=(↑(Zh l i).length:Int)-1)=Y->(Z ZL.dv (Zh l i))[((↑(Zh l i).length:Int)-1).toNat]?=La (Bv (Zh l i)).dv)<|Fa (hidx:X (0<=(↑(Zh l i).length:Int)-1)=Y->0<=(↑(Zh l i).length:Int)-1/\((↑(Zh l i).length:Int)-1).toNat<(Z ZL.dv (Zh l i)).length)<|Fa (hat:X (0<=(↑(Zh l i).length:Int)-1)=Y->(Z ZL.dv (Zh l i))[((↑(Zh l i).length:Int)-1).toNat]?=La (Bv (Zh l i)).dv)<|Fa (qz0:(X (0<=(↑(Zh l i).length:Int)-1)&&Lb.wrap ((Bv (Zh l i)).frm+(Bv (Zh l i)).len)==(i:Int))=L)<|Fa (by rw[Lc];simp;omega:(Z ZL.dv (Zh l i)).length+((O 1 [Zq 0,Zq 0]).set 0 [Zq (i:Int),Zq 1]).length<=2^30)<|Fa (by rw[e];simp[ZL.dv]:Z ZL.dv (Zh l i)++(O 1 [Zq 0,Zq 0]).set 0 [Zq (i:Int),Zq 1]=Z ZL.dv (Zh l (i+1)))<|Fx 52 i Fz
def ZbN(l:List Z0)(hl:l.length<=1048576)(i:Nat)(d:i<l.length):CP (Zm f231 0) (IF l i).st .nrm (IF l (i+1)).st:=by have c:=Li d;by_cases a:l[i].K=0;by_cases b:Zh l i≠[]/\(Bv (Zh l i)).frm+(Bv (Zh l i)).len=i;exact ZfG l hl i _ c a b.1 b.2;exact ZdV l hl i _ c a b;exact Zct l hl i _ c a
def ZcV l:CP (Zm f231 0) (IF l l.length).st (.ext 0) (Tg.st ⟨tm 54 [(3,.ow 16003)],[(16003,.arr 267 2 ((Zh l l.length).map ZL.dv))],60⟩):=by exact sF [] []<|Ffb 10 (X ((l.length:Int)<(l.length:Int))) Fz
def runs(l:List Z0):List ZL:=Zh l l.length
def Z6G(l:List Z0)(hl:l.length<=1048576):GP 231 [B5 l] L (IG (runs l)) []:=by exact gF [] func231 []<|Fh 3 [.own]<|Fk (0,IF l 0,.nrm,⟨tm 54 [(3,.ow 16003)],[(16003,.arr 267 2 ((Zh l l.length).map ZL.dv))],60⟩)<|Fg 8 (by rw[Lc]:(↑(Z Z0.dv l).length:Int)=(l.length:Int))<|Fa ((Bp (S:=λi=>(IF l i).st) l.length kr (λi a=>ZbN l hl i a) (ZcV l)):CP (Zi f231 0) (IF l 0).st Ex.nrm (Tg.mk (tm 54 [(3,AV.ow 16003)]) [(16003,Z3.arr 267 2 (Z ZL.dv (Zh l l.length)))] 60).st) Fz
def IC(l:List Z0)(i:Nat):Tg:=⟨tm 54 [(0,B5 l),(3,.ow 16003),(4,nI i)],[(16003,.arr 267 2 ((Zh l i).map ZL.dv))],20⟩
def ZjR(l:List Z0)(hl:l.length<=1048576)(i:Nat) p(hp:l[i]?=La p)(hk:p.K≠0):CP (Zm f226 0) (IC l i).st .nrm (IC l (i+1)).st:=by
 have hi:i<l.length:=(Ld.1 hp).1;have e:IC l (i+1)=⟨tm 54 [(0,B5 l),(3,.ow 16003),(4,nI ((i+1:Nat):Int))],[(16003,.arr 267 2 ((Zh l i).map ZL.dv))],20⟩:=by
  have hpa:E7 l i=p:=by simp[E7,hp]
  rw[IC,Zh,Rj,hpa,if_neg hk]
 rw[e];exact sF [] []<|Fh 14 [.el p.dv]<|Fg 8 (by rw[Lc]:(↑(Z Z0.dv l).length:Int)=(l.length:Int))<|Ftb 9 (X ((i:Int)<(l.length:Int)))<|Fa ((⟨by omega,HZ hp⟩):0<=(i:Int)/\(Z Z0.dv l)[(i:Int).toNat]?=La p.dv)<|Ft 17 (by simp[hk]:(p.K != 0)=Y)<|Fx 11 i Fz
def Zm5(l:List Z0)(hl:l.length<=1048576)(i:Nat)(p:Z0)(hp:l[i]?=La p)(hk:p.K=0)(ho:Zh l i≠[])(hm:(Bv (Zh l i)).frm+(Bv (Zh l i)).len=i):CP (Zm f226 0) (IC l i).st .nrm (IC l (i+1)).st:=by
 have hi:i<l.length:=(Ld.1 hp).1;obtain⟨o1,o2⟩:=ND l i;have hlast:=o2 _ (Lj (NT ho));have hpos:0<(Zh l i).length:=Lz.2 ho;have e:Zh l (i+1)=(Zh l i).dropLast++[⟨(Bv (Zh l i)).frm,(Bv (Zh l i)).len+1⟩]:=by
  have hpa:E7 l i=p:=by simp[E7,hp]
  rw[Zh,Rj,hpa,if_pos hk,if_pos ⟨ho,hm⟩]
 have hidx:0<=((Zh l i).length:Int)-1/\(((Zh l i).length:Int)-1).toNat<(Z ZL.dv (Zh l i)).length:=by rw[Lc];omega
 have hat:(Z ZL.dv (Zh l i))[(((Zh l i).length:Int)-1).toNat]?=La (Bv (Zh l i)).dv:=by
  rw[show(((Zh l i).length:Int)-1).toNat=(Zh l i).length-1 from by omega];exact Z0Q (NT ho)
 have hset:(Z ZL.dv (Zh l i)).set (((Zh l i).length:Int)-1).toNat [Zq (Bv (Zh l i)).frm,Zq ((Bv (Zh l i)).len+1)]=Z ZL.dv (Zh l (i+1)):=by
  rw[e,<-Z4J ho,show(((Zh l i).length:Int)-1).toNat=(Zh l i).length-1 from by omega];rfl
 have hw:Lb.wrap (((Zh l i).length:Int)-1)=((Zh l i).length:Int)-1:=C5 oq oq;exact sF [] []<|Fh 14 [.el p.dv]<|Fh 28 [.el (Bv (Zh l i)).dv]<|Fh 31 [.int ((↑(Zh l i).length:Int)-1)]<|Fh 34 [.el (Bv (Zh l i)).dv]<|Fh 35 [.int ↑i]<|Fh 41 [.int ((↑(Zh l i).length:Int)-1)]<|Fh 44 [.el (Bv (Zh l i)).dv]<|Fh 45 [.int ((Bv (Zh l i)).len+1)]<|Fh 10047 [.el (Bv (Zh l i)).dv,.els ((Zh l (i+1)).map ZL.dv)]<|Fh 11 [.int (↑(i+1):Int)]<|Fg 8 (by rw[Lc]:(↑(Z Z0.dv l).length:Int)=(l.length:Int))<|Ft 9 ((decide_eq_true oq):X ((i:Int)<(l.length:Int))=Y)<|Fa ((⟨by omega,HZ hp⟩):0<=(i:Int)/\(Z Z0.dv l)[(i:Int).toNat]?=La p.dv)<|Ff 17 (by simp[hk]:(p.K != 0)=L)<|Fg 19 (by rw[Lc]:(↑(Z ZL.dv (Zh l i)).length:Int)=(↑(Zh l i).length:Int))<|Fa ((λ_=>hw):X (0<(↑(Zh l i).length:Int))=Y->Lb.wrap ((↑(Zh l i).length:Int)-1)=(↑(Zh l i).length:Int)-1)<|Fa ((λ_=>hidx):X (0<(↑(Zh l i).length:Int))=Y->0<=(↑(Zh l i).length:Int)-1/\((↑(Zh l i).length:Int)-1).toNat<(Z ZL.dv (Zh l i)).length)<|Fa ((λ_=>hat):X (0<(↑(Zh l i).length:Int))=Y->(Z ZL.dv (Zh l i))[((↑(Zh l i).length:Int)-1).toNat]?=La (Bv (Zh l i)).dv)<|Fa ((λ_=>hw):X (0<(↑(Zh l i).length:Int))=Y->Lb.wrap ((↑(Zh l i).length:Int)-1)=(↑(Zh l i).length:Int)-1)<|Fa ((λ_=>hidx):X (0<(↑(Zh l i).length:Int))=Y->0<=(↑(Zh l i).length:Int)-1/\((↑(Zh l i).length:Int)-1).toNat<(Z ZL.dv (Zh l i)).length)<|Fa ((λ_=>hat):X (0<(↑(Zh l i).length:Int))=Y->(Z ZL.dv (Zh l i))[((↑(Zh l i).length:Int)-1).toNat]?=La (Bv (Zh l i)).dv)<|Fa ((λ_=>by rw[hm];exact C5 oq oq):X (0<(↑(Zh l i).length:Int))=Y->Lb.wrap ((Bv (Zh l i)).frm+(Bv (Zh l i)).len)=(i:Int))<|Ft 38 (by simp;omega:(X (0<(↑(Zh l i).length:Int))&&(i:Int)==(i:Int))=Y)<|Fg 25 (hw:Lb.wrap ((↑(Zh l i).length:Int)-1)=(↑(Zh l i).length:Int)-1)<|Fa (hidx:0<=(↑(Zh l i).length:Int)-1/\((↑(Zh l i).length:Int)-1).toNat<(Z ZL.dv (Zh l i)).length)<|Fa (hat:(Z ZL.dv (Zh l i))[((↑(Zh l i).length:Int)-1).toNat]?=La (Bv (Zh l i)).dv)<|Fa ((C5 oq oq):Lb.wrap ((Bv (Zh l i)).len+1)=(Bv (Zh l i)).len+1)<|Fa (hidx:0<=(↑(Zh l i).length:Int)-1/\((↑(Zh l i).length:Int)-1).toNat<(Z ZL.dv (Zh l i)).length)<|Fa (hat:(Z ZL.dv (Zh l i))[((↑(Zh l i).length:Int)-1).toNat]?=La (Bv (Zh l i)).dv)<|Fa (hset:(Z ZL.dv (Zh l i)).set ((↑(Zh l i).length:Int)-1).toNat (Gn (Bv (Zh l i)).dv (0 + #[Lm "From" 3 0 L "" "" 0,Lm "Len" 3 1 L "" "" 8][1].3) [Zq ((Bv (Zh l i)).len+1)])=Z ZL.dv (Zh l (i+1)))<|Fa ((C5 oq oq):Lb.wrap ((i:Int)+1)=(↑(i+1):Int)) Fz
def Zkb(l:List Z0)(hl:l.length<=1048576)(i:Nat)(p:Z0)(hp:l[i]?=La p)(hk:p.K=0)(ho:¬ (Zh l i≠[]/\(Bv (Zh l i)).frm+(Bv (Zh l i)).len=i)):CP (Zm f226 0) (IC l i).st .nrm (IC l (i+1)).st:=by
 have hi:i<l.length:=(Ld.1 hp).1;obtain⟨o1,o2⟩:=ND l i;have e:Zh l (i+1)=Zh l i++[⟨i,1⟩]:=by
  have hpa:E7 l i=p:=by simp[E7,hp]
  rw[Zh,Rj,hpa,if_pos hk,if_neg ho]
 have hne:X (0<((Zh l i).length:Int))=Y->Zh l i≠[]:=by
  intro hd h0;rw[h0]at hd;simp at hd
 have hidx:X (0<((Zh l i).length:Int))=Y->0<=((Zh l i).length:Int)-1/\(((Zh l i).length:Int)-1).toNat<(Z ZL.dv (Zh l i)).length:=by
  intro hd;have:=of_decide_eq_true hd;rw[Lc];omega
 have hat:X (0<((Zh l i).length:Int))=Y->(Z ZL.dv (Zh l i))[(((Zh l i).length:Int)-1).toNat]?=La (Bv (Zh l i)).dv:=by
  intro hd;rw[show(((Zh l i).length:Int)-1).toNat=(Zh l i).length-1 from by omega];exact Z0Q (NT (hne hd))
 have hw:Lb.wrap (((Zh l i).length:Int)-1)=((Zh l i).length:Int)-1:=C5 oq oq;have qz0:(X ((0:Int)<(↑(Zh l i).length:Int))&&Lb.wrap ((Bv (Zh l i)).frm+(Bv (Zh l i)).len)==(i:Int))=L:=by
  cases hd:X (0<((Zh l i).length:Int))with
  |false=>simp
  |true =>
   have h1:=hne hd;have hlast:=o2 _ (Lj (NT h1));rw[C5 oq oq];simp;intro hh;exact ho ⟨h1,hh⟩
 exact sF [(192052,16003)] []<|Fh 14 [.el p.dv]<|Fh 25 [.int ((↑(Zh l i).length:Int)-1)]<|Fh 28 [.el (Bv (Zh l i)).dv]<|Fh 31 [.int ((↑(Zh l i).length:Int)-1)]<|Fh 34 [.el (Bv (Zh l i)).dv]<|Fh 52 [.els ((Zh l (i+1)).map ZL.dv)]<|Fg 8 (by rw[Lc]:(↑(Z Z0.dv l).length:Int)=(l.length:Int))<|Ftb 9 (X ((i:Int)<(l.length:Int)))<|Fa ((⟨by omega,HZ hp⟩):0<=(i:Int)/\(Z Z0.dv l)[(i:Int).toNat]?=La p.dv)<|Ff 17 (by simp[hk]:(p.K != 0)=L)<|Fg 19 (by rw[Lc]:(↑(Z ZL.dv (Zh l i)).length:Int)=(↑(Zh l i).length:Int))<|Fa ((λ_=>hw):X (0<(↑(Zh l i).length:Int))=Y->Lb.wrap ((↑(Zh l i).length:Int)-1)=(↑(Zh l i).length:Int)-1)<|Fa (hidx:X (0<(↑(Zh l i).length:Int))=Y->0<=(↑(Zh l i).length:Int)-1/\((↑(Zh l i).length:Int)-1).toNat<(Z ZL.dv (Zh l i)).length)<|Fa (hat:X (0<(↑(Zh l i).length:Int))=Y->(Z ZL.dv (Zh l i))[((↑(Zh l i).length:Int)-1).toNat]?=La (Bv (Zh l i)).dv)<|Fa ((λ_=>hw):X (0<(↑(Zh l i).length:Int))=Y->Lb.wrap ((↑(Zh l i).length:Int)-1)=(↑(Zh l i).length:Int)-1)<|Fa (hidx:X (0<(↑(Zh l i).length:Int))=Y->0<=(↑(Zh l i).length:Int)-1/\((↑(Zh l i).length:Int)-1).toNat<(Z ZL.dv (Zh l i)).length)<|Fa (hat:X (0<(↑(Zh l i).length:Int))=Y->(Z ZL.dv (Zh l i))[((↑(Zh l i).length:Int)-1).toNat]?=La (Bv (Zh l i)).dv)<|Ff 38 (qz0:(X (0<(↑(Zh l i).length:Int))&&Lb.wrap ((Bv (Zh l i)).frm+(Bv (Zh l i)).len)==(i:Int))=L)<|Fa (by rw[Lc];simp;omega:(Z ZL.dv (Zh l i)).length+((O 1 [Zq 0,Zq 0]).set 0 [Zq (i:Int),Zq 1]).length<=2^30)<|Fa (by rw[e];simp[ZL.dv]:Z ZL.dv (Zh l i)++(O 1 [Zq 0,Zq 0]).set 0 [Zq (i:Int),Zq 1]=Z ZL.dv (Zh l (i+1)))<|Fx 11 i Fz
def Zg7(l:List Z0)(hl:l.length<=1048576)(i:Nat)(d:i<l.length):CP (Zm f226 0) (IC l i).st .nrm (IC l (i+1)).st:=by have c:=Li d;by_cases a:l[i].K=0;by_cases b:Zh l i≠[]/\(Bv (Zh l i)).frm+(Bv (Zh l i)).len=i;exact Zm5 l hl i _ c a b.1 b.2;exact Zkb l hl i _ c a b;exact ZjR l hl i _ c a
def Zc1 l:CP (Zm f226 0) (IC l l.length).st (.ext 0) (Tg.st ⟨tm 54 [(3,.ow 16003)],[(16003,.arr 267 2 ((Zh l l.length).map ZL.dv))],60⟩):=by exact sF [] []<|Fg 8 (by rw[Lc]:(↑(Z Z0.dv l).length:Int)=(l.length:Int))<|Ffb 9 (X ((l.length:Int)<(l.length:Int))) Fz
def Z1T(l:List Z0)(hl:l.length<=1048576):GP 226 [B5 l] L (IG (runs l)) []:=by exact gF [] func226 []<|Fh 3 [.own]<|Fk (0,IC l 0,.nrm,⟨tm 54 [(3,.ow 16003)],[(16003,.arr 267 2 ((Zh l l.length).map ZL.dv))],60⟩)<|Fa ((Bp (S:=λi=>(IC l i).st) l.length kr (λi a=>Zg7 l hl i a) (Zc1 l)):CP (Zi f226 0) (IC l 0).st Ex.nrm (Tg.mk (tm 54 [(3,AV.ow 16003)]) [(16003,Z3.arr 267 2 (Z ZL.dv (Zh l l.length)))] 60).st) Fz
def EE(l:List Z0):Nat->Nat|0=>0|i+1=>EE l i+(if(E7 l i).K=0 then 0 else 1)
def Z0l l:∀i,EE l i<=i
 |0=>LB _
 |i+1=>by
  have:=Z0l l i;grind[EE]
def Cr(l:List Z0):Nat:=EE l l.length
def SN(l:List Z0)(i:Nat):Tg:=⟨tm 19 [(3,nI (EE l i)),(6,B5 l),(7,nI l.length),(8,nI i)],[],20⟩
def ZmY(l:List Z0)(hl:l.length<=1048576)(i:Nat)(a:i<l.length):CP (Zm f249 0) (SN l i).st .nrm (SN l (i+1)).st:=by
 have hp:=Li a;have d:=Z0l l i;have f:E7 l i=l[i]:=by grind[E7]
 by_cases hk:l[i].K=0;have e:EE l (i+1)=EE l i:=by grind[EE]
 rw[show SN l (i+1)=⟨tm 19 [(3,nI (EE l i)),(6,B5 l),(7,nI l.length),(8,nI ((i+1:Nat):Int))],[],20⟩from by rw[SN,e]];let b:=l.get (Fin.mk i a);exact sF [] []<|Fh 10 [.el b.dv]<|Ft 9 (by grind[C5]:X ((i:Int)<(l.length:Int))=Y)<|Fa (by grind[C5]:0<=(i:Int)/\(Z Z0.dv l)[(i:Int).toNat]?=La b.dv)<|Ff 14 (by grind[C5]:(b.K != 0)=L)<|Fg 17 (by grind[C5]:Lb.wrap ((i:Int)+1)=(↑(i+1):Int)) Fz;have e:EE l (i+1)=EE l i+1:=by grind[EE]
 let c:=l.get (Fin.mk i a);exact sF [] []<|Fh 10 [.el c.dv]<|Ft 9 (by grind[C5]:X ((i:Int)<(l.length:Int))=Y)<|Fa (by grind[C5]:0<=(i:Int)/\(Z Z0.dv l)[(i:Int).toNat]?=La c.dv)<|Ft 14 (by grind[C5]:(c.K != 0)=Y)<|Fg 16 (by grind[C5]:Lb.wrap ((↑(EE l i):Int)+1)=(↑(EE l (i+1)):Int))<|Fg 17 (by grind[C5]:Lb.wrap ((i:Int)+1)=(↑(i+1):Int)) Fz
def Zme l:CP (Zm f249 0) (SN l l.length).st (.ext 0) (Tg.st ⟨tm 19 [(3,nI (Cr l))],[],60⟩):=by exact sF [] []<|Ffb 9 (X ((l.length:Int)<(l.length:Int))) Fz
def ZjU(l:List Z0)(hl:l.length<=1048576):GP 249 [B5 l] Y (nI (Cr l)) []:=by exact gF [] func249 []<|Fk (0,SN l 0,.nrm,⟨tm 19 [(3,nI (Cr l))],[],60⟩)<|Fg 7 (by grind:(↑(Z Z0.dv l).length:Int)=(l.length:Int))<|Fa ((Bp (S:=λi=>(SN l i).st) l.length kr (λi a=>ZmY l hl i a) (Zme l)):CP (Zi f249 0) (SN l 0).st Ex.nrm (Tg.mk (tm 19 [(3,nI (↑(Cr l):Int))]) [] 60).st) Fz
def Su(l:List Z0)(i:Nat):Tg:=⟨tm 20 [(0,B5 l),(3,nI (EE l i)),(4,nI i)],[],20⟩
def Zi6(l:List Z0)(hl:l.length<=1048576)(i:Nat)(a:i<l.length):CP (Zm f46 0) (Su l i).st .nrm (Su l (i+1)).st:=by
 have hp:=Li a;have d:=Z0l l i;have f:E7 l i=l[i]:=by grind[E7]
 by_cases hk:l[i].K=0;have e:EE l (i+1)=EE l i:=by grind[EE]
 rw[show Su l (i+1)=⟨tm 20 [(0,B5 l),(3,nI (EE l i)),(4,nI ((i+1:Nat):Int))],[],20⟩from by rw[Su,e]];let b:=l.get (Fin.mk i a);exact sF [] []<|Fh 13 [.el b.dv]<|Fg 7 (by grind[C5]:(↑(Z Z0.dv l).length:Int)=(l.length:Int))<|Ft 8 (by grind[C5]:X ((i:Int)<(l.length:Int))=Y)<|Fa (by grind[C5]:0<=(i:Int)/\(Z Z0.dv l)[(i:Int).toNat]?=La b.dv)<|Ff 16 (by grind[C5]:(b.K != 0)=L)<|Fg 10 (by grind[C5]:Lb.wrap ((i:Int)+1)=(↑(i+1):Int)) Fz;have e:EE l (i+1)=EE l i+1:=by grind[EE]
 let c:=l.get (Fin.mk i a);exact sF [] []<|Fh 13 [.el c.dv]<|Fg 7 (by grind[C5]:(↑(Z Z0.dv l).length:Int)=(l.length:Int))<|Ft 8 (by grind[C5]:X ((i:Int)<(l.length:Int))=Y)<|Fa (by grind[C5]:0<=(i:Int)/\(Z Z0.dv l)[(i:Int).toNat]?=La c.dv)<|Ft 16 (by grind[C5]:(c.K != 0)=Y)<|Fg 18 (by grind[C5]:Lb.wrap ((↑(EE l i):Int)+1)=(↑(EE l (i+1)):Int))<|Fg 10 (by grind[C5]:Lb.wrap ((i:Int)+1)=(↑(i+1):Int)) Fz
def ZjI l:CP (Zm f46 0) (Su l l.length).st (.ext 0) (Tg.st ⟨tm 20 [(3,nI (Cr l))],[],60⟩):=by exact sF [] []<|FO 7 8 Z0.dv l Fz
def P8(l:List Z0)(hl:l.length<=1048576):GP 46 [B5 l] Y (nI (Cr l)) []:=by exact gF [] func46 []<|Fk (0,Su l 0,.nrm,⟨tm 20 [(3,nI (Cr l))],[],60⟩)<|Fa ((Bp (S:=λi=>(Su l i).st) l.length kr (λi a=>Zi6 l hl i a) (ZjI l)):CP (Zi f46 0) (Su l 0).st Ex.nrm (Tg.mk (tm 20 [(3,nI (↑(Cr l):Int))]) [] 60).st) Fz
def Ig:List ZL->Int->Int|[],_=>-1|r::l,k=>if k<=r.len then r.frm else Ig l k
def first(l:List Z0)(k:Int):Int:=if k<1 then -1 else Ig (runs l) k
def Z2B:∀{l:List ZL} {k:Int},(l.all λr=>X (r.len<k))=Y->Ig l k=-1
 |[],_,_=>rfl
 |r::l,k,h=>by
  simp only[LF,Le,decide_eq_true_eq]at h;rw[Ig,if_neg oq,Z2B h.2]
def Z1g:∀{l:List ZL} {k:Int} {j:Nat} {r:ZL},l[j]?=La r->k<=r.len->(∀i:Nat,i<j->∃y,l[i]?=La y/\X (y.len<k)=Y)->Ig l k=r.frm
 |[],_,_,_,h,_,_=>by simp at h
 |x::l,k,0,r,h,hr,_=>by
  grind[Ig]
 |x::l,k,j+1,r,h,hr,hb=>by
  obtain⟨y,a,b⟩:=hb 0 oq;simp at a b;subst a;rw[Ig,if_neg oq];exact Z1g (by simpa using h) hr λi hi=>by
   grind
def Z7r{l}:(runs l).length<=l.length:=(ND l l.length).1
def NV(a:List ZL)(k:Int)(i:Nat):Tg:=⟨tm 23 [(1,nI k),(4,nI 0),(10,IG a),(11,nI a.length),(12,nI i)],[],20⟩
def Z6L(a:List ZL)(k:Int)(i:Nat) r(hl:a.length<=1048576)(b:a[i]?=La r)(hk:r.len<k):CP (Zm f210 0) (NV a k i).st .nrm (NV a k (i+1)).st:=by have hi:i<a.length:=(Ld.1 b).1;exact sF [] []<|Fh 14 [.el r.dv]<|Ftb 13 (X ((i:Int)<(a.length:Int)))<|Fa (by grind[C5]:0<=(i:Int)/\(Z ZL.dv a)[(i:Int).toNat]?=La r.dv)<|Ffb 19 (X (k<=r.len))<|Fx 22 i Fz
def ZiP(a:List ZL)(k:Int)(i:Nat) r(b:a[i]?=La r)(hk:k<=r.len):CP (Zm f210 0) (NV a k i).st .ret (Tg.st ⟨tm 23 [(4,nI r.frm)],[],60⟩):=by have hi:i<a.length:=(Ld.1 b).1;exact sF [] []<|Fh 14 [.el r.dv]<|Ftb 13 (X ((i:Int)<(a.length:Int)))<|Fa (by grind:0<=(i:Int)/\(Z ZL.dv a)[(i:Int).toNat]?=La r.dv)<|Ftb 19 (X (k<=r.len)) Fz
def ZeG a k:CP (Zm f210 0) (NV a k a.length).st (.ext 0) (Tg.st ⟨tm 23 [],[],60⟩):=by exact sF [] []<|Ffb 13 (X ((a.length:Int)<(a.length:Int))) Fz
def Og(l:List Z0) k(hl:l.length<=1048576):GP 210 [B5 l,nI k] Y (nI (first l k)) []:=by
 by_cases b:k<1;rw[first,if_pos b];exact gF [] func210 []<|Ftb 8 (X (k<1)) Fz;rw[first,if_neg b];have h:=Z7r (l:=l);cases ha:(runs l).all λr=>X (r.len<k)with
 |true =>rw[Z2B ha];refine Zc [((8:Nat),[Hint.br L]),((10:Nat),[Hint.call L (IG (runs l)) []]),((11:Nat),[Hint.int (↑(runs l).length:Int)])] [((0:Nat),NV (runs l) k 0,.nrm,⟨tm 23 [],[],60⟩)] [] dd func210 [] (φ:=X (k<(1:Int))=L/\L=L/\GP 231 [AV.d (DV.sl (4:Nat) (Z Z0.dv l))] L (IG (runs l)) []/\(↑(Z ZL.dv (runs l)).length:Int)=(↑(runs l).length:Int)/\CP (Zi f210 (0:Nat)) (NV (runs l) k (0:Nat)).st Ex.nrm (Tg.mk (tm (23:Nat) []) [] (60:Nat)).st) ?_ kr kr;refine⟨decide_eq_false b,rfl,Z6G l hl,by grind,Bp (S:=λi=>(NV (runs l) k i).st) (runs l).length kr (λi a=>?_) (ZeG _ _)⟩;have:=LG.1 ha _ (LK a);exact Z6L _ k i _ oq (Li a) (by grind)
 |false =>
  obtain⟨j,r,c,h2,d⟩:=PH ha;have e:k<=r.len:=by grind
  rw[Z1g c e d];refine Zc [((8:Nat),[Hint.br L]),((10:Nat),[Hint.call L (IG (runs l)) []]),((11:Nat),[Hint.int (↑(runs l).length:Int)])] [((0:Nat),NV (runs l) k 0,.ret,⟨tm 23 [(4,nI r.frm)],[],60⟩)] [] dd func210 [] (φ:=X (k<(1:Int))=L/\L=L/\GP 231 [AV.d (DV.sl (4:Nat) (Z Z0.dv l))] L (IG (runs l)) []/\(↑(Z ZL.dv (runs l)).length:Int)=(↑(runs l).length:Int)/\CP (Zi f210 (0:Nat)) (NV (runs l) k (0:Nat)).st Ex.ret (Tg.mk (tm (23:Nat) [((4:Nat),nI r.frm)]) [] (60:Nat)).st) ?_ kr kr;refine⟨decide_eq_false b,rfl,Z6G l hl,by grind,EJ (S:=λi=>(NV (runs l) k i).st) j kr (λi a=>?_) (ZiP _ k j r c e)⟩;obtain⟨y,f,g⟩:=d i a;exact Z6L _ k i y oq f (by simpa using g)
def IS(a:List ZL)(k:Int)(i:Nat):Tg:=⟨tm 31 [(1,nI k),(4,nI 0),(5,IG a),(6,nI i)],[],20⟩
def Z3E(a:List ZL)(k:Int)(i:Nat) r(hl:a.length<=1048576)(b:a[i]?=La r)(hk:k<1\/r.len<k):CP (Zm f203 0) (IS a k i).st .nrm (IS a k (i+1)).st:=by have hi:i<a.length:=(Ld.1 b).1;exact sF [] []<|Fh 20 [.el r.dv]<|FM 11 12 ZL.dv a i<|Fa (by grind[C5]:X (1<=k)=Y->0<=(i:Int)/\(Z ZL.dv a)[(i:Int).toNat]?=La r.dv)<|Ffb 25 (X (1<=k)&&X (k<=r.len))<|Fx 14 i Fz
def Zc7(rs:List ZL)(k:Int)(i:Nat)(r:ZL)(hr:rs[i]?=La r)(hk1:1<=k)(hk:k<=r.len):CP (Zm f203 0) (IS rs k i).st .ret (Tg.st ⟨tm 31 [(4,nI r.frm)],[],60⟩):=by
 have hi:i<rs.length:=(Ld.1 hr).1;refine Zg [((11:Nat),[Hint.int (rs.length:Int)]),((12:Nat),[Hint.br Y]),((20:Nat),[Hint.el r.dv]),((25:Nat),[Hint.br Y]),((28:Nat),[Hint.el r.dv])] [] [] [] (φ:=(↑(Z ZL.dv rs).length:Int)=(rs.length:Int)/\X ((i:Int)<(rs.length:Int))=Y/\Y=Y/\(X ((1:Int)<=k)=Y->(0:Int)<=(i:Int)/\(Z ZL.dv rs)[(i:Int).toNat]?=La r.dv)/\(X ((1:Int)<=k)&&X (k<=r.len))=Y/\Y=Y/\(0:Int)<=(i:Int)/\(Z ZL.dv rs)[(i:Int).toNat]?=La r.dv) ?_ kr kr kr;exact⟨(by simp only[Lc]),(by(simp only[bs];omega)),rfl,(by grind),(by(simp only[bs];omega)),rfl,(by grind),(by grind)⟩
def Z5o a k:CP (Zm f203 0) (IS a k a.length).st (.ext 0) (Tg.st ⟨tm 31 [],[],60⟩):=by exact sF [] []<|FO 11 12 ZL.dv a Fz
def Mp(l:List Z0) k(hl:l.length<=1048576):GP 203 [B5 l,nI k] Y (nI (first l k)) []:=by
 have h:=Z7r (l:=l);by_cases b:k<1;rw[first,if_pos b];exact gF [] func203 []<|Fh 8 [.call L (IG (runs l)) []]<|Fk (0,IS (runs l) k 0,.nrm,⟨tm 31 [],[],60⟩)<|Fa ((Z1T l hl):GP 226 [AV.d (DV.sl 4 (Z Z0.dv l))] L (IG (runs l)) [])<|Fa ((Bp (S:=λi=>(IS (runs l) k i).st) (runs l).length kr (λi a=>Z3E _ k i _ oq (Li a) (.inl b)) (Z5o _ _)):CP (Zi f203 0) (IS (runs l) k 0).st Ex.nrm (Tg.mk (tm 31 []) [] 60).st) Fz;rw[first,if_neg b];cases ha:(runs l).all λr=>X (r.len<k)with
 |true =>rw[Z2B ha];refine Zc [((8:Nat),[Hint.call L (IG (runs l)) []])] [((0:Nat),IS (runs l) k 0,.nrm,⟨tm 31 [],[],60⟩)] [] dd func203 [] (φ:=GP 226 [AV.d (DV.sl (4:Nat) (Z Z0.dv l))] L (IG (runs l)) []/\CP (Zi f203 (0:Nat)) (IS (runs l) k (0:Nat)).st Ex.nrm (Tg.mk (tm (31:Nat) []) [] (60:Nat)).st) ?_ kr kr;refine⟨Z1T l hl,Bp (S:=λi=>(IS (runs l) k i).st) (runs l).length kr (λi a=>?_) (Z5o _ _)⟩;have:=LG.1 ha _ (LK a);exact Z3E _ k i _ oq (Li a) (.inr (by grind))
 |false =>
  obtain⟨j,r,c,h2,d⟩:=PH ha;have e:k<=r.len:=by grind
  rw[Z1g c e d];refine Zc [((8:Nat),[Hint.call L (IG (runs l)) []])] [((0:Nat),IS (runs l) k 0,.ret,⟨tm 31 [(4,nI r.frm)],[],60⟩)] [] dd func203 [] (φ:=GP 226 [AV.d (DV.sl (4:Nat) (Z Z0.dv l))] L (IG (runs l)) []/\CP (Zi f203 (0:Nat)) (IS (runs l) k (0:Nat)).st Ex.ret (Tg.mk (tm (31:Nat) [((4:Nat),nI r.frm)]) [] (60:Nat)).st) ?_ kr kr;refine⟨Z1T l hl,EJ (S:=λi=>(IS (runs l) k i).st) j kr (λi a=>?_) (Zc7 _ k j r c oq e)⟩;obtain⟨y,f,g⟩:=d i a;exact Z3E _ k i y oq f (.inr (by simpa using g))
def Z7B l:∀i,∀r∈Zh l i,∀j:Int,r.frm<=j->j<r.frm+r.len->(l.getD j.toNat M).K=0
 |0=>by simp[Zh]
 |i+1=>by
  have e:=Z7B l i;have ok:=(ND l i).2;intro r a j b c;simp only[Zh,Rj]at a;have g:E7 l i=l.getD i M:=by rw[Te];simp
  split at a
  .rename_i f;rw[g]at f;split at a
   .rename_i h;have d:=Lj (NT h.1);rcases Lt.1 a with a|a
    .exact e r (LH _ a) j b c
    .simp at a;subst a;simp only at b c;by_cases k:j=i
     .subst k;simpa using f
     .exact e _ d j b oq
   .rcases Lt.1 a with a|a
    .exact e r a j b c
    .simp at a;subst a;simp only at b c;have:j=i:=by omega
     subst this;simpa using f
  .exact e r a j b c
def Z7h:∀{l:List ZL} {k:Int},0<=Ig l k->∃r∈l,Ig l k=r.frm/\k<=r.len
 |[],_,h=>by simp[Ig]at h
 |r::l,k,h=>by
  rw[Ig]at h⊢;split
  .exact⟨r,by simp,rfl,aa⟩
  .rename_i c;rw[if_neg c]at h;obtain⟨x,d,a,b⟩:=Z7h h;exact⟨x,by simp[d],a,b⟩
def I8{l k}(h:0<=first l k):1<=k/\first l k+k<=l.length/\Ia l (first l k).toNat k.toNat=Y:=by
 unfold first at h⊢
 split at h;omega;rename_i c;rw[if_neg c];obtain⟨r,a,b,h2⟩:=Z7h h;have ok:=(ND l l.length).2 r a;rw[b]at h⊢;refine⟨by omega,by omega,Si.2 λj hj=>?_⟩;have:=Z7B l l.length r a (r.frm+j) oq oq;rwa [show(r.frm+(j:Int)).toNat=r.frm.toNat+j from by omega]at this
def Z3B l(k:Int):-1<=first l k/\first l k<=l.length:=by
 by_cases h:0<=first l k
 have:=I8 h;omega;unfold first at h⊢
 split;omega;rename_i b;rw[if_neg b]at h;have:∀m:List ZL,(∀r∈m,0<=r.frm)->-1<=Ig m k:=by
  intro m;induction m with|nil=>intro _;simp[Ig]|cons r m e =>intro a;rw[Ig];split;have:=a r pq;omega;exact e λx d=>a x (by simp[d])
 have:=this (runs l) λr c=>((ND l l.length).2 r c).1;omega
def Z6s{c l}:∀{f i:Nat} {a:Int},0<=a->Gr c l f i a=Y->l.length<=i+f->∀j,i<=j->j<l.length->∃d,0<=d/\Gp c l j d:=by
 intro f;induction f with|zero=>intro i a _ _ o j h e;omega|succ f p =>intro i a k b o j h e;rw[Gr,if_pos oq,Le]at b;have g:=of_decide_eq_true b.1;by_cases m:j=i;subst m;exact⟨a,k,g⟩;refine p ?_ b.2 oq j oq e;unfold EG;split;rename_i n;have:=g.2.2.2.2.2.2.2.2.2.1 n;omega;omega
def En{h:Heap}(g:Z9 h=Y){j:Nat}(e:j<h.P.length):0<=(h.P.getD j M).S/\(h.P.getD j M).S<=1/\0<=(h.P.getD j M).N/\(h.P.getD j M).N<=2147483647 /\
  0<=(h.P.getD j M).K/\(h.P.getD j M).K<=3/\0<=(h.P.getD j M).U/\(h.P.getD j M).U<=256/\((h.P.getD j M).K=1->(h.P.getD j M).U<=h.C.pw):=by
 have b:=Iw.1 g;have hv:=BI.1 b.1;obtain⟨d,_,a⟩:=Z6s oq b.2.2.2.2.2 oq j oq e;unfold Gp at a;have hu:(h.P.getD j M).K=2->1<=(h.P.getD j M).U/\(h.P.getD j M).U<=256:=by(intro f;have c:=(a.2.2.2.2.2.2.2.2.2.1 f).1;unfold need at c;split at c;omega;omega)
 omega
def Z9c(l:List Z0):Cr l<=l.length:=Z0l l l.length
abbrev tP(l:List Z0)(s:Int):List Z0:=ZN l (first l 1).toNat 1 (Z0.mk 1 s 0 0) (Z0.mk 0 0 0 0)
def G7(c:B7)(a:Zz):Bool:=ZU a&&X (a.K≠0)&&X (need c (Z5 a)≠-1)
def Mo(c:B7)(a:Zz)(hm:0<=a.map/\a.map<=4294967295):GP 165 [c.av,a.av] Y (bL (G7 c a)) []:=by refine Zc [((6:Nat),[Hint.call Y (bL (ZU a)) []]),((15:Nat),[Hint.call Y (nI (Z5 a)) []]),((16:Nat),[Hint.call Y (nI (need c (Z5 a))) []])] [] [] dd func165 [L,L,L,L,L,L,L,L,Y] (φ:=GP 113 [a.av] Y (bL (ZU a)) []/\((ZU a&&a.K != (0:Int))=Y->GP 70 [a.av] Y (nI (Z5 a)) [])/\((ZU a&&a.K != (0:Int))=Y->GP 47 [c.av,nI (Z5 a)] Y (nI (need c (Z5 a))) [])/\(ZU a&&a.K != (0:Int)&&need c (Z5 a) != (-1:Int))=G7 c a) ?_ kr kr;exact⟨(@NH (a) aa),(λb=>by(try simp only[bs]at b);exact@Iu (a) (by(try simp only[bs]at b);assumption)),(λb=>by(try simp only[bs]at b);exact@RI (c) (Z5 a)),(by grind[G7])⟩
def Cw(l:List Z0)(i:Nat)(n:Int):List Z0:=l.set i ⟨(l.getD i M).K,(l.getD i M).S,(l.getD i M).U+n,(l.getD i M).N⟩
def N7(h:Heap)(n:Int):Prop:=0<=h.B/\(h.P.getD h.B.toNat M).S=h.S/\(h.P.getD h.B.toNat M).U+n<=h.C.pw/\(Cr h.P:Int)<=Ea h.C
instance (h:Heap) (n:Int):Decidable (N7 h n):=by unfold N7;infer_instance
def HU(h:Heap):List Z0:=(Z6w h.P (first h.P 1) h.S).1
def Bm(h:Heap)(n:Int):Heap×Int×Bool:=
 if N7 h n then(⟨h.C,h.W,Cw h.P h.B.toNat n,h.S,h.B⟩,4096+h.B*h.C.pw+(h.P.getD h.B.toNat M).U,Y)
 else if 0<=first h.P 1/\(Cr h.P:Int)<Ea h.C then
  (⟨h.C,h.W,Cw (HU h) (first h.P 1).toNat n,h.S,first h.P 1⟩,4096+first h.P 1*h.C.pw+((HU h).getD (first h.P 1).toNat M).U,Y)
 else(B9,0,L)
def Z0x{l:List Z0}{i k:Nat}{p q}(h:i+k<=l.length):(ZN l i k p q).length=l.length:=by rw[ZN,List.length_set];exact II (by simpa using h) pq
def R5{h:Heap}(hs:h.S=0\/h.S=1)(b:0<=first h.P 1):HU h=ZN h.P (first h.P 1).toNat 1 ⟨1,h.S,0,0⟩ ⟨0,0,0,0⟩/\(HU h).length=h.P.length/\(first h.P 1)<h.P.length /\ ((HU h).getD (first h.P 1).toNat M)=⟨1,h.S,0,0⟩:=by
 obtain⟨_,h1,a⟩:=I8 b;have e:HU h=ZN h.P (first h.P 1).toNat 1 ⟨1,h.S,0,0⟩ ⟨0,0,0,0⟩:=by(rw[HU,Z6w,if_pos oq,ER,if_pos oq,if_pos a];rfl)
 have c:(HU h).length=h.P.length:=by rw[e];exact Z0x oq
 refine⟨e,c,by omega, ?_⟩;rw[e,ZN,Lo,LJ,if_pos rfl,if_pos (by rw[II qo pq];omega)];rfl
def Z8J{c:B7}(a:Zv c=Y):2<=Ea c/\Ea c<=16:=by have:=BI.1 a;rw[Ea,if_pos a,Hk oq];omega
def Ii{c:B7}{i:Int}(a:Zv c=Y)(b:0<=i)(h1:i<c.pg):0<=i*c.pw/\i*c.pw+c.pw<=4096:=by have hb:=BI.1 a;have ha:=Ij a;have h2:0<=i*c.pw:=Int.mul_nonneg b oq;have d:(i+1)*c.pw<=c.pg*c.pw:=Int.mul_le_mul_of_nonneg_right oq oq;rw[Int.add_mul,LD,Ln c.pg]at d;omega
def Z0T(h:Heap)(n:Int)(m:Z9 h=Y)(hn:1<=n/\n<=256):GP 166 [h.av,nI n] L (.tu [(Bm h n).1.av,uU (Bm h n).2.1,bL (Bm h n).2.2]) []:=by
 have x:=B6 m;obtain⟨o,o2,o3,o4,o5,o6,o7,o8,w⟩:=x;have hb:=(Iw.1 m).2.2.2.2.1;have v:=λr=>En m (j:=h.B.toNat) r;have hr:=Z3B h.P 1;have e:=λb=>R5 (h:=h) w b;have q:=Z9c h.P;have s:=Z8J o;have t:0<=h.B->0<=h.B*h.C.pw/\h.B*h.C.pw+h.C.pw<=4096:=λk=>Ii o k oq;have u:0<=first h.P 1->0<=first h.P 1*h.C.pw/\first h.P 1*h.C.pw+h.C.pw<=4096:=λk=>Ii o k (by have:=e k;omega)
 by_cases b:N7 h n;have d:Bm h n=(⟨h.C,h.W,Cw h.P h.B.toNat n,h.S,h.B⟩,4096+h.B*h.C.pw+(h.P.getD h.B.toNat M).U,Y):=by rw[Bm,if_pos b]
 unfold N7 at b;rw[show Bm h n=(Heap.mk h.C h.W (h.P.set h.B.toNat (Z0.mk (h.P.getD h.B.toNat M).K (h.P.getD h.B.toNat M).S ((h.P.getD h.B.toNat M).U+n) (h.P.getD h.B.toNat M).N)) h.S h.B,(4096:Int)+h.B*h.C.pw+(h.P.getD h.B.toNat M).U,Y)from by rw[d];rfl];let a:=h.P.getD h.B.toNat M;exact gF [] func166 []<|FA 11 14 Z0.dv h.P<|Fc 18 (@Tl h.C)<|Fc 21 (@P8 h.P oq)<|FmGq 32 (!decide (h.B<0)) Z0.dv h.P h.B<|FmGq 43 (!(X (h.B<0)||a.S != h.S)) Z0.dv h.P h.B<|FiG 45 (!(X (h.B<0)||a.S != h.S)) (a.U+n)<|Ffb 55 (X (h.B<0)||a.S != h.S||X (h.C.pw<a.U+n)||X (Ea h.C<(↑(Cr h.P):Int)))<|Fi 83 (h.B*h.C.pw)<|Fi 84 (4096+h.B*h.C.pw)<|Fmq 90 Z0.dv h.P h.B<|Fi 91 (4096+h.B*h.C.pw+a.U)<|Fv 92 (4096+h.B*h.C.pw+a.U)<|Fmq 101 Z0.dv h.P h.B<|Fi 103 (a.U+n)<|Fm0q Z0.dv h.P h.B<|FS 10105 Z0.dv h.P h.B.toNat (Z0.mk a.K a.S (a.U+n) a.N) (a.dv) Fz;by_cases l:0<=first h.P 1/\(Cr h.P:Int)<Ea h.C
 have d:Bm h n=(⟨h.C,h.W,Cw (HU h) (first h.P 1).toNat n,h.S,first h.P 1⟩,4096+first h.P 1*h.C.pw+((HU h).getD (first h.P 1).toNat M).U,Y):=by rw[Bm,if_neg b,if_pos l]
 obtain⟨y,z,q3,p⟩:=e l.1;obtain⟨r1,r2,r3⟩:=I8 l.1;have r4:Ia h.P (first h.P 1).toNat 1=Y:=r3;rw[y]at d z p;have q6:=congrArg Z0.U p;simp only at q6;unfold N7 at b;rw[show Bm h n=(Heap.mk h.C h.W ((ZN h.P (first h.P (1:Int)).toNat (1:Nat) (Z0.mk (1:Int) h.S (0:Int) (0:Int)) (Z0.mk (0:Int) (0:Int) (0:Int) (0:Int))).set (first h.P (1:Int)).toNat (Z0.mk ((ZN h.P (first h.P (1:Int)).toNat (1:Nat) (Z0.mk (1:Int) h.S (0:Int) (0:Int)) (Z0.mk (0:Int) (0:Int) (0:Int) (0:Int))).getD (first h.P (1:Int)).toNat M).K ((ZN h.P (first h.P (1:Int)).toNat (1:Nat) (Z0.mk (1:Int) h.S (0:Int) (0:Int)) (Z0.mk (0:Int) (0:Int) (0:Int) (0:Int))).getD (first h.P (1:Int)).toNat M).S (((ZN h.P (first h.P (1:Int)).toNat (1:Nat) (Z0.mk (1:Int) h.S (0:Int) (0:Int)) (Z0.mk (0:Int) (0:Int) (0:Int) (0:Int))).getD (first h.P (1:Int)).toNat M).U+n) ((ZN h.P (first h.P (1:Int)).toNat (1:Nat) (Z0.mk (1:Int) h.S (0:Int) (0:Int)) (Z0.mk (0:Int) (0:Int) (0:Int) (0:Int))).getD (first h.P (1:Int)).toNat M).N)) h.S (first h.P (1:Int)),(4096:Int)+first h.P (1:Int)*h.C.pw+((ZN h.P (first h.P (1:Int)).toNat (1:Nat) (Z0.mk (1:Int) h.S (0:Int) (0:Int)) (Z0.mk (0:Int) (0:Int) (0:Int) (0:Int))).getD (first h.P (1:Int)).toNat M).U,Y)from by rw[d];rfl];let f:=ZN h.P (first h.P 1).toNat 1 (Z0.mk 1 h.S 0 0) (Z0.mk 0 0 0 0);let c:=f.getD (first h.P 1).toNat M;let g:=h.P.getD h.B.toNat M;exact gF [] func166 []<|FA 11 14 Z0.dv h.P<|Fc 18 (@Tl h.C)<|Fc 21 (@P8 h.P oq)<|FmGq 32 (!decide (h.B<0)) Z0.dv h.P h.B<|FmGq 43 (!(X (h.B<0)||g.S != h.S)) Z0.dv h.P h.B<|FiG 45 (!(X (h.B<0)||g.S != h.S)) (g.U+n)<|Ftb 55 (X (h.B<0)||g.S != h.S||X (h.C.pw<g.U+n)||X (Ea h.C<(↑(Cr h.P):Int)))<|Fc 58 (@Mp h.P (1) oq)<|Ffb 65 (X (first h.P (1:Int)<0)||X (Ea h.C<=(↑(Cr h.P):Int)))<|Fc 73 (@Z4A h.P (first h.P 1) h.S oq oq oq aa)<|Fi 83 (first h.P 1*h.C.pw)<|Fi 84 (4096+first h.P 1*h.C.pw)<|Fmq 90 Z0.dv f (first h.P 1)<|Fi 91 (4096+first h.P 1*h.C.pw+c.U)<|Fv 92 (4096+first h.P 1*h.C.pw+c.U)<|Fmq 101 Z0.dv f (first h.P 1)<|Fi 103 (c.U+n)<|Fm0q Z0.dv f (first h.P 1)<|FS 10105 Z0.dv f ((first h.P 1).toNat) (Z0.mk c.K c.S (c.U+n) c.N) (c.dv) Fz;have d:Bm h n=(B9,0,L):=by rw[Bm,if_neg b,if_neg l]
 unfold N7 at b;rw[d];let i:=h.P.getD h.B.toNat M;exact gF [] func166 []<|FAx 11 14 Z0.dv h.P (by(simp[B9, *];omega))<|Fc 18 (@Tl h.C)<|Fc 21 (@P8 h.P oq)<|FmGq 32 (!decide (h.B<0)) Z0.dv h.P h.B<|FmGq 43 (!(X (h.B<0)||i.S != h.S)) Z0.dv h.P h.B<|FiG 45 (!(X (h.B<0)||i.S != h.S)) (i.U+n)<|Ftb 55 (X (h.B<0)||i.S != h.S||X (h.C.pw<i.U+n)||X (Ea h.C<(↑(Cr h.P):Int)))<|Fc 58 (@Mp h.P (1) oq)<|Ftb 65 (X (first h.P (1:Int)<0)||X (Ea h.C<=(↑(Cr h.P):Int)))<|Fnl (Fnl Fz)
end Go.Proofs.YtgedmeaemofdkaaGreat
