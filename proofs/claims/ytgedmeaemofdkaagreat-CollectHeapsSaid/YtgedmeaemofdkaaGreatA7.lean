/-
 The statement CollectHeaps: part 7.
 Conditions: none.
-/
import Derived.Laws.Bits64b
import Derived.WalkSmall
import Derived.Test.YtgedmeaemofdkaaGreatA6
set_option maxRecDepth 100000
set_option maxHeartbeats 2000000
set_option linter.all false
open Decidable renaming decide->X
open Bool renaming true->Y,false->M,and_eq_true->Lf,eq_false_iff->Ll,or_eq_true->Lo,eq_false_or_eq_true->Lu,eq_iff_iff->Lv,true_and->Lw
open List renaming map->Z,replicate->La,length_map->Lb,getElem?_eq_some_iff->Ld,getElem?_eq_getElem->Le,drop->Lh,mem_of_getElem?->Lj,take->Lk,map_set->Ln,getD->Lq,getD_eq_getElem?_getD->Lr,length_drop->Ls,mem_append->Lt,length_pos_iff->Lz,range->LA,all_cons->LD,all_eq_true->LF,dropLast_subset->LG,getElem?_range->LH,getElem_mem->LI,map_append->LJ,map_drop->LK,map_take->LL,mem_range->LM,take_succ_cons->LN
open Inhabited renaming default->L
open Option renaming some->O
open Go.IntKind renaming i64->Lc,u64->Lg,u32->Ly
open Int renaming toNat->Li,mul_comm->Lp,ediv_nonneg->Lx,ediv_lt_of_lt_mul->LC
open Go.Field renaming mk->Lm
open Nat renaming le_refl->LB,le_of_lt->LO,min_eq_left->LQ
open Go.Proofs.Tryz
namespace Go.Proofs.YtgedmeaemofdkaaGreat
open Go.Sx
def ones(n:Int):Int:=2^(min n.toNat 64)-1
structure ZB where
 K:Int
 length:Int
 map:Int
 deriving DecidableEq,Inhabited
def u32(n:Int):AV:=.d (.sc (.int .u32 n))
def ZB.av(h:ZB):AV:=.ag [nI h.K,nI h.length,u32 h.map]
def or_one(k:Nat)(h:k<64):bits .or .u64 (Lg.wrap ((2^k-1)*2^min (Li 1) 64)) 1=2^(k+1)-1:=by have:k∈LA 64:=LM.2 h;revert k;decide+kernel
def SE(m:Nat)(i:Nat):Tg:=⟨tm 14 [(2,uU 0),(3,uU (2^i-1)),(6,nI m),(7,nI i)],[],20⟩
def ZdK(m i:Nat)(hm:m<=64)(hi:i<m):CP (Zl f170 0) (SE m i).st .nrm (SE m (i+1)).st:=by have a:=or_one i oq;exact sF [] [M,Y]<|Ftb 8 (X ((i:Int)<(m:Int)))<|Fo ((0:Int)<=1)<|Fg 12 (CR oq oq:Lc.wrap ((i:Int)+1)=(↑(i+1):Int))<|Fa (a:bits BinOp.or Lg (Lg.wrap ((2^i-1)*2^min (Li 1) 64)) (1:Int)=2^(i+1)-1) Fz
def ZcS m:CP (Zl f170 0) (SE m m).st (.ext 0) (Tg.st ⟨tm 14 [(3,uU (2^m-1))],[],60⟩):=by exact sF [] []<|Ffb 8 (X ((m:Int)<(m:Int))) Fz
def Zdd(m:Nat)(b:m<=64)  := Bp (S:=λi=>(SE m i).st) m (by kernel_rfl) (λi a=>ZdK m i b a) (ZcS m)
def Rm n:GP 170 [nI n] Y (uU (ones n)) []:=by
 have ei:min (max n 0) 64=((min n.toNat 64:Nat):Int):=by omega
 exact gF [] func170 []<|Fgo 5 (if 0 > n then 0 else n) (max n 0)<|Fgo 6 (if 64<max n 0 then 64 else max n 0) (↑(min n.toNat 64):Int)<|Fu (@Zdd (min n.toNat 64) oq) Fz
def ZV(h:ZB):Bool:=X (0<=h.K/\h.K<=3/\0<=h.length/\h.length<=255/\(if h.K=1 then h.length<=32/\h.map<2^h.length.toNat else h.map=0))
def Z5(h:ZB):Int:=if ZV h=Y then h.length+1 else 0
def CQ:ZB:=⟨0,0,0⟩
def Zu(h:ZB):Int×Int:=if ZV h=Y then(1+4*h.K+16*h.length+65536*h.map,0)else(0,1)
def EI(w:Int):ZB:=⟨w/4%4,w/16%4096,w/65536%4294967296⟩
def Z6(w:Int):ZB×Bool:=if(Zu (EI w)).2=0/\(Zu (EI w)).1=w then(EI w,Y)else(CQ,M)
def Bt(h:ZB)(i:Int):Bool:=ZV h&&X (0<=i)&&X (i<h.length)&&(h.K==2||(h.K==1&&(h.map/2^i.toNat%2==1)))
def Gq{h:ZB}:ZV h=Y↔0<=h.K/\h.K<=3/\0<=h.length/\h.length<=255/\(if h.K=1 then h.length<=32/\h.map<2^h.length.toNat else h.map=0):=by simp[ZV]
def Z4J{n:Int}(h1:n<=32):(1:Int)<=2^n.toNat/\(2:Int)^n.toNat<=4294967296:=by
 have:n.toNat<=32:=by omega
 generalize n.toNat=k at this;have hk:k∈LA 33:=LM.2 oq;revert k;decide+kernel
def ZaZ{n:Int}(a:n<=32):Lg.wrap (1*2^min n.toNat 64)=2^n.toNat:=by have:=Z4J a;rw[LQ oq,Int.one_mul];exact TS oq oq
def ZbT{h:ZB}(b:ZV h=Y)(hm:0<=h.map)(a:h.map<=4294967295):0<=h.K/\h.K<=3/\0<=h.length/\h.length<=255/\0<=h.map/\h.map<=4294967295:=by have:=Gq.1 b;omega
def Nk(h:ZB)(hm:0<=h.map/\h.map<=4294967295):GP 113 [h.av] Y (bL (ZV h)) []:=by have hs:h.length<=32->Lg.wrap (1*2^min h.length.toNat 64)=2^h.length.toNat:=ZaZ;rcases bb (X (h.K<0)||X (3<h.K)||X (h.length<0)||X (255<h.length))with hc0|hc0<;>have a:=hc0<;>simp only[bs]at a;exact gF [] func113 (fO 9)<|Ft 20 hc0<|Fa (by(simp[ZV, *];omega):M=ZV h) Fz;obtain⟨⟨⟨b,c⟩,e⟩,f⟩:=a;rcases bb (h.K != 1)with hc1|hc1<;>have d:=hc1<;>simp only[bs]at d;exact gF [] func113 (fO 9)<|Ff 20 hc0<|Ft 23 hc1<|Fa (by grind[ZV]:(h.map==0)=ZV h) Fz;exact gF [] func113 (fO 17)<|Ff 20 hc0<|Ff 23 hc1<|FvG 33 (X (h.length<=32)) h.map<|FvG 36 (X (h.length<=32)) h.length<|Fa (by intro g;(try simp only[bs]at g);omega:X (h.length<=32)=Y->0<=h.length)<|Fa (by grind[ZV]:(X (h.length<=32)&&X (h.map<Lg.wrap ((1:Int)*2^min h.length.toNat 64)))=ZV h) Fz
def Ia(h:ZB)(hm:0<=h.map/\h.map<=4294967295):GP 70 [h.av] Y (nI (Z5 h)) []:=by rcases bb (!ZV h)with hc0|hc0<;>have a:=hc0<;>simp only[bs]at a;exact gF [] func70 [Y]<|Fc 4 (@Nk h aa)<|Ft 5 hc0<|Fa (by simp[Z5, *]:0=Z5 h) Fz;have e:=Gq.1 a;obtain⟨g,⟨f,⟨d,⟨b,c⟩⟩⟩⟩:=e;exact gF [] func70 [Y]<|Fc 4 (@Nk h aa)<|Ff 5 hc0<|Fi 8 (h.length+1)<|Fa (by simp[Z5, *]:h.length+1=Z5 h) Fz
def D4(h:ZB)(hm:0<=h.map/\h.map<=4294967295):GP 143 [h.av] Y (.tu [uU (Zu h).1,nI (Zu h).2]) []:=by rcases bb (!ZV h)with hc0|hc0<;>have a:=hc0<;>simp only[bs]at a;rw[show Zu h=((0:Int),(1:Int))from by simp[Zu, *]];exact gF [] func143 []<|Fc 5 (@Nk h aa)<|Ft 6 hc0 Fz;have e:=Gq.1 a;obtain⟨g,⟨f,⟨d,⟨b,c⟩⟩⟩⟩:=e;rw[show Zu h=((1:Int)+(4:Int)*h.K+(16:Int)*h.length+h.map*(65536:Int),(0:Int))from by(simp[Zu, *];omega)];exact gF [] func143 []<|Fc 5 (@Nk h aa)<|Ff 6 hc0<|Fv 9 h.K<|Fv 10 (4*h.K)<|Fv 11 ((1:Int)+4*h.K)<|Fv 14 h.length<|Fv 15 (16*h.length)<|Fv 16 ((1:Int)+4*h.K+16*h.length)<|Fv 19 h.map<|Fg 20 (Bs rfl oq oq:Lg.wrap (h.map*2^min (Li 16) 64)=h.map*65536)<|Fo ((0:Int)<=16)<|Fv 21 ((1:Int)+4*h.K+16*h.length+h.map*65536) Fz
def Z21(w:Int)(h0:0<=w):0<=(EI w).map/\(EI w).map<=4294967295:=by simp only[EI];omega
def A6(w:Int)(h0:0<=w)(h1:w<=18446744073709551615):GP 148 [uU w] Y (.tu [(Z6 w).1.av,bL (Z6 w).2]) []:=by have hm:=Z21 w h0;have Q0 {h_ c_ p_} (r_:Fq h_ c_ p_):=Fg 8 (Hs rfl dd:w.fdiv (2^min (Li 2) 64)=w/4)<|Fo ((0:Int)<=2)<|Fg 9 (R0 2 dd dd oq oq:bits BinOp.and Lg (w/4) 3=w/4%4)<|Fi 10 (w/4%4)<|Fg 12 (Hs rfl dd:w.fdiv (2^min (Li 4) 64)=w/16)<|Fo ((0:Int)<=4)<|Fg 13 (R0 12 dd dd oq oq:bits BinOp.and Lg (w/16) 4095=w/16%4096)<|Fi 14 (w/16%4096)<|Fg 16 (Hs rfl dd:w.fdiv (2^min (Li 16) 64)=w/65536)<|Fo ((0:Int)<=16)<|Fg 17 (rfl:Ly.wrap (w/65536)=w/65536%4294967296)<|Fc 21 (@D4 (ZB.mk (w/4%4) (w/16%4096) (w/65536%4294967296)) aa) r_;rcases bb ((Zu (ZB.mk (w/4%4) (w/16%4096) (w/65536%4294967296))).2 != 0||(Zu (ZB.mk (w/4%4) (w/16%4096) (w/65536%4294967296))).1 != w)with hc0|hc0<;>have hc0p:=hc0<;>simp only[bs]at hc0p;rw[show Z6 w=(ZB.mk (0:Int) (0:Int) (0:Int),M)from by grind[Z6,EI,CQ]];exact gF [] func148 [] (Q0 (Ft 30 hc0 Fz));obtain⟨hc0pa,hc0pb⟩:=hc0p;rw[show Z6 w=(ZB.mk (w/(4:Int)%(4:Int)) (w/(16:Int)%(4096:Int)) (w/(65536:Int)%(4294967296:Int)),Y)from by simp[Z6,EI,CQ, *]];exact gF [] func148 [] (Q0 (Ff 30 hc0 Fz))
def Z54(h:ZB)(i:Int)(f:0<=h.map/\h.map<=4294967295)(b:ZV h=Y)(d:0<=i)(e:i<h.length) :(h.K==2||h.K==1&&bits BinOp.and Ly (h.map.fdiv (2^min i.toNat 32)) 1==1)=Bt h i:=by
 have c:=Gq.1 b;by_cases a:h.K=1;have hl:h.length<=32:=by simp[a]at c;omega
 have g:(0:Int)<=2^i.toNat:=Int.pow_nonneg dd;rw[LQ oq,Int.fdiv_eq_ediv_of_nonneg _ g];have j:0<=h.map/2^i.toNat:=Lx f.1 g;have h3:h.map/2^i.toNat<=h.map:=Int.ediv_le_self _ f.1;have:=ZgW 1 dd (x:=h.map/2^i.toNat) (m:=1) dd j oq;rw[this];simp[Bt,b,d,e,a];have:(h.K==1)=M:=by simp[a]
 simp[Bt,b,d,e,this]
def RN(h:ZB) i(n:0<=h.map/\h.map<=4294967295):GP 57 [h.av,nI i] Y (bL (Bt h i)) []:=by rcases bb (!ZV h||X (i<0)||X (h.length<=i))with hc0|hc0<;>have b:=hc0<;>simp only[bs]at b;exact gF [] func57 (fO 6)<|Fc 6 (@Nk h aa)<|Ft 17 hc0<|Fa (by grind[Bt]:M=Bt h i) Fz;obtain⟨⟨a,e⟩,g⟩:=b;have j:=Gq.1 a;obtain⟨l,⟨k,⟨f,⟨c,d⟩⟩⟩⟩:=j;exact gF [] func57 (fO 18)<|Fc 6 (@Nk h aa)<|Ff 17 hc0<|FvG 29 (!h.K==2&&h.K==1) i<|Fa (by intro m;(try simp only[bs]at m);omega:(!h.K==2&&h.K==1)=Y->0<=i)<|Fa (Z54 h i n aa oq oq:(h.K==2||h.K==1&&bits BinOp.and Ly (h.map.fdiv (2^min i.toNat 32)) (1:Int)==1)=Bt h i) Fz
def C6{α:Type}(ws:List α)(i:Nat)(l:List α):List α:=ws.take i++l++ws.drop (i+l.length)
def Zw(ws:List Int)(a n:Int):Int×Bool:=if 4096<=a/\a<=4096+ws.length then(a-4096,X (n<=ws.length-(a-4096)))else(0,M)
def C7(ws:List Int)(a:Int):Int×Int:=if 4096<=a/\a<4096+ws.length then(a-4096,0)else(0,2)
def Z1(ws:List Int)(a:Int):Int×Int:=if 4096<=a/\a<4096+ws.length then(ws.getD (a-4096).toNat 0,0)else(0,2)
def BU(ws:List Int)(a n:Int):List Int×Int:=if n<0 then([],1)else if 4096<=a/\a-4096+n<=ws.length then((ws.drop (a-4096).toNat).take n.toNat,0)else([],2)
def ZU(ws:List Int)(a:Int)(l:List Int):List Int×Int:=if 4096<=a/\a-4096+l.length<=ws.length then(C6 ws (a-4096).toNat l,0)else([],2)
def BY(ws:List Int)(a v:Int):List Int×Int:=ZU ws a [v]
def moveA(ws:List Int)(a b n:Int):List Int×Int:=if(BU ws b n).2≠0 then([],(BU ws b n).2)else ZU ws a (BU ws b n).1
def Z8c ws a n:(BU ws a n).1.length<=ws.length:=by unfold BU;split;simp;split;simp;omega;simp
def Z7r{ws a n}(h:(Zw ws a n).2=Y):(Zw ws a n).1=a-4096/\4096<=a/\a<=4096+ws.length/\a-4096+n<=ws.length:=by unfold Zw at h⊢;split at h;rename_i b;rw[if_pos b];simp at h;simp;omega;simp at h
def Z6r{ws a n}(h:(Zw ws a n).2=M):¬ (4096<=a/\a<=4096+ws.length/\a-4096+n<=ws.length):=by unfold Zw at h;split at h;simp at h;omega;omega
def Z4r{ws a}(h:(C7 ws a).2=0):(C7 ws a).1=a-4096/\4096<=a/\a<4096+ws.length:=by unfold C7 at h⊢;split at h;rename_i b;rw[if_pos b];exact⟨rfl,b⟩;simp at h
def Z8g{ws a}(h:¬ (C7 ws a).2=0):¬ (4096<=a/\a<4096+ws.length)/\(C7 ws a).2=2:=by unfold C7 at h⊢;split at h;simp at h;rename_i b;rw[if_neg b];exact⟨b,rfl⟩
def DN(ws:List Int)(a n:Int)(hw:ws.length<=1048576)(h0:0<=a/\a<=18446744073709551615):GP 164 [Z2 ws,uU a,nI n] Y (.tu [nI (Zw ws a n).1,bL (Zw ws a n).2]) []:=by have e {h_ c_ p_} (f:Fq h_ c_ p_):=FlG 14 (!decide (a<4096)) wD ws<|FvG 15 (!decide (a<4096)) (↑ws.length)<|FvG 16 (!decide (a<4096)) (4096+(ws.length:Int)) f;rcases bb (X (a<4096)||X (4096+(ws.length:Int)<a))with hc0|hc0<;>have b:=hc0<;>simp only[bs]at b;rw[show Zw ws a n=((0:Int),M)from by(simp[Zw, *];omega)];exact gF [] func164 [] (e (Ft 18 hc0 Fz));obtain⟨c,d⟩:=b;rw[show Zw ws a n=(a-(4096:Int),X (n<=(ws.length:Int)-(a-(4096:Int))))from by simp[Zw, *]];exact gF [] func164 [] (e (Ff 18 hc0<|Fv 20 (a-4096)<|Fi 21 (a-4096)<|Fl 25 wD ws<|Fi 27 ((ws.length:Int)-(a-4096)) Fz))
def Z7L(ws:List Int)(a:Int)(hw:ws.length<=1048576)(h0:0<=a/\a<=18446744073709551615):GP 190 [Z2 ws,uU a] Y (.tu [nI (C7 ws a).1,nI (C7 ws a).2]) []:=by have c {h_ c_ p_} (d:Fq h_ c_ p_):=Fc 11 (@DN ws a (1) aa aa) d;rcases bb (!(Zw ws a 1).2)with hc0|hc0<;>have b:=hc0<;>simp only[bs]at b;rw[show C7 ws a=((0:Int),(2:Int))from by grind[Zw,C7]];exact gF [] func190 [] (c (Ft 15 hc0 Fz));rw[show C7 ws a=((Zw ws a (1:Int)).1,(0:Int))from by grind[Zw,C7]];exact gF [] func190 [] (c (Ff 15 hc0 Fz))
def Hx(ws:List Int)(a:Int)(hw:ws.length<=1048576)(h0:0<=a/\a<=18446744073709551615):GP 139 [Z2 ws,uU a] Y (.tu [uU (Z1 ws a).1,nI (Z1 ws a).2]) []:=by rcases bb ((C7 ws a).2 != 0)with hc0|hc0<;>have b:=hc0<;>simp only[bs]at b;have c:=Z8g b;obtain⟨g,h⟩:=c;rw[show Z1 ws a=((0:Int),(C7 ws a).2)from by simp[Z1, *]];exact gF [] func139 []<|Fc 11 (@Z7L ws a aa aa)<|Ft 15 hc0 Fz;have d:=Z4r b;obtain⟨i,⟨e,f⟩⟩:=d;rw[show Z1 ws a=(ws.getD (C7 ws a).1.toNat L,(0:Int))from by simp[Z1, *]];refine Zb [((11:Nat),[Hint.call Y (AV.tu [nI (C7 ws a).1,nI (C7 ws a).2]) []]),((15:Nat),[Hint.br M]),((19:Nat),[Hint.el (wD (ws.getD (C7 ws a).1.toNat L))])] [] [] dd func139 [] (φ:=GP 190 [Z2 ws,uU a] Y (AV.tu [nI (C7 ws a).1,nI (C7 ws a).2]) []/\((C7 ws a).2 != (0:Int))=M/\M=M/\(0:Int)<=(C7 ws a).1/\(Z wD ws)[(C7 ws a).1.toNat]?=O (wD (ws.getD (C7 ws a).1.toNat L))) ?_ kr kr;exact⟨(@Z7L (ws) (a) aa aa),aa,rfl,(by exact Zm oq oq oq)⟩
def Z2s(ws:List Int)(a n:Int)(hw:ws.length<=1048576)(h0:0<=a/\a<=18446744073709551615):GP 112 [Z2 ws,uU a,nI n] Y (.tu [Z2 (BU ws a n).1,nI (BU ws a n).2]) []:=by rcases bb (X (n<0))with hc0|hc0<;>have hc0p:=hc0<;>simp only[bs]at hc0p;exact gF [] func112 [Y]<|Ft 11 hc0<|Fnl (Fa (by simp[BU, *]:[]=Z wD (BU ws a n).1)<|Fa (by simp[BU, *]:1=(BU ws a n).2) Fz);have Q0 {h_ c_ p_} (r_:Fq h_ c_ p_):=Ff 11 hc0<|Fc 16 (@DN ws a n aa aa) r_;rcases bb (!(Zw ws a n).2)with hc9|hc9<;>have hc9p:=hc9<;>simp only[bs]at hc9p;have hf12:=Z6r hc9p;exact gF [] func112 [Y] (Q0 (Ft 20 hc9<|Fnl (Fa (by(simp only[BU] ;exact sj):[]=Z wD (BU ws a n).1)<|Fa (by(simp only[BU] ;exact sj):2=(BU ws a n).2) Fz)));have hf14:=Z7r hc9p;obtain⟨hf14a,⟨hf14ba,⟨hf14bba,hf14bbb⟩⟩⟩:=hf14;rw[show BU ws a n=(Lk (((Zw ws a n).1+n).toNat-(Zw ws a n).1.toNat) (Lh (Zw ws a n).1.toNat ws),(0:Int))from by(simp[BU, *];omega)];exact gF [] func112 []<|Fh 28 [.els (Z wD (Lk (((Zw ws a n).1+n).toNat-(Zw ws a n).1.toNat) (Lh (Zw ws a n).1.toNat ws)))] (Q0 (Ff 20 hc9<|Fs 21 (Z wD [])<|Fi 26 ((Zw ws a n).1+n)<|Fa (by(simp only[Lb];omega):0<=(Zw ws a n).1/\(Zw ws a n).1<=(Zw ws a n).1+n/\(Zw ws a n).1+n<=(↑(Z wD ws).length:Int))<|Fa (by simp[BU,LL,LK,Ln,LJ,wD,iD]:Lk (((Zw ws a n).1+n).toNat-(Zw ws a n).1.toNat) (Lh (Zw ws a n).1.toNat (Z wD ws))=Z wD (Lk (((Zw ws a n).1+n).toNat-(Zw ws a n).1.toNat) (Lh (Zw ws a n).1.toNat ws)))<|Fa (by(simp[BU, *];omega):(Z wD []).length+(Z wD (Lk (((Zw ws a n).1+n).toNat-(Zw ws a n).1.toNat) (Lh (Zw ws a n).1.toNat ws))).length<=2^30)<|Fs 27 (Z wD (Lk (((Zw ws a n).1+n).toNat-(Zw ws a n).1.toNat) (Lh (Zw ws a n).1.toNat ws)))<|Fa (H7 _:Cd (Z wD (Lk (((Zw ws a n).1+n).toNat-(Zw ws a n).1.toNat) (Lh (Zw ws a n).1.toNat ws)))) Fz))
def wr{α:Type}(ws l:List α)(i k:Nat):List α:=ws.take i++l.take k++ws.drop (i+k)
def Tu{α:Type}(ws l:List α)(i:Nat):wr ws l i 0=ws:=by simp[wr]
def Mi{α:Type}(ws l:List α)(i:Nat):wr ws l i l.length=C6 ws i l:=by simp[wr,C6]
def N9{α:Type}{ws l:List α}{i k:Nat}(h:i+l.length<=ws.length)(hk:k<=l.length):(wr ws l i k).length=ws.length:=by simp[wr];omega
def Nf{α:Type}{ws l:List α}{i:Nat}(h:i+l.length<=ws.length):(C6 ws i l).length=ws.length:=by
 rw[<-Mi];exact N9 h (LB _)
def DL{α:Type}{ws l:List α}{i k:Nat}(h:i+l.length<=ws.length)(hk:k<=l.length)(j:Nat):(wr ws l i k)[j]?=if j<i then ws[j]? else if j<i+k then l[j-i]? else ws[j]?:=by
 have e:(l.take k).length=k:=by simp;omega
 have:=Sn (l:=ws) (xs:=l.take k) (o:=i) oq j;rw[e]at this;rw[wr,this];split
 .rfl
 .split
  .rw[List.getElem?_take_of_lt oq]
  .rfl
def Og{α:Type}{ws l:List α}{i k:Nat}(h:i+l.length<=ws.length)(e:k<l.length)(d:α):(wr ws l i k).set (i+k) (l.getD k d)=wr ws l i (k+1):=by apply List.ext_getElem?;intro j;have f:=N9 h (LO e);rw[List.getElem?_set,DL h oq,DL h oq,f];by_cases c:i+k=j;subst c;rw[if_pos rfl,if_pos oq,if_neg oq,if_pos oq];simp[Lq,e];rw[if_neg c];by_cases a:j<i;rw[if_pos a,if_pos a];rw[if_neg a,if_neg a];by_cases b:j<i+k;rw[if_pos b,if_pos oq];rw[if_neg b,if_neg oq]
def MJ(ws l:List Int)(i:Int)(k:Nat):Tg:=⟨tm 41 [(2,Z2 l),(8,nI i),(10,.ow 32024),(11,nI k)],[(32024,.arr 35 1 ((wr ws l i.toNat k).map wD))],60⟩
def Zew(ws l:List Int)(i:Int)(k:Nat)(hw:ws.length<=1048576)(hi:0<=i)(h:i.toNat+l.length<=ws.length)(a:k<l.length):CP (Zl f144 0) (MJ ws l i k).st .nrm (MJ ws l i (k+1)).st:=by
 have b:=Og h a L;have hn:=N9 h (LO a);have ei:i+k=((i.toNat+k:Nat):Int):=by omega
 exact sF [] (fO 4)<|Fh 10039 [.els (Z wD ((wr ws l i.toNat k).set (↑(i.toNat+k):Int).toNat (l.getD k L)))]<|FM 27 28 wD l k<|Fg 34 (by rw[CR oq oq];omega:Lc.wrap (i+(k:Int))=(↑(i.toNat+k):Int))<|Fek 37 wD l (↑k) k<|Fa (by(simp only[Lb];omega):0<=(↑(i.toNat+k):Int)/\(↑(i.toNat+k):Int).toNat<(Z wD (wr ws l i.toNat k)).length)<|Fa (by(simp only[Lb];omega):(↑(i.toNat+k):Int).toNat<(Z wD (wr ws l i.toNat k)).length)<|Fa (ms:(Z wD (wr ws l i.toNat k)).set (↑(i.toNat+k):Int).toNat [ZD (l.getD k L)]=Z wD ((wr ws l i.toNat k).set (↑(i.toNat+k):Int).toNat (l.getD k L)))<|Fx 30 k<|Fr (35:Int)<|Fa (by refine congrArg _ ?_;exact b:Z wD ((wr ws l i.toNat k).set (↑(i.toNat+k):Int).toNat (l.getD k L))=Z wD (wr ws l i.toNat (k+1))) Fz
def Zbn(ws l:List Int)(i:Int):CP (Zl f144 0) (MJ ws l i l.length).st (.ext 0) (Tg.st ⟨tm 41 [(10,.ow 32024)],[(32024,.arr 35 1 ((C6 ws i.toNat l).map wD))],60⟩):=by
 have hs:=Mi ws l i.toNat
 exact sF [] [M,Y]<|FO 27 28 wD l<|Fr (35:Int)<|Fa (by refine congrArg _ ?_;assumption:Z wD (wr ws l i.toNat l.length)=Z wD (C6 ws i.toNat l)) Fz
def ZhP(ws l:List Int)(i:Int)(c:ws.length<=1048576)(a:0<=i)(h:i.toNat+l.length<=ws.length):CP (Zk f144 0) (Tg.st ⟨tm 41 [(2,Z2 l),(8,nI i),(10,.ow 32024),(11,nI 0)],[(32024,.arr 35 1 (ws.map wD))],60⟩) .nrm (Tg.st ⟨tm 41 [(10,.ow 32024)],[(32024,.arr 35 1 ((C6 ws i.toNat l).map wD))],60⟩):=by
 have:=Bp (S:=λk=>(MJ ws l i k).st) l.length kr (λk b=>Zew ws l i k c a h b) (Zbn ws l i);simp only[MJ,Tu]at this;exact this
def TB(ws l:List Int)(a:Int)(hw:ws.length<=1048576)(h0:0<=a/\a<=18446744073709551615)(hl:l.length<=1048576):GP 144 [Z2 ws,uU a,Z2 l] Y (.tu [Z2 (ZU ws a l).1,nI (ZU ws a l).2]) []:=by have Q0 {h_ c_ p_} (r_:Fq h_ c_ p_):=Fl 16 wD l<|Fc 17 (@DN ws a ((l.length:Int)) aa aa) r_;rcases bb (!(Zw ws a (l.length:Int)).2)with hc0|hc0<;>have hc0p:=hc0<;>simp only[bs]at hc0p;have hf3:=Z6r hc0p;exact gF [] func144 [Y] (Q0 (Ft 21 hc0<|Fnl (Fa (by(simp only[ZU] ;exact sj):[]=Z wD (ZU ws a l).1)<|Fa (by(simp only[ZU] ;exact sj):2=(ZU ws a l).2) Fz)));have hf5:=Z7r hc0p;obtain⟨hf5a,⟨hf5ba,⟨hf5bba,hf5bbb⟩⟩⟩:=hf5;rw[show ZU ws a l=(C6 ws (Zw ws a (l.length:Int)).1.toNat l,(0:Int))from by simp[ZU, *]];exact gF [] func144 [] (Q0 (Ff 21 hc0<|FAx 22 24 wD ws (by(simp[ZU, *];omega))<|Fu (@ZhP ws l ((Zw ws a (l.length:Int)).1) aa oq oq)<|Fa (H7 _:Cd (Z wD (C6 ws (Zw ws a (l.length:Int)).1.toNat l))) Fz))
def Z1P(ws:List Int)(a v:Int)(hw:ws.length<=1048576)(h0:0<=a/\a<=18446744073709551615):GP 116 [Z2 ws,uU a,uU v] M (.tu [Z2 (BY ws a v).1,nI (BY ws a v).2]) []:=by exact gF [] func116 []<|Fs 11 (Z wD [v])<|Fc 12 (@TB ws ([v]) a aa aa (by simp[BY, *])) Fz
def Zba(ws:List Int)(a b n:Int)(hw:ws.length<=1048576)(h0:0<=a/\a<=18446744073709551615)(h1:0<=b/\b<=18446744073709551615):GP 187 [Z2 ws,uU a,uU b,nI n] M (.tu [Z2 (moveA ws a b n).1,nI (moveA ws a b n).2]) []:=by have hr:=Z8c ws b n;have d {h_ c_ p_} (e:Fq h_ c_ p_):=Fc 16 (@Z2s ws b n aa aa) e;rcases bb ((BU ws b n).2 != 0)with hc0|hc0<;>have c:=hc0<;>simp only[bs]at c;exact gF [] func187 [Y] (d (Ft 20 hc0<|Fnl (Fa (by simp[moveA, *]:[]=Z wD (moveA ws a b n).1)<|Fa (by simp[moveA, *]:(BU ws b n).2=(moveA ws a b n).2) Fz)));rw[show moveA ws a b n=ZU ws a (BU ws b n).1 from by simp[moveA, *]];exact gF [] func187 [] (d (Ff 20 hc0<|Fc 25 (@TB ws ((BU ws b n).1) a aa aa oq) Fz))
def No n:GP 118 [nI n] Y (bL (X (0<=n)&&X (n<=2147483647))) []:=by exact gF [] func118 [] Fz
def EA(sp:Int):List Z0->Nat|[]=>0|p::r=>if p.K=3/\p.S=sp then EA sp r+1 else 0
def Z01 sp:∀l,EA sp l<=l.length
 |[]=>LB _
 |p::r=>by
  have:=Z01 sp r;simp only[EA,List.length_cons];split<;>omega
def drop_at{l:List Z0}{k:Nat}(h:k<l.length):l.drop k=l.getD k L::l.drop (k+1):=by rw[List.drop_eq_getElem_cons h];simp[Lq,h]
def PG(l:List Z0)(sp:Int)(n k:Nat):Tg:=⟨tm 37 [(0,ZT l),(2,nI sp),(7,nI n),(8,nI k)],[],60⟩
def ZiM(l:List Z0)(hl:l.length<=1048576)(sp:Int)(n k:Nat)(hn:n<=k)(hk:k<l.length)(h:(l.getD k L).K=3/\(l.getD k L).S=sp):CP (Zl f119 0) (PG l sp n k).st .nrm (PG l sp (n+1) (k+1)).st:=by let a:=(k:Int)<(l.length:Int);exact sF [] []<|Fl 13 Z0.dv l<|FeG 18 (decide a) Z0.dv l (↑k) k<|FeG 26 (decide a&&(l.getD k L).K==3) Z0.dv l (↑k) k<|Ftb 31 (decide a&&(l.getD k L).K==3&&(l.getD k L).S==sp)<|Fx 35 n<|Fx 33 k Fz
def Z8S(l:List Z0)(hl:l.length<=1048576)(sp:Int)(n k:Nat)(h:k<l.length->¬ ((l.getD k L).K=3/\(l.getD k L).S=sp)):CP (Zl f119 0) (PG l sp n k).st (.ext 0) (Tg.st ⟨tm 37 [(7,nI n)],[],60⟩):=by let a:=(k:Int)<(l.length:Int);exact sF [] []<|Fl 13 Z0.dv l<|FeG 18 (decide a) Z0.dv l (↑k) k<|FeG 26 (decide a&&(l.getD k L).K==3) Z0.dv l (↑k) k<|Ffb 31 (decide a&&(l.getD k L).K==3&&(l.getD k L).S==sp) Fz
def Zjx(l:List Z0)(hl:l.length<=1048576) sp:∀(m n k:Nat),l.length-k=m->n<=k->G2 prog f119 0 (PG l sp n k).st (.ext 0) (Tg.st ⟨tm 37 [(7,nI ((n+EA sp (l.drop k):Nat):Int))],[],60⟩):=by
 intro m;induction m with
 |zero =>intro n k b a;have e:l.drop k=[]:=List.drop_eq_nil_of_le oq;rw[e];exact .endx (Z8S l hl sp n k (λh=>by omega))
 |succ m c =>
  intro n k b a;rw[drop_at oq,EA];by_cases h:(l.getD k L).K=3/\(l.getD k L).S=sp
  .rw[if_pos h];have:=c (n+1) (k+1) oq oq;rw[show n+1+EA sp (l.drop (k+1))=n+(EA sp (l.drop (k+1))+1)from by omega]at this;exact .next (ZiM l hl sp n k a oq h) this
  rw[if_neg h];exact .endx (Z8S l hl sp n k (λ_=>h))
def Zks(l:List Z0)(sp:Int)(k:Nat)(hl:l.length<=1048576):CP (Zk f119 0) (Tg.st ⟨tm 37 [(0,ZT l),(2,nI sp),(7,nI 0),(8,nI k)],[],60⟩) .nrm (Tg.st ⟨tm 37 [(7,nI (EA sp (l.drop k)))],[],60⟩):=by
 have:=(Zjx l hl sp _ 0 k rfl oq).ext kr;rw[Nat.zero_add]at this;exact this
def Z4o(l:List Z0)(i:Nat) sp(hl:l.length<=1048576)(hi:i<l.length):GP 119 [ZT l,nI i,nI sp] Y (nI (EA sp (l.drop (i+1)))) []:=by exact gF [] func119 []<|Fx 10 i<|Fu (@Zks l sp (i+1) aa) Fz
def G3(c:B2)(l:List Z0)(i:Nat)(a:Int):Prop:=
 ((l.getD i L).K=3↔0<a)/\0<=(l.getD i L).S/\(l.getD i L).S<=1/\0<=(l.getD i L).N/\(l.getD i L).N<=2147483647 /\
 0<=(l.getD i L).K/\(l.getD i L).K<=3 /\
 ((l.getD i L).K=0->(l.getD i L).S=0/\(l.getD i L).U=0/\(l.getD i L).N=0) /\
 ((l.getD i L).K=1->0<=(l.getD i L).U/\(l.getD i L).U<=c.pw) /\
 ((l.getD i L).K=2->1<=need c (l.getD i L).U/\need c (l.getD i L).U-1<=EA (l.getD i L).S (l.drop (i+1))) /\
 ((l.getD i L).K=3->(l.getD i L).U=0/\(l.getD i L).N=0)
def Er(c:B2)(l:List Z0)(i:Nat)(a:Int):Int:=if(l.getD i L).K=2 then need c (l.getD i L).U-1 else max 0 (a-1)
def D1(h:Heap)(i:Nat)(a:Int):Tg:=⟨tm 157 [(1,.pt 8001 0 0),(2,bL M),(3,nI a),(4,nI i)],[(8001,.box 28 h.cells)],60⟩
def Dy c(n:Int):-1<=need c n/\need c n<=5:=by unfold need;split;rename_i h;have:=BF.1 h.1;split;omega;have h1:0<=(n+c.pw-1)/c.pw:=Lx oq oq;have h2:(n+c.pw-1)/c.pw<6:=LC oq oq;omega;omega
def Z9l(h:Heap)(i:Nat)(a:Int)(hl:h.P.length<=1048576)(hi:i<h.P.length)(hd:0<=a/\a<=5)(k:G3 h.C h.P i a):CP (Zl f65 0) (D1 h i a).st .nrm (D1 h (i+1) (Er h.C h.P i a)).st:=by have hn:=Dy h.C (h.P.getD i L).U;have l:=Z01 (h.P.getD i L).S (h.P.drop (i+1));rw[Ls]at l;unfold G3 at k;let b:=h.P.getD i L;have f {h_ c_ p_} (m:Fq h_ c_ p_):=FN 72 73 79 Z0.dv h.P i<|FcG 100 (!(!(b.K==3)==X (0<a)||X (b.S<0)||X (1<b.S))) (λj=>by(try simp only[bs]at j);exact@No (b.N))<|Ffb 102 (!(b.K==3)==X (0<a)||X (b.S<0)||X (1<b.S)||!(X (0<=b.N)&&X (b.N<=2147483647))) m;rcases bb ((h.P.getD i L).K==0)with hc0|hc0<;>have c:=hc0<;>simp only[bs]at c;exact sF [] (fO 12)<|Fh 105 [.br Y] (f (Fa hc0<|Ffb 109 (!(b.K==0&&(b.S==0&&(b.U==0&&b.N==0))))<|Fi 155 (a-1)<|Fgo 156 (if a-1 > 0 then a-1 else 0) (max 0 (a-1))<|Fx 75 i<|Fa (by grind[Er]:max 0 (a-1)=Er h.C h.P i a) Fz));rcases bb ((h.P.getD i L).K==1)with hc1|hc1<;>have d:=hc1<;>simp only[bs]at d;exact sF [] (fO 18)<|Fh 110 [.br Y]<|Fh 122 [.br M] (f (Fa hc0<|Fa hc1<|Ffb 105 (X (b.U<0)||X (h.C.pw<b.U))<|Fi 155 (a-1)<|Fgo 156 (if a-1 > 0 then a-1 else 0) (max 0 (a-1))<|Fx 75 i<|Fa (by grind[Er]:max 0 (a-1)=Er h.C h.P i a) Fz));rcases bb ((h.P.getD i L).K==2)with hc2|hc2<;>have e:=hc2<;>simp only[bs]at e;let g:=need h.C b.U-1;exact sF [] (fO 21)<|Fh 110 [.br M]<|Fh 123 [.br Y]<|Fh 142 [.br M] (f (Fa hc0<|Fa hc1<|Fa hc2<|Fc 129 (@RG h.C (b.U))<|FcG 138 (!decide (need h.C b.U<1)) (λj=>by(try simp only[bs]at j);exact@Z4o h.P i (b.S) aa aa)<|FiG 140 (!decide (need h.C b.U<1)) g<|Ffb 105 (X (need h.C b.U<1)||X ((↑(EA b.S (Lh (i+1) h.P)):Int)<need h.C b.U-1))<|Fi 155 g<|Fgo 156 (if need h.C b.U-1 > 0 then need h.C b.U-1 else 0) (max 0 g)<|Fx 75 i<|Fa (by grind[Er]:max 0 g=Er h.C h.P i a) Fz));exact sF [] (fO 15)<|Fh 110 [.br M]<|Fh 123 [.br M]<|Fh 144 [.br Y]<|Fh 153 [.br M] (f (Fa hc0<|Fa hc1<|Fa hc2<|Fb ((b.K==3)=Y)<|Ffb 105 (b.U != 0||b.N != 0)<|Fi 155 (a-1)<|Fgo 156 (if a-1 > 0 then a-1 else 0) (max 0 (a-1))<|Fx 75 i<|Fa (by grind[Er]:max 0 (a-1)=Er h.C h.P i a) Fz))
def Zai(h:Heap)(i:Nat)(b:Int)(hl:h.P.length<=1048576)(hi:i<h.P.length)(hd:0<=b/\b<=5)(q:¬ G3 h.C h.P i b):CP (Zl f65 0) (D1 h i b).st .ret (Tg.st ⟨tm 157 [(2,bL M)],[],60⟩):=by have hn:=Dy h.C (h.P.getD i L).U;have r:=Z01 (h.P.getD i L).S (h.P.drop (i+1));rw[Ls]at r;unfold G3 at q;let a:=h.P.getD i L;have d {h_ c_ p_} (s:Fq h_ c_ p_):=FN 72 73 79 Z0.dv h.P i<|FcG 100 (!(!(a.K==3)==X (0<b)||X (a.S<0)||X (1<a.S))) (λp=>by(try simp only[bs]at p);exact@No (a.N)) s;rcases bb (!((h.P.getD i L).K==3)==X (0<b)||X ((h.P.getD i L).S<0)||X (1<(h.P.getD i L).S)||!(X (0<=(h.P.getD i L).N)&&X ((h.P.getD i L).N<=2147483647)))with hc0|hc0<;>have c:=hc0<;>simp only[bs]at c;exact sF [] [] (d (Ft 102 hc0 Fz));obtain⟨⟨⟨e,f⟩,m⟩,⟨n,o⟩⟩:=c;rcases bb ((h.P.getD i L).K==0)with hc1|hc1<;>have g:=hc1<;>simp only[bs]at g;exact sF [] []<|Fh 109 [.br Y] (d (Ff 102 hc0<|Fa hc1<|Ftb 105 (!(a.K==0&&(a.S==0&&(a.U==0&&a.N==0)))) Fz));rcases bb ((h.P.getD i L).K==1)with hc2|hc2<;>have j:=hc2<;>simp only[bs]at j;exact sF [] []<|Fh 105 [.br M]<|Fh 122 [.br Y] (d (Ff 102 hc0<|Fa hc1<|Fa hc2<|Ftb 110 (X ((h.P.getD i L).U<0)||X (h.C.pw<(h.P.getD i L).U)) Fz));rcases bb ((h.P.getD i L).K==2)with hc3|hc3<;>have k:=hc3<;>simp only[bs]at k;exact sF [] []<|Fh 105 [.br M]<|Fh 110 [.br M]<|Fh 142 [.br Y] (d (Ff 102 hc0<|Fa hc1<|Fa hc2<|Fa hc3<|Fc 129 (@RG h.C (a.U))<|FcG 138 (!decide (need h.C a.U<1)) (λp=>by(try simp only[bs]at p);exact@Z4o h.P i (a.S) aa aa)<|FiG 140 (!decide (need h.C a.U<1)) (need h.C a.U-1)<|Ftb 123 (X (need h.C a.U<1)||X ((↑(EA a.S (Lh (i+1) h.P)):Int)<need h.C a.U-1)) Fz));rcases bb ((h.P.getD i L).K==3)with hc4|hc4<;>have l:=hc4<;>simp only[bs]at l;exact sF [] []<|Fh 105 [.br M]<|Fh 110 [.br M]<|Fh 123 [.br M]<|Fh 153 [.br Y] (d (Ff 102 hc0<|Fa hc1<|Fa hc2<|Fa hc3<|Fa hc4<|Ftb 144 (a.U != 0||a.N != 0) Fz));exact sF [] []<|Fh 105 [.br M]<|Fh 110 [.br M]<|Fh 123 [.br M]<|Fh 144 [.br M] (d (Ff 102 hc0<|Fa hc1<|Fa hc2<|Fa hc3<|Fa hc4 Fz))
def Z9F(h:Heap) a:CP (Zl f65 0) (D1 h h.P.length a).st (.ext 0) (Tg.st ⟨tm 157 [],[],60⟩):=by exact sF [] []<|FO 72 73 Z0.dv h.P Fz
instance (c:B2) (l:List Z0) (i:Nat) (due:Int):Decidable (G3 c l i due):=by unfold G3;infer_instance
def G6(c:B2)(l:List Z0):Nat->Nat->Int->Bool|0,_,_=>Y|f+1,i,due=>if i<l.length then X (G3 c l i due)&&G6 c l f (i+1) (Er c l i due)else Y
def ZgJ{c}{l:List Z0}{f i:Nat}{a:Int}(h:l.length<=i):G6 c l f i a=Y:=by
 cases f with|zero=>rfl|succ f=>rw[G6,if_neg oq]
def Z1t{c}{l:List Z0}{f i:Nat}{a:Int}(h:i<l.length)(hf:l.length<=i+f):G6 c l f i a=(X (G3 c l i a)&&G6 c l (f-1) (i+1) (Er c l i a)):=by
 cases f with|zero=>omega|succ f=>rw[G6,if_pos h];rfl
def Z3L{c}{l:List Z0}{f i:Nat}(h:i<l.length)(hf:l.length<=i+f):GC c l f i=(if C8 c l i=0 then M else GC c l (f-1) (i+C8 c l i)):=by
 cases f with|zero=>omega|succ f=>rw[GC,if_pos h];rfl
def Zh7{c}{l:List Z0}:∀{m f g i:Nat},l.length-i<=m->l.length<=i+f->l.length<=i+g->GC c l f i=GC c l g i:=by
 intro m;induction m with
 |zero =>
  intro f g i k b d;have e:∀f,GC c l f i=Y:=by
   intro f;cases f with|zero=>rw[GC,decide_eq_true oq]|succ f=>rw[GC,if_neg oq]
  rw[e,e]
 |succ m j =>intro f g i k b d;by_cases h:i<l.length;rw[Z3L h b,Z3L h d];by_cases a:C8 c l i=0;rw[if_pos a,if_pos a];rw[if_neg a,if_neg a];exact j oq oq oq;exact j oq b d
def getD_at{l:List Z0}{i:Nat}(h:i<l.length):l[i]?=O (l.getD i L):=by simp[Lq,h]
def Zgw{c}{l:List Z0}{sp:Int}(n:sp=0\/sp=1)(q:Z0)(hq:q.S=sp):∀(d f i:Nat),d<=EA sp (l.drop i)->i+d<=l.length->l.length<=i+f ->
  G6 c l f i d=(NK q ((l.drop i).take d)&&G6 c l (f-d) (i+d) 0):=by
 intro d;induction d with
 |zero=>intro f i _ _ _;simp[NK]
 |succ d o =>
  intro f i h h2 m;have j:i<l.length:=by omega
  rw[drop_at j,EA]at h;by_cases g:(l.getD i L).K=3/\(l.getD i L).S=sp;rw[if_pos g]at h;have k:Er c l i ((d+1:Nat):Int)=(d:Int):=by(unfold Er;rw[if_neg oq];omega)
  rw[Z1t j m,k,o (f-1) (i+1) oq oq oq,drop_at j,LN,show f-1-d=f-(d+1)from by omega,show i+1+d=i+(d+1)from by omega];have e:X (G3 c l i ((d+1:Nat):Int))=HC (l.getD i L) q:=by(rw[Lv];simp only[decide_eq_true_eq,HC];unfold G3;generalize l.getD i L=p at g;obtain⟨a,b,u,v⟩:=p;simp only[Z0.mk.injEq]at g⊢;omega)
  rw[e];simp[NK,Bool.and_assoc];rw[if_neg g]at h;omega
def Z7t{sp:Int}{q:Z0}(b:q.S=sp):∀{l:List Z0} {d:Nat},NK q (l.take d)=Y->d<=l.length->d<=EA sp l
 |_,0,_,_=>Nat.zero_le _
 |[],d+1,_,h=>by simp at h
 |p::l,d+1,h,hl=>by
  simp only[NK,LN,LD,Lf]at h;have a:=h.1;simp only[HC,decide_eq_true_eq]at a;have:=Z7t (sp:=sp) b (l:=l) (d:=d) h.2 (by simpa using hl);rw[EA,if_pos (by rw[a];exact⟨rfl,b⟩)];omega
def Zl9{c}{l:List Z0}:∀{m f i:Nat},l.length-i<=m->l.length<=i+f->G6 c l f i 0=GC c l f i:=by
 intro m;induction m with
 |zero =>
  intro f i hm y;rw[ZgJ oq];cases f with|zero=>rw[GC,decide_eq_true oq]|succ f=>rw[GC,if_neg oq]
 |succ m ih =>
  intro f i hm y;by_cases z:i<l.length;rotate_left;exact ih oq y;have w:=getD_at z;rw[Z1t z y,Z3L z y];generalize d:l.getD i L=p at w;have j:∀(b:Bool),Er c l i 0=0->X (G3 c l i 0)=b->C8 c l i=(if b=Y then 1 else 0)->(X (G3 c l i 0)&&G6 c l (f-1) (i+1) (Er c l i 0))=(if C8 c l i=0 then M else GC c l (f-1) (i+C8 c l i)):=by(intro b h1 h2 h3;rw[h1,h2,h3,ih oq oq];cases b<;>simp)
  by_cases g:p.K=2;rotate_left;have o:Er c l i 0=0:=by unfold Er;rw[d,if_neg g];omega
  by_cases k:p.K=0;refine j (Hp p) o ?_ (by rw[C8,w];simp only[k,if_true]);rw[Lv];simp only[decide_eq_true_eq,Hp];unfold G3;rw[d];obtain⟨a,b,u,v⟩:=p;simp only[Z0.mk.injEq]at k g⊢;omega;by_cases s:p.K=1;refine j (IY p c) o ?_ (by rw[C8,w];simp[s]);rw[Lv];simp only[decide_eq_true_eq,IY,H6,N3,Lf,Lo,beq_iff_eq];unfold G3;rw[d];omega;refine j M o ?_ (by rw[C8,w];simp[k,s,g]);simp only[decide_eq_false_iff_not];unfold G3;rw[d];omega;have o:Er c l i 0=need c p.U-1:=by unfold Er;rw[d,if_pos g]
  have n:G3 c l i 0↔GB p c=Y/\need c p.U-1<=EA p.S (l.drop (i+1)):=by(simp only[GB,H6,N3,Lf,Lo,beq_iff_eq,decide_eq_true_eq];unfold G3;rw[d];omega)
  have x:C8 c l i=(if GB p c=Y then(if(need c p.U).toNat<=l.length-i/\NK p ((l.drop (i+1)).take ((need c p.U).toNat-1))=Y then(need c p.U).toNat else 0)else 0):=by(rw[C8,w];simp[g])
  by_cases t:GB p c=Y;have hn:1<=need c p.U/\(p.S=0\/p.S=1):=by(simp only[GB,H6,N3,Lf,Lo,beq_iff_eq,decide_eq_true_eq]at t;omega)
  have a1:=Z01 p.S (l.drop (i+1));rw[Ls]at a1;rw[x,if_pos t,o];by_cases ht:need c p.U-1<=EA p.S (l.drop (i+1));rw[decide_eq_true (n.2 ⟨t,ht⟩),Lw];have e:need c p.U-1=(((need c p.U).toNat-1:Nat):Int):=by omega
  rw[e,Zgw hn.2 p rfl _ _ _ oq oq oq];have r:(need c p.U).toNat<=l.length-i:=by omega
  cases htb:NK p ((l.drop (i+1)).take ((need c p.U).toNat-1))with|false=>simp|true =>simp only[r,and_self,if_true];rw[if_neg oq,Lw,ih oq oq,show i+1+((need c p.U).toNat-1)=i+(need c p.U).toNat from by omega];exact Zh7 (m:=l.length) oq oq oq
  rw[decide_eq_false (λh=>ht (n.1 h).2),Bool.false_and];have a0:¬ ((need c p.U).toNat<=l.length-i/\NK p ((l.drop (i+1)).take ((need c p.U).toNat-1))=Y):=by(intro h;have:=Z7t (sp:=p.S) (q:=p) rfl h.2 (by rw[Ls];omega);omega)
  rw[if_neg a0];simp;rw[x,if_neg t,decide_eq_false (λh=>t (n.1 h).1)];simp
def Z5C{c l i}{a:Int}(hd:0<=a/\a<=5)(b:G3 c l i a):0<=Er c l i a/\Er c l i a<=5:=by have:=Dy c (l.getD i L).U;unfold G3 at b;unfold Er;split<;>omega
def Zix(h:Heap)(hl:h.P.length<=1048576):∀(f i:Nat) (a:Int),i<=h.P.length->h.P.length<=i+f->0<=a/\a<=5->G6 h.C h.P f i a=Y->G2 prog f65 0 (D1 h i a).st (.ext 0) (Tg.st ⟨tm 157 [],[],60⟩):=by
 intro f;induction f with
 |zero =>
  intro i a j g c b;have:i=h.P.length:=by omega
  subst this;exact .endx (Z9F h a)
 |succ f k =>
  intro i a j g c b;by_cases e:i<h.P.length
  .rw[G6,if_pos e,Lf]at b;have d:=of_decide_eq_true b.1;exact .next (Z9l h i a hl e c d) (k (i+1) _ oq oq (Z5C c d) b.2)
  have:i=h.P.length:=by omega
  subst this;exact .endx (Z9F h a)
def Zj4(h:Heap)(hl:h.P.length<=1048576):∀(f i:Nat) (a:Int),0<=a/\a<=5->G6 h.C h.P f i a=M->G2 prog f65 0 (D1 h i a).st .ret (Tg.st ⟨tm 157 [(2,bL M)],[],60⟩):=by
 intro f;induction f with
 |zero=>intro i a d b;cases b
 |succ f g =>
  intro i a d b;by_cases e:i<h.P.length;rw[G6,if_pos e]at b;by_cases c:G3 h.C h.P i a
  .rw[decide_eq_true c,Lw]at b;exact .next (Z9l h i a hl e d c) (g (i+1) _ (Z5C d c) b)
  exact .endr (Zai h i a hl e d c);rw[G6,if_neg e]at b;cases b
def Zip(h:Heap)(hl:h.P.length<=1048576)(a:G6 h.C h.P h.P.length 0 0=Y):CP (Zk f65 0) (Tg.st ⟨tm 157 [(1,.pt 8001 0 0),(2,bL M),(3,nI 0),(4,nI 0)],[(8001,.box 28 h.cells)],60⟩) .nrm (Tg.st ⟨tm 157 [],[],60⟩):=
 (Zix h hl _ 0 0 oq oq oq a).ext kr
def ZeL(h:Heap)(hl:h.P.length<=1048576)(a:G6 h.C h.P h.P.length 0 0=M):CP (Zk f65 0) (Tg.st ⟨tm 157 [(1,.pt 8001 0 0),(2,bL M),(3,nI 0),(4,nI 0)],[(8001,.box 28 h.cells)],60⟩) .ret (Tg.st ⟨tm 157 [(2,bL M)],[],60⟩):=
 (Zj4 h hl _ 0 0 oq a).ret kr
theorem Z0v l(i:Int):CL l i=l.getD i.toNat L:=by rw[CL,Lr];rfl
def Ig{h:Heap}:Z8 h=Y↔Zq h.C=Y/\(h.W.length:Int)=h.C.pw*h.C.pg/\(h.P.length:Int)=h.C.pg/\(h.S=0\/h.S=1) /\ (h.B=-1\/(0<=h.B/\h.B<h.P.length/\(h.P.getD h.B.toNat L).K=1))/\G6 h.C h.P h.P.length 0 0=Y:=by rw[Zl9 (m:=h.P.length) oq oq];simp only[Z8,Lf,O2,Mm,Lo,beq_iff_eq,decide_eq_true_eq,Z0v];constructor;rintro⟨⟨a,b,c,d⟩,f,e⟩;exact⟨a,b,c,d,by omega,e⟩;rintro⟨a,b,c,d,f,e⟩;exact⟨⟨a,b,c,d⟩,by omega,e⟩
def CC(h:Heap):GP 65 [h.av] Y (bL (Z8 h)) []:=by
  by_cases m:Zq h.C=Y
  . have y:=Hl m;rw[Lp]at y;have z:=BF.1 m;have ei:h.C.pg*h.C.pw=h.C.pw*h.C.pg:=Lp _ _;cases x:G6 h.C h.P h.P.length 0 0 with
    | true => rcases Lu (!Zq h.C||(h.W.length:Int) != h.C.pw*h.C.pg||(h.P.length:Int) != h.C.pg||X (h.S<(0:Int))||X ((1:Int)<h.S))with hc0 | hc0
              . have a:=hc0;simp only[bs]at a;exact gF [] func65 (fO 24)<|Fh 21 [.int (h.C.pw*h.C.pg)]<|Fc 9 (@Gv h.C)<|FlG 14 (!!Zq h.C) wD h.W<|Fa (by intro l;(try simp only[bs]at l);rw[CR oq oq];omega:(!!Zq h.C)=Y->Lc.wrap (h.C.pg*h.C.pw)=h.C.pw*h.C.pg)<|FlG 27 (!(!Zq h.C||(h.W.length:Int) != h.C.pw*h.C.pg)) Z0.dv h.P<|Ft 42 ‹(!Zq h.C||(h.W.length:Int) != h.C.pw*h.C.pg||(h.P.length:Int) != h.C.pg||X (h.S<0)||X (1<h.S))=Y›<|Fa (by exact(Ll.2 (λf=>by obtain⟨n,o,p,r,s,t⟩:=Ig.1 f;simp[m]at a;omega)).symm:M=Z8 h) Fz
              . have a:=hc0;simp only[bs]at a;obtain⟨⟨⟨⟨c,d⟩,e⟩,g⟩,i⟩:=a;have v {h_ c_ p_} (u:Fq h_ c_ p_):=Fc 9 (@Gv h.C)<|FlG 14 (!!Zq h.C) wD h.W<|Fa (by intro l;(try simp only[bs]at l);rw[CR oq oq];omega:(!!Zq h.C)=Y->Lc.wrap (h.C.pg*h.C.pw)=h.C.pw*h.C.pg)<|FlG 27 (!(!Zq h.C||(h.W.length:Int) != h.C.pw*h.C.pg)) Z0.dv h.P<|Ff 42 ‹(!Zq h.C||(h.W.length:Int) != h.C.pw*h.C.pg||(h.P.length:Int) != h.C.pg||X (h.S<0)||X (1<h.S))=M›<|FlG 55 (h.B != (-1:Int)&&!decide (h.B<0)) Z0.dv h.P<|FeGq 63 (h.B != (-1:Int)&&!(X (h.B<0)||X ((h.P.length:Int)<=h.B))) Z0.dv h.P h.B u;rcases bb (h.B != (-1:Int)&&(X (h.B<0)||X ((h.P.length:Int)<=h.B)||(h.P.getD h.B.toNat L).K != 1))with hc1|hc1<;>have b:=hc1<;>simp only[bs]at b
                . obtain⟨j,k⟩:=b;exact gF [] func65 (fO 45)<|Fh 21 [.int (h.C.pw*h.C.pg)] (v (Ft 68 hc1<|Fa (by exact(Ll.2 (λf=>by obtain⟨n,o,p,r,s,t⟩:=Ig.1 f;omega)).symm:M=Z8 h) Fz))
                . exact gF [] func65 (fO 50)<|Fh 21 [.int (h.C.pw*h.C.pg)] (v (Ff 68 hc1<|Fu (@Zip h oq aa)<|Fa (by exact(Ig.2 ⟨m,by omega,by omega,by omega,by omega,x⟩).symm:Y=Z8 h) Fz))
    | false => rcases Lu (!Zq h.C||(h.W.length:Int) != h.C.pw*h.C.pg||(h.P.length:Int) != h.C.pg||X (h.S<(0:Int))||X ((1:Int)<h.S))with hc0 | hc0
               . have a:=hc0;simp only[bs]at a;exact gF [] func65 (fO 24)<|Fh 21 [.int (h.C.pw*h.C.pg)]<|Fc 9 (@Gv h.C)<|FlG 14 (!!Zq h.C) wD h.W<|Fa (by intro l;(try simp only[bs]at l);rw[CR oq oq];omega:(!!Zq h.C)=Y->Lc.wrap (h.C.pg*h.C.pw)=h.C.pw*h.C.pg)<|FlG 27 (!(!Zq h.C||(h.W.length:Int) != h.C.pw*h.C.pg)) Z0.dv h.P<|Ft 42 ‹(!Zq h.C||(h.W.length:Int) != h.C.pw*h.C.pg||(h.P.length:Int) != h.C.pg||X (h.S<0)||X (1<h.S))=Y›<|Fa (by exact(Ll.2 (λf=>by obtain⟨n,o,p,r,s,t⟩:=Ig.1 f;simp[m]at a;omega)).symm:M=Z8 h) Fz
               . have a:=hc0;simp only[bs]at a;obtain⟨⟨⟨⟨c,d⟩,e⟩,g⟩,i⟩:=a;have w {h_ c_ p_} (u:Fq h_ c_ p_):=Fc 9 (@Gv h.C)<|FlG 14 (!!Zq h.C) wD h.W<|Fa (by intro l;(try simp only[bs]at l);rw[CR oq oq];omega:(!!Zq h.C)=Y->Lc.wrap (h.C.pg*h.C.pw)=h.C.pw*h.C.pg)<|FlG 27 (!(!Zq h.C||(h.W.length:Int) != h.C.pw*h.C.pg)) Z0.dv h.P<|Ff 42 ‹(!Zq h.C||(h.W.length:Int) != h.C.pw*h.C.pg||(h.P.length:Int) != h.C.pg||X (h.S<0)||X (1<h.S))=M›<|FlG 55 (h.B != (-1:Int)&&!decide (h.B<0)) Z0.dv h.P<|FeGq 63 (h.B != (-1:Int)&&!(X (h.B<0)||X ((h.P.length:Int)<=h.B))) Z0.dv h.P h.B u;rcases bb (h.B != (-1:Int)&&(X (h.B<0)||X ((h.P.length:Int)<=h.B)||(h.P.getD h.B.toNat L).K != 1))with hc1|hc1<;>have b:=hc1<;>simp only[bs]at b
                 . obtain⟨j,k⟩:=b;exact gF [] func65 (fO 45)<|Fh 21 [.int (h.C.pw*h.C.pg)] (w (Ft 68 hc1<|Fa (by exact(Ll.2 (λf=>by obtain⟨n,o,p,r,s,t⟩:=Ig.1 f;omega)).symm:M=Z8 h) Fz))
                 . exact gF [] func65 (fO 50)<|Fh 21 [.int (h.C.pw*h.C.pg)] (w (Ff 68 hc1<|Fu (@ZeL h oq aa)<|Fa (by exact(Ll.2 (λf=>by have q:=(Ig.1 f).2.2.2.2.2;rw[x]at q;cases q)).symm:M=Z8 h) Fz))
  . have hf:Zq h.C=M:=by simpa using m
    exact gF [] func65 (fO 24)<|Fc 9 (@Gv h.C)<|FlG 14 (!!Zq h.C) wD h.W<|FlG 27 (!(!Zq h.C||(h.W.length:Int) != Lc.wrap (h.C.pg*h.C.pw))) Z0.dv h.P<|Ft 42 (by simp[*]:(!Zq h.C||(h.W.length:Int) != Lc.wrap (h.C.pg*h.C.pw)||(h.P.length:Int) != h.C.pg||X (h.S<0)||X (1<h.S))=Y)<|Fa (by exact(Ll.2 (λf=>m (Ig.1 f).1)).symm:M=Z8 h) Fz
def Zy(ws:List Int):Prop:=∀w∈ws,0<=w/\w<=18446744073709551615
def Z2x{ws}(h:Zy ws)(i:Nat):0<=ws.getD i 0/\ws.getD i 0<=18446744073709551615:=by
 rw[Lr];cases e:ws[i]? with|none=>simp|some x=>exact h x (Lj e)
def EM{ws}(h:Zy ws) a:0<=(Z1 ws a).1/\(Z1 ws a).1<=18446744073709551615:=by unfold Z1;split;exact Z2x h _;simp
def Ij(w:Int)(h:0<=w):0<=(Z6 w).1.map/\(Z6 w).1.map<=4294967295:=by unfold Z6;split;exact Z21 w h;simp[CQ]
def B5{h:Heap}(c:Z8 h=Y):Zq h.C=Y/\16<=h.C.pw/\h.C.pw<=64/\8<=h.C.pg/\h.C.pg<=64/\(h.W.length:Int)=h.C.pw*h.C.pg/\h.W.length<=4096/\(h.P.length:Int)=h.C.pg/\(h.S=0\/h.S=1):=by simp only[Z8,Lf]at c;obtain⟨b,d,e,f⟩:=O2.1 c.1;have a:=BF.1 b;have:=Hl b;exact⟨b,a.1,a.2.1,a.2.2.2.1,a.2.2.2.2,d,by omega,e,f⟩
def GX{c:B2}{a}(e:Zq c=Y)(h:(Z3 c a).2.2=0):0<=(Z3 c a).1/\(Z3 c a).1<c.pg/\0<=(Z3 c a).2.1/\(Z3 c a).2.1<c.pw/\4096<=a/\a<4096+c.pw*c.pg/\a=4096+((Z3 c a).1*c.pw+(Z3 c a).2.1):=by have hb:=BF.1 e;unfold Z3 at h⊢;rw[if_pos e]at h⊢;split at h;rename_i d;rw[if_pos d];simp only;have f:0<=(a-4096)/c.pw:=Lx oq oq;have g:(a-4096)/c.pw<c.pg:=LC oq (by rw[Lp];omega);have i:=Int.emod_nonneg (a-4096) (b:=c.pw) oq;have j:=Int.emod_lt_of_pos (a-4096) (b:=c.pw) oq;have k:=Int.mul_ediv_add_emod (a-4096) c.pw;refine⟨f,g,i,j,d.1,d.2, ?_⟩;rw[Lp]at k;omega;simp at h
def Z9(h:Heap)(a:Int):ZB×Int:=
 if Z8 h=Y then
  (if(Z3 h.C a).2.2=0 then
   (if((h.P.getD (Z3 h.C a).1.toNat L).K=1\/(h.P.getD (Z3 h.C a).1.toNat L).K=2)/\(Z3 h.C a).2.1<(h.P.getD (Z3 h.C a).1.toNat L).U/\(Z6 (Z1 h.W a).1).2=Y then
    (if((h.P.getD (Z3 h.C a).1.toNat L).K=1/\(h.P.getD (Z3 h.C a).1.toNat L).U<(Z3 h.C a).2.1+Z5 (Z6 (Z1 h.W a).1).1) \/
      ((h.P.getD (Z3 h.C a).1.toNat L).K=2/\((Z3 h.C a).2.1≠0\/Z5 (Z6 (Z1 h.W a).1).1≠(h.P.getD (Z3 h.C a).1.toNat L).U))then(CQ,19)
     else((Z6 (Z1 h.W a).1).1,0))
    else(CQ,19))
   else(CQ,2))
 else(CQ,1)
def I8(h:ZB):0<=Z5 h/\Z5 h<=256:=by unfold Z5;split;have:=Gq.1 aa;omega;omega
def IZ(h:Heap)(a:Int)(hw:Zy h.W)(h0:0<=a/\a<=18446744073709551615):GP 91 [h.av,uU a] Y (.tu [(Z9 h a).1.av,nI (Z9 h a).2]) []:=by have hr:=EM hw a;have hd:=Ij (Z1 h.W a).1 hr.1;have hs:=I8 (Z6 (Z1 h.W a).1).1;rcases bb (!Z8 h)with hc0|hc0<;>have g:=hc0<;>simp only[bs]at g;rw[show Z9 h a=(ZB.mk (0:Int) (0:Int) (0:Int),(1:Int))from by simp[Z9,CQ, *]];exact gF [] func91 []<|Fc 16 (@CC h)<|Ft 17 hc0 Fz;have a1:=B5 g;obtain⟨a3,⟨a2,⟨z,⟨t,⟨o,⟨m,⟨k,⟨e,f⟩⟩⟩⟩⟩⟩⟩⟩:=a1;have Q0 {h_ c_ p_} (u:Fq h_ c_ p_):=Fc 16 (@CC h)<|Ff 17 hc0<|Fc 23 (@H5 h.C a oq oq) u;rcases bb ((Z3 h.C a).2.2 != 0)with hc18|hc18<;>have b:=hc18<;>simp only[bs]at b;rw[show Z9 h a=(ZB.mk (0:Int) (0:Int) (0:Int),(2:Int))from by simp[Z9,CQ, *]];exact gF [] func91 [] (Q0 (Ft 28 hc18 Fz));have r:=GX aa b;obtain⟨a0,⟨y,⟨s,⟨n,⟨l,⟨i,j⟩⟩⟩⟩⟩⟩:=r;have Q1 {h_ c_ p_} (u:Fq h_ c_ p_):=Q0<|Ff 28 hc18<|Fe 33 Z0.dv h.P ((Z3 h.C a).1)<|Fc 39 (@Hx h.W a oq aa)<|Fc 44 (@A6 ((Z1 h.W a).1) oq oq) u;rcases bb ((h.P.getD (Z3 h.C a).1.toNat L).K != 1&&(h.P.getD (Z3 h.C a).1.toNat L).K != 2||X ((h.P.getD (Z3 h.C a).1.toNat L).U<=(Z3 h.C a).2.1)||!(Z6 (Z1 h.W a).1).2)with hc27|hc27<;>have c:=hc27<;>simp only[bs]at c;rw[show Z9 h a=(ZB.mk (0:Int) (0:Int) (0:Int),(19:Int))from by grind[Z9,CQ]];exact gF [] func91 [] (Q1 (Ft 64 hc27 Fz));obtain⟨⟨p,q⟩,v⟩:=c;have Q2 {h_ c_ p_} (u:Fq h_ c_ p_):=Q1<|Ff 64 hc27<|Fc 67 (@Ia ((Z6 (Z1 h.W a).1).1) aa)<|FiG 74 ((h.P.getD (Z3 h.C a).1.toNat L).K==1) ((Z3 h.C a).2.1+Z5 (Z6 (Z1 h.W a).1).1) u;rcases bb ((h.P.getD (Z3 h.C a).1.toNat L).K==1&&X ((h.P.getD (Z3 h.C a).1.toNat L).U<(Z3 h.C a).2.1+Z5 (Z6 (Z1 h.W a).1).1)||(h.P.getD (Z3 h.C a).1.toNat L).K==2&&((Z3 h.C a).2.1 != 0||Z5 (Z6 (Z1 h.W a).1).1 != (h.P.getD (Z3 h.C a).1.toNat L).U))with hc40|hc40<;>have d:=hc40<;>simp only[bs]at d;rw[show Z9 h a=(ZB.mk (0:Int) (0:Int) (0:Int),(19:Int))from by(simp only[Z9,CQ] ;exact sj)];exact gF [] func91 [] (Q2 (Ft 93 hc40 Fz));obtain⟨w,x⟩:=d;rw[show Z9 h a=((Z6 (Z1 h.W a).1).1,(0:Int))from by grind[Z9,CQ]];exact gF [] func91 [] (Q2 (Ff 93 hc40 Fz))
abbrev aP(h:Heap)(a:Int):Z0:=h.P.getD (Z3 h.C a).1.toNat L
end Go.Proofs.YtgedmeaemofdkaaGreat
namespace Go.Proofs.YtgedmeaemofdkaaGreat
open Go.Sx Go.RowKit
def Z5Z{α β:Type}{f:α->β}{p:α->Prop}:∀{l:List β},(∀x∈l,∃a,x=f a/\p a)->∃m:List α,l=m.map f/\∀a∈m,p a
 |[],_=>⟨[],rfl,by simp⟩
 |x::l,h=>by
  obtain⟨a,rfl,d⟩:=h x pq;obtain⟨m,rfl,e⟩:=Z5Z (l:=l) λy g=>h y (by simp[g]);exact⟨a::m,rfl,λb c=>by rcases List.mem_cons.1 c with rfl|c;exact d;exact e b c⟩
def Z16{n:Nat}{l}(h:CX prog (n+2) 25 l):∃m:List Int,l=[.sl 1 (m.map wD)]/\m.length<=140737488355328/\Zy m:=by
 have e:CX prog (n+2) 25 l=(∃els:List (List DV),l=[.sl 1 els]/\els.length<=140737488355328/\∀x∈els,CX prog (n+1) 35 x):=by kernel_rfl
 rw[e]at h;obtain⟨els,rfl,a,b⟩:=h;obtain⟨m,rfl,c⟩:=Z5Z (f:=wD) (p:=λx=>0<=x/\x<=18446744073709551615) λx g=>by(obtain⟨v,rfl,d⟩:=Zc9 (b x g);exact⟨v,rfl,range_u64 d⟩)
 exact⟨m,rfl,by simpa using a,c⟩
def Z4B{n:Nat}{l}(h:CX prog (n+2) 22 l):∃m:List Int,l=[.sl 1 (m.map iD)]/\m.length<=140737488355328:=by
 have e:CX prog (n+2) 22 l=(∃els:List (List DV),l=[.sl 1 els]/\els.length<=140737488355328/\∀x∈els,CX prog (n+1) 3 x):=by kernel_rfl
 rw[e]at h;obtain⟨els,rfl,a,b⟩:=h;obtain⟨m,rfl⟩:=Z1a (f:=iD) λx c=>by(obtain⟨v,rfl,_⟩:=Z0Z (b x c);exact⟨v,rfl⟩)
 exact⟨m,rfl,by simpa using a⟩
def Z6F(h:Heap):List DV:=[Zd h.C.pw,Zd h.C.pg,.sl 1 (h.W.map wD),.sl 4 (h.P.map Z0.dv),Zd h.S,Zd h.B]
def Zfp{n:Nat}{l}(h:CX prog (n+4) 28 l):∃x:Heap,l=Z6F x/\Zy x.W:=by
 have e:CX prog (n+4) 28 l=(∃a b,l=a++b/\CX prog (n+3) 24 a/\∃a1 i,b=a1++i/\CX prog (n+3) 25 a1/\∃d j,i=d++j/\CX prog (n+3) 26 d /\
  ∃f k,j=f++k/\CX prog (n+3) 3 f/\∃g m,k=g++m/\CX prog (n+3) 3 g/\m=[]):=by kernel_rfl
 rw[e]at h;obtain⟨a,b,rfl,p,a1,i,rfl,k1,d,j,rfl,q,f,k,rfl,r,g,m,rfl,t,rfl⟩:=h;obtain⟨c,rfl⟩:=ZcP (n:=n+1) p;obtain⟨w,rfl,_,o⟩:=Z16 (n:=n+1) k1;obtain⟨v,rfl,_⟩:=Zcj (n:=n) q;obtain⟨s,rfl,_⟩:=Z0Z (n:=n+2) r;obtain⟨u,rfl,_⟩:=Z0Z (n:=n+2) t;exact⟨⟨c,w,v,s,u⟩,rfl,o⟩
end Go.Proofs.YtgedmeaemofdkaaGreat
namespace Go.Proofs.YtgedmeaemofdkaaGreat
open Go.Sx
def Z2b{w}(h:(Z6 w).2=Y):ZV (Z6 w).1=Y:=by unfold Z6 at h⊢;split at h;rename_i a;rw[if_pos a];have:=a.1;unfold Zu at this;split at this;assumption;simp at this;cases h
def TL{h a}(e:(Z9 h a).2=0):Z8 h=Y/\(Z3 h.C a).2.2=0/\4096<=a/\a<8192/\ZV (Z9 h a).1=Y/\0<=(Z9 h a).1.K/\(Z9 h a).1.K<=3/\0<=(Z9 h a).1.length/\(Z9 h a).1.length<=255:=by
 have b:Z8 h=Y/\(Z3 h.C a).2.2=0/\ZV (Z9 h a).1=Y:=by(unfold Z9 at e⊢;split at e;rename_i c;split at e;rename_i d;split at e;rename_i f;split at e;simp at e;rename_i j;rw[if_pos c,if_pos d,if_pos f,if_neg j];exact⟨c,d,Z2b f.2.2⟩;simp at e;simp at e;simp at e)
 obtain⟨k1,g,i⟩:=b;have p:=B5 k1;have o:=GX p.1 g;have v:=Gq.1 i;have ar:=Hl p.1;exact⟨k1,g,o.2.2.2.2.1,by omega,i,v.1,v.2.1,v.2.2.1,v.2.2.2.1⟩
def Iw{h:Heap}(d:Zy h.W) a:0<=(Z9 h a).1.map/\(Z9 h a).1.map<=4294967295:=by
 have c:=EM d a;have b:=Ij (Z1 h.W a).1 c.1;unfold Z9;repeat' split
 all_goals first|exact b|simp[CQ]
def Zx(h:Heap)(a:Int):ZB×Int:=if Z8 h=Y then(if a=0 then(CQ,5)else if(Z9 h a).2=0/\(Z9 h a).1.K=0 then(CQ,4)else Z9 h a)else(CQ,1)
def Z2D{h:Heap}(b:Zy h.W) a:0<=(Zx h a).1.map/\(Zx h a).1.map<=4294967295:=by
 have:=Iw b a;unfold Zx;repeat' split
 all_goals first|exact this|simp[CQ]
def Sq{h a}(e:(Zx h a).2=0):Zx h a=Z9 h a/\(Z9 h a).2=0/\Z8 h=Y/\(Z3 h.C a).2.2=0/\4096<=a/\a<8192/\ZV (Zx h a).1=Y/\1<=(Zx h a).1.K/\(Zx h a).1.K<=3/\0<=(Zx h a).1.length/\(Zx h a).1.length<=255:=by
 have b:Zx h a=Z9 h a/\(Z9 h a).2=0/\(Z9 h a).1.K≠0:=by(unfold Zx at e⊢;split at e;rename_i f;split at e;simp at e;rename_i g;split at e;simp at e;rename_i c;rw[if_pos f,if_neg g,if_neg c];exact⟨rfl,e,λh=>c ⟨e,h⟩⟩;simp at e)
 obtain⟨k1,d,k3⟩:=b;have k:=TL d;rw[k1];exact⟨rfl,d,k.1,k.2.1,k.2.2.1,k.2.2.2.1,k.2.2.2.2.1,by omega,k.2.2.2.2.2.2.1,k.2.2.2.2.2.2.2.1,k.2.2.2.2.2.2.2.2⟩
def NJ(h:Heap)(a:Int)(hw:Zy h.W)(h0:0<=a/\a<=18446744073709551615):GP 45 [h.av,uU a] Y (.tu [(Zx h a).1.av,nI (Zx h a).2]) []:=by rcases bb (!Z8 h)with hc0|hc0<;>have c:=hc0<;>simp only[bs]at c;rw[show Zx h a=(ZB.mk (0:Int) (0:Int) (0:Int),(1:Int))from by simp[Zx,CQ, *]];exact gF [] func45 []<|Fc 9 (@CC h)<|Ft 10 hc0 Fz;rcases bb (a==0)with hc1|hc1<;>have d:=hc1<;>simp only[bs]at d;rw[show Zx h a=(ZB.mk (0:Int) (0:Int) (0:Int),(5:Int))from by simp[Zx,CQ, *]];exact gF [] func45 []<|Fc 9 (@CC h)<|Ff 10 hc0<|Ft 13 hc1 Fz;have g {h_ c_ p_} (i:Fq h_ c_ p_):=Fc 9 (@CC h)<|Ff 10 hc0<|Ff 13 hc1<|Fc 18 (@IZ h a aa aa) i;rcases bb ((Z9 h a).2==0&&(Z9 h a).1.K==0)with hc2|hc2<;>have b:=hc2<;>simp only[bs]at b;obtain⟨e,f⟩:=b;rw[show Zx h a=(ZB.mk (0:Int) (0:Int) (0:Int),(4:Int))from by simp[Zx,CQ, *]];exact gF [] func45 [] (g (Ft 27 hc2 Fz));rw[show Zx h a=Z9 h a from by(simp[Zx,CQ, *];omega)];exact gF [] func45 [] (g (Ff 27 hc2 Fz))
def EX(h:Heap)(a i:Int):Int×Int:=if(Zx h a).2=0 then(if 0<=i/\i<(Zx h a).1.length then Z1 h.W (a+1+i)else(0,2))else(0,(Zx h a).2)
def Z8y(h:Heap)(a i:Int)(hw:Zy h.W)(h0:0<=a/\a<=18446744073709551615):GP 115 [h.av,uU a,nI i] Y (.tu [uU (EX h a i).1,nI (EX h a i).2]) []:=by have z {h_ c_ p_} (r_:Fq h_ c_ p_):=Fc 13 (@NJ h a aa aa) r_;rcases bb ((Zx h a).2 != 0)with hc0|hc0<;>have m:=hc0<;>simp only[bs]at m;rw[show EX h a i=((0:Int),(Zx h a).2)from by simp[EX, *]];exact gF [] func115 [] (z (Ft 17 hc0 Fz));have a1:=Sq m;obtain⟨a3,⟨a2,⟨k,⟨v,⟨s,⟨q,⟨o,⟨l,⟨g,⟨c,d⟩⟩⟩⟩⟩⟩⟩⟩⟩⟩:=a1;have t:=B5 k;obtain⟨a0,⟨y,⟨u,⟨r,⟨p,⟨n,⟨j,⟨e,f⟩⟩⟩⟩⟩⟩⟩⟩:=t;rcases bb (X (i<0)||X ((Zx h a).1.length<=i))with hc20|hc20<;>have b:=hc20<;>simp only[bs]at b;rw[show EX h a i=((0:Int),(2:Int))from by(simp only[EX] ;exact sj)];exact gF [] func115 [] (z (Ff 17 hc0<|Ft 26 hc20 Fz));obtain⟨w,x⟩:=b;rw[show EX h a i=Z1 h.W (a+(1:Int)+i)from by(simp only[EX] ;exact sj)];exact gF [] func115 [] (z (Ff 17 hc0<|Ff 26 hc20<|Fv 30 (a+1)<|Fv 32 i<|Fv 33 (a+1+i)<|Fc 34 (@Hx h.W (a+1+i) oq oq) Fz))
def ZeZ{h a i}(e:(EX h a i).2=0):(Zx h a).2=0/\0<=i/\i<(Zx h a).1.length:=by unfold EX at e;split at e;split at e;exact⟨aa,aa⟩;simp at e;exact absurd e aa
def E4(h:Heap)(a i v:Int):Heap×Int:=if(EX h a i).2=0 then({h with W:=(BY h.W (a+1+i) v).1},0)else(ZY,(EX h a i).2)
def Z6K(h:Heap)(a i v:Int)(hw:Zy h.W)(h0:0<=a/\a<=18446744073709551615):GP 59 [h.av,uU a,nI i,uU v] M (.tu [(E4 h a i v).1.av,nI (E4 h a i v).2]) []:=by have Q0 {h_ c_ p_} (r_:Fq h_ c_ p_):=Fc 16 (@Z8y h a i aa aa) r_;rcases bb ((EX h a i).2 != 0)with hc0|hc0<;>have m:=hc0<;>simp only[bs]at m;exact gF [] func59 [Y] (Q0 (Ft 20 hc0<|Fnl (Fnl (Fa (by simp[E4,ZY, *]:0=(E4 h a i v).1.C.pw)<|Fa (by simp[E4,ZY, *]:0=(E4 h a i v).1.C.pg)<|Fa (by simp[E4,ZY, *]:[]=Z wD (E4 h a i v).1.W)<|Fa (by simp[E4,ZY, *]:[]=Z Z0.dv (E4 h a i v).1.P)<|Fa (by simp[E4,ZY, *]:0=(E4 h a i v).1.S)<|Fa (by simp[E4,ZY, *]:0=(E4 h a i v).1.B)<|Fa (by simp[E4,ZY, *]:(EX h a i).2=(E4 h a i v).2) Fz))));have a2:=ZeZ m;obtain⟨x,⟨a3,a4⟩⟩:=a2;have t:=Sq x;obtain⟨a0,⟨y,⟨d,⟨r,⟨p,⟨n,⟨k,⟨f,⟨e,⟨b,c⟩⟩⟩⟩⟩⟩⟩⟩⟩⟩:=t;have u:=B5 d;obtain⟨a1,⟨z,⟨w,⟨s,⟨q,⟨o,⟨l,⟨g,j⟩⟩⟩⟩⟩⟩⟩⟩:=u;rw[show E4 h a i v=(Heap.mk h.C (BY h.W (a+(1:Int)+i) v).1 h.P h.S h.B,(0:Int))from by simp[E4,ZY, *]];exact gF [] func59 [] (Q0 (Ff 20 hc0<|Fv 27 (a+1)<|Fv 29 i<|Fv 30 (a+1+i)<|Fc 32 (@Z1P h.W (a+1+i) v oq oq) Fz))
def Cr(h:Heap)(a:Int):List Int×Int:=if(Zx h a).2=0 then BU h.W (a+1) (Zx h a).1.length else([],(Zx h a).2)
def Z9o(h:Heap)(a:Int)(hw:Zy h.W)(h0:0<=a/\a<=18446744073709551615):GP 56 [h.av,uU a] M (.tu [Z2 (Cr h a).1,nI (Cr h a).2]) []:=by have y {h_ c_ p_} (r_:Fq h_ c_ p_):=Fc 11 (@NJ h a aa aa) r_;rcases bb ((Zx h a).2 != 0)with hc0|hc0<;>have k:=hc0<;>simp only[bs]at k;exact gF [] func56 [Y] (y (Ft 15 hc0<|Fnl (Fa (by simp[Cr, *]:[]=Z wD (Cr h a).1)<|Fa (by simp[Cr, *]:(Zx h a).2=(Cr h a).2) Fz)));have w:=Sq k;obtain⟨z,⟨x,⟨i,⟨t,⟨q,⟨o,⟨m,⟨j,⟨f,⟨b,c⟩⟩⟩⟩⟩⟩⟩⟩⟩⟩:=w;have r:=B5 i;obtain⟨v,⟨u,⟨s,⟨p,⟨n,⟨l,⟨g,⟨d,e⟩⟩⟩⟩⟩⟩⟩⟩:=r;rw[show Cr h a=BU h.W (a+(1:Int)) (Zx h a).1.length from by simp[Cr, *]];exact gF [] func56 [] (y (Ff 15 hc0<|Fv 20 (a+1)<|Fc 23 (@Z2s h.W (a+1) ((Zx h a).1.length) oq oq) Fz))
def BH(a:ZB):List Int:=(Zu a).1::La a.length.toNat 0
def BC(h:Heap)(a:Int)(b:ZB):Heap×Int:=if Z8 h=Y/\ZV b=Y then(if(ZU h.W a (BH b)).2=0 then({h with W:=(ZU h.W a (BH b)).1},0)else(ZY,(ZU h.W a (BH b)).2))else(ZY,1)
def Z9O{a}(h:(Zu a).2=0):ZV a=Y/\0<=a.length/\a.length<=255:=by unfold Zu at h;split at h;rename_i b;have:=Gq.1 b;exact⟨b,this.2.2.1,this.2.2.2.1⟩;simp at h
def Zc6{a:ZB}(h:ZV a=Y):(Zu a).2=0:=by simp[Zu,h]
def Z7h{h:Heap}{a b}(e:Z8 h=M\/¬ (Zu b).2=0):BC h a b=(ZY,1):=by unfold BC;rw[if_neg];rintro⟨c,d⟩;rcases e with e|e;rw[c]at e;cases e;exact e (Zc6 d)
def Z3Q(h:Heap)(a:Int)(b:ZB)(hw:Zy h.W)(h0:0<=a/\a<=18446744073709551615)(hm:0<=b.map/\b.map<=4294967295):GP 168 [h.av,uU a,b.av] M (.tu [(BC h a b).1.av,nI (BC h a b).2]) []:=by have v {h_ c_ p_} (u:Fq h_ c_ p_):=Fc 13 (@D4 b aa)<|Fc 17 (@CC h) u;rcases bb (!Z8 h||(Zu b).2 != 0)with hc0|hc0<;>have c:=hc0<;>simp only[bs]at c;have y:=Z7h (a:=a) c;exact gF [] func168 (fO 2) (v (Ft 22 hc0<|Fnl (Fnl (Fa (by grind[BC,ZY,BH]:0=(BC h a b).1.C.pw)<|Fa (by grind[BC,ZY,BH]:0=(BC h a b).1.C.pg)<|Fa (by grind[BC,ZY,BH]:[]=Z wD (BC h a b).1.W)<|Fa (by grind[BC,ZY,BH]:[]=Z Z0.dv (BC h a b).1.P)<|Fa (by grind[BC,ZY,BH]:0=(BC h a b).1.S)<|Fa (by grind[BC,ZY,BH]:0=(BC h a b).1.B)<|Fbs (1=(BC h a b).2) Fz))));obtain⟨g,i⟩:=c;have s:=B5 g;obtain⟨x,⟨t,⟨q,⟨n,⟨l,⟨k,⟨f,⟨d,e⟩⟩⟩⟩⟩⟩⟩⟩:=s;have m:=Z9O i;obtain⟨r,⟨o,p⟩⟩:=m;have w {h_ c_ p_} (u:Fq h_ c_ p_):=v<|Ff 22 hc0<|Fs 29 (Z wD [(Zu b).1])<|Fa (by(simp[BC,ZY,BH, *];omega):0<=b.length/\(↑(Z wD [(Zu b).1]).length:Int)+b.length<=2^30)<|Fa (by simp[BC,ZY,BH,LL,LK,Ln,LJ,wD,iD]:Z wD [(Zu b).1]++La b.length.toNat [ZD 0]=Z wD ([(Zu b).1]++La b.length.toNat 0))<|Fc 33 (@TB h.W ([(Zu b).1]++La b.length.toNat 0) a oq aa (by(simp[BC,ZY,BH, *];omega))) u;rcases bb ((ZU h.W a ([(Zu b).1]++La b.length.toNat 0)).2 != 0)with hc37|hc37<;>have j:=hc37<;>simp only[bs]at j;exact gF [] func168 (fO 2)<|Fh 32 [.els (Z wD ([(Zu b).1]++La b.length.toNat 0))] (w (Ft 37 hc37<|Fnl (Fnl (Fa (by(simp only[BC,ZY,BH] ;exact sj):0=(BC h a b).1.C.pw)<|Fa (by(simp only[BC,ZY,BH] ;exact sj):0=(BC h a b).1.C.pg)<|Fa (by(simp only[BC,ZY,BH] ;exact sj):[]=Z wD (BC h a b).1.W)<|Fa (by(simp only[BC,ZY,BH] ;exact sj):[]=Z Z0.dv (BC h a b).1.P)<|Fa (by(simp only[BC,ZY,BH] ;exact sj):0=(BC h a b).1.S)<|Fa (by(simp only[BC,ZY,BH] ;exact sj):0=(BC h a b).1.B)<|Fa (by(simp only[BC,ZY,BH] ;exact sj):(ZU h.W a ([(Zu b).1]++La b.length.toNat 0)).2=(BC h a b).2) Fz))));rw[show BC h a b=(Heap.mk h.C (ZU h.W a ([(Zu b).1]++La b.length.toNat (0:Int))).1 h.P h.S h.B,(0:Int))from by(simp only[BC,ZY,BH] ;exact sj)];exact gF [] func168 []<|Fh 32 [.els (Z wD ([(Zu b).1]++La b.length.toNat 0))] (w (Ff 37 hc37 Fz))
def HP(l:List Z0)(i k:Nat):Bool:=(LA k).all λj=>(l.getD (i+j) L).K==0
def SL{l}{i k:Nat}:HP l i k=Y↔∀j,j<k->(l.getD (i+j) L).K=0:=by simp[HP]
def ZQ(l:List Z0)(i k:Nat)(p q:Z0):List Z0:=(wr l (La k q) i k).set i p
def EN(l:List Z0)(i:Int)(k:Int)(p q:Z0):List Z0×Int:=if 0<=i/\i<l.length/\k<=l.length-i then(if HP l i.toNat k.toNat=Y then(ZQ l i.toNat k.toNat p q,0)else([],20))else([],2)
def IL(l:List Z0):Cd (l.map Z0.dv):=by intro e b x a;obtain⟨y,_,rfl⟩:=List.mem_map.1 b;simp[Z0.dv]at a;rcases a with rfl|rfl|rfl|rfl<;>exact⟨_,rfl⟩
def ZhB{α:Type}{l m:List α}{i j:Nat}{d:α}(h:l[i]?=m[j]?):l.getD i d=m.getD j d:=by rw[Lr,Lr,h]
def Se(l:List Z0)(i:Int)(k:Int)(p q:Z0)(n:Nat):Tg:=⟨tm 57 [(1,nI i),(2,nI k),(8,.pt 8008 0 0),(9,.pt 8009 0 0),(10,.d (.sl 0 [])),(11,nI 0),(12,.ow 24032),(13,nI n)],
 [(24032,.arr 86 4 ((wr l (La k.toNat q) i.toNat n).map Z0.dv)),(8008,.box 86 [nI p.K,nI p.S,nI p.U,nI p.N]),(8009,.box 86 [nI q.K,nI q.S,nI q.U,nI q.N])],60⟩
section
variable(l:List Z0)(i:Int)(k:Int)(p q:Z0)(n:Nat)(hl:l.length<=1048576)(c:0<=i)(a:0<=k)(b:i.toNat+k.toNat<=l.length)
include hl c a b
theorem Z7v(hn:n<k.toNat):(wr l (La k.toNat q) i.toNat n).getD (i.toNat+n) L=l.getD (i.toNat+n) L:=by refine ZhB ?_;rw[DL (by simpa using b) qo,if_neg oq,if_neg oq]
theorem Z9i(f:n<k.toNat)(m:(l.getD (i.toNat+n) L).K=0):CP (Zl f227 0) (Se l i k p q n).st .nrm (Se l i k p q (n+1)).st:=by
 have e:=N9 (ws:=l) (l:=La k.toNat q) (i:=i.toNat) (k:=n) (by simpa using b) qo;have h:=Z7v l i k q n hl c a b f;have g:=Og (ws:=l) (l:=La k.toNat q) (i:=i.toNat) (k:=n) (by simpa using b) qo L;have j:(La k.toNat q).getD n L=q:=by simp[Lq,f]
 rw[j]at g;have ei:i+n=((i.toNat+n:Nat):Int):=by omega
 rw[<-h]at m;rcases bb (((wr l (La k.toNat q) i.toNat n).getD (↑(i.toNat+n):Int).toNat L).K != 0)with hc0|hc0<;>have d:=hc0<;>simp only[bs]at d;contradiction;exact sF [] (fO 8)<|Fh 10051 [.els (Z Z0.dv ((wr l (La k.toNat q) i.toNat n).set (↑(i.toNat+n):Int).toNat q))]<|Ftb 35 (X ((n:Int)<k))<|Fg 41 (by rw[CR oq oq];omega:Lc.wrap (i+(n:Int))=(↑(i.toNat+n):Int))<|Fmq 44 Z0.dv (wr l (La k.toNat q) i.toNat n) (↑(i.toNat+n):Int)<|Ff 45 hc0<|Fg 49 (by rw[CR oq oq];omega:Lc.wrap (i+(n:Int))=(↑(i.toNat+n):Int))<|Fa (by(simp only[Lb];omega):0<=(↑(i.toNat+n):Int)/\(↑(i.toNat+n):Int).toNat<(Z Z0.dv (wr l (La k.toNat q) i.toNat n)).length)<|Fa (by(simp only[Lb];omega):(↑(i.toNat+n):Int).toNat<(Z Z0.dv (wr l (La k.toNat q) i.toNat n)).length)<|Fa (by rw[Ln];rfl:(Z Z0.dv (wr l (La k.toNat q) i.toNat n)).set (↑(i.toNat+n):Int).toNat [Zd q.K,Zd q.S,Zd q.U,Zd q.N]=Z Z0.dv ((wr l (La k.toNat q) i.toNat n).set (↑(i.toNat+n):Int).toNat q))<|Fx 37 n<|Fr (86:Int)<|Fa (by refine congrArg _ ?_;exact g:Z Z0.dv ((wr l (La k.toNat q) i.toNat n).set (↑(i.toNat+n):Int).toNat q)=Z Z0.dv (wr l (La k.toNat q) i.toNat (n+1))) Fz
theorem Zhl(h:n<k.toNat)(g:¬ (l.getD (i.toNat+n) L).K=0):CP (Zl f227 0) (Se l i k p q n).st .ret (Tg.st ⟨tm 57 [(10,.d (.sl 0 [])),(11,nI 20)],[],60⟩):=by
 have e:=N9 (ws:=l) (l:=La k.toNat q) (i:=i.toNat) (k:=n) (by simpa using b) qo;have f:=Z7v l i k q n hl c a b h;have ei:i+n=((i.toNat+n:Nat):Int):=by omega
 rw[<-f]at g;rcases bb (((wr l (La k.toNat q) i.toNat n).getD (↑(i.toNat+n):Int).toNat L).K != 0)with hc0|hc0<;>have d:=hc0<;>simp only[bs]at d;exact sF [] []<|Ftb 35 (X ((n:Int)<k))<|Fg 41 (by rw[CR oq oq];omega:Lc.wrap (i+(n:Int))=(↑(i.toNat+n):Int))<|Fmq 44 Z0.dv (wr l (La k.toNat q) i.toNat n) (↑(i.toNat+n):Int)<|Ft 45 hc0 Fz;contradiction
omit hl c b in
theorem Zkb:CP (Zl f227 0) (Se l i k p q k.toNat).st (.ext 0) (Tg.st ⟨tm 57 [(1,nI i),(8,.pt 8008 0 0),(12,.ow 24032)],[(24032,.arr 86 4 ((wr l (La k.toNat q) i.toNat k.toNat).map Z0.dv)),(8008,.box 86 [nI p.K,nI p.S,nI p.U,nI p.N])],60⟩):=by exact sF [] []<|Ffb 35 (X ((k.toNat:Int)<k)) Fz
theorem Z94(e:HP l i.toNat k.toNat=Y):CP (Zk f227 0) (Tg.st ⟨tm 57 [(1,nI i),(2,nI k),(8,.pt 8008 0 0),(9,.pt 8009 0 0),(10,.d (.sl 0 [])),(11,nI 0),(12,.ow 24032),(13,nI 0)], [(24032,.arr 86 4 (l.map Z0.dv)),(8008,.box 86 [nI p.K,nI p.S,nI p.U,nI p.N]),(8009,.box 86 [nI q.K,nI q.S,nI q.U,nI q.N])],60⟩) .nrm (Tg.st ⟨tm 57 [(1,nI i),(8,.pt 8008 0 0),(12,.ow 24032)],[(24032,.arr 86 4 ((wr l (La k.toNat q) i.toNat k.toNat).map Z0.dv)),(8008,.box 86 [nI p.K,nI p.S,nI p.U,nI p.N])],60⟩):=by
 have:=Bp (S:=λn=>(Se l i k p q n).st) k.toNat kr (λn d=>Z9i l i k p q n hl c a b d (SL.1 e n d)) (Zkb l i k p q a)
 simp only[Se,Tu]at this;exact this
theorem ZjI(o:HP l i.toNat k.toNat=M):CP (Zk f227 0) (Tg.st ⟨tm 57 [(1,nI i),(2,nI k),(8,.pt 8008 0 0),(9,.pt 8009 0 0),(10,.d (.sl 0 [])),(11,nI 0),(12,.ow 24032),(13,nI 0)], [(24032,.arr 86 4 (l.map Z0.dv)),(8008,.box 86 [nI p.K,nI p.S,nI p.U,nI p.N]),(8009,.box 86 [nI q.K,nI q.S,nI q.U,nI q.N])],60⟩) .ret (Tg.st ⟨tm 57 [(10,.d (.sl 0 [])),(11,nI 20)],[],60⟩):=by
 obtain⟨n,x,d,g,h⟩:=Md o;have f:n<k.toNat:=by have:=(Ld.1 d).1;simpa using this
 have s:x=n:=by simp[LH,f]at d;exact d.symm
 subst s;have:=Ev (S:=λn=>(Se l i k p q n).st) x kr (λm r=>?_) (Zhl l i k p q x hl c a b f (by simpa using g))
 .simp only[Se,Tu]at this;exact this
 .obtain⟨y,e,j⟩:=h m r;have t:y=m:=by simp[LH,show m<k.toNat from by omega]at e;exact e.symm
  subst t;exact Z9i l i k p q y hl c a b oq (by simpa using j)
end
def ZeU(l:List Z0)(i:Int)(k:Int)(p q:Z0)(hl:l.length<=1048576)(hk:1<=k/\k<=5):GP 227 [ZT l,nI i,nI k,p.av,q.av] Y (.tu [ZT (EN l i k p q).1,nI (EN l i k p q).2]) []:=by
  cases hf:HP l i.toNat k.toNat with
  |true =>
    have hw:i.toNat+k.toNat<=l.length->(wr l (La k.toNat q) i.toNat k.toNat).length=l.length:=λh=>N9 (by simpa using h) pq;rcases bb (X (i<0)||X ((l.length:Int)<=i)||X ((l.length:Int)-i<k))with hc0|hc0<;>have a:=hc0<;>simp only[bs]at a
    . exact gF [] func227 (fO 10)<|FlG 19 (!decide (i<0)) Z0.dv l<|FlG 25 (!(X (i<0)||X ((l.length:Int)<=i))) Z0.dv l<|FiG 27 (!(X (i<0)||X ((l.length:Int)<=i))) ((l.length:Int)-i)<|Ft 29 hc0<|Fnl (Fa (by(simp only[EN,hf,ZQ] ;exact sj):[]=Z Z0.dv (EN l i k p q).1)<|Fa (by(simp only[EN,hf,ZQ] ;exact sj):2=(EN l i k p q).2) Fz)
    . obtain⟨⟨b,c⟩,d⟩:=a;rw[show EN l i k p q=((wr l (La k.toNat q) i.toNat k.toNat).set i.toNat p,(0:Int))from by simp[EN,hf,ZQ, *]];exact gF [] func227 []<|Fh 10055 [.els (Z Z0.dv ((wr l (La k.toNat q) i.toNat k.toNat).set i.toNat p))]<|FlG 19 (!decide (i<0)) Z0.dv l<|FlG 25 (!(X (i<0)||X ((l.length:Int)<=i))) Z0.dv l<|FiG 27 (!(X (i<0)||X ((l.length:Int)<=i))) ((l.length:Int)-i)<|Ff 29 hc0<|FAx 30 32 Z0.dv l (by(simp[EN,hf,ZQ, *];omega))<|Fu (@Z94 l i k p q aa oq oq oq aa)<|Fa (by(simp only[Lb];omega):0<=i/\i.toNat<(Z Z0.dv (wr l (La k.toNat q) i.toNat k.toNat)).length)<|Fa (by(simp only[Lb];omega):i.toNat<(Z Z0.dv (wr l (La k.toNat q) i.toNat k.toNat)).length)<|Fa (by rw[Ln];rfl:(Z Z0.dv (wr l (La k.toNat q) i.toNat k.toNat)).set i.toNat [Zd p.K,Zd p.S,Zd p.U,Zd p.N]=Z Z0.dv ((wr l (La k.toNat q) i.toNat k.toNat).set i.toNat p))<|Fa (IL _:Cd (Z Z0.dv ((wr l (La k.toNat q) i.toNat k.toNat).set i.toNat p))) Fz
  | false => rcases Lu (X (i<(0:Int))||X ((l.length:Int)<=i)||X ((l.length:Int)-i<k))with hc0 | hc0
             . have a:=hc0;simp only[bs]at a;exact gF [] func227 (fO 10)<|FlG 19 (!decide (i<0)) Z0.dv l<|FlG 25 (!(X (i<0)||X ((l.length:Int)<=i))) Z0.dv l<|FiG 27 (!(X (i<0)||X ((l.length:Int)<=i))) ((l.length:Int)-i)<|Ft 29 ‹(X (i<0)||X ((l.length:Int)<=i)||X ((l.length:Int)-i<k))=Y›<|Fnl (Fa (by(simp only[EN,hf] ;exact sj):[]=Z Z0.dv (EN l i k p q).1)<|Fa (by(simp only[EN,hf] ;exact sj):2=(EN l i k p q).2) Fz)
             . have a:=hc0;simp only[bs]at a;obtain⟨⟨b,c⟩,d⟩:=a;exact gF [] func227 (fO 21)<|FlG 19 (!decide (i<0)) Z0.dv l<|FlG 25 (!(X (i<0)||X ((l.length:Int)<=i))) Z0.dv l<|FiG 27 (!(X (i<0)||X ((l.length:Int)<=i))) ((l.length:Int)-i)<|Ff 29 ‹(X (i<0)||X ((l.length:Int)<=i)||X ((l.length:Int)-i<k))=M›<|FAx 30 32 Z0.dv l (by(simp[EN,hf, *];omega))<|Fu (@ZjI l i k p q aa oq oq oq aa)<|Fnl (Fa (by(simp only[EN,hf] ;exact sj):[]=Z Z0.dv (EN l i k p q).1)<|Fa (by(simp only[EN,hf] ;exact sj):20=(EN l i k p q).2) Fz)
def Zkr(l:List Z0)(i:Int)(k:Int)(p q:Z0)(hl:l.length<=1048576)(hk:1<=k/\k<=5)(hi:0<=i/\i+k<=l.length)(hf:HP l i.toNat k.toNat=Y):GP 227 [ZT l,nI i,nI k,p.av,q.av] Y (.tu [.ow 0,nI 0]) [.arr 86 4 ((ZQ l i.toNat k.toNat p q).map Z0.dv)]:=by have hw:(wr l (La k.toNat q) i.toNat k.toNat).length=l.length:=N9 qo pq;exact gF [24032] func227 []<|Fh 10055 [.els (Z Z0.dv ((wr l (La k.toNat q) i.toNat k.toNat).set i.toNat p))]<|FlG 19 (!decide (i<0)) Z0.dv l<|FlG 25 (!(X (i<0)||X ((l.length:Int)<=i))) Z0.dv l<|FiG 27 (!(X (i<0)||X ((l.length:Int)<=i))) ((l.length:Int)-i)<|Ffb 29 (X (i<0)||X ((l.length:Int)<=i)||X ((l.length:Int)-i<k))<|FAx 30 32 Z0.dv l (by(simp[ZQ, *];omega))<|Fu (@Z94 l i k p q aa oq oq oq aa)<|Fa (by(simp only[Lb];omega):0<=i/\i.toNat<(Z Z0.dv (wr l (La k.toNat q) i.toNat k.toNat)).length)<|Fa (by(simp only[Lb];omega):i.toNat<(Z Z0.dv (wr l (La k.toNat q) i.toNat k.toNat)).length)<|Fa (by rw[Ln];rfl:(Z Z0.dv (wr l (La k.toNat q) i.toNat k.toNat)).set i.toNat [Zd p.K,Zd p.S,Zd p.U,Zd p.N]=Z Z0.dv ((wr l (La k.toNat q) i.toNat k.toNat).set i.toNat p))<|Fa (IL _:Cd (Z Z0.dv ((wr l (La k.toNat q) i.toNat k.toNat).set i.toNat p))) Fz
def Z5B(l:List Z0)(i sp:Int):List Z0×Int:=if 0<=sp/\sp<=1 then EN l i 1 ⟨1,sp,0,0⟩ ⟨0,0,0,0⟩else([],1)
def Hv(c:B2)(l:List Z0)(i sp n:Int):List Z0×Int:=if 1<=need c n/\0<=sp/\sp<=1 then EN l i (need c n) ⟨2,sp,n,0⟩ ⟨3,sp,0,0⟩else([],1)
def Zeq(c:B2)(l:List Z0) i sp n(hl:l.length<=1048576):GP 205 [c.av,ZT l,nI i,nI sp,nI n] M (.tu [ZT (Hv c l i sp n).1,nI (Hv c l i sp n).2]) []:=by have hn:=Dy c n;rcases bb (X (need c n<1)||X (sp<0)||X (1<sp))with hc0|hc0<;>have a:=hc0<;>simp only[bs]at a;exact gF [] func205 (fO 4)<|Fc 15 (@RG c n)<|Ft 25 hc0<|Fnl (Fa (by(simp only[Hv] ;exact sj):[]=Z Z0.dv (Hv c l i sp n).1)<|Fa (by(simp only[Hv] ;exact sj):1=(Hv c l i sp n).2) Fz);obtain⟨⟨b,d⟩,e⟩:=a;rw[show Hv c l i sp n=EN l i (need c n) (Z0.mk (2:Int) sp n (0:Int)) (Z0.mk (3:Int) sp (0:Int) (0:Int))from by simp[Hv, *]];exact gF [] func205 []<|Fc 15 (@RG c n)<|Ff 25 hc0<|Fc 34 (@ZeU l i (need c n) (Z0.mk 2 sp n 0) (Z0.mk 3 sp 0 0) aa oq) Fz
def Z8Y(l:List Z0)(i sp:Int)(hl:l.length<=1048576)(hs:0<=sp/\sp<=1)(hi:0<=i/\i+1<=l.length)(hf:HP l i.toNat 1=Y):GP 204 [ZT l,nI i,nI sp] Y (.tu [.ow 0,nI 0]) [.arr 86 4 ((ZQ l i.toNat 1 ⟨1,sp,0,0⟩ ⟨0,0,0,0⟩).map Z0.dv)]:=by exact gF [25019] func204 []<|Ffb 13 (X (sp<0)||X (1<sp))<|Fc 19 (@Zkr l i (1) (Z0.mk 1 sp 0 0) (Z0.mk 0 0 0 0) aa oq aa aa)<|Fa (IL _:Cd (Z Z0.dv (ZQ l i.toNat (Li 1) (Z0.mk 1 sp 0 0) (Z0.mk 0 0 0 0)))) Fz
def Z0N{α:Type}:∀{a b:List α},a.length=b.length->a≠b->∃(j:Nat) (x y:α),a[j]?=O x/\b[j]?=O y/\x≠y/\∀i:Nat,i<j->∃z:α,a[i]?=O z/\b[i]?=O z
 |[],[],_,h=>absurd rfl h
 |[],_::_,h,_=>by simp at h
 |_::_,[],h,_=>by simp at h
 |x::a,y::b,hl,h=>by
  by_cases c:x=y
  .subst c;obtain⟨j,u,v,d,f,g,k⟩:=Z0N (a:=a) (b:=b) (by simpa using hl) (λe=>h (by rw[e]));refine⟨j+1,u,v,by simpa using d,by simpa using f,g,λi n=>?_⟩;cases i with
   |zero=>exact⟨x,rfl,rfl⟩
   |succ i =>
    obtain⟨z,l,m⟩:=k i oq;exact⟨z,by simpa using l,by simpa using m⟩
  .exact⟨0,x,y,rfl,rfl,c,λi n=>by omega⟩
def NT(a b:List Z0)(i:Nat):Tg:=⟨tm 26 [(0,ZT a),(1,ZT b),(4,bL M),(5,nI i)],[],40⟩
def Z5K(a b:List Z0)(i:Nat)(p:Z0)(hl:a.length<=281474976710656)(ha:a[i]?=O p)(hb:b[i]?=O p):CP (Zl f88 0) (NT a b i).st .nrm (NT a b (i+1)).st:=by
 have hi:i<a.length:=(Ld.1 ha).1;exact sF [] [] (Fh 19 [.el p.dv] (Fh 23 [.el p.dv] (Fg 13 (by rw[Lb]:(↑(Z Z0.dv a).length:Int)=(a.length:Int)) (Ftb 14 (X ((i:Int)<(a.length:Int))) (Fa ((⟨by omega,GF ha⟩):0<=(i:Int)/\(Z Z0.dv a)[(i:Int).toNat]?=O p.dv) (Fa ((⟨by omega,GF hb⟩):0<=(i:Int)/\(Z Z0.dv b)[(i:Int).toNat]?=O p.dv) (Ff 25 (by simp:(!(p.K==p.K&&(p.S==p.S&&(p.U==p.U&&p.N==p.N))))=M) (Fx 16 i Fz))))))))
def Zf4(a b:List Z0)(i:Nat)(p q:Z0)(ha:a[i]?=O p)(hb:b[i]?=O q)(hne:p≠q):CP (Zl f88 0) (NT a b i).st .ret (Tg.st ⟨tm 26 [(4,bL M)],[],60⟩):=by
 have hi:i<a.length:=(Ld.1 ha).1;have qz0:(!(p.K==q.K&&(p.S==q.S&&(p.U==q.U&&p.N==q.N))))=Y:=by
  cases p;cases q;simp at hne;simp;omega
 exact sF [] [] (Fh 19 [.el p.dv] (Fh 23 [.el q.dv] (Fg 13 (by rw[Lb]:(↑(Z Z0.dv a).length:Int)=(a.length:Int)) (Ftb 14 (X ((i:Int)<(a.length:Int))) (Fa ((⟨by omega,GF ha⟩):0<=(i:Int)/\(Z Z0.dv a)[(i:Int).toNat]?=O p.dv) (Fa ((⟨by omega,GF hb⟩):0<=(i:Int)/\(Z Z0.dv b)[(i:Int).toNat]?=O q.dv) (Ft 25 (qz0:(!(p.K==q.K&&(p.S==q.S&&(p.U==q.U&&p.N==q.N))))=Y) Fz)))))))
def Zk8 a b:CP (Zl f88 0) (NT a b a.length).st (.ext 0) (Tg.st ⟨tm 26 [],[],60⟩):=by exact sF [] []<|Fg 13 (by rw[Lb]:(↑(Z Z0.dv a).length:Int)=(a.length:Int))<|Ffb 14 (X ((a.length:Int)<(a.length:Int))) Fz
def Z0K(a b:List Z0)(hl:a.length<=281474976710656):GP 88 [ZT a,ZT b] Y (bL (X (a=b))) []:=by by_cases c:a.length=b.length;by_cases d:a=b;subst d;rw[decide_eq_true rfl];exact gF [] func88 []<|Fk (0,NT a a 0,.nrm,⟨tm 26 [],[],60⟩)<|Fg 7 (by rw[Lb]:(↑(Z Z0.dv a).length:Int)=(a.length:Int))<|Fg 9 (by rw[Lb]:(↑(Z Z0.dv a).length:Int)=(a.length:Int))<|Ff 10 (by simp:((a.length:Int) != (a.length:Int))=M)<|Fa ((Bp (S:=λi=>(NT a a i).st) a.length kr (λi e=>Z5K a a i a[i] hl (Le e) (Le e)) (Zk8 a a)):CP (Zk f88 0) (NT a a 0).st Ex.nrm (Tg.mk (tm 26 []) [] 60).st) Fz;rw[decide_eq_false d];refine Zb [((7:Nat),[Hint.int (a.length:Int)]),((9:Nat),[Hint.int (b.length:Int)]),((10:Nat),[Hint.br M])] [((0:Nat),NT a b 0,.ret,⟨tm 26 [(4,bL M)],[],60⟩)] [] dd func88 [] (φ:=(↑(Z Z0.dv a).length:Int)=(a.length:Int)/\(↑(Z Z0.dv b).length:Int)=(b.length:Int)/\((a.length:Int) != (b.length:Int))=M/\M=M/\CP (Zk f88 (0:Nat)) (NT a b (0:Nat)).st Ex.ret (Tg.mk (tm (26:Nat) [((4:Nat),bL M)]) [] (60:Nat)).st) ?_ kr kr;obtain⟨j,x,y,f,g,k,l⟩:=Z0N c d;refine⟨by rw[Lb],by rw[Lb],by simp[c],rfl,Ev (S:=λi=>(NT a b i).st) j kr (λi e=>?_) (Zf4 a b j x y f g k)⟩;obtain⟨z,m,n⟩:=l i e;exact Z5K a b i z hl m n;have d:a≠b:=λh=>c (by rw[h]);rw[decide_eq_false d];exact gF [] func88 []<|Fg 7 (by rw[Lb]:(↑(Z Z0.dv a).length:Int)=(a.length:Int))<|Fg 9 (by rw[Lb]:(↑(Z Z0.dv b).length:Int)=(b.length:Int))<|Ftb 10 ((a.length:Int) != (b.length:Int)) Fz
def Nq(a b:Heap)(i:Nat):Tg:=⟨tm 60 [(2,.pt 8002 0 0),(3,.pt 8003 0 0),(4,bL M),(5,nI i)],[(8002,.box 28 a.cells),(8003,.box 28 b.cells)],40⟩
def OH{l:List Int}{i:Nat}{p:Int}(h:l[i]?=O p):(l.map wD)[((i:Nat):Int).toNat]?=O [ZD p]:=by simp[h,wD]
def Z9u(a b:Heap)(i:Nat)(p:Int)(hl:a.W.length<=281474976710656)(c:a.W[i]?=O p)(d:b.W[i]?=O p):CP (Zl f37 0) (Nq a b i).st .nrm (Nq a b (i+1)).st:=by have hi:i<a.W.length:=(Ld.1 c).1;exact sF [] []<|Fh 52 [.el [ZD p]]<|Fh 57 [.el [ZD p]]<|Fg 45 (by rw[Lb]:(↑(Z wD a.W).length:Int)=(a.W.length:Int))<|Ftb 46 (X ((i:Int)<(a.W.length:Int)))<|Fa ((⟨by omega,OH c⟩):0<=(i:Int)/\(Z wD a.W)[(i:Int).toNat]?=O [ZD p])<|Fa ((⟨by omega,OH d⟩):0<=(i:Int)/\(Z wD b.W)[(i:Int).toNat]?=O [ZD p])<|Ff 59 (by simp:(p != p)=M)<|Fx 48 i Fz
def ZbO(a b:Heap)(i:Nat)(p q:Int)(d:a.W[i]?=O p)(e:b.W[i]?=O q)(c:p≠q):CP (Zl f37 0) (Nq a b i).st .ret (Tg.st ⟨tm 60 [(4,bL M)],[],60⟩):=by have hi:i<a.W.length:=(Ld.1 d).1;exact sF [] []<|Fh 52 [.el [ZD p]]<|Fh 57 [.el [ZD q]]<|Fg 45 (by rw[Lb]:(↑(Z wD a.W).length:Int)=(a.W.length:Int))<|Ftb 46 (X ((i:Int)<(a.W.length:Int)))<|Fa ((⟨by omega,OH d⟩):0<=(i:Int)/\(Z wD a.W)[(i:Int).toNat]?=O [ZD p])<|Fa ((⟨by omega,OH e⟩):0<=(i:Int)/\(Z wD b.W)[(i:Int).toNat]?=O [ZD q])<|Ft 59 (by simp[c]:(p != q)=Y) Fz
def ZgC a b:CP (Zl f37 0) (Nq a b a.W.length).st (.ext 0) (Tg.st ⟨tm 60 [],[],60⟩):=by exact sF [] []<|Fg 45 (by rw[Lb]:(↑(Z wD a.W).length:Int)=(a.W.length:Int))<|Ffb 46 (X ((a.W.length:Int)<(a.W.length:Int))) Fz
def Z4Y(a b:Heap)(p:a.W.length<=281474976710656)(hl:a.P.length<=281474976710656):GP 37 [a.av,b.av] Y (bL (X (a=b))) []:=by
 by_cases d:a.C=b.C/\a.S=b.S/\a.B=b.B/\a.P=b.P/\a.W.length=b.W.length;have m:(!(a.C.pw==b.C.pw&&a.C.pg==b.C.pg)||a.S != b.S||a.B != b.B||!decide (a.P=b.P)||(a.W.length:Int) != (b.W.length:Int))=M:=by(obtain⟨c,g,k,l,o⟩:=d;simp[c,g,k,l,o])
 by_cases f:a.W=b.W;have e:a=b:=by(cases a;cases b;simp only at d f;obtain⟨c,g,k,l,o⟩:=d;simp[c,g,k,l,f])
 rw[decide_eq_true e];let y0:=a.C.pw==b.C.pw&&a.C.pg==b.C.pg;exact gF [] func37 []<|Fh 30 [.call Y (bL (X (a.P=b.P))) []]<|Fh 36 [.int ↑a.W.length]<|Fh 39 [.int ↑b.W.length]<|Fk (0,Nq a b 0,.nrm,⟨tm 60 [],[],60⟩)<|Fa ((λ_=>Z0K a.P b.P hl):(!(!y0||a.S != b.S||a.B != b.B))=Y->GP 88 [AV.d (DV.sl 4 (Z Z0.dv a.P)),AV.d (DV.sl 4 (Z Z0.dv b.P))] Y (bL (X (a.P=b.P))) [])<|Fa ((λ_=>by rw[Lb]):(!(!y0||a.S != b.S||a.B != b.B||!decide (a.P=b.P)))=Y->(↑(Z wD a.W).length:Int)=(a.W.length:Int))<|Fa ((λ_=>by rw[Lb]):(!(!y0||a.S != b.S||a.B != b.B||!decide (a.P=b.P)))=Y->(↑(Z wD b.W).length:Int)=(b.W.length:Int))<|Ff 41 (m:(!y0||a.S != b.S||a.B != b.B||!decide (a.P=b.P)||(a.W.length:Int) != (b.W.length:Int))=M)<|Fa ((Bp (S:=λi=>(Nq a b i).st) a.W.length kr (λi n=>Z9u a b i a.W[i] p (Le n) (by rw[<-f];exact Le n)) (ZgC a b)):CP (Zk f37 0) (Nq a b 0).st Ex.nrm (Tg.mk (tm 60 []) [] 60).st) Fz;have e:a≠b:=λh=>f (by rw[h]);rw[decide_eq_false e];refine Zb [((30:Nat),[Hint.call Y (bL (X (a.P=b.P))) []]),((36:Nat),[Hint.int (a.W.length:Int)]),((39:Nat),[Hint.int (b.W.length:Int)]),((41:Nat),[Hint.br M])] [((0:Nat),Nq a b 0,.ret,⟨tm 60 [(4,bL M)],[],60⟩)] [] dd func37 [] (φ:=((!(!(a.C.pw==b.C.pw&&a.C.pg==b.C.pg)||a.S != b.S||a.B != b.B))=Y->GP 88 [AV.d (DV.sl (4:Nat) (Z Z0.dv a.P)),AV.d (DV.sl (4:Nat) (Z Z0.dv b.P))] Y (bL (X (a.P=b.P))) [])/\((!(!(a.C.pw==b.C.pw&&a.C.pg==b.C.pg)||a.S != b.S||a.B != b.B||!decide (a.P=b.P)))=Y->(↑(Z wD a.W).length:Int)=(a.W.length:Int))/\((!(!(a.C.pw==b.C.pw&&a.C.pg==b.C.pg)||a.S != b.S||a.B != b.B||!decide (a.P=b.P)))=Y->(↑(Z wD b.W).length:Int)=(b.W.length:Int))/\(!(a.C.pw==b.C.pw&&a.C.pg==b.C.pg)||a.S != b.S||a.B != b.B||!decide (a.P=b.P)||(a.W.length:Int) != (b.W.length:Int))=M/\M=M/\CP (Zk f37 (0:Nat)) (Nq a b (0:Nat)).st Ex.ret (Tg.mk (tm (60:Nat) [((4:Nat),bL M)]) [] (60:Nat)).st) ?_ kr kr;obtain⟨j,x,y,k1,q,r,s⟩:=Z0N d.2.2.2.2 f;refine⟨λ_=>Z0K a.P b.P hl,λ_=>by rw[Lb],λ_=>by rw[Lb],m,rfl,Ev (S:=λi=>(Nq a b i).st) j kr (λi n=>?_) (ZbO a b j x y k1 q r)⟩;obtain⟨z,t,u⟩:=s i n;exact Z9u a b i z p t u;have m:(!(a.C.pw==b.C.pw&&a.C.pg==b.C.pg)||a.S != b.S||a.B != b.B||!decide (a.P=b.P)||(a.W.length:Int) != (b.W.length:Int))=Y:=by
  cases hh:(!(a.C.pw==b.C.pw&&a.C.pg==b.C.pg)||a.S != b.S||a.B != b.B||!decide (a.P=b.P)||(a.W.length:Int) != (b.W.length:Int))with|true=>rfl|false =>exfalso;simp at hh;obtain⟨⟨⟨⟨c,g⟩,k⟩,l⟩,o⟩:=hh;refine d ⟨?_,g,k,l,by omega⟩;cases hca:a.C;cases hcb:b.C;rw[hca,hcb]at c;simp at c;simp[c]
 have e:a≠b:=λh=>d (by rw[h];simp);rw[decide_eq_false e];let y1:=a.C.pw==b.C.pw&&a.C.pg==b.C.pg;exact gF [] func37 []<|Fh 36 [.int ↑a.W.length]<|Fh 39 [.int ↑b.W.length]<|FcG 30 (!(!y1||a.S != b.S||a.B != b.B)) (λhg=>@Z0K a.P b.P hl)<|Fa ((λ_=>by rw[Lb]):(!(!y1||a.S != b.S||a.B != b.B||!decide (a.P=b.P)))=Y->(↑(Z wD a.W).length:Int)=(a.W.length:Int))<|Fa ((λ_=>by rw[Lb]):(!(!y1||a.S != b.S||a.B != b.B||!decide (a.P=b.P)))=Y->(↑(Z wD b.W).length:Int)=(b.W.length:Int))<|Ft 41 (m:(!y1||a.S != b.S||a.B != b.B||!decide (a.P=b.P)||(a.W.length:Int) != (b.W.length:Int))=Y) Fz
structure ZI where
 frm:Int
 len:Int
 deriving DecidableEq,Inhabited
def ZI.dv(r:ZI):List DV:=[Zd r.frm,Zd r.len]
def Ic(l:List ZI):AV:=.d (.sl 2 (l.map ZI.dv))
def Br(out:List ZI):ZI:=out.getLast?.getD ⟨0,0⟩
def Nl(out:List ZI)(i:Int)(p:Z0):List ZI:=
 if p.K=0 then(if out≠[]/\(Br out).frm+(Br out).len=i then out.dropLast++[⟨(Br out).frm,(Br out).len+1⟩]else out++[⟨i,1⟩])else out
def Zi(l:List Z0):Nat->List ZI|0=>[]|i+1=>Nl (Zi l i) i (CL l i)
def Np{out:List ZI}(h:out≠[]):out[out.length-1]?=O (Br out):=by rw[<-List.getLast?_eq_getElem?,Br,List.getLast?_eq_some_getLast h];rfl
def N2 l:∀i,(Zi l i).length<=i/\∀r∈Zi l i,0<=r.frm/\1<=r.len/\r.frm+r.len<=i
 |0=>⟨by simp[Zi],by simp[Zi]⟩
 |i+1=>by
  obtain⟨h1,b⟩:=N2 l i;simp only[Zi,Nl];split
  .split
   .rename_i c;have hl:=b _ (Lj (Np c.1));have hp:0<(Zi l i).length:=Lz.2 c.1;refine⟨by simp;omega,λr a=>?_⟩;rcases Lt.1 a with a|a
    .have:=b r (LG _ a);omega
    .simp at a;subst a;simp only;omega
   .refine⟨by simp;omega,λr a=>?_⟩;rcases Lt.1 a with a|a
    .have:=b r a;omega
    .simp at a;subst a;simp only;omega
  .refine⟨by omega,λr a=>?_⟩;have:=b r a;omega
def PL{out:List ZI}{i:Nat}{r:ZI}(h:out[i]?=O r):(out.map ZI.dv)[i]?=O r.dv:=by simp[h]
def Z7y{out:List ZI}(h:out≠[])(r:ZI):(out.map ZI.dv).set (out.length-1) r.dv=(out.dropLast++[r]).map ZI.dv:=by obtain⟨a,b,rfl⟩:∃a b,out=a++[b]:=⟨out.dropLast,out.getLast h,(List.dropLast_concat_getLast h).symm⟩;simp
def HW(l:List Z0)(i:Nat):Tg:=⟨tm 54 [(3,.ow 16003),(7,ZT l),(8,nI l.length),(9,nI i)],[(16003,.arr 267 2 ((Zi l i).map ZI.dv))],20⟩
def Zgn(l:List Z0)(hl:l.length<=1048576)(i:Nat)(p:Z0)(hp:l[i]?=O p)(hk:p.K≠0):CP (Zl f231 0) (HW l i).st .nrm (HW l (i+1)).st:=by
 have hi:i<l.length:=(Ld.1 hp).1;obtain⟨o1,o2⟩:=N2 l i;have e:HW l (i+1)=⟨tm 54 [(3,.ow 16003),(7,ZT l),(8,nI l.length),(9,nI ((i+1:Nat):Int))],[(16003,.arr 267 2 ((Zi l i).map ZI.dv))],20⟩:=by
  have hpa:CL l i=p:=by simp[CL,hp]
  rw[HW,Zi,Nl,hpa,if_neg hk]
 rw[e];exact sF [] []<|Fh 12 [.el p.dv]<|Fh 25 [.br Y]<|Ftb 10 (X ((i:Int)<(l.length:Int)))<|Fa ((⟨by omega,GF hp⟩):0<=(i:Int)/\(Z Z0.dv l)[(i:Int).toNat]?=O p.dv)<|Fg 15 (by rw[Lb]:(↑(Z ZI.dv (Zi l i)).length:Int)=(↑(Zi l i).length:Int))<|Fi 16 ((↑(Zi l i).length:Int)-1)<|Fa (by simp[hk]:(p.K != 0)=Y)<|Fx 52 i Fz
def ZeV(l:List Z0)(hl:l.length<=1048576)(i:Nat)(p:Z0)(hp:l[i]?=O p)(hk:p.K=0)(ho:Zi l i≠[])(hm:(Br (Zi l i)).frm+(Br (Zi l i)).len=i):CP (Zl f231 0) (HW l i).st .nrm (HW l (i+1)).st:=by
 have hi:i<l.length:=(Ld.1 hp).1;obtain⟨o1,o2⟩:=N2 l i;have hlast:=o2 _ (Lj (Np ho));have hpos:0<(Zi l i).length:=Lz.2 ho;have e:Zi l (i+1)=(Zi l i).dropLast++[⟨(Br (Zi l i)).frm,(Br (Zi l i)).len+1⟩]:=by
  have hpa:CL l i=p:=by simp[CL,hp]
  rw[Zi,Nl,hpa,if_pos hk,if_pos ⟨ho,hm⟩]
 have hidx:0<=((Zi l i).length:Int)-1/\(((Zi l i).length:Int)-1).toNat<(Z ZI.dv (Zi l i)).length:=by rw[Lb];omega
 have hat:(Z ZI.dv (Zi l i))[(((Zi l i).length:Int)-1).toNat]?=O (Br (Zi l i)).dv:=by
  rw[show(((Zi l i).length:Int)-1).toNat=(Zi l i).length-1 from by omega];exact PL (Np ho)
 have qz0:(Z ZI.dv (Zi l i)).set ((↑(Zi l i).length:Int)-(1:Int)).toNat (Et (Br (Zi l i)).dv ((0:Nat) + #[Lm "From" (3:Nat) (0:Nat) M "" "" (0:Nat),Lm "Len" (3:Nat) (1:Nat) M "" "" (8:Nat)][(1:Nat)].3) [Zd ((Br (Zi l i)).len+(1:Int))])=Z ZI.dv (Zi l (i+(1:Nat))):=by
  rw[e,<-Z7y ho,show(((Zi l i).length:Int)-1).toNat=(Zi l i).length-1 from by omega];rfl
 exact sF [] []<|Fh 12 [.el p.dv]<|Fh 16 [.int ((↑(Zi l i).length:Int)-1)]<|Fh 25 [.br M]<|Fh 34 [.el (Br (Zi l i)).dv]<|Fh 39 [.el (Br (Zi l i)).dv]<|Fh 40 [.int ↑i]<|Fh 43 [.br Y]<|Fh 48 [.el (Br (Zi l i)).dv]<|Fh 49 [.int ((Br (Zi l i)).len+1)]<|Fh 10051 [.el (Br (Zi l i)).dv,.els ((Zi l (i+1)).map ZI.dv)]<|Fh 52 [.int (↑(i+1):Int)]<|Ft 10 ((decide_eq_true oq):X ((i:Int)<(l.length:Int))=Y)<|Fa ((⟨by omega,GF hp⟩):0<=(i:Int)/\(Z Z0.dv l)[(i:Int).toNat]?=O p.dv)<|Fg 15 (by rw[Lb]:(↑(Z ZI.dv (Zi l i)).length:Int)=(↑(Zi l i).length:Int))<|Fa ((BX oq oq):Lc.wrap ((↑(Zi l i).length:Int)-1)=(↑(Zi l i).length:Int)-1)<|Fa (by simp[hk]:(p.K != 0)=M)<|Fa ((λ_=>hidx):X (0<=(↑(Zi l i).length:Int)-1)=Y->0<=(↑(Zi l i).length:Int)-1/\((↑(Zi l i).length:Int)-1).toNat<(Z ZI.dv (Zi l i)).length)<|Fa ((λ_=>hat):X (0<=(↑(Zi l i).length:Int)-1)=Y->(Z ZI.dv (Zi l i))[((↑(Zi l i).length:Int)-1).toNat]?=O (Br (Zi l i)).dv)<|Fa ((λ_=>hidx):X (0<=(↑(Zi l i).length:Int)-1)=Y->0<=(↑(Zi l i).length:Int)-1/\((↑(Zi l i).length:Int)-1).toNat<(Z ZI.dv (Zi l i)).length)<|Fa ((λ_=>hat):X (0<=(↑(Zi l i).length:Int)-1)=Y->(Z ZI.dv (Zi l i))[((↑(Zi l i).length:Int)-1).toNat]?=O (Br (Zi l i)).dv)<|Fa ((λ_=>by rw[hm];exact BX oq oq):X (0<=(↑(Zi l i).length:Int)-1)=Y->Lc.wrap ((Br (Zi l i)).frm+(Br (Zi l i)).len)=(i:Int))<|Fa (by simp;omega:(X (0<=(↑(Zi l i).length:Int)-1)&&(i:Int)==(i:Int))=Y)<|Fa (hidx:0<=(↑(Zi l i).length:Int)-1/\((↑(Zi l i).length:Int)-1).toNat<(Z ZI.dv (Zi l i)).length)<|Fa (hat:(Z ZI.dv (Zi l i))[((↑(Zi l i).length:Int)-1).toNat]?=O (Br (Zi l i)).dv)<|Fa ((BX oq oq):Lc.wrap ((Br (Zi l i)).len+1)=(Br (Zi l i)).len+1)<|Fa (hidx:0<=(↑(Zi l i).length:Int)-1/\((↑(Zi l i).length:Int)-1).toNat<(Z ZI.dv (Zi l i)).length)<|Fa (hat:(Z ZI.dv (Zi l i))[((↑(Zi l i).length:Int)-1).toNat]?=O (Br (Zi l i)).dv)<|Fa (qz0:(Z ZI.dv (Zi l i)).set ((↑(Zi l i).length:Int)-1).toNat (Et (Br (Zi l i)).dv (0 + #[Lm "From" 3 0 M "" "" 0,Lm "Len" 3 1 M "" "" 8][1].3) [Zd ((Br (Zi l i)).len+1)])=Z ZI.dv (Zi l (i+1)))<|Fa ((BX oq oq):Lc.wrap ((i:Int)+1)=(↑(i+1):Int)) Fz
def Zl3(l:List Z0)(hl:l.length<=1048576)(i:Nat)(p:Z0)(hp:l[i]?=O p)(hk:p.K=0)(ho:¬ (Zi l i≠[]/\(Br (Zi l i)).frm+(Br (Zi l i)).len=i)):CP (Zl f231 0) (HW l i).st .nrm (HW l (i+1)).st:=by
 have hi:i<l.length:=(Ld.1 hp).1;obtain⟨o1,o2⟩:=N2 l i;have e:Zi l (i+1)=Zi l i++[⟨i,1⟩]:=by
  have hpa:CL l i=p:=by simp[CL,hp]
  rw[Zi,Nl,hpa,if_pos hk,if_neg ho]
 have hne:X (0<=((Zi l i).length:Int)-1)=Y->Zi l i≠[]:=by
  intro hd h0;rw[h0]at hd;simp at hd
 have hidx:X (0<=((Zi l i).length:Int)-1)=Y->0<=((Zi l i).length:Int)-1/\(((Zi l i).length:Int)-1).toNat<(Z ZI.dv (Zi l i)).length:=by
  intro hd;have:=of_decide_eq_true hd;rw[Lb];omega
 have hat:X (0<=((Zi l i).length:Int)-1)=Y->(Z ZI.dv (Zi l i))[(((Zi l i).length:Int)-1).toNat]?=O (Br (Zi l i)).dv:=by
  intro hd;rw[show(((Zi l i).length:Int)-1).toNat=(Zi l i).length-1 from by omega];exact PL (Np (hne hd))
 have qz0:(X ((0:Int)<=(↑(Zi l i).length:Int)-(1:Int))&&Lc.wrap ((Br (Zi l i)).frm+(Br (Zi l i)).len)==(i:Int))=M:=by
  cases hd:X (0<=((Zi l i).length:Int)-1)with
  |false=>simp
  |true =>
   have h1:=hne hd;have hlast:=o2 _ (Lj (Np h1));rw[BX oq oq];simp;intro hh;exact ho ⟨h1,hh⟩
 exact sF [(200021,16003)] []<|Fh 12 [.el p.dv]<|Fh 25 [.br M]<|Fh 34 [.el (Br (Zi l i)).dv]<|Fh 39 [.el (Br (Zi l i)).dv]<|Fh 43 [.br M]<|Fh 21 [.els ((Zi l (i+1)).map ZI.dv)]<|Ftb 10 (X ((i:Int)<(l.length:Int)))<|Fa ((⟨by omega,GF hp⟩):0<=(i:Int)/\(Z Z0.dv l)[(i:Int).toNat]?=O p.dv)<|Fg 15 (by rw[Lb]:(↑(Z ZI.dv (Zi l i)).length:Int)=(↑(Zi l i).length:Int))<|Fi 16 ((↑(Zi l i).length:Int)-1)<|Fa (by simp[hk]:(p.K != 0)=M)<|Fa (hidx:X (0<=(↑(Zi l i).length:Int)-1)=Y->0<=(↑(Zi l i).length:Int)-1/\((↑(Zi l i).length:Int)-1).toNat<(Z ZI.dv (Zi l i)).length)<|Fa (hat:X (0<=(↑(Zi l i).length:Int)-1)=Y->(Z ZI.dv (Zi l i))[((↑(Zi l i).length:Int)-1).toNat]?=O (Br (Zi l i)).dv)<|Fa (hidx:X (0<=(↑(Zi l i).length:Int)-1)=Y->0<=(↑(Zi l i).length:Int)-1/\((↑(Zi l i).length:Int)-1).toNat<(Z ZI.dv (Zi l i)).length)<|Fa (hat:X (0<=(↑(Zi l i).length:Int)-1)=Y->(Z ZI.dv (Zi l i))[((↑(Zi l i).length:Int)-1).toNat]?=O (Br (Zi l i)).dv)<|Fa (qz0:(X (0<=(↑(Zi l i).length:Int)-1)&&Lc.wrap ((Br (Zi l i)).frm+(Br (Zi l i)).len)==(i:Int))=M)<|Fa (by rw[Lb];simp;omega:(Z ZI.dv (Zi l i)).length+((La 1 [Zd 0,Zd 0]).set 0 [Zd (i:Int),Zd 1]).length<=2^30)<|Fa (by rw[e];simp[ZI.dv]:Z ZI.dv (Zi l i)++(La 1 [Zd 0,Zd 0]).set 0 [Zd (i:Int),Zd 1]=Z ZI.dv (Zi l (i+1)))<|Fx 52 i Fz
def Za0(l:List Z0)(hl:l.length<=1048576)(i:Nat)(d:i<l.length):CP (Zl f231 0) (HW l i).st .nrm (HW l (i+1)).st:=by have c:=Le d;by_cases a:l[i].K=0;by_cases b:Zi l i≠[]/\(Br (Zi l i)).frm+(Br (Zi l i)).len=i;exact ZeV l hl i _ c a b.1 b.2;exact Zl3 l hl i _ c a b;exact Zgn l hl i _ c a
def ZcK l:CP (Zl f231 0) (HW l l.length).st (.ext 0) (Tg.st ⟨tm 54 [(3,.ow 16003)],[(16003,.arr 267 2 ((Zi l l.length).map ZI.dv))],60⟩):=by exact sF [] []<|Ffb 10 (X ((l.length:Int)<(l.length:Int))) Fz
def runs(l:List Z0):List ZI:=Zi l l.length
def Z7j(l:List Z0)(hl:l.length<=1048576):GP 231 [ZT l] M (Ic (runs l)) []:=by exact gF [] func231 []<|Fh 3 [.own]<|Fk (0,HW l 0,.nrm,⟨tm 54 [(3,.ow 16003)],[(16003,.arr 267 2 ((Zi l l.length).map ZI.dv))],60⟩)<|Fg 8 (by rw[Lb]:(↑(Z Z0.dv l).length:Int)=(l.length:Int))<|Fa ((Bp (S:=λi=>(HW l i).st) l.length kr (λi a=>Za0 l hl i a) (ZcK l)):CP (Zk f231 0) (HW l 0).st Ex.nrm (Tg.mk (tm 54 [(3,AV.ow 16003)]) [(16003,Z4.arr 267 2 (Z ZI.dv (Zi l l.length)))] 60).st) Fz
def I9(l:List Z0)(i:Nat):Tg:=⟨tm 54 [(0,ZT l),(3,.ow 16003),(4,nI i)],[(16003,.arr 267 2 ((Zi l i).map ZI.dv))],20⟩
def Zei(l:List Z0)(hl:l.length<=1048576)(i:Nat)(p:Z0)(hp:l[i]?=O p)(hk:p.K≠0):CP (Zl f226 0) (I9 l i).st .nrm (I9 l (i+1)).st:=by
 have hi:i<l.length:=(Ld.1 hp).1;have e:I9 l (i+1)=⟨tm 54 [(0,ZT l),(3,.ow 16003),(4,nI ((i+1:Nat):Int))],[(16003,.arr 267 2 ((Zi l i).map ZI.dv))],20⟩:=by
  have hpa:CL l i=p:=by simp[CL,hp]
  rw[I9,Zi,Nl,hpa,if_neg hk]
 rw[e];exact sF [] []<|Fh 14 [.el p.dv]<|Fg 8 (by rw[Lb]:(↑(Z Z0.dv l).length:Int)=(l.length:Int))<|Ftb 9 (X ((i:Int)<(l.length:Int)))<|Fa ((⟨by omega,GF hp⟩):0<=(i:Int)/\(Z Z0.dv l)[(i:Int).toNat]?=O p.dv)<|Ft 17 (by simp[hk]:(p.K != 0)=Y)<|Fx 11 i Fz
def Zgy(l:List Z0)(hl:l.length<=1048576)(i:Nat)(p:Z0)(hp:l[i]?=O p)(hk:p.K=0)(ho:Zi l i≠[])(hm:(Br (Zi l i)).frm+(Br (Zi l i)).len=i):CP (Zl f226 0) (I9 l i).st .nrm (I9 l (i+1)).st:=by
 have hi:i<l.length:=(Ld.1 hp).1;obtain⟨o1,o2⟩:=N2 l i;have hlast:=o2 _ (Lj (Np ho));have hpos:0<(Zi l i).length:=Lz.2 ho;have e:Zi l (i+1)=(Zi l i).dropLast++[⟨(Br (Zi l i)).frm,(Br (Zi l i)).len+1⟩]:=by
  have hpa:CL l i=p:=by simp[CL,hp]
  rw[Zi,Nl,hpa,if_pos hk,if_pos ⟨ho,hm⟩]
 have hidx:0<=((Zi l i).length:Int)-1/\(((Zi l i).length:Int)-1).toNat<(Z ZI.dv (Zi l i)).length:=by rw[Lb];omega
 have hat:(Z ZI.dv (Zi l i))[(((Zi l i).length:Int)-1).toNat]?=O (Br (Zi l i)).dv:=by
  rw[show(((Zi l i).length:Int)-1).toNat=(Zi l i).length-1 from by omega];exact PL (Np ho)
 have hset:(Z ZI.dv (Zi l i)).set (((Zi l i).length:Int)-1).toNat [Zd (Br (Zi l i)).frm,Zd ((Br (Zi l i)).len+1)]=Z ZI.dv (Zi l (i+1)):=by
  rw[e,<-Z7y ho,show(((Zi l i).length:Int)-1).toNat=(Zi l i).length-1 from by omega];rfl
 have hw:Lc.wrap (((Zi l i).length:Int)-1)=((Zi l i).length:Int)-1:=BX oq oq;exact sF [] []<|Fh 14 [.el p.dv]<|Fh 28 [.el (Br (Zi l i)).dv]<|Fh 31 [.int ((↑(Zi l i).length:Int)-1)]<|Fh 34 [.el (Br (Zi l i)).dv]<|Fh 35 [.int ↑i]<|Fh 41 [.int ((↑(Zi l i).length:Int)-1)]<|Fh 44 [.el (Br (Zi l i)).dv]<|Fh 45 [.int ((Br (Zi l i)).len+1)]<|Fh 10047 [.el (Br (Zi l i)).dv,.els ((Zi l (i+1)).map ZI.dv)]<|Fh 11 [.int (↑(i+1):Int)]<|Fg 8 (by rw[Lb]:(↑(Z Z0.dv l).length:Int)=(l.length:Int))<|Ft 9 ((decide_eq_true oq):X ((i:Int)<(l.length:Int))=Y)<|Fa ((⟨by omega,GF hp⟩):0<=(i:Int)/\(Z Z0.dv l)[(i:Int).toNat]?=O p.dv)<|Ff 17 (by simp[hk]:(p.K != 0)=M)<|Fg 19 (by rw[Lb]:(↑(Z ZI.dv (Zi l i)).length:Int)=(↑(Zi l i).length:Int))<|Fa ((λ_=>hw):X (0<(↑(Zi l i).length:Int))=Y->Lc.wrap ((↑(Zi l i).length:Int)-1)=(↑(Zi l i).length:Int)-1)<|Fa ((λ_=>hidx):X (0<(↑(Zi l i).length:Int))=Y->0<=(↑(Zi l i).length:Int)-1/\((↑(Zi l i).length:Int)-1).toNat<(Z ZI.dv (Zi l i)).length)<|Fa ((λ_=>hat):X (0<(↑(Zi l i).length:Int))=Y->(Z ZI.dv (Zi l i))[((↑(Zi l i).length:Int)-1).toNat]?=O (Br (Zi l i)).dv)<|Fa ((λ_=>hw):X (0<(↑(Zi l i).length:Int))=Y->Lc.wrap ((↑(Zi l i).length:Int)-1)=(↑(Zi l i).length:Int)-1)<|Fa ((λ_=>hidx):X (0<(↑(Zi l i).length:Int))=Y->0<=(↑(Zi l i).length:Int)-1/\((↑(Zi l i).length:Int)-1).toNat<(Z ZI.dv (Zi l i)).length)<|Fa ((λ_=>hat):X (0<(↑(Zi l i).length:Int))=Y->(Z ZI.dv (Zi l i))[((↑(Zi l i).length:Int)-1).toNat]?=O (Br (Zi l i)).dv)<|Fa ((λ_=>by rw[hm];exact BX oq oq):X (0<(↑(Zi l i).length:Int))=Y->Lc.wrap ((Br (Zi l i)).frm+(Br (Zi l i)).len)=(i:Int))<|Ft 38 (by simp;omega:(X (0<(↑(Zi l i).length:Int))&&(i:Int)==(i:Int))=Y)<|Fg 25 (hw:Lc.wrap ((↑(Zi l i).length:Int)-1)=(↑(Zi l i).length:Int)-1)<|Fa (hidx:0<=(↑(Zi l i).length:Int)-1/\((↑(Zi l i).length:Int)-1).toNat<(Z ZI.dv (Zi l i)).length)<|Fa (hat:(Z ZI.dv (Zi l i))[((↑(Zi l i).length:Int)-1).toNat]?=O (Br (Zi l i)).dv)<|Fa ((BX oq oq):Lc.wrap ((Br (Zi l i)).len+1)=(Br (Zi l i)).len+1)<|Fa (hidx:0<=(↑(Zi l i).length:Int)-1/\((↑(Zi l i).length:Int)-1).toNat<(Z ZI.dv (Zi l i)).length)<|Fa (hat:(Z ZI.dv (Zi l i))[((↑(Zi l i).length:Int)-1).toNat]?=O (Br (Zi l i)).dv)<|Fa (hset:(Z ZI.dv (Zi l i)).set ((↑(Zi l i).length:Int)-1).toNat (Et (Br (Zi l i)).dv (0 + #[Lm "From" 3 0 M "" "" 0,Lm "Len" 3 1 M "" "" 8][1].3) [Zd ((Br (Zi l i)).len+1)])=Z ZI.dv (Zi l (i+1)))<|Fa ((BX oq oq):Lc.wrap ((i:Int)+1)=(↑(i+1):Int)) Fz
def ZkK(l:List Z0)(hl:l.length<=1048576)(i:Nat)(p:Z0)(hp:l[i]?=O p)(hk:p.K=0)(ho:¬ (Zi l i≠[]/\(Br (Zi l i)).frm+(Br (Zi l i)).len=i)):CP (Zl f226 0) (I9 l i).st .nrm (I9 l (i+1)).st:=by
 have hi:i<l.length:=(Ld.1 hp).1;obtain⟨o1,o2⟩:=N2 l i;have e:Zi l (i+1)=Zi l i++[⟨i,1⟩]:=by
  have hpa:CL l i=p:=by simp[CL,hp]
  rw[Zi,Nl,hpa,if_pos hk,if_neg ho]
 have hne:X (0<((Zi l i).length:Int))=Y->Zi l i≠[]:=by
  intro hd h0;rw[h0]at hd;simp at hd
 have hidx:X (0<((Zi l i).length:Int))=Y->0<=((Zi l i).length:Int)-1/\(((Zi l i).length:Int)-1).toNat<(Z ZI.dv (Zi l i)).length:=by
  intro hd;have:=of_decide_eq_true hd;rw[Lb];omega
 have hat:X (0<((Zi l i).length:Int))=Y->(Z ZI.dv (Zi l i))[(((Zi l i).length:Int)-1).toNat]?=O (Br (Zi l i)).dv:=by
  intro hd;rw[show(((Zi l i).length:Int)-1).toNat=(Zi l i).length-1 from by omega];exact PL (Np (hne hd))
 have hw:Lc.wrap (((Zi l i).length:Int)-1)=((Zi l i).length:Int)-1:=BX oq oq;have qz0:(X ((0:Int)<(↑(Zi l i).length:Int))&&Lc.wrap ((Br (Zi l i)).frm+(Br (Zi l i)).len)==(i:Int))=M:=by
  cases hd:X (0<((Zi l i).length:Int))with
  |false=>simp
  |true =>
   have h1:=hne hd;have hlast:=o2 _ (Lj (Np h1));rw[BX oq oq];simp;intro hh;exact ho ⟨h1,hh⟩
 exact sF [(192052,16003)] []<|Fh 14 [.el p.dv]<|Fh 25 [.int ((↑(Zi l i).length:Int)-1)]<|Fh 28 [.el (Br (Zi l i)).dv]<|Fh 31 [.int ((↑(Zi l i).length:Int)-1)]<|Fh 34 [.el (Br (Zi l i)).dv]<|Fh 52 [.els ((Zi l (i+1)).map ZI.dv)]<|Fg 8 (by rw[Lb]:(↑(Z Z0.dv l).length:Int)=(l.length:Int))<|Ftb 9 (X ((i:Int)<(l.length:Int)))<|Fa ((⟨by omega,GF hp⟩):0<=(i:Int)/\(Z Z0.dv l)[(i:Int).toNat]?=O p.dv)<|Ff 17 (by simp[hk]:(p.K != 0)=M)<|Fg 19 (by rw[Lb]:(↑(Z ZI.dv (Zi l i)).length:Int)=(↑(Zi l i).length:Int))<|Fa ((λ_=>hw):X (0<(↑(Zi l i).length:Int))=Y->Lc.wrap ((↑(Zi l i).length:Int)-1)=(↑(Zi l i).length:Int)-1)<|Fa (hidx:X (0<(↑(Zi l i).length:Int))=Y->0<=(↑(Zi l i).length:Int)-1/\((↑(Zi l i).length:Int)-1).toNat<(Z ZI.dv (Zi l i)).length)<|Fa (hat:X (0<(↑(Zi l i).length:Int))=Y->(Z ZI.dv (Zi l i))[((↑(Zi l i).length:Int)-1).toNat]?=O (Br (Zi l i)).dv)<|Fa ((λ_=>hw):X (0<(↑(Zi l i).length:Int))=Y->Lc.wrap ((↑(Zi l i).length:Int)-1)=(↑(Zi l i).length:Int)-1)<|Fa (hidx:X (0<(↑(Zi l i).length:Int))=Y->0<=(↑(Zi l i).length:Int)-1/\((↑(Zi l i).length:Int)-1).toNat<(Z ZI.dv (Zi l i)).length)<|Fa (hat:X (0<(↑(Zi l i).length:Int))=Y->(Z ZI.dv (Zi l i))[((↑(Zi l i).length:Int)-1).toNat]?=O (Br (Zi l i)).dv)<|Ff 38 (qz0:(X (0<(↑(Zi l i).length:Int))&&Lc.wrap ((Br (Zi l i)).frm+(Br (Zi l i)).len)==(i:Int))=M)<|Fa (by rw[Lb];simp;omega:(Z ZI.dv (Zi l i)).length+((La 1 [Zd 0,Zd 0]).set 0 [Zd (i:Int),Zd 1]).length<=2^30)<|Fa (by rw[e];simp[ZI.dv]:Z ZI.dv (Zi l i)++(La 1 [Zd 0,Zd 0]).set 0 [Zd (i:Int),Zd 1]=Z ZI.dv (Zi l (i+1)))<|Fx 11 i Fz
def ZjA(l:List Z0)(hl:l.length<=1048576)(i:Nat)(d:i<l.length):CP (Zl f226 0) (I9 l i).st .nrm (I9 l (i+1)).st:=by have c:=Le d;by_cases a:l[i].K=0;by_cases b:Zi l i≠[]/\(Br (Zi l i)).frm+(Br (Zi l i)).len=i;exact Zgy l hl i _ c a b.1 b.2;exact ZkK l hl i _ c a b;exact Zei l hl i _ c a
def Zf8 l:CP (Zl f226 0) (I9 l l.length).st (.ext 0) (Tg.st ⟨tm 54 [(3,.ow 16003)],[(16003,.arr 267 2 ((Zi l l.length).map ZI.dv))],60⟩):=by exact sF [] []<|Fg 8 (by rw[Lb]:(↑(Z Z0.dv l).length:Int)=(l.length:Int))<|Ffb 9 (X ((l.length:Int)<(l.length:Int))) Fz
def Z2J(l:List Z0)(hl:l.length<=1048576):GP 226 [ZT l] M (Ic (runs l)) []:=by exact gF [] func226 []<|Fh 3 [.own]<|Fk (0,I9 l 0,.nrm,⟨tm 54 [(3,.ow 16003)],[(16003,.arr 267 2 ((Zi l l.length).map ZI.dv))],60⟩)<|Fa ((Bp (S:=λi=>(I9 l i).st) l.length kr (λi a=>ZjA l hl i a) (Zf8 l)):CP (Zk f226 0) (I9 l 0).st Ex.nrm (Tg.mk (tm 54 [(3,AV.ow 16003)]) [(16003,Z4.arr 267 2 (Z ZI.dv (Zi l l.length)))] 60).st) Fz
def EJ(l:List Z0):Nat->Nat|0=>0|i+1=>EJ l i+(if(CL l i).K=0 then 0 else 1)
def O9 l:∀i,EJ l i<=i
 |0=>LB _
 |i+1=>by
  have:=O9 l i;grind[EJ]
def Cs(l:List Z0):Nat:=EJ l l.length
def Sc(l:List Z0)(i:Nat):Tg:=⟨tm 19 [(3,nI (EJ l i)),(6,ZT l),(7,nI l.length),(8,nI i)],[],20⟩
def Zex(l:List Z0)(hl:l.length<=1048576)(i:Nat)(a:i<l.length):CP (Zl f249 0) (Sc l i).st .nrm (Sc l (i+1)).st:=by
 have hp:=Le a;have d:=O9 l i;have f:CL l i=l[i]:=by grind[CL]
 by_cases hk:l[i].K=0;have e:EJ l (i+1)=EJ l i:=by grind[EJ]
 rw[show Sc l (i+1)=⟨tm 19 [(3,nI (EJ l i)),(6,ZT l),(7,nI l.length),(8,nI ((i+1:Nat):Int))],[],20⟩from by rw[Sc,e]];let b:=l.get (Fin.mk i a);exact sF [] []<|Fh 10 [.el b.dv]<|Ft 9 (by grind[BX]:X ((i:Int)<(l.length:Int))=Y)<|Fa (by grind[BX]:0<=(i:Int)/\(Z Z0.dv l)[(i:Int).toNat]?=O b.dv)<|Ff 14 (by grind[BX]:(b.K != 0)=M)<|Fg 17 (by grind[BX]:Lc.wrap ((i:Int)+1)=(↑(i+1):Int)) Fz;have e:EJ l (i+1)=EJ l i+1:=by grind[EJ]
 let c:=l.get (Fin.mk i a);exact sF [] []<|Fh 10 [.el c.dv]<|Ft 9 (by grind[BX]:X ((i:Int)<(l.length:Int))=Y)<|Fa (by grind[BX]:0<=(i:Int)/\(Z Z0.dv l)[(i:Int).toNat]?=O c.dv)<|Ft 14 (by grind[BX]:(c.K != 0)=Y)<|Fg 16 (by grind[BX]:Lc.wrap ((↑(EJ l i):Int)+1)=(↑(EJ l (i+1)):Int))<|Fg 17 (by grind[BX]:Lc.wrap ((i:Int)+1)=(↑(i+1):Int)) Fz
def Zeu l:CP (Zl f249 0) (Sc l l.length).st (.ext 0) (Tg.st ⟨tm 19 [(3,nI (Cs l))],[],60⟩):=by exact sF [] []<|Ffb 9 (X ((l.length:Int)<(l.length:Int))) Fz
def ZcV(l:List Z0)(hl:l.length<=1048576):GP 249 [ZT l] Y (nI (Cs l)) []:=by exact gF [] func249 []<|Fk (0,Sc l 0,.nrm,⟨tm 19 [(3,nI (Cs l))],[],60⟩)<|Fg 7 (by grind:(↑(Z Z0.dv l).length:Int)=(l.length:Int))<|Fa ((Bp (S:=λi=>(Sc l i).st) l.length kr (λi a=>Zex l hl i a) (Zeu l)):CP (Zk f249 0) (Sc l 0).st Ex.nrm (Tg.mk (tm 19 [(3,nI (↑(Cs l):Int))]) [] 60).st) Fz
def Sr(l:List Z0)(i:Nat):Tg:=⟨tm 20 [(0,ZT l),(3,nI (EJ l i)),(4,nI i)],[],20⟩
def Zky(l:List Z0)(hl:l.length<=1048576)(i:Nat)(a:i<l.length):CP (Zl f46 0) (Sr l i).st .nrm (Sr l (i+1)).st:=by
 have hp:=Le a;have d:=O9 l i;have f:CL l i=l[i]:=by grind[CL]
 by_cases hk:l[i].K=0;have e:EJ l (i+1)=EJ l i:=by grind[EJ]
 rw[show Sr l (i+1)=⟨tm 20 [(0,ZT l),(3,nI (EJ l i)),(4,nI ((i+1:Nat):Int))],[],20⟩from by rw[Sr,e]];let b:=l.get (Fin.mk i a);exact sF [] []<|Fh 13 [.el b.dv]<|Fg 7 (by grind[BX]:(↑(Z Z0.dv l).length:Int)=(l.length:Int))<|Ft 8 (by grind[BX]:X ((i:Int)<(l.length:Int))=Y)<|Fa (by grind[BX]:0<=(i:Int)/\(Z Z0.dv l)[(i:Int).toNat]?=O b.dv)<|Ff 16 (by grind[BX]:(b.K != 0)=M)<|Fg 10 (by grind[BX]:Lc.wrap ((i:Int)+1)=(↑(i+1):Int)) Fz;have e:EJ l (i+1)=EJ l i+1:=by grind[EJ]
 let c:=l.get (Fin.mk i a);exact sF [] []<|Fh 13 [.el c.dv]<|Fg 7 (by grind[BX]:(↑(Z Z0.dv l).length:Int)=(l.length:Int))<|Ft 8 (by grind[BX]:X ((i:Int)<(l.length:Int))=Y)<|Fa (by grind[BX]:0<=(i:Int)/\(Z Z0.dv l)[(i:Int).toNat]?=O c.dv)<|Ft 16 (by grind[BX]:(c.K != 0)=Y)<|Fg 18 (by grind[BX]:Lc.wrap ((↑(EJ l i):Int)+1)=(↑(EJ l (i+1)):Int))<|Fg 10 (by grind[BX]:Lc.wrap ((i:Int)+1)=(↑(i+1):Int)) Fz
def Zfq l:CP (Zl f46 0) (Sr l l.length).st (.ext 0) (Tg.st ⟨tm 20 [(3,nI (Cs l))],[],60⟩):=by exact sF [] []<|FO 7 8 Z0.dv l Fz
def Mo(l:List Z0)(hl:l.length<=1048576):GP 46 [ZT l] Y (nI (Cs l)) []:=by exact gF [] func46 []<|Fk (0,Sr l 0,.nrm,⟨tm 20 [(3,nI (Cs l))],[],60⟩)<|Fa ((Bp (S:=λi=>(Sr l i).st) l.length kr (λi a=>Zky l hl i a) (Zfq l)):CP (Zk f46 0) (Sr l 0).st Ex.nrm (Tg.mk (tm 20 [(3,nI (↑(Cs l):Int))]) [] 60).st) Fz
def HN:List ZI->Int->Int|[],_=>-1|r::l,k=>if k<=r.len then r.frm else HN l k
def first(l:List Z0)(k:Int):Int:=if k<1 then -1 else HN (runs l) k
def Z24:∀{l:List ZI} {k:Int},(l.all λr=>X (r.len<k))=Y->HN l k=-1
 |[],_,_=>rfl
 |r::l,k,h=>by
  simp only[LD,Lf,decide_eq_true_eq]at h;rw[HN,if_neg oq,Z24 h.2]
def Z2c:∀{l:List ZI} {k:Int} {j:Nat} {r:ZI},l[j]?=O r->k<=r.len->(∀i:Nat,i<j->∃y,l[i]?=O y/\X (y.len<k)=Y)->HN l k=r.frm
 |[],_,_,_,h,_,_=>by simp at h
 |x::l,k,0,r,h,hr,_=>by
  grind[HN]
 |x::l,k,j+1,r,h,hr,hb=>by
  obtain⟨y,a,b⟩:=hb 0 oq;simp at a b;subst a;rw[HN,if_neg oq];exact Z2c (by simpa using h) hr λi hi=>by
   grind
def Z8d{l}:(runs l).length<=l.length:=(N2 l l.length).1
def Nn(a:List ZI)(k:Int)(i:Nat):Tg:=⟨tm 23 [(1,nI k),(4,nI 0),(10,Ic a),(11,nI a.length),(12,nI i)],[],20⟩
def Z4d(a:List ZI)(k:Int)(i:Nat)(r:ZI)(hl:a.length<=1048576)(b:a[i]?=O r)(hk:r.len<k):CP (Zl f210 0) (Nn a k i).st .nrm (Nn a k (i+1)).st:=by have hi:i<a.length:=(Ld.1 b).1;exact sF [] []<|Fh 14 [.el r.dv]<|Ftb 13 (X ((i:Int)<(a.length:Int)))<|Fa (by grind[BX]:0<=(i:Int)/\(Z ZI.dv a)[(i:Int).toNat]?=O r.dv)<|Ffb 19 (X (k<=r.len))<|Fx 22 i Fz
def Zbq(a:List ZI)(k:Int)(i:Nat)(r:ZI)(b:a[i]?=O r)(hk:k<=r.len):CP (Zl f210 0) (Nn a k i).st .ret (Tg.st ⟨tm 23 [(4,nI r.frm)],[],60⟩):=by have hi:i<a.length:=(Ld.1 b).1;exact sF [] []<|Fh 14 [.el r.dv]<|Ftb 13 (X ((i:Int)<(a.length:Int)))<|Fa (by grind:0<=(i:Int)/\(Z ZI.dv a)[(i:Int).toNat]?=O r.dv)<|Ftb 19 (X (k<=r.len)) Fz
def Zh5 a k:CP (Zl f210 0) (Nn a k a.length).st (.ext 0) (Tg.st ⟨tm 23 [],[],60⟩):=by exact sF [] []<|Ffb 13 (X ((a.length:Int)<(a.length:Int))) Fz
def Z05(l:List Z0) k(hl:l.length<=1048576):GP 210 [ZT l,nI k] Y (nI (first l k)) []:=by
 by_cases b:k<1;rw[first,if_pos b];exact gF [] func210 []<|Ftb 8 (X (k<1)) Fz;rw[first,if_neg b];have h:=Z8d (l:=l);cases ha:(runs l).all λr=>X (r.len<k)with
 |true =>rw[Z24 ha];refine Zb [((8:Nat),[Hint.br M]),((10:Nat),[Hint.call M (Ic (runs l)) []]),((11:Nat),[Hint.int (↑(runs l).length:Int)])] [((0:Nat),Nn (runs l) k 0,.nrm,⟨tm 23 [],[],60⟩)] [] dd func210 [] (φ:=X (k<(1:Int))=M/\M=M/\GP 231 [AV.d (DV.sl (4:Nat) (Z Z0.dv l))] M (Ic (runs l)) []/\(↑(Z ZI.dv (runs l)).length:Int)=(↑(runs l).length:Int)/\CP (Zk f210 (0:Nat)) (Nn (runs l) k (0:Nat)).st Ex.nrm (Tg.mk (tm (23:Nat) []) [] (60:Nat)).st) ?_ kr kr;refine⟨decide_eq_false b,rfl,Z7j l hl,by grind,Bp (S:=λi=>(Nn (runs l) k i).st) (runs l).length kr (λi a=>?_) (Zh5 _ _)⟩;have:=LF.1 ha _ (LI a);exact Z4d _ k i _ oq (Le a) (by grind)
 |false =>
  obtain⟨j,r,c,h2,d⟩:=Md ha;have e:k<=r.len:=by grind
  rw[Z2c c e d];refine Zb [((8:Nat),[Hint.br M]),((10:Nat),[Hint.call M (Ic (runs l)) []]),((11:Nat),[Hint.int (↑(runs l).length:Int)])] [((0:Nat),Nn (runs l) k 0,.ret,⟨tm 23 [(4,nI r.frm)],[],60⟩)] [] dd func210 [] (φ:=X (k<(1:Int))=M/\M=M/\GP 231 [AV.d (DV.sl (4:Nat) (Z Z0.dv l))] M (Ic (runs l)) []/\(↑(Z ZI.dv (runs l)).length:Int)=(↑(runs l).length:Int)/\CP (Zk f210 (0:Nat)) (Nn (runs l) k (0:Nat)).st Ex.ret (Tg.mk (tm (23:Nat) [((4:Nat),nI r.frm)]) [] (60:Nat)).st) ?_ kr kr;refine⟨decide_eq_false b,rfl,Z7j l hl,by grind,Ev (S:=λi=>(Nn (runs l) k i).st) j kr (λi a=>?_) (Zbq _ k j r c e)⟩;obtain⟨y,f,g⟩:=d i a;exact Z4d _ k i y oq f (by simpa using g)
def IA(a:List ZI)(k:Int)(i:Nat):Tg:=⟨tm 31 [(1,nI k),(4,nI 0),(5,Ic a),(6,nI i)],[],20⟩
def Z1K(a:List ZI)(k:Int)(i:Nat)(r:ZI)(hl:a.length<=1048576)(b:a[i]?=O r)(hk:k<1\/r.len<k):CP (Zl f203 0) (IA a k i).st .nrm (IA a k (i+1)).st:=by have hi:i<a.length:=(Ld.1 b).1;exact sF [] []<|Fh 20 [.el r.dv]<|FM 11 12 ZI.dv a i<|Fa (by grind[BX]:X (1<=k)=Y->0<=(i:Int)/\(Z ZI.dv a)[(i:Int).toNat]?=O r.dv)<|Ffb 25 (X (1<=k)&&X (k<=r.len))<|Fx 14 i Fz
def Zhg(rs:List ZI)(k:Int)(i:Nat)(r:ZI)(hr:rs[i]?=O r)(hk1:1<=k)(hk:k<=r.len):CP (Zl f203 0) (IA rs k i).st .ret (Tg.st ⟨tm 31 [(4,nI r.frm)],[],60⟩):=by
 have hi:i<rs.length:=(Ld.1 hr).1;refine Zh [((11:Nat),[Hint.int (rs.length:Int)]),((12:Nat),[Hint.br Y]),((20:Nat),[Hint.el r.dv]),((25:Nat),[Hint.br Y]),((28:Nat),[Hint.el r.dv])] [] [] [] (φ:=(↑(Z ZI.dv rs).length:Int)=(rs.length:Int)/\X ((i:Int)<(rs.length:Int))=Y/\Y=Y/\(X ((1:Int)<=k)=Y->(0:Int)<=(i:Int)/\(Z ZI.dv rs)[(i:Int).toNat]?=O r.dv)/\(X ((1:Int)<=k)&&X (k<=r.len))=Y/\Y=Y/\(0:Int)<=(i:Int)/\(Z ZI.dv rs)[(i:Int).toNat]?=O r.dv) ?_ kr kr kr;exact⟨(by simp only[Lb]),(by(simp only[bs];omega)),rfl,(by grind),(by(simp only[bs];omega)),rfl,(by grind),(by grind)⟩
def Z3Z a k:CP (Zl f203 0) (IA a k a.length).st (.ext 0) (Tg.st ⟨tm 31 [],[],60⟩):=by exact sF [] []<|FO 11 12 ZI.dv a Fz
def DF(l:List Z0) k(hl:l.length<=1048576):GP 203 [ZT l,nI k] Y (nI (first l k)) []:=by
 have h:=Z8d (l:=l);by_cases b:k<1;rw[first,if_pos b];exact gF [] func203 []<|Fh 8 [.call M (Ic (runs l)) []]<|Fk (0,IA (runs l) k 0,.nrm,⟨tm 31 [],[],60⟩)<|Fa ((Z2J l hl):GP 226 [AV.d (DV.sl 4 (Z Z0.dv l))] M (Ic (runs l)) [])<|Fa ((Bp (S:=λi=>(IA (runs l) k i).st) (runs l).length kr (λi a=>Z1K _ k i _ oq (Le a) (.inl b)) (Z3Z _ _)):CP (Zk f203 0) (IA (runs l) k 0).st Ex.nrm (Tg.mk (tm 31 []) [] 60).st) Fz;rw[first,if_neg b];cases ha:(runs l).all λr=>X (r.len<k)with
 |true =>rw[Z24 ha];refine Zb [((8:Nat),[Hint.call M (Ic (runs l)) []])] [((0:Nat),IA (runs l) k 0,.nrm,⟨tm 31 [],[],60⟩)] [] dd func203 [] (φ:=GP 226 [AV.d (DV.sl (4:Nat) (Z Z0.dv l))] M (Ic (runs l)) []/\CP (Zk f203 (0:Nat)) (IA (runs l) k (0:Nat)).st Ex.nrm (Tg.mk (tm (31:Nat) []) [] (60:Nat)).st) ?_ kr kr;refine⟨Z2J l hl,Bp (S:=λi=>(IA (runs l) k i).st) (runs l).length kr (λi a=>?_) (Z3Z _ _)⟩;have:=LF.1 ha _ (LI a);exact Z1K _ k i _ oq (Le a) (.inr (by grind))
 |false =>
  obtain⟨j,r,c,h2,d⟩:=Md ha;have e:k<=r.len:=by grind
  rw[Z2c c e d];refine Zb [((8:Nat),[Hint.call M (Ic (runs l)) []])] [((0:Nat),IA (runs l) k 0,.ret,⟨tm 31 [(4,nI r.frm)],[],60⟩)] [] dd func203 [] (φ:=GP 226 [AV.d (DV.sl (4:Nat) (Z Z0.dv l))] M (Ic (runs l)) []/\CP (Zk f203 (0:Nat)) (IA (runs l) k (0:Nat)).st Ex.ret (Tg.mk (tm (31:Nat) [((4:Nat),nI r.frm)]) [] (60:Nat)).st) ?_ kr kr;refine⟨Z2J l hl,Ev (S:=λi=>(IA (runs l) k i).st) j kr (λi a=>?_) (Zhg _ k j r c oq e)⟩;obtain⟨y,f,g⟩:=d i a;exact Z1K _ k i y oq f (.inr (by simpa using g))
def Z4w l:∀i,∀r∈Zi l i,∀j:Int,r.frm<=j->j<r.frm+r.len->(l.getD j.toNat L).K=0
 |0=>by simp[Zi]
 |i+1=>by
  have e:=Z4w l i;have ok:=(N2 l i).2;intro r a j b c;simp only[Zi,Nl]at a;have g:CL l i=l.getD i L:=by rw[Z0v];simp
  split at a
  .rename_i f;rw[g]at f;split at a
   .rename_i h;have d:=Lj (Np h.1);rcases Lt.1 a with a|a
    .exact e r (LG _ a) j b c
    .simp at a;subst a;simp only at b c;by_cases k:j=i
     .subst k;simpa using f
     .exact e _ d j b oq
   .rcases Lt.1 a with a|a
    .exact e r a j b c
    .simp at a;subst a;simp only at b c;have:j=i:=by omega
     subst this;simpa using f
  .exact e r a j b c
def Z5z:∀{l:List ZI} {k:Int},0<=HN l k->∃r∈l,HN l k=r.frm/\k<=r.len
 |[],_,h=>by simp[HN]at h
 |r::l,k,h=>by
  rw[HN]at h⊢;split
  .exact⟨r,by simp,rfl,aa⟩
  .rename_i c;rw[if_neg c]at h;obtain⟨x,d,a,b⟩:=Z5z h;exact⟨x,by simp[d],a,b⟩
def Ik{l k}(h:0<=first l k):1<=k/\first l k+k<=l.length/\HP l (first l k).toNat k.toNat=Y:=by
 unfold first at h⊢
 split at h;omega;rename_i c;rw[if_neg c];obtain⟨r,a,b,h2⟩:=Z5z h;have ok:=(N2 l l.length).2 r a;rw[b]at h⊢;refine⟨by omega,by omega,SL.2 λj hj=>?_⟩;have:=Z4w l l.length r a (r.frm+j) oq oq;rwa [show(r.frm+(j:Int)).toNat=r.frm.toNat+j from by omega]at this
def Z3w l(k:Int):-1<=first l k/\first l k<=l.length:=by
 by_cases h:0<=first l k
 have:=Ik h;omega;unfold first at h⊢
 split;omega;rename_i b;rw[if_neg b]at h;have:∀m:List ZI,(∀r∈m,0<=r.frm)->-1<=HN m k:=by
  intro m;induction m with|nil=>intro _;simp[HN]|cons r m e =>intro a;rw[HN];split;have:=a r pq;omega;exact e λx d=>a x (by simp[d])
 have:=this (runs l) λr c=>((N2 l l.length).2 r c).1;omega
def Z3V{c l}:∀{f i:Nat} {a:Int},0<=a->G6 c l f i a=Y->l.length<=i+f->∀j,i<=j->j<l.length->∃d,0<=d/\G3 c l j d:=by
 intro f;induction f with|zero=>intro i a _ _ o j h e;omega|succ f p =>intro i a k b o j h e;rw[G6,if_pos oq,Lf]at b;have g:=of_decide_eq_true b.1;by_cases m:j=i;subst m;exact⟨a,k,g⟩;refine p ?_ b.2 oq j oq e;unfold Er;split;rename_i n;have:=g.2.2.2.2.2.2.2.2.2.1 n;omega;omega
def EL{h:Heap}(g:Z8 h=Y){j:Nat}(e:j<h.P.length):0<=(h.P.getD j L).S/\(h.P.getD j L).S<=1/\0<=(h.P.getD j L).N/\(h.P.getD j L).N<=2147483647 /\
  0<=(h.P.getD j L).K/\(h.P.getD j L).K<=3/\0<=(h.P.getD j L).U/\(h.P.getD j L).U<=256/\((h.P.getD j L).K=1->(h.P.getD j L).U<=h.C.pw):=by
 have b:=Ig.1 g;have hv:=BF.1 b.1;obtain⟨d,_,a⟩:=Z3V oq b.2.2.2.2.2 oq j oq e;unfold G3 at a;have hu:(h.P.getD j L).K=2->1<=(h.P.getD j L).U/\(h.P.getD j L).U<=256:=by(intro f;have c:=(a.2.2.2.2.2.2.2.2.2.1 f).1;unfold need at c;split at c;omega;omega)
 omega
def Z6j(l:List Z0):Cs l<=l.length:=O9 l l.length
abbrev tP(l:List Z0)(s:Int):List Z0:=ZQ l (first l 1).toNat 1 (Z0.mk 1 s 0 0) (Z0.mk 0 0 0 0)
end Go.Proofs.YtgedmeaemofdkaaGreat
