/-
 The statement CollectReclaims: part 7.
 Conditions: none.
-/
import Derived.Laws.Bits64b
import Derived.WalkSmall
import Derived.Test.YtgedmeaemofdkaaGreatZ6
set_option maxRecDepth 100000
set_option maxHeartbeats 2000000
set_option linter.all false
open Decidable renaming decide->X
open Bool renaming true->Y,false->L,and_eq_true->Le,eq_false_iff->Ll,or_eq_true->Lq,eq_false_or_eq_true->Lu,eq_iff_iff->Lv,true_and->Lw
open List renaming map->Z,replicate->O,length_map->Lc,getElem?_eq_some_iff->Ld,drop->Lg,getElem?_eq_getElem->Li,mem_of_getElem?->Lj,take->Lk,getD_eq_getElem?_getD->Lo,map_set->Lp,getD->Lr,length_drop->Ls,mem_append->Lt,length_pos_iff->Lz,range->LA,all_cons->LF,all_eq_true->LG,dropLast_subset->LH,getElem?_range->LI,getElem?_set->LJ,getElem_mem->LK,map_append->LL,map_drop->LM,map_take->LN,mem_range->LO,take_succ_cons->LQ
open Inhabited renaming default->M
open Option renaming some->La
open Go.IntKind renaming i64->Lb,u64->Lf,u32->Ly
open Int renaming toNat->Lh,mul_comm->Ln,ediv_nonneg->Lx,ediv_lt_of_lt_mul->LC,one_mul->LD
open Go.Field renaming mk->Lm
open Nat renaming le_refl->LB,le_of_lt->LR,min_eq_left->LS
open Go.Proofs.Tryz
namespace Go.Proofs.YtgedmeaemofdkaaGreat
open Go.Sx
def ones(n:Int):Int:=2^(min n.toNat 64)-1
structure Zv where
 K:Int
 length:Int
 map:Int
 deriving DecidableEq,Inhabited
def u32(n:Int):AV:=.d (.sc (.int .u32 n))
def Zv.av(h:Zv):AV:=.ag [nI h.K,nI h.length,u32 h.map]
def or_one(k:Nat)(h:k<64):bits .or .u64 (Lf.wrap ((2^k-1)*2^min (Lh 1) 64)) 1=2^(k+1)-1:=by have:k∈LA 64:=LO.2 h;revert k;decide+kernel
def AG(m:Nat)(i:Nat):Tg:=⟨tm 14 [(2,uU 0),(3,uU (2^i-1)),(6,nI m),(7,nI i)],[],20⟩
def Zky(m i:Nat)(hm:m<=64)(hi:i<m):CP (Zn f170 0) (AG m i).st .nrm (AG m (i+1)).st:=by have a:=or_one i oq;exact sF [] [L,Y]<|Ftb 8 (X ((i:Int)<(m:Int)))<|Fo ((0:Int)<=1)<|Fg 12 (Ea oq oq:Lb.wrap ((i:Int)+1)=(↑(i+1):Int))<|Fa (a:bits BinOp.or Lf (Lf.wrap ((2^i-1)*2^min (Lh 1) 64)) (1:Int)=2^(i+1)-1) Fz
def ZgO m:CP (Zn f170 0) (AG m m).st (.ext 0) (Tg.st ⟨tm 14 [(3,uU (2^m-1))],[],60⟩):=by exact sF [] []<|Ffb 8 (X ((m:Int)<(m:Int))) Fz
def Zbm(m:Nat)(b:m<=64)  := Bt (S:=λi=>(AG m i).st) m (by kernel_rfl) (λi a=>Zky m i b a) (ZgO m)
def RX n:GP 170 [nI n] Y (uU (ones n)) []:=by
 have ei:min (max n 0) 64=((min n.toNat 64:Nat):Int):=by omega
 exact gF [] func170 []<|Fgo 5 (if 0 > n then 0 else n) (max n 0)<|Fgo 6 (if 64<max n 0 then 64 else max n 0) (↑(min n.toNat 64):Int)<|Fu (@Zbm (min n.toNat 64) oq) Fz
def ZT(h:Zv):Bool:=X (0<=h.K/\h.K<=3/\0<=h.length/\h.length<=255/\(if h.K=1 then h.length<=32/\h.map<2^h.length.toNat else h.map=0))
def Z5(h:Zv):Int:=if ZT h=Y then h.length+1 else 0
def E4:Zv:=⟨0,0,0⟩
def Zu(h:Zv):Int×Int:=if ZT h=Y then(1+4*h.K+16*h.length+65536*h.map,0)else(0,1)
def EU(w:Int):Zv:=⟨w/4%4,w/16%4096,w/65536%4294967296⟩
def Z7(w:Int):Zv×Bool:=if(Zu (EU w)).2=0/\(Zu (EU w)).1=w then(EU w,Y)else(E4,L)
def Bg(h:Zv)(i:Int):Bool:=ZT h&&X (0<=i)&&X (i<h.length)&&(h.K==2||(h.K==1&&(h.map/2^i.toNat%2==1)))
def Gq{h:Zv}:ZT h=Y↔0<=h.K/\h.K<=3/\0<=h.length/\h.length<=255/\(if h.K=1 then h.length<=32/\h.map<2^h.length.toNat else h.map=0):=by simp[ZT]
def Za1{n:Int}(h1:n<=32):(1:Int)<=2^n.toNat/\(2:Int)^n.toNat<=4294967296:=by
 have:n.toNat<=32:=by omega
 generalize n.toNat=k at this;have hk:k∈LA 33:=LO.2 oq;revert k;decide+kernel
def Zl1{n:Int}(a:n<=32):Lf.wrap (1*2^min n.toNat 64)=2^n.toNat:=by have:=Za1 a;rw[LS oq,LD];exact Pf oq oq
def Zke{h:Zv}(b:ZT h=Y)(hm:0<=h.map)(a:h.map<=4294967295):0<=h.K/\h.K<=3/\0<=h.length/\h.length<=255/\0<=h.map/\h.map<=4294967295:=by have:=Gq.1 b;omega
def Nb(h:Zv)(hm:0<=h.map/\h.map<=4294967295):GP 113 [h.av] Y (bL (ZT h)) []:=by have hs:h.length<=32->Lf.wrap (1*2^min h.length.toNat 64)=2^h.length.toNat:=Zl1;rcases bb (X (h.K<0)||X (3<h.K)||X (h.length<0)||X (255<h.length))with hc0|hc0<;>have a:=hc0<;>simp only[bs]at a;exact gF [] func113 (fO 9)<|Ft 20 hc0<|Fa (by(simp[ZT, *];omega):L=ZT h) Fz;obtain⟨⟨⟨b,c⟩,e⟩,f⟩:=a;rcases bb (h.K != 1)with hc1|hc1<;>have d:=hc1<;>simp only[bs]at d;exact gF [] func113 (fO 9)<|Ff 20 hc0<|Ft 23 hc1<|Fa (by grind[ZT]:(h.map==0)=ZT h) Fz;exact gF [] func113 (fO 17)<|Ff 20 hc0<|Ff 23 hc1<|FvG 33 (X (h.length<=32)) h.map<|FvG 36 (X (h.length<=32)) h.length<|Fa (by intro g;(try simp only[bs]at g);omega:X (h.length<=32)=Y->0<=h.length)<|Fa (by grind[ZT]:(X (h.length<=32)&&X (h.map<Lf.wrap ((1:Int)*2^min h.length.toNat 64)))=ZT h) Fz
def Il(h:Zv)(hm:0<=h.map/\h.map<=4294967295):GP 70 [h.av] Y (nI (Z5 h)) []:=by rcases bb (!ZT h)with hc0|hc0<;>have a:=hc0<;>simp only[bs]at a;exact gF [] func70 [Y]<|Fc 4 (@Nb h aa)<|Ft 5 hc0<|Fa (by simp[Z5, *]:0=Z5 h) Fz;have e:=Gq.1 a;obtain⟨g,⟨f,⟨d,⟨b,c⟩⟩⟩⟩:=e;exact gF [] func70 [Y]<|Fc 4 (@Nb h aa)<|Ff 5 hc0<|Fi 8 (h.length+1)<|Fa (by simp[Z5, *]:h.length+1=Z5 h) Fz
def Dq(h:Zv)(hm:0<=h.map/\h.map<=4294967295):GP 143 [h.av] Y (.tu [uU (Zu h).1,nI (Zu h).2]) []:=by rcases bb (!ZT h)with hc0|hc0<;>have a:=hc0<;>simp only[bs]at a;rw[show Zu h=((0:Int),(1:Int))from by simp[Zu, *]];exact gF [] func143 []<|Fc 5 (@Nb h aa)<|Ft 6 hc0 Fz;have e:=Gq.1 a;obtain⟨g,⟨f,⟨d,⟨b,c⟩⟩⟩⟩:=e;rw[show Zu h=((1:Int)+(4:Int)*h.K+(16:Int)*h.length+h.map*(65536:Int),(0:Int))from by(simp[Zu, *];omega)];exact gF [] func143 []<|Fc 5 (@Nb h aa)<|Ff 6 hc0<|Fv 9 h.K<|Fv 10 (4*h.K)<|Fv 11 ((1:Int)+4*h.K)<|Fv 14 h.length<|Fv 15 (16*h.length)<|Fv 16 ((1:Int)+4*h.K+16*h.length)<|Fv 19 h.map<|Fg 20 (BA rfl oq oq:Lf.wrap (h.map*2^min (Lh 16) 64)=h.map*65536)<|Fo ((0:Int)<=16)<|Fv 21 ((1:Int)+4*h.K+16*h.length+h.map*65536) Fz
def Z3G(w:Int)(h0:0<=w):0<=(EU w).map/\(EU w).map<=4294967295:=by simp only[EU];omega
def A7(w:Int)(h0:0<=w)(h1:w<=18446744073709551615):GP 148 [uU w] Y (.tu [(Z7 w).1.av,bL (Z7 w).2]) []:=by have hm:=Z3G w h0;have Q0 {h_ c_ p_} (r_:Fq h_ c_ p_):=Fg 8 (Ht rfl dd:w.fdiv (2^min (Lh 2) 64)=w/4)<|Fo ((0:Int)<=2)<|Fg 9 (NQ 2 dd dd oq oq:bits BinOp.and Lf (w/4) 3=w/4%4)<|Fi 10 (w/4%4)<|Fg 12 (Ht rfl dd:w.fdiv (2^min (Lh 4) 64)=w/16)<|Fo ((0:Int)<=4)<|Fg 13 (NQ 12 dd dd oq oq:bits BinOp.and Lf (w/16) 4095=w/16%4096)<|Fi 14 (w/16%4096)<|Fg 16 (Ht rfl dd:w.fdiv (2^min (Lh 16) 64)=w/65536)<|Fo ((0:Int)<=16)<|Fg 17 (rfl:Ly.wrap (w/65536)=w/65536%4294967296)<|Fc 21 (@Dq (Zv.mk (w/4%4) (w/16%4096) (w/65536%4294967296)) aa) r_;rcases bb ((Zu (Zv.mk (w/4%4) (w/16%4096) (w/65536%4294967296))).2 != 0||(Zu (Zv.mk (w/4%4) (w/16%4096) (w/65536%4294967296))).1 != w)with hc0|hc0<;>have hc0p:=hc0<;>simp only[bs]at hc0p;rw[show Z7 w=(Zv.mk (0:Int) (0:Int) (0:Int),L)from by grind[Z7,EU,E4]];exact gF [] func148 [] (Q0 (Ft 30 hc0 Fz));obtain⟨hc0pa,hc0pb⟩:=hc0p;rw[show Z7 w=(Zv.mk (w/(4:Int)%(4:Int)) (w/(16:Int)%(4096:Int)) (w/(65536:Int)%(4294967296:Int)),Y)from by simp[Z7,EU,E4, *]];exact gF [] func148 [] (Q0 (Ff 30 hc0 Fz))
def Z90(h:Zv)(i:Int)(f:0<=h.map/\h.map<=4294967295)(b:ZT h=Y)(d:0<=i)(e:i<h.length) :(h.K==2||h.K==1&&bits BinOp.and Ly (h.map.fdiv (2^min i.toNat 32)) 1==1)=Bg h i:=by
 have c:=Gq.1 b;by_cases a:h.K=1;have hl:h.length<=32:=by simp[a]at c;omega
 have g:(0:Int)<=2^i.toNat:=Int.pow_nonneg dd;rw[LS oq,Int.fdiv_eq_ediv_of_nonneg _ g];have j:0<=h.map/2^i.toNat:=Lx f.1 g;have h3:h.map/2^i.toNat<=h.map:=Int.ediv_le_self _ f.1;have:=Zbj 1 dd (x:=h.map/2^i.toNat) (m:=1) dd j oq;rw[this];simp[Bg,b,d,e,a];have:(h.K==1)=L:=by simp[a]
 simp[Bg,b,d,e,this]
def NA(h:Zv) i(n:0<=h.map/\h.map<=4294967295):GP 57 [h.av,nI i] Y (bL (Bg h i)) []:=by rcases bb (!ZT h||X (i<0)||X (h.length<=i))with hc0|hc0<;>have b:=hc0<;>simp only[bs]at b;exact gF [] func57 (fO 6)<|Fc 6 (@Nb h aa)<|Ft 17 hc0<|Fa (by grind[Bg]:L=Bg h i) Fz;obtain⟨⟨a,e⟩,g⟩:=b;have j:=Gq.1 a;obtain⟨l,⟨k,⟨f,⟨c,d⟩⟩⟩⟩:=j;exact gF [] func57 (fO 18)<|Fc 6 (@Nb h aa)<|Ff 17 hc0<|FvG 29 (!h.K==2&&h.K==1) i<|Fa (by intro m;(try simp only[bs]at m);omega:(!h.K==2&&h.K==1)=Y->0<=i)<|Fa (Z90 h i n aa oq oq:(h.K==2||h.K==1&&bits BinOp.and Ly (h.map.fdiv (2^min i.toNat 32)) (1:Int)==1)=Bg h i) Fz
def Cb{α:Type}(ws:List α)(i:Nat)(l:List α):List α:=ws.take i++l++ws.drop (i+l.length)
def ZA(ws:List Int)(a n:Int):Int×Bool:=if 4096<=a/\a<=4096+ws.length then(a-4096,X (n<=ws.length-(a-4096)))else(0,L)
def Cc(ws:List Int)(a:Int):Int×Int:=if 4096<=a/\a<4096+ws.length then(a-4096,0)else(0,2)
def Z1(ws:List Int)(a:Int):Int×Int:=if 4096<=a/\a<4096+ws.length then(ws.getD (a-4096).toNat 0,0)else(0,2)
def BN(ws:List Int)(a n:Int):List Int×Int:=if n<0 then([],1)else if 4096<=a/\a-4096+n<=ws.length then((ws.drop (a-4096).toNat).take n.toNat,0)else([],2)
def ZU(ws:List Int)(a:Int)(l:List Int):List Int×Int:=if 4096<=a/\a-4096+l.length<=ws.length then(Cb ws (a-4096).toNat l,0)else([],2)
def BL(ws:List Int)(a v:Int):List Int×Int:=ZU ws a [v]
def moveA(ws:List Int)(a b n:Int):List Int×Int:=if(BN ws b n).2≠0 then([],(BN ws b n).2)else ZU ws a (BN ws b n).1
def Z5V ws a n:(BN ws a n).1.length<=ws.length:=by unfold BN;split;simp;split;simp;omega;simp
def Z5F{ws a n}(h:(ZA ws a n).2=Y):(ZA ws a n).1=a-4096/\4096<=a/\a<=4096+ws.length/\a-4096+n<=ws.length:=by unfold ZA at h⊢;split at h;rename_i b;rw[if_pos b];simp at h;simp;omega;simp at h
def Z9I{ws a n}(h:(ZA ws a n).2=L):¬ (4096<=a/\a<=4096+ws.length/\a-4096+n<=ws.length):=by unfold ZA at h;split at h;simp at h;omega;omega
def Z6T{ws a}(h:(Cc ws a).2=0):(Cc ws a).1=a-4096/\4096<=a/\a<4096+ws.length:=by unfold Cc at h⊢;split at h;rename_i b;rw[if_pos b];exact⟨rfl,b⟩;simp at h
def Z7P{ws a}(h:¬ (Cc ws a).2=0):¬ (4096<=a/\a<4096+ws.length)/\(Cc ws a).2=2:=by unfold Cc at h⊢;split at h;simp at h;rename_i b;rw[if_neg b];exact⟨b,rfl⟩
def DJ(ws:List Int)(a n:Int)(hw:ws.length<=1048576)(h0:0<=a/\a<=18446744073709551615):GP 164 [Z2 ws,uU a,nI n] Y (.tu [nI (ZA ws a n).1,bL (ZA ws a n).2]) []:=by have e {h_ c_ p_} (f:Fq h_ c_ p_):=FlG 14 (!decide (a<4096)) wD ws<|FvG 15 (!decide (a<4096)) (↑ws.length)<|FvG 16 (!decide (a<4096)) (4096+(ws.length:Int)) f;rcases bb (X (a<4096)||X (4096+(ws.length:Int)<a))with hc0|hc0<;>have b:=hc0<;>simp only[bs]at b;rw[show ZA ws a n=((0:Int),L)from by(simp[ZA, *];omega)];exact gF [] func164 [] (e (Ft 18 hc0 Fz));obtain⟨c,d⟩:=b;rw[show ZA ws a n=(a-(4096:Int),X (n<=(ws.length:Int)-(a-(4096:Int))))from by simp[ZA, *]];exact gF [] func164 [] (e (Ff 18 hc0<|Fv 20 (a-4096)<|Fi 21 (a-4096)<|Fl 25 wD ws<|Fi 27 ((ws.length:Int)-(a-4096)) Fz))
def Z6o(ws:List Int)(a:Int)(hw:ws.length<=1048576)(h0:0<=a/\a<=18446744073709551615):GP 190 [Z2 ws,uU a] Y (.tu [nI (Cc ws a).1,nI (Cc ws a).2]) []:=by have c {h_ c_ p_} (d:Fq h_ c_ p_):=Fc 11 (@DJ ws a (1) aa aa) d;rcases bb (!(ZA ws a 1).2)with hc0|hc0<;>have b:=hc0<;>simp only[bs]at b;rw[show Cc ws a=((0:Int),(2:Int))from by grind[ZA,Cc]];exact gF [] func190 [] (c (Ft 15 hc0 Fz));rw[show Cc ws a=((ZA ws a (1:Int)).1,(0:Int))from by grind[ZA,Cc]];exact gF [] func190 [] (c (Ff 15 hc0 Fz))
def HF(ws:List Int)(a:Int)(hw:ws.length<=1048576)(h0:0<=a/\a<=18446744073709551615):GP 139 [Z2 ws,uU a] Y (.tu [uU (Z1 ws a).1,nI (Z1 ws a).2]) []:=by rcases bb ((Cc ws a).2 != 0)with hc0|hc0<;>have b:=hc0<;>simp only[bs]at b;have c:=Z7P b;obtain⟨g,h⟩:=c;rw[show Z1 ws a=((0:Int),(Cc ws a).2)from by simp[Z1, *]];exact gF [] func139 []<|Fc 11 (@Z6o ws a aa aa)<|Ft 15 hc0 Fz;have d:=Z6T b;obtain⟨i,⟨e,f⟩⟩:=d;rw[show Z1 ws a=(ws.getD (Cc ws a).1.toNat M,(0:Int))from by simp[Z1, *]];refine Zb [((11:Nat),[Hint.call Y (AV.tu [nI (Cc ws a).1,nI (Cc ws a).2]) []]),((15:Nat),[Hint.br L]),((19:Nat),[Hint.el (wD (ws.getD (Cc ws a).1.toNat M))])] [] [] dd func139 [] (φ:=GP 190 [Z2 ws,uU a] Y (AV.tu [nI (Cc ws a).1,nI (Cc ws a).2]) []/\((Cc ws a).2 != (0:Int))=L/\L=L/\(0:Int)<=(Cc ws a).1/\(Z wD ws)[(Cc ws a).1.toNat]?=La (wD (ws.getD (Cc ws a).1.toNat M))) ?_ kr kr;exact⟨(@Z6o (ws) (a) aa aa),aa,rfl,(by exact Zo oq oq oq)⟩
def Z2v(ws:List Int)(a n:Int)(hw:ws.length<=1048576)(h0:0<=a/\a<=18446744073709551615):GP 112 [Z2 ws,uU a,nI n] Y (.tu [Z2 (BN ws a n).1,nI (BN ws a n).2]) []:=by rcases bb (X (n<0))with hc0|hc0<;>have hc0p:=hc0<;>simp only[bs]at hc0p;exact gF [] func112 [Y]<|Ft 11 hc0<|Fnl (Fa (by simp[BN, *]:[]=Z wD (BN ws a n).1)<|Fa (by simp[BN, *]:1=(BN ws a n).2) Fz);have Q0 {h_ c_ p_} (r_:Fq h_ c_ p_):=Ff 11 hc0<|Fc 16 (@DJ ws a n aa aa) r_;rcases bb (!(ZA ws a n).2)with hc9|hc9<;>have hc9p:=hc9<;>simp only[bs]at hc9p;have hf12:=Z9I hc9p;exact gF [] func112 [Y] (Q0 (Ft 20 hc9<|Fnl (Fa (by(simp only[BN] ;exact sj):[]=Z wD (BN ws a n).1)<|Fa (by(simp only[BN] ;exact sj):2=(BN ws a n).2) Fz)));have hf14:=Z5F hc9p;obtain⟨hf14a,⟨hf14ba,⟨hf14bba,hf14bbb⟩⟩⟩:=hf14;rw[show BN ws a n=(Lk (((ZA ws a n).1+n).toNat-(ZA ws a n).1.toNat) (Lg (ZA ws a n).1.toNat ws),(0:Int))from by(simp[BN, *];omega)];exact gF [] func112 []<|Fh 28 [.els (Z wD (Lk (((ZA ws a n).1+n).toNat-(ZA ws a n).1.toNat) (Lg (ZA ws a n).1.toNat ws)))] (Q0 (Ff 20 hc9<|Fs 21 (Z wD [])<|Fi 26 ((ZA ws a n).1+n)<|Fa (by(simp only[Lc];omega):0<=(ZA ws a n).1/\(ZA ws a n).1<=(ZA ws a n).1+n/\(ZA ws a n).1+n<=(↑(Z wD ws).length:Int))<|Fa (by simp[BN,LN,LM,Lp,LL,wD,iD]:Lk (((ZA ws a n).1+n).toNat-(ZA ws a n).1.toNat) (Lg (ZA ws a n).1.toNat (Z wD ws))=Z wD (Lk (((ZA ws a n).1+n).toNat-(ZA ws a n).1.toNat) (Lg (ZA ws a n).1.toNat ws)))<|Fa (by(simp[BN, *];omega):(Z wD []).length+(Z wD (Lk (((ZA ws a n).1+n).toNat-(ZA ws a n).1.toNat) (Lg (ZA ws a n).1.toNat ws))).length<=2^30)<|Fs 27 (Z wD (Lk (((ZA ws a n).1+n).toNat-(ZA ws a n).1.toNat) (Lg (ZA ws a n).1.toNat ws)))<|Fa (Hn _:Ci (Z wD (Lk (((ZA ws a n).1+n).toNat-(ZA ws a n).1.toNat) (Lg (ZA ws a n).1.toNat ws)))) Fz))
def wr{α:Type}(ws l:List α)(i k:Nat):List α:=ws.take i++l.take k++ws.drop (i+k)
def Dh{α:Type}(ws l:List α)(i:Nat):wr ws l i 0=ws:=by simp[wr]
def Pe{α:Type}(ws l:List α)(i:Nat):wr ws l i l.length=Cb ws i l:=by simp[wr,Cb]
theorem IG{α:Type}{ws l:List α}{i k:Nat}(h:i+l.length<=ws.length)(hk:k<=l.length):(wr ws l i k).length=ws.length:=by simp[wr];omega
def Nl{α:Type}{ws l:List α}{i:Nat}(h:i+l.length<=ws.length):(Cb ws i l).length=ws.length:=by
 rw[<-Pe];exact IG h (LB _)
theorem Ai{α:Type}{ws l:List α}{i k:Nat}(h:i+l.length<=ws.length)(hk:k<=l.length)(j:Nat):(wr ws l i k)[j]?=if j<i then ws[j]? else if j<i+k then l[j-i]? else ws[j]?:=by
 have e:(l.take k).length=k:=by simp;omega
 have:=Sc (l:=ws) (xs:=l.take k) (o:=i) oq j;rw[e]at this;rw[wr,this];split
 .rfl
 .split
  .rw[List.getElem?_take_of_lt oq]
  .rfl
def MH{α:Type}{ws l:List α}{i k:Nat}(h:i+l.length<=ws.length)(e:k<l.length)(d:α):(wr ws l i k).set (i+k) (l.getD k d)=wr ws l i (k+1):=by apply List.ext_getElem?;intro j;have f:=IG h (LR e);rw[LJ,Ai h oq,Ai h oq,f];by_cases c:i+k=j;subst c;rw[if_pos rfl,if_pos oq,if_neg oq,if_pos oq];simp[Lr,e];rw[if_neg c];by_cases a:j<i;rw[if_pos a,if_pos a];rw[if_neg a,if_neg a];by_cases b:j<i+k;rw[if_pos b,if_pos oq];rw[if_neg b,if_neg oq]
def TC(ws l:List Int)(i:Int)(k:Nat):Tg:=⟨tm 41 [(2,Z2 l),(8,nI i),(10,.ow 32024),(11,nI k)],[(32024,.arr 35 1 ((wr ws l i.toNat k).map wD))],60⟩
def ZkS(ws l:List Int)(i:Int)(k:Nat)(hw:ws.length<=1048576)(hi:0<=i)(h:i.toNat+l.length<=ws.length)(a:k<l.length):CP (Zn f144 0) (TC ws l i k).st .nrm (TC ws l i (k+1)).st:=by
 have b:=MH h a M;have hn:=IG h (LR a);have ei:i+k=((i.toNat+k:Nat):Int):=by omega
 exact sF [] (fO 4)<|Fh 10039 [.els (Z wD ((wr ws l i.toNat k).set (↑(i.toNat+k):Int).toNat (l.getD k M)))]<|FM 27 28 wD l k<|Fg 34 (by rw[Ea oq oq];omega:Lb.wrap (i+(k:Int))=(↑(i.toNat+k):Int))<|Fek 37 wD l (↑k) k<|Fa (by(simp only[Lc];omega):0<=(↑(i.toNat+k):Int)/\(↑(i.toNat+k):Int).toNat<(Z wD (wr ws l i.toNat k)).length)<|Fa (by(simp only[Lc];omega):(↑(i.toNat+k):Int).toNat<(Z wD (wr ws l i.toNat k)).length)<|Fa (ms:(Z wD (wr ws l i.toNat k)).set (↑(i.toNat+k):Int).toNat [B2 (l.getD k M)]=Z wD ((wr ws l i.toNat k).set (↑(i.toNat+k):Int).toNat (l.getD k M)))<|Fx 30 k<|Fr (35:Int)<|Fa (by refine congrArg _ ?_;exact b:Z wD ((wr ws l i.toNat k).set (↑(i.toNat+k):Int).toNat (l.getD k M))=Z wD (wr ws l i.toNat (k+1))) Fz
def Zas(ws l:List Int)(i:Int):CP (Zn f144 0) (TC ws l i l.length).st (.ext 0) (Tg.st ⟨tm 41 [(10,.ow 32024)],[(32024,.arr 35 1 ((Cb ws i.toNat l).map wD))],60⟩):=by
 have hs:=Pe ws l i.toNat
 exact sF [] [L,Y]<|FO 27 28 wD l<|Fr (35:Int)<|Fa (by refine congrArg _ ?_;assumption:Z wD (wr ws l i.toNat l.length)=Z wD (Cb ws i.toNat l)) Fz
def ZhS(ws l:List Int)(i:Int)(b:ws.length<=1048576)(hi:0<=i)(h:i.toNat+l.length<=ws.length):CP (Zj f144 0) (Tg.st ⟨tm 41 [(2,Z2 l),(8,nI i),(10,.ow 32024),(11,nI 0)],[(32024,.arr 35 1 (ws.map wD))],60⟩) .nrm (Tg.st ⟨tm 41 [(10,.ow 32024)],[(32024,.arr 35 1 ((Cb ws i.toNat l).map wD))],60⟩):=by
 have:=Bt (S:=λk=>(TC ws l i k).st) l.length kr (λk a=>ZkS ws l i k b hi h a) (Zas ws l i);simp only[TC,Dh]at this;exact this
def My(ws l:List Int)(a:Int)(hw:ws.length<=1048576)(h0:0<=a/\a<=18446744073709551615)(hl:l.length<=1048576):GP 144 [Z2 ws,uU a,Z2 l] Y (.tu [Z2 (ZU ws a l).1,nI (ZU ws a l).2]) []:=by have Q0 {h_ c_ p_} (r_:Fq h_ c_ p_):=Fl 16 wD l<|Fc 17 (@DJ ws a ((l.length:Int)) aa aa) r_;rcases bb (!(ZA ws a (l.length:Int)).2)with hc0|hc0<;>have hc0p:=hc0<;>simp only[bs]at hc0p;have hf3:=Z9I hc0p;exact gF [] func144 [Y] (Q0 (Ft 21 hc0<|Fnl (Fa (by(simp only[ZU] ;exact sj):[]=Z wD (ZU ws a l).1)<|Fa (by(simp only[ZU] ;exact sj):2=(ZU ws a l).2) Fz)));have hf5:=Z5F hc0p;obtain⟨hf5a,⟨hf5ba,⟨hf5bba,hf5bbb⟩⟩⟩:=hf5;rw[show ZU ws a l=(Cb ws (ZA ws a (l.length:Int)).1.toNat l,(0:Int))from by simp[ZU, *]];exact gF [] func144 [] (Q0 (Ff 21 hc0<|FAx 22 24 wD ws (by(simp[ZU, *];omega))<|Fu (@ZhS ws l ((ZA ws a (l.length:Int)).1) aa oq oq)<|Fa (Hn _:Ci (Z wD (Cb ws (ZA ws a (l.length:Int)).1.toNat l))) Fz))
def Z1S(ws:List Int)(a v:Int)(hw:ws.length<=1048576)(h0:0<=a/\a<=18446744073709551615):GP 116 [Z2 ws,uU a,uU v] L (.tu [Z2 (BL ws a v).1,nI (BL ws a v).2]) []:=by exact gF [] func116 []<|Fs 11 (Z wD [v])<|Fc 12 (@My ws ([v]) a aa aa (by simp[BL, *])) Fz
def ZhH(ws:List Int)(a b n:Int)(hw:ws.length<=1048576)(h0:0<=a/\a<=18446744073709551615)(h1:0<=b/\b<=18446744073709551615):GP 187 [Z2 ws,uU a,uU b,nI n] L (.tu [Z2 (moveA ws a b n).1,nI (moveA ws a b n).2]) []:=by have hr:=Z5V ws b n;have d {h_ c_ p_} (e:Fq h_ c_ p_):=Fc 16 (@Z2v ws b n aa aa) e;rcases bb ((BN ws b n).2 != 0)with hc0|hc0<;>have c:=hc0<;>simp only[bs]at c;exact gF [] func187 [Y] (d (Ft 20 hc0<|Fnl (Fa (by simp[moveA, *]:[]=Z wD (moveA ws a b n).1)<|Fa (by simp[moveA, *]:(BN ws b n).2=(moveA ws a b n).2) Fz)));rw[show moveA ws a b n=ZU ws a (BN ws b n).1 from by simp[moveA, *]];exact gF [] func187 [] (d (Ff 20 hc0<|Fc 25 (@My ws ((BN ws b n).1) a aa aa oq) Fz))
def NI n:GP 118 [nI n] Y (bL (X (0<=n)&&X (n<=2147483647))) []:=by exact gF [] func118 [] Fz
def EN(sp:Int):List Z0->Nat|[]=>0|p::r=>if p.K=3/\p.S=sp then EN sp r+1 else 0
def Px sp:∀l,EN sp l<=l.length
 |[]=>LB _
 |p::r=>by
  have:=Px sp r;simp only[EN,List.length_cons];split<;>omega
def drop_at{l:List Z0}{k:Nat}(h:k<l.length):l.drop k=l.getD k M::l.drop (k+1):=by rw[List.drop_eq_getElem_cons h];simp[Lr,h]
def Z0m(l:List Z0)(sp:Int)(n k:Nat):Tg:=⟨tm 37 [(0,ZZ l),(2,nI sp),(7,nI n),(8,nI k)],[],60⟩
def Zlq(l:List Z0)(hl:l.length<=1048576)(sp:Int)(n k:Nat)(hn:n<=k)(hk:k<l.length)(h:(l.getD k M).K=3/\(l.getD k M).S=sp):CP (Zn f119 0) (Z0m l sp n k).st .nrm (Z0m l sp (n+1) (k+1)).st:=by let a:=(k:Int)<(l.length:Int);exact sF [] []<|Fl 13 Z0.dv l<|FeG 18 (decide a) Z0.dv l (↑k) k<|FeG 26 (decide a&&(l.getD k M).K==3) Z0.dv l (↑k) k<|Ftb 31 (decide a&&(l.getD k M).K==3&&(l.getD k M).S==sp)<|Fx 35 n<|Fx 33 k Fz
def Z75(l:List Z0)(hl:l.length<=1048576)(sp:Int)(n k:Nat)(h:k<l.length->¬ ((l.getD k M).K=3/\(l.getD k M).S=sp)):CP (Zn f119 0) (Z0m l sp n k).st (.ext 0) (Tg.st ⟨tm 37 [(7,nI n)],[],60⟩):=by let a:=(k:Int)<(l.length:Int);exact sF [] []<|Fl 13 Z0.dv l<|FeG 18 (decide a) Z0.dv l (↑k) k<|FeG 26 (decide a&&(l.getD k M).K==3) Z0.dv l (↑k) k<|Ffb 31 (decide a&&(l.getD k M).K==3&&(l.getD k M).S==sp) Fz
def Zba(l:List Z0)(hl:l.length<=1048576) sp:∀(m n k:Nat),l.length-k=m->n<=k->Gk prog f119 0 (Z0m l sp n k).st (.ext 0) (Tg.st ⟨tm 37 [(7,nI ((n+EN sp (l.drop k):Nat):Int))],[],60⟩):=by
 intro m;induction m with
 |zero =>intro n k b a;have e:l.drop k=[]:=List.drop_eq_nil_of_le oq;rw[e];exact .endx (Z75 l hl sp n k (λh=>by omega))
 |succ m c =>
  intro n k b a;rw[drop_at oq,EN];by_cases h:(l.getD k M).K=3/\(l.getD k M).S=sp
  .rw[if_pos h];have:=c (n+1) (k+1) oq oq;rw[show n+1+EN sp (l.drop (k+1))=n+(EN sp (l.drop (k+1))+1)from by omega]at this;exact .next (Zlq l hl sp n k a oq h) this
  rw[if_neg h];exact .endx (Z75 l hl sp n k (λ_=>h))
def ZiU(l:List Z0)(sp:Int)(k:Nat)(hl:l.length<=1048576):CP (Zj f119 0) (Tg.st ⟨tm 37 [(0,ZZ l),(2,nI sp),(7,nI 0),(8,nI k)],[],60⟩) .nrm (Tg.st ⟨tm 37 [(7,nI (EN sp (l.drop k)))],[],60⟩):=by
 have:=(Zba l hl sp _ 0 k rfl oq).ext kr;rw[Nat.zero_add]at this;exact this
def Za0(l:List Z0)(i:Nat) sp(hl:l.length<=1048576)(hi:i<l.length):GP 119 [ZZ l,nI i,nI sp] Y (nI (EN sp (l.drop (i+1)))) []:=by exact gF [] func119 []<|Fx 10 i<|Fu (@ZiU l sp (i+1) aa) Fz
def Gg(c:B3)(l:List Z0)(i:Nat)(a:Int):Prop:=
 ((l.getD i M).K=3↔0<a)/\0<=(l.getD i M).S/\(l.getD i M).S<=1/\0<=(l.getD i M).N/\(l.getD i M).N<=2147483647 /\
 0<=(l.getD i M).K/\(l.getD i M).K<=3 /\
 ((l.getD i M).K=0->(l.getD i M).S=0/\(l.getD i M).U=0/\(l.getD i M).N=0) /\
 ((l.getD i M).K=1->0<=(l.getD i M).U/\(l.getD i M).U<=c.pw) /\
 ((l.getD i M).K=2->1<=need c (l.getD i M).U/\need c (l.getD i M).U-1<=EN (l.getD i M).S (l.drop (i+1))) /\
 ((l.getD i M).K=3->(l.getD i M).U=0/\(l.getD i M).N=0)
def EE(c:B3)(l:List Z0)(i:Nat)(a:Int):Int:=if(l.getD i M).K=2 then need c (l.getD i M).U-1 else max 0 (a-1)
def Mj(h:Heap)(i:Nat)(a:Int):Tg:=⟨tm 157 [(1,.pt 8001 0 0),(2,bL L),(3,nI a),(4,nI i)],[(8001,.box 28 h.cells)],60⟩
def DU c(n:Int):-1<=need c n/\need c n<=5:=by unfold need;split;rename_i h;have:=BG.1 h.1;split;omega;have h1:0<=(n+c.pw-1)/c.pw:=Lx oq oq;have h2:(n+c.pw-1)/c.pw<6:=LC oq oq;omega;omega
def Z7G(h:Heap)(i:Nat)(a:Int)(hl:h.P.length<=1048576)(hi:i<h.P.length)(hd:0<=a/\a<=5)(k:Gg h.C h.P i a):CP (Zn f65 0) (Mj h i a).st .nrm (Mj h (i+1) (EE h.C h.P i a)).st:=by have hn:=DU h.C (h.P.getD i M).U;have l:=Px (h.P.getD i M).S (h.P.drop (i+1));rw[Ls]at l;unfold Gg at k;let b:=h.P.getD i M;have f {h_ c_ p_} (m:Fq h_ c_ p_):=FN 72 73 79 Z0.dv h.P i<|FcG 100 (!(!(b.K==3)==X (0<a)||X (b.S<0)||X (1<b.S))) (λj=>by(try simp only[bs]at j);exact@NI (b.N))<|Ffb 102 (!(b.K==3)==X (0<a)||X (b.S<0)||X (1<b.S)||!(X (0<=b.N)&&X (b.N<=2147483647))) m;rcases bb ((h.P.getD i M).K==0)with hc0|hc0<;>have c:=hc0<;>simp only[bs]at c;exact sF [] (fO 12)<|Fh 105 [.br Y] (f (Fa hc0<|Ffb 109 (!(b.K==0&&(b.S==0&&(b.U==0&&b.N==0))))<|Fi 155 (a-1)<|Fgo 156 (if a-1 > 0 then a-1 else 0) (max 0 (a-1))<|Fx 75 i<|Fa (by grind[EE]:max 0 (a-1)=EE h.C h.P i a) Fz));rcases bb ((h.P.getD i M).K==1)with hc1|hc1<;>have d:=hc1<;>simp only[bs]at d;exact sF [] (fO 18)<|Fh 110 [.br Y]<|Fh 122 [.br L] (f (Fa hc0<|Fa hc1<|Ffb 105 (X (b.U<0)||X (h.C.pw<b.U))<|Fi 155 (a-1)<|Fgo 156 (if a-1 > 0 then a-1 else 0) (max 0 (a-1))<|Fx 75 i<|Fa (by grind[EE]:max 0 (a-1)=EE h.C h.P i a) Fz));rcases bb ((h.P.getD i M).K==2)with hc2|hc2<;>have e:=hc2<;>simp only[bs]at e;let g:=need h.C b.U-1;exact sF [] (fO 21)<|Fh 110 [.br L]<|Fh 123 [.br Y]<|Fh 142 [.br L] (f (Fa hc0<|Fa hc1<|Fa hc2<|Fc 129 (@Rq h.C (b.U))<|FcG 138 (!decide (need h.C b.U<1)) (λj=>by(try simp only[bs]at j);exact@Za0 h.P i (b.S) aa aa)<|FiG 140 (!decide (need h.C b.U<1)) g<|Ffb 105 (X (need h.C b.U<1)||X ((↑(EN b.S (Lg (i+1) h.P)):Int)<need h.C b.U-1))<|Fi 155 g<|Fgo 156 (if need h.C b.U-1 > 0 then need h.C b.U-1 else 0) (max 0 g)<|Fx 75 i<|Fa (by grind[EE]:max 0 g=EE h.C h.P i a) Fz));exact sF [] (fO 15)<|Fh 110 [.br L]<|Fh 123 [.br L]<|Fh 144 [.br Y]<|Fh 153 [.br L] (f (Fa hc0<|Fa hc1<|Fa hc2<|Fb ((b.K==3)=Y)<|Ffb 105 (b.U != 0||b.N != 0)<|Fi 155 (a-1)<|Fgo 156 (if a-1 > 0 then a-1 else 0) (max 0 (a-1))<|Fx 75 i<|Fa (by grind[EE]:max 0 (a-1)=EE h.C h.P i a) Fz))
def ZgT(h:Heap)(i:Nat)(b:Int)(hl:h.P.length<=1048576)(hi:i<h.P.length)(hd:0<=b/\b<=5)(q:¬ Gg h.C h.P i b):CP (Zn f65 0) (Mj h i b).st .ret (Tg.st ⟨tm 157 [(2,bL L)],[],60⟩):=by have hn:=DU h.C (h.P.getD i M).U;have r:=Px (h.P.getD i M).S (h.P.drop (i+1));rw[Ls]at r;unfold Gg at q;let a:=h.P.getD i M;have d {h_ c_ p_} (s:Fq h_ c_ p_):=FN 72 73 79 Z0.dv h.P i<|FcG 100 (!(!(a.K==3)==X (0<b)||X (a.S<0)||X (1<a.S))) (λp=>by(try simp only[bs]at p);exact@NI (a.N)) s;rcases bb (!((h.P.getD i M).K==3)==X (0<b)||X ((h.P.getD i M).S<0)||X (1<(h.P.getD i M).S)||!(X (0<=(h.P.getD i M).N)&&X ((h.P.getD i M).N<=2147483647)))with hc0|hc0<;>have c:=hc0<;>simp only[bs]at c;exact sF [] [] (d (Ft 102 hc0 Fz));obtain⟨⟨⟨e,f⟩,m⟩,⟨n,o⟩⟩:=c;rcases bb ((h.P.getD i M).K==0)with hc1|hc1<;>have g:=hc1<;>simp only[bs]at g;exact sF [] []<|Fh 109 [.br Y] (d (Ff 102 hc0<|Fa hc1<|Ftb 105 (!(a.K==0&&(a.S==0&&(a.U==0&&a.N==0)))) Fz));rcases bb ((h.P.getD i M).K==1)with hc2|hc2<;>have j:=hc2<;>simp only[bs]at j;exact sF [] []<|Fh 105 [.br L]<|Fh 122 [.br Y] (d (Ff 102 hc0<|Fa hc1<|Fa hc2<|Ftb 110 (X ((h.P.getD i M).U<0)||X (h.C.pw<(h.P.getD i M).U)) Fz));rcases bb ((h.P.getD i M).K==2)with hc3|hc3<;>have k:=hc3<;>simp only[bs]at k;exact sF [] []<|Fh 105 [.br L]<|Fh 110 [.br L]<|Fh 142 [.br Y] (d (Ff 102 hc0<|Fa hc1<|Fa hc2<|Fa hc3<|Fc 129 (@Rq h.C (a.U))<|FcG 138 (!decide (need h.C a.U<1)) (λp=>by(try simp only[bs]at p);exact@Za0 h.P i (a.S) aa aa)<|FiG 140 (!decide (need h.C a.U<1)) (need h.C a.U-1)<|Ftb 123 (X (need h.C a.U<1)||X ((↑(EN a.S (Lg (i+1) h.P)):Int)<need h.C a.U-1)) Fz));rcases bb ((h.P.getD i M).K==3)with hc4|hc4<;>have l:=hc4<;>simp only[bs]at l;exact sF [] []<|Fh 105 [.br L]<|Fh 110 [.br L]<|Fh 123 [.br L]<|Fh 153 [.br Y] (d (Ff 102 hc0<|Fa hc1<|Fa hc2<|Fa hc3<|Fa hc4<|Ftb 144 (a.U != 0||a.N != 0) Fz));exact sF [] []<|Fh 105 [.br L]<|Fh 110 [.br L]<|Fh 123 [.br L]<|Fh 144 [.br L] (d (Ff 102 hc0<|Fa hc1<|Fa hc2<|Fa hc3<|Fa hc4 Fz))
def Za2(h:Heap) a:CP (Zn f65 0) (Mj h h.P.length a).st (.ext 0) (Tg.st ⟨tm 157 [],[],60⟩):=by exact sF [] []<|FO 72 73 Z0.dv h.P Fz
instance (c:B3) (l:List Z0) (i:Nat) (due:Int):Decidable (Gg c l i due):=by unfold Gg;infer_instance
def Ge(c:B3)(l:List Z0):Nat->Nat->Int->Bool|0,_,_=>Y|f+1,i,due=>if i<l.length then X (Gg c l i due)&&Ge c l f (i+1) (EE c l i due)else Y
def Zig{c}{l:List Z0}{f i:Nat}{a:Int}(h:l.length<=i):Ge c l f i a=Y:=by
 cases f with|zero=>rfl|succ f=>rw[Ge,if_neg oq]
def Z29{c}{l:List Z0}{f i:Nat}{a:Int}(h:i<l.length)(hf:l.length<=i+f):Ge c l f i a=(X (Gg c l i a)&&Ge c l (f-1) (i+1) (EE c l i a)):=by
 cases f with|zero=>omega|succ f=>rw[Ge,if_pos h];rfl
def Z1b{c}{l:List Z0}{f i:Nat}(h:i<l.length)(hf:l.length<=i+f):GG c l f i=(if Ce c l i=0 then L else GG c l (f-1) (i+Ce c l i)):=by
 cases f with|zero=>omega|succ f=>rw[GG,if_pos h];rfl
def Zl9{c}{l:List Z0}:∀{m f g i:Nat},l.length-i<=m->l.length<=i+f->l.length<=i+g->GG c l f i=GG c l g i:=by
 intro m;induction m with
 |zero =>
  intro f g i k b d;have e:∀f,GG c l f i=Y:=by
   intro f;cases f with|zero=>rw[GG,decide_eq_true oq]|succ f=>rw[GG,if_neg oq]
  rw[e,e]
 |succ m j =>intro f g i k b d;by_cases h:i<l.length;rw[Z1b h b,Z1b h d];by_cases a:Ce c l i=0;rw[if_pos a,if_pos a];rw[if_neg a,if_neg a];exact j oq oq oq;exact j oq b d
def getD_at{l:List Z0}{i:Nat}(h:i<l.length):l[i]?=La (l.getD i M):=by simp[Lr,h]
def Zk9{c}{l:List Z0}{sp:Int}(n:sp=0\/sp=1)(q:Z0)(hq:q.S=sp):∀(d f i:Nat),d<=EN sp (l.drop i)->i+d<=l.length->l.length<=i+f ->
  Ge c l f i d=(NE q ((l.drop i).take d)&&Ge c l (f-d) (i+d) 0):=by
 intro d;induction d with
 |zero=>intro f i _ _ _;simp[NE]
 |succ d o =>
  intro f i h h2 m;have j:i<l.length:=by omega
  rw[drop_at j,EN]at h;by_cases g:(l.getD i M).K=3/\(l.getD i M).S=sp;rw[if_pos g]at h;have k:EE c l i ((d+1:Nat):Int)=(d:Int):=by(unfold EE;rw[if_neg oq];omega)
  rw[Z29 j m,k,o (f-1) (i+1) oq oq oq,drop_at j,LQ,show f-1-d=f-(d+1)from by omega,show i+1+d=i+(d+1)from by omega];have e:X (Gg c l i ((d+1:Nat):Int))=HG (l.getD i M) q:=by(rw[Lv];simp only[decide_eq_true_eq,HG];unfold Gg;generalize l.getD i M=p at g;obtain⟨a,b,u,v⟩:=p;simp only[Z0.mk.injEq]at g⊢;omega)
  rw[e];simp[NE,Bool.and_assoc];rw[if_neg g]at h;omega
def Z9h{sp:Int}{q:Z0}(b:q.S=sp):∀{l:List Z0} {d:Nat},NE q (l.take d)=Y->d<=l.length->d<=EN sp l
 |_,0,_,_=>Nat.zero_le _
 |[],d+1,_,h=>by simp at h
 |p::l,d+1,h,hl=>by
  simp only[NE,LQ,LF,Le]at h;have a:=h.1;simp only[HG,decide_eq_true_eq]at a;have:=Z9h (sp:=sp) b (l:=l) (d:=d) h.2 (by simpa using hl);rw[EN,if_pos (by rw[a];exact⟨rfl,b⟩)];omega
def ZcQ{c}{l:List Z0}:∀{m f i:Nat},l.length-i<=m->l.length<=i+f->Ge c l f i 0=GG c l f i:=by
 intro m;induction m with
 |zero =>
  intro f i hm y;rw[Zig oq];cases f with|zero=>rw[GG,decide_eq_true oq]|succ f=>rw[GG,if_neg oq]
 |succ m ih =>
  intro f i hm y;by_cases z:i<l.length;rotate_left;exact ih oq y;have w:=getD_at z;rw[Z29 z y,Z1b z y];generalize d:l.getD i M=p at w;have j:∀(b:Bool),EE c l i 0=0->X (Gg c l i 0)=b->Ce c l i=(if b=Y then 1 else 0)->(X (Gg c l i 0)&&Ge c l (f-1) (i+1) (EE c l i 0))=(if Ce c l i=0 then L else GG c l (f-1) (i+Ce c l i)):=by(intro b h1 h2 h3;rw[h1,h2,h3,ih oq oq];cases b<;>simp)
  by_cases g:p.K=2;rotate_left;have o:EE c l i 0=0:=by unfold EE;rw[d,if_neg g];omega
  by_cases k:p.K=0;refine j (HA p) o ?_ (by rw[Ce,w];simp only[k,if_true]);rw[Lv];simp only[decide_eq_true_eq,HA];unfold Gg;rw[d];obtain⟨a,b,u,v⟩:=p;simp only[Z0.mk.injEq]at k g⊢;omega;by_cases s:p.K=1;refine j (Nj p c) o ?_ (by rw[Ce,w];simp[s]);rw[Lv];simp only[decide_eq_true_eq,Nj,Hg,N9,Le,Lq,beq_iff_eq];unfold Gg;rw[d];omega;refine j L o ?_ (by rw[Ce,w];simp[k,s,g]);simp only[decide_eq_false_iff_not];unfold Gg;rw[d];omega;have o:EE c l i 0=need c p.U-1:=by unfold EE;rw[d,if_pos g]
  have n:Gg c l i 0↔GQ p c=Y/\need c p.U-1<=EN p.S (l.drop (i+1)):=by(simp only[GQ,Hg,N9,Le,Lq,beq_iff_eq,decide_eq_true_eq];unfold Gg;rw[d];omega)
  have x:Ce c l i=(if GQ p c=Y then(if(need c p.U).toNat<=l.length-i/\NE p ((l.drop (i+1)).take ((need c p.U).toNat-1))=Y then(need c p.U).toNat else 0)else 0):=by(rw[Ce,w];simp[g])
  by_cases t:GQ p c=Y;have hn:1<=need c p.U/\(p.S=0\/p.S=1):=by(simp only[GQ,Hg,N9,Le,Lq,beq_iff_eq,decide_eq_true_eq]at t;omega)
  have a1:=Px p.S (l.drop (i+1));rw[Ls]at a1;rw[x,if_pos t,o];by_cases ht:need c p.U-1<=EN p.S (l.drop (i+1));rw[decide_eq_true (n.2 ⟨t,ht⟩),Lw];have e:need c p.U-1=(((need c p.U).toNat-1:Nat):Int):=by omega
  rw[e,Zk9 hn.2 p rfl _ _ _ oq oq oq];have r:(need c p.U).toNat<=l.length-i:=by omega
  cases htb:NE p ((l.drop (i+1)).take ((need c p.U).toNat-1))with|false=>simp|true =>simp only[r,and_self,if_true];rw[if_neg oq,Lw,ih oq oq,show i+1+((need c p.U).toNat-1)=i+(need c p.U).toNat from by omega];exact Zl9 (m:=l.length) oq oq oq
  rw[decide_eq_false (λh=>ht (n.1 h).2),Bool.false_and];have a0:¬ ((need c p.U).toNat<=l.length-i/\NE p ((l.drop (i+1)).take ((need c p.U).toNat-1))=Y):=by(intro h;have:=Z9h (sp:=p.S) (q:=p) rfl h.2 (by rw[Ls];omega);omega)
  rw[if_neg a0];simp;rw[x,if_neg t,decide_eq_false (λh=>t (n.1 h).1)];simp
def Z8O{c l i}{a:Int}(hd:0<=a/\a<=5)(b:Gg c l i a):0<=EE c l i a/\EE c l i a<=5:=by have:=DU c (l.getD i M).U;unfold Gg at b;unfold EE;split<;>omega
def ZjP(h:Heap)(hl:h.P.length<=1048576):∀(f i:Nat) (a:Int),i<=h.P.length->h.P.length<=i+f->0<=a/\a<=5->Ge h.C h.P f i a=Y->Gk prog f65 0 (Mj h i a).st (.ext 0) (Tg.st ⟨tm 157 [],[],60⟩):=by
 intro f;induction f with
 |zero =>
  intro i a j g c b;have:i=h.P.length:=by omega
  subst this;exact .endx (Za2 h a)
 |succ f k =>
  intro i a j g c b;by_cases e:i<h.P.length
  .rw[Ge,if_pos e,Le]at b;have d:=of_decide_eq_true b.1;exact .next (Z7G h i a hl e c d) (k (i+1) _ oq oq (Z8O c d) b.2)
  have:i=h.P.length:=by omega
  subst this;exact .endx (Za2 h a)
def ZaY(h:Heap)(hl:h.P.length<=1048576):∀(f i:Nat) (a:Int),0<=a/\a<=5->Ge h.C h.P f i a=L->Gk prog f65 0 (Mj h i a).st .ret (Tg.st ⟨tm 157 [(2,bL L)],[],60⟩):=by
 intro f;induction f with
 |zero=>intro i a d b;cases b
 |succ f g =>
  intro i a d b;by_cases e:i<h.P.length;rw[Ge,if_pos e]at b;by_cases c:Gg h.C h.P i a
  .rw[decide_eq_true c,Lw]at b;exact .next (Z7G h i a hl e d c) (g (i+1) _ (Z8O d c) b)
  exact .endr (ZgT h i a hl e d c);rw[Ge,if_neg e]at b;cases b
def Zek(h:Heap)(hl:h.P.length<=1048576)(a:Ge h.C h.P h.P.length 0 0=Y):CP (Zj f65 0) (Tg.st ⟨tm 157 [(1,.pt 8001 0 0),(2,bL L),(3,nI 0),(4,nI 0)],[(8001,.box 28 h.cells)],60⟩) .nrm (Tg.st ⟨tm 157 [],[],60⟩):=
 (ZjP h hl _ 0 0 oq oq oq a).ext kr
def Zhs(h:Heap)(hl:h.P.length<=1048576)(a:Ge h.C h.P h.P.length 0 0=L):CP (Zj f65 0) (Tg.st ⟨tm 157 [(1,.pt 8001 0 0),(2,bL L),(3,nI 0),(4,nI 0)],[(8001,.box 28 h.cells)],60⟩) .ret (Tg.st ⟨tm 157 [(2,bL L)],[],60⟩):=
 (ZaY h hl _ 0 0 oq a).ret kr
theorem Pb l(i:Int):E0 l i=l.getD i.toNat M:=by rw[E0,Lo];rfl
def I7{h:Heap}:Z8 h=Y↔Zs h.C=Y/\(h.W.length:Int)=h.C.pw*h.C.pg/\(h.P.length:Int)=h.C.pg/\(h.S=0\/h.S=1) /\ (h.B=-1\/(0<=h.B/\h.B<h.P.length/\(h.P.getD h.B.toNat M).K=1))/\Ge h.C h.P h.P.length 0 0=Y:=by rw[ZcQ (m:=h.P.length) oq oq];simp only[Z8,Le,Z0x,MR,Lq,beq_iff_eq,decide_eq_true_eq,Pb];constructor;rintro⟨⟨a,b,c,d⟩,f,e⟩;exact⟨a,b,c,d,by omega,e⟩;rintro⟨a,b,c,d,f,e⟩;exact⟨⟨a,b,c,d⟩,by omega,e⟩
def Cy(h:Heap):GP 65 [h.av] Y (bL (Z8 h)) []:=by
  by_cases m:Zs h.C=Y
  . have y:=HE m;rw[Ln]at y;have z:=BG.1 m;have ei:h.C.pg*h.C.pw=h.C.pw*h.C.pg:=Ln _ _;cases x:Ge h.C h.P h.P.length 0 0 with
    | true => rcases Lu (!Zs h.C||(h.W.length:Int) != h.C.pw*h.C.pg||(h.P.length:Int) != h.C.pg||X (h.S<(0:Int))||X ((1:Int)<h.S))with hc0 | hc0
              . have a:=hc0;simp only[bs]at a;exact gF [] func65 (fO 24)<|Fh 21 [.int (h.C.pw*h.C.pg)]<|Fc 9 (@GC h.C)<|FlG 14 (!!Zs h.C) wD h.W<|Fa (by intro l;(try simp only[bs]at l);rw[Ea oq oq];omega:(!!Zs h.C)=Y->Lb.wrap (h.C.pg*h.C.pw)=h.C.pw*h.C.pg)<|FlG 27 (!(!Zs h.C||(h.W.length:Int) != h.C.pw*h.C.pg)) Z0.dv h.P<|Ft 42 ‹(!Zs h.C||(h.W.length:Int) != h.C.pw*h.C.pg||(h.P.length:Int) != h.C.pg||X (h.S<0)||X (1<h.S))=Y›<|Fa (by exact(Ll.2 (λf=>by obtain⟨n,o,p,r,s,t⟩:=I7.1 f;simp[m]at a;omega)).symm:L=Z8 h) Fz
              . have a:=hc0;simp only[bs]at a;obtain⟨⟨⟨⟨c,d⟩,e⟩,g⟩,i⟩:=a;have v {h_ c_ p_} (u:Fq h_ c_ p_):=Fc 9 (@GC h.C)<|FlG 14 (!!Zs h.C) wD h.W<|Fa (by intro l;(try simp only[bs]at l);rw[Ea oq oq];omega:(!!Zs h.C)=Y->Lb.wrap (h.C.pg*h.C.pw)=h.C.pw*h.C.pg)<|FlG 27 (!(!Zs h.C||(h.W.length:Int) != h.C.pw*h.C.pg)) Z0.dv h.P<|Ff 42 ‹(!Zs h.C||(h.W.length:Int) != h.C.pw*h.C.pg||(h.P.length:Int) != h.C.pg||X (h.S<0)||X (1<h.S))=L›<|FlG 55 (h.B != (-1:Int)&&!decide (h.B<0)) Z0.dv h.P<|FeGq 63 (h.B != (-1:Int)&&!(X (h.B<0)||X ((h.P.length:Int)<=h.B))) Z0.dv h.P h.B u;rcases bb (h.B != (-1:Int)&&(X (h.B<0)||X ((h.P.length:Int)<=h.B)||(h.P.getD h.B.toNat M).K != 1))with hc1|hc1<;>have b:=hc1<;>simp only[bs]at b
                . obtain⟨j,k⟩:=b;exact gF [] func65 (fO 45)<|Fh 21 [.int (h.C.pw*h.C.pg)] (v (Ft 68 hc1<|Fa (by exact(Ll.2 (λf=>by obtain⟨n,o,p,r,s,t⟩:=I7.1 f;omega)).symm:L=Z8 h) Fz))
                . exact gF [] func65 (fO 50)<|Fh 21 [.int (h.C.pw*h.C.pg)] (v (Ff 68 hc1<|Fu (@Zek h oq aa)<|Fa (by exact(I7.2 ⟨m,by omega,by omega,by omega,by omega,x⟩).symm:Y=Z8 h) Fz))
    | false => rcases Lu (!Zs h.C||(h.W.length:Int) != h.C.pw*h.C.pg||(h.P.length:Int) != h.C.pg||X (h.S<(0:Int))||X ((1:Int)<h.S))with hc0 | hc0
               . have a:=hc0;simp only[bs]at a;exact gF [] func65 (fO 24)<|Fh 21 [.int (h.C.pw*h.C.pg)]<|Fc 9 (@GC h.C)<|FlG 14 (!!Zs h.C) wD h.W<|Fa (by intro l;(try simp only[bs]at l);rw[Ea oq oq];omega:(!!Zs h.C)=Y->Lb.wrap (h.C.pg*h.C.pw)=h.C.pw*h.C.pg)<|FlG 27 (!(!Zs h.C||(h.W.length:Int) != h.C.pw*h.C.pg)) Z0.dv h.P<|Ft 42 ‹(!Zs h.C||(h.W.length:Int) != h.C.pw*h.C.pg||(h.P.length:Int) != h.C.pg||X (h.S<0)||X (1<h.S))=Y›<|Fa (by exact(Ll.2 (λf=>by obtain⟨n,o,p,r,s,t⟩:=I7.1 f;simp[m]at a;omega)).symm:L=Z8 h) Fz
               . have a:=hc0;simp only[bs]at a;obtain⟨⟨⟨⟨c,d⟩,e⟩,g⟩,i⟩:=a;have w {h_ c_ p_} (u:Fq h_ c_ p_):=Fc 9 (@GC h.C)<|FlG 14 (!!Zs h.C) wD h.W<|Fa (by intro l;(try simp only[bs]at l);rw[Ea oq oq];omega:(!!Zs h.C)=Y->Lb.wrap (h.C.pg*h.C.pw)=h.C.pw*h.C.pg)<|FlG 27 (!(!Zs h.C||(h.W.length:Int) != h.C.pw*h.C.pg)) Z0.dv h.P<|Ff 42 ‹(!Zs h.C||(h.W.length:Int) != h.C.pw*h.C.pg||(h.P.length:Int) != h.C.pg||X (h.S<0)||X (1<h.S))=L›<|FlG 55 (h.B != (-1:Int)&&!decide (h.B<0)) Z0.dv h.P<|FeGq 63 (h.B != (-1:Int)&&!(X (h.B<0)||X ((h.P.length:Int)<=h.B))) Z0.dv h.P h.B u;rcases bb (h.B != (-1:Int)&&(X (h.B<0)||X ((h.P.length:Int)<=h.B)||(h.P.getD h.B.toNat M).K != 1))with hc1|hc1<;>have b:=hc1<;>simp only[bs]at b
                 . obtain⟨j,k⟩:=b;exact gF [] func65 (fO 45)<|Fh 21 [.int (h.C.pw*h.C.pg)] (w (Ft 68 hc1<|Fa (by exact(Ll.2 (λf=>by obtain⟨n,o,p,r,s,t⟩:=I7.1 f;omega)).symm:L=Z8 h) Fz))
                 . exact gF [] func65 (fO 50)<|Fh 21 [.int (h.C.pw*h.C.pg)] (w (Ff 68 hc1<|Fu (@Zhs h oq aa)<|Fa (by exact(Ll.2 (λf=>by have q:=(I7.1 f).2.2.2.2.2;rw[x]at q;cases q)).symm:L=Z8 h) Fz))
  . have hf:Zs h.C=L:=by simpa using m
    exact gF [] func65 (fO 24)<|Fc 9 (@GC h.C)<|FlG 14 (!!Zs h.C) wD h.W<|FlG 27 (!(!Zs h.C||(h.W.length:Int) != Lb.wrap (h.C.pg*h.C.pw))) Z0.dv h.P<|Ft 42 (by simp[*]:(!Zs h.C||(h.W.length:Int) != Lb.wrap (h.C.pg*h.C.pw)||(h.P.length:Int) != h.C.pg||X (h.S<0)||X (1<h.S))=Y)<|Fa (by exact(Ll.2 (λf=>m (I7.1 f).1)).symm:L=Z8 h) Fz
def Zz(ws:List Int):Prop:=∀w∈ws,0<=w/\w<=18446744073709551615
def Z1w{ws}(h:Zz ws)(i:Nat):0<=ws.getD i 0/\ws.getD i 0<=18446744073709551615:=by
 rw[Lo];cases e:ws[i]? with|none=>simp|some x=>exact h x (Lj e)
def EW{ws}(h:Zz ws) a:0<=(Z1 ws a).1/\(Z1 ws a).1<=18446744073709551615:=by unfold Z1;split;exact Z1w h _;simp
def IK(w:Int)(h:0<=w):0<=(Z7 w).1.map/\(Z7 w).1.map<=4294967295:=by unfold Z7;split;exact Z3G w h;simp[E4]
def B4{h:Heap}(c:Z8 h=Y):Zs h.C=Y/\16<=h.C.pw/\h.C.pw<=64/\8<=h.C.pg/\h.C.pg<=64/\(h.W.length:Int)=h.C.pw*h.C.pg/\h.W.length<=4096/\(h.P.length:Int)=h.C.pg/\(h.S=0\/h.S=1):=by simp only[Z8,Le]at c;obtain⟨b,d,e,f⟩:=Z0x.1 c.1;have a:=BG.1 b;have:=HE b;exact⟨b,a.1,a.2.1,a.2.2.2.1,a.2.2.2.2,d,by omega,e,f⟩
def GL{c:B3}{a}(e:Zs c=Y)(h:(Z3 c a).2.2=0):0<=(Z3 c a).1/\(Z3 c a).1<c.pg/\0<=(Z3 c a).2.1/\(Z3 c a).2.1<c.pw/\4096<=a/\a<4096+c.pw*c.pg/\a=4096+((Z3 c a).1*c.pw+(Z3 c a).2.1):=by have hb:=BG.1 e;unfold Z3 at h⊢;rw[if_pos e]at h⊢;split at h;rename_i d;rw[if_pos d];simp only;have f:0<=(a-4096)/c.pw:=Lx oq oq;have g:(a-4096)/c.pw<c.pg:=LC oq (by rw[Ln];omega);have i:=Int.emod_nonneg (a-4096) (b:=c.pw) oq;have j:=Int.emod_lt_of_pos (a-4096) (b:=c.pw) oq;have k:=Int.mul_ediv_add_emod (a-4096) c.pw;refine⟨f,g,i,j,d.1,d.2, ?_⟩;rw[Ln]at k;omega;simp at h
def Z9(h:Heap)(a:Int):Zv×Int:=
 if Z8 h=Y then
  (if(Z3 h.C a).2.2=0 then
   (if((h.P.getD (Z3 h.C a).1.toNat M).K=1\/(h.P.getD (Z3 h.C a).1.toNat M).K=2)/\(Z3 h.C a).2.1<(h.P.getD (Z3 h.C a).1.toNat M).U/\(Z7 (Z1 h.W a).1).2=Y then
    (if((h.P.getD (Z3 h.C a).1.toNat M).K=1/\(h.P.getD (Z3 h.C a).1.toNat M).U<(Z3 h.C a).2.1+Z5 (Z7 (Z1 h.W a).1).1) \/
      ((h.P.getD (Z3 h.C a).1.toNat M).K=2/\((Z3 h.C a).2.1≠0\/Z5 (Z7 (Z1 h.W a).1).1≠(h.P.getD (Z3 h.C a).1.toNat M).U))then(E4,19)
     else((Z7 (Z1 h.W a).1).1,0))
    else(E4,19))
   else(E4,2))
 else(E4,1)
def Ib(h:Zv):0<=Z5 h/\Z5 h<=256:=by unfold Z5;split;have:=Gq.1 aa;omega;omega
def Nk(h:Heap)(a:Int)(hw:Zz h.W)(h0:0<=a/\a<=18446744073709551615):GP 91 [h.av,uU a] Y (.tu [(Z9 h a).1.av,nI (Z9 h a).2]) []:=by have hr:=EW hw a;have hd:=IK (Z1 h.W a).1 hr.1;have hs:=Ib (Z7 (Z1 h.W a).1).1;rcases bb (!Z8 h)with hc0|hc0<;>have g:=hc0<;>simp only[bs]at g;rw[show Z9 h a=(Zv.mk (0:Int) (0:Int) (0:Int),(1:Int))from by simp[Z9,E4, *]];exact gF [] func91 []<|Fc 16 (@Cy h)<|Ft 17 hc0 Fz;have a1:=B4 g;obtain⟨a3,⟨a2,⟨z,⟨t,⟨o,⟨m,⟨k,⟨e,f⟩⟩⟩⟩⟩⟩⟩⟩:=a1;have Q0 {h_ c_ p_} (u:Fq h_ c_ p_):=Fc 16 (@Cy h)<|Ff 17 hc0<|Fc 23 (@He h.C a oq oq) u;rcases bb ((Z3 h.C a).2.2 != 0)with hc18|hc18<;>have b:=hc18<;>simp only[bs]at b;rw[show Z9 h a=(Zv.mk (0:Int) (0:Int) (0:Int),(2:Int))from by simp[Z9,E4, *]];exact gF [] func91 [] (Q0 (Ft 28 hc18 Fz));have r:=GL aa b;obtain⟨a0,⟨y,⟨s,⟨n,⟨l,⟨i,j⟩⟩⟩⟩⟩⟩:=r;have Q1 {h_ c_ p_} (u:Fq h_ c_ p_):=Q0<|Ff 28 hc18<|Fe 33 Z0.dv h.P ((Z3 h.C a).1)<|Fc 39 (@HF h.W a oq aa)<|Fc 44 (@A7 ((Z1 h.W a).1) oq oq) u;rcases bb ((h.P.getD (Z3 h.C a).1.toNat M).K != 1&&(h.P.getD (Z3 h.C a).1.toNat M).K != 2||X ((h.P.getD (Z3 h.C a).1.toNat M).U<=(Z3 h.C a).2.1)||!(Z7 (Z1 h.W a).1).2)with hc27|hc27<;>have c:=hc27<;>simp only[bs]at c;rw[show Z9 h a=(Zv.mk (0:Int) (0:Int) (0:Int),(19:Int))from by grind[Z9,E4]];exact gF [] func91 [] (Q1 (Ft 64 hc27 Fz));obtain⟨⟨p,q⟩,v⟩:=c;have Q2 {h_ c_ p_} (u:Fq h_ c_ p_):=Q1<|Ff 64 hc27<|Fc 67 (@Il ((Z7 (Z1 h.W a).1).1) aa)<|FiG 74 ((h.P.getD (Z3 h.C a).1.toNat M).K==1) ((Z3 h.C a).2.1+Z5 (Z7 (Z1 h.W a).1).1) u;rcases bb ((h.P.getD (Z3 h.C a).1.toNat M).K==1&&X ((h.P.getD (Z3 h.C a).1.toNat M).U<(Z3 h.C a).2.1+Z5 (Z7 (Z1 h.W a).1).1)||(h.P.getD (Z3 h.C a).1.toNat M).K==2&&((Z3 h.C a).2.1 != 0||Z5 (Z7 (Z1 h.W a).1).1 != (h.P.getD (Z3 h.C a).1.toNat M).U))with hc40|hc40<;>have d:=hc40<;>simp only[bs]at d;rw[show Z9 h a=(Zv.mk (0:Int) (0:Int) (0:Int),(19:Int))from by(simp only[Z9,E4] ;exact sj)];exact gF [] func91 [] (Q2 (Ft 93 hc40 Fz));obtain⟨w,x⟩:=d;rw[show Z9 h a=((Z7 (Z1 h.W a).1).1,(0:Int))from by grind[Z9,E4]];exact gF [] func91 [] (Q2 (Ff 93 hc40 Fz))
abbrev aP(h:Heap)(a:Int):Z0:=h.P.getD (Z3 h.C a).1.toNat M
end Go.Proofs.YtgedmeaemofdkaaGreat
namespace Go.Proofs.YtgedmeaemofdkaaGreat
open Go.Sx Go.RowKit
def ZjN{n:Nat}{l}(h:shp prog (n+2) 22 l):∃m:List Int,l=[.sl 1 (m.map iD)]/\m.length<=140737488355328:=by
 have e:shp prog (n+2) 22 l=(∃els:List (List DV),l=[.sl 1 els]/\els.length<=140737488355328/\∀x∈els,shp prog (n+1) 3 x):=by kernel_rfl
 rw[e]at h;obtain⟨els,rfl,a,b⟩:=h;obtain⟨m,rfl⟩:=Z9z (f:=iD) λx c=>by(obtain⟨v,rfl,_⟩:=ZaS (b x c);exact⟨v,rfl⟩)
 exact⟨m,rfl,by simpa using a⟩
end Go.Proofs.YtgedmeaemofdkaaGreat
namespace Go.Proofs.YtgedmeaemofdkaaGreat
open Go.Sx
def Z10{w}(h:(Z7 w).2=Y):ZT (Z7 w).1=Y:=by unfold Z7 at h⊢;split at h;rename_i a;rw[if_pos a];have:=a.1;unfold Zu at this;split at this;assumption;simp at this;cases h
def TU{h a}(e:(Z9 h a).2=0):Z8 h=Y/\(Z3 h.C a).2.2=0/\4096<=a/\a<8192/\ZT (Z9 h a).1=Y/\0<=(Z9 h a).1.K/\(Z9 h a).1.K<=3/\0<=(Z9 h a).1.length/\(Z9 h a).1.length<=255:=by
 have b:Z8 h=Y/\(Z3 h.C a).2.2=0/\ZT (Z9 h a).1=Y:=by(unfold Z9 at e⊢;split at e;rename_i c;split at e;rename_i d;split at e;rename_i f;split at e;simp at e;rename_i j;rw[if_pos c,if_pos d,if_pos f,if_neg j];exact⟨c,d,Z10 f.2.2⟩;simp at e;simp at e;simp at e)
 obtain⟨k1,g,i⟩:=b;have p:=B4 k1;have o:=GL p.1 g;have v:=Gq.1 i;have ar:=HE p.1;exact⟨k1,g,o.2.2.2.2.1,by omega,i,v.1,v.2.1,v.2.2.1,v.2.2.2.1⟩
def Iv{h:Heap}(d:Zz h.W) a:0<=(Z9 h a).1.map/\(Z9 h a).1.map<=4294967295:=by
 have c:=EW d a;have b:=IK (Z1 h.W a).1 c.1;unfold Z9;repeat' split
 all_goals first|exact b|simp[E4]
def Zt(h:Heap)(a:Int):Zv×Int:=if Z8 h=Y then(if a=0 then(E4,5)else if(Z9 h a).2=0/\(Z9 h a).1.K=0 then(E4,4)else Z9 h a)else(E4,1)
def OM{h:Heap}(b:Zz h.W) a:0<=(Zt h a).1.map/\(Zt h a).1.map<=4294967295:=by
 have:=Iv b a;unfold Zt;repeat' split
 all_goals first|exact this|simp[E4]
def N6{h a}(e:(Zt h a).2=0):Zt h a=Z9 h a/\(Z9 h a).2=0/\Z8 h=Y/\(Z3 h.C a).2.2=0/\4096<=a/\a<8192/\ZT (Zt h a).1=Y/\1<=(Zt h a).1.K/\(Zt h a).1.K<=3/\0<=(Zt h a).1.length/\(Zt h a).1.length<=255:=by
 have b:Zt h a=Z9 h a/\(Z9 h a).2=0/\(Z9 h a).1.K≠0:=by(unfold Zt at e⊢;split at e;rename_i f;split at e;simp at e;rename_i g;split at e;simp at e;rename_i c;rw[if_pos f,if_neg g,if_neg c];exact⟨rfl,e,λh=>c ⟨e,h⟩⟩;simp at e)
 obtain⟨k1,d,k3⟩:=b;have k:=TU d;rw[k1];exact⟨rfl,d,k.1,k.2.1,k.2.2.1,k.2.2.2.1,k.2.2.2.2.1,by omega,k.2.2.2.2.2.2.1,k.2.2.2.2.2.2.2.1,k.2.2.2.2.2.2.2.2⟩
def Na(h:Heap)(a:Int)(hw:Zz h.W)(h0:0<=a/\a<=18446744073709551615):GP 45 [h.av,uU a] Y (.tu [(Zt h a).1.av,nI (Zt h a).2]) []:=by rcases bb (!Z8 h)with hc0|hc0<;>have c:=hc0<;>simp only[bs]at c;rw[show Zt h a=(Zv.mk (0:Int) (0:Int) (0:Int),(1:Int))from by simp[Zt,E4, *]];exact gF [] func45 []<|Fc 9 (@Cy h)<|Ft 10 hc0 Fz;rcases bb (a==0)with hc1|hc1<;>have d:=hc1<;>simp only[bs]at d;rw[show Zt h a=(Zv.mk (0:Int) (0:Int) (0:Int),(5:Int))from by simp[Zt,E4, *]];exact gF [] func45 []<|Fc 9 (@Cy h)<|Ff 10 hc0<|Ft 13 hc1 Fz;have g {h_ c_ p_} (i:Fq h_ c_ p_):=Fc 9 (@Cy h)<|Ff 10 hc0<|Ff 13 hc1<|Fc 18 (@Nk h a aa aa) i;rcases bb ((Z9 h a).2==0&&(Z9 h a).1.K==0)with hc2|hc2<;>have b:=hc2<;>simp only[bs]at b;obtain⟨e,f⟩:=b;rw[show Zt h a=(Zv.mk (0:Int) (0:Int) (0:Int),(4:Int))from by simp[Zt,E4, *]];exact gF [] func45 [] (g (Ft 27 hc2 Fz));rw[show Zt h a=Z9 h a from by(simp[Zt,E4, *];omega)];exact gF [] func45 [] (g (Ff 27 hc2 Fz))
def G7(h:Heap)(a i:Int):Int×Int:=if(Zt h a).2=0 then(if 0<=i/\i<(Zt h a).1.length then Z1 h.W (a+1+i)else(0,2))else(0,(Zt h a).2)
def Z7y(h:Heap)(a i:Int)(hw:Zz h.W)(h0:0<=a/\a<=18446744073709551615):GP 115 [h.av,uU a,nI i] Y (.tu [uU (G7 h a i).1,nI (G7 h a i).2]) []:=by have z {h_ c_ p_} (r_:Fq h_ c_ p_):=Fc 13 (@Na h a aa aa) r_;rcases bb ((Zt h a).2 != 0)with hc0|hc0<;>have m:=hc0<;>simp only[bs]at m;rw[show G7 h a i=((0:Int),(Zt h a).2)from by simp[G7, *]];exact gF [] func115 [] (z (Ft 17 hc0 Fz));have a1:=N6 m;obtain⟨a3,⟨a2,⟨k,⟨v,⟨s,⟨q,⟨o,⟨l,⟨g,⟨c,d⟩⟩⟩⟩⟩⟩⟩⟩⟩⟩:=a1;have t:=B4 k;obtain⟨a0,⟨y,⟨u,⟨r,⟨p,⟨n,⟨j,⟨e,f⟩⟩⟩⟩⟩⟩⟩⟩:=t;rcases bb (X (i<0)||X ((Zt h a).1.length<=i))with hc20|hc20<;>have b:=hc20<;>simp only[bs]at b;rw[show G7 h a i=((0:Int),(2:Int))from by(simp only[G7] ;exact sj)];exact gF [] func115 [] (z (Ff 17 hc0<|Ft 26 hc20 Fz));obtain⟨w,x⟩:=b;rw[show G7 h a i=Z1 h.W (a+(1:Int)+i)from by(simp only[G7] ;exact sj)];exact gF [] func115 [] (z (Ff 17 hc0<|Ff 26 hc20<|Fv 30 (a+1)<|Fv 32 i<|Fv 33 (a+1+i)<|Fc 34 (@HF h.W (a+1+i) oq oq) Fz))
def ZkY{h a i}(e:(G7 h a i).2=0):(Zt h a).2=0/\0<=i/\i<(Zt h a).1.length:=by unfold G7 at e;split at e;split at e;exact⟨aa,aa⟩;simp at e;exact absurd e aa
def E3(h:Heap)(a i v:Int):Heap×Int:=if(G7 h a i).2=0 then({h with W:=(BL h.W (a+1+i) v).1},0)else(B8,(G7 h a i).2)
def Z6D(h:Heap)(a i v:Int)(hw:Zz h.W)(h0:0<=a/\a<=18446744073709551615):GP 59 [h.av,uU a,nI i,uU v] L (.tu [(E3 h a i v).1.av,nI (E3 h a i v).2]) []:=by have Q0 {h_ c_ p_} (r_:Fq h_ c_ p_):=Fc 16 (@Z7y h a i aa aa) r_;rcases bb ((G7 h a i).2 != 0)with hc0|hc0<;>have m:=hc0<;>simp only[bs]at m;exact gF [] func59 [Y] (Q0 (Ft 20 hc0<|Fnl (Fnl (Fa (by simp[E3,B8, *]:0=(E3 h a i v).1.C.pw)<|Fa (by simp[E3,B8, *]:0=(E3 h a i v).1.C.pg)<|Fa (by simp[E3,B8, *]:[]=Z wD (E3 h a i v).1.W)<|Fa (by simp[E3,B8, *]:[]=Z Z0.dv (E3 h a i v).1.P)<|Fa (by simp[E3,B8, *]:0=(E3 h a i v).1.S)<|Fa (by simp[E3,B8, *]:0=(E3 h a i v).1.B)<|Fa (by simp[E3,B8, *]:(G7 h a i).2=(E3 h a i v).2) Fz))));have a2:=ZkY m;obtain⟨x,⟨a3,a4⟩⟩:=a2;have t:=N6 x;obtain⟨a0,⟨y,⟨d,⟨r,⟨p,⟨n,⟨k,⟨f,⟨e,⟨b,c⟩⟩⟩⟩⟩⟩⟩⟩⟩⟩:=t;have u:=B4 d;obtain⟨a1,⟨z,⟨w,⟨s,⟨q,⟨o,⟨l,⟨g,j⟩⟩⟩⟩⟩⟩⟩⟩:=u;rw[show E3 h a i v=(Heap.mk h.C (BL h.W (a+(1:Int)+i) v).1 h.P h.S h.B,(0:Int))from by simp[E3,B8, *]];exact gF [] func59 [] (Q0 (Ff 20 hc0<|Fv 27 (a+1)<|Fv 29 i<|Fv 30 (a+1+i)<|Fc 32 (@Z1S h.W (a+1+i) v oq oq) Fz))
def BV(h:Heap)(a:Int):List Int×Int:=if(Zt h a).2=0 then BN h.W (a+1) (Zt h a).1.length else([],(Zt h a).2)
def Z2M(h:Heap)(a:Int)(hw:Zz h.W)(h0:0<=a/\a<=18446744073709551615):GP 56 [h.av,uU a] L (.tu [Z2 (BV h a).1,nI (BV h a).2]) []:=by have y {h_ c_ p_} (r_:Fq h_ c_ p_):=Fc 11 (@Na h a aa aa) r_;rcases bb ((Zt h a).2 != 0)with hc0|hc0<;>have k:=hc0<;>simp only[bs]at k;exact gF [] func56 [Y] (y (Ft 15 hc0<|Fnl (Fa (by simp[BV, *]:[]=Z wD (BV h a).1)<|Fa (by simp[BV, *]:(Zt h a).2=(BV h a).2) Fz)));have w:=N6 k;obtain⟨z,⟨x,⟨i,⟨t,⟨q,⟨o,⟨m,⟨j,⟨f,⟨b,c⟩⟩⟩⟩⟩⟩⟩⟩⟩⟩:=w;have r:=B4 i;obtain⟨v,⟨u,⟨s,⟨p,⟨n,⟨l,⟨g,⟨d,e⟩⟩⟩⟩⟩⟩⟩⟩:=r;rw[show BV h a=BN h.W (a+(1:Int)) (Zt h a).1.length from by simp[BV, *]];exact gF [] func56 [] (y (Ff 15 hc0<|Fv 20 (a+1)<|Fc 23 (@Z2v h.W (a+1) ((Zt h a).1.length) oq oq) Fz))
def BD(a:Zv):List Int:=(Zu a).1::O a.length.toNat 0
def BI(h:Heap)(a:Int)(b:Zv):Heap×Int:=if Z8 h=Y/\ZT b=Y then(if(ZU h.W a (BD b)).2=0 then({h with W:=(ZU h.W a (BD b)).1},0)else(B8,(ZU h.W a (BD b)).2))else(B8,1)
def Z65{a}(h:(Zu a).2=0):ZT a=Y/\0<=a.length/\a.length<=255:=by unfold Zu at h;split at h;rename_i b;have:=Gq.1 b;exact⟨b,this.2.2.1,this.2.2.2.1⟩;simp at h
def ZhD{a:Zv}(h:ZT a=Y):(Zu a).2=0:=by simp[Zu,h]
def Z84{h:Heap}{a b}(e:Z8 h=L\/¬ (Zu b).2=0):BI h a b=(B8,1):=by unfold BI;rw[if_neg];rintro⟨c,d⟩;rcases e with e|e;rw[c]at e;cases e;exact e (ZhD d)
def Z5C(h:Heap)(a:Int)(b:Zv)(hw:Zz h.W)(h0:0<=a/\a<=18446744073709551615)(hm:0<=b.map/\b.map<=4294967295):GP 168 [h.av,uU a,b.av] L (.tu [(BI h a b).1.av,nI (BI h a b).2]) []:=by have v {h_ c_ p_} (u:Fq h_ c_ p_):=Fc 13 (@Dq b aa)<|Fc 17 (@Cy h) u;rcases bb (!Z8 h||(Zu b).2 != 0)with hc0|hc0<;>have c:=hc0<;>simp only[bs]at c;have y:=Z84 (a:=a) c;exact gF [] func168 (fO 2) (v (Ft 22 hc0<|Fnl (Fnl (Fa (by grind[BI,B8,BD]:0=(BI h a b).1.C.pw)<|Fa (by grind[BI,B8,BD]:0=(BI h a b).1.C.pg)<|Fa (by grind[BI,B8,BD]:[]=Z wD (BI h a b).1.W)<|Fa (by grind[BI,B8,BD]:[]=Z Z0.dv (BI h a b).1.P)<|Fa (by grind[BI,B8,BD]:0=(BI h a b).1.S)<|Fa (by grind[BI,B8,BD]:0=(BI h a b).1.B)<|Fbs (1=(BI h a b).2) Fz))));obtain⟨g,i⟩:=c;have s:=B4 g;obtain⟨x,⟨t,⟨q,⟨n,⟨l,⟨k,⟨f,⟨d,e⟩⟩⟩⟩⟩⟩⟩⟩:=s;have m:=Z65 i;obtain⟨r,⟨o,p⟩⟩:=m;have w {h_ c_ p_} (u:Fq h_ c_ p_):=v<|Ff 22 hc0<|Fs 29 (Z wD [(Zu b).1])<|Fa (by(simp[BI,B8,BD, *];omega):0<=b.length/\(↑(Z wD [(Zu b).1]).length:Int)+b.length<=2^30)<|Fa (by simp[BI,B8,BD,LN,LM,Lp,LL,wD,iD]:Z wD [(Zu b).1]++O b.length.toNat [B2 0]=Z wD ([(Zu b).1]++O b.length.toNat 0))<|Fc 33 (@My h.W ([(Zu b).1]++O b.length.toNat 0) a oq aa (by(simp[BI,B8,BD, *];omega))) u;rcases bb ((ZU h.W a ([(Zu b).1]++O b.length.toNat 0)).2 != 0)with hc37|hc37<;>have j:=hc37<;>simp only[bs]at j;exact gF [] func168 (fO 2)<|Fh 32 [.els (Z wD ([(Zu b).1]++O b.length.toNat 0))] (w (Ft 37 hc37<|Fnl (Fnl (Fa (by(simp only[BI,B8,BD] ;exact sj):0=(BI h a b).1.C.pw)<|Fa (by(simp only[BI,B8,BD] ;exact sj):0=(BI h a b).1.C.pg)<|Fa (by(simp only[BI,B8,BD] ;exact sj):[]=Z wD (BI h a b).1.W)<|Fa (by(simp only[BI,B8,BD] ;exact sj):[]=Z Z0.dv (BI h a b).1.P)<|Fa (by(simp only[BI,B8,BD] ;exact sj):0=(BI h a b).1.S)<|Fa (by(simp only[BI,B8,BD] ;exact sj):0=(BI h a b).1.B)<|Fa (by(simp only[BI,B8,BD] ;exact sj):(ZU h.W a ([(Zu b).1]++O b.length.toNat 0)).2=(BI h a b).2) Fz))));rw[show BI h a b=(Heap.mk h.C (ZU h.W a ([(Zu b).1]++O b.length.toNat (0:Int))).1 h.P h.S h.B,(0:Int))from by(simp only[BI,B8,BD] ;exact sj)];exact gF [] func168 []<|Fh 32 [.els (Z wD ([(Zu b).1]++O b.length.toNat 0))] (w (Ff 37 hc37 Fz))
def HM(l:List Z0)(i k:Nat):Bool:=(LA k).all λj=>(l.getD (i+j) M).K==0
def Su{l}{i k:Nat}:HM l i k=Y↔∀j,j<k->(l.getD (i+j) M).K=0:=by simp[HM]
def ZM(l:List Z0)(i k:Nat)(p q:Z0):List Z0:=(wr l (O k q) i k).set i p
def EP(l:List Z0)(i:Int)(k:Int)(p q:Z0):List Z0×Int:=if 0<=i/\i<l.length/\k<=l.length-i then(if HM l i.toNat k.toNat=Y then(ZM l i.toNat k.toNat p q,0)else([],20))else([],2)
def IY(l:List Z0):Ci (l.map Z0.dv):=by intro e b x a;obtain⟨y,_,rfl⟩:=List.mem_map.1 b;simp[Z0.dv]at a;rcases a with rfl|rfl|rfl|rfl<;>exact⟨_,rfl⟩
def Zli{α:Type}{l m:List α}{i j:Nat}{d:α}(h:l[i]?=m[j]?):l.getD i d=m.getD j d:=by rw[Lo,Lo,h]
def SG(l:List Z0)(i:Int)(k:Int)(p q:Z0)(n:Nat):Tg:=⟨tm 57 [(1,nI i),(2,nI k),(8,.pt 8008 0 0),(9,.pt 8009 0 0),(10,.d (.sl 0 [])),(11,nI 0),(12,.ow 24032),(13,nI n)],
 [(24032,.arr 86 4 ((wr l (O k.toNat q) i.toNat n).map Z0.dv)),(8008,.box 86 [nI p.K,nI p.S,nI p.U,nI p.N]),(8009,.box 86 [nI q.K,nI q.S,nI q.U,nI q.N])],60⟩
section
variable(l:List Z0)(i:Int)(k:Int)(p q:Z0)(n:Nat)(hl:l.length<=1048576)(hi:0<=i)(a:0<=k)(b:i.toNat+k.toNat<=l.length)
include hl hi a b
theorem Z7D(hn:n<k.toNat):(wr l (O k.toNat q) i.toNat n).getD (i.toNat+n) M=l.getD (i.toNat+n) M:=by refine Zli ?_;rw[Ai (by simpa using b) qo,if_neg oq,if_neg oq]
theorem Z99(e:n<k.toNat)(j:(l.getD (i.toNat+n) M).K=0):CP (Zn f227 0) (SG l i k p q n).st .nrm (SG l i k p q (n+1)).st:=by
 have d:=IG (ws:=l) (l:=O k.toNat q) (i:=i.toNat) (k:=n) (by simpa using b) qo;have g:=Z7D l i k q n hl hi a b e;have f:=MH (ws:=l) (l:=O k.toNat q) (i:=i.toNat) (k:=n) (by simpa using b) qo M;have h:(O k.toNat q).getD n M=q:=by simp[Lr,e]
 rw[h]at f;have ei:i+n=((i.toNat+n:Nat):Int):=by omega
 rw[<-g]at j;rcases bb (((wr l (O k.toNat q) i.toNat n).getD (↑(i.toNat+n):Int).toNat M).K != 0)with hc0|hc0<;>have c:=hc0<;>simp only[bs]at c;contradiction;exact sF [] (fO 8)<|Fh 10051 [.els (Z Z0.dv ((wr l (O k.toNat q) i.toNat n).set (↑(i.toNat+n):Int).toNat q))]<|Ftb 35 (X ((n:Int)<k))<|Fg 41 (by rw[Ea oq oq];omega:Lb.wrap (i+(n:Int))=(↑(i.toNat+n):Int))<|Fmq 44 Z0.dv (wr l (O k.toNat q) i.toNat n) (↑(i.toNat+n):Int)<|Ff 45 hc0<|Fg 49 (by rw[Ea oq oq];omega:Lb.wrap (i+(n:Int))=(↑(i.toNat+n):Int))<|Fa (by(simp only[Lc];omega):0<=(↑(i.toNat+n):Int)/\(↑(i.toNat+n):Int).toNat<(Z Z0.dv (wr l (O k.toNat q) i.toNat n)).length)<|Fa (by(simp only[Lc];omega):(↑(i.toNat+n):Int).toNat<(Z Z0.dv (wr l (O k.toNat q) i.toNat n)).length)<|Fa (by rw[Lp];rfl:(Z Z0.dv (wr l (O k.toNat q) i.toNat n)).set (↑(i.toNat+n):Int).toNat [Zq q.K,Zq q.S,Zq q.U,Zq q.N]=Z Z0.dv ((wr l (O k.toNat q) i.toNat n).set (↑(i.toNat+n):Int).toNat q))<|Fx 37 n<|Fr (86:Int)<|Fa (by refine congrArg _ ?_;exact f:Z Z0.dv ((wr l (O k.toNat q) i.toNat n).set (↑(i.toNat+n):Int).toNat q)=Z Z0.dv (wr l (O k.toNat q) i.toNat (n+1))) Fz
theorem Zc9(g:n<k.toNat)(f:¬ (l.getD (i.toNat+n) M).K=0):CP (Zn f227 0) (SG l i k p q n).st .ret (Tg.st ⟨tm 57 [(10,.d (.sl 0 [])),(11,nI 20)],[],60⟩):=by
 have d:=IG (ws:=l) (l:=O k.toNat q) (i:=i.toNat) (k:=n) (by simpa using b) qo;have e:=Z7D l i k q n hl hi a b g;have ei:i+n=((i.toNat+n:Nat):Int):=by omega
 rw[<-e]at f;rcases bb (((wr l (O k.toNat q) i.toNat n).getD (↑(i.toNat+n):Int).toNat M).K != 0)with hc0|hc0<;>have c:=hc0<;>simp only[bs]at c;exact sF [] []<|Ftb 35 (X ((n:Int)<k))<|Fg 41 (by rw[Ea oq oq];omega:Lb.wrap (i+(n:Int))=(↑(i.toNat+n):Int))<|Fmq 44 Z0.dv (wr l (O k.toNat q) i.toNat n) (↑(i.toNat+n):Int)<|Ft 45 hc0 Fz;contradiction
omit hl hi b in
theorem Zld:CP (Zn f227 0) (SG l i k p q k.toNat).st (.ext 0) (Tg.st ⟨tm 57 [(1,nI i),(8,.pt 8008 0 0),(12,.ow 24032)],[(24032,.arr 86 4 ((wr l (O k.toNat q) i.toNat k.toNat).map Z0.dv)),(8008,.box 86 [nI p.K,nI p.S,nI p.U,nI p.N])],60⟩):=by exact sF [] []<|Ffb 35 (X ((k.toNat:Int)<k)) Fz
theorem Z66(d:HM l i.toNat k.toNat=Y):CP (Zj f227 0) (Tg.st ⟨tm 57 [(1,nI i),(2,nI k),(8,.pt 8008 0 0),(9,.pt 8009 0 0),(10,.d (.sl 0 [])),(11,nI 0),(12,.ow 24032),(13,nI 0)], [(24032,.arr 86 4 (l.map Z0.dv)),(8008,.box 86 [nI p.K,nI p.S,nI p.U,nI p.N]),(8009,.box 86 [nI q.K,nI q.S,nI q.U,nI q.N])],60⟩) .nrm (Tg.st ⟨tm 57 [(1,nI i),(8,.pt 8008 0 0),(12,.ow 24032)],[(24032,.arr 86 4 ((wr l (O k.toNat q) i.toNat k.toNat).map Z0.dv)),(8008,.box 86 [nI p.K,nI p.S,nI p.U,nI p.N])],60⟩):=by
 have:=Bt (S:=λn=>(SG l i k p q n).st) k.toNat kr (λn c=>Z99 l i k p q n hl hi a b c (Su.1 d n c)) (Zld l i k p q a)
 simp only[SG,Dh]at this;exact this
theorem Zgf(j:HM l i.toNat k.toNat=L):CP (Zj f227 0) (Tg.st ⟨tm 57 [(1,nI i),(2,nI k),(8,.pt 8008 0 0),(9,.pt 8009 0 0),(10,.d (.sl 0 [])),(11,nI 0),(12,.ow 24032),(13,nI 0)], [(24032,.arr 86 4 (l.map Z0.dv)),(8008,.box 86 [nI p.K,nI p.S,nI p.U,nI p.N]),(8009,.box 86 [nI q.K,nI q.S,nI q.U,nI q.N])],60⟩) .ret (Tg.st ⟨tm 57 [(10,.d (.sl 0 [])),(11,nI 20)],[],60⟩):=by
 obtain⟨n,x,c,f,g⟩:=ME j;have e:n<k.toNat:=by have:=(Ld.1 c).1;simpa using this
 have r:x=n:=by simp[LI,e]at c;exact c.symm
 subst r;have:=G0 (S:=λn=>(SG l i k p q n).st) x kr (λm o=>?_) (Zc9 l i k p q x hl hi a b e (by simpa using f))
 .simp only[SG,Dh]at this;exact this
 .obtain⟨y,d,h⟩:=g m o;have s:y=m:=by simp[LI,show m<k.toNat from by omega]at d;exact d.symm
  subst s;exact Z99 l i k p q y hl hi a b oq (by simpa using h)
end
def ZhM(l:List Z0)(i:Int)(k:Int)(p q:Z0)(hl:l.length<=1048576)(hk:1<=k/\k<=5):GP 227 [ZZ l,nI i,nI k,p.av,q.av] Y (.tu [ZZ (EP l i k p q).1,nI (EP l i k p q).2]) []:=by
  cases hf:HM l i.toNat k.toNat with
  |true =>
    have hw:i.toNat+k.toNat<=l.length->(wr l (O k.toNat q) i.toNat k.toNat).length=l.length:=λh=>IG (by simpa using h) pq;rcases bb (X (i<0)||X ((l.length:Int)<=i)||X ((l.length:Int)-i<k))with hc0|hc0<;>have a:=hc0<;>simp only[bs]at a
    . exact gF [] func227 (fO 10)<|FlG 19 (!decide (i<0)) Z0.dv l<|FlG 25 (!(X (i<0)||X ((l.length:Int)<=i))) Z0.dv l<|FiG 27 (!(X (i<0)||X ((l.length:Int)<=i))) ((l.length:Int)-i)<|Ft 29 hc0<|Fnl (Fa (by(simp only[EP,hf,ZM] ;exact sj):[]=Z Z0.dv (EP l i k p q).1)<|Fa (by(simp only[EP,hf,ZM] ;exact sj):2=(EP l i k p q).2) Fz)
    . obtain⟨⟨b,c⟩,d⟩:=a;rw[show EP l i k p q=((wr l (O k.toNat q) i.toNat k.toNat).set i.toNat p,(0:Int))from by simp[EP,hf,ZM, *]];exact gF [] func227 []<|Fh 10055 [.els (Z Z0.dv ((wr l (O k.toNat q) i.toNat k.toNat).set i.toNat p))]<|FlG 19 (!decide (i<0)) Z0.dv l<|FlG 25 (!(X (i<0)||X ((l.length:Int)<=i))) Z0.dv l<|FiG 27 (!(X (i<0)||X ((l.length:Int)<=i))) ((l.length:Int)-i)<|Ff 29 hc0<|FAx 30 32 Z0.dv l (by(simp[EP,hf,ZM, *];omega))<|Fu (@Z66 l i k p q aa oq oq oq aa)<|Fa (by(simp only[Lc];omega):0<=i/\i.toNat<(Z Z0.dv (wr l (O k.toNat q) i.toNat k.toNat)).length)<|Fa (by(simp only[Lc];omega):i.toNat<(Z Z0.dv (wr l (O k.toNat q) i.toNat k.toNat)).length)<|Fa (by rw[Lp];rfl:(Z Z0.dv (wr l (O k.toNat q) i.toNat k.toNat)).set i.toNat [Zq p.K,Zq p.S,Zq p.U,Zq p.N]=Z Z0.dv ((wr l (O k.toNat q) i.toNat k.toNat).set i.toNat p))<|Fa (IY _:Ci (Z Z0.dv ((wr l (O k.toNat q) i.toNat k.toNat).set i.toNat p))) Fz
  | false => rcases Lu (X (i<(0:Int))||X ((l.length:Int)<=i)||X ((l.length:Int)-i<k))with hc0 | hc0
             . have a:=hc0;simp only[bs]at a;exact gF [] func227 (fO 10)<|FlG 19 (!decide (i<0)) Z0.dv l<|FlG 25 (!(X (i<0)||X ((l.length:Int)<=i))) Z0.dv l<|FiG 27 (!(X (i<0)||X ((l.length:Int)<=i))) ((l.length:Int)-i)<|Ft 29 ‹(X (i<0)||X ((l.length:Int)<=i)||X ((l.length:Int)-i<k))=Y›<|Fnl (Fa (by(simp only[EP,hf] ;exact sj):[]=Z Z0.dv (EP l i k p q).1)<|Fa (by(simp only[EP,hf] ;exact sj):2=(EP l i k p q).2) Fz)
             . have a:=hc0;simp only[bs]at a;obtain⟨⟨b,c⟩,d⟩:=a;exact gF [] func227 (fO 21)<|FlG 19 (!decide (i<0)) Z0.dv l<|FlG 25 (!(X (i<0)||X ((l.length:Int)<=i))) Z0.dv l<|FiG 27 (!(X (i<0)||X ((l.length:Int)<=i))) ((l.length:Int)-i)<|Ff 29 ‹(X (i<0)||X ((l.length:Int)<=i)||X ((l.length:Int)-i<k))=L›<|FAx 30 32 Z0.dv l (by(simp[EP,hf, *];omega))<|Fu (@Zgf l i k p q aa oq oq oq aa)<|Fnl (Fa (by(simp only[EP,hf] ;exact sj):[]=Z Z0.dv (EP l i k p q).1)<|Fa (by(simp only[EP,hf] ;exact sj):20=(EP l i k p q).2) Fz)
def ZfR(l:List Z0)(i:Int)(k:Int)(p q:Z0)(hl:l.length<=1048576)(hk:1<=k/\k<=5)(hi:0<=i/\i+k<=l.length)(hf:HM l i.toNat k.toNat=Y):GP 227 [ZZ l,nI i,nI k,p.av,q.av] Y (.tu [.ow 0,nI 0]) [.arr 86 4 ((ZM l i.toNat k.toNat p q).map Z0.dv)]:=by have hw:(wr l (O k.toNat q) i.toNat k.toNat).length=l.length:=IG qo pq;exact gF [24032] func227 []<|Fh 10055 [.els (Z Z0.dv ((wr l (O k.toNat q) i.toNat k.toNat).set i.toNat p))]<|FlG 19 (!decide (i<0)) Z0.dv l<|FlG 25 (!(X (i<0)||X ((l.length:Int)<=i))) Z0.dv l<|FiG 27 (!(X (i<0)||X ((l.length:Int)<=i))) ((l.length:Int)-i)<|Ffb 29 (X (i<0)||X ((l.length:Int)<=i)||X ((l.length:Int)-i<k))<|FAx 30 32 Z0.dv l (by(simp[ZM, *];omega))<|Fu (@Z66 l i k p q aa oq oq oq aa)<|Fa (by(simp only[Lc];omega):0<=i/\i.toNat<(Z Z0.dv (wr l (O k.toNat q) i.toNat k.toNat)).length)<|Fa (by(simp only[Lc];omega):i.toNat<(Z Z0.dv (wr l (O k.toNat q) i.toNat k.toNat)).length)<|Fa (by rw[Lp];rfl:(Z Z0.dv (wr l (O k.toNat q) i.toNat k.toNat)).set i.toNat [Zq p.K,Zq p.S,Zq p.U,Zq p.N]=Z Z0.dv ((wr l (O k.toNat q) i.toNat k.toNat).set i.toNat p))<|Fa (IY _:Ci (Z Z0.dv ((wr l (O k.toNat q) i.toNat k.toNat).set i.toNat p))) Fz
def Z8M(l:List Z0)(i sp:Int):List Z0×Int:=if 0<=sp/\sp<=1 then EP l i 1 ⟨1,sp,0,0⟩ ⟨0,0,0,0⟩else([],1)
def GJ(c:B3)(l:List Z0)(i sp n:Int):List Z0×Int:=if 1<=need c n/\0<=sp/\sp<=1 then EP l i (need c n) ⟨2,sp,n,0⟩ ⟨3,sp,0,0⟩else([],1)
def ZkL(c:B3)(l:List Z0) i sp n(hl:l.length<=1048576):GP 205 [c.av,ZZ l,nI i,nI sp,nI n] L (.tu [ZZ (GJ c l i sp n).1,nI (GJ c l i sp n).2]) []:=by have hn:=DU c n;rcases bb (X (need c n<1)||X (sp<0)||X (1<sp))with hc0|hc0<;>have a:=hc0<;>simp only[bs]at a;exact gF [] func205 (fO 4)<|Fc 15 (@Rq c n)<|Ft 25 hc0<|Fnl (Fa (by(simp only[GJ] ;exact sj):[]=Z Z0.dv (GJ c l i sp n).1)<|Fa (by(simp only[GJ] ;exact sj):1=(GJ c l i sp n).2) Fz);obtain⟨⟨b,d⟩,e⟩:=a;rw[show GJ c l i sp n=EP l i (need c n) (Z0.mk (2:Int) sp n (0:Int)) (Z0.mk (3:Int) sp (0:Int) (0:Int))from by simp[GJ, *]];exact gF [] func205 []<|Fc 15 (@Rq c n)<|Ff 25 hc0<|Fc 34 (@ZhM l i (need c n) (Z0.mk 2 sp n 0) (Z0.mk 3 sp 0 0) aa oq) Fz
def Z5s(l:List Z0)(i sp:Int)(hl:l.length<=1048576)(hs:0<=sp/\sp<=1)(hi:0<=i/\i+1<=l.length)(hf:HM l i.toNat 1=Y):GP 204 [ZZ l,nI i,nI sp] Y (.tu [.ow 0,nI 0]) [.arr 86 4 ((ZM l i.toNat 1 ⟨1,sp,0,0⟩ ⟨0,0,0,0⟩).map Z0.dv)]:=by exact gF [25019] func204 []<|Ffb 13 (X (sp<0)||X (1<sp))<|Fc 19 (@ZfR l i (1) (Z0.mk 1 sp 0 0) (Z0.mk 0 0 0 0) aa oq aa aa)<|Fa (IY _:Ci (Z Z0.dv (ZM l i.toNat (Lh 1) (Z0.mk 1 sp 0 0) (Z0.mk 0 0 0 0)))) Fz
structure ZK where
 frm:Int
 len:Int
 deriving DecidableEq,Inhabited
def ZK.dv(r:ZK):List DV:=[Zq r.frm,Zq r.len]
def I9(l:List ZK):AV:=.d (.sl 2 (l.map ZK.dv))
def Bu(out:List ZK):ZK:=out.getLast?.getD ⟨0,0⟩
def NM(out:List ZK)(i:Int)(p:Z0):List ZK:=
 if p.K=0 then(if out≠[]/\(Bu out).frm+(Bu out).len=i then out.dropLast++[⟨(Bu out).frm,(Bu out).len+1⟩]else out++[⟨i,1⟩])else out
def Zf(l:List Z0):Nat->List ZK|0=>[]|i+1=>NM (Zf l i) i (E0 l i)
def Ra{out:List ZK}(h:out≠[]):out[out.length-1]?=La (Bu out):=by rw[<-List.getLast?_eq_getElem?,Bu,List.getLast?_eq_some_getLast h];rfl
def Nn l:∀i,(Zf l i).length<=i/\∀r∈Zf l i,0<=r.frm/\1<=r.len/\r.frm+r.len<=i
 |0=>⟨by simp[Zf],by simp[Zf]⟩
 |i+1=>by
  obtain⟨h1,b⟩:=Nn l i;simp only[Zf,NM];split
  .split
   .rename_i c;have hl:=b _ (Lj (Ra c.1));have hp:0<(Zf l i).length:=Lz.2 c.1;refine⟨by simp;omega,λr a=>?_⟩;rcases Lt.1 a with a|a
    .have:=b r (LH _ a);omega
    .simp at a;subst a;simp only;omega
   .refine⟨by simp;omega,λr a=>?_⟩;rcases Lt.1 a with a|a
    .have:=b r a;omega
    .simp at a;subst a;simp only;omega
  .refine⟨by omega,λr a=>?_⟩;have:=b r a;omega
def Z0A{out:List ZK}{i:Nat}{r}(h:out[i]?=La r):(out.map ZK.dv)[i]?=La r.dv:=by simp[h]
def Z55{out:List ZK}(h:out≠[])(r:ZK):(out.map ZK.dv).set (out.length-1) r.dv=(out.dropLast++[r]).map ZK.dv:=by obtain⟨a,b,rfl⟩:∃a b,out=a++[b]:=⟨out.dropLast,out.getLast h,(List.dropLast_concat_getLast h).symm⟩;simp
def I5(l:List Z0)(i:Nat):Tg:=⟨tm 54 [(3,.ow 16003),(7,ZZ l),(8,nI l.length),(9,nI i)],[(16003,.arr 267 2 ((Zf l i).map ZK.dv))],20⟩
def Zcp(l:List Z0)(hl:l.length<=1048576)(i:Nat) p(hp:l[i]?=La p)(hk:p.K≠0):CP (Zn f231 0) (I5 l i).st .nrm (I5 l (i+1)).st:=by
 have hi:i<l.length:=(Ld.1 hp).1;obtain⟨o1,o2⟩:=Nn l i;have e:I5 l (i+1)=⟨tm 54 [(3,.ow 16003),(7,ZZ l),(8,nI l.length),(9,nI ((i+1:Nat):Int))],[(16003,.arr 267 2 ((Zf l i).map ZK.dv))],20⟩:=by
  have hpa:E0 l i=p:=by simp[E0,hp]
  rw[I5,Zf,NM,hpa,if_neg hk]
 rw[e];exact sF [] []<|Fh 12 [.el p.dv]<|Fh 25 [.br Y]<|Ftb 10 (X ((i:Int)<(l.length:Int)))<|Fa ((⟨by omega,HC hp⟩):0<=(i:Int)/\(Z Z0.dv l)[(i:Int).toNat]?=La p.dv)<|Fg 15 (by rw[Lc]:(↑(Z ZK.dv (Zf l i)).length:Int)=(↑(Zf l i).length:Int))<|Fi 16 ((↑(Zf l i).length:Int)-1)<|Fa (by simp[hk]:(p.K != 0)=Y)<|Fx 52 i Fz
def Zkj(l:List Z0)(hl:l.length<=1048576)(i:Nat)(p:Z0)(hp:l[i]?=La p)(hk:p.K=0)(ho:Zf l i≠[])(hm:(Bu (Zf l i)).frm+(Bu (Zf l i)).len=i):CP (Zn f231 0) (I5 l i).st .nrm (I5 l (i+1)).st:=by
 have hi:i<l.length:=(Ld.1 hp).1;obtain⟨o1,o2⟩:=Nn l i;have hlast:=o2 _ (Lj (Ra ho));have hpos:0<(Zf l i).length:=Lz.2 ho;have e:Zf l (i+1)=(Zf l i).dropLast++[⟨(Bu (Zf l i)).frm,(Bu (Zf l i)).len+1⟩]:=by
  have hpa:E0 l i=p:=by simp[E0,hp]
  rw[Zf,NM,hpa,if_pos hk,if_pos ⟨ho,hm⟩]
 have hidx:0<=((Zf l i).length:Int)-1/\(((Zf l i).length:Int)-1).toNat<(Z ZK.dv (Zf l i)).length:=by rw[Lc];omega
 have hat:(Z ZK.dv (Zf l i))[(((Zf l i).length:Int)-1).toNat]?=La (Bu (Zf l i)).dv:=by
  rw[show(((Zf l i).length:Int)-1).toNat=(Zf l i).length-1 from by omega];exact Z0A (Ra ho)
 have qz0:(Z ZK.dv (Zf l i)).set ((↑(Zf l i).length:Int)-(1:Int)).toNat (Gi (Bu (Zf l i)).dv ((0:Nat) + #[Lm "From" (3:Nat) (0:Nat) L "" "" (0:Nat),Lm "Len" (3:Nat) (1:Nat) L "" "" (8:Nat)][(1:Nat)].3) [Zq ((Bu (Zf l i)).len+(1:Int))])=Z ZK.dv (Zf l (i+(1:Nat))):=by
  rw[e,<-Z55 ho,show(((Zf l i).length:Int)-1).toNat=(Zf l i).length-1 from by omega];rfl
 exact sF [] []<|Fh 12 [.el p.dv]<|Fh 16 [.int ((↑(Zf l i).length:Int)-1)]<|Fh 25 [.br L]<|Fh 34 [.el (Bu (Zf l i)).dv]<|Fh 39 [.el (Bu (Zf l i)).dv]<|Fh 40 [.int ↑i]<|Fh 43 [.br Y]<|Fh 48 [.el (Bu (Zf l i)).dv]<|Fh 49 [.int ((Bu (Zf l i)).len+1)]<|Fh 10051 [.el (Bu (Zf l i)).dv,.els ((Zf l (i+1)).map ZK.dv)]<|Fh 52 [.int (↑(i+1):Int)]<|Ft 10 ((decide_eq_true oq):X ((i:Int)<(l.length:Int))=Y)<|Fa ((⟨by omega,HC hp⟩):0<=(i:Int)/\(Z Z0.dv l)[(i:Int).toNat]?=La p.dv)<|Fg 15 (by rw[Lc]:(↑(Z ZK.dv (Zf l i)).length:Int)=(↑(Zf l i).length:Int))<|Fa ((C3 oq oq):Lb.wrap ((↑(Zf l i).length:Int)-1)=(↑(Zf l i).length:Int)-1)<|Fa (by simp[hk]:(p.K != 0)=L)<|Fa ((λ_=>hidx):X (0<=(↑(Zf l i).length:Int)-1)=Y->0<=(↑(Zf l i).length:Int)-1/\((↑(Zf l i).length:Int)-1).toNat<(Z ZK.dv (Zf l i)).length)<|Fa ((λ_=>hat):X (0<=(↑(Zf l i).length:Int)-1)=Y->(Z ZK.dv (Zf l i))[((↑(Zf l i).length:Int)-1).toNat]?=La (Bu (Zf l i)).dv)<|Fa ((λ_=>hidx):X (0<=(↑(Zf l i).length:Int)-1)=Y->0<=(↑(Zf l i).length:Int)-1/\((↑(Zf l i).length:Int)-1).toNat<(Z ZK.dv (Zf l i)).length)<|Fa ((λ_=>hat):X (0<=(↑(Zf l i).length:Int)-1)=Y->(Z ZK.dv (Zf l i))[((↑(Zf l i).length:Int)-1).toNat]?=La (Bu (Zf l i)).dv)<|Fa ((λ_=>by rw[hm];exact C3 oq oq):X (0<=(↑(Zf l i).length:Int)-1)=Y->Lb.wrap ((Bu (Zf l i)).frm+(Bu (Zf l i)).len)=(i:Int))<|Fa (by simp;omega:(X (0<=(↑(Zf l i).length:Int)-1)&&(i:Int)==(i:Int))=Y)<|Fa (hidx:0<=(↑(Zf l i).length:Int)-1/\((↑(Zf l i).length:Int)-1).toNat<(Z ZK.dv (Zf l i)).length)<|Fa (hat:(Z ZK.dv (Zf l i))[((↑(Zf l i).length:Int)-1).toNat]?=La (Bu (Zf l i)).dv)<|Fa ((C3 oq oq):Lb.wrap ((Bu (Zf l i)).len+1)=(Bu (Zf l i)).len+1)<|Fa (hidx:0<=(↑(Zf l i).length:Int)-1/\((↑(Zf l i).length:Int)-1).toNat<(Z ZK.dv (Zf l i)).length)<|Fa (hat:(Z ZK.dv (Zf l i))[((↑(Zf l i).length:Int)-1).toNat]?=La (Bu (Zf l i)).dv)<|Fa (qz0:(Z ZK.dv (Zf l i)).set ((↑(Zf l i).length:Int)-1).toNat (Gi (Bu (Zf l i)).dv (0 + #[Lm "From" 3 0 L "" "" 0,Lm "Len" 3 1 L "" "" 8][1].3) [Zq ((Bu (Zf l i)).len+1)])=Z ZK.dv (Zf l (i+1)))<|Fa ((C3 oq oq):Lb.wrap ((i:Int)+1)=(↑(i+1):Int)) Fz
def ZjF(l:List Z0)(hl:l.length<=1048576)(i:Nat)(p:Z0)(hp:l[i]?=La p)(hk:p.K=0)(ho:¬ (Zf l i≠[]/\(Bu (Zf l i)).frm+(Bu (Zf l i)).len=i)):CP (Zn f231 0) (I5 l i).st .nrm (I5 l (i+1)).st:=by
 have hi:i<l.length:=(Ld.1 hp).1;obtain⟨o1,o2⟩:=Nn l i;have e:Zf l (i+1)=Zf l i++[⟨i,1⟩]:=by
  have hpa:E0 l i=p:=by simp[E0,hp]
  rw[Zf,NM,hpa,if_pos hk,if_neg ho]
 have hne:X (0<=((Zf l i).length:Int)-1)=Y->Zf l i≠[]:=by
  intro hd h0;rw[h0]at hd;simp at hd
 have hidx:X (0<=((Zf l i).length:Int)-1)=Y->0<=((Zf l i).length:Int)-1/\(((Zf l i).length:Int)-1).toNat<(Z ZK.dv (Zf l i)).length:=by
  intro hd;have:=of_decide_eq_true hd;rw[Lc];omega
 have hat:X (0<=((Zf l i).length:Int)-1)=Y->(Z ZK.dv (Zf l i))[(((Zf l i).length:Int)-1).toNat]?=La (Bu (Zf l i)).dv:=by
  intro hd;rw[show(((Zf l i).length:Int)-1).toNat=(Zf l i).length-1 from by omega];exact Z0A (Ra (hne hd))
 have qz0:(X ((0:Int)<=(↑(Zf l i).length:Int)-(1:Int))&&Lb.wrap ((Bu (Zf l i)).frm+(Bu (Zf l i)).len)==(i:Int))=L:=by
  cases hd:X (0<=((Zf l i).length:Int)-1)with
  |false=>simp
  |true =>
   have h1:=hne hd;have hlast:=o2 _ (Lj (Ra h1));rw[C3 oq oq];simp;intro hh;exact ho ⟨h1,hh⟩
 exact sF [(200021,16003)] []<|Fh 12 [.el p.dv]<|Fh 25 [.br L]<|Fh 34 [.el (Bu (Zf l i)).dv]<|Fh 39 [.el (Bu (Zf l i)).dv]<|Fh 43 [.br L]<|Fh 21 [.els ((Zf l (i+1)).map ZK.dv)]<|Ftb 10 (X ((i:Int)<(l.length:Int)))<|Fa ((⟨by omega,HC hp⟩):0<=(i:Int)/\(Z Z0.dv l)[(i:Int).toNat]?=La p.dv)<|Fg 15 (by rw[Lc]:(↑(Z ZK.dv (Zf l i)).length:Int)=(↑(Zf l i).length:Int))<|Fi 16 ((↑(Zf l i).length:Int)-1)<|Fa (by simp[hk]:(p.K != 0)=L)<|Fa (hidx:X (0<=(↑(Zf l i).length:Int)-1)=Y->0<=(↑(Zf l i).length:Int)-1/\((↑(Zf l i).length:Int)-1).toNat<(Z ZK.dv (Zf l i)).length)<|Fa (hat:X (0<=(↑(Zf l i).length:Int)-1)=Y->(Z ZK.dv (Zf l i))[((↑(Zf l i).length:Int)-1).toNat]?=La (Bu (Zf l i)).dv)<|Fa (hidx:X (0<=(↑(Zf l i).length:Int)-1)=Y->0<=(↑(Zf l i).length:Int)-1/\((↑(Zf l i).length:Int)-1).toNat<(Z ZK.dv (Zf l i)).length)<|Fa (hat:X (0<=(↑(Zf l i).length:Int)-1)=Y->(Z ZK.dv (Zf l i))[((↑(Zf l i).length:Int)-1).toNat]?=La (Bu (Zf l i)).dv)<|Fa (qz0:(X (0<=(↑(Zf l i).length:Int)-1)&&Lb.wrap ((Bu (Zf l i)).frm+(Bu (Zf l i)).len)==(i:Int))=L)<|Fa (by rw[Lc];simp;omega:(Z ZK.dv (Zf l i)).length+((O 1 [Zq 0,Zq 0]).set 0 [Zq (i:Int),Zq 1]).length<=2^30)<|Fa (by rw[e];simp[ZK.dv]:Z ZK.dv (Zf l i)++(O 1 [Zq 0,Zq 0]).set 0 [Zq (i:Int),Zq 1]=Z ZK.dv (Zf l (i+1)))<|Fx 52 i Fz
def Zj9(l:List Z0)(hl:l.length<=1048576)(i:Nat)(hi:i<l.length):CP (Zn f231 0) (I5 l i).st .nrm (I5 l (i+1)).st:=by have c:=Li hi;by_cases a:l[i].K=0;by_cases b:Zf l i≠[]/\(Bu (Zf l i)).frm+(Bu (Zf l i)).len=i;exact Zkj l hl i _ c a b.1 b.2;exact ZjF l hl i _ c a b;exact Zcp l hl i _ c a
def Zbw l:CP (Zn f231 0) (I5 l l.length).st (.ext 0) (Tg.st ⟨tm 54 [(3,.ow 16003)],[(16003,.arr 267 2 ((Zf l l.length).map ZK.dv))],60⟩):=by exact sF [] []<|Ffb 10 (X ((l.length:Int)<(l.length:Int))) Fz
def runs(l:List Z0):List ZK:=Zf l l.length
def Z8U(l:List Z0)(hl:l.length<=1048576):GP 231 [ZZ l] L (I9 (runs l)) []:=by exact gF [] func231 []<|Fh 3 [.own]<|Fk (0,I5 l 0,.nrm,⟨tm 54 [(3,.ow 16003)],[(16003,.arr 267 2 ((Zf l l.length).map ZK.dv))],60⟩)<|Fg 8 (by rw[Lc]:(↑(Z Z0.dv l).length:Int)=(l.length:Int))<|Fa ((Bt (S:=λi=>(I5 l i).st) l.length kr (λi a=>Zj9 l hl i a) (Zbw l)):CP (Zj f231 0) (I5 l 0).st Ex.nrm (Tg.mk (tm 54 [(3,AV.ow 16003)]) [(16003,Z4.arr 267 2 (Z ZK.dv (Zf l l.length)))] 60).st) Fz
def Ig(l:List Z0)(i:Nat):Tg:=⟨tm 54 [(0,ZZ l),(3,.ow 16003),(4,nI i)],[(16003,.arr 267 2 ((Zf l i).map ZK.dv))],20⟩
def ZjI(l:List Z0)(hl:l.length<=1048576)(i:Nat) p(hp:l[i]?=La p)(hk:p.K≠0):CP (Zn f226 0) (Ig l i).st .nrm (Ig l (i+1)).st:=by
 have hi:i<l.length:=(Ld.1 hp).1;have e:Ig l (i+1)=⟨tm 54 [(0,ZZ l),(3,.ow 16003),(4,nI ((i+1:Nat):Int))],[(16003,.arr 267 2 ((Zf l i).map ZK.dv))],20⟩:=by
  have hpa:E0 l i=p:=by simp[E0,hp]
  rw[Ig,Zf,NM,hpa,if_neg hk]
 rw[e];exact sF [] []<|Fh 14 [.el p.dv]<|Fg 8 (by rw[Lc]:(↑(Z Z0.dv l).length:Int)=(l.length:Int))<|Ftb 9 (X ((i:Int)<(l.length:Int)))<|Fa ((⟨by omega,HC hp⟩):0<=(i:Int)/\(Z Z0.dv l)[(i:Int).toNat]?=La p.dv)<|Ft 17 (by simp[hk]:(p.K != 0)=Y)<|Fx 11 i Fz
def ZcR(l:List Z0)(hl:l.length<=1048576)(i:Nat)(p:Z0)(hp:l[i]?=La p)(hk:p.K=0)(ho:Zf l i≠[])(hm:(Bu (Zf l i)).frm+(Bu (Zf l i)).len=i):CP (Zn f226 0) (Ig l i).st .nrm (Ig l (i+1)).st:=by
 have hi:i<l.length:=(Ld.1 hp).1;obtain⟨o1,o2⟩:=Nn l i;have hlast:=o2 _ (Lj (Ra ho));have hpos:0<(Zf l i).length:=Lz.2 ho;have e:Zf l (i+1)=(Zf l i).dropLast++[⟨(Bu (Zf l i)).frm,(Bu (Zf l i)).len+1⟩]:=by
  have hpa:E0 l i=p:=by simp[E0,hp]
  rw[Zf,NM,hpa,if_pos hk,if_pos ⟨ho,hm⟩]
 have hidx:0<=((Zf l i).length:Int)-1/\(((Zf l i).length:Int)-1).toNat<(Z ZK.dv (Zf l i)).length:=by rw[Lc];omega
 have hat:(Z ZK.dv (Zf l i))[(((Zf l i).length:Int)-1).toNat]?=La (Bu (Zf l i)).dv:=by
  rw[show(((Zf l i).length:Int)-1).toNat=(Zf l i).length-1 from by omega];exact Z0A (Ra ho)
 have hset:(Z ZK.dv (Zf l i)).set (((Zf l i).length:Int)-1).toNat [Zq (Bu (Zf l i)).frm,Zq ((Bu (Zf l i)).len+1)]=Z ZK.dv (Zf l (i+1)):=by
  rw[e,<-Z55 ho,show(((Zf l i).length:Int)-1).toNat=(Zf l i).length-1 from by omega];rfl
 have hw:Lb.wrap (((Zf l i).length:Int)-1)=((Zf l i).length:Int)-1:=C3 oq oq;exact sF [] []<|Fh 14 [.el p.dv]<|Fh 28 [.el (Bu (Zf l i)).dv]<|Fh 31 [.int ((↑(Zf l i).length:Int)-1)]<|Fh 34 [.el (Bu (Zf l i)).dv]<|Fh 35 [.int ↑i]<|Fh 41 [.int ((↑(Zf l i).length:Int)-1)]<|Fh 44 [.el (Bu (Zf l i)).dv]<|Fh 45 [.int ((Bu (Zf l i)).len+1)]<|Fh 10047 [.el (Bu (Zf l i)).dv,.els ((Zf l (i+1)).map ZK.dv)]<|Fh 11 [.int (↑(i+1):Int)]<|Fg 8 (by rw[Lc]:(↑(Z Z0.dv l).length:Int)=(l.length:Int))<|Ft 9 ((decide_eq_true oq):X ((i:Int)<(l.length:Int))=Y)<|Fa ((⟨by omega,HC hp⟩):0<=(i:Int)/\(Z Z0.dv l)[(i:Int).toNat]?=La p.dv)<|Ff 17 (by simp[hk]:(p.K != 0)=L)<|Fg 19 (by rw[Lc]:(↑(Z ZK.dv (Zf l i)).length:Int)=(↑(Zf l i).length:Int))<|Fa ((λ_=>hw):X (0<(↑(Zf l i).length:Int))=Y->Lb.wrap ((↑(Zf l i).length:Int)-1)=(↑(Zf l i).length:Int)-1)<|Fa ((λ_=>hidx):X (0<(↑(Zf l i).length:Int))=Y->0<=(↑(Zf l i).length:Int)-1/\((↑(Zf l i).length:Int)-1).toNat<(Z ZK.dv (Zf l i)).length)<|Fa ((λ_=>hat):X (0<(↑(Zf l i).length:Int))=Y->(Z ZK.dv (Zf l i))[((↑(Zf l i).length:Int)-1).toNat]?=La (Bu (Zf l i)).dv)<|Fa ((λ_=>hw):X (0<(↑(Zf l i).length:Int))=Y->Lb.wrap ((↑(Zf l i).length:Int)-1)=(↑(Zf l i).length:Int)-1)<|Fa ((λ_=>hidx):X (0<(↑(Zf l i).length:Int))=Y->0<=(↑(Zf l i).length:Int)-1/\((↑(Zf l i).length:Int)-1).toNat<(Z ZK.dv (Zf l i)).length)<|Fa ((λ_=>hat):X (0<(↑(Zf l i).length:Int))=Y->(Z ZK.dv (Zf l i))[((↑(Zf l i).length:Int)-1).toNat]?=La (Bu (Zf l i)).dv)<|Fa ((λ_=>by rw[hm];exact C3 oq oq):X (0<(↑(Zf l i).length:Int))=Y->Lb.wrap ((Bu (Zf l i)).frm+(Bu (Zf l i)).len)=(i:Int))<|Ft 38 (by simp;omega:(X (0<(↑(Zf l i).length:Int))&&(i:Int)==(i:Int))=Y)<|Fg 25 (hw:Lb.wrap ((↑(Zf l i).length:Int)-1)=(↑(Zf l i).length:Int)-1)<|Fa (hidx:0<=(↑(Zf l i).length:Int)-1/\((↑(Zf l i).length:Int)-1).toNat<(Z ZK.dv (Zf l i)).length)<|Fa (hat:(Z ZK.dv (Zf l i))[((↑(Zf l i).length:Int)-1).toNat]?=La (Bu (Zf l i)).dv)<|Fa ((C3 oq oq):Lb.wrap ((Bu (Zf l i)).len+1)=(Bu (Zf l i)).len+1)<|Fa (hidx:0<=(↑(Zf l i).length:Int)-1/\((↑(Zf l i).length:Int)-1).toNat<(Z ZK.dv (Zf l i)).length)<|Fa (hat:(Z ZK.dv (Zf l i))[((↑(Zf l i).length:Int)-1).toNat]?=La (Bu (Zf l i)).dv)<|Fa (hset:(Z ZK.dv (Zf l i)).set ((↑(Zf l i).length:Int)-1).toNat (Gi (Bu (Zf l i)).dv (0 + #[Lm "From" 3 0 L "" "" 0,Lm "Len" 3 1 L "" "" 8][1].3) [Zq ((Bu (Zf l i)).len+1)])=Z ZK.dv (Zf l (i+1)))<|Fa ((C3 oq oq):Lb.wrap ((i:Int)+1)=(↑(i+1):Int)) Fz
def Zft(l:List Z0)(hl:l.length<=1048576)(i:Nat)(p:Z0)(hp:l[i]?=La p)(hk:p.K=0)(ho:¬ (Zf l i≠[]/\(Bu (Zf l i)).frm+(Bu (Zf l i)).len=i)):CP (Zn f226 0) (Ig l i).st .nrm (Ig l (i+1)).st:=by
 have hi:i<l.length:=(Ld.1 hp).1;obtain⟨o1,o2⟩:=Nn l i;have e:Zf l (i+1)=Zf l i++[⟨i,1⟩]:=by
  have hpa:E0 l i=p:=by simp[E0,hp]
  rw[Zf,NM,hpa,if_pos hk,if_neg ho]
 have hne:X (0<((Zf l i).length:Int))=Y->Zf l i≠[]:=by
  intro hd h0;rw[h0]at hd;simp at hd
 have hidx:X (0<((Zf l i).length:Int))=Y->0<=((Zf l i).length:Int)-1/\(((Zf l i).length:Int)-1).toNat<(Z ZK.dv (Zf l i)).length:=by
  intro hd;have:=of_decide_eq_true hd;rw[Lc];omega
 have hat:X (0<((Zf l i).length:Int))=Y->(Z ZK.dv (Zf l i))[(((Zf l i).length:Int)-1).toNat]?=La (Bu (Zf l i)).dv:=by
  intro hd;rw[show(((Zf l i).length:Int)-1).toNat=(Zf l i).length-1 from by omega];exact Z0A (Ra (hne hd))
 have hw:Lb.wrap (((Zf l i).length:Int)-1)=((Zf l i).length:Int)-1:=C3 oq oq;have qz0:(X ((0:Int)<(↑(Zf l i).length:Int))&&Lb.wrap ((Bu (Zf l i)).frm+(Bu (Zf l i)).len)==(i:Int))=L:=by
  cases hd:X (0<((Zf l i).length:Int))with
  |false=>simp
  |true =>
   have h1:=hne hd;have hlast:=o2 _ (Lj (Ra h1));rw[C3 oq oq];simp;intro hh;exact ho ⟨h1,hh⟩
 exact sF [(192052,16003)] []<|Fh 14 [.el p.dv]<|Fh 25 [.int ((↑(Zf l i).length:Int)-1)]<|Fh 28 [.el (Bu (Zf l i)).dv]<|Fh 31 [.int ((↑(Zf l i).length:Int)-1)]<|Fh 34 [.el (Bu (Zf l i)).dv]<|Fh 52 [.els ((Zf l (i+1)).map ZK.dv)]<|Fg 8 (by rw[Lc]:(↑(Z Z0.dv l).length:Int)=(l.length:Int))<|Ftb 9 (X ((i:Int)<(l.length:Int)))<|Fa ((⟨by omega,HC hp⟩):0<=(i:Int)/\(Z Z0.dv l)[(i:Int).toNat]?=La p.dv)<|Ff 17 (by simp[hk]:(p.K != 0)=L)<|Fg 19 (by rw[Lc]:(↑(Z ZK.dv (Zf l i)).length:Int)=(↑(Zf l i).length:Int))<|Fa ((λ_=>hw):X (0<(↑(Zf l i).length:Int))=Y->Lb.wrap ((↑(Zf l i).length:Int)-1)=(↑(Zf l i).length:Int)-1)<|Fa (hidx:X (0<(↑(Zf l i).length:Int))=Y->0<=(↑(Zf l i).length:Int)-1/\((↑(Zf l i).length:Int)-1).toNat<(Z ZK.dv (Zf l i)).length)<|Fa (hat:X (0<(↑(Zf l i).length:Int))=Y->(Z ZK.dv (Zf l i))[((↑(Zf l i).length:Int)-1).toNat]?=La (Bu (Zf l i)).dv)<|Fa ((λ_=>hw):X (0<(↑(Zf l i).length:Int))=Y->Lb.wrap ((↑(Zf l i).length:Int)-1)=(↑(Zf l i).length:Int)-1)<|Fa (hidx:X (0<(↑(Zf l i).length:Int))=Y->0<=(↑(Zf l i).length:Int)-1/\((↑(Zf l i).length:Int)-1).toNat<(Z ZK.dv (Zf l i)).length)<|Fa (hat:X (0<(↑(Zf l i).length:Int))=Y->(Z ZK.dv (Zf l i))[((↑(Zf l i).length:Int)-1).toNat]?=La (Bu (Zf l i)).dv)<|Ff 38 (qz0:(X (0<(↑(Zf l i).length:Int))&&Lb.wrap ((Bu (Zf l i)).frm+(Bu (Zf l i)).len)==(i:Int))=L)<|Fa (by rw[Lc];simp;omega:(Z ZK.dv (Zf l i)).length+((O 1 [Zq 0,Zq 0]).set 0 [Zq (i:Int),Zq 1]).length<=2^30)<|Fa (by rw[e];simp[ZK.dv]:Z ZK.dv (Zf l i)++(O 1 [Zq 0,Zq 0]).set 0 [Zq (i:Int),Zq 1]=Z ZK.dv (Zf l (i+1)))<|Fx 11 i Fz
def Zgu(l:List Z0)(hl:l.length<=1048576)(i:Nat)(hi:i<l.length):CP (Zn f226 0) (Ig l i).st .nrm (Ig l (i+1)).st:=by have c:=Li hi;by_cases a:l[i].K=0;by_cases b:Zf l i≠[]/\(Bu (Zf l i)).frm+(Bu (Zf l i)).len=i;exact ZcR l hl i _ c a b.1 b.2;exact Zft l hl i _ c a b;exact ZjI l hl i _ c a
def Zbr l:CP (Zn f226 0) (Ig l l.length).st (.ext 0) (Tg.st ⟨tm 54 [(3,.ow 16003)],[(16003,.arr 267 2 ((Zf l l.length).map ZK.dv))],60⟩):=by exact sF [] []<|Fg 8 (by rw[Lc]:(↑(Z Z0.dv l).length:Int)=(l.length:Int))<|Ffb 9 (X ((l.length:Int)<(l.length:Int))) Fz
def Z3X(l:List Z0)(hl:l.length<=1048576):GP 226 [ZZ l] L (I9 (runs l)) []:=by exact gF [] func226 []<|Fh 3 [.own]<|Fk (0,Ig l 0,.nrm,⟨tm 54 [(3,.ow 16003)],[(16003,.arr 267 2 ((Zf l l.length).map ZK.dv))],60⟩)<|Fa ((Bt (S:=λi=>(Ig l i).st) l.length kr (λi a=>Zgu l hl i a) (Zbr l)):CP (Zj f226 0) (Ig l 0).st Ex.nrm (Tg.mk (tm 54 [(3,AV.ow 16003)]) [(16003,Z4.arr 267 2 (Z ZK.dv (Zf l l.length)))] 60).st) Fz
def Ez(l:List Z0):Nat->Nat|0=>0|i+1=>Ez l i+(if(E0 l i).K=0 then 0 else 1)
def Pm l:∀i,Ez l i<=i
 |0=>LB _
 |i+1=>by
  have:=Pm l i;grind[Ez]
def Cl(l:List Z0):Nat:=Ez l l.length
def SB(l:List Z0)(i:Nat):Tg:=⟨tm 19 [(3,nI (Ez l i)),(6,ZZ l),(7,nI l.length),(8,nI i)],[],20⟩
def Zdf(l:List Z0)(hl:l.length<=1048576)(i:Nat)(hi:i<l.length):CP (Zn f249 0) (SB l i).st .nrm (SB l (i+1)).st:=by
 have hp:=Li hi;have c:=Pm l i;have d:E0 l i=l[i]:=by grind[E0]
 by_cases hk:l[i].K=0;have e:Ez l (i+1)=Ez l i:=by grind[Ez]
 rw[show SB l (i+1)=⟨tm 19 [(3,nI (Ez l i)),(6,ZZ l),(7,nI l.length),(8,nI ((i+1:Nat):Int))],[],20⟩from by rw[SB,e]];let a:=l.get (Fin.mk i hi);exact sF [] []<|Fh 10 [.el a.dv]<|Ft 9 (by grind[C3]:X ((i:Int)<(l.length:Int))=Y)<|Fa (by grind[C3]:0<=(i:Int)/\(Z Z0.dv l)[(i:Int).toNat]?=La a.dv)<|Ff 14 (by grind[C3]:(a.K != 0)=L)<|Fg 17 (by grind[C3]:Lb.wrap ((i:Int)+1)=(↑(i+1):Int)) Fz;have e:Ez l (i+1)=Ez l i+1:=by grind[Ez]
 let b:=l.get (Fin.mk i hi);exact sF [] []<|Fh 10 [.el b.dv]<|Ft 9 (by grind[C3]:X ((i:Int)<(l.length:Int))=Y)<|Fa (by grind[C3]:0<=(i:Int)/\(Z Z0.dv l)[(i:Int).toNat]?=La b.dv)<|Ft 14 (by grind[C3]:(b.K != 0)=Y)<|Fg 16 (by grind[C3]:Lb.wrap ((↑(Ez l i):Int)+1)=(↑(Ez l (i+1)):Int))<|Fg 17 (by grind[C3]:Lb.wrap ((i:Int)+1)=(↑(i+1):Int)) Fz
def Zdw l:CP (Zn f249 0) (SB l l.length).st (.ext 0) (Tg.st ⟨tm 19 [(3,nI (Cl l))],[],60⟩):=by exact sF [] []<|Ffb 9 (X ((l.length:Int)<(l.length:Int))) Fz
def Zhc(l:List Z0)(hl:l.length<=1048576):GP 249 [ZZ l] Y (nI (Cl l)) []:=by exact gF [] func249 []<|Fk (0,SB l 0,.nrm,⟨tm 19 [(3,nI (Cl l))],[],60⟩)<|Fg 7 (by grind:(↑(Z Z0.dv l).length:Int)=(l.length:Int))<|Fa ((Bt (S:=λi=>(SB l i).st) l.length kr (λi a=>Zdf l hl i a) (Zdw l)):CP (Zj f249 0) (SB l 0).st Ex.nrm (Tg.mk (tm 19 [(3,nI (↑(Cl l):Int))]) [] 60).st) Fz
def Sv(l:List Z0)(i:Nat):Tg:=⟨tm 20 [(0,ZZ l),(3,nI (Ez l i)),(4,nI i)],[],20⟩
def ZdF(l:List Z0)(hl:l.length<=1048576)(i:Nat)(hi:i<l.length):CP (Zn f46 0) (Sv l i).st .nrm (Sv l (i+1)).st:=by
 have hp:=Li hi;have c:=Pm l i;have d:E0 l i=l[i]:=by grind[E0]
 by_cases hk:l[i].K=0;have e:Ez l (i+1)=Ez l i:=by grind[Ez]
 rw[show Sv l (i+1)=⟨tm 20 [(0,ZZ l),(3,nI (Ez l i)),(4,nI ((i+1:Nat):Int))],[],20⟩from by rw[Sv,e]];let a:=l.get (Fin.mk i hi);exact sF [] []<|Fh 13 [.el a.dv]<|Fg 7 (by grind[C3]:(↑(Z Z0.dv l).length:Int)=(l.length:Int))<|Ft 8 (by grind[C3]:X ((i:Int)<(l.length:Int))=Y)<|Fa (by grind[C3]:0<=(i:Int)/\(Z Z0.dv l)[(i:Int).toNat]?=La a.dv)<|Ff 16 (by grind[C3]:(a.K != 0)=L)<|Fg 10 (by grind[C3]:Lb.wrap ((i:Int)+1)=(↑(i+1):Int)) Fz;have e:Ez l (i+1)=Ez l i+1:=by grind[Ez]
 let b:=l.get (Fin.mk i hi);exact sF [] []<|Fh 13 [.el b.dv]<|Fg 7 (by grind[C3]:(↑(Z Z0.dv l).length:Int)=(l.length:Int))<|Ft 8 (by grind[C3]:X ((i:Int)<(l.length:Int))=Y)<|Fa (by grind[C3]:0<=(i:Int)/\(Z Z0.dv l)[(i:Int).toNat]?=La b.dv)<|Ft 16 (by grind[C3]:(b.K != 0)=Y)<|Fg 18 (by grind[C3]:Lb.wrap ((↑(Ez l i):Int)+1)=(↑(Ez l (i+1)):Int))<|Fg 10 (by grind[C3]:Lb.wrap ((i:Int)+1)=(↑(i+1):Int)) Fz
def Zdm l:CP (Zn f46 0) (Sv l l.length).st (.ext 0) (Tg.st ⟨tm 20 [(3,nI (Cl l))],[],60⟩):=by exact sF [] []<|FO 7 8 Z0.dv l Fz
def TY(l:List Z0)(hl:l.length<=1048576):GP 46 [ZZ l] Y (nI (Cl l)) []:=by exact gF [] func46 []<|Fk (0,Sv l 0,.nrm,⟨tm 20 [(3,nI (Cl l))],[],60⟩)<|Fa ((Bt (S:=λi=>(Sv l i).st) l.length kr (λi a=>ZdF l hl i a) (Zdm l)):CP (Zj f46 0) (Sv l 0).st Ex.nrm (Tg.mk (tm 20 [(3,nI (↑(Cl l):Int))]) [] 60).st) Fz
def HV:List ZK->Int->Int|[],_=>-1|r::l,k=>if k<=r.len then r.frm else HV l k
def first(l:List Z0)(k:Int):Int:=if k<1 then -1 else HV (runs l) k
def Z27:∀{l:List ZK} {k:Int},(l.all λr=>X (r.len<k))=Y->HV l k=-1
 |[],_,_=>rfl
 |r::l,k,h=>by
  simp only[LF,Le,decide_eq_true_eq]at h;rw[HV,if_neg oq,Z27 h.2]
def Z2Y:∀{l:List ZK} {k:Int} {j:Nat} {r:ZK},l[j]?=La r->k<=r.len->(∀i:Nat,i<j->∃y,l[i]?=La y/\X (y.len<k)=Y)->HV l k=r.frm
 |[],_,_,_,h,_,_=>by simp at h
 |x::l,k,0,r,h,hr,_=>by
  grind[HV]
 |x::l,k,j+1,r,h,hr,hb=>by
  obtain⟨y,a,b⟩:=hb 0 oq;simp at a b;subst a;rw[HV,if_neg oq];exact Z2Y (by simpa using h) hr λi hi=>by
   grind
def Z67{l}:(runs l).length<=l.length:=(Nn l l.length).1
def R7(a:List ZK)(k:Int)(i:Nat):Tg:=⟨tm 23 [(1,nI k),(4,nI 0),(10,I9 a),(11,nI a.length),(12,nI i)],[],20⟩
def Z4O(a:List ZK)(k:Int)(i:Nat) r(hl:a.length<=1048576)(b:a[i]?=La r)(hk:r.len<k):CP (Zn f210 0) (R7 a k i).st .nrm (R7 a k (i+1)).st:=by have hi:i<a.length:=(Ld.1 b).1;exact sF [] []<|Fh 14 [.el r.dv]<|Ftb 13 (X ((i:Int)<(a.length:Int)))<|Fa (by grind[C3]:0<=(i:Int)/\(Z ZK.dv a)[(i:Int).toNat]?=La r.dv)<|Ffb 19 (X (k<=r.len))<|Fx 22 i Fz
def ZkM(a:List ZK)(k:Int)(i:Nat) r(b:a[i]?=La r)(hk:k<=r.len):CP (Zn f210 0) (R7 a k i).st .ret (Tg.st ⟨tm 23 [(4,nI r.frm)],[],60⟩):=by have hi:i<a.length:=(Ld.1 b).1;exact sF [] []<|Fh 14 [.el r.dv]<|Ftb 13 (X ((i:Int)<(a.length:Int)))<|Fa (by grind:0<=(i:Int)/\(Z ZK.dv a)[(i:Int).toNat]?=La r.dv)<|Ftb 19 (X (k<=r.len)) Fz
def Zh4 a k:CP (Zn f210 0) (R7 a k a.length).st (.ext 0) (Tg.st ⟨tm 23 [],[],60⟩):=by exact sF [] []<|Ffb 13 (X ((a.length:Int)<(a.length:Int))) Fz
def Om(l:List Z0) k(hl:l.length<=1048576):GP 210 [ZZ l,nI k] Y (nI (first l k)) []:=by
 by_cases b:k<1;rw[first,if_pos b];exact gF [] func210 []<|Ftb 8 (X (k<1)) Fz;rw[first,if_neg b];have h:=Z67 (l:=l);cases ha:(runs l).all λr=>X (r.len<k)with
 |true =>rw[Z27 ha];refine Zb [((8:Nat),[Hint.br L]),((10:Nat),[Hint.call L (I9 (runs l)) []]),((11:Nat),[Hint.int (↑(runs l).length:Int)])] [((0:Nat),R7 (runs l) k 0,.nrm,⟨tm 23 [],[],60⟩)] [] dd func210 [] (φ:=X (k<(1:Int))=L/\L=L/\GP 231 [AV.d (DV.sl (4:Nat) (Z Z0.dv l))] L (I9 (runs l)) []/\(↑(Z ZK.dv (runs l)).length:Int)=(↑(runs l).length:Int)/\CP (Zj f210 (0:Nat)) (R7 (runs l) k (0:Nat)).st Ex.nrm (Tg.mk (tm (23:Nat) []) [] (60:Nat)).st) ?_ kr kr;refine⟨decide_eq_false b,rfl,Z8U l hl,by grind,Bt (S:=λi=>(R7 (runs l) k i).st) (runs l).length kr (λi a=>?_) (Zh4 _ _)⟩;have:=LG.1 ha _ (LK a);exact Z4O _ k i _ oq (Li a) (by grind)
 |false =>
  obtain⟨j,r,c,h2,d⟩:=ME ha;have e:k<=r.len:=by grind
  rw[Z2Y c e d];refine Zb [((8:Nat),[Hint.br L]),((10:Nat),[Hint.call L (I9 (runs l)) []]),((11:Nat),[Hint.int (↑(runs l).length:Int)])] [((0:Nat),R7 (runs l) k 0,.ret,⟨tm 23 [(4,nI r.frm)],[],60⟩)] [] dd func210 [] (φ:=X (k<(1:Int))=L/\L=L/\GP 231 [AV.d (DV.sl (4:Nat) (Z Z0.dv l))] L (I9 (runs l)) []/\(↑(Z ZK.dv (runs l)).length:Int)=(↑(runs l).length:Int)/\CP (Zj f210 (0:Nat)) (R7 (runs l) k (0:Nat)).st Ex.ret (Tg.mk (tm (23:Nat) [((4:Nat),nI r.frm)]) [] (60:Nat)).st) ?_ kr kr;refine⟨decide_eq_false b,rfl,Z8U l hl,by grind,G0 (S:=λi=>(R7 (runs l) k i).st) j kr (λi a=>?_) (ZkM _ k j r c e)⟩;obtain⟨y,f,g⟩:=d i a;exact Z4O _ k i y oq f (by simpa using g)
def IF(a:List ZK)(k:Int)(i:Nat):Tg:=⟨tm 31 [(1,nI k),(4,nI 0),(5,I9 a),(6,nI i)],[],20⟩
def Z1s(a:List ZK)(k:Int)(i:Nat) r(hl:a.length<=1048576)(b:a[i]?=La r)(hk:k<1\/r.len<k):CP (Zn f203 0) (IF a k i).st .nrm (IF a k (i+1)).st:=by have hi:i<a.length:=(Ld.1 b).1;exact sF [] []<|Fh 20 [.el r.dv]<|FM 11 12 ZK.dv a i<|Fa (by grind[C3]:X (1<=k)=Y->0<=(i:Int)/\(Z ZK.dv a)[(i:Int).toNat]?=La r.dv)<|Ffb 25 (X (1<=k)&&X (k<=r.len))<|Fx 14 i Fz
def ZdP(rs:List ZK)(k:Int)(i:Nat)(r:ZK)(hr:rs[i]?=La r)(hk1:1<=k)(hk:k<=r.len):CP (Zn f203 0) (IF rs k i).st .ret (Tg.st ⟨tm 31 [(4,nI r.frm)],[],60⟩):=by
 have hi:i<rs.length:=(Ld.1 hr).1;refine Zg [((11:Nat),[Hint.int (rs.length:Int)]),((12:Nat),[Hint.br Y]),((20:Nat),[Hint.el r.dv]),((25:Nat),[Hint.br Y]),((28:Nat),[Hint.el r.dv])] [] [] [] (φ:=(↑(Z ZK.dv rs).length:Int)=(rs.length:Int)/\X ((i:Int)<(rs.length:Int))=Y/\Y=Y/\(X ((1:Int)<=k)=Y->(0:Int)<=(i:Int)/\(Z ZK.dv rs)[(i:Int).toNat]?=La r.dv)/\(X ((1:Int)<=k)&&X (k<=r.len))=Y/\Y=Y/\(0:Int)<=(i:Int)/\(Z ZK.dv rs)[(i:Int).toNat]?=La r.dv) ?_ kr kr kr;exact⟨(by simp only[Lc]),(by(simp only[bs];omega)),rfl,(by grind),(by(simp only[bs];omega)),rfl,(by grind),(by grind)⟩
def Z4C a k:CP (Zn f203 0) (IF a k a.length).st (.ext 0) (Tg.st ⟨tm 31 [],[],60⟩):=by exact sF [] []<|FO 11 12 ZK.dv a Fz
def Df(l:List Z0) k(hl:l.length<=1048576):GP 203 [ZZ l,nI k] Y (nI (first l k)) []:=by
 have h:=Z67 (l:=l);by_cases b:k<1;rw[first,if_pos b];exact gF [] func203 []<|Fh 8 [.call L (I9 (runs l)) []]<|Fk (0,IF (runs l) k 0,.nrm,⟨tm 31 [],[],60⟩)<|Fa ((Z3X l hl):GP 226 [AV.d (DV.sl 4 (Z Z0.dv l))] L (I9 (runs l)) [])<|Fa ((Bt (S:=λi=>(IF (runs l) k i).st) (runs l).length kr (λi a=>Z1s _ k i _ oq (Li a) (.inl b)) (Z4C _ _)):CP (Zj f203 0) (IF (runs l) k 0).st Ex.nrm (Tg.mk (tm 31 []) [] 60).st) Fz;rw[first,if_neg b];cases ha:(runs l).all λr=>X (r.len<k)with
 |true =>rw[Z27 ha];refine Zb [((8:Nat),[Hint.call L (I9 (runs l)) []])] [((0:Nat),IF (runs l) k 0,.nrm,⟨tm 31 [],[],60⟩)] [] dd func203 [] (φ:=GP 226 [AV.d (DV.sl (4:Nat) (Z Z0.dv l))] L (I9 (runs l)) []/\CP (Zj f203 (0:Nat)) (IF (runs l) k (0:Nat)).st Ex.nrm (Tg.mk (tm (31:Nat) []) [] (60:Nat)).st) ?_ kr kr;refine⟨Z3X l hl,Bt (S:=λi=>(IF (runs l) k i).st) (runs l).length kr (λi a=>?_) (Z4C _ _)⟩;have:=LG.1 ha _ (LK a);exact Z1s _ k i _ oq (Li a) (.inr (by grind))
 |false =>
  obtain⟨j,r,c,h2,d⟩:=ME ha;have e:k<=r.len:=by grind
  rw[Z2Y c e d];refine Zb [((8:Nat),[Hint.call L (I9 (runs l)) []])] [((0:Nat),IF (runs l) k 0,.ret,⟨tm 31 [(4,nI r.frm)],[],60⟩)] [] dd func203 [] (φ:=GP 226 [AV.d (DV.sl (4:Nat) (Z Z0.dv l))] L (I9 (runs l)) []/\CP (Zj f203 (0:Nat)) (IF (runs l) k (0:Nat)).st Ex.ret (Tg.mk (tm (31:Nat) [((4:Nat),nI r.frm)]) [] (60:Nat)).st) ?_ kr kr;refine⟨Z3X l hl,G0 (S:=λi=>(IF (runs l) k i).st) j kr (λi a=>?_) (ZdP _ k j r c oq e)⟩;obtain⟨y,f,g⟩:=d i a;exact Z1s _ k i y oq f (.inr (by simpa using g))
def Z4U l:∀i,∀r∈Zf l i,∀j:Int,r.frm<=j->j<r.frm+r.len->(l.getD j.toNat M).K=0
 |0=>by simp[Zf]
 |i+1=>by
  have e:=Z4U l i;have ok:=(Nn l i).2;intro r a j b c;simp only[Zf,NM]at a;have g:E0 l i=l.getD i M:=by rw[Pb];simp
  split at a
  .rename_i f;rw[g]at f;split at a
   .rename_i h;have d:=Lj (Ra h.1);rcases Lt.1 a with a|a
    .exact e r (LH _ a) j b c
    .simp at a;subst a;simp only at b c;by_cases k:j=i
     .subst k;simpa using f
     .exact e _ d j b oq
   .rcases Lt.1 a with a|a
    .exact e r a j b c
    .simp at a;subst a;simp only at b c;have:j=i:=by omega
     subst this;simpa using f
  .exact e r a j b c
def Z8W:∀{l:List ZK} {k:Int},0<=HV l k->∃r∈l,HV l k=r.frm/\k<=r.len
 |[],_,h=>by simp[HV]at h
 |r::l,k,h=>by
  rw[HV]at h⊢;split
  .exact⟨r,by simp,rfl,aa⟩
  .rename_i c;rw[if_neg c]at h;obtain⟨x,d,a,b⟩:=Z8W h;exact⟨x,by simp[d],a,b⟩
def HN{l k}(h:0<=first l k):1<=k/\first l k+k<=l.length/\HM l (first l k).toNat k.toNat=Y:=by
 unfold first at h⊢
 split at h;omega;rename_i c;rw[if_neg c];obtain⟨r,a,b,h2⟩:=Z8W h;have ok:=(Nn l l.length).2 r a;rw[b]at h⊢;refine⟨by omega,by omega,Su.2 λj hj=>?_⟩;have:=Z4U l l.length r a (r.frm+j) oq oq;rwa [show(r.frm+(j:Int)).toNat=r.frm.toNat+j from by omega]at this
def Z1U l(k:Int):-1<=first l k/\first l k<=l.length:=by
 by_cases h:0<=first l k
 have:=HN h;omega;unfold first at h⊢
 split;omega;rename_i b;rw[if_neg b]at h;have:∀m:List ZK,(∀r∈m,0<=r.frm)->-1<=HV m k:=by
  intro m;induction m with|nil=>intro _;simp[HV]|cons r m e =>intro a;rw[HV];split;have:=a r pq;omega;exact e λx d=>a x (by simp[d])
 have:=this (runs l) λr c=>((Nn l l.length).2 r c).1;omega
def Z5v{c l}:∀{f i:Nat} {a:Int},0<=a->Ge c l f i a=Y->l.length<=i+f->∀j,i<=j->j<l.length->∃d,0<=d/\Gg c l j d:=by
 intro f;induction f with|zero=>intro i a _ _ o j h e;omega|succ f p =>intro i a k b o j h e;rw[Ge,if_pos oq,Le]at b;have g:=of_decide_eq_true b.1;by_cases m:j=i;subst m;exact⟨a,k,g⟩;refine p ?_ b.2 oq j oq e;unfold EE;split;rename_i n;have:=g.2.2.2.2.2.2.2.2.2.1 n;omega;omega
def En{h:Heap}(g:Z8 h=Y){j:Nat}(e:j<h.P.length):0<=(h.P.getD j M).S/\(h.P.getD j M).S<=1/\0<=(h.P.getD j M).N/\(h.P.getD j M).N<=2147483647 /\
  0<=(h.P.getD j M).K/\(h.P.getD j M).K<=3/\0<=(h.P.getD j M).U/\(h.P.getD j M).U<=256/\((h.P.getD j M).K=1->(h.P.getD j M).U<=h.C.pw):=by
 have b:=I7.1 g;have hv:=BG.1 b.1;obtain⟨d,_,a⟩:=Z5v oq b.2.2.2.2.2 oq j oq e;unfold Gg at a;have hu:(h.P.getD j M).K=2->1<=(h.P.getD j M).U/\(h.P.getD j M).U<=256:=by(intro f;have c:=(a.2.2.2.2.2.2.2.2.2.1 f).1;unfold need at c;split at c;omega;omega)
 omega
def Z4T(l:List Z0):Cl l<=l.length:=Pm l l.length
abbrev tP(l:List Z0)(s:Int):List Z0:=ZM l (first l 1).toNat 1 (Z0.mk 1 s 0 0) (Z0.mk 0 0 0 0)
def G3(c:B3)(a:Zv):Bool:=ZT a&&X (a.K≠0)&&X (need c (Z5 a)≠-1)
def AU(c:B3)(a:Zv)(hm:0<=a.map/\a.map<=4294967295):GP 165 [c.av,a.av] Y (bL (G3 c a)) []:=by refine Zb [((6:Nat),[Hint.call Y (bL (ZT a)) []]),((15:Nat),[Hint.call Y (nI (Z5 a)) []]),((16:Nat),[Hint.call Y (nI (need c (Z5 a))) []])] [] [] dd func165 [L,L,L,L,L,L,L,L,Y] (φ:=GP 113 [a.av] Y (bL (ZT a)) []/\((ZT a&&a.K != (0:Int))=Y->GP 70 [a.av] Y (nI (Z5 a)) [])/\((ZT a&&a.K != (0:Int))=Y->GP 47 [c.av,nI (Z5 a)] Y (nI (need c (Z5 a))) [])/\(ZT a&&a.K != (0:Int)&&need c (Z5 a) != (-1:Int))=G3 c a) ?_ kr kr;exact⟨(@Nb (a) aa),(λb=>by(try simp only[bs]at b);exact@Il (a) (by(try simp only[bs]at b);assumption)),(λb=>by(try simp only[bs]at b);exact@Rq (c) (Z5 a)),(by grind[G3])⟩
def Ct(l:List Z0)(i:Nat)(n:Int):List Z0:=l.set i ⟨(l.getD i M).K,(l.getD i M).S,(l.getD i M).U+n,(l.getD i M).N⟩
def IU(h:Heap)(n:Int):Prop:=0<=h.B/\(h.P.getD h.B.toNat M).S=h.S/\(h.P.getD h.B.toNat M).U+n<=h.C.pw/\(Cl h.P:Int)<=E6 h.C
instance (h:Heap) (n:Int):Decidable (IU h n):=by unfold IU;infer_instance
def HI(h:Heap):List Z0:=(Z8M h.P (first h.P 1) h.S).1
def Bl(h:Heap)(n:Int):Heap×Int×Bool:=
 if IU h n then(⟨h.C,h.W,Ct h.P h.B.toNat n,h.S,h.B⟩,4096+h.B*h.C.pw+(h.P.getD h.B.toNat M).U,Y)
 else if 0<=first h.P 1/\(Cl h.P:Int)<E6 h.C then
  (⟨h.C,h.W,Ct (HI h) (first h.P 1).toNat n,h.S,first h.P 1⟩,4096+first h.P 1*h.C.pw+((HI h).getD (first h.P 1).toNat M).U,Y)
 else(B8,0,L)
def Z07{l:List Z0}{i k:Nat}{p q}(h:i+k<=l.length):(ZM l i k p q).length=l.length:=by rw[ZM,List.length_set];exact IG (by simpa using h) pq
def NF{h:Heap}(hs:h.S=0\/h.S=1)(b:0<=first h.P 1):HI h=ZM h.P (first h.P 1).toNat 1 ⟨1,h.S,0,0⟩ ⟨0,0,0,0⟩/\(HI h).length=h.P.length/\(first h.P 1)<h.P.length /\ ((HI h).getD (first h.P 1).toNat M)=⟨1,h.S,0,0⟩:=by
 obtain⟨_,h1,a⟩:=HN b;have e:HI h=ZM h.P (first h.P 1).toNat 1 ⟨1,h.S,0,0⟩ ⟨0,0,0,0⟩:=by(rw[HI,Z8M,if_pos oq,EP,if_pos oq,if_pos a];rfl)
 have c:(HI h).length=h.P.length:=by rw[e];exact Z07 oq
 refine⟨e,c,by omega, ?_⟩;rw[e,ZM,Lo,LJ,if_pos rfl,if_pos (by rw[IG qo pq];omega)];rfl
def Z5r{c:B3}(a:Zs c=Y):2<=E6 c/\E6 c<=16:=by have:=BG.1 a;rw[E6,if_pos a,H5 oq];omega
def HW{c:B3}{i:Int}(a:Zs c=Y)(b:0<=i)(h1:i<c.pg):0<=i*c.pw/\i*c.pw+c.pw<=4096:=by have hb:=BG.1 a;have ha:=HE a;have h2:0<=i*c.pw:=Int.mul_nonneg b oq;have d:(i+1)*c.pw<=c.pg*c.pw:=Int.mul_le_mul_of_nonneg_right oq oq;rw[Int.add_mul,LD,Ln c.pg]at d;omega
def Pr(h:Heap)(n:Int)(m:Z8 h=Y)(hn:1<=n/\n<=256):GP 166 [h.av,nI n] L (.tu [(Bl h n).1.av,uU (Bl h n).2.1,bL (Bl h n).2.2]) []:=by
 have x:=B4 m;obtain⟨o,o2,o3,o4,o5,o6,o7,o8,w⟩:=x;have hb:=(I7.1 m).2.2.2.2.1;have v:=λr=>En m (j:=h.B.toNat) r;have hr:=Z1U h.P 1;have e:=λb=>NF (h:=h) w b;have q:=Z4T h.P;have s:=Z5r o;have t:0<=h.B->0<=h.B*h.C.pw/\h.B*h.C.pw+h.C.pw<=4096:=λk=>HW o k oq;have u:0<=first h.P 1->0<=first h.P 1*h.C.pw/\first h.P 1*h.C.pw+h.C.pw<=4096:=λk=>HW o k (by have:=e k;omega)
 by_cases b:IU h n;have d:Bl h n=(⟨h.C,h.W,Ct h.P h.B.toNat n,h.S,h.B⟩,4096+h.B*h.C.pw+(h.P.getD h.B.toNat M).U,Y):=by rw[Bl,if_pos b]
 unfold IU at b;rw[show Bl h n=(Heap.mk h.C h.W (h.P.set h.B.toNat (Z0.mk (h.P.getD h.B.toNat M).K (h.P.getD h.B.toNat M).S ((h.P.getD h.B.toNat M).U+n) (h.P.getD h.B.toNat M).N)) h.S h.B,(4096:Int)+h.B*h.C.pw+(h.P.getD h.B.toNat M).U,Y)from by rw[d];rfl];let a:=h.P.getD h.B.toNat M;exact gF [] func166 []<|FA 11 14 Z0.dv h.P<|Fc 18 (@MW h.C)<|Fc 21 (@TY h.P oq)<|FmGq 32 (!decide (h.B<0)) Z0.dv h.P h.B<|FmGq 43 (!(X (h.B<0)||a.S != h.S)) Z0.dv h.P h.B<|FiG 45 (!(X (h.B<0)||a.S != h.S)) (a.U+n)<|Ffb 55 (X (h.B<0)||a.S != h.S||X (h.C.pw<a.U+n)||X (E6 h.C<(↑(Cl h.P):Int)))<|Fi 83 (h.B*h.C.pw)<|Fi 84 (4096+h.B*h.C.pw)<|Fmq 90 Z0.dv h.P h.B<|Fi 91 (4096+h.B*h.C.pw+a.U)<|Fv 92 (4096+h.B*h.C.pw+a.U)<|Fmq 101 Z0.dv h.P h.B<|Fi 103 (a.U+n)<|Fm0q Z0.dv h.P h.B<|FS 10105 Z0.dv h.P h.B.toNat (Z0.mk a.K a.S (a.U+n) a.N) (a.dv) Fz;by_cases l:0<=first h.P 1/\(Cl h.P:Int)<E6 h.C
 have d:Bl h n=(⟨h.C,h.W,Ct (HI h) (first h.P 1).toNat n,h.S,first h.P 1⟩,4096+first h.P 1*h.C.pw+((HI h).getD (first h.P 1).toNat M).U,Y):=by rw[Bl,if_neg b,if_pos l]
 obtain⟨y,z,q3,p⟩:=e l.1;obtain⟨r1,r2,r3⟩:=HN l.1;have r4:HM h.P (first h.P 1).toNat 1=Y:=r3;rw[y]at d z p;have q6:=congrArg Z0.U p;simp only at q6;unfold IU at b;rw[show Bl h n=(Heap.mk h.C h.W ((ZM h.P (first h.P (1:Int)).toNat (1:Nat) (Z0.mk (1:Int) h.S (0:Int) (0:Int)) (Z0.mk (0:Int) (0:Int) (0:Int) (0:Int))).set (first h.P (1:Int)).toNat (Z0.mk ((ZM h.P (first h.P (1:Int)).toNat (1:Nat) (Z0.mk (1:Int) h.S (0:Int) (0:Int)) (Z0.mk (0:Int) (0:Int) (0:Int) (0:Int))).getD (first h.P (1:Int)).toNat M).K ((ZM h.P (first h.P (1:Int)).toNat (1:Nat) (Z0.mk (1:Int) h.S (0:Int) (0:Int)) (Z0.mk (0:Int) (0:Int) (0:Int) (0:Int))).getD (first h.P (1:Int)).toNat M).S (((ZM h.P (first h.P (1:Int)).toNat (1:Nat) (Z0.mk (1:Int) h.S (0:Int) (0:Int)) (Z0.mk (0:Int) (0:Int) (0:Int) (0:Int))).getD (first h.P (1:Int)).toNat M).U+n) ((ZM h.P (first h.P (1:Int)).toNat (1:Nat) (Z0.mk (1:Int) h.S (0:Int) (0:Int)) (Z0.mk (0:Int) (0:Int) (0:Int) (0:Int))).getD (first h.P (1:Int)).toNat M).N)) h.S (first h.P (1:Int)),(4096:Int)+first h.P (1:Int)*h.C.pw+((ZM h.P (first h.P (1:Int)).toNat (1:Nat) (Z0.mk (1:Int) h.S (0:Int) (0:Int)) (Z0.mk (0:Int) (0:Int) (0:Int) (0:Int))).getD (first h.P (1:Int)).toNat M).U,Y)from by rw[d];rfl];let f:=ZM h.P (first h.P 1).toNat 1 (Z0.mk 1 h.S 0 0) (Z0.mk 0 0 0 0);let c:=f.getD (first h.P 1).toNat M;let g:=h.P.getD h.B.toNat M;exact gF [] func166 []<|FA 11 14 Z0.dv h.P<|Fc 18 (@MW h.C)<|Fc 21 (@TY h.P oq)<|FmGq 32 (!decide (h.B<0)) Z0.dv h.P h.B<|FmGq 43 (!(X (h.B<0)||g.S != h.S)) Z0.dv h.P h.B<|FiG 45 (!(X (h.B<0)||g.S != h.S)) (g.U+n)<|Ftb 55 (X (h.B<0)||g.S != h.S||X (h.C.pw<g.U+n)||X (E6 h.C<(↑(Cl h.P):Int)))<|Fc 58 (@Df h.P (1) oq)<|Ffb 65 (X (first h.P (1:Int)<0)||X (E6 h.C<=(↑(Cl h.P):Int)))<|Fc 73 (@Z5s h.P (first h.P 1) h.S oq oq oq aa)<|Fi 83 (first h.P 1*h.C.pw)<|Fi 84 (4096+first h.P 1*h.C.pw)<|Fmq 90 Z0.dv f (first h.P 1)<|Fi 91 (4096+first h.P 1*h.C.pw+c.U)<|Fv 92 (4096+first h.P 1*h.C.pw+c.U)<|Fmq 101 Z0.dv f (first h.P 1)<|Fi 103 (c.U+n)<|Fm0q Z0.dv f (first h.P 1)<|FS 10105 Z0.dv f ((first h.P 1).toNat) (Z0.mk c.K c.S (c.U+n) c.N) (c.dv) Fz;have d:Bl h n=(B8,0,L):=by rw[Bl,if_neg b,if_neg l]
 unfold IU at b;rw[d];let i:=h.P.getD h.B.toNat M;exact gF [] func166 []<|FAx 11 14 Z0.dv h.P (by(simp[B8, *];omega))<|Fc 18 (@MW h.C)<|Fc 21 (@TY h.P oq)<|FmGq 32 (!decide (h.B<0)) Z0.dv h.P h.B<|FmGq 43 (!(X (h.B<0)||i.S != h.S)) Z0.dv h.P h.B<|FiG 45 (!(X (h.B<0)||i.S != h.S)) (i.U+n)<|Ftb 55 (X (h.B<0)||i.S != h.S||X (h.C.pw<i.U+n)||X (E6 h.C<(↑(Cl h.P):Int)))<|Fc 58 (@Df h.P (1) oq)<|Ftb 65 (X (first h.P (1:Int)<0)||X (E6 h.C<=(↑(Cl h.P):Int)))<|Fnl (Fnl Fz)
end Go.Proofs.YtgedmeaemofdkaaGreat
