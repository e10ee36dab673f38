/-
 The statement CollectWeak: part 7.
 Conditions: none.
-/
import Derived.Laws.Bits64b
import Derived.WalkSmall
import Derived.Test.YtgedmeaemofdkaaGreatW6
set_option maxRecDepth 100000
set_option maxHeartbeats 2000000
set_option linter.all false
open Decidable renaming decide->X
open Bool renaming true->Y,false->L,and_eq_true->Le,eq_false_iff->Ll,or_eq_true->Lq,eq_false_or_eq_true->Lu,eq_iff_iff->Lv,true_and->Lw
open List renaming map->Z,replicate->O,length_map->Lc,getElem?_eq_some_iff->Ld,drop->Lg,getElem?_eq_getElem->Li,mem_of_getElem?->Lj,take->Lk,getD_eq_getElem?_getD->Lo,map_set->Lp,getD->Lr,length_drop->Ls,mem_append->Lt,length_pos_iff->Lz,range->LA,all_cons->LF,all_eq_true->LG,dropLast_subset->LH,getElem?_range->LI,getElem?_set->LJ,getElem_mem->LK,map_append->LL,map_drop->LM,map_take->LN,mem_range->LO,take_succ_cons->LQ
open Inhabited renaming default->M
open Option renaming some->La
open Go.IntKind renaming i64->Lb,u64->Lf,u32->Ly
open Int renaming toNat->Lh,mul_comm->Ln,ediv_nonneg->Lx,ediv_lt_of_lt_mul->LC,one_mul->LD
open Go.Field renaming mk->Lm
open Nat renaming le_refl->LB,le_of_lt->LR,min_eq_left->LS
open Go.Proofs.Tryz
namespace Go.Proofs.YtgedmeaemofdkaaGreat
open Go.Sx
def ones(n:Int):Int:=2^(min n.toNat 64)-1
structure Zw where
 K:Int
 length:Int
 map:Int
 deriving DecidableEq,Inhabited
def u32(n:Int):AV:=.d (.sc (.int .u32 n))
def Zw.av(h:Zw):AV:=.ag [int h.K,int h.length,u32 h.map]
def or_one(k:Nat)(h:k<64):bits .or .u64 (Lf.wrap ((2^k-1)*2^min (Lh 1) 64)) 1=2^(k+1)-1:=by have:k∈LA 64:=LO.2 h;revert k;decide+kernel
def A6(m:Nat)(i:Nat):Tg:=⟨tm 14 [(2,u64 0),(3,u64 (2^i-1)),(6,int m),(7,int i)],[],20⟩
def ZaP(m i:Nat)(hm:m<=64)(hi:i<m):CP (Zm f170 0) (A6 m i).st .nrm (A6 m (i+1)).st:=by have a:=or_one i oq;exact sF [] [L,Y] (Ftb 8 (X ((i:Int)<(m:Int))) (Fo ((0:Int)<=1) (Fg 12 (by exact E6 oq oq:Lb.wrap ((i:Int)+1)=(↑(i+1):Int)) (Fa (by exact a:bits BinOp.or Lf (Lf.wrap ((2^i-1)*2^min (Lh 1) 64)) (1:Int)=2^(i+1)-1) Fz))))
def ZiB m:CP (Zm f170 0) (A6 m m).st (.ext 0) (Tg.st ⟨tm 14 [(3,u64 (2^m-1))],[],60⟩):=by exact sF [] [] (Ffb 8 (X ((m:Int)<(m:Int))) Fz)
def Ziy(m:Nat)(b:m<=64)  := Bs (S:=λi=>(A6 m i).st) m (by kernel_rfl) (λi a=>ZaP m i b a) (ZiB m)
def RI n:GP 170 [int n] Y (u64 (ones n)) []:=by
 have ei:min (max n 0) 64=((min n.toNat 64:Nat):Int):=by omega
 exact gF [] func170 [] (Fgo 5 (if 0 > n then 0 else n) (max n 0) (Fgo 6 (if 64<max n 0 then 64 else max n 0) (↑(min n.toNat 64):Int) (Fu (@Ziy (min n.toNat 64) oq) Fz)))
def ZR(h:Zw):Bool:=X (0<=h.K/\h.K<=3/\0<=h.length/\h.length<=255/\(if h.K=1 then h.length<=32/\h.map<2^h.length.toNat else h.map=0))
def Z5(h:Zw):Int:=if ZR h=Y then h.length+1 else 0
def CW:Zw:=⟨0,0,0⟩
def Zt(h:Zw):Int×Int:=if ZR h=Y then(1+4*h.K+16*h.length+65536*h.map,0)else(0,1)
def ES(w:Int):Zw:=⟨w/4%4,w/16%4096,w/65536%4294967296⟩
def Z7(w:Int):Zw×Bool:=if(Zt (ES w)).2=0/\(Zt (ES w)).1=w then(ES w,Y)else(CW,L)
def Bl(h:Zw)(i:Int):Bool:=ZR h&&X (0<=i)&&X (i<h.length)&&(h.K==2||(h.K==1&&(h.map/2^i.toNat%2==1)))
def Gl{h:Zw}:ZR h=Y↔0<=h.K/\h.K<=3/\0<=h.length/\h.length<=255/\(if h.K=1 then h.length<=32/\h.map<2^h.length.toNat else h.map=0):=by simp[ZR]
def Z42{n:Int}(h1:n<=32):(1:Int)<=2^n.toNat/\(2:Int)^n.toNat<=4294967296:=by
 have:n.toNat<=32:=by omega
 generalize n.toNat=k at this;have hk:k∈LA 33:=LO.2 oq;revert k;decide+kernel
def ZeF{n:Int}(a:n<=32):Lf.wrap (1*2^min n.toNat 64)=2^n.toNat:=by have:=Z42 a;rw[LS oq,LD];exact Tp oq oq
def ZiL{h:Zw}(b:ZR h=Y)(hm:0<=h.map)(a:h.map<=4294967295):0<=h.K/\h.K<=3/\0<=h.length/\h.length<=255/\0<=h.map/\h.map<=4294967295:=by have:=Gl.1 b;omega
def N0(h:Zw)(hm:0<=h.map/\h.map<=4294967295):GP 113 [h.av] Y (bool (ZR h)) []:=by have hs:h.length<=32->Lf.wrap (1*2^min h.length.toNat 64)=2^h.length.toNat:=ZeF;rcases bb (X (h.K<0)||X (3<h.K)||X (h.length<0)||X (255<h.length))with hc0|hc0<;>have a:=hc0<;>simp only[bs]at a;exact gF [] func113 (fO 9) (Ft 20 hc0 (Fa (by(simp[ZR, *];omega):L=ZR h) Fz));obtain⟨⟨⟨b,c⟩,e⟩,f⟩:=a;rcases bb (h.K != 1)with hc1|hc1<;>have d:=hc1<;>simp only[bs]at d;exact gF [] func113 (fO 9) (Ff 20 hc0 (Ft 23 hc1 (Fa (by grind[ZR]:(h.map==0)=ZR h) Fz)));exact gF [] func113 (fO 17) (Ff 20 hc0 (Ff 23 hc1 (FvG 33 (X (h.length<=32)) h.map (FvG 36 (X (h.length<=32)) h.length (Fa (by intro g;(try simp only[bs]at g);omega:X (h.length<=32)=Y->0<=h.length) (Fa (by grind[ZR]:(X (h.length<=32)&&X (h.map<Lf.wrap ((1:Int)*2^min h.length.toNat 64)))=ZR h) Fz))))))
def I8(h:Zw)(hm:0<=h.map/\h.map<=4294967295):GP 70 [h.av] Y (int (Z5 h)) []:=by rcases bb (!ZR h)with hc0|hc0<;>have a:=hc0<;>simp only[bs]at a;exact gF [] func70 [Y] (Fc 4 (@N0 h aa) (Ft 5 hc0 (Fa (by simp[Z5, *]:0=Z5 h) Fz)));have e:=Gl.1 a;obtain⟨g,⟨f,⟨d,⟨b,c⟩⟩⟩⟩:=e;exact gF [] func70 [Y] (Fc 4 (@N0 h aa) (Ff 5 hc0 (Fi 8 (h.length+1) (Fa (by simp[Z5, *]:h.length+1=Z5 h) Fz))))
def M6(h:Zw)(hm:0<=h.map/\h.map<=4294967295):GP 143 [h.av] Y (.tu [u64 (Zt h).1,int (Zt h).2]) []:=by rcases bb (!ZR h)with hc0|hc0<;>have a:=hc0<;>simp only[bs]at a;rw[show Zt h=((0:Int),(1:Int))from by simp[Zt, *]];exact gF [] func143 [] (Fc 5 (@N0 h aa) (Ft 6 hc0 Fz));have e:=Gl.1 a;obtain⟨g,⟨f,⟨d,⟨b,c⟩⟩⟩⟩:=e;rw[show Zt h=((1:Int)+(4:Int)*h.K+(16:Int)*h.length+h.map*(65536:Int),(0:Int))from by(simp[Zt, *];omega)];exact gF [] func143 [] (Fc 5 (@N0 h aa) (Ff 6 hc0 (Fv 9 h.K (Fv 10 (4*h.K) (Fv 11 ((1:Int)+4*h.K) (Fv 14 h.length (Fv 15 (16*h.length) (Fv 16 ((1:Int)+4*h.K+16*h.length) (Fv 19 h.map (Fg 20 (by exact BB rfl oq oq:Lf.wrap (h.map*2^min (Lh 16) 64)=h.map*65536) (Fo ((0:Int)<=16) (Fv 21 ((1:Int)+4*h.K+16*h.length+h.map*65536) Fz))))))))))))
def Z16(w:Int)(h0:0<=w):0<=(ES w).map/\(ES w).map<=4294967295:=by simp only[ES];omega
def Ac(w:Int)(h0:0<=w)(h1:w<=18446744073709551615):GP 148 [u64 w] Y (.tu [(Z7 w).1.av,bool (Z7 w).2]) []:=by have hm:=Z16 w h0;have Q0 {h_ c_ p_} (r_:Fq h_ c_ p_):=Fg 8 (by exact Hu rfl dd:w.fdiv (2^min (Lh 2) 64)=w/4) (Fo ((0:Int)<=2) (Fg 9 (by exact NC 2 dd dd oq oq:bits BinOp.and Lf (w/4) 3=w/4%4) (Fi 10 (w/4%4) (Fg 12 (by exact Hu rfl dd:w.fdiv (2^min (Lh 4) 64)=w/16) (Fo ((0:Int)<=4) (Fg 13 (by exact NC 12 dd dd oq oq:bits BinOp.and Lf (w/16) 4095=w/16%4096) (Fi 14 (w/16%4096) (Fg 16 (by exact Hu rfl dd:w.fdiv (2^min (Lh 16) 64)=w/65536) (Fo ((0:Int)<=16) (Fg 17 (rfl:Ly.wrap (w/65536)=w/65536%4294967296) (Fc 21 (@M6 (Zw.mk (w/4%4) (w/16%4096) (w/65536%4294967296)) aa) r_)))))))))));rcases bb ((Zt (Zw.mk (w/4%4) (w/16%4096) (w/65536%4294967296))).2 != 0||(Zt (Zw.mk (w/4%4) (w/16%4096) (w/65536%4294967296))).1 != w)with hc0|hc0<;>have hc0p:=hc0<;>simp only[bs]at hc0p;rw[show Z7 w=(Zw.mk (0:Int) (0:Int) (0:Int),L)from by grind[Z7,ES,CW]];exact gF [] func148 [] (Q0 (Ft 30 hc0 Fz));obtain⟨hc0pa,hc0pb⟩:=hc0p;rw[show Z7 w=(Zw.mk (w/(4:Int)%(4:Int)) (w/(16:Int)%(4096:Int)) (w/(65536:Int)%(4294967296:Int)),Y)from by simp[Z7,ES,CW, *]];exact gF [] func148 [] (Q0 (Ff 30 hc0 Fz))
def Z3X(h:Zw)(i:Int)(f:0<=h.map/\h.map<=4294967295)(b:ZR h=Y)(d:0<=i)(e:i<h.length) :(h.K==2||h.K==1&&bits BinOp.and Ly (h.map.fdiv (2^min i.toNat 32)) 1==1)=Bl h i:=by
 have c:=Gl.1 b;by_cases a:h.K=1;have hl:h.length<=32:=by simp[a]at c;omega
 have g:(0:Int)<=2^i.toNat:=Int.pow_nonneg dd;rw[LS oq,Int.fdiv_eq_ediv_of_nonneg _ g];have j:0<=h.map/2^i.toNat:=Lx f.1 g;have h3:h.map/2^i.toNat<=h.map:=Int.ediv_le_self _ f.1;have:=Zer 1 dd (x:=h.map/2^i.toNat) (m:=1) dd j oq;rw[this];simp[Bl,b,d,e,a];have:(h.K==1)=L:=by simp[a]
 simp[Bl,b,d,e,this]
def NL(h:Zw) i(n:0<=h.map/\h.map<=4294967295):GP 57 [h.av,int i] Y (bool (Bl h i)) []:=by rcases bb (!ZR h||X (i<0)||X (h.length<=i))with hc0|hc0<;>have b:=hc0<;>simp only[bs]at b;exact gF [] func57 (fO 6) (Fc 6 (@N0 h aa) (Ft 17 hc0 (Fa (by grind[Bl]:L=Bl h i) Fz)));obtain⟨⟨a,e⟩,g⟩:=b;have j:=Gl.1 a;obtain⟨l,⟨k,⟨f,⟨c,d⟩⟩⟩⟩:=j;exact gF [] func57 (fO 18) (Fc 6 (@N0 h aa) (Ff 17 hc0 (FvG 29 (!h.K==2&&h.K==1) i (Fa (by intro m;(try simp only[bs]at m);omega:(!h.K==2&&h.K==1)=Y->0<=i) (Fa (by exact Z3X h i n aa oq oq:(h.K==2||h.K==1&&bits BinOp.and Ly (h.map.fdiv (2^min i.toNat 32)) (1:Int)==1)=Bl h i) Fz)))))
def Cf{α:Type}(ws:List α)(i:Nat)(l:List α):List α:=ws.take i++l++ws.drop (i+l.length)
def Zx(ws:List Int)(a n:Int):Int×Bool:=if 4096<=a/\a<=4096+ws.length then(a-4096,X (n<=ws.length-(a-4096)))else(0,L)
def Cg(ws:List Int)(a:Int):Int×Int:=if 4096<=a/\a<4096+ws.length then(a-4096,0)else(0,2)
def Z1(ws:List Int)(a:Int):Int×Int:=if 4096<=a/\a<4096+ws.length then(ws.getD (a-4096).toNat 0,0)else(0,2)
def BY(ws:List Int)(a n:Int):List Int×Int:=if n<0 then([],1)else if 4096<=a/\a-4096+n<=ws.length then((ws.drop (a-4096).toNat).take n.toNat,0)else([],2)
def ZT(ws:List Int)(a:Int)(l:List Int):List Int×Int:=if 4096<=a/\a-4096+l.length<=ws.length then(Cf ws (a-4096).toNat l,0)else([],2)
def BL(ws:List Int)(a v:Int):List Int×Int:=ZT ws a [v]
def moveA(ws:List Int)(a b n:Int):List Int×Int:=if(BY ws b n).2≠0 then([],(BY ws b n).2)else ZT ws a (BY ws b n).1
def Z5G ws a n:(BY ws a n).1.length<=ws.length:=by unfold BY;split;simp;split;simp;omega;simp
def Z9k{ws a n}(h:(Zx ws a n).2=Y):(Zx ws a n).1=a-4096/\4096<=a/\a<=4096+ws.length/\a-4096+n<=ws.length:=by unfold Zx at h⊢;split at h;rename_i b;rw[if_pos b];simp at h;simp;omega;simp at h
def Z6Q{ws a n}(h:(Zx ws a n).2=L):¬ (4096<=a/\a<=4096+ws.length/\a-4096+n<=ws.length):=by unfold Zx at h;split at h;simp at h;omega;omega
def Z8j{ws a}(h:(Cg ws a).2=0):(Cg ws a).1=a-4096/\4096<=a/\a<4096+ws.length:=by unfold Cg at h⊢;split at h;rename_i b;rw[if_pos b];exact⟨rfl,b⟩;simp at h
def Z8d{ws a}(h:¬ (Cg ws a).2=0):¬ (4096<=a/\a<4096+ws.length)/\(Cg ws a).2=2:=by unfold Cg at h⊢;split at h;simp at h;rename_i b;rw[if_neg b];exact⟨b,rfl⟩
def DU(ws:List Int)(a n:Int)(hw:ws.length<=1048576)(h0:0<=a/\a<=18446744073709551615):GP 164 [Z3 ws,u64 a,int n] Y (.tu [int (Zx ws a n).1,bool (Zx ws a n).2]) []:=by have e {h_ c_ p_} (f:Fq h_ c_ p_):=FlG 14 (!decide (a<4096)) wdv ws (FvG 15 (!decide (a<4096)) (↑ws.length) (FvG 16 (!decide (a<4096)) (4096+(ws.length:Int)) f));rcases bb (X (a<4096)||X (4096+(ws.length:Int)<a))with hc0|hc0<;>have b:=hc0<;>simp only[bs]at b;rw[show Zx ws a n=((0:Int),L)from by(simp[Zx, *];omega)];exact gF [] func164 [] (e (Ft 18 hc0 Fz));obtain⟨c,d⟩:=b;rw[show Zx ws a n=(a-(4096:Int),X (n<=(ws.length:Int)-(a-(4096:Int))))from by simp[Zx, *]];exact gF [] func164 [] (e (Ff 18 hc0 (Fv 20 (a-4096) (Fi 21 (a-4096) (Fl 25 wdv ws (Fi 27 ((ws.length:Int)-(a-4096)) Fz))))))
def Z93(ws:List Int)(a:Int)(hw:ws.length<=1048576)(h0:0<=a/\a<=18446744073709551615):GP 190 [Z3 ws,u64 a] Y (.tu [int (Cg ws a).1,int (Cg ws a).2]) []:=by have c {h_ c_ p_} (d:Fq h_ c_ p_):=Fc 11 (@DU ws a (1) aa aa) d;rcases bb (!(Zx ws a 1).2)with hc0|hc0<;>have b:=hc0<;>simp only[bs]at b;rw[show Cg ws a=((0:Int),(2:Int))from by grind[Zx,Cg]];exact gF [] func190 [] (c (Ft 15 hc0 Fz));rw[show Cg ws a=((Zx ws a (1:Int)).1,(0:Int))from by grind[Zx,Cg]];exact gF [] func190 [] (c (Ff 15 hc0 Fz))
def HG(ws:List Int)(a:Int)(hw:ws.length<=1048576)(h0:0<=a/\a<=18446744073709551615):GP 139 [Z3 ws,u64 a] Y (.tu [u64 (Z1 ws a).1,int (Z1 ws a).2]) []:=by rcases bb ((Cg ws a).2 != 0)with hc0|hc0<;>have b:=hc0<;>simp only[bs]at b;have c:=Z8d b;obtain⟨g,h⟩:=c;rw[show Z1 ws a=((0:Int),(Cg ws a).2)from by simp[Z1, *]];exact gF [] func139 [] (Fc 11 (@Z93 ws a aa aa) (Ft 15 hc0 Fz));have d:=Z8j b;obtain⟨i,⟨e,f⟩⟩:=d;rw[show Z1 ws a=(ws.getD (Cg ws a).1.toNat M,(0:Int))from by simp[Z1, *]];refine Zc [((11:Nat),[Hint.call Y (AV.tu [int (Cg ws a).1,int (Cg ws a).2]) []]),((15:Nat),[Hint.br L]),((19:Nat),[Hint.el (wdv (ws.getD (Cg ws a).1.toNat M))])] [] [] dd func139 [] (φ:=GP 190 [Z3 ws,u64 a] Y (AV.tu [int (Cg ws a).1,int (Cg ws a).2]) []/\((Cg ws a).2 != (0:Int))=L/\L=L/\(0:Int)<=(Cg ws a).1/\(Z wdv ws)[(Cg ws a).1.toNat]?=La (wdv (ws.getD (Cg ws a).1.toNat M))) ?_ kr kr;exact⟨(@Z93 (ws) (a) aa aa),aa,rfl,(by exact Zl oq oq oq)⟩
def Z3g(ws:List Int)(a n:Int)(hw:ws.length<=1048576)(h0:0<=a/\a<=18446744073709551615):GP 112 [Z3 ws,u64 a,int n] Y (.tu [Z3 (BY ws a n).1,int (BY ws a n).2]) []:=by rcases bb (X (n<0))with hc0|hc0<;>have hc0p:=hc0<;>simp only[bs]at hc0p;exact gF [] func112 [Y] (Ft 11 hc0 (Fnl (Fa (by simp[BY, *]:[]=Z wdv (BY ws a n).1) (Fa (by simp[BY, *]:1=(BY ws a n).2) Fz))));have Q0 {h_ c_ p_} (r_:Fq h_ c_ p_):=Ff 11 hc0 (Fc 16 (@DU ws a n aa aa) r_);rcases bb (!(Zx ws a n).2)with hc9|hc9<;>have hc9p:=hc9<;>simp only[bs]at hc9p;have hf12:=Z6Q hc9p;exact gF [] func112 [Y] (Q0 (Ft 20 hc9 (Fnl (Fa (by(simp only[BY] ;exact sj):[]=Z wdv (BY ws a n).1) (Fa (by(simp only[BY] ;exact sj):2=(BY ws a n).2) Fz)))));have hf14:=Z9k hc9p;obtain⟨hf14a,⟨hf14ba,⟨hf14bba,hf14bbb⟩⟩⟩:=hf14;rw[show BY ws a n=(Lk (((Zx ws a n).1+n).toNat-(Zx ws a n).1.toNat) (Lg (Zx ws a n).1.toNat ws),(0:Int))from by(simp[BY, *];omega)];exact gF [] func112 [] (Fh 28 [.els (Z wdv (Lk (((Zx ws a n).1+n).toNat-(Zx ws a n).1.toNat) (Lg (Zx ws a n).1.toNat ws)))] (Q0 (Ff 20 hc9 (Fs 21 (Z wdv []) (Fi 26 ((Zx ws a n).1+n) (Fa (by(simp only[Lc];omega):0<=(Zx ws a n).1/\(Zx ws a n).1<=(Zx ws a n).1+n/\(Zx ws a n).1+n<=(↑(Z wdv ws).length:Int)) (Fa (by simp[BY,LN,LM,Lp,LL,wdv,idv]:Lk (((Zx ws a n).1+n).toNat-(Zx ws a n).1.toNat) (Lg (Zx ws a n).1.toNat (Z wdv ws))=Z wdv (Lk (((Zx ws a n).1+n).toNat-(Zx ws a n).1.toNat) (Lg (Zx ws a n).1.toNat ws))) (Fa (by(simp[BY, *];omega):(Z wdv []).length+(Z wdv (Lk (((Zx ws a n).1+n).toNat-(Zx ws a n).1.toNat) (Lg (Zx ws a n).1.toNat ws))).length<=2^30) (Fs 27 (Z wdv (Lk (((Zx ws a n).1+n).toNat-(Zx ws a n).1.toNat) (Lg (Zx ws a n).1.toNat ws))) (Fa (by exact Hr _:Ci (Z wdv (Lk (((Zx ws a n).1+n).toNat-(Zx ws a n).1.toNat) (Lg (Zx ws a n).1.toNat ws)))) Fz))))))))))
def wr{α:Type}(ws l:List α)(i k:Nat):List α:=ws.take i++l.take k++ws.drop (i+k)
def AG{α:Type}(ws l:List α)(i:Nat):wr ws l i 0=ws:=by simp[wr]
def TL{α:Type}(ws l:List α)(i:Nat):wr ws l i l.length=Cf ws i l:=by simp[wr,Cf]
theorem Iw{α:Type}{ws l:List α}{i k:Nat}(h:i+l.length<=ws.length)(hk:k<=l.length):(wr ws l i k).length=ws.length:=by simp[wr];omega
def Nb{α:Type}{ws l:List α}{i:Nat}(h:i+l.length<=ws.length):(Cf ws i l).length=ws.length:=by
 rw[<-TL];exact Iw h (LB _)
theorem SU{α:Type}{ws l:List α}{i k:Nat}(h:i+l.length<=ws.length)(hk:k<=l.length)(j:Nat):(wr ws l i k)[j]?=if j<i then ws[j]? else if j<i+k then l[j-i]? else ws[j]?:=by
 have e:(l.take k).length=k:=by simp;omega
 have:=SK (l:=ws) (xs:=l.take k) (o:=i) oq j;rw[e]at this;rw[wr,this];split
 .rfl
 .split
  .rw[List.getElem?_take_of_lt oq]
  .rfl
def TT{α:Type}{ws l:List α}{i k:Nat}(h:i+l.length<=ws.length)(e:k<l.length)(d:α):(wr ws l i k).set (i+k) (l.getD k d)=wr ws l i (k+1):=by apply List.ext_getElem?;intro j;have f:=Iw h (LR e);rw[LJ,SU h oq,SU h oq,f];by_cases c:i+k=j;subst c;rw[if_pos rfl,if_pos oq,if_neg oq,if_pos oq];simp[Lr,e];rw[if_neg c];by_cases a:j<i;rw[if_pos a,if_pos a];rw[if_neg a,if_neg a];by_cases b:j<i+k;rw[if_pos b,if_pos oq];rw[if_neg b,if_neg oq]
def MB(ws l:List Int)(i:Int)(k:Nat):Tg:=⟨tm 41 [(2,Z3 l),(8,int i),(10,.ow 32024),(11,int k)],[(32024,.arr 35 1 ((wr ws l i.toNat k).map wdv))],60⟩
def Zet(ws l:List Int)(i:Int)(k:Nat)(hw:ws.length<=1048576)(hi:0<=i)(h:i.toNat+l.length<=ws.length)(a:k<l.length):CP (Zm f144 0) (MB ws l i k).st .nrm (MB ws l i (k+1)).st:=by
 have b:=TT h a M;have hn:=Iw h (LR a);have ei:i+k=((i.toNat+k:Nat):Int):=by omega
 exact sF [] (fO 4) (Fh 10039 [.els (Z wdv ((wr ws l i.toNat k).set (↑(i.toNat+k):Int).toNat (l.getD k M)))] (FM 27 28 wdv l k (Fg 34 (by rw[E6 oq oq];omega:Lb.wrap (i+(k:Int))=(↑(i.toNat+k):Int)) (Fek 37 wdv l (↑k) k (Fa (by(simp only[Lc];omega):0<=(↑(i.toNat+k):Int)/\(↑(i.toNat+k):Int).toNat<(Z wdv (wr ws l i.toNat k)).length) (Fa (by(simp only[Lc];omega):(↑(i.toNat+k):Int).toNat<(Z wdv (wr ws l i.toNat k)).length) (Fa (ms:(Z wdv (wr ws l i.toNat k)).set (↑(i.toNat+k):Int).toNat [B1 (l.getD k M)]=Z wdv ((wr ws l i.toNat k).set (↑(i.toNat+k):Int).toNat (l.getD k M))) (Fx 30 k (Fr (35:Int) (Fa (by refine congrArg _ ?_;exact b:Z wdv ((wr ws l i.toNat k).set (↑(i.toNat+k):Int).toNat (l.getD k M))=Z wdv (wr ws l i.toNat (k+1))) Fz))))))))))
def Zcz(ws l:List Int)(i:Int):CP (Zm f144 0) (MB ws l i l.length).st (.ext 0) (Tg.st ⟨tm 41 [(10,.ow 32024)],[(32024,.arr 35 1 ((Cf ws i.toNat l).map wdv))],60⟩):=by
 have hs:=TL ws l i.toNat
 exact sF [] [L,Y] (FO 27 28 wdv l (Fr (35:Int) (Fa (by refine congrArg _ ?_;assumption:Z wdv (wr ws l i.toNat l.length)=Z wdv (Cf ws i.toNat l)) Fz)))
def Zeg(ws l:List Int)(i:Int)(c:ws.length<=1048576)(a:0<=i)(h:i.toNat+l.length<=ws.length):CP (Zi f144 0) (Tg.st ⟨tm 41 [(2,Z3 l),(8,int i),(10,.ow 32024),(11,int 0)],[(32024,.arr 35 1 (ws.map wdv))],60⟩) .nrm (Tg.st ⟨tm 41 [(10,.ow 32024)],[(32024,.arr 35 1 ((Cf ws i.toNat l).map wdv))],60⟩):=by
 have:=Bs (S:=λk=>(MB ws l i k).st) l.length kr (λk b=>Zet ws l i k c a h b) (Zcz ws l i);simp only[MB,AG]at this;exact this
def P1(ws l:List Int)(a:Int)(hw:ws.length<=1048576)(h0:0<=a/\a<=18446744073709551615)(hl:l.length<=1048576):GP 144 [Z3 ws,u64 a,Z3 l] Y (.tu [Z3 (ZT ws a l).1,int (ZT ws a l).2]) []:=by have Q0 {h_ c_ p_} (r_:Fq h_ c_ p_):=Fl 16 wdv l (Fc 17 (@DU ws a ((l.length:Int)) aa aa) r_);rcases bb (!(Zx ws a (l.length:Int)).2)with hc0|hc0<;>have hc0p:=hc0<;>simp only[bs]at hc0p;have hf3:=Z6Q hc0p;exact gF [] func144 [Y] (Q0 (Ft 21 hc0 (Fnl (Fa (by(simp only[ZT] ;exact sj):[]=Z wdv (ZT ws a l).1) (Fa (by(simp only[ZT] ;exact sj):2=(ZT ws a l).2) Fz)))));have hf5:=Z9k hc0p;obtain⟨hf5a,⟨hf5ba,⟨hf5bba,hf5bbb⟩⟩⟩:=hf5;rw[show ZT ws a l=(Cf ws (Zx ws a (l.length:Int)).1.toNat l,(0:Int))from by simp[ZT, *]];exact gF [] func144 [] (Q0 (Ff 21 hc0 (FAx 22 24 wdv ws (by(simp[ZT, *];omega)) (Fu (@Zeg ws l ((Zx ws a (l.length:Int)).1) aa oq oq) (Fa (by exact Hr _:Ci (Z wdv (Cf ws (Zx ws a (l.length:Int)).1.toNat l))) Fz)))))
def Z3B(ws:List Int)(a v:Int)(hw:ws.length<=1048576)(h0:0<=a/\a<=18446744073709551615):GP 116 [Z3 ws,u64 a,u64 v] L (.tu [Z3 (BL ws a v).1,int (BL ws a v).2]) []:=by exact gF [] func116 [] (Fs 11 (Z wdv [v]) (Fc 12 (@P1 ws ([v]) a aa aa (by simp[BL, *])) Fz))
def ZcY(ws:List Int)(a b n:Int)(hw:ws.length<=1048576)(h0:0<=a/\a<=18446744073709551615)(h1:0<=b/\b<=18446744073709551615):GP 187 [Z3 ws,u64 a,u64 b,int n] L (.tu [Z3 (moveA ws a b n).1,int (moveA ws a b n).2]) []:=by have hr:=Z5G ws b n;have d {h_ c_ p_} (e:Fq h_ c_ p_):=Fc 16 (@Z3g ws b n aa aa) e;rcases bb ((BY ws b n).2 != 0)with hc0|hc0<;>have c:=hc0<;>simp only[bs]at c;exact gF [] func187 [Y] (d (Ft 20 hc0 (Fnl (Fa (by simp[moveA, *]:[]=Z wdv (moveA ws a b n).1) (Fa (by simp[moveA, *]:(BY ws b n).2=(moveA ws a b n).2) Fz)))));rw[show moveA ws a b n=ZT ws a (BY ws b n).1 from by simp[moveA, *]];exact gF [] func187 [] (d (Ff 20 hc0 (Fc 25 (@P1 ws ((BY ws b n).1) a aa aa oq) Fz)))
def Ny n:GP 118 [int n] Y (bool (X (0<=n)&&X (n<=2147483647))) []:=by exact gF [] func118 [] Fz
def EI(sp:Int):List Z0->Nat|[]=>0|p::r=>if p.K=3/\p.S=sp then EI sp r+1 else 0
def Z02 sp:∀l,EI sp l<=l.length
 |[]=>LB _
 |p::r=>by
  have:=Z02 sp r;simp only[EI,List.length_cons];split<;>omega
def drop_at{l:List Z0}{k:Nat}(h:k<l.length):l.drop k=l.getD k M::l.drop (k+1):=by rw[List.drop_eq_getElem_cons h];simp[Lr,h]
def OI(l:List Z0)(sp:Int)(n k:Nat):Tg:=⟨tm 37 [(0,ZZ l),(2,int sp),(7,int n),(8,int k)],[],60⟩
def Zi9(l:List Z0)(hl:l.length<=1048576)(sp:Int)(n k:Nat)(hn:n<=k)(hk:k<l.length)(h:(l.getD k M).K=3/\(l.getD k M).S=sp):CP (Zm f119 0) (OI l sp n k).st .nrm (OI l sp (n+1) (k+1)).st:=by let a:=(k:Int)<(l.length:Int);exact sF [] [] (Fl 13 Z0.dv l (FeG 18 (decide a) Z0.dv l (↑k) k (FeG 26 (decide a&&(l.getD k M).K==3) Z0.dv l (↑k) k (Ftb 31 (decide a&&(l.getD k M).K==3&&(l.getD k M).S==sp) (Fx 35 n (Fx 33 k Fz))))))
def Z8J(l:List Z0)(hl:l.length<=1048576)(sp:Int)(n k:Nat)(h:k<l.length->¬ ((l.getD k M).K=3/\(l.getD k M).S=sp)):CP (Zm f119 0) (OI l sp n k).st (.ext 0) (Tg.st ⟨tm 37 [(7,int n)],[],60⟩):=by let a:=(k:Int)<(l.length:Int);exact sF [] [] (Fl 13 Z0.dv l (FeG 18 (decide a) Z0.dv l (↑k) k (FeG 26 (decide a&&(l.getD k M).K==3) Z0.dv l (↑k) k (Ffb 31 (decide a&&(l.getD k M).K==3&&(l.getD k M).S==sp) Fz))))
def Zcr(l:List Z0)(hl:l.length<=1048576) sp:∀(m n k:Nat),l.length-k=m->n<=k->Gg prog f119 0 (OI l sp n k).st (.ext 0) (Tg.st ⟨tm 37 [(7,int ((n+EI sp (l.drop k):Nat):Int))],[],60⟩):=by
 intro m;induction m with
 |zero =>intro n k b a;have e:l.drop k=[]:=List.drop_eq_nil_of_le oq;rw[e];exact .endx (Z8J l hl sp n k (λh=>by omega))
 |succ m c =>
  intro n k b a;rw[drop_at oq,EI];by_cases h:(l.getD k M).K=3/\(l.getD k M).S=sp
  .rw[if_pos h];have:=c (n+1) (k+1) oq oq;rw[show n+1+EI sp (l.drop (k+1))=n+(EI sp (l.drop (k+1))+1)from by omega]at this;exact .next (Zi9 l hl sp n k a oq h) this
  rw[if_neg h];exact .endx (Z8J l hl sp n k (λ_=>h))
def ZiH(l:List Z0)(sp:Int)(k:Nat)(hl:l.length<=1048576):CP (Zi f119 0) (Tg.st ⟨tm 37 [(0,ZZ l),(2,int sp),(7,int 0),(8,int k)],[],60⟩) .nrm (Tg.st ⟨tm 37 [(7,int (EI sp (l.drop k)))],[],60⟩):=by
 have:=(Zcr l hl sp _ 0 k rfl oq).ext kr;rw[Nat.zero_add]at this;exact this
def Z9E(l:List Z0)(i:Nat) sp(hl:l.length<=1048576)(hi:i<l.length):GP 119 [ZZ l,int i,int sp] Y (int (EI sp (l.drop (i+1)))) []:=by exact gF [] func119 [] (Fx 10 i (Fu (@ZiH l sp (i+1) aa) Fz))
def Gc(c:B3)(l:List Z0)(i:Nat)(a:Int):Prop:=
 ((l.getD i M).K=3↔0<a)/\0<=(l.getD i M).S/\(l.getD i M).S<=1/\0<=(l.getD i M).N/\(l.getD i M).N<=2147483647 /\
 0<=(l.getD i M).K/\(l.getD i M).K<=3 /\
 ((l.getD i M).K=0->(l.getD i M).S=0/\(l.getD i M).U=0/\(l.getD i M).N=0) /\
 ((l.getD i M).K=1->0<=(l.getD i M).U/\(l.getD i M).U<=c.pw) /\
 ((l.getD i M).K=2->1<=need c (l.getD i M).U/\need c (l.getD i M).U-1<=EI (l.getD i M).S (l.drop (i+1))) /\
 ((l.getD i M).K=3->(l.getD i M).U=0/\(l.getD i M).N=0)
def Ev(c:B3)(l:List Z0)(i:Nat)(a:Int):Int:=if(l.getD i M).K=2 then need c (l.getD i M).U-1 else max 0 (a-1)
def M4(h:Heap)(i:Nat)(a:Int):Tg:=⟨tm 157 [(1,.pt 8001 0 0),(2,bool L),(3,int a),(4,int i)],[(8001,.box 28 h.cells)],60⟩
def M3 c(n:Int):-1<=need c n/\need c n<=5:=by unfold need;split;rename_i h;have:=BG.1 h.1;split;omega;have h1:0<=(n+c.pw-1)/c.pw:=Lx oq oq;have h2:(n+c.pw-1)/c.pw<6:=LC oq oq;omega;omega
def Z62(h:Heap)(i:Nat)(a:Int)(hl:h.P.length<=1048576)(hi:i<h.P.length)(hd:0<=a/\a<=5)(k:Gc h.C h.P i a):CP (Zm f65 0) (M4 h i a).st .nrm (M4 h (i+1) (Ev h.C h.P i a)).st:=by have hn:=M3 h.C (h.P.getD i M).U;have l:=Z02 (h.P.getD i M).S (h.P.drop (i+1));rw[Ls]at l;unfold Gc at k;let b:=h.P.getD i M;have f {h_ c_ p_} (m:Fq h_ c_ p_):=FN 72 73 79 Z0.dv h.P i (FcG 100 (!(!(b.K==3)==X (0<a)||X (b.S<0)||X (1<b.S))) (λj=>by(try simp only[bs]at j);exact@Ny (b.N)) (Ffb 102 (!(b.K==3)==X (0<a)||X (b.S<0)||X (1<b.S)||!(X (0<=b.N)&&X (b.N<=2147483647))) m));rcases bb ((h.P.getD i M).K==0)with hc0|hc0<;>have c:=hc0<;>simp only[bs]at c;exact sF [] (fO 12) (Fh 105 [.br Y] (f (Fa hc0 (Ffb 109 (!(b.K==0&&(b.S==0&&(b.U==0&&b.N==0)))) (Fi 155 (a-1) (Fgo 156 (if a-1 > 0 then a-1 else 0) (max 0 (a-1)) (Fx 75 i (Fa (by grind[Ev]:max 0 (a-1)=Ev h.C h.P i a) Fz))))))));rcases bb ((h.P.getD i M).K==1)with hc1|hc1<;>have d:=hc1<;>simp only[bs]at d;exact sF [] (fO 18) (Fh 110 [.br Y] (Fh 122 [.br L] (f (Fa hc0 (Fa hc1 (Ffb 105 (X (b.U<0)||X (h.C.pw<b.U)) (Fi 155 (a-1) (Fgo 156 (if a-1 > 0 then a-1 else 0) (max 0 (a-1)) (Fx 75 i (Fa (by grind[Ev]:max 0 (a-1)=Ev h.C h.P i a) Fz))))))))));rcases bb ((h.P.getD i M).K==2)with hc2|hc2<;>have e:=hc2<;>simp only[bs]at e;let g:=need h.C b.U-1;exact sF [] (fO 21) (Fh 110 [.br L] (Fh 123 [.br Y] (Fh 142 [.br L] (f (Fa hc0 (Fa hc1 (Fa hc2 (Fc 129 (@Rx h.C (b.U)) (FcG 138 (!decide (need h.C b.U<1)) (λj=>by(try simp only[bs]at j);exact@Z9E h.P i (b.S) aa aa) (FiG 140 (!decide (need h.C b.U<1)) g (Ffb 105 (X (need h.C b.U<1)||X ((↑(EI b.S (Lg (i+1) h.P)):Int)<need h.C b.U-1)) (Fi 155 g (Fgo 156 (if need h.C b.U-1 > 0 then need h.C b.U-1 else 0) (max 0 g) (Fx 75 i (Fa (by grind[Ev]:max 0 g=Ev h.C h.P i a) Fz)))))))))))))));exact sF [] (fO 15) (Fh 110 [.br L] (Fh 123 [.br L] (Fh 144 [.br Y] (Fh 153 [.br L] (f (Fa hc0 (Fa hc1 (Fa hc2 (Fb ((b.K==3)=Y) (Ffb 105 (b.U != 0||b.N != 0) (Fi 155 (a-1) (Fgo 156 (if a-1 > 0 then a-1 else 0) (max 0 (a-1)) (Fx 75 i (Fa (by grind[Ev]:max 0 (a-1)=Ev h.C h.P i a) Fz))))))))))))))
def ZaC(h:Heap)(i:Nat)(b:Int)(hl:h.P.length<=1048576)(hi:i<h.P.length)(hd:0<=b/\b<=5)(q:¬ Gc h.C h.P i b):CP (Zm f65 0) (M4 h i b).st .ret (Tg.st ⟨tm 157 [(2,bool L)],[],60⟩):=by have hn:=M3 h.C (h.P.getD i M).U;have r:=Z02 (h.P.getD i M).S (h.P.drop (i+1));rw[Ls]at r;unfold Gc at q;let a:=h.P.getD i M;have d {h_ c_ p_} (s:Fq h_ c_ p_):=FN 72 73 79 Z0.dv h.P i (FcG 100 (!(!(a.K==3)==X (0<b)||X (a.S<0)||X (1<a.S))) (λp=>by(try simp only[bs]at p);exact@Ny (a.N)) s);rcases bb (!((h.P.getD i M).K==3)==X (0<b)||X ((h.P.getD i M).S<0)||X (1<(h.P.getD i M).S)||!(X (0<=(h.P.getD i M).N)&&X ((h.P.getD i M).N<=2147483647)))with hc0|hc0<;>have c:=hc0<;>simp only[bs]at c;exact sF [] [] (d (Ft 102 hc0 Fz));obtain⟨⟨⟨e,f⟩,m⟩,⟨n,o⟩⟩:=c;rcases bb ((h.P.getD i M).K==0)with hc1|hc1<;>have g:=hc1<;>simp only[bs]at g;exact sF [] [] (Fh 109 [.br Y] (d (Ff 102 hc0 (Fa hc1 (Ftb 105 (!(a.K==0&&(a.S==0&&(a.U==0&&a.N==0)))) Fz)))));rcases bb ((h.P.getD i M).K==1)with hc2|hc2<;>have j:=hc2<;>simp only[bs]at j;exact sF [] [] (Fh 105 [.br L] (Fh 122 [.br Y] (d (Ff 102 hc0 (Fa hc1 (Fa hc2 (Ftb 110 (X ((h.P.getD i M).U<0)||X (h.C.pw<(h.P.getD i M).U)) Fz)))))));rcases bb ((h.P.getD i M).K==2)with hc3|hc3<;>have k:=hc3<;>simp only[bs]at k;exact sF [] [] (Fh 105 [.br L] (Fh 110 [.br L] (Fh 142 [.br Y] (d (Ff 102 hc0 (Fa hc1 (Fa hc2 (Fa hc3 (Fc 129 (@Rx h.C (a.U)) (FcG 138 (!decide (need h.C a.U<1)) (λp=>by(try simp only[bs]at p);exact@Z9E h.P i (a.S) aa aa) (FiG 140 (!decide (need h.C a.U<1)) (need h.C a.U-1) (Ftb 123 (X (need h.C a.U<1)||X ((↑(EI a.S (Lg (i+1) h.P)):Int)<need h.C a.U-1)) Fz))))))))))));rcases bb ((h.P.getD i M).K==3)with hc4|hc4<;>have l:=hc4<;>simp only[bs]at l;exact sF [] [] (Fh 105 [.br L] (Fh 110 [.br L] (Fh 123 [.br L] (Fh 153 [.br Y] (d (Ff 102 hc0 (Fa hc1 (Fa hc2 (Fa hc3 (Fa hc4 (Ftb 144 (a.U != 0||a.N != 0) Fz)))))))))));exact sF [] [] (Fh 105 [.br L] (Fh 110 [.br L] (Fh 123 [.br L] (Fh 144 [.br L] (d (Ff 102 hc0 (Fa hc1 (Fa hc2 (Fa hc3 (Fa hc4 Fz))))))))))
def Z6D(h:Heap) a:CP (Zm f65 0) (M4 h h.P.length a).st (.ext 0) (Tg.st ⟨tm 157 [],[],60⟩):=by exact sF [] [] (FO 72 73 Z0.dv h.P Fz)
instance (c:B3) (l:List Z0) (i:Nat) (due:Int):Decidable (Gc c l i due):=by unfold Gc;infer_instance
def Gf(c:B3)(l:List Z0):Nat->Nat->Int->Bool|0,_,_=>Y|f+1,i,due=>if i<l.length then X (Gc c l i due)&&Gf c l f (i+1) (Ev c l i due)else Y
def ZjX{c}{l:List Z0}{f i:Nat}{a:Int}(h:l.length<=i):Gf c l f i a=Y:=by
 cases f with|zero=>rfl|succ f=>rw[Gf,if_neg oq]
def Z1V{c}{l:List Z0}{f i:Nat}{a:Int}(h:i<l.length)(hf:l.length<=i+f):Gf c l f i a=(X (Gc c l i a)&&Gf c l (f-1) (i+1) (Ev c l i a)):=by
 cases f with|zero=>omega|succ f=>rw[Gf,if_pos h];rfl
def Z0M{c}{l:List Z0}{f i:Nat}(h:i<l.length)(hf:l.length<=i+f):GI c l f i=(if Ce c l i=0 then L else GI c l (f-1) (i+Ce c l i)):=by
 cases f with|zero=>omega|succ f=>rw[GI,if_pos h];rfl
def Zfv{c}{l:List Z0}:∀{m f g i:Nat},l.length-i<=m->l.length<=i+f->l.length<=i+g->GI c l f i=GI c l g i:=by
 intro m;induction m with
 |zero =>
  intro f g i k b d;have e:∀f,GI c l f i=Y:=by
   intro f;cases f with|zero=>rw[GI,decide_eq_true oq]|succ f=>rw[GI,if_neg oq]
  rw[e,e]
 |succ m j =>intro f g i k b d;by_cases h:i<l.length;rw[Z0M h b,Z0M h d];by_cases a:Ce c l i=0;rw[if_pos a,if_pos a];rw[if_neg a,if_neg a];exact j oq oq oq;exact j oq b d
def getD_at{l:List Z0}{i:Nat}(h:i<l.length):l[i]?=La (l.getD i M):=by simp[Lr,h]
def Zl1{c}{l:List Z0}{sp:Int}(n:sp=0\/sp=1)(q:Z0)(hq:q.S=sp):∀(d f i:Nat),d<=EI sp (l.drop i)->i+d<=l.length->l.length<=i+f ->
  Gf c l f i d=(NS q ((l.drop i).take d)&&Gf c l (f-d) (i+d) 0):=by
 intro d;induction d with
 |zero=>intro f i _ _ _;simp[NS]
 |succ d o =>
  intro f i h h2 m;have j:i<l.length:=by omega
  rw[drop_at j,EI]at h;by_cases g:(l.getD i M).K=3/\(l.getD i M).S=sp;rw[if_pos g]at h;have k:Ev c l i ((d+1:Nat):Int)=(d:Int):=by(unfold Ev;rw[if_neg oq];omega)
  rw[Z1V j m,k,o (f-1) (i+1) oq oq oq,drop_at j,LQ,show f-1-d=f-(d+1)from by omega,show i+1+d=i+(d+1)from by omega];have e:X (Gc c l i ((d+1:Nat):Int))=HC (l.getD i M) q:=by(rw[Lv];simp only[decide_eq_true_eq,HC];unfold Gc;generalize l.getD i M=p at g;obtain⟨a,b,u,v⟩:=p;simp only[Z0.mk.injEq]at g⊢;omega)
  rw[e];simp[NS,Bool.and_assoc];rw[if_neg g]at h;omega
def Z43{sp:Int}{q:Z0}(b:q.S=sp):∀{l:List Z0} {d:Nat},NS q (l.take d)=Y->d<=l.length->d<=EI sp l
 |_,0,_,_=>Nat.zero_le _
 |[],d+1,_,h=>by simp at h
 |p::l,d+1,h,hl=>by
  simp only[NS,LQ,LF,Le]at h;have a:=h.1;simp only[HC,decide_eq_true_eq]at a;have:=Z43 (sp:=sp) b (l:=l) (d:=d) h.2 (by simpa using hl);rw[EI,if_pos (by rw[a];exact⟨rfl,b⟩)];omega
def ZcI{c}{l:List Z0}:∀{m f i:Nat},l.length-i<=m->l.length<=i+f->Gf c l f i 0=GI c l f i:=by
 intro m;induction m with
 |zero =>
  intro f i hm y;rw[ZjX oq];cases f with|zero=>rw[GI,decide_eq_true oq]|succ f=>rw[GI,if_neg oq]
 |succ m ih =>
  intro f i hm y;by_cases z:i<l.length;rotate_left;exact ih oq y;have w:=getD_at z;rw[Z1V z y,Z0M z y];generalize d:l.getD i M=p at w;have j:∀(b:Bool),Ev c l i 0=0->X (Gc c l i 0)=b->Ce c l i=(if b=Y then 1 else 0)->(X (Gc c l i 0)&&Gf c l (f-1) (i+1) (Ev c l i 0))=(if Ce c l i=0 then L else GI c l (f-1) (i+Ce c l i)):=by(intro b h1 h2 h3;rw[h1,h2,h3,ih oq oq];cases b<;>simp)
  by_cases g:p.K=2;rotate_left;have o:Ev c l i 0=0:=by unfold Ev;rw[d,if_neg g];omega
  by_cases k:p.K=0;refine j (Hs p) o ?_ (by rw[Ce,w];simp only[k,if_true]);rw[Lv];simp only[decide_eq_true_eq,Hs];unfold Gc;rw[d];obtain⟨a,b,u,v⟩:=p;simp only[Z0.mk.injEq]at k g⊢;omega;by_cases s:p.K=1;refine j (Np p c) o ?_ (by rw[Ce,w];simp[s]);rw[Lv];simp only[decide_eq_true_eq,Np,Hh,Ng,Le,Lq,beq_iff_eq];unfold Gc;rw[d];omega;refine j L o ?_ (by rw[Ce,w];simp[k,s,g]);simp only[decide_eq_false_iff_not];unfold Gc;rw[d];omega;have o:Ev c l i 0=need c p.U-1:=by unfold Ev;rw[d,if_pos g]
  have n:Gc c l i 0↔GU p c=Y/\need c p.U-1<=EI p.S (l.drop (i+1)):=by(simp only[GU,Hh,Ng,Le,Lq,beq_iff_eq,decide_eq_true_eq];unfold Gc;rw[d];omega)
  have x:Ce c l i=(if GU p c=Y then(if(need c p.U).toNat<=l.length-i/\NS p ((l.drop (i+1)).take ((need c p.U).toNat-1))=Y then(need c p.U).toNat else 0)else 0):=by(rw[Ce,w];simp[g])
  by_cases t:GU p c=Y;have hn:1<=need c p.U/\(p.S=0\/p.S=1):=by(simp only[GU,Hh,Ng,Le,Lq,beq_iff_eq,decide_eq_true_eq]at t;omega)
  have a1:=Z02 p.S (l.drop (i+1));rw[Ls]at a1;rw[x,if_pos t,o];by_cases ht:need c p.U-1<=EI p.S (l.drop (i+1));rw[decide_eq_true (n.2 ⟨t,ht⟩),Lw];have e:need c p.U-1=(((need c p.U).toNat-1:Nat):Int):=by omega
  rw[e,Zl1 hn.2 p rfl _ _ _ oq oq oq];have r:(need c p.U).toNat<=l.length-i:=by omega
  cases htb:NS p ((l.drop (i+1)).take ((need c p.U).toNat-1))with|false=>simp|true =>simp only[r,and_self,if_true];rw[if_neg oq,Lw,ih oq oq,show i+1+((need c p.U).toNat-1)=i+(need c p.U).toNat from by omega];exact Zfv (m:=l.length) oq oq oq
  rw[decide_eq_false (λh=>ht (n.1 h).2),Bool.false_and];have a0:¬ ((need c p.U).toNat<=l.length-i/\NS p ((l.drop (i+1)).take ((need c p.U).toNat-1))=Y):=by(intro h;have:=Z43 (sp:=p.S) (q:=p) rfl h.2 (by rw[Ls];omega);omega)
  rw[if_neg a0];simp;rw[x,if_neg t,decide_eq_false (λh=>t (n.1 h).1)];simp
def Z4t{c l i}{a:Int}(hd:0<=a/\a<=5)(b:Gc c l i a):0<=Ev c l i a/\Ev c l i a<=5:=by have:=M3 c (l.getD i M).U;unfold Gc at b;unfold Ev;split<;>omega
def ZhD(h:Heap)(hl:h.P.length<=1048576):∀(f i:Nat) (a:Int),i<=h.P.length->h.P.length<=i+f->0<=a/\a<=5->Gf h.C h.P f i a=Y->Gg prog f65 0 (M4 h i a).st (.ext 0) (Tg.st ⟨tm 157 [],[],60⟩):=by
 intro f;induction f with
 |zero =>
  intro i a j g c b;have:i=h.P.length:=by omega
  subst this;exact .endx (Z6D h a)
 |succ f k =>
  intro i a j g c b;by_cases e:i<h.P.length
  .rw[Gf,if_pos e,Le]at b;have d:=of_decide_eq_true b.1;exact .next (Z62 h i a hl e c d) (k (i+1) _ oq oq (Z4t c d) b.2)
  have:i=h.P.length:=by omega
  subst this;exact .endx (Z6D h a)
def Zbb(h:Heap)(hl:h.P.length<=1048576):∀(f i:Nat) (a:Int),0<=a/\a<=5->Gf h.C h.P f i a=L->Gg prog f65 0 (M4 h i a).st .ret (Tg.st ⟨tm 157 [(2,bool L)],[],60⟩):=by
 intro f;induction f with
 |zero=>intro i a d b;cases b
 |succ f g =>
  intro i a d b;by_cases e:i<h.P.length;rw[Gf,if_pos e]at b;by_cases c:Gc h.C h.P i a
  .rw[decide_eq_true c,Lw]at b;exact .next (Z62 h i a hl e d c) (g (i+1) _ (Z4t d c) b)
  exact .endr (ZaC h i a hl e d c);rw[Gf,if_neg e]at b;cases b
def Zi8(h:Heap)(hl:h.P.length<=1048576)(a:Gf h.C h.P h.P.length 0 0=Y):CP (Zi f65 0) (Tg.st ⟨tm 157 [(1,.pt 8001 0 0),(2,bool L),(3,int 0),(4,int 0)],[(8001,.box 28 h.cells)],60⟩) .nrm (Tg.st ⟨tm 157 [],[],60⟩):=
 (ZhD h hl _ 0 0 oq oq oq a).ext kr
def ZkS(h:Heap)(hl:h.P.length<=1048576)(a:Gf h.C h.P h.P.length 0 0=L):CP (Zi f65 0) (Tg.st ⟨tm 157 [(1,.pt 8001 0 0),(2,bool L),(3,int 0),(4,int 0)],[(8001,.box 28 h.cells)],60⟩) .ret (Tg.st ⟨tm 157 [(2,bool L)],[],60⟩):=
 (Zbb h hl _ 0 0 oq a).ret kr
theorem Mx l(i:Int):CQ l i=l.getD i.toNat M:=by rw[CQ,Lo];rfl
def I9{h:Heap}:Z8 h=Y↔Zr h.C=Y/\(h.W.length:Int)=h.C.pw*h.C.pg/\(h.P.length:Int)=h.C.pg/\(h.S=0\/h.S=1) /\ (h.B=-1\/(0<=h.B/\h.B<h.P.length/\(h.P.getD h.B.toNat M).K=1))/\Gf h.C h.P h.P.length 0 0=Y:=by rw[ZcI (m:=h.P.length) oq oq];simp only[Z8,Le,Ph,To,Lq,beq_iff_eq,decide_eq_true_eq,Mx];constructor;rintro⟨⟨a,b,c,d⟩,f,e⟩;exact⟨a,b,c,d,by omega,e⟩;rintro⟨a,b,c,d,f,e⟩;exact⟨⟨a,b,c,d⟩,by omega,e⟩
def CJ(h:Heap):GP 65 [h.av] Y (bool (Z8 h)) []:=by
  by_cases m:Zr h.C=Y
  . have y:=HN m;rw[Ln]at y;have z:=BG.1 m;have ei:h.C.pg*h.C.pw=h.C.pw*h.C.pg:=Ln _ _;cases x:Gf h.C h.P h.P.length 0 0 with
    | true => rcases Lu (!Zr h.C||(h.W.length:Int) != h.C.pw*h.C.pg||(h.P.length:Int) != h.C.pg||X (h.S<(0:Int))||X ((1:Int)<h.S))with hc0 | hc0
              . have a:=hc0;simp only[bs]at a;exact gF [] func65 (fO 24) (Fh 21 [.int (h.C.pw*h.C.pg)] (Fc 9 (@GE h.C) (FlG 14 (!!Zr h.C) wdv h.W (Fa (by intro l;(try simp only[bs]at l);rw[E6 oq oq];omega:(!!Zr h.C)=Y->Lb.wrap (h.C.pg*h.C.pw)=h.C.pw*h.C.pg) (FlG 27 (!(!Zr h.C||(h.W.length:Int) != h.C.pw*h.C.pg)) Z0.dv h.P (Ft 42 ‹(!Zr h.C||(h.W.length:Int) != h.C.pw*h.C.pg||(h.P.length:Int) != h.C.pg||X (h.S<0)||X (1<h.S))=Y› (Fa (by exact(Ll.2 (λf=>by obtain⟨n,o,p,r,s,t⟩:=I9.1 f;simp[m]at a;omega)).symm:L=Z8 h) Fz)))))))
              . have a:=hc0;simp only[bs]at a;obtain⟨⟨⟨⟨c,d⟩,e⟩,g⟩,i⟩:=a;have v {h_ c_ p_} (u:Fq h_ c_ p_):=Fc 9 (@GE h.C) (FlG 14 (!!Zr h.C) wdv h.W (Fa (by intro l;(try simp only[bs]at l);rw[E6 oq oq];omega:(!!Zr h.C)=Y->Lb.wrap (h.C.pg*h.C.pw)=h.C.pw*h.C.pg) (FlG 27 (!(!Zr h.C||(h.W.length:Int) != h.C.pw*h.C.pg)) Z0.dv h.P (Ff 42 ‹(!Zr h.C||(h.W.length:Int) != h.C.pw*h.C.pg||(h.P.length:Int) != h.C.pg||X (h.S<0)||X (1<h.S))=L› (FlG 55 (h.B != (-1:Int)&&!decide (h.B<0)) Z0.dv h.P (FeGq 63 (h.B != (-1:Int)&&!(X (h.B<0)||X ((h.P.length:Int)<=h.B))) Z0.dv h.P h.B u))))));rcases bb (h.B != (-1:Int)&&(X (h.B<0)||X ((h.P.length:Int)<=h.B)||(h.P.getD h.B.toNat M).K != 1))with hc1|hc1<;>have b:=hc1<;>simp only[bs]at b
                . obtain⟨j,k⟩:=b;exact gF [] func65 (fO 45) (Fh 21 [.int (h.C.pw*h.C.pg)] (v (Ft 68 hc1 (Fa (by exact(Ll.2 (λf=>by obtain⟨n,o,p,r,s,t⟩:=I9.1 f;omega)).symm:L=Z8 h) Fz))))
                . exact gF [] func65 (fO 50) (Fh 21 [.int (h.C.pw*h.C.pg)] (v (Ff 68 hc1 (Fu (@Zi8 h oq aa) (Fa (by exact(I9.2 ⟨m,by omega,by omega,by omega,by omega,x⟩).symm:Y=Z8 h) Fz)))))
    | false => rcases Lu (!Zr h.C||(h.W.length:Int) != h.C.pw*h.C.pg||(h.P.length:Int) != h.C.pg||X (h.S<(0:Int))||X ((1:Int)<h.S))with hc0 | hc0
               . have a:=hc0;simp only[bs]at a;exact gF [] func65 (fO 24) (Fh 21 [.int (h.C.pw*h.C.pg)] (Fc 9 (@GE h.C) (FlG 14 (!!Zr h.C) wdv h.W (Fa (by intro l;(try simp only[bs]at l);rw[E6 oq oq];omega:(!!Zr h.C)=Y->Lb.wrap (h.C.pg*h.C.pw)=h.C.pw*h.C.pg) (FlG 27 (!(!Zr h.C||(h.W.length:Int) != h.C.pw*h.C.pg)) Z0.dv h.P (Ft 42 ‹(!Zr h.C||(h.W.length:Int) != h.C.pw*h.C.pg||(h.P.length:Int) != h.C.pg||X (h.S<0)||X (1<h.S))=Y› (Fa (by exact(Ll.2 (λf=>by obtain⟨n,o,p,r,s,t⟩:=I9.1 f;simp[m]at a;omega)).symm:L=Z8 h) Fz)))))))
               . have a:=hc0;simp only[bs]at a;obtain⟨⟨⟨⟨c,d⟩,e⟩,g⟩,i⟩:=a;have w {h_ c_ p_} (u:Fq h_ c_ p_):=Fc 9 (@GE h.C) (FlG 14 (!!Zr h.C) wdv h.W (Fa (by intro l;(try simp only[bs]at l);rw[E6 oq oq];omega:(!!Zr h.C)=Y->Lb.wrap (h.C.pg*h.C.pw)=h.C.pw*h.C.pg) (FlG 27 (!(!Zr h.C||(h.W.length:Int) != h.C.pw*h.C.pg)) Z0.dv h.P (Ff 42 ‹(!Zr h.C||(h.W.length:Int) != h.C.pw*h.C.pg||(h.P.length:Int) != h.C.pg||X (h.S<0)||X (1<h.S))=L› (FlG 55 (h.B != (-1:Int)&&!decide (h.B<0)) Z0.dv h.P (FeGq 63 (h.B != (-1:Int)&&!(X (h.B<0)||X ((h.P.length:Int)<=h.B))) Z0.dv h.P h.B u))))));rcases bb (h.B != (-1:Int)&&(X (h.B<0)||X ((h.P.length:Int)<=h.B)||(h.P.getD h.B.toNat M).K != 1))with hc1|hc1<;>have b:=hc1<;>simp only[bs]at b
                 . obtain⟨j,k⟩:=b;exact gF [] func65 (fO 45) (Fh 21 [.int (h.C.pw*h.C.pg)] (w (Ft 68 hc1 (Fa (by exact(Ll.2 (λf=>by obtain⟨n,o,p,r,s,t⟩:=I9.1 f;omega)).symm:L=Z8 h) Fz))))
                 . exact gF [] func65 (fO 50) (Fh 21 [.int (h.C.pw*h.C.pg)] (w (Ff 68 hc1 (Fu (@ZkS h oq aa) (Fa (by exact(Ll.2 (λf=>by have q:=(I9.1 f).2.2.2.2.2;rw[x]at q;cases q)).symm:L=Z8 h) Fz)))))
  . have hf:Zr h.C=L:=by simpa using m
    exact gF [] func65 (fO 24) (Fc 9 (@GE h.C) (FlG 14 (!!Zr h.C) wdv h.W (FlG 27 (!(!Zr h.C||(h.W.length:Int) != Lb.wrap (h.C.pg*h.C.pw))) Z0.dv h.P (Ft 42 (by simp[*]:(!Zr h.C||(h.W.length:Int) != Lb.wrap (h.C.pg*h.C.pw)||(h.P.length:Int) != h.C.pg||X (h.S<0)||X (1<h.S))=Y) (Fa (by exact(Ll.2 (λf=>m (I9.1 f).1)).symm:L=Z8 h) Fz)))))
def Zy(ws:List Int):Prop:=∀w∈ws,0<=w/\w<=18446744073709551615
def Z32{ws}(h:Zy ws)(i:Nat):0<=ws.getD i 0/\ws.getD i 0<=18446744073709551615:=by
 rw[Lo];cases e:ws[i]? with|none=>simp|some x=>exact h x (Lj e)
def G3{ws}(h:Zy ws) a:0<=(Z1 ws a).1/\(Z1 ws a).1<=18446744073709551615:=by unfold Z1;split;exact Z32 h _;simp
def IP(w:Int)(h:0<=w):0<=(Z7 w).1.map/\(Z7 w).1.map<=4294967295:=by unfold Z7;split;exact Z16 w h;simp[CW]
def B4{h:Heap}(c:Z8 h=Y):Zr h.C=Y/\16<=h.C.pw/\h.C.pw<=64/\8<=h.C.pg/\h.C.pg<=64/\(h.W.length:Int)=h.C.pw*h.C.pg/\h.W.length<=4096/\(h.P.length:Int)=h.C.pg/\(h.S=0\/h.S=1):=by simp only[Z8,Le]at c;obtain⟨b,d,e,f⟩:=Ph.1 c.1;have a:=BG.1 b;have:=HN b;exact⟨b,a.1,a.2.1,a.2.2.2.1,a.2.2.2.2,d,by omega,e,f⟩
def GM{c:B3}{a}(e:Zr c=Y)(h:(Z2 c a).2.2=0):0<=(Z2 c a).1/\(Z2 c a).1<c.pg/\0<=(Z2 c a).2.1/\(Z2 c a).2.1<c.pw/\4096<=a/\a<4096+c.pw*c.pg/\a=4096+((Z2 c a).1*c.pw+(Z2 c a).2.1):=by have hb:=BG.1 e;unfold Z2 at h⊢;rw[if_pos e]at h⊢;split at h;rename_i d;rw[if_pos d];simp only;have f:0<=(a-4096)/c.pw:=Lx oq oq;have g:(a-4096)/c.pw<c.pg:=LC oq (by rw[Ln];omega);have i:=Int.emod_nonneg (a-4096) (b:=c.pw) oq;have j:=Int.emod_lt_of_pos (a-4096) (b:=c.pw) oq;have k:=Int.mul_ediv_add_emod (a-4096) c.pw;refine⟨f,g,i,j,d.1,d.2, ?_⟩;rw[Ln]at k;omega;simp at h
def Z9(h:Heap)(a:Int):Zw×Int:=
 if Z8 h=Y then
  (if(Z2 h.C a).2.2=0 then
   (if((h.P.getD (Z2 h.C a).1.toNat M).K=1\/(h.P.getD (Z2 h.C a).1.toNat M).K=2)/\(Z2 h.C a).2.1<(h.P.getD (Z2 h.C a).1.toNat M).U/\(Z7 (Z1 h.W a).1).2=Y then
    (if((h.P.getD (Z2 h.C a).1.toNat M).K=1/\(h.P.getD (Z2 h.C a).1.toNat M).U<(Z2 h.C a).2.1+Z5 (Z7 (Z1 h.W a).1).1) \/
      ((h.P.getD (Z2 h.C a).1.toNat M).K=2/\((Z2 h.C a).2.1≠0\/Z5 (Z7 (Z1 h.W a).1).1≠(h.P.getD (Z2 h.C a).1.toNat M).U))then(CW,19)
     else((Z7 (Z1 h.W a).1).1,0))
    else(CW,19))
   else(CW,2))
 else(CW,1)
def HZ(h:Zw):0<=Z5 h/\Z5 h<=256:=by unfold Z5;split;have:=Gl.1 aa;omega;omega
def Nj(h:Heap)(a:Int)(hw:Zy h.W)(h0:0<=a/\a<=18446744073709551615):GP 91 [h.av,u64 a] Y (.tu [(Z9 h a).1.av,int (Z9 h a).2]) []:=by have hr:=G3 hw a;have hd:=IP (Z1 h.W a).1 hr.1;have hs:=HZ (Z7 (Z1 h.W a).1).1;rcases bb (!Z8 h)with hc0|hc0<;>have g:=hc0<;>simp only[bs]at g;rw[show Z9 h a=(Zw.mk (0:Int) (0:Int) (0:Int),(1:Int))from by simp[Z9,CW, *]];exact gF [] func91 [] (Fc 16 (@CJ h) (Ft 17 hc0 Fz));have a1:=B4 g;obtain⟨a3,⟨a2,⟨z,⟨t,⟨o,⟨m,⟨k,⟨e,f⟩⟩⟩⟩⟩⟩⟩⟩:=a1;have Q0 {h_ c_ p_} (u:Fq h_ c_ p_):=Fc 16 (@CJ h) (Ff 17 hc0 (Fc 23 (@Hn h.C a oq oq) u));rcases bb ((Z2 h.C a).2.2 != 0)with hc18|hc18<;>have b:=hc18<;>simp only[bs]at b;rw[show Z9 h a=(Zw.mk (0:Int) (0:Int) (0:Int),(2:Int))from by simp[Z9,CW, *]];exact gF [] func91 [] (Q0 (Ft 28 hc18 Fz));have r:=GM aa b;obtain⟨a0,⟨y,⟨s,⟨n,⟨l,⟨i,j⟩⟩⟩⟩⟩⟩:=r;have Q1 {h_ c_ p_} (u:Fq h_ c_ p_):=Q0 (Ff 28 hc18 (Fe 33 Z0.dv h.P ((Z2 h.C a).1) (Fc 39 (@HG h.W a oq aa) (Fc 44 (@Ac ((Z1 h.W a).1) oq oq) u))));rcases bb ((h.P.getD (Z2 h.C a).1.toNat M).K != 1&&(h.P.getD (Z2 h.C a).1.toNat M).K != 2||X ((h.P.getD (Z2 h.C a).1.toNat M).U<=(Z2 h.C a).2.1)||!(Z7 (Z1 h.W a).1).2)with hc27|hc27<;>have c:=hc27<;>simp only[bs]at c;rw[show Z9 h a=(Zw.mk (0:Int) (0:Int) (0:Int),(19:Int))from by grind[Z9,CW]];exact gF [] func91 [] (Q1 (Ft 64 hc27 Fz));obtain⟨⟨p,q⟩,v⟩:=c;have Q2 {h_ c_ p_} (u:Fq h_ c_ p_):=Q1 (Ff 64 hc27 (Fc 67 (@I8 ((Z7 (Z1 h.W a).1).1) aa) (FiG 74 ((h.P.getD (Z2 h.C a).1.toNat M).K==1) ((Z2 h.C a).2.1+Z5 (Z7 (Z1 h.W a).1).1) u)));rcases bb ((h.P.getD (Z2 h.C a).1.toNat M).K==1&&X ((h.P.getD (Z2 h.C a).1.toNat M).U<(Z2 h.C a).2.1+Z5 (Z7 (Z1 h.W a).1).1)||(h.P.getD (Z2 h.C a).1.toNat M).K==2&&((Z2 h.C a).2.1 != 0||Z5 (Z7 (Z1 h.W a).1).1 != (h.P.getD (Z2 h.C a).1.toNat M).U))with hc40|hc40<;>have d:=hc40<;>simp only[bs]at d;rw[show Z9 h a=(Zw.mk (0:Int) (0:Int) (0:Int),(19:Int))from by(simp only[Z9,CW] ;exact sj)];exact gF [] func91 [] (Q2 (Ft 93 hc40 Fz));obtain⟨w,x⟩:=d;rw[show Z9 h a=((Z7 (Z1 h.W a).1).1,(0:Int))from by grind[Z9,CW]];exact gF [] func91 [] (Q2 (Ff 93 hc40 Fz))
abbrev aP(h:Heap)(a:Int):Z0:=h.P.getD (Z2 h.C a).1.toNat M
end Go.Proofs.YtgedmeaemofdkaaGreat
namespace Go.Proofs.YtgedmeaemofdkaaGreat
open Go.Sx Go.RowKit
def ZkT{n:Nat}{l}(h:shp prog (n+2) 22 l):∃m:List Int,l=[.sl 1 (m.map idv)]/\m.length<=140737488355328:=by
 have e:shp prog (n+2) 22 l=(∃els:List (List DV),l=[.sl 1 els]/\els.length<=140737488355328/\∀x∈els,shp prog (n+1) 3 x):=by kernel_rfl
 rw[e]at h;obtain⟨els,rfl,a,b⟩:=h;obtain⟨m,rfl⟩:=Z6E (f:=idv) λx c=>by(obtain⟨v,rfl,_⟩:=Zbz (b x c);exact⟨v,rfl⟩)
 exact⟨m,rfl,by simpa using a⟩
end Go.Proofs.YtgedmeaemofdkaaGreat
namespace Go.Proofs.YtgedmeaemofdkaaGreat
open Go.Sx
def Z2o{w}(h:(Z7 w).2=Y):ZR (Z7 w).1=Y:=by unfold Z7 at h⊢;split at h;rename_i a;rw[if_pos a];have:=a.1;unfold Zt at this;split at this;assumption;simp at this;cases h
def TU{h a}(e:(Z9 h a).2=0):Z8 h=Y/\(Z2 h.C a).2.2=0/\4096<=a/\a<8192/\ZR (Z9 h a).1=Y/\0<=(Z9 h a).1.K/\(Z9 h a).1.K<=3/\0<=(Z9 h a).1.length/\(Z9 h a).1.length<=255:=by
 have b:Z8 h=Y/\(Z2 h.C a).2.2=0/\ZR (Z9 h a).1=Y:=by(unfold Z9 at e⊢;split at e;rename_i c;split at e;rename_i d;split at e;rename_i f;split at e;simp at e;rename_i j;rw[if_pos c,if_pos d,if_pos f,if_neg j];exact⟨c,d,Z2o f.2.2⟩;simp at e;simp at e;simp at e)
 obtain⟨k1,g,i⟩:=b;have p:=B4 k1;have o:=GM p.1 g;have v:=Gl.1 i;have ar:=HN p.1;exact⟨k1,g,o.2.2.2.2.1,by omega,i,v.1,v.2.1,v.2.2.1,v.2.2.2.1⟩
def IB{h:Heap}(d:Zy h.W) a:0<=(Z9 h a).1.map/\(Z9 h a).1.map<=4294967295:=by
 have c:=G3 d a;have b:=IP (Z1 h.W a).1 c.1;unfold Z9;repeat' split
 all_goals first|exact b|simp[CW]
def Zs(h:Heap)(a:Int):Zw×Int:=if Z8 h=Y then(if a=0 then(CW,5)else if(Z9 h a).2=0/\(Z9 h a).1.K=0 then(CW,4)else Z9 h a)else(CW,1)
def OU{h:Heap}(b:Zy h.W) a:0<=(Zs h a).1.map/\(Zs h a).1.map<=4294967295:=by
 have:=IB b a;unfold Zs;repeat' split
 all_goals first|exact this|simp[CW]
def NA{h a}(e:(Zs h a).2=0):Zs h a=Z9 h a/\(Z9 h a).2=0/\Z8 h=Y/\(Z2 h.C a).2.2=0/\4096<=a/\a<8192/\ZR (Zs h a).1=Y/\1<=(Zs h a).1.K/\(Zs h a).1.K<=3/\0<=(Zs h a).1.length/\(Zs h a).1.length<=255:=by
 have b:Zs h a=Z9 h a/\(Z9 h a).2=0/\(Z9 h a).1.K≠0:=by(unfold Zs at e⊢;split at e;rename_i f;split at e;simp at e;rename_i g;split at e;simp at e;rename_i c;rw[if_pos f,if_neg g,if_neg c];exact⟨rfl,e,λh=>c ⟨e,h⟩⟩;simp at e)
 obtain⟨k1,d,k3⟩:=b;have k:=TU d;rw[k1];exact⟨rfl,d,k.1,k.2.1,k.2.2.1,k.2.2.2.1,k.2.2.2.2.1,by omega,k.2.2.2.2.2.2.1,k.2.2.2.2.2.2.2.1,k.2.2.2.2.2.2.2.2⟩
def Nf(h:Heap)(a:Int)(hw:Zy h.W)(h0:0<=a/\a<=18446744073709551615):GP 45 [h.av,u64 a] Y (.tu [(Zs h a).1.av,int (Zs h a).2]) []:=by rcases bb (!Z8 h)with hc0|hc0<;>have c:=hc0<;>simp only[bs]at c;rw[show Zs h a=(Zw.mk (0:Int) (0:Int) (0:Int),(1:Int))from by simp[Zs,CW, *]];exact gF [] func45 [] (Fc 9 (@CJ h) (Ft 10 hc0 Fz));rcases bb (a==0)with hc1|hc1<;>have d:=hc1<;>simp only[bs]at d;rw[show Zs h a=(Zw.mk (0:Int) (0:Int) (0:Int),(5:Int))from by simp[Zs,CW, *]];exact gF [] func45 [] (Fc 9 (@CJ h) (Ff 10 hc0 (Ft 13 hc1 Fz)));have g {h_ c_ p_} (i:Fq h_ c_ p_):=Fc 9 (@CJ h) (Ff 10 hc0 (Ff 13 hc1 (Fc 18 (@Nj h a aa aa) i)));rcases bb ((Z9 h a).2==0&&(Z9 h a).1.K==0)with hc2|hc2<;>have b:=hc2<;>simp only[bs]at b;obtain⟨e,f⟩:=b;rw[show Zs h a=(Zw.mk (0:Int) (0:Int) (0:Int),(4:Int))from by simp[Zs,CW, *]];exact gF [] func45 [] (g (Ft 27 hc2 Fz));rw[show Zs h a=Z9 h a from by(simp[Zs,CW, *];omega)];exact gF [] func45 [] (g (Ff 27 hc2 Fz))
def G7(h:Heap)(a i:Int):Int×Int:=if(Zs h a).2=0 then(if 0<=i/\i<(Zs h a).1.length then Z1 h.W (a+1+i)else(0,2))else(0,(Zs h a).2)
def Z86(h:Heap)(a i:Int)(hw:Zy h.W)(h0:0<=a/\a<=18446744073709551615):GP 115 [h.av,u64 a,int i] Y (.tu [u64 (G7 h a i).1,int (G7 h a i).2]) []:=by have z {h_ c_ p_} (r_:Fq h_ c_ p_):=Fc 13 (@Nf h a aa aa) r_;rcases bb ((Zs h a).2 != 0)with hc0|hc0<;>have m:=hc0<;>simp only[bs]at m;rw[show G7 h a i=((0:Int),(Zs h a).2)from by simp[G7, *]];exact gF [] func115 [] (z (Ft 17 hc0 Fz));have a1:=NA m;obtain⟨a3,⟨a2,⟨k,⟨v,⟨s,⟨q,⟨o,⟨l,⟨g,⟨c,d⟩⟩⟩⟩⟩⟩⟩⟩⟩⟩:=a1;have t:=B4 k;obtain⟨a0,⟨y,⟨u,⟨r,⟨p,⟨n,⟨j,⟨e,f⟩⟩⟩⟩⟩⟩⟩⟩:=t;rcases bb (X (i<0)||X ((Zs h a).1.length<=i))with hc20|hc20<;>have b:=hc20<;>simp only[bs]at b;rw[show G7 h a i=((0:Int),(2:Int))from by(simp only[G7] ;exact sj)];exact gF [] func115 [] (z (Ff 17 hc0 (Ft 26 hc20 Fz)));obtain⟨w,x⟩:=b;rw[show G7 h a i=Z1 h.W (a+(1:Int)+i)from by(simp only[G7] ;exact sj)];exact gF [] func115 [] (z (Ff 17 hc0 (Ff 26 hc20 (Fv 30 (a+1) (Fv 32 i (Fv 33 (a+1+i) (Fc 34 (@HG h.W (a+1+i) oq oq) Fz)))))))
def ZaS{h a i}(e:(G7 h a i).2=0):(Zs h a).2=0/\0<=i/\i<(Zs h a).1.length:=by unfold G7 at e;split at e;split at e;exact⟨aa,aa⟩;simp at e;exact absurd e aa
def CY(h:Heap)(a i v:Int):Heap×Int:=if(G7 h a i).2=0 then({h with W:=(BL h.W (a+1+i) v).1},0)else(B7,(G7 h a i).2)
def Z8S(h:Heap)(a i v:Int)(hw:Zy h.W)(h0:0<=a/\a<=18446744073709551615):GP 59 [h.av,u64 a,int i,u64 v] L (.tu [(CY h a i v).1.av,int (CY h a i v).2]) []:=by have Q0 {h_ c_ p_} (r_:Fq h_ c_ p_):=Fc 16 (@Z86 h a i aa aa) r_;rcases bb ((G7 h a i).2 != 0)with hc0|hc0<;>have m:=hc0<;>simp only[bs]at m;exact gF [] func59 [Y] (Q0 (Ft 20 hc0 (Fnl (Fnl (Fa (by simp[CY,B7, *]:0=(CY h a i v).1.C.pw) (Fa (by simp[CY,B7, *]:0=(CY h a i v).1.C.pg) (Fa (by simp[CY,B7, *]:[]=Z wdv (CY h a i v).1.W) (Fa (by simp[CY,B7, *]:[]=Z Z0.dv (CY h a i v).1.P) (Fa (by simp[CY,B7, *]:0=(CY h a i v).1.S) (Fa (by simp[CY,B7, *]:0=(CY h a i v).1.B) (Fa (by simp[CY,B7, *]:(G7 h a i).2=(CY h a i v).2) Fz)))))))))));have a2:=ZaS m;obtain⟨x,⟨a3,a4⟩⟩:=a2;have t:=NA x;obtain⟨a0,⟨y,⟨d,⟨r,⟨p,⟨n,⟨k,⟨f,⟨e,⟨b,c⟩⟩⟩⟩⟩⟩⟩⟩⟩⟩:=t;have u:=B4 d;obtain⟨a1,⟨z,⟨w,⟨s,⟨q,⟨o,⟨l,⟨g,j⟩⟩⟩⟩⟩⟩⟩⟩:=u;rw[show CY h a i v=(Heap.mk h.C (BL h.W (a+(1:Int)+i) v).1 h.P h.S h.B,(0:Int))from by simp[CY,B7, *]];exact gF [] func59 [] (Q0 (Ff 20 hc0 (Fv 27 (a+1) (Fv 29 i (Fv 30 (a+1+i) (Fc 32 (@Z3B h.W (a+1+i) v oq oq) Fz))))))
def BW(h:Heap)(a:Int):List Int×Int:=if(Zs h a).2=0 then BY h.W (a+1) (Zs h a).1.length else([],(Zs h a).2)
def Z3F(h:Heap)(a:Int)(hw:Zy h.W)(h0:0<=a/\a<=18446744073709551615):GP 56 [h.av,u64 a] L (.tu [Z3 (BW h a).1,int (BW h a).2]) []:=by have y {h_ c_ p_} (r_:Fq h_ c_ p_):=Fc 11 (@Nf h a aa aa) r_;rcases bb ((Zs h a).2 != 0)with hc0|hc0<;>have k:=hc0<;>simp only[bs]at k;exact gF [] func56 [Y] (y (Ft 15 hc0 (Fnl (Fa (by simp[BW, *]:[]=Z wdv (BW h a).1) (Fa (by simp[BW, *]:(Zs h a).2=(BW h a).2) Fz)))));have w:=NA k;obtain⟨z,⟨x,⟨i,⟨t,⟨q,⟨o,⟨m,⟨j,⟨f,⟨b,c⟩⟩⟩⟩⟩⟩⟩⟩⟩⟩:=w;have r:=B4 i;obtain⟨v,⟨u,⟨s,⟨p,⟨n,⟨l,⟨g,⟨d,e⟩⟩⟩⟩⟩⟩⟩⟩:=r;rw[show BW h a=BY h.W (a+(1:Int)) (Zs h a).1.length from by simp[BW, *]];exact gF [] func56 [] (y (Ff 15 hc0 (Fv 20 (a+1) (Fc 23 (@Z3g h.W (a+1) ((Zs h a).1.length) oq oq) Fz))))
def BF(a:Zw):List Int:=(Zt a).1::O a.length.toNat 0
def BI(h:Heap)(a:Int)(b:Zw):Heap×Int:=if Z8 h=Y/\ZR b=Y then(if(ZT h.W a (BF b)).2=0 then({h with W:=(ZT h.W a (BF b)).1},0)else(B7,(ZT h.W a (BF b)).2))else(B7,1)
def Z3N{a}(h:(Zt a).2=0):ZR a=Y/\0<=a.length/\a.length<=255:=by unfold Zt at h;split at h;rename_i b;have:=Gl.1 b;exact⟨b,this.2.2.1,this.2.2.2.1⟩;simp at h
def Zbn{a:Zw}(h:ZR a=Y):(Zt a).2=0:=by simp[Zt,h]
def Z4q{h:Heap}{a b}(e:Z8 h=L\/¬ (Zt b).2=0):BI h a b=(B7,1):=by unfold BI;rw[if_neg];rintro⟨c,d⟩;rcases e with e|e;rw[c]at e;cases e;exact e (Zbn d)
def Z7b(h:Heap)(a:Int)(b:Zw)(hw:Zy h.W)(h0:0<=a/\a<=18446744073709551615)(hm:0<=b.map/\b.map<=4294967295):GP 168 [h.av,u64 a,b.av] L (.tu [(BI h a b).1.av,int (BI h a b).2]) []:=by have v {h_ c_ p_} (u:Fq h_ c_ p_):=Fc 13 (@M6 b aa) (Fc 17 (@CJ h) u);rcases bb (!Z8 h||(Zt b).2 != 0)with hc0|hc0<;>have c:=hc0<;>simp only[bs]at c;have y:=Z4q (a:=a) c;exact gF [] func168 (fO 2) (v (Ft 22 hc0 (Fnl (Fnl (Fa (by grind[BI,B7,BF]:0=(BI h a b).1.C.pw) (Fa (by grind[BI,B7,BF]:0=(BI h a b).1.C.pg) (Fa (by grind[BI,B7,BF]:[]=Z wdv (BI h a b).1.W) (Fa (by grind[BI,B7,BF]:[]=Z Z0.dv (BI h a b).1.P) (Fa (by grind[BI,B7,BF]:0=(BI h a b).1.S) (Fa (by grind[BI,B7,BF]:0=(BI h a b).1.B) (Fbs (1=(BI h a b).2) Fz)))))))))));obtain⟨g,i⟩:=c;have s:=B4 g;obtain⟨x,⟨t,⟨q,⟨n,⟨l,⟨k,⟨f,⟨d,e⟩⟩⟩⟩⟩⟩⟩⟩:=s;have m:=Z3N i;obtain⟨r,⟨o,p⟩⟩:=m;have w {h_ c_ p_} (u:Fq h_ c_ p_):=v (Ff 22 hc0 (Fs 29 (Z wdv [(Zt b).1]) (Fa (by(simp[BI,B7,BF, *];omega):0<=b.length/\(↑(Z wdv [(Zt b).1]).length:Int)+b.length<=2^30) (Fa (by simp[BI,B7,BF,LN,LM,Lp,LL,wdv,idv]:Z wdv [(Zt b).1]++O b.length.toNat [B1 0]=Z wdv ([(Zt b).1]++O b.length.toNat 0)) (Fc 33 (@P1 h.W ([(Zt b).1]++O b.length.toNat 0) a oq aa (by(simp[BI,B7,BF, *];omega))) u)))));rcases bb ((ZT h.W a ([(Zt b).1]++O b.length.toNat 0)).2 != 0)with hc37|hc37<;>have j:=hc37<;>simp only[bs]at j;exact gF [] func168 (fO 2) (Fh 32 [.els (Z wdv ([(Zt b).1]++O b.length.toNat 0))] (w (Ft 37 hc37 (Fnl (Fnl (Fa (by(simp only[BI,B7,BF] ;exact sj):0=(BI h a b).1.C.pw) (Fa (by(simp only[BI,B7,BF] ;exact sj):0=(BI h a b).1.C.pg) (Fa (by(simp only[BI,B7,BF] ;exact sj):[]=Z wdv (BI h a b).1.W) (Fa (by(simp only[BI,B7,BF] ;exact sj):[]=Z Z0.dv (BI h a b).1.P) (Fa (by(simp only[BI,B7,BF] ;exact sj):0=(BI h a b).1.S) (Fa (by(simp only[BI,B7,BF] ;exact sj):0=(BI h a b).1.B) (Fa (by(simp only[BI,B7,BF] ;exact sj):(ZT h.W a ([(Zt b).1]++O b.length.toNat 0)).2=(BI h a b).2) Fz))))))))))));rw[show BI h a b=(Heap.mk h.C (ZT h.W a ([(Zt b).1]++O b.length.toNat (0:Int))).1 h.P h.S h.B,(0:Int))from by(simp only[BI,B7,BF] ;exact sj)];exact gF [] func168 [] (Fh 32 [.els (Z wdv ([(Zt b).1]++O b.length.toNat 0))] (w (Ff 37 hc37 Fz)))
def HW(l:List Z0)(i k:Nat):Bool:=(LA k).all λj=>(l.getD (i+j) M).K==0
def Sb{l}{i k:Nat}:HW l i k=Y↔∀j,j<k->(l.getD (i+j) M).K=0:=by simp[HW]
def ZM(l:List Z0)(i k:Nat)(p q:Z0):List Z0:=(wr l (O k q) i k).set i p
def EF(l:List Z0)(i:Int)(k:Int)(p q:Z0):List Z0×Int:=if 0<=i/\i<l.length/\k<=l.length-i then(if HW l i.toNat k.toNat=Y then(ZM l i.toNat k.toNat p q,0)else([],20))else([],2)
def IC(l:List Z0):Ci (l.map Z0.dv):=by intro e b x a;obtain⟨y,_,rfl⟩:=List.mem_map.1 b;simp[Z0.dv]at a;rcases a with rfl|rfl|rfl|rfl<;>exact⟨_,rfl⟩
def ZgV{α:Type}{l m:List α}{i j:Nat}{d:α}(h:l[i]?=m[j]?):l.getD i d=m.getD j d:=by rw[Lo,Lo,h]
def Sp(l:List Z0)(i:Int)(k:Int)(p q:Z0)(n:Nat):Tg:=⟨tm 57 [(1,int i),(2,int k),(8,.pt 8008 0 0),(9,.pt 8009 0 0),(10,.d (.sl 0 [])),(11,int 0),(12,.ow 24032),(13,int n)],
 [(24032,.arr 86 4 ((wr l (O k.toNat q) i.toNat n).map Z0.dv)),(8008,.box 86 [int p.K,int p.S,int p.U,int p.N]),(8009,.box 86 [int q.K,int q.S,int q.U,int q.N])],60⟩
section
variable (l:List Z0) (i:Int) (k:Int) (p q:Z0) (n:Nat) (hl:l.length<=1048576) (c:0<=i) (a:0<=k) (b:i.toNat+k.toNat<=l.length)
include hl c a b
theorem Z8X(hn:n<k.toNat):(wr l (O k.toNat q) i.toNat n).getD (i.toNat+n) M=l.getD (i.toNat+n) M:=by refine ZgV ?_;rw[SU (by simpa using b) qo,if_neg oq,if_neg oq]
theorem Z4o(f:n<k.toNat)(m:(l.getD (i.toNat+n) M).K=0):CP (Zm f227 0) (Sp l i k p q n).st .nrm (Sp l i k p q (n+1)).st:=by
 have e:=Iw (ws:=l) (l:=O k.toNat q) (i:=i.toNat) (k:=n) (by simpa using b) qo;have h:=Z8X l i k q n hl c a b f;have g:=TT (ws:=l) (l:=O k.toNat q) (i:=i.toNat) (k:=n) (by simpa using b) qo M;have j:(O k.toNat q).getD n M=q:=by simp[Lr,f]
 rw[j]at g;have ei:i+n=((i.toNat+n:Nat):Int):=by omega
 rw[<-h]at m;rcases bb (((wr l (O k.toNat q) i.toNat n).getD (↑(i.toNat+n):Int).toNat M).K != 0)with hc0|hc0<;>have d:=hc0<;>simp only[bs]at d;contradiction;exact sF [] (fO 8) (Fh 10051 [.els (Z Z0.dv ((wr l (O k.toNat q) i.toNat n).set (↑(i.toNat+n):Int).toNat q))] (Ftb 35 (X ((n:Int)<k)) (Fg 41 (by rw[E6 oq oq];omega:Lb.wrap (i+(n:Int))=(↑(i.toNat+n):Int)) (Fmq 44 Z0.dv (wr l (O k.toNat q) i.toNat n) (↑(i.toNat+n):Int) (Ff 45 hc0 (Fg 49 (by rw[E6 oq oq];omega:Lb.wrap (i+(n:Int))=(↑(i.toNat+n):Int)) (Fa (by(simp only[Lc];omega):0<=(↑(i.toNat+n):Int)/\(↑(i.toNat+n):Int).toNat<(Z Z0.dv (wr l (O k.toNat q) i.toNat n)).length) (Fa (by(simp only[Lc];omega):(↑(i.toNat+n):Int).toNat<(Z Z0.dv (wr l (O k.toNat q) i.toNat n)).length) (Fa (by rw[Lp];rfl:(Z Z0.dv (wr l (O k.toNat q) i.toNat n)).set (↑(i.toNat+n):Int).toNat [Zn q.K,Zn q.S,Zn q.U,Zn q.N]=Z Z0.dv ((wr l (O k.toNat q) i.toNat n).set (↑(i.toNat+n):Int).toNat q)) (Fx 37 n (Fr (86:Int) (Fa (by refine congrArg _ ?_;exact g:Z Z0.dv ((wr l (O k.toNat q) i.toNat n).set (↑(i.toNat+n):Int).toNat q)=Z Z0.dv (wr l (O k.toNat q) i.toNat (n+1))) Fz))))))))))))
theorem Zda(h:n<k.toNat)(g:¬ (l.getD (i.toNat+n) M).K=0):CP (Zm f227 0) (Sp l i k p q n).st .ret (Tg.st ⟨tm 57 [(10,.d (.sl 0 [])),(11,int 20)],[],60⟩):=by
 have e:=Iw (ws:=l) (l:=O k.toNat q) (i:=i.toNat) (k:=n) (by simpa using b) qo;have f:=Z8X l i k q n hl c a b h;have ei:i+n=((i.toNat+n:Nat):Int):=by omega
 rw[<-f]at g;rcases bb (((wr l (O k.toNat q) i.toNat n).getD (↑(i.toNat+n):Int).toNat M).K != 0)with hc0|hc0<;>have d:=hc0<;>simp only[bs]at d;exact sF [] [] (Ftb 35 (X ((n:Int)<k)) (Fg 41 (by rw[E6 oq oq];omega:Lb.wrap (i+(n:Int))=(↑(i.toNat+n):Int)) (Fmq 44 Z0.dv (wr l (O k.toNat q) i.toNat n) (↑(i.toNat+n):Int) (Ft 45 hc0 Fz))));contradiction
omit hl c b in
theorem Zb5:CP (Zm f227 0) (Sp l i k p q k.toNat).st (.ext 0) (Tg.st ⟨tm 57 [(1,int i),(8,.pt 8008 0 0),(12,.ow 24032)],[(24032,.arr 86 4 ((wr l (O k.toNat q) i.toNat k.toNat).map Z0.dv)),(8008,.box 86 [int p.K,int p.S,int p.U,int p.N])],60⟩):=by exact sF [] [] (Ffb 35 (X ((k.toNat:Int)<k)) Fz)
theorem Z7V(e:HW l i.toNat k.toNat=Y):CP (Zi f227 0) (Tg.st ⟨tm 57 [(1,int i),(2,int k),(8,.pt 8008 0 0),(9,.pt 8009 0 0),(10,.d (.sl 0 [])),(11,int 0),(12,.ow 24032),(13,int 0)], [(24032,.arr 86 4 (l.map Z0.dv)),(8008,.box 86 [int p.K,int p.S,int p.U,int p.N]),(8009,.box 86 [int q.K,int q.S,int q.U,int q.N])],60⟩) .nrm (Tg.st ⟨tm 57 [(1,int i),(8,.pt 8008 0 0),(12,.ow 24032)],[(24032,.arr 86 4 ((wr l (O k.toNat q) i.toNat k.toNat).map Z0.dv)),(8008,.box 86 [int p.K,int p.S,int p.U,int p.N])],60⟩):=by
 have:=Bs (S:=λn=>(Sp l i k p q n).st) k.toNat kr (λn d=>Z4o l i k p q n hl c a b d (Sb.1 e n d)) (Zb5 l i k p q a)
 simp only[Sp,AG]at this;exact this
theorem Zf9(o:HW l i.toNat k.toNat=L):CP (Zi f227 0) (Tg.st ⟨tm 57 [(1,int i),(2,int k),(8,.pt 8008 0 0),(9,.pt 8009 0 0),(10,.d (.sl 0 [])),(11,int 0),(12,.ow 24032),(13,int 0)], [(24032,.arr 86 4 (l.map Z0.dv)),(8008,.box 86 [int p.K,int p.S,int p.U,int p.N]),(8009,.box 86 [int q.K,int q.S,int q.U,int q.N])],60⟩) .ret (Tg.st ⟨tm 57 [(10,.d (.sl 0 [])),(11,int 20)],[],60⟩):=by
 obtain⟨n,x,d,g,h⟩:=Mz o;have f:n<k.toNat:=by have:=(Ld.1 d).1;simpa using this
 have s:x=n:=by simp[LI,f]at d;exact d.symm
 subst s;have:=G5 (S:=λn=>(Sp l i k p q n).st) x kr (λm r=>?_) (Zda l i k p q x hl c a b f (by simpa using g))
 .simp only[Sp,AG]at this;exact this
 .obtain⟨y,e,j⟩:=h m r;have t:y=m:=by simp[LI,show m<k.toNat from by omega]at e;exact e.symm
  subst t;exact Z4o l i k p q y hl c a b oq (by simpa using j)
end
def Zio(l:List Z0)(i:Int)(k:Int)(p q:Z0)(hl:l.length<=1048576)(hk:1<=k/\k<=5):GP 227 [ZZ l,int i,int k,p.av,q.av] Y (.tu [ZZ (EF l i k p q).1,int (EF l i k p q).2]) []:=by
  cases hf:HW l i.toNat k.toNat with
  |true =>
    have hw:i.toNat+k.toNat<=l.length->(wr l (O k.toNat q) i.toNat k.toNat).length=l.length:=λh=>Iw (by simpa using h) pq;rcases bb (X (i<0)||X ((l.length:Int)<=i)||X ((l.length:Int)-i<k))with hc0|hc0<;>have a:=hc0<;>simp only[bs]at a
    . exact gF [] func227 (fO 10) (FlG 19 (!decide (i<0)) Z0.dv l (FlG 25 (!(X (i<0)||X ((l.length:Int)<=i))) Z0.dv l (FiG 27 (!(X (i<0)||X ((l.length:Int)<=i))) ((l.length:Int)-i) (Ft 29 hc0 (Fnl (Fa (by(simp only[EF,hf,ZM] ;exact sj):[]=Z Z0.dv (EF l i k p q).1) (Fa (by(simp only[EF,hf,ZM] ;exact sj):2=(EF l i k p q).2) Fz)))))))
    . obtain⟨⟨b,c⟩,d⟩:=a;rw[show EF l i k p q=((wr l (O k.toNat q) i.toNat k.toNat).set i.toNat p,(0:Int))from by simp[EF,hf,ZM, *]];exact gF [] func227 [] (Fh 10055 [.els (Z Z0.dv ((wr l (O k.toNat q) i.toNat k.toNat).set i.toNat p))] (FlG 19 (!decide (i<0)) Z0.dv l (FlG 25 (!(X (i<0)||X ((l.length:Int)<=i))) Z0.dv l (FiG 27 (!(X (i<0)||X ((l.length:Int)<=i))) ((l.length:Int)-i) (Ff 29 hc0 (FAx 30 32 Z0.dv l (by(simp[EF,hf,ZM, *];omega)) (Fu (@Z7V l i k p q aa oq oq oq aa) (Fa (by(simp only[Lc];omega):0<=i/\i.toNat<(Z Z0.dv (wr l (O k.toNat q) i.toNat k.toNat)).length) (Fa (by(simp only[Lc];omega):i.toNat<(Z Z0.dv (wr l (O k.toNat q) i.toNat k.toNat)).length) (Fa (by rw[Lp];rfl:(Z Z0.dv (wr l (O k.toNat q) i.toNat k.toNat)).set i.toNat [Zn p.K,Zn p.S,Zn p.U,Zn p.N]=Z Z0.dv ((wr l (O k.toNat q) i.toNat k.toNat).set i.toNat p)) (Fa (by exact IC _:Ci (Z Z0.dv ((wr l (O k.toNat q) i.toNat k.toNat).set i.toNat p))) Fz)))))))))))
  | false => rcases Lu (X (i<(0:Int))||X ((l.length:Int)<=i)||X ((l.length:Int)-i<k))with hc0 | hc0
             . have a:=hc0;simp only[bs]at a;exact gF [] func227 (fO 10) (FlG 19 (!decide (i<0)) Z0.dv l (FlG 25 (!(X (i<0)||X ((l.length:Int)<=i))) Z0.dv l (FiG 27 (!(X (i<0)||X ((l.length:Int)<=i))) ((l.length:Int)-i) (Ft 29 ‹(X (i<0)||X ((l.length:Int)<=i)||X ((l.length:Int)-i<k))=Y› (Fnl (Fa (by(simp only[EF,hf] ;exact sj):[]=Z Z0.dv (EF l i k p q).1) (Fa (by(simp only[EF,hf] ;exact sj):2=(EF l i k p q).2) Fz)))))))
             . have a:=hc0;simp only[bs]at a;obtain⟨⟨b,c⟩,d⟩:=a;exact gF [] func227 (fO 21) (FlG 19 (!decide (i<0)) Z0.dv l (FlG 25 (!(X (i<0)||X ((l.length:Int)<=i))) Z0.dv l (FiG 27 (!(X (i<0)||X ((l.length:Int)<=i))) ((l.length:Int)-i) (Ff 29 ‹(X (i<0)||X ((l.length:Int)<=i)||X ((l.length:Int)-i<k))=L› (FAx 30 32 Z0.dv l (by(simp[EF,hf, *];omega)) (Fu (@Zf9 l i k p q aa oq oq oq aa) (Fnl (Fa (by(simp only[EF,hf] ;exact sj):[]=Z Z0.dv (EF l i k p q).1) (Fa (by(simp only[EF,hf] ;exact sj):20=(EF l i k p q).2) Fz)))))))))
def Zgp(l:List Z0)(i:Int)(k:Int)(p q:Z0)(hl:l.length<=1048576)(hk:1<=k/\k<=5)(hi:0<=i/\i+k<=l.length)(hf:HW l i.toNat k.toNat=Y):GP 227 [ZZ l,int i,int k,p.av,q.av] Y (.tu [.ow 0,int 0]) [.arr 86 4 ((ZM l i.toNat k.toNat p q).map Z0.dv)]:=by have hw:(wr l (O k.toNat q) i.toNat k.toNat).length=l.length:=Iw qo pq;exact gF [24032] func227 [] (Fh 10055 [.els (Z Z0.dv ((wr l (O k.toNat q) i.toNat k.toNat).set i.toNat p))] (FlG 19 (!decide (i<0)) Z0.dv l (FlG 25 (!(X (i<0)||X ((l.length:Int)<=i))) Z0.dv l (FiG 27 (!(X (i<0)||X ((l.length:Int)<=i))) ((l.length:Int)-i) (Ffb 29 (X (i<0)||X ((l.length:Int)<=i)||X ((l.length:Int)-i<k)) (FAx 30 32 Z0.dv l (by(simp[ZM, *];omega)) (Fu (@Z7V l i k p q aa oq oq oq aa) (Fa (by(simp only[Lc];omega):0<=i/\i.toNat<(Z Z0.dv (wr l (O k.toNat q) i.toNat k.toNat)).length) (Fa (by(simp only[Lc];omega):i.toNat<(Z Z0.dv (wr l (O k.toNat q) i.toNat k.toNat)).length) (Fa (by rw[Lp];rfl:(Z Z0.dv (wr l (O k.toNat q) i.toNat k.toNat)).set i.toNat [Zn p.K,Zn p.S,Zn p.U,Zn p.N]=Z Z0.dv ((wr l (O k.toNat q) i.toNat k.toNat).set i.toNat p)) (Fa (by exact IC _:Ci (Z Z0.dv ((wr l (O k.toNat q) i.toNat k.toNat).set i.toNat p))) Fz)))))))))))
def Z4V(l:List Z0)(i sp:Int):List Z0×Int:=if 0<=sp/\sp<=1 then EF l i 1 ⟨1,sp,0,0⟩ ⟨0,0,0,0⟩else([],1)
def GG(c:B3)(l:List Z0)(i sp n:Int):List Z0×Int:=if 1<=need c n/\0<=sp/\sp<=1 then EF l i (need c n) ⟨2,sp,n,0⟩ ⟨3,sp,0,0⟩else([],1)
def ZcC(c:B3)(l:List Z0) i sp n(hl:l.length<=1048576):GP 205 [c.av,ZZ l,int i,int sp,int n] L (.tu [ZZ (GG c l i sp n).1,int (GG c l i sp n).2]) []:=by have hn:=M3 c n;rcases bb (X (need c n<1)||X (sp<0)||X (1<sp))with hc0|hc0<;>have a:=hc0<;>simp only[bs]at a;exact gF [] func205 (fO 4) (Fc 15 (@Rx c n) (Ft 25 hc0 (Fnl (Fa (by(simp only[GG] ;exact sj):[]=Z Z0.dv (GG c l i sp n).1) (Fa (by(simp only[GG] ;exact sj):1=(GG c l i sp n).2) Fz)))));obtain⟨⟨b,d⟩,e⟩:=a;rw[show GG c l i sp n=EF l i (need c n) (Z0.mk (2:Int) sp n (0:Int)) (Z0.mk (3:Int) sp (0:Int) (0:Int))from by simp[GG, *]];exact gF [] func205 [] (Fc 15 (@Rx c n) (Ff 25 hc0 (Fc 34 (@Zio l i (need c n) (Z0.mk 2 sp n 0) (Z0.mk 3 sp 0 0) aa oq) Fz)))
def Z7z(l:List Z0)(i sp:Int)(hl:l.length<=1048576)(hs:0<=sp/\sp<=1)(hi:0<=i/\i+1<=l.length)(hf:HW l i.toNat 1=Y):GP 204 [ZZ l,int i,int sp] Y (.tu [.ow 0,int 0]) [.arr 86 4 ((ZM l i.toNat 1 ⟨1,sp,0,0⟩ ⟨0,0,0,0⟩).map Z0.dv)]:=by exact gF [25019] func204 [] (Ffb 13 (X (sp<0)||X (1<sp)) (Fc 19 (@Zgp l i (1) (Z0.mk 1 sp 0 0) (Z0.mk 0 0 0 0) aa oq aa aa) (Fa (by exact IC _:Ci (Z Z0.dv (ZM l i.toNat (Lh 1) (Z0.mk 1 sp 0 0) (Z0.mk 0 0 0 0)))) Fz)))
structure ZJ where
 frm:Int
 len:Int
 deriving DecidableEq,Inhabited
def ZJ.dv(r:ZJ):List DV:=[Zn r.frm,Zn r.len]
def Ic(l:List ZJ):AV:=.d (.sl 2 (l.map ZJ.dv))
def Bt(out:List ZJ):ZJ:=out.getLast?.getD ⟨0,0⟩
def NQ(out:List ZJ)(i:Int)(p:Z0):List ZJ:=
 if p.K=0 then(if out≠[]/\(Bt out).frm+(Bt out).len=i then out.dropLast++[⟨(Bt out).frm,(Bt out).len+1⟩]else out++[⟨i,1⟩])else out
def Zf(l:List Z0):Nat->List ZJ|0=>[]|i+1=>NQ (Zf l i) i (CQ l i)
def NN{out:List ZJ}(h:out≠[]):out[out.length-1]?=La (Bt out):=by rw[<-List.getLast?_eq_getElem?,Bt,List.getLast?_eq_some_getLast h];rfl
def Nc l:∀i,(Zf l i).length<=i/\∀r∈Zf l i,0<=r.frm/\1<=r.len/\r.frm+r.len<=i
 |0=>⟨by simp[Zf],by simp[Zf]⟩
 |i+1=>by
  obtain⟨h1,b⟩:=Nc l i;simp only[Zf,NQ];split
  .split
   .rename_i c;have hl:=b _ (Lj (NN c.1));have hp:0<(Zf l i).length:=Lz.2 c.1;refine⟨by simp;omega,λr a=>?_⟩;rcases Lt.1 a with a|a
    .have:=b r (LH _ a);omega
    .simp at a;subst a;simp only;omega
   .refine⟨by simp;omega,λr a=>?_⟩;rcases Lt.1 a with a|a
    .have:=b r a;omega
    .simp at a;subst a;simp only;omega
  .refine⟨by omega,λr a=>?_⟩;have:=b r a;omega
def Pm{out:List ZJ}{i:Nat}{r}(h:out[i]?=La r):(out.map ZJ.dv)[i]?=La r.dv:=by simp[h]
def Z4H{out:List ZJ}(h:out≠[])(r:ZJ):(out.map ZJ.dv).set (out.length-1) r.dv=(out.dropLast++[r]).map ZJ.dv:=by obtain⟨a,b,rfl⟩:∃a b,out=a++[b]:=⟨out.dropLast,out.getLast h,(List.dropLast_concat_getLast h).symm⟩;simp
def I5(l:List Z0)(i:Nat):Tg:=⟨tm 54 [(3,.ow 16003),(7,ZZ l),(8,int l.length),(9,int i)],[(16003,.arr 267 2 ((Zf l i).map ZJ.dv))],20⟩
def ZbY(l:List Z0)(hl:l.length<=1048576)(i:Nat) p(hp:l[i]?=La p)(hk:p.K≠0):CP (Zm f231 0) (I5 l i).st .nrm (I5 l (i+1)).st:=by
 have hi:i<l.length:=(Ld.1 hp).1;obtain⟨o1,o2⟩:=Nc l i;have e:I5 l (i+1)=⟨tm 54 [(3,.ow 16003),(7,ZZ l),(8,int l.length),(9,int ((i+1:Nat):Int))],[(16003,.arr 267 2 ((Zf l i).map ZJ.dv))],20⟩:=by
  have hpa:CQ l i=p:=by simp[CQ,hp]
  rw[I5,Zf,NQ,hpa,if_neg hk]
 rw[e];exact sF [] [] (Fh 12 [.el p.dv] (Fh 25 [.br Y] (Ftb 10 (X ((i:Int)<(l.length:Int))) (Fa ((⟨by omega,HH hp⟩):0<=(i:Int)/\(Z Z0.dv l)[(i:Int).toNat]?=La p.dv) (Fg 15 (by rw[Lc]:(↑(Z ZJ.dv (Zf l i)).length:Int)=(↑(Zf l i).length:Int)) (Fi 16 ((↑(Zf l i).length:Int)-1) (Fa (by simp[hk]:(p.K != 0)=Y) (Fx 52 i Fz))))))))
def Zby(l:List Z0)(hl:l.length<=1048576)(i:Nat)(p:Z0)(hp:l[i]?=La p)(hk:p.K=0)(ho:Zf l i≠[])(hm:(Bt (Zf l i)).frm+(Bt (Zf l i)).len=i):CP (Zm f231 0) (I5 l i).st .nrm (I5 l (i+1)).st:=by
 have hi:i<l.length:=(Ld.1 hp).1;obtain⟨o1,o2⟩:=Nc l i;have hlast:=o2 _ (Lj (NN ho));have hpos:0<(Zf l i).length:=Lz.2 ho;have e:Zf l (i+1)=(Zf l i).dropLast++[⟨(Bt (Zf l i)).frm,(Bt (Zf l i)).len+1⟩]:=by
  have hpa:CQ l i=p:=by simp[CQ,hp]
  rw[Zf,NQ,hpa,if_pos hk,if_pos ⟨ho,hm⟩]
 have hidx:0<=((Zf l i).length:Int)-1/\(((Zf l i).length:Int)-1).toNat<(Z ZJ.dv (Zf l i)).length:=by rw[Lc];omega
 have hat:(Z ZJ.dv (Zf l i))[(((Zf l i).length:Int)-1).toNat]?=La (Bt (Zf l i)).dv:=by
  rw[show(((Zf l i).length:Int)-1).toNat=(Zf l i).length-1 from by omega];exact Pm (NN ho)
 have qz0:(Z ZJ.dv (Zf l i)).set ((↑(Zf l i).length:Int)-(1:Int)).toNat (Gh (Bt (Zf l i)).dv ((0:Nat) + #[Lm "From" (3:Nat) (0:Nat) L "" "" (0:Nat),Lm "Len" (3:Nat) (1:Nat) L "" "" (8:Nat)][(1:Nat)].3) [Zn ((Bt (Zf l i)).len+(1:Int))])=Z ZJ.dv (Zf l (i+(1:Nat))):=by
  rw[e,<-Z4H ho,show(((Zf l i).length:Int)-1).toNat=(Zf l i).length-1 from by omega];rfl
 exact sF [] [] (Fh 12 [.el p.dv] (Fh 16 [.int ((↑(Zf l i).length:Int)-1)] (Fh 25 [.br L] (Fh 34 [.el (Bt (Zf l i)).dv] (Fh 39 [.el (Bt (Zf l i)).dv] (Fh 40 [.int ↑i] (Fh 43 [.br Y] (Fh 48 [.el (Bt (Zf l i)).dv] (Fh 49 [.int ((Bt (Zf l i)).len+1)] (Fh 10051 [.el (Bt (Zf l i)).dv,.els ((Zf l (i+1)).map ZJ.dv)] (Fh 52 [.int (↑(i+1):Int)] (Ft 10 ((decide_eq_true oq):X ((i:Int)<(l.length:Int))=Y) (Fa ((⟨by omega,HH hp⟩):0<=(i:Int)/\(Z Z0.dv l)[(i:Int).toNat]?=La p.dv) (Fg 15 (by rw[Lc]:(↑(Z ZJ.dv (Zf l i)).length:Int)=(↑(Zf l i).length:Int)) (Fa ((C1 oq oq):Lb.wrap ((↑(Zf l i).length:Int)-1)=(↑(Zf l i).length:Int)-1) (Fa (by simp[hk]:(p.K != 0)=L) (Fa ((λ_=>hidx):X (0<=(↑(Zf l i).length:Int)-1)=Y->0<=(↑(Zf l i).length:Int)-1/\((↑(Zf l i).length:Int)-1).toNat<(Z ZJ.dv (Zf l i)).length) (Fa ((λ_=>hat):X (0<=(↑(Zf l i).length:Int)-1)=Y->(Z ZJ.dv (Zf l i))[((↑(Zf l i).length:Int)-1).toNat]?=La (Bt (Zf l i)).dv) (Fa ((λ_=>hidx):X (0<=(↑(Zf l i).length:Int)-1)=Y->0<=(↑(Zf l i).length:Int)-1/\((↑(Zf l i).length:Int)-1).toNat<(Z ZJ.dv (Zf l i)).length) (Fa ((λ_=>hat):X (0<=(↑(Zf l i).length:Int)-1)=Y->(Z ZJ.dv (Zf l i))[((↑(Zf l i).length:Int)-1).toNat]?=La (Bt (Zf l i)).dv) (Fa ((λ_=>by rw[hm];exact C1 oq oq):X (0<=(↑(Zf l i).length:Int)-1)=Y->Lb.wrap ((Bt (Zf l i)).frm+(Bt (Zf l i)).len)=(i:Int)) (Fa (by simp;omega:(X (0<=(↑(Zf l i).length:Int)-1)&&(i:Int)==(i:Int))=Y) (Fa (hidx:0<=(↑(Zf l i).length:Int)-1/\((↑(Zf l i).length:Int)-1).toNat<(Z ZJ.dv (Zf l i)).length) (Fa (hat:(Z ZJ.dv (Zf l i))[((↑(Zf l i).length:Int)-1).toNat]?=La (Bt (Zf l i)).dv) (Fa ((C1 oq oq):Lb.wrap ((Bt (Zf l i)).len+1)=(Bt (Zf l i)).len+1) (Fa (hidx:0<=(↑(Zf l i).length:Int)-1/\((↑(Zf l i).length:Int)-1).toNat<(Z ZJ.dv (Zf l i)).length) (Fa (hat:(Z ZJ.dv (Zf l i))[((↑(Zf l i).length:Int)-1).toNat]?=La (Bt (Zf l i)).dv) (Fa (qz0:(Z ZJ.dv (Zf l i)).set ((↑(Zf l i).length:Int)-1).toNat (Gh (Bt (Zf l i)).dv (0 + #[Lm "From" 3 0 L "" "" 0,Lm "Len" 3 1 L "" "" 8][1].3) [Zn ((Bt (Zf l i)).len+1)])=Z ZJ.dv (Zf l (i+1))) (Fa ((C1 oq oq):Lb.wrap ((i:Int)+1)=(↑(i+1):Int)) Fz)))))))))))))))))))))))))))))
def Zef(l:List Z0)(hl:l.length<=1048576)(i:Nat)(p:Z0)(hp:l[i]?=La p)(hk:p.K=0)(ho:¬ (Zf l i≠[]/\(Bt (Zf l i)).frm+(Bt (Zf l i)).len=i)):CP (Zm f231 0) (I5 l i).st .nrm (I5 l (i+1)).st:=by
 have hi:i<l.length:=(Ld.1 hp).1;obtain⟨o1,o2⟩:=Nc l i;have e:Zf l (i+1)=Zf l i++[⟨i,1⟩]:=by
  have hpa:CQ l i=p:=by simp[CQ,hp]
  rw[Zf,NQ,hpa,if_pos hk,if_neg ho]
 have hne:X (0<=((Zf l i).length:Int)-1)=Y->Zf l i≠[]:=by
  intro hd h0;rw[h0]at hd;simp at hd
 have hidx:X (0<=((Zf l i).length:Int)-1)=Y->0<=((Zf l i).length:Int)-1/\(((Zf l i).length:Int)-1).toNat<(Z ZJ.dv (Zf l i)).length:=by
  intro hd;have:=of_decide_eq_true hd;rw[Lc];omega
 have hat:X (0<=((Zf l i).length:Int)-1)=Y->(Z ZJ.dv (Zf l i))[(((Zf l i).length:Int)-1).toNat]?=La (Bt (Zf l i)).dv:=by
  intro hd;rw[show(((Zf l i).length:Int)-1).toNat=(Zf l i).length-1 from by omega];exact Pm (NN (hne hd))
 have qz0:(X ((0:Int)<=(↑(Zf l i).length:Int)-(1:Int))&&Lb.wrap ((Bt (Zf l i)).frm+(Bt (Zf l i)).len)==(i:Int))=L:=by
  cases hd:X (0<=((Zf l i).length:Int)-1)with
  |false=>simp
  |true =>
   have h1:=hne hd;have hlast:=o2 _ (Lj (NN h1));rw[C1 oq oq];simp;intro hh;exact ho ⟨h1,hh⟩
 exact sF [(200021,16003)] [] (Fh 12 [.el p.dv] (Fh 25 [.br L] (Fh 34 [.el (Bt (Zf l i)).dv] (Fh 39 [.el (Bt (Zf l i)).dv] (Fh 43 [.br L] (Fh 21 [.els ((Zf l (i+1)).map ZJ.dv)] (Ftb 10 (X ((i:Int)<(l.length:Int))) (Fa ((⟨by omega,HH hp⟩):0<=(i:Int)/\(Z Z0.dv l)[(i:Int).toNat]?=La p.dv) (Fg 15 (by rw[Lc]:(↑(Z ZJ.dv (Zf l i)).length:Int)=(↑(Zf l i).length:Int)) (Fi 16 ((↑(Zf l i).length:Int)-1) (Fa (by simp[hk]:(p.K != 0)=L) (Fa (hidx:X (0<=(↑(Zf l i).length:Int)-1)=Y->0<=(↑(Zf l i).length:Int)-1/\((↑(Zf l i).length:Int)-1).toNat<(Z ZJ.dv (Zf l i)).length) (Fa (hat:X (0<=(↑(Zf l i).length:Int)-1)=Y->(Z ZJ.dv (Zf l i))[((↑(Zf l i).length:Int)-1).toNat]?=La (Bt (Zf l i)).dv) (Fa (hidx:X (0<=(↑(Zf l i).length:Int)-1)=Y->0<=(↑(Zf l i).length:Int)-1/\((↑(Zf l i).length:Int)-1).toNat<(Z ZJ.dv (Zf l i)).length) (Fa (hat:X (0<=(↑(Zf l i).length:Int)-1)=Y->(Z ZJ.dv (Zf l i))[((↑(Zf l i).length:Int)-1).toNat]?=La (Bt (Zf l i)).dv) (Fa (qz0:(X (0<=(↑(Zf l i).length:Int)-1)&&Lb.wrap ((Bt (Zf l i)).frm+(Bt (Zf l i)).len)==(i:Int))=L) (Fa (by rw[Lc];simp;omega:(Z ZJ.dv (Zf l i)).length+((O 1 [Zn 0,Zn 0]).set 0 [Zn (i:Int),Zn 1]).length<=2^30) (Fa (by rw[e];simp[ZJ.dv]:Z ZJ.dv (Zf l i)++(O 1 [Zn 0,Zn 0]).set 0 [Zn (i:Int),Zn 1]=Z ZJ.dv (Zf l (i+1))) (Fx 52 i Fz)))))))))))))))))))
def ZfW(l:List Z0)(hl:l.length<=1048576)(i:Nat)(d:i<l.length):CP (Zm f231 0) (I5 l i).st .nrm (I5 l (i+1)).st:=by have c:=Li d;by_cases a:l[i].K=0;by_cases b:Zf l i≠[]/\(Bt (Zf l i)).frm+(Bt (Zf l i)).len=i;exact Zby l hl i _ c a b.1 b.2;exact Zef l hl i _ c a b;exact ZbY l hl i _ c a
def Zfp l:CP (Zm f231 0) (I5 l l.length).st (.ext 0) (Tg.st ⟨tm 54 [(3,.ow 16003)],[(16003,.arr 267 2 ((Zf l l.length).map ZJ.dv))],60⟩):=by exact sF [] [] (Ffb 10 (X ((l.length:Int)<(l.length:Int))) Fz)
def runs(l:List Z0):List ZJ:=Zf l l.length
def Z5c(l:List Z0)(hl:l.length<=1048576):GP 231 [ZZ l] L (Ic (runs l)) []:=by exact gF [] func231 [] (Fh 3 [.own] (Fk (0,I5 l 0,.nrm,⟨tm 54 [(3,.ow 16003)],[(16003,.arr 267 2 ((Zf l l.length).map ZJ.dv))],60⟩) (Fg 8 (by rw[Lc]:(↑(Z Z0.dv l).length:Int)=(l.length:Int)) (Fa ((Bs (S:=λi=>(I5 l i).st) l.length kr (λi a=>ZfW l hl i a) (Zfp l)):CP (Zi f231 0) (I5 l 0).st Ex.nrm (Tg.mk (tm 54 [(3,AV.ow 16003)]) [(16003,Z4.arr 267 2 (Z ZJ.dv (Zf l l.length)))] 60).st) Fz))))
def HY(l:List Z0)(i:Nat):Tg:=⟨tm 54 [(0,ZZ l),(3,.ow 16003),(4,int i)],[(16003,.arr 267 2 ((Zf l i).map ZJ.dv))],20⟩
def Zfe(l:List Z0)(hl:l.length<=1048576)(i:Nat) p(hp:l[i]?=La p)(hk:p.K≠0):CP (Zm f226 0) (HY l i).st .nrm (HY l (i+1)).st:=by
 have hi:i<l.length:=(Ld.1 hp).1;have e:HY l (i+1)=⟨tm 54 [(0,ZZ l),(3,.ow 16003),(4,int ((i+1:Nat):Int))],[(16003,.arr 267 2 ((Zf l i).map ZJ.dv))],20⟩:=by
  have hpa:CQ l i=p:=by simp[CQ,hp]
  rw[HY,Zf,NQ,hpa,if_neg hk]
 rw[e];exact sF [] [] (Fh 14 [.el p.dv] (Fg 8 (by rw[Lc]:(↑(Z Z0.dv l).length:Int)=(l.length:Int)) (Ftb 9 (X ((i:Int)<(l.length:Int))) (Fa ((⟨by omega,HH hp⟩):0<=(i:Int)/\(Z Z0.dv l)[(i:Int).toNat]?=La p.dv) (Ft 17 (by simp[hk]:(p.K != 0)=Y) (Fx 11 i Fz))))))
def Zfd(l:List Z0)(hl:l.length<=1048576)(i:Nat)(p:Z0)(hp:l[i]?=La p)(hk:p.K=0)(ho:Zf l i≠[])(hm:(Bt (Zf l i)).frm+(Bt (Zf l i)).len=i):CP (Zm f226 0) (HY l i).st .nrm (HY l (i+1)).st:=by
 have hi:i<l.length:=(Ld.1 hp).1;obtain⟨o1,o2⟩:=Nc l i;have hlast:=o2 _ (Lj (NN ho));have hpos:0<(Zf l i).length:=Lz.2 ho;have e:Zf l (i+1)=(Zf l i).dropLast++[⟨(Bt (Zf l i)).frm,(Bt (Zf l i)).len+1⟩]:=by
  have hpa:CQ l i=p:=by simp[CQ,hp]
  rw[Zf,NQ,hpa,if_pos hk,if_pos ⟨ho,hm⟩]
 have hidx:0<=((Zf l i).length:Int)-1/\(((Zf l i).length:Int)-1).toNat<(Z ZJ.dv (Zf l i)).length:=by rw[Lc];omega
 have hat:(Z ZJ.dv (Zf l i))[(((Zf l i).length:Int)-1).toNat]?=La (Bt (Zf l i)).dv:=by
  rw[show(((Zf l i).length:Int)-1).toNat=(Zf l i).length-1 from by omega];exact Pm (NN ho)
 have hset:(Z ZJ.dv (Zf l i)).set (((Zf l i).length:Int)-1).toNat [Zn (Bt (Zf l i)).frm,Zn ((Bt (Zf l i)).len+1)]=Z ZJ.dv (Zf l (i+1)):=by
  rw[e,<-Z4H ho,show(((Zf l i).length:Int)-1).toNat=(Zf l i).length-1 from by omega];rfl
 have hw:Lb.wrap (((Zf l i).length:Int)-1)=((Zf l i).length:Int)-1:=C1 oq oq;exact sF [] [] (Fh 14 [.el p.dv] (Fh 28 [.el (Bt (Zf l i)).dv] (Fh 31 [.int ((↑(Zf l i).length:Int)-1)] (Fh 34 [.el (Bt (Zf l i)).dv] (Fh 35 [.int ↑i] (Fh 41 [.int ((↑(Zf l i).length:Int)-1)] (Fh 44 [.el (Bt (Zf l i)).dv] (Fh 45 [.int ((Bt (Zf l i)).len+1)] (Fh 10047 [.el (Bt (Zf l i)).dv,.els ((Zf l (i+1)).map ZJ.dv)] (Fh 11 [.int (↑(i+1):Int)] (Fg 8 (by rw[Lc]:(↑(Z Z0.dv l).length:Int)=(l.length:Int)) (Ft 9 ((decide_eq_true oq):X ((i:Int)<(l.length:Int))=Y) (Fa ((⟨by omega,HH hp⟩):0<=(i:Int)/\(Z Z0.dv l)[(i:Int).toNat]?=La p.dv) (Ff 17 (by simp[hk]:(p.K != 0)=L) (Fg 19 (by rw[Lc]:(↑(Z ZJ.dv (Zf l i)).length:Int)=(↑(Zf l i).length:Int)) (Fa ((λ_=>hw):X (0<(↑(Zf l i).length:Int))=Y->Lb.wrap ((↑(Zf l i).length:Int)-1)=(↑(Zf l i).length:Int)-1) (Fa ((λ_=>hidx):X (0<(↑(Zf l i).length:Int))=Y->0<=(↑(Zf l i).length:Int)-1/\((↑(Zf l i).length:Int)-1).toNat<(Z ZJ.dv (Zf l i)).length) (Fa ((λ_=>hat):X (0<(↑(Zf l i).length:Int))=Y->(Z ZJ.dv (Zf l i))[((↑(Zf l i).length:Int)-1).toNat]?=La (Bt (Zf l i)).dv) (Fa ((λ_=>hw):X (0<(↑(Zf l i).length:Int))=Y->Lb.wrap ((↑(Zf l i).length:Int)-1)=(↑(Zf l i).length:Int)-1) (Fa ((λ_=>hidx):X (0<(↑(Zf l i).length:Int))=Y->0<=(↑(Zf l i).length:Int)-1/\((↑(Zf l i).length:Int)-1).toNat<(Z ZJ.dv (Zf l i)).length) (Fa ((λ_=>hat):X (0<(↑(Zf l i).length:Int))=Y->(Z ZJ.dv (Zf l i))[((↑(Zf l i).length:Int)-1).toNat]?=La (Bt (Zf l i)).dv) (Fa ((λ_=>by rw[hm];exact C1 oq oq):X (0<(↑(Zf l i).length:Int))=Y->Lb.wrap ((Bt (Zf l i)).frm+(Bt (Zf l i)).len)=(i:Int)) (Ft 38 (by simp;omega:(X (0<(↑(Zf l i).length:Int))&&(i:Int)==(i:Int))=Y) (Fg 25 (hw:Lb.wrap ((↑(Zf l i).length:Int)-1)=(↑(Zf l i).length:Int)-1) (Fa (hidx:0<=(↑(Zf l i).length:Int)-1/\((↑(Zf l i).length:Int)-1).toNat<(Z ZJ.dv (Zf l i)).length) (Fa (hat:(Z ZJ.dv (Zf l i))[((↑(Zf l i).length:Int)-1).toNat]?=La (Bt (Zf l i)).dv) (Fa ((C1 oq oq):Lb.wrap ((Bt (Zf l i)).len+1)=(Bt (Zf l i)).len+1) (Fa (hidx:0<=(↑(Zf l i).length:Int)-1/\((↑(Zf l i).length:Int)-1).toNat<(Z ZJ.dv (Zf l i)).length) (Fa (hat:(Z ZJ.dv (Zf l i))[((↑(Zf l i).length:Int)-1).toNat]?=La (Bt (Zf l i)).dv) (Fa (hset:(Z ZJ.dv (Zf l i)).set ((↑(Zf l i).length:Int)-1).toNat (Gh (Bt (Zf l i)).dv (0 + #[Lm "From" 3 0 L "" "" 0,Lm "Len" 3 1 L "" "" 8][1].3) [Zn ((Bt (Zf l i)).len+1)])=Z ZJ.dv (Zf l (i+1))) (Fa ((C1 oq oq):Lb.wrap ((i:Int)+1)=(↑(i+1):Int)) Fz)))))))))))))))))))))))))))))))
def Zkc(l:List Z0)(hl:l.length<=1048576)(i:Nat)(p:Z0)(hp:l[i]?=La p)(hk:p.K=0)(ho:¬ (Zf l i≠[]/\(Bt (Zf l i)).frm+(Bt (Zf l i)).len=i)):CP (Zm f226 0) (HY l i).st .nrm (HY l (i+1)).st:=by
 have hi:i<l.length:=(Ld.1 hp).1;obtain⟨o1,o2⟩:=Nc l i;have e:Zf l (i+1)=Zf l i++[⟨i,1⟩]:=by
  have hpa:CQ l i=p:=by simp[CQ,hp]
  rw[Zf,NQ,hpa,if_pos hk,if_neg ho]
 have hne:X (0<((Zf l i).length:Int))=Y->Zf l i≠[]:=by
  intro hd h0;rw[h0]at hd;simp at hd
 have hidx:X (0<((Zf l i).length:Int))=Y->0<=((Zf l i).length:Int)-1/\(((Zf l i).length:Int)-1).toNat<(Z ZJ.dv (Zf l i)).length:=by
  intro hd;have:=of_decide_eq_true hd;rw[Lc];omega
 have hat:X (0<((Zf l i).length:Int))=Y->(Z ZJ.dv (Zf l i))[(((Zf l i).length:Int)-1).toNat]?=La (Bt (Zf l i)).dv:=by
  intro hd;rw[show(((Zf l i).length:Int)-1).toNat=(Zf l i).length-1 from by omega];exact Pm (NN (hne hd))
 have hw:Lb.wrap (((Zf l i).length:Int)-1)=((Zf l i).length:Int)-1:=C1 oq oq;have qz0:(X ((0:Int)<(↑(Zf l i).length:Int))&&Lb.wrap ((Bt (Zf l i)).frm+(Bt (Zf l i)).len)==(i:Int))=L:=by
  cases hd:X (0<((Zf l i).length:Int))with
  |false=>simp
  |true =>
   have h1:=hne hd;have hlast:=o2 _ (Lj (NN h1));rw[C1 oq oq];simp;intro hh;exact ho ⟨h1,hh⟩
 exact sF [(192052,16003)] [] (Fh 14 [.el p.dv] (Fh 25 [.int ((↑(Zf l i).length:Int)-1)] (Fh 28 [.el (Bt (Zf l i)).dv] (Fh 31 [.int ((↑(Zf l i).length:Int)-1)] (Fh 34 [.el (Bt (Zf l i)).dv] (Fh 52 [.els ((Zf l (i+1)).map ZJ.dv)] (Fg 8 (by rw[Lc]:(↑(Z Z0.dv l).length:Int)=(l.length:Int)) (Ftb 9 (X ((i:Int)<(l.length:Int))) (Fa ((⟨by omega,HH hp⟩):0<=(i:Int)/\(Z Z0.dv l)[(i:Int).toNat]?=La p.dv) (Ff 17 (by simp[hk]:(p.K != 0)=L) (Fg 19 (by rw[Lc]:(↑(Z ZJ.dv (Zf l i)).length:Int)=(↑(Zf l i).length:Int)) (Fa ((λ_=>hw):X (0<(↑(Zf l i).length:Int))=Y->Lb.wrap ((↑(Zf l i).length:Int)-1)=(↑(Zf l i).length:Int)-1) (Fa (hidx:X (0<(↑(Zf l i).length:Int))=Y->0<=(↑(Zf l i).length:Int)-1/\((↑(Zf l i).length:Int)-1).toNat<(Z ZJ.dv (Zf l i)).length) (Fa (hat:X (0<(↑(Zf l i).length:Int))=Y->(Z ZJ.dv (Zf l i))[((↑(Zf l i).length:Int)-1).toNat]?=La (Bt (Zf l i)).dv) (Fa ((λ_=>hw):X (0<(↑(Zf l i).length:Int))=Y->Lb.wrap ((↑(Zf l i).length:Int)-1)=(↑(Zf l i).length:Int)-1) (Fa (hidx:X (0<(↑(Zf l i).length:Int))=Y->0<=(↑(Zf l i).length:Int)-1/\((↑(Zf l i).length:Int)-1).toNat<(Z ZJ.dv (Zf l i)).length) (Fa (hat:X (0<(↑(Zf l i).length:Int))=Y->(Z ZJ.dv (Zf l i))[((↑(Zf l i).length:Int)-1).toNat]?=La (Bt (Zf l i)).dv) (Ff 38 (qz0:(X (0<(↑(Zf l i).length:Int))&&Lb.wrap ((Bt (Zf l i)).frm+(Bt (Zf l i)).len)==(i:Int))=L) (Fa (by rw[Lc];simp;omega:(Z ZJ.dv (Zf l i)).length+((O 1 [Zn 0,Zn 0]).set 0 [Zn (i:Int),Zn 1]).length<=2^30) (Fa (by rw[e];simp[ZJ.dv]:Z ZJ.dv (Zf l i)++(O 1 [Zn 0,Zn 0]).set 0 [Zn (i:Int),Zn 1]=Z ZJ.dv (Zf l (i+1))) (Fx 11 i Fz)))))))))))))))))))))
def ZeL(l:List Z0)(hl:l.length<=1048576)(i:Nat)(d:i<l.length):CP (Zm f226 0) (HY l i).st .nrm (HY l (i+1)).st:=by have c:=Li d;by_cases a:l[i].K=0;by_cases b:Zf l i≠[]/\(Bt (Zf l i)).frm+(Bt (Zf l i)).len=i;exact Zfd l hl i _ c a b.1 b.2;exact Zkc l hl i _ c a b;exact Zfe l hl i _ c a
def Zkq l:CP (Zm f226 0) (HY l l.length).st (.ext 0) (Tg.st ⟨tm 54 [(3,.ow 16003)],[(16003,.arr 267 2 ((Zf l l.length).map ZJ.dv))],60⟩):=by exact sF [] [] (Fg 8 (by rw[Lc]:(↑(Z Z0.dv l).length:Int)=(l.length:Int)) (Ffb 9 (X ((l.length:Int)<(l.length:Int))) Fz))
def Z27(l:List Z0)(hl:l.length<=1048576):GP 226 [ZZ l] L (Ic (runs l)) []:=by exact gF [] func226 [] (Fh 3 [.own] (Fk (0,HY l 0,.nrm,⟨tm 54 [(3,.ow 16003)],[(16003,.arr 267 2 ((Zf l l.length).map ZJ.dv))],60⟩) (Fa ((Bs (S:=λi=>(HY l i).st) l.length kr (λi a=>ZeL l hl i a) (Zkq l)):CP (Zi f226 0) (HY l 0).st Ex.nrm (Tg.mk (tm 54 [(3,AV.ow 16003)]) [(16003,Z4.arr 267 2 (Z ZJ.dv (Zf l l.length)))] 60).st) Fz)))
def Eu(l:List Z0):Nat->Nat|0=>0|i+1=>Eu l i+(if(CQ l i).K=0 then 0 else 1)
def Om l:∀i,Eu l i<=i
 |0=>LB _
 |i+1=>by
  have:=Om l i;grind[Eu]
def Cm(l:List Z0):Nat:=Eu l l.length
def Sq(l:List Z0)(i:Nat):Tg:=⟨tm 19 [(3,int (Eu l i)),(6,ZZ l),(7,int l.length),(8,int i)],[],20⟩
def Zb6(l:List Z0)(hl:l.length<=1048576)(i:Nat)(a:i<l.length):CP (Zm f249 0) (Sq l i).st .nrm (Sq l (i+1)).st:=by
 have hp:=Li a;have d:=Om l i;have f:CQ l i=l[i]:=by grind[CQ]
 by_cases hk:l[i].K=0;have e:Eu l (i+1)=Eu l i:=by grind[Eu]
 rw[show Sq l (i+1)=⟨tm 19 [(3,int (Eu l i)),(6,ZZ l),(7,int l.length),(8,int ((i+1:Nat):Int))],[],20⟩from by rw[Sq,e]];let b:=l.get (Fin.mk i a);exact sF [] [] (Fh 10 [.el b.dv] (Ft 9 (by grind[C1]:X ((i:Int)<(l.length:Int))=Y) (Fa (by grind[C1]:0<=(i:Int)/\(Z Z0.dv l)[(i:Int).toNat]?=La b.dv) (Ff 14 (by grind[C1]:(b.K != 0)=L) (Fg 17 (by grind[C1]:Lb.wrap ((i:Int)+1)=(↑(i+1):Int)) Fz)))));have e:Eu l (i+1)=Eu l i+1:=by grind[Eu]
 let c:=l.get (Fin.mk i a);exact sF [] [] (Fh 10 [.el c.dv] (Ft 9 (by grind[C1]:X ((i:Int)<(l.length:Int))=Y) (Fa (by grind[C1]:0<=(i:Int)/\(Z Z0.dv l)[(i:Int).toNat]?=La c.dv) (Ft 14 (by grind[C1]:(c.K != 0)=Y) (Fg 16 (by grind[C1]:Lb.wrap ((↑(Eu l i):Int)+1)=(↑(Eu l (i+1)):Int)) (Fg 17 (by grind[C1]:Lb.wrap ((i:Int)+1)=(↑(i+1):Int)) Fz))))))
def ZbH l:CP (Zm f249 0) (Sq l l.length).st (.ext 0) (Tg.st ⟨tm 19 [(3,int (Cm l))],[],60⟩):=by exact sF [] [] (Ffb 9 (X ((l.length:Int)<(l.length:Int))) Fz)
def Zfr(l:List Z0)(hl:l.length<=1048576):GP 249 [ZZ l] Y (int (Cm l)) []:=by exact gF [] func249 [] (Fk (0,Sq l 0,.nrm,⟨tm 19 [(3,int (Cm l))],[],60⟩) (Fg 7 (by grind:(↑(Z Z0.dv l).length:Int)=(l.length:Int)) (Fa ((Bs (S:=λi=>(Sq l i).st) l.length kr (λi a=>Zb6 l hl i a) (ZbH l)):CP (Zi f249 0) (Sq l 0).st Ex.nrm (Tg.mk (tm 19 [(3,int (↑(Cm l):Int))]) [] 60).st) Fz)))
def SB(l:List Z0)(i:Nat):Tg:=⟨tm 20 [(0,ZZ l),(3,int (Eu l i)),(4,int i)],[],20⟩
def Zd8(l:List Z0)(hl:l.length<=1048576)(i:Nat)(a:i<l.length):CP (Zm f46 0) (SB l i).st .nrm (SB l (i+1)).st:=by
 have hp:=Li a;have d:=Om l i;have f:CQ l i=l[i]:=by grind[CQ]
 by_cases hk:l[i].K=0;have e:Eu l (i+1)=Eu l i:=by grind[Eu]
 rw[show SB l (i+1)=⟨tm 20 [(0,ZZ l),(3,int (Eu l i)),(4,int ((i+1:Nat):Int))],[],20⟩from by rw[SB,e]];let b:=l.get (Fin.mk i a);exact sF [] [] (Fh 13 [.el b.dv] (Fg 7 (by grind[C1]:(↑(Z Z0.dv l).length:Int)=(l.length:Int)) (Ft 8 (by grind[C1]:X ((i:Int)<(l.length:Int))=Y) (Fa (by grind[C1]:0<=(i:Int)/\(Z Z0.dv l)[(i:Int).toNat]?=La b.dv) (Ff 16 (by grind[C1]:(b.K != 0)=L) (Fg 10 (by grind[C1]:Lb.wrap ((i:Int)+1)=(↑(i+1):Int)) Fz))))));have e:Eu l (i+1)=Eu l i+1:=by grind[Eu]
 let c:=l.get (Fin.mk i a);exact sF [] [] (Fh 13 [.el c.dv] (Fg 7 (by grind[C1]:(↑(Z Z0.dv l).length:Int)=(l.length:Int)) (Ft 8 (by grind[C1]:X ((i:Int)<(l.length:Int))=Y) (Fa (by grind[C1]:0<=(i:Int)/\(Z Z0.dv l)[(i:Int).toNat]?=La c.dv) (Ft 16 (by grind[C1]:(c.K != 0)=Y) (Fg 18 (by grind[C1]:Lb.wrap ((↑(Eu l i):Int)+1)=(↑(Eu l (i+1)):Int)) (Fg 10 (by grind[C1]:Lb.wrap ((i:Int)+1)=(↑(i+1):Int)) Fz)))))))
def Zis l:CP (Zm f46 0) (SB l l.length).st (.ext 0) (Tg.st ⟨tm 20 [(3,int (Cm l))],[],60⟩):=by exact sF [] [] (FO 7 8 Z0.dv l Fz)
def Mp(l:List Z0)(hl:l.length<=1048576):GP 46 [ZZ l] Y (int (Cm l)) []:=by exact gF [] func46 [] (Fk (0,SB l 0,.nrm,⟨tm 20 [(3,int (Cm l))],[],60⟩) (Fa ((Bs (S:=λi=>(SB l i).st) l.length kr (λi a=>Zd8 l hl i a) (Zis l)):CP (Zi f46 0) (SB l 0).st Ex.nrm (Tg.mk (tm 20 [(3,int (↑(Cm l):Int))]) [] 60).st) Fz))
def HU:List ZJ->Int->Int|[],_=>-1|r::l,k=>if k<=r.len then r.frm else HU l k
def first(l:List Z0)(k:Int):Int:=if k<1 then -1 else HU (runs l) k
def Z1b:∀{l:List ZJ} {k:Int},(l.all λr=>X (r.len<k))=Y->HU l k=-1
 |[],_,_=>rfl
 |r::l,k,h=>by
  simp only[LF,Le,decide_eq_true_eq]at h;rw[HU,if_neg oq,Z1b h.2]
def Z20:∀{l:List ZJ} {k:Int} {j:Nat} {r:ZJ},l[j]?=La r->k<=r.len->(∀i:Nat,i<j->∃y,l[i]?=La y/\X (y.len<k)=Y)->HU l k=r.frm
 |[],_,_,_,h,_,_=>by simp at h
 |x::l,k,0,r,h,hr,_=>by
  grind[HU]
 |x::l,k,j+1,r,h,hr,hb=>by
  obtain⟨y,a,b⟩:=hb 0 oq;simp at a b;subst a;rw[HU,if_neg oq];exact Z20 (by simpa using h) hr λi hi=>by
   grind
def Z7H{l}:(runs l).length<=l.length:=(Nc l l.length).1
def Nz(a:List ZJ)(k:Int)(i:Nat):Tg:=⟨tm 23 [(1,int k),(4,int 0),(10,Ic a),(11,int a.length),(12,int i)],[],20⟩
def Z5q(a:List ZJ)(k:Int)(i:Nat) r(hl:a.length<=1048576)(b:a[i]?=La r)(hk:r.len<k):CP (Zm f210 0) (Nz a k i).st .nrm (Nz a k (i+1)).st:=by have hi:i<a.length:=(Ld.1 b).1;exact sF [] [] (Fh 14 [.el r.dv] (Ftb 13 (X ((i:Int)<(a.length:Int))) (Fa (by grind[C1]:0<=(i:Int)/\(Z ZJ.dv a)[(i:Int).toNat]?=La r.dv) (Ffb 19 (X (k<=r.len)) (Fx 22 i Fz)))))
def Zbq(a:List ZJ)(k:Int)(i:Nat) r(b:a[i]?=La r)(hk:k<=r.len):CP (Zm f210 0) (Nz a k i).st .ret (Tg.st ⟨tm 23 [(4,int r.frm)],[],60⟩):=by have hi:i<a.length:=(Ld.1 b).1;exact sF [] [] (Fh 14 [.el r.dv] (Ftb 13 (X ((i:Int)<(a.length:Int))) (Fa (by grind:0<=(i:Int)/\(Z ZJ.dv a)[(i:Int).toNat]?=La r.dv) (Ftb 19 (X (k<=r.len)) Fz))))
def ZkD a k:CP (Zm f210 0) (Nz a k a.length).st (.ext 0) (Tg.st ⟨tm 23 [],[],60⟩):=by exact sF [] [] (Ffb 13 (X ((a.length:Int)<(a.length:Int))) Fz)
def Z0z(l:List Z0) k(hl:l.length<=1048576):GP 210 [ZZ l,int k] Y (int (first l k)) []:=by
 by_cases b:k<1;rw[first,if_pos b];exact gF [] func210 [] (Ftb 8 (X (k<1)) Fz);rw[first,if_neg b];have h:=Z7H (l:=l);cases ha:(runs l).all λr=>X (r.len<k)with
 |true =>rw[Z1b ha];refine Zc [((8:Nat),[Hint.br L]),((10:Nat),[Hint.call L (Ic (runs l)) []]),((11:Nat),[Hint.int (↑(runs l).length:Int)])] [((0:Nat),Nz (runs l) k 0,.nrm,⟨tm 23 [],[],60⟩)] [] dd func210 [] (φ:=X (k<(1:Int))=L/\L=L/\GP 231 [AV.d (DV.sl (4:Nat) (Z Z0.dv l))] L (Ic (runs l)) []/\(↑(Z ZJ.dv (runs l)).length:Int)=(↑(runs l).length:Int)/\CP (Zi f210 (0:Nat)) (Nz (runs l) k (0:Nat)).st Ex.nrm (Tg.mk (tm (23:Nat) []) [] (60:Nat)).st) ?_ kr kr;refine⟨decide_eq_false b,rfl,Z5c l hl,by grind,Bs (S:=λi=>(Nz (runs l) k i).st) (runs l).length kr (λi a=>?_) (ZkD _ _)⟩;have:=LG.1 ha _ (LK a);exact Z5q _ k i _ oq (Li a) (by grind)
 |false =>
  obtain⟨j,r,c,h2,d⟩:=Mz ha;have e:k<=r.len:=by grind
  rw[Z20 c e d];refine Zc [((8:Nat),[Hint.br L]),((10:Nat),[Hint.call L (Ic (runs l)) []]),((11:Nat),[Hint.int (↑(runs l).length:Int)])] [((0:Nat),Nz (runs l) k 0,.ret,⟨tm 23 [(4,int r.frm)],[],60⟩)] [] dd func210 [] (φ:=X (k<(1:Int))=L/\L=L/\GP 231 [AV.d (DV.sl (4:Nat) (Z Z0.dv l))] L (Ic (runs l)) []/\(↑(Z ZJ.dv (runs l)).length:Int)=(↑(runs l).length:Int)/\CP (Zi f210 (0:Nat)) (Nz (runs l) k (0:Nat)).st Ex.ret (Tg.mk (tm (23:Nat) [((4:Nat),int r.frm)]) [] (60:Nat)).st) ?_ kr kr;refine⟨decide_eq_false b,rfl,Z5c l hl,by grind,G5 (S:=λi=>(Nz (runs l) k i).st) j kr (λi a=>?_) (Zbq _ k j r c e)⟩;obtain⟨y,f,g⟩:=d i a;exact Z5q _ k i y oq f (by simpa using g)
def Iv(a:List ZJ)(k:Int)(i:Nat):Tg:=⟨tm 31 [(1,int k),(4,int 0),(5,Ic a),(6,int i)],[],20⟩
def Z3l(a:List ZJ)(k:Int)(i:Nat) r(hl:a.length<=1048576)(b:a[i]?=La r)(hk:k<1\/r.len<k):CP (Zm f203 0) (Iv a k i).st .nrm (Iv a k (i+1)).st:=by have hi:i<a.length:=(Ld.1 b).1;exact sF [] [] (Fh 20 [.el r.dv] (FM 11 12 ZJ.dv a i (Fa (by grind[C1]:X (1<=k)=Y->0<=(i:Int)/\(Z ZJ.dv a)[(i:Int).toNat]?=La r.dv) (Ffb 25 (X (1<=k)&&X (k<=r.len)) (Fx 14 i Fz)))))
def Zdy(rs:List ZJ)(k:Int)(i:Nat)(r:ZJ)(hr:rs[i]?=La r)(hk1:1<=k)(hk:k<=r.len):CP (Zm f203 0) (Iv rs k i).st .ret (Tg.st ⟨tm 31 [(4,int r.frm)],[],60⟩):=by
 have hi:i<rs.length:=(Ld.1 hr).1;refine Zg [((11:Nat),[Hint.int (rs.length:Int)]),((12:Nat),[Hint.br Y]),((20:Nat),[Hint.el r.dv]),((25:Nat),[Hint.br Y]),((28:Nat),[Hint.el r.dv])] [] [] [] (φ:=(↑(Z ZJ.dv rs).length:Int)=(rs.length:Int)/\X ((i:Int)<(rs.length:Int))=Y/\Y=Y/\(X ((1:Int)<=k)=Y->(0:Int)<=(i:Int)/\(Z ZJ.dv rs)[(i:Int).toNat]?=La r.dv)/\(X ((1:Int)<=k)&&X (k<=r.len))=Y/\Y=Y/\(0:Int)<=(i:Int)/\(Z ZJ.dv rs)[(i:Int).toNat]?=La r.dv) ?_ kr kr kr;exact⟨(by simp only[Lc]),(by(simp only[bs];omega)),rfl,(by grind),(by(simp only[bs];omega)),rfl,(by grind),(by grind)⟩
def Z9l a k:CP (Zm f203 0) (Iv a k a.length).st (.ext 0) (Tg.st ⟨tm 31 [],[],60⟩):=by exact sF [] [] (FO 11 12 ZJ.dv a Fz)
def AK(l:List Z0) k(hl:l.length<=1048576):GP 203 [ZZ l,int k] Y (int (first l k)) []:=by
 have h:=Z7H (l:=l);by_cases b:k<1;rw[first,if_pos b];exact gF [] func203 [] (Fh 8 [.call L (Ic (runs l)) []] (Fk (0,Iv (runs l) k 0,.nrm,⟨tm 31 [],[],60⟩) (Fa ((Z27 l hl):GP 226 [AV.d (DV.sl 4 (Z Z0.dv l))] L (Ic (runs l)) []) (Fa ((Bs (S:=λi=>(Iv (runs l) k i).st) (runs l).length kr (λi a=>Z3l _ k i _ oq (Li a) (.inl b)) (Z9l _ _)):CP (Zi f203 0) (Iv (runs l) k 0).st Ex.nrm (Tg.mk (tm 31 []) [] 60).st) Fz))));rw[first,if_neg b];cases ha:(runs l).all λr=>X (r.len<k)with
 |true =>rw[Z1b ha];refine Zc [((8:Nat),[Hint.call L (Ic (runs l)) []])] [((0:Nat),Iv (runs l) k 0,.nrm,⟨tm 31 [],[],60⟩)] [] dd func203 [] (φ:=GP 226 [AV.d (DV.sl (4:Nat) (Z Z0.dv l))] L (Ic (runs l)) []/\CP (Zi f203 (0:Nat)) (Iv (runs l) k (0:Nat)).st Ex.nrm (Tg.mk (tm (31:Nat) []) [] (60:Nat)).st) ?_ kr kr;refine⟨Z27 l hl,Bs (S:=λi=>(Iv (runs l) k i).st) (runs l).length kr (λi a=>?_) (Z9l _ _)⟩;have:=LG.1 ha _ (LK a);exact Z3l _ k i _ oq (Li a) (.inr (by grind))
 |false =>
  obtain⟨j,r,c,h2,d⟩:=Mz ha;have e:k<=r.len:=by grind
  rw[Z20 c e d];refine Zc [((8:Nat),[Hint.call L (Ic (runs l)) []])] [((0:Nat),Iv (runs l) k 0,.ret,⟨tm 31 [(4,int r.frm)],[],60⟩)] [] dd func203 [] (φ:=GP 226 [AV.d (DV.sl (4:Nat) (Z Z0.dv l))] L (Ic (runs l)) []/\CP (Zi f203 (0:Nat)) (Iv (runs l) k (0:Nat)).st Ex.ret (Tg.mk (tm (31:Nat) [((4:Nat),int r.frm)]) [] (60:Nat)).st) ?_ kr kr;refine⟨Z27 l hl,G5 (S:=λi=>(Iv (runs l) k i).st) j kr (λi a=>?_) (Zdy _ k j r c oq e)⟩;obtain⟨y,f,g⟩:=d i a;exact Z3l _ k i y oq f (.inr (by simpa using g))
def Z6V l:∀i,∀r∈Zf l i,∀j:Int,r.frm<=j->j<r.frm+r.len->(l.getD j.toNat M).K=0
 |0=>by simp[Zf]
 |i+1=>by
  have e:=Z6V l i;have ok:=(Nc l i).2;intro r a j b c;simp only[Zf,NQ]at a;have g:CQ l i=l.getD i M:=by rw[Mx];simp
  split at a
  .rename_i f;rw[g]at f;split at a
   .rename_i h;have d:=Lj (NN h.1);rcases Lt.1 a with a|a
    .exact e r (LH _ a) j b c
    .simp at a;subst a;simp only at b c;by_cases k:j=i
     .subst k;simpa using f
     .exact e _ d j b oq
   .rcases Lt.1 a with a|a
    .exact e r a j b c
    .simp at a;subst a;simp only at b c;have:j=i:=by omega
     subst this;simpa using f
  .exact e r a j b c
def Z7D:∀{l:List ZJ} {k:Int},0<=HU l k->∃r∈l,HU l k=r.frm/\k<=r.len
 |[],_,h=>by simp[HU]at h
 |r::l,k,h=>by
  rw[HU]at h⊢;split
  .exact⟨r,by simp,rfl,aa⟩
  .rename_i c;rw[if_neg c]at h;obtain⟨x,d,a,b⟩:=Z7D h;exact⟨x,by simp[d],a,b⟩
def HL{l k}(h:0<=first l k):1<=k/\first l k+k<=l.length/\HW l (first l k).toNat k.toNat=Y:=by
 unfold first at h⊢
 split at h;omega;rename_i c;rw[if_neg c];obtain⟨r,a,b,h2⟩:=Z7D h;have ok:=(Nc l l.length).2 r a;rw[b]at h⊢;refine⟨by omega,by omega,Sb.2 λj hj=>?_⟩;have:=Z6V l l.length r a (r.frm+j) oq oq;rwa [show(r.frm+(j:Int)).toNat=r.frm.toNat+j from by omega]at this
def Z1m l(k:Int):-1<=first l k/\first l k<=l.length:=by
 by_cases h:0<=first l k
 have:=HL h;omega;unfold first at h⊢
 split;omega;rename_i b;rw[if_neg b]at h;have:∀m:List ZJ,(∀r∈m,0<=r.frm)->-1<=HU m k:=by
  intro m;induction m with|nil=>intro _;simp[HU]|cons r m e =>intro a;rw[HU];split;have:=a r pq;omega;exact e λx d=>a x (by simp[d])
 have:=this (runs l) λr c=>((Nc l l.length).2 r c).1;omega
def Z3Z{c l}:∀{f i:Nat} {a:Int},0<=a->Gf c l f i a=Y->l.length<=i+f->∀j,i<=j->j<l.length->∃d,0<=d/\Gc c l j d:=by
 intro f;induction f with|zero=>intro i a _ _ o j h e;omega|succ f p =>intro i a k b o j h e;rw[Gf,if_pos oq,Le]at b;have g:=of_decide_eq_true b.1;by_cases m:j=i;subst m;exact⟨a,k,g⟩;refine p ?_ b.2 oq j oq e;unfold Ev;split;rename_i n;have:=g.2.2.2.2.2.2.2.2.2.1 n;omega;omega
def Eh{h:Heap}(g:Z8 h=Y){j:Nat}(e:j<h.P.length):0<=(h.P.getD j M).S/\(h.P.getD j M).S<=1/\0<=(h.P.getD j M).N/\(h.P.getD j M).N<=2147483647 /\
  0<=(h.P.getD j M).K/\(h.P.getD j M).K<=3/\0<=(h.P.getD j M).U/\(h.P.getD j M).U<=256/\((h.P.getD j M).K=1->(h.P.getD j M).U<=h.C.pw):=by
 have b:=I9.1 g;have hv:=BG.1 b.1;obtain⟨d,_,a⟩:=Z3Z oq b.2.2.2.2.2 oq j oq e;unfold Gc at a;have hu:(h.P.getD j M).K=2->1<=(h.P.getD j M).U/\(h.P.getD j M).U<=256:=by(intro f;have c:=(a.2.2.2.2.2.2.2.2.2.1 f).1;unfold need at c;split at c;omega;omega)
 omega
def Z9I(l:List Z0):Cm l<=l.length:=Om l l.length
abbrev tP(l:List Z0)(s:Int):List Z0:=ZM l (first l 1).toNat 1 (Z0.mk 1 s 0 0) (Z0.mk 0 0 0 0)
def EY(c:B3)(a:Zw):Bool:=ZR a&&X (a.K≠0)&&X (need c (Z5 a)≠-1)
def DJ(c:B3)(a:Zw)(hm:0<=a.map/\a.map<=4294967295):GP 165 [c.av,a.av] Y (bool (EY c a)) []:=by refine Zc [((6:Nat),[Hint.call Y (Sx.bool (ZR a)) []]),((15:Nat),[Hint.call Y (int (Z5 a)) []]),((16:Nat),[Hint.call Y (int (need c (Z5 a))) []])] [] [] dd func165 [L,L,L,L,L,L,L,L,Y] (φ:=GP 113 [a.av] Y (Sx.bool (ZR a)) []/\((ZR a&&a.K != (0:Int))=Y->GP 70 [a.av] Y (int (Z5 a)) [])/\((ZR a&&a.K != (0:Int))=Y->GP 47 [c.av,int (Z5 a)] Y (int (need c (Z5 a))) [])/\(ZR a&&a.K != (0:Int)&&need c (Z5 a) != (-1:Int))=EY c a) ?_ kr kr;exact⟨(@N0 (a) aa),(λb=>by(try simp only[bs]at b);exact@I8 (a) (by(try simp only[bs]at b);assumption)),(λb=>by(try simp only[bs]at b);exact@Rx (c) (Z5 a)),(by grind[EY])⟩
def Cs(l:List Z0)(i:Nat)(n:Int):List Z0:=l.set i ⟨(l.getD i M).K,(l.getD i M).S,(l.getD i M).U+n,(l.getD i M).N⟩
def IZ(h:Heap)(n:Int):Prop:=0<=h.B/\(h.P.getD h.B.toNat M).S=h.S/\(h.P.getD h.B.toNat M).U+n<=h.C.pw/\(Cm h.P:Int)<=CX h.C
instance (h:Heap) (n:Int):Decidable (IZ h n):=by unfold IZ;infer_instance
def HE(h:Heap):List Z0:=(Z4V h.P (first h.P 1) h.S).1
def Bj(h:Heap)(n:Int):Heap×Int×Bool:=
 if IZ h n then(⟨h.C,h.W,Cs h.P h.B.toNat n,h.S,h.B⟩,4096+h.B*h.C.pw+(h.P.getD h.B.toNat M).U,Y)
 else if 0<=first h.P 1/\(Cm h.P:Int)<CX h.C then
  (⟨h.C,h.W,Cs (HE h) (first h.P 1).toNat n,h.S,first h.P 1⟩,4096+first h.P 1*h.C.pw+((HE h).getD (first h.P 1).toNat M).U,Y)
 else(B7,0,L)
def PI{l:List Z0}{i k:Nat}{p q}(h:i+k<=l.length):(ZM l i k p q).length=l.length:=by rw[ZM,List.length_set];exact Iw (by simpa using h) pq
def NU{h:Heap}(hs:h.S=0\/h.S=1)(b:0<=first h.P 1):HE h=ZM h.P (first h.P 1).toNat 1 ⟨1,h.S,0,0⟩ ⟨0,0,0,0⟩/\(HE h).length=h.P.length/\(first h.P 1)<h.P.length /\ ((HE h).getD (first h.P 1).toNat M)=⟨1,h.S,0,0⟩:=by
 obtain⟨_,h1,a⟩:=HL b;have e:HE h=ZM h.P (first h.P 1).toNat 1 ⟨1,h.S,0,0⟩ ⟨0,0,0,0⟩:=by(rw[HE,Z4V,if_pos oq,EF,if_pos oq,if_pos a];rfl)
 have c:(HE h).length=h.P.length:=by rw[e];exact PI oq
 refine⟨e,c,by omega, ?_⟩;rw[e,ZM,Lo,LJ,if_pos rfl,if_pos (by rw[Iw qo pq];omega)];rfl
def Z9e{c:B3}(a:Zr c=Y):2<=CX c/\CX c<=16:=by have:=BG.1 a;rw[CX,if_pos a,H7 oq];omega
def HV{c:B3}{i:Int}(a:Zr c=Y)(b:0<=i)(h1:i<c.pg):0<=i*c.pw/\i*c.pw+c.pw<=4096:=by have hb:=BG.1 a;have ha:=HN a;have h2:0<=i*c.pw:=Int.mul_nonneg b oq;have d:(i+1)*c.pw<=c.pg*c.pw:=Int.mul_le_mul_of_nonneg_right oq oq;rw[Int.add_mul,LD,Ln c.pg]at d;omega
def P5(h:Heap)(n:Int)(m:Z8 h=Y)(hn:1<=n/\n<=256):GP 166 [h.av,int n] L (.tu [(Bj h n).1.av,u64 (Bj h n).2.1,bool (Bj h n).2.2]) []:=by
 have x:=B4 m;obtain⟨o,o2,o3,o4,o5,o6,o7,o8,w⟩:=x;have hb:=(I9.1 m).2.2.2.2.1;have v:=λr=>Eh m (j:=h.B.toNat) r;have hr:=Z1m h.P 1;have e:=λb=>NU (h:=h) w b;have q:=Z9I h.P;have s:=Z9e o;have t:0<=h.B->0<=h.B*h.C.pw/\h.B*h.C.pw+h.C.pw<=4096:=λk=>HV o k oq;have u:0<=first h.P 1->0<=first h.P 1*h.C.pw/\first h.P 1*h.C.pw+h.C.pw<=4096:=λk=>HV o k (by have:=e k;omega)
 by_cases b:IZ h n;have d:Bj h n=(⟨h.C,h.W,Cs h.P h.B.toNat n,h.S,h.B⟩,4096+h.B*h.C.pw+(h.P.getD h.B.toNat M).U,Y):=by rw[Bj,if_pos b]
 unfold IZ at b;rw[show Bj h n=(Heap.mk h.C h.W (h.P.set h.B.toNat (Z0.mk (h.P.getD h.B.toNat M).K (h.P.getD h.B.toNat M).S ((h.P.getD h.B.toNat M).U+n) (h.P.getD h.B.toNat M).N)) h.S h.B,(4096:Int)+h.B*h.C.pw+(h.P.getD h.B.toNat M).U,Y)from by rw[d];rfl];let a:=h.P.getD h.B.toNat M;exact gF [] func166 [] (FA 11 14 Z0.dv h.P (Fc 18 (@MG h.C) (Fc 21 (@Mp h.P oq) (FmGq 32 (!decide (h.B<0)) Z0.dv h.P h.B (FmGq 43 (!(X (h.B<0)||a.S != h.S)) Z0.dv h.P h.B (FiG 45 (!(X (h.B<0)||a.S != h.S)) (a.U+n) (Ffb 55 (X (h.B<0)||a.S != h.S||X (h.C.pw<a.U+n)||X (CX h.C<(↑(Cm h.P):Int))) (Fi 83 (h.B*h.C.pw) (Fi 84 (4096+h.B*h.C.pw) (Fmq 90 Z0.dv h.P h.B (Fi 91 (4096+h.B*h.C.pw+a.U) (Fv 92 (4096+h.B*h.C.pw+a.U) (Fmq 101 Z0.dv h.P h.B (Fi 103 (a.U+n) (Fm0q Z0.dv h.P h.B (FS 10105 Z0.dv h.P h.B.toNat (Z0.mk a.K a.S (a.U+n) a.N) (a.dv) Fz))))))))))))))));by_cases l:0<=first h.P 1/\(Cm h.P:Int)<CX h.C
 have d:Bj h n=(⟨h.C,h.W,Cs (HE h) (first h.P 1).toNat n,h.S,first h.P 1⟩,4096+first h.P 1*h.C.pw+((HE h).getD (first h.P 1).toNat M).U,Y):=by rw[Bj,if_neg b,if_pos l]
 obtain⟨y,z,q3,p⟩:=e l.1;obtain⟨r1,r2,r3⟩:=HL l.1;have r4:HW h.P (first h.P 1).toNat 1=Y:=r3;rw[y]at d z p;have q6:=congrArg Z0.U p;simp only at q6;unfold IZ at b;rw[show Bj h n=(Heap.mk h.C h.W ((ZM h.P (first h.P (1:Int)).toNat (1:Nat) (Z0.mk (1:Int) h.S (0:Int) (0:Int)) (Z0.mk (0:Int) (0:Int) (0:Int) (0:Int))).set (first h.P (1:Int)).toNat (Z0.mk ((ZM h.P (first h.P (1:Int)).toNat (1:Nat) (Z0.mk (1:Int) h.S (0:Int) (0:Int)) (Z0.mk (0:Int) (0:Int) (0:Int) (0:Int))).getD (first h.P (1:Int)).toNat M).K ((ZM h.P (first h.P (1:Int)).toNat (1:Nat) (Z0.mk (1:Int) h.S (0:Int) (0:Int)) (Z0.mk (0:Int) (0:Int) (0:Int) (0:Int))).getD (first h.P (1:Int)).toNat M).S (((ZM h.P (first h.P (1:Int)).toNat (1:Nat) (Z0.mk (1:Int) h.S (0:Int) (0:Int)) (Z0.mk (0:Int) (0:Int) (0:Int) (0:Int))).getD (first h.P (1:Int)).toNat M).U+n) ((ZM h.P (first h.P (1:Int)).toNat (1:Nat) (Z0.mk (1:Int) h.S (0:Int) (0:Int)) (Z0.mk (0:Int) (0:Int) (0:Int) (0:Int))).getD (first h.P (1:Int)).toNat M).N)) h.S (first h.P (1:Int)),(4096:Int)+first h.P (1:Int)*h.C.pw+((ZM h.P (first h.P (1:Int)).toNat (1:Nat) (Z0.mk (1:Int) h.S (0:Int) (0:Int)) (Z0.mk (0:Int) (0:Int) (0:Int) (0:Int))).getD (first h.P (1:Int)).toNat M).U,Y)from by rw[d];rfl];let f:=ZM h.P (first h.P 1).toNat 1 (Z0.mk 1 h.S 0 0) (Z0.mk 0 0 0 0);let c:=f.getD (first h.P 1).toNat M;let g:=h.P.getD h.B.toNat M;exact gF [] func166 [] (FA 11 14 Z0.dv h.P (Fc 18 (@MG h.C) (Fc 21 (@Mp h.P oq) (FmGq 32 (!decide (h.B<0)) Z0.dv h.P h.B (FmGq 43 (!(X (h.B<0)||g.S != h.S)) Z0.dv h.P h.B (FiG 45 (!(X (h.B<0)||g.S != h.S)) (g.U+n) (Ftb 55 (X (h.B<0)||g.S != h.S||X (h.C.pw<g.U+n)||X (CX h.C<(↑(Cm h.P):Int))) (Fc 58 (@AK h.P (1) oq) (Ffb 65 (X (first h.P (1:Int)<0)||X (CX h.C<=(↑(Cm h.P):Int))) (Fc 73 (@Z7z h.P (first h.P 1) h.S oq oq oq aa) (Fi 83 (first h.P 1*h.C.pw) (Fi 84 (4096+first h.P 1*h.C.pw) (Fmq 90 Z0.dv f (first h.P 1) (Fi 91 (4096+first h.P 1*h.C.pw+c.U) (Fv 92 (4096+first h.P 1*h.C.pw+c.U) (Fmq 101 Z0.dv f (first h.P 1) (Fi 103 (c.U+n) (Fm0q Z0.dv f (first h.P 1) (FS 10105 Z0.dv f ((first h.P 1).toNat) (Z0.mk c.K c.S (c.U+n) c.N) (c.dv) Fz)))))))))))))))))));have d:Bj h n=(B7,0,L):=by rw[Bj,if_neg b,if_neg l]
 unfold IZ at b;rw[d];let i:=h.P.getD h.B.toNat M;exact gF [] func166 [] (FAx 11 14 Z0.dv h.P (by(simp[B7, *];omega)) (Fc 18 (@MG h.C) (Fc 21 (@Mp h.P oq) (FmGq 32 (!decide (h.B<0)) Z0.dv h.P h.B (FmGq 43 (!(X (h.B<0)||i.S != h.S)) Z0.dv h.P h.B (FiG 45 (!(X (h.B<0)||i.S != h.S)) (i.U+n) (Ftb 55 (X (h.B<0)||i.S != h.S||X (h.C.pw<i.U+n)||X (CX h.C<(↑(Cm h.P):Int))) (Fc 58 (@AK h.P (1) oq) (Ftb 65 (X (first h.P (1:Int)<0)||X (CX h.C<=(↑(Cm h.P):Int))) (Fnl (Fnl Fz)))))))))))
end Go.Proofs.YtgedmeaemofdkaaGreat
