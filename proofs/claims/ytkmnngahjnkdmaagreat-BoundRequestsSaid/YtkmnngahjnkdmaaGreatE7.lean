/-
 The statement BoundRequests: part 7.
 Conditions: none.
-/
import Derived.Laws.Bits64b
import Derived.WalkSmall
import Derived.Test.YtkmnngahjnkdmaaGreatE6
set_option maxRecDepth 100000
set_option maxHeartbeats 2000000
set_option linter.all false
open Decidable renaming decide->X
open Bool renaming true->Y,false->M,and_eq_true->Lf,eq_false_iff->Ll,or_eq_true->Lo,eq_false_or_eq_true->Lu,eq_iff_iff->Lv,true_and->Lw
open List renaming map->Z,replicate->La,length_map->Lb,getElem?_eq_some_iff->Ld,getElem?_eq_getElem->Le,drop->Lh,mem_of_getElem?->Lj,take->Lk,map_set->Ln,getD->Lq,getD_eq_getElem?_getD->Lr,length_drop->Ls,mem_append->Lt,length_pos_iff->Lz,range->LA,all_cons->LD,all_eq_true->LF,dropLast_subset->LG,getElem?_range->LH,getElem_mem->LI,map_append->LJ,map_drop->LK,map_take->LL,mem_range->LM,take_succ_cons->LN
open Inhabited renaming default->L
open Option renaming some->O
open Go.IntKind renaming i64->Lc,u64->Lg,u32->Ly
open Int renaming toNat->Li,mul_comm->Lp,ediv_nonneg->Lx,ediv_lt_of_lt_mul->LC
open Go.Field renaming mk->Lm
open Nat renaming le_refl->LB,le_of_lt->LO,min_eq_left->LQ
open Go.Proofs.Tryz
namespace Go.Proofs.YtkmnngahjnkdmaaGreat
open Go.Sx
def ones(n:Int):Int:=2^(min n.toNat 64)-1
structure Zo where
 K:Int
 length:Int
 map:Int
 deriving DecidableEq,Inhabited
def u32(n:Int):AV:=.d (.sc (.int .u32 n))
def Zo.av(h:Zo):AV:=.ag [nI h.K,nI h.length,u32 h.map]
def or_one(k:Nat)(h:k<64):bits .or .u64 (Lg.wrap ((2^k-1)*2^min (Li 1) 64)) 1=2^(k+1)-1:=by have:k∈LA 64:=LM.2 h;revert k;decide+kernel
def Ay(m:Nat)(i:Nat):Tg:=⟨tm 14 [(2,uU 0),(3,uU (2^i-1)),(6,nI m),(7,nI i)],[],20⟩
def Zg8(m i:Nat)(hm:m<=64)(hi:i<m):CP (Zn f162 0) (Ay m i).st .nrm (Ay m (i+1)).st:=by have a:=or_one i oq;exact sF [] [M,Y]<|Ftb 8 (X ((i:Int)<(m:Int)))<|Fo ((0:Int)<=1)<|Fg 12 (E6 oq oq:Lc.wrap ((i:Int)+1)=(↑(i+1):Int))<|Fa (a:bits BinOp.or Lg (Lg.wrap ((2^i-1)*2^min (Li 1) 64)) (1:Int)=2^(i+1)-1) Fz
def ZfZ m:CP (Zn f162 0) (Ay m m).st (.ext 0) (Tg.st ⟨tm 14 [(3,uU (2^m-1))],[],60⟩):=by exact sF [] []<|Ffb 8 (X ((m:Int)<(m:Int))) Fz
def ZlK(m:Nat)(b:m<=64)  := Bs (S:=λi=>(Ay m i).st) m (by kernel_rfl) (λi a=>Zg8 m i b a) (ZfZ m)
def RU n:GP 162 [nI n] Y (uU (ones n)) []:=by
 have ei:min (max n 0) 64=((min n.toNat 64:Nat):Int):=by omega
 exact gF [] func162 []<|Fgo 5 (if 0 > n then 0 else n) (max n 0)<|Fgo 6 (if 64<max n 0 then 64 else max n 0) (↑(min n.toNat 64):Int)<|Fu (@ZlK (min n.toNat 64) oq) Fz
def ZV(h:Zo):Bool:=X (0<=h.K/\h.K<=3/\0<=h.length/\h.length<=255/\(if h.K=1 then h.length<=32/\h.map<2^h.length.toNat else h.map=0))
def Z1(h:Zo):Int:=if ZV h=Y then h.length+1 else 0
def E7:Zo:=⟨0,0,0⟩
def Zu(h:Zo):Int×Int:=if ZV h=Y then(1+4*h.K+16*h.length+65536*h.map,0)else(0,1)
def EM(w:Int):Zo:=⟨w/4%4,w/16%4096,w/65536%4294967296⟩
def Z7(w:Int):Zo×Bool:=if(Zu (EM w)).2=0/\(Zu (EM w)).1=w then(EM w,Y)else(E7,M)
def BI(h:Zo)(i:Int):Bool:=ZV h&&X (0<=i)&&X (i<h.length)&&(h.K==2||(h.K==1&&(h.map/2^i.toNat%2==1)))
theorem GC{h:Zo}:ZV h=Y↔0<=h.K/\h.K<=3/\0<=h.length/\h.length<=255/\(if h.K=1 then h.length<=32/\h.map<2^h.length.toNat else h.map=0):=by simp[ZV]
def Z6S{n:Int}(h1:n<=32):(1:Int)<=2^n.toNat/\(2:Int)^n.toNat<=4294967296:=by
 have:n.toNat<=32:=by omega
 generalize n.toNat=k at this;have hk:k∈LA 33:=LM.2 oq;revert k;decide+kernel
def ZcS{n:Int}(a:n<=32):Lg.wrap (1*2^min n.toNat 64)=2^n.toNat:=by have:=Z6S a;rw[LQ oq,Int.one_mul];exact Ms oq oq
def Zgm{h:Zo}(b:ZV h=Y)(hm:0<=h.map)(a:h.map<=4294967295):0<=h.K/\h.K<=3/\0<=h.length/\h.length<=255/\0<=h.map/\h.map<=4294967295:=by have:=GC.1 b;omega
def Nv(h:Zo)(hm:0<=h.map/\h.map<=4294967295):GP 100 [h.av] Y (bL (ZV h)) []:=by have hs:h.length<=32->Lg.wrap (1*2^min h.length.toNat 64)=2^h.length.toNat:=ZcS;rcases bb (X (h.K<0)||X (3<h.K)||X (h.length<0)||X (255<h.length))with hc0|hc0<;>have a:=hc0<;>simp only[bs]at a;exact gF [] func100 (fO 9)<|Ft 20 hc0<|Fa (by(simp[ZV, *];omega):M=ZV h) Fz;obtain⟨⟨⟨b,c⟩,e⟩,f⟩:=a;rcases bb (h.K != 1)with hc1|hc1<;>have d:=hc1<;>simp only[bs]at d;exact gF [] func100 (fO 9)<|Ff 20 hc0<|Ft 23 hc1<|Fa (by grind[ZV]:(h.map==0)=ZV h) Fz;exact gF [] func100 (fO 17)<|Ff 20 hc0<|Ff 23 hc1<|FvG 33 (X (h.length<=32)) h.map<|FvG 36 (X (h.length<=32)) h.length<|Fa (by intro g;(try simp only[bs]at g);omega:X (h.length<=32)=Y->0<=h.length)<|Fa (by grind[ZV]:(X (h.length<=32)&&X (h.map<Lg.wrap ((1:Int)*2^min h.length.toNat 64)))=ZV h) Fz
def Ix(h:Zo)(hm:0<=h.map/\h.map<=4294967295):GP 85 [h.av] Y (nI (Z1 h)) []:=by rcases bb (!ZV h)with hc0|hc0<;>have a:=hc0<;>simp only[bs]at a;exact gF [] func85 [Y]<|Fc 4 (@Nv h aa)<|Ft 5 hc0<|Fa (by simp[Z1, *]:0=Z1 h) Fz;have e:=GC.1 a;obtain⟨g,⟨f,⟨d,⟨b,c⟩⟩⟩⟩:=e;exact gF [] func85 [Y]<|Fc 4 (@Nv h aa)<|Ff 5 hc0<|Fi 8 (h.length+1)<|Fa (by simp[Z1, *]:h.length+1=Z1 h) Fz
def DL(h:Zo)(hm:0<=h.map/\h.map<=4294967295):GP 144 [h.av] Y (.tu [uU (Zu h).1,nI (Zu h).2]) []:=by rcases bb (!ZV h)with hc0|hc0<;>have a:=hc0<;>simp only[bs]at a;rw[show Zu h=((0:Int),(1:Int))from by simp[Zu, *]];exact gF [] func144 []<|Fc 5 (@Nv h aa)<|Ft 6 hc0 Fz;have e:=GC.1 a;obtain⟨g,⟨f,⟨d,⟨b,c⟩⟩⟩⟩:=e;rw[show Zu h=((1:Int)+(4:Int)*h.K+(16:Int)*h.length+h.map*(65536:Int),(0:Int))from by(simp[Zu, *];omega)];exact gF [] func144 []<|Fc 5 (@Nv h aa)<|Ff 6 hc0<|Fv 9 h.K<|Fv 10 (4*h.K)<|Fv 11 ((1:Int)+4*h.K)<|Fv 14 h.length<|Fv 15 (16*h.length)<|Fv 16 ((1:Int)+4*h.K+16*h.length)<|Fv 19 h.map<|Fg 20 (BE rfl oq oq:Lg.wrap (h.map*2^min (Li 16) 64)=h.map*65536)<|Fo ((0:Int)<=16)<|Fv 21 ((1:Int)+4*h.K+16*h.length+h.map*65536) Fz
def Z1s(w:Int)(h0:0<=w):0<=(EM w).map/\(EM w).map<=4294967295:=by simp only[EM];omega
theorem Aw(w:Int)(h0:0<=w)(h1:w<=18446744073709551615):GP 111 [uU w] Y (.tu [(Z7 w).1.av,bL (Z7 w).2]) []:=by have hm:=Z1s w h0;have Q0 {h_ c_ p_} (r_:Fq h_ c_ p_):=Fg 8 (HE rfl dd:w.fdiv (2^min (Li 2) 64)=w/4)<|Fo ((0:Int)<=2)<|Fg 9 (NR 2 dd dd oq oq:bits BinOp.and Lg (w/4) 3=w/4%4)<|Fi 10 (w/4%4)<|Fg 12 (HE rfl dd:w.fdiv (2^min (Li 4) 64)=w/16)<|Fo ((0:Int)<=4)<|Fg 13 (NR 12 dd dd oq oq:bits BinOp.and Lg (w/16) 4095=w/16%4096)<|Fi 14 (w/16%4096)<|Fg 16 (HE rfl dd:w.fdiv (2^min (Li 16) 64)=w/65536)<|Fo ((0:Int)<=16)<|Fg 17 (rfl:Ly.wrap (w/65536)=w/65536%4294967296)<|Fc 21 (@DL (Zo.mk (w/4%4) (w/16%4096) (w/65536%4294967296)) aa) r_;rcases bb ((Zu (Zo.mk (w/4%4) (w/16%4096) (w/65536%4294967296))).2 != 0||(Zu (Zo.mk (w/4%4) (w/16%4096) (w/65536%4294967296))).1 != w)with hc0|hc0<;>have hc0p:=hc0<;>simp only[bs]at hc0p;rw[show Z7 w=(Zo.mk (0:Int) (0:Int) (0:Int),M)from by grind[Z7,EM,E7]];exact gF [] func111 [] (Q0 (Ft 30 hc0 Fz));obtain⟨hc0pa,hc0pb⟩:=hc0p;rw[show Z7 w=(Zo.mk (w/(4:Int)%(4:Int)) (w/(16:Int)%(4096:Int)) (w/(65536:Int)%(4294967296:Int)),Y)from by simp[Z7,EM,E7, *]];exact gF [] func111 [] (Q0 (Ff 30 hc0 Fz))
def Z9v(h:Zo)(i:Int)(f:0<=h.map/\h.map<=4294967295)(b:ZV h=Y)(d:0<=i)(e:i<h.length) :(h.K==2||h.K==1&&bits BinOp.and Ly (h.map.fdiv (2^min i.toNat 32)) 1==1)=BI h i:=by
 have c:=GC.1 b;by_cases a:h.K=1;have hl:h.length<=32:=by simp[a]at c;omega
 have g:(0:Int)<=2^i.toNat:=Int.pow_nonneg dd;rw[LQ oq,Int.fdiv_eq_ediv_of_nonneg _ g];have j:0<=h.map/2^i.toNat:=Lx f.1 g;have h3:h.map/2^i.toNat<=h.map:=Int.ediv_le_self _ f.1;have:=ZbE 1 dd (x:=h.map/2^i.toNat) (m:=1) dd j oq;rw[this];simp[BI,b,d,e,a];have:(h.K==1)=M:=by simp[a]
 simp[BI,b,d,e,this]
def SK(h:Zo) i(n:0<=h.map/\h.map<=4294967295):GP 43 [h.av,nI i] Y (bL (BI h i)) []:=by rcases bb (!ZV h||X (i<0)||X (h.length<=i))with hc0|hc0<;>have b:=hc0<;>simp only[bs]at b;exact gF [] func43 (fO 6)<|Fc 6 (@Nv h aa)<|Ft 17 hc0<|Fa (by grind[BI]:M=BI h i) Fz;obtain⟨⟨a,e⟩,g⟩:=b;have j:=GC.1 a;obtain⟨l,⟨k,⟨f,⟨c,d⟩⟩⟩⟩:=j;exact gF [] func43 (fO 18)<|Fc 6 (@Nv h aa)<|Ff 17 hc0<|FvG 29 (!h.K==2&&h.K==1) i<|Fa (by intro m;(try simp only[bs]at m);omega:(!h.K==2&&h.K==1)=Y->0<=i)<|Fa (Z9v h i n aa oq oq:(h.K==2||h.K==1&&bits BinOp.and Ly (h.map.fdiv (2^min i.toNat 32)) (1:Int)==1)=BI h i) Fz
end Go.Proofs.YtkmnngahjnkdmaaGreat
namespace Go.Proofs.YtkmnngahjnkdmaaGreat
open Go.Sx Go.RowKit
def Z8j(h:Zo):List DV:=[Ze h.K,Ze h.length,.sc (.int .u32 h.map)]
def range_u32{n}(h:(Lit.int .u32 n).wf=Y):0<=n/\n<=4294967295:=by simp[Lit.wf,IntKind.min,IntKind.max,IntKind.signed,IntKind.bits]at h;omega
def Zg1{n:Nat}{l}(h:E4 prog (n+2) 31 l):∃x:Zo,l=Z8j x/\0<=x.map/\x.map<=4294967295:=by
 have e:E4 prog (n+2) 31 l=(∃a b,l=a++b/\(∃x:Int,a=[.sc (.int .i64 x)]/\(Lit.int .i64 x).wf=Y)/\∃f g,b=f++g/\(∃x:Int,f=[.sc (.int .i64 x)]/\(Lit.int .i64 x).wf=Y) /\
  ∃c d,g=c++d/\(∃x:Int,c=[.sc (.int .u32 x)]/\(Lit.int .u32 x).wf=Y)/\d=[]):=by kernel_rfl
 rw[e]at h;obtain⟨a,b,rfl,⟨x,rfl,_⟩,f,g,rfl,⟨y,rfl,_⟩,a2,b2,rfl,⟨z,rfl,i⟩,rfl⟩:=h;exact⟨⟨x,y,z⟩,rfl,range_u32 i⟩
end Go.Proofs.YtkmnngahjnkdmaaGreat
namespace Go.Proofs.YtkmnngahjnkdmaaGreat
open Go.Sx
def C6{α:Type}(ws:List α)(i:Nat)(l:List α):List α:=ws.take i++l++ws.drop (i+l.length)
def Zw(ws:List Int)(a n:Int):Int×Bool:=if 4096<=a/\a<=4096+ws.length then(a-4096,X (n<=ws.length-(a-4096)))else(0,M)
def Cg(ws:List Int)(a:Int):Int×Int:=if 4096<=a/\a<4096+ws.length then(a-4096,0)else(0,2)
def Z5(ws:List Int)(a:Int):Int×Int:=if 4096<=a/\a<4096+ws.length then(ws.getD (a-4096).toNat 0,0)else(0,2)
def C4(ws:List Int)(a n:Int):List Int×Int:=if n<0 then([],1)else if 4096<=a/\a-4096+n<=ws.length then((ws.drop (a-4096).toNat).take n.toNat,0)else([],2)
def ZZ(ws:List Int)(a:Int)(l:List Int):List Int×Int:=if 4096<=a/\a-4096+l.length<=ws.length then(C6 ws (a-4096).toNat l,0)else([],2)
def Cj(ws:List Int)(a v:Int):List Int×Int:=ZZ ws a [v]
def moveA(ws:List Int)(a b n:Int):List Int×Int:=if(C4 ws b n).2≠0 then([],(C4 ws b n).2)else ZZ ws a (C4 ws b n).1
def Z5C ws a n:(C4 ws a n).1.length<=ws.length:=by unfold C4;split;simp;split;simp;omega;simp
def Z62{ws a n}(h:(Zw ws a n).2=Y):(Zw ws a n).1=a-4096/\4096<=a/\a<=4096+ws.length/\a-4096+n<=ws.length:=by unfold Zw at h⊢;split at h;rename_i b;rw[if_pos b];simp at h;simp;omega;simp at h
def Z86{ws a n}(h:(Zw ws a n).2=M):¬ (4096<=a/\a<=4096+ws.length/\a-4096+n<=ws.length):=by unfold Zw at h;split at h;simp at h;omega;omega
def Z6q{ws a}(h:(Cg ws a).2=0):(Cg ws a).1=a-4096/\4096<=a/\a<4096+ws.length:=by unfold Cg at h⊢;split at h;rename_i b;rw[if_pos b];exact⟨rfl,b⟩;simp at h
def Z8k{ws a}(h:¬ (Cg ws a).2=0):¬ (4096<=a/\a<4096+ws.length)/\(Cg ws a).2=2:=by unfold Cg at h⊢;split at h;simp at h;rename_i b;rw[if_neg b];exact⟨b,rfl⟩
def Dw(ws:List Int)(a n:Int)(hw:ws.length<=1048576)(h0:0<=a/\a<=18446744073709551615):GP 152 [Z2 ws,uU a,nI n] Y (.tu [nI (Zw ws a n).1,bL (Zw ws a n).2]) []:=by have e {h_ c_ p_} (f:Fq h_ c_ p_):=FlG 14 (!decide (a<4096)) wD ws<|FvG 15 (!decide (a<4096)) (↑ws.length)<|FvG 16 (!decide (a<4096)) (4096+(ws.length:Int)) f;rcases bb (X (a<4096)||X (4096+(ws.length:Int)<a))with hc0|hc0<;>have b:=hc0<;>simp only[bs]at b;rw[show Zw ws a n=((0:Int),M)from by(simp[Zw, *];omega)];exact gF [] func152 [] (e (Ft 18 hc0 Fz));obtain⟨c,d⟩:=b;rw[show Zw ws a n=(a-(4096:Int),X (n<=(ws.length:Int)-(a-(4096:Int))))from by simp[Zw, *]];exact gF [] func152 [] (e (Ff 18 hc0<|Fv 20 (a-4096)<|Fi 21 (a-4096)<|Fl 25 wD ws<|Fi 27 ((ws.length:Int)-(a-4096)) Fz))
def Z6I(ws:List Int)(a:Int)(hw:ws.length<=1048576)(h0:0<=a/\a<=18446744073709551615):GP 165 [Z2 ws,uU a] Y (.tu [nI (Cg ws a).1,nI (Cg ws a).2]) []:=by have c {h_ c_ p_} (d:Fq h_ c_ p_):=Fc 11 (@Dw ws a (1) aa aa) d;rcases bb (!(Zw ws a 1).2)with hc0|hc0<;>have b:=hc0<;>simp only[bs]at b;rw[show Cg ws a=((0:Int),(2:Int))from by grind[Zw,Cg]];exact gF [] func165 [] (c (Ft 15 hc0 Fz));rw[show Cg ws a=((Zw ws a (1:Int)).1,(0:Int))from by grind[Zw,Cg]];exact gF [] func165 [] (c (Ff 15 hc0 Fz))
theorem HV(ws:List Int)(a:Int)(hw:ws.length<=1048576)(h0:0<=a/\a<=18446744073709551615):GP 110 [Z2 ws,uU a] Y (.tu [uU (Z5 ws a).1,nI (Z5 ws a).2]) []:=by rcases bb ((Cg ws a).2 != 0)with hc0|hc0<;>have b:=hc0<;>simp only[bs]at b;have c:=Z8k b;obtain⟨g,h⟩:=c;rw[show Z5 ws a=((0:Int),(Cg ws a).2)from by simp[Z5, *]];exact gF [] func110 []<|Fc 11 (@Z6I ws a aa aa)<|Ft 15 hc0 Fz;have d:=Z6q b;obtain⟨i,⟨e,f⟩⟩:=d;rw[show Z5 ws a=(ws.getD (Cg ws a).1.toNat L,(0:Int))from by simp[Z5, *]];refine Zb [((11:Nat),[Hint.call Y (AV.tu [nI (Cg ws a).1,nI (Cg ws a).2]) []]),((15:Nat),[Hint.br M]),((19:Nat),[Hint.el (wD (ws.getD (Cg ws a).1.toNat L))])] [] [] dd func110 [] (φ:=GP 165 [Z2 ws,uU a] Y (AV.tu [nI (Cg ws a).1,nI (Cg ws a).2]) []/\((Cg ws a).2 != (0:Int))=M/\M=M/\(0:Int)<=(Cg ws a).1/\(Z wD ws)[(Cg ws a).1.toNat]?=O (wD (ws.getD (Cg ws a).1.toNat L))) ?_ kr kr;exact⟨(@Z6I (ws) (a) aa aa),aa,rfl,(by exact Zp oq oq oq)⟩
def Z12(ws:List Int)(a n:Int)(hw:ws.length<=1048576)(h0:0<=a/\a<=18446744073709551615):GP 99 [Z2 ws,uU a,nI n] Y (.tu [Z2 (C4 ws a n).1,nI (C4 ws a n).2]) []:=by rcases bb (X (n<0))with hc0|hc0<;>have hc0p:=hc0<;>simp only[bs]at hc0p;exact gF [] func99 [Y]<|Ft 11 hc0<|Fnl (Fa (by simp[C4, *]:[]=Z wD (C4 ws a n).1)<|Fa (by simp[C4, *]:1=(C4 ws a n).2) Fz);have Q0 {h_ c_ p_} (r_:Fq h_ c_ p_):=Ff 11 hc0<|Fc 16 (@Dw ws a n aa aa) r_;rcases bb (!(Zw ws a n).2)with hc9|hc9<;>have hc9p:=hc9<;>simp only[bs]at hc9p;have hf12:=Z86 hc9p;exact gF [] func99 [Y] (Q0 (Ft 20 hc9<|Fnl (Fa (by(simp only[C4] ;exact sj):[]=Z wD (C4 ws a n).1)<|Fa (by(simp only[C4] ;exact sj):2=(C4 ws a n).2) Fz)));have hf14:=Z62 hc9p;obtain⟨hf14a,⟨hf14ba,⟨hf14bba,hf14bbb⟩⟩⟩:=hf14;rw[show C4 ws a n=(Lk (((Zw ws a n).1+n).toNat-(Zw ws a n).1.toNat) (Lh (Zw ws a n).1.toNat ws),(0:Int))from by(simp[C4, *];omega)];exact gF [] func99 []<|Fh 28 [.els (Z wD (Lk (((Zw ws a n).1+n).toNat-(Zw ws a n).1.toNat) (Lh (Zw ws a n).1.toNat ws)))] (Q0 (Ff 20 hc9<|Fs 21 (Z wD [])<|Fi 26 ((Zw ws a n).1+n)<|Fa (by(simp only[Lb];omega):0<=(Zw ws a n).1/\(Zw ws a n).1<=(Zw ws a n).1+n/\(Zw ws a n).1+n<=(↑(Z wD ws).length:Int))<|Fa (by simp[C4,LL,LK,Ln,LJ,wD,iD]:Lk (((Zw ws a n).1+n).toNat-(Zw ws a n).1.toNat) (Lh (Zw ws a n).1.toNat (Z wD ws))=Z wD (Lk (((Zw ws a n).1+n).toNat-(Zw ws a n).1.toNat) (Lh (Zw ws a n).1.toNat ws)))<|Fa (by(simp[C4, *];omega):(Z wD []).length+(Z wD (Lk (((Zw ws a n).1+n).toNat-(Zw ws a n).1.toNat) (Lh (Zw ws a n).1.toNat ws))).length<=2^30)<|Fs 27 (Z wD (Lk (((Zw ws a n).1+n).toNat-(Zw ws a n).1.toNat) (Lh (Zw ws a n).1.toNat ws)))<|Fa (H6 _:Ca (Z wD (Lk (((Zw ws a n).1+n).toNat-(Zw ws a n).1.toNat) (Lh (Zw ws a n).1.toNat ws)))) Fz))
def wr{α:Type}(ws l:List α)(i k:Nat):List α:=ws.take i++l.take k++ws.drop (i+k)
theorem Tc{α:Type}(ws l:List α)(i:Nat):wr ws l i 0=ws:=by simp[wr]
def TS{α:Type}(ws l:List α)(i:Nat):wr ws l i l.length=C6 ws i l:=by simp[wr,C6]
theorem Ni{α:Type}{ws l:List α}{i k:Nat}(h:i+l.length<=ws.length)(hk:k<=l.length):(wr ws l i k).length=ws.length:=by simp[wr];omega
theorem Nx{α:Type}{ws l:List α}{i:Nat}(h:i+l.length<=ws.length):(C6 ws i l).length=ws.length:=by
 rw[<-TS];exact Ni h (LB _)
theorem M7{α:Type}{ws l:List α}{i k:Nat}(h:i+l.length<=ws.length)(hk:k<=l.length)(j:Nat):(wr ws l i k)[j]?=if j<i then ws[j]? else if j<i+k then l[j-i]? else ws[j]?:=by
 have e:(l.take k).length=k:=by simp;omega
 have:=A6 (l:=ws) (xs:=l.take k) (o:=i) oq j;rw[e]at this;rw[wr,this];split
 .rfl
 .split
  .rw[List.getElem?_take_of_lt oq]
  .rfl
def Z01{α:Type}{ws l:List α}{i k:Nat}(h:i+l.length<=ws.length)(e:k<l.length)(d:α):(wr ws l i k).set (i+k) (l.getD k d)=wr ws l i (k+1):=by apply List.ext_getElem?;intro j;have f:=Ni h (LO e);rw[List.getElem?_set,M7 h oq,M7 h oq,f];by_cases c:i+k=j;subst c;rw[if_pos rfl,if_pos oq,if_neg oq,if_pos oq];simp[Lq,e];rw[if_neg c];by_cases a:j<i;rw[if_pos a,if_pos a];rw[if_neg a,if_neg a];by_cases b:j<i+k;rw[if_pos b,if_pos oq];rw[if_neg b,if_neg oq]
def TY(ws l:List Int)(i:Int)(k:Nat):Tg:=⟨tm 41 [(2,Z2 l),(8,nI i),(10,.ow 32024),(11,nI k)],[(32024,.arr 44 1 ((wr ws l i.toNat k).map wD))],60⟩
def ZjT(ws l:List Int)(i:Int)(k:Nat)(hw:ws.length<=1048576)(hi:0<=i)(h:i.toNat+l.length<=ws.length)(a:k<l.length):CP (Zn f145 0) (TY ws l i k).st .nrm (TY ws l i (k+1)).st:=by
 have b:=Z01 h a L;have hn:=Ni h (LO a);have ei:i+k=((i.toNat+k:Nat):Int):=by omega
 exact sF [] (fO 4)<|Fh 10039 [.els (Z wD ((wr ws l i.toNat k).set (↑(i.toNat+k):Int).toNat (l.getD k L)))]<|FM 27 28 wD l k<|Fg 34 (by rw[E6 oq oq];omega:Lc.wrap (i+(k:Int))=(↑(i.toNat+k):Int))<|Fek 37 wD l (↑k) k<|Fa (by(simp only[Lb];omega):0<=(↑(i.toNat+k):Int)/\(↑(i.toNat+k):Int).toNat<(Z wD (wr ws l i.toNat k)).length)<|Fa (by(simp only[Lb];omega):(↑(i.toNat+k):Int).toNat<(Z wD (wr ws l i.toNat k)).length)<|Fa (ms:(Z wD (wr ws l i.toNat k)).set (↑(i.toNat+k):Int).toNat [ZD (l.getD k L)]=Z wD ((wr ws l i.toNat k).set (↑(i.toNat+k):Int).toNat (l.getD k L)))<|Fx 30 k<|Fr (44:Int)<|Fa (by refine congrArg _ ?_;exact b:Z wD ((wr ws l i.toNat k).set (↑(i.toNat+k):Int).toNat (l.getD k L))=Z wD (wr ws l i.toNat (k+1))) Fz
def ZfH(ws l:List Int)(i:Int):CP (Zn f145 0) (TY ws l i l.length).st (.ext 0) (Tg.st ⟨tm 41 [(10,.ow 32024)],[(32024,.arr 44 1 ((C6 ws i.toNat l).map wD))],60⟩):=by
 have hs:=TS ws l i.toNat
 exact sF [] [M,Y]<|FO 27 28 wD l<|Fr (44:Int)<|Fa (by refine congrArg _ ?_;assumption:Z wD (wr ws l i.toNat l.length)=Z wD (C6 ws i.toNat l)) Fz
def ZeW(ws l:List Int)(i:Int)(c:ws.length<=1048576)(a:0<=i)(h:i.toNat+l.length<=ws.length):CP (Zl f145 0) (Tg.st ⟨tm 41 [(2,Z2 l),(8,nI i),(10,.ow 32024),(11,nI 0)],[(32024,.arr 44 1 (ws.map wD))],60⟩) .nrm (Tg.st ⟨tm 41 [(10,.ow 32024)],[(32024,.arr 44 1 ((C6 ws i.toNat l).map wD))],60⟩):=by
 have:=Bs (S:=λk=>(TY ws l i k).st) l.length kr (λk b=>ZjT ws l i k c a h b) (ZfH ws l i);simp only[TY,Tc]at this;exact this
def Tq(ws l:List Int)(a:Int)(hw:ws.length<=1048576)(h0:0<=a/\a<=18446744073709551615)(hl:l.length<=1048576):GP 145 [Z2 ws,uU a,Z2 l] Y (.tu [Z2 (ZZ ws a l).1,nI (ZZ ws a l).2]) []:=by have Q0 {h_ c_ p_} (r_:Fq h_ c_ p_):=Fl 16 wD l<|Fc 17 (@Dw ws a ((l.length:Int)) aa aa) r_;rcases bb (!(Zw ws a (l.length:Int)).2)with hc0|hc0<;>have hc0p:=hc0<;>simp only[bs]at hc0p;have hf3:=Z86 hc0p;exact gF [] func145 [Y] (Q0 (Ft 21 hc0<|Fnl (Fa (by(simp only[ZZ] ;exact sj):[]=Z wD (ZZ ws a l).1)<|Fa (by(simp only[ZZ] ;exact sj):2=(ZZ ws a l).2) Fz)));have hf5:=Z62 hc0p;obtain⟨hf5a,⟨hf5ba,⟨hf5bba,hf5bbb⟩⟩⟩:=hf5;rw[show ZZ ws a l=(C6 ws (Zw ws a (l.length:Int)).1.toNat l,(0:Int))from by simp[ZZ, *]];exact gF [] func145 [] (Q0 (Ff 21 hc0<|FAx 22 24 wD ws (by(simp[ZZ, *];omega))<|Fu (@ZeW ws l ((Zw ws a (l.length:Int)).1) aa oq oq)<|Fa (H6 _:Ca (Z wD (C6 ws (Zw ws a (l.length:Int)).1.toNat l))) Fz))
def Z3j(ws:List Int)(a v:Int)(hw:ws.length<=1048576)(h0:0<=a/\a<=18446744073709551615):GP 170 [Z2 ws,uU a,uU v] M (.tu [Z2 (Cj ws a v).1,nI (Cj ws a v).2]) []:=by exact gF [] func170 []<|Fs 11 (Z wD [v])<|Fc 12 (@Tq ws ([v]) a aa aa (by simp[Cj, *])) Fz
def ZhJ(ws:List Int)(a b n:Int)(hw:ws.length<=1048576)(h0:0<=a/\a<=18446744073709551615)(h1:0<=b/\b<=18446744073709551615):GP 195 [Z2 ws,uU a,uU b,nI n] M (.tu [Z2 (moveA ws a b n).1,nI (moveA ws a b n).2]) []:=by have hr:=Z5C ws b n;have d {h_ c_ p_} (e:Fq h_ c_ p_):=Fc 16 (@Z12 ws b n aa aa) e;rcases bb ((C4 ws b n).2 != 0)with hc0|hc0<;>have c:=hc0<;>simp only[bs]at c;exact gF [] func195 [Y] (d (Ft 20 hc0<|Fnl (Fa (by simp[moveA, *]:[]=Z wD (moveA ws a b n).1)<|Fa (by simp[moveA, *]:(C4 ws b n).2=(moveA ws a b n).2) Fz)));rw[show moveA ws a b n=ZZ ws a (C4 ws b n).1 from by simp[moveA, *]];exact gF [] func195 [] (d (Ff 20 hc0<|Fc 25 (@Tq ws ((C4 ws b n).1) a aa aa oq) Fz))
def NF n:GP 107 [nI n] Y (bL (X (0<=n)&&X (n<=2147483647))) []:=by exact gF [] func107 [] Fz
def EK(sp:Int):List Z0->Nat|[]=>0|p::r=>if p.K=3/\p.S=sp then EK sp r+1 else 0
def PZ sp:∀l,EK sp l<=l.length
 |[]=>LB _
 |p::r=>by
  have:=PZ sp r;simp only[EK,List.length_cons];split<;>omega
def drop_at{l:List Z0}{k:Nat}(h:k<l.length):l.drop k=l.getD k L::l.drop (k+1):=by rw[List.drop_eq_getElem_cons h];simp[Lq,h]
def OW(l:List Z0)(sp:Int)(n k:Nat):Tg:=⟨tm 37 [(0,ZJ l),(2,nI sp),(7,nI n),(8,nI k)],[],60⟩
def ZiH(l:List Z0)(hl:l.length<=1048576)(sp:Int)(n k:Nat)(hn:n<=k)(hk:k<l.length)(h:(l.getD k L).K=3/\(l.getD k L).S=sp):CP (Zn f108 0) (OW l sp n k).st .nrm (OW l sp (n+1) (k+1)).st:=by let a:=(k:Int)<(l.length:Int);exact sF [] []<|Fl 13 Z0.dv l<|FeG 18 (decide a) Z0.dv l (↑k) k<|FeG 26 (decide a&&(l.getD k L).K==3) Z0.dv l (↑k) k<|Ftb 31 (decide a&&(l.getD k L).K==3&&(l.getD k L).S==sp)<|Fx 35 n<|Fx 33 k Fz
def Z7J(l:List Z0)(hl:l.length<=1048576)(sp:Int)(n k:Nat)(h:k<l.length->¬ ((l.getD k L).K=3/\(l.getD k L).S=sp)):CP (Zn f108 0) (OW l sp n k).st (.ext 0) (Tg.st ⟨tm 37 [(7,nI n)],[],60⟩):=by let a:=(k:Int)<(l.length:Int);exact sF [] []<|Fl 13 Z0.dv l<|FeG 18 (decide a) Z0.dv l (↑k) k<|FeG 26 (decide a&&(l.getD k L).K==3) Z0.dv l (↑k) k<|Ffb 31 (decide a&&(l.getD k L).K==3&&(l.getD k L).S==sp) Fz
def Zh1(l:List Z0)(hl:l.length<=1048576) sp:∀(m n k:Nat),l.length-k=m->n<=k->Gh prog f108 0 (OW l sp n k).st (.ext 0) (Tg.st ⟨tm 37 [(7,nI ((n+EK sp (l.drop k):Nat):Int))],[],60⟩):=by
 intro m;induction m with
 |zero =>intro n k b a;have e:l.drop k=[]:=List.drop_eq_nil_of_le oq;rw[e];exact .endx (Z7J l hl sp n k (λh=>by omega))
 |succ m c =>
  intro n k b a;rw[drop_at oq,EK];by_cases h:(l.getD k L).K=3/\(l.getD k L).S=sp
  .rw[if_pos h];have:=c (n+1) (k+1) oq oq;rw[show n+1+EK sp (l.drop (k+1))=n+(EK sp (l.drop (k+1))+1)from by omega]at this;exact .next (ZiH l hl sp n k a oq h) this
  rw[if_neg h];exact .endx (Z7J l hl sp n k (λ_=>h))
def Zgh(l:List Z0)(sp:Int)(k:Nat)(hl:l.length<=1048576):CP (Zl f108 0) (Tg.st ⟨tm 37 [(0,ZJ l),(2,nI sp),(7,nI 0),(8,nI k)],[],60⟩) .nrm (Tg.st ⟨tm 37 [(7,nI (EK sp (l.drop k)))],[],60⟩):=by
 have:=(Zh1 l hl sp _ 0 k rfl oq).ext kr;rw[Nat.zero_add]at this;exact this
def Z6p(l:List Z0)(i:Nat) sp(hl:l.length<=1048576)(hi:i<l.length):GP 108 [ZJ l,nI i,nI sp] Y (nI (EK sp (l.drop (i+1)))) []:=by exact gF [] func108 []<|Fx 10 i<|Fu (@Zgh l sp (i+1) aa) Fz
def Gi(c:ZU)(l:List Z0)(i:Nat)(a:Int):Prop:=
 ((l.getD i L).K=3↔0<a)/\0<=(l.getD i L).S/\(l.getD i L).S<=1/\0<=(l.getD i L).N/\(l.getD i L).N<=2147483647 /\
 0<=(l.getD i L).K/\(l.getD i L).K<=3 /\
 ((l.getD i L).K=0->(l.getD i L).S=0/\(l.getD i L).U=0/\(l.getD i L).N=0) /\
 ((l.getD i L).K=1->0<=(l.getD i L).U/\(l.getD i L).U<=c.pw) /\
 ((l.getD i L).K=2->1<=need c (l.getD i L).U/\need c (l.getD i L).U-1<=EK (l.getD i L).S (l.drop (i+1))) /\
 ((l.getD i L).K=3->(l.getD i L).U=0/\(l.getD i L).N=0)
def EI(c:ZU)(l:List Z0)(i:Nat)(a:Int):Int:=if(l.getD i L).K=2 then need c (l.getD i L).U-1 else max 0 (a-1)
def Dp(h:Heap)(i:Nat)(a:Int):Tg:=⟨tm 157 [(1,.pt 8001 0 0),(2,bL M),(3,nI a),(4,nI i)],[(8001,.box 27 h.cells)],60⟩
def N3 c(n:Int):-1<=need c n/\need c n<=5:=by unfold need;split;rename_i h;have:=BR.1 h.1;split;omega;have h1:0<=(n+c.pw-1)/c.pw:=Lx oq oq;have h2:(n+c.pw-1)/c.pw<6:=LC oq oq;omega;omega
def Z55(h:Heap)(i:Nat)(a:Int)(hl:h.P.length<=1048576)(hi:i<h.P.length)(hd:0<=a/\a<=5)(k:Gi h.C h.P i a):CP (Zn f55 0) (Dp h i a).st .nrm (Dp h (i+1) (EI h.C h.P i a)).st:=by have hn:=N3 h.C (h.P.getD i L).U;have l:=PZ (h.P.getD i L).S (h.P.drop (i+1));rw[Ls]at l;unfold Gi at k;let b:=h.P.getD i L;have f {h_ c_ p_} (m:Fq h_ c_ p_):=FN 72 73 79 Z0.dv h.P i<|FcG 100 (!(!(b.K==3)==X (0<a)||X (b.S<0)||X (1<b.S))) (λj=>by(try simp only[bs]at j);exact@NF (b.N))<|Ffb 102 (!(b.K==3)==X (0<a)||X (b.S<0)||X (1<b.S)||!(X (0<=b.N)&&X (b.N<=2147483647))) m;rcases bb ((h.P.getD i L).K==0)with hc0|hc0<;>have c:=hc0<;>simp only[bs]at c;exact sF [] (fO 12)<|Fh 105 [.br Y] (f (Fa hc0<|Ffb 109 (!(b.K==0&&(b.S==0&&(b.U==0&&b.N==0))))<|Fi 155 (a-1)<|Fgo 156 (if a-1 > 0 then a-1 else 0) (max 0 (a-1))<|Fx 75 i<|Fa (by grind[EI]:max 0 (a-1)=EI h.C h.P i a) Fz));rcases bb ((h.P.getD i L).K==1)with hc1|hc1<;>have d:=hc1<;>simp only[bs]at d;exact sF [] (fO 18)<|Fh 110 [.br Y]<|Fh 122 [.br M] (f (Fa hc0<|Fa hc1<|Ffb 105 (X (b.U<0)||X (h.C.pw<b.U))<|Fi 155 (a-1)<|Fgo 156 (if a-1 > 0 then a-1 else 0) (max 0 (a-1))<|Fx 75 i<|Fa (by grind[EI]:max 0 (a-1)=EI h.C h.P i a) Fz));rcases bb ((h.P.getD i L).K==2)with hc2|hc2<;>have e:=hc2<;>simp only[bs]at e;let g:=need h.C b.U-1;exact sF [] (fO 21)<|Fh 110 [.br M]<|Fh 123 [.br Y]<|Fh 142 [.br M] (f (Fa hc0<|Fa hc1<|Fa hc2<|Fc 129 (@RX h.C (b.U))<|FcG 138 (!decide (need h.C b.U<1)) (λj=>by(try simp only[bs]at j);exact@Z6p h.P i (b.S) aa aa)<|FiG 140 (!decide (need h.C b.U<1)) g<|Ffb 105 (X (need h.C b.U<1)||X ((↑(EK b.S (Lh (i+1) h.P)):Int)<need h.C b.U-1))<|Fi 155 g<|Fgo 156 (if need h.C b.U-1 > 0 then need h.C b.U-1 else 0) (max 0 g)<|Fx 75 i<|Fa (by grind[EI]:max 0 g=EI h.C h.P i a) Fz));exact sF [] (fO 15)<|Fh 110 [.br M]<|Fh 123 [.br M]<|Fh 144 [.br Y]<|Fh 153 [.br M] (f (Fa hc0<|Fa hc1<|Fa hc2<|Fb ((b.K==3)=Y)<|Ffb 105 (b.U != 0||b.N != 0)<|Fi 155 (a-1)<|Fgo 156 (if a-1 > 0 then a-1 else 0) (max 0 (a-1))<|Fx 75 i<|Fa (by grind[EI]:max 0 (a-1)=EI h.C h.P i a) Fz))
def Zkm(h:Heap)(i:Nat)(b:Int)(hl:h.P.length<=1048576)(hi:i<h.P.length)(hd:0<=b/\b<=5)(q:¬ Gi h.C h.P i b):CP (Zn f55 0) (Dp h i b).st .ret (Tg.st ⟨tm 157 [(2,bL M)],[],60⟩):=by have hn:=N3 h.C (h.P.getD i L).U;have r:=PZ (h.P.getD i L).S (h.P.drop (i+1));rw[Ls]at r;unfold Gi at q;let a:=h.P.getD i L;have d {h_ c_ p_} (s:Fq h_ c_ p_):=FN 72 73 79 Z0.dv h.P i<|FcG 100 (!(!(a.K==3)==X (0<b)||X (a.S<0)||X (1<a.S))) (λp=>by(try simp only[bs]at p);exact@NF (a.N)) s;rcases bb (!((h.P.getD i L).K==3)==X (0<b)||X ((h.P.getD i L).S<0)||X (1<(h.P.getD i L).S)||!(X (0<=(h.P.getD i L).N)&&X ((h.P.getD i L).N<=2147483647)))with hc0|hc0<;>have c:=hc0<;>simp only[bs]at c;exact sF [] [] (d (Ft 102 hc0 Fz));obtain⟨⟨⟨e,f⟩,m⟩,⟨n,o⟩⟩:=c;rcases bb ((h.P.getD i L).K==0)with hc1|hc1<;>have g:=hc1<;>simp only[bs]at g;exact sF [] []<|Fh 109 [.br Y] (d (Ff 102 hc0<|Fa hc1<|Ftb 105 (!(a.K==0&&(a.S==0&&(a.U==0&&a.N==0)))) Fz));rcases bb ((h.P.getD i L).K==1)with hc2|hc2<;>have j:=hc2<;>simp only[bs]at j;exact sF [] []<|Fh 105 [.br M]<|Fh 122 [.br Y] (d (Ff 102 hc0<|Fa hc1<|Fa hc2<|Ftb 110 (X ((h.P.getD i L).U<0)||X (h.C.pw<(h.P.getD i L).U)) Fz));rcases bb ((h.P.getD i L).K==2)with hc3|hc3<;>have k:=hc3<;>simp only[bs]at k;exact sF [] []<|Fh 105 [.br M]<|Fh 110 [.br M]<|Fh 142 [.br Y] (d (Ff 102 hc0<|Fa hc1<|Fa hc2<|Fa hc3<|Fc 129 (@RX h.C (a.U))<|FcG 138 (!decide (need h.C a.U<1)) (λp=>by(try simp only[bs]at p);exact@Z6p h.P i (a.S) aa aa)<|FiG 140 (!decide (need h.C a.U<1)) (need h.C a.U-1)<|Ftb 123 (X (need h.C a.U<1)||X ((↑(EK a.S (Lh (i+1) h.P)):Int)<need h.C a.U-1)) Fz));rcases bb ((h.P.getD i L).K==3)with hc4|hc4<;>have l:=hc4<;>simp only[bs]at l;exact sF [] []<|Fh 105 [.br M]<|Fh 110 [.br M]<|Fh 123 [.br M]<|Fh 153 [.br Y] (d (Ff 102 hc0<|Fa hc1<|Fa hc2<|Fa hc3<|Fa hc4<|Ftb 144 (a.U != 0||a.N != 0) Fz));exact sF [] []<|Fh 105 [.br M]<|Fh 110 [.br M]<|Fh 123 [.br M]<|Fh 144 [.br M] (d (Ff 102 hc0<|Fa hc1<|Fa hc2<|Fa hc3<|Fa hc4 Fz))
def Za8(h:Heap) a:CP (Zn f55 0) (Dp h h.P.length a).st (.ext 0) (Tg.st ⟨tm 157 [],[],60⟩):=by exact sF [] []<|FO 72 73 Z0.dv h.P Fz
instance (c:ZU) (l:List Z0) (i:Nat) (due:Int):Decidable (Gi c l i due):=by unfold Gi;infer_instance
def Gj(c:ZU)(l:List Z0):Nat->Nat->Int->Bool|0,_,_=>Y|f+1,i,due=>if i<l.length then X (Gi c l i due)&&Gj c l f (i+1) (EI c l i due)else Y
def ZkH{c}{l:List Z0}{f i:Nat}{a:Int}(h:l.length<=i):Gj c l f i a=Y:=by
 cases f with|zero=>rfl|succ f=>rw[Gj,if_neg oq]
def Z1E{c}{l:List Z0}{f i:Nat}{a:Int}(h:i<l.length)(hf:l.length<=i+f):Gj c l f i a=(X (Gi c l i a)&&Gj c l (f-1) (i+1) (EI c l i a)):=by
 cases f with|zero=>omega|succ f=>rw[Gj,if_pos h];rfl
def Z2Q{c}{l:List Z0}{f i:Nat}(h:i<l.length)(hf:l.length<=i+f):GU c l f i=(if Ci c l i=0 then M else GU c l (f-1) (i+Ci c l i)):=by
 cases f with|zero=>omega|succ f=>rw[GU,if_pos h];rfl
def ZiL{c}{l:List Z0}:∀{m f g i:Nat},l.length-i<=m->l.length<=i+f->l.length<=i+g->GU c l f i=GU c l g i:=by
 intro m;induction m with
 |zero =>
  intro f g i k b d;have e:∀f,GU c l f i=Y:=by
   intro f;cases f with|zero=>rw[GU,decide_eq_true oq]|succ f=>rw[GU,if_neg oq]
  rw[e,e]
 |succ m j =>intro f g i k b d;by_cases h:i<l.length;rw[Z2Q h b,Z2Q h d];by_cases a:Ci c l i=0;rw[if_pos a,if_pos a];rw[if_neg a,if_neg a];exact j oq oq oq;exact j oq b d
def getD_at{l:List Z0}{i:Nat}(h:i<l.length):l[i]?=O (l.getD i L):=by simp[Lq,h]
def Zgb{c}{l:List Z0}{sp:Int}(n:sp=0\/sp=1)(q:Z0)(hq:q.S=sp):∀(d f i:Nat),d<=EK sp (l.drop i)->i+d<=l.length->l.length<=i+f ->
  Gj c l f i d=(R3 q ((l.drop i).take d)&&Gj c l (f-d) (i+d) 0):=by
 intro d;induction d with
 |zero=>intro f i _ _ _;simp[R3]
 |succ d o =>
  intro f i h h2 m;have j:i<l.length:=by omega
  rw[drop_at j,EK]at h;by_cases g:(l.getD i L).K=3/\(l.getD i L).S=sp;rw[if_pos g]at h;have k:EI c l i ((d+1:Nat):Int)=(d:Int):=by(unfold EI;rw[if_neg oq];omega)
  rw[Z1E j m,k,o (f-1) (i+1) oq oq oq,drop_at j,LN,show f-1-d=f-(d+1)from by omega,show i+1+d=i+(d+1)from by omega];have e:X (Gi c l i ((d+1:Nat):Int))=HQ (l.getD i L) q:=by(rw[Lv];simp only[decide_eq_true_eq,HQ];unfold Gi;generalize l.getD i L=p at g;obtain⟨a,b,u,v⟩:=p;simp only[Z0.mk.injEq]at g⊢;omega)
  rw[e];simp[R3,Bool.and_assoc];rw[if_neg g]at h;omega
def Z56{sp:Int}{q:Z0}(b:q.S=sp):∀{l:List Z0} {d:Nat},R3 q (l.take d)=Y->d<=l.length->d<=EK sp l
 |_,0,_,_=>Nat.zero_le _
 |[],d+1,_,h=>by simp at h
 |p::l,d+1,h,hl=>by
  simp only[R3,LN,LD,Lf]at h;have a:=h.1;simp only[HQ,decide_eq_true_eq]at a;have:=Z56 (sp:=sp) b (l:=l) (d:=d) h.2 (by simpa using hl);rw[EK,if_pos (by rw[a];exact⟨rfl,b⟩)];omega
def ZhI{c}{l:List Z0}:∀{m f i:Nat},l.length-i<=m->l.length<=i+f->Gj c l f i 0=GU c l f i:=by
 intro m;induction m with
 |zero =>
  intro f i hm y;rw[ZkH oq];cases f with|zero=>rw[GU,decide_eq_true oq]|succ f=>rw[GU,if_neg oq]
 |succ m ih =>
  intro f i hm y;by_cases z:i<l.length;rotate_left;exact ih oq y;have w:=getD_at z;rw[Z1E z y,Z2Q z y];generalize d:l.getD i L=p at w;have j:∀(b:Bool),EI c l i 0=0->X (Gi c l i 0)=b->Ci c l i=(if b=Y then 1 else 0)->(X (Gi c l i 0)&&Gj c l (f-1) (i+1) (EI c l i 0))=(if Ci c l i=0 then M else GU c l (f-1) (i+Ci c l i)):=by(intro b h1 h2 h3;rw[h1,h2,h3,ih oq oq];cases b<;>simp)
  by_cases g:p.K=2;rotate_left;have o:EI c l i 0=0:=by unfold EI;rw[d,if_neg g];omega
  by_cases k:p.K=0;refine j (Hy p) o ?_ (by rw[Ci,w];simp only[k,if_true]);rw[Lv];simp only[decide_eq_true_eq,Hy];unfold Gi;rw[d];obtain⟨a,b,u,v⟩:=p;simp only[Z0.mk.injEq]at k g⊢;omega;by_cases s:p.K=1;refine j (Nw p c) o ?_ (by rw[Ci,w];simp[s]);rw[Lv];simp only[decide_eq_true_eq,Nw,GG,Nl,Lf,Lo,beq_iff_eq];unfold Gi;rw[d];omega;refine j M o ?_ (by rw[Ci,w];simp[k,s,g]);simp only[decide_eq_false_iff_not];unfold Gi;rw[d];omega;have o:EI c l i 0=need c p.U-1:=by unfold EI;rw[d,if_pos g]
  have n:Gi c l i 0↔GT p c=Y/\need c p.U-1<=EK p.S (l.drop (i+1)):=by(simp only[GT,GG,Nl,Lf,Lo,beq_iff_eq,decide_eq_true_eq];unfold Gi;rw[d];omega)
  have x:Ci c l i=(if GT p c=Y then(if(need c p.U).toNat<=l.length-i/\R3 p ((l.drop (i+1)).take ((need c p.U).toNat-1))=Y then(need c p.U).toNat else 0)else 0):=by(rw[Ci,w];simp[g])
  by_cases t:GT p c=Y;have hn:1<=need c p.U/\(p.S=0\/p.S=1):=by(simp only[GT,GG,Nl,Lf,Lo,beq_iff_eq,decide_eq_true_eq]at t;omega)
  have a1:=PZ p.S (l.drop (i+1));rw[Ls]at a1;rw[x,if_pos t,o];by_cases ht:need c p.U-1<=EK p.S (l.drop (i+1));rw[decide_eq_true (n.2 ⟨t,ht⟩),Lw];have e:need c p.U-1=(((need c p.U).toNat-1:Nat):Int):=by omega
  rw[e,Zgb hn.2 p rfl _ _ _ oq oq oq];have r:(need c p.U).toNat<=l.length-i:=by omega
  cases htb:R3 p ((l.drop (i+1)).take ((need c p.U).toNat-1))with|false=>simp|true =>simp only[r,and_self,if_true];rw[if_neg oq,Lw,ih oq oq,show i+1+((need c p.U).toNat-1)=i+(need c p.U).toNat from by omega];exact ZiL (m:=l.length) oq oq oq
  rw[decide_eq_false (λh=>ht (n.1 h).2),Bool.false_and];have a0:¬ ((need c p.U).toNat<=l.length-i/\R3 p ((l.drop (i+1)).take ((need c p.U).toNat-1))=Y):=by(intro h;have:=Z56 (sp:=p.S) (q:=p) rfl h.2 (by rw[Ls];omega);omega)
  rw[if_neg a0];simp;rw[x,if_neg t,decide_eq_false (λh=>t (n.1 h).1)];simp
def Z4k{c l i}{a:Int}(hd:0<=a/\a<=5)(b:Gi c l i a):0<=EI c l i a/\EI c l i a<=5:=by have:=N3 c (l.getD i L).U;unfold Gi at b;unfold EI;split<;>omega
def ZdT(h:Heap)(hl:h.P.length<=1048576):∀(f i:Nat) (a:Int),i<=h.P.length->h.P.length<=i+f->0<=a/\a<=5->Gj h.C h.P f i a=Y->Gh prog f55 0 (Dp h i a).st (.ext 0) (Tg.st ⟨tm 157 [],[],60⟩):=by
 intro f;induction f with
 |zero =>
  intro i a j g c b;have:i=h.P.length:=by omega
  subst this;exact .endx (Za8 h a)
 |succ f k =>
  intro i a j g c b;by_cases e:i<h.P.length
  .rw[Gj,if_pos e,Lf]at b;have d:=of_decide_eq_true b.1;exact .next (Z55 h i a hl e c d) (k (i+1) _ oq oq (Z4k c d) b.2)
  have:i=h.P.length:=by omega
  subst this;exact .endx (Za8 h a)
def Zaz(h:Heap)(hl:h.P.length<=1048576):∀(f i:Nat) (a:Int),0<=a/\a<=5->Gj h.C h.P f i a=M->Gh prog f55 0 (Dp h i a).st .ret (Tg.st ⟨tm 157 [(2,bL M)],[],60⟩):=by
 intro f;induction f with
 |zero=>intro i a d b;cases b
 |succ f g =>
  intro i a d b;by_cases e:i<h.P.length;rw[Gj,if_pos e]at b;by_cases c:Gi h.C h.P i a
  .rw[decide_eq_true c,Lw]at b;exact .next (Z55 h i a hl e d c) (g (i+1) _ (Z4k d c) b)
  exact .endr (Zkm h i a hl e d c);rw[Gj,if_neg e]at b;cases b
def Zcy(h:Heap)(hl:h.P.length<=1048576)(a:Gj h.C h.P h.P.length 0 0=Y):CP (Zl f55 0) (Tg.st ⟨tm 157 [(1,.pt 8001 0 0),(2,bL M),(3,nI 0),(4,nI 0)],[(8001,.box 27 h.cells)],60⟩) .nrm (Tg.st ⟨tm 157 [],[],60⟩):=
 (ZdT h hl _ 0 0 oq oq oq a).ext kr
def Zas(h:Heap)(hl:h.P.length<=1048576)(a:Gj h.C h.P h.P.length 0 0=M):CP (Zl f55 0) (Tg.st ⟨tm 157 [(1,.pt 8001 0 0),(2,bL M),(3,nI 0),(4,nI 0)],[(8001,.box 27 h.cells)],60⟩) .ret (Tg.st ⟨tm 157 [(2,bL M)],[],60⟩):=
 (Zaz h hl _ 0 0 oq a).ret kr
def Z1H l(i:Int):E9 l i=l.getD i.toNat L:=by rw[E9,Lr];rfl
def Hl{h:Heap}:Z9 h=Y↔Zm h.C=Y/\(h.W.length:Int)=h.C.pw*h.C.pg/\(h.P.length:Int)=h.C.pg/\(h.S=0\/h.S=1) /\ (h.B=-1\/(0<=h.B/\h.B<h.P.length/\(h.P.getD h.B.toNat L).K=1))/\Gj h.C h.P h.P.length 0 0=Y:=by rw[ZhI (m:=h.P.length) oq oq];simp only[Z9,Lf,OD,MP,Lo,beq_iff_eq,decide_eq_true_eq,Z1H];constructor;rintro⟨⟨a,b,c,d⟩,f,e⟩;exact⟨a,b,c,d,by omega,e⟩;rintro⟨a,b,c,d,f,e⟩;exact⟨⟨a,b,c,d⟩,by omega,e⟩
def CS(h:Heap):GP 55 [h.av] Y (bL (Z9 h)) []:=by
  by_cases m:Zm h.C=Y
  . have y:=HM m;rw[Lp]at y;have z:=BR.1 m;have ei:h.C.pg*h.C.pw=h.C.pw*h.C.pg:=Lp _ _;cases x:Gj h.C h.P h.P.length 0 0 with
    | true => rcases Lu (!Zm h.C||(h.W.length:Int) != h.C.pw*h.C.pg||(h.P.length:Int) != h.C.pg||X (h.S<(0:Int))||X ((1:Int)<h.S))with hc0 | hc0
              . have a:=hc0;simp only[bs]at a;exact gF [] func55 (fO 24)<|Fh 21 [.int (h.C.pw*h.C.pg)]<|Fc 9 (@GM h.C)<|FlG 14 (!!Zm h.C) wD h.W<|Fa (by intro l;(try simp only[bs]at l);rw[E6 oq oq];omega:(!!Zm h.C)=Y->Lc.wrap (h.C.pg*h.C.pw)=h.C.pw*h.C.pg)<|FlG 27 (!(!Zm h.C||(h.W.length:Int) != h.C.pw*h.C.pg)) Z0.dv h.P<|Ft 42 ‹(!Zm h.C||(h.W.length:Int) != h.C.pw*h.C.pg||(h.P.length:Int) != h.C.pg||X (h.S<0)||X (1<h.S))=Y›<|Fa (by exact(Ll.2 (λf=>by obtain⟨n,o,p,r,s,t⟩:=Hl.1 f;simp[m]at a;omega)).symm:M=Z9 h) Fz
              . have a:=hc0;simp only[bs]at a;obtain⟨⟨⟨⟨c,d⟩,e⟩,g⟩,i⟩:=a;have v {h_ c_ p_} (u:Fq h_ c_ p_):=Fc 9 (@GM h.C)<|FlG 14 (!!Zm h.C) wD h.W<|Fa (by intro l;(try simp only[bs]at l);rw[E6 oq oq];omega:(!!Zm h.C)=Y->Lc.wrap (h.C.pg*h.C.pw)=h.C.pw*h.C.pg)<|FlG 27 (!(!Zm h.C||(h.W.length:Int) != h.C.pw*h.C.pg)) Z0.dv h.P<|Ff 42 ‹(!Zm h.C||(h.W.length:Int) != h.C.pw*h.C.pg||(h.P.length:Int) != h.C.pg||X (h.S<0)||X (1<h.S))=M›<|FlG 55 (h.B != (-1:Int)&&!decide (h.B<0)) Z0.dv h.P<|FeGq 63 (h.B != (-1:Int)&&!(X (h.B<0)||X ((h.P.length:Int)<=h.B))) Z0.dv h.P h.B u;rcases bb (h.B != (-1:Int)&&(X (h.B<0)||X ((h.P.length:Int)<=h.B)||(h.P.getD h.B.toNat L).K != 1))with hc1|hc1<;>have b:=hc1<;>simp only[bs]at b
                . obtain⟨j,k⟩:=b;exact gF [] func55 (fO 45)<|Fh 21 [.int (h.C.pw*h.C.pg)] (v (Ft 68 hc1<|Fa (by exact(Ll.2 (λf=>by obtain⟨n,o,p,r,s,t⟩:=Hl.1 f;omega)).symm:M=Z9 h) Fz))
                . exact gF [] func55 (fO 50)<|Fh 21 [.int (h.C.pw*h.C.pg)] (v (Ff 68 hc1<|Fu (@Zcy h oq aa)<|Fa (by exact(Hl.2 ⟨m,by omega,by omega,by omega,by omega,x⟩).symm:Y=Z9 h) Fz))
    | false => rcases Lu (!Zm h.C||(h.W.length:Int) != h.C.pw*h.C.pg||(h.P.length:Int) != h.C.pg||X (h.S<(0:Int))||X ((1:Int)<h.S))with hc0 | hc0
               . have a:=hc0;simp only[bs]at a;exact gF [] func55 (fO 24)<|Fh 21 [.int (h.C.pw*h.C.pg)]<|Fc 9 (@GM h.C)<|FlG 14 (!!Zm h.C) wD h.W<|Fa (by intro l;(try simp only[bs]at l);rw[E6 oq oq];omega:(!!Zm h.C)=Y->Lc.wrap (h.C.pg*h.C.pw)=h.C.pw*h.C.pg)<|FlG 27 (!(!Zm h.C||(h.W.length:Int) != h.C.pw*h.C.pg)) Z0.dv h.P<|Ft 42 ‹(!Zm h.C||(h.W.length:Int) != h.C.pw*h.C.pg||(h.P.length:Int) != h.C.pg||X (h.S<0)||X (1<h.S))=Y›<|Fa (by exact(Ll.2 (λf=>by obtain⟨n,o,p,r,s,t⟩:=Hl.1 f;simp[m]at a;omega)).symm:M=Z9 h) Fz
               . have a:=hc0;simp only[bs]at a;obtain⟨⟨⟨⟨c,d⟩,e⟩,g⟩,i⟩:=a;have w {h_ c_ p_} (u:Fq h_ c_ p_):=Fc 9 (@GM h.C)<|FlG 14 (!!Zm h.C) wD h.W<|Fa (by intro l;(try simp only[bs]at l);rw[E6 oq oq];omega:(!!Zm h.C)=Y->Lc.wrap (h.C.pg*h.C.pw)=h.C.pw*h.C.pg)<|FlG 27 (!(!Zm h.C||(h.W.length:Int) != h.C.pw*h.C.pg)) Z0.dv h.P<|Ff 42 ‹(!Zm h.C||(h.W.length:Int) != h.C.pw*h.C.pg||(h.P.length:Int) != h.C.pg||X (h.S<0)||X (1<h.S))=M›<|FlG 55 (h.B != (-1:Int)&&!decide (h.B<0)) Z0.dv h.P<|FeGq 63 (h.B != (-1:Int)&&!(X (h.B<0)||X ((h.P.length:Int)<=h.B))) Z0.dv h.P h.B u;rcases bb (h.B != (-1:Int)&&(X (h.B<0)||X ((h.P.length:Int)<=h.B)||(h.P.getD h.B.toNat L).K != 1))with hc1|hc1<;>have b:=hc1<;>simp only[bs]at b
                 . obtain⟨j,k⟩:=b;exact gF [] func55 (fO 45)<|Fh 21 [.int (h.C.pw*h.C.pg)] (w (Ft 68 hc1<|Fa (by exact(Ll.2 (λf=>by obtain⟨n,o,p,r,s,t⟩:=Hl.1 f;omega)).symm:M=Z9 h) Fz))
                 . exact gF [] func55 (fO 50)<|Fh 21 [.int (h.C.pw*h.C.pg)] (w (Ff 68 hc1<|Fu (@Zas h oq aa)<|Fa (by exact(Ll.2 (λf=>by have q:=(Hl.1 f).2.2.2.2.2;rw[x]at q;cases q)).symm:M=Z9 h) Fz))
  . have hf:Zm h.C=M:=by simpa using m
    exact gF [] func55 (fO 24)<|Fc 9 (@GM h.C)<|FlG 14 (!!Zm h.C) wD h.W<|FlG 27 (!(!Zm h.C||(h.W.length:Int) != Lc.wrap (h.C.pg*h.C.pw))) Z0.dv h.P<|Ft 42 (by simp[*]:(!Zm h.C||(h.W.length:Int) != Lc.wrap (h.C.pg*h.C.pw)||(h.P.length:Int) != h.C.pg||X (h.S<0)||X (1<h.S))=Y)<|Fa (by exact(Ll.2 (λf=>m (Hl.1 f).1)).symm:M=Z9 h) Fz
def Zz(ws:List Int):Prop:=∀w∈ws,0<=w/\w<=18446744073709551615
def Z1w{ws}(h:Zz ws)(i:Nat):0<=ws.getD i 0/\ws.getD i 0<=18446744073709551615:=by
 rw[Lr];cases e:ws[i]? with|none=>simp|some x=>exact h x (Lj e)
def EW{ws}(h:Zz ws) a:0<=(Z5 ws a).1/\(Z5 ws a).1<=18446744073709551615:=by unfold Z5;split;exact Z1w h _;simp
def IT(w:Int)(h:0<=w):0<=(Z7 w).1.map/\(Z7 w).1.map<=4294967295:=by unfold Z7;split;exact Z1s w h;simp[E7]
def B7{h:Heap}(c:Z9 h=Y):Zm h.C=Y/\16<=h.C.pw/\h.C.pw<=64/\8<=h.C.pg/\h.C.pg<=64/\(h.W.length:Int)=h.C.pw*h.C.pg/\h.W.length<=4096/\(h.P.length:Int)=h.C.pg/\(h.S=0\/h.S=1):=by simp only[Z9,Lf]at c;obtain⟨b,d,e,f⟩:=OD.1 c.1;have a:=BR.1 b;have:=HM b;exact⟨b,a.1,a.2.1,a.2.2.2.1,a.2.2.2.2,d,by omega,e,f⟩
def Hg{c:ZU}{a}(e:Zm c=Y)(h:(Z4 c a).2.2=0):0<=(Z4 c a).1/\(Z4 c a).1<c.pg/\0<=(Z4 c a).2.1/\(Z4 c a).2.1<c.pw/\4096<=a/\a<4096+c.pw*c.pg/\a=4096+((Z4 c a).1*c.pw+(Z4 c a).2.1):=by have hb:=BR.1 e;unfold Z4 at h⊢;rw[if_pos e]at h⊢;split at h;rename_i d;rw[if_pos d];simp only;have f:0<=(a-4096)/c.pw:=Lx oq oq;have g:(a-4096)/c.pw<c.pg:=LC oq (by rw[Lp];omega);have i:=Int.emod_nonneg (a-4096) (b:=c.pw) oq;have j:=Int.emod_lt_of_pos (a-4096) (b:=c.pw) oq;have k:=Int.mul_ediv_add_emod (a-4096) c.pw;refine⟨f,g,i,j,d.1,d.2, ?_⟩;rw[Lp]at k;omega;simp at h
def Zc(h:Heap)(a:Int):Zo×Int:=
 if Z9 h=Y then
  (if(Z4 h.C a).2.2=0 then
   (if((h.P.getD (Z4 h.C a).1.toNat L).K=1\/(h.P.getD (Z4 h.C a).1.toNat L).K=2)/\(Z4 h.C a).2.1<(h.P.getD (Z4 h.C a).1.toNat L).U/\(Z7 (Z5 h.W a).1).2=Y then
    (if((h.P.getD (Z4 h.C a).1.toNat L).K=1/\(h.P.getD (Z4 h.C a).1.toNat L).U<(Z4 h.C a).2.1+Z1 (Z7 (Z5 h.W a).1).1) \/
      ((h.P.getD (Z4 h.C a).1.toNat L).K=2/\((Z4 h.C a).2.1≠0\/Z1 (Z7 (Z5 h.W a).1).1≠(h.P.getD (Z4 h.C a).1.toNat L).U))then(E7,19)
     else((Z7 (Z5 h.W a).1).1,0))
    else(E7,19))
   else(E7,2))
 else(E7,1)
def Ip(h:Zo):0<=Z1 h/\Z1 h<=256:=by unfold Z1;split;have:=GC.1 aa;omega;omega
def Nt(h:Heap)(a:Int)(hw:Zz h.W)(h0:0<=a/\a<=18446744073709551615):GP 56 [h.av,uU a] Y (.tu [(Zc h a).1.av,nI (Zc h a).2]) []:=by have hr:=EW hw a;have hd:=IT (Z5 h.W a).1 hr.1;have hs:=Ip (Z7 (Z5 h.W a).1).1;rcases bb (!Z9 h)with hc0|hc0<;>have g:=hc0<;>simp only[bs]at g;rw[show Zc h a=(Zo.mk (0:Int) (0:Int) (0:Int),(1:Int))from by simp[Zc,E7, *]];exact gF [] func56 []<|Fc 16 (@CS h)<|Ft 17 hc0 Fz;have a1:=B7 g;obtain⟨a3,⟨a2,⟨z,⟨t,⟨o,⟨m,⟨k,⟨e,f⟩⟩⟩⟩⟩⟩⟩⟩:=a1;have Q0 {h_ c_ p_} (u:Fq h_ c_ p_):=Fc 16 (@CS h)<|Ff 17 hc0<|Fc 23 (@Hn h.C a oq oq) u;rcases bb ((Z4 h.C a).2.2 != 0)with hc18|hc18<;>have b:=hc18<;>simp only[bs]at b;rw[show Zc h a=(Zo.mk (0:Int) (0:Int) (0:Int),(2:Int))from by simp[Zc,E7, *]];exact gF [] func56 [] (Q0 (Ft 28 hc18 Fz));have r:=Hg aa b;obtain⟨a0,⟨y,⟨s,⟨n,⟨l,⟨i,j⟩⟩⟩⟩⟩⟩:=r;have Q1 {h_ c_ p_} (u:Fq h_ c_ p_):=Q0<|Ff 28 hc18<|Fe 33 Z0.dv h.P ((Z4 h.C a).1)<|Fc 39 (@HV h.W a oq aa)<|Fc 44 (@Aw ((Z5 h.W a).1) oq oq) u;rcases bb ((h.P.getD (Z4 h.C a).1.toNat L).K != 1&&(h.P.getD (Z4 h.C a).1.toNat L).K != 2||X ((h.P.getD (Z4 h.C a).1.toNat L).U<=(Z4 h.C a).2.1)||!(Z7 (Z5 h.W a).1).2)with hc27|hc27<;>have c:=hc27<;>simp only[bs]at c;rw[show Zc h a=(Zo.mk (0:Int) (0:Int) (0:Int),(19:Int))from by grind[Zc,E7]];exact gF [] func56 [] (Q1 (Ft 64 hc27 Fz));obtain⟨⟨p,q⟩,v⟩:=c;have Q2 {h_ c_ p_} (u:Fq h_ c_ p_):=Q1<|Ff 64 hc27<|Fc 67 (@Ix ((Z7 (Z5 h.W a).1).1) aa)<|FiG 74 ((h.P.getD (Z4 h.C a).1.toNat L).K==1) ((Z4 h.C a).2.1+Z1 (Z7 (Z5 h.W a).1).1) u;rcases bb ((h.P.getD (Z4 h.C a).1.toNat L).K==1&&X ((h.P.getD (Z4 h.C a).1.toNat L).U<(Z4 h.C a).2.1+Z1 (Z7 (Z5 h.W a).1).1)||(h.P.getD (Z4 h.C a).1.toNat L).K==2&&((Z4 h.C a).2.1 != 0||Z1 (Z7 (Z5 h.W a).1).1 != (h.P.getD (Z4 h.C a).1.toNat L).U))with hc40|hc40<;>have d:=hc40<;>simp only[bs]at d;rw[show Zc h a=(Zo.mk (0:Int) (0:Int) (0:Int),(19:Int))from by(simp only[Zc,E7] ;exact sj)];exact gF [] func56 [] (Q2 (Ft 93 hc40 Fz));obtain⟨w,x⟩:=d;rw[show Zc h a=((Z7 (Z5 h.W a).1).1,(0:Int))from by grind[Zc,E7]];exact gF [] func56 [] (Q2 (Ff 93 hc40 Fz))
abbrev aP(h:Heap)(a:Int):Z0:=h.P.getD (Z4 h.C a).1.toNat L
end Go.Proofs.YtkmnngahjnkdmaaGreat
namespace Go.Proofs.YtkmnngahjnkdmaaGreat
open Go.Sx Go.RowKit
def Z4a{α β:Type}{f:α->β}{p:α->Prop}:∀{l:List β},(∀x∈l,∃a,x=f a/\p a)->∃m:List α,l=m.map f/\∀a∈m,p a
 |[],_=>⟨[],rfl,by simp⟩
 |x::l,h=>by
  obtain⟨a,rfl,d⟩:=h x pq;obtain⟨m,rfl,e⟩:=Z4a (l:=l) λy g=>h y (by simp[g]);exact⟨a::m,rfl,λb c=>by rcases List.mem_cons.1 c with rfl|c;exact d;exact e b c⟩
def Z1h{n:Nat}{l}(h:E4 prog (n+2) 24 l):∃m:List Int,l=[.sl 1 (m.map wD)]/\m.length<=140737488355328/\Zz m:=by
 have e:E4 prog (n+2) 24 l=(∃els:List (List DV),l=[.sl 1 els]/\els.length<=140737488355328/\∀x∈els,E4 prog (n+1) 44 x):=by kernel_rfl
 rw[e]at h;obtain⟨els,rfl,a,b⟩:=h;obtain⟨m,rfl,c⟩:=Z4a (f:=wD) (p:=λx=>0<=x/\x<=18446744073709551615) λx g=>by(obtain⟨v,rfl,d⟩:=ZeG (b x g);exact⟨v,rfl,range_u64 d⟩)
 exact⟨m,rfl,by simpa using a,c⟩
def Z9M{n:Nat}{l}(h:E4 prog (n+2) 28 l):∃m:List Int,l=[.sl 1 (m.map iD)]/\m.length<=140737488355328:=by
 have e:E4 prog (n+2) 28 l=(∃els:List (List DV),l=[.sl 1 els]/\els.length<=140737488355328/\∀x∈els,E4 prog (n+1) 3 x):=by kernel_rfl
 rw[e]at h;obtain⟨els,rfl,a,b⟩:=h;obtain⟨m,rfl⟩:=Z3z (f:=iD) λx c=>by(obtain⟨v,rfl,_⟩:=Z3l (b x c);exact⟨v,rfl⟩)
 exact⟨m,rfl,by simpa using a⟩
def Z8R(h:Heap):List DV:=[Ze h.C.pw,Ze h.C.pg,.sl 1 (h.W.map wD),.sl 4 (h.P.map Z0.dv),Ze h.S,Ze h.B]
def ZbJ{n:Nat}{l}(h:E4 prog (n+4) 27 l):∃x:Heap,l=Z8R x/\Zz x.W:=by
 have e:E4 prog (n+4) 27 l=(∃a b,l=a++b/\E4 prog (n+3) 23 a/\∃a1 i,b=a1++i/\E4 prog (n+3) 24 a1/\∃d j,i=d++j/\E4 prog (n+3) 25 d /\
  ∃f k,j=f++k/\E4 prog (n+3) 3 f/\∃g m,k=g++m/\E4 prog (n+3) 3 g/\m=[]):=by kernel_rfl
 rw[e]at h;obtain⟨a,b,rfl,p,a1,i,rfl,k1,d,j,rfl,q,f,k,rfl,r,g,m,rfl,t,rfl⟩:=h;obtain⟨c,rfl⟩:=Zk5 (n:=n+1) p;obtain⟨w,rfl,_,o⟩:=Z1h (n:=n+1) k1;obtain⟨v,rfl,_⟩:=Zfi (n:=n) q;obtain⟨s,rfl,_⟩:=Z3l (n:=n+2) r;obtain⟨u,rfl,_⟩:=Z3l (n:=n+2) t;exact⟨⟨c,w,v,s,u⟩,rfl,o⟩
end Go.Proofs.YtkmnngahjnkdmaaGreat
namespace Go.Proofs.YtkmnngahjnkdmaaGreat
open Go.Sx
def Z2G{w}(h:(Z7 w).2=Y):ZV (Z7 w).1=Y:=by unfold Z7 at h⊢;split at h;rename_i a;rw[if_pos a];have:=a.1;unfold Zu at this;split at this;assumption;simp at this;cases h
def MN{h a}(e:(Zc h a).2=0):Z9 h=Y/\(Z4 h.C a).2.2=0/\4096<=a/\a<8192/\ZV (Zc h a).1=Y/\0<=(Zc h a).1.K/\(Zc h a).1.K<=3/\0<=(Zc h a).1.length/\(Zc h a).1.length<=255:=by
 have b:Z9 h=Y/\(Z4 h.C a).2.2=0/\ZV (Zc h a).1=Y:=by(unfold Zc at e⊢;split at e;rename_i c;split at e;rename_i d;split at e;rename_i f;split at e;simp at e;rename_i j;rw[if_pos c,if_pos d,if_pos f,if_neg j];exact⟨c,d,Z2G f.2.2⟩;simp at e;simp at e;simp at e)
 obtain⟨k1,g,i⟩:=b;have p:=B7 k1;have o:=Hg p.1 g;have v:=GC.1 i;have ar:=HM p.1;exact⟨k1,g,o.2.2.2.2.1,by omega,i,v.1,v.2.1,v.2.2.1,v.2.2.2.1⟩
def IE{h:Heap}(d:Zz h.W) a:0<=(Zc h a).1.map/\(Zc h a).1.map<=4294967295:=by
 have c:=EW d a;have b:=IT (Z5 h.W a).1 c.1;unfold Zc;repeat' split
 all_goals first|exact b|simp[E7]
def Zy(h:Heap)(a:Int):Zo×Int:=if Z9 h=Y then(if a=0 then(E7,5)else if(Zc h a).2=0/\(Zc h a).1.K=0 then(E7,4)else Zc h a)else(E7,1)
def Z3d{h:Heap}(b:Zz h.W) a:0<=(Zy h a).1.map/\(Zy h a).1.map<=4294967295:=by
 have:=IE b a;unfold Zy;repeat' split
 all_goals first|exact this|simp[E7]
def Su{h a}(e:(Zy h a).2=0):Zy h a=Zc h a/\(Zc h a).2=0/\Z9 h=Y/\(Z4 h.C a).2.2=0/\4096<=a/\a<8192/\ZV (Zy h a).1=Y/\1<=(Zy h a).1.K/\(Zy h a).1.K<=3/\0<=(Zy h a).1.length/\(Zy h a).1.length<=255:=by
 have b:Zy h a=Zc h a/\(Zc h a).2=0/\(Zc h a).1.K≠0:=by(unfold Zy at e⊢;split at e;rename_i f;split at e;simp at e;rename_i g;split at e;simp at e;rename_i c;rw[if_pos f,if_neg g,if_neg c];exact⟨rfl,e,λh=>c ⟨e,h⟩⟩;simp at e)
 obtain⟨k1,d,k3⟩:=b;have k:=MN d;rw[k1];exact⟨rfl,d,k.1,k.2.1,k.2.2.1,k.2.2.2.1,k.2.2.2.2.1,by omega,k.2.2.2.2.2.2.1,k.2.2.2.2.2.2.2.1,k.2.2.2.2.2.2.2.2⟩
def NN(h:Heap)(a:Int)(hw:Zz h.W)(h0:0<=a/\a<=18446744073709551615):GP 21 [h.av,uU a] Y (.tu [(Zy h a).1.av,nI (Zy h a).2]) []:=by rcases bb (!Z9 h)with hc0|hc0<;>have c:=hc0<;>simp only[bs]at c;rw[show Zy h a=(Zo.mk (0:Int) (0:Int) (0:Int),(1:Int))from by simp[Zy,E7, *]];exact gF [] func21 []<|Fc 9 (@CS h)<|Ft 10 hc0 Fz;rcases bb (a==0)with hc1|hc1<;>have d:=hc1<;>simp only[bs]at d;rw[show Zy h a=(Zo.mk (0:Int) (0:Int) (0:Int),(5:Int))from by simp[Zy,E7, *]];exact gF [] func21 []<|Fc 9 (@CS h)<|Ff 10 hc0<|Ft 13 hc1 Fz;have g {h_ c_ p_} (i:Fq h_ c_ p_):=Fc 9 (@CS h)<|Ff 10 hc0<|Ff 13 hc1<|Fc 18 (@Nt h a aa aa) i;rcases bb ((Zc h a).2==0&&(Zc h a).1.K==0)with hc2|hc2<;>have b:=hc2<;>simp only[bs]at b;obtain⟨e,f⟩:=b;rw[show Zy h a=(Zo.mk (0:Int) (0:Int) (0:Int),(4:Int))from by simp[Zy,E7, *]];exact gF [] func21 [] (g (Ft 27 hc2 Fz));rw[show Zy h a=Zc h a from by(simp[Zy,E7, *];omega)];exact gF [] func21 [] (g (Ff 27 hc2 Fz))
def Gg(h:Heap)(a i:Int):Int×Int:=if(Zy h a).2=0 then(if 0<=i/\i<(Zy h a).1.length then Z5 h.W (a+1+i)else(0,2))else(0,(Zy h a).2)
def Z8H(h:Heap)(a i:Int)(hw:Zz h.W)(h0:0<=a/\a<=18446744073709551615):GP 169 [h.av,uU a,nI i] Y (.tu [uU (Gg h a i).1,nI (Gg h a i).2]) []:=by have z {h_ c_ p_} (r_:Fq h_ c_ p_):=Fc 13 (@NN h a aa aa) r_;rcases bb ((Zy h a).2 != 0)with hc0|hc0<;>have m:=hc0<;>simp only[bs]at m;rw[show Gg h a i=((0:Int),(Zy h a).2)from by simp[Gg, *]];exact gF [] func169 [] (z (Ft 17 hc0 Fz));have a1:=Su m;obtain⟨a3,⟨a2,⟨k,⟨v,⟨s,⟨q,⟨o,⟨l,⟨g,⟨c,d⟩⟩⟩⟩⟩⟩⟩⟩⟩⟩:=a1;have t:=B7 k;obtain⟨a0,⟨y,⟨u,⟨r,⟨p,⟨n,⟨j,⟨e,f⟩⟩⟩⟩⟩⟩⟩⟩:=t;rcases bb (X (i<0)||X ((Zy h a).1.length<=i))with hc20|hc20<;>have b:=hc20<;>simp only[bs]at b;rw[show Gg h a i=((0:Int),(2:Int))from by(simp only[Gg] ;exact sj)];exact gF [] func169 [] (z (Ff 17 hc0<|Ft 26 hc20 Fz));obtain⟨w,x⟩:=b;rw[show Gg h a i=Z5 h.W (a+(1:Int)+i)from by(simp only[Gg] ;exact sj)];exact gF [] func169 [] (z (Ff 17 hc0<|Ff 26 hc20<|Fv 30 (a+1)<|Fv 32 i<|Fv 33 (a+1+i)<|Fc 34 (@HV h.W (a+1+i) oq oq) Fz))
def Zey{h a i}(e:(Gg h a i).2=0):(Zy h a).2=0/\0<=i/\i<(Zy h a).1.length:=by unfold Gg at e;split at e;split at e;exact⟨aa,aa⟩;simp at e;exact absurd e aa
def Ek(h:Heap)(a i v:Int):Heap×Int:=if(Gg h a i).2=0 then({h with W:=(Cj h.W (a+1+i) v).1},0)else(ZH,(Gg h a i).2)
def Z68(h:Heap)(a i v:Int)(hw:Zz h.W)(h0:0<=a/\a<=18446744073709551615):GP 114 [h.av,uU a,nI i,uU v] M (.tu [(Ek h a i v).1.av,nI (Ek h a i v).2]) []:=by have Q0 {h_ c_ p_} (r_:Fq h_ c_ p_):=Fc 16 (@Z8H h a i aa aa) r_;rcases bb ((Gg h a i).2 != 0)with hc0|hc0<;>have m:=hc0<;>simp only[bs]at m;exact gF [] func114 [Y] (Q0 (Ft 20 hc0<|Fnl (Fnl (Fa (by simp[Ek,ZH, *]:0=(Ek h a i v).1.C.pw)<|Fa (by simp[Ek,ZH, *]:0=(Ek h a i v).1.C.pg)<|Fa (by simp[Ek,ZH, *]:[]=Z wD (Ek h a i v).1.W)<|Fa (by simp[Ek,ZH, *]:[]=Z Z0.dv (Ek h a i v).1.P)<|Fa (by simp[Ek,ZH, *]:0=(Ek h a i v).1.S)<|Fa (by simp[Ek,ZH, *]:0=(Ek h a i v).1.B)<|Fa (by simp[Ek,ZH, *]:(Gg h a i).2=(Ek h a i v).2) Fz))));have a2:=Zey m;obtain⟨x,⟨a3,a4⟩⟩:=a2;have t:=Su x;obtain⟨a0,⟨y,⟨d,⟨r,⟨p,⟨n,⟨k,⟨f,⟨e,⟨b,c⟩⟩⟩⟩⟩⟩⟩⟩⟩⟩:=t;have u:=B7 d;obtain⟨a1,⟨z,⟨w,⟨s,⟨q,⟨o,⟨l,⟨g,j⟩⟩⟩⟩⟩⟩⟩⟩:=u;rw[show Ek h a i v=(Heap.mk h.C (Cj h.W (a+(1:Int)+i) v).1 h.P h.S h.B,(0:Int))from by simp[Ek,ZH, *]];exact gF [] func114 [] (Q0 (Ff 20 hc0<|Fv 27 (a+1)<|Fv 29 i<|Fv 30 (a+1+i)<|Fc 32 (@Z3j h.W (a+1+i) v oq oq) Fz))
def CG(h:Heap)(a:Int):List Int×Int:=if(Zy h a).2=0 then C4 h.W (a+1) (Zy h a).1.length else([],(Zy h a).2)
def Z5S(h:Heap)(a:Int)(hw:Zz h.W)(h0:0<=a/\a<=18446744073709551615):GP 42 [h.av,uU a] M (.tu [Z2 (CG h a).1,nI (CG h a).2]) []:=by have y {h_ c_ p_} (r_:Fq h_ c_ p_):=Fc 11 (@NN h a aa aa) r_;rcases bb ((Zy h a).2 != 0)with hc0|hc0<;>have k:=hc0<;>simp only[bs]at k;exact gF [] func42 [Y] (y (Ft 15 hc0<|Fnl (Fa (by simp[CG, *]:[]=Z wD (CG h a).1)<|Fa (by simp[CG, *]:(Zy h a).2=(CG h a).2) Fz)));have w:=Su k;obtain⟨z,⟨x,⟨i,⟨t,⟨q,⟨o,⟨m,⟨j,⟨f,⟨b,c⟩⟩⟩⟩⟩⟩⟩⟩⟩⟩:=w;have r:=B7 i;obtain⟨v,⟨u,⟨s,⟨p,⟨n,⟨l,⟨g,⟨d,e⟩⟩⟩⟩⟩⟩⟩⟩:=r;rw[show CG h a=C4 h.W (a+(1:Int)) (Zy h a).1.length from by simp[CG, *]];exact gF [] func42 [] (y (Ff 15 hc0<|Fv 20 (a+1)<|Fc 23 (@Z12 h.W (a+1) ((Zy h a).1.length) oq oq) Fz))
def BY(hd:Zo):List Int:=(Zu hd).1::La hd.length.toNat 0
def B8(h:Heap)(a:Int)(hd:Zo):Heap×Int:=if Z9 h=Y/\ZV hd=Y then(if(ZZ h.W a (BY hd)).2=0 then({h with W:=(ZZ h.W a (BY hd)).1},0)else(ZH,(ZZ h.W a (BY hd)).2))else(ZH,1)
def Z96{hd}(h:(Zu hd).2=0):ZV hd=Y/\0<=hd.length/\hd.length<=255:=by unfold Zu at h;split at h;rename_i a;have:=GC.1 a;exact⟨a,this.2.2.1,this.2.2.2.1⟩;simp at h
def Zge{hd:Zo}(h:ZV hd=Y):(Zu hd).2=0:=by simp[Zu,h]
def Z5t{h:Heap}{a hd}(e:Z9 h=M\/¬ (Zu hd).2=0):B8 h a hd=(ZH,1):=by unfold B8;rw[if_neg];rintro⟨b,c⟩;rcases e with e|e;rw[b]at e;cases e;exact e (Zge c)
def Z5l(h:Heap)(a:Int)(hd:Zo)(hw:Zz h.W)(h0:0<=a/\a<=18446744073709551615)(hm:0<=hd.map/\hd.map<=4294967295):GP 88 [h.av,uU a,hd.av] M (.tu [(B8 h a hd).1.av,nI (B8 h a hd).2]) []:=by have u {h_ c_ p_} (t:Fq h_ c_ p_):=Fc 13 (@DL hd aa)<|Fc 17 (@CS h) t;rcases bb (!Z9 h||(Zu hd).2 != 0)with hc0|hc0<;>have b:=hc0<;>simp only[bs]at b;have x:=Z5t (a:=a) b;exact gF [] func88 (fO 2) (u (Ft 22 hc0<|Fnl (Fnl (Fa (by grind[B8,ZH,BY]:0=(B8 h a hd).1.C.pw)<|Fa (by grind[B8,ZH,BY]:0=(B8 h a hd).1.C.pg)<|Fa (by grind[B8,ZH,BY]:[]=Z wD (B8 h a hd).1.W)<|Fa (by grind[B8,ZH,BY]:[]=Z Z0.dv (B8 h a hd).1.P)<|Fa (by grind[B8,ZH,BY]:0=(B8 h a hd).1.S)<|Fa (by grind[B8,ZH,BY]:0=(B8 h a hd).1.B)<|Fbs (1=(B8 h a hd).2) Fz))));obtain⟨f,g⟩:=b;have r:=B7 f;obtain⟨w,⟨s,⟨p,⟨m,⟨k,⟨j,⟨e,⟨c,d⟩⟩⟩⟩⟩⟩⟩⟩:=r;have l:=Z96 g;obtain⟨q,⟨n,o⟩⟩:=l;have v {h_ c_ p_} (t:Fq h_ c_ p_):=u<|Ff 22 hc0<|Fs 29 (Z wD [(Zu hd).1])<|Fa (by(simp[B8,ZH,BY, *];omega):0<=hd.length/\(↑(Z wD [(Zu hd).1]).length:Int)+hd.length<=2^30)<|Fa (by simp[B8,ZH,BY,LL,LK,Ln,LJ,wD,iD]:Z wD [(Zu hd).1]++La hd.length.toNat [ZD 0]=Z wD ([(Zu hd).1]++La hd.length.toNat 0))<|Fc 33 (@Tq h.W ([(Zu hd).1]++La hd.length.toNat 0) a oq aa (by(simp[B8,ZH,BY, *];omega))) t;rcases bb ((ZZ h.W a ([(Zu hd).1]++La hd.length.toNat 0)).2 != 0)with hc37|hc37<;>have i:=hc37<;>simp only[bs]at i;exact gF [] func88 (fO 2)<|Fh 32 [.els (Z wD ([(Zu hd).1]++La hd.length.toNat 0))] (v (Ft 37 hc37<|Fnl (Fnl (Fa (by(simp only[B8,ZH,BY] ;exact sj):0=(B8 h a hd).1.C.pw)<|Fa (by(simp only[B8,ZH,BY] ;exact sj):0=(B8 h a hd).1.C.pg)<|Fa (by(simp only[B8,ZH,BY] ;exact sj):[]=Z wD (B8 h a hd).1.W)<|Fa (by(simp only[B8,ZH,BY] ;exact sj):[]=Z Z0.dv (B8 h a hd).1.P)<|Fa (by(simp only[B8,ZH,BY] ;exact sj):0=(B8 h a hd).1.S)<|Fa (by(simp only[B8,ZH,BY] ;exact sj):0=(B8 h a hd).1.B)<|Fa (by(simp only[B8,ZH,BY] ;exact sj):(ZZ h.W a ([(Zu hd).1]++La hd.length.toNat 0)).2=(B8 h a hd).2) Fz))));rw[show B8 h a hd=(Heap.mk h.C (ZZ h.W a ([(Zu hd).1]++La hd.length.toNat (0:Int))).1 h.P h.S h.B,(0:Int))from by(simp only[B8,ZH,BY] ;exact sj)];exact gF [] func88 []<|Fh 32 [.els (Z wD ([(Zu hd).1]++La hd.length.toNat 0))] (v (Ff 37 hc37 Fz))
def HJ(l:List Z0)(i k:Nat):Bool:=(LA k).all λj=>(l.getD (i+j) L).K==0
theorem Al{l}{i k:Nat}:HJ l i k=Y↔∀j,j<k->(l.getD (i+j) L).K=0:=by simp[HJ]
def ZF(l:List Z0)(i k:Nat)(p q:Z0):List Z0:=(wr l (La k q) i k).set i p
def EQ(l:List Z0)(i:Int)(k:Int)(p q:Z0):List Z0×Int:=if 0<=i/\i<l.length/\k<=l.length-i then(if HJ l i.toNat k.toNat=Y then(ZF l i.toNat k.toNat p q,0)else([],20))else([],2)
def IP(l:List Z0):Ca (l.map Z0.dv):=by intro e b x a;obtain⟨y,_,rfl⟩:=List.mem_map.1 b;simp[Z0.dv]at a;rcases a with rfl|rfl|rfl|rfl<;>exact⟨_,rfl⟩
def ZlT{α:Type}{l m:List α}{i j:Nat}{d:α}(h:l[i]?=m[j]?):l.getD i d=m.getD j d:=by rw[Lr,Lr,h]
def Sb(l:List Z0)(i:Int)(k:Int)(p q:Z0)(n:Nat):Tg:=⟨tm 57 [(1,nI i),(2,nI k),(8,.pt 8008 0 0),(9,.pt 8009 0 0),(10,.d (.sl 0 [])),(11,nI 0),(12,.ow 24032),(13,nI n)],
 [(24032,.arr 79 4 ((wr l (La k.toNat q) i.toNat n).map Z0.dv)),(8008,.box 79 [nI p.K,nI p.S,nI p.U,nI p.N]),(8009,.box 79 [nI q.K,nI q.S,nI q.U,nI q.N])],60⟩
section
variable(l:List Z0)(i:Int)(k:Int)(p q:Z0)(n:Nat)(hl:l.length<=1048576)(c:0<=i)(a:0<=k)(b:i.toNat+k.toNat<=l.length)
include hl c a b
theorem Z5j(hn:n<k.toNat):(wr l (La k.toNat q) i.toNat n).getD (i.toNat+n) L=l.getD (i.toNat+n) L:=by refine ZlT ?_;rw[M7 (by simpa using b) qo,if_neg oq,if_neg oq]
theorem Z8l(f:n<k.toNat)(m:(l.getD (i.toNat+n) L).K=0):CP (Zn f192 0) (Sb l i k p q n).st .nrm (Sb l i k p q (n+1)).st:=by
 have e:=Ni (ws:=l) (l:=La k.toNat q) (i:=i.toNat) (k:=n) (by simpa using b) qo;have h:=Z5j l i k q n hl c a b f;have g:=Z01 (ws:=l) (l:=La k.toNat q) (i:=i.toNat) (k:=n) (by simpa using b) qo L;have j:(La k.toNat q).getD n L=q:=by simp[Lq,f]
 rw[j]at g;have ei:i+n=((i.toNat+n:Nat):Int):=by omega
 rw[<-h]at m;rcases bb (((wr l (La k.toNat q) i.toNat n).getD (↑(i.toNat+n):Int).toNat L).K != 0)with hc0|hc0<;>have d:=hc0<;>simp only[bs]at d;contradiction;exact sF [] (fO 8)<|Fh 10051 [.els (Z Z0.dv ((wr l (La k.toNat q) i.toNat n).set (↑(i.toNat+n):Int).toNat q))]<|Ftb 35 (X ((n:Int)<k))<|Fg 41 (by rw[E6 oq oq];omega:Lc.wrap (i+(n:Int))=(↑(i.toNat+n):Int))<|Fmq 44 Z0.dv (wr l (La k.toNat q) i.toNat n) (↑(i.toNat+n):Int)<|Ff 45 hc0<|Fg 49 (by rw[E6 oq oq];omega:Lc.wrap (i+(n:Int))=(↑(i.toNat+n):Int))<|Fa (by(simp only[Lb];omega):0<=(↑(i.toNat+n):Int)/\(↑(i.toNat+n):Int).toNat<(Z Z0.dv (wr l (La k.toNat q) i.toNat n)).length)<|Fa (by(simp only[Lb];omega):(↑(i.toNat+n):Int).toNat<(Z Z0.dv (wr l (La k.toNat q) i.toNat n)).length)<|Fa (by rw[Ln];rfl:(Z Z0.dv (wr l (La k.toNat q) i.toNat n)).set (↑(i.toNat+n):Int).toNat [Ze q.K,Ze q.S,Ze q.U,Ze q.N]=Z Z0.dv ((wr l (La k.toNat q) i.toNat n).set (↑(i.toNat+n):Int).toNat q))<|Fx 37 n<|Fr (79:Int)<|Fa (by refine congrArg _ ?_;exact g:Z Z0.dv ((wr l (La k.toNat q) i.toNat n).set (↑(i.toNat+n):Int).toNat q)=Z Z0.dv (wr l (La k.toNat q) i.toNat (n+1))) Fz
theorem ZcB(h:n<k.toNat)(g:¬ (l.getD (i.toNat+n) L).K=0):CP (Zn f192 0) (Sb l i k p q n).st .ret (Tg.st ⟨tm 57 [(10,.d (.sl 0 [])),(11,nI 20)],[],60⟩):=by
 have e:=Ni (ws:=l) (l:=La k.toNat q) (i:=i.toNat) (k:=n) (by simpa using b) qo;have f:=Z5j l i k q n hl c a b h;have ei:i+n=((i.toNat+n:Nat):Int):=by omega
 rw[<-f]at g;rcases bb (((wr l (La k.toNat q) i.toNat n).getD (↑(i.toNat+n):Int).toNat L).K != 0)with hc0|hc0<;>have d:=hc0<;>simp only[bs]at d;exact sF [] []<|Ftb 35 (X ((n:Int)<k))<|Fg 41 (by rw[E6 oq oq];omega:Lc.wrap (i+(n:Int))=(↑(i.toNat+n):Int))<|Fmq 44 Z0.dv (wr l (La k.toNat q) i.toNat n) (↑(i.toNat+n):Int)<|Ft 45 hc0 Fz;contradiction
omit hl c b in
theorem ZgA:CP (Zn f192 0) (Sb l i k p q k.toNat).st (.ext 0) (Tg.st ⟨tm 57 [(1,nI i),(8,.pt 8008 0 0),(12,.ow 24032)],[(24032,.arr 79 4 ((wr l (La k.toNat q) i.toNat k.toNat).map Z0.dv)),(8008,.box 79 [nI p.K,nI p.S,nI p.U,nI p.N])],60⟩):=by exact sF [] []<|Ffb 35 (X ((k.toNat:Int)<k)) Fz
theorem Z7C(e:HJ l i.toNat k.toNat=Y):CP (Zl f192 0) (Tg.st ⟨tm 57 [(1,nI i),(2,nI k),(8,.pt 8008 0 0),(9,.pt 8009 0 0),(10,.d (.sl 0 [])),(11,nI 0),(12,.ow 24032),(13,nI 0)], [(24032,.arr 79 4 (l.map Z0.dv)),(8008,.box 79 [nI p.K,nI p.S,nI p.U,nI p.N]),(8009,.box 79 [nI q.K,nI q.S,nI q.U,nI q.N])],60⟩) .nrm (Tg.st ⟨tm 57 [(1,nI i),(8,.pt 8008 0 0),(12,.ow 24032)],[(24032,.arr 79 4 ((wr l (La k.toNat q) i.toNat k.toNat).map Z0.dv)),(8008,.box 79 [nI p.K,nI p.S,nI p.U,nI p.N])],60⟩):=by
 have:=Bs (S:=λn=>(Sb l i k p q n).st) k.toNat kr (λn d=>Z8l l i k p q n hl c a b d (Al.1 e n d)) (ZgA l i k p q a)
 simp only[Sb,Tc]at this;exact this
theorem ZdE(o:HJ l i.toNat k.toNat=M):CP (Zl f192 0) (Tg.st ⟨tm 57 [(1,nI i),(2,nI k),(8,.pt 8008 0 0),(9,.pt 8009 0 0),(10,.d (.sl 0 [])),(11,nI 0),(12,.ow 24032),(13,nI 0)], [(24032,.arr 79 4 (l.map Z0.dv)),(8008,.box 79 [nI p.K,nI p.S,nI p.U,nI p.N]),(8009,.box 79 [nI q.K,nI q.S,nI q.U,nI q.N])],60⟩) .ret (Tg.st ⟨tm 57 [(10,.d (.sl 0 [])),(11,nI 20)],[],60⟩):=by
 obtain⟨n,x,d,g,h⟩:=MV o;have f:n<k.toNat:=by have:=(Ld.1 d).1;simpa using this
 have s:x=n:=by simp[LH,f]at d;exact d.symm
 subst s;have:=EF (S:=λn=>(Sb l i k p q n).st) x kr (λm r=>?_) (ZcB l i k p q x hl c a b f (by simpa using g))
 .simp only[Sb,Tc]at this;exact this
 .obtain⟨y,e,j⟩:=h m r;have t:y=m:=by simp[LH,show m<k.toNat from by omega]at e;exact e.symm
  subst t;exact Z8l l i k p q y hl c a b oq (by simpa using j)
end
def ZbZ(l:List Z0)(i:Int)(k:Int)(p q:Z0)(hl:l.length<=1048576)(hk:1<=k/\k<=5):GP 192 [ZJ l,nI i,nI k,p.av,q.av] Y (.tu [ZJ (EQ l i k p q).1,nI (EQ l i k p q).2]) []:=by
  cases hf:HJ l i.toNat k.toNat with
  |true =>
    have hw:i.toNat+k.toNat<=l.length->(wr l (La k.toNat q) i.toNat k.toNat).length=l.length:=λh=>Ni (by simpa using h) pq;rcases bb (X (i<0)||X ((l.length:Int)<=i)||X ((l.length:Int)-i<k))with hc0|hc0<;>have a:=hc0<;>simp only[bs]at a
    . exact gF [] func192 (fO 10)<|FlG 19 (!decide (i<0)) Z0.dv l<|FlG 25 (!(X (i<0)||X ((l.length:Int)<=i))) Z0.dv l<|FiG 27 (!(X (i<0)||X ((l.length:Int)<=i))) ((l.length:Int)-i)<|Ft 29 hc0<|Fnl (Fa (by(simp only[EQ,hf,ZF] ;exact sj):[]=Z Z0.dv (EQ l i k p q).1)<|Fa (by(simp only[EQ,hf,ZF] ;exact sj):2=(EQ l i k p q).2) Fz)
    . obtain⟨⟨b,c⟩,d⟩:=a;rw[show EQ l i k p q=((wr l (La k.toNat q) i.toNat k.toNat).set i.toNat p,(0:Int))from by simp[EQ,hf,ZF, *]];exact gF [] func192 []<|Fh 10055 [.els (Z Z0.dv ((wr l (La k.toNat q) i.toNat k.toNat).set i.toNat p))]<|FlG 19 (!decide (i<0)) Z0.dv l<|FlG 25 (!(X (i<0)||X ((l.length:Int)<=i))) Z0.dv l<|FiG 27 (!(X (i<0)||X ((l.length:Int)<=i))) ((l.length:Int)-i)<|Ff 29 hc0<|FAx 30 32 Z0.dv l (by(simp[EQ,hf,ZF, *];omega))<|Fu (@Z7C l i k p q aa oq oq oq aa)<|Fa (by(simp only[Lb];omega):0<=i/\i.toNat<(Z Z0.dv (wr l (La k.toNat q) i.toNat k.toNat)).length)<|Fa (by(simp only[Lb];omega):i.toNat<(Z Z0.dv (wr l (La k.toNat q) i.toNat k.toNat)).length)<|Fa (by rw[Ln];rfl:(Z Z0.dv (wr l (La k.toNat q) i.toNat k.toNat)).set i.toNat [Ze p.K,Ze p.S,Ze p.U,Ze p.N]=Z Z0.dv ((wr l (La k.toNat q) i.toNat k.toNat).set i.toNat p))<|Fa (IP _:Ca (Z Z0.dv ((wr l (La k.toNat q) i.toNat k.toNat).set i.toNat p))) Fz
  | false => rcases Lu (X (i<(0:Int))||X ((l.length:Int)<=i)||X ((l.length:Int)-i<k))with hc0 | hc0
             . have a:=hc0;simp only[bs]at a;exact gF [] func192 (fO 10)<|FlG 19 (!decide (i<0)) Z0.dv l<|FlG 25 (!(X (i<0)||X ((l.length:Int)<=i))) Z0.dv l<|FiG 27 (!(X (i<0)||X ((l.length:Int)<=i))) ((l.length:Int)-i)<|Ft 29 ‹(X (i<0)||X ((l.length:Int)<=i)||X ((l.length:Int)-i<k))=Y›<|Fnl (Fa (by(simp only[EQ,hf] ;exact sj):[]=Z Z0.dv (EQ l i k p q).1)<|Fa (by(simp only[EQ,hf] ;exact sj):2=(EQ l i k p q).2) Fz)
             . have a:=hc0;simp only[bs]at a;obtain⟨⟨b,c⟩,d⟩:=a;exact gF [] func192 (fO 21)<|FlG 19 (!decide (i<0)) Z0.dv l<|FlG 25 (!(X (i<0)||X ((l.length:Int)<=i))) Z0.dv l<|FiG 27 (!(X (i<0)||X ((l.length:Int)<=i))) ((l.length:Int)-i)<|Ff 29 ‹(X (i<0)||X ((l.length:Int)<=i)||X ((l.length:Int)-i<k))=M›<|FAx 30 32 Z0.dv l (by(simp[EQ,hf, *];omega))<|Fu (@ZdE l i k p q aa oq oq oq aa)<|Fnl (Fa (by(simp only[EQ,hf] ;exact sj):[]=Z Z0.dv (EQ l i k p q).1)<|Fa (by(simp only[EQ,hf] ;exact sj):20=(EQ l i k p q).2) Fz)
def Zbr(l:List Z0)(i:Int)(k:Int)(p q:Z0)(hl:l.length<=1048576)(hk:1<=k/\k<=5)(hi:0<=i/\i+k<=l.length)(hf:HJ l i.toNat k.toNat=Y):GP 192 [ZJ l,nI i,nI k,p.av,q.av] Y (.tu [.ow 0,nI 0]) [.arr 79 4 ((ZF l i.toNat k.toNat p q).map Z0.dv)]:=by have hw:(wr l (La k.toNat q) i.toNat k.toNat).length=l.length:=Ni qo pq;exact gF [24032] func192 []<|Fh 10055 [.els (Z Z0.dv ((wr l (La k.toNat q) i.toNat k.toNat).set i.toNat p))]<|FlG 19 (!decide (i<0)) Z0.dv l<|FlG 25 (!(X (i<0)||X ((l.length:Int)<=i))) Z0.dv l<|FiG 27 (!(X (i<0)||X ((l.length:Int)<=i))) ((l.length:Int)-i)<|Ffb 29 (X (i<0)||X ((l.length:Int)<=i)||X ((l.length:Int)-i<k))<|FAx 30 32 Z0.dv l (by(simp[ZF, *];omega))<|Fu (@Z7C l i k p q aa oq oq oq aa)<|Fa (by(simp only[Lb];omega):0<=i/\i.toNat<(Z Z0.dv (wr l (La k.toNat q) i.toNat k.toNat)).length)<|Fa (by(simp only[Lb];omega):i.toNat<(Z Z0.dv (wr l (La k.toNat q) i.toNat k.toNat)).length)<|Fa (by rw[Ln];rfl:(Z Z0.dv (wr l (La k.toNat q) i.toNat k.toNat)).set i.toNat [Ze p.K,Ze p.S,Ze p.U,Ze p.N]=Z Z0.dv ((wr l (La k.toNat q) i.toNat k.toNat).set i.toNat p))<|Fa (IP _:Ca (Z Z0.dv ((wr l (La k.toNat q) i.toNat k.toNat).set i.toNat p))) Fz
def Z9R(l:List Z0)(i sp:Int):List Z0×Int:=if 0<=sp/\sp<=1 then EQ l i 1 ⟨1,sp,0,0⟩ ⟨0,0,0,0⟩else([],1)
def H7(c:ZU)(l:List Z0)(i sp n:Int):List Z0×Int:=if 1<=need c n/\0<=sp/\sp<=1 then EQ l i (need c n) ⟨2,sp,n,0⟩ ⟨3,sp,0,0⟩else([],1)
def Zig(c:ZU)(l:List Z0) i sp n(hl:l.length<=1048576):GP 143 [c.av,ZJ l,nI i,nI sp,nI n] M (.tu [ZJ (H7 c l i sp n).1,nI (H7 c l i sp n).2]) []:=by have hn:=N3 c n;rcases bb (X (need c n<1)||X (sp<0)||X (1<sp))with hc0|hc0<;>have a:=hc0<;>simp only[bs]at a;exact gF [] func143 (fO 4)<|Fc 15 (@RX c n)<|Ft 25 hc0<|Fnl (Fa (by(simp only[H7] ;exact sj):[]=Z Z0.dv (H7 c l i sp n).1)<|Fa (by(simp only[H7] ;exact sj):1=(H7 c l i sp n).2) Fz);obtain⟨⟨b,d⟩,e⟩:=a;rw[show H7 c l i sp n=EQ l i (need c n) (Z0.mk (2:Int) sp n (0:Int)) (Z0.mk (3:Int) sp (0:Int) (0:Int))from by simp[H7, *]];exact gF [] func143 []<|Fc 15 (@RX c n)<|Ff 25 hc0<|Fc 34 (@ZbZ l i (need c n) (Z0.mk 2 sp n 0) (Z0.mk 3 sp 0 0) aa oq) Fz
def Z9n(l:List Z0)(i sp:Int)(hl:l.length<=1048576)(hs:0<=sp/\sp<=1)(hi:0<=i/\i+1<=l.length)(hf:HJ l i.toNat 1=Y):GP 142 [ZJ l,nI i,nI sp] Y (.tu [.ow 0,nI 0]) [.arr 79 4 ((ZF l i.toNat 1 ⟨1,sp,0,0⟩ ⟨0,0,0,0⟩).map Z0.dv)]:=by exact gF [25019] func142 []<|Ffb 13 (X (sp<0)||X (1<sp))<|Fc 19 (@Zbr l i (1) (Z0.mk 1 sp 0 0) (Z0.mk 0 0 0 0) aa oq aa aa)<|Fa (IP _:Ca (Z Z0.dv (ZF l i.toNat (Li 1) (Z0.mk 1 sp 0 0) (Z0.mk 0 0 0 0)))) Fz
def Z2R{α:Type}:∀{a b:List α},a.length=b.length->a≠b->∃(j:Nat) (x y:α),a[j]?=O x/\b[j]?=O y/\x≠y/\∀i:Nat,i<j->∃z:α,a[i]?=O z/\b[i]?=O z
 |[],[],_,h=>absurd rfl h
 |[],_::_,h,_=>by simp at h
 |_::_,[],h,_=>by simp at h
 |x::a,y::b,hl,h=>by
  by_cases c:x=y
  .subst c;obtain⟨j,u,v,d,f,g,k⟩:=Z2R (a:=a) (b:=b) (by simpa using hl) (λe=>h (by rw[e]));refine⟨j+1,u,v,by simpa using d,by simpa using f,g,λi n=>?_⟩;cases i with
   |zero=>exact⟨x,rfl,rfl⟩
   |succ i =>
    obtain⟨z,l,m⟩:=k i oq;exact⟨z,by simpa using l,by simpa using m⟩
  .exact⟨0,x,y,rfl,rfl,c,λi n=>by omega⟩
def NH(a b:List Z0)(i:Nat):Tg:=⟨tm 26 [(0,ZJ a),(1,ZJ b),(4,bL M),(5,nI i)],[],40⟩
def Z8U(a b:List Z0)(i:Nat)(p:Z0)(hl:a.length<=281474976710656)(ha:a[i]?=O p)(hb:b[i]?=O p):CP (Zn f96 0) (NH a b i).st .nrm (NH a b (i+1)).st:=by
 have hi:i<a.length:=(Ld.1 ha).1;exact sF [] [] (Fh 19 [.el p.dv] (Fh 23 [.el p.dv] (Fg 13 (by rw[Lb]:(↑(Z Z0.dv a).length:Int)=(a.length:Int)) (Ftb 14 (X ((i:Int)<(a.length:Int))) (Fa ((⟨by omega,GY ha⟩):0<=(i:Int)/\(Z Z0.dv a)[(i:Int).toNat]?=O p.dv) (Fa ((⟨by omega,GY hb⟩):0<=(i:Int)/\(Z Z0.dv b)[(i:Int).toNat]?=O p.dv) (Ff 25 (by simp:(!(p.K==p.K&&(p.S==p.S&&(p.U==p.U&&p.N==p.N))))=M) (Fx 16 i Fz))))))))
def Zir(a b:List Z0)(i:Nat)(p q:Z0)(ha:a[i]?=O p)(hb:b[i]?=O q)(hne:p≠q):CP (Zn f96 0) (NH a b i).st .ret (Tg.st ⟨tm 26 [(4,bL M)],[],60⟩):=by
 have hi:i<a.length:=(Ld.1 ha).1;have qz0:(!(p.K==q.K&&(p.S==q.S&&(p.U==q.U&&p.N==q.N))))=Y:=by
  cases p;cases q;simp at hne;simp;omega
 exact sF [] [] (Fh 19 [.el p.dv] (Fh 23 [.el q.dv] (Fg 13 (by rw[Lb]:(↑(Z Z0.dv a).length:Int)=(a.length:Int)) (Ftb 14 (X ((i:Int)<(a.length:Int))) (Fa ((⟨by omega,GY ha⟩):0<=(i:Int)/\(Z Z0.dv a)[(i:Int).toNat]?=O p.dv) (Fa ((⟨by omega,GY hb⟩):0<=(i:Int)/\(Z Z0.dv b)[(i:Int).toNat]?=O q.dv) (Ft 25 (qz0:(!(p.K==q.K&&(p.S==q.S&&(p.U==q.U&&p.N==q.N))))=Y) Fz)))))))
def ZbC a b:CP (Zn f96 0) (NH a b a.length).st (.ext 0) (Tg.st ⟨tm 26 [],[],60⟩):=by exact sF [] []<|Fg 13 (by rw[Lb]:(↑(Z Z0.dv a).length:Int)=(a.length:Int))<|Ffb 14 (X ((a.length:Int)<(a.length:Int))) Fz
def Z23(a b:List Z0)(hl:a.length<=281474976710656):GP 96 [ZJ a,ZJ b] Y (bL (X (a=b))) []:=by by_cases c:a.length=b.length;by_cases d:a=b;subst d;rw[decide_eq_true rfl];exact gF [] func96 []<|Fk (0,NH a a 0,.nrm,⟨tm 26 [],[],60⟩)<|Fg 7 (by rw[Lb]:(↑(Z Z0.dv a).length:Int)=(a.length:Int))<|Fg 9 (by rw[Lb]:(↑(Z Z0.dv a).length:Int)=(a.length:Int))<|Ff 10 (by simp:((a.length:Int) != (a.length:Int))=M)<|Fa ((Bs (S:=λi=>(NH a a i).st) a.length kr (λi e=>Z8U a a i a[i] hl (Le e) (Le e)) (ZbC a a)):CP (Zl f96 0) (NH a a 0).st Ex.nrm (Tg.mk (tm 26 []) [] 60).st) Fz;rw[decide_eq_false d];refine Zb [((7:Nat),[Hint.int (a.length:Int)]),((9:Nat),[Hint.int (b.length:Int)]),((10:Nat),[Hint.br M])] [((0:Nat),NH a b 0,.ret,⟨tm 26 [(4,bL M)],[],60⟩)] [] dd func96 [] (φ:=(↑(Z Z0.dv a).length:Int)=(a.length:Int)/\(↑(Z Z0.dv b).length:Int)=(b.length:Int)/\((a.length:Int) != (b.length:Int))=M/\M=M/\CP (Zl f96 (0:Nat)) (NH a b (0:Nat)).st Ex.ret (Tg.mk (tm (26:Nat) [((4:Nat),bL M)]) [] (60:Nat)).st) ?_ kr kr;obtain⟨j,x,y,f,g,k,l⟩:=Z2R c d;refine⟨by rw[Lb],by rw[Lb],by simp[c],rfl,EF (S:=λi=>(NH a b i).st) j kr (λi e=>?_) (Zir a b j x y f g k)⟩;obtain⟨z,m,n⟩:=l i e;exact Z8U a b i z hl m n;have d:a≠b:=λh=>c (by rw[h]);rw[decide_eq_false d];exact gF [] func96 []<|Fg 7 (by rw[Lb]:(↑(Z Z0.dv a).length:Int)=(a.length:Int))<|Fg 9 (by rw[Lb]:(↑(Z Z0.dv b).length:Int)=(b.length:Int))<|Ftb 10 ((a.length:Int) != (b.length:Int)) Fz
def R1(a b:Heap)(i:Nat):Tg:=⟨tm 60 [(2,.pt 8002 0 0),(3,.pt 8003 0 0),(4,bL M),(5,nI i)],[(8002,.box 27 a.cells),(8003,.box 27 b.cells)],40⟩
def OL{l:List Int}{i:Nat}{p:Int}(h:l[i]?=O p):(l.map wD)[((i:Nat):Int).toNat]?=O [ZD p]:=by simp[h,wD]
def Z4O(a b:Heap)(i:Nat)(p:Int)(hl:a.W.length<=281474976710656)(c:a.W[i]?=O p)(d:b.W[i]?=O p):CP (Zn f38 0) (R1 a b i).st .nrm (R1 a b (i+1)).st:=by have hi:i<a.W.length:=(Ld.1 c).1;exact sF [] []<|Fh 52 [.el [ZD p]]<|Fh 57 [.el [ZD p]]<|Fg 45 (by rw[Lb]:(↑(Z wD a.W).length:Int)=(a.W.length:Int))<|Ftb 46 (X ((i:Int)<(a.W.length:Int)))<|Fa ((⟨by omega,OL c⟩):0<=(i:Int)/\(Z wD a.W)[(i:Int).toNat]?=O [ZD p])<|Fa ((⟨by omega,OL d⟩):0<=(i:Int)/\(Z wD b.W)[(i:Int).toNat]?=O [ZD p])<|Ff 59 (by simp:(p != p)=M)<|Fx 48 i Fz
def Zhh(a b:Heap)(i:Nat)(p q:Int)(d:a.W[i]?=O p)(e:b.W[i]?=O q)(c:p≠q):CP (Zn f38 0) (R1 a b i).st .ret (Tg.st ⟨tm 60 [(4,bL M)],[],60⟩):=by have hi:i<a.W.length:=(Ld.1 d).1;exact sF [] []<|Fh 52 [.el [ZD p]]<|Fh 57 [.el [ZD q]]<|Fg 45 (by rw[Lb]:(↑(Z wD a.W).length:Int)=(a.W.length:Int))<|Ftb 46 (X ((i:Int)<(a.W.length:Int)))<|Fa ((⟨by omega,OL d⟩):0<=(i:Int)/\(Z wD a.W)[(i:Int).toNat]?=O [ZD p])<|Fa ((⟨by omega,OL e⟩):0<=(i:Int)/\(Z wD b.W)[(i:Int).toNat]?=O [ZD q])<|Ft 59 (by simp[c]:(p != q)=Y) Fz
def ZgC a b:CP (Zn f38 0) (R1 a b a.W.length).st (.ext 0) (Tg.st ⟨tm 60 [],[],60⟩):=by exact sF [] []<|Fg 45 (by rw[Lb]:(↑(Z wD a.W).length:Int)=(a.W.length:Int))<|Ffb 46 (X ((a.W.length:Int)<(a.W.length:Int))) Fz
def ZhQ(a b:Heap)(p:a.W.length<=281474976710656)(hl:a.P.length<=281474976710656):GP 38 [a.av,b.av] Y (bL (X (a=b))) []:=by
 by_cases d:a.C=b.C/\a.S=b.S/\a.B=b.B/\a.P=b.P/\a.W.length=b.W.length;have m:(!(a.C.pw==b.C.pw&&a.C.pg==b.C.pg)||a.S != b.S||a.B != b.B||!decide (a.P=b.P)||(a.W.length:Int) != (b.W.length:Int))=M:=by(obtain⟨c,g,k,l,o⟩:=d;simp[c,g,k,l,o])
 by_cases f:a.W=b.W;have e:a=b:=by(cases a;cases b;simp only at d f;obtain⟨c,g,k,l,o⟩:=d;simp[c,g,k,l,f])
 rw[decide_eq_true e];let y0:=a.C.pw==b.C.pw&&a.C.pg==b.C.pg;exact gF [] func38 []<|Fh 30 [.call Y (bL (X (a.P=b.P))) []]<|Fh 36 [.int ↑a.W.length]<|Fh 39 [.int ↑b.W.length]<|Fk (0,R1 a b 0,.nrm,⟨tm 60 [],[],60⟩)<|Fa ((λ_=>Z23 a.P b.P hl):(!(!y0||a.S != b.S||a.B != b.B))=Y->GP 96 [AV.d (DV.sl 4 (Z Z0.dv a.P)),AV.d (DV.sl 4 (Z Z0.dv b.P))] Y (bL (X (a.P=b.P))) [])<|Fa ((λ_=>by rw[Lb]):(!(!y0||a.S != b.S||a.B != b.B||!decide (a.P=b.P)))=Y->(↑(Z wD a.W).length:Int)=(a.W.length:Int))<|Fa ((λ_=>by rw[Lb]):(!(!y0||a.S != b.S||a.B != b.B||!decide (a.P=b.P)))=Y->(↑(Z wD b.W).length:Int)=(b.W.length:Int))<|Ff 41 (m:(!y0||a.S != b.S||a.B != b.B||!decide (a.P=b.P)||(a.W.length:Int) != (b.W.length:Int))=M)<|Fa ((Bs (S:=λi=>(R1 a b i).st) a.W.length kr (λi n=>Z4O a b i a.W[i] p (Le n) (by rw[<-f];exact Le n)) (ZgC a b)):CP (Zl f38 0) (R1 a b 0).st Ex.nrm (Tg.mk (tm 60 []) [] 60).st) Fz;have e:a≠b:=λh=>f (by rw[h]);rw[decide_eq_false e];refine Zb [((30:Nat),[Hint.call Y (bL (X (a.P=b.P))) []]),((36:Nat),[Hint.int (a.W.length:Int)]),((39:Nat),[Hint.int (b.W.length:Int)]),((41:Nat),[Hint.br M])] [((0:Nat),R1 a b 0,.ret,⟨tm 60 [(4,bL M)],[],60⟩)] [] dd func38 [] (φ:=((!(!(a.C.pw==b.C.pw&&a.C.pg==b.C.pg)||a.S != b.S||a.B != b.B))=Y->GP 96 [AV.d (DV.sl (4:Nat) (Z Z0.dv a.P)),AV.d (DV.sl (4:Nat) (Z Z0.dv b.P))] Y (bL (X (a.P=b.P))) [])/\((!(!(a.C.pw==b.C.pw&&a.C.pg==b.C.pg)||a.S != b.S||a.B != b.B||!decide (a.P=b.P)))=Y->(↑(Z wD a.W).length:Int)=(a.W.length:Int))/\((!(!(a.C.pw==b.C.pw&&a.C.pg==b.C.pg)||a.S != b.S||a.B != b.B||!decide (a.P=b.P)))=Y->(↑(Z wD b.W).length:Int)=(b.W.length:Int))/\(!(a.C.pw==b.C.pw&&a.C.pg==b.C.pg)||a.S != b.S||a.B != b.B||!decide (a.P=b.P)||(a.W.length:Int) != (b.W.length:Int))=M/\M=M/\CP (Zl f38 (0:Nat)) (R1 a b (0:Nat)).st Ex.ret (Tg.mk (tm (60:Nat) [((4:Nat),bL M)]) [] (60:Nat)).st) ?_ kr kr;obtain⟨j,x,y,k1,q,r,s⟩:=Z2R d.2.2.2.2 f;refine⟨λ_=>Z23 a.P b.P hl,λ_=>by rw[Lb],λ_=>by rw[Lb],m,rfl,EF (S:=λi=>(R1 a b i).st) j kr (λi n=>?_) (Zhh a b j x y k1 q r)⟩;obtain⟨z,t,u⟩:=s i n;exact Z4O a b i z p t u;have m:(!(a.C.pw==b.C.pw&&a.C.pg==b.C.pg)||a.S != b.S||a.B != b.B||!decide (a.P=b.P)||(a.W.length:Int) != (b.W.length:Int))=Y:=by
  cases hh:(!(a.C.pw==b.C.pw&&a.C.pg==b.C.pg)||a.S != b.S||a.B != b.B||!decide (a.P=b.P)||(a.W.length:Int) != (b.W.length:Int))with|true=>rfl|false =>exfalso;simp at hh;obtain⟨⟨⟨⟨c,g⟩,k⟩,l⟩,o⟩:=hh;refine d ⟨?_,g,k,l,by omega⟩;cases hca:a.C;cases hcb:b.C;rw[hca,hcb]at c;simp at c;simp[c]
 have e:a≠b:=λh=>d (by rw[h];simp);rw[decide_eq_false e];let y1:=a.C.pw==b.C.pw&&a.C.pg==b.C.pg;exact gF [] func38 []<|Fh 36 [.int ↑a.W.length]<|Fh 39 [.int ↑b.W.length]<|FcG 30 (!(!y1||a.S != b.S||a.B != b.B)) (λhg=>@Z23 a.P b.P hl)<|Fa ((λ_=>by rw[Lb]):(!(!y1||a.S != b.S||a.B != b.B||!decide (a.P=b.P)))=Y->(↑(Z wD a.W).length:Int)=(a.W.length:Int))<|Fa ((λ_=>by rw[Lb]):(!(!y1||a.S != b.S||a.B != b.B||!decide (a.P=b.P)))=Y->(↑(Z wD b.W).length:Int)=(b.W.length:Int))<|Ft 41 (m:(!y1||a.S != b.S||a.B != b.B||!decide (a.P=b.P)||(a.W.length:Int) != (b.W.length:Int))=Y) Fz
structure ZL where
 frm:Int
 len:Int
 deriving DecidableEq,Inhabited
def ZL.dv(r:ZL):List DV:=[Ze r.frm,Ze r.len]
def Iy(l:List ZL):AV:=.d (.sl 2 (l.map ZL.dv))
def BA(out:List ZL):ZL:=out.getLast?.getD ⟨0,0⟩
def RY(out:List ZL)(i:Int)(p:Z0):List ZL:=
 if p.K=0 then(if out≠[]/\(BA out).frm+(BA out).len=i then out.dropLast++[⟨(BA out).frm,(BA out).len+1⟩]else out++[⟨i,1⟩])else out
def Zj(l:List Z0):Nat->List ZL|0=>[]|i+1=>RY (Zj l i) i (E9 l i)
def R4{out:List ZL}(h:out≠[]):out[out.length-1]?=O (BA out):=by rw[<-List.getLast?_eq_getElem?,BA,List.getLast?_eq_some_getLast h];rfl
def NV l:∀i,(Zj l i).length<=i/\∀r∈Zj l i,0<=r.frm/\1<=r.len/\r.frm+r.len<=i
 |0=>⟨by simp[Zj],by simp[Zj]⟩
 |i+1=>by
  obtain⟨h1,b⟩:=NV l i;simp only[Zj,RY];split
  .split
   .rename_i c;have hl:=b _ (Lj (R4 c.1));have hp:0<(Zj l i).length:=Lz.2 c.1;refine⟨by simp;omega,λr a=>?_⟩;rcases Lt.1 a with a|a
    .have:=b r (LG _ a);omega
    .simp at a;subst a;simp only;omega
   .refine⟨by simp;omega,λr a=>?_⟩;rcases Lt.1 a with a|a
    .have:=b r a;omega
    .simp at a;subst a;simp only;omega
  .refine⟨by omega,λr a=>?_⟩;have:=b r a;omega
def PQ{out:List ZL}{i:Nat}{r:ZL}(h:out[i]?=O r):(out.map ZL.dv)[i]?=O r.dv:=by simp[h]
def Z7A{out:List ZL}(h:out≠[])(r:ZL):(out.map ZL.dv).set (out.length-1) r.dv=(out.dropLast++[r]).map ZL.dv:=by obtain⟨a,b,rfl⟩:∃a b,out=a++[b]:=⟨out.dropLast,out.getLast h,(List.dropLast_concat_getLast h).symm⟩;simp
def Iw(l:List Z0)(i:Nat):Tg:=⟨tm 54 [(3,.ow 16003),(7,ZJ l),(8,nI l.length),(9,nI i)],[(16003,.arr 254 2 ((Zj l i).map ZL.dv))],20⟩
def ZkK(l:List Z0)(hl:l.length<=1048576)(i:Nat)(p:Z0)(hp:l[i]?=O p)(hk:p.K≠0):CP (Zn f219 0) (Iw l i).st .nrm (Iw l (i+1)).st:=by
 have hi:i<l.length:=(Ld.1 hp).1;obtain⟨o1,o2⟩:=NV l i;have e:Iw l (i+1)=⟨tm 54 [(3,.ow 16003),(7,ZJ l),(8,nI l.length),(9,nI ((i+1:Nat):Int))],[(16003,.arr 254 2 ((Zj l i).map ZL.dv))],20⟩:=by
  have hpa:E9 l i=p:=by simp[E9,hp]
  rw[Iw,Zj,RY,hpa,if_neg hk]
 rw[e];exact sF [] []<|Fh 12 [.el p.dv]<|Fh 25 [.br Y]<|Ftb 10 (X ((i:Int)<(l.length:Int)))<|Fa ((⟨by omega,GY hp⟩):0<=(i:Int)/\(Z Z0.dv l)[(i:Int).toNat]?=O p.dv)<|Fg 15 (by rw[Lb]:(↑(Z ZL.dv (Zj l i)).length:Int)=(↑(Zj l i).length:Int))<|Fi 16 ((↑(Zj l i).length:Int)-1)<|Fa (by simp[hk]:(p.K != 0)=Y)<|Fx 52 i Fz
def Zjr(l:List Z0)(hl:l.length<=1048576)(i:Nat)(p:Z0)(hp:l[i]?=O p)(hk:p.K=0)(ho:Zj l i≠[])(hm:(BA (Zj l i)).frm+(BA (Zj l i)).len=i):CP (Zn f219 0) (Iw l i).st .nrm (Iw l (i+1)).st:=by
 have hi:i<l.length:=(Ld.1 hp).1;obtain⟨o1,o2⟩:=NV l i;have hlast:=o2 _ (Lj (R4 ho));have hpos:0<(Zj l i).length:=Lz.2 ho;have e:Zj l (i+1)=(Zj l i).dropLast++[⟨(BA (Zj l i)).frm,(BA (Zj l i)).len+1⟩]:=by
  have hpa:E9 l i=p:=by simp[E9,hp]
  rw[Zj,RY,hpa,if_pos hk,if_pos ⟨ho,hm⟩]
 have hidx:0<=((Zj l i).length:Int)-1/\(((Zj l i).length:Int)-1).toNat<(Z ZL.dv (Zj l i)).length:=by rw[Lb];omega
 have hat:(Z ZL.dv (Zj l i))[(((Zj l i).length:Int)-1).toNat]?=O (BA (Zj l i)).dv:=by
  rw[show(((Zj l i).length:Int)-1).toNat=(Zj l i).length-1 from by omega];exact PQ (R4 ho)
 have qz0:(Z ZL.dv (Zj l i)).set ((↑(Zj l i).length:Int)-(1:Int)).toNat (En (BA (Zj l i)).dv ((0:Nat) + #[Lm "From" (3:Nat) (0:Nat) M "" "" (0:Nat),Lm "Len" (3:Nat) (1:Nat) M "" "" (8:Nat)][(1:Nat)].3) [Ze ((BA (Zj l i)).len+(1:Int))])=Z ZL.dv (Zj l (i+(1:Nat))):=by
  rw[e,<-Z7A ho,show(((Zj l i).length:Int)-1).toNat=(Zj l i).length-1 from by omega];rfl
 exact sF [] []<|Fh 12 [.el p.dv]<|Fh 16 [.int ((↑(Zj l i).length:Int)-1)]<|Fh 25 [.br M]<|Fh 34 [.el (BA (Zj l i)).dv]<|Fh 39 [.el (BA (Zj l i)).dv]<|Fh 40 [.int ↑i]<|Fh 43 [.br Y]<|Fh 48 [.el (BA (Zj l i)).dv]<|Fh 49 [.int ((BA (Zj l i)).len+1)]<|Fh 10051 [.el (BA (Zj l i)).dv,.els ((Zj l (i+1)).map ZL.dv)]<|Fh 52 [.int (↑(i+1):Int)]<|Ft 10 ((decide_eq_true oq):X ((i:Int)<(l.length:Int))=Y)<|Fa ((⟨by omega,GY hp⟩):0<=(i:Int)/\(Z Z0.dv l)[(i:Int).toNat]?=O p.dv)<|Fg 15 (by rw[Lb]:(↑(Z ZL.dv (Zj l i)).length:Int)=(↑(Zj l i).length:Int))<|Fa ((C5 oq oq):Lc.wrap ((↑(Zj l i).length:Int)-1)=(↑(Zj l i).length:Int)-1)<|Fa (by simp[hk]:(p.K != 0)=M)<|Fa ((λ_=>hidx):X (0<=(↑(Zj l i).length:Int)-1)=Y->0<=(↑(Zj l i).length:Int)-1/\((↑(Zj l i).length:Int)-1).toNat<(Z ZL.dv (Zj l i)).length)<|Fa ((λ_=>hat):X (0<=(↑(Zj l i).length:Int)-1)=Y->(Z ZL.dv (Zj l i))[((↑(Zj l i).length:Int)-1).toNat]?=O (BA (Zj l i)).dv)<|Fa ((λ_=>hidx):X (0<=(↑(Zj l i).length:Int)-1)=Y->0<=(↑(Zj l i).length:Int)-1/\((↑(Zj l i).length:Int)-1).toNat<(Z ZL.dv (Zj l i)).length)<|Fa ((λ_=>hat):X (0<=(↑(Zj l i).length:Int)-1)=Y->(Z ZL.dv (Zj l i))[((↑(Zj l i).length:Int)-1).toNat]?=O (BA (Zj l i)).dv)<|Fa ((λ_=>by rw[hm];exact C5 oq oq):X (0<=(↑(Zj l i).length:Int)-1)=Y->Lc.wrap ((BA (Zj l i)).frm+(BA (Zj l i)).len)=(i:Int))<|Fa (by simp;omega:(X (0<=(↑(Zj l i).length:Int)-1)&&(i:Int)==(i:Int))=Y)<|Fa (hidx:0<=(↑(Zj l i).length:Int)-1/\((↑(Zj l i).length:Int)-1).toNat<(Z ZL.dv (Zj l i)).length)<|Fa (hat:(Z ZL.dv (Zj l i))[((↑(Zj l i).length:Int)-1).toNat]?=O (BA (Zj l i)).dv)<|Fa ((C5 oq oq):Lc.wrap ((BA (Zj l i)).len+1)=(BA (Zj l i)).len+1)<|Fa (hidx:0<=(↑(Zj l i).length:Int)-1/\((↑(Zj l i).length:Int)-1).toNat<(Z ZL.dv (Zj l i)).length)<|Fa (hat:(Z ZL.dv (Zj l i))[((↑(Zj l i).length:Int)-1).toNat]?=O (BA (Zj l i)).dv)<|Fa (qz0:(Z ZL.dv (Zj l i)).set ((↑(Zj l i).length:Int)-1).toNat (En (BA (Zj l i)).dv (0 + #[Lm "From" 3 0 M "" "" 0,Lm "Len" 3 1 M "" "" 8][1].3) [Ze ((BA (Zj l i)).len+1)])=Z ZL.dv (Zj l (i+1)))<|Fa ((C5 oq oq):Lc.wrap ((i:Int)+1)=(↑(i+1):Int)) Fz
def ZiS(l:List Z0)(hl:l.length<=1048576)(i:Nat)(p:Z0)(hp:l[i]?=O p)(hk:p.K=0)(ho:¬ (Zj l i≠[]/\(BA (Zj l i)).frm+(BA (Zj l i)).len=i)):CP (Zn f219 0) (Iw l i).st .nrm (Iw l (i+1)).st:=by
 have hi:i<l.length:=(Ld.1 hp).1;obtain⟨o1,o2⟩:=NV l i;have e:Zj l (i+1)=Zj l i++[⟨i,1⟩]:=by
  have hpa:E9 l i=p:=by simp[E9,hp]
  rw[Zj,RY,hpa,if_pos hk,if_neg ho]
 have hne:X (0<=((Zj l i).length:Int)-1)=Y->Zj l i≠[]:=by
  intro hd h0;rw[h0]at hd;simp at hd
 have hidx:X (0<=((Zj l i).length:Int)-1)=Y->0<=((Zj l i).length:Int)-1/\(((Zj l i).length:Int)-1).toNat<(Z ZL.dv (Zj l i)).length:=by
  intro hd;have:=of_decide_eq_true hd;rw[Lb];omega
 have hat:X (0<=((Zj l i).length:Int)-1)=Y->(Z ZL.dv (Zj l i))[(((Zj l i).length:Int)-1).toNat]?=O (BA (Zj l i)).dv:=by
  intro hd;rw[show(((Zj l i).length:Int)-1).toNat=(Zj l i).length-1 from by omega];exact PQ (R4 (hne hd))
 have qz0:(X ((0:Int)<=(↑(Zj l i).length:Int)-(1:Int))&&Lc.wrap ((BA (Zj l i)).frm+(BA (Zj l i)).len)==(i:Int))=M:=by
  cases hd:X (0<=((Zj l i).length:Int)-1)with
  |false=>simp
  |true =>
   have h1:=hne hd;have hlast:=o2 _ (Lj (R4 h1));rw[C5 oq oq];simp;intro hh;exact ho ⟨h1,hh⟩
 exact sF [(200021,16003)] []<|Fh 12 [.el p.dv]<|Fh 25 [.br M]<|Fh 34 [.el (BA (Zj l i)).dv]<|Fh 39 [.el (BA (Zj l i)).dv]<|Fh 43 [.br M]<|Fh 21 [.els ((Zj l (i+1)).map ZL.dv)]<|Ftb 10 (X ((i:Int)<(l.length:Int)))<|Fa ((⟨by omega,GY hp⟩):0<=(i:Int)/\(Z Z0.dv l)[(i:Int).toNat]?=O p.dv)<|Fg 15 (by rw[Lb]:(↑(Z ZL.dv (Zj l i)).length:Int)=(↑(Zj l i).length:Int))<|Fi 16 ((↑(Zj l i).length:Int)-1)<|Fa (by simp[hk]:(p.K != 0)=M)<|Fa (hidx:X (0<=(↑(Zj l i).length:Int)-1)=Y->0<=(↑(Zj l i).length:Int)-1/\((↑(Zj l i).length:Int)-1).toNat<(Z ZL.dv (Zj l i)).length)<|Fa (hat:X (0<=(↑(Zj l i).length:Int)-1)=Y->(Z ZL.dv (Zj l i))[((↑(Zj l i).length:Int)-1).toNat]?=O (BA (Zj l i)).dv)<|Fa (hidx:X (0<=(↑(Zj l i).length:Int)-1)=Y->0<=(↑(Zj l i).length:Int)-1/\((↑(Zj l i).length:Int)-1).toNat<(Z ZL.dv (Zj l i)).length)<|Fa (hat:X (0<=(↑(Zj l i).length:Int)-1)=Y->(Z ZL.dv (Zj l i))[((↑(Zj l i).length:Int)-1).toNat]?=O (BA (Zj l i)).dv)<|Fa (qz0:(X (0<=(↑(Zj l i).length:Int)-1)&&Lc.wrap ((BA (Zj l i)).frm+(BA (Zj l i)).len)==(i:Int))=M)<|Fa (by rw[Lb];simp;omega:(Z ZL.dv (Zj l i)).length+((La 1 [Ze 0,Ze 0]).set 0 [Ze (i:Int),Ze 1]).length<=2^30)<|Fa (by rw[e];simp[ZL.dv]:Z ZL.dv (Zj l i)++(La 1 [Ze 0,Ze 0]).set 0 [Ze (i:Int),Ze 1]=Z ZL.dv (Zj l (i+1)))<|Fx 52 i Fz
def Zbi(l:List Z0)(hl:l.length<=1048576)(i:Nat)(d:i<l.length):CP (Zn f219 0) (Iw l i).st .nrm (Iw l (i+1)).st:=by have c:=Le d;by_cases a:l[i].K=0;by_cases b:Zj l i≠[]/\(BA (Zj l i)).frm+(BA (Zj l i)).len=i;exact Zjr l hl i _ c a b.1 b.2;exact ZiS l hl i _ c a b;exact ZkK l hl i _ c a
def Zbk l:CP (Zn f219 0) (Iw l l.length).st (.ext 0) (Tg.st ⟨tm 54 [(3,.ow 16003)],[(16003,.arr 254 2 ((Zj l l.length).map ZL.dv))],60⟩):=by exact sF [] []<|Ffb 10 (X ((l.length:Int)<(l.length:Int))) Fz
def runs(l:List Z0):List ZL:=Zj l l.length
def Z8I(l:List Z0)(hl:l.length<=1048576):GP 219 [ZJ l] M (Iy (runs l)) []:=by exact gF [] func219 []<|Fh 3 [.own]<|Fk (0,Iw l 0,.nrm,⟨tm 54 [(3,.ow 16003)],[(16003,.arr 254 2 ((Zj l l.length).map ZL.dv))],60⟩)<|Fg 8 (by rw[Lb]:(↑(Z Z0.dv l).length:Int)=(l.length:Int))<|Fa ((Bs (S:=λi=>(Iw l i).st) l.length kr (λi a=>Zbi l hl i a) (Zbk l)):CP (Zl f219 0) (Iw l 0).st Ex.nrm (Tg.mk (tm 54 [(3,AV.ow 16003)]) [(16003,Z3.arr 254 2 (Z ZL.dv (Zj l l.length)))] 60).st) Fz
def It(l:List Z0)(i:Nat):Tg:=⟨tm 54 [(0,ZJ l),(3,.ow 16003),(4,nI i)],[(16003,.arr 254 2 ((Zj l i).map ZL.dv))],20⟩
def Zcc(l:List Z0)(hl:l.length<=1048576)(i:Nat)(p:Z0)(hp:l[i]?=O p)(hk:p.K≠0):CP (Zn f191 0) (It l i).st .nrm (It l (i+1)).st:=by
 have hi:i<l.length:=(Ld.1 hp).1;have e:It l (i+1)=⟨tm 54 [(0,ZJ l),(3,.ow 16003),(4,nI ((i+1:Nat):Int))],[(16003,.arr 254 2 ((Zj l i).map ZL.dv))],20⟩:=by
  have hpa:E9 l i=p:=by simp[E9,hp]
  rw[It,Zj,RY,hpa,if_neg hk]
 rw[e];exact sF [] []<|Fh 14 [.el p.dv]<|Fg 8 (by rw[Lb]:(↑(Z Z0.dv l).length:Int)=(l.length:Int))<|Ftb 9 (X ((i:Int)<(l.length:Int)))<|Fa ((⟨by omega,GY hp⟩):0<=(i:Int)/\(Z Z0.dv l)[(i:Int).toNat]?=O p.dv)<|Ft 17 (by simp[hk]:(p.K != 0)=Y)<|Fx 11 i Fz
def Zby(l:List Z0)(hl:l.length<=1048576)(i:Nat)(p:Z0)(hp:l[i]?=O p)(hk:p.K=0)(ho:Zj l i≠[])(hm:(BA (Zj l i)).frm+(BA (Zj l i)).len=i):CP (Zn f191 0) (It l i).st .nrm (It l (i+1)).st:=by
 have hi:i<l.length:=(Ld.1 hp).1;obtain⟨o1,o2⟩:=NV l i;have hlast:=o2 _ (Lj (R4 ho));have hpos:0<(Zj l i).length:=Lz.2 ho;have e:Zj l (i+1)=(Zj l i).dropLast++[⟨(BA (Zj l i)).frm,(BA (Zj l i)).len+1⟩]:=by
  have hpa:E9 l i=p:=by simp[E9,hp]
  rw[Zj,RY,hpa,if_pos hk,if_pos ⟨ho,hm⟩]
 have hidx:0<=((Zj l i).length:Int)-1/\(((Zj l i).length:Int)-1).toNat<(Z ZL.dv (Zj l i)).length:=by rw[Lb];omega
 have hat:(Z ZL.dv (Zj l i))[(((Zj l i).length:Int)-1).toNat]?=O (BA (Zj l i)).dv:=by
  rw[show(((Zj l i).length:Int)-1).toNat=(Zj l i).length-1 from by omega];exact PQ (R4 ho)
 have hset:(Z ZL.dv (Zj l i)).set (((Zj l i).length:Int)-1).toNat [Ze (BA (Zj l i)).frm,Ze ((BA (Zj l i)).len+1)]=Z ZL.dv (Zj l (i+1)):=by
  rw[e,<-Z7A ho,show(((Zj l i).length:Int)-1).toNat=(Zj l i).length-1 from by omega];rfl
 have hw:Lc.wrap (((Zj l i).length:Int)-1)=((Zj l i).length:Int)-1:=C5 oq oq;exact sF [] []<|Fh 14 [.el p.dv]<|Fh 28 [.el (BA (Zj l i)).dv]<|Fh 31 [.int ((↑(Zj l i).length:Int)-1)]<|Fh 34 [.el (BA (Zj l i)).dv]<|Fh 35 [.int ↑i]<|Fh 41 [.int ((↑(Zj l i).length:Int)-1)]<|Fh 44 [.el (BA (Zj l i)).dv]<|Fh 45 [.int ((BA (Zj l i)).len+1)]<|Fh 10047 [.el (BA (Zj l i)).dv,.els ((Zj l (i+1)).map ZL.dv)]<|Fh 11 [.int (↑(i+1):Int)]<|Fg 8 (by rw[Lb]:(↑(Z Z0.dv l).length:Int)=(l.length:Int))<|Ft 9 ((decide_eq_true oq):X ((i:Int)<(l.length:Int))=Y)<|Fa ((⟨by omega,GY hp⟩):0<=(i:Int)/\(Z Z0.dv l)[(i:Int).toNat]?=O p.dv)<|Ff 17 (by simp[hk]:(p.K != 0)=M)<|Fg 19 (by rw[Lb]:(↑(Z ZL.dv (Zj l i)).length:Int)=(↑(Zj l i).length:Int))<|Fa ((λ_=>hw):X (0<(↑(Zj l i).length:Int))=Y->Lc.wrap ((↑(Zj l i).length:Int)-1)=(↑(Zj l i).length:Int)-1)<|Fa ((λ_=>hidx):X (0<(↑(Zj l i).length:Int))=Y->0<=(↑(Zj l i).length:Int)-1/\((↑(Zj l i).length:Int)-1).toNat<(Z ZL.dv (Zj l i)).length)<|Fa ((λ_=>hat):X (0<(↑(Zj l i).length:Int))=Y->(Z ZL.dv (Zj l i))[((↑(Zj l i).length:Int)-1).toNat]?=O (BA (Zj l i)).dv)<|Fa ((λ_=>hw):X (0<(↑(Zj l i).length:Int))=Y->Lc.wrap ((↑(Zj l i).length:Int)-1)=(↑(Zj l i).length:Int)-1)<|Fa ((λ_=>hidx):X (0<(↑(Zj l i).length:Int))=Y->0<=(↑(Zj l i).length:Int)-1/\((↑(Zj l i).length:Int)-1).toNat<(Z ZL.dv (Zj l i)).length)<|Fa ((λ_=>hat):X (0<(↑(Zj l i).length:Int))=Y->(Z ZL.dv (Zj l i))[((↑(Zj l i).length:Int)-1).toNat]?=O (BA (Zj l i)).dv)<|Fa ((λ_=>by rw[hm];exact C5 oq oq):X (0<(↑(Zj l i).length:Int))=Y->Lc.wrap ((BA (Zj l i)).frm+(BA (Zj l i)).len)=(i:Int))<|Ft 38 (by simp;omega:(X (0<(↑(Zj l i).length:Int))&&(i:Int)==(i:Int))=Y)<|Fg 25 (hw:Lc.wrap ((↑(Zj l i).length:Int)-1)=(↑(Zj l i).length:Int)-1)<|Fa (hidx:0<=(↑(Zj l i).length:Int)-1/\((↑(Zj l i).length:Int)-1).toNat<(Z ZL.dv (Zj l i)).length)<|Fa (hat:(Z ZL.dv (Zj l i))[((↑(Zj l i).length:Int)-1).toNat]?=O (BA (Zj l i)).dv)<|Fa ((C5 oq oq):Lc.wrap ((BA (Zj l i)).len+1)=(BA (Zj l i)).len+1)<|Fa (hidx:0<=(↑(Zj l i).length:Int)-1/\((↑(Zj l i).length:Int)-1).toNat<(Z ZL.dv (Zj l i)).length)<|Fa (hat:(Z ZL.dv (Zj l i))[((↑(Zj l i).length:Int)-1).toNat]?=O (BA (Zj l i)).dv)<|Fa (hset:(Z ZL.dv (Zj l i)).set ((↑(Zj l i).length:Int)-1).toNat (En (BA (Zj l i)).dv (0 + #[Lm "From" 3 0 M "" "" 0,Lm "Len" 3 1 M "" "" 8][1].3) [Ze ((BA (Zj l i)).len+1)])=Z ZL.dv (Zj l (i+1)))<|Fa ((C5 oq oq):Lc.wrap ((i:Int)+1)=(↑(i+1):Int)) Fz
def Zh6(l:List Z0)(hl:l.length<=1048576)(i:Nat)(p:Z0)(hp:l[i]?=O p)(hk:p.K=0)(ho:¬ (Zj l i≠[]/\(BA (Zj l i)).frm+(BA (Zj l i)).len=i)):CP (Zn f191 0) (It l i).st .nrm (It l (i+1)).st:=by
 have hi:i<l.length:=(Ld.1 hp).1;obtain⟨o1,o2⟩:=NV l i;have e:Zj l (i+1)=Zj l i++[⟨i,1⟩]:=by
  have hpa:E9 l i=p:=by simp[E9,hp]
  rw[Zj,RY,hpa,if_pos hk,if_neg ho]
 have hne:X (0<((Zj l i).length:Int))=Y->Zj l i≠[]:=by
  intro hd h0;rw[h0]at hd;simp at hd
 have hidx:X (0<((Zj l i).length:Int))=Y->0<=((Zj l i).length:Int)-1/\(((Zj l i).length:Int)-1).toNat<(Z ZL.dv (Zj l i)).length:=by
  intro hd;have:=of_decide_eq_true hd;rw[Lb];omega
 have hat:X (0<((Zj l i).length:Int))=Y->(Z ZL.dv (Zj l i))[(((Zj l i).length:Int)-1).toNat]?=O (BA (Zj l i)).dv:=by
  intro hd;rw[show(((Zj l i).length:Int)-1).toNat=(Zj l i).length-1 from by omega];exact PQ (R4 (hne hd))
 have hw:Lc.wrap (((Zj l i).length:Int)-1)=((Zj l i).length:Int)-1:=C5 oq oq;have qz0:(X ((0:Int)<(↑(Zj l i).length:Int))&&Lc.wrap ((BA (Zj l i)).frm+(BA (Zj l i)).len)==(i:Int))=M:=by
  cases hd:X (0<((Zj l i).length:Int))with
  |false=>simp
  |true =>
   have h1:=hne hd;have hlast:=o2 _ (Lj (R4 h1));rw[C5 oq oq];simp;intro hh;exact ho ⟨h1,hh⟩
 exact sF [(192052,16003)] []<|Fh 14 [.el p.dv]<|Fh 25 [.int ((↑(Zj l i).length:Int)-1)]<|Fh 28 [.el (BA (Zj l i)).dv]<|Fh 31 [.int ((↑(Zj l i).length:Int)-1)]<|Fh 34 [.el (BA (Zj l i)).dv]<|Fh 52 [.els ((Zj l (i+1)).map ZL.dv)]<|Fg 8 (by rw[Lb]:(↑(Z Z0.dv l).length:Int)=(l.length:Int))<|Ftb 9 (X ((i:Int)<(l.length:Int)))<|Fa ((⟨by omega,GY hp⟩):0<=(i:Int)/\(Z Z0.dv l)[(i:Int).toNat]?=O p.dv)<|Ff 17 (by simp[hk]:(p.K != 0)=M)<|Fg 19 (by rw[Lb]:(↑(Z ZL.dv (Zj l i)).length:Int)=(↑(Zj l i).length:Int))<|Fa ((λ_=>hw):X (0<(↑(Zj l i).length:Int))=Y->Lc.wrap ((↑(Zj l i).length:Int)-1)=(↑(Zj l i).length:Int)-1)<|Fa (hidx:X (0<(↑(Zj l i).length:Int))=Y->0<=(↑(Zj l i).length:Int)-1/\((↑(Zj l i).length:Int)-1).toNat<(Z ZL.dv (Zj l i)).length)<|Fa (hat:X (0<(↑(Zj l i).length:Int))=Y->(Z ZL.dv (Zj l i))[((↑(Zj l i).length:Int)-1).toNat]?=O (BA (Zj l i)).dv)<|Fa ((λ_=>hw):X (0<(↑(Zj l i).length:Int))=Y->Lc.wrap ((↑(Zj l i).length:Int)-1)=(↑(Zj l i).length:Int)-1)<|Fa (hidx:X (0<(↑(Zj l i).length:Int))=Y->0<=(↑(Zj l i).length:Int)-1/\((↑(Zj l i).length:Int)-1).toNat<(Z ZL.dv (Zj l i)).length)<|Fa (hat:X (0<(↑(Zj l i).length:Int))=Y->(Z ZL.dv (Zj l i))[((↑(Zj l i).length:Int)-1).toNat]?=O (BA (Zj l i)).dv)<|Ff 38 (qz0:(X (0<(↑(Zj l i).length:Int))&&Lc.wrap ((BA (Zj l i)).frm+(BA (Zj l i)).len)==(i:Int))=M)<|Fa (by rw[Lb];simp;omega:(Z ZL.dv (Zj l i)).length+((La 1 [Ze 0,Ze 0]).set 0 [Ze (i:Int),Ze 1]).length<=2^30)<|Fa (by rw[e];simp[ZL.dv]:Z ZL.dv (Zj l i)++(La 1 [Ze 0,Ze 0]).set 0 [Ze (i:Int),Ze 1]=Z ZL.dv (Zj l (i+1)))<|Fx 11 i Fz
def Zci(l:List Z0)(hl:l.length<=1048576)(i:Nat)(d:i<l.length):CP (Zn f191 0) (It l i).st .nrm (It l (i+1)).st:=by have c:=Le d;by_cases a:l[i].K=0;by_cases b:Zj l i≠[]/\(BA (Zj l i)).frm+(BA (Zj l i)).len=i;exact Zby l hl i _ c a b.1 b.2;exact Zh6 l hl i _ c a b;exact Zcc l hl i _ c a
def ZiV l:CP (Zn f191 0) (It l l.length).st (.ext 0) (Tg.st ⟨tm 54 [(3,.ow 16003)],[(16003,.arr 254 2 ((Zj l l.length).map ZL.dv))],60⟩):=by exact sF [] []<|Fg 8 (by rw[Lb]:(↑(Z Z0.dv l).length:Int)=(l.length:Int))<|Ffb 9 (X ((l.length:Int)<(l.length:Int))) Fz
def Z3W(l:List Z0)(hl:l.length<=1048576):GP 191 [ZJ l] M (Iy (runs l)) []:=by exact gF [] func191 []<|Fh 3 [.own]<|Fk (0,It l 0,.nrm,⟨tm 54 [(3,.ow 16003)],[(16003,.arr 254 2 ((Zj l l.length).map ZL.dv))],60⟩)<|Fa ((Bs (S:=λi=>(It l i).st) l.length kr (λi a=>Zci l hl i a) (ZiV l)):CP (Zl f191 0) (It l 0).st Ex.nrm (Tg.mk (tm 54 [(3,AV.ow 16003)]) [(16003,Z3.arr 254 2 (Z ZL.dv (Zj l l.length)))] 60).st) Fz
def EP(l:List Z0):Nat->Nat|0=>0|i+1=>EP l i+(if(E9 l i).K=0 then 0 else 1)
def Z0P l:∀i,EP l i<=i
 |0=>LB _
 |i+1=>by
  have:=Z0P l i;grind[EP]
def Bw(l:List Z0):Nat:=EP l l.length
def S9(l:List Z0)(i:Nat):Tg:=⟨tm 19 [(3,nI (EP l i)),(6,ZJ l),(7,nI l.length),(8,nI i)],[],20⟩
def Zb2(l:List Z0)(hl:l.length<=1048576)(i:Nat)(a:i<l.length):CP (Zn f171 0) (S9 l i).st .nrm (S9 l (i+1)).st:=by
 have hp:=Le a;have d:=Z0P l i;have f:E9 l i=l[i]:=by grind[E9]
 by_cases hk:l[i].K=0;have e:EP l (i+1)=EP l i:=by grind[EP]
 rw[show S9 l (i+1)=⟨tm 19 [(3,nI (EP l i)),(6,ZJ l),(7,nI l.length),(8,nI ((i+1:Nat):Int))],[],20⟩from by rw[S9,e]];let b:=l.get (Fin.mk i a);exact sF [] []<|Fh 10 [.el b.dv]<|Ft 9 (by grind[C5]:X ((i:Int)<(l.length:Int))=Y)<|Fa (by grind[C5]:0<=(i:Int)/\(Z Z0.dv l)[(i:Int).toNat]?=O b.dv)<|Ff 14 (by grind[C5]:(b.K != 0)=M)<|Fg 17 (by grind[C5]:Lc.wrap ((i:Int)+1)=(↑(i+1):Int)) Fz;have e:EP l (i+1)=EP l i+1:=by grind[EP]
 let c:=l.get (Fin.mk i a);exact sF [] []<|Fh 10 [.el c.dv]<|Ft 9 (by grind[C5]:X ((i:Int)<(l.length:Int))=Y)<|Fa (by grind[C5]:0<=(i:Int)/\(Z Z0.dv l)[(i:Int).toNat]?=O c.dv)<|Ft 14 (by grind[C5]:(c.K != 0)=Y)<|Fg 16 (by grind[C5]:Lc.wrap ((↑(EP l i):Int)+1)=(↑(EP l (i+1)):Int))<|Fg 17 (by grind[C5]:Lc.wrap ((i:Int)+1)=(↑(i+1):Int)) Fz
def ZcM l:CP (Zn f171 0) (S9 l l.length).st (.ext 0) (Tg.st ⟨tm 19 [(3,nI (Bw l))],[],60⟩):=by exact sF [] []<|Ffb 9 (X ((l.length:Int)<(l.length:Int))) Fz
def SJ(l:List Z0)(hl:l.length<=1048576):GP 171 [ZJ l] Y (nI (Bw l)) []:=by exact gF [] func171 []<|Fk (0,S9 l 0,.nrm,⟨tm 19 [(3,nI (Bw l))],[],60⟩)<|Fg 7 (by grind:(↑(Z Z0.dv l).length:Int)=(l.length:Int))<|Fa ((Bs (S:=λi=>(S9 l i).st) l.length kr (λi a=>Zb2 l hl i a) (ZcM l)):CP (Zl f171 0) (S9 l 0).st Ex.nrm (Tg.mk (tm 19 [(3,nI (↑(Bw l):Int))]) [] 60).st) Fz
def Sg(l:List Z0)(i:Nat):Tg:=⟨tm 20 [(0,ZJ l),(3,nI (EP l i)),(4,nI i)],[],20⟩
def ZaO(l:List Z0)(hl:l.length<=1048576)(i:Nat)(a:i<l.length):CP (Zn f23 0) (Sg l i).st .nrm (Sg l (i+1)).st:=by
 have hp:=Le a;have d:=Z0P l i;have f:E9 l i=l[i]:=by grind[E9]
 by_cases hk:l[i].K=0;have e:EP l (i+1)=EP l i:=by grind[EP]
 rw[show Sg l (i+1)=⟨tm 20 [(0,ZJ l),(3,nI (EP l i)),(4,nI ((i+1:Nat):Int))],[],20⟩from by rw[Sg,e]];let b:=l.get (Fin.mk i a);exact sF [] []<|Fh 13 [.el b.dv]<|Fg 7 (by grind[C5]:(↑(Z Z0.dv l).length:Int)=(l.length:Int))<|Ft 8 (by grind[C5]:X ((i:Int)<(l.length:Int))=Y)<|Fa (by grind[C5]:0<=(i:Int)/\(Z Z0.dv l)[(i:Int).toNat]?=O b.dv)<|Ff 16 (by grind[C5]:(b.K != 0)=M)<|Fg 10 (by grind[C5]:Lc.wrap ((i:Int)+1)=(↑(i+1):Int)) Fz;have e:EP l (i+1)=EP l i+1:=by grind[EP]
 let c:=l.get (Fin.mk i a);exact sF [] []<|Fh 13 [.el c.dv]<|Fg 7 (by grind[C5]:(↑(Z Z0.dv l).length:Int)=(l.length:Int))<|Ft 8 (by grind[C5]:X ((i:Int)<(l.length:Int))=Y)<|Fa (by grind[C5]:0<=(i:Int)/\(Z Z0.dv l)[(i:Int).toNat]?=O c.dv)<|Ft 16 (by grind[C5]:(c.K != 0)=Y)<|Fg 18 (by grind[C5]:Lc.wrap ((↑(EP l i):Int)+1)=(↑(EP l (i+1)):Int))<|Fg 10 (by grind[C5]:Lc.wrap ((i:Int)+1)=(↑(i+1):Int)) Fz
def ZbI l:CP (Zn f23 0) (Sg l l.length).st (.ext 0) (Tg.st ⟨tm 20 [(3,nI (Bw l))],[],60⟩):=by exact sF [] []<|FO 7 8 Z0.dv l Fz
def TB(l:List Z0)(hl:l.length<=1048576):GP 23 [ZJ l] Y (nI (Bw l)) []:=by exact gF [] func23 []<|Fk (0,Sg l 0,.nrm,⟨tm 20 [(3,nI (Bw l))],[],60⟩)<|Fa ((Bs (S:=λi=>(Sg l i).st) l.length kr (λi a=>ZaO l hl i a) (ZbI l)):CP (Zl f23 0) (Sg l 0).st Ex.nrm (Tg.mk (tm 20 [(3,nI (↑(Bw l):Int))]) [] 60).st) Fz
def Iu:List ZL->Int->Int|[],_=>-1|r::l,k=>if k<=r.len then r.frm else Iu l k
def first(l:List Z0)(k:Int):Int:=if k<1 then -1 else Iu (runs l) k
def Z2H:∀{l:List ZL} {k:Int},(l.all λr=>X (r.len<k))=Y->Iu l k=-1
 |[],_,_=>rfl
 |r::l,k,h=>by
  simp only[LD,Lf,decide_eq_true_eq]at h;rw[Iu,if_neg oq,Z2H h.2]
def Z3L:∀{l:List ZL} {k:Int} {j:Nat} {r:ZL},l[j]?=O r->k<=r.len->(∀i:Nat,i<j->∃y,l[i]?=O y/\X (y.len<k)=Y)->Iu l k=r.frm
 |[],_,_,_,h,_,_=>by simp at h
 |x::l,k,0,r,h,hr,_=>by
  grind[Iu]
 |x::l,k,j+1,r,h,hr,hb=>by
  obtain⟨y,a,b⟩:=hb 0 oq;simp at a b;subst a;rw[Iu,if_neg oq];exact Z3L (by simpa using h) hr λi hi=>by
   grind
def Z82{l}:(runs l).length<=l.length:=(NV l l.length).1
def NU(a:List ZL)(k:Int)(i:Nat):Tg:=⟨tm 23 [(1,nI k),(4,nI 0),(10,Iy a),(11,nI a.length),(12,nI i)],[],20⟩
def Z6B(a:List ZL)(k:Int)(i:Nat)(r:ZL)(hl:a.length<=1048576)(b:a[i]?=O r)(hk:r.len<k):CP (Zn f172 0) (NU a k i).st .nrm (NU a k (i+1)).st:=by have hi:i<a.length:=(Ld.1 b).1;exact sF [] []<|Fh 14 [.el r.dv]<|Ftb 13 (X ((i:Int)<(a.length:Int)))<|Fa (by grind[C5]:0<=(i:Int)/\(Z ZL.dv a)[(i:Int).toNat]?=O r.dv)<|Ffb 19 (X (k<=r.len))<|Fx 22 i Fz
def Zly(a:List ZL)(k:Int)(i:Nat)(r:ZL)(b:a[i]?=O r)(hk:k<=r.len):CP (Zn f172 0) (NU a k i).st .ret (Tg.st ⟨tm 23 [(4,nI r.frm)],[],60⟩):=by have hi:i<a.length:=(Ld.1 b).1;exact sF [] []<|Fh 14 [.el r.dv]<|Ftb 13 (X ((i:Int)<(a.length:Int)))<|Fa (by grind:0<=(i:Int)/\(Z ZL.dv a)[(i:Int).toNat]?=O r.dv)<|Ftb 19 (X (k<=r.len)) Fz
def Zit a k:CP (Zn f172 0) (NU a k a.length).st (.ext 0) (Tg.st ⟨tm 23 [],[],60⟩):=by exact sF [] []<|Ffb 13 (X ((a.length:Int)<(a.length:Int))) Fz
def NS(l:List Z0) k(hl:l.length<=1048576):GP 172 [ZJ l,nI k] Y (nI (first l k)) []:=by
 by_cases b:k<1;rw[first,if_pos b];exact gF [] func172 []<|Ftb 8 (X (k<1)) Fz;rw[first,if_neg b];have h:=Z82 (l:=l);cases ha:(runs l).all λr=>X (r.len<k)with
 |true =>rw[Z2H ha];refine Zb [((8:Nat),[Hint.br M]),((10:Nat),[Hint.call M (Iy (runs l)) []]),((11:Nat),[Hint.int (↑(runs l).length:Int)])] [((0:Nat),NU (runs l) k 0,.nrm,⟨tm 23 [],[],60⟩)] [] dd func172 [] (φ:=X (k<(1:Int))=M/\M=M/\GP 219 [AV.d (DV.sl (4:Nat) (Z Z0.dv l))] M (Iy (runs l)) []/\(↑(Z ZL.dv (runs l)).length:Int)=(↑(runs l).length:Int)/\CP (Zl f172 (0:Nat)) (NU (runs l) k (0:Nat)).st Ex.nrm (Tg.mk (tm (23:Nat) []) [] (60:Nat)).st) ?_ kr kr;refine⟨decide_eq_false b,rfl,Z8I l hl,by grind,Bs (S:=λi=>(NU (runs l) k i).st) (runs l).length kr (λi a=>?_) (Zit _ _)⟩;have:=LF.1 ha _ (LI a);exact Z6B _ k i _ oq (Le a) (by grind)
 |false =>
  obtain⟨j,r,c,h2,d⟩:=MV ha;have e:k<=r.len:=by grind
  rw[Z3L c e d];refine Zb [((8:Nat),[Hint.br M]),((10:Nat),[Hint.call M (Iy (runs l)) []]),((11:Nat),[Hint.int (↑(runs l).length:Int)])] [((0:Nat),NU (runs l) k 0,.ret,⟨tm 23 [(4,nI r.frm)],[],60⟩)] [] dd func172 [] (φ:=X (k<(1:Int))=M/\M=M/\GP 219 [AV.d (DV.sl (4:Nat) (Z Z0.dv l))] M (Iy (runs l)) []/\(↑(Z ZL.dv (runs l)).length:Int)=(↑(runs l).length:Int)/\CP (Zl f172 (0:Nat)) (NU (runs l) k (0:Nat)).st Ex.ret (Tg.mk (tm (23:Nat) [((4:Nat),nI r.frm)]) [] (60:Nat)).st) ?_ kr kr;refine⟨decide_eq_false b,rfl,Z8I l hl,by grind,EF (S:=λi=>(NU (runs l) k i).st) j kr (λi a=>?_) (Zly _ k j r c e)⟩;obtain⟨y,f,g⟩:=d i a;exact Z6B _ k i y oq f (by simpa using g)
def IU(a:List ZL)(k:Int)(i:Nat):Tg:=⟨tm 31 [(1,nI k),(4,nI 0),(5,Iy a),(6,nI i)],[],20⟩
def Z0X(a:List ZL)(k:Int)(i:Nat)(r:ZL)(hl:a.length<=1048576)(b:a[i]?=O r)(hk:k<1\/r.len<k):CP (Zn f141 0) (IU a k i).st .nrm (IU a k (i+1)).st:=by have hi:i<a.length:=(Ld.1 b).1;exact sF [] []<|Fh 20 [.el r.dv]<|FM 11 12 ZL.dv a i<|Fa (by grind[C5]:X (1<=k)=Y->0<=(i:Int)/\(Z ZL.dv a)[(i:Int).toNat]?=O r.dv)<|Ffb 25 (X (1<=k)&&X (k<=r.len))<|Fx 14 i Fz
def Zln(rs:List ZL)(k:Int)(i:Nat)(r:ZL)(hr:rs[i]?=O r)(hk1:1<=k)(hk:k<=r.len):CP (Zn f141 0) (IU rs k i).st .ret (Tg.st ⟨tm 31 [(4,nI r.frm)],[],60⟩):=by
 have hi:i<rs.length:=(Ld.1 hr).1;refine Zi [((11:Nat),[Hint.int (rs.length:Int)]),((12:Nat),[Hint.br Y]),((20:Nat),[Hint.el r.dv]),((25:Nat),[Hint.br Y]),((28:Nat),[Hint.el r.dv])] [] [] [] (φ:=(↑(Z ZL.dv rs).length:Int)=(rs.length:Int)/\X ((i:Int)<(rs.length:Int))=Y/\Y=Y/\(X ((1:Int)<=k)=Y->(0:Int)<=(i:Int)/\(Z ZL.dv rs)[(i:Int).toNat]?=O r.dv)/\(X ((1:Int)<=k)&&X (k<=r.len))=Y/\Y=Y/\(0:Int)<=(i:Int)/\(Z ZL.dv rs)[(i:Int).toNat]?=O r.dv) ?_ kr kr kr;exact⟨(by simp only[Lb]),(by(simp only[bs];omega)),rfl,(by grind),(by(simp only[bs];omega)),rfl,(by grind),(by grind)⟩
def Z8Z a k:CP (Zn f141 0) (IU a k a.length).st (.ext 0) (Tg.st ⟨tm 31 [],[],60⟩):=by exact sF [] []<|FO 11 12 ZL.dv a Fz
def Dr(l:List Z0) k(hl:l.length<=1048576):GP 141 [ZJ l,nI k] Y (nI (first l k)) []:=by
 have h:=Z82 (l:=l);by_cases b:k<1;rw[first,if_pos b];exact gF [] func141 []<|Fh 8 [.call M (Iy (runs l)) []]<|Fk (0,IU (runs l) k 0,.nrm,⟨tm 31 [],[],60⟩)<|Fa ((Z3W l hl):GP 191 [AV.d (DV.sl 4 (Z Z0.dv l))] M (Iy (runs l)) [])<|Fa ((Bs (S:=λi=>(IU (runs l) k i).st) (runs l).length kr (λi a=>Z0X _ k i _ oq (Le a) (.inl b)) (Z8Z _ _)):CP (Zl f141 0) (IU (runs l) k 0).st Ex.nrm (Tg.mk (tm 31 []) [] 60).st) Fz;rw[first,if_neg b];cases ha:(runs l).all λr=>X (r.len<k)with
 |true =>rw[Z2H ha];refine Zb [((8:Nat),[Hint.call M (Iy (runs l)) []])] [((0:Nat),IU (runs l) k 0,.nrm,⟨tm 31 [],[],60⟩)] [] dd func141 [] (φ:=GP 191 [AV.d (DV.sl (4:Nat) (Z Z0.dv l))] M (Iy (runs l)) []/\CP (Zl f141 (0:Nat)) (IU (runs l) k (0:Nat)).st Ex.nrm (Tg.mk (tm (31:Nat) []) [] (60:Nat)).st) ?_ kr kr;refine⟨Z3W l hl,Bs (S:=λi=>(IU (runs l) k i).st) (runs l).length kr (λi a=>?_) (Z8Z _ _)⟩;have:=LF.1 ha _ (LI a);exact Z0X _ k i _ oq (Le a) (.inr (by grind))
 |false =>
  obtain⟨j,r,c,h2,d⟩:=MV ha;have e:k<=r.len:=by grind
  rw[Z3L c e d];refine Zb [((8:Nat),[Hint.call M (Iy (runs l)) []])] [((0:Nat),IU (runs l) k 0,.ret,⟨tm 31 [(4,nI r.frm)],[],60⟩)] [] dd func141 [] (φ:=GP 191 [AV.d (DV.sl (4:Nat) (Z Z0.dv l))] M (Iy (runs l)) []/\CP (Zl f141 (0:Nat)) (IU (runs l) k (0:Nat)).st Ex.ret (Tg.mk (tm (31:Nat) [((4:Nat),nI r.frm)]) [] (60:Nat)).st) ?_ kr kr;refine⟨Z3W l hl,EF (S:=λi=>(IU (runs l) k i).st) j kr (λi a=>?_) (Zln _ k j r c oq e)⟩;obtain⟨y,f,g⟩:=d i a;exact Z0X _ k i y oq f (.inr (by simpa using g))
def Z6J l:∀i,∀r∈Zj l i,∀j:Int,r.frm<=j->j<r.frm+r.len->(l.getD j.toNat L).K=0
 |0=>by simp[Zj]
 |i+1=>by
  have e:=Z6J l i;have ok:=(NV l i).2;intro r a j b c;simp only[Zj,RY]at a;have g:E9 l i=l.getD i L:=by rw[Z1H];simp
  split at a
  .rename_i f;rw[g]at f;split at a
   .rename_i h;have d:=Lj (R4 h.1);rcases Lt.1 a with a|a
    .exact e r (LG _ a) j b c
    .simp at a;subst a;simp only at b c;by_cases k:j=i
     .subst k;simpa using f
     .exact e _ d j b oq
   .rcases Lt.1 a with a|a
    .exact e r a j b c
    .simp at a;subst a;simp only at b c;have:j=i:=by omega
     subst this;simpa using f
  .exact e r a j b c
def Z4i:∀{l:List ZL} {k:Int},0<=Iu l k->∃r∈l,Iu l k=r.frm/\k<=r.len
 |[],_,h=>by simp[Iu]at h
 |r::l,k,h=>by
  rw[Iu]at h⊢;split
  .exact⟨r,by simp,rfl,aa⟩
  .rename_i c;rw[if_neg c]at h;obtain⟨x,d,a,b⟩:=Z4i h;exact⟨x,by simp[d],a,b⟩
def HU{l k}(h:0<=first l k):1<=k/\first l k+k<=l.length/\HJ l (first l k).toNat k.toNat=Y:=by
 unfold first at h⊢
 split at h;omega;rename_i c;rw[if_neg c];obtain⟨r,a,b,h2⟩:=Z4i h;have ok:=(NV l l.length).2 r a;rw[b]at h⊢;refine⟨by omega,by omega,Al.2 λj hj=>?_⟩;have:=Z6J l l.length r a (r.frm+j) oq oq;rwa [show(r.frm+(j:Int)).toNat=r.frm.toNat+j from by omega]at this
def Z1M l(k:Int):-1<=first l k/\first l k<=l.length:=by
 by_cases h:0<=first l k
 have:=HU h;omega;unfold first at h⊢
 split;omega;rename_i b;rw[if_neg b]at h;have:∀m:List ZL,(∀r∈m,0<=r.frm)->-1<=Iu m k:=by
  intro m;induction m with|nil=>intro _;simp[Iu]|cons r m e =>intro a;rw[Iu];split;have:=a r pq;omega;exact e λx d=>a x (by simp[d])
 have:=this (runs l) λr c=>((NV l l.length).2 r c).1;omega
def Z6V{c l}:∀{f i:Nat} {a:Int},0<=a->Gj c l f i a=Y->l.length<=i+f->∀j,i<=j->j<l.length->∃d,0<=d/\Gi c l j d:=by
 intro f;induction f with|zero=>intro i a _ _ o j h e;omega|succ f p =>intro i a k b o j h e;rw[Gj,if_pos oq,Lf]at b;have g:=of_decide_eq_true b.1;by_cases m:j=i;subst m;exact⟨a,k,g⟩;refine p ?_ b.2 oq j oq e;unfold EI;split;rename_i n;have:=g.2.2.2.2.2.2.2.2.2.1 n;omega;omega
theorem Ew{h:Heap}(g:Z9 h=Y){j:Nat}(e:j<h.P.length):0<=(h.P.getD j L).S/\(h.P.getD j L).S<=1/\0<=(h.P.getD j L).N/\(h.P.getD j L).N<=2147483647 /\
  0<=(h.P.getD j L).K/\(h.P.getD j L).K<=3/\0<=(h.P.getD j L).U/\(h.P.getD j L).U<=256/\((h.P.getD j L).K=1->(h.P.getD j L).U<=h.C.pw):=by
 have b:=Hl.1 g;have hv:=BR.1 b.1;obtain⟨d,_,a⟩:=Z6V oq b.2.2.2.2.2 oq j oq e;unfold Gi at a;have hu:(h.P.getD j L).K=2->1<=(h.P.getD j L).U/\(h.P.getD j L).U<=256:=by(intro f;have c:=(a.2.2.2.2.2.2.2.2.2.1 f).1;unfold need at c;split at c;omega;omega)
 omega
def Z7o(l:List Z0):Bw l<=l.length:=Z0P l l.length
abbrev tP(l:List Z0)(s:Int):List Z0:=ZF l (first l 1).toNat 1 (Z0.mk 1 s 0 0) (Z0.mk 0 0 0 0)
end Go.Proofs.YtkmnngahjnkdmaaGreat
