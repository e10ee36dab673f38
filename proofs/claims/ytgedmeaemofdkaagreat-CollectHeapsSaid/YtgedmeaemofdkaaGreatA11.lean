/-
 The statement CollectHeaps: part 11.
 Conditions: none.
-/
import Derived.Test.YtgedmeaemofdkaaGreatA10
set_option maxRecDepth 100000
set_option maxHeartbeats 2000000
set_option linter.all false
open Inhabited renaming default->X
open Bool renaming true->Y,false->M,and_eq_true->Lu,not_eq_true'->LQ
open List renaming map->Z,replicate->Lc,getD_eq_getElem?_getD->Ld,mem_append_left->Le,mem_range->Lf,find?_eq_none->Lh,mem_append->Li,getElem?_eq_none->Ll,mem_singleton->Lm,range->Ln,length_map->Lq,take->Lr,mem_append_right->Lw,length_replicate->Ly,mem_cons->Lz,mem_map->LA,find?_range_eq_some->LC,getElem?_eq_getElem->LD,length_set->LF,length_drop->LJ,length_take->LK,map_set->LL,mem_or_eq_of_mem_set->LM,mem_replicate->LN,any_eq_true->LY,getElem?_map->LZ,getElem?_range->L0,length->L1,length_append->L2,map_append->L3,map_drop->L4,map_take->L5,mem_iff_getElem->L6,mem_of_mem_drop->L7,mem_of_mem_take->L8
open Decidable renaming decide->O,not_not->Lo
open Or renaming inl->La,inr->Lb
open Option renaming some->Lg,none->Ls,getD_some->LH,getD_none->LO,map_some->Xe
open Nat renaming le_refl->Lj,lt_trichotomy->LG,add_mul->L9,le_add_right->Xa,le_trans->Xb,mul_le_mul_right->Xc,one_mul->Xd
open Int renaming toNat_natCast->Lk,toNat->Lp,mul_nonneg->Lt,mul_comm->Lx,add_zero->LB,eq_ofNat_of_zero_le->LI,add_assoc->LR,emod_lt_of_pos->LS,emod_nonneg->LU,natCast_mul->LV,tdiv_eq_ediv_of_nonneg->LW,toNat_of_nonneg->LX
open Go.IntKind renaming i64->Lv
open Go.Proofs.Tryz
namespace Go.Proofs.YtgedmeaemofdkaaGreat
open Go.Sx
def C2(w:Z7)(r:Int):Int:=if r∈w.Q then r else(ZF (Z1 w.j.W r).1).1
def Z6V(w:Z7)(r:Int)(b:Zy w.j.W)(hl:w.j.W.length<=4096)(hq:w.Q.length<=1048576)(h0:0<=r/\r<=18446744073709551615):GP 85 [w.av,uU r] Y (uU (C2 w r)) []:=by have h1:=EM b r;rcases bb (O (r∈w.Q))with hc0|hc0<;>have a:=hc0<;>simp only[bs]at a;exact gF [] func85 [Y]<|Fh 12 [.call Y (bL (O (r∈w.Q))) [],.br Y]<|Fa (@E5 w.Q r aa)<|Fa hc0<|Fa (by simp[C2, *]:r=C2 w r) Fz;exact gF [] func85 [Y]<|Fh 12 [.call Y (bL (O (r∈w.Q))) [],.br M]<|Fa (@E5 w.Q r aa)<|Fa hc0<|Fc 19 (@Hx w.j.W r oq aa)<|Fc 24 (@A7 ((Z1 w.j.W r).1) oq oq)<|Fa (by simp[C2, *]:(ZF (Z1 w.j.W r).1).1=C2 w r) Fz
def ZdJ(w:Z7)(a:Int)(b:Zy w.j.W)(h1:w.j.W.length<=4096)(h0:0<=a/\a<=18446744073709551615):GP 142 [w.av,uU a] Y (Zv w a).av []:=by have h2:=EM b a;exact gF [] func142 []<|Fc 14 (@Hx w.j.W a oq aa)<|Fc 19 (@A6 ((Z1 w.j.W a).1) oq oq) Fz
def Gz(w:Z7)(x:Int):Z7:=if ZJ w (Z3 w.j.C x).1=Y/\x∉w.Q then⟨⟨w.j.C,(ZU w.j.W x (BH ⟨0,(Zv w x).length,0⟩)).1,w.j.P,w.j.S,w.j.B⟩,w.old,w.T,w.Q,w.D,⟨w.rep.copied,w.rep.kept,w.rep.filled+1,w.rep.freed,w.rep.cleared,w.rep.steps⟩⟩else w
def C9(w:Z7):Nat->Z7|0=>w|k+1=>Gz (C9 w k) (w.old.getD k X)
def Pp(w:Z7)(i:Nat):Tg:=⟨tm 84 [(1,.pt 8001 0 0),(2,.pt 8002 0 0),(3,nI i)],[(8002,.box 138 zW),(8001,.box 138 w.cells)],60⟩
structure FOk (w:Z7):Prop where
 W:Zy w.j.W
 wl:w.j.W.length<=4096
 pl:w.j.P.length<=64
 ol:w.old.length<=524288
 o:∀x∈w.old,0<=x/\x<=8192
 tl:w.T.length<=1000000
 ql:w.Q.length<=1000000
def Ba.fok{w}(h:Ba w):FOk w:=by have h1:=h.mu;have h2:=h.tl;have h3:=h.pl;have h4:=BF.1 h.C;exact⟨h.W,h.wl,by omega,h.ol,h.o,by omega,by omega⟩
def DC{n:Int}(h:0<=n/\n<=255):Zu ⟨0,n,0⟩=(1+16*n,0):=by have hv:ZV ⟨0,n,0⟩=Y:=Gq.2 ⟨by simp,by simp,h.1,h.2,by simp⟩;rw[Zu,if_pos hv];simp
section
variable(w:Z7)(i:Nat)(a:FOk w)(hi:i<w.old.length)(hr:0<=w.rep.filled/\w.rep.filled<=1000000)
include a hi hr
theorem Zb0:CP (Zl f87 0) (Pp w i).st .nrm (Pp (Gz w (w.old.getD i X)) (i+1)).st:=by
 have d:=a.W;have h2:=a.wl;have h3:=a.pl;have h4:=a.ol;have h5:=a.tl;have h6:=a.ql;have hx:=a.o _ (BI.2 ⟨i,hi,rfl⟩);have hm:=Ij (Z1 w.j.W (w.old.getD i X)).1 (EM d _).1;have e:0<=(Zv w (w.old.getD i X)).length/\(Zv w (w.old.getD i X)).length<=255:=BQ w.j.W (w.old.getD i X);have he:=DC e;by_cases c1:ZJ w (Z3 w.j.C (w.old.getD i X)).1=Y;by_cases c2:w.old.getD i X∈w.Q;have b:Gz w (w.old.getD i X)=w:=by rw[Gz,if_neg (by rintro⟨_,q⟩;exact q c2)]
 rw[b];exact sF [] []<|FN 13 14 24 wD w.old i<|Fc 26 (@H5 w.j.C (w.old.getD i X) oq oq)<|Fc 32 (@Sz w ((Z3 w.j.C (w.old.getD i X)).1) oq oq)<|FeG 40 (!!ZJ w (Z3 w.j.C (w.old.getD i X)).1) wD w.old (↑i) i<|FcG 42 (!!ZJ w (Z3 w.j.C (w.old.getD i X)).1) (λc=>by(try simp only[bs]at c);exact@E5 w.Q (w.old.getD i X) oq)<|Fts 43 (!ZJ w (Z3 w.j.C (w.old.getD i X)).1||O (w.old.getD i X∈w.Q))<|Fx 16 i Fz;have b:Gz w (w.old.getD i X)=⟨⟨w.j.C,(ZU w.j.W (w.old.getD i X) (BH ⟨0,(Zv w (w.old.getD i X)).length,0⟩)).1,w.j.P,w.j.S,w.j.B⟩,w.old,w.T,w.Q,w.D,⟨w.rep.copied,w.rep.kept,w.rep.filled+1,w.rep.freed,w.rep.cleared,w.rep.steps⟩⟩:=by rw[Gz,if_pos ⟨c1,c2⟩]
 rw[b];exact sF [] []<|Fh 71 [.els (Z wD ([(Zu (ZB.mk 0 (Zv w (w.old.getD i X)).length 0)).1]++Lc (Zv w (w.old.getD i X)).length.toNat 0))]<|FN 13 14 24 wD w.old i<|Fc 26 (@H5 w.j.C (w.old.getD i X) oq oq)<|Fc 32 (@Sz w ((Z3 w.j.C (w.old.getD i X)).1) oq oq)<|FeG 40 (!!ZJ w (Z3 w.j.C (w.old.getD i X)).1) wD w.old (↑i) i<|FcG 42 (!!ZJ w (Z3 w.j.C (w.old.getD i X)).1) (λc=>by(try simp only[bs]at c);exact@E5 w.Q (w.old.getD i X) oq)<|Ffs 43 (!ZJ w (Z3 w.j.C (w.old.getD i X)).1||O (w.old.getD i X∈w.Q))<|Fek 48 wD w.old (↑i) i<|Fc 50 (@ZdJ w (w.old.getD i X) aa aa oq)<|Fc 55 (@D4 (ZB.mk 0 (Zv w (w.old.getD i X)).length 0) (by(simp only[bs];omega)))<|Fek 65 wD w.old (↑i) i<|Fs 68 (Z wD [(Zu (ZB.mk 0 (Zv w (w.old.getD i X)).length 0)).1])<|Fa (by grind[BH]:0<=(Zv w (w.old.getD i X)).length/\(↑(Z wD [(Zu (ZB.mk 0 (Zv w (w.old.getD i X)).length 0)).1]).length:Int)+(Zv w (w.old.getD i X)).length<=2^30)<|Fa (by simp[BH,L5,L4,LL,L3,wD,iD]:Z wD [(Zu (ZB.mk 0 (Zv w (w.old.getD i X)).length 0)).1]++Lc (Zv w (w.old.getD i X)).length.toNat [ZD 0]=Z wD ([(Zu (ZB.mk 0 (Zv w (w.old.getD i X)).length 0)).1]++Lc (Zv w (w.old.getD i X)).length.toNat 0))<|Fc 72 (@TB w.j.W ([(Zu (ZB.mk 0 (Zv w (w.old.getD i X)).length 0)).1]++Lc (Zv w (w.old.getD i X)).length.toNat 0) (w.old.getD i X) oq oq (by grind[BH]))<|Fi 80 (w.rep.filled+1)<|Fx 16 i Fz;have b:Gz w (w.old.getD i X)=w:=by rw[Gz,if_neg (by rintro⟨q,_⟩;exact c1 q)]
 rw[b];exact sF [] []<|FN 13 14 24 wD w.old i<|Fc 26 (@H5 w.j.C (w.old.getD i X) oq oq)<|Fc 32 (@Sz w ((Z3 w.j.C (w.old.getD i X)).1) oq oq)<|FeG 40 (!!ZJ w (Z3 w.j.C (w.old.getD i X)).1) wD w.old (↑i) i<|FcG 42 (!!ZJ w (Z3 w.j.C (w.old.getD i X)).1) (λc=>by(try simp only[bs]at c);exact@E5 w.Q (w.old.getD i X) oq)<|Fts 43 (!ZJ w (Z3 w.j.C (w.old.getD i X)).1||O (w.old.getD i X∈w.Q))<|Fx 16 i Fz
end
def ZkP w:CP (Zl f87 0) (Pp w w.old.length).st (.ext 0) (Tg.st ⟨tm 84 [(1,.pt 8001 0 0),(2,.pt 8002 0 0)],[(8002,.box 138 zW),(8001,.box 138 w.cells)],60⟩):=by exact sF [] []<|FO 13 14 wD w.old Fz
def Zk5 w(x:Int):∃l n,Gz w x=⟨⟨w.j.C,l,w.j.P,w.j.S,w.j.B⟩,w.old,w.T,w.Q,w.D,⟨w.rep.copied,w.rep.kept,n,w.rep.freed,w.rep.cleared,w.rep.steps⟩⟩/\l.length<=w.j.W.length/\(Zy w.j.W->Zy l)/\w.rep.filled<=n/\n<=w.rep.filled+1:=by unfold Gz;split;refine⟨_,_,rfl,Z22 _ _ _,λh=>P9 h ?_ _,by omega,by omega⟩;intro y a;have b:0<=(Zv w x).length/\(Zv w x).length<=255:=BQ w.j.W x;simp only[BH,Lz,LN,DC b]at a;rcases a with rfl|⟨_,rfl⟩<;>omega;exact⟨w.j.W,w.rep.filled,rfl,Lj _,λh=>h,by omega,by omega⟩
def HU w(b:FOk w):∀k,FOk (C9 w k)/\(C9 w k).j.C=w.j.C/\(C9 w k).j.P=w.j.P/\(C9 w k).j.S=w.j.S/\(C9 w k).j.B=w.j.B/\(C9 w k).old=w.old/\(C9 w k).T=w.T/\(C9 w k).Q=w.Q/\(C9 w k).rep.freed=w.rep.freed/\(C9 w k).rep.cleared=w.rep.cleared/\w.rep.filled<=(C9 w k).rep.filled/\(C9 w k).rep.filled<=w.rep.filled+k
 |0=>⟨b,rfl,rfl,rfl,rfl,rfl,rfl,rfl,rfl,rfl,by simp[C9],by simp[C9]⟩
 |k+1=>by
  obtain⟨a,d,i2,i3,i4,h,i,j,i8,m,f,g⟩:=HU w b k;obtain⟨l,n,e,e1,c,e3,e4⟩:=Zk5 (C9 w k) (w.old.getD k X);have:C9 w (k+1)=_:=e;rw[this];have hl:=a.wl;exact⟨⟨c a.W,by simp only;omega,a.pl,a.ol,a.o,a.tl,a.ql⟩,d,i2,i3,i4,h,i,j,i8,m,by simp only;omega,by simp only;omega⟩
section
variable(w:Z7)(a:FOk w)(hr:w.rep.filled=0)
include a hr
theorem Zbc:CP (Zk f87 0) (Tg.st ⟨tm 84 [(1,.pt 8001 0 0),(2,.pt 8002 0 0),(3,nI 0)],[(8002,.box 138 zW),(8001,.box 138 w.cells)],60⟩) .nrm (Tg.st ⟨tm 84 [(1,.pt 8001 0 0),(2,.pt 8002 0 0)],[(8002,.box 138 zW),(8001,.box 138 (C9 w w.old.length).cells)],60⟩):=by have c:=a.ol;refine Bp (S:=λk=>(Pp (C9 w k) k).st) w.old.length kr (λk b=>?_) ?_;have h:=HU w a k;have:=Zb0 (C9 w k) k h.1 (by rw[h.2.2.2.2.2.1];exact b) oq;rw[h.2.2.2.2.2.1]at this;exact this;have h:=HU w a w.old.length;have:=ZkP (C9 w w.old.length);rw[h.2.2.2.2.2.1]at this;exact this
theorem Z8o:GP 87 [w.av] M (C9 w w.old.length).av []:=by exact gF [] func87 []<|Fu (@Zbc w aa aa) Fz
end
def Ez(s:Int)(p:Z0):Prop:=p.K≠0/\p.S=s
instance (s:Int) (p:Z0):Decidable (Ez s p):=by unfold Ez;infer_instance
def E3(s:Int)(p:Z0):Z0:=if Ez s p then⟨0,0,0,0⟩else p
def Ec(pw s:Int)(l:List Z0)(ws:List Int):Nat->List Int|0=>ws|i+1=>if Ez s (l.getD i X)then C6 (Ec pw s l ws i) (i*pw.toNat) (Lc pw.toNat 0)else Ec pw s l ws i
def EQ(n s:Int)(l:List Z0):Nat->Int|0=>n|i+1=>if Ez s (l.getD i X)then EQ n s l i+1 else EQ n s l i
def AA(w:Z7)(a:List Z0)(ws:List Int)(n:Int)(i:Nat):Tg:=⟨tm 78 [(1,.pt 8001 0 0),(2,.pt 8002 0 0),(3,nI i)],[(8001,.box 138 [nI w.j.C.pw,nI w.j.C.pg,.ow 24017,.ow 16010,nI w.j.S,nI w.j.B,Z2 w.old,ZE w.T,Z2 w.Q,nI w.D,nI w.rep.copied,nI w.rep.kept,nI w.rep.filled,nI n,nI w.rep.cleared,nI w.rep.steps]),(24017,.arr 35 1 (ws.map wD)),(16010,.arr 86 4 (a.map Z0.dv)),(8002,.box 138 zW)],60⟩
def ZfR(w:Z7)(a:List Z0) ws n(i:Nat)(hl:a.length<=64)(hi:i<a.length)(b:¬ Ez w.j.S (a.getD i X)):CP (Zl f86 0) (AA w a ws n i).st .nrm (AA w a ws n (i+1)).st:=by unfold Ez at b;have c:¬ ((a.getD (i:Int).toNat X).K≠0/\(a.getD (i:Int).toNat X).S=w.j.S):=b;exact sF [] []<|FM 24 25 Z0.dv a i<|Fmq 33 Z0.dv a (↑i)<|Ftb 44 ((a.getD (i:Int).toNat X).K==0||(a.getD (i:Int).toNat X).S != w.j.S)<|Fx 27 i Fz
def TW(w:Z7)(a:List Z0)(ws:List Int)(n:Int)(i k:Nat):Tg:=⟨tm 78 [(1,.pt 8001 0 0),(2,.pt 8002 0 0),(3,nI i),(5,nI k)],[(8001,.box 138 [nI w.j.C.pw,nI w.j.C.pg,.ow 24017,.ow 16010,nI w.j.S,nI w.j.B,Z2 w.old,ZE w.T,Z2 w.Q,nI w.D,nI w.rep.copied,nI w.rep.kept,nI w.rep.filled,nI n,nI w.rep.cleared,nI w.rep.steps]),(16010,.arr 86 4 (a.map Z0.dv)),(24017,.arr 35 1 ((wr ws (Lc w.j.C.pw.toNat 0) (i*w.j.C.pw.toNat) k).map wD)),(8002,.box 138 zW)],64⟩
section
variable(w:Z7)(a:List Z0)(ws:List Int)(n:Int)(i k:Nat)(b:0<=w.j.C.pw/\w.j.C.pw<=64)(hi:i<=64)(hl:i*w.j.C.pw.toNat+w.j.C.pw.toNat<=ws.length)(c:ws.length<=4096)
include b hi hl c
theorem Zkw(d:k<w.j.C.pw.toNat):CP (Zl f86 2) (TW w a ws n i k).st .nrm (TW w a ws n i (k+1)).st:=by
 have e:=Og (ws:=ws) (l:=Lc w.j.C.pw.toNat 0) (i:=i*w.j.C.pw.toNat) (k:=k) (by simpa using hl) (by simpa using d) (0:Int);rw[show(Lc w.j.C.pw.toNat (0:Int)).getD k 0=0 by simp[List.getD,d]]at e;have hn:=N9 (ws:=ws) (l:=Lc w.j.C.pw.toNat (0:Int)) (i:=i*w.j.C.pw.toNat) (k:=k) (by simpa using hl) qo;have em:(i:Int)*w.j.C.pw=((i*w.j.C.pw.toNat:Nat):Int):=by rw[LV,LX b.1]
 have ei:(i:Int)*w.j.C.pw+k=((i*w.j.C.pw.toNat+k:Nat):Int):=by omega
 exact sF [] (fO 6)<|Fh 10076 [.els (Z wD ((wr ws (Lc w.j.C.pw.toNat 0) (i*w.j.C.pw.toNat) k).set (↑(i*w.j.C.pw.toNat+k):Int).toNat 0))]<|Ftb 62 (O ((k:Int)<w.j.C.pw))<|Fi 73 ((i:Int)*w.j.C.pw)<|Fg 75 (by rw[CR oq oq];omega:Lv.wrap ((i:Int)*w.j.C.pw+(k:Int))=(↑(i*w.j.C.pw.toNat+k):Int))<|Fa (by(simp only[Lq];omega):0<=(↑(i*w.j.C.pw.toNat+k):Int)/\(↑(i*w.j.C.pw.toNat+k):Int).toNat<(Z wD (wr ws (Lc w.j.C.pw.toNat 0) (i*w.j.C.pw.toNat) k)).length)<|Fa (by(simp only[Lq];omega):(↑(i*w.j.C.pw.toNat+k):Int).toNat<(Z wD (wr ws (Lc w.j.C.pw.toNat 0) (i*w.j.C.pw.toNat) k)).length)<|Fa (ms:(Z wD (wr ws (Lc w.j.C.pw.toNat 0) (i*w.j.C.pw.toNat) k)).set (↑(i*w.j.C.pw.toNat+k):Int).toNat [ZD 0]=Z wD ((wr ws (Lc w.j.C.pw.toNat 0) (i*w.j.C.pw.toNat) k).set (↑(i*w.j.C.pw.toNat+k):Int).toNat 0))<|Fx 64 k<|Fr (35:Int)<|Fa (by refine congrArg _ ?_;exact e:Z wD ((wr ws (Lc w.j.C.pw.toNat 0) (i*w.j.C.pw.toNat) k).set (↑(i*w.j.C.pw.toNat+k):Int).toNat 0)=Z wD (wr ws (Lc w.j.C.pw.toNat 0) (i*w.j.C.pw.toNat) (k+1))) Fz
theorem ZeK:CP (Zl f86 2) (TW w a ws n i w.j.C.pw.toNat).st (.ext 2) (Tg.st ⟨tm 78 [(1,.pt 8001 0 0),(2,.pt 8002 0 0),(3,nI i)],[(8001,.box 138 [nI w.j.C.pw,nI w.j.C.pg,.ow 24017,.ow 16010,nI w.j.S,nI w.j.B,Z2 w.old,ZE w.T,Z2 w.Q,nI w.D,nI w.rep.copied,nI w.rep.kept,nI w.rep.filled,nI n,nI w.rep.cleared,nI w.rep.steps]),(16010,.arr 86 4 (a.map Z0.dv)),(24017,.arr 35 1 ((C6 ws (i*w.j.C.pw.toNat) (Lc w.j.C.pw.toNat 0)).map wD)),(8002,.box 138 zW)],64⟩):=by have d:=Mi ws (Lc w.j.C.pw.toNat (0:Int)) (i*w.j.C.pw.toNat);rw[Ly]at d;exact sF [] (fO 5)<|Ffb 62 (O ((w.j.C.pw.toNat:Int)<w.j.C.pw))<|Fr (35:Int)<|Fa (by refine congrArg _ ?_;assumption:Z wD (wr ws (Lc w.j.C.pw.toNat 0) (i*w.j.C.pw.toNat) w.j.C.pw.toNat)=Z wD (C6 ws (i*w.j.C.pw.toNat) (Lc w.j.C.pw.toNat 0))) Fz
theorem Zb5:CP (Zk f86 2) (Tg.st ⟨tm 78 [(1,.pt 8001 0 0),(2,.pt 8002 0 0),(3,nI i),(5,nI 0)],[(8001,.box 138 [nI w.j.C.pw,nI w.j.C.pg,.ow 24017,.ow 16010,nI w.j.S,nI w.j.B,Z2 w.old,ZE w.T,Z2 w.Q,nI w.D,nI w.rep.copied,nI w.rep.kept,nI w.rep.filled,nI n,nI w.rep.cleared,nI w.rep.steps]),(16010,.arr 86 4 (a.map Z0.dv)),(24017,.arr 35 1 (ws.map wD)),(8002,.box 138 zW)],64⟩) .nrm (Tg.st ⟨tm 78 [(1,.pt 8001 0 0),(2,.pt 8002 0 0),(3,nI i)],[(8001,.box 138 [nI w.j.C.pw,nI w.j.C.pg,.ow 24017,.ow 16010,nI w.j.S,nI w.j.B,Z2 w.old,ZE w.T,Z2 w.Q,nI w.D,nI w.rep.copied,nI w.rep.kept,nI w.rep.filled,nI n,nI w.rep.cleared,nI w.rep.steps]),(16010,.arr 86 4 (a.map Z0.dv)),(24017,.arr 35 1 ((C6 ws (i*w.j.C.pw.toNat) (Lc w.j.C.pw.toNat 0)).map wD)),(8002,.box 138 zW)],64⟩):=by have:=Bp (S:=λk=>(TW w a ws n i k).st) w.j.C.pw.toNat kr (λk d=>Zkw w a ws n i k b hi hl c d) (ZeK w a ws n i b hi hl c);simp only[TW,Tu]at this;exact this
end
def Zez(w:Z7)(a:List Z0)(ws:List Int)(n:Int)(i:Nat)(hl:a.length<=64)(hi:i<a.length)(b:Ez w.j.S (a.getD i X))(hp:0<=w.j.C.pw/\w.j.C.pw<=64)(hs:i*w.j.C.pw.toNat+w.j.C.pw.toNat<=ws.length)(hw:ws.length<=4096)(hn:0<=n/\n<=64):CP (Zl f86 0) (AA w a ws n i).st .nrm (AA w (a.set i ⟨0,0,0,0⟩) (C6 ws (i*w.j.C.pw.toNat) (Lc w.j.C.pw.toNat 0)) (n+1) (i+1)).st:=by unfold Ez at b;have c:(a.getD (i:Int).toNat X).K≠0/\(a.getD (i:Int).toNat X).S=w.j.S:=b;exact sF [] []<|Fh 10050 [.els (Z Z0.dv (a.set (i:Int).toNat (Z0.mk 0 0 0 0)))]<|FM 24 25 Z0.dv a i<|Fmq 33 Z0.dv a (↑i)<|Ffb 44 ((a.getD (i:Int).toNat X).K==0||(a.getD (i:Int).toNat X).S != w.j.S)<|Fa (by(simp only[Lq];omega):0<=(i:Int)/\(i:Int).toNat<(Z Z0.dv a).length)<|Fa (by(simp only[Lq];omega):(i:Int).toNat<(Z Z0.dv a).length)<|Fa (by rw[LL];rfl:(Z Z0.dv a).set (i:Int).toNat [Zd 0,Zd 0,Zd 0,Zd 0]=Z Z0.dv (a.set (i:Int).toNat (Z0.mk 0 0 0 0)))<|Fi 54 (n+1)<|Fu (@Zb5 w (a.set (i:Int).toNat (Z0.mk 0 0 0 0)) ws (n+1) i aa oq aa aa)<|Fx 27 i Fz
def TY{pw s:Int}{l:List Z0}{ws:List Int}(h:l.length*pw.toNat<=ws.length):∀i,i<=l.length->(Ec pw s l ws i).length=ws.length
 |0,_=>rfl
 |i+1,hi=>by
  have a:=TY (s:=s) h i oq;have b:(i+1)*pw.toNat<=l.length*pw.toNat:=Xc _ hi;rw[L9,Xd]at b;unfold Ec;split
  .rw[Nf qo,a]
  .exact a
def Z0n(n s:Int) l:∀i:Nat,n<=EQ n s l i/\EQ n s l i<=n+i
 |0=>by simp[EQ]
 |i+1=>by
  have ih:=Z0n n s l i;unfold EQ;split<;>omega
def Hh(w:Z7):Z7:=⟨⟨w.j.C,Ec w.j.C.pw w.j.S w.j.P w.j.W w.j.P.length,w.j.P.map (E3 w.j.S),w.j.S,w.j.B⟩,w.old,w.T,w.Q,w.D,⟨w.rep.copied,w.rep.kept,w.rep.filled,EQ w.rep.freed w.j.S w.j.P w.j.P.length,w.rep.cleared,w.rep.steps⟩⟩
def Zh3 w a ws n:CP (Zl f86 0) (AA w a ws n a.length).st (.ext 0) (Tg.st ⟨tm 78 [(1,.pt 8001 0 0),(2,.pt 8002 0 0)],[(8001,.box 138 [nI w.j.C.pw,nI w.j.C.pg,.ow 24017,.ow 16010,nI w.j.S,nI w.j.B,Z2 w.old,ZE w.T,Z2 w.Q,nI w.D,nI w.rep.copied,nI w.rep.kept,nI w.rep.filled,nI n,nI w.rep.cleared,nI w.rep.steps]),(24017,.arr 35 1 (ws.map wD)),(16010,.arr 86 4 (a.map Z0.dv)),(8002,.box 138 zW)],60⟩):=by exact sF [] []<|FO 24 25 Z0.dv a Fz
section
variable(w:Z7)(hl:w.j.P.length<=64)(a:0<=w.j.C.pw/\w.j.C.pw<=64)(hs:w.j.P.length*w.j.C.pw.toNat<=w.j.W.length)(hw:w.j.W.length<=4096)(hr:w.rep.freed=0)
include hl a hs hw hr
theorem Zl8:CP (Zk f86 0) (Tg.st ⟨tm 78 [(1,.pt 8001 0 0),(2,.pt 8002 0 0),(3,nI 0)],[(8001,.box 138 [nI w.j.C.pw,nI w.j.C.pg,.ow 24017,.ow 16010,nI w.j.S,nI w.j.B,Z2 w.old,ZE w.T,Z2 w.Q,nI w.D,nI w.rep.copied,nI w.rep.kept,nI w.rep.filled,nI w.rep.freed,nI w.rep.cleared,nI w.rep.steps]),(24017,.arr 35 1 (w.j.W.map wD)),(16010,.arr 86 4 (w.j.P.map Z0.dv)),(8002,.box 138 zW)],60⟩) .nrm (Tg.st ⟨tm 78 [(1,.pt 8001 0 0),(2,.pt 8002 0 0)],[(8001,.box 138 [nI w.j.C.pw,nI w.j.C.pg,.ow 24017,.ow 16010,nI w.j.S,nI w.j.B,Z2 w.old,ZE w.T,Z2 w.Q,nI w.D,nI w.rep.copied,nI w.rep.kept,nI w.rep.filled,nI (EQ w.rep.freed w.j.S w.j.P w.j.P.length),nI w.rep.cleared,nI w.rep.steps]),(24017,.arr 35 1 ((Ec w.j.C.pw w.j.S w.j.P w.j.W w.j.P.length).map wD)),(16010,.arr 86 4 ((w.j.P.map (E3 w.j.S)).map Z0.dv)),(8002,.box 138 zW)],60⟩):=by
 refine Bp (S:=λk=>(AA w (Zn (E3 w.j.S) w.j.P k) (Ec w.j.C.pw w.j.S w.j.P w.j.W k) (EQ w.rep.freed w.j.S w.j.P k) k).st) w.j.P.length kr (λk f=>?_) ?_;have h1:=NC (E3 w.j.S) w.j.P k;have g:=Te (E3 w.j.S) w.j.P (Lj k) X;have h3:=TY (s:=w.j.S) hs k oq;have h4:=Z0n w.rep.freed w.j.S w.j.P k;by_cases b:Ez w.j.S (w.j.P.getD k X);have c:=Mh (E3 w.j.S) w.j.P f X;have d:Ec w.j.C.pw w.j.S w.j.P w.j.W (k+1)=C6 (Ec w.j.C.pw w.j.S w.j.P w.j.W k) (k*w.j.C.pw.toNat) (Lc w.j.C.pw.toNat 0):=by rw[Ec,if_pos b]
 have e:EQ w.rep.freed w.j.S w.j.P (k+1)=EQ w.rep.freed w.j.S w.j.P k+1:=by rw[EQ,if_pos b]
 rw[E3,if_pos b]at c;rw[<-c,d,e];have i:(k+1)*w.j.C.pw.toNat<=w.j.P.length*w.j.C.pw.toNat:=Xc _ f;rw[L9,Xd]at i;exact Zez w _ _ _ k oq oq (by rw[g];exact b) a oq oq oq;have c:=P0 (E3 w.j.S) w.j.P f X (by rw[E3,if_neg b]);have d:Ec w.j.C.pw w.j.S w.j.P w.j.W (k+1)=Ec w.j.C.pw w.j.S w.j.P w.j.W k:=by rw[Ec,if_neg b]
 have e:EQ w.rep.freed w.j.S w.j.P (k+1)=EQ w.rep.freed w.j.S w.j.P k:=by rw[EQ,if_neg b]
 rw[<-c,d,e];exact ZfR w _ _ _ k oq oq (by rw[g];exact b);have h:=Zh3 w (Zn (E3 w.j.S) w.j.P w.j.P.length) (Ec w.j.C.pw w.j.S w.j.P w.j.W w.j.P.length) (EQ w.rep.freed w.j.S w.j.P w.j.P.length);rw[NC,Tq]at h;simp only[Tq];exact h
theorem Z4h:GP 86 [w.av] M (Hh w).av []:=by have h1:=TY (s:=w.j.S) hs w.j.P.length (Lj _);have h2:=Z0n w.rep.freed w.j.S w.j.P w.j.P.length;exact gF [] func86 []<|FAx 6 10 Z0.dv w.j.P (by(simp[Hh, *];omega))<|FAx 13 17 wD w.j.W (by(simp[Hh, *];omega))<|Fu (@Zl8 w aa aa aa aa aa) Fz
end
def Hu:Rep:=⟨0,0,0,0,0,0⟩
def Z12{h}{l:List Int}(e:Bl h l=Y):Bf h=⟨0,0,0⟩:=by simp only[Bl,Lu,decide_eq_true_eq]at e;exact e.1
section
variable(h:Heap)(s k:List Int)(c:Zy h.W)(hs:s.length<=1048575)(hk:k.length<=1048575)(b:CI s)(a:CI k)
include c hs hk b a
theorem ZhX(hp:Z8 h=M):GP 36 [h.av,Z2 s,Z2 k] M (.tu [ZY.av,Z2 [],Z2 [],.ag Hu.cells,nI 1]) []:=by exact gF [] func36 []<|Fc 20 (@CC h)<|Ftb 21 (!Z8 h)<|Fnl (Fnl (Fnl (Fnl Fz)))
theorem Zgt(hp:Z8 h=Y)(d:Bl h s=M\/Bl h k=M):GP 36 [h.av,Z2 s,Z2 k] M (.tu [ZY.av,Z2 [],Z2 [],.ag Hu.cells,nI 19]) []:=by
 by_cases f:Bl h s=M;exact gF [] func36 []<|Fc 20 (@CC h)<|Ffb 21 (!Z8 h)<|Fc 26 (@N8 h s aa oq)<|FcG 31 (!!Bl h s) (λe=>by(try simp only[bs]at e);exact@Z3O h k aa (by(try simp only[bs]at e);grind[ZY,Hu]))<|Fts 33 (!Bl h s||Y)<|Fnl (Fnl (Fnl (Fnl Fz)));have h2:Bl h k=M:=by(rcases d with d|d;exact absurd d f;exact d)
 exact gF [] func36 []<|Fc 20 (@CC h)<|Ffb 21 (!Z8 h)<|Fc 26 (@N8 h s aa oq)<|FcG 31 (!!Bl h s) (λe=>by(try simp only[bs]at e);exact@N8 h k aa oq)<|Ftb 33 (!Bl h s||!Bl h k)<|Fnl (Fnl (Fnl (Fnl Fz)))
theorem Zhw(f:Z8 h=Y)(g:Bl h s=Y)(i:Bl h k=Y)(e:¬ (rootsF (Zs h) s).2.2=0):GP 36 [h.av,Z2 s,Z2 k] M (.tu [ZY.av,Z2 [],Z2 [],.ag Hu.cells,nI (rootsF (Zs h) s).2.2]) []:=by have hb:=R8 c f;have d:=Z12 g;exact gF [] func36 []<|Fc 20 (@CC h)<|Ffb 21 (!Z8 h)<|Fc 26 (@N8 h s aa oq)<|FcG 31 (!!Bl h s) (λd=>by(try simp only[bs]at d);exact@N8 h k aa oq)<|Ffs 33 (!Bl h s||!Bl h k)<|Fc 38 (@Pv h aa aa aa)<|Fc 44 (@Pq (Zs h) s aa aa aa)<|Ftb 49 ((rootsF (Zs h) s).2.2 != 0)<|Fnl (Fnl (Fnl (Fnl Fz)))
theorem Zho(f:Z8 h=Y)(l:Bl h s=Y)(m:Bl h k=Y)(e:(rootsF (Zs h) s).2.2=0)(e2:¬ (Bh (rootsF (Zs h) s).1).2=0):GP 36 [h.av,Z2 s,Z2 k] M (.tu [ZY.av,Z2 [],Z2 [],.ag Hu.cells,nI (Bh (rootsF (Zs h) s).1).2]) []:=by have g:=R8 c f;have hi:=RZ f;have d:=Z12 l;have i:=Aj (roots:=s) g hi e;have j:=i.1;exact gF [] func36 []<|Fc 20 (@CC h)<|Ffb 21 (!Z8 h)<|Fc 26 (@N8 h s aa oq)<|FcG 31 (!!Bl h s) (λd=>by(try simp only[bs]at d);exact@N8 h k aa oq)<|Ffs 33 (!Bl h s||!Bl h k)<|Fc 38 (@Pv h aa aa aa)<|Fc 44 (@Pq (Zs h) s aa aa aa)<|Ffb 49 ((rootsF (Zs h) s).2.2 != 0)<|Fc 55 (@Z31 ((rootsF (Zs h) s).1) aa)<|Ftb 59 ((Bh (rootsF (Zs h) s).1).2 != 0)<|Fnl (Fnl (Fnl (Fnl Fz)))
end
def IM(w:Z7)(x:Int):Int:=if x=0 then 0 else C2 w x
def Hn(w:Z7)(x:Int):Z7:=⟨w.j,w.old,w.T,w.Q,w.D,⟨w.rep.copied,w.rep.kept,w.rep.filled,w.rep.freed,if x≠0/\C2 w x=0 then w.rep.cleared+1 else w.rep.cleared,w.rep.steps⟩⟩
def Es(w:Z7)(k:List Int):Nat->Z7|0=>w|i+1=>Hn (Es w k i) (k.getD i X)
def G5(w:Z7)(k:List Int):Nat->List Int|0=>[]|i+1=>G5 w k i++[IM (Es w k i) (k.getD i X)]
def Ao w k:∀i,(Es w k i).j=w.j/\(Es w k i).old=w.old/\(Es w k i).T=w.T/\(Es w k i).Q=w.Q/\(Es w k i).rep.filled=w.rep.filled/\(Es w k i).rep.freed=w.rep.freed/\w.rep.cleared<=(Es w k i).rep.cleared/\(Es w k i).rep.cleared<=w.rep.cleared+i
 |0=>⟨rfl,rfl,rfl,rfl,rfl,rfl,by simp[Es],by simp[Es]⟩
 |i+1=>by
  obtain⟨a,b,c,h4,d,e,h7,h8⟩:=Ao w k i;refine⟨a,b,c,h4,d,e, ?_, ?_⟩
  .simp only[Es,Hn];split<;>omega
  .simp only[Es,Hn];split<;>omega
def Tx w k:∀i,(G5 w k i).length=i|0=>rfl|i+1=>by simp[G5,Tx w k i]
def Om(w:Z7)(k roots out:List Int)(i:Nat):Tg:=⟨tm 122 [(2,Z2 k),(6,.pt 8006 0 0),(7,.d (.sl 0 [])),(8,.d (.sl 0 [])),(9,.pt 8009 0 0),(10,nI 0),(11,.pt 32011 0 0),(13,Z2 roots),(15,.ow 72015),(16,nI i)],[(72015,.arr 35 1 (out.map wD)),(32011,.box 138 w.cells),(8009,.box 73 [nI 0,nI 0,nI 0,nI 0,nI 0,nI 0]),(8006,.box 28 [nI 0,nI 0,.d (.sl 0 []),.d (.sl 0 []),nI 0,nI 0])],60⟩
section
variable(w:Z7)(k roots out:List Int)(i:Nat)(hw:Zy w.j.W)(hl:w.j.W.length<=4096)(hq:w.Q.length<=1048576)(hk:k.length<=1048575)(hx:0<=k.getD i X/\k.getD i X<=18446744073709551615)(ho:out.length<=1048576)(hi:i<k.length)(hc:0<=w.rep.cleared/\w.rep.cleared<=2097152)
include hw hl hq hk hx ho hi hc
theorem Ziw:CP (Zl f36 0) (Om w k roots out i).st .nrm (Om (Hn w (k.getD i X)) k roots (out++[IM w (k.getD i X)]) (i+1)).st:=by
 by_cases d:k.getD i X=0;have e:IM w (k.getD i X)=0:=by rw[IM,if_pos d]
 have c:Hn w (k.getD i X)=w:=by rw[Hn,if_neg (by rintro⟨q,_⟩;exact q d)]
 rw[e,c];exact sF [(504091,72015)] []<|Fh 91 [.els (Z wD (out++[0]))]<|FN 65 66 71 wD k i<|Ffb 73 (k.getD i X != 0)<|Fs 90 (Z wD [0])<|Fa (by(simp[*];omega):(Z wD out).length+(Z wD [0]).length<=2^30)<|Fa (ms:Z wD out++Z wD [0]=Z wD (out++[0]))<|Fx 68 i Fz;have e:IM w (k.getD i X)=C2 w (k.getD i X):=by rw[IM,if_neg d]
 rw[e];by_cases f:C2 w (k.getD i X)=0;have c:Hn w (k.getD i X)=⟨w.j,w.old,w.T,w.Q,w.D,⟨w.rep.copied,w.rep.kept,w.rep.filled,w.rep.freed,w.rep.cleared+1,w.rep.steps⟩⟩:=by rw[Hn,if_pos ⟨d,f⟩]
 rw[c];let a:=k.getD i X;exact sF [(528091,72015)] []<|Fh 91 [.els (Z wD (out++[C2 w a]))]<|FN 65 66 71 wD k i<|Ftb 73 (k.getD i X != 0)<|Fek 77 wD k (↑i) i<|Fc 79 (@Z6V w a aa aa aa aa)<|Ftb 81 (C2 w a==0)<|Fi 85 (w.rep.cleared+1)<|Fs 90 (Z wD [C2 w a])<|Fa (by(simp[*];omega):(Z wD out).length+(Z wD [C2 w a]).length<=2^30)<|Fa (ms:Z wD out++Z wD [C2 w a]=Z wD (out++[C2 w a]))<|Fx 68 i Fz;have c:Hn w (k.getD i X)=w:=by rw[Hn,if_neg (by rintro⟨_,q⟩;exact f q)]
 rw[c];let b:=k.getD i X;exact sF [(520091,72015)] []<|Fh 91 [.els (Z wD (out++[C2 w b]))]<|FN 65 66 71 wD k i<|Ftb 73 (k.getD i X != 0)<|Fek 77 wD k (↑i) i<|Fc 79 (@Z6V w b aa aa aa aa)<|Ffb 81 (C2 w b==0)<|Fs 90 (Z wD [C2 w b])<|Fa (by(simp[*];omega):(Z wD out).length+(Z wD [C2 w b]).length<=2^30)<|Fa (ms:Z wD out++Z wD [C2 w b]=Z wD (out++[C2 w b]))<|Fx 68 i Fz
end
def ZeC w k roots out:CP (Zl f36 0) (Om w k roots out k.length).st (.ext 0) (Tg.st ⟨tm 122 [(6,.pt 8006 0 0),(7,.d (.sl 0 [])),(8,.d (.sl 0 [])),(9,.pt 8009 0 0),(10,nI 0),(11,.pt 32011 0 0),(13,Z2 roots),(15,.ow 72015)],[(72015,.arr 35 1 (out.map wD)),(32011,.box 138 w.cells),(8009,.box 73 [nI 0,nI 0,nI 0,nI 0,nI 0,nI 0]),(8006,.box 28 [nI 0,nI 0,.d (.sl 0 []),.d (.sl 0 []),nI 0,nI 0])],60⟩):=by exact sF [] []<|FO 65 66 wD k Fz
def Z5j(w:Z7)(k roots:List Int)(c:Zy w.j.W)(hl:w.j.W.length<=4096)(b:w.Q.length<=1048576)(a:k.length<=1048575)(d:CI k)(hc:w.rep.cleared=0):CP (Zk f36 0) (Om (Es w k 0) k roots (G5 w k 0) 0).st .nrm (Tg.st ⟨tm 122 [(6,.pt 8006 0 0),(7,.d (.sl 0 [])),(8,.d (.sl 0 [])),(9,.pt 8009 0 0),(10,nI 0),(11,.pt 32011 0 0),(13,Z2 roots),(15,.ow 72015)],[(72015,.arr 35 1 ((G5 w k k.length).map wD)),(32011,.box 138 (Es w k k.length).cells),(8009,.box 73 [nI 0,nI 0,nI 0,nI 0,nI 0,nI 0]),(8006,.box 28 [nI 0,nI 0,.d (.sl 0 []),.d (.sl 0 []),nI 0,nI 0])],60⟩):=by refine Bp (S:=λi=>(Om (Es w k i) k roots (G5 w k i) i).st) k.length kr (λi hi=>?_) (ZeC _ k roots _);have h:=Ao w k i;exact Ziw _ k roots _ i (by rw[h.1];exact c) (by rw[h.1];exact hl) (by rw[h.2.2.2.1];exact b) a (Af d i) (by rw[Tx];omega) hi oq
abbrev cB(h:Heap)(s k:List Int):Z7:=Es (Bh (rootsF (Zs h) s).1).1 k k.length
abbrev cA(h:Heap)(s k:List Int):Z7:=C9 (cB h s k) (cB h s k).old.length
def Zb7{n:Int}(h:0<=n/\n<=255):(Z6 (1+16*n)).1.length=n:=by
 have e:EI (1+16*n)=⟨0,n,0⟩:=by(simp only[EI,ZB.mk.injEq];omega)
 have a:=DC h;unfold Z6;rw[e,a];simp
def ZhN{w:Z7}(h:Bw w){x:Int}(hx:x∈w.old):Bw (Gz w x):=by
 unfold Gz;split
 .rename_i hc;have hr:=h.r x (Le _ hx);have hh:=BQ w.j.W x;have hl:(BH ⟨0,(Zv w x).length,0⟩).length=(Zr w.j.W x+1).toNat:=by
   show(BH ⟨0,Zr w.j.W x,0⟩).length=_;simp[BH];omega
  have hin:4096<=x/\x-4096+(BH ⟨0,(Zv w x).length,0⟩).length<=w.j.W.length:=by omega
  have hlen:(ZU w.j.W x (BH ⟨0,(Zv w x).length,0⟩)).1.length=w.j.W.length:=by
   unfold ZU;rw[if_pos hin];exact Nf oq
  have:=h.withWords hlen (λa ha=>?_)
  .exact⟨this.L,this.r,this.s,this.f,this.z⟩
  .by_cases he:a=x
   .subst he;have:Zr (ZU w.j.W a (BH ⟨0,(Zv w a).length,0⟩)).1 a=Zr w.j.W a:=by
     have e1:=Dc (b:=a) hin oq;unfold Zr at *;rw[e1];have e2:(BH ⟨0,(Zv w a).length,0⟩).getD (a-a).toNat 0=1+16*(Z6 (Z1 w.j.W a).1).1.length:=by
      rw[Int.sub_self];show(Zu ⟨0,(Zv w a).length,0⟩).1=_;rw[DC (show 0<=(Zv w a).length/\(Zv w a).length<=255 from hh)];rfl
     rw[e2];exact Zb7 hh
    omega
   .have s1:=h.s a ha x (Le _ hx);have s2:=h.s x (Le _ hx) a ha;have ha0:=BQ w.j.W a;have:Zr (ZU w.j.W x (BH ⟨0,(Zv w x).length,0⟩)).1 a=Zr w.j.W a:=by
     have e1:=AW (b:=a) hin (by
      rcases Int.lt_or_lt_of_ne he with q|q
      .exact La q
      .have:=s2 q;exact Lb oq)
     unfold Zr;rw[e1]
    omega
 .exact h
def Z8u{w}(a:FOk w)(h:Bw w):∀k,k<=w.old.length->Bw (C9 w k)|0,_=>h|k+1,hk=>ZhN (Z8u a h k oq) (by rw[(HU w a k).2.2.2.2.2.1];exact BI.2 ⟨k,by omega,rfl⟩)
def Z4s{w}(h:Bw w) k:∀i,Bw (Es w k i)
 |0=>h
 |i+1=>by
  have a:=Z4s h k i;exact⟨a.L,a.r,a.s,a.f,a.z⟩
def Z72{w}(h:FOk w) k:∀i,FOk (Es w k i)
 |0=>h
 |i+1=>by
  have a:=Z72 h k i;exact⟨a.W,a.wl,a.pl,a.ol,a.o,a.tl,a.ql⟩
def Bc(h:Heap)(s:List Int):Z7:=(Bh (rootsF (Zs h) s).1).1
def Cm(h:Heap)(s k:List Int):Z7:=Es (Bc h s) k k.length
def Cu(h:Heap)(s k:List Int):Z7:=C9 (Cm h s k) (Cm h s k).old.length
def BL(h:Heap)(s k:List Int):Z7:=Hh (Cu h s k)
def EV(w:Z7):Heap:=⟨w.j.C,w.j.W,w.j.P,1-w.j.S,if 0<w.T.length then ZG w else -1⟩
structure COk (h:Heap) (s k:List Int):Prop where
 w2:Ba (Bc h s)
 i2:Bw (Bc h s)
 x2:Gn (Zs h) (Bc h s)
 f3:FOk (Cm h s k)
 i3:Bw (Cm h s k)
 r3:(Cm h s k).rep.filled=0/\(Cm h s k).rep.freed=0
 f4:FOk (Cu h s k)
 i4:Bw (Cu h s k)
 h4:(Cu h s k).j.C=h.C/\(Cu h s k).j.P=(Bc h s).j.P/\(Cu h s k).j.S=(Bc h s).j.S/\(Cu h s k).T=(Bc h s).T/\(Cu h s k).rep.freed=0
section
variable(h:Heap)(s k:List Int)(d:Zy h.W)(a:Z8 h=Y)(e:(rootsF (Zs h) s).2.2=0)(b:(Bh (rootsF (Zs h) s).1).2=0)
include d a e b
theorem cOk:COk h s k:=by have u:=R8 d a;have hi:=RZ a;have f:=Aj (roots:=s) u hi e;have w2:Ba (Bc h s):=Zae _ f.1 b;have i2:=Zi9 f.1 f.2.1 b;have x2:Gn (Zs h) (Bc h s):=f.2.2.1.trans i2.2;have f3:FOk (Cm h s k):=Z72 w2.fok k _;have i3:Bw (Cm h s k):=Z4s i2.1 k _;obtain⟨a1,a2,g,a4,i,j,a7,a8⟩:=Ao (Bc h s) k k.length;have c:=w2.r0;have r3:(Cm h s k).rep.filled=0/\(Cm h s k).rep.freed=0:=⟨i.trans c.1,j.trans c.2.1⟩;obtain⟨l,m,p,q,b4,b5,r,b7,t,b9,n,o⟩:=HU (Cm h s k) f3 (Cm h s k).old.length;refine⟨w2,i2.1,x2,f3,i3,r3,l,Z8u f3 i3 _ (Lj _), ?_, ?_, ?_, ?_, ?_⟩;show(C9 (Cm h s k) (Cm h s k).old.length).j.C=_;rw[m];show(Es (Bc h s) k k.length).j.C=_;rw[a1];exact x2.c;show(C9 (Cm h s k) (Cm h s k).old.length).j.P=_;rw[p];show(Es (Bc h s) k k.length).j.P=_;rw[a1];show(C9 (Cm h s k) (Cm h s k).old.length).j.S=_;rw[q];show(Es (Bc h s) k k.length).j.S=_;rw[a1];show(C9 (Cm h s k) (Cm h s k).old.length).T=_;rw[r];exact g;show(C9 (Cm h s k) (Cm h s k).old.length).rep.freed=_;rw[t];exact r3.2
theorem Z2Z:(Cu h s k).j.P.length<=64/\0<=(Cu h s k).j.C.pw/\(Cu h s k).j.C.pw<=64/\(Cu h s k).j.P.length*(Cu h s k).j.C.pw.toNat<=(Cu h s k).j.W.length/\(Cu h s k).j.W.length<=4096:=by
 have c:=cOk h s k d a e b;have po:=B5 a;have hL:=c.i4.L;have f:=c.w2.pl;have g:=c.x2.c;have j:(Bc h s).j.C=h.C:=g;rw[j]at f;rw[c.h4.1]at hL;have i:=c.f4.wl;rw[c.h4.1,c.h4.2.1];refine⟨by omega,by omega,by omega, ?_,i⟩;have:(((Bc h s).j.P.length*h.C.pw.toNat:Nat):Int)=h.C.pw*h.C.pg:=by(rw[LV,LX oq,f,Lx])
 omega
end
def Zp(h:Heap)(s k:List Int):Heap×List Int×List Int×Rep×Int:=
 if Z8 h=Y then
  (if Bl h s=Y/\Bl h k=Y then
   (if(rootsF (Zs h) s).2.2=0 then
    (if(Bh (rootsF (Zs h) s).1).2=0 then(EV (BL h s k),(rootsF (Zs h) s).2.1,G5 (Bc h s) k k.length,(BL h s k).rep,0)
    else(ZY,[],[],Hu,(Bh (rootsF (Zs h) s).1).2))
   else(ZY,[],[],Hu,(rootsF (Zs h) s).2.2))
  else(ZY,[],[],Hu,19))
 else(ZY,[],[],Hu,1)
section
variable(h:Heap)(s k:List Int)(hw:Zy h.W)(hs:s.length<=1048575)(hk:k.length<=1048575)(hs2:CI s)(hk2:CI k)
include hw hs hk hs2 hk2
theorem Zlp(hp:Z8 h=Y)(hr:Bl h s=Y)(hr':Bl h k=Y)(e:(rootsF (Zs h) s).2.2=0)(e2:(Bh (rootsF (Zs h) s).1).2=0):GP 36 [h.av,Z2 s,Z2 k] M (.tu [(EV (BL h s k)).av,Z2 (rootsF (Zs h) s).2.1,Z2 (G5 (Bc h s) k k.length),.ag (BL h s k).rep.cells,nI 0]) []:=by have hb:=R8 hw hp;have hi:=RZ hp;have hg:=Z12 hr;have ho:=Aj (roots:=s) hb hi e;have ho1:=ho.1;have ho4:=ho.2.2.2.2;have c:=cOk h s k hw hp e e2;obtain⟨q1,q2,q3,q4,q5⟩:=Z2Z h s k hw hp e e2;have w2:=c.w2;have f3:=c.f3;have r3:=c.r3.1;obtain⟨g1,g2,g3,g4,g5⟩:=c.h4;have v1:=w2.W;have v2:=w2.wl;have v3:=w2.mu;have v4:=w2.tl;have v5:=w2.sp;have v6:=w2.r0.2.2;have v7:=congrArg L1 g4;have z1:(BL h s k).T=(Cu h s k).T:=rfl;have v8:=congrArg L1 z1;have z2:(BL h s k).j.S=(Cu h s k).j.S:=rfl;clear c;rcases bb (O (0<(↑(BL h s k).T.length:Int)))with hc0|hc0<;>have hc0p:=hc0<;>simp only[bs]at hc0p;rw[show EV (BL h s k)=Heap.mk (BL h s k).j.C (BL h s k).j.W (BL h s k).j.P ((1:Int)-(BL h s k).j.S) ((BL h s k).T.getD ((↑(BL h s k).T.length:Int)-(1:Int)).toNat X)from by(simp only[EV,ZG] ;exact sj)];refine Zb [((20:Nat),[Hint.call Y (bL (Z8 h)) []]),((21:Nat),[Hint.br M]),((26:Nat),[Hint.call Y (bL (Bl h s)) []]),((31:Nat),[Hint.call Y (bL (Bl h k)) []]),((33:Nat),[Hint.br M]),((38:Nat),[Hint.call M (AV.tu [(Zs h).av,nI (0:Int)]) []]),((44:Nat),[Hint.call M (AV.tu [(rootsF (Zs h) s).1.av,Z2 (rootsF (Zs h) s).2.1,nI (rootsF (Zs h) s).2.2]) []]),((49:Nat),[Hint.br M]),((55:Nat),[Hint.call M (AV.tu [(Bc h s).av,nI (Bh (rootsF (Zs h) s).1).2]) []]),((59:Nat),[Hint.br M]),((15:Nat),[Hint.own]),((93:Nat),[Hint.call M (Cu h s k).av []]),((94:Nat),[Hint.call M (BL h s k).av []]),((98:Nat),[Hint.int ((1:Int)-(BL h s k).j.S)]),((105:Nat),[Hint.int (↑(BL h s k).T.length:Int)]),((107:Nat),[Hint.br Y]),((111:Nat),[Hint.int ((↑(BL h s k).T.length:Int)-(1:Int))]),((112:Nat),[Hint.el (iD ((BL h s k).T.getD ((↑(BL h s k).T.length:Int)-(1:Int)).toNat X))])] [((0:Nat),Tg.mk (tm (122:Nat) [((2:Nat),Z2 k),((6:Nat),AV.pt (8006:Nat) (0:Nat) (0:Nat)),((7:Nat),AV.d (DV.sl (0:Nat) [])),((8:Nat),AV.d (DV.sl (0:Nat) [])),((9:Nat),AV.pt (8009:Nat) (0:Nat) (0:Nat)),((10:Nat),nI (0:Int)),((11:Nat),AV.pt (32011:Nat) (0:Nat) (0:Nat)),((13:Nat),Z2 (rootsF (Zs h) s).2.1),((15:Nat),AV.ow (72015:Nat)),((16:Nat),nI (0:Int))]) [((72015:Nat),Z4.arr 35 (1:Nat) []),((32011:Nat),Z4.box 138 (Bc h s).cells),((8009:Nat),Z4.box 73 [nI (0:Int),nI (0:Int),nI (0:Int),nI (0:Int),nI (0:Int),nI (0:Int)]),((8006:Nat),Z4.box 28 [nI (0:Int),nI (0:Int),AV.d (DV.sl (0:Nat) []),AV.d (DV.sl (0:Nat) []),nI (0:Int),nI (0:Int)])] (60:Nat),Ex.nrm,Tg.mk (tm (122:Nat) [((6:Nat),AV.pt (8006:Nat) (0:Nat) (0:Nat)),((7:Nat),AV.d (DV.sl (0:Nat) [])),((8:Nat),AV.d (DV.sl (0:Nat) [])),((9:Nat),AV.pt (8009:Nat) (0:Nat) (0:Nat)),((10:Nat),nI (0:Int)),((11:Nat),AV.pt (32011:Nat) (0:Nat) (0:Nat)),((13:Nat),Z2 (rootsF (Zs h) s).2.1),((15:Nat),AV.ow (72015:Nat))]) [((72015:Nat),Z4.arr 35 (1:Nat) (Z wD (G5 (Bc h s) k k.length))),((32011:Nat),Z4.box 138 (Cm h s k).cells),((8009:Nat),Z4.box 73 [nI (0:Int),nI (0:Int),nI (0:Int),nI (0:Int),nI (0:Int),nI (0:Int)]),((8006:Nat),Z4.box 28 [nI (0:Int),nI (0:Int),AV.d (DV.sl (0:Nat) []),AV.d (DV.sl (0:Nat) []),nI (0:Int),nI (0:Int)])] (60:Nat))] [] dd func36 [] (φ:=GP 65 [h.av] Y (bL (Z8 h)) []/\(!Z8 h)=M/\M=M/\GP 42 [h.av,Z2 s] Y (bL (Bl h s)) []/\((!!Bl h s)=Y->GP 42 [h.av,Z2 k] Y (bL (Bl h k)) [])/\(!Bl h s||!Bl h k)=M/\M=M/\GP 82 [h.av] M (AV.tu [(Zs h).av,nI (0:Int)]) []/\GP 83 [(Zs h).av,Z2 s] M (AV.tu [(rootsF (Zs h) s).1.av,Z2 (rootsF (Zs h) s).2.1,nI (rootsF (Zs h) s).2.2]) []/\((rootsF (Zs h) s).2.2 != (0:Int))=M/\M=M/\GP 84 [(rootsF (Zs h) s).1.av] M (AV.tu [(Bc h s).av,nI (Bh (rootsF (Zs h) s).1).2]) []/\((Bh (rootsF (Zs h) s).1).2 != (0:Int))=M/\M=M/\CP (Zk f36 (0:Nat)) (Tg.mk (tm (122:Nat) [((2:Nat),Z2 k),((6:Nat),AV.pt (8006:Nat) (0:Nat) (0:Nat)),((7:Nat),AV.d (DV.sl (0:Nat) [])),((8:Nat),AV.d (DV.sl (0:Nat) [])),((9:Nat),AV.pt (8009:Nat) (0:Nat) (0:Nat)),((10:Nat),nI (0:Int)),((11:Nat),AV.pt (32011:Nat) (0:Nat) (0:Nat)),((13:Nat),Z2 (rootsF (Zs h) s).2.1),((15:Nat),AV.ow (72015:Nat)),((16:Nat),nI (0:Int))]) [((72015:Nat),Z4.arr 35 (1:Nat) []),((32011:Nat),Z4.box 138 (Bc h s).cells),((8009:Nat),Z4.box 73 [nI (0:Int),nI (0:Int),nI (0:Int),nI (0:Int),nI (0:Int),nI (0:Int)]),((8006:Nat),Z4.box 28 [nI (0:Int),nI (0:Int),AV.d (DV.sl (0:Nat) []),AV.d (DV.sl (0:Nat) []),nI (0:Int),nI (0:Int)])] (60:Nat)).st Ex.nrm (Tg.mk (tm (122:Nat) [((6:Nat),AV.pt (8006:Nat) (0:Nat) (0:Nat)),((7:Nat),AV.d (DV.sl (0:Nat) [])),((8:Nat),AV.d (DV.sl (0:Nat) [])),((9:Nat),AV.pt (8009:Nat) (0:Nat) (0:Nat)),((10:Nat),nI (0:Int)),((11:Nat),AV.pt (32011:Nat) (0:Nat) (0:Nat)),((13:Nat),Z2 (rootsF (Zs h) s).2.1),((15:Nat),AV.ow (72015:Nat))]) [((72015:Nat),Z4.arr 35 (1:Nat) (Z wD (G5 (Bc h s) k k.length))),((32011:Nat),Z4.box 138 (Cm h s k).cells),((8009:Nat),Z4.box 73 [nI (0:Int),nI (0:Int),nI (0:Int),nI (0:Int),nI (0:Int),nI (0:Int)]),((8006:Nat),Z4.box 28 [nI (0:Int),nI (0:Int),AV.d (DV.sl (0:Nat) []),AV.d (DV.sl (0:Nat) []),nI (0:Int),nI (0:Int)])] (60:Nat)).st/\GP 87 [(Cm h s k).av] M (Cu h s k).av []/\GP 86 [(Cu h s k).av] M (BL h s k).av []/\Lv.wrap ((1:Int)-(BL h s k).j.S)=(1:Int)-(BL h s k).j.S/\(↑(Z iD (BL h s k).T).length:Int)=(↑(BL h s k).T.length:Int)/\O ((0:Int)<(↑(BL h s k).T.length:Int))=Y/\Y=Y/\Lv.wrap ((↑(BL h s k).T.length:Int)-(1:Int))=(↑(BL h s k).T.length:Int)-(1:Int)/\(0:Int)<=(↑(BL h s k).T.length:Int)-(1:Int)/\(Z iD (BL h s k).T)[((↑(BL h s k).T.length:Int)-(1:Int)).toNat]?=Lg (iD ((BL h s k).T.getD ((↑(BL h s k).T.length:Int)-(1:Int)).toNat X))) ?_ kr kr;exact⟨(@CC (h)),(by(simp only[bs];omega)),rfl,(@N8 (h) (s) aa oq),(λhg=>by(try simp only[bs]at hg);exact@N8 (h) (k) (by(try simp only[bs]at hg);assumption) (by(try simp only[bs]at hg);omega)),(by simp only[bs, *,true_or,or_true,true_and,and_true,not_true_eq_false,not_false_eq_true,Bool.true_eq_false,Bool.false_eq_true]),rfl,(@Pv (h) aa aa aa),(@Pq (Zs h) (s) aa aa aa),(by(simp only[bs];omega)),rfl,(@Z31 ((rootsF (Zs h) s).1) aa),(by(simp only[bs];omega)),rfl,(@Z5j (Bc h s) (k) ((rootsF (Zs h) s).2.1) aa aa oq aa aa aa),(@Z8o (Cm h s k) aa aa),(@Z4h (Cu h s k) aa oq aa aa aa),(by exact Zf rfl oq oq),(by simp only[Lq]),aa,rfl,(by exact Zf rfl oq oq),(by exact Zm oq oq oq)⟩;rw[show EV (BL h s k)=Heap.mk (BL h s k).j.C (BL h s k).j.W (BL h s k).j.P ((1:Int)-(BL h s k).j.S) (-1:Int)from by rw[EV,if_neg oq]];let y0:=rootsF (Zs h) s;exact gF [] func36 []<|Fh 15 [.own]<|Fc 20 (@CC h)<|Ffb 21 (!Z8 h)<|Fc 26 (@N8 h s aa oq)<|FcG 31 (!!Bl h s) (λhg=>by(try simp only[bs]at hg);exact@N8 h k aa oq)<|Ffs 33 (!Bl h s||!Bl h k)<|Fc 38 (@Pv h aa aa aa)<|Fc 44 (@Pq (Zs h) s aa aa aa)<|Ffb 49 (y0.2.2 != 0)<|Fc 55 (@Z31 (y0.1) aa)<|Ffb 59 ((Bh y0.1).2 != 0)<|Fu (@Z5j (Bc h s) k (y0.2.1) aa aa oq aa aa aa)<|Fc 93 (@Z8o (Cm h s k) aa aa)<|Fc 94 (@Z4h (Cu h s k) aa oq aa aa aa)<|Fi 98 (1-(BL h s k).j.S)<|Fl 105 iD (BL h s k).T<|Ff 107 hc0 Fz
end
def RP(w:Zg)(i:Nat)(n:Int):Zg:=⟨⟨w.j.C,w.j.W,w.j.P.set i ⟨(w.j.P.getD i X).K,(w.j.P.getD i X).S,(w.j.P.getD i X).U,(w.j.P.getD i X).N+n⟩,w.j.S,w.j.B⟩,w.G,w.E⟩
def ND(w:Zg)(t:Tape):Nat:=(Z3 w.j.C (w.pick t)).1.toNat
def Zg.pin(w:Zg)(t:Tape):Zg:=
  if(Z3 w.j.C (w.pick t)).2.2=0 then
    (if 0<(w.j.P.getD (ND w t) X).N/\(w.pickT t).next 2=0 then RP w (ND w t) (-1)
     else if 0<(w.j.P.getD (ND w t) X).N\/(w.j.P.getD (ND w t) X).K=2\/(crowd w.j.P:Int)<w.j.C.pg/4 then RP w (ND w t) 1 else w)else w
def Zg.pinT(w:Zg)(t:Tape):Tape:=if(Z3 w.j.C (w.pick t)).2.2=0/\0<(w.j.P.getD (ND w t) X).N then(w.pickT t).step 2 else w.pickT t
def Zes w t(hw:Sg w)(ht:CY t)(ha:t.at'<=1000000)(hv:Zq w.j.C=Y)(hp:(w.j.P.length:Int)=w.j.C.pg)(hpn:∀j,j<w.j.P.length->-1048576<=(w.j.P.getD j X).N/\(w.j.P.getD j X).N<=4294967296):LP 104 [w.av,.pt 0 0 0] [t.b] (w.pin t).av [(w.pinT t).b]:=by
 have hb:=BF.1 hv;have s1:=Z0I w t;have k1:=Ie ht s1.2.2 oq oq;have p1:=M5 hw t;have q1:=hpn (ND w t);have hcr:=R6 w.j.P w.j.P.length;unfold ND at q1;have o1:=λe=>GX (a:=w.pick t) hv e;by_cases e:(Z3 w.j.C (w.pick t)).2.2=0;have o2:=o1 e;by_cases c1:0<(w.j.P.getD (Z3 w.j.C (w.pick t)).1.toNat X).N
 .have eT:w.pinT t=(w.pickT t).step 2:=by rw[Zg.pinT,if_pos ⟨e,c1⟩]
  by_cases c2:(w.pickT t).next 2=0
  have eP:w.pin t=⟨⟨w.j.C,w.j.W,w.j.P.set (Z3 w.j.C (w.pick t)).1.toNat ⟨(w.j.P.getD (Z3 w.j.C (w.pick t)).1.toNat X).K,(w.j.P.getD (Z3 w.j.C (w.pick t)).1.toNat X).S,(w.j.P.getD (Z3 w.j.C (w.pick t)).1.toNat X).U,(w.j.P.getD (Z3 w.j.C (w.pick t)).1.toNat X).N-1⟩,w.j.S,w.j.B⟩,w.G,w.E⟩:=by rw[Zg.pin,if_pos e,if_pos ⟨c1,c2⟩];rfl
  rw[eP,eT];exact lF func104 []<|Fh 42 [.br Y]<|Fh 37 [.br Y]<|Fh 51 [.el (w.j.P.getD (Z3 w.j.C (w.pick t)).1.toNat X).dv]<|Fp 12 (@IT w t aa aa oq)<|Fc 18 (@H5 w.j.C (w.pick t) oq oq)<|Ffb 23 ((Z3 w.j.C (w.pick t)).2.2 != 0)<|FA 25 29 Z0.dv w.j.P<|Fmq 41 Z0.dv w.j.P ((Z3 w.j.C (w.pick t)).1)<|Fb (O (0<(w.j.P.getD (Z3 w.j.C (w.pick t)).1.toNat X).N)=Y)<|Fp 45 (@BB (w.pickT t) (2) aa oq oq)<|Fb (((w.pickT t).next (2:Int)==0)=Y)<|Fa (ZR oq:(Z Z0.dv w.j.P)[(Z3 w.j.C (w.pick t)).1.toNat]?=Lg (w.j.P.getD (Z3 w.j.C (w.pick t)).1.toNat X).dv)<|Fi 52 ((w.j.P.getD (Z3 w.j.C (w.pick t)).1.toNat X).N-1)<|Fa (ZR oq:(Z Z0.dv w.j.P)[(Z3 w.j.C (w.pick t)).1.toNat]?=Lg (w.j.P.getD (Z3 w.j.C (w.pick t)).1.toNat X).dv)<|FS 10054 Z0.dv w.j.P ((Z3 w.j.C (w.pick t)).1.toNat) (Z0.mk (w.j.P.getD (Z3 w.j.C (w.pick t)).1.toNat X).K (w.j.P.getD (Z3 w.j.C (w.pick t)).1.toNat X).S (w.j.P.getD (Z3 w.j.C (w.pick t)).1.toNat X).U ((w.j.P.getD (Z3 w.j.C (w.pick t)).1.toNat X).N-1)) ((w.j.P.getD (Z3 w.j.C (w.pick t)).1.toNat X).dv) Fz;have eP:w.pin t=⟨⟨w.j.C,w.j.W,w.j.P.set (Z3 w.j.C (w.pick t)).1.toNat ⟨(w.j.P.getD (Z3 w.j.C (w.pick t)).1.toNat X).K,(w.j.P.getD (Z3 w.j.C (w.pick t)).1.toNat X).S,(w.j.P.getD (Z3 w.j.C (w.pick t)).1.toNat X).U,(w.j.P.getD (Z3 w.j.C (w.pick t)).1.toNat X).N+1⟩,w.j.S,w.j.B⟩,w.G,w.E⟩:=by rw[Zg.pin,if_pos e,if_neg (λq=>c2 q.2),if_pos (.inl c1)];rfl
  rw[eP,eT];exact lF func104 []<|Fh 42 [.br Y]<|Fh 37 [.br M]<|Fh 59 [.el (w.j.P.getD (Z3 w.j.C (w.pick t)).1.toNat X).dv]<|Fh 65 [.el (w.j.P.getD (Z3 w.j.C (w.pick t)).1.toNat X).dv]<|Fh 76 [.int (w.j.C.pg/4)]<|Fh 55 [.br Y]<|Fh 82 [.el (w.j.P.getD (Z3 w.j.C (w.pick t)).1.toNat X).dv]<|Fp 12 (@IT w t aa aa oq)<|Fc 18 (@H5 w.j.C (w.pick t) oq oq)<|Ffb 23 ((Z3 w.j.C (w.pick t)).2.2 != 0)<|FA 25 29 Z0.dv w.j.P<|Fmq 41 Z0.dv w.j.P ((Z3 w.j.C (w.pick t)).1)<|Fb (O (0<(w.j.P.getD (Z3 w.j.C (w.pick t)).1.toNat X).N)=Y)<|Fp 45 (@BB (w.pickT t) (2) aa oq oq)<|Fb (((w.pickT t).next (2:Int)==0)=M)<|Fa (ZR oq:(Z Z0.dv w.j.P)[(Z3 w.j.C (w.pick t)).1.toNat]?=Lg (w.j.P.getD (Z3 w.j.C (w.pick t)).1.toNat X).dv)<|Fa (by intro hg;(try simp only[bs]at hg);exact ZR oq:(!decide (0<(w.j.P.getD (Z3 w.j.C (w.pick t)).1.toNat X).N))=Y->(Z Z0.dv w.j.P)[(Z3 w.j.C (w.pick t)).1.toNat]?=Lg (w.j.P.getD (Z3 w.j.C (w.pick t)).1.toNat X).dv)<|FcG 71 (!(O (0<(w.j.P.getD (Z3 w.j.C (w.pick t)).1.toNat X).N)||(w.j.P.getD (Z3 w.j.C (w.pick t)).1.toNat X).K==2)) (λhg=>by(try simp only[bs]at hg);exact@Z1C w.j oq)<|Fa (by intro hg;(try simp only[bs]at hg);rw[CR oq oq];omega:(!(O (0<(w.j.P.getD (Z3 w.j.C (w.pick t)).1.toNat X).N)||(w.j.P.getD (Z3 w.j.C (w.pick t)).1.toNat X).K==2))=Y->Lv.wrap (w.j.C.pg.tdiv 4)=w.j.C.pg/4)<|Fa (by intro hg;(try simp only[bs]at hg);omega:(!(O (0<(w.j.P.getD (Z3 w.j.C (w.pick t)).1.toNat X).N)||(w.j.P.getD (Z3 w.j.C (w.pick t)).1.toNat X).K==2))=Y->(4:Int)=0->False)<|Fb ((O (0<(w.j.P.getD (Z3 w.j.C (w.pick t)).1.toNat X).N)||(w.j.P.getD (Z3 w.j.C (w.pick t)).1.toNat X).K==2||O ((↑(crowd w.j.P):Int)<w.j.C.pg/4))=Y)<|Fa (ZR oq:(Z Z0.dv w.j.P)[(Z3 w.j.C (w.pick t)).1.toNat]?=Lg (w.j.P.getD (Z3 w.j.C (w.pick t)).1.toNat X).dv)<|Fi 83 ((w.j.P.getD (Z3 w.j.C (w.pick t)).1.toNat X).N+1)<|Fa (ZR oq:(Z Z0.dv w.j.P)[(Z3 w.j.C (w.pick t)).1.toNat]?=Lg (w.j.P.getD (Z3 w.j.C (w.pick t)).1.toNat X).dv)<|FS 10085 Z0.dv w.j.P ((Z3 w.j.C (w.pick t)).1.toNat) (Z0.mk (w.j.P.getD (Z3 w.j.C (w.pick t)).1.toNat X).K (w.j.P.getD (Z3 w.j.C (w.pick t)).1.toNat X).S (w.j.P.getD (Z3 w.j.C (w.pick t)).1.toNat X).U ((w.j.P.getD (Z3 w.j.C (w.pick t)).1.toNat X).N+1)) ((w.j.P.getD (Z3 w.j.C (w.pick t)).1.toNat X).dv) Fz
 have eT:w.pinT t=w.pickT t:=by rw[Zg.pinT,if_neg (λq=>c1 q.2)]
 by_cases c3:(w.j.P.getD (Z3 w.j.C (w.pick t)).1.toNat X).K=2\/(crowd w.j.P:Int)<w.j.C.pg/4;have eP:w.pin t=⟨⟨w.j.C,w.j.W,w.j.P.set (Z3 w.j.C (w.pick t)).1.toNat ⟨(w.j.P.getD (Z3 w.j.C (w.pick t)).1.toNat X).K,(w.j.P.getD (Z3 w.j.C (w.pick t)).1.toNat X).S,(w.j.P.getD (Z3 w.j.C (w.pick t)).1.toNat X).U,(w.j.P.getD (Z3 w.j.C (w.pick t)).1.toNat X).N+1⟩,w.j.S,w.j.B⟩,w.G,w.E⟩:=by rw[Zg.pin,if_pos e,if_neg (λq=>c1 q.1),if_pos (.inr c3)];rfl
 rw[eP,eT];exact lF func104 []<|Fh 42 [.br M]<|Fh 45 [.bor [0] (nI ((w.pickT t).next 2)) [((w.pickT t).step 2).b]]<|Fh 59 [.el (w.j.P.getD (Z3 w.j.C (w.pick t)).1.toNat X).dv]<|Fh 65 [.el (w.j.P.getD (Z3 w.j.C (w.pick t)).1.toNat X).dv]<|Fh 76 [.int (w.j.C.pg/4)]<|Fh 55 [.br Y]<|Fh 82 [.el (w.j.P.getD (Z3 w.j.C (w.pick t)).1.toNat X).dv]<|Fp 12 (@IT w t aa aa oq)<|Fc 18 (@H5 w.j.C (w.pick t) oq oq)<|Ffb 23 ((Z3 w.j.C (w.pick t)).2.2 != 0)<|FA 25 29 Z0.dv w.j.P<|Fmq 41 Z0.dv w.j.P ((Z3 w.j.C (w.pick t)).1)<|Fb (O (0<(w.j.P.getD (Z3 w.j.C (w.pick t)).1.toNat X).N)=M)<|Fa (ZR oq:(Z Z0.dv w.j.P)[(Z3 w.j.C (w.pick t)).1.toNat]?=Lg (w.j.P.getD (Z3 w.j.C (w.pick t)).1.toNat X).dv)<|Fa (by intro hg;(try simp only[bs]at hg);exact ZR oq:(!decide (0<(w.j.P.getD (Z3 w.j.C (w.pick t)).1.toNat X).N))=Y->(Z Z0.dv w.j.P)[(Z3 w.j.C (w.pick t)).1.toNat]?=Lg (w.j.P.getD (Z3 w.j.C (w.pick t)).1.toNat X).dv)<|FcG 71 (!(O (0<(w.j.P.getD (Z3 w.j.C (w.pick t)).1.toNat X).N)||(w.j.P.getD (Z3 w.j.C (w.pick t)).1.toNat X).K==2)) (λhg=>by(try simp only[bs]at hg);exact@Z1C w.j oq)<|Fa (by intro hg;(try simp only[bs]at hg);rw[LW oq,CR oq oq]:(!(O (0<(w.j.P.getD (Z3 w.j.C (w.pick t)).1.toNat X).N)||(w.j.P.getD (Z3 w.j.C (w.pick t)).1.toNat X).K==2))=Y->Lv.wrap (w.j.C.pg.tdiv 4)=w.j.C.pg/4)<|Fa (by intro hg;(try simp only[bs]at hg);omega:(!(O (0<(w.j.P.getD (Z3 w.j.C (w.pick t)).1.toNat X).N)||(w.j.P.getD (Z3 w.j.C (w.pick t)).1.toNat X).K==2))=Y->(4:Int)=0->False)<|Fb ((O (0<(w.j.P.getD (Z3 w.j.C (w.pick t)).1.toNat X).N)||(w.j.P.getD (Z3 w.j.C (w.pick t)).1.toNat X).K==2||O ((↑(crowd w.j.P):Int)<w.j.C.pg/4))=Y)<|Fa (ZR oq:(Z Z0.dv w.j.P)[(Z3 w.j.C (w.pick t)).1.toNat]?=Lg (w.j.P.getD (Z3 w.j.C (w.pick t)).1.toNat X).dv)<|Fi 83 ((w.j.P.getD (Z3 w.j.C (w.pick t)).1.toNat X).N+1)<|Fa (ZR oq:(Z Z0.dv w.j.P)[(Z3 w.j.C (w.pick t)).1.toNat]?=Lg (w.j.P.getD (Z3 w.j.C (w.pick t)).1.toNat X).dv)<|FS 10085 Z0.dv w.j.P ((Z3 w.j.C (w.pick t)).1.toNat) (Z0.mk (w.j.P.getD (Z3 w.j.C (w.pick t)).1.toNat X).K (w.j.P.getD (Z3 w.j.C (w.pick t)).1.toNat X).S (w.j.P.getD (Z3 w.j.C (w.pick t)).1.toNat X).U ((w.j.P.getD (Z3 w.j.C (w.pick t)).1.toNat X).N+1)) ((w.j.P.getD (Z3 w.j.C (w.pick t)).1.toNat X).dv) Fz;have eP:w.pin t=w:=by rw[Zg.pin,if_pos e,if_neg (λq=>c1 q.1),if_neg (λq=>q.elim c1 c3)]
 rw[eP,eT];exact lF func104 []<|Fh 42 [.br M]<|Fh 45 [.bor [0] (nI ((w.pickT t).next 2)) [((w.pickT t).step 2).b]]<|Fh 59 [.el (w.j.P.getD (Z3 w.j.C (w.pick t)).1.toNat X).dv]<|Fh 65 [.el (w.j.P.getD (Z3 w.j.C (w.pick t)).1.toNat X).dv]<|Fh 76 [.int (w.j.C.pg/4)]<|Fh 55 [.br M]<|Fp 12 (@IT w t aa aa oq)<|Fc 18 (@H5 w.j.C (w.pick t) oq oq)<|Ffb 23 ((Z3 w.j.C (w.pick t)).2.2 != 0)<|FA 25 29 Z0.dv w.j.P<|Fmq 41 Z0.dv w.j.P ((Z3 w.j.C (w.pick t)).1)<|Fb (O (0<(w.j.P.getD (Z3 w.j.C (w.pick t)).1.toNat X).N)=M)<|Fa (ZR oq:(Z Z0.dv w.j.P)[(Z3 w.j.C (w.pick t)).1.toNat]?=Lg (w.j.P.getD (Z3 w.j.C (w.pick t)).1.toNat X).dv)<|Fa (by intro hg;(try simp only[bs]at hg);exact ZR oq:(!decide (0<(w.j.P.getD (Z3 w.j.C (w.pick t)).1.toNat X).N))=Y->(Z Z0.dv w.j.P)[(Z3 w.j.C (w.pick t)).1.toNat]?=Lg (w.j.P.getD (Z3 w.j.C (w.pick t)).1.toNat X).dv)<|FcG 71 (!(O (0<(w.j.P.getD (Z3 w.j.C (w.pick t)).1.toNat X).N)||(w.j.P.getD (Z3 w.j.C (w.pick t)).1.toNat X).K==2)) (λhg=>by(try simp only[bs]at hg);exact@Z1C w.j oq)<|Fa (by intro hg;(try simp only[bs]at hg);rw[LW oq,CR oq oq]:(!(O (0<(w.j.P.getD (Z3 w.j.C (w.pick t)).1.toNat X).N)||(w.j.P.getD (Z3 w.j.C (w.pick t)).1.toNat X).K==2))=Y->Lv.wrap (w.j.C.pg.tdiv 4)=w.j.C.pg/4)<|Fa (by intro hg;(try simp only[bs]at hg);omega:(!(O (0<(w.j.P.getD (Z3 w.j.C (w.pick t)).1.toNat X).N)||(w.j.P.getD (Z3 w.j.C (w.pick t)).1.toNat X).K==2))=Y->(4:Int)=0->False)<|Fb ((O (0<(w.j.P.getD (Z3 w.j.C (w.pick t)).1.toNat X).N)||(w.j.P.getD (Z3 w.j.C (w.pick t)).1.toNat X).K==2||O ((↑(crowd w.j.P):Int)<w.j.C.pg/4))=M) Fz;have eP:w.pin t=w:=by rw[Zg.pin,if_neg e]
 have eT:w.pinT t=w.pickT t:=by rw[Zg.pinT,if_neg (λq=>e q.1)]
 rw[eP,eT];exact lF func104 []<|Fp 12 (@IT w t aa aa oq)<|Fc 18 (@H5 w.j.C (w.pick t) oq oq)<|Ftb 23 ((Z3 w.j.C (w.pick t)).2.2 != 0) Fz
def OP(h:Heap)(s k:List Int)(g:Zy h.W)(hs:s.length<=1048575)(f:k.length<=1048575)(b:CI s)(a:CI k):GP 36 [h.av,Z2 s,Z2 k] M (.tu [(Zp h s k).1.av,Z2 (Zp h s k).2.1,Z2 (Zp h s k).2.2.1,.ag (Zp h s k).2.2.2.1.cells,nI (Zp h s k).2.2.2.2]) []:=by unfold Zp;by_cases d:Z8 h=Y;rw[if_pos d];by_cases c:Bl h s=Y/\Bl h k=Y;rw[if_pos c];by_cases e:(rootsF (Zs h) s).2.2=0;rw[if_pos e];by_cases i:(Bh (rootsF (Zs h) s).1).2=0;rw[if_pos i];exact Zlp h s k g hs f b a d c.1 c.2 e i;rw[if_neg i];exact Zho h s k g hs f b a d c.1 c.2 e i;rw[if_neg e];exact Zhw h s k g hs f b a d c.1 c.2 e;rw[if_neg c];refine Zgt h s k g hs f b a d ?_;by_cases q:Bl h s=Y;refine Lb ?_;have:¬ Bl h k=Y:=λj=>c ⟨q,j⟩;simpa using this;exact La (by simpa using q);rw[if_neg d];exact ZhX h s k g hs f b a (by simpa using d)
def Zg.collect(w:Zg):Zg:=if(Zp w.j w.G w.E).2.2.2.2=0 then⟨(Zp w.j w.G w.E).1,(Zp w.j w.G w.E).2.1,(Zp w.j w.G w.E).2.2.1⟩else w
def Zjh(w:Zg)(hw:Zy w.j.W)(hs:w.G.length<=1048575)(hk:w.E.length<=1048575)(c:CI w.G)(b:CI w.E):GP 23 [w.av] M w.collect.av []:=by
 by_cases e:(Zp w.j w.G w.E).2.2.2.2=0;have a:w.collect=⟨(Zp w.j w.G w.E).1,(Zp w.j w.G w.E).2.1,(Zp w.j w.G w.E).2.2.1⟩:=by rw[Zg.collect,if_pos e]
 rw[a];exact gF [] func23 []<|Fc 15 (@OP w.j w.G w.E aa aa aa aa aa)<|Ftb 22 ((Zp w.j w.G w.E).2.2.2.2==0) Fz;have a:w.collect=w:=by rw[Zg.collect,if_neg e]
 rw[a];exact gF [] func23 []<|Fc 15 (@OP w.j w.G w.E aa aa aa aa aa)<|Ffb 22 ((Zp w.j w.G w.E).2.2.2.2==0) Fz
section
variable(P:Z7->Prop)(d:∀w r,Ba w->Bw w->P w->(w.fwd r).2.2=0->P (w.fwd r).1)(a:∀w q j,Ba w->Bw w->P w->q∈w.Q->0<=j->j<Zr w.j.W q->(w.fwd (Z1 w.j.W (q+1+j)).1).2.2=0->P (w.in1 (q+1+j)))(b:∀w n,P w->P (HE w n))
include a in
theorem Mt{w}(e:Ba w)(h:Bw w)(i:P w){q:Int}(c:q∈w.Q){l:List Int}(hl:∀x∈l,0<=x/\x<Zr w.j.W q):∀k,k<=l.length->(∀j,j<k->BW w q l j=0)->P (Bq w q l k)
 |0,_,_=>i
 |k+1,hk,he=>by
  have n:=Mt e h i c hl k oq (λj g=>he j oq);have ok:=(Nh e q l k (λj g=>he j oq)).1;have f:=Me e h c hl k oq (λj g=>he j oq);have m:=hl _ (BI.2 ⟨k,by omega,rfl⟩);exact a _ q (l.getD k X) ok f.1 n (f.2.q q c) m.1 (by rw[f.2.l q c];exact m.2) (he k oq)
include a b in
theorem P2{w}(g:Ba w)(h:Bw w)(c:P w)(e:(ZZ w).2.2=0):P (ZZ w).1:=by
 by_cases f:w.D<w.Q.length;have o:=g.sc;have n:Bz w∈w.Q:=BI.2 ⟨w.D.toNat,by omega,rfl⟩;unfold ZZ at e⊢;rw[if_pos f]at e⊢;cases hb:(Ln (B4 w).length).find? (λk=>O (BW w (Bz w) (B4 w) k≠0))with
 |none =>
  have i:∀j,j<(B4 w).length->BW w (Bz w) (B4 w) j=0:=λj m=>by(have:=Lh.1 hb j (Lf.2 m);simpa using this)
  exact b _ _ (Mt P a g h c n (l:=B4 w) (Ad (Zv w (Bz w))) (B4 w).length (Lj _) i)
 |some k =>simp only[hb]at e;have:=(LC.1 hb).1;simp[e]at this
 have e:ZZ w=(w,M,0):=by rw[ZZ,if_neg f]
 rw[e];exact c
include a b in
theorem Oy{w}(c:Ba w)(h:Bw w)(g:P w):∀k,(∀j,j<k->CN w j=M)->P (Cc w k)
 |0,_=>g
 |k+1,hh=>by
  have i:=Oy c h g k (λj e=>hh j oq);have ok:=(Io c k (λj e=>hh j oq)).1;have l:=(AY c h k (λj e=>hh j oq)).1;have f:=hh k oq;simp only[CN,decide_eq_false_iff_not,not_or,Lo]at f;exact P2 P a b ok l i f.1
include a b in
theorem Zjg{w}(f:Ba w)(h:Bw w)(n:P w)(e:(Bh w).2=0):P (Bh w).1:=by
 obtain⟨k,i⟩:=R7 f;obtain⟨h1,h2,l⟩:=LC.1 i;have g:∀j,j<k->CN w j=M:=λj m=>by simpa using l j m
 unfold Bh at e⊢;rw[i]at e⊢;simp only at e⊢;split at e;rename_i c;rw[if_pos c];exact P2 P a b (Io f k g).1 (AY f h k g).1 (Oy P a b f h n k g) c;rename_i c;exact absurd e c
include d in
theorem Z8R{w roots}(c:Ba w)(h:Bw w)(f:P w):∀k,(∀j,j<k->E9 w roots j=0)->P (rootsN w roots k).1
 |0,_=>f
 |k+1,hh=>by
  have g:=Z8R c h f k (λj e=>hh j oq);have ok:=(Ak (roots:=roots) c k (λj e=>hh j oq)).1;have i:=(Z3t (roots:=roots) c h k (λj e=>hh j oq)).1;exact d _ _ ok i g (hh k oq)
include d in
theorem Z34{w roots}(i:Ba w)(h:Bw w)(g:P w)(e:(rootsF w roots).2.2=0):P (rootsF w roots).1:=by
 unfold rootsF at e⊢;cases hb:(Ln roots.length).find? (λk=>O (E9 w roots k≠0))with
 |none =>
  have c:∀j,j<roots.length->E9 w roots j=0:=λj f=>by(have:=Lh.1 hb j (Lf.2 f);simpa using this)
  exact Z8R P d i h g roots.length c
 |some k =>simp only[hb]at e;have:=(LC.1 hb).1;simp[e]at this
include d a b in
theorem ON{h:Heap}{s}(k:Zy h.W)(g:Z8 h=Y)(j:P (Zs h))(e:(rootsF (Zs h) s).2.2=0)(i:(Bh (rootsF (Zs h) s).1).2=0):P (Bc h s):=by have c:=R8 k g;have hi:=RZ g;have f:=Aj (roots:=s) c hi e;exact Zjg P a b f.1 f.2.1 (Z34 P d c hi j e) i
end
def Zgj{l:List Z0}{i k:Nat}(h:∀m,m<k->i+1+m<l.length/\(l.getD (i+1+m) X).K=3):k<=ZA l i:=by by_cases b:k<=ZA l i;exact b;have a:=h (ZA l i) oq;exact absurd a.2 (Ts a.1)
def PT.flip{c l}(h:PT c l){i:Nat}(hi:i<l.length)(hk:(l.getD i X).K=2){s:Int}(hs:0<=s/\s<=1):PT c (ZH l i (ZA l i) s):=by
 have w:∀j,i<j->j<=i+ZA l i->(l.getD j X).K=3:=λj u v=>by(have:=(Rw (l:=l) (i:=i) (m:=j-i-1) oq).2;rwa [show i+1+(j-i-1)=j by omega]at this)
 have f:∀j,j<l.length->((ZH l i (ZA l i) s).getD j X).K=(l.getD j X).K/\((ZH l i (ZA l i) s).getD j X).U=(l.getD j X).U/\((ZH l i (ZA l i) s).getD j X).N=(l.getD j X).N:=λj d=>by(rw[Ht d];split;exact⟨rfl,rfl,rfl⟩;exact⟨rfl,rfl,rfl⟩)
 refine⟨?_, ?_, ?_⟩;intro j d;rw[GY]at d;have b:=h.b j d;rw[Ht d];split;rename_i n;refine⟨hs,b.n,b.k,λq=>?_,b.k1,b.k3⟩;exfalso;have q':(l.getD j X).K=0:=q;by_cases e:j=i;subst e;omega;have:=w j oq n.2;omega;exact b;intro j d g;rw[GY]at d⊢;rw[(f j d).1]at g;rw[(f j d).2.1];have q:=h.lg j d g;refine⟨q.1,λm u v=>?_⟩;have r:=q.2 m u v;refine⟨r.1,by rw[(f _ r.1).1];exact r.2.1, ?_⟩;rw[Ht r.1,Ht d];by_cases e:j=i;subst e;have hT:(need c (l.getD j X).U-1).toNat<=ZA l j:=Zgj λt a4=>by(have:=q.2 (t+1) oq oq;rw[show j+1+t=j+(t+1) by omega];exact⟨this.1,this.2.1⟩)
 rw[if_pos oq,if_pos oq];rfl;have o:¬ (i<=j/\j<=i+ZA l i):=λn=>by(have:=w j oq n.2;omega)
 have p:¬ (i<=j+m/\j+m<=i+ZA l i):=λn=>by(by_cases a0:j<i;by_cases z:j+m=i;have:=r.2.1;rw[z]at this;omega;have:=(q.2 (i-j) oq oq).2.1;rw[show j+(i-j)=i by omega]at this;omega;omega)
 rw[if_neg o,if_neg p];exact r.2.2;intro j d k;rw[GY]at d;rw[(f j d).1]at k;obtain⟨a,a1,x,y⟩:=h.tl j d k;exact⟨a,a1,by rw[(f a oq).1];exact x,by rw[(f a oq).2.1];exact y⟩
structure Tab (B:Int) (w:Z7):Prop where
 pt:PT w.j.C w.j.P
 tk:∀x∈w.T,(w.j.P.getD x.toNat X).S=1-w.j.S
 pin:∀p∈w.j.P,p.N<=B
def Tab.withWords{B w}(h:Tab B w)(l:List Int):Tab B ⟨⟨w.j.C,l,w.j.P,w.j.S,w.j.B⟩,w.old,w.T,w.Q,w.D,w.rep⟩:=⟨h.pt,h.tk,h.pin⟩
def Tab.place{B:Int}(t:0<=B){w}(m:Ba w)(h:Tab B w){n:Int}(hn:1<=n/\n<=w.j.C.pw)(l:(w.place n).2.2=Y):PT (w.place n).1.j.C (w.place n).1.j.P/\(∀x∈(w.place n).1.T,((w.place n).1.j.P.getD x.toNat X).S=1-(w.place n).1.j.S)/\∀p∈(w.place n).1.j.P,p.N<=B:=by
 have v:=m.sp;by_cases c:E6 w n;have e:w.place n=(⟨⟨w.j.C,w.j.W,Cv w.j.P (ZG w).toNat n,w.j.S,w.j.B⟩,w.old,w.T,w.Q,w.D,w.rep⟩,4096+ZG w*w.j.C.pw+(w.j.P.getD (ZG w).toNat X).U,Y):=by rw[Z7.place,if_pos c]
 unfold E6 at c;have j:=m.tk _ (GT c.1);have hi:(ZG w).toNat<w.j.P.length:=by omega
 have ok:=h.pt.b _ hi;have u:=ok.k1 j.2.2;rw[e];refine⟨h.pt.setPage hi (Lb j.2.2) ⟨ok.s,ok.n,ok.k,λq=>by simp only at q;omega,λ_=>by simp only;omega,λq=>by simp only at q;omega⟩ (Lb j.2.2), ?_, ?_⟩;intro x a;simp only;rw[M0,CV hi];split;rename_i q;have:=h.tk _ (GT c.1);simp only;omega;exact h.tk x a;intro p b;rcases LM b with b|rfl;exact h.pin p b;exact h.pin (w.j.P.getD (ZG w).toNat X) (getD_in hi);by_cases i:0<=ZP w;have e:w.place n=(⟨⟨w.j.C,w.j.W,Cv (ES w) (ZP w).toNat n,w.j.S,w.j.B⟩,w.old,w.T++[ZP w],w.Q,w.D,w.rep⟩,4096+ZP w*w.j.C.pw,Y):=by rw[Z7.place,if_neg c,if_pos i]
 obtain⟨o,r,s⟩:=T9 (h:=⟨w.j.C,w.j.W,w.j.P,1-w.j.S,w.j.B⟩) (by simp only;omega) i n;have f:Cv (ES w) (ZP w).toNat n=w.j.P.set (ZP w).toNat ⟨1,1-w.j.S,n,0⟩:=o;have g:(w.j.P.getD (ZP w).toNat X).K=0:=r;have d:(ZP w).toNat<w.j.P.length:=s;rw[e,f];refine⟨h.pt.setPage d (La g) ⟨by simp only;omega,by simp,by simp,by simp,λ_=>by simp only;omega,by simp⟩ (Lb rfl), ?_, ?_⟩;intro x a;simp only at a⊢;rw[CV d];split;rfl;rename_i k;rcases Li.1 a with a|a;exact h.tk x a;simp at a;subst a;exact absurd rfl k;intro p b;rcases LM b with b|rfl;exact h.pin p b;exact t;rw[Z7.place,if_neg c,if_neg i]at l;simp at l
def Tab.fwd{B:Int}(v:0<=B) w r(b:Ba w)(hi:Bw w)(h:Tab B w)(e:(w.fwd r).2.2=0):Tab B (w.fwd r).1:=by
 unfold Z7.fwd at e⊢;split at e;rename_i c1;rw[if_pos c1];exact h;rename_i c1;rw[if_neg c1];split at e;simp at e;rename_i c2;rw[if_neg c2];have f:r∈w.old:=Lo.1 c2;split at e;rename_i c3;rw[if_pos c3];exact h;rename_i c3;rw[if_neg c3];split at e;simp at e;rename_i c4;rw[if_neg c4];split at e;rename_i g;rw[if_pos g];exact⟨h.pt,h.tk,h.pin⟩;rename_i g;rw[if_neg g];split at e;rename_i a;rw[if_pos a];have a0:=b.sp;have o:=GX b.C (Lo.1 c4);have z:=b.pl;have y:Ct w r<w.j.P.length:=by unfold Ct;omega
 refine⟨h.pt.flip y a oq, ?_, ?_⟩;intro x u;have t:=b.tk x u;simp only[Z7.keep,Z7.flip];rw[Ht oq];split;rename_i hc;exfalso;by_cases n:x.toNat=Ct w r;rw[n]at t;omega;have:=(Rw (l:=w.j.P) (i:=Ct w r) (m:=x.toNat-Ct w r-1) oq).2;rw[show Ct w r+1+(x.toNat-Ct w r-1)=x.toNat by omega]at this;omega;exact h.tk x u;intro p d;simp only[Z7.keep,Z7.flip,ZH,LA,Lf]at d;obtain⟨j,s,rfl⟩:=d;split;exact h.pin (w.j.P.getD j X) (getD_in s);exact h.pin (w.j.P.getD j X) (getD_in s);rename_i a;rw[if_neg a];split at e;simp at e;rename_i q;rw[if_neg q];have k:(w.place (Z5 (Zv w r))).2.2=Y:=by simpa using q
 have c:=hi.z r f;have hs:=Nx w r;have d:Z5 (Zv w r)<=w.j.C.pw:=by(rw[GA];rcases c with c|c;exact absurd c a;exact c)
 obtain⟨q1,q2,q3⟩:=h.place v b ⟨hs.1,d⟩ k;exact⟨q1,q2,q3⟩
def Z0L{B:Int}{h:Heap}(hp:Z8 h=Y)(hb:∀p∈h.P,p.N<=B):Tab B (Zs h):=by
 have hp':=hp;rw[HD]at hp';have hs:=hp'.2.2.2.1;refine⟨?_,by simp[Zs], ?_⟩
 .refine hp'.2.2.2.2.2.mapPages _ ?_ ?_ ?_ ?_
  .intro p hp;unfold Zo;split
   .rename_i hc;exact⟨by simp only;omega,hp.n,hp.k,λq=>by simp only at q;omega,hp.k1,λq=>by simp only at q;omega⟩
   .exact hp
  .intro p hp hk;unfold Zo at hk⊢;split at hk
   .rename_i hc;simp only at hk;omega
   .rename_i hc;rw[if_neg hc];exact⟨hk,rfl⟩
  .intro p hp hk;unfold Zo at hk;split at hk
   .rename_i hc;simp only at hk;omega
   .exact hk
  .intro p q hp hq h2 h3 he;have e1:Zo (1-h.S) p=p:=by rw[Zo,if_neg oq]
   have e2:Zo (1-h.S) q=q:=by rw[Zo,if_neg oq]
   rw[e1,e2];exact⟨⟨λ_=>h3,λ_=>h2⟩,λ_=>he⟩
 .intro p hp;simp only[Zs,LA]at hp;obtain⟨q,hq,rfl⟩:=hp;unfold Zo;split
  .exact hb q hq
  .exact hb q hq
def Za3{B:Int}(b:0<=B){h:Heap}{s}(a:Zy h.W)(c:Z8 h=Y)(f:∀p∈h.P,p.N<=B)(e:(rootsF (Zs h) s).2.2=0)(d:(Bh (rootsF (Zs h) s).1).2=0):Tab B (Bc h s):=
 ON (Tab B) (λw r a hi h e=>h.fwd b w r a hi e) (λw q j a hi h hq h0 h1 e=>(Tab.fwd b w _ a hi h e).withWords _) (λw n h=>⟨h.pt,h.tk,h.pin⟩) a c (Z0L c f) e d
structure Cl (w:Zg) (n:Nat):Prop where
 W:Zy w.j.W
 hv:Zq w.j.C=Y
 pl:(w.j.P.length:Int)=w.j.C.pg
 L:(w.j.W.length:Int)=w.j.C.pw*w.j.C.pg
 N:∀j,j<w.j.P.length->0<=(w.j.P.getD j X).N/\(w.j.P.getD j X).N<=n
 us:∀j,j<w.j.P.length->0<=(w.j.P.getD j X).U/\(w.j.P.getD j X).U<=256
 G:CI w.G
 E:CI w.E
 sl:w.G.length<=n
 wl:w.E.length<=n
def Cl.wm{w n}(h:Cl w n)(hn:n<=1000000):Sg w:=⟨h.W,h.G,h.E,Xb h.sl oq,Xb h.wl oq⟩
def Zg.dup(w:Zg)(t:Tape):Zg:=⟨w.j,w.G++[w.pick t],w.E⟩
def Zg.step(w:Zg)(t:Tape):Zg:=
 if t.next 12<=3 then w.put ((t.step 12).header w.j.C)
 else if t.next 12<=6 then w.link (t.step 12)
 else if t.next 12<=7 then w.pin (t.step 12)
 else if t.next 12<=9 then w.drop (t.step 12)
 else if t.next 12<=10 then w.collect
 else w.dup (t.step 12)
def Zg.stepT(w:Zg)(t:Tape):Tape:=
 if t.next 12<=3 then(t.step 12).headerT w.j.C
 else if t.next 12<=6 then w.linkT (t.step 12)
 else if t.next 12<=7 then w.pinT (t.step 12)
 else if t.next 12<=9 then w.dropT (t.step 12)
 else if t.next 12<=10 then t.step 12
 else w.pickT (t.step 12)
def Z8k(t:Tape) c:0<=(t.header c).map/\(t.header c).map<=4294967295:=by
 have h:∀n:Int,0<=((G7 t c).step 4).next (2^(min (min n 32) 12).toNat)/\((G7 t c).step 4).next (2^(min (min n 32) 12).toNat)<=4294967295:=by(intro n;have p:=Z1I (n:=min (min n 32) 12) oq;have r:=GG ((G7 t c).step 4) (n:=2^(min (min n 32) 12).toNat) p.1;omega)
 unfold Tape.header;split;simp;split;simp;exact h _
def Ga(t:Tape)(d:Int)(hd:t.next 12=d)(a:CY t):LP 22 [.pt 0 0 0,nI 12] [t.b] (nI d) [(t.step 12).b]:=by rw[<-hd];exact BB t 12 a dd dd
section
variable(w:Zg)(t:Tape)(n:Nat)(a:Cl w n)(b:n<=1000000)(c:CY t)(ha:t.at'<=900000)
include a b c ha
theorem ZjS:LP 54 [w.av,.pt 0 0 0] [t.b] (w.step t).av [(w.stepT t).b]:=by
 have hw:=a.wm b;have h1:=a.W;have h2:=a.G;have h3:=a.E;have h4:=a.sl;have h5:=a.wl;have s1:=Iu (t:=t) 12;have k1:=Ie c s1.2.2 oq oq;have n1:=GG t (n:=12) dd;have f:=Z8k (t.step 12) w.j.C;have hv:=a.hv;have h:=a.pl;have i:∀j,j<w.j.P.length->-1048576<=(w.j.P.getD j X).N/\(w.j.P.getD j X).N<=4294967296:=λj g=>by(have:=a.N j g;omega)
 have hd:t.next 12=0\/t.next 12=1\/t.next 12=2\/t.next 12=3\/t.next 12=4\/t.next 12=5\/t.next 12=6\/t.next 12=7\/t.next 12=8\/t.next 12=9\/t.next 12=10\/t.next 12=11:=by omega
 rcases hd with hd|hd|hd|hd|hd|hd|hd|hd|hd|hd|hd|hd;have d:w.step t=w.put ((t.step 12).header w.j.C):=by simp[Zg.step,hd]
 have e:w.stepT t=(t.step 12).headerT w.j.C:=by simp[Zg.stepT,hd]
 rw[d,e];exact lF func54 []<|Fp 6 (@Ga t (0) aa aa)<|Fp 17 (@Pf (t.step 12) w.j.C aa oq aa)<|Fc 18 (@TR w ((t.step 12).header w.j.C) aa aa) Fz;have d:w.step t=w.put ((t.step 12).header w.j.C):=by simp[Zg.step,hd]
 have e:w.stepT t=(t.step 12).headerT w.j.C:=by simp[Zg.stepT,hd]
 rw[d,e];exact lF func54 []<|Fp 6 (@Ga t (1) aa aa)<|Fp 17 (@Pf (t.step 12) w.j.C aa oq aa)<|Fc 18 (@TR w ((t.step 12).header w.j.C) aa aa) Fz;have d:w.step t=w.put ((t.step 12).header w.j.C):=by simp[Zg.step,hd]
 have e:w.stepT t=(t.step 12).headerT w.j.C:=by simp[Zg.stepT,hd]
 rw[d,e];exact lF func54 []<|Fp 6 (@Ga t (2) aa aa)<|Fp 17 (@Pf (t.step 12) w.j.C aa oq aa)<|Fc 18 (@TR w ((t.step 12).header w.j.C) aa aa) Fz;have d:w.step t=w.put ((t.step 12).header w.j.C):=by simp[Zg.step,hd]
 have e:w.stepT t=(t.step 12).headerT w.j.C:=by simp[Zg.stepT,hd]
 rw[d,e];exact lF func54 []<|Fp 6 (@Ga t (3) aa aa)<|Fp 17 (@Pf (t.step 12) w.j.C aa oq aa)<|Fc 18 (@TR w ((t.step 12).header w.j.C) aa aa) Fz;have d:w.step t=w.link (t.step 12):=by simp[Zg.step,hd]
 have e:w.stepT t=w.linkT (t.step 12):=by simp[Zg.stepT,hd]
 rw[d,e];exact lF func54 []<|Fp 6 (@Ga t (4) aa aa)<|Fp 25 (@Z2h w (t.step 12) aa aa oq) Fz;have d:w.step t=w.link (t.step 12):=by simp[Zg.step,hd]
 have e:w.stepT t=w.linkT (t.step 12):=by simp[Zg.stepT,hd]
 rw[d,e];exact lF func54 []<|Fp 6 (@Ga t (5) aa aa)<|Fp 25 (@Z2h w (t.step 12) aa aa oq) Fz;have d:w.step t=w.link (t.step 12):=by simp[Zg.step,hd]
 have e:w.stepT t=w.linkT (t.step 12):=by simp[Zg.stepT,hd]
 rw[d,e];exact lF func54 []<|Fp 6 (@Ga t (6) aa aa)<|Fp 25 (@Z2h w (t.step 12) aa aa oq) Fz;have d:w.step t=w.pin (t.step 12):=by simp[Zg.step,hd]
 have e:w.stepT t=w.pinT (t.step 12):=by simp[Zg.stepT,hd]
 rw[d,e];exact lF func54 []<|Fp 6 (@Ga t (7) aa aa)<|Fp 30 (@Zes w (t.step 12) aa aa oq aa oq aa) Fz;have d:w.step t=w.drop (t.step 12):=by simp[Zg.step,hd]
 have e:w.stepT t=w.dropT (t.step 12):=by simp[Zg.stepT,hd]
 rw[d,e];exact lF func54 []<|Fp 6 (@Ga t (8) aa aa)<|Fp 36 (@Z7Q w (t.step 12) aa aa oq) Fz;have d:w.step t=w.drop (t.step 12):=by simp[Zg.step,hd]
 have e:w.stepT t=w.dropT (t.step 12):=by simp[Zg.stepT,hd]
 rw[d,e];exact lF func54 []<|Fp 6 (@Ga t (9) aa aa)<|Fp 36 (@Z7Q w (t.step 12) aa aa oq) Fz;have d:w.step t=w.collect:=by simp[Zg.step,hd]
 have e:w.stepT t=t.step 12:=by simp[Zg.stepT,hd]
 rw[d,e];exact lF func54 []<|Fp 6 (@Ga t (10) aa aa)<|Fc 40 (@Zjh w aa oq oq aa aa) Fz;have d:w.step t=w.dup (t.step 12):=by simp[Zg.step,hd]
 have e:w.stepT t=w.pickT (t.step 12):=by simp[Zg.stepT,hd]
 rw[d,e];exact lF func54 []<|Fh 49 [.els (Z wD (w.G++[w.pick (t.step 12)]))]<|Fp 6 (@Ga t (11) aa aa)<|FAx 41 44 wD w.G (by(simp[Zg.dup, *];omega))<|Fp 47 (@IT w (t.step 12) aa aa oq)<|Fs 48 (Z wD [w.pick (t.step 12)])<|Fa (by(simp[Zg.dup, *];omega):(Z wD w.G).length+(Z wD [w.pick (t.step 12)]).length<=2^30)<|Fa (by simp[Zg.dup,L5,L4,LL,L3,wD,iD]:Z wD w.G++Z wD [w.pick (t.step 12)]=Z wD (w.G++[w.pick (t.step 12)])) Fz
end
def Z4i{pw s l ws}(h:Zy ws):∀i,Zy (Ec pw s l ws i)
 |0=>h
 |i+1=>by
  have b:=Z4i (pw:=pw) (s:=s) (l:=l) h i;unfold Ec;split
  .intro x a;simp only[C6,Li,LN]at a;rcases a with(a|a)|a
   .exact b x (L8 a)
   .omega
   .exact b x (L7 a)
  .exact b
def Zko{c l}(h:PT c l) s:PT c (l.map (E3 s)):=by
 refine h.mapPages _ ?_ ?_ ?_ ?_;intro p b;unfold E3;split;exact⟨by simp,by simp,by simp,by simp,by simp,by simp⟩;exact b;intro p b a;unfold E3 at a⊢;split at a;simp at a;rename_i i;rw[if_neg i];exact⟨a,rfl⟩;intro p b a;unfold E3 at a;split at a;simp at a;exact a;intro p q b hq f g j;by_cases k:p.S=s;have d:E3 s p=⟨0,0,0,0⟩:=by rw[E3,if_pos ⟨by omega,k⟩]
 have e:E3 s q=⟨0,0,0,0⟩:=by rw[E3,if_pos ⟨by omega,by omega⟩]
 rw[d,e];simp;have d:E3 s p=p:=by rw[E3,if_neg (by unfold Ez;omega)]
 have e:E3 s q=q:=by rw[E3,if_neg (by unfold Ez;omega)]
 rw[d,e];exact⟨⟨λ_=>g,λ_=>f⟩,λ_=>j⟩
def Z40{w}(a:Ba w) k:∀i,∀x∈G5 w k i,0<=x/\x<=4294967296
 |0,x,hx=>by simp[G5]at hx
 |i+1,x,hx=>by
  simp only[G5,Li,Lm]at hx;rcases hx with hx|rfl
  .exact Z40 a k i x hx
  .have h:=Ao w k i;unfold IM;split
   .omega
   .unfold C2;rw[h.2.2.2.1,h.1];split
    .rename_i b;have:=a.q _ b;omega
    .have:=Z6f (EM a.W (k.getD i X)).1;omega
structure ZbR (B:Int) (h:Heap) (s k:List Int):Prop where
 p0:Z8 h=Y
 p1:Z8 (Zp h s k).1=Y
 w:Zy (Zp h s k).1.W
 n:∀p∈(Zp h s k).1.P,p.N<=B
 c:(Zp h s k).1.C=h.C
 r:∀x∈(Zp h s k).2.1,0<=x/\x<=4294967296
 rl:(Zp h s k).2.1.length=s.length
 v:∀x∈(Zp h s k).2.2.1,0<=x/\x<=4294967296
 vl:(Zp h s k).2.2.1.length=k.length
def Z8X{B:Int}(x:0<=B){h:Heap}{s k}(r:Zy h.W)(hb:∀p∈h.P,p.N<=B)(e:(Zp h s k).2.2.2.2=0):ZbR B h s k:=by
 by_cases a:Z8 h=Y;by_cases o:Bl h s=Y/\Bl h k=Y;by_cases b:(rootsF (Zs h) s).2.2=0;by_cases g:(Bh (rootsF (Zs h) s).1).2=0;have d:Zp h s k=(EV (BL h s k),(rootsF (Zs h) s).2.1,G5 (Bc h s) k k.length,(BL h s k).rep,0):=by rw[Zp,if_pos a,if_pos o,if_pos b,if_pos g]
 have z:=Aj (roots:=s) (R8 r a) (RZ a) b;have c:=cOk h s k r a b g;have c5:=Z2Z h s k r a b g;have u:=Za3 x r a hb b g;obtain⟨n,t,v,g4,g5⟩:=c.h4;have a0:=c.w2.sp;have i:(Bc h s).j.C=h.C:=c.x2.c;have m:=c.w2.pl;rw[i]at m;have hL:=c.i4.L;rw[n]at hL;have j:=TY (s:=(Cu h s k).j.S) c5.2.2.2.1 (Cu h s k).j.P.length (Lj _);refine⟨a, ?_, ?_, ?_, ?_, ?_, ?_, ?_, ?_⟩;rw[d,HD];simp only[EV,BL,Hh,n,t,v,g4];have f:=Zko (s:=(Bc h s).j.S) u.pt;rw[i]at f;refine⟨(B5 a).1, ?_,by simp only[Lq];exact m,by omega, ?_,f⟩;rw[n,t,v]at j;rw[j];exact hL;split;rename_i ht;have y:=GT (w:=Bc h s) ht;have t1:=c.w2.tk _ y;have t2:=u.tk _ y;refine Lb ⟨t1.1,by simp only[Lq];exact t1.2.1, ?_⟩;have hx:(Z (E3 (Bc h s).j.S) (Bc h s).j.P).getD (ZG (Bc h s)).toNat X=(Bc h s).j.P.getD (ZG (Bc h s)).toNat X:=by
  have hi:(ZG (Bc h s)).toNat<(Bc h s).j.P.length:=by omega
  have:(Z (E3 (Bc h s).j.S) (Bc h s).j.P).getD (ZG (Bc h s)).toNat X=E3 (Bc h s).j.S ((Bc h s).j.P.getD (ZG (Bc h s)).toNat X):=by simp[Ld,hi]
  rw[this,E3,if_neg (by unfold Ez;omega)]
 show((Z (E3 (Bc h s).j.S) (Bc h s).j.P).getD (ZG (Bc h s)).toNat X).K=1;rw[hx];exact t1.2.2;exact La rfl;rw[d];exact Z4i c.f4.W _;rw[d];intro p l;simp only[EV,BL,Hh,t,LA]at l;obtain⟨q,hq,rfl⟩:=l;unfold E3;split;exact x;exact u.pin q hq;rw[d];exact n;rw[d];exact z.2.2.2.1;rw[d];exact z.2.2.2.2;rw[d];exact Z40 c.w2 k _;rw[d];exact Tx _ _ _;rw[Zp,if_pos a,if_pos o,if_pos b,if_neg g]at e;exact absurd e g;rw[Zp,if_pos a,if_pos o,if_neg b]at e;exact absurd e b;rw[Zp,if_pos a,if_neg o]at e;simp at e;rw[Zp,if_neg a]at e;simp at e
def Zis{h:Heap}(b:Z8 h=Y):∀p∈h.P,0<=p.N:=by rw[HD]at b;intro p a;obtain⟨i,hi,e⟩:=L6.1 a;have:=(b.2.2.2.2.2.b i hi).n.1;rwa [show h.P.getD i X=p by rw[Ld,LD hi,e];rfl]at this
def Cl.of_proper{w:Zg}{n:Nat}(b:Z8 w.j=Y)(h:Zy w.j.W)(g:∀p∈w.j.P,p.N<=n)(d:CI w.G)(e:CI w.E)(f:w.G.length<=n)(h4:w.E.length<=n):Cl w n:=by have c:=B5 b;exact⟨h,c.1,c.2.2.2.2.2.2.2.1,c.2.2.2.2.2.1,λj a=>⟨Zis b _ (getD_in a),g _ (getD_in a)⟩,λj a=>by have:=EL b a;omega,d,e,f,h4⟩
def Cl.pin_mem{w n}(h:Cl w n):∀p∈w.j.P,0<=p.N/\p.N<=n:=by intro p a;obtain⟨i,hi,e⟩:=L6.1 a;have:=h.N i hi;rwa [show w.j.P.getD i X=p by rw[Ld,LD hi,e];rfl]at this
def Cl.mono{w n}(h:Cl w n):Cl w (n+1):=
 ⟨h.W,h.hv,h.pl,h.L,λj a=>by have:=h.N j a;omega,h.us,h.G,h.E,by have:=h.sl;omega,by have:=h.wl;omega⟩
def Z2r{l}(h:CI l){x:Int}(b:0<=x/\x<=18446744073709551615):CI (l++[x]):=by intro y a;simp only[Li,Lm]at a;rcases a with a|rfl;exact h y a;exact b
def Cl.put{w n}(h:Cl w n){hd:ZB}(d:0<=hd.map/\hd.map<=4294967295):Cl (w.put hd) (n+1):=by unfold Zg.put;split;rename_i e;obtain⟨k1,f,b,k4,g,i,j,k⟩:=ZgO h.W d e;have po:=B5 k1;have hl:=h.sl;have c:=h.wl;have z:=(Z3G f).2.1;have a1:=b.lo;have a2:=b.hi;refine Cl.of_proper j k ?_ (Z2r h.G (by rw[g];omega)) h.E qo (by simp only;omega);intro p a;simp only at a;rw[i]at a;simp only at a;rcases b.pin p a with q|⟨q,l,q2⟩;omega;have:=h.pin_mem q l;omega;exact h.mono
def Cl.link{w n}(h:Cl w n)(e:n<=1000000) t:Cl (w.link t) (n+1):=by
 unfold Zg.link;split;rename_i b;have g:=Sq b.1;have f:=h.wm e;have c:1<=(Zx w.j (w.pick t)).1.length:=by omega
 have i:=GG (w.pickT (w.pickT t)) (n:=8) dd;have hi:0<=IP w t/\IP w t<(Zx w.j (w.pick t)).1.length:=by(unfold IP;rw[Int.tmod_eq_emod_of_nonneg i.1];exact⟨LU _ oq,LS _ oq⟩)
 have hv:0<=NA w t/\NA w t<=18446744073709551615:=by(unfold NA;split;exact M5 f _;have:=GG ((w.pickT (w.pickT t)).step 8) (n:=1048576) dd;omega)
 obtain⟨s1,j,k⟩:=ZiT h.W hv b.1 hi;have hl:=h.sl;have d:=h.wl;refine Cl.of_proper j k ?_ h.G h.E (by simp only;omega) (by simp only;omega);intro p a;simp only at a;rw[s1]at a;have:=h.pin_mem p a;omega;exact h.mono
def Z6D{w n}(h:Cl w n){i:Nat}(hi:i<w.j.P.length){d:Int}(hd:d=1\/(d=-1/\0<(w.j.P.getD i X).N)):Cl (RP w i d) (n+1):=by have hp:=h.N i hi;refine⟨h.W,h.hv, ?_,h.L, ?_, ?_,h.G,h.E,by have:=h.sl;simp only[RP];omega,by have:=h.wl;simp only[RP];omega⟩;simp only[RP,LF];exact h.pl;intro j a;simp only[RP,LF]at a⊢;rw[CV hi];split;simp only;omega;have:=h.N j a;omega;intro j a;simp only[RP,LF]at a⊢;rw[CV hi];split;exact h.us i hi;exact h.us j a
def Cl.pin{w n}(h:Cl w n) t:Cl (w.pin t) (n+1):=by
 unfold Zg.pin;split;rename_i e;have o:=GX h.hv e;have b:=h.pl;have hi:ND w t<w.j.P.length:=by unfold ND;omega
 split;rename_i a;exact Z6D h hi (Lb ⟨rfl,a.1⟩);split;exact Z6D h hi (La rfl);exact h.mono;exact h.mono
def Cl.drop{w n}(h:Cl w n) t:Cl (w.drop t) (n+1):=by unfold Zg.drop;split;have hl:=h.sl;have c:=h.wl;refine⟨h.W,h.hv,h.pl,h.L,λj b=>by have:=h.N j b;simp only;omega,h.us, ?_, ?_, ?_, ?_⟩;intro x a;rcases Li.1 a with a|a;exact h.G x (L8 a);exact h.G x (L7 a);simp only;split;exact Z2r h.E (Af h.G _);exact h.E;simp only[L2,LK,LJ];omega;simp only;split;simp;omega;omega;exact h.mono
def Cl.collect{w n}(h:Cl w n):Cl w.collect (n+1):=by unfold Zg.collect;split;rename_i e;have c:=Z8X (B:=n) oq h.W (λp a=>(h.pin_mem p a).2) e;have hl:=h.sl;have d:=h.wl;refine Cl.of_proper c.p1 c.w (λp a=>by have:=c.n p a;omega) (λx b=>by have:=c.r x b;omega) (λx b=>by have:=c.v x b;omega) (by simp only[c.rl];omega) (by simp only[c.vl];omega);exact h.mono
def Cl.step{w n}(h:Cl w n)(a:n<=1000000) t:Cl (w.step t) (n+1):=by
 unfold Zg.step;repeat' split
 exact h.put (Z8k _ _);exact h.link a _;exact h.pin _;exact h.drop _;exact h.collect;have hl:=h.sl;have c:=h.wl;exact⟨h.W,h.hv,h.pl,h.L,λj b=>by have:=h.N j b;simp only[Zg.dup]at *;omega,h.us,Z2r h.G (M5 (h.wm a) _),h.E,by simp only[Zg.dup,L2,List.length_singleton];omega,by simp only[Zg.dup];omega⟩
def SF(w:Z7)(x:Int):Z0:=w.j.P.getD (Z3 w.j.C x).1.toNat X
structure Rt (w:Z7):Prop where
 q:∀x∈w.Q,((SF w x).K=1\/(SF w x).K=2)/\(SF w x).S=1-w.j.S
 t:∀x∈w.old,(ZF (Z1 w.j.W x).1).2=Y->(ZF (Z1 w.j.W x).1).1∈w.Q
theorem O8{a:Int}(h0:0<=a)(h1:a<4294967296):ZF (4*a+2)=(a,Y):=by
 have e:(4*a+2)/4=a:=by omega
 rw[ZF,if_pos oq,e]
def Rt.copy{B w}(k:Ba w)(h:Bw w)(hT:Tab B w)(hR:Rt w){r n:Int}(hr:r∈w.old)(hq:r∉w.Q)(hn:n=Zr w.j.W r+1)(hp:n<=w.j.C.pw)(hc:(w.place n).2.2=Y):Rt ((w.place n).1.copy r (w.place n).2.1 n):=by
 have a9:=BQ w.j.W r;obtain⟨i,p,t,l,h2,h3,h4,h5,h6,h7,h8,e⟩:=Oa k ⟨by omega,hp⟩ hc;have a4:p.S=1-w.j.S:=by
  by_cases f:E6 w n;have e7:w.place n=(⟨⟨w.j.C,w.j.W,Cv w.j.P (ZG w).toNat n,w.j.S,w.j.B⟩,w.old,w.T,w.Q,w.D,w.rep⟩,4096+ZG w*w.j.C.pw+(w.j.P.getD (ZG w).toNat X).U,Y):=by rw[Z7.place,if_pos f]
  unfold E6 at f;have hm:=k.tk _ (GT f.1);have m:=hT.tk _ (GT f.1);have hi:(ZG w).toNat<w.j.P.length:=by omega
  rw[e7]at e;simp only[M0,Z7.mk.injEq,Heap.mk.injEq]at e;have s:=e.1.2.2.1;have v:(w.j.P.set i p).getD i X=p:=by rw[CV l,if_pos rfl]
  rw[<-s,CV hi]at v;split at v;rw[<-v];exact m;rename_i d;have g2:(w.j.P.set i p).getD (ZG w).toNat X=w.j.P.getD (ZG w).toNat X:=by rw[CV l,if_neg (λq=>d q.symm)]
  rw[<-s,CV hi,if_pos rfl]at g2;have:=congrArg Z0.U g2;simp only at this;omega;by_cases hg:0<=ZP w;have e7:w.place n=(⟨⟨w.j.C,w.j.W,Cv (ES w) (ZP w).toNat n,w.j.S,w.j.B⟩,w.old,w.T++[ZP w],w.Q,w.D,w.rep⟩,4096+ZP w*w.j.C.pw,Y):=by rw[Z7.place,if_neg f,if_pos hg]
  obtain⟨v,g2,g3⟩:=T9 (h:=⟨w.j.C,w.j.W,w.j.P,1-w.j.S,w.j.B⟩) (by have:=k.sp;simp only;omega) hg n;have a2:Cv (ES w) (ZP w).toNat n=w.j.P.set (ZP w).toNat ⟨1,1-w.j.S,n,0⟩:=v;have y:(w.j.P.getD (ZP w).toNat X).K=0:=g2;have z:(ZP w).toNat<w.j.P.length:=g3;rw[e7,a2]at e;simp only[Z7.mk.injEq,Heap.mk.injEq]at e;have s:=e.1.2.2.1;have k1:(w.j.P.set i p).getD i X=p:=by rw[CV l,if_pos rfl]
  rw[<-s,CV z]at k1;split at k1;rw[<-k1];rename_i d;have k2:(w.j.P.set i p).getD (ZP w).toNat X=w.j.P.getD (ZP w).toNat X:=by rw[CV l,if_neg (λq=>d q.symm)]
  rw[<-s,CV z,if_pos rfl]at k2;rw[<-k2]at y;simp at y;rw[Z7.place,if_neg f,if_neg hg]at hc;simp at hc
 have hb:=BF.1 k.C;have b1:=k.pl;have hL:=h.L;have a8:(i:Int)*w.j.C.pw+w.j.C.pw<=w.j.C.pw*w.j.C.pg:=by(have:=ED (i:=i) (j:=w.j.C.pg) (pw:=w.j.C.pw) oq oq;rw[Lx w.j.C.pw];exact this)
 have a7:0<=(i:Int)*w.j.C.pw:=Lt oq oq;have a5:=Hl k.C;rw[e,h8];generalize hu:Cg (w.j.P.getD i X)=u at *;have a3:(Z3 w.j.C (4096+(i:Int)*w.j.C.pw+u)).1.toNat=i:=by(have:=Da (c:=w.j.C) (i:=i) (o:=u) k.C oq oq;rw[show 4096+(i:Int)*w.j.C.pw+u=4096+((i:Int)*w.j.C.pw+u) by omega,this];simp)
 generalize ha:4096+(i:Int)*w.j.C.pw+u=at' at *;have b2:=h.r r (Le _ hr);have f:=h.f i l (by rcases h2 with h2|h2;exact La h2;exact Lb h2.1);rw[hu]at f;obtain⟨m1,m2,m3⟩:=Sl (ws:=w.j.W) (a:=at') (b:=r) (n:=n) oq oq oq;have a0:4096<=r/\r<4096+(moveA w.j.W at' r n).1.length:=by omega
 refine⟨?_, ?_⟩;intro x g;simp only[Z7.copy,Li,Lm]at g;simp only[SF,Z7.copy];rw[CV l];split;exact⟨La h3,a4⟩;rename_i d;rcases g with g|rfl;exact hR.q x g;exact absurd a3.symm d;intro x g m;simp only[Z7.copy]at g m⊢;by_cases a1:x=r;subst a1;rw[Ab a0]at m⊢;simp only;rw[O8 oq oq];simp;have a6:=f x (Le _ g);have b0:=BQ w.j.W x;have el:Z1 (BY (moveA w.j.W at' r n).1 r (4*at'+2)).1 x=Z1 w.j.W x:=by rw[GJ a0 a1,m3 x oq]
 rw[el]at m⊢;exact Le _ (hR.t x g m)
structure PR (B:Int) (w:Z7):Prop where
 tab:Tab B w
 rt:Rt w
def AJ(w:Z7)(x:Int):Prop:=x=0\/x∈w.Q
def Ziq{B} w r(f:PR B w)(e:(w.fwd r).2.2=0):AJ (w.fwd r).1 (w.fwd r).2.1:=by unfold Z7.fwd at e⊢;split at e;rename_i c1;rw[if_pos c1];exact c1;rename_i c1;rw[if_neg c1];split at e;simp at e;rename_i c2;rw[if_neg c2];have a:r∈w.old:=Lo.1 c2;split at e;rename_i c3;rw[if_pos c3];exact Lb (f.rt.t r a c3);rename_i c3;rw[if_neg c3];split at e;simp at e;rename_i c4;rw[if_neg c4];split at e;rename_i b;rw[if_pos b];exact Lb (Lw _ pq);rename_i b;rw[if_neg b];split at e;rename_i c;rw[if_pos c];exact Lb (Lw _ pq);rename_i c;rw[if_neg c];split at e;simp at e;rename_i d;rw[if_neg d];exact Lb (Lw _ pq)
def PR.fwd{B:Int}(hB:0<=B) w r(hw:Ba w)(hi:Bw w)(h:PR B w)(e:(w.fwd r).2.2=0):PR B (w.fwd r).1:=by
 refine⟨h.tab.fwd hB w r hw hi e, ?_⟩;have hR:=h.rt;have hsp:=hw.sp;unfold Z7.fwd at e⊢;split at e;rename_i c1;rw[if_pos c1];exact hR;rename_i c1;rw[if_neg c1];have c1':r∉w.Q:=λh=>c1 (Lb h);split at e;simp at e;rename_i c2;rw[if_neg c2];have c2':r∈w.old:=Lo.1 c2;split at e;rename_i c3;rw[if_pos c3];exact hR;rename_i c3;rw[if_neg c3];split at e;simp at e;rename_i c4;rw[if_neg c4];have o:=GX hw.C (Lo.1 c4);have hpl:=hw.pl;split at e;rename_i c5;rw[if_pos c5];simp only[ZJ,decide_eq_true_eq]at c5;have ok:=h.tab.pt.b (Z3 w.j.C r).1.toNat oq;have oks:=ok.s;refine⟨?_,λx hx ht=>Le _ (hR.t x hx ht)⟩;intro x hx;simp only[Z7.keep,Li,Lm]at hx;rcases hx with hx|rfl;exact hR.q x hx;refine⟨La c5.2.2.1, ?_⟩;simp only[SF,Z7.keep];omega;rename_i c5;rw[if_neg c5];split at e;rename_i c6;rw[if_pos c6];refine⟨?_,λx hx ht=>Le _ (hR.t x hx ht)⟩;have hlr:(Z3 w.j.C r).1.toNat<w.j.P.length:=by omega
 intro x hx;simp only[Z7.keep,Li,Lm]at hx;have hxl:(Z3 w.j.C x).1.toNat<w.j.P.length:=by(rcases hx with hx|rfl;by_cases q:(Z3 w.j.C x).1.toNat<w.j.P.length;exact q;have:=(hR.q x hx).1;rw[SF,Ld,Ll oq]at this;simp only[LO]at this;have d:(X:Z0).K=0:=rfl;omega;exact hlr)
 simp only[SF,Z7.keep,Z7.flip];rw[Ht hxl];split;refine⟨?_,rfl⟩;rcases hx with hx|rfl;exact(hR.q x hx).1;exact Lb c6;rename_i hne;rcases hx with hx|rfl;exact hR.q x hx;exact absurd ⟨Lj _,Xa _ _⟩ hne;rename_i c6;rw[if_neg c6];split at e;simp at e;rename_i c7;rw[if_neg c7];have c7':(w.place (Z5 (Zv w r))).2.2=Y:=by simpa using c7
 have hz:=hi.z r c2';have hp:Z5 (Zv w r)<=w.j.C.pw:=by(rw[GA];rcases hz with hz|hz;exact absurd hz c6;exact hz)
 exact hR.copy hw hi h.tab c2' c1' (GA w r) hp c7'
def PR.in1{B:Int}(m:0<=B) w(q j:Int)(i:Ba w)(hi:Bw w)(h:PR B w)(g:q∈w.Q)(h0:0<=j)(h1:j<Zr w.j.W q)(e:(w.fwd (Z1 w.j.W (q+1+j)).1).2.2=0):PR B (w.in1 (q+1+j)):=by
 have b:=PR.fwd m w _ i hi h e;obtain⟨k,l⟩:=RQ i hi _ e;have a:=l.q q g;have n:=l.l q g;have hr:=k.r q (Lw _ a);have o:=k.s q (Lw _ a);have c:4096<=q+1+j/\q+1+j<4096+(w.fwd (Z1 w.j.W (q+1+j)).1).1.j.W.length:=by omega
 refine⟨b.tab.withWords _,b.rt.q,λx f d=>?_⟩;have el:Z1 (BY (w.fwd (Z1 w.j.W (q+1+j)).1).1.j.W (q+1+j) (w.fwd (Z1 w.j.W (q+1+j)).1).2.1).1 x=Z1 (w.fwd (Z1 w.j.W (q+1+j)).1).1.j.W x:=by(refine GJ c λhc=>?_;have:=o x (Le _ f) oq;omega)
 simp only[Z7.in1]at f d⊢;rw[el]at d⊢;exact b.rt.t x f d
def Z5S{h:Heap}(d:Z8 h=Y):Rt (Zs h):=by refine⟨by simp[Zs],λx b a=>?_⟩;exfalso;simp only[Zs]at b a;obtain⟨j,j1,o⟩:=(Z9y d).1 x b;have e:=o.at';have k:=TL e;unfold Z9 at e;rw[if_pos k.1,if_pos k.2.1]at e;split at e;rename_i g;have hd:=g.2.2;unfold Z6 at hd;split at hd;rename_i c;have c1:=c.1;have c2:=c.2;unfold Zu at c1 c2;split at c2;unfold ZF at a;split at a;simp only at c2;omega;simp at a;rename_i hv;rw[if_neg hv]at c1;simp at c1;simp at hd;simp at e
def Zhr{B:Int}(c:0<=B){h:Heap}{s}(a:Zy h.W)(b:Z8 h=Y)(i:∀p∈h.P,p.N<=B)(e:(rootsF (Zs h) s).2.2=0)(d:(Bh (rootsF (Zs h) s).1).2=0):PR B (Bc h s):=
 ON (PR B) (λw r a hi h e=>PR.fwd c w r a hi h e) (λw q j a hi h k f g e=>PR.in1 c w q j a hi h k f g e) (λw n h=>⟨⟨h.tab.pt,h.tab.tk,h.tab.pin⟩,h.rt.q,h.rt.t⟩) a b ⟨Z0L b i,Z5S b⟩ e d
def Z8K(h:Heap):GP 34 [h.av] Y (bL (O (h.W.length<=5000/\h.P.length<=100))) []:=by exact gF [] func34 (fO 4)<|Fl 5 wD h.W<|FlG 10 (O ((h.W.length:Int)<=5000)) Z0.dv h.P<|Fa (by grind[]:(O ((h.W.length:Int)<=5000)&&O ((h.P.length:Int)<=100))=O (h.W.length<=5000/\h.P.length<=100)) Fz
def Z8Q w t n(b:Cl w n)(c:n<=1000000)(d:CY t)(a:t.at'<=900000):LP 54 [w.av,.pt 0 0 0] [t.b] (w.step t).av [(w.stepT t).b]:=
 ZjS w t n b c d a
structure E0 (n:Int) (t u:Tape):Prop where
 l:u.l=t.l
 lo:t.at'<=u.at'
 hi:u.at'<=t.at'+n
def E0.step t n:E0 1 t (t.step n):=by have:=Iu (t:=t) n;exact⟨this.2.2,this.1,this.2.1⟩
def E0.trans{m n t u v}(a:E0 m t u)(b:E0 n u v):E0 (m+n) t v:=
 ⟨b.l.trans a.l,by have:=a.lo;have:=b.lo;omega,by have:=a.hi;have:=b.hi;omega⟩
def E0.mono{m n:Int}{t u}(h:E0 m t u)(a:m<=n):E0 n t u:=⟨h.l,h.lo,by have:=h.hi;omega⟩
def Zlm t c:E0 10 t (t.headerT c):=by
 have a:E0 4 t (G7 t c):=by(unfold G7;split;exact(((E0.step t _).trans (E0.step _ 12)).trans (E0.step _ _)).mono dd;exact((E0.step t _).trans (E0.step _ 12)).mono dd)
 unfold Tape.headerT;repeat' split
 exact(a.trans (E0.step _ 4)).mono dd;exact(a.trans (E0.step _ 4)).mono dd;exact((a.trans (E0.step _ 4)).trans (E0.step _ _)).mono dd
def Zij(w:Zg) t:E0 10 t (w.linkT t):=by have a:E0 1 t (w.pickT t):=E0.step _ _;have b:E0 1 (w.pickT t) (w.pickT (w.pickT t)):=E0.step _ _;unfold Zg.linkT;split;exact((((a.trans b).trans (E0.step _ 8))).trans (E0.step _ _)).mono dd;exact((a.trans b).trans (E0.step _ 8)).mono dd
def ZjQ(w:Zg) t:(w.stepT t).l=t.l/\t.at'+1<=(w.stepT t).at'/\(w.stepT t).at'<=t.at'+20:=by
 have e:(t.step 12).at'=t.at'+1/\(t.step 12).l=t.l:=by simp[Tape.step]
 have d:E0 10 (t.step 12) (w.stepT t):=by
  unfold Zg.stepT;repeat' split
  exact Zlm _ _;exact Zij _ _;unfold Zg.pinT;split;exact((E0.step _ _).trans (E0.step _ 2)).mono dd;exact(E0.step _ _).mono dd;unfold Zg.dropT;split;exact((E0.step _ _).trans (E0.step _ 3)).mono dd;exact⟨rfl,by omega,by omega⟩;exact⟨rfl,by omega,by omega⟩;exact(E0.step _ _).mono dd
 have a:=d.l;have b:=d.lo;have c:=d.hi;exact⟨a.trans e.2,by omega,by omega⟩
def G9(w:Zg)(t:Tape):Nat->Zg×Tape|0=>(w,t)|k+1=>((G9 w t k).1.step (G9 w t k).2,(G9 w t k).1.stepT (G9 w t k).2)
def mkB(w:Zg)(t:Tape)(k:Nat):Bool:=O (((G9 w t k).2.l.length:Int)<=(G9 w t k).2.at')
def mkN(w:Zg)(t:Tape):Nat:=((Ln (2+t.l.length)).find? (mkB w t)).getD 0
def A9(w:Zg)(t:Tape):Zg:=(G9 w t (mkN w t)).1
def OU w t:∀k:Nat,(G9 w t k).2.l=t.l/\t.at'+k<=(G9 w t k).2.at'/\(G9 w t k).2.at'<=t.at'+20*k
 |0=>by simp[G9]
 |k+1=>by
  have a:=OU w t k;have:=ZjQ (G9 w t k).1 (G9 w t k).2;refine⟨this.1.trans a.1, ?_, ?_⟩
  .simp only[G9];omega
  .simp only[G9];omega
def P7{w n}(h:Cl w n) t:∀k,n+k<=1000000->Cl (G9 w t k).1 (n+k)|0,_=>h|k+1,hk=>(P7 h t k oq).step oq _
def Z1f w(t:Tape)(ht:0<=t.at'):mkB w t (mkN w t)=Y/\(∀j,j<mkN w t->mkB w t j=M)/\mkN w t<=t.l.length+1:=by
 cases hb:(Ln (2+t.l.length)).find? (mkB w t)with
 |none =>exfalso;have:=Lh.1 hb t.l.length (Lf.2 oq);have u:=OU w t t.l.length;simp only[mkB,decide_eq_true_eq,u.1]at this;omega
 |some k =>
  obtain⟨b,a,c⟩:=LC.1 hb;have a:=Lf.1 a;have e:mkN w t=k:=by rw[mkN,hb];rfl
  rw[e];exact⟨b,λj d=>by simpa using c j d,by omega⟩
def Z08(w:Zg)(t:Tape):Tg:=⟨tm 22 [(2,.pt 8002 0 0),(3,.pt 32012 0 0),(4,.pt 40004 0 0)],[(40004,.box 30 w.cells),(32012,t.b),(8002,.box 30 [nI 0,nI 0,.d (.sl 0 []),.d (.sl 0 []),nI 0,nI 0,.d (.sl 0 []),.d (.sl 0 [])])],60⟩
def Zfx w t n(hm:Cl w n)(hn:n<=1000000)(ht:CY t)(ha:t.at'<=900000)(hd:t.at'<t.l.length):CP (Zl f15 0) (Z08 w t).st .nrm (Z08 (w.step t) (w.stepT t)).st:=by exact sF [] []<|Fbq 16 [32012] (@PW t aa)<|Ftb 17 (!decide ((t.l.length:Int)<=t.at'))<|Fbr 20 [32012] (@Z8Q w t n aa aa aa aa) Fz
def ZbE w t(ht:CY t)(hd:¬ t.at'<t.l.length):CP (Zl f15 0) (Z08 w t).st (.ext 0) (Tg.st ⟨tm 22 [(2,.pt 8002 0 0),(4,.pt 40004 0 0)],[(40004,.box 30 w.cells),(8002,.box 30 [nI 0,nI 0,.d (.sl 0 []),.d (.sl 0 []),nI 0,nI 0,.d (.sl 0 []),.d (.sl 0 [])])],60⟩):=by exact sF [] []<|Fbq 16 [32012] (@PW t aa)<|Ffb 17 (!decide ((t.l.length:Int)<=t.at')) Fz
def Zfi w(t:Tape)(f:Cl w 0)(hl:t.l.length<=300)(e:0<=t.at')(h1:t.at'<=1000):CP (Zk f15 0) (Tg.st ⟨tm 22 [(2,.pt 8002 0 0),(3,.pt 32012 0 0),(4,.pt 40004 0 0)],[(40004,.box 30 w.cells),(32012,t.b),(8002,.box 30 [nI 0,nI 0,.d (.sl 0 []),.d (.sl 0 []),nI 0,nI 0,.d (.sl 0 []),.d (.sl 0 [])])],60⟩) .nrm (Tg.st ⟨tm 22 [(2,.pt 8002 0 0),(4,.pt 40004 0 0)],[(40004,.box 30 (A9 w t).cells),(8002,.box 30 [nI 0,nI 0,.d (.sl 0 []),.d (.sl 0 []),nI 0,nI 0,.d (.sl 0 []),.d (.sl 0 [])])],60⟩):=by
 have d:=Z1f w t e;have a:∀k,k<=mkN w t->CY (G9 w t k).2/\(G9 w t k).2.at'<=900000:=λk b=>by(have u:=OU w t k;refine⟨?_,by omega⟩;unfold CY;rw[u.1];omega)
 refine Bp (S:=λk=>(Z08 (G9 w t k).1 (G9 w t k).2).st) (mkN w t) kr (λk b=>?_) ?_;have c:=d.2.1 k b;simp only[mkB,decide_eq_false_iff_not]at c;have m:=P7 f t k oq;exact Zfx _ _ (0+k) m oq (a k oq).1 (a k oq).2 oq;have c:=d.1;simp only[mkB,decide_eq_true_eq]at c;exact ZbE _ _ (a _ (Lj _)).1 oq
def O0(w:Zg)(t:Tape):Tg:=⟨tm 22 [(2,.pt 8002 0 0),(3,.pt 24012 0 0),(4,.pt 32004 0 0)],[(32004,.box 30 w.cells),(24012,t.b),(8002,.box 30 [nI 0,nI 0,.d (.sl 0 []),.d (.sl 0 []),nI 0,nI 0,.d (.sl 0 []),.d (.sl 0 [])])],60⟩
def Zid w t n(hm:Cl w n)(hn:n<=1000000)(ht:CY t)(ha:t.at'<=900000)(hd:t.at'<t.l.length):CP (Zl f15 0) (O0 w t).st .nrm (O0 (w.step t) (w.stepT t)).st:=by exact sF [] []<|Fbq 16 [24012] (@PW t aa)<|Ftb 17 (!decide ((t.l.length:Int)<=t.at'))<|Fbr 20 [24012] (@Z8Q w t n aa aa aa aa) Fz
def Zd2 w t(ht:CY t)(hd:¬ t.at'<t.l.length):CP (Zl f15 0) (O0 w t).st (.ext 0) (Tg.st ⟨tm 22 [(2,.pt 8002 0 0),(4,.pt 32004 0 0)],[(32004,.box 30 w.cells),(8002,.box 30 [nI 0,nI 0,.d (.sl 0 []),.d (.sl 0 []),nI 0,nI 0,.d (.sl 0 []),.d (.sl 0 [])])],60⟩):=by exact sF [] []<|Fbq 16 [24012] (@PW t aa)<|Ffb 17 (!decide ((t.l.length:Int)<=t.at')) Fz
def Zaj w(t:Tape)(f:Cl w 0)(hl:t.l.length<=300)(e:0<=t.at')(h1:t.at'<=1000):CP (Zk f15 0) (Tg.st ⟨tm 22 [(2,.pt 8002 0 0),(3,.pt 24012 0 0),(4,.pt 32004 0 0)],[(32004,.box 30 w.cells),(24012,t.b),(8002,.box 30 [nI 0,nI 0,.d (.sl 0 []),.d (.sl 0 []),nI 0,nI 0,.d (.sl 0 []),.d (.sl 0 [])])],60⟩) .nrm (Tg.st ⟨tm 22 [(2,.pt 8002 0 0),(4,.pt 32004 0 0)],[(32004,.box 30 (A9 w t).cells),(8002,.box 30 [nI 0,nI 0,.d (.sl 0 []),.d (.sl 0 []),nI 0,nI 0,.d (.sl 0 []),.d (.sl 0 [])])],60⟩):=by
 have d:=Z1f w t e;have a:∀k,k<=mkN w t->CY (G9 w t k).2/\(G9 w t k).2.at'<=900000:=λk b=>by(have u:=OU w t k;refine⟨?_,by omega⟩;unfold CY;rw[u.1];omega)
 refine Bp (S:=λk=>(O0 (G9 w t k).1 (G9 w t k).2).st) (mkN w t) kr (λk b=>?_) ?_;have c:=d.2.1 k b;simp only[mkB,decide_eq_false_iff_not]at c;have m:=P7 f t k oq;exact Zid _ _ (0+k) m oq (a k oq).1 (a k oq).2 oq;have c:=d.1;simp only[mkB,decide_eq_true_eq]at c;exact Zd2 _ _ (a _ (Lj _)).1 oq
def Hg(l:List Int):Tape:=⟨l.take 300,0⟩
def ZC(l:List Int):Zg:=A9 (Hg l).empty (((Hg l).step 4).step 5)
def Z9c(t:Tape):Cl t.empty 0:=by
 have hv:=Z9C t;have hb:=BF.1 hv;refine⟨?_,hv, ?_, ?_, ?_, ?_, ?_, ?_,by simp[Tape.empty],by simp[Tape.empty]⟩;intro x b;simp only[Tape.empty,Rp,LN]at b;omega;simp only[Tape.empty,Rp,Ly];omega;have:=Hl hv;simp only[Tape.empty,Rp,Ly];omega;intro j a;simp only[Tape.empty,Rp,Ly]at a⊢;have:(Lc t.C.pg.toNat (⟨0,0,0,0⟩:Z0)).getD j X=⟨0,0,0,0⟩:=by simp[Ld,a]
 rw[this];simp;intro j a;simp only[Tape.empty,Rp,Ly]at a⊢;have:(Lc t.C.pg.toNat (⟨0,0,0,0⟩:Z0)).getD j X=⟨0,0,0,0⟩:=by simp[Ld,a]
 rw[this];simp;intro x b;simp[Tape.empty]at b;intro x b;simp[Tape.empty]at b
def Z4I l:(((Hg l).step 4).step 5).l=l.take 300/\(((Hg l).step 4).step 5).at'=2:=by simp[Hg,Tape.step]
def Z30 l:Cl (ZC l) 1000:=by
 have e:=Z4I l;have hl:(((Hg l).step 4).step 5).l.length<=300:=by rw[e.1];simp;omega
 have hk:=Z1f (Hg l).empty (((Hg l).step 4).step 5) oq;have m:=P7 (Z9c (Hg l)) (((Hg l).step 4).step 5) (mkN (Hg l).empty (((Hg l).step 4).step 5)) oq;have c:∀(w:Zg) (a b:Nat),Cl w a->a<=b->Cl w b:=λw a b h d =>
  ⟨h.W,h.hv,h.pl,h.L,λj f=>by have:=h.N j f;omega,h.us,h.G,h.E,by have:=h.sl;omega,by have:=h.wl;omega⟩
 exact c _ _ _ m oq
def Z2G(l:List Int)(hl:l.length<=140737488355328):GP 15 [ZE l] M (ZC l).av []:=by
 have e:=Z4I l;have d:=Z9c (Hg l);have b:(((Hg l).step 4).step 5).l.length<=300:=by rw[e.1];simp;omega
 have c:=e.2;by_cases h:300<l.length;have f:CY ⟨Lr (Lp 300) l,0⟩:=by simp[CY];omega
 have a:Hg l=⟨Lr (Lp 300) l,0⟩:=rfl;unfold ZC;rw[a]at d b c⊢;exact gF [] func15 []<|Fh 9 [.els (Z iD (Lr (Lp 300) l))]<|Fl 6 iD l<|Ftb 7 (O (300<(l.length:Int)))<|Fa (by(simp only[Lq];omega):(0:Int)<=(300:Int)/\300<=(↑(Z iD l).length:Int))<|Fa (ms:Lr (Lp 300) (Z iD l)=Z iD (Lr (Lp 300) l))<|Fbr 14 [32012] (@Z81 (Tape.mk (Lr (Lp 300) l) 0) aa (by(simp only[bs];omega)))<|Fu (@Zfi ((Tape.mk (Lr (Lp 300) l) 0).empty) (((Tape.mk (Lr (Lp 300) l) 0).step 4).step 5) aa aa oq oq) Fz;have f:CY ⟨l,0⟩:=by simp[CY];omega
 have a:Hg l=⟨l,0⟩:=by rw[Hg,List.take_of_length_le oq]
 unfold ZC;rw[a]at d b c⊢;exact gF [] func15 []<|Fl 6 iD l<|Ffb 7 (O (300<(l.length:Int)))<|Fbr 14 [24012] (@Z81 (Tape.mk l 0) aa (by(simp only[bs];omega)))<|Fu (@Zaj ((Tape.mk l 0).empty) (((Tape.mk l 0).step 4).step 5) aa aa oq oq) Fz
def Z0S(h:Heap)(r:Int):Prop:=(Z3 h.C r).2.2=0->(h.P.getD (Z3 h.C r).1.toNat X).K=1\/(h.P.getD (Z3 h.C r).1.toNat X).K=2
def Z0S.mono{h a:Heap}{r}(c:Z0S h r)(b:a.C=h.C)(hk:∀j:Nat,(h.P.getD j X).K≠0->(a.P.getD j X).K=(h.P.getD j X).K):Z0S a r:=by intro e;rw[b]at e⊢;have q:=c e;grind
def BZ(ws:List Int)(a:Int):ZB:=(Z6 (Z1 ws a).1).1
def okA(ws:List Int)(a:Int):Prop:=(Z6 (Z1 ws a).1).2=Y
def Gl(ws:List Int)(a:Int):Int:=(BZ ws a).K
def kpA(ws:List Int)(a:Int):Int:=if Gl ws a=0 then 1 else Zr ws a+1
def ZN(h:Heap)(i:Nat):Int:=4096+i*h.C.pw
def G1(ws:List Int):Int->Int->List Int->Prop|a,b,[]=>a=b|a,b,x::l=>x=a/\okA ws a/\G1 ws (a+Zr ws a+1) b l
def NX ws a:Z5 (BZ ws a)=Zr ws a+1:=by unfold BZ;rw[Z5,if_pos (DZ _)];rfl
def Z3f{ws}:∀{l:List Int} {a b:Int},G1 ws a b l->a<=b
 |[],a,b,h=>by simp only[G1]at h;omega
 |x::l,a,b,h=>by
  have:=Z3f h.2.2;have:=BQ ws a;omega
def HT{ws}{x:Int}:∀{l:List Int} {a b:Int},G1 ws a b l->x∈l->okA ws x/\a<=x/\x+Zr ws x<b
 |[],_,_,_,hx=>by simp at hx
 |y::l,a,b,h,hx=>by
  have hr:=BQ ws a;rcases Lz.1 hx with rfl|hx
  .have:=Z3f h.2.2;rw[h.1];exact⟨h.2.1,by omega,by omega⟩
  .have:=HT h.2.2 hx;exact⟨this.1,by omega,this.2.2⟩
def Z33{ws}{x y:Int}:∀{l:List Int} {a b:Int},G1 ws a b l->x∈l->y∈l->x<y->x+Zr ws x<y
 |[],_,_,_,hx,_,_=>by simp at hx
 |z::l,a,b,h,hx,hy,hxy=>by
  have hr:=BQ ws a;have c:=h.1;rcases Lz.1 hx with e|hx'
  .rcases Lz.1 hy with e2|hy'
   .omega
   .have:=(HT h.2.2 hy').2.1;rw[e,c];omega
  .rcases Lz.1 hy with e2|hy'
   .have:=(HT h.2.2 hx').2.1;omega
   .exact Z33 h.2.2 hx' hy' hxy
def Z8J{ws}{m:List Int}{b c}:∀{l:List Int} {a:Int},G1 ws a b l->G1 ws b c m->G1 ws a c (l++m)|[],a,h,d=>by simp only[G1]at h;subst h;exact d|_::_,_,h,d=>⟨h.1,h.2.1,Z8J h.2.2 d⟩
def Tm{ws ws'}:∀{l:List Int} {a b:Int},G1 ws a b l->(∀x∈l,okA ws' x/\Zr ws' x=Zr ws x)->G1 ws' a b l
 |[],_,_,h,_=>h
 |x::l,a,b,h,hh=>by
  have c:=hh x pq;have d:=h.1;subst d;refine⟨rfl,c.1, ?_⟩;rw[c.2];exact Tm h.2.2 λy e=>hh y (List.mem_cons_of_mem _ e)
def Hb{ws ws' a}(h:(Z1 ws' a).1=(Z1 ws a).1):(okA ws a->okA ws' a)/\Zr ws' a=Zr ws a/\Gl ws' a=Gl ws a/\BZ ws' a=BZ ws a/\kpA ws' a=kpA ws a:=by
 have e:BZ ws' a=BZ ws a:=by rw[BZ,BZ,h]
 have b:Zr ws' a=Zr ws a:=by rw[Zr,Zr,h]
 have c:Gl ws' a=Gl ws a:=by rw[Gl,Gl,e]
 exact⟨λq=>by rw[okA,h];exact q,b,c,e,by rw[kpA,kpA,b,c]⟩
section
variable{h:Heap}(p:Z8 h=Y){i:Nat}(hi:i<h.P.length)(a:(h.P.getD i X).K=1)
include p hi a
theorem at_one{x:Int}(h1:ZN h i<=x)(h2:x+Zr h.W x<ZN h i+(h.P.getD i X).U)(o:okA h.W x):Z9 h x=(BZ h.W x,0):=by
 have b:=B5 p;have pp:=EL p hi;have r:=BQ h.W x;have e:Z3 h.C x=((i:Int),x-ZN h i,0):=by(rw[<-Da (c:=h.C) (i:=i) (o:=x-ZN h i) b.1 oq oq];congr 1;unfold ZN;omega)
 have s:Z5 (Z6 (Z1 h.W x).1).1=Zr h.W x+1:=NX h.W x;unfold Z9;rw[if_pos p,e];simp only[Lk,s,if_true];rw[if_pos ⟨.inl a,by omega,o⟩,if_neg];rfl;omega
theorem Z2F:∀(f:Nat) (o:Int) (l:List Int),G1 h.W (ZN h i+o) (ZN h i+(h.P.getD i X).U) l->0<=o->(h.P.getD i X).U-o<=f->Ej h i f o=Lg l
 |0,o,[],ht,b,hf=>rfl
 |0,o,x::l,ht,b,hf=>by
  have:=Z3f ht.2.2;have:=BQ h.W (ZN h i+o);omega
 |f+1,o,[],ht,b,hf=>by
  simp only[G1]at ht;unfold Ej;rw[if_neg];show¬ o<(h.P.getD (i:Int).toNat X).U;rw[Lk];omega
 |f+1,o,x::l,ht,b,hf=>by
  have e:=ht.1;have m:=HT ht (x:=x) pq;have k:=B5 p;have pp:=EL p hi;have hr:=BQ h.W x;have c:pg h (i:Int)=h.P.getD i X:=by simp[pg]
  have g:B8 h i o=x:=by
   unfold B8 address;rw[if_pos k.1,if_pos (HM.2 ⟨by omega,by omega,b,by omega⟩),e];unfold ZN;simp only;omega
  have d:=ht.2.2;rw[<-e]at d;have j:=Z2F f (o+(Zr h.W x+1)) l (by rw[show ZN h i+(o+(Zr h.W x+1))=x+Zr h.W x+1 by omega];exact d) oq oq;unfold Ej;rw[c,if_pos oq,g,at_one p hi a oq m.2.2 m.1];simp only[if_true];rw[if_neg oq,NX,j];rfl
theorem Z9Y{l}(t:G1 h.W (ZN h i) (ZN h i+(h.P.getD i X).U) l):Ze h i=(l,0):=by
 have pp:=EL p hi;have b:pg h (i:Int)=h.P.getD i X:=by simp[pg]
 unfold Ze;rw[if_pos p,if_pos oq,b,if_neg oq,Z2F p hi a 256 0 l (by rw[LB];exact t) oq oq]
end
structure Gt (h:Heap) (T:Nat->List Int):Prop where
 p:Z8 h=Y
 t1:∀i,i<h.P.length->(h.P.getD i X).K=1->G1 h.W (ZN h i) (ZN h i+(h.P.getD i X).U) (T i)
 t2:∀i,i<h.P.length->(h.P.getD i X).K=2->T i=[ZN h i]/\okA h.W (ZN h i)/\Zr h.W (ZN h i)+1=(h.P.getD i X).U
 t0:∀i x,x∈T i->i<h.P.length/\((h.P.getD i X).K=1\/(h.P.getD i X).K=2)
structure Gd (h:Heap) (T:Nat->List Int):Prop where
 p:Z8 h=Y
 sp:∀i,i<h.P.length->(h.P.getD i X).K≠0->(h.P.getD i X).S=h.S
 t1:∀i,i<h.P.length->(h.P.getD i X).K=1->G1 h.W (ZN h i) (ZN h i+(h.P.getD i X).U) (T i)/\∀x∈T i,Zr h.W x+1<=Zc h.C
 t2:∀i,i<h.P.length->(h.P.getD i X).K=2->T i=[ZN h i]/\okA h.W (ZN h i)/\Zr h.W (ZN h i)+1=(h.P.getD i X).U/\Gl h.W (ZN h i)≠0
 t0:∀i x,x∈T i->i<h.P.length/\((h.P.getD i X).K=1\/(h.P.getD i X).K=2)
 d:∀a,(Z1 h.W a).1≠0->∃i x,x∈T i/\x<=a/\a<x+kpA h.W x
 q:∀i x k,x∈T i->Gl h.W x≠0->0<=k->k<Zr h.W x->Bt (BZ h.W x) k=Y->(Z1 h.W (x+1+k)).1=0\/∃j,(Z1 h.W (x+1+k)).1∈T j/\Gl h.W (Z1 h.W (x+1+k)).1≠0
 cr:(crowd h.P:Int)<=h.C.pg/4
def Ob(h:Heap)(T:Nat->List Int)(x:Int):Prop:=∃j,x∈T j/\Gl h.W x≠0
section
variable{h:Heap}{T:Nat->List Int}(g:Gt h T)
include g
theorem Gt.on{i}{x:Int}(a:x∈T i):i<h.P.length/\((h.P.getD i X).K=1\/(h.P.getD i X).K=2)/\ZN h i<=x/\x<ZN h i+h.C.pw/\x+Zr h.W x<ZN h i+(h.P.getD i X).U/\okA h.W x/\((h.P.getD i X).K=2->x=ZN h i/\Zr h.W x+1=(h.P.getD i X).U):=by have t:=g.t0 i x a;have po:=B5 g.p;have pp:=EL g.p t.1;have hr:=BQ h.W x;refine⟨t.1,t.2, ?_⟩;rcases t.2 with k|k;have m:=HT (g.t1 i t.1 k) a;exact⟨m.2.1,by omega,m.2.2,m.1,λq=>by omega⟩;have m:=g.t2 i t.1 k;rw[m.1]at a;have a:=Lm.1 a;subst a;exact⟨by omega,by omega,by omega,m.2.1,λ_=>⟨rfl,m.2.2⟩⟩
theorem Gt.ofx{i}{x:Int}(a:x∈T i):Z3 h.C x=((i:Int),x-ZN h i,0):=by have o:=g.on a;have b:=B5 g.p;have:=Da (c:=h.C) (i:=i) (o:=x-ZN h i) b.1 oq oq;rw[<-this];congr 1;unfold ZN;omega
theorem Gt.sep{i j}{x y:Int}(d:x∈T i)(e:y∈T j)(c:x<y):x+Zr h.W x<y:=by have a:=g.on d;have b:=g.on e;have r2:=BQ h.W y;have r1:=BQ h.W x;unfold ZN at a b;rcases LG i j with q|q|q;have:=Db g.p q b.1 a.2.1 oq;omega;subst q;rcases a.2.1 with k|k;exact Z33 (g.t1 i a.1 k) d e c;have:=(a.2.2.2.2.2.2 k).1;have:=(b.2.2.2.2.2.2 k).1;omega;have:=Db g.p q a.1 b.2.1 oq;omega
theorem Gt.free{i j:Nat}{x:Int}(hi:i<h.P.length)(hk:(h.P.getD i X).K=0\/(h.P.getD i X).K=1)(b:x∈T j):x+Zr h.W x<ZN h i+Cg (h.P.getD i X)\/ZN h i+h.C.pw<=x:=by
 have o:=g.on b;have po:=B5 g.p;have pp:=EL g.p hi;have a:0<=Cg (h.P.getD i X):=by unfold Cg;split<;>omega
 unfold ZN at o⊢;rcases LG i j with q|q|q;have:=ED (i:=i) (j:=j) (pw:=h.C.pw) oq oq;omega;subst q;rw[Cg,if_neg oq];omega;have:=Db g.p q hi o.2.1 oq;omega
theorem Gt.at'{i}{x:Int}(a:x∈T i):Z9 h x=(BZ h.W x,0):=by have o:=g.on a;have r:=BQ h.W x;have s:Z5 (Z6 (Z1 h.W x).1).1=Zr h.W x+1:=NX h.W x;unfold Z9;rw[if_pos g.p,g.ofx a];simp only[Lk,s,if_true];rw[if_pos ⟨o.2.1,by omega,o.2.2.2.2.2.1⟩,if_neg];rfl;have:=o.2.2.2.2.2.2;omega
theorem Gt.page{i:Nat}(hi:i<h.P.length):Ze h i=(T i,0):=by
 have pp:=EL g.p hi;have a:pg h (i:Int)=h.P.getD i X:=by simp[pg]
 unfold Ze;rw[if_pos g.p,if_pos oq,a];by_cases e:(h.P.getD i X).K=0\/(h.P.getD i X).K=3;rw[if_pos e];have:T i=[]:=List.eq_nil_iff_forall_not_mem.2 λx b=>by have:=(g.t0 i x b).2;omega
 rw[this];rw[if_neg e];by_cases c:(h.P.getD i X).K=1;have:=Z2F g.p hi c 256 0 (T i) (by rw[LB];exact(g.t1 i hi c)) oq oq;rw[this];have d:(h.P.getD i X).K=2:=by omega
 have t:=g.t2 i hi d;have b:ZN h i∈T i:=by rw[t.1];simp
 have on:=g.on b;have j:=B5 g.p;have hr:=BQ h.W (ZN h i);have f:B8 h i 0=ZN h i:=by(unfold B8 address;rw[if_pos j.1,if_pos (HM.2 ⟨by omega,by omega,by omega,by omega⟩)];unfold ZN;simp)
 have:Ej h i 256 0=Lg (T i):=by(unfold Ej;rw[a,if_pos oq,f,g.at' b];simp only[if_true];rw[if_pos d,t.1])
 rw[this]
theorem Gt.starts:∀(f i:Nat),i+f=h.P.length->(Ce h f i).2=0/\∀x,x∈(Ce h f i).1↔∃j,i<=j/\x∈T j
 |0,i,hf=>by
  refine⟨rfl,λx=>⟨λa=>by simp[Ce]at a, ?_⟩⟩;rintro⟨j,b,a⟩;have:=(g.t0 j x a).1;omega
 |f+1,i,hf=>by
  obtain⟨c,i2⟩:=Gt.starts f (i+1) oq;unfold Ce;rw[g.page (show i<h.P.length by omega)];simp only[c,if_true];refine⟨trivial,λx=>?_⟩;rw[Li,i2];constructor
  .rintro(a|⟨j,b,a⟩)
   .exact⟨i,Lj _,a⟩
   .exact⟨j,by omega,a⟩
  .rintro⟨j,b,a⟩;by_cases q:j=i
   .subst q;exact La a
   .exact Lb ⟨j,by omega,a⟩
theorem Gt.objs:(Zt h).2=0/\∀x,x∈(Zt h).1↔Ob h T x:=by
 have s:=g.starts h.P.length 0 oq;have e:Cx h=Ce h h.P.length 0:=by rw[Cx,if_pos g.p]
 unfold Zt;rw[e];refine⟨s.1,λx=>?_⟩;rw[List.mem_filter,s.2];constructor;rintro⟨⟨j,_,hj⟩,hb⟩;have hb':(Z9 h x).1.K≠0:=of_decide_eq_true hb;rw[g.at' hj]at hb';exact⟨j,hj,hb'⟩;rintro⟨j,hj,hb⟩;refine⟨⟨j,by omega,hj⟩,decide_eq_true ?_⟩;rw[g.at' hj];exact hb
end
section
variable{h:Heap}{T:Nat->List Int}(g:Gd h T)
include g
theorem Gd.gt:Gt h T:=⟨g.p,λi hi a=>(g.t1 i hi a).1,λi hi a=>⟨(g.t2 i hi a).1,(g.t2 i hi a).2.1,(g.t2 i hi a).2.2.1⟩,g.t0⟩
theorem Gd.on{i}{x:Int}(a:x∈T i):i<h.P.length/\((h.P.getD i X).K=1\/(h.P.getD i X).K=2)/\ZN h i<=x/\x<ZN h i+h.C.pw/\x+Zr h.W x<ZN h i+(h.P.getD i X).U/\okA h.W x/\((h.P.getD i X).K=2->x=ZN h i/\Zr h.W x+1=(h.P.getD i X).U):=g.gt.on a
theorem Gd.ofx{i}{x:Int}(a:x∈T i):Z3 h.C x=((i:Int),x-ZN h i,0):=g.gt.ofx a
theorem Gd.sep{i j}{x y:Int}(b:x∈T i)(c:y∈T j)(a:x<y):x+Zr h.W x<y:=g.gt.sep b c a
theorem Gd.free{i j:Nat}{x:Int}(hi:i<h.P.length)(a:(h.P.getD i X).K=0\/(h.P.getD i X).K=1)(b:x∈T j):x+Zr h.W x<ZN h i+Cg (h.P.getD i X)\/ZN h i+h.C.pw<=x:=g.gt.free hi a b
theorem Gd.at'{i}{x:Int}(a:x∈T i):Z9 h x=(BZ h.W x,0):=g.gt.at' a
theorem Gd.page{i:Nat}(hi:i<h.P.length):Ze h i=(T i,0):=g.gt.page hi
theorem Gd.objs:(Zt h).2=0/\∀x,x∈(Zt h).1↔Ob h T x:=g.gt.objs
end
def Z5u{l:List Z0}:∀{i j:Nat},j<=i->(l.getD j X).K≠3->(∀m,j<m->m<=i->(l.getD m X).K=3)->B1 l i=j
 |0,j,h,_,_=>by simp[B1];omega
 |i+1,j,h,hk,hm=>by
  unfold B1;by_cases q:j=i+1
  .subst q;rw[if_neg hk]
  .rw[if_pos (hm (i+1) oq (Lj _))];exact Z5u oq hk λm a h2=>hm m a oq
def Z5n{ws:List Int}{a n:Int}{k:Nat}(hn:0<=n)(b:4096<=a/\a-4096+n<=ws.length)(hk:(k:Int)<n):(BU ws a n).1.getD k X=(Z1 ws (a+k)).1:=by unfold BU Z1;rw[if_neg oq,if_pos b,if_pos oq];simp only[Ld];rw[List.getElem?_take_of_lt oq,List.getElem?_drop,show(a-4096).toNat+k=(a+k-4096).toNat by omega];rfl
section
variable{h:Heap}{T:Nat->List Int}(g:Gd h T)
include g
theorem Gd.inw{i}{x:Int}(a:x∈T i):4096<=x/\x+Zr h.W x<4096+h.W.length:=by have o:=g.on a;have po:=B5 g.p;have u:=Oe g.p o.1 o.2.1;have h0:0<=(i:Int)*h.C.pw:=Lt oq oq;unfold ZN at o;omega
theorem Gd.head{i j:Nat}{x a:Int}(f:x∈T j)(h1:x<=a)(h2:a<=x+Zr h.W x)(hi:i<h.P.length)(c:ZN h i<=a)(h4:a<ZN h i+h.C.pw):B1 h.P i=j:=by
 have o:=g.on f;have po:=B5 g.p;unfold ZN at o c h4;have b:j<=i:=by(by_cases q:j<=i;exact q;have:=ED (i:=i) (j:=j) (pw:=h.C.pw) oq oq;omega)
 refine Z5u b oq λm l m2=>?_;have e:=ED (i:=j) (j:=m) (pw:=h.C.pw) oq oq;have d:(m:Int)*h.C.pw<=i*h.C.pw:=Int.mul_le_mul_of_nonneg_right oq oq;rcases o.2.1 with k|k;have pp:=EL g.p o.1;omega;by_cases q:(h.P.getD m X).K=3;exact q;have:=Db g.p l oq (Lb k) q;omega
theorem Gd.badd{i k:Nat}(hi:i<h.P.length)(hk:(k:Int)<h.C.pw):Hi h i (CB h i) k=M:=by
 have p:=B5 g.p;unfold Hi;have f:Gk h i k=(Z1 h.W (ZN h i+k)).1:=by(unfold Gk address;rw[if_pos p.1,if_pos (HM.2 ⟨by omega,by omega,by omega,by omega⟩)];unfold ZN;simp only;rw[LR])
 rw[f];by_cases c:(Z1 h.W (ZN h i+k)).1=0;rw[c];simp;obtain⟨j,x,a,d,l⟩:=g.d _ c;have hr:=BQ h.W x;have o:kpA h.W x<=Zr h.W x+1:=by unfold kpA;split<;>omega
 have n:=g.head a d oq hi oq oq;have m:(CB h i).getD k X=Y:=by
  unfold CB Co;rw[n,g.page (g.on a).1];have b:k<h.C.pw.toNat:=by omega
  simp only[Ld,LZ,L0 b,Xe,LH,LY];refine⟨x,a, ?_⟩;unfold D8;have e:Gu h x=kpA h.W x:=by(unfold Gu kpA;rw[g.at' a];rw[NX];rfl)
  rw[e,Lu,decide_eq_true_eq,decide_eq_true_eq];unfold ZN at d l;omega
 rw[m];simp
theorem Gd.dirt{i:Nat}(hi:i<h.P.length):Ek h i (CB h i)=0:=by
 have hl:=MK h i;unfold Ek;have:(Ln (CB h i).length).find? (Hi h i (CB h i))=Ls:=by(rw[Lh];intro k a;have a:=Lf.1 a;rw[g.badd hi oq];simp)
 rw[this]
theorem Gd.cls{i}{x:Int}(a:x∈T i):Gh h i x=M:=by
 have o:=g.on a;unfold Gh;rw[g.at' a,NX,Lk];rcases o.2.1 with k|k;have:=(g.t1 i o.1 k).2 x a;rw[k];simp;omega;have t:=g.t2 i o.1 k;have b:=(o.2.2.2.2.2.2 k).1;have:(BZ h.W x).K≠0:=by rw[b];exact t.2.2.2
 rw[k];simp;exact this
theorem Gd.pageF{i:Nat}(hi:i<h.P.length):(pageF h i).fault=0:=by
 have b:=g.sp i hi;have a:Cj h i (T i)=0:=by
  unfold Cj;have:(T i).find? (Gh h i)=Ls:=by(rw[Lh];intro x c;rw[g.cls c];simp)
  rw[this];rfl
 unfold Go.Proofs.YtgedmeaemofdkaaGreat.pageF;rw[if_neg (by rintro⟨d,e⟩;exact e (b d)),g.page hi,if_neg pq,if_neg (by rw[a];simp),if_neg (by rw[g.dirt hi];simp)]
theorem Gd.fields{i}{x:Int}(d:x∈T i)(a:Gl h.W x≠0):Zx h x=(BZ h.W x,0)/\((Cr h x).1.length:Int)=Zr h.W x/\∀k:Nat,(k:Int)<Zr h.W x->(Cr h x).1.getD k X=(Z1 h.W (x+1+k)).1:=by
 have n:=g.inw d;have r:=BQ h.W x;have c:Zx h x=(BZ h.W x,0):=by(unfold Zx;rw[if_pos g.p,if_neg oq,g.at' d,if_neg];rintro⟨_,q⟩;exact a q)
 have b:Cr h x=BU h.W (x+1) (Zr h.W x):=by(unfold Cr;rw[c,if_pos rfl];rfl)
 refine⟨c, ?_, ?_⟩;rw[b];unfold BU;rw[if_neg oq,if_pos oq];simp only[LK,LJ];omega;intro k a;rw[b];exact Z5n r.1 oq a
theorem Gd.good:Bf h=⟨0,0,0⟩:=by
 have n:=g.objs;have o:Gi h=Ls:=by(unfold Gi;rw[Lh];intro i hi;have:=g.pageF (Lf.1 hi);simp[this])
 have p:Ew h (Zt h).1=⟨0,0,0⟩:=by
  unfold Ew;have:(Ln (Zt h).1.length).find? (λi=>(Hq h (Zt h).1 i).isSome)=Ls:=by
   rw[Lh];intro i hi;have l:(Zt h).1.getD i X∈(Zt h).1:=BI.2 ⟨i,Lf.1 hi,rfl⟩;have:Hq h (Zt h).1 i=Ls:=by
    unfold Hq;generalize (Zt h).1.getD i X=x at l⊢;obtain⟨j,d,b⟩:=(n.2 x).1 l;have f:=g.fields d b;rw[Lh];intro k e;have e:=Lf.1 e;have a:(k:Int)<Zr h.W x:=by omega
    unfold IX;rw[f.1,f.2.2 k a];intro c;simp only[Lu,LQ,decide_eq_true_eq,decide_eq_false_iff_not]at c;rcases g.q j x k d b oq a c.1.1 with q|⟨m,r,s⟩;exact c.1.2 q;exact c.2 ((n.2 _).2 ⟨m,r,s⟩)
   rw[this];simp
  rw[this]
 unfold Bf;rw[if_pos g.p,o];simp only[p,ne_eq,not_true_eq_false,if_false];rw[if_neg];have:=g.cr;show¬ h.C.pg/4<(crowd h.P:Int);omega
theorem Gd.refers{s:List Int}(hs:∀r∈s,r=0\/Ob h T r):Bl h s=Y:=by
 unfold Bl;rw[Lu,decide_eq_true_eq];refine⟨g.good, ?_⟩;have:(Ln s.length).find? (HG s (Zt h).1)=Ls:=by(rw[Lh];intro i hi;have a:s.getD i X∈s:=BI.2 ⟨i,Lf.1 hi,rfl⟩;unfold HG;rw[decide_eq_true_eq];rintro⟨b,c⟩;rcases hs _ a with q|q;exact b q;exact c ((g.objs.2 _).2 q))
 rw[this];rfl
end
def decode_encode{hd:ZB}(hv:ZV hd=Y)(d:0<=hd.map/\hd.map<=4294967295):Z6 (Zu hd).1=(hd,Y):=by
 have b:=Gq.1 hv;have a:Zu hd=(1+4*hd.K+16*hd.length+65536*hd.map,0):=by rw[Zu,if_pos hv]
 have c:EI (1+4*hd.K+16*hd.length+65536*hd.map)=hd:=by(obtain⟨k,l,m⟩:=hd;simp only at b d;simp only[EI,ZB.mk.injEq];omega)
 rw[a];unfold Z6;simp only[c,a];simp
def MF(h:Heap)(T:Nat->List Int)(l:List Int):Prop:=∀r∈l,r=0\/Ob h T r
def OG{w}{n:Int}(hw:Ba w)(hn:1<=n/\n<=w.j.C.pw)(h:(w.place n).2.2=Y) :∃(i:Nat) (p:Z0) (t:List Int),i<w.j.P.length/\((w.j.P.getD i X).K=0/\t=w.T++[(i:Int)]/\p.N=0\/(i:Int)∈w.T/\(w.j.P.getD i X).K=1/\t=w.T/\p.N=(w.j.P.getD i X).N)/\p.K=1/\p.U=Cg (w.j.P.getD i X)+n/\Cg (w.j.P.getD i X)+n<=w.j.C.pw/\0<=Cg (w.j.P.getD i X)/\(w.place n).2.1=4096+i*w.j.C.pw+Cg (w.j.P.getD i X) /\
  (w.place n).1=⟨⟨w.j.C,w.j.W,w.j.P.set i p,w.j.S,w.j.B⟩,w.old,t,w.Q,w.D,w.rep⟩:=by
 by_cases hf:E6 w n;have e:w.place n=(⟨⟨w.j.C,w.j.W,Cv w.j.P (ZG w).toNat n,w.j.S,w.j.B⟩,w.old,w.T,w.Q,w.D,w.rep⟩,4096+ZG w*w.j.C.pw+(w.j.P.getD (ZG w).toNat X).U,Y):=by rw[Z7.place,if_pos hf]
 unfold E6 at hf;have hm:=hw.tk _ (GT hf.1);have hu:=hw.us (ZG w).toNat oq;have hoc:Cg (w.j.P.getD (ZG w).toNat X)=(w.j.P.getD (ZG w).toNat X).U:=by rw[Cg,if_neg oq]
 have hle:(((ZG w).toNat:Nat):Int)=ZG w:=by omega
 refine⟨(ZG w).toNat,⟨(w.j.P.getD (ZG w).toNat X).K,(w.j.P.getD (ZG w).toNat X).S,(w.j.P.getD (ZG w).toNat X).U+n,(w.j.P.getD (ZG w).toNat X).N⟩,w.T,by omega,Lb ⟨by rw[hle];exact GT hf.1,hm.2.2,rfl,rfl⟩,hm.2.2, ?_,by rw[hoc];omega,by rw[hoc];omega, ?_, ?_⟩;rw[hoc];rw[e,hoc,hle];rw[e,M0];by_cases hg:0<=ZP w;have e:w.place n=(⟨⟨w.j.C,w.j.W,Cv (ES w) (ZP w).toNat n,w.j.S,w.j.B⟩,w.old,w.T++[ZP w],w.Q,w.D,w.rep⟩,4096+ZP w*w.j.C.pw,Y):=by rw[Z7.place,if_neg hf,if_pos hg]
 obtain⟨g1,g2,g3⟩:=T9 (h:=⟨w.j.C,w.j.W,w.j.P,1-w.j.S,w.j.B⟩) (by have:=hw.sp;simp only;omega) hg n;have g1':Cv (ES w) (ZP w).toNat n=w.j.P.set (ZP w).toNat ⟨1,1-w.j.S,n,0⟩:=g1;have g2':(w.j.P.getD (ZP w).toNat X).K=0:=g2;have g3':(ZP w).toNat<w.j.P.length:=g3;have hoc:Cg (w.j.P.getD (ZP w).toNat X)=0:=by rw[Cg,if_pos g2']
 have hle:(((ZP w).toNat:Nat):Int)=ZP w:=by omega
 refine⟨(ZP w).toNat,⟨1,1-w.j.S,n,0⟩,w.T++[ZP w],g3',La ⟨g2',by rw[hle],rfl⟩,rfl,by rw[hoc];simp,by rw[hoc];omega,by rw[hoc];omega, ?_, ?_⟩;rw[e,hoc,hle];simp;rw[e,g1'];rw[Z7.place,if_neg hf,if_neg hg]at h;simp at h
structure KI (h:Heap) (T tq:Nat->List Int) (w:Z7):Prop where
 c:w.j.C=h.C
 sp:w.j.S=h.S
 old:∀x,x∈w.old↔Ob h T x
 pl:w.j.P.length=h.P.length
 wl:w.j.W.length=h.W.length
 pg:∀i:Nat,(i:Int)∉w.T->(w.j.P.getD i X).K=(h.P.getD i X).K/\(w.j.P.getD i X).U=(h.P.getD i X).U/\(w.j.P.getD i X).N=(h.P.getD i X).N
 tk:∀i:Nat,(i:Int)∈w.T->i<h.P.length/\(h.P.getD i X).K=0/\(w.j.P.getD i X).K=1/\(w.j.P.getD i X).N=0/\(w.j.P.getD i X).U<=h.C.pw/\G1 w.j.W (ZN h i) (ZN h i+(w.j.P.getD i X).U) (tq i)/\∀x∈tq i,x∈w.Q/\Gl w.j.W x≠0/\Zr w.j.W x+1<=Zc h.C
 tk0:∀i:Nat,(i:Int)∉w.T->tq i=[]
 q:∀x∈w.Q,(∃i:Nat,(i:Int)∉w.T/\x∈T i/\Gl h.W x≠0/\(w.j.P.getD i X).S≠w.j.S)\/(∃i:Nat,(i:Int)∈w.T/\x∈tq i)
 hd:∀i x,x∈T i->(Z1 w.j.W x).1=(Z1 h.W x).1\/((ZF (Z1 w.j.W x).1).2=Y/\(w.j.P.getD i X).K=1/\(w.j.P.getD i X).S=w.j.S)
 dt:∀a,(Z1 w.j.W a).1≠0->(∃i x,x∈T i/\x<=a/\a<x+kpA h.W x)\/(∃i:Nat,(i:Int)∈w.T/\ZN h i<=a/\a<ZN h i+(w.j.P.getD i X).U)
 lg:∀i:Nat,(h.P.getD i X).K=2->(w.j.P.getD i X).S≠w.j.S->ZN h i∈w.Q
section
variable{h:Heap}{T:Nat->List Int}(g:Gd h T)
include g
theorem KI.nt{b w}(k:KI h T b w){i}{x:Int}(a:x∈T i):(i:Int)∉w.T:=by intro q;have:=(k.tk i q).2.1;have:=(g.t0 i x a).2;omega
theorem KI.sepT{a w}(k:KI h T a w){i j:Nat}{x y:Int}(hi:(i:Int)∈w.T)(b:x∈a i)(c:y∈T j):ZN h i<=x/\x+Zr w.j.W x<ZN h i+h.C.pw/\(y+Zr h.W y<ZN h i\/ZN h i+h.C.pw<=y):=by have t:=k.tk i hi;have m:=HT t.2.2.2.2.2.1 b;have f:=g.free t.1 (La t.2.1) c;rw[Cg,if_pos t.2.1]at f;exact⟨m.2.1,by omega,by omega⟩
omit g in
theorem KI.sepQ(g:Gd h T){b w}(k:KI h T b w){i j:Nat}{x y:Int}(hi:(i:Int)∈w.T)(c:x∈b i)(e:(j:Int)∈w.T)(d:y∈b j)(a:x<y):x+Zr w.j.W x<y:=by have t:=k.tk i hi;have u:=k.tk j e;have m:=HT t.2.2.2.2.2.1 c;have n:=HT u.2.2.2.2.2.1 d;have po:=B5 g.p;have r:=BQ w.j.W y;unfold ZN at m n;rcases LG i j with q|q|q;have:=ED (i:=i) (j:=j) (pw:=h.C.pw) oq oq;omega;subst q;exact Z33 t.2.2.2.2.2.1 c d a;have:=ED (i:=j) (j:=i) (pw:=h.C.pw) oq oq;omega
theorem KI.withWords{d w}(k:KI h T d w){l:List Int}(hl:l.length=w.j.W.length)(f:∀i x,x∈T i->(Z1 l x).1=(Z1 w.j.W x).1)(j:∀(i:Nat) x,(i:Int)∈w.T->x∈d i->(Z1 l x).1=(Z1 w.j.W x).1)(m:∀a,(Z1 l a).1≠0->(Z1 w.j.W a).1≠0\/(∃i x,x∈T i/\x<=a/\a<x+kpA h.W x)\/(∃i:Nat,(i:Int)∈w.T/\ZN h i<=a/\a<ZN h i+(w.j.P.getD i X).U)) :KI h T d ⟨⟨w.j.C,l,w.j.P,w.j.S,w.j.B⟩,w.old,w.T,w.Q,w.D,w.rep⟩:=by refine⟨k.c,k.sp,k.old,k.pl,hl.trans k.wl,k.pg, ?_,k.tk0,k.q, ?_, ?_,k.lg⟩;intro i hi;obtain⟨t1,t2,o,p,r,e,s⟩:=k.tk i hi;have c:=λx b=>Hb (j i x hi b);refine⟨t1,t2,o,p,r,Tm e λx b=>⟨(c x b).1 (HT e b).1,(c x b).2.1⟩,λx b=>?_⟩;have:=s x b;simp only;rw[(c x b).2.2.1,(c x b).2.1];exact this;intro i x b;simp only;rw[f i x b];exact k.hd i x b;intro a n;rcases m a n with q|q;exact k.dt a q;exact q
theorem KI.keep{c w}(k:KI h T c w){r:Int}{i}(hi:r∈T i)(l:Gl h.W r≠0)(hs:(w.j.P.getD i X).S≠w.j.S):KI h T c (w.keep r):=by refine⟨k.c,k.sp,k.old,k.pl,k.wl,k.pg, ?_,k.tk0, ?_,k.hd,k.dt, ?_⟩;intro j f;obtain⟨t1,t2,m,n,o,p,b⟩:=k.tk j f;exact⟨t1,t2,m,n,o,p,λx a=>⟨Le _ (b x a).1,(b x a).2⟩⟩;intro x a;simp only[Z7.keep,Li,Lm]at a;rcases a with a|rfl;exact k.q x a;exact La ⟨i,k.nt g hi,hi,l,hs⟩;intro j d e;exact Le _ (k.lg j d e)
theorem KI.flip{tq w}(k:KI h T tq w)(hw:Ba w){r:Int}{i}(hi:r∈T i)(hk:Gl h.W r≠0)(h2:(w.j.P.getD i X).K=2):KI h T tq ((w.flip i).keep r):=by
 have hil:=(g.t0 i r hi).1;have hpl:=k.pl;have hsp:=hw.sp;have hu:∀j,((ZH w.j.P i (ZA w.j.P i) (1-w.j.S)).getD j X).K=(w.j.P.getD j X).K/\((ZH w.j.P i (ZA w.j.P i) (1-w.j.S)).getD j X).U=(w.j.P.getD j X).U/\((ZH w.j.P i (ZA w.j.P i) (1-w.j.S)).getD j X).N=(w.j.P.getD j X).N:=by(intro j;by_cases hj:j<w.j.P.length;rw[Ht hj];split;exact⟨rfl,rfl,rfl⟩;exact⟨rfl,rfl,rfl⟩;rw[Ld,Ld,Ll (by rw[GY];omega),Ll oq];exact⟨rfl,rfl,rfl⟩)
 have hs1:∀j,(w.j.P.getD j X).K=1->((ZH w.j.P i (ZA w.j.P i) (1-w.j.S)).getD j X).S=(w.j.P.getD j X).S:=by(intro j hj;by_cases hjl:j<w.j.P.length;rw[Ht hjl];split;rename_i c;exfalso;by_cases q:j=i;subst q;omega;have:=(Rw (l:=w.j.P) (i:=i) (m:=j-i-1) oq).2;rw[show i+1+(j-i-1)=j by omega]at this;omega;rfl;rw[Ld,Ld,Ll (by rw[GY];omega),Ll oq])
 have hs2:∀j,(w.j.P.getD j X).S≠w.j.S->((ZH w.j.P i (ZA w.j.P i) (1-w.j.S)).getD j X).S≠w.j.S:=by(intro j hj;by_cases hjl:j<w.j.P.length;rw[Ht hjl];split;simp only[Nc];omega;exact hj;rw[Ld,Ll (by rw[GY];omega)];rw[Ld,Ll oq]at hj;exact hj)
 have hs3:∀j,(w.j.P.getD j X).K=2->j≠i->((ZH w.j.P i (ZA w.j.P i) (1-w.j.S)).getD j X).S=(w.j.P.getD j X).S:=by(intro j hj hne;by_cases hjl:j<w.j.P.length;rw[Ht hjl];split;rename_i c;exfalso;have:=(Rw (l:=w.j.P) (i:=i) (m:=j-i-1) oq).2;rw[show i+1+(j-i-1)=j by omega]at this;omega;rfl;rw[Ld,Ll oq]at hj;have d:(X:Z0).K=0:=rfl;simp only[LO]at hj;omega)
 have hsi:((ZH w.j.P i (ZA w.j.P i) (1-w.j.S)).getD i X).S≠w.j.S:=by(rw[Ht oq,if_pos ⟨Lj _,Xa _ _⟩];simp only[Nc];omega)
 have kf:KI h T tq ⟨⟨w.j.C,w.j.W,ZH w.j.P i (ZA w.j.P i) (1-w.j.S),w.j.S,w.j.B⟩,w.old,w.T,w.Q++[r],w.D,w.rep⟩:=by
  refine⟨k.c,k.sp,k.old,by simp only[GY];exact k.pl,k.wl, ?_, ?_,k.tk0, ?_, ?_, ?_, ?_⟩;intro j hj;simp only[hu];exact k.pg j hj;intro j hj;simp only[hu];obtain⟨t1,t2,t3,t4,t5,t6,t7⟩:=k.tk j hj;exact⟨t1,t2,t3,t4,t5,t6,λx hx=>⟨Le _ (t7 x hx).1,(t7 x hx).2⟩⟩;intro x hx;simp only[Li,Lm]at hx;rcases hx with hx|rfl;rcases k.q x hx with⟨j,j1,j2,j3,j4⟩|q;exact La ⟨j,j1,j2,j3,hs2 j j4⟩;exact Lb q;exact La ⟨i,k.nt g hi,hi,hk,hsi⟩;intro j x hx;rcases k.hd j x hx with q|q;exact La q;refine Lb ⟨q.1, ?_, ?_⟩;simp only[hu];exact q.2.1;simp only;rw[hs1 j q.2.1];exact q.2.2;intro a ha;simp only[hu];exact k.dt a ha;intro j h1 h2';simp only at h2'⊢;by_cases q:j=i;subst q;have:=(g.on hi).2.2.2.2.2.2 h1;rw[<-this.1];simp;have hjt:(j:Int)∉w.T:=λq=>by have:=(k.tk j q).2.1;omega
  rw[hs3 j (by rw[(k.pg j hjt).1];exact h1) q]at h2';exact Le _ (k.lg j h1 h2')
 exact⟨kf.c,kf.sp,kf.old,kf.pl,kf.wl,kf.pg,kf.tk,kf.tk0,kf.q,kf.hd,kf.dt,kf.lg⟩
end
section
variable{h:Heap}{T:Nat->List Int}(g:Gd h T)
include g
theorem KI.copy{tq w}(k:KI h T tq w)(hw:Ba w){r n:Int}{i0}(hr:r∈T i0)(hkd:Gl h.W r≠0)(h1:(h.P.getD i0 X).K=1)(hs:(w.j.P.getD i0 X).S=w.j.S)(he:(Z1 w.j.W r).1=(Z1 h.W r).1)(hn:n=Zr w.j.W r+1)(hp:n<=w.j.C.pw)(hc:(w.place n).2.2=Y):∃tq',KI h T tq' ((w.place n).1.copy r (w.place n).2.1 n):=by
 have hlr:=BQ w.j.W r;have ey:=Hb he;obtain⟨i,p,t,p1,p2,p3,p4,p5,p6,p7,e⟩:=OG hw ⟨by omega,hp⟩ hc;have hcc:=k.c;have hpl:=k.pl;have hwl:=k.wl;have po:=B5 g.p;have hin:=g.inw hr;have hki:(h.P.getD i X).K=0:=by(rcases p2 with q|q;by_cases c:(i:Int)∈w.T;exact(k.tk i c).2.1;rw[<-(k.pg i c).1];exact q.1;exact(k.tk i q.1).2.1)
 have hio:=ED (i:=i) (j:=h.C.pg) (pw:=h.C.pw) oq oq;rw[Lx h.C.pg]at hio;have hi0:0<=(i:Int)*h.C.pw:=Lt oq oq;rw[hcc]at p5 p7 hp;have hbp:4096+(i:Int)*h.C.pw=ZN h i:=rfl;rw[e,p7,hbp];generalize hu:Cg (w.j.P.getD i X)=u at *;generalize ha:ZN h i+u=a;have hbl:4096<=a/\a+n<=4096+w.j.W.length:=by omega
 have far:∀j x,x∈T j->x+Zr h.W x<ZN h i\/ZN h i+h.C.pw<=x:=by(intro j x hx;have:=g.free (show i<h.P.length by omega) (La hki) hx;rw[Cg,if_pos hki]at this;omega)
 have farr:=far i0 r hr;obtain⟨m1,m2,m3⟩:=Sl (ws:=w.j.W) (a:=a) (b:=r) (n:=n) oq oq oq;have hsr:4096<=r/\r<4096+(moveA w.j.W a r n).1.length:=by omega
 have w1:∀x,x≠r->(x<a\/a+n<=x)->Z1 (BY (moveA w.j.W a r n).1 r (4*a+2)).1 x=Z1 w.j.W x:=λx q1 q2=>by rw[GJ hsr q1,m3 x q2]
 have w2:(Z1 (BY (moveA w.j.W a r n).1 r (4*a+2)).1 r).1=4*a+2:=by rw[Ab hsr]
 have w3:(Z1 (BY (moveA w.j.W a r n).1 r (4*a+2)).1 a).1=(Z1 w.j.W r).1:=by rw[GJ hsr oq,m2]
 have hlen:(BY (moveA w.j.W a r n).1 r (4*a+2)).1.length=w.j.W.length:=by rw[DU hsr,m1]
 have hit:(i:Int)∈t:=by rcases p2 with q|q;(rw[q.2.1];simp);(rw[q.2.2.1];exact q.1)
 have htt:∀x,x∈t↔x∈w.T\/x=(i:Int):=by(intro x;rcases p2 with q|q;rw[q.2.1];simp;rw[q.2.2.1];exact⟨La,λc=>c.elim id λc=>c▸q.1⟩)
 have w4:∀(j:Nat) x,(j:Int)∈w.T->x∈tq j->x≠r/\(x<a\/a+n<=x)/\(j=i->x+Zr w.j.W x<a):=by
  intro j x hj hx;have s:=k.sepT g hj hx hr;have rx:=BQ w.j.W x;have t:=k.tk j hj;have m:=HT t.2.2.2.2.2.1 hx;refine⟨by omega, ?_⟩;rcases LG j i with q|q|q;have:=ED (i:=j) (j:=i) (pw:=h.C.pw) oq oq;unfold ZN at s;rw[<-hbp]at ha;exact⟨La oq,λq2=>by omega⟩;subst q;have:u=(w.j.P.getD j X).U:=by rw[<-hu,Cg,if_neg oq]
  exact⟨La oq,λ_=>by omega⟩;have:=ED (i:=i) (j:=j) (pw:=h.C.pw) oq oq;unfold ZN at s;rw[<-hbp]at ha;exact⟨Lb oq,λq2=>by omega⟩
 have kq:∀(j:Nat) x,(j:Int)∈w.T->x∈tq j->(Z1 (BY (moveA w.j.W a r n).1 r (4*a+2)).1 x).1=(Z1 w.j.W x).1:=λj x hj hx=>by(have:=w4 j x hj hx;rw[w1 x this.1 this.2.1])
 refine⟨λj=>if j=i then tq i++[a]else tq j,k.c,k.sp,k.old, ?_, ?_, ?_, ?_, ?_, ?_, ?_, ?_, ?_⟩;simp only[Z7.copy,LF];exact k.pl;simp only[Z7.copy,hlen];exact k.wl;intro j hj;simp only[Z7.copy]at hj⊢;have hj':=λq=>hj ((htt _).2 (La q));have hne:¬ i=j:=λq=>hj (q▸hit);rw[CV p1,if_neg hne];exact k.pg j hj';intro j hj;simp only[Z7.copy]at hj⊢;rw[CV p1];by_cases q:i=j;subst q;rw[if_pos rfl];simp only[if_true];have ka:=Hb (ws:=w.j.W) (ws':=(BY (moveA w.j.W a r n).1 r (4*a+2)).1) (a:=a);have ke:BZ (BY (moveA w.j.W a r n).1 r (4*a+2)).1 a=BZ h.W r:=by rw[BZ,BZ,w3,he]
 have kl:Zr (BY (moveA w.j.W a r n).1 r (4*a+2)).1 a=n-1:=by
  have:Zr (BY (moveA w.j.W a r n).1 r (4*a+2)).1 a=Zr w.j.W r:=by rw[Zr,Zr,w3]
  omega
 have kk:okA (BY (moveA w.j.W a r n).1 r (4*a+2)).1 a:=by(have:=(g.on hr).2.2.2.2.2.1;rw[okA]at this⊢;rw[w3,he];exact this)
 refine⟨by omega,hki,p3, ?_,by omega, ?_, ?_⟩;rcases p2 with q|q;exact q.2.2;rw[q.2.2.2];exact(k.tk i q.1).2.2.2.1;refine Z8J (b:=a) ?_ ⟨rfl,kk,by rw[kl];simp only[G1];omega⟩;by_cases c:(i:Int)∈w.T;have t:=k.tk i c;have hue:u=(w.j.P.getD i X).U:=by rw[<-hu,Cg,if_neg oq]
 have t6:=t.2.2.2.2.2.1;rw[<-hue,ha]at t6;exact Tm t6 λx hx=>⟨(Hb (kq i x c hx)).1 (HT t6 hx).1,(Hb (kq i x c hx)).2.1⟩;rw[k.tk0 i c];have hue:u=0:=by(rcases p2 with q|q;rw[<-hu,Cg,if_pos q.1];exact absurd q.1 c)
 simp only[G1];omega;intro x hx;rcases Li.1 hx with hx|hx;by_cases c:(i:Int)∈w.T;have t:=(k.tk i c).2.2.2.2.2.2 x hx;have o:=Hb (kq i x c hx);rw[o.2.2.1,o.2.1];exact⟨Le _ t.1,t.2⟩;rw[k.tk0 i c]at hx;simp at hx;have:=Lm.1 hx;subst this;refine⟨by simp,by rw[Gl,ke];exact hkd, ?_⟩;have:=(g.t1 i0 (g.t0 i0 r hr).1 h1).2 r hr;rw[kl];have:=ey.2.1;omega;rw[if_neg q];have hj':(j:Int)∈w.T:=by(rcases(htt _).1 hj with c|c;exact c;omega)
 obtain⟨t1,t2,t3,t4,t5,t6,t7⟩:=k.tk j hj';simp only[show¬ j=i fromλc=>q c.symm,if_false];refine⟨t1,t2,t3,t4,t5,Tm t6 λx hx=>⟨(Hb (kq j x hj' hx)).1 (HT t6 hx).1,(Hb (kq j x hj' hx)).2.1⟩,λx hx=>?_⟩;have o:=Hb (kq j x hj' hx);rw[o.2.2.1,o.2.1];exact⟨Le _ (t7 x hx).1,(t7 x hx).2⟩;intro j hj;simp only[Z7.copy]at hj;have hne:¬ j=i:=λq=>hj (q▸hit);simp only[hne,if_false];exact k.tk0 j λq=>hj ((htt _).2 (La q));intro x hx;simp only[Z7.copy,Li,Lm]at hx⊢;rcases hx with hx|rfl;rcases k.q x hx with⟨j,j1,j2,j3,j4⟩|⟨j,j1,j2⟩;have hne:¬ i=j:=by(rintro rfl;have:=(g.t0 i x j2).2;omega)
 refine La ⟨j,λc=>?_,j2,j3,by rw[CV p1,if_neg hne];exact j4⟩;rcases(htt _).1 c with c|c;exact j1 c;omega;refine Lb ⟨j,(htt _).2 (La j1), ?_⟩;split;rename_i q;subst q;exact Le _ j2;exact j2;exact Lb ⟨i,hit,by simp⟩;intro j x hx;simp only[Z7.copy];have hne:¬ i=j:=by(rintro rfl;have:=(g.t0 i x hx).2;omega)
 rw[CV p1,if_neg hne];by_cases q:x=r;subst q;refine Lb ⟨by rw[w2,O8 oq oq], ?_, ?_⟩;have e1:=g.ofx hx;have e2:=g.ofx hr;rw[e1]at e2;have:j=i0:=by simp only[Prod.mk.injEq]at e2;omega
 subst this;rw[(k.pg j (k.nt g hx)).1];exact h1;have e1:=g.ofx hx;have e2:=g.ofx hr;rw[e1]at e2;have:j=i0:=by simp only[Prod.mk.injEq]at e2;omega
 subst this;exact hs;have f:=far j x hx;have rx:=BQ h.W x;rw[w1 x q oq];exact k.hd j x hx;intro b hb;simp only[Z7.copy]at hb⊢;by_cases q:a<=b/\b<a+n;exact Lb ⟨i,hit,by omega,by rw[CV p1,if_pos rfl];omega⟩;by_cases q2:b=r;refine La ⟨i0,r,hr,by omega, ?_⟩;rw[kpA,if_neg hkd];have:=BQ h.W r;omega;rw[w1 b q2 oq]at hb;rcases k.dt b hb with c|⟨j,j1,j2,j3⟩;exact La c;refine Lb ⟨j,(htt _).2 (La j1),j2, ?_⟩;rw[CV p1];split;rename_i c;subst c;have:=(k.tk i j1).2.2.1;have:u=(w.j.P.getD i X).U:=by rw[<-hu,Cg,if_neg oq]
 omega;exact j3;intro j h2 hsj;simp only[Z7.copy]at hsj⊢;have hne:¬ i=j:=by rintro rfl;omega
 rw[CV p1,if_neg hne]at hsj;exact Le _ (k.lg j h2 hsj)
theorem KI.fwd{n w}(k:KI h T n w)(t:Ba w)(hi:Bw w) r(e:(w.fwd r).2.2=0):∃p,KI h T p (w.fwd r).1:=by
 unfold Z7.fwd at e⊢;split at e;rename_i c1;rw[if_pos c1];exact⟨n,k⟩;rename_i c1;rw[if_neg c1];split at e;simp at e;rename_i c2;rw[if_neg c2];have l:r∈w.old:=Lo.1 c2;obtain⟨a,d,i⟩:=(k.old r).1 l;have b:Z3 w.j.C r=((a:Int),r-ZN h a,0):=by rw[k.c];exact g.ofx d
 have u:=k.nt g d;have a1:=k.pg a u;have x:=(g.t0 a r d).1;have y:=(g.t0 a r d).2;have a0:=k.pl;split at e;rename_i c3;rw[if_pos c3];exact⟨n,k⟩;rename_i c3;rw[if_neg c3];split at e;simp at e;rename_i c4;rw[if_neg c4];split at e;rename_i c;rw[if_pos c];simp only[ZJ,decide_eq_true_eq]at c;rw[b]at c;simp only[Lk]at c;exact⟨n,k.keep g d i c.2.2.2.1⟩;rename_i c;rw[if_neg c];have m:Ct w r=a:=by rw[Ct,b];simp
 split at e;rename_i f;rw[if_pos f];rw[m]at f⊢;exact⟨n,k.flip g t d i f⟩;rename_i f;rw[if_neg f];split at e;simp at e;rename_i s;rw[if_neg s];have o:(w.place (Z5 (Zv w r))).2.2=Y:=by simpa using s
 rw[m]at f;have k1:(h.P.getD a X).K=1:=by omega
 have hs:(w.j.P.getD a X).S=w.j.S:=by(by_cases q:(w.j.P.getD a X).S=w.j.S;exact q;exfalso;apply c;simp only[ZJ,decide_eq_true_eq];rw[b];simp only[Lk];exact⟨by omega,by omega,by omega,q,u⟩)
 have v:(Z1 w.j.W r).1=(Z1 h.W r).1:=by(rcases k.hd a r d with q|q;exact q;exact absurd q.1 c3)
 have j:=hi.z r l;have z:Z5 (Zv w r)<=w.j.C.pw:=by(rw[GA];rw[b]at j;simp only[Lk]at j;rcases j with j|j;exact absurd j f;exact j)
 exact k.copy g t d i k1 hs v (GA w r) z o
theorem KI.field{tq w}(k:KI h T tq w){q j:Int}(hq:q∈w.Q)(hj:0<=j/\j<Zr w.j.W q) :(∀i x,x∈T i->x≠q+1+j)/\(∀(i:Nat) x,(i:Int)∈w.T->x∈tq i->x≠q+1+j)/\((∃i x,x∈T i/\x<=q+1+j/\q+1+j<x+kpA h.W x)\/(∃i:Nat,(i:Int)∈w.T/\ZN h i<=q+1+j/\q+1+j<ZN h i+(w.j.P.getD i X).U)):=by
 rcases k.q q hq with⟨i,i1,i2,i3,i4⟩|⟨i,i1,i2⟩;have he:(Z1 w.j.W q).1=(Z1 h.W q).1:=by(rcases k.hd i q i2 with c|c;exact c;exact absurd c.2.2 i4)
 have o:=Hb he;rw[o.2.1]at hj;refine⟨λm x hx c=>?_,λm x hm hx c=>?_,La ⟨i,q,i2,by omega,by rw[kpA,if_neg i3];omega⟩⟩;have:=g.sep i2 hx oq;omega;have:=k.sepT g hm hx i2;have:=BQ w.j.W x;omega;have t:=k.tk i i1;have m:=HT t.2.2.2.2.2.1 i2;refine⟨λm x hx c=>?_,λm x hm hx c=>?_,Lb ⟨i,i1,by omega,by omega⟩⟩;have:=k.sepT g i1 i2 hx;have:=BQ h.W x;omega;have:=k.sepQ g i1 i2 hm hx oq;omega
theorem KI.in1{z w}(k:KI h T z w)(o:Ba w)(hi:Bw w){q j:Int}(n:q∈w.Q)(hj:0<=j/\j<Zr w.j.W q)(e:(w.fwd (Z1 w.j.W (q+1+j)).1).2.2=0):∃d,KI h T d (w.in1 (q+1+j)):=by
 obtain⟨d,p⟩:=k.fwd g o hi _ e;obtain⟨y,r⟩:=RQ o hi _ e;have f:=r.q q n;have u:=r.l q n;have hr:=y.r q (Lw _ f);have b:4096<=q+1+j/\q+1+j<4096+(w.fwd (Z1 w.j.W (q+1+j)).1).1.j.W.length:=by omega
 obtain⟨s,t,f3⟩:=p.field g f (j:=j) oq;refine⟨d,p.withWords g (DU b) (λi x l=>?_) (λi x v l=>?_) (λa m=>?_)⟩;rw[GJ b (s i x l)];rw[GJ b (t i x v l)];by_cases c:a=q+1+j;subst c;exact Lb f3;rw[GJ b c]at m;exact La m
theorem KI.begin:KI h T (λ_=>[]) (Zs h):=by
 have hq:∀j,((h.P.map (Zo (1-h.S))).getD j X).K=(h.P.getD j X).K/\((h.P.map (Zo (1-h.S))).getD j X).U=(h.P.getD j X).U/\((h.P.map (Zo (1-h.S))).getD j X).N=(h.P.getD j X).N/\((h.P.getD j X).K=2->((h.P.map (Zo (1-h.S))).getD j X).S=(h.P.getD j X).S):=by
  intro j;by_cases hj:j<h.P.length;have:(h.P.map (Zo (1-h.S))).getD j X=Zo (1-h.S) (h.P.getD j X):=by simp[Ld,hj]
  rw[this,Zo];split;rename_i c;exact⟨rfl,rfl,rfl,λq=>by omega⟩;exact⟨rfl,rfl,rfl,λ_=>rfl⟩;rw[Ld,Ld,Ll qo,Ll oq];exact⟨rfl,rfl,rfl,λ_=>rfl⟩
 refine⟨rfl,rfl,g.objs.2,by simp[Zs],rfl,λi _=>⟨(hq i).1,(hq i).2.1,(hq i).2.2.1⟩,by simp[Zs],λ_ _=>rfl,by simp[Zs],λ_ _ _=>La rfl,λa ha=>La (g.d a ha), ?_⟩;intro i h2 hs;exfalso;simp only[Zs]at hs;rw[(hq i).2.2.2 h2]at hs;by_cases hi:i<h.P.length;exact hs (g.sp i hi oq);rw[Ld,Ll oq]at h2;have d:(X:Z0).K=0:=rfl;simp only[LO]at h2;omega
theorem Zby{s}(a:Zy h.W)(e:(rootsF (Zs h) s).2.2=0)(c:(Bh (rootsF (Zs h) s).1).2=0):∃b,KI h T b (Bc h s):=
 ON (λw=>∃b,KI h T b w) (λw r a hi ⟨_,k⟩ e=>k.fwd g a hi r e) (λw q j a hi ⟨_,k⟩ hq d f e=>k.in1 g a hi hq ⟨d,f⟩ e) (λw n ⟨b,k⟩=>⟨b,k.c,k.sp,k.old,k.pl,k.wl,k.pg,k.tk,k.tk0,k.q,k.hd,k.dt,k.lg⟩) a g.p ⟨_,KI.begin g⟩ e c
end
def Z9g{h:Heap}(a:Z8 h=Y){i:Nat}(hi:i<h.P.length){o:Int}(h0:0<=o)(hu:o<(h.P.getD i X).U)(hk:(h.P.getD i X).K=1\/(h.P.getD i X).K=2/\o=0)(e:(Z9 h (B8 h i o)).2=0):B8 h i o=ZN h i+o/\okA h.W (ZN h i+o)/\(Z9 h (B8 h i o)).1=BZ h.W (ZN h i+o)/\((h.P.getD i X).K=1->o+Zr h.W (ZN h i+o)+1<=(h.P.getD i X).U)/\((h.P.getD i X).K=2->Zr h.W (ZN h i+o)+1=(h.P.getD i X).U):=by
 have b:=B5 a;have pp:=EL a hi;have ht:=BF.1 b.1;have ho:o<h.C.pw:=by omega
 have f:B8 h i o=ZN h i+o:=by(unfold B8 address;rw[if_pos b.1,if_pos (HM.2 ⟨by omega,by omega,by omega,by omega⟩)];unfold ZN;simp only;omega)
 rw[f]at e⊢;have d:=Da (c:=h.C) (i:=i) (o:=o) b.1 oq oq;rw[show 4096+((i:Int)*h.C.pw+o)=ZN h i+o by unfold ZN;omega]at d;unfold Z9 at e⊢;rw[if_pos a,d]at e⊢;simp only[Lk,if_true]at e⊢;by_cases q:((h.P.getD i X).K=1\/(h.P.getD i X).K=2)/\o<(h.P.getD i X).U/\(Z6 (Z1 h.W (ZN h i+o)).1).2=Y;rw[if_pos q]at e⊢;have s:Z5 (Z6 (Z1 h.W (ZN h i+o)).1).1=Zr h.W (ZN h i+o)+1:=NX h.W _;split at e;simp at e;rename_i g;rw[if_neg g];refine⟨trivial,q.2.2,rfl, ?_, ?_⟩<;>omega;rw[if_neg q]at e;simp at e
def Z47{h:Heap}(c:Z8 h=Y){i:Nat}(hi:i<h.P.length)(a:(h.P.getD i X).K=1):∀(f:Nat) (o:Int) (l:List Int),Ej h i f o=Lg l->0<=o->o<=(h.P.getD i X).U->(h.P.getD i X).U-o<=f->G1 h.W (ZN h i+o) (ZN h i+(h.P.getD i X).U) l
 |0,o,l,e,h0,h1,hf=>by
  cases e;simp only[G1];omega
 |f+1,o,l,e,h0,h1,hf=>by
  have b:pg h (i:Int)=h.P.getD i X:=by simp[pg]
  unfold Ej at e;rw[b]at e;split at e
  .rename_i g;split at e
   .rename_i d;rw[if_neg oq]at e;obtain⟨t1,t2,k,m,_⟩:=Z9g c hi h0 g (La a) d;simp only[Option.map_eq_some_iff]at e;obtain⟨j,e,rfl⟩:=e;have r:=BQ h.W (ZN h i+o);rw[k,NX]at e;have:=Z47 c hi a f _ j e oq (by have:=m a;omega) oq;refine⟨t1,by rw[t1]at *;exact t2, ?_⟩;rw[show ZN h i+o+Zr h.W (ZN h i+o)+1=ZN h i+(o+(Zr h.W (ZN h i+o)+1)) by omega];exact this
   .cases e
  .cases e;simp only[G1];omega
def Z4k{h:Heap}(p:Bf h=⟨0,0,0⟩):Gd h (λi:Nat=>(Ze h (i:Int)).1):=by
 have s:Z8 h=Y:=by(by_cases q:Z8 h=Y;exact q;rw[Bf,if_neg q]at p;cases p)
 have po:=B5 s;have ht:=BF.1 po.1;rw[Bf,if_pos s]at p;have a4:∀i,i<h.P.length->(pageF h i).fault=0:=by
  intro i hi;cases hb:Gi h with|some j =>rw[hb]at p;simp only at p;have:=List.find?_some hb;rw[p]at this;simp at this|none =>have:=Lh.1 hb i (Lf.2 hi);simpa using this
 have a0:Gi h=Ls:=by(unfold Gi;rw[Lh];intro i hi;simp[a4 i (Lf.1 hi)])
 rw[a0]at p;simp only at p;have v:∀i,i<h.P.length->((h.P.getD i X).K≠0->(h.P.getD i X).S=h.S)/\(Ze h (i:Int)).2=0/\Cj h (i:Int) (Ze h (i:Int)).1=0/\Ek h i (CB h i)=0:=by(intro i hi;have q:=a4 i hi;unfold pageF at q;split at q;simp at q;rename_i c1;split at q;simp at q;rename_i c2;split at q;simp at q;rename_i c3;split at q;simp at q;rename_i c4;exact⟨λc=>by by_cases d:(h.P.getD i X).S=h.S;exact d;exact absurd ⟨c,d⟩ c1,by simpa using c2,by simpa using c3,by simpa using c4⟩)
 have hT:∀i,i<h.P.length->((h.P.getD i X).K=1->G1 h.W (ZN h i) (ZN h i+(h.P.getD i X).U) (Ze h (i:Int)).1)/\((h.P.getD i X).K=2->(Ze h (i:Int)).1=[ZN h i]/\okA h.W (ZN h i)/\Zr h.W (ZN h i)+1=(h.P.getD i X).U):=by
  intro i hi;have q:=(v i hi).2.1;have pp:=EL s hi;have e:pg h (i:Int)=h.P.getD i X:=by simp[pg]
  unfold Ze at q⊢;rw[if_pos s,if_pos oq,e]at q⊢;refine⟨λk=>?_,λk=>?_⟩;rw[if_neg oq]at q⊢;cases hw:Ej h i 256 0 with|none=>rw[hw]at q;simp at q|some l =>have:=Z47 s hi k 256 0 l hw oq oq oq;rwa [LB]at this
  rw[if_neg oq]at q⊢;cases hw:Ej h i 256 0 with
  |none=>rw[hw]at q;simp at q
  |some l =>
   have u:=s;rw[HD]at u;have lg:=(u.2.2.2.2.2.lg i hi k).1;have hu:0<(h.P.getD i X).U:=by(unfold need at lg;split at lg;rename_i c;omega;omega)
   unfold Ej at hw;rw[e,if_pos hu]at hw;split at hw;rename_i ha;obtain⟨t1,t2,t3,_,t5⟩:=Z9g s hi (Int.le_refl 0) hu (Lb ⟨k,rfl⟩) ha;rw[LB]at t1 t2 t5;cases hw;exact⟨by rw[t1],t2,t5 k⟩;cases hw
 have a2:∀i x,x∈(Ze h ((i:Nat):Int)).1->i<h.P.length/\((h.P.getD i X).K=1\/(h.P.getD i X).K=2):=by
  intro i x f;have e:pg h (i:Int)=h.P.getD i X:=by simp[pg]
  unfold Ze at f;rw[if_pos s,e]at f;split at f;rename_i c;have pp:=EL s (show i<h.P.length by omega);split at f;simp at f;exact⟨by omega,by omega⟩;simp at f
 have g:Gt h (λi:Nat=>(Ze h (i:Int)).1):=⟨s,λi hi=>(hT i hi).1,λi hi=>(hT i hi).2,a2⟩;have w:∀i x,x∈(Ze h ((i:Nat):Int)).1->Gh h i x=M:=by
  intro i x f;have c:=(v i (a2 i x f).1).2.2.1;unfold Cj at c;cases hb:(Ze h (i:Int)).1.find? (Gh h i)with|some y =>rw[hb]at c;simp only[LH]at c;have hy:=List.mem_of_find?_eq_some hb;have o:=g.on (i:=i) hy;have:0<=(i:Int)*h.C.pw:=Lt oq oq;unfold ZN at o;omega|none=>simpa using Lh.1 hb x f
 refine⟨s,λi hi=>(v i hi).1,λi hi k=>⟨(hT i hi).1 k,λx f=>?_⟩,λi hi k=>?_,a2,λa ha=>?_,λi x k f hk h0 h1 a5=>?_, ?_⟩;have c:=w i x f;unfold Gh at c;rw[g.at' f,NX,Lk,k]at c;simp at c;omega;have t:=(hT i hi).2 k;refine⟨t.1,t.2.1,t.2.2, ?_⟩;have f:ZN h i∈(Ze h (i:Int)).1:=by rw[t.1];simp
 have c:=w i _ f;unfold Gh at c;rw[g.at' f,Lk,k]at c;simp at c;exact c;have a8:4096<=a/\a-4096<h.W.length:=by(by_cases q:4096<=a/\a-4096<h.W.length;exact q;unfold Z1 at ha;rw[if_neg oq]at ha;exact absurd rfl ha)
 have hL:=po.2;have q1:=Int.ediv_nonneg (a:=a-4096) (b:=h.C.pw) oq oq;have q2:(a-4096)/h.C.pw<h.C.pg:=Int.ediv_lt_of_lt_mul oq (by rw[Lx];omega);have q3:=LU (a-4096) (b:=h.C.pw) oq;have q4:=LS (a-4096) (b:=h.C.pw) oq;have q5:=Int.mul_ediv_add_emod (a-4096) h.C.pw;obtain⟨i,hi⟩:=LI q1;obtain⟨k,hk⟩:=LI q3;rw[hi,hk,Lx]at q5;rw[hi]at q2;rw[hk]at q4;have a6:i<h.P.length:=by omega
 have ea:a=ZN h i+k:=by unfold ZN;omega
 have hd:=(v i a6).2.2.2;unfold Ek at hd;cases hb:(Ln (CB h i).length).find? (Hi h i (CB h i))with
 |some m=>rw[hb]at hd;simp only at hd;have:0<=(i:Int)*h.C.pw:=Lt oq oq;omega
 |none =>
  have:=Lh.1 hb k (Lf.2 (by rw[MK];omega));unfold Hi at this;have ew:Gk h i k=(Z1 h.W (ZN h i+k)).1:=by(unfold Gk address;rw[if_pos po.1,if_pos (HM.2 ⟨by omega,by omega,by omega,by omega⟩)];unfold ZN;simp only;rw[LR])
  rw[ea]at ha;rw[ew,decide_eq_true ha,Bool.and_true]at this;have hu:(CB h i).getD k X=Y:=by simpa using this
  unfold CB Co at hu;have a7:k<h.C.pw.toNat:=by omega
  simp only[Ld,LZ,L0 a7,Xe,LH,LY]at hu;obtain⟨x,f,hc⟩:=hu;unfold D8 at hc;rw[Lu,decide_eq_true_eq,decide_eq_true_eq]at hc;have ek:Gu h x=kpA h.W x:=by(unfold Gu kpA;rw[g.at' f,NX];rfl)
  rw[ek]at hc;refine⟨_,x,f, ?_, ?_⟩<;>(rw[ea];unfold ZN;omega)
 have a3:=(g.objs.2 x).2 ⟨i,f,hk⟩;have u:(Ew h (Zt h).1).fault=0:=by(by_cases q:(Ew h (Zt h).1).fault=0;exact q;rw[if_pos q]at p;rw[p]at q;exact absurd rfl q)
 obtain⟨m,hm,e⟩:=BI.1 a3;unfold Ew at u;cases hb:(Ln (Zt h).1.length).find? (λi=>(Hq h (Zt h).1 i).isSome)with
 |some y=>rw[hb]at u;simp at u
 |none =>
  have:=Lh.1 hb m (Lf.2 hm);unfold Hq at this;rw[e]at this;have n:=g.on f;have r:=BQ h.W x;have pp:=EL s n.1;have eg:Zx h x=(BZ h.W x,0):=by(unfold Zx;rw[if_pos s,if_neg (by have:0<=(i:Int)*h.C.pw:=Lt oq oq;unfold ZN at n;omega),g.at' f,if_neg];rintro⟨_,q⟩;exact hk q)
  have ue:=Oe s n.1 n.2.1;have a9:0<=(i:Int)*h.C.pw:=Lt oq oq;have b0:4096<=x/\x+Zr h.W x<4096+h.W.length:=by unfold ZN at n;omega
  have ef:Cr h x=BU h.W (x+1) (Zr h.W x):=by(unfold Cr;rw[eg,if_pos rfl];rfl)
  have fl:((Cr h x).1.length:Int)=Zr h.W x:=by(rw[ef];unfold BU;rw[if_neg oq,if_pos oq];simp only[LK,LJ];omega)
  obtain⟨k',rfl⟩:=LI h0;have fk:(Cr h x).1.getD k' X=(Z1 h.W (x+1+k')).1:=by(rw[ef];exact Z5n r.1 oq h1)
  have hn:(Ln (Cr h x).1.length).find? (IX (Zx h x).1 (Cr h x).1 (Zt h).1)=Ls:=by simpa using this
  have:=Lh.1 hn k' (Lf.2 oq);unfold IX at this;rw[eg,fk]at this;have a1:Bt (BZ h.W x) (k':Int)=Y:=a5;simp only[a1,Bool.true_and,Lu,decide_eq_true_eq,LQ,decide_eq_false_iff_not,not_and,Lo]at this;by_cases z:(Z1 h.W (x+1+(k':Int))).1=0;exact La z;exact Lb ((g.objs.2 _).1 (this z))
 by_cases q:(Ew h (Zt h).1).fault=0;rw[if_neg (by rw[q];simp)]at p;split at p;cases p;rename_i c;show(BJ h.P h.P.length:Int)<=_;omega;rw[if_pos q]at p;rw[p]at q;exact absurd rfl q
def GE(l:List Z0):Prop:=∀p∈l,p.S=0\/p.S=1
def GE.at{l}(h:GE l){i:Nat}(hi:i<l.length):(l.getD i X).S=0\/(l.getD i X).S=1:=by rw[Ld,LD hi];exact h _ (List.getElem_mem hi)
def GE.set{l}(h:GE l)(i:Nat){p:Z0}(a:p.S=0\/p.S=1):GE (l.set i p):=λq b=>by
 rcases LM b with q1|q1
 .exact h q q1
 .rw[q1];exact a
def GE.fwd{w}(g:Ba w)(h:GE w.j.P) r(e:(w.fwd r).2.2=0):GE (w.fwd r).1.j.P:=by
 have sp:=g.sp;have pl:∀n,(w.place n).2.2=Y->GE (w.place n).1.j.P:=λn d=>by(by_cases a:E6 w n;rw[Z7.place,if_pos a];unfold E6 at a;have hm:=g.tk _ (GT a.1);show GE (Cv _ _ _);rw[M0];exact h.set _ (h.at oq);by_cases c:0<=ZP w;rw[Z7.place,if_neg a,if_pos c];obtain⟨i,_,_⟩:=T9 (h:=⟨w.j.C,w.j.W,w.j.P,1-w.j.S,w.j.B⟩) (by simp only;omega) c n;have b:Cv (ES w) (ZP w).toNat n=w.j.P.set (ZP w).toNat ⟨1,1-w.j.S,n,0⟩:=i;show GE (Cv _ _ _);rw[b];exact h.set _ (by simp only;omega);rw[Z7.place,if_neg a,if_neg c]at d;cases d)
 unfold Z7.fwd at e⊢;repeat' split at e
 all_goals first|(simp at e;done)|skip
 all_goals (repeat' (first|rw[if_pos aa]|rw[if_neg aa]))
 all_goals first|exact h|skip
 intro p f;simp only[Z7.keep,Z7.flip,ZH,LA,Lf]at f;obtain⟨j,k,rfl⟩:=f;split;simp only[Nc];omega;exact h.at k;exact pl _ (by simp only[Bool.not_eq_false]at *;assumption)
def GE.begin{h:Heap}(b:Z8 h=Y):GE (Zs h).j.P:=λp a=>by
 have po:=B5 b;simp only[Zs,LA]at a;obtain⟨q,a,rfl⟩:=a;obtain⟨i,hi,rfl⟩:=List.getElem_of_mem a;have c:=EL b hi;rw[Ld,LD hi,LH]at c;unfold Zo;split
 .simp only;omega
 .omega
structure HV (w:Z7):Prop where
 ok:Ba w
 so:GE w.j.P
 L:(w.j.W.length:Int)=w.j.C.pw*w.j.C.pg
structure FwOk (w:Z7) (r:Int):Prop where
 ck:HV w
 rg:0<=r/\r<=18446744073709551615
 ol:r∈w.old->4096<=r/\r+Zr w.j.W r<4096+w.j.W.length/\(Z3 w.j.C r).2.2=0/\(Z3 w.j.C r).1.toNat<w.j.P.length
 dc:r∈w.old->(ZF (Z1 w.j.W r).1).2=M->(Z6 (Z1 w.j.W r).1).2=Y
 sz:r∈w.old->(w.j.P.getD (Z3 w.j.C r).1.toNat X).K=2\/Zr w.j.W r+1<=w.j.C.pw
structure CZ (h:Heap) (T:Nat->List Int) (w:Z7):Prop where
 k:∃tq,KI h T tq w
 ok:Ba w
 inv:Bw w
 so:GE w.j.P
def CZ.begin{h T}(g:Gd h T)(hw:Zy h.W):CZ h T (Zs h):=
 ⟨⟨_,KI.begin g⟩,R8 hw g.p,RZ g.p,GE.begin g.p⟩
def CZ.fwd{h T w}(c:CZ h T w)(g:Gd h T){r}(e:(w.fwd r).2.2=0):CZ h T (w.fwd r).1:=by obtain⟨tq,k⟩:=c.k;exact⟨k.fwd g c.ok c.inv r e,(Tc c.ok r e).1,(RQ c.ok c.inv r e).1,c.so.fwd c.ok r e⟩
def CZ.ck{h T w}(c:CZ h T w):HV w:=⟨c.ok,c.so,c.inv.L⟩
def CZ.fw{h T w}(c:CZ h T w)(g:Gd h T){r:Int}(f:0<=r/\r<=18446744073709551615):FwOk w r:=by obtain⟨tq,k⟩:=c.k;refine⟨c.ck,f,λa=>?_,λa b=>?_,λa=>c.inv.z r a⟩;obtain⟨i,hi,d⟩:=(k.old r).1 a;have q:=c.inv.r r (Le _ a);have e:=g.ofx hi;rw[<-k.c]at e;rw[e];have:=(g.t0 i r hi).1;have:=k.pl;refine⟨q.1,q.2,rfl, ?_⟩;simp only[Lk];omega;obtain⟨i,hi,d⟩:=(k.old r).1 a;rcases k.hd i r hi with q|q;rw[q];exact(g.on hi).2.2.2.2.2.1;rw[q.1]at b;cases b
end Go.Proofs.YtgedmeaemofdkaaGreat
