/-
 The statement CollectKeeps: part 11.
 Conditions: none.
-/
import Derived.Test.YtgedmeaemofdkaaGreatX10
set_option maxRecDepth 100000
set_option maxHeartbeats 2000000
set_option linter.all false
open Inhabited renaming default->X
open Bool renaming true->Y,false->M,and_eq_true->Lu
open List renaming map->Z,replicate->Lc,mem_append->Ld,mem_singleton->Lf,getD_eq_getElem?_getD->Lg,mem_append_left->Lh,mem_range->Li,find?_eq_none->Lj,length_set->Lk,length_map->Lm,take->Ln,range->Lo,length_replicate->Lr,mem_append_right->Ls,mem_cons->Lt,find?_range_eq_some->Ly,getElem?_replicate->LA,map_set->LB,mem_map->LC,mem_of_mem_drop->LD,mem_of_mem_take->LF,mem_replicate->LG,eq_nil_iff_forall_not_mem->LR,getElem?_eq_getElem->LS,length->LU,length_append->LV,length_drop->LW,length_take->LX,map_append->LY,map_drop->LZ,map_take->L0,mem_cons_of_mem->L1,mem_iff_getElem->L2,mem_or_eq_of_mem_set->L3
open Decidable renaming decide->O,not_not->Lp
open Or renaming inl->La,inr->Lb
open Nat renaming le_refl->Le,add_mul->L4,le_trans->L5,lt_trichotomy->L6,mul_le_mul_right->L7,one_mul->L8
open Int renaming toNat->Ll,emod_lt_of_pos->Lv,tdiv_eq_ediv_of_nonneg->Lw,toNat_natCast->Lx,toNat_of_nonneg->Lz,add_assoc->LH,add_zero->LI,emod_nonneg->LJ,mul_comm->LK,mul_ediv_add_emod->LL,mul_le_mul_of_nonneg_right->LM,mul_nonneg->LN,natCast_mul->LO,tmod_eq_emod_of_nonneg->LQ
open Go.IntKind renaming i64->Lq
open Go.Proofs.Tryz
namespace Go.Proofs.YtgedmeaemofdkaaGreat
open Go.Sx
def Ca(w:Z7)(r:Int):Int:=if r∈w.Q then r else(ZG (Z1 w.j.W r).1).1
def Z9J(w:Z7)(r:Int)(b:Zx w.j.W)(hl:w.j.W.length<=4096)(hq:w.Q.length<=1048576)(h0:0<=r/\r<=18446744073709551615):GP 85 [w.av,uU r] Y (uU (Ca w r)) []:=by have h1:=EP b r;rcases bb (O (r∈w.Q))with hc0|hc0<;>have a:=hc0<;>simp only[bs]at a;exact gF [] func85 [Y]<|Fh 12 [.call Y (bL (O (r∈w.Q))) [],.br Y]<|Fa (@CY w.Q r aa)<|Fa hc0<|Fa (by simp[Ca, *]:r=Ca w r) Fz;exact gF [] func85 [Y]<|Fh 12 [.call Y (bL (O (r∈w.Q))) [],.br M]<|Fa (@CY w.Q r aa)<|Fa hc0<|Fc 19 (@HW w.j.W r oq aa)<|Fc 24 (@Ak ((Z1 w.j.W r).1) oq oq)<|Fa (by simp[Ca, *]:(ZG (Z1 w.j.W r).1).1=Ca w r) Fz
def Zhn(w:Z7)(a:Int)(b:Zx w.j.W)(h1:w.j.W.length<=4096)(h0:0<=a/\a<=18446744073709551615):GP 142 [w.av,uU a] Y (ZB w a).av []:=by have h2:=EP b a;exact gF [] func142 []<|Fc 14 (@HW w.j.W a oq aa)<|Fc 19 (@AJ ((Z1 w.j.W a).1) oq oq) Fz
def H2(w:Z7)(x:Int):Z7:=if ZJ w (Z4 w.j.C x).1=Y/\x∉w.Q then⟨⟨w.j.C,(ZX w.j.W x (BE ⟨0,(ZB w x).length,0⟩)).1,w.j.P,w.j.S,w.j.B⟩,w.old,w.T,w.Q,w.D,⟨w.rep.copied,w.rep.kept,w.rep.filled+1,w.rep.freed,w.rep.cleared,w.rep.steps⟩⟩else w
def Cn(w:Z7):Nat->Z7|0=>w|k+1=>H2 (Cn w k) (w.old.getD k X)
def PP(w:Z7)(i:Nat):Tg:=⟨tm 84 [(1,.pt 8001 0 0),(2,.pt 8002 0 0),(3,nI i)],[(8002,.box 138 zW),(8001,.box 138 w.cells)],60⟩
structure FOk (w:Z7):Prop where
 W:Zx w.j.W
 wl:w.j.W.length<=4096
 pl:w.j.P.length<=64
 ol:w.old.length<=524288
 o:∀x∈w.old,0<=x/\x<=8192
 tl:w.T.length<=1000000
 ql:w.Q.length<=1000000
def Bb.fok{w}(h:Bb w):FOk w:=by have h1:=h.mu;have h2:=h.tl;have h3:=h.pl;have h4:=BI.1 h.C;exact⟨h.W,h.wl,by omega,h.ol,h.o,by omega,by omega⟩
def Dr{n:Int}(h:0<=n/\n<=255):Zy ⟨0,n,0⟩=(1+16*n,0):=by have hv:ZU ⟨0,n,0⟩=Y:=Gx.2 ⟨by simp,by simp,h.1,h.2,by simp⟩;rw[Zy,if_pos hv];simp
section
variable(w:Z7)(i:Nat)(a:FOk w)(hi:i<w.old.length)(hr:0<=w.rep.filled/\w.rep.filled<=1000000)
include a hi hr
theorem Zgr:CP (Zm f87 0) (PP w i).st .nrm (PP (H2 w (w.old.getD i X)) (i+1)).st:=by
 have d:=a.W;have h2:=a.wl;have h3:=a.pl;have h4:=a.ol;have h5:=a.tl;have h6:=a.ql;have hx:=a.o _ (ZT.2 ⟨i,hi,rfl⟩);have hm:=Nk (Z1 w.j.W (w.old.getD i X)).1 (EP d _).1;have e:0<=(ZB w (w.old.getD i X)).length/\(ZB w (w.old.getD i X)).length<=255:=Bq w.j.W (w.old.getD i X);have he:=Dr e;by_cases c1:ZJ w (Z4 w.j.C (w.old.getD i X)).1=Y;by_cases c2:w.old.getD i X∈w.Q;have b:H2 w (w.old.getD i X)=w:=by rw[H2,if_neg (by rintro⟨_,q⟩;exact q c2)]
 rw[b];exact sF [] []<|FN 13 14 24 wD w.old i<|Fc 26 (@Hr w.j.C (w.old.getD i X) oq oq)<|Fc 32 (@D6 w ((Z4 w.j.C (w.old.getD i X)).1) oq oq)<|FeG 40 (!!ZJ w (Z4 w.j.C (w.old.getD i X)).1) wD w.old (↑i) i<|FcG 42 (!!ZJ w (Z4 w.j.C (w.old.getD i X)).1) (λc=>by(try simp only[bs]at c);exact@CY w.Q (w.old.getD i X) oq)<|Fts 43 (!ZJ w (Z4 w.j.C (w.old.getD i X)).1||O (w.old.getD i X∈w.Q))<|Fx 16 i Fz;have b:H2 w (w.old.getD i X)=⟨⟨w.j.C,(ZX w.j.W (w.old.getD i X) (BE ⟨0,(ZB w (w.old.getD i X)).length,0⟩)).1,w.j.P,w.j.S,w.j.B⟩,w.old,w.T,w.Q,w.D,⟨w.rep.copied,w.rep.kept,w.rep.filled+1,w.rep.freed,w.rep.cleared,w.rep.steps⟩⟩:=by rw[H2,if_pos ⟨c1,c2⟩]
 rw[b];exact sF [] []<|Fh 71 [.els (Z wD ([(Zy (Zz.mk 0 (ZB w (w.old.getD i X)).length 0)).1]++Lc (ZB w (w.old.getD i X)).length.toNat 0))]<|FN 13 14 24 wD w.old i<|Fc 26 (@Hr w.j.C (w.old.getD i X) oq oq)<|Fc 32 (@D6 w ((Z4 w.j.C (w.old.getD i X)).1) oq oq)<|FeG 40 (!!ZJ w (Z4 w.j.C (w.old.getD i X)).1) wD w.old (↑i) i<|FcG 42 (!!ZJ w (Z4 w.j.C (w.old.getD i X)).1) (λc=>by(try simp only[bs]at c);exact@CY w.Q (w.old.getD i X) oq)<|Ffs 43 (!ZJ w (Z4 w.j.C (w.old.getD i X)).1||O (w.old.getD i X∈w.Q))<|Fek 48 wD w.old (↑i) i<|Fc 50 (@Zhn w (w.old.getD i X) aa aa oq)<|Fc 55 (@M5 (Zz.mk 0 (ZB w (w.old.getD i X)).length 0) (by(simp only[bs];omega)))<|Fek 65 wD w.old (↑i) i<|Fs 68 (Z wD [(Zy (Zz.mk 0 (ZB w (w.old.getD i X)).length 0)).1])<|Fa (by grind[BE]:0<=(ZB w (w.old.getD i X)).length/\(↑(Z wD [(Zy (Zz.mk 0 (ZB w (w.old.getD i X)).length 0)).1]).length:Int)+(ZB w (w.old.getD i X)).length<=2^30)<|Fa (by simp[BE,L0,LZ,LB,LY,wD,iD]:Z wD [(Zy (Zz.mk 0 (ZB w (w.old.getD i X)).length 0)).1]++Lc (ZB w (w.old.getD i X)).length.toNat [ZZ 0]=Z wD ([(Zy (Zz.mk 0 (ZB w (w.old.getD i X)).length 0)).1]++Lc (ZB w (w.old.getD i X)).length.toNat 0))<|Fc 72 (@TM w.j.W ([(Zy (Zz.mk 0 (ZB w (w.old.getD i X)).length 0)).1]++Lc (ZB w (w.old.getD i X)).length.toNat 0) (w.old.getD i X) oq oq (by grind[BE]))<|Fi 80 (w.rep.filled+1)<|Fx 16 i Fz;have b:H2 w (w.old.getD i X)=w:=by rw[H2,if_neg (by rintro⟨q,_⟩;exact c1 q)]
 rw[b];exact sF [] []<|FN 13 14 24 wD w.old i<|Fc 26 (@Hr w.j.C (w.old.getD i X) oq oq)<|Fc 32 (@D6 w ((Z4 w.j.C (w.old.getD i X)).1) oq oq)<|FeG 40 (!!ZJ w (Z4 w.j.C (w.old.getD i X)).1) wD w.old (↑i) i<|FcG 42 (!!ZJ w (Z4 w.j.C (w.old.getD i X)).1) (λc=>by(try simp only[bs]at c);exact@CY w.Q (w.old.getD i X) oq)<|Fts 43 (!ZJ w (Z4 w.j.C (w.old.getD i X)).1||O (w.old.getD i X∈w.Q))<|Fx 16 i Fz
end
def ZlE w:CP (Zm f87 0) (PP w w.old.length).st (.ext 0) (Tg.st ⟨tm 84 [(1,.pt 8001 0 0),(2,.pt 8002 0 0)],[(8002,.box 138 zW),(8001,.box 138 w.cells)],60⟩):=by exact sF [] []<|FO 13 14 wD w.old Fz
def Zjv w(x:Int):∃l n,H2 w x=⟨⟨w.j.C,l,w.j.P,w.j.S,w.j.B⟩,w.old,w.T,w.Q,w.D,⟨w.rep.copied,w.rep.kept,n,w.rep.freed,w.rep.cleared,w.rep.steps⟩⟩/\l.length<=w.j.W.length/\(Zx w.j.W->Zx l)/\w.rep.filled<=n/\n<=w.rep.filled+1:=by unfold H2;split;refine⟨_,_,rfl,Z3H _ _ _,λh=>OC h ?_ _,by omega,by omega⟩;intro y a;have b:0<=(ZB w x).length/\(ZB w x).length<=255:=Bq w.j.W x;simp only[BE,Lt,LG,Dr b]at a;rcases a with rfl|⟨_,rfl⟩<;>omega;exact⟨w.j.W,w.rep.filled,rfl,Le _,λh=>h,by omega,by omega⟩
def Il w(b:FOk w):∀k,FOk (Cn w k)/\(Cn w k).j.C=w.j.C/\(Cn w k).j.P=w.j.P/\(Cn w k).j.S=w.j.S/\(Cn w k).j.B=w.j.B/\(Cn w k).old=w.old/\(Cn w k).T=w.T/\(Cn w k).Q=w.Q/\(Cn w k).rep.freed=w.rep.freed/\(Cn w k).rep.cleared=w.rep.cleared/\w.rep.filled<=(Cn w k).rep.filled/\(Cn w k).rep.filled<=w.rep.filled+k
 |0=>⟨b,rfl,rfl,rfl,rfl,rfl,rfl,rfl,rfl,rfl,by simp[Cn],by simp[Cn]⟩
 |k+1=>by
  obtain⟨a,d,i2,i3,i4,h,i,j,i8,m,f,g⟩:=Il w b k;obtain⟨l,n,e,e1,c,e3,e4⟩:=Zjv (Cn w k) (w.old.getD k X);have:Cn w (k+1)=_:=e;rw[this];have hl:=a.wl;exact⟨⟨c a.W,by simp only;omega,a.pl,a.ol,a.o,a.tl,a.ql⟩,d,i2,i3,i4,h,i,j,i8,m,by simp only;omega,by simp only;omega⟩
section
variable(w:Z7)(a:FOk w)(hr:w.rep.filled=0)
include a hr
theorem ZcE:CP (Zi f87 0) (Tg.st ⟨tm 84 [(1,.pt 8001 0 0),(2,.pt 8002 0 0),(3,nI 0)],[(8002,.box 138 zW),(8001,.box 138 w.cells)],60⟩) .nrm (Tg.st ⟨tm 84 [(1,.pt 8001 0 0),(2,.pt 8002 0 0)],[(8002,.box 138 zW),(8001,.box 138 (Cn w w.old.length).cells)],60⟩):=by have c:=a.ol;refine Bp (S:=λk=>(PP (Cn w k) k).st) w.old.length kr (λk b=>?_) ?_;have h:=Il w a k;have:=Zgr (Cn w k) k h.1 (by rw[h.2.2.2.2.2.1];exact b) oq;rw[h.2.2.2.2.2.1]at this;exact this;have h:=Il w a w.old.length;have:=ZlE (Cn w w.old.length);rw[h.2.2.2.2.2.1]at this;exact this
theorem ZaP:GP 87 [w.av] M (Cn w w.old.length).av []:=by exact gF [] func87 []<|Fu (@ZcE w aa aa) Fz
end
def CC(s:Int)(p:Z0):Prop:=p.K≠0/\p.S=s
instance (s:Int) (p:Z0):Decidable (CC s p):=by unfold CC;infer_instance
def BU(s:Int)(p:Z0):Z0:=if CC s p then⟨0,0,0,0⟩else p
def Es(pw s:Int)(l:List Z0)(ws:List Int):Nat->List Int|0=>ws|i+1=>if CC s (l.getD i X)then Ck (Es pw s l ws i) (i*pw.toNat) (Lc pw.toNat 0)else Es pw s l ws i
def G9(n s:Int)(l:List Z0):Nat->Int|0=>n|i+1=>if CC s (l.getD i X)then G9 n s l i+1 else G9 n s l i
def M1(w:Z7)(a:List Z0)(ws:List Int)(n:Int)(i:Nat):Tg:=⟨tm 78 [(1,.pt 8001 0 0),(2,.pt 8002 0 0),(3,nI i)],[(8001,.box 138 [nI w.j.C.pw,nI w.j.C.pg,.ow 24017,.ow 16010,nI w.j.S,nI w.j.B,Z2 w.old,ZC w.T,Z2 w.Q,nI w.D,nI w.rep.copied,nI w.rep.kept,nI w.rep.filled,nI n,nI w.rep.cleared,nI w.rep.steps]),(24017,.arr 35 1 (ws.map wD)),(16010,.arr 86 4 (a.map Z0.dv)),(8002,.box 138 zW)],60⟩
def Zc0(w:Z7)(a:List Z0) ws n(i:Nat)(hl:a.length<=64)(hi:i<a.length)(b:¬ CC w.j.S (a.getD i X)):CP (Zm f86 0) (M1 w a ws n i).st .nrm (M1 w a ws n (i+1)).st:=by unfold CC at b;have c:¬ ((a.getD (i:Int).toNat X).K≠0/\(a.getD (i:Int).toNat X).S=w.j.S):=b;exact sF [] []<|FM 24 25 Z0.dv a i<|Fmq 33 Z0.dv a (↑i)<|Ftb 44 ((a.getD (i:Int).toNat X).K==0||(a.getD (i:Int).toNat X).S != w.j.S)<|Fx 27 i Fz
def Pv(w:Z7)(a:List Z0)(ws:List Int)(n:Int)(i k:Nat):Tg:=⟨tm 78 [(1,.pt 8001 0 0),(2,.pt 8002 0 0),(3,nI i),(5,nI k)],[(8001,.box 138 [nI w.j.C.pw,nI w.j.C.pg,.ow 24017,.ow 16010,nI w.j.S,nI w.j.B,Z2 w.old,ZC w.T,Z2 w.Q,nI w.D,nI w.rep.copied,nI w.rep.kept,nI w.rep.filled,nI n,nI w.rep.cleared,nI w.rep.steps]),(16010,.arr 86 4 (a.map Z0.dv)),(24017,.arr 35 1 ((wr ws (Lc w.j.C.pw.toNat 0) (i*w.j.C.pw.toNat) k).map wD)),(8002,.box 138 zW)],64⟩
section
variable(w:Z7)(a:List Z0)(ws:List Int)(n:Int)(i k:Nat)(b:0<=w.j.C.pw/\w.j.C.pw<=64)(hi:i<=64)(hl:i*w.j.C.pw.toNat+w.j.C.pw.toNat<=ws.length)(c:ws.length<=4096)
include b hi hl c
theorem Zfc(d:k<w.j.C.pw.toNat):CP (Zm f86 2) (Pv w a ws n i k).st .nrm (Pv w a ws n i (k+1)).st:=by
 have e:=MU (ws:=ws) (l:=Lc w.j.C.pw.toNat 0) (i:=i*w.j.C.pw.toNat) (k:=k) (by simpa using hl) (by simpa using d) (0:Int);rw[show(Lc w.j.C.pw.toNat (0:Int)).getD k 0=0 by simp[List.getD,d]]at e;have hn:=II (ws:=ws) (l:=Lc w.j.C.pw.toNat (0:Int)) (i:=i*w.j.C.pw.toNat) (k:=k) (by simpa using hl) qo;have em:(i:Int)*w.j.C.pw=((i*w.j.C.pw.toNat:Nat):Int):=by rw[LO,Lz b.1]
 have ei:(i:Int)*w.j.C.pw+k=((i*w.j.C.pw.toNat+k:Nat):Int):=by omega
 exact sF [] (fO 6)<|Fh 10076 [.els (Z wD ((wr ws (Lc w.j.C.pw.toNat 0) (i*w.j.C.pw.toNat) k).set (↑(i*w.j.C.pw.toNat+k):Int).toNat 0))]<|Ftb 62 (O ((k:Int)<w.j.C.pw))<|Fi 73 ((i:Int)*w.j.C.pw)<|Fg 75 (by rw[Ef oq oq];omega:Lq.wrap ((i:Int)*w.j.C.pw+(k:Int))=(↑(i*w.j.C.pw.toNat+k):Int))<|Fa (by(simp only[Lm];omega):0<=(↑(i*w.j.C.pw.toNat+k):Int)/\(↑(i*w.j.C.pw.toNat+k):Int).toNat<(Z wD (wr ws (Lc w.j.C.pw.toNat 0) (i*w.j.C.pw.toNat) k)).length)<|Fa (by(simp only[Lm];omega):(↑(i*w.j.C.pw.toNat+k):Int).toNat<(Z wD (wr ws (Lc w.j.C.pw.toNat 0) (i*w.j.C.pw.toNat) k)).length)<|Fa (ms:(Z wD (wr ws (Lc w.j.C.pw.toNat 0) (i*w.j.C.pw.toNat) k)).set (↑(i*w.j.C.pw.toNat+k):Int).toNat [ZZ 0]=Z wD ((wr ws (Lc w.j.C.pw.toNat 0) (i*w.j.C.pw.toNat) k).set (↑(i*w.j.C.pw.toNat+k):Int).toNat 0))<|Fx 64 k<|Fr (35:Int)<|Fa (by refine congrArg _ ?_;exact e:Z wD ((wr ws (Lc w.j.C.pw.toNat 0) (i*w.j.C.pw.toNat) k).set (↑(i*w.j.C.pw.toNat+k):Int).toNat 0)=Z wD (wr ws (Lc w.j.C.pw.toNat 0) (i*w.j.C.pw.toNat) (k+1))) Fz
theorem ZkX:CP (Zm f86 2) (Pv w a ws n i w.j.C.pw.toNat).st (.ext 2) (Tg.st ⟨tm 78 [(1,.pt 8001 0 0),(2,.pt 8002 0 0),(3,nI i)],[(8001,.box 138 [nI w.j.C.pw,nI w.j.C.pg,.ow 24017,.ow 16010,nI w.j.S,nI w.j.B,Z2 w.old,ZC w.T,Z2 w.Q,nI w.D,nI w.rep.copied,nI w.rep.kept,nI w.rep.filled,nI n,nI w.rep.cleared,nI w.rep.steps]),(16010,.arr 86 4 (a.map Z0.dv)),(24017,.arr 35 1 ((Ck ws (i*w.j.C.pw.toNat) (Lc w.j.C.pw.toNat 0)).map wD)),(8002,.box 138 zW)],64⟩):=by have d:=Pg ws (Lc w.j.C.pw.toNat (0:Int)) (i*w.j.C.pw.toNat);rw[Lr]at d;exact sF [] (fO 5)<|Ffb 62 (O ((w.j.C.pw.toNat:Int)<w.j.C.pw))<|Fr (35:Int)<|Fa (by refine congrArg _ ?_;assumption:Z wD (wr ws (Lc w.j.C.pw.toNat 0) (i*w.j.C.pw.toNat) w.j.C.pw.toNat)=Z wD (Ck ws (i*w.j.C.pw.toNat) (Lc w.j.C.pw.toNat 0))) Fz
theorem Zib:CP (Zi f86 2) (Tg.st ⟨tm 78 [(1,.pt 8001 0 0),(2,.pt 8002 0 0),(3,nI i),(5,nI 0)],[(8001,.box 138 [nI w.j.C.pw,nI w.j.C.pg,.ow 24017,.ow 16010,nI w.j.S,nI w.j.B,Z2 w.old,ZC w.T,Z2 w.Q,nI w.D,nI w.rep.copied,nI w.rep.kept,nI w.rep.filled,nI n,nI w.rep.cleared,nI w.rep.steps]),(16010,.arr 86 4 (a.map Z0.dv)),(24017,.arr 35 1 (ws.map wD)),(8002,.box 138 zW)],64⟩) .nrm (Tg.st ⟨tm 78 [(1,.pt 8001 0 0),(2,.pt 8002 0 0),(3,nI i)],[(8001,.box 138 [nI w.j.C.pw,nI w.j.C.pg,.ow 24017,.ow 16010,nI w.j.S,nI w.j.B,Z2 w.old,ZC w.T,Z2 w.Q,nI w.D,nI w.rep.copied,nI w.rep.kept,nI w.rep.filled,nI n,nI w.rep.cleared,nI w.rep.steps]),(16010,.arr 86 4 (a.map Z0.dv)),(24017,.arr 35 1 ((Ck ws (i*w.j.C.pw.toNat) (Lc w.j.C.pw.toNat 0)).map wD)),(8002,.box 138 zW)],64⟩):=by have:=Bp (S:=λk=>(Pv w a ws n i k).st) w.j.C.pw.toNat kr (λk d=>Zfc w a ws n i k b hi hl c d) (ZkX w a ws n i b hi hl c);simp only[Pv,Dw]at this;exact this
end
def Zdb(w:Z7)(a:List Z0)(ws:List Int)(n:Int)(i:Nat)(hl:a.length<=64)(hi:i<a.length)(b:CC w.j.S (a.getD i X))(hp:0<=w.j.C.pw/\w.j.C.pw<=64)(hs:i*w.j.C.pw.toNat+w.j.C.pw.toNat<=ws.length)(hw:ws.length<=4096)(hn:0<=n/\n<=64):CP (Zm f86 0) (M1 w a ws n i).st .nrm (M1 w (a.set i ⟨0,0,0,0⟩) (Ck ws (i*w.j.C.pw.toNat) (Lc w.j.C.pw.toNat 0)) (n+1) (i+1)).st:=by unfold CC at b;have c:(a.getD (i:Int).toNat X).K≠0/\(a.getD (i:Int).toNat X).S=w.j.S:=b;exact sF [] []<|Fh 10050 [.els (Z Z0.dv (a.set (i:Int).toNat (Z0.mk 0 0 0 0)))]<|FM 24 25 Z0.dv a i<|Fmq 33 Z0.dv a (↑i)<|Ffb 44 ((a.getD (i:Int).toNat X).K==0||(a.getD (i:Int).toNat X).S != w.j.S)<|Fa (by(simp only[Lm];omega):0<=(i:Int)/\(i:Int).toNat<(Z Z0.dv a).length)<|Fa (by(simp only[Lm];omega):(i:Int).toNat<(Z Z0.dv a).length)<|Fa (by rw[LB];rfl:(Z Z0.dv a).set (i:Int).toNat [Zq 0,Zq 0,Zq 0,Zq 0]=Z Z0.dv (a.set (i:Int).toNat (Z0.mk 0 0 0 0)))<|Fi 54 (n+1)<|Fu (@Zib w (a.set (i:Int).toNat (Z0.mk 0 0 0 0)) ws (n+1) i aa oq aa aa)<|Fx 27 i Fz
def TB{pw s:Int}{l:List Z0}{ws:List Int}(h:l.length*pw.toNat<=ws.length):∀i,i<=l.length->(Es pw s l ws i).length=ws.length
 |0,_=>rfl
 |i+1,hi=>by
  have a:=TB (s:=s) h i oq;have b:(i+1)*pw.toNat<=l.length*pw.toNat:=L7 _ hi;rw[L4,L8]at b;unfold Es;split
  .rw[NI qo,a]
  .exact a
def Z12(n s:Int) l:∀i:Nat,n<=G9 n s l i/\G9 n s l i<=n+i
 |0=>by simp[G9]
 |i+1=>by
  have ih:=Z12 n s l i;unfold G9;split<;>omega
def GZ(w:Z7):Z7:=⟨⟨w.j.C,Es w.j.C.pw w.j.S w.j.P w.j.W w.j.P.length,w.j.P.map (BU w.j.S),w.j.S,w.j.B⟩,w.old,w.T,w.Q,w.D,⟨w.rep.copied,w.rep.kept,w.rep.filled,G9 w.rep.freed w.j.S w.j.P w.j.P.length,w.rep.cleared,w.rep.steps⟩⟩
def Zdh w a ws n:CP (Zm f86 0) (M1 w a ws n a.length).st (.ext 0) (Tg.st ⟨tm 78 [(1,.pt 8001 0 0),(2,.pt 8002 0 0)],[(8001,.box 138 [nI w.j.C.pw,nI w.j.C.pg,.ow 24017,.ow 16010,nI w.j.S,nI w.j.B,Z2 w.old,ZC w.T,Z2 w.Q,nI w.D,nI w.rep.copied,nI w.rep.kept,nI w.rep.filled,nI n,nI w.rep.cleared,nI w.rep.steps]),(24017,.arr 35 1 (ws.map wD)),(16010,.arr 86 4 (a.map Z0.dv)),(8002,.box 138 zW)],60⟩):=by exact sF [] []<|FO 24 25 Z0.dv a Fz
section
variable(w:Z7)(hl:w.j.P.length<=64)(a:0<=w.j.C.pw/\w.j.C.pw<=64)(hs:w.j.P.length*w.j.C.pw.toNat<=w.j.W.length)(hw:w.j.W.length<=4096)(hr:w.rep.freed=0)
include hl a hs hw hr
theorem Zjt:CP (Zi f86 0) (Tg.st ⟨tm 78 [(1,.pt 8001 0 0),(2,.pt 8002 0 0),(3,nI 0)],[(8001,.box 138 [nI w.j.C.pw,nI w.j.C.pg,.ow 24017,.ow 16010,nI w.j.S,nI w.j.B,Z2 w.old,ZC w.T,Z2 w.Q,nI w.D,nI w.rep.copied,nI w.rep.kept,nI w.rep.filled,nI w.rep.freed,nI w.rep.cleared,nI w.rep.steps]),(24017,.arr 35 1 (w.j.W.map wD)),(16010,.arr 86 4 (w.j.P.map Z0.dv)),(8002,.box 138 zW)],60⟩) .nrm (Tg.st ⟨tm 78 [(1,.pt 8001 0 0),(2,.pt 8002 0 0)],[(8001,.box 138 [nI w.j.C.pw,nI w.j.C.pg,.ow 24017,.ow 16010,nI w.j.S,nI w.j.B,Z2 w.old,ZC w.T,Z2 w.Q,nI w.D,nI w.rep.copied,nI w.rep.kept,nI w.rep.filled,nI (G9 w.rep.freed w.j.S w.j.P w.j.P.length),nI w.rep.cleared,nI w.rep.steps]),(24017,.arr 35 1 ((Es w.j.C.pw w.j.S w.j.P w.j.W w.j.P.length).map wD)),(16010,.arr 86 4 ((w.j.P.map (BU w.j.S)).map Z0.dv)),(8002,.box 138 zW)],60⟩):=by
 refine Bp (S:=λk=>(M1 w (ZA (BU w.j.S) w.j.P k) (Es w.j.C.pw w.j.S w.j.P w.j.W k) (G9 w.rep.freed w.j.S w.j.P k) k).st) w.j.P.length kr (λk f=>?_) ?_;have h1:=SP (BU w.j.S) w.j.P k;have g:=Z0o (BU w.j.S) w.j.P (Le k) X;have h3:=TB (s:=w.j.S) hs k oq;have h4:=Z12 w.rep.freed w.j.S w.j.P k;by_cases b:CC w.j.S (w.j.P.getD k X);have c:=Z0U (BU w.j.S) w.j.P f X;have d:Es w.j.C.pw w.j.S w.j.P w.j.W (k+1)=Ck (Es w.j.C.pw w.j.S w.j.P w.j.W k) (k*w.j.C.pw.toNat) (Lc w.j.C.pw.toNat 0):=by rw[Es,if_pos b]
 have e:G9 w.rep.freed w.j.S w.j.P (k+1)=G9 w.rep.freed w.j.S w.j.P k+1:=by rw[G9,if_pos b]
 rw[BU,if_pos b]at c;rw[<-c,d,e];have i:(k+1)*w.j.C.pw.toNat<=w.j.P.length*w.j.C.pw.toNat:=L7 _ f;rw[L4,L8]at i;exact Zdb w _ _ _ k oq oq (by rw[g];exact b) a oq oq oq;have c:=Z3D (BU w.j.S) w.j.P f X (by rw[BU,if_neg b]);have d:Es w.j.C.pw w.j.S w.j.P w.j.W (k+1)=Es w.j.C.pw w.j.S w.j.P w.j.W k:=by rw[Es,if_neg b]
 have e:G9 w.rep.freed w.j.S w.j.P (k+1)=G9 w.rep.freed w.j.S w.j.P k:=by rw[G9,if_neg b]
 rw[<-c,d,e];exact Zc0 w _ _ _ k oq oq (by rw[g];exact b);have h:=Zdh w (ZA (BU w.j.S) w.j.P w.j.P.length) (Es w.j.C.pw w.j.S w.j.P w.j.W w.j.P.length) (G9 w.rep.freed w.j.S w.j.P w.j.P.length);rw[SP,Z0W]at h;simp only[Z0W];exact h
theorem Z5n:GP 86 [w.av] M (GZ w).av []:=by have h1:=TB (s:=w.j.S) hs w.j.P.length (Le _);have h2:=Z12 w.rep.freed w.j.S w.j.P w.j.P.length;exact gF [] func86 []<|FAx 6 10 Z0.dv w.j.P (by(simp[GZ, *];omega))<|FAx 13 17 wD w.j.W (by(simp[GZ, *];omega))<|Fu (@Zjt w aa aa aa aa aa) Fz
end
def RA:Rep:=⟨0,0,0,0,0,0⟩
def Z22{h}{l:List Int}(e:Bw h l=Y):Bn h=⟨0,0,0⟩:=by simp only[Bw,Lu,decide_eq_true_eq]at e;exact e.1
section
variable(h:Heap)(s k:List Int)(c:Zx h.W)(hs:s.length<=1048575)(hk:k.length<=1048575)(b:CQ s)(a:CQ k)
include c hs hk b a
theorem Zgv(hp:Z9 h=M):GP 36 [h.av,Z2 s,Z2 k] M (.tu [B9.av,Z2 [],Z2 [],.ag RA.cells,nI 1]) []:=by exact gF [] func36 []<|Fc 20 (@CG h)<|Ftb 21 (!Z9 h)<|Fnl (Fnl (Fnl (Fnl Fz)))
theorem ZhP(hp:Z9 h=Y)(d:Bw h s=M\/Bw h k=M):GP 36 [h.av,Z2 s,Z2 k] M (.tu [B9.av,Z2 [],Z2 [],.ag RA.cells,nI 19]) []:=by
 by_cases f:Bw h s=M;exact gF [] func36 []<|Fc 20 (@CG h)<|Ffb 21 (!Z9 h)<|Fc 26 (@N4 h s aa oq)<|FcG 31 (!!Bw h s) (λe=>by(try simp only[bs]at e);exact@Zan h k aa (by(try simp only[bs]at e);grind[B9,RA]))<|Fts 33 (!Bw h s||Y)<|Fnl (Fnl (Fnl (Fnl Fz)));have h2:Bw h k=M:=by(rcases d with d|d;exact absurd d f;exact d)
 exact gF [] func36 []<|Fc 20 (@CG h)<|Ffb 21 (!Z9 h)<|Fc 26 (@N4 h s aa oq)<|FcG 31 (!!Bw h s) (λe=>by(try simp only[bs]at e);exact@N4 h k aa oq)<|Ftb 33 (!Bw h s||!Bw h k)<|Fnl (Fnl (Fnl (Fnl Fz)))
theorem Zjb(f:Z9 h=Y)(g:Bw h s=Y)(i:Bw h k=Y)(e:¬ (rootsF (Zr h) s).2.2=0):GP 36 [h.av,Z2 s,Z2 k] M (.tu [B9.av,Z2 [],Z2 [],.ag RA.cells,nI (rootsF (Zr h) s).2.2]) []:=by have hb:=R1 c f;have d:=Z22 g;exact gF [] func36 []<|Fc 20 (@CG h)<|Ffb 21 (!Z9 h)<|Fc 26 (@N4 h s aa oq)<|FcG 31 (!!Bw h s) (λd=>by(try simp only[bs]at d);exact@N4 h k aa oq)<|Ffs 33 (!Bw h s||!Bw h k)<|Fc 38 (@OA h aa aa aa)<|Fc 44 (@OH (Zr h) s aa aa aa)<|Ftb 49 ((rootsF (Zr h) s).2.2 != 0)<|Fnl (Fnl (Fnl (Fnl Fz)))
theorem ZkK(f:Z9 h=Y)(l:Bw h s=Y)(m:Bw h k=Y)(e:(rootsF (Zr h) s).2.2=0)(e2:¬ (Bz (rootsF (Zr h) s).1).2=0):GP 36 [h.av,Z2 s,Z2 k] M (.tu [B9.av,Z2 [],Z2 [],.ag RA.cells,nI (Bz (rootsF (Zr h) s).1).2]) []:=by have g:=R1 c f;have hi:=Se f;have d:=Z22 l;have i:=Sq (roots:=s) g hi e;have j:=i.1;exact gF [] func36 []<|Fc 20 (@CG h)<|Ffb 21 (!Z9 h)<|Fc 26 (@N4 h s aa oq)<|FcG 31 (!!Bw h s) (λd=>by(try simp only[bs]at d);exact@N4 h k aa oq)<|Ffs 33 (!Bw h s||!Bw h k)<|Fc 38 (@OA h aa aa aa)<|Fc 44 (@OH (Zr h) s aa aa aa)<|Ffb 49 ((rootsF (Zr h) s).2.2 != 0)<|Fc 55 (@Z3n ((rootsF (Zr h) s).1) aa)<|Ftb 59 ((Bz (rootsF (Zr h) s).1).2 != 0)<|Fnl (Fnl (Fnl (Fnl Fz)))
end
def IV(w:Z7)(x:Int):Int:=if x=0 then 0 else Ca w x
def HP(w:Z7)(x:Int):Z7:=⟨w.j,w.old,w.T,w.Q,w.D,⟨w.rep.copied,w.rep.kept,w.rep.filled,w.rep.freed,if x≠0/\Ca w x=0 then w.rep.cleared+1 else w.rep.cleared,w.rep.steps⟩⟩
def EL(w:Z7)(k:List Int):Nat->Z7|0=>w|i+1=>HP (EL w k i) (k.getD i X)
def EC(w:Z7)(k:List Int):Nat->List Int|0=>[]|i+1=>EC w k i++[IV (EL w k i) (k.getD i X)]
def Sl w k:∀i,(EL w k i).j=w.j/\(EL w k i).old=w.old/\(EL w k i).T=w.T/\(EL w k i).Q=w.Q/\(EL w k i).rep.filled=w.rep.filled/\(EL w k i).rep.freed=w.rep.freed/\w.rep.cleared<=(EL w k i).rep.cleared/\(EL w k i).rep.cleared<=w.rep.cleared+i
 |0=>⟨rfl,rfl,rfl,rfl,rfl,rfl,by simp[EL],by simp[EL]⟩
 |i+1=>by
  obtain⟨a,b,c,h4,d,e,h7,h8⟩:=Sl w k i;refine⟨a,b,c,h4,d,e, ?_, ?_⟩
  .simp only[EL,HP];split<;>omega
  .simp only[EL,HP];split<;>omega
def TS w k:∀i,(EC w k i).length=i|0=>rfl|i+1=>by simp[EC,TS w k i]
def Z0t(w:Z7)(k roots out:List Int)(i:Nat):Tg:=⟨tm 122 [(2,Z2 k),(6,.pt 8006 0 0),(7,.d (.sl 0 [])),(8,.d (.sl 0 [])),(9,.pt 8009 0 0),(10,nI 0),(11,.pt 32011 0 0),(13,Z2 roots),(15,.ow 72015),(16,nI i)],[(72015,.arr 35 1 (out.map wD)),(32011,.box 138 w.cells),(8009,.box 73 [nI 0,nI 0,nI 0,nI 0,nI 0,nI 0]),(8006,.box 28 [nI 0,nI 0,.d (.sl 0 []),.d (.sl 0 []),nI 0,nI 0])],60⟩
section
variable(w:Z7)(k roots out:List Int)(i:Nat)(hw:Zx w.j.W)(hl:w.j.W.length<=4096)(hq:w.Q.length<=1048576)(hk:k.length<=1048575)(hx:0<=k.getD i X/\k.getD i X<=18446744073709551615)(ho:out.length<=1048576)(hi:i<k.length)(hc:0<=w.rep.cleared/\w.rep.cleared<=2097152)
include hw hl hq hk hx ho hi hc
theorem ZhI:CP (Zm f36 0) (Z0t w k roots out i).st .nrm (Z0t (HP w (k.getD i X)) k roots (out++[IV w (k.getD i X)]) (i+1)).st:=by
 by_cases d:k.getD i X=0;have e:IV w (k.getD i X)=0:=by rw[IV,if_pos d]
 have c:HP w (k.getD i X)=w:=by rw[HP,if_neg (by rintro⟨q,_⟩;exact q d)]
 rw[e,c];exact sF [(504091,72015)] []<|Fh 91 [.els (Z wD (out++[0]))]<|FN 65 66 71 wD k i<|Ffb 73 (k.getD i X != 0)<|Fs 90 (Z wD [0])<|Fa (by(simp[*];omega):(Z wD out).length+(Z wD [0]).length<=2^30)<|Fa (ms:Z wD out++Z wD [0]=Z wD (out++[0]))<|Fx 68 i Fz;have e:IV w (k.getD i X)=Ca w (k.getD i X):=by rw[IV,if_neg d]
 rw[e];by_cases f:Ca w (k.getD i X)=0;have c:HP w (k.getD i X)=⟨w.j,w.old,w.T,w.Q,w.D,⟨w.rep.copied,w.rep.kept,w.rep.filled,w.rep.freed,w.rep.cleared+1,w.rep.steps⟩⟩:=by rw[HP,if_pos ⟨d,f⟩]
 rw[c];let a:=k.getD i X;exact sF [(528091,72015)] []<|Fh 91 [.els (Z wD (out++[Ca w a]))]<|FN 65 66 71 wD k i<|Ftb 73 (k.getD i X != 0)<|Fek 77 wD k (↑i) i<|Fc 79 (@Z9J w a aa aa aa aa)<|Ftb 81 (Ca w a==0)<|Fi 85 (w.rep.cleared+1)<|Fs 90 (Z wD [Ca w a])<|Fa (by(simp[*];omega):(Z wD out).length+(Z wD [Ca w a]).length<=2^30)<|Fa (ms:Z wD out++Z wD [Ca w a]=Z wD (out++[Ca w a]))<|Fx 68 i Fz;have c:HP w (k.getD i X)=w:=by rw[HP,if_neg (by rintro⟨_,q⟩;exact f q)]
 rw[c];let b:=k.getD i X;exact sF [(520091,72015)] []<|Fh 91 [.els (Z wD (out++[Ca w b]))]<|FN 65 66 71 wD k i<|Ftb 73 (k.getD i X != 0)<|Fek 77 wD k (↑i) i<|Fc 79 (@Z9J w b aa aa aa aa)<|Ffb 81 (Ca w b==0)<|Fs 90 (Z wD [Ca w b])<|Fa (by(simp[*];omega):(Z wD out).length+(Z wD [Ca w b]).length<=2^30)<|Fa (ms:Z wD out++Z wD [Ca w b]=Z wD (out++[Ca w b]))<|Fx 68 i Fz
end
def Zdx w k roots out:CP (Zm f36 0) (Z0t w k roots out k.length).st (.ext 0) (Tg.st ⟨tm 122 [(6,.pt 8006 0 0),(7,.d (.sl 0 [])),(8,.d (.sl 0 [])),(9,.pt 8009 0 0),(10,nI 0),(11,.pt 32011 0 0),(13,Z2 roots),(15,.ow 72015)],[(72015,.arr 35 1 (out.map wD)),(32011,.box 138 w.cells),(8009,.box 73 [nI 0,nI 0,nI 0,nI 0,nI 0,nI 0]),(8006,.box 28 [nI 0,nI 0,.d (.sl 0 []),.d (.sl 0 []),nI 0,nI 0])],60⟩):=by exact sF [] []<|FO 65 66 wD k Fz
def Z7p(w:Z7)(k roots:List Int)(c:Zx w.j.W)(hl:w.j.W.length<=4096)(b:w.Q.length<=1048576)(a:k.length<=1048575)(d:CQ k)(hc:w.rep.cleared=0):CP (Zi f36 0) (Z0t (EL w k 0) k roots (EC w k 0) 0).st .nrm (Tg.st ⟨tm 122 [(6,.pt 8006 0 0),(7,.d (.sl 0 [])),(8,.d (.sl 0 [])),(9,.pt 8009 0 0),(10,nI 0),(11,.pt 32011 0 0),(13,Z2 roots),(15,.ow 72015)],[(72015,.arr 35 1 ((EC w k k.length).map wD)),(32011,.box 138 (EL w k k.length).cells),(8009,.box 73 [nI 0,nI 0,nI 0,nI 0,nI 0,nI 0]),(8006,.box 28 [nI 0,nI 0,.d (.sl 0 []),.d (.sl 0 []),nI 0,nI 0])],60⟩):=by refine Bp (S:=λi=>(Z0t (EL w k i) k roots (EC w k i) i).st) k.length kr (λi hi=>?_) (Zdx _ k roots _);have h:=Sl w k i;exact ZhI _ k roots _ i (by rw[h.1];exact c) (by rw[h.1];exact hl) (by rw[h.2.2.2.1];exact b) a (Da d i) (by rw[TS];omega) hi oq
abbrev cB(h:Heap)(s k:List Int):Z7:=EL (Bz (rootsF (Zr h) s).1).1 k k.length
abbrev cA(h:Heap)(s k:List Int):Z7:=Cn (cB h s k) (cB h s k).old.length
def Zgo{n:Int}(h:0<=n/\n<=255):(Z8 (1+16*n)).1.length=n:=by
 have e:G0 (1+16*n)=⟨0,n,0⟩:=by(simp only[G0,Zz.mk.injEq];omega)
 have a:=Dr h;unfold Z8;rw[e,a];simp
def Zjq{w:Z7}(h:BA w){x:Int}(hx:x∈w.old):BA (H2 w x):=by
 unfold H2;split
 .rename_i hc;have hr:=h.r x (Lh _ hx);have hh:=Bq w.j.W x;have hl:(BE ⟨0,(ZB w x).length,0⟩).length=(Zl w.j.W x+1).toNat:=by
   show(BE ⟨0,Zl w.j.W x,0⟩).length=_;simp[BE];omega
  have hin:4096<=x/\x-4096+(BE ⟨0,(ZB w x).length,0⟩).length<=w.j.W.length:=by omega
  have hlen:(ZX w.j.W x (BE ⟨0,(ZB w x).length,0⟩)).1.length=w.j.W.length:=by
   unfold ZX;rw[if_pos hin];exact NI oq
  have:=h.withWords hlen (λa ha=>?_)
  .exact⟨this.L,this.r,this.s,this.f,this.z⟩
  .by_cases he:a=x
   .subst he;have:Zl (ZX w.j.W a (BE ⟨0,(ZB w a).length,0⟩)).1 a=Zl w.j.W a:=by
     have e1:=SH (b:=a) hin oq;unfold Zl at *;rw[e1];have e2:(BE ⟨0,(ZB w a).length,0⟩).getD (a-a).toNat 0=1+16*(Z8 (Z1 w.j.W a).1).1.length:=by
      rw[Int.sub_self];show(Zy ⟨0,(ZB w a).length,0⟩).1=_;rw[Dr (show 0<=(ZB w a).length/\(ZB w a).length<=255 from hh)];rfl
     rw[e2];exact Zgo hh
    omega
   .have s1:=h.s a ha x (Lh _ hx);have s2:=h.s x (Lh _ hx) a ha;have ha0:=Bq w.j.W a;have:Zl (ZX w.j.W x (BE ⟨0,(ZB w x).length,0⟩)).1 a=Zl w.j.W a:=by
     have e1:=Ap (b:=a) hin (by
      rcases Int.lt_or_lt_of_ne he with q|q
      .exact La q
      .have:=s2 q;exact Lb oq)
     unfold Zl;rw[e1]
    omega
 .exact h
def Z67{w}(a:FOk w)(h:BA w):∀k,k<=w.old.length->BA (Cn w k)|0,_=>h|k+1,hk=>Zjq (Z67 a h k oq) (by rw[(Il w a k).2.2.2.2.2.1];exact ZT.2 ⟨k,by omega,rfl⟩)
def Z90{w}(h:BA w) k:∀i,BA (EL w k i)
 |0=>h
 |i+1=>by
  have a:=Z90 h k i;exact⟨a.L,a.r,a.s,a.f,a.z⟩
def Z6F{w}(h:FOk w) k:∀i,FOk (EL w k i)
 |0=>h
 |i+1=>by
  have a:=Z6F h k i;exact⟨a.W,a.wl,a.pl,a.ol,a.o,a.tl,a.ql⟩
def ZF(h:Heap)(s:List Int):Z7:=(Bz (rootsF (Zr h) s).1).1
def CB(h:Heap)(s k:List Int):Z7:=EL (ZF h s) k k.length
def Cz(h:Heap)(s k:List Int):Z7:=Cn (CB h s k) (CB h s k).old.length
def BB(h:Heap)(s k:List Int):Z7:=GZ (Cz h s k)
def Eo(w:Z7):Heap:=⟨w.j.C,w.j.W,w.j.P,1-w.j.S,if 0<w.T.length then ZH w else -1⟩
structure COk (h:Heap) (s k:List Int):Prop where
 w2:Bb (ZF h s)
 i2:BA (ZF h s)
 x2:GB (Zr h) (ZF h s)
 f3:FOk (CB h s k)
 i3:BA (CB h s k)
 r3:(CB h s k).rep.filled=0/\(CB h s k).rep.freed=0
 f4:FOk (Cz h s k)
 i4:BA (Cz h s k)
 h4:(Cz h s k).j.C=h.C/\(Cz h s k).j.P=(ZF h s).j.P/\(Cz h s k).j.S=(ZF h s).j.S/\(Cz h s k).T=(ZF h s).T/\(Cz h s k).rep.freed=0
section
variable(h:Heap)(s k:List Int)(d:Zx h.W)(a:Z9 h=Y)(e:(rootsF (Zr h) s).2.2=0)(b:(Bz (rootsF (Zr h) s).1).2=0)
include d a e b
theorem cOk:COk h s k:=by have u:=R1 d a;have hi:=Se a;have f:=Sq (roots:=s) u hi e;have w2:Bb (ZF h s):=Zfx _ f.1 b;have i2:=ZaO f.1 f.2.1 b;have x2:GB (Zr h) (ZF h s):=f.2.2.1.trans i2.2;have f3:FOk (CB h s k):=Z6F w2.fok k _;have i3:BA (CB h s k):=Z90 i2.1 k _;obtain⟨a1,a2,g,a4,i,j,a7,a8⟩:=Sl (ZF h s) k k.length;have c:=w2.r0;have r3:(CB h s k).rep.filled=0/\(CB h s k).rep.freed=0:=⟨i.trans c.1,j.trans c.2.1⟩;obtain⟨l,m,p,q,b4,b5,r,b7,t,b9,n,o⟩:=Il (CB h s k) f3 (CB h s k).old.length;refine⟨w2,i2.1,x2,f3,i3,r3,l,Z67 f3 i3 _ (Le _), ?_, ?_, ?_, ?_, ?_⟩;show(Cn (CB h s k) (CB h s k).old.length).j.C=_;rw[m];show(EL (ZF h s) k k.length).j.C=_;rw[a1];exact x2.c;show(Cn (CB h s k) (CB h s k).old.length).j.P=_;rw[p];show(EL (ZF h s) k k.length).j.P=_;rw[a1];show(Cn (CB h s k) (CB h s k).old.length).j.S=_;rw[q];show(EL (ZF h s) k k.length).j.S=_;rw[a1];show(Cn (CB h s k) (CB h s k).old.length).T=_;rw[r];exact g;show(Cn (CB h s k) (CB h s k).old.length).rep.freed=_;rw[t];exact r3.2
theorem Z3W:(Cz h s k).j.P.length<=64/\0<=(Cz h s k).j.C.pw/\(Cz h s k).j.C.pw<=64/\(Cz h s k).j.P.length*(Cz h s k).j.C.pw.toNat<=(Cz h s k).j.W.length/\(Cz h s k).j.W.length<=4096:=by
 have c:=cOk h s k d a e b;have po:=B6 a;have hL:=c.i4.L;have f:=c.w2.pl;have g:=c.x2.c;have j:(ZF h s).j.C=h.C:=g;rw[j]at f;rw[c.h4.1]at hL;have i:=c.f4.wl;rw[c.h4.1,c.h4.2.1];refine⟨by omega,by omega,by omega, ?_,i⟩;have:(((ZF h s).j.P.length*h.C.pw.toNat:Nat):Int)=h.C.pw*h.C.pg:=by(rw[LO,Lz oq,f,LK])
 omega
end
def collectF(h:Heap)(s k:List Int):Heap×List Int×List Int×Rep×Int:=
 if Z9 h=Y then
  (if Bw h s=Y/\Bw h k=Y then
   (if(rootsF (Zr h) s).2.2=0 then
    (if(Bz (rootsF (Zr h) s).1).2=0 then(Eo (BB h s k),(rootsF (Zr h) s).2.1,EC (ZF h s) k k.length,(BB h s k).rep,0)
    else(B9,[],[],RA,(Bz (rootsF (Zr h) s).1).2))
   else(B9,[],[],RA,(rootsF (Zr h) s).2.2))
  else(B9,[],[],RA,19))
 else(B9,[],[],RA,1)
section
variable(h:Heap)(s k:List Int)(hw:Zx h.W)(hs:s.length<=1048575)(hk:k.length<=1048575)(hs2:CQ s)(hk2:CQ k)
include hw hs hk hs2 hk2
theorem ZjQ(hp:Z9 h=Y)(hr:Bw h s=Y)(hr':Bw h k=Y)(e:(rootsF (Zr h) s).2.2=0)(e2:(Bz (rootsF (Zr h) s).1).2=0):GP 36 [h.av,Z2 s,Z2 k] M (.tu [(Eo (BB h s k)).av,Z2 (rootsF (Zr h) s).2.1,Z2 (EC (ZF h s) k k.length),.ag (BB h s k).rep.cells,nI 0]) []:=by have hb:=R1 hw hp;have hi:=Se hp;have hg:=Z22 hr;have ho:=Sq (roots:=s) hb hi e;have ho1:=ho.1;have ho4:=ho.2.2.2.2;have c:=cOk h s k hw hp e e2;obtain⟨q1,q2,q3,q4,q5⟩:=Z3W h s k hw hp e e2;have w2:=c.w2;have f3:=c.f3;have r3:=c.r3.1;obtain⟨g1,g2,g3,g4,g5⟩:=c.h4;have v1:=w2.W;have v2:=w2.wl;have v3:=w2.mu;have v4:=w2.tl;have v5:=w2.sp;have v6:=w2.r0.2.2;have v7:=congrArg LU g4;have z1:(BB h s k).T=(Cz h s k).T:=rfl;have v8:=congrArg LU z1;have z2:(BB h s k).j.S=(Cz h s k).j.S:=rfl;clear c;rcases bb (O (0<(↑(BB h s k).T.length:Int)))with hc0|hc0<;>have hc0p:=hc0<;>simp only[bs]at hc0p;rw[show Eo (BB h s k)=Heap.mk (BB h s k).j.C (BB h s k).j.W (BB h s k).j.P ((1:Int)-(BB h s k).j.S) ((BB h s k).T.getD ((↑(BB h s k).T.length:Int)-(1:Int)).toNat X)from by(simp only[Eo,ZH] ;exact sj)];refine Zc [((20:Nat),[Hint.call Y (bL (Z9 h)) []]),((21:Nat),[Hint.br M]),((26:Nat),[Hint.call Y (bL (Bw h s)) []]),((31:Nat),[Hint.call Y (bL (Bw h k)) []]),((33:Nat),[Hint.br M]),((38:Nat),[Hint.call M (AV.tu [(Zr h).av,nI (0:Int)]) []]),((44:Nat),[Hint.call M (AV.tu [(rootsF (Zr h) s).1.av,Z2 (rootsF (Zr h) s).2.1,nI (rootsF (Zr h) s).2.2]) []]),((49:Nat),[Hint.br M]),((55:Nat),[Hint.call M (AV.tu [(ZF h s).av,nI (Bz (rootsF (Zr h) s).1).2]) []]),((59:Nat),[Hint.br M]),((15:Nat),[Hint.own]),((93:Nat),[Hint.call M (Cz h s k).av []]),((94:Nat),[Hint.call M (BB h s k).av []]),((98:Nat),[Hint.int ((1:Int)-(BB h s k).j.S)]),((105:Nat),[Hint.int (↑(BB h s k).T.length:Int)]),((107:Nat),[Hint.br Y]),((111:Nat),[Hint.int ((↑(BB h s k).T.length:Int)-(1:Int))]),((112:Nat),[Hint.el (iD ((BB h s k).T.getD ((↑(BB h s k).T.length:Int)-(1:Int)).toNat X))])] [((0:Nat),Tg.mk (tm (122:Nat) [((2:Nat),Z2 k),((6:Nat),AV.pt (8006:Nat) (0:Nat) (0:Nat)),((7:Nat),AV.d (DV.sl (0:Nat) [])),((8:Nat),AV.d (DV.sl (0:Nat) [])),((9:Nat),AV.pt (8009:Nat) (0:Nat) (0:Nat)),((10:Nat),nI (0:Int)),((11:Nat),AV.pt (32011:Nat) (0:Nat) (0:Nat)),((13:Nat),Z2 (rootsF (Zr h) s).2.1),((15:Nat),AV.ow (72015:Nat)),((16:Nat),nI (0:Int))]) [((72015:Nat),Z3.arr 35 (1:Nat) []),((32011:Nat),Z3.box 138 (ZF h s).cells),((8009:Nat),Z3.box 73 [nI (0:Int),nI (0:Int),nI (0:Int),nI (0:Int),nI (0:Int),nI (0:Int)]),((8006:Nat),Z3.box 28 [nI (0:Int),nI (0:Int),AV.d (DV.sl (0:Nat) []),AV.d (DV.sl (0:Nat) []),nI (0:Int),nI (0:Int)])] (60:Nat),Ex.nrm,Tg.mk (tm (122:Nat) [((6:Nat),AV.pt (8006:Nat) (0:Nat) (0:Nat)),((7:Nat),AV.d (DV.sl (0:Nat) [])),((8:Nat),AV.d (DV.sl (0:Nat) [])),((9:Nat),AV.pt (8009:Nat) (0:Nat) (0:Nat)),((10:Nat),nI (0:Int)),((11:Nat),AV.pt (32011:Nat) (0:Nat) (0:Nat)),((13:Nat),Z2 (rootsF (Zr h) s).2.1),((15:Nat),AV.ow (72015:Nat))]) [((72015:Nat),Z3.arr 35 (1:Nat) (Z wD (EC (ZF h s) k k.length))),((32011:Nat),Z3.box 138 (CB h s k).cells),((8009:Nat),Z3.box 73 [nI (0:Int),nI (0:Int),nI (0:Int),nI (0:Int),nI (0:Int),nI (0:Int)]),((8006:Nat),Z3.box 28 [nI (0:Int),nI (0:Int),AV.d (DV.sl (0:Nat) []),AV.d (DV.sl (0:Nat) []),nI (0:Int),nI (0:Int)])] (60:Nat))] [] dd func36 [] (φ:=GP 65 [h.av] Y (bL (Z9 h)) []/\(!Z9 h)=M/\M=M/\GP 42 [h.av,Z2 s] Y (bL (Bw h s)) []/\((!!Bw h s)=Y->GP 42 [h.av,Z2 k] Y (bL (Bw h k)) [])/\(!Bw h s||!Bw h k)=M/\M=M/\GP 82 [h.av] M (AV.tu [(Zr h).av,nI (0:Int)]) []/\GP 83 [(Zr h).av,Z2 s] M (AV.tu [(rootsF (Zr h) s).1.av,Z2 (rootsF (Zr h) s).2.1,nI (rootsF (Zr h) s).2.2]) []/\((rootsF (Zr h) s).2.2 != (0:Int))=M/\M=M/\GP 84 [(rootsF (Zr h) s).1.av] M (AV.tu [(ZF h s).av,nI (Bz (rootsF (Zr h) s).1).2]) []/\((Bz (rootsF (Zr h) s).1).2 != (0:Int))=M/\M=M/\CP (Zi f36 (0:Nat)) (Tg.mk (tm (122:Nat) [((2:Nat),Z2 k),((6:Nat),AV.pt (8006:Nat) (0:Nat) (0:Nat)),((7:Nat),AV.d (DV.sl (0:Nat) [])),((8:Nat),AV.d (DV.sl (0:Nat) [])),((9:Nat),AV.pt (8009:Nat) (0:Nat) (0:Nat)),((10:Nat),nI (0:Int)),((11:Nat),AV.pt (32011:Nat) (0:Nat) (0:Nat)),((13:Nat),Z2 (rootsF (Zr h) s).2.1),((15:Nat),AV.ow (72015:Nat)),((16:Nat),nI (0:Int))]) [((72015:Nat),Z3.arr 35 (1:Nat) []),((32011:Nat),Z3.box 138 (ZF h s).cells),((8009:Nat),Z3.box 73 [nI (0:Int),nI (0:Int),nI (0:Int),nI (0:Int),nI (0:Int),nI (0:Int)]),((8006:Nat),Z3.box 28 [nI (0:Int),nI (0:Int),AV.d (DV.sl (0:Nat) []),AV.d (DV.sl (0:Nat) []),nI (0:Int),nI (0:Int)])] (60:Nat)).st Ex.nrm (Tg.mk (tm (122:Nat) [((6:Nat),AV.pt (8006:Nat) (0:Nat) (0:Nat)),((7:Nat),AV.d (DV.sl (0:Nat) [])),((8:Nat),AV.d (DV.sl (0:Nat) [])),((9:Nat),AV.pt (8009:Nat) (0:Nat) (0:Nat)),((10:Nat),nI (0:Int)),((11:Nat),AV.pt (32011:Nat) (0:Nat) (0:Nat)),((13:Nat),Z2 (rootsF (Zr h) s).2.1),((15:Nat),AV.ow (72015:Nat))]) [((72015:Nat),Z3.arr 35 (1:Nat) (Z wD (EC (ZF h s) k k.length))),((32011:Nat),Z3.box 138 (CB h s k).cells),((8009:Nat),Z3.box 73 [nI (0:Int),nI (0:Int),nI (0:Int),nI (0:Int),nI (0:Int),nI (0:Int)]),((8006:Nat),Z3.box 28 [nI (0:Int),nI (0:Int),AV.d (DV.sl (0:Nat) []),AV.d (DV.sl (0:Nat) []),nI (0:Int),nI (0:Int)])] (60:Nat)).st/\GP 87 [(CB h s k).av] M (Cz h s k).av []/\GP 86 [(Cz h s k).av] M (BB h s k).av []/\Lq.wrap ((1:Int)-(BB h s k).j.S)=(1:Int)-(BB h s k).j.S/\(↑(Z iD (BB h s k).T).length:Int)=(↑(BB h s k).T.length:Int)/\O ((0:Int)<(↑(BB h s k).T.length:Int))=Y/\Y=Y/\Lq.wrap ((↑(BB h s k).T.length:Int)-(1:Int))=(↑(BB h s k).T.length:Int)-(1:Int)/\(0:Int)<=(↑(BB h s k).T.length:Int)-(1:Int)/\(Z iD (BB h s k).T)[((↑(BB h s k).T.length:Int)-(1:Int)).toNat]?=some (iD ((BB h s k).T.getD ((↑(BB h s k).T.length:Int)-(1:Int)).toNat X))) ?_ kr kr;exact⟨(@CG (h)),(by(simp only[bs];omega)),rfl,(@N4 (h) (s) aa oq),(λhg=>by(try simp only[bs]at hg);exact@N4 (h) (k) (by(try simp only[bs]at hg);assumption) (by(try simp only[bs]at hg);omega)),(by simp only[bs, *,true_or,or_true,true_and,and_true,not_true_eq_false,not_false_eq_true,Bool.true_eq_false,Bool.false_eq_true]),rfl,(@OA (h) aa aa aa),(@OH (Zr h) (s) aa aa aa),(by(simp only[bs];omega)),rfl,(@Z3n ((rootsF (Zr h) s).1) aa),(by(simp only[bs];omega)),rfl,(@Z7p (ZF h s) (k) ((rootsF (Zr h) s).2.1) aa aa oq aa aa aa),(@ZaP (CB h s k) aa aa),(@Z5n (Cz h s k) aa oq aa aa aa),(by exact Zf rfl oq oq),(by simp only[Lm]),aa,rfl,(by exact Zf rfl oq oq),(by exact Zn oq oq oq)⟩;rw[show Eo (BB h s k)=Heap.mk (BB h s k).j.C (BB h s k).j.W (BB h s k).j.P ((1:Int)-(BB h s k).j.S) (-1:Int)from by rw[Eo,if_neg oq]];let y0:=rootsF (Zr h) s;exact gF [] func36 []<|Fh 15 [.own]<|Fc 20 (@CG h)<|Ffb 21 (!Z9 h)<|Fc 26 (@N4 h s aa oq)<|FcG 31 (!!Bw h s) (λhg=>by(try simp only[bs]at hg);exact@N4 h k aa oq)<|Ffs 33 (!Bw h s||!Bw h k)<|Fc 38 (@OA h aa aa aa)<|Fc 44 (@OH (Zr h) s aa aa aa)<|Ffb 49 (y0.2.2 != 0)<|Fc 55 (@Z3n (y0.1) aa)<|Ffb 59 ((Bz y0.1).2 != 0)<|Fu (@Z7p (ZF h s) k (y0.2.1) aa aa oq aa aa aa)<|Fc 93 (@ZaP (CB h s k) aa aa)<|Fc 94 (@Z5n (Cz h s k) aa oq aa aa aa)<|Fi 98 (1-(BB h s k).j.S)<|Fl 105 iD (BB h s k).T<|Ff 107 hc0 Fz
end
def pinB(w:Zo)(i:Nat)(n:Int):Zo:=⟨⟨w.j.C,w.j.W,w.j.P.set i ⟨(w.j.P.getD i X).K,(w.j.P.getD i X).S,(w.j.P.getD i X).U,(w.j.P.getD i X).N+n⟩,w.j.S,w.j.B⟩,w.G,w.E⟩
def Iy(w:Zo)(t:Tape):Nat:=(Z4 w.j.C (w.pick t)).1.toNat
def Zo.pin(w:Zo)(t:Tape):Zo:=
  if(Z4 w.j.C (w.pick t)).2.2=0 then
    (if 0<(w.j.P.getD (Iy w t) X).N/\(w.pickT t).next 2=0 then pinB w (Iy w t) (-1)
     else if 0<(w.j.P.getD (Iy w t) X).N\/(w.j.P.getD (Iy w t) X).K=2\/(crowd w.j.P:Int)<w.j.C.pg/4 then pinB w (Iy w t) 1 else w)else w
def Zo.pinT(w:Zo)(t:Tape):Tape:=if(Z4 w.j.C (w.pick t)).2.2=0/\0<(w.j.P.getD (Iy w t) X).N then(w.pickT t).step 2 else w.pickT t
def Zeq w t(hw:Ai w)(ht:EH t)(ha:t.at'<=1000000)(hv:Zv w.j.C=Y)(hp:(w.j.P.length:Int)=w.j.C.pg)(hpn:∀j,j<w.j.P.length->-1048576<=(w.j.P.getD j X).N/\(w.j.P.getD j X).N<=4294967296):LP 104 [w.av,.pt 0 0 0] [t.b] (w.pin t).av [(w.pinT t).b]:=by
 have hb:=BI.1 hv;have s1:=Z29 w t;have k1:=Nw ht s1.2.2 oq oq;have p1:=Ar hw t;have q1:=hpn (Iy w t);have hcr:=RV w.j.P w.j.P.length;unfold Iy at q1;have o1:=λe=>H4 (a:=w.pick t) hv e;by_cases e:(Z4 w.j.C (w.pick t)).2.2=0;have o2:=o1 e;by_cases c1:0<(w.j.P.getD (Z4 w.j.C (w.pick t)).1.toNat X).N
 .have eT:w.pinT t=(w.pickT t).step 2:=by rw[Zo.pinT,if_pos ⟨e,c1⟩]
  by_cases c2:(w.pickT t).next 2=0
  have eP:w.pin t=⟨⟨w.j.C,w.j.W,w.j.P.set (Z4 w.j.C (w.pick t)).1.toNat ⟨(w.j.P.getD (Z4 w.j.C (w.pick t)).1.toNat X).K,(w.j.P.getD (Z4 w.j.C (w.pick t)).1.toNat X).S,(w.j.P.getD (Z4 w.j.C (w.pick t)).1.toNat X).U,(w.j.P.getD (Z4 w.j.C (w.pick t)).1.toNat X).N-1⟩,w.j.S,w.j.B⟩,w.G,w.E⟩:=by rw[Zo.pin,if_pos e,if_pos ⟨c1,c2⟩];rfl
  rw[eP,eT];exact lF func104 []<|Fh 42 [.br Y]<|Fh 37 [.br Y]<|Fh 51 [.el (w.j.P.getD (Z4 w.j.C (w.pick t)).1.toNat X).dv]<|Fp 12 (@Ni w t aa aa oq)<|Fc 18 (@Hr w.j.C (w.pick t) oq oq)<|Ffb 23 ((Z4 w.j.C (w.pick t)).2.2 != 0)<|FA 25 29 Z0.dv w.j.P<|Fmq 41 Z0.dv w.j.P ((Z4 w.j.C (w.pick t)).1)<|Fb (O (0<(w.j.P.getD (Z4 w.j.C (w.pick t)).1.toNat X).N)=Y)<|Fp 45 (@E9 (w.pickT t) (2) aa oq oq)<|Fb (((w.pickT t).next (2:Int)==0)=Y)<|Fa (B3 oq:(Z Z0.dv w.j.P)[(Z4 w.j.C (w.pick t)).1.toNat]?=some (w.j.P.getD (Z4 w.j.C (w.pick t)).1.toNat X).dv)<|Fi 52 ((w.j.P.getD (Z4 w.j.C (w.pick t)).1.toNat X).N-1)<|Fa (B3 oq:(Z Z0.dv w.j.P)[(Z4 w.j.C (w.pick t)).1.toNat]?=some (w.j.P.getD (Z4 w.j.C (w.pick t)).1.toNat X).dv)<|FS 10054 Z0.dv w.j.P ((Z4 w.j.C (w.pick t)).1.toNat) (Z0.mk (w.j.P.getD (Z4 w.j.C (w.pick t)).1.toNat X).K (w.j.P.getD (Z4 w.j.C (w.pick t)).1.toNat X).S (w.j.P.getD (Z4 w.j.C (w.pick t)).1.toNat X).U ((w.j.P.getD (Z4 w.j.C (w.pick t)).1.toNat X).N-1)) ((w.j.P.getD (Z4 w.j.C (w.pick t)).1.toNat X).dv) Fz;have eP:w.pin t=⟨⟨w.j.C,w.j.W,w.j.P.set (Z4 w.j.C (w.pick t)).1.toNat ⟨(w.j.P.getD (Z4 w.j.C (w.pick t)).1.toNat X).K,(w.j.P.getD (Z4 w.j.C (w.pick t)).1.toNat X).S,(w.j.P.getD (Z4 w.j.C (w.pick t)).1.toNat X).U,(w.j.P.getD (Z4 w.j.C (w.pick t)).1.toNat X).N+1⟩,w.j.S,w.j.B⟩,w.G,w.E⟩:=by rw[Zo.pin,if_pos e,if_neg (λq=>c2 q.2),if_pos (.inl c1)];rfl
  rw[eP,eT];exact lF func104 []<|Fh 42 [.br Y]<|Fh 37 [.br M]<|Fh 59 [.el (w.j.P.getD (Z4 w.j.C (w.pick t)).1.toNat X).dv]<|Fh 65 [.el (w.j.P.getD (Z4 w.j.C (w.pick t)).1.toNat X).dv]<|Fh 76 [.int (w.j.C.pg/4)]<|Fh 55 [.br Y]<|Fh 82 [.el (w.j.P.getD (Z4 w.j.C (w.pick t)).1.toNat X).dv]<|Fp 12 (@Ni w t aa aa oq)<|Fc 18 (@Hr w.j.C (w.pick t) oq oq)<|Ffb 23 ((Z4 w.j.C (w.pick t)).2.2 != 0)<|FA 25 29 Z0.dv w.j.P<|Fmq 41 Z0.dv w.j.P ((Z4 w.j.C (w.pick t)).1)<|Fb (O (0<(w.j.P.getD (Z4 w.j.C (w.pick t)).1.toNat X).N)=Y)<|Fp 45 (@E9 (w.pickT t) (2) aa oq oq)<|Fb (((w.pickT t).next (2:Int)==0)=M)<|Fa (B3 oq:(Z Z0.dv w.j.P)[(Z4 w.j.C (w.pick t)).1.toNat]?=some (w.j.P.getD (Z4 w.j.C (w.pick t)).1.toNat X).dv)<|Fa (by intro hg;(try simp only[bs]at hg);exact B3 oq:(!decide (0<(w.j.P.getD (Z4 w.j.C (w.pick t)).1.toNat X).N))=Y->(Z Z0.dv w.j.P)[(Z4 w.j.C (w.pick t)).1.toNat]?=some (w.j.P.getD (Z4 w.j.C (w.pick t)).1.toNat X).dv)<|FcG 71 (!(O (0<(w.j.P.getD (Z4 w.j.C (w.pick t)).1.toNat X).N)||(w.j.P.getD (Z4 w.j.C (w.pick t)).1.toNat X).K==2)) (λhg=>by(try simp only[bs]at hg);exact@Z1m w.j oq)<|Fa (by intro hg;(try simp only[bs]at hg);rw[Ef oq oq];omega:(!(O (0<(w.j.P.getD (Z4 w.j.C (w.pick t)).1.toNat X).N)||(w.j.P.getD (Z4 w.j.C (w.pick t)).1.toNat X).K==2))=Y->Lq.wrap (w.j.C.pg.tdiv 4)=w.j.C.pg/4)<|Fa (by intro hg;(try simp only[bs]at hg);omega:(!(O (0<(w.j.P.getD (Z4 w.j.C (w.pick t)).1.toNat X).N)||(w.j.P.getD (Z4 w.j.C (w.pick t)).1.toNat X).K==2))=Y->(4:Int)=0->False)<|Fb ((O (0<(w.j.P.getD (Z4 w.j.C (w.pick t)).1.toNat X).N)||(w.j.P.getD (Z4 w.j.C (w.pick t)).1.toNat X).K==2||O ((↑(crowd w.j.P):Int)<w.j.C.pg/4))=Y)<|Fa (B3 oq:(Z Z0.dv w.j.P)[(Z4 w.j.C (w.pick t)).1.toNat]?=some (w.j.P.getD (Z4 w.j.C (w.pick t)).1.toNat X).dv)<|Fi 83 ((w.j.P.getD (Z4 w.j.C (w.pick t)).1.toNat X).N+1)<|Fa (B3 oq:(Z Z0.dv w.j.P)[(Z4 w.j.C (w.pick t)).1.toNat]?=some (w.j.P.getD (Z4 w.j.C (w.pick t)).1.toNat X).dv)<|FS 10085 Z0.dv w.j.P ((Z4 w.j.C (w.pick t)).1.toNat) (Z0.mk (w.j.P.getD (Z4 w.j.C (w.pick t)).1.toNat X).K (w.j.P.getD (Z4 w.j.C (w.pick t)).1.toNat X).S (w.j.P.getD (Z4 w.j.C (w.pick t)).1.toNat X).U ((w.j.P.getD (Z4 w.j.C (w.pick t)).1.toNat X).N+1)) ((w.j.P.getD (Z4 w.j.C (w.pick t)).1.toNat X).dv) Fz
 have eT:w.pinT t=w.pickT t:=by rw[Zo.pinT,if_neg (λq=>c1 q.2)]
 by_cases c3:(w.j.P.getD (Z4 w.j.C (w.pick t)).1.toNat X).K=2\/(crowd w.j.P:Int)<w.j.C.pg/4;have eP:w.pin t=⟨⟨w.j.C,w.j.W,w.j.P.set (Z4 w.j.C (w.pick t)).1.toNat ⟨(w.j.P.getD (Z4 w.j.C (w.pick t)).1.toNat X).K,(w.j.P.getD (Z4 w.j.C (w.pick t)).1.toNat X).S,(w.j.P.getD (Z4 w.j.C (w.pick t)).1.toNat X).U,(w.j.P.getD (Z4 w.j.C (w.pick t)).1.toNat X).N+1⟩,w.j.S,w.j.B⟩,w.G,w.E⟩:=by rw[Zo.pin,if_pos e,if_neg (λq=>c1 q.1),if_pos (.inr c3)];rfl
 rw[eP,eT];exact lF func104 []<|Fh 42 [.br M]<|Fh 45 [.bor [0] (nI ((w.pickT t).next 2)) [((w.pickT t).step 2).b]]<|Fh 59 [.el (w.j.P.getD (Z4 w.j.C (w.pick t)).1.toNat X).dv]<|Fh 65 [.el (w.j.P.getD (Z4 w.j.C (w.pick t)).1.toNat X).dv]<|Fh 76 [.int (w.j.C.pg/4)]<|Fh 55 [.br Y]<|Fh 82 [.el (w.j.P.getD (Z4 w.j.C (w.pick t)).1.toNat X).dv]<|Fp 12 (@Ni w t aa aa oq)<|Fc 18 (@Hr w.j.C (w.pick t) oq oq)<|Ffb 23 ((Z4 w.j.C (w.pick t)).2.2 != 0)<|FA 25 29 Z0.dv w.j.P<|Fmq 41 Z0.dv w.j.P ((Z4 w.j.C (w.pick t)).1)<|Fb (O (0<(w.j.P.getD (Z4 w.j.C (w.pick t)).1.toNat X).N)=M)<|Fa (B3 oq:(Z Z0.dv w.j.P)[(Z4 w.j.C (w.pick t)).1.toNat]?=some (w.j.P.getD (Z4 w.j.C (w.pick t)).1.toNat X).dv)<|Fa (by intro hg;(try simp only[bs]at hg);exact B3 oq:(!decide (0<(w.j.P.getD (Z4 w.j.C (w.pick t)).1.toNat X).N))=Y->(Z Z0.dv w.j.P)[(Z4 w.j.C (w.pick t)).1.toNat]?=some (w.j.P.getD (Z4 w.j.C (w.pick t)).1.toNat X).dv)<|FcG 71 (!(O (0<(w.j.P.getD (Z4 w.j.C (w.pick t)).1.toNat X).N)||(w.j.P.getD (Z4 w.j.C (w.pick t)).1.toNat X).K==2)) (λhg=>by(try simp only[bs]at hg);exact@Z1m w.j oq)<|Fa (by intro hg;(try simp only[bs]at hg);rw[Lw oq,Ef oq oq]:(!(O (0<(w.j.P.getD (Z4 w.j.C (w.pick t)).1.toNat X).N)||(w.j.P.getD (Z4 w.j.C (w.pick t)).1.toNat X).K==2))=Y->Lq.wrap (w.j.C.pg.tdiv 4)=w.j.C.pg/4)<|Fa (by intro hg;(try simp only[bs]at hg);omega:(!(O (0<(w.j.P.getD (Z4 w.j.C (w.pick t)).1.toNat X).N)||(w.j.P.getD (Z4 w.j.C (w.pick t)).1.toNat X).K==2))=Y->(4:Int)=0->False)<|Fb ((O (0<(w.j.P.getD (Z4 w.j.C (w.pick t)).1.toNat X).N)||(w.j.P.getD (Z4 w.j.C (w.pick t)).1.toNat X).K==2||O ((↑(crowd w.j.P):Int)<w.j.C.pg/4))=Y)<|Fa (B3 oq:(Z Z0.dv w.j.P)[(Z4 w.j.C (w.pick t)).1.toNat]?=some (w.j.P.getD (Z4 w.j.C (w.pick t)).1.toNat X).dv)<|Fi 83 ((w.j.P.getD (Z4 w.j.C (w.pick t)).1.toNat X).N+1)<|Fa (B3 oq:(Z Z0.dv w.j.P)[(Z4 w.j.C (w.pick t)).1.toNat]?=some (w.j.P.getD (Z4 w.j.C (w.pick t)).1.toNat X).dv)<|FS 10085 Z0.dv w.j.P ((Z4 w.j.C (w.pick t)).1.toNat) (Z0.mk (w.j.P.getD (Z4 w.j.C (w.pick t)).1.toNat X).K (w.j.P.getD (Z4 w.j.C (w.pick t)).1.toNat X).S (w.j.P.getD (Z4 w.j.C (w.pick t)).1.toNat X).U ((w.j.P.getD (Z4 w.j.C (w.pick t)).1.toNat X).N+1)) ((w.j.P.getD (Z4 w.j.C (w.pick t)).1.toNat X).dv) Fz;have eP:w.pin t=w:=by rw[Zo.pin,if_pos e,if_neg (λq=>c1 q.1),if_neg (λq=>q.elim c1 c3)]
 rw[eP,eT];exact lF func104 []<|Fh 42 [.br M]<|Fh 45 [.bor [0] (nI ((w.pickT t).next 2)) [((w.pickT t).step 2).b]]<|Fh 59 [.el (w.j.P.getD (Z4 w.j.C (w.pick t)).1.toNat X).dv]<|Fh 65 [.el (w.j.P.getD (Z4 w.j.C (w.pick t)).1.toNat X).dv]<|Fh 76 [.int (w.j.C.pg/4)]<|Fh 55 [.br M]<|Fp 12 (@Ni w t aa aa oq)<|Fc 18 (@Hr w.j.C (w.pick t) oq oq)<|Ffb 23 ((Z4 w.j.C (w.pick t)).2.2 != 0)<|FA 25 29 Z0.dv w.j.P<|Fmq 41 Z0.dv w.j.P ((Z4 w.j.C (w.pick t)).1)<|Fb (O (0<(w.j.P.getD (Z4 w.j.C (w.pick t)).1.toNat X).N)=M)<|Fa (B3 oq:(Z Z0.dv w.j.P)[(Z4 w.j.C (w.pick t)).1.toNat]?=some (w.j.P.getD (Z4 w.j.C (w.pick t)).1.toNat X).dv)<|Fa (by intro hg;(try simp only[bs]at hg);exact B3 oq:(!decide (0<(w.j.P.getD (Z4 w.j.C (w.pick t)).1.toNat X).N))=Y->(Z Z0.dv w.j.P)[(Z4 w.j.C (w.pick t)).1.toNat]?=some (w.j.P.getD (Z4 w.j.C (w.pick t)).1.toNat X).dv)<|FcG 71 (!(O (0<(w.j.P.getD (Z4 w.j.C (w.pick t)).1.toNat X).N)||(w.j.P.getD (Z4 w.j.C (w.pick t)).1.toNat X).K==2)) (λhg=>by(try simp only[bs]at hg);exact@Z1m w.j oq)<|Fa (by intro hg;(try simp only[bs]at hg);rw[Lw oq,Ef oq oq]:(!(O (0<(w.j.P.getD (Z4 w.j.C (w.pick t)).1.toNat X).N)||(w.j.P.getD (Z4 w.j.C (w.pick t)).1.toNat X).K==2))=Y->Lq.wrap (w.j.C.pg.tdiv 4)=w.j.C.pg/4)<|Fa (by intro hg;(try simp only[bs]at hg);omega:(!(O (0<(w.j.P.getD (Z4 w.j.C (w.pick t)).1.toNat X).N)||(w.j.P.getD (Z4 w.j.C (w.pick t)).1.toNat X).K==2))=Y->(4:Int)=0->False)<|Fb ((O (0<(w.j.P.getD (Z4 w.j.C (w.pick t)).1.toNat X).N)||(w.j.P.getD (Z4 w.j.C (w.pick t)).1.toNat X).K==2||O ((↑(crowd w.j.P):Int)<w.j.C.pg/4))=M) Fz;have eP:w.pin t=w:=by rw[Zo.pin,if_neg e]
 have eT:w.pinT t=w.pickT t:=by rw[Zo.pinT,if_neg (λq=>e q.1)]
 rw[eP,eT];exact lF func104 []<|Fp 12 (@Ni w t aa aa oq)<|Fc 18 (@Hr w.j.C (w.pick t) oq oq)<|Ftb 23 ((Z4 w.j.C (w.pick t)).2.2 != 0) Fz
def Za5(h:Heap)(s k:List Int)(g:Zx h.W)(hs:s.length<=1048575)(f:k.length<=1048575)(b:CQ s)(a:CQ k):GP 36 [h.av,Z2 s,Z2 k] M (.tu [(collectF h s k).1.av,Z2 (collectF h s k).2.1,Z2 (collectF h s k).2.2.1,.ag (collectF h s k).2.2.2.1.cells,nI (collectF h s k).2.2.2.2]) []:=by unfold collectF;by_cases d:Z9 h=Y;rw[if_pos d];by_cases c:Bw h s=Y/\Bw h k=Y;rw[if_pos c];by_cases e:(rootsF (Zr h) s).2.2=0;rw[if_pos e];by_cases i:(Bz (rootsF (Zr h) s).1).2=0;rw[if_pos i];exact ZjQ h s k g hs f b a d c.1 c.2 e i;rw[if_neg i];exact ZkK h s k g hs f b a d c.1 c.2 e i;rw[if_neg e];exact Zjb h s k g hs f b a d c.1 c.2 e;rw[if_neg c];refine ZhP h s k g hs f b a d ?_;by_cases q:Bw h s=Y;refine Lb ?_;have:¬ Bw h k=Y:=λj=>c ⟨q,j⟩;simpa using this;exact La (by simpa using q);rw[if_neg d];exact Zgv h s k g hs f b a (by simpa using d)
def Zo.collect(w:Zo):Zo:=if(collectF w.j w.G w.E).2.2.2.2=0 then⟨(collectF w.j w.G w.E).1,(collectF w.j w.G w.E).2.1,(collectF w.j w.G w.E).2.2.1⟩else w
def Zfp(w:Zo)(hw:Zx w.j.W)(hs:w.G.length<=1048575)(hk:w.E.length<=1048575)(c:CQ w.G)(b:CQ w.E):GP 23 [w.av] M w.collect.av []:=by
 by_cases e:(collectF w.j w.G w.E).2.2.2.2=0;have a:w.collect=⟨(collectF w.j w.G w.E).1,(collectF w.j w.G w.E).2.1,(collectF w.j w.G w.E).2.2.1⟩:=by rw[Zo.collect,if_pos e]
 rw[a];exact gF [] func23 []<|Fc 15 (@Za5 w.j w.G w.E aa aa aa aa aa)<|Ftb 22 ((collectF w.j w.G w.E).2.2.2.2==0) Fz;have a:w.collect=w:=by rw[Zo.collect,if_neg e]
 rw[a];exact gF [] func23 []<|Fc 15 (@Za5 w.j w.G w.E aa aa aa aa aa)<|Ffb 22 ((collectF w.j w.G w.E).2.2.2.2==0) Fz
section
variable(P:Z7->Prop)(d:∀w r,Bb w->BA w->P w->(w.fwd r).2.2=0->P (w.fwd r).1)(a:∀w q j,Bb w->BA w->P w->q∈w.Q->0<=j->j<Zl w.j.W q->(w.fwd (Z1 w.j.W (q+1+j)).1).2.2=0->P (w.in1 (q+1+j)))(b:∀w n,P w->P (HC w n))
include a in
theorem PF{w}(e:Bb w)(h:BA w)(i:P w){q:Int}(c:q∈w.Q){l:List Int}(hl:∀x∈l,0<=x/\x<Zl w.j.W q):∀k,k<=l.length->(∀j,j<k->CL w q l j=0)->P (Bg w q l k)
 |0,_,_=>i
 |k+1,hk,he=>by
  have n:=PF e h i c hl k oq (λj g=>he j oq);have ok:=(NC e q l k (λj g=>he j oq)).1;have f:=Td e h c hl k oq (λj g=>he j oq);have m:=hl _ (ZT.2 ⟨k,by omega,rfl⟩);exact a _ q (l.getD k X) ok f.1 n (f.2.q q c) m.1 (by rw[f.2.l q c];exact m.2) (he k oq)
include a b in
theorem Z0O{w}(g:Bb w)(h:BA w)(c:P w)(e:(B1 w).2.2=0):P (B1 w).1:=by
 by_cases f:w.D<w.Q.length;have o:=g.sc;have n:C4 w∈w.Q:=ZT.2 ⟨w.D.toNat,by omega,rfl⟩;unfold B1 at e⊢;rw[if_pos f]at e⊢;cases hb:(Lo (Bj w).length).find? (λk=>O (CL w (C4 w) (Bj w) k≠0))with
 |none =>
  have i:∀j,j<(Bj w).length->CL w (C4 w) (Bj w) j=0:=λj m=>by(have:=Lj.1 hb j (Li.2 m);simpa using this)
  exact b _ _ (PF P a g h c n (l:=Bj w) (NZ (ZB w (C4 w))) (Bj w).length (Le _) i)
 |some k =>simp only[hb]at e;have:=(Ly.1 hb).1;simp[e]at this
 have e:B1 w=(w,M,0):=by rw[B1,if_neg f]
 rw[e];exact c
include a b in
theorem PM{w}(c:Bb w)(h:BA w)(g:P w):∀k,(∀j,j<k->Ep w j=M)->P (Cc w k)
 |0,_=>g
 |k+1,hh=>by
  have i:=PM c h g k (λj e=>hh j oq);have ok:=(IW c k (λj e=>hh j oq)).1;have l:=(DD c h k (λj e=>hh j oq)).1;have f:=hh k oq;simp only[Ep,decide_eq_false_iff_not,not_or,Lp]at f;exact Z0O P a b ok l i f.1
include a b in
theorem Zgd{w}(f:Bb w)(h:BA w)(n:P w)(e:(Bz w).2=0):P (Bz w).1:=by
 obtain⟨k,i⟩:=SC f;obtain⟨h1,h2,l⟩:=Ly.1 i;have g:∀j,j<k->Ep w j=M:=λj m=>by simpa using l j m
 unfold Bz at e⊢;rw[i]at e⊢;simp only at e⊢;split at e;rename_i c;rw[if_pos c];exact Z0O P a b (IW f k g).1 (DD f h k g).1 (PM P a b f h n k g) c;rename_i c;exact absurd e c
include d in
theorem Z1X{w roots}(c:Bb w)(h:BA w)(f:P w):∀k,(∀j,j<k->E8 w roots j=0)->P (rootsN w roots k).1
 |0,_=>f
 |k+1,hh=>by
  have g:=Z1X c h f k (λj e=>hh j oq);have ok:=(Ah (roots:=roots) c k (λj e=>hh j oq)).1;have i:=(PL (roots:=roots) c h k (λj e=>hh j oq)).1;exact d _ _ ok i g (hh k oq)
include d in
theorem Z3K{w roots}(i:Bb w)(h:BA w)(g:P w)(e:(rootsF w roots).2.2=0):P (rootsF w roots).1:=by
 unfold rootsF at e⊢;cases hb:(Lo roots.length).find? (λk=>O (E8 w roots k≠0))with
 |none =>
  have c:∀j,j<roots.length->E8 w roots j=0:=λj f=>by(have:=Lj.1 hb j (Li.2 f);simpa using this)
  exact Z1X P d i h g roots.length c
 |some k =>simp only[hb]at e;have:=(Ly.1 hb).1;simp[e]at this
include d a b in
theorem TI{h:Heap}{s}(k:Zx h.W)(g:Z9 h=Y)(j:P (Zr h))(e:(rootsF (Zr h) s).2.2=0)(i:(Bz (rootsF (Zr h) s).1).2=0):P (ZF h s):=by have c:=R1 k g;have hi:=Se g;have f:=Sq (roots:=s) c hi e;exact Zgd P a b f.1 f.2.1 (Z3K P d c hi j e) i
end
def ZmS{l:List Z0}{i k:Nat}(h:∀m,m<k->i+1+m<l.length/\(l.getD (i+1+m) X).K=3):k<=ZE l i:=by by_cases b:k<=ZE l i;exact b;have a:=h (ZE l i) oq;exact absurd a.2 (P5 a.1)
def PT.flip{c l}(h:PT c l){i:Nat}(hi:i<l.length)(hk:(l.getD i X).K=2){s:Int}(hs:0<=s/\s<=1):PT c (ZI l i (ZE l i) s):=by
 have w:∀j,i<j->j<=i+ZE l i->(l.getD j X).K=3:=λj u v=>by(have:=(Sg (l:=l) (i:=i) (m:=j-i-1) oq).2;rwa [show i+1+(j-i-1)=j by omega]at this)
 have f:∀j,j<l.length->((ZI l i (ZE l i) s).getD j X).K=(l.getD j X).K/\((ZI l i (ZE l i) s).getD j X).U=(l.getD j X).U/\((ZI l i (ZE l i) s).getD j X).N=(l.getD j X).N:=λj d=>by(rw[HG d];split;exact⟨rfl,rfl,rfl⟩;exact⟨rfl,rfl,rfl⟩)
 refine⟨?_, ?_, ?_⟩;intro j d;rw[Ho]at d;have b:=h.b j d;rw[HG d];split;rename_i n;refine⟨hs,b.n,b.k,λq=>?_,b.k1,b.k3⟩;exfalso;have q':(l.getD j X).K=0:=q;by_cases e:j=i;subst e;omega;have:=w j oq n.2;omega;exact b;intro j d g;rw[Ho]at d⊢;rw[(f j d).1]at g;rw[(f j d).2.1];have q:=h.lg j d g;refine⟨q.1,λm u v=>?_⟩;have r:=q.2 m u v;refine⟨r.1,by rw[(f _ r.1).1];exact r.2.1, ?_⟩;rw[HG r.1,HG d];by_cases e:j=i;subst e;have hT:(need c (l.getD j X).U-1).toNat<=ZE l j:=ZmS λt a4=>by(have:=q.2 (t+1) oq oq;rw[show j+1+t=j+(t+1) by omega];exact⟨this.1,this.2.1⟩)
 rw[if_pos oq,if_pos oq];rfl;have o:¬ (i<=j/\j<=i+ZE l i):=λn=>by(have:=w j oq n.2;omega)
 have p:¬ (i<=j+m/\j+m<=i+ZE l i):=λn=>by(by_cases a0:j<i;by_cases z:j+m=i;have:=r.2.1;rw[z]at this;omega;have:=(q.2 (i-j) oq oq).2.1;rw[show j+(i-j)=i by omega]at this;omega;omega)
 rw[if_neg o,if_neg p];exact r.2.2;intro j d k;rw[Ho]at d;rw[(f j d).1]at k;obtain⟨a,a1,x,y⟩:=h.tl j d k;exact⟨a,a1,by rw[(f a oq).1];exact x,by rw[(f a oq).2.1];exact y⟩
structure Tab (B:Int) (w:Z7):Prop where
 pt:PT w.j.C w.j.P
 tk:∀x∈w.T,(w.j.P.getD x.toNat X).S=1-w.j.S
 pin:∀p∈w.j.P,p.N<=B
def Tab.withWords{B w}(h:Tab B w)(l:List Int):Tab B ⟨⟨w.j.C,l,w.j.P,w.j.S,w.j.B⟩,w.old,w.T,w.Q,w.D,w.rep⟩:=⟨h.pt,h.tk,h.pin⟩
def Tab.place{B:Int}(t:0<=B){w}(m:Bb w)(h:Tab B w){n:Int}(hn:1<=n/\n<=w.j.C.pw)(l:(w.place n).2.2=Y):PT (w.place n).1.j.C (w.place n).1.j.P/\(∀x∈(w.place n).1.T,((w.place n).1.j.P.getD x.toNat X).S=1-(w.place n).1.j.S)/\∀p∈(w.place n).1.j.P,p.N<=B:=by
 have v:=m.sp;by_cases c:Em w n;have e:w.place n=(⟨⟨w.j.C,w.j.W,Cw w.j.P (ZH w).toNat n,w.j.S,w.j.B⟩,w.old,w.T,w.Q,w.D,w.rep⟩,4096+ZH w*w.j.C.pw+(w.j.P.getD (ZH w).toNat X).U,Y):=by rw[Z7.place,if_pos c]
 unfold Em at c;have j:=m.tk _ (Hc c.1);have hi:(ZH w).toNat<w.j.P.length:=by omega
 have ok:=h.pt.b _ hi;have u:=ok.k1 j.2.2;rw[e];refine⟨h.pt.setPage hi (Lb j.2.2) ⟨ok.s,ok.n,ok.k,λq=>by simp only at q;omega,λ_=>by simp only;omega,λq=>by simp only at q;omega⟩ (Lb j.2.2), ?_, ?_⟩;intro x a;simp only;rw[SL,Cq hi];split;rename_i q;have:=h.tk _ (Hc c.1);simp only;omega;exact h.tk x a;intro p b;rcases L3 b with b|rfl;exact h.pin p b;exact h.pin (w.j.P.getD (ZH w).toNat X) (getD_in hi);by_cases i:0<=ZR w;have e:w.place n=(⟨⟨w.j.C,w.j.W,Cw (G4 w) (ZR w).toNat n,w.j.S,w.j.B⟩,w.old,w.T++[ZR w],w.Q,w.D,w.rep⟩,4096+ZR w*w.j.C.pw,Y):=by rw[Z7.place,if_neg c,if_pos i]
 obtain⟨o,r,s⟩:=AX (h:=⟨w.j.C,w.j.W,w.j.P,1-w.j.S,w.j.B⟩) (by simp only;omega) i n;have f:Cw (G4 w) (ZR w).toNat n=w.j.P.set (ZR w).toNat ⟨1,1-w.j.S,n,0⟩:=o;have g:(w.j.P.getD (ZR w).toNat X).K=0:=r;have d:(ZR w).toNat<w.j.P.length:=s;rw[e,f];refine⟨h.pt.setPage d (La g) ⟨by simp only;omega,by simp,by simp,by simp,λ_=>by simp only;omega,by simp⟩ (Lb rfl), ?_, ?_⟩;intro x a;simp only at a⊢;rw[Cq d];split;rfl;rename_i k;rcases Ld.1 a with a|a;exact h.tk x a;simp at a;subst a;exact absurd rfl k;intro p b;rcases L3 b with b|rfl;exact h.pin p b;exact t;rw[Z7.place,if_neg c,if_neg i]at l;simp at l
def Tab.fwd{B:Int}(v:0<=B) w r(b:Bb w)(hi:BA w)(h:Tab B w)(e:(w.fwd r).2.2=0):Tab B (w.fwd r).1:=by
 unfold Z7.fwd at e⊢;split at e;rename_i c1;rw[if_pos c1];exact h;rename_i c1;rw[if_neg c1];split at e;simp at e;rename_i c2;rw[if_neg c2];have f:r∈w.old:=Lp.1 c2;split at e;rename_i c3;rw[if_pos c3];exact h;rename_i c3;rw[if_neg c3];split at e;simp at e;rename_i c4;rw[if_neg c4];split at e;rename_i g;rw[if_pos g];exact⟨h.pt,h.tk,h.pin⟩;rename_i g;rw[if_neg g];split at e;rename_i a;rw[if_pos a];have a0:=b.sp;have o:=H4 b.C (Lp.1 c4);have z:=b.pl;have y:CK w r<w.j.P.length:=by unfold CK;omega
 refine⟨h.pt.flip y a oq, ?_, ?_⟩;intro x u;have t:=b.tk x u;simp only[Z7.keep,Z7.flip];rw[HG oq];split;rename_i hc;exfalso;by_cases n:x.toNat=CK w r;rw[n]at t;omega;have:=(Sg (l:=w.j.P) (i:=CK w r) (m:=x.toNat-CK w r-1) oq).2;rw[show CK w r+1+(x.toNat-CK w r-1)=x.toNat by omega]at this;omega;exact h.tk x u;intro p d;simp only[Z7.keep,Z7.flip,ZI,LC,Li]at d;obtain⟨j,s,rfl⟩:=d;split;exact h.pin (w.j.P.getD j X) (getD_in s);exact h.pin (w.j.P.getD j X) (getD_in s);rename_i a;rw[if_neg a];split at e;simp at e;rename_i q;rw[if_neg q];have k:(w.place (Z5 (ZB w r))).2.2=Y:=by simpa using q
 have c:=hi.z r f;have hs:=RZ w r;have d:Z5 (ZB w r)<=w.j.C.pw:=by(rw[GX];rcases c with c|c;exact absurd c a;exact c)
 obtain⟨q1,q2,q3⟩:=h.place v b ⟨hs.1,d⟩ k;exact⟨q1,q2,q3⟩
def Z15{B:Int}{h:Heap}(hp:Z9 h=Y)(hb:∀p∈h.P,p.N<=B):Tab B (Zr h):=by
 have hp':=hp;rw[GU]at hp';have hs:=hp'.2.2.2.1;refine⟨?_,by simp[Zr], ?_⟩
 .refine hp'.2.2.2.2.2.mapPages _ ?_ ?_ ?_ ?_
  .intro p hp;unfold Zs;split
   .rename_i hc;exact⟨by simp only;omega,hp.n,hp.k,λq=>by simp only at q;omega,hp.k1,λq=>by simp only at q;omega⟩
   .exact hp
  .intro p hp hk;unfold Zs at hk⊢;split at hk
   .rename_i hc;simp only at hk;omega
   .rename_i hc;rw[if_neg hc];exact⟨hk,rfl⟩
  .intro p hp hk;unfold Zs at hk;split at hk
   .rename_i hc;simp only at hk;omega
   .exact hk
  .intro p q hp hq h2 h3 he;have e1:Zs (1-h.S) p=p:=by rw[Zs,if_neg oq]
   have e2:Zs (1-h.S) q=q:=by rw[Zs,if_neg oq]
   rw[e1,e2];exact⟨⟨λ_=>h3,λ_=>h2⟩,λ_=>he⟩
 .intro p hp;simp only[Zr,LC]at hp;obtain⟨q,hq,rfl⟩:=hp;unfold Zs;split
  .exact hb q hq
  .exact hb q hq
def ZmQ{B:Int}(b:0<=B){h:Heap}{s}(a:Zx h.W)(c:Z9 h=Y)(f:∀p∈h.P,p.N<=B)(e:(rootsF (Zr h) s).2.2=0)(d:(Bz (rootsF (Zr h) s).1).2=0):Tab B (ZF h s):=
 TI (Tab B) (λw r a hi h e=>h.fwd b w r a hi e) (λw q j a hi h hq h0 h1 e=>(Tab.fwd b w _ a hi h e).withWords _) (λw n h=>⟨h.pt,h.tk,h.pin⟩) a c (Z15 c f) e d
structure C6 (w:Zo) (n:Nat):Prop where
 W:Zx w.j.W
 hv:Zv w.j.C=Y
 pl:(w.j.P.length:Int)=w.j.C.pg
 L:(w.j.W.length:Int)=w.j.C.pw*w.j.C.pg
 N:∀j,j<w.j.P.length->0<=(w.j.P.getD j X).N/\(w.j.P.getD j X).N<=n
 us:∀j,j<w.j.P.length->0<=(w.j.P.getD j X).U/\(w.j.P.getD j X).U<=256
 G:CQ w.G
 E:CQ w.E
 sl:w.G.length<=n
 wl:w.E.length<=n
def C6.wm{w n}(h:C6 w n)(hn:n<=1000000):Ai w:=⟨h.W,h.G,h.E,L5 h.sl oq,L5 h.wl oq⟩
def Zo.dup(w:Zo)(t:Tape):Zo:=⟨w.j,w.G++[w.pick t],w.E⟩
def Zo.step(w:Zo)(t:Tape):Zo:=
 if t.next 12<=3 then w.put ((t.step 12).header w.j.C)
 else if t.next 12<=6 then w.link (t.step 12)
 else if t.next 12<=7 then w.pin (t.step 12)
 else if t.next 12<=9 then w.drop (t.step 12)
 else if t.next 12<=10 then w.collect
 else w.dup (t.step 12)
def Zo.stepT(w:Zo)(t:Tape):Tape:=
 if t.next 12<=3 then(t.step 12).headerT w.j.C
 else if t.next 12<=6 then w.linkT (t.step 12)
 else if t.next 12<=7 then w.pinT (t.step 12)
 else if t.next 12<=9 then w.dropT (t.step 12)
 else if t.next 12<=10 then t.step 12
 else w.pickT (t.step 12)
def Oe(t:Tape) c:0<=(t.header c).map/\(t.header c).map<=4294967295:=by
 have h:∀n:Int,0<=((Gq t c).step 4).next (2^(min (min n 32) 12).toNat)/\((Gq t c).step 4).next (2^(min (min n 32) 12).toNat)<=4294967295:=by(intro n;have p:=Z2g (n:=min (min n 32) 12) oq;have r:=GT ((Gq t c).step 4) (n:=2^(min (min n 32) 12).toNat) p.1;omega)
 unfold Tape.header;split;simp;split;simp;exact h _
def Nm(t:Tape)(d:Int)(a:t.next 12=d)(b:EH t):LP 22 [.pt 0 0 0,nI 12] [t.b] (nI d) [(t.step 12).b]:=by rw[<-a];exact E9 t 12 b dd dd
section
variable(w:Zo)(t:Tape)(n:Nat)(a:C6 w n)(b:n<=1000000)(c:EH t)(ha:t.at'<=900000)
include a b c ha
theorem Zkj:LP 54 [w.av,.pt 0 0 0] [t.b] (w.step t).av [(w.stepT t).b]:=by
 have hw:=a.wm b;have h1:=a.W;have h2:=a.G;have h3:=a.E;have h4:=a.sl;have h5:=a.wl;have s1:=Ra (t:=t) 12;have k1:=Nw c s1.2.2 oq oq;have n1:=GT t (n:=12) dd;have g:=Oe (t.step 12) w.j.C;have hv:=a.hv;have i:=a.pl;have k:∀j,j<w.j.P.length->-1048576<=(w.j.P.getD j X).N/\(w.j.P.getD j X).N<=4294967296:=λj h=>by(have:=a.N j h;omega)
 have d:t.next 12=0\/t.next 12=1\/t.next 12=2\/t.next 12=3\/t.next 12=4\/t.next 12=5\/t.next 12=6\/t.next 12=7\/t.next 12=8\/t.next 12=9\/t.next 12=10\/t.next 12=11:=by omega
 rcases d with d|d|d|d|d|d|d|d|d|d|d|d;have e:w.step t=w.put ((t.step 12).header w.j.C):=by simp[Zo.step,d]
 have f:w.stepT t=(t.step 12).headerT w.j.C:=by simp[Zo.stepT,d]
 rw[e,f];exact lF func54 []<|Fp 6 (@Nm t (0) aa aa)<|Fp 17 (@Z0w (t.step 12) w.j.C aa oq aa)<|Fc 18 (@P6 w ((t.step 12).header w.j.C) aa aa) Fz;have e:w.step t=w.put ((t.step 12).header w.j.C):=by simp[Zo.step,d]
 have f:w.stepT t=(t.step 12).headerT w.j.C:=by simp[Zo.stepT,d]
 rw[e,f];exact lF func54 []<|Fp 6 (@Nm t (1) aa aa)<|Fp 17 (@Z0w (t.step 12) w.j.C aa oq aa)<|Fc 18 (@P6 w ((t.step 12).header w.j.C) aa aa) Fz;have e:w.step t=w.put ((t.step 12).header w.j.C):=by simp[Zo.step,d]
 have f:w.stepT t=(t.step 12).headerT w.j.C:=by simp[Zo.stepT,d]
 rw[e,f];exact lF func54 []<|Fp 6 (@Nm t (2) aa aa)<|Fp 17 (@Z0w (t.step 12) w.j.C aa oq aa)<|Fc 18 (@P6 w ((t.step 12).header w.j.C) aa aa) Fz;have e:w.step t=w.put ((t.step 12).header w.j.C):=by simp[Zo.step,d]
 have f:w.stepT t=(t.step 12).headerT w.j.C:=by simp[Zo.stepT,d]
 rw[e,f];exact lF func54 []<|Fp 6 (@Nm t (3) aa aa)<|Fp 17 (@Z0w (t.step 12) w.j.C aa oq aa)<|Fc 18 (@P6 w ((t.step 12).header w.j.C) aa aa) Fz;have e:w.step t=w.link (t.step 12):=by simp[Zo.step,d]
 have f:w.stepT t=w.linkT (t.step 12):=by simp[Zo.stepT,d]
 rw[e,f];exact lF func54 []<|Fp 6 (@Nm t (4) aa aa)<|Fp 25 (@Z2b w (t.step 12) aa aa oq) Fz;have e:w.step t=w.link (t.step 12):=by simp[Zo.step,d]
 have f:w.stepT t=w.linkT (t.step 12):=by simp[Zo.stepT,d]
 rw[e,f];exact lF func54 []<|Fp 6 (@Nm t (5) aa aa)<|Fp 25 (@Z2b w (t.step 12) aa aa oq) Fz;have e:w.step t=w.link (t.step 12):=by simp[Zo.step,d]
 have f:w.stepT t=w.linkT (t.step 12):=by simp[Zo.stepT,d]
 rw[e,f];exact lF func54 []<|Fp 6 (@Nm t (6) aa aa)<|Fp 25 (@Z2b w (t.step 12) aa aa oq) Fz;have e:w.step t=w.pin (t.step 12):=by simp[Zo.step,d]
 have f:w.stepT t=w.pinT (t.step 12):=by simp[Zo.stepT,d]
 rw[e,f];exact lF func54 []<|Fp 6 (@Nm t (7) aa aa)<|Fp 30 (@Zeq w (t.step 12) aa aa oq aa oq aa) Fz;have e:w.step t=w.drop (t.step 12):=by simp[Zo.step,d]
 have f:w.stepT t=w.dropT (t.step 12):=by simp[Zo.stepT,d]
 rw[e,f];exact lF func54 []<|Fp 6 (@Nm t (8) aa aa)<|Fp 36 (@Z7i w (t.step 12) aa aa oq) Fz;have e:w.step t=w.drop (t.step 12):=by simp[Zo.step,d]
 have f:w.stepT t=w.dropT (t.step 12):=by simp[Zo.stepT,d]
 rw[e,f];exact lF func54 []<|Fp 6 (@Nm t (9) aa aa)<|Fp 36 (@Z7i w (t.step 12) aa aa oq) Fz;have e:w.step t=w.collect:=by simp[Zo.step,d]
 have f:w.stepT t=t.step 12:=by simp[Zo.stepT,d]
 rw[e,f];exact lF func54 []<|Fp 6 (@Nm t (10) aa aa)<|Fc 40 (@Zfp w aa oq oq aa aa) Fz;have e:w.step t=w.dup (t.step 12):=by simp[Zo.step,d]
 have f:w.stepT t=w.pickT (t.step 12):=by simp[Zo.stepT,d]
 rw[e,f];exact lF func54 []<|Fh 49 [.els (Z wD (w.G++[w.pick (t.step 12)]))]<|Fp 6 (@Nm t (11) aa aa)<|FAx 41 44 wD w.G (by(simp[Zo.dup, *];omega))<|Fp 47 (@Ni w (t.step 12) aa aa oq)<|Fs 48 (Z wD [w.pick (t.step 12)])<|Fa (by(simp[Zo.dup, *];omega):(Z wD w.G).length+(Z wD [w.pick (t.step 12)]).length<=2^30)<|Fa (by simp[Zo.dup,L0,LZ,LB,LY,wD,iD]:Z wD w.G++Z wD [w.pick (t.step 12)]=Z wD (w.G++[w.pick (t.step 12)])) Fz
end
def Z4K{pw s l ws}(h:Zx ws):∀i,Zx (Es pw s l ws i)
 |0=>h
 |i+1=>by
  have b:=Z4K (pw:=pw) (s:=s) (l:=l) h i;unfold Es;split
  .intro x a;simp only[Ck,Ld,LG]at a;rcases a with(a|a)|a
   .exact b x (LF a)
   .omega
   .exact b x (LD a)
  .exact b
def ZbE{c l}(h:PT c l) s:PT c (l.map (BU s)):=by
 refine h.mapPages _ ?_ ?_ ?_ ?_;intro p b;unfold BU;split;exact⟨by simp,by simp,by simp,by simp,by simp,by simp⟩;exact b;intro p b a;unfold BU at a⊢;split at a;simp at a;rename_i i;rw[if_neg i];exact⟨a,rfl⟩;intro p b a;unfold BU at a;split at a;simp at a;exact a;intro p q b hq f g j;by_cases k:p.S=s;have d:BU s p=⟨0,0,0,0⟩:=by rw[BU,if_pos ⟨by omega,k⟩]
 have e:BU s q=⟨0,0,0,0⟩:=by rw[BU,if_pos ⟨by omega,by omega⟩]
 rw[d,e];simp;have d:BU s p=p:=by rw[BU,if_neg (by unfold CC;omega)]
 have e:BU s q=q:=by rw[BU,if_neg (by unfold CC;omega)]
 rw[d,e];exact⟨⟨λ_=>g,λ_=>f⟩,λ_=>j⟩
def Z8U{w}(a:Bb w) k:∀i,∀x∈EC w k i,0<=x/\x<=4294967296
 |0,x,hx=>by simp[EC]at hx
 |i+1,x,hx=>by
  simp only[EC,Ld,Lf]at hx;rcases hx with hx|rfl
  .exact Z8U a k i x hx
  .have h:=Sl w k i;unfold IV;split
   .omega
   .unfold Ca;rw[h.2.2.2.1,h.1];split
    .rename_i b;have:=a.q _ b;omega
    .have:=Z9v (EP a.W (k.getD i X)).1;omega
structure ZdU (B:Int) (h:Heap) (s k:List Int):Prop where
 p0:Z9 h=Y
 p1:Z9 (collectF h s k).1=Y
 w:Zx (collectF h s k).1.W
 n:∀p∈(collectF h s k).1.P,p.N<=B
 c:(collectF h s k).1.C=h.C
 r:∀x∈(collectF h s k).2.1,0<=x/\x<=4294967296
 rl:(collectF h s k).2.1.length=s.length
 v:∀x∈(collectF h s k).2.2.1,0<=x/\x<=4294967296
 vl:(collectF h s k).2.2.1.length=k.length
def Z4g{B:Int}(x:0<=B){h:Heap}{s k}(r:Zx h.W)(hb:∀p∈h.P,p.N<=B)(e:(collectF h s k).2.2.2.2=0):ZdU B h s k:=by
 by_cases a:Z9 h=Y;by_cases o:Bw h s=Y/\Bw h k=Y;by_cases b:(rootsF (Zr h) s).2.2=0;by_cases g:(Bz (rootsF (Zr h) s).1).2=0;have d:collectF h s k=(Eo (BB h s k),(rootsF (Zr h) s).2.1,EC (ZF h s) k k.length,(BB h s k).rep,0):=by rw[collectF,if_pos a,if_pos o,if_pos b,if_pos g]
 have z:=Sq (roots:=s) (R1 r a) (Se a) b;have c:=cOk h s k r a b g;have c5:=Z3W h s k r a b g;have u:=ZmQ x r a hb b g;obtain⟨n,t,v,g4,g5⟩:=c.h4;have a0:=c.w2.sp;have i:(ZF h s).j.C=h.C:=c.x2.c;have m:=c.w2.pl;rw[i]at m;have hL:=c.i4.L;rw[n]at hL;have j:=TB (s:=(Cz h s k).j.S) c5.2.2.2.1 (Cz h s k).j.P.length (Le _);refine⟨a, ?_, ?_, ?_, ?_, ?_, ?_, ?_, ?_⟩;rw[d,GU];simp only[Eo,BB,GZ,n,t,v,g4];have f:=ZbE (s:=(ZF h s).j.S) u.pt;rw[i]at f;refine⟨(B6 a).1, ?_,by simp only[Lm];exact m,by omega, ?_,f⟩;rw[n,t,v]at j;rw[j];exact hL;split;rename_i ht;have y:=Hc (w:=ZF h s) ht;have t1:=c.w2.tk _ y;have t2:=u.tk _ y;refine Lb ⟨t1.1,by simp only[Lm];exact t1.2.1, ?_⟩;have hx:(Z (BU (ZF h s).j.S) (ZF h s).j.P).getD (ZH (ZF h s)).toNat X=(ZF h s).j.P.getD (ZH (ZF h s)).toNat X:=by
  have hi:(ZH (ZF h s)).toNat<(ZF h s).j.P.length:=by omega
  have:(Z (BU (ZF h s).j.S) (ZF h s).j.P).getD (ZH (ZF h s)).toNat X=BU (ZF h s).j.S ((ZF h s).j.P.getD (ZH (ZF h s)).toNat X):=by simp[Lg,hi]
  rw[this,BU,if_neg (by unfold CC;omega)]
 show((Z (BU (ZF h s).j.S) (ZF h s).j.P).getD (ZH (ZF h s)).toNat X).K=1;rw[hx];exact t1.2.2;exact La rfl;rw[d];exact Z4K c.f4.W _;rw[d];intro p l;simp only[Eo,BB,GZ,t,LC]at l;obtain⟨q,hq,rfl⟩:=l;unfold BU;split;exact x;exact u.pin q hq;rw[d];exact n;rw[d];exact z.2.2.2.1;rw[d];exact z.2.2.2.2;rw[d];exact Z8U c.w2 k _;rw[d];exact TS _ _ _;rw[collectF,if_pos a,if_pos o,if_pos b,if_neg g]at e;exact absurd e g;rw[collectF,if_pos a,if_pos o,if_neg b]at e;exact absurd e b;rw[collectF,if_pos a,if_neg o]at e;simp at e;rw[collectF,if_neg a]at e;simp at e
def Zg9{h:Heap}(b:Z9 h=Y):∀p∈h.P,0<=p.N:=by rw[GU]at b;intro p a;obtain⟨i,hi,e⟩:=L2.1 a;have:=(b.2.2.2.2.2.b i hi).n.1;rwa [show h.P.getD i X=p by rw[Lg,LS hi,e];rfl]at this
def C6.of_proper{w:Zo}{n:Nat}(b:Z9 w.j=Y)(h:Zx w.j.W)(g:∀p∈w.j.P,p.N<=n)(d:CQ w.G)(e:CQ w.E)(f:w.G.length<=n)(h4:w.E.length<=n):C6 w n:=by have c:=B6 b;exact⟨h,c.1,c.2.2.2.2.2.2.2.1,c.2.2.2.2.2.1,λj a=>⟨Zg9 b _ (getD_in a),g _ (getD_in a)⟩,λj a=>by have:=En b a;omega,d,e,f,h4⟩
def C6.pin_mem{w n}(h:C6 w n):∀p∈w.j.P,0<=p.N/\p.N<=n:=by intro p a;obtain⟨i,hi,e⟩:=L2.1 a;have:=h.N i hi;rwa [show w.j.P.getD i X=p by rw[Lg,LS hi,e];rfl]at this
def C6.mono{w n}(h:C6 w n):C6 w (n+1):=
 ⟨h.W,h.hv,h.pl,h.L,λj a=>by have:=h.N j a;omega,h.us,h.G,h.E,by have:=h.sl;omega,by have:=h.wl;omega⟩
def Z2e{l}(h:CQ l){x:Int}(b:0<=x/\x<=18446744073709551615):CQ (l++[x]):=by intro y a;simp only[Ld,Lf]at a;rcases a with a|rfl;exact h y a;exact b
def C6.put{w n}(h:C6 w n){b:Zz}(f:0<=b.map/\b.map<=4294967295):C6 (w.put b) (n+1):=by unfold Zo.put;split;rename_i e;obtain⟨k1,g,c,k4,i,j,k,l⟩:=Z42 h.W f e;have po:=B6 k1;have hl:=h.sl;have d:=h.wl;have z:=(Tk g).2.1;have a1:=c.lo;have a2:=c.hi;refine C6.of_proper k l ?_ (Z2e h.G (by rw[i];omega)) h.E qo (by simp only;omega);intro p a;simp only at a;rw[j]at a;simp only at a;rcases c.pin p a with q|⟨q,m,q2⟩;omega;have:=h.pin_mem q m;omega;exact h.mono
def C6.link{w n}(h:C6 w n)(e:n<=1000000) t:C6 (w.link t) (n+1):=by
 unfold Zo.link;split;rename_i b;have g:=It b.1;have f:=h.wm e;have c:1<=(Zw w.j (w.pick t)).1.length:=by omega
 have i:=GT (w.pickT (w.pickT t)) (n:=8) dd;have hi:0<=Hu w t/\Hu w t<(Zw w.j (w.pick t)).1.length:=by(unfold Hu;rw[LQ i.1];exact⟨LJ _ oq,Lv _ oq⟩)
 have hv:0<=HJ w t/\HJ w t<=18446744073709551615:=by(unfold HJ;split;exact Ar f _;have:=GT ((w.pickT (w.pickT t)).step 8) (n:=1048576) dd;omega)
 obtain⟨s1,j,k⟩:=Z3r h.W hv b.1 hi;have hl:=h.sl;have d:=h.wl;refine C6.of_proper j k ?_ h.G h.E (by simp only;omega) (by simp only;omega);intro p a;simp only at a;rw[s1]at a;have:=h.pin_mem p a;omega;exact h.mono
def Z9r{w n}(h:C6 w n){i:Nat}(hi:i<w.j.P.length){d:Int}(hd:d=1\/(d=-1/\0<(w.j.P.getD i X).N)):C6 (pinB w i d) (n+1):=by have hp:=h.N i hi;refine⟨h.W,h.hv, ?_,h.L, ?_, ?_,h.G,h.E,by have:=h.sl;simp only[pinB];omega,by have:=h.wl;simp only[pinB];omega⟩;simp only[pinB,Lk];exact h.pl;intro j a;simp only[pinB,Lk]at a⊢;rw[Cq hi];split;simp only;omega;have:=h.N j a;omega;intro j a;simp only[pinB,Lk]at a⊢;rw[Cq hi];split;exact h.us i hi;exact h.us j a
def C6.pin{w n}(h:C6 w n) t:C6 (w.pin t) (n+1):=by
 unfold Zo.pin;split;rename_i e;have o:=H4 h.hv e;have b:=h.pl;have hi:Iy w t<w.j.P.length:=by unfold Iy;omega
 split;rename_i a;exact Z9r h hi (Lb ⟨rfl,a.1⟩);split;exact Z9r h hi (La rfl);exact h.mono;exact h.mono
def C6.drop{w n}(h:C6 w n) t:C6 (w.drop t) (n+1):=by unfold Zo.drop;split;have hl:=h.sl;have c:=h.wl;refine⟨h.W,h.hv,h.pl,h.L,λj b=>by have:=h.N j b;simp only;omega,h.us, ?_, ?_, ?_, ?_⟩;intro x a;rcases Ld.1 a with a|a;exact h.G x (LF a);exact h.G x (LD a);simp only;split;exact Z2e h.E (Da h.G _);exact h.E;simp only[LV,LX,LW];omega;simp only;split;simp;omega;omega;exact h.mono
def C6.collect{w n}(h:C6 w n):C6 w.collect (n+1):=by unfold Zo.collect;split;rename_i e;have c:=Z4g (B:=n) oq h.W (λp a=>(h.pin_mem p a).2) e;have hl:=h.sl;have d:=h.wl;refine C6.of_proper c.p1 c.w (λp a=>by have:=c.n p a;omega) (λx b=>by have:=c.r x b;omega) (λx b=>by have:=c.v x b;omega) (by simp only[c.rl];omega) (by simp only[c.vl];omega);exact h.mono
def C6.step{w n}(h:C6 w n)(a:n<=1000000) t:C6 (w.step t) (n+1):=by
 unfold Zo.step;repeat' split
 exact h.put (Oe _ _);exact h.link a _;exact h.pin _;exact h.drop _;exact h.collect;have hl:=h.sl;have c:=h.wl;exact⟨h.W,h.hv,h.pl,h.L,λj b=>by have:=h.N j b;simp only[Zo.dup]at *;omega,h.us,Z2e h.G (Ar (h.wm a) _),h.E,by simp only[Zo.dup,LV,List.length_singleton];omega,by simp only[Zo.dup];omega⟩
def AW(w:Z7)(x:Int):Z0:=w.j.P.getD (Z4 w.j.C x).1.toNat X
structure Rt (w:Z7):Prop where
 q:∀x∈w.Q,((AW w x).K=1\/(AW w x).K=2)/\(AW w x).S=1-w.j.S
 t:∀x∈w.old,(ZG (Z1 w.j.W x).1).2=Y->(ZG (Z1 w.j.W x).1).1∈w.Q
theorem Ox{a:Int}(h0:0<=a)(h1:a<4294967296):ZG (4*a+2)=(a,Y):=by
 have e:(4*a+2)/4=a:=by omega
 rw[ZG,if_pos oq,e]
def Rt.copy{B w}(k:Bb w)(h:BA w)(hT:Tab B w)(hR:Rt w){r n:Int}(hr:r∈w.old)(hq:r∉w.Q)(hn:n=Zl w.j.W r+1)(hp:n<=w.j.C.pw)(hc:(w.place n).2.2=Y):Rt ((w.place n).1.copy r (w.place n).2.1 n):=by
 have a9:=Bq w.j.W r;obtain⟨i,p,t,l,h2,h3,h4,h5,h6,h7,h8,e⟩:=P3 k ⟨by omega,hp⟩ hc;have a4:p.S=1-w.j.S:=by
  by_cases f:Em w n;have e7:w.place n=(⟨⟨w.j.C,w.j.W,Cw w.j.P (ZH w).toNat n,w.j.S,w.j.B⟩,w.old,w.T,w.Q,w.D,w.rep⟩,4096+ZH w*w.j.C.pw+(w.j.P.getD (ZH w).toNat X).U,Y):=by rw[Z7.place,if_pos f]
  unfold Em at f;have hm:=k.tk _ (Hc f.1);have m:=hT.tk _ (Hc f.1);have hi:(ZH w).toNat<w.j.P.length:=by omega
  rw[e7]at e;simp only[SL,Z7.mk.injEq,Heap.mk.injEq]at e;have s:=e.1.2.2.1;have v:(w.j.P.set i p).getD i X=p:=by rw[Cq l,if_pos rfl]
  rw[<-s,Cq hi]at v;split at v;rw[<-v];exact m;rename_i d;have g2:(w.j.P.set i p).getD (ZH w).toNat X=w.j.P.getD (ZH w).toNat X:=by rw[Cq l,if_neg (λq=>d q.symm)]
  rw[<-s,Cq hi,if_pos rfl]at g2;have:=congrArg Z0.U g2;simp only at this;omega;by_cases hg:0<=ZR w;have e7:w.place n=(⟨⟨w.j.C,w.j.W,Cw (G4 w) (ZR w).toNat n,w.j.S,w.j.B⟩,w.old,w.T++[ZR w],w.Q,w.D,w.rep⟩,4096+ZR w*w.j.C.pw,Y):=by rw[Z7.place,if_neg f,if_pos hg]
  obtain⟨v,g2,g3⟩:=AX (h:=⟨w.j.C,w.j.W,w.j.P,1-w.j.S,w.j.B⟩) (by have:=k.sp;simp only;omega) hg n;have a2:Cw (G4 w) (ZR w).toNat n=w.j.P.set (ZR w).toNat ⟨1,1-w.j.S,n,0⟩:=v;have y:(w.j.P.getD (ZR w).toNat X).K=0:=g2;have z:(ZR w).toNat<w.j.P.length:=g3;rw[e7,a2]at e;simp only[Z7.mk.injEq,Heap.mk.injEq]at e;have s:=e.1.2.2.1;have k1:(w.j.P.set i p).getD i X=p:=by rw[Cq l,if_pos rfl]
  rw[<-s,Cq z]at k1;split at k1;rw[<-k1];rename_i d;have k2:(w.j.P.set i p).getD (ZR w).toNat X=w.j.P.getD (ZR w).toNat X:=by rw[Cq l,if_neg (λq=>d q.symm)]
  rw[<-s,Cq z,if_pos rfl]at k2;rw[<-k2]at y;simp at y;rw[Z7.place,if_neg f,if_neg hg]at hc;simp at hc
 have hb:=BI.1 k.C;have b1:=k.pl;have hL:=h.L;have a8:(i:Int)*w.j.C.pw+w.j.C.pw<=w.j.C.pw*w.j.C.pg:=by(have:=EU (i:=i) (j:=w.j.C.pg) (pw:=w.j.C.pw) oq oq;rw[LK w.j.C.pw];exact this)
 have a7:0<=(i:Int)*w.j.C.pw:=LN oq oq;have a5:=Ij k.C;rw[e,h8];generalize hu:C2 (w.j.P.getD i X)=u at *;have a3:(Z4 w.j.C (4096+(i:Int)*w.j.C.pw+u)).1.toNat=i:=by(have:=Dz (c:=w.j.C) (i:=i) (o:=u) k.C oq oq;rw[show 4096+(i:Int)*w.j.C.pw+u=4096+((i:Int)*w.j.C.pw+u) by omega,this];simp)
 generalize ha:4096+(i:Int)*w.j.C.pw+u=at' at *;have b2:=h.r r (Lh _ hr);have f:=h.f i l (by rcases h2 with h2|h2;exact La h2;exact Lb h2.1);rw[hu]at f;obtain⟨m1,m2,m3⟩:=Sj (ws:=w.j.W) (a:=at') (b:=r) (n:=n) oq oq oq;have a0:4096<=r/\r<4096+(moveA w.j.W at' r n).1.length:=by omega
 refine⟨?_, ?_⟩;intro x g;simp only[Z7.copy,Ld,Lf]at g;simp only[AW,Z7.copy];rw[Cq l];split;exact⟨La h3,a4⟩;rename_i d;rcases g with g|rfl;exact hR.q x g;exact absurd a3.symm d;intro x g m;simp only[Z7.copy]at g m⊢;by_cases a1:x=r;subst a1;rw[RH a0]at m⊢;simp only;rw[Ox oq oq];simp;have a6:=f x (Lh _ g);have b0:=Bq w.j.W x;have el:Z1 (BR (moveA w.j.W at' r n).1 r (4*at'+2)).1 x=Z1 w.j.W x:=by rw[Gj a0 a1,m3 x oq]
 rw[el]at m⊢;exact Lh _ (hR.t x g m)
structure PR (B:Int) (w:Z7):Prop where
 tab:Tab B w
 rt:Rt w
def NP(w:Z7)(x:Int):Prop:=x=0\/x∈w.Q
def Z4D{B} w r(f:PR B w)(e:(w.fwd r).2.2=0):NP (w.fwd r).1 (w.fwd r).2.1:=by unfold Z7.fwd at e⊢;split at e;rename_i c1;rw[if_pos c1];exact c1;rename_i c1;rw[if_neg c1];split at e;simp at e;rename_i c2;rw[if_neg c2];have a:r∈w.old:=Lp.1 c2;split at e;rename_i c3;rw[if_pos c3];exact Lb (f.rt.t r a c3);rename_i c3;rw[if_neg c3];split at e;simp at e;rename_i c4;rw[if_neg c4];split at e;rename_i b;rw[if_pos b];exact Lb (Ls _ pq);rename_i b;rw[if_neg b];split at e;rename_i c;rw[if_pos c];exact Lb (Ls _ pq);rename_i c;rw[if_neg c];split at e;simp at e;rename_i d;rw[if_neg d];exact Lb (Ls _ pq)
def PR.fwd{B:Int}(hB:0<=B) w r(hw:Bb w)(hi:BA w)(h:PR B w)(e:(w.fwd r).2.2=0):PR B (w.fwd r).1:=by
 refine⟨h.tab.fwd hB w r hw hi e, ?_⟩;have hR:=h.rt;have hsp:=hw.sp;unfold Z7.fwd at e⊢;split at e;rename_i c1;rw[if_pos c1];exact hR;rename_i c1;rw[if_neg c1];have c1':r∉w.Q:=λh=>c1 (Lb h);split at e;simp at e;rename_i c2;rw[if_neg c2];have c2':r∈w.old:=Lp.1 c2;split at e;rename_i c3;rw[if_pos c3];exact hR;rename_i c3;rw[if_neg c3];split at e;simp at e;rename_i c4;rw[if_neg c4];have o:=H4 hw.C (Lp.1 c4);have hpl:=hw.pl;split at e;rename_i c5;rw[if_pos c5];simp only[ZJ,decide_eq_true_eq]at c5;have ok:=h.tab.pt.b (Z4 w.j.C r).1.toNat oq;have oks:=ok.s;refine⟨?_,λx hx ht=>Lh _ (hR.t x hx ht)⟩;intro x hx;simp only[Z7.keep,Ld,Lf]at hx;rcases hx with hx|rfl;exact hR.q x hx;refine⟨La c5.2.2.1, ?_⟩;simp only[AW,Z7.keep];omega;rename_i c5;rw[if_neg c5];split at e;rename_i c6;rw[if_pos c6];refine⟨?_,λx hx ht=>Lh _ (hR.t x hx ht)⟩;have hlr:(Z4 w.j.C r).1.toNat<w.j.P.length:=by omega
 intro x hx;simp only[Z7.keep,Ld,Lf]at hx;have hxl:(Z4 w.j.C x).1.toNat<w.j.P.length:=by(rcases hx with hx|rfl;by_cases q:(Z4 w.j.C x).1.toNat<w.j.P.length;exact q;have:=(hR.q x hx).1;rw[AW,Lg,List.getElem?_eq_none oq]at this;simp only[Option.getD_none]at this;have d:(X:Z0).K=0:=rfl;omega;exact hlr)
 simp only[AW,Z7.keep,Z7.flip];rw[HG hxl];split;refine⟨?_,rfl⟩;rcases hx with hx|rfl;exact(hR.q x hx).1;exact Lb c6;rename_i hne;rcases hx with hx|rfl;exact hR.q x hx;exact absurd ⟨Le _,Nat.le_add_right _ _⟩ hne;rename_i c6;rw[if_neg c6];split at e;simp at e;rename_i c7;rw[if_neg c7];have c7':(w.place (Z5 (ZB w r))).2.2=Y:=by simpa using c7
 have hz:=hi.z r c2';have hp:Z5 (ZB w r)<=w.j.C.pw:=by(rw[GX];rcases hz with hz|hz;exact absurd hz c6;exact hz)
 exact hR.copy hw hi h.tab c2' c1' (GX w r) hp c7'
def PR.in1{B:Int}(m:0<=B) w(q j:Int)(i:Bb w)(hi:BA w)(h:PR B w)(g:q∈w.Q)(h0:0<=j)(h1:j<Zl w.j.W q)(e:(w.fwd (Z1 w.j.W (q+1+j)).1).2.2=0):PR B (w.in1 (q+1+j)):=by
 have b:=PR.fwd m w _ i hi h e;obtain⟨k,l⟩:=NE i hi _ e;have a:=l.q q g;have n:=l.l q g;have hr:=k.r q (Ls _ a);have o:=k.s q (Ls _ a);have c:4096<=q+1+j/\q+1+j<4096+(w.fwd (Z1 w.j.W (q+1+j)).1).1.j.W.length:=by omega
 refine⟨b.tab.withWords _,b.rt.q,λx f d=>?_⟩;have el:Z1 (BR (w.fwd (Z1 w.j.W (q+1+j)).1).1.j.W (q+1+j) (w.fwd (Z1 w.j.W (q+1+j)).1).2.1).1 x=Z1 (w.fwd (Z1 w.j.W (q+1+j)).1).1.j.W x:=by(refine Gj c λhc=>?_;have:=o x (Lh _ f) oq;omega)
 simp only[Z7.in1]at f d⊢;rw[el]at d⊢;exact b.rt.t x f d
def Z3t{h:Heap}(f:Z9 h=Y):Rt (Zr h):=by refine⟨by simp[Zr],λx d a=>?_⟩;exfalso;simp only[Zr]at d a;obtain⟨j,j1,o⟩:=(Z8v f).1 x d;have e:=o.at';have k:=Pj e;unfold Z6 at e;rw[if_pos k.1,if_pos k.2.1]at e;split at e;rename_i g;have b:=g.2.2;unfold Z8 at b;split at b;rename_i c;have c1:=c.1;have c2:=c.2;unfold Zy at c1 c2;split at c2;unfold ZG at a;split at a;simp only at c2;omega;simp at a;rename_i hv;rw[if_neg hv]at c1;simp at c1;simp at b;simp at e
def Z1N{B:Int}(c:0<=B){h:Heap}{s}(a:Zx h.W)(b:Z9 h=Y)(i:∀p∈h.P,p.N<=B)(e:(rootsF (Zr h) s).2.2=0)(d:(Bz (rootsF (Zr h) s).1).2=0):PR B (ZF h s):=
 TI (PR B) (λw r a hi h e=>PR.fwd c w r a hi h e) (λw q j a hi h k f g e=>PR.in1 c w q j a hi h k f g e) (λw n h=>⟨⟨h.tab.pt,h.tab.tk,h.tab.pin⟩,h.rt.q,h.rt.t⟩) a b ⟨Z15 b i,Z3t b⟩ e d
def ZaR{B:Int}(c:0<=B){w roots}(a:Bb w)(h:BA w)(f:PR B w):∀k,(∀j,j<k->E8 w roots j=0)->∀x∈(rootsN w roots k).2,NP (rootsN w roots k).1 x
 |0,_,x,hx=>by simp[rootsN]at hx
 |k+1,hh,x,hx=>by
  have g:=ZaR c (roots:=roots) a h f k (λj b=>hh j oq);have ok:=(Ah (roots:=roots) a k (λj b=>hh j oq)).1;have i:=(PL (roots:=roots) a h k (λj b=>hh j oq)).1;have l:=Z1X (PR B) (λw r a hi h e=>PR.fwd c w r a hi h e) (roots:=roots) a h f k (λj b=>hh j oq);have d:=hh k oq;simp only[rootsN,Ld,Lf]at hx⊢;rcases hx with hx|rfl
  .rcases g x hx with q|q
   .exact La q
   .exact Lb ((NE ok i _ d).2.q x q)
  .exact Z4D _ _ l d
def Z5S w t n(b:C6 w n)(c:n<=1000000)(d:EH t)(a:t.at'<=900000):LP 54 [w.av,.pt 0 0 0] [t.b] (w.step t).av [(w.stepT t).b]:=
 Zkj w t n b c d a
structure Ei (n:Int) (t u:Tape):Prop where
 l:u.l=t.l
 lo:t.at'<=u.at'
 hi:u.at'<=t.at'+n
def Ei.step t n:Ei 1 t (t.step n):=by have:=Ra (t:=t) n;exact⟨this.2.2,this.1,this.2.1⟩
def Ei.trans{m n t u v}(a:Ei m t u)(b:Ei n u v):Ei (m+n) t v:=
 ⟨b.l.trans a.l,by have:=a.lo;have:=b.lo;omega,by have:=a.hi;have:=b.hi;omega⟩
def Ei.mono{m n:Int}{t u}(h:Ei m t u)(a:m<=n):Ei n t u:=⟨h.l,h.lo,by have:=h.hi;omega⟩
def Zc2 t c:Ei 10 t (t.headerT c):=by
 have a:Ei 4 t (Gq t c):=by(unfold Gq;split;exact(((Ei.step t _).trans (Ei.step _ 12)).trans (Ei.step _ _)).mono dd;exact((Ei.step t _).trans (Ei.step _ 12)).mono dd)
 unfold Tape.headerT;repeat' split
 exact(a.trans (Ei.step _ 4)).mono dd;exact(a.trans (Ei.step _ 4)).mono dd;exact((a.trans (Ei.step _ 4)).trans (Ei.step _ _)).mono dd
def ZeL(w:Zo) t:Ei 10 t (w.linkT t):=by have a:Ei 1 t (w.pickT t):=Ei.step _ _;have b:Ei 1 (w.pickT t) (w.pickT (w.pickT t)):=Ei.step _ _;unfold Zo.linkT;split;exact((((a.trans b).trans (Ei.step _ 8))).trans (Ei.step _ _)).mono dd;exact((a.trans b).trans (Ei.step _ 8)).mono dd
def Zff(w:Zo) t:(w.stepT t).l=t.l/\t.at'+1<=(w.stepT t).at'/\(w.stepT t).at'<=t.at'+20:=by
 have e:(t.step 12).at'=t.at'+1/\(t.step 12).l=t.l:=by simp[Tape.step]
 have d:Ei 10 (t.step 12) (w.stepT t):=by
  unfold Zo.stepT;repeat' split
  exact Zc2 _ _;exact ZeL _ _;unfold Zo.pinT;split;exact((Ei.step _ _).trans (Ei.step _ 2)).mono dd;exact(Ei.step _ _).mono dd;unfold Zo.dropT;split;exact((Ei.step _ _).trans (Ei.step _ 3)).mono dd;exact⟨rfl,by omega,by omega⟩;exact⟨rfl,by omega,by omega⟩;exact(Ei.step _ _).mono dd
 have a:=d.l;have b:=d.lo;have c:=d.hi;exact⟨a.trans e.2,by omega,by omega⟩
def Gc(w:Zo)(t:Tape):Nat->Zo×Tape|0=>(w,t)|k+1=>((Gc w t k).1.step (Gc w t k).2,(Gc w t k).1.stepT (Gc w t k).2)
def mkB(w:Zo)(t:Tape)(k:Nat):Bool:=O (((Gc w t k).2.l.length:Int)<=(Gc w t k).2.at')
def mkN(w:Zo)(t:Tape):Nat:=((Lo (2+t.l.length)).find? (mkB w t)).getD 0
def Aj(w:Zo)(t:Tape):Zo:=(Gc w t (mkN w t)).1
def Z06 w t:∀k:Nat,(Gc w t k).2.l=t.l/\t.at'+k<=(Gc w t k).2.at'/\(Gc w t k).2.at'<=t.at'+20*k
 |0=>by simp[Gc]
 |k+1=>by
  have a:=Z06 w t k;have:=Zff (Gc w t k).1 (Gc w t k).2;refine⟨this.1.trans a.1, ?_, ?_⟩
  .simp only[Gc];omega
  .simp only[Gc];omega
def Dy{w n}(h:C6 w n) t:∀k,n+k<=1000000->C6 (Gc w t k).1 (n+k)|0,_=>h|k+1,hk=>(Dy h t k oq).step oq _
def Tj w(t:Tape)(ht:0<=t.at'):mkB w t (mkN w t)=Y/\(∀j,j<mkN w t->mkB w t j=M)/\mkN w t<=t.l.length+1:=by
 cases hb:(Lo (2+t.l.length)).find? (mkB w t)with
 |none =>exfalso;have:=Lj.1 hb t.l.length (Li.2 oq);have u:=Z06 w t t.l.length;simp only[mkB,decide_eq_true_eq,u.1]at this;omega
 |some k =>
  obtain⟨b,a,c⟩:=Ly.1 hb;have a:=Li.1 a;have e:mkN w t=k:=by rw[mkN,hb];rfl
  rw[e];exact⟨b,λj d=>by simpa using c j d,by omega⟩
def Z02(w:Zo)(t:Tape):Tg:=⟨tm 22 [(2,.pt 8002 0 0),(3,.pt 32012 0 0),(4,.pt 40004 0 0)],[(40004,.box 30 w.cells),(32012,t.b),(8002,.box 30 [nI 0,nI 0,.d (.sl 0 []),.d (.sl 0 []),nI 0,nI 0,.d (.sl 0 []),.d (.sl 0 [])])],60⟩
def Zby w t n(hm:C6 w n)(hn:n<=1000000)(ht:EH t)(ha:t.at'<=900000)(hd:t.at'<t.l.length):CP (Zm f15 0) (Z02 w t).st .nrm (Z02 (w.step t) (w.stepT t)).st:=by exact sF [] []<|Fbq 16 [32012] (@Z0d t aa)<|Ftb 17 (!decide ((t.l.length:Int)<=t.at'))<|Fbr 20 [32012] (@Z5S w t n aa aa aa aa) Fz
def Zd4 w t(ht:EH t)(hd:¬ t.at'<t.l.length):CP (Zm f15 0) (Z02 w t).st (.ext 0) (Tg.st ⟨tm 22 [(2,.pt 8002 0 0),(4,.pt 40004 0 0)],[(40004,.box 30 w.cells),(8002,.box 30 [nI 0,nI 0,.d (.sl 0 []),.d (.sl 0 []),nI 0,nI 0,.d (.sl 0 []),.d (.sl 0 [])])],60⟩):=by exact sF [] []<|Fbq 16 [32012] (@Z0d t aa)<|Ffb 17 (!decide ((t.l.length:Int)<=t.at')) Fz
def ZhR w(t:Tape)(f:C6 w 0)(hl:t.l.length<=300)(e:0<=t.at')(h1:t.at'<=1000):CP (Zi f15 0) (Tg.st ⟨tm 22 [(2,.pt 8002 0 0),(3,.pt 32012 0 0),(4,.pt 40004 0 0)],[(40004,.box 30 w.cells),(32012,t.b),(8002,.box 30 [nI 0,nI 0,.d (.sl 0 []),.d (.sl 0 []),nI 0,nI 0,.d (.sl 0 []),.d (.sl 0 [])])],60⟩) .nrm (Tg.st ⟨tm 22 [(2,.pt 8002 0 0),(4,.pt 40004 0 0)],[(40004,.box 30 (Aj w t).cells),(8002,.box 30 [nI 0,nI 0,.d (.sl 0 []),.d (.sl 0 []),nI 0,nI 0,.d (.sl 0 []),.d (.sl 0 [])])],60⟩):=by
 have d:=Tj w t e;have a:∀k,k<=mkN w t->EH (Gc w t k).2/\(Gc w t k).2.at'<=900000:=λk b=>by(have u:=Z06 w t k;refine⟨?_,by omega⟩;unfold EH;rw[u.1];omega)
 refine Bp (S:=λk=>(Z02 (Gc w t k).1 (Gc w t k).2).st) (mkN w t) kr (λk b=>?_) ?_;have c:=d.2.1 k b;simp only[mkB,decide_eq_false_iff_not]at c;have m:=Dy f t k oq;exact Zby _ _ (0+k) m oq (a k oq).1 (a k oq).2 oq;have c:=d.1;simp only[mkB,decide_eq_true_eq]at c;exact Zd4 _ _ (a _ (Le _)).1 oq
def PX(w:Zo)(t:Tape):Tg:=⟨tm 22 [(2,.pt 8002 0 0),(3,.pt 24012 0 0),(4,.pt 32004 0 0)],[(32004,.box 30 w.cells),(24012,t.b),(8002,.box 30 [nI 0,nI 0,.d (.sl 0 []),.d (.sl 0 []),nI 0,nI 0,.d (.sl 0 []),.d (.sl 0 [])])],60⟩
def Zh0 w t n(hm:C6 w n)(hn:n<=1000000)(ht:EH t)(ha:t.at'<=900000)(hd:t.at'<t.l.length):CP (Zm f15 0) (PX w t).st .nrm (PX (w.step t) (w.stepT t)).st:=by exact sF [] []<|Fbq 16 [24012] (@Z0d t aa)<|Ftb 17 (!decide ((t.l.length:Int)<=t.at'))<|Fbr 20 [24012] (@Z5S w t n aa aa aa aa) Fz
def ZbO w t(ht:EH t)(hd:¬ t.at'<t.l.length):CP (Zm f15 0) (PX w t).st (.ext 0) (Tg.st ⟨tm 22 [(2,.pt 8002 0 0),(4,.pt 32004 0 0)],[(32004,.box 30 w.cells),(8002,.box 30 [nI 0,nI 0,.d (.sl 0 []),.d (.sl 0 []),nI 0,nI 0,.d (.sl 0 []),.d (.sl 0 [])])],60⟩):=by exact sF [] []<|Fbq 16 [24012] (@Z0d t aa)<|Ffb 17 (!decide ((t.l.length:Int)<=t.at')) Fz
def ZcC w(t:Tape)(f:C6 w 0)(hl:t.l.length<=300)(e:0<=t.at')(h1:t.at'<=1000):CP (Zi f15 0) (Tg.st ⟨tm 22 [(2,.pt 8002 0 0),(3,.pt 24012 0 0),(4,.pt 32004 0 0)],[(32004,.box 30 w.cells),(24012,t.b),(8002,.box 30 [nI 0,nI 0,.d (.sl 0 []),.d (.sl 0 []),nI 0,nI 0,.d (.sl 0 []),.d (.sl 0 [])])],60⟩) .nrm (Tg.st ⟨tm 22 [(2,.pt 8002 0 0),(4,.pt 32004 0 0)],[(32004,.box 30 (Aj w t).cells),(8002,.box 30 [nI 0,nI 0,.d (.sl 0 []),.d (.sl 0 []),nI 0,nI 0,.d (.sl 0 []),.d (.sl 0 [])])],60⟩):=by
 have d:=Tj w t e;have a:∀k,k<=mkN w t->EH (Gc w t k).2/\(Gc w t k).2.at'<=900000:=λk b=>by(have u:=Z06 w t k;refine⟨?_,by omega⟩;unfold EH;rw[u.1];omega)
 refine Bp (S:=λk=>(PX (Gc w t k).1 (Gc w t k).2).st) (mkN w t) kr (λk b=>?_) ?_;have c:=d.2.1 k b;simp only[mkB,decide_eq_false_iff_not]at c;have m:=Dy f t k oq;exact Zh0 _ _ (0+k) m oq (a k oq).1 (a k oq).2 oq;have c:=d.1;simp only[mkB,decide_eq_true_eq]at c;exact ZbO _ _ (a _ (Le _)).1 oq
def EV(l:List Int):Tape:=⟨l.take 300,0⟩
def Zu(l:List Int):Zo:=Aj (EV l).empty (((EV l).step 4).step 5)
def Z0i(t:Tape):C6 t.empty 0:=by
 have hv:=Z0j t;have hb:=BI.1 hv;refine⟨?_,hv, ?_, ?_, ?_, ?_, ?_, ?_,by simp[Tape.empty],by simp[Tape.empty]⟩;intro x b;simp only[Tape.empty,Iz,LG]at b;omega;simp only[Tape.empty,Iz,Lr];omega;have:=Ij hv;simp only[Tape.empty,Iz,Lr];omega;intro j a;simp only[Tape.empty,Iz,Lr]at a⊢;have:(Lc t.C.pg.toNat (⟨0,0,0,0⟩:Z0)).getD j X=⟨0,0,0,0⟩:=by simp[Lg,a]
 rw[this];simp;intro j a;simp only[Tape.empty,Iz,Lr]at a⊢;have:(Lc t.C.pg.toNat (⟨0,0,0,0⟩:Z0)).getD j X=⟨0,0,0,0⟩:=by simp[Lg,a]
 rw[this];simp;intro x b;simp[Tape.empty]at b;intro x b;simp[Tape.empty]at b
def Z0k l:(((EV l).step 4).step 5).l=l.take 300/\(((EV l).step 4).step 5).at'=2:=by simp[EV,Tape.step]
def Av l:C6 (Zu l) 1000:=by
 have e:=Z0k l;have hl:(((EV l).step 4).step 5).l.length<=300:=by rw[e.1];simp;omega
 have hk:=Tj (EV l).empty (((EV l).step 4).step 5) oq;have m:=Dy (Z0i (EV l)) (((EV l).step 4).step 5) (mkN (EV l).empty (((EV l).step 4).step 5)) oq;have c:∀(w:Zo) (a b:Nat),C6 w a->a<=b->C6 w b:=λw a b h d =>
  ⟨h.W,h.hv,h.pl,h.L,λj f=>by have:=h.N j f;omega,h.us,h.G,h.E,by have:=h.sl;omega,by have:=h.wl;omega⟩
 exact c _ _ _ m oq
def Z5v(l:List Int)(hl:l.length<=140737488355328):GP 15 [ZC l] M (Zu l).av []:=by
 have e:=Z0k l;have d:=Z0i (EV l);have b:(((EV l).step 4).step 5).l.length<=300:=by rw[e.1];simp;omega
 have c:=e.2;by_cases h:300<l.length;have f:EH ⟨Ln (Ll 300) l,0⟩:=by simp[EH];omega
 have a:EV l=⟨Ln (Ll 300) l,0⟩:=rfl;unfold Zu;rw[a]at d b c⊢;exact gF [] func15 []<|Fh 9 [.els (Z iD (Ln (Ll 300) l))]<|Fl 6 iD l<|Ftb 7 (O (300<(l.length:Int)))<|Fa (by(simp only[Lm];omega):(0:Int)<=(300:Int)/\300<=(↑(Z iD l).length:Int))<|Fa (ms:Ln (Ll 300) (Z iD l)=Z iD (Ln (Ll 300) l))<|Fbr 14 [32012] (@ZaM (Tape.mk (Ln (Ll 300) l) 0) aa (by(simp only[bs];omega)))<|Fu (@ZhR ((Tape.mk (Ln (Ll 300) l) 0).empty) (((Tape.mk (Ln (Ll 300) l) 0).step 4).step 5) aa aa oq oq) Fz;have f:EH ⟨l,0⟩:=by simp[EH];omega
 have a:EV l=⟨l,0⟩:=by rw[EV,List.take_of_length_le oq]
 unfold Zu;rw[a]at d b c⊢;exact gF [] func15 []<|Fl 6 iD l<|Ffb 7 (O (300<(l.length:Int)))<|Fbr 14 [24012] (@ZaM (Tape.mk l 0) aa (by(simp only[bs];omega)))<|Fu (@ZcC ((Tape.mk l 0).empty) (((Tape.mk l 0).step 4).step 5) aa aa oq oq) Fz
def Sk(h:Heap)(r:Int):Prop:=(Z4 h.C r).2.2=0->(h.P.getD (Z4 h.C r).1.toNat X).K=1\/(h.P.getD (Z4 h.C r).1.toNat X).K=2
structure POk (w:Zo):Prop where
 p:Z9 w.j=Y
 s:∀r∈w.G,Sk w.j r
 k:∀r∈w.E,Sk w.j r
theorem Z5b(h:Heap):Sk h 0:=by intro e;grind[Z4]
def Sk.mono{h h':Heap}{r}(b:Sk h r)(a:h'.C=h.C)(hk:∀j:Nat,(h.P.getD j X).K≠0->(h'.P.getD j X).K=(h.P.getD j X).K):Sk h' r:=by intro e;rw[a]at e⊢;have q:=b e;grind
def Znb{c}{a:Zz}(h:G7 c a=Y)(hv:Zv c=Y)(g:¬ 0<need c (Z5 a)):Z5 a<=c.pw:=by
 obtain⟨a1,a2,a3,d,a5⟩:=Tk h;have hb:=BI.1 hv;unfold need at g d;split at d;rename_i i;rw[if_pos i]at g;split at d;omega;rename_i f;rw[if_neg f]at g;have e:=LL (Z5 a+c.pw-1) c.pw;have j:(Z5 a+c.pw-1)/c.pw=0:=by omega
 rw[j]at e;have:=Lv (Z5 a+c.pw-1) (b:=c.pw) oq;omega;omega
def PT.setPins{c l}(h:PT c l){i:Nat}(hi:i<l.length)(hk:(l.getD i X).K=1\/(l.getD i X).K=2){n:Int}(k:0<=n/\n<=2147483647):PT c (l.set i ⟨(l.getD i X).K,(l.getD i X).S,(l.getD i X).U,n⟩):=by
 have e:∀j,((l.set i ⟨(l.getD i X).K,(l.getD i X).S,(l.getD i X).U,n⟩).getD j X).K=(l.getD j X).K/\((l.set i ⟨(l.getD i X).K,(l.getD i X).S,(l.getD i X).U,n⟩).getD j X).S=(l.getD j X).S/\((l.set i ⟨(l.getD i X).K,(l.getD i X).S,(l.getD i X).U,n⟩).getD j X).U=(l.getD j X).U:=by grind
 refine⟨?_, ?_, ?_⟩;intro j d;rw[Lk]at d;rw[Cq hi];split;have b:=h.b i hi;exact⟨b.s,k,b.k,λq=>by grind,b.k1,λq=>by grind⟩;exact h.b j d;intro j d f;rw[Lk]at d;rw[(e j).1]at f;rw[(e j).2.2,(e j).2.1];have q:=h.lg j d f;grind;intro j d g;rw[Lk]at d;rw[(e j).1]at g;obtain⟨a,a1,a2,a3⟩:=h.tl j d g;grind
def Z88{w n}(h:POk w)(f:C6 w n)(hn:n<=1000000){i:Nat}(hi:i<w.j.P.length)(e:(w.j.P.getD i X).K=1\/(w.j.P.getD i X).K=2){d:Int}(hd:d=1\/(d=-1/\0<(w.j.P.getD i X).N)):POk (pinB w i d):=by
 have hp:=f.N i hi;have b:∀j:Nat,((pinB w i d).j.P.getD j X).K=(w.j.P.getD j X).K:=by grind[pinB]
 have c:=h.p;rw[GU]at c;obtain⟨p1,p2,p3,p4,p5,g⟩:=c;refine⟨?_,λr a=>(h.s r a).mono rfl (λj _=>b j),λr a=>(h.k r a).mono rfl (λj _=>b j)⟩;rw[GU];refine⟨p1,p2,by grind[pinB],p4, ?_,g.setPins hi e oq⟩;grind[pinB]
def Z96(w:Zo)(t:Tape):w.pick t=0\/w.pick t∈w.G\/w.pick t∈w.E:=by have hn:=GT t (n:=(w.refs.length:Int)) (by grind[Zo.refs]);have:w.pick t∈w.refs:=ZT.2 ⟨_,by omega,rfl⟩;grind[Zo.refs]
def POk.pick{w}(h:POk w) t:Sk w.j (w.pick t):=by rcases Z96 w t with e|e|e;grind[Z5b];exact h.s _ e;exact h.k _ e
def POk.pin{w n}(h:POk w)(a:C6 w n)(c:n<=1000000) t:POk (w.pin t):=by
 unfold Zo.pin;split;rename_i e;have o:=H4 a.hv e;have f:=a.pl;have hi:Iy w t<w.j.P.length:=by grind[Iy]
 have b:=h.pick t e;split;rename_i d;exact Z88 h a c hi b (Lb ⟨rfl,d.1⟩);split;exact Z88 h a c hi b (La rfl);exact h;exact h
def Zdl(t:Tape):POk t.empty:=by
 refine⟨?_,by simp[Tape.empty],by simp[Tape.empty]⟩;have hv:=Z0j t;have hb:=BI.1 hv;have ha:=Ij hv;rw[GU];have b:∀j,j<t.C.pg.toNat->(Lc t.C.pg.toNat (⟨0,0,0,0⟩:Z0)).getD j X=⟨0,0,0,0⟩:=λj a=>by grind
 refine⟨hv,by grind[Tape.empty,Iz],by grind[Tape.empty,Iz],La rfl,La rfl, ?_⟩;simp only[Tape.empty,Iz];refine⟨λj a=>?_,λj a c=>?_,λj a c=>?_⟩;rw[Lr]at a;rw[b j a];exact⟨by simp,by simp,by simp,by simp,by simp,by simp⟩;all_goals grind
def ZY(ws:List Int)(a:Int):Zz:=(Z8 (Z1 ws a).1).1
def G2(ws:List Int)(a:Int):Prop:=(Z8 (Z1 ws a).1).2=Y
def CJ(ws:List Int)(a:Int):Int:=(ZY ws a).K
def ES(ws:List Int)(a:Int):Int:=if CJ ws a=0 then 1 else Zl ws a+1
def ZD(h:Heap)(i:Nat):Int:=4096+i*h.C.pw
def EK(ws:List Int):Int->Int->List Int->Prop|a,b,[]=>a=b|a,b,x::l=>x=a/\G2 ws a/\EK ws (a+Zl ws a+1) b l
def Rf ws a:Z5 (ZY ws a)=Zl ws a+1:=by unfold ZY;rw[Z5,if_pos (AY _)];rfl
def Z3G{ws}:∀{l:List Int} {a b:Int},EK ws a b l->a<=b
 |[],a,b,h=>by simp only[EK]at h;omega
 |x::l,a,b,h=>by
  have:=Z3G h.2.2;have:=Bq ws a;omega
def H9{ws}{x:Int}:∀{l:List Int} {a b:Int},EK ws a b l->x∈l->G2 ws x/\a<=x/\x+Zl ws x<b
 |[],_,_,_,hx=>by simp at hx
 |y::l,a,b,h,hx=>by
  have hr:=Bq ws a;rcases Lt.1 hx with rfl|hx
  .have:=Z3G h.2.2;rw[h.1];exact⟨h.2.1,by omega,by omega⟩
  .have:=H9 h.2.2 hx;exact⟨this.1,by omega,this.2.2⟩
def Z1G{ws}{x y:Int}:∀{l:List Int} {a b:Int},EK ws a b l->x∈l->y∈l->x<y->x+Zl ws x<y
 |[],_,_,_,hx,_,_=>by simp at hx
 |z::l,a,b,h,hx,hy,hxy=>by
  have hr:=Bq ws a;have c:=h.1;rcases Lt.1 hx with e|hx'
  .rcases Lt.1 hy with e2|hy'
   .omega
   .have:=(H9 h.2.2 hy').2.1;rw[e,c];omega
  .rcases Lt.1 hy with e2|hy'
   .have:=(H9 h.2.2 hx').2.1;omega
   .exact Z1G h.2.2 hx' hy' hxy
def Z3e{ws}{m:List Int}{b c}:∀{l:List Int} {a:Int},EK ws a b l->EK ws b c m->EK ws a c (l++m)|[],a,h,d=>by simp only[EK]at h;subst h;exact d|_::_,_,h,d=>⟨h.1,h.2.1,Z3e h.2.2 d⟩
def NR{ws ws'}:∀{l:List Int} {a b:Int},EK ws a b l->(∀x∈l,G2 ws' x/\Zl ws' x=Zl ws x)->EK ws' a b l
 |[],_,_,h,_=>h
 |x::l,a,b,h,hh=>by
  have c:=hh x pq;have d:=h.1;subst d;refine⟨rfl,c.1, ?_⟩;rw[c.2];exact NR h.2.2 λy e=>hh y (L1 _ e)
def Z6I{ws}{c:Int}:∀{l:List Int} {a b:Int},EK ws a b l->a<=c->c<b->∃x∈l,x<=c/\c<=x+Zl ws x
 |[],a,b,h,d,h2=>by simp only[EK]at h;omega
 |x::l,a,b,h,d,h2=>by
  by_cases f:c<=a+Zl ws a
  .exact⟨a,by rw[h.1];simp,d,f⟩
  .obtain⟨y,g,e⟩:=Z6I h.2.2 (show a+Zl ws a+1<=c by omega) h2;exact⟨y,L1 _ g,e⟩
theorem Ek{ws ws' a}(h:(Z1 ws' a).1=(Z1 ws a).1):(G2 ws a->G2 ws' a)/\Zl ws' a=Zl ws a/\CJ ws' a=CJ ws a/\ZY ws' a=ZY ws a/\ES ws' a=ES ws a:=by
 have e:ZY ws' a=ZY ws a:=by rw[ZY,ZY,h]
 have b:Zl ws' a=Zl ws a:=by rw[Zl,Zl,h]
 have c:CJ ws' a=CJ ws a:=by rw[CJ,CJ,e]
 exact⟨λq=>by rw[G2,h];exact q,b,c,e,by rw[ES,ES,b,c]⟩
section
variable{h:Heap}(p:Z9 h=Y){i:Nat}(hi:i<h.P.length)(a:(h.P.getD i X).K=1)
include p hi a
theorem at_one{x:Int}(h1:ZD h i<=x)(h2:x+Zl h.W x<ZD h i+(h.P.getD i X).U)(o:G2 h.W x):Z6 h x=(ZY h.W x,0):=by
 have b:=B6 p;have pp:=En p hi;have r:=Bq h.W x;have e:Z4 h.C x=((i:Int),x-ZD h i,0):=by(rw[<-Dz (c:=h.C) (i:=i) (o:=x-ZD h i) b.1 oq oq];congr 1;unfold ZD;omega)
 have s:Z5 (Z8 (Z1 h.W x).1).1=Zl h.W x+1:=Rf h.W x;unfold Z6;rw[if_pos p,e];simp only[Lx,s,if_true];rw[if_pos ⟨.inl a,by omega,o⟩,if_neg];rfl;omega
theorem Z3o:∀(f:Nat) (o:Int) (l:List Int),EK h.W (ZD h i+o) (ZD h i+(h.P.getD i X).U) l->0<=o->(h.P.getD i X).U-o<=f->Ew h i f o=some l
 |0,o,[],ht,b,hf=>rfl
 |0,o,x::l,ht,b,hf=>by
  have:=Z3G ht.2.2;have:=Bq h.W (ZD h i+o);omega
 |f+1,o,[],ht,b,hf=>by
  simp only[EK]at ht;unfold Ew;rw[if_neg];show¬ o<(h.P.getD (i:Int).toNat X).U;rw[Lx];omega
 |f+1,o,x::l,ht,b,hf=>by
  have e:=ht.1;have m:=H9 ht (x:=x) pq;have k:=B6 p;have pp:=En p hi;have hr:=Bq h.W x;have c:pg h (i:Int)=h.P.getD i X:=by simp[pg]
  have g:Bf h i o=x:=by
   unfold Bf address;rw[if_pos k.1,if_pos (Ie.2 ⟨by omega,by omega,b,by omega⟩),e];unfold ZD;simp only;omega
  have d:=ht.2.2;rw[<-e]at d;have j:=Z3o f (o+(Zl h.W x+1)) l (by rw[show ZD h i+(o+(Zl h.W x+1))=x+Zl h.W x+1 by omega];exact d) oq oq;unfold Ew;rw[c,if_pos oq,g,at_one p hi a oq m.2.2 m.1];simp only[if_true];rw[if_neg oq,Rf,j];rfl
theorem Zhs{l}(t:EK h.W (ZD h i) (ZD h i+(h.P.getD i X).U) l):Ze h i=(l,0):=by
 have pp:=En p hi;have b:pg h (i:Int)=h.P.getD i X:=by simp[pg]
 unfold Ze;rw[if_pos p,if_pos oq,b,if_neg oq,Z3o p hi a 256 0 l (by rw[LI];exact t) oq oq]
end
structure Gt (h:Heap) (T:Nat->List Int):Prop where
 p:Z9 h=Y
 t1:∀i,i<h.P.length->(h.P.getD i X).K=1->EK h.W (ZD h i) (ZD h i+(h.P.getD i X).U) (T i)
 t2:∀i,i<h.P.length->(h.P.getD i X).K=2->T i=[ZD h i]/\G2 h.W (ZD h i)/\Zl h.W (ZD h i)+1=(h.P.getD i X).U
 t0:∀i x,x∈T i->i<h.P.length/\((h.P.getD i X).K=1\/(h.P.getD i X).K=2)
structure Gd (h:Heap) (T:Nat->List Int):Prop where
 p:Z9 h=Y
 sp:∀i,i<h.P.length->(h.P.getD i X).K≠0->(h.P.getD i X).S=h.S
 t1:∀i,i<h.P.length->(h.P.getD i X).K=1->EK h.W (ZD h i) (ZD h i+(h.P.getD i X).U) (T i)/\∀x∈T i,Zl h.W x+1<=Zd h.C
 t2:∀i,i<h.P.length->(h.P.getD i X).K=2->T i=[ZD h i]/\G2 h.W (ZD h i)/\Zl h.W (ZD h i)+1=(h.P.getD i X).U/\CJ h.W (ZD h i)≠0
 t0:∀i x,x∈T i->i<h.P.length/\((h.P.getD i X).K=1\/(h.P.getD i X).K=2)
 d:∀a,(Z1 h.W a).1≠0->∃i x,x∈T i/\x<=a/\a<x+ES h.W x
 q:∀i x k,x∈T i->CJ h.W x≠0->0<=k->k<Zl h.W x->Ba (ZY h.W x) k=Y->(Z1 h.W (x+1+k)).1=0\/∃j,(Z1 h.W (x+1+k)).1∈T j/\CJ h.W (Z1 h.W (x+1+k)).1≠0
 cr:(crowd h.P:Int)<=h.C.pg/4
def Ob(h:Heap)(T:Nat->List Int)(x:Int):Prop:=∃j,x∈T j/\CJ h.W x≠0
section
variable{h:Heap}{T:Nat->List Int}(g:Gt h T)
include g
theorem Gt.on{i}{x:Int}(a:x∈T i):i<h.P.length/\((h.P.getD i X).K=1\/(h.P.getD i X).K=2)/\ZD h i<=x/\x<ZD h i+h.C.pw/\x+Zl h.W x<ZD h i+(h.P.getD i X).U/\G2 h.W x/\((h.P.getD i X).K=2->x=ZD h i/\Zl h.W x+1=(h.P.getD i X).U):=by have t:=g.t0 i x a;have po:=B6 g.p;have pp:=En g.p t.1;have hr:=Bq h.W x;refine⟨t.1,t.2, ?_⟩;rcases t.2 with k|k;have m:=H9 (g.t1 i t.1 k) a;exact⟨m.2.1,by omega,m.2.2,m.1,λq=>by omega⟩;have m:=g.t2 i t.1 k;rw[m.1]at a;have a:=Lf.1 a;subst a;exact⟨by omega,by omega,by omega,m.2.1,λ_=>⟨rfl,m.2.2⟩⟩
theorem Gt.ofx{i}{x:Int}(a:x∈T i):Z4 h.C x=((i:Int),x-ZD h i,0):=by have o:=g.on a;have b:=B6 g.p;have:=Dz (c:=h.C) (i:=i) (o:=x-ZD h i) b.1 oq oq;rw[<-this];congr 1;unfold ZD;omega
theorem Gt.sep{i j}{x y:Int}(d:x∈T i)(e:y∈T j)(c:x<y):x+Zl h.W x<y:=by have a:=g.on d;have b:=g.on e;have r2:=Bq h.W y;have r1:=Bq h.W x;unfold ZD at a b;rcases L6 i j with q|q|q;have:=D2 g.p q b.1 a.2.1 oq;omega;subst q;rcases a.2.1 with k|k;exact Z1G (g.t1 i a.1 k) d e c;have:=(a.2.2.2.2.2.2 k).1;have:=(b.2.2.2.2.2.2 k).1;omega;have:=D2 g.p q a.1 b.2.1 oq;omega
theorem Gt.free{i j:Nat}{x:Int}(hi:i<h.P.length)(hk:(h.P.getD i X).K=0\/(h.P.getD i X).K=1)(b:x∈T j):x+Zl h.W x<ZD h i+C2 (h.P.getD i X)\/ZD h i+h.C.pw<=x:=by
 have o:=g.on b;have po:=B6 g.p;have pp:=En g.p hi;have a:0<=C2 (h.P.getD i X):=by unfold C2;split<;>omega
 unfold ZD at o⊢;rcases L6 i j with q|q|q;have:=EU (i:=i) (j:=j) (pw:=h.C.pw) oq oq;omega;subst q;rw[C2,if_neg oq];omega;have:=D2 g.p q hi o.2.1 oq;omega
theorem Gt.at'{i}{x:Int}(a:x∈T i):Z6 h x=(ZY h.W x,0):=by have o:=g.on a;have r:=Bq h.W x;have s:Z5 (Z8 (Z1 h.W x).1).1=Zl h.W x+1:=Rf h.W x;unfold Z6;rw[if_pos g.p,g.ofx a];simp only[Lx,s,if_true];rw[if_pos ⟨o.2.1,by omega,o.2.2.2.2.2.1⟩,if_neg];rfl;have:=o.2.2.2.2.2.2;omega
theorem Gt.page{i:Nat}(hi:i<h.P.length):Ze h i=(T i,0):=by
 have pp:=En g.p hi;have a:pg h (i:Int)=h.P.getD i X:=by simp[pg]
 unfold Ze;rw[if_pos g.p,if_pos oq,a];by_cases e:(h.P.getD i X).K=0\/(h.P.getD i X).K=3;rw[if_pos e];have:T i=[]:=LR.2 λx b=>by have:=(g.t0 i x b).2;omega
 rw[this];rw[if_neg e];by_cases c:(h.P.getD i X).K=1;have:=Z3o g.p hi c 256 0 (T i) (by rw[LI];exact(g.t1 i hi c)) oq oq;rw[this];have d:(h.P.getD i X).K=2:=by omega
 have t:=g.t2 i hi d;have b:ZD h i∈T i:=by rw[t.1];simp
 have on:=g.on b;have j:=B6 g.p;have hr:=Bq h.W (ZD h i);have f:Bf h i 0=ZD h i:=by(unfold Bf address;rw[if_pos j.1,if_pos (Ie.2 ⟨by omega,by omega,by omega,by omega⟩)];unfold ZD;simp)
 have:Ew h i 256 0=some (T i):=by(unfold Ew;rw[a,if_pos oq,f,g.at' b];simp only[if_true];rw[if_pos d,t.1])
 rw[this]
theorem Gt.starts:∀(f i:Nat),i+f=h.P.length->(Cp h f i).2=0/\∀x,x∈(Cp h f i).1↔∃j,i<=j/\x∈T j
 |0,i,hf=>by
  refine⟨rfl,λx=>⟨λa=>by simp[Cp]at a, ?_⟩⟩;rintro⟨j,b,a⟩;have:=(g.t0 j x a).1;omega
 |f+1,i,hf=>by
  obtain⟨c,i2⟩:=Gt.starts f (i+1) oq;unfold Cp;rw[g.page (show i<h.P.length by omega)];simp only[c,if_true];refine⟨trivial,λx=>?_⟩;rw[Ld,i2];constructor
  .rintro(a|⟨j,b,a⟩)
   .exact⟨i,Le _,a⟩
   .exact⟨j,by omega,a⟩
  .rintro⟨j,b,a⟩;by_cases q:j=i
   .subst q;exact La a
   .exact Lb ⟨j,by omega,a⟩
theorem Gt.objs:(Zb h).2=0/\∀x,x∈(Zb h).1↔Ob h T x:=by
 have s:=g.starts h.P.length 0 oq;have e:CN h=Cp h h.P.length 0:=by rw[CN,if_pos g.p]
 unfold Zb;rw[e];refine⟨s.1,λx=>?_⟩;rw[List.mem_filter,s.2];constructor;rintro⟨⟨j,_,hj⟩,hb⟩;have hb':(Z6 h x).1.K≠0:=of_decide_eq_true hb;rw[g.at' hj]at hb';exact⟨j,hj,hb'⟩;rintro⟨j,hj,hb⟩;refine⟨⟨j,by omega,hj⟩,decide_eq_true ?_⟩;rw[g.at' hj];exact hb
end
section
variable{h:Heap}{T:Nat->List Int}(g:Gd h T)
include g
theorem Gd.gt:Gt h T:=⟨g.p,λi hi a=>(g.t1 i hi a).1,λi hi a=>⟨(g.t2 i hi a).1,(g.t2 i hi a).2.1,(g.t2 i hi a).2.2.1⟩,g.t0⟩
theorem Gd.on{i}{x:Int}(a:x∈T i):i<h.P.length/\((h.P.getD i X).K=1\/(h.P.getD i X).K=2)/\ZD h i<=x/\x<ZD h i+h.C.pw/\x+Zl h.W x<ZD h i+(h.P.getD i X).U/\G2 h.W x/\((h.P.getD i X).K=2->x=ZD h i/\Zl h.W x+1=(h.P.getD i X).U):=g.gt.on a
theorem Gd.ofx{i}{x:Int}(a:x∈T i):Z4 h.C x=((i:Int),x-ZD h i,0):=g.gt.ofx a
theorem Gd.sep{i j}{x y:Int}(b:x∈T i)(c:y∈T j)(a:x<y):x+Zl h.W x<y:=g.gt.sep b c a
theorem Gd.free{i j:Nat}{x:Int}(hi:i<h.P.length)(a:(h.P.getD i X).K=0\/(h.P.getD i X).K=1)(b:x∈T j):x+Zl h.W x<ZD h i+C2 (h.P.getD i X)\/ZD h i+h.C.pw<=x:=g.gt.free hi a b
theorem Gd.at'{i}{x:Int}(a:x∈T i):Z6 h x=(ZY h.W x,0):=g.gt.at' a
theorem Gd.page{i:Nat}(hi:i<h.P.length):Ze h i=(T i,0):=g.gt.page hi
theorem Gd.objs:(Zb h).2=0/\∀x,x∈(Zb h).1↔Ob h T x:=g.gt.objs
end
def Z9l{l:List Z0}:∀{i j:Nat},j<=i->(l.getD j X).K≠3->(∀m,j<m->m<=i->(l.getD m X).K=3)->B4 l i=j
 |0,j,h,_,_=>by simp[B4];omega
 |i+1,j,h,hk,hm=>by
  unfold B4;by_cases q:j=i+1
  .subst q;rw[if_neg hk]
  .rw[if_pos (hm (i+1) oq (Le _))];exact Z9l oq hk λm a h2=>hm m a oq
def Z8g{ws:List Int}{a n:Int}{k:Nat}(hn:0<=n)(b:4096<=a/\a-4096+n<=ws.length)(hk:(k:Int)<n):(BS ws a n).1.getD k X=(Z1 ws (a+k)).1:=by unfold BS Z1;rw[if_neg oq,if_pos b,if_pos oq];simp only[Lg];rw[List.getElem?_take_of_lt oq,List.getElem?_drop,show(a-4096).toNat+k=(a+k-4096).toNat by omega];rfl
section
variable{h:Heap}{T:Nat->List Int}(g:Gd h T)
include g
theorem Gd.inw{i}{x:Int}(a:x∈T i):4096<=x/\x+Zl h.W x<4096+h.W.length:=by have o:=g.on a;have po:=B6 g.p;have u:=Z18 g.p o.1 o.2.1;have h0:0<=(i:Int)*h.C.pw:=LN oq oq;unfold ZD at o;omega
theorem Gd.head{i j:Nat}{x a:Int}(f:x∈T j)(h1:x<=a)(h2:a<=x+Zl h.W x)(hi:i<h.P.length)(c:ZD h i<=a)(h4:a<ZD h i+h.C.pw):B4 h.P i=j:=by
 have o:=g.on f;have po:=B6 g.p;unfold ZD at o c h4;have b:j<=i:=by(by_cases q:j<=i;exact q;have:=EU (i:=i) (j:=j) (pw:=h.C.pw) oq oq;omega)
 refine Z9l b oq λm l m2=>?_;have e:=EU (i:=j) (j:=m) (pw:=h.C.pw) oq oq;have d:(m:Int)*h.C.pw<=i*h.C.pw:=LM oq oq;rcases o.2.1 with k|k;have pp:=En g.p o.1;omega;by_cases q:(h.P.getD m X).K=3;exact q;have:=D2 g.p l oq (Lb k) q;omega
theorem Gd.badd{i k:Nat}(hi:i<h.P.length)(hk:(k:Int)<h.C.pw):HL h i (CV h i) k=M:=by
 have p:=B6 g.p;unfold HL;have f:GG h i k=(Z1 h.W (ZD h i+k)).1:=by(unfold GG address;rw[if_pos p.1,if_pos (Ie.2 ⟨by omega,by omega,by omega,by omega⟩)];unfold ZD;simp only;rw[LH])
 rw[f];by_cases c:(Z1 h.W (ZD h i+k)).1=0;rw[c];simp;obtain⟨j,x,a,d,l⟩:=g.d _ c;have hr:=Bq h.W x;have o:ES h.W x<=Zl h.W x+1:=by unfold ES;split<;>omega
 have n:=g.head a d oq hi oq oq;have m:(CV h i).getD k X=Y:=by
  unfold CV Cx;rw[n,g.page (g.on a).1];have b:k<h.C.pw.toNat:=by omega
  simp only[Lg,List.getElem?_map,List.getElem?_range b,Option.map_some,Option.getD_some,List.any_eq_true];refine⟨x,a, ?_⟩;unfold Mg;have e:GL h x=ES h.W x:=by(unfold GL ES;rw[g.at' a];rw[Rf];rfl)
  rw[e,Lu,decide_eq_true_eq,decide_eq_true_eq];unfold ZD at d l;omega
 rw[m];simp
theorem Gd.dirt{i:Nat}(hi:i<h.P.length):Ez h i (CV h i)=0:=by
 have hl:=Ph h i;unfold Ez;have:(Lo (CV h i).length).find? (HL h i (CV h i))=none:=by(rw[Lj];intro k a;have a:=Li.1 a;rw[g.badd hi oq];simp)
 rw[this]
theorem Gd.cls{i}{x:Int}(a:x∈T i):Gv h i x=M:=by
 have o:=g.on a;unfold Gv;rw[g.at' a,Rf,Lx];rcases o.2.1 with k|k;have:=(g.t1 i o.1 k).2 x a;rw[k];simp;omega;have t:=g.t2 i o.1 k;have b:=(o.2.2.2.2.2.2 k).1;have:(ZY h.W x).K≠0:=by rw[b];exact t.2.2.2
 rw[k];simp;exact this
theorem Gd.pageF{i:Nat}(hi:i<h.P.length):(pageF h i).fault=0:=by
 have b:=g.sp i hi;have a:Cu h i (T i)=0:=by
  unfold Cu;have:(T i).find? (Gv h i)=none:=by(rw[Lj];intro x c;rw[g.cls c];simp)
  rw[this];rfl
 unfold Go.Proofs.YtgedmeaemofdkaaGreat.pageF;rw[if_neg (by rintro⟨d,e⟩;exact e (b d)),g.page hi,if_neg pq,if_neg (by rw[a];simp),if_neg (by rw[g.dirt hi];simp)]
theorem Gd.fields{i}{x:Int}(d:x∈T i)(a:CJ h.W x≠0):Zw h x=(ZY h.W x,0)/\((C0 h x).1.length:Int)=Zl h.W x/\∀k:Nat,(k:Int)<Zl h.W x->(C0 h x).1.getD k X=(Z1 h.W (x+1+k)).1:=by
 have n:=g.inw d;have r:=Bq h.W x;have c:Zw h x=(ZY h.W x,0):=by(unfold Zw;rw[if_pos g.p,if_neg oq,g.at' d,if_neg];rintro⟨_,q⟩;exact a q)
 have b:C0 h x=BS h.W (x+1) (Zl h.W x):=by(unfold C0;rw[c,if_pos rfl];rfl)
 refine⟨c, ?_, ?_⟩;rw[b];unfold BS;rw[if_neg oq,if_pos oq];simp only[LX,LW];omega;intro k a;rw[b];exact Z8g r.1 oq a
theorem Gd.good:Bn h=⟨0,0,0⟩:=by
 have n:=g.objs;have o:GC h=none:=by(unfold GC;rw[Lj];intro i hi;have:=g.pageF (Li.1 hi);simp[this])
 have p:EQ h (Zb h).1=⟨0,0,0⟩:=by
  unfold EQ;have:(Lo (Zb h).1.length).find? (λi=>(HM h (Zb h).1 i).isSome)=none:=by
   rw[Lj];intro i hi;have l:(Zb h).1.getD i X∈(Zb h).1:=ZT.2 ⟨i,Li.1 hi,rfl⟩;have:HM h (Zb h).1 i=none:=by
    unfold HM;generalize (Zb h).1.getD i X=x at l⊢;obtain⟨j,d,b⟩:=(n.2 x).1 l;have f:=g.fields d b;rw[Lj];intro k e;have e:=Li.1 e;have a:(k:Int)<Zl h.W x:=by omega
    unfold Ng;rw[f.1,f.2.2 k a];intro c;simp only[Lu,Bool.not_eq_true',decide_eq_true_eq,decide_eq_false_iff_not]at c;rcases g.q j x k d b oq a c.1.1 with q|⟨m,r,s⟩;exact c.1.2 q;exact c.2 ((n.2 _).2 ⟨m,r,s⟩)
   rw[this];simp
  rw[this]
 unfold Bn;rw[if_pos g.p,o];simp only[p,ne_eq,not_true_eq_false,if_false];rw[if_neg];have:=g.cr;show¬ h.C.pg/4<(crowd h.P:Int);omega
theorem Gd.refers{s:List Int}(hs:∀r∈s,r=0\/Ob h T r):Bw h s=Y:=by
 unfold Bw;rw[Lu,decide_eq_true_eq];refine⟨g.good, ?_⟩;have:(Lo s.length).find? (Cj s (Zb h).1)=none:=by(rw[Lj];intro i hi;have a:s.getD i X∈s:=ZT.2 ⟨i,Li.1 hi,rfl⟩;unfold Cj;rw[decide_eq_true_eq];rintro⟨b,c⟩;rcases hs _ a with q|q;exact b q;exact c ((g.objs.2 _).2 q))
 rw[this];rfl
end
def decode_encode{a:Zz}(hv:ZU a=Y)(e:0<=a.map/\a.map<=4294967295):Z8 (Zy a).1=(a,Y):=by
 have b:=Gx.1 hv;have c:Zy a=(1+4*a.K+16*a.length+65536*a.map,0):=by rw[Zy,if_pos hv]
 have d:G0 (1+4*a.K+16*a.length+65536*a.map)=a:=by(obtain⟨k,l,m⟩:=a;simp only at b e;simp only[G0,Zz.mk.injEq];omega)
 rw[c];unfold Z8;simp only[d,c];simp
def Z5k{l a:List Z0}:∀n:Nat,(∀i,i<n->(a.getD i X).K=1->0<(a.getD i X).N->(l.getD i X).K=1/\0<(l.getD i X).N)->Bu a n<=Bu l n
 |0,_=>Le _
 |n+1,hh=>by
  have ih:=Z5k n λi hi=>hh i oq;have b:=hh n oq;unfold Bu;split
  .rename_i c;rw[if_pos (b c.1 c.2)];omega
  .split<;>omega
def Z5J{l:List Z0}{i:Nat}{p:Z0}(hi:i<l.length):∀n:Nat,Bu (l.set i p) n<=Bu l n+1/\(n<=i->Bu (l.set i p) n<=Bu l n)
 |0=>⟨by simp[Bu],λ_=>Le _⟩
 |n+1=>by
  obtain⟨i1,i2⟩:=Z5J (p:=p) hi n;unfold Bu;rw[Cq hi];by_cases q:i=n
  .have:=i2 oq;subst q;refine⟨?_,λq=>by omega⟩;split<;>split<;>omega
  .rw[if_neg q];refine⟨?_,λq2=>?_⟩
   .split<;>omega
   .have:=i2 oq;split<;>omega
def Pd{l a:List Z0}(hl:a.length=l.length)(b:∀i,i<l.length->(a.getD i X).K=1->0<(a.getD i X).N->(l.getD i X).K=1/\0<(l.getD i X).N):crowd a<=crowd l:=by unfold crowd;rw[hl];exact Z5k _ b
def Gd.P{h h':Heap}{T}(g:Gd h T)(j:Z9 h'=Y)(d:h'.C=h.C)(c:h'.W=h.W)(hs:h'.S=h.S)(hl:h'.P.length=h.P.length)(b:∀i,i<h.P.length->(h'.P.getD i X).K=(h.P.getD i X).K/\(h'.P.getD i X).S=(h.P.getD i X).S/\(h'.P.getD i X).U=(h.P.getD i X).U)(e:(crowd h'.P:Int)<=h.C.pg/4):Gd h' T:=by
 have f:∀i,ZD h' i=ZD h i:=λi=>by rw[ZD,ZD,d]
 refine⟨j, ?_, ?_, ?_, ?_,by rw[c];exact g.d,by rw[c];exact g.q,by rw[d];exact e⟩;intro i hi a;rw[hl]at hi;rw[(b i hi).1]at a;rw[(b i hi).2.1,hs];exact g.sp i hi a;intro i hi a;rw[hl]at hi;rw[(b i hi).1]at a;rw[(b i hi).2.2,c,f,d];exact g.t1 i hi a;intro i hi a;rw[hl]at hi;rw[(b i hi).1]at a;rw[(b i hi).2.2,c,f];exact g.t2 i hi a;intro i x k;have t:=g.t0 i x k;rw[hl,(b i t.1).1];exact t
def Gd.store{h T}(g:Gd h T){x k v:Int}(hx:Ob h T x)(hk:0<=k/\k<Zl h.W x)(hv:Ba (ZY h.W x) k=Y->v=0\/Ob h T v) :Gd {h with W:=(BR h.W (x+1+k) v).1} T/\(∀i y,y∈T i->(Z1 (BR h.W (x+1+k) v).1 y).1=(Z1 h.W y).1):=by
 obtain⟨j,p,a2⟩:=hx;have n:=g.inw p;have d:4096<=x+1+k/\x+1+k<4096+h.W.length:=by omega
 have s:=AN (ws:=h.W) (v:=v) d;have u:∀i y,y∈T i->(Z1 (BR h.W (x+1+k) v).1 y).1=(Z1 h.W y).1:=by(intro i y c;rw[Gj d];intro e;have:=g.sep p c oq;omega)
 have l:∀i y,y∈T i->G2 h.W y/\G2 (BR h.W (x+1+k) v).1 y/\Zl (BR h.W (x+1+k) v).1 y=Zl h.W y/\CJ (BR h.W (x+1+k) v).1 y=CJ h.W y/\ZY (BR h.W (x+1+k) v).1 y=ZY h.W y/\ES (BR h.W (x+1+k) v).1 y=ES h.W y:=by(intro i y c;have o:=Ek (u i y c);have:=(g.on c).2.2.2.2.2.1;exact⟨this,o.1 this,o.2⟩)
 refine⟨⟨?_,g.sp, ?_, ?_,g.t0, ?_, ?_,g.cr⟩,u⟩;have q:=g.p;rw[GU]at q⊢;refine⟨q.1, ?_,q.2.2.1,q.2.2.2.1,q.2.2.2.2.1,q.2.2.2.2.2⟩;simp only[s];exact q.2.1;intro i hi a0;have t:=g.t1 i hi a0;exact⟨NR t.1 λy c=>⟨(l i y c).2.1,(l i y c).2.2.1⟩,λy c=>by rw[(l i y c).2.2.1];exact t.2 y c⟩;intro i hi a1;have t:=g.t2 i hi a1;have q:=l i (ZD h i) (by rw[t.1];simp);refine⟨t.1,q.2.1, ?_, ?_⟩;exact q.2.2.1▸t.2.2.1;exact q.2.2.2.1▸t.2.2.2;intro a ha;by_cases e:a=x+1+k;refine⟨j,x,p,by omega, ?_⟩;simp only;rw[(l j x p).2.2.2.2.2,ES,if_neg a2];omega;simp only at ha;rw[Gj d e]at ha;obtain⟨i,y,c,r,h2⟩:=g.d a ha;refine⟨i,y,c,r, ?_⟩;simp only;rw[(l i y c).2.2.2.2.2];exact h2;intro i y m c f h0 r w;simp only at f r w⊢;obtain⟨c0,c1,c2,c3,c4,c5⟩:=l i y c;rw[c3]at f;rw[c2]at r;rw[c4]at w;have fin:∀z,z=0\/Ob h T z->z=0\/∃j,z∈T j/\CJ (BR h.W (x+1+k) v).1 z≠0:=by(rintro z (q|⟨b,b1,b2⟩);exact La q;exact Lb ⟨b,b1,by rw[(l b z b1).2.2.2.1];exact b2⟩)
 by_cases e:y+1+m=x+1+k;have a4:y=x:=by(rcases Int.lt_trichotomy y x with q|q|q;have:=g.sep c p q;omega;exact q;have:=g.sep p c q;omega)
 subst a4;have a3:m=k:=by omega
 subst a3;rw[RH d];exact fin _ (hv w);rw[Gj d e];exact fin _ (g.q i y m c f h0 r w)
def Gd.add{h h':Heap}{T}(g:Gd h T){i:Nat}{a}{hd:Zz}(hv:ZU hd=Y)(hm:0<=hd.map/\hd.map<=4294967295)(hk:hd.K≠0)(hp:Z9 h'=Y)(hc:h'.C=h.C)(hs:h'.S=h.S)(hl:h'.P.length=h.P.length)(hw:h'.W=(ZX h.W a (BE hd)).1)(hin:4096<=a/\a+Z5 hd<=4096+h.W.length)(hi:i<h.P.length)(hj:∀j,j<h.P.length->j≠i->h'.P.getD j X=h.P.getD j X\/((h.P.getD j X).K=0/\(h'.P.getD j X).K=3/\(h'.P.getD j X).S=h.S))(hI:((h.P.getD i X).K=0\/(h.P.getD i X).K=1)/\(h'.P.getD i X).K=1/\a=ZD h i+C2 (h.P.getD i X)/\(h'.P.getD i X).U=C2 (h.P.getD i X)+Z5 hd/\Z5 hd<=Zd h.C\/(h.P.getD i X).K=0/\(h'.P.getD i X).K=2/\a=ZD h i/\(h'.P.getD i X).U=Z5 hd)(hsp:(h'.P.getD i X).S=h.S)(hcr:crowd h'.P<=crowd h.P)(hdis:∀j x,x∈T j->x+Zl h.W x<a\/a+Z5 hd<=x) :Gd h' (λj=>if j=i then T i++[a]else T j)/\CJ h'.W a≠0/\ZY h'.W a=hd/\(∀k,a<k->k<a+Z5 hd->(Z1 h'.W k).1=0)/\(∀k,k<a\/a+Z5 hd<=k->Z1 h'.W k=Z1 h.W k):=by
 have ow:=Z9V hv hm;have hs1:Z5 hd=hd.length+1:=by rw[Z5,if_pos hv]
 have vb:=Gx.1 hv;have hin':4096<=a/\a-4096+(BE hd).length<=h.W.length:=by omega
 have out:∀k,k<a\/a+Z5 hd<=k->Z1 h'.W k=Z1 h.W k:=by(intro k hk;rw[hw];exact Ap hin' oq)
 have wa:(Z1 h'.W a).1=(Zy hd).1:=by(rw[hw,SH hin' oq];simp[BE])
 have z:∀k,a<k->k<a+Z5 hd->(Z1 h'.W k).1=0:=by
  intro k h1 h2;rw[hw,SH hin' oq];have:(k-a).toNat=(k-a-1).toNat+1:=by omega
  rw[this,BE];simp[Lg,LA];split<;>rfl
 have de:=decode_encode hv hm;have ha1:ZY h'.W a=hd:=by rw[ZY,wa,de]
 have ha2:G2 h'.W a:=by rw[G2,wa,de]
 have ha3:Zl h'.W a=hd.length:=by rw[Zl,wa,de]
 have ha4:CJ h'.W a≠0:=by rw[CJ,ha1];exact hk
 have hb:∀j,ZD h' j=ZD h j:=λj=>by rw[ZD,ZD,hc]
 have ky:∀j x,x∈T j->G2 h'.W x/\Zl h'.W x=Zl h.W x/\CJ h'.W x=CJ h.W x/\ZY h'.W x=ZY h.W x/\ES h'.W x=ES h.W x/\∀m,0<=m->m<=Zl h.W x->Z1 h'.W (x+m)=Z1 h.W (x+m):=by(intro j x hx;have d:=hdis j x hx;have r:=Bq h.W x;have o:=Ek (ws:=h.W) (ws':=h'.W) (a:=x) (by rw[out x oq]);refine⟨o.1 (g.on hx).2.2.2.2.2.1,o.2.1,o.2.2.1,o.2.2.2.1,o.2.2.2.2,λm h1 h2=>out _ oq⟩)
 have mem:∀j x,x∈(if j=i then T i++[a]else T j)->x∈T j\/(j=i/\x=a):=by(intro j x hx;split at hx;rename_i q;subst q;rcases Ld.1 hx with hx|hx;exact La hx;exact Lb ⟨rfl,Lf.1 hx⟩;exact La hx)
 have mem2:∀j x,x∈T j->x∈(if j=i then T i++[a]else T j):=by(intro j x hx;split;rename_i q;subst q;exact Lh _ hx;exact hx)
 have mem3:a∈(if i=i then T i++[a]else T i):=by simp
 have hnil:(h.P.getD i X).K=0->T i=[]:=λq=>LR.2 λx hx=>by have:=(g.t0 i x hx).2;omega
 refine⟨⟨hp, ?_, ?_, ?_, ?_, ?_, ?_, ?_⟩,ha4,ha1,z,out⟩;intro j hj1 hk1;rw[hl]at hj1;rw[hs];by_cases q:j=i;subst q;exact hsp;rcases hj j hj1 q with e|e;rw[e]at hk1⊢;exact g.sp j hj1 hk1;exact e.2.2;intro j hj1 hk1;rw[hl]at hj1;rw[hb,hc];by_cases q:j=i;subst q;simp only[if_true];rcases hI with⟨c1,c2,c3,c4,c5⟩|c;refine⟨?_, ?_⟩;have last:EK h'.W a (ZD h j+(h'.P.getD j X).U) [a]:=⟨rfl,ha2,by rw[ha3];simp only[EK];omega⟩;refine Z3e (b:=a) ?_ last;rcases c1 with c1|c1;rw[hnil c1];rw[C2,if_pos c1]at c3;simp only[EK];omega;have t:=(g.t1 j hi c1).1;rw[C2,if_neg oq]at c3;rw[c3];exact NR t λx hx=>⟨(ky j x hx).1,(ky j x hx).2.1⟩;intro x hx;rcases Ld.1 hx with hx|hx;rw[(ky j x hx).2.1];rcases c1 with c1|c1;rw[hnil c1]at hx;simp at hx;exact(g.t1 j hi c1).2 x hx;have:=Lf.1 hx;subst this;omega;omega;rw[if_neg q];rcases hj j hj1 q with e|e;rw[e]at hk1⊢;have t:=g.t1 j hj1 hk1;exact⟨NR t.1 λx hx=>⟨(ky j x hx).1,(ky j x hx).2.1⟩,λx hx=>by rw[(ky j x hx).2.1];exact t.2 x hx⟩;omega;intro j hj1 hk2;rw[hl]at hj1;rw[hb];by_cases q:j=i;subst q;simp only[if_true];rcases hI with c|⟨c1,c2,c3,c4⟩;omega;rw[hnil c1,<-c3,ha3];exact⟨rfl,ha2,by omega,ha4⟩;rw[if_neg q];rcases hj j hj1 q with e|e;rw[e]at hk2⊢;have t:=g.t2 j hj1 hk2;have k:=ky j (ZD h j) (by rw[t.1];simp);exact⟨t.1,k.1,by rw[k.2.1];exact t.2.2.1,by rw[k.2.2.1];exact t.2.2.2⟩;omega;intro j x hx;rw[hl];rcases mem j x hx with hx|⟨q,_⟩;have t:=g.t0 j x hx;refine⟨t.1, ?_⟩;by_cases q:j=i;subst q;rcases hI with c|c<;>omega;rcases hj j t.1 q with e|e;rw[e];exact t.2;omega;subst q;exact⟨hi,by rcases hI with c|c<;>omega⟩;intro k hk0;by_cases hr:k<a\/a+Z5 hd<=k;rw[out k hr]at hk0;obtain⟨j,x,hx,h1,h2⟩:=g.d k hk0;exact⟨j,x,mem2 j x hx,h1,by rw[(ky j x hx).2.2.2.2.1];exact h2⟩;refine⟨i,a,mem3,by omega, ?_⟩;rw[ES,if_neg ha4,ha3];omega;intro j x k hx hkd h0 h1 hpt;rcases mem j x hx with hx|⟨_,q⟩;have c:=ky j x hx;rw[c.2.2.1]at hkd;rw[c.2.1]at h1;rw[c.2.2.2.1]at hpt;have e:=c.2.2.2.2.2 (1+k) oq oq;rw[<-LH]at e;rw[e];rcases g.q j x k hx hkd h0 h1 hpt with q|⟨b,b1,b2⟩;exact La q;exact Lb ⟨b,mem2 b _ b1,by rw[(ky b _ b1).2.2.1];exact b2⟩;subst q;rw[ha3]at h1;exact La (z _ oq oq);rw[hc];have:=g.cr;omega
structure DZ (h h':Heap) (T:Nat->List Int) (hd:Zz) (i:Nat) (a:Int):Prop where
 g:Gd h' (λj=>if j=i then T i++[a]else T j)
 k:CJ h'.W a≠0
 e:ZY h'.W a=hd
 z:∀k,a<k->k<a+Z5 hd->(Z1 h'.W k).1=0
 o:∀k,k<a\/a+Z5 hd<=k->Z1 h'.W k=Z1 h.W k
 d:∀j x,x∈T j->x+Zl h.W x<a\/a+Z5 hd<=x
 c:h'.C=h.C
def Ze4{c n}(g:¬ 0<need c n)(a:0<=need c n):n<=Zd c:=by
 unfold need at g a;split at a;rename_i d;rw[if_pos d]at g;have hb:=BI.1 d.1;rw[Zd,if_pos d.1,Lw oq];split at a;rename_i f;exact f;rename_i f;rw[if_neg f]at g;have e:=LL (n+c.pw-1) c.pw;have:=Lv (n+c.pw-1) (b:=c.pw) oq;have h:(n+c.pw-1)/c.pw=0:=by omega
 rw[h]at e;omega;omega
def Gd.newOk{h T}(g:Gd h T){hd:Zz}(hw:Zx h.W)(hm:0<=hd.map/\hd.map<=4294967295)(e:(B2 h hd).2.2=0):∃i,DZ h (B2 h hd).1 T hd i (B2 h hd).2.1:=by
 obtain⟨k1,k2,k3,k4,k5,k6,k7,k8⟩:=Z42 hw hm e;obtain⟨a1,a2,a3,a4,a5⟩:=Tk k2;have po:=B6 g.p;have hpt:=g.p;rw[GU]at hpt;obtain⟨p1,p2,p3,p4,p5,p6⟩:=hpt;have hin:4096<=(Cv h hd).2.1/\(Cv h hd).2.1+Z5 hd<=4096+h.W.length:=⟨k3.lo,k3.hi⟩;have e1:(B2 h hd).1.C=h.C:=by rw[k6];exact k3.c
 have e2:(B2 h hd).1.S=h.S:=by rw[k6];exact k3.sp
 have e3:(B2 h hd).1.P.length=h.P.length:=by rw[k6];exact k3.l
 have e4:(B2 h hd).1.W=(ZX h.W (Cv h hd).2.1 (BE hd)).1:=by rw[k6]
 have e5:(B2 h hd).1.P=(Cv h hd).1.P:=by rw[k6]
 rw[k5];have fin:∀i:Nat,i<h.P.length->(∀j,j<h.P.length->j≠i->(B2 h hd).1.P.getD j X=h.P.getD j X\/((h.P.getD j X).K=0/\((B2 h hd).1.P.getD j X).K=3/\((B2 h hd).1.P.getD j X).S=h.S)) ->
   ((h.P.getD i X).K=0\/(h.P.getD i X).K=1)/\((B2 h hd).1.P.getD i X).K=1/\(Cv h hd).2.1=ZD h i+C2 (h.P.getD i X)/\((B2 h hd).1.P.getD i X).U=C2 (h.P.getD i X)+Z5 hd/\Z5 hd<=Zd h.C\/(h.P.getD i X).K=0/\((B2 h hd).1.P.getD i X).K=2/\(Cv h hd).2.1=ZD h i/\((B2 h hd).1.P.getD i X).U=Z5 hd ->
   ((B2 h hd).1.P.getD i X).S=h.S->crowd (B2 h hd).1.P<=crowd h.P->(∀j x,x∈T j->x+Zl h.W x<(Cv h hd).2.1\/(Cv h hd).2.1+Z5 hd<=x)->∃i,DZ h (B2 h hd).1 T hd i (Cv h hd).2.1:=by
  intro i hi hj hI hsp hcr hdis;obtain⟨q1,q2,q3,q4,q5⟩:=g.add a1 hm a5 k7 e1 e2 e3 e4 hin hi hj hI hsp hcr hdis;exact⟨i,q1,q2,q3,q4,q5,hdis,e1⟩
 rw[e5]at fin;by_cases hn:0<need h.C (Z5 hd);have e7:Cv h hd=BH h (Z5 hd) (need h.C (Z5 hd)):=by rw[Cv,if_pos hn]
 rw[e7]at k4 fin⊢;by_cases hg:0<=first h.P (need h.C (Z5 hd))/\Cr h.P+need h.C (Z5 hd)<=Ea h.C
 obtain⟨g1,g2,g3⟩:=I8 hg.1;have el:(H5 h.C h.P (first h.P (need h.C (Z5 hd))) h.S (Z5 hd)).1=ZN h.P (first h.P (need h.C (Z5 hd))).toNat (need h.C (Z5 hd)).toNat ⟨2,h.S,Z5 hd,0⟩ ⟨3,h.S,0,0⟩:=by(rw[H5,if_pos ⟨g1,by omega⟩,ER,if_pos oq,if_pos g3])
 have e8:BH h (Z5 hd) (need h.C (Z5 hd))=(⟨h.C,h.W,ZN h.P (first h.P (need h.C (Z5 hd))).toNat (need h.C (Z5 hd)).toNat ⟨2,h.S,Z5 hd,0⟩ ⟨3,h.S,0,0⟩,h.S,h.B⟩,4096+first h.P (need h.C (Z5 hd))*h.C.pw,Y):=by rw[BH,if_pos hg,el]
 have hf:∀j,j<(need h.C (Z5 hd)).toNat->(h.P.getD ((first h.P (need h.C (Z5 hd))).toNat+j) X).K=0:=Si.1 g3;have hu:=Pb g1;rw[e8]at fin⊢;simp only at fin⊢;generalize hk:need h.C (Z5 hd)=k at *;generalize hfi:first h.P k=f at *
 have hge:∀j,(ZN h.P f.toNat k.toNat ⟨2,h.S,Z5 hd,0⟩ ⟨3,h.S,0,0⟩).getD j X=if j=f.toNat then⟨2,h.S,Z5 hd,0⟩else if f.toNat<j/\j<f.toNat+k.toNat then⟨3,h.S,0,0⟩else h.P.getD j X:=Z3O oq oq;have h0:=hf 0 oq;rw[Nat.add_zero]at h0;refine fin f.toNat oq ?_ ?_ ?_ ?_ ?_;intro j hj1 hj2;rw[hge,if_neg hj2];split;rename_i q;have:=hf (j-f.toNat) oq;rw[show f.toNat+(j-f.toNat)=j by omega]at this;exact Lb ⟨this,rfl,rfl⟩;exact La rfl;rw[hge,if_pos rfl];refine Lb ⟨h0,rfl, ?_,rfl⟩;rw[ZD,Lz oq];rw[hge,if_pos rfl];refine Pd (Z0x oq) λj hj1 q1 q2=>?_;rw[hge]at q1 q2;split at q1;simp at q1;rename_i c1;rw[if_neg c1]at q2;split at q1;simp at q1;rename_i c2;rw[if_neg c2]at q2;exact⟨q1,q2⟩;intro j x hx;have o:=g.on hx;have hr:=Bq h.W x;unfold ZD at o;have hfe:((f.toNat:Nat):Int)=f:=by omega
 by_cases q:j<f.toNat
 have:=D2 g.p q oq o.2.1 oq;rw[hfe]at this;omega;have hjk:f.toNat+k.toNat<=j:=by(by_cases q2:f.toNat+k.toNat<=j;exact q2;have:=hf (j-f.toNat) oq;rw[show f.toNat+(j-f.toNat)=j by omega]at this;omega)
 have:=LM (show f+k<=(j:Int) by omega) (show 0<=h.C.pw by omega);rw[Int.add_mul]at this;omega;rw[BH,if_neg hg]at k4;simp at k4;have e7:Cv h hd=Bm h (Z5 hd):=by rw[Cv,if_neg hn]
 have hsm:=Ze4 hn a4;have hsw:Zd h.C<=h.C.pw:=by(rw[Zd,if_pos p1,Lw oq];omega)
 rw[e7]at k4 fin⊢;by_cases hf:N7 h (Z5 hd);have e8:Bm h (Z5 hd)=(⟨h.C,h.W,Cw h.P h.B.toNat (Z5 hd),h.S,h.B⟩,4096+h.B*h.C.pw+(h.P.getD h.B.toNat X).U,Y):=by rw[Bm,if_pos hf]
 unfold N7 at hf;have hbi:h.B.toNat<h.P.length:=by omega
 have hk:(h.P.getD h.B.toNat X).K=1:=by omega
 have hbe:((h.B.toNat:Nat):Int)=h.B:=by omega
 have hoc:C2 (h.P.getD h.B.toNat X)=(h.P.getD h.B.toNat X).U:=by rw[C2,if_neg oq]
 rw[e8,SL]at fin;rw[e8];simp only at fin⊢;refine fin h.B.toNat hbi ?_ ?_ ?_ ?_ ?_;intro j hj1 hj2;rw[Cq hbi,if_neg (λq=>hj2 q.symm)];exact La rfl;rw[Cq hbi,if_pos rfl,hoc];refine La ⟨Lb hk,hk, ?_,rfl,hsm⟩;rw[ZD,hbe];rw[Cq hbi,if_pos rfl];exact hf.2.1;refine Pd (by rw[Lk]) λj hj1 q1 q2=>?_;rw[Cq hbi]at q1 q2;split at q1;rename_i c;rw[if_pos c]at q2;subst c;exact⟨q1,q2⟩;rename_i c;rw[if_neg c]at q2;exact⟨q1,q2⟩;intro j x hx;have:=g.free hbi (Lb hk) hx;rw[hoc,ZD,hbe]at this;omega;by_cases hg:0<=first h.P 1/\(Cr h.P:Int)<Ea h.C
 have e8:Bm h (Z5 hd)=(⟨h.C,h.W,Cw (HU h) (first h.P 1).toNat (Z5 hd),h.S,first h.P 1⟩,4096+first h.P 1*h.C.pw+((HU h).getD (first h.P 1).toNat X).U,Y):=by rw[Bm,if_neg hf,if_pos hg]
 obtain⟨g1,g2,g3⟩:=AX p4 hg.1 (Z5 hd);have g4:=congrArg Z0.U (R5 p4 hg.1).2.2.2;simp only at g4;have hbe:(((first h.P 1).toNat:Nat):Int)=first h.P 1:=by omega
 have hoc:C2 (h.P.getD (first h.P 1).toNat X)=0:=by rw[C2,if_pos g2]
 rw[e8,g1,g4]at fin;rw[e8,g4];simp only at fin⊢;refine fin (first h.P 1).toNat g3 ?_ ?_ ?_ ?_ ?_;intro j hj1 hj2;rw[Cq g3,if_neg (λq=>hj2 q.symm)];exact La rfl;rw[Cq g3,if_pos rfl,hoc];refine La ⟨La g2,rfl, ?_,by simp,hsm⟩;rw[ZD,hbe];rw[Cq g3,if_pos rfl];refine Pd (by rw[Lk]) λj hj1 q1 q2=>?_;rw[Cq g3]at q1 q2;split at q1;rename_i c;rw[if_pos c]at q2;simp at q2;rename_i c;rw[if_neg c]at q2;exact⟨q1,q2⟩;intro j x hx;have:=g.free g3 (La g2) hx;rw[hoc,ZD,hbe]at this;omega;rw[Bm,if_neg hf,if_neg hg]at k4;simp at k4
def H7(h:Heap)(T:Nat->List Int)(l:List Int):Prop:=∀r∈l,r=0\/Ob h T r
def WG(w:Zo):Prop:=∃T,Gd w.j T/\H7 w.j T w.G/\H7 w.j T w.E
def DZ.ob{h h' T c i a}(n:DZ h h' T c i a){x}(e:Ob h T x):Ob h' (λj=>if j=i then T i++[a]else T j) x:=by obtain⟨j,b,d⟩:=e;have r:=Bq h.W x;have o:=Ek (ws:=h.W) (ws':=h'.W) (a:=x) (by rw[n.o x (by have:=n.d j x b;omega)]);refine⟨j, ?_,by rw[o.2.2.1];exact d⟩;show x∈(if j=i then T i++[a]else T j);split;rename_i q;subst q;exact Lh _ b;exact b
def DZ.ob0{h h' T b i a}(n:DZ h h' T b i a):Ob h' (λj=>if j=i then T i++[a]else T j) a:=
 ⟨i,by simp,n.k⟩
def WG.put{w}(h:WG w)(j:Zx w.j.W){b:Zz}(f:0<=b.map/\b.map<=4294967295):WG (w.put b):=by unfold Zo.put;split;rename_i e;obtain⟨T,g,c,d⟩:=h;obtain⟨i,n⟩:=g.newOk j f e;refine⟨_,n.g,λr a=>?_,λr a=>?_⟩;rcases Ld.1 a with a|a;rcases c r a with q|q;exact La q;exact Lb (n.ob q);have:=Lf.1 a;subst this;exact Lb n.ob0;rcases d r a with q|q;exact La q;exact Lb (n.ob q);exact h
def WG.pick{w:Zo}{T}(a:H7 w.j T w.G)(b:H7 w.j T w.E)(t:Tape):w.pick t=0\/Ob w.j T (w.pick t):=by rcases Z96 w t with e|e|e;exact La e;exact a _ e;exact b _ e
def Gd.setf{h T}(g:Gd h T)(l:Zx h.W){a i v:Int}(hv:0<=v/\v<=18446744073709551615)(k:Ob h T a)(hi:0<=i/\i<(Zw h a).1.length)(d:Ba (Zw h a).1 i=Y->v=0\/Ob h T v):Gd (Eb h a i v).1 T/\∀x,Ob h T x->Ob (Eb h a i v).1 T x:=by obtain⟨j,b,c⟩:=k;have f:=g.fields b c;obtain⟨s1,s2,s3⟩:=Z3r l hv (a:=a) (i:=i) (by rw[f.1]) hi;rw[f.1]at hi d;have q:=g.store (v:=v) ⟨j,b,c⟩ hi d;rw[s1];refine⟨q.1, ?_⟩;rintro x ⟨m,e,n⟩;refine⟨m,e, ?_⟩;have:=(Ek (q.2 m x e)).2.2.1;simp only;rw[this];exact n
def WG.link{w n}(h:WG w)(d:C6 w n)(f:n<=1000000) t:WG (w.link t):=by
 unfold Zo.link;split;rename_i e;obtain⟨T,g,a,b⟩:=h;have j:=d.wm f;have gg:=It e.1;have k:=GT (w.pickT (w.pickT t)) (n:=8) dd;have hi:0<=Hu w t/\Hu w t<(Zw w.j (w.pick t)).1.length:=by(unfold Hu;rw[LQ k.1];exact⟨LJ _ oq,Lv _ oq⟩)
 have hv:0<=HJ w t/\HJ w t<=18446744073709551615:=by(unfold HJ;split;exact Ar j _;have:=GT ((w.pickT (w.pickT t)).step 8) (n:=1048576) dd;omega)
 have i:Ob w.j T (w.pick t):=by(rcases WG.pick a b t with q|q;omega;exact q)
 have s:=g.setf d.W hv i hi (λq=>by
  unfold HJ;rw[if_pos q];exact WG.pick a b _)
 exact⟨T,s.1,λr c=>(a r c).imp id (s.2 r),λr c=>(b r c).imp id (s.2 r)⟩;exact h
def WG.pinned{w}(h:WG w){i d}(s:Z9 (pinB w i d).j=Y)(hi:i<w.j.P.length)(n:d=-1\/0<(w.j.P.getD i X).N\/(w.j.P.getD i X).K=2\/(crowd w.j.P:Int)<w.j.C.pg/4):WG (pinB w i d):=by
 obtain⟨T,g,l,m⟩:=h;have pp:=En g.p hi;have t:∀j,j<w.j.P.length->((pinB w i d).j.P.getD j X).K=(w.j.P.getD j X).K/\((pinB w i d).j.P.getD j X).S=(w.j.P.getD j X).S/\((pinB w i d).j.P.getD j X).U=(w.j.P.getD j X).U:=by(intro j r;simp only[pinB];rw[Cq hi];split;rename_i q;subst q;exact⟨rfl,rfl,rfl⟩;exact⟨rfl,rfl,rfl⟩)
 have k:(crowd (pinB w i d).j.P:Int)<=w.j.C.pg/4:=by
  have c0:=g.cr;have a:(0<(w.j.P.getD i X).N+d->(w.j.P.getD i X).K=1->0<(w.j.P.getD i X).N)->(crowd (pinB w i d).j.P:Int)<=w.j.C.pg/4:=by
   intro o;have:crowd (pinB w i d).j.P<=crowd w.j.P:=by(refine Pd (by simp[pinB]) λj r b f=>?_;simp only[pinB]at b f;rw[Cq hi]at b f;split at b;rename_i c;rw[if_pos c]at f;subst c;exact⟨b,o f b⟩;rename_i c;rw[if_neg c]at f;exact⟨b,f⟩)
   omega
  rcases n with q|q|q|q;exact a oq;exact a oq;exact a oq;have:=(Z5J (p:=⟨(w.j.P.getD i X).K,(w.j.P.getD i X).S,(w.j.P.getD i X).U,(w.j.P.getD i X).N+d⟩) hi w.j.P.length).1;have e:crowd (pinB w i d).j.P=Bu (w.j.P.set i ⟨(w.j.P.getD i X).K,(w.j.P.getD i X).S,(w.j.P.getD i X).U,(w.j.P.getD i X).N+d⟩) w.j.P.length:=by(simp only[crowd,pinB,Lk])
  have e2:crowd w.j.P=Bu w.j.P w.j.P.length:=rfl;omega
 exact⟨T,g.P s rfl rfl rfl (by simp[pinB]) t k,l,m⟩
def WG.pok{w}(h:WG w):POk w:=by
 obtain⟨T,g,b,c⟩:=h;have k:∀l,H7 w.j T l->∀r∈l,Sk w.j r:=λl d r e=>by(rcases d r e with rfl|⟨j,a,_⟩;exact Z5b _;intro _;rw[g.ofx a];simpa using (g.on a).2.1)
 exact⟨g.p,k _ b,k _ c⟩
def WG.pin{w n}(h:WG w)(a:C6 w n)(b:n<=1000000) t:WG (w.pin t):=by
 have p1:=(h.pok.pin a b t).p;unfold Zo.pin at p1⊢;split;rename_i e;rw[if_pos e]at p1;have o:=H4 a.hv e;have d:=a.pl;have hi:Iy w t<w.j.P.length:=by unfold Iy;omega
 split;rename_i c;rw[if_pos c]at p1;exact h.pinned p1 hi (La rfl);rename_i c;rw[if_neg c]at p1;split;rename_i c2;rw[if_pos c2]at p1;exact h.pinned p1 hi (Lb c2);exact h;exact h
def WG.drop{w}(h:WG w) t:WG (w.drop t):=by unfold Zo.drop;split;rename_i hl;obtain⟨T,g,b,c⟩:=h;have n1:=GT t (n:=(w.G.length:Int)) oq;refine⟨T,g,λr a=>?_,λr a=>?_⟩;rcases Ld.1 a with a|a;exact b r (LF a);exact b r (LD a);simp only at a;split at a;rcases Ld.1 a with a|a;exact c r a;simp only[Lf]at a;subst a;refine b _ (ZT.2 ⟨_, ?_,rfl⟩);unfold OU;omega;exact c r a;exact h
def WG.dup{w}(h:WG w) t:WG (w.dup t):=by obtain⟨T,g,b,c⟩:=h;refine⟨T,g,λr a=>?_,c⟩;rcases Ld.1 a with a|a;exact b r a;simp only[Lf]at a;subst a;exact WG.pick b c _
def Z2K(t:Tape):WG t.empty:=by
 have e:=(Zdl t).p;have hv:=Z0j t;have hb:=BI.1 hv;have d:∀j,(t.empty.j.P.getD j X).K=0/\(t.empty.j.P.getD j X).N=0:=by(intro j;simp only[Tape.empty,Iz,Lg,LA];split;exact⟨rfl,rfl⟩;exact⟨rfl,rfl⟩)
 refine⟨λ_=>[],⟨e, ?_, ?_, ?_,by simp, ?_,by simp, ?_⟩,by simp[H7,Tape.empty],by simp[H7,Tape.empty]⟩;intro i _ b;exact absurd (d i).1 b;intro i _ b;rw[(d i).1]at b;omega;intro i _ b;rw[(d i).1]at b;omega;intro a g;exfalso;apply g;show(Z1 (Lc (t.C.pw*t.C.pg).toNat 0) a).1=0;unfold Z1;by_cases c:4096<=a/\a<4096+((Lc (t.C.pw*t.C.pg).toNat (0:Int)).length:Int);rw[if_pos c];simp only[Lg,LA];split<;>rfl;rw[if_neg c];have:crowd t.empty.j.P=0:=by
  have f:∀n,Bu t.empty.j.P n=0:=by
   intro n;induction n with|zero=>rfl|succ n h =>unfold Bu;rw[h,if_neg (by rw[(d n).1];omega)]
  exact f _
 rw[this];show(0:Int)<=t.C.pg/4;omega
end Go.Proofs.YtgedmeaemofdkaaGreat
