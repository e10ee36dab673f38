/-
 The statement CollectWeak: part 11.
 Conditions: none.
-/
import Derived.Test.YtgedmeaemofdkaaGreatW10
set_option maxRecDepth 100000
set_option maxHeartbeats 2000000
set_option linter.all false
open Inhabited renaming default->X
open Bool renaming true->Y,false->M,and_eq_true->Lu
open List renaming map->Z,replicate->Lc,mem_append->Ld,mem_singleton->Lf,getD_eq_getElem?_getD->Lg,mem_append_left->Lh,mem_range->Li,find?_eq_none->Lj,length_set->Lk,length_map->Lm,take->Ln,range->Lo,length_replicate->Lr,mem_append_right->Ls,mem_cons->Lt,find?_range_eq_some->Ly,getElem?_replicate->LA,map_set->LB,mem_map->LC,mem_of_mem_drop->LD,mem_of_mem_take->LF,mem_replicate->LG,eq_nil_iff_forall_not_mem->LR,getElem?_eq_getElem->LS,length->LU,length_append->LV,length_drop->LW,length_take->LX,map_append->LY,map_drop->LZ,map_take->L0,mem_cons_of_mem->L1,mem_iff_getElem->L2,mem_or_eq_of_mem_set->L3
open Decidable renaming decide->O,not_not->Lp
open Or renaming inl->La,inr->Lb
open Nat renaming le_refl->Le,add_mul->L4,le_trans->L5,lt_trichotomy->L6,mul_le_mul_right->L7,one_mul->L8
open Int renaming toNat->Ll,emod_lt_of_pos->Lv,tdiv_eq_ediv_of_nonneg->Lw,toNat_natCast->Lx,toNat_of_nonneg->Lz,add_assoc->LH,add_zero->LI,emod_nonneg->LJ,mul_comm->LK,mul_ediv_add_emod->LL,mul_le_mul_of_nonneg_right->LM,mul_nonneg->LN,natCast_mul->LO,tmod_eq_emod_of_nonneg->LQ
open Go.IntKind renaming i64->Lq
open Go.Proofs.Tryz
namespace Go.Proofs.YtgedmeaemofdkaaGreat
open Go.Sx
def BR(w:Z6)(r:Int):Int:=if r∈w.Q then r else(ZD (Z1 w.heap.W r).1).1
def Z77(w:Z6)(r:Int)(b:Zy w.heap.W)(hl:w.heap.W.length<=4096)(hq:w.Q.length<=1048576)(h0:0<=r/\r<=18446744073709551615):GP 85 [w.av,u64 r] Y (u64 (BR w r)) []:=by have h1:=G3 b r;rcases bb (O (r∈w.Q))with hc0|hc0<;>have a:=hc0<;>simp only[bs]at a;exact gF [] func85 [Y] (Fh 12 [.call Y (Sx.bool (O (r∈w.Q))) [],.br Y] (Fa (@CN w.Q r aa) (Fa hc0 (Fa (by simp[BR, *]:r=BR w r) Fz))));exact gF [] func85 [Y] (Fh 12 [.call Y (Sx.bool (O (r∈w.Q))) [],.br M] (Fa (@CN w.Q r aa) (Fa hc0 (Fc 19 (@HG w.heap.W r oq aa) (Fc 24 (@AB ((Z1 w.heap.W r).1) oq oq) (Fa (by simp[BR, *]:(ZD (Z1 w.heap.W r).1).1=BR w r) Fz))))))
def Zc3(w:Z6)(a:Int)(b:Zy w.heap.W)(h1:w.heap.W.length<=4096)(h0:0<=a/\a<=18446744073709551615):GP 142 [w.av,u64 a] Y (Zv w a).av []:=by have h2:=G3 b a;exact gF [] func142 [] (Fc 14 (@HG w.heap.W a oq aa) (Fc 19 (@Ac ((Z1 w.heap.W a).1) oq oq) Fz))
def GJ(w:Z6)(x:Int):Z6:=if ZI w (Z2 w.heap.C x).1=Y/\x∉w.Q then⟨⟨w.heap.C,(ZT w.heap.W x (BF ⟨0,(Zv w x).length,0⟩)).1,w.heap.P,w.heap.S,w.heap.B⟩,w.old,w.T,w.Q,w.D,⟨w.rep.copied,w.rep.kept,w.rep.filled+1,w.rep.freed,w.rep.cleared,w.rep.steps⟩⟩else w
def Cj(w:Z6):Nat->Z6|0=>w|k+1=>GJ (Cj w k) (w.old.getD k X)
def PS(w:Z6)(i:Nat):Tg:=⟨tm 84 [(1,.pt 8001 0 0),(2,.pt 8002 0 0),(3,int i)],[(8002,.box 138 zW),(8001,.box 138 w.cells)],60⟩
structure FOk (w:Z6):Prop where
 W:Zy w.heap.W
 wl:w.heap.W.length<=4096
 pl:w.heap.P.length<=64
 ol:w.old.length<=524288
 o:∀x∈w.old,0<=x/\x<=8192
 tl:w.T.length<=1000000
 ql:w.Q.length<=1000000
def B8.fok{w}(h:B8 w):FOk w:=by have h1:=h.mu;have h2:=h.tl;have h3:=h.pl;have h4:=BG.1 h.C;exact⟨h.W,h.wl,by omega,h.ol,h.o,by omega,by omega⟩
def AZ{n:Int}(h:0<=n/\n<=255):Zt ⟨0,n,0⟩=(1+16*n,0):=by have hv:ZR ⟨0,n,0⟩=Y:=Gl.2 ⟨by simp,by simp,h.1,h.2,by simp⟩;rw[Zt,if_pos hv];simp
section
variable (w:Z6) (i:Nat) (a:FOk w) (hi:i<w.old.length) (hr:0<=w.rep.filled/\w.rep.filled<=1000000)
include a hi hr
theorem ZjP:CP (Zm f87 0) (PS w i).st .nrm (PS (GJ w (w.old.getD i X)) (i+1)).st:=by
 have d:=a.W;have h2:=a.wl;have h3:=a.pl;have h4:=a.ol;have h5:=a.tl;have h6:=a.ql;have hx:=a.o _ (Be.2 ⟨i,hi,rfl⟩);have hm:=IP (Z1 w.heap.W (w.old.getD i X)).1 (G3 d _).1;have e:0<=(Zv w (w.old.getD i X)).length/\(Zv w (w.old.getD i X)).length<=255:=Bo w.heap.W (w.old.getD i X);have he:=AZ e;by_cases c1:ZI w (Z2 w.heap.C (w.old.getD i X)).1=Y;by_cases c2:w.old.getD i X∈w.Q;have b:GJ w (w.old.getD i X)=w:=by rw[GJ,if_neg (by rintro⟨_,q⟩;exact q c2)]
 rw[b];exact sF [] [] (FN 13 14 24 wdv w.old i (Fc 26 (@Hn w.heap.C (w.old.getD i X) oq oq) (Fc 32 (@SP w ((Z2 w.heap.C (w.old.getD i X)).1) oq oq) (FeG 40 (!!ZI w (Z2 w.heap.C (w.old.getD i X)).1) wdv w.old (↑i) i (FcG 42 (!!ZI w (Z2 w.heap.C (w.old.getD i X)).1) (λc=>by(try simp only[bs]at c);exact@CN w.Q (w.old.getD i X) oq) (Fts 43 (!ZI w (Z2 w.heap.C (w.old.getD i X)).1||O (w.old.getD i X∈w.Q)) (Fx 16 i Fz)))))));have b:GJ w (w.old.getD i X)=⟨⟨w.heap.C,(ZT w.heap.W (w.old.getD i X) (BF ⟨0,(Zv w (w.old.getD i X)).length,0⟩)).1,w.heap.P,w.heap.S,w.heap.B⟩,w.old,w.T,w.Q,w.D,⟨w.rep.copied,w.rep.kept,w.rep.filled+1,w.rep.freed,w.rep.cleared,w.rep.steps⟩⟩:=by rw[GJ,if_pos ⟨c1,c2⟩]
 rw[b];exact sF [] [] (Fh 71 [.els (Z wdv ([(Zt (Zw.mk 0 (Zv w (w.old.getD i X)).length 0)).1]++Lc (Zv w (w.old.getD i X)).length.toNat 0))] (FN 13 14 24 wdv w.old i (Fc 26 (@Hn w.heap.C (w.old.getD i X) oq oq) (Fc 32 (@SP w ((Z2 w.heap.C (w.old.getD i X)).1) oq oq) (FeG 40 (!!ZI w (Z2 w.heap.C (w.old.getD i X)).1) wdv w.old (↑i) i (FcG 42 (!!ZI w (Z2 w.heap.C (w.old.getD i X)).1) (λc=>by(try simp only[bs]at c);exact@CN w.Q (w.old.getD i X) oq) (Ffs 43 (!ZI w (Z2 w.heap.C (w.old.getD i X)).1||O (w.old.getD i X∈w.Q)) (Fek 48 wdv w.old (↑i) i (Fc 50 (@Zc3 w (w.old.getD i X) aa aa oq) (Fc 55 (@M6 (Zw.mk 0 (Zv w (w.old.getD i X)).length 0) (by(simp only[bs];omega))) (Fek 65 wdv w.old (↑i) i (Fs 68 (Z wdv [(Zt (Zw.mk 0 (Zv w (w.old.getD i X)).length 0)).1]) (Fa (by grind[BF]:0<=(Zv w (w.old.getD i X)).length/\(↑(Z wdv [(Zt (Zw.mk 0 (Zv w (w.old.getD i X)).length 0)).1]).length:Int)+(Zv w (w.old.getD i X)).length<=2^30) (Fa (by simp[BF,L0,LZ,LB,LY,wdv,idv]:Z wdv [(Zt (Zw.mk 0 (Zv w (w.old.getD i X)).length 0)).1]++Lc (Zv w (w.old.getD i X)).length.toNat [B1 0]=Z wdv ([(Zt (Zw.mk 0 (Zv w (w.old.getD i X)).length 0)).1]++Lc (Zv w (w.old.getD i X)).length.toNat 0)) (Fc 72 (@P1 w.heap.W ([(Zt (Zw.mk 0 (Zv w (w.old.getD i X)).length 0)).1]++Lc (Zv w (w.old.getD i X)).length.toNat 0) (w.old.getD i X) oq oq (by grind[BF])) (Fi 80 (w.rep.filled+1) (Fx 16 i Fz)))))))))))))))));have b:GJ w (w.old.getD i X)=w:=by rw[GJ,if_neg (by rintro⟨q,_⟩;exact c1 q)]
 rw[b];exact sF [] [] (FN 13 14 24 wdv w.old i (Fc 26 (@Hn w.heap.C (w.old.getD i X) oq oq) (Fc 32 (@SP w ((Z2 w.heap.C (w.old.getD i X)).1) oq oq) (FeG 40 (!!ZI w (Z2 w.heap.C (w.old.getD i X)).1) wdv w.old (↑i) i (FcG 42 (!!ZI w (Z2 w.heap.C (w.old.getD i X)).1) (λc=>by(try simp only[bs]at c);exact@CN w.Q (w.old.getD i X) oq) (Fts 43 (!ZI w (Z2 w.heap.C (w.old.getD i X)).1||O (w.old.getD i X∈w.Q)) (Fx 16 i Fz)))))))
end
def Zla w:CP (Zm f87 0) (PS w w.old.length).st (.ext 0) (Tg.st ⟨tm 84 [(1,.pt 8001 0 0),(2,.pt 8002 0 0)],[(8002,.box 138 zW),(8001,.box 138 w.cells)],60⟩):=by exact sF [] [] (FO 13 14 wdv w.old Fz)
def Zih w(x:Int):∃l n,GJ w x=⟨⟨w.heap.C,l,w.heap.P,w.heap.S,w.heap.B⟩,w.old,w.T,w.Q,w.D,⟨w.rep.copied,w.rep.kept,n,w.rep.freed,w.rep.cleared,w.rep.steps⟩⟩/\l.length<=w.heap.W.length/\(Zy w.heap.W->Zy l)/\w.rep.filled<=n/\n<=w.rep.filled+1:=by unfold GJ;split;refine⟨_,_,rfl,Z1L _ _ _,λh=>PE h ?_ _,by omega,by omega⟩;intro y a;have b:0<=(Zv w x).length/\(Zv w x).length<=255:=Bo w.heap.W x;simp only[BF,Lt,LG,AZ b]at a;rcases a with rfl|⟨_,rfl⟩<;>omega;exact⟨w.heap.W,w.rep.filled,rfl,Le _,λh=>h,by omega,by omega⟩
def HF w(b:FOk w):∀k,FOk (Cj w k)/\(Cj w k).heap.C=w.heap.C/\(Cj w k).heap.P=w.heap.P/\(Cj w k).heap.S=w.heap.S/\(Cj w k).heap.B=w.heap.B/\(Cj w k).old=w.old/\(Cj w k).T=w.T/\(Cj w k).Q=w.Q/\(Cj w k).rep.freed=w.rep.freed/\(Cj w k).rep.cleared=w.rep.cleared/\w.rep.filled<=(Cj w k).rep.filled/\(Cj w k).rep.filled<=w.rep.filled+k
 |0=>⟨b,rfl,rfl,rfl,rfl,rfl,rfl,rfl,rfl,rfl,by simp[Cj],by simp[Cj]⟩
 |k+1=>by
  obtain⟨a,d,i2,i3,i4,h,i,j,i8,m,f,g⟩:=HF w b k;obtain⟨l,n,e,e1,c,e3,e4⟩:=Zih (Cj w k) (w.old.getD k X);have:Cj w (k+1)=_:=e;rw[this];have hl:=a.wl;exact⟨⟨c a.W,by simp only;omega,a.pl,a.ol,a.o,a.tl,a.ql⟩,d,i2,i3,i4,h,i,j,i8,m,by simp only;omega,by simp only;omega⟩
section
variable (w:Z6) (a:FOk w) (hr:w.rep.filled=0)
include a hr
theorem Zg7:CP (Zi f87 0) (Tg.st ⟨tm 84 [(1,.pt 8001 0 0),(2,.pt 8002 0 0),(3,int 0)],[(8002,.box 138 zW),(8001,.box 138 w.cells)],60⟩) .nrm (Tg.st ⟨tm 84 [(1,.pt 8001 0 0),(2,.pt 8002 0 0)],[(8002,.box 138 zW),(8001,.box 138 (Cj w w.old.length).cells)],60⟩):=by have c:=a.ol;refine Bs (S:=λk=>(PS (Cj w k) k).st) w.old.length kr (λk b=>?_) ?_;have h:=HF w a k;have:=ZjP (Cj w k) k h.1 (by rw[h.2.2.2.2.2.1];exact b) oq;rw[h.2.2.2.2.2.1]at this;exact this;have h:=HF w a w.old.length;have:=Zla (Cj w w.old.length);rw[h.2.2.2.2.2.1]at this;exact this
theorem Z7M:GP 87 [w.av] M (Cj w w.old.length).av []:=by exact gF [] func87 [] (Fu (@Zg7 w aa aa) Fz)
end
def Cv(s:Int)(p:Z0):Prop:=p.K≠0/\p.S=s
instance (s:Int) (p:Z0):Decidable (Cv s p):=by unfold Cv;infer_instance
def BN(s:Int)(p:Z0):Z0:=if Cv s p then⟨0,0,0,0⟩else p
def Ei(pw s:Int)(l:List Z0)(ws:List Int):Nat->List Int|0=>ws|i+1=>if Cv s (l.getD i X)then Cf (Ei pw s l ws i) (i*pw.toNat) (Lc pw.toNat 0)else Ei pw s l ws i
def EV(n s:Int)(l:List Z0):Nat->Int|0=>n|i+1=>if Cv s (l.getD i X)then EV n s l i+1 else EV n s l i
def Dk(w:Z6)(a:List Z0)(ws:List Int)(n:Int)(i:Nat):Tg:=⟨tm 78 [(1,.pt 8001 0 0),(2,.pt 8002 0 0),(3,int i)],[(8001,.box 138 [int w.heap.C.pw,int w.heap.C.pg,.ow 24017,.ow 16010,int w.heap.S,int w.heap.B,Z3 w.old,ZE w.T,Z3 w.Q,int w.D,int w.rep.copied,int w.rep.kept,int w.rep.filled,int n,int w.rep.cleared,int w.rep.steps]),(24017,.arr 35 1 (ws.map wdv)),(16010,.arr 86 4 (a.map Z0.dv)),(8002,.box 138 zW)],60⟩
def Zd7(w:Z6)(a:List Z0) ws n(i:Nat)(hl:a.length<=64)(hi:i<a.length)(b:¬ Cv w.heap.S (a.getD i X)):CP (Zm f86 0) (Dk w a ws n i).st .nrm (Dk w a ws n (i+1)).st:=by unfold Cv at b;have c:¬ ((a.getD (i:Int).toNat X).K≠0/\(a.getD (i:Int).toNat X).S=w.heap.S):=b;exact sF [] [] (FM 24 25 Z0.dv a i (Fmq 33 Z0.dv a (↑i) (Ftb 44 ((a.getD (i:Int).toNat X).K==0||(a.getD (i:Int).toNat X).S != w.heap.S) (Fx 27 i Fz))))
def TB(w:Z6)(a:List Z0)(ws:List Int)(n:Int)(i k:Nat):Tg:=⟨tm 78 [(1,.pt 8001 0 0),(2,.pt 8002 0 0),(3,int i),(5,int k)],[(8001,.box 138 [int w.heap.C.pw,int w.heap.C.pg,.ow 24017,.ow 16010,int w.heap.S,int w.heap.B,Z3 w.old,ZE w.T,Z3 w.Q,int w.D,int w.rep.copied,int w.rep.kept,int w.rep.filled,int n,int w.rep.cleared,int w.rep.steps]),(16010,.arr 86 4 (a.map Z0.dv)),(24017,.arr 35 1 ((wr ws (Lc w.heap.C.pw.toNat 0) (i*w.heap.C.pw.toNat) k).map wdv)),(8002,.box 138 zW)],64⟩
section
variable (w:Z6) (a:List Z0) (ws:List Int) (n:Int) (i k:Nat) (b:0<=w.heap.C.pw/\w.heap.C.pw<=64) (hi:i<=64) (hl:i*w.heap.C.pw.toNat+w.heap.C.pw.toNat<=ws.length) (c:ws.length<=4096)
include b hi hl c
theorem ZbO(d:k<w.heap.C.pw.toNat):CP (Zm f86 2) (TB w a ws n i k).st .nrm (TB w a ws n i (k+1)).st:=by
 have e:=TT (ws:=ws) (l:=Lc w.heap.C.pw.toNat 0) (i:=i*w.heap.C.pw.toNat) (k:=k) (by simpa using hl) (by simpa using d) (0:Int);rw[show(Lc w.heap.C.pw.toNat (0:Int)).getD k 0=0 by simp[List.getD,d]]at e;have hn:=Iw (ws:=ws) (l:=Lc w.heap.C.pw.toNat (0:Int)) (i:=i*w.heap.C.pw.toNat) (k:=k) (by simpa using hl) qo;have em:(i:Int)*w.heap.C.pw=((i*w.heap.C.pw.toNat:Nat):Int):=by rw[LO,Lz b.1]
 have ei:(i:Int)*w.heap.C.pw+k=((i*w.heap.C.pw.toNat+k:Nat):Int):=by omega
 exact sF [] (fO 6) (Fh 10076 [.els (Z wdv ((wr ws (Lc w.heap.C.pw.toNat 0) (i*w.heap.C.pw.toNat) k).set (↑(i*w.heap.C.pw.toNat+k):Int).toNat 0))] (Ftb 62 (O ((k:Int)<w.heap.C.pw)) (Fi 73 ((i:Int)*w.heap.C.pw) (Fg 75 (by rw[E6 oq oq];omega:Lq.wrap ((i:Int)*w.heap.C.pw+(k:Int))=(↑(i*w.heap.C.pw.toNat+k):Int)) (Fa (by(simp only[Lm];omega):0<=(↑(i*w.heap.C.pw.toNat+k):Int)/\(↑(i*w.heap.C.pw.toNat+k):Int).toNat<(Z wdv (wr ws (Lc w.heap.C.pw.toNat 0) (i*w.heap.C.pw.toNat) k)).length) (Fa (by(simp only[Lm];omega):(↑(i*w.heap.C.pw.toNat+k):Int).toNat<(Z wdv (wr ws (Lc w.heap.C.pw.toNat 0) (i*w.heap.C.pw.toNat) k)).length) (Fa (ms:(Z wdv (wr ws (Lc w.heap.C.pw.toNat 0) (i*w.heap.C.pw.toNat) k)).set (↑(i*w.heap.C.pw.toNat+k):Int).toNat [B1 0]=Z wdv ((wr ws (Lc w.heap.C.pw.toNat 0) (i*w.heap.C.pw.toNat) k).set (↑(i*w.heap.C.pw.toNat+k):Int).toNat 0)) (Fx 64 k (Fr (35:Int) (Fa (by refine congrArg _ ?_;exact e:Z wdv ((wr ws (Lc w.heap.C.pw.toNat 0) (i*w.heap.C.pw.toNat) k).set (↑(i*w.heap.C.pw.toNat+k):Int).toNat 0)=Z wdv (wr ws (Lc w.heap.C.pw.toNat 0) (i*w.heap.C.pw.toNat) (k+1))) Fz))))))))))
theorem ZfV:CP (Zm f86 2) (TB w a ws n i w.heap.C.pw.toNat).st (.ext 2) (Tg.st ⟨tm 78 [(1,.pt 8001 0 0),(2,.pt 8002 0 0),(3,int i)],[(8001,.box 138 [int w.heap.C.pw,int w.heap.C.pg,.ow 24017,.ow 16010,int w.heap.S,int w.heap.B,Z3 w.old,ZE w.T,Z3 w.Q,int w.D,int w.rep.copied,int w.rep.kept,int w.rep.filled,int n,int w.rep.cleared,int w.rep.steps]),(16010,.arr 86 4 (a.map Z0.dv)),(24017,.arr 35 1 ((Cf ws (i*w.heap.C.pw.toNat) (Lc w.heap.C.pw.toNat 0)).map wdv)),(8002,.box 138 zW)],64⟩):=by have d:=TL ws (Lc w.heap.C.pw.toNat (0:Int)) (i*w.heap.C.pw.toNat);rw[Lr]at d;exact sF [] (fO 5) (Ffb 62 (O ((w.heap.C.pw.toNat:Int)<w.heap.C.pw)) (Fr (35:Int) (Fa (by refine congrArg _ ?_;assumption:Z wdv (wr ws (Lc w.heap.C.pw.toNat 0) (i*w.heap.C.pw.toNat) w.heap.C.pw.toNat)=Z wdv (Cf ws (i*w.heap.C.pw.toNat) (Lc w.heap.C.pw.toNat 0))) Fz)))
theorem Zb7:CP (Zi f86 2) (Tg.st ⟨tm 78 [(1,.pt 8001 0 0),(2,.pt 8002 0 0),(3,int i),(5,int 0)],[(8001,.box 138 [int w.heap.C.pw,int w.heap.C.pg,.ow 24017,.ow 16010,int w.heap.S,int w.heap.B,Z3 w.old,ZE w.T,Z3 w.Q,int w.D,int w.rep.copied,int w.rep.kept,int w.rep.filled,int n,int w.rep.cleared,int w.rep.steps]),(16010,.arr 86 4 (a.map Z0.dv)),(24017,.arr 35 1 (ws.map wdv)),(8002,.box 138 zW)],64⟩) .nrm (Tg.st ⟨tm 78 [(1,.pt 8001 0 0),(2,.pt 8002 0 0),(3,int i)],[(8001,.box 138 [int w.heap.C.pw,int w.heap.C.pg,.ow 24017,.ow 16010,int w.heap.S,int w.heap.B,Z3 w.old,ZE w.T,Z3 w.Q,int w.D,int w.rep.copied,int w.rep.kept,int w.rep.filled,int n,int w.rep.cleared,int w.rep.steps]),(16010,.arr 86 4 (a.map Z0.dv)),(24017,.arr 35 1 ((Cf ws (i*w.heap.C.pw.toNat) (Lc w.heap.C.pw.toNat 0)).map wdv)),(8002,.box 138 zW)],64⟩):=by have:=Bs (S:=λk=>(TB w a ws n i k).st) w.heap.C.pw.toNat kr (λk d=>ZbO w a ws n i k b hi hl c d) (ZfV w a ws n i b hi hl c);simp only[TB,AG]at this;exact this
end
def Zbu(w:Z6)(a:List Z0)(ws:List Int)(n:Int)(i:Nat)(hl:a.length<=64)(hi:i<a.length)(b:Cv w.heap.S (a.getD i X))(hp:0<=w.heap.C.pw/\w.heap.C.pw<=64)(hs:i*w.heap.C.pw.toNat+w.heap.C.pw.toNat<=ws.length)(hw:ws.length<=4096)(hn:0<=n/\n<=64):CP (Zm f86 0) (Dk w a ws n i).st .nrm (Dk w (a.set i ⟨0,0,0,0⟩) (Cf ws (i*w.heap.C.pw.toNat) (Lc w.heap.C.pw.toNat 0)) (n+1) (i+1)).st:=by unfold Cv at b;have c:(a.getD (i:Int).toNat X).K≠0/\(a.getD (i:Int).toNat X).S=w.heap.S:=b;exact sF [] [] (Fh 10050 [.els (Z Z0.dv (a.set (i:Int).toNat (Z0.mk 0 0 0 0)))] (FM 24 25 Z0.dv a i (Fmq 33 Z0.dv a (↑i) (Ffb 44 ((a.getD (i:Int).toNat X).K==0||(a.getD (i:Int).toNat X).S != w.heap.S) (Fa (by(simp only[Lm];omega):0<=(i:Int)/\(i:Int).toNat<(Z Z0.dv a).length) (Fa (by(simp only[Lm];omega):(i:Int).toNat<(Z Z0.dv a).length) (Fa (by rw[LB];rfl:(Z Z0.dv a).set (i:Int).toNat [Zn 0,Zn 0,Zn 0,Zn 0]=Z Z0.dv (a.set (i:Int).toNat (Z0.mk 0 0 0 0))) (Fi 54 (n+1) (Fu (@Zb7 w (a.set (i:Int).toNat (Z0.mk 0 0 0 0)) ws (n+1) i aa oq aa aa) (Fx 27 i Fz))))))))))
def Tk{pw s:Int}{l:List Z0}{ws:List Int}(h:l.length*pw.toNat<=ws.length):∀i,i<=l.length->(Ei pw s l ws i).length=ws.length
 |0,_=>rfl
 |i+1,hi=>by
  have a:=Tk (s:=s) h i oq;have b:(i+1)*pw.toNat<=l.length*pw.toNat:=L7 _ hi;rw[L4,L8]at b;unfold Ei;split
  .rw[Nb qo,a]
  .exact a
def OC(n s:Int) l:∀i:Nat,n<=EV n s l i/\EV n s l i<=n+i
 |0=>by simp[EV]
 |i+1=>by
  have ih:=OC n s l i;unfold EV;split<;>omega
def H5(w:Z6):Z6:=⟨⟨w.heap.C,Ei w.heap.C.pw w.heap.S w.heap.P w.heap.W w.heap.P.length,w.heap.P.map (BN w.heap.S),w.heap.S,w.heap.B⟩,w.old,w.T,w.Q,w.D,⟨w.rep.copied,w.rep.kept,w.rep.filled,EV w.rep.freed w.heap.S w.heap.P w.heap.P.length,w.rep.cleared,w.rep.steps⟩⟩
def Zhx w a ws n:CP (Zm f86 0) (Dk w a ws n a.length).st (.ext 0) (Tg.st ⟨tm 78 [(1,.pt 8001 0 0),(2,.pt 8002 0 0)],[(8001,.box 138 [int w.heap.C.pw,int w.heap.C.pg,.ow 24017,.ow 16010,int w.heap.S,int w.heap.B,Z3 w.old,ZE w.T,Z3 w.Q,int w.D,int w.rep.copied,int w.rep.kept,int w.rep.filled,int n,int w.rep.cleared,int w.rep.steps]),(24017,.arr 35 1 (ws.map wdv)),(16010,.arr 86 4 (a.map Z0.dv)),(8002,.box 138 zW)],60⟩):=by exact sF [] [] (FO 24 25 Z0.dv a Fz)
section
variable (w:Z6) (hl:w.heap.P.length<=64) (a:0<=w.heap.C.pw/\w.heap.C.pw<=64) (hs:w.heap.P.length*w.heap.C.pw.toNat<=w.heap.W.length) (hw:w.heap.W.length<=4096) (hr:w.rep.freed=0)
include hl a hs hw hr
theorem Zca:CP (Zi f86 0) (Tg.st ⟨tm 78 [(1,.pt 8001 0 0),(2,.pt 8002 0 0),(3,int 0)],[(8001,.box 138 [int w.heap.C.pw,int w.heap.C.pg,.ow 24017,.ow 16010,int w.heap.S,int w.heap.B,Z3 w.old,ZE w.T,Z3 w.Q,int w.D,int w.rep.copied,int w.rep.kept,int w.rep.filled,int w.rep.freed,int w.rep.cleared,int w.rep.steps]),(24017,.arr 35 1 (w.heap.W.map wdv)),(16010,.arr 86 4 (w.heap.P.map Z0.dv)),(8002,.box 138 zW)],60⟩) .nrm (Tg.st ⟨tm 78 [(1,.pt 8001 0 0),(2,.pt 8002 0 0)],[(8001,.box 138 [int w.heap.C.pw,int w.heap.C.pg,.ow 24017,.ow 16010,int w.heap.S,int w.heap.B,Z3 w.old,ZE w.T,Z3 w.Q,int w.D,int w.rep.copied,int w.rep.kept,int w.rep.filled,int (EV w.rep.freed w.heap.S w.heap.P w.heap.P.length),int w.rep.cleared,int w.rep.steps]),(24017,.arr 35 1 ((Ei w.heap.C.pw w.heap.S w.heap.P w.heap.W w.heap.P.length).map wdv)),(16010,.arr 86 4 ((w.heap.P.map (BN w.heap.S)).map Z0.dv)),(8002,.box 138 zW)],60⟩):=by
 refine Bs (S:=λk=>(Dk w (Zu (BN w.heap.S) w.heap.P k) (Ei w.heap.C.pw w.heap.S w.heap.P w.heap.W k) (EV w.rep.freed w.heap.S w.heap.P k) k).st) w.heap.P.length kr (λk f=>?_) ?_;have h1:=Sd (BN w.heap.S) w.heap.P k;have g:=Od (BN w.heap.S) w.heap.P (Le k) X;have h3:=Tk (s:=w.heap.S) hs k oq;have h4:=OC w.rep.freed w.heap.S w.heap.P k;by_cases b:Cv w.heap.S (w.heap.P.getD k X);have c:=P7 (BN w.heap.S) w.heap.P f X;have d:Ei w.heap.C.pw w.heap.S w.heap.P w.heap.W (k+1)=Cf (Ei w.heap.C.pw w.heap.S w.heap.P w.heap.W k) (k*w.heap.C.pw.toNat) (Lc w.heap.C.pw.toNat 0):=by rw[Ei,if_pos b]
 have e:EV w.rep.freed w.heap.S w.heap.P (k+1)=EV w.rep.freed w.heap.S w.heap.P k+1:=by rw[EV,if_pos b]
 rw[BN,if_pos b]at c;rw[<-c,d,e];have i:(k+1)*w.heap.C.pw.toNat<=w.heap.P.length*w.heap.C.pw.toNat:=L7 _ f;rw[L4,L8]at i;exact Zbu w _ _ _ k oq oq (by rw[g];exact b) a oq oq oq;have c:=Z3z (BN w.heap.S) w.heap.P f X (by rw[BN,if_neg b]);have d:Ei w.heap.C.pw w.heap.S w.heap.P w.heap.W (k+1)=Ei w.heap.C.pw w.heap.S w.heap.P w.heap.W k:=by rw[Ei,if_neg b]
 have e:EV w.rep.freed w.heap.S w.heap.P (k+1)=EV w.rep.freed w.heap.S w.heap.P k:=by rw[EV,if_neg b]
 rw[<-c,d,e];exact Zd7 w _ _ _ k oq oq (by rw[g];exact b);have h:=Zhx w (Zu (BN w.heap.S) w.heap.P w.heap.P.length) (Ei w.heap.C.pw w.heap.S w.heap.P w.heap.W w.heap.P.length) (EV w.rep.freed w.heap.S w.heap.P w.heap.P.length);rw[Sd,Z0t]at h;simp only[Z0t];exact h
theorem Z4M:GP 86 [w.av] M (H5 w).av []:=by have h1:=Tk (s:=w.heap.S) hs w.heap.P.length (Le _);have h2:=OC w.rep.freed w.heap.S w.heap.P w.heap.P.length;exact gF [] func86 [] (FAx 6 10 Z0.dv w.heap.P (by(simp[H5, *];omega)) (FAx 13 17 wdv w.heap.W (by(simp[H5, *];omega)) (Fu (@Zca w aa aa aa aa aa) Fz)))
end
def R7:Rep:=⟨0,0,0,0,0,0⟩
def Z2Q{h}{l:List Int}(e:Bw h l=Y):Bm h=⟨0,0,0⟩:=by simp only[Bw,Lu,decide_eq_true_eq]at e;exact e.1
section
variable (h:Heap) (s k:List Int) (c:Zy h.W) (hs:s.length<=1048575) (hk:k.length<=1048575) (b:E7 s) (a:E7 k)
include c hs hk b a
theorem ZhG(hp:Z8 h=M):GP 36 [h.av,Z3 s,Z3 k] M (.tu [B7.av,Z3 [],Z3 [],.ag R7.cells,int 1]) []:=by exact gF [] func36 [] (Fc 20 (@CJ h) (Ftb 21 (!Z8 h) (Fnl (Fnl (Fnl (Fnl Fz))))))
theorem Zco(hp:Z8 h=Y)(d:Bw h s=M\/Bw h k=M):GP 36 [h.av,Z3 s,Z3 k] M (.tu [B7.av,Z3 [],Z3 [],.ag R7.cells,int 19]) []:=by
 by_cases f:Bw h s=M;exact gF [] func36 [] (Fc 20 (@CJ h) (Ffb 21 (!Z8 h) (Fc 26 (@N3 h s aa oq) (FcG 31 (!!Bw h s) (λe=>by(try simp only[bs]at e);exact@Z5S h k aa (by(try simp only[bs]at e);grind[B7,R7])) (Fts 33 (!Bw h s||Y) (Fnl (Fnl (Fnl (Fnl Fz)))))))));have h2:Bw h k=M:=by(rcases d with d|d;exact absurd d f;exact d)
 exact gF [] func36 [] (Fc 20 (@CJ h) (Ffb 21 (!Z8 h) (Fc 26 (@N3 h s aa oq) (FcG 31 (!!Bw h s) (λe=>by(try simp only[bs]at e);exact@N3 h k aa oq) (Ftb 33 (!Bw h s||!Bw h k) (Fnl (Fnl (Fnl (Fnl Fz)))))))))
theorem ZgX(f:Z8 h=Y)(g:Bw h s=Y)(i:Bw h k=Y)(e:¬ (rootsF (Zo h) s).2.2=0):GP 36 [h.av,Z3 s,Z3 k] M (.tu [B7.av,Z3 [],Z3 [],.ag R7.cells,int (rootsF (Zo h) s).2.2]) []:=by have hb:=R1 c f;have d:=Z2Q g;exact gF [] func36 [] (Fc 20 (@CJ h) (Ffb 21 (!Z8 h) (Fc 26 (@N3 h s aa oq) (FcG 31 (!!Bw h s) (λd=>by(try simp only[bs]at d);exact@N3 h k aa oq) (Ffs 33 (!Bw h s||!Bw h k) (Fc 38 (@Oo h aa aa aa) (Fc 44 (@Z03 (Zo h) s aa aa aa) (Ftb 49 ((rootsF (Zo h) s).2.2 != 0) (Fnl (Fnl (Fnl (Fnl Fz))))))))))))
theorem Zgd(f:Z8 h=Y)(l:Bw h s=Y)(m:Bw h k=Y)(e:(rootsF (Zo h) s).2.2=0)(e2:¬ (Bu (rootsF (Zo h) s).1).2=0):GP 36 [h.av,Z3 s,Z3 k] M (.tu [B7.av,Z3 [],Z3 [],.ag R7.cells,int (Bu (rootsF (Zo h) s).1).2]) []:=by have g:=R1 c f;have hi:=RB f;have d:=Z2Q l;have i:=RS (roots:=s) g hi e;have j:=i.1;exact gF [] func36 [] (Fc 20 (@CJ h) (Ffb 21 (!Z8 h) (Fc 26 (@N3 h s aa oq) (FcG 31 (!!Bw h s) (λd=>by(try simp only[bs]at d);exact@N3 h k aa oq) (Ffs 33 (!Bw h s||!Bw h k) (Fc 38 (@Oo h aa aa aa) (Fc 44 (@Z03 (Zo h) s aa aa aa) (Ffb 49 ((rootsF (Zo h) s).2.2 != 0) (Fc 55 (@Z0O ((rootsF (Zo h) s).1) aa) (Ftb 59 ((Bu (rootsF (Zo h) s).1).2 != 0) (Fnl (Fnl (Fnl (Fnl Fz))))))))))))))
end
def GD(w:Z6)(x:Int):Int:=if x=0 then 0 else BR w x
def Hi(w:Z6)(x:Int):Z6:=⟨w.heap,w.old,w.T,w.Q,w.D,⟨w.rep.copied,w.rep.kept,w.rep.filled,w.rep.freed,if x≠0/\BR w x=0 then w.rep.cleared+1 else w.rep.cleared,w.rep.steps⟩⟩
def Ed(w:Z6)(k:List Int):Nat->Z6|0=>w|i+1=>Hi (Ed w k i) (k.getD i X)
def Ec(w:Z6)(k:List Int):Nat->List Int|0=>[]|i+1=>Ec w k i++[GD (Ed w k i) (k.getD i X)]
def NY w k:∀i,(Ed w k i).heap=w.heap/\(Ed w k i).old=w.old/\(Ed w k i).T=w.T/\(Ed w k i).Q=w.Q/\(Ed w k i).rep.filled=w.rep.filled/\(Ed w k i).rep.freed=w.rep.freed/\w.rep.cleared<=(Ed w k i).rep.cleared/\(Ed w k i).rep.cleared<=w.rep.cleared+i
 |0=>⟨rfl,rfl,rfl,rfl,rfl,rfl,by simp[Ed],by simp[Ed]⟩
 |i+1=>by
  obtain⟨a,b,c,h4,d,e,h7,h8⟩:=NY w k i;refine⟨a,b,c,h4,d,e, ?_, ?_⟩
  .simp only[Ed,Hi];split<;>omega
  .simp only[Ed,Hi];split<;>omega
def Dn w k:∀i,(Ec w k i).length=i|0=>rfl|i+1=>by simp[Ec,Dn w k i]
def OG(w:Z6)(k roots out:List Int)(i:Nat):Tg:=⟨tm 122 [(2,Z3 k),(6,.pt 8006 0 0),(7,.d (.sl 0 [])),(8,.d (.sl 0 [])),(9,.pt 8009 0 0),(10,int 0),(11,.pt 32011 0 0),(13,Z3 roots),(15,.ow 72015),(16,int i)],[(72015,.arr 35 1 (out.map wdv)),(32011,.box 138 w.cells),(8009,.box 73 [int 0,int 0,int 0,int 0,int 0,int 0]),(8006,.box 28 [int 0,int 0,.d (.sl 0 []),.d (.sl 0 []),int 0,int 0])],60⟩
section
variable (w:Z6) (k roots out:List Int) (i:Nat) (hw:Zy w.heap.W) (hl:w.heap.W.length<=4096) (hq:w.Q.length<=1048576) (hk:k.length<=1048575) (hx:0<=k.getD i X/\k.getD i X<=18446744073709551615) (ho:out.length<=1048576) (hi:i<k.length) (hc:0<=w.rep.cleared/\w.rep.cleared<=2097152)
include hw hl hq hk hx ho hi hc
theorem ZeD:CP (Zm f36 0) (OG w k roots out i).st .nrm (OG (Hi w (k.getD i X)) k roots (out++[GD w (k.getD i X)]) (i+1)).st:=by
 by_cases d:k.getD i X=0;have e:GD w (k.getD i X)=0:=by rw[GD,if_pos d]
 have c:Hi w (k.getD i X)=w:=by rw[Hi,if_neg (by rintro⟨q,_⟩;exact q d)]
 rw[e,c];exact sF [(504091,72015)] [] (Fh 91 [.els (Z wdv (out++[0]))] (FN 65 66 71 wdv k i (Ffb 73 (k.getD i X != 0) (Fs 90 (Z wdv [0]) (Fa (by(simp[*];omega):(Z wdv out).length+(Z wdv [0]).length<=2^30) (Fa (ms:Z wdv out++Z wdv [0]=Z wdv (out++[0])) (Fx 68 i Fz)))))));have e:GD w (k.getD i X)=BR w (k.getD i X):=by rw[GD,if_neg d]
 rw[e];by_cases f:BR w (k.getD i X)=0;have c:Hi w (k.getD i X)=⟨w.heap,w.old,w.T,w.Q,w.D,⟨w.rep.copied,w.rep.kept,w.rep.filled,w.rep.freed,w.rep.cleared+1,w.rep.steps⟩⟩:=by rw[Hi,if_pos ⟨d,f⟩]
 rw[c];let a:=k.getD i X;exact sF [(528091,72015)] [] (Fh 91 [.els (Z wdv (out++[BR w a]))] (FN 65 66 71 wdv k i (Ftb 73 (k.getD i X != 0) (Fek 77 wdv k (↑i) i (Fc 79 (@Z77 w a aa aa aa aa) (Ftb 81 (BR w a==0) (Fi 85 (w.rep.cleared+1) (Fs 90 (Z wdv [BR w a]) (Fa (by(simp[*];omega):(Z wdv out).length+(Z wdv [BR w a]).length<=2^30) (Fa (ms:Z wdv out++Z wdv [BR w a]=Z wdv (out++[BR w a])) (Fx 68 i Fz)))))))))));have c:Hi w (k.getD i X)=w:=by rw[Hi,if_neg (by rintro⟨_,q⟩;exact f q)]
 rw[c];let b:=k.getD i X;exact sF [(520091,72015)] [] (Fh 91 [.els (Z wdv (out++[BR w b]))] (FN 65 66 71 wdv k i (Ftb 73 (k.getD i X != 0) (Fek 77 wdv k (↑i) i (Fc 79 (@Z77 w b aa aa aa aa) (Ffb 81 (BR w b==0) (Fs 90 (Z wdv [BR w b]) (Fa (by(simp[*];omega):(Z wdv out).length+(Z wdv [BR w b]).length<=2^30) (Fa (ms:Z wdv out++Z wdv [BR w b]=Z wdv (out++[BR w b])) (Fx 68 i Fz))))))))))
end
def ZeO w k roots out:CP (Zm f36 0) (OG w k roots out k.length).st (.ext 0) (Tg.st ⟨tm 122 [(6,.pt 8006 0 0),(7,.d (.sl 0 [])),(8,.d (.sl 0 [])),(9,.pt 8009 0 0),(10,int 0),(11,.pt 32011 0 0),(13,Z3 roots),(15,.ow 72015)],[(72015,.arr 35 1 (out.map wdv)),(32011,.box 138 w.cells),(8009,.box 73 [int 0,int 0,int 0,int 0,int 0,int 0]),(8006,.box 28 [int 0,int 0,.d (.sl 0 []),.d (.sl 0 []),int 0,int 0])],60⟩):=by exact sF [] [] (FO 65 66 wdv k Fz)
def Z7t(w:Z6)(k roots:List Int)(c:Zy w.heap.W)(hl:w.heap.W.length<=4096)(b:w.Q.length<=1048576)(a:k.length<=1048575)(d:E7 k)(hc:w.rep.cleared=0):CP (Zi f36 0) (OG (Ed w k 0) k roots (Ec w k 0) 0).st .nrm (Tg.st ⟨tm 122 [(6,.pt 8006 0 0),(7,.d (.sl 0 [])),(8,.d (.sl 0 [])),(9,.pt 8009 0 0),(10,int 0),(11,.pt 32011 0 0),(13,Z3 roots),(15,.ow 72015)],[(72015,.arr 35 1 ((Ec w k k.length).map wdv)),(32011,.box 138 (Ed w k k.length).cells),(8009,.box 73 [int 0,int 0,int 0,int 0,int 0,int 0]),(8006,.box 28 [int 0,int 0,.d (.sl 0 []),.d (.sl 0 []),int 0,int 0])],60⟩):=by refine Bs (S:=λi=>(OG (Ed w k i) k roots (Ec w k i) i).st) k.length kr (λi hi=>?_) (ZeO _ k roots _);have h:=NY w k i;exact ZeD _ k roots _ i (by rw[h.1];exact c) (by rw[h.1];exact hl) (by rw[h.2.2.2.1];exact b) a (Dr d i) (by rw[Dn];omega) hi oq
abbrev cB(h:Heap)(s k:List Int):Z6:=Ed (Bu (rootsF (Zo h) s).1).1 k k.length
abbrev cA(h:Heap)(s k:List Int):Z6:=Cj (cB h s k) (cB h s k).old.length
def Zj9{n:Int}(h:0<=n/\n<=255):(Z7 (1+16*n)).1.length=n:=by
 have e:ES (1+16*n)=⟨0,n,0⟩:=by(simp only[ES,Zw.mk.injEq];omega)
 have a:=AZ h;unfold Z7;rw[e,a];simp
def Zct{w:Z6}(h:Bv w){x:Int}(hx:x∈w.old):Bv (GJ w x):=by
 unfold GJ;split
 .rename_i hc;have hr:=h.r x (Lh _ hx);have hh:=Bo w.heap.W x;have hl:(BF ⟨0,(Zv w x).length,0⟩).length=(Zk w.heap.W x+1).toNat:=by
   show(BF ⟨0,Zk w.heap.W x,0⟩).length=_;simp[BF];omega
  have hin:4096<=x/\x-4096+(BF ⟨0,(Zv w x).length,0⟩).length<=w.heap.W.length:=by omega
  have hlen:(ZT w.heap.W x (BF ⟨0,(Zv w x).length,0⟩)).1.length=w.heap.W.length:=by
   unfold ZT;rw[if_pos hin];exact Nb oq
  have:=h.withWords hlen (λa ha=>?_)
  .exact⟨this.L,this.r,this.s,this.f,this.z⟩
  .by_cases he:a=x
   .subst he;have:Zk (ZT w.heap.W a (BF ⟨0,(Zv w a).length,0⟩)).1 a=Zk w.heap.W a:=by
     have e1:=SA (b:=a) hin oq;unfold Zk at *;rw[e1];have e2:(BF ⟨0,(Zv w a).length,0⟩).getD (a-a).toNat 0=1+16*(Z7 (Z1 w.heap.W a).1).1.length:=by
      rw[Int.sub_self];show(Zt ⟨0,(Zv w a).length,0⟩).1=_;rw[AZ (show 0<=(Zv w a).length/\(Zv w a).length<=255 from hh)];rfl
     rw[e2];exact Zj9 hh
    omega
   .have s1:=h.s a ha x (Lh _ hx);have s2:=h.s x (Lh _ hx) a ha;have ha0:=Bo w.heap.W a;have:Zk (ZT w.heap.W x (BF ⟨0,(Zv w x).length,0⟩)).1 a=Zk w.heap.W a:=by
     have e1:=Ar (b:=a) hin (by
      rcases Int.lt_or_lt_of_ne he with q|q
      .exact La q
      .have:=s2 q;exact Lb oq)
     unfold Zk;rw[e1]
    omega
 .exact h
def Z7U{w}(a:FOk w)(h:Bv w):∀k,k<=w.old.length->Bv (Cj w k)|0,_=>h|k+1,hk=>Zct (Z7U a h k oq) (by rw[(HF w a k).2.2.2.2.2.1];exact Be.2 ⟨k,by omega,rfl⟩)
def Z8l{w}(h:Bv w) k:∀i,Bv (Ed w k i)
 |0=>h
 |i+1=>by
  have a:=Z8l h k i;exact⟨a.L,a.r,a.s,a.f,a.z⟩
def Z1i{w}(h:FOk w) k:∀i,FOk (Ed w k i)
 |0=>h
 |i+1=>by
  have a:=Z1i h k i;exact⟨a.W,a.wl,a.pl,a.ol,a.o,a.tl,a.ql⟩
def ZF(h:Heap)(s:List Int):Z6:=(Bu (rootsF (Zo h) s).1).1
def Cr(h:Heap)(s k:List Int):Z6:=Ed (ZF h s) k k.length
def Cw(h:Heap)(s k:List Int):Z6:=Cj (Cr h s k) (Cr h s k).old.length
def Bz(h:Heap)(s k:List Int):Z6:=H5 (Cw h s k)
def Eo(w:Z6):Heap:=⟨w.heap.C,w.heap.W,w.heap.P,1-w.heap.S,if 0<w.T.length then ZG w else -1⟩
structure COk (h:Heap) (s k:List Int):Prop where
 w2:B8 (ZF h s)
 i2:Bv (ZF h s)
 x2:Gw (Zo h) (ZF h s)
 f3:FOk (Cr h s k)
 i3:Bv (Cr h s k)
 r3:(Cr h s k).rep.filled=0/\(Cr h s k).rep.freed=0
 f4:FOk (Cw h s k)
 i4:Bv (Cw h s k)
 h4:(Cw h s k).heap.C=h.C/\(Cw h s k).heap.P=(ZF h s).heap.P/\(Cw h s k).heap.S=(ZF h s).heap.S/\(Cw h s k).T=(ZF h s).T/\(Cw h s k).rep.freed=0
section
variable (h:Heap) (s k:List Int) (d:Zy h.W) (a:Z8 h=Y) (e:(rootsF (Zo h) s).2.2=0) (b:(Bu (rootsF (Zo h) s).1).2=0)
include d a e b
theorem cOk:COk h s k:=by have u:=R1 d a;have hi:=RB a;have f:=RS (roots:=s) u hi e;have w2:B8 (ZF h s):=Zkj _ f.1 b;have i2:=Z6O f.1 f.2.1 b;have x2:Gw (Zo h) (ZF h s):=f.2.2.1.trans i2.2;have f3:FOk (Cr h s k):=Z1i w2.fok k _;have i3:Bv (Cr h s k):=Z8l i2.1 k _;obtain⟨a1,a2,g,a4,i,j,a7,a8⟩:=NY (ZF h s) k k.length;have c:=w2.r0;have r3:(Cr h s k).rep.filled=0/\(Cr h s k).rep.freed=0:=⟨i.trans c.1,j.trans c.2.1⟩;obtain⟨l,m,p,q,b4,b5,r,b7,t,b9,n,o⟩:=HF (Cr h s k) f3 (Cr h s k).old.length;refine⟨w2,i2.1,x2,f3,i3,r3,l,Z7U f3 i3 _ (Le _), ?_, ?_, ?_, ?_, ?_⟩;show(Cj (Cr h s k) (Cr h s k).old.length).heap.C=_;rw[m];show(Ed (ZF h s) k k.length).heap.C=_;rw[a1];exact x2.c;show(Cj (Cr h s k) (Cr h s k).old.length).heap.P=_;rw[p];show(Ed (ZF h s) k k.length).heap.P=_;rw[a1];show(Cj (Cr h s k) (Cr h s k).old.length).heap.S=_;rw[q];show(Ed (ZF h s) k k.length).heap.S=_;rw[a1];show(Cj (Cr h s k) (Cr h s k).old.length).T=_;rw[r];exact g;show(Cj (Cr h s k) (Cr h s k).old.length).rep.freed=_;rw[t];exact r3.2
theorem Z17:(Cw h s k).heap.P.length<=64/\0<=(Cw h s k).heap.C.pw/\(Cw h s k).heap.C.pw<=64/\(Cw h s k).heap.P.length*(Cw h s k).heap.C.pw.toNat<=(Cw h s k).heap.W.length/\(Cw h s k).heap.W.length<=4096:=by
 have c:=cOk h s k d a e b;have po:=B4 a;have hL:=c.i4.L;have f:=c.w2.pl;have g:=c.x2.c;have j:(ZF h s).heap.C=h.C:=g;rw[j]at f;rw[c.h4.1]at hL;have i:=c.f4.wl;rw[c.h4.1,c.h4.2.1];refine⟨by omega,by omega,by omega, ?_,i⟩;have:(((ZF h s).heap.P.length*h.C.pw.toNat:Nat):Int)=h.C.pw*h.C.pg:=by(rw[LO,Lz oq,f,LK])
 omega
end
def collectF(h:Heap)(s k:List Int):Heap×List Int×List Int×Rep×Int:=
 if Z8 h=Y then
  (if Bw h s=Y/\Bw h k=Y then
   (if(rootsF (Zo h) s).2.2=0 then
    (if(Bu (rootsF (Zo h) s).1).2=0 then(Eo (Bz h s k),(rootsF (Zo h) s).2.1,Ec (ZF h s) k k.length,(Bz h s k).rep,0)
    else(B7,[],[],R7,(Bu (rootsF (Zo h) s).1).2))
   else(B7,[],[],R7,(rootsF (Zo h) s).2.2))
  else(B7,[],[],R7,19))
 else(B7,[],[],R7,1)
section
variable (h:Heap) (s k:List Int) (hw:Zy h.W) (hs:s.length<=1048575) (hk:k.length<=1048575) (hs2:E7 s) (hk2:E7 k)
include hw hs hk hs2 hk2
theorem Zk7(hp:Z8 h=Y)(hr:Bw h s=Y)(hr':Bw h k=Y)(e:(rootsF (Zo h) s).2.2=0)(e2:(Bu (rootsF (Zo h) s).1).2=0):GP 36 [h.av,Z3 s,Z3 k] M (.tu [(Eo (Bz h s k)).av,Z3 (rootsF (Zo h) s).2.1,Z3 (Ec (ZF h s) k k.length),.ag (Bz h s k).rep.cells,int 0]) []:=by have hb:=R1 hw hp;have hi:=RB hp;have hg:=Z2Q hr;have ho:=RS (roots:=s) hb hi e;have ho1:=ho.1;have ho4:=ho.2.2.2.2;have c:=cOk h s k hw hp e e2;obtain⟨q1,q2,q3,q4,q5⟩:=Z17 h s k hw hp e e2;have w2:=c.w2;have f3:=c.f3;have r3:=c.r3.1;obtain⟨g1,g2,g3,g4,g5⟩:=c.h4;have v1:=w2.W;have v2:=w2.wl;have v3:=w2.mu;have v4:=w2.tl;have v5:=w2.sp;have v6:=w2.r0.2.2;have v7:=congrArg LU g4;have z1:(Bz h s k).T=(Cw h s k).T:=rfl;have v8:=congrArg LU z1;have z2:(Bz h s k).heap.S=(Cw h s k).heap.S:=rfl;clear c;rcases bb (O (0<(↑(Bz h s k).T.length:Int)))with hc0|hc0<;>have hc0p:=hc0<;>simp only[bs]at hc0p;rw[show Eo (Bz h s k)=Heap.mk (Bz h s k).heap.C (Bz h s k).heap.W (Bz h s k).heap.P ((1:Int)-(Bz h s k).heap.S) ((Bz h s k).T.getD ((↑(Bz h s k).T.length:Int)-(1:Int)).toNat X)from by(simp only[Eo,ZG] ;exact sj)];refine Zc [((20:Nat),[Hint.call Y (Sx.bool (Z8 h)) []]),((21:Nat),[Hint.br M]),((26:Nat),[Hint.call Y (Sx.bool (Bw h s)) []]),((31:Nat),[Hint.call Y (Sx.bool (Bw h k)) []]),((33:Nat),[Hint.br M]),((38:Nat),[Hint.call M (AV.tu [(Zo h).av,int (0:Int)]) []]),((44:Nat),[Hint.call M (AV.tu [(rootsF (Zo h) s).1.av,Z3 (rootsF (Zo h) s).2.1,int (rootsF (Zo h) s).2.2]) []]),((49:Nat),[Hint.br M]),((55:Nat),[Hint.call M (AV.tu [(ZF h s).av,int (Bu (rootsF (Zo h) s).1).2]) []]),((59:Nat),[Hint.br M]),((15:Nat),[Hint.own]),((93:Nat),[Hint.call M (Cw h s k).av []]),((94:Nat),[Hint.call M (Bz h s k).av []]),((98:Nat),[Hint.int ((1:Int)-(Bz h s k).heap.S)]),((105:Nat),[Hint.int (↑(Bz h s k).T.length:Int)]),((107:Nat),[Hint.br Y]),((111:Nat),[Hint.int ((↑(Bz h s k).T.length:Int)-(1:Int))]),((112:Nat),[Hint.el (idv ((Bz h s k).T.getD ((↑(Bz h s k).T.length:Int)-(1:Int)).toNat X))])] [((0:Nat),Tg.mk (tm (122:Nat) [((2:Nat),Z3 k),((6:Nat),AV.pt (8006:Nat) (0:Nat) (0:Nat)),((7:Nat),AV.d (DV.sl (0:Nat) [])),((8:Nat),AV.d (DV.sl (0:Nat) [])),((9:Nat),AV.pt (8009:Nat) (0:Nat) (0:Nat)),((10:Nat),int (0:Int)),((11:Nat),AV.pt (32011:Nat) (0:Nat) (0:Nat)),((13:Nat),Z3 (rootsF (Zo h) s).2.1),((15:Nat),AV.ow (72015:Nat)),((16:Nat),int (0:Int))]) [((72015:Nat),Z4.arr 35 (1:Nat) []),((32011:Nat),Z4.box 138 (ZF h s).cells),((8009:Nat),Z4.box 73 [int (0:Int),int (0:Int),int (0:Int),int (0:Int),int (0:Int),int (0:Int)]),((8006:Nat),Z4.box 28 [int (0:Int),int (0:Int),AV.d (DV.sl (0:Nat) []),AV.d (DV.sl (0:Nat) []),int (0:Int),int (0:Int)])] (60:Nat),Ex.nrm,Tg.mk (tm (122:Nat) [((6:Nat),AV.pt (8006:Nat) (0:Nat) (0:Nat)),((7:Nat),AV.d (DV.sl (0:Nat) [])),((8:Nat),AV.d (DV.sl (0:Nat) [])),((9:Nat),AV.pt (8009:Nat) (0:Nat) (0:Nat)),((10:Nat),int (0:Int)),((11:Nat),AV.pt (32011:Nat) (0:Nat) (0:Nat)),((13:Nat),Z3 (rootsF (Zo h) s).2.1),((15:Nat),AV.ow (72015:Nat))]) [((72015:Nat),Z4.arr 35 (1:Nat) (Z wdv (Ec (ZF h s) k k.length))),((32011:Nat),Z4.box 138 (Cr h s k).cells),((8009:Nat),Z4.box 73 [int (0:Int),int (0:Int),int (0:Int),int (0:Int),int (0:Int),int (0:Int)]),((8006:Nat),Z4.box 28 [int (0:Int),int (0:Int),AV.d (DV.sl (0:Nat) []),AV.d (DV.sl (0:Nat) []),int (0:Int),int (0:Int)])] (60:Nat))] [] dd func36 [] (φ:=GP 65 [h.av] Y (Sx.bool (Z8 h)) []/\(!Z8 h)=M/\M=M/\GP 42 [h.av,Z3 s] Y (Sx.bool (Bw h s)) []/\((!!Bw h s)=Y->GP 42 [h.av,Z3 k] Y (Sx.bool (Bw h k)) [])/\(!Bw h s||!Bw h k)=M/\M=M/\GP 82 [h.av] M (AV.tu [(Zo h).av,int (0:Int)]) []/\GP 83 [(Zo h).av,Z3 s] M (AV.tu [(rootsF (Zo h) s).1.av,Z3 (rootsF (Zo h) s).2.1,int (rootsF (Zo h) s).2.2]) []/\((rootsF (Zo h) s).2.2 != (0:Int))=M/\M=M/\GP 84 [(rootsF (Zo h) s).1.av] M (AV.tu [(ZF h s).av,int (Bu (rootsF (Zo h) s).1).2]) []/\((Bu (rootsF (Zo h) s).1).2 != (0:Int))=M/\M=M/\CP (Zi f36 (0:Nat)) (Tg.mk (tm (122:Nat) [((2:Nat),Z3 k),((6:Nat),AV.pt (8006:Nat) (0:Nat) (0:Nat)),((7:Nat),AV.d (DV.sl (0:Nat) [])),((8:Nat),AV.d (DV.sl (0:Nat) [])),((9:Nat),AV.pt (8009:Nat) (0:Nat) (0:Nat)),((10:Nat),int (0:Int)),((11:Nat),AV.pt (32011:Nat) (0:Nat) (0:Nat)),((13:Nat),Z3 (rootsF (Zo h) s).2.1),((15:Nat),AV.ow (72015:Nat)),((16:Nat),int (0:Int))]) [((72015:Nat),Z4.arr 35 (1:Nat) []),((32011:Nat),Z4.box 138 (ZF h s).cells),((8009:Nat),Z4.box 73 [int (0:Int),int (0:Int),int (0:Int),int (0:Int),int (0:Int),int (0:Int)]),((8006:Nat),Z4.box 28 [int (0:Int),int (0:Int),AV.d (DV.sl (0:Nat) []),AV.d (DV.sl (0:Nat) []),int (0:Int),int (0:Int)])] (60:Nat)).st Ex.nrm (Tg.mk (tm (122:Nat) [((6:Nat),AV.pt (8006:Nat) (0:Nat) (0:Nat)),((7:Nat),AV.d (DV.sl (0:Nat) [])),((8:Nat),AV.d (DV.sl (0:Nat) [])),((9:Nat),AV.pt (8009:Nat) (0:Nat) (0:Nat)),((10:Nat),int (0:Int)),((11:Nat),AV.pt (32011:Nat) (0:Nat) (0:Nat)),((13:Nat),Z3 (rootsF (Zo h) s).2.1),((15:Nat),AV.ow (72015:Nat))]) [((72015:Nat),Z4.arr 35 (1:Nat) (Z wdv (Ec (ZF h s) k k.length))),((32011:Nat),Z4.box 138 (Cr h s k).cells),((8009:Nat),Z4.box 73 [int (0:Int),int (0:Int),int (0:Int),int (0:Int),int (0:Int),int (0:Int)]),((8006:Nat),Z4.box 28 [int (0:Int),int (0:Int),AV.d (DV.sl (0:Nat) []),AV.d (DV.sl (0:Nat) []),int (0:Int),int (0:Int)])] (60:Nat)).st/\GP 87 [(Cr h s k).av] M (Cw h s k).av []/\GP 86 [(Cw h s k).av] M (Bz h s k).av []/\Lq.wrap ((1:Int)-(Bz h s k).heap.S)=(1:Int)-(Bz h s k).heap.S/\(↑(Z idv (Bz h s k).T).length:Int)=(↑(Bz h s k).T.length:Int)/\O ((0:Int)<(↑(Bz h s k).T.length:Int))=Y/\Y=Y/\Lq.wrap ((↑(Bz h s k).T.length:Int)-(1:Int))=(↑(Bz h s k).T.length:Int)-(1:Int)/\(0:Int)<=(↑(Bz h s k).T.length:Int)-(1:Int)/\(Z idv (Bz h s k).T)[((↑(Bz h s k).T.length:Int)-(1:Int)).toNat]?=some (idv ((Bz h s k).T.getD ((↑(Bz h s k).T.length:Int)-(1:Int)).toNat X))) ?_ kr kr;exact⟨(@CJ (h)),(by(simp only[bs];omega)),rfl,(@N3 (h) (s) aa oq),(λhg=>by(try simp only[bs]at hg);exact@N3 (h) (k) (by(try simp only[bs]at hg);assumption) (by(try simp only[bs]at hg);omega)),(by simp only[bs, *,true_or,or_true,true_and,and_true,not_true_eq_false,not_false_eq_true,Bool.true_eq_false,Bool.false_eq_true]),rfl,(@Oo (h) aa aa aa),(@Z03 (Zo h) (s) aa aa aa),(by(simp only[bs];omega)),rfl,(@Z0O ((rootsF (Zo h) s).1) aa),(by(simp only[bs];omega)),rfl,(@Z7t (ZF h s) (k) ((rootsF (Zo h) s).2.1) aa aa oq aa aa aa),(@Z7M (Cr h s k) aa aa),(@Z4M (Cw h s k) aa oq aa aa aa),(by exact Ze rfl oq oq),(by simp only[Lm]),aa,rfl,(by exact Ze rfl oq oq),(by exact Zl oq oq oq)⟩;rw[show Eo (Bz h s k)=Heap.mk (Bz h s k).heap.C (Bz h s k).heap.W (Bz h s k).heap.P ((1:Int)-(Bz h s k).heap.S) (-1:Int)from by rw[Eo,if_neg oq]];let y0:=rootsF (Zo h) s;exact gF [] func36 [] (Fh 15 [.own] (Fc 20 (@CJ h) (Ffb 21 (!Z8 h) (Fc 26 (@N3 h s aa oq) (FcG 31 (!!Bw h s) (λhg=>by(try simp only[bs]at hg);exact@N3 h k aa oq) (Ffs 33 (!Bw h s||!Bw h k) (Fc 38 (@Oo h aa aa aa) (Fc 44 (@Z03 (Zo h) s aa aa aa) (Ffb 49 (y0.2.2 != 0) (Fc 55 (@Z0O (y0.1) aa) (Ffb 59 ((Bu y0.1).2 != 0) (Fu (@Z7t (ZF h s) k (y0.2.1) aa aa oq aa aa aa) (Fc 93 (@Z7M (Cr h s k) aa aa) (Fc 94 (@Z4M (Cw h s k) aa oq aa aa aa) (Fi 98 (1-(Bz h s k).heap.S) (Fl 105 idv (Bz h s k).T (Ff 107 hc0 Fz)))))))))))))))))
end
def pinB(w:Zj)(i:Nat)(n:Int):Zj:=⟨⟨w.heap.C,w.heap.W,w.heap.P.set i ⟨(w.heap.P.getD i X).K,(w.heap.P.getD i X).S,(w.heap.P.getD i X).U,(w.heap.P.getD i X).N+n⟩,w.heap.S,w.heap.B⟩,w.G,w.E⟩
def Ii(w:Zj)(t:Tape):Nat:=(Z2 w.heap.C (w.pick t)).1.toNat
def Zj.pin(w:Zj)(t:Tape):Zj:=
  if(Z2 w.heap.C (w.pick t)).2.2=0 then
    (if 0<(w.heap.P.getD (Ii w t) X).N/\(w.pickT t).next 2=0 then pinB w (Ii w t) (-1)
     else if 0<(w.heap.P.getD (Ii w t) X).N\/(w.heap.P.getD (Ii w t) X).K=2\/(crowd w.heap.P:Int)<w.heap.C.pg/4 then pinB w (Ii w t) 1 else w)else w
def Zj.pinT(w:Zj)(t:Tape):Tape:=if(Z2 w.heap.C (w.pick t)).2.2=0/\0<(w.heap.P.getD (Ii w t) X).N then(w.pickT t).step 2 else w.pickT t
def Zjg w t(hw:So w)(ht:Ez t)(ha:t.at'<=1000000)(hv:Zr w.heap.C=Y)(hp:(w.heap.P.length:Int)=w.heap.C.pg)(hpn:∀j,j<w.heap.P.length->-1048576<=(w.heap.P.getD j X).N/\(w.heap.P.getD j X).N<=4294967296):LP 104 [w.av,.pt 0 0 0] [t.b] (w.pin t).av [(w.pinT t).b]:=by
 have hb:=BG.1 hv;have s1:=Z1Y w t;have k1:=N5 ht s1.2.2 oq oq;have p1:=A9 hw t;have q1:=hpn (Ii w t);have hcr:=Rb w.heap.P w.heap.P.length;unfold Ii at q1;have o1:=λe=>GM (a:=w.pick t) hv e;by_cases e:(Z2 w.heap.C (w.pick t)).2.2=0;have o2:=o1 e;by_cases c1:0<(w.heap.P.getD (Z2 w.heap.C (w.pick t)).1.toNat X).N
 .have eT:w.pinT t=(w.pickT t).step 2:=by rw[Zj.pinT,if_pos ⟨e,c1⟩]
  by_cases c2:(w.pickT t).next 2=0
  have eP:w.pin t=⟨⟨w.heap.C,w.heap.W,w.heap.P.set (Z2 w.heap.C (w.pick t)).1.toNat ⟨(w.heap.P.getD (Z2 w.heap.C (w.pick t)).1.toNat X).K,(w.heap.P.getD (Z2 w.heap.C (w.pick t)).1.toNat X).S,(w.heap.P.getD (Z2 w.heap.C (w.pick t)).1.toNat X).U,(w.heap.P.getD (Z2 w.heap.C (w.pick t)).1.toNat X).N-1⟩,w.heap.S,w.heap.B⟩,w.G,w.E⟩:=by rw[Zj.pin,if_pos e,if_pos ⟨c1,c2⟩];rfl
  rw[eP,eT];exact lF func104 [] (Fh 42 [.br Y] (Fh 37 [.br Y] (Fh 51 [.el (w.heap.P.getD (Z2 w.heap.C (w.pick t)).1.toNat X).dv] (Fp 12 (@IU w t aa aa oq) (Fc 18 (@Hn w.heap.C (w.pick t) oq oq) (Ffb 23 ((Z2 w.heap.C (w.pick t)).2.2 != 0) (FA 25 29 Z0.dv w.heap.P (Fmq 41 Z0.dv w.heap.P ((Z2 w.heap.C (w.pick t)).1) (Fb (O (0<(w.heap.P.getD (Z2 w.heap.C (w.pick t)).1.toNat X).N)=Y) (Fp 45 (@CZ (w.pickT t) (2) aa oq oq) (Fb (((w.pickT t).next (2:Int)==0)=Y) (Fa (by exact B6 oq:(Z Z0.dv w.heap.P)[(Z2 w.heap.C (w.pick t)).1.toNat]?=some (w.heap.P.getD (Z2 w.heap.C (w.pick t)).1.toNat X).dv) (Fi 52 ((w.heap.P.getD (Z2 w.heap.C (w.pick t)).1.toNat X).N-1) (Fa (by exact B6 oq:(Z Z0.dv w.heap.P)[(Z2 w.heap.C (w.pick t)).1.toNat]?=some (w.heap.P.getD (Z2 w.heap.C (w.pick t)).1.toNat X).dv) (FS 10054 Z0.dv w.heap.P ((Z2 w.heap.C (w.pick t)).1.toNat) (Z0.mk (w.heap.P.getD (Z2 w.heap.C (w.pick t)).1.toNat X).K (w.heap.P.getD (Z2 w.heap.C (w.pick t)).1.toNat X).S (w.heap.P.getD (Z2 w.heap.C (w.pick t)).1.toNat X).U ((w.heap.P.getD (Z2 w.heap.C (w.pick t)).1.toNat X).N-1)) ((w.heap.P.getD (Z2 w.heap.C (w.pick t)).1.toNat X).dv) Fz)))))))))))))));have eP:w.pin t=⟨⟨w.heap.C,w.heap.W,w.heap.P.set (Z2 w.heap.C (w.pick t)).1.toNat ⟨(w.heap.P.getD (Z2 w.heap.C (w.pick t)).1.toNat X).K,(w.heap.P.getD (Z2 w.heap.C (w.pick t)).1.toNat X).S,(w.heap.P.getD (Z2 w.heap.C (w.pick t)).1.toNat X).U,(w.heap.P.getD (Z2 w.heap.C (w.pick t)).1.toNat X).N+1⟩,w.heap.S,w.heap.B⟩,w.G,w.E⟩:=by rw[Zj.pin,if_pos e,if_neg (λq=>c2 q.2),if_pos (.inl c1)];rfl
  rw[eP,eT];exact lF func104 [] (Fh 42 [.br Y] (Fh 37 [.br M] (Fh 59 [.el (w.heap.P.getD (Z2 w.heap.C (w.pick t)).1.toNat X).dv] (Fh 65 [.el (w.heap.P.getD (Z2 w.heap.C (w.pick t)).1.toNat X).dv] (Fh 76 [.int (w.heap.C.pg/4)] (Fh 55 [.br Y] (Fh 82 [.el (w.heap.P.getD (Z2 w.heap.C (w.pick t)).1.toNat X).dv] (Fp 12 (@IU w t aa aa oq) (Fc 18 (@Hn w.heap.C (w.pick t) oq oq) (Ffb 23 ((Z2 w.heap.C (w.pick t)).2.2 != 0) (FA 25 29 Z0.dv w.heap.P (Fmq 41 Z0.dv w.heap.P ((Z2 w.heap.C (w.pick t)).1) (Fb (O (0<(w.heap.P.getD (Z2 w.heap.C (w.pick t)).1.toNat X).N)=Y) (Fp 45 (@CZ (w.pickT t) (2) aa oq oq) (Fb (((w.pickT t).next (2:Int)==0)=M) (Fa (by exact B6 oq:(Z Z0.dv w.heap.P)[(Z2 w.heap.C (w.pick t)).1.toNat]?=some (w.heap.P.getD (Z2 w.heap.C (w.pick t)).1.toNat X).dv) (Fa (by intro hg;(try simp only[bs]at hg);exact B6 oq:(!decide (0<(w.heap.P.getD (Z2 w.heap.C (w.pick t)).1.toNat X).N))=Y->(Z Z0.dv w.heap.P)[(Z2 w.heap.C (w.pick t)).1.toNat]?=some (w.heap.P.getD (Z2 w.heap.C (w.pick t)).1.toNat X).dv) (FcG 71 (!(O (0<(w.heap.P.getD (Z2 w.heap.C (w.pick t)).1.toNat X).N)||(w.heap.P.getD (Z2 w.heap.C (w.pick t)).1.toNat X).K==2)) (λhg=>by(try simp only[bs]at hg);exact@Z38 w.heap oq) (Fa (by intro hg;(try simp only[bs]at hg);rw[E6 oq oq];omega:(!(O (0<(w.heap.P.getD (Z2 w.heap.C (w.pick t)).1.toNat X).N)||(w.heap.P.getD (Z2 w.heap.C (w.pick t)).1.toNat X).K==2))=Y->Lq.wrap (w.heap.C.pg.tdiv 4)=w.heap.C.pg/4) (Fa (by intro hg;(try simp only[bs]at hg);omega:(!(O (0<(w.heap.P.getD (Z2 w.heap.C (w.pick t)).1.toNat X).N)||(w.heap.P.getD (Z2 w.heap.C (w.pick t)).1.toNat X).K==2))=Y->(4:Int)=0->False) (Fb ((O (0<(w.heap.P.getD (Z2 w.heap.C (w.pick t)).1.toNat X).N)||(w.heap.P.getD (Z2 w.heap.C (w.pick t)).1.toNat X).K==2||O ((↑(crowd w.heap.P):Int)<w.heap.C.pg/4))=Y) (Fa (by exact B6 oq:(Z Z0.dv w.heap.P)[(Z2 w.heap.C (w.pick t)).1.toNat]?=some (w.heap.P.getD (Z2 w.heap.C (w.pick t)).1.toNat X).dv) (Fi 83 ((w.heap.P.getD (Z2 w.heap.C (w.pick t)).1.toNat X).N+1) (Fa (by exact B6 oq:(Z Z0.dv w.heap.P)[(Z2 w.heap.C (w.pick t)).1.toNat]?=some (w.heap.P.getD (Z2 w.heap.C (w.pick t)).1.toNat X).dv) (FS 10085 Z0.dv w.heap.P ((Z2 w.heap.C (w.pick t)).1.toNat) (Z0.mk (w.heap.P.getD (Z2 w.heap.C (w.pick t)).1.toNat X).K (w.heap.P.getD (Z2 w.heap.C (w.pick t)).1.toNat X).S (w.heap.P.getD (Z2 w.heap.C (w.pick t)).1.toNat X).U ((w.heap.P.getD (Z2 w.heap.C (w.pick t)).1.toNat X).N+1)) ((w.heap.P.getD (Z2 w.heap.C (w.pick t)).1.toNat X).dv) Fz)))))))))))))))))))))))))
 have eT:w.pinT t=w.pickT t:=by rw[Zj.pinT,if_neg (λq=>c1 q.2)]
 by_cases c3:(w.heap.P.getD (Z2 w.heap.C (w.pick t)).1.toNat X).K=2\/(crowd w.heap.P:Int)<w.heap.C.pg/4;have eP:w.pin t=⟨⟨w.heap.C,w.heap.W,w.heap.P.set (Z2 w.heap.C (w.pick t)).1.toNat ⟨(w.heap.P.getD (Z2 w.heap.C (w.pick t)).1.toNat X).K,(w.heap.P.getD (Z2 w.heap.C (w.pick t)).1.toNat X).S,(w.heap.P.getD (Z2 w.heap.C (w.pick t)).1.toNat X).U,(w.heap.P.getD (Z2 w.heap.C (w.pick t)).1.toNat X).N+1⟩,w.heap.S,w.heap.B⟩,w.G,w.E⟩:=by rw[Zj.pin,if_pos e,if_neg (λq=>c1 q.1),if_pos (.inr c3)];rfl
 rw[eP,eT];exact lF func104 [] (Fh 42 [.br M] (Fh 45 [.bor [0] (int ((w.pickT t).next 2)) [((w.pickT t).step 2).b]] (Fh 59 [.el (w.heap.P.getD (Z2 w.heap.C (w.pick t)).1.toNat X).dv] (Fh 65 [.el (w.heap.P.getD (Z2 w.heap.C (w.pick t)).1.toNat X).dv] (Fh 76 [.int (w.heap.C.pg/4)] (Fh 55 [.br Y] (Fh 82 [.el (w.heap.P.getD (Z2 w.heap.C (w.pick t)).1.toNat X).dv] (Fp 12 (@IU w t aa aa oq) (Fc 18 (@Hn w.heap.C (w.pick t) oq oq) (Ffb 23 ((Z2 w.heap.C (w.pick t)).2.2 != 0) (FA 25 29 Z0.dv w.heap.P (Fmq 41 Z0.dv w.heap.P ((Z2 w.heap.C (w.pick t)).1) (Fb (O (0<(w.heap.P.getD (Z2 w.heap.C (w.pick t)).1.toNat X).N)=M) (Fa (by exact B6 oq:(Z Z0.dv w.heap.P)[(Z2 w.heap.C (w.pick t)).1.toNat]?=some (w.heap.P.getD (Z2 w.heap.C (w.pick t)).1.toNat X).dv) (Fa (by intro hg;(try simp only[bs]at hg);exact B6 oq:(!decide (0<(w.heap.P.getD (Z2 w.heap.C (w.pick t)).1.toNat X).N))=Y->(Z Z0.dv w.heap.P)[(Z2 w.heap.C (w.pick t)).1.toNat]?=some (w.heap.P.getD (Z2 w.heap.C (w.pick t)).1.toNat X).dv) (FcG 71 (!(O (0<(w.heap.P.getD (Z2 w.heap.C (w.pick t)).1.toNat X).N)||(w.heap.P.getD (Z2 w.heap.C (w.pick t)).1.toNat X).K==2)) (λhg=>by(try simp only[bs]at hg);exact@Z38 w.heap oq) (Fa (by intro hg;(try simp only[bs]at hg);rw[Lw oq,E6 oq oq]:(!(O (0<(w.heap.P.getD (Z2 w.heap.C (w.pick t)).1.toNat X).N)||(w.heap.P.getD (Z2 w.heap.C (w.pick t)).1.toNat X).K==2))=Y->Lq.wrap (w.heap.C.pg.tdiv 4)=w.heap.C.pg/4) (Fa (by intro hg;(try simp only[bs]at hg);omega:(!(O (0<(w.heap.P.getD (Z2 w.heap.C (w.pick t)).1.toNat X).N)||(w.heap.P.getD (Z2 w.heap.C (w.pick t)).1.toNat X).K==2))=Y->(4:Int)=0->False) (Fb ((O (0<(w.heap.P.getD (Z2 w.heap.C (w.pick t)).1.toNat X).N)||(w.heap.P.getD (Z2 w.heap.C (w.pick t)).1.toNat X).K==2||O ((↑(crowd w.heap.P):Int)<w.heap.C.pg/4))=Y) (Fa (by exact B6 oq:(Z Z0.dv w.heap.P)[(Z2 w.heap.C (w.pick t)).1.toNat]?=some (w.heap.P.getD (Z2 w.heap.C (w.pick t)).1.toNat X).dv) (Fi 83 ((w.heap.P.getD (Z2 w.heap.C (w.pick t)).1.toNat X).N+1) (Fa (by exact B6 oq:(Z Z0.dv w.heap.P)[(Z2 w.heap.C (w.pick t)).1.toNat]?=some (w.heap.P.getD (Z2 w.heap.C (w.pick t)).1.toNat X).dv) (FS 10085 Z0.dv w.heap.P ((Z2 w.heap.C (w.pick t)).1.toNat) (Z0.mk (w.heap.P.getD (Z2 w.heap.C (w.pick t)).1.toNat X).K (w.heap.P.getD (Z2 w.heap.C (w.pick t)).1.toNat X).S (w.heap.P.getD (Z2 w.heap.C (w.pick t)).1.toNat X).U ((w.heap.P.getD (Z2 w.heap.C (w.pick t)).1.toNat X).N+1)) ((w.heap.P.getD (Z2 w.heap.C (w.pick t)).1.toNat X).dv) Fz)))))))))))))))))))))));have eP:w.pin t=w:=by rw[Zj.pin,if_pos e,if_neg (λq=>c1 q.1),if_neg (λq=>q.elim c1 c3)]
 rw[eP,eT];exact lF func104 [] (Fh 42 [.br M] (Fh 45 [.bor [0] (int ((w.pickT t).next 2)) [((w.pickT t).step 2).b]] (Fh 59 [.el (w.heap.P.getD (Z2 w.heap.C (w.pick t)).1.toNat X).dv] (Fh 65 [.el (w.heap.P.getD (Z2 w.heap.C (w.pick t)).1.toNat X).dv] (Fh 76 [.int (w.heap.C.pg/4)] (Fh 55 [.br M] (Fp 12 (@IU w t aa aa oq) (Fc 18 (@Hn w.heap.C (w.pick t) oq oq) (Ffb 23 ((Z2 w.heap.C (w.pick t)).2.2 != 0) (FA 25 29 Z0.dv w.heap.P (Fmq 41 Z0.dv w.heap.P ((Z2 w.heap.C (w.pick t)).1) (Fb (O (0<(w.heap.P.getD (Z2 w.heap.C (w.pick t)).1.toNat X).N)=M) (Fa (by exact B6 oq:(Z Z0.dv w.heap.P)[(Z2 w.heap.C (w.pick t)).1.toNat]?=some (w.heap.P.getD (Z2 w.heap.C (w.pick t)).1.toNat X).dv) (Fa (by intro hg;(try simp only[bs]at hg);exact B6 oq:(!decide (0<(w.heap.P.getD (Z2 w.heap.C (w.pick t)).1.toNat X).N))=Y->(Z Z0.dv w.heap.P)[(Z2 w.heap.C (w.pick t)).1.toNat]?=some (w.heap.P.getD (Z2 w.heap.C (w.pick t)).1.toNat X).dv) (FcG 71 (!(O (0<(w.heap.P.getD (Z2 w.heap.C (w.pick t)).1.toNat X).N)||(w.heap.P.getD (Z2 w.heap.C (w.pick t)).1.toNat X).K==2)) (λhg=>by(try simp only[bs]at hg);exact@Z38 w.heap oq) (Fa (by intro hg;(try simp only[bs]at hg);rw[Lw oq,E6 oq oq]:(!(O (0<(w.heap.P.getD (Z2 w.heap.C (w.pick t)).1.toNat X).N)||(w.heap.P.getD (Z2 w.heap.C (w.pick t)).1.toNat X).K==2))=Y->Lq.wrap (w.heap.C.pg.tdiv 4)=w.heap.C.pg/4) (Fa (by intro hg;(try simp only[bs]at hg);omega:(!(O (0<(w.heap.P.getD (Z2 w.heap.C (w.pick t)).1.toNat X).N)||(w.heap.P.getD (Z2 w.heap.C (w.pick t)).1.toNat X).K==2))=Y->(4:Int)=0->False) (Fb ((O (0<(w.heap.P.getD (Z2 w.heap.C (w.pick t)).1.toNat X).N)||(w.heap.P.getD (Z2 w.heap.C (w.pick t)).1.toNat X).K==2||O ((↑(crowd w.heap.P):Int)<w.heap.C.pg/4))=M) Fz))))))))))))))))));have eP:w.pin t=w:=by rw[Zj.pin,if_neg e]
 have eT:w.pinT t=w.pickT t:=by rw[Zj.pinT,if_neg (λq=>e q.1)]
 rw[eP,eT];exact lF func104 [] (Fp 12 (@IU w t aa aa oq) (Fc 18 (@Hn w.heap.C (w.pick t) oq oq) (Ftb 23 ((Z2 w.heap.C (w.pick t)).2.2 != 0) Fz)))
def Z6c(h:Heap)(s k:List Int)(g:Zy h.W)(hs:s.length<=1048575)(f:k.length<=1048575)(b:E7 s)(a:E7 k):GP 36 [h.av,Z3 s,Z3 k] M (.tu [(collectF h s k).1.av,Z3 (collectF h s k).2.1,Z3 (collectF h s k).2.2.1,.ag (collectF h s k).2.2.2.1.cells,int (collectF h s k).2.2.2.2]) []:=by unfold collectF;by_cases d:Z8 h=Y;rw[if_pos d];by_cases c:Bw h s=Y/\Bw h k=Y;rw[if_pos c];by_cases e:(rootsF (Zo h) s).2.2=0;rw[if_pos e];by_cases i:(Bu (rootsF (Zo h) s).1).2=0;rw[if_pos i];exact Zk7 h s k g hs f b a d c.1 c.2 e i;rw[if_neg i];exact Zgd h s k g hs f b a d c.1 c.2 e i;rw[if_neg e];exact ZgX h s k g hs f b a d c.1 c.2 e;rw[if_neg c];refine Zco h s k g hs f b a d ?_;by_cases q:Bw h s=Y;refine Lb ?_;have:¬ Bw h k=Y:=λj=>c ⟨q,j⟩;simpa using this;exact La (by simpa using q);rw[if_neg d];exact ZhG h s k g hs f b a (by simpa using d)
def Zj.collect(w:Zj):Zj:=if(collectF w.heap w.G w.E).2.2.2.2=0 then⟨(collectF w.heap w.G w.E).1,(collectF w.heap w.G w.E).2.1,(collectF w.heap w.G w.E).2.2.1⟩else w
def ZdR(w:Zj)(hw:Zy w.heap.W)(hs:w.G.length<=1048575)(hk:w.E.length<=1048575)(c:E7 w.G)(b:E7 w.E):GP 23 [w.av] M w.collect.av []:=by
 by_cases e:(collectF w.heap w.G w.E).2.2.2.2=0;have a:w.collect=⟨(collectF w.heap w.G w.E).1,(collectF w.heap w.G w.E).2.1,(collectF w.heap w.G w.E).2.2.1⟩:=by rw[Zj.collect,if_pos e]
 rw[a];exact gF [] func23 [] (Fc 15 (@Z6c w.heap w.G w.E aa aa aa aa aa) (Ftb 22 ((collectF w.heap w.G w.E).2.2.2.2==0) Fz));have a:w.collect=w:=by rw[Zj.collect,if_neg e]
 rw[a];exact gF [] func23 [] (Fc 15 (@Z6c w.heap w.G w.E aa aa aa aa aa) (Ffb 22 ((collectF w.heap w.G w.E).2.2.2.2==0) Fz))
section
variable (P:Z6->Prop) (d:∀w r,B8 w->Bv w->P w->(w.fwd r).2.2=0->P (w.fwd r).1)(a:∀w q j,B8 w->Bv w->P w->q∈w.Q->0<=j->j<Zk w.heap.W q->(w.fwd (Z1 w.heap.W (q+1+j)).1).2.2=0->P (w.in1 (q+1+j))) (b:∀w n,P w->P (He w n))
include a in
theorem Ti{w}(e:B8 w)(h:Bv w)(i:P w){q:Int}(c:q∈w.Q){l:List Int}(hl:∀x∈l,0<=x/\x<Zk w.heap.W q):∀k,k<=l.length->(∀j,j<k->CC w q l j=0)->P (Bd w q l k)
 |0,_,_=>i
 |k+1,hk,he=>by
  have n:=Ti e h i c hl k oq (λj g=>he j oq);have ok:=(N7 e q l k (λj g=>he j oq)).1;have f:=TP e h c hl k oq (λj g=>he j oq);have m:=hl _ (Be.2 ⟨k,by omega,rfl⟩);exact a _ q (l.getD k X) ok f.1 n (f.2.q q c) m.1 (by rw[f.2.l q c];exact m.2) (he k oq)
include a b in
theorem Oi{w}(g:B8 w)(h:Bv w)(c:P w)(e:(ZX w).2.2=0):P (ZX w).1:=by
 by_cases f:w.D<w.Q.length;have o:=g.sc;have n:C2 w∈w.Q:=Be.2 ⟨w.D.toNat,by omega,rfl⟩;unfold ZX at e⊢;rw[if_pos f]at e⊢;cases hb:(Lo (Bf w).length).find? (λk=>O (CC w (C2 w) (Bf w) k≠0))with
 |none =>
  have i:∀j,j<(Bf w).length->CC w (C2 w) (Bf w) j=0:=λj m=>by(have:=Lj.1 hb j (Li.2 m);simpa using this)
  exact b _ _ (Ti P a g h c n (l:=Bf w) (NG (Zv w (C2 w))) (Bf w).length (Le _) i)
 |some k =>simp only[hb]at e;have:=(Ly.1 hb).1;simp[e]at this
 have e:ZX w=(w,M,0):=by rw[ZX,if_neg f]
 rw[e];exact c
include a b in
theorem Z0o{w}(c:B8 w)(h:Bv w)(g:P w):∀k,(∀j,j<k->Eg w j=M)->P (C7 w k)
 |0,_=>g
 |k+1,hh=>by
  have i:=Z0o c h g k (λj e=>hh j oq);have ok:=(It c k (λj e=>hh j oq)).1;have l:=(Dw c h k (λj e=>hh j oq)).1;have f:=hh k oq;simp only[Eg,decide_eq_false_iff_not,not_or,Lp]at f;exact Oi P a b ok l i f.1
include a b in
theorem ZgY{w}(f:B8 w)(h:Bv w)(n:P w)(e:(Bu w).2=0):P (Bu w).1:=by
 obtain⟨k,i⟩:=Sz f;obtain⟨h1,h2,l⟩:=Ly.1 i;have g:∀j,j<k->Eg w j=M:=λj m=>by simpa using l j m
 unfold Bu at e⊢;rw[i]at e⊢;simp only at e⊢;split at e;rename_i c;rw[if_pos c];exact Oi P a b (It f k g).1 (Dw f h k g).1 (Z0o P a b f h n k g) c;rename_i c;exact absurd e c
include d in
theorem Z1O{w roots}(c:B8 w)(h:Bv w)(f:P w):∀k,(∀j,j<k->E0 w roots j=0)->P (rootsN w roots k).1
 |0,_=>f
 |k+1,hh=>by
  have g:=Z1O c h f k (λj e=>hh j oq);have ok:=(RZ (roots:=roots) c k (λj e=>hh j oq)).1;have i:=(OL (roots:=roots) c h k (λj e=>hh j oq)).1;exact d _ _ ok i g (hh k oq)
include d in
theorem Z0H{w roots}(i:B8 w)(h:Bv w)(g:P w)(e:(rootsF w roots).2.2=0):P (rootsF w roots).1:=by
 unfold rootsF at e⊢;cases hb:(Lo roots.length).find? (λk=>O (E0 w roots k≠0))with
 |none =>
  have c:∀j,j<roots.length->E0 w roots j=0:=λj f=>by(have:=Lj.1 hb j (Li.2 f);simpa using this)
  exact Z1O P d i h g roots.length c
 |some k =>simp only[hb]at e;have:=(Ly.1 hb).1;simp[e]at this
include d a b in
theorem TG{h:Heap}{s}(k:Zy h.W)(g:Z8 h=Y)(j:P (Zo h))(e:(rootsF (Zo h) s).2.2=0)(i:(Bu (rootsF (Zo h) s).1).2=0):P (ZF h s):=by have c:=R1 k g;have hi:=RB g;have f:=RS (roots:=s) c hi e;exact ZgY P a b f.1 f.2.1 (Z0H P d c hi j e) i
end
def Zbt{l:List Z0}{i k:Nat}(h:∀m,m<k->i+1+m<l.length/\(l.getD (i+1+m) X).K=3):k<=ZC l i:=by by_cases b:k<=ZC l i;exact b;have a:=h (ZC l i) oq;exact absurd a.2 (Mb a.1)
def PT.flip{c l}(h:PT c l){i:Nat}(hi:i<l.length)(hk:(l.getD i X).K=2){s:Int}(hs:0<=s/\s<=1):PT c (ZH l i (ZC l i) s):=by
 have w:∀j,i<j->j<=i+ZC l i->(l.getD j X).K=3:=λj u v=>by(have:=(Rp (l:=l) (i:=i) (m:=j-i-1) oq).2;rwa [show i+1+(j-i-1)=j by omega]at this)
 have f:∀j,j<l.length->((ZH l i (ZC l i) s).getD j X).K=(l.getD j X).K/\((ZH l i (ZC l i) s).getD j X).U=(l.getD j X).U/\((ZH l i (ZC l i) s).getD j X).N=(l.getD j X).N:=λj d=>by(rw[HB d];split;exact⟨rfl,rfl,rfl⟩;exact⟨rfl,rfl,rfl⟩)
 refine⟨?_, ?_, ?_⟩;intro j d;rw[H2]at d;have b:=h.b j d;rw[HB d];split;rename_i n;refine⟨hs,b.n,b.k,λq=>?_,b.k1,b.k3⟩;exfalso;have q':(l.getD j X).K=0:=q;by_cases e:j=i;subst e;omega;have:=w j oq n.2;omega;exact b;intro j d g;rw[H2]at d⊢;rw[(f j d).1]at g;rw[(f j d).2.1];have q:=h.lg j d g;refine⟨q.1,λm u v=>?_⟩;have r:=q.2 m u v;refine⟨r.1,by rw[(f _ r.1).1];exact r.2.1, ?_⟩;rw[HB r.1,HB d];by_cases e:j=i;subst e;have hT:(need c (l.getD j X).U-1).toNat<=ZC l j:=Zbt λt a4=>by(have:=q.2 (t+1) oq oq;rw[show j+1+t=j+(t+1) by omega];exact⟨this.1,this.2.1⟩)
 rw[if_pos oq,if_pos oq];rfl;have o:¬ (i<=j/\j<=i+ZC l i):=λn=>by(have:=w j oq n.2;omega)
 have p:¬ (i<=j+m/\j+m<=i+ZC l i):=λn=>by(by_cases a0:j<i;by_cases z:j+m=i;have:=r.2.1;rw[z]at this;omega;have:=(q.2 (i-j) oq oq).2.1;rw[show j+(i-j)=i by omega]at this;omega;omega)
 rw[if_neg o,if_neg p];exact r.2.2;intro j d k;rw[H2]at d;rw[(f j d).1]at k;obtain⟨a,a1,x,y⟩:=h.tl j d k;exact⟨a,a1,by rw[(f a oq).1];exact x,by rw[(f a oq).2.1];exact y⟩
structure Tab (B:Int) (w:Z6):Prop where
 pt:PT w.heap.C w.heap.P
 tk:∀x∈w.T,(w.heap.P.getD x.toNat X).S=1-w.heap.S
 pin:∀p∈w.heap.P,p.N<=B
def Tab.withWords{B w}(h:Tab B w)(l:List Int):Tab B ⟨⟨w.heap.C,l,w.heap.P,w.heap.S,w.heap.B⟩,w.old,w.T,w.Q,w.D,w.rep⟩:=⟨h.pt,h.tk,h.pin⟩
def Tab.place{B:Int}(t:0<=B){w}(m:B8 w)(h:Tab B w){n:Int}(hn:1<=n/\n<=w.heap.C.pw)(l:(w.place n).2.2=Y):PT (w.place n).1.heap.C (w.place n).1.heap.P/\(∀x∈(w.place n).1.T,((w.place n).1.heap.P.getD x.toNat X).S=1-(w.place n).1.heap.S)/\∀p∈(w.place n).1.heap.P,p.N<=B:=by
 have v:=m.sp;by_cases c:Eb w n;have e:w.place n=(⟨⟨w.heap.C,w.heap.W,Cs w.heap.P (ZG w).toNat n,w.heap.S,w.heap.B⟩,w.old,w.T,w.Q,w.D,w.rep⟩,4096+ZG w*w.heap.C.pw+(w.heap.P.getD (ZG w).toNat X).U,Y):=by rw[Z6.place,if_pos c]
 unfold Eb at c;have j:=m.tk _ (H1 c.1);have hi:(ZG w).toNat<w.heap.P.length:=by omega
 have ok:=h.pt.b _ hi;have u:=ok.k1 j.2.2;rw[e];refine⟨h.pt.setPage hi (Lb j.2.2) ⟨ok.s,ok.n,ok.k,λq=>by simp only at q;omega,λ_=>by simp only;omega,λq=>by simp only at q;omega⟩ (Lb j.2.2), ?_, ?_⟩;intro x a;simp only;rw[RY,Cl hi];split;rename_i q;have:=h.tk _ (H1 c.1);simp only;omega;exact h.tk x a;intro p b;rcases L3 b with b|rfl;exact h.pin p b;exact h.pin (w.heap.P.getD (ZG w).toNat X) (getD_in hi);by_cases i:0<=ZQ w;have e:w.place n=(⟨⟨w.heap.C,w.heap.W,Cs (EU w) (ZQ w).toNat n,w.heap.S,w.heap.B⟩,w.old,w.T++[ZQ w],w.Q,w.D,w.rep⟩,4096+ZQ w*w.heap.C.pw,Y):=by rw[Z6.place,if_neg c,if_pos i]
 obtain⟨o,r,s⟩:=SN (h:=⟨w.heap.C,w.heap.W,w.heap.P,1-w.heap.S,w.heap.B⟩) (by simp only;omega) i n;have f:Cs (EU w) (ZQ w).toNat n=w.heap.P.set (ZQ w).toNat ⟨1,1-w.heap.S,n,0⟩:=o;have g:(w.heap.P.getD (ZQ w).toNat X).K=0:=r;have d:(ZQ w).toNat<w.heap.P.length:=s;rw[e,f];refine⟨h.pt.setPage d (La g) ⟨by simp only;omega,by simp,by simp,by simp,λ_=>by simp only;omega,by simp⟩ (Lb rfl), ?_, ?_⟩;intro x a;simp only at a⊢;rw[Cl d];split;rfl;rename_i k;rcases Ld.1 a with a|a;exact h.tk x a;simp at a;subst a;exact absurd rfl k;intro p b;rcases L3 b with b|rfl;exact h.pin p b;exact t;rw[Z6.place,if_neg c,if_neg i]at l;simp at l
def Tab.fwd{B:Int}(v:0<=B) w r(b:B8 w)(hi:Bv w)(h:Tab B w)(e:(w.fwd r).2.2=0):Tab B (w.fwd r).1:=by
 unfold Z6.fwd at e⊢;split at e;rename_i c1;rw[if_pos c1];exact h;rename_i c1;rw[if_neg c1];split at e;simp at e;rename_i c2;rw[if_neg c2];have f:r∈w.old:=Lp.1 c2;split at e;rename_i c3;rw[if_pos c3];exact h;rename_i c3;rw[if_neg c3];split at e;simp at e;rename_i c4;rw[if_neg c4];split at e;rename_i g;rw[if_pos g];exact⟨h.pt,h.tk,h.pin⟩;rename_i g;rw[if_neg g];split at e;rename_i a;rw[if_pos a];have a0:=b.sp;have o:=GM b.C (Lp.1 c4);have z:=b.pl;have y:Cz w r<w.heap.P.length:=by unfold Cz;omega
 refine⟨h.pt.flip y a oq, ?_, ?_⟩;intro x u;have t:=b.tk x u;simp only[Z6.keep,Z6.flip];rw[HB oq];split;rename_i hc;exfalso;by_cases n:x.toNat=Cz w r;rw[n]at t;omega;have:=(Rp (l:=w.heap.P) (i:=Cz w r) (m:=x.toNat-Cz w r-1) oq).2;rw[show Cz w r+1+(x.toNat-Cz w r-1)=x.toNat by omega]at this;omega;exact h.tk x u;intro p d;simp only[Z6.keep,Z6.flip,ZH,LC,Li]at d;obtain⟨j,s,rfl⟩:=d;split;exact h.pin (w.heap.P.getD j X) (getD_in s);exact h.pin (w.heap.P.getD j X) (getD_in s);rename_i a;rw[if_neg a];split at e;simp at e;rename_i q;rw[if_neg q];have k:(w.place (Z5 (Zv w r))).2.2=Y:=by simpa using q
 have c:=hi.z r f;have hs:=Rw w r;have d:Z5 (Zv w r)<=w.heap.C.pw:=by(rw[GH];rcases c with c|c;exact absurd c a;exact c)
 obtain⟨q1,q2,q3⟩:=h.place v b ⟨hs.1,d⟩ k;exact⟨q1,q2,q3⟩
def Oh{B:Int}{h:Heap}(hp:Z8 h=Y)(hb:∀p∈h.P,p.N<=B):Tab B (Zo h):=by
 have hp':=hp;rw[GK]at hp';have hs:=hp'.2.2.2.1;refine⟨?_,by simp[Zo], ?_⟩
 .refine hp'.2.2.2.2.2.mapPages _ ?_ ?_ ?_ ?_
  .intro p hp;unfold Zp;split
   .rename_i hc;exact⟨by simp only;omega,hp.n,hp.k,λq=>by simp only at q;omega,hp.k1,λq=>by simp only at q;omega⟩
   .exact hp
  .intro p hp hk;unfold Zp at hk⊢;split at hk
   .rename_i hc;simp only at hk;omega
   .rename_i hc;rw[if_neg hc];exact⟨hk,rfl⟩
  .intro p hp hk;unfold Zp at hk;split at hk
   .rename_i hc;simp only at hk;omega
   .exact hk
  .intro p q hp hq h2 h3 he;have e1:Zp (1-h.S) p=p:=by rw[Zp,if_neg oq]
   have e2:Zp (1-h.S) q=q:=by rw[Zp,if_neg oq]
   rw[e1,e2];exact⟨⟨λ_=>h3,λ_=>h2⟩,λ_=>he⟩
 .intro p hp;simp only[Zo,LC]at hp;obtain⟨q,hq,rfl⟩:=hp;unfold Zp;split
  .exact hb q hq
  .exact hb q hq
def Ze7{B:Int}(b:0<=B){h:Heap}{s}(a:Zy h.W)(c:Z8 h=Y)(f:∀p∈h.P,p.N<=B)(e:(rootsF (Zo h) s).2.2=0)(d:(Bu (rootsF (Zo h) s).1).2=0):Tab B (ZF h s):=
 TG (Tab B) (λw r a hi h e=>h.fwd b w r a hi e) (λw q j a hi h hq h0 h1 e=>(Tab.fwd b w _ a hi h e).withWords _) (λw n h=>⟨h.pt,h.tk,h.pin⟩) a c (Oh c f) e d
structure C3 (w:Zj) (n:Nat):Prop where
 W:Zy w.heap.W
 hv:Zr w.heap.C=Y
 pl:(w.heap.P.length:Int)=w.heap.C.pg
 L:(w.heap.W.length:Int)=w.heap.C.pw*w.heap.C.pg
 N:∀j,j<w.heap.P.length->0<=(w.heap.P.getD j X).N/\(w.heap.P.getD j X).N<=n
 us:∀j,j<w.heap.P.length->0<=(w.heap.P.getD j X).U/\(w.heap.P.getD j X).U<=256
 G:E7 w.G
 E:E7 w.E
 sl:w.G.length<=n
 wl:w.E.length<=n
def C3.wm{w n}(h:C3 w n)(hn:n<=1000000):So w:=⟨h.W,h.G,h.E,L5 h.sl oq,L5 h.wl oq⟩
def Zj.dup(w:Zj)(t:Tape):Zj:=⟨w.heap,w.G++[w.pick t],w.E⟩
def Zj.step(w:Zj)(t:Tape):Zj:=
 if t.next 12<=3 then w.put ((t.step 12).header w.heap.C)
 else if t.next 12<=6 then w.link (t.step 12)
 else if t.next 12<=7 then w.pin (t.step 12)
 else if t.next 12<=9 then w.drop (t.step 12)
 else if t.next 12<=10 then w.collect
 else w.dup (t.step 12)
def Zj.stepT(w:Zj)(t:Tape):Tape:=
 if t.next 12<=3 then(t.step 12).headerT w.heap.C
 else if t.next 12<=6 then w.linkT (t.step 12)
 else if t.next 12<=7 then w.pinT (t.step 12)
 else if t.next 12<=9 then w.dropT (t.step 12)
 else if t.next 12<=10 then t.step 12
 else w.pickT (t.step 12)
def PD(t:Tape) c:0<=(t.header c).map/\(t.header c).map<=4294967295:=by
 have h:∀n:Int,0<=((Ge t c).step 4).next (2^(min (min n 32) 12).toNat)/\((Ge t c).step 4).next (2^(min (min n 32) 12).toNat)<=4294967295:=by(intro n;have p:=Z1n (n:=min (min n 32) 12) oq;have r:=GB ((Ge t c).step 4) (n:=2^(min (min n 32) 12).toNat) p.1;omega)
 unfold Tape.header;split;simp;split;simp;exact h _
def IK(t:Tape)(d:Int)(a:t.next 12=d)(b:Ez t):LP 22 [.pt 0 0 0,int 12] [t.b] (int d) [(t.step 12).b]:=by rw[<-a];exact CZ t 12 b dd dd
section
variable (w:Zj) (t:Tape) (n:Nat) (a:C3 w n) (b:n<=1000000) (c:Ez t) (ha:t.at'<=900000)
include a b c ha
theorem Zgn:LP 54 [w.av,.pt 0 0 0] [t.b] (w.step t).av [(w.stepT t).b]:=by
 have hw:=a.wm b;have h1:=a.W;have h2:=a.G;have h3:=a.E;have h4:=a.sl;have h5:=a.wl;have s1:=Nu (t:=t) 12;have k1:=N5 c s1.2.2 oq oq;have n1:=GB t (n:=12) dd;have g:=PD (t.step 12) w.heap.C;have hv:=a.hv;have i:=a.pl;have k:∀j,j<w.heap.P.length->-1048576<=(w.heap.P.getD j X).N/\(w.heap.P.getD j X).N<=4294967296:=λj h=>by(have:=a.N j h;omega)
 have d:t.next 12=0\/t.next 12=1\/t.next 12=2\/t.next 12=3\/t.next 12=4\/t.next 12=5\/t.next 12=6\/t.next 12=7\/t.next 12=8\/t.next 12=9\/t.next 12=10\/t.next 12=11:=by omega
 rcases d with d|d|d|d|d|d|d|d|d|d|d|d;have e:w.step t=w.put ((t.step 12).header w.heap.C):=by simp[Zj.step,d]
 have f:w.stepT t=(t.step 12).headerT w.heap.C:=by simp[Zj.stepT,d]
 rw[e,f];exact lF func54 [] (Fp 6 (@IK t (0) aa aa) (Fp 17 (@Z09 (t.step 12) w.heap.C aa oq aa) (Fc 18 (@Tl w ((t.step 12).header w.heap.C) aa aa) Fz)));have e:w.step t=w.put ((t.step 12).header w.heap.C):=by simp[Zj.step,d]
 have f:w.stepT t=(t.step 12).headerT w.heap.C:=by simp[Zj.stepT,d]
 rw[e,f];exact lF func54 [] (Fp 6 (@IK t (1) aa aa) (Fp 17 (@Z09 (t.step 12) w.heap.C aa oq aa) (Fc 18 (@Tl w ((t.step 12).header w.heap.C) aa aa) Fz)));have e:w.step t=w.put ((t.step 12).header w.heap.C):=by simp[Zj.step,d]
 have f:w.stepT t=(t.step 12).headerT w.heap.C:=by simp[Zj.stepT,d]
 rw[e,f];exact lF func54 [] (Fp 6 (@IK t (2) aa aa) (Fp 17 (@Z09 (t.step 12) w.heap.C aa oq aa) (Fc 18 (@Tl w ((t.step 12).header w.heap.C) aa aa) Fz)));have e:w.step t=w.put ((t.step 12).header w.heap.C):=by simp[Zj.step,d]
 have f:w.stepT t=(t.step 12).headerT w.heap.C:=by simp[Zj.stepT,d]
 rw[e,f];exact lF func54 [] (Fp 6 (@IK t (3) aa aa) (Fp 17 (@Z09 (t.step 12) w.heap.C aa oq aa) (Fc 18 (@Tl w ((t.step 12).header w.heap.C) aa aa) Fz)));have e:w.step t=w.link (t.step 12):=by simp[Zj.step,d]
 have f:w.stepT t=w.linkT (t.step 12):=by simp[Zj.stepT,d]
 rw[e,f];exact lF func54 [] (Fp 6 (@IK t (4) aa aa) (Fp 25 (@Z25 w (t.step 12) aa aa oq) Fz));have e:w.step t=w.link (t.step 12):=by simp[Zj.step,d]
 have f:w.stepT t=w.linkT (t.step 12):=by simp[Zj.stepT,d]
 rw[e,f];exact lF func54 [] (Fp 6 (@IK t (5) aa aa) (Fp 25 (@Z25 w (t.step 12) aa aa oq) Fz));have e:w.step t=w.link (t.step 12):=by simp[Zj.step,d]
 have f:w.stepT t=w.linkT (t.step 12):=by simp[Zj.stepT,d]
 rw[e,f];exact lF func54 [] (Fp 6 (@IK t (6) aa aa) (Fp 25 (@Z25 w (t.step 12) aa aa oq) Fz));have e:w.step t=w.pin (t.step 12):=by simp[Zj.step,d]
 have f:w.stepT t=w.pinT (t.step 12):=by simp[Zj.stepT,d]
 rw[e,f];exact lF func54 [] (Fp 6 (@IK t (7) aa aa) (Fp 30 (@Zjg w (t.step 12) aa aa oq aa oq aa) Fz));have e:w.step t=w.drop (t.step 12):=by simp[Zj.step,d]
 have f:w.stepT t=w.dropT (t.step 12):=by simp[Zj.stepT,d]
 rw[e,f];exact lF func54 [] (Fp 6 (@IK t (8) aa aa) (Fp 36 (@Z3V w (t.step 12) aa aa oq) Fz));have e:w.step t=w.drop (t.step 12):=by simp[Zj.step,d]
 have f:w.stepT t=w.dropT (t.step 12):=by simp[Zj.stepT,d]
 rw[e,f];exact lF func54 [] (Fp 6 (@IK t (9) aa aa) (Fp 36 (@Z3V w (t.step 12) aa aa oq) Fz));have e:w.step t=w.collect:=by simp[Zj.step,d]
 have f:w.stepT t=t.step 12:=by simp[Zj.stepT,d]
 rw[e,f];exact lF func54 [] (Fp 6 (@IK t (10) aa aa) (Fc 40 (@ZdR w aa oq oq aa aa) Fz));have e:w.step t=w.dup (t.step 12):=by simp[Zj.step,d]
 have f:w.stepT t=w.pickT (t.step 12):=by simp[Zj.stepT,d]
 rw[e,f];exact lF func54 [] (Fh 49 [.els (Z wdv (w.G++[w.pick (t.step 12)]))] (Fp 6 (@IK t (11) aa aa) (FAx 41 44 wdv w.G (by(simp[Zj.dup, *];omega)) (Fp 47 (@IU w (t.step 12) aa aa oq) (Fs 48 (Z wdv [w.pick (t.step 12)]) (Fa (by(simp[Zj.dup, *];omega):(Z wdv w.G).length+(Z wdv [w.pick (t.step 12)]).length<=2^30) (Fa (by simp[Zj.dup,L0,LZ,LB,LY,wdv,idv]:Z wdv w.G++Z wdv [w.pick (t.step 12)]=Z wdv (w.G++[w.pick (t.step 12)])) Fz)))))))
end
def Z6x{pw s l ws}(h:Zy ws):∀i,Zy (Ei pw s l ws i)
 |0=>h
 |i+1=>by
  have b:=Z6x (pw:=pw) (s:=s) (l:=l) h i;unfold Ei;split
  .intro x a;simp only[Cf,Ld,LG]at a;rcases a with(a|a)|a
   .exact b x (LF a)
   .omega
   .exact b x (LD a)
  .exact b
def Zgx{c l}(h:PT c l) s:PT c (l.map (BN s)):=by
 refine h.mapPages _ ?_ ?_ ?_ ?_;intro p b;unfold BN;split;exact⟨by simp,by simp,by simp,by simp,by simp,by simp⟩;exact b;intro p b a;unfold BN at a⊢;split at a;simp at a;rename_i i;rw[if_neg i];exact⟨a,rfl⟩;intro p b a;unfold BN at a;split at a;simp at a;exact a;intro p q b hq f g j;by_cases k:p.S=s;have d:BN s p=⟨0,0,0,0⟩:=by rw[BN,if_pos ⟨by omega,k⟩]
 have e:BN s q=⟨0,0,0,0⟩:=by rw[BN,if_pos ⟨by omega,by omega⟩]
 rw[d,e];simp;have d:BN s p=p:=by rw[BN,if_neg (by unfold Cv;omega)]
 have e:BN s q=q:=by rw[BN,if_neg (by unfold Cv;omega)]
 rw[d,e];exact⟨⟨λ_=>g,λ_=>f⟩,λ_=>j⟩
def Z7w{w}(a:B8 w) k:∀i,∀x∈Ec w k i,0<=x/\x<=4294967296
 |0,x,hx=>by simp[Ec]at hx
 |i+1,x,hx=>by
  simp only[Ec,Ld,Lf]at hx;rcases hx with hx|rfl
  .exact Z7w a k i x hx
  .have h:=NY w k i;unfold GD;split
   .omega
   .unfold BR;rw[h.2.2.2.1,h.1];split
    .rename_i b;have:=a.q _ b;omega
    .have:=Z8R (G3 a.W (k.getD i X)).1;omega
structure ZjF (B:Int) (h:Heap) (s k:List Int):Prop where
 p0:Z8 h=Y
 p1:Z8 (collectF h s k).1=Y
 w:Zy (collectF h s k).1.W
 n:∀p∈(collectF h s k).1.P,p.N<=B
 c:(collectF h s k).1.C=h.C
 r:∀x∈(collectF h s k).2.1,0<=x/\x<=4294967296
 rl:(collectF h s k).2.1.length=s.length
 v:∀x∈(collectF h s k).2.2.1,0<=x/\x<=4294967296
 vl:(collectF h s k).2.2.1.length=k.length
def Z2U{B:Int}(x:0<=B){h:Heap}{s k}(r:Zy h.W)(hb:∀p∈h.P,p.N<=B)(e:(collectF h s k).2.2.2.2=0):ZjF B h s k:=by
 by_cases a:Z8 h=Y;by_cases o:Bw h s=Y/\Bw h k=Y;by_cases b:(rootsF (Zo h) s).2.2=0;by_cases g:(Bu (rootsF (Zo h) s).1).2=0;have d:collectF h s k=(Eo (Bz h s k),(rootsF (Zo h) s).2.1,Ec (ZF h s) k k.length,(Bz h s k).rep,0):=by rw[collectF,if_pos a,if_pos o,if_pos b,if_pos g]
 have z:=RS (roots:=s) (R1 r a) (RB a) b;have c:=cOk h s k r a b g;have c5:=Z17 h s k r a b g;have u:=Ze7 x r a hb b g;obtain⟨n,t,v,g4,g5⟩:=c.h4;have a0:=c.w2.sp;have i:(ZF h s).heap.C=h.C:=c.x2.c;have m:=c.w2.pl;rw[i]at m;have hL:=c.i4.L;rw[n]at hL;have j:=Tk (s:=(Cw h s k).heap.S) c5.2.2.2.1 (Cw h s k).heap.P.length (Le _);refine⟨a, ?_, ?_, ?_, ?_, ?_, ?_, ?_, ?_⟩;rw[d,GK];simp only[Eo,Bz,H5,n,t,v,g4];have f:=Zgx (s:=(ZF h s).heap.S) u.pt;rw[i]at f;refine⟨(B4 a).1, ?_,by simp only[Lm];exact m,by omega, ?_,f⟩;rw[n,t,v]at j;rw[j];exact hL;split;rename_i ht;have y:=H1 (w:=ZF h s) ht;have t1:=c.w2.tk _ y;have t2:=u.tk _ y;refine Lb ⟨t1.1,by simp only[Lm];exact t1.2.1, ?_⟩;have hx:(Z (BN (ZF h s).heap.S) (ZF h s).heap.P).getD (ZG (ZF h s)).toNat X=(ZF h s).heap.P.getD (ZG (ZF h s)).toNat X:=by
  have hi:(ZG (ZF h s)).toNat<(ZF h s).heap.P.length:=by omega
  have:(Z (BN (ZF h s).heap.S) (ZF h s).heap.P).getD (ZG (ZF h s)).toNat X=BN (ZF h s).heap.S ((ZF h s).heap.P.getD (ZG (ZF h s)).toNat X):=by simp[Lg,hi]
  rw[this,BN,if_neg (by unfold Cv;omega)]
 show((Z (BN (ZF h s).heap.S) (ZF h s).heap.P).getD (ZG (ZF h s)).toNat X).K=1;rw[hx];exact t1.2.2;exact La rfl;rw[d];exact Z6x c.f4.W _;rw[d];intro p l;simp only[Eo,Bz,H5,t,LC]at l;obtain⟨q,hq,rfl⟩:=l;unfold BN;split;exact x;exact u.pin q hq;rw[d];exact n;rw[d];exact z.2.2.2.1;rw[d];exact z.2.2.2.2;rw[d];exact Z7w c.w2 k _;rw[d];exact Dn _ _ _;rw[collectF,if_pos a,if_pos o,if_pos b,if_neg g]at e;exact absurd e g;rw[collectF,if_pos a,if_pos o,if_neg b]at e;exact absurd e b;rw[collectF,if_pos a,if_neg o]at e;simp at e;rw[collectF,if_neg a]at e;simp at e
def ZgA{h:Heap}(b:Z8 h=Y):∀p∈h.P,0<=p.N:=by rw[GK]at b;intro p a;obtain⟨i,hi,e⟩:=L2.1 a;have:=(b.2.2.2.2.2.b i hi).n.1;rwa [show h.P.getD i X=p by rw[Lg,LS hi,e];rfl]at this
def C3.of_proper{w:Zj}{n:Nat}(b:Z8 w.heap=Y)(h:Zy w.heap.W)(g:∀p∈w.heap.P,p.N<=n)(d:E7 w.G)(e:E7 w.E)(f:w.G.length<=n)(h4:w.E.length<=n):C3 w n:=by have c:=B4 b;exact⟨h,c.1,c.2.2.2.2.2.2.2.1,c.2.2.2.2.2.1,λj a=>⟨ZgA b _ (getD_in a),g _ (getD_in a)⟩,λj a=>by have:=Eh b a;omega,d,e,f,h4⟩
def C3.pin_mem{w n}(h:C3 w n):∀p∈w.heap.P,0<=p.N/\p.N<=n:=by intro p a;obtain⟨i,hi,e⟩:=L2.1 a;have:=h.N i hi;rwa [show w.heap.P.getD i X=p by rw[Lg,LS hi,e];rfl]at this
def C3.mono{w n}(h:C3 w n):C3 w (n+1):=
 ⟨h.W,h.hv,h.pl,h.L,λj a=>by have:=h.N j a;omega,h.us,h.G,h.E,by have:=h.sl;omega,by have:=h.wl;omega⟩
def Z3y{l}(h:E7 l){x:Int}(b:0<=x/\x<=18446744073709551615):E7 (l++[x]):=by intro y a;simp only[Ld,Lf]at a;rcases a with a|rfl;exact h y a;exact b
def C3.put{w n}(h:C3 w n){b:Zw}(f:0<=b.map/\b.map<=4294967295):C3 (w.put b) (n+1):=by unfold Zj.put;split;rename_i e;obtain⟨k1,g,c,k4,i,j,k,l⟩:=Oq h.W f e;have po:=B4 k1;have hl:=h.sl;have d:=h.wl;have z:=(D9 g).2.1;have a1:=c.lo;have a2:=c.hi;refine C3.of_proper k l ?_ (Z3y h.G (by rw[i];omega)) h.E qo (by simp only;omega);intro p a;simp only at a;rw[j]at a;simp only at a;rcases c.pin p a with q|⟨q,m,q2⟩;omega;have:=h.pin_mem q m;omega;exact h.mono
def C3.link{w n}(h:C3 w n)(e:n<=1000000) t:C3 (w.link t) (n+1):=by
 unfold Zj.link;split;rename_i b;have g:=NA b.1;have f:=h.wm e;have c:1<=(Zs w.heap (w.pick t)).1.length:=by omega
 have i:=GB (w.pickT (w.pickT t)) (n:=8) dd;have hi:0<=Hq w t/\Hq w t<(Zs w.heap (w.pick t)).1.length:=by(unfold Hq;rw[LQ i.1];exact⟨LJ _ oq,Lv _ oq⟩)
 have hv:0<=Ht w t/\Ht w t<=18446744073709551615:=by(unfold Ht;split;exact A9 f _;have:=GB ((w.pickT (w.pickT t)).step 8) (n:=1048576) dd;omega)
 obtain⟨s1,j,k⟩:=Z0G h.W hv b.1 hi;have hl:=h.sl;have d:=h.wl;refine C3.of_proper j k ?_ h.G h.E (by simp only;omega) (by simp only;omega);intro p a;simp only at a;rw[s1]at a;have:=h.pin_mem p a;omega;exact h.mono
def Z7p{w n}(h:C3 w n){i:Nat}(hi:i<w.heap.P.length){d:Int}(hd:d=1\/(d=-1/\0<(w.heap.P.getD i X).N)):C3 (pinB w i d) (n+1):=by have hp:=h.N i hi;refine⟨h.W,h.hv, ?_,h.L, ?_, ?_,h.G,h.E,by have:=h.sl;simp only[pinB];omega,by have:=h.wl;simp only[pinB];omega⟩;simp only[pinB,Lk];exact h.pl;intro j a;simp only[pinB,Lk]at a⊢;rw[Cl hi];split;simp only;omega;have:=h.N j a;omega;intro j a;simp only[pinB,Lk]at a⊢;rw[Cl hi];split;exact h.us i hi;exact h.us j a
def C3.pin{w n}(h:C3 w n) t:C3 (w.pin t) (n+1):=by
 unfold Zj.pin;split;rename_i e;have o:=GM h.hv e;have b:=h.pl;have hi:Ii w t<w.heap.P.length:=by unfold Ii;omega
 split;rename_i a;exact Z7p h hi (Lb ⟨rfl,a.1⟩);split;exact Z7p h hi (La rfl);exact h.mono;exact h.mono
def C3.drop{w n}(h:C3 w n) t:C3 (w.drop t) (n+1):=by unfold Zj.drop;split;have hl:=h.sl;have c:=h.wl;refine⟨h.W,h.hv,h.pl,h.L,λj b=>by have:=h.N j b;simp only;omega,h.us, ?_, ?_, ?_, ?_⟩;intro x a;rcases Ld.1 a with a|a;exact h.G x (LF a);exact h.G x (LD a);simp only;split;exact Z3y h.E (Dr h.G _);exact h.E;simp only[LV,LX,LW];omega;simp only;split;simp;omega;omega;exact h.mono
def C3.collect{w n}(h:C3 w n):C3 w.collect (n+1):=by unfold Zj.collect;split;rename_i e;have c:=Z2U (B:=n) oq h.W (λp a=>(h.pin_mem p a).2) e;have hl:=h.sl;have d:=h.wl;refine C3.of_proper c.p1 c.w (λp a=>by have:=c.n p a;omega) (λx b=>by have:=c.r x b;omega) (λx b=>by have:=c.v x b;omega) (by simp only[c.rl];omega) (by simp only[c.vl];omega);exact h.mono
def C3.step{w n}(h:C3 w n)(a:n<=1000000) t:C3 (w.step t) (n+1):=by
 unfold Zj.step;repeat' split
 exact h.put (PD _ _);exact h.link a _;exact h.pin _;exact h.drop _;exact h.collect;have hl:=h.sl;have c:=h.wl;exact⟨h.W,h.hv,h.pl,h.L,λj b=>by have:=h.N j b;simp only[Zj.dup]at *;omega,h.us,Z3y h.G (A9 (h.wm a) _),h.E,by simp only[Zj.dup,LV,List.length_singleton];omega,by simp only[Zj.dup];omega⟩
def Az(w:Z6)(x:Int):Z0:=w.heap.P.getD (Z2 w.heap.C x).1.toNat X
structure Rt (w:Z6):Prop where
 q:∀x∈w.Q,((Az w x).K=1\/(Az w x).K=2)/\(Az w x).S=1-w.heap.S
 t:∀x∈w.old,(ZD (Z1 w.heap.W x).1).2=Y->(ZD (Z1 w.heap.W x).1).1∈w.Q
theorem Pk{a:Int}(h0:0<=a)(h1:a<4294967296):ZD (4*a+2)=(a,Y):=by
 have e:(4*a+2)/4=a:=by omega
 rw[ZD,if_pos oq,e]
def Rt.copy{B w}(k:B8 w)(h:Bv w)(hT:Tab B w)(hR:Rt w){r n:Int}(hr:r∈w.old)(hq:r∉w.Q)(hn:n=Zk w.heap.W r+1)(hp:n<=w.heap.C.pw)(hc:(w.place n).2.2=Y):Rt ((w.place n).1.copy r (w.place n).2.1 n):=by
 have a9:=Bo w.heap.W r;obtain⟨i,p,t,l,h2,h3,h4,h5,h6,h7,h8,e⟩:=P4 k ⟨by omega,hp⟩ hc;have a4:p.S=1-w.heap.S:=by
  by_cases f:Eb w n;have e7:w.place n=(⟨⟨w.heap.C,w.heap.W,Cs w.heap.P (ZG w).toNat n,w.heap.S,w.heap.B⟩,w.old,w.T,w.Q,w.D,w.rep⟩,4096+ZG w*w.heap.C.pw+(w.heap.P.getD (ZG w).toNat X).U,Y):=by rw[Z6.place,if_pos f]
  unfold Eb at f;have hm:=k.tk _ (H1 f.1);have m:=hT.tk _ (H1 f.1);have hi:(ZG w).toNat<w.heap.P.length:=by omega
  rw[e7]at e;simp only[RY,Z6.mk.injEq,Heap.mk.injEq]at e;have s:=e.1.2.2.1;have v:(w.heap.P.set i p).getD i X=p:=by rw[Cl l,if_pos rfl]
  rw[<-s,Cl hi]at v;split at v;rw[<-v];exact m;rename_i d;have g2:(w.heap.P.set i p).getD (ZG w).toNat X=w.heap.P.getD (ZG w).toNat X:=by rw[Cl l,if_neg (λq=>d q.symm)]
  rw[<-s,Cl hi,if_pos rfl]at g2;have:=congrArg Z0.U g2;simp only at this;omega;by_cases hg:0<=ZQ w;have e7:w.place n=(⟨⟨w.heap.C,w.heap.W,Cs (EU w) (ZQ w).toNat n,w.heap.S,w.heap.B⟩,w.old,w.T++[ZQ w],w.Q,w.D,w.rep⟩,4096+ZQ w*w.heap.C.pw,Y):=by rw[Z6.place,if_neg f,if_pos hg]
  obtain⟨v,g2,g3⟩:=SN (h:=⟨w.heap.C,w.heap.W,w.heap.P,1-w.heap.S,w.heap.B⟩) (by have:=k.sp;simp only;omega) hg n;have a2:Cs (EU w) (ZQ w).toNat n=w.heap.P.set (ZQ w).toNat ⟨1,1-w.heap.S,n,0⟩:=v;have y:(w.heap.P.getD (ZQ w).toNat X).K=0:=g2;have z:(ZQ w).toNat<w.heap.P.length:=g3;rw[e7,a2]at e;simp only[Z6.mk.injEq,Heap.mk.injEq]at e;have s:=e.1.2.2.1;have k1:(w.heap.P.set i p).getD i X=p:=by rw[Cl l,if_pos rfl]
  rw[<-s,Cl z]at k1;split at k1;rw[<-k1];rename_i d;have k2:(w.heap.P.set i p).getD (ZQ w).toNat X=w.heap.P.getD (ZQ w).toNat X:=by rw[Cl l,if_neg (λq=>d q.symm)]
  rw[<-s,Cl z,if_pos rfl]at k2;rw[<-k2]at y;simp at y;rw[Z6.place,if_neg f,if_neg hg]at hc;simp at hc
 have hb:=BG.1 k.C;have b1:=k.pl;have hL:=h.L;have a8:(i:Int)*w.heap.C.pw+w.heap.C.pw<=w.heap.C.pw*w.heap.C.pg:=by(have:=EJ (i:=i) (j:=w.heap.C.pg) (pw:=w.heap.C.pw) oq oq;rw[LK w.heap.C.pw];exact this)
 have a7:0<=(i:Int)*w.heap.C.pw:=LN oq oq;have a5:=HN k.C;rw[e,h8];generalize hu:BZ (w.heap.P.getD i X)=u at *;have a3:(Z2 w.heap.C (4096+(i:Int)*w.heap.C.pw+u)).1.toNat=i:=by(have:=DY (c:=w.heap.C) (i:=i) (o:=u) k.C oq oq;rw[show 4096+(i:Int)*w.heap.C.pw+u=4096+((i:Int)*w.heap.C.pw+u) by omega,this];simp)
 generalize ha:4096+(i:Int)*w.heap.C.pw+u=at' at *;have b2:=h.r r (Lh _ hr);have f:=h.f i l (by rcases h2 with h2|h2;exact La h2;exact Lb h2.1);rw[hu]at f;obtain⟨m1,m2,m3⟩:=Sj (ws:=w.heap.W) (a:=at') (b:=r) (n:=n) oq oq oq;have a0:4096<=r/\r<4096+(moveA w.heap.W at' r n).1.length:=by omega
 refine⟨?_, ?_⟩;intro x g;simp only[Z6.copy,Ld,Lf]at g;simp only[Az,Z6.copy];rw[Cl l];split;exact⟨La h3,a4⟩;rename_i d;rcases g with g|rfl;exact hR.q x g;exact absurd a3.symm d;intro x g m;simp only[Z6.copy]at g m⊢;by_cases a1:x=r;subst a1;rw[Rl a0]at m⊢;simp only;rw[Pk oq oq];simp;have a6:=f x (Lh _ g);have b0:=Bo w.heap.W x;have el:Z1 (BL (moveA w.heap.W at' r n).1 r (4*at'+2)).1 x=Z1 w.heap.W x:=by rw[Gi a0 a1,m3 x oq]
 rw[el]at m⊢;exact Lh _ (hR.t x g m)
structure PR (B:Int) (w:Z6):Prop where
 tab:Tab B w
 rt:Rt w
def NV(w:Z6)(x:Int):Prop:=x=0\/x∈w.Q
def Z4m{B} w r(f:PR B w)(e:(w.fwd r).2.2=0):NV (w.fwd r).1 (w.fwd r).2.1:=by unfold Z6.fwd at e⊢;split at e;rename_i c1;rw[if_pos c1];exact c1;rename_i c1;rw[if_neg c1];split at e;simp at e;rename_i c2;rw[if_neg c2];have a:r∈w.old:=Lp.1 c2;split at e;rename_i c3;rw[if_pos c3];exact Lb (f.rt.t r a c3);rename_i c3;rw[if_neg c3];split at e;simp at e;rename_i c4;rw[if_neg c4];split at e;rename_i b;rw[if_pos b];exact Lb (Ls _ pq);rename_i b;rw[if_neg b];split at e;rename_i c;rw[if_pos c];exact Lb (Ls _ pq);rename_i c;rw[if_neg c];split at e;simp at e;rename_i d;rw[if_neg d];exact Lb (Ls _ pq)
def PR.fwd{B:Int}(hB:0<=B) w r(hw:B8 w)(hi:Bv w)(h:PR B w)(e:(w.fwd r).2.2=0):PR B (w.fwd r).1:=by
 refine⟨h.tab.fwd hB w r hw hi e, ?_⟩;have hR:=h.rt;have hsp:=hw.sp;unfold Z6.fwd at e⊢;split at e;rename_i c1;rw[if_pos c1];exact hR;rename_i c1;rw[if_neg c1];have c1':r∉w.Q:=λh=>c1 (Lb h);split at e;simp at e;rename_i c2;rw[if_neg c2];have c2':r∈w.old:=Lp.1 c2;split at e;rename_i c3;rw[if_pos c3];exact hR;rename_i c3;rw[if_neg c3];split at e;simp at e;rename_i c4;rw[if_neg c4];have o:=GM hw.C (Lp.1 c4);have hpl:=hw.pl;split at e;rename_i c5;rw[if_pos c5];simp only[ZI,decide_eq_true_eq]at c5;have ok:=h.tab.pt.b (Z2 w.heap.C r).1.toNat oq;have oks:=ok.s;refine⟨?_,λx hx ht=>Lh _ (hR.t x hx ht)⟩;intro x hx;simp only[Z6.keep,Ld,Lf]at hx;rcases hx with hx|rfl;exact hR.q x hx;refine⟨La c5.2.2.1, ?_⟩;simp only[Az,Z6.keep];omega;rename_i c5;rw[if_neg c5];split at e;rename_i c6;rw[if_pos c6];refine⟨?_,λx hx ht=>Lh _ (hR.t x hx ht)⟩;have hlr:(Z2 w.heap.C r).1.toNat<w.heap.P.length:=by omega
 intro x hx;simp only[Z6.keep,Ld,Lf]at hx;have hxl:(Z2 w.heap.C x).1.toNat<w.heap.P.length:=by(rcases hx with hx|rfl;by_cases q:(Z2 w.heap.C x).1.toNat<w.heap.P.length;exact q;have:=(hR.q x hx).1;rw[Az,Lg,List.getElem?_eq_none oq]at this;simp only[Option.getD_none]at this;have d:(X:Z0).K=0:=rfl;omega;exact hlr)
 simp only[Az,Z6.keep,Z6.flip];rw[HB hxl];split;refine⟨?_,rfl⟩;rcases hx with hx|rfl;exact(hR.q x hx).1;exact Lb c6;rename_i hne;rcases hx with hx|rfl;exact hR.q x hx;exact absurd ⟨Le _,Nat.le_add_right _ _⟩ hne;rename_i c6;rw[if_neg c6];split at e;simp at e;rename_i c7;rw[if_neg c7];have c7':(w.place (Z5 (Zv w r))).2.2=Y:=by simpa using c7
 have hz:=hi.z r c2';have hp:Z5 (Zv w r)<=w.heap.C.pw:=by(rw[GH];rcases hz with hz|hz;exact absurd hz c6;exact hz)
 exact hR.copy hw hi h.tab c2' c1' (GH w r) hp c7'
def PR.in1{B:Int}(m:0<=B) w(q j:Int)(i:B8 w)(hi:Bv w)(h:PR B w)(g:q∈w.Q)(h0:0<=j)(h1:j<Zk w.heap.W q)(e:(w.fwd (Z1 w.heap.W (q+1+j)).1).2.2=0):PR B (w.in1 (q+1+j)):=by
 have b:=PR.fwd m w _ i hi h e;obtain⟨k,l⟩:=N6 i hi _ e;have a:=l.q q g;have n:=l.l q g;have hr:=k.r q (Ls _ a);have o:=k.s q (Ls _ a);have c:4096<=q+1+j/\q+1+j<4096+(w.fwd (Z1 w.heap.W (q+1+j)).1).1.heap.W.length:=by omega
 refine⟨b.tab.withWords _,b.rt.q,λx f d=>?_⟩;have el:Z1 (BL (w.fwd (Z1 w.heap.W (q+1+j)).1).1.heap.W (q+1+j) (w.fwd (Z1 w.heap.W (q+1+j)).1).2.1).1 x=Z1 (w.fwd (Z1 w.heap.W (q+1+j)).1).1.heap.W x:=by(refine Gi c λhc=>?_;have:=o x (Lh _ f) oq;omega)
 simp only[Z6.in1]at f d⊢;rw[el]at d⊢;exact b.rt.t x f d
def Z0P{h:Heap}(f:Z8 h=Y):Rt (Zo h):=by refine⟨by simp[Zo],λx d a=>?_⟩;exfalso;simp only[Zo]at d a;obtain⟨j,j1,o⟩:=(Z7x f).1 x d;have e:=o.at';have k:=TU e;unfold Z9 at e;rw[if_pos k.1,if_pos k.2.1]at e;split at e;rename_i g;have b:=g.2.2;unfold Z7 at b;split at b;rename_i c;have c1:=c.1;have c2:=c.2;unfold Zt at c1 c2;split at c2;unfold ZD at a;split at a;simp only at c2;omega;simp at a;rename_i hv;rw[if_neg hv]at c1;simp at c1;simp at b;simp at e
def Z1l{B:Int}(c:0<=B){h:Heap}{s}(a:Zy h.W)(b:Z8 h=Y)(i:∀p∈h.P,p.N<=B)(e:(rootsF (Zo h) s).2.2=0)(d:(Bu (rootsF (Zo h) s).1).2=0):PR B (ZF h s):=
 TG (PR B) (λw r a hi h e=>PR.fwd c w r a hi h e) (λw q j a hi h k f g e=>PR.in1 c w q j a hi h k f g e) (λw n h=>⟨⟨h.tab.pt,h.tab.tk,h.tab.pin⟩,h.rt.q,h.rt.t⟩) a b ⟨Oh b i,Z0P b⟩ e d
def Z8N{B:Int}(c:0<=B){w roots}(a:B8 w)(h:Bv w)(f:PR B w):∀k,(∀j,j<k->E0 w roots j=0)->∀x∈(rootsN w roots k).2,NV (rootsN w roots k).1 x
 |0,_,x,hx=>by simp[rootsN]at hx
 |k+1,hh,x,hx=>by
  have g:=Z8N c (roots:=roots) a h f k (λj b=>hh j oq);have ok:=(RZ (roots:=roots) a k (λj b=>hh j oq)).1;have i:=(OL (roots:=roots) a h k (λj b=>hh j oq)).1;have l:=Z1O (PR B) (λw r a hi h e=>PR.fwd c w r a hi h e) (roots:=roots) a h f k (λj b=>hh j oq);have d:=hh k oq;simp only[rootsN,Ld,Lf]at hx⊢;rcases hx with hx|rfl
  .rcases g x hx with q|q
   .exact La q
   .exact Lb ((N6 ok i _ d).2.q x q)
  .exact Z4m _ _ l d
def Z7v w t n(b:C3 w n)(c:n<=1000000)(d:Ez t)(a:t.at'<=900000):LP 54 [w.av,.pt 0 0 0] [t.b] (w.step t).av [(w.stepT t).b]:=
 Zgn w t n b c d a
structure E9 (n:Int) (t u:Tape):Prop where
 l:u.l=t.l
 lo:t.at'<=u.at'
 hi:u.at'<=t.at'+n
def E9.step t n:E9 1 t (t.step n):=by have:=Nu (t:=t) n;exact⟨this.2.2,this.1,this.2.1⟩
def E9.trans{m n t u v}(a:E9 m t u)(b:E9 n u v):E9 (m+n) t v:=
 ⟨b.l.trans a.l,by have:=a.lo;have:=b.lo;omega,by have:=a.hi;have:=b.hi;omega⟩
def E9.mono{m n:Int}{t u}(h:E9 m t u)(a:m<=n):E9 n t u:=⟨h.l,h.lo,by have:=h.hi;omega⟩
def Zh1 t c:E9 10 t (t.headerT c):=by
 have a:E9 4 t (Ge t c):=by(unfold Ge;split;exact(((E9.step t _).trans (E9.step _ 12)).trans (E9.step _ _)).mono dd;exact((E9.step t _).trans (E9.step _ 12)).mono dd)
 unfold Tape.headerT;repeat' split
 exact(a.trans (E9.step _ 4)).mono dd;exact(a.trans (E9.step _ 4)).mono dd;exact((a.trans (E9.step _ 4)).trans (E9.step _ _)).mono dd
def Zfb(w:Zj) t:E9 10 t (w.linkT t):=by have a:E9 1 t (w.pickT t):=E9.step _ _;have b:E9 1 (w.pickT t) (w.pickT (w.pickT t)):=E9.step _ _;unfold Zj.linkT;split;exact((((a.trans b).trans (E9.step _ 8))).trans (E9.step _ _)).mono dd;exact((a.trans b).trans (E9.step _ 8)).mono dd
def ZkM(w:Zj) t:(w.stepT t).l=t.l/\t.at'+1<=(w.stepT t).at'/\(w.stepT t).at'<=t.at'+20:=by
 have e:(t.step 12).at'=t.at'+1/\(t.step 12).l=t.l:=by simp[Tape.step]
 have d:E9 10 (t.step 12) (w.stepT t):=by
  unfold Zj.stepT;repeat' split
  exact Zh1 _ _;exact Zfb _ _;unfold Zj.pinT;split;exact((E9.step _ _).trans (E9.step _ 2)).mono dd;exact(E9.step _ _).mono dd;unfold Zj.dropT;split;exact((E9.step _ _).trans (E9.step _ 3)).mono dd;exact⟨rfl,by omega,by omega⟩;exact⟨rfl,by omega,by omega⟩;exact(E9.step _ _).mono dd
 have a:=d.l;have b:=d.lo;have c:=d.hi;exact⟨a.trans e.2,by omega,by omega⟩
def G9(w:Zj)(t:Tape):Nat->Zj×Tape|0=>(w,t)|k+1=>((G9 w t k).1.step (G9 w t k).2,(G9 w t k).1.stepT (G9 w t k).2)
def mkB(w:Zj)(t:Tape)(k:Nat):Bool:=O (((G9 w t k).2.l.length:Int)<=(G9 w t k).2.at')
def mkN(w:Zj)(t:Tape):Nat:=((Lo (2+t.l.length)).find? (mkB w t)).getD 0
def Ae(w:Zj)(t:Tape):Zj:=(G9 w t (mkN w t)).1
def Pq w t:∀k:Nat,(G9 w t k).2.l=t.l/\t.at'+k<=(G9 w t k).2.at'/\(G9 w t k).2.at'<=t.at'+20*k
 |0=>by simp[G9]
 |k+1=>by
  have a:=Pq w t k;have:=ZkM (G9 w t k).1 (G9 w t k).2;refine⟨this.1.trans a.1, ?_, ?_⟩
  .simp only[G9];omega
  .simp only[G9];omega
def D8{w n}(h:C3 w n) t:∀k,n+k<=1000000->C3 (G9 w t k).1 (n+k)|0,_=>h|k+1,hk=>(D8 h t k oq).step oq _
def Mv w(t:Tape)(ht:0<=t.at'):mkB w t (mkN w t)=Y/\(∀j,j<mkN w t->mkB w t j=M)/\mkN w t<=t.l.length+1:=by
 cases hb:(Lo (2+t.l.length)).find? (mkB w t)with
 |none =>exfalso;have:=Lj.1 hb t.l.length (Li.2 oq);have u:=Pq w t t.l.length;simp only[mkB,decide_eq_true_eq,u.1]at this;omega
 |some k =>
  obtain⟨b,a,c⟩:=Ly.1 hb;have a:=Li.1 a;have e:mkN w t=k:=by rw[mkN,hb];rfl
  rw[e];exact⟨b,λj d=>by simpa using c j d,by omega⟩
def PU(w:Zj)(t:Tape):Tg:=⟨tm 22 [(2,.pt 8002 0 0),(3,.pt 32012 0 0),(4,.pt 40004 0 0)],[(40004,.box 30 w.cells),(32012,t.b),(8002,.box 30 [int 0,int 0,.d (.sl 0 []),.d (.sl 0 []),int 0,int 0,.d (.sl 0 []),.d (.sl 0 [])])],60⟩
def Zel w t n(hm:C3 w n)(hn:n<=1000000)(ht:Ez t)(ha:t.at'<=900000)(hd:t.at'<t.l.length):CP (Zm f15 0) (PU w t).st .nrm (PU (w.step t) (w.stepT t)).st:=by exact sF [] [] (Fbq 16 [32012] (@Po t aa) (Ftb 17 (!decide ((t.l.length:Int)<=t.at')) (Fbr 20 [32012] (@Z7v w t n aa aa aa aa) Fz)))
def ZkQ w t(ht:Ez t)(hd:¬ t.at'<t.l.length):CP (Zm f15 0) (PU w t).st (.ext 0) (Tg.st ⟨tm 22 [(2,.pt 8002 0 0),(4,.pt 40004 0 0)],[(40004,.box 30 w.cells),(8002,.box 30 [int 0,int 0,.d (.sl 0 []),.d (.sl 0 []),int 0,int 0,.d (.sl 0 []),.d (.sl 0 [])])],60⟩):=by exact sF [] [] (Fbq 16 [32012] (@Po t aa) (Ffb 17 (!decide ((t.l.length:Int)<=t.at')) Fz))
def ZdQ w(t:Tape)(f:C3 w 0)(hl:t.l.length<=300)(e:0<=t.at')(h1:t.at'<=1000):CP (Zi f15 0) (Tg.st ⟨tm 22 [(2,.pt 8002 0 0),(3,.pt 32012 0 0),(4,.pt 40004 0 0)],[(40004,.box 30 w.cells),(32012,t.b),(8002,.box 30 [int 0,int 0,.d (.sl 0 []),.d (.sl 0 []),int 0,int 0,.d (.sl 0 []),.d (.sl 0 [])])],60⟩) .nrm (Tg.st ⟨tm 22 [(2,.pt 8002 0 0),(4,.pt 40004 0 0)],[(40004,.box 30 (Ae w t).cells),(8002,.box 30 [int 0,int 0,.d (.sl 0 []),.d (.sl 0 []),int 0,int 0,.d (.sl 0 []),.d (.sl 0 [])])],60⟩):=by
 have d:=Mv w t e;have a:∀k,k<=mkN w t->Ez (G9 w t k).2/\(G9 w t k).2.at'<=900000:=λk b=>by(have u:=Pq w t k;refine⟨?_,by omega⟩;unfold Ez;rw[u.1];omega)
 refine Bs (S:=λk=>(PU (G9 w t k).1 (G9 w t k).2).st) (mkN w t) kr (λk b=>?_) ?_;have c:=d.2.1 k b;simp only[mkB,decide_eq_false_iff_not]at c;have m:=D8 f t k oq;exact Zel _ _ (0+k) m oq (a k oq).1 (a k oq).2 oq;have c:=d.1;simp only[mkB,decide_eq_true_eq]at c;exact ZkQ _ _ (a _ (Le _)).1 oq
def PZ(w:Zj)(t:Tape):Tg:=⟨tm 22 [(2,.pt 8002 0 0),(3,.pt 24012 0 0),(4,.pt 32004 0 0)],[(32004,.box 30 w.cells),(24012,t.b),(8002,.box 30 [int 0,int 0,.d (.sl 0 []),.d (.sl 0 []),int 0,int 0,.d (.sl 0 []),.d (.sl 0 [])])],60⟩
def Zib w t n(hm:C3 w n)(hn:n<=1000000)(ht:Ez t)(ha:t.at'<=900000)(hd:t.at'<t.l.length):CP (Zm f15 0) (PZ w t).st .nrm (PZ (w.step t) (w.stepT t)).st:=by exact sF [] [] (Fbq 16 [24012] (@Po t aa) (Ftb 17 (!decide ((t.l.length:Int)<=t.at')) (Fbr 20 [24012] (@Z7v w t n aa aa aa aa) Fz)))
def Z9R w t(ht:Ez t)(hd:¬ t.at'<t.l.length):CP (Zm f15 0) (PZ w t).st (.ext 0) (Tg.st ⟨tm 22 [(2,.pt 8002 0 0),(4,.pt 32004 0 0)],[(32004,.box 30 w.cells),(8002,.box 30 [int 0,int 0,.d (.sl 0 []),.d (.sl 0 []),int 0,int 0,.d (.sl 0 []),.d (.sl 0 [])])],60⟩):=by exact sF [] [] (Fbq 16 [24012] (@Po t aa) (Ffb 17 (!decide ((t.l.length:Int)<=t.at')) Fz))
def ZeN w(t:Tape)(f:C3 w 0)(hl:t.l.length<=300)(e:0<=t.at')(h1:t.at'<=1000):CP (Zi f15 0) (Tg.st ⟨tm 22 [(2,.pt 8002 0 0),(3,.pt 24012 0 0),(4,.pt 32004 0 0)],[(32004,.box 30 w.cells),(24012,t.b),(8002,.box 30 [int 0,int 0,.d (.sl 0 []),.d (.sl 0 []),int 0,int 0,.d (.sl 0 []),.d (.sl 0 [])])],60⟩) .nrm (Tg.st ⟨tm 22 [(2,.pt 8002 0 0),(4,.pt 32004 0 0)],[(32004,.box 30 (Ae w t).cells),(8002,.box 30 [int 0,int 0,.d (.sl 0 []),.d (.sl 0 []),int 0,int 0,.d (.sl 0 []),.d (.sl 0 [])])],60⟩):=by
 have d:=Mv w t e;have a:∀k,k<=mkN w t->Ez (G9 w t k).2/\(G9 w t k).2.at'<=900000:=λk b=>by(have u:=Pq w t k;refine⟨?_,by omega⟩;unfold Ez;rw[u.1];omega)
 refine Bs (S:=λk=>(PZ (G9 w t k).1 (G9 w t k).2).st) (mkN w t) kr (λk b=>?_) ?_;have c:=d.2.1 k b;simp only[mkB,decide_eq_false_iff_not]at c;have m:=D8 f t k oq;exact Zib _ _ (0+k) m oq (a k oq).1 (a k oq).2 oq;have c:=d.1;simp only[mkB,decide_eq_true_eq]at c;exact Z9R _ _ (a _ (Le _)).1 oq
def EL(l:List Int):Tape:=⟨l.take 300,0⟩
def ZA(l:List Int):Zj:=Ae (EL l).empty (((EL l).step 4).step 5)
def Py(t:Tape):C3 t.empty 0:=by
 have hv:=Z0p t;have hb:=BG.1 hv;refine⟨?_,hv, ?_, ?_, ?_, ?_, ?_, ?_,by simp[Tape.empty],by simp[Tape.empty]⟩;intro x b;simp only[Tape.empty,Ia,LG]at b;omega;simp only[Tape.empty,Ia,Lr];omega;have:=HN hv;simp only[Tape.empty,Ia,Lr];omega;intro j a;simp only[Tape.empty,Ia,Lr]at a⊢;have:(Lc t.C.pg.toNat (⟨0,0,0,0⟩:Z0)).getD j X=⟨0,0,0,0⟩:=by simp[Lg,a]
 rw[this];simp;intro j a;simp only[Tape.empty,Ia,Lr]at a⊢;have:(Lc t.C.pg.toNat (⟨0,0,0,0⟩:Z0)).getD j X=⟨0,0,0,0⟩:=by simp[Lg,a]
 rw[this];simp;intro x b;simp[Tape.empty]at b;intro x b;simp[Tape.empty]at b
def OV l:(((EL l).step 4).step 5).l=l.take 300/\(((EL l).step 4).step 5).at'=2:=by simp[EL,Tape.step]
def M8 l:C3 (ZA l) 1000:=by
 have e:=OV l;have hl:(((EL l).step 4).step 5).l.length<=300:=by rw[e.1];simp;omega
 have hk:=Mv (EL l).empty (((EL l).step 4).step 5) oq;have m:=D8 (Py (EL l)) (((EL l).step 4).step 5) (mkN (EL l).empty (((EL l).step 4).step 5)) oq;have c:∀(w:Zj) (a b:Nat),C3 w a->a<=b->C3 w b:=λw a b h d =>
  ⟨h.W,h.hv,h.pl,h.L,λj f=>by have:=h.N j f;omega,h.us,h.G,h.E,by have:=h.sl;omega,by have:=h.wl;omega⟩
 exact c _ _ _ m oq
def Z70(l:List Int)(hl:l.length<=140737488355328):GP 15 [ZE l] M (ZA l).av []:=by
 have e:=OV l;have d:=Py (EL l);have b:(((EL l).step 4).step 5).l.length<=300:=by rw[e.1];simp;omega
 have c:=e.2;by_cases h:300<l.length;have f:Ez ⟨Ln (Ll 300) l,0⟩:=by simp[Ez];omega
 have a:EL l=⟨Ln (Ll 300) l,0⟩:=rfl;unfold ZA;rw[a]at d b c⊢;exact gF [] func15 [] (Fh 9 [.els (Z idv (Ln (Ll 300) l))] (Fl 6 idv l (Ftb 7 (O (300<(l.length:Int))) (Fa (by(simp only[Lm];omega):(0:Int)<=(300:Int)/\300<=(↑(Z idv l).length:Int)) (Fa (ms:Ln (Ll 300) (Z idv l)=Z idv (Ln (Ll 300) l)) (Fbr 14 [32012] (@Z7O (Tape.mk (Ln (Ll 300) l) 0) aa (by(simp only[bs];omega))) (Fu (@ZdQ ((Tape.mk (Ln (Ll 300) l) 0).empty) (((Tape.mk (Ln (Ll 300) l) 0).step 4).step 5) aa aa oq oq) Fz)))))));have f:Ez ⟨l,0⟩:=by simp[Ez];omega
 have a:EL l=⟨l,0⟩:=by rw[EL,List.take_of_length_le oq]
 unfold ZA;rw[a]at d b c⊢;exact gF [] func15 [] (Fl 6 idv l (Ffb 7 (O (300<(l.length:Int))) (Fbr 14 [24012] (@Z7O (Tape.mk l 0) aa (by(simp only[bs];omega))) (Fu (@ZeN ((Tape.mk l 0).empty) (((Tape.mk l 0).step 4).step 5) aa aa oq oq) Fz))))
def R8(h:Heap)(r:Int):Prop:=(Z2 h.C r).2.2=0->(h.P.getD (Z2 h.C r).1.toNat X).K=1\/(h.P.getD (Z2 h.C r).1.toNat X).K=2
structure POk (w:Zj):Prop where
 p:Z8 w.heap=Y
 s:∀r∈w.G,R8 w.heap r
 k:∀r∈w.E,R8 w.heap r
theorem Z47(h:Heap):R8 h 0:=by intro e;grind[Z2]
def R8.mono{h h':Heap}{r}(b:R8 h r)(a:h'.C=h.C)(hk:∀j:Nat,(h.P.getD j X).K≠0->(h'.P.getD j X).K=(h.P.getD j X).K):R8 h' r:=by intro e;rw[a]at e⊢;have q:=b e;grind
def Ziw{c}{a:Zw}(h:EY c a=Y)(hv:Zr c=Y)(g:¬ 0<need c (Z5 a)):Z5 a<=c.pw:=by
 obtain⟨a1,a2,a3,d,a5⟩:=D9 h;have hb:=BG.1 hv;unfold need at g d;split at d;rename_i i;rw[if_pos i]at g;split at d;omega;rename_i f;rw[if_neg f]at g;have e:=LL (Z5 a+c.pw-1) c.pw;have j:(Z5 a+c.pw-1)/c.pw=0:=by omega
 rw[j]at e;have:=Lv (Z5 a+c.pw-1) (b:=c.pw) oq;omega;omega
def PT.setPins{c l}(h:PT c l){i:Nat}(hi:i<l.length)(hk:(l.getD i X).K=1\/(l.getD i X).K=2){n:Int}(k:0<=n/\n<=2147483647):PT c (l.set i ⟨(l.getD i X).K,(l.getD i X).S,(l.getD i X).U,n⟩):=by
 have e:∀j,((l.set i ⟨(l.getD i X).K,(l.getD i X).S,(l.getD i X).U,n⟩).getD j X).K=(l.getD j X).K/\((l.set i ⟨(l.getD i X).K,(l.getD i X).S,(l.getD i X).U,n⟩).getD j X).S=(l.getD j X).S/\((l.set i ⟨(l.getD i X).K,(l.getD i X).S,(l.getD i X).U,n⟩).getD j X).U=(l.getD j X).U:=by grind
 refine⟨?_, ?_, ?_⟩;intro j d;rw[Lk]at d;rw[Cl hi];split;have b:=h.b i hi;exact⟨b.s,k,b.k,λq=>by grind,b.k1,λq=>by grind⟩;exact h.b j d;intro j d f;rw[Lk]at d;rw[(e j).1]at f;rw[(e j).2.2,(e j).2.1];have q:=h.lg j d f;grind;intro j d g;rw[Lk]at d;rw[(e j).1]at g;obtain⟨a,a1,a2,a3⟩:=h.tl j d g;grind
def Z7J{w n}(h:POk w)(f:C3 w n)(hn:n<=1000000){i:Nat}(hi:i<w.heap.P.length)(e:(w.heap.P.getD i X).K=1\/(w.heap.P.getD i X).K=2){d:Int}(hd:d=1\/(d=-1/\0<(w.heap.P.getD i X).N)):POk (pinB w i d):=by
 have hp:=f.N i hi;have b:∀j:Nat,((pinB w i d).heap.P.getD j X).K=(w.heap.P.getD j X).K:=by grind[pinB]
 have c:=h.p;rw[GK]at c;obtain⟨p1,p2,p3,p4,p5,g⟩:=c;refine⟨?_,λr a=>(h.s r a).mono rfl (λj _=>b j),λr a=>(h.k r a).mono rfl (λj _=>b j)⟩;rw[GK];refine⟨p1,p2,by grind[pinB],p4, ?_,g.setPins hi e oq⟩;grind[pinB]
def Z8u(w:Zj)(t:Tape):w.pick t=0\/w.pick t∈w.G\/w.pick t∈w.E:=by have hn:=GB t (n:=(w.refs.length:Int)) (by grind[Zj.refs]);have:w.pick t∈w.refs:=Be.2 ⟨_,by omega,rfl⟩;grind[Zj.refs]
def POk.pick{w}(h:POk w) t:R8 w.heap (w.pick t):=by rcases Z8u w t with e|e|e;grind[Z47];exact h.s _ e;exact h.k _ e
def POk.pin{w n}(h:POk w)(a:C3 w n)(c:n<=1000000) t:POk (w.pin t):=by
 unfold Zj.pin;split;rename_i e;have o:=GM a.hv e;have f:=a.pl;have hi:Ii w t<w.heap.P.length:=by grind[Ii]
 have b:=h.pick t e;split;rename_i d;exact Z7J h a c hi b (Lb ⟨rfl,d.1⟩);split;exact Z7J h a c hi b (La rfl);exact h;exact h
def Zac(t:Tape):POk t.empty:=by
 refine⟨?_,by simp[Tape.empty],by simp[Tape.empty]⟩;have hv:=Z0p t;have hb:=BG.1 hv;have ha:=HN hv;rw[GK];have b:∀j,j<t.C.pg.toNat->(Lc t.C.pg.toNat (⟨0,0,0,0⟩:Z0)).getD j X=⟨0,0,0,0⟩:=λj a=>by grind
 refine⟨hv,by grind[Tape.empty,Ia],by grind[Tape.empty,Ia],La rfl,La rfl, ?_⟩;simp only[Tape.empty,Ia];refine⟨λj a=>?_,λj a c=>?_,λj a c=>?_⟩;rw[Lr]at a;rw[b j a];exact⟨by simp,by simp,by simp,by simp,by simp,by simp⟩;all_goals grind
def B2(ws:List Int)(a:Int):Zw:=(Z7 (Z1 ws a).1).1
def EX(ws:List Int)(a:Int):Prop:=(Z7 (Z1 ws a).1).2=Y
def Cy(ws:List Int)(a:Int):Int:=(B2 ws a).K
def EH(ws:List Int)(a:Int):Int:=if Cy ws a=0 then 1 else Zk ws a+1
def ZB(h:Heap)(i:Nat):Int:=4096+i*h.C.pw
def EE(ws:List Int):Int->Int->List Int->Prop|a,b,[]=>a=b|a,b,x::l=>x=a/\EX ws a/\EE ws (a+Zk ws a+1) b l
def NX ws a:Z5 (B2 ws a)=Zk ws a+1:=by unfold B2;rw[Z5,if_pos (Ah _)];rfl
def Z1H{ws}:∀{l:List Int} {a b:Int},EE ws a b l->a<=b
 |[],a,b,h=>by simp only[EE]at h;omega
 |x::l,a,b,h=>by
  have:=Z1H h.2.2;have:=Bo ws a;omega
def GW{ws}{x:Int}:∀{l:List Int} {a b:Int},EE ws a b l->x∈l->EX ws x/\a<=x/\x+Zk ws x<b
 |[],_,_,_,hx=>by simp at hx
 |y::l,a,b,h,hx=>by
  have hr:=Bo ws a;rcases Lt.1 hx with rfl|hx
  .have:=Z1H h.2.2;rw[h.1];exact⟨h.2.1,by omega,by omega⟩
  .have:=GW h.2.2 hx;exact⟨this.1,by omega,this.2.2⟩
def Z2k{ws}{x y:Int}:∀{l:List Int} {a b:Int},EE ws a b l->x∈l->y∈l->x<y->x+Zk ws x<y
 |[],_,_,_,hx,_,_=>by simp at hx
 |z::l,a,b,h,hx,hy,hxy=>by
  have hr:=Bo ws a;have c:=h.1;rcases Lt.1 hx with e|hx'
  .rcases Lt.1 hy with e2|hy'
   .omega
   .have:=(GW h.2.2 hy').2.1;rw[e,c];omega
  .rcases Lt.1 hy with e2|hy'
   .have:=(GW h.2.2 hx').2.1;omega
   .exact Z2k h.2.2 hx' hy' hxy
def Z3p{ws}{m:List Int}{b c}:∀{l:List Int} {a:Int},EE ws a b l->EE ws b c m->EE ws a c (l++m)|[],a,h,d=>by simp only[EE]at h;subst h;exact d|_::_,_,h,d=>⟨h.1,h.2.1,Z3p h.2.2 d⟩
def NI{ws ws'}:∀{l:List Int} {a b:Int},EE ws a b l->(∀x∈l,EX ws' x/\Zk ws' x=Zk ws x)->EE ws' a b l
 |[],_,_,h,_=>h
 |x::l,a,b,h,hh=>by
  have c:=hh x pq;have d:=h.1;subst d;refine⟨rfl,c.1, ?_⟩;rw[c.2];exact NI h.2.2 λy e=>hh y (L1 _ e)
def Z4w{ws}{c:Int}:∀{l:List Int} {a b:Int},EE ws a b l->a<=c->c<b->∃x∈l,x<=c/\c<=x+Zk ws x
 |[],a,b,h,d,h2=>by simp only[EE]at h;omega
 |x::l,a,b,h,d,h2=>by
  by_cases f:c<=a+Zk ws a
  .exact⟨a,by rw[h.1];simp,d,f⟩
  .obtain⟨y,g,e⟩:=Z4w h.2.2 (show a+Zk ws a+1<=c by omega) h2;exact⟨y,L1 _ g,e⟩
theorem Ee{ws ws' a}(h:(Z1 ws' a).1=(Z1 ws a).1):(EX ws a->EX ws' a)/\Zk ws' a=Zk ws a/\Cy ws' a=Cy ws a/\B2 ws' a=B2 ws a/\EH ws' a=EH ws a:=by
 have e:B2 ws' a=B2 ws a:=by rw[B2,B2,h]
 have b:Zk ws' a=Zk ws a:=by rw[Zk,Zk,h]
 have c:Cy ws' a=Cy ws a:=by rw[Cy,Cy,e]
 exact⟨λq=>by rw[EX,h];exact q,b,c,e,by rw[EH,EH,b,c]⟩
section
variable {h:Heap} (p:Z8 h=Y) {i:Nat} (hi:i<h.P.length) (a:(h.P.getD i X).K=1)
include p hi a
theorem at_one{x:Int}(h1:ZB h i<=x)(h2:x+Zk h.W x<ZB h i+(h.P.getD i X).U)(o:EX h.W x):Z9 h x=(B2 h.W x,0):=by
 have b:=B4 p;have pp:=Eh p hi;have r:=Bo h.W x;have e:Z2 h.C x=((i:Int),x-ZB h i,0):=by(rw[<-DY (c:=h.C) (i:=i) (o:=x-ZB h i) b.1 oq oq];congr 1;unfold ZB;omega)
 have s:Z5 (Z7 (Z1 h.W x).1).1=Zk h.W x+1:=NX h.W x;unfold Z9;rw[if_pos p,e];simp only[Lx,s,if_true];rw[if_pos ⟨.inl a,by omega,o⟩,if_neg];rfl;omega
theorem Z2n:∀(f:Nat) (o:Int) (l:List Int),EE h.W (ZB h i+o) (ZB h i+(h.P.getD i X).U) l->0<=o->(h.P.getD i X).U-o<=f->Em h i f o=some l
 |0,o,[],ht,b,hf=>rfl
 |0,o,x::l,ht,b,hf=>by
  have:=Z1H ht.2.2;have:=Bo h.W (ZB h i+o);omega
 |f+1,o,[],ht,b,hf=>by
  simp only[EE]at ht;unfold Em;rw[if_neg];show¬ o<(h.P.getD (i:Int).toNat X).U;rw[Lx];omega
 |f+1,o,x::l,ht,b,hf=>by
  have e:=ht.1;have m:=GW ht (x:=x) pq;have k:=B4 p;have pp:=Eh p hi;have hr:=Bo h.W x;have c:pg h (i:Int)=h.P.getD i X:=by simp[pg]
  have g:Bb h i o=x:=by
   unfold Bb address;rw[if_pos k.1,if_pos (HQ.2 ⟨by omega,by omega,b,by omega⟩),e];unfold ZB;simp only;omega
  have d:=ht.2.2;rw[<-e]at d;have j:=Z2n f (o+(Zk h.W x+1)) l (by rw[show ZB h i+(o+(Zk h.W x+1))=x+Zk h.W x+1 by omega];exact d) oq oq;unfold Em;rw[c,if_pos oq,g,at_one p hi a oq m.2.2 m.1];simp only[if_true];rw[if_neg oq,NX,j];rfl
theorem ZeG{l}(t:EE h.W (ZB h i) (ZB h i+(h.P.getD i X).U) l):Zd h i=(l,0):=by
 have pp:=Eh p hi;have b:pg h (i:Int)=h.P.getD i X:=by simp[pg]
 unfold Zd;rw[if_pos p,if_pos oq,b,if_neg oq,Z2n p hi a 256 0 l (by rw[LI];exact t) oq oq]
end
structure Gt (h:Heap) (T:Nat->List Int):Prop where
 p:Z8 h=Y
 t1:∀i,i<h.P.length->(h.P.getD i X).K=1->EE h.W (ZB h i) (ZB h i+(h.P.getD i X).U) (T i)
 t2:∀i,i<h.P.length->(h.P.getD i X).K=2->T i=[ZB h i]/\EX h.W (ZB h i)/\Zk h.W (ZB h i)+1=(h.P.getD i X).U
 t0:∀i x,x∈T i->i<h.P.length/\((h.P.getD i X).K=1\/(h.P.getD i X).K=2)
structure Gd (h:Heap) (T:Nat->List Int):Prop where
 p:Z8 h=Y
 sp:∀i,i<h.P.length->(h.P.getD i X).K≠0->(h.P.getD i X).S=h.S
 t1:∀i,i<h.P.length->(h.P.getD i X).K=1->EE h.W (ZB h i) (ZB h i+(h.P.getD i X).U) (T i)/\∀x∈T i,Zk h.W x+1<=Zb h.C
 t2:∀i,i<h.P.length->(h.P.getD i X).K=2->T i=[ZB h i]/\EX h.W (ZB h i)/\Zk h.W (ZB h i)+1=(h.P.getD i X).U/\Cy h.W (ZB h i)≠0
 t0:∀i x,x∈T i->i<h.P.length/\((h.P.getD i X).K=1\/(h.P.getD i X).K=2)
 d:∀a,(Z1 h.W a).1≠0->∃i x,x∈T i/\x<=a/\a<x+EH h.W x
 q:∀i x k,x∈T i->Cy h.W x≠0->0<=k->k<Zk h.W x->Bl (B2 h.W x) k=Y->(Z1 h.W (x+1+k)).1=0\/∃j,(Z1 h.W (x+1+k)).1∈T j/\Cy h.W (Z1 h.W (x+1+k)).1≠0
 cr:(crowd h.P:Int)<=h.C.pg/4
def Ob(h:Heap)(T:Nat->List Int)(x:Int):Prop:=∃j,x∈T j/\Cy h.W x≠0
section
variable {h:Heap} {T:Nat->List Int} (g:Gt h T)
include g
theorem Gt.on{i}{x:Int}(a:x∈T i):i<h.P.length/\((h.P.getD i X).K=1\/(h.P.getD i X).K=2)/\ZB h i<=x/\x<ZB h i+h.C.pw/\x+Zk h.W x<ZB h i+(h.P.getD i X).U/\EX h.W x/\((h.P.getD i X).K=2->x=ZB h i/\Zk h.W x+1=(h.P.getD i X).U):=by have t:=g.t0 i x a;have po:=B4 g.p;have pp:=Eh g.p t.1;have hr:=Bo h.W x;refine⟨t.1,t.2, ?_⟩;rcases t.2 with k|k;have m:=GW (g.t1 i t.1 k) a;exact⟨m.2.1,by omega,m.2.2,m.1,λq=>by omega⟩;have m:=g.t2 i t.1 k;rw[m.1]at a;have a:=Lf.1 a;subst a;exact⟨by omega,by omega,by omega,m.2.1,λ_=>⟨rfl,m.2.2⟩⟩
theorem Gt.ofx{i}{x:Int}(a:x∈T i):Z2 h.C x=((i:Int),x-ZB h i,0):=by have o:=g.on a;have b:=B4 g.p;have:=DY (c:=h.C) (i:=i) (o:=x-ZB h i) b.1 oq oq;rw[<-this];congr 1;unfold ZB;omega
theorem Gt.sep{i j}{x y:Int}(d:x∈T i)(e:y∈T j)(c:x<y):x+Zk h.W x<y:=by have a:=g.on d;have b:=g.on e;have r2:=Bo h.W y;have r1:=Bo h.W x;unfold ZB at a b;rcases L6 i j with q|q|q;have:=Al g.p q b.1 a.2.1 oq;omega;subst q;rcases a.2.1 with k|k;exact Z2k (g.t1 i a.1 k) d e c;have:=(a.2.2.2.2.2.2 k).1;have:=(b.2.2.2.2.2.2 k).1;omega;have:=Al g.p q a.1 b.2.1 oq;omega
theorem Gt.free{i j:Nat}{x:Int}(hi:i<h.P.length)(hk:(h.P.getD i X).K=0\/(h.P.getD i X).K=1)(b:x∈T j):x+Zk h.W x<ZB h i+BZ (h.P.getD i X)\/ZB h i+h.C.pw<=x:=by
 have o:=g.on b;have po:=B4 g.p;have pp:=Eh g.p hi;have a:0<=BZ (h.P.getD i X):=by unfold BZ;split<;>omega
 unfold ZB at o⊢;rcases L6 i j with q|q|q;have:=EJ (i:=i) (j:=j) (pw:=h.C.pw) oq oq;omega;subst q;rw[BZ,if_neg oq];omega;have:=Al g.p q hi o.2.1 oq;omega
theorem Gt.at'{i}{x:Int}(a:x∈T i):Z9 h x=(B2 h.W x,0):=by have o:=g.on a;have r:=Bo h.W x;have s:Z5 (Z7 (Z1 h.W x).1).1=Zk h.W x+1:=NX h.W x;unfold Z9;rw[if_pos g.p,g.ofx a];simp only[Lx,s,if_true];rw[if_pos ⟨o.2.1,by omega,o.2.2.2.2.2.1⟩,if_neg];rfl;have:=o.2.2.2.2.2.2;omega
theorem Gt.page{i:Nat}(hi:i<h.P.length):Zd h i=(T i,0):=by
 have pp:=Eh g.p hi;have a:pg h (i:Int)=h.P.getD i X:=by simp[pg]
 unfold Zd;rw[if_pos g.p,if_pos oq,a];by_cases e:(h.P.getD i X).K=0\/(h.P.getD i X).K=3;rw[if_pos e];have:T i=[]:=LR.2 λx b=>by have:=(g.t0 i x b).2;omega
 rw[this];rw[if_neg e];by_cases c:(h.P.getD i X).K=1;have:=Z2n g.p hi c 256 0 (T i) (by rw[LI];exact(g.t1 i hi c)) oq oq;rw[this];have d:(h.P.getD i X).K=2:=by omega
 have t:=g.t2 i hi d;have b:ZB h i∈T i:=by rw[t.1];simp
 have on:=g.on b;have j:=B4 g.p;have hr:=Bo h.W (ZB h i);have f:Bb h i 0=ZB h i:=by(unfold Bb address;rw[if_pos j.1,if_pos (HQ.2 ⟨by omega,by omega,by omega,by omega⟩)];unfold ZB;simp)
 have:Em h i 256 0=some (T i):=by(unfold Em;rw[a,if_pos oq,f,g.at' b];simp only[if_true];rw[if_pos d,t.1])
 rw[this]
theorem Gt.starts:∀(f i:Nat),i+f=h.P.length->(Cn h f i).2=0/\∀x,x∈(Cn h f i).1↔∃j,i<=j/\x∈T j
 |0,i,hf=>by
  refine⟨rfl,λx=>⟨λa=>by simp[Cn]at a, ?_⟩⟩;rintro⟨j,b,a⟩;have:=(g.t0 j x a).1;omega
 |f+1,i,hf=>by
  obtain⟨c,i2⟩:=Gt.starts f (i+1) oq;unfold Cn;rw[g.page (show i<h.P.length by omega)];simp only[c,if_true];refine⟨trivial,λx=>?_⟩;rw[Ld,i2];constructor
  .rintro(a|⟨j,b,a⟩)
   .exact⟨i,Le _,a⟩
   .exact⟨j,by omega,a⟩
  .rintro⟨j,b,a⟩;by_cases q:j=i
   .subst q;exact La a
   .exact Lb ⟨j,by omega,a⟩
theorem Gt.objs:(Zq h).2=0/\∀x,x∈(Zq h).1↔Ob h T x:=by
 have s:=g.starts h.P.length 0 oq;have e:CG h=Cn h h.P.length 0:=by rw[CG,if_pos g.p]
 unfold Zq;rw[e];refine⟨s.1,λx=>?_⟩;rw[List.mem_filter,s.2];constructor;rintro⟨⟨j,_,hj⟩,hb⟩;have hb':(Z9 h x).1.K≠0:=of_decide_eq_true hb;rw[g.at' hj]at hb';exact⟨j,hj,hb'⟩;rintro⟨j,hj,hb⟩;refine⟨⟨j,by omega,hj⟩,decide_eq_true ?_⟩;rw[g.at' hj];exact hb
end
section
variable {h:Heap} {T:Nat->List Int} (g:Gd h T)
include g
theorem Gd.gt:Gt h T:=⟨g.p,λi hi a=>(g.t1 i hi a).1,λi hi a=>⟨(g.t2 i hi a).1,(g.t2 i hi a).2.1,(g.t2 i hi a).2.2.1⟩,g.t0⟩
theorem Gd.on{i}{x:Int}(a:x∈T i):i<h.P.length/\((h.P.getD i X).K=1\/(h.P.getD i X).K=2)/\ZB h i<=x/\x<ZB h i+h.C.pw/\x+Zk h.W x<ZB h i+(h.P.getD i X).U/\EX h.W x/\((h.P.getD i X).K=2->x=ZB h i/\Zk h.W x+1=(h.P.getD i X).U):=g.gt.on a
theorem Gd.ofx{i}{x:Int}(a:x∈T i):Z2 h.C x=((i:Int),x-ZB h i,0):=g.gt.ofx a
theorem Gd.sep{i j}{x y:Int}(b:x∈T i)(c:y∈T j)(a:x<y):x+Zk h.W x<y:=g.gt.sep b c a
theorem Gd.free{i j:Nat}{x:Int}(hi:i<h.P.length)(a:(h.P.getD i X).K=0\/(h.P.getD i X).K=1)(b:x∈T j):x+Zk h.W x<ZB h i+BZ (h.P.getD i X)\/ZB h i+h.C.pw<=x:=g.gt.free hi a b
theorem Gd.at'{i}{x:Int}(a:x∈T i):Z9 h x=(B2 h.W x,0):=g.gt.at' a
theorem Gd.page{i:Nat}(hi:i<h.P.length):Zd h i=(T i,0):=g.gt.page hi
theorem Gd.objs:(Zq h).2=0/\∀x,x∈(Zq h).1↔Ob h T x:=g.gt.objs
end
def Z6d{l:List Z0}:∀{i j:Nat},j<=i->(l.getD j X).K≠3->(∀m,j<m->m<=i->(l.getD m X).K=3)->ZY l i=j
 |0,j,h,_,_=>by simp[ZY];omega
 |i+1,j,h,hk,hm=>by
  unfold ZY;by_cases q:j=i+1
  .subst q;rw[if_neg hk]
  .rw[if_pos (hm (i+1) oq (Le _))];exact Z6d oq hk λm a h2=>hm m a oq
def Z6B{ws:List Int}{a n:Int}{k:Nat}(hn:0<=n)(b:4096<=a/\a-4096+n<=ws.length)(hk:(k:Int)<n):(BY ws a n).1.getD k X=(Z1 ws (a+k)).1:=by unfold BY Z1;rw[if_neg oq,if_pos b,if_pos oq];simp only[Lg];rw[List.getElem?_take_of_lt oq,List.getElem?_drop,show(a-4096).toNat+k=(a+k-4096).toNat by omega];rfl
section
variable {h:Heap} {T:Nat->List Int} (g:Gd h T)
include g
theorem Gd.inw{i}{x:Int}(a:x∈T i):4096<=x/\x+Zk h.W x<4096+h.W.length:=by have o:=g.on a;have po:=B4 g.p;have u:=Pv g.p o.1 o.2.1;have h0:0<=(i:Int)*h.C.pw:=LN oq oq;unfold ZB at o;omega
theorem Gd.head{i j:Nat}{x a:Int}(f:x∈T j)(h1:x<=a)(h2:a<=x+Zk h.W x)(hi:i<h.P.length)(c:ZB h i<=a)(h4:a<ZB h i+h.C.pw):ZY h.P i=j:=by
 have o:=g.on f;have po:=B4 g.p;unfold ZB at o c h4;have b:j<=i:=by(by_cases q:j<=i;exact q;have:=EJ (i:=i) (j:=j) (pw:=h.C.pw) oq oq;omega)
 refine Z6d b oq λm l m2=>?_;have e:=EJ (i:=j) (j:=m) (pw:=h.C.pw) oq oq;have d:(m:Int)*h.C.pw<=i*h.C.pw:=LM oq oq;rcases o.2.1 with k|k;have pp:=Eh g.p o.1;omega;by_cases q:(h.P.getD m X).K=3;exact q;have:=Al g.p l oq (Lb k) q;omega
theorem Gd.badd{i k:Nat}(hi:i<h.P.length)(hk:(k:Int)<h.C.pw):Hw h i (CL h i) k=M:=by
 have p:=B4 g.p;unfold Hw;have f:Gs h i k=(Z1 h.W (ZB h i+k)).1:=by(unfold Gs address;rw[if_pos p.1,if_pos (HQ.2 ⟨by omega,by omega,by omega,by omega⟩)];unfold ZB;simp only;rw[LH])
 rw[f];by_cases c:(Z1 h.W (ZB h i+k)).1=0;rw[c];simp;obtain⟨j,x,a,d,l⟩:=g.d _ c;have hr:=Bo h.W x;have o:EH h.W x<=Zk h.W x+1:=by unfold EH;split<;>omega
 have n:=g.head a d oq hi oq oq;have m:(CL h i).getD k X=Y:=by
  unfold CL Cu;rw[n,g.page (g.on a).1];have b:k<h.C.pw.toNat:=by omega
  simp only[Lg,List.getElem?_map,List.getElem?_range b,Option.map_some,Option.getD_some,List.any_eq_true];refine⟨x,a, ?_⟩;unfold Dl;have e:GC h x=EH h.W x:=by(unfold GC EH;rw[g.at' a];rw[NX];rfl)
  rw[e,Lu,decide_eq_true_eq,decide_eq_true_eq];unfold ZB at d l;omega
 rw[m];simp
theorem Gd.dirt{i:Nat}(hi:i<h.P.length):Es h i (CL h i)=0:=by
 have hl:=Tt h i;unfold Es;have:(Lo (CL h i).length).find? (Hw h i (CL h i))=none:=by(rw[Lj];intro k a;have a:=Li.1 a;rw[g.badd hi oq];simp)
 rw[this]
theorem Gd.cls{i}{x:Int}(a:x∈T i):Gk h i x=M:=by
 have o:=g.on a;unfold Gk;rw[g.at' a,NX,Lx];rcases o.2.1 with k|k;have:=(g.t1 i o.1 k).2 x a;rw[k];simp;omega;have t:=g.t2 i o.1 k;have b:=(o.2.2.2.2.2.2 k).1;have:(B2 h.W x).K≠0:=by rw[b];exact t.2.2.2
 rw[k];simp;exact this
theorem Gd.pageF{i:Nat}(hi:i<h.P.length):(pageF h i).fault=0:=by
 have b:=g.sp i hi;have a:Cq h i (T i)=0:=by
  unfold Cq;have:(T i).find? (Gk h i)=none:=by(rw[Lj];intro x c;rw[g.cls c];simp)
  rw[this];rfl
 unfold Go.Proofs.YtgedmeaemofdkaaGreat.pageF;rw[if_neg (by rintro⟨d,e⟩;exact e (b d)),g.page hi,if_neg pq,if_neg (by rw[a];simp),if_neg (by rw[g.dirt hi];simp)]
theorem Gd.fields{i}{x:Int}(d:x∈T i)(a:Cy h.W x≠0):Zs h x=(B2 h.W x,0)/\((BW h x).1.length:Int)=Zk h.W x/\∀k:Nat,(k:Int)<Zk h.W x->(BW h x).1.getD k X=(Z1 h.W (x+1+k)).1:=by
 have n:=g.inw d;have r:=Bo h.W x;have c:Zs h x=(B2 h.W x,0):=by(unfold Zs;rw[if_pos g.p,if_neg oq,g.at' d,if_neg];rintro⟨_,q⟩;exact a q)
 have b:BW h x=BY h.W (x+1) (Zk h.W x):=by(unfold BW;rw[c,if_pos rfl];rfl)
 refine⟨c, ?_, ?_⟩;rw[b];unfold BY;rw[if_neg oq,if_pos oq];simp only[LX,LW];omega;intro k a;rw[b];exact Z6B r.1 oq a
theorem Gd.good:Bm h=⟨0,0,0⟩:=by
 have n:=g.objs;have o:Gv h=none:=by(unfold Gv;rw[Lj];intro i hi;have:=g.pageF (Li.1 hi);simp[this])
 have p:EG h (Zq h).1=⟨0,0,0⟩:=by
  unfold EG;have:(Lo (Zq h).1.length).find? (λi=>(HA h (Zq h).1 i).isSome)=none:=by
   rw[Lj];intro i hi;have l:(Zq h).1.getD i X∈(Zq h).1:=Be.2 ⟨i,Li.1 hi,rfl⟩;have:HA h (Zq h).1 i=none:=by
    unfold HA;generalize (Zq h).1.getD i X=x at l⊢;obtain⟨j,d,b⟩:=(n.2 x).1 l;have f:=g.fields d b;rw[Lj];intro k e;have e:=Li.1 e;have a:(k:Int)<Zk h.W x:=by omega
    unfold IW;rw[f.1,f.2.2 k a];intro c;simp only[Lu,Bool.not_eq_true',decide_eq_true_eq,decide_eq_false_iff_not]at c;rcases g.q j x k d b oq a c.1.1 with q|⟨m,r,s⟩;exact c.1.2 q;exact c.2 ((n.2 _).2 ⟨m,r,s⟩)
   rw[this];simp
  rw[this]
 unfold Bm;rw[if_pos g.p,o];simp only[p,ne_eq,not_true_eq_false,if_false];rw[if_neg];have:=g.cr;show¬ h.C.pg/4<(crowd h.P:Int);omega
theorem Gd.refers{s:List Int}(hs:∀r∈s,r=0\/Ob h T r):Bw h s=Y:=by
 unfold Bw;rw[Lu,decide_eq_true_eq];refine⟨g.good, ?_⟩;have:(Lo s.length).find? (EM s (Zq h).1)=none:=by(rw[Lj];intro i hi;have a:s.getD i X∈s:=Be.2 ⟨i,Li.1 hi,rfl⟩;unfold EM;rw[decide_eq_true_eq];rintro⟨b,c⟩;rcases hs _ a with q|q;exact b q;exact c ((g.objs.2 _).2 q))
 rw[this];rfl
end
def decode_encode{a:Zw}(hv:ZR a=Y)(e:0<=a.map/\a.map<=4294967295):Z7 (Zt a).1=(a,Y):=by
 have b:=Gl.1 hv;have c:Zt a=(1+4*a.K+16*a.length+65536*a.map,0):=by rw[Zt,if_pos hv]
 have d:ES (1+4*a.K+16*a.length+65536*a.map)=a:=by(obtain⟨k,l,m⟩:=a;simp only at b e;simp only[ES,Zw.mk.injEq];omega)
 rw[c];unfold Z7;simp only[d,c];simp
def Z5m{l a:List Z0}:∀n:Nat,(∀i,i<n->(a.getD i X).K=1->0<(a.getD i X).N->(l.getD i X).K=1/\0<(l.getD i X).N)->Bp a n<=Bp l n
 |0,_=>Le _
 |n+1,hh=>by
  have ih:=Z5m n λi hi=>hh i oq;have b:=hh n oq;unfold Bp;split
  .rename_i c;rw[if_pos (b c.1 c.2)];omega
  .split<;>omega
def Z69{l:List Z0}{i:Nat}{p:Z0}(hi:i<l.length):∀n:Nat,Bp (l.set i p) n<=Bp l n+1/\(n<=i->Bp (l.set i p) n<=Bp l n)
 |0=>⟨by simp[Bp],λ_=>Le _⟩
 |n+1=>by
  obtain⟨i1,i2⟩:=Z69 (p:=p) hi n;unfold Bp;rw[Cl hi];by_cases q:i=n
  .have:=i2 oq;subst q;refine⟨?_,λq=>by omega⟩;split<;>split<;>omega
  .rw[if_neg q];refine⟨?_,λq2=>?_⟩
   .split<;>omega
   .have:=i2 oq;split<;>omega
def ME{l a:List Z0}(hl:a.length=l.length)(b:∀i,i<l.length->(a.getD i X).K=1->0<(a.getD i X).N->(l.getD i X).K=1/\0<(l.getD i X).N):crowd a<=crowd l:=by unfold crowd;rw[hl];exact Z5m _ b
def Gd.P{h h':Heap}{T}(g:Gd h T)(j:Z8 h'=Y)(d:h'.C=h.C)(c:h'.W=h.W)(hs:h'.S=h.S)(hl:h'.P.length=h.P.length)(b:∀i,i<h.P.length->(h'.P.getD i X).K=(h.P.getD i X).K/\(h'.P.getD i X).S=(h.P.getD i X).S/\(h'.P.getD i X).U=(h.P.getD i X).U)(e:(crowd h'.P:Int)<=h.C.pg/4):Gd h' T:=by
 have f:∀i,ZB h' i=ZB h i:=λi=>by rw[ZB,ZB,d]
 refine⟨j, ?_, ?_, ?_, ?_,by rw[c];exact g.d,by rw[c];exact g.q,by rw[d];exact e⟩;intro i hi a;rw[hl]at hi;rw[(b i hi).1]at a;rw[(b i hi).2.1,hs];exact g.sp i hi a;intro i hi a;rw[hl]at hi;rw[(b i hi).1]at a;rw[(b i hi).2.2,c,f,d];exact g.t1 i hi a;intro i hi a;rw[hl]at hi;rw[(b i hi).1]at a;rw[(b i hi).2.2,c,f];exact g.t2 i hi a;intro i x k;have t:=g.t0 i x k;rw[hl,(b i t.1).1];exact t
def Gd.store{h T}(g:Gd h T){x k v:Int}(hx:Ob h T x)(hk:0<=k/\k<Zk h.W x)(hv:Bl (B2 h.W x) k=Y->v=0\/Ob h T v) :Gd {h with W:=(BL h.W (x+1+k) v).1} T/\(∀i y,y∈T i->(Z1 (BL h.W (x+1+k) v).1 y).1=(Z1 h.W y).1):=by
 obtain⟨j,p,a2⟩:=hx;have n:=g.inw p;have d:4096<=x+1+k/\x+1+k<4096+h.W.length:=by omega
 have s:=SV (ws:=h.W) (v:=v) d;have u:∀i y,y∈T i->(Z1 (BL h.W (x+1+k) v).1 y).1=(Z1 h.W y).1:=by(intro i y c;rw[Gi d];intro e;have:=g.sep p c oq;omega)
 have l:∀i y,y∈T i->EX h.W y/\EX (BL h.W (x+1+k) v).1 y/\Zk (BL h.W (x+1+k) v).1 y=Zk h.W y/\Cy (BL h.W (x+1+k) v).1 y=Cy h.W y/\B2 (BL h.W (x+1+k) v).1 y=B2 h.W y/\EH (BL h.W (x+1+k) v).1 y=EH h.W y:=by(intro i y c;have o:=Ee (u i y c);have:=(g.on c).2.2.2.2.2.1;exact⟨this,o.1 this,o.2⟩)
 refine⟨⟨?_,g.sp, ?_, ?_,g.t0, ?_, ?_,g.cr⟩,u⟩;have q:=g.p;rw[GK]at q⊢;refine⟨q.1, ?_,q.2.2.1,q.2.2.2.1,q.2.2.2.2.1,q.2.2.2.2.2⟩;simp only[s];exact q.2.1;intro i hi a0;have t:=g.t1 i hi a0;exact⟨NI t.1 λy c=>⟨(l i y c).2.1,(l i y c).2.2.1⟩,λy c=>by rw[(l i y c).2.2.1];exact t.2 y c⟩;intro i hi a1;have t:=g.t2 i hi a1;have q:=l i (ZB h i) (by rw[t.1];simp);refine⟨t.1,q.2.1, ?_, ?_⟩;exact q.2.2.1▸t.2.2.1;exact q.2.2.2.1▸t.2.2.2;intro a ha;by_cases e:a=x+1+k;refine⟨j,x,p,by omega, ?_⟩;simp only;rw[(l j x p).2.2.2.2.2,EH,if_neg a2];omega;simp only at ha;rw[Gi d e]at ha;obtain⟨i,y,c,r,h2⟩:=g.d a ha;refine⟨i,y,c,r, ?_⟩;simp only;rw[(l i y c).2.2.2.2.2];exact h2;intro i y m c f h0 r w;simp only at f r w⊢;obtain⟨c0,c1,c2,c3,c4,c5⟩:=l i y c;rw[c3]at f;rw[c2]at r;rw[c4]at w;have fin:∀z,z=0\/Ob h T z->z=0\/∃j,z∈T j/\Cy (BL h.W (x+1+k) v).1 z≠0:=by(rintro z (q|⟨b,b1,b2⟩);exact La q;exact Lb ⟨b,b1,by rw[(l b z b1).2.2.2.1];exact b2⟩)
 by_cases e:y+1+m=x+1+k;have a4:y=x:=by(rcases Int.lt_trichotomy y x with q|q|q;have:=g.sep c p q;omega;exact q;have:=g.sep p c q;omega)
 subst a4;have a3:m=k:=by omega
 subst a3;rw[Rl d];exact fin _ (hv w);rw[Gi d e];exact fin _ (g.q i y m c f h0 r w)
def Gd.add{h h':Heap}{T}(g:Gd h T){i:Nat}{a}{hd:Zw}(hv:ZR hd=Y)(hm:0<=hd.map/\hd.map<=4294967295)(hk:hd.K≠0)(hp:Z8 h'=Y)(hc:h'.C=h.C)(hs:h'.S=h.S)(hl:h'.P.length=h.P.length)(hw:h'.W=(ZT h.W a (BF hd)).1)(hin:4096<=a/\a+Z5 hd<=4096+h.W.length)(hi:i<h.P.length)(hj:∀j,j<h.P.length->j≠i->h'.P.getD j X=h.P.getD j X\/((h.P.getD j X).K=0/\(h'.P.getD j X).K=3/\(h'.P.getD j X).S=h.S))(hI:((h.P.getD i X).K=0\/(h.P.getD i X).K=1)/\(h'.P.getD i X).K=1/\a=ZB h i+BZ (h.P.getD i X)/\(h'.P.getD i X).U=BZ (h.P.getD i X)+Z5 hd/\Z5 hd<=Zb h.C\/(h.P.getD i X).K=0/\(h'.P.getD i X).K=2/\a=ZB h i/\(h'.P.getD i X).U=Z5 hd)(hsp:(h'.P.getD i X).S=h.S)(hcr:crowd h'.P<=crowd h.P)(hdis:∀j x,x∈T j->x+Zk h.W x<a\/a+Z5 hd<=x) :Gd h' (λj=>if j=i then T i++[a]else T j)/\Cy h'.W a≠0/\B2 h'.W a=hd/\(∀k,a<k->k<a+Z5 hd->(Z1 h'.W k).1=0)/\(∀k,k<a\/a+Z5 hd<=k->Z1 h'.W k=Z1 h.W k):=by
 have ow:=Z8b hv hm;have hs1:Z5 hd=hd.length+1:=by rw[Z5,if_pos hv]
 have vb:=Gl.1 hv;have hin':4096<=a/\a-4096+(BF hd).length<=h.W.length:=by omega
 have out:∀k,k<a\/a+Z5 hd<=k->Z1 h'.W k=Z1 h.W k:=by(intro k hk;rw[hw];exact Ar hin' oq)
 have wa:(Z1 h'.W a).1=(Zt hd).1:=by(rw[hw,SA hin' oq];simp[BF])
 have z:∀k,a<k->k<a+Z5 hd->(Z1 h'.W k).1=0:=by
  intro k h1 h2;rw[hw,SA hin' oq];have:(k-a).toNat=(k-a-1).toNat+1:=by omega
  rw[this,BF];simp[Lg,LA];split<;>rfl
 have de:=decode_encode hv hm;have ha1:B2 h'.W a=hd:=by rw[B2,wa,de]
 have ha2:EX h'.W a:=by rw[EX,wa,de]
 have ha3:Zk h'.W a=hd.length:=by rw[Zk,wa,de]
 have ha4:Cy h'.W a≠0:=by rw[Cy,ha1];exact hk
 have hb:∀j,ZB h' j=ZB h j:=λj=>by rw[ZB,ZB,hc]
 have ky:∀j x,x∈T j->EX h'.W x/\Zk h'.W x=Zk h.W x/\Cy h'.W x=Cy h.W x/\B2 h'.W x=B2 h.W x/\EH h'.W x=EH h.W x/\∀m,0<=m->m<=Zk h.W x->Z1 h'.W (x+m)=Z1 h.W (x+m):=by(intro j x hx;have d:=hdis j x hx;have r:=Bo h.W x;have o:=Ee (ws:=h.W) (ws':=h'.W) (a:=x) (by rw[out x oq]);refine⟨o.1 (g.on hx).2.2.2.2.2.1,o.2.1,o.2.2.1,o.2.2.2.1,o.2.2.2.2,λm h1 h2=>out _ oq⟩)
 have mem:∀j x,x∈(if j=i then T i++[a]else T j)->x∈T j\/(j=i/\x=a):=by(intro j x hx;split at hx;rename_i q;subst q;rcases Ld.1 hx with hx|hx;exact La hx;exact Lb ⟨rfl,Lf.1 hx⟩;exact La hx)
 have mem2:∀j x,x∈T j->x∈(if j=i then T i++[a]else T j):=by(intro j x hx;split;rename_i q;subst q;exact Lh _ hx;exact hx)
 have mem3:a∈(if i=i then T i++[a]else T i):=by simp
 have hnil:(h.P.getD i X).K=0->T i=[]:=λq=>LR.2 λx hx=>by have:=(g.t0 i x hx).2;omega
 refine⟨⟨hp, ?_, ?_, ?_, ?_, ?_, ?_, ?_⟩,ha4,ha1,z,out⟩;intro j hj1 hk1;rw[hl]at hj1;rw[hs];by_cases q:j=i;subst q;exact hsp;rcases hj j hj1 q with e|e;rw[e]at hk1⊢;exact g.sp j hj1 hk1;exact e.2.2;intro j hj1 hk1;rw[hl]at hj1;rw[hb,hc];by_cases q:j=i;subst q;simp only[if_true];rcases hI with⟨c1,c2,c3,c4,c5⟩|c;refine⟨?_, ?_⟩;have last:EE h'.W a (ZB h j+(h'.P.getD j X).U) [a]:=⟨rfl,ha2,by rw[ha3];simp only[EE];omega⟩;refine Z3p (b:=a) ?_ last;rcases c1 with c1|c1;rw[hnil c1];rw[BZ,if_pos c1]at c3;simp only[EE];omega;have t:=(g.t1 j hi c1).1;rw[BZ,if_neg oq]at c3;rw[c3];exact NI t λx hx=>⟨(ky j x hx).1,(ky j x hx).2.1⟩;intro x hx;rcases Ld.1 hx with hx|hx;rw[(ky j x hx).2.1];rcases c1 with c1|c1;rw[hnil c1]at hx;simp at hx;exact(g.t1 j hi c1).2 x hx;have:=Lf.1 hx;subst this;omega;omega;rw[if_neg q];rcases hj j hj1 q with e|e;rw[e]at hk1⊢;have t:=g.t1 j hj1 hk1;exact⟨NI t.1 λx hx=>⟨(ky j x hx).1,(ky j x hx).2.1⟩,λx hx=>by rw[(ky j x hx).2.1];exact t.2 x hx⟩;omega;intro j hj1 hk2;rw[hl]at hj1;rw[hb];by_cases q:j=i;subst q;simp only[if_true];rcases hI with c|⟨c1,c2,c3,c4⟩;omega;rw[hnil c1,<-c3,ha3];exact⟨rfl,ha2,by omega,ha4⟩;rw[if_neg q];rcases hj j hj1 q with e|e;rw[e]at hk2⊢;have t:=g.t2 j hj1 hk2;have k:=ky j (ZB h j) (by rw[t.1];simp);exact⟨t.1,k.1,by rw[k.2.1];exact t.2.2.1,by rw[k.2.2.1];exact t.2.2.2⟩;omega;intro j x hx;rw[hl];rcases mem j x hx with hx|⟨q,_⟩;have t:=g.t0 j x hx;refine⟨t.1, ?_⟩;by_cases q:j=i;subst q;rcases hI with c|c<;>omega;rcases hj j t.1 q with e|e;rw[e];exact t.2;omega;subst q;exact⟨hi,by rcases hI with c|c<;>omega⟩;intro k hk0;by_cases hr:k<a\/a+Z5 hd<=k;rw[out k hr]at hk0;obtain⟨j,x,hx,h1,h2⟩:=g.d k hk0;exact⟨j,x,mem2 j x hx,h1,by rw[(ky j x hx).2.2.2.2.1];exact h2⟩;refine⟨i,a,mem3,by omega, ?_⟩;rw[EH,if_neg ha4,ha3];omega;intro j x k hx hkd h0 h1 hpt;rcases mem j x hx with hx|⟨_,q⟩;have c:=ky j x hx;rw[c.2.2.1]at hkd;rw[c.2.1]at h1;rw[c.2.2.2.1]at hpt;have e:=c.2.2.2.2.2 (1+k) oq oq;rw[<-LH]at e;rw[e];rcases g.q j x k hx hkd h0 h1 hpt with q|⟨b,b1,b2⟩;exact La q;exact Lb ⟨b,mem2 b _ b1,by rw[(ky b _ b1).2.2.1];exact b2⟩;subst q;rw[ha3]at h1;exact La (z _ oq oq);rw[hc];have:=g.cr;omega
structure AC (h h':Heap) (T:Nat->List Int) (hd:Zw) (i:Nat) (a:Int):Prop where
 g:Gd h' (λj=>if j=i then T i++[a]else T j)
 k:Cy h'.W a≠0
 e:B2 h'.W a=hd
 z:∀k,a<k->k<a+Z5 hd->(Z1 h'.W k).1=0
 o:∀k,k<a\/a+Z5 hd<=k->Z1 h'.W k=Z1 h.W k
 d:∀j x,x∈T j->x+Zk h.W x<a\/a+Z5 hd<=x
 c:h'.C=h.C
def Zc6{c n}(g:¬ 0<need c n)(a:0<=need c n):n<=Zb c:=by
 unfold need at g a;split at a;rename_i d;rw[if_pos d]at g;have hb:=BG.1 d.1;rw[Zb,if_pos d.1,Lw oq];split at a;rename_i f;exact f;rename_i f;rw[if_neg f]at g;have e:=LL (n+c.pw-1) c.pw;have:=Lv (n+c.pw-1) (b:=c.pw) oq;have h:(n+c.pw-1)/c.pw=0:=by omega
 rw[h]at e;omega;omega
def Gd.newOk{h T}(g:Gd h T){hd:Zw}(hw:Zy h.W)(hm:0<=hd.map/\hd.map<=4294967295)(e:(ZU h hd).2.2=0):∃i,AC h (ZU h hd).1 T hd i (ZU h hd).2.1:=by
 obtain⟨k1,k2,k3,k4,k5,k6,k7,k8⟩:=Oq hw hm e;obtain⟨a1,a2,a3,a4,a5⟩:=D9 k2;have po:=B4 g.p;have hpt:=g.p;rw[GK]at hpt;obtain⟨p1,p2,p3,p4,p5,p6⟩:=hpt;have hin:4096<=(Cd h hd).2.1/\(Cd h hd).2.1+Z5 hd<=4096+h.W.length:=⟨k3.lo,k3.hi⟩;have e1:(ZU h hd).1.C=h.C:=by rw[k6];exact k3.c
 have e2:(ZU h hd).1.S=h.S:=by rw[k6];exact k3.sp
 have e3:(ZU h hd).1.P.length=h.P.length:=by rw[k6];exact k3.l
 have e4:(ZU h hd).1.W=(ZT h.W (Cd h hd).2.1 (BF hd)).1:=by rw[k6]
 have e5:(ZU h hd).1.P=(Cd h hd).1.P:=by rw[k6]
 rw[k5];have fin:∀i:Nat,i<h.P.length->(∀j,j<h.P.length->j≠i->(ZU h hd).1.P.getD j X=h.P.getD j X\/((h.P.getD j X).K=0/\((ZU h hd).1.P.getD j X).K=3/\((ZU h hd).1.P.getD j X).S=h.S)) ->
   ((h.P.getD i X).K=0\/(h.P.getD i X).K=1)/\((ZU h hd).1.P.getD i X).K=1/\(Cd h hd).2.1=ZB h i+BZ (h.P.getD i X)/\((ZU h hd).1.P.getD i X).U=BZ (h.P.getD i X)+Z5 hd/\Z5 hd<=Zb h.C\/(h.P.getD i X).K=0/\((ZU h hd).1.P.getD i X).K=2/\(Cd h hd).2.1=ZB h i/\((ZU h hd).1.P.getD i X).U=Z5 hd ->
   ((ZU h hd).1.P.getD i X).S=h.S->crowd (ZU h hd).1.P<=crowd h.P->(∀j x,x∈T j->x+Zk h.W x<(Cd h hd).2.1\/(Cd h hd).2.1+Z5 hd<=x)->∃i,AC h (ZU h hd).1 T hd i (Cd h hd).2.1:=by
  intro i hi hj hI hsp hcr hdis;obtain⟨q1,q2,q3,q4,q5⟩:=g.add a1 hm a5 k7 e1 e2 e3 e4 hin hi hj hI hsp hcr hdis;exact⟨i,q1,q2,q3,q4,q5,hdis,e1⟩
 rw[e5]at fin;by_cases hn:0<need h.C (Z5 hd);have e7:Cd h hd=BE h (Z5 hd) (need h.C (Z5 hd)):=by rw[Cd,if_pos hn]
 rw[e7]at k4 fin⊢;by_cases hg:0<=first h.P (need h.C (Z5 hd))/\Cm h.P+need h.C (Z5 hd)<=CX h.C
 obtain⟨g1,g2,g3⟩:=HL hg.1;have el:(GG h.C h.P (first h.P (need h.C (Z5 hd))) h.S (Z5 hd)).1=ZM h.P (first h.P (need h.C (Z5 hd))).toNat (need h.C (Z5 hd)).toNat ⟨2,h.S,Z5 hd,0⟩ ⟨3,h.S,0,0⟩:=by(rw[GG,if_pos ⟨g1,by omega⟩,EF,if_pos oq,if_pos g3])
 have e8:BE h (Z5 hd) (need h.C (Z5 hd))=(⟨h.C,h.W,ZM h.P (first h.P (need h.C (Z5 hd))).toNat (need h.C (Z5 hd)).toNat ⟨2,h.S,Z5 hd,0⟩ ⟨3,h.S,0,0⟩,h.S,h.B⟩,4096+first h.P (need h.C (Z5 hd))*h.C.pw,Y):=by rw[BE,if_pos hg,el]
 have hf:∀j,j<(need h.C (Z5 hd)).toNat->(h.P.getD ((first h.P (need h.C (Z5 hd))).toNat+j) X).K=0:=Sb.1 g3;have hu:=Mc g1;rw[e8]at fin⊢;simp only at fin⊢;generalize hk:need h.C (Z5 hd)=k at *;generalize hfi:first h.P k=f at *
 have hge:∀j,(ZM h.P f.toNat k.toNat ⟨2,h.S,Z5 hd,0⟩ ⟨3,h.S,0,0⟩).getD j X=if j=f.toNat then⟨2,h.S,Z5 hd,0⟩else if f.toNat<j/\j<f.toNat+k.toNat then⟨3,h.S,0,0⟩else h.P.getD j X:=Z2q oq oq;have h0:=hf 0 oq;rw[Nat.add_zero]at h0;refine fin f.toNat oq ?_ ?_ ?_ ?_ ?_;intro j hj1 hj2;rw[hge,if_neg hj2];split;rename_i q;have:=hf (j-f.toNat) oq;rw[show f.toNat+(j-f.toNat)=j by omega]at this;exact Lb ⟨this,rfl,rfl⟩;exact La rfl;rw[hge,if_pos rfl];refine Lb ⟨h0,rfl, ?_,rfl⟩;rw[ZB,Lz oq];rw[hge,if_pos rfl];refine ME (PI oq) λj hj1 q1 q2=>?_;rw[hge]at q1 q2;split at q1;simp at q1;rename_i c1;rw[if_neg c1]at q2;split at q1;simp at q1;rename_i c2;rw[if_neg c2]at q2;exact⟨q1,q2⟩;intro j x hx;have o:=g.on hx;have hr:=Bo h.W x;unfold ZB at o;have hfe:((f.toNat:Nat):Int)=f:=by omega
 by_cases q:j<f.toNat
 have:=Al g.p q oq o.2.1 oq;rw[hfe]at this;omega;have hjk:f.toNat+k.toNat<=j:=by(by_cases q2:f.toNat+k.toNat<=j;exact q2;have:=hf (j-f.toNat) oq;rw[show f.toNat+(j-f.toNat)=j by omega]at this;omega)
 have:=LM (show f+k<=(j:Int) by omega) (show 0<=h.C.pw by omega);rw[Int.add_mul]at this;omega;rw[BE,if_neg hg]at k4;simp at k4;have e7:Cd h hd=Bj h (Z5 hd):=by rw[Cd,if_neg hn]
 have hsm:=Zc6 hn a4;have hsw:Zb h.C<=h.C.pw:=by(rw[Zb,if_pos p1,Lw oq];omega)
 rw[e7]at k4 fin⊢;by_cases hf:IZ h (Z5 hd);have e8:Bj h (Z5 hd)=(⟨h.C,h.W,Cs h.P h.B.toNat (Z5 hd),h.S,h.B⟩,4096+h.B*h.C.pw+(h.P.getD h.B.toNat X).U,Y):=by rw[Bj,if_pos hf]
 unfold IZ at hf;have hbi:h.B.toNat<h.P.length:=by omega
 have hk:(h.P.getD h.B.toNat X).K=1:=by omega
 have hbe:((h.B.toNat:Nat):Int)=h.B:=by omega
 have hoc:BZ (h.P.getD h.B.toNat X)=(h.P.getD h.B.toNat X).U:=by rw[BZ,if_neg oq]
 rw[e8,RY]at fin;rw[e8];simp only at fin⊢;refine fin h.B.toNat hbi ?_ ?_ ?_ ?_ ?_;intro j hj1 hj2;rw[Cl hbi,if_neg (λq=>hj2 q.symm)];exact La rfl;rw[Cl hbi,if_pos rfl,hoc];refine La ⟨Lb hk,hk, ?_,rfl,hsm⟩;rw[ZB,hbe];rw[Cl hbi,if_pos rfl];exact hf.2.1;refine ME (by rw[Lk]) λj hj1 q1 q2=>?_;rw[Cl hbi]at q1 q2;split at q1;rename_i c;rw[if_pos c]at q2;subst c;exact⟨q1,q2⟩;rename_i c;rw[if_neg c]at q2;exact⟨q1,q2⟩;intro j x hx;have:=g.free hbi (Lb hk) hx;rw[hoc,ZB,hbe]at this;omega;by_cases hg:0<=first h.P 1/\(Cm h.P:Int)<CX h.C
 have e8:Bj h (Z5 hd)=(⟨h.C,h.W,Cs (HE h) (first h.P 1).toNat (Z5 hd),h.S,first h.P 1⟩,4096+first h.P 1*h.C.pw+((HE h).getD (first h.P 1).toNat X).U,Y):=by rw[Bj,if_neg hf,if_pos hg]
 obtain⟨g1,g2,g3⟩:=SN p4 hg.1 (Z5 hd);have g4:=congrArg Z0.U (NU p4 hg.1).2.2.2;simp only at g4;have hbe:(((first h.P 1).toNat:Nat):Int)=first h.P 1:=by omega
 have hoc:BZ (h.P.getD (first h.P 1).toNat X)=0:=by rw[BZ,if_pos g2]
 rw[e8,g1,g4]at fin;rw[e8,g4];simp only at fin⊢;refine fin (first h.P 1).toNat g3 ?_ ?_ ?_ ?_ ?_;intro j hj1 hj2;rw[Cl g3,if_neg (λq=>hj2 q.symm)];exact La rfl;rw[Cl g3,if_pos rfl,hoc];refine La ⟨La g2,rfl, ?_,by simp,hsm⟩;rw[ZB,hbe];rw[Cl g3,if_pos rfl];refine ME (by rw[Lk]) λj hj1 q1 q2=>?_;rw[Cl g3]at q1 q2;split at q1;rename_i c;rw[if_pos c]at q2;simp at q2;rename_i c;rw[if_neg c]at q2;exact⟨q1,q2⟩;intro j x hx;have:=g.free g3 (La g2) hx;rw[hoc,ZB,hbe]at this;omega;rw[Bj,if_neg hf,if_neg hg]at k4;simp at k4
def GQ(h:Heap)(T:Nat->List Int)(l:List Int):Prop:=∀r∈l,r=0\/Ob h T r
def WG(w:Zj):Prop:=∃T,Gd w.heap T/\GQ w.heap T w.G/\GQ w.heap T w.E
def AC.ob{h h' T c i a}(n:AC h h' T c i a){x}(e:Ob h T x):Ob h' (λj=>if j=i then T i++[a]else T j) x:=by obtain⟨j,b,d⟩:=e;have r:=Bo h.W x;have o:=Ee (ws:=h.W) (ws':=h'.W) (a:=x) (by rw[n.o x (by have:=n.d j x b;omega)]);refine⟨j, ?_,by rw[o.2.2.1];exact d⟩;show x∈(if j=i then T i++[a]else T j);split;rename_i q;subst q;exact Lh _ b;exact b
def AC.ob0{h h' T b i a}(n:AC h h' T b i a):Ob h' (λj=>if j=i then T i++[a]else T j) a:=
 ⟨i,by simp,n.k⟩
def WG.put{w}(h:WG w)(j:Zy w.heap.W){b:Zw}(f:0<=b.map/\b.map<=4294967295):WG (w.put b):=by unfold Zj.put;split;rename_i e;obtain⟨T,g,c,d⟩:=h;obtain⟨i,n⟩:=g.newOk j f e;refine⟨_,n.g,λr a=>?_,λr a=>?_⟩;rcases Ld.1 a with a|a;rcases c r a with q|q;exact La q;exact Lb (n.ob q);have:=Lf.1 a;subst this;exact Lb n.ob0;rcases d r a with q|q;exact La q;exact Lb (n.ob q);exact h
def WG.pick{w:Zj}{T}(a:GQ w.heap T w.G)(b:GQ w.heap T w.E)(t:Tape):w.pick t=0\/Ob w.heap T (w.pick t):=by rcases Z8u w t with e|e|e;exact La e;exact a _ e;exact b _ e
def Gd.setf{h T}(g:Gd h T)(l:Zy h.W){a i v:Int}(hv:0<=v/\v<=18446744073709551615)(k:Ob h T a)(hi:0<=i/\i<(Zs h a).1.length)(d:Bl (Zs h a).1 i=Y->v=0\/Ob h T v):Gd (CY h a i v).1 T/\∀x,Ob h T x->Ob (CY h a i v).1 T x:=by obtain⟨j,b,c⟩:=k;have f:=g.fields b c;obtain⟨s1,s2,s3⟩:=Z0G l hv (a:=a) (i:=i) (by rw[f.1]) hi;rw[f.1]at hi d;have q:=g.store (v:=v) ⟨j,b,c⟩ hi d;rw[s1];refine⟨q.1, ?_⟩;rintro x ⟨m,e,n⟩;refine⟨m,e, ?_⟩;have:=(Ee (q.2 m x e)).2.2.1;simp only;rw[this];exact n
def WG.link{w n}(h:WG w)(d:C3 w n)(f:n<=1000000) t:WG (w.link t):=by
 unfold Zj.link;split;rename_i e;obtain⟨T,g,a,b⟩:=h;have j:=d.wm f;have gg:=NA e.1;have k:=GB (w.pickT (w.pickT t)) (n:=8) dd;have hi:0<=Hq w t/\Hq w t<(Zs w.heap (w.pick t)).1.length:=by(unfold Hq;rw[LQ k.1];exact⟨LJ _ oq,Lv _ oq⟩)
 have hv:0<=Ht w t/\Ht w t<=18446744073709551615:=by(unfold Ht;split;exact A9 j _;have:=GB ((w.pickT (w.pickT t)).step 8) (n:=1048576) dd;omega)
 have i:Ob w.heap T (w.pick t):=by(rcases WG.pick a b t with q|q;omega;exact q)
 have s:=g.setf d.W hv i hi (λq=>by
  unfold Ht;rw[if_pos q];exact WG.pick a b _)
 exact⟨T,s.1,λr c=>(a r c).imp id (s.2 r),λr c=>(b r c).imp id (s.2 r)⟩;exact h
def WG.pinned{w}(h:WG w){i d}(s:Z8 (pinB w i d).heap=Y)(hi:i<w.heap.P.length)(n:d=-1\/0<(w.heap.P.getD i X).N\/(w.heap.P.getD i X).K=2\/(crowd w.heap.P:Int)<w.heap.C.pg/4):WG (pinB w i d):=by
 obtain⟨T,g,l,m⟩:=h;have pp:=Eh g.p hi;have t:∀j,j<w.heap.P.length->((pinB w i d).heap.P.getD j X).K=(w.heap.P.getD j X).K/\((pinB w i d).heap.P.getD j X).S=(w.heap.P.getD j X).S/\((pinB w i d).heap.P.getD j X).U=(w.heap.P.getD j X).U:=by(intro j r;simp only[pinB];rw[Cl hi];split;rename_i q;subst q;exact⟨rfl,rfl,rfl⟩;exact⟨rfl,rfl,rfl⟩)
 have k:(crowd (pinB w i d).heap.P:Int)<=w.heap.C.pg/4:=by
  have c0:=g.cr;have a:(0<(w.heap.P.getD i X).N+d->(w.heap.P.getD i X).K=1->0<(w.heap.P.getD i X).N)->(crowd (pinB w i d).heap.P:Int)<=w.heap.C.pg/4:=by
   intro o;have:crowd (pinB w i d).heap.P<=crowd w.heap.P:=by(refine ME (by simp[pinB]) λj r b f=>?_;simp only[pinB]at b f;rw[Cl hi]at b f;split at b;rename_i c;rw[if_pos c]at f;subst c;exact⟨b,o f b⟩;rename_i c;rw[if_neg c]at f;exact⟨b,f⟩)
   omega
  rcases n with q|q|q|q;exact a oq;exact a oq;exact a oq;have:=(Z69 (p:=⟨(w.heap.P.getD i X).K,(w.heap.P.getD i X).S,(w.heap.P.getD i X).U,(w.heap.P.getD i X).N+d⟩) hi w.heap.P.length).1;have e:crowd (pinB w i d).heap.P=Bp (w.heap.P.set i ⟨(w.heap.P.getD i X).K,(w.heap.P.getD i X).S,(w.heap.P.getD i X).U,(w.heap.P.getD i X).N+d⟩) w.heap.P.length:=by(simp only[crowd,pinB,Lk])
  have e2:crowd w.heap.P=Bp w.heap.P w.heap.P.length:=rfl;omega
 exact⟨T,g.P s rfl rfl rfl (by simp[pinB]) t k,l,m⟩
def WG.pok{w}(h:WG w):POk w:=by
 obtain⟨T,g,b,c⟩:=h;have k:∀l,GQ w.heap T l->∀r∈l,R8 w.heap r:=λl d r e=>by(rcases d r e with rfl|⟨j,a,_⟩;exact Z47 _;intro _;rw[g.ofx a];simpa using (g.on a).2.1)
 exact⟨g.p,k _ b,k _ c⟩
def WG.pin{w n}(h:WG w)(a:C3 w n)(b:n<=1000000) t:WG (w.pin t):=by
 have p1:=(h.pok.pin a b t).p;unfold Zj.pin at p1⊢;split;rename_i e;rw[if_pos e]at p1;have o:=GM a.hv e;have d:=a.pl;have hi:Ii w t<w.heap.P.length:=by unfold Ii;omega
 split;rename_i c;rw[if_pos c]at p1;exact h.pinned p1 hi (La rfl);rename_i c;rw[if_neg c]at p1;split;rename_i c2;rw[if_pos c2]at p1;exact h.pinned p1 hi (Lb c2);exact h;exact h
def WG.drop{w}(h:WG w) t:WG (w.drop t):=by unfold Zj.drop;split;rename_i hl;obtain⟨T,g,b,c⟩:=h;have n1:=GB t (n:=(w.G.length:Int)) oq;refine⟨T,g,λr a=>?_,λr a=>?_⟩;rcases Ld.1 a with a|a;exact b r (LF a);exact b r (LD a);simp only at a;split at a;rcases Ld.1 a with a|a;exact c r a;simp only[Lf]at a;subst a;refine b _ (Be.2 ⟨_, ?_,rfl⟩);unfold Z0e;omega;exact c r a;exact h
def WG.dup{w}(h:WG w) t:WG (w.dup t):=by obtain⟨T,g,b,c⟩:=h;refine⟨T,g,λr a=>?_,c⟩;rcases Ld.1 a with a|a;exact b r a;simp only[Lf]at a;subst a;exact WG.pick b c _
def Z2w(t:Tape):WG t.empty:=by
 have e:=(Zac t).p;have hv:=Z0p t;have hb:=BG.1 hv;have d:∀j,(t.empty.heap.P.getD j X).K=0/\(t.empty.heap.P.getD j X).N=0:=by(intro j;simp only[Tape.empty,Ia,Lg,LA];split;exact⟨rfl,rfl⟩;exact⟨rfl,rfl⟩)
 refine⟨λ_=>[],⟨e, ?_, ?_, ?_,by simp, ?_,by simp, ?_⟩,by simp[GQ,Tape.empty],by simp[GQ,Tape.empty]⟩;intro i _ b;exact absurd (d i).1 b;intro i _ b;rw[(d i).1]at b;omega;intro i _ b;rw[(d i).1]at b;omega;intro a g;exfalso;apply g;show(Z1 (Lc (t.C.pw*t.C.pg).toNat 0) a).1=0;unfold Z1;by_cases c:4096<=a/\a<4096+((Lc (t.C.pw*t.C.pg).toNat (0:Int)).length:Int);rw[if_pos c];simp only[Lg,LA];split<;>rfl;rw[if_neg c];have:crowd t.empty.heap.P=0:=by
  have f:∀n,Bp t.empty.heap.P n=0:=by
   intro n;induction n with|zero=>rfl|succ n h =>unfold Bp;rw[h,if_neg (by rw[(d n).1];omega)]
  exact f _
 rw[this];show(0:Int)<=t.C.pg/4;omega
end Go.Proofs.YtgedmeaemofdkaaGreat
