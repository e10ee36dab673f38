/-
 The statement CollectStays: part 11.
 Conditions: none.
-/
import Derived.Test.YtgedmeaemofdkaaGreatT10
set_option maxRecDepth 100000
set_option maxHeartbeats 2000000
set_option linter.all false
open Inhabited renaming default->X
open Bool renaming true->Y,false->M,and_eq_true->Lu
open List renaming map->Z,replicate->Lc,mem_append->Ld,mem_singleton->Lf,getD_eq_getElem?_getD->Lg,mem_append_left->Lh,mem_range->Li,find?_eq_none->Lj,length_set->Lk,length_map->Lm,take->Ln,range->Lo,length_replicate->Lr,mem_append_right->Ls,mem_cons->Lt,find?_range_eq_some->Ly,getElem?_replicate->LA,map_set->LB,mem_map->LC,mem_of_mem_drop->LD,mem_of_mem_take->LF,mem_replicate->LG,eq_nil_iff_forall_not_mem->LR,getElem?_eq_getElem->LS,length->LU,length_append->LV,length_drop->LW,length_take->LX,map_append->LY,map_drop->LZ,map_take->L0,mem_cons_of_mem->L1,mem_iff_getElem->L2,mem_or_eq_of_mem_set->L3
open Decidable renaming decide->O,not_not->Lp
open Or renaming inl->La,inr->Lb
open Nat renaming le_refl->Le,add_mul->L4,le_trans->L5,lt_trichotomy->L6,mul_le_mul_right->L7,one_mul->L8
open Int renaming toNat->Ll,emod_lt_of_pos->Lv,tdiv_eq_ediv_of_nonneg->Lw,toNat_natCast->Lx,toNat_of_nonneg->Lz,add_assoc->LH,add_zero->LI,emod_nonneg->LJ,mul_comm->LK,mul_ediv_add_emod->LL,mul_le_mul_of_nonneg_right->LM,mul_nonneg->LN,natCast_mul->LO,tmod_eq_emod_of_nonneg->LQ
open Go.IntKind renaming i64->Lq
open Go.Proofs.Tryz
namespace Go.Proofs.YtgedmeaemofdkaaGreat
open Go.Sx
def C3(w:Z7)(r:Int):Int:=if r∈w.Q then r else(ZD (Z1 w.heap.W r).1).1
def Z4B(w:Z7)(r:Int)(b:Zx w.heap.W)(hl:w.heap.W.length<=4096)(hq:w.Q.length<=1048576)(h0:0<=r/\r<=18446744073709551615):GP 85 [w.av,u64 r] Y (u64 (C3 w r)) []:=by have h1:=G4 b r;rcases bb (O (r∈w.Q))with hc0|hc0<;>have a:=hc0<;>simp only[bs]at a;exact gF [] func85 [Y] (Fh 12 [.call Y (Sx.bool (O (r∈w.Q))) [],.br Y] (Fa (@CL w.Q r aa) (Fa hc0 (Fa (by simp[C3, *]:r=C3 w r) Fz))));exact gF [] func85 [Y] (Fh 12 [.call Y (Sx.bool (O (r∈w.Q))) [],.br M] (Fa (@CL w.Q r aa) (Fa hc0 (Fc 19 (@HF w.heap.W r oq aa) (Fc 24 (@Ae ((Z1 w.heap.W r).1) oq oq) (Fa (by simp[C3, *]:(ZD (Z1 w.heap.W r).1).1=C3 w r) Fz))))))
def Z9L(w:Z7)(a:Int)(b:Zx w.heap.W)(h1:w.heap.W.length<=4096)(h0:0<=a/\a<=18446744073709551615):GP 142 [w.av,u64 a] Y (Zv w a).av []:=by have h2:=G4 b a;exact gF [] func142 [] (Fc 14 (@HF w.heap.W a oq aa) (Fc 19 (@SX ((Z1 w.heap.W a).1) oq oq) Fz))
def GK(w:Z7)(x:Int):Z7:=if ZH w (Z2 w.heap.C x).1=Y/\x∉w.Q then⟨⟨w.heap.C,(ZS w.heap.W x (BF ⟨0,(Zv w x).length,0⟩)).1,w.heap.P,w.heap.S,w.heap.B⟩,w.old,w.T,w.Q,w.D,⟨w.rep.copied,w.rep.kept,w.rep.filled+1,w.rep.freed,w.rep.cleared,w.rep.steps⟩⟩else w
def Ch(w:Z7):Nat->Z7|0=>w|k+1=>GK (Ch w k) (w.old.getD k X)
def Z08(w:Z7)(i:Nat):Tg:=⟨tm 84 [(1,.pt 8001 0 0),(2,.pt 8002 0 0),(3,int i)],[(8002,.box 138 zW),(8001,.box 138 w.cells)],60⟩
structure FOk (w:Z7):Prop where
 W:Zx w.heap.W
 wl:w.heap.W.length<=4096
 pl:w.heap.P.length<=64
 ol:w.old.length<=524288
 o:∀x∈w.old,0<=x/\x<=8192
 tl:w.T.length<=1000000
 ql:w.Q.length<=1000000
def B7.fok{w}(h:B7 w):FOk w:=by have h1:=h.mu;have h2:=h.tl;have h3:=h.pl;have h4:=BG.1 h.C;exact⟨h.W,h.wl,by omega,h.ol,h.o,by omega,by omega⟩
def Dz{n:Int}(h:0<=n/\n<=255):Zt ⟨0,n,0⟩=(1+16*n,0):=by have hv:ZR ⟨0,n,0⟩=Y:=Gf.2 ⟨by simp,by simp,h.1,h.2,by simp⟩;rw[Zt,if_pos hv];simp
section
variable (w:Z7) (i:Nat) (a:FOk w) (hi:i<w.old.length) (hr:0<=w.rep.filled/\w.rep.filled<=1000000)
include a hi hr
theorem Zgs:CP (Zm f87 0) (Z08 w i).st .nrm (Z08 (GK w (w.old.getD i X)) (i+1)).st:=by
 have d:=a.W;have h2:=a.wl;have h3:=a.pl;have h4:=a.ol;have h5:=a.tl;have h6:=a.ql;have hx:=a.o _ (Bm.2 ⟨i,hi,rfl⟩);have hm:=IH (Z1 w.heap.W (w.old.getD i X)).1 (G4 d _).1;have e:0<=(Zv w (w.old.getD i X)).length/\(Zv w (w.old.getD i X)).length<=255:=Bo w.heap.W (w.old.getD i X);have he:=Dz e;by_cases c1:ZH w (Z2 w.heap.C (w.old.getD i X)).1=Y;by_cases c2:w.old.getD i X∈w.Q;have b:GK w (w.old.getD i X)=w:=by rw[GK,if_neg (by rintro⟨_,q⟩;exact q c2)]
 rw[b];exact sF [] [] (FN 13 14 24 wdv w.old i (Fc 26 (@GF w.heap.C (w.old.getD i X) oq oq) (Fc 32 (@SK w ((Z2 w.heap.C (w.old.getD i X)).1) oq oq) (FeG 40 (!!ZH w (Z2 w.heap.C (w.old.getD i X)).1) wdv w.old (↑i) i (FcG 42 (!!ZH w (Z2 w.heap.C (w.old.getD i X)).1) (λc=>by(try simp only[bs]at c);exact@CL w.Q (w.old.getD i X) oq) (Fts 43 (!ZH w (Z2 w.heap.C (w.old.getD i X)).1||O (w.old.getD i X∈w.Q)) (Fx 16 i Fz)))))));have b:GK w (w.old.getD i X)=⟨⟨w.heap.C,(ZS w.heap.W (w.old.getD i X) (BF ⟨0,(Zv w (w.old.getD i X)).length,0⟩)).1,w.heap.P,w.heap.S,w.heap.B⟩,w.old,w.T,w.Q,w.D,⟨w.rep.copied,w.rep.kept,w.rep.filled+1,w.rep.freed,w.rep.cleared,w.rep.steps⟩⟩:=by rw[GK,if_pos ⟨c1,c2⟩]
 rw[b];exact sF [] [] (Fh 71 [.els (Z wdv ([(Zt (Zy.mk 0 (Zv w (w.old.getD i X)).length 0)).1]++Lc (Zv w (w.old.getD i X)).length.toNat 0))] (FN 13 14 24 wdv w.old i (Fc 26 (@GF w.heap.C (w.old.getD i X) oq oq) (Fc 32 (@SK w ((Z2 w.heap.C (w.old.getD i X)).1) oq oq) (FeG 40 (!!ZH w (Z2 w.heap.C (w.old.getD i X)).1) wdv w.old (↑i) i (FcG 42 (!!ZH w (Z2 w.heap.C (w.old.getD i X)).1) (λc=>by(try simp only[bs]at c);exact@CL w.Q (w.old.getD i X) oq) (Ffs 43 (!ZH w (Z2 w.heap.C (w.old.getD i X)).1||O (w.old.getD i X∈w.Q)) (Fek 48 wdv w.old (↑i) i (Fc 50 (@Z9L w (w.old.getD i X) aa aa oq) (Fc 55 (@DY (Zy.mk 0 (Zv w (w.old.getD i X)).length 0) (by(simp only[bs];omega))) (Fek 65 wdv w.old (↑i) i (Fs 68 (Z wdv [(Zt (Zy.mk 0 (Zv w (w.old.getD i X)).length 0)).1]) (Fa (by grind[BF]:0<=(Zv w (w.old.getD i X)).length/\(↑(Z wdv [(Zt (Zy.mk 0 (Zv w (w.old.getD i X)).length 0)).1]).length:Int)+(Zv w (w.old.getD i X)).length<=2^30) (Fa (by simp[BF,L0,LZ,LB,LY,wdv,idv]:Z wdv [(Zt (Zy.mk 0 (Zv w (w.old.getD i X)).length 0)).1]++Lc (Zv w (w.old.getD i X)).length.toNat [ZY 0]=Z wdv ([(Zt (Zy.mk 0 (Zv w (w.old.getD i X)).length 0)).1]++Lc (Zv w (w.old.getD i X)).length.toNat 0)) (Fc 72 (@TS w.heap.W ([(Zt (Zy.mk 0 (Zv w (w.old.getD i X)).length 0)).1]++Lc (Zv w (w.old.getD i X)).length.toNat 0) (w.old.getD i X) oq oq (by grind[BF])) (Fi 80 (w.rep.filled+1) (Fx 16 i Fz)))))))))))))))));have b:GK w (w.old.getD i X)=w:=by rw[GK,if_neg (by rintro⟨q,_⟩;exact c1 q)]
 rw[b];exact sF [] [] (FN 13 14 24 wdv w.old i (Fc 26 (@GF w.heap.C (w.old.getD i X) oq oq) (Fc 32 (@SK w ((Z2 w.heap.C (w.old.getD i X)).1) oq oq) (FeG 40 (!!ZH w (Z2 w.heap.C (w.old.getD i X)).1) wdv w.old (↑i) i (FcG 42 (!!ZH w (Z2 w.heap.C (w.old.getD i X)).1) (λc=>by(try simp only[bs]at c);exact@CL w.Q (w.old.getD i X) oq) (Fts 43 (!ZH w (Z2 w.heap.C (w.old.getD i X)).1||O (w.old.getD i X∈w.Q)) (Fx 16 i Fz)))))))
end
def ZdZ w:CP (Zm f87 0) (Z08 w w.old.length).st (.ext 0) (Tg.st ⟨tm 84 [(1,.pt 8001 0 0),(2,.pt 8002 0 0)],[(8002,.box 138 zW),(8001,.box 138 w.cells)],60⟩):=by exact sF [] [] (FO 13 14 wdv w.old Fz)
def ZaU w(x:Int):∃l n,GK w x=⟨⟨w.heap.C,l,w.heap.P,w.heap.S,w.heap.B⟩,w.old,w.T,w.Q,w.D,⟨w.rep.copied,w.rep.kept,n,w.rep.freed,w.rep.cleared,w.rep.steps⟩⟩/\l.length<=w.heap.W.length/\(Zx w.heap.W->Zx l)/\w.rep.filled<=n/\n<=w.rep.filled+1:=by unfold GK;split;refine⟨_,_,rfl,Z12 _ _ _,λh=>PP h ?_ _,by omega,by omega⟩;intro y a;have b:0<=(Zv w x).length/\(Zv w x).length<=255:=Bo w.heap.W x;simp only[BF,Lt,LG,Dz b]at a;rcases a with rfl|⟨_,rfl⟩<;>omega;exact⟨w.heap.W,w.rep.filled,rfl,Le _,λh=>h,by omega,by omega⟩
def HN w(b:FOk w):∀k,FOk (Ch w k)/\(Ch w k).heap.C=w.heap.C/\(Ch w k).heap.P=w.heap.P/\(Ch w k).heap.S=w.heap.S/\(Ch w k).heap.B=w.heap.B/\(Ch w k).old=w.old/\(Ch w k).T=w.T/\(Ch w k).Q=w.Q/\(Ch w k).rep.freed=w.rep.freed/\(Ch w k).rep.cleared=w.rep.cleared/\w.rep.filled<=(Ch w k).rep.filled/\(Ch w k).rep.filled<=w.rep.filled+k
 |0=>⟨b,rfl,rfl,rfl,rfl,rfl,rfl,rfl,rfl,rfl,by simp[Ch],by simp[Ch]⟩
 |k+1=>by
  obtain⟨a,d,i2,i3,i4,h,i,j,i8,m,f,g⟩:=HN w b k;obtain⟨l,n,e,e1,c,e3,e4⟩:=ZaU (Ch w k) (w.old.getD k X);have:Ch w (k+1)=_:=e;rw[this];have hl:=a.wl;exact⟨⟨c a.W,by simp only;omega,a.pl,a.ol,a.o,a.tl,a.ql⟩,d,i2,i3,i4,h,i,j,i8,m,by simp only;omega,by simp only;omega⟩
section
variable (w:Z7) (a:FOk w) (hr:w.rep.filled=0)
include a hr
theorem Zeh:CP (Zj f87 0) (Tg.st ⟨tm 84 [(1,.pt 8001 0 0),(2,.pt 8002 0 0),(3,int 0)],[(8002,.box 138 zW),(8001,.box 138 w.cells)],60⟩) .nrm (Tg.st ⟨tm 84 [(1,.pt 8001 0 0),(2,.pt 8002 0 0)],[(8002,.box 138 zW),(8001,.box 138 (Ch w w.old.length).cells)],60⟩):=by have c:=a.ol;refine Br (S:=λk=>(Z08 (Ch w k) k).st) w.old.length kr (λk b=>?_) ?_;have h:=HN w a k;have:=Zgs (Ch w k) k h.1 (by rw[h.2.2.2.2.2.1];exact b) oq;rw[h.2.2.2.2.2.1]at this;exact this;have h:=HN w a w.old.length;have:=ZdZ (Ch w w.old.length);rw[h.2.2.2.2.2.1]at this;exact this
theorem Z7a:GP 87 [w.av] M (Ch w w.old.length).av []:=by exact gF [] func87 [] (Fu (@Zeh w aa aa) Fz)
end
def Cu(s:Int)(p:Z0):Prop:=p.K≠0/\p.S=s
instance (s:Int) (p:Z0):Decidable (Cu s p):=by unfold Cu;infer_instance
def BM(s:Int)(p:Z0):Z0:=if Cu s p then⟨0,0,0,0⟩else p
def Ed(pw s:Int)(l:List Z0)(ws:List Int):Nat->List Int|0=>ws|i+1=>if Cu s (l.getD i X)then Cd (Ed pw s l ws i) (i*pw.toNat) (Lc pw.toNat 0)else Ed pw s l ws i
def ET(n s:Int)(l:List Z0):Nat->Int|0=>n|i+1=>if Cu s (l.getD i X)then ET n s l i+1 else ET n s l i
def Dd(w:Z7)(a:List Z0)(ws:List Int)(n:Int)(i:Nat):Tg:=⟨tm 78 [(1,.pt 8001 0 0),(2,.pt 8002 0 0),(3,int i)],[(8001,.box 138 [int w.heap.C.pw,int w.heap.C.pg,.ow 24017,.ow 16010,int w.heap.S,int w.heap.B,Z3 w.old,ZE w.T,Z3 w.Q,int w.D,int w.rep.copied,int w.rep.kept,int w.rep.filled,int n,int w.rep.cleared,int w.rep.steps]),(24017,.arr 35 1 (ws.map wdv)),(16010,.arr 86 4 (a.map Z0.dv)),(8002,.box 138 zW)],60⟩
def Zck(w:Z7)(a:List Z0) ws n(i:Nat)(hl:a.length<=64)(hi:i<a.length)(b:¬ Cu w.heap.S (a.getD i X)):CP (Zm f86 0) (Dd w a ws n i).st .nrm (Dd w a ws n (i+1)).st:=by unfold Cu at b;have c:¬ ((a.getD (i:Int).toNat X).K≠0/\(a.getD (i:Int).toNat X).S=w.heap.S):=b;exact sF [] [] (FM 24 25 Z0.dv a i (Fmq 33 Z0.dv a (↑i) (Ftb 44 ((a.getD (i:Int).toNat X).K==0||(a.getD (i:Int).toNat X).S != w.heap.S) (Fx 27 i Fz))))
def TF(w:Z7)(a:List Z0)(ws:List Int)(n:Int)(i k:Nat):Tg:=⟨tm 78 [(1,.pt 8001 0 0),(2,.pt 8002 0 0),(3,int i),(5,int k)],[(8001,.box 138 [int w.heap.C.pw,int w.heap.C.pg,.ow 24017,.ow 16010,int w.heap.S,int w.heap.B,Z3 w.old,ZE w.T,Z3 w.Q,int w.D,int w.rep.copied,int w.rep.kept,int w.rep.filled,int n,int w.rep.cleared,int w.rep.steps]),(16010,.arr 86 4 (a.map Z0.dv)),(24017,.arr 35 1 ((wr ws (Lc w.heap.C.pw.toNat 0) (i*w.heap.C.pw.toNat) k).map wdv)),(8002,.box 138 zW)],64⟩
section
variable (w:Z7) (a:List Z0) (ws:List Int) (n:Int) (i k:Nat) (b:0<=w.heap.C.pw/\w.heap.C.pw<=64) (hi:i<=64) (hl:i*w.heap.C.pw.toNat+w.heap.C.pw.toNat<=ws.length) (c:ws.length<=4096)
include b hi hl c
theorem ZjM(d:k<w.heap.C.pw.toNat):CP (Zm f86 2) (TF w a ws n i k).st .nrm (TF w a ws n i (k+1)).st:=by
 have e:=ML (ws:=ws) (l:=Lc w.heap.C.pw.toNat 0) (i:=i*w.heap.C.pw.toNat) (k:=k) (by simpa using hl) (by simpa using d) (0:Int);rw[show(Lc w.heap.C.pw.toNat (0:Int)).getD k 0=0 by simp[List.getD,d]]at e;have hn:=Ii (ws:=ws) (l:=Lc w.heap.C.pw.toNat (0:Int)) (i:=i*w.heap.C.pw.toNat) (k:=k) (by simpa using hl) qo;have em:(i:Int)*w.heap.C.pw=((i*w.heap.C.pw.toNat:Nat):Int):=by rw[LO,Lz b.1]
 have ei:(i:Int)*w.heap.C.pw+k=((i*w.heap.C.pw.toNat+k:Nat):Int):=by omega
 exact sF [] (fO 6) (Fh 10076 [.els (Z wdv ((wr ws (Lc w.heap.C.pw.toNat 0) (i*w.heap.C.pw.toNat) k).set (↑(i*w.heap.C.pw.toNat+k):Int).toNat 0))] (Ftb 62 (O ((k:Int)<w.heap.C.pw)) (Fi 73 ((i:Int)*w.heap.C.pw) (Fg 75 (by rw[E4 oq oq];omega:Lq.wrap ((i:Int)*w.heap.C.pw+(k:Int))=(↑(i*w.heap.C.pw.toNat+k):Int)) (Fa (by(simp only[Lm];omega):0<=(↑(i*w.heap.C.pw.toNat+k):Int)/\(↑(i*w.heap.C.pw.toNat+k):Int).toNat<(Z wdv (wr ws (Lc w.heap.C.pw.toNat 0) (i*w.heap.C.pw.toNat) k)).length) (Fa (by(simp only[Lm];omega):(↑(i*w.heap.C.pw.toNat+k):Int).toNat<(Z wdv (wr ws (Lc w.heap.C.pw.toNat 0) (i*w.heap.C.pw.toNat) k)).length) (Fa (ms:(Z wdv (wr ws (Lc w.heap.C.pw.toNat 0) (i*w.heap.C.pw.toNat) k)).set (↑(i*w.heap.C.pw.toNat+k):Int).toNat [ZY 0]=Z wdv ((wr ws (Lc w.heap.C.pw.toNat 0) (i*w.heap.C.pw.toNat) k).set (↑(i*w.heap.C.pw.toNat+k):Int).toNat 0)) (Fx 64 k (Fr (35:Int) (Fa (by refine congrArg _ ?_;exact e:Z wdv ((wr ws (Lc w.heap.C.pw.toNat 0) (i*w.heap.C.pw.toNat) k).set (↑(i*w.heap.C.pw.toNat+k):Int).toNat 0)=Z wdv (wr ws (Lc w.heap.C.pw.toNat 0) (i*w.heap.C.pw.toNat) (k+1))) Fz))))))))))
theorem Zh2:CP (Zm f86 2) (TF w a ws n i w.heap.C.pw.toNat).st (.ext 2) (Tg.st ⟨tm 78 [(1,.pt 8001 0 0),(2,.pt 8002 0 0),(3,int i)],[(8001,.box 138 [int w.heap.C.pw,int w.heap.C.pg,.ow 24017,.ow 16010,int w.heap.S,int w.heap.B,Z3 w.old,ZE w.T,Z3 w.Q,int w.D,int w.rep.copied,int w.rep.kept,int w.rep.filled,int n,int w.rep.cleared,int w.rep.steps]),(16010,.arr 86 4 (a.map Z0.dv)),(24017,.arr 35 1 ((Cd ws (i*w.heap.C.pw.toNat) (Lc w.heap.C.pw.toNat 0)).map wdv)),(8002,.box 138 zW)],64⟩):=by have d:=Tr ws (Lc w.heap.C.pw.toNat (0:Int)) (i*w.heap.C.pw.toNat);rw[Lr]at d;exact sF [] (fO 5) (Ffb 62 (O ((w.heap.C.pw.toNat:Int)<w.heap.C.pw)) (Fr (35:Int) (Fa (by refine congrArg _ ?_;assumption:Z wdv (wr ws (Lc w.heap.C.pw.toNat 0) (i*w.heap.C.pw.toNat) w.heap.C.pw.toNat)=Z wdv (Cd ws (i*w.heap.C.pw.toNat) (Lc w.heap.C.pw.toNat 0))) Fz)))
theorem Zbm:CP (Zj f86 2) (Tg.st ⟨tm 78 [(1,.pt 8001 0 0),(2,.pt 8002 0 0),(3,int i),(5,int 0)],[(8001,.box 138 [int w.heap.C.pw,int w.heap.C.pg,.ow 24017,.ow 16010,int w.heap.S,int w.heap.B,Z3 w.old,ZE w.T,Z3 w.Q,int w.D,int w.rep.copied,int w.rep.kept,int w.rep.filled,int n,int w.rep.cleared,int w.rep.steps]),(16010,.arr 86 4 (a.map Z0.dv)),(24017,.arr 35 1 (ws.map wdv)),(8002,.box 138 zW)],64⟩) .nrm (Tg.st ⟨tm 78 [(1,.pt 8001 0 0),(2,.pt 8002 0 0),(3,int i)],[(8001,.box 138 [int w.heap.C.pw,int w.heap.C.pg,.ow 24017,.ow 16010,int w.heap.S,int w.heap.B,Z3 w.old,ZE w.T,Z3 w.Q,int w.D,int w.rep.copied,int w.rep.kept,int w.rep.filled,int n,int w.rep.cleared,int w.rep.steps]),(16010,.arr 86 4 (a.map Z0.dv)),(24017,.arr 35 1 ((Cd ws (i*w.heap.C.pw.toNat) (Lc w.heap.C.pw.toNat 0)).map wdv)),(8002,.box 138 zW)],64⟩):=by have:=Br (S:=λk=>(TF w a ws n i k).st) w.heap.C.pw.toNat kr (λk d=>ZjM w a ws n i k b hi hl c d) (Zh2 w a ws n i b hi hl c);simp only[TF,AC]at this;exact this
end
def Zax(w:Z7)(a:List Z0)(ws:List Int)(n:Int)(i:Nat)(hl:a.length<=64)(hi:i<a.length)(b:Cu w.heap.S (a.getD i X))(hp:0<=w.heap.C.pw/\w.heap.C.pw<=64)(hs:i*w.heap.C.pw.toNat+w.heap.C.pw.toNat<=ws.length)(hw:ws.length<=4096)(hn:0<=n/\n<=64):CP (Zm f86 0) (Dd w a ws n i).st .nrm (Dd w (a.set i ⟨0,0,0,0⟩) (Cd ws (i*w.heap.C.pw.toNat) (Lc w.heap.C.pw.toNat 0)) (n+1) (i+1)).st:=by unfold Cu at b;have c:(a.getD (i:Int).toNat X).K≠0/\(a.getD (i:Int).toNat X).S=w.heap.S:=b;exact sF [] [] (Fh 10050 [.els (Z Z0.dv (a.set (i:Int).toNat (Z0.mk 0 0 0 0)))] (FM 24 25 Z0.dv a i (Fmq 33 Z0.dv a (↑i) (Ffb 44 ((a.getD (i:Int).toNat X).K==0||(a.getD (i:Int).toNat X).S != w.heap.S) (Fa (by(simp only[Lm];omega):0<=(i:Int)/\(i:Int).toNat<(Z Z0.dv a).length) (Fa (by(simp only[Lm];omega):(i:Int).toNat<(Z Z0.dv a).length) (Fa (by rw[LB];rfl:(Z Z0.dv a).set (i:Int).toNat [Zn 0,Zn 0,Zn 0,Zn 0]=Z Z0.dv (a.set (i:Int).toNat (Z0.mk 0 0 0 0))) (Fi 54 (n+1) (Fu (@Zbm w (a.set (i:Int).toNat (Z0.mk 0 0 0 0)) ws (n+1) i aa oq aa aa) (Fx 27 i Fz))))))))))
def Mc{pw s:Int}{l:List Z0}{ws:List Int}(h:l.length*pw.toNat<=ws.length):∀i,i<=l.length->(Ed pw s l ws i).length=ws.length
 |0,_=>rfl
 |i+1,hi=>by
  have a:=Mc (s:=s) h i oq;have b:(i+1)*pw.toNat<=l.length*pw.toNat:=L7 _ hi;rw[L4,L8]at b;unfold Ed;split
  .rw[Ng qo,a]
  .exact a
def P3(n s:Int) l:∀i:Nat,n<=ET n s l i/\ET n s l i<=n+i
 |0=>by simp[ET]
 |i+1=>by
  have ih:=P3 n s l i;unfold ET;split<;>omega
def H3(w:Z7):Z7:=⟨⟨w.heap.C,Ed w.heap.C.pw w.heap.S w.heap.P w.heap.W w.heap.P.length,w.heap.P.map (BM w.heap.S),w.heap.S,w.heap.B⟩,w.old,w.T,w.Q,w.D,⟨w.rep.copied,w.rep.kept,w.rep.filled,ET w.rep.freed w.heap.S w.heap.P w.heap.P.length,w.rep.cleared,w.rep.steps⟩⟩
def Zit w a ws n:CP (Zm f86 0) (Dd w a ws n a.length).st (.ext 0) (Tg.st ⟨tm 78 [(1,.pt 8001 0 0),(2,.pt 8002 0 0)],[(8001,.box 138 [int w.heap.C.pw,int w.heap.C.pg,.ow 24017,.ow 16010,int w.heap.S,int w.heap.B,Z3 w.old,ZE w.T,Z3 w.Q,int w.D,int w.rep.copied,int w.rep.kept,int w.rep.filled,int n,int w.rep.cleared,int w.rep.steps]),(24017,.arr 35 1 (ws.map wdv)),(16010,.arr 86 4 (a.map Z0.dv)),(8002,.box 138 zW)],60⟩):=by exact sF [] [] (FO 24 25 Z0.dv a Fz)
section
variable (w:Z7) (hl:w.heap.P.length<=64) (a:0<=w.heap.C.pw/\w.heap.C.pw<=64) (hs:w.heap.P.length*w.heap.C.pw.toNat<=w.heap.W.length) (hw:w.heap.W.length<=4096) (hr:w.rep.freed=0)
include hl a hs hw hr
theorem Zft:CP (Zj f86 0) (Tg.st ⟨tm 78 [(1,.pt 8001 0 0),(2,.pt 8002 0 0),(3,int 0)],[(8001,.box 138 [int w.heap.C.pw,int w.heap.C.pg,.ow 24017,.ow 16010,int w.heap.S,int w.heap.B,Z3 w.old,ZE w.T,Z3 w.Q,int w.D,int w.rep.copied,int w.rep.kept,int w.rep.filled,int w.rep.freed,int w.rep.cleared,int w.rep.steps]),(24017,.arr 35 1 (w.heap.W.map wdv)),(16010,.arr 86 4 (w.heap.P.map Z0.dv)),(8002,.box 138 zW)],60⟩) .nrm (Tg.st ⟨tm 78 [(1,.pt 8001 0 0),(2,.pt 8002 0 0)],[(8001,.box 138 [int w.heap.C.pw,int w.heap.C.pg,.ow 24017,.ow 16010,int w.heap.S,int w.heap.B,Z3 w.old,ZE w.T,Z3 w.Q,int w.D,int w.rep.copied,int w.rep.kept,int w.rep.filled,int (ET w.rep.freed w.heap.S w.heap.P w.heap.P.length),int w.rep.cleared,int w.rep.steps]),(24017,.arr 35 1 ((Ed w.heap.C.pw w.heap.S w.heap.P w.heap.W w.heap.P.length).map wdv)),(16010,.arr 86 4 ((w.heap.P.map (BM w.heap.S)).map Z0.dv)),(8002,.box 138 zW)],60⟩):=by
 refine Br (S:=λk=>(Dd w (Zu (BM w.heap.S) w.heap.P k) (Ed w.heap.C.pw w.heap.S w.heap.P w.heap.W k) (ET w.rep.freed w.heap.S w.heap.P k) k).st) w.heap.P.length kr (λk f=>?_) ?_;have h1:=RN (BM w.heap.S) w.heap.P k;have g:=PL (BM w.heap.S) w.heap.P (Le k) X;have h3:=Mc (s:=w.heap.S) hs k oq;have h4:=P3 w.rep.freed w.heap.S w.heap.P k;by_cases b:Cu w.heap.S (w.heap.P.getD k X);have c:=PQ (BM w.heap.S) w.heap.P f X;have d:Ed w.heap.C.pw w.heap.S w.heap.P w.heap.W (k+1)=Cd (Ed w.heap.C.pw w.heap.S w.heap.P w.heap.W k) (k*w.heap.C.pw.toNat) (Lc w.heap.C.pw.toNat 0):=by rw[Ed,if_pos b]
 have e:ET w.rep.freed w.heap.S w.heap.P (k+1)=ET w.rep.freed w.heap.S w.heap.P k+1:=by rw[ET,if_pos b]
 rw[BM,if_pos b]at c;rw[<-c,d,e];have i:(k+1)*w.heap.C.pw.toNat<=w.heap.P.length*w.heap.C.pw.toNat:=L7 _ f;rw[L4,L8]at i;exact Zax w _ _ _ k oq oq (by rw[g];exact b) a oq oq oq;have c:=Z3r (BM w.heap.S) w.heap.P f X (by rw[BM,if_neg b]);have d:Ed w.heap.C.pw w.heap.S w.heap.P w.heap.W (k+1)=Ed w.heap.C.pw w.heap.S w.heap.P w.heap.W k:=by rw[Ed,if_neg b]
 have e:ET w.rep.freed w.heap.S w.heap.P (k+1)=ET w.rep.freed w.heap.S w.heap.P k:=by rw[ET,if_neg b]
 rw[<-c,d,e];exact Zck w _ _ _ k oq oq (by rw[g];exact b);have h:=Zit w (Zu (BM w.heap.S) w.heap.P w.heap.P.length) (Ed w.heap.C.pw w.heap.S w.heap.P w.heap.W w.heap.P.length) (ET w.rep.freed w.heap.S w.heap.P w.heap.P.length);rw[RN,Z0l]at h;simp only[Z0l];exact h
theorem Z8y:GP 86 [w.av] M (H3 w).av []:=by have h1:=Mc (s:=w.heap.S) hs w.heap.P.length (Le _);have h2:=P3 w.rep.freed w.heap.S w.heap.P w.heap.P.length;exact gF [] func86 [] (FAx 6 10 Z0.dv w.heap.P (by(simp[H3, *];omega)) (FAx 13 17 wdv w.heap.W (by(simp[H3, *];omega)) (Fu (@Zft w aa aa aa aa aa) Fz)))
end
def R1:Rep:=⟨0,0,0,0,0,0⟩
def Z2B{h}{l:List Int}(e:Bw h l=Y):Bg h=⟨0,0,0⟩:=by simp only[Bw,Lu,decide_eq_true_eq]at e;exact e.1
section
variable (h:Heap) (s k:List Int) (c:Zx h.W) (hs:s.length<=1048575) (hk:k.length<=1048575) (b:EA s) (a:EA k)
include c hs hk b a
theorem ZhO(hp:Z8 h=M):GP 36 [h.av,Z3 s,Z3 k] M (.tu [B6.av,Z3 [],Z3 [],.ag R1.cells,int 1]) []:=by exact gF [] func36 [] (Fc 20 (@CH h) (Ftb 21 (!Z8 h) (Fnl (Fnl (Fnl (Fnl Fz))))))
theorem ZaP(hp:Z8 h=Y)(d:Bw h s=M\/Bw h k=M):GP 36 [h.av,Z3 s,Z3 k] M (.tu [B6.av,Z3 [],Z3 [],.ag R1.cells,int 19]) []:=by
 by_cases f:Bw h s=M;exact gF [] func36 [] (Fc 20 (@CH h) (Ffb 21 (!Z8 h) (Fc 26 (@N5 h s aa oq) (FcG 31 (!!Bw h s) (λe=>by(try simp only[bs]at e);exact@Z6I h k aa (by(try simp only[bs]at e);grind[B6,R1])) (Fts 33 (!Bw h s||Y) (Fnl (Fnl (Fnl (Fnl Fz)))))))));have h2:Bw h k=M:=by(rcases d with d|d;exact absurd d f;exact d)
 exact gF [] func36 [] (Fc 20 (@CH h) (Ffb 21 (!Z8 h) (Fc 26 (@N5 h s aa oq) (FcG 31 (!!Bw h s) (λe=>by(try simp only[bs]at e);exact@N5 h k aa oq) (Ftb 33 (!Bw h s||!Bw h k) (Fnl (Fnl (Fnl (Fnl Fz)))))))))
theorem Zh6(f:Z8 h=Y)(g:Bw h s=Y)(i:Bw h k=Y)(e:¬ (rootsF (Zq h) s).2.2=0):GP 36 [h.av,Z3 s,Z3 k] M (.tu [B6.av,Z3 [],Z3 [],.ag R1.cells,int (rootsF (Zq h) s).2.2]) []:=by have hb:=Nr c f;have d:=Z2B g;exact gF [] func36 [] (Fc 20 (@CH h) (Ffb 21 (!Z8 h) (Fc 26 (@N5 h s aa oq) (FcG 31 (!!Bw h s) (λd=>by(try simp only[bs]at d);exact@N5 h k aa oq) (Ffs 33 (!Bw h s||!Bw h k) (Fc 38 (@Pa h aa aa aa) (Fc 44 (@O5 (Zq h) s aa aa aa) (Ftb 49 ((rootsF (Zq h) s).2.2 != 0) (Fnl (Fnl (Fnl (Fnl Fz))))))))))))
theorem ZcJ(f:Z8 h=Y)(l:Bw h s=Y)(m:Bw h k=Y)(e:(rootsF (Zq h) s).2.2=0)(e2:¬ (Bs (rootsF (Zq h) s).1).2=0):GP 36 [h.av,Z3 s,Z3 k] M (.tu [B6.av,Z3 [],Z3 [],.ag R1.cells,int (Bs (rootsF (Zq h) s).1).2]) []:=by have g:=Nr c f;have hi:=Ri f;have d:=Z2B l;have i:=Sl (roots:=s) g hi e;have j:=i.1;exact gF [] func36 [] (Fc 20 (@CH h) (Ffb 21 (!Z8 h) (Fc 26 (@N5 h s aa oq) (FcG 31 (!!Bw h s) (λd=>by(try simp only[bs]at d);exact@N5 h k aa oq) (Ffs 33 (!Bw h s||!Bw h k) (Fc 38 (@Pa h aa aa aa) (Fc 44 (@O5 (Zq h) s aa aa aa) (Ffb 49 ((rootsF (Zq h) s).2.2 != 0) (Fc 55 (@Z1Q ((rootsF (Zq h) s).1) aa) (Ftb 59 ((Bs (rootsF (Zq h) s).1).2 != 0) (Fnl (Fnl (Fnl (Fnl Fz))))))))))))))
end
def It(w:Z7)(x:Int):Int:=if x=0 then 0 else C3 w x
def Hu(w:Z7)(x:Int):Z7:=⟨w.heap,w.old,w.T,w.Q,w.D,⟨w.rep.copied,w.rep.kept,w.rep.filled,w.rep.freed,if x≠0/\C3 w x=0 then w.rep.cleared+1 else w.rep.cleared,w.rep.steps⟩⟩
def EB(w:Z7)(k:List Int):Nat->Z7|0=>w|i+1=>Hu (EB w k i) (k.getD i X)
def En(w:Z7)(k:List Int):Nat->List Int|0=>[]|i+1=>En w k i++[It (EB w k i) (k.getD i X)]
def RL w k:∀i,(EB w k i).heap=w.heap/\(EB w k i).old=w.old/\(EB w k i).T=w.T/\(EB w k i).Q=w.Q/\(EB w k i).rep.filled=w.rep.filled/\(EB w k i).rep.freed=w.rep.freed/\w.rep.cleared<=(EB w k i).rep.cleared/\(EB w k i).rep.cleared<=w.rep.cleared+i
 |0=>⟨rfl,rfl,rfl,rfl,rfl,rfl,by simp[EB],by simp[EB]⟩
 |i+1=>by
  obtain⟨a,b,c,h4,d,e,h7,h8⟩:=RL w k i;refine⟨a,b,c,h4,d,e, ?_, ?_⟩
  .simp only[EB,Hu];split<;>omega
  .simp only[EB,Hu];split<;>omega
def TT w k:∀i,(En w k i).length=i|0=>rfl|i+1=>by simp[En,TT w k i]
def PN(w:Z7)(k roots out:List Int)(i:Nat):Tg:=⟨tm 122 [(2,Z3 k),(6,.pt 8006 0 0),(7,.d (.sl 0 [])),(8,.d (.sl 0 [])),(9,.pt 8009 0 0),(10,int 0),(11,.pt 32011 0 0),(13,Z3 roots),(15,.ow 72015),(16,int i)],[(72015,.arr 35 1 (out.map wdv)),(32011,.box 138 w.cells),(8009,.box 73 [int 0,int 0,int 0,int 0,int 0,int 0]),(8006,.box 28 [int 0,int 0,.d (.sl 0 []),.d (.sl 0 []),int 0,int 0])],60⟩
section
variable (w:Z7) (k roots out:List Int) (i:Nat) (hw:Zx w.heap.W) (hl:w.heap.W.length<=4096) (hq:w.Q.length<=1048576) (hk:k.length<=1048575) (hx:0<=k.getD i X/\k.getD i X<=18446744073709551615) (ho:out.length<=1048576) (hi:i<k.length) (hc:0<=w.rep.cleared/\w.rep.cleared<=2097152)
include hw hl hq hk hx ho hi hc
theorem ZfH:CP (Zm f36 0) (PN w k roots out i).st .nrm (PN (Hu w (k.getD i X)) k roots (out++[It w (k.getD i X)]) (i+1)).st:=by
 by_cases d:k.getD i X=0;have e:It w (k.getD i X)=0:=by rw[It,if_pos d]
 have c:Hu w (k.getD i X)=w:=by rw[Hu,if_neg (by rintro⟨q,_⟩;exact q d)]
 rw[e,c];exact sF [(504091,72015)] [] (Fh 91 [.els (Z wdv (out++[0]))] (FN 65 66 71 wdv k i (Ffb 73 (k.getD i X != 0) (Fs 90 (Z wdv [0]) (Fa (by(simp[*];omega):(Z wdv out).length+(Z wdv [0]).length<=2^30) (Fa (ms:Z wdv out++Z wdv [0]=Z wdv (out++[0])) (Fx 68 i Fz)))))));have e:It w (k.getD i X)=C3 w (k.getD i X):=by rw[It,if_neg d]
 rw[e];by_cases f:C3 w (k.getD i X)=0;have c:Hu w (k.getD i X)=⟨w.heap,w.old,w.T,w.Q,w.D,⟨w.rep.copied,w.rep.kept,w.rep.filled,w.rep.freed,w.rep.cleared+1,w.rep.steps⟩⟩:=by rw[Hu,if_pos ⟨d,f⟩]
 rw[c];let a:=k.getD i X;exact sF [(528091,72015)] [] (Fh 91 [.els (Z wdv (out++[C3 w a]))] (FN 65 66 71 wdv k i (Ftb 73 (k.getD i X != 0) (Fek 77 wdv k (↑i) i (Fc 79 (@Z4B w a aa aa aa aa) (Ftb 81 (C3 w a==0) (Fi 85 (w.rep.cleared+1) (Fs 90 (Z wdv [C3 w a]) (Fa (by(simp[*];omega):(Z wdv out).length+(Z wdv [C3 w a]).length<=2^30) (Fa (ms:Z wdv out++Z wdv [C3 w a]=Z wdv (out++[C3 w a])) (Fx 68 i Fz)))))))))));have c:Hu w (k.getD i X)=w:=by rw[Hu,if_neg (by rintro⟨_,q⟩;exact f q)]
 rw[c];let b:=k.getD i X;exact sF [(520091,72015)] [] (Fh 91 [.els (Z wdv (out++[C3 w b]))] (FN 65 66 71 wdv k i (Ftb 73 (k.getD i X != 0) (Fek 77 wdv k (↑i) i (Fc 79 (@Z4B w b aa aa aa aa) (Ffb 81 (C3 w b==0) (Fs 90 (Z wdv [C3 w b]) (Fa (by(simp[*];omega):(Z wdv out).length+(Z wdv [C3 w b]).length<=2^30) (Fa (ms:Z wdv out++Z wdv [C3 w b]=Z wdv (out++[C3 w b])) (Fx 68 i Fz))))))))))
end
def ZcS w k roots out:CP (Zm f36 0) (PN w k roots out k.length).st (.ext 0) (Tg.st ⟨tm 122 [(6,.pt 8006 0 0),(7,.d (.sl 0 [])),(8,.d (.sl 0 [])),(9,.pt 8009 0 0),(10,int 0),(11,.pt 32011 0 0),(13,Z3 roots),(15,.ow 72015)],[(72015,.arr 35 1 (out.map wdv)),(32011,.box 138 w.cells),(8009,.box 73 [int 0,int 0,int 0,int 0,int 0,int 0]),(8006,.box 28 [int 0,int 0,.d (.sl 0 []),.d (.sl 0 []),int 0,int 0])],60⟩):=by exact sF [] [] (FO 65 66 wdv k Fz)
def Z6E(w:Z7)(k roots:List Int)(c:Zx w.heap.W)(hl:w.heap.W.length<=4096)(b:w.Q.length<=1048576)(a:k.length<=1048575)(d:EA k)(hc:w.rep.cleared=0):CP (Zj f36 0) (PN (EB w k 0) k roots (En w k 0) 0).st .nrm (Tg.st ⟨tm 122 [(6,.pt 8006 0 0),(7,.d (.sl 0 [])),(8,.d (.sl 0 [])),(9,.pt 8009 0 0),(10,int 0),(11,.pt 32011 0 0),(13,Z3 roots),(15,.ow 72015)],[(72015,.arr 35 1 ((En w k k.length).map wdv)),(32011,.box 138 (EB w k k.length).cells),(8009,.box 73 [int 0,int 0,int 0,int 0,int 0,int 0]),(8006,.box 28 [int 0,int 0,.d (.sl 0 []),.d (.sl 0 []),int 0,int 0])],60⟩):=by refine Br (S:=λi=>(PN (EB w k i) k roots (En w k i) i).st) k.length kr (λi hi=>?_) (ZcS _ k roots _);have h:=RL w k i;exact ZfH _ k roots _ i (by rw[h.1];exact c) (by rw[h.1];exact hl) (by rw[h.2.2.2.1];exact b) a (D9 d i) (by rw[TT];omega) hi oq
abbrev cB(h:Heap)(s k:List Int):Z7:=EB (Bs (rootsF (Zq h) s).1).1 k k.length
abbrev cA(h:Heap)(s k:List Int):Z7:=Ch (cB h s k) (cB h s k).old.length
def ZbL{n:Int}(h:0<=n/\n<=255):(Z6 (1+16*n)).1.length=n:=by
 have e:EL (1+16*n)=⟨0,n,0⟩:=by(simp only[EL,Zy.mk.injEq];omega)
 have a:=Dz h;unfold Z6;rw[e,a];simp
def Zi4{w:Z7}(h:Bu w){x:Int}(hx:x∈w.old):Bu (GK w x):=by
 unfold GK;split
 .rename_i hc;have hr:=h.r x (Lh _ hx);have hh:=Bo w.heap.W x;have hl:(BF ⟨0,(Zv w x).length,0⟩).length=(Zl w.heap.W x+1).toNat:=by
   show(BF ⟨0,Zl w.heap.W x,0⟩).length=_;simp[BF];omega
  have hin:4096<=x/\x-4096+(BF ⟨0,(Zv w x).length,0⟩).length<=w.heap.W.length:=by omega
  have hlen:(ZS w.heap.W x (BF ⟨0,(Zv w x).length,0⟩)).1.length=w.heap.W.length:=by
   unfold ZS;rw[if_pos hin];exact Ng oq
  have:=h.withWords hlen (λa ha=>?_)
  .exact⟨this.L,this.r,this.s,this.f,this.z⟩
  .by_cases he:a=x
   .subst he;have:Zl (ZS w.heap.W a (BF ⟨0,(Zv w a).length,0⟩)).1 a=Zl w.heap.W a:=by
     have e1:=RU (b:=a) hin oq;unfold Zl at *;rw[e1];have e2:(BF ⟨0,(Zv w a).length,0⟩).getD (a-a).toNat 0=1+16*(Z6 (Z1 w.heap.W a).1).1.length:=by
      rw[Int.sub_self];show(Zt ⟨0,(Zv w a).length,0⟩).1=_;rw[Dz (show 0<=(Zv w a).length/\(Zv w a).length<=255 from hh)];rfl
     rw[e2];exact ZbL hh
    omega
   .have s1:=h.s a ha x (Lh _ hx);have s2:=h.s x (Lh _ hx) a ha;have ha0:=Bo w.heap.W a;have:Zl (ZS w.heap.W x (BF ⟨0,(Zv w x).length,0⟩)).1 a=Zl w.heap.W a:=by
     have e1:=Aa (b:=a) hin (by
      rcases Int.lt_or_lt_of_ne he with q|q
      .exact La q
      .have:=s2 q;exact Lb oq)
     unfold Zl;rw[e1]
    omega
 .exact h
def Z3X{w}(a:FOk w)(h:Bu w):∀k,k<=w.old.length->Bu (Ch w k)|0,_=>h|k+1,hk=>Zi4 (Z3X a h k oq) (by rw[(HN w a k).2.2.2.2.2.1];exact Bm.2 ⟨k,by omega,rfl⟩)
def Z51{w}(h:Bu w) k:∀i,Bu (EB w k i)
 |0=>h
 |i+1=>by
  have a:=Z51 h k i;exact⟨a.L,a.r,a.s,a.f,a.z⟩
def Z5h{w}(h:FOk w) k:∀i,FOk (EB w k i)
 |0=>h
 |i+1=>by
  have a:=Z5h h k i;exact⟨a.W,a.wl,a.pl,a.ol,a.o,a.tl,a.ql⟩
def ZI(h:Heap)(s:List Int):Z7:=(Bs (rootsF (Zq h) s).1).1
def Cs(h:Heap)(s k:List Int):Z7:=EB (ZI h s) k k.length
def Cw(h:Heap)(s k:List Int):Z7:=Ch (Cs h s k) (Cs h s k).old.length
def Bv(h:Heap)(s k:List Int):Z7:=H3 (Cw h s k)
def Eh(w:Z7):Heap:=⟨w.heap.C,w.heap.W,w.heap.P,1-w.heap.S,if 0<w.T.length then ZF w else -1⟩
structure COk (h:Heap) (s k:List Int):Prop where
 w2:B7 (ZI h s)
 i2:Bu (ZI h s)
 x2:Gl (Zq h) (ZI h s)
 f3:FOk (Cs h s k)
 i3:Bu (Cs h s k)
 r3:(Cs h s k).rep.filled=0/\(Cs h s k).rep.freed=0
 f4:FOk (Cw h s k)
 i4:Bu (Cw h s k)
 h4:(Cw h s k).heap.C=h.C/\(Cw h s k).heap.P=(ZI h s).heap.P/\(Cw h s k).heap.S=(ZI h s).heap.S/\(Cw h s k).T=(ZI h s).T/\(Cw h s k).rep.freed=0
section
variable (h:Heap) (s k:List Int) (d:Zx h.W) (a:Z8 h=Y) (e:(rootsF (Zq h) s).2.2=0) (b:(Bs (rootsF (Zq h) s).1).2=0)
include d a e b
theorem cOk:COk h s k:=by have u:=Nr d a;have hi:=Ri a;have f:=Sl (roots:=s) u hi e;have w2:B7 (ZI h s):=Zic _ f.1 b;have i2:=Z8i f.1 f.2.1 b;have x2:Gl (Zq h) (ZI h s):=f.2.2.1.trans i2.2;have f3:FOk (Cs h s k):=Z5h w2.fok k _;have i3:Bu (Cs h s k):=Z51 i2.1 k _;obtain⟨a1,a2,g,a4,i,j,a7,a8⟩:=RL (ZI h s) k k.length;have c:=w2.r0;have r3:(Cs h s k).rep.filled=0/\(Cs h s k).rep.freed=0:=⟨i.trans c.1,j.trans c.2.1⟩;obtain⟨l,m,p,q,b4,b5,r,b7,t,b9,n,o⟩:=HN (Cs h s k) f3 (Cs h s k).old.length;refine⟨w2,i2.1,x2,f3,i3,r3,l,Z3X f3 i3 _ (Le _), ?_, ?_, ?_, ?_, ?_⟩;show(Ch (Cs h s k) (Cs h s k).old.length).heap.C=_;rw[m];show(EB (ZI h s) k k.length).heap.C=_;rw[a1];exact x2.c;show(Ch (Cs h s k) (Cs h s k).old.length).heap.P=_;rw[p];show(EB (ZI h s) k k.length).heap.P=_;rw[a1];show(Ch (Cs h s k) (Cs h s k).old.length).heap.S=_;rw[q];show(EB (ZI h s) k k.length).heap.S=_;rw[a1];show(Ch (Cs h s k) (Cs h s k).old.length).T=_;rw[r];exact g;show(Ch (Cs h s k) (Cs h s k).old.length).rep.freed=_;rw[t];exact r3.2
theorem Z1J:(Cw h s k).heap.P.length<=64/\0<=(Cw h s k).heap.C.pw/\(Cw h s k).heap.C.pw<=64/\(Cw h s k).heap.P.length*(Cw h s k).heap.C.pw.toNat<=(Cw h s k).heap.W.length/\(Cw h s k).heap.W.length<=4096:=by
 have c:=cOk h s k d a e b;have po:=B1 a;have hL:=c.i4.L;have f:=c.w2.pl;have g:=c.x2.c;have j:(ZI h s).heap.C=h.C:=g;rw[j]at f;rw[c.h4.1]at hL;have i:=c.f4.wl;rw[c.h4.1,c.h4.2.1];refine⟨by omega,by omega,by omega, ?_,i⟩;have:(((ZI h s).heap.P.length*h.C.pw.toNat:Nat):Int)=h.C.pw*h.C.pg:=by(rw[LO,Lz oq,f,LK])
 omega
end
def collectF(h:Heap)(s k:List Int):Heap×List Int×List Int×Rep×Int:=
 if Z8 h=Y then
  (if Bw h s=Y/\Bw h k=Y then
   (if(rootsF (Zq h) s).2.2=0 then
    (if(Bs (rootsF (Zq h) s).1).2=0 then(Eh (Bv h s k),(rootsF (Zq h) s).2.1,En (ZI h s) k k.length,(Bv h s k).rep,0)
    else(B6,[],[],R1,(Bs (rootsF (Zq h) s).1).2))
   else(B6,[],[],R1,(rootsF (Zq h) s).2.2))
  else(B6,[],[],R1,19))
 else(B6,[],[],R1,1)
section
variable (h:Heap) (s k:List Int) (hw:Zx h.W) (hs:s.length<=1048575) (hk:k.length<=1048575) (hs2:EA s) (hk2:EA k)
include hw hs hk hs2 hk2
theorem Zd4(hp:Z8 h=Y)(hr:Bw h s=Y)(hr':Bw h k=Y)(e:(rootsF (Zq h) s).2.2=0)(e2:(Bs (rootsF (Zq h) s).1).2=0):GP 36 [h.av,Z3 s,Z3 k] M (.tu [(Eh (Bv h s k)).av,Z3 (rootsF (Zq h) s).2.1,Z3 (En (ZI h s) k k.length),.ag (Bv h s k).rep.cells,int 0]) []:=by have hb:=Nr hw hp;have hi:=Ri hp;have hg:=Z2B hr;have ho:=Sl (roots:=s) hb hi e;have ho1:=ho.1;have ho4:=ho.2.2.2.2;have c:=cOk h s k hw hp e e2;obtain⟨q1,q2,q3,q4,q5⟩:=Z1J h s k hw hp e e2;have w2:=c.w2;have f3:=c.f3;have r3:=c.r3.1;obtain⟨g1,g2,g3,g4,g5⟩:=c.h4;have v1:=w2.W;have v2:=w2.wl;have v3:=w2.mu;have v4:=w2.tl;have v5:=w2.sp;have v6:=w2.r0.2.2;have v7:=congrArg LU g4;have z1:(Bv h s k).T=(Cw h s k).T:=rfl;have v8:=congrArg LU z1;have z2:(Bv h s k).heap.S=(Cw h s k).heap.S:=rfl;clear c;rcases bb (O (0<(↑(Bv h s k).T.length:Int)))with hc0|hc0<;>have hc0p:=hc0<;>simp only[bs]at hc0p;rw[show Eh (Bv h s k)=Heap.mk (Bv h s k).heap.C (Bv h s k).heap.W (Bv h s k).heap.P ((1:Int)-(Bv h s k).heap.S) ((Bv h s k).T.getD ((↑(Bv h s k).T.length:Int)-(1:Int)).toNat X)from by(simp only[Eh,ZF] ;exact sj)];refine Zc [((20:Nat),[Hint.call Y (Sx.bool (Z8 h)) []]),((21:Nat),[Hint.br M]),((26:Nat),[Hint.call Y (Sx.bool (Bw h s)) []]),((31:Nat),[Hint.call Y (Sx.bool (Bw h k)) []]),((33:Nat),[Hint.br M]),((38:Nat),[Hint.call M (AV.tu [(Zq h).av,int (0:Int)]) []]),((44:Nat),[Hint.call M (AV.tu [(rootsF (Zq h) s).1.av,Z3 (rootsF (Zq h) s).2.1,int (rootsF (Zq h) s).2.2]) []]),((49:Nat),[Hint.br M]),((55:Nat),[Hint.call M (AV.tu [(ZI h s).av,int (Bs (rootsF (Zq h) s).1).2]) []]),((59:Nat),[Hint.br M]),((15:Nat),[Hint.own]),((93:Nat),[Hint.call M (Cw h s k).av []]),((94:Nat),[Hint.call M (Bv h s k).av []]),((98:Nat),[Hint.int ((1:Int)-(Bv h s k).heap.S)]),((105:Nat),[Hint.int (↑(Bv h s k).T.length:Int)]),((107:Nat),[Hint.br Y]),((111:Nat),[Hint.int ((↑(Bv h s k).T.length:Int)-(1:Int))]),((112:Nat),[Hint.el (idv ((Bv h s k).T.getD ((↑(Bv h s k).T.length:Int)-(1:Int)).toNat X))])] [((0:Nat),Tg.mk (tm (122:Nat) [((2:Nat),Z3 k),((6:Nat),AV.pt (8006:Nat) (0:Nat) (0:Nat)),((7:Nat),AV.d (DV.sl (0:Nat) [])),((8:Nat),AV.d (DV.sl (0:Nat) [])),((9:Nat),AV.pt (8009:Nat) (0:Nat) (0:Nat)),((10:Nat),int (0:Int)),((11:Nat),AV.pt (32011:Nat) (0:Nat) (0:Nat)),((13:Nat),Z3 (rootsF (Zq h) s).2.1),((15:Nat),AV.ow (72015:Nat)),((16:Nat),int (0:Int))]) [((72015:Nat),Z4.arr 35 (1:Nat) []),((32011:Nat),Z4.box 138 (ZI h s).cells),((8009:Nat),Z4.box 73 [int (0:Int),int (0:Int),int (0:Int),int (0:Int),int (0:Int),int (0:Int)]),((8006:Nat),Z4.box 28 [int (0:Int),int (0:Int),AV.d (DV.sl (0:Nat) []),AV.d (DV.sl (0:Nat) []),int (0:Int),int (0:Int)])] (60:Nat),Ex.nrm,Tg.mk (tm (122:Nat) [((6:Nat),AV.pt (8006:Nat) (0:Nat) (0:Nat)),((7:Nat),AV.d (DV.sl (0:Nat) [])),((8:Nat),AV.d (DV.sl (0:Nat) [])),((9:Nat),AV.pt (8009:Nat) (0:Nat) (0:Nat)),((10:Nat),int (0:Int)),((11:Nat),AV.pt (32011:Nat) (0:Nat) (0:Nat)),((13:Nat),Z3 (rootsF (Zq h) s).2.1),((15:Nat),AV.ow (72015:Nat))]) [((72015:Nat),Z4.arr 35 (1:Nat) (Z wdv (En (ZI h s) k k.length))),((32011:Nat),Z4.box 138 (Cs h s k).cells),((8009:Nat),Z4.box 73 [int (0:Int),int (0:Int),int (0:Int),int (0:Int),int (0:Int),int (0:Int)]),((8006:Nat),Z4.box 28 [int (0:Int),int (0:Int),AV.d (DV.sl (0:Nat) []),AV.d (DV.sl (0:Nat) []),int (0:Int),int (0:Int)])] (60:Nat))] [] dd func36 [] (φ:=GP 65 [h.av] Y (Sx.bool (Z8 h)) []/\(!Z8 h)=M/\M=M/\GP 42 [h.av,Z3 s] Y (Sx.bool (Bw h s)) []/\((!!Bw h s)=Y->GP 42 [h.av,Z3 k] Y (Sx.bool (Bw h k)) [])/\(!Bw h s||!Bw h k)=M/\M=M/\GP 82 [h.av] M (AV.tu [(Zq h).av,int (0:Int)]) []/\GP 83 [(Zq h).av,Z3 s] M (AV.tu [(rootsF (Zq h) s).1.av,Z3 (rootsF (Zq h) s).2.1,int (rootsF (Zq h) s).2.2]) []/\((rootsF (Zq h) s).2.2 != (0:Int))=M/\M=M/\GP 84 [(rootsF (Zq h) s).1.av] M (AV.tu [(ZI h s).av,int (Bs (rootsF (Zq h) s).1).2]) []/\((Bs (rootsF (Zq h) s).1).2 != (0:Int))=M/\M=M/\CP (Zj f36 (0:Nat)) (Tg.mk (tm (122:Nat) [((2:Nat),Z3 k),((6:Nat),AV.pt (8006:Nat) (0:Nat) (0:Nat)),((7:Nat),AV.d (DV.sl (0:Nat) [])),((8:Nat),AV.d (DV.sl (0:Nat) [])),((9:Nat),AV.pt (8009:Nat) (0:Nat) (0:Nat)),((10:Nat),int (0:Int)),((11:Nat),AV.pt (32011:Nat) (0:Nat) (0:Nat)),((13:Nat),Z3 (rootsF (Zq h) s).2.1),((15:Nat),AV.ow (72015:Nat)),((16:Nat),int (0:Int))]) [((72015:Nat),Z4.arr 35 (1:Nat) []),((32011:Nat),Z4.box 138 (ZI h s).cells),((8009:Nat),Z4.box 73 [int (0:Int),int (0:Int),int (0:Int),int (0:Int),int (0:Int),int (0:Int)]),((8006:Nat),Z4.box 28 [int (0:Int),int (0:Int),AV.d (DV.sl (0:Nat) []),AV.d (DV.sl (0:Nat) []),int (0:Int),int (0:Int)])] (60:Nat)).st Ex.nrm (Tg.mk (tm (122:Nat) [((6:Nat),AV.pt (8006:Nat) (0:Nat) (0:Nat)),((7:Nat),AV.d (DV.sl (0:Nat) [])),((8:Nat),AV.d (DV.sl (0:Nat) [])),((9:Nat),AV.pt (8009:Nat) (0:Nat) (0:Nat)),((10:Nat),int (0:Int)),((11:Nat),AV.pt (32011:Nat) (0:Nat) (0:Nat)),((13:Nat),Z3 (rootsF (Zq h) s).2.1),((15:Nat),AV.ow (72015:Nat))]) [((72015:Nat),Z4.arr 35 (1:Nat) (Z wdv (En (ZI h s) k k.length))),((32011:Nat),Z4.box 138 (Cs h s k).cells),((8009:Nat),Z4.box 73 [int (0:Int),int (0:Int),int (0:Int),int (0:Int),int (0:Int),int (0:Int)]),((8006:Nat),Z4.box 28 [int (0:Int),int (0:Int),AV.d (DV.sl (0:Nat) []),AV.d (DV.sl (0:Nat) []),int (0:Int),int (0:Int)])] (60:Nat)).st/\GP 87 [(Cs h s k).av] M (Cw h s k).av []/\GP 86 [(Cw h s k).av] M (Bv h s k).av []/\Lq.wrap ((1:Int)-(Bv h s k).heap.S)=(1:Int)-(Bv h s k).heap.S/\(↑(Z idv (Bv h s k).T).length:Int)=(↑(Bv h s k).T.length:Int)/\O ((0:Int)<(↑(Bv h s k).T.length:Int))=Y/\Y=Y/\Lq.wrap ((↑(Bv h s k).T.length:Int)-(1:Int))=(↑(Bv h s k).T.length:Int)-(1:Int)/\(0:Int)<=(↑(Bv h s k).T.length:Int)-(1:Int)/\(Z idv (Bv h s k).T)[((↑(Bv h s k).T.length:Int)-(1:Int)).toNat]?=some (idv ((Bv h s k).T.getD ((↑(Bv h s k).T.length:Int)-(1:Int)).toNat X))) ?_ kr kr;exact⟨(@CH (h)),(by(simp only[bs];omega)),rfl,(@N5 (h) (s) aa oq),(λhg=>by(try simp only[bs]at hg);exact@N5 (h) (k) (by(try simp only[bs]at hg);assumption) (by(try simp only[bs]at hg);omega)),(by simp only[bs, *,true_or,or_true,true_and,and_true,not_true_eq_false,not_false_eq_true,Bool.true_eq_false,Bool.false_eq_true]),rfl,(@Pa (h) aa aa aa),(@O5 (Zq h) (s) aa aa aa),(by(simp only[bs];omega)),rfl,(@Z1Q ((rootsF (Zq h) s).1) aa),(by(simp only[bs];omega)),rfl,(@Z6E (ZI h s) (k) ((rootsF (Zq h) s).2.1) aa aa oq aa aa aa),(@Z7a (Cs h s k) aa aa),(@Z8y (Cw h s k) aa oq aa aa aa),(by exact Ze rfl oq oq),(by simp only[Lm]),aa,rfl,(by exact Ze rfl oq oq),(by exact Zk oq oq oq)⟩;rw[show Eh (Bv h s k)=Heap.mk (Bv h s k).heap.C (Bv h s k).heap.W (Bv h s k).heap.P ((1:Int)-(Bv h s k).heap.S) (-1:Int)from by rw[Eh,if_neg oq]];let y0:=rootsF (Zq h) s;exact gF [] func36 [] (Fh 15 [.own] (Fc 20 (@CH h) (Ffb 21 (!Z8 h) (Fc 26 (@N5 h s aa oq) (FcG 31 (!!Bw h s) (λhg=>by(try simp only[bs]at hg);exact@N5 h k aa oq) (Ffs 33 (!Bw h s||!Bw h k) (Fc 38 (@Pa h aa aa aa) (Fc 44 (@O5 (Zq h) s aa aa aa) (Ffb 49 (y0.2.2 != 0) (Fc 55 (@Z1Q (y0.1) aa) (Ffb 59 ((Bs y0.1).2 != 0) (Fu (@Z6E (ZI h s) k (y0.2.1) aa aa oq aa aa aa) (Fc 93 (@Z7a (Cs h s k) aa aa) (Fc 94 (@Z8y (Cw h s k) aa oq aa aa aa) (Fi 98 (1-(Bv h s k).heap.S) (Fl 105 idv (Bv h s k).T (Ff 107 hc0 Fz)))))))))))))))))
end
def pinB(w:Zi)(i:Nat)(n:Int):Zi:=⟨⟨w.heap.C,w.heap.W,w.heap.P.set i ⟨(w.heap.P.getD i X).K,(w.heap.P.getD i X).S,(w.heap.P.getD i X).U,(w.heap.P.getD i X).N+n⟩,w.heap.S,w.heap.B⟩,w.G,w.E⟩
def HW(w:Zi)(t:Tape):Nat:=(Z2 w.heap.C (w.pick t)).1.toNat
def Zi.pin(w:Zi)(t:Tape):Zi:=
  if(Z2 w.heap.C (w.pick t)).2.2=0 then
    (if 0<(w.heap.P.getD (HW w t) X).N/\(w.pickT t).next 2=0 then pinB w (HW w t) (-1)
     else if 0<(w.heap.P.getD (HW w t) X).N\/(w.heap.P.getD (HW w t) X).K=2\/(crowd w.heap.P:Int)<w.heap.C.pg/4 then pinB w (HW w t) 1 else w)else w
def Zi.pinT(w:Zi)(t:Tape):Tape:=if(Z2 w.heap.C (w.pick t)).2.2=0/\0<(w.heap.P.getD (HW w t) X).N then(w.pickT t).step 2 else w.pickT t
def ZbX w t(hw:SF w)(ht:Eu t)(ha:t.at'<=1000000)(hv:Zs w.heap.C=Y)(hp:(w.heap.P.length:Int)=w.heap.C.pg)(hpn:∀j,j<w.heap.P.length->-1048576<=(w.heap.P.getD j X).N/\(w.heap.P.getD j X).N<=4294967296):LP 104 [w.av,.pt 0 0 0] [t.b] (w.pin t).av [(w.pinT t).b]:=by
 have hb:=BG.1 hv;have s1:=Z3p w t;have k1:=N3 ht s1.2.2 oq oq;have p1:=A7 hw t;have q1:=hpn (HW w t);have hcr:=RA w.heap.P w.heap.P.length;unfold HW at q1;have o1:=λe=>GH (a:=w.pick t) hv e;by_cases e:(Z2 w.heap.C (w.pick t)).2.2=0;have o2:=o1 e;by_cases c1:0<(w.heap.P.getD (Z2 w.heap.C (w.pick t)).1.toNat X).N
 .have eT:w.pinT t=(w.pickT t).step 2:=by rw[Zi.pinT,if_pos ⟨e,c1⟩]
  by_cases c2:(w.pickT t).next 2=0
  have eP:w.pin t=⟨⟨w.heap.C,w.heap.W,w.heap.P.set (Z2 w.heap.C (w.pick t)).1.toNat ⟨(w.heap.P.getD (Z2 w.heap.C (w.pick t)).1.toNat X).K,(w.heap.P.getD (Z2 w.heap.C (w.pick t)).1.toNat X).S,(w.heap.P.getD (Z2 w.heap.C (w.pick t)).1.toNat X).U,(w.heap.P.getD (Z2 w.heap.C (w.pick t)).1.toNat X).N-1⟩,w.heap.S,w.heap.B⟩,w.G,w.E⟩:=by rw[Zi.pin,if_pos e,if_pos ⟨c1,c2⟩];rfl
  rw[eP,eT];exact lF func104 [] (Fh 42 [.br Y] (Fh 37 [.br Y] (Fh 51 [.el (w.heap.P.getD (Z2 w.heap.C (w.pick t)).1.toNat X).dv] (Fp 12 (@II w t aa aa oq) (Fc 18 (@GF w.heap.C (w.pick t) oq oq) (Ffb 23 ((Z2 w.heap.C (w.pick t)).2.2 != 0) (FA 25 29 Z0.dv w.heap.P (Fmq 41 Z0.dv w.heap.P ((Z2 w.heap.C (w.pick t)).1) (Fb (O (0<(w.heap.P.getD (Z2 w.heap.C (w.pick t)).1.toNat X).N)=Y) (Fp 45 (@CV (w.pickT t) (2) aa oq oq) (Fb (((w.pickT t).next (2:Int)==0)=Y) (Fa (by exact B4 oq:(Z Z0.dv w.heap.P)[(Z2 w.heap.C (w.pick t)).1.toNat]?=some (w.heap.P.getD (Z2 w.heap.C (w.pick t)).1.toNat X).dv) (Fi 52 ((w.heap.P.getD (Z2 w.heap.C (w.pick t)).1.toNat X).N-1) (Fa (by exact B4 oq:(Z Z0.dv w.heap.P)[(Z2 w.heap.C (w.pick t)).1.toNat]?=some (w.heap.P.getD (Z2 w.heap.C (w.pick t)).1.toNat X).dv) (FS 10054 Z0.dv w.heap.P ((Z2 w.heap.C (w.pick t)).1.toNat) (Z0.mk (w.heap.P.getD (Z2 w.heap.C (w.pick t)).1.toNat X).K (w.heap.P.getD (Z2 w.heap.C (w.pick t)).1.toNat X).S (w.heap.P.getD (Z2 w.heap.C (w.pick t)).1.toNat X).U ((w.heap.P.getD (Z2 w.heap.C (w.pick t)).1.toNat X).N-1)) ((w.heap.P.getD (Z2 w.heap.C (w.pick t)).1.toNat X).dv) Fz)))))))))))))));have eP:w.pin t=⟨⟨w.heap.C,w.heap.W,w.heap.P.set (Z2 w.heap.C (w.pick t)).1.toNat ⟨(w.heap.P.getD (Z2 w.heap.C (w.pick t)).1.toNat X).K,(w.heap.P.getD (Z2 w.heap.C (w.pick t)).1.toNat X).S,(w.heap.P.getD (Z2 w.heap.C (w.pick t)).1.toNat X).U,(w.heap.P.getD (Z2 w.heap.C (w.pick t)).1.toNat X).N+1⟩,w.heap.S,w.heap.B⟩,w.G,w.E⟩:=by rw[Zi.pin,if_pos e,if_neg (λq=>c2 q.2),if_pos (.inl c1)];rfl
  rw[eP,eT];exact lF func104 [] (Fh 42 [.br Y] (Fh 37 [.br M] (Fh 59 [.el (w.heap.P.getD (Z2 w.heap.C (w.pick t)).1.toNat X).dv] (Fh 65 [.el (w.heap.P.getD (Z2 w.heap.C (w.pick t)).1.toNat X).dv] (Fh 76 [.int (w.heap.C.pg/4)] (Fh 55 [.br Y] (Fh 82 [.el (w.heap.P.getD (Z2 w.heap.C (w.pick t)).1.toNat X).dv] (Fp 12 (@II w t aa aa oq) (Fc 18 (@GF w.heap.C (w.pick t) oq oq) (Ffb 23 ((Z2 w.heap.C (w.pick t)).2.2 != 0) (FA 25 29 Z0.dv w.heap.P (Fmq 41 Z0.dv w.heap.P ((Z2 w.heap.C (w.pick t)).1) (Fb (O (0<(w.heap.P.getD (Z2 w.heap.C (w.pick t)).1.toNat X).N)=Y) (Fp 45 (@CV (w.pickT t) (2) aa oq oq) (Fb (((w.pickT t).next (2:Int)==0)=M) (Fa (by exact B4 oq:(Z Z0.dv w.heap.P)[(Z2 w.heap.C (w.pick t)).1.toNat]?=some (w.heap.P.getD (Z2 w.heap.C (w.pick t)).1.toNat X).dv) (Fa (by intro hg;(try simp only[bs]at hg);exact B4 oq:(!decide (0<(w.heap.P.getD (Z2 w.heap.C (w.pick t)).1.toNat X).N))=Y->(Z Z0.dv w.heap.P)[(Z2 w.heap.C (w.pick t)).1.toNat]?=some (w.heap.P.getD (Z2 w.heap.C (w.pick t)).1.toNat X).dv) (FcG 71 (!(O (0<(w.heap.P.getD (Z2 w.heap.C (w.pick t)).1.toNat X).N)||(w.heap.P.getD (Z2 w.heap.C (w.pick t)).1.toNat X).K==2)) (λhg=>by(try simp only[bs]at hg);exact@Z1I w.heap oq) (Fa (by intro hg;(try simp only[bs]at hg);rw[E4 oq oq];omega:(!(O (0<(w.heap.P.getD (Z2 w.heap.C (w.pick t)).1.toNat X).N)||(w.heap.P.getD (Z2 w.heap.C (w.pick t)).1.toNat X).K==2))=Y->Lq.wrap (w.heap.C.pg.tdiv 4)=w.heap.C.pg/4) (Fa (by intro hg;(try simp only[bs]at hg);omega:(!(O (0<(w.heap.P.getD (Z2 w.heap.C (w.pick t)).1.toNat X).N)||(w.heap.P.getD (Z2 w.heap.C (w.pick t)).1.toNat X).K==2))=Y->(4:Int)=0->False) (Fb ((O (0<(w.heap.P.getD (Z2 w.heap.C (w.pick t)).1.toNat X).N)||(w.heap.P.getD (Z2 w.heap.C (w.pick t)).1.toNat X).K==2||O ((↑(crowd w.heap.P):Int)<w.heap.C.pg/4))=Y) (Fa (by exact B4 oq:(Z Z0.dv w.heap.P)[(Z2 w.heap.C (w.pick t)).1.toNat]?=some (w.heap.P.getD (Z2 w.heap.C (w.pick t)).1.toNat X).dv) (Fi 83 ((w.heap.P.getD (Z2 w.heap.C (w.pick t)).1.toNat X).N+1) (Fa (by exact B4 oq:(Z Z0.dv w.heap.P)[(Z2 w.heap.C (w.pick t)).1.toNat]?=some (w.heap.P.getD (Z2 w.heap.C (w.pick t)).1.toNat X).dv) (FS 10085 Z0.dv w.heap.P ((Z2 w.heap.C (w.pick t)).1.toNat) (Z0.mk (w.heap.P.getD (Z2 w.heap.C (w.pick t)).1.toNat X).K (w.heap.P.getD (Z2 w.heap.C (w.pick t)).1.toNat X).S (w.heap.P.getD (Z2 w.heap.C (w.pick t)).1.toNat X).U ((w.heap.P.getD (Z2 w.heap.C (w.pick t)).1.toNat X).N+1)) ((w.heap.P.getD (Z2 w.heap.C (w.pick t)).1.toNat X).dv) Fz)))))))))))))))))))))))))
 have eT:w.pinT t=w.pickT t:=by rw[Zi.pinT,if_neg (λq=>c1 q.2)]
 by_cases c3:(w.heap.P.getD (Z2 w.heap.C (w.pick t)).1.toNat X).K=2\/(crowd w.heap.P:Int)<w.heap.C.pg/4;have eP:w.pin t=⟨⟨w.heap.C,w.heap.W,w.heap.P.set (Z2 w.heap.C (w.pick t)).1.toNat ⟨(w.heap.P.getD (Z2 w.heap.C (w.pick t)).1.toNat X).K,(w.heap.P.getD (Z2 w.heap.C (w.pick t)).1.toNat X).S,(w.heap.P.getD (Z2 w.heap.C (w.pick t)).1.toNat X).U,(w.heap.P.getD (Z2 w.heap.C (w.pick t)).1.toNat X).N+1⟩,w.heap.S,w.heap.B⟩,w.G,w.E⟩:=by rw[Zi.pin,if_pos e,if_neg (λq=>c1 q.1),if_pos (.inr c3)];rfl
 rw[eP,eT];exact lF func104 [] (Fh 42 [.br M] (Fh 45 [.bor [0] (int ((w.pickT t).next 2)) [((w.pickT t).step 2).b]] (Fh 59 [.el (w.heap.P.getD (Z2 w.heap.C (w.pick t)).1.toNat X).dv] (Fh 65 [.el (w.heap.P.getD (Z2 w.heap.C (w.pick t)).1.toNat X).dv] (Fh 76 [.int (w.heap.C.pg/4)] (Fh 55 [.br Y] (Fh 82 [.el (w.heap.P.getD (Z2 w.heap.C (w.pick t)).1.toNat X).dv] (Fp 12 (@II w t aa aa oq) (Fc 18 (@GF w.heap.C (w.pick t) oq oq) (Ffb 23 ((Z2 w.heap.C (w.pick t)).2.2 != 0) (FA 25 29 Z0.dv w.heap.P (Fmq 41 Z0.dv w.heap.P ((Z2 w.heap.C (w.pick t)).1) (Fb (O (0<(w.heap.P.getD (Z2 w.heap.C (w.pick t)).1.toNat X).N)=M) (Fa (by exact B4 oq:(Z Z0.dv w.heap.P)[(Z2 w.heap.C (w.pick t)).1.toNat]?=some (w.heap.P.getD (Z2 w.heap.C (w.pick t)).1.toNat X).dv) (Fa (by intro hg;(try simp only[bs]at hg);exact B4 oq:(!decide (0<(w.heap.P.getD (Z2 w.heap.C (w.pick t)).1.toNat X).N))=Y->(Z Z0.dv w.heap.P)[(Z2 w.heap.C (w.pick t)).1.toNat]?=some (w.heap.P.getD (Z2 w.heap.C (w.pick t)).1.toNat X).dv) (FcG 71 (!(O (0<(w.heap.P.getD (Z2 w.heap.C (w.pick t)).1.toNat X).N)||(w.heap.P.getD (Z2 w.heap.C (w.pick t)).1.toNat X).K==2)) (λhg=>by(try simp only[bs]at hg);exact@Z1I w.heap oq) (Fa (by intro hg;(try simp only[bs]at hg);rw[Lw oq,E4 oq oq]:(!(O (0<(w.heap.P.getD (Z2 w.heap.C (w.pick t)).1.toNat X).N)||(w.heap.P.getD (Z2 w.heap.C (w.pick t)).1.toNat X).K==2))=Y->Lq.wrap (w.heap.C.pg.tdiv 4)=w.heap.C.pg/4) (Fa (by intro hg;(try simp only[bs]at hg);omega:(!(O (0<(w.heap.P.getD (Z2 w.heap.C (w.pick t)).1.toNat X).N)||(w.heap.P.getD (Z2 w.heap.C (w.pick t)).1.toNat X).K==2))=Y->(4:Int)=0->False) (Fb ((O (0<(w.heap.P.getD (Z2 w.heap.C (w.pick t)).1.toNat X).N)||(w.heap.P.getD (Z2 w.heap.C (w.pick t)).1.toNat X).K==2||O ((↑(crowd w.heap.P):Int)<w.heap.C.pg/4))=Y) (Fa (by exact B4 oq:(Z Z0.dv w.heap.P)[(Z2 w.heap.C (w.pick t)).1.toNat]?=some (w.heap.P.getD (Z2 w.heap.C (w.pick t)).1.toNat X).dv) (Fi 83 ((w.heap.P.getD (Z2 w.heap.C (w.pick t)).1.toNat X).N+1) (Fa (by exact B4 oq:(Z Z0.dv w.heap.P)[(Z2 w.heap.C (w.pick t)).1.toNat]?=some (w.heap.P.getD (Z2 w.heap.C (w.pick t)).1.toNat X).dv) (FS 10085 Z0.dv w.heap.P ((Z2 w.heap.C (w.pick t)).1.toNat) (Z0.mk (w.heap.P.getD (Z2 w.heap.C (w.pick t)).1.toNat X).K (w.heap.P.getD (Z2 w.heap.C (w.pick t)).1.toNat X).S (w.heap.P.getD (Z2 w.heap.C (w.pick t)).1.toNat X).U ((w.heap.P.getD (Z2 w.heap.C (w.pick t)).1.toNat X).N+1)) ((w.heap.P.getD (Z2 w.heap.C (w.pick t)).1.toNat X).dv) Fz)))))))))))))))))))))));have eP:w.pin t=w:=by rw[Zi.pin,if_pos e,if_neg (λq=>c1 q.1),if_neg (λq=>q.elim c1 c3)]
 rw[eP,eT];exact lF func104 [] (Fh 42 [.br M] (Fh 45 [.bor [0] (int ((w.pickT t).next 2)) [((w.pickT t).step 2).b]] (Fh 59 [.el (w.heap.P.getD (Z2 w.heap.C (w.pick t)).1.toNat X).dv] (Fh 65 [.el (w.heap.P.getD (Z2 w.heap.C (w.pick t)).1.toNat X).dv] (Fh 76 [.int (w.heap.C.pg/4)] (Fh 55 [.br M] (Fp 12 (@II w t aa aa oq) (Fc 18 (@GF w.heap.C (w.pick t) oq oq) (Ffb 23 ((Z2 w.heap.C (w.pick t)).2.2 != 0) (FA 25 29 Z0.dv w.heap.P (Fmq 41 Z0.dv w.heap.P ((Z2 w.heap.C (w.pick t)).1) (Fb (O (0<(w.heap.P.getD (Z2 w.heap.C (w.pick t)).1.toNat X).N)=M) (Fa (by exact B4 oq:(Z Z0.dv w.heap.P)[(Z2 w.heap.C (w.pick t)).1.toNat]?=some (w.heap.P.getD (Z2 w.heap.C (w.pick t)).1.toNat X).dv) (Fa (by intro hg;(try simp only[bs]at hg);exact B4 oq:(!decide (0<(w.heap.P.getD (Z2 w.heap.C (w.pick t)).1.toNat X).N))=Y->(Z Z0.dv w.heap.P)[(Z2 w.heap.C (w.pick t)).1.toNat]?=some (w.heap.P.getD (Z2 w.heap.C (w.pick t)).1.toNat X).dv) (FcG 71 (!(O (0<(w.heap.P.getD (Z2 w.heap.C (w.pick t)).1.toNat X).N)||(w.heap.P.getD (Z2 w.heap.C (w.pick t)).1.toNat X).K==2)) (λhg=>by(try simp only[bs]at hg);exact@Z1I w.heap oq) (Fa (by intro hg;(try simp only[bs]at hg);rw[Lw oq,E4 oq oq]:(!(O (0<(w.heap.P.getD (Z2 w.heap.C (w.pick t)).1.toNat X).N)||(w.heap.P.getD (Z2 w.heap.C (w.pick t)).1.toNat X).K==2))=Y->Lq.wrap (w.heap.C.pg.tdiv 4)=w.heap.C.pg/4) (Fa (by intro hg;(try simp only[bs]at hg);omega:(!(O (0<(w.heap.P.getD (Z2 w.heap.C (w.pick t)).1.toNat X).N)||(w.heap.P.getD (Z2 w.heap.C (w.pick t)).1.toNat X).K==2))=Y->(4:Int)=0->False) (Fb ((O (0<(w.heap.P.getD (Z2 w.heap.C (w.pick t)).1.toNat X).N)||(w.heap.P.getD (Z2 w.heap.C (w.pick t)).1.toNat X).K==2||O ((↑(crowd w.heap.P):Int)<w.heap.C.pg/4))=M) Fz))))))))))))))))));have eP:w.pin t=w:=by rw[Zi.pin,if_neg e]
 have eT:w.pinT t=w.pickT t:=by rw[Zi.pinT,if_neg (λq=>e q.1)]
 rw[eP,eT];exact lF func104 [] (Fp 12 (@II w t aa aa oq) (Fc 18 (@GF w.heap.C (w.pick t) oq oq) (Ftb 23 ((Z2 w.heap.C (w.pick t)).2.2 != 0) Fz)))
def Z52(h:Heap)(s k:List Int)(g:Zx h.W)(hs:s.length<=1048575)(f:k.length<=1048575)(b:EA s)(a:EA k):GP 36 [h.av,Z3 s,Z3 k] M (.tu [(collectF h s k).1.av,Z3 (collectF h s k).2.1,Z3 (collectF h s k).2.2.1,.ag (collectF h s k).2.2.2.1.cells,int (collectF h s k).2.2.2.2]) []:=by unfold collectF;by_cases d:Z8 h=Y;rw[if_pos d];by_cases c:Bw h s=Y/\Bw h k=Y;rw[if_pos c];by_cases e:(rootsF (Zq h) s).2.2=0;rw[if_pos e];by_cases i:(Bs (rootsF (Zq h) s).1).2=0;rw[if_pos i];exact Zd4 h s k g hs f b a d c.1 c.2 e i;rw[if_neg i];exact ZcJ h s k g hs f b a d c.1 c.2 e i;rw[if_neg e];exact Zh6 h s k g hs f b a d c.1 c.2 e;rw[if_neg c];refine ZaP h s k g hs f b a d ?_;by_cases q:Bw h s=Y;refine Lb ?_;have:¬ Bw h k=Y:=λj=>c ⟨q,j⟩;simpa using this;exact La (by simpa using q);rw[if_neg d];exact ZhO h s k g hs f b a (by simpa using d)
def Zi.collect(w:Zi):Zi:=if(collectF w.heap w.G w.E).2.2.2.2=0 then⟨(collectF w.heap w.G w.E).1,(collectF w.heap w.G w.E).2.1,(collectF w.heap w.G w.E).2.2.1⟩else w
def Zd9(w:Zi)(hw:Zx w.heap.W)(hs:w.G.length<=1048575)(hk:w.E.length<=1048575)(c:EA w.G)(b:EA w.E):GP 23 [w.av] M w.collect.av []:=by
 by_cases e:(collectF w.heap w.G w.E).2.2.2.2=0;have a:w.collect=⟨(collectF w.heap w.G w.E).1,(collectF w.heap w.G w.E).2.1,(collectF w.heap w.G w.E).2.2.1⟩:=by rw[Zi.collect,if_pos e]
 rw[a];exact gF [] func23 [] (Fc 15 (@Z52 w.heap w.G w.E aa aa aa aa aa) (Ftb 22 ((collectF w.heap w.G w.E).2.2.2.2==0) Fz));have a:w.collect=w:=by rw[Zi.collect,if_neg e]
 rw[a];exact gF [] func23 [] (Fc 15 (@Z52 w.heap w.G w.E aa aa aa aa aa) (Ffb 22 ((collectF w.heap w.G w.E).2.2.2.2==0) Fz))
section
variable (P:Z7->Prop) (d:∀w r,B7 w->Bu w->P w->(w.fwd r).2.2=0->P (w.fwd r).1)(a:∀w q j,B7 w->Bu w->P w->q∈w.Q->0<=j->j<Zl w.heap.W q->(w.fwd (Z1 w.heap.W (q+1+j)).1).2.2=0->P (w.in1 (q+1+j))) (b:∀w n,P w->P (Hn w n))
include a in
theorem Me{w}(e:B7 w)(h:Bu w)(i:P w){q:Int}(c:q∈w.Q){l:List Int}(hl:∀x∈l,0<=x/\x<Zl w.heap.W q):∀k,k<=l.length->(∀j,j<k->CI w q l j=0)->P (Bt w q l k)
 |0,_,_=>i
 |k+1,hk,he=>by
  have n:=Me e h i c hl k oq (λj g=>he j oq);have ok:=(Nb e q l k (λj g=>he j oq)).1;have f:=Tv e h c hl k oq (λj g=>he j oq);have m:=hl _ (Bm.2 ⟨k,by omega,rfl⟩);exact a _ q (l.getD k X) ok f.1 n (f.2.q q c) m.1 (by rw[f.2.l q c];exact m.2) (he k oq)
include a b in
theorem OM{w}(g:B7 w)(h:Bu w)(c:P w)(e:(ZZ w).2.2=0):P (ZZ w).1:=by
 by_cases f:w.D<w.Q.length;have o:=g.sc;have n:C8 w∈w.Q:=Bm.2 ⟨w.D.toNat,by omega,rfl⟩;unfold ZZ at e⊢;rw[if_pos f]at e⊢;cases hb:(Lo (Bh w).length).find? (λk=>O (CI w (C8 w) (Bh w) k≠0))with
 |none =>
  have i:∀j,j<(Bh w).length->CI w (C8 w) (Bh w) j=0:=λj m=>by(have:=Lj.1 hb j (Li.2 m);simpa using this)
  exact b _ _ (Me P a g h c n (l:=Bh w) (SA (Zv w (C8 w))) (Bh w).length (Le _) i)
 |some k =>simp only[hb]at e;have:=(Ly.1 hb).1;simp[e]at this
 have e:ZZ w=(w,M,0):=by rw[ZZ,if_neg f]
 rw[e];exact c
include a b in
theorem PS{w}(c:B7 w)(h:Bu w)(g:P w):∀k,(∀j,j<k->Ec w j=M)->P (Cg w k)
 |0,_=>g
 |k+1,hh=>by
  have i:=PS c h g k (λj e=>hh j oq);have ok:=(Ix c k (λj e=>hh j oq)).1;have l:=(AZ c h k (λj e=>hh j oq)).1;have f:=hh k oq;simp only[Ec,decide_eq_false_iff_not,not_or,Lp]at f;exact OM P a b ok l i f.1
include a b in
theorem Za6{w}(f:B7 w)(h:Bu w)(n:P w)(e:(Bs w).2=0):P (Bs w).1:=by
 obtain⟨k,i⟩:=RQ f;obtain⟨h1,h2,l⟩:=Ly.1 i;have g:∀j,j<k->Ec w j=M:=λj m=>by simpa using l j m
 unfold Bs at e⊢;rw[i]at e⊢;simp only at e⊢;split at e;rename_i c;rw[if_pos c];exact OM P a b (Ix f k g).1 (AZ f h k g).1 (PS P a b f h n k g) c;rename_i c;exact absurd e c
include d in
theorem Z1f{w roots}(c:B7 w)(h:Bu w)(f:P w):∀k,(∀j,j<k->CW w roots j=0)->P (rootsN w roots k).1
 |0,_=>f
 |k+1,hh=>by
  have g:=Z1f c h f k (λj e=>hh j oq);have ok:=(RJ (roots:=roots) c k (λj e=>hh j oq)).1;have i:=(OC (roots:=roots) c h k (λj e=>hh j oq)).1;exact d _ _ ok i g (hh k oq)
include d in
theorem Z1C{w roots}(i:B7 w)(h:Bu w)(g:P w)(e:(rootsF w roots).2.2=0):P (rootsF w roots).1:=by
 unfold rootsF at e⊢;cases hb:(Lo roots.length).find? (λk=>O (CW w roots k≠0))with
 |none =>
  have c:∀j,j<roots.length->CW w roots j=0:=λj f=>by(have:=Lj.1 hb j (Li.2 f);simpa using this)
  exact Z1f P d i h g roots.length c
 |some k =>simp only[hb]at e;have:=(Ly.1 hb).1;simp[e]at this
include d a b in
theorem Ml{h:Heap}{s}(k:Zx h.W)(g:Z8 h=Y)(j:P (Zq h))(e:(rootsF (Zq h) s).2.2=0)(i:(Bs (rootsF (Zq h) s).1).2=0):P (ZI h s):=by have c:=Nr k g;have hi:=Ri g;have f:=Sl (roots:=s) c hi e;exact Za6 P a b f.1 f.2.1 (Z1C P d c hi j e) i
end
def ZcN{l:List Z0}{i k:Nat}(h:∀m,m<k->i+1+m<l.length/\(l.getD (i+1+m) X).K=3):k<=ZB l i:=by by_cases b:k<=ZB l i;exact b;have a:=h (ZB l i) oq;exact absurd a.2 (MP a.1)
def PT.flip{c l}(h:PT c l){i:Nat}(hi:i<l.length)(hk:(l.getD i X).K=2){s:Int}(hs:0<=s/\s<=1):PT c (ZG l i (ZB l i) s):=by
 have w:∀j,i<j->j<=i+ZB l i->(l.getD j X).K=3:=λj u v=>by(have:=(R3 (l:=l) (i:=i) (m:=j-i-1) oq).2;rwa [show i+1+(j-i-1)=j by omega]at this)
 have f:∀j,j<l.length->((ZG l i (ZB l i) s).getD j X).K=(l.getD j X).K/\((ZG l i (ZB l i) s).getD j X).U=(l.getD j X).U/\((ZG l i (ZB l i) s).getD j X).N=(l.getD j X).N:=λj d=>by(rw[Hr d];split;exact⟨rfl,rfl,rfl⟩;exact⟨rfl,rfl,rfl⟩)
 refine⟨?_, ?_, ?_⟩;intro j d;rw[H0]at d;have b:=h.b j d;rw[Hr d];split;rename_i n;refine⟨hs,b.n,b.k,λq=>?_,b.k1,b.k3⟩;exfalso;have q':(l.getD j X).K=0:=q;by_cases e:j=i;subst e;omega;have:=w j oq n.2;omega;exact b;intro j d g;rw[H0]at d⊢;rw[(f j d).1]at g;rw[(f j d).2.1];have q:=h.lg j d g;refine⟨q.1,λm u v=>?_⟩;have r:=q.2 m u v;refine⟨r.1,by rw[(f _ r.1).1];exact r.2.1, ?_⟩;rw[Hr r.1,Hr d];by_cases e:j=i;subst e;have hT:(need c (l.getD j X).U-1).toNat<=ZB l j:=ZcN λt a4=>by(have:=q.2 (t+1) oq oq;rw[show j+1+t=j+(t+1) by omega];exact⟨this.1,this.2.1⟩)
 rw[if_pos oq,if_pos oq];rfl;have o:¬ (i<=j/\j<=i+ZB l i):=λn=>by(have:=w j oq n.2;omega)
 have p:¬ (i<=j+m/\j+m<=i+ZB l i):=λn=>by(by_cases a0:j<i;by_cases z:j+m=i;have:=r.2.1;rw[z]at this;omega;have:=(q.2 (i-j) oq oq).2.1;rw[show j+(i-j)=i by omega]at this;omega;omega)
 rw[if_neg o,if_neg p];exact r.2.2;intro j d k;rw[H0]at d;rw[(f j d).1]at k;obtain⟨a,a1,x,y⟩:=h.tl j d k;exact⟨a,a1,by rw[(f a oq).1];exact x,by rw[(f a oq).2.1];exact y⟩
structure Tab (B:Int) (w:Z7):Prop where
 pt:PT w.heap.C w.heap.P
 tk:∀x∈w.T,(w.heap.P.getD x.toNat X).S=1-w.heap.S
 pin:∀p∈w.heap.P,p.N<=B
def Tab.withWords{B w}(h:Tab B w)(l:List Int):Tab B ⟨⟨w.heap.C,l,w.heap.P,w.heap.S,w.heap.B⟩,w.old,w.T,w.Q,w.D,w.rep⟩:=⟨h.pt,h.tk,h.pin⟩
def Tab.place{B:Int}(t:0<=B){w}(m:B7 w)(h:Tab B w){n:Int}(hn:1<=n/\n<=w.heap.C.pw)(l:(w.place n).2.2=Y):PT (w.place n).1.heap.C (w.place n).1.heap.P/\(∀x∈(w.place n).1.T,((w.place n).1.heap.P.getD x.toNat X).S=1-(w.place n).1.heap.S)/\∀p∈(w.place n).1.heap.P,p.N<=B:=by
 have v:=m.sp;by_cases c:E8 w n;have e:w.place n=(⟨⟨w.heap.C,w.heap.W,Cq w.heap.P (ZF w).toNat n,w.heap.S,w.heap.B⟩,w.old,w.T,w.Q,w.D,w.rep⟩,4096+ZF w*w.heap.C.pw+(w.heap.P.getD (ZF w).toNat X).U,Y):=by rw[Z7.place,if_pos c]
 unfold E8 at c;have j:=m.tk _ (GV c.1);have hi:(ZF w).toNat<w.heap.P.length:=by omega
 have ok:=h.pt.b _ hi;have u:=ok.k1 j.2.2;rw[e];refine⟨h.pt.setPage hi (Lb j.2.2) ⟨ok.s,ok.n,ok.k,λq=>by simp only at q;omega,λ_=>by simp only;omega,λq=>by simp only at q;omega⟩ (Lb j.2.2), ?_, ?_⟩;intro x a;simp only;rw[Sa,Ck hi];split;rename_i q;have:=h.tk _ (GV c.1);simp only;omega;exact h.tk x a;intro p b;rcases L3 b with b|rfl;exact h.pin p b;exact h.pin (w.heap.P.getD (ZF w).toNat X) (getD_in hi);by_cases i:0<=ZP w;have e:w.place n=(⟨⟨w.heap.C,w.heap.W,Cq (ER w) (ZP w).toNat n,w.heap.S,w.heap.B⟩,w.old,w.T++[ZP w],w.Q,w.D,w.rep⟩,4096+ZP w*w.heap.C.pw,Y):=by rw[Z7.place,if_neg c,if_pos i]
 obtain⟨o,r,s⟩:=SZ (h:=⟨w.heap.C,w.heap.W,w.heap.P,1-w.heap.S,w.heap.B⟩) (by simp only;omega) i n;have f:Cq (ER w) (ZP w).toNat n=w.heap.P.set (ZP w).toNat ⟨1,1-w.heap.S,n,0⟩:=o;have g:(w.heap.P.getD (ZP w).toNat X).K=0:=r;have d:(ZP w).toNat<w.heap.P.length:=s;rw[e,f];refine⟨h.pt.setPage d (La g) ⟨by simp only;omega,by simp,by simp,by simp,λ_=>by simp only;omega,by simp⟩ (Lb rfl), ?_, ?_⟩;intro x a;simp only at a⊢;rw[Ck d];split;rfl;rename_i k;rcases Ld.1 a with a|a;exact h.tk x a;simp at a;subst a;exact absurd rfl k;intro p b;rcases L3 b with b|rfl;exact h.pin p b;exact t;rw[Z7.place,if_neg c,if_neg i]at l;simp at l
def Tab.fwd{B:Int}(v:0<=B) w r(b:B7 w)(hi:Bu w)(h:Tab B w)(e:(w.fwd r).2.2=0):Tab B (w.fwd r).1:=by
 unfold Z7.fwd at e⊢;split at e;rename_i c1;rw[if_pos c1];exact h;rename_i c1;rw[if_neg c1];split at e;simp at e;rename_i c2;rw[if_neg c2];have f:r∈w.old:=Lp.1 c2;split at e;rename_i c3;rw[if_pos c3];exact h;rename_i c3;rw[if_neg c3];split at e;simp at e;rename_i c4;rw[if_neg c4];split at e;rename_i g;rw[if_pos g];exact⟨h.pt,h.tk,h.pin⟩;rename_i g;rw[if_neg g];split at e;rename_i a;rw[if_pos a];have a0:=b.sp;have o:=GH b.C (Lp.1 c4);have z:=b.pl;have y:Cy w r<w.heap.P.length:=by unfold Cy;omega
 refine⟨h.pt.flip y a oq, ?_, ?_⟩;intro x u;have t:=b.tk x u;simp only[Z7.keep,Z7.flip];rw[Hr oq];split;rename_i hc;exfalso;by_cases n:x.toNat=Cy w r;rw[n]at t;omega;have:=(R3 (l:=w.heap.P) (i:=Cy w r) (m:=x.toNat-Cy w r-1) oq).2;rw[show Cy w r+1+(x.toNat-Cy w r-1)=x.toNat by omega]at this;omega;exact h.tk x u;intro p d;simp only[Z7.keep,Z7.flip,ZG,LC,Li]at d;obtain⟨j,s,rfl⟩:=d;split;exact h.pin (w.heap.P.getD j X) (getD_in s);exact h.pin (w.heap.P.getD j X) (getD_in s);rename_i a;rw[if_neg a];split at e;simp at e;rename_i q;rw[if_neg q];have k:(w.place (Z5 (Zv w r))).2.2=Y:=by simpa using q
 have c:=hi.z r f;have hs:=Rj w r;have d:Z5 (Zv w r)<=w.heap.C.pw:=by(rw[GD];rcases c with c|c;exact absurd c a;exact c)
 obtain⟨q1,q2,q3⟩:=h.place v b ⟨hs.1,d⟩ k;exact⟨q1,q2,q3⟩
def Oc{B:Int}{h:Heap}(hp:Z8 h=Y)(hb:∀p∈h.P,p.N<=B):Tab B (Zq h):=by
 have hp':=hp;rw[GN]at hp';have hs:=hp'.2.2.2.1;refine⟨?_,by simp[Zq], ?_⟩
 .refine hp'.2.2.2.2.2.mapPages _ ?_ ?_ ?_ ?_
  .intro p hp;unfold Zp;split
   .rename_i hc;exact⟨by simp only;omega,hp.n,hp.k,λq=>by simp only at q;omega,hp.k1,λq=>by simp only at q;omega⟩
   .exact hp
  .intro p hp hk;unfold Zp at hk⊢;split at hk
   .rename_i hc;simp only at hk;omega
   .rename_i hc;rw[if_neg hc];exact⟨hk,rfl⟩
  .intro p hp hk;unfold Zp at hk;split at hk
   .rename_i hc;simp only at hk;omega
   .exact hk
  .intro p q hp hq h2 h3 he;have e1:Zp (1-h.S) p=p:=by rw[Zp,if_neg oq]
   have e2:Zp (1-h.S) q=q:=by rw[Zp,if_neg oq]
   rw[e1,e2];exact⟨⟨λ_=>h3,λ_=>h2⟩,λ_=>he⟩
 .intro p hp;simp only[Zq,LC]at hp;obtain⟨q,hq,rfl⟩:=hp;unfold Zp;split
  .exact hb q hq
  .exact hb q hq
def Ziv{B:Int}(b:0<=B){h:Heap}{s}(a:Zx h.W)(c:Z8 h=Y)(f:∀p∈h.P,p.N<=B)(e:(rootsF (Zq h) s).2.2=0)(d:(Bs (rootsF (Zq h) s).1).2=0):Tab B (ZI h s):=
 Ml (Tab B) (λw r a hi h e=>h.fwd b w r a hi e) (λw q j a hi h hq h0 h1 e=>(Tab.fwd b w _ a hi h e).withWords _) (λw n h=>⟨h.pt,h.tk,h.pin⟩) a c (Oc c f) e d
structure BY (w:Zi) (n:Nat):Prop where
 W:Zx w.heap.W
 hv:Zs w.heap.C=Y
 pl:(w.heap.P.length:Int)=w.heap.C.pg
 L:(w.heap.W.length:Int)=w.heap.C.pw*w.heap.C.pg
 N:∀j,j<w.heap.P.length->0<=(w.heap.P.getD j X).N/\(w.heap.P.getD j X).N<=n
 us:∀j,j<w.heap.P.length->0<=(w.heap.P.getD j X).U/\(w.heap.P.getD j X).U<=256
 G:EA w.G
 E:EA w.E
 sl:w.G.length<=n
 wl:w.E.length<=n
def BY.wm{w n}(h:BY w n)(hn:n<=1000000):SF w:=⟨h.W,h.G,h.E,L5 h.sl oq,L5 h.wl oq⟩
def Zi.dup(w:Zi)(t:Tape):Zi:=⟨w.heap,w.G++[w.pick t],w.E⟩
def Zi.step(w:Zi)(t:Tape):Zi:=
 if t.next 12<=3 then w.put ((t.step 12).header w.heap.C)
 else if t.next 12<=6 then w.link (t.step 12)
 else if t.next 12<=7 then w.pin (t.step 12)
 else if t.next 12<=9 then w.drop (t.step 12)
 else if t.next 12<=10 then w.collect
 else w.dup (t.step 12)
def Zi.stepT(w:Zi)(t:Tape):Tape:=
 if t.next 12<=3 then(t.step 12).headerT w.heap.C
 else if t.next 12<=6 then w.linkT (t.step 12)
 else if t.next 12<=7 then w.pinT (t.step 12)
 else if t.next 12<=9 then w.dropT (t.step 12)
 else if t.next 12<=10 then t.step 12
 else w.pickT (t.step 12)
def O4(t:Tape) c:0<=(t.header c).map/\(t.header c).map<=4294967295:=by
 have h:∀n:Int,0<=((G8 t c).step 4).next (2^(min (min n 32) 12).toNat)/\((G8 t c).step 4).next (2^(min (min n 32) 12).toNat)<=4294967295:=by(intro n;have p:=Z3u (n:=min (min n 32) 12) oq;have r:=Gx ((G8 t c).step 4) (n:=2^(min (min n 32) 12).toNat) p.1;omega)
 unfold Tape.header;split;simp;split;simp;exact h _
def IU(t:Tape)(d:Int)(a:t.next 12=d)(b:Eu t):LP 22 [.pt 0 0 0,int 12] [t.b] (int d) [(t.step 12).b]:=by rw[<-a];exact CV t 12 b dd dd
section
variable (w:Zi) (t:Tape) (n:Nat) (a:BY w n) (b:n<=1000000) (c:Eu t) (ha:t.at'<=900000)
include a b c ha
theorem Zej:LP 54 [w.av,.pt 0 0 0] [t.b] (w.step t).av [(w.stepT t).b]:=by
 have hw:=a.wm b;have h1:=a.W;have h2:=a.G;have h3:=a.E;have h4:=a.sl;have h5:=a.wl;have s1:=ND (t:=t) 12;have k1:=N3 c s1.2.2 oq oq;have n1:=Gx t (n:=12) dd;have g:=O4 (t.step 12) w.heap.C;have hv:=a.hv;have i:=a.pl;have k:∀j,j<w.heap.P.length->-1048576<=(w.heap.P.getD j X).N/\(w.heap.P.getD j X).N<=4294967296:=λj h=>by(have:=a.N j h;omega)
 have d:t.next 12=0\/t.next 12=1\/t.next 12=2\/t.next 12=3\/t.next 12=4\/t.next 12=5\/t.next 12=6\/t.next 12=7\/t.next 12=8\/t.next 12=9\/t.next 12=10\/t.next 12=11:=by omega
 rcases d with d|d|d|d|d|d|d|d|d|d|d|d;have e:w.step t=w.put ((t.step 12).header w.heap.C):=by simp[Zi.step,d]
 have f:w.stepT t=(t.step 12).headerT w.heap.C:=by simp[Zi.stepT,d]
 rw[e,f];exact lF func54 [] (Fp 6 (@IU t (0) aa aa) (Fp 17 (@Oi (t.step 12) w.heap.C aa oq aa) (Fc 18 (@MM w ((t.step 12).header w.heap.C) aa aa) Fz)));have e:w.step t=w.put ((t.step 12).header w.heap.C):=by simp[Zi.step,d]
 have f:w.stepT t=(t.step 12).headerT w.heap.C:=by simp[Zi.stepT,d]
 rw[e,f];exact lF func54 [] (Fp 6 (@IU t (1) aa aa) (Fp 17 (@Oi (t.step 12) w.heap.C aa oq aa) (Fc 18 (@MM w ((t.step 12).header w.heap.C) aa aa) Fz)));have e:w.step t=w.put ((t.step 12).header w.heap.C):=by simp[Zi.step,d]
 have f:w.stepT t=(t.step 12).headerT w.heap.C:=by simp[Zi.stepT,d]
 rw[e,f];exact lF func54 [] (Fp 6 (@IU t (2) aa aa) (Fp 17 (@Oi (t.step 12) w.heap.C aa oq aa) (Fc 18 (@MM w ((t.step 12).header w.heap.C) aa aa) Fz)));have e:w.step t=w.put ((t.step 12).header w.heap.C):=by simp[Zi.step,d]
 have f:w.stepT t=(t.step 12).headerT w.heap.C:=by simp[Zi.stepT,d]
 rw[e,f];exact lF func54 [] (Fp 6 (@IU t (3) aa aa) (Fp 17 (@Oi (t.step 12) w.heap.C aa oq aa) (Fc 18 (@MM w ((t.step 12).header w.heap.C) aa aa) Fz)));have e:w.step t=w.link (t.step 12):=by simp[Zi.step,d]
 have f:w.stepT t=w.linkT (t.step 12):=by simp[Zi.stepT,d]
 rw[e,f];exact lF func54 [] (Fp 6 (@IU t (4) aa aa) (Fp 25 (@Z2k w (t.step 12) aa aa oq) Fz));have e:w.step t=w.link (t.step 12):=by simp[Zi.step,d]
 have f:w.stepT t=w.linkT (t.step 12):=by simp[Zi.stepT,d]
 rw[e,f];exact lF func54 [] (Fp 6 (@IU t (5) aa aa) (Fp 25 (@Z2k w (t.step 12) aa aa oq) Fz));have e:w.step t=w.link (t.step 12):=by simp[Zi.step,d]
 have f:w.stepT t=w.linkT (t.step 12):=by simp[Zi.stepT,d]
 rw[e,f];exact lF func54 [] (Fp 6 (@IU t (6) aa aa) (Fp 25 (@Z2k w (t.step 12) aa aa oq) Fz));have e:w.step t=w.pin (t.step 12):=by simp[Zi.step,d]
 have f:w.stepT t=w.pinT (t.step 12):=by simp[Zi.stepT,d]
 rw[e,f];exact lF func54 [] (Fp 6 (@IU t (7) aa aa) (Fp 30 (@ZbX w (t.step 12) aa aa oq aa oq aa) Fz));have e:w.step t=w.drop (t.step 12):=by simp[Zi.step,d]
 have f:w.stepT t=w.dropT (t.step 12):=by simp[Zi.stepT,d]
 rw[e,f];exact lF func54 [] (Fp 6 (@IU t (8) aa aa) (Fp 36 (@Z8X w (t.step 12) aa aa oq) Fz));have e:w.step t=w.drop (t.step 12):=by simp[Zi.step,d]
 have f:w.stepT t=w.dropT (t.step 12):=by simp[Zi.stepT,d]
 rw[e,f];exact lF func54 [] (Fp 6 (@IU t (9) aa aa) (Fp 36 (@Z8X w (t.step 12) aa aa oq) Fz));have e:w.step t=w.collect:=by simp[Zi.step,d]
 have f:w.stepT t=t.step 12:=by simp[Zi.stepT,d]
 rw[e,f];exact lF func54 [] (Fp 6 (@IU t (10) aa aa) (Fc 40 (@Zd9 w aa oq oq aa aa) Fz));have e:w.step t=w.dup (t.step 12):=by simp[Zi.step,d]
 have f:w.stepT t=w.pickT (t.step 12):=by simp[Zi.stepT,d]
 rw[e,f];exact lF func54 [] (Fh 49 [.els (Z wdv (w.G++[w.pick (t.step 12)]))] (Fp 6 (@IU t (11) aa aa) (FAx 41 44 wdv w.G (by(simp[Zi.dup, *];omega)) (Fp 47 (@II w (t.step 12) aa aa oq) (Fs 48 (Z wdv [w.pick (t.step 12)]) (Fa (by(simp[Zi.dup, *];omega):(Z wdv w.G).length+(Z wdv [w.pick (t.step 12)]).length<=2^30) (Fa (by simp[Zi.dup,L0,LZ,LB,LY,wdv,idv]:Z wdv w.G++Z wdv [w.pick (t.step 12)]=Z wdv (w.G++[w.pick (t.step 12)])) Fz)))))))
end
def Z6w{pw s l ws}(h:Zx ws):∀i,Zx (Ed pw s l ws i)
 |0=>h
 |i+1=>by
  have b:=Z6w (pw:=pw) (s:=s) (l:=l) h i;unfold Ed;split
  .intro x a;simp only[Cd,Ld,LG]at a;rcases a with(a|a)|a
   .exact b x (LF a)
   .omega
   .exact b x (LD a)
  .exact b
def ZhS{c l}(h:PT c l) s:PT c (l.map (BM s)):=by
 refine h.mapPages _ ?_ ?_ ?_ ?_;intro p b;unfold BM;split;exact⟨by simp,by simp,by simp,by simp,by simp,by simp⟩;exact b;intro p b a;unfold BM at a⊢;split at a;simp at a;rename_i i;rw[if_neg i];exact⟨a,rfl⟩;intro p b a;unfold BM at a;split at a;simp at a;exact a;intro p q b hq f g j;by_cases k:p.S=s;have d:BM s p=⟨0,0,0,0⟩:=by rw[BM,if_pos ⟨by omega,k⟩]
 have e:BM s q=⟨0,0,0,0⟩:=by rw[BM,if_pos ⟨by omega,by omega⟩]
 rw[d,e];simp;have d:BM s p=p:=by rw[BM,if_neg (by unfold Cu;omega)]
 have e:BM s q=q:=by rw[BM,if_neg (by unfold Cu;omega)]
 rw[d,e];exact⟨⟨λ_=>g,λ_=>f⟩,λ_=>j⟩
def Z7R{w}(a:B7 w) k:∀i,∀x∈En w k i,0<=x/\x<=4294967296
 |0,x,hx=>by simp[En]at hx
 |i+1,x,hx=>by
  simp only[En,Ld,Lf]at hx;rcases hx with hx|rfl
  .exact Z7R a k i x hx
  .have h:=RL w k i;unfold It;split
   .omega
   .unfold C3;rw[h.2.2.2.1,h.1];split
    .rename_i b;have:=a.q _ b;omega
    .have:=Z7i (G4 a.W (k.getD i X)).1;omega
structure Zkz (B:Int) (h:Heap) (s k:List Int):Prop where
 p0:Z8 h=Y
 p1:Z8 (collectF h s k).1=Y
 w:Zx (collectF h s k).1.W
 n:∀p∈(collectF h s k).1.P,p.N<=B
 c:(collectF h s k).1.C=h.C
 r:∀x∈(collectF h s k).2.1,0<=x/\x<=4294967296
 rl:(collectF h s k).2.1.length=s.length
 v:∀x∈(collectF h s k).2.2.1,0<=x/\x<=4294967296
 vl:(collectF h s k).2.2.1.length=k.length
def Z3j{B:Int}(x:0<=B){h:Heap}{s k}(r:Zx h.W)(hb:∀p∈h.P,p.N<=B)(e:(collectF h s k).2.2.2.2=0):Zkz B h s k:=by
 by_cases a:Z8 h=Y;by_cases o:Bw h s=Y/\Bw h k=Y;by_cases b:(rootsF (Zq h) s).2.2=0;by_cases g:(Bs (rootsF (Zq h) s).1).2=0;have d:collectF h s k=(Eh (Bv h s k),(rootsF (Zq h) s).2.1,En (ZI h s) k k.length,(Bv h s k).rep,0):=by rw[collectF,if_pos a,if_pos o,if_pos b,if_pos g]
 have z:=Sl (roots:=s) (Nr r a) (Ri a) b;have c:=cOk h s k r a b g;have c5:=Z1J h s k r a b g;have u:=Ziv x r a hb b g;obtain⟨n,t,v,g4,g5⟩:=c.h4;have a0:=c.w2.sp;have i:(ZI h s).heap.C=h.C:=c.x2.c;have m:=c.w2.pl;rw[i]at m;have hL:=c.i4.L;rw[n]at hL;have j:=Mc (s:=(Cw h s k).heap.S) c5.2.2.2.1 (Cw h s k).heap.P.length (Le _);refine⟨a, ?_, ?_, ?_, ?_, ?_, ?_, ?_, ?_⟩;rw[d,GN];simp only[Eh,Bv,H3,n,t,v,g4];have f:=ZhS (s:=(ZI h s).heap.S) u.pt;rw[i]at f;refine⟨(B1 a).1, ?_,by simp only[Lm];exact m,by omega, ?_,f⟩;rw[n,t,v]at j;rw[j];exact hL;split;rename_i ht;have y:=GV (w:=ZI h s) ht;have t1:=c.w2.tk _ y;have t2:=u.tk _ y;refine Lb ⟨t1.1,by simp only[Lm];exact t1.2.1, ?_⟩;have hx:(Z (BM (ZI h s).heap.S) (ZI h s).heap.P).getD (ZF (ZI h s)).toNat X=(ZI h s).heap.P.getD (ZF (ZI h s)).toNat X:=by
  have hi:(ZF (ZI h s)).toNat<(ZI h s).heap.P.length:=by omega
  have:(Z (BM (ZI h s).heap.S) (ZI h s).heap.P).getD (ZF (ZI h s)).toNat X=BM (ZI h s).heap.S ((ZI h s).heap.P.getD (ZF (ZI h s)).toNat X):=by simp[Lg,hi]
  rw[this,BM,if_neg (by unfold Cu;omega)]
 show((Z (BM (ZI h s).heap.S) (ZI h s).heap.P).getD (ZF (ZI h s)).toNat X).K=1;rw[hx];exact t1.2.2;exact La rfl;rw[d];exact Z6w c.f4.W _;rw[d];intro p l;simp only[Eh,Bv,H3,t,LC]at l;obtain⟨q,hq,rfl⟩:=l;unfold BM;split;exact x;exact u.pin q hq;rw[d];exact n;rw[d];exact z.2.2.2.1;rw[d];exact z.2.2.2.2;rw[d];exact Z7R c.w2 k _;rw[d];exact TT _ _ _;rw[collectF,if_pos a,if_pos o,if_pos b,if_neg g]at e;exact absurd e g;rw[collectF,if_pos a,if_pos o,if_neg b]at e;exact absurd e b;rw[collectF,if_pos a,if_neg o]at e;simp at e;rw[collectF,if_neg a]at e;simp at e
def Zi9{h:Heap}(b:Z8 h=Y):∀p∈h.P,0<=p.N:=by rw[GN]at b;intro p a;obtain⟨i,hi,e⟩:=L2.1 a;have:=(b.2.2.2.2.2.b i hi).n.1;rwa [show h.P.getD i X=p by rw[Lg,LS hi,e];rfl]at this
def BY.of_proper{w:Zi}{n:Nat}(b:Z8 w.heap=Y)(h:Zx w.heap.W)(g:∀p∈w.heap.P,p.N<=n)(d:EA w.G)(e:EA w.E)(f:w.G.length<=n)(h4:w.E.length<=n):BY w n:=by have c:=B1 b;exact⟨h,c.1,c.2.2.2.2.2.2.2.1,c.2.2.2.2.2.1,λj a=>⟨Zi9 b _ (getD_in a),g _ (getD_in a)⟩,λj a=>by have:=Eb b a;omega,d,e,f,h4⟩
def BY.pin_mem{w n}(h:BY w n):∀p∈w.heap.P,0<=p.N/\p.N<=n:=by intro p a;obtain⟨i,hi,e⟩:=L2.1 a;have:=h.N i hi;rwa [show w.heap.P.getD i X=p by rw[Lg,LS hi,e];rfl]at this
def BY.mono{w n}(h:BY w n):BY w (n+1):=
 ⟨h.W,h.hv,h.pl,h.L,λj a=>by have:=h.N j a;omega,h.us,h.G,h.E,by have:=h.sl;omega,by have:=h.wl;omega⟩
def Z1t{l}(h:EA l){x:Int}(b:0<=x/\x<=18446744073709551615):EA (l++[x]):=by intro y a;simp only[Ld,Lf]at a;rcases a with a|rfl;exact h y a;exact b
def BY.put{w n}(h:BY w n){b:Zy}(f:0<=b.map/\b.map<=4294967295):BY (w.put b) (n+1):=by unfold Zi.put;split;rename_i e;obtain⟨k1,g,c,k4,i,j,k,l⟩:=Om h.W f e;have po:=B1 k1;have hl:=h.sl;have d:=h.wl;have z:=(DI g).2.1;have a1:=c.lo;have a2:=c.hi;refine BY.of_proper k l ?_ (Z1t h.G (by rw[i];omega)) h.E qo (by simp only;omega);intro p a;simp only at a;rw[j]at a;simp only at a;rcases c.pin p a with q|⟨q,m,q2⟩;omega;have:=h.pin_mem q m;omega;exact h.mono
def BY.link{w n}(h:BY w n)(e:n<=1000000) t:BY (w.link t) (n+1):=by
 unfold Zi.link;split;rename_i b;have g:=Nt b.1;have f:=h.wm e;have c:1<=(Zo w.heap (w.pick t)).1.length:=by omega
 have i:=Gx (w.pickT (w.pickT t)) (n:=8) dd;have hi:0<=Hm w t/\Hm w t<(Zo w.heap (w.pick t)).1.length:=by(unfold Hm;rw[LQ i.1];exact⟨LJ _ oq,Lv _ oq⟩)
 have hv:0<=Hp w t/\Hp w t<=18446744073709551615:=by(unfold Hp;split;exact A7 f _;have:=Gx ((w.pickT (w.pickT t)).step 8) (n:=1048576) dd;omega)
 obtain⟨s1,j,k⟩:=Z2D h.W hv b.1 hi;have hl:=h.sl;have d:=h.wl;refine BY.of_proper j k ?_ h.G h.E (by simp only;omega) (by simp only;omega);intro p a;simp only at a;rw[s1]at a;have:=h.pin_mem p a;omega;exact h.mono
def Z9f{w n}(h:BY w n){i:Nat}(hi:i<w.heap.P.length){d:Int}(hd:d=1\/(d=-1/\0<(w.heap.P.getD i X).N)):BY (pinB w i d) (n+1):=by have hp:=h.N i hi;refine⟨h.W,h.hv, ?_,h.L, ?_, ?_,h.G,h.E,by have:=h.sl;simp only[pinB];omega,by have:=h.wl;simp only[pinB];omega⟩;simp only[pinB,Lk];exact h.pl;intro j a;simp only[pinB,Lk]at a⊢;rw[Ck hi];split;simp only;omega;have:=h.N j a;omega;intro j a;simp only[pinB,Lk]at a⊢;rw[Ck hi];split;exact h.us i hi;exact h.us j a
def BY.pin{w n}(h:BY w n) t:BY (w.pin t) (n+1):=by
 unfold Zi.pin;split;rename_i e;have o:=GH h.hv e;have b:=h.pl;have hi:HW w t<w.heap.P.length:=by unfold HW;omega
 split;rename_i a;exact Z9f h hi (Lb ⟨rfl,a.1⟩);split;exact Z9f h hi (La rfl);exact h.mono;exact h.mono
def BY.drop{w n}(h:BY w n) t:BY (w.drop t) (n+1):=by unfold Zi.drop;split;have hl:=h.sl;have c:=h.wl;refine⟨h.W,h.hv,h.pl,h.L,λj b=>by have:=h.N j b;simp only;omega,h.us, ?_, ?_, ?_, ?_⟩;intro x a;rcases Ld.1 a with a|a;exact h.G x (LF a);exact h.G x (LD a);simp only;split;exact Z1t h.E (D9 h.G _);exact h.E;simp only[LV,LX,LW];omega;simp only;split;simp;omega;omega;exact h.mono
def BY.collect{w n}(h:BY w n):BY w.collect (n+1):=by unfold Zi.collect;split;rename_i e;have c:=Z3j (B:=n) oq h.W (λp a=>(h.pin_mem p a).2) e;have hl:=h.sl;have d:=h.wl;refine BY.of_proper c.p1 c.w (λp a=>by have:=c.n p a;omega) (λx b=>by have:=c.r x b;omega) (λx b=>by have:=c.v x b;omega) (by simp only[c.rl];omega) (by simp only[c.vl];omega);exact h.mono
def BY.step{w n}(h:BY w n)(a:n<=1000000) t:BY (w.step t) (n+1):=by
 unfold Zi.step;repeat' split
 exact h.put (O4 _ _);exact h.link a _;exact h.pin _;exact h.drop _;exact h.collect;have hl:=h.sl;have c:=h.wl;exact⟨h.W,h.hv,h.pl,h.L,λj b=>by have:=h.N j b;simp only[Zi.dup]at *;omega,h.us,Z1t h.G (A7 (h.wm a) _),h.E,by simp only[Zi.dup,LV,List.length_singleton];omega,by simp only[Zi.dup];omega⟩
def SY(w:Z7)(x:Int):Z0:=w.heap.P.getD (Z2 w.heap.C x).1.toNat X
structure Rt (w:Z7):Prop where
 q:∀x∈w.Q,((SY w x).K=1\/(SY w x).K=2)/\(SY w x).S=1-w.heap.S
 t:∀x∈w.old,(ZD (Z1 w.heap.W x).1).2=Y->(ZD (Z1 w.heap.W x).1).1∈w.Q
theorem P5{a:Int}(h0:0<=a)(h1:a<4294967296):ZD (4*a+2)=(a,Y):=by
 have e:(4*a+2)/4=a:=by omega
 rw[ZD,if_pos oq,e]
def Rt.copy{B w}(k:B7 w)(h:Bu w)(hT:Tab B w)(hR:Rt w){r n:Int}(hr:r∈w.old)(hq:r∉w.Q)(hn:n=Zl w.heap.W r+1)(hp:n<=w.heap.C.pw)(hc:(w.place n).2.2=Y):Rt ((w.place n).1.copy r (w.place n).2.1 n):=by
 have a9:=Bo w.heap.W r;obtain⟨i,p,t,l,h2,h3,h4,h5,h6,h7,h8,e⟩:=Mb k ⟨by omega,hp⟩ hc;have a4:p.S=1-w.heap.S:=by
  by_cases f:E8 w n;have e7:w.place n=(⟨⟨w.heap.C,w.heap.W,Cq w.heap.P (ZF w).toNat n,w.heap.S,w.heap.B⟩,w.old,w.T,w.Q,w.D,w.rep⟩,4096+ZF w*w.heap.C.pw+(w.heap.P.getD (ZF w).toNat X).U,Y):=by rw[Z7.place,if_pos f]
  unfold E8 at f;have hm:=k.tk _ (GV f.1);have m:=hT.tk _ (GV f.1);have hi:(ZF w).toNat<w.heap.P.length:=by omega
  rw[e7]at e;simp only[Sa,Z7.mk.injEq,Heap.mk.injEq]at e;have s:=e.1.2.2.1;have v:(w.heap.P.set i p).getD i X=p:=by rw[Ck l,if_pos rfl]
  rw[<-s,Ck hi]at v;split at v;rw[<-v];exact m;rename_i d;have g2:(w.heap.P.set i p).getD (ZF w).toNat X=w.heap.P.getD (ZF w).toNat X:=by rw[Ck l,if_neg (λq=>d q.symm)]
  rw[<-s,Ck hi,if_pos rfl]at g2;have:=congrArg Z0.U g2;simp only at this;omega;by_cases hg:0<=ZP w;have e7:w.place n=(⟨⟨w.heap.C,w.heap.W,Cq (ER w) (ZP w).toNat n,w.heap.S,w.heap.B⟩,w.old,w.T++[ZP w],w.Q,w.D,w.rep⟩,4096+ZP w*w.heap.C.pw,Y):=by rw[Z7.place,if_neg f,if_pos hg]
  obtain⟨v,g2,g3⟩:=SZ (h:=⟨w.heap.C,w.heap.W,w.heap.P,1-w.heap.S,w.heap.B⟩) (by have:=k.sp;simp only;omega) hg n;have a2:Cq (ER w) (ZP w).toNat n=w.heap.P.set (ZP w).toNat ⟨1,1-w.heap.S,n,0⟩:=v;have y:(w.heap.P.getD (ZP w).toNat X).K=0:=g2;have z:(ZP w).toNat<w.heap.P.length:=g3;rw[e7,a2]at e;simp only[Z7.mk.injEq,Heap.mk.injEq]at e;have s:=e.1.2.2.1;have k1:(w.heap.P.set i p).getD i X=p:=by rw[Ck l,if_pos rfl]
  rw[<-s,Ck z]at k1;split at k1;rw[<-k1];rename_i d;have k2:(w.heap.P.set i p).getD (ZP w).toNat X=w.heap.P.getD (ZP w).toNat X:=by rw[Ck l,if_neg (λq=>d q.symm)]
  rw[<-s,Ck z,if_pos rfl]at k2;rw[<-k2]at y;simp at y;rw[Z7.place,if_neg f,if_neg hg]at hc;simp at hc
 have hb:=BG.1 k.C;have b1:=k.pl;have hL:=h.L;have a8:(i:Int)*w.heap.C.pw+w.heap.C.pw<=w.heap.C.pw*w.heap.C.pg:=by(have:=Ew (i:=i) (j:=w.heap.C.pg) (pw:=w.heap.C.pw) oq oq;rw[LK w.heap.C.pw];exact this)
 have a7:0<=(i:Int)*w.heap.C.pw:=LN oq oq;have a5:=HS k.C;rw[e,h8];generalize hu:BW (w.heap.P.getD i X)=u at *;have a3:(Z2 w.heap.C (4096+(i:Int)*w.heap.C.pw+u)).1.toNat=i:=by(have:=AJ (c:=w.heap.C) (i:=i) (o:=u) k.C oq oq;rw[show 4096+(i:Int)*w.heap.C.pw+u=4096+((i:Int)*w.heap.C.pw+u) by omega,this];simp)
 generalize ha:4096+(i:Int)*w.heap.C.pw+u=at' at *;have b2:=h.r r (Lh _ hr);have f:=h.f i l (by rcases h2 with h2|h2;exact La h2;exact Lb h2.1);rw[hu]at f;obtain⟨m1,m2,m3⟩:=Sn (ws:=w.heap.W) (a:=at') (b:=r) (n:=n) oq oq oq;have a0:4096<=r/\r<4096+(moveA w.heap.W at' r n).1.length:=by omega
 refine⟨?_, ?_⟩;intro x g;simp only[Z7.copy,Ld,Lf]at g;simp only[SY,Z7.copy];rw[Ck l];split;exact⟨La h3,a4⟩;rename_i d;rcases g with g|rfl;exact hR.q x g;exact absurd a3.symm d;intro x g m;simp only[Z7.copy]at g m⊢;by_cases a1:x=r;subst a1;rw[Si a0]at m⊢;simp only;rw[P5 oq oq];simp;have a6:=f x (Lh _ g);have b0:=Bo w.heap.W x;have el:Z1 (BL (moveA w.heap.W at' r n).1 r (4*at'+2)).1 x=Z1 w.heap.W x:=by rw[Gj a0 a1,m3 x oq]
 rw[el]at m⊢;exact Lh _ (hR.t x g m)
structure PR (B:Int) (w:Z7):Prop where
 tab:Tab B w
 rt:Rt w
def NI(w:Z7)(x:Int):Prop:=x=0\/x∈w.Q
def Z6Q{B} w r(f:PR B w)(e:(w.fwd r).2.2=0):NI (w.fwd r).1 (w.fwd r).2.1:=by unfold Z7.fwd at e⊢;split at e;rename_i c1;rw[if_pos c1];exact c1;rename_i c1;rw[if_neg c1];split at e;simp at e;rename_i c2;rw[if_neg c2];have a:r∈w.old:=Lp.1 c2;split at e;rename_i c3;rw[if_pos c3];exact Lb (f.rt.t r a c3);rename_i c3;rw[if_neg c3];split at e;simp at e;rename_i c4;rw[if_neg c4];split at e;rename_i b;rw[if_pos b];exact Lb (Ls _ pq);rename_i b;rw[if_neg b];split at e;rename_i c;rw[if_pos c];exact Lb (Ls _ pq);rename_i c;rw[if_neg c];split at e;simp at e;rename_i d;rw[if_neg d];exact Lb (Ls _ pq)
def PR.fwd{B:Int}(hB:0<=B) w r(hw:B7 w)(hi:Bu w)(h:PR B w)(e:(w.fwd r).2.2=0):PR B (w.fwd r).1:=by
 refine⟨h.tab.fwd hB w r hw hi e, ?_⟩;have hR:=h.rt;have hsp:=hw.sp;unfold Z7.fwd at e⊢;split at e;rename_i c1;rw[if_pos c1];exact hR;rename_i c1;rw[if_neg c1];have c1':r∉w.Q:=λh=>c1 (Lb h);split at e;simp at e;rename_i c2;rw[if_neg c2];have c2':r∈w.old:=Lp.1 c2;split at e;rename_i c3;rw[if_pos c3];exact hR;rename_i c3;rw[if_neg c3];split at e;simp at e;rename_i c4;rw[if_neg c4];have o:=GH hw.C (Lp.1 c4);have hpl:=hw.pl;split at e;rename_i c5;rw[if_pos c5];simp only[ZH,decide_eq_true_eq]at c5;have ok:=h.tab.pt.b (Z2 w.heap.C r).1.toNat oq;have oks:=ok.s;refine⟨?_,λx hx ht=>Lh _ (hR.t x hx ht)⟩;intro x hx;simp only[Z7.keep,Ld,Lf]at hx;rcases hx with hx|rfl;exact hR.q x hx;refine⟨La c5.2.2.1, ?_⟩;simp only[SY,Z7.keep];omega;rename_i c5;rw[if_neg c5];split at e;rename_i c6;rw[if_pos c6];refine⟨?_,λx hx ht=>Lh _ (hR.t x hx ht)⟩;have hlr:(Z2 w.heap.C r).1.toNat<w.heap.P.length:=by omega
 intro x hx;simp only[Z7.keep,Ld,Lf]at hx;have hxl:(Z2 w.heap.C x).1.toNat<w.heap.P.length:=by(rcases hx with hx|rfl;by_cases q:(Z2 w.heap.C x).1.toNat<w.heap.P.length;exact q;have:=(hR.q x hx).1;rw[SY,Lg,List.getElem?_eq_none oq]at this;simp only[Option.getD_none]at this;have d:(X:Z0).K=0:=rfl;omega;exact hlr)
 simp only[SY,Z7.keep,Z7.flip];rw[Hr hxl];split;refine⟨?_,rfl⟩;rcases hx with hx|rfl;exact(hR.q x hx).1;exact Lb c6;rename_i hne;rcases hx with hx|rfl;exact hR.q x hx;exact absurd ⟨Le _,Nat.le_add_right _ _⟩ hne;rename_i c6;rw[if_neg c6];split at e;simp at e;rename_i c7;rw[if_neg c7];have c7':(w.place (Z5 (Zv w r))).2.2=Y:=by simpa using c7
 have hz:=hi.z r c2';have hp:Z5 (Zv w r)<=w.heap.C.pw:=by(rw[GD];rcases hz with hz|hz;exact absurd hz c6;exact hz)
 exact hR.copy hw hi h.tab c2' c1' (GD w r) hp c7'
def PR.in1{B:Int}(m:0<=B) w(q j:Int)(i:B7 w)(hi:Bu w)(h:PR B w)(g:q∈w.Q)(h0:0<=j)(h1:j<Zl w.heap.W q)(e:(w.fwd (Z1 w.heap.W (q+1+j)).1).2.2=0):PR B (w.in1 (q+1+j)):=by
 have b:=PR.fwd m w _ i hi h e;obtain⟨k,l⟩:=NZ i hi _ e;have a:=l.q q g;have n:=l.l q g;have hr:=k.r q (Ls _ a);have o:=k.s q (Ls _ a);have c:4096<=q+1+j/\q+1+j<4096+(w.fwd (Z1 w.heap.W (q+1+j)).1).1.heap.W.length:=by omega
 refine⟨b.tab.withWords _,b.rt.q,λx f d=>?_⟩;have el:Z1 (BL (w.fwd (Z1 w.heap.W (q+1+j)).1).1.heap.W (q+1+j) (w.fwd (Z1 w.heap.W (q+1+j)).1).2.1).1 x=Z1 (w.fwd (Z1 w.heap.W (q+1+j)).1).1.heap.W x:=by(refine Gj c λhc=>?_;have:=o x (Lh _ f) oq;omega)
 simp only[Z7.in1]at f d⊢;rw[el]at d⊢;exact b.rt.t x f d
def Z2G{h:Heap}(f:Z8 h=Y):Rt (Zq h):=by refine⟨by simp[Zq],λx d a=>?_⟩;exfalso;simp only[Zq]at d a;obtain⟨j,j1,o⟩:=(Z6O f).1 x d;have e:=o.at';have k:=M8 e;unfold Z9 at e;rw[if_pos k.1,if_pos k.2.1]at e;split at e;rename_i g;have b:=g.2.2;unfold Z6 at b;split at b;rename_i c;have c1:=c.1;have c2:=c.2;unfold Zt at c1 c2;split at c2;unfold ZD at a;split at a;simp only at c2;omega;simp at a;rename_i hv;rw[if_neg hv]at c1;simp at c1;simp at b;simp at e
def Z2R{B:Int}(c:0<=B){h:Heap}{s}(a:Zx h.W)(b:Z8 h=Y)(i:∀p∈h.P,p.N<=B)(e:(rootsF (Zq h) s).2.2=0)(d:(Bs (rootsF (Zq h) s).1).2=0):PR B (ZI h s):=
 Ml (PR B) (λw r a hi h e=>PR.fwd c w r a hi h e) (λw q j a hi h k f g e=>PR.in1 c w q j a hi h k f g e) (λw n h=>⟨⟨h.tab.pt,h.tab.tk,h.tab.pin⟩,h.rt.q,h.rt.t⟩) a b ⟨Oc b i,Z2G b⟩ e d
def Z4b{B:Int}(c:0<=B){w roots}(a:B7 w)(h:Bu w)(f:PR B w):∀k,(∀j,j<k->CW w roots j=0)->∀x∈(rootsN w roots k).2,NI (rootsN w roots k).1 x
 |0,_,x,hx=>by simp[rootsN]at hx
 |k+1,hh,x,hx=>by
  have g:=Z4b c (roots:=roots) a h f k (λj b=>hh j oq);have ok:=(RJ (roots:=roots) a k (λj b=>hh j oq)).1;have i:=(OC (roots:=roots) a h k (λj b=>hh j oq)).1;have l:=Z1f (PR B) (λw r a hi h e=>PR.fwd c w r a hi h e) (roots:=roots) a h f k (λj b=>hh j oq);have d:=hh k oq;simp only[rootsN,Ld,Lf]at hx⊢;rcases hx with hx|rfl
  .rcases g x hx with q|q
   .exact La q
   .exact Lb ((NZ ok i _ d).2.q x q)
  .exact Z6Q _ _ l d
def Z8L w t n(b:BY w n)(c:n<=1000000)(d:Eu t)(a:t.at'<=900000):LP 54 [w.av,.pt 0 0 0] [t.b] (w.step t).av [(w.stepT t).b]:=
 Zej w t n b c d a
structure E5 (n:Int) (t u:Tape):Prop where
 l:u.l=t.l
 lo:t.at'<=u.at'
 hi:u.at'<=t.at'+n
def E5.step t n:E5 1 t (t.step n):=by have:=ND (t:=t) n;exact⟨this.2.2,this.1,this.2.1⟩
def E5.trans{m n t u v}(a:E5 m t u)(b:E5 n u v):E5 (m+n) t v:=
 ⟨b.l.trans a.l,by have:=a.lo;have:=b.lo;omega,by have:=a.hi;have:=b.hi;omega⟩
def E5.mono{m n:Int}{t u}(h:E5 m t u)(a:m<=n):E5 n t u:=⟨h.l,h.lo,by have:=h.hi;omega⟩
def Z9P t c:E5 10 t (t.headerT c):=by
 have a:E5 4 t (G8 t c):=by(unfold G8;split;exact(((E5.step t _).trans (E5.step _ 12)).trans (E5.step _ _)).mono dd;exact((E5.step t _).trans (E5.step _ 12)).mono dd)
 unfold Tape.headerT;repeat' split
 exact(a.trans (E5.step _ 4)).mono dd;exact(a.trans (E5.step _ 4)).mono dd;exact((a.trans (E5.step _ 4)).trans (E5.step _ _)).mono dd
def Zdl(w:Zi) t:E5 10 t (w.linkT t):=by have a:E5 1 t (w.pickT t):=E5.step _ _;have b:E5 1 (w.pickT t) (w.pickT (w.pickT t)):=E5.step _ _;unfold Zi.linkT;split;exact((((a.trans b).trans (E5.step _ 8))).trans (E5.step _ _)).mono dd;exact((a.trans b).trans (E5.step _ 8)).mono dd
def Zj6(w:Zi) t:(w.stepT t).l=t.l/\t.at'+1<=(w.stepT t).at'/\(w.stepT t).at'<=t.at'+20:=by
 have e:(t.step 12).at'=t.at'+1/\(t.step 12).l=t.l:=by simp[Tape.step]
 have d:E5 10 (t.step 12) (w.stepT t):=by
  unfold Zi.stepT;repeat' split
  exact Z9P _ _;exact Zdl _ _;unfold Zi.pinT;split;exact((E5.step _ _).trans (E5.step _ 2)).mono dd;exact(E5.step _ _).mono dd;unfold Zi.dropT;split;exact((E5.step _ _).trans (E5.step _ 3)).mono dd;exact⟨rfl,by omega,by omega⟩;exact⟨rfl,by omega,by omega⟩;exact(E5.step _ _).mono dd
 have a:=d.l;have b:=d.lo;have c:=d.hi;exact⟨a.trans e.2,by omega,by omega⟩
def G0(w:Zi)(t:Tape):Nat->Zi×Tape|0=>(w,t)|k+1=>((G0 w t k).1.step (G0 w t k).2,(G0 w t k).1.stepT (G0 w t k).2)
def mkB(w:Zi)(t:Tape)(k:Nat):Bool:=O (((G0 w t k).2.l.length:Int)<=(G0 w t k).2.at')
def mkN(w:Zi)(t:Tape):Nat:=((Lo (2+t.l.length)).find? (mkB w t)).getD 0
def Ap(w:Zi)(t:Tape):Zi:=(G0 w t (mkN w t)).1
def OZ w t:∀k:Nat,(G0 w t k).2.l=t.l/\t.at'+k<=(G0 w t k).2.at'/\(G0 w t k).2.at'<=t.at'+20*k
 |0=>by simp[G0]
 |k+1=>by
  have a:=OZ w t k;have:=Zj6 (G0 w t k).1 (G0 w t k).2;refine⟨this.1.trans a.1, ?_, ?_⟩
  .simp only[G0];omega
  .simp only[G0];omega
def DK{w n}(h:BY w n) t:∀k,n+k<=1000000->BY (G0 w t k).1 (n+k)|0,_=>h|k+1,hk=>(DK h t k oq).step oq _
def Ma w(t:Tape)(ht:0<=t.at'):mkB w t (mkN w t)=Y/\(∀j,j<mkN w t->mkB w t j=M)/\mkN w t<=t.l.length+1:=by
 cases hb:(Lo (2+t.l.length)).find? (mkB w t)with
 |none =>exfalso;have:=Lj.1 hb t.l.length (Li.2 oq);have u:=OZ w t t.l.length;simp only[mkB,decide_eq_true_eq,u.1]at this;omega
 |some k =>
  obtain⟨b,a,c⟩:=Ly.1 hb;have a:=Li.1 a;have e:mkN w t=k:=by rw[mkN,hb];rfl
  rw[e];exact⟨b,λj d=>by simpa using c j d,by omega⟩
def Pr(w:Zi)(t:Tape):Tg:=⟨tm 22 [(2,.pt 8002 0 0),(3,.pt 32012 0 0),(4,.pt 40004 0 0)],[(40004,.box 30 w.cells),(32012,t.b),(8002,.box 30 [int 0,int 0,.d (.sl 0 []),.d (.sl 0 []),int 0,int 0,.d (.sl 0 []),.d (.sl 0 [])])],60⟩
def Zkx w t n(hm:BY w n)(hn:n<=1000000)(ht:Eu t)(ha:t.at'<=900000)(hd:t.at'<t.l.length):CP (Zm f15 0) (Pr w t).st .nrm (Pr (w.step t) (w.stepT t)).st:=by exact sF [] [] (Fbq 16 [32012] (@PM t aa) (Ftb 17 (!decide ((t.l.length:Int)<=t.at')) (Fbr 20 [32012] (@Z8L w t n aa aa aa aa) Fz)))
def Zb4 w t(ht:Eu t)(hd:¬ t.at'<t.l.length):CP (Zm f15 0) (Pr w t).st (.ext 0) (Tg.st ⟨tm 22 [(2,.pt 8002 0 0),(4,.pt 40004 0 0)],[(40004,.box 30 w.cells),(8002,.box 30 [int 0,int 0,.d (.sl 0 []),.d (.sl 0 []),int 0,int 0,.d (.sl 0 []),.d (.sl 0 [])])],60⟩):=by exact sF [] [] (Fbq 16 [32012] (@PM t aa) (Ffb 17 (!decide ((t.l.length:Int)<=t.at')) Fz))
def Zgv w(t:Tape)(f:BY w 0)(hl:t.l.length<=300)(e:0<=t.at')(h1:t.at'<=1000):CP (Zj f15 0) (Tg.st ⟨tm 22 [(2,.pt 8002 0 0),(3,.pt 32012 0 0),(4,.pt 40004 0 0)],[(40004,.box 30 w.cells),(32012,t.b),(8002,.box 30 [int 0,int 0,.d (.sl 0 []),.d (.sl 0 []),int 0,int 0,.d (.sl 0 []),.d (.sl 0 [])])],60⟩) .nrm (Tg.st ⟨tm 22 [(2,.pt 8002 0 0),(4,.pt 40004 0 0)],[(40004,.box 30 (Ap w t).cells),(8002,.box 30 [int 0,int 0,.d (.sl 0 []),.d (.sl 0 []),int 0,int 0,.d (.sl 0 []),.d (.sl 0 [])])],60⟩):=by
 have d:=Ma w t e;have a:∀k,k<=mkN w t->Eu (G0 w t k).2/\(G0 w t k).2.at'<=900000:=λk b=>by(have u:=OZ w t k;refine⟨?_,by omega⟩;unfold Eu;rw[u.1];omega)
 refine Br (S:=λk=>(Pr (G0 w t k).1 (G0 w t k).2).st) (mkN w t) kr (λk b=>?_) ?_;have c:=d.2.1 k b;simp only[mkB,decide_eq_false_iff_not]at c;have m:=DK f t k oq;exact Zkx _ _ (0+k) m oq (a k oq).1 (a k oq).2 oq;have c:=d.1;simp only[mkB,decide_eq_true_eq]at c;exact Zb4 _ _ (a _ (Le _)).1 oq
def Pk(w:Zi)(t:Tape):Tg:=⟨tm 22 [(2,.pt 8002 0 0),(3,.pt 24012 0 0),(4,.pt 32004 0 0)],[(32004,.box 30 w.cells),(24012,t.b),(8002,.box 30 [int 0,int 0,.d (.sl 0 []),.d (.sl 0 []),int 0,int 0,.d (.sl 0 []),.d (.sl 0 [])])],60⟩
def Zk8 w t n(hm:BY w n)(hn:n<=1000000)(ht:Eu t)(ha:t.at'<=900000)(hd:t.at'<t.l.length):CP (Zm f15 0) (Pk w t).st .nrm (Pk (w.step t) (w.stepT t)).st:=by exact sF [] [] (Fbq 16 [24012] (@PM t aa) (Ftb 17 (!decide ((t.l.length:Int)<=t.at')) (Fbr 20 [24012] (@Z8L w t n aa aa aa aa) Fz)))
def ZdF w t(ht:Eu t)(hd:¬ t.at'<t.l.length):CP (Zm f15 0) (Pk w t).st (.ext 0) (Tg.st ⟨tm 22 [(2,.pt 8002 0 0),(4,.pt 32004 0 0)],[(32004,.box 30 w.cells),(8002,.box 30 [int 0,int 0,.d (.sl 0 []),.d (.sl 0 []),int 0,int 0,.d (.sl 0 []),.d (.sl 0 [])])],60⟩):=by exact sF [] [] (Fbq 16 [24012] (@PM t aa) (Ffb 17 (!decide ((t.l.length:Int)<=t.at')) Fz))
def Ze8 w(t:Tape)(f:BY w 0)(hl:t.l.length<=300)(e:0<=t.at')(h1:t.at'<=1000):CP (Zj f15 0) (Tg.st ⟨tm 22 [(2,.pt 8002 0 0),(3,.pt 24012 0 0),(4,.pt 32004 0 0)],[(32004,.box 30 w.cells),(24012,t.b),(8002,.box 30 [int 0,int 0,.d (.sl 0 []),.d (.sl 0 []),int 0,int 0,.d (.sl 0 []),.d (.sl 0 [])])],60⟩) .nrm (Tg.st ⟨tm 22 [(2,.pt 8002 0 0),(4,.pt 32004 0 0)],[(32004,.box 30 (Ap w t).cells),(8002,.box 30 [int 0,int 0,.d (.sl 0 []),.d (.sl 0 []),int 0,int 0,.d (.sl 0 []),.d (.sl 0 [])])],60⟩):=by
 have d:=Ma w t e;have a:∀k,k<=mkN w t->Eu (G0 w t k).2/\(G0 w t k).2.at'<=900000:=λk b=>by(have u:=OZ w t k;refine⟨?_,by omega⟩;unfold Eu;rw[u.1];omega)
 refine Br (S:=λk=>(Pk (G0 w t k).1 (G0 w t k).2).st) (mkN w t) kr (λk b=>?_) ?_;have c:=d.2.1 k b;simp only[mkB,decide_eq_false_iff_not]at c;have m:=DK f t k oq;exact Zk8 _ _ (0+k) m oq (a k oq).1 (a k oq).2 oq;have c:=d.1;simp only[mkB,decide_eq_true_eq]at c;exact ZdF _ _ (a _ (Le _)).1 oq
def EH(l:List Int):Tape:=⟨l.take 300,0⟩
def ZA(l:List Int):Zi:=Ap (EH l).empty (((EH l).step 4).step 5)
def Z0w(t:Tape):BY t.empty 0:=by
 have hv:=Z0v t;have hb:=BG.1 hv;refine⟨?_,hv, ?_, ?_, ?_, ?_, ?_, ?_,by simp[Tape.empty],by simp[Tape.empty]⟩;intro x b;simp only[Tape.empty,Ie,LG]at b;omega;simp only[Tape.empty,Ie,Lr];omega;have:=HS hv;simp only[Tape.empty,Ie,Lr];omega;intro j a;simp only[Tape.empty,Ie,Lr]at a⊢;have:(Lc t.C.pg.toNat (⟨0,0,0,0⟩:Z0)).getD j X=⟨0,0,0,0⟩:=by simp[Lg,a]
 rw[this];simp;intro j a;simp only[Tape.empty,Ie,Lr]at a⊢;have:(Lc t.C.pg.toNat (⟨0,0,0,0⟩:Z0)).getD j X=⟨0,0,0,0⟩:=by simp[Lg,a]
 rw[this];simp;intro x b;simp[Tape.empty]at b;intro x b;simp[Tape.empty]at b
def ON l:(((EH l).step 4).step 5).l=l.take 300/\(((EH l).step 4).step 5).at'=2:=by simp[EH,Tape.step]
def M4 l:BY (ZA l) 1000:=by
 have e:=ON l;have hl:(((EH l).step 4).step 5).l.length<=300:=by rw[e.1];simp;omega
 have hk:=Ma (EH l).empty (((EH l).step 4).step 5) oq;have m:=DK (Z0w (EH l)) (((EH l).step 4).step 5) (mkN (EH l).empty (((EH l).step 4).step 5)) oq;have c:∀(w:Zi) (a b:Nat),BY w a->a<=b->BY w b:=λw a b h d =>
  ⟨h.W,h.hv,h.pl,h.L,λj f=>by have:=h.N j f;omega,h.us,h.G,h.E,by have:=h.sl;omega,by have:=h.wl;omega⟩
 exact c _ _ _ m oq
def Z7Y(l:List Int)(hl:l.length<=140737488355328):GP 15 [ZE l] M (ZA l).av []:=by
 have e:=ON l;have d:=Z0w (EH l);have b:(((EH l).step 4).step 5).l.length<=300:=by rw[e.1];simp;omega
 have c:=e.2;by_cases h:300<l.length;have f:Eu ⟨Ln (Ll 300) l,0⟩:=by simp[Eu];omega
 have a:EH l=⟨Ln (Ll 300) l,0⟩:=rfl;unfold ZA;rw[a]at d b c⊢;exact gF [] func15 [] (Fh 9 [.els (Z idv (Ln (Ll 300) l))] (Fl 6 idv l (Ftb 7 (O (300<(l.length:Int))) (Fa (by(simp only[Lm];omega):(0:Int)<=(300:Int)/\300<=(↑(Z idv l).length:Int)) (Fa (ms:Ln (Ll 300) (Z idv l)=Z idv (Ln (Ll 300) l)) (Fbr 14 [32012] (@Z4H (Tape.mk (Ln (Ll 300) l) 0) aa (by(simp only[bs];omega))) (Fu (@Zgv ((Tape.mk (Ln (Ll 300) l) 0).empty) (((Tape.mk (Ln (Ll 300) l) 0).step 4).step 5) aa aa oq oq) Fz)))))));have f:Eu ⟨l,0⟩:=by simp[Eu];omega
 have a:EH l=⟨l,0⟩:=by rw[EH,List.take_of_length_le oq]
 unfold ZA;rw[a]at d b c⊢;exact gF [] func15 [] (Fl 6 idv l (Ffb 7 (O (300<(l.length:Int))) (Fbr 14 [24012] (@Z4H (Tape.mk l 0) aa (by(simp only[bs];omega))) (Fu (@Ze8 ((Tape.mk l 0).empty) (((Tape.mk l 0).step 4).step 5) aa aa oq oq) Fz))))
def R2(h:Heap)(r:Int):Prop:=(Z2 h.C r).2.2=0->(h.P.getD (Z2 h.C r).1.toNat X).K=1\/(h.P.getD (Z2 h.C r).1.toNat X).K=2
structure POk (w:Zi):Prop where
 p:Z8 w.heap=Y
 s:∀r∈w.G,R2 w.heap r
 k:∀r∈w.E,R2 w.heap r
theorem Z60(h:Heap):R2 h 0:=by intro e;grind[Z2]
def R2.mono{h h':Heap}{r}(b:R2 h r)(a:h'.C=h.C)(hk:∀j:Nat,(h.P.getD j X).K≠0->(h'.P.getD j X).K=(h.P.getD j X).K):R2 h' r:=by intro e;rw[a]at e⊢;have q:=b e;grind
def Zbc{c}{a:Zy}(h:EP c a=Y)(hv:Zs c=Y)(g:¬ 0<need c (Z5 a)):Z5 a<=c.pw:=by
 obtain⟨a1,a2,a3,d,a5⟩:=DI h;have hb:=BG.1 hv;unfold need at g d;split at d;rename_i i;rw[if_pos i]at g;split at d;omega;rename_i f;rw[if_neg f]at g;have e:=LL (Z5 a+c.pw-1) c.pw;have j:(Z5 a+c.pw-1)/c.pw=0:=by omega
 rw[j]at e;have:=Lv (Z5 a+c.pw-1) (b:=c.pw) oq;omega;omega
def PT.setPins{c l}(h:PT c l){i:Nat}(hi:i<l.length)(hk:(l.getD i X).K=1\/(l.getD i X).K=2){n:Int}(k:0<=n/\n<=2147483647):PT c (l.set i ⟨(l.getD i X).K,(l.getD i X).S,(l.getD i X).U,n⟩):=by
 have e:∀j,((l.set i ⟨(l.getD i X).K,(l.getD i X).S,(l.getD i X).U,n⟩).getD j X).K=(l.getD j X).K/\((l.set i ⟨(l.getD i X).K,(l.getD i X).S,(l.getD i X).U,n⟩).getD j X).S=(l.getD j X).S/\((l.set i ⟨(l.getD i X).K,(l.getD i X).S,(l.getD i X).U,n⟩).getD j X).U=(l.getD j X).U:=by grind
 refine⟨?_, ?_, ?_⟩;intro j d;rw[Lk]at d;rw[Ck hi];split;have b:=h.b i hi;exact⟨b.s,k,b.k,λq=>by grind,b.k1,λq=>by grind⟩;exact h.b j d;intro j d f;rw[Lk]at d;rw[(e j).1]at f;rw[(e j).2.2,(e j).2.1];have q:=h.lg j d f;grind;intro j d g;rw[Lk]at d;rw[(e j).1]at g;obtain⟨a,a1,a2,a3⟩:=h.tl j d g;grind
def Z54{w n}(h:POk w)(f:BY w n)(hn:n<=1000000){i:Nat}(hi:i<w.heap.P.length)(e:(w.heap.P.getD i X).K=1\/(w.heap.P.getD i X).K=2){d:Int}(hd:d=1\/(d=-1/\0<(w.heap.P.getD i X).N)):POk (pinB w i d):=by
 have hp:=f.N i hi;have b:∀j:Nat,((pinB w i d).heap.P.getD j X).K=(w.heap.P.getD j X).K:=by grind[pinB]
 have c:=h.p;rw[GN]at c;obtain⟨p1,p2,p3,p4,p5,g⟩:=c;refine⟨?_,λr a=>(h.s r a).mono rfl (λj _=>b j),λr a=>(h.k r a).mono rfl (λj _=>b j)⟩;rw[GN];refine⟨p1,p2,by grind[pinB],p4, ?_,g.setPins hi e oq⟩;grind[pinB]
def Z5y(w:Zi)(t:Tape):w.pick t=0\/w.pick t∈w.G\/w.pick t∈w.E:=by have hn:=Gx t (n:=(w.refs.length:Int)) (by grind[Zi.refs]);have:w.pick t∈w.refs:=Bm.2 ⟨_,by omega,rfl⟩;grind[Zi.refs]
def POk.pick{w}(h:POk w) t:R2 w.heap (w.pick t):=by rcases Z5y w t with e|e|e;grind[Z60];exact h.s _ e;exact h.k _ e
def POk.pin{w n}(h:POk w)(a:BY w n)(c:n<=1000000) t:POk (w.pin t):=by
 unfold Zi.pin;split;rename_i e;have o:=GH a.hv e;have f:=a.pl;have hi:HW w t<w.heap.P.length:=by grind[HW]
 have b:=h.pick t e;split;rename_i d;exact Z54 h a c hi b (Lb ⟨rfl,d.1⟩);split;exact Z54 h a c hi b (La rfl);exact h;exact h
def Zfp(t:Tape):POk t.empty:=by
 refine⟨?_,by simp[Tape.empty],by simp[Tape.empty]⟩;have hv:=Z0v t;have hb:=BG.1 hv;have ha:=HS hv;rw[GN];have b:∀j,j<t.C.pg.toNat->(Lc t.C.pg.toNat (⟨0,0,0,0⟩:Z0)).getD j X=⟨0,0,0,0⟩:=λj a=>by grind
 refine⟨hv,by grind[Tape.empty,Ie],by grind[Tape.empty,Ie],La rfl,La rfl, ?_⟩;simp only[Tape.empty,Ie];refine⟨λj a=>?_,λj a c=>?_,λj a c=>?_⟩;rw[Lr]at a;rw[b j a];exact⟨by simp,by simp,by simp,by simp,by simp,by simp⟩;all_goals grind
def Bb(ws:List Int)(a:Int):Zy:=(Z6 (Z1 ws a).1).1
def EV(ws:List Int)(a:Int):Prop:=(Z6 (Z1 ws a).1).2=Y
def Cv(ws:List Int)(a:Int):Int:=(Bb ws a).K
def EG(ws:List Int)(a:Int):Int:=if Cv ws a=0 then 1 else Zl ws a+1
def Zz(h:Heap)(i:Nat):Int:=4096+i*h.C.pw
def Ez(ws:List Int):Int->Int->List Int->Prop|a,b,[]=>a=b|a,b,x::l=>x=a/\EV ws a/\Ez ws (a+Zl ws a+1) b l
def NJ ws a:Z5 (Bb ws a)=Zl ws a+1:=by unfold Bb;rw[Z5,if_pos (SN _)];rfl
def Z3l{ws}:∀{l:List Int} {a b:Int},Ez ws a b l->a<=b
 |[],a,b,h=>by simp only[Ez]at h;omega
 |x::l,a,b,h=>by
  have:=Z3l h.2.2;have:=Bo ws a;omega
def GE{ws}{x:Int}:∀{l:List Int} {a b:Int},Ez ws a b l->x∈l->EV ws x/\a<=x/\x+Zl ws x<b
 |[],_,_,_,hx=>by simp at hx
 |y::l,a,b,h,hx=>by
  have hr:=Bo ws a;rcases Lt.1 hx with rfl|hx
  .have:=Z3l h.2.2;rw[h.1];exact⟨h.2.1,by omega,by omega⟩
  .have:=GE h.2.2 hx;exact⟨this.1,by omega,this.2.2⟩
def Z28{ws}{x y:Int}:∀{l:List Int} {a b:Int},Ez ws a b l->x∈l->y∈l->x<y->x+Zl ws x<y
 |[],_,_,_,hx,_,_=>by simp at hx
 |z::l,a,b,h,hx,hy,hxy=>by
  have hr:=Bo ws a;have c:=h.1;rcases Lt.1 hx with e|hx'
  .rcases Lt.1 hy with e2|hy'
   .omega
   .have:=(GE h.2.2 hy').2.1;rw[e,c];omega
  .rcases Lt.1 hy with e2|hy'
   .have:=(GE h.2.2 hx').2.1;omega
   .exact Z28 h.2.2 hx' hy' hxy
def Z11{ws}{m:List Int}{b c}:∀{l:List Int} {a:Int},Ez ws a b l->Ez ws b c m->Ez ws a c (l++m)|[],a,h,d=>by simp only[Ez]at h;subst h;exact d|_::_,_,h,d=>⟨h.1,h.2.1,Z11 h.2.2 d⟩
def Ns{ws ws'}:∀{l:List Int} {a b:Int},Ez ws a b l->(∀x∈l,EV ws' x/\Zl ws' x=Zl ws x)->Ez ws' a b l
 |[],_,_,h,_=>h
 |x::l,a,b,h,hh=>by
  have c:=hh x pq;have d:=h.1;subst d;refine⟨rfl,c.1, ?_⟩;rw[c.2];exact Ns h.2.2 λy e=>hh y (L1 _ e)
def Z40{ws}{c:Int}:∀{l:List Int} {a b:Int},Ez ws a b l->a<=c->c<b->∃x∈l,x<=c/\c<=x+Zl ws x
 |[],a,b,h,d,h2=>by simp only[Ez]at h;omega
 |x::l,a,b,h,d,h2=>by
  by_cases f:c<=a+Zl ws a
  .exact⟨a,by rw[h.1];simp,d,f⟩
  .obtain⟨y,g,e⟩:=Z40 h.2.2 (show a+Zl ws a+1<=c by omega) h2;exact⟨y,L1 _ g,e⟩
theorem E9{ws ws' a}(h:(Z1 ws' a).1=(Z1 ws a).1):(EV ws a->EV ws' a)/\Zl ws' a=Zl ws a/\Cv ws' a=Cv ws a/\Bb ws' a=Bb ws a/\EG ws' a=EG ws a:=by
 have e:Bb ws' a=Bb ws a:=by rw[Bb,Bb,h]
 have b:Zl ws' a=Zl ws a:=by rw[Zl,Zl,h]
 have c:Cv ws' a=Cv ws a:=by rw[Cv,Cv,e]
 exact⟨λq=>by rw[EV,h];exact q,b,c,e,by rw[EG,EG,b,c]⟩
section
variable {h:Heap} (p:Z8 h=Y) {i:Nat} (hi:i<h.P.length) (a:(h.P.getD i X).K=1)
include p hi a
theorem at_one{x:Int}(h1:Zz h i<=x)(h2:x+Zl h.W x<Zz h i+(h.P.getD i X).U)(o:EV h.W x):Z9 h x=(Bb h.W x,0):=by
 have b:=B1 p;have pp:=Eb p hi;have r:=Bo h.W x;have e:Z2 h.C x=((i:Int),x-Zz h i,0):=by(rw[<-AJ (c:=h.C) (i:=i) (o:=x-Zz h i) b.1 oq oq];congr 1;unfold Zz;omega)
 have s:Z5 (Z6 (Z1 h.W x).1).1=Zl h.W x+1:=NJ h.W x;unfold Z9;rw[if_pos p,e];simp only[Lx,s,if_true];rw[if_pos ⟨.inl a,by omega,o⟩,if_neg];rfl;omega
theorem Z33:∀(f:Nat) (o:Int) (l:List Int),Ez h.W (Zz h i+o) (Zz h i+(h.P.getD i X).U) l->0<=o->(h.P.getD i X).U-o<=f->Ej h i f o=some l
 |0,o,[],ht,b,hf=>rfl
 |0,o,x::l,ht,b,hf=>by
  have:=Z3l ht.2.2;have:=Bo h.W (Zz h i+o);omega
 |f+1,o,[],ht,b,hf=>by
  simp only[Ez]at ht;unfold Ej;rw[if_neg];show¬ o<(h.P.getD (i:Int).toNat X).U;rw[Lx];omega
 |f+1,o,x::l,ht,b,hf=>by
  have e:=ht.1;have m:=GE ht (x:=x) pq;have k:=B1 p;have pp:=Eb p hi;have hr:=Bo h.W x;have c:pg h (i:Int)=h.P.getD i X:=by simp[pg]
  have g:Ba h i o=x:=by
   unfold Ba address;rw[if_pos k.1,if_pos (HH.2 ⟨by omega,by omega,b,by omega⟩),e];unfold Zz;simp only;omega
  have d:=ht.2.2;rw[<-e]at d;have j:=Z33 f (o+(Zl h.W x+1)) l (by rw[show Zz h i+(o+(Zl h.W x+1))=x+Zl h.W x+1 by omega];exact d) oq oq;unfold Ej;rw[c,if_pos oq,g,at_one p hi a oq m.2.2 m.1];simp only[if_true];rw[if_neg oq,NJ,j];rfl
theorem ZgL{l}(t:Ez h.W (Zz h i) (Zz h i+(h.P.getD i X).U) l):Zd h i=(l,0):=by
 have pp:=Eb p hi;have b:pg h (i:Int)=h.P.getD i X:=by simp[pg]
 unfold Zd;rw[if_pos p,if_pos oq,b,if_neg oq,Z33 p hi a 256 0 l (by rw[LI];exact t) oq oq]
end
structure Gt (h:Heap) (T:Nat->List Int):Prop where
 p:Z8 h=Y
 t1:∀i,i<h.P.length->(h.P.getD i X).K=1->Ez h.W (Zz h i) (Zz h i+(h.P.getD i X).U) (T i)
 t2:∀i,i<h.P.length->(h.P.getD i X).K=2->T i=[Zz h i]/\EV h.W (Zz h i)/\Zl h.W (Zz h i)+1=(h.P.getD i X).U
 t0:∀i x,x∈T i->i<h.P.length/\((h.P.getD i X).K=1\/(h.P.getD i X).K=2)
structure Gd (h:Heap) (T:Nat->List Int):Prop where
 p:Z8 h=Y
 sp:∀i,i<h.P.length->(h.P.getD i X).K≠0->(h.P.getD i X).S=h.S
 t1:∀i,i<h.P.length->(h.P.getD i X).K=1->Ez h.W (Zz h i) (Zz h i+(h.P.getD i X).U) (T i)/\∀x∈T i,Zl h.W x+1<=Zb h.C
 t2:∀i,i<h.P.length->(h.P.getD i X).K=2->T i=[Zz h i]/\EV h.W (Zz h i)/\Zl h.W (Zz h i)+1=(h.P.getD i X).U/\Cv h.W (Zz h i)≠0
 t0:∀i x,x∈T i->i<h.P.length/\((h.P.getD i X).K=1\/(h.P.getD i X).K=2)
 d:∀a,(Z1 h.W a).1≠0->∃i x,x∈T i/\x<=a/\a<x+EG h.W x
 q:∀i x k,x∈T i->Cv h.W x≠0->0<=k->k<Zl h.W x->Bf (Bb h.W x) k=Y->(Z1 h.W (x+1+k)).1=0\/∃j,(Z1 h.W (x+1+k)).1∈T j/\Cv h.W (Z1 h.W (x+1+k)).1≠0
 cr:(crowd h.P:Int)<=h.C.pg/4
def Ob(h:Heap)(T:Nat->List Int)(x:Int):Prop:=∃j,x∈T j/\Cv h.W x≠0
section
variable {h:Heap} {T:Nat->List Int} (g:Gt h T)
include g
theorem Gt.on{i}{x:Int}(a:x∈T i):i<h.P.length/\((h.P.getD i X).K=1\/(h.P.getD i X).K=2)/\Zz h i<=x/\x<Zz h i+h.C.pw/\x+Zl h.W x<Zz h i+(h.P.getD i X).U/\EV h.W x/\((h.P.getD i X).K=2->x=Zz h i/\Zl h.W x+1=(h.P.getD i X).U):=by have t:=g.t0 i x a;have po:=B1 g.p;have pp:=Eb g.p t.1;have hr:=Bo h.W x;refine⟨t.1,t.2, ?_⟩;rcases t.2 with k|k;have m:=GE (g.t1 i t.1 k) a;exact⟨m.2.1,by omega,m.2.2,m.1,λq=>by omega⟩;have m:=g.t2 i t.1 k;rw[m.1]at a;have a:=Lf.1 a;subst a;exact⟨by omega,by omega,by omega,m.2.1,λ_=>⟨rfl,m.2.2⟩⟩
theorem Gt.ofx{i}{x:Int}(a:x∈T i):Z2 h.C x=((i:Int),x-Zz h i,0):=by have o:=g.on a;have b:=B1 g.p;have:=AJ (c:=h.C) (i:=i) (o:=x-Zz h i) b.1 oq oq;rw[<-this];congr 1;unfold Zz;omega
theorem Gt.sep{i j}{x y:Int}(d:x∈T i)(e:y∈T j)(c:x<y):x+Zl h.W x<y:=by have a:=g.on d;have b:=g.on e;have r2:=Bo h.W y;have r1:=Bo h.W x;unfold Zz at a b;rcases L6 i j with q|q|q;have:=Ao g.p q b.1 a.2.1 oq;omega;subst q;rcases a.2.1 with k|k;exact Z28 (g.t1 i a.1 k) d e c;have:=(a.2.2.2.2.2.2 k).1;have:=(b.2.2.2.2.2.2 k).1;omega;have:=Ao g.p q a.1 b.2.1 oq;omega
theorem Gt.free{i j:Nat}{x:Int}(hi:i<h.P.length)(hk:(h.P.getD i X).K=0\/(h.P.getD i X).K=1)(b:x∈T j):x+Zl h.W x<Zz h i+BW (h.P.getD i X)\/Zz h i+h.C.pw<=x:=by
 have o:=g.on b;have po:=B1 g.p;have pp:=Eb g.p hi;have a:0<=BW (h.P.getD i X):=by unfold BW;split<;>omega
 unfold Zz at o⊢;rcases L6 i j with q|q|q;have:=Ew (i:=i) (j:=j) (pw:=h.C.pw) oq oq;omega;subst q;rw[BW,if_neg oq];omega;have:=Ao g.p q hi o.2.1 oq;omega
theorem Gt.at'{i}{x:Int}(a:x∈T i):Z9 h x=(Bb h.W x,0):=by have o:=g.on a;have r:=Bo h.W x;have s:Z5 (Z6 (Z1 h.W x).1).1=Zl h.W x+1:=NJ h.W x;unfold Z9;rw[if_pos g.p,g.ofx a];simp only[Lx,s,if_true];rw[if_pos ⟨o.2.1,by omega,o.2.2.2.2.2.1⟩,if_neg];rfl;have:=o.2.2.2.2.2.2;omega
theorem Gt.page{i:Nat}(hi:i<h.P.length):Zd h i=(T i,0):=by
 have pp:=Eb g.p hi;have a:pg h (i:Int)=h.P.getD i X:=by simp[pg]
 unfold Zd;rw[if_pos g.p,if_pos oq,a];by_cases e:(h.P.getD i X).K=0\/(h.P.getD i X).K=3;rw[if_pos e];have:T i=[]:=LR.2 λx b=>by have:=(g.t0 i x b).2;omega
 rw[this];rw[if_neg e];by_cases c:(h.P.getD i X).K=1;have:=Z33 g.p hi c 256 0 (T i) (by rw[LI];exact(g.t1 i hi c)) oq oq;rw[this];have d:(h.P.getD i X).K=2:=by omega
 have t:=g.t2 i hi d;have b:Zz h i∈T i:=by rw[t.1];simp
 have on:=g.on b;have j:=B1 g.p;have hr:=Bo h.W (Zz h i);have f:Ba h i 0=Zz h i:=by(unfold Ba address;rw[if_pos j.1,if_pos (HH.2 ⟨by omega,by omega,by omega,by omega⟩)];unfold Zz;simp)
 have:Ej h i 256 0=some (T i):=by(unfold Ej;rw[a,if_pos oq,f,g.at' b];simp only[if_true];rw[if_pos d,t.1])
 rw[this]
theorem Gt.starts:∀(f i:Nat),i+f=h.P.length->(Cl h f i).2=0/\∀x,x∈(Cl h f i).1↔∃j,i<=j/\x∈T j
 |0,i,hf=>by
  refine⟨rfl,λx=>⟨λa=>by simp[Cl]at a, ?_⟩⟩;rintro⟨j,b,a⟩;have:=(g.t0 j x a).1;omega
 |f+1,i,hf=>by
  obtain⟨c,i2⟩:=Gt.starts f (i+1) oq;unfold Cl;rw[g.page (show i<h.P.length by omega)];simp only[c,if_true];refine⟨trivial,λx=>?_⟩;rw[Ld,i2];constructor
  .rintro(a|⟨j,b,a⟩)
   .exact⟨i,Le _,a⟩
   .exact⟨j,by omega,a⟩
  .rintro⟨j,b,a⟩;by_cases q:j=i
   .subst q;exact La a
   .exact Lb ⟨j,by omega,a⟩
theorem Gt.objs:(Zr h).2=0/\∀x,x∈(Zr h).1↔Ob h T x:=by
 have s:=g.starts h.P.length 0 oq;have e:CB h=Cl h h.P.length 0:=by rw[CB,if_pos g.p]
 unfold Zr;rw[e];refine⟨s.1,λx=>?_⟩;rw[List.mem_filter,s.2];constructor;rintro⟨⟨j,_,hj⟩,hb⟩;have hb':(Z9 h x).1.K≠0:=of_decide_eq_true hb;rw[g.at' hj]at hb';exact⟨j,hj,hb'⟩;rintro⟨j,hj,hb⟩;refine⟨⟨j,by omega,hj⟩,decide_eq_true ?_⟩;rw[g.at' hj];exact hb
end
section
variable {h:Heap} {T:Nat->List Int} (g:Gd h T)
include g
theorem Gd.gt:Gt h T:=⟨g.p,λi hi a=>(g.t1 i hi a).1,λi hi a=>⟨(g.t2 i hi a).1,(g.t2 i hi a).2.1,(g.t2 i hi a).2.2.1⟩,g.t0⟩
theorem Gd.on{i}{x:Int}(a:x∈T i):i<h.P.length/\((h.P.getD i X).K=1\/(h.P.getD i X).K=2)/\Zz h i<=x/\x<Zz h i+h.C.pw/\x+Zl h.W x<Zz h i+(h.P.getD i X).U/\EV h.W x/\((h.P.getD i X).K=2->x=Zz h i/\Zl h.W x+1=(h.P.getD i X).U):=g.gt.on a
theorem Gd.ofx{i}{x:Int}(a:x∈T i):Z2 h.C x=((i:Int),x-Zz h i,0):=g.gt.ofx a
theorem Gd.sep{i j}{x y:Int}(b:x∈T i)(c:y∈T j)(a:x<y):x+Zl h.W x<y:=g.gt.sep b c a
theorem Gd.free{i j:Nat}{x:Int}(hi:i<h.P.length)(a:(h.P.getD i X).K=0\/(h.P.getD i X).K=1)(b:x∈T j):x+Zl h.W x<Zz h i+BW (h.P.getD i X)\/Zz h i+h.C.pw<=x:=g.gt.free hi a b
theorem Gd.at'{i}{x:Int}(a:x∈T i):Z9 h x=(Bb h.W x,0):=g.gt.at' a
theorem Gd.page{i:Nat}(hi:i<h.P.length):Zd h i=(T i,0):=g.gt.page hi
theorem Gd.objs:(Zr h).2=0/\∀x,x∈(Zr h).1↔Ob h T x:=g.gt.objs
end
def Z7q{l:List Z0}:∀{i j:Nat},j<=i->(l.getD j X).K≠3->(∀m,j<m->m<=i->(l.getD m X).K=3)->ZV l i=j
 |0,j,h,_,_=>by simp[ZV];omega
 |i+1,j,h,hk,hm=>by
  unfold ZV;by_cases q:j=i+1
  .subst q;rw[if_neg hk]
  .rw[if_pos (hm (i+1) oq (Le _))];exact Z7q oq hk λm a h2=>hm m a oq
def Z7y{ws:List Int}{a n:Int}{k:Nat}(hn:0<=n)(b:4096<=a/\a-4096+n<=ws.length)(hk:(k:Int)<n):(BX ws a n).1.getD k X=(Z1 ws (a+k)).1:=by unfold BX Z1;rw[if_neg oq,if_pos b,if_pos oq];simp only[Lg];rw[List.getElem?_take_of_lt oq,List.getElem?_drop,show(a-4096).toNat+k=(a+k-4096).toNat by omega];rfl
section
variable {h:Heap} {T:Nat->List Int} (g:Gd h T)
include g
theorem Gd.inw{i}{x:Int}(a:x∈T i):4096<=x/\x+Zl h.W x<4096+h.W.length:=by have o:=g.on a;have po:=B1 g.p;have u:=O1 g.p o.1 o.2.1;have h0:0<=(i:Int)*h.C.pw:=LN oq oq;unfold Zz at o;omega
theorem Gd.head{i j:Nat}{x a:Int}(f:x∈T j)(h1:x<=a)(h2:a<=x+Zl h.W x)(hi:i<h.P.length)(c:Zz h i<=a)(h4:a<Zz h i+h.C.pw):ZV h.P i=j:=by
 have o:=g.on f;have po:=B1 g.p;unfold Zz at o c h4;have b:j<=i:=by(by_cases q:j<=i;exact q;have:=Ew (i:=i) (j:=j) (pw:=h.C.pw) oq oq;omega)
 refine Z7q b oq λm l m2=>?_;have e:=Ew (i:=j) (j:=m) (pw:=h.C.pw) oq oq;have d:(m:Int)*h.C.pw<=i*h.C.pw:=LM oq oq;rcases o.2.1 with k|k;have pp:=Eb g.p o.1;omega;by_cases q:(h.P.getD m X).K=3;exact q;have:=Ao g.p l oq (Lb k) q;omega
theorem Gd.badd{i k:Nat}(hi:i<h.P.length)(hk:(k:Int)<h.C.pw):Hs h i (CG h i) k=M:=by
 have p:=B1 g.p;unfold Hs;have f:Gq h i k=(Z1 h.W (Zz h i+k)).1:=by(unfold Gq address;rw[if_pos p.1,if_pos (HH.2 ⟨by omega,by omega,by omega,by omega⟩)];unfold Zz;simp only;rw[LH])
 rw[f];by_cases c:(Z1 h.W (Zz h i+k)).1=0;rw[c];simp;obtain⟨j,x,a,d,l⟩:=g.d _ c;have hr:=Bo h.W x;have o:EG h.W x<=Zl h.W x+1:=by unfold EG;split<;>omega
 have n:=g.head a d oq hi oq oq;have m:(CG h i).getD k X=Y:=by
  unfold CG Ct;rw[n,g.page (g.on a).1];have b:k<h.C.pw.toNat:=by omega
  simp only[Lg,List.getElem?_map,List.getElem?_range b,Option.map_some,Option.getD_some,List.any_eq_true];refine⟨x,a, ?_⟩;unfold AS;have e:Gs h x=EG h.W x:=by(unfold Gs EG;rw[g.at' a];rw[NJ];rfl)
  rw[e,Lu,decide_eq_true_eq,decide_eq_true_eq];unfold Zz at d l;omega
 rw[m];simp
theorem Gd.dirt{i:Nat}(hi:i<h.P.length):El h i (CG h i)=0:=by
 have hl:=TK h i;unfold El;have:(Lo (CG h i).length).find? (Hs h i (CG h i))=none:=by(rw[Lj];intro k a;have a:=Li.1 a;rw[g.badd hi oq];simp)
 rw[this]
theorem Gd.cls{i}{x:Int}(a:x∈T i):Gg h i x=M:=by
 have o:=g.on a;unfold Gg;rw[g.at' a,NJ,Lx];rcases o.2.1 with k|k;have:=(g.t1 i o.1 k).2 x a;rw[k];simp;omega;have t:=g.t2 i o.1 k;have b:=(o.2.2.2.2.2.2 k).1;have:(Bb h.W x).K≠0:=by rw[b];exact t.2.2.2
 rw[k];simp;exact this
theorem Gd.pageF{i:Nat}(hi:i<h.P.length):(pageF h i).fault=0:=by
 have b:=g.sp i hi;have a:Cp h i (T i)=0:=by
  unfold Cp;have:(T i).find? (Gg h i)=none:=by(rw[Lj];intro x c;rw[g.cls c];simp)
  rw[this];rfl
 unfold Go.Proofs.YtgedmeaemofdkaaGreat.pageF;rw[if_neg (by rintro⟨d,e⟩;exact e (b d)),g.page hi,if_neg pq,if_neg (by rw[a];simp),if_neg (by rw[g.dirt hi];simp)]
theorem Gd.fields{i}{x:Int}(d:x∈T i)(a:Cv h.W x≠0):Zo h x=(Bb h.W x,0)/\((BR h x).1.length:Int)=Zl h.W x/\∀k:Nat,(k:Int)<Zl h.W x->(BR h x).1.getD k X=(Z1 h.W (x+1+k)).1:=by
 have n:=g.inw d;have r:=Bo h.W x;have c:Zo h x=(Bb h.W x,0):=by(unfold Zo;rw[if_pos g.p,if_neg oq,g.at' d,if_neg];rintro⟨_,q⟩;exact a q)
 have b:BR h x=BX h.W (x+1) (Zl h.W x):=by(unfold BR;rw[c,if_pos rfl];rfl)
 refine⟨c, ?_, ?_⟩;rw[b];unfold BX;rw[if_neg oq,if_pos oq];simp only[LX,LW];omega;intro k a;rw[b];exact Z7y r.1 oq a
theorem Gd.good:Bg h=⟨0,0,0⟩:=by
 have n:=g.objs;have o:Gm h=none:=by(unfold Gm;rw[Lj];intro i hi;have:=g.pageF (Li.1 hi);simp[this])
 have p:ED h (Zr h).1=⟨0,0,0⟩:=by
  unfold ED;have:(Lo (Zr h).1.length).find? (λi=>(Hw h (Zr h).1 i).isSome)=none:=by
   rw[Lj];intro i hi;have l:(Zr h).1.getD i X∈(Zr h).1:=Bm.2 ⟨i,Li.1 hi,rfl⟩;have:Hw h (Zr h).1 i=none:=by
    unfold Hw;generalize (Zr h).1.getD i X=x at l⊢;obtain⟨j,d,b⟩:=(n.2 x).1 l;have f:=g.fields d b;rw[Lj];intro k e;have e:=Li.1 e;have a:(k:Int)<Zl h.W x:=by omega
    unfold IE;rw[f.1,f.2.2 k a];intro c;simp only[Lu,Bool.not_eq_true',decide_eq_true_eq,decide_eq_false_iff_not]at c;rcases g.q j x k d b oq a c.1.1 with q|⟨m,r,s⟩;exact c.1.2 q;exact c.2 ((n.2 _).2 ⟨m,r,s⟩)
   rw[this];simp
  rw[this]
 unfold Bg;rw[if_pos g.p,o];simp only[p,ne_eq,not_true_eq_false,if_false];rw[if_neg];have:=g.cr;show¬ h.C.pg/4<(crowd h.P:Int);omega
theorem Gd.refers{s:List Int}(hs:∀r∈s,r=0\/Ob h T r):Bw h s=Y:=by
 unfold Bw;rw[Lu,decide_eq_true_eq];refine⟨g.good, ?_⟩;have:(Lo s.length).find? (Gn s (Zr h).1)=none:=by(rw[Lj];intro i hi;have a:s.getD i X∈s:=Bm.2 ⟨i,Li.1 hi,rfl⟩;unfold Gn;rw[decide_eq_true_eq];rintro⟨b,c⟩;rcases hs _ a with q|q;exact b q;exact c ((g.objs.2 _).2 q))
 rw[this];rfl
end
def decode_encode{a:Zy}(hv:ZR a=Y)(e:0<=a.map/\a.map<=4294967295):Z6 (Zt a).1=(a,Y):=by
 have b:=Gf.1 hv;have c:Zt a=(1+4*a.K+16*a.length+65536*a.map,0):=by rw[Zt,if_pos hv]
 have d:EL (1+4*a.K+16*a.length+65536*a.map)=a:=by(obtain⟨k,l,m⟩:=a;simp only at b e;simp only[EL,Zy.mk.injEq];omega)
 rw[c];unfold Z6;simp only[d,c];simp
def Z6o{l a:List Z0}:∀n:Nat,(∀i,i<n->(a.getD i X).K=1->0<(a.getD i X).N->(l.getD i X).K=1/\0<(l.getD i X).N)->Bn a n<=Bn l n
 |0,_=>Le _
 |n+1,hh=>by
  have ih:=Z6o n λi hi=>hh i oq;have b:=hh n oq;unfold Bn;split
  .rename_i c;rw[if_pos (b c.1 c.2)];omega
  .split<;>omega
def Z4K{l:List Z0}{i:Nat}{p:Z0}(hi:i<l.length):∀n:Nat,Bn (l.set i p) n<=Bn l n+1/\(n<=i->Bn (l.set i p) n<=Bn l n)
 |0=>⟨by simp[Bn],λ_=>Le _⟩
 |n+1=>by
  obtain⟨i1,i2⟩:=Z4K (p:=p) hi n;unfold Bn;rw[Ck hi];by_cases q:i=n
  .have:=i2 oq;subst q;refine⟨?_,λq=>by omega⟩;split<;>split<;>omega
  .rw[if_neg q];refine⟨?_,λq2=>?_⟩
   .split<;>omega
   .have:=i2 oq;split<;>omega
def Mz{l a:List Z0}(hl:a.length=l.length)(b:∀i,i<l.length->(a.getD i X).K=1->0<(a.getD i X).N->(l.getD i X).K=1/\0<(l.getD i X).N):crowd a<=crowd l:=by unfold crowd;rw[hl];exact Z6o _ b
def Gd.P{h h':Heap}{T}(g:Gd h T)(j:Z8 h'=Y)(d:h'.C=h.C)(c:h'.W=h.W)(hs:h'.S=h.S)(hl:h'.P.length=h.P.length)(b:∀i,i<h.P.length->(h'.P.getD i X).K=(h.P.getD i X).K/\(h'.P.getD i X).S=(h.P.getD i X).S/\(h'.P.getD i X).U=(h.P.getD i X).U)(e:(crowd h'.P:Int)<=h.C.pg/4):Gd h' T:=by
 have f:∀i,Zz h' i=Zz h i:=λi=>by rw[Zz,Zz,d]
 refine⟨j, ?_, ?_, ?_, ?_,by rw[c];exact g.d,by rw[c];exact g.q,by rw[d];exact e⟩;intro i hi a;rw[hl]at hi;rw[(b i hi).1]at a;rw[(b i hi).2.1,hs];exact g.sp i hi a;intro i hi a;rw[hl]at hi;rw[(b i hi).1]at a;rw[(b i hi).2.2,c,f,d];exact g.t1 i hi a;intro i hi a;rw[hl]at hi;rw[(b i hi).1]at a;rw[(b i hi).2.2,c,f];exact g.t2 i hi a;intro i x k;have t:=g.t0 i x k;rw[hl,(b i t.1).1];exact t
def Gd.store{h T}(g:Gd h T){x k v:Int}(hx:Ob h T x)(hk:0<=k/\k<Zl h.W x)(hv:Bf (Bb h.W x) k=Y->v=0\/Ob h T v) :Gd {h with W:=(BL h.W (x+1+k) v).1} T/\(∀i y,y∈T i->(Z1 (BL h.W (x+1+k) v).1 y).1=(Z1 h.W y).1):=by
 obtain⟨j,p,a2⟩:=hx;have n:=g.inw p;have d:4096<=x+1+k/\x+1+k<4096+h.W.length:=by omega
 have s:=An (ws:=h.W) (v:=v) d;have u:∀i y,y∈T i->(Z1 (BL h.W (x+1+k) v).1 y).1=(Z1 h.W y).1:=by(intro i y c;rw[Gj d];intro e;have:=g.sep p c oq;omega)
 have l:∀i y,y∈T i->EV h.W y/\EV (BL h.W (x+1+k) v).1 y/\Zl (BL h.W (x+1+k) v).1 y=Zl h.W y/\Cv (BL h.W (x+1+k) v).1 y=Cv h.W y/\Bb (BL h.W (x+1+k) v).1 y=Bb h.W y/\EG (BL h.W (x+1+k) v).1 y=EG h.W y:=by(intro i y c;have o:=E9 (u i y c);have:=(g.on c).2.2.2.2.2.1;exact⟨this,o.1 this,o.2⟩)
 refine⟨⟨?_,g.sp, ?_, ?_,g.t0, ?_, ?_,g.cr⟩,u⟩;have q:=g.p;rw[GN]at q⊢;refine⟨q.1, ?_,q.2.2.1,q.2.2.2.1,q.2.2.2.2.1,q.2.2.2.2.2⟩;simp only[s];exact q.2.1;intro i hi a0;have t:=g.t1 i hi a0;exact⟨Ns t.1 λy c=>⟨(l i y c).2.1,(l i y c).2.2.1⟩,λy c=>by rw[(l i y c).2.2.1];exact t.2 y c⟩;intro i hi a1;have t:=g.t2 i hi a1;have q:=l i (Zz h i) (by rw[t.1];simp);refine⟨t.1,q.2.1, ?_, ?_⟩;exact q.2.2.1▸t.2.2.1;exact q.2.2.2.1▸t.2.2.2;intro a ha;by_cases e:a=x+1+k;refine⟨j,x,p,by omega, ?_⟩;simp only;rw[(l j x p).2.2.2.2.2,EG,if_neg a2];omega;simp only at ha;rw[Gj d e]at ha;obtain⟨i,y,c,r,h2⟩:=g.d a ha;refine⟨i,y,c,r, ?_⟩;simp only;rw[(l i y c).2.2.2.2.2];exact h2;intro i y m c f h0 r w;simp only at f r w⊢;obtain⟨c0,c1,c2,c3,c4,c5⟩:=l i y c;rw[c3]at f;rw[c2]at r;rw[c4]at w;have fin:∀z,z=0\/Ob h T z->z=0\/∃j,z∈T j/\Cv (BL h.W (x+1+k) v).1 z≠0:=by(rintro z (q|⟨b,b1,b2⟩);exact La q;exact Lb ⟨b,b1,by rw[(l b z b1).2.2.2.1];exact b2⟩)
 by_cases e:y+1+m=x+1+k;have a4:y=x:=by(rcases Int.lt_trichotomy y x with q|q|q;have:=g.sep c p q;omega;exact q;have:=g.sep p c q;omega)
 subst a4;have a3:m=k:=by omega
 subst a3;rw[Si d];exact fin _ (hv w);rw[Gj d e];exact fin _ (g.q i y m c f h0 r w)
def Gd.add{h h':Heap}{T}(g:Gd h T){i:Nat}{a}{hd:Zy}(hv:ZR hd=Y)(hm:0<=hd.map/\hd.map<=4294967295)(hk:hd.K≠0)(hp:Z8 h'=Y)(hc:h'.C=h.C)(hs:h'.S=h.S)(hl:h'.P.length=h.P.length)(hw:h'.W=(ZS h.W a (BF hd)).1)(hin:4096<=a/\a+Z5 hd<=4096+h.W.length)(hi:i<h.P.length)(hj:∀j,j<h.P.length->j≠i->h'.P.getD j X=h.P.getD j X\/((h.P.getD j X).K=0/\(h'.P.getD j X).K=3/\(h'.P.getD j X).S=h.S))(hI:((h.P.getD i X).K=0\/(h.P.getD i X).K=1)/\(h'.P.getD i X).K=1/\a=Zz h i+BW (h.P.getD i X)/\(h'.P.getD i X).U=BW (h.P.getD i X)+Z5 hd/\Z5 hd<=Zb h.C\/(h.P.getD i X).K=0/\(h'.P.getD i X).K=2/\a=Zz h i/\(h'.P.getD i X).U=Z5 hd)(hsp:(h'.P.getD i X).S=h.S)(hcr:crowd h'.P<=crowd h.P)(hdis:∀j x,x∈T j->x+Zl h.W x<a\/a+Z5 hd<=x) :Gd h' (λj=>if j=i then T i++[a]else T j)/\Cv h'.W a≠0/\Bb h'.W a=hd/\(∀k,a<k->k<a+Z5 hd->(Z1 h'.W k).1=0)/\(∀k,k<a\/a+Z5 hd<=k->Z1 h'.W k=Z1 h.W k):=by
 have ow:=Z53 hv hm;have hs1:Z5 hd=hd.length+1:=by rw[Z5,if_pos hv]
 have vb:=Gf.1 hv;have hin':4096<=a/\a-4096+(BF hd).length<=h.W.length:=by omega
 have out:∀k,k<a\/a+Z5 hd<=k->Z1 h'.W k=Z1 h.W k:=by(intro k hk;rw[hw];exact Aa hin' oq)
 have wa:(Z1 h'.W a).1=(Zt hd).1:=by(rw[hw,RU hin' oq];simp[BF])
 have z:∀k,a<k->k<a+Z5 hd->(Z1 h'.W k).1=0:=by
  intro k h1 h2;rw[hw,RU hin' oq];have:(k-a).toNat=(k-a-1).toNat+1:=by omega
  rw[this,BF];simp[Lg,LA];split<;>rfl
 have de:=decode_encode hv hm;have ha1:Bb h'.W a=hd:=by rw[Bb,wa,de]
 have ha2:EV h'.W a:=by rw[EV,wa,de]
 have ha3:Zl h'.W a=hd.length:=by rw[Zl,wa,de]
 have ha4:Cv h'.W a≠0:=by rw[Cv,ha1];exact hk
 have hb:∀j,Zz h' j=Zz h j:=λj=>by rw[Zz,Zz,hc]
 have ky:∀j x,x∈T j->EV h'.W x/\Zl h'.W x=Zl h.W x/\Cv h'.W x=Cv h.W x/\Bb h'.W x=Bb h.W x/\EG h'.W x=EG h.W x/\∀m,0<=m->m<=Zl h.W x->Z1 h'.W (x+m)=Z1 h.W (x+m):=by(intro j x hx;have d:=hdis j x hx;have r:=Bo h.W x;have o:=E9 (ws:=h.W) (ws':=h'.W) (a:=x) (by rw[out x oq]);refine⟨o.1 (g.on hx).2.2.2.2.2.1,o.2.1,o.2.2.1,o.2.2.2.1,o.2.2.2.2,λm h1 h2=>out _ oq⟩)
 have mem:∀j x,x∈(if j=i then T i++[a]else T j)->x∈T j\/(j=i/\x=a):=by(intro j x hx;split at hx;rename_i q;subst q;rcases Ld.1 hx with hx|hx;exact La hx;exact Lb ⟨rfl,Lf.1 hx⟩;exact La hx)
 have mem2:∀j x,x∈T j->x∈(if j=i then T i++[a]else T j):=by(intro j x hx;split;rename_i q;subst q;exact Lh _ hx;exact hx)
 have mem3:a∈(if i=i then T i++[a]else T i):=by simp
 have hnil:(h.P.getD i X).K=0->T i=[]:=λq=>LR.2 λx hx=>by have:=(g.t0 i x hx).2;omega
 refine⟨⟨hp, ?_, ?_, ?_, ?_, ?_, ?_, ?_⟩,ha4,ha1,z,out⟩;intro j hj1 hk1;rw[hl]at hj1;rw[hs];by_cases q:j=i;subst q;exact hsp;rcases hj j hj1 q with e|e;rw[e]at hk1⊢;exact g.sp j hj1 hk1;exact e.2.2;intro j hj1 hk1;rw[hl]at hj1;rw[hb,hc];by_cases q:j=i;subst q;simp only[if_true];rcases hI with⟨c1,c2,c3,c4,c5⟩|c;refine⟨?_, ?_⟩;have last:Ez h'.W a (Zz h j+(h'.P.getD j X).U) [a]:=⟨rfl,ha2,by rw[ha3];simp only[Ez];omega⟩;refine Z11 (b:=a) ?_ last;rcases c1 with c1|c1;rw[hnil c1];rw[BW,if_pos c1]at c3;simp only[Ez];omega;have t:=(g.t1 j hi c1).1;rw[BW,if_neg oq]at c3;rw[c3];exact Ns t λx hx=>⟨(ky j x hx).1,(ky j x hx).2.1⟩;intro x hx;rcases Ld.1 hx with hx|hx;rw[(ky j x hx).2.1];rcases c1 with c1|c1;rw[hnil c1]at hx;simp at hx;exact(g.t1 j hi c1).2 x hx;have:=Lf.1 hx;subst this;omega;omega;rw[if_neg q];rcases hj j hj1 q with e|e;rw[e]at hk1⊢;have t:=g.t1 j hj1 hk1;exact⟨Ns t.1 λx hx=>⟨(ky j x hx).1,(ky j x hx).2.1⟩,λx hx=>by rw[(ky j x hx).2.1];exact t.2 x hx⟩;omega;intro j hj1 hk2;rw[hl]at hj1;rw[hb];by_cases q:j=i;subst q;simp only[if_true];rcases hI with c|⟨c1,c2,c3,c4⟩;omega;rw[hnil c1,<-c3,ha3];exact⟨rfl,ha2,by omega,ha4⟩;rw[if_neg q];rcases hj j hj1 q with e|e;rw[e]at hk2⊢;have t:=g.t2 j hj1 hk2;have k:=ky j (Zz h j) (by rw[t.1];simp);exact⟨t.1,k.1,by rw[k.2.1];exact t.2.2.1,by rw[k.2.2.1];exact t.2.2.2⟩;omega;intro j x hx;rw[hl];rcases mem j x hx with hx|⟨q,_⟩;have t:=g.t0 j x hx;refine⟨t.1, ?_⟩;by_cases q:j=i;subst q;rcases hI with c|c<;>omega;rcases hj j t.1 q with e|e;rw[e];exact t.2;omega;subst q;exact⟨hi,by rcases hI with c|c<;>omega⟩;intro k hk0;by_cases hr:k<a\/a+Z5 hd<=k;rw[out k hr]at hk0;obtain⟨j,x,hx,h1,h2⟩:=g.d k hk0;exact⟨j,x,mem2 j x hx,h1,by rw[(ky j x hx).2.2.2.2.1];exact h2⟩;refine⟨i,a,mem3,by omega, ?_⟩;rw[EG,if_neg ha4,ha3];omega;intro j x k hx hkd h0 h1 hpt;rcases mem j x hx with hx|⟨_,q⟩;have c:=ky j x hx;rw[c.2.2.1]at hkd;rw[c.2.1]at h1;rw[c.2.2.2.1]at hpt;have e:=c.2.2.2.2.2 (1+k) oq oq;rw[<-LH]at e;rw[e];rcases g.q j x k hx hkd h0 h1 hpt with q|⟨b,b1,b2⟩;exact La q;exact Lb ⟨b,mem2 b _ b1,by rw[(ky b _ b1).2.2.1];exact b2⟩;subst q;rw[ha3]at h1;exact La (z _ oq oq);rw[hc];have:=g.cr;omega
structure Dq (h h':Heap) (T:Nat->List Int) (hd:Zy) (i:Nat) (a:Int):Prop where
 g:Gd h' (λj=>if j=i then T i++[a]else T j)
 k:Cv h'.W a≠0
 e:Bb h'.W a=hd
 z:∀k,a<k->k<a+Z5 hd->(Z1 h'.W k).1=0
 o:∀k,k<a\/a+Z5 hd<=k->Z1 h'.W k=Z1 h.W k
 d:∀j x,x∈T j->x+Zl h.W x<a\/a+Z5 hd<=x
 c:h'.C=h.C
def ZcL{c n}(g:¬ 0<need c n)(a:0<=need c n):n<=Zb c:=by
 unfold need at g a;split at a;rename_i d;rw[if_pos d]at g;have hb:=BG.1 d.1;rw[Zb,if_pos d.1,Lw oq];split at a;rename_i f;exact f;rename_i f;rw[if_neg f]at g;have e:=LL (n+c.pw-1) c.pw;have:=Lv (n+c.pw-1) (b:=c.pw) oq;have h:(n+c.pw-1)/c.pw=0:=by omega
 rw[h]at e;omega;omega
def Gd.newOk{h T}(g:Gd h T){hd:Zy}(hw:Zx h.W)(hm:0<=hd.map/\hd.map<=4294967295)(e:(ZT h hd).2.2=0):∃i,Dq h (ZT h hd).1 T hd i (ZT h hd).2.1:=by
 obtain⟨k1,k2,k3,k4,k5,k6,k7,k8⟩:=Om hw hm e;obtain⟨a1,a2,a3,a4,a5⟩:=DI k2;have po:=B1 g.p;have hpt:=g.p;rw[GN]at hpt;obtain⟨p1,p2,p3,p4,p5,p6⟩:=hpt;have hin:4096<=(Ca h hd).2.1/\(Ca h hd).2.1+Z5 hd<=4096+h.W.length:=⟨k3.lo,k3.hi⟩;have e1:(ZT h hd).1.C=h.C:=by rw[k6];exact k3.c
 have e2:(ZT h hd).1.S=h.S:=by rw[k6];exact k3.sp
 have e3:(ZT h hd).1.P.length=h.P.length:=by rw[k6];exact k3.l
 have e4:(ZT h hd).1.W=(ZS h.W (Ca h hd).2.1 (BF hd)).1:=by rw[k6]
 have e5:(ZT h hd).1.P=(Ca h hd).1.P:=by rw[k6]
 rw[k5];have fin:∀i:Nat,i<h.P.length->(∀j,j<h.P.length->j≠i->(ZT h hd).1.P.getD j X=h.P.getD j X\/((h.P.getD j X).K=0/\((ZT h hd).1.P.getD j X).K=3/\((ZT h hd).1.P.getD j X).S=h.S)) ->
   ((h.P.getD i X).K=0\/(h.P.getD i X).K=1)/\((ZT h hd).1.P.getD i X).K=1/\(Ca h hd).2.1=Zz h i+BW (h.P.getD i X)/\((ZT h hd).1.P.getD i X).U=BW (h.P.getD i X)+Z5 hd/\Z5 hd<=Zb h.C\/(h.P.getD i X).K=0/\((ZT h hd).1.P.getD i X).K=2/\(Ca h hd).2.1=Zz h i/\((ZT h hd).1.P.getD i X).U=Z5 hd ->
   ((ZT h hd).1.P.getD i X).S=h.S->crowd (ZT h hd).1.P<=crowd h.P->(∀j x,x∈T j->x+Zl h.W x<(Ca h hd).2.1\/(Ca h hd).2.1+Z5 hd<=x)->∃i,Dq h (ZT h hd).1 T hd i (Ca h hd).2.1:=by
  intro i hi hj hI hsp hcr hdis;obtain⟨q1,q2,q3,q4,q5⟩:=g.add a1 hm a5 k7 e1 e2 e3 e4 hin hi hj hI hsp hcr hdis;exact⟨i,q1,q2,q3,q4,q5,hdis,e1⟩
 rw[e5]at fin;by_cases hn:0<need h.C (Z5 hd);have e7:Ca h hd=BE h (Z5 hd) (need h.C (Z5 hd)):=by rw[Ca,if_pos hn]
 rw[e7]at k4 fin⊢;by_cases hg:0<=first h.P (need h.C (Z5 hd))/\Cm h.P+need h.C (Z5 hd)<=CU h.C
 obtain⟨g1,g2,g3⟩:=HL hg.1;have el:(GG h.C h.P (first h.P (need h.C (Z5 hd))) h.S (Z5 hd)).1=ZL h.P (first h.P (need h.C (Z5 hd))).toNat (need h.C (Z5 hd)).toNat ⟨2,h.S,Z5 hd,0⟩ ⟨3,h.S,0,0⟩:=by(rw[GG,if_pos ⟨g1,by omega⟩,EE,if_pos oq,if_pos g3])
 have e8:BE h (Z5 hd) (need h.C (Z5 hd))=(⟨h.C,h.W,ZL h.P (first h.P (need h.C (Z5 hd))).toNat (need h.C (Z5 hd)).toNat ⟨2,h.S,Z5 hd,0⟩ ⟨3,h.S,0,0⟩,h.S,h.B⟩,4096+first h.P (need h.C (Z5 hd))*h.C.pw,Y):=by rw[BE,if_pos hg,el]
 have hf:∀j,j<(need h.C (Z5 hd)).toNat->(h.P.getD ((first h.P (need h.C (Z5 hd))).toNat+j) X).K=0:=SI.1 g3;have hu:=Tz g1;rw[e8]at fin⊢;simp only at fin⊢;generalize hk:need h.C (Z5 hd)=k at *;generalize hfi:first h.P k=f at *
 have hge:∀j,(ZL h.P f.toNat k.toNat ⟨2,h.S,Z5 hd,0⟩ ⟨3,h.S,0,0⟩).getD j X=if j=f.toNat then⟨2,h.S,Z5 hd,0⟩else if f.toNat<j/\j<f.toNat+k.toNat then⟨3,h.S,0,0⟩else h.P.getD j X:=Z0S oq oq;have h0:=hf 0 oq;rw[Nat.add_zero]at h0;refine fin f.toNat oq ?_ ?_ ?_ ?_ ?_;intro j hj1 hj2;rw[hge,if_neg hj2];split;rename_i q;have:=hf (j-f.toNat) oq;rw[show f.toNat+(j-f.toNat)=j by omega]at this;exact Lb ⟨this,rfl,rfl⟩;exact La rfl;rw[hge,if_pos rfl];refine Lb ⟨h0,rfl, ?_,rfl⟩;rw[Zz,Lz oq];rw[hge,if_pos rfl];refine Mz (Z0b oq) λj hj1 q1 q2=>?_;rw[hge]at q1 q2;split at q1;simp at q1;rename_i c1;rw[if_neg c1]at q2;split at q1;simp at q1;rename_i c2;rw[if_neg c2]at q2;exact⟨q1,q2⟩;intro j x hx;have o:=g.on hx;have hr:=Bo h.W x;unfold Zz at o;have hfe:((f.toNat:Nat):Int)=f:=by omega
 by_cases q:j<f.toNat
 have:=Ao g.p q oq o.2.1 oq;rw[hfe]at this;omega;have hjk:f.toNat+k.toNat<=j:=by(by_cases q2:f.toNat+k.toNat<=j;exact q2;have:=hf (j-f.toNat) oq;rw[show f.toNat+(j-f.toNat)=j by omega]at this;omega)
 have:=LM (show f+k<=(j:Int) by omega) (show 0<=h.C.pw by omega);rw[Int.add_mul]at this;omega;rw[BE,if_neg hg]at k4;simp at k4;have e7:Ca h hd=Be h (Z5 hd):=by rw[Ca,if_neg hn]
 have hsm:=ZcL hn a4;have hsw:Zb h.C<=h.C.pw:=by(rw[Zb,if_pos p1,Lw oq];omega)
 rw[e7]at k4 fin⊢;by_cases hf:IR h (Z5 hd);have e8:Be h (Z5 hd)=(⟨h.C,h.W,Cq h.P h.B.toNat (Z5 hd),h.S,h.B⟩,4096+h.B*h.C.pw+(h.P.getD h.B.toNat X).U,Y):=by rw[Be,if_pos hf]
 unfold IR at hf;have hbi:h.B.toNat<h.P.length:=by omega
 have hk:(h.P.getD h.B.toNat X).K=1:=by omega
 have hbe:((h.B.toNat:Nat):Int)=h.B:=by omega
 have hoc:BW (h.P.getD h.B.toNat X)=(h.P.getD h.B.toNat X).U:=by rw[BW,if_neg oq]
 rw[e8,Sa]at fin;rw[e8];simp only at fin⊢;refine fin h.B.toNat hbi ?_ ?_ ?_ ?_ ?_;intro j hj1 hj2;rw[Ck hbi,if_neg (λq=>hj2 q.symm)];exact La rfl;rw[Ck hbi,if_pos rfl,hoc];refine La ⟨Lb hk,hk, ?_,rfl,hsm⟩;rw[Zz,hbe];rw[Ck hbi,if_pos rfl];exact hf.2.1;refine Mz (by rw[Lk]) λj hj1 q1 q2=>?_;rw[Ck hbi]at q1 q2;split at q1;rename_i c;rw[if_pos c]at q2;subst c;exact⟨q1,q2⟩;rename_i c;rw[if_neg c]at q2;exact⟨q1,q2⟩;intro j x hx;have:=g.free hbi (Lb hk) hx;rw[hoc,Zz,hbe]at this;omega;by_cases hg:0<=first h.P 1/\(Cm h.P:Int)<CU h.C
 have e8:Be h (Z5 hd)=(⟨h.C,h.W,Cq (HE h) (first h.P 1).toNat (Z5 hd),h.S,first h.P 1⟩,4096+first h.P 1*h.C.pw+((HE h).getD (first h.P 1).toNat X).U,Y):=by rw[Be,if_neg hf,if_pos hg]
 obtain⟨g1,g2,g3⟩:=SZ p4 hg.1 (Z5 hd);have g4:=congrArg Z0.U (Nx p4 hg.1).2.2.2;simp only at g4;have hbe:(((first h.P 1).toNat:Nat):Int)=first h.P 1:=by omega
 have hoc:BW (h.P.getD (first h.P 1).toNat X)=0:=by rw[BW,if_pos g2]
 rw[e8,g1,g4]at fin;rw[e8,g4];simp only at fin⊢;refine fin (first h.P 1).toNat g3 ?_ ?_ ?_ ?_ ?_;intro j hj1 hj2;rw[Ck g3,if_neg (λq=>hj2 q.symm)];exact La rfl;rw[Ck g3,if_pos rfl,hoc];refine La ⟨La g2,rfl, ?_,by simp,hsm⟩;rw[Zz,hbe];rw[Ck g3,if_pos rfl];refine Mz (by rw[Lk]) λj hj1 q1 q2=>?_;rw[Ck g3]at q1 q2;split at q1;rename_i c;rw[if_pos c]at q2;simp at q2;rename_i c;rw[if_neg c]at q2;exact⟨q1,q2⟩;intro j x hx;have:=g.free g3 (La g2) hx;rw[hoc,Zz,hbe]at this;omega;rw[Be,if_neg hf,if_neg hg]at k4;simp at k4
def H2(h:Heap)(T:Nat->List Int)(l:List Int):Prop:=∀r∈l,r=0\/Ob h T r
def WG(w:Zi):Prop:=∃T,Gd w.heap T/\H2 w.heap T w.G/\H2 w.heap T w.E
def Dq.ob{h h' T c i a}(n:Dq h h' T c i a){x}(e:Ob h T x):Ob h' (λj=>if j=i then T i++[a]else T j) x:=by obtain⟨j,b,d⟩:=e;have r:=Bo h.W x;have o:=E9 (ws:=h.W) (ws':=h'.W) (a:=x) (by rw[n.o x (by have:=n.d j x b;omega)]);refine⟨j, ?_,by rw[o.2.2.1];exact d⟩;show x∈(if j=i then T i++[a]else T j);split;rename_i q;subst q;exact Lh _ b;exact b
def Dq.ob0{h h' T b i a}(n:Dq h h' T b i a):Ob h' (λj=>if j=i then T i++[a]else T j) a:=
 ⟨i,by simp,n.k⟩
def WG.put{w}(h:WG w)(j:Zx w.heap.W){b:Zy}(f:0<=b.map/\b.map<=4294967295):WG (w.put b):=by unfold Zi.put;split;rename_i e;obtain⟨T,g,c,d⟩:=h;obtain⟨i,n⟩:=g.newOk j f e;refine⟨_,n.g,λr a=>?_,λr a=>?_⟩;rcases Ld.1 a with a|a;rcases c r a with q|q;exact La q;exact Lb (n.ob q);have:=Lf.1 a;subst this;exact Lb n.ob0;rcases d r a with q|q;exact La q;exact Lb (n.ob q);exact h
def WG.pick{w:Zi}{T}(a:H2 w.heap T w.G)(b:H2 w.heap T w.E)(t:Tape):w.pick t=0\/Ob w.heap T (w.pick t):=by rcases Z5y w t with e|e|e;exact La e;exact a _ e;exact b _ e
def Gd.setf{h T}(g:Gd h T)(l:Zx h.W){a i v:Int}(hv:0<=v/\v<=18446744073709551615)(k:Ob h T a)(hi:0<=i/\i<(Zo h a).1.length)(d:Bf (Zo h a).1 i=Y->v=0\/Ob h T v):Gd (CY h a i v).1 T/\∀x,Ob h T x->Ob (CY h a i v).1 T x:=by obtain⟨j,b,c⟩:=k;have f:=g.fields b c;obtain⟨s1,s2,s3⟩:=Z2D l hv (a:=a) (i:=i) (by rw[f.1]) hi;rw[f.1]at hi d;have q:=g.store (v:=v) ⟨j,b,c⟩ hi d;rw[s1];refine⟨q.1, ?_⟩;rintro x ⟨m,e,n⟩;refine⟨m,e, ?_⟩;have:=(E9 (q.2 m x e)).2.2.1;simp only;rw[this];exact n
def WG.link{w n}(h:WG w)(d:BY w n)(f:n<=1000000) t:WG (w.link t):=by
 unfold Zi.link;split;rename_i e;obtain⟨T,g,a,b⟩:=h;have j:=d.wm f;have gg:=Nt e.1;have k:=Gx (w.pickT (w.pickT t)) (n:=8) dd;have hi:0<=Hm w t/\Hm w t<(Zo w.heap (w.pick t)).1.length:=by(unfold Hm;rw[LQ k.1];exact⟨LJ _ oq,Lv _ oq⟩)
 have hv:0<=Hp w t/\Hp w t<=18446744073709551615:=by(unfold Hp;split;exact A7 j _;have:=Gx ((w.pickT (w.pickT t)).step 8) (n:=1048576) dd;omega)
 have i:Ob w.heap T (w.pick t):=by(rcases WG.pick a b t with q|q;omega;exact q)
 have s:=g.setf d.W hv i hi (λq=>by
  unfold Hp;rw[if_pos q];exact WG.pick a b _)
 exact⟨T,s.1,λr c=>(a r c).imp id (s.2 r),λr c=>(b r c).imp id (s.2 r)⟩;exact h
def WG.pinned{w}(h:WG w){i d}(s:Z8 (pinB w i d).heap=Y)(hi:i<w.heap.P.length)(n:d=-1\/0<(w.heap.P.getD i X).N\/(w.heap.P.getD i X).K=2\/(crowd w.heap.P:Int)<w.heap.C.pg/4):WG (pinB w i d):=by
 obtain⟨T,g,l,m⟩:=h;have pp:=Eb g.p hi;have t:∀j,j<w.heap.P.length->((pinB w i d).heap.P.getD j X).K=(w.heap.P.getD j X).K/\((pinB w i d).heap.P.getD j X).S=(w.heap.P.getD j X).S/\((pinB w i d).heap.P.getD j X).U=(w.heap.P.getD j X).U:=by(intro j r;simp only[pinB];rw[Ck hi];split;rename_i q;subst q;exact⟨rfl,rfl,rfl⟩;exact⟨rfl,rfl,rfl⟩)
 have k:(crowd (pinB w i d).heap.P:Int)<=w.heap.C.pg/4:=by
  have c0:=g.cr;have a:(0<(w.heap.P.getD i X).N+d->(w.heap.P.getD i X).K=1->0<(w.heap.P.getD i X).N)->(crowd (pinB w i d).heap.P:Int)<=w.heap.C.pg/4:=by
   intro o;have:crowd (pinB w i d).heap.P<=crowd w.heap.P:=by(refine Mz (by simp[pinB]) λj r b f=>?_;simp only[pinB]at b f;rw[Ck hi]at b f;split at b;rename_i c;rw[if_pos c]at f;subst c;exact⟨b,o f b⟩;rename_i c;rw[if_neg c]at f;exact⟨b,f⟩)
   omega
  rcases n with q|q|q|q;exact a oq;exact a oq;exact a oq;have:=(Z4K (p:=⟨(w.heap.P.getD i X).K,(w.heap.P.getD i X).S,(w.heap.P.getD i X).U,(w.heap.P.getD i X).N+d⟩) hi w.heap.P.length).1;have e:crowd (pinB w i d).heap.P=Bn (w.heap.P.set i ⟨(w.heap.P.getD i X).K,(w.heap.P.getD i X).S,(w.heap.P.getD i X).U,(w.heap.P.getD i X).N+d⟩) w.heap.P.length:=by(simp only[crowd,pinB,Lk])
  have e2:crowd w.heap.P=Bn w.heap.P w.heap.P.length:=rfl;omega
 exact⟨T,g.P s rfl rfl rfl (by simp[pinB]) t k,l,m⟩
def WG.pok{w}(h:WG w):POk w:=by
 obtain⟨T,g,b,c⟩:=h;have k:∀l,H2 w.heap T l->∀r∈l,R2 w.heap r:=λl d r e=>by(rcases d r e with rfl|⟨j,a,_⟩;exact Z60 _;intro _;rw[g.ofx a];simpa using (g.on a).2.1)
 exact⟨g.p,k _ b,k _ c⟩
def WG.pin{w n}(h:WG w)(a:BY w n)(b:n<=1000000) t:WG (w.pin t):=by
 have p1:=(h.pok.pin a b t).p;unfold Zi.pin at p1⊢;split;rename_i e;rw[if_pos e]at p1;have o:=GH a.hv e;have d:=a.pl;have hi:HW w t<w.heap.P.length:=by unfold HW;omega
 split;rename_i c;rw[if_pos c]at p1;exact h.pinned p1 hi (La rfl);rename_i c;rw[if_neg c]at p1;split;rename_i c2;rw[if_pos c2]at p1;exact h.pinned p1 hi (Lb c2);exact h;exact h
def WG.drop{w}(h:WG w) t:WG (w.drop t):=by unfold Zi.drop;split;rename_i hl;obtain⟨T,g,b,c⟩:=h;have n1:=Gx t (n:=(w.G.length:Int)) oq;refine⟨T,g,λr a=>?_,λr a=>?_⟩;rcases Ld.1 a with a|a;exact b r (LF a);exact b r (LD a);simp only at a;split at a;rcases Ld.1 a with a|a;exact c r a;simp only[Lf]at a;subst a;refine b _ (Bm.2 ⟨_, ?_,rfl⟩);unfold Pw;omega;exact c r a;exact h
def WG.dup{w}(h:WG w) t:WG (w.dup t):=by obtain⟨T,g,b,c⟩:=h;refine⟨T,g,λr a=>?_,c⟩;rcases Ld.1 a with a|a;exact b r a;simp only[Lf]at a;subst a;exact WG.pick b c _
def Z3e(t:Tape):WG t.empty:=by
 have e:=(Zfp t).p;have hv:=Z0v t;have hb:=BG.1 hv;have d:∀j,(t.empty.heap.P.getD j X).K=0/\(t.empty.heap.P.getD j X).N=0:=by(intro j;simp only[Tape.empty,Ie,Lg,LA];split;exact⟨rfl,rfl⟩;exact⟨rfl,rfl⟩)
 refine⟨λ_=>[],⟨e, ?_, ?_, ?_,by simp, ?_,by simp, ?_⟩,by simp[H2,Tape.empty],by simp[H2,Tape.empty]⟩;intro i _ b;exact absurd (d i).1 b;intro i _ b;rw[(d i).1]at b;omega;intro i _ b;rw[(d i).1]at b;omega;intro a g;exfalso;apply g;show(Z1 (Lc (t.C.pw*t.C.pg).toNat 0) a).1=0;unfold Z1;by_cases c:4096<=a/\a<4096+((Lc (t.C.pw*t.C.pg).toNat (0:Int)).length:Int);rw[if_pos c];simp only[Lg,LA];split<;>rfl;rw[if_neg c];have:crowd t.empty.heap.P=0:=by
  have f:∀n,Bn t.empty.heap.P n=0:=by
   intro n;induction n with|zero=>rfl|succ n h =>unfold Bn;rw[h,if_neg (by rw[(d n).1];omega)]
  exact f _
 rw[this];show(0:Int)<=t.C.pg/4;omega
end Go.Proofs.YtgedmeaemofdkaaGreat
