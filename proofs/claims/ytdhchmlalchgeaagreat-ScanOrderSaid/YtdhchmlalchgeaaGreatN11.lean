/-
 The statement ScanOrder: part 11.
 Conditions: none.
-/
import Derived.Test.YtdhchmlalchgeaaGreatN10
set_option maxRecDepth 100000
set_option maxHeartbeats 2000000
set_option linter.all false
open Inhabited renaming default->X
open Bool renaming true->Y,false->M,and_eq_true->Lv
open List renaming map->Z,replicate->Lc,mem_append->Ld,getD_eq_getElem?_getD->Le,mem_singleton->Lf,mem_append_left->Lg,length_set->Lj,mem_range->Lk,find?_eq_none->Ll,length_replicate->Lm,getElem?_eq_none->Ln,length_map->Lp,range->Lq,take->Lr,find?_range_eq_some->Lx,mem_append_right->Ly,mem_cons->LA,mem_of_mem_drop->LB,mem_of_mem_take->LC,getElem?_replicate->LI,mem_cons_of_mem->LJ,mem_map->LK,eq_nil_iff_forall_not_mem->LV,getElem?_eq_getElem->LW,length->LX,length_append->LY,length_drop->LZ,length_take->L0,map_set->L1,mem_iff_getElem->L2,mem_or_eq_of_mem_set->L3,mem_replicate->L4
open Or renaming inl->O,inr->La
open Decidable renaming decide->Lb,not_not->Ls
open Option renaming some->Lh,none->Lu,getD_none->LM
open Nat renaming le_refl->Li,lt_trichotomy->LL,add_mul->L5,le_add_right->L6,le_trans->L7,mul_le_mul_right->L8,one_mul->L9
open Int renaming toNat->Lo,emod_lt_of_pos->Lw,tdiv_eq_ediv_of_nonneg->Lz,emod_nonneg->LD,tmod_eq_emod_of_nonneg->LF,toNat_natCast->LG,toNat_of_nonneg->LH,add_assoc->LN,mul_comm->LO,mul_ediv_add_emod->LQ,mul_le_mul_of_nonneg_right->LR,mul_nonneg->LS,natCast_mul->LU
open Go.IntKind renaming i64->Lt
open Go.Proofs.Tryz
namespace Go.Proofs.YtdhchmlalchgeaaGreat
open Go.Sx
def Z2m(s:Int)(p:Page):Prop:=p.K≠0/\p.S=s
instance (s:Int) (p:Page):Decidable (Z2m s p):=by unfold Z2m;infer_instance
def Z1f(s:Int)(p:Page):Page:=if Z2m s p then⟨0,0,0,0⟩else p
def Z2o(pw s:Int)(l:List Page)(ws:List Int):Nat->List Int
 | 0=>ws
 | i+1=>if Z2m s (l.getD i X)then spl (Z2o pw s l ws i) (i*pw.toNat) (Lc pw.toNat 0)else Z2o pw s l ws i
def Z55(n s:Int)(l:List Page):Nat->Int
 | 0=>n
 | i+1=>if Z2m s (l.getD i X)then Z55 n s l i+1 else Z55 n s l i
def ZgX(w:Work)(ps:List Page)(ws:List Int)(n:Int)(i:Nat):Tg:=⟨tm 78 [(1,.pt 8001 0 0),(2,.pt 8002 0 0),(3,int i)],[(8001,.box 89 [int w.heap.C.pw,int w.heap.C.pg,.ow 24017,.ow 16010,int w.heap.S,int w.heap.B,Z01 w.old,Z0r w.T,Z01 w.Q,int w.D,int w.rep.copied,int w.rep.kept,int w.rep.filled,int n,int w.rep.cleared,int w.rep.steps]),(24017,.arr 35 1 (ws.map wdv)),(16010,.arr 84 4 (ps.map Page.dv)),(8002,.box 89 zW)],60⟩
def ZlL(w:Work)(ps:List Page)(ws:List Int)(n:Int)(i:Nat)(hl:ps.length<=64)(hi:i<ps.length)(hb:¬ Z2m w.heap.S (ps.getD i X)):CP (rndF f120 0) (ZgX w ps ws n i).st .nrm (ZgX w ps ws n (i+1)).st:=by
 unfold Z2m at hb;have hb':¬ ((ps.getD (i:Int).toNat X).K≠0/\(ps.getD (i:Int).toNat X).S=w.heap.S):=hb;exact sF [] [] (FM 24 25 Page.dv ps i (Fmq 33 Page.dv ps (↑i) (Ftb 44 ((ps.getD (i:Int).toNat X).K==0||(ps.getD (i:Int).toNat X).S != w.heap.S) (Fx 27 i Fz))))
def ZiN(w:Work)(ps:List Page)(ws:List Int)(n:Int)(i k:Nat):Tg:=⟨tm 78 [(1,.pt 8001 0 0),(2,.pt 8002 0 0),(3,int i),(5,int k)],[(8001,.box 89 [int w.heap.C.pw,int w.heap.C.pg,.ow 24017,.ow 16010,int w.heap.S,int w.heap.B,Z01 w.old,Z0r w.T,Z01 w.Q,int w.D,int w.rep.copied,int w.rep.kept,int w.rep.filled,int n,int w.rep.cleared,int w.rep.steps]),(16010,.arr 84 4 (ps.map Page.dv)),(24017,.arr 35 1 ((wr ws (Lc w.heap.C.pw.toNat 0) (i*w.heap.C.pw.toNat) k).map wdv)),(8002,.box 89 zW)],64⟩
section
variable (w:Work) (ps:List Page) (ws:List Int) (n:Int) (i k:Nat) (hp:0<=w.heap.C.pw/\w.heap.C.pw<=64) (hi:i<=64) (hl:i*w.heap.C.pw.toNat+w.heap.C.pw.toNat<=ws.length) (hw:ws.length<=4096)
include hp hi hl hw
theorem ZiY(hk:k<w.heap.C.pw.toNat):CP (rndF f120 2) (ZiN w ps ws n i k).st .nrm (ZiN w ps ws n i (k+1)).st:=by
 have hs:=Z9C (ws:=ws) (l:=Lc w.heap.C.pw.toNat 0) (i:=i*w.heap.C.pw.toNat) (k:=k) (by simpa using hl) (by simpa using hk) (0:Int);rw[show(Lc w.heap.C.pw.toNat (0:Int)).getD k 0=0 by simp[List.getD,hk]]at hs;have hn:=Z4A (ws:=ws) (l:=Lc w.heap.C.pw.toNat (0:Int)) (i:=i*w.heap.C.pw.toNat) (k:=k) (by simpa using hl) qo;have em:(i:Int)*w.heap.C.pw=((i*w.heap.C.pw.toNat:Nat):Int):=by rw[LU,LH hp.1]
 have ei:(i:Int)*w.heap.C.pw+k=((i*w.heap.C.pw.toNat+k:Nat):Int):=by omega
 exact sF [] (fO 6) (Fh 10076 [.els (Z wdv ((wr ws (Lc w.heap.C.pw.toNat 0) (i*w.heap.C.pw.toNat) k).set (↑(i*w.heap.C.pw.toNat+k):Int).toNat 0))] (Ftb 62 (Lb ((k:Int)<w.heap.C.pw)) (Fi 73 ((i:Int)*w.heap.C.pw) (Fg 75 (by rw[wrapI' oq oq];omega:Lt.wrap ((i:Int)*w.heap.C.pw+(k:Int))=(↑(i*w.heap.C.pw.toNat+k):Int)) (Fa (by(simp only[Lp];omega):0<=(↑(i*w.heap.C.pw.toNat+k):Int)/\(↑(i*w.heap.C.pw.toNat+k):Int).toNat<(Z wdv (wr ws (Lc w.heap.C.pw.toNat 0) (i*w.heap.C.pw.toNat) k)).length) (Fa (by(simp only[Lp];omega):(↑(i*w.heap.C.pw.toNat+k):Int).toNat<(Z wdv (wr ws (Lc w.heap.C.pw.toNat 0) (i*w.heap.C.pw.toNat) k)).length) (Fa (ms:(Z wdv (wr ws (Lc w.heap.C.pw.toNat 0) (i*w.heap.C.pw.toNat) k)).set (↑(i*w.heap.C.pw.toNat+k):Int).toNat [du64 0]=Z wdv ((wr ws (Lc w.heap.C.pw.toNat 0) (i*w.heap.C.pw.toNat) k).set (↑(i*w.heap.C.pw.toNat+k):Int).toNat 0)) (Fx 64 k (Fr (35:Int) (Fa (by refine congrArg _ ?_;exact hs:Z wdv ((wr ws (Lc w.heap.C.pw.toNat 0) (i*w.heap.C.pw.toNat) k).set (↑(i*w.heap.C.pw.toNat+k):Int).toNat 0)=Z wdv (wr ws (Lc w.heap.C.pw.toNat 0) (i*w.heap.C.pw.toNat) (k+1))) Fz))))))))))
theorem ZnS:CP (rndF f120 2) (ZiN w ps ws n i w.heap.C.pw.toNat).st (.ext 2) (Tg.st ⟨tm 78 [(1,.pt 8001 0 0),(2,.pt 8002 0 0),(3,int i)],[(8001,.box 89 [int w.heap.C.pw,int w.heap.C.pg,.ow 24017,.ow 16010,int w.heap.S,int w.heap.B,Z01 w.old,Z0r w.T,Z01 w.Q,int w.D,int w.rep.copied,int w.rep.kept,int w.rep.filled,int n,int w.rep.cleared,int w.rep.steps]),(16010,.arr 84 4 (ps.map Page.dv)),(24017,.arr 35 1 ((spl ws (i*w.heap.C.pw.toNat) (Lc w.heap.C.pw.toNat 0)).map wdv)),(8002,.box 89 zW)],64⟩):=by
 have hs:=ZcM ws (Lc w.heap.C.pw.toNat (0:Int)) (i*w.heap.C.pw.toNat);rw[Lm]at hs;exact sF [] (fO 5) (Ffb 62 (Lb ((w.heap.C.pw.toNat:Int)<w.heap.C.pw)) (Fr (35:Int) (Fa (by refine congrArg _ ?_;assumption:Z wdv (wr ws (Lc w.heap.C.pw.toNat 0) (i*w.heap.C.pw.toNat) w.heap.C.pw.toNat)=Z wdv (spl ws (i*w.heap.C.pw.toNat) (Lc w.heap.C.pw.toNat 0))) Fz)))
theorem Zm8:CP (blkF f120 2) (Tg.st ⟨tm 78 [(1,.pt 8001 0 0),(2,.pt 8002 0 0),(3,int i),(5,int 0)],[(8001,.box 89 [int w.heap.C.pw,int w.heap.C.pg,.ow 24017,.ow 16010,int w.heap.S,int w.heap.B,Z01 w.old,Z0r w.T,Z01 w.Q,int w.D,int w.rep.copied,int w.rep.kept,int w.rep.filled,int n,int w.rep.cleared,int w.rep.steps]),(16010,.arr 84 4 (ps.map Page.dv)),(24017,.arr 35 1 (ws.map wdv)),(8002,.box 89 zW)],64⟩) .nrm (Tg.st ⟨tm 78 [(1,.pt 8001 0 0),(2,.pt 8002 0 0),(3,int i)],[(8001,.box 89 [int w.heap.C.pw,int w.heap.C.pg,.ow 24017,.ow 16010,int w.heap.S,int w.heap.B,Z01 w.old,Z0r w.T,Z01 w.Q,int w.D,int w.rep.copied,int w.rep.kept,int w.rep.filled,int n,int w.rep.cleared,int w.rep.steps]),(16010,.arr 84 4 (ps.map Page.dv)),(24017,.arr 35 1 ((spl ws (i*w.heap.C.pw.toNat) (Lc w.heap.C.pw.toNat 0)).map wdv)),(8002,.box 89 zW)],64⟩):=by
 have:=Z0a (S:=λk=>(ZiN w ps ws n i k).st) w.heap.C.pw.toNat kr (λk hk=>ZiY w ps ws n i k hp hi hl hw hk) (ZnS w ps ws n i hp hi hl hw)
 simp only[ZiN,Z7u]at this;exact this
end
def Zm9(w:Work)(ps:List Page)(ws:List Int)(n:Int)(i:Nat)(hl:ps.length<=64)(hi:i<ps.length)(hb:Z2m w.heap.S (ps.getD i X))(hp:0<=w.heap.C.pw/\w.heap.C.pw<=64)(hs:i*w.heap.C.pw.toNat+w.heap.C.pw.toNat<=ws.length)(hw:ws.length<=4096)(hn:0<=n/\n<=64):CP (rndF f120 0) (ZgX w ps ws n i).st .nrm (ZgX w (ps.set i ⟨0,0,0,0⟩) (spl ws (i*w.heap.C.pw.toNat) (Lc w.heap.C.pw.toNat 0)) (n+1) (i+1)).st:=by
 unfold Z2m at hb;have hb':(ps.getD (i:Int).toNat X).K≠0/\(ps.getD (i:Int).toNat X).S=w.heap.S:=hb;exact sF [] [] (Fh 10050 [.els (Z Page.dv (ps.set (i:Int).toNat (Page.mk 0 0 0 0)))] (FM 24 25 Page.dv ps i (Fmq 33 Page.dv ps (↑i) (Ffb 44 ((ps.getD (i:Int).toNat X).K==0||(ps.getD (i:Int).toNat X).S != w.heap.S) (Fa (by(simp only[Lp];omega):0<=(i:Int)/\(i:Int).toNat<(Z Page.dv ps).length) (Fa (by(simp only[Lp];omega):(i:Int).toNat<(Z Page.dv ps).length) (Fa (by rw[L1];rfl:(Z Page.dv ps).set (i:Int).toNat [dint 0,dint 0,dint 0,dint 0]=Z Page.dv (ps.set (i:Int).toNat (Page.mk 0 0 0 0))) (Fi 54 (n+1) (Fu (@Zm8 w (ps.set (i:Int).toNat (Page.mk 0 0 0 0)) ws (n+1) i aa oq aa aa) (Fx 27 i Fz))))))))))
def Z5J{pw s:Int}{l:List Page}{ws:List Int}(h:l.length*pw.toNat<=ws.length):∀ i,i<=l.length->(Z2o pw s l ws i).length=ws.length
 | 0,_=>rfl
 | i+1,hi=>by
  have ih:=Z5J (s:=s) h i oq;have hm:(i+1)*pw.toNat<=l.length*pw.toNat:=L8 _ hi;rw[L5,L9]at hm;unfold Z2o;split
  .rw[Z3Z qo,ih]
  .exact ih
def Z6k(n s:Int)(l:List Page):∀ i:Nat,n<=Z55 n s l i/\Z55 n s l i<=n+i
 | 0=>by simp[Z55]
 | i+1=>by
  have ih:=Z6k n s l i;unfold Z55;split<;>omega
def Z1o(w:Work):Work:=⟨⟨w.heap.C,Z2o w.heap.C.pw w.heap.S w.heap.P w.heap.W w.heap.P.length,w.heap.P.map (Z1f w.heap.S),w.heap.S,w.heap.B⟩,w.old,w.T,w.Q,w.D,⟨w.rep.copied,w.rep.kept,w.rep.filled,Z55 w.rep.freed w.heap.S w.heap.P w.heap.P.length,w.rep.cleared,w.rep.steps⟩⟩
def Zon(w:Work)(ps:List Page)(ws:List Int)(n:Int):CP (rndF f120 0) (ZgX w ps ws n ps.length).st (.ext 0) (Tg.st ⟨tm 78 [(1,.pt 8001 0 0),(2,.pt 8002 0 0)],[(8001,.box 89 [int w.heap.C.pw,int w.heap.C.pg,.ow 24017,.ow 16010,int w.heap.S,int w.heap.B,Z01 w.old,Z0r w.T,Z01 w.Q,int w.D,int w.rep.copied,int w.rep.kept,int w.rep.filled,int n,int w.rep.cleared,int w.rep.steps]),(24017,.arr 35 1 (ws.map wdv)),(16010,.arr 84 4 (ps.map Page.dv)),(8002,.box 89 zW)],60⟩):=by
 exact sF [] [] (FO 24 25 Page.dv ps Fz)
section
variable (w:Work) (hl:w.heap.P.length<=64) (hp:0<=w.heap.C.pw/\w.heap.C.pw<=64) (hs:w.heap.P.length*w.heap.C.pw.toNat<=w.heap.W.length) (hw:w.heap.W.length<=4096) (hr:w.rep.freed=0)
include hl hp hs hw hr
theorem Zlv:CP (blkF f120 0) (Tg.st ⟨tm 78 [(1,.pt 8001 0 0),(2,.pt 8002 0 0),(3,int 0)],[(8001,.box 89 [int w.heap.C.pw,int w.heap.C.pg,.ow 24017,.ow 16010,int w.heap.S,int w.heap.B,Z01 w.old,Z0r w.T,Z01 w.Q,int w.D,int w.rep.copied,int w.rep.kept,int w.rep.filled,int w.rep.freed,int w.rep.cleared,int w.rep.steps]),(24017,.arr 35 1 (w.heap.W.map wdv)),(16010,.arr 84 4 (w.heap.P.map Page.dv)),(8002,.box 89 zW)],60⟩) .nrm (Tg.st ⟨tm 78 [(1,.pt 8001 0 0),(2,.pt 8002 0 0)],[(8001,.box 89 [int w.heap.C.pw,int w.heap.C.pg,.ow 24017,.ow 16010,int w.heap.S,int w.heap.B,Z01 w.old,Z0r w.T,Z01 w.Q,int w.D,int w.rep.copied,int w.rep.kept,int w.rep.filled,int (Z55 w.rep.freed w.heap.S w.heap.P w.heap.P.length),int w.rep.cleared,int w.rep.steps]),(24017,.arr 35 1 ((Z2o w.heap.C.pw w.heap.S w.heap.P w.heap.W w.heap.P.length).map wdv)),(16010,.arr 84 4 ((w.heap.P.map (Z1f w.heap.S)).map Page.dv)),(8002,.box 89 zW)],60⟩):=by
 refine Z0a (S:=λk=>(ZgX w (preM (Z1f w.heap.S) w.heap.P k) (Z2o w.heap.C.pw w.heap.S w.heap.P w.heap.W k) (Z55 w.rep.freed w.heap.S w.heap.P k) k).st) w.heap.P.length kr (λk hk=>?_) ?_
 .have h1:=Z4b (Z1f w.heap.S) w.heap.P k;have h2:=Z8f (Z1f w.heap.S) w.heap.P (Li k) X;have h3:=Z5J (s:=w.heap.S) hs k oq;have h4:=Z6k w.rep.freed w.heap.S w.heap.P k;by_cases hb:Z2m w.heap.S (w.heap.P.getD k X)
  .have e1:=Z6T (Z1f w.heap.S) w.heap.P hk X;have e2:Z2o w.heap.C.pw w.heap.S w.heap.P w.heap.W (k+1)=spl (Z2o w.heap.C.pw w.heap.S w.heap.P w.heap.W k) (k*w.heap.C.pw.toNat) (Lc w.heap.C.pw.toNat 0):=by rw[Z2o,if_pos hb]
   have e3:Z55 w.rep.freed w.heap.S w.heap.P (k+1)=Z55 w.rep.freed w.heap.S w.heap.P k+1:=by rw[Z55,if_pos hb]
   rw[Z1f,if_pos hb]at e1;rw[<- e1,e2,e3];have hm:(k+1)*w.heap.C.pw.toNat<=w.heap.P.length*w.heap.C.pw.toNat:=L8 _ hk;rw[L5,L9]at hm;exact Zm9 w _ _ _ k oq oq (by rw[h2];exact hb) hp oq oq oq
  .have e1:=Z9R (Z1f w.heap.S) w.heap.P hk X (by rw[Z1f,if_neg hb]);have e2:Z2o w.heap.C.pw w.heap.S w.heap.P w.heap.W (k+1)=Z2o w.heap.C.pw w.heap.S w.heap.P w.heap.W k:=by rw[Z2o,if_neg hb]
   have e3:Z55 w.rep.freed w.heap.S w.heap.P (k+1)=Z55 w.rep.freed w.heap.S w.heap.P k:=by rw[Z55,if_neg hb]
   rw[<- e1,e2,e3];exact ZlL w _ _ _ k oq oq (by rw[h2];exact hb)
 .have h:=Zon w (preM (Z1f w.heap.S) w.heap.P w.heap.P.length) (Z2o w.heap.C.pw w.heap.S w.heap.P w.heap.W w.heap.P.length) (Z55 w.rep.freed w.heap.S w.heap.P w.heap.P.length);rw[Z4b,Z89]at h;simp only[Z89];exact h
theorem ZdY:GP 120 [w.av] M (Z1o w).av []:=by
 have h1:=Z5J (s:=w.heap.S) hs w.heap.P.length (Li _);have h2:=Z6k w.rep.freed w.heap.S w.heap.P w.heap.P.length;exact gF [] func120 [] (FAx 6 10 Page.dv w.heap.P (by(simp[Z1o, *];omega)) (FAx 13 17 wdv w.heap.W (by(simp[Z1o, *];omega)) (Fu (@Zlv w aa aa aa aa aa) Fz)))
end
def rep0:Rep:=⟨0,0,0,0,0,0⟩
def Z5w{h:Heap}{l:List Int}(e:Z0k h l=Y):Z0C h=⟨0,0,0⟩:=by
 simp only[Z0k,Lv,decide_eq_true_eq]at e;exact e.1
section
variable (h:Heap) (s k:List Int) (hw:WOk h.W) (hs:s.length<=1048575) (hk:k.length<=1048575) (hs2:ULe s) (hk2:ULe k)
include hw hs hk hs2 hk2
theorem Zmh(hp:Z02 h=M):GP 69 [h.av,Z01 s,Z01 k] M (.tu [noHeap.av,Z01 [],Z01 [],.ag rep0.cells,int 1]) []:=by
 exact gF [] func69 [] (Fc 20 (@Z0m h) (Ftb 21 (!Z02 h) (Fnl (Fnl (Fnl (Fnl Fz))))))
theorem Zm0(hp:Z02 h=Y)(hr:Z0k h s=M\/Z0k h k=M):GP 69 [h.av,Z01 s,Z01 k] M (.tu [noHeap.av,Z01 [],Z01 [],.ag rep0.cells,int 19]) []:=by
 by_cases h1:Z0k h s=M
 .exact gF [] func69 [] (Fc 20 (@Z0m h) (Ffb 21 (!Z02 h) (Fc 26 (@Z21 h s aa oq) (FcG 31 (!!Z0k h s) (λhg=>by(try simp only[bs]at hg);exact @Zds h k aa (by(try simp only[bs]at hg);grind[noHeap,rep0])) (Fts 33 (!Z0k h s||Y) (Fnl (Fnl (Fnl (Fnl Fz)))))))))
 .have h2:Z0k h k=M:=by
   rcases hr with hr | hr
   .exact absurd hr h1
   .exact hr
  exact gF [] func69 [] (Fc 20 (@Z0m h) (Ffb 21 (!Z02 h) (Fc 26 (@Z21 h s aa oq) (FcG 31 (!!Z0k h s) (λhg=>by(try simp only[bs]at hg);exact @Z21 h k aa oq) (Ftb 33 (!Z0k h s||!Z0k h k) (Fnl (Fnl (Fnl (Fnl Fz)))))))))
theorem Zlo(hp:Z02 h=Y)(hr:Z0k h s=Y)(hr':Z0k h k=Y)(e:¬ (rootsF (beginW h) s).2.2=0):GP 69 [h.av,Z01 s,Z01 k] M (.tu [noHeap.av,Z01 [],Z01 [],.ag rep0.cells,int (rootsF (beginW h) s).2.2]) []:=by
 have hb:=Z38 hw hp;have hg:=Z5w hr;exact gF [] func69 [] (Fc 20 (@Z0m h) (Ffb 21 (!Z02 h) (Fc 26 (@Z21 h s aa oq) (FcG 31 (!!Z0k h s) (λhg=>by(try simp only[bs]at hg);exact @Z21 h k aa oq) (Ffs 33 (!Z0k h s||!Z0k h k) (Fc 38 (@Z4M h aa aa aa) (Fc 44 (@Z5R (beginW h) s aa aa aa) (Ftb 49 ((rootsF (beginW h) s).2.2 != 0) (Fnl (Fnl (Fnl (Fnl Fz))))))))))))
theorem Zn6(hp:Z02 h=Y)(hr:Z0k h s=Y)(hr':Z0k h k=Y)(e:(rootsF (beginW h) s).2.2=0)(e2:¬ (allF (rootsF (beginW h) s).1).2=0):GP 69 [h.av,Z01 s,Z01 k] M (.tu [noHeap.av,Z01 [],Z01 [],.ag rep0.cells,int (allF (rootsF (beginW h) s).1).2]) []:=by
 have hb:=Z38 hw hp;have hi:=Z34 hp;have hg:=Z5w hr;have ho:=Z3J (roots:=s) hb hi e;have ho1:=ho.1;let y0:=rootsF (beginW h) s;exact gF [] func69 [] (Fc 20 (@Z0m h) (Ffb 21 (!Z02 h) (Fc 26 (@Z21 h s aa oq) (FcG 31 (!!Z0k h s) (λhg=>by(try simp only[bs]at hg);exact @Z21 h k aa oq) (Ffs 33 (!Z0k h s||!Z0k h k) (Fc 38 (@Z4M h aa aa aa) (Fc 44 (@Z5R (beginW h) s aa aa aa) (Ffb 49 (y0.2.2 != 0) (Fc 55 (@Zbe (y0.1) aa) (Ftb 59 ((allF y0.1).2 != 0) (Fnl (Fnl (Fnl (Fnl Fz))))))))))))))
end
def Z72(w:Work)(x:Int):Int:=if x=0 then 0 else Z1D w x
def Za5(w:Work)(x:Int):Work:=⟨w.heap,w.old,w.T,w.Q,w.D,⟨w.rep.copied,w.rep.kept,w.rep.filled,w.rep.freed,if x≠0/\Z1D w x=0 then w.rep.cleared+1 else w.rep.cleared,w.rep.steps⟩⟩
def weakS(w:Work)(k:List Int):Nat->Work
 | 0=>w
 | i+1=>Za5 (weakS w k i) (k.getD i X)
def Z3Q(w:Work)(k:List Int):Nat->List Int
 | 0=>[]
 | i+1=>Z3Q w k i++[Z72 (weakS w k i) (k.getD i X)]
def Z4U(w:Work)(k:List Int):∀ i,(weakS w k i).heap=w.heap/\(weakS w k i).old=w.old/\(weakS w k i).T=w.T/\(weakS w k i).Q=w.Q/\(weakS w k i).rep.filled=w.rep.filled/\(weakS w k i).rep.freed=w.rep.freed/\w.rep.cleared<=(weakS w k i).rep.cleared/\(weakS w k i).rep.cleared<=w.rep.cleared+i
 | 0=>⟨rfl,rfl,rfl,rfl,rfl,rfl,by simp[weakS],by simp[weakS]⟩
 | i+1=>by
  obtain⟨h1,h2,h3,h4,h5,h6,h7,h8⟩:=Z4U w k i;refine⟨h1,h2,h3,h4,h5,h6, ?_, ?_⟩
  .simp only[weakS,Za5];split<;>omega
  .simp only[weakS,Za5];split<;>omega
def Z9k(w:Work)(k:List Int):∀ i,(Z3Q w k i).length=i
 | 0=>rfl
 | i+1=>by simp[Z3Q,Z9k w k i]
def Zls(w:Work)(k roots out:List Int)(i:Nat):Tg:=⟨tm 122 [(2,Z01 k),(6,.pt 8006 0 0),(7,.d (.sl 0 [])),(8,.d (.sl 0 [])),(9,.pt 8009 0 0),(10,int 0),(11,.pt 32011 0 0),(13,Z01 roots),(15,.ow 72015),(16,int i)],[(72015,.arr 35 1 (out.map wdv)),(32011,.box 89 w.cells),(8009,.box 71 [int 0,int 0,int 0,int 0,int 0,int 0]),(8006,.box 28 [int 0,int 0,.d (.sl 0 []),.d (.sl 0 []),int 0,int 0])],60⟩
section
variable (w:Work) (k roots out:List Int) (i:Nat) (hw:WOk w.heap.W) (hl:w.heap.W.length<=4096) (hq:w.Q.length<=1048576) (hk:k.length<=1048575) (hx:0<=k.getD i X/\k.getD i X<=18446744073709551615) (ho:out.length<=1048576) (hi:i<k.length) (hc:0<=w.rep.cleared/\w.rep.cleared<=2097152)
include hw hl hq hk hx ho hi hc
theorem Zi7:CP (rndF f69 0) (Zls w k roots out i).st .nrm (Zls (Za5 w (k.getD i X)) k roots (out++[Z72 w (k.getD i X)]) (i+1)).st:=by
 by_cases h0:k.getD i X=0
 .have e1:Z72 w (k.getD i X)=0:=by rw[Z72,if_pos h0]
  have e2:Za5 w (k.getD i X)=w:=by rw[Za5,if_neg (by rintro⟨q,_⟩;exact q h0)]
  rw[e1,e2];exact sF [(504091,72015)] [] (Fh 91 [.els (Z wdv (out++[0]))] (FN 65 66 71 wdv k i (Ffb 73 (k.getD i X != 0) (Fs 90 (Z wdv [0]) (Fa (by(simp[*];omega):(Z wdv out).length+(Z wdv [0]).length<=2^30) (Fa (ms:Z wdv out++Z wdv [0]=Z wdv (out++[0])) (Fx 68 i Fz)))))))
 .have e1:Z72 w (k.getD i X)=Z1D w (k.getD i X):=by rw[Z72,if_neg h0]
  rw[e1];by_cases h2:Z1D w (k.getD i X)=0
  .have e2:Za5 w (k.getD i X)=⟨w.heap,w.old,w.T,w.Q,w.D,⟨w.rep.copied,w.rep.kept,w.rep.filled,w.rep.freed,w.rep.cleared+1,w.rep.steps⟩⟩:=by rw[Za5,if_pos ⟨h0,h2⟩]
   rw[e2];let y0:=k.getD i X;exact sF [(528091,72015)] [] (Fh 91 [.els (Z wdv (out++[Z1D w y0]))] (FN 65 66 71 wdv k i (Ftb 73 (k.getD i X != 0) (Fek 77 wdv k (↑i) i (Fc 79 (@ZaK w y0 aa aa aa aa) (Ftb 81 (Z1D w y0==0) (Fi 85 (w.rep.cleared+1) (Fs 90 (Z wdv [Z1D w y0]) (Fa (by(simp[*];omega):(Z wdv out).length+(Z wdv [Z1D w y0]).length<=2^30) (Fa (ms:Z wdv out++Z wdv [Z1D w y0]=Z wdv (out++[Z1D w y0])) (Fx 68 i Fz)))))))))))
  .have e2:Za5 w (k.getD i X)=w:=by rw[Za5,if_neg (by rintro⟨_,q⟩;exact h2 q)]
   rw[e2];let y1:=k.getD i X;exact sF [(520091,72015)] [] (Fh 91 [.els (Z wdv (out++[Z1D w y1]))] (FN 65 66 71 wdv k i (Ftb 73 (k.getD i X != 0) (Fek 77 wdv k (↑i) i (Fc 79 (@ZaK w y1 aa aa aa aa) (Ffb 81 (Z1D w y1==0) (Fs 90 (Z wdv [Z1D w y1]) (Fa (by(simp[*];omega):(Z wdv out).length+(Z wdv [Z1D w y1]).length<=2^30) (Fa (ms:Z wdv out++Z wdv [Z1D w y1]=Z wdv (out++[Z1D w y1])) (Fx 68 i Fz))))))))))
end
def ZnT(w:Work)(k roots out:List Int):CP (rndF f69 0) (Zls w k roots out k.length).st (.ext 0) (Tg.st ⟨tm 122 [(6,.pt 8006 0 0),(7,.d (.sl 0 [])),(8,.d (.sl 0 [])),(9,.pt 8009 0 0),(10,int 0),(11,.pt 32011 0 0),(13,Z01 roots),(15,.ow 72015)],[(72015,.arr 35 1 (out.map wdv)),(32011,.box 89 w.cells),(8009,.box 71 [int 0,int 0,int 0,int 0,int 0,int 0]),(8006,.box 28 [int 0,int 0,.d (.sl 0 []),.d (.sl 0 []),int 0,int 0])],60⟩):=by
 exact sF [] [] (FO 65 66 wdv k Fz)
def Zgw(w:Work)(k roots:List Int)(hw:WOk w.heap.W)(hl:w.heap.W.length<=4096)(hq:w.Q.length<=1048576)(hk:k.length<=1048575)(hx:ULe k)(hc:w.rep.cleared=0):CP (blkF f69 0) (Zls (weakS w k 0) k roots (Z3Q w k 0) 0).st .nrm (Tg.st ⟨tm 122 [(6,.pt 8006 0 0),(7,.d (.sl 0 [])),(8,.d (.sl 0 [])),(9,.pt 8009 0 0),(10,int 0),(11,.pt 32011 0 0),(13,Z01 roots),(15,.ow 72015)],[(72015,.arr 35 1 ((Z3Q w k k.length).map wdv)),(32011,.box 89 (weakS w k k.length).cells),(8009,.box 71 [int 0,int 0,int 0,int 0,int 0,int 0]),(8006,.box 28 [int 0,int 0,.d (.sl 0 []),.d (.sl 0 []),int 0,int 0])],60⟩):=by
 refine Z0a (S:=λi=>(Zls (weakS w k i) k roots (Z3Q w k i) i).st) k.length kr (λi hi=>?_) (ZnT _ k roots _);have h:=Z4U w k i;exact Zi7 _ k roots _ i (by rw[h.1];exact hw) (by rw[h.1];exact hl) (by rw[h.2.2.2.1];exact hq) hk (Z5G hx i) (by rw[Z9k];omega) hi oq
abbrev cB(h:Heap)(s k:List Int):Work:=weakS (allF (rootsF (beginW h) s).1).1 k k.length
abbrev cA(h:Heap)(s k:List Int):Work:=fillN (cB h s k) (cB h s k).old.length
def ZeF{n:Int}(h:0<=n/\n<=255):(decodeH (1+16*n)).1.length=n:=by
 have e:Z3h (1+16*n)=⟨0,n,0⟩:=by
  simp only[Z3h,Header.mk.injEq];omega
 have he:=Z61 h;unfold decodeH;rw[e,he];simp
def Zjt{w:Work}(h:CIv w){x:Int}(hx:x∈w.old):CIv (Z64 w x):=by
 unfold Z64;split
 .rename_i hc;have hr:=h.r x (Lg _ hx);have hh:=Z0b w.heap.W x;have hl:(objW ⟨0,(hdW w x).length,0⟩).length=(hlA w.heap.W x+1).toNat:=by
   show(objW ⟨0,hlA w.heap.W x,0⟩).length=_;simp[objW];omega
  have hin:4096<=x/\x-4096+(objW ⟨0,(hdW w x).length,0⟩).length<=w.heap.W.length:=by omega
  have hlen:(Z0F w.heap.W x (objW ⟨0,(hdW w x).length,0⟩)).1.length=w.heap.W.length:=by
   unfold Z0F;rw[if_pos hin];exact Z3Z oq
  have:=h.withWords hlen (λa ha=>?_)
  .exact⟨this.L,this.r,this.s,this.f,this.z⟩
  .by_cases he:a=x
   .subst he;have:hlA (Z0F w.heap.W a (objW ⟨0,(hdW w a).length,0⟩)).1 a=hlA w.heap.W a:=by
     have e1:=Z1R (b:=a) hin oq;unfold hlA at *;rw[e1];have e2:(objW ⟨0,(hdW w a).length,0⟩).getD (a-a).toNat 0=1+16*(decodeH (loadA w.heap.W a).1).1.length:=by
      rw[Int.sub_self];show(Z0d ⟨0,(hdW w a).length,0⟩).1=_;rw[Z61 (show 0<=(hdW w a).length/\(hdW w a).length<=255 from hh)];rfl
     rw[e2];exact ZeF hh
    omega
   .have s1:=h.s a ha x (Lg _ hx);have s2:=h.s x (Lg _ hx) a ha;have ha0:=Z0b w.heap.W a;have:hlA (Z0F w.heap.W x (objW ⟨0,(hdW w x).length,0⟩)).1 a=hlA w.heap.W a:=by
     have e1:=Z2i (b:=a) hin (by
      rcases Int.lt_or_lt_of_ne he with q | q
      .exact O q
      .have:=s2 q;exact La oq)
     unfold hlA;rw[e1]
    omega
 .exact h
def Zdt{w:Work}(hw:FOk w)(h:CIv w):∀ k,k<=w.old.length->CIv (fillN w k)
 | 0,_=>h
 | k+1,hk=>Zjt (Zdt hw h k oq) (by rw[(Z5V w hw k).2.2.2.2.2.1];exact getD_mem_iff.2 ⟨k,by omega,rfl⟩)
def ZcA{w:Work}(h:CIv w)(k:List Int):∀ i,CIv (weakS w k i)
 | 0=>h
 | i+1=>by
  have ih:=ZcA h k i;exact⟨ih.L,ih.r,ih.s,ih.f,ih.z⟩
def Zdf{w:Work}(h:FOk w)(k:List Int):∀ i,FOk (weakS w k i)
 | 0=>h
 | i+1=>by
  have ih:=Zdf h k i;exact⟨ih.W,ih.wl,ih.pl,ih.ol,ih.o,ih.tl,ih.ql⟩
def cW2(h:Heap)(s:List Int):Work:=(allF (rootsF (beginW h) s).1).1
def cW3(h:Heap)(s k:List Int):Work:=weakS (cW2 h s) k k.length
def cW4(h:Heap)(s k:List Int):Work:=fillN (cW3 h s k) (cW3 h s k).old.length
def cW5(h:Heap)(s k:List Int):Work:=Z1o (cW4 h s k)
def endH(w:Work):Heap:=⟨w.heap.C,w.heap.W,w.heap.P,1-w.heap.S,if 0<w.T.length then Z0o w else -1⟩
structure COk (h:Heap) (s k:List Int):Prop where
 w2:WkOk (cW2 h s)
 i2:CIv (cW2 h s)
 x2:CEx (beginW h) (cW2 h s)
 f3:FOk (cW3 h s k)
 i3:CIv (cW3 h s k)
 r3:(cW3 h s k).rep.filled=0/\(cW3 h s k).rep.freed=0
 f4:FOk (cW4 h s k)
 i4:CIv (cW4 h s k)
 h4:(cW4 h s k).heap.C=h.C/\(cW4 h s k).heap.P=(cW2 h s).heap.P/\(cW4 h s k).heap.S=(cW2 h s).heap.S/\(cW4 h s k).T=(cW2 h s).T/\(cW4 h s k).rep.freed=0
section
variable (h:Heap) (s k:List Int) (hw:WOk h.W) (hp:Z02 h=Y) (e:(rootsF (beginW h) s).2.2=0) (e2:(allF (rootsF (beginW h) s).1).2=0)
include hw hp e e2
theorem cOk:COk h s k:=by
 have hb:=Z38 hw hp;have hi:=Z34 hp;have ho:=Z3J (roots:=s) hb hi e;have w2:WkOk (cW2 h s):=Znz _ ho.1 e2;have i2:=Zbq ho.1 ho.2.1 e2;have x2:CEx (beginW h) (cW2 h s):=ho.2.2.1.trans i2.2;have f3:FOk (cW3 h s k):=Zdf w2.fok k _;have i3:CIv (cW3 h s k):=ZcA i2.1 k _;obtain⟨a1,a2,a3,a4,a5,a6,a7,a8⟩:=Z4U (cW2 h s) k k.length;have hr0:=w2.r0;have r3:(cW3 h s k).rep.filled=0/\(cW3 h s k).rep.freed=0:=⟨a5.trans hr0.1,a6.trans hr0.2.1⟩
 obtain⟨b0,b1,b2,b3,b4,b5,b6,b7,b8,b9,b10,b11⟩:=Z5V (cW3 h s k) f3 (cW3 h s k).old.length;refine⟨w2,i2.1,x2,f3,i3,r3,b0,Zdt f3 i3 _ (Li _), ?_, ?_, ?_, ?_, ?_⟩
 .show(fillN (cW3 h s k) (cW3 h s k).old.length).heap.C=_;rw[b1];show(weakS (cW2 h s) k k.length).heap.C=_;rw[a1];exact x2.c
 .show(fillN (cW3 h s k) (cW3 h s k).old.length).heap.P=_;rw[b2];show(weakS (cW2 h s) k k.length).heap.P=_;rw[a1]
 .show(fillN (cW3 h s k) (cW3 h s k).old.length).heap.S=_;rw[b3];show(weakS (cW2 h s) k k.length).heap.S=_;rw[a1]
 .show(fillN (cW3 h s k) (cW3 h s k).old.length).T=_;rw[b6];exact a3
 .show(fillN (cW3 h s k) (cW3 h s k).old.length).rep.freed=_;rw[b8];exact r3.2
theorem cOk5:(cW4 h s k).heap.P.length<=64/\0<=(cW4 h s k).heap.C.pw/\(cW4 h s k).heap.C.pw<=64/\(cW4 h s k).heap.P.length*(cW4 h s k).heap.C.pw.toNat<=(cW4 h s k).heap.W.length/\(cW4 h s k).heap.W.length<=4096:=by
 have c:=cOk h s k hw hp e e2;have po:=Z06 hp;have hL:=c.i4.L;have hpl:=c.w2.pl;have hc2:=c.x2.c;have hc:(cW2 h s).heap.C=h.C:=hc2;rw[hc]at hpl;rw[c.h4.1]at hL;have hl4:=c.f4.wl;rw[c.h4.1,c.h4.2.1];refine⟨by omega,by omega,by omega, ?_,hl4⟩;have:(((cW2 h s).heap.P.length*h.C.pw.toNat:Nat):Int)=h.C.pw*h.C.pg:=by
  rw[LU,LH oq,hpl,LO]
 omega
end
def collectF(h:Heap)(s k:List Int):Heap×List Int×List Int×Rep×Int :=
 if Z02 h=Y then
  (if Z0k h s=Y/\Z0k h k=Y then
   (if(rootsF (beginW h) s).2.2=0 then
    (if(allF (rootsF (beginW h) s).1).2=0 then(endH (cW5 h s k),(rootsF (beginW h) s).2.1,Z3Q (cW2 h s) k k.length,(cW5 h s k).rep,0)
    else(noHeap,[],[],rep0,(allF (rootsF (beginW h) s).1).2))
   else(noHeap,[],[],rep0,(rootsF (beginW h) s).2.2))
  else(noHeap,[],[],rep0,19))
 else(noHeap,[],[],rep0,1)
section
variable (h:Heap) (s k:List Int) (hw:WOk h.W) (hs:s.length<=1048575) (hk:k.length<=1048575) (hs2:ULe s) (hk2:ULe k)
include hw hs hk hs2 hk2
theorem ZmG(hp:Z02 h=Y)(hr:Z0k h s=Y)(hr':Z0k h k=Y)(e:(rootsF (beginW h) s).2.2=0)(e2:(allF (rootsF (beginW h) s).1).2=0):GP 69 [h.av,Z01 s,Z01 k] M (.tu [(endH (cW5 h s k)).av,Z01 (rootsF (beginW h) s).2.1,Z01 (Z3Q (cW2 h s) k k.length),.ag (cW5 h s k).rep.cells,int 0]) []:=by
 have hb:=Z38 hw hp;have hi:=Z34 hp;have hg:=Z5w hr;have ho:=Z3J (roots:=s) hb hi e;have ho1:=ho.1;have ho4:=ho.2.2.2.2;have c:=cOk h s k hw hp e e2;obtain⟨q1,q2,q3,q4,q5⟩:=cOk5 h s k hw hp e e2;have w2:=c.w2;have f3:=c.f3;have r3:=c.r3.1;obtain⟨g1,g2,g3,g4,g5⟩:=c.h4;have v1:=w2.W;have v2:=w2.wl;have v3:=w2.mu;have v4:=w2.tl;have v5:=w2.sp;have v6:=w2.r0.2.2;have v7:=congrArg LX g4;have z1:(Z1o (cW4 h s k)).T=(cW4 h s k).T:=rfl;have v8:=congrArg LX z1;have z2:(Z1o (cW4 h s k)).heap.S=(cW4 h s k).heap.S:=rfl;clear c;unfold cW4 at *;unfold cW3 at *;unfold cW2 at *;rcases bb (Lb (0<(↑(Z1o (fillN (weakS (allF (rootsF (beginW h) s).1).1 k k.length) (weakS (allF (rootsF (beginW h) s).1).1 k k.length).old.length)).T.length:Int)))with hc0 | hc0<;>have hc0p:=hc0<;>simp only[bs]at hc0p
 .rw[show endH (cW5 h s k)=Heap.mk (Z1o (fillN (weakS (allF (rootsF (beginW h) s).1).1 k k.length) (weakS (allF (rootsF (beginW h) s).1).1 k k.length).old.length)).heap.C (Z1o (fillN (weakS (allF (rootsF (beginW h) s).1).1 k k.length) (weakS (allF (rootsF (beginW h) s).1).1 k k.length).old.length)).heap.W (Z1o (fillN (weakS (allF (rootsF (beginW h) s).1).1 k k.length) (weakS (allF (rootsF (beginW h) s).1).1 k k.length).old.length)).heap.P ((1:Int)-(Z1o (fillN (weakS (allF (rootsF (beginW h) s).1).1 k k.length) (weakS (allF (rootsF (beginW h) s).1).1 k k.length).old.length)).heap.S) ((Z1o (fillN (weakS (allF (rootsF (beginW h) s).1).1 k k.length) (weakS (allF (rootsF (beginW h) s).1).1 k k.length).old.length)).T.getD ((↑(Z1o (fillN (weakS (allF (rootsF (beginW h) s).1).1 k k.length) (weakS (allF (rootsF (beginW h) s).1).1 k k.length).old.length)).T.length:Int)-(1:Int)).toNat X)from by(simp only[endH,cW5,cW4,cW3,cW2,Z0o] ;exact sj)];refine gspec_ofE [((20:Nat),[Hint.call Y (Sx.bool (Z02 h)) []]),((21:Nat),[Hint.br M]),((26:Nat),[Hint.call Y (Sx.bool (Z0k h s)) []]),((31:Nat),[Hint.call Y (Sx.bool (Z0k h k)) []]),((33:Nat),[Hint.br M]),((38:Nat),[Hint.call M (AV.tu [(beginW h).av,int (0:Int)]) []]),((44:Nat),[Hint.call M (AV.tu [(rootsF (beginW h) s).1.av,Z01 (rootsF (beginW h) s).2.1,int (rootsF (beginW h) s).2.2]) []]),((49:Nat),[Hint.br M]),((55:Nat),[Hint.call M (AV.tu [(allF (rootsF (beginW h) s).1).1.av,int (allF (rootsF (beginW h) s).1).2]) []]),((59:Nat),[Hint.br M]),((15:Nat),[Hint.own]),((93:Nat),[Hint.call M (fillN (weakS (allF (rootsF (beginW h) s).1).1 k k.length) (weakS (allF (rootsF (beginW h) s).1).1 k k.length).old.length).av []]),((94:Nat),[Hint.call M (Z1o (fillN (weakS (allF (rootsF (beginW h) s).1).1 k k.length) (weakS (allF (rootsF (beginW h) s).1).1 k k.length).old.length)).av []]),((98:Nat),[Hint.int ((1:Int)-(Z1o (fillN (weakS (allF (rootsF (beginW h) s).1).1 k k.length) (weakS (allF (rootsF (beginW h) s).1).1 k k.length).old.length)).heap.S)]),((105:Nat),[Hint.int (↑(Z1o (fillN (weakS (allF (rootsF (beginW h) s).1).1 k k.length) (weakS (allF (rootsF (beginW h) s).1).1 k k.length).old.length)).T.length:Int)]),((107:Nat),[Hint.br Y]),((111:Nat),[Hint.int ((↑(Z1o (fillN (weakS (allF (rootsF (beginW h) s).1).1 k k.length) (weakS (allF (rootsF (beginW h) s).1).1 k k.length).old.length)).T.length:Int)-(1:Int))]),((112:Nat),[Hint.el (idv ((Z1o (fillN (weakS (allF (rootsF (beginW h) s).1).1 k k.length) (weakS (allF (rootsF (beginW h) s).1).1 k k.length).old.length)).T.getD ((↑(Z1o (fillN (weakS (allF (rootsF (beginW h) s).1).1 k k.length) (weakS (allF (rootsF (beginW h) s).1).1 k k.length).old.length)).T.length:Int)-(1:Int)).toNat X))])] [((0:Nat),Tg.mk (tm (122:Nat) [((2:Nat),Z01 k),((6:Nat),AV.pt (8006:Nat) (0:Nat) (0:Nat)),((7:Nat),AV.d (DV.sl (0:Nat) [])),((8:Nat),AV.d (DV.sl (0:Nat) [])),((9:Nat),AV.pt (8009:Nat) (0:Nat) (0:Nat)),((10:Nat),int (0:Int)),((11:Nat),AV.pt (32011:Nat) (0:Nat) (0:Nat)),((13:Nat),Z01 (rootsF (beginW h) s).2.1),((15:Nat),AV.ow (72015:Nat)),((16:Nat),int (0:Int))]) [((72015:Nat),Blk.arr 35 (1:Nat) []),((32011:Nat),Blk.box 89 (allF (rootsF (beginW h) s).1).1.cells),((8009:Nat),Blk.box 71 [int (0:Int),int (0:Int),int (0:Int),int (0:Int),int (0:Int),int (0:Int)]),((8006:Nat),Blk.box 28 [int (0:Int),int (0:Int),AV.d (DV.sl (0:Nat) []),AV.d (DV.sl (0:Nat) []),int (0:Int),int (0:Int)])] (60:Nat),Ex.nrm,Tg.mk (tm (122:Nat) [((6:Nat),AV.pt (8006:Nat) (0:Nat) (0:Nat)),((7:Nat),AV.d (DV.sl (0:Nat) [])),((8:Nat),AV.d (DV.sl (0:Nat) [])),((9:Nat),AV.pt (8009:Nat) (0:Nat) (0:Nat)),((10:Nat),int (0:Int)),((11:Nat),AV.pt (32011:Nat) (0:Nat) (0:Nat)),((13:Nat),Z01 (rootsF (beginW h) s).2.1),((15:Nat),AV.ow (72015:Nat))]) [((72015:Nat),Blk.arr 35 (1:Nat) (Z wdv (Z3Q (allF (rootsF (beginW h) s).1).1 k k.length))),((32011:Nat),Blk.box 89 (weakS (allF (rootsF (beginW h) s).1).1 k k.length).cells),((8009:Nat),Blk.box 71 [int (0:Int),int (0:Int),int (0:Int),int (0:Int),int (0:Int),int (0:Int)]),((8006:Nat),Blk.box 28 [int (0:Int),int (0:Int),AV.d (DV.sl (0:Nat) []),AV.d (DV.sl (0:Nat) []),int (0:Int),int (0:Int)])] (60:Nat))] [] dd func69 [] (φ:=GP 70 [h.av] Y (Sx.bool (Z02 h)) []/\(!Z02 h)=M/\M=M/\GP 118 [h.av,Z01 s] Y (Sx.bool (Z0k h s)) []/\((!!Z0k h s)=Y->GP 118 [h.av,Z01 k] Y (Sx.bool (Z0k h k)) [])/\(!Z0k h s||!Z0k h k)=M/\M=M/\GP 41 [h.av] M (AV.tu [(beginW h).av,int (0:Int)]) []/\GP 47 [(beginW h).av,Z01 s] M (AV.tu [(rootsF (beginW h) s).1.av,Z01 (rootsF (beginW h) s).2.1,int (rootsF (beginW h) s).2.2]) []/\((rootsF (beginW h) s).2.2 != (0:Int))=M/\M=M/\GP 53 [(rootsF (beginW h) s).1.av] M (AV.tu [(allF (rootsF (beginW h) s).1).1.av,int (allF (rootsF (beginW h) s).1).2]) []/\((allF (rootsF (beginW h) s).1).2 != (0:Int))=M/\M=M/\CP (blkF f69 (0:Nat)) (Tg.mk (tm (122:Nat) [((2:Nat),Z01 k),((6:Nat),AV.pt (8006:Nat) (0:Nat) (0:Nat)),((7:Nat),AV.d (DV.sl (0:Nat) [])),((8:Nat),AV.d (DV.sl (0:Nat) [])),((9:Nat),AV.pt (8009:Nat) (0:Nat) (0:Nat)),((10:Nat),int (0:Int)),((11:Nat),AV.pt (32011:Nat) (0:Nat) (0:Nat)),((13:Nat),Z01 (rootsF (beginW h) s).2.1),((15:Nat),AV.ow (72015:Nat)),((16:Nat),int (0:Int))]) [((72015:Nat),Blk.arr 35 (1:Nat) []),((32011:Nat),Blk.box 89 (allF (rootsF (beginW h) s).1).1.cells),((8009:Nat),Blk.box 71 [int (0:Int),int (0:Int),int (0:Int),int (0:Int),int (0:Int),int (0:Int)]),((8006:Nat),Blk.box 28 [int (0:Int),int (0:Int),AV.d (DV.sl (0:Nat) []),AV.d (DV.sl (0:Nat) []),int (0:Int),int (0:Int)])] (60:Nat)).st Ex.nrm (Tg.mk (tm (122:Nat) [((6:Nat),AV.pt (8006:Nat) (0:Nat) (0:Nat)),((7:Nat),AV.d (DV.sl (0:Nat) [])),((8:Nat),AV.d (DV.sl (0:Nat) [])),((9:Nat),AV.pt (8009:Nat) (0:Nat) (0:Nat)),((10:Nat),int (0:Int)),((11:Nat),AV.pt (32011:Nat) (0:Nat) (0:Nat)),((13:Nat),Z01 (rootsF (beginW h) s).2.1),((15:Nat),AV.ow (72015:Nat))]) [((72015:Nat),Blk.arr 35 (1:Nat) (Z wdv (Z3Q (allF (rootsF (beginW h) s).1).1 k k.length))),((32011:Nat),Blk.box 89 (weakS (allF (rootsF (beginW h) s).1).1 k k.length).cells),((8009:Nat),Blk.box 71 [int (0:Int),int (0:Int),int (0:Int),int (0:Int),int (0:Int),int (0:Int)]),((8006:Nat),Blk.box 28 [int (0:Int),int (0:Int),AV.d (DV.sl (0:Nat) []),AV.d (DV.sl (0:Nat) []),int (0:Int),int (0:Int)])] (60:Nat)).st/\GP 121 [(weakS (allF (rootsF (beginW h) s).1).1 k k.length).av] M (fillN (weakS (allF (rootsF (beginW h) s).1).1 k k.length) (weakS (allF (rootsF (beginW h) s).1).1 k k.length).old.length).av []/\GP 120 [(fillN (weakS (allF (rootsF (beginW h) s).1).1 k k.length) (weakS (allF (rootsF (beginW h) s).1).1 k k.length).old.length).av] M (Z1o (fillN (weakS (allF (rootsF (beginW h) s).1).1 k k.length) (weakS (allF (rootsF (beginW h) s).1).1 k k.length).old.length)).av []/\Lt.wrap ((1:Int)-(Z1o (fillN (weakS (allF (rootsF (beginW h) s).1).1 k k.length) (weakS (allF (rootsF (beginW h) s).1).1 k k.length).old.length)).heap.S)=(1:Int)-(Z1o (fillN (weakS (allF (rootsF (beginW h) s).1).1 k k.length) (weakS (allF (rootsF (beginW h) s).1).1 k k.length).old.length)).heap.S/\(↑(Z idv (Z1o (fillN (weakS (allF (rootsF (beginW h) s).1).1 k k.length) (weakS (allF (rootsF (beginW h) s).1).1 k k.length).old.length)).T).length:Int)=(↑(Z1o (fillN (weakS (allF (rootsF (beginW h) s).1).1 k k.length) (weakS (allF (rootsF (beginW h) s).1).1 k k.length).old.length)).T.length:Int)/\Lb ((0:Int)<(↑(Z1o (fillN (weakS (allF (rootsF (beginW h) s).1).1 k k.length) (weakS (allF (rootsF (beginW h) s).1).1 k k.length).old.length)).T.length:Int))=Y/\Y=Y/\Lt.wrap ((↑(Z1o (fillN (weakS (allF (rootsF (beginW h) s).1).1 k k.length) (weakS (allF (rootsF (beginW h) s).1).1 k k.length).old.length)).T.length:Int)-(1:Int))=(↑(Z1o (fillN (weakS (allF (rootsF (beginW h) s).1).1 k k.length) (weakS (allF (rootsF (beginW h) s).1).1 k k.length).old.length)).T.length:Int)-(1:Int)/\(0:Int)<=(↑(Z1o (fillN (weakS (allF (rootsF (beginW h) s).1).1 k k.length) (weakS (allF (rootsF (beginW h) s).1).1 k k.length).old.length)).T.length:Int)-(1:Int)/\(Z idv (Z1o (fillN (weakS (allF (rootsF (beginW h) s).1).1 k k.length) (weakS (allF (rootsF (beginW h) s).1).1 k k.length).old.length)).T)[((↑(Z1o (fillN (weakS (allF (rootsF (beginW h) s).1).1 k k.length) (weakS (allF (rootsF (beginW h) s).1).1 k k.length).old.length)).T.length:Int)-(1:Int)).toNat]? = Lh (idv ((Z1o (fillN (weakS (allF (rootsF (beginW h) s).1).1 k k.length) (weakS (allF (rootsF (beginW h) s).1).1 k k.length).old.length)).T.getD ((↑(Z1o (fillN (weakS (allF (rootsF (beginW h) s).1).1 k k.length) (weakS (allF (rootsF (beginW h) s).1).1 k k.length).old.length)).T.length:Int)-(1:Int)).toNat X))) ?_ kr kr;exact⟨(@Z0m (h)),(by(simp only[bs];omega)),rfl,(@Z21 (h) (s) aa oq),(λhg=>by(try simp only[bs]at hg);exact @Z21 (h) (k) (by(try simp only[bs]at hg);assumption) (by(try simp only[bs]at hg);omega)),(by simp only[bs, *,true_or,or_true,true_and,and_true,not_true_eq_false,not_false_eq_true,Bool.true_eq_false,Bool.false_eq_true]),rfl,(@Z4M (h) aa aa aa),(@Z5R (beginW h) (s) aa aa aa),(by(simp only[bs];omega)),rfl,(@Zbe ((rootsF (beginW h) s).1) aa),(by(simp only[bs];omega)),rfl,(@Zgw ((allF (rootsF (beginW h) s).1).1) (k) ((rootsF (beginW h) s).2.1) aa aa oq aa aa aa),(@Zd6 (weakS (allF (rootsF (beginW h) s).1).1 k k.length) aa aa),(@ZdY (fillN (weakS (allF (rootsF (beginW h) s).1).1 k k.length) (weakS (allF (rootsF (beginW h) s).1).1 k k.length).old.length) aa oq aa aa aa),(by exact wrapI2 rfl oq oq),(by simp only[Lp]),aa,rfl,(by exact wrapI2 rfl oq oq),(by exact elI oq oq oq)⟩
 .rw[show endH (cW5 h s k)=Heap.mk (Z1o (fillN (weakS (allF (rootsF (beginW h) s).1).1 k k.length) (weakS (allF (rootsF (beginW h) s).1).1 k k.length).old.length)).heap.C (Z1o (fillN (weakS (allF (rootsF (beginW h) s).1).1 k k.length) (weakS (allF (rootsF (beginW h) s).1).1 k k.length).old.length)).heap.W (Z1o (fillN (weakS (allF (rootsF (beginW h) s).1).1 k k.length) (weakS (allF (rootsF (beginW h) s).1).1 k k.length).old.length)).heap.P ((1:Int)-(Z1o (fillN (weakS (allF (rootsF (beginW h) s).1).1 k k.length) (weakS (allF (rootsF (beginW h) s).1).1 k k.length).old.length)).heap.S) (-1:Int)from by(simp[endH,cW5,cW4,cW3,cW2,Z0o, *];omega)];let y1:=rootsF (beginW h) s;let y0:=weakS (allF y1.1).1 k k.length;let y2:=fillN y0 y0.old.length;exact gF [] func69 [] (Fh 15 [.own] (Fc 20 (@Z0m h) (Ffb 21 (!Z02 h) (Fc 26 (@Z21 h s aa oq) (FcG 31 (!!Z0k h s) (λhg=>by(try simp only[bs]at hg);exact @Z21 h k aa oq) (Ffs 33 (!Z0k h s||!Z0k h k) (Fc 38 (@Z4M h aa aa aa) (Fc 44 (@Z5R (beginW h) s aa aa aa) (Ffb 49 (y1.2.2 != 0) (Fc 55 (@Zbe (y1.1) aa) (Ffb 59 ((allF y1.1).2 != 0) (Fu (@Zgw ((allF y1.1).1) k (y1.2.1) aa aa oq aa aa aa) (Fc 93 (@Zd6 y0 aa aa) (Fc 94 (@ZdY y2 aa oq aa aa aa) (Fi 98 (1-(Z1o y2).heap.S) (Fl 105 idv (Z1o y2).T (Ff 107 hc0 Fz)))))))))))))))))
end
def pinB(w:WorldM)(i:Nat)(n:Int):WorldM:=⟨⟨w.heap.C,w.heap.W,w.heap.P.set i ⟨(w.heap.P.getD i X).K,(w.heap.P.getD i X).S,(w.heap.P.getD i X).U,(w.heap.P.getD i X).N+n⟩,w.heap.S,w.heap.B⟩,w.G,w.E⟩
def pinI(w:WorldM)(t:Tape):Nat:=(ofA w.heap.C (w.pick t)).1.toNat
def WorldM.pin(w:WorldM)(t:Tape):WorldM :=
  if(ofA w.heap.C (w.pick t)).2.2=0 then
    (if 0<(w.heap.P.getD (pinI w t) X).N/\(w.pickT t).next 2=0 then pinB w (pinI w t) (-1)
     else if 0<(w.heap.P.getD (pinI w t) X).N\/(w.heap.P.getD (pinI w t) X).K=2\/(crowd w.heap.P:Int)<w.heap.C.pg/4 then pinB w (pinI w t) 1 else w)else w
def WorldM.pinT(w:WorldM)(t:Tape):Tape:=if(ofA w.heap.C (w.pick t)).2.2=0/\0<(w.heap.P.getD (pinI w t) X).N then(w.pickT t).step 2 else w.pickT t
def Zn5(w:WorldM)(t:Tape)(hw:WMok w)(ht:TOk t)(ha:t.at'<=1000000)(hv:Z07 w.heap.C=Y)(hp:(w.heap.P.length:Int)=w.heap.C.pg)(hpn:∀ j,j<w.heap.P.length->-1048576<=(w.heap.P.getD j X).N/\(w.heap.P.getD j X).N<=4294967296):LP 107 [w.av,.pt 0 0 0] [t.b] (w.pin t).av [(w.pinT t).b]:=by
 have hb:=validB_iff.1 hv;have s1:=Zbu w t;have k1:=Z5b ht s1.2.2 oq oq;have p1:=Z31 hw t;have q1:=hpn (pinI w t);have hcr:=Z37 w.heap.P w.heap.P.length;unfold pinI at q1;have o1:=λe=>Z2L (a:=w.pick t) hv e;by_cases e:(ofA w.heap.C (w.pick t)).2.2=0
 .have o2:=o1 e;by_cases c1:0<(w.heap.P.getD (ofA w.heap.C (w.pick t)).1.toNat X).N
  .have eT:w.pinT t=(w.pickT t).step 2:=by rw[WorldM.pinT,if_pos ⟨e,c1⟩]
   by_cases c2:(w.pickT t).next 2=0
   .have eP:w.pin t=⟨⟨w.heap.C,w.heap.W,w.heap.P.set (ofA w.heap.C (w.pick t)).1.toNat ⟨(w.heap.P.getD (ofA w.heap.C (w.pick t)).1.toNat X).K,(w.heap.P.getD (ofA w.heap.C (w.pick t)).1.toNat X).S,(w.heap.P.getD (ofA w.heap.C (w.pick t)).1.toNat X).U,(w.heap.P.getD (ofA w.heap.C (w.pick t)).1.toNat X).N-1⟩,w.heap.S,w.heap.B⟩,w.G,w.E⟩:=by rw[WorldM.pin,if_pos e,if_pos ⟨c1,c2⟩];rfl
    rw[eP,eT];exact lF func107 [] (Fh 42 [.br Y] (Fh 37 [.br Y] (Fh 51 [.el (w.heap.P.getD (ofA w.heap.C (w.pick t)).1.toNat X).dv] (Fp 12 (@Z2f w t aa aa oq) (Fc 18 (@Z56 w.heap.C (w.pick t) oq oq) (Ffb 23 ((ofA w.heap.C (w.pick t)).2.2 != 0) (FA 25 29 Page.dv w.heap.P (Fmq 41 Page.dv w.heap.P ((ofA w.heap.C (w.pick t)).1) (Fb (Lb (0<(w.heap.P.getD (ofA w.heap.C (w.pick t)).1.toNat X).N)=Y) (Fp 45 (@Z0O (w.pickT t) (2) aa oq oq) (Fb (((w.pickT t).next (2:Int)==0)=Y) (Fa (by exact Z0I oq:(Z Page.dv w.heap.P)[(ofA w.heap.C (w.pick t)).1.toNat]? = Lh (w.heap.P.getD (ofA w.heap.C (w.pick t)).1.toNat X).dv) (Fi 52 ((w.heap.P.getD (ofA w.heap.C (w.pick t)).1.toNat X).N-1) (Fa (by exact Z0I oq:(Z Page.dv w.heap.P)[(ofA w.heap.C (w.pick t)).1.toNat]? = Lh (w.heap.P.getD (ofA w.heap.C (w.pick t)).1.toNat X).dv) (FS 10054 Page.dv w.heap.P ((ofA w.heap.C (w.pick t)).1.toNat) (Page.mk (w.heap.P.getD (ofA w.heap.C (w.pick t)).1.toNat X).K (w.heap.P.getD (ofA w.heap.C (w.pick t)).1.toNat X).S (w.heap.P.getD (ofA w.heap.C (w.pick t)).1.toNat X).U ((w.heap.P.getD (ofA w.heap.C (w.pick t)).1.toNat X).N-1)) ((w.heap.P.getD (ofA w.heap.C (w.pick t)).1.toNat X).dv) Fz)))))))))))))))
   .have eP:w.pin t=⟨⟨w.heap.C,w.heap.W,w.heap.P.set (ofA w.heap.C (w.pick t)).1.toNat ⟨(w.heap.P.getD (ofA w.heap.C (w.pick t)).1.toNat X).K,(w.heap.P.getD (ofA w.heap.C (w.pick t)).1.toNat X).S,(w.heap.P.getD (ofA w.heap.C (w.pick t)).1.toNat X).U,(w.heap.P.getD (ofA w.heap.C (w.pick t)).1.toNat X).N+1⟩,w.heap.S,w.heap.B⟩,w.G,w.E⟩:=by rw[WorldM.pin,if_pos e,if_neg (λq=>c2 q.2),if_pos (.inl c1)];rfl
    rw[eP,eT];exact lF func107 [] (Fh 42 [.br Y] (Fh 37 [.br M] (Fh 59 [.el (w.heap.P.getD (ofA w.heap.C (w.pick t)).1.toNat X).dv] (Fh 65 [.el (w.heap.P.getD (ofA w.heap.C (w.pick t)).1.toNat X).dv] (Fh 76 [.int (w.heap.C.pg/4)] (Fh 55 [.br Y] (Fh 82 [.el (w.heap.P.getD (ofA w.heap.C (w.pick t)).1.toNat X).dv] (Fp 12 (@Z2f w t aa aa oq) (Fc 18 (@Z56 w.heap.C (w.pick t) oq oq) (Ffb 23 ((ofA w.heap.C (w.pick t)).2.2 != 0) (FA 25 29 Page.dv w.heap.P (Fmq 41 Page.dv w.heap.P ((ofA w.heap.C (w.pick t)).1) (Fb (Lb (0<(w.heap.P.getD (ofA w.heap.C (w.pick t)).1.toNat X).N)=Y) (Fp 45 (@Z0O (w.pickT t) (2) aa oq oq) (Fb (((w.pickT t).next (2:Int)==0)=M) (Fa (by exact Z0I oq:(Z Page.dv w.heap.P)[(ofA w.heap.C (w.pick t)).1.toNat]? = Lh (w.heap.P.getD (ofA w.heap.C (w.pick t)).1.toNat X).dv) (Fa (by intro hg;(try simp only[bs]at hg);exact Z0I oq:(!decide (0<(w.heap.P.getD (ofA w.heap.C (w.pick t)).1.toNat X).N))=Y->(Z Page.dv w.heap.P)[(ofA w.heap.C (w.pick t)).1.toNat]? = Lh (w.heap.P.getD (ofA w.heap.C (w.pick t)).1.toNat X).dv) (FcG 71 (!(Lb (0<(w.heap.P.getD (ofA w.heap.C (w.pick t)).1.toNat X).N)||(w.heap.P.getD (ofA w.heap.C (w.pick t)).1.toNat X).K==2)) (λhg=>by(try simp only[bs]at hg);exact @Z9F w.heap oq) (Fa (by intro hg;(try simp only[bs]at hg);rw[wrapI' oq oq];omega:(!(Lb (0<(w.heap.P.getD (ofA w.heap.C (w.pick t)).1.toNat X).N)||(w.heap.P.getD (ofA w.heap.C (w.pick t)).1.toNat X).K==2))=Y->Lt.wrap (w.heap.C.pg.tdiv 4)=w.heap.C.pg/4) (Fa (by intro hg;(try simp only[bs]at hg);omega:(!(Lb (0<(w.heap.P.getD (ofA w.heap.C (w.pick t)).1.toNat X).N)||(w.heap.P.getD (ofA w.heap.C (w.pick t)).1.toNat X).K==2))=Y->(4:Int)=0->False) (Fb ((Lb (0<(w.heap.P.getD (ofA w.heap.C (w.pick t)).1.toNat X).N)||(w.heap.P.getD (ofA w.heap.C (w.pick t)).1.toNat X).K==2||Lb ((↑(crowd w.heap.P):Int)<w.heap.C.pg/4))=Y) (Fa (by exact Z0I oq:(Z Page.dv w.heap.P)[(ofA w.heap.C (w.pick t)).1.toNat]? = Lh (w.heap.P.getD (ofA w.heap.C (w.pick t)).1.toNat X).dv) (Fi 83 ((w.heap.P.getD (ofA w.heap.C (w.pick t)).1.toNat X).N+1) (Fa (by exact Z0I oq:(Z Page.dv w.heap.P)[(ofA w.heap.C (w.pick t)).1.toNat]? = Lh (w.heap.P.getD (ofA w.heap.C (w.pick t)).1.toNat X).dv) (FS 10085 Page.dv w.heap.P ((ofA w.heap.C (w.pick t)).1.toNat) (Page.mk (w.heap.P.getD (ofA w.heap.C (w.pick t)).1.toNat X).K (w.heap.P.getD (ofA w.heap.C (w.pick t)).1.toNat X).S (w.heap.P.getD (ofA w.heap.C (w.pick t)).1.toNat X).U ((w.heap.P.getD (ofA w.heap.C (w.pick t)).1.toNat X).N+1)) ((w.heap.P.getD (ofA w.heap.C (w.pick t)).1.toNat X).dv) Fz)))))))))))))))))))))))))
  .have eT:w.pinT t=w.pickT t:=by rw[WorldM.pinT,if_neg (λq=>c1 q.2)]
   by_cases c3:(w.heap.P.getD (ofA w.heap.C (w.pick t)).1.toNat X).K=2\/(crowd w.heap.P:Int)<w.heap.C.pg/4
   .have eP:w.pin t=⟨⟨w.heap.C,w.heap.W,w.heap.P.set (ofA w.heap.C (w.pick t)).1.toNat ⟨(w.heap.P.getD (ofA w.heap.C (w.pick t)).1.toNat X).K,(w.heap.P.getD (ofA w.heap.C (w.pick t)).1.toNat X).S,(w.heap.P.getD (ofA w.heap.C (w.pick t)).1.toNat X).U,(w.heap.P.getD (ofA w.heap.C (w.pick t)).1.toNat X).N+1⟩,w.heap.S,w.heap.B⟩,w.G,w.E⟩:=by rw[WorldM.pin,if_pos e,if_neg (λq=>c1 q.1),if_pos (.inr c3)];rfl
    rw[eP,eT];exact lF func107 [] (Fh 42 [.br M] (Fh 45 [.bor [0] (int ((w.pickT t).next 2)) [((w.pickT t).step 2).b]] (Fh 59 [.el (w.heap.P.getD (ofA w.heap.C (w.pick t)).1.toNat X).dv] (Fh 65 [.el (w.heap.P.getD (ofA w.heap.C (w.pick t)).1.toNat X).dv] (Fh 76 [.int (w.heap.C.pg/4)] (Fh 55 [.br Y] (Fh 82 [.el (w.heap.P.getD (ofA w.heap.C (w.pick t)).1.toNat X).dv] (Fp 12 (@Z2f w t aa aa oq) (Fc 18 (@Z56 w.heap.C (w.pick t) oq oq) (Ffb 23 ((ofA w.heap.C (w.pick t)).2.2 != 0) (FA 25 29 Page.dv w.heap.P (Fmq 41 Page.dv w.heap.P ((ofA w.heap.C (w.pick t)).1) (Fb (Lb (0<(w.heap.P.getD (ofA w.heap.C (w.pick t)).1.toNat X).N)=M) (Fa (by exact Z0I oq:(Z Page.dv w.heap.P)[(ofA w.heap.C (w.pick t)).1.toNat]? = Lh (w.heap.P.getD (ofA w.heap.C (w.pick t)).1.toNat X).dv) (Fa (by intro hg;(try simp only[bs]at hg);exact Z0I oq:(!decide (0<(w.heap.P.getD (ofA w.heap.C (w.pick t)).1.toNat X).N))=Y->(Z Page.dv w.heap.P)[(ofA w.heap.C (w.pick t)).1.toNat]? = Lh (w.heap.P.getD (ofA w.heap.C (w.pick t)).1.toNat X).dv) (FcG 71 (!(Lb (0<(w.heap.P.getD (ofA w.heap.C (w.pick t)).1.toNat X).N)||(w.heap.P.getD (ofA w.heap.C (w.pick t)).1.toNat X).K==2)) (λhg=>by(try simp only[bs]at hg);exact @Z9F w.heap oq) (Fa (by intro hg;(try simp only[bs]at hg);rw[Lz oq,wrapI' oq oq]:(!(Lb (0<(w.heap.P.getD (ofA w.heap.C (w.pick t)).1.toNat X).N)||(w.heap.P.getD (ofA w.heap.C (w.pick t)).1.toNat X).K==2))=Y->Lt.wrap (w.heap.C.pg.tdiv 4)=w.heap.C.pg/4) (Fa (by intro hg;(try simp only[bs]at hg);omega:(!(Lb (0<(w.heap.P.getD (ofA w.heap.C (w.pick t)).1.toNat X).N)||(w.heap.P.getD (ofA w.heap.C (w.pick t)).1.toNat X).K==2))=Y->(4:Int)=0->False) (Fb ((Lb (0<(w.heap.P.getD (ofA w.heap.C (w.pick t)).1.toNat X).N)||(w.heap.P.getD (ofA w.heap.C (w.pick t)).1.toNat X).K==2||Lb ((↑(crowd w.heap.P):Int)<w.heap.C.pg/4))=Y) (Fa (by exact Z0I oq:(Z Page.dv w.heap.P)[(ofA w.heap.C (w.pick t)).1.toNat]? = Lh (w.heap.P.getD (ofA w.heap.C (w.pick t)).1.toNat X).dv) (Fi 83 ((w.heap.P.getD (ofA w.heap.C (w.pick t)).1.toNat X).N+1) (Fa (by exact Z0I oq:(Z Page.dv w.heap.P)[(ofA w.heap.C (w.pick t)).1.toNat]? = Lh (w.heap.P.getD (ofA w.heap.C (w.pick t)).1.toNat X).dv) (FS 10085 Page.dv w.heap.P ((ofA w.heap.C (w.pick t)).1.toNat) (Page.mk (w.heap.P.getD (ofA w.heap.C (w.pick t)).1.toNat X).K (w.heap.P.getD (ofA w.heap.C (w.pick t)).1.toNat X).S (w.heap.P.getD (ofA w.heap.C (w.pick t)).1.toNat X).U ((w.heap.P.getD (ofA w.heap.C (w.pick t)).1.toNat X).N+1)) ((w.heap.P.getD (ofA w.heap.C (w.pick t)).1.toNat X).dv) Fz)))))))))))))))))))))))
   .have eP:w.pin t=w:=by rw[WorldM.pin,if_pos e,if_neg (λq=>c1 q.1),if_neg (λq=>q.elim c1 c3)]
    rw[eP,eT];exact lF func107 [] (Fh 42 [.br M] (Fh 45 [.bor [0] (int ((w.pickT t).next 2)) [((w.pickT t).step 2).b]] (Fh 59 [.el (w.heap.P.getD (ofA w.heap.C (w.pick t)).1.toNat X).dv] (Fh 65 [.el (w.heap.P.getD (ofA w.heap.C (w.pick t)).1.toNat X).dv] (Fh 76 [.int (w.heap.C.pg/4)] (Fh 55 [.br M] (Fp 12 (@Z2f w t aa aa oq) (Fc 18 (@Z56 w.heap.C (w.pick t) oq oq) (Ffb 23 ((ofA w.heap.C (w.pick t)).2.2 != 0) (FA 25 29 Page.dv w.heap.P (Fmq 41 Page.dv w.heap.P ((ofA w.heap.C (w.pick t)).1) (Fb (Lb (0<(w.heap.P.getD (ofA w.heap.C (w.pick t)).1.toNat X).N)=M) (Fa (by exact Z0I oq:(Z Page.dv w.heap.P)[(ofA w.heap.C (w.pick t)).1.toNat]? = Lh (w.heap.P.getD (ofA w.heap.C (w.pick t)).1.toNat X).dv) (Fa (by intro hg;(try simp only[bs]at hg);exact Z0I oq:(!decide (0<(w.heap.P.getD (ofA w.heap.C (w.pick t)).1.toNat X).N))=Y->(Z Page.dv w.heap.P)[(ofA w.heap.C (w.pick t)).1.toNat]? = Lh (w.heap.P.getD (ofA w.heap.C (w.pick t)).1.toNat X).dv) (FcG 71 (!(Lb (0<(w.heap.P.getD (ofA w.heap.C (w.pick t)).1.toNat X).N)||(w.heap.P.getD (ofA w.heap.C (w.pick t)).1.toNat X).K==2)) (λhg=>by(try simp only[bs]at hg);exact @Z9F w.heap oq) (Fa (by intro hg;(try simp only[bs]at hg);rw[Lz oq,wrapI' oq oq]:(!(Lb (0<(w.heap.P.getD (ofA w.heap.C (w.pick t)).1.toNat X).N)||(w.heap.P.getD (ofA w.heap.C (w.pick t)).1.toNat X).K==2))=Y->Lt.wrap (w.heap.C.pg.tdiv 4)=w.heap.C.pg/4) (Fa (by intro hg;(try simp only[bs]at hg);omega:(!(Lb (0<(w.heap.P.getD (ofA w.heap.C (w.pick t)).1.toNat X).N)||(w.heap.P.getD (ofA w.heap.C (w.pick t)).1.toNat X).K==2))=Y->(4:Int)=0->False) (Fb ((Lb (0<(w.heap.P.getD (ofA w.heap.C (w.pick t)).1.toNat X).N)||(w.heap.P.getD (ofA w.heap.C (w.pick t)).1.toNat X).K==2||Lb ((↑(crowd w.heap.P):Int)<w.heap.C.pg/4))=M) Fz))))))))))))))))))
 .have eP:w.pin t=w:=by rw[WorldM.pin,if_neg e]
  have eT:w.pinT t=w.pickT t:=by rw[WorldM.pinT,if_neg (λq=>e q.1)]
  rw[eP,eT];exact lF func107 [] (Fp 12 (@Z2f w t aa aa oq) (Fc 18 (@Z56 w.heap.C (w.pick t) oq oq) (Ftb 23 ((ofA w.heap.C (w.pick t)).2.2 != 0) Fz)))
def Z82(h:Heap)(s k:List Int)(hw:WOk h.W)(hs:s.length<=1048575)(hk:k.length<=1048575)(hs2:ULe s)(hk2:ULe k):GP 69 [h.av,Z01 s,Z01 k] M (.tu [(collectF h s k).1.av,Z01 (collectF h s k).2.1,Z01 (collectF h s k).2.2.1,.ag (collectF h s k).2.2.2.1.cells,int (collectF h s k).2.2.2.2]) []:=by
 unfold collectF;by_cases hp:Z02 h=Y
 .rw[if_pos hp];by_cases hr:Z0k h s=Y/\Z0k h k=Y
  .rw[if_pos hr];by_cases e:(rootsF (beginW h) s).2.2=0
   .rw[if_pos e];by_cases e2:(allF (rootsF (beginW h) s).1).2=0
    .rw[if_pos e2];exact ZmG h s k hw hs hk hs2 hk2 hp hr.1 hr.2 e e2
    .rw[if_neg e2];exact Zn6 h s k hw hs hk hs2 hk2 hp hr.1 hr.2 e e2
   .rw[if_neg e];exact Zlo h s k hw hs hk hs2 hk2 hp hr.1 hr.2 e
  .rw[if_neg hr];refine Zm0 h s k hw hs hk hs2 hk2 hp ?_;by_cases q:Z0k h s=Y
   .refine La ?_;have:¬ Z0k h k=Y:=λq2=>hr ⟨q,q2⟩;simpa using this
   .exact O (by simpa using q)
 .rw[if_neg hp];exact Zmh h s k hw hs hk hs2 hk2 (by simpa using hp)
def WorldM.collect(w:WorldM):WorldM:=if(collectF w.heap w.G w.E).2.2.2.2=0 then⟨(collectF w.heap w.G w.E).1,(collectF w.heap w.G w.E).2.1,(collectF w.heap w.G w.E).2.2.1⟩else w
def ZcF(w:WorldM)(hw:WOk w.heap.W)(hs:w.G.length<=1048575)(hk:w.E.length<=1048575)(hs2:ULe w.G)(hk2:ULe w.E):GP 23 [w.av] M w.collect.av []:=by
 by_cases e:(collectF w.heap w.G w.E).2.2.2.2=0
 .have e7:w.collect=⟨(collectF w.heap w.G w.E).1,(collectF w.heap w.G w.E).2.1,(collectF w.heap w.G w.E).2.2.1⟩:=by rw[WorldM.collect,if_pos e]
  rw[e7];exact gF [] func23 [] (Fc 15 (@Z82 w.heap w.G w.E aa aa aa aa aa) (Ftb 22 ((collectF w.heap w.G w.E).2.2.2.2==0) Fz))
 .have e7:w.collect=w:=by rw[WorldM.collect,if_neg e]
  rw[e7];exact gF [] func23 [] (Fc 15 (@Z82 w.heap w.G w.E aa aa aa aa aa) (Ffb 22 ((collectF w.heap w.G w.E).2.2.2.2==0) Fz))
section
variable (P:Work->Prop) (hf:∀ w r,WkOk w->CIv w->P w->(w.fwd r).2.2=0->P (w.fwd r).1)
 (hin:∀ w q j,WkOk w->CIv w->P w->q∈w.Q->0<=j->j<hlA w.heap.W q->(w.fwd (loadA w.heap.W (q+1+j)).1).2.2=0->P (w.in1 (q+1+j))) (hsd:∀ w n,P w->P (Z3H w n))
include hin in
theorem Zd2{w:Work}(hw:WkOk w)(h:CIv w)(hp:P w){q:Int}(hq:q∈w.Q){l:List Int}(hl:∀ x∈l,0<=x/\x<hlA w.heap.W q):∀ k,k<=l.length->(∀ j,j<k->innE w q l j=0)->P (innN w q l k)
 | 0,_,_=>hp
 | k+1,hk,he=>by
  have ih:=Zd2 hw h hp hq hl k oq (λj hj=>he j oq);have ok:=(Z43 hw q l k (λj hj=>he j oq)).1;have iv:=Z7a hw h hq hl k oq (λj hj=>he j oq);have hx:=hl _ (getD_mem_iff.2 ⟨k,by omega,rfl⟩);exact hin _ q (l.getD k X) ok iv.1 ih (iv.2.q q hq) hx.1 (by rw[iv.2.l q hq];exact hx.2) (he k oq)
include hin hsd in
theorem ZbU{w:Work}(hw:WkOk w)(h:CIv w)(hp:P w)(e:(Z0z w).2.2=0):P (Z0z w).1:=by
 by_cases hs:w.D<w.Q.length
 .have hsc:=hw.sc;have hq:Z0U w∈w.Q:=getD_mem_iff.2 ⟨w.D.toNat,by omega,rfl⟩;unfold Z0z at e ⊢;rw[if_pos hs]at e ⊢;cases hb:(Lq (Z0n w).length).find? (λk=>Lb (innE w (Z0U w) (Z0n w) k≠0))with
  | none =>
   have h0:∀ j,j<(Z0n w).length->innE w (Z0U w) (Z0n w) j=0:=λj hj=>by
    have:=Ll.1 hb j (Lk.2 hj);simpa using this
   exact hsd _ _ (Zd2 P hin hw h hp hq (l:=Z0n w) (Z1Q (hdW w (Z0U w))) (Z0n w).length (Li _) h0)
  | some k =>
   simp only[hb]at e;have:=(Lx.1 hb).1;simp[e]at this
 .have e:Z0z w=(w,M,0):=by rw[Z0z,if_neg hs]
  rw[e];exact hp
include hin hsd in
theorem Zmp{w:Work}(hw:WkOk w)(h:CIv w)(hp:P w):∀ k,(∀ j,j<k->Z2I w j=M)->P (itW w k)
 | 0,_=>hp
 | k+1,hh=>by
  have ih:=Zmp hw h hp k (λj hj=>hh j oq);have ok:=(Z4H hw k (λj hj=>hh j oq)).1;have iv:=(Z7z hw h k (λj hj=>hh j oq)).1;have hk:=hh k oq;simp only[Z2I,decide_eq_false_iff_not,not_or,Ls]at hk;exact ZbU P hin hsd ok iv ih hk.1
include hin hsd in
theorem ZpH{w:Work}(hw:WkOk w)(h:CIv w)(hp:P w)(e:(allF w).2=0):P (allF w).1:=by
 obtain⟨k,hb⟩:=Z3E hw;obtain⟨h1,h2,h3⟩:=Lx.1 hb;have h0:∀ j,j<k->Z2I w j=M:=λj hj=>by simpa using h3 j hj
 unfold allF at e ⊢;rw[hb]at e ⊢;simp only at e ⊢;split at e
 .rename_i c;rw[if_pos c];exact ZbU P hin hsd (Z4H hw k h0).1 (Z7z hw h k h0).1 (Zmp P hin hsd hw h hp k h0) c
 .rename_i c;exact absurd e c
include hf in
theorem Zc3{w:Work}{roots:List Int}(hw:WkOk w)(h:CIv w)(hp:P w):∀ k,(∀ j,j<k->Z1k w roots j=0)->P (rootsN w roots k).1
 | 0,_=>hp
 | k+1,hh=>by
  have ih:=Zc3 hw h hp k (λj hj=>hh j oq);have ok:=(Z3F (roots:=roots) hw k (λj hj=>hh j oq)).1;have iv:=(Z5O (roots:=roots) hw h k (λj hj=>hh j oq)).1;exact hf _ _ ok iv ih (hh k oq)
include hf in
theorem ZbM{w:Work}{roots:List Int}(hw:WkOk w)(h:CIv w)(hp:P w)(e:(rootsF w roots).2.2=0):P (rootsF w roots).1:=by
 unfold rootsF at e ⊢;cases hb:(Lq roots.length).find? (λk=>Lb (Z1k w roots k≠0))with
 | none =>
  have h0:∀ j,j<roots.length->Z1k w roots j=0:=λj hj=>by
   have:=Ll.1 hb j (Lk.2 hj);simpa using this
  exact Zc3 P hf hw h hp roots.length h0
 | some k =>
  simp only[hb]at e;have:=(Lx.1 hb).1;simp[e]at this
include hf hin hsd in
theorem ZmS{h:Heap}{s:List Int}(hw:WOk h.W)(hp:Z02 h=Y)(h0:P (beginW h))(e:(rootsF (beginW h) s).2.2=0)(e2:(allF (rootsF (beginW h) s).1).2=0):P (cW2 h s):=by
 have hb:=Z38 hw hp;have hi:=Z34 hp;have ho:=Z3J (roots:=s) hb hi e;exact ZpH P hin hsd ho.1 ho.2.1 (ZbM P hf hb hi h0 e) e2
end
def Zjo{l:List Page}{i k:Nat}(h:∀ m,m<k->i+1+m<l.length/\(l.getD (i+1+m) X).K=3):k<=Z0i l i:=by
 by_cases hc:k<=Z0i l i
 .exact hc
 .have h1:=h (Z0i l i) oq;exact absurd h1.2 (Zcc h1.1)
def PT.flip{c:Conf}{l:List Page}(h:PT c l){i:Nat}(hi:i<l.length)(hk:(l.getD i X).K=2){s:Int}(hs:0<=s/\s<=1):PT c (Z0s l i (Z0i l i) s):=by
 have hr:∀ j,i<j->j<=i+Z0i l i->(l.getD j X).K=3:=λj h1 h2=>by
  have:=(Z6l (l:=l) (i:=i) (m:=j-i-1) oq).2;rwa [show i+1+(j-i-1)=j by omega]at this
 have hg:∀ j,j<l.length->((Z0s l i (Z0i l i) s).getD j X).K=(l.getD j X).K/\((Z0s l i (Z0i l i) s).getD j X).U=(l.getD j X).U/\((Z0s l i (Z0i l i) s).getD j X).N=(l.getD j X).N:=λj hj=>by
  rw[Z1u hj];split
  .exact⟨rfl,rfl,rfl⟩
  .exact⟨rfl,rfl,rfl⟩
 refine⟨?_, ?_, ?_⟩
 .intro j hj;rw[Z1j]at hj;have b:=h.b j hj;rw[Z1u hj];split
  .rename_i hc;refine⟨hs,b.n,b.k,λq=>?_,b.k1,b.k3⟩;exfalso;have q':(l.getD j X).K=0:=q;by_cases hij:j=i
   .subst hij;omega
   .have:=hr j oq hc.2;omega
  .exact b
 .intro j hj hk2;rw[Z1j]at hj ⊢;rw[(hg j hj).1]at hk2;rw[(hg j hj).2.1];have q:=h.lg j hj hk2;refine⟨q.1,λm h1 h2=>?_⟩;have r:=q.2 m h1 h2;refine⟨r.1,by rw[(hg _ r.1).1];exact r.2.1, ?_⟩;rw[Z1u r.1,Z1u hj];by_cases hij:j=i
  .subst hij;have hT:(need c (l.getD j X).U-1).toNat<=Z0i l j:=Zjo λm' hm'=>by
    have:=q.2 (m'+1) oq oq;rw[show j+1+m'=j+(m'+1) by omega];exact⟨this.1,this.2.1⟩
   rw[if_pos oq,if_pos oq];rfl
  .have hj1:¬ (i<=j/\j<=i+Z0i l i):=λhc=>by
    have:=hr j oq hc.2;omega
   have hj2:¬ (i<=j+m/\j+m<=i+Z0i l i):=λhc=>by
    by_cases hlt:j<i
    .by_cases he:j+m=i
     .have:=r.2.1;rw[he]at this;omega
     .have:=(q.2 (i-j) oq oq).2.1;rw[show j+(i-j)=i by omega]at this;omega
    .omega
   rw[if_neg hj1,if_neg hj2];exact r.2.2
 .intro j hj hk3;rw[Z1j]at hj;rw[(hg j hj).1]at hk3;obtain⟨a,a1,a2,a3⟩:=h.tl j hj hk3;exact⟨a,a1,by rw[(hg a oq).1];exact a2,by rw[(hg a oq).2.1];exact a3⟩
structure Tab (B:Int) (w:Work):Prop where
 pt:PT w.heap.C w.heap.P
 tk:∀ x∈w.T,(w.heap.P.getD x.toNat X).S=1-w.heap.S
 pin:∀ p∈w.heap.P,p.N<=B
def Tab.withWords{B:Int}{w:Work}(h:Tab B w)(l:List Int):Tab B ⟨⟨w.heap.C,l,w.heap.P,w.heap.S,w.heap.B⟩,w.old,w.T,w.Q,w.D,w.rep⟩:=⟨h.pt,h.tk,h.pin⟩
def Tab.place{B:Int}(hB:0<=B){w:Work}(hw:WkOk w)(h:Tab B w){n:Int}(hn:1<=n/\n<=w.heap.C.pw)(hc:(w.place n).2.2=Y):PT (w.place n).1.heap.C (w.place n).1.heap.P/\(∀ x∈(w.place n).1.T,((w.place n).1.heap.P.getD x.toNat X).S=1-(w.place n).1.heap.S)/\∀ p∈(w.place n).1.heap.P,p.N<=B:=by
 have hsp:=hw.sp;by_cases hf:Z2A w n
 .have e:w.place n=(⟨⟨w.heap.C,w.heap.W,Z1C w.heap.P (Z0o w).toNat n,w.heap.S,w.heap.B⟩,w.old,w.T,w.Q,w.D,w.rep⟩,4096+Z0o w*w.heap.C.pw+(w.heap.P.getD (Z0o w).toNat X).U,Y):=by rw[Work.place,if_pos hf]
  unfold Z2A at hf;have hm:=hw.tk _ (Z18 hf.1);have hi:(Z0o w).toNat<w.heap.P.length:=by omega
  have ok:=h.pt.b _ hi;have u:=ok.k1 hm.2.2;rw[e];refine⟨h.pt.setPage hi (La hm.2.2) ⟨ok.s,ok.n,ok.k,λq=>by simp only at q;omega,λ_=>by simp only;omega,λq=>by simp only at q;omega⟩ (La hm.2.2), ?_, ?_⟩
  .intro x hx;simp only;rw[Z3z,Z0p hi];split
   .rename_i q;have:=h.tk _ (Z18 hf.1);simp only;omega
   .exact h.tk x hx
  .intro p hp;rcases L3 hp with hp | rfl
   .exact h.pin p hp
   .exact h.pin (w.heap.P.getD (Z0o w).toNat X) (getD_in hi)
 .by_cases hg:0<=Z0g w
  .have e:w.place n=(⟨⟨w.heap.C,w.heap.W,Z1C (Z1Z w) (Z0g w).toNat n,w.heap.S,w.heap.B⟩,w.old,w.T++[Z0g w],w.Q,w.D,w.rep⟩,4096+Z0g w*w.heap.C.pw,Y):=by rw[Work.place,if_neg hf,if_pos hg]
   obtain⟨g1,g2,g3⟩:=Z30 (h:=⟨w.heap.C,w.heap.W,w.heap.P,1-w.heap.S,w.heap.B⟩) (by simp only;omega) hg n;have g1':Z1C (Z1Z w) (Z0g w).toNat n=w.heap.P.set (Z0g w).toNat ⟨1,1-w.heap.S,n,0⟩:=g1;have g2':(w.heap.P.getD (Z0g w).toNat X).K=0:=g2;have g3':(Z0g w).toNat<w.heap.P.length:=g3;rw[e,g1'];refine⟨h.pt.setPage g3' (O g2') ⟨by simp only;omega,by simp,by simp,by simp,λ_=>by simp only;omega,by simp⟩ (La rfl), ?_, ?_⟩
   .intro x hx;simp only at hx ⊢;rw[Z0p g3'];split
    .rfl
    .rename_i hne;rcases Ld.1 hx with hx | hx
     .exact h.tk x hx
     .simp at hx;subst hx;exact absurd rfl hne
   .intro p hp;rcases L3 hp with hp | rfl
    .exact h.pin p hp
    .exact hB
  .rw[Work.place,if_neg hf,if_neg hg]at hc;simp at hc
def Tab.fwd{B:Int}(hB:0<=B)(w:Work)(r:Int)(hw:WkOk w)(hi:CIv w)(h:Tab B w)(e:(w.fwd r).2.2=0):Tab B (w.fwd r).1:=by
 unfold Work.fwd at e ⊢;split at e
 .rename_i c1;rw[if_pos c1];exact h
 .rename_i c1;rw[if_neg c1];split at e
  .simp at e
  .rename_i c2;rw[if_neg c2];have c2':r∈w.old:=Ls.1 c2;split at e
   .rename_i c3;rw[if_pos c3];exact h
   .rename_i c3;rw[if_neg c3];split at e
    .simp at e
    .rename_i c4;rw[if_neg c4];split at e
     .rename_i c5;rw[if_pos c5];exact⟨h.pt,h.tk,h.pin⟩
     .rename_i c5;rw[if_neg c5];split at e
      .rename_i c6;rw[if_pos c6];have hsp:=hw.sp;have o:=Z2L hw.C (Ls.1 c4);have hpl:=hw.pl;have hl:Z19 w r<w.heap.P.length:=by unfold Z19;omega
       refine⟨h.pt.flip hl c6 oq, ?_, ?_⟩
       .intro x hx;have t:=hw.tk x hx;simp only[Work.keep,Work.flip];rw[Z1u oq];split
        .rename_i hc;exfalso;by_cases hx':x.toNat=Z19 w r
         .rw[hx']at t;omega
         .have:=(Z6l (l:=w.heap.P) (i:=Z19 w r) (m:=x.toNat-Z19 w r-1) oq).2;rw[show Z19 w r+1+(x.toNat-Z19 w r-1)=x.toNat by omega]at this;omega
        .exact h.tk x hx
       .intro p hp;simp only[Work.keep,Work.flip,Z0s,LK,Lk]at hp;obtain⟨j,hj,rfl⟩:=hp;split
        .exact h.pin (w.heap.P.getD j X) (getD_in hj)
        .exact h.pin (w.heap.P.getD j X) (getD_in hj)
      .rename_i c6;rw[if_neg c6];split at e
       .simp at e
       .rename_i c7;rw[if_neg c7];have c7':(w.place (sizeH (hdW w r))).2.2=Y:=by simpa using c7
        have hz:=hi.z r c2';have hs:=Z2K w r;have hp:sizeH (hdW w r)<=w.heap.C.pw:=by
         rw[Z1N];rcases hz with hz | hz
         .exact absurd hz c6
         .exact hz
        obtain⟨q1,q2,q3⟩:=h.place hB hw ⟨hs.1,hp⟩ c7';exact⟨q1,q2,q3⟩
def Z5h{B:Int}{h:Heap}(hp:Z02 h=Y)(hb:∀ p∈h.P,p.N<=B):Tab B (beginW h):=by
 have hp':=hp;rw[Z1t]at hp';have hs:=hp'.2.2.2.1;refine⟨?_,by simp[beginW], ?_⟩
 .refine hp'.2.2.2.2.2.mapPages _ ?_ ?_ ?_ ?_
  .intro p hp;unfold begQ;split
   .rename_i hc;exact⟨by simp only;omega,hp.n,hp.k,λq=>by simp only at q;omega,hp.k1,λq=>by simp only at q;omega⟩
   .exact hp
  .intro p hp hk;unfold begQ at hk ⊢;split at hk
   .rename_i hc;simp only at hk;omega
   .rename_i hc;rw[if_neg hc];exact⟨hk,rfl⟩
  .intro p hp hk;unfold begQ at hk;split at hk
   .rename_i hc;simp only at hk;omega
   .exact hk
  .intro p q hp hq h2 h3 he;have e1:begQ (1-h.S) p=p:=by rw[begQ,if_neg oq]
   have e2:begQ (1-h.S) q=q:=by rw[begQ,if_neg oq]
   rw[e1,e2];exact⟨⟨λ_=>h3,λ_=>h2⟩,λ_=>he⟩
 .intro p hp;simp only[beginW,LK]at hp;obtain⟨q,hq,rfl⟩:=hp;unfold begQ;split
  .exact hb q hq
  .exact hb q hq
def ZoL{B:Int}(hB:0<=B){h:Heap}{s:List Int}(hw:WOk h.W)(hp:Z02 h=Y)(hb:∀ p∈h.P,p.N<=B)(e:(rootsF (beginW h) s).2.2=0)(e2:(allF (rootsF (beginW h) s).1).2=0):Tab B (cW2 h s) :=
 ZmS (Tab B) (λw r hw hi h e=>h.fwd hB w r hw hi e) (λw q j hw hi h hq h0 h1 e=>(Tab.fwd hB w _ hw hi h e).withWords _) (λw n h=>⟨h.pt,h.tk,h.pin⟩) hw hp (Z5h hp hb) e e2
structure MOk (w:WorldM) (n:Nat):Prop where
 W:WOk w.heap.W
 hv:Z07 w.heap.C=Y
 pl:(w.heap.P.length:Int)=w.heap.C.pg
 L:(w.heap.W.length:Int)=w.heap.C.pw*w.heap.C.pg
 N:∀ j,j<w.heap.P.length->0<=(w.heap.P.getD j X).N/\(w.heap.P.getD j X).N<=n
 us:∀ j,j<w.heap.P.length->0<=(w.heap.P.getD j X).U/\(w.heap.P.getD j X).U<=256
 G:ULe w.G
 E:ULe w.E
 sl:w.G.length<=n
 wl:w.E.length<=n
def MOk.wm{w:WorldM}{n:Nat}(h:MOk w n)(hn:n<=1000000):WMok w:=⟨h.W,h.G,h.E,L7 h.sl oq,L7 h.wl oq⟩
def WorldM.dup(w:WorldM)(t:Tape):WorldM:=⟨w.heap,w.G++[w.pick t],w.E⟩
def WorldM.step(w:WorldM)(t:Tape):WorldM :=
 if t.next 12<=3 then w.put ((t.step 12).header w.heap.C)
 else if t.next 12<=6 then w.link (t.step 12)
 else if t.next 12<=7 then w.pin (t.step 12)
 else if t.next 12<=9 then w.drop (t.step 12)
 else if t.next 12<=10 then w.collect
 else w.dup (t.step 12)
def WorldM.stepT(w:WorldM)(t:Tape):Tape :=
 if t.next 12<=3 then(t.step 12).headerT w.heap.C
 else if t.next 12<=6 then w.linkT (t.step 12)
 else if t.next 12<=7 then w.pinT (t.step 12)
 else if t.next 12<=9 then w.dropT (t.step 12)
 else if t.next 12<=10 then t.step 12
 else w.pickT (t.step 12)
def Z4v(t:Tape)(c:Conf):0<=(t.header c).map/\(t.header c).map<=4294967295:=by
 have h:∀ n:Int,0<=((Z3K t c).step 4).next (2^(min (min n 32) 12).toNat)/\((Z3K t c).step 4).next (2^(min (min n 32) 12).toNat)<=4294967295:=by
  intro n;have p:=Zoe (n:=min (min n 32) 12) oq;have r:=Z0T ((Z3K t c).step 4) (n:=2^(min (min n 32) 12).toNat) p.1;omega
 unfold Tape.header;split
 .simp
 .split
  .simp
  .exact h _
def Z2e(t:Tape)(d:Int)(hd:t.next 12=d)(ht:TOk t):LP 22 [.pt 0 0 0,int 12] [t.b] (int d) [(t.step 12).b]:=by
 rw[<- hd];exact Z0O t 12 ht dd dd
section
variable (w:WorldM) (t:Tape) (n:Nat) (hm:MOk w n) (hn:n<=1000000) (ht:TOk t) (ha:t.at'<=900000)
include hm hn ht ha
theorem Zie:LP 58 [w.av,.pt 0 0 0] [t.b] (w.step t).av [(w.stepT t).b]:=by
 have hw:=hm.wm hn;have h1:=hm.W;have h2:=hm.G;have h3:=hm.E;have h4:=hm.sl;have h5:=hm.wl;have s1:=Z4q (t:=t) 12;have k1:=Z5b ht s1.2.2 oq oq;have n1:=Z0T t (n:=12) dd;have hmap:=Z4v (t.step 12) w.heap.C;have hv:=hm.hv;have hpl:=hm.pl;have hpn:∀ j,j<w.heap.P.length->-1048576<=(w.heap.P.getD j X).N/\(w.heap.P.getD j X).N<=4294967296:=λj hj=>by
  have:=hm.N j hj;omega
 have hd:t.next 12=0\/t.next 12=1\/t.next 12=2\/t.next 12=3\/t.next 12=4\/t.next 12=5\/t.next 12=6\/t.next 12=7\/t.next 12=8\/t.next 12=9\/t.next 12=10\/t.next 12=11:=by omega
 rcases hd with hd | hd | hd | hd | hd | hd | hd | hd | hd | hd | hd | hd
 .have e7:w.step t=w.put ((t.step 12).header w.heap.C):=by simp[WorldM.step,hd]
  have e8:w.stepT t=(t.step 12).headerT w.heap.C:=by simp[WorldM.stepT,hd]
  rw[e7,e8];exact lF func58 [] (Fp 6 (@Z2e t (0) aa aa) (Fp 17 (@Z60 (t.step 12) w.heap.C aa oq aa) (Fc 18 (@Z7i w ((t.step 12).header w.heap.C) aa aa) Fz)))
 .have e7:w.step t=w.put ((t.step 12).header w.heap.C):=by simp[WorldM.step,hd]
  have e8:w.stepT t=(t.step 12).headerT w.heap.C:=by simp[WorldM.stepT,hd]
  rw[e7,e8];exact lF func58 [] (Fp 6 (@Z2e t (1) aa aa) (Fp 17 (@Z60 (t.step 12) w.heap.C aa oq aa) (Fc 18 (@Z7i w ((t.step 12).header w.heap.C) aa aa) Fz)))
 .have e7:w.step t=w.put ((t.step 12).header w.heap.C):=by simp[WorldM.step,hd]
  have e8:w.stepT t=(t.step 12).headerT w.heap.C:=by simp[WorldM.stepT,hd]
  rw[e7,e8];exact lF func58 [] (Fp 6 (@Z2e t (2) aa aa) (Fp 17 (@Z60 (t.step 12) w.heap.C aa oq aa) (Fc 18 (@Z7i w ((t.step 12).header w.heap.C) aa aa) Fz)))
 .have e7:w.step t=w.put ((t.step 12).header w.heap.C):=by simp[WorldM.step,hd]
  have e8:w.stepT t=(t.step 12).headerT w.heap.C:=by simp[WorldM.stepT,hd]
  rw[e7,e8];exact lF func58 [] (Fp 6 (@Z2e t (3) aa aa) (Fp 17 (@Z60 (t.step 12) w.heap.C aa oq aa) (Fc 18 (@Z7i w ((t.step 12).header w.heap.C) aa aa) Fz)))
 .have e7:w.step t=w.link (t.step 12):=by simp[WorldM.step,hd]
  have e8:w.stepT t=w.linkT (t.step 12):=by simp[WorldM.stepT,hd]
  rw[e7,e8];exact lF func58 [] (Fp 6 (@Z2e t (4) aa aa) (Fp 25 (@Za1 w (t.step 12) aa aa oq) Fz))
 .have e7:w.step t=w.link (t.step 12):=by simp[WorldM.step,hd]
  have e8:w.stepT t=w.linkT (t.step 12):=by simp[WorldM.stepT,hd]
  rw[e7,e8];exact lF func58 [] (Fp 6 (@Z2e t (5) aa aa) (Fp 25 (@Za1 w (t.step 12) aa aa oq) Fz))
 .have e7:w.step t=w.link (t.step 12):=by simp[WorldM.step,hd]
  have e8:w.stepT t=w.linkT (t.step 12):=by simp[WorldM.stepT,hd]
  rw[e7,e8];exact lF func58 [] (Fp 6 (@Z2e t (6) aa aa) (Fp 25 (@Za1 w (t.step 12) aa aa oq) Fz))
 .have e7:w.step t=w.pin (t.step 12):=by simp[WorldM.step,hd]
  have e8:w.stepT t=w.pinT (t.step 12):=by simp[WorldM.stepT,hd]
  rw[e7,e8];exact lF func58 [] (Fp 6 (@Z2e t (7) aa aa) (Fp 30 (@Zn5 w (t.step 12) aa aa oq aa oq aa) Fz))
 .have e7:w.step t=w.drop (t.step 12):=by simp[WorldM.step,hd]
  have e8:w.stepT t=w.dropT (t.step 12):=by simp[WorldM.stepT,hd]
  rw[e7,e8];exact lF func58 [] (Fp 6 (@Z2e t (8) aa aa) (Fp 36 (@Zcy w (t.step 12) aa aa oq) Fz))
 .have e7:w.step t=w.drop (t.step 12):=by simp[WorldM.step,hd]
  have e8:w.stepT t=w.dropT (t.step 12):=by simp[WorldM.stepT,hd]
  rw[e7,e8];exact lF func58 [] (Fp 6 (@Z2e t (9) aa aa) (Fp 36 (@Zcy w (t.step 12) aa aa oq) Fz))
 .have e7:w.step t=w.collect:=by simp[WorldM.step,hd]
  have e8:w.stepT t=t.step 12:=by simp[WorldM.stepT,hd]
  rw[e7,e8];exact lF func58 [] (Fp 6 (@Z2e t (10) aa aa) (Fc 40 (@ZcF w aa oq oq aa aa) Fz))
 .have e7:w.step t=w.dup (t.step 12):=by simp[WorldM.step,hd]
  have e8:w.stepT t=w.pickT (t.step 12):=by simp[WorldM.stepT,hd]
  rw[e7,e8];exact lF func58 [] (Fh 49 [.els (Z wdv (w.G++[w.pick (t.step 12)]))] (Fp 6 (@Z2e t (11) aa aa) (FAx 41 44 wdv w.G (by(simp[WorldM.dup, *];omega)) (Fp 47 (@Z2f w (t.step 12) aa aa oq) (Fs 48 (Z wdv [w.pick (t.step 12)]) (Fa (by(simp[WorldM.dup, *];omega):(Z wdv w.G).length+(Z wdv [w.pick (t.step 12)]).length<=2^30) (Fa (by simp[WorldM.dup,List.map_take,List.map_drop,L1,List.map_append,wdv,idv]:Z wdv w.G++Z wdv [w.pick (t.step 12)]=Z wdv (w.G++[w.pick (t.step 12)])) Fz)))))))
end
def ZaF{pw s:Int}{l:List Page}{ws:List Int}(h:WOk ws):∀ i,WOk (Z2o pw s l ws i)
 | 0=>h
 | i+1=>by
  have ih:=ZaF (pw:=pw) (s:=s) (l:=l) h i;unfold Z2o;split
  .intro x hx;simp only[spl,Ld,L4]at hx;rcases hx with(hx | hx) | hx
   .exact ih x (LC hx)
   .omega
   .exact ih x (LB hx)
  .exact ih
def ZoY{c:Conf}{l:List Page}(h:PT c l)(s:Int):PT c (l.map (Z1f s)):=by
 refine h.mapPages _ ?_ ?_ ?_ ?_
 .intro p hp;unfold Z1f;split
  .exact⟨by simp,by simp,by simp,by simp,by simp,by simp⟩
  .exact hp
 .intro p hp hk;unfold Z1f at hk ⊢;split at hk
  .simp at hk
  .rename_i hc;rw[if_neg hc];exact⟨hk,rfl⟩
 .intro p hp hk;unfold Z1f at hk;split at hk
  .simp at hk
  .exact hk
 .intro p q hp hq h2 h3 he;by_cases hg:p.S=s
  .have e1:Z1f s p=⟨0,0,0,0⟩:=by rw[Z1f,if_pos ⟨by omega,hg⟩]
   have e2:Z1f s q=⟨0,0,0,0⟩:=by rw[Z1f,if_pos ⟨by omega,by omega⟩]
   rw[e1,e2];simp
  .have e1:Z1f s p=p:=by rw[Z1f,if_neg (by unfold Z2m;omega)]
   have e2:Z1f s q=q:=by rw[Z1f,if_neg (by unfold Z2m;omega)]
   rw[e1,e2];exact⟨⟨λ_=>h3,λ_=>h2⟩,λ_=>he⟩
def Z9X{w:Work}(hw:WkOk w)(k:List Int):∀ i,∀ x∈Z3Q w k i,0<=x/\x<=4294967296
 | 0,x,hx=>by simp[Z3Q]at hx
 | i+1,x,hx=>by
  simp only[Z3Q,Ld,Lf]at hx;rcases hx with hx | rfl
  .exact Z9X hw k i x hx
  .have h:=Z4U w k i;unfold Z72;split
   .omega
   .unfold Z1D;rw[h.2.2.2.1,h.1];split
    .rename_i hq;have:=hw.q _ hq;omega
    .have:=Z6C (Z0D hw.W (k.getD i X)).1;omega
structure ColOk (B:Int) (h:Heap) (s k:List Int):Prop where
 p0:Z02 h=Y
 p1:Z02 (collectF h s k).1=Y
 w:WOk (collectF h s k).1.W
 n:∀ p∈(collectF h s k).1.P,p.N<=B
 c:(collectF h s k).1.C=h.C
 r:∀ x∈(collectF h s k).2.1,0<=x/\x<=4294967296
 rl:(collectF h s k).2.1.length=s.length
 v:∀ x∈(collectF h s k).2.2.1,0<=x/\x<=4294967296
 vl:(collectF h s k).2.2.1.length=k.length
def Z7s{B:Int}(hB:0<=B){h:Heap}{s k:List Int}(hw:WOk h.W)(hb:∀ p∈h.P,p.N<=B)(e:(collectF h s k).2.2.2.2=0):ColOk B h s k:=by
 by_cases hp:Z02 h=Y
 .by_cases hr:Z0k h s=Y/\Z0k h k=Y
  .by_cases e1:(rootsF (beginW h) s).2.2=0
   .by_cases e2:(allF (rootsF (beginW h) s).1).2=0
    .have e7:collectF h s k=(endH (cW5 h s k),(rootsF (beginW h) s).2.1,Z3Q (cW2 h s) k k.length,(cW5 h s k).rep,0):=by rw[collectF,if_pos hp,if_pos hr,if_pos e1,if_pos e2]
     have ho:=Z3J (roots:=s) (Z38 hw hp) (Z34 hp) e1;have c:=cOk h s k hw hp e1 e2;have c5:=cOk5 h s k hw hp e1 e2;have tb:=ZoL hB hw hp hb e1 e2;obtain⟨g1,g2,g3,g4,g5⟩:=c.h4;have hsp:=c.w2.sp;have hc2:(cW2 h s).heap.C=h.C:=c.x2.c;have hpl:=c.w2.pl;rw[hc2]at hpl;have hL:=c.i4.L;rw[g1]at hL;have hfl:=Z5J (s:=(cW4 h s k).heap.S) c5.2.2.2.1 (cW4 h s k).heap.P.length (Li _);refine⟨hp, ?_, ?_, ?_, ?_, ?_, ?_, ?_, ?_⟩
     .rw[e7,Z1t];simp only[endH,cW5,Z1o,g1,g2,g3,g4];have hptf:=ZoY (s:=(cW2 h s).heap.S) tb.pt;rw[hc2]at hptf;refine⟨(Z06 hp).1, ?_,by simp only[Lp];exact hpl,by omega, ?_,hptf⟩
      .rw[g1,g2,g3]at hfl;rw[hfl];exact hL
      .split
       .rename_i ht;have hm:=Z18 (w:=cW2 h s) ht;have t1:=c.w2.tk _ hm;have t2:=tb.tk _ hm;refine La ⟨t1.1,by simp only[Lp];exact t1.2.1, ?_⟩;have hx:(Z (Z1f (cW2 h s).heap.S) (cW2 h s).heap.P).getD (Z0o (cW2 h s)).toNat X=(cW2 h s).heap.P.getD (Z0o (cW2 h s)).toNat X:=by
         have hi:(Z0o (cW2 h s)).toNat<(cW2 h s).heap.P.length:=by omega
         have:(Z (Z1f (cW2 h s).heap.S) (cW2 h s).heap.P).getD (Z0o (cW2 h s)).toNat X=Z1f (cW2 h s).heap.S ((cW2 h s).heap.P.getD (Z0o (cW2 h s)).toNat X):=by simp[Le,hi]
         rw[this,Z1f,if_neg (by unfold Z2m;omega)]
        show((Z (Z1f (cW2 h s).heap.S) (cW2 h s).heap.P).getD (Z0o (cW2 h s)).toNat X).K=1;rw[hx];exact t1.2.2
       .exact O rfl
     .rw[e7];exact ZaF c.f4.W _
     .rw[e7];intro p hp';simp only[endH,cW5,Z1o,g2,LK]at hp';obtain⟨q,hq,rfl⟩:=hp';unfold Z1f;split
      .exact hB
      .exact tb.pin q hq
     .rw[e7];exact g1
     .rw[e7];exact ho.2.2.2.1
     .rw[e7];exact ho.2.2.2.2
     .rw[e7];exact Z9X c.w2 k _
     .rw[e7];exact Z9k _ _ _
    .rw[collectF,if_pos hp,if_pos hr,if_pos e1,if_neg e2]at e;exact absurd e e2
   .rw[collectF,if_pos hp,if_pos hr,if_neg e1]at e;exact absurd e e1
  .rw[collectF,if_pos hp,if_neg hr]at e;simp at e
 .rw[collectF,if_neg hp]at e;simp at e
def Zep{h:Heap}(hp:Z02 h=Y):∀ p∈h.P,0<=p.N:=by
 rw[Z1t]at hp;intro p hp';obtain⟨i,hi,e⟩:=L2.1 hp';have:=(hp.2.2.2.2.2.b i hi).n.1;rwa [show h.P.getD i X=p by rw[Le,LW hi,e];rfl]at this
def MOk.of_proper{w:WorldM}{n:Nat}(hp:Z02 w.heap=Y)(hw:WOk w.heap.W)(hn:∀ p∈w.heap.P,p.N<=n)(h1:ULe w.G)(h2:ULe w.E)(h3:w.G.length<=n)(h4:w.E.length<=n):MOk w n:=by
 have po:=Z06 hp;exact⟨hw,po.1,po.2.2.2.2.2.2.2.1,po.2.2.2.2.2.1,λj hj=>⟨Zep hp _ (getD_in hj),hn _ (getD_in hj)⟩,λj hj=>by have:=Z0J hp hj;omega,h1,h2,h3,h4⟩
def MOk.pin_mem{w:WorldM}{n:Nat}(h:MOk w n):∀ p∈w.heap.P,0<=p.N/\p.N<=n:=by
 intro p hp;obtain⟨i,hi,e⟩:=L2.1 hp;have:=h.N i hi;rwa [show w.heap.P.getD i X=p by rw[Le,LW hi,e];rfl]at this
def MOk.mono{w:WorldM}{n:Nat}(h:MOk w n):MOk w (n+1) :=
 ⟨h.W,h.hv,h.pl,h.L,λj hj=>by have:=h.N j hj;omega,h.us,h.G,h.E,by have:=h.sl;omega,by have:=h.wl;omega⟩
def Zfg{l:List Int}(h:ULe l){x:Int}(hx:0<=x/\x<=18446744073709551615):ULe (l++[x]):=by
 intro y hy;simp only[Ld,Lf]at hy;rcases hy with hy | rfl
 .exact h y hy
 .exact hx
def MOk.put{w:WorldM}{n:Nat}(h:MOk w n){hd:Header}(hm:0<=hd.map/\hd.map<=4294967295):MOk (w.put hd) (n+1):=by
 unfold WorldM.put;split
 .rename_i e;obtain⟨k1,k2,k3,k4,k5,k6,k7,k8⟩:=ZbZ h.W hm e;have po:=Z06 k1;have hl:=h.sl;have hl2:=h.wl;have z:=(Z5X k2).2.1;have a1:=k3.lo;have a2:=k3.hi;refine MOk.of_proper k7 k8 ?_ (Zfg h.G (by rw[k5];omega)) h.E qo (by simp only;omega);intro p hp;simp only at hp;rw[k6]at hp;simp only at hp;rcases k3.pin p hp with q | ⟨q,q1,q2⟩
  .omega
  .have:=h.pin_mem q q1;omega
 .exact h.mono
def MOk.link{w:WorldM}{n:Nat}(h:MOk w n)(hn:n<=1000000)(t:Tape):MOk (w.link t) (n+1):=by
 unfold WorldM.link;split
 .rename_i hc;have g:=Z45 hc.1;have hw:=h.wm hn;have hlen:1<=(getH w.heap (w.pick t)).1.length:=by omega
  have n1:=Z0T (w.pickT (w.pickT t)) (n:=8) dd;have hi:0<=Z4m w t/\Z4m w t<(getH w.heap (w.pick t)).1.length:=by
   unfold Z4m;rw[LF n1.1];exact⟨LD _ oq,Lw _ oq⟩
  have hv:0<=Z4t w t/\Z4t w t<=18446744073709551615:=by
   unfold Z4t;split
   .exact Z31 hw _
   .have:=Z0T ((w.pickT (w.pickT t)).step 8) (n:=1048576) dd;omega
  obtain⟨s1,s2,s3⟩:=Z4V h.W hv hc.1 hi;have hl:=h.sl;have hl2:=h.wl;refine MOk.of_proper s2 s3 ?_ h.G h.E (by simp only;omega) (by simp only;omega);intro p hp;simp only at hp;rw[s1]at hp;have:=h.pin_mem p hp;omega
 .exact h.mono
def Zib{w:WorldM}{n:Nat}(h:MOk w n){i:Nat}(hi:i<w.heap.P.length){d:Int}(hd:d=1\/(d=-1/\0<(w.heap.P.getD i X).N)):MOk (pinB w i d) (n+1):=by
 have hp:=h.N i hi;refine⟨h.W,h.hv, ?_,h.L, ?_, ?_,h.G,h.E,by have:=h.sl;simp only[pinB];omega,by have:=h.wl;simp only[pinB];omega⟩
 .simp only[pinB,Lj];exact h.pl
 .intro j hj;simp only[pinB,Lj]at hj ⊢;rw[Z0p hi];split
  .simp only;omega
  .have:=h.N j hj;omega
 .intro j hj;simp only[pinB,Lj]at hj ⊢;rw[Z0p hi];split
  .exact h.us i hi
  .exact h.us j hj
def MOk.pin{w:WorldM}{n:Nat}(h:MOk w n)(t:Tape):MOk (w.pin t) (n+1):=by
 unfold WorldM.pin;split
 .rename_i e;have o:=Z2L h.hv e;have hpl:=h.pl;have hi:pinI w t<w.heap.P.length:=by unfold pinI;omega
  split
  .rename_i hc;exact Zib h hi (La ⟨rfl,hc.1⟩)
  .split
   .exact Zib h hi (O rfl)
   .exact h.mono
 .exact h.mono
def MOk.drop{w:WorldM}{n:Nat}(h:MOk w n)(t:Tape):MOk (w.drop t) (n+1):=by
 unfold WorldM.drop;split
 .have hl:=h.sl;have hl2:=h.wl;refine⟨h.W,h.hv,h.pl,h.L,λj hj=>by have:=h.N j hj;simp only;omega,h.us, ?_, ?_, ?_, ?_⟩
  .intro x hx;rcases Ld.1 hx with hx | hx
   .exact h.G x (LC hx)
   .exact h.G x (LB hx)
  .simp only;split
   .exact Zfg h.E (Z5G h.G _)
   .exact h.E
  .simp only[LY,L0,LZ];omega
  .simp only;split
   .simp;omega
   .omega
 .exact h.mono
def MOk.collect{w:WorldM}{n:Nat}(h:MOk w n):MOk w.collect (n+1):=by
 unfold WorldM.collect;split
 .rename_i e;have c:=Z7s (B:=n) oq h.W (λp hp=>(h.pin_mem p hp).2) e;have hl:=h.sl;have hl2:=h.wl;refine MOk.of_proper c.p1 c.w (λp hp=>by have:=c.n p hp;omega) (λx hx=>by have:=c.r x hx;omega) (λx hx=>by have:=c.v x hx;omega) (by simp only[c.rl];omega) (by simp only[c.vl];omega)
 .exact h.mono
def MOk.step{w:WorldM}{n:Nat}(h:MOk w n)(hn:n<=1000000)(t:Tape):MOk (w.step t) (n+1):=by
 unfold WorldM.step;repeat' split
 .exact h.put (Z4v _ _)
 .exact h.link hn _
 .exact h.pin _
 .exact h.drop _
 .exact h.collect
 .have hl:=h.sl;have hl2:=h.wl;exact⟨h.W,h.hv,h.pl,h.L,λj hj=>by have:=h.N j hj;simp only[WorldM.dup]at *;omega,h.us,Zfg h.G (Z31 (h.wm hn) _),h.E,by simp only[WorldM.dup,LY,List.length_singleton];omega,by simp only[WorldM.dup];omega⟩
def pgOf(w:Work)(x:Int):Page:=w.heap.P.getD (ofA w.heap.C x).1.toNat X
structure Rt (w:Work):Prop where
 q:∀ x∈w.Q,((pgOf w x).K=1\/(pgOf w x).K=2)/\(pgOf w x).S=1-w.heap.S
 t:∀ x∈w.old,(Z08 (loadA w.heap.W x).1).2=Y->(Z08 (loadA w.heap.W x).1).1∈w.Q
def Z5E{a:Int}(h0:0<=a)(h1:a<4294967296):Z08 (4*a+2)=(a,Y):=by
 have e:(4*a+2)/4=a:=by omega
 rw[Z08,if_pos oq,e]
def Rt.copy{B:Int}{w:Work}(hw:WkOk w)(h:CIv w)(hT:Tab B w)(hR:Rt w){r n:Int}(hr:r∈w.old)(hq:r∉w.Q)(hn:n=hlA w.heap.W r+1)(hp:n<=w.heap.C.pw)(hc:(w.place n).2.2=Y):Rt ((w.place n).1.copy r (w.place n).2.1 n):=by
 have hlr:=Z0b w.heap.W r;obtain⟨i,p,t,h1,h2,h3,h4,h5,h6,h7,h8,e⟩:=Z4s hw ⟨by omega,hp⟩ hc;have hsp:p.S=1-w.heap.S:=by
  by_cases hf:Z2A w n
  .have e7:w.place n=(⟨⟨w.heap.C,w.heap.W,Z1C w.heap.P (Z0o w).toNat n,w.heap.S,w.heap.B⟩,w.old,w.T,w.Q,w.D,w.rep⟩,4096+Z0o w*w.heap.C.pw+(w.heap.P.getD (Z0o w).toNat X).U,Y):=by rw[Work.place,if_pos hf]
   unfold Z2A at hf;have hm:=hw.tk _ (Z18 hf.1);have ht:=hT.tk _ (Z18 hf.1);have hi:(Z0o w).toNat<w.heap.P.length:=by omega
   rw[e7]at e;simp only[Z3z,Work.mk.injEq,Heap.mk.injEq]at e;have e2:=e.1.2.2.1;have g1:(w.heap.P.set i p).getD i X=p:=by rw[Z0p h1,if_pos rfl]
   rw[<- e2,Z0p hi]at g1;split at g1
   .rw[<- g1];exact ht
   .rename_i hne;have g2:(w.heap.P.set i p).getD (Z0o w).toNat X=w.heap.P.getD (Z0o w).toNat X:=by rw[Z0p h1,if_neg (λq=>hne q.symm)]
    rw[<- e2,Z0p hi,if_pos rfl]at g2;have:=congrArg Page.U g2;simp only at this;omega
  .by_cases hg:0<=Z0g w
   .have e7:w.place n=(⟨⟨w.heap.C,w.heap.W,Z1C (Z1Z w) (Z0g w).toNat n,w.heap.S,w.heap.B⟩,w.old,w.T++[Z0g w],w.Q,w.D,w.rep⟩,4096+Z0g w*w.heap.C.pw,Y):=by rw[Work.place,if_neg hf,if_pos hg]
    obtain⟨g1,g2,g3⟩:=Z30 (h:=⟨w.heap.C,w.heap.W,w.heap.P,1-w.heap.S,w.heap.B⟩) (by have:=hw.sp;simp only;omega) hg n;have g1':Z1C (Z1Z w) (Z0g w).toNat n=w.heap.P.set (Z0g w).toNat ⟨1,1-w.heap.S,n,0⟩:=g1;have g2':(w.heap.P.getD (Z0g w).toNat X).K=0:=g2;have g3':(Z0g w).toNat<w.heap.P.length:=g3;rw[e7,g1']at e;simp only[Work.mk.injEq,Heap.mk.injEq]at e;have e2:=e.1.2.2.1;have k1:(w.heap.P.set i p).getD i X=p:=by rw[Z0p h1,if_pos rfl]
    rw[<- e2,Z0p g3']at k1;split at k1
    .rw[<- k1]
    .rename_i hne;have k2:(w.heap.P.set i p).getD (Z0g w).toNat X=w.heap.P.getD (Z0g w).toNat X:=by rw[Z0p h1,if_neg (λq=>hne q.symm)]
     rw[<- e2,Z0p g3',if_pos rfl]at k2;rw[<- k2]at g2';simp at g2'
   .rw[Work.place,if_neg hf,if_neg hg]at hc;simp at hc
 have hb:=validB_iff.1 hw.C;have hpl:=hw.pl;have hL:=h.L;have hio:(i:Int)*w.heap.C.pw+w.heap.C.pw<=w.heap.C.pw*w.heap.C.pg:=by
  have:=Z17 (i:=i) (j:=w.heap.C.pg) (pw:=w.heap.C.pw) oq oq;rw[LO w.heap.C.pw];exact this
 have hi0:0<=(i:Int)*w.heap.C.pw:=LS oq oq;have har:=area hw.C;rw[e,h8];generalize hu:occP (w.heap.P.getD i X)=u at *;have hof:(ofA w.heap.C (4096+(i:Int)*w.heap.C.pw+u)).1.toNat=i:=by
  have:=Z8L (c:=w.heap.C) (i:=i) (o:=u) hw.C oq oq;rw[show 4096+(i:Int)*w.heap.C.pw+u=4096+((i:Int)*w.heap.C.pw+u) by omega,this];simp
 generalize ha:4096+(i:Int)*w.heap.C.pw+u=at' at *;have hrr:=h.r r (Lg _ hr);have hf:=h.f i h1 (by rcases h2 with h2 | h2;exact O h2;exact La h2.1);rw[hu]at hf;obtain⟨m1,m2,m3⟩:=Z5x (ws:=w.heap.W) (a:=at') (b:=r) (n:=n) oq oq oq;have hsr:4096<=r/\r<4096+(moveA w.heap.W at' r n).1.length:=by omega
 refine⟨?_, ?_⟩
 .intro x hx;simp only[Work.copy,Ld,Lf]at hx;simp only[pgOf,Work.copy];rw[Z0p h1];split
  .exact⟨O h3,hsp⟩
  .rename_i hne;rcases hx with hx | rfl
   .exact hR.q x hx
   .exact absurd hof.symm hne
 .intro x hx ht;simp only[Work.copy]at hx ht ⊢;by_cases hxr:x=r
  .subst hxr;rw[Z1P hsr]at ht ⊢;simp only;rw[Z5E oq oq];simp
  .have hfx:=hf x (Lg _ hx);have hlx:=Z0b w.heap.W x;have el:loadA (Z0L (moveA w.heap.W at' r n).1 r (4*at'+2)).1 x=loadA w.heap.W x:=by rw[Z0v hsr hxr,m3 x oq]
   rw[el]at ht ⊢;exact Lg _ (hR.t x hx ht)
structure PR (B:Int) (w:Work):Prop where
 tab:Tab B w
 rt:Rt w
def ToOk(w:Work)(x:Int):Prop:=x=0\/x∈w.Q
def Zni{B:Int}(w:Work)(r:Int)(hp:PR B w)(e:(w.fwd r).2.2=0):ToOk (w.fwd r).1 (w.fwd r).2.1:=by
 unfold Work.fwd at e ⊢;split at e
 .rename_i c1;rw[if_pos c1];exact c1
 .rename_i c1;rw[if_neg c1];split at e
  .simp at e
  .rename_i c2;rw[if_neg c2];have c2':r∈w.old:=Ls.1 c2;split at e
   .rename_i c3;rw[if_pos c3];exact La (hp.rt.t r c2' c3)
   .rename_i c3;rw[if_neg c3];split at e
    .simp at e
    .rename_i c4;rw[if_neg c4];split at e
     .rename_i c5;rw[if_pos c5];exact La (Ly _ pq)
     .rename_i c5;rw[if_neg c5];split at e
      .rename_i c6;rw[if_pos c6];exact La (Ly _ pq)
      .rename_i c6;rw[if_neg c6];split at e
       .simp at e
       .rename_i c7;rw[if_neg c7];exact La (Ly _ pq)
def PR.fwd{B:Int}(hB:0<=B)(w:Work)(r:Int)(hw:WkOk w)(hi:CIv w)(h:PR B w)(e:(w.fwd r).2.2=0):PR B (w.fwd r).1:=by
 refine⟨h.tab.fwd hB w r hw hi e, ?_⟩;have hR:=h.rt;have hsp:=hw.sp;unfold Work.fwd at e ⊢;split at e
 .rename_i c1;rw[if_pos c1];exact hR
 .rename_i c1;rw[if_neg c1];have c1':r∉w.Q:=λh=>c1 (La h);split at e
  .simp at e
  .rename_i c2;rw[if_neg c2];have c2':r∈w.old:=Ls.1 c2;split at e
   .rename_i c3;rw[if_pos c3];exact hR
   .rename_i c3;rw[if_neg c3];split at e
    .simp at e
    .rename_i c4;rw[if_neg c4];have o:=Z2L hw.C (Ls.1 c4);have hpl:=hw.pl;split at e
     .rename_i c5;rw[if_pos c5];simp only[Z0M,decide_eq_true_eq]at c5;have ok:=h.tab.pt.b (ofA w.heap.C r).1.toNat oq
      have oks:=ok.s;refine⟨?_,λx hx ht=>Lg _ (hR.t x hx ht)⟩;intro x hx;simp only[Work.keep,Ld,Lf]at hx;rcases hx with hx | rfl
      .exact hR.q x hx
      .refine⟨O c5.2.2.1, ?_⟩;simp only[pgOf,Work.keep];omega
     .rename_i c5;rw[if_neg c5];split at e
      .rename_i c6;rw[if_pos c6];refine⟨?_,λx hx ht=>Lg _ (hR.t x hx ht)⟩;have hlr:(ofA w.heap.C r).1.toNat<w.heap.P.length:=by omega
       intro x hx;simp only[Work.keep,Ld,Lf]at hx;have hxl:(ofA w.heap.C x).1.toNat<w.heap.P.length:=by
        rcases hx with hx | rfl
        .by_cases q:(ofA w.heap.C x).1.toNat<w.heap.P.length
         .exact q
         .have:=(hR.q x hx).1;rw[pgOf,Le,Ln oq]at this;simp only[LM]at this;have d:(X:Page).K=0:=rfl;omega
        .exact hlr
       simp only[pgOf,Work.keep,Work.flip];rw[Z1u hxl];split
       .refine⟨?_,rfl⟩;rcases hx with hx | rfl
        .exact(hR.q x hx).1
        .exact La c6
       .rename_i hne;rcases hx with hx | rfl
        .exact hR.q x hx
        .exact absurd ⟨Li _,L6 _ _⟩ hne
      .rename_i c6;rw[if_neg c6];split at e
       .simp at e
       .rename_i c7;rw[if_neg c7];have c7':(w.place (sizeH (hdW w r))).2.2=Y:=by simpa using c7
        have hz:=hi.z r c2';have hp:sizeH (hdW w r)<=w.heap.C.pw:=by
         rw[Z1N];rcases hz with hz | hz
         .exact absurd hz c6
         .exact hz
        exact hR.copy hw hi h.tab c2' c1' (Z1N w r) hp c7'
def PR.in1{B:Int}(hB:0<=B)(w:Work)(q j:Int)(hw:WkOk w)(hi:CIv w)(h:PR B w)(hq:q∈w.Q)(h0:0<=j)(h1:j<hlA w.heap.W q)(e:(w.fwd (loadA w.heap.W (q+1+j)).1).2.2=0):PR B (w.in1 (q+1+j)):=by
 have hf:=PR.fwd hB w _ hw hi h e;obtain⟨i1,x1⟩:=Z4r hw hi _ e;have hq1:=x1.q q hq;have hl1:=x1.l q hq;have hr:=i1.r q (Ly _ hq1);have hs:=i1.s q (Ly _ hq1);have hin:4096<=q+1+j/\q+1+j<4096+(w.fwd (loadA w.heap.W (q+1+j)).1).1.heap.W.length:=by omega
 refine⟨hf.tab.withWords _,hf.rt.q,λx hx ht=>?_⟩;have el:loadA (Z0L (w.fwd (loadA w.heap.W (q+1+j)).1).1.heap.W (q+1+j) (w.fwd (loadA w.heap.W (q+1+j)).1).2.1).1 x=loadA (w.fwd (loadA w.heap.W (q+1+j)).1).1.heap.W x:=by
  refine Z0v hin λhc=>?_;have:=hs x (Lg _ hx) oq;omega
 simp only[Work.in1]at hx ht ⊢;rw[el]at ht ⊢;exact hf.rt.t x hx ht
def Z8n{h:Heap}(hp:Z02 h=Y):Rt (beginW h):=by
 refine⟨by simp[beginW],λx hx ht=>?_⟩;exfalso;simp only[beginW]at hx ht;obtain⟨j,j1,o⟩:=(Z93 hp).1 x hx;have e:=o.at';have k:=ZcH e;unfold atH at e;rw[if_pos k.1,if_pos k.2.1]at e;split at e
 .rename_i g;have hd:=g.2.2;unfold decodeH at hd;split at hd
  .rename_i c;have c1:=c.1;have c2:=c.2;unfold Z0d at c1 c2;split at c2
   .unfold Z08 at ht;split at ht
    .simp only at c2;omega
    .simp at ht
   .rename_i hv;rw[if_neg hv]at c1;simp at c1
  .simp at hd
 .simp at e
def Zis{B:Int}(hB:0<=B){h:Heap}{s:List Int}(hw:WOk h.W)(hp:Z02 h=Y)(hb:∀ p∈h.P,p.N<=B)(e:(rootsF (beginW h) s).2.2=0)(e2:(allF (rootsF (beginW h) s).1).2=0):PR B (cW2 h s) :=
 ZmS (PR B) (λw r hw hi h e=>PR.fwd hB w r hw hi h e) (λw q j hw hi h hq h0 h1 e=>PR.in1 hB w q j hw hi h hq h0 h1 e) (λw n h=>⟨⟨h.tab.pt,h.tab.tk,h.tab.pin⟩,h.rt.q,h.rt.t⟩) hw hp ⟨Z5h hp hb,Z8n hp⟩ e e2
def Z9H{B:Int}(hB:0<=B){w:Work}{roots:List Int}(hw:WkOk w)(h:CIv w)(hp:PR B w):∀ k,(∀ j,j<k->Z1k w roots j=0)->∀ x∈(rootsN w roots k).2,ToOk (rootsN w roots k).1 x
 | 0,_,x,hx=>by simp[rootsN]at hx
 | k+1,hh,x,hx=>by
  have ih:=Z9H hB (roots:=roots) hw h hp k (λj hj=>hh j oq);have ok:=(Z3F (roots:=roots) hw k (λj hj=>hh j oq)).1;have iv:=(Z5O (roots:=roots) hw h k (λj hj=>hh j oq)).1;have pr:=Zc3 (PR B) (λw r hw hi h e=>PR.fwd hB w r hw hi h e) (roots:=roots) hw h hp k (λj hj=>hh j oq);have he:=hh k oq;simp only[rootsN,Ld,Lf]at hx ⊢;rcases hx with hx | rfl
  .rcases ih x hx with q | q
   .exact O q
   .exact La ((Z4r ok iv _ he).2.q x q)
  .exact Zni _ _ pr he
def Z7T(w:WorldM)(t:Tape)(n:Nat)(hm:MOk w n)(hn:n<=1000000)(ht:TOk t)(ha:t.at'<=900000):LP 58 [w.av,.pt 0 0 0] [t.b] (w.step t).av [(w.stepT t).b] :=
 Zie w t n hm hn ht ha
structure TUp (n:Int) (t u:Tape):Prop where
 l:u.l=t.l
 lo:t.at'<=u.at'
 hi:u.at'<=t.at'+n
def TUp.step(t:Tape)(n:Int):TUp 1 t (t.step n):=by
 have:=Z4q (t:=t) n;exact⟨this.2.2,this.1,this.2.1⟩
def TUp.trans{m n:Int}{t u v:Tape}(h1:TUp m t u)(h2:TUp n u v):TUp (m+n) t v :=
 ⟨h2.l.trans h1.l,by have:=h1.lo;have:=h2.lo;omega,by have:=h1.hi;have:=h2.hi;omega⟩
def TUp.mono{m n:Int}{t u:Tape}(h:TUp m t u)(hmn:m<=n):TUp n t u:=⟨h.l,h.lo,by have:=h.hi;omega⟩
def Zhj(t:Tape)(c:Conf):TUp 10 t (t.headerT c):=by
 have h1:TUp 4 t (Z3K t c):=by
  unfold Z3K;split
  .exact(((TUp.step t _).trans (TUp.step _ 12)).trans (TUp.step _ _)).mono dd
  .exact((TUp.step t _).trans (TUp.step _ 12)).mono dd
 unfold Tape.headerT;repeat' split
 .exact(h1.trans (TUp.step _ 4)).mono dd
 .exact(h1.trans (TUp.step _ 4)).mono dd
 .exact((h1.trans (TUp.step _ 4)).trans (TUp.step _ _)).mono dd
def ZlE(w:WorldM)(t:Tape):TUp 10 t (w.linkT t):=by
 have h1:TUp 1 t (w.pickT t):=TUp.step _ _;have h2:TUp 1 (w.pickT t) (w.pickT (w.pickT t)):=TUp.step _ _;unfold WorldM.linkT;split
 .exact((((h1.trans h2).trans (TUp.step _ 8))).trans (TUp.step _ _)).mono dd
 .exact((h1.trans h2).trans (TUp.step _ 8)).mono dd
def ZlD(w:WorldM)(t:Tape):(w.stepT t).l=t.l/\t.at'+1<=(w.stepT t).at'/\(w.stepT t).at'<=t.at'+20:=by
 have h0:(t.step 12).at'=t.at'+1/\(t.step 12).l=t.l:=by simp[Tape.step]
 have key:TUp 10 (t.step 12) (w.stepT t):=by
  unfold WorldM.stepT;repeat' split
  .exact Zhj _ _
  .exact ZlE _ _
  .unfold WorldM.pinT;split
   .exact((TUp.step _ _).trans (TUp.step _ 2)).mono dd
   .exact(TUp.step _ _).mono dd
  .unfold WorldM.dropT;split
   .exact((TUp.step _ _).trans (TUp.step _ 3)).mono dd
   .exact⟨rfl,by omega,by omega⟩
  .exact⟨rfl,by omega,by omega⟩
  .exact(TUp.step _ _).mono dd
 have a:=key.l;have b:=key.lo;have c:=key.hi;exact⟨a.trans h0.2,by omega,by omega⟩
def mkS(w:WorldM)(t:Tape):Nat->WorldM×Tape
 | 0=>(w,t)
 | k+1=>((mkS w t k).1.step (mkS w t k).2,(mkS w t k).1.stepT (mkS w t k).2)
def mkB(w:WorldM)(t:Tape)(k:Nat):Bool:=Lb (((mkS w t k).2.l.length:Int)<=(mkS w t k).2.at')
def mkN(w:WorldM)(t:Tape):Nat:=((Lq (2+t.l.length)).find? (mkB w t)).getD 0
def Zfa(w:WorldM)(t:Tape):WorldM:=(mkS w t (mkN w t)).1
def Zg2(w:WorldM)(t:Tape):∀ k:Nat,(mkS w t k).2.l=t.l/\t.at'+k<=(mkS w t k).2.at'/\(mkS w t k).2.at'<=t.at'+20*k
 | 0=>by simp[mkS]
 | k+1=>by
  have ih:=Zg2 w t k;have:=ZlD (mkS w t k).1 (mkS w t k).2;refine⟨this.1.trans ih.1, ?_, ?_⟩
  .simp only[mkS];omega
  .simp only[mkS];omega
def ZaN{w:WorldM}{n:Nat}(h:MOk w n)(t:Tape):∀ k,n+k<=1000000->MOk (mkS w t k).1 (n+k)
 | 0,_=>h
 | k+1,hk=>(ZaN h t k oq).step oq _
def ZcU(w:WorldM)(t:Tape)(ht:0<=t.at'):mkB w t (mkN w t)=Y/\(∀ j,j<mkN w t->mkB w t j=M)/\mkN w t<=t.l.length+1:=by
 cases hb:(Lq (2+t.l.length)).find? (mkB w t)with
 | none =>
  exfalso;have:=Ll.1 hb t.l.length (Lk.2 oq);have u:=Zg2 w t t.l.length;simp only[mkB,decide_eq_true_eq,u.1]at this;omega
 | some k =>
  obtain⟨h1,h2,h3⟩:=Lx.1 hb;have h2:=Lk.1 h2;have e:mkN w t=k:=by rw[mkN,hb];rfl
  rw[e];exact⟨h1,λj hj=>by simpa using h3 j hj,by omega⟩
def mkLA(w:WorldM)(t:Tape):Tg:=⟨tm 22 [(2,.pt 8002 0 0),(3,.pt 32012 0 0),(4,.pt 40004 0 0)],[(40004,.box 30 w.cells),(32012,t.b),(8002,.box 30 [int 0,int 0,.d (.sl 0 []),.d (.sl 0 []),int 0,int 0,.d (.sl 0 []),.d (.sl 0 [])])],60⟩
def Zl8(w:WorldM)(t:Tape)(n:Nat)(hm:MOk w n)(hn:n<=1000000)(ht:TOk t)(ha:t.at'<=900000)(hd:t.at'<t.l.length):CP (rndF f15 0) (mkLA w t).st .nrm (mkLA (w.step t) (w.stepT t)).st:=by
 exact sF [] [] (Fbq 16 [32012] (@Z8d t aa) (Ftb 17 (!decide ((t.l.length:Int)<=t.at')) (Fbr 20 [32012] (@Z7T w t n aa aa aa aa) Fz)))
def Zqr(w:WorldM)(t:Tape)(ht:TOk t)(hd:¬ t.at'<t.l.length):CP (rndF f15 0) (mkLA w t).st (.ext 0) (Tg.st ⟨tm 22 [(2,.pt 8002 0 0),(4,.pt 40004 0 0)],[(40004,.box 30 w.cells),(8002,.box 30 [int 0,int 0,.d (.sl 0 []),.d (.sl 0 []),int 0,int 0,.d (.sl 0 []),.d (.sl 0 [])])],60⟩):=by
 exact sF [] [] (Fbq 16 [32012] (@Z8d t aa) (Ffb 17 (!decide ((t.l.length:Int)<=t.at')) Fz))
def Zoq(w:WorldM)(t:Tape)(hm:MOk w 0)(hl:t.l.length<=300)(h0:0<=t.at')(h1:t.at'<=1000):CP (blkF f15 0) (Tg.st ⟨tm 22 [(2,.pt 8002 0 0),(3,.pt 32012 0 0),(4,.pt 40004 0 0)],[(40004,.box 30 w.cells),(32012,t.b),(8002,.box 30 [int 0,int 0,.d (.sl 0 []),.d (.sl 0 []),int 0,int 0,.d (.sl 0 []),.d (.sl 0 [])])],60⟩) .nrm (Tg.st ⟨tm 22 [(2,.pt 8002 0 0),(4,.pt 40004 0 0)],[(40004,.box 30 (Zfa w t).cells),(8002,.box 30 [int 0,int 0,.d (.sl 0 []),.d (.sl 0 []),int 0,int 0,.d (.sl 0 []),.d (.sl 0 [])])],60⟩):=by
 have hk:=ZcU w t h0;have tok:∀ k,k<=mkN w t->TOk (mkS w t k).2/\(mkS w t k).2.at'<=900000:=λk hk'=>by
  have u:=Zg2 w t k;refine⟨?_,by omega⟩;unfold TOk;rw[u.1];omega
 refine Z0a (S:=λk=>(mkLA (mkS w t k).1 (mkS w t k).2).st) (mkN w t) kr (λk hk'=>?_) ?_
 .have hs:=hk.2.1 k hk';simp only[mkB,decide_eq_false_iff_not]at hs;have m:=ZaN hm t k oq;exact Zl8 _ _ (0+k) m oq (tok k oq).1 (tok k oq).2 oq
 .have hs:=hk.1;simp only[mkB,decide_eq_true_eq]at hs;exact Zqr _ _ (tok _ (Li _)).1 oq
def mkLB(w:WorldM)(t:Tape):Tg:=⟨tm 22 [(2,.pt 8002 0 0),(3,.pt 24012 0 0),(4,.pt 32004 0 0)],[(32004,.box 30 w.cells),(24012,t.b),(8002,.box 30 [int 0,int 0,.d (.sl 0 []),.d (.sl 0 []),int 0,int 0,.d (.sl 0 []),.d (.sl 0 [])])],60⟩
def ZlY(w:WorldM)(t:Tape)(n:Nat)(hm:MOk w n)(hn:n<=1000000)(ht:TOk t)(ha:t.at'<=900000)(hd:t.at'<t.l.length):CP (rndF f15 0) (mkLB w t).st .nrm (mkLB (w.step t) (w.stepT t)).st:=by
 exact sF [] [] (Fbq 16 [24012] (@Z8d t aa) (Ftb 17 (!decide ((t.l.length:Int)<=t.at')) (Fbr 20 [24012] (@Z7T w t n aa aa aa aa) Fz)))
def Zpk(w:WorldM)(t:Tape)(ht:TOk t)(hd:¬ t.at'<t.l.length):CP (rndF f15 0) (mkLB w t).st (.ext 0) (Tg.st ⟨tm 22 [(2,.pt 8002 0 0),(4,.pt 32004 0 0)],[(32004,.box 30 w.cells),(8002,.box 30 [int 0,int 0,.d (.sl 0 []),.d (.sl 0 []),int 0,int 0,.d (.sl 0 []),.d (.sl 0 [])])],60⟩):=by
 exact sF [] [] (Fbq 16 [24012] (@Z8d t aa) (Ffb 17 (!decide ((t.l.length:Int)<=t.at')) Fz))
def Zod(w:WorldM)(t:Tape)(hm:MOk w 0)(hl:t.l.length<=300)(h0:0<=t.at')(h1:t.at'<=1000):CP (blkF f15 0) (Tg.st ⟨tm 22 [(2,.pt 8002 0 0),(3,.pt 24012 0 0),(4,.pt 32004 0 0)],[(32004,.box 30 w.cells),(24012,t.b),(8002,.box 30 [int 0,int 0,.d (.sl 0 []),.d (.sl 0 []),int 0,int 0,.d (.sl 0 []),.d (.sl 0 [])])],60⟩) .nrm (Tg.st ⟨tm 22 [(2,.pt 8002 0 0),(4,.pt 32004 0 0)],[(32004,.box 30 (Zfa w t).cells),(8002,.box 30 [int 0,int 0,.d (.sl 0 []),.d (.sl 0 []),int 0,int 0,.d (.sl 0 []),.d (.sl 0 [])])],60⟩):=by
 have hk:=ZcU w t h0;have tok:∀ k,k<=mkN w t->TOk (mkS w t k).2/\(mkS w t k).2.at'<=900000:=λk hk'=>by
  have u:=Zg2 w t k;refine⟨?_,by omega⟩;unfold TOk;rw[u.1];omega
 refine Z0a (S:=λk=>(mkLB (mkS w t k).1 (mkS w t k).2).st) (mkN w t) kr (λk hk'=>?_) ?_
 .have hs:=hk.2.1 k hk';simp only[mkB,decide_eq_false_iff_not]at hs;have m:=ZaN hm t k oq;exact ZlY _ _ (0+k) m oq (tok k oq).1 (tok k oq).2 oq
 .have hs:=hk.1;simp only[mkB,decide_eq_true_eq]at hs;exact Zpk _ _ (tok _ (Li _)).1 oq
def Z36(l:List Int):Tape:=⟨l.take 300,0⟩
def Z0e(l:List Int):WorldM:=Zfa (Z36 l).empty (((Z36 l).step 4).step 5)
def Z8p(t:Tape):MOk t.empty 0:=by
 have hv:=Z39 t;have hb:=validB_iff.1 hv;refine⟨?_,hv, ?_, ?_, ?_, ?_, ?_, ?_,by simp[Tape.empty],by simp[Tape.empty]⟩
 .intro x hx;simp only[Tape.empty,Z3f,L4]at hx;omega
 .simp only[Tape.empty,Z3f,Lm];omega
 .have:=area hv;simp only[Tape.empty,Z3f,Lm];omega
 .intro j hj;simp only[Tape.empty,Z3f,Lm]at hj ⊢;have:(Lc t.C.pg.toNat (⟨0,0,0,0⟩:Page)).getD j X=⟨0,0,0,0⟩:=by simp[Le,hj]
  rw[this];simp
 .intro j hj;simp only[Tape.empty,Z3f,Lm]at hj ⊢;have:(Lc t.C.pg.toNat (⟨0,0,0,0⟩:Page)).getD j X=⟨0,0,0,0⟩:=by simp[Le,hj]
  rw[this];simp
 .intro x hx;simp[Tape.empty]at hx
 .intro x hx;simp[Tape.empty]at hx
def Z5P(l:List Int):(((Z36 l).step 4).step 5).l=l.take 300/\(((Z36 l).step 4).step 5).at'=2:=by simp[Z36,Tape.step]
def ZfT(l:List Int):MOk (Z0e l) 1000:=by
 have e:=Z5P l;have hl:(((Z36 l).step 4).step 5).l.length<=300:=by rw[e.1];simp;omega
 have hk:=ZcU (Z36 l).empty (((Z36 l).step 4).step 5) oq;have m:=ZaN (Z8p (Z36 l)) (((Z36 l).step 4).step 5) (mkN (Z36 l).empty (((Z36 l).step 4).step 5)) oq;have h2:∀ (w:WorldM) (a b:Nat),MOk w a->a<=b->MOk w b:=λw a b h hab =>
  ⟨h.W,h.hv,h.pl,h.L,λj hj=>by have:=h.N j hj;omega,h.us,h.G,h.E,by have:=h.sl;omega,by have:=h.wl;omega⟩
 exact h2 _ _ _ m oq
def Zck(l:List Int)(hl:l.length<=140737488355328):GP 15 [Z0r l] M (Z0e l).av []:=by
 have e:=Z5P l;have he:=Z8p (Z36 l);have h1:(((Z36 l).step 4).step 5).l.length<=300:=by rw[e.1];simp;omega
 have h2:=e.2;by_cases h:300<l.length
 .have ht:TOk ⟨Lr (Lo 300) l,0⟩:=by simp[TOk];omega
  have e9:Z36 l=⟨Lr (Lo 300) l,0⟩:=rfl;unfold Z0e;rw[e9]at he h1 h2 ⊢;exact gF [] func15 [] (Fh 9 [.els (Z idv (Lr (Lo 300) l))] (Fl 6 idv l (Ftb 7 (Lb (300<(l.length:Int))) (Fa (by(simp only[Lp];omega):(0:Int)<=(300:Int)/\300<=(↑(Z idv l).length:Int)) (Fa (ms:Lr (Lo 300) (Z idv l)=Z idv (Lr (Lo 300) l)) (Fbr 14 [32012] (@Zcu (Tape.mk (Lr (Lo 300) l) 0) aa (by(simp only[bs];omega))) (Fu (@Zoq ((Tape.mk (Lr (Lo 300) l) 0).empty) (((Tape.mk (Lr (Lo 300) l) 0).step 4).step 5) aa aa oq oq) Fz)))))))
 .have ht:TOk ⟨l,0⟩:=by simp[TOk];omega
  have e9:Z36 l=⟨l,0⟩:=by rw[Z36,List.take_of_length_le oq]
  unfold Z0e;rw[e9]at he h1 h2 ⊢;exact gF [] func15 [] (Fl 6 idv l (Ffb 7 (Lb (300<(l.length:Int))) (Fbr 14 [24012] (@Zcu (Tape.mk l 0) aa (by(simp only[bs];omega))) (Fu (@Zod ((Tape.mk l 0).empty) (((Tape.mk l 0).step 4).step 5) aa aa oq oq) Fz))))
def RootOn(h:Heap)(r:Int):Prop:=(ofA h.C r).2.2=0->(h.P.getD (ofA h.C r).1.toNat X).K=1\/(h.P.getD (ofA h.C r).1.toNat X).K=2
structure POk (w:WorldM):Prop where
 p:Z02 w.heap=Y
 s:∀ r∈w.G,RootOn w.heap r
 k:∀ r∈w.E,RootOn w.heap r
def ZoH(h:Heap):RootOn h 0:=by
 intro e;exfalso;unfold ofA at e;split at e
 .split at e
  .omega
  .simp at e
 .simp at e
def Zet{h:Heap}{n:Int}(hp:Z02 h=Y)(hn:1<=n/\n<=h.C.pw)(e:(Z0j h n).2.2=Y):(∀ j:Nat,(h.P.getD j X).K≠0->((Z0j h n).1.P.getD j X).K=(h.P.getD j X).K)/\RootOn (Z0j h n).1 (Z0j h n).2.1:=by
 have hp':=hp;rw[Z1t]at hp;obtain⟨p1,p2,p3,p4,p5,p6⟩:=hp;have hb:=validB_iff.1 p1;by_cases hf:Z6S h n
 .have e7:Z0j h n=(⟨h.C,h.W,Z1C h.P h.B.toNat n,h.S,h.B⟩,4096+h.B*h.C.pw+(h.P.getD h.B.toNat X).U,Y):=by rw[Z0j,if_pos hf]
  unfold Z6S at hf;have hbi:h.B.toNat<h.P.length:=by omega
  have hk:(h.P.getD h.B.toNat X).K=1:=by omega
  have u:=(p6.b h.B.toNat hbi).k1 hk;rw[e7];refine⟨λj hj=>?_,λ_=>?_⟩
  .simp only[Z3z];rw[Z0p hbi];split
   .rename_i q;subst q;rfl
   .rfl
  .have:=Z8L (c:=h.C) (i:=h.B) (o:=(h.P.getD h.B.toNat X).U) p1 oq oq;simp only[Z3z];rw[show 4096+h.B*h.C.pw+(h.P.getD h.B.toNat X).U=4096+(h.B*h.C.pw+(h.P.getD h.B.toNat X).U) by omega,this];simp only;rw[Z0p hbi,if_pos rfl];exact O hk
 .by_cases hg:0<=first h.P 1/\(Z1w h.P:Int)<Z2r h.C
  .have e7:Z0j h n=(⟨h.C,h.W,Z1C (Z3i h) (first h.P 1).toNat n,h.S,first h.P 1⟩,4096+first h.P 1*h.C.pw+((Z3i h).getD (first h.P 1).toNat X).U,Y):=by rw[Z0j,if_neg hf,if_pos hg]
   obtain⟨g1,g2,g3⟩:=Z30 p4 hg.1 n;have g4:=congrArg Page.U (Z2s p4 hg.1).2.2.2;simp only at g4;rw[e7,g1,g4];refine⟨λj hj=>?_,λ_=>?_⟩
   .simp only;rw[Z0p g3];split
    .rename_i q;subst q;exact absurd g2 hj
    .rfl
   .have:=Z8L (c:=h.C) (i:=first h.P 1) (o:=0) p1 oq oq;simp only;rw[show 4096+first h.P 1*h.C.pw+0=4096+(first h.P 1*h.C.pw+0) by omega,this];simp only;rw[Z0p g3,if_pos rfl];exact O rfl
  .rw[Z0j,if_neg hf,if_neg hg]at e;simp at e
def Zel{h:Heap}{n:Int}(hp:Z02 h=Y)(hk:1<=need h.C n)(e:(Z0A h n (need h.C n)).2.2=Y):(∀ j:Nat,(h.P.getD j X).K≠0->((Z0A h n (need h.C n)).1.P.getD j X).K=(h.P.getD j X).K)/\RootOn (Z0A h n (need h.C n)).1 (Z0A h n (need h.C n)).2.1:=by
 have hp':=hp;rw[Z1t]at hp;obtain⟨p1,p2,p3,p4,p5,p6⟩:=hp;have hb:=validB_iff.1 p1;by_cases hg:0<=first h.P (need h.C n)/\Z1w h.P+need h.C n<=Z2r h.C
 .obtain⟨g1,g2,g3⟩:=Z1m hg.1;have el:(Z2y h.C h.P (first h.P (need h.C n)) h.S n).1=tookP h.P (first h.P (need h.C n)).toNat (need h.C n).toNat ⟨2,h.S,n,0⟩ ⟨3,h.S,0,0⟩:=by
   rw[Z2y,if_pos ⟨hk,by omega⟩,Z33,if_pos oq,if_pos g3]
  have e7:Z0A h n (need h.C n)=(⟨h.C,h.W,tookP h.P (first h.P (need h.C n)).toNat (need h.C n).toNat ⟨2,h.S,n,0⟩ ⟨3,h.S,0,0⟩,h.S,h.B⟩,4096+first h.P (need h.C n)*h.C.pw,Y):=by rw[Z0A,if_pos hg,el]
  have hf:∀ j,j<(need h.C n).toNat->(h.P.getD ((first h.P (need h.C n)).toNat+j) X).K=0:=freeK_iff.1 g3;have hgt:=Z7j (l:=h.P) (i:=(first h.P (need h.C n)).toNat) (k:=(need h.C n).toNat) (p:=⟨2,h.S,n,0⟩) (q:=⟨3,h.S,0,0⟩) oq oq;rw[e7];refine⟨λj hj=>?_,λ_=>?_⟩
  .simp only;have hne:¬ ((first h.P (need h.C n)).toNat<=j/\j<(first h.P (need h.C n)).toNat+(need h.C n).toNat):=λhc=>by
    have:=hf (j-(first h.P (need h.C n)).toNat) oq;rw[show(first h.P (need h.C n)).toNat+(j-(first h.P (need h.C n)).toNat)=j by omega]at this;exact hj this
   rw[hgt,if_neg oq,if_neg oq]
  .have:=Z8L (c:=h.C) (i:=first h.P (need h.C n)) (o:=0) p1 oq oq;simp only;rw[show 4096+first h.P (need h.C n)*h.C.pw=4096+(first h.P (need h.C n)*h.C.pw+0) by omega,this];simp only;rw[hgt,if_pos rfl];exact La rfl
 .rw[Z0A,if_neg hg]at e;simp at e
def RootOn.mono{h h':Heap}{r:Int}(hr:RootOn h r)(hc:h'.C=h.C)(hk:∀ j:Nat,(h.P.getD j X).K≠0->(h'.P.getD j X).K=(h.P.getD j X).K):RootOn h' r:=by
 intro e;rw[hc]at e ⊢;have q:=hr e;rw[hk _ oq];exact q
def Zhh{c:Conf}{hd:Header}(ha:Z3p c hd=Y)(hv:Z07 c=Y)(hn:¬ 0<need c (sizeH hd)):sizeH hd<=c.pw:=by
 obtain⟨a1,a2,a3,a4,a5⟩:=Z5X ha;have hb:=validB_iff.1 hv;unfold need at hn a4;split at a4
 .rename_i hc;rw[if_pos hc]at hn;split at a4
  .omega
  .rename_i hd';rw[if_neg hd']at hn;have e:=LQ (sizeH hd+c.pw-1) c.pw;have hz:(sizeH hd+c.pw-1)/c.pw=0:=by omega
   rw[hz]at e;have:=Lw (sizeH hd+c.pw-1) (b:=c.pw) oq;omega
 .omega
def POk.put{w:WorldM}(h:POk w)(hw:WOk w.heap.W){hd:Header}(hm:0<=hd.map/\hd.map<=4294967295):POk (w.put hd):=by
 unfold WorldM.put;split
 .rename_i e;obtain⟨k1,k2,k3,k4,k5,k6,k7,k8⟩:=ZbZ hw hm e;have hv:=(Z06 k1).1;obtain⟨a1,a2,a3,a4,a5⟩:=Z5X k2;have kk:(∀ j:Nat,(w.heap.P.getD j X).K≠0->((put7 w.heap hd).1.P.getD j X).K=(w.heap.P.getD j X).K)/\RootOn (put7 w.heap hd).1 (put7 w.heap hd).2.1:=by
   by_cases hn:0<need w.heap.C (sizeH hd)
   .have e7:put7 w.heap hd=Z0A w.heap (sizeH hd) (need w.heap.C (sizeH hd)):=by rw[put7,if_pos hn]
    rw[e7]at k4 ⊢;exact Zel k1 oq k4
   .have e7:put7 w.heap hd=Z0j w.heap (sizeH hd):=by rw[put7,if_neg hn]
    rw[e7]at k4 ⊢;exact Zet k1 ⟨a2,Zhh k2 hv hn⟩ k4
  have hc:(new7 w.heap hd).1.C=w.heap.C:=by rw[k6];exact k3.c
  have hk:∀ j:Nat,(w.heap.P.getD j X).K≠0->((new7 w.heap hd).1.P.getD j X).K=(w.heap.P.getD j X).K:=by rw[k6];exact kk.1
  refine⟨k7,λr hr=>?_,λr hr=>(h.k r hr).mono hc hk⟩;rcases Ld.1 hr with hr | hr
  .exact(h.s r hr).mono hc hk
  .simp only[Lf]at hr;subst hr;rw[k5,k6];exact kk.2
 .exact h
def POk.link{w:WorldM}{n:Nat}(h:POk w)(hm:MOk w n)(hn:n<=1000000)(t:Tape):POk (w.link t):=by
 unfold WorldM.link;split
 .rename_i hc;have hw:=hm.wm hn;have g:=Z45 hc.1;have n1:=Z0T (w.pickT (w.pickT t)) (n:=8) dd;have hi:0<=Z4m w t/\Z4m w t<(getH w.heap (w.pick t)).1.length:=by
   unfold Z4m;rw[LF n1.1];exact⟨LD _ oq,Lw _ oq⟩
  have hv:0<=Z4t w t/\Z4t w t<=18446744073709551615:=by
   unfold Z4t;split
   .exact Z31 hw _
   .have:=Z0T ((w.pickT (w.pickT t)).step 8) (n:=1048576) dd;omega
  obtain⟨s1,s2,s3⟩:=Z4V hm.W hv hc.1 hi;refine⟨s2,λr hr=>?_,λr hr=>?_⟩
  .simp only;rw[s1];exact h.s r hr
  .simp only;rw[s1];exact h.k r hr
 .exact h
def PT.setPins{c:Conf}{l:List Page}(h:PT c l){i:Nat}(hi:i<l.length)(hk:(l.getD i X).K=1\/(l.getD i X).K=2){n:Int}(hn:0<=n/\n<=2147483647):PT c (l.set i ⟨(l.getD i X).K,(l.getD i X).S,(l.getD i X).U,n⟩):=by
 have e:∀ j,((l.set i ⟨(l.getD i X).K,(l.getD i X).S,(l.getD i X).U,n⟩).getD j X).K=(l.getD j X).K/\((l.set i ⟨(l.getD i X).K,(l.getD i X).S,(l.getD i X).U,n⟩).getD j X).S=(l.getD j X).S/\((l.set i ⟨(l.getD i X).K,(l.getD i X).S,(l.getD i X).U,n⟩).getD j X).U=(l.getD j X).U:=by
  intro j;rw[Z0p hi];split
  .rename_i q;subst q;exact⟨rfl,rfl,rfl⟩
  .exact⟨rfl,rfl,rfl⟩
 refine⟨?_, ?_, ?_⟩
 .intro j hj;rw[Lj]at hj;rw[Z0p hi];split
  .have b:=h.b i hi;exact⟨b.s,hn,b.k,λq=>by simp only at q;omega,b.k1,λq=>by simp only at q;omega⟩
  .exact h.b j hj
 .intro j hj hk2;rw[Lj]at hj;rw[(e j).1]at hk2;rw[(e j).2.2,(e j).2.1];have q:=h.lg j hj hk2;refine⟨q.1,λm h1 h2=>?_⟩;rw[Lj,(e _).1,(e _).2.1];exact q.2 m h1 h2
 .intro j hj hk3;rw[Lj]at hj;rw[(e j).1]at hk3;obtain⟨a,a1,a2,a3⟩:=h.tl j hj hk3;exact⟨a,a1,by rw[(e a).1];exact a2,by rw[(e a).2.2];exact a3⟩
def Zgl{w:WorldM}{n:Nat}(h:POk w)(hm:MOk w n)(hn:n<=1000000){i:Nat}(hi:i<w.heap.P.length)(hk:(w.heap.P.getD i X).K=1\/(w.heap.P.getD i X).K=2){d:Int}(hd:d=1\/(d=-1/\0<(w.heap.P.getD i X).N)):POk (pinB w i d):=by
 have hp:=hm.N i hi;have kk:∀ j:Nat,((pinB w i d).heap.P.getD j X).K=(w.heap.P.getD j X).K:=by
  intro j;simp only[pinB];rw[Z0p hi];split
  .rename_i q;subst q;rfl
  .rfl
 have pr:=h.p;rw[Z1t]at pr;obtain⟨p1,p2,p3,p4,p5,p6⟩:=pr;refine⟨?_,λr hr=>(h.s r hr).mono rfl (λj _=>kk j),λr hr=>(h.k r hr).mono rfl (λj _=>kk j)⟩;rw[Z1t];refine⟨p1,p2,by simp only[pinB,Lj];exact p3,p4, ?_,p6.setPins hi hk oq⟩;rcases p5 with p5 | p5
 .exact O p5
 .refine La ⟨p5.1,by simp only[pinB,Lj];exact p5.2.1, ?_⟩;rw[show(pinB w i d).heap.B=w.heap.B from rfl,kk];exact p5.2.2
def ZfQ(w:WorldM)(t:Tape):w.pick t=0\/w.pick t∈w.G\/w.pick t∈w.E:=by
 have hn:=Z0T t (n:=(w.refs.length:Int)) (by simp[WorldM.refs];omega);have:w.pick t∈w.refs:=getD_mem_iff.2 ⟨_,by omega,rfl⟩;simpa[WorldM.refs]using this
def POk.pick{w:WorldM}(h:POk w)(t:Tape):RootOn w.heap (w.pick t):=by
 rcases ZfQ w t with e | e | e
 .rw[e];exact ZoH _
 .exact h.s _ e
 .exact h.k _ e
def POk.pin{w:WorldM}{n:Nat}(h:POk w)(hm:MOk w n)(hn:n<=1000000)(t:Tape):POk (w.pin t):=by
 unfold WorldM.pin;split
 .rename_i e;have o:=Z2L hm.hv e;have hpl:=hm.pl;have hi:pinI w t<w.heap.P.length:=by unfold pinI;omega
  have hk:=h.pick t e;split
  .rename_i hc;exact Zgl h hm hn hi hk (La ⟨rfl,hc.1⟩)
  .split
   .exact Zgl h hm hn hi hk (O rfl)
   .exact h
 .exact h
def POk.drop{w:WorldM}(h:POk w)(t:Tape):POk (w.drop t):=by
 unfold WorldM.drop;split
 .rename_i hl;have n1:=Z0T t (n:=(w.G.length:Int)) oq;refine⟨h.p,λr hr=>?_,λr hr=>?_⟩
  .rcases Ld.1 hr with hr | hr
   .exact h.s r (LC hr)
   .exact h.s r (LB hr)
  .simp only at hr;split at hr
   .rcases Ld.1 hr with hr | hr
    .exact h.k r hr
    .simp only[Lf]at hr;subst hr;refine h.s _ (getD_mem_iff.2 ⟨_, ?_,rfl⟩);unfold ZiM;omega
   .exact h.k r hr
 .exact h
def POk.collect{w:WorldM}{n:Nat}(h:POk w)(hm:MOk w n):POk w.collect:=by
 unfold WorldM.collect;split
 .rename_i e;have c:=Z7s (B:=n) oq hm.W (λp hp=>(hm.pin_mem p hp).2) e;have hp:=h.p;by_cases hr:Z0k w.heap w.G=Y/\Z0k w.heap w.E=Y
  .by_cases e1:(rootsF (beginW w.heap) w.G).2.2=0
   .by_cases e2:(allF (rootsF (beginW w.heap) w.G).1).2=0
    .have e7:collectF w.heap w.G w.E=(endH (cW5 w.heap w.G w.E),(rootsF (beginW w.heap) w.G).2.1,Z3Q (cW2 w.heap w.G) w.E w.E.length,(cW5 w.heap w.G w.E).rep,0):=by rw[collectF,if_pos hp,if_pos hr,if_pos e1,if_pos e2]
     have hb:=Z38 hm.W hp;have hi:=Z34 hp;have pr0:PR n (beginW w.heap):=⟨Z5h hp (λp hp=>(hm.pin_mem p hp).2),Z8n hp⟩
     have pr:=Zis (B:=n) oq hm.W hp (λp hp=>(hm.pin_mem p hp).2) e1 e2;have ck:=cOk w.heap w.G w.E hm.W hp e1 e2;obtain⟨g1,g2,g3,g4,g5⟩:=ck.h4;have hc2:(cW2 w.heap w.G).heap.C=w.heap.C:=ck.x2.c;have hsp:=ck.w2.sp;have seen:∀ x,ToOk (cW2 w.heap w.G) x->RootOn (endH (cW5 w.heap w.G w.E)) x:=by
      intro x hx;rcases hx with rfl | hx
      .exact ZoH _
      .intro he;have q:=pr.rt.q x hx;unfold pgOf at q;simp only[endH,cW5,Z1o,g1,g2,g3]at he ⊢;rw[hc2]at q;have hlt:(ofA w.heap.C x).1.toNat<(cW2 w.heap w.G).heap.P.length:=by
        by_cases hq:(ofA w.heap.C x).1.toNat<(cW2 w.heap w.G).heap.P.length
        .exact hq
        .have q1:=q.1;rw[Le,Ln oq]at q1;simp only[LM]at q1;have d:(X:Page).K=0:=rfl;omega
       have ef:(Z (Z1f (cW2 w.heap w.G).heap.S) (cW2 w.heap w.G).heap.P).getD (ofA w.heap.C x).1.toNat X=Z1f (cW2 w.heap w.G).heap.S ((cW2 w.heap w.G).heap.P.getD (ofA w.heap.C x).1.toNat X):=by simp[Le,hlt]
       rw[ef,Z1f,if_neg (by unfold Z2m;omega)];exact q.1
     have hall:=Z3J (roots:=w.G) hb hi e1;have ax:=Zbq hall.1 hall.2.1 e2;have r1:∀ x∈(rootsF (beginW w.heap) w.G).2.1,ToOk (cW2 w.heap w.G) x:=by
      intro x hx;have:ToOk (rootsF (beginW w.heap) w.G).1 x:=by
       unfold rootsF at e1 hx ⊢;cases hbb:(Lq w.G.length).find? (λk=>Lb (Z1k (beginW w.heap) w.G k≠0))with
       | none =>
        rw[hbb]at hx;have h0:∀ j,j<w.G.length->Z1k (beginW w.heap) w.G j=0:=λj hj=>by
         have:=Ll.1 hbb j (Lk.2 hj);simpa using this
        exact Z9H (B:=n) oq hb hi pr0 w.G.length h0 x hx
       | some k =>
        rw[hbb]at e1;simp only at e1;have:=(Lx.1 hbb).1;simp[e1]at this
      rcases this with q | q
      .exact O q
      .exact La (ax.2.q x q)
     have r2:∀ i,i<=w.E.length->∀ x∈Z3Q (cW2 w.heap w.G) w.E i,ToOk (cW2 w.heap w.G) x:=by
      intro i;induction i with
      | zero=>intro _ x hx;simp[Z3Q]at hx
      | succ i ih =>
       intro hi' x hx;simp only[Z3Q,Ld,Lf]at hx;rcases hx with hx | rfl
       .exact ih oq x hx
       .have hs:=Z4U (cW2 w.heap w.G) w.E i;unfold Z72;split
        .exact O rfl
        .rename_i hne;unfold Z1D;rw[hs.2.2.2.1,hs.1];split
         .rename_i hq;exact La hq
         .cases ht:(Z08 (loadA (cW2 w.heap w.G).heap.W (w.E.getD i X)).1).2 with
          | true =>
           refine La (pr.rt.t _ ?_ ht);have ho:(cW2 w.heap w.G).old=(Z05 w.heap).1:=ck.x2.o;rw[ho];have hrf:=hr.2;simp only[Z0k,Lv,Option.isNone_iff_eq_none]at hrf;have:=Ll.1 hrf.2 i (Lk.2 oq);simp only[rfsB,decide_eq_true_eq,not_and,Ls]at this;exact this hne
          | false =>
           refine O ?_;unfold Z08 at ht ⊢;split at ht
           .simp at ht
           .rename_i hcc;rw[if_neg hcc]
     have p1:=c.p1;rw[e7]at p1 ⊢;exact⟨p1,λx hx=>seen x (r1 x hx),λx hx=>seen x (r2 _ (Li _) x hx)⟩
    .rw[collectF,if_pos hp,if_pos hr,if_pos e1,if_neg e2]at e;exact absurd e e2
   .rw[collectF,if_pos hp,if_pos hr,if_neg e1]at e;exact absurd e e1
  .rw[collectF,if_pos hp,if_neg hr]at e;simp at e
 .exact h
def POk.step{w:WorldM}{n:Nat}(h:POk w)(hm:MOk w n)(hn:n<=1000000)(t:Tape):POk (w.step t):=by
 unfold WorldM.step;repeat' split
 .exact h.put hm.W (Z4v _ _)
 .exact h.link hm hn _
 .exact h.pin hm hn _
 .exact h.drop _
 .exact h.collect hm
 .refine⟨h.p,λr hr=>?_,h.k⟩;rcases Ld.1 hr with hr | hr
  .exact h.s r hr
  .simp only[Lf]at hr;subst hr;exact h.pick _
def ZiC(t:Tape):POk t.empty:=by
 refine⟨?_,by simp[Tape.empty],by simp[Tape.empty]⟩;have hv:=Z39 t;have hb:=validB_iff.1 hv;have ha:=area hv;rw[Z1t];have hg:∀ j,j<t.C.pg.toNat->(Lc t.C.pg.toNat (⟨0,0,0,0⟩:Page)).getD j X=⟨0,0,0,0⟩:=λj hj=>by simp[Le,hj]
 refine⟨hv,by simp only[Tape.empty,Z3f,Lm];omega,by simp only[Tape.empty,Z3f,Lm];omega,O rfl,O rfl, ?_⟩;simp only[Tape.empty,Z3f];refine⟨λj hj=>?_,λj hj hk=>?_,λj hj hk=>?_⟩
 .rw[Lm]at hj;rw[hg j hj];exact⟨by simp,by simp,by simp,by simp,by simp,by simp⟩
 .rw[Lm]at hj;rw[hg j hj]at hk;simp at hk
 .rw[Lm]at hj;rw[hg j hj]at hk;simp at hk
def hdA(ws:List Int)(a:Int):Header:=(decodeH (loadA ws a).1).1
def okA(ws:List Int)(a:Int):Prop:=(decodeH (loadA ws a).1).2=Y
def kdA(ws:List Int)(a:Int):Int:=(hdA ws a).K
def kpA(ws:List Int)(a:Int):Int:=if kdA ws a=0 then 1 else hlA ws a+1
def bsP(h:Heap)(i:Nat):Int:=4096+i*h.C.pw
def tile(ws:List Int):Int->Int->List Int->Prop
 | a,b,[]=>a=b
 | a,b,x::l=>x=a/\okA ws a/\tile ws (a+hlA ws a+1) b l
def Z6z(ws:List Int)(a:Int):sizeH (hdA ws a)=hlA ws a+1:=by
 unfold hdA;rw[sizeH,if_pos (Z28 _)];rfl
def Zeq{ws:List Int}:∀ {l:List Int} {a b:Int},tile ws a b l->a<=b
 | [],a,b,h=>by simp only[tile]at h;omega
 | x::l,a,b,h=>by
  have:=Zeq h.2.2;have:=Z0b ws a;omega
def Z1J{ws:List Int}{x:Int}:∀ {l:List Int} {a b:Int},tile ws a b l->x∈l->okA ws x/\a<=x/\x+hlA ws x<b
 | [],_,_,_,hx=>by simp at hx
 | y::l,a,b,h,hx=>by
  have hr:=Z0b ws a;rcases LA.1 hx with rfl | hx
  .have:=Zeq h.2.2;rw[h.1];exact⟨h.2.1,by omega,by omega⟩
  .have:=Z1J h.2.2 hx;exact⟨this.1,by omega,this.2.2⟩
def ZbH{ws:List Int}{x y:Int}:∀ {l:List Int} {a b:Int},tile ws a b l->x∈l->y∈l->x<y->x+hlA ws x<y
 | [],_,_,_,hx,_,_=>by simp at hx
 | z::l,a,b,h,hx,hy,hxy=>by
  have hr:=Z0b ws a;have h1:=h.1;rcases LA.1 hx with e | hx'
  .rcases LA.1 hy with e2 | hy'
   .omega
   .have:=(Z1J h.2.2 hy').2.1;rw[e,h1];omega
  .rcases LA.1 hy with e2 | hy'
   .have:=(Z1J h.2.2 hx').2.1;omega
   .exact ZbH h.2.2 hx' hy' hxy
def ZbK{ws:List Int}{m:List Int}{b c:Int}:∀ {l:List Int} {a:Int},tile ws a b l->tile ws b c m->tile ws a c (l++m)
 | [],a,h,h2=>by simp only[tile]at h;subst h;exact h2
 | _::_,_,h,h2=>⟨h.1,h.2.1,ZbK h.2.2 h2⟩
def Z2D{ws ws':List Int}:∀ {l:List Int} {a b:Int},tile ws a b l->(∀ x∈l,okA ws' x/\hlA ws' x=hlA ws x)->tile ws' a b l
 | [],_,_,h,_=>h
 | x::l,a,b,h,hh=>by
  have hx:=hh x pq;have h1:=h.1;subst h1;refine⟨rfl,hx.1, ?_⟩;rw[hx.2];exact Z2D h.2.2 λy hy=>hh y (LJ _ hy)
def Zav{ws:List Int}{c:Int}:∀ {l:List Int} {a b:Int},tile ws a b l->a<=c->c<b->∃ x∈l,x<=c/\c<=x+hlA ws x
 | [],a,b,h,h1,h2=>by simp only[tile]at h;omega
 | x::l,a,b,h,h1,h2=>by
  by_cases hc:c<=a+hlA ws a
  .exact⟨a,by rw[h.1];simp,h1,hc⟩
  .obtain⟨y,hy,h3⟩:=Zav h.2.2 (show a+hlA ws a+1<=c by omega) h2;exact⟨y,LJ _ hy,h3⟩
def Z1L{ws ws':List Int}{a:Int}(h:(loadA ws' a).1=(loadA ws a).1):(okA ws a->okA ws' a)/\hlA ws' a=hlA ws a/\kdA ws' a=kdA ws a/\hdA ws' a=hdA ws a/\kpA ws' a=kpA ws a:=by
 have e:hdA ws' a=hdA ws a:=by rw[hdA,hdA,h]
 have e2:hlA ws' a=hlA ws a:=by rw[hlA,hlA,h]
 have e3:kdA ws' a=kdA ws a:=by rw[kdA,kdA,e]
 exact⟨λq=>by rw[okA,h];exact q,e2,e3,e,by rw[kpA,kpA,e2,e3]⟩
structure Gt (h:Heap) (T:Nat->List Int):Prop where
 p:Z02 h=Y
 t1:∀ i,i<h.P.length->(h.P.getD i X).K=1->tile h.W (bsP h i) (bsP h i+(h.P.getD i X).U) (T i)
 t2:∀ i,i<h.P.length->(h.P.getD i X).K=2->T i=[bsP h i]/\okA h.W (bsP h i)/\hlA h.W (bsP h i)+1=(h.P.getD i X).U
 t0:∀ i x,x∈T i->i<h.P.length/\((h.P.getD i X).K=1\/(h.P.getD i X).K=2)
structure Gd (h:Heap) (T:Nat->List Int):Prop where
 p:Z02 h=Y
 sp:∀ i,i<h.P.length->(h.P.getD i X).K≠0->(h.P.getD i X).S=h.S
 t1:∀ i,i<h.P.length->(h.P.getD i X).K=1->tile h.W (bsP h i) (bsP h i+(h.P.getD i X).U) (T i)/\∀ x∈T i,hlA h.W x+1<=Z00 h.C
 t2:∀ i,i<h.P.length->(h.P.getD i X).K=2->T i=[bsP h i]/\okA h.W (bsP h i)/\hlA h.W (bsP h i)+1=(h.P.getD i X).U/\kdA h.W (bsP h i)≠0
 t0:∀ i x,x∈T i->i<h.P.length/\((h.P.getD i X).K=1\/(h.P.getD i X).K=2)
 d:∀ a,(loadA h.W a).1≠0->∃ i x,x∈T i/\x<=a/\a<x+kpA h.W x
 q:∀ i x k,x∈T i->kdA h.W x≠0->0<=k->k<hlA h.W x->Z0f (hdA h.W x) k=Y->(loadA h.W (x+1+k)).1=0\/∃ j,(loadA h.W (x+1+k)).1∈T j/\kdA h.W (loadA h.W (x+1+k)).1≠0
 cr:(crowd h.P:Int)<=h.C.pg/4
def Ob(h:Heap)(T:Nat->List Int)(x:Int):Prop:=∃ j,x∈T j/\kdA h.W x≠0
section
variable {h:Heap} {T:Nat->List Int} (g:Gt h T)
include g
theorem Gt.on{i:Nat}{x:Int}(hx:x∈T i):i<h.P.length/\((h.P.getD i X).K=1\/(h.P.getD i X).K=2)/\bsP h i<=x/\x<bsP h i+h.C.pw/\x+hlA h.W x<bsP h i+(h.P.getD i X).U/\okA h.W x/\((h.P.getD i X).K=2->x=bsP h i/\hlA h.W x+1=(h.P.getD i X).U):=by
 have t:=g.t0 i x hx;have po:=Z06 g.p;have pp:=Z0J g.p t.1;have hr:=Z0b h.W x;refine⟨t.1,t.2, ?_⟩;rcases t.2 with k | k
 .have m:=Z1J (g.t1 i t.1 k) hx;exact⟨m.2.1,by omega,m.2.2,m.1,λq=>by omega⟩
 .have m:=g.t2 i t.1 k;rw[m.1]at hx;have hx:=Lf.1 hx;subst hx;exact⟨by omega,by omega,by omega,m.2.1,λ_=>⟨rfl,m.2.2⟩⟩
theorem Gt.ofx{i:Nat}{x:Int}(hx:x∈T i):ofA h.C x=((i:Int),x-bsP h i,0):=by
 have o:=g.on hx;have po:=Z06 g.p;have:=Z8L (c:=h.C) (i:=i) (o:=x-bsP h i) po.1 oq oq;rw[<- this];congr 1;unfold bsP;omega
theorem Gt.sep{i j:Nat}{x y:Int}(hx:x∈T i)(hy:y∈T j)(hxy:x<y):x+hlA h.W x<y:=by
 have o1:=g.on hx;have o2:=g.on hy;have r2:=Z0b h.W y;have r1:=Z0b h.W x;unfold bsP at o1 o2;rcases LL i j with q | q | q
 .have:=Z50 g.p q o2.1 o1.2.1 oq;omega
 .subst q;rcases o1.2.1 with k | k
  .exact ZbH (g.t1 i o1.1 k) hx hy hxy
  .have:=(o1.2.2.2.2.2.2 k).1;have:=(o2.2.2.2.2.2.2 k).1;omega
 .have:=Z50 g.p q o1.1 o2.2.1 oq;omega
theorem Gt.free{i j:Nat}{x:Int}(hi:i<h.P.length)(hk:(h.P.getD i X).K=0\/(h.P.getD i X).K=1)(hx:x∈T j):x+hlA h.W x<bsP h i+occP (h.P.getD i X)\/bsP h i+h.C.pw<=x:=by
 have o:=g.on hx;have po:=Z06 g.p;have pp:=Z0J g.p hi;have hoc:0<=occP (h.P.getD i X):=by unfold occP;split<;>omega
 unfold bsP at o ⊢;rcases LL i j with q | q | q
 .have:=Z17 (i:=i) (j:=j) (pw:=h.C.pw) oq oq;omega
 .subst q;rw[occP,if_neg oq];omega
 .have:=Z50 g.p q hi o.2.1 oq;omega
theorem Gt.at'{i:Nat}{x:Int}(hx:x∈T i):atH h x=(hdA h.W x,0):=by
 have o:=g.on hx;have r:=Z0b h.W x;have s:sizeH (decodeH (loadA h.W x).1).1=hlA h.W x+1:=Z6z h.W x;unfold atH;rw[if_pos g.p,g.ofx hx];simp only[LG,s,if_true];rw[if_pos ⟨o.2.1,by omega,o.2.2.2.2.2.1⟩,if_neg]
 .rfl
 .have:=o.2.2.2.2.2.2;omega
theorem Zdi{i:Nat}(hi:i<h.P.length)(hk:(h.P.getD i X).K=1):∀ (f:Nat) (o:Int) (l:List Int),tile h.W (bsP h i+o) (bsP h i+(h.P.getD i X).U) l->(∀ x∈l,x∈T i)->0<=o->(h.P.getD i X).U-o<=f->Z3o h i f o=Lh l
 | 0,o,[],ht,hm,h0,hf=>rfl
 | 0,o,x::l,ht,hm,h0,hf=>by
  have:=Zeq ht.2.2;have:=Z0b h.W (bsP h i+o);omega
 | f+1,o,[],ht,hm,h0,hf=>by
  simp only[tile]at ht;unfold Z3o;rw[if_neg];show ¬ o<(h.P.getD (i:Int).toNat X).U;rw[LG];omega
 | f+1,o,x::l,ht,hm,h0,hf=>by
  have hx:=hm x pq;have e:=ht.1;have on:=g.on hx;have po:=Z06 g.p;have hr:=Z0b h.W x;have hpg:pg h (i:Int)=h.P.getD i X:=by simp[pg]
  have ea:adr h i o=x:=by
   unfold adr address;rw[if_pos po.1,if_pos (inB_iff.2 ⟨by omega,by omega,h0,by omega⟩),e];unfold bsP;simp only;omega
  have t3:=ht.2.2;rw[<- e]at t3;have ih:=Zdi hi hk f (o+(hlA h.W x+1)) l (by rw[show bsP h i+(o+(hlA h.W x+1))=x+hlA h.W x+1 by omega];exact t3) (λy hy=>hm y (LJ _ hy)) oq oq;unfold Z3o;rw[hpg,if_pos oq,ea,g.at' hx];simp only[if_true];rw[if_neg oq,Z6z,ih];rfl
theorem Gt.page{i:Nat}(hi:i<h.P.length):Z09 h i=(T i,0):=by
 have pp:=Z0J g.p hi;have hpg:pg h (i:Int)=h.P.getD i X:=by simp[pg]
 unfold Z09;rw[if_pos g.p,if_pos oq,hpg];by_cases hk:(h.P.getD i X).K=0\/(h.P.getD i X).K=3
 .rw[if_pos hk];have:T i=[]:=LV.2 λx hx=>by have:=(g.t0 i x hx).2;omega
  rw[this]
 .rw[if_neg hk];by_cases h1:(h.P.getD i X).K=1
  .have:=Zdi g hi h1 256 0 (T i) (by rw[Int.add_zero];exact(g.t1 i hi h1)) (λ_ q=>q) oq oq;rw[this]
  .have h2:(h.P.getD i X).K=2:=by omega
   have t:=g.t2 i hi h2;have hx:bsP h i∈T i:=by rw[t.1];simp
   have on:=g.on hx;have po:=Z06 g.p;have hr:=Z0b h.W (bsP h i);have ea:adr h i 0=bsP h i:=by
    unfold adr address;rw[if_pos po.1,if_pos (inB_iff.2 ⟨by omega,by omega,by omega,by omega⟩)];unfold bsP;simp
   have:Z3o h i 256 0=Lh (T i):=by
    unfold Z3o;rw[hpg,if_pos oq,ea,g.at' hx];simp only[if_true];rw[if_pos h2,t.1]
   rw[this]
theorem Gt.starts:∀ (f i:Nat),i+f=h.P.length->(Z0Q h f i).2=0/\∀ x,x∈(Z0Q h f i).1↔∃ j,i<=j/\x∈T j
 | 0,i,hf=>by
  refine⟨rfl,λx=>⟨λhx=>by simp[Z0Q]at hx, ?_⟩⟩;rintro⟨j,hj,hx⟩;have:=(g.t0 j x hx).1;omega
 | f+1,i,hf=>by
  obtain⟨i1,i2⟩:=Gt.starts f (i+1) oq;unfold Z0Q;rw[g.page (show i<h.P.length by omega)];simp only[i1,if_true];refine⟨trivial,λx=>?_⟩;rw[Ld,i2];constructor
  .rintro(hx | ⟨j,hj,hx⟩)
   .exact⟨i,Li _,hx⟩
   .exact⟨j,by omega,hx⟩
  .rintro⟨j,hj,hx⟩;by_cases q:j=i
   .subst q;exact O hx
   .exact La ⟨j,by omega,hx⟩
theorem Gt.objs:(Z05 h).2=0/\∀ x,x∈(Z05 h).1↔Ob h T x:=by
 have s:=g.starts h.P.length 0 oq;have e:Z10 h=Z0Q h h.P.length 0:=by rw[Z10,if_pos g.p]
 unfold Z05;rw[e];refine⟨s.1,λx=>?_⟩;rw[List.mem_filter,s.2];constructor
 .rintro⟨⟨j,_,hj⟩,hb⟩;have hb':(atH h x).1.K≠0:=of_decide_eq_true hb;rw[g.at' hj]at hb';exact⟨j,hj,hb'⟩
 .rintro⟨j,hj,hb⟩;refine⟨⟨j,by omega,hj⟩,decide_eq_true ?_⟩;rw[g.at' hj];exact hb
end
section
variable {h:Heap} {T:Nat->List Int} (g:Gd h T)
include g
theorem Gd.gt:Gt h T:=⟨g.p,λi hi hk=>(g.t1 i hi hk).1,λi hi hk=>⟨(g.t2 i hi hk).1,(g.t2 i hi hk).2.1,(g.t2 i hi hk).2.2.1⟩,g.t0⟩
theorem Gd.on{i:Nat}{x:Int}(hx:x∈T i):i<h.P.length/\((h.P.getD i X).K=1\/(h.P.getD i X).K=2)/\bsP h i<=x/\x<bsP h i+h.C.pw/\x+hlA h.W x<bsP h i+(h.P.getD i X).U/\okA h.W x/\((h.P.getD i X).K=2->x=bsP h i/\hlA h.W x+1=(h.P.getD i X).U):=g.gt.on hx
theorem Gd.ofx{i:Nat}{x:Int}(hx:x∈T i):ofA h.C x=((i:Int),x-bsP h i,0):=g.gt.ofx hx
theorem Gd.sep{i j:Nat}{x y:Int}(hx:x∈T i)(hy:y∈T j)(hxy:x<y):x+hlA h.W x<y:=g.gt.sep hx hy hxy
theorem Gd.free{i j:Nat}{x:Int}(hi:i<h.P.length)(hk:(h.P.getD i X).K=0\/(h.P.getD i X).K=1)(hx:x∈T j):x+hlA h.W x<bsP h i+occP (h.P.getD i X)\/bsP h i+h.C.pw<=x:=g.gt.free hi hk hx
theorem Gd.at'{i:Nat}{x:Int}(hx:x∈T i):atH h x=(hdA h.W x,0):=g.gt.at' hx
theorem Gd.page{i:Nat}(hi:i<h.P.length):Z09 h i=(T i,0):=g.gt.page hi
theorem Gd.objs:(Z05 h).2=0/\∀ x,x∈(Z05 h).1↔Ob h T x:=g.gt.objs
end
def Zks{l:List Page}:∀ {i j:Nat},j<=i->(l.getD j X).K≠3->(∀ m,j<m->m<=i->(l.getD m X).K=3)->Z0E l i=j
 | 0,j,h,_,_=>by simp[Z0E];omega
 | i+1,j,h,hk,hm=>by
  unfold Z0E;by_cases q:j=i+1
  .subst q;rw[if_neg hk]
  .rw[if_pos (hm (i+1) oq (Li _))];exact Zks oq hk λm h1 h2=>hm m h1 oq
def Zmd{ws:List Int}{a n:Int}{k:Nat}(hn:0<=n)(ha:4096<=a/\a-4096+n<=ws.length)(hk:(k:Int)<n):(Z1n ws a n).1.getD k X=(loadA ws (a+k)).1:=by
 unfold Z1n loadA;rw[if_neg oq,if_pos ha,if_pos oq];simp only[Le];rw[List.getElem?_take_of_lt oq,List.getElem?_drop,show(a-4096).toNat+k=(a+k-4096).toNat by omega];rfl
section
variable {h:Heap} {T:Nat->List Int} (g:Gd h T)
include g
theorem Gd.inw{i:Nat}{x:Int}(hx:x∈T i):4096<=x/\x+hlA h.W x<4096+h.W.length:=by
 have o:=g.on hx;have po:=Z06 g.p;have u:=ZbG g.p o.1 o.2.1;have h0:0<=(i:Int)*h.C.pw:=LS oq oq;unfold bsP at o;omega
theorem Gd.head{i j:Nat}{x a:Int}(hx:x∈T j)(h1:x<=a)(h2:a<=x+hlA h.W x)(hi:i<h.P.length)(h3:bsP h i<=a)(h4:a<bsP h i+h.C.pw):Z0E h.P i=j:=by
 have o:=g.on hx;have po:=Z06 g.p;unfold bsP at o h3 h4;have hji:j<=i:=by
  by_cases q:j<=i
  .exact q
  .have:=Z17 (i:=i) (j:=j) (pw:=h.C.pw) oq oq;omega
 refine Zks hji oq λm m1 m2=>?_;have hms:=Z17 (i:=j) (j:=m) (pw:=h.C.pw) oq oq;have hmi:(m:Int)*h.C.pw<=i*h.C.pw:=LR oq oq;rcases o.2.1 with k | k
 .have pp:=Z0J g.p o.1;omega
 .by_cases q:(h.P.getD m X).K=3
  .exact q
  .have:=Z50 g.p m1 oq (La k) q;omega
theorem Gd.badd{i k:Nat}(hi:i<h.P.length)(hk:(k:Int)<h.C.pw):badD h i (Z2q h i) k=M:=by
 have po:=Z06 g.p;unfold badD;have ew:Z4p h i k=(loadA h.W (bsP h i+k)).1:=by
  unfold Z4p address;rw[if_pos po.1,if_pos (inB_iff.2 ⟨by omega,by omega,by omega,by omega⟩)];unfold bsP;simp only;rw[LN]
 rw[ew];by_cases h0:(loadA h.W (bsP h i+k)).1=0
 .rw[h0];simp
 .obtain⟨j,x,hx,h1,h2⟩:=g.d _ h0;have hr:=Z0b h.W x;have hkp:kpA h.W x<=hlA h.W x+1:=by unfold kpA;split<;>omega
  have hh:=g.head hx h1 oq hi oq oq;have hb:(Z2q h i).getD k X=Y:=by
   unfold Z2q Z1M;rw[hh,g.page (g.on hx).1];have hkk:k<h.C.pw.toNat:=by omega
   simp only[Le,List.getElem?_map,List.getElem?_range hkk,Option.map_some,Option.getD_some,List.any_eq_true];refine⟨x,hx, ?_⟩;unfold Z9n;have ek:Z4F h x=kpA h.W x:=by
    unfold Z4F kpA;rw[g.at' hx];rw[Z6z];rfl
   rw[ek,Lv,decide_eq_true_eq,decide_eq_true_eq];unfold bsP at h1 h2;omega
  rw[hb];simp
theorem Gd.dirt{i:Nat}(hi:i<h.P.length):Z32 h i (Z2q h i)=0:=by
 have hl:=Z74 h i;unfold Z32;have:(Lq (Z2q h i).length).find? (badD h i (Z2q h i))=Lu:=by
  rw[Ll];intro k hk;have hk:=Lk.1 hk;rw[g.badd hi oq];simp
 rw[this]
theorem Gd.cls{i:Nat}{x:Int}(hx:x∈T i):Z1y h i x=M:=by
 have o:=g.on hx;unfold Z1y;rw[g.at' hx,Z6z,LG];rcases o.2.1 with k | k
 .have:=(g.t1 i o.1 k).2 x hx;rw[k];simp;omega
 .have t:=g.t2 i o.1 k;have hx2:=(o.2.2.2.2.2.2 k).1;have:(hdA h.W x).K≠0:=by rw[hx2];exact t.2.2.2
  rw[k];simp;exact this
theorem Gd.pageF{i:Nat}(hi:i<h.P.length):(pageF h i).fault=0:=by
 have hs:=g.sp i hi;have hc:Z16 h i (T i)=0:=by
  unfold Z16;have:(T i).find? (Z1y h i)=Lu:=by
   rw[Ll];intro x hx;rw[g.cls hx];simp
  rw[this];rfl
 unfold Go.Proofs.YtdhchmlalchgeaaGreat.pageF;rw[if_neg (by rintro⟨q1,q2⟩;exact q2 (hs q1)),g.page hi,if_neg pq,if_neg (by rw[hc];simp),if_neg (by rw[g.dirt hi];simp)]
theorem Gd.fields{i:Nat}{x:Int}(hx:x∈T i)(hk:kdA h.W x≠0):getH h x=(hdA h.W x,0)/\((Z0G h x).1.length:Int)=hlA h.W x/\∀ k:Nat,(k:Int)<hlA h.W x->(Z0G h x).1.getD k X=(loadA h.W (x+1+k)).1:=by
 have n:=g.inw hx;have r:=Z0b h.W x;have eg:getH h x=(hdA h.W x,0):=by
  unfold getH;rw[if_pos g.p,if_neg oq,g.at' hx,if_neg];rintro⟨_,q⟩;exact hk q
 have ef:Z0G h x=Z1n h.W (x+1) (hlA h.W x):=by
  unfold Z0G;rw[eg,if_pos rfl];rfl
 refine⟨eg, ?_, ?_⟩
 .rw[ef];unfold Z1n;rw[if_neg oq,if_pos oq];simp only[L0,LZ];omega
 .intro k hk;rw[ef];exact Zmd r.1 oq hk
theorem Gd.good:Z0C h=⟨0,0,0⟩:=by
 have ob:=g.objs;have h1:Z2Y h=Lu:=by
  unfold Z2Y;rw[Ll];intro i hi;have:=g.pageF (Lk.1 hi);simp[this]
 have h2:Z13 h (Z05 h).1=⟨0,0,0⟩:=by
  unfold Z13;have:(Lq (Z05 h).1.length).find? (λi=>(Z27 h (Z05 h).1 i).isSome)=Lu:=by
   rw[Ll];intro i hi;have hm:(Z05 h).1.getD i X∈(Z05 h).1:=getD_mem_iff.2 ⟨i,Lk.1 hi,rfl⟩;have:Z27 h (Z05 h).1 i=Lu:=by
    unfold Z27;generalize (Z05 h).1.getD i X=x at hm ⊢;obtain⟨j,hj,hkd⟩:=(ob.2 x).1 hm;have f:=g.fields hj hkd;rw[Ll];intro k hk;have hk:=Lk.1 hk;have hk2:(k:Int)<hlA h.W x:=by omega
    unfold Zac;rw[f.1,f.2.2 k hk2];intro hc;simp only[Lv,Bool.not_eq_true',decide_eq_true_eq,decide_eq_false_iff_not]at hc;rcases g.q j x k hj hkd oq hk2 hc.1.1 with q | ⟨m,q1,q2⟩
    .exact hc.1.2 q
    .exact hc.2 ((ob.2 _).2 ⟨m,q1,q2⟩)
   rw[this];simp
  rw[this]
 unfold Z0C;rw[if_pos g.p,h1];simp only[h2,ne_eq,not_true_eq_false,if_false];rw[if_neg];have:=g.cr;show ¬ h.C.pg/4<(crowd h.P:Int);omega
theorem Gd.refers{s:List Int}(hs:∀ r∈s,r=0\/Ob h T r):Z0k h s=Y:=by
 unfold Z0k;rw[Lv,decide_eq_true_eq];refine⟨g.good, ?_⟩;have:(Lq s.length).find? (rfsB s (Z05 h).1)=Lu:=by
  rw[Ll];intro i hi;have hm:s.getD i X∈s:=getD_mem_iff.2 ⟨i,Lk.1 hi,rfl⟩;unfold rfsB;rw[decide_eq_true_eq];rintro⟨q1,q2⟩;rcases hs _ hm with q | q
  .exact q1 q
  .exact q2 ((g.objs.2 _).2 q)
 rw[this];rfl
end
def decode_encode{hd:Header}(hv:Z0h hd=Y)(hm:0<=hd.map/\hd.map<=4294967295):decodeH (Z0d hd).1=(hd,Y):=by
 have b:=validH_iff.1 hv;have e1:Z0d hd=(1+4*hd.K+16*hd.length+65536*hd.map,0):=by rw[Z0d,if_pos hv]
 have e2:Z3h (1+4*hd.K+16*hd.length+65536*hd.map)=hd:=by
  obtain⟨k,l,m⟩:=hd;simp only at b hm;simp only[Z3h,Header.mk.injEq];omega
 rw[e1];unfold decodeH;simp only[e2,e1];simp
def Z95{l l':List Page}:∀ n:Nat,(∀ i,i<n->(l'.getD i X).K=1->0<(l'.getD i X).N->(l.getD i X).K=1/\0<(l.getD i X).N)->Z0y l' n<=Z0y l n
 | 0,_=>Li _
 | n+1,hh=>by
  have ih:=Z95 n λi hi=>hh i oq;have hn:=hh n oq;unfold Z0y;split
  .rename_i c;rw[if_pos (hn c.1 c.2)];omega
  .split<;>omega
def Zb7{l:List Page}{i:Nat}{p:Page}(hi:i<l.length):∀ n:Nat,Z0y (l.set i p) n<=Z0y l n+1/\(n<=i->Z0y (l.set i p) n<=Z0y l n)
 | 0=>⟨by simp[Z0y],λ_=>Li _⟩
 | n+1=>by
  obtain⟨i1,i2⟩:=Zb7 (p:=p) hi n;unfold Z0y;rw[Z0p hi];by_cases q:i=n
  .have:=i2 oq;subst q;refine⟨?_,λq=>by omega⟩;split<;>split<;>omega
  .rw[if_neg q];refine⟨?_,λq2=>?_⟩
   .split<;>omega
   .have:=i2 oq;split<;>omega
def Z7c{l l':List Page}(hl:l'.length=l.length)(hh:∀ i,i<l.length->(l'.getD i X).K=1->0<(l'.getD i X).N->(l.getD i X).K=1/\0<(l.getD i X).N):crowd l'<=crowd l:=by
 unfold crowd;rw[hl];exact Z95 _ hh
def Gd.P{h h':Heap}{T:Nat->List Int}(g:Gd h T)(hp:Z02 h'=Y)(hc:h'.C=h.C)(hw:h'.W=h.W)(hs:h'.S=h.S)(hl:h'.P.length=h.P.length)
  (hh:∀ i,i<h.P.length->(h'.P.getD i X).K=(h.P.getD i X).K/\(h'.P.getD i X).S=(h.P.getD i X).S/\(h'.P.getD i X).U=(h.P.getD i X).U) (hcr:(crowd h'.P:Int)<=h.C.pg/4):Gd h' T:=by
 have hb:∀ i,bsP h' i=bsP h i:=λi=>by rw[bsP,bsP,hc]
 refine⟨hp, ?_, ?_, ?_, ?_,by rw[hw];exact g.d,by rw[hw];exact g.q,by rw[hc];exact hcr⟩
 .intro i hi hk;rw[hl]at hi;rw[(hh i hi).1]at hk;rw[(hh i hi).2.1,hs];exact g.sp i hi hk
 .intro i hi hk;rw[hl]at hi;rw[(hh i hi).1]at hk;rw[(hh i hi).2.2,hw,hb,hc];exact g.t1 i hi hk
 .intro i hi hk;rw[hl]at hi;rw[(hh i hi).1]at hk;rw[(hh i hi).2.2,hw,hb];exact g.t2 i hi hk
 .intro i x hx;have t:=g.t0 i x hx;rw[hl,(hh i t.1).1];exact t
def Gd.store{h:Heap}{T:Nat->List Int}(g:Gd h T){x k v:Int}(hx:Ob h T x)(hk:0<=k/\k<hlA h.W x)(hv:Z0f (hdA h.W x) k=Y->v=0\/Ob h T v) :
  Gd { h with W:=(Z0L h.W (x+1+k) v).1 } T/\(∀ i y,y∈T i->(loadA (Z0L h.W (x+1+k) v).1 y).1=(loadA h.W y).1):=by
 obtain⟨j,hj,hkd⟩:=hx;have n:=g.inw hj;have hin:4096<=x+1+k/\x+1+k<4096+h.W.length:=by omega
 have hlen:=Z2u (ws:=h.W) (v:=v) hin;have key:∀ i y,y∈T i->(loadA (Z0L h.W (x+1+k) v).1 y).1=(loadA h.W y).1:=by
  intro i y hy;rw[Z0v hin];intro e;have:=g.sep hj hy oq;omega
 have ky:∀ i y,y∈T i->okA h.W y/\okA (Z0L h.W (x+1+k) v).1 y/\hlA (Z0L h.W (x+1+k) v).1 y=hlA h.W y/\kdA (Z0L h.W (x+1+k) v).1 y=kdA h.W y/\hdA (Z0L h.W (x+1+k) v).1 y=hdA h.W y/\kpA (Z0L h.W (x+1+k) v).1 y=kpA h.W y:=by
  intro i y hy;have o:=Z1L (key i y hy);have:=(g.on hy).2.2.2.2.2.1;exact⟨this,o.1 this,o.2⟩
 refine⟨⟨?_,g.sp, ?_, ?_,g.t0, ?_, ?_,g.cr⟩,key⟩
 .have q:=g.p;rw[Z1t]at q ⊢;refine⟨q.1, ?_,q.2.2.1,q.2.2.2.1,q.2.2.2.2.1,q.2.2.2.2.2⟩;simp only[hlen];exact q.2.1
 .intro i hi hk1;have t:=g.t1 i hi hk1;exact⟨Z2D t.1 λy hy=>⟨(ky i y hy).2.1,(ky i y hy).2.2.1⟩,λy hy=>by rw[(ky i y hy).2.2.1];exact t.2 y hy⟩
 .intro i hi hk2;have t:=g.t2 i hi hk2;have q:=ky i (bsP h i) (by rw[t.1];simp);refine⟨t.1,q.2.1, ?_, ?_⟩
  .exact q.2.2.1▸t.2.2.1
  .exact q.2.2.2.1▸t.2.2.2
 .intro a ha;by_cases e:a=x+1+k
  .refine⟨j,x,hj,by omega, ?_⟩;simp only;rw[(ky j x hj).2.2.2.2.2,kpA,if_neg hkd];omega
  .simp only at ha;rw[Z0v hin e]at ha;obtain⟨i,y,hy,h1,h2⟩:=g.d a ha;refine⟨i,y,hy,h1, ?_⟩;simp only;rw[(ky i y hy).2.2.2.2.2];exact h2
 .intro i y m hy hkd2 h0 h1 hp;simp only at hkd2 h1 hp ⊢;obtain⟨c0,c1,c2,c3,c4,c5⟩:=ky i y hy;rw[c3]at hkd2;rw[c2]at h1;rw[c4]at hp;have fin:∀ z,z=0\/Ob h T z->z=0\/∃ j,z∈T j/\kdA (Z0L h.W (x+1+k) v).1 z≠0:=by
   rintro z (q | ⟨b,b1,b2⟩)
   .exact O q
   .exact La ⟨b,b1,by rw[(ky b z b1).2.2.2.1];exact b2⟩
  by_cases e:y+1+m=x+1+k
  .have hyx:y=x:=by
    rcases Int.lt_trichotomy y x with q | q | q
    .have:=g.sep hy hj q;omega
    .exact q
    .have:=g.sep hj hy q;omega
   subst hyx;have hmk:m=k:=by omega
   subst hmk;rw[Z1P hin];exact fin _ (hv hp)
  .rw[Z0v hin e];exact fin _ (g.q i y m hy hkd2 h0 h1 hp)
def Gd.add{h h':Heap}{T:Nat->List Int}(g:Gd h T){i:Nat}{a:Int}{hd:Header}(hv:Z0h hd=Y)(hm:0<=hd.map/\hd.map<=4294967295)(hk:hd.K≠0)
  (hp:Z02 h'=Y) (hc:h'.C=h.C) (hs:h'.S=h.S) (hl:h'.P.length=h.P.length) (hw:h'.W=(Z0F h.W a (objW hd)).1)
  (hin:4096<=a/\a+sizeH hd<=4096+h.W.length) (hi:i<h.P.length)
  (hj:∀ j,j<h.P.length->j≠i->h'.P.getD j X=h.P.getD j X\/((h.P.getD j X).K=0/\(h'.P.getD j X).K=3/\(h'.P.getD j X).S=h.S))
  (hI:((h.P.getD i X).K=0\/(h.P.getD i X).K=1)/\(h'.P.getD i X).K=1/\a=bsP h i+occP (h.P.getD i X)/\(h'.P.getD i X).U=occP (h.P.getD i X)+sizeH hd/\sizeH hd<=Z00 h.C\/(h.P.getD i X).K=0/\(h'.P.getD i X).K=2/\a=bsP h i/\(h'.P.getD i X).U=sizeH hd)
  (hsp:(h'.P.getD i X).S=h.S) (hcr:crowd h'.P<=crowd h.P) (hdis:∀ j x,x∈T j->x+hlA h.W x<a\/a+sizeH hd<=x) :
  Gd h' (λj=>if j=i then T i++[a]else T j)/\kdA h'.W a≠0/\hdA h'.W a=hd/\(∀ k,a<k->k<a+sizeH hd->(loadA h'.W k).1=0)/\(∀ k,k<a\/a+sizeH hd<=k->loadA h'.W k=loadA h.W k):=by
 have ow:=Zj9 hv hm;have hs1:sizeH hd=hd.length+1:=by rw[sizeH,if_pos hv]
 have vb:=validH_iff.1 hv;have hin':4096<=a/\a-4096+(objW hd).length<=h.W.length:=by omega
 have out:∀ k,k<a\/a+sizeH hd<=k->loadA h'.W k=loadA h.W k:=by
  intro k hk;rw[hw];exact Z2i hin' oq
 have wa:(loadA h'.W a).1=(Z0d hd).1:=by
  rw[hw,Z1R hin' oq];simp[objW]
 have z:∀ k,a<k->k<a+sizeH hd->(loadA h'.W k).1=0:=by
  intro k h1 h2;rw[hw,Z1R hin' oq];have:(k-a).toNat=(k-a-1).toNat+1:=by omega
  rw[this,objW];simp[Le,LI];split<;>rfl
 have de:=decode_encode hv hm;have ha1:hdA h'.W a=hd:=by rw[hdA,wa,de]
 have ha2:okA h'.W a:=by rw[okA,wa,de]
 have ha3:hlA h'.W a=hd.length:=by rw[hlA,wa,de]
 have ha4:kdA h'.W a≠0:=by rw[kdA,ha1];exact hk
 have hb:∀ j,bsP h' j=bsP h j:=λj=>by rw[bsP,bsP,hc]
 have ky:∀ j x,x∈T j->okA h'.W x/\hlA h'.W x=hlA h.W x/\kdA h'.W x=kdA h.W x/\hdA h'.W x=hdA h.W x/\kpA h'.W x=kpA h.W x/\∀ m,0<=m->m<=hlA h.W x->loadA h'.W (x+m)=loadA h.W (x+m):=by
  intro j x hx;have d:=hdis j x hx;have r:=Z0b h.W x;have o:=Z1L (ws:=h.W) (ws':=h'.W) (a:=x) (by rw[out x oq]);refine⟨o.1 (g.on hx).2.2.2.2.2.1,o.2.1,o.2.2.1,o.2.2.2.1,o.2.2.2.2,λm h1 h2=>out _ oq⟩
 have mem:∀ j x,x∈(if j=i then T i++[a]else T j)->x∈T j\/(j=i/\x=a):=by
  intro j x hx;split at hx
  .rename_i q;subst q;rcases Ld.1 hx with hx | hx
   .exact O hx
   .exact La ⟨rfl,Lf.1 hx⟩
  .exact O hx
 have mem2:∀ j x,x∈T j->x∈(if j=i then T i++[a]else T j):=by
  intro j x hx;split
  .rename_i q;subst q;exact Lg _ hx
  .exact hx
 have mem3:a∈(if i=i then T i++[a]else T i):=by simp
 have hnil:(h.P.getD i X).K=0->T i=[]:=λq=>LV.2 λx hx=>by have:=(g.t0 i x hx).2;omega
 refine⟨⟨hp, ?_, ?_, ?_, ?_, ?_, ?_, ?_⟩,ha4,ha1,z,out⟩
 .intro j hj1 hk1;rw[hl]at hj1;rw[hs];by_cases q:j=i
  .subst q;exact hsp
  .rcases hj j hj1 q with e | e
   .rw[e]at hk1 ⊢;exact g.sp j hj1 hk1
   .exact e.2.2
 .intro j hj1 hk1;rw[hl]at hj1;rw[hb,hc];by_cases q:j=i
  .subst q;simp only[if_true];rcases hI with⟨c1,c2,c3,c4,c5⟩ | c
   .refine⟨?_, ?_⟩
    .have last:tile h'.W a (bsP h j+(h'.P.getD j X).U) [a]:=⟨rfl,ha2,by rw[ha3];simp only[tile];omega⟩
     refine ZbK (b:=a) ?_ last;rcases c1 with c1 | c1
     .rw[hnil c1];rw[occP,if_pos c1]at c3;simp only[tile];omega
     .have t:=(g.t1 j hi c1).1;rw[occP,if_neg oq]at c3;rw[c3];exact Z2D t λx hx=>⟨(ky j x hx).1,(ky j x hx).2.1⟩
    .intro x hx;rcases Ld.1 hx with hx | hx
     .rw[(ky j x hx).2.1];rcases c1 with c1 | c1
      .rw[hnil c1]at hx;simp at hx
      .exact(g.t1 j hi c1).2 x hx
     .have:=Lf.1 hx;subst this;omega
   .omega
  .rw[if_neg q];rcases hj j hj1 q with e | e
   .rw[e]at hk1 ⊢;have t:=g.t1 j hj1 hk1;exact⟨Z2D t.1 λx hx=>⟨(ky j x hx).1,(ky j x hx).2.1⟩,λx hx=>by rw[(ky j x hx).2.1];exact t.2 x hx⟩
   .omega
 .intro j hj1 hk2;rw[hl]at hj1;rw[hb];by_cases q:j=i
  .subst q;simp only[if_true];rcases hI with c | ⟨c1,c2,c3,c4⟩
   .omega
   .rw[hnil c1,<- c3,ha3];exact⟨rfl,ha2,by omega,ha4⟩
  .rw[if_neg q];rcases hj j hj1 q with e | e
   .rw[e]at hk2 ⊢;have t:=g.t2 j hj1 hk2;have k:=ky j (bsP h j) (by rw[t.1];simp);exact⟨t.1,k.1,by rw[k.2.1];exact t.2.2.1,by rw[k.2.2.1];exact t.2.2.2⟩
   .omega
 .intro j x hx;rw[hl];rcases mem j x hx with hx | ⟨q,_⟩
  .have t:=g.t0 j x hx;refine⟨t.1, ?_⟩;by_cases q:j=i
   .subst q;rcases hI with c | c<;>omega
   .rcases hj j t.1 q with e | e
    .rw[e];exact t.2
    .omega
  .subst q;exact⟨hi,by rcases hI with c | c<;>omega⟩
 .intro k hk0;by_cases hr:k<a\/a+sizeH hd<=k
  .rw[out k hr]at hk0;obtain⟨j,x,hx,h1,h2⟩:=g.d k hk0;exact⟨j,x,mem2 j x hx,h1,by rw[(ky j x hx).2.2.2.2.1];exact h2⟩
  .refine⟨i,a,mem3,by omega, ?_⟩;rw[kpA,if_neg ha4,ha3];omega
 .intro j x k hx hkd h0 h1 hpt;rcases mem j x hx with hx | ⟨_,q⟩
  .have c:=ky j x hx;rw[c.2.2.1]at hkd;rw[c.2.1]at h1;rw[c.2.2.2.1]at hpt;have e:=c.2.2.2.2.2 (1+k) oq oq;rw[<- LN]at e;rw[e];rcases g.q j x k hx hkd h0 h1 hpt with q | ⟨b,b1,b2⟩
   .exact O q
   .exact La ⟨b,mem2 b _ b1,by rw[(ky b _ b1).2.2.1];exact b2⟩
  .subst q;rw[ha3]at h1;exact O (z _ oq oq)
 .rw[hc];have:=g.cr;omega
structure NewOk (h h':Heap) (T:Nat->List Int) (hd:Header) (i:Nat) (a:Int):Prop where
 g:Gd h' (λj=>if j=i then T i++[a]else T j)
 k:kdA h'.W a≠0
 e:hdA h'.W a=hd
 z:∀ k,a<k->k<a+sizeH hd->(loadA h'.W k).1=0
 o:∀ k,k<a\/a+sizeH hd<=k->loadA h'.W k=loadA h.W k
 d:∀ j x,x∈T j->x+hlA h.W x<a\/a+sizeH hd<=x
 c:h'.C=h.C
def Zh5{c:Conf}{n:Int}(hn:¬ 0<need c n)(h0:0<=need c n):n<=Z00 c:=by
 unfold need at hn h0;split at h0
 .rename_i hc;rw[if_pos hc]at hn;have hb:=validB_iff.1 hc.1;rw[Z00,if_pos hc.1,Lz oq];split at h0
  .rename_i hd;exact hd
  .rename_i hd;rw[if_neg hd]at hn;have e:=LQ (n+c.pw-1) c.pw;have:=Lw (n+c.pw-1) (b:=c.pw) oq;have hz:(n+c.pw-1)/c.pw=0:=by omega
   rw[hz]at e;omega
 .omega
def Gd.newOk{h:Heap}{T:Nat->List Int}(g:Gd h T){hd:Header}(hw:WOk h.W)(hm:0<=hd.map/\hd.map<=4294967295)(e:(new7 h hd).2.2=0):∃ i,NewOk h (new7 h hd).1 T hd i (new7 h hd).2.1:=by
 obtain⟨k1,k2,k3,k4,k5,k6,k7,k8⟩:=ZbZ hw hm e;obtain⟨a1,a2,a3,a4,a5⟩:=Z5X k2;have po:=Z06 g.p;have hpt:=g.p;rw[Z1t]at hpt;obtain⟨p1,p2,p3,p4,p5,p6⟩:=hpt;have hin:4096<=(put7 h hd).2.1/\(put7 h hd).2.1+sizeH hd<=4096+h.W.length:=⟨k3.lo,k3.hi⟩
 have e1:(new7 h hd).1.C=h.C:=by rw[k6];exact k3.c
 have e2:(new7 h hd).1.S=h.S:=by rw[k6];exact k3.sp
 have e3:(new7 h hd).1.P.length=h.P.length:=by rw[k6];exact k3.l
 have e4:(new7 h hd).1.W=(Z0F h.W (put7 h hd).2.1 (objW hd)).1:=by rw[k6]
 have e5:(new7 h hd).1.P=(put7 h hd).1.P:=by rw[k6]
 rw[k5];have fin:∀ i:Nat,i<h.P.length->(∀ j,j<h.P.length->j≠i->(new7 h hd).1.P.getD j X=h.P.getD j X\/((h.P.getD j X).K=0/\((new7 h hd).1.P.getD j X).K=3/\((new7 h hd).1.P.getD j X).S=h.S)) ->
   ((h.P.getD i X).K=0\/(h.P.getD i X).K=1)/\((new7 h hd).1.P.getD i X).K=1/\(put7 h hd).2.1=bsP h i+occP (h.P.getD i X)/\((new7 h hd).1.P.getD i X).U=occP (h.P.getD i X)+sizeH hd/\sizeH hd<=Z00 h.C\/(h.P.getD i X).K=0/\((new7 h hd).1.P.getD i X).K=2/\(put7 h hd).2.1=bsP h i/\((new7 h hd).1.P.getD i X).U=sizeH hd ->
   ((new7 h hd).1.P.getD i X).S=h.S->crowd (new7 h hd).1.P<=crowd h.P->(∀ j x,x∈T j->x+hlA h.W x<(put7 h hd).2.1\/(put7 h hd).2.1+sizeH hd<=x)->∃ i,NewOk h (new7 h hd).1 T hd i (put7 h hd).2.1:=by
  intro i hi hj hI hsp hcr hdis;obtain⟨q1,q2,q3,q4,q5⟩:=g.add a1 hm a5 k7 e1 e2 e3 e4 hin hi hj hI hsp hcr hdis;exact⟨i,q1,q2,q3,q4,q5,hdis,e1⟩
 rw[e5]at fin;by_cases hn:0<need h.C (sizeH hd)
 .have e7:put7 h hd=Z0A h (sizeH hd) (need h.C (sizeH hd)):=by rw[put7,if_pos hn]
  rw[e7]at k4 fin ⊢;by_cases hg:0<=first h.P (need h.C (sizeH hd))/\Z1w h.P+need h.C (sizeH hd)<=Z2r h.C
  .obtain⟨g1,g2,g3⟩:=Z1m hg.1;have el:(Z2y h.C h.P (first h.P (need h.C (sizeH hd))) h.S (sizeH hd)).1=tookP h.P (first h.P (need h.C (sizeH hd))).toNat (need h.C (sizeH hd)).toNat ⟨2,h.S,sizeH hd,0⟩ ⟨3,h.S,0,0⟩:=by
    rw[Z2y,if_pos ⟨g1,by omega⟩,Z33,if_pos oq,if_pos g3]
   have e8:Z0A h (sizeH hd) (need h.C (sizeH hd))=(⟨h.C,h.W,tookP h.P (first h.P (need h.C (sizeH hd))).toNat (need h.C (sizeH hd)).toNat ⟨2,h.S,sizeH hd,0⟩ ⟨3,h.S,0,0⟩,h.S,h.B⟩,4096+first h.P (need h.C (sizeH hd))*h.C.pw,Y):=by rw[Z0A,if_pos hg,el]
   have hf:∀ j,j<(need h.C (sizeH hd)).toNat->(h.P.getD ((first h.P (need h.C (sizeH hd))).toNat+j) X).K=0:=freeK_iff.1 g3;have hu:=Z5l g1;rw[e8]at fin ⊢;simp only at fin ⊢;generalize hk:need h.C (sizeH hd)=k at *;generalize hfi:first h.P k=f at *
   have hge:∀ j,(tookP h.P f.toNat k.toNat ⟨2,h.S,sizeH hd,0⟩ ⟨3,h.S,0,0⟩).getD j X=if j=f.toNat then⟨2,h.S,sizeH hd,0⟩else if f.toNat<j/\j<f.toNat+k.toNat then⟨3,h.S,0,0⟩else h.P.getD j X:=Z7j oq oq;have h0:=hf 0 oq;rw[Nat.add_zero]at h0;refine fin f.toNat oq ?_ ?_ ?_ ?_ ?_
   .intro j hj1 hj2;rw[hge,if_neg hj2];split
    .rename_i q;have:=hf (j-f.toNat) oq;rw[show f.toNat+(j-f.toNat)=j by omega]at this;exact La ⟨this,rfl,rfl⟩
    .exact O rfl
   .rw[hge,if_pos rfl];refine La ⟨h0,rfl, ?_,rfl⟩;rw[bsP,LH oq]
   .rw[hge,if_pos rfl]
   .refine Z7c (Z6x oq) λj hj1 q1 q2=>?_;rw[hge]at q1 q2;split at q1
    .simp at q1
    .rename_i c1;rw[if_neg c1]at q2;split at q1
     .simp at q1
     .rename_i c2;rw[if_neg c2]at q2;exact⟨q1,q2⟩
   .intro j x hx;have o:=g.on hx;have hr:=Z0b h.W x;unfold bsP at o;have hfe:((f.toNat:Nat):Int)=f:=by omega
    by_cases q:j<f.toNat
    .have:=Z50 g.p q oq o.2.1 oq;rw[hfe]at this;omega
    .have hjk:f.toNat+k.toNat<=j:=by
      by_cases q2:f.toNat+k.toNat<=j
      .exact q2
      .have:=hf (j-f.toNat) oq;rw[show f.toNat+(j-f.toNat)=j by omega]at this;omega
     have:=LR (show f+k<=(j:Int) by omega) (show 0<=h.C.pw by omega);rw[Int.add_mul]at this;omega
  .rw[Z0A,if_neg hg]at k4;simp at k4
 .have e7:put7 h hd=Z0j h (sizeH hd):=by rw[put7,if_neg hn]
  have hsm:=Zh5 hn a4;have hsw:Z00 h.C<=h.C.pw:=by
   rw[Z00,if_pos p1,Lz oq];omega
  rw[e7]at k4 fin ⊢;by_cases hf:Z6S h (sizeH hd)
  .have e8:Z0j h (sizeH hd)=(⟨h.C,h.W,Z1C h.P h.B.toNat (sizeH hd),h.S,h.B⟩,4096+h.B*h.C.pw+(h.P.getD h.B.toNat X).U,Y):=by rw[Z0j,if_pos hf]
   unfold Z6S at hf;have hbi:h.B.toNat<h.P.length:=by omega
   have hk:(h.P.getD h.B.toNat X).K=1:=by omega
   have hbe:((h.B.toNat:Nat):Int)=h.B:=by omega
   have hoc:occP (h.P.getD h.B.toNat X)=(h.P.getD h.B.toNat X).U:=by rw[occP,if_neg oq]
   rw[e8,Z3z]at fin;rw[e8];simp only at fin ⊢;refine fin h.B.toNat hbi ?_ ?_ ?_ ?_ ?_
   .intro j hj1 hj2;rw[Z0p hbi,if_neg (λq=>hj2 q.symm)];exact O rfl
   .rw[Z0p hbi,if_pos rfl,hoc];refine O ⟨La hk,hk, ?_,rfl,hsm⟩;rw[bsP,hbe]
   .rw[Z0p hbi,if_pos rfl];exact hf.2.1
   .refine Z7c (by rw[Lj]) λj hj1 q1 q2=>?_;rw[Z0p hbi]at q1 q2;split at q1
    .rename_i c;rw[if_pos c]at q2;subst c;exact⟨q1,q2⟩
    .rename_i c;rw[if_neg c]at q2;exact⟨q1,q2⟩
   .intro j x hx;have:=g.free hbi (La hk) hx;rw[hoc,bsP,hbe]at this;omega
  .by_cases hg:0<=first h.P 1/\(Z1w h.P:Int)<Z2r h.C
   .have e8:Z0j h (sizeH hd)=(⟨h.C,h.W,Z1C (Z3i h) (first h.P 1).toNat (sizeH hd),h.S,first h.P 1⟩,4096+first h.P 1*h.C.pw+((Z3i h).getD (first h.P 1).toNat X).U,Y):=by rw[Z0j,if_neg hf,if_pos hg]
    obtain⟨g1,g2,g3⟩:=Z30 p4 hg.1 (sizeH hd);have g4:=congrArg Page.U (Z2s p4 hg.1).2.2.2;simp only at g4;have hbe:(((first h.P 1).toNat:Nat):Int)=first h.P 1:=by omega
    have hoc:occP (h.P.getD (first h.P 1).toNat X)=0:=by rw[occP,if_pos g2]
    rw[e8,g1,g4]at fin;rw[e8,g4];simp only at fin ⊢;refine fin (first h.P 1).toNat g3 ?_ ?_ ?_ ?_ ?_
    .intro j hj1 hj2;rw[Z0p g3,if_neg (λq=>hj2 q.symm)];exact O rfl
    .rw[Z0p g3,if_pos rfl,hoc];refine O ⟨O g2,rfl, ?_,by simp,hsm⟩;rw[bsP,hbe]
    .rw[Z0p g3,if_pos rfl]
    .refine Z7c (by rw[Lj]) λj hj1 q1 q2=>?_;rw[Z0p g3]at q1 q2;split at q1
     .rename_i c;rw[if_pos c]at q2;simp at q2
     .rename_i c;rw[if_neg c]at q2;exact⟨q1,q2⟩
    .intro j x hx;have:=g.free g3 (O g2) hx;rw[hoc,bsP,hbe]at this;omega
   .rw[Z0j,if_neg hf,if_neg hg]at k4;simp at k4
def RtOb(h:Heap)(T:Nat->List Int)(l:List Int):Prop:=∀ r∈l,r=0\/Ob h T r
def WG(w:WorldM):Prop:=∃ T,Gd w.heap T/\RtOb w.heap T w.G/\RtOb w.heap T w.E
def NewOk.ob{h h':Heap}{T:Nat->List Int}{hd:Header}{i:Nat}{a:Int}(n:NewOk h h' T hd i a){x:Int}(hx:Ob h T x):Ob h' (λj=>if j=i then T i++[a]else T j) x:=by
 obtain⟨j,hj,hk⟩:=hx;have r:=Z0b h.W x;have o:=Z1L (ws:=h.W) (ws':=h'.W) (a:=x) (by rw[n.o x (by have:=n.d j x hj;omega)]);refine⟨j, ?_,by rw[o.2.2.1];exact hk⟩;show x∈(if j=i then T i++[a]else T j);split
 .rename_i q;subst q;exact Lg _ hj
 .exact hj
def NewOk.ob0{h h':Heap}{T:Nat->List Int}{hd:Header}{i:Nat}{a:Int}(n:NewOk h h' T hd i a):Ob h' (λj=>if j=i then T i++[a]else T j) a :=
 ⟨i,by simp,n.k⟩
def WG.put{w:WorldM}(h:WG w)(hw:WOk w.heap.W){hd:Header}(hm:0<=hd.map/\hd.map<=4294967295):WG (w.put hd):=by
 unfold WorldM.put;split
 .rename_i e;obtain⟨T,g,g1,g2⟩:=h;obtain⟨i,n⟩:=g.newOk hw hm e;refine⟨_,n.g,λr hr=>?_,λr hr=>?_⟩
  .rcases Ld.1 hr with hr | hr
   .rcases g1 r hr with q | q
    .exact O q
    .exact La (n.ob q)
   .have:=Lf.1 hr;subst this;exact La n.ob0
  .rcases g2 r hr with q | q
   .exact O q
   .exact La (n.ob q)
 .exact h
def WG.pick{w:WorldM}{T:Nat->List Int}(g1:RtOb w.heap T w.G)(g2:RtOb w.heap T w.E)(t:Tape):w.pick t=0\/Ob w.heap T (w.pick t):=by
 rcases ZfQ w t with e | e | e
 .exact O e
 .exact g1 _ e
 .exact g2 _ e
def Gd.setf{h:Heap}{T:Nat->List Int}(g:Gd h T)(hw:WOk h.W){a i v:Int}(hv:0<=v/\v<=18446744073709551615)(ha:Ob h T a)(hi:0<=i/\i<(getH h a).1.length)(hp:Z0f (getH h a).1 i=Y->v=0\/Ob h T v):Gd (Z0B h a i v).1 T/\∀ x,Ob h T x->Ob (Z0B h a i v).1 T x:=by
 obtain⟨j,hj,hk⟩:=ha;have f:=g.fields hj hk;obtain⟨s1,s2,s3⟩:=Z4V hw hv (a:=a) (i:=i) (by rw[f.1]) hi;rw[f.1]at hi hp;have q:=g.store (v:=v) ⟨j,hj,hk⟩ hi hp;rw[s1];refine⟨q.1, ?_⟩;rintro x ⟨m,m1,m2⟩;refine⟨m,m1, ?_⟩;have:=(Z1L (q.2 m x m1)).2.2.1;simp only;rw[this];exact m2
def WG.link{w:WorldM}{n:Nat}(h:WG w)(hm:MOk w n)(hn:n<=1000000)(t:Tape):WG (w.link t):=by
 unfold WorldM.link;split
 .rename_i hc;obtain⟨T,g,g1,g2⟩:=h;have hw:=hm.wm hn;have gg:=Z45 hc.1;have n1:=Z0T (w.pickT (w.pickT t)) (n:=8) dd;have hi:0<=Z4m w t/\Z4m w t<(getH w.heap (w.pick t)).1.length:=by
   unfold Z4m;rw[LF n1.1];exact⟨LD _ oq,Lw _ oq⟩
  have hv:0<=Z4t w t/\Z4t w t<=18446744073709551615:=by
   unfold Z4t;split
   .exact Z31 hw _
   .have:=Z0T ((w.pickT (w.pickT t)).step 8) (n:=1048576) dd;omega
  have ho:Ob w.heap T (w.pick t):=by
   rcases WG.pick g1 g2 t with q | q
   .omega
   .exact q
  have s:=g.setf hm.W hv ho hi (λq=>by
   unfold Z4t;rw[if_pos q];exact WG.pick g1 g2 _)
  exact⟨T,s.1,λr hr=>(g1 r hr).imp id (s.2 r),λr hr=>(g2 r hr).imp id (s.2 r)⟩
 .exact h
def WG.pinned{w:WorldM}(h:WG w){i:Nat}{d:Int}(hp:Z02 (pinB w i d).heap=Y)(hi:i<w.heap.P.length)(hd:d=-1\/0<(w.heap.P.getD i X).N\/(w.heap.P.getD i X).K=2\/(crowd w.heap.P:Int)<w.heap.C.pg/4):WG (pinB w i d):=by
 obtain⟨T,g,g1,g2⟩:=h;have pp:=Z0J g.p hi;have ks:∀ j,j<w.heap.P.length->((pinB w i d).heap.P.getD j X).K=(w.heap.P.getD j X).K/\((pinB w i d).heap.P.getD j X).S=(w.heap.P.getD j X).S/\((pinB w i d).heap.P.getD j X).U=(w.heap.P.getD j X).U:=by
  intro j hj;simp only[pinB];rw[Z0p hi];split
  .rename_i q;subst q;exact⟨rfl,rfl,rfl⟩
  .exact⟨rfl,rfl,rfl⟩
 have hcr:(crowd (pinB w i d).heap.P:Int)<=w.heap.C.pg/4:=by
  have c0:=g.cr;have mono:(0<(w.heap.P.getD i X).N+d->(w.heap.P.getD i X).K=1->0<(w.heap.P.getD i X).N)->(crowd (pinB w i d).heap.P:Int)<=w.heap.C.pg/4:=by
   intro hh;have:crowd (pinB w i d).heap.P<=crowd w.heap.P:=by
    refine Z7c (by simp[pinB]) λj hj q1 q2=>?_;simp only[pinB]at q1 q2;rw[Z0p hi]at q1 q2;split at q1
    .rename_i c;rw[if_pos c]at q2;subst c;exact⟨q1,hh q2 q1⟩
    .rename_i c;rw[if_neg c]at q2;exact⟨q1,q2⟩
   omega
  rcases hd with q | q | q | q
  .exact mono oq
  .exact mono oq
  .exact mono oq
  .have:=(Zb7 (p:=⟨(w.heap.P.getD i X).K,(w.heap.P.getD i X).S,(w.heap.P.getD i X).U,(w.heap.P.getD i X).N+d⟩) hi w.heap.P.length).1;have e:crowd (pinB w i d).heap.P=Z0y (w.heap.P.set i ⟨(w.heap.P.getD i X).K,(w.heap.P.getD i X).S,(w.heap.P.getD i X).U,(w.heap.P.getD i X).N+d⟩) w.heap.P.length:=by
    simp only[crowd,pinB,Lj]
   have e2:crowd w.heap.P=Z0y w.heap.P w.heap.P.length:=rfl;omega
 exact⟨T,g.P hp rfl rfl rfl (by simp[pinB]) ks hcr,g1,g2⟩
def WG.pok{w:WorldM}(h:WG w):POk w:=by
 obtain⟨T,g,g1,g2⟩:=h;have k:∀ l,RtOb w.heap T l->∀ r∈l,RootOn w.heap r:=λl hl r hr=>by
  rcases hl r hr with rfl | ⟨j,hj,_⟩
  .exact ZoH _
  .intro _;rw[g.ofx hj];simpa using (g.on hj).2.1
 exact⟨g.p,k _ g1,k _ g2⟩
def WG.pin{w:WorldM}{n:Nat}(h:WG w)(hm:MOk w n)(hn:n<=1000000)(t:Tape):WG (w.pin t):=by
 have p1:=(h.pok.pin hm hn t).p;unfold WorldM.pin at p1 ⊢;split
 .rename_i e;rw[if_pos e]at p1;have o:=Z2L hm.hv e;have hpl:=hm.pl;have hi:pinI w t<w.heap.P.length:=by unfold pinI;omega
  split
  .rename_i c;rw[if_pos c]at p1;exact h.pinned p1 hi (O rfl)
  .rename_i c;rw[if_neg c]at p1;split
   .rename_i c2;rw[if_pos c2]at p1;exact h.pinned p1 hi (La c2)
   .exact h
 .exact h
def WG.drop{w:WorldM}(h:WG w)(t:Tape):WG (w.drop t):=by
 unfold WorldM.drop;split
 .rename_i hl;obtain⟨T,g,g1,g2⟩:=h;have n1:=Z0T t (n:=(w.G.length:Int)) oq;refine⟨T,g,λr hr=>?_,λr hr=>?_⟩
  .rcases Ld.1 hr with hr | hr
   .exact g1 r (LC hr)
   .exact g1 r (LB hr)
  .simp only at hr;split at hr
   .rcases Ld.1 hr with hr | hr
    .exact g2 r hr
    .simp only[Lf]at hr;subst hr;refine g1 _ (getD_mem_iff.2 ⟨_, ?_,rfl⟩);unfold ZiM;omega
   .exact g2 r hr
 .exact h
def WG.dup{w:WorldM}(h:WG w)(t:Tape):WG (w.dup t):=by
 obtain⟨T,g,g1,g2⟩:=h;refine⟨T,g,λr hr=>?_,g2⟩;rcases Ld.1 hr with hr | hr
 .exact g1 r hr
 .simp only[Lf]at hr;subst hr;exact WG.pick g1 g2 _
def ZbD(t:Tape):WG t.empty:=by
 have hpr:=(ZiC t).p;have hv:=Z39 t;have hb:=validB_iff.1 hv;have hz:∀ j,(t.empty.heap.P.getD j X).K=0/\(t.empty.heap.P.getD j X).N=0:=by
  intro j;simp only[Tape.empty,Z3f,Le,LI];split
  .exact⟨rfl,rfl⟩
  .exact⟨rfl,rfl⟩
 refine⟨λ_=>[],⟨hpr, ?_, ?_, ?_,by simp, ?_,by simp, ?_⟩,by simp[RtOb,Tape.empty],by simp[RtOb,Tape.empty]⟩
 .intro i _ hk;exact absurd (hz i).1 hk
 .intro i _ hk;rw[(hz i).1]at hk;omega
 .intro i _ hk;rw[(hz i).1]at hk;omega
 .intro a ha;exfalso;apply ha;show(loadA (Lc (t.C.pw*t.C.pg).toNat 0) a).1=0;unfold loadA;by_cases c:4096<=a/\a<4096+((Lc (t.C.pw*t.C.pg).toNat (0:Int)).length:Int)
  .rw[if_pos c];simp only[Le,LI];split<;>rfl
  .rw[if_neg c]
 .have:crowd t.empty.heap.P=0:=by
   have h0:∀ n,Z0y t.empty.heap.P n=0:=by
    intro n;induction n with
    | zero=>rfl
    | succ n ih =>
     unfold Z0y;rw[ih,if_neg (by rw[(hz n).1];omega)]
   exact h0 _
  rw[this];show(0:Int)<=t.C.pg/4;omega
def Z4G{w:Work}{n:Int}(hw:WkOk w)(hn:1<=n/\n<=w.heap.C.pw)(h:(w.place n).2.2=Y) :
  ∃ (i:Nat) (p:Page) (t:List Int),i<w.heap.P.length/\((w.heap.P.getD i X).K=0/\t=w.T++[(i:Int)]/\p.N=0\/(i:Int)∈w.T/\(w.heap.P.getD i X).K=1/\t=w.T/\p.N=(w.heap.P.getD i X).N)/\p.K=1/\p.U=occP (w.heap.P.getD i X)+n/\occP (w.heap.P.getD i X)+n<=w.heap.C.pw/\0<=occP (w.heap.P.getD i X)/\(w.place n).2.1=4096+i*w.heap.C.pw+occP (w.heap.P.getD i X) /\
  (w.place n).1=⟨⟨w.heap.C,w.heap.W,w.heap.P.set i p,w.heap.S,w.heap.B⟩,w.old,t,w.Q,w.D,w.rep⟩:=by
 by_cases hf:Z2A w n
 .have e:w.place n=(⟨⟨w.heap.C,w.heap.W,Z1C w.heap.P (Z0o w).toNat n,w.heap.S,w.heap.B⟩,w.old,w.T,w.Q,w.D,w.rep⟩,4096+Z0o w*w.heap.C.pw+(w.heap.P.getD (Z0o w).toNat X).U,Y):=by rw[Work.place,if_pos hf]
  unfold Z2A at hf;have hm:=hw.tk _ (Z18 hf.1);have hu:=hw.us (Z0o w).toNat oq
  have hoc:occP (w.heap.P.getD (Z0o w).toNat X)=(w.heap.P.getD (Z0o w).toNat X).U:=by rw[occP,if_neg oq]
  have hle:(((Z0o w).toNat:Nat):Int)=Z0o w:=by omega
  refine⟨(Z0o w).toNat,⟨(w.heap.P.getD (Z0o w).toNat X).K,(w.heap.P.getD (Z0o w).toNat X).S,(w.heap.P.getD (Z0o w).toNat X).U+n,(w.heap.P.getD (Z0o w).toNat X).N⟩,w.T,by omega,La ⟨by rw[hle];exact Z18 hf.1,hm.2.2,rfl,rfl⟩,hm.2.2, ?_,by rw[hoc];omega,by rw[hoc];omega, ?_, ?_⟩
  .rw[hoc]
  .rw[e,hoc,hle]
  .rw[e,Z3z]
 .by_cases hg:0<=Z0g w
  .have e:w.place n=(⟨⟨w.heap.C,w.heap.W,Z1C (Z1Z w) (Z0g w).toNat n,w.heap.S,w.heap.B⟩,w.old,w.T++[Z0g w],w.Q,w.D,w.rep⟩,4096+Z0g w*w.heap.C.pw,Y):=by rw[Work.place,if_neg hf,if_pos hg]
   obtain⟨g1,g2,g3⟩:=Z30 (h:=⟨w.heap.C,w.heap.W,w.heap.P,1-w.heap.S,w.heap.B⟩) (by have:=hw.sp;simp only;omega) hg n;have g1':Z1C (Z1Z w) (Z0g w).toNat n=w.heap.P.set (Z0g w).toNat ⟨1,1-w.heap.S,n,0⟩:=g1;have g2':(w.heap.P.getD (Z0g w).toNat X).K=0:=g2;have g3':(Z0g w).toNat<w.heap.P.length:=g3;have hoc:occP (w.heap.P.getD (Z0g w).toNat X)=0:=by rw[occP,if_pos g2']
   have hle:(((Z0g w).toNat:Nat):Int)=Z0g w:=by omega
   refine⟨(Z0g w).toNat,⟨1,1-w.heap.S,n,0⟩,w.T++[Z0g w],g3',O ⟨g2',by rw[hle],rfl⟩,rfl,by rw[hoc];simp,by rw[hoc];omega,by rw[hoc];omega, ?_, ?_⟩
   .rw[e,hoc,hle];simp
   .rw[e,g1']
  .rw[Work.place,if_neg hf,if_neg hg]at h;simp at h
structure KI (h:Heap) (T tq:Nat->List Int) (w:Work):Prop where
 c:w.heap.C=h.C
 sp:w.heap.S=h.S
 old:∀ x,x∈w.old↔Ob h T x
 pl:w.heap.P.length=h.P.length
 wl:w.heap.W.length=h.W.length
 pg:∀ i:Nat,(i:Int)∉w.T->(w.heap.P.getD i X).K=(h.P.getD i X).K/\(w.heap.P.getD i X).U=(h.P.getD i X).U/\(w.heap.P.getD i X).N=(h.P.getD i X).N
 tk:∀ i:Nat,(i:Int)∈w.T->i<h.P.length/\(h.P.getD i X).K=0/\(w.heap.P.getD i X).K=1/\(w.heap.P.getD i X).N=0/\(w.heap.P.getD i X).U<=h.C.pw/\tile w.heap.W (bsP h i) (bsP h i+(w.heap.P.getD i X).U) (tq i)/\∀ x∈tq i,x∈w.Q/\kdA w.heap.W x≠0/\hlA w.heap.W x+1<=Z00 h.C
 tk0:∀ i:Nat,(i:Int)∉w.T->tq i=[]
 q:∀ x∈w.Q,(∃ i:Nat,(i:Int)∉w.T/\x∈T i/\kdA h.W x≠0/\(w.heap.P.getD i X).S≠w.heap.S)\/(∃ i:Nat,(i:Int)∈w.T/\x∈tq i)
 hd:∀ i x,x∈T i->(loadA w.heap.W x).1=(loadA h.W x).1\/((Z08 (loadA w.heap.W x).1).2=Y/\(w.heap.P.getD i X).K=1/\(w.heap.P.getD i X).S=w.heap.S)
 dt:∀ a,(loadA w.heap.W a).1≠0->(∃ i x,x∈T i/\x<=a/\a<x+kpA h.W x)\/(∃ i:Nat,(i:Int)∈w.T/\bsP h i<=a/\a<bsP h i+(w.heap.P.getD i X).U)
 lg:∀ i:Nat,(h.P.getD i X).K=2->(w.heap.P.getD i X).S≠w.heap.S->bsP h i∈w.Q
section
variable {h:Heap} {T:Nat->List Int} (g:Gd h T)
include g
theorem KI.nt{tq:Nat->List Int}{w:Work}(k:KI h T tq w){i:Nat}{x:Int}(hx:x∈T i):(i:Int)∉w.T:=by
 intro q;have:=(k.tk i q).2.1;have:=(g.t0 i x hx).2;omega
theorem KI.sepT{tq:Nat->List Int}{w:Work}(k:KI h T tq w){i j:Nat}{x y:Int}(hi:(i:Int)∈w.T)(hx:x∈tq i)(hy:y∈T j):bsP h i<=x/\x+hlA w.heap.W x<bsP h i+h.C.pw/\(y+hlA h.W y<bsP h i\/bsP h i+h.C.pw<=y):=by
 have t:=k.tk i hi;have m:=Z1J t.2.2.2.2.2.1 hx;have f:=g.free t.1 (O t.2.1) hy;rw[occP,if_pos t.2.1]at f;exact⟨m.2.1,by omega,by omega⟩
omit g in
theorem KI.sepQ(g:Gd h T){tq:Nat->List Int}{w:Work}(k:KI h T tq w){i j:Nat}{x y:Int}(hi:(i:Int)∈w.T)(hx:x∈tq i)(hj:(j:Int)∈w.T)(hy:y∈tq j)(hxy:x<y):x+hlA w.heap.W x<y:=by
 have t:=k.tk i hi;have u:=k.tk j hj;have m:=Z1J t.2.2.2.2.2.1 hx;have n:=Z1J u.2.2.2.2.2.1 hy;have po:=Z06 g.p;have r:=Z0b w.heap.W y;unfold bsP at m n;rcases LL i j with q | q | q
 .have:=Z17 (i:=i) (j:=j) (pw:=h.C.pw) oq oq;omega
 .subst q;exact ZbH t.2.2.2.2.2.1 hx hy hxy
 .have:=Z17 (i:=j) (j:=i) (pw:=h.C.pw) oq oq;omega
theorem KI.withWords{tq:Nat->List Int}{w:Work}(k:KI h T tq w){l:List Int}(hl:l.length=w.heap.W.length)(h1:∀ i x,x∈T i->(loadA l x).1=(loadA w.heap.W x).1)(h2:∀ (i:Nat) x,(i:Int)∈w.T->x∈tq i->(loadA l x).1=(loadA w.heap.W x).1)
  (h3:∀ a,(loadA l a).1≠0->(loadA w.heap.W a).1≠0\/(∃ i x,x∈T i/\x<=a/\a<x+kpA h.W x)\/(∃ i:Nat,(i:Int)∈w.T/\bsP h i<=a/\a<bsP h i+(w.heap.P.getD i X).U)) :
  KI h T tq ⟨⟨w.heap.C,l,w.heap.P,w.heap.S,w.heap.B⟩,w.old,w.T,w.Q,w.D,w.rep⟩:=by
 refine⟨k.c,k.sp,k.old,k.pl,hl.trans k.wl,k.pg, ?_,k.tk0,k.q, ?_, ?_,k.lg⟩
 .intro i hi;obtain⟨t1,t2,t3,t4,t5,t6,t7⟩:=k.tk i hi;have ky:=λx hx=>Z1L (h2 i x hi hx);refine⟨t1,t2,t3,t4,t5,Z2D t6 λx hx=>⟨(ky x hx).1 (Z1J t6 hx).1,(ky x hx).2.1⟩,λx hx=>?_⟩;have:=t7 x hx;simp only;rw[(ky x hx).2.2.1,(ky x hx).2.1];exact this
 .intro i x hx;simp only;rw[h1 i x hx];exact k.hd i x hx
 .intro a ha;rcases h3 a ha with q | q
  .exact k.dt a q
  .exact q
theorem KI.keep{tq:Nat->List Int}{w:Work}(k:KI h T tq w){r:Int}{i:Nat}(hi:r∈T i)(hk:kdA h.W r≠0)(hs:(w.heap.P.getD i X).S≠w.heap.S):KI h T tq (w.keep r):=by
 refine⟨k.c,k.sp,k.old,k.pl,k.wl,k.pg, ?_,k.tk0, ?_,k.hd,k.dt, ?_⟩
 .intro j hj;obtain⟨t1,t2,t3,t4,t5,t6,t7⟩:=k.tk j hj;exact⟨t1,t2,t3,t4,t5,t6,λx hx=>⟨Lg _ (t7 x hx).1,(t7 x hx).2⟩⟩
 .intro x hx;simp only[Work.keep,Ld,Lf]at hx;rcases hx with hx | rfl
  .exact k.q x hx
  .exact O ⟨i,k.nt g hi,hi,hk,hs⟩
 .intro j h1 h2;exact Lg _ (k.lg j h1 h2)
theorem KI.flip{tq:Nat->List Int}{w:Work}(k:KI h T tq w)(hw:WkOk w){r:Int}{i:Nat}(hi:r∈T i)(hk:kdA h.W r≠0)(h2:(w.heap.P.getD i X).K=2):KI h T tq ((w.flip i).keep r):=by
 have hil:=(g.t0 i r hi).1;have hpl:=k.pl;have hsp:=hw.sp;have hu:∀ j,((Z0s w.heap.P i (Z0i w.heap.P i) (1-w.heap.S)).getD j X).K=(w.heap.P.getD j X).K/\((Z0s w.heap.P i (Z0i w.heap.P i) (1-w.heap.S)).getD j X).U=(w.heap.P.getD j X).U/\((Z0s w.heap.P i (Z0i w.heap.P i) (1-w.heap.S)).getD j X).N=(w.heap.P.getD j X).N:=by
  intro j;by_cases hj:j<w.heap.P.length
  .rw[Z1u hj];split
   .exact⟨rfl,rfl,rfl⟩
   .exact⟨rfl,rfl,rfl⟩
  .rw[Le,Le,Ln (by rw[Z1j];omega),Ln oq];exact⟨rfl,rfl,rfl⟩
 have hs1:∀ j,(w.heap.P.getD j X).K=1->((Z0s w.heap.P i (Z0i w.heap.P i) (1-w.heap.S)).getD j X).S=(w.heap.P.getD j X).S:=by
  intro j hj;by_cases hjl:j<w.heap.P.length
  .rw[Z1u hjl];split
   .rename_i c;exfalso;by_cases q:j=i
    .subst q;omega
    .have:=(Z6l (l:=w.heap.P) (i:=i) (m:=j-i-1) oq).2;rw[show i+1+(j-i-1)=j by omega]at this;omega
   .rfl
  .rw[Le,Le,Ln (by rw[Z1j];omega),Ln oq]
 have hs2:∀ j,(w.heap.P.getD j X).S≠w.heap.S->((Z0s w.heap.P i (Z0i w.heap.P i) (1-w.heap.S)).getD j X).S≠w.heap.S:=by
  intro j hj;by_cases hjl:j<w.heap.P.length
  .rw[Z1u hjl];split
   .simp only[Z8K];omega
   .exact hj
  .rw[Le,Ln (by rw[Z1j];omega)];rw[Le,Ln oq]at hj;exact hj
 have hs3:∀ j,(w.heap.P.getD j X).K=2->j≠i->((Z0s w.heap.P i (Z0i w.heap.P i) (1-w.heap.S)).getD j X).S=(w.heap.P.getD j X).S:=by
  intro j hj hne;by_cases hjl:j<w.heap.P.length
  .rw[Z1u hjl];split
   .rename_i c;exfalso;have:=(Z6l (l:=w.heap.P) (i:=i) (m:=j-i-1) oq).2;rw[show i+1+(j-i-1)=j by omega]at this;omega
   .rfl
  .rw[Le,Ln oq]at hj;have d:(X:Page).K=0:=rfl;simp only[LM]at hj;omega
 have hsi:((Z0s w.heap.P i (Z0i w.heap.P i) (1-w.heap.S)).getD i X).S≠w.heap.S:=by
  rw[Z1u oq,if_pos ⟨Li _,L6 _ _⟩];simp only[Z8K];omega
 have kf:KI h T tq ⟨⟨w.heap.C,w.heap.W,Z0s w.heap.P i (Z0i w.heap.P i) (1-w.heap.S),w.heap.S,w.heap.B⟩,w.old,w.T,w.Q++[r],w.D,w.rep⟩:=by
  refine⟨k.c,k.sp,k.old,by simp only[Z1j];exact k.pl,k.wl, ?_, ?_,k.tk0, ?_, ?_, ?_, ?_⟩
  .intro j hj;simp only[hu];exact k.pg j hj
  .intro j hj;simp only[hu];obtain⟨t1,t2,t3,t4,t5,t6,t7⟩:=k.tk j hj;exact⟨t1,t2,t3,t4,t5,t6,λx hx=>⟨Lg _ (t7 x hx).1,(t7 x hx).2⟩⟩
  .intro x hx;simp only[Ld,Lf]at hx;rcases hx with hx | rfl
   .rcases k.q x hx with⟨j,j1,j2,j3,j4⟩ | q
    .exact O ⟨j,j1,j2,j3,hs2 j j4⟩
    .exact La q
   .exact O ⟨i,k.nt g hi,hi,hk,hsi⟩
  .intro j x hx;rcases k.hd j x hx with q | q
   .exact O q
   .refine La ⟨q.1, ?_, ?_⟩
    .simp only[hu];exact q.2.1
    .simp only;rw[hs1 j q.2.1];exact q.2.2
  .intro a ha;simp only[hu];exact k.dt a ha
  .intro j h1 h2';simp only at h2' ⊢;by_cases q:j=i
   .subst q;have:=(g.on hi).2.2.2.2.2.2 h1;rw[<- this.1];simp
   .have hjt:(j:Int)∉w.T:=λq=>by have:=(k.tk j q).2.1;omega
    rw[hs3 j (by rw[(k.pg j hjt).1];exact h1) q]at h2';exact Lg _ (k.lg j h1 h2')
 exact⟨kf.c,kf.sp,kf.old,kf.pl,kf.wl,kf.pg,kf.tk,kf.tk0,kf.q,kf.hd,kf.dt,kf.lg⟩
end
end Go.Proofs.YtdhchmlalchgeaaGreat
