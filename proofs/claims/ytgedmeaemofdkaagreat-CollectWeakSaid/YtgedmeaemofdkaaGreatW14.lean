/-
 The statement CollectWeak: part 14.
 Conditions: none.
-/
import Derived.Test.YtgedmeaemofdkaaGreatW13
set_option maxRecDepth 100000
set_option maxHeartbeats 2000000
set_option linter.all false
open Inhabited renaming default->M
open List renaming map->O,length_map->Lb,getD_eq_getElem?_getD->Ld,getElem?_eq_getElem->Li,ext_getElem->Lk,getElem_map->Ll,map_set->Lm,replicate->Ln,getElem?_eq_none->Lw,getElem?_map->Lx,getElem_range->Ly,getElem_set->Lz,length_set->LA,mem_append_left->LB,mem_append_right->LC,range->LD
open Decidable renaming decide->La
open Option renaming some->Lc,map_eq_some_iff->Lo
open Nat renaming beq->Le,le_refl->Lj,eq_of_beq_eq_true->LF
open Or renaming inl->Lf,inr->Lg
open Int renaming le_refl->Lh,ediv_lt_of_lt_mul->Lp,ediv_nonneg->Lq,emod_lt_of_pos->Lr,emod_nonneg->Ls,mul_comm->Lt,mul_ediv_add_emod->Lu,toNat_natCast->Lv
open Go.Proofs.Tryz
namespace Go.Proofs.YtgedmeaemofdkaaGreat
open Go.Sx
def BK(l:List Z0)(i m:Nat):List Z0:=(LD l.length).map λj=>if i<=j/\j<=i+m then⟨0,0,0,0⟩else l.getD j M
def MS l i m:(BK l i m).length=l.length:=by simp[BK]
def Z8k{l:List Z0}{i m j:Nat}(h:j<l.length):(BK l i m).getD j M=if i<=j/\j<=i+m then⟨0,0,0,0⟩else l.getD j M:=by rw[Ld,Li (by rw[MS];exact h)];simp[BK]
def ZiY{l i}:BK l i 0=l.set i ⟨0,0,0,0⟩:=by
 refine Lk (by simp[BK]) λj h1 b=>?_;have h:j<l.length:=by simpa using b
 have e:l.getD j M=l[j]:=by simp[Ld,h]
 simp only[BK,Ll,Ly,Lz,e];by_cases a:i=j;subst a;rw[if_pos oq,if_pos rfl];rw[if_neg oq,if_neg a]
def ZfC{l:List Z0}{i m:Nat}(h:i+1+m<l.length):(BK l i m).set (i+1+m) ⟨0,0,0,0⟩=BK l i (m+1):=by
 refine Lk (by simp[BK]) λj h1 c=>?_;have h:j<l.length:=by simpa[BK]using c
 simp only[BK,Ll,Ly,Lz];by_cases a:i+1+m=j;subst a;rw[if_pos rfl,if_pos oq];rw[if_neg a];by_cases b:i<=j/\j<=i+m;rw[if_pos b,if_pos oq];rw[if_neg b,if_neg oq]
def Z7A{l i m}:(BK l i m).getD (i+1+m) M=l.getD (i+1+m) M:=by by_cases h:i+1+m<l.length;rw[Z8k h,if_neg oq];rw[Ld,Ld,Lw (by rw[MS];omega),Lw oq]
def Mi(l:List Z0)(i:Int)(m:Nat):Tg:=⟨tm 59 [(4,.d (.sl 0 [])),(5,int 0),(6,int (l.getD i.toNat M).K),(7,.ow 41029),(8,int (i+1+m))],[(41029,.arr 86 4 ((BK l i.toNat m).map Z0.dv))],60⟩
section
variable (l:List Z0) (i:Int) (hl:l.length<=1048576) (hi:0<=i/\i<l.length) (hk:(l.getD i.toNat M).K=2)
include hl hi hk
theorem Zeb(m:Nat)(hm:m<ZC l i.toNat):CP (Zm f136 0) (Mi l i m).st .nrm (Mi l i (m+1)).st:=by
 obtain⟨t1,t2⟩:=Rp hm;have ha:=Z7A (l:=l) (i:=i.toNat) (m:=m);have hq:=ZfC (l:=l) (i:=i.toNat) (m:=m) t1;have hn:=MS l i.toNat m;have eN:i.toNat+1+m=(i+1+(m:Int)).toNat:=by omega
 rw[eN]at ha hq t2;have t3:((BK l i.toNat m).getD (i+1+(m:Int)).toNat M).K=3:=by rw[ha];exact t2
 exact sF [] (fP 14) (Fh 10057 [.els (O Z0.dv ((BK l i.toNat m).set (i+1+(m:Int)).toNat (Z0.mk 0 0 0 0)))] (FlG 41 ((l.getD i.toNat M).K==2) Z0.dv (BK l i.toNat m) (FmGq 49 ((l.getD i.toNat M).K==2&&La (i+1+(m:Int)<(↑(BK l i.toNat m).length:Int))) Z0.dv (BK l i.toNat m) (i+1+(m:Int)) (Ftb 51 ((l.getD i.toNat M).K==2&&La (i+1+(m:Int)<(↑(BK l i.toNat m).length:Int))&&((BK l i.toNat m).getD (i+1+(m:Int)).toNat M).K==3) (Fa (by(simp only[Lb];omega):0<=i+1+(m:Int)/\(i+1+(m:Int)).toNat<(O Z0.dv (BK l i.toNat m)).length) (Fa (by(simp only[Lb];omega):(i+1+(m:Int)).toNat<(O Z0.dv (BK l i.toNat m)).length) (Fa (by rw[Lm];rfl:(O Z0.dv (BK l i.toNat m)).set (i+1+(m:Int)).toNat [Zn 0,Zn 0,Zn 0,Zn 0]=O Z0.dv ((BK l i.toNat m).set (i+1+(m:Int)).toNat (Z0.mk 0 0 0 0))) (Fi 53 (i+1+(m:Int)+1) (Fo (i+1+(m:Int)+1=i+1+(↑(m+1):Int)) (Fr (86:Int) (Fa (by refine congrArg _ ?_;assumption:O Z0.dv ((BK l i.toNat m).set (i+1+(m:Int)).toNat (Z0.mk 0 0 0 0))=O Z0.dv (BK l i.toNat (m+1))) Fz)))))))))))
theorem Zge:CP (Zm f136 0) (Mi l i (ZC l i.toNat)).st (.ext 0) (Tg.st ⟨tm 59 [(4,.d (.sl 0 [])),(5,int 0),(7,.ow 41029)],[(41029,.arr 86 4 ((BK l i.toNat (ZC l i.toNat)).map Z0.dv))],60⟩):=by
 have ha:=Z7A (l:=l) (i:=i.toNat) (m:=ZC l i.toNat);have hn:=MS l i.toNat (ZC l i.toNat);have eN:i.toNat+1+ZC l i.toNat=(i+1+(ZC l i.toNat:Int)).toNat:=by omega
 have t3:(i+1+(ZC l i.toNat:Int))<l.length->¬ ((BK l i.toNat (ZC l i.toNat)).getD (i+1+(ZC l i.toNat:Int)).toNat M).K=3:=λh=>by(rw[<-eN,ha];exact Mb oq)
 by_cases h:(i+1+(ZC l i.toNat:Int))<l.length;have t4:=t3 h;exact sF [] [] (FlG 41 ((l.getD i.toNat M).K==2) Z0.dv (BK l i.toNat (ZC l i.toNat)) (FmGq 49 ((l.getD i.toNat M).K==2&&La (i+1+(↑(ZC l i.toNat):Int)<(↑(BK l i.toNat (ZC l i.toNat)).length:Int))) Z0.dv (BK l i.toNat (ZC l i.toNat)) (i+1+(↑(ZC l i.toNat):Int)) (Ffb 51 ((l.getD i.toNat M).K==2&&La (i+1+(↑(ZC l i.toNat):Int)<(↑(BK l i.toNat (ZC l i.toNat)).length:Int))&&((BK l i.toNat (ZC l i.toNat)).getD (i+1+(↑(ZC l i.toNat):Int)).toNat M).K==3) Fz)));exact sF [] [] (FlG 41 ((l.getD i.toNat M).K==2) Z0.dv (BK l i.toNat (ZC l i.toNat)) (FmGq 49 ((l.getD i.toNat M).K==2&&La (i+1+(↑(ZC l i.toNat):Int)<(↑(BK l i.toNat (ZC l i.toNat)).length:Int))) Z0.dv (BK l i.toNat (ZC l i.toNat)) (i+1+(↑(ZC l i.toNat):Int)) (Ffb 51 ((l.getD i.toNat M).K==2&&La (i+1+(↑(ZC l i.toNat):Int)<(↑(BK l i.toNat (ZC l i.toNat)).length:Int))&&((BK l i.toNat (ZC l i.toNat)).getD (i+1+(↑(ZC l i.toNat):Int)).toNat M).K==3) Fz)))
theorem Zip:CP (Zi f136 0) (Tg.st ⟨tm 59 [(4,.d (.sl 0 [])),(5,int 0),(6,int (l.getD i.toNat M).K),(7,.ow 41029),(8,int (i+1))],[(41029,.arr 86 4 ((l.set i.toNat ⟨0,0,0,0⟩).map Z0.dv))],60⟩) .nrm (Tg.st ⟨tm 59 [(4,.d (.sl 0 [])),(5,int 0),(7,.ow 41029)],[(41029,.arr 86 4 ((BK l i.toNat (ZC l i.toNat)).map Z0.dv))],60⟩):=by have h:=Bs (S:=λj=>(Mi l i j).st) (ZC l i.toNat) kr (λj a=>Zeb l i hl hi hk j a) (Zge l i hl hi hk);simp only[Mi,ZiY]at h;rw[show i+1+((0:Nat):Int)=i+1 from by omega]at h;exact h
end
def Z4U(l:List Z0)(i:Int):Tg:=⟨tm 59 [(4,.d (.sl 0 [])),(5,int 0),(6,int (l.getD i.toNat M).K),(7,.ow 41029),(8,int (i+1))],[(41029,.arr 86 4 ((l.set i.toNat ⟨0,0,0,0⟩).map Z0.dv))],60⟩
def ZaI(l:List Z0)(i:Int)(hl:l.length<=1048576)(hi:0<=i/\i<l.length)(hk:(l.getD i.toNat M).K=1):CP (Zm f136 0) (Z4U l i).st (.ext 0) (Tg.st ⟨tm 59 [(4,.d (.sl 0 [])),(5,int 0),(7,.ow 41029)],[(41029,.arr 86 4 ((l.set i.toNat ⟨0,0,0,0⟩).map Z0.dv))],60⟩):=by exact sF [] [] (Fh 41 [.int ↑l.length] (Fa (by intro hg;(try simp only[bs]at hg);simp only[Lb,List.length_append,List.length_take,List.length_drop,LA,List.length_replicate,List.length_nil,List.length_cons]:((l.getD i.toNat M).K==2)=true->(↑(O Z0.dv (l.set i.toNat (Z0.mk 0 0 0 0))).length:Int)=(l.length:Int)) (FmGq 49 ((l.getD i.toNat M).K==2&&La (i+1<(l.length:Int))) Z0.dv (l.set i.toNat (Z0.mk 0 0 0 0)) (i+1) (Ffb 51 ((l.getD i.toNat M).K==2&&La (i+1<(l.length:Int))&&((l.set i.toNat (Z0.mk 0 0 0 0)).getD (i+1).toNat M).K==3) Fz))))
def ZjZ(l:List Z0)(i:Int)(hl:l.length<=1048576)(a:0<=i/\i<l.length)(c:(l.getD i.toNat M).K=1)  := Bs (S:=λ_=>(Z4U l i).st) 0 (by kernel_rfl) (λj b=>absurd b (Nat.not_lt_zero j)) (ZaI l i hl a c)
def Zfo(l:List Z0)(i:Int)(hl:l.length<=1048576)(hi:0<=i/\i<l.length)(hk:(l.getD i.toNat M).K=1):GP 136 [ZZ l,int i] true (.tu [ZZ (l.set i.toNat ⟨0,0,0,0⟩),int 0]) []:=by have hne:l≠[]:=A7 oq;let y0:=l.set i.toNat (Z0.mk 0 0 0 0);exact gF [] func136 [] (Fh 10033 [.els (O Z0.dv y0)] (FlG 14 (!decide (i<0)) Z0.dv l (Ffb 16 (La (i<0)||La ((l.length:Int)<=i)) (Fe 19 Z0.dv l i (Ffb 27 ((l.getD i.toNat M).K != 1&&(l.getD i.toNat M).K != 2) (Fc 29 (@Z2V l aa) (Fa (by(simp only[Lb];omega):0<=i/\i.toNat<(O Z0.dv l).length) (Fa (by(simp only[Lb];omega):i.toNat<(O Z0.dv l).length) (Fa (by rw[Lm];rfl:(O Z0.dv l).set i.toNat [Zn 0,Zn 0,Zn 0,Zn 0]=O Z0.dv y0) (Fi 35 (i+1) (Fu (@ZjZ l i aa aa aa) (Fa (by exact IC _:Ci (O Z0.dv y0)) Fz))))))))))))
def ZdV(l:List Z0)(i:Int)(hl:l.length<=1048576)(hi:0<=i/\i<l.length)(hk:(l.getD i.toNat M).K=2):GP 136 [ZZ l,int i] true (.tu [ZZ (BK l i.toNat (ZC l i.toNat)),int 0]) []:=by have hne:l≠[]:=A7 oq;exact gF [] func136 [] (Fh 10033 [.els (O Z0.dv (l.set i.toNat (Z0.mk 0 0 0 0)))] (FlG 14 (!decide (i<0)) Z0.dv l (Ffb 16 (La (i<0)||La ((l.length:Int)<=i)) (Fe 19 Z0.dv l i (Ffb 27 ((l.getD i.toNat M).K != 1&&(l.getD i.toNat M).K != 2) (Fc 29 (@Z2V l aa) (Fa (by(simp only[Lb];omega):0<=i/\i.toNat<(O Z0.dv l).length) (Fa (by(simp only[Lb];omega):i.toNat<(O Z0.dv l).length) (Fa (by rw[Lm];rfl:(O Z0.dv l).set i.toNat [Zn 0,Zn 0,Zn 0,Zn 0]=O Z0.dv (l.set i.toNat (Z0.mk 0 0 0 0))) (Fi 35 (i+1) (Fu (@Zip l i aa aa aa) (Fa (by exact IC _:Ci (O Z0.dv (BK l i.toNat (ZC l i.toNat)))) Fz))))))))))))
def frL(w:Z6)(a b:List Z0)(ws:List Int)(n:Int)(i:Nat):Tg:=⟨tm 88 [(0,.pt 0 0 0),(2,.pt 0 0 0),(21,ZZ a),(22,int a.length),(23,int i)],[(0,.box 127 [int w.heap.C.pw,int w.heap.C.pg,.ow 25015,ZZ b,int w.heap.S,int w.heap.B,Z3 w.old,ZE w.T,Z3 w.Q,int w.D,int w.rep.copied,int w.rep.kept,int w.rep.filled,int n,int w.rep.cleared,int w.rep.steps]),(25015,.arr 35 1 (ws.map wdv))],5⟩
section
variable (w:Z6) (qs ps:List Z0) (ws:List Int) (n:Int) (i:Nat) (hl:qs.length<=64) (hi:i<qs.length)
include hl hi
theorem Zg4(c:¬ Cv w.heap.S (qs.getD i M)):CP (Zm f81 0) (frL w qs ps ws n i).st .nrm (frL w qs ps ws n (i+1)).st:=by unfold Cv at c;by_cases d:(qs.getD i M).K=0;exact sF [] [] (Ftb 24 (La ((i:Int)<(qs.length:Int))) (Fek 26 Z0.dv qs (↑i) i (Ftb 39 ((qs.getD i M).K==0||(qs.getD i M).S != w.heap.S) (Fx 87 i Fz))));have d2:¬ (qs.getD i M).S=w.heap.S:=λq=>c ⟨d,q⟩;exact sF [] [] (Ftb 24 (La ((i:Int)<(qs.length:Int))) (Fek 26 Z0.dv qs (↑i) i (Ftb 39 ((qs.getD i M).K==0||(qs.getD i M).S != w.heap.S) (Fx 87 i Fz))))
omit hl hi in
theorem Z2R a m:C8 (O wdv ws) a (Ln m [B1 0])=O wdv (Cf ws a (Ln m 0)):=by simp[C8,wdv,Cf]
theorem ZiC(c:Cv w.heap.S (qs.getD i default))(k3:(qs.getD i default).K=3)(hp:0≤w.heap.C.pw∧w.heap.C.pw≤64)(hw:i*w.heap.C.pw.toNat+w.heap.C.pw.toNat≤ws.length)(hw2:ws.length≤4096)(hn:0≤n∧n≤64):CSpec Tryz.prog (Zm Tryz.f81 0) (frL w qs ps ws n i).st .nrm (frL w qs ps (Cf ws (i*w.heap.C.pw.toNat) (List.replicate w.heap.C.pw.toNat 0)) (n+1) (i+1)).st:=by
 obtain⟨c1,c2⟩:=c
 have em:(i:Int)*w.heap.C.pw=((i*w.heap.C.pw.toNat:Nat):Int):=by rw[Int.natCast_mul,Int.toNat_of_nonneg hp.1]
 have em2:((i+1:Nat):Int)*w.heap.C.pw=((i*w.heap.C.pw.toNat+w.heap.C.pw.toNat:Nat):Int):=by rw[Int.natCast_add,Int.add_mul,em];omega
 have t1:((i:Int)*w.heap.C.pw).toNat=i*w.heap.C.pw.toNat:=by omega
 have t2:(((i+1:Nat):Int)*w.heap.C.pw).toNat-i*w.heap.C.pw.toNat=w.heap.C.pw.toNat:=by omega
 refine Zg [((24:Nat),[Hint.br true]),((26:Nat),[Hint.el (qs.getD i default).dv]),((39:Nat),[Hint.br false]),((50:Nat),[Hint.int ((↑i:Int)*w.heap.C.pw)]),((52:Nat),[Hint.int (↑(i+(1:Nat)):Int)]),((58:Nat),[Hint.int ((↑(i+(1:Nat)):Int)*w.heap.C.pw)]),((20000:Nat),[Hint.els (List.map wdv (List.take ((↑i:Int)*w.heap.C.pw).toNat ws++List.replicate (((↑(i+(1:Nat)):Int)*w.heap.C.pw).toNat-((↑i:Int)*w.heap.C.pw).toNat) (0:Int)++List.drop (((↑i:Int)*w.heap.C.pw).toNat+(List.replicate (((↑(i+(1:Nat)):Int)*w.heap.C.pw).toNat-((↑i:Int)*w.heap.C.pw).toNat) (0:Int)).length) ws))]),((65:Nat),[Hint.int (n+(1:Int))]),((71:Nat),[Hint.br false]),((87:Nat),[Hint.int (↑(i+(1:Nat)):Int)])] [] [] [false,false,false,false,false,false,false,false,false,false,false,false,false,true] (φ:=decide ((↑i:Int)<(↑qs.length:Int))=true∧true=true∧((0:Int)≤(↑i:Int)∧(List.map Z0.dv qs)[(↑i:Int).toNat]?=some (qs.getD i default).dv)∧((qs.getD i default).K==(0:Int)||(qs.getD i default).S != w.heap.S)=false∧false=false∧IntKind.i64.wrap ((↑i:Int)*w.heap.C.pw)=(↑i:Int)*w.heap.C.pw∧IntKind.i64.wrap ((↑i:Int)+(1:Int))=(↑(i+(1:Nat)):Int)∧IntKind.i64.wrap ((↑(i+(1:Nat)):Int)*w.heap.C.pw)=(↑(i+(1:Nat)):Int)*w.heap.C.pw∧((0:Int)≤(↑i:Int)*w.heap.C.pw∧(↑i:Int)*w.heap.C.pw≤(↑(i+(1:Nat)):Int)*w.heap.C.pw∧(↑(i+(1:Nat)):Int)*w.heap.C.pw≤(↑(List.map wdv ws).length:Int))∧C8 (List.map wdv ws) ((↑i:Int)*w.heap.C.pw).toNat (List.replicate (((↑(i+(1:Nat)):Int)*w.heap.C.pw).toNat-((↑i:Int)*w.heap.C.pw).toNat) [B1 (0:Int)])=List.map wdv (List.take ((↑i:Int)*w.heap.C.pw).toNat ws++List.replicate (((↑(i+(1:Nat)):Int)*w.heap.C.pw).toNat-((↑i:Int)*w.heap.C.pw).toNat) (0:Int)++List.drop (((↑i:Int)*w.heap.C.pw).toNat+(List.replicate (((↑(i+(1:Nat)):Int)*w.heap.C.pw).toNat-((↑i:Int)*w.heap.C.pw).toNat) (0:Int)).length) ws)∧IntKind.i64.wrap (n+(1:Int))=n+(1:Int)∧((qs.getD i default).K != (3:Int))=false∧false=false∧IntKind.i64.wrap ((↑i:Int)+(1:Int))=(↑(i+(1:Nat)):Int)∧(35:Int)=(35:Int)∧List.map wdv (List.take ((↑i:Int)*w.heap.C.pw).toNat ws++List.replicate (((↑(i+(1:Nat)):Int)*w.heap.C.pw).toNat-((↑i:Int)*w.heap.C.pw).toNat) (0:Int)++List.drop (((↑i:Int)*w.heap.C.pw).toNat+(List.replicate (((↑(i+(1:Nat)):Int)*w.heap.C.pw).toNat-((↑i:Int)*w.heap.C.pw).toNat) (0:Int)).length) ws)=List.map wdv (Cf ws (i*w.heap.C.pw.toNat) (List.replicate w.heap.C.pw.toNat (0:Int)))) ?_ (by kernel_rfl) (by kernel_rfl) (by kernel_rfl)
 exact⟨(by(simp only[bs];omega)),rfl,(by exact Zl (by omega) (by omega) (by omega)),(by(simp only[bs];omega)),rfl,(by exact Ze rfl (by omega) (by omega)),(by exact Ze rfl (by omega) (by omega)),(by exact Ze rfl (by omega) (by omega)),(by(simp only[List.length_map];omega)),(by exact Z2R _ _ _),(by exact Ze rfl (by omega) (by omega)),(by(simp only[bs];omega)),rfl,(by exact Ze rfl (by omega) (by omega)),rfl,(by refine congrArg _ ?_;rw[t1,t2];rfl)⟩
theorem ZcH(c:Cv w.heap.S (qs.getD i default))(k3:(qs.getD i default).K=1)(pl:ps.length≤64)(ip:i<ps.length)(kp:(ps.getD i default).K=1)(hp:0≤w.heap.C.pw∧w.heap.C.pw≤64)(hw:i*w.heap.C.pw.toNat+w.heap.C.pw.toNat≤ws.length)(hw2:ws.length≤4096)(hn:0≤n∧n≤64):CSpec Tryz.prog (Zm Tryz.f81 0) (frL w qs ps ws n i).st .nrm (frL w qs (ps.set i ⟨0,0,0,0⟩) (Cf ws (i*w.heap.C.pw.toNat) (List.replicate w.heap.C.pw.toNat 0)) (n+1) (i+1)).st:=by
 obtain⟨c1,c2⟩:=c
 have em:(i:Int)*w.heap.C.pw=((i*w.heap.C.pw.toNat:Nat):Int):=by rw[Int.natCast_mul,Int.toNat_of_nonneg hp.1]
 have em2:((i+1:Nat):Int)*w.heap.C.pw=((i*w.heap.C.pw.toNat+w.heap.C.pw.toNat:Nat):Int):=by rw[Int.natCast_add,Int.add_mul,em];omega
 have t1:((i:Int)*w.heap.C.pw).toNat=i*w.heap.C.pw.toNat:=by omega
 have t2:(((i+1:Nat):Int)*w.heap.C.pw).toNat-i*w.heap.C.pw.toNat=w.heap.C.pw.toNat:=by omega
 have kp2:(ps.getD (i:Int).toNat default).K=1:=kp
 refine Zg [((24:Nat),[Hint.br true]),((26:Nat),[Hint.el (qs.getD i default).dv]),((39:Nat),[Hint.br false]),((50:Nat),[Hint.int ((↑i:Int)*w.heap.C.pw)]),((52:Nat),[Hint.int (↑(i+(1:Nat)):Int)]),((58:Nat),[Hint.int ((↑(i+(1:Nat)):Int)*w.heap.C.pw)]),((20000:Nat),[Hint.els (List.map wdv (List.take ((↑i:Int)*w.heap.C.pw).toNat ws++List.replicate (((↑(i+(1:Nat)):Int)*w.heap.C.pw).toNat-((↑i:Int)*w.heap.C.pw).toNat) (0:Int)++List.drop (((↑i:Int)*w.heap.C.pw).toNat+(List.replicate (((↑(i+(1:Nat)):Int)*w.heap.C.pw).toNat-((↑i:Int)*w.heap.C.pw).toNat) (0:Int)).length) ws))]),((65:Nat),[Hint.int (n+(1:Int))]),((71:Nat),[Hint.br true]),((78:Nat),[Hint.call true (AV.tu [ZZ (ps.set (↑i:Int).toNat (Z0.mk (0:Int) (0:Int) (0:Int) (0:Int))),int (0:Int)]) []]),((82:Nat),[Hint.call true (AV.tu []) []]),((87:Nat),[Hint.int (↑(i+(1:Nat)):Int)])] [] [] [false,false,false,false,false,false,false,false,false,false,false,false,false,true] (φ:=decide ((↑i:Int)<(↑qs.length:Int))=true∧true=true∧((0:Int)≤(↑i:Int)∧(List.map Z0.dv qs)[(↑i:Int).toNat]?=some (qs.getD i default).dv)∧((qs.getD i default).K==(0:Int)||(qs.getD i default).S != w.heap.S)=false∧false=false∧IntKind.i64.wrap ((↑i:Int)*w.heap.C.pw)=(↑i:Int)*w.heap.C.pw∧IntKind.i64.wrap ((↑i:Int)+(1:Int))=(↑(i+(1:Nat)):Int)∧IntKind.i64.wrap ((↑(i+(1:Nat)):Int)*w.heap.C.pw)=(↑(i+(1:Nat)):Int)*w.heap.C.pw∧((0:Int)≤(↑i:Int)*w.heap.C.pw∧(↑i:Int)*w.heap.C.pw≤(↑(i+(1:Nat)):Int)*w.heap.C.pw∧(↑(i+(1:Nat)):Int)*w.heap.C.pw≤(↑(List.map wdv ws).length:Int))∧C8 (List.map wdv ws) ((↑i:Int)*w.heap.C.pw).toNat (List.replicate (((↑(i+(1:Nat)):Int)*w.heap.C.pw).toNat-((↑i:Int)*w.heap.C.pw).toNat) [B1 (0:Int)])=List.map wdv (List.take ((↑i:Int)*w.heap.C.pw).toNat ws++List.replicate (((↑(i+(1:Nat)):Int)*w.heap.C.pw).toNat-((↑i:Int)*w.heap.C.pw).toNat) (0:Int)++List.drop (((↑i:Int)*w.heap.C.pw).toNat+(List.replicate (((↑(i+(1:Nat)):Int)*w.heap.C.pw).toNat-((↑i:Int)*w.heap.C.pw).toNat) (0:Int)).length) ws)∧IntKind.i64.wrap (n+(1:Int))=n+(1:Int)∧((qs.getD i default).K != (3:Int))=true∧true=true∧GSpec Tryz.prog 136 [ZZ ps,int (↑i:Int)] true (AV.tu [ZZ (ps.set (↑i:Int).toNat (Z0.mk (0:Int) (0:Int) (0:Int) (0:Int))),int (0:Int)]) []∧GSpec Tryz.prog 76 [int (0:Int)] true (AV.tu []) []∧IntKind.i64.wrap ((↑i:Int)+(1:Int))=(↑(i+(1:Nat)):Int)∧(35:Int)=(35:Int)∧List.map wdv (List.take ((↑i:Int)*w.heap.C.pw).toNat ws++List.replicate (((↑(i+(1:Nat)):Int)*w.heap.C.pw).toNat-((↑i:Int)*w.heap.C.pw).toNat) (0:Int)++List.drop (((↑i:Int)*w.heap.C.pw).toNat+(List.replicate (((↑(i+(1:Nat)):Int)*w.heap.C.pw).toNat-((↑i:Int)*w.heap.C.pw).toNat) (0:Int)).length) ws)=List.map wdv (Cf ws (i*w.heap.C.pw.toNat) (List.replicate w.heap.C.pw.toNat (0:Int)))) ?_ (by kernel_rfl) (by kernel_rfl) (by kernel_rfl)
 exact⟨(by(simp only[bs];omega)),rfl,(by exact Zl (by omega) (by omega) (by omega)),(by(simp only[bs];omega)),rfl,(by exact Ze rfl (by omega) (by omega)),(by exact Ze rfl (by omega) (by omega)),(by exact Ze rfl (by omega) (by omega)),(by(simp only[List.length_map];omega)),(by exact Z2R _ _ _),(by exact Ze rfl (by omega) (by omega)),(by(simp only[bs];omega)),rfl,(@Zfo (ps) ((↑i:Int)) (by omega) (by omega) ‹_›),(@Ig ((0:Int)) (by rfl)),(by exact Ze rfl (by omega) (by omega)),rfl,(by refine congrArg _ ?_;rw[t1,t2];rfl)⟩
theorem Zfh(c:Cv w.heap.S (qs.getD i default))(k3:(qs.getD i default).K=2)(pl:ps.length≤64)(ip:i<ps.length)(kp:(ps.getD i default).K=2)(hp:0≤w.heap.C.pw∧w.heap.C.pw≤64)(hw:i*w.heap.C.pw.toNat+w.heap.C.pw.toNat≤ws.length)(hw2:ws.length≤4096)(hn:0≤n∧n≤64):CSpec Tryz.prog (Zm Tryz.f81 0) (frL w qs ps ws n i).st .nrm (frL w qs (BK ps i (ZC ps i)) (Cf ws (i*w.heap.C.pw.toNat) (List.replicate w.heap.C.pw.toNat 0)) (n+1) (i+1)).st:=by
 obtain⟨c1,c2⟩:=c
 have em:(i:Int)*w.heap.C.pw=((i*w.heap.C.pw.toNat:Nat):Int):=by rw[Int.natCast_mul,Int.toNat_of_nonneg hp.1]
 have em2:((i+1:Nat):Int)*w.heap.C.pw=((i*w.heap.C.pw.toNat+w.heap.C.pw.toNat:Nat):Int):=by rw[Int.natCast_add,Int.add_mul,em];omega
 have t1:((i:Int)*w.heap.C.pw).toNat=i*w.heap.C.pw.toNat:=by omega
 have t2:(((i+1:Nat):Int)*w.heap.C.pw).toNat-i*w.heap.C.pw.toNat=w.heap.C.pw.toNat:=by omega
 have kp2:(ps.getD (i:Int).toNat default).K=2:=kp
 refine Zg [((24:Nat),[Hint.br true]),((26:Nat),[Hint.el (qs.getD i default).dv]),((39:Nat),[Hint.br false]),((50:Nat),[Hint.int ((↑i:Int)*w.heap.C.pw)]),((52:Nat),[Hint.int (↑(i+(1:Nat)):Int)]),((58:Nat),[Hint.int ((↑(i+(1:Nat)):Int)*w.heap.C.pw)]),((20000:Nat),[Hint.els (List.map wdv (List.take ((↑i:Int)*w.heap.C.pw).toNat ws++List.replicate (((↑(i+(1:Nat)):Int)*w.heap.C.pw).toNat-((↑i:Int)*w.heap.C.pw).toNat) (0:Int)++List.drop (((↑i:Int)*w.heap.C.pw).toNat+(List.replicate (((↑(i+(1:Nat)):Int)*w.heap.C.pw).toNat-((↑i:Int)*w.heap.C.pw).toNat) (0:Int)).length) ws))]),((65:Nat),[Hint.int (n+(1:Int))]),((71:Nat),[Hint.br true]),((78:Nat),[Hint.call true (AV.tu [ZZ (BK ps (↑i:Int).toNat (ZC ps (↑i:Int).toNat)),int (0:Int)]) []]),((82:Nat),[Hint.call true (AV.tu []) []]),((87:Nat),[Hint.int (↑(i+(1:Nat)):Int)])] [] [] [false,false,false,false,false,false,false,false,false,false,false,false,false,true] (φ:=decide ((↑i:Int)<(↑qs.length:Int))=true∧true=true∧((0:Int)≤(↑i:Int)∧(List.map Z0.dv qs)[(↑i:Int).toNat]?=some (qs.getD i default).dv)∧((qs.getD i default).K==(0:Int)||(qs.getD i default).S != w.heap.S)=false∧false=false∧IntKind.i64.wrap ((↑i:Int)*w.heap.C.pw)=(↑i:Int)*w.heap.C.pw∧IntKind.i64.wrap ((↑i:Int)+(1:Int))=(↑(i+(1:Nat)):Int)∧IntKind.i64.wrap ((↑(i+(1:Nat)):Int)*w.heap.C.pw)=(↑(i+(1:Nat)):Int)*w.heap.C.pw∧((0:Int)≤(↑i:Int)*w.heap.C.pw∧(↑i:Int)*w.heap.C.pw≤(↑(i+(1:Nat)):Int)*w.heap.C.pw∧(↑(i+(1:Nat)):Int)*w.heap.C.pw≤(↑(List.map wdv ws).length:Int))∧C8 (List.map wdv ws) ((↑i:Int)*w.heap.C.pw).toNat (List.replicate (((↑(i+(1:Nat)):Int)*w.heap.C.pw).toNat-((↑i:Int)*w.heap.C.pw).toNat) [B1 (0:Int)])=List.map wdv (List.take ((↑i:Int)*w.heap.C.pw).toNat ws++List.replicate (((↑(i+(1:Nat)):Int)*w.heap.C.pw).toNat-((↑i:Int)*w.heap.C.pw).toNat) (0:Int)++List.drop (((↑i:Int)*w.heap.C.pw).toNat+(List.replicate (((↑(i+(1:Nat)):Int)*w.heap.C.pw).toNat-((↑i:Int)*w.heap.C.pw).toNat) (0:Int)).length) ws)∧IntKind.i64.wrap (n+(1:Int))=n+(1:Int)∧((qs.getD i default).K != (3:Int))=true∧true=true∧GSpec Tryz.prog 136 [ZZ ps,int (↑i:Int)] true (AV.tu [ZZ (BK ps (↑i:Int).toNat (ZC ps (↑i:Int).toNat)),int (0:Int)]) []∧GSpec Tryz.prog 76 [int (0:Int)] true (AV.tu []) []∧IntKind.i64.wrap ((↑i:Int)+(1:Int))=(↑(i+(1:Nat)):Int)∧(35:Int)=(35:Int)∧List.map wdv (List.take ((↑i:Int)*w.heap.C.pw).toNat ws++List.replicate (((↑(i+(1:Nat)):Int)*w.heap.C.pw).toNat-((↑i:Int)*w.heap.C.pw).toNat) (0:Int)++List.drop (((↑i:Int)*w.heap.C.pw).toNat+(List.replicate (((↑(i+(1:Nat)):Int)*w.heap.C.pw).toNat-((↑i:Int)*w.heap.C.pw).toNat) (0:Int)).length) ws)=List.map wdv (Cf ws (i*w.heap.C.pw.toNat) (List.replicate w.heap.C.pw.toNat (0:Int)))) ?_ (by kernel_rfl) (by kernel_rfl) (by kernel_rfl)
 exact⟨(by(simp only[bs];omega)),rfl,(by exact Zl (by omega) (by omega) (by omega)),(by(simp only[bs];omega)),rfl,(by exact Ze rfl (by omega) (by omega)),(by exact Ze rfl (by omega) (by omega)),(by exact Ze rfl (by omega) (by omega)),(by(simp only[List.length_map];omega)),(by exact Z2R _ _ _),(by exact Ze rfl (by omega) (by omega)),(by(simp only[bs];omega)),rfl,(@ZdV (ps) ((↑i:Int)) (by omega) (by omega) ‹_›),(@Ig ((0:Int)) (by rfl)),(by exact Ze rfl (by omega) (by omega)),rfl,(by refine congrArg _ ?_;rw[t1,t2];rfl)⟩
end
def Ck(s:Int)(a:List Z0):Nat->List Z0|0=>a|i+1=>if Cv s (a.getD i M)then(if(a.getD i M).K=1 then(Ck s a i).set i ⟨0,0,0,0⟩else if(a.getD i M).K=2 then BK (Ck s a i) i (ZC (Ck s a i) i)else Ck s a i)else Ck s a i
def AE s a:∀i,(Ck s a i).length=a.length
 |0=>rfl
 |i+1=>by
  have:=AE s a i;rw[Ck];split
  .split
   .rw[LA];exact this
   .split
    .rw[MS];exact this
    .exact this
  .exact this
def Nm(c:B3)(s:Int)(a:List Z0)(i j:Nat):Prop:=Cv s (a.getD j M)/\((a.getD j M).K=3->∃h,h<i/\h<j/\(a.getD h M).K=2/\(j:Int)<h+need c (a.getD h M).U)/\(¬ (a.getD j M).K=3->j<i)
section
variable {c:B3} {s:Int} {qs:List Z0} (P:PT c qs)
include P
theorem Z7y{h i:Nat}(hi:i<qs.length)(h1:h<i)(k1:(qs.getD h M).K=2)(a:¬ (qs.getD i M).K=3):(h:Int)+need c (qs.getD h M).U<=i:=by by_cases q:(h:Int)+need c (qs.getD h M).U<=i;exact q;have:=(P.lg h oq k1).2 (i-h) oq oq;rw[show h+(i-h)=i by omega]at this;exact absurd this.2.1 a
theorem TV:∀i,i≤qs.length→∀j,j<qs.length→(Nm c s qs i j→(Ck s qs i).getD j default=⟨0,0,0,0⟩)∧(¬ Nm c s qs i j→(Ck s qs i).getD j default=qs.getD j default)
 |0,_,j,hj=>by
  refine⟨fun z=>?_,fun _=>rfl⟩
  by_cases k3:(qs.getD j default).K=3
  ·obtain⟨h,h0,_⟩:=z.2.1 k3;omega
  ·have:=z.2.2 k3;omega
 |i+1,hi,j,hj=>by
  obtain⟨h1,h2⟩:=TV i (by omega) j hj
  have ln:=AE s qs i
  have same:(Nm c s qs (i+1) j↔Nm c s qs i j)→(Ck s qs (i+1)).getD j default=(Ck s qs i).getD j default→(Nm c s qs (i+1) j→(Ck s qs (i+1)).getD j default=⟨0,0,0,0⟩)∧(¬ Nm c s qs (i+1) j→(Ck s qs (i+1)).getD j default=qs.getD j default):=fun e1 e2=>by
   rw[e1,e2];exact⟨h1,h2⟩
  have up:Nm c s qs i j→Nm c s qs (i+1) j:=fun z=>⟨z.1,fun k=>by obtain⟨h,a,b⟩:=z.2.1 k;exact⟨h,by omega,b⟩,fun k=>by have:=z.2.2 k;omega⟩
  by_cases g:Cv s (qs.getD i default)
  rotate_left
  ·refine same ⟨fun z=>⟨z.1,fun k=>?_,fun k=>?_⟩,up⟩ (by rw[Ck,if_neg g])
   ·obtain⟨h,a,b,k2,d⟩:=z.2.1 k
    by_cases q:h=i
    ·subst q
     have t:=(P.lg h (by omega) k2).2 (j-h) (by omega) (by omega)
     rw[show h+(j-h)=j by omega]at t
     exact absurd ⟨by omega,by have:=z.1.2;have:=t.2.2;omega⟩ g
    ·exact⟨h,by omega,b,k2,d⟩
   ·have:=z.2.2 k
    by_cases q:j=i
    ·subst q;exact absurd z.1 g
    ·omega
  by_cases c1:(qs.getD i default).K=1
  ·have e:Ck s qs (i+1)=(Ck s qs i).set i ⟨0,0,0,0⟩:=by rw[Ck,if_pos g,if_pos c1]
   by_cases q:j=i
   ·subst q
    refine⟨fun _=>?_,fun z=>absurd ⟨g,fun k=>by omega,fun _=>by omega⟩ z⟩
    rw[e,List.getD_eq_getElem?_getD,List.getElem?_set_self (by omega)];rfl
   ·refine same ⟨fun z=>⟨z.1,fun k=>?_,fun k=>by have:=z.2.2 k;omega⟩,up⟩ (by rw[e,List.getD_eq_getElem?_getD,List.getElem?_set_ne (by omega),← List.getD_eq_getElem?_getD])
    obtain⟨h,a,b,k2,d⟩:=z.2.1 k
    have q:h<i:=by
     by_cases r:h=i
     ·subst r;omega
     ·omega
    exact⟨h,q,b,k2,d⟩
  by_cases c2:(qs.getD i default).K=2
  rotate_left
  ·have e:Ck s qs (i+1)=Ck s qs i:=by rw[Ck,if_pos g,if_neg c1,if_neg c2]
   have k3:(qs.getD i default).K=3:=by
    have:=(P.b i (by omega)).k
    have:=g.1
    omega
   refine same ⟨fun z=>⟨z.1,fun k=>?_,fun k=>?_⟩,up⟩ (by rw[e])
   ·obtain⟨h,a,b,k2,d⟩:=z.2.1 k
    have q:h<i:=by
     by_cases r:h=i
     ·subst r;omega
     ·omega
    exact⟨h,q,b,k2,d⟩
   ·have:=z.2.2 k
    by_cases q:j=i
    ·subst q;exact absurd k3 k
    ·omega
  ·have e:Ck s qs (i+1)=BK (Ck s qs i) i (ZC (Ck s qs i) i):=by rw[Ck,if_pos g,if_neg c1,if_pos c2]
   obtain⟨n1,nd⟩:=P.lg i (by omega) c2
   have mid:∀m:Nat,i<m→(m:Int)<i+need c (qs.getD i default).U→m<qs.length∧(qs.getD m default).K=3∧(qs.getD m default).S=s∧(Ck s qs i).getD m default=qs.getD m default:=fun m m1 m2=>by
    have t:=nd (m-i) (by omega) (by omega)
    rw[show i+(m-i)=m by omega]at t
    refine⟨t.1,t.2.1,t.2.2.trans g.2,(TV i (by omega) m t.1).2 fun z=>?_⟩
    obtain⟨h,a,b,k2,d⟩:=z.2.1 t.2.1
    have:=Z7y P (by omega) a k2 (by omega)
    omega
   have T:((ZC (Ck s qs i) i:Nat):Int)+1=need c (qs.getD i default).U:=by
    by_cases q1:((ZC (Ck s qs i) i:Nat):Int)+1<need c (qs.getD i default).U
    ·obtain⟨m1,m2,_,m4⟩:=mid (i+1+ZC (Ck s qs i) i) (by omega) (by omega)
     have te:=Mb (l:=Ck s qs i) (i:=i) (by omega)
     rw[m4]at te
     exact absurd m2 te
    by_cases q2:need c (qs.getD i default).U<((ZC (Ck s qs i) i:Nat):Int)+1
    ·obtain⟨t1,t2⟩:=Rp (l:=Ck s qs i) (i:=i) (m:=(need c (qs.getD i default).U).toNat-1) (by omega)
     have eq:((i+1+((need c (qs.getD i default).U).toNat-1):Nat):Int)=i+need c (qs.getD i default).U:=by omega
     generalize i+1+((need c (qs.getD i default).U).toNat-1)=m at t1 t2 eq
     rw[ln]at t1
     have k3:(qs.getD m default).K=3:=by
      obtain⟨z1,z2⟩:=TV i (by omega) m t1
      by_cases z:Nm c s qs i m
      ·rw[z1 z]at t2;simp at t2
      ·rwa [z2 z]at t2
     obtain⟨h,a,k2,d⟩:=P.tl m t1 k3
     by_cases r1:h<i
     ·have:=Z7y P (by omega) r1 k2 (by omega);omega
     by_cases r2:h=i
     ·subst r2;omega
     ·have t:=nd (h-i) (by omega) (by omega)
      rw[show i+(h-i)=h by omega]at t
      omega
    ·omega
   rw[e,Z8k (by omega)]
   by_cases q:i≤j∧j≤i+ZC (Ck s qs i) i
   ·rw[if_pos q]
    refine⟨fun _=>rfl,fun z=>absurd ?_ z⟩
    by_cases q2:j=i
    ·subst q2;exact⟨g,fun k=>by omega,fun _=>by omega⟩
    ·obtain⟨m1,m2,m3,_⟩:=mid j (by omega) (by omega)
     exact⟨⟨by omega,m3⟩,fun _=>⟨i,by omega,by omega,c2,by omega⟩,fun k=>absurd m2 k⟩
   ·rw[if_neg q]
    have ez:Nm c s qs (i+1) j↔Nm c s qs i j:=⟨fun z=>⟨z.1,fun k=>by
     obtain⟨h,a,b,k2,d⟩:=z.2.1 k
     refine⟨h, ?_,b,k2,d⟩
     by_cases r:h=i
     ·subst r;omega
     ·omega,fun k=>by have:=z.2.2 k;omega⟩,up⟩
    rw[ez]
    exact⟨h1,h2⟩
theorem ZcD:Ck s qs qs.length=qs.map (BN s):=by
 refine Lk (by rw[AE,Lb]) λj a b=>?_;rw[AE]at a;obtain⟨f,i⟩:=TV P qs.length (Lj _) j a;have d:(Ck s qs qs.length)[j]=(Ck s qs qs.length).getD j M:=by rw[Ld,Li (by rw[AE];exact a)];rfl
 have e:qs[j]=qs.getD j M:=by rw[Ld,Li a];rfl
 rw[Ll,d,e];unfold BN;by_cases g:Cv s (qs.getD j M);rw[if_pos g];exact f ⟨g,λk=>by obtain⟨h,x,y⟩:=P.tl j a k;exact⟨h,by omega,x,y⟩,λ_=>a⟩;rw[if_neg g];exact i λz=>g z.1
end
end Go.Proofs.YtgedmeaemofdkaaGreat
namespace Go.Sx
def NH(b s:Nat)(els:List (List DV)):AV->AV|.ow k=>(match Le k b with|true=>.d (.sl s els)|false=>.ow k)|.os k o n=>(match Le k b with|true=>.any|false=>.os k o n)|.pt k i o=>(match Le k b with|true=>.any|false=>.pt k i o)|x=>x
def MW(b s:Nat)(els:List (List DV)):Z4->Z4|.box ty cells=>.box ty (cells.map (HD (NH b s els)))|B=>B
def NB(b s:Nat)(els:List (List DV)):List (Nat×Z4)->List (Nat×Z4)|[]=>[]|(k,B)::l=>match Le k b with|true=>NB b s els l|false=>(k,MW b s els B)::NB b s els l
def Z1P(b:Nat)(t:Tg):Option Tg:=match BU t.hl b,Nat.ble (b+1) (t.clk*8000)with|some (.arr _ s els),true=>Lc ⟨t.tmps.map (Iq (NH b s els)),NB b s els t.hl,t.clk⟩|_,_=>none
def Z24{b s els}:∀{l:List (Nat×Z4)} (k:Nat),BU (NB b s els l) k=if k=b then none else(BU l k).map (MW b s els)
 |[],k=>by simp[NB,BU]
 |(j,B)::l,k=>by
  have a:=Z24 (b:=b) (s:=s) (els:=els) (l:=l) k;simp only[NB];cases hj:Le j b with
  |true =>
   have e:=LF hj;simp only[a,BU];by_cases q:k=b
   .rw[if_pos q,if_pos q]
   .rw[if_neg q,if_neg q,if_neg oq]
  |false =>
   have e:=Nat.ne_of_beq_eq_false hj;simp only[BU];by_cases q:k=j
   .rw[if_pos q,if_pos q,if_neg oq];rfl
   .rw[if_neg q,if_neg q,a]
def ZjJ{b s els}{B:Z4}(h:MW b s els B≠.dead):B≠.dead:=by rintro rfl;exact h rfl
def ZaJ{b}{t t':Tg}(h:Z1P b t=Lc t'){Ow Im0 w0 x w}(hS:Sys Ow Im0 w0 t.st.tmps t.st.H t.st.clk x w):Sys Ow Im0 w0 t'.st.tmps t'.st.H t'.st.clk x w:=by
 unfold Z1P at h;split at h;rotate_left;cases h;rename_i ty s els hb a0;cases h;have a0:=Nat.le_of_ble_eq_true a0;obtain⟨ρ,Im,I,T⟩:=hS;obtain⟨β,hρ,hs,hn,a8,a3,a1⟩:=I.blk b _ hb;let f:Nat->Prop:=λg=>Im g\/β.g=Lc g;have hi:∀g,Im g->f g:=λ_ h=>.inl h;have ow:∀{k:Nat} {v:Value},Zh ρ w Im (.ow k) v->Zh ρ w f (NH b s els (.ow k)) v:=by
  intro k v hx;simp only[NH];cases r:Le k b with
  |false=>cases hx with|ow d j m p=>exact .ow d j m p
  |true =>
   have e:=LF r;subst e;cases hx with
   |ow d j m p =>
    rw[hρ]at d;cases d;refine .d ?_;by_cases he:els=[];subst he;have:β.n=0:=by simpa using hn
    rw[this];exact .slNil _ _ _;have a9:0<els.length:=List.length_pos_iff.2 he;rcases p with p|⟨g,a,rfl,_⟩;omega;rcases a1 with⟨_,h5⟩|⟨g',cs,a2,hw,b1,hc⟩;exact absurd h5 he;rw[a]at a2;cases a2;have a5:∀(i:Nat) (e:List DV) (o:Nat) (y:DV),els[i]?=Lc e->e[o]?=Lc y->∃u,w.cell? ⟨g,0+(i*s+o),none⟩=Lc u/\CH w Im y u:=by(intro i e o y he hy;obtain⟨u,k1,k2⟩:=hc i e o y he hy;exact⟨u,by simp[World.cell?,hw,k1],k2⟩)
    refine .sl s els ⟨g,0,none⟩ β.n _ (λi o=>(w.cell? ⟨g,0+(i*s+o),none⟩).getD undef) hn.symm j m a3 rfl (.inr a) ?_ ?_;intro i e o y he hy;obtain⟨u,k1,_⟩:=a5 i e o y he hy;rw[k1];rfl;intro i e o y he hy;obtain⟨u,k1,k2⟩:=a5 i e o y he hy;rw[k1];exact k2.mono (Ext.refl _ _) hi
 have os:∀{k o n:Nat} {v:Value},Zh ρ w Im (.os k o n) v->Zh ρ w f (NH b s els (.os k o n)) v:=by(intro k o n v hx;simp only[NH];split;exact .any _;cases hx with|os d j m p h5=>exact .os d j m p h5)
 have pt:∀{k i o:Nat} {v:Value},Zh ρ w Im (.pt k i o) v->Zh ρ w f (NH b s els (.pt k i o)) v:=by(intro k i o v hx;simp only[NH];split;exact .any _;obtain⟨g,s,n,d,rfl⟩:=Nr hx;exact .pt d)
 have rB:∀{κ:Bi} {B:Z4},RelB ρ w Im κ B->RelB ρ w f κ (MW b s els B):=by
  intro κ B hB;cases B with|box ty cells =>obtain⟨h0,a6,g,cs,d,j,m,a7,p⟩:=hB;refine⟨by simpa using h0,a6,g,cs,d,j,by simpa using m,a7,λo x v hx hv=>?_⟩;simp only[Lx,Lo]at hx;obtain⟨y,hy,rfl⟩:=hx;exact AM hi (λ_ _ _ _ h=>pt h) (λ_ _ _ _ h=>os h) (λ_ _ h=>ow h) (p o y v hy hv)|arr ty s els=>exact RelB.arr_any (by rfl) hB hi|mp ks=>exact hB|dead=>trivial
 have hH:∀k B,BU (NB b s els t.hl) k=Lc B->k≠b/\∃B',BU t.hl k=Lc B'/\B=MW b s els B':=by(intro k B r;rw[Z24]at r;by_cases q:k=b;rw[if_pos q]at r;cases r;rw[if_neg q]at r;obtain⟨B',d,j⟩:=Lo.1 r;exact⟨q,B',d,j.symm⟩)
 have c:∀k,live (BU (NB b s els t.hl)) k->k≠b/\live t.st.H k:=by(rintro k ⟨B,d,j⟩;obtain⟨q,B',m,rfl⟩:=hH k B d;exact⟨q,B',m,ZjJ j⟩)
 have lb:live t.st.H b:=⟨_,hb,by simp⟩;refine⟨ρ,f,⟨I.kept,λk k' β β' g l1 l2=>I.inj k k' β β' g (c k l1).2 (c k' l2).2,λk κ g l q q' a=>?_,I.bnd,I.own,λg a=>?_,λg a=>?_,λk B q=>?_,λk r q=>?_,I.one⟩,⟨by rw[T.size];simp[Tg.st],λi y v hy hv=>?_,T.defers⟩⟩;obtain⟨ne,l⟩:=c k l;rcases a with a|a;exact I.notIm k κ g l q q' a;exact ne (I.inj k b κ β g l lb q hρ q' a);rcases a with a|a;exact I.imb g a;exact I.bnd b β g hρ a;rcases a with a|a;exact I.im0 g a;rcases I.own b β g hρ a with⟨h,_⟩|h;exact .inr (.inl h);exact .inr (.inr h);obtain⟨_,B',m,rfl⟩:=hH k B q;obtain⟨κ,p,h5⟩:=I.blk k B' m;exact⟨κ,p,rB h5⟩;rw[show({tmps:=t.tmps.map (Iq (NH b s els)),hl:=NB b s els t.hl,clk:=t.clk:Tg}.st.H k)=BU (NB b s els t.hl) k from rfl,Z24]at q;have b0:t.clk*8000<=k:=r;rw[if_neg oq]at q;exact I.fresh k r (Option.map_eq_none_iff.1 q);have a4:(t.tmps.map (Iq (NH b s els)))[i]?=Lc y:=hy;simp only[Lx,Lo]at a4;obtain⟨z,hz,rfl⟩:=a4;exact TK hi (λ_ _ _ _ h=>pt h) (λ_ _ _ _ h=>os h) (λ_ _ h=>ow h) (T.tmp i z v hz hv)
def CSpec.frz{P c s e}{t t':Tg} b(h:CSpec P c s e t.st)(k:Z1P b t=Lc t'):CSpec P c s e t'.st:=
 λf d l a w j=>Code.wp_mono (λ_ _ _ ⟨g,i⟩=>⟨g,ZaJ k i⟩) (h f d l a w j)
end Go.Sx
namespace Go.Proofs.YtgedmeaemofdkaaGreat
open Go.Sx
def ZcB w a b ws n:CP (Zm f81 0) (frL w a b ws n a.length).st (.ext 0) (Tg.st ⟨tm 88 [(0,.pt 0 0 0)],[(0,.box 127 [int w.heap.C.pw,int w.heap.C.pg,.ow 25015,ZZ b,int w.heap.S,int w.heap.B,Z3 w.old,ZE w.T,Z3 w.Q,int w.D,int w.rep.copied,int w.rep.kept,int w.rep.filled,int n,int w.rep.cleared,int w.rep.steps]),(25015,.arr 35 1 (ws.map wdv))],5⟩):=by exact sF [] [] (Ffb 24 (La ((a.length:Int)<(a.length:Int))) Fz)
section
variable (w:Z6) (hl:w.heap.P.length<=64) (a:0<=w.heap.C.pw/\w.heap.C.pw<=64) (hs:w.heap.P.length*w.heap.C.pw.toNat<=w.heap.W.length) (hw:w.heap.W.length<=4096) (hr:w.rep.freed=0) (P:PT w.heap.C w.heap.P)
include hl a hs hw hr P
theorem Zk4:CP (Zi f81 0) (Tg.st ⟨tm 88 [(0,.pt 0 0 0),(2,.pt 0 0 0),(21,ZZ w.heap.P),(22,int w.heap.P.length),(23,int 0)],[(0,.box 127 [int w.heap.C.pw,int w.heap.C.pg,.ow 25015,ZZ w.heap.P,int w.heap.S,int w.heap.B,Z3 w.old,ZE w.T,Z3 w.Q,int w.D,int w.rep.copied,int w.rep.kept,int w.rep.filled,int w.rep.freed,int w.rep.cleared,int w.rep.steps]),(25015,.arr 35 1 (w.heap.W.map wdv))],5⟩) .nrm (Tg.st ⟨tm 88 [(0,.pt 0 0 0)],[(0,(H5 w).evD)],5⟩):=by
 refine CSpec.frz 25015 (t:=⟨tm 88 [(0,.pt 0 0 0)],[(0,.box 127 [int w.heap.C.pw,int w.heap.C.pg,.ow 25015,ZZ (w.heap.P.map (BN w.heap.S)),int w.heap.S,int w.heap.B,Z3 w.old,ZE w.T,Z3 w.Q,int w.D,int w.rep.copied,int w.rep.kept,int w.rep.filled,int (EV w.rep.freed w.heap.S w.heap.P w.heap.P.length),int w.rep.cleared,int w.rep.steps]),(25015,.arr 35 1 ((Ei w.heap.C.pw w.heap.S w.heap.P w.heap.W w.heap.P.length).map wdv))],5⟩) (Bs (S:=λk=>(frL w w.heap.P (Ck w.heap.S w.heap.P k) (Ei w.heap.C.pw w.heap.S w.heap.P w.heap.W k) (EV w.rep.freed w.heap.S w.heap.P k) k).st) w.heap.P.length kr (λk d=>?_) ?_) kr;have h1:=AE w.heap.S w.heap.P k;have h3:=Tk (s:=w.heap.S) hs k oq;have h4:=OC w.rep.freed w.heap.S w.heap.P k;have j:(k+1)*w.heap.C.pw.toNat<=w.heap.P.length*w.heap.C.pw.toNat:=Nat.mul_le_mul_right _ d;rw[Nat.add_mul,Nat.one_mul]at j;by_cases b:Cv w.heap.S (w.heap.P.getD k M);have g:Ei w.heap.C.pw w.heap.S w.heap.P w.heap.W (k+1)=Cf (Ei w.heap.C.pw w.heap.S w.heap.P w.heap.W k) (k*w.heap.C.pw.toNat) (Ln w.heap.C.pw.toNat 0):=by rw[Ei,if_pos b]
 have i:EV w.rep.freed w.heap.S w.heap.P (k+1)=EV w.rep.freed w.heap.S w.heap.P k+1:=by rw[EV,if_pos b]
 have e:¬ (w.heap.P.getD k M).K=3->(Ck w.heap.S w.heap.P k).getD k M=w.heap.P.getD k M:=λq=>(TV P k oq k d).2 λz=>by have:=z.2.2 q;omega
 rw[g,i];by_cases k1:(w.heap.P.getD k M).K=1;have c:Ck w.heap.S w.heap.P (k+1)=(Ck w.heap.S w.heap.P k).set k ⟨0,0,0,0⟩:=by rw[Ck,if_pos b,if_pos k1]
 rw[c];exact ZcH w _ _ _ _ k hl d b k1 oq oq (by rw[e oq];exact k1) a oq oq oq;by_cases f:(w.heap.P.getD k M).K=2;have c:Ck w.heap.S w.heap.P (k+1)=BK (Ck w.heap.S w.heap.P k) k (ZC (Ck w.heap.S w.heap.P k) k):=by rw[Ck,if_pos b,if_neg k1,if_pos f]
 rw[c];exact Zfh w _ _ _ _ k hl d b f oq oq (by rw[e oq];exact f) a oq oq oq;have c:Ck w.heap.S w.heap.P (k+1)=Ck w.heap.S w.heap.P k:=by rw[Ck,if_pos b,if_neg k1,if_neg f]
 have kk:=(P.b k d).k;have k0:=b.1;rw[c];exact ZiC w _ _ _ _ k hl d b oq a oq oq oq;have c:Ck w.heap.S w.heap.P (k+1)=Ck w.heap.S w.heap.P k:=by rw[Ck,if_neg b]
 have g:Ei w.heap.C.pw w.heap.S w.heap.P w.heap.W (k+1)=Ei w.heap.C.pw w.heap.S w.heap.P w.heap.W k:=by rw[Ei,if_neg b]
 have i:EV w.rep.freed w.heap.S w.heap.P (k+1)=EV w.rep.freed w.heap.S w.heap.P k:=by rw[EV,if_neg b]
 rw[c,g,i];exact Zg4 w _ _ _ _ k hl d b;have h:=ZcB w w.heap.P (Ck w.heap.S w.heap.P w.heap.P.length) (Ei w.heap.C.pw w.heap.S w.heap.P w.heap.W w.heap.P.length) (EV w.rep.freed w.heap.S w.heap.P w.heap.P.length);simp only[ZcD P]at h⊢;exact h
theorem Zk3:BP 81 [.pt 0 0 0] [w.evD] (.tu []) [(H5 w).evD]:=by exact lF func81 [] (Fc 15 (@TI w.heap.W oq) (Fl 22 Z0.dv w.heap.P (Fu (@Zk4 w aa aa aa aa aa aa) Fz)))
end
structure CE (h:Heap) (T tq:Nat->List Int) (w:Z6) (l4 l5:List Int):Prop where
 g:Gd h T
 k:KI h T tq w
 i:Bv w
 s:w.heap.S=0\/w.heap.S=1
 pt:PT w.heap.C w.heap.P
 ts:∀x∈w.T,(w.heap.P.getD x.toNat M).S=1-w.heap.S
 sd:SD w
 sc:w.D=w.Q.length
 f3:∀a,Z1 l4 a=Z1 w.heap.W a\/∃x∈w.old,IV w x/\x<=a/\a<=x+Zk w.heap.W x/\(Z1 l4 a).1=NK (Zk w.heap.W x) a x
 f4:∀x∈w.old,IV w x->∀a,x<=a->a<=x+Zk w.heap.W x->(Z1 l4 a).1=NK (Zk w.heap.W x) a x
 n4:l4.length=w.heap.W.length
 n5:l5.length=w.heap.W.length
 fr:∀(i:Nat) (o:Int),i<h.P.length->0<=o->o<h.C.pw->Z1 l5 (ZB h i+o)=if Cv w.heap.S (w.heap.P.getD i M)then(0,0)else Z1 l4 (ZB h i+o)
def tE(T a:Nat->List Int)(w:Z6)(i:Nat):List Int:=if(i:Int)∈w.T then a i else if(w.heap.P.getD i M).S≠w.heap.S then T i else []
section
variable {h:Heap} {T tq:Nat->List Int} {w:Z6} {l4 l5:List Int} (c:CE h T tq w l4 l5)
include c
theorem CE.mem{i}{x:Int}(hx:x∈tE T tq w i):(i:Int)∈w.T/\x∈tq i\/(i:Int)∉w.T/\(w.heap.P.getD i M).S≠w.heap.S/\x∈T i:=by grind[tE]
theorem CE.gone0{i:Nat}(a:(i:Int)∈w.T):¬ Cv w.heap.S (w.heap.P.getD i M):=by have:=c.ts _ a;grind[Cv]
theorem CE.pgof{i}{x a:Int}(e:x∈T i)(h1:x<=a)(h2:a<=x+Zk h.W x):∃(j:Nat) (o:Int),j<h.P.length/\0<=o/\o<h.C.pw/\a=ZB h j+o/\(w.heap.P.getD j M).K≠0/\(w.heap.P.getD j M).S=(w.heap.P.getD i M).S:=by
 have g:=c.g;have o:=g.on e;have po:=B4 g.p;have pg:=c.k.pg i (c.k.nt g e);have d:=c.k.c;have s:=c.k.pl;rcases o.2.1 with k|k;have pp:=Eh g.p o.1;exact⟨i,a-ZB h i,o.1,by omega,by omega,by omega,by omega,rfl⟩;have t:=o.2.2.2.2.2.2 k;have f:=c.pt.lg i oq oq;rw[pg.2.1,d]at f;have nu:=Mc f.1;have h0:0<=(a-ZB h i)/h.C.pw:=Lq oq oq;have l:=Lu (a-ZB h i) h.C.pw;have n:=Ls (a-ZB h i) (b:=h.C.pw) oq;have p:=Lr (a-ZB h i) (b:=h.C.pw) oq;have h6:(a-ZB h i)/h.C.pw<need h.C (h.P.getD i M).U:=Lp oq oq;rw[Lt]at l;generalize hm:(a-ZB h i)/h.C.pw=m at *;have r:((m.toNat:Nat):Int)=m:=by omega
 refine⟨i+m.toNat,(a-ZB h i)%h.C.pw, ?_,n,p, ?_, ?_⟩;grind;grind[ZB];by_cases q:m.toNat=0;rw[q,Nat.add_zero];omega;grind
theorem CE.keptw{i}{x a:Int}(f:x∈T i)(hs:(w.heap.P.getD i M).S≠w.heap.S)(b:x<=a)(d:a<=x+Zk h.W x):Z1 l5 a=Z1 l4 a:=by obtain⟨j,o,g,k,l,e,k0,k1⟩:=c.pgof f b d;rw[e,c.fr j o g k l,if_neg];grind[Cv]
theorem CE.gonew{i}{x a:Int}(f:x∈T i)(hs:(w.heap.P.getD i M).S=w.heap.S)(b:x<=a)(d:a<=x+Zk h.W x):(Z1 l5 a).1=0:=by obtain⟨j,o,g,l,m,e,k,k1⟩:=c.pgof f b d;rw[e,c.fr j o g l m,if_pos ⟨k,k1.trans hs⟩]
theorem CE.seen4{x a:Int}(b:x∈w.Q)(h1:x<=a)(h2:a<=x+Zk w.heap.W x):Z1 l4 a=Z1 w.heap.W a:=by rcases c.f3 a with q|⟨y,d,g,q2,q3,q4⟩;exact q;exfalso;have f:x≠y:=λe=>g.2 (e▸b);have s1:=c.i.s x (LC _ b) y (LB _ d);have s2:=c.i.s y (LB _ d) x (LC _ b);omega
theorem CE.takenw{i:Nat}{a:Int}(b:(i:Int)∈w.T)(h1:ZB h i<=a)(h2:a<ZB h i+h.C.pw):Z1 l5 a=Z1 l4 a:=by have t:=c.k.tk i b;have:=c.fr i (a-ZB h i) t.1 oq oq;rw[show ZB h i+(a-ZB h i)=a by omega,if_neg (c.gone0 b)]at this;exact this
theorem CE.seen{x a:Int}(g:x∈w.Q)(f:x<=a)(d:a<=x+Zk w.heap.W x):Z1 l5 a=Z1 w.heap.W a:=by
 rw[<-c.seen4 g f d];rcases c.k.q x g with⟨i,e,b,i3,k⟩|⟨i,e,b⟩;have j:(Z1 w.heap.W x).1=(Z1 h.W x).1:=by(rcases c.k.hd i x b with q|q;exact q;omega)
 rw[(Ee j).2.1]at d;exact c.keptw b k f d;have t:=c.k.tk i e;have m:=GW t.2.2.2.2.2.1 b;exact c.takenw e oq oq
theorem CE.where'{x:Int}(a:x∈w.Q):∃i,x∈tE T tq w i:=by rcases c.k.q x a with⟨i,b,d,i3,i4⟩|⟨i,b,d⟩;exact⟨i,by grind[tE]⟩;exact⟨i,by grind[tE]⟩
theorem CE.seenK{x:Int}(e:x∈w.Q):Cy w.heap.W x≠0/\EX w.heap.W x:=by
 rcases c.k.q x e with⟨i,b,a,i3,i4⟩|⟨i,b,a⟩;have d:(Z1 w.heap.W x).1=(Z1 h.W x).1:=by(rcases c.k.hd i x a with q|q;exact q;omega)
 have o:=Ee d;exact⟨by omega,o.1 (c.g.on a).2.2.2.2.2.1⟩;have t:=c.k.tk i b;exact⟨(t.2.2.2.2.2.2 x a).2.1,(GW t.2.2.2.2.2.1 a).1⟩
theorem CE.kept{i}{x:Int}(a:x∈T i)(g:(i:Int)∉w.T)(hs:(w.heap.P.getD i M).S≠w.heap.S):(Z1 w.heap.W x).1=(Z1 h.W x).1/\EX l5 x/\Zk l5 x=Zk h.W x/\(x∉w.Q->Cy l5 x=0/\(h.P.getD i M).K=1/\(Cy h.W x≠0->x∈w.old/\IV w x)):=by
 have f:(Z1 w.heap.W x).1=(Z1 h.W x).1:=by(rcases c.k.hd i x a with q|q;exact q;omega)
 have u:=c.g.on a;have t:=Ee f;have rx:=Bo h.W x;refine⟨f, ?_⟩;by_cases k:x∈w.Q;have e:=Ee (congrArg Prod.fst (c.seen k (Lh _) oq));grind;have k1:(h.P.getD i M).K=1:=by(rcases u.2.1 with q|q;exact q;have:=c.k.lg i q hs;grind)
 have m:Z1 l5 x=Z1 l4 x:=c.keptw a hs (Lh _) oq;by_cases p:Cy h.W x=0;have e4:Z1 l4 x=Z1 w.heap.W x:=by
  rcases c.f3 x with q|⟨y,s,z,q2,q3,q4⟩;exact q;exfalso;obtain⟨j,b,o⟩:=(c.k.old y).1 s;by_cases e:y=x;grind;have sj:(Z1 w.heap.W y).1=(Z1 h.W y).1:=by(rcases c.k.hd j y b with q|q;exact q;exfalso;have l:=z.1;unfold ZI at l;rw[c.k.c,c.g.ofx b]at l;grind)
  rw[(Ee sj).2.1]at q3;have:=c.g.sep b a oq;omega
 grind[Ee];have r:x∈w.old:=(c.k.old x).2 ⟨i,a,p⟩;have n:IV w x:=by(refine⟨?_,k⟩;have pg:=c.k.pg i g;have pl:=c.k.pl;unfold ZI;rw[c.k.c,c.g.ofx a];simp only[decide_eq_true_eq,Lv];exact⟨by omega,by omega,by omega,hs,g⟩)
 have v:=c.f4 x r n x (Lh _) oq;rw[NK,if_pos rfl,t.2.1]at v;rw[<-m]at v;have d:=Z91 rx;grind[EX,Zk,Cy,B2]
theorem CE.start{i}{x:Int}(f:x∈tE T tq w i):EX l5 x/\(Cy l5 x≠0↔x∈w.Q):=by
 have sq:x∈w.Q->EX l5 x/\Cy l5 x≠0:=λa=>by(have e:=Ee (congrArg Prod.fst (c.seen a (Lh _) (by have:=Bo w.heap.W x;omega)));have s:=c.seenK a;grind)
 rcases c.mem f with⟨b,d⟩|⟨b,d,g⟩;have a:=((c.k.tk i b).2.2.2.2.2.2 x d).1;grind;have kk:=c.kept g b d;grind
theorem CE.good{b:Int}(hp:Z8 ⟨w.heap.C,l5,w.heap.P.map (BN w.heap.S),1-w.heap.S,b⟩=true):Gd ⟨w.heap.C,l5,w.heap.P.map (BN w.heap.S),1-w.heap.S,b⟩ (tE T tq w):=by
 have g:=c.g;have hcc:=c.k.c;have hpl:=c.k.pl;have hs:=c.s;have po:=B4 g.p;have hgt:∀i,i<h.P.length->(w.heap.P.map (BN w.heap.S)).getD i M=BN w.heap.S (w.heap.P.getD i M):=λi hi=>by(grind)
 have hng:∀i,i<h.P.length->((w.heap.P.map (BN w.heap.S)).getD i M).K≠0->¬ Cv w.heap.S (w.heap.P.getD i M)/\(w.heap.P.map (BN w.heap.S)).getD i M=w.heap.P.getD i M:=by grind[BN]
 have hb:∀i,ZB ⟨w.heap.C,l5,w.heap.P.map (BN w.heap.S),1-w.heap.S,b⟩ i=ZB h i:=λi=>by grind[ZB]
 have hk5:∀x,x∈w.Q->EX w.heap.W x->EX l5 x/\Zk l5 x=Zk w.heap.W x/\Cy l5 x=Cy w.heap.W x/\B2 l5 x=B2 w.heap.W x:=λx hq ho=>by(have e:=Ee (congrArg Prod.fst (c.seen hq (Lh _) (by have:=Bo w.heap.W x;omega)));grind)
 have hkept:∀i,i<h.P.length->(i:Int)∉w.T->((w.heap.P.map (BN w.heap.S)).getD i M).K≠0->(w.heap.P.getD i M).S≠w.heap.S/\(h.P.getD i M).K=((w.heap.P.map (BN w.heap.S)).getD i M).K/\(h.P.getD i M).U=((w.heap.P.map (BN w.heap.S)).getD i M).U/\(h.P.getD i M).N=((w.heap.P.map (BN w.heap.S)).getD i M).N:=by(intro i hi hn hk;have n:=hng i hi hk;have pg:=c.k.pg i hn;rw[n.2]at hk⊢;refine⟨λq=>n.1 ⟨hk,q⟩,pg.1.symm,pg.2.1.symm,pg.2.2.symm⟩)
 refine⟨hp, ?_, ?_, ?_, ?_, ?_, ?_, ?_⟩;intro i hi hk;simp only[Lb]at hi hk⊢;have n:=hng i oq hk;rw[n.2]at hk⊢;have:=(c.pt.b i hi).s;grind[Cv];intro i hi hk;simp only[Lb]at hi hk⊢;rw[hb];have n:=hng i oq oq;by_cases q:(i:Int)∈w.T;have t:=c.k.tk i q;rw[tE,if_pos q,n.2,hcc];refine⟨NI t.2.2.2.2.2.1 λx hx=>?_,λx hx=>?_⟩;have e:=hk5 x (t.2.2.2.2.2.2 x hx).1 (GW t.2.2.2.2.2.1 hx).1;grind;have e:=hk5 x (t.2.2.2.2.2.2 x hx).1 (GW t.2.2.2.2.2.1 hx).1;grind;have kp:=hkept i oq q oq;rw[tE,if_neg q,if_pos kp.1,<-kp.2.2.1,hcc];have t:=g.t1 i oq oq;refine⟨NI t.1 λx hx=>?_,λx hx=>?_⟩;have e:=c.kept hx q kp.1;grind;rw[(c.kept hx q kp.1).2.2.1];exact t.2 x hx;intro i hi hk;simp only[Lb]at hi hk⊢;rw[hb];have n:=hng i oq oq;by_cases q:(i:Int)∈w.T;have t:=c.k.tk i q;grind;have kp:=hkept i oq q oq;have t:=g.t2 i oq oq;have hx:ZB h i∈T i:=by grind
 have e:=c.kept hx q kp.1;have hq:=c.k.lg i oq kp.1;have st:=c.start (i:=i) (x:=ZB h i) (by grind[tE]);grind[tE];intro i x hx;simp only[Lb];rcases c.mem hx with⟨q1,q2⟩|⟨q1,q2,q3⟩;have t:=c.k.tk i q1;have:BN w.heap.S (w.heap.P.getD i M)=w.heap.P.getD i M:=by rw[BN,if_neg (c.gone0 q1)]
 grind;have t:=g.t0 i x q3;have pg:=c.k.pg i q1;have:BN w.heap.S (w.heap.P.getD i M)=w.heap.P.getD i M:=by rw[BN,if_neg (λq=>q2 q.2)]
 grind;intro a ha;simp only at ha⊢;have h4:(Z1 l4 a).1≠0:=by
  have hr:4096<=a/\a<4096+l5.length:=by grind[Z1]
  have hl5:=c.n5;have hL:=c.i.L;rw[hcc]at hL;have h0:0<=(a-4096)/h.C.pw:=Lq oq oq;have h3:=Lu (a-4096) h.C.pw;have h5:=Ls (a-4096) (b:=h.C.pw) oq;have h6:=Lr (a-4096) (b:=h.C.pw) oq;have h7:(a-4096)/h.C.pw<h.C.pg:=Lp oq (by grind);rw[Lt]at h3;have f:=c.fr ((a-4096)/h.C.pw).toNat ((a-4096)%h.C.pw) oq h5 h6;have ea:ZB h ((a-4096)/h.C.pw).toNat+(a-4096)%h.C.pw=a:=by grind[ZB,Int.toNat_of_nonneg]
  rw[ea]at f;rw[f]at ha;split at ha;simp at ha;exact ha
 have hks:∀i x,x∈T i->x<=a->a<=x+Zk h.W x->(i:Int)∉w.T/\(w.heap.P.getD i M).S≠w.heap.S:=λi x hx h1 h2 =>
  ⟨c.k.nt g hx,λq=>ha (c.gonew hx q h1 h2)⟩
 have cov:∀i x,x∈T i->x<=a->a<=x+Zk h.W x->(x∉w.Q->a=x)->∃i x,x∈tE T tq w i/\x<=a/\a<x+EH l5 x:=by
  intro i x hx h1 h2 h3;obtain⟨n1,n2⟩:=hks i x hx h1 h2;have hm:x∈tE T tq w i:=by grind[tE]
  have kk:=c.kept hx n1 n2;have r:=Bo l5 x;refine⟨i,x,hm,h1, ?_⟩;by_cases q:x∈w.Q;rw[EH,if_neg ((c.start hm).2.2 q),kk.2.2.1];omega;grind[EH]
 rcases c.f3 a with q|⟨x,hx,q1,q2,q3,q4⟩;rw[q]at h4;rcases c.k.dt a h4 with⟨i,x,hx,h1,h2⟩|⟨i,i1,i2,i3⟩;have hkp:EH h.W x<=Zk h.W x+1:=by(have:=Bo h.W x;unfold EH;omega)
 have hh:=hks i x hx h1 oq;refine cov i x hx h1 oq λhq=>?_;have kk:=(c.kept hx hh.1 hh.2).2.2.2 hq;by_cases hk:Cy h.W x=0;grind[EH];have fl:=kk.2.2 hk;have oh:=Ee (c.kept hx hh.1 hh.2).1;have v:=c.f4 x fl.1 fl.2 a h1 oq;grind[NK];have t:=c.k.tk i i1;obtain⟨x,hx,x1,x2⟩:=Z4w t.2.2.2.2.2.1 i2 i3;have hm:x∈tE T tq w i:=by grind[tE]
 have hq:=(t.2.2.2.2.2.2 x hx).1;have e:=hk5 x hq (GW t.2.2.2.2.2.1 hx).1;grind[EH];obtain⟨i,hi,hk⟩:=(c.k.old x).1 hx;have sj:(Z1 w.heap.W x).1=(Z1 h.W x).1:=by(rcases c.k.hd i x hi with q|q;exact q;exfalso;have o2:=q1.1;unfold ZI at o2;rw[hcc,g.ofx hi]at o2;grind)
 rw[(Ee sj).2.1]at q3;grind[NK];intro i x m hx hk h0 h1 hpt;simp only at hk h1 hpt⊢;have hq:=(c.start hx).2.1 hk;have sk:=c.seenK hq;have e:=hk5 x hq sk.2;rw[e.2.1]at h1;rw[e.2.2.2]at hpt;rw[c.seen hq (a:=x+1+m) oq oq];obtain⟨n,n1,n2⟩:=Be.1 hq;have sd:=(c.sd (x+1+m) ⟨n,m,by rw[c.sc];simpa using n1,by rw[n2];exact Z7l h0 h1 hpt,by rw[n2]⟩).2;rcases sd with q|q;exact Lf q;obtain⟨j,hj⟩:=c.where' q;exact Lg ⟨j,hj,(c.start hj).2.2 q⟩;have:crowd (w.heap.P.map (BN w.heap.S))<=crowd h.P:=by(refine ME qo λi hi k1 k2=>?_;by_cases q:(i:Int)∈w.T;have t:=c.k.tk i q;grind;grind)
 have g2:=g.cr;grind
end
def Mt{B:Int}(hB:0<=B){h T}(g:Gd h T){s k}(n:Zy h.W)(hb:∀p∈h.P,p.N<=B)(e1:(rootsF (Zo h) s).2.2=0)(f:(Bu (rootsF (Zo h) s).1).2=0) :∃t,CE h T t (ZF h s) (Cw h s k).heap.W (H5 (Cw h s k)).heap.W/\Eo (Bz h s k)=⟨(ZF h s).heap.C,(H5 (Cw h s k)).heap.W,(ZF h s).heap.P.map (BN (ZF h s).heap.S),1-(ZF h s).heap.S,(Eo (Bz h s k)).B⟩:=by
 have m:=g.p;have e:=cOk h s k n m e1 f;have pr:=Z1l hB n m hb e1 f;have sd:=ZkH hB n m hb e1 f;obtain⟨t,r⟩:=Ze0 g n e1 f;obtain⟨g1,g2,g3,g4,g5⟩:=e.h4;have po:=B4 m;obtain⟨a1,d,u,v,a5,a6,a7,a8⟩:=NY (ZF h s) k k.length;have a1:(Cr h s k).heap=(ZF h s).heap:=a1;have d:(Cr h s k).old=(ZF h s).old:=d;have u:(Cr h s k).T=(ZF h s).T:=u;have v:(Cr h s k).Q=(ZF h s).Q:=v;have w:FL (Cr h s k) (Cw h s k).heap.W (Cr h s k).old.length:=TR e.f3 e.i3 (Cr h s k).old.length (Lj _);have tf:∀x,IV (Cr h s k) x↔IV (ZF h s) x:=λx=>by(unfold IV ZI;rw[a1,u,v])
 have y:=r.c;have z:=r.pl;have b:=r.wl;have w4:(Cw h s k).heap.W.length=h.W.length:=by(have:=w.l;rw[a1]at this;exact this.trans b)
 have fw:=Z7s (c:=h.C) (s:=(ZF h s).heap.S) (l:=(ZF h s).heap.P) (ws:=(Cw h s k).heap.W) oq (by rw[w4,z,po.2.2.2.2.2.2.2.1];exact po.2.2.2.2.2.1) (ZF h s).heap.P.length (Lj _);have e5:(H5 (Cw h s k)).heap.W=Ei h.C.pw (ZF h s).heap.S (ZF h s).heap.P (Cw h s k).heap.W (ZF h s).heap.P.length:=by(simp only[H5,g1,g2,g3])
 have ce:CE h T t (ZF h s) (Cw h s k).heap.W (H5 (Cw h s k)).heap.W:=by(refine⟨g,r,e.i2,e.w2.sp,pr.tab.pt,pr.tab.tk,sd.1,sd.2, ?_, ?_, ?_, ?_, ?_⟩;intro a;rcases w.s a with q|⟨x,hx,q1,q2,q3,q4⟩;refine Lf ?_;rw[a1]at q;exact q;refine Lg ⟨x,d▸hx,(tf x).1 q1,q2, ?_, ?_⟩;rw[a1]at q3;exact q3;rw[a1]at q4;exact q4;intro x hx hf a h1 h2;obtain⟨j,j1,j2⟩:=Be.1 hx;have:=w.f j (by rw[d];exact j1);rw[d,a1,j2]at this;exact this ((tf x).2 hf) a h1 h2;rw[w4,b];rw[e5,fw.1,w4,b];intro i o hi h0 ho;have:=fw.2 i o oq h0 ho;rw[e5];show Z1 _ (4096+(i:Int)*h.C.pw+o)=_;rw[this];by_cases q:Cv (ZF h s).heap.S ((ZF h s).heap.P.getD i M);rw[if_pos ⟨by omega,q⟩,if_pos q];rw[if_neg (λc=>q c.2),if_neg q];rfl)
 have eh:Eo (Bz h s k)=⟨(ZF h s).heap.C,(H5 (Cw h s k)).heap.W,(ZF h s).heap.P.map (BN (ZF h s).heap.S),1-(ZF h s).heap.S,(Eo (Bz h s k)).B⟩:=by(unfold Eo Bz;simp only[H5,g1,g2,g3,y])
 exact⟨t,ce,eh⟩
def ZdA{B:Int}(hB:0<=B){h T}(g:Gd h T){s k}(hw:Zy h.W)(hb:∀p∈h.P,p.N<=B)(hs:GQ h T s)(hk:GQ h T k)(e:(collectF h s k).2.2.2.2=0) :∃T',Gd (collectF h s k).1 T'/\GQ (collectF h s k).1 T' (collectF h s k).2.1/\GQ (collectF h s k).1 T' (collectF h s k).2.2.1:=by
 have hp:=g.p;have hr:=g.refers hs;have hr':=g.refers hk;have pr1:=(Z2U hB hw hb e).p1;by_cases e1:(rootsF (Zo h) s).2.2=0;by_cases e2:(Bu (rootsF (Zo h) s).1).2=0;have e7:collectF h s k=(Eo (Bz h s k),(rootsF (Zo h) s).2.1,Ec (ZF h s) k k.length,(Bz h s k).rep,0):=by rw[collectF,if_pos hp,if_pos ⟨hr,hr'⟩,if_pos e1,if_pos e2]
 rw[e7]at pr1⊢;have pr:=Z1l hB hw hp hb e1 e2;obtain⟨tq,ce,eh⟩:=Mt hB g hw hb e1 e2 (k:=k);have ki:=ce.k;rw[eh]at pr1⊢;have gd:=ce.good pr1;have seen:∀x,NV (ZF h s) x->x=0\/Ob ⟨(ZF h s).heap.C,(H5 (Cw h s k)).heap.W,(ZF h s).heap.P.map (BN (ZF h s).heap.S),1-(ZF h s).heap.S,(Eo (Bz h s k)).B⟩ (tE T tq (ZF h s)) x:=by(intro x hx;rcases hx with q|q;exact Lf q;obtain⟨i,hi⟩:=ce.where' q;exact Lg ⟨i,hi,(ce.start hi).2.2 q⟩)
 refine⟨tE T tq (ZF h s),gd,λx hx=>seen x ?_,λx hx=>seen x ?_⟩;have hbg:=R1 hw hp;have hib:=RB hp;have pr0:PR B (Zo h):=⟨Oh hp hb,Z0P hp⟩;have hall:=RS (roots:=s) hbg hib e1;have ax:=Z6O hall.1 hall.2.1 e2;have:NV (rootsF (Zo h) s).1 x:=by
  unfold rootsF at e1 hx⊢;cases hbb:(LD s.length).find? (λk=>La (E0 (Zo h) s k≠0))with
  |none =>
   rw[hbb]at hx;have h0:∀j,j<s.length->E0 (Zo h) s j=0:=λj hj=>by(have:=List.find?_eq_none.1 hbb j (List.mem_range.2 hj);simpa using this)
   exact Z8N hB hbg hib pr0 s.length h0 x hx
  |some k =>rw[hbb]at e1;simp only at e1;have:=(List.find?_range_eq_some.1 hbb).1;simp[e1]at this
 rcases this with q|q;exact Lf q;exact Lg (ax.2.q x q);have:∀i,i<=k.length->∀x∈Ec (ZF h s) k i,NV (ZF h s) x:=by
  intro i;induction i with
  |zero=>intro _ x hx;simp[Ec]at hx
  |succ i ih =>
   intro hi' x hx;simp only[Ec,List.mem_append,List.mem_singleton]at hx;rcases hx with hx|rfl;exact ih oq x hx;have hsi:=NY (ZF h s) k i;unfold GD;split;exact Lf rfl;rename_i hne;unfold BR;rw[hsi.2.2.2.1,hsi.1];split;rename_i hq;exact Lg hq;cases ht:(ZD (Z1 (ZF h s).heap.W (k.getD i M)).1).2 with
   |true =>refine Lg (pr.rt.t _ ?_ ht);rw[ki.old];rcases hk _ (Be.2 ⟨i,by omega,rfl⟩)with q|q;exact absurd q hne;exact q
   |false =>refine Lf ?_;unfold ZD at ht⊢;split at ht;simp at ht;rename_i hcc2;rw[if_neg hcc2]
 exact this k.length (Lj _) x hx;rw[collectF,if_pos hp,if_pos ⟨hr,hr'⟩,if_pos e1,if_neg e2]at e;exact absurd e e2;rw[collectF,if_pos hp,if_pos ⟨hr,hr'⟩,if_neg e1]at e;exact absurd e e1
def WG.collect{w n}(h:WG w)(a:C3 w n):WG w.collect:=by unfold Zj.collect;split;rename_i e;obtain⟨T,g,b,c⟩:=h;exact ZdA (B:=n) oq g a.W (λp d=>(a.pin_mem p d).2) b c e;exact h
def WG.step{w n}(h:WG w)(a:C3 w n)(b:n<=1000000) t:WG (w.step t):=by
 unfold Zj.step;repeat' split
 exact h.put a.W (PD _ _);exact h.link a b _;exact h.pin a b _;exact h.drop _;exact h.collect a;exact h.dup _
def Z2f{w n}(h:WG w)(a:C3 w n) t:∀k,n+k<=1000000->WG (G9 w t k).1|0,_=>h|k+1,hk=>(Z2f h a t k oq).step (D8 a t k oq) oq _
def Z4l l:WG (ZA l):=by
 have e:=OV l;have hl:(((EL l).step 4).step 5).l.length<=300:=by rw[e.1];simp;omega
 have hk:=Mv (EL l).empty (((EL l).step 4).step 5) oq;exact Z2f (Z2w (EL l)) (Py (EL l)) _ _ oq
def Z9z{w:Z6}{r}(e:(w.fwd r).2.2=0):(w.fwd r).1.heap.B=w.heap.B:=by
 unfold Z6.fwd Z6.place at e⊢;repeat' split
 all_goals first|rfl|simp_all
def Zj3{h:Heap}{s}(c:Zy h.W)(b:Z8 h=true)(e:(rootsF (Zo h) s).2.2=0)(a:(Bu (rootsF (Zo h) s).1).2=0):(ZF h s).heap.B=h.B:=
 TG (λw=>w.heap.B=h.B) (λ_ _ _ _ q e=>(Z9z e).trans q) (λ_ _ _ _ _ q _ _ _ e=>(Z9z e).trans q) (λ_ _ q=>q) c b rfl e a
section
variable {B:Int} (c:0<=B) {h:Heap} {T:Nat->List Int} (g:Gd h T) {s:List Int} (k:List Int) (b:Zy h.W) (d:∀p∈h.P,p.N<=B) (e1:(rootsF (Zo h) s).2.2=0) (a:(Bu (rootsF (Zo h) s).1).2=0)
include c g b d e1 a
theorem Z8h:FV h T (Cr h s k):=by have j:=cOk h s k b g.p e1 a;obtain⟨tq,l,_⟩:=Mt c g b d e1 a (k:=k);obtain⟨a1,r,m,a4,a5,a6,a7,a8⟩:=NY (ZF h s) k k.length;have a1:(Cr h s k).heap=(ZF h s).heap:=a1;have m:(Cr h s k).T=(ZF h s).T:=m;have n:=GK.1 g.p;have e:=l.k;have w:=Zj3 b g.p e1 a;refine⟨g,j.f3,j.i3, ?_,by rw[a1];exact e.c,by rw[a1];exact e.pl, ?_, ?_,j.r3.1,λi f=>?_⟩;rw[a1,GK];have L:=j.i2.L;refine⟨e.c▸n.1,L,by rw[e.pl,e.c];exact n.2.2.1,l.s, ?_,l.pt⟩;rw[w];refine n.2.2.2.2.1.imp id λ⟨t,u,v⟩=>⟨t,by rw[e.pl];exact u, ?_⟩;by_cases q:((h.B.toNat:Nat):Int)∈(ZF h s).T;exact(e.tk _ q).2.2.1;rw[(e.pg _ q).1];exact v;exact r.trans j.x2.o;rw[a1];intro p y;obtain⟨i,o,rfl⟩:=List.getElem_of_mem y;have:=(l.pt.b i o).s;rw[Ld,Li o,Option.getD_some]at this;omega;unfold ZI at f;rw[a1,m]at f;simp only[decide_eq_true_eq,Lv]at f;obtain⟨p1,p2,p3⟩:=e.pg i f.2.2.2.2;rw[a1];refine⟨by rw[<-p1];exact f.2.2.1,p2,λx z=>?_⟩;exact(e.hd i x z).resolve_right λq=>f.2.2.2.1 q.2.2
theorem Zbg:ET (Cr h s k) (Cr h s k).heap.P.length=Cw h s k:=(Z8h c g k b d e1 a).fin
theorem Zhb:PT (Cw h s k).heap.C (Cw h s k).heap.P:=by have f:=cOk h s k b g.p e1 a;obtain⟨tq,e,_⟩:=Mt c g b d e1 a (k:=k);rw[f.h4.1,f.h4.2.1,<-e.k.c];exact e.pt
end
end Go.Proofs.YtgedmeaemofdkaaGreat
