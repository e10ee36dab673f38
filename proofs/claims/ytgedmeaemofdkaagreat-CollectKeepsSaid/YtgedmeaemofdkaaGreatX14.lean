/-
 The statement CollectKeeps: part 14.
 Conditions: none.
-/
import Derived.Test.YtgedmeaemofdkaaGreatX13
set_option maxRecDepth 100000
set_option maxHeartbeats 2000000
set_option linter.all false
open Inhabited renaming default->M
open List renaming map->O,length_map->Lb,getD_eq_getElem?_getD->Ld,getElem?_eq_getElem->Li,ext_getElem->Lk,getElem_map->Ll,map_set->Lm,replicate->Ln,getElem?_eq_none->Lw,getElem?_map->Lx,getElem_range->Ly,getElem_set->Lz,length_set->LA,mem_append_left->LB,mem_append_right->LC,range->LD
open Decidable renaming decide->La
open Option renaming some->Lc,map_eq_some_iff->Lo
open Nat renaming beq->Le,le_refl->Lj,eq_of_beq_eq_true->LF
open Or renaming inl->Lf,inr->Lg
open Int renaming le_refl->Lh,ediv_lt_of_lt_mul->Lp,ediv_nonneg->Lq,emod_lt_of_pos->Lr,emod_nonneg->Ls,mul_comm->Lt,mul_ediv_add_emod->Lu,toNat_natCast->Lv
open Go.Proofs.Tryz
namespace Go.Proofs.YtgedmeaemofdkaaGreat
open Go.Sx
def BJ(l:List Z0)(i m:Nat):List Z0:=(LD l.length).map λj=>if i<=j/\j<=i+m then⟨0,0,0,0⟩else l.getD j M
def T9 l i m:(BJ l i m).length=l.length:=by simp[BJ]
def Z7t{l:List Z0}{i m j:Nat}(h:j<l.length):(BJ l i m).getD j M=if i<=j/\j<=i+m then⟨0,0,0,0⟩else l.getD j M:=by rw[Ld,Li (by rw[T9];exact h)];simp[BJ]
def Ze1{l i}:BJ l i 0=l.set i ⟨0,0,0,0⟩:=by
 refine Lk (by simp[BJ]) λj h1 b=>?_;have h:j<l.length:=by simpa using b
 have e:l.getD j M=l[j]:=by simp[Ld,h]
 simp only[BJ,Ll,Ly,Lz,e];by_cases a:i=j;subst a;rw[if_pos oq,if_pos rfl];rw[if_neg oq,if_neg a]
def Zlv{l:List Z0}{i m:Nat}(h:i+1+m<l.length):(BJ l i m).set (i+1+m) ⟨0,0,0,0⟩=BJ l i (m+1):=by
 refine Lk (by simp[BJ]) λj h1 c=>?_;have h:j<l.length:=by simpa[BJ]using c
 simp only[BJ,Ll,Ly,Lz];by_cases a:i+1+m=j;subst a;rw[if_pos rfl,if_pos oq];rw[if_neg a];by_cases b:i<=j/\j<=i+m;rw[if_pos b,if_pos oq];rw[if_neg b,if_neg oq]
def Z4x{l i m}:(BJ l i m).getD (i+1+m) M=l.getD (i+1+m) M:=by by_cases h:i+1+m<l.length;rw[Z7t h,if_neg oq];rw[Ld,Ld,Lw (by rw[T9];omega),Lw oq]
def Pf(l:List Z0)(i:Int)(m:Nat):Tg:=⟨tm 59 [(4,.d (.sl 0 [])),(5,nI 0),(6,nI (l.getD i.toNat M).K),(7,.ow 41029),(8,nI (i+1+m))],[(41029,.arr 86 4 ((BJ l i.toNat m).map Z0.dv))],60⟩
section
variable(l:List Z0)(i:Int)(hl:l.length<=1048576)(hi:0<=i/\i<l.length)(hk:(l.getD i.toNat M).K=2)
include hl hi hk
theorem Zkz(m:Nat)(hm:m<ZE l i.toNat):CP (Zm f136 0) (Pf l i m).st .nrm (Pf l i (m+1)).st:=by
 obtain⟨t1,t2⟩:=Sg hm;have ha:=Z4x (l:=l) (i:=i.toNat) (m:=m);have hq:=Zlv (l:=l) (i:=i.toNat) (m:=m) t1;have hn:=T9 l i.toNat m;have eN:i.toNat+1+m=(i+1+(m:Int)).toNat:=by omega
 rw[eN]at ha hq t2;have t3:((BJ l i.toNat m).getD (i+1+(m:Int)).toNat M).K=3:=by rw[ha];exact t2
 exact sF [] (fP 14)<|Fh 10057 [.els (O Z0.dv ((BJ l i.toNat m).set (i+1+(m:Int)).toNat (Z0.mk 0 0 0 0)))]<|FlG 41 ((l.getD i.toNat M).K==2) Z0.dv (BJ l i.toNat m)<|FmGq 49 ((l.getD i.toNat M).K==2&&La (i+1+(m:Int)<(↑(BJ l i.toNat m).length:Int))) Z0.dv (BJ l i.toNat m) (i+1+(m:Int))<|Ftb 51 ((l.getD i.toNat M).K==2&&La (i+1+(m:Int)<(↑(BJ l i.toNat m).length:Int))&&((BJ l i.toNat m).getD (i+1+(m:Int)).toNat M).K==3)<|Fa (by(simp only[Lb];omega):0<=i+1+(m:Int)/\(i+1+(m:Int)).toNat<(O Z0.dv (BJ l i.toNat m)).length)<|Fa (by(simp only[Lb];omega):(i+1+(m:Int)).toNat<(O Z0.dv (BJ l i.toNat m)).length)<|Fa (by rw[Lm];rfl:(O Z0.dv (BJ l i.toNat m)).set (i+1+(m:Int)).toNat [Zq 0,Zq 0,Zq 0,Zq 0]=O Z0.dv ((BJ l i.toNat m).set (i+1+(m:Int)).toNat (Z0.mk 0 0 0 0)))<|Fi 53 (i+1+(m:Int)+1)<|Fo (i+1+(m:Int)+1=i+1+(↑(m+1):Int))<|Fr (86:Int)<|Fa (by refine congrArg _ ?_;assumption:O Z0.dv ((BJ l i.toNat m).set (i+1+(m:Int)).toNat (Z0.mk 0 0 0 0))=O Z0.dv (BJ l i.toNat (m+1))) Fz
theorem Zmt:CP (Zm f136 0) (Pf l i (ZE l i.toNat)).st (.ext 0) (Tg.st ⟨tm 59 [(4,.d (.sl 0 [])),(5,nI 0),(7,.ow 41029)],[(41029,.arr 86 4 ((BJ l i.toNat (ZE l i.toNat)).map Z0.dv))],60⟩):=by
 have ha:=Z4x (l:=l) (i:=i.toNat) (m:=ZE l i.toNat);have hn:=T9 l i.toNat (ZE l i.toNat);have eN:i.toNat+1+ZE l i.toNat=(i+1+(ZE l i.toNat:Int)).toNat:=by omega
 have t3:(i+1+(ZE l i.toNat:Int))<l.length->¬ ((BJ l i.toNat (ZE l i.toNat)).getD (i+1+(ZE l i.toNat:Int)).toNat M).K=3:=λh=>by(rw[<-eN,ha];exact P5 oq)
 by_cases h:(i+1+(ZE l i.toNat:Int))<l.length;have t4:=t3 h;exact sF [] []<|FlG 41 ((l.getD i.toNat M).K==2) Z0.dv (BJ l i.toNat (ZE l i.toNat))<|FmGq 49 ((l.getD i.toNat M).K==2&&La (i+1+(↑(ZE l i.toNat):Int)<(↑(BJ l i.toNat (ZE l i.toNat)).length:Int))) Z0.dv (BJ l i.toNat (ZE l i.toNat)) (i+1+(↑(ZE l i.toNat):Int))<|Ffb 51 ((l.getD i.toNat M).K==2&&La (i+1+(↑(ZE l i.toNat):Int)<(↑(BJ l i.toNat (ZE l i.toNat)).length:Int))&&((BJ l i.toNat (ZE l i.toNat)).getD (i+1+(↑(ZE l i.toNat):Int)).toNat M).K==3) Fz;exact sF [] []<|FlG 41 ((l.getD i.toNat M).K==2) Z0.dv (BJ l i.toNat (ZE l i.toNat))<|FmGq 49 ((l.getD i.toNat M).K==2&&La (i+1+(↑(ZE l i.toNat):Int)<(↑(BJ l i.toNat (ZE l i.toNat)).length:Int))) Z0.dv (BJ l i.toNat (ZE l i.toNat)) (i+1+(↑(ZE l i.toNat):Int))<|Ffb 51 ((l.getD i.toNat M).K==2&&La (i+1+(↑(ZE l i.toNat):Int)<(↑(BJ l i.toNat (ZE l i.toNat)).length:Int))&&((BJ l i.toNat (ZE l i.toNat)).getD (i+1+(↑(ZE l i.toNat):Int)).toNat M).K==3) Fz
theorem Zkc:CP (Zi f136 0) (Tg.st ⟨tm 59 [(4,.d (.sl 0 [])),(5,nI 0),(6,nI (l.getD i.toNat M).K),(7,.ow 41029),(8,nI (i+1))],[(41029,.arr 86 4 ((l.set i.toNat ⟨0,0,0,0⟩).map Z0.dv))],60⟩) .nrm (Tg.st ⟨tm 59 [(4,.d (.sl 0 [])),(5,nI 0),(7,.ow 41029)],[(41029,.arr 86 4 ((BJ l i.toNat (ZE l i.toNat)).map Z0.dv))],60⟩):=by have h:=Bp (S:=λj=>(Pf l i j).st) (ZE l i.toNat) kr (λj a=>Zkz l i hl hi hk j a) (Zmt l i hl hi hk);simp only[Pf,Ze1]at h;rw[show i+1+((0:Nat):Int)=i+1 from by omega]at h;exact h
end
def Z4W(l:List Z0)(i:Int):Tg:=⟨tm 59 [(4,.d (.sl 0 [])),(5,nI 0),(6,nI (l.getD i.toNat M).K),(7,.ow 41029),(8,nI (i+1))],[(41029,.arr 86 4 ((l.set i.toNat ⟨0,0,0,0⟩).map Z0.dv))],60⟩
def Zis(l:List Z0)(i:Int)(hl:l.length<=1048576)(hi:0<=i/\i<l.length)(hk:(l.getD i.toNat M).K=1):CP (Zm f136 0) (Z4W l i).st (.ext 0) (Tg.st ⟨tm 59 [(4,.d (.sl 0 [])),(5,nI 0),(7,.ow 41029)],[(41029,.arr 86 4 ((l.set i.toNat ⟨0,0,0,0⟩).map Z0.dv))],60⟩):=by exact sF [] []<|Fh 41 [.int ↑l.length]<|Fa (by intro hg;(try simp only[bs]at hg);simp only[Lb,List.length_append,List.length_take,List.length_drop,LA,List.length_replicate,List.length_nil,List.length_cons]:((l.getD i.toNat M).K==2)=true->(↑(O Z0.dv (l.set i.toNat (Z0.mk 0 0 0 0))).length:Int)=(l.length:Int))<|FmGq 49 ((l.getD i.toNat M).K==2&&La (i+1<(l.length:Int))) Z0.dv (l.set i.toNat (Z0.mk 0 0 0 0)) (i+1)<|Ffb 51 ((l.getD i.toNat M).K==2&&La (i+1<(l.length:Int))&&((l.set i.toNat (Z0.mk 0 0 0 0)).getD (i+1).toNat M).K==3) Fz
def ZfO(l:List Z0)(i:Int)(hl:l.length<=1048576)(a:0<=i/\i<l.length)(c:(l.getD i.toNat M).K=1)  := Bp (S:=λ_=>(Z4W l i).st) 0 (by kernel_rfl) (λj b=>absurd b (Nat.not_lt_zero j)) (Zis l i hl a c)
def ZmR(l:List Z0)(i:Int)(hl:l.length<=1048576)(hi:0<=i/\i<l.length)(hk:(l.getD i.toNat M).K=1):GP 136 [B5 l,nI i] true (.tu [B5 (l.set i.toNat ⟨0,0,0,0⟩),nI 0]) []:=by have hne:l≠[]:=AB oq;let y0:=l.set i.toNat (Z0.mk 0 0 0 0);exact gF [] func136 []<|Fh 10033 [.els (O Z0.dv y0)]<|FlG 14 (!decide (i<0)) Z0.dv l<|Ffb 16 (La (i<0)||La ((l.length:Int)<=i))<|Fe 19 Z0.dv l i<|Ffb 27 ((l.getD i.toNat M).K != 1&&(l.getD i.toNat M).K != 2)<|Fc 29 (@Z43 l aa)<|Fa (by(simp only[Lb];omega):0<=i/\i.toNat<(O Z0.dv l).length)<|Fa (by(simp only[Lb];omega):i.toNat<(O Z0.dv l).length)<|Fa (by rw[Lm];rfl:(O Z0.dv l).set i.toNat [Zq 0,Zq 0,Zq 0,Zq 0]=O Z0.dv y0)<|Fi 35 (i+1)<|Fu (@ZfO l i aa aa aa)<|Fa (N8 _:Ce (O Z0.dv y0)) Fz
def Zly(l:List Z0)(i:Int)(hl:l.length<=1048576)(hi:0<=i/\i<l.length)(hk:(l.getD i.toNat M).K=2):GP 136 [B5 l,nI i] true (.tu [B5 (BJ l i.toNat (ZE l i.toNat)),nI 0]) []:=by have hne:l≠[]:=AB oq;exact gF [] func136 []<|Fh 10033 [.els (O Z0.dv (l.set i.toNat (Z0.mk 0 0 0 0)))]<|FlG 14 (!decide (i<0)) Z0.dv l<|Ffb 16 (La (i<0)||La ((l.length:Int)<=i))<|Fe 19 Z0.dv l i<|Ffb 27 ((l.getD i.toNat M).K != 1&&(l.getD i.toNat M).K != 2)<|Fc 29 (@Z43 l aa)<|Fa (by(simp only[Lb];omega):0<=i/\i.toNat<(O Z0.dv l).length)<|Fa (by(simp only[Lb];omega):i.toNat<(O Z0.dv l).length)<|Fa (by rw[Lm];rfl:(O Z0.dv l).set i.toNat [Zq 0,Zq 0,Zq 0,Zq 0]=O Z0.dv (l.set i.toNat (Z0.mk 0 0 0 0)))<|Fi 35 (i+1)<|Fu (@Zkc l i aa aa aa)<|Fa (N8 _:Ce (O Z0.dv (BJ l i.toNat (ZE l i.toNat)))) Fz
def frL(w:Z7)(a b:List Z0)(ws:List Int)(n:Int)(i:Nat):Tg:=⟨tm 88 [(0,.pt 0 0 0),(2,.pt 0 0 0),(21,B5 a),(22,nI a.length),(23,nI i)],[(0,.box 127 [nI w.j.C.pw,nI w.j.C.pg,.ow 25015,B5 b,nI w.j.S,nI w.j.B,Z2 w.old,ZC w.T,Z2 w.Q,nI w.D,nI w.rep.copied,nI w.rep.kept,nI w.rep.filled,nI n,nI w.rep.cleared,nI w.rep.steps]),(25015,.arr 35 1 (ws.map wD))],5⟩
section
variable(w:Z7)(qs ps:List Z0)(ws:List Int)(n:Int)(i:Nat)(hl:qs.length<=64)(hi:i<qs.length)
include hl hi
theorem Zk6(c:¬ CC w.j.S (qs.getD i M)):CP (Zm f81 0) (frL w qs ps ws n i).st .nrm (frL w qs ps ws n (i+1)).st:=by unfold CC at c;by_cases d:(qs.getD i M).K=0;exact sF [] []<|Ftb 24 (La ((i:Int)<(qs.length:Int)))<|Fek 26 Z0.dv qs (↑i) i<|Ftb 39 ((qs.getD i M).K==0||(qs.getD i M).S != w.j.S)<|Fx 87 i Fz;have d2:¬ (qs.getD i M).S=w.j.S:=λq=>c ⟨d,q⟩;exact sF [] []<|Ftb 24 (La ((i:Int)<(qs.length:Int)))<|Fek 26 Z0.dv qs (↑i) i<|Ftb 39 ((qs.getD i M).K==0||(qs.getD i M).S != w.j.S)<|Fx 87 i Fz
omit hl hi in
theorem Z2Z a m:Cf (O wD ws) a (Ln m [ZZ 0])=O wD (Ck ws a (Ln m 0)):=by simp[Cf,wD,Ck]
theorem ZdY(c:CC w.j.S (qs.getD i default))(k3:(qs.getD i default).K=3)(hp:0≤w.j.C.pw∧w.j.C.pw≤64)(hw:i*w.j.C.pw.toNat+w.j.C.pw.toNat≤ws.length)(hw2:ws.length≤4096)(hn:0≤n∧n≤64):CSpec Tryz.prog (Zm Tryz.f81 0) (frL w qs ps ws n i).st .nrm (frL w qs ps (Ck ws (i*w.j.C.pw.toNat) (List.replicate w.j.C.pw.toNat 0)) (n+1) (i+1)).st:=by
 obtain⟨c1,c2⟩:=c
 have em:(i:Int)*w.j.C.pw=((i*w.j.C.pw.toNat:Nat):Int):=by rw[Int.natCast_mul,Int.toNat_of_nonneg hp.1]
 have em2:((i+1:Nat):Int)*w.j.C.pw=((i*w.j.C.pw.toNat+w.j.C.pw.toNat:Nat):Int):=by rw[Int.natCast_add,Int.add_mul,em];omega
 have t1:((i:Int)*w.j.C.pw).toNat=i*w.j.C.pw.toNat:=by omega
 have t2:(((i+1:Nat):Int)*w.j.C.pw).toNat-i*w.j.C.pw.toNat=w.j.C.pw.toNat:=by omega
 exact sF [] (fO 13)<|Fh 20000 [.els (List.map wD (List.take ((↑i:Int)*w.j.C.pw).toNat ws++List.replicate (((↑(i+1):Int)*w.j.C.pw).toNat-((↑i:Int)*w.j.C.pw).toNat) 0++List.drop (((↑i:Int)*w.j.C.pw).toNat+(List.replicate (((↑(i+1):Int)*w.j.C.pw).toNat-((↑i:Int)*w.j.C.pw).toNat) (0:Int)).length) ws))]<|Ftb 24 (decide ((↑i:Int)<(↑qs.length:Int)))<|Fek 26 Z0.dv qs (↑i) i<|Ffb 39 ((qs.getD i default).K==0||(qs.getD i default).S != w.j.S)<|Fi 50 ((↑i:Int)*w.j.C.pw)<|Fx 52 i<|Fi 58 ((↑(i+1):Int)*w.j.C.pw)<|Fa (by(simp only[List.length_map];omega):0≤(↑i:Int)*w.j.C.pw∧(↑i:Int)*w.j.C.pw≤(↑(i+1):Int)*w.j.C.pw∧(↑(i+1):Int)*w.j.C.pw≤(↑(List.map wD ws).length:Int))<|Fa (Z2Z _ _ _:Cf (List.map wD ws) ((↑i:Int)*w.j.C.pw).toNat (List.replicate (((↑(i+1):Int)*w.j.C.pw).toNat-((↑i:Int)*w.j.C.pw).toNat) [ZZ 0])=List.map wD (List.take ((↑i:Int)*w.j.C.pw).toNat ws++List.replicate (((↑(i+1):Int)*w.j.C.pw).toNat-((↑i:Int)*w.j.C.pw).toNat) 0++List.drop (((↑i:Int)*w.j.C.pw).toNat+(List.replicate (((↑(i+1):Int)*w.j.C.pw).toNat-((↑i:Int)*w.j.C.pw).toNat) (0:Int)).length) ws))<|Fi 65 (n+1)<|Ffb 71 ((qs.getD i default).K != 3)<|Fx 87 i<|Fr (35:Int)<|Fa (by refine congrArg _ ?_;rw[t1,t2];rfl:List.map wD (List.take ((↑i:Int)*w.j.C.pw).toNat ws++List.replicate (((↑(i+1):Int)*w.j.C.pw).toNat-((↑i:Int)*w.j.C.pw).toNat) 0++List.drop (((↑i:Int)*w.j.C.pw).toNat+(List.replicate (((↑(i+1):Int)*w.j.C.pw).toNat-((↑i:Int)*w.j.C.pw).toNat) (0:Int)).length) ws)=List.map wD (Ck ws (i*w.j.C.pw.toNat) (List.replicate w.j.C.pw.toNat 0))) Fz
theorem Zf4(c:CC w.j.S (qs.getD i default))(k3:(qs.getD i default).K=1)(pl:ps.length≤64)(ip:i<ps.length)(kp:(ps.getD i default).K=1)(hp:0≤w.j.C.pw∧w.j.C.pw≤64)(hw:i*w.j.C.pw.toNat+w.j.C.pw.toNat≤ws.length)(hw2:ws.length≤4096)(hn:0≤n∧n≤64):CSpec Tryz.prog (Zm Tryz.f81 0) (frL w qs ps ws n i).st .nrm (frL w qs (ps.set i ⟨0,0,0,0⟩) (Ck ws (i*w.j.C.pw.toNat) (List.replicate w.j.C.pw.toNat 0)) (n+1) (i+1)).st:=by
 obtain⟨c1,c2⟩:=c
 have em:(i:Int)*w.j.C.pw=((i*w.j.C.pw.toNat:Nat):Int):=by rw[Int.natCast_mul,Int.toNat_of_nonneg hp.1]
 have em2:((i+1:Nat):Int)*w.j.C.pw=((i*w.j.C.pw.toNat+w.j.C.pw.toNat:Nat):Int):=by rw[Int.natCast_add,Int.add_mul,em];omega
 have t1:((i:Int)*w.j.C.pw).toNat=i*w.j.C.pw.toNat:=by omega
 have t2:(((i+1:Nat):Int)*w.j.C.pw).toNat-i*w.j.C.pw.toNat=w.j.C.pw.toNat:=by omega
 have kp2:(ps.getD (i:Int).toNat default).K=1:=kp
 exact sF [] (fO 13)<|Fh 20000 [.els (List.map wD (List.take ((↑i:Int)*w.j.C.pw).toNat ws++List.replicate (((↑(i+1):Int)*w.j.C.pw).toNat-((↑i:Int)*w.j.C.pw).toNat) 0++List.drop (((↑i:Int)*w.j.C.pw).toNat+(List.replicate (((↑(i+1):Int)*w.j.C.pw).toNat-((↑i:Int)*w.j.C.pw).toNat) (0:Int)).length) ws))]<|Ftb 24 (decide ((↑i:Int)<(↑qs.length:Int)))<|Fek 26 Z0.dv qs (↑i) i<|Ffb 39 ((qs.getD i default).K==0||(qs.getD i default).S != w.j.S)<|Fi 50 ((↑i:Int)*w.j.C.pw)<|Fx 52 i<|Fi 58 ((↑(i+1):Int)*w.j.C.pw)<|Fa (by(simp only[List.length_map];omega):0≤(↑i:Int)*w.j.C.pw∧(↑i:Int)*w.j.C.pw≤(↑(i+1):Int)*w.j.C.pw∧(↑(i+1):Int)*w.j.C.pw≤(↑(List.map wD ws).length:Int))<|Fa (Z2Z _ _ _:Cf (List.map wD ws) ((↑i:Int)*w.j.C.pw).toNat (List.replicate (((↑(i+1):Int)*w.j.C.pw).toNat-((↑i:Int)*w.j.C.pw).toNat) [ZZ 0])=List.map wD (List.take ((↑i:Int)*w.j.C.pw).toNat ws++List.replicate (((↑(i+1):Int)*w.j.C.pw).toNat-((↑i:Int)*w.j.C.pw).toNat) 0++List.drop (((↑i:Int)*w.j.C.pw).toNat+(List.replicate (((↑(i+1):Int)*w.j.C.pw).toNat-((↑i:Int)*w.j.C.pw).toNat) (0:Int)).length) ws))<|Fi 65 (n+1)<|Ftb 71 ((qs.getD i default).K != 3)<|Fc 78 (@ZmR ps ((↑i:Int)) (by omega) (by omega) ‹_›)<|Fc 82 (@IB (0) (by rfl))<|Fx 87 i<|Fr (35:Int)<|Fa (by refine congrArg _ ?_;rw[t1,t2];rfl:List.map wD (List.take ((↑i:Int)*w.j.C.pw).toNat ws++List.replicate (((↑(i+1):Int)*w.j.C.pw).toNat-((↑i:Int)*w.j.C.pw).toNat) 0++List.drop (((↑i:Int)*w.j.C.pw).toNat+(List.replicate (((↑(i+1):Int)*w.j.C.pw).toNat-((↑i:Int)*w.j.C.pw).toNat) (0:Int)).length) ws)=List.map wD (Ck ws (i*w.j.C.pw.toNat) (List.replicate w.j.C.pw.toNat 0))) Fz
theorem ZeZ(c:CC w.j.S (qs.getD i default))(k3:(qs.getD i default).K=2)(pl:ps.length≤64)(ip:i<ps.length)(kp:(ps.getD i default).K=2)(hp:0≤w.j.C.pw∧w.j.C.pw≤64)(hw:i*w.j.C.pw.toNat+w.j.C.pw.toNat≤ws.length)(hw2:ws.length≤4096)(hn:0≤n∧n≤64):CSpec Tryz.prog (Zm Tryz.f81 0) (frL w qs ps ws n i).st .nrm (frL w qs (BJ ps i (ZE ps i)) (Ck ws (i*w.j.C.pw.toNat) (List.replicate w.j.C.pw.toNat 0)) (n+1) (i+1)).st:=by
 obtain⟨c1,c2⟩:=c
 have em:(i:Int)*w.j.C.pw=((i*w.j.C.pw.toNat:Nat):Int):=by rw[Int.natCast_mul,Int.toNat_of_nonneg hp.1]
 have em2:((i+1:Nat):Int)*w.j.C.pw=((i*w.j.C.pw.toNat+w.j.C.pw.toNat:Nat):Int):=by rw[Int.natCast_add,Int.add_mul,em];omega
 have t1:((i:Int)*w.j.C.pw).toNat=i*w.j.C.pw.toNat:=by omega
 have t2:(((i+1:Nat):Int)*w.j.C.pw).toNat-i*w.j.C.pw.toNat=w.j.C.pw.toNat:=by omega
 have kp2:(ps.getD (i:Int).toNat default).K=2:=kp
 exact sF [] (fO 13)<|Fh 20000 [.els (List.map wD (List.take ((↑i:Int)*w.j.C.pw).toNat ws++List.replicate (((↑(i+1):Int)*w.j.C.pw).toNat-((↑i:Int)*w.j.C.pw).toNat) 0++List.drop (((↑i:Int)*w.j.C.pw).toNat+(List.replicate (((↑(i+1):Int)*w.j.C.pw).toNat-((↑i:Int)*w.j.C.pw).toNat) (0:Int)).length) ws))]<|Ftb 24 (decide ((↑i:Int)<(↑qs.length:Int)))<|Fek 26 Z0.dv qs (↑i) i<|Ffb 39 ((qs.getD i default).K==0||(qs.getD i default).S != w.j.S)<|Fi 50 ((↑i:Int)*w.j.C.pw)<|Fx 52 i<|Fi 58 ((↑(i+1):Int)*w.j.C.pw)<|Fa (by(simp only[List.length_map];omega):0≤(↑i:Int)*w.j.C.pw∧(↑i:Int)*w.j.C.pw≤(↑(i+1):Int)*w.j.C.pw∧(↑(i+1):Int)*w.j.C.pw≤(↑(List.map wD ws).length:Int))<|Fa (Z2Z _ _ _:Cf (List.map wD ws) ((↑i:Int)*w.j.C.pw).toNat (List.replicate (((↑(i+1):Int)*w.j.C.pw).toNat-((↑i:Int)*w.j.C.pw).toNat) [ZZ 0])=List.map wD (List.take ((↑i:Int)*w.j.C.pw).toNat ws++List.replicate (((↑(i+1):Int)*w.j.C.pw).toNat-((↑i:Int)*w.j.C.pw).toNat) 0++List.drop (((↑i:Int)*w.j.C.pw).toNat+(List.replicate (((↑(i+1):Int)*w.j.C.pw).toNat-((↑i:Int)*w.j.C.pw).toNat) (0:Int)).length) ws))<|Fi 65 (n+1)<|Ftb 71 ((qs.getD i default).K != 3)<|Fc 78 (@Zly ps ((↑i:Int)) (by omega) (by omega) ‹_›)<|Fc 82 (@IB (0) (by rfl))<|Fx 87 i<|Fr (35:Int)<|Fa (by refine congrArg _ ?_;rw[t1,t2];rfl:List.map wD (List.take ((↑i:Int)*w.j.C.pw).toNat ws++List.replicate (((↑(i+1):Int)*w.j.C.pw).toNat-((↑i:Int)*w.j.C.pw).toNat) 0++List.drop (((↑i:Int)*w.j.C.pw).toNat+(List.replicate (((↑(i+1):Int)*w.j.C.pw).toNat-((↑i:Int)*w.j.C.pw).toNat) (0:Int)).length) ws)=List.map wD (Ck ws (i*w.j.C.pw.toNat) (List.replicate w.j.C.pw.toNat 0))) Fz
end
def Cm(s:Int)(a:List Z0):Nat->List Z0|0=>a|i+1=>if CC s (a.getD i M)then(if(a.getD i M).K=1 then(Cm s a i).set i ⟨0,0,0,0⟩else if(a.getD i M).K=2 then BJ (Cm s a i) i (ZE (Cm s a i) i)else Cm s a i)else Cm s a i
def Dg s a:∀i,(Cm s a i).length=a.length
 |0=>rfl
 |i+1=>by
  have:=Dg s a i;rw[Cm];split
  .split
   .rw[LA];exact this
   .split
    .rw[T9];exact this
    .exact this
  .exact this
def NF(c:B7)(s:Int)(a:List Z0)(i j:Nat):Prop:=CC s (a.getD j M)/\((a.getD j M).K=3->∃h,h<i/\h<j/\(a.getD h M).K=2/\(j:Int)<h+need c (a.getD h M).U)/\(¬ (a.getD j M).K=3->j<i)
section
variable{c:B7}{s:Int}{qs:List Z0}(P:PT c qs)
include P
theorem ZaJ{h i:Nat}(hi:i<qs.length)(h1:h<i)(k1:(qs.getD h M).K=2)(a:¬ (qs.getD i M).K=3):(h:Int)+need c (qs.getD h M).U<=i:=by by_cases q:(h:Int)+need c (qs.getD h M).U<=i;exact q;have:=(P.lg h oq k1).2 (i-h) oq oq;rw[show h+(i-h)=i by omega]at this;exact absurd this.2.1 a
theorem MG:∀i,i≤qs.length→∀j,j<qs.length→(NF c s qs i j→(Cm s qs i).getD j default=⟨0,0,0,0⟩)∧(¬ NF c s qs i j→(Cm s qs i).getD j default=qs.getD j default)
 |0,_,j,hj=>by
  refine⟨fun z=>?_,fun _=>rfl⟩
  by_cases k3:(qs.getD j default).K=3
  ·obtain⟨h,h0,_⟩:=z.2.1 k3;omega
  ·have:=z.2.2 k3;omega
 |i+1,hi,j,hj=>by
  obtain⟨h1,h2⟩:=MG i (by omega) j hj
  have ln:=Dg s qs i
  have same:(NF c s qs (i+1) j↔NF c s qs i j)→(Cm s qs (i+1)).getD j default=(Cm s qs i).getD j default→(NF c s qs (i+1) j→(Cm s qs (i+1)).getD j default=⟨0,0,0,0⟩)∧(¬ NF c s qs (i+1) j→(Cm s qs (i+1)).getD j default=qs.getD j default):=fun e1 e2=>by
   rw[e1,e2];exact⟨h1,h2⟩
  have up:NF c s qs i j→NF c s qs (i+1) j:=fun z=>⟨z.1,fun k=>by obtain⟨h,a,b⟩:=z.2.1 k;exact⟨h,by omega,b⟩,fun k=>by have:=z.2.2 k;omega⟩
  by_cases g:CC s (qs.getD i default)
  rotate_left
  ·refine same ⟨fun z=>⟨z.1,fun k=>?_,fun k=>?_⟩,up⟩ (by rw[Cm,if_neg g])
   ·obtain⟨h,a,b,k2,d⟩:=z.2.1 k
    by_cases q:h=i
    ·subst q
     have t:=(P.lg h (by omega) k2).2 (j-h) (by omega) (by omega)
     rw[show h+(j-h)=j by omega]at t
     exact absurd ⟨by omega,by have:=z.1.2;have:=t.2.2;omega⟩ g
    ·exact⟨h,by omega,b,k2,d⟩
   ·have:=z.2.2 k
    by_cases q:j=i
    ·subst q;exact absurd z.1 g
    ·omega
  by_cases c1:(qs.getD i default).K=1
  ·have e:Cm s qs (i+1)=(Cm s qs i).set i ⟨0,0,0,0⟩:=by rw[Cm,if_pos g,if_pos c1]
   by_cases q:j=i
   ·subst q
    refine⟨fun _=>?_,fun z=>absurd ⟨g,fun k=>by omega,fun _=>by omega⟩ z⟩
    rw[e,List.getD_eq_getElem?_getD,List.getElem?_set_self (by omega)];rfl
   ·refine same ⟨fun z=>⟨z.1,fun k=>?_,fun k=>by have:=z.2.2 k;omega⟩,up⟩ (by rw[e,List.getD_eq_getElem?_getD,List.getElem?_set_ne (by omega),← List.getD_eq_getElem?_getD])
    obtain⟨h,a,b,k2,d⟩:=z.2.1 k
    have q:h<i:=by
     by_cases r:h=i
     ·subst r;omega
     ·omega
    exact⟨h,q,b,k2,d⟩
  by_cases c2:(qs.getD i default).K=2
  rotate_left
  ·have e:Cm s qs (i+1)=Cm s qs i:=by rw[Cm,if_pos g,if_neg c1,if_neg c2]
   have k3:(qs.getD i default).K=3:=by
    have:=(P.b i (by omega)).k
    have:=g.1
    omega
   refine same ⟨fun z=>⟨z.1,fun k=>?_,fun k=>?_⟩,up⟩ (by rw[e])
   ·obtain⟨h,a,b,k2,d⟩:=z.2.1 k
    have q:h<i:=by
     by_cases r:h=i
     ·subst r;omega
     ·omega
    exact⟨h,q,b,k2,d⟩
   ·have:=z.2.2 k
    by_cases q:j=i
    ·subst q;exact absurd k3 k
    ·omega
  ·have e:Cm s qs (i+1)=BJ (Cm s qs i) i (ZE (Cm s qs i) i):=by rw[Cm,if_pos g,if_neg c1,if_pos c2]
   obtain⟨n1,nd⟩:=P.lg i (by omega) c2
   have mid:∀m:Nat,i<m→(m:Int)<i+need c (qs.getD i default).U→m<qs.length∧(qs.getD m default).K=3∧(qs.getD m default).S=s∧(Cm s qs i).getD m default=qs.getD m default:=fun m m1 m2=>by
    have t:=nd (m-i) (by omega) (by omega)
    rw[show i+(m-i)=m by omega]at t
    refine⟨t.1,t.2.1,t.2.2.trans g.2,(MG i (by omega) m t.1).2 fun z=>?_⟩
    obtain⟨h,a,b,k2,d⟩:=z.2.1 t.2.1
    have:=ZaJ P (by omega) a k2 (by omega)
    omega
   have T:((ZE (Cm s qs i) i:Nat):Int)+1=need c (qs.getD i default).U:=by
    by_cases q1:((ZE (Cm s qs i) i:Nat):Int)+1<need c (qs.getD i default).U
    ·obtain⟨m1,m2,_,m4⟩:=mid (i+1+ZE (Cm s qs i) i) (by omega) (by omega)
     have te:=P5 (l:=Cm s qs i) (i:=i) (by omega)
     rw[m4]at te
     exact absurd m2 te
    by_cases q2:need c (qs.getD i default).U<((ZE (Cm s qs i) i:Nat):Int)+1
    ·obtain⟨t1,t2⟩:=Sg (l:=Cm s qs i) (i:=i) (m:=(need c (qs.getD i default).U).toNat-1) (by omega)
     have eq:((i+1+((need c (qs.getD i default).U).toNat-1):Nat):Int)=i+need c (qs.getD i default).U:=by omega
     generalize i+1+((need c (qs.getD i default).U).toNat-1)=m at t1 t2 eq
     rw[ln]at t1
     have k3:(qs.getD m default).K=3:=by
      obtain⟨z1,z2⟩:=MG i (by omega) m t1
      by_cases z:NF c s qs i m
      ·rw[z1 z]at t2;simp at t2
      ·rwa [z2 z]at t2
     obtain⟨h,a,k2,d⟩:=P.tl m t1 k3
     by_cases r1:h<i
     ·have:=ZaJ P (by omega) r1 k2 (by omega);omega
     by_cases r2:h=i
     ·subst r2;omega
     ·have t:=nd (h-i) (by omega) (by omega)
      rw[show i+(h-i)=h by omega]at t
      omega
    ·omega
   rw[e,Z7t (by omega)]
   by_cases q:i≤j∧j≤i+ZE (Cm s qs i) i
   ·rw[if_pos q]
    refine⟨fun _=>rfl,fun z=>absurd ?_ z⟩
    by_cases q2:j=i
    ·subst q2;exact⟨g,fun k=>by omega,fun _=>by omega⟩
    ·obtain⟨m1,m2,m3,_⟩:=mid j (by omega) (by omega)
     exact⟨⟨by omega,m3⟩,fun _=>⟨i,by omega,by omega,c2,by omega⟩,fun k=>absurd m2 k⟩
   ·rw[if_neg q]
    have ez:NF c s qs (i+1) j↔NF c s qs i j:=⟨fun z=>⟨z.1,fun k=>by
     obtain⟨h,a,b,k2,d⟩:=z.2.1 k
     refine⟨h, ?_,b,k2,d⟩
     by_cases r:h=i
     ·subst r;omega
     ·omega,fun k=>by have:=z.2.2 k;omega⟩,up⟩
    rw[ez]
    exact⟨h1,h2⟩
theorem Zbq:Cm s qs qs.length=qs.map (BU s):=by
 refine Lk (by rw[Dg,Lb]) λj a b=>?_;rw[Dg]at a;obtain⟨f,i⟩:=MG P qs.length (Lj _) j a;have d:(Cm s qs qs.length)[j]=(Cm s qs qs.length).getD j M:=by rw[Ld,Li (by rw[Dg];exact a)];rfl
 have e:qs[j]=qs.getD j M:=by rw[Ld,Li a];rfl
 rw[Ll,d,e];unfold BU;by_cases g:CC s (qs.getD j M);rw[if_pos g];exact f ⟨g,λk=>by obtain⟨h,x,y⟩:=P.tl j a k;exact⟨h,by omega,x,y⟩,λ_=>a⟩;rw[if_neg g];exact i λz=>g z.1
end
end Go.Proofs.YtgedmeaemofdkaaGreat
namespace Go.Sx
def NS(b s:Nat)(els:List (List DV)):AV->AV|.ow k=>(match Le k b with|true=>.d (.sl s els)|false=>.ow k)|.os k o n=>(match Le k b with|true=>.any|false=>.os k o n)|.pt k i o=>(match Le k b with|true=>.any|false=>.pt k i o)|x=>x
def TF(b s:Nat)(els:List (List DV)):Z3->Z3|.box ty cells=>.box ty (cells.map (I7 (NS b s els)))|B=>B
def Rl(b s:Nat)(els:List (List DV)):List (Nat×Z3)->List (Nat×Z3)|[]=>[]|(k,B)::l=>match Le k b with|true=>Rl b s els l|false=>(k,TF b s els B)::Rl b s els l
def Z1j(b:Nat)(t:Tg):Option Tg:=match C1 t.hl b,Nat.ble (b+1) (t.clk*8000)with|some (.arr _ s els),true=>Lc ⟨t.tmps.map (IQ (NS b s els)),Rl b s els t.hl,t.clk⟩|_,_=>none
def Z2H{b s els}:∀{l:List (Nat×Z3)} (k:Nat),C1 (Rl b s els l) k=if k=b then none else(C1 l k).map (TF b s els)
 |[],k=>by simp[Rl,C1]
 |(j,B)::l,k=>by
  have a:=Z2H (b:=b) (s:=s) (els:=els) (l:=l) k;simp only[Rl];cases hj:Le j b with
  |true =>
   have e:=LF hj;simp only[a,C1];by_cases q:k=b
   .rw[if_pos q,if_pos q]
   .rw[if_neg q,if_neg q,if_neg oq]
  |false =>
   have e:=Nat.ne_of_beq_eq_false hj;simp only[C1];by_cases q:k=j
   .rw[if_pos q,if_pos q,if_neg oq];rfl
   .rw[if_neg q,if_neg q,a]
def Zet{b s els}{B:Z3}(h:TF b s els B≠.dead):B≠.dead:=by rintro rfl;exact h rfl
def Zdu{b}{t t':Tg}(h:Z1j b t=Lc t'){Ow Im0 w0 x w}(hS:Sys Ow Im0 w0 t.st.tmps t.st.H t.st.clk x w):Sys Ow Im0 w0 t'.st.tmps t'.st.H t'.st.clk x w:=by
 unfold Z1j at h;split at h;rotate_left;cases h;rename_i ty s els hb a0;cases h;have a0:=Nat.le_of_ble_eq_true a0;obtain⟨ρ,Im,I,T⟩:=hS;obtain⟨β,hρ,hs,hn,a8,a3,a1⟩:=I.blk b _ hb;let f:Nat->Prop:=λg=>Im g\/β.g=Lc g;have hi:∀g,Im g->f g:=λ_ h=>.inl h;have ow:∀{k:Nat} {v:Value},Zj ρ w Im (.ow k) v->Zj ρ w f (NS b s els (.ow k)) v:=by
  intro k v hx;simp only[NS];cases r:Le k b with
  |false=>cases hx with|ow d j m p=>exact .ow d j m p
  |true =>
   have e:=LF r;subst e;cases hx with
   |ow d j m p =>
    rw[hρ]at d;cases d;refine .d ?_;by_cases he:els=[];subst he;have:β.n=0:=by simpa using hn
    rw[this];exact .slNil _ _ _;have a9:0<els.length:=List.length_pos_iff.2 he;rcases p with p|⟨g,a,rfl,_⟩;omega;rcases a1 with⟨_,h5⟩|⟨g',cs,a2,hw,b1,hc⟩;exact absurd h5 he;rw[a]at a2;cases a2;have a5:∀(i:Nat) (e:List DV) (o:Nat) (y:DV),els[i]?=Lc e->e[o]?=Lc y->∃u,w.cell? ⟨g,0+(i*s+o),none⟩=Lc u/\CR w Im y u:=by(intro i e o y he hy;obtain⟨u,k1,k2⟩:=hc i e o y he hy;exact⟨u,by simp[World.cell?,hw,k1],k2⟩)
    refine .sl s els ⟨g,0,none⟩ β.n _ (λi o=>(w.cell? ⟨g,0+(i*s+o),none⟩).getD undef) hn.symm j m a3 rfl (.inr a) ?_ ?_;intro i e o y he hy;obtain⟨u,k1,_⟩:=a5 i e o y he hy;rw[k1];rfl;intro i e o y he hy;obtain⟨u,k1,k2⟩:=a5 i e o y he hy;rw[k1];exact k2.mono (Ext.refl _ _) hi
 have os:∀{k o n:Nat} {v:Value},Zj ρ w Im (.os k o n) v->Zj ρ w f (NS b s els (.os k o n)) v:=by(intro k o n v hx;simp only[NS];split;exact .any _;cases hx with|os d j m p h5=>exact .os d j m p h5)
 have pt:∀{k i o:Nat} {v:Value},Zj ρ w Im (.pt k i o) v->Zj ρ w f (NS b s els (.pt k i o)) v:=by(intro k i o v hx;simp only[NS];split;exact .any _;obtain⟨g,s,n,d,rfl⟩:=Rm hx;exact .pt d)
 have rB:∀{κ:Bi} {B:Z3},RelB ρ w Im κ B->RelB ρ w f κ (TF b s els B):=by
  intro κ B hB;cases B with|box ty cells =>obtain⟨h0,a6,g,cs,d,j,m,a7,p⟩:=hB;refine⟨by simpa using h0,a6,g,cs,d,j,by simpa using m,a7,λo x v hx hv=>?_⟩;simp only[Lx,Lo]at hx;obtain⟨y,hy,rfl⟩:=hx;exact Mz hi (λ_ _ _ _ h=>pt h) (λ_ _ _ _ h=>os h) (λ_ _ h=>ow h) (p o y v hy hv)|arr ty s els=>exact RelB.arr_any (by rfl) hB hi|mp ks=>exact hB|dead=>trivial
 have hH:∀k B,C1 (Rl b s els t.hl) k=Lc B->k≠b/\∃B',C1 t.hl k=Lc B'/\B=TF b s els B':=by(intro k B r;rw[Z2H]at r;by_cases q:k=b;rw[if_pos q]at r;cases r;rw[if_neg q]at r;obtain⟨B',d,j⟩:=Lo.1 r;exact⟨q,B',d,j.symm⟩)
 have c:∀k,live (C1 (Rl b s els t.hl)) k->k≠b/\live t.st.H k:=by(rintro k ⟨B,d,j⟩;obtain⟨q,B',m,rfl⟩:=hH k B d;exact⟨q,B',m,Zet j⟩)
 have lb:live t.st.H b:=⟨_,hb,by simp⟩;refine⟨ρ,f,⟨I.kept,λk k' β β' g l1 l2=>I.inj k k' β β' g (c k l1).2 (c k' l2).2,λk κ g l q q' a=>?_,I.bnd,I.own,λg a=>?_,λg a=>?_,λk B q=>?_,λk r q=>?_,I.one⟩,⟨by rw[T.size];simp[Tg.st],λi y v hy hv=>?_,T.defers⟩⟩;obtain⟨ne,l⟩:=c k l;rcases a with a|a;exact I.notIm k κ g l q q' a;exact ne (I.inj k b κ β g l lb q hρ q' a);rcases a with a|a;exact I.imb g a;exact I.bnd b β g hρ a;rcases a with a|a;exact I.im0 g a;rcases I.own b β g hρ a with⟨h,_⟩|h;exact .inr (.inl h);exact .inr (.inr h);obtain⟨_,B',m,rfl⟩:=hH k B q;obtain⟨κ,p,h5⟩:=I.blk k B' m;exact⟨κ,p,rB h5⟩;rw[show({tmps:=t.tmps.map (IQ (NS b s els)),hl:=Rl b s els t.hl,clk:=t.clk:Tg}.st.H k)=C1 (Rl b s els t.hl) k from rfl,Z2H]at q;have b0:t.clk*8000<=k:=r;rw[if_neg oq]at q;exact I.fresh k r (Option.map_eq_none_iff.1 q);have a4:(t.tmps.map (IQ (NS b s els)))[i]?=Lc y:=hy;simp only[Lx,Lo]at a4;obtain⟨z,hz,rfl⟩:=a4;exact P9 hi (λ_ _ _ _ h=>pt h) (λ_ _ _ _ h=>os h) (λ_ _ h=>ow h) (T.tmp i z v hz hv)
def CSpec.frz{P c s e}{t t':Tg} b(h:CSpec P c s e t.st)(k:Z1j b t=Lc t'):CSpec P c s e t'.st:=
 λf d l a w j=>Code.wp_mono (λ_ _ _ ⟨g,i⟩=>⟨g,Zdu k i⟩) (h f d l a w j)
end Go.Sx
namespace Go.Proofs.YtgedmeaemofdkaaGreat
open Go.Sx
def Zfs w a b ws n:CP (Zm f81 0) (frL w a b ws n a.length).st (.ext 0) (Tg.st ⟨tm 88 [(0,.pt 0 0 0)],[(0,.box 127 [nI w.j.C.pw,nI w.j.C.pg,.ow 25015,B5 b,nI w.j.S,nI w.j.B,Z2 w.old,ZC w.T,Z2 w.Q,nI w.D,nI w.rep.copied,nI w.rep.kept,nI w.rep.filled,nI n,nI w.rep.cleared,nI w.rep.steps]),(25015,.arr 35 1 (ws.map wD))],5⟩):=by exact sF [] []<|Ffb 24 (La ((a.length:Int)<(a.length:Int))) Fz
section
variable(w:Z7)(hl:w.j.P.length<=64)(a:0<=w.j.C.pw/\w.j.C.pw<=64)(hs:w.j.P.length*w.j.C.pw.toNat<=w.j.W.length)(hw:w.j.W.length<=4096)(hr:w.rep.freed=0)(P:PT w.j.C w.j.P)
include hl a hs hw hr P
theorem Zdi:CP (Zi f81 0) (Tg.st ⟨tm 88 [(0,.pt 0 0 0),(2,.pt 0 0 0),(21,B5 w.j.P),(22,nI w.j.P.length),(23,nI 0)],[(0,.box 127 [nI w.j.C.pw,nI w.j.C.pg,.ow 25015,B5 w.j.P,nI w.j.S,nI w.j.B,Z2 w.old,ZC w.T,Z2 w.Q,nI w.D,nI w.rep.copied,nI w.rep.kept,nI w.rep.filled,nI w.rep.freed,nI w.rep.cleared,nI w.rep.steps]),(25015,.arr 35 1 (w.j.W.map wD))],5⟩) .nrm (Tg.st ⟨tm 88 [(0,.pt 0 0 0)],[(0,(GZ w).evD)],5⟩):=by
 refine CSpec.frz 25015 (t:=⟨tm 88 [(0,.pt 0 0 0)],[(0,.box 127 [nI w.j.C.pw,nI w.j.C.pg,.ow 25015,B5 (w.j.P.map (BU w.j.S)),nI w.j.S,nI w.j.B,Z2 w.old,ZC w.T,Z2 w.Q,nI w.D,nI w.rep.copied,nI w.rep.kept,nI w.rep.filled,nI (G9 w.rep.freed w.j.S w.j.P w.j.P.length),nI w.rep.cleared,nI w.rep.steps]),(25015,.arr 35 1 ((Es w.j.C.pw w.j.S w.j.P w.j.W w.j.P.length).map wD))],5⟩) (Bp (S:=λk=>(frL w w.j.P (Cm w.j.S w.j.P k) (Es w.j.C.pw w.j.S w.j.P w.j.W k) (G9 w.rep.freed w.j.S w.j.P k) k).st) w.j.P.length kr (λk d=>?_) ?_) kr;have h1:=Dg w.j.S w.j.P k;have h3:=TB (s:=w.j.S) hs k oq;have h4:=Z12 w.rep.freed w.j.S w.j.P k;have j:(k+1)*w.j.C.pw.toNat<=w.j.P.length*w.j.C.pw.toNat:=Nat.mul_le_mul_right _ d;rw[Nat.add_mul,Nat.one_mul]at j;by_cases b:CC w.j.S (w.j.P.getD k M);have g:Es w.j.C.pw w.j.S w.j.P w.j.W (k+1)=Ck (Es w.j.C.pw w.j.S w.j.P w.j.W k) (k*w.j.C.pw.toNat) (Ln w.j.C.pw.toNat 0):=by rw[Es,if_pos b]
 have i:G9 w.rep.freed w.j.S w.j.P (k+1)=G9 w.rep.freed w.j.S w.j.P k+1:=by rw[G9,if_pos b]
 have e:¬ (w.j.P.getD k M).K=3->(Cm w.j.S w.j.P k).getD k M=w.j.P.getD k M:=λq=>(MG P k oq k d).2 λz=>by have:=z.2.2 q;omega
 rw[g,i];by_cases k1:(w.j.P.getD k M).K=1;have c:Cm w.j.S w.j.P (k+1)=(Cm w.j.S w.j.P k).set k ⟨0,0,0,0⟩:=by rw[Cm,if_pos b,if_pos k1]
 rw[c];exact Zf4 w _ _ _ _ k hl d b k1 oq oq (by rw[e oq];exact k1) a oq oq oq;by_cases f:(w.j.P.getD k M).K=2;have c:Cm w.j.S w.j.P (k+1)=BJ (Cm w.j.S w.j.P k) k (ZE (Cm w.j.S w.j.P k) k):=by rw[Cm,if_pos b,if_neg k1,if_pos f]
 rw[c];exact ZeZ w _ _ _ _ k hl d b f oq oq (by rw[e oq];exact f) a oq oq oq;have c:Cm w.j.S w.j.P (k+1)=Cm w.j.S w.j.P k:=by rw[Cm,if_pos b,if_neg k1,if_neg f]
 have kk:=(P.b k d).k;have k0:=b.1;rw[c];exact ZdY w _ _ _ _ k hl d b oq a oq oq oq;have c:Cm w.j.S w.j.P (k+1)=Cm w.j.S w.j.P k:=by rw[Cm,if_neg b]
 have g:Es w.j.C.pw w.j.S w.j.P w.j.W (k+1)=Es w.j.C.pw w.j.S w.j.P w.j.W k:=by rw[Es,if_neg b]
 have i:G9 w.rep.freed w.j.S w.j.P (k+1)=G9 w.rep.freed w.j.S w.j.P k:=by rw[G9,if_neg b]
 rw[c,g,i];exact Zk6 w _ _ _ _ k hl d b;have h:=Zfs w w.j.P (Cm w.j.S w.j.P w.j.P.length) (Es w.j.C.pw w.j.S w.j.P w.j.W w.j.P.length) (G9 w.rep.freed w.j.S w.j.P w.j.P.length);simp only[Zbq P]at h⊢;exact h
theorem Zgu:BP 81 [.pt 0 0 0] [w.evD] (.tu []) [(GZ w).evD]:=by exact lF func81 []<|Fc 15 (@ML w.j.W oq)<|Fl 22 Z0.dv w.j.P<|Fu (@Zdi w aa aa aa aa aa aa) Fz
end
structure CE (h:Heap) (T tq:Nat->List Int) (w:Z7) (l4 l5:List Int):Prop where
 g:Gd h T
 k:KI h T tq w
 i:BA w
 s:w.j.S=0\/w.j.S=1
 pt:PT w.j.C w.j.P
 ts:∀x∈w.T,(w.j.P.getD x.toNat M).S=1-w.j.S
 sd:SD w
 sc:w.D=w.Q.length
 f3:∀a,Z1 l4 a=Z1 w.j.W a\/∃x∈w.old,Nn w x/\x<=a/\a<=x+Zl w.j.W x/\(Z1 l4 a).1=Rn (Zl w.j.W x) a x
 f4:∀x∈w.old,Nn w x->∀a,x<=a->a<=x+Zl w.j.W x->(Z1 l4 a).1=Rn (Zl w.j.W x) a x
 n4:l4.length=w.j.W.length
 n5:l5.length=w.j.W.length
 fr:∀(i:Nat) (o:Int),i<h.P.length->0<=o->o<h.C.pw->Z1 l5 (ZD h i+o)=if CC w.j.S (w.j.P.getD i M)then(0,0)else Z1 l4 (ZD h i+o)
def tE(T a:Nat->List Int)(w:Z7)(i:Nat):List Int:=if(i:Int)∈w.T then a i else if(w.j.P.getD i M).S≠w.j.S then T i else []
section
variable{h:Heap}{T tq:Nat->List Int}{w:Z7}{l4 l5:List Int}(c:CE h T tq w l4 l5)
include c
theorem CE.mem{i}{x:Int}(hx:x∈tE T tq w i):(i:Int)∈w.T/\x∈tq i\/(i:Int)∉w.T/\(w.j.P.getD i M).S≠w.j.S/\x∈T i:=by grind[tE]
theorem CE.gone0{i:Nat}(a:(i:Int)∈w.T):¬ CC w.j.S (w.j.P.getD i M):=by have:=c.ts _ a;grind[CC]
theorem CE.pgof{i}{x a:Int}(e:x∈T i)(h1:x<=a)(h2:a<=x+Zl h.W x):∃(j:Nat) (o:Int),j<h.P.length/\0<=o/\o<h.C.pw/\a=ZD h j+o/\(w.j.P.getD j M).K≠0/\(w.j.P.getD j M).S=(w.j.P.getD i M).S:=by
 have g:=c.g;have o:=g.on e;have po:=B6 g.p;have pg:=c.k.pg i (c.k.nt g e);have d:=c.k.c;have s:=c.k.pl;rcases o.2.1 with k|k;have pp:=En g.p o.1;exact⟨i,a-ZD h i,o.1,by omega,by omega,by omega,by omega,rfl⟩;have t:=o.2.2.2.2.2.2 k;have f:=c.pt.lg i oq oq;rw[pg.2.1,d]at f;have nu:=Pb f.1;have h0:0<=(a-ZD h i)/h.C.pw:=Lq oq oq;have l:=Lu (a-ZD h i) h.C.pw;have n:=Ls (a-ZD h i) (b:=h.C.pw) oq;have p:=Lr (a-ZD h i) (b:=h.C.pw) oq;have h6:(a-ZD h i)/h.C.pw<need h.C (h.P.getD i M).U:=Lp oq oq;rw[Lt]at l;generalize hm:(a-ZD h i)/h.C.pw=m at *;have r:((m.toNat:Nat):Int)=m:=by omega
 refine⟨i+m.toNat,(a-ZD h i)%h.C.pw, ?_,n,p, ?_, ?_⟩;grind;grind[ZD];by_cases q:m.toNat=0;rw[q,Nat.add_zero];omega;grind
theorem CE.keptw{i}{x a:Int}(f:x∈T i)(hs:(w.j.P.getD i M).S≠w.j.S)(b:x<=a)(d:a<=x+Zl h.W x):Z1 l5 a=Z1 l4 a:=by obtain⟨j,o,g,k,l,e,k0,k1⟩:=c.pgof f b d;rw[e,c.fr j o g k l,if_neg];grind[CC]
theorem CE.gonew{i}{x a:Int}(f:x∈T i)(hs:(w.j.P.getD i M).S=w.j.S)(b:x<=a)(d:a<=x+Zl h.W x):(Z1 l5 a).1=0:=by obtain⟨j,o,g,l,m,e,k,k1⟩:=c.pgof f b d;rw[e,c.fr j o g l m,if_pos ⟨k,k1.trans hs⟩]
theorem CE.seen4{x a:Int}(b:x∈w.Q)(h1:x<=a)(h2:a<=x+Zl w.j.W x):Z1 l4 a=Z1 w.j.W a:=by rcases c.f3 a with q|⟨y,d,g,q2,q3,q4⟩;exact q;exfalso;have f:x≠y:=λe=>g.2 (e▸b);have s1:=c.i.s x (LC _ b) y (LB _ d);have s2:=c.i.s y (LB _ d) x (LC _ b);omega
theorem CE.takenw{i:Nat}{a:Int}(b:(i:Int)∈w.T)(h1:ZD h i<=a)(h2:a<ZD h i+h.C.pw):Z1 l5 a=Z1 l4 a:=by have t:=c.k.tk i b;have:=c.fr i (a-ZD h i) t.1 oq oq;rw[show ZD h i+(a-ZD h i)=a by omega,if_neg (c.gone0 b)]at this;exact this
theorem CE.seen{x a:Int}(g:x∈w.Q)(f:x<=a)(d:a<=x+Zl w.j.W x):Z1 l5 a=Z1 w.j.W a:=by
 rw[<-c.seen4 g f d];rcases c.k.q x g with⟨i,e,b,i3,k⟩|⟨i,e,b⟩;have j:(Z1 w.j.W x).1=(Z1 h.W x).1:=by(rcases c.k.hd i x b with q|q;exact q;omega)
 rw[(Ek j).2.1]at d;exact c.keptw b k f d;have t:=c.k.tk i e;have m:=H9 t.2.2.2.2.2.1 b;exact c.takenw e oq oq
theorem CE.where'{x:Int}(a:x∈w.Q):∃i,x∈tE T tq w i:=by rcases c.k.q x a with⟨i,b,d,i3,i4⟩|⟨i,b,d⟩;exact⟨i,by grind[tE]⟩;exact⟨i,by grind[tE]⟩
theorem CE.seenK{x:Int}(e:x∈w.Q):CJ w.j.W x≠0/\G2 w.j.W x:=by
 rcases c.k.q x e with⟨i,b,a,i3,i4⟩|⟨i,b,a⟩;have d:(Z1 w.j.W x).1=(Z1 h.W x).1:=by(rcases c.k.hd i x a with q|q;exact q;omega)
 have o:=Ek d;exact⟨by omega,o.1 (c.g.on a).2.2.2.2.2.1⟩;have t:=c.k.tk i b;exact⟨(t.2.2.2.2.2.2 x a).2.1,(H9 t.2.2.2.2.2.1 a).1⟩
theorem CE.kept{i}{x:Int}(a:x∈T i)(g:(i:Int)∉w.T)(hs:(w.j.P.getD i M).S≠w.j.S):(Z1 w.j.W x).1=(Z1 h.W x).1/\G2 l5 x/\Zl l5 x=Zl h.W x/\(x∉w.Q->CJ l5 x=0/\(h.P.getD i M).K=1/\(CJ h.W x≠0->x∈w.old/\Nn w x)):=by
 have f:(Z1 w.j.W x).1=(Z1 h.W x).1:=by(rcases c.k.hd i x a with q|q;exact q;omega)
 have u:=c.g.on a;have t:=Ek f;have rx:=Bq h.W x;refine⟨f, ?_⟩;by_cases k:x∈w.Q;have e:=Ek (congrArg Prod.fst (c.seen k (Lh _) oq));grind;have k1:(h.P.getD i M).K=1:=by(rcases u.2.1 with q|q;exact q;have:=c.k.lg i q hs;grind)
 have m:Z1 l5 x=Z1 l4 x:=c.keptw a hs (Lh _) oq;by_cases p:CJ h.W x=0;have e4:Z1 l4 x=Z1 w.j.W x:=by
  rcases c.f3 x with q|⟨y,s,z,q2,q3,q4⟩;exact q;exfalso;obtain⟨j,b,o⟩:=(c.k.old y).1 s;by_cases e:y=x;grind;have sj:(Z1 w.j.W y).1=(Z1 h.W y).1:=by(rcases c.k.hd j y b with q|q;exact q;exfalso;have l:=z.1;unfold ZJ at l;rw[c.k.c,c.g.ofx b]at l;grind)
  rw[(Ek sj).2.1]at q3;have:=c.g.sep b a oq;omega
 grind[Ek];have r:x∈w.old:=(c.k.old x).2 ⟨i,a,p⟩;have n:Nn w x:=by(refine⟨?_,k⟩;have pg:=c.k.pg i g;have pl:=c.k.pl;unfold ZJ;rw[c.k.c,c.g.ofx a];simp only[decide_eq_true_eq,Lv];exact⟨by omega,by omega,by omega,hs,g⟩)
 have v:=c.f4 x r n x (Lh _) oq;rw[Rn,if_pos rfl,t.2.1]at v;rw[<-m]at v;have d:=Z4I rx;grind[G2,Zl,CJ,ZY]
theorem CE.start{i}{x:Int}(f:x∈tE T tq w i):G2 l5 x/\(CJ l5 x≠0↔x∈w.Q):=by
 have sq:x∈w.Q->G2 l5 x/\CJ l5 x≠0:=λa=>by(have e:=Ek (congrArg Prod.fst (c.seen a (Lh _) (by have:=Bq w.j.W x;omega)));have s:=c.seenK a;grind)
 rcases c.mem f with⟨b,d⟩|⟨b,d,g⟩;have a:=((c.k.tk i b).2.2.2.2.2.2 x d).1;grind;have kk:=c.kept g b d;grind
theorem CE.good{b:Int}(hp:Z9 ⟨w.j.C,l5,w.j.P.map (BU w.j.S),1-w.j.S,b⟩=true):Gd ⟨w.j.C,l5,w.j.P.map (BU w.j.S),1-w.j.S,b⟩ (tE T tq w):=by
 have g:=c.g;have hcc:=c.k.c;have hpl:=c.k.pl;have hs:=c.s;have po:=B6 g.p;have hgt:∀i,i<h.P.length->(w.j.P.map (BU w.j.S)).getD i M=BU w.j.S (w.j.P.getD i M):=λi hi=>by(grind)
 have hng:∀i,i<h.P.length->((w.j.P.map (BU w.j.S)).getD i M).K≠0->¬ CC w.j.S (w.j.P.getD i M)/\(w.j.P.map (BU w.j.S)).getD i M=w.j.P.getD i M:=by grind[BU]
 have hb:∀i,ZD ⟨w.j.C,l5,w.j.P.map (BU w.j.S),1-w.j.S,b⟩ i=ZD h i:=λi=>by grind[ZD]
 have hk5:∀x,x∈w.Q->G2 w.j.W x->G2 l5 x/\Zl l5 x=Zl w.j.W x/\CJ l5 x=CJ w.j.W x/\ZY l5 x=ZY w.j.W x:=λx hq ho=>by(have e:=Ek (congrArg Prod.fst (c.seen hq (Lh _) (by have:=Bq w.j.W x;omega)));grind)
 have hkept:∀i,i<h.P.length->(i:Int)∉w.T->((w.j.P.map (BU w.j.S)).getD i M).K≠0->(w.j.P.getD i M).S≠w.j.S/\(h.P.getD i M).K=((w.j.P.map (BU w.j.S)).getD i M).K/\(h.P.getD i M).U=((w.j.P.map (BU w.j.S)).getD i M).U/\(h.P.getD i M).N=((w.j.P.map (BU w.j.S)).getD i M).N:=by(intro i hi hn hk;have n:=hng i hi hk;have pg:=c.k.pg i hn;rw[n.2]at hk⊢;refine⟨λq=>n.1 ⟨hk,q⟩,pg.1.symm,pg.2.1.symm,pg.2.2.symm⟩)
 refine⟨hp, ?_, ?_, ?_, ?_, ?_, ?_, ?_⟩;intro i hi hk;simp only[Lb]at hi hk⊢;have n:=hng i oq hk;rw[n.2]at hk⊢;have:=(c.pt.b i hi).s;grind[CC];intro i hi hk;simp only[Lb]at hi hk⊢;rw[hb];have n:=hng i oq oq;by_cases q:(i:Int)∈w.T;have t:=c.k.tk i q;rw[tE,if_pos q,n.2,hcc];refine⟨NR t.2.2.2.2.2.1 λx hx=>?_,λx hx=>?_⟩;have e:=hk5 x (t.2.2.2.2.2.2 x hx).1 (H9 t.2.2.2.2.2.1 hx).1;grind;have e:=hk5 x (t.2.2.2.2.2.2 x hx).1 (H9 t.2.2.2.2.2.1 hx).1;grind;have kp:=hkept i oq q oq;rw[tE,if_neg q,if_pos kp.1,<-kp.2.2.1,hcc];have t:=g.t1 i oq oq;refine⟨NR t.1 λx hx=>?_,λx hx=>?_⟩;have e:=c.kept hx q kp.1;grind;rw[(c.kept hx q kp.1).2.2.1];exact t.2 x hx;intro i hi hk;simp only[Lb]at hi hk⊢;rw[hb];have n:=hng i oq oq;by_cases q:(i:Int)∈w.T;have t:=c.k.tk i q;grind;have kp:=hkept i oq q oq;have t:=g.t2 i oq oq;have hx:ZD h i∈T i:=by grind
 have e:=c.kept hx q kp.1;have hq:=c.k.lg i oq kp.1;have st:=c.start (i:=i) (x:=ZD h i) (by grind[tE]);grind[tE];intro i x hx;simp only[Lb];rcases c.mem hx with⟨q1,q2⟩|⟨q1,q2,q3⟩;have t:=c.k.tk i q1;have:BU w.j.S (w.j.P.getD i M)=w.j.P.getD i M:=by rw[BU,if_neg (c.gone0 q1)]
 grind;have t:=g.t0 i x q3;have pg:=c.k.pg i q1;have:BU w.j.S (w.j.P.getD i M)=w.j.P.getD i M:=by rw[BU,if_neg (λq=>q2 q.2)]
 grind;intro a ha;simp only at ha⊢;have h4:(Z1 l4 a).1≠0:=by
  have hr:4096<=a/\a<4096+l5.length:=by grind[Z1]
  have hl5:=c.n5;have hL:=c.i.L;rw[hcc]at hL;have h0:0<=(a-4096)/h.C.pw:=Lq oq oq;have h3:=Lu (a-4096) h.C.pw;have h5:=Ls (a-4096) (b:=h.C.pw) oq;have h6:=Lr (a-4096) (b:=h.C.pw) oq;have h7:(a-4096)/h.C.pw<h.C.pg:=Lp oq (by grind);rw[Lt]at h3;have f:=c.fr ((a-4096)/h.C.pw).toNat ((a-4096)%h.C.pw) oq h5 h6;have ea:ZD h ((a-4096)/h.C.pw).toNat+(a-4096)%h.C.pw=a:=by grind[ZD,Int.toNat_of_nonneg]
  rw[ea]at f;rw[f]at ha;split at ha;simp at ha;exact ha
 have hks:∀i x,x∈T i->x<=a->a<=x+Zl h.W x->(i:Int)∉w.T/\(w.j.P.getD i M).S≠w.j.S:=λi x hx h1 h2 =>
  ⟨c.k.nt g hx,λq=>ha (c.gonew hx q h1 h2)⟩
 have cov:∀i x,x∈T i->x<=a->a<=x+Zl h.W x->(x∉w.Q->a=x)->∃i x,x∈tE T tq w i/\x<=a/\a<x+ES l5 x:=by
  intro i x hx h1 h2 h3;obtain⟨n1,n2⟩:=hks i x hx h1 h2;have hm:x∈tE T tq w i:=by grind[tE]
  have kk:=c.kept hx n1 n2;have r:=Bq l5 x;refine⟨i,x,hm,h1, ?_⟩;by_cases q:x∈w.Q;rw[ES,if_neg ((c.start hm).2.2 q),kk.2.2.1];omega;grind[ES]
 rcases c.f3 a with q|⟨x,hx,q1,q2,q3,q4⟩;rw[q]at h4;rcases c.k.dt a h4 with⟨i,x,hx,h1,h2⟩|⟨i,i1,i2,i3⟩;have hkp:ES h.W x<=Zl h.W x+1:=by(have:=Bq h.W x;unfold ES;omega)
 have hh:=hks i x hx h1 oq;refine cov i x hx h1 oq λhq=>?_;have kk:=(c.kept hx hh.1 hh.2).2.2.2 hq;by_cases hk:CJ h.W x=0;grind[ES];have fl:=kk.2.2 hk;have oh:=Ek (c.kept hx hh.1 hh.2).1;have v:=c.f4 x fl.1 fl.2 a h1 oq;grind[Rn];have t:=c.k.tk i i1;obtain⟨x,hx,x1,x2⟩:=Z6I t.2.2.2.2.2.1 i2 i3;have hm:x∈tE T tq w i:=by grind[tE]
 have hq:=(t.2.2.2.2.2.2 x hx).1;have e:=hk5 x hq (H9 t.2.2.2.2.2.1 hx).1;grind[ES];obtain⟨i,hi,hk⟩:=(c.k.old x).1 hx;have sj:(Z1 w.j.W x).1=(Z1 h.W x).1:=by(rcases c.k.hd i x hi with q|q;exact q;exfalso;have o2:=q1.1;unfold ZJ at o2;rw[hcc,g.ofx hi]at o2;grind)
 rw[(Ek sj).2.1]at q3;grind[Rn];intro i x m hx hk h0 h1 hpt;simp only at hk h1 hpt⊢;have hq:=(c.start hx).2.1 hk;have sk:=c.seenK hq;have e:=hk5 x hq sk.2;rw[e.2.1]at h1;rw[e.2.2.2]at hpt;rw[c.seen hq (a:=x+1+m) oq oq];obtain⟨n,n1,n2⟩:=ZT.1 hq;have sd:=(c.sd (x+1+m) ⟨n,m,by rw[c.sc];simpa using n1,by rw[n2];exact Z3S h0 h1 hpt,by rw[n2]⟩).2;rcases sd with q|q;exact Lf q;obtain⟨j,hj⟩:=c.where' q;exact Lg ⟨j,hj,(c.start hj).2.2 q⟩;have:crowd (w.j.P.map (BU w.j.S))<=crowd h.P:=by(refine Pd qo λi hi k1 k2=>?_;by_cases q:(i:Int)∈w.T;have t:=c.k.tk i q;grind;grind)
 have g2:=g.cr;grind
end
def PK{B:Int}(hB:0<=B){h T}(g:Gd h T){s k}(n:Zx h.W)(hb:∀p∈h.P,p.N<=B)(e1:(rootsF (Zr h) s).2.2=0)(f:(Bz (rootsF (Zr h) s).1).2=0) :∃t,CE h T t (ZF h s) (Cz h s k).j.W (GZ (Cz h s k)).j.W/\Eo (BB h s k)=⟨(ZF h s).j.C,(GZ (Cz h s k)).j.W,(ZF h s).j.P.map (BU (ZF h s).j.S),1-(ZF h s).j.S,(Eo (BB h s k)).B⟩:=by
 have m:=g.p;have e:=cOk h s k n m e1 f;have pr:=Z1N hB n m hb e1 f;have sd:=Zdf hB n m hb e1 f;obtain⟨t,r⟩:=ZkR g n e1 f;obtain⟨g1,g2,g3,g4,g5⟩:=e.h4;have po:=B6 m;obtain⟨a1,d,u,v,a5,a6,a7,a8⟩:=Sl (ZF h s) k k.length;have a1:(CB h s k).j=(ZF h s).j:=a1;have d:(CB h s k).old=(ZF h s).old:=d;have u:(CB h s k).T=(ZF h s).T:=u;have v:(CB h s k).Q=(ZF h s).Q:=v;have w:FL (CB h s k) (Cz h s k).j.W (CB h s k).old.length:=Px e.f3 e.i3 (CB h s k).old.length (Lj _);have tf:∀x,Nn (CB h s k) x↔Nn (ZF h s) x:=λx=>by(unfold Nn ZJ;rw[a1,u,v])
 have y:=r.c;have z:=r.pl;have b:=r.wl;have w4:(Cz h s k).j.W.length=h.W.length:=by(have:=w.l;rw[a1]at this;exact this.trans b)
 have fw:=Z9K (c:=h.C) (s:=(ZF h s).j.S) (l:=(ZF h s).j.P) (ws:=(Cz h s k).j.W) oq (by rw[w4,z,po.2.2.2.2.2.2.2.1];exact po.2.2.2.2.2.1) (ZF h s).j.P.length (Lj _);have e5:(GZ (Cz h s k)).j.W=Es h.C.pw (ZF h s).j.S (ZF h s).j.P (Cz h s k).j.W (ZF h s).j.P.length:=by(simp only[GZ,g1,g2,g3])
 have ce:CE h T t (ZF h s) (Cz h s k).j.W (GZ (Cz h s k)).j.W:=by(refine⟨g,r,e.i2,e.w2.sp,pr.tab.pt,pr.tab.tk,sd.1,sd.2, ?_, ?_, ?_, ?_, ?_⟩;intro a;rcases w.s a with q|⟨x,hx,q1,q2,q3,q4⟩;refine Lf ?_;rw[a1]at q;exact q;refine Lg ⟨x,d▸hx,(tf x).1 q1,q2, ?_, ?_⟩;rw[a1]at q3;exact q3;rw[a1]at q4;exact q4;intro x hx hf a h1 h2;obtain⟨j,j1,j2⟩:=ZT.1 hx;have:=w.f j (by rw[d];exact j1);rw[d,a1,j2]at this;exact this ((tf x).2 hf) a h1 h2;rw[w4,b];rw[e5,fw.1,w4,b];intro i o hi h0 ho;have:=fw.2 i o oq h0 ho;rw[e5];show Z1 _ (4096+(i:Int)*h.C.pw+o)=_;rw[this];by_cases q:CC (ZF h s).j.S ((ZF h s).j.P.getD i M);rw[if_pos ⟨by omega,q⟩,if_pos q];rw[if_neg (λc=>q c.2),if_neg q];rfl)
 have eh:Eo (BB h s k)=⟨(ZF h s).j.C,(GZ (Cz h s k)).j.W,(ZF h s).j.P.map (BU (ZF h s).j.S),1-(ZF h s).j.S,(Eo (BB h s k)).B⟩:=by(unfold Eo BB;simp only[GZ,g1,g2,g3,y])
 exact⟨t,ce,eh⟩
def ZmL{B:Int}(hB:0<=B){h T}(g:Gd h T){s k}(hw:Zx h.W)(hb:∀p∈h.P,p.N<=B)(hs:H7 h T s)(hk:H7 h T k)(e:(collectF h s k).2.2.2.2=0) :∃T',Gd (collectF h s k).1 T'/\H7 (collectF h s k).1 T' (collectF h s k).2.1/\H7 (collectF h s k).1 T' (collectF h s k).2.2.1:=by
 have hp:=g.p;have hr:=g.refers hs;have hr':=g.refers hk;have pr1:=(Z4g hB hw hb e).p1;by_cases e1:(rootsF (Zr h) s).2.2=0;by_cases e2:(Bz (rootsF (Zr h) s).1).2=0;have e7:collectF h s k=(Eo (BB h s k),(rootsF (Zr h) s).2.1,EC (ZF h s) k k.length,(BB h s k).rep,0):=by rw[collectF,if_pos hp,if_pos ⟨hr,hr'⟩,if_pos e1,if_pos e2]
 rw[e7]at pr1⊢;have pr:=Z1N hB hw hp hb e1 e2;obtain⟨tq,ce,eh⟩:=PK hB g hw hb e1 e2 (k:=k);have ki:=ce.k;rw[eh]at pr1⊢;have gd:=ce.good pr1;have seen:∀x,NP (ZF h s) x->x=0\/Ob ⟨(ZF h s).j.C,(GZ (Cz h s k)).j.W,(ZF h s).j.P.map (BU (ZF h s).j.S),1-(ZF h s).j.S,(Eo (BB h s k)).B⟩ (tE T tq (ZF h s)) x:=by(intro x hx;rcases hx with q|q;exact Lf q;obtain⟨i,hi⟩:=ce.where' q;exact Lg ⟨i,hi,(ce.start hi).2.2 q⟩)
 refine⟨tE T tq (ZF h s),gd,λx hx=>seen x ?_,λx hx=>seen x ?_⟩;have hbg:=R1 hw hp;have hib:=Se hp;have pr0:PR B (Zr h):=⟨Z15 hp hb,Z3t hp⟩;have hall:=Sq (roots:=s) hbg hib e1;have ax:=ZaO hall.1 hall.2.1 e2;have:NP (rootsF (Zr h) s).1 x:=by
  unfold rootsF at e1 hx⊢;cases hbb:(LD s.length).find? (λk=>La (E8 (Zr h) s k≠0))with
  |none =>
   rw[hbb]at hx;have h0:∀j,j<s.length->E8 (Zr h) s j=0:=λj hj=>by(have:=List.find?_eq_none.1 hbb j (List.mem_range.2 hj);simpa using this)
   exact ZaR hB hbg hib pr0 s.length h0 x hx
  |some k =>rw[hbb]at e1;simp only at e1;have:=(List.find?_range_eq_some.1 hbb).1;simp[e1]at this
 rcases this with q|q;exact Lf q;exact Lg (ax.2.q x q);have:∀i,i<=k.length->∀x∈EC (ZF h s) k i,NP (ZF h s) x:=by
  intro i;induction i with
  |zero=>intro _ x hx;simp[EC]at hx
  |succ i ih =>
   intro hi' x hx;simp only[EC,List.mem_append,List.mem_singleton]at hx;rcases hx with hx|rfl;exact ih oq x hx;have hsi:=Sl (ZF h s) k i;unfold IV;split;exact Lf rfl;rename_i hne;unfold Ca;rw[hsi.2.2.2.1,hsi.1];split;rename_i hq;exact Lg hq;cases ht:(ZG (Z1 (ZF h s).j.W (k.getD i M)).1).2 with
   |true =>refine Lg (pr.rt.t _ ?_ ht);rw[ki.old];rcases hk _ (ZT.2 ⟨i,by omega,rfl⟩)with q|q;exact absurd q hne;exact q
   |false =>refine Lf ?_;unfold ZG at ht⊢;split at ht;simp at ht;rename_i hcc2;rw[if_neg hcc2]
 exact this k.length (Lj _) x hx;rw[collectF,if_pos hp,if_pos ⟨hr,hr'⟩,if_pos e1,if_neg e2]at e;exact absurd e e2;rw[collectF,if_pos hp,if_pos ⟨hr,hr'⟩,if_neg e1]at e;exact absurd e e1
def WG.collect{w n}(h:WG w)(a:C6 w n):WG w.collect:=by unfold Zo.collect;split;rename_i e;obtain⟨T,g,b,c⟩:=h;exact ZmL (B:=n) oq g a.W (λp d=>(a.pin_mem p d).2) b c e;exact h
def WG.step{w n}(h:WG w)(a:C6 w n)(b:n<=1000000) t:WG (w.step t):=by
 unfold Zo.step;repeat' split
 exact h.put a.W (Oe _ _);exact h.link a b _;exact h.pin a b _;exact h.drop _;exact h.collect a;exact h.dup _
def Z3Y{w n}(h:WG w)(a:C6 w n) t:∀k,n+k<=1000000->WG (Gc w t k).1|0,_=>h|k+1,hk=>(Z3Y h a t k oq).step (Dy a t k oq) oq _
def OR l:WG (Zu l):=by
 have e:=Z0k l;have hl:(((EV l).step 4).step 5).l.length<=300:=by rw[e.1];simp;omega
 have hk:=Tj (EV l).empty (((EV l).step 4).step 5) oq;exact Z3Y (Z2K (EV l)) (Z0i (EV l)) _ _ oq
def Z7S{w:Z7}{r}(e:(w.fwd r).2.2=0):(w.fwd r).1.j.B=w.j.B:=by
 unfold Z7.fwd Z7.place at e⊢;repeat' split
 all_goals first|rfl|simp_all
def Zbp{h:Heap}{s}(c:Zx h.W)(b:Z9 h=true)(e:(rootsF (Zr h) s).2.2=0)(a:(Bz (rootsF (Zr h) s).1).2=0):(ZF h s).j.B=h.B:=
 TI (λw=>w.j.B=h.B) (λ_ _ _ _ q e=>(Z7S e).trans q) (λ_ _ _ _ _ q _ _ _ e=>(Z7S e).trans q) (λ_ _ q=>q) c b rfl e a
section
variable{B:Int}(c:0<=B){h:Heap}{T:Nat->List Int}(g:Gd h T){s:List Int}(k:List Int)(b:Zx h.W)(d:∀p∈h.P,p.N<=B)(e1:(rootsF (Zr h) s).2.2=0)(a:(Bz (rootsF (Zr h) s).1).2=0)
include c g b d e1 a
theorem Z70:FV h T (CB h s k):=by have j:=cOk h s k b g.p e1 a;obtain⟨tq,l,_⟩:=PK c g b d e1 a (k:=k);obtain⟨a1,r,m,a4,a5,a6,a7,a8⟩:=Sl (ZF h s) k k.length;have a1:(CB h s k).j=(ZF h s).j:=a1;have m:(CB h s k).T=(ZF h s).T:=m;have n:=GU.1 g.p;have e:=l.k;have w:=Zbp b g.p e1 a;refine⟨g,j.f3,j.i3, ?_,by rw[a1];exact e.c,by rw[a1];exact e.pl, ?_, ?_,j.r3.1,λi f=>?_⟩;rw[a1,GU];have L:=j.i2.L;refine⟨e.c▸n.1,L,by rw[e.pl,e.c];exact n.2.2.1,l.s, ?_,l.pt⟩;rw[w];refine n.2.2.2.2.1.imp id λ⟨t,u,v⟩=>⟨t,by rw[e.pl];exact u, ?_⟩;by_cases q:((h.B.toNat:Nat):Int)∈(ZF h s).T;exact(e.tk _ q).2.2.1;rw[(e.pg _ q).1];exact v;exact r.trans j.x2.o;rw[a1];intro p y;obtain⟨i,o,rfl⟩:=List.getElem_of_mem y;have:=(l.pt.b i o).s;rw[Ld,Li o,Option.getD_some]at this;omega;unfold ZJ at f;rw[a1,m]at f;simp only[decide_eq_true_eq,Lv]at f;obtain⟨p1,p2,p3⟩:=e.pg i f.2.2.2.2;rw[a1];refine⟨by rw[<-p1];exact f.2.2.1,p2,λx z=>?_⟩;exact(e.hd i x z).resolve_right λq=>f.2.2.2.1 q.2.2
theorem ZhU:G8 (CB h s k) (CB h s k).j.P.length=Cz h s k:=(Z70 c g k b d e1 a).fin
theorem ZhG:PT (Cz h s k).j.C (Cz h s k).j.P:=by have f:=cOk h s k b g.p e1 a;obtain⟨tq,e,_⟩:=PK c g b d e1 a (k:=k);rw[f.h4.1,f.h4.2.1,<-e.k.c];exact e.pt
end
end Go.Proofs.YtgedmeaemofdkaaGreat
