/-
 The statement ScanOrder: part 10.
 Conditions: none.
-/
import Derived.Test.YtdhchmlalchgeaaGreatN9
set_option maxRecDepth 100000
set_option maxHeartbeats 2000000
set_option linter.all false
open Inhabited renaming default->X
open Bool renaming true->Y,false->M,and_eq_true->LY
open List renaming map->Z,getD_eq_getElem?_getD->La,range->Le,take->Lg,length_map->Li,getElem?_eq_getElem->Lk,drop->Ll,find?_range_eq_some->Lm,mem_range->Ln,mem_append_left->Lo,replicate->Lp,find?_eq_none->Lr,mem_append->Ls,getElem?_eq_none->Lw,length_set->Lx,getElem?_drop->Lz,mem_singleton->LA,getElem?_eq_some_iff->LH,mem_append_right->LI,append_nil->LK,map_append->LL,map_drop->LM,map_set->LN,map_take->LO,mem_cons->LQ,mem_iff_getElem->LR,mem_or_eq_of_mem_set->LS,takeWhile_cons->LU,append_assoc->L2,ext_getElem->L3,getElem_map->L4,getElem_range->L5,getElem_set->L6,length_cons->L7,mem_of_getElem?->L8,mem_of_mem_take->L9,mem_replicate->Xa,not_mem_nil->Xb,pairwise_cons->Xc,pairwise_iff_getElem->Xd,set_set->Xe
open Decidable renaming decide->O,not_not->Ly
open Option renaming some->Lb,none->Lh
open Or renaming inr->Lc,inl->Ld
open Go.IntKind renaming u64->Lf,i64->Lv
open Int renaming mul_comm->Lj,mul_nonneg->Lt,toNat->Lu,add_mul->LF,mul_le_mul_of_nonneg_right->LG,eq_ofNat_of_zero_le->LJ,emod_lt_of_pos->LZ,mul_ediv_add_emod->L0,toNat_natCast->L1
open Nat renaming le_refl->Lq,ble->LB,le_of_ble_eq_true->LC,lt_or_ge->LV,beq->Xf,eq_of_beq_eq_true->Xg,mod_eq_of_lt->Xh,pow_le_pow_right->Xi,zero_add->Xj
open BitVec renaming ofInt->LD,ofInt_natCast->LW,toNat_ofNat->LX
open Go.Proofs.Tryz
namespace Go.Proofs.YtdhchmlalchgeaaGreat
open Go.Sx
def Zha{α:Type}(p:α->Bool):∀ (l:List α) (m:Nat),m<(l.takeWhile p).length->∃ h:m<l.length,p l[m]=Y
 | [],m,h=>by simp at h
 | x::l,m,h=>by
  rw[LU]at h;split at h
  .rename_i hp;cases m with
   | zero=>exact⟨by simp,hp⟩
   | succ m =>
    obtain⟨h1,h2⟩:=Zha p l m (by simpa using h);exact⟨by simp;omega,by simpa using h2⟩
  .simp at h
def Zb2{α:Type}(p:α->Bool):∀ (l:List α) (h:(l.takeWhile p).length<l.length),p l[(l.takeWhile p).length]=M
 | [],h=>by simp at h
 | x::l,h=>by
  by_cases hp:p x=Y
  .have e:((x::l).takeWhile p).length=(l.takeWhile p).length+1:=by rw[LU,if_pos hp];rfl
   have:=Zb2 p l (by simp only[e,L7]at h;omega);simp only[e,List.getElem_cons_succ];exact this
  .have e:((x::l).takeWhile p).length=0:=by rw[LU,if_neg hp];rfl
   simp only[e,List.getElem_cons_zero];simpa using hp
def Z6l{l:List Page}{i m:Nat}(h:m<Z0i l i):i+1+m<l.length/\(l.getD (i+1+m) X).K=3:=by
 obtain⟨h1,h2⟩:=Zha _ _ _ h;have h3:i+1+m<l.length:=by simp at h1;omega
 refine⟨h3, ?_⟩;simpa[La,h3]using h2
def Zcc{l:List Page}{i:Nat}(h:i+1+Z0i l i<l.length):¬ (l.getD (i+1+Z0i l i) X).K=3:=by
 have h2:=Zb2 (λp:Page=>p.K==3) (l.drop (i+1)) (by simp;unfold Z0i at h;omega);intro h3;have h4:(l.drop (i+1))[Z0i l i]' qo=l.getD (i+1+Z0i l i) X:=by simp[La,h]
 have h5:(((l.drop (i+1))[Z0i l i]' qo).K==3)=M:=h2;rw[h4,h3]at h5;simp at h5
def Zas{l:List Page}{i:Nat}(s:Int):Z0s l i 0 s=l.set i (Z8K s (l.getD i X)):=by
 refine L3 (by simp[Z0s]) λj h1 h2=>?_;have h:j<l.length:=by simpa using h2
 have e:l.getD j X=l[j]:=by simp[La,h]
 simp only[Z0s,L4,L5,L6,e];by_cases hj:i=j
 .subst hj;rw[if_pos oq,if_pos rfl,e]
 .rw[if_neg oq,if_neg hj]
def Zax{l:List Page}{i m:Nat}(s:Int)(h:i+1+m<l.length):(Z0s l i m s).set (i+1+m) (Z8K s (l.getD (i+1+m) X))=Z0s l i (m+1) s:=by
 refine L3 (by simp[Z0s]) λj h1 h2=>?_;have h:j<l.length:=by simpa[Z0s]using h2
 have e:l.getD j X=l[j]:=by simp[La,h]
 simp only[Z0s,L4,L5,L6,e];by_cases hj:i+1+m=j
 .subst hj;rw[if_pos rfl,if_pos oq,e]
 .rw[if_neg hj];by_cases hk:i<=j/\j<=i+m
  .rw[if_pos hk,if_pos oq]
  .rw[if_neg hk,if_neg oq]
def Z8m{l:List Page}{i m:Nat}(s:Int):(Z0s l i m s).getD (i+1+m) X=l.getD (i+1+m) X:=by
 by_cases h:i+1+m<l.length
 .rw[Z1u h,if_neg oq]
 .rw[La,La,Lw (by rw[Z1j];omega),Lw oq]
def fwdL(w:Work)(r x:Int)(m:Nat):Tg:=⟨tm 202 [(1,u64 r),(2,.pt 8002 0 0),(4,.pt 8004 0 0),(5,u64 0),(6,int 0),(14,int (x+1+m))],[(88094,.arr 84 4 ((Z0s w.heap.P x.toNat m (1-w.heap.S)).map Page.dv)),(8002,.box 89 [int w.heap.C.pw,int w.heap.C.pg,Z01 w.heap.W,.ow 88094,int w.heap.S,int w.heap.B,Z01 w.old,Z0r w.T,Z01 w.Q,int w.D,int w.rep.copied,int w.rep.kept,int w.rep.filled,int w.rep.freed,int w.rep.cleared,int w.rep.steps]),(8004,.box 89 zW)],60⟩
def ZmF(w:Work)(r x:Int)(m:Nat)(hs:w.heap.S=0\/w.heap.S=1)(hl:w.heap.P.length<=1048576)(hx:0<=x)(hm:m<Z0i w.heap.P x.toNat):CP (rndF f45 0) (fwdL w r x m).st .nrm (fwdL w r x (m+1)).st:=by
 have ht:=Z6l hm;have ha:=Z8m (l:=w.heap.P) (i:=x.toNat) (m:=m) (1-w.heap.S);have hn:=Z1j w.heap.P x.toNat m (1-w.heap.S);have hq:=Zax (1-w.heap.S) ht.1;unfold Z8K at hq;rw[<- ha]at hq ht;have eN:x.toNat+1+m=(x+1+(m:Int)).toNat:=by omega
 have eI:((x.toNat+1+m:Nat):Int)=x+1+(m:Int):=by omega
 rw[eN]at ha hq ht;let y1:=Z0s w.heap.P x.toNat m (1-w.heap.S);let y2:=x+1+(m:Int);let y0:=y1.getD y2.toNat X;let y3:=x+1+(m:Int)<(y1.length:Int);let y4:=Page.mk y0.K (1-w.heap.S) y0.U y0.N;exact sF [] (fP 13) (Fl 113 Page.dv (Z0s w.heap.P x.toNat m ((1:Int)-w.heap.S)) (FmGq 122 (decide y3) Page.dv y1 y2 (Ftb 124 (decide y3&&y0.K==3) (Fi 134 (1-w.heap.S) (Fm0q Page.dv y1 y2 (FS 10136 Page.dv y1 (y2.toNat) y4 (y0.dv) (Fi 126 (x+1+(m:Int)+1) (Fo (x+1+(m:Int)+1=x+1+(↑(m+1):Int)) (Fr (84:Int) (Fa (by refine congrArg _ ?_;exact hq:Z Page.dv (y1.set y2.toNat y4)=Z Page.dv (Z0s w.heap.P x.toNat (m+1) (1-w.heap.S))) Fz))))))))))
def Zqx(w:Work)(r x:Int)(hl:w.heap.P.length<=1048576)(hx:0<=x):CP (rndF f45 0) (fwdL w r x (Z0i w.heap.P x.toNat)).st (.ext 0) (Tg.st ⟨tm 202 [(1,u64 r),(2,.pt 8002 0 0),(4,.pt 8004 0 0),(5,u64 0),(6,int 0)],[(88094,.arr 84 4 ((Z0s w.heap.P x.toNat (Z0i w.heap.P x.toNat) (1-w.heap.S)).map Page.dv)),(8002,.box 89 [int w.heap.C.pw,int w.heap.C.pg,Z01 w.heap.W,.ow 88094,int w.heap.S,int w.heap.B,Z01 w.old,Z0r w.T,Z01 w.Q,int w.D,int w.rep.copied,int w.rep.kept,int w.rep.filled,int w.rep.freed,int w.rep.cleared,int w.rep.steps]),(8004,.box 89 zW)],60⟩):=by
 have ht:=λh=>Zcc (l:=w.heap.P) (i:=x.toNat) h;have ha:=Z8m (l:=w.heap.P) (i:=x.toNat) (m:=Z0i w.heap.P x.toNat) (1-w.heap.S);have hn:=Z1j w.heap.P x.toNat (Z0i w.heap.P x.toNat) (1-w.heap.S)
 have eN:x.toNat+1+Z0i w.heap.P x.toNat=(x+1+(Z0i w.heap.P x.toNat:Int)).toNat:=by omega
 rw[<- ha,eN]at ht;exact sF [] [] (Fl 113 Page.dv (Z0s w.heap.P x.toNat (Z0i w.heap.P x.toNat) ((1:Int)-w.heap.S)) (FmGq 122 (O (x+1+(↑(Z0i w.heap.P x.toNat):Int)<(↑(Z0s w.heap.P x.toNat (Z0i w.heap.P x.toNat) (1-w.heap.S)).length:Int))) Page.dv (Z0s w.heap.P x.toNat (Z0i w.heap.P x.toNat) (1-w.heap.S)) (x+1+(↑(Z0i w.heap.P x.toNat):Int)) (Ffb 124 (O (x+1+(↑(Z0i w.heap.P x.toNat):Int)<(↑(Z0s w.heap.P x.toNat (Z0i w.heap.P x.toNat) (1-w.heap.S)).length:Int))&&((Z0s w.heap.P x.toNat (Z0i w.heap.P x.toNat) (1-w.heap.S)).getD (x+1+(↑(Z0i w.heap.P x.toNat):Int)).toNat X).K==3) Fz)))
section
variable (w:Work) (r:Int) (hw:WkOk w) (h0:0<=r/\r<=18446744073709551615) (c1:r≠0) (c2:r∉w.Q) (c3:r∈w.old) (c4:(Z08 (loadA w.heap.W r).1).2=M) (c5:(ofA w.heap.C r).2.2=0)
include hw h0 c1 c2 c3 c4 c5
theorem Zkr(c6:Z0M w (ofA w.heap.C r).1=Y):GP 45 [w.av,u64 r] M (.tu [(w.keep r).av,u64 r,int 0]) []:=by
 have h1:=hw.mu;have h2:=hw.ol;have h3:=hw.wl;have h4:=Z0D hw.W r;have h11:=Z1q (loadA w.heap.W r).1 h4.1;have h5:=hw.pl;have h6:=validB_iff.1 hw.C;have h7:=hw.tl;have h8:=Z2L hw.C c5;have Q0 {h_ c_ p_} (r_:Fq h_ c_ p_):=FcG 29 (!r==0) (λhg=>by(try simp only[bs]at hg);exact @Z14 w.Q r oq) r_;rcases bb (r==0||O (r∈w.Q))with hc0 | hc0<;>have hc0p:=hc0<;>simp only[bs]at hc0p
 .rw[show w.keep r=w from by grind[]];exact gF [] func45 [] (Q0 (Ft 30 hc0 Fz))
 .obtain⟨hc0pa,hc0pb⟩:=hc0p;let y0:=ofA w.heap.C r;exact gF [] func45 [] (Fh 73 [.br M] (Fh 77 [.call Y (Sx.bool (Z0M w y0.1)) [],.br Y] (Q0 (Ff 30 hc0 (Fc 36 (@Z14 w.old r oq) (Ffb 37 (!decide (r∈w.old)) (Fc 44 (@Z1W w.heap.W r oq aa) (Fc 49 (@Z3t ((loadA w.heap.W r).1) oq oq) (Fa ‹(Z08 (loadA w.heap.W r).1).2=M› (Fc 60 (@Z56 w.heap.C r oq oq) (FlG 71 (!y0.2.2 != 0) Page.dv w.heap.P (Ffb 52 (y0.2.2 != 0||O ((w.heap.P.length:Int)<=y0.1)) (Fa (@Z2a w (y0.1) oq oq) (Fa ‹Z0M w y0.1=Y› (Fc 80 (@ZcS w r aa) Fz)))))))))))))))
theorem Zip(c6:Z0M w (ofA w.heap.C r).1=M)(c7:¬ (w.heap.P.getD (Z19 w r) X).K=2)(c8:(w.place (sizeH (hdW w r))).2.2=M):GP 45 [w.av,u64 r] M (.tu [noWork.av,u64 0,int 3]) []:=by
 have h1:=hw.mu;have h2:=hw.ol;have h3:=hw.wl;have h4:=Z0D hw.W r;have h11:=Z1q (loadA w.heap.W r).1 h4.1;have h5:=hw.pl;have h6:=validB_iff.1 hw.C;have h7:=hw.tl;have h8:=Z2L hw.C c5;have h9:=Z2K w r;unfold Z19 at c7;unfold hdW at h9 c8;have Q0 {h_ c_ p_} (r_:Fq h_ c_ p_):=FcG 29 (!r==0) (λhg=>by(try simp only[bs]at hg);exact @Z14 w.Q r oq) r_;rcases bb (r==0||O (r∈w.Q))with hc0 | hc0<;>have hc0p:=hc0<;>simp only[bs]at hc0p
 .rw[show noWork=w from by grind[noWork,noHeap]];exact gF [] func45 (fO 4) (Q0 (Ft 30 hc0 (Fr w.heap.C.pw (Fr w.heap.C.pg (Fr (Z wdv w.heap.W) (Fr (Z Page.dv w.heap.P) (Fr w.heap.S (Fr w.heap.B (Fr (Z wdv w.old) (Fr (Z idv w.T) (Fr (Z wdv w.Q) (Fr w.D (Fr w.rep.copied (Fr w.rep.kept (Fr w.rep.filled (Fr w.rep.freed (Fr w.rep.cleared (Fr w.rep.steps (Fa (by grind[noWork,noHeap]:r=0) (Fa (by grind[noWork,noHeap]:(0:Int)=3) Fz))))))))))))))))))))
 .obtain⟨hc0pa,hc0pb⟩:=hc0p;let y0:=ofA w.heap.C r;let y1:=loadA w.heap.W r;exact gF [] func45 [] (Fh 77 [.call Y (Sx.bool (Z0M w y0.1)) [],.br M] (Fh 89 [.br M] (Q0 (Ff 30 hc0 (Fc 36 (@Z14 w.old r oq) (Ffb 37 (!decide (r∈w.old)) (Fc 44 (@Z1W w.heap.W r oq aa) (Fc 49 (@Z3t (y1.1) oq oq) (Fa ‹(Z08 y1.1).2=M› (Fc 60 (@Z56 w.heap.C r oq oq) (FlG 71 (!y0.2.2 != 0) Page.dv w.heap.P (Ffb 52 (y0.2.2 != 0||O ((w.heap.P.length:Int)<=y0.1)) (Fa (@Z2a w (y0.1) oq oq) (Fa ‹Z0M w y0.1=M› (Fe 86 Page.dv w.heap.P (y0.1) (Ffb 73 ((w.heap.P.getD y0.1.toNat X).K==2) (Fc 143 (@Z3u (y1.1) oq oq) (Fc 147 (@Z2n ((decodeH y1.1).1) aa) (Fc 151 (@Zbd w (sizeH (decodeH y1.1).1) aa aa) (Ftb 156 (!(w.place (sizeH (decodeH y1.1).1)).2.2) (Fnl (Fnl (Fnl (Fnl (Fnl Fz)))))))))))))))))))))))))
theorem Zjy(c6:Z0M w (ofA w.heap.C r).1=M)(c7:¬ (w.heap.P.getD (Z19 w r) X).K=2)(c8:(w.place (sizeH (hdW w r))).2.2=Y):GP 45 [w.av,u64 r] M (.tu [((w.place (sizeH (hdW w r))).1.copy r (w.place (sizeH (hdW w r))).2.1 (sizeH (hdW w r))).av,u64 (w.place (sizeH (hdW w r))).2.1,int 0]) []:=by
 have h1:=hw.mu;have h2:=hw.ol;have h3:=hw.wl;have h4:=Z0D hw.W r;have h11:=Z1q (loadA w.heap.W r).1 h4.1;have h5:=hw.pl;have h6:=validB_iff.1 hw.C;have h7:=hw.tl;have h8:=Z2L hw.C c5;have h9:=Z2K w r;have h10:=hw.rk;obtain⟨i,p,t,d1,d2,d3,d4,d4',d5,d6,d7,d8,d9,e⟩:=Z6n hw h9.1 c8;have e1:=congrArg (λw=>w.heap.W) e;have e2:=congrArg (λw=>w.Q) e;have e3:=congrArg (λw=>w.rep) e;have e3c:=congrArg (λw=>w.rep.copied) e;simp only at e1 e2 e3 e3c;have l1:=Zgk w.heap.W (w.place (sizeH (hdW w r))).2.1 r (sizeH (hdW w r));unfold Z19 at c7;unfold hdW at *;have Q0 {h_ c_ p_} (r_:Fq h_ c_ p_):=FcG 29 (!r==0) (λhg=>by(try simp only[bs]at hg);exact @Z14 w.Q r oq) r_;rcases bb (r==0||O (r∈w.Q))with hc0 | hc0<;>have hc0p:=hc0<;>simp only[bs]at hc0p
 .rw[show(w.place (sizeH (decodeH (loadA w.heap.W r).1).1)).1.copy r (w.place (sizeH (decodeH (loadA w.heap.W r).1).1)).2.1 (sizeH (decodeH (loadA w.heap.W r).1).1)=w from by grind[Work.copy]];exact gF [] func45 (fO 4) (Q0 (Ft 30 hc0 (Fr w.heap.C.pw (Fr w.heap.C.pg (Fr (Z wdv w.heap.W) (Fr (Z Page.dv w.heap.P) (Fr w.heap.S (Fr w.heap.B (Fr (Z wdv w.old) (Fr (Z idv w.T) (Fr (Z wdv w.Q) (Fr w.D (Fr w.rep.copied (Fr w.rep.kept (Fr w.rep.filled (Fr w.rep.freed (Fr w.rep.cleared (Fr w.rep.steps (Fa (by grind[Work.copy]:r=(w.place (sizeH (decodeH (loadA w.heap.W r).1).1)).2.1) (Fr (0:Int) Fz))))))))))))))))))))
 .obtain⟨hc0pa,hc0pb⟩:=hc0p;let y1:=ofA w.heap.C r;let y2:=loadA w.heap.W r;let y0:=w.place (sizeH (decodeH y2.1).1);let y3:=sizeH (decodeH y2.1).1;exact gF [] func45 [] (Fh 77 [.call Y (Sx.bool (Z0M w y1.1)) [],.br M] (Fh 156 [.br M] (Fh 192 [.els (Z wdv (y0.1.Q++[y0.2.1]))] (Q0 (Ff 30 hc0 (Fc 36 (@Z14 w.old r oq) (Ffb 37 (!decide (r∈w.old)) (Fc 44 (@Z1W w.heap.W r oq aa) (Fc 49 (@Z3t (y2.1) oq oq) (Fa ‹(Z08 y2.1).2=M› (Fc 60 (@Z56 w.heap.C r oq oq) (FlG 71 (!y1.2.2 != 0) Page.dv w.heap.P (Ffb 52 (y1.2.2 != 0||O ((w.heap.P.length:Int)<=y1.1)) (Fa (@Z2a w (y1.1) oq oq) (Fa ‹Z0M w y1.1=M› (Fe 86 Page.dv w.heap.P (y1.1) (Ffb 73 ((w.heap.P.getD y1.1.toNat X).K==2) (Fc 143 (@Z3u (y2.1) oq oq) (Fc 147 (@Z2n ((decodeH y2.1).1) aa) (Fc 151 (@Zbd w y3 aa aa) (Ffb 89 (!y0.2.2) (Fc 165 (@ZlR (y0.1.heap.W) (y0.2.1) r y3 (by grind[Work.copy]) oq aa) (Fc 172 (@ZeJ (y0.2.1) oq oq) (Fc 181 (@Z9s ((moveA y0.1.heap.W y0.2.1 r y3).1) r (4*y0.2.1+2) (by grind[Work.copy]) aa) (FAx 186 189 wdv y0.1.Q (by grind[Work.copy]) (Fs 191 (Z wdv [y0.2.1]) (Fa (by grind[Work.copy]:(Z wdv y0.1.Q).length+(Z wdv [y0.2.1]).length<=2^30) (Fa (by simp[Work.copy,LO,LM,LN,LL,wdv,idv]:Z wdv y0.1.Q++Z wdv [y0.2.1]=Z wdv (y0.1.Q++[y0.2.1])) (Fi 197 (y0.1.rep.copied+1) Fz)))))))))))))))))))))))))))))
end
def Zoy(w:Work)(r x:Int)(hs:w.heap.S=0\/w.heap.S=1)(hl:w.heap.P.length<=1048576)(hx:0<=x):CP (blkF f45 0) (Tg.st ⟨tm 202 [(1,u64 r),(2,.pt 8002 0 0),(4,.pt 8004 0 0),(5,u64 0),(6,int 0),(14,int (x+1))],[(88094,.arr 84 4 ((w.heap.P.set x.toNat ⟨(w.heap.P.getD x.toNat X).K,1-w.heap.S,(w.heap.P.getD x.toNat X).U,(w.heap.P.getD x.toNat X).N⟩).map Page.dv)),(8002,.box 89 [int w.heap.C.pw,int w.heap.C.pg,Z01 w.heap.W,.ow 88094,int w.heap.S,int w.heap.B,Z01 w.old,Z0r w.T,Z01 w.Q,int w.D,int w.rep.copied,int w.rep.kept,int w.rep.filled,int w.rep.freed,int w.rep.cleared,int w.rep.steps]),(8004,.box 89 zW)],60⟩) .nrm (Tg.st ⟨tm 202 [(1,u64 r),(2,.pt 8002 0 0),(4,.pt 8004 0 0),(5,u64 0),(6,int 0)],[(88094,.arr 84 4 ((Z0s w.heap.P x.toNat (Z0i w.heap.P x.toNat) (1-w.heap.S)).map Page.dv)),(8002,.box 89 [int w.heap.C.pw,int w.heap.C.pg,Z01 w.heap.W,.ow 88094,int w.heap.S,int w.heap.B,Z01 w.old,Z0r w.T,Z01 w.Q,int w.D,int w.rep.copied,int w.rep.kept,int w.rep.filled,int w.rep.freed,int w.rep.cleared,int w.rep.steps]),(8004,.box 89 zW)],60⟩):=by
 have h:=Z0a (S:=λk=>(fwdL w r x k).st) (Z0i w.heap.P x.toNat) kr (λk hk=>ZmF w r x k hs hl hx hk) (Zqx w r x hl hx);have hz:=Zas (l:=w.heap.P) (i:=x.toNat) (1-w.heap.S);simp only[fwdL,hz,Z8K,Int.natCast_zero,Int.add_zero]at h;exact h
section
variable (w:Work) (r:Int) (hw:WkOk w) (h0:0<=r/\r<=18446744073709551615) (c1:r≠0) (c2:r∉w.Q) (c3:r∈w.old) (c4:(Z08 (loadA w.heap.W r).1).2=M) (c5:(ofA w.heap.C r).2.2=0)
include hw h0 c1 c2 c3 c4 c5
theorem Zkq(c6:Z0M w (ofA w.heap.C r).1=M)(c7:(w.heap.P.getD (Z19 w r) X).K=2):GP 45 [w.av,u64 r] M (.tu [((w.flip (Z19 w r)).keep r).av,u64 r,int 0]) []:=by
 have h1:=hw.mu;have h2:=hw.ol;have h3:=hw.wl;have h4:=Z0D hw.W r;have h5:=hw.pl;have h6:=validB_iff.1 hw.C;have h7:=hw.tl;have h8:=Z2L hw.C c5;have h9:=hw.sp;have h10:=Zit hw (Z19 w r);have h12:(⟨⟨w.heap.C,w.heap.W,Z0s w.heap.P (ofA w.heap.C r).1.toNat (Z0i w.heap.P (ofA w.heap.C r).1.toNat) (1-w.heap.S),w.heap.S,w.heap.B⟩,w.old,w.T,w.Q,w.D,w.rep⟩:Work)=w.flip (Z19 w r):=rfl;unfold Z19 at c7;have Q0 {h_ c_ p_} (r_:Fq h_ c_ p_):=FcG 29 (!r==0) (λhg=>by(try simp only[bs]at hg);exact @Z14 w.Q r oq) r_;rcases bb (r==0||O (r∈w.Q))with hc0 | hc0<;>have hc0p:=hc0<;>simp only[bs]at hc0p
 .rw[show(w.flip (Z19 w r)).keep r=w from by grind[]];exact gF [] func45 [] (Q0 (Ft 30 hc0 Fz))
 .obtain⟨hc0pa,hc0pb⟩:=hc0p;let y0:=ofA w.heap.C r;let y1:=Work.mk (Heap.mk w.heap.C w.heap.W (Z0s w.heap.P y0.1.toNat (Z0i w.heap.P y0.1.toNat) (1-w.heap.S)) w.heap.S w.heap.B) w.old w.T w.Q w.D w.rep;let y2:=w.heap.P.getD y0.1.toNat X;exact gF [] func45 [] (Fh 73 [.br M] (Fh 77 [.call Y (Sx.bool (Z0M w y0.1)) [],.br M] (Fh 139 [.kill (y1.keep r).av] (Q0 (Ff 30 hc0 (Fc 36 (@Z14 w.old r oq) (Ffb 37 (!decide (r∈w.old)) (Fc 44 (@Z1W w.heap.W r oq aa) (Fc 49 (@Z3t ((loadA w.heap.W r).1) oq oq) (Fa ‹(Z08 (loadA w.heap.W r).1).2=M› (Fc 60 (@Z56 w.heap.C r oq oq) (FlG 71 (!y0.2.2 != 0) Page.dv w.heap.P (Ffb 52 (y0.2.2 != 0||O ((w.heap.P.length:Int)<=y0.1)) (Fa (@Z2a w (y0.1) oq oq) (Fa ‹Z0M w y0.1=M› (Fe 86 Page.dv w.heap.P (y0.1) (Ftb 89 (y2.K==2) (FA 90 94 Page.dv w.heap.P (Fi 104 (1-w.heap.S) (Fm0q Page.dv w.heap.P (y0.1) (FS 10106 Page.dv w.heap.P (y0.1.toNat) (Page.mk y2.K (1-w.heap.S) y2.U y2.N) (y2.dv) (Fi 108 (y0.1+1) (Fu (@Zoy w r (y0.1) aa oq oq) (Fa (@ZcS y1 r aa) Fz))))))))))))))))))))))))
end
def Z4f(w:Work)(r:Int)(hw:WkOk w)(h0:0<=r/\r<=18446744073709551615):GP 45 [w.av,u64 r] M (.tu [(w.fwd r).1.av,u64 (w.fwd r).2.1,int (w.fwd r).2.2]) []:=by
 unfold Work.fwd;by_cases c1:r=0\/r∈w.Q
 .rw[if_pos c1];exact ZkK w r hw h0 c1
 .rw[if_neg c1];have c1':r≠0:=λh=>c1 (Ld h);have c2':r∉w.Q:=λh=>c1 (Lc h);by_cases c3:r∈w.old
  .rw[if_neg (by simpa using c3)];by_cases c4:(Z08 (loadA w.heap.W r).1).2=Y
   .rw[if_pos c4];exact ZjW w r hw h0 c1' c2' c3 c4
   .rw[if_neg c4];have c4':(Z08 (loadA w.heap.W r).1).2=M:=by simpa using c4
    by_cases c5:(ofA w.heap.C r).2.2=0
    .rw[if_neg (by simpa using c5)];by_cases c6:Z0M w (ofA w.heap.C r).1=Y
     .rw[if_pos c6];exact Zkr w r hw h0 c1' c2' c3 c4' c5 c6
     .rw[if_neg c6];have c6':Z0M w (ofA w.heap.C r).1=M:=by simpa using c6
      by_cases c7:(w.heap.P.getD (Z19 w r) X).K=2
      .rw[if_pos c7];exact Zkq w r hw h0 c1' c2' c3 c4' c5 c6' c7
      .rw[if_neg c7];by_cases c8:(w.place (sizeH (hdW w r))).2.2=M
       .rw[if_pos c8];exact Zip w r hw h0 c1' c2' c3 c4' c5 c6' c7 c8
       .rw[if_neg c8];exact Zjy w r hw h0 c1' c2' c3 c4' c5 c6' c7 (by simpa using c8)
    .rw[if_pos c5];exact Zjj w r hw h0 c1' c2' c3 c4' c5
  .rw[if_pos c3];exact ZjC w r hw h0 c1' c2' c3
def rootsN(w:Work)(roots:List Int):Nat->Work×List Int
 | 0=>(w,[])
 | k+1=>(((rootsN w roots k).1.fwd (roots.getD k X)).1,(rootsN w roots k).2++[((rootsN w roots k).1.fwd (roots.getD k X)).2.1])
def Z1k(w:Work)(roots:List Int)(k:Nat):Int:=((rootsN w roots k).1.fwd (roots.getD k X)).2.2
def rootsF(w:Work)(roots:List Int):Work×List Int×Int:=match (Le roots.length).find? (λk=>O (Z1k w roots k≠0))with
 | none=>((rootsN w roots roots.length).1,(rootsN w roots roots.length).2,0)
 | some k=>(noWork,[],Z1k w roots k)
def rtsL(w:Work)(roots out:List Int)(i:Nat):Tg:=⟨tm 39 [(1,Z01 roots),(2,.pt 8002 0 0),(4,.pt 8004 0 0),(5,.d (.sl 0 [])),(6,int 0),(7,.ow 16007),(8,int i)],[(16007,.arr 35 1 (out.map wdv)),(8004,.box 89 zW),(8002,.box 89 w.cells)],60⟩
section
variable (w:Work) (roots out:List Int) (i:Nat) (hw:WkOk w) (hr:0<=roots.getD i X/\roots.getD i X<=18446744073709551615) (hl:roots.length<=1048576) (ho:out.length<=1048576) (hi:i<roots.length)
include hw hr hl ho hi
theorem ZfI(e:(w.fwd (roots.getD i X)).2.2=0):CP (rndF f47 0) (rtsL w roots out i).st .nrm (rtsL (w.fwd (roots.getD i X)).1 roots (out++[(w.fwd (roots.getD i X)).2.1]) (i+1)).st:=by
 let y0:=w.fwd (roots.getD i X);exact sF [(504036,16007)] [] (Fh 36 [.els (Z wdv (out++[y0.2.1]))] (FN 14 15 22 wdv roots i (Fc 24 (@Z4f w (roots.getD i X) aa aa) (Ffb 29 (y0.2.2 != 0) (Fs 35 (Z wdv [y0.2.1]) (Fa (by(simp[*];omega):(Z wdv out).length+(Z wdv [y0.2.1]).length<=2^30) (Fa (ms:Z wdv out++Z wdv [y0.2.1]=Z wdv (out++[y0.2.1])) (Fx 17 i Fz))))))))
theorem ZlI(e:¬ (w.fwd (roots.getD i X)).2.2=0):CP (rndF f47 0) (rtsL w roots out i).st .ret (Tg.st ⟨tm 39 [(4,.pt 8004 0 0),(5,.d (.sl 0 [])),(6,int (w.fwd (roots.getD i X)).2.2)],[(8004,.box 89 zW)],60⟩):=by
 exact sF [] [] (FN 14 15 22 wdv roots i (Fc 24 (@Z4f w (roots.getD i X) aa aa) (Ftb 29 ((w.fwd (roots.getD i X)).2.2 != 0) Fz)))
end
def ZpO(w:Work)(roots out:List Int):CP (rndF f47 0) (rtsL w roots out roots.length).st (.ext 0) (Tg.st ⟨tm 39 [(2,.pt 8002 0 0),(4,.pt 8004 0 0),(7,.ow 16007)],[(16007,.arr 35 1 (out.map wdv)),(8004,.box 89 zW),(8002,.box 89 w.cells)],60⟩):=by
 exact sF [] [] (FO 14 15 wdv roots Fz)
def Z2B(w:Work)(roots:List Int):∀ k,(rootsN w roots k).2.length=k
 | 0=>rfl
 | k+1=>by simp[rootsN,Z2B w roots k]
def Z3F{w:Work}{roots:List Int}(hw:WkOk w):∀ k,(∀ j,j<k->Z1k w roots j=0)->WkOk (rootsN w roots k).1/\(∀ x∈(rootsN w roots k).2,0<=x/\x<=4294967296)/\(rootsN w roots k).1.D=w.D
 | 0,_=>⟨hw,by simp[rootsN],rfl⟩
 | k+1,h=>by
  have ih:=Z3F hw k (λj hj=>h j oq);have hf:=fwd_ok ih.1 (roots.getD k X) (h k oq);refine⟨hf.1, ?_, ?_⟩
  .intro x hx;simp only[rootsN,Ls,LA]at hx;rcases hx with hx | rfl
   .exact ih.2.1 x hx
   .exact⟨hf.2.1,hf.2.2.1⟩
  .show((rootsN w roots k).1.fwd (roots.getD k X)).1.D=w.D;rw[hf.2.2.2.2.1,ih.2.2]
section
variable (w:Work) (roots:List Int) (hw:WkOk w) (hr:ULe roots) (hl:roots.length<=1048575)
include hw hr hl
theorem Zop(hb:(Le roots.length).find? (λk=>O (Z1k w roots k≠0))=Lh):CP (blkF f47 0) (Tg.st ⟨tm 39 [(1,Z01 roots),(2,.pt 8002 0 0),(4,.pt 8004 0 0),(5,.d (.sl 0 [])),(6,int 0),(7,.ow 16007),(8,int 0)],[(16007,.arr 35 1 []),(8004,.box 89 zW),(8002,.box 89 w.cells)],60⟩) .nrm (Tg.st ⟨tm 39 [(2,.pt 8002 0 0),(4,.pt 8004 0 0),(7,.ow 16007)],[(16007,.arr 35 1 ((rootsN w roots roots.length).2.map wdv)),(8004,.box 89 zW),(8002,.box 89 (rootsN w roots roots.length).1.cells)],60⟩):=by
 have h0:∀ j,j<roots.length->Z1k w roots j=0:=λj hj=>by
  have:=Lr.1 hb j (Ln.2 hj);simpa using this
 exact Z0a (S:=λk=>(rtsL (rootsN w roots k).1 roots (rootsN w roots k).2 k).st) roots.length kr (λk hk=>ZfI _ roots _ k (Z3F hw k λj hj=>h0 j oq).1 (Z5G hr k) oq (by rw[Z2B];omega) hk (h0 k hk)) (ZpO _ roots _)
theorem ZmY(i:Nat)(hb:(Le roots.length).find? (λk=>O (Z1k w roots k≠0))=Lb i):CP (blkF f47 0) (Tg.st ⟨tm 39 [(1,Z01 roots),(2,.pt 8002 0 0),(4,.pt 8004 0 0),(5,.d (.sl 0 [])),(6,int 0),(7,.ow 16007),(8,int 0)],[(16007,.arr 35 1 []),(8004,.box 89 zW),(8002,.box 89 w.cells)],60⟩) .ret (Tg.st ⟨tm 39 [(4,.pt 8004 0 0),(5,.d (.sl 0 [])),(6,int (Z1k w roots i))],[(8004,.box 89 zW)],60⟩):=by
 obtain⟨h1,h2,h3⟩:=Lm.1 hb;have h2:=Ln.1 h2;have h0:∀ j,j<i->Z1k w roots j=0:=λj hj=>by simpa using h3 j hj
 exact Z0H (S:=λk=>(rtsL (rootsN w roots k).1 roots (rootsN w roots k).2 k).st) i kr (λk hk=>ZfI _ roots _ k (Z3F hw k λj hj=>h0 j oq).1 (Z5G hr k) oq (by rw[Z2B];omega) oq (h0 k hk)) (ZlI _ roots _ i (Z3F hw i h0).1 (Z5G hr i) oq (by rw[Z2B];omega) h2 (of_decide_eq_true h1))
theorem Z5R:GP 47 [w.av,Z01 roots] M (.tu [(rootsF w roots).1.av,Z01 (rootsF w roots).2.1,int (rootsF w roots).2.2]) []:=by
 cases hb:(Le roots.length).find? (λk=>O (Z1k w roots k≠0))with
 | none =>
  have e7:rootsF w roots=((rootsN w roots roots.length).1,(rootsN w roots roots.length).2,0):=by rw[rootsF,hb]
  rw[e7];exact gF [] func47 [] (Fh 7 [.own] (Fu (@Zop w roots aa aa aa aa) Fz))
 | some i =>
  have e7:rootsF w roots=(noWork,[],Z1k w roots i):=by rw[rootsF,hb]
  rw[e7];exact gF [] func47 [] (Fh 7 [.own] (Fu (@ZmY w roots aa aa aa i aa) (Fnl (Fnl (Fnl (Fnl (Fnl (Fnl Fz))))))))
end
def Z0V(h:Header):Nat->List Int
 | 0=>[]
 | i+1=>if Z0f h (i:Int)=Y then Z0V h i++[(i:Int)]else Z0V h i
def Z4C(h:Header):∀ i,(Z0V h i).length<=i
 | 0=>Lq _
 | i+1=>by
  have:=Z4C h i;simp only[Z0V];split<;>simp<;>omega
def Z03(h:Header):List Int:=if Z0h h=Y then Z0V h h.length.toNat else []
def Zi5(h:Header)(i:Nat):Tg:=⟨tm 23 [(1,.pt 8001 0 0),(3,.ow 16003),(4,int i)],[(16003,.arr 3 1 ((Z0V h i).map idv)),(8001,.box 52 [int h.K,int h.length,u32 h.map])],60⟩
def Zkc(h:Header)(i:Nat)(hm:0<=h.map/\h.map<=4294967295)(hv:Z0h h=Y)(hb:h.length<=255)(hi:i<h.length):CP (rndF f99 0) (Zi5 h i).st .nrm (Zi5 h (i+1)).st:=by
 have hn:=Z4C h i;by_cases hp:Z0f h (i:Int)=Y
 .have e:Z0V h (i+1)=Z0V h i++[(i:Int)]:=by rw[Z0V,if_pos hp]
  exact sF [(496021,16003)] (fO 5) (Fh 17 [.call Y (Sx.bool (Z0f h (i:Int))) [],.br Y] (Fh 21 [.els (Z idv (Z0V h i++[(i:Int)]))] (FcG 11 (O ((i:Int)<h.length)) (λhg=>by(try simp only[bs]at hg);exact @Z2w h aa) (Ft 12 (by simp[*]:(O ((i:Int)<h.length)&&Z0h h)=Y) (Fa (@Z1T h ((i:Int)) aa) (Fa ‹Z0f h (i:Int)=Y› (Fs 20 (Z idv [(i:Int)]) (Fa (by(simp[*];omega):(Z idv (Z0V h i)).length+(Z idv [(i:Int)]).length<=2^30) (Fa (ms:Z idv (Z0V h i)++Z idv [(i:Int)]=Z idv (Z0V h i++[(i:Int)])) (Fx 14 i (Fr (3:Int) (Fa (by refine congrArg _ ?_;rw[e]:Z idv (Z0V h i++[(i:Int)])=Z idv (Z0V h (i+1))) Fz))))))))))))
 .have e:Z0V h (i+1)=Z0V h i:=by rw[Z0V,if_neg hp]
  have hp':Z0f h (i:Int)=M:=by simpa using hp
  exact sF [] (fO 5) (Fh 17 [.call Y (Sx.bool (Z0f h (i:Int))) [],.br M] (FcG 11 (O ((i:Int)<h.length)) (λhg=>by(try simp only[bs]at hg);exact @Z2w h aa) (Ft 12 (by simp[*]:(O ((i:Int)<h.length)&&Z0h h)=Y) (Fa (@Z1T h ((i:Int)) aa) (Fa ‹Z0f h (i:Int)=M› (Fx 14 i (Fr (3:Int) (Fa (by refine congrArg _ ?_;rw[e]:Z idv (Z0V h i)=Z idv (Z0V h (i+1))) Fz))))))))
def Zj3(h:Header)(i:Nat)(hm:0<=h.map/\h.map<=4294967295)(hi:h.length<=i\/Z0h h=M):CP (rndF f99 0) (Zi5 h i).st (.ext 0) (Tg.st ⟨tm 23 [(3,.ow 16003)],[(16003,.arr 3 1 ((Z0V h i).map idv))],60⟩):=by
 rcases hi with hi | hi
 .exact sF [] [] (FcG 11 (O ((i:Int)<h.length)) (λhg=>by(try simp only[bs]at hg);exact @Z2w h aa) (Ffb 12 (O ((i:Int)<h.length)&&Z0h h) Fz))
 .exact sF [] [] (FcG 11 (O ((i:Int)<h.length)) (λhg=>by(try simp only[bs]at hg);exact @Z2w h aa) (Ff 12 (by simp[*]:(O ((i:Int)<h.length)&&Z0h h)=M) Fz))
def Zlw(h:Header)(hm:0<=h.map/\h.map<=4294967295):CP (blkF f99 0) (Tg.st ⟨tm 23 [(1,.pt 8001 0 0),(3,.ow 16003),(4,int 0)],[(16003,.arr 3 1 []),(8001,.box 52 [int h.K,int h.length,u32 h.map])],60⟩) .nrm (Tg.st ⟨tm 23 [(3,.ow 16003)],[(16003,.arr 3 1 ((Z03 h).map idv))],60⟩):=by
 unfold Z03;by_cases hv:Z0h h=Y
 .rw[if_pos hv];have hb:=validH_iff.1 hv;exact Z0a (S:=λi=>(Zi5 h i).st) h.length.toNat kr (λi hi=>Zkc h i hm hv oq oq) (Zj3 h _ hm (.inl oq))
 .rw[if_neg hv];exact Z0a (S:=λi=>(Zi5 h i).st) 0 kr (λi hi=>by omega) (Zj3 h 0 hm (.inr (by simpa using hv)))
def Z81(h:Header)(hm:0<=h.map/\h.map<=4294967295):GP 99 [h.av] Y (.d (.sl 1 ((Z03 h).map idv))) []:=by
 exact gF [] func99 [] (Fh 3 [.own] (Fu (@Zlw h aa) (Fa (by exact Z3P _:Z0x (Z idv (Z03 h))) Fz)))
def Work.in1(w:Work)(a:Int):Work:=⟨⟨(w.fwd (loadA w.heap.W a).1).1.heap.C,(Z0L (w.fwd (loadA w.heap.W a).1).1.heap.W a (w.fwd (loadA w.heap.W a).1).2.1).1,(w.fwd (loadA w.heap.W a).1).1.heap.P,(w.fwd (loadA w.heap.W a).1).1.heap.S,(w.fwd (loadA w.heap.W a).1).1.heap.B⟩,(w.fwd (loadA w.heap.W a).1).1.old,(w.fwd (loadA w.heap.W a).1).1.T,(w.fwd (loadA w.heap.W a).1).1.Q,(w.fwd (loadA w.heap.W a).1).1.D,(w.fwd (loadA w.heap.W a).1).1.rep⟩
def innN(w:Work)(a:Int)(l:List Int):Nat->Work
 | 0=>w
 | k+1=>(innN w a l k).in1 (a+1+l.getD k X)
def innE(w:Work)(a:Int)(l:List Int)(k:Nat):Int:=((innN w a l k).fwd (loadA (innN w a l k).heap.W (a+1+l.getD k X)).1).2.2
def Z0U(w:Work):Int:=w.Q.getD w.D.toNat X
def Z0n(w:Work):List Int:=Z03 (hdW w (Z0U w))
def Z3H(w:Work)(n:Int):Work:=⟨w.heap,w.old,w.T,w.Q,w.D+1,⟨w.rep.copied,w.rep.kept,w.rep.filled,w.rep.freed,w.rep.cleared,w.rep.steps+1+n⟩⟩
def Z0z(w:Work):Work×Bool×Int :=
 if w.D<w.Q.length then
  match (Le (Z0n w).length).find? (λk=>O (innE w (Z0U w) (Z0n w) k≠0))with
  | none=>(Z3H (innN w (Z0U w) (Z0n w) (Z0n w).length) (Z0n w).length,Y,0)
  | some k=>(noWork,M,innE w (Z0U w) (Z0n w) k)
 else(w,M,0)
def Znh{w:Work}(hw:WkOk w)(a:Int)(e:(w.fwd (loadA w.heap.W a).1).2.2=0):WkOk (w.in1 a)/\w.Q.length<=(w.in1 a).Q.length/\(w.in1 a).D=w.D/\(w.in1 a).rep.steps=w.rep.steps:=by
 have hf:=fwd_ok hw _ e;have hl:=Zdx (w.fwd (loadA w.heap.W a).1).1.heap.W a (w.fwd (loadA w.heap.W a).1).2.1;have hl2:=hf.1.wl;exact⟨hf.1.withWords (Z8N hf.1.W oq a) oq,hf.2.2.2.1,hf.2.2.2.2.1,hf.2.2.2.2.2⟩
def Z43{w:Work}(hw:WkOk w)(a:Int)(l:List Int):∀ k,(∀ j,j<k->innE w a l j=0)->WkOk (innN w a l k)/\w.Q.length<=(innN w a l k).Q.length/\(innN w a l k).D=w.D/\(innN w a l k).rep.steps=w.rep.steps
 | 0,_=>⟨hw,Lq _,rfl,rfl⟩
 | k+1,h=>by
  have ih:=Z43 hw a l k (λj hj=>h j oq);have hi:=Znh ih.1 (a+1+l.getD k X) (h k oq);exact⟨hi.1,Nat.le_trans ih.2.1 hi.2.1,hi.2.2.1.trans ih.2.2.1,hi.2.2.2.trans ih.2.2.2⟩
def Z4e(h:Header):∀ i,∀ x∈Z0V h i,0<=x/\x<i
 | 0,x,hx=>by simp[Z0V]at hx
 | i+1,x,hx=>by
  have ih:=Z4e h i;simp only[Z0V]at hx;split at hx
  .rcases Ls.1 hx with hx | hx
   .have:=ih x hx;omega
   .simp at hx;omega
  .have:=ih x hx;omega
def Z35(h:Header):(Z03 h).length<=255/\∀ x∈Z03 h,0<=x/\x<=255:=by
 unfold Z03;split
 .rename_i hv;have:=validH_iff.1 hv;have hl:=Z4C h h.length.toNat
  exact⟨by omega,λx hx=>by have:=Z4e h _ x hx;omega⟩
 .simp
def ZgQ(w:Work)(hw:WkOk w)(hs:¬ w.D<w.Q.length):GP 50 [w.av] M (.tu [w.av,bool M,int 0]) []:=by
 have h3:=hw.mu;exact gF [] func50 [] (Fl 18 wdv w.Q (Ftb 19 (O ((w.Q.length:Int)<=w.D)) Fz))
def stpL(w:Work)(a:Int)(l:List Int)(k:Nat):Tg:=⟨tm 90 [(1,.pt 8001 0 0),(2,.pt 8002 0 0),(3,bool M),(4,int 0),(5,u64 a),(6,Z0r l),(7,int k)],[(8002,.box 89 zW),(8001,.box 89 w.cells)],60⟩
section
variable (w:Work) (a:Int) (l:List Int) (k:Nat) (hw:WkOk w) (ha:0<=a/\a<=16384) (hl:l.length<=255) (hr:0<=l.getD k X/\l.getD k X<=255) (hk:k<l.length)
include hw ha hl hr hk
theorem Zfy(e:(w.fwd (loadA w.heap.W (a+1+l.getD k X)).1).2.2=0):CP (rndF f50 0) (stpL w a l k).st .nrm (stpL (w.in1 (a+1+l.getD k X)) a l (k+1)).st:=by
 have h1:=hw.wl;have h2:=Z0D hw.W (a+1+l.getD k X);have h3:=fwd_ok hw _ e;have h4:=h3.1.wl;let y0:=a+1+l.getD k X;let y1:=w.fwd (loadA w.heap.W y0).1;exact sF [] [] (FM 33 34 idv l k (Fv 38 (a+1) (Fek 41 idv l (↑k) k (Fv 43 (l.getD k X) (Fv 44 y0 (Fc 50 (@Z1W w.heap.W y0 oq oq) (Fc 56 (@Z4f w ((loadA w.heap.W y0).1) aa aa) (Ffb 61 (y1.2.2 != 0) (Fc 71 (@Z9s (y1.1.heap.W) y0 (y1.2.1) oq oq) (Fx 36 k Fz))))))))))
theorem Zn1(e:¬ (w.fwd (loadA w.heap.W (a+1+l.getD k X)).1).2.2=0):CP (rndF f50 0) (stpL w a l k).st .ret (Tg.st ⟨tm 90 [(2,.pt 8002 0 0),(3,bool M),(4,int (w.fwd (loadA w.heap.W (a+1+l.getD k X)).1).2.2)],[(8002,.box 89 zW)],60⟩):=by
 have h1:=hw.wl;have h2:=Z0D hw.W (a+1+l.getD k X);let y0:=a+1+l.getD k X;exact sF [] [] (FM 33 34 idv l k (Fv 38 (a+1) (Fek 41 idv l (↑k) k (Fv 43 (l.getD k X) (Fv 44 y0 (Fc 50 (@Z1W w.heap.W y0 oq oq) (Fc 56 (@Z4f w ((loadA w.heap.W y0).1) aa aa) (Ftb 61 ((w.fwd (loadA w.heap.W y0).1).2.2 != 0) Fz))))))))
end
def Zq7(w:Work)(a:Int)(l:List Int):CP (rndF f50 0) (stpL w a l l.length).st (.ext 0) (Tg.st ⟨tm 90 [(1,.pt 8001 0 0),(2,.pt 8002 0 0),(6,Z0r l)],[(8002,.box 89 zW),(8001,.box 89 w.cells)],60⟩):=by
 exact sF [] [] (FO 33 34 idv l Fz)
section
variable (w:Work) (a:Int) (l:List Int) (hw:WkOk w) (ha:0<=a/\a<=16384) (hl:l.length<=255) (hr:∀ x∈l,0<=x/\x<=255)
include hw ha hl hr
theorem Zp6(hb:(Le l.length).find? (λk=>O (innE w a l k≠0))=Lh):CP (blkF f50 0) (Tg.st ⟨tm 90 [(1,.pt 8001 0 0),(2,.pt 8002 0 0),(3,bool M),(4,int 0),(5,u64 a),(6,Z0r l),(7,int 0)],[(8002,.box 89 zW),(8001,.box 89 w.cells)],60⟩) .nrm (Tg.st ⟨tm 90 [(1,.pt 8001 0 0),(2,.pt 8002 0 0),(6,Z0r l)],[(8002,.box 89 zW),(8001,.box 89 (innN w a l l.length).cells)],60⟩):=by
 have h0:∀ j,j<l.length->innE w a l j=0:=λj hj=>by
  have:=Lr.1 hb j (Ln.2 hj);simpa using this
 exact Z0a (S:=λk=>(stpL (innN w a l k) a l k).st) l.length kr (λk hk=>Zfy _ a l k (Z43 hw a l k λj hj=>h0 j oq).1 ha hl (hr _ (getD_mem_iff.2 ⟨k,hk,rfl⟩)) hk (h0 k hk)) (Zq7 _ a l)
theorem Zmm(i:Nat)(hb:(Le l.length).find? (λk=>O (innE w a l k≠0))=Lb i):CP (blkF f50 0) (Tg.st ⟨tm 90 [(1,.pt 8001 0 0),(2,.pt 8002 0 0),(3,bool M),(4,int 0),(5,u64 a),(6,Z0r l),(7,int 0)],[(8002,.box 89 zW),(8001,.box 89 w.cells)],60⟩) .ret (Tg.st ⟨tm 90 [(2,.pt 8002 0 0),(3,bool M),(4,int (innE w a l i))],[(8002,.box 89 zW)],60⟩):=by
 obtain⟨h1,h2,h3⟩:=Lm.1 hb;have h2:=Ln.1 h2;have h0:∀ j,j<i->innE w a l j=0:=λj hj=>by simpa using h3 j hj
 exact Z0H (S:=λk=>(stpL (innN w a l k) a l k).st) i kr (λk hk=>Zfy _ a l k (Z43 hw a l k λj hj=>h0 j oq).1 ha hl (hr _ (getD_mem_iff.2 ⟨k,by omega,rfl⟩)) oq (h0 k hk)) (Zn1 _ a l i (Z43 hw a l i h0).1 ha hl (hr _ (getD_mem_iff.2 ⟨i,h2,rfl⟩)) h2 (of_decide_eq_true h1))
end
def Z8U(w:Work)(hw:WkOk w):GP 50 [w.av] M (.tu [(Z0z w).1.av,bool (Z0z w).2.1,int (Z0z w).2.2]) []:=by
 by_cases hs:w.D<w.Q.length
 .have h2:=hw.sc;have h1:=hw.q _ (getD_mem_iff.2 ⟨w.D.toNat,by omega,rfl⟩);have h3:=hw.mu;have h4:=Z1q (loadA w.heap.W (w.Q.getD w.D.toNat X)).1 (Z0D hw.W _).1;have h5:hdW w (w.Q.getD w.D.toNat X)=(decodeH (loadA w.heap.W (w.Q.getD w.D.toNat X)).1).1:=rfl;have h6:=Z35 (hdW w (w.Q.getD w.D.toNat X));rw[<- h5]at h4;unfold Z0z;rw[if_pos hs];cases hb:(Le (Z0n w).length).find? (λk=>O (innE w (Z0U w) (Z0n w) k≠0))with
  | none =>
   have h0:∀ j,j<(Z0n w).length->innE w (Z0U w) (Z0n w) j=0:=λj hj=>by
    have:=Lr.1 hb j (Ln.2 hj);simpa using this
   have k1:=Z43 hw (Z0U w) (Z0n w) (Z0n w).length h0;have k2:=k1.1.rs;have k3:=k1.1.sc;have k4:=k1.1.mu;unfold Z0n Z0U at *;let y0:=w.Q.getD w.D.toNat X;let y1:=Z03 (hdW w y0);let y2:=innN w y0 y1 y1.length;exact gF [] func50 [] (Fl 18 wdv w.Q (Ffb 19 (O ((w.Q.length:Int)<=w.D)) (Fe 25 wdv w.Q w.D (Fc 29 (@Zgn w y0 aa oq) (Fc 30 (@Z81 (hdW w y0) aa) (Fu (@Zp6 w y0 y1 aa aa oq (by grind[Z3H]) aa) (Fi 78 (y2.D+1) (Fi 83 (y2.rep.steps+1) (Fl 85 idv y1 (Fi 86 (y2.rep.steps+1+(y1.length:Int)) Fz))))))))))
  | some k =>
   unfold Z0n Z0U at *;let y3:=w.Q.getD w.D.toNat X;exact gF [] func50 [] (Fl 18 wdv w.Q (Ffb 19 (O ((w.Q.length:Int)<=w.D)) (Fe 25 wdv w.Q w.D (Fc 29 (@Zgn w y3 aa oq) (Fc 30 (@Z81 (hdW w y3) aa) (Fu (@Zmm w y3 (Z03 (hdW w y3)) aa aa oq (by grind[noWork,noHeap]) k aa) (Fnl (Fnl (Fnl (Fnl (Fnl Fz)))))))))))
 .have e:Z0z w=(w,M,0):=by rw[Z0z,if_neg hs]
  rw[e];exact ZgQ w hw hs
def Z8t{w:Work}(hw:WkOk w)(e:(Z0z w).2.2=0):WkOk (Z0z w).1/\((Z0z w).2.1=Y->(Z0z w).1.D=w.D+1):=by
 by_cases hs:w.D<w.Q.length
 .unfold Z0z at e ⊢;rw[if_pos hs]at e ⊢;cases hb:(Le (Z0n w).length).find? (λk=>O (innE w (Z0U w) (Z0n w) k≠0))with
  | none =>
   have h0:∀ j,j<(Z0n w).length->innE w (Z0U w) (Z0n w) j=0:=λj hj=>by
    have:=Lr.1 hb j (Ln.2 hj);simpa using this
   have k1:=Z43 hw (Z0U w) (Z0n w) (Z0n w).length h0;have k2:=k1.1.rs;have k3:=k1.1.sc;have k5:=(Z35 (hdW w (Z0U w))).1;have k6:=hw.sc;simp only;refine⟨⟨k1.1.W,k1.1.wl,k1.1.C,k1.1.pl,k1.1.sp,k1.1.ol,k1.1.o,k1.1.tk,k1.1.tl,k1.1.q,k1.1.us,k1.1.mu, ?_,k1.1.rk, ?_,k1.1.r0⟩, ?_⟩
   .simp only[Z3H];omega
   .simp only[Z3H];unfold Z0n at *;omega
   .intro _;simp only[Z3H];omega
  | some k =>
   simp only[hb]at e;have:=(Lm.1 hb).1;simp[e]at this
 .have e:Z0z w=(w,M,0):=by rw[Z0z,if_neg hs]
  rw[e];exact⟨hw,λh=>by cases h⟩
def itW(w:Work):Nat->Work
 | 0=>w
 | k+1=>(Z0z (itW w k)).1
def bndW(w:Work):Nat:=1000002+w.old.length
def Z2I(w:Work)(k:Nat):Bool:=O ((Z0z (itW w k)).2.2≠0\/(Z0z (itW w k)).2.1=M)
def allF(w:Work):Work×Int:=match (Le (bndW w)).find? (Z2I w)with
 | none=>(w,0)
 | some k=>if(Z0z (itW w k)).2.2=0 then((Z0z (itW w k)).1,0)else(noWork,(Z0z (itW w k)).2.2)
def Z4H{w:Work}(hw:WkOk w):∀ k,(∀ j,j<k->Z2I w j=M)->WkOk (itW w k)/\(itW w k).D=w.D+k
 | 0,_=>⟨hw,by simp[itW]⟩
 | k+1,h=>by
  have ih:=Z4H hw k (λj hj=>h j oq);have hk:=h k oq;simp only[Z2I,decide_eq_false_iff_not,not_or,Ly]at hk;have hs:=Z8t ih.1 hk.1;refine⟨hs.1, ?_⟩;have:=hs.2 (by simpa using hk.2);simp only[itW];omega
def Z3E{w:Work}(hw:WkOk w):∃ k,(Le (bndW w)).find? (Z2I w)=Lb k:=by
 cases hb:(Le (bndW w)).find? (Z2I w)with
 | some k=>exact⟨k,rfl⟩
 | none =>
  exfalso;have h0:∀ j,j<1000001->Z2I w j=M:=λj hj=>by
   have:=Lr.1 hb j (Ln.2 (by unfold bndW;omega));simpa using this
  have k:=Z4H hw 1000001 h0;have h1:=k.1.sc;have h2:=k.1.mu;have h3:=hw.sc;omega
def allL(w:Work):Tg:=⟨tm 21 [(1,.pt 8001 0 0),(2,.pt 8002 0 0),(3,int 0)],[(8002,.box 89 zW),(8001,.box 89 w.cells)],60⟩
section
variable (w:Work) (hw:WkOk w)
include hw
theorem Zg7(e:(Z0z w).2.2=0)(m:(Z0z w).2.1=Y):CP (rndF f53 0) (allL w).st .nrm (allL (Z0z w).1).st:=by
 exact sF [] [] (Fc 9 (@Z8U w aa) (Ffb 14 ((Z0z w).2.2 != 0) (Ffb 19 (!(Z0z w).2.1) Fz)))
theorem Zoj(e:(Z0z w).2.2=0)(m:(Z0z w).2.1=M):CP (rndF f53 0) (allL w).st .ret (Tg.st ⟨tm 21 [(2,.pt 8002 0 0),(3,int 0)],[(8002,.box 89 (Z0z w).1.cells)],60⟩):=by
 exact sF [] [] (Fc 9 (@Z8U w aa) (Ffb 14 ((Z0z w).2.2 != 0) (Ftb 19 (!(Z0z w).2.1) Fz)))
theorem ZpX(e:¬ (Z0z w).2.2=0):CP (rndF f53 0) (allL w).st .ret (Tg.st ⟨tm 21 [(2,.pt 8002 0 0),(3,int (Z0z w).2.2)],[(8002,.box 89 zW)],60⟩):=by
 exact sF [] [] (Fc 9 (@Z8U w aa) (Ftb 14 ((Z0z w).2.2 != 0) Fz))
theorem ZnO(k:Nat)(hb:(Le (bndW w)).find? (Z2I w)=Lb k)(e:(Z0z (itW w k)).2.2=0):CP (blkF f53 0) (Tg.st ⟨tm 21 [(1,.pt 8001 0 0),(2,.pt 8002 0 0),(3,int 0)],[(8002,.box 89 zW),(8001,.box 89 w.cells)],60⟩) .ret (Tg.st ⟨tm 21 [(2,.pt 8002 0 0),(3,int 0)],[(8002,.box 89 (Z0z (itW w k)).1.cells)],60⟩):=by
 obtain⟨h1,h2,h3⟩:=Lm.1 hb;have h0:∀ j,j<k->Z2I w j=M:=λj hj=>by simpa using h3 j hj
 have m:(Z0z (itW w k)).2.1=M:=by
  simp only[Z2I,decide_eq_true_eq,e]at h1;simpa using h1
 exact Z0H (S:=λk=>(allL (itW w k)).st) k kr (λj hj=>by
  have hk:=h0 j hj;simp only[Z2I,decide_eq_false_iff_not,not_or,Ly]at hk;exact Zg7 _ (Z4H hw j λi hi=>h0 i oq).1 hk.1 (by simpa using hk.2)) (Zoj _ (Z4H hw k h0).1 e m)
theorem Zmj(k:Nat)(hb:(Le (bndW w)).find? (Z2I w)=Lb k)(e:¬ (Z0z (itW w k)).2.2=0):CP (blkF f53 0) (Tg.st ⟨tm 21 [(1,.pt 8001 0 0),(2,.pt 8002 0 0),(3,int 0)],[(8002,.box 89 zW),(8001,.box 89 w.cells)],60⟩) .ret (Tg.st ⟨tm 21 [(2,.pt 8002 0 0),(3,int (Z0z (itW w k)).2.2)],[(8002,.box 89 zW)],60⟩):=by
 obtain⟨h1,h2,h3⟩:=Lm.1 hb;have h0:∀ j,j<k->Z2I w j=M:=λj hj=>by simpa using h3 j hj
 exact Z0H (S:=λk=>(allL (itW w k)).st) k kr (λj hj=>by
  have hk:=h0 j hj;simp only[Z2I,decide_eq_false_iff_not,not_or,Ly]at hk;exact Zg7 _ (Z4H hw j λi hi=>h0 i oq).1 hk.1 (by simpa using hk.2)) (ZpX _ (Z4H hw k h0).1 e)
theorem Zbe:GP 53 [w.av] M (.tu [(allF w).1.av,int (allF w).2]) []:=by
 obtain⟨k,hb⟩:=Z3E hw;by_cases e:(Z0z (itW w k)).2.2=0
 .have e7:allF w=((Z0z (itW w k)).1,0):=by rw[allF,hb];simp only[if_pos e]
  rw[e7];exact gF [] func53 [] (Fu (@ZnO w aa k aa aa) Fz)
 .have e7:allF w=(noWork,(Z0z (itW w k)).2.2):=by rw[allF,hb];simp only[if_neg e]
  rw[e7];exact gF [] func53 [] (Fu (@Zmj w aa k aa aa) (Fnl (Fnl (Fnl (Fnl (Fnl Fz))))))
omit hw in
theorem Znz(hw:WkOk w)(e:(allF w).2=0):WkOk (allF w).1:=by
 obtain⟨k,hb⟩:=Z3E hw;obtain⟨h1,h2,h3⟩:=Lm.1 hb;have h0:∀ j,j<k->Z2I w j=M:=λj hj=>by simpa using h3 j hj
 unfold allF at e ⊢;rw[hb]at e ⊢;simp only at e ⊢;split at e
 .rename_i c;rw[if_pos c];exact(Z8t (Z4H hw k h0).1 c).1
 .rename_i c;exact absurd e c
end
def hlA(ws:List Int)(a:Int):Int:=(decodeH (loadA ws a).1).1.length
def Z0b(ws:List Int)(a:Int):0<=hlA ws a/\hlA ws a<=255:=by
 have:=validH_iff.1 (Z28 (loadA ws a).1);exact⟨this.2.2.1,this.2.2.2.1⟩
def Z2i{ws l:List Int}{a b:Int}(h:4096<=a/\a-4096+l.length<=ws.length)(hb:b<a\/a+l.length<=b):loadA (Z0F ws a l).1 b=loadA ws b:=by
 unfold Z0F;rw[if_pos h];have hl:(spl ws (a-4096).toNat l).length=ws.length:=Z3Z oq;unfold loadA;simp only[hl];split
 .have:=Z9P (ws:=ws) (l:=l) (i:=(a-4096).toNat) (k:=l.length) oq (Lq _) (b-4096).toNat
  rw[ZcM]at this;rw[La,La,this];by_cases h1:(b-4096).toNat<(a-4096).toNat
  .rw[if_pos h1]
  .rw[if_neg h1,if_neg oq]
 .rfl
def Z1R{ws l:List Int}{a b:Int}(h:4096<=a/\a-4096+l.length<=ws.length)(hb:a<=b/\b<a+l.length):loadA (Z0F ws a l).1 b=(l.getD (b-a).toNat 0,0):=by
 unfold Z0F;rw[if_pos h];have hl:(spl ws (a-4096).toNat l).length=ws.length:=Z3Z oq;unfold loadA;simp only[hl];rw[if_pos oq];have:=Z9P (ws:=ws) (l:=l) (i:=(a-4096).toNat) (k:=l.length) oq (Lq _) (b-4096).toNat
 rw[ZcM]at this;rw[La,La,this,if_neg oq,if_pos oq,show(b-4096).toNat-(a-4096).toNat=(b-a).toNat by omega]
def Z2u{ws:List Int}{a v:Int}(h:4096<=a/\a<4096+ws.length):(Z0L ws a v).1.length=ws.length:=by
 unfold Z0L Z0F;rw[if_pos qo];exact Z3Z qo
def Z0v{ws:List Int}{a b v:Int}(h:4096<=a/\a<4096+ws.length)(hb:b≠a):loadA (Z0L ws a v).1 b=loadA ws b :=
 Z2i qo qo
def Z1P{ws:List Int}{a v:Int}(h:4096<=a/\a<4096+ws.length):loadA (Z0L ws a v).1 a=(v,0):=by
 have:=Z1R (ws:=ws) (l:=[v]) (a:=a) (b:=a) qo qo;rw[Z0L,this];simp
def Z5x{ws:List Int}{a b n:Int}(hn:1<=n)(ha:4096<=a/\a-4096+n<=ws.length)(hb:4096<=b/\b-4096+n<=ws.length) :
  (moveA ws a b n).1.length=ws.length/\loadA (moveA ws a b n).1 a=((loadA ws b).1,0)/\∀ x,x<a\/a+n<=x->loadA (moveA ws a b n).1 x=loadA ws x:=by
 have e1:Z1n ws b n=((ws.drop (b-4096).toNat).take n.toNat,0):=by rw[Z1n,if_neg oq,if_pos hb]
 have e2:moveA ws a b n=Z0F ws a ((ws.drop (b-4096).toNat).take n.toNat):=by rw[moveA,e1];simp
 have hl:((ws.drop (b-4096).toNat).take n.toNat).length=n.toNat:=by simp;omega
 rw[e2];refine⟨?_, ?_, ?_⟩
 .unfold Z0F;rw[if_pos oq];exact Z3Z oq
 .rw[Z1R oq oq];congr 1;unfold loadA;rw[if_pos oq];simp only[La,Int.sub_self,Int.toNat_zero];rw[List.getElem?_take_of_lt oq,Lz];simp
 .intro x hx;exact Z2i oq oq
def ZhG(a:Int):(decodeH (4*a+2)).1.length=0:=by
 unfold decodeH;rw[if_neg]
 .rfl
 .rintro⟨h1,h2⟩;unfold Z0d at h1 h2;split at h2
  .simp only[Z3h]at h2;omega
  .simp only at h2;omega
def occP(p:Page):Int:=if p.K=0 then 0 else p.U
structure CIv (w:Work):Prop where
 L:(w.heap.W.length:Int)=w.heap.C.pw*w.heap.C.pg
 r:∀ a∈w.old++w.Q,4096<=a/\a+hlA w.heap.W a<4096+w.heap.W.length
 s:∀ a∈w.old++w.Q,∀ b∈w.old++w.Q,a<b->a+hlA w.heap.W a<b
 f:∀ i:Nat,i<w.heap.P.length->(w.heap.P.getD i X).K=0\/(i:Int)∈w.T->∀ a∈w.old++w.Q,a+hlA w.heap.W a<4096+i*w.heap.C.pw+occP (w.heap.P.getD i X)\/4096+i*w.heap.C.pw+w.heap.C.pw<=a
 z:∀ x∈w.old,(w.heap.P.getD (ofA w.heap.C x).1.toNat X).K=2\/hlA w.heap.W x+1<=w.heap.C.pw
def CIv.withWords{w:Work}(h:CIv w){l:List Int}(hl:l.length=w.heap.W.length)(hh:∀ a∈w.old++w.Q,hlA l a<=hlA w.heap.W a):CIv ⟨⟨w.heap.C,l,w.heap.P,w.heap.S,w.heap.B⟩,w.old,w.T,w.Q,w.D,w.rep⟩:=by
 refine⟨?_, ?_, ?_, ?_, ?_⟩
 .simp only[hl];exact h.L
 .intro a ha;have h1:=h.r a ha;have h2:=hh a ha;simp only[hl];omega
 .intro a ha b hb hab;have h1:=h.s a ha b hb hab;have h2:=hh a ha;simp only;omega
 .intro i hi hc a ha;have h1:=h.f i hi hc a ha;have h2:=hh a ha;simp only at *;omega
 .intro x hx;have h1:=h.z x hx;have h2:=hh x (Lo _ hx);simp only at *;omega
def CIv.keep{w:Work}(h:CIv w){r:Int}(hr:r∈w.old):CIv (w.keep r):=by
 have hm:∀ a,a∈w.old++(w.Q++[r])->a∈w.old++w.Q:=by
  intro a ha;simp only[Ls,LA]at ha ⊢;rcases ha with ha | ha | rfl
  .exact Ld ha
  .exact Lc ha
  .exact Ld hr
 exact⟨h.L,λa ha=>h.r a (hm a ha),λa ha b hb=>h.s a (hm a ha) b (hm b hb),λi hi hc a ha=>h.f i hi hc a (hm a ha),h.z⟩
def CIv.flip{w:Work}(h:CIv w)(i:Nat):CIv (w.flip i):=by
 have hk:∀ j,((Z0s w.heap.P i (Z0i w.heap.P i) (1-w.heap.S)).getD j X).K=(w.heap.P.getD j X).K/\((Z0s w.heap.P i (Z0i w.heap.P i) (1-w.heap.S)).getD j X).U=(w.heap.P.getD j X).U:=by
  intro j;by_cases hj:j<w.heap.P.length
  .rw[Z1u hj];split
   .exact⟨rfl,rfl⟩
   .exact⟨rfl,rfl⟩
  .rw[La,La,Lw (by rw[Z1j];omega),Lw oq];exact⟨rfl,rfl⟩
 refine⟨h.L,h.r,h.s, ?_, ?_⟩
 .intro j hj hc a ha;simp only[Work.flip,Z1j,occP,hk]at hj hc ha ⊢;exact h.f j hj hc a ha
 .intro x hx;simp only[Work.flip,hk];exact h.z x hx
def Z4s{w:Work}{n:Int}(hw:WkOk w)(hn:1<=n/\n<=w.heap.C.pw)(h:(w.place n).2.2=Y) :
  ∃ (i:Nat) (p:Page) (t:List Int),i<w.heap.P.length/\((w.heap.P.getD i X).K=0\/((i:Int)∈w.T/\(w.heap.P.getD i X).K=1))/\p.K=1/\p.U=occP (w.heap.P.getD i X)+n/\occP (w.heap.P.getD i X)+n<=w.heap.C.pw/\0<=occP (w.heap.P.getD i X)/\(∀ x∈t,x∈w.T\/x=(i:Int))/\(w.place n).2.1=4096+i*w.heap.C.pw+occP (w.heap.P.getD i X) /\
  (w.place n).1=⟨⟨w.heap.C,w.heap.W,w.heap.P.set i p,w.heap.S,w.heap.B⟩,w.old,t,w.Q,w.D,w.rep⟩:=by
 have hb:=validB_iff.1 hw.C;have hpl:=hw.pl;by_cases hf:Z2A w n
 .have e:w.place n=(⟨⟨w.heap.C,w.heap.W,Z1C w.heap.P (Z0o w).toNat n,w.heap.S,w.heap.B⟩,w.old,w.T,w.Q,w.D,w.rep⟩,4096+Z0o w*w.heap.C.pw+(w.heap.P.getD (Z0o w).toNat X).U,Y):=by rw[Work.place,if_pos hf]
  unfold Z2A at hf;have hm:=hw.tk _ (Z18 hf.1);have hu:=hw.us (Z0o w).toNat oq
  have hk:=hm.2.2;have hup:occP (w.heap.P.getD (Z0o w).toNat X)=(w.heap.P.getD (Z0o w).toNat X).U:=by rw[occP,if_neg oq]
  have hc:(((Z0o w).toNat:Nat):Int)=Z0o w:=by omega
  refine⟨(Z0o w).toNat,⟨(w.heap.P.getD (Z0o w).toNat X).K,(w.heap.P.getD (Z0o w).toNat X).S,(w.heap.P.getD (Z0o w).toNat X).U+n,(w.heap.P.getD (Z0o w).toNat X).N⟩,w.T,by omega,Lc ⟨by rw[hc];exact Z18 hf.1,hk⟩,hk,by rw[hup],by rw[hup];omega,by rw[hup];omega,λx hx=>Ld hx, ?_, ?_⟩
  .rw[e,hup,hc]
  .rw[e];rfl
 .by_cases hg:0<=Z0g w
  .have e:w.place n=(⟨⟨w.heap.C,w.heap.W,Z1C (Z1Z w) (Z0g w).toNat n,w.heap.S,w.heap.B⟩,w.old,w.T++[Z0g w],w.Q,w.D,w.rep⟩,4096+Z0g w*w.heap.C.pw,Y):=by rw[Work.place,if_neg hf,if_pos hg]
   obtain⟨f1,f2,f3,f4⟩:=Z2s (h:=⟨w.heap.C,w.heap.W,w.heap.P,1-w.heap.S,w.heap.B⟩) (by have:=hw.sp;simp only;omega) hg;obtain⟨g1,g2,g3⟩:=Z1m hg;simp only at f1 f2 f3 f4;have hi:(Z0g w).toNat<w.heap.P.length:=by unfold Z0g;omega
   have hk:(w.heap.P.getD (Z0g w).toNat X).K=0:=by
    have:=freeK_iff.1 g3 0 dd;simpa[Z0g]using this
   have hup:occP (w.heap.P.getD (Z0g w).toNat X)=0:=by rw[occP,if_pos hk]
   have hc:(((Z0g w).toNat:Nat):Int)=Z0g w:=by omega
   have hq:Z1C (Z1Z w) (Z0g w).toNat n=w.heap.P.set (Z0g w).toNat ⟨1,1-w.heap.S,n,0⟩:=by
    unfold Z1C;have e4:(Z1Z w).getD (Z0g w).toNat X=⟨1,1-w.heap.S,0,0⟩:=f4;rw[e4];have e1:Z1Z w=w.heap.P.set (Z0g w).toNat ⟨1,1-w.heap.S,0,0⟩:=by
     have:Z1Z w=tookP w.heap.P (Z0g w).toNat 1 ⟨1,1-w.heap.S,0,0⟩ ⟨0,0,0,0⟩:=f1;rw[this,Z8C hi]
    rw[e1,Xe];simp
   refine⟨(Z0g w).toNat,⟨1,1-w.heap.S,n,0⟩,w.T++[Z0g w],hi,Ld hk,rfl,by rw[hup];simp,by rw[hup];omega,by rw[hup];decide, ?_, ?_, ?_⟩
   .intro x hx;simp only[Ls,LA]at hx;rcases hx with hx | rfl
    .exact Ld hx
    .exact Lc hc.symm
   .rw[e,hup,hc];simp
   .rw[e,hq]
  .rw[Work.place,if_neg hf,if_neg hg]at h;simp at h
def Z17{i j pw:Int}(h:i<j)(hp:0<=pw):i*pw+pw<=j*pw:=by
 have:=LG (show i+1<=j by omega) hp;rw[LF,Int.one_mul]at this;exact this
def CIv.copy{w:Work}(hw:WkOk w)(h:CIv w){r n:Int}(hr:r∈w.old)(hn:n=hlA w.heap.W r+1)(hp:n<=w.heap.C.pw)(hc:(w.place n).2.2=Y):CIv ((w.place n).1.copy r (w.place n).2.1 n):=by
 have hlr:=Z0b w.heap.W r;obtain⟨i,p,t,h1,h2,h3,h4,h5,h6,h7,h8,e⟩:=Z4s hw ⟨by omega,hp⟩ hc;have hb:=validB_iff.1 hw.C;have hpl:=hw.pl;have hL:=h.L;have hio:(i:Int)*w.heap.C.pw+w.heap.C.pw<=w.heap.C.pw*w.heap.C.pg:=by
  have:=Z17 (i:=i) (j:=w.heap.C.pg) (pw:=w.heap.C.pw) oq oq;rw[Lj w.heap.C.pw];exact this
 have hi0:0<=(i:Int)*w.heap.C.pw:=Lt oq oq;rw[e,h8];generalize hu:occP (w.heap.P.getD i X)=u at *;generalize ha:4096+(i:Int)*w.heap.C.pw+u=at';have hrr:=h.r r (Lo _ hr);have hf:=h.f i h1 (by rcases h2 with h2 | h2;exact Ld h2;exact Lc h2.1);rw[hu]at hf;obtain⟨m1,m2,m3⟩:=Z5x (ws:=w.heap.W) (a:=at') (b:=r) (n:=n) oq oq oq;have hfr:=hf r (Lo _ hr);have hne:r≠at':=by omega
 have hsr:4096<=r/\r<4096+(moveA w.heap.W at' r n).1.length:=by omega
 have k1:∀ a∈w.old++w.Q,hlA (Z0L (moveA w.heap.W at' r n).1 r (4*at'+2)).1 a<=hlA w.heap.W a:=by
  intro a hA;have hfa:=hf a hA;have hla:=Z0b w.heap.W a;by_cases hk:a=r
  .subst hk;have:hlA (Z0L (moveA w.heap.W at' a n).1 a (4*at'+2)).1 a=0:=by
    unfold hlA;rw[Z1P hsr];exact ZhG at'
   omega
  .have:hlA (Z0L (moveA w.heap.W at' r n).1 r (4*at'+2)).1 a=hlA w.heap.W a:=by
    unfold hlA;rw[Z0v hsr hk,m3 a oq]
   omega
 have k2:hlA (Z0L (moveA w.heap.W at' r n).1 r (4*at'+2)).1 at'=n-1:=by
  have:hlA (Z0L (moveA w.heap.W at' r n).1 r (4*at'+2)).1 at'=hlA w.heap.W r:=by
   unfold hlA;rw[Z0v hsr (Ne.symm hne),m2]
  omega
 have hlen:(Z0L (moveA w.heap.W at' r n).1 r (4*at'+2)).1.length=w.heap.W.length:=by rw[Z2u hsr,m1]
 have hmem:∀ a,a∈w.old++(w.Q++[at'])->a∈w.old++w.Q\/a=at':=by
  intro a hA;simp only[Ls,LA]at hA ⊢;rcases hA with hA | hA | hA
  .exact Ld (Ld hA)
  .exact Ld (Lc hA)
  .exact Lc hA
 refine⟨?_, ?_, ?_, ?_, ?_⟩
 .simp only[Work.copy,hlen];exact hL
 .intro a hA;simp only[Work.copy,hlen]at hA ⊢;rcases hmem a hA with hA | rfl
  .have q1:=h.r a hA;have q2:=k1 a hA;omega
  .rw[k2];omega
 .intro a hA b hB hab;simp only[Work.copy]at hA hB ⊢;rcases hmem a hA with hA' | e1<;>rcases hmem b hB with hB' | e2
  .have q1:=h.s a hA' b hB' hab;have q2:=k1 a hA';omega
  .have q1:=hf a hA';have q2:=k1 a hA';omega
  .have q1:=hf b hB';have q2:=Z0b w.heap.W b;rw[e1,k2];omega
  .omega
 .intro j hj hcj a hA;simp only[Work.copy,Lx]at hj hcj hA ⊢;by_cases hij:i=j
  .subst hij;rw[Z0p h1,if_pos rfl];have hup:occP p=u+n:=by rw[occP,if_neg oq,h4]
   rw[hup];rcases hmem a hA with hA | rfl
   .have q1:=hf a hA;have q2:=k1 a hA;omega
   .rw[k2];omega
  .rw[Z0p h1,if_neg hij]at hcj ⊢;have hcj':(w.heap.P.getD j X).K=0\/(j:Int)∈w.T:=by
    rcases hcj with hcj | hcj
    .exact Ld hcj
    .rcases h7 _ hcj with q | q
     .exact Lc q
     .omega
   rcases hmem a hA with hA | rfl
   .have q1:=h.f j hj hcj' a hA;have q2:=k1 a hA;omega
   .rw[k2];have hus:0<=occP (w.heap.P.getD j X):=by
     have:=hw.us j hj;unfold occP;split<;>omega
    by_cases hlt:i<j
    .have:=Z17 (i:=i) (j:=j) (pw:=w.heap.C.pw) oq oq;omega
    .have:=Z17 (i:=j) (j:=i) (pw:=w.heap.C.pw) oq oq;omega
 .intro x hx;simp only[Work.copy]at hx ⊢;have q1:=h.z x hx;have q2:=k1 x (Lo _ hx);rw[Z0p h1];split
  .rename_i hxi;rw[<- hxi]at q1;rcases h2 with h2 | h2<;>omega
  .omega
structure CEx (w v:Work):Prop where
 c:v.heap.C=w.heap.C
 o:v.old=w.old
 q:∀ x∈w.Q,x∈v.Q
 l:∀ x∈w.Q,hlA v.heap.W x=hlA w.heap.W x
def CEx.rfl'(w:Work):CEx w w:=⟨rfl,rfl,λ_ h=>h,λ_ _=>rfl⟩
def CEx.trans{u v w:Work}(h1:CEx u v)(h2:CEx v w):CEx u w :=
 ⟨h2.c.trans h1.c,h2.o.trans h1.o,λx hx=>h2.q x (h1.q x hx),λx hx=>(h2.l x (h1.q x hx)).trans (h1.l x hx)⟩
def Z1N(w:Work)(r:Int):sizeH (hdW w r)=hlA w.heap.W r+1:=by
 have hv:Z0h (hdW w r)=Y:=Z28 _;rw[sizeH,if_pos hv];rfl
def Zli{w:Work}(hw:WkOk w)(h:CIv w){r n:Int}(hr:r∈w.old)(hq:r∉w.Q)(hn:n=hlA w.heap.W r+1)(hp:n<=w.heap.C.pw)(hc:(w.place n).2.2=Y):CEx w ((w.place n).1.copy r (w.place n).2.1 n):=by
 have hlr:=Z0b w.heap.W r;obtain⟨i,p,t,h1,h2,h3,h4,h5,h6,h7,h8,e⟩:=Z4s hw ⟨by omega,hp⟩ hc;have hb:=validB_iff.1 hw.C;have hpl:=hw.pl;have hL:=h.L;have hio:(i:Int)*w.heap.C.pw+w.heap.C.pw<=w.heap.C.pw*w.heap.C.pg:=by
  have:=Z17 (i:=i) (j:=w.heap.C.pg) (pw:=w.heap.C.pw) oq oq;rw[Lj w.heap.C.pw];exact this
 have hi0:0<=(i:Int)*w.heap.C.pw:=Lt oq oq;rw[e,h8];generalize hu:occP (w.heap.P.getD i X)=u at *;generalize ha:4096+(i:Int)*w.heap.C.pw+u=at';have hrr:=h.r r (Lo _ hr);have hf:=h.f i h1 (by rcases h2 with h2 | h2;exact Ld h2;exact Lc h2.1);rw[hu]at hf;obtain⟨m1,m2,m3⟩:=Z5x (ws:=w.heap.W) (a:=at') (b:=r) (n:=n) oq oq oq;have hsr:4096<=r/\r<4096+(moveA w.heap.W at' r n).1.length:=by omega
 refine⟨rfl,rfl,λx hx=>Lo _ hx, ?_⟩;intro x hx;have hfx:=hf x (LI _ hx);have hlx:=Z0b w.heap.W x;simp only[Work.copy];unfold hlA at *;rw[Z0v hsr (λq=>hq (q▸hx)),m3 x oq]
def Z4r{w:Work}(hw:WkOk w)(h:CIv w)(r:Int)(e:(w.fwd r).2.2=0):CIv (w.fwd r).1/\CEx w (w.fwd r).1:=by
 unfold Work.fwd at e ⊢;split at e
 .rename_i c1;rw[if_pos c1];exact⟨h,CEx.rfl' w⟩
 .rename_i c1;rw[if_neg c1];have c1':r∉w.Q:=λh=>c1 (Lc h);split at e
  .simp at e
  .rename_i c2;rw[if_neg c2];have c2':r∈w.old:=Ly.1 c2;split at e
   .rename_i c3;rw[if_pos c3];exact⟨h,CEx.rfl' w⟩
   .rename_i c3;rw[if_neg c3];split at e
    .simp at e
    .rename_i c4;rw[if_neg c4];split at e
     .rename_i c5;rw[if_pos c5];exact⟨h.keep c2',⟨rfl,rfl,λx hx=>Lo _ hx,λ_ _=>rfl⟩⟩
     .rename_i c5;rw[if_neg c5];split at e
      .rename_i c6;rw[if_pos c6];exact⟨(h.flip _).keep c2',⟨rfl,rfl,λx hx=>Lo _ hx,λ_ _=>rfl⟩⟩
      .rename_i c6;rw[if_neg c6];split at e
       .simp at e
       .rename_i c7;rw[if_neg c7];have c7':(w.place (sizeH (hdW w r))).2.2=Y:=by simpa using c7
        have hz:=h.z r c2';have hp:sizeH (hdW w r)<=w.heap.C.pw:=by
         rw[Z1N];rcases hz with hz | hz
         .exact absurd hz c6
         .exact hz
        exact⟨h.copy hw c2' (Z1N w r) hp c7',Zli hw h c2' c1' (Z1N w r) hp c7'⟩
def ZiL{w:Work}(hw:WkOk w)(h:CIv w){q j:Int}(hq:q∈w.Q)(hj:0<=j/\j<hlA w.heap.W q)(e:(w.fwd (loadA w.heap.W (q+1+j)).1).2.2=0):CIv (w.in1 (q+1+j))/\CEx w (w.in1 (q+1+j)):=by
 obtain⟨i1,x1⟩:=Z4r hw h _ e;have hq1:=x1.q q hq;have hl1:=x1.l q hq;have hr:=i1.r q (LI _ hq1);have hs:=i1.s q (LI _ hq1);have hin:4096<=q+1+j/\q+1+j<4096+(w.fwd (loadA w.heap.W (q+1+j)).1).1.heap.W.length:=by omega
 have hk:∀ a∈(w.fwd (loadA w.heap.W (q+1+j)).1).1.old++(w.fwd (loadA w.heap.W (q+1+j)).1).1.Q,hlA (Z0L (w.fwd (loadA w.heap.W (q+1+j)).1).1.heap.W (q+1+j) (w.fwd (loadA w.heap.W (q+1+j)).1).2.1).1 a=hlA (w.fwd (loadA w.heap.W (q+1+j)).1).1.heap.W a:=by
  intro a ha;unfold hlA;rw[Z0v hin];intro hc;have:=hs a ha oq;omega
 refine⟨i1.withWords (Z2u hin) (λa ha=>Int.le_of_eq (hk a ha)),x1.trans ⟨rfl,rfl,λ_ h=>h,λx hx=>hk x (LI _ hx)⟩⟩
def Z1Q(h:Header):∀ x∈Z03 h,0<=x/\x<h.length:=by
 unfold Z03;split
 .intro x hx;have:=Z4e h _ x hx;omega
 .simp
def Z7a{w:Work}(hw:WkOk w)(h:CIv w){q:Int}(hq:q∈w.Q){l:List Int}(hl:∀ x∈l,0<=x/\x<hlA w.heap.W q):∀ k,k<=l.length->(∀ j,j<k->innE w q l j=0)->CIv (innN w q l k)/\CEx w (innN w q l k)
 | 0,_,_=>⟨h,CEx.rfl' w⟩
 | k+1,hk,he=>by
  have ih:=Z7a hw h hq hl k oq (λj hj=>he j oq);have ok:=(Z43 hw q l k (λj hj=>he j oq)).1;have hx:=hl _ (getD_mem_iff.2 ⟨k,by omega,rfl⟩);have:=ZiL ok ih.1 (ih.2.q q hq) (j:=l.getD k X) ⟨hx.1,by rw[ih.2.l q hq];exact hx.2⟩ (he k oq);exact⟨this.1,ih.2.trans this.2⟩
def Z9v{w:Work}(hw:WkOk w)(h:CIv w)(e:(Z0z w).2.2=0):CIv (Z0z w).1/\CEx w (Z0z w).1:=by
 by_cases hs:w.D<w.Q.length
 .have hsc:=hw.sc;have hq:Z0U w∈w.Q:=getD_mem_iff.2 ⟨w.D.toNat,by omega,rfl⟩;unfold Z0z at e ⊢;rw[if_pos hs]at e ⊢;cases hb:(Le (Z0n w).length).find? (λk=>O (innE w (Z0U w) (Z0n w) k≠0))with
  | none =>
   have h0:∀ j,j<(Z0n w).length->innE w (Z0U w) (Z0n w) j=0:=λj hj=>by
    have:=Lr.1 hb j (Ln.2 hj);simpa using this
   obtain⟨k1,k2⟩:=Z7a hw h hq (l:=Z0n w) (Z1Q (hdW w (Z0U w))) (Z0n w).length (Lq _) h0;exact⟨⟨k1.L,k1.r,k1.s,k1.f,k1.z⟩,⟨k2.c,k2.o,k2.q,k2.l⟩⟩
  | some k =>
   simp only[hb]at e;have:=(Lm.1 hb).1;simp[e]at this
 .have e:Z0z w=(w,M,0):=by rw[Z0z,if_neg hs]
  rw[e];exact⟨h,CEx.rfl' w⟩
def Z7z{w:Work}(hw:WkOk w)(h:CIv w):∀ k,(∀ j,j<k->Z2I w j=M)->CIv (itW w k)/\CEx w (itW w k)
 | 0,_=>⟨h,CEx.rfl' w⟩
 | k+1,hh=>by
  have ih:=Z7z hw h k (λj hj=>hh j oq);have ok:=(Z4H hw k (λj hj=>hh j oq)).1;have hk:=hh k oq;simp only[Z2I,decide_eq_false_iff_not,not_or,Ly]at hk;have:=Z9v ok ih.1 hk.1;exact⟨this.1,ih.2.trans this.2⟩
def Zbq{w:Work}(hw:WkOk w)(h:CIv w)(e:(allF w).2=0):CIv (allF w).1/\CEx w (allF w).1:=by
 obtain⟨k,hb⟩:=Z3E hw;obtain⟨h1,h2,h3⟩:=Lm.1 hb;have h0:∀ j,j<k->Z2I w j=M:=λj hj=>by simpa using h3 j hj
 unfold allF at e ⊢;rw[hb]at e ⊢;simp only at e ⊢;split at e
 .rename_i c;rw[if_pos c];have i1:=Z7z hw h k h0;have i2:=Z9v (Z4H hw k h0).1 i1.1 c;exact⟨i2.1,i1.2.trans i2.2⟩
 .rename_i c;exact absurd e c
def Z5O{w:Work}{roots:List Int}(hw:WkOk w)(h:CIv w):∀ k,(∀ j,j<k->Z1k w roots j=0)->CIv (rootsN w roots k).1/\CEx w (rootsN w roots k).1
 | 0,_=>⟨h,CEx.rfl' w⟩
 | k+1,hh=>by
  have ih:=Z5O hw h k (λj hj=>hh j oq);have ok:=(Z3F (roots:=roots) hw k (λj hj=>hh j oq)).1;have:=Z4r ok ih.1 (roots.getD k X) (hh k oq);exact⟨this.1,ih.2.trans this.2⟩
def Z3J{w:Work}{roots:List Int}(hw:WkOk w)(h:CIv w)(e:(rootsF w roots).2.2=0):WkOk (rootsF w roots).1/\CIv (rootsF w roots).1/\CEx w (rootsF w roots).1/\(∀ x∈(rootsF w roots).2.1,0<=x/\x<=4294967296)/\(rootsF w roots).2.1.length=roots.length:=by
 unfold rootsF at e ⊢;cases hb:(Le roots.length).find? (λk=>O (Z1k w roots k≠0))with
 | none =>
  have h0:∀ j,j<roots.length->Z1k w roots j=0:=λj hj=>by
   have:=Lr.1 hb j (Ln.2 hj);simpa using this
  have k1:=Z3F (roots:=roots) hw roots.length h0;have k2:=Z5O (roots:=roots) hw h roots.length h0;exact⟨k1.1,k2.1,k2.2,k1.2.1,Z2B w roots _⟩
 | some k =>
  simp only[hb]at e;have:=(Lm.1 hb).1;simp[e]at this
def Z6q(sp:Int):∀ (l:List Page) (m:Nat),m<Z1i sp l->m<l.length/\(l.getD m X).K=3/\(l.getD m X).S=sp
 | [],m,h=>by simp[Z1i]at h
 | p::l,m,h=>by
  unfold Z1i at h;split at h
  .rename_i hp;cases m with
   | zero=>exact⟨by simp,hp⟩
   | succ m =>
    obtain⟨h1,h2⟩:=Z6q sp l m oq;exact⟨by simp;omega,by simpa using h2⟩
  .omega
def Z5l{c:Conf}{n:Int}(h:1<=need c n):n<=need c n*c.pw:=by
 unfold need at h ⊢;split at h
 .rename_i hc;rw[if_pos hc];have hb:=validB_iff.1 hc.1;split at h
  .omega
  .rename_i hd;rw[if_neg hd];have e:=L0 (n+c.pw-1) c.pw;have l:=LZ (n+c.pw-1) (b:=c.pw) oq;rw[Lj]at e;omega
 .omega
def Z7Z{h:Heap}(hp:Z02 h=Y){j:Nat}(hj:j<h.P.length)(hk:(h.P.getD j X).K=2) :
  1<=need h.C (h.P.getD j X).U/\∀ m:Nat,1<=m->(m:Int)<need h.C (h.P.getD j X).U->j+m<h.P.length/\(h.P.getD (j+m) X).K=3/\(h.P.getD (j+m) X).S=(h.P.getD j X).S:=by
 have hi:=properB_iff.1 hp;obtain⟨d,_,hc⟩:=ZjI oq hi.2.2.2.2.2 oq j oq hj;have ht:=hc.2.2.2.2.2.2.2.2.2.1 hk;refine⟨ht.1, ?_⟩;intro m h1 h2;obtain⟨g1,g2⟩:=Z6q (h.P.getD j X).S (h.P.drop (j+1)) (m-1) oq;have g3:j+m<h.P.length:=by simp at g1;omega
 refine⟨g3, ?_⟩;have:(h.P.drop (j+1)).getD (m-1) X=h.P.getD (j+m) X:=by
  rw[La,La,Lz,show j+1+(m-1)=j+m by omega]
 rw[this]at g2;exact g2
def ZbG{h:Heap}(hp:Z02 h=Y){j:Nat}(hj:j<h.P.length)(hk:(h.P.getD j X).K=1\/(h.P.getD j X).K=2):(j:Int)*h.C.pw+(h.P.getD j X).U<=h.C.pw*h.C.pg:=by
 have po:=Z06 hp;have pp:=Z0J hp hj;rcases hk with hk | hk
 .have:=Z17 (i:=j) (j:=h.C.pg) (pw:=h.C.pw) oq oq;rw[Lj h.C.pg]at this;omega
 .obtain⟨t1,t2⟩:=Z7Z hp hj hk;have nu:=Z5l t1;have hl:(j:Int)+need h.C (h.P.getD j X).U<=h.C.pg:=by
   by_cases h1:need h.C (h.P.getD j X).U=1
   .omega
   .have:=(t2 (need h.C (h.P.getD j X).U-1).toNat oq oq).1;omega
  have:=LG hl (show 0<=h.C.pw by omega);rw[LF,Lj h.C.pg]at this;omega
def Z50{h:Heap}(hp:Z02 h=Y){i j:Nat}(hij:i<j)(hj:j<h.P.length)(hk:(h.P.getD i X).K=1\/(h.P.getD i X).K=2)(hk':(h.P.getD j X).K≠3):(i:Int)*h.C.pw+(h.P.getD i X).U<=j*h.C.pw:=by
 have po:=Z06 hp;have pp:=Z0J hp (show i<h.P.length by omega);rcases hk with hk | hk
 .have:=Z17 (i:=i) (j:=j) (pw:=h.C.pw) oq oq;omega
 .obtain⟨t1,t2⟩:=Z7Z hp (show i<h.P.length by omega) hk;have nu:=Z5l t1;have hl:(i:Int)+need h.C (h.P.getD i X).U<=j:=by
   by_cases h1:(i:Int)+need h.C (h.P.getD i X).U<=j
   .exact h1
   .have:=(t2 (j-i) oq oq).2;rw[show i+(j-i)=j by omega]at this;exact absurd this.1 hk'
  have:=LG hl (show 0<=h.C.pw by omega);rw[LF]at this;omega
def Z8L{c:Conf}{i o:Int}(hv:Z07 c=Y)(h1:0<=i/\i<c.pg)(h2:0<=o/\o<c.pw):ofA c (4096+(i*c.pw+o))=(i,o,0):=by
 have hb:=validB_iff.1 hv;have hs:=Z17 (i:=i) (j:=c.pg) (pw:=c.pw) h1.2 oq;have h0:0<=i*c.pw:=Lt h1.1 oq;rw[Lj c.pg]at hs;unfold ofA;rw[if_pos hv,if_pos oq,show 4096+(i*c.pw+o)-4096=o+i*c.pw by omega,Int.add_mul_ediv_right _ _ oq,Int.add_mul_emod_self_right,Int.ediv_eq_zero_of_lt h2.1 h2.2,Int.emod_eq_of_lt h2.1 h2.2];simp
structure OnP (h:Heap) (j:Nat) (a:Int):Prop where
 k:(h.P.getD j X).K=1\/(h.P.getD j X).K=2
 lo:4096+j*h.C.pw<=a
 hi:a<4096+j*h.C.pw+h.C.pw
 of:(ofA h.C a).1=j
 e:a+hlA h.W a<4096+j*h.C.pw+(h.P.getD j X).U
 z:(h.P.getD j X).K=2\/hlA h.W a+1<=h.C.pw
 at':(atH h a).2=0
def ZgD{h:Heap}{j:Nat}(hp:Z02 h=Y)(hj:j<h.P.length)(hk:(h.P.getD j X).K=1\/(h.P.getD j X).K=2):∀ (f:Nat) (o:Int) (l:List Int),0<=o->((h.P.getD j X).K=2->o=0)->Z3o h j f o=Lb l ->
  (∀ a∈l,OnP h j a/\4096+j*h.C.pw+o<=a)/\l.Pairwise (λa b=>a+hlA h.W a<b)
 | 0,o,l,_,_,e=>by simp[Z3o]at e;subst e;simp
 | f+1,o,l,h0,h2,e=>by
  have po:=Z06 hp;have pp:=Z0J hp hj;unfold Z3o at e;have hpg:pg h (j:Int)=h.P.getD j X:=by simp[pg]
  rw[hpg]at e;split at e
  .rename_i ho;have hop:o<h.C.pw:=by
    rcases hk with hk | hk
    .omega
    .have:=h2 hk;omega
   have ea:adr h j o=4096+(j*h.C.pw+o):=by
    unfold adr address;rw[if_pos po.1,if_pos (inB_iff.2 ⟨by omega,by omega,h0,hop⟩)]
   have eo:=Z8L (c:=h.C) (i:=j) (o:=o) po.1 oq ⟨h0,hop⟩;split at e
   .rename_i hat
    have hat':=hat
    rw[ea]at hat';have hsz:sizeH (decodeH (loadA h.W (4096+(j*h.C.pw+o))).1).1=hlA h.W (4096+(j*h.C.pw+o))+1:=by
     rw[sizeH,if_pos (Z28 _)];rfl
    have hle:=Z0b h.W (4096+(j*h.C.pw+o));have key:((h.P.getD j X).K=1->o+(hlA h.W (4096+(j*h.C.pw+o))+1)<=(h.P.getD j X).U)/\((h.P.getD j X).K=2->hlA h.W (4096+(j*h.C.pw+o))+1=(h.P.getD j X).U)/\sizeH (atH h (4096+(j*h.C.pw+o))).1=hlA h.W (4096+(j*h.C.pw+o))+1:=by
     unfold atH at hat' ⊢;rw[if_pos hp]at hat' ⊢;simp only[eo,hsz,if_true,L1]at hat' ⊢;split at hat'
     .rename_i g1;split at hat'
      .simp at hat'
      .rename_i g2;rw[if_pos g1,if_neg g2];refine⟨λhk1=>?_,λhk2=>?_,hsz⟩
       .omega
       .omega
     .simp at hat'
    have hon:OnP h j (adr h j o):=by
     refine⟨hk, ?_, ?_, ?_, ?_, ?_,hat⟩
     .rw[ea];omega
     .rw[ea];omega
     .rw[ea,eo]
     .rw[ea];rcases hk with hk | hk
      .have:=key.1 hk;omega
      .have:=key.2.1 hk;have:=h2 hk;omega
     .rw[ea];rcases hk with hk | hk
      .have:=key.1 hk;omega
      .exact Ld hk
    split at e
    .cases e;simp only[LA,Xc,Xb,List.Pairwise.nil];refine⟨?_,by simp⟩;rintro a rfl;exact⟨hon,by rw[ea];omega⟩
    .rename_i hk2;rw[Option.map_eq_some_iff]at e;obtain⟨m,hm,rfl⟩:=e;rw[ea,key.2.2]at hm;obtain⟨i1,i2⟩:=ZgD hp hj hk f _ m oq (λq=>absurd q hk2) hm;constructor
     .intro a ha;rcases LQ.1 ha with rfl | ha
      .exact⟨hon,by rw[ea];omega⟩
      .have:=i1 a ha;exact⟨this.1,by omega⟩
     .rw[Xc];refine⟨λb hb=>?_,i2⟩;have:=(i1 b hb).2;rw[ea];omega
   .cases e
  .cases e;simp
def ZaG{h:Heap}(hp:Z02 h=Y):∀ (f i:Nat),i+f=h.P.length->(Z0Q h f i).1.Pairwise (λa b=>a+hlA h.W a<b)/\∀ a∈(Z0Q h f i).1,∃ j,i<=j/\j<h.P.length/\OnP h j a
 | 0,i,_=>by simp[Z0Q]
 | f+1,i,hf=>by
  have ih:=ZaG hp f (i+1) oq;have hpg:(Z09 h i).1.Pairwise (λa b=>a+hlA h.W a<b)/\∀ a∈(Z09 h i).1,OnP h i a:=by
   unfold Z09;rw[if_pos hp,if_pos oq];have hg:pg h (i:Int)=h.P.getD i X:=by simp[pg]
   rw[hg];split
   .simp
   .rename_i hk;cases hw:Z3o h i 256 0 with
    | none=>simp
    | some l =>
     have pp:=Z0J hp (show i<h.P.length by omega);obtain⟨w1,w2⟩:=ZgD hp (show i<h.P.length by omega) oq 256 0 l oq (λ_=>rfl) hw;exact⟨w2,λa ha=>(w1 a ha).1⟩
  unfold Z0Q;split
  .split
   .simp only;constructor
    .rw[List.pairwise_append];refine⟨hpg.1,ih.1,λa ha b hb=>?_⟩;have o1:=hpg.2 a ha;obtain⟨j,j1,j2,o2⟩:=ih.2 b hb;have:=Z50 hp (show i<j by omega) j2 o1.k (by have:=o2.k;omega);have:=o1.e;have:=o2.lo;omega
    .intro a ha;rcases Ls.1 ha with ha | ha
     .exact⟨i,by omega,by omega,hpg.2 a ha⟩
     .obtain⟨j,j1,j2,o2⟩:=ih.2 a ha;exact⟨j,by omega,j2,o2⟩
   .simp
  .simp
def Z93{h:Heap}(hp:Z02 h=Y):(∀ a∈(Z05 h).1,∃ j,j<h.P.length/\OnP h j a)/\∀ a∈(Z05 h).1,∀ b∈(Z05 h).1,a<b->a+hlA h.W a<b:=by
 have hs:=ZaG hp h.P.length 0 oq;have e:Z10 h=Z0Q h h.P.length 0:=by rw[Z10,if_pos hp]
 rw[<- e]at hs;have h1:∀ a∈(Z05 h).1,∃ j,j<h.P.length/\OnP h j a:=by
  intro a ha;obtain⟨j,_,j2,o⟩:=hs.2 a (List.mem_filter.1 ha).1;exact⟨j,j2,o⟩
 refine⟨h1, ?_⟩;have hpw:(Z05 h).1.Pairwise (λa b=>a+hlA h.W a<b):=List.Pairwise.filter _ hs.1;intro a ha b hb hab;obtain⟨i,hi,ei⟩:=LR.1 ha;obtain⟨k,hk,ek⟩:=LR.1 hb;have hlb:=Z0b h.W b;rcases Nat.lt_trichotomy i k with q | q | q
 .have:=Xd.1 hpw i k hi hk q;rw[ei,ek]at this;exact this
 .subst q;omega
 .have:=Xd.1 hpw k i hk hi q;rw[ei,ek]at this;omega
def Z34{h:Heap}(hp:Z02 h=Y):CIv (beginW h):=by
 have po:=Z06 hp;have hs:=Z93 hp;have hq:∀ j,((h.P.map (begQ (1-h.S))).getD j X).K=(h.P.getD j X).K/\((h.P.map (begQ (1-h.S))).getD j X).U=(h.P.getD j X).U:=by
  intro j;by_cases hj:j<h.P.length
  .have:(h.P.map (begQ (1-h.S))).getD j X=begQ (1-h.S) (h.P.getD j X):=by simp[La,hj]
   rw[this,begQ];split
   .exact⟨rfl,rfl⟩
   .exact⟨rfl,rfl⟩
  .rw[La,La,Lw qo,Lw oq];exact⟨rfl,rfl⟩
 refine⟨po.2.2.2.2.2.1, ?_, ?_, ?_, ?_⟩
 .intro a ha;simp only[beginW,LK]at ha ⊢;obtain⟨j,j1,o⟩:=hs.1 a ha;have h1:=o.lo;have h2:=o.e;have h3:=ZbG hp j1 o.k;have h4:0<=(j:Int)*h.C.pw:=Lt oq oq;have h5:=po.2.2.2.2.2.1;omega
 .intro a ha b hb hab;simp only[beginW,LK]at ha hb ⊢;exact hs.2 a ha b hb hab
 .intro i hi hc a ha;simp only[beginW,LK,Li,Xb,or_false]at hi hc ha ⊢;rw[(hq i).1]at hc;have hoc:occP ((h.P.map (begQ (1-h.S))).getD i X)=0:=by rw[occP,(hq i).1,if_pos hc]
  rw[hoc];obtain⟨j,j1,o⟩:=hs.1 a ha;have hk:=o.k;have hne:i≠j:=by rintro rfl;omega
  by_cases hlt:i<j
  .have:=Z17 (i:=i) (j:=j) (pw:=h.C.pw) oq oq;have:=o.lo;omega
  .have:=Z50 hp (show j<i by omega) hi hk oq;have:=o.e;omega
 .intro x hx;simp only[beginW]at hx ⊢;obtain⟨j,j1,o⟩:=hs.1 x hx;rw[o.of,L1,(hq j).1];exact o.z
def Z38{h:Heap}(hw:WOk h.W)(hp:Z02 h=Y):WkOk (beginW h):=by
 have po:=Z06 hp;have ho:=Z23 h;have hr:=Z2N h;have hus:∀ j,j<h.P.length->0<=((h.P.map (begQ (1-h.S))).getD j X).U/\((h.P.map (begQ (1-h.S))).getD j X).U<=1024:=by
  intro j hj;have pp:=Z0J hp hj;have:(h.P.map (begQ (1-h.S))).getD j X=begQ (1-h.S) (h.P.getD j X):=by simp[La,hj]
  rw[this,begQ];split
  .simp only;omega
  .omega
 refine⟨hw,po.2.2.2.2.2.2.1,po.1,by simp only[beginW,Li];exact po.2.2.2.2.2.2.2.1,po.2.2.2.2.2.2.2.2,by simp only[beginW];omega,hr,by simp[beginW],by simp[beginW],by simp[beginW],by simpa only[beginW,Li]using hus, ?_,by simp[beginW],by simp[beginW],by simp[beginW],by simp[beginW]⟩;simp only[beginW,muW,List.length_nil];have h1:Zd8 (Z05 h).1 []<=(Z05 h).1.length:=List.length_filter_le _ _;have h2:∀ l:List Page,(∀ p∈l,Zby h.C.pw p<=64)->Z9Z h.C.pw l<=64*l.length:=by
  intro l;induction l with
  | nil=>intro _;simp[Z9Z]
  | cons p l ih =>
   intro hl;have:=ih λq hq=>hl q (List.mem_cons_of_mem _ hq);have:=hl p (List.mem_cons_self);simp only[Z9Z,List.map_cons,List.sum_cons,L7]at *;omega
 have h3:=h2 (h.P.map (begQ (1-h.S))) (by
  intro p hp';obtain⟨j,hj,e⟩:=LR.1 hp';have:=hus j (by simpa using hj);rw[show(h.P.map (begQ (1-h.S))).getD j X=p by simp only[La,Lk hj,e];rfl]at this;unfold Zby;split<;>omega)
 simp only[Li]at h3;omega
structure PgOk (c:Conf) (p:Page):Prop where
 s:0<=p.S/\p.S<=1
 n:0<=p.N/\p.N<=2147483647
 k:0<=p.K/\p.K<=3
 k0:p.K=0->p.S=0/\p.U=0/\p.N=0
 k1:p.K=1->0<=p.U/\p.U<=c.pw
 k3:p.K=3->p.U=0/\p.N=0
structure PT (c:Conf) (l:List Page):Prop where
 b:∀ i,i<l.length->PgOk c (l.getD i X)
 lg:∀ i,i<l.length->(l.getD i X).K=2->1<=need c (l.getD i X).U/\∀ m:Nat,1<=m->(m:Int)<need c (l.getD i X).U->i+m<l.length/\(l.getD (i+m) X).K=3/\(l.getD (i+m) X).S=(l.getD i X).S
 tl:∀ i,i<l.length->(l.getD i X).K=3->∃ j,j<i/\(l.getD j X).K=2/\(i:Int)<j+need c (l.getD j X).U
def Z5n(c:Conf)(l:List Page):Nat->Int
 | 0=>0
 | i+1=>rdue c l i (Z5n c l i)
def ZiX{c:Conf}{l:List Page}:∀ {f i:Nat},l.length<=i+f->(rpB c l f i (Z5n c l i)=Y↔∀ j,i<=j->j<l.length->rchk c l j (Z5n c l j))
 | 0,i,h=>by
  simp only[rpB,true_iff];intro j h1 h2;omega
 | f+1,i,h=>by
  unfold rpB;by_cases hi:i<l.length
  .rw[if_pos hi,LY,decide_eq_true_eq,show rdue c l i (Z5n c l i)=Z5n c l (i+1)from rfl,ZiX (f:=f) (i:=i+1) oq];constructor
   .rintro⟨h1,h2⟩ j h3 h4;by_cases hj:j=i
    .subst hj;exact h1
    .exact h2 j oq h4
   .intro hh;exact⟨hh i (Lq _) hi,λj h3 h4=>hh j oq h4⟩
  .rw[if_neg hi];simp only[true_iff];intro j h1 h2;omega
def Z8I{c:Conf}{l:List Page}:∀ i,0<=Z5n c l i->0<Z5n c l i->∃ j,j<i/\(l.getD j X).K=2/\Z5n c l i=j+need c (l.getD j X).U-i
 | 0,_,h=>by simp[Z5n]at h
 | i+1,h0,h=>by
  simp only[Z5n,rdue]at h0 h ⊢;split at h
  .rename_i hk;refine⟨i,by omega,hk, ?_⟩;rw[if_pos hk];omega
  .rename_i hk;have h1:1<Z5n c l i:=by omega
   obtain⟨j,j1,j2,j3⟩:=Z8I (c:=c) (l:=l) i oq oq;refine⟨j,by omega,j2, ?_⟩;rw[if_neg hk];omega
def ZaD(sp:Int):∀ (l:List Page) (k:Nat),(∀ m,m<k->m<l.length/\(l.getD m X).K=3/\(l.getD m X).S=sp)->k<=Z1i sp l
 | _,0,_=>Nat.zero_le _
 | [],k+1,h=>by have:=(h 0 oq).1;simp at this
 | p::l,k+1,h=>by
  have h0:=(h 0 oq).2;simp only[List.getD_cons_zero]at h0;rw[Z1i,if_pos h0];have:=ZaD sp l k λm hm=>by
   have:=h (m+1) oq;simpa using this
  omega
def PT.due{c:Conf}{l:List Page}(h:PT c l){i:Nat}(hi:i<l.length)(hk:(l.getD i X).K=2):∀ m:Nat,(m:Int)<need c (l.getD i X).U->Z5n c l (i+1+m)=need c (l.getD i X).U-1-m
 | 0,hm=>by
  show rdue c l i (Z5n c l i)=_;rw[rdue,if_pos hk];omega
 | m+1,hm=>by
  have ih:=h.due hi hk m oq;have ht:=((h.lg i hi hk).2 (m+1) oq hm).2.1;show rdue c l (i+1+m) (Z5n c l (i+1+m))=_;rw[rdue,show i+1+m=i+(m+1) by omega,if_neg (by rw[ht];decide),show i+(m+1)=i+1+m by omega,ih];omega
def Z7Y{c:Conf}{l:List Page}(h:∀ i,i<l.length->(l.getD i X).K=2->1<=need c (l.getD i X).U):∀ i,i<=l.length->0<=Z5n c l i
 | 0,_=>Int.le_refl _
 | i+1,hi=>by
  have ih:=Z7Y h i oq;simp only[Z5n,rdue];split
  .rename_i hk;have:=h i oq hk;omega
  .omega
def ZpD{c:Conf}{l:List Page}:rpB c l l.length 0 0=Y↔PT c l:=by
 have e:=ZiX (c:=c) (l:=l) (f:=l.length) (i:=0) oq;rw[show Z5n c l 0=0 from rfl]at e;rw[e];constructor
 .intro h;have hb:∀ i,i<l.length->PgOk c (l.getD i X):=by
   intro i hi;have q:=h i oq hi;unfold rchk at q;exact⟨⟨q.2.1,q.2.2.1⟩,⟨q.2.2.2.1,q.2.2.2.2.1⟩,⟨q.2.2.2.2.2.1,q.2.2.2.2.2.2.1⟩,q.2.2.2.2.2.2.2.1,q.2.2.2.2.2.2.2.2.1,q.2.2.2.2.2.2.2.2.2.2⟩
  have hl:∀ i,i<l.length->(l.getD i X).K=2->1<=need c (l.getD i X).U/\∀ m:Nat,1<=m->(m:Int)<need c (l.getD i X).U->i+m<l.length/\(l.getD (i+m) X).K=3/\(l.getD (i+m) X).S=(l.getD i X).S:=by
   intro i hi hk;have q:=(h i oq hi).2.2.2.2.2.2.2.2.2.1 hk;refine⟨q.1, ?_⟩;intro m h1 h2;obtain⟨g1,g2⟩:=Z6q (l.getD i X).S (l.drop (i+1)) (m-1) oq;have g3:i+m<l.length:=by simp at g1;omega
   have:(l.drop (i+1)).getD (m-1) X=l.getD (i+m) X:=by
    rw[La,La,Lz,show i+1+(m-1)=i+m by omega]
   rw[this]at g2;exact⟨g3,g2⟩
  refine⟨hb,hl, ?_⟩;intro i hi hk;have q:=(h i oq hi).1.1 hk;obtain⟨j,j1,j2,j3⟩:=Z8I (c:=c) (l:=l) i oq q;exact⟨j,j1,j2,by omega⟩
 .intro h j _ hj;have b:=h.b j hj;have hd:=Z7Y (λi hi hk=>(h.lg i hi hk).1) j oq;refine⟨⟨?_, ?_⟩,b.s.1,b.s.2,b.n.1,b.n.2,b.k.1,b.k.2,b.k0,b.k1, ?_,b.k3⟩
  .intro hk;obtain⟨i,i1,i2,i3⟩:=h.tl j hj hk;have:=h.due (show i<l.length by omega) i2 (j-i-1) oq;rw[show i+1+(j-i-1)=j by omega]at this;omega
  .intro hp;obtain⟨i,i1,i2,i3⟩:=Z8I j hd hp;have:=((h.lg i oq i2).2 (j-i) oq oq).2.1;rw[show i+(j-i)=j by omega]at this;exact this
  .intro hk;have q:=h.lg j hj hk;refine⟨q.1, ?_⟩;have:=ZaD (l.getD j X).S (l.drop (j+1)) (need c (l.getD j X).U-1).toNat λm hm=>by
    have r:=q.2 (m+1) oq oq;have e2:(l.drop (j+1)).getD m X=l.getD (j+(m+1)) X:=by
     rw[La,La,Lz,show j+1+m=j+(m+1) by omega]
    rw[e2];exact⟨by simp;omega,r.2⟩
   omega
def Z1t{h:Heap}:Z02 h=Y↔Z07 h.C=Y/\(h.W.length:Int)=h.C.pw*h.C.pg/\(h.P.length:Int)=h.C.pg/\(h.S=0\/h.S=1) /\
  (h.B=-1\/(0<=h.B/\h.B<h.P.length/\(h.P.getD h.B.toNat X).K=1))/\PT h.C h.P:=by
 rw[properB_iff,ZpD]
def PT.setPage{c:Conf}{l:List Page}(h:PT c l){i:Nat}(hi:i<l.length)(hk:(l.getD i X).K=0\/(l.getD i X).K=1){p:Page}(hp:PgOk c p)(hpk:p.K=0\/p.K=1):PT c (l.set i p):=by
 refine⟨?_, ?_, ?_⟩
 .intro j hj;rw[Lx]at hj;rw[Z0p hi];split
  .exact hp
  .exact h.b j hj
 .intro j hj hk2;rw[Lx]at hj;rw[Z0p hi]at hk2 ⊢;by_cases hij:i=j
  .rw[if_pos hij]at hk2;omega
  .rw[if_neg hij]at hk2 ⊢;have q:=h.lg j hj hk2;refine⟨q.1,λm h1 h2=>?_⟩;have r:=q.2 m h1 h2;rw[Lx,Z0p hi,if_neg (by rintro rfl;omega)];exact r
 .intro j hj hk3;rw[Lx]at hj;rw[Z0p hi]at hk3;by_cases hij:i=j
  .rw[if_pos hij]at hk3;omega
  .rw[if_neg hij]at hk3;obtain⟨a,a1,a2,a3⟩:=h.tl j hj hk3;refine⟨a,a1, ?_⟩;rw[Z0p hi,if_neg (by rintro rfl;omega)];exact⟨a2,a3⟩
def PT.mapPages{c:Conf}{l:List Page}(h:PT c l)(f:Page->Page)(h1:∀ p,PgOk c p->PgOk c (f p))(h2:∀ p,PgOk c p->(f p).K=2->p.K=2/\(f p).U=p.U)
  (h3:∀ p,PgOk c p->(f p).K=3->p.K=3) (h4:∀ p q,PgOk c p->PgOk c q->p.K=2->q.K=3->q.S=p.S->((f p).K=2↔(f q).K=3)/\((f p).K=2->(f q).S=(f p).S)):PT c (l.map f):=by
 have hg:∀ j,j<l.length->(l.map f).getD j X=f (l.getD j X):=by
  intro j hj;simp[La,hj]
 refine⟨?_, ?_, ?_⟩
 .intro j hj;rw[Li]at hj;rw[hg j hj];exact h1 _ (h.b j hj)
 .intro j hj hk;rw[Li]at hj;rw[hg j hj]at hk ⊢;have q:=h2 _ (h.b j hj) hk;have r:=h.lg j hj q.1;rw[q.2];refine⟨r.1,λm m1 m2=>?_⟩;have s:=r.2 m m1 m2;have t:=h4 _ _ (h.b j hj) (h.b (j+m) s.1) q.1 s.2.1 s.2.2;rw[Li,hg _ s.1];exact⟨s.1,t.1.1 hk,t.2 hk⟩
 .intro j hj hk;rw[Li]at hj;rw[hg j hj]at hk;have q:=h3 _ (h.b j hj) hk;obtain⟨a,a1,a2,a3⟩:=h.tl j hj q;have ha:a<l.length:=by omega
  have s:=(h.lg a ha a2).2 (j-a) oq oq;rw[show a+(j-a)=j by omega]at s;have t:=h4 _ _ (h.b a ha) (h.b j hj) a2 s.2.1 s.2.2;have hk2:=t.1.2 hk;refine⟨a,a1, ?_⟩;rw[hg a ha];exact⟨hk2,by rw[(h2 _ (h.b a ha) hk2).2];exact a3⟩
def Z7j{l:List Page}{i k:Nat}{p q:Page}(hk:1<=k)(h:i+k<=l.length)(j:Nat):(tookP l i k p q).getD j X=if j=i then p else if i<j/\j<i+k then q else l.getD j X:=by
 have hl:(wr l (Lp k q) i k).length=l.length:=Z4A (by simpa using h) pq;unfold tookP;rw[La,List.getElem?_set];by_cases hj:j=i
 .subst hj;rw[if_pos rfl,if_pos rfl,if_pos oq];rfl
 .rw[if_neg (λe=>hj e.symm),if_neg hj,Z9P (by simpa using h) pq];by_cases h1:j<i
  .rw[if_pos h1,if_neg oq,La]
  .rw[if_neg h1];by_cases h2:j<i+k
   .rw[if_pos h2,if_pos oq];simp[show j-i<k by omega]
   .rw[if_neg h2,if_neg oq,La]
def PT.took{c:Conf}{l:List Page}(h:PT c l){i k:Nat}{n sp:Int}(hk:1<=k)(hik:i+k<=l.length)(hf:∀ j,j<k->(l.getD (i+j) X).K=0)(hn:need c n=k)(hs:sp=0\/sp=1):PT c (tookP l i k ⟨2,sp,n,0⟩ ⟨3,sp,0,0⟩):=by
 have hg:=Z7j (p:=⟨2,sp,n,0⟩) (q:=⟨3,sp,0,0⟩) hk hik;have hl:(tookP l i k ⟨2,sp,n,0⟩ ⟨3,sp,0,0⟩).length=l.length:=Z6x hik;have hf':∀ j,i<=j->j<i+k->(l.getD j X).K=0:=λj h1 h2=>by
  have:=hf (j-i) oq;rwa [show i+(j-i)=j by omega]at this
 refine⟨?_, ?_, ?_⟩
 .intro j hj;rw[hl]at hj;rw[hg];split
  .exact⟨by simp only;omega,by simp,by simp,by simp,by simp,by simp⟩
  .split
   .exact⟨by simp only;omega,by simp,by simp,by simp,by simp,by simp⟩
   .exact h.b j hj
 .intro j hj hk2;rw[hl]at hj ⊢;simp only[hg]at hk2 ⊢;by_cases hji:j=i
  .subst hji;simp only[if_pos]at hk2 ⊢;rw[hn];refine⟨by omega,λm h1 h2=>⟨by omega, ?_⟩⟩;rw[if_neg oq,if_pos oq];exact⟨rfl,rfl⟩
  .rw[if_neg hji]at hk2 ⊢;by_cases hr:i<j/\j<i+k
   .rw[if_pos hr]at hk2;simp at hk2
   .rw[if_neg hr]at hk2 ⊢;have q:=h.lg j hj hk2;refine⟨q.1,λm h1 h2=>?_⟩;have r:=q.2 m h1 h2;have hne:¬ (i<=j+m/\j+m<i+k):=λhc=>by
     have:=hf' (j+m) hc.1 hc.2;omega
    rw[if_neg oq,if_neg oq];exact r
 .intro j hj hk3;rw[hl]at hj;simp only[hg]at hk3 ⊢;by_cases hji:j=i
  .rw[if_pos hji]at hk3;simp at hk3
  .rw[if_neg hji]at hk3;by_cases hr:i<j/\j<i+k
   .refine⟨i,hr.1, ?_⟩;simp only[if_pos];refine⟨trivial, ?_⟩;rw[hn];omega
   .rw[if_neg hr]at hk3;obtain⟨a,a1,a2,a3⟩:=h.tl j hj hk3;have hne:¬ (i<=a/\a<i+k):=λhc=>by
     have:=hf' a hc.1 hc.2;omega
    refine⟨a,a1, ?_⟩;rw[if_neg oq,if_neg oq];exact⟨a2,a3⟩
def Z3z{l:List Page}{i:Nat}{n:Int}:Z1C l i n=l.set i ⟨(l.getD i X).K,(l.getD i X).S,(l.getD i X).U+n,(l.getD i X).N⟩:=rfl
def Z30{h:Heap}(hs:h.S=0\/h.S=1)(hf:0<=first h.P 1)(n:Int):Z1C (Z3i h) (first h.P 1).toNat n=h.P.set (first h.P 1).toNat ⟨1,h.S,n,0⟩/\(h.P.getD (first h.P 1).toNat X).K=0/\(first h.P 1).toNat<h.P.length:=by
 obtain⟨f1,f2,f3,f4⟩:=Z2s hs hf;obtain⟨g1,g2,g3⟩:=Z1m hf;have hi:(first h.P 1).toNat<h.P.length:=by omega
 refine⟨?_, ?_,hi⟩
 .rw[Z3z,f4,f1,Z8C hi,Xe];simp
 .have:=freeK_iff.1 g3 0 dd;simpa using this
structure PutOk (h:Heap) (n:Int) (h':Heap) (a:Int):Prop where
 pr:Z02 h'=Y
 c:h'.C=h.C
 w:h'.W=h.W
 l:h'.P.length=h.P.length
 sp:h'.S=h.S
 pin:∀ p∈h'.P,p.N=0\/∃ q∈h.P,p.N=q.N
 lo:4096<=a
 hi:a+n<=4096+h.W.length
def getD_in{l:List Page}{i:Nat}(h:i<l.length):l.getD i X∈l:=by
 rw[La,Lk h];exact List.getElem_mem h
def ZgV{h:Heap}{n:Int}(hp:Z02 h=Y)(hn:1<=n/\n<=h.C.pw)(e:(Z0j h n).2.2=Y):PutOk h n (Z0j h n).1 (Z0j h n).2.1:=by
 have hp':=hp;rw[Z1t]at hp;obtain⟨p1,p2,p3,p4,p5,p6⟩:=hp;have hb:=validB_iff.1 p1;by_cases hf:Z6S h n
 .have e7:Z0j h n=(⟨h.C,h.W,Z1C h.P h.B.toNat n,h.S,h.B⟩,4096+h.B*h.C.pw+(h.P.getD h.B.toNat X).U,Y):=by rw[Z0j,if_pos hf]
  unfold Z6S at hf;have hbi:h.B.toNat<h.P.length:=by omega
  have hk:(h.P.getD h.B.toNat X).K=1:=by omega
  have ok:=p6.b h.B.toNat hbi;have u:=ok.k1 hk;have ha:=Z2T p1 (i:=h.B) oq oq;have hio:=Z17 (i:=h.B) (j:=h.C.pg) (pw:=h.C.pw) oq oq;rw[Lj h.C.pg]at hio;rw[e7];refine⟨?_,rfl,rfl,by simp[Z1C],rfl, ?_,by simp only;omega,by simp only;omega⟩
  .rw[Z1t];refine⟨p1,p2,by simp[Z1C,p3],p4, ?_, ?_⟩
   .refine Lc ⟨hf.1,by simp[Z1C];omega, ?_⟩;show((Z1C h.P h.B.toNat n).getD h.B.toNat X).K=1;rw[Z3z,Z0p hbi,if_pos rfl];exact hk
   .exact p6.setPage hbi (Lc hk) ⟨ok.s,ok.n,ok.k,λq=>by simp only at q;omega,λ_=>by simp only;omega,λq=>by simp only at q;omega⟩ (Lc hk)
  .intro p hp;rcases LS hp with hp | rfl
   .exact Lc ⟨p,hp,rfl⟩
   .exact Lc ⟨_,getD_in hbi,rfl⟩
 .by_cases hg:0<=first h.P 1/\(Z1w h.P:Int)<Z2r h.C
  .have e7:Z0j h n=(⟨h.C,h.W,Z1C (Z3i h) (first h.P 1).toNat n,h.S,first h.P 1⟩,4096+first h.P 1*h.C.pw+((Z3i h).getD (first h.P 1).toNat X).U,Y):=by rw[Z0j,if_neg hf,if_pos hg]
   obtain⟨g1,g2,g3⟩:=Z30 p4 hg.1 n;have g4:=congrArg Page.U (Z2s p4 hg.1).2.2.2;simp only at g4;have ha:=Z2T p1 (i:=first h.P 1) oq oq;have hio:=Z17 (i:=first h.P 1) (j:=h.C.pg) (pw:=h.C.pw) oq oq;rw[Lj h.C.pg]at hio;rw[e7,g1,g4];refine⟨?_,rfl,rfl,by simp,rfl, ?_,by simp only;omega,by simp only;omega⟩
   .rw[Z1t];refine⟨p1,p2,by simp[p3],p4, ?_, ?_⟩
    .refine Lc ⟨hg.1,by simp only[Lx];omega, ?_⟩;simp only;rw[Z0p g3,if_pos rfl]
    .exact p6.setPage g3 (Ld g2) ⟨by simp only;omega,by simp,by simp,by simp,λ_=>by simp only;omega,by simp⟩ (Lc rfl)
   .intro p hp;rcases LS hp with hp | rfl
    .exact Lc ⟨p,hp,rfl⟩
    .exact Ld rfl
  .rw[Z0j,if_neg hf,if_neg hg]at e;simp at e
def Zhg{h:Heap}{n:Int}(hp:Z02 h=Y)(hk:1<=need h.C n)(e:(Z0A h n (need h.C n)).2.2=Y):PutOk h n (Z0A h n (need h.C n)).1 (Z0A h n (need h.C n)).2.1:=by
 have hp':=hp;rw[Z1t]at hp;obtain⟨p1,p2,p3,p4,p5,p6⟩:=hp;have hb:=validB_iff.1 p1;by_cases hg:0<=first h.P (need h.C n)/\Z1w h.P+need h.C n<=Z2r h.C
 .obtain⟨g1,g2,g3⟩:=Z1m hg.1;have el:(Z2y h.C h.P (first h.P (need h.C n)) h.S n).1=tookP h.P (first h.P (need h.C n)).toNat (need h.C n).toNat ⟨2,h.S,n,0⟩ ⟨3,h.S,0,0⟩:=by
   rw[Z2y,if_pos ⟨hk,by omega⟩,Z33,if_pos oq,if_pos g3]
  have e7:Z0A h n (need h.C n)=(⟨h.C,h.W,tookP h.P (first h.P (need h.C n)).toNat (need h.C n).toNat ⟨2,h.S,n,0⟩ ⟨3,h.S,0,0⟩,h.S,h.B⟩,4096+first h.P (need h.C n)*h.C.pw,Y):=by rw[Z0A,if_pos hg,el]
  have hf:∀ j,j<(need h.C n).toNat->(h.P.getD ((first h.P (need h.C n)).toNat+j) X).K=0:=freeK_iff.1 g3;have hlen:(tookP h.P (first h.P (need h.C n)).toNat (need h.C n).toNat ⟨2,h.S,n,0⟩ ⟨3,h.S,0,0⟩).length=h.P.length:=Z6x oq;have hu:=Z5l hk;have h0:0<=first h.P (need h.C n)*h.C.pw:=Lt hg.1 oq
  have hio:=LG (show first h.P (need h.C n)+need h.C n<=h.C.pg by omega) (show 0<=h.C.pw by omega);rw[LF,Lj h.C.pg]at hio;rw[e7];refine⟨?_,rfl,rfl,hlen,rfl, ?_,by simp only;omega,by simp only;omega⟩
  .rw[Z1t];refine⟨p1,p2,by simp only[hlen];exact p3,p4, ?_, ?_⟩
   .simp only[hlen];rcases p5 with p5 | p5
    .exact Ld p5
    .refine Lc ⟨p5.1,p5.2.1, ?_⟩;have hne:¬ ((first h.P (need h.C n)).toNat<=h.B.toNat/\h.B.toNat<(first h.P (need h.C n)).toNat+(need h.C n).toNat):=λhc=>by
      have:=hf (h.B.toNat-(first h.P (need h.C n)).toNat) oq;rw[show(first h.P (need h.C n)).toNat+(h.B.toNat-(first h.P (need h.C n)).toNat)=h.B.toNat by omega]at this;omega
     rw[Z7j oq oq,if_neg oq,if_neg oq];exact p5.2.2
   .exact p6.took oq oq hf oq p4
  .intro p hp;rcases LS hp with hp | rfl
   .simp only[wr,Ls]at hp;rcases hp with(hp | hp) | hp
    .exact Lc ⟨p,L9 hp,rfl⟩
    .have:=List.eq_of_mem_replicate (L9 hp);subst this;exact Ld rfl
    .exact Lc ⟨p,List.mem_of_mem_drop hp,rfl⟩
   .exact Ld rfl
 .rw[Z0A,if_neg hg]at e;simp at e
def Zj9{hd:Header}(hv:Z0h hd=Y)(hm:0<=hd.map/\hd.map<=4294967295):WOk (objW hd)/\((objW hd).length:Int)=sizeH hd:=by
 have hb:=ZbI hv hm.1 hm.2;constructor
 .intro x hx;simp only[objW,LQ,Xa,Z0d,if_pos hv]at hx;rcases hx with rfl | ⟨_,rfl⟩<;>omega
 .rw[sizeH,if_pos hv];simp[objW];omega
def ZbZ{h:Heap}{hd:Header}(hw:WOk h.W)(hm:0<=hd.map/\hd.map<=4294967295)(e:(new7 h hd).2.2=0) :
  Z02 h=Y/\Z3p h.C hd=Y/\PutOk h (sizeH hd) (put7 h hd).1 (put7 h hd).2.1/\(put7 h hd).2.2=Y/\(new7 h hd).2.1=(put7 h hd).2.1/\(new7 h hd).1 = { (put7 h hd).1 with W:=(Z0F h.W (put7 h hd).2.1 (objW hd)).1 }/\Z02 (new7 h hd).1=Y/\WOk (new7 h hd).1.W:=by
 unfold new7 at e;split at e
 .rename_i c1;split at e
  .rename_i c2;obtain⟨a1,a2,a3,a4,a5⟩:=Z5X c1.2;have po:=Z06 c1.1;have hput:PutOk h (sizeH hd) (put7 h hd).1 (put7 h hd).2.1:=by
    by_cases hn:0<need h.C (sizeH hd)
    .have e7:put7 h hd=Z0A h (sizeH hd) (need h.C (sizeH hd)):=by rw[put7,if_pos hn]
     rw[e7]at c2 ⊢;exact Zhg c1.1 oq c2
    .have e7:put7 h hd=Z0j h (sizeH hd):=by rw[put7,if_neg hn]
     rw[e7]at c2 ⊢;refine ZgV c1.1 ⟨a2, ?_⟩ c2;unfold need at hn a4;split at a4
     .rename_i hc;rw[if_pos hc]at hn;split at a4
      .omega
      .rename_i hd';rw[if_neg hd']at hn;have e:=L0 (sizeH hd+h.C.pw-1) h.C.pw;have hz:(sizeH hd+h.C.pw-1)/h.C.pw=0:=by omega
       rw[hz]at e;have:=LZ (sizeH hd+h.C.pw-1) (b:=h.C.pw) oq;omega
     .omega
   have ho:=Zj9 a1 hm;have hin:4096<=(put7 h hd).2.1/\(put7 h hd).2.1-4096+(objW hd).length<=h.W.length:=⟨hput.lo,by have:=hput.hi;omega⟩
   have e2:Z0F h.W (put7 h hd).2.1 (objW hd)=(spl h.W ((put7 h hd).2.1-4096).toNat (objW hd),0):=by rw[Z0F,if_pos hin]
   have hlen:(spl h.W ((put7 h hd).2.1-4096).toNat (objW hd)).length=h.W.length:=Z3Z oq;have e3:(Z1v (put7 h hd).1 (put7 h hd).2.1 hd).1 = { (put7 h hd).1 with W:=(Z0F h.W (put7 h hd).2.1 (objW hd)).1 }:=by
    rw[Z1v,if_pos ⟨hput.pr,a1⟩,hput.w,e2];simp
   have e4:new7 h hd=((Z1v (put7 h hd).1 (put7 h hd).2.1 hd).1,(put7 h hd).2.1,0):=by rw[new7,if_pos c1,if_pos c2]
   refine⟨c1.1,c1.2,hput,c2,by rw[e4],by rw[e4];exact e3, ?_, ?_⟩
   .rw[e4];simp only;rw[e3,e2];have q:=hput.pr;rw[Z1t]at q ⊢;refine⟨q.1, ?_,q.2.2.1,q.2.2.2.1,q.2.2.2.2.1,q.2.2.2.2.2⟩;simp only[hlen];have:=q.2.1;rw[hput.w]at this;exact this
   .rw[e4];simp only;rw[e3];exact Z6A hw ho.1 _
  .simp at e
 .simp at e
def Zje{h:Heap}{a:Int}(e:(atH h a).2=0):4096<=a/\a+(atH h a).1.length<4096+h.W.length:=by
 have k:=ZcH e;have po:=Z06 k.1;have o:=Z2L po.1 k.2.1;have hj:(ofA h.C a).1.toNat<h.P.length:=by omega
 have hk:(((ofA h.C a).1.toNat:Nat):Int)=(ofA h.C a).1:=by omega
 have h2:=e;unfold atH at h2 ⊢;rw[if_pos k.1,if_pos k.2.1]at h2 ⊢;split at h2
 .rename_i g1;split at h2
  .simp at h2
  .rename_i g2;rw[if_pos g1,if_neg g2];have hv:Z0h (decodeH (loadA h.W a).1).1=Y:=Z28 _;have hs:sizeH (decodeH (loadA h.W a).1).1=(decodeH (loadA h.W a).1).1.length+1:=by rw[sizeH,if_pos hv]
   have hvb:=(validH_iff.1 hv).2.2.1;have ue:=ZbG k.1 hj g1.1;rw[hk]at ue;have h0:0<=(ofA h.C a).1*h.C.pw:=Lt o.1 oq;have hio:=Z17 (i:=(ofA h.C a).1) (j:=h.C.pg) (pw:=h.C.pw) o.2.1 oq;rw[Lj h.C.pg]at hio;have hL:=po.2.2.2.2.2.1;refine⟨by omega, ?_⟩;simp only;rcases g1.1 with g | g<;>omega
 .simp at h2
def Z4V{h:Heap}{a i v:Int}(hw:WOk h.W)(hv:0<=v/\v<=18446744073709551615)(e:(getH h a).2=0)(hi:0<=i/\i<(getH h a).1.length):Z0B h a i v=({ h with W:=(Z0L h.W (a+1+i) v).1 },0)/\Z02 (Z0B h a i v).1=Y/\WOk (Z0B h a i v).1.W:=by
 have g:=Z45 e;have k:=Zje g.2.1;rw[<- g.1]at k;have hin:4096<=a+1+i/\a+1+i<4096+h.W.length:=by omega
 have hf:(Z22 h a i).2=0:=by
  unfold Z22;rw[if_pos e,if_pos hi];unfold loadA;rw[if_pos hin]
 have e1:Z0B h a i v=({ h with W:=(Z0L h.W (a+1+i) v).1 },0):=by rw[Z0B,if_pos hf]
 refine⟨e1, ?_, ?_⟩
 .rw[e1];have q:=g.2.2.1;rw[Z1t]at q ⊢;refine⟨q.1, ?_,q.2.2.1,q.2.2.2.1,q.2.2.2.2.1,q.2.2.2.2.2⟩;simp only[Z2u hin];exact q.2.1
 .rw[e1];exact Z8N hw hv _
def Zmn{l:List Page}{i k:Nat}{p q:Page}(hk:1<=k)(h:i+k<=l.length):spl l i (p::Lp (k-1) q)=tookP l i k p q:=by
 obtain⟨m,rfl⟩:∃ m,k=m+1:=⟨k-1,by omega⟩
 have hl:(Lg i l).length=i:=by simp;omega
 rw[tookP,wr,spl,List.take_of_length_le (l:=Lp (m+1) q) pq,L2,L2,List.set_append,if_neg oq,hl,Nat.sub_self];simp[List.replicate_succ]
def Z97{l:List Page}:∀ {i:Nat},(∀ j,j<i->(l.getD j X).K=0)->Z1I l i=0
 | 0,_=>rfl
 | i+1,h=>by
  have hp:Z1l l i=l.getD i X:=by rw[Z3Y];simp
  rw[Z1I,Z97 (λj hj=>h j oq),hp,if_pos (h i oq)]
def Zhr{l:List Page}{i k:Nat}(h:i+k<=l.length)(hf:Z6u l i k=Y):Z1w ((l.drop i).take k)=0:=by
 refine Z97 λj hj=>?_;simp only[List.length_take,List.length_drop]at hj;have:=freeK_iff.1 hf j oq;rw[La]at this ⊢;rwa [List.getElem?_take,if_pos oq,Lz]
def Z6v(l:List Page)(hl:l.length<=1048576)(hne:l≠[]):GP 81 [Z0u l] Y (.ow 0) [.arr 84 4 (l.map Page.dv)]:=by
 exact gF [24007] func81 [] (Fa (by exact Zgc hne:Z Page.dv l≠[]) (FA 5 7 Page.dv l (Fa (by exact Z1O _:Z0x (Z Page.dv l)) Fz)))
def ZmE(ps l:List Page)(i:Int)(hl:ps.length<=1048576)(hll:l.length<=1048576)(hi:0<=i)(h1:i+l.length<=ps.length)(hf:Z6u ps i.toNat l.length=Y)(hn:0<ps.length):GP 197 [Z0u ps,int i,Z0u l] Y (.tu [.ow 0,int 0]) [.arr 84 4 ((spl ps i.toNat l).map Page.dv)]:=by
 have hne:ps≠[]:=Z9g hn;have e1:Z1w (Lg ((i+l.length).toNat-i.toNat) (Ll i.toNat ps))=0:=by
  rw[show(i+l.length).toNat-i.toNat=l.length from by omega];exact Zhr oq hf
 have hs:Z0R (Z Page.dv ps) i.toNat (Z Page.dv l)=Z Page.dv (spl ps i.toNat l):=by simp[Z0R,spl]
 exact gF [33030] func197 [] (Fh 26 [.els (Z Page.dv (Lg ((i+(l.length:Int)).toNat-i.toNat) (Ll i.toNat ps)))] (Fh 35 [.els (Z Page.dv (Lg i.toNat ps++l++Ll (i.toNat+l.length) ps))] (FlG 14 (!decide (i<0)) Page.dv ps (FlG 16 (!decide (i<0)) Page.dv l (FiG 17 (!decide (i<0)) ((ps.length:Int)-(l.length:Int)) (Ffb 19 (O (i<0)||O ((ps.length:Int)-(l.length:Int)<i)) (Fl 24 Page.dv l (Fi 25 (i+(l.length:Int)) (Fa (by(simp only[Li];omega):0<=i/\i<=i+(l.length:Int)/\i+(l.length:Int)<=(↑(Z Page.dv ps).length:Int)) (Fa (by simp[e1,spl,LO,LM,LN,LL,wdv,idv]:Lg ((i+(l.length:Int)).toNat-i.toNat) (Ll i.toNat (Z Page.dv ps))=Z Page.dv (Lg ((i+(l.length:Int)).toNat-i.toNat) (Ll i.toNat ps))) (Fc 27 (@ZjN (Lg ((i+(l.length:Int)).toNat-i.toNat) (Ll i.toNat ps)) (by(simp[e1,spl, *];omega))) (Ffb 28 (O (0<(↑(Z1w (Lg ((i+(l.length:Int)).toNat-i.toNat) (Ll i.toNat ps))):Int))) (Fc 30 (@Z6v ps aa aa) (Fa (by(simp only[Li];omega):0<=i/\i<=(↑(Z Page.dv ps).length:Int)) (Fa (by(simp only[Li];omega):(Z Page.dv l).length<=(↑(Z Page.dv ps).length:Int).toNat-i.toNat) (Fa (by exact hs:Z0R (Z Page.dv ps) i.toNat (Z Page.dv l)=Z Page.dv (Lg i.toNat ps++l++Ll (i.toNat+l.length) ps)) (Fa (by exact Z1O _:Z0x (Z Page.dv (Lg i.toNat ps++l++Ll (i.toNat+l.length) ps))) Fz)))))))))))))))))
def ZqP{l:List Page}{i:Nat}{p q:Page}(h:i+1<=l.length):spl l i [p]=tookP l i 1 p q:=by
 have:=Zmn (l:=l) (i:=i) (k:=1) (p:=p) (q:=q) (Lq _) h;simpa using this
def Zb4(l:List Page)(i sp:Int)(hl:l.length<=1048576)(hs:0<=sp/\sp<=1)(hi:0<=i/\i+1<=l.length)(hf:Z6u l i.toNat 1=Y):GP 176 [Z0u l,int i,int sp] Y (.tu [.ow 0,int 0]) [.arr 84 4 ((tookP l i.toNat 1 ⟨1,sp,0,0⟩ ⟨0,0,0,0⟩).map Page.dv)]:=by
 have e:=ZqP (l:=l) (i:=i.toNat) (p:=⟨1,sp,0,0⟩) (q:=⟨0,0,0,0⟩) oq;rw[<- e];have e2:Z6u l i.toNat ([⟨1,sp,0,0⟩]:List Page).length=Y:=hf;have e3:Z2k ⟨1,sp,0,0⟩=Y:=by simp[Z2k];omega
 exact gF [33018] func176 [] (Fc 12 (@Z6d (Page.mk 1 sp 0 0)) (Ffb 13 (!Z2k (Page.mk 1 sp 0 0)) (Fs 17 (Z Page.dv [Page.mk 1 sp 0 0]) (Fc 18 (@ZmE l ([Page.mk 1 sp 0 0]) i aa (by simp[*]) oq (by simp[*]) aa oq) (Fa (by exact Z1O _:Z0x (Z Page.dv (spl l i.toNat [Page.mk 1 sp 0 0]))) Fz)))))
def Zqd{a v k:Nat}(ha:a<2^k)(hv:a+v*2^k<18446744073709551616):bits .or .u64 (a:Int) ((v*2^k:Nat):Int)=((a+v*2^k:Nat):Int):=by
 rw[bits_or_u64_nat a (v*2^k) oq oq,Nat.mul_comm v,Nat.or_comm,<- Nat.two_pow_add_eq_or_of_lt ha,Nat.add_comm]
def Zes{v n:Nat}(hn:n<=64)(hv:v<2^n):bits .andNot .u64 (v:Int) (2^n-1)=0:=by
 have h64:(2:Nat)^n<=2^64:=Xi dd hn;have hp:0<(2:Nat)^n:=Nat.two_pow_pos n;have e:((2:Int)^n-1)=((2^n-1:Nat):Int):=by
  have:((2^n:Nat):Int)=2^n:=by simp
  omega
 rw[e];have h1:(LD 64 (v:Int)).toNat=v:=by
  rw[LW,LX];exact Xh oq
 have h2:(LD 64 ((2^n-1:Nat):Int)).toNat=2^n-1:=by
  rw[LW,LX];exact Xh oq
 show Lf.wrap ((LD 64 (v:Int) &&& ~~~ LD 64 ((2^n-1:Nat):Int)).toNat:Int)=_;rw[BitVec.toNat_and,BitVec.toNat_not,h1,h2];have e2:2^64-1-(2^n-1)=2^n*(2^(64-n)-1):=by
  have:(2:Nat)^64=2^n*2^(64-n):=by rw[<- Nat.pow_add];congr 1;omega
  rw[Nat.mul_sub,Nat.mul_one,<- this];omega
 have e3:v &&& (2^64-1-(2^n-1))=0:=by
  rw[e2];apply Nat.eq_of_testBit_eq;intro i;rw[Nat.testBit_and,Nat.zero_testBit,Nat.testBit_two_pow_mul];by_cases hi:n<=i
  .rw[Nat.testBit_lt_two_pow (Nat.lt_of_lt_of_le hv (Xi dd hi)),Bool.false_and]
  .simp[hi]
 rw[e3];decide
def Zfv(v n:Int)(h0:0<=v)(hn:0<=n/\n<=64)(hv:v<2^n.toNat):GP 207 [u64 v,int n] Y (bool Y) []:=by
 have e:bits .andNot .u64 v (ones n)=0:=by
  obtain⟨a,rfl⟩:=LJ h0;rw[ones,Nat.min_eq_left oq];exact Zes oq (by exact_mod_cast hv)
 exact gF [] func207 [Y] (Fc 7 (@Z3O n) (Fb ((bits BinOp.andNot Lf v (ones n)==0)=Y) Fz))
structure BField where
 width:Int
 value:Int
 deriving DecidableEq,Inhabited
def BField.dv(f:BField):List DV:=[.sc (.int .i64 f.width),.sc (.int .u64 f.value)]
def orI(n:Nat){p a v:Int}(hp:p=((2^n:Nat):Int))(ha:0<=a)(hv:0<=v)(h1:a<p)(h2:a+v*p<18446744073709551616):bits .or .u64 a (Lf.wrap (v*p))=a+v*p:=by
 obtain⟨x,rfl⟩:=LJ ha;obtain⟨y,rfl⟩:=LJ hv;have hm:(y:Int)*p=((y*2^n:Nat):Int):=by rw[hp,Int.natCast_mul]
 rw[hm]at h2 ⊢;rw[wrapU' oq oq];exact Zqd oq oq
end Go.Proofs.YtdhchmlalchgeaaGreat
namespace Go.Sx
def mvP(ids:List Nat)(post:List Blk)(n:Nat):List Blk:=(upto 0 n).map λk=>match idxN k ids 0 with
 | some j=>Z48 ids (post.getD j .dead)
 | none=>.dead
def mvOk(m p n:Nat)(ids:List Nat):Bool:=Xf ids.length p&&LB m p&&LB m n&&nodupB ids&&(upto 0 p).all (λj=>LB (ids.getD j 0+1) n&&(Xf (ids.getD j 0) j||LB m (ids.getD j 0)))&&(upto 0 n).all λk=>match idxN k ids 0 with | Lb _=>Y | Lh=>LB (k+1) m
def Z7n{P:Program}{f:Nat}{args:List AV}{pre:List Blk}{res:AV}{post:List Blk}(ids:List Nat)(n:Nat){res2:AV}{post2:List Blk}(h:BorSpec P f args pre res post)(ok:mvOk pre.length post.length n ids=Y)(hr:mapT (renI ids) res=res2)(hp:mvP ids post n=post2):BorSpec P f args pre res2 post2:=by
 simp only[mvOk,LY,List.all_eq_true,Bool.or_eq_true]at ok;obtain⟨⟨⟨⟨⟨k1,k2⟩,k3⟩,k4⟩,k5⟩,k6⟩:=ok;have k1:=Xg k1;have k2:=LC k2;have k3:=LC k3;have k4:=Z3s k4;have mem:∀ {j p:Nat},j<p->j∈upto 0 p:=λ{j p} hj=>L8 (by rw[Z8r _ _ _ hj,Xj]);have k5:∀ j,j<post.length->ids.getD j 0<n/\(ids.getD j 0=j\/pre.length<=ids.getD j 0):=λj hj=>by
  have:=k5 j (mem hj);exact⟨LC this.1,this.2.imp Xg LC⟩
 have k6:∀ k,k<n->idxN k ids 0=Lh->k<pre.length:=λk hk e=>by
  have:=k6 k (mem hk);rw[e]at this;exact LC this
 subst hr hp;have pl:(mvP ids post n).length=n:=by simp[mvP,Z8v]
 have pg:∀ (k:Nat) (B:Blk),(mvP ids post n)[k]? = Lb B->k<n/\((∃ j,ids[j]? = Lb k/\j<post.length/\B=Z48 ids (post.getD j .dead))\/(k<pre.length/\B = .dead)):=λk B hB=>by
  have hk:k<n:=by have:=(LH.1 hB).1;omega
  simp only[mvP,List.getElem?_map,Z8r _ _ _ hk,Xj,Option.map_some,Option.some.injEq]at hB;refine⟨hk, ?_⟩;cases e:idxN k ids 0 with
  | none=>rw[e]at hB;exact .inr ⟨k6 k hk e,hB.symm⟩
  | some j =>
   rw[e]at hB;obtain⟨_,q⟩:=Z1Y e;have q:ids[j]? = Lb k:=by simpa using q
   exact .inl ⟨j,q,by have:=(LH.1 q).1;omega,hB.symm⟩
 intro w Im ρ vs hIm hsz hρ hinj hbnd hpre hargs;refine(h w Im ρ vs hIm hsz hρ hinj hbnd hpre hargs).mono ?_;rintro e w' ⟨v,rfl,hk,ρ',Im',a1,a2,a3,a4,a5,a6,a7,a8,a9⟩;let ρ2:Rho:=λk=>if k<pre.length then ρ' k else match idxN k ids 0 with | Lb j=>ρ' j | Lh=>Lh
 have hlow:∀ k,k<pre.length->ρ2 k=ρ' k:=λk hk=>by simp only[ρ2,if_pos hk]
 have hat:∀ (j k:Nat),ids[j]? = Lb k->ρ2 k=ρ' j:=λj k q=>by
  have hj:j<post.length:=by have:=(LH.1 q).1;omega
  have e:ids.getD j 0=k:=by rw[La,q];rfl
  have c:=k5 j hj;rw[e]at c;by_cases hkp:k<pre.length
  .rw[hlow k hkp];rcases c.2 with c | c
   .rw[c]
   .omega
  .simp only[ρ2,if_neg hkp];cases ex:idxN k ids 0 with
   | none=>exact absurd (L8 q) (Z4E ex)
   | some j2 =>
    obtain⟨_,q2⟩:=Z1Y ex;rw[Z4R k4 q (by simpa using q2)]
 have hfrom:∀ k β,ρ2 k=Lb β->∃ j,ρ' j=Lb β/\k<n:=λk β hb=>by
  by_cases hkp:k<pre.length
  .rw[hlow k hkp]at hb;exact⟨k,hb,by omega⟩
  .simp only[ρ2,if_neg hkp]at hb;split at hb
   .rename_i j hj;obtain⟨_,q⟩:=Z1Y hj;have q:ids[j]? = Lb k:=by simpa using q
    have hj:j<post.length:=by have:=(LH.1 q).1;omega
    have:=k5 j hj;rw[La,q]at this;exact⟨j,hb,this.1⟩
   .cases hb
 have hren:∀ j β,ρ' j=Lb β->ρ2 (ids.getD j 0)=Lb β:=λj β hb=>by
  have hj:=a2 j β hb;have q:ids[j]? = Lb (ids.getD j 0):=by rw[La,Lk oq];rfl
  rw[hat j _ q];exact hb
 have hlv:∀ k,live (hL (mvP ids post n)) k->∃ j,ids[j]? = Lb k/\live (hL post) j:=by
  rintro k ⟨B,hB,hd⟩;obtain⟨_,⟨j,q1,q2,q3⟩ | ⟨_,q⟩⟩:=pg k B hB
  .refine⟨j,q1,post[j],Lk q2,λe=>hd ?_⟩;rw[q3,La,Lk q2];simp only[Option.getD_some,e,Z48]
  .exact absurd q hd
 refine⟨v,rfl,hk,ρ2,Im',λk β hb=>?_,λk β hb=>?_,a3,a4,λk β g hb=>?_,λk β g hl hb=>?_,λk k' β β' g hl hl' hb hb' hg hg'=>?_,λk B hB=>?_, ?_⟩
 .rw[hlow k (hρ k β hb)];exact a1 k β hb
 .obtain⟨j,_,q⟩:=hfrom k β hb;rw[pl];exact q
 .obtain⟨j,q,_⟩:=hfrom k β hb;exact a5 j β g q
 .obtain⟨j,q1,q2⟩:=hlv k hl;rw[hat j k q1]at hb;exact a6 j β g q2 hb
 .obtain⟨j,q1,q2⟩:=hlv k hl;obtain⟨j',q1',q2'⟩:=hlv k' hl';rw[hat j k q1]at hb;rw[hat j' k' q1']at hb';have:=a7 j j' β β' g q2 q2' hb hb' hg hg';subst this;rw[q1]at q1';exact Option.some.inj q1'
 .obtain⟨_,⟨j,q1,q2,rfl⟩ | ⟨q,rfl⟩⟩:=pg k B hB
  .obtain⟨β,m1,m2⟩:=a8 j _ (Lk q2);rw[La,Lk q2];exact⟨β,by rw[hat j k q1];exact m1,Z8Q (λ_ h=>h) hren m2⟩
  .obtain⟨β,m1,_⟩:=hpre k _ (Lk q);exact⟨β,by rw[hlow k q];exact a1 k β m1,trivial⟩
 .obtain⟨q1,q2,q3⟩:=Z88 (w:=w') (Im:=Im') (Im':=Im') hren;exact Z8h (λ_ h=>h) q1 q2 q3 a9
end Go.Sx
namespace Go.Proofs.YtdhchmlalchgeaaGreat
open Go.Sx
def ufS(w:Int):Nat->Int
 | 0=>w
 | 1=>w/4
 | _=>w/17179869184
def ufO(w:Int):List Int:=[w%4,w/4%4294967296]
def uf1(w:Int)(i:Nat):Tg:=⟨tm 49 [(0,u64 w),(1,Z0r [2,32]),(4,.d (.sl 0 [])),(5,int 0),(6,int ([64,62,30].getD i 0)),(12,Z0r [2,32]),(13,int 2),(14,int i)],[],20⟩
def ZkP(w:Int)(i:Nat)(hi:i<2):CP (rndF f174 0) (uf1 w i).st .nrm (uf1 w (i+1)).st:=by
 have h:i=0\/i=1:=by omega
 rcases h with rfl | rfl
 .refine stretchE [((16:Nat),[Hint.el (idv (2:Int))])] [] [] [] (φ:=(0:Int)<=(↑(0:Nat):Int)/\(Z idv [(2:Int),(32:Int)])[(↑(0:Nat):Int).toNat]? = Lb (idv (2:Int))) ?_ kr kr kr;exact(by simp[*])
 .refine stretchE [((16:Nat),[Hint.el (idv (32:Int))])] [] [] [] (φ:=(0:Int)<=(↑(1:Nat):Int)/\(Z idv [(2:Int),(32:Int)])[(↑(1:Nat):Int).toNat]? = Lb (idv (32:Int))) ?_ kr kr kr;exact(by simp[*])
def Zqw(w:Int):CP (rndF f174 0) (uf1 w 2).st (.ext 0) (Tg.st ⟨tm 49 [(0,u64 w),(1,Z0r [2,32]),(4,.d (.sl 0 [])),(5,int 0)],[],60⟩):=by
 exact sF [] [] Fz
def ZjO(w:Int)  := Z0a (S:=λi=>(uf1 w i).st) 2 (by kernel_rfl) (λi hi=>ZkP w i hi) (Zqw w)
def uf2(w:Int)(i:Nat):Tg:=⟨tm 49 [(0,u64 (ufS w i)),(4,.d (.sl 0 [])),(5,int 0),(9,.ow 480009),(29,Z0r [2,32]),(30,int 2),(31,int i)],[(480009,.arr 35 1 (((ufO w).take i).map wdv))],60⟩
def ZlA(w:Int)(i:Nat)(h0:0<=w)(h1:w<=18446744073709551615)(hi:i<2):CP (rndF f174 2) (uf2 w i).st .nrm (uf2 w (i+1)).st:=by
 have o1:ones 2=3:=by decide
 have o3:ones 32=4294967295:=by decide
 have a0:bits .and .u64 w (ones 2)=w%4:=by rw[o1];exact Z3y 2 dd dd oq oq
 have a1:bits .and .u64 (w/4) (ones 32)=w/4%4294967296:=by rw[o3];exact Z3y 32 dd dd oq oq
 have f1:(w/4).fdiv 4294967296=w/17179869184:=by rw[Int.fdiv_eq_ediv_of_nonneg _ dd];omega
 have h:i=0\/i=1:=by omega
 rcases h with rfl | rfl
 .exact sF [(496041,480009)] [] (Fh 33 [.el (idv 2)] (Fa (by simp[ufS,ufO, *]:0<=(↑(0:Nat):Int)/\(Z idv [2,32])[(↑(0:Nat):Int).toNat]? = Lb (idv 2)) (Fc 38 (@Z3O (2)) (Fg 39 (by assumption:bits BinOp.and Lf (ufS w 0) (ones (2:Int))=ufS w 0%4) (Fs 40 (Z wdv [ufS w 0%4]) (Fa (by simp[ufS,ufO, *]:(Z wdv (Lg 0 (ufO w))).length+(Z wdv [ufS w 0%4]).length<=2^30) (Fs 41 (Z wdv [ufS w 0%4]) (Fg 44 (by exact Z5m rfl dd:(ufS w 0).fdiv (2^min (Lu 2) 64)=ufS w 0/4) (Fo ((0:Int)<=2) Fz)))))))))
 .exact sF [(496041,480009)] [Y] (Fh 33 [.el (idv 32)] (Fa (by simp[ufS,ufO, *]:0<=(↑(1:Nat):Int)/\(Z idv [2,32])[(↑(1:Nat):Int).toNat]? = Lb (idv 32)) (Fc 38 (@Z3O (32)) (Fg 39 (by assumption:bits BinOp.and Lf (ufS w 1) (ones (32:Int))=ufS w 1%4294967296) (Fs 40 (Z wdv [ufS w 1%4294967296]) (Fa (by simp[ufS,ufO, *]:(Z wdv (Lg 1 (ufO w))).length+(Z wdv [ufS w 1%4294967296]).length<=2^30) (Fs 41 (Z wdv [w%4,ufS w 1%4294967296]) (Fg 44 (by exact Z5m rfl dd:(ufS w 1).fdiv (2^min (Lu 32) 64)=ufS w 1/4294967296) (Fo ((0:Int)<=32) (Fa (by(simp[ufS,ufO, *];omega):ufS w 1/4294967296=ufS w (1+1)) Fz))))))))))
def Zql(w:Int):CP (rndF f174 2) (uf2 w 2).st (.ext 2) (Tg.st ⟨tm 49 [(0,u64 (w/17179869184)),(4,.d (.sl 0 [])),(5,int 0),(9,.ow 480009)],[(480009,.arr 35 1 ((ufO w).map wdv))],60⟩):=by
 exact sF [] [] Fz
def ZjU(w:Int)(h0:0<=w)(h1:w<=18446744073709551615)  := Z0a (S:=λi=>(uf2 w i).st) 2 (by kernel_rfl) (λi hi=>ZlA w i h0 h1 hi) (Zql w)
def Zi1(w:Int)(h0:0<=w)(h1:w<=18446744073709551615)(h:w<17179869184):GP 174 [u64 w,Z0r [2,32]] Y (.tu [Z01 (ufO w),int 0]) []:=by
 exact gF [] func174 [] (Fh 9 [.own] (Fu (@ZjO w) (Fu (@ZjU w aa aa) (Ffb 47 (w/(17179869184:Int) != 0) (Fa (by exact Z1a _:Z0x (Z wdv (ufO w))) Fz)))))
def ZkN(w:Int)(h0:0<=w)(h1:w<=18446744073709551615)(h:¬ w<17179869184):GP 174 [u64 w,Z0r [2,32]] Y (.tu [Z01 [],int 2]) []:=by
 exact gF [] func174 [] (Fh 9 [.own] (Fu (@ZjO w) (Fu (@ZjU w aa aa) (Ftb 47 (w/(17179869184:Int) != 0) (Fnl Fz)))))
def Z1S(w:Int)(h0:0<=w)(h1:w<=18446744073709551615):GP 137 [u64 w] Y (.tu [u64 (Z08 w).1,bool (Z08 w).2]) []:=by
 have u0:(ufO w).getD 0 X=w%4:=rfl;have u1:(ufO w).getD 1 X=w/4%4294967296:=rfl;have uL:(ufO w).length=2:=rfl;by_cases h:w<17179869184
 .rcases bb ((ufO w).getD 0 X != 2)with hc0 | hc0<;>have hc0p:=hc0<;>simp only[bs]at hc0p
  .rw[show Z08 w=((0:Int),M)from by(simp[Z08, *];omega)];exact gF [] func137 [] (Fh 16 [.el (wdv ((ufO w).getD 0 X))] (Fs 8 (Z idv [2,32]) (Fc 9 (@Zi1 w aa aa aa) (Fa (by intro hg;(try simp only[bs]at hg);exact elI oq oq oq:(!(0:Int) != 0)=Y->(0:Int)<=0/\(Z wdv (ufO w))[Lu 0]? = Lb (wdv ((ufO w).getD 0 X))) (Ft 19 hc0 Fz)))))
  .rw[show Z08 w=((ufO w).getD (1:Nat) X,Y)from by grind[Z08]];refine gspec_ofE [((8:Nat),[Hint.els (Z idv [(2:Int),(32:Int)])]),((9:Nat),[Hint.call Y (AV.tu [Z01 (ufO w),int (0:Int)]) []]),((16:Nat),[Hint.el (wdv ((ufO w).getD (0:Nat) X))]),((19:Nat),[Hint.br M]),((21:Nat),[Hint.el (wdv ((ufO w).getD (1:Nat) X))])] [] [] dd func137 [] (φ:=((Lp (2:Nat) [dint (0:Int)]).set ((0:Nat),Operand.const (Value.int Lv (2:Int))).1 [dint (2:Int)]).set ((1:Nat),Operand.const (Value.int Lv (32:Int))).1 [dint (32:Int)]=Z idv [(2:Int),(32:Int)]/\GP 174 [u64 w,Z0r [(2:Int),(32:Int)]] Y (AV.tu [Z01 (ufO w),int (0:Int)]) []/\((!(0:Int) != (0:Int))=Y->(0:Int)<=(0:Int)/\(Z wdv (ufO w))[Lu (0:Int)]? = Lb (wdv ((ufO w).getD (0:Nat) X)))/\((ufO w).getD (0:Nat) X != (2:Int))=M/\M=M/\(0:Int)<=(1:Int)/\(Z wdv (ufO w))[Lu (1:Int)]? = Lb (wdv ((ufO w).getD (1:Nat) X))) ?_ kr kr;exact⟨rfl,(@Zi1 (w) aa aa aa),(by intro hg;(try simp only[bs]at hg);exact elI oq oq oq),aa,rfl,(by exact elI oq oq oq)⟩
 .rw[show Z08 w=((0:Int),M)from by(simp[Z08, *];omega)];exact gF [] func137 [] (Fh 16 [.el (wdv ([].getD 0 X))] (Fs 8 (Z idv [2,32]) (Fc 9 (@ZkN w aa aa aa) (Fa (by intro hg;(try simp only[bs]at hg);exact elI oq oq oq:(!(2:Int) != 0)=Y->(0:Int)<=0/\(Z wdv [])[Lu 0]? = Lb (wdv ([].getD 0 X))) Fz))))
def Z0Y(a:Int):List BField:=[⟨2,2⟩,⟨32,a⟩]
def pf1(a:Int)(i:Nat):Tg:=⟨tm 55 [(0,.d (.sl 2 ((Z0Y a).map BField.dv))),(2,u64 0),(3,int 0),(4,int ([64,62,30].getD i 0)),(11,.d (.sl 2 ((Z0Y a).map BField.dv))),(12,int (Z0Y a).length),(13,int i)],[],4⟩
def Zmx(a:Int)(i:Nat)(hi:i<2):CP (rndF f198 0) (pf1 a i).st .nrm (pf1 a (i+1)).st:=by
 have eL:(Z0Y a).length=2:=rfl;have e0:(Z0Y a).getD 0 X=⟨2,2⟩:=rfl;have e1:(Z0Y a).getD 1 X=⟨32,a⟩:=rfl;have h:i=0\/i=1:=by omega
 rcases h with rfl | rfl
 .exact sF [] [] (Fek 15 BField.dv (Z0Y a) (↑(0:Nat):Int) 0 (Fg 29 (rfl:Lv.wrap ([64,62,30].getD 0 0-((Z0Y a).getD 0 X).width)=64-((Z0Y a).getD 0 X).width) Fz))
 .exact sF [] [] (Fek 15 BField.dv (Z0Y a) (↑(1:Nat):Int) 1 (Fg 29 (rfl:Lv.wrap ([64,62,30].getD 1 0-((Z0Y a).getD 1 X).width)=62-((Z0Y a).getD 1 X).width) Fz))
def Zpm(a:Int):CP (rndF f198 0) (pf1 a 2).st (.ext 0) (Tg.st ⟨tm 55 [(0,.d (.sl 2 ((Z0Y a).map BField.dv))),(2,u64 0),(3,int 0)],[],4⟩):=by
 have eL:(Z0Y a).length=2:=rfl;exact sF [] [] Fz
def Zo8(a:Int)  := Z0a (S:=λi=>(pf1 a i).st) 2 (by kernel_rfl) (λi hi=>Zmx a i hi) (Zpm a)
def pfW(a:Int)(i:Nat):Int:=[0,2,2+4*a].getD i 0
def pf2(a:Int)(i:Nat):Tg:=⟨tm 55 [(2,u64 0),(3,int 0),(7,u64 (pfW a i)),(8,int ([0,2,34].getD i 0)),(31,.d (.sl 2 ((Z0Y a).map BField.dv))),(32,int (Z0Y a).length),(33,int i)],[],6⟩
def ZlO(a:Int)(i:Nat)(h:0<=a/\a<=4294967295)(hi:i<2):CP (rndF f198 2) (pf2 a i).st .nrm (pf2 a (i+1)).st:=by
 have eL:(Z0Y a).length=2:=rfl;have e0:(Z0Y a).getD 0 X=⟨2,2⟩:=rfl;have e1:(Z0Y a).getD 1 X=⟨32,a⟩:=rfl;have f1:bits .or .u64 (pfW a 1) (Lf.wrap (((Z0Y a).getD 1 X).value*4))=pfW a (1+1):=(orI 2 (a:=2) (v:=a) dd oq oq oq oq).trans (by show _=2+4*a;omega);have h:i=0\/i=1:=by omega
 rcases h with rfl | rfl
 .refine stretchE [((35:Nat),[Hint.el ((Z0Y a).getD (0:Nat) X).dv]),((41:Nat),[Hint.call Y (Sx.bool Y) []]),((47:Nat),[Hint.int (((Z0Y a).getD (0:Nat) X).value*(1:Int))]),((52:Nat),[Hint.int ((0:Int)+((Z0Y a).getD (0:Nat) X).width)])] [] [] [] (φ:=((0:Int)<=(↑(0:Nat):Int)/\(Z BField.dv (Z0Y a))[(↑(0:Nat):Int).toNat]? = Lb ((Z0Y a).getD (0:Nat) X).dv)/\GP 207 [u64 ((Z0Y a).getD (0:Nat) X).value,int ((Z0Y a).getD (0:Nat) X).width] Y (Sx.bool Y) []/\Lf.wrap (((Z0Y a).getD (0:Nat) X).value*(2:Int)^min ([(0:Int),(2:Int),(34:Int)].getD (0:Nat) (0:Int)).toNat (64:Nat))=((Z0Y a).getD (0:Nat) X).value*(1:Int)/\(0:Int)<=[(0:Int),(2:Int),(34:Int)].getD (0:Nat) (0:Int)/\Lv.wrap ([(0:Int),(2:Int),(34:Int)].getD (0:Nat) (0:Int)+((Z0Y a).getD (0:Nat) X).width)=(0:Int)+((Z0Y a).getD (0:Nat) X).width) ?_ kr kr kr;exact⟨(by exact elI oq oq oq),(@Zfv (((Z0Y a).getD (0:Nat) X).value) (((Z0Y a).getD (0:Nat) X).width) (by grind[pfW]) (by grind[pfW]) (by grind[pfW])),rfl,(by simp[pfW, *]),rfl⟩
 .refine stretchE [((35:Nat),[Hint.el ((Z0Y a).getD (1:Nat) X).dv]),((41:Nat),[Hint.call Y (Sx.bool Y) []]),((48:Nat),[Hint.int (bits BinOp.or Lf (pfW a (1:Nat)) (Lf.wrap (((Z0Y a).getD (1:Nat) X).value*(4:Int))))]),((52:Nat),[Hint.int ((2:Int)+((Z0Y a).getD (1:Nat) X).width)])] [] [] [M,M,Y] (φ:=((0:Int)<=(↑(1:Nat):Int)/\(Z BField.dv (Z0Y a))[(↑(1:Nat):Int).toNat]? = Lb ((Z0Y a).getD (1:Nat) X).dv)/\GP 207 [u64 ((Z0Y a).getD (1:Nat) X).value,int ((Z0Y a).getD (1:Nat) X).width] Y (Sx.bool Y) []/\(0:Int)<=[(0:Int),(2:Int),(34:Int)].getD (1:Nat) (0:Int)/\bits BinOp.or Lf (pfW a (1:Nat)) (Lf.wrap (((Z0Y a).getD (1:Nat) X).value*(2:Int)^min ([(0:Int),(2:Int),(34:Int)].getD (1:Nat) (0:Int)).toNat (64:Nat)))=bits BinOp.or Lf (pfW a (1:Nat)) (Lf.wrap (((Z0Y a).getD (1:Nat) X).value*(4:Int)))/\Lv.wrap ([(0:Int),(2:Int),(34:Int)].getD (1:Nat) (0:Int)+((Z0Y a).getD (1:Nat) X).width)=(2:Int)+((Z0Y a).getD (1:Nat) X).width/\bits BinOp.or Lf (pfW a (1:Nat)) (Lf.wrap (((Z0Y a).getD (1:Nat) X).value*(4:Int)))=pfW a ((1:Nat)+(1:Nat))) ?_ kr kr kr;exact⟨(by exact elI oq oq oq),(@Zfv (((Z0Y a).getD (1:Nat) X).value) (((Z0Y a).getD (1:Nat) X).width) (by simp only[bs, *,true_or,or_true,true_and,and_true,not_true_eq_false,not_false_eq_true,Bool.true_eq_false,Bool.false_eq_true]) (by grind[pfW]) (by grind[pfW])),(by simp[pfW, *]),rfl,rfl,aa⟩
def ZpJ(a:Int):CP (rndF f198 2) (pf2 a 2).st (.ext 2) (Tg.st ⟨tm 55 [(2,u64 0),(3,int 0),(7,u64 (2+4*a))],[],6⟩):=by
 have eL:(Z0Y a).length=2:=rfl;have ew:pfW a 2=2+4*a:=rfl;exact sF [] [] Fz
def Zpd(a:Int)(h:0<=a/\a<=4294967295)  := Z0a (S:=λi=>(pf2 a i).st) 2 (by kernel_rfl) (λi hi=>ZlO a i h hi) (ZpJ a)
def Zkd(a:Int)(h:0<=a/\a<=4294967295):GP 198 [.d (.sl 2 ((Z0Y a).map BField.dv))] Y (.tu [u64 (2+4*a),int 0]) []:=by
 exact gF [] func198 [] (Fg 12 (rfl:(↑(Z BField.dv (Z0Y a)).length:Int)=(↑(Z0Y a).length:Int)) (Fu (@Zo8 a) (Fg 32 (rfl:(↑(Z BField.dv (Z0Y a)).length:Int)=(↑(Z0Y a).length:Int)) (Fu (@Zpd a aa) Fz))))
def Zc8(a:Int)(h:0<=a/\a<=4294967295):GP 178 [u64 a] Y (.tu [u64 (4*a+2),int 0]) []:=by
 have o3:ones 32=4294967295:=by decide
 have e:2+4*a=4*a+2:=by omega
 exact gF [] func178 [Y] (Fc 5 (@Z3O (32)) (Ffb 6 (O (ones (32:Int)<a)) (Fs 10 (Z BField.dv [BField.mk 2 2,BField.mk 32 a]) (Fc 11 (@Zkd a aa) (Fa ‹(2:Int)+4*a=4*a+2› (Fr (0:Int) Fz))))))
def Z2z(l:List Int)(v:Int):Nat:=(l.takeWhile λx=>!(v==x)).length
def Z5v{l:List Int}{v:Int}{m:Nat}(h:m<Z2z l v):m<l.length/\(v==l.getD m X)=M:=by
 obtain⟨h1,h2⟩:=Zha _ _ _ h;refine⟨h1, ?_⟩;rw[La,Lk h1];simpa using h2
def Z7C{l:List Int}{v:Int}(h:Z2z l v<l.length):(v==l.getD (Z2z l v) X)=Y:=by
 have h2:=Zb2 (λx=>!(v==x)) l h;have h3:l.getD (Z2z l v) X=l[(l.takeWhile λx=>!(v==x)).length]:=by
  rw[La,Lk h];rfl
 rw[h3];simpa using h2
def firstI_mem{l:List Int}{v:Int}:Z2z l v<l.length↔v∈l:=by
 constructor
 .intro h;have:=Z7C h;exact getD_mem_iff.2 ⟨_,h,by simpa using (eq_of_beq this).symm⟩
 .intro h;obtain⟨k,hk,e⟩:=getD_mem_iff.1 h;rcases LV k (Z2z l v)with q | q
  .have:=(Z5v q).2;rw[e]at this;simp at this
  .omega
def idxI(l:List Int)(v:Int):Int:=if v∈l then Z2z l v else -1
def ixUL(l:List Int)(v:Int)(i:Nat):Tg:=⟨tm 19 [(0,Z01 l),(1,u64 v),(4,int 0),(7,int l.length),(8,int i)],[],3⟩
def Zfp(l:List Int)(v:Int)(i:Nat)(hl:l.length<=1048576)(hi:i<l.length)(e:(v==l.getD i X)=M):CP (rndF f126 0) (ixUL l v i).st .nrm (ixUL l v (i+1)).st:=by
 exact sF [] [] (Ftb 9 (O ((i:Int)<(l.length:Int))) (Fek 14 wdv l (↑i) i (Ff 16 ‹(v==l.getD i X)=M› (Fx 18 i Fz))))
def ZlW(l:List Int)(v:Int)(i:Nat)(hl:l.length<=1048576)(hi:i<l.length)(e:(v==l.getD i X)=Y):CP (rndF f126 0) (ixUL l v i).st .ret (Tg.st ⟨tm 19 [(4,int i)],[],60⟩):=by
 exact sF [] [] (Ftb 9 (O ((i:Int)<(l.length:Int))) (Fek 14 wdv l (↑i) i (Ft 16 ‹(v==l.getD i X)=Y› Fz)))
def Zqh(l:List Int)(v:Int):CP (rndF f126 0) (ixUL l v l.length).st (.ext 0) (Tg.st ⟨tm 19 [(4,int 0)],[],60⟩):=by
 exact sF [] [] (Ffb 9 (O ((l.length:Int)<(l.length:Int))) Fz)
def ZoK(l:List Int)(v:Int)(hl:l.length<=1048576)(h:¬ v∈l)  := Z0a (S:=λj=>(ixUL l v j).st) l.length (by kernel_rfl) (λj hj=>Zfp l v j hl hj (Z5v (by rcases LV j (Z2z l v)with q | q;exact q;exact absurd (firstI_mem.1 (by omega)) h)).2) (Zqh l v)
def ZmT(l:List Int)(v:Int)(hl:l.length<=1048576)(h:v∈l):CP (blkF f126 0) (Tg.st ⟨tm 19 [(0,Z01 l),(1,u64 v),(4,int 0),(7,int l.length),(8,int 0)],[],3⟩) .ret (Tg.st ⟨tm 19 [(4,int (Z2z l v))],[],60⟩) :=
 have h1:Z2z l v<l.length:=firstI_mem.2 h
 Z0H (S:=λj=>(ixUL l v j).st) (Z2z l v) kr (λj hj=>Zfp l v j hl oq (Z5v hj).2) (ZlW l v (Z2z l v) hl h1 (Z7C h1))
def ixIL(l:List Int)(v:Int)(i:Nat):Tg:=⟨tm 19 [(0,Z0r l),(1,int v),(4,int 0),(7,int l.length),(8,int i)],[],3⟩
def ZgB(l:List Int)(v:Int)(i:Nat)(hl:l.length<=1048576)(hi:i<l.length)(e:(v==l.getD i X)=M):CP (rndF f181 0) (ixIL l v i).st .nrm (ixIL l v (i+1)).st:=by
 exact sF [] [] (Ftb 9 (O ((i:Int)<(l.length:Int))) (Fek 14 idv l (↑i) i (Ff 16 ‹(v==l.getD i X)=M› (Fx 18 i Fz))))
def Zl1(l:List Int)(v:Int)(i:Nat)(hl:l.length<=1048576)(hi:i<l.length)(e:(v==l.getD i X)=Y):CP (rndF f181 0) (ixIL l v i).st .ret (Tg.st ⟨tm 19 [(4,int i)],[],60⟩):=by
 exact sF [] [] (Ftb 9 (O ((i:Int)<(l.length:Int))) (Fek 14 idv l (↑i) i (Ft 16 ‹(v==l.getD i X)=Y› Fz)))
def ZpL(l:List Int)(v:Int):CP (rndF f181 0) (ixIL l v l.length).st (.ext 0) (Tg.st ⟨tm 19 [(4,int 0)],[],60⟩):=by
 exact sF [] [] (Ffb 9 (O ((l.length:Int)<(l.length:Int))) Fz)
def ZnZ(l:List Int)(v:Int)(hl:l.length<=1048576)(h:¬ v∈l)  := Z0a (S:=λj=>(ixIL l v j).st) l.length (by kernel_rfl) (λj hj=>ZgB l v j hl hj (Z5v (by rcases LV j (Z2z l v)with q | q;exact q;exact absurd (firstI_mem.1 (by omega)) h)).2) (ZpL l v)
def ZmW(l:List Int)(v:Int)(hl:l.length<=1048576)(h:v∈l):CP (blkF f181 0) (Tg.st ⟨tm 19 [(0,Z0r l),(1,int v),(4,int 0),(7,int l.length),(8,int 0)],[],3⟩) .ret (Tg.st ⟨tm 19 [(4,int (Z2z l v))],[],60⟩) :=
 have h1:Z2z l v<l.length:=firstI_mem.2 h
 Z0H (S:=λj=>(ixIL l v j).st) (Z2z l v) kr (λj hj=>ZgB l v j hl oq (Z5v hj).2) (Zl1 l v (Z2z l v) hl h1 (Z7C h1))
def Zqc(l:List Int)(v:Int)(hl:l.length<=1048576):GP 126 [Z01 l,u64 v] Y (int (idxI l v)) []:=by
 by_cases h:v∈l
 .have e7:idxI l v=Z2z l v:=if_pos h;rw[e7];exact gF [] func126 [] (Fl 7 wdv l (Fu (@ZmT l v aa aa) Fz))
 .have e7:idxI l v=-1:=if_neg h;rw[e7];exact gF [] func126 [] (Fl 7 wdv l (Fu (@ZoK l v aa aa) Fz))
def Zpj(l:List Int)(v:Int)(hl:l.length<=1048576):GP 181 [Z0r l,int v] Y (int (idxI l v)) []:=by
 by_cases h:v∈l
 .have e7:idxI l v=Z2z l v:=if_pos h;rw[e7];exact gF [] func181 [] (Fl 7 idv l (Fu (@ZmW l v aa aa) Fz))
 .have e7:idxI l v=-1:=if_neg h;rw[e7];exact gF [] func181 [] (Fl 7 idv l (Fu (@ZnZ l v aa aa) Fz))
def Z0W(l:List Int)(v:Int)(hl:l.length<=1048576):GP 76 [Z01 l,u64 v] Y (bool (O (v∈l))) []:=by
 have h:(0<=idxI l v↔v∈l):=by unfold idxI;split<;>simp[*]
 exact gF [] func76 [Y] (Fc 7 (@Zqc l v aa) (Fbs (O (0<=idxI l v)=O (v∈l)) Fz))
def ZdP(l:List Int)(v:Int)(hl:l.length<=1048576):GP 146 [Z0r l,int v] Y (bool (O (v∈l))) []:=by
 have h:(0<=idxI l v↔v∈l):=by unfold idxI;split<;>simp[*]
 exact gF [] func146 [Y] (Fc 7 (@Zpj l v aa) (Fbs (O (0<=idxI l v)=O (v∈l)) Fz))
def Zco(c:Nat):GP 80 [.d (.sc (.slice Lh 0 c))] Y (.ow 0) [.arr 35 1 []] :=
 gspec_ofE [((2:Nat),[Hint.own])] [] [(24002:Nat)] dd func80 [] (φ:=Z0x []) (λ_ h=>nomatch h) kr kr
def Za9(p:Addr)(c:Nat):GP 80 [.d (.sc (.slice (Lb p) 0 c))] Y (.ow 0) [.arr 35 1 []]:=by
 exact gF [24007] func80 [] (Fs 5 (Z wdv []) (Fa (by simp[*]:(Z wdv []).length+([]:List (List DV)).length<=2^30) (Fs 7 (Z wdv []) (Fa (by exact Z1a _:Z0x (Z wdv [])) Fz))))
def Zez(ws:List Int)(hw:ws.length<=1048576)(hne:ws≠[]):GP 80 [Z01 ws] Y (.ow 0) [.arr 35 1 (ws.map wdv)]:=by
 exact gF [24007] func80 [] (Fa (by exact Zgc hne:Z wdv ws≠[]) (FA 5 7 wdv ws (Fa (by exact Z1a _:Z0x (Z wdv ws)) Fz)))
def Z4Q(ws:List Int)(hw:ws.length<=1048576):GP 80 [Z01 ws] Y (.ow 0) [.arr 35 1 (ws.map wdv)]:=by
 by_cases hne:ws=[]
 .subst hne;exact Z6i λp c=>match p with | Lh=>Zco c | Lb p=>Za9 p c
 .exact Zez ws hw hne
def ZdG(c:Nat):GP 135 [.d (.sc (.slice Lh 0 c))] Y (.ow 0) [.arr 3 1 []] :=
 gspec_ofE [((2:Nat),[Hint.own])] [] [(24002:Nat)] dd func135 [] (φ:=Z0x []) (λ_ h=>nomatch h) kr kr
def Zbl(p:Addr)(c:Nat):GP 135 [.d (.sc (.slice (Lb p) 0 c))] Y (.ow 0) [.arr 3 1 []]:=by
 exact gF [24007] func135 [] (Fs 5 (Z idv []) (Fa (by simp[*]:(Z idv []).length+([]:List (List DV)).length<=2^30) (Fs 7 (Z idv []) (Fa (by exact Z3P _:Z0x (Z idv [])) Fz))))
def Zhy(ws:List Int)(hw:ws.length<=1048576)(hne:ws≠[]):GP 135 [Z0r ws] Y (.ow 0) [.arr 3 1 (ws.map idv)]:=by
 exact gF [24007] func135 [] (Fa (by exact Zgc hne:Z idv ws≠[]) (FA 5 7 idv ws (Fa (by exact Z3P _:Z0x (Z idv ws)) Fz)))
def ZhD(ws:List Int)(hw:ws.length<=1048576):GP 135 [Z0r ws] Y (.ow 0) [.arr 3 1 (ws.map idv)]:=by
 by_cases hne:ws=[]
 .subst hne;exact Z6i λp c=>match p with | Lh=>ZdG c | Lb p=>Zbl p c
 .exact Zhy ws hw hne
def Zbz(c:Nat):GP 81 [.d (.sc (.slice Lh 0 c))] Y (.ow 0) [.arr 84 4 []] :=
 gspec_ofE [((2:Nat),[Hint.own])] [] [(24002:Nat)] dd func81 [] (φ:=Z0x []) (λ_ h=>nomatch h) kr kr
def Zaf(p:Addr)(c:Nat):GP 81 [.d (.sc (.slice (Lb p) 0 c))] Y (.ow 0) [.arr 84 4 []]:=by
 exact gF [24007] func81 [] (Fs 5 (Z Page.dv []) (Fa (by simp[*]:(Z Page.dv []).length+([]:List (List DV)).length<=2^30) (Fs 7 (Z Page.dv []) (Fa (by exact Z1O _:Z0x (Z Page.dv [])) Fz))))
def ZeW(l:List Page)(hl:l.length<=1048576):GP 81 [Z0u l] Y (.ow 0) [.arr 84 4 (l.map Page.dv)]:=by
 by_cases hne:l=[]
 .subst hne;exact Z6i λp c=>match p with | Lh=>Zbz c | Lb p=>Zaf p c
 .exact Z6v l hl hne
def Z1D(w:Work)(r:Int):Int:=if r∈w.Q then r else(Z08 (loadA w.heap.W r).1).1
def ZaK(w:Work)(r:Int)(hw:WOk w.heap.W)(hl:w.heap.W.length<=4096)(hq:w.Q.length<=1048576)(h0:0<=r/\r<=18446744073709551615):GP 119 [w.av,u64 r] Y (u64 (Z1D w r)) []:=by
 have h1:=Z0D hw r;rcases bb (O (r∈w.Q))with hc0 | hc0<;>have hc0p:=hc0<;>simp only[bs]at hc0p
 .exact gF [] func119 [Y] (Fh 12 [.call Y (Sx.bool (O (r∈w.Q))) [],.br Y] (Fa (@Z14 w.Q r aa) (Fa hc0 (Fa (by simp[Z1D, *]:r=Z1D w r) Fz))))
 .exact gF [] func119 [Y] (Fh 12 [.call Y (Sx.bool (O (r∈w.Q))) [],.br M] (Fa (@Z14 w.Q r aa) (Fa hc0 (Fc 19 (@Z1W w.heap.W r oq aa) (Fc 24 (@Z3t ((loadA w.heap.W r).1) oq oq) (Fa (by simp[Z1D, *]:(Z08 (loadA w.heap.W r).1).1=Z1D w r) Fz))))))
def ZiF(w:Work)(a:Int)(hw:WOk w.heap.W)(h1:w.heap.W.length<=4096)(h0:0<=a/\a<=18446744073709551615):GP 100 [w.av,u64 a] Y (hdW w a).av []:=by
 have h2:=Z0D hw a;exact gF [] func100 [] (Fc 14 (@Z1W w.heap.W a oq aa) (Fc 19 (@Z3u ((loadA w.heap.W a).1) oq oq) Fz))
def Z64(w:Work)(x:Int):Work:=if Z0M w (ofA w.heap.C x).1=Y/\x∉w.Q then⟨⟨w.heap.C,(Z0F w.heap.W x (objW ⟨0,(hdW w x).length,0⟩)).1,w.heap.P,w.heap.S,w.heap.B⟩,w.old,w.T,w.Q,w.D,⟨w.rep.copied,w.rep.kept,w.rep.filled+1,w.rep.freed,w.rep.cleared,w.rep.steps⟩⟩else w
def fillN(w:Work):Nat->Work
 | 0=>w
 | k+1=>Z64 (fillN w k) (w.old.getD k X)
def Zlf(w:Work)(i:Nat):Tg:=⟨tm 84 [(1,.pt 8001 0 0),(2,.pt 8002 0 0),(3,int i)],[(8002,.box 89 zW),(8001,.box 89 w.cells)],60⟩
structure FOk (w:Work):Prop where
 W:WOk w.heap.W
 wl:w.heap.W.length<=4096
 pl:w.heap.P.length<=64
 ol:w.old.length<=524288
 o:∀ x∈w.old,0<=x/\x<=8192
 tl:w.T.length<=1000000
 ql:w.Q.length<=1000000
def WkOk.fok{w:Work}(h:WkOk w):FOk w:=by
 have h1:=h.mu;have h2:=h.tl;have h3:=h.pl;have h4:=validB_iff.1 h.C;exact⟨h.W,h.wl,by omega,h.ol,h.o,by omega,by omega⟩
def Z61{n:Int}(h:0<=n/\n<=255):Z0d ⟨0,n,0⟩=(1+16*n,0):=by
 have hv:Z0h ⟨0,n,0⟩=Y:=validH_iff.2 ⟨by simp,by simp,h.1,h.2,by simp⟩;rw[Z0d,if_pos hv];simp
section
variable (w:Work) (i:Nat) (hw:FOk w) (hi:i<w.old.length) (hr:0<=w.rep.filled/\w.rep.filled<=1000000)
include hw hi hr
theorem ZkD:CP (rndF f121 0) (Zlf w i).st .nrm (Zlf (Z64 w (w.old.getD i X)) (i+1)).st:=by
 have h1:=hw.W;have h2:=hw.wl;have h3:=hw.pl;have h4:=hw.ol;have h5:=hw.tl;have h6:=hw.ql;have hx:=hw.o _ (getD_mem_iff.2 ⟨i,hi,rfl⟩);have hm:=Z1q (loadA w.heap.W (w.old.getD i X)).1 (Z0D h1 _).1;have hh:0<=(hdW w (w.old.getD i X)).length/\(hdW w (w.old.getD i X)).length<=255:=Z0b w.heap.W (w.old.getD i X);have he:=Z61 hh;by_cases c1:Z0M w (ofA w.heap.C (w.old.getD i X)).1=Y
 .by_cases c2:w.old.getD i X∈w.Q
  .have e7:Z64 w (w.old.getD i X)=w:=by rw[Z64,if_neg (by rintro⟨_,q⟩;exact q c2)]
   rw[e7];exact sF [] [] (FN 13 14 24 wdv w.old i (Fc 26 (@Z56 w.heap.C (w.old.getD i X) oq oq) (Fc 32 (@Z2a w ((ofA w.heap.C (w.old.getD i X)).1) oq oq) (FeG 40 (!!Z0M w (ofA w.heap.C (w.old.getD i X)).1) wdv w.old (↑i) i (FcG 42 (!!Z0M w (ofA w.heap.C (w.old.getD i X)).1) (λhg=>by(try simp only[bs]at hg);exact @Z14 w.Q (w.old.getD i X) oq) (Fts 43 (!Z0M w (ofA w.heap.C (w.old.getD i X)).1||O (w.old.getD i X∈w.Q)) (Fx 16 i Fz)))))))
  .have e7:Z64 w (w.old.getD i X)=⟨⟨w.heap.C,(Z0F w.heap.W (w.old.getD i X) (objW ⟨0,(hdW w (w.old.getD i X)).length,0⟩)).1,w.heap.P,w.heap.S,w.heap.B⟩,w.old,w.T,w.Q,w.D,⟨w.rep.copied,w.rep.kept,w.rep.filled+1,w.rep.freed,w.rep.cleared,w.rep.steps⟩⟩:=by rw[Z64,if_pos ⟨c1,c2⟩]
   rw[e7];exact sF [] [] (Fh 71 [.els (Z wdv ([(Z0d (Header.mk 0 (hdW w (w.old.getD i X)).length 0)).1]++Lp (hdW w (w.old.getD i X)).length.toNat 0))] (FN 13 14 24 wdv w.old i (Fc 26 (@Z56 w.heap.C (w.old.getD i X) oq oq) (Fc 32 (@Z2a w ((ofA w.heap.C (w.old.getD i X)).1) oq oq) (FeG 40 (!!Z0M w (ofA w.heap.C (w.old.getD i X)).1) wdv w.old (↑i) i (FcG 42 (!!Z0M w (ofA w.heap.C (w.old.getD i X)).1) (λhg=>by(try simp only[bs]at hg);exact @Z14 w.Q (w.old.getD i X) oq) (Ffs 43 (!Z0M w (ofA w.heap.C (w.old.getD i X)).1||O (w.old.getD i X∈w.Q)) (Fek 48 wdv w.old (↑i) i (Fc 50 (@ZiF w (w.old.getD i X) aa aa oq) (Fc 55 (@Z3S (Header.mk 0 (hdW w (w.old.getD i X)).length 0) (by(simp only[bs];omega))) (Fek 65 wdv w.old (↑i) i (Fs 68 (Z wdv [(Z0d (Header.mk 0 (hdW w (w.old.getD i X)).length 0)).1]) (Fa (by grind[objW]:0<=(hdW w (w.old.getD i X)).length/\(↑(Z wdv [(Z0d (Header.mk 0 (hdW w (w.old.getD i X)).length 0)).1]).length:Int)+(hdW w (w.old.getD i X)).length<=2^30) (Fa (by simp[objW,LO,LM,LN,LL,wdv,idv]:Z wdv [(Z0d (Header.mk 0 (hdW w (w.old.getD i X)).length 0)).1]++Lp (hdW w (w.old.getD i X)).length.toNat [du64 0]=Z wdv ([(Z0d (Header.mk 0 (hdW w (w.old.getD i X)).length 0)).1]++Lp (hdW w (w.old.getD i X)).length.toNat 0)) (Fc 72 (@Z5u w.heap.W ([(Z0d (Header.mk 0 (hdW w (w.old.getD i X)).length 0)).1]++Lp (hdW w (w.old.getD i X)).length.toNat 0) (w.old.getD i X) oq oq (by grind[objW])) (Fi 80 (w.rep.filled+1) (Fx 16 i Fz)))))))))))))))))
 .have e7:Z64 w (w.old.getD i X)=w:=by rw[Z64,if_neg (by rintro⟨q,_⟩;exact c1 q)]
  rw[e7];exact sF [] [] (FN 13 14 24 wdv w.old i (Fc 26 (@Z56 w.heap.C (w.old.getD i X) oq oq) (Fc 32 (@Z2a w ((ofA w.heap.C (w.old.getD i X)).1) oq oq) (FeG 40 (!!Z0M w (ofA w.heap.C (w.old.getD i X)).1) wdv w.old (↑i) i (FcG 42 (!!Z0M w (ofA w.heap.C (w.old.getD i X)).1) (λhg=>by(try simp only[bs]at hg);exact @Z14 w.Q (w.old.getD i X) oq) (Fts 43 (!Z0M w (ofA w.heap.C (w.old.getD i X)).1||O (w.old.getD i X∈w.Q)) (Fx 16 i Fz)))))))
end
def Zol(w:Work):CP (rndF f121 0) (Zlf w w.old.length).st (.ext 0) (Tg.st ⟨tm 84 [(1,.pt 8001 0 0),(2,.pt 8002 0 0)],[(8002,.box 89 zW),(8001,.box 89 w.cells)],60⟩):=by
 exact sF [] [] (FO 13 14 wdv w.old Fz)
def ZkS(w:Work)(x:Int):∃ l n,Z64 w x=⟨⟨w.heap.C,l,w.heap.P,w.heap.S,w.heap.B⟩,w.old,w.T,w.Q,w.D,⟨w.rep.copied,w.rep.kept,n,w.rep.freed,w.rep.cleared,w.rep.steps⟩⟩/\l.length<=w.heap.W.length/\(WOk w.heap.W->WOk l)/\w.rep.filled<=n/\n<=w.rep.filled+1:=by
 unfold Z64;split
 .refine⟨_,_,rfl,Z9B _ _ _,λh=>Z6A h ?_ _,by omega,by omega⟩;intro y hy;have hh:0<=(hdW w x).length/\(hdW w x).length<=255:=Z0b w.heap.W x;simp only[objW,LQ,Xa,Z61 hh]at hy;rcases hy with rfl | ⟨_,rfl⟩<;>omega
 .exact⟨w.heap.W,w.rep.filled,rfl,Lq _,λh=>h,by omega,by omega⟩
def Z5V(w:Work)(hw:FOk w):∀ k,FOk (fillN w k)/\(fillN w k).heap.C=w.heap.C/\(fillN w k).heap.P=w.heap.P/\(fillN w k).heap.S=w.heap.S/\(fillN w k).heap.B=w.heap.B/\(fillN w k).old=w.old/\(fillN w k).T=w.T/\(fillN w k).Q=w.Q/\(fillN w k).rep.freed=w.rep.freed/\(fillN w k).rep.cleared=w.rep.cleared/\w.rep.filled<=(fillN w k).rep.filled/\(fillN w k).rep.filled<=w.rep.filled+k
 | 0=>⟨hw,rfl,rfl,rfl,rfl,rfl,rfl,rfl,rfl,rfl,by simp[fillN],by simp[fillN]⟩
 | k+1=>by
  obtain⟨i0,i1,i2,i3,i4,i5,i6,i7,i8,i9,i10,i11⟩:=Z5V w hw k;obtain⟨l,n,e,e1,e2,e3,e4⟩:=ZkS (fillN w k) (w.old.getD k X);have:fillN w (k+1)=_:=e;rw[this];have hl:=i0.wl;exact⟨⟨e2 i0.W,by simp only;omega,i0.pl,i0.ol,i0.o,i0.tl,i0.ql⟩,i1,i2,i3,i4,i5,i6,i7,i8,i9,by simp only;omega,by simp only;omega⟩
section
variable (w:Work) (hw:FOk w) (hr:w.rep.filled=0)
include hw hr
theorem Zmy:CP (blkF f121 0) (Tg.st ⟨tm 84 [(1,.pt 8001 0 0),(2,.pt 8002 0 0),(3,int 0)],[(8002,.box 89 zW),(8001,.box 89 w.cells)],60⟩) .nrm (Tg.st ⟨tm 84 [(1,.pt 8001 0 0),(2,.pt 8002 0 0)],[(8002,.box 89 zW),(8001,.box 89 (fillN w w.old.length).cells)],60⟩):=by
 have hol:=hw.ol;refine Z0a (S:=λk=>(Zlf (fillN w k) k).st) w.old.length kr (λk hk=>?_) ?_
 .have h:=Z5V w hw k;have:=ZkD (fillN w k) k h.1 (by rw[h.2.2.2.2.2.1];exact hk) oq;rw[h.2.2.2.2.2.1]at this;exact this
 .have h:=Z5V w hw w.old.length;have:=Zol (fillN w w.old.length);rw[h.2.2.2.2.2.1]at this;exact this
theorem Zd6:GP 121 [w.av] M (fillN w w.old.length).av []:=by
 exact gF [] func121 [] (Fu (@Zmy w aa aa) Fz)
end
end Go.Proofs.YtdhchmlalchgeaaGreat
