/-
 The statement ScanAll: part 10.
 Conditions: none.
-/
import Derived.Test.YtdhchmlalchgeaaGreatM9
set_option maxRecDepth 100000
set_option maxHeartbeats 2000000
set_option linter.all false
open Inhabited renaming default->X
open Bool renaming true->Y,false->M,and_eq_true->LS
open List renaming map->Z,getD_eq_getElem?_getD->La,range->Le,take->Lg,length_map->Li,getElem?_eq_getElem->Lk,drop->Ll,find?_range_eq_some->Lm,mem_range->Ln,mem_append_left->Lo,find?_eq_none->Lp,mem_append->Lq,getElem?_eq_none->Lv,length_set->Lw,getElem?_drop->Ly,mem_singleton->Lz,getElem?_eq_some_iff->LG,mem_append_right->LH,replicate->LI,append_nil->LK,mem_iff_getElem->LL,mem_or_eq_of_mem_set->LM,takeWhile_cons->LN,append_assoc->LX,ext_getElem->LY,getElem_map->LZ,getElem_range->L0,getElem_set->L1,length_cons->L2,map_append->L3,map_drop->L4,map_set->L5,map_take->L6,mem_cons->L7,mem_of_getElem?->L8,mem_of_mem_take->L9,not_mem_nil->Xa,pairwise_cons->Xb,pairwise_iff_getElem->Xc,set_set->Xd
open Decidable renaming decide->O,not_not->Lx
open Option renaming some->Lb,none->Lh
open Or renaming inr->Lc,inl->Ld
open Go.IntKind renaming u64->Lf,i64->Lu
open Int renaming mul_comm->Lj,mul_nonneg->Ls,toNat->Lt,add_mul->LD,mul_le_mul_of_nonneg_right->LF,eq_ofNat_of_zero_le->LJ,emod_lt_of_pos->LU,mul_ediv_add_emod->LV,toNat_natCast->LW
open Nat renaming le_refl->Lr,ble->LA,le_of_ble_eq_true->LB,lt_or_ge->LO,beq->Xe,eq_of_beq_eq_true->Xf,mod_eq_of_lt->Xg,pow_le_pow_right->Xh,zero_add->Xi
open BitVec renaming ofInt->LC,ofInt_natCast->LQ,toNat_ofNat->LR
open Go.Proofs.Tryz
namespace Go.Proofs.YtdhchmlalchgeaaGreat
open Go.Sx
def ZhP{α:Type}(p:α->Bool):∀ (l:List α) (m:Nat),m<(l.takeWhile p).length->∃ h:m<l.length,p l[m]=Y
 | [],m,h=>by simp at h
 | x::l,m,h=>by
  rw[LN]at h;split at h
  .rename_i hp;cases m with
   | zero=>exact⟨by simp,hp⟩
   | succ m =>
    obtain⟨h1,h2⟩:=ZhP p l m (by simpa using h);exact⟨by simp;omega,by simpa using h2⟩
  .simp at h
def ZaE{α:Type}(p:α->Bool):∀ (l:List α) (h:(l.takeWhile p).length<l.length),p l[(l.takeWhile p).length]=M
 | [],h=>by simp at h
 | x::l,h=>by
  by_cases hp:p x=Y
  .have e:((x::l).takeWhile p).length=(l.takeWhile p).length+1:=by rw[LN,if_pos hp];rfl
   have:=ZaE p l (by simp only[e,L2]at h;omega);simp only[e,List.getElem_cons_succ];exact this
  .have e:((x::l).takeWhile p).length=0:=by rw[LN,if_neg hp];rfl
   simp only[e,List.getElem_cons_zero];simpa using hp
def Z6h{l:List Page}{i m:Nat}(h:m<Z0k l i):i+1+m<l.length/\(l.getD (i+1+m) X).K=3:=by
 obtain⟨h1,h2⟩:=ZhP _ _ _ h;have h3:i+1+m<l.length:=by simp at h1;omega
 refine⟨h3, ?_⟩;simpa[La,h3]using h2
def Zco{l:List Page}{i:Nat}(h:i+1+Z0k l i<l.length):¬ (l.getD (i+1+Z0k l i) X).K=3:=by
 have h2:=ZaE (λp:Page=>p.K==3) (l.drop (i+1)) (by simp;unfold Z0k at h;omega);intro h3;have h4:(l.drop (i+1))[Z0k l i]' qo=l.getD (i+1+Z0k l i) X:=by simp[La,h]
 have h5:(((l.drop (i+1))[Z0k l i]' qo).K==3)=M:=h2;rw[h4,h3]at h5;simp at h5
def Zb9{l:List Page}{i:Nat}(s:Int):Z0s l i 0 s=l.set i (Z8Z s (l.getD i X)):=by
 refine LY (by simp[Z0s]) λj h1 h2=>?_;have h:j<l.length:=by simpa using h2
 have e:l.getD j X=l[j]:=by simp[La,h]
 simp only[Z0s,LZ,L0,L1,e];by_cases hj:i=j
 .subst hj;rw[if_pos oq,if_pos rfl,e]
 .rw[if_neg oq,if_neg hj]
def ZaD{l:List Page}{i m:Nat}(s:Int)(h:i+1+m<l.length):(Z0s l i m s).set (i+1+m) (Z8Z s (l.getD (i+1+m) X))=Z0s l i (m+1) s:=by
 refine LY (by simp[Z0s]) λj h1 h2=>?_;have h:j<l.length:=by simpa[Z0s]using h2
 have e:l.getD j X=l[j]:=by simp[La,h]
 simp only[Z0s,LZ,L0,L1,e];by_cases hj:i+1+m=j
 .subst hj;rw[if_pos rfl,if_pos oq,e]
 .rw[if_neg hj];by_cases hk:i<=j/\j<=i+m
  .rw[if_pos hk,if_pos oq]
  .rw[if_neg hk,if_neg oq]
def Z8h{l:List Page}{i m:Nat}(s:Int):(Z0s l i m s).getD (i+1+m) X=l.getD (i+1+m) X:=by
 by_cases h:i+1+m<l.length
 .rw[Z1v h,if_neg oq]
 .rw[La,La,Lv (by rw[Z1m];omega),Lv oq]
def fwdL(w:Work)(r x:Int)(m:Nat):Tg:=⟨tm 202 [(1,u64 r),(2,.pt 8002 0 0),(4,.pt 8004 0 0),(5,u64 0),(6,int 0),(14,int (x+1+m))],[(88094,.arr 84 4 ((Z0s w.heap.P x.toNat m (1-w.heap.S)).map Page.dv)),(8002,.box 89 [int w.heap.C.pw,int w.heap.C.pg,Z01 w.heap.W,.ow 88094,int w.heap.S,int w.heap.B,Z01 w.old,Z0j w.T,Z01 w.Q,int w.D,int w.rep.copied,int w.rep.kept,int w.rep.filled,int w.rep.freed,int w.rep.cleared,int w.rep.steps]),(8004,.box 89 zW)],60⟩
def ZlL(w:Work)(r x:Int)(m:Nat)(hs:w.heap.S=0\/w.heap.S=1)(hl:w.heap.P.length<=1048576)(hx:0<=x)(hm:m<Z0k w.heap.P x.toNat):CP (rndF f45 0) (fwdL w r x m).st .nrm (fwdL w r x (m+1)).st:=by
 have ht:=Z6h hm;have ha:=Z8h (l:=w.heap.P) (i:=x.toNat) (m:=m) (1-w.heap.S);have hn:=Z1m w.heap.P x.toNat m (1-w.heap.S);have hq:=ZaD (1-w.heap.S) ht.1;unfold Z8Z at hq;rw[<- ha]at hq ht;have eN:x.toNat+1+m=(x+1+(m:Int)).toNat:=by omega
 have eI:((x.toNat+1+m:Nat):Int)=x+1+(m:Int):=by omega
 rw[eN]at ha hq ht;let y1:=Z0s w.heap.P x.toNat m (1-w.heap.S);let y2:=x+1+(m:Int);let y0:=y1.getD y2.toNat X;let y3:=x+1+(m:Int)<(y1.length:Int);let y4:=Page.mk y0.K (1-w.heap.S) y0.U y0.N;exact sF [] (fP 13) (Fl 113 Page.dv (Z0s w.heap.P x.toNat m ((1:Int)-w.heap.S)) (FmGq 122 (decide y3) Page.dv y1 y2 (Ftb 124 (decide y3&&y0.K==3) (Fi 134 (1-w.heap.S) (Fm0q Page.dv y1 y2 (FS 10136 Page.dv y1 (y2.toNat) y4 (y0.dv) (Fi 126 (x+1+(m:Int)+1) (Fo (x+1+(m:Int)+1=x+1+(↑(m+1):Int)) (Fr (84:Int) (Fa (by refine congrArg _ ?_;exact hq:Z Page.dv (y1.set y2.toNat y4)=Z Page.dv (Z0s w.heap.P x.toNat (m+1) (1-w.heap.S))) Fz))))))))))
def ZpD(w:Work)(r x:Int)(hl:w.heap.P.length<=1048576)(hx:0<=x):CP (rndF f45 0) (fwdL w r x (Z0k w.heap.P x.toNat)).st (.ext 0) (Tg.st ⟨tm 202 [(1,u64 r),(2,.pt 8002 0 0),(4,.pt 8004 0 0),(5,u64 0),(6,int 0)],[(88094,.arr 84 4 ((Z0s w.heap.P x.toNat (Z0k w.heap.P x.toNat) (1-w.heap.S)).map Page.dv)),(8002,.box 89 [int w.heap.C.pw,int w.heap.C.pg,Z01 w.heap.W,.ow 88094,int w.heap.S,int w.heap.B,Z01 w.old,Z0j w.T,Z01 w.Q,int w.D,int w.rep.copied,int w.rep.kept,int w.rep.filled,int w.rep.freed,int w.rep.cleared,int w.rep.steps]),(8004,.box 89 zW)],60⟩):=by
 have ht:=λh=>Zco (l:=w.heap.P) (i:=x.toNat) h;have ha:=Z8h (l:=w.heap.P) (i:=x.toNat) (m:=Z0k w.heap.P x.toNat) (1-w.heap.S);have hn:=Z1m w.heap.P x.toNat (Z0k w.heap.P x.toNat) (1-w.heap.S)
 have eN:x.toNat+1+Z0k w.heap.P x.toNat=(x+1+(Z0k w.heap.P x.toNat:Int)).toNat:=by omega
 rw[<- ha,eN]at ht;exact sF [] [] (Fl 113 Page.dv (Z0s w.heap.P x.toNat (Z0k w.heap.P x.toNat) ((1:Int)-w.heap.S)) (FmGq 122 (O (x+1+(↑(Z0k w.heap.P x.toNat):Int)<(↑(Z0s w.heap.P x.toNat (Z0k w.heap.P x.toNat) (1-w.heap.S)).length:Int))) Page.dv (Z0s w.heap.P x.toNat (Z0k w.heap.P x.toNat) (1-w.heap.S)) (x+1+(↑(Z0k w.heap.P x.toNat):Int)) (Ffb 124 (O (x+1+(↑(Z0k w.heap.P x.toNat):Int)<(↑(Z0s w.heap.P x.toNat (Z0k w.heap.P x.toNat) (1-w.heap.S)).length:Int))&&((Z0s w.heap.P x.toNat (Z0k w.heap.P x.toNat) (1-w.heap.S)).getD (x+1+(↑(Z0k w.heap.P x.toNat):Int)).toNat X).K==3) Fz)))
section
variable (w:Work) (r:Int) (hw:WkOk w) (h0:0<=r/\r<=18446744073709551615) (c1:r≠0) (c2:r∉w.Q) (c3:r∈w.old) (c4:(Z08 (loadA w.heap.W r).1).2=M) (c5:(ofA w.heap.C r).2.2=0)
include hw h0 c1 c2 c3 c4 c5
theorem Zid(c6:Z0M w (ofA w.heap.C r).1=Y):GP 45 [w.av,u64 r] M (.tu [(w.keep r).av,u64 r,int 0]) []:=by
 have h1:=hw.mu;have h2:=hw.ol;have h3:=hw.wl;have h4:=Z0E hw.W r;have h11:=Z1s (loadA w.heap.W r).1 h4.1;have h5:=hw.pl;have h6:=validB_iff.1 hw.C;have h7:=hw.tl;have h8:=Z2M hw.C c5;have Q0 {h_ c_ p_} (r_:Fq h_ c_ p_):=FcG 29 (!r==0) (λhg=>by(try simp only[bs]at hg);exact @Z13 w.Q r oq) r_;rcases bb (r==0||O (r∈w.Q))with hc0 | hc0<;>have hc0p:=hc0<;>simp only[bs]at hc0p
 .rw[show w.keep r=w from by grind[]];exact gF [] func45 [] (Q0 (Ft 30 hc0 Fz))
 .obtain⟨hc0pa,hc0pb⟩:=hc0p;let y0:=ofA w.heap.C r;exact gF [] func45 [] (Fh 73 [.br M] (Fh 77 [.call Y (Sx.bool (Z0M w y0.1)) [],.br Y] (Q0 (Ff 30 hc0 (Fc 36 (@Z13 w.old r oq) (Ffb 37 (!decide (r∈w.old)) (Fc 44 (@Z1W w.heap.W r oq aa) (Fc 49 (@Z3w ((loadA w.heap.W r).1) oq oq) (Fa ‹(Z08 (loadA w.heap.W r).1).2=M› (Fc 60 (@Z58 w.heap.C r oq oq) (FlG 71 (!y0.2.2 != 0) Page.dv w.heap.P (Ffb 52 (y0.2.2 != 0||O ((w.heap.P.length:Int)<=y0.1)) (Fa (@Z29 w (y0.1) oq oq) (Fa ‹Z0M w y0.1=Y› (Fc 80 (@Zdf w r aa) Fz)))))))))))))))
theorem Zj8(c6:Z0M w (ofA w.heap.C r).1=M)(c7:¬ (w.heap.P.getD (Z18 w r) X).K=2)(c8:(w.place (sizeH (hdW w r))).2.2=M):GP 45 [w.av,u64 r] M (.tu [noWork.av,u64 0,int 3]) []:=by
 have h1:=hw.mu;have h2:=hw.ol;have h3:=hw.wl;have h4:=Z0E hw.W r;have h11:=Z1s (loadA w.heap.W r).1 h4.1;have h5:=hw.pl;have h6:=validB_iff.1 hw.C;have h7:=hw.tl;have h8:=Z2M hw.C c5;have h9:=Z2N w r;unfold Z18 at c7;unfold hdW at h9 c8;have Q0 {h_ c_ p_} (r_:Fq h_ c_ p_):=FcG 29 (!r==0) (λhg=>by(try simp only[bs]at hg);exact @Z13 w.Q r oq) r_;rcases bb (r==0||O (r∈w.Q))with hc0 | hc0<;>have hc0p:=hc0<;>simp only[bs]at hc0p
 .rw[show noWork=w from by grind[noWork,noHeap]];exact gF [] func45 (fO 4) (Q0 (Ft 30 hc0 (Fr w.heap.C.pw (Fr w.heap.C.pg (Fr (Z wdv w.heap.W) (Fr (Z Page.dv w.heap.P) (Fr w.heap.S (Fr w.heap.B (Fr (Z wdv w.old) (Fr (Z idv w.T) (Fr (Z wdv w.Q) (Fr w.D (Fr w.rep.copied (Fr w.rep.kept (Fr w.rep.filled (Fr w.rep.freed (Fr w.rep.cleared (Fr w.rep.steps (Fa (by grind[noWork,noHeap]:r=0) (Fa (by grind[noWork,noHeap]:(0:Int)=3) Fz))))))))))))))))))))
 .obtain⟨hc0pa,hc0pb⟩:=hc0p;let y0:=ofA w.heap.C r;let y1:=loadA w.heap.W r;exact gF [] func45 [] (Fh 77 [.call Y (Sx.bool (Z0M w y0.1)) [],.br M] (Fh 89 [.br M] (Q0 (Ff 30 hc0 (Fc 36 (@Z13 w.old r oq) (Ffb 37 (!decide (r∈w.old)) (Fc 44 (@Z1W w.heap.W r oq aa) (Fc 49 (@Z3w (y1.1) oq oq) (Fa ‹(Z08 y1.1).2=M› (Fc 60 (@Z58 w.heap.C r oq oq) (FlG 71 (!y0.2.2 != 0) Page.dv w.heap.P (Ffb 52 (y0.2.2 != 0||O ((w.heap.P.length:Int)<=y0.1)) (Fa (@Z29 w (y0.1) oq oq) (Fa ‹Z0M w y0.1=M› (Fe 86 Page.dv w.heap.P (y0.1) (Ffb 73 ((w.heap.P.getD y0.1.toNat X).K==2) (Fc 143 (@Z3v (y1.1) oq oq) (Fc 147 (@Z2p ((decodeH y1.1).1) aa) (Fc 151 (@ZaF w (sizeH (decodeH y1.1).1) aa aa) (Ftb 156 (!(w.place (sizeH (decodeH y1.1).1)).2.2) (Fnl (Fnl (Fnl (Fnl (Fnl Fz)))))))))))))))))))))))))
theorem Zi6(c6:Z0M w (ofA w.heap.C r).1=M)(c7:¬ (w.heap.P.getD (Z18 w r) X).K=2)(c8:(w.place (sizeH (hdW w r))).2.2=Y):GP 45 [w.av,u64 r] M (.tu [((w.place (sizeH (hdW w r))).1.copy r (w.place (sizeH (hdW w r))).2.1 (sizeH (hdW w r))).av,u64 (w.place (sizeH (hdW w r))).2.1,int 0]) []:=by
 have h1:=hw.mu;have h2:=hw.ol;have h3:=hw.wl;have h4:=Z0E hw.W r;have h11:=Z1s (loadA w.heap.W r).1 h4.1;have h5:=hw.pl;have h6:=validB_iff.1 hw.C;have h7:=hw.tl;have h8:=Z2M hw.C c5;have h9:=Z2N w r;have h10:=hw.rk;obtain⟨i,p,t,d1,d2,d3,d4,d4',d5,d6,d7,d8,d9,e⟩:=Z6g hw h9.1 c8;have e1:=congrArg (λw=>w.heap.W) e;have e2:=congrArg (λw=>w.Q) e;have e3:=congrArg (λw=>w.rep) e;have e3c:=congrArg (λw=>w.rep.copied) e;simp only at e1 e2 e3 e3c;have l1:=Zg5 w.heap.W (w.place (sizeH (hdW w r))).2.1 r (sizeH (hdW w r));unfold Z18 at c7;unfold hdW at *;have Q0 {h_ c_ p_} (r_:Fq h_ c_ p_):=FcG 29 (!r==0) (λhg=>by(try simp only[bs]at hg);exact @Z13 w.Q r oq) r_;rcases bb (r==0||O (r∈w.Q))with hc0 | hc0<;>have hc0p:=hc0<;>simp only[bs]at hc0p
 .rw[show(w.place (sizeH (decodeH (loadA w.heap.W r).1).1)).1.copy r (w.place (sizeH (decodeH (loadA w.heap.W r).1).1)).2.1 (sizeH (decodeH (loadA w.heap.W r).1).1)=w from by grind[Work.copy]];exact gF [] func45 (fO 4) (Q0 (Ft 30 hc0 (Fr w.heap.C.pw (Fr w.heap.C.pg (Fr (Z wdv w.heap.W) (Fr (Z Page.dv w.heap.P) (Fr w.heap.S (Fr w.heap.B (Fr (Z wdv w.old) (Fr (Z idv w.T) (Fr (Z wdv w.Q) (Fr w.D (Fr w.rep.copied (Fr w.rep.kept (Fr w.rep.filled (Fr w.rep.freed (Fr w.rep.cleared (Fr w.rep.steps (Fa (by grind[Work.copy]:r=(w.place (sizeH (decodeH (loadA w.heap.W r).1).1)).2.1) (Fr (0:Int) Fz))))))))))))))))))))
 .obtain⟨hc0pa,hc0pb⟩:=hc0p;let y1:=ofA w.heap.C r;let y2:=loadA w.heap.W r;let y0:=w.place (sizeH (decodeH y2.1).1);let y3:=sizeH (decodeH y2.1).1;exact gF [] func45 [] (Fh 77 [.call Y (Sx.bool (Z0M w y1.1)) [],.br M] (Fh 156 [.br M] (Fh 192 [.els (Z wdv (y0.1.Q++[y0.2.1]))] (Q0 (Ff 30 hc0 (Fc 36 (@Z13 w.old r oq) (Ffb 37 (!decide (r∈w.old)) (Fc 44 (@Z1W w.heap.W r oq aa) (Fc 49 (@Z3w (y2.1) oq oq) (Fa ‹(Z08 y2.1).2=M› (Fc 60 (@Z58 w.heap.C r oq oq) (FlG 71 (!y1.2.2 != 0) Page.dv w.heap.P (Ffb 52 (y1.2.2 != 0||O ((w.heap.P.length:Int)<=y1.1)) (Fa (@Z29 w (y1.1) oq oq) (Fa ‹Z0M w y1.1=M› (Fe 86 Page.dv w.heap.P (y1.1) (Ffb 73 ((w.heap.P.getD y1.1.toNat X).K==2) (Fc 143 (@Z3v (y2.1) oq oq) (Fc 147 (@Z2p ((decodeH y2.1).1) aa) (Fc 151 (@ZaF w y3 aa aa) (Ffb 89 (!y0.2.2) (Fc 165 (@ZlH (y0.1.heap.W) (y0.2.1) r y3 (by grind[Work.copy]) oq aa) (Fc 172 (@Zeb (y0.2.1) oq oq) (Fc 181 (@Z9P ((moveA y0.1.heap.W y0.2.1 r y3).1) r (4*y0.2.1+2) (by grind[Work.copy]) aa) (FAx 186 189 wdv y0.1.Q (by grind[Work.copy]) (Fs 191 (Z wdv [y0.2.1]) (Fa (by grind[Work.copy]:(Z wdv y0.1.Q).length+(Z wdv [y0.2.1]).length<=2^30) (Fa (by simp[Work.copy,L6,L4,L5,L3,wdv,idv]:Z wdv y0.1.Q++Z wdv [y0.2.1]=Z wdv (y0.1.Q++[y0.2.1])) (Fi 197 (y0.1.rep.copied+1) Fz)))))))))))))))))))))))))))))
end
def ZpB(w:Work)(r x:Int)(hs:w.heap.S=0\/w.heap.S=1)(hl:w.heap.P.length<=1048576)(hx:0<=x):CP (blkF f45 0) (Tg.st ⟨tm 202 [(1,u64 r),(2,.pt 8002 0 0),(4,.pt 8004 0 0),(5,u64 0),(6,int 0),(14,int (x+1))],[(88094,.arr 84 4 ((w.heap.P.set x.toNat ⟨(w.heap.P.getD x.toNat X).K,1-w.heap.S,(w.heap.P.getD x.toNat X).U,(w.heap.P.getD x.toNat X).N⟩).map Page.dv)),(8002,.box 89 [int w.heap.C.pw,int w.heap.C.pg,Z01 w.heap.W,.ow 88094,int w.heap.S,int w.heap.B,Z01 w.old,Z0j w.T,Z01 w.Q,int w.D,int w.rep.copied,int w.rep.kept,int w.rep.filled,int w.rep.freed,int w.rep.cleared,int w.rep.steps]),(8004,.box 89 zW)],60⟩) .nrm (Tg.st ⟨tm 202 [(1,u64 r),(2,.pt 8002 0 0),(4,.pt 8004 0 0),(5,u64 0),(6,int 0)],[(88094,.arr 84 4 ((Z0s w.heap.P x.toNat (Z0k w.heap.P x.toNat) (1-w.heap.S)).map Page.dv)),(8002,.box 89 [int w.heap.C.pw,int w.heap.C.pg,Z01 w.heap.W,.ow 88094,int w.heap.S,int w.heap.B,Z01 w.old,Z0j w.T,Z01 w.Q,int w.D,int w.rep.copied,int w.rep.kept,int w.rep.filled,int w.rep.freed,int w.rep.cleared,int w.rep.steps]),(8004,.box 89 zW)],60⟩):=by
 have h:=Z0a (S:=λk=>(fwdL w r x k).st) (Z0k w.heap.P x.toNat) kr (λk hk=>ZlL w r x k hs hl hx hk) (ZpD w r x hl hx);have hz:=Zb9 (l:=w.heap.P) (i:=x.toNat) (1-w.heap.S);simp only[fwdL,hz,Z8Z,Int.natCast_zero,Int.add_zero]at h;exact h
section
variable (w:Work) (r:Int) (hw:WkOk w) (h0:0<=r/\r<=18446744073709551615) (c1:r≠0) (c2:r∉w.Q) (c3:r∈w.old) (c4:(Z08 (loadA w.heap.W r).1).2=M) (c5:(ofA w.heap.C r).2.2=0)
include hw h0 c1 c2 c3 c4 c5
theorem Zj5(c6:Z0M w (ofA w.heap.C r).1=M)(c7:(w.heap.P.getD (Z18 w r) X).K=2):GP 45 [w.av,u64 r] M (.tu [((w.flip (Z18 w r)).keep r).av,u64 r,int 0]) []:=by
 have h1:=hw.mu;have h2:=hw.ol;have h3:=hw.wl;have h4:=Z0E hw.W r;have h5:=hw.pl;have h6:=validB_iff.1 hw.C;have h7:=hw.tl;have h8:=Z2M hw.C c5;have h9:=hw.sp;have h10:=ZiP hw (Z18 w r);have h12:(⟨⟨w.heap.C,w.heap.W,Z0s w.heap.P (ofA w.heap.C r).1.toNat (Z0k w.heap.P (ofA w.heap.C r).1.toNat) (1-w.heap.S),w.heap.S,w.heap.B⟩,w.old,w.T,w.Q,w.D,w.rep⟩:Work)=w.flip (Z18 w r):=rfl;unfold Z18 at c7;have Q0 {h_ c_ p_} (r_:Fq h_ c_ p_):=FcG 29 (!r==0) (λhg=>by(try simp only[bs]at hg);exact @Z13 w.Q r oq) r_;rcases bb (r==0||O (r∈w.Q))with hc0 | hc0<;>have hc0p:=hc0<;>simp only[bs]at hc0p
 .rw[show(w.flip (Z18 w r)).keep r=w from by grind[]];exact gF [] func45 [] (Q0 (Ft 30 hc0 Fz))
 .obtain⟨hc0pa,hc0pb⟩:=hc0p;let y0:=ofA w.heap.C r;let y1:=Work.mk (Heap.mk w.heap.C w.heap.W (Z0s w.heap.P y0.1.toNat (Z0k w.heap.P y0.1.toNat) (1-w.heap.S)) w.heap.S w.heap.B) w.old w.T w.Q w.D w.rep;let y2:=w.heap.P.getD y0.1.toNat X;exact gF [] func45 [] (Fh 73 [.br M] (Fh 77 [.call Y (Sx.bool (Z0M w y0.1)) [],.br M] (Fh 139 [.kill (y1.keep r).av] (Q0 (Ff 30 hc0 (Fc 36 (@Z13 w.old r oq) (Ffb 37 (!decide (r∈w.old)) (Fc 44 (@Z1W w.heap.W r oq aa) (Fc 49 (@Z3w ((loadA w.heap.W r).1) oq oq) (Fa ‹(Z08 (loadA w.heap.W r).1).2=M› (Fc 60 (@Z58 w.heap.C r oq oq) (FlG 71 (!y0.2.2 != 0) Page.dv w.heap.P (Ffb 52 (y0.2.2 != 0||O ((w.heap.P.length:Int)<=y0.1)) (Fa (@Z29 w (y0.1) oq oq) (Fa ‹Z0M w y0.1=M› (Fe 86 Page.dv w.heap.P (y0.1) (Ftb 89 (y2.K==2) (FA 90 94 Page.dv w.heap.P (Fi 104 (1-w.heap.S) (Fm0q Page.dv w.heap.P (y0.1) (FS 10106 Page.dv w.heap.P (y0.1.toNat) (Page.mk y2.K (1-w.heap.S) y2.U y2.N) (y2.dv) (Fi 108 (y0.1+1) (Fu (@ZpB w r (y0.1) aa oq oq) (Fa (@Zdf y1 r aa) Fz))))))))))))))))))))))))
end
def Z4g(w:Work)(r:Int)(hw:WkOk w)(h0:0<=r/\r<=18446744073709551615):GP 45 [w.av,u64 r] M (.tu [(w.fwd r).1.av,u64 (w.fwd r).2.1,int (w.fwd r).2.2]) []:=by
 unfold Work.fwd;by_cases c1:r=0\/r∈w.Q
 .rw[if_pos c1];exact ZjL w r hw h0 c1
 .rw[if_neg c1];have c1':r≠0:=λh=>c1 (Ld h);have c2':r∉w.Q:=λh=>c1 (Lc h);by_cases c3:r∈w.old
  .rw[if_neg (by simpa using c3)];by_cases c4:(Z08 (loadA w.heap.W r).1).2=Y
   .rw[if_pos c4];exact Zja w r hw h0 c1' c2' c3 c4
   .rw[if_neg c4];have c4':(Z08 (loadA w.heap.W r).1).2=M:=by simpa using c4
    by_cases c5:(ofA w.heap.C r).2.2=0
    .rw[if_neg (by simpa using c5)];by_cases c6:Z0M w (ofA w.heap.C r).1=Y
     .rw[if_pos c6];exact Zid w r hw h0 c1' c2' c3 c4' c5 c6
     .rw[if_neg c6];have c6':Z0M w (ofA w.heap.C r).1=M:=by simpa using c6
      by_cases c7:(w.heap.P.getD (Z18 w r) X).K=2
      .rw[if_pos c7];exact Zj5 w r hw h0 c1' c2' c3 c4' c5 c6' c7
      .rw[if_neg c7];by_cases c8:(w.place (sizeH (hdW w r))).2.2=M
       .rw[if_pos c8];exact Zj8 w r hw h0 c1' c2' c3 c4' c5 c6' c7 c8
       .rw[if_neg c8];exact Zi6 w r hw h0 c1' c2' c3 c4' c5 c6' c7 (by simpa using c8)
    .rw[if_pos c5];exact Ziz w r hw h0 c1' c2' c3 c4' c5
  .rw[if_pos c3];exact Zk6 w r hw h0 c1' c2' c3
def rootsN(w:Work)(roots:List Int):Nat->Work×List Int
 | 0=>(w,[])
 | k+1=>(((rootsN w roots k).1.fwd (roots.getD k X)).1,(rootsN w roots k).2++[((rootsN w roots k).1.fwd (roots.getD k X)).2.1])
def Z1h(w:Work)(roots:List Int)(k:Nat):Int:=((rootsN w roots k).1.fwd (roots.getD k X)).2.2
def rootsF(w:Work)(roots:List Int):Work×List Int×Int:=match (Le roots.length).find? (λk=>O (Z1h w roots k≠0))with
 | none=>((rootsN w roots roots.length).1,(rootsN w roots roots.length).2,0)
 | some k=>(noWork,[],Z1h w roots k)
def rtsL(w:Work)(roots out:List Int)(i:Nat):Tg:=⟨tm 39 [(1,Z01 roots),(2,.pt 8002 0 0),(4,.pt 8004 0 0),(5,.d (.sl 0 [])),(6,int 0),(7,.ow 16007),(8,int i)],[(16007,.arr 35 1 (out.map wdv)),(8004,.box 89 zW),(8002,.box 89 w.cells)],60⟩
section
variable (w:Work) (roots out:List Int) (i:Nat) (hw:WkOk w) (hr:0<=roots.getD i X/\roots.getD i X<=18446744073709551615) (hl:roots.length<=1048576) (ho:out.length<=1048576) (hi:i<roots.length)
include hw hr hl ho hi
theorem ZfC(e:(w.fwd (roots.getD i X)).2.2=0):CP (rndF f47 0) (rtsL w roots out i).st .nrm (rtsL (w.fwd (roots.getD i X)).1 roots (out++[(w.fwd (roots.getD i X)).2.1]) (i+1)).st:=by
 let y0:=w.fwd (roots.getD i X);exact sF [(504036,16007)] [] (Fh 36 [.els (Z wdv (out++[y0.2.1]))] (FN 14 15 22 wdv roots i (Fc 24 (@Z4g w (roots.getD i X) aa aa) (Ffb 29 (y0.2.2 != 0) (Fs 35 (Z wdv [y0.2.1]) (Fa (by(simp[*];omega):(Z wdv out).length+(Z wdv [y0.2.1]).length<=2^30) (Fa (ms:Z wdv out++Z wdv [y0.2.1]=Z wdv (out++[y0.2.1])) (Fx 17 i Fz))))))))
theorem ZmM(e:¬ (w.fwd (roots.getD i X)).2.2=0):CP (rndF f47 0) (rtsL w roots out i).st .ret (Tg.st ⟨tm 39 [(4,.pt 8004 0 0),(5,.d (.sl 0 [])),(6,int (w.fwd (roots.getD i X)).2.2)],[(8004,.box 89 zW)],60⟩):=by
 exact sF [] [] (FN 14 15 22 wdv roots i (Fc 24 (@Z4g w (roots.getD i X) aa aa) (Ftb 29 ((w.fwd (roots.getD i X)).2.2 != 0) Fz)))
end
def Zr5(w:Work)(roots out:List Int):CP (rndF f47 0) (rtsL w roots out roots.length).st (.ext 0) (Tg.st ⟨tm 39 [(2,.pt 8002 0 0),(4,.pt 8004 0 0),(7,.ow 16007)],[(16007,.arr 35 1 (out.map wdv)),(8004,.box 89 zW),(8002,.box 89 w.cells)],60⟩):=by
 exact sF [] [] (FO 14 15 wdv roots Fz)
def Z2D(w:Work)(roots:List Int):∀ k,(rootsN w roots k).2.length=k
 | 0=>rfl
 | k+1=>by simp[rootsN,Z2D w roots k]
def Z3H{w:Work}{roots:List Int}(hw:WkOk w):∀ k,(∀ j,j<k->Z1h w roots j=0)->WkOk (rootsN w roots k).1/\(∀ x∈(rootsN w roots k).2,0<=x/\x<=4294967296)/\(rootsN w roots k).1.D=w.D
 | 0,_=>⟨hw,by simp[rootsN],rfl⟩
 | k+1,h=>by
  have ih:=Z3H hw k (λj hj=>h j oq);have hf:=fwd_ok ih.1 (roots.getD k X) (h k oq);refine⟨hf.1, ?_, ?_⟩
  .intro x hx;simp only[rootsN,Lq,Lz]at hx;rcases hx with hx | rfl
   .exact ih.2.1 x hx
   .exact⟨hf.2.1,hf.2.2.1⟩
  .show((rootsN w roots k).1.fwd (roots.getD k X)).1.D=w.D;rw[hf.2.2.2.2.1,ih.2.2]
section
variable (w:Work) (roots:List Int) (hw:WkOk w) (hr:ULe roots) (hl:roots.length<=1048575)
include hw hr hl
theorem ZnV(hb:(Le roots.length).find? (λk=>O (Z1h w roots k≠0))=Lh):CP (blkF f47 0) (Tg.st ⟨tm 39 [(1,Z01 roots),(2,.pt 8002 0 0),(4,.pt 8004 0 0),(5,.d (.sl 0 [])),(6,int 0),(7,.ow 16007),(8,int 0)],[(16007,.arr 35 1 []),(8004,.box 89 zW),(8002,.box 89 w.cells)],60⟩) .nrm (Tg.st ⟨tm 39 [(2,.pt 8002 0 0),(4,.pt 8004 0 0),(7,.ow 16007)],[(16007,.arr 35 1 ((rootsN w roots roots.length).2.map wdv)),(8004,.box 89 zW),(8002,.box 89 (rootsN w roots roots.length).1.cells)],60⟩):=by
 have h0:∀ j,j<roots.length->Z1h w roots j=0:=λj hj=>by
  have:=Lp.1 hb j (Ln.2 hj);simpa using this
 exact Z0a (S:=λk=>(rtsL (rootsN w roots k).1 roots (rootsN w roots k).2 k).st) roots.length kr (λk hk=>ZfC _ roots _ k (Z3H hw k λj hj=>h0 j oq).1 (Z5Y hr k) oq (by rw[Z2D];omega) hk (h0 k hk)) (Zr5 _ roots _)
theorem ZlA(i:Nat)(hb:(Le roots.length).find? (λk=>O (Z1h w roots k≠0))=Lb i):CP (blkF f47 0) (Tg.st ⟨tm 39 [(1,Z01 roots),(2,.pt 8002 0 0),(4,.pt 8004 0 0),(5,.d (.sl 0 [])),(6,int 0),(7,.ow 16007),(8,int 0)],[(16007,.arr 35 1 []),(8004,.box 89 zW),(8002,.box 89 w.cells)],60⟩) .ret (Tg.st ⟨tm 39 [(4,.pt 8004 0 0),(5,.d (.sl 0 [])),(6,int (Z1h w roots i))],[(8004,.box 89 zW)],60⟩):=by
 obtain⟨h1,h2,h3⟩:=Lm.1 hb;have h2:=Ln.1 h2;have h0:∀ j,j<i->Z1h w roots j=0:=λj hj=>by simpa using h3 j hj
 exact Z0A (S:=λk=>(rtsL (rootsN w roots k).1 roots (rootsN w roots k).2 k).st) i kr (λk hk=>ZfC _ roots _ k (Z3H hw k λj hj=>h0 j oq).1 (Z5Y hr k) oq (by rw[Z2D];omega) oq (h0 k hk)) (ZmM _ roots _ i (Z3H hw i h0).1 (Z5Y hr i) oq (by rw[Z2D];omega) h2 (of_decide_eq_true h1))
theorem Z4K:GP 47 [w.av,Z01 roots] M (.tu [(rootsF w roots).1.av,Z01 (rootsF w roots).2.1,int (rootsF w roots).2.2]) []:=by
 cases hb:(Le roots.length).find? (λk=>O (Z1h w roots k≠0))with
 | none =>
  have e7:rootsF w roots=((rootsN w roots roots.length).1,(rootsN w roots roots.length).2,0):=by rw[rootsF,hb]
  rw[e7];exact gF [] func47 [] (Fh 7 [.own] (Fu (@ZnV w roots aa aa aa aa) Fz))
 | some i =>
  have e7:rootsF w roots=(noWork,[],Z1h w roots i):=by rw[rootsF,hb]
  rw[e7];exact gF [] func47 [] (Fh 7 [.own] (Fu (@ZlA w roots aa aa aa i aa) (Fnl (Fnl (Fnl (Fnl (Fnl (Fnl Fz))))))))
end
def Z0W(h:Header):Nat->List Int
 | 0=>[]
 | i+1=>if Z0e h (i:Int)=Y then Z0W h i++[(i:Int)]else Z0W h i
def Z4y(h:Header):∀ i,(Z0W h i).length<=i
 | 0=>Lr _
 | i+1=>by
  have:=Z4y h i;simp only[Z0W];split<;>simp<;>omega
def Z03(h:Header):List Int:=if Z0h h=Y then Z0W h h.length.toNat else []
def Zjw(h:Header)(i:Nat):Tg:=⟨tm 23 [(1,.pt 8001 0 0),(3,.ow 16003),(4,int i)],[(16003,.arr 3 1 ((Z0W h i).map idv)),(8001,.box 52 [int h.K,int h.length,u32 h.map])],60⟩
def Zk0(h:Header)(i:Nat)(hm:0<=h.map/\h.map<=4294967295)(hv:Z0h h=Y)(hb:h.length<=255)(hi:i<h.length):CP (rndF f99 0) (Zjw h i).st .nrm (Zjw h (i+1)).st:=by
 have hn:=Z4y h i;by_cases hp:Z0e h (i:Int)=Y
 .have e:Z0W h (i+1)=Z0W h i++[(i:Int)]:=by rw[Z0W,if_pos hp]
  exact sF [(496021,16003)] (fO 5) (Fh 17 [.call Y (Sx.bool (Z0e h (i:Int))) [],.br Y] (Fh 21 [.els (Z idv (Z0W h i++[(i:Int)]))] (FcG 11 (O ((i:Int)<h.length)) (λhg=>by(try simp only[bs]at hg);exact @Z2t h aa) (Ft 12 (by simp[*]:(O ((i:Int)<h.length)&&Z0h h)=Y) (Fa (@Z1S h ((i:Int)) aa) (Fa ‹Z0e h (i:Int)=Y› (Fs 20 (Z idv [(i:Int)]) (Fa (by(simp[*];omega):(Z idv (Z0W h i)).length+(Z idv [(i:Int)]).length<=2^30) (Fa (ms:Z idv (Z0W h i)++Z idv [(i:Int)]=Z idv (Z0W h i++[(i:Int)])) (Fx 14 i (Fr (3:Int) (Fa (by refine congrArg _ ?_;rw[e]:Z idv (Z0W h i++[(i:Int)])=Z idv (Z0W h (i+1))) Fz))))))))))))
 .have e:Z0W h (i+1)=Z0W h i:=by rw[Z0W,if_neg hp]
  have hp':Z0e h (i:Int)=M:=by simpa using hp
  exact sF [] (fO 5) (Fh 17 [.call Y (Sx.bool (Z0e h (i:Int))) [],.br M] (FcG 11 (O ((i:Int)<h.length)) (λhg=>by(try simp only[bs]at hg);exact @Z2t h aa) (Ft 12 (by simp[*]:(O ((i:Int)<h.length)&&Z0h h)=Y) (Fa (@Z1S h ((i:Int)) aa) (Fa ‹Z0e h (i:Int)=M› (Fx 14 i (Fr (3:Int) (Fa (by refine congrArg _ ?_;rw[e]:Z idv (Z0W h i)=Z idv (Z0W h (i+1))) Fz))))))))
def ZkV(h:Header)(i:Nat)(hm:0<=h.map/\h.map<=4294967295)(hi:h.length<=i\/Z0h h=M):CP (rndF f99 0) (Zjw h i).st (.ext 0) (Tg.st ⟨tm 23 [(3,.ow 16003)],[(16003,.arr 3 1 ((Z0W h i).map idv))],60⟩):=by
 rcases hi with hi | hi
 .exact sF [] [] (FcG 11 (O ((i:Int)<h.length)) (λhg=>by(try simp only[bs]at hg);exact @Z2t h aa) (Ffb 12 (O ((i:Int)<h.length)&&Z0h h) Fz))
 .exact sF [] [] (FcG 11 (O ((i:Int)<h.length)) (λhg=>by(try simp only[bs]at hg);exact @Z2t h aa) (Ff 12 (by simp[*]:(O ((i:Int)<h.length)&&Z0h h)=M) Fz))
def Zn3(h:Header)(hm:0<=h.map/\h.map<=4294967295):CP (blkF f99 0) (Tg.st ⟨tm 23 [(1,.pt 8001 0 0),(3,.ow 16003),(4,int 0)],[(16003,.arr 3 1 []),(8001,.box 52 [int h.K,int h.length,u32 h.map])],60⟩) .nrm (Tg.st ⟨tm 23 [(3,.ow 16003)],[(16003,.arr 3 1 ((Z03 h).map idv))],60⟩):=by
 unfold Z03;by_cases hv:Z0h h=Y
 .rw[if_pos hv];have hb:=validH_iff.1 hv;exact Z0a (S:=λi=>(Zjw h i).st) h.length.toNat kr (λi hi=>Zk0 h i hm hv oq oq) (ZkV h _ hm (.inl oq))
 .rw[if_neg hv];exact Z0a (S:=λi=>(Zjw h i).st) 0 kr (λi hi=>by omega) (ZkV h 0 hm (.inr (by simpa using hv)))
def Z82(h:Header)(hm:0<=h.map/\h.map<=4294967295):GP 99 [h.av] Y (.d (.sl 1 ((Z03 h).map idv))) []:=by
 exact gF [] func99 [] (Fh 3 [.own] (Fu (@Zn3 h aa) (Fa (by exact Z4c _:Z0C (Z idv (Z03 h))) Fz)))
def Work.in1(w:Work)(a:Int):Work:=⟨⟨(w.fwd (loadA w.heap.W a).1).1.heap.C,(Z0L (w.fwd (loadA w.heap.W a).1).1.heap.W a (w.fwd (loadA w.heap.W a).1).2.1).1,(w.fwd (loadA w.heap.W a).1).1.heap.P,(w.fwd (loadA w.heap.W a).1).1.heap.S,(w.fwd (loadA w.heap.W a).1).1.heap.B⟩,(w.fwd (loadA w.heap.W a).1).1.old,(w.fwd (loadA w.heap.W a).1).1.T,(w.fwd (loadA w.heap.W a).1).1.Q,(w.fwd (loadA w.heap.W a).1).1.D,(w.fwd (loadA w.heap.W a).1).1.rep⟩
def innN(w:Work)(a:Int)(l:List Int):Nat->Work
 | 0=>w
 | k+1=>(innN w a l k).in1 (a+1+l.getD k X)
def innE(w:Work)(a:Int)(l:List Int)(k:Nat):Int:=((innN w a l k).fwd (loadA (innN w a l k).heap.W (a+1+l.getD k X)).1).2.2
def Z0U(w:Work):Int:=w.Q.getD w.D.toNat X
def Z0o(w:Work):List Int:=Z03 (hdW w (Z0U w))
def Z3K(w:Work)(n:Int):Work:=⟨w.heap,w.old,w.T,w.Q,w.D+1,⟨w.rep.copied,w.rep.kept,w.rep.filled,w.rep.freed,w.rep.cleared,w.rep.steps+1+n⟩⟩
def Z0y(w:Work):Work×Bool×Int :=
 if w.D<w.Q.length then
  match (Le (Z0o w).length).find? (λk=>O (innE w (Z0U w) (Z0o w) k≠0))with
  | none=>(Z3K (innN w (Z0U w) (Z0o w) (Z0o w).length) (Z0o w).length,Y,0)
  | some k=>(noWork,M,innE w (Z0U w) (Z0o w) k)
 else(w,M,0)
def Znq{w:Work}(hw:WkOk w)(a:Int)(e:(w.fwd (loadA w.heap.W a).1).2.2=0):WkOk (w.in1 a)/\w.Q.length<=(w.in1 a).Q.length/\(w.in1 a).D=w.D/\(w.in1 a).rep.steps=w.rep.steps:=by
 have hf:=fwd_ok hw _ e;have hl:=Zd2 (w.fwd (loadA w.heap.W a).1).1.heap.W a (w.fwd (loadA w.heap.W a).1).2.1;have hl2:=hf.1.wl;exact⟨hf.1.withWords (Z9A hf.1.W oq a) oq,hf.2.2.2.1,hf.2.2.2.2.1,hf.2.2.2.2.2⟩
def Z41{w:Work}(hw:WkOk w)(a:Int)(l:List Int):∀ k,(∀ j,j<k->innE w a l j=0)->WkOk (innN w a l k)/\w.Q.length<=(innN w a l k).Q.length/\(innN w a l k).D=w.D/\(innN w a l k).rep.steps=w.rep.steps
 | 0,_=>⟨hw,Lr _,rfl,rfl⟩
 | k+1,h=>by
  have ih:=Z41 hw a l k (λj hj=>h j oq);have hi:=Znq ih.1 (a+1+l.getD k X) (h k oq);exact⟨hi.1,Nat.le_trans ih.2.1 hi.2.1,hi.2.2.1.trans ih.2.2.1,hi.2.2.2.trans ih.2.2.2⟩
def Z4i(h:Header):∀ i,∀ x∈Z0W h i,0<=x/\x<i
 | 0,x,hx=>by simp[Z0W]at hx
 | i+1,x,hx=>by
  have ih:=Z4i h i;simp only[Z0W]at hx;split at hx
  .rcases Lq.1 hx with hx | hx
   .have:=ih x hx;omega
   .simp at hx;omega
  .have:=ih x hx;omega
def Z39(h:Header):(Z03 h).length<=255/\∀ x∈Z03 h,0<=x/\x<=255:=by
 unfold Z03;split
 .rename_i hv;have:=validH_iff.1 hv;have hl:=Z4y h h.length.toNat
  exact⟨by omega,λx hx=>by have:=Z4i h _ x hx;omega⟩
 .simp
def Zi0(w:Work)(hw:WkOk w)(hs:¬ w.D<w.Q.length):GP 50 [w.av] M (.tu [w.av,bool M,int 0]) []:=by
 have h3:=hw.mu;exact gF [] func50 [] (Fl 18 wdv w.Q (Ftb 19 (O ((w.Q.length:Int)<=w.D)) Fz))
def stpL(w:Work)(a:Int)(l:List Int)(k:Nat):Tg:=⟨tm 90 [(1,.pt 8001 0 0),(2,.pt 8002 0 0),(3,bool M),(4,int 0),(5,u64 a),(6,Z0j l),(7,int k)],[(8002,.box 89 zW),(8001,.box 89 w.cells)],60⟩
section
variable (w:Work) (a:Int) (l:List Int) (k:Nat) (hw:WkOk w) (ha:0<=a/\a<=16384) (hl:l.length<=255) (hr:0<=l.getD k X/\l.getD k X<=255) (hk:k<l.length)
include hw ha hl hr hk
theorem ZgI(e:(w.fwd (loadA w.heap.W (a+1+l.getD k X)).1).2.2=0):CP (rndF f50 0) (stpL w a l k).st .nrm (stpL (w.in1 (a+1+l.getD k X)) a l (k+1)).st:=by
 have h1:=hw.wl;have h2:=Z0E hw.W (a+1+l.getD k X);have h3:=fwd_ok hw _ e;have h4:=h3.1.wl;let y0:=a+1+l.getD k X;let y1:=w.fwd (loadA w.heap.W y0).1;exact sF [] [] (FM 33 34 idv l k (Fv 38 (a+1) (Fek 41 idv l (↑k) k (Fv 43 (l.getD k X) (Fv 44 y0 (Fc 50 (@Z1W w.heap.W y0 oq oq) (Fc 56 (@Z4g w ((loadA w.heap.W y0).1) aa aa) (Ffb 61 (y1.2.2 != 0) (Fc 71 (@Z9P (y1.1.heap.W) y0 (y1.2.1) oq oq) (Fx 36 k Fz))))))))))
theorem ZmR(e:¬ (w.fwd (loadA w.heap.W (a+1+l.getD k X)).1).2.2=0):CP (rndF f50 0) (stpL w a l k).st .ret (Tg.st ⟨tm 90 [(2,.pt 8002 0 0),(3,bool M),(4,int (w.fwd (loadA w.heap.W (a+1+l.getD k X)).1).2.2)],[(8002,.box 89 zW)],60⟩):=by
 have h1:=hw.wl;have h2:=Z0E hw.W (a+1+l.getD k X);let y0:=a+1+l.getD k X;exact sF [] [] (FM 33 34 idv l k (Fv 38 (a+1) (Fek 41 idv l (↑k) k (Fv 43 (l.getD k X) (Fv 44 y0 (Fc 50 (@Z1W w.heap.W y0 oq oq) (Fc 56 (@Z4g w ((loadA w.heap.W y0).1) aa aa) (Ftb 61 ((w.fwd (loadA w.heap.W y0).1).2.2 != 0) Fz))))))))
end
def Zr7(w:Work)(a:Int)(l:List Int):CP (rndF f50 0) (stpL w a l l.length).st (.ext 0) (Tg.st ⟨tm 90 [(1,.pt 8001 0 0),(2,.pt 8002 0 0),(6,Z0j l)],[(8002,.box 89 zW),(8001,.box 89 w.cells)],60⟩):=by
 exact sF [] [] (FO 33 34 idv l Fz)
section
variable (w:Work) (a:Int) (l:List Int) (hw:WkOk w) (ha:0<=a/\a<=16384) (hl:l.length<=255) (hr:∀ x∈l,0<=x/\x<=255)
include hw ha hl hr
theorem ZoQ(hb:(Le l.length).find? (λk=>O (innE w a l k≠0))=Lh):CP (blkF f50 0) (Tg.st ⟨tm 90 [(1,.pt 8001 0 0),(2,.pt 8002 0 0),(3,bool M),(4,int 0),(5,u64 a),(6,Z0j l),(7,int 0)],[(8002,.box 89 zW),(8001,.box 89 w.cells)],60⟩) .nrm (Tg.st ⟨tm 90 [(1,.pt 8001 0 0),(2,.pt 8002 0 0),(6,Z0j l)],[(8002,.box 89 zW),(8001,.box 89 (innN w a l l.length).cells)],60⟩):=by
 have h0:∀ j,j<l.length->innE w a l j=0:=λj hj=>by
  have:=Lp.1 hb j (Ln.2 hj);simpa using this
 exact Z0a (S:=λk=>(stpL (innN w a l k) a l k).st) l.length kr (λk hk=>ZgI _ a l k (Z41 hw a l k λj hj=>h0 j oq).1 ha hl (hr _ (getD_mem_iff.2 ⟨k,hk,rfl⟩)) hk (h0 k hk)) (Zr7 _ a l)
theorem ZlG(i:Nat)(hb:(Le l.length).find? (λk=>O (innE w a l k≠0))=Lb i):CP (blkF f50 0) (Tg.st ⟨tm 90 [(1,.pt 8001 0 0),(2,.pt 8002 0 0),(3,bool M),(4,int 0),(5,u64 a),(6,Z0j l),(7,int 0)],[(8002,.box 89 zW),(8001,.box 89 w.cells)],60⟩) .ret (Tg.st ⟨tm 90 [(2,.pt 8002 0 0),(3,bool M),(4,int (innE w a l i))],[(8002,.box 89 zW)],60⟩):=by
 obtain⟨h1,h2,h3⟩:=Lm.1 hb;have h2:=Ln.1 h2;have h0:∀ j,j<i->innE w a l j=0:=λj hj=>by simpa using h3 j hj
 exact Z0A (S:=λk=>(stpL (innN w a l k) a l k).st) i kr (λk hk=>ZgI _ a l k (Z41 hw a l k λj hj=>h0 j oq).1 ha hl (hr _ (getD_mem_iff.2 ⟨k,by omega,rfl⟩)) oq (h0 k hk)) (ZmR _ a l i (Z41 hw a l i h0).1 ha hl (hr _ (getD_mem_iff.2 ⟨i,h2,rfl⟩)) h2 (of_decide_eq_true h1))
end
def Z8G(w:Work)(hw:WkOk w):GP 50 [w.av] M (.tu [(Z0y w).1.av,bool (Z0y w).2.1,int (Z0y w).2.2]) []:=by
 by_cases hs:w.D<w.Q.length
 .have h2:=hw.sc;have h1:=hw.q _ (getD_mem_iff.2 ⟨w.D.toNat,by omega,rfl⟩);have h3:=hw.mu;have h4:=Z1s (loadA w.heap.W (w.Q.getD w.D.toNat X)).1 (Z0E hw.W _).1;have h5:hdW w (w.Q.getD w.D.toNat X)=(decodeH (loadA w.heap.W (w.Q.getD w.D.toNat X)).1).1:=rfl;have h6:=Z39 (hdW w (w.Q.getD w.D.toNat X));rw[<- h5]at h4;unfold Z0y;rw[if_pos hs];cases hb:(Le (Z0o w).length).find? (λk=>O (innE w (Z0U w) (Z0o w) k≠0))with
  | none =>
   have h0:∀ j,j<(Z0o w).length->innE w (Z0U w) (Z0o w) j=0:=λj hj=>by
    have:=Lp.1 hb j (Ln.2 hj);simpa using this
   have k1:=Z41 hw (Z0U w) (Z0o w) (Z0o w).length h0;have k2:=k1.1.rs;have k3:=k1.1.sc;have k4:=k1.1.mu;unfold Z0o Z0U at *;let y0:=w.Q.getD w.D.toNat X;let y1:=Z03 (hdW w y0);let y2:=innN w y0 y1 y1.length;exact gF [] func50 [] (Fl 18 wdv w.Q (Ffb 19 (O ((w.Q.length:Int)<=w.D)) (Fe 25 wdv w.Q w.D (Fc 29 (@ZgM w y0 aa oq) (Fc 30 (@Z82 (hdW w y0) aa) (Fu (@ZoQ w y0 y1 aa aa oq (by grind[Z3K]) aa) (Fi 78 (y2.D+1) (Fi 83 (y2.rep.steps+1) (Fl 85 idv y1 (Fi 86 (y2.rep.steps+1+(y1.length:Int)) Fz))))))))))
  | some k =>
   unfold Z0o Z0U at *;let y3:=w.Q.getD w.D.toNat X;exact gF [] func50 [] (Fl 18 wdv w.Q (Ffb 19 (O ((w.Q.length:Int)<=w.D)) (Fe 25 wdv w.Q w.D (Fc 29 (@ZgM w y3 aa oq) (Fc 30 (@Z82 (hdW w y3) aa) (Fu (@ZlG w y3 (Z03 (hdW w y3)) aa aa oq (by grind[noWork,noHeap]) k aa) (Fnl (Fnl (Fnl (Fnl (Fnl Fz)))))))))))
 .have e:Z0y w=(w,M,0):=by rw[Z0y,if_neg hs]
  rw[e];exact Zi0 w hw hs
def Z8e{w:Work}(hw:WkOk w)(e:(Z0y w).2.2=0):WkOk (Z0y w).1/\((Z0y w).2.1=Y->(Z0y w).1.D=w.D+1):=by
 by_cases hs:w.D<w.Q.length
 .unfold Z0y at e ⊢;rw[if_pos hs]at e ⊢;cases hb:(Le (Z0o w).length).find? (λk=>O (innE w (Z0U w) (Z0o w) k≠0))with
  | none =>
   have h0:∀ j,j<(Z0o w).length->innE w (Z0U w) (Z0o w) j=0:=λj hj=>by
    have:=Lp.1 hb j (Ln.2 hj);simpa using this
   have k1:=Z41 hw (Z0U w) (Z0o w) (Z0o w).length h0;have k2:=k1.1.rs;have k3:=k1.1.sc;have k5:=(Z39 (hdW w (Z0U w))).1;have k6:=hw.sc;simp only;refine⟨⟨k1.1.W,k1.1.wl,k1.1.C,k1.1.pl,k1.1.sp,k1.1.ol,k1.1.o,k1.1.tk,k1.1.tl,k1.1.q,k1.1.us,k1.1.mu, ?_,k1.1.rk, ?_,k1.1.r0⟩, ?_⟩
   .simp only[Z3K];omega
   .simp only[Z3K];unfold Z0o at *;omega
   .intro _;simp only[Z3K];omega
  | some k =>
   simp only[hb]at e;have:=(Lm.1 hb).1;simp[e]at this
 .have e:Z0y w=(w,M,0):=by rw[Z0y,if_neg hs]
  rw[e];exact⟨hw,λh=>by cases h⟩
def itW(w:Work):Nat->Work
 | 0=>w
 | k+1=>(Z0y (itW w k)).1
def bndW(w:Work):Nat:=1000002+w.old.length
def Z2I(w:Work)(k:Nat):Bool:=O ((Z0y (itW w k)).2.2≠0\/(Z0y (itW w k)).2.1=M)
def allF(w:Work):Work×Int:=match (Le (bndW w)).find? (Z2I w)with
 | none=>(w,0)
 | some k=>if(Z0y (itW w k)).2.2=0 then((Z0y (itW w k)).1,0)else(noWork,(Z0y (itW w k)).2.2)
def Z4x{w:Work}(hw:WkOk w):∀ k,(∀ j,j<k->Z2I w j=M)->WkOk (itW w k)/\(itW w k).D=w.D+k
 | 0,_=>⟨hw,by simp[itW]⟩
 | k+1,h=>by
  have ih:=Z4x hw k (λj hj=>h j oq);have hk:=h k oq;simp only[Z2I,decide_eq_false_iff_not,not_or,Lx]at hk;have hs:=Z8e ih.1 hk.1;refine⟨hs.1, ?_⟩;have:=hs.2 (by simpa using hk.2);simp only[itW];omega
def Z3F{w:Work}(hw:WkOk w):∃ k,(Le (bndW w)).find? (Z2I w)=Lb k:=by
 cases hb:(Le (bndW w)).find? (Z2I w)with
 | some k=>exact⟨k,rfl⟩
 | none =>
  exfalso;have h0:∀ j,j<1000001->Z2I w j=M:=λj hj=>by
   have:=Lp.1 hb j (Ln.2 (by unfold bndW;omega));simpa using this
  have k:=Z4x hw 1000001 h0;have h1:=k.1.sc;have h2:=k.1.mu;have h3:=hw.sc;omega
def allL(w:Work):Tg:=⟨tm 21 [(1,.pt 8001 0 0),(2,.pt 8002 0 0),(3,int 0)],[(8002,.box 89 zW),(8001,.box 89 w.cells)],60⟩
section
variable (w:Work) (hw:WkOk w)
include hw
theorem Zfx(e:(Z0y w).2.2=0)(m:(Z0y w).2.1=Y):CP (rndF f53 0) (allL w).st .nrm (allL (Z0y w).1).st:=by
 exact sF [] [] (Fc 9 (@Z8G w aa) (Ffb 14 ((Z0y w).2.2 != 0) (Ffb 19 (!(Z0y w).2.1) Fz)))
theorem ZnM(e:(Z0y w).2.2=0)(m:(Z0y w).2.1=M):CP (rndF f53 0) (allL w).st .ret (Tg.st ⟨tm 21 [(2,.pt 8002 0 0),(3,int 0)],[(8002,.box 89 (Z0y w).1.cells)],60⟩):=by
 exact sF [] [] (Fc 9 (@Z8G w aa) (Ffb 14 ((Z0y w).2.2 != 0) (Ftb 19 (!(Z0y w).2.1) Fz)))
theorem Zr0(e:¬ (Z0y w).2.2=0):CP (rndF f53 0) (allL w).st .ret (Tg.st ⟨tm 21 [(2,.pt 8002 0 0),(3,int (Z0y w).2.2)],[(8002,.box 89 zW)],60⟩):=by
 exact sF [] [] (Fc 9 (@Z8G w aa) (Ftb 14 ((Z0y w).2.2 != 0) Fz))
theorem Zpu(k:Nat)(hb:(Le (bndW w)).find? (Z2I w)=Lb k)(e:(Z0y (itW w k)).2.2=0):CP (blkF f53 0) (Tg.st ⟨tm 21 [(1,.pt 8001 0 0),(2,.pt 8002 0 0),(3,int 0)],[(8002,.box 89 zW),(8001,.box 89 w.cells)],60⟩) .ret (Tg.st ⟨tm 21 [(2,.pt 8002 0 0),(3,int 0)],[(8002,.box 89 (Z0y (itW w k)).1.cells)],60⟩):=by
 obtain⟨h1,h2,h3⟩:=Lm.1 hb;have h0:∀ j,j<k->Z2I w j=M:=λj hj=>by simpa using h3 j hj
 have m:(Z0y (itW w k)).2.1=M:=by
  simp only[Z2I,decide_eq_true_eq,e]at h1;simpa using h1
 exact Z0A (S:=λk=>(allL (itW w k)).st) k kr (λj hj=>by
  have hk:=h0 j hj;simp only[Z2I,decide_eq_false_iff_not,not_or,Lx]at hk;exact Zfx _ (Z4x hw j λi hi=>h0 i oq).1 hk.1 (by simpa using hk.2)) (ZnM _ (Z4x hw k h0).1 e m)
theorem ZlF(k:Nat)(hb:(Le (bndW w)).find? (Z2I w)=Lb k)(e:¬ (Z0y (itW w k)).2.2=0):CP (blkF f53 0) (Tg.st ⟨tm 21 [(1,.pt 8001 0 0),(2,.pt 8002 0 0),(3,int 0)],[(8002,.box 89 zW),(8001,.box 89 w.cells)],60⟩) .ret (Tg.st ⟨tm 21 [(2,.pt 8002 0 0),(3,int (Z0y (itW w k)).2.2)],[(8002,.box 89 zW)],60⟩):=by
 obtain⟨h1,h2,h3⟩:=Lm.1 hb;have h0:∀ j,j<k->Z2I w j=M:=λj hj=>by simpa using h3 j hj
 exact Z0A (S:=λk=>(allL (itW w k)).st) k kr (λj hj=>by
  have hk:=h0 j hj;simp only[Z2I,decide_eq_false_iff_not,not_or,Lx]at hk;exact Zfx _ (Z4x hw j λi hi=>h0 i oq).1 hk.1 (by simpa using hk.2)) (Zr0 _ (Z4x hw k h0).1 e)
theorem Z8c:GP 53 [w.av] M (.tu [(allF w).1.av,int (allF w).2]) []:=by
 obtain⟨k,hb⟩:=Z3F hw;by_cases e:(Z0y (itW w k)).2.2=0
 .have e7:allF w=((Z0y (itW w k)).1,0):=by rw[allF,hb];simp only[if_pos e]
  rw[e7];exact gF [] func53 [] (Fu (@Zpu w aa k aa aa) Fz)
 .have e7:allF w=(noWork,(Z0y (itW w k)).2.2):=by rw[allF,hb];simp only[if_neg e]
  rw[e7];exact gF [] func53 [] (Fu (@ZlF w aa k aa aa) (Fnl (Fnl (Fnl (Fnl (Fnl Fz))))))
omit hw in
theorem ZnK(hw:WkOk w)(e:(allF w).2=0):WkOk (allF w).1:=by
 obtain⟨k,hb⟩:=Z3F hw;obtain⟨h1,h2,h3⟩:=Lm.1 hb;have h0:∀ j,j<k->Z2I w j=M:=λj hj=>by simpa using h3 j hj
 unfold allF at e ⊢;rw[hb]at e ⊢;simp only at e ⊢;split at e
 .rename_i c;rw[if_pos c];exact(Z8e (Z4x hw k h0).1 c).1
 .rename_i c;exact absurd e c
end
def hlA(ws:List Int)(a:Int):Int:=(decodeH (loadA ws a).1).1.length
def Z0b(ws:List Int)(a:Int):0<=hlA ws a/\hlA ws a<=255:=by
 have:=validH_iff.1 (Z2b (loadA ws a).1);exact⟨this.2.2.1,this.2.2.2.1⟩
def Z2k{ws l:List Int}{a b:Int}(h:4096<=a/\a-4096+l.length<=ws.length)(hb:b<a\/a+l.length<=b):loadA (Z0G ws a l).1 b=loadA ws b:=by
 unfold Z0G;rw[if_pos h];have hl:(spl ws (a-4096).toNat l).length=ws.length:=Z43 oq;unfold loadA;simp only[hl];split
 .have:=Z9l (ws:=ws) (l:=l) (i:=(a-4096).toNat) (k:=l.length) oq (Lr _) (b-4096).toNat
  rw[ZdQ]at this;rw[La,La,this];by_cases h1:(b-4096).toNat<(a-4096).toNat
  .rw[if_pos h1]
  .rw[if_neg h1,if_neg oq]
 .rfl
def Z1R{ws l:List Int}{a b:Int}(h:4096<=a/\a-4096+l.length<=ws.length)(hb:a<=b/\b<a+l.length):loadA (Z0G ws a l).1 b=(l.getD (b-a).toNat 0,0):=by
 unfold Z0G;rw[if_pos h];have hl:(spl ws (a-4096).toNat l).length=ws.length:=Z43 oq;unfold loadA;simp only[hl];rw[if_pos oq];have:=Z9l (ws:=ws) (l:=l) (i:=(a-4096).toNat) (k:=l.length) oq (Lr _) (b-4096).toNat
 rw[ZdQ]at this;rw[La,La,this,if_neg oq,if_pos oq,show(b-4096).toNat-(a-4096).toNat=(b-a).toNat by omega]
def Z2w{ws:List Int}{a v:Int}(h:4096<=a/\a<4096+ws.length):(Z0L ws a v).1.length=ws.length:=by
 unfold Z0L Z0G;rw[if_pos qo];exact Z43 qo
def Z0v{ws:List Int}{a b v:Int}(h:4096<=a/\a<4096+ws.length)(hb:b≠a):loadA (Z0L ws a v).1 b=loadA ws b :=
 Z2k qo qo
def Z1Q{ws:List Int}{a v:Int}(h:4096<=a/\a<4096+ws.length):loadA (Z0L ws a v).1 a=(v,0):=by
 have:=Z1R (ws:=ws) (l:=[v]) (a:=a) (b:=a) qo qo;rw[Z0L,this];simp
def Z5d{ws:List Int}{a b n:Int}(hn:1<=n)(ha:4096<=a/\a-4096+n<=ws.length)(hb:4096<=b/\b-4096+n<=ws.length) :
  (moveA ws a b n).1.length=ws.length/\loadA (moveA ws a b n).1 a=((loadA ws b).1,0)/\∀ x,x<a\/a+n<=x->loadA (moveA ws a b n).1 x=loadA ws x:=by
 have e1:Z1o ws b n=((ws.drop (b-4096).toNat).take n.toNat,0):=by rw[Z1o,if_neg oq,if_pos hb]
 have e2:moveA ws a b n=Z0G ws a ((ws.drop (b-4096).toNat).take n.toNat):=by rw[moveA,e1];simp
 have hl:((ws.drop (b-4096).toNat).take n.toNat).length=n.toNat:=by simp;omega
 rw[e2];refine⟨?_, ?_, ?_⟩
 .unfold Z0G;rw[if_pos oq];exact Z43 oq
 .rw[Z1R oq oq];congr 1;unfold loadA;rw[if_pos oq];simp only[La,Int.sub_self,Int.toNat_zero];rw[List.getElem?_take_of_lt oq,Ly];simp
 .intro x hx;exact Z2k oq oq
def ZgY(a:Int):(decodeH (4*a+2)).1.length=0:=by
 unfold decodeH;rw[if_neg]
 .rfl
 .rintro⟨h1,h2⟩;unfold Z0d at h1 h2;split at h2
  .simp only[Z3h]at h2;omega
  .simp only at h2;omega
def occP(p:Page):Int:=if p.K=0 then 0 else p.U
structure CIv (w:Work):Prop where
 L:(w.heap.W.length:Int)=w.heap.C.pw*w.heap.C.pg
 r:∀ a∈w.old++w.Q,4096<=a/\a+hlA w.heap.W a<4096+w.heap.W.length
 s:∀ a∈w.old++w.Q,∀ b∈w.old++w.Q,a<b->a+hlA w.heap.W a<b
 f:∀ i:Nat,i<w.heap.P.length->(w.heap.P.getD i X).K=0\/(i:Int)∈w.T->∀ a∈w.old++w.Q,a+hlA w.heap.W a<4096+i*w.heap.C.pw+occP (w.heap.P.getD i X)\/4096+i*w.heap.C.pw+w.heap.C.pw<=a
 z:∀ x∈w.old,(w.heap.P.getD (ofA w.heap.C x).1.toNat X).K=2\/hlA w.heap.W x+1<=w.heap.C.pw
def CIv.withWords{w:Work}(h:CIv w){l:List Int}(hl:l.length=w.heap.W.length)(hh:∀ a∈w.old++w.Q,hlA l a<=hlA w.heap.W a):CIv ⟨⟨w.heap.C,l,w.heap.P,w.heap.S,w.heap.B⟩,w.old,w.T,w.Q,w.D,w.rep⟩:=by
 refine⟨?_, ?_, ?_, ?_, ?_⟩
 .simp only[hl];exact h.L
 .intro a ha;have h1:=h.r a ha;have h2:=hh a ha;simp only[hl];omega
 .intro a ha b hb hab;have h1:=h.s a ha b hb hab;have h2:=hh a ha;simp only;omega
 .intro i hi hc a ha;have h1:=h.f i hi hc a ha;have h2:=hh a ha;simp only at *;omega
 .intro x hx;have h1:=h.z x hx;have h2:=hh x (Lo _ hx);simp only at *;omega
def CIv.keep{w:Work}(h:CIv w){r:Int}(hr:r∈w.old):CIv (w.keep r):=by
 have hm:∀ a,a∈w.old++(w.Q++[r])->a∈w.old++w.Q:=by
  intro a ha;simp only[Lq,Lz]at ha ⊢;rcases ha with ha | ha | rfl
  .exact Ld ha
  .exact Lc ha
  .exact Ld hr
 exact⟨h.L,λa ha=>h.r a (hm a ha),λa ha b hb=>h.s a (hm a ha) b (hm b hb),λi hi hc a ha=>h.f i hi hc a (hm a ha),h.z⟩
def CIv.flip{w:Work}(h:CIv w)(i:Nat):CIv (w.flip i):=by
 have hk:∀ j,((Z0s w.heap.P i (Z0k w.heap.P i) (1-w.heap.S)).getD j X).K=(w.heap.P.getD j X).K/\((Z0s w.heap.P i (Z0k w.heap.P i) (1-w.heap.S)).getD j X).U=(w.heap.P.getD j X).U:=by
  intro j;by_cases hj:j<w.heap.P.length
  .rw[Z1v hj];split
   .exact⟨rfl,rfl⟩
   .exact⟨rfl,rfl⟩
  .rw[La,La,Lv (by rw[Z1m];omega),Lv oq];exact⟨rfl,rfl⟩
 refine⟨h.L,h.r,h.s, ?_, ?_⟩
 .intro j hj hc a ha;simp only[Work.flip,Z1m,occP,hk]at hj hc ha ⊢;exact h.f j hj hc a ha
 .intro x hx;simp only[Work.flip,hk];exact h.z x hx
def Z4C{w:Work}{n:Int}(hw:WkOk w)(hn:1<=n/\n<=w.heap.C.pw)(h:(w.place n).2.2=Y) :
  ∃ (i:Nat) (p:Page) (t:List Int),i<w.heap.P.length/\((w.heap.P.getD i X).K=0\/((i:Int)∈w.T/\(w.heap.P.getD i X).K=1))/\p.K=1/\p.U=occP (w.heap.P.getD i X)+n/\occP (w.heap.P.getD i X)+n<=w.heap.C.pw/\0<=occP (w.heap.P.getD i X)/\(∀ x∈t,x∈w.T\/x=(i:Int))/\(w.place n).2.1=4096+i*w.heap.C.pw+occP (w.heap.P.getD i X) /\
  (w.place n).1=⟨⟨w.heap.C,w.heap.W,w.heap.P.set i p,w.heap.S,w.heap.B⟩,w.old,t,w.Q,w.D,w.rep⟩:=by
 have hb:=validB_iff.1 hw.C;have hpl:=hw.pl;by_cases hf:Z2C w n
 .have e:w.place n=(⟨⟨w.heap.C,w.heap.W,Z1C w.heap.P (Z0p w).toNat n,w.heap.S,w.heap.B⟩,w.old,w.T,w.Q,w.D,w.rep⟩,4096+Z0p w*w.heap.C.pw+(w.heap.P.getD (Z0p w).toNat X).U,Y):=by rw[Work.place,if_pos hf]
  unfold Z2C at hf;have hm:=hw.tk _ (Z19 hf.1);have hu:=hw.us (Z0p w).toNat oq
  have hk:=hm.2.2;have hup:occP (w.heap.P.getD (Z0p w).toNat X)=(w.heap.P.getD (Z0p w).toNat X).U:=by rw[occP,if_neg oq]
  have hc:(((Z0p w).toNat:Nat):Int)=Z0p w:=by omega
  refine⟨(Z0p w).toNat,⟨(w.heap.P.getD (Z0p w).toNat X).K,(w.heap.P.getD (Z0p w).toNat X).S,(w.heap.P.getD (Z0p w).toNat X).U+n,(w.heap.P.getD (Z0p w).toNat X).N⟩,w.T,by omega,Lc ⟨by rw[hc];exact Z19 hf.1,hk⟩,hk,by rw[hup],by rw[hup];omega,by rw[hup];omega,λx hx=>Ld hx, ?_, ?_⟩
  .rw[e,hup,hc]
  .rw[e];rfl
 .by_cases hg:0<=Z0g w
  .have e:w.place n=(⟨⟨w.heap.C,w.heap.W,Z1C (Z1X w) (Z0g w).toNat n,w.heap.S,w.heap.B⟩,w.old,w.T++[Z0g w],w.Q,w.D,w.rep⟩,4096+Z0g w*w.heap.C.pw,Y):=by rw[Work.place,if_neg hf,if_pos hg]
   obtain⟨f1,f2,f3,f4⟩:=Z2A (h:=⟨w.heap.C,w.heap.W,w.heap.P,1-w.heap.S,w.heap.B⟩) (by have:=hw.sp;simp only;omega) hg;obtain⟨g1,g2,g3⟩:=Z1n hg;simp only at f1 f2 f3 f4;have hi:(Z0g w).toNat<w.heap.P.length:=by unfold Z0g;omega
   have hk:(w.heap.P.getD (Z0g w).toNat X).K=0:=by
    have:=freeK_iff.1 g3 0 dd;simpa[Z0g]using this
   have hup:occP (w.heap.P.getD (Z0g w).toNat X)=0:=by rw[occP,if_pos hk]
   have hc:(((Z0g w).toNat:Nat):Int)=Z0g w:=by omega
   have hq:Z1C (Z1X w) (Z0g w).toNat n=w.heap.P.set (Z0g w).toNat ⟨1,1-w.heap.S,n,0⟩:=by
    unfold Z1C;have e4:(Z1X w).getD (Z0g w).toNat X=⟨1,1-w.heap.S,0,0⟩:=f4;rw[e4];have e1:Z1X w=w.heap.P.set (Z0g w).toNat ⟨1,1-w.heap.S,0,0⟩:=by
     have:Z1X w=tookP w.heap.P (Z0g w).toNat 1 ⟨1,1-w.heap.S,0,0⟩ ⟨0,0,0,0⟩:=f1;rw[this,Z8J hi]
    rw[e1,Xd];simp
   refine⟨(Z0g w).toNat,⟨1,1-w.heap.S,n,0⟩,w.T++[Z0g w],hi,Ld hk,rfl,by rw[hup];simp,by rw[hup];omega,by rw[hup];decide, ?_, ?_, ?_⟩
   .intro x hx;simp only[Lq,Lz]at hx;rcases hx with hx | rfl
    .exact Ld hx
    .exact Lc hc.symm
   .rw[e,hup,hc];simp
   .rw[e,hq]
  .rw[Work.place,if_neg hf,if_neg hg]at h;simp at h
def Z17{i j pw:Int}(h:i<j)(hp:0<=pw):i*pw+pw<=j*pw:=by
 have:=LF (show i+1<=j by omega) hp;rw[LD,Int.one_mul]at this;exact this
def CIv.copy{w:Work}(hw:WkOk w)(h:CIv w){r n:Int}(hr:r∈w.old)(hn:n=hlA w.heap.W r+1)(hp:n<=w.heap.C.pw)(hc:(w.place n).2.2=Y):CIv ((w.place n).1.copy r (w.place n).2.1 n):=by
 have hlr:=Z0b w.heap.W r;obtain⟨i,p,t,h1,h2,h3,h4,h5,h6,h7,h8,e⟩:=Z4C hw ⟨by omega,hp⟩ hc;have hb:=validB_iff.1 hw.C;have hpl:=hw.pl;have hL:=h.L;have hio:(i:Int)*w.heap.C.pw+w.heap.C.pw<=w.heap.C.pw*w.heap.C.pg:=by
  have:=Z17 (i:=i) (j:=w.heap.C.pg) (pw:=w.heap.C.pw) oq oq;rw[Lj w.heap.C.pw];exact this
 have hi0:0<=(i:Int)*w.heap.C.pw:=Ls oq oq;rw[e,h8];generalize hu:occP (w.heap.P.getD i X)=u at *;generalize ha:4096+(i:Int)*w.heap.C.pw+u=at';have hrr:=h.r r (Lo _ hr);have hf:=h.f i h1 (by rcases h2 with h2 | h2;exact Ld h2;exact Lc h2.1);rw[hu]at hf;obtain⟨m1,m2,m3⟩:=Z5d (ws:=w.heap.W) (a:=at') (b:=r) (n:=n) oq oq oq;have hfr:=hf r (Lo _ hr);have hne:r≠at':=by omega
 have hsr:4096<=r/\r<4096+(moveA w.heap.W at' r n).1.length:=by omega
 have k1:∀ a∈w.old++w.Q,hlA (Z0L (moveA w.heap.W at' r n).1 r (4*at'+2)).1 a<=hlA w.heap.W a:=by
  intro a hA;have hfa:=hf a hA;have hla:=Z0b w.heap.W a;by_cases hk:a=r
  .subst hk;have:hlA (Z0L (moveA w.heap.W at' a n).1 a (4*at'+2)).1 a=0:=by
    unfold hlA;rw[Z1Q hsr];exact ZgY at'
   omega
  .have:hlA (Z0L (moveA w.heap.W at' r n).1 r (4*at'+2)).1 a=hlA w.heap.W a:=by
    unfold hlA;rw[Z0v hsr hk,m3 a oq]
   omega
 have k2:hlA (Z0L (moveA w.heap.W at' r n).1 r (4*at'+2)).1 at'=n-1:=by
  have:hlA (Z0L (moveA w.heap.W at' r n).1 r (4*at'+2)).1 at'=hlA w.heap.W r:=by
   unfold hlA;rw[Z0v hsr (Ne.symm hne),m2]
  omega
 have hlen:(Z0L (moveA w.heap.W at' r n).1 r (4*at'+2)).1.length=w.heap.W.length:=by rw[Z2w hsr,m1]
 have hmem:∀ a,a∈w.old++(w.Q++[at'])->a∈w.old++w.Q\/a=at':=by
  intro a hA;simp only[Lq,Lz]at hA ⊢;rcases hA with hA | hA | hA
  .exact Ld (Ld hA)
  .exact Ld (Lc hA)
  .exact Lc hA
 refine⟨?_, ?_, ?_, ?_, ?_⟩
 .simp only[Work.copy,hlen];exact hL
 .intro a hA;simp only[Work.copy,hlen]at hA ⊢;rcases hmem a hA with hA | rfl
  .have q1:=h.r a hA;have q2:=k1 a hA;omega
  .rw[k2];omega
 .intro a hA b hB hab;simp only[Work.copy]at hA hB ⊢;rcases hmem a hA with hA' | e1<;>rcases hmem b hB with hB' | e2
  .have q1:=h.s a hA' b hB' hab;have q2:=k1 a hA';omega
  .have q1:=hf a hA';have q2:=k1 a hA';omega
  .have q1:=hf b hB';have q2:=Z0b w.heap.W b;rw[e1,k2];omega
  .omega
 .intro j hj hcj a hA;simp only[Work.copy,Lw]at hj hcj hA ⊢;by_cases hij:i=j
  .subst hij;rw[Z0q h1,if_pos rfl];have hup:occP p=u+n:=by rw[occP,if_neg oq,h4]
   rw[hup];rcases hmem a hA with hA | rfl
   .have q1:=hf a hA;have q2:=k1 a hA;omega
   .rw[k2];omega
  .rw[Z0q h1,if_neg hij]at hcj ⊢;have hcj':(w.heap.P.getD j X).K=0\/(j:Int)∈w.T:=by
    rcases hcj with hcj | hcj
    .exact Ld hcj
    .rcases h7 _ hcj with q | q
     .exact Lc q
     .omega
   rcases hmem a hA with hA | rfl
   .have q1:=h.f j hj hcj' a hA;have q2:=k1 a hA;omega
   .rw[k2];have hus:0<=occP (w.heap.P.getD j X):=by
     have:=hw.us j hj;unfold occP;split<;>omega
    by_cases hlt:i<j
    .have:=Z17 (i:=i) (j:=j) (pw:=w.heap.C.pw) oq oq;omega
    .have:=Z17 (i:=j) (j:=i) (pw:=w.heap.C.pw) oq oq;omega
 .intro x hx;simp only[Work.copy]at hx ⊢;have q1:=h.z x hx;have q2:=k1 x (Lo _ hx);rw[Z0q h1];split
  .rename_i hxi;rw[<- hxi]at q1;rcases h2 with h2 | h2<;>omega
  .omega
structure CEx (w v:Work):Prop where
 c:v.heap.C=w.heap.C
 o:v.old=w.old
 q:∀ x∈w.Q,x∈v.Q
 l:∀ x∈w.Q,hlA v.heap.W x=hlA w.heap.W x
def CEx.rfl'(w:Work):CEx w w:=⟨rfl,rfl,λ_ h=>h,λ_ _=>rfl⟩
def CEx.trans{u v w:Work}(h1:CEx u v)(h2:CEx v w):CEx u w :=
 ⟨h2.c.trans h1.c,h2.o.trans h1.o,λx hx=>h2.q x (h1.q x hx),λx hx=>(h2.l x (h1.q x hx)).trans (h1.l x hx)⟩
def Z1M(w:Work)(r:Int):sizeH (hdW w r)=hlA w.heap.W r+1:=by
 have hv:Z0h (hdW w r)=Y:=Z2b _;rw[sizeH,if_pos hv];rfl
def Znm{w:Work}(hw:WkOk w)(h:CIv w){r n:Int}(hr:r∈w.old)(hq:r∉w.Q)(hn:n=hlA w.heap.W r+1)(hp:n<=w.heap.C.pw)(hc:(w.place n).2.2=Y):CEx w ((w.place n).1.copy r (w.place n).2.1 n):=by
 have hlr:=Z0b w.heap.W r;obtain⟨i,p,t,h1,h2,h3,h4,h5,h6,h7,h8,e⟩:=Z4C hw ⟨by omega,hp⟩ hc;have hb:=validB_iff.1 hw.C;have hpl:=hw.pl;have hL:=h.L;have hio:(i:Int)*w.heap.C.pw+w.heap.C.pw<=w.heap.C.pw*w.heap.C.pg:=by
  have:=Z17 (i:=i) (j:=w.heap.C.pg) (pw:=w.heap.C.pw) oq oq;rw[Lj w.heap.C.pw];exact this
 have hi0:0<=(i:Int)*w.heap.C.pw:=Ls oq oq;rw[e,h8];generalize hu:occP (w.heap.P.getD i X)=u at *;generalize ha:4096+(i:Int)*w.heap.C.pw+u=at';have hrr:=h.r r (Lo _ hr);have hf:=h.f i h1 (by rcases h2 with h2 | h2;exact Ld h2;exact Lc h2.1);rw[hu]at hf;obtain⟨m1,m2,m3⟩:=Z5d (ws:=w.heap.W) (a:=at') (b:=r) (n:=n) oq oq oq;have hsr:4096<=r/\r<4096+(moveA w.heap.W at' r n).1.length:=by omega
 refine⟨rfl,rfl,λx hx=>Lo _ hx, ?_⟩;intro x hx;have hfx:=hf x (LH _ hx);have hlx:=Z0b w.heap.W x;simp only[Work.copy];unfold hlA at *;rw[Z0v hsr (λq=>hq (q▸hx)),m3 x oq]
def Z4r{w:Work}(hw:WkOk w)(h:CIv w)(r:Int)(e:(w.fwd r).2.2=0):CIv (w.fwd r).1/\CEx w (w.fwd r).1:=by
 unfold Work.fwd at e ⊢;split at e
 .rename_i c1;rw[if_pos c1];exact⟨h,CEx.rfl' w⟩
 .rename_i c1;rw[if_neg c1];have c1':r∉w.Q:=λh=>c1 (Lc h);split at e
  .simp at e
  .rename_i c2;rw[if_neg c2];have c2':r∈w.old:=Lx.1 c2;split at e
   .rename_i c3;rw[if_pos c3];exact⟨h,CEx.rfl' w⟩
   .rename_i c3;rw[if_neg c3];split at e
    .simp at e
    .rename_i c4;rw[if_neg c4];split at e
     .rename_i c5;rw[if_pos c5];exact⟨h.keep c2',⟨rfl,rfl,λx hx=>Lo _ hx,λ_ _=>rfl⟩⟩
     .rename_i c5;rw[if_neg c5];split at e
      .rename_i c6;rw[if_pos c6];exact⟨(h.flip _).keep c2',⟨rfl,rfl,λx hx=>Lo _ hx,λ_ _=>rfl⟩⟩
      .rename_i c6;rw[if_neg c6];split at e
       .simp at e
       .rename_i c7;rw[if_neg c7];have c7':(w.place (sizeH (hdW w r))).2.2=Y:=by simpa using c7
        have hz:=h.z r c2';have hp:sizeH (hdW w r)<=w.heap.C.pw:=by
         rw[Z1M];rcases hz with hz | hz
         .exact absurd hz c6
         .exact hz
        exact⟨h.copy hw c2' (Z1M w r) hp c7',Znm hw h c2' c1' (Z1M w r) hp c7'⟩
def Ziy{w:Work}(hw:WkOk w)(h:CIv w){q j:Int}(hq:q∈w.Q)(hj:0<=j/\j<hlA w.heap.W q)(e:(w.fwd (loadA w.heap.W (q+1+j)).1).2.2=0):CIv (w.in1 (q+1+j))/\CEx w (w.in1 (q+1+j)):=by
 obtain⟨i1,x1⟩:=Z4r hw h _ e;have hq1:=x1.q q hq;have hl1:=x1.l q hq;have hr:=i1.r q (LH _ hq1);have hs:=i1.s q (LH _ hq1);have hin:4096<=q+1+j/\q+1+j<4096+(w.fwd (loadA w.heap.W (q+1+j)).1).1.heap.W.length:=by omega
 have hk:∀ a∈(w.fwd (loadA w.heap.W (q+1+j)).1).1.old++(w.fwd (loadA w.heap.W (q+1+j)).1).1.Q,hlA (Z0L (w.fwd (loadA w.heap.W (q+1+j)).1).1.heap.W (q+1+j) (w.fwd (loadA w.heap.W (q+1+j)).1).2.1).1 a=hlA (w.fwd (loadA w.heap.W (q+1+j)).1).1.heap.W a:=by
  intro a ha;unfold hlA;rw[Z0v hin];intro hc;have:=hs a ha oq;omega
 refine⟨i1.withWords (Z2w hin) (λa ha=>Int.le_of_eq (hk a ha)),x1.trans ⟨rfl,rfl,λ_ h=>h,λx hx=>hk x (LH _ hx)⟩⟩
def Z1P(h:Header):∀ x∈Z03 h,0<=x/\x<h.length:=by
 unfold Z03;split
 .intro x hx;have:=Z4i h _ x hx;omega
 .simp
def Z6T{w:Work}(hw:WkOk w)(h:CIv w){q:Int}(hq:q∈w.Q){l:List Int}(hl:∀ x∈l,0<=x/\x<hlA w.heap.W q):∀ k,k<=l.length->(∀ j,j<k->innE w q l j=0)->CIv (innN w q l k)/\CEx w (innN w q l k)
 | 0,_,_=>⟨h,CEx.rfl' w⟩
 | k+1,hk,he=>by
  have ih:=Z6T hw h hq hl k oq (λj hj=>he j oq);have ok:=(Z41 hw q l k (λj hj=>he j oq)).1;have hx:=hl _ (getD_mem_iff.2 ⟨k,by omega,rfl⟩);have:=Ziy ok ih.1 (ih.2.q q hq) (j:=l.getD k X) ⟨hx.1,by rw[ih.2.l q hq];exact hx.2⟩ (he k oq);exact⟨this.1,ih.2.trans this.2⟩
def Z9t{w:Work}(hw:WkOk w)(h:CIv w)(e:(Z0y w).2.2=0):CIv (Z0y w).1/\CEx w (Z0y w).1:=by
 by_cases hs:w.D<w.Q.length
 .have hsc:=hw.sc;have hq:Z0U w∈w.Q:=getD_mem_iff.2 ⟨w.D.toNat,by omega,rfl⟩;unfold Z0y at e ⊢;rw[if_pos hs]at e ⊢;cases hb:(Le (Z0o w).length).find? (λk=>O (innE w (Z0U w) (Z0o w) k≠0))with
  | none =>
   have h0:∀ j,j<(Z0o w).length->innE w (Z0U w) (Z0o w) j=0:=λj hj=>by
    have:=Lp.1 hb j (Ln.2 hj);simpa using this
   obtain⟨k1,k2⟩:=Z6T hw h hq (l:=Z0o w) (Z1P (hdW w (Z0U w))) (Z0o w).length (Lr _) h0;exact⟨⟨k1.L,k1.r,k1.s,k1.f,k1.z⟩,⟨k2.c,k2.o,k2.q,k2.l⟩⟩
  | some k =>
   simp only[hb]at e;have:=(Lm.1 hb).1;simp[e]at this
 .have e:Z0y w=(w,M,0):=by rw[Z0y,if_neg hs]
  rw[e];exact⟨h,CEx.rfl' w⟩
def Z7u{w:Work}(hw:WkOk w)(h:CIv w):∀ k,(∀ j,j<k->Z2I w j=M)->CIv (itW w k)/\CEx w (itW w k)
 | 0,_=>⟨h,CEx.rfl' w⟩
 | k+1,hh=>by
  have ih:=Z7u hw h k (λj hj=>hh j oq);have ok:=(Z4x hw k (λj hj=>hh j oq)).1;have hk:=hh k oq;simp only[Z2I,decide_eq_false_iff_not,not_or,Lx]at hk;have:=Z9t ok ih.1 hk.1;exact⟨this.1,ih.2.trans this.2⟩
def Zcl{w:Work}(hw:WkOk w)(h:CIv w)(e:(allF w).2=0):CIv (allF w).1/\CEx w (allF w).1:=by
 obtain⟨k,hb⟩:=Z3F hw;obtain⟨h1,h2,h3⟩:=Lm.1 hb;have h0:∀ j,j<k->Z2I w j=M:=λj hj=>by simpa using h3 j hj
 unfold allF at e ⊢;rw[hb]at e ⊢;simp only at e ⊢;split at e
 .rename_i c;rw[if_pos c];have i1:=Z7u hw h k h0;have i2:=Z9t (Z4x hw k h0).1 i1.1 c;exact⟨i2.1,i1.2.trans i2.2⟩
 .rename_i c;exact absurd e c
def Z5Z{w:Work}{roots:List Int}(hw:WkOk w)(h:CIv w):∀ k,(∀ j,j<k->Z1h w roots j=0)->CIv (rootsN w roots k).1/\CEx w (rootsN w roots k).1
 | 0,_=>⟨h,CEx.rfl' w⟩
 | k+1,hh=>by
  have ih:=Z5Z hw h k (λj hj=>hh j oq);have ok:=(Z3H (roots:=roots) hw k (λj hj=>hh j oq)).1;have:=Z4r ok ih.1 (roots.getD k X) (hh k oq);exact⟨this.1,ih.2.trans this.2⟩
def Z3I{w:Work}{roots:List Int}(hw:WkOk w)(h:CIv w)(e:(rootsF w roots).2.2=0):WkOk (rootsF w roots).1/\CIv (rootsF w roots).1/\CEx w (rootsF w roots).1/\(∀ x∈(rootsF w roots).2.1,0<=x/\x<=4294967296)/\(rootsF w roots).2.1.length=roots.length:=by
 unfold rootsF at e ⊢;cases hb:(Le roots.length).find? (λk=>O (Z1h w roots k≠0))with
 | none =>
  have h0:∀ j,j<roots.length->Z1h w roots j=0:=λj hj=>by
   have:=Lp.1 hb j (Ln.2 hj);simpa using this
  have k1:=Z3H (roots:=roots) hw roots.length h0;have k2:=Z5Z (roots:=roots) hw h roots.length h0;exact⟨k1.1,k2.1,k2.2,k1.2.1,Z2D w roots _⟩
 | some k =>
  simp only[hb]at e;have:=(Lm.1 hb).1;simp[e]at this
def Z6y(sp:Int):∀ (l:List Page) (m:Nat),m<Z1i sp l->m<l.length/\(l.getD m X).K=3/\(l.getD m X).S=sp
 | [],m,h=>by simp[Z1i]at h
 | p::l,m,h=>by
  unfold Z1i at h;split at h
  .rename_i hp;cases m with
   | zero=>exact⟨by simp,hp⟩
   | succ m =>
    obtain⟨h1,h2⟩:=Z6y sp l m oq;exact⟨by simp;omega,by simpa using h2⟩
  .omega
def Z5z{c:Conf}{n:Int}(h:1<=need c n):n<=need c n*c.pw:=by
 unfold need at h ⊢;split at h
 .rename_i hc;rw[if_pos hc];have hb:=validB_iff.1 hc.1;split at h
  .omega
  .rename_i hd;rw[if_neg hd];have e:=LV (n+c.pw-1) c.pw;have l:=LU (n+c.pw-1) (b:=c.pw) oq;rw[Lj]at e;omega
 .omega
def Z84{h:Heap}(hp:Z02 h=Y){j:Nat}(hj:j<h.P.length)(hk:(h.P.getD j X).K=2) :
  1<=need h.C (h.P.getD j X).U/\∀ m:Nat,1<=m->(m:Int)<need h.C (h.P.getD j X).U->j+m<h.P.length/\(h.P.getD (j+m) X).K=3/\(h.P.getD (j+m) X).S=(h.P.getD j X).S:=by
 have hi:=properB_iff.1 hp;obtain⟨d,_,hc⟩:=Zjr oq hi.2.2.2.2.2 oq j oq hj;have ht:=hc.2.2.2.2.2.2.2.2.2.1 hk;refine⟨ht.1, ?_⟩;intro m h1 h2;obtain⟨g1,g2⟩:=Z6y (h.P.getD j X).S (h.P.drop (j+1)) (m-1) oq;have g3:j+m<h.P.length:=by simp at g1;omega
 refine⟨g3, ?_⟩;have:(h.P.drop (j+1)).getD (m-1) X=h.P.getD (j+m) X:=by
  rw[La,La,Ly,show j+1+(m-1)=j+m by omega]
 rw[this]at g2;exact g2
def ZbE{h:Heap}(hp:Z02 h=Y){j:Nat}(hj:j<h.P.length)(hk:(h.P.getD j X).K=1\/(h.P.getD j X).K=2):(j:Int)*h.C.pw+(h.P.getD j X).U<=h.C.pw*h.C.pg:=by
 have po:=Z06 hp;have pp:=Z0J hp hj;rcases hk with hk | hk
 .have:=Z17 (i:=j) (j:=h.C.pg) (pw:=h.C.pw) oq oq;rw[Lj h.C.pg]at this;omega
 .obtain⟨t1,t2⟩:=Z84 hp hj hk;have nu:=Z5z t1;have hl:(j:Int)+need h.C (h.P.getD j X).U<=h.C.pg:=by
   by_cases h1:need h.C (h.P.getD j X).U=1
   .omega
   .have:=(t2 (need h.C (h.P.getD j X).U-1).toNat oq oq).1;omega
  have:=LF hl (show 0<=h.C.pw by omega);rw[LD,Lj h.C.pg]at this;omega
def Z4R{h:Heap}(hp:Z02 h=Y){i j:Nat}(hij:i<j)(hj:j<h.P.length)(hk:(h.P.getD i X).K=1\/(h.P.getD i X).K=2)(hk':(h.P.getD j X).K≠3):(i:Int)*h.C.pw+(h.P.getD i X).U<=j*h.C.pw:=by
 have po:=Z06 hp;have pp:=Z0J hp (show i<h.P.length by omega);rcases hk with hk | hk
 .have:=Z17 (i:=i) (j:=j) (pw:=h.C.pw) oq oq;omega
 .obtain⟨t1,t2⟩:=Z84 hp (show i<h.P.length by omega) hk;have nu:=Z5z t1;have hl:(i:Int)+need h.C (h.P.getD i X).U<=j:=by
   by_cases h1:(i:Int)+need h.C (h.P.getD i X).U<=j
   .exact h1
   .have:=(t2 (j-i) oq oq).2;rw[show i+(j-i)=j by omega]at this;exact absurd this.1 hk'
  have:=LF hl (show 0<=h.C.pw by omega);rw[LD]at this;omega
def Z95{c:Conf}{i o:Int}(hv:Z07 c=Y)(h1:0<=i/\i<c.pg)(h2:0<=o/\o<c.pw):ofA c (4096+(i*c.pw+o))=(i,o,0):=by
 have hb:=validB_iff.1 hv;have hs:=Z17 (i:=i) (j:=c.pg) (pw:=c.pw) h1.2 oq;have h0:0<=i*c.pw:=Ls h1.1 oq;rw[Lj c.pg]at hs;unfold ofA;rw[if_pos hv,if_pos oq,show 4096+(i*c.pw+o)-4096=o+i*c.pw by omega,Int.add_mul_ediv_right _ _ oq,Int.add_mul_emod_self_right,Int.ediv_eq_zero_of_lt h2.1 h2.2,Int.emod_eq_of_lt h2.1 h2.2];simp
structure OnP (h:Heap) (j:Nat) (a:Int):Prop where
 k:(h.P.getD j X).K=1\/(h.P.getD j X).K=2
 lo:4096+j*h.C.pw<=a
 hi:a<4096+j*h.C.pw+h.C.pw
 of:(ofA h.C a).1=j
 e:a+hlA h.W a<4096+j*h.C.pw+(h.P.getD j X).U
 z:(h.P.getD j X).K=2\/hlA h.W a+1<=h.C.pw
 at':(atH h a).2=0
def ZgB{h:Heap}{j:Nat}(hp:Z02 h=Y)(hj:j<h.P.length)(hk:(h.P.getD j X).K=1\/(h.P.getD j X).K=2):∀ (f:Nat) (o:Int) (l:List Int),0<=o->((h.P.getD j X).K=2->o=0)->Z3m h j f o=Lb l ->
  (∀ a∈l,OnP h j a/\4096+j*h.C.pw+o<=a)/\l.Pairwise (λa b=>a+hlA h.W a<b)
 | 0,o,l,_,_,e=>by simp[Z3m]at e;subst e;simp
 | f+1,o,l,h0,h2,e=>by
  have po:=Z06 hp;have pp:=Z0J hp hj;unfold Z3m at e;have hpg:pg h (j:Int)=h.P.getD j X:=by simp[pg]
  rw[hpg]at e;split at e
  .rename_i ho;have hop:o<h.C.pw:=by
    rcases hk with hk | hk
    .omega
    .have:=h2 hk;omega
   have ea:adr h j o=4096+(j*h.C.pw+o):=by
    unfold adr address;rw[if_pos po.1,if_pos (inB_iff.2 ⟨by omega,by omega,h0,hop⟩)]
   have eo:=Z95 (c:=h.C) (i:=j) (o:=o) po.1 oq ⟨h0,hop⟩;split at e
   .rename_i hat
    have hat':=hat
    rw[ea]at hat';have hsz:sizeH (decodeH (loadA h.W (4096+(j*h.C.pw+o))).1).1=hlA h.W (4096+(j*h.C.pw+o))+1:=by
     rw[sizeH,if_pos (Z2b _)];rfl
    have hle:=Z0b h.W (4096+(j*h.C.pw+o));have key:((h.P.getD j X).K=1->o+(hlA h.W (4096+(j*h.C.pw+o))+1)<=(h.P.getD j X).U)/\((h.P.getD j X).K=2->hlA h.W (4096+(j*h.C.pw+o))+1=(h.P.getD j X).U)/\sizeH (atH h (4096+(j*h.C.pw+o))).1=hlA h.W (4096+(j*h.C.pw+o))+1:=by
     unfold atH at hat' ⊢;rw[if_pos hp]at hat' ⊢;simp only[eo,hsz,if_true,LW]at hat' ⊢;split at hat'
     .rename_i g1;split at hat'
      .simp at hat'
      .rename_i g2;rw[if_pos g1,if_neg g2];refine⟨λhk1=>?_,λhk2=>?_,hsz⟩
       .omega
       .omega
     .simp at hat'
    have hon:OnP h j (adr h j o):=by
     refine⟨hk, ?_, ?_, ?_, ?_, ?_,hat⟩
     .rw[ea];omega
     .rw[ea];omega
     .rw[ea,eo]
     .rw[ea];rcases hk with hk | hk
      .have:=key.1 hk;omega
      .have:=key.2.1 hk;have:=h2 hk;omega
     .rw[ea];rcases hk with hk | hk
      .have:=key.1 hk;omega
      .exact Ld hk
    split at e
    .cases e;simp only[Lz,Xb,Xa,List.Pairwise.nil];refine⟨?_,by simp⟩;rintro a rfl;exact⟨hon,by rw[ea];omega⟩
    .rename_i hk2;rw[Option.map_eq_some_iff]at e;obtain⟨m,hm,rfl⟩:=e;rw[ea,key.2.2]at hm;obtain⟨i1,i2⟩:=ZgB hp hj hk f _ m oq (λq=>absurd q hk2) hm;constructor
     .intro a ha;rcases L7.1 ha with rfl | ha
      .exact⟨hon,by rw[ea];omega⟩
      .have:=i1 a ha;exact⟨this.1,by omega⟩
     .rw[Xb];refine⟨λb hb=>?_,i2⟩;have:=(i1 b hb).2;rw[ea];omega
   .cases e
  .cases e;simp
def ZaT{h:Heap}(hp:Z02 h=Y):∀ (f i:Nat),i+f=h.P.length->(Z0Q h f i).1.Pairwise (λa b=>a+hlA h.W a<b)/\∀ a∈(Z0Q h f i).1,∃ j,i<=j/\j<h.P.length/\OnP h j a
 | 0,i,_=>by simp[Z0Q]
 | f+1,i,hf=>by
  have ih:=ZaT hp f (i+1) oq;have hpg:(Z09 h i).1.Pairwise (λa b=>a+hlA h.W a<b)/\∀ a∈(Z09 h i).1,OnP h i a:=by
   unfold Z09;rw[if_pos hp,if_pos oq];have hg:pg h (i:Int)=h.P.getD i X:=by simp[pg]
   rw[hg];split
   .simp
   .rename_i hk;cases hw:Z3m h i 256 0 with
    | none=>simp
    | some l =>
     have pp:=Z0J hp (show i<h.P.length by omega);obtain⟨w1,w2⟩:=ZgB hp (show i<h.P.length by omega) oq 256 0 l oq (λ_=>rfl) hw;exact⟨w2,λa ha=>(w1 a ha).1⟩
  unfold Z0Q;split
  .split
   .simp only;constructor
    .rw[List.pairwise_append];refine⟨hpg.1,ih.1,λa ha b hb=>?_⟩;have o1:=hpg.2 a ha;obtain⟨j,j1,j2,o2⟩:=ih.2 b hb;have:=Z4R hp (show i<j by omega) j2 o1.k (by have:=o2.k;omega);have:=o1.e;have:=o2.lo;omega
    .intro a ha;rcases Lq.1 ha with ha | ha
     .exact⟨i,by omega,by omega,hpg.2 a ha⟩
     .obtain⟨j,j1,j2,o2⟩:=ih.2 a ha;exact⟨j,by omega,j2,o2⟩
   .simp
  .simp
def Z92{h:Heap}(hp:Z02 h=Y):(∀ a∈(Z05 h).1,∃ j,j<h.P.length/\OnP h j a)/\∀ a∈(Z05 h).1,∀ b∈(Z05 h).1,a<b->a+hlA h.W a<b:=by
 have hs:=ZaT hp h.P.length 0 oq;have e:Z0Z h=Z0Q h h.P.length 0:=by rw[Z0Z,if_pos hp]
 rw[<- e]at hs;have h1:∀ a∈(Z05 h).1,∃ j,j<h.P.length/\OnP h j a:=by
  intro a ha;obtain⟨j,_,j2,o⟩:=hs.2 a (List.mem_filter.1 ha).1;exact⟨j,j2,o⟩
 refine⟨h1, ?_⟩;have hpw:(Z05 h).1.Pairwise (λa b=>a+hlA h.W a<b):=List.Pairwise.filter _ hs.1;intro a ha b hb hab;obtain⟨i,hi,ei⟩:=LL.1 ha;obtain⟨k,hk,ek⟩:=LL.1 hb;have hlb:=Z0b h.W b;rcases Nat.lt_trichotomy i k with q | q | q
 .have:=Xc.1 hpw i k hi hk q;rw[ei,ek]at this;exact this
 .subst q;omega
 .have:=Xc.1 hpw k i hk hi q;rw[ei,ek]at this;omega
def Z3d{h:Heap}(hp:Z02 h=Y):CIv (beginW h):=by
 have po:=Z06 hp;have hs:=Z92 hp;have hq:∀ j,((h.P.map (begQ (1-h.S))).getD j X).K=(h.P.getD j X).K/\((h.P.map (begQ (1-h.S))).getD j X).U=(h.P.getD j X).U:=by
  intro j;by_cases hj:j<h.P.length
  .have:(h.P.map (begQ (1-h.S))).getD j X=begQ (1-h.S) (h.P.getD j X):=by simp[La,hj]
   rw[this,begQ];split
   .exact⟨rfl,rfl⟩
   .exact⟨rfl,rfl⟩
  .rw[La,La,Lv qo,Lv oq];exact⟨rfl,rfl⟩
 refine⟨po.2.2.2.2.2.1, ?_, ?_, ?_, ?_⟩
 .intro a ha;simp only[beginW,LK]at ha ⊢;obtain⟨j,j1,o⟩:=hs.1 a ha;have h1:=o.lo;have h2:=o.e;have h3:=ZbE hp j1 o.k;have h4:0<=(j:Int)*h.C.pw:=Ls oq oq;have h5:=po.2.2.2.2.2.1;omega
 .intro a ha b hb hab;simp only[beginW,LK]at ha hb ⊢;exact hs.2 a ha b hb hab
 .intro i hi hc a ha;simp only[beginW,LK,Li,Xa,or_false]at hi hc ha ⊢;rw[(hq i).1]at hc;have hoc:occP ((h.P.map (begQ (1-h.S))).getD i X)=0:=by rw[occP,(hq i).1,if_pos hc]
  rw[hoc];obtain⟨j,j1,o⟩:=hs.1 a ha;have hk:=o.k;have hne:i≠j:=by rintro rfl;omega
  by_cases hlt:i<j
  .have:=Z17 (i:=i) (j:=j) (pw:=h.C.pw) oq oq;have:=o.lo;omega
  .have:=Z4R hp (show j<i by omega) hi hk oq;have:=o.e;omega
 .intro x hx;simp only[beginW]at hx ⊢;obtain⟨j,j1,o⟩:=hs.1 x hx;rw[o.of,LW,(hq j).1];exact o.z
def Z3e{h:Heap}(hw:WOk h.W)(hp:Z02 h=Y):WkOk (beginW h):=by
 have po:=Z06 hp;have ho:=Z24 h;have hr:=Z2H h;have hus:∀ j,j<h.P.length->0<=((h.P.map (begQ (1-h.S))).getD j X).U/\((h.P.map (begQ (1-h.S))).getD j X).U<=1024:=by
  intro j hj;have pp:=Z0J hp hj;have:(h.P.map (begQ (1-h.S))).getD j X=begQ (1-h.S) (h.P.getD j X):=by simp[La,hj]
  rw[this,begQ];split
  .simp only;omega
  .omega
 refine⟨hw,po.2.2.2.2.2.2.1,po.1,by simp only[beginW,Li];exact po.2.2.2.2.2.2.2.1,po.2.2.2.2.2.2.2.2,by simp only[beginW];omega,hr,by simp[beginW],by simp[beginW],by simp[beginW],by simpa only[beginW,Li]using hus, ?_,by simp[beginW],by simp[beginW],by simp[beginW],by simp[beginW]⟩;simp only[beginW,muW,List.length_nil];have h1:Ze0 (Z05 h).1 []<=(Z05 h).1.length:=List.length_filter_le _ _;have h2:∀ l:List Page,(∀ p∈l,ZbW h.C.pw p<=64)->Z8R h.C.pw l<=64*l.length:=by
  intro l;induction l with
  | nil=>intro _;simp[Z8R]
  | cons p l ih =>
   intro hl;have:=ih λq hq=>hl q (List.mem_cons_of_mem _ hq);have:=hl p (List.mem_cons_self);simp only[Z8R,List.map_cons,List.sum_cons,L2]at *;omega
 have h3:=h2 (h.P.map (begQ (1-h.S))) (by
  intro p hp';obtain⟨j,hj,e⟩:=LL.1 hp';have:=hus j (by simpa using hj);rw[show(h.P.map (begQ (1-h.S))).getD j X=p by simp only[La,Lk hj,e];rfl]at this;unfold ZbW;split<;>omega)
 simp only[Li]at h3;omega
structure PgOk (c:Conf) (p:Page):Prop where
 s:0<=p.S/\p.S<=1
 n:0<=p.N/\p.N<=2147483647
 k:0<=p.K/\p.K<=3
 k0:p.K=0->p.S=0/\p.U=0/\p.N=0
 k1:p.K=1->0<=p.U/\p.U<=c.pw
 k3:p.K=3->p.U=0/\p.N=0
structure PT (c:Conf) (l:List Page):Prop where
 b:∀ i,i<l.length->PgOk c (l.getD i X)
 lg:∀ i,i<l.length->(l.getD i X).K=2->1<=need c (l.getD i X).U/\∀ m:Nat,1<=m->(m:Int)<need c (l.getD i X).U->i+m<l.length/\(l.getD (i+m) X).K=3/\(l.getD (i+m) X).S=(l.getD i X).S
 tl:∀ i,i<l.length->(l.getD i X).K=3->∃ j,j<i/\(l.getD j X).K=2/\(i:Int)<j+need c (l.getD j X).U
def Z5y(c:Conf)(l:List Page):Nat->Int
 | 0=>0
 | i+1=>rdue c l i (Z5y c l i)
def Zj6{c:Conf}{l:List Page}:∀ {f i:Nat},l.length<=i+f->(rpB c l f i (Z5y c l i)=Y↔∀ j,i<=j->j<l.length->rchk c l j (Z5y c l j))
 | 0,i,h=>by
  simp only[rpB,true_iff];intro j h1 h2;omega
 | f+1,i,h=>by
  unfold rpB;by_cases hi:i<l.length
  .rw[if_pos hi,LS,decide_eq_true_eq,show rdue c l i (Z5y c l i)=Z5y c l (i+1)from rfl,Zj6 (f:=f) (i:=i+1) oq];constructor
   .rintro⟨h1,h2⟩ j h3 h4;by_cases hj:j=i
    .subst hj;exact h1
    .exact h2 j oq h4
   .intro hh;exact⟨hh i (Lr _) hi,λj h3 h4=>hh j oq h4⟩
  .rw[if_neg hi];simp only[true_iff];intro j h1 h2;omega
def Z9U{c:Conf}{l:List Page}:∀ i,0<=Z5y c l i->0<Z5y c l i->∃ j,j<i/\(l.getD j X).K=2/\Z5y c l i=j+need c (l.getD j X).U-i
 | 0,_,h=>by simp[Z5y]at h
 | i+1,h0,h=>by
  simp only[Z5y,rdue]at h0 h ⊢;split at h
  .rename_i hk;refine⟨i,by omega,hk, ?_⟩;rw[if_pos hk];omega
  .rename_i hk;have h1:1<Z5y c l i:=by omega
   obtain⟨j,j1,j2,j3⟩:=Z9U (c:=c) (l:=l) i oq oq;refine⟨j,by omega,j2, ?_⟩;rw[if_neg hk];omega
def ZaA(sp:Int):∀ (l:List Page) (k:Nat),(∀ m,m<k->m<l.length/\(l.getD m X).K=3/\(l.getD m X).S=sp)->k<=Z1i sp l
 | _,0,_=>Nat.zero_le _
 | [],k+1,h=>by have:=(h 0 oq).1;simp at this
 | p::l,k+1,h=>by
  have h0:=(h 0 oq).2;simp only[List.getD_cons_zero]at h0;rw[Z1i,if_pos h0];have:=ZaA sp l k λm hm=>by
   have:=h (m+1) oq;simpa using this
  omega
def PT.due{c:Conf}{l:List Page}(h:PT c l){i:Nat}(hi:i<l.length)(hk:(l.getD i X).K=2):∀ m:Nat,(m:Int)<need c (l.getD i X).U->Z5y c l (i+1+m)=need c (l.getD i X).U-1-m
 | 0,hm=>by
  show rdue c l i (Z5y c l i)=_;rw[rdue,if_pos hk];omega
 | m+1,hm=>by
  have ih:=h.due hi hk m oq;have ht:=((h.lg i hi hk).2 (m+1) oq hm).2.1;show rdue c l (i+1+m) (Z5y c l (i+1+m))=_;rw[rdue,show i+1+m=i+(m+1) by omega,if_neg (by rw[ht];decide),show i+(m+1)=i+1+m by omega,ih];omega
def Z7V{c:Conf}{l:List Page}(h:∀ i,i<l.length->(l.getD i X).K=2->1<=need c (l.getD i X).U):∀ i,i<=l.length->0<=Z5y c l i
 | 0,_=>Int.le_refl _
 | i+1,hi=>by
  have ih:=Z7V h i oq;simp only[Z5y,rdue];split
  .rename_i hk;have:=h i oq hk;omega
  .omega
def Zqv{c:Conf}{l:List Page}:rpB c l l.length 0 0=Y↔PT c l:=by
 have e:=Zj6 (c:=c) (l:=l) (f:=l.length) (i:=0) oq;rw[show Z5y c l 0=0 from rfl]at e;rw[e];constructor
 .intro h;have hb:∀ i,i<l.length->PgOk c (l.getD i X):=by
   intro i hi;have q:=h i oq hi;unfold rchk at q;exact⟨⟨q.2.1,q.2.2.1⟩,⟨q.2.2.2.1,q.2.2.2.2.1⟩,⟨q.2.2.2.2.2.1,q.2.2.2.2.2.2.1⟩,q.2.2.2.2.2.2.2.1,q.2.2.2.2.2.2.2.2.1,q.2.2.2.2.2.2.2.2.2.2⟩
  have hl:∀ i,i<l.length->(l.getD i X).K=2->1<=need c (l.getD i X).U/\∀ m:Nat,1<=m->(m:Int)<need c (l.getD i X).U->i+m<l.length/\(l.getD (i+m) X).K=3/\(l.getD (i+m) X).S=(l.getD i X).S:=by
   intro i hi hk;have q:=(h i oq hi).2.2.2.2.2.2.2.2.2.1 hk;refine⟨q.1, ?_⟩;intro m h1 h2;obtain⟨g1,g2⟩:=Z6y (l.getD i X).S (l.drop (i+1)) (m-1) oq;have g3:i+m<l.length:=by simp at g1;omega
   have:(l.drop (i+1)).getD (m-1) X=l.getD (i+m) X:=by
    rw[La,La,Ly,show i+1+(m-1)=i+m by omega]
   rw[this]at g2;exact⟨g3,g2⟩
  refine⟨hb,hl, ?_⟩;intro i hi hk;have q:=(h i oq hi).1.1 hk;obtain⟨j,j1,j2,j3⟩:=Z9U (c:=c) (l:=l) i oq q;exact⟨j,j1,j2,by omega⟩
 .intro h j _ hj;have b:=h.b j hj;have hd:=Z7V (λi hi hk=>(h.lg i hi hk).1) j oq;refine⟨⟨?_, ?_⟩,b.s.1,b.s.2,b.n.1,b.n.2,b.k.1,b.k.2,b.k0,b.k1, ?_,b.k3⟩
  .intro hk;obtain⟨i,i1,i2,i3⟩:=h.tl j hj hk;have:=h.due (show i<l.length by omega) i2 (j-i-1) oq;rw[show i+1+(j-i-1)=j by omega]at this;omega
  .intro hp;obtain⟨i,i1,i2,i3⟩:=Z9U j hd hp;have:=((h.lg i oq i2).2 (j-i) oq oq).2.1;rw[show i+(j-i)=j by omega]at this;exact this
  .intro hk;have q:=h.lg j hj hk;refine⟨q.1, ?_⟩;have:=ZaA (l.getD j X).S (l.drop (j+1)) (need c (l.getD j X).U-1).toNat λm hm=>by
    have r:=q.2 (m+1) oq oq;have e2:(l.drop (j+1)).getD m X=l.getD (j+(m+1)) X:=by
     rw[La,La,Ly,show j+1+m=j+(m+1) by omega]
    rw[e2];exact⟨by simp;omega,r.2⟩
   omega
def Z1w{h:Heap}:Z02 h=Y↔Z07 h.C=Y/\(h.W.length:Int)=h.C.pw*h.C.pg/\(h.P.length:Int)=h.C.pg/\(h.S=0\/h.S=1) /\
  (h.B=-1\/(0<=h.B/\h.B<h.P.length/\(h.P.getD h.B.toNat X).K=1))/\PT h.C h.P:=by
 rw[properB_iff,Zqv]
def PT.setPage{c:Conf}{l:List Page}(h:PT c l){i:Nat}(hi:i<l.length)(hk:(l.getD i X).K=0\/(l.getD i X).K=1){p:Page}(hp:PgOk c p)(hpk:p.K=0\/p.K=1):PT c (l.set i p):=by
 refine⟨?_, ?_, ?_⟩
 .intro j hj;rw[Lw]at hj;rw[Z0q hi];split
  .exact hp
  .exact h.b j hj
 .intro j hj hk2;rw[Lw]at hj;rw[Z0q hi]at hk2 ⊢;by_cases hij:i=j
  .rw[if_pos hij]at hk2;omega
  .rw[if_neg hij]at hk2 ⊢;have q:=h.lg j hj hk2;refine⟨q.1,λm h1 h2=>?_⟩;have r:=q.2 m h1 h2;rw[Lw,Z0q hi,if_neg (by rintro rfl;omega)];exact r
 .intro j hj hk3;rw[Lw]at hj;rw[Z0q hi]at hk3;by_cases hij:i=j
  .rw[if_pos hij]at hk3;omega
  .rw[if_neg hij]at hk3;obtain⟨a,a1,a2,a3⟩:=h.tl j hj hk3;refine⟨a,a1, ?_⟩;rw[Z0q hi,if_neg (by rintro rfl;omega)];exact⟨a2,a3⟩
def PT.mapPages{c:Conf}{l:List Page}(h:PT c l)(f:Page->Page)(h1:∀ p,PgOk c p->PgOk c (f p))(h2:∀ p,PgOk c p->(f p).K=2->p.K=2/\(f p).U=p.U)
  (h3:∀ p,PgOk c p->(f p).K=3->p.K=3) (h4:∀ p q,PgOk c p->PgOk c q->p.K=2->q.K=3->q.S=p.S->((f p).K=2↔(f q).K=3)/\((f p).K=2->(f q).S=(f p).S)):PT c (l.map f):=by
 have hg:∀ j,j<l.length->(l.map f).getD j X=f (l.getD j X):=by
  intro j hj;simp[La,hj]
 refine⟨?_, ?_, ?_⟩
 .intro j hj;rw[Li]at hj;rw[hg j hj];exact h1 _ (h.b j hj)
 .intro j hj hk;rw[Li]at hj;rw[hg j hj]at hk ⊢;have q:=h2 _ (h.b j hj) hk;have r:=h.lg j hj q.1;rw[q.2];refine⟨r.1,λm m1 m2=>?_⟩;have s:=r.2 m m1 m2;have t:=h4 _ _ (h.b j hj) (h.b (j+m) s.1) q.1 s.2.1 s.2.2;rw[Li,hg _ s.1];exact⟨s.1,t.1.1 hk,t.2 hk⟩
 .intro j hj hk;rw[Li]at hj;rw[hg j hj]at hk;have q:=h3 _ (h.b j hj) hk;obtain⟨a,a1,a2,a3⟩:=h.tl j hj q;have ha:a<l.length:=by omega
  have s:=(h.lg a ha a2).2 (j-a) oq oq;rw[show a+(j-a)=j by omega]at s;have t:=h4 _ _ (h.b a ha) (h.b j hj) a2 s.2.1 s.2.2;have hk2:=t.1.2 hk;refine⟨a,a1, ?_⟩;rw[hg a ha];exact⟨hk2,by rw[(h2 _ (h.b a ha) hk2).2];exact a3⟩
def Z6Z{l:List Page}{i k:Nat}{p q:Page}(hk:1<=k)(h:i+k<=l.length)(j:Nat):(tookP l i k p q).getD j X=if j=i then p else if i<j/\j<i+k then q else l.getD j X:=by
 have hl:(wr l (LI k q) i k).length=l.length:=Z4B (by simpa using h) pq;unfold tookP;rw[La,List.getElem?_set];by_cases hj:j=i
 .subst hj;rw[if_pos rfl,if_pos rfl,if_pos oq];rfl
 .rw[if_neg (λe=>hj e.symm),if_neg hj,Z9l (by simpa using h) pq];by_cases h1:j<i
  .rw[if_pos h1,if_neg oq,La]
  .rw[if_neg h1];by_cases h2:j<i+k
   .rw[if_pos h2,if_pos oq];simp[show j-i<k by omega]
   .rw[if_neg h2,if_neg oq,La]
def PT.took{c:Conf}{l:List Page}(h:PT c l){i k:Nat}{n sp:Int}(hk:1<=k)(hik:i+k<=l.length)(hf:∀ j,j<k->(l.getD (i+j) X).K=0)(hn:need c n=k)(hs:sp=0\/sp=1):PT c (tookP l i k ⟨2,sp,n,0⟩ ⟨3,sp,0,0⟩):=by
 have hg:=Z6Z (p:=⟨2,sp,n,0⟩) (q:=⟨3,sp,0,0⟩) hk hik;have hl:(tookP l i k ⟨2,sp,n,0⟩ ⟨3,sp,0,0⟩).length=l.length:=Z6H hik;have hf':∀ j,i<=j->j<i+k->(l.getD j X).K=0:=λj h1 h2=>by
  have:=hf (j-i) oq;rwa [show i+(j-i)=j by omega]at this
 refine⟨?_, ?_, ?_⟩
 .intro j hj;rw[hl]at hj;rw[hg];split
  .exact⟨by simp only;omega,by simp,by simp,by simp,by simp,by simp⟩
  .split
   .exact⟨by simp only;omega,by simp,by simp,by simp,by simp,by simp⟩
   .exact h.b j hj
 .intro j hj hk2;rw[hl]at hj ⊢;simp only[hg]at hk2 ⊢;by_cases hji:j=i
  .subst hji;simp only[if_pos]at hk2 ⊢;rw[hn];refine⟨by omega,λm h1 h2=>⟨by omega, ?_⟩⟩;rw[if_neg oq,if_pos oq];exact⟨rfl,rfl⟩
  .rw[if_neg hji]at hk2 ⊢;by_cases hr:i<j/\j<i+k
   .rw[if_pos hr]at hk2;simp at hk2
   .rw[if_neg hr]at hk2 ⊢;have q:=h.lg j hj hk2;refine⟨q.1,λm h1 h2=>?_⟩;have r:=q.2 m h1 h2;have hne:¬ (i<=j+m/\j+m<i+k):=λhc=>by
     have:=hf' (j+m) hc.1 hc.2;omega
    rw[if_neg oq,if_neg oq];exact r
 .intro j hj hk3;rw[hl]at hj;simp only[hg]at hk3 ⊢;by_cases hji:j=i
  .rw[if_pos hji]at hk3;simp at hk3
  .rw[if_neg hji]at hk3;by_cases hr:i<j/\j<i+k
   .refine⟨i,hr.1, ?_⟩;simp only[if_pos];refine⟨trivial, ?_⟩;rw[hn];omega
   .rw[if_neg hr]at hk3;obtain⟨a,a1,a2,a3⟩:=h.tl j hj hk3;have hne:¬ (i<=a/\a<i+k):=λhc=>by
     have:=hf' a hc.1 hc.2;omega
    refine⟨a,a1, ?_⟩;rw[if_neg oq,if_neg oq];exact⟨a2,a3⟩
def Z3x{l:List Page}{i:Nat}{n:Int}:Z1C l i n=l.set i ⟨(l.getD i X).K,(l.getD i X).S,(l.getD i X).U+n,(l.getD i X).N⟩:=rfl
def Z31{h:Heap}(hs:h.S=0\/h.S=1)(hf:0<=first h.P 1)(n:Int):Z1C (Z3j h) (first h.P 1).toNat n=h.P.set (first h.P 1).toNat ⟨1,h.S,n,0⟩/\(h.P.getD (first h.P 1).toNat X).K=0/\(first h.P 1).toNat<h.P.length:=by
 obtain⟨f1,f2,f3,f4⟩:=Z2A hs hf;obtain⟨g1,g2,g3⟩:=Z1n hf;have hi:(first h.P 1).toNat<h.P.length:=by omega
 refine⟨?_, ?_,hi⟩
 .rw[Z3x,f4,f1,Z8J hi,Xd];simp
 .have:=freeK_iff.1 g3 0 dd;simpa using this
structure PutOk (h:Heap) (n:Int) (h':Heap) (a:Int):Prop where
 pr:Z02 h'=Y
 c:h'.C=h.C
 w:h'.W=h.W
 l:h'.P.length=h.P.length
 sp:h'.S=h.S
 pin:∀ p∈h'.P,p.N=0\/∃ q∈h.P,p.N=q.N
 lo:4096<=a
 hi:a+n<=4096+h.W.length
def getD_in{l:List Page}{i:Nat}(h:i<l.length):l.getD i X∈l:=by
 rw[La,Lk h];exact List.getElem_mem h
def Zho{h:Heap}{n:Int}(hp:Z02 h=Y)(hn:1<=n/\n<=h.C.pw)(e:(Z0l h n).2.2=Y):PutOk h n (Z0l h n).1 (Z0l h n).2.1:=by
 have hp':=hp;rw[Z1w]at hp;obtain⟨p1,p2,p3,p4,p5,p6⟩:=hp;have hb:=validB_iff.1 p1;by_cases hf:Z75 h n
 .have e7:Z0l h n=(⟨h.C,h.W,Z1C h.P h.B.toNat n,h.S,h.B⟩,4096+h.B*h.C.pw+(h.P.getD h.B.toNat X).U,Y):=by rw[Z0l,if_pos hf]
  unfold Z75 at hf;have hbi:h.B.toNat<h.P.length:=by omega
  have hk:(h.P.getD h.B.toNat X).K=1:=by omega
  have ok:=p6.b h.B.toNat hbi;have u:=ok.k1 hk;have ha:=Z2V p1 (i:=h.B) oq oq;have hio:=Z17 (i:=h.B) (j:=h.C.pg) (pw:=h.C.pw) oq oq;rw[Lj h.C.pg]at hio;rw[e7];refine⟨?_,rfl,rfl,by simp[Z1C],rfl, ?_,by simp only;omega,by simp only;omega⟩
  .rw[Z1w];refine⟨p1,p2,by simp[Z1C,p3],p4, ?_, ?_⟩
   .refine Lc ⟨hf.1,by simp[Z1C];omega, ?_⟩;show((Z1C h.P h.B.toNat n).getD h.B.toNat X).K=1;rw[Z3x,Z0q hbi,if_pos rfl];exact hk
   .exact p6.setPage hbi (Lc hk) ⟨ok.s,ok.n,ok.k,λq=>by simp only at q;omega,λ_=>by simp only;omega,λq=>by simp only at q;omega⟩ (Lc hk)
  .intro p hp;rcases LM hp with hp | rfl
   .exact Lc ⟨p,hp,rfl⟩
   .exact Lc ⟨_,getD_in hbi,rfl⟩
 .by_cases hg:0<=first h.P 1/\(Z1x h.P:Int)<Z2s h.C
  .have e7:Z0l h n=(⟨h.C,h.W,Z1C (Z3j h) (first h.P 1).toNat n,h.S,first h.P 1⟩,4096+first h.P 1*h.C.pw+((Z3j h).getD (first h.P 1).toNat X).U,Y):=by rw[Z0l,if_neg hf,if_pos hg]
   obtain⟨g1,g2,g3⟩:=Z31 p4 hg.1 n;have g4:=congrArg Page.U (Z2A p4 hg.1).2.2.2;simp only at g4;have ha:=Z2V p1 (i:=first h.P 1) oq oq;have hio:=Z17 (i:=first h.P 1) (j:=h.C.pg) (pw:=h.C.pw) oq oq;rw[Lj h.C.pg]at hio;rw[e7,g1,g4];refine⟨?_,rfl,rfl,by simp,rfl, ?_,by simp only;omega,by simp only;omega⟩
   .rw[Z1w];refine⟨p1,p2,by simp[p3],p4, ?_, ?_⟩
    .refine Lc ⟨hg.1,by simp only[Lw];omega, ?_⟩;simp only;rw[Z0q g3,if_pos rfl]
    .exact p6.setPage g3 (Ld g2) ⟨by simp only;omega,by simp,by simp,by simp,λ_=>by simp only;omega,by simp⟩ (Lc rfl)
   .intro p hp;rcases LM hp with hp | rfl
    .exact Lc ⟨p,hp,rfl⟩
    .exact Ld rfl
  .rw[Z0l,if_neg hf,if_neg hg]at e;simp at e
def Zhc{h:Heap}{n:Int}(hp:Z02 h=Y)(hk:1<=need h.C n)(e:(Z0z h n (need h.C n)).2.2=Y):PutOk h n (Z0z h n (need h.C n)).1 (Z0z h n (need h.C n)).2.1:=by
 have hp':=hp;rw[Z1w]at hp;obtain⟨p1,p2,p3,p4,p5,p6⟩:=hp;have hb:=validB_iff.1 p1;by_cases hg:0<=first h.P (need h.C n)/\Z1x h.P+need h.C n<=Z2s h.C
 .obtain⟨g1,g2,g3⟩:=Z1n hg.1;have el:(Z2z h.C h.P (first h.P (need h.C n)) h.S n).1=tookP h.P (first h.P (need h.C n)).toNat (need h.C n).toNat ⟨2,h.S,n,0⟩ ⟨3,h.S,0,0⟩:=by
   rw[Z2z,if_pos ⟨hk,by omega⟩,Z33,if_pos oq,if_pos g3]
  have e7:Z0z h n (need h.C n)=(⟨h.C,h.W,tookP h.P (first h.P (need h.C n)).toNat (need h.C n).toNat ⟨2,h.S,n,0⟩ ⟨3,h.S,0,0⟩,h.S,h.B⟩,4096+first h.P (need h.C n)*h.C.pw,Y):=by rw[Z0z,if_pos hg,el]
  have hf:∀ j,j<(need h.C n).toNat->(h.P.getD ((first h.P (need h.C n)).toNat+j) X).K=0:=freeK_iff.1 g3;have hlen:(tookP h.P (first h.P (need h.C n)).toNat (need h.C n).toNat ⟨2,h.S,n,0⟩ ⟨3,h.S,0,0⟩).length=h.P.length:=Z6H oq;have hu:=Z5z hk;have h0:0<=first h.P (need h.C n)*h.C.pw:=Ls hg.1 oq
  have hio:=LF (show first h.P (need h.C n)+need h.C n<=h.C.pg by omega) (show 0<=h.C.pw by omega);rw[LD,Lj h.C.pg]at hio;rw[e7];refine⟨?_,rfl,rfl,hlen,rfl, ?_,by simp only;omega,by simp only;omega⟩
  .rw[Z1w];refine⟨p1,p2,by simp only[hlen];exact p3,p4, ?_, ?_⟩
   .simp only[hlen];rcases p5 with p5 | p5
    .exact Ld p5
    .refine Lc ⟨p5.1,p5.2.1, ?_⟩;have hne:¬ ((first h.P (need h.C n)).toNat<=h.B.toNat/\h.B.toNat<(first h.P (need h.C n)).toNat+(need h.C n).toNat):=λhc=>by
      have:=hf (h.B.toNat-(first h.P (need h.C n)).toNat) oq;rw[show(first h.P (need h.C n)).toNat+(h.B.toNat-(first h.P (need h.C n)).toNat)=h.B.toNat by omega]at this;omega
     rw[Z6Z oq oq,if_neg oq,if_neg oq];exact p5.2.2
   .exact p6.took oq oq hf oq p4
  .intro p hp;rcases LM hp with hp | rfl
   .simp only[wr,Lq]at hp;rcases hp with(hp | hp) | hp
    .exact Lc ⟨p,L9 hp,rfl⟩
    .have:=List.eq_of_mem_replicate (L9 hp);subst this;exact Ld rfl
    .exact Lc ⟨p,List.mem_of_mem_drop hp,rfl⟩
   .exact Ld rfl
 .rw[Z0z,if_neg hg]at e;simp at e
def ZiU{hd:Header}(hv:Z0h hd=Y)(hm:0<=hd.map/\hd.map<=4294967295):WOk (objW hd)/\((objW hd).length:Int)=sizeH hd:=by
 have hb:=Zc1 hv hm.1 hm.2;constructor
 .intro x hx;simp only[objW,L7,List.mem_replicate,Z0d,if_pos hv]at hx;rcases hx with rfl | ⟨_,rfl⟩<;>omega
 .rw[sizeH,if_pos hv];simp[objW];omega
def ZbQ{h:Heap}{hd:Header}(hw:WOk h.W)(hm:0<=hd.map/\hd.map<=4294967295)(e:(new7 h hd).2.2=0) :
  Z02 h=Y/\Z3o h.C hd=Y/\PutOk h (sizeH hd) (put7 h hd).1 (put7 h hd).2.1/\(put7 h hd).2.2=Y/\(new7 h hd).2.1=(put7 h hd).2.1/\(new7 h hd).1 = { (put7 h hd).1 with W:=(Z0G h.W (put7 h hd).2.1 (objW hd)).1 }/\Z02 (new7 h hd).1=Y/\WOk (new7 h hd).1.W:=by
 unfold new7 at e;split at e
 .rename_i c1;split at e
  .rename_i c2;obtain⟨a1,a2,a3,a4,a5⟩:=Z5G c1.2;have po:=Z06 c1.1;have hput:PutOk h (sizeH hd) (put7 h hd).1 (put7 h hd).2.1:=by
    by_cases hn:0<need h.C (sizeH hd)
    .have e7:put7 h hd=Z0z h (sizeH hd) (need h.C (sizeH hd)):=by rw[put7,if_pos hn]
     rw[e7]at c2 ⊢;exact Zhc c1.1 oq c2
    .have e7:put7 h hd=Z0l h (sizeH hd):=by rw[put7,if_neg hn]
     rw[e7]at c2 ⊢;refine Zho c1.1 ⟨a2, ?_⟩ c2;unfold need at hn a4;split at a4
     .rename_i hc;rw[if_pos hc]at hn;split at a4
      .omega
      .rename_i hd';rw[if_neg hd']at hn;have e:=LV (sizeH hd+h.C.pw-1) h.C.pw;have hz:(sizeH hd+h.C.pw-1)/h.C.pw=0:=by omega
       rw[hz]at e;have:=LU (sizeH hd+h.C.pw-1) (b:=h.C.pw) oq;omega
     .omega
   have ho:=ZiU a1 hm;have hin:4096<=(put7 h hd).2.1/\(put7 h hd).2.1-4096+(objW hd).length<=h.W.length:=⟨hput.lo,by have:=hput.hi;omega⟩
   have e2:Z0G h.W (put7 h hd).2.1 (objW hd)=(spl h.W ((put7 h hd).2.1-4096).toNat (objW hd),0):=by rw[Z0G,if_pos hin]
   have hlen:(spl h.W ((put7 h hd).2.1-4096).toNat (objW hd)).length=h.W.length:=Z43 oq;have e3:(Z1u (put7 h hd).1 (put7 h hd).2.1 hd).1 = { (put7 h hd).1 with W:=(Z0G h.W (put7 h hd).2.1 (objW hd)).1 }:=by
    rw[Z1u,if_pos ⟨hput.pr,a1⟩,hput.w,e2];simp
   have e4:new7 h hd=((Z1u (put7 h hd).1 (put7 h hd).2.1 hd).1,(put7 h hd).2.1,0):=by rw[new7,if_pos c1,if_pos c2]
   refine⟨c1.1,c1.2,hput,c2,by rw[e4],by rw[e4];exact e3, ?_, ?_⟩
   .rw[e4];simp only;rw[e3,e2];have q:=hput.pr;rw[Z1w]at q ⊢;refine⟨q.1, ?_,q.2.2.1,q.2.2.2.1,q.2.2.2.2.1,q.2.2.2.2.2⟩;simp only[hlen];have:=q.2.1;rw[hput.w]at this;exact this
   .rw[e4];simp only;rw[e3];exact Z6P hw ho.1 _
  .simp at e
 .simp at e
def Zko{h:Heap}{a:Int}(e:(atH h a).2=0):4096<=a/\a+(atH h a).1.length<4096+h.W.length:=by
 have k:=ZcN e;have po:=Z06 k.1;have o:=Z2M po.1 k.2.1;have hj:(ofA h.C a).1.toNat<h.P.length:=by omega
 have hk:(((ofA h.C a).1.toNat:Nat):Int)=(ofA h.C a).1:=by omega
 have h2:=e;unfold atH at h2 ⊢;rw[if_pos k.1,if_pos k.2.1]at h2 ⊢;split at h2
 .rename_i g1;split at h2
  .simp at h2
  .rename_i g2;rw[if_pos g1,if_neg g2];have hv:Z0h (decodeH (loadA h.W a).1).1=Y:=Z2b _;have hs:sizeH (decodeH (loadA h.W a).1).1=(decodeH (loadA h.W a).1).1.length+1:=by rw[sizeH,if_pos hv]
   have hvb:=(validH_iff.1 hv).2.2.1;have ue:=ZbE k.1 hj g1.1;rw[hk]at ue;have h0:0<=(ofA h.C a).1*h.C.pw:=Ls o.1 oq;have hio:=Z17 (i:=(ofA h.C a).1) (j:=h.C.pg) (pw:=h.C.pw) o.2.1 oq;rw[Lj h.C.pg]at hio;have hL:=po.2.2.2.2.2.1;refine⟨by omega, ?_⟩;simp only;rcases g1.1 with g | g<;>omega
 .simp at h2
def Z4Q{h:Heap}{a i v:Int}(hw:WOk h.W)(hv:0<=v/\v<=18446744073709551615)(e:(getH h a).2=0)(hi:0<=i/\i<(getH h a).1.length):Z0B h a i v=({ h with W:=(Z0L h.W (a+1+i) v).1 },0)/\Z02 (Z0B h a i v).1=Y/\WOk (Z0B h a i v).1.W:=by
 have g:=Z47 e;have k:=Zko g.2.1;rw[<- g.1]at k;have hin:4096<=a+1+i/\a+1+i<4096+h.W.length:=by omega
 have hf:(Z25 h a i).2=0:=by
  unfold Z25;rw[if_pos e,if_pos hi];unfold loadA;rw[if_pos hin]
 have e1:Z0B h a i v=({ h with W:=(Z0L h.W (a+1+i) v).1 },0):=by rw[Z0B,if_pos hf]
 refine⟨e1, ?_, ?_⟩
 .rw[e1];have q:=g.2.2.1;rw[Z1w]at q ⊢;refine⟨q.1, ?_,q.2.2.1,q.2.2.2.1,q.2.2.2.2.1,q.2.2.2.2.2⟩;simp only[Z2w hin];exact q.2.1
 .rw[e1];exact Z9A hw hv _
def Zl0(a:List Int)(i:Nat):Tg:=⟨tm 26 [(0,Z01 a),(1,Z01 a),(4,bool M),(5,int i)],[],60⟩
def Zj2(a:List Int)(i:Nat)(ha:a.length<=1048576)(hi:i<a.length):CP (rndF f27 0) (Zl0 a i).st .nrm (Zl0 a (i+1)).st:=by
 exact sF [] [] (FN 13 14 19 wdv a i (Fek 23 wdv a (↑i) i (Ffs 25 (a.getD i X != a.getD i X) (Fx 16 i Fz))))
def Zoa(a:List Int):CP (rndF f27 0) (Zl0 a a.length).st (.ext 0) (Tg.st ⟨tm 26 [],[],60⟩):=by
 exact sF [] [] (FO 13 14 wdv a Fz)
def ZmF(a:List Int)(ha:a.length<=1048576)  := Z0a (S:=λi=>(Zl0 a i).st) a.length (by kernel_rfl) (λi hi=>Zj2 a i ha hi) (Zoa a)
def ZcP(a:List Int)(ha:a.length<=1048576):GP 27 [Z01 a,Z01 a] Y (bool Y) []:=by
 exact gF [] func27 [] (Fl 7 wdv a (Fl 9 wdv a (Ffs 10 ((a.length:Int) != (a.length:Int)) (Fu (@ZmF a aa) Fz))))
def ZmE{l:List Page}{i k:Nat}{p q:Page}(hk:1<=k)(h:i+k<=l.length):spl l i (p::LI (k-1) q)=tookP l i k p q:=by
 obtain⟨m,rfl⟩:∃ m,k=m+1:=⟨k-1,by omega⟩
 have hl:(Lg i l).length=i:=by simp;omega
 rw[tookP,wr,spl,List.take_of_length_le (l:=LI (m+1) q) pq,LX,LX,List.set_append,if_neg oq,hl,Nat.sub_self];simp[List.replicate_succ]
def Za1{l:List Page}:∀ {i:Nat},(∀ j,j<i->(l.getD j X).K=0)->Z1I l i=0
 | 0,_=>rfl
 | i+1,h=>by
  have hp:Z1j l i=l.getD i X:=by rw[Z3Z];simp
  rw[Z1I,Za1 (λj hj=>h j oq),hp,if_pos (h i oq)]
def ZhN{l:List Page}{i k:Nat}(h:i+k<=l.length)(hf:Z6s l i k=Y):Z1x ((l.drop i).take k)=0:=by
 refine Za1 λj hj=>?_;simp only[List.length_take,List.length_drop]at hj;have:=freeK_iff.1 hf j oq;rw[La]at this ⊢;rwa [List.getElem?_take,if_pos oq,Ly]
def Z6r(l:List Page)(hl:l.length<=1048576)(hne:l≠[]):GP 81 [Z0t l] Y (.ow 0) [.arr 84 4 (l.map Page.dv)]:=by
 exact gF [24007] func81 [] (Fa (by exact ZgN hne:Z Page.dv l≠[]) (FA 5 7 Page.dv l (Fa (by exact Z1Y _:Z0C (Z Page.dv l)) Fz)))
def Zmz(ps l:List Page)(i:Int)(hl:ps.length<=1048576)(hll:l.length<=1048576)(hi:0<=i)(h1:i+l.length<=ps.length)(hf:Z6s ps i.toNat l.length=Y)(hn:0<ps.length):GP 197 [Z0t ps,int i,Z0t l] Y (.tu [.ow 0,int 0]) [.arr 84 4 ((spl ps i.toNat l).map Page.dv)]:=by
 have hne:ps≠[]:=Z9r hn;have e1:Z1x (Lg ((i+l.length).toNat-i.toNat) (Ll i.toNat ps))=0:=by
  rw[show(i+l.length).toNat-i.toNat=l.length from by omega];exact ZhN oq hf
 have hs:Z0R (Z Page.dv ps) i.toNat (Z Page.dv l)=Z Page.dv (spl ps i.toNat l):=by simp[Z0R,spl]
 exact gF [33030] func197 [] (Fh 26 [.els (Z Page.dv (Lg ((i+(l.length:Int)).toNat-i.toNat) (Ll i.toNat ps)))] (Fh 35 [.els (Z Page.dv (Lg i.toNat ps++l++Ll (i.toNat+l.length) ps))] (FlG 14 (!decide (i<0)) Page.dv ps (FlG 16 (!decide (i<0)) Page.dv l (FiG 17 (!decide (i<0)) ((ps.length:Int)-(l.length:Int)) (Ffb 19 (O (i<0)||O ((ps.length:Int)-(l.length:Int)<i)) (Fl 24 Page.dv l (Fi 25 (i+(l.length:Int)) (Fa (by(simp only[Li];omega):0<=i/\i<=i+(l.length:Int)/\i+(l.length:Int)<=(↑(Z Page.dv ps).length:Int)) (Fa (by simp[e1,spl,L6,L4,L5,L3,wdv,idv]:Lg ((i+(l.length:Int)).toNat-i.toNat) (Ll i.toNat (Z Page.dv ps))=Z Page.dv (Lg ((i+(l.length:Int)).toNat-i.toNat) (Ll i.toNat ps))) (Fc 27 (@ZjV (Lg ((i+(l.length:Int)).toNat-i.toNat) (Ll i.toNat ps)) (by(simp[e1,spl, *];omega))) (Ffb 28 (O (0<(↑(Z1x (Lg ((i+(l.length:Int)).toNat-i.toNat) (Ll i.toNat ps))):Int))) (Fc 30 (@Z6r ps aa aa) (Fa (by(simp only[Li];omega):0<=i/\i<=(↑(Z Page.dv ps).length:Int)) (Fa (by(simp only[Li];omega):(Z Page.dv l).length<=(↑(Z Page.dv ps).length:Int).toNat-i.toNat) (Fa (by exact hs:Z0R (Z Page.dv ps) i.toNat (Z Page.dv l)=Z Page.dv (Lg i.toNat ps++l++Ll (i.toNat+l.length) ps)) (Fa (by exact Z1Y _:Z0C (Z Page.dv (Lg i.toNat ps++l++Ll (i.toNat+l.length) ps))) Fz)))))))))))))))))
def Zri{l:List Page}{i:Nat}{p q:Page}(h:i+1<=l.length):spl l i [p]=tookP l i 1 p q:=by
 have:=ZmE (l:=l) (i:=i) (k:=1) (p:=p) (q:=q) (Lr _) h;simpa using this
def ZaV(l:List Page)(i sp:Int)(hl:l.length<=1048576)(hs:0<=sp/\sp<=1)(hi:0<=i/\i+1<=l.length)(hf:Z6s l i.toNat 1=Y):GP 176 [Z0t l,int i,int sp] Y (.tu [.ow 0,int 0]) [.arr 84 4 ((tookP l i.toNat 1 ⟨1,sp,0,0⟩ ⟨0,0,0,0⟩).map Page.dv)]:=by
 have e:=Zri (l:=l) (i:=i.toNat) (p:=⟨1,sp,0,0⟩) (q:=⟨0,0,0,0⟩) oq;rw[<- e];have e2:Z6s l i.toNat ([⟨1,sp,0,0⟩]:List Page).length=Y:=hf;have e3:Z2l ⟨1,sp,0,0⟩=Y:=by simp[Z2l];omega
 exact gF [33018] func176 [] (Fc 12 (@Z6q (Page.mk 1 sp 0 0)) (Ffb 13 (!Z2l (Page.mk 1 sp 0 0)) (Fs 17 (Z Page.dv [Page.mk 1 sp 0 0]) (Fc 18 (@Zmz l ([Page.mk 1 sp 0 0]) i aa (by simp[*]) oq (by simp[*]) aa oq) (Fa (by exact Z1Y _:Z0C (Z Page.dv (spl l i.toNat [Page.mk 1 sp 0 0]))) Fz)))))
def Zqj{a v k:Nat}(ha:a<2^k)(hv:a+v*2^k<18446744073709551616):bits .or .u64 (a:Int) ((v*2^k:Nat):Int)=((a+v*2^k:Nat):Int):=by
 rw[bits_or_u64_nat a (v*2^k) oq oq,Nat.mul_comm v,Nat.or_comm,<- Nat.two_pow_add_eq_or_of_lt ha,Nat.add_comm]
def Zfa{v n:Nat}(hn:n<=64)(hv:v<2^n):bits .andNot .u64 (v:Int) (2^n-1)=0:=by
 have h64:(2:Nat)^n<=2^64:=Xh dd hn;have hp:0<(2:Nat)^n:=Nat.two_pow_pos n;have e:((2:Int)^n-1)=((2^n-1:Nat):Int):=by
  have:((2^n:Nat):Int)=2^n:=by simp
  omega
 rw[e];have h1:(LC 64 (v:Int)).toNat=v:=by
  rw[LQ,LR];exact Xg oq
 have h2:(LC 64 ((2^n-1:Nat):Int)).toNat=2^n-1:=by
  rw[LQ,LR];exact Xg oq
 show Lf.wrap ((LC 64 (v:Int) &&& ~~~ LC 64 ((2^n-1:Nat):Int)).toNat:Int)=_;rw[BitVec.toNat_and,BitVec.toNat_not,h1,h2];have e2:2^64-1-(2^n-1)=2^n*(2^(64-n)-1):=by
  have:(2:Nat)^64=2^n*2^(64-n):=by rw[<- Nat.pow_add];congr 1;omega
  rw[Nat.mul_sub,Nat.mul_one,<- this];omega
 have e3:v &&& (2^64-1-(2^n-1))=0:=by
  rw[e2];apply Nat.eq_of_testBit_eq;intro i;rw[Nat.testBit_and,Nat.zero_testBit,Nat.testBit_two_pow_mul];by_cases hi:n<=i
  .rw[Nat.testBit_lt_two_pow (Nat.lt_of_lt_of_le hv (Xh dd hi)),Bool.false_and]
  .simp[hi]
 rw[e3];decide
def ZfR(v n:Int)(h0:0<=v)(hn:0<=n/\n<=64)(hv:v<2^n.toNat):GP 207 [u64 v,int n] Y (bool Y) []:=by
 have e:bits .andNot .u64 v (ones n)=0:=by
  obtain⟨a,rfl⟩:=LJ h0;rw[ones,Nat.min_eq_left oq];exact Zfa oq (by exact_mod_cast hv)
 exact gF [] func207 [Y] (Fc 7 (@Z3R n) (Fb ((bits BinOp.andNot Lf v (ones n)==0)=Y) Fz))
structure BField where
 width:Int
 value:Int
 deriving DecidableEq,Inhabited
def BField.dv(f:BField):List DV:=[.sc (.int .i64 f.width),.sc (.int .u64 f.value)]
def orI(n:Nat){p a v:Int}(hp:p=((2^n:Nat):Int))(ha:0<=a)(hv:0<=v)(h1:a<p)(h2:a+v*p<18446744073709551616):bits .or .u64 a (Lf.wrap (v*p))=a+v*p:=by
 obtain⟨x,rfl⟩:=LJ ha;obtain⟨y,rfl⟩:=LJ hv;have hm:(y:Int)*p=((y*2^n:Nat):Int):=by rw[hp,Int.natCast_mul]
 rw[hm]at h2 ⊢;rw[wrapU' oq oq];exact Zqj oq oq
end Go.Proofs.YtdhchmlalchgeaaGreat
namespace Go.Sx
def mvP(ids:List Nat)(post:List Blk)(n:Nat):List Blk:=(upto 0 n).map λk=>match idxN k ids 0 with
 | some j=>Z49 ids (post.getD j .dead)
 | none=>.dead
def mvOk(m p n:Nat)(ids:List Nat):Bool:=Xe ids.length p&&LA m p&&LA m n&&nodupB ids&&(upto 0 p).all (λj=>LA (ids.getD j 0+1) n&&(Xe (ids.getD j 0) j||LA m (ids.getD j 0)))&&(upto 0 n).all λk=>match idxN k ids 0 with | Lb _=>Y | Lh=>LA (k+1) m
def Z7b{P:Program}{f:Nat}{args:List AV}{pre:List Blk}{res:AV}{post:List Blk}(ids:List Nat)(n:Nat){res2:AV}{post2:List Blk}(h:BorSpec P f args pre res post)(ok:mvOk pre.length post.length n ids=Y)(hr:mapT (renI ids) res=res2)(hp:mvP ids post n=post2):BorSpec P f args pre res2 post2:=by
 simp only[mvOk,LS,List.all_eq_true,Bool.or_eq_true]at ok;obtain⟨⟨⟨⟨⟨k1,k2⟩,k3⟩,k4⟩,k5⟩,k6⟩:=ok;have k1:=Xf k1;have k2:=LB k2;have k3:=LB k3;have k4:=Z3r k4;have mem:∀ {j p:Nat},j<p->j∈upto 0 p:=λ{j p} hj=>L8 (by rw[Z8v _ _ _ hj,Xi]);have k5:∀ j,j<post.length->ids.getD j 0<n/\(ids.getD j 0=j\/pre.length<=ids.getD j 0):=λj hj=>by
  have:=k5 j (mem hj);exact⟨LB this.1,this.2.imp Xf LB⟩
 have k6:∀ k,k<n->idxN k ids 0=Lh->k<pre.length:=λk hk e=>by
  have:=k6 k (mem hk);rw[e]at this;exact LB this
 subst hr hp;have pl:(mvP ids post n).length=n:=by simp[mvP,Z8u]
 have pg:∀ (k:Nat) (B:Blk),(mvP ids post n)[k]? = Lb B->k<n/\((∃ j,ids[j]? = Lb k/\j<post.length/\B=Z49 ids (post.getD j .dead))\/(k<pre.length/\B = .dead)):=λk B hB=>by
  have hk:k<n:=by have:=(LG.1 hB).1;omega
  simp only[mvP,List.getElem?_map,Z8v _ _ _ hk,Xi,Option.map_some,Option.some.injEq]at hB;refine⟨hk, ?_⟩;cases e:idxN k ids 0 with
  | none=>rw[e]at hB;exact .inr ⟨k6 k hk e,hB.symm⟩
  | some j =>
   rw[e]at hB;obtain⟨_,q⟩:=Z20 e;have q:ids[j]? = Lb k:=by simpa using q
   exact .inl ⟨j,q,by have:=(LG.1 q).1;omega,hB.symm⟩
 intro w Im ρ vs hIm hsz hρ hinj hbnd hpre hargs;refine(h w Im ρ vs hIm hsz hρ hinj hbnd hpre hargs).mono ?_;rintro e w' ⟨v,rfl,hk,ρ',Im',a1,a2,a3,a4,a5,a6,a7,a8,a9⟩;let ρ2:Rho:=λk=>if k<pre.length then ρ' k else match idxN k ids 0 with | Lb j=>ρ' j | Lh=>Lh
 have hlow:∀ k,k<pre.length->ρ2 k=ρ' k:=λk hk=>by simp only[ρ2,if_pos hk]
 have hat:∀ (j k:Nat),ids[j]? = Lb k->ρ2 k=ρ' j:=λj k q=>by
  have hj:j<post.length:=by have:=(LG.1 q).1;omega
  have e:ids.getD j 0=k:=by rw[La,q];rfl
  have c:=k5 j hj;rw[e]at c;by_cases hkp:k<pre.length
  .rw[hlow k hkp];rcases c.2 with c | c
   .rw[c]
   .omega
  .simp only[ρ2,if_neg hkp];cases ex:idxN k ids 0 with
   | none=>exact absurd (L8 q) (Z4G ex)
   | some j2 =>
    obtain⟨_,q2⟩:=Z20 ex;rw[Z4U k4 q (by simpa using q2)]
 have hfrom:∀ k β,ρ2 k=Lb β->∃ j,ρ' j=Lb β/\k<n:=λk β hb=>by
  by_cases hkp:k<pre.length
  .rw[hlow k hkp]at hb;exact⟨k,hb,by omega⟩
  .simp only[ρ2,if_neg hkp]at hb;split at hb
   .rename_i j hj;obtain⟨_,q⟩:=Z20 hj;have q:ids[j]? = Lb k:=by simpa using q
    have hj:j<post.length:=by have:=(LG.1 q).1;omega
    have:=k5 j hj;rw[La,q]at this;exact⟨j,hb,this.1⟩
   .cases hb
 have hren:∀ j β,ρ' j=Lb β->ρ2 (ids.getD j 0)=Lb β:=λj β hb=>by
  have hj:=a2 j β hb;have q:ids[j]? = Lb (ids.getD j 0):=by rw[La,Lk oq];rfl
  rw[hat j _ q];exact hb
 have hlv:∀ k,live (hL (mvP ids post n)) k->∃ j,ids[j]? = Lb k/\live (hL post) j:=by
  rintro k ⟨B,hB,hd⟩;obtain⟨_,⟨j,q1,q2,q3⟩ | ⟨_,q⟩⟩:=pg k B hB
  .refine⟨j,q1,post[j],Lk q2,λe=>hd ?_⟩;rw[q3,La,Lk q2];simp only[Option.getD_some,e,Z49]
  .exact absurd q hd
 refine⟨v,rfl,hk,ρ2,Im',λk β hb=>?_,λk β hb=>?_,a3,a4,λk β g hb=>?_,λk β g hl hb=>?_,λk k' β β' g hl hl' hb hb' hg hg'=>?_,λk B hB=>?_, ?_⟩
 .rw[hlow k (hρ k β hb)];exact a1 k β hb
 .obtain⟨j,_,q⟩:=hfrom k β hb;rw[pl];exact q
 .obtain⟨j,q,_⟩:=hfrom k β hb;exact a5 j β g q
 .obtain⟨j,q1,q2⟩:=hlv k hl;rw[hat j k q1]at hb;exact a6 j β g q2 hb
 .obtain⟨j,q1,q2⟩:=hlv k hl;obtain⟨j',q1',q2'⟩:=hlv k' hl';rw[hat j k q1]at hb;rw[hat j' k' q1']at hb';have:=a7 j j' β β' g q2 q2' hb hb' hg hg';subst this;rw[q1]at q1';exact Option.some.inj q1'
 .obtain⟨_,⟨j,q1,q2,rfl⟩ | ⟨q,rfl⟩⟩:=pg k B hB
  .obtain⟨β,m1,m2⟩:=a8 j _ (Lk q2);rw[La,Lk q2];exact⟨β,by rw[hat j k q1];exact m1,Z9N (λ_ h=>h) hren m2⟩
  .obtain⟨β,m1,_⟩:=hpre k _ (Lk q);exact⟨β,by rw[hlow k q];exact a1 k β m1,trivial⟩
 .obtain⟨q1,q2,q3⟩:=Z8i (w:=w') (Im:=Im') (Im':=Im') hren;exact Z8s (λ_ h=>h) q1 q2 q3 a9
end Go.Sx
namespace Go.Proofs.YtdhchmlalchgeaaGreat
open Go.Sx
def ufS(w:Int):Nat->Int
 | 0=>w
 | 1=>w/4
 | _=>w/17179869184
def ufO(w:Int):List Int:=[w%4,w/4%4294967296]
def uf1(w:Int)(i:Nat):Tg:=⟨tm 49 [(0,u64 w),(1,Z0j [2,32]),(4,.d (.sl 0 [])),(5,int 0),(6,int ([64,62,30].getD i 0)),(12,Z0j [2,32]),(13,int 2),(14,int i)],[],20⟩
def Zm8(w:Int)(i:Nat)(hi:i<2):CP (rndF f174 0) (uf1 w i).st .nrm (uf1 w (i+1)).st:=by
 have h:i=0\/i=1:=by omega
 rcases h with rfl | rfl
 .refine stretchE [((16:Nat),[Hint.el (idv (2:Int))])] [] [] [] (φ:=(0:Int)<=(↑(0:Nat):Int)/\(Z idv [(2:Int),(32:Int)])[(↑(0:Nat):Int).toNat]? = Lb (idv (2:Int))) ?_ kr kr kr;exact(by simp[*])
 .refine stretchE [((16:Nat),[Hint.el (idv (32:Int))])] [] [] [] (φ:=(0:Int)<=(↑(1:Nat):Int)/\(Z idv [(2:Int),(32:Int)])[(↑(1:Nat):Int).toNat]? = Lb (idv (32:Int))) ?_ kr kr kr;exact(by simp[*])
def ZpP(w:Int):CP (rndF f174 0) (uf1 w 2).st (.ext 0) (Tg.st ⟨tm 49 [(0,u64 w),(1,Z0j [2,32]),(4,.d (.sl 0 [])),(5,int 0)],[],60⟩):=by
 exact sF [] [] Fz
def ZjZ(w:Int)  := Z0a (S:=λi=>(uf1 w i).st) 2 (by kernel_rfl) (λi hi=>Zm8 w i hi) (ZpP w)
def uf2(w:Int)(i:Nat):Tg:=⟨tm 49 [(0,u64 (ufS w i)),(4,.d (.sl 0 [])),(5,int 0),(9,.ow 480009),(29,Z0j [2,32]),(30,int 2),(31,int i)],[(480009,.arr 35 1 (((ufO w).take i).map wdv))],60⟩
def ZmQ(w:Int)(i:Nat)(h0:0<=w)(h1:w<=18446744073709551615)(hi:i<2):CP (rndF f174 2) (uf2 w i).st .nrm (uf2 w (i+1)).st:=by
 have o1:ones 2=3:=by decide
 have o3:ones 32=4294967295:=by decide
 have a0:bits .and .u64 w (ones 2)=w%4:=by rw[o1];exact Z3A 2 dd dd oq oq
 have a1:bits .and .u64 (w/4) (ones 32)=w/4%4294967296:=by rw[o3];exact Z3A 32 dd dd oq oq
 have f1:(w/4).fdiv 4294967296=w/17179869184:=by rw[Int.fdiv_eq_ediv_of_nonneg _ dd];omega
 have h:i=0\/i=1:=by omega
 rcases h with rfl | rfl
 .exact sF [(496041,480009)] [] (Fh 33 [.el (idv 2)] (Fa (by simp[ufS,ufO, *]:0<=(↑(0:Nat):Int)/\(Z idv [2,32])[(↑(0:Nat):Int).toNat]? = Lb (idv 2)) (Fc 38 (@Z3R (2)) (Fg 39 (by assumption:bits BinOp.and Lf (ufS w 0) (ones (2:Int))=ufS w 0%4) (Fs 40 (Z wdv [ufS w 0%4]) (Fa (by simp[ufS,ufO, *]:(Z wdv (Lg 0 (ufO w))).length+(Z wdv [ufS w 0%4]).length<=2^30) (Fs 41 (Z wdv [ufS w 0%4]) (Fg 44 (by exact Z5D rfl dd:(ufS w 0).fdiv (2^min (Lt 2) 64)=ufS w 0/4) (Fo ((0:Int)<=2) Fz)))))))))
 .exact sF [(496041,480009)] [Y] (Fh 33 [.el (idv 32)] (Fa (by simp[ufS,ufO, *]:0<=(↑(1:Nat):Int)/\(Z idv [2,32])[(↑(1:Nat):Int).toNat]? = Lb (idv 32)) (Fc 38 (@Z3R (32)) (Fg 39 (by assumption:bits BinOp.and Lf (ufS w 1) (ones (32:Int))=ufS w 1%4294967296) (Fs 40 (Z wdv [ufS w 1%4294967296]) (Fa (by simp[ufS,ufO, *]:(Z wdv (Lg 1 (ufO w))).length+(Z wdv [ufS w 1%4294967296]).length<=2^30) (Fs 41 (Z wdv [w%4,ufS w 1%4294967296]) (Fg 44 (by exact Z5D rfl dd:(ufS w 1).fdiv (2^min (Lt 32) 64)=ufS w 1/4294967296) (Fo ((0:Int)<=32) (Fa (by(simp[ufS,ufO, *];omega):ufS w 1/4294967296=ufS w (1+1)) Fz))))))))))
def ZqT(w:Int):CP (rndF f174 2) (uf2 w 2).st (.ext 2) (Tg.st ⟨tm 49 [(0,u64 (w/17179869184)),(4,.d (.sl 0 [])),(5,int 0),(9,.ow 480009)],[(480009,.arr 35 1 ((ufO w).map wdv))],60⟩):=by
 exact sF [] [] Fz
def ZiJ(w:Int)(h0:0<=w)(h1:w<=18446744073709551615)  := Z0a (S:=λi=>(uf2 w i).st) 2 (by kernel_rfl) (λi hi=>ZmQ w i h0 h1 hi) (ZqT w)
def Zkk(w:Int)(h0:0<=w)(h1:w<=18446744073709551615)(h:w<17179869184):GP 174 [u64 w,Z0j [2,32]] Y (.tu [Z01 (ufO w),int 0]) []:=by
 exact gF [] func174 [] (Fh 9 [.own] (Fu (@ZjZ w) (Fu (@ZiJ w aa aa) (Ffb 47 (w/(17179869184:Int) != 0) (Fa (by exact Z1p _:Z0C (Z wdv (ufO w))) Fz)))))
def Zm2(w:Int)(h0:0<=w)(h1:w<=18446744073709551615)(h:¬ w<17179869184):GP 174 [u64 w,Z0j [2,32]] Y (.tu [Z01 [],int 2]) []:=by
 exact gF [] func174 [] (Fh 9 [.own] (Fu (@ZjZ w) (Fu (@ZiJ w aa aa) (Ftb 47 (w/(17179869184:Int) != 0) (Fnl Fz)))))
def Z1O(w:Int)(h0:0<=w)(h1:w<=18446744073709551615):GP 137 [u64 w] Y (.tu [u64 (Z08 w).1,bool (Z08 w).2]) []:=by
 have u0:(ufO w).getD 0 X=w%4:=rfl;have u1:(ufO w).getD 1 X=w/4%4294967296:=rfl;have uL:(ufO w).length=2:=rfl;by_cases h:w<17179869184
 .rcases bb ((ufO w).getD 0 X != 2)with hc0 | hc0<;>have hc0p:=hc0<;>simp only[bs]at hc0p
  .rw[show Z08 w=((0:Int),M)from by(simp[Z08, *];omega)];exact gF [] func137 [] (Fh 16 [.el (wdv ((ufO w).getD 0 X))] (Fs 8 (Z idv [2,32]) (Fc 9 (@Zkk w aa aa aa) (Fa (by intro hg;(try simp only[bs]at hg);exact elI oq oq oq:(!(0:Int) != 0)=Y->(0:Int)<=0/\(Z wdv (ufO w))[Lt 0]? = Lb (wdv ((ufO w).getD 0 X))) (Ft 19 hc0 Fz)))))
  .rw[show Z08 w=((ufO w).getD (1:Nat) X,Y)from by grind[Z08]];refine gspec_ofE [((8:Nat),[Hint.els (Z idv [(2:Int),(32:Int)])]),((9:Nat),[Hint.call Y (AV.tu [Z01 (ufO w),int (0:Int)]) []]),((16:Nat),[Hint.el (wdv ((ufO w).getD (0:Nat) X))]),((19:Nat),[Hint.br M]),((21:Nat),[Hint.el (wdv ((ufO w).getD (1:Nat) X))])] [] [] dd func137 [] (φ:=((LI (2:Nat) [dint (0:Int)]).set ((0:Nat),Operand.const (Value.int Lu (2:Int))).1 [dint (2:Int)]).set ((1:Nat),Operand.const (Value.int Lu (32:Int))).1 [dint (32:Int)]=Z idv [(2:Int),(32:Int)]/\GP 174 [u64 w,Z0j [(2:Int),(32:Int)]] Y (AV.tu [Z01 (ufO w),int (0:Int)]) []/\((!(0:Int) != (0:Int))=Y->(0:Int)<=(0:Int)/\(Z wdv (ufO w))[Lt (0:Int)]? = Lb (wdv ((ufO w).getD (0:Nat) X)))/\((ufO w).getD (0:Nat) X != (2:Int))=M/\M=M/\(0:Int)<=(1:Int)/\(Z wdv (ufO w))[Lt (1:Int)]? = Lb (wdv ((ufO w).getD (1:Nat) X))) ?_ kr kr;exact⟨rfl,(@Zkk (w) aa aa aa),(by intro hg;(try simp only[bs]at hg);exact elI oq oq oq),aa,rfl,(by exact elI oq oq oq)⟩
 .rw[show Z08 w=((0:Int),M)from by(simp[Z08, *];omega)];exact gF [] func137 [] (Fh 16 [.el (wdv ([].getD 0 X))] (Fs 8 (Z idv [2,32]) (Fc 9 (@Zm2 w aa aa aa) (Fa (by intro hg;(try simp only[bs]at hg);exact elI oq oq oq:(!(2:Int) != 0)=Y->(0:Int)<=0/\(Z wdv [])[Lt 0]? = Lb (wdv ([].getD 0 X))) Fz))))
def Z0Y(a:Int):List BField:=[⟨2,2⟩,⟨32,a⟩]
def pf1(a:Int)(i:Nat):Tg:=⟨tm 55 [(0,.d (.sl 2 ((Z0Y a).map BField.dv))),(2,u64 0),(3,int 0),(4,int ([64,62,30].getD i 0)),(11,.d (.sl 2 ((Z0Y a).map BField.dv))),(12,int (Z0Y a).length),(13,int i)],[],4⟩
def Zll(a:Int)(i:Nat)(hi:i<2):CP (rndF f198 0) (pf1 a i).st .nrm (pf1 a (i+1)).st:=by
 have eL:(Z0Y a).length=2:=rfl;have e0:(Z0Y a).getD 0 X=⟨2,2⟩:=rfl;have e1:(Z0Y a).getD 1 X=⟨32,a⟩:=rfl;have h:i=0\/i=1:=by omega
 rcases h with rfl | rfl
 .exact sF [] [] (Fek 15 BField.dv (Z0Y a) (↑(0:Nat):Int) 0 (Fg 29 (rfl:Lu.wrap ([64,62,30].getD 0 0-((Z0Y a).getD 0 X).width)=64-((Z0Y a).getD 0 X).width) Fz))
 .exact sF [] [] (Fek 15 BField.dv (Z0Y a) (↑(1:Nat):Int) 1 (Fg 29 (rfl:Lu.wrap ([64,62,30].getD 1 0-((Z0Y a).getD 1 X).width)=62-((Z0Y a).getD 1 X).width) Fz))
def Zq6(a:Int):CP (rndF f198 0) (pf1 a 2).st (.ext 0) (Tg.st ⟨tm 55 [(0,.d (.sl 2 ((Z0Y a).map BField.dv))),(2,u64 0),(3,int 0)],[],4⟩):=by
 have eL:(Z0Y a).length=2:=rfl;exact sF [] [] Fz
def Zou(a:Int)  := Z0a (S:=λi=>(pf1 a i).st) 2 (by kernel_rfl) (λi hi=>Zll a i hi) (Zq6 a)
def pfW(a:Int)(i:Nat):Int:=[0,2,2+4*a].getD i 0
def pf2(a:Int)(i:Nat):Tg:=⟨tm 55 [(2,u64 0),(3,int 0),(7,u64 (pfW a i)),(8,int ([0,2,34].getD i 0)),(31,.d (.sl 2 ((Z0Y a).map BField.dv))),(32,int (Z0Y a).length),(33,int i)],[],6⟩
def Zmv(a:Int)(i:Nat)(h:0<=a/\a<=4294967295)(hi:i<2):CP (rndF f198 2) (pf2 a i).st .nrm (pf2 a (i+1)).st:=by
 have eL:(Z0Y a).length=2:=rfl;have e0:(Z0Y a).getD 0 X=⟨2,2⟩:=rfl;have e1:(Z0Y a).getD 1 X=⟨32,a⟩:=rfl;have f1:bits .or .u64 (pfW a 1) (Lf.wrap (((Z0Y a).getD 1 X).value*4))=pfW a (1+1):=(orI 2 (a:=2) (v:=a) dd oq oq oq oq).trans (by show _=2+4*a;omega);have h:i=0\/i=1:=by omega
 rcases h with rfl | rfl
 .refine stretchE [((35:Nat),[Hint.el ((Z0Y a).getD (0:Nat) X).dv]),((41:Nat),[Hint.call Y (Sx.bool Y) []]),((47:Nat),[Hint.int (((Z0Y a).getD (0:Nat) X).value*(1:Int))]),((52:Nat),[Hint.int ((0:Int)+((Z0Y a).getD (0:Nat) X).width)])] [] [] [] (φ:=((0:Int)<=(↑(0:Nat):Int)/\(Z BField.dv (Z0Y a))[(↑(0:Nat):Int).toNat]? = Lb ((Z0Y a).getD (0:Nat) X).dv)/\GP 207 [u64 ((Z0Y a).getD (0:Nat) X).value,int ((Z0Y a).getD (0:Nat) X).width] Y (Sx.bool Y) []/\Lf.wrap (((Z0Y a).getD (0:Nat) X).value*(2:Int)^min ([(0:Int),(2:Int),(34:Int)].getD (0:Nat) (0:Int)).toNat (64:Nat))=((Z0Y a).getD (0:Nat) X).value*(1:Int)/\(0:Int)<=[(0:Int),(2:Int),(34:Int)].getD (0:Nat) (0:Int)/\Lu.wrap ([(0:Int),(2:Int),(34:Int)].getD (0:Nat) (0:Int)+((Z0Y a).getD (0:Nat) X).width)=(0:Int)+((Z0Y a).getD (0:Nat) X).width) ?_ kr kr kr;exact⟨(by exact elI oq oq oq),(@ZfR (((Z0Y a).getD (0:Nat) X).value) (((Z0Y a).getD (0:Nat) X).width) (by grind[pfW]) (by grind[pfW]) (by grind[pfW])),rfl,(by simp[pfW, *]),rfl⟩
 .refine stretchE [((35:Nat),[Hint.el ((Z0Y a).getD (1:Nat) X).dv]),((41:Nat),[Hint.call Y (Sx.bool Y) []]),((48:Nat),[Hint.int (bits BinOp.or Lf (pfW a (1:Nat)) (Lf.wrap (((Z0Y a).getD (1:Nat) X).value*(4:Int))))]),((52:Nat),[Hint.int ((2:Int)+((Z0Y a).getD (1:Nat) X).width)])] [] [] [M,M,Y] (φ:=((0:Int)<=(↑(1:Nat):Int)/\(Z BField.dv (Z0Y a))[(↑(1:Nat):Int).toNat]? = Lb ((Z0Y a).getD (1:Nat) X).dv)/\GP 207 [u64 ((Z0Y a).getD (1:Nat) X).value,int ((Z0Y a).getD (1:Nat) X).width] Y (Sx.bool Y) []/\(0:Int)<=[(0:Int),(2:Int),(34:Int)].getD (1:Nat) (0:Int)/\bits BinOp.or Lf (pfW a (1:Nat)) (Lf.wrap (((Z0Y a).getD (1:Nat) X).value*(2:Int)^min ([(0:Int),(2:Int),(34:Int)].getD (1:Nat) (0:Int)).toNat (64:Nat)))=bits BinOp.or Lf (pfW a (1:Nat)) (Lf.wrap (((Z0Y a).getD (1:Nat) X).value*(4:Int)))/\Lu.wrap ([(0:Int),(2:Int),(34:Int)].getD (1:Nat) (0:Int)+((Z0Y a).getD (1:Nat) X).width)=(2:Int)+((Z0Y a).getD (1:Nat) X).width/\bits BinOp.or Lf (pfW a (1:Nat)) (Lf.wrap (((Z0Y a).getD (1:Nat) X).value*(4:Int)))=pfW a ((1:Nat)+(1:Nat))) ?_ kr kr kr;exact⟨(by exact elI oq oq oq),(@ZfR (((Z0Y a).getD (1:Nat) X).value) (((Z0Y a).getD (1:Nat) X).width) (by simp only[bs, *,true_or,or_true,true_and,and_true,not_true_eq_false,not_false_eq_true,Bool.true_eq_false,Bool.false_eq_true]) (by grind[pfW]) (by grind[pfW])),(by simp[pfW, *]),rfl,rfl,aa⟩
def Zq8(a:Int):CP (rndF f198 2) (pf2 a 2).st (.ext 2) (Tg.st ⟨tm 55 [(2,u64 0),(3,int 0),(7,u64 (2+4*a))],[],6⟩):=by
 have eL:(Z0Y a).length=2:=rfl;have ew:pfW a 2=2+4*a:=rfl;exact sF [] [] Fz
def ZnJ(a:Int)(h:0<=a/\a<=4294967295)  := Z0a (S:=λi=>(pf2 a i).st) 2 (by kernel_rfl) (λi hi=>Zmv a i h hi) (Zq8 a)
def ZjF(a:Int)(h:0<=a/\a<=4294967295):GP 198 [.d (.sl 2 ((Z0Y a).map BField.dv))] Y (.tu [u64 (2+4*a),int 0]) []:=by
 exact gF [] func198 [] (Fg 12 (rfl:(↑(Z BField.dv (Z0Y a)).length:Int)=(↑(Z0Y a).length:Int)) (Fu (@Zou a) (Fg 32 (rfl:(↑(Z BField.dv (Z0Y a)).length:Int)=(↑(Z0Y a).length:Int)) (Fu (@ZnJ a aa) Fz))))
def ZbA(a:Int)(h:0<=a/\a<=4294967295):GP 178 [u64 a] Y (.tu [u64 (4*a+2),int 0]) []:=by
 have o3:ones 32=4294967295:=by decide
 have e:2+4*a=4*a+2:=by omega
 exact gF [] func178 [Y] (Fc 5 (@Z3R (32)) (Ffb 6 (O (ones (32:Int)<a)) (Fs 10 (Z BField.dv [BField.mk 2 2,BField.mk 32 a]) (Fc 11 (@ZjF a aa) (Fa ‹(2:Int)+4*a=4*a+2› (Fr (0:Int) Fz))))))
def Z2x(l:List Int)(v:Int):Nat:=(l.takeWhile λx=>!(v==x)).length
def Z5F{l:List Int}{v:Int}{m:Nat}(h:m<Z2x l v):m<l.length/\(v==l.getD m X)=M:=by
 obtain⟨h1,h2⟩:=ZhP _ _ _ h;refine⟨h1, ?_⟩;rw[La,Lk h1];simpa using h2
def Z7R{l:List Int}{v:Int}(h:Z2x l v<l.length):(v==l.getD (Z2x l v) X)=Y:=by
 have h2:=ZaE (λx=>!(v==x)) l h;have h3:l.getD (Z2x l v) X=l[(l.takeWhile λx=>!(v==x)).length]:=by
  rw[La,Lk h];rfl
 rw[h3];simpa using h2
def firstI_mem{l:List Int}{v:Int}:Z2x l v<l.length↔v∈l:=by
 constructor
 .intro h;have:=Z7R h;exact getD_mem_iff.2 ⟨_,h,by simpa using (eq_of_beq this).symm⟩
 .intro h;obtain⟨k,hk,e⟩:=getD_mem_iff.1 h;rcases LO k (Z2x l v)with q | q
  .have:=(Z5F q).2;rw[e]at this;simp at this
  .omega
def idxI(l:List Int)(v:Int):Int:=if v∈l then Z2x l v else -1
def ixUL(l:List Int)(v:Int)(i:Nat):Tg:=⟨tm 19 [(0,Z01 l),(1,u64 v),(4,int 0),(7,int l.length),(8,int i)],[],3⟩
def ZgK(l:List Int)(v:Int)(i:Nat)(hl:l.length<=1048576)(hi:i<l.length)(e:(v==l.getD i X)=M):CP (rndF f126 0) (ixUL l v i).st .nrm (ixUL l v (i+1)).st:=by
 exact sF [] [] (Ftb 9 (O ((i:Int)<(l.length:Int))) (Fek 14 wdv l (↑i) i (Ff 16 ‹(v==l.getD i X)=M› (Fx 18 i Fz))))
def Zmo(l:List Int)(v:Int)(i:Nat)(hl:l.length<=1048576)(hi:i<l.length)(e:(v==l.getD i X)=Y):CP (rndF f126 0) (ixUL l v i).st .ret (Tg.st ⟨tm 19 [(4,int i)],[],60⟩):=by
 exact sF [] [] (Ftb 9 (O ((i:Int)<(l.length:Int))) (Fek 14 wdv l (↑i) i (Ft 16 ‹(v==l.getD i X)=Y› Fz)))
def ZqN(l:List Int)(v:Int):CP (rndF f126 0) (ixUL l v l.length).st (.ext 0) (Tg.st ⟨tm 19 [(4,int 0)],[],60⟩):=by
 exact sF [] [] (Ffb 9 (O ((l.length:Int)<(l.length:Int))) Fz)
def Zoy(l:List Int)(v:Int)(hl:l.length<=1048576)(h:¬ v∈l)  := Z0a (S:=λj=>(ixUL l v j).st) l.length (by kernel_rfl) (λj hj=>ZgK l v j hl hj (Z5F (by rcases LO j (Z2x l v)with q | q;exact q;exact absurd (firstI_mem.1 (by omega)) h)).2) (ZqN l v)
def Zmf(l:List Int)(v:Int)(hl:l.length<=1048576)(h:v∈l):CP (blkF f126 0) (Tg.st ⟨tm 19 [(0,Z01 l),(1,u64 v),(4,int 0),(7,int l.length),(8,int 0)],[],3⟩) .ret (Tg.st ⟨tm 19 [(4,int (Z2x l v))],[],60⟩) :=
 have h1:Z2x l v<l.length:=firstI_mem.2 h
 Z0A (S:=λj=>(ixUL l v j).st) (Z2x l v) kr (λj hj=>ZgK l v j hl oq (Z5F hj).2) (Zmo l v (Z2x l v) hl h1 (Z7R h1))
def ixIL(l:List Int)(v:Int)(i:Nat):Tg:=⟨tm 19 [(0,Z0j l),(1,int v),(4,int 0),(7,int l.length),(8,int i)],[],3⟩
def Zft(l:List Int)(v:Int)(i:Nat)(hl:l.length<=1048576)(hi:i<l.length)(e:(v==l.getD i X)=M):CP (rndF f181 0) (ixIL l v i).st .nrm (ixIL l v (i+1)).st:=by
 exact sF [] [] (Ftb 9 (O ((i:Int)<(l.length:Int))) (Fek 14 idv l (↑i) i (Ff 16 ‹(v==l.getD i X)=M› (Fx 18 i Fz))))
def Zl5(l:List Int)(v:Int)(i:Nat)(hl:l.length<=1048576)(hi:i<l.length)(e:(v==l.getD i X)=Y):CP (rndF f181 0) (ixIL l v i).st .ret (Tg.st ⟨tm 19 [(4,int i)],[],60⟩):=by
 exact sF [] [] (Ftb 9 (O ((i:Int)<(l.length:Int))) (Fek 14 idv l (↑i) i (Ft 16 ‹(v==l.getD i X)=Y› Fz)))
def Zr8(l:List Int)(v:Int):CP (rndF f181 0) (ixIL l v l.length).st (.ext 0) (Tg.st ⟨tm 19 [(4,int 0)],[],60⟩):=by
 exact sF [] [] (Ffb 9 (O ((l.length:Int)<(l.length:Int))) Fz)
def Zpc(l:List Int)(v:Int)(hl:l.length<=1048576)(h:¬ v∈l)  := Z0a (S:=λj=>(ixIL l v j).st) l.length (by kernel_rfl) (λj hj=>Zft l v j hl hj (Z5F (by rcases LO j (Z2x l v)with q | q;exact q;exact absurd (firstI_mem.1 (by omega)) h)).2) (Zr8 l v)
def Zl2(l:List Int)(v:Int)(hl:l.length<=1048576)(h:v∈l):CP (blkF f181 0) (Tg.st ⟨tm 19 [(0,Z0j l),(1,int v),(4,int 0),(7,int l.length),(8,int 0)],[],3⟩) .ret (Tg.st ⟨tm 19 [(4,int (Z2x l v))],[],60⟩) :=
 have h1:Z2x l v<l.length:=firstI_mem.2 h
 Z0A (S:=λj=>(ixIL l v j).st) (Z2x l v) kr (λj hj=>Zft l v j hl oq (Z5F hj).2) (Zl5 l v (Z2x l v) hl h1 (Z7R h1))
def Zqd(l:List Int)(v:Int)(hl:l.length<=1048576):GP 126 [Z01 l,u64 v] Y (int (idxI l v)) []:=by
 by_cases h:v∈l
 .have e7:idxI l v=Z2x l v:=if_pos h;rw[e7];exact gF [] func126 [] (Fl 7 wdv l (Fu (@Zmf l v aa aa) Fz))
 .have e7:idxI l v=-1:=if_neg h;rw[e7];exact gF [] func126 [] (Fl 7 wdv l (Fu (@Zoy l v aa aa) Fz))
def ZqY(l:List Int)(v:Int)(hl:l.length<=1048576):GP 181 [Z0j l,int v] Y (int (idxI l v)) []:=by
 by_cases h:v∈l
 .have e7:idxI l v=Z2x l v:=if_pos h;rw[e7];exact gF [] func181 [] (Fl 7 idv l (Fu (@Zl2 l v aa aa) Fz))
 .have e7:idxI l v=-1:=if_neg h;rw[e7];exact gF [] func181 [] (Fl 7 idv l (Fu (@Zpc l v aa aa) Fz))
def Z0V(l:List Int)(v:Int)(hl:l.length<=1048576):GP 76 [Z01 l,u64 v] Y (bool (O (v∈l))) []:=by
 have h:(0<=idxI l v↔v∈l):=by unfold idxI;split<;>simp[*]
 exact gF [] func76 [Y] (Fc 7 (@Zqd l v aa) (Fbs (O (0<=idxI l v)=O (v∈l)) Fz))
def ZcH(l:List Int)(v:Int)(hl:l.length<=1048576):GP 146 [Z0j l,int v] Y (bool (O (v∈l))) []:=by
 have h:(0<=idxI l v↔v∈l):=by unfold idxI;split<;>simp[*]
 exact gF [] func146 [Y] (Fc 7 (@ZqY l v aa) (Fbs (O (0<=idxI l v)=O (v∈l)) Fz))
def Zcm(c:Nat):GP 80 [.d (.sc (.slice Lh 0 c))] Y (.ow 0) [.arr 35 1 []] :=
 gspec_ofE [((2:Nat),[Hint.own])] [] [(24002:Nat)] dd func80 [] (φ:=Z0C []) (λ_ h=>nomatch h) kr kr
def Zaa(p:Addr)(c:Nat):GP 80 [.d (.sc (.slice (Lb p) 0 c))] Y (.ow 0) [.arr 35 1 []]:=by
 exact gF [24007] func80 [] (Fs 5 (Z wdv []) (Fa (by simp[*]:(Z wdv []).length+([]:List (List DV)).length<=2^30) (Fs 7 (Z wdv []) (Fa (by exact Z1p _:Z0C (Z wdv [])) Fz))))
def Zee(ws:List Int)(hw:ws.length<=1048576)(hne:ws≠[]):GP 80 [Z01 ws] Y (.ow 0) [.arr 35 1 (ws.map wdv)]:=by
 exact gF [24007] func80 [] (Fa (by exact ZgN hne:Z wdv ws≠[]) (FA 5 7 wdv ws (Fa (by exact Z1p _:Z0C (Z wdv ws)) Fz)))
def Z4Y(ws:List Int)(hw:ws.length<=1048576):GP 80 [Z01 ws] Y (.ow 0) [.arr 35 1 (ws.map wdv)]:=by
 by_cases hne:ws=[]
 .subst hne;exact Z6j λp c=>match p with | Lh=>Zcm c | Lb p=>Zaa p c
 .exact Zee ws hw hne
def ZdL(c:Nat):GP 135 [.d (.sc (.slice Lh 0 c))] Y (.ow 0) [.arr 3 1 []] :=
 gspec_ofE [((2:Nat),[Hint.own])] [] [(24002:Nat)] dd func135 [] (φ:=Z0C []) (λ_ h=>nomatch h) kr kr
def Zcw(p:Addr)(c:Nat):GP 135 [.d (.sc (.slice (Lb p) 0 c))] Y (.ow 0) [.arr 3 1 []]:=by
 exact gF [24007] func135 [] (Fs 5 (Z idv []) (Fa (by simp[*]:(Z idv []).length+([]:List (List DV)).length<=2^30) (Fs 7 (Z idv []) (Fa (by exact Z4c _:Z0C (Z idv [])) Fz))))
def Zhn(ws:List Int)(hw:ws.length<=1048576)(hne:ws≠[]):GP 135 [Z0j ws] Y (.ow 0) [.arr 3 1 (ws.map idv)]:=by
 exact gF [24007] func135 [] (Fa (by exact ZgN hne:Z idv ws≠[]) (FA 5 7 idv ws (Fa (by exact Z4c _:Z0C (Z idv ws)) Fz)))
def Zhx(ws:List Int)(hw:ws.length<=1048576):GP 135 [Z0j ws] Y (.ow 0) [.arr 3 1 (ws.map idv)]:=by
 by_cases hne:ws=[]
 .subst hne;exact Z6j λp c=>match p with | Lh=>ZdL c | Lb p=>Zcw p c
 .exact Zhn ws hw hne
def Zbw(c:Nat):GP 81 [.d (.sc (.slice Lh 0 c))] Y (.ow 0) [.arr 84 4 []] :=
 gspec_ofE [((2:Nat),[Hint.own])] [] [(24002:Nat)] dd func81 [] (φ:=Z0C []) (λ_ h=>nomatch h) kr kr
def Zam(p:Addr)(c:Nat):GP 81 [.d (.sc (.slice (Lb p) 0 c))] Y (.ow 0) [.arr 84 4 []]:=by
 exact gF [24007] func81 [] (Fs 5 (Z Page.dv []) (Fa (by simp[*]:(Z Page.dv []).length+([]:List (List DV)).length<=2^30) (Fs 7 (Z Page.dv []) (Fa (by exact Z1Y _:Z0C (Z Page.dv [])) Fz))))
def ZeC(l:List Page)(hl:l.length<=1048576):GP 81 [Z0t l] Y (.ow 0) [.arr 84 4 (l.map Page.dv)]:=by
 by_cases hne:l=[]
 .subst hne;exact Z6j λp c=>match p with | Lh=>Zbw c | Lb p=>Zam p c
 .exact Z6r l hl hne
end Go.Proofs.YtdhchmlalchgeaaGreat
