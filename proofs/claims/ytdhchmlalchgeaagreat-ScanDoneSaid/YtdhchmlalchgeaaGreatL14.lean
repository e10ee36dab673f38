/-
 The statement ScanDone: part 14.
 Conditions: none.
-/
import Derived.Test.YtdhchmlalchgeaaGreatL13
set_option maxRecDepth 100000
set_option maxHeartbeats 2000000
set_option linter.all false
open Inhabited renaming default->M
open Bool renaming true->O,false->Lc,and_eq_true->LZ,not_eq_true'->L0,or_false->Xi
open Int renaming toNat->La,le_refl->Lx,mul_comm->Ly,toNat_natCast->Lz,mul_le_mul_of_nonneg_right->LD,mul_nonneg->LF,add_assoc->LN,add_mul->LO,add_zero->L1,emod_lt_of_pos->L2,emod_nonneg->L3,tmod_eq_emod_of_nonneg->L4,ediv_lt_of_lt_mul->Xj,ediv_nonneg->Xk,mul_ediv_add_emod->Xl,one_mul->Xm,sub_mul->Xn,toNat_of_nonneg->Xo
open Decidable renaming decide->Lb,not_not->LM
open List renaming map->Ld,getD_eq_getElem?_getD->Le,range->Lf,mem_range->Lg,replicate->Lh,mem_append_left->Lj,mem_append_right->Lm,drop->Ln,take->Lo,find?_eq_none->Lp,find?_range_eq_some->Lq,map_cons->Lr,sum_cons->Ls,getElem?_eq_getElem->Lu,length_map->LA,mem_append->LB,map_append->LC,mem_singleton->LG,length_replicate->LH,length_take->LI,mem_cons_of_mem->LL,getElem?_append_left->LQ,getElem?_drop->LR,getElem?_replicate->LS,getElem_of_mem->LU,range_succ->LV,append_assoc->L5,getElem?_append_right->L6,getElem?_map->L7,getElem?_take->L8,length_append->L9,length_drop->Xa,length_singleton->Xb,map_drop->Xc,map_nil->Xd,map_take->Xe,mem_cons->Xf,sum_append->Xg,sum_nil->Xh,ext_getElem->Xp,find?_cons->Xq,getElem?_eq_none->Xr,length_set->Xs,map_replicate->Xt,mem_map->Xu,mem_of_find?_eq_some->Xv,set_eq_of_length_le->Xw
open Or renaming inl->Li,inr->Ll
open Option renaming some->Lk,getD_some->Lv,none->Lw,map_some->LY,isSome_iff_exists->Xy
open Nat renaming le_refl->Lt,not_lt_zero->LW,sub_self->Xx
open Go.Proofs.Tryz
namespace Go.Proofs.YtdhchmlalchgeaaGreat
open Go.Sx
def Zij(w:Work)(k:CkOk w)(hs:w.D<w.Q.length)(sc:0<=w.D)(hr:4096<=w.Q.getD w.D.toNat M/\w.Q.getD w.D.toNat M+hlA w.heap.W (w.Q.getD w.D.toNat M)<4096+w.heap.W.length)(hd:(decodeH (loadA w.heap.W (w.Q.getD w.D.toNat M)).1).2=O)(hN:StpOk w (Z0T w) (Z0r w))(h0:∀ j,j<(Z0r w).length->innE w (Z0T w) (Z0r w) j=0):BP 98 [.pt 0 0 0] w.ckp (.tu [bool O,int 0]) (Z3E (innN w (Z0T w) (Z0r w) (Z0r w).length) (Z0r w).length).ckq:=by
 have hb:(Lf (Z0r w).length).find? (λk=>Lb (innE w (Z0T w) (Z0r w) k≠0))=Lw:=Lp.2 λj hj=>by simp[h0 j (Lg.1 hj)]
 have hmm:=k.mem;obtain⟨h1,h2,h3,h4,h5⟩:=k.ln;have ok:=k.ok;have k1:=Z3T ok (Z0T w) (Z0r w) (Z0r w).length h0;have k2:=k1.1.rs;have k3:=k1.1.sc;have k4:=k1.1.mu;have pr:=(Z35 (hdW w (Z0T w)))
 have pl:∀ x∈Z0r w,0<=x/\x+1<hlA w.heap.W (Z0T w)+1:=λx hx=>by
  have:=Z2u (hdW w (Z0T w)) x hx;unfold hdW at this;unfold hlA;omega
 have lr:=Z0e w.heap.W (w.Q.getD w.D.toNat M);have cf:=validB_iff.1 ok.C;have ld:=Z0z ok.W (w.Q.getD w.D.toNat M);have hdw:=Z1P w (w.Q.getD w.D.toNat M);have sz:=Z2F w (w.Q.getD w.D.toNat M);have hm:=Z1i (loadA w.heap.W (w.Q.getD w.D.toNat M)).1 ld.1;have el:(loadA w.heap.W (w.Q.getD w.D.toNat M)).1=w.heap.W.getD ((w.Q.getD w.D.toNat M-4096).toNat+La 0) M:=by
  unfold loadA;rw[if_pos oq];rfl
 unfold Z0r Z0T hdW at *;rw[el]at hd ld hdw sz hm hN h0 hb k1 k2 k3 k4 pr ⊢;try rw[el]at pl
 rw[show Z3E (innN w (w.Q.getD w.D.toNat M) (Z03 (decodeH (w.heap.W.getD ((w.Q.getD w.D.toNat M-(4096:Int)).toNat+La (0:Int)) M)).1) (Z03 (decodeH (w.heap.W.getD ((w.Q.getD w.D.toNat M-(4096:Int)).toNat+La (0:Int)) M)).1).length) (↑(Z03 (decodeH (w.heap.W.getD ((w.Q.getD w.D.toNat M-(4096:Int)).toNat+La (0:Int)) M)).1).length:Int)=Work.mk (innN w (w.Q.getD w.D.toNat M) (Z03 (decodeH (w.heap.W.getD ((w.Q.getD w.D.toNat M-(4096:Int)).toNat+La (0:Int)) M)).1) (Z03 (decodeH (w.heap.W.getD ((w.Q.getD w.D.toNat M-(4096:Int)).toNat+La (0:Int)) M)).1).length).heap (innN w (w.Q.getD w.D.toNat M) (Z03 (decodeH (w.heap.W.getD ((w.Q.getD w.D.toNat M-(4096:Int)).toNat+La (0:Int)) M)).1) (Z03 (decodeH (w.heap.W.getD ((w.Q.getD w.D.toNat M-(4096:Int)).toNat+La (0:Int)) M)).1).length).old (innN w (w.Q.getD w.D.toNat M) (Z03 (decodeH (w.heap.W.getD ((w.Q.getD w.D.toNat M-(4096:Int)).toNat+La (0:Int)) M)).1) (Z03 (decodeH (w.heap.W.getD ((w.Q.getD w.D.toNat M-(4096:Int)).toNat+La (0:Int)) M)).1).length).T (innN w (w.Q.getD w.D.toNat M) (Z03 (decodeH (w.heap.W.getD ((w.Q.getD w.D.toNat M-(4096:Int)).toNat+La (0:Int)) M)).1) (Z03 (decodeH (w.heap.W.getD ((w.Q.getD w.D.toNat M-(4096:Int)).toNat+La (0:Int)) M)).1).length).Q ((innN w (w.Q.getD w.D.toNat M) (Z03 (decodeH (w.heap.W.getD ((w.Q.getD w.D.toNat M-(4096:Int)).toNat+La (0:Int)) M)).1) (Z03 (decodeH (w.heap.W.getD ((w.Q.getD w.D.toNat M-(4096:Int)).toNat+La (0:Int)) M)).1).length).D+(1:Int)) (Rep.mk (innN w (w.Q.getD w.D.toNat M) (Z03 (decodeH (w.heap.W.getD ((w.Q.getD w.D.toNat M-(4096:Int)).toNat+La (0:Int)) M)).1) (Z03 (decodeH (w.heap.W.getD ((w.Q.getD w.D.toNat M-(4096:Int)).toNat+La (0:Int)) M)).1).length).rep.copied (innN w (w.Q.getD w.D.toNat M) (Z03 (decodeH (w.heap.W.getD ((w.Q.getD w.D.toNat M-(4096:Int)).toNat+La (0:Int)) M)).1) (Z03 (decodeH (w.heap.W.getD ((w.Q.getD w.D.toNat M-(4096:Int)).toNat+La (0:Int)) M)).1).length).rep.kept (innN w (w.Q.getD w.D.toNat M) (Z03 (decodeH (w.heap.W.getD ((w.Q.getD w.D.toNat M-(4096:Int)).toNat+La (0:Int)) M)).1) (Z03 (decodeH (w.heap.W.getD ((w.Q.getD w.D.toNat M-(4096:Int)).toNat+La (0:Int)) M)).1).length).rep.filled (innN w (w.Q.getD w.D.toNat M) (Z03 (decodeH (w.heap.W.getD ((w.Q.getD w.D.toNat M-(4096:Int)).toNat+La (0:Int)) M)).1) (Z03 (decodeH (w.heap.W.getD ((w.Q.getD w.D.toNat M-(4096:Int)).toNat+La (0:Int)) M)).1).length).rep.freed (innN w (w.Q.getD w.D.toNat M) (Z03 (decodeH (w.heap.W.getD ((w.Q.getD w.D.toNat M-(4096:Int)).toNat+La (0:Int)) M)).1) (Z03 (decodeH (w.heap.W.getD ((w.Q.getD w.D.toNat M-(4096:Int)).toNat+La (0:Int)) M)).1).length).rep.cleared ((innN w (w.Q.getD w.D.toNat M) (Z03 (decodeH (w.heap.W.getD ((w.Q.getD w.D.toNat M-(4096:Int)).toNat+La (0:Int)) M)).1) (Z03 (decodeH (w.heap.W.getD ((w.Q.getD w.D.toNat M-(4096:Int)).toNat+La (0:Int)) M)).1).length).rep.steps+((1:Int)+(↑(Z03 (decodeH (w.heap.W.getD ((w.Q.getD w.D.toNat M-(4096:Int)).toNat+La (0:Int)) M)).1).length:Int))))from by(simp[Z3E, *];omega)];exact borF [0,1,8002,3,8004,8005] [8002,8004,8005] func98 [] (Fh 52 [.el (wdv (w.heap.W.getD ((w.Q.getD w.D.toNat M-4096).toNat+La 0) M))] (FlG 28 (!decide (w.D<0)) wdv w.Q (Ffb 30 (Lb (w.D<0)||Lb ((w.Q.length:Int)<=w.D)) (Fmq 40 wdv w.Q w.D (Fbq 44 [0,1,8002,3,8004,8005] (@Z1U w (w.Q.getD w.D.toNat M) (1) aa oq) (Fo ((0:Int)<=0/\La 0<La 1) (Fa (by exact Z0H oq:(Ld wdv w.heap.W)[(w.Q.getD w.D.toNat M-4096).toNat+La 0]? = Lk (wdv (w.heap.W.getD ((w.Q.getD w.D.toNat M-4096).toNat+La 0) M))) (Fc 53 (@Z0O (w.heap.W.getD ((w.Q.getD w.D.toNat M-4096).toNat+La 0) M) oq oq) (Fc 60 (@Z0S ((decodeH (w.heap.W.getD ((w.Q.getD w.D.toNat M-4096).toNat+La 0) M)).1) aa) (Fbq 61 [0,1,8002,3,8004,8005] (@Z1U w (w.Q.getD w.D.toNat M) (sizeH (decodeH (w.heap.W.getD ((w.Q.getD w.D.toNat M-4096).toNat+La 0) M)).1) aa oq) (Ffs 69 (!(decodeH (w.heap.W.getD ((w.Q.getD w.D.toNat M-4096).toNat+La 0) M)).2||Lc) (Fc 71 (@Z3r ((decodeH (w.heap.W.getD ((w.Q.getD w.D.toNat M-4096).toNat+La 0) M)).1) aa) (Fl 73 idv (Z03 (decodeH (w.heap.W.getD ((w.Q.getD w.D.toNat M-(4096:Int)).toNat+La (0:Int)) M)).1) (Fu (@ZnL w (w.Q.getD w.D.toNat M) (sizeH (decodeH (w.heap.W.getD ((w.Q.getD w.D.toNat M-4096).toNat+La 0) M)).1) (Z03 (decodeH (w.heap.W.getD ((w.Q.getD w.D.toNat M-4096).toNat+La 0) M)).1) aa oq (by grind[Z3E]) oq oq aa) (Fi 101 ((innN w (w.Q.getD w.D.toNat M) (Z03 (decodeH (w.heap.W.getD ((w.Q.getD w.D.toNat M-4096).toNat+La 0) M)).1) (Z03 (decodeH (w.heap.W.getD ((w.Q.getD w.D.toNat M-4096).toNat+La 0) M)).1).length).D+1) (Fl 110 idv (Z03 (decodeH (w.heap.W.getD ((w.Q.getD w.D.toNat M-(4096:Int)).toNat+La (0:Int)) M)).1) (Fi 111 (1+(↑(Z03 (decodeH (w.heap.W.getD ((w.Q.getD w.D.toNat M-4096).toNat+La 0) M)).1).length:Int)) (Fi 112 ((innN w (w.Q.getD w.D.toNat M) (Z03 (decodeH (w.heap.W.getD ((w.Q.getD w.D.toNat M-4096).toNat+La 0) M)).1) (Z03 (decodeH (w.heap.W.getD ((w.Q.getD w.D.toNat M-4096).toNat+La 0) M)).1).length).rep.steps+(1+(↑(Z03 (decodeH (w.heap.W.getD ((w.Q.getD w.D.toNat M-4096).toNat+La 0) M)).1).length:Int))) Fz))))))))))))))))))
def Znd(w:Work)(k:CkOk w)(hs:w.D<w.Q.length)(sc:0<=w.D)(hr:4096<=w.Q.getD w.D.toNat M/\w.Q.getD w.D.toNat M+hlA w.heap.W (w.Q.getD w.D.toNat M)<4096+w.heap.W.length)(hd:(decodeH (loadA w.heap.W (w.Q.getD w.D.toNat M)).1).2=O)(hN:StpOk w (Z0T w) (Z0r w))(i:Nat)(hb:(Lf (Z0r w).length).find? (λk=>Lb (innE w (Z0T w) (Z0r w) k≠0))=Lk i):BP 98 [.pt 0 0 0] w.ckp (.tu [bool Lc,int (innE w (Z0T w) (Z0r w) i)]) (innN w (Z0T w) (Z0r w) i).ckq:=by
 have hmm:=k.mem;obtain⟨h1,h2,h3,h4,h5⟩:=k.ln;have ok:=k.ok;have pr:=(Z35 (hdW w (Z0T w)))
 have pl:∀ x∈Z0r w,0<=x/\x+1<hlA w.heap.W (Z0T w)+1:=λx hx=>by
  have:=Z2u (hdW w (Z0T w)) x hx;unfold hdW at this;unfold hlA;omega
 have lr:=Z0e w.heap.W (w.Q.getD w.D.toNat M);have cf:=validB_iff.1 ok.C;have ld:=Z0z ok.W (w.Q.getD w.D.toNat M);have hdw:=Z1P w (w.Q.getD w.D.toNat M);have sz:=Z2F w (w.Q.getD w.D.toNat M);have hm:=Z1i (loadA w.heap.W (w.Q.getD w.D.toNat M)).1 ld.1;have el:(loadA w.heap.W (w.Q.getD w.D.toNat M)).1=w.heap.W.getD ((w.Q.getD w.D.toNat M-4096).toNat+La 0) M:=by
  unfold loadA;rw[if_pos oq];rfl
 unfold Z0r Z0T hdW at *;rw[el]at hd ld hdw sz hm hN hb pr ⊢;try rw[el]at pl
 exact borF [0,1,8002,3,8004,8005] [8002,8004,8005] func98 [] (Fh 52 [.el (wdv (w.heap.W.getD ((w.Q.getD w.D.toNat M-4096).toNat+La 0) M))] (FlG 28 (!decide (w.D<0)) wdv w.Q (Ffb 30 (Lb (w.D<0)||Lb ((w.Q.length:Int)<=w.D)) (Fmq 40 wdv w.Q w.D (Fbq 44 [0,1,8002,3,8004,8005] (@Z1U w (w.Q.getD w.D.toNat M) (1) aa oq) (Fo ((0:Int)<=0/\La 0<La 1) (Fa (by exact Z0H oq:(Ld wdv w.heap.W)[(w.Q.getD w.D.toNat M-4096).toNat+La 0]? = Lk (wdv (w.heap.W.getD ((w.Q.getD w.D.toNat M-4096).toNat+La 0) M))) (Fc 53 (@Z0O (w.heap.W.getD ((w.Q.getD w.D.toNat M-4096).toNat+La 0) M) oq oq) (Fc 60 (@Z0S ((decodeH (w.heap.W.getD ((w.Q.getD w.D.toNat M-4096).toNat+La 0) M)).1) aa) (Fbq 61 [0,1,8002,3,8004,8005] (@Z1U w (w.Q.getD w.D.toNat M) (sizeH (decodeH (w.heap.W.getD ((w.Q.getD w.D.toNat M-4096).toNat+La 0) M)).1) aa oq) (Ffs 69 (!(decodeH (w.heap.W.getD ((w.Q.getD w.D.toNat M-4096).toNat+La 0) M)).2||Lc) (Fc 71 (@Z3r ((decodeH (w.heap.W.getD ((w.Q.getD w.D.toNat M-4096).toNat+La 0) M)).1) aa) (Fl 73 idv (Z03 (decodeH (w.heap.W.getD ((w.Q.getD w.D.toNat M-(4096:Int)).toNat+La (0:Int)) M)).1) (Fu (@Zm5 w (w.Q.getD w.D.toNat M) (sizeH (decodeH (w.heap.W.getD ((w.Q.getD w.D.toNat M-4096).toNat+La 0) M)).1) (Z03 (decodeH (w.heap.W.getD ((w.Q.getD w.D.toNat M-4096).toNat+La 0) M)).1) aa oq (by grind[]) oq oq i aa) Fz))))))))))))))
structure Z3e (w:Work):Prop where
 k:CkOk w
 sc:0<=w.D
 hr:w.D<w.Q.length->4096<=w.Q.getD w.D.toNat M/\w.Q.getD w.D.toNat M+hlA w.heap.W (w.Q.getD w.D.toNat M)<4096+w.heap.W.length
 hd:w.D<w.Q.length->(decodeH (loadA w.heap.W (w.Q.getD w.D.toNat M)).1).2=O
 hN:w.D<w.Q.length->StpOk w (Z0T w) (Z0r w)
def ZjE(w:Work)(k:Z3e w)(hs:¬ w.D<w.Q.length):GP 49 [w.av] O (.tu [w.av,bool Lc,int 0]) []:=by
 have ln:=k.k.ln;have sc:=k.sc;exact gF [] func49 [] (Fbr 9 [] (@ZaJ w aa) (Fbq 12 [17009,18009,19009,20009,21009,22009] (@Zkd w aa aa aa) (Fa (by exact Z1o _:Z0C (Ld wdv w.heap.W)) (Fa (by exact Z1V _:Z0C (Ld Page.dv w.heap.P)) (Fa (by exact Z1o _:Z0C (Ld wdv w.old)) (Fa (by exact Z4c _:Z0C (Ld idv w.T)) (Fa (by exact Z1o _:Z0C (Ld wdv w.Q)) Fz)))))))
def Zib(w:Work)(k:Z3e w)(hs:w.D<w.Q.length)(h0:∀ j,j<(Z0r w).length->innE w (Z0T w) (Z0r w) j=0):GP 49 [w.av] O (.tu [(Z3E (innN w (Z0T w) (Z0r w) (Z0r w).length) (Z0r w).length).av,bool O,int 0]) []:=by
 have ln:=k.k.ln;obtain⟨kk,sc,hr,hd,hN⟩:=k;have hr:=hr hs;have hd:=hd hs;have hN:=hN hs;let y0:=Z3E (innN w (Z0T w) (Z0r w) (Z0r w).length) (↑(Z0r w).length:Int);exact gF [] func49 [] (Fbr 9 [] (@ZaJ w aa) (Fbr 12 [17009,18009,19009,20009,21009,22009] (@Zij w aa aa aa aa aa aa aa) (Fa (by exact Z1o _:Z0C (Ld wdv y0.heap.W)) (Fa (by exact Z1V _:Z0C (Ld Page.dv y0.heap.P)) (Fa (by exact Z1o _:Z0C (Ld wdv y0.old)) (Fa (by exact Z4c _:Z0C (Ld idv y0.T)) (Fa (by exact Z1o _:Z0C (Ld wdv y0.Q)) Fz)))))))
def stpI(w:Work):Nat:=((Lf (Z0r w).length).find? (λk=>Lb (innE w (Z0T w) (Z0r w) k≠0))).getD 0
def Zjo{w:Work}{i:Nat}(h:(Lf (Z0r w).length).find? (λk=>Lb (innE w (Z0T w) (Z0r w) k≠0))=Lk i):stpI w=i:=by unfold stpI;rw[h];rfl
def Zof(w:Work)(k:CkOk w)(hs:w.D<w.Q.length)(sc:0<=w.D)(hr:4096<=w.Q.getD w.D.toNat M/\w.Q.getD w.D.toNat M+hlA w.heap.W (w.Q.getD w.D.toNat M)<4096+w.heap.W.length)(hd:(decodeH (loadA w.heap.W (w.Q.getD w.D.toNat M)).1).2=O)(hN:StpOk w (Z0T w) (Z0r w))(hb:(Lf (Z0r w).length).find? (λk=>Lb (innE w (Z0T w) (Z0r w) k≠0))=Lk (stpI w)):BP 98 [.pt 0 0 0] w.ckp (.tu [bool Lc,int (innE w (Z0T w) (Z0r w) (stpI w))]) (innN w (Z0T w) (Z0r w) (stpI w)).ckq :=
 Znd w k hs sc hr hd hN (stpI w) hb
def Zi9(w:Work)(k:Z3e w)(hs:w.D<w.Q.length)(hb:(Lf (Z0r w).length).find? (λk=>Lb (innE w (Z0T w) (Z0r w) k≠0))=Lk (stpI w)):GP 49 [w.av] O (.tu [noWork.av,bool Lc,int (innE w (Z0T w) (Z0r w) (stpI w))]) []:=by
 have ln:=k.k.ln;obtain⟨kk,sc,hr,hd,hN⟩:=k;have hr:=hr hs;have hd:=hd hs;have hN:=hN hs;have hz:innE w (Z0T w) (Z0r w) (stpI w)≠0:=of_decide_eq_true (Lq.1 hb).1;exact gF [] func49 [] (Fbr 9 [] (@ZaJ w aa) (Fbr 12 [17009,18009,19009,20009,21009,22009] (@Zof w aa aa aa aa aa aa aa) (Ftb 16 (innE w (Z0T w) (Z0r w) (stpI w) != 0) (Fnl (Fnl (Fnl (Fnl (Fnl Fz))))))))
def ZkR(w:Work)(k:Z3e w):GP 49 [w.av] O (.tu [(Z0B w).1.av,bool (Z0B w).2.1,int (Z0B w).2.2]) []:=by
 by_cases hs:w.D<w.Q.length
 .cases hb:(Lf (Z0r w).length).find? (λk=>Lb (innE w (Z0T w) (Z0r w) k≠0))with
  | none =>
   have h0:∀ j,j<(Z0r w).length->innE w (Z0T w) (Z0r w) j=0:=λj hj=>by
    have:=Lp.1 hb j (Lg.2 hj);simpa using this
   have e:Z0B w=(Z3E (innN w (Z0T w) (Z0r w) (Z0r w).length) (Z0r w).length,O,0):=by unfold Z0B;rw[if_pos hs,hb]
   rw[e];exact Zib w k hs h0
  | some i =>
   have e:Z0B w=(noWork,Lc,innE w (Z0T w) (Z0r w) i):=by unfold Z0B;rw[if_pos hs,hb]
   rw[e,<- Zjo hb];exact Zi9 w k hs (by rw[Zjo hb];exact hb)
 .have e:Z0B w=(w,Lc,0):=by rw[Z0B,if_neg hs]
  rw[e];exact ZjE w k hs
def KI.sd{h:Heap}{T:Nat->List Int}:∀ w n,(∃ tq,KI h T tq w)->∃ tq,KI h T tq (Z3E w n) :=
 λw n ⟨tq,k⟩=>⟨tq,k.c,k.sp,k.old,k.pl,k.wl,k.pg,k.tk,k.tk0,k.q,k.hd,k.dt,k.lg⟩
section
variable {h:Heap} {T:Nat->List Int} {w:Work} (c:Col h T w) (g:Gd h T)
include c g
theorem Col.dec{q:Int}(hq:q∈w.Q):(decodeH (loadA w.heap.W q).1).2=O:=by
 obtain⟨tq,k⟩:=c.k;rcases k.q q hq with⟨i,nt,hi,hk,hs⟩ | ⟨i,ti,hi⟩
 .rcases k.hd i q hi with e | e
  .rw[e];exact(g.on hi).2.2.2.2.2.1
  .exact absurd e.2.2 hs
 .exact(Z1K (k.tk i ti).2.2.2.2.2.1 hi).1
theorem Col.in1{q j:Int}(hq:q∈w.Q)(h0:0<=j)(h1:j<hlA w.heap.W q)(e:(w.fwd (loadA w.heap.W (q+1+j)).1).2.2=0):Col h T (w.in1 (q+1+j)):=by
 obtain⟨tq,k⟩:=c.k;exact⟨k.in1 g c.ok c.inv hq ⟨h0,h1⟩ e,(Zn5 c.ok _ e).1,(Zie c.ok c.inv hq ⟨h0,h1⟩ e).1,c.so.fwd c.ok _ e⟩
theorem Col.inn{q:Int}(hq:q∈w.Q){l:List Int}(hl:∀ x∈l,0<=x/\x<hlA w.heap.W q)(k:Nat)(hk:k<=l.length)(he:∀ j,j<k->innE w q l j=0):Col h T (innN w q l k) :=
 ⟨ZdG (λw=>∃ tq,KI h T tq w) (λw q j hw hi ⟨_,k⟩ hq h0 h1 e=>k.in1 g hw hi hq ⟨h0,h1⟩ e) c.ok c.inv c.k hq hl k hk he,(Z3T c.ok q l k he).1,(Z6V c.ok c.inv hq hl k hk he).1,ZdG (λw=>SpOk w.heap.P) (λw q j hw hi p hq h0 h1 e=>p.fwd hw _ e) c.ok c.inv c.so hq hl k hk he⟩
theorem Col.step(e:(Z0B w).2.2=0):Col h T (Z0B w).1 :=
 ⟨Zcd (λw=>∃ tq,KI h T tq w) (λw q j hw hi ⟨_,k⟩ hq h0 h1 e=>k.in1 g hw hi hq ⟨h0,h1⟩ e) KI.sd c.ok c.inv c.k e,(Zbs c.ok e).1,(Z76 c.ok c.inv e).1,Zcd (λw=>SpOk w.heap.P) (λw q j hw hi p hq h0 h1 e=>p.fwd hw _ e) (λ_ _ p=>p) c.ok c.inv c.so e⟩
theorem Col.stp:Z3e w:=by
 have sc:=c.ok.sc;have hq:w.D<w.Q.length->Z0T w∈w.Q:=λhs=>getD_mem_iff.2 ⟨w.D.toNat,by omega,rfl⟩;refine⟨c.ck,sc.1,λhs=>c.inv.r _ (Lm _ (hq hs)),λhs=>c.dec g (hq hs),λhs=>?_⟩;obtain⟨tq,ki⟩:=c.k;have hp:=Z2u (hdW w (Z0T w));have ci:=λk hk he=>c.inn g (hq hs) (l:=Z0r w) hp k hk he;refine⟨λk hk he=>(ci k oq he).fw g (Z0z (ci k oq he).ok.W _),λk hk he=>?_,λk hk he e=>?_⟩
 .obtain⟨_,k'⟩:=(ci k hk he).k;exact k'.wl.trans ki.wl.symm
 .obtain⟨_,k'⟩:=((ci k oq he).fwd g e).k;exact k'.wl.trans ki.wl.symm
theorem Col.roots{roots:List Int}(k:Nat)(he:∀ j,j<k->Z1f w roots j=0):Col h T (rootsN w roots k).1:=by
 induction k with
 | zero=>exact c
 | succ k ih=>exact(ih λj hj=>he j oq).fwd g (he k oq)
theorem Col.rts{roots:List Int}(hr:WOk roots):ZlP w roots:=λk hk he=>(c.roots g k he).fw g (ZeY hr k)
theorem Col.rootsF{roots:List Int}(e:(rootsF w roots).2.2=0):Col h T (rootsF w roots).1:=by
 cases hb:(Lf roots.length).find? (λk=>Lb (Z1f w roots k≠0))with
 | none =>
  have h0:∀ j,j<roots.length->Z1f w roots j=0:=λj hj=>by
   have:=Lp.1 hb j (Lg.2 hj);simpa using this
  have e7:Go.Proofs.YtdhchmlalchgeaaGreat.rootsF w roots=((rootsN w roots roots.length).1,(rootsN w roots roots.length).2,0):=by unfold Go.Proofs.YtdhchmlalchgeaaGreat.rootsF;rw[hb]
  rw[e7];exact c.roots g _ h0
 | some i =>
  have e7:Go.Proofs.YtdhchmlalchgeaaGreat.rootsF w roots=(noWork,[],Z1f w roots i):=by unfold Go.Proofs.YtdhchmlalchgeaaGreat.rootsF;rw[hb]
  rw[e7]at e;have:=of_decide_eq_true (Lq.1 hb).1;exact absurd e this
end
def salA(w:Work):List (Nat×Blk):=[(22009,Z0t w.Q),(21009,Z3c w.T),(20009,Z0t w.old),(19009,Z1S w.heap.P),(18009,Z0t w.heap.W)]
def salL(w:Work):Tg:=⟨tm 26 [(2,.pt 8002 0 0),(3,int 0),(4,.pt 17009 0 0),(5,.fm 98 (.pt 17009 0 0))],(8002,.box 73 zW)::(17009,w.ckB 18009 19009 20009 21009 22009)::salA w,4⟩
def ZiB{w:Work}(m:(Z0B w).2.1=O):w.D<w.Q.length/\(∀ j,j<(Z0r w).length->innE w (Z0T w) (Z0r w) j=0)/\(Z0B w).1=Z3E (innN w (Z0T w) (Z0r w) (Z0r w).length) (Z0r w).length:=by
 unfold Z0B at m ⊢;split at m
 .rename_i hs;rw[if_pos hs];cases hb:(Lf (Z0r w).length).find? (λk=>Lb (innE w (Z0T w) (Z0r w) k≠0))with
  | none =>
   refine⟨hs,λj hj=>?_,rfl⟩;have:=Lp.1 hb j (Lg.2 hj);simpa using this
  | some i=>rw[hb]at m;cases m
 .cases m
def step_end{w:Work}(e:(Z0B w).2.2=0)(m:(Z0B w).2.1=Lc):¬ w.D<w.Q.length/\(Z0B w).1=w:=by
 unfold Z0B at e m ⊢;split at m
 .rename_i hs;rw[if_pos hs]at e;cases hb:(Lf (Z0r w).length).find? (λk=>Lb (innE w (Z0T w) (Z0r w) k≠0))with
  | none=>rw[hb]at m;cases m
  | some i =>
   rw[hb]at e;exact absurd e (of_decide_eq_true (Lq.1 hb).1)
 .rename_i hs;rw[if_neg hs];exact⟨hs,rfl⟩
def ZmN(w:Work)(k:Z3e w)(m:(Z0B w).2.1=O):CP (rndF f52 0) (salL w).st .nrm (salL (Z0B w).1).st:=by
 obtain⟨hs,h0,e⟩:=ZiB m;rw[e];obtain⟨kk,sc,hr,hd,hN⟩:=k;have hr:=hr hs;have hd:=hd hs;have hN:=hN hs;exact sF [(33014,19009),(34014,21009),(35014,22009)] [] (Fbr 14 [17009,18009,19009,20009,21009,22009] (@Zij w aa aa aa aa aa aa aa) Fz)
def ZoH(w:Work)(k:Z3e w)(hs:¬ w.D<w.Q.length):CP (rndF f52 0) (salL w).st .ret (Tg.st ⟨tm 26 [(2,.pt 8002 0 0),(3,int 0)],(8002,.box 73 (w.ckc 18009 19009 20009 21009 22009))::salA w,60⟩):=by
 have ln:=k.k.ln;have sc:=k.sc;exact sF [] [] (Fbq 14 [17009,18009,19009,20009,21009,22009] (@Zkd w aa aa aa) Fz)
def AllS(w:Work):Prop:=∀ k,(∀ j,j<k->Z30 w j=Lc)->Z3e (itW w k)/\(Z0B (itW w k)).2.2=0
def Zmt{w:Work}{j:Nat}(h:Z30 w j=Lc):(Z0B (itW w j)).2.1=O:=by
 simp only[Z30,decide_eq_false_iff_not,not_or,LM]at h;simpa using h.2
def ZoB(w:Work)(R:AllS w)(k:Nat)(hb:(Lf (bndW w)).find? (Z30 w)=Lk k):CP (blkF f52 0) (Tg.st ⟨tm 26 [(2,.pt 8002 0 0),(3,int 0),(4,.pt 17009 0 0),(5,.fm 98 (.pt 17009 0 0))],(8002,.box 73 zW)::(17009,w.ckB 18009 19009 20009 21009 22009)::salA w,4⟩) .ret (Tg.st ⟨tm 26 [(2,.pt 8002 0 0),(3,int 0)],(8002,.box 73 ((allF w).1.ckc 18009 19009 20009 21009 22009))::salA (allF w).1,60⟩):=by
 obtain⟨h1,h2,h3⟩:=Lq.1 hb;have h0:∀ j,j<k->Z30 w j=Lc:=λj hj=>by simpa using h3 j hj
 obtain⟨Rk,e⟩:=R k h0;have m:(Z0B (itW w k)).2.1=Lc:=by
  simp only[Z30,decide_eq_true_eq,e]at h1;simpa using h1
 obtain⟨hs,e2⟩:=step_end e m;have e7:allF w=(itW w k,0):=by rw[allF,hb];simp only[if_pos e];rw[e2]
 rw[e7];exact Z0G (S:=λk=>(salL (itW w k)).st) k kr (λj hj=>ZmN _ (R j λi hi=>h0 i oq).1 (Zmt (h0 j hj))) (ZoH _ Rk hs)
def scanAll(w:Work)(hw:WkOk w)(R:AllS w):GP 52 [w.av] O (.tu [(allF w).1.av,int 0]) []:=by
 obtain⟨k,hb⟩:=Z3B hw;have ln:=(R 0 λj hj=>absurd hj (LW j)).1.k.ln;have ln:LnOk w:=ln;exact gF [] func52 [] (Fbr 9 [] (@ZaJ w aa) (Fu (@ZoB w aa k hb) (Fa (by exact Z1o _:Z0C (Ld wdv (allF w).1.heap.W)) (Fa (by exact Z1V _:Z0C (Ld Page.dv (allF w).1.heap.P)) (Fa (by exact Z1o _:Z0C (Ld wdv (allF w).1.old)) (Fa (by exact Z4c _:Z0C (Ld idv (allF w).1.T)) (Fa (by exact Z1o _:Z0C (Ld wdv (allF w).1.Q)) Fz)))))))
def sumP(f:Page->Int)(l:List Page):Int:=(l.map f).sum
def nzP(p:Page):Int:=if p.K=0 then 0 else 1
def usP(p:Page):Int:=if p.K=1 then p.U else 0
def unP(p:Page):Int:=if p.K=1/\¬ 0<p.N then p.U else 0
def lgP(p:Page):Int:=if p.K=2\/p.K=3 then 1 else 0
def Z5z(f:Page->Int)(p:Page):∀ (l:List Page) (i:Nat),i<l.length->sumP f (l.set i p)+f (l.getD i M)=sumP f l+f p
 | [],i,h=>by simp at h
 | x::l,0,_=>by simp[sumP];omega
 | x::l,i+1,h=>by
  have:=Z5z f p l i (by simpa using h);simp only[sumP,List.set_cons_succ,Lr,Ls,List.getD_cons_succ]at this ⊢;omega
def Z2Q(f:Page->Int){l l':List Page}(hl:l'.length=l.length)(h:∀ i,i<l.length->f (l'.getD i M)=f (l.getD i M)):sumP f l'=sumP f l:=by
 unfold sumP;congr 1;refine Xp (by simpa using hl) λi h1 h2=>?_;have hi:i<l.length:=by simpa using h2
 have:=h i hi;rw[Le,Le,Lu hi,Lu oq]at this;simpa using this
def Z1G(f:Page->Int)(l:List Page):sumP f l=((Lf l.length).map λi=>f (l.getD i M)).sum:=by
 unfold sumP;congr 1;refine Xp pq λi h1 h2=>?_;have hi:i<l.length:=by simpa using h1
 simp[Le,hi]
def Z4z{α:Type}{f g:α->Int}:∀ {l:List α},(∀ x∈l,f x<=g x)->(l.map f).sum<=(l.map g).sum
 | [],_=>by simp
 | x::l,h=>by
  have:=Z4z (l:=l) λy hy=>h y (LL _ hy);have:=h x pq;simp only[Lr,Ls];omega
def Zeo{α:Type}{f g:α->Int}{n:Int}{r:α}:∀ {l:List α},(∀ x∈l,f x<=g x)->r∈l->f r+n<=g r->(l.map f).sum+n<=(l.map g).sum
 | [],_,hr,_=>by simp at hr
 | x::l,h,hr,hn=>by
  have h0:=h x pq;have hl:∀ y∈l,f y<=g y:=λy hy=>h y (LL _ hy);simp only[Lr,Ls];rcases Xf.1 hr with rfl | hr
  .have:=Z4z hl;omega
  .have:=Zeo hl hr hn;omega
def Z2U{α:Type}{f:α->Int}:∀ {l:List α},(∀ x∈l,0<=f x)->0<=(l.map f).sum
 | [],_=>by simp
 | x::l,h=>by
  have:=Z2U (l:=l) λy hy=>h y (LL _ hy);have:=h x pq;simp only[Lr,Ls];omega
def Zfh{ws:List Int}:∀ {l:List Int} {a b:Int},tile ws a b l->(l.map λx=>hlA ws x+1).sum=b-a
 | [],a,b,h=>by simp only[tile]at h;simp;omega
 | x::l,a,b,h=>by
  have:=Zfh h.2.2;simp only[Lr,Ls,this,h.1];omega
def ZcC(l:List Page):∀ i,i<=l.length->(∃ j,j<i/\(l.getD j M).K=0)->Z04 l i≠[]
 | 0,_,⟨j,hj,_⟩=>by omega
 | i+1,hi,⟨j,hj,hk⟩=>by
  have hpa:Z1h l i=l.getD i M:=by rw[Z3Q];simp
  simp only[Z04,Z3p];split
  .split<;>simp
  .rename_i c;rw[hpa]at c;exact ZcC l i oq ⟨j,by
    by_cases q:j=i
    .subst q;exact absurd hk c
    .omega,hk⟩
def Zhx{l:List Page}(h:¬ 0<=first l 1):∀ j,j<l.length->(l.getD j M).K≠0:=by
 intro j hj hk;have hn:=ZcC l l.length (Lt _) ⟨j,hj,hk⟩;unfold first at h
 rw[if_neg oq]at h;have ok:=(Z2r l l.length).2;cases hr:Z04 l l.length with
 | nil=>exact hn hr
 | cons r rs =>
  have:=ok r (by rw[hr];simp);rw[show runs l=r::rs from hr,Z2M,if_pos oq]at h;omega
def ZpH{l:List Page}(h:∀ j,j<l.length->(l.getD j M).K≠0):sumP nzP l=l.length:=by
 rw[Z1G];have:∀ n,n<=l.length->((Lf n).map λi=>nzP (l.getD i M)).sum=n:=by
  intro n;induction n with
  | zero=>simp
  | succ n ih =>
   intro hn;have:=ih oq;rw[LV,LC,Xg,this];simp only[Lr,Xd,Ls,Xh,nzP,if_neg (h n oq)];omega
 exact this _ (Lt _)
def wtW(h:Heap)(w:Work)(x:Int):Int:=if(Z08 (loadA w.heap.W x).1).2=O then 0 else hlA h.W x+1
def Z9v(h:Heap)(T:Nat->List Int)(w:Work)(i:Nat):Int:=if(h.P.getD i M).K=1/\¬ 0<(h.P.getD i M).N then((T i).map (wtW h w)).sum else 0
def Z5W(h:Heap)(T:Nat->List Int)(w:Work):Int:=((Lf h.P.length).map (Z9v h T w)).sum
structure MI (h:Heap) (T:Nat->List Int) (w:Work):Prop where
 m0:w.heap.P.length=h.P.length/\w.heap.C=h.C
 m1:sumP usP h.P<=sumP usP w.heap.P
 m2:0<w.T.length->((w.T.length:Int)-1)*(h.C.pw/4*3+1)+(w.heap.P.getD (Z0n w).toNat M).U<=sumP usP w.heap.P-sumP usP h.P
 m3:sumP usP w.heap.P+Z5W h T w<=sumP usP h.P+sumP unP h.P
 m4:sumP nzP w.heap.P=sumP nzP h.P+w.T.length
 m5:∀ i,i<h.P.length->(h.P.getD i M).K=1->((w.heap.P.getD i M).S=w.heap.S↔¬ 0<(h.P.getD i M).N)
def Z6C(h:Heap)(w:Work)(x:Int):0<=wtW h w x/\wtW h w x<=hlA h.W x+1:=by
 have:=Z0e h.W x;unfold wtW;split<;>omega
def ZhO{h:Heap}{T:Nat->List Int}{w w':Work}(e:w'.heap.W=w.heap.W):Z5W h T w'=Z5W h T w:=by
 unfold Z5W Z9v wtW;rw[e]
def ZgV{h:Heap}{T:Nat->List Int}(g:Gd h T)(w:Work):Z5W h T w<=sumP unP h.P:=by
 rw[Z1G];refine Z4z λi hi=>?_;have hi:=Lg.1 hi;unfold Z9v unP;split
 .rename_i k;have t:=Zfh (g.t1 i hi k.1).1;have:=Z4z (l:=T i) (f:=wtW h w) (g:=λx=>hlA h.W x+1) λx _=>(Z6C h w x).2;omega
 .omega
def Zef(h:Heap)(T:Nat->List Int)(w:Work):0<=Z5W h T w:=by
 refine Z2U λi _=>?_;unfold Z9v;split
 .exact Z2U λx _=>(Z6C h w x).1
 .omega
def Zky{h:Heap}{T:Nat->List Int}{w w':Work}{n r:Int}{i0:Nat}(hi:i0<h.P.length)(hk:(h.P.getD i0 M).K=1/\¬ 0<(h.P.getD i0 M).N)(hr:r∈T i0)(h1:∀ i x,x∈T i->wtW h w' x<=wtW h w x)(h2:wtW h w' r+n<=wtW h w r):Z5W h T w'+n<=Z5W h T w:=by
 refine Zeo (r:=i0) (λi hi=>?_) (Lg.2 hi) ?_
 .unfold Z9v;split
  .exact Z4z λx hx=>h1 i x hx
  .omega
 .unfold Z9v;rw[if_pos hk,if_pos hk];exact Zeo (λx hx=>h1 i0 x hx) hr h2
def MI.begin{h:Heap}{T:Nat->List Int}(g:Gd h T):MI h T (beginW h):=by
 have e:∀ i,i<h.P.length->(((beginW h).heap.P.getD i M).K=(h.P.getD i M).K/\((beginW h).heap.P.getD i M).U=(h.P.getD i M).U):=by
  intro i hi;simp only[beginW,Le,L7,Lu hi,LY,Lv,begQ];split<;>exact⟨rfl,rfl⟩
 have l:(beginW h).heap.P.length=h.P.length:=by simp[beginW]
 have e1:sumP usP (beginW h).heap.P=sumP usP h.P:=Z2Q usP l λi hi=>by unfold usP;rw[(e i hi).1,(e i hi).2]
 have e2:sumP nzP (beginW h).heap.P=sumP nzP h.P:=Z2Q nzP l λi hi=>by unfold nzP;rw[(e i hi).1]
 have r:=ZgV g (beginW h);refine⟨⟨l,rfl⟩,by omega,by simp[beginW],by omega,by rw[e2];simp[beginW],λi hi hk=>?_⟩;have sp:=g.sp i hi oq;have po:=Z06 g.p;simp only[beginW,Le,L7,Lu hi,LY,Lv,begQ]at hk sp ⊢;split
 .rename_i c;simp only;omega
 .rename_i c;omega
def MI.keep{h:Heap}{T:Nat->List Int}{w:Work}(m:MI h T w)(r:Int):MI h T (w.keep r):=⟨m.m0,m.m1,m.m2,m.m3,m.m4,m.m5⟩
def MI.flip{h:Heap}{T tq:Nat->List Int}{w:Work}(m:MI h T w)(k:KI h T tq w){i:Nat}(h2:(w.heap.P.getD i M).K=2):MI h T (w.flip i):=by
 have e:∀ j,((w.flip i).heap.P.getD j M).K=(w.heap.P.getD j M).K/\((w.flip i).heap.P.getD j M).U=(w.heap.P.getD j M).U:=by
  intro j;simp only[Work.flip];by_cases hj:j<w.heap.P.length
  .rw[Z1t hj];split<;>exact⟨rfl,rfl⟩
  .rw[Le,Le,Xr (by rw[Z1k];omega),Xr oq];exact⟨rfl,rfl⟩
 have l:(w.flip i).heap.P.length=w.heap.P.length:=by simp[Work.flip,Z1k]
 have e1:sumP usP (w.flip i).heap.P=sumP usP w.heap.P:=Z2Q usP l λj _=>by unfold usP;rw[(e j).1,(e j).2]
 have e2:sumP nzP (w.flip i).heap.P=sumP nzP w.heap.P:=Z2Q nzP l λj _=>by unfold nzP;rw[(e j).1]
 have e3:Z5W h T (w.flip i)=Z5W h T w:=ZhO rfl;have et:(w.flip i).T=w.T:=rfl;have el:Z0n (w.flip i)=Z0n w:=rfl;refine⟨⟨by rw[l];exact m.m0.1,m.m0.2⟩,by rw[e1];exact m.m1, ?_,by rw[e1,e3];exact m.m3,by rw[e2,et];exact m.m4,λj hj hk=>?_⟩;rotate_left
 .have hpl:=m.m0.1;have jt:(j:Int)∉w.T:=λq=>by have:=(k.tk j q).2.1;omega
  have kj:=(k.pg j jt).1;rw[hk]at kj;have:(w.flip i).heap.P.getD j M=w.heap.P.getD j M:=by
   simp only[Work.flip];rw[Z1t oq,if_neg];rintro⟨q1,q2⟩;by_cases q:j=i
   .subst q;omega
   .have:=(Z6i (l:=w.heap.P) (i:=i) (m:=j-i-1) oq).2;rw[show i+1+(j-i-1)=j by omega]at this;omega
  rw[this];exact m.m5 j hj hk
 intro q;rw[et,el,(e _).2,e1];exact m.m2 q
def MI.copy{h:Heap}{T tq:Nat->List Int}{w:Work}(g:Gd h T)(m:MI h T w)(k:KI h T tq w)(hw:WkOk w){r n:Int}{i0:Nat}(hr:r∈T i0)(h1:(h.P.getD i0 M).K=1)(hup:¬ 0<(h.P.getD i0 M).N)(ht:(Z08 (loadA w.heap.W r).1).2=Lc)(hn:n=hlA w.heap.W r+1)(hc:(w.place n).2.2=O):MI h T ((w.place n).1.copy r (w.place n).2.1 n):=by
 have he:(loadA w.heap.W r).1=(loadA h.W r).1:=by
  rcases k.hd i0 r hr with q | q
  .exact q
  .rw[q.1]at ht;cases ht
 have hlr:=Z0e w.heap.W r;have ehl:hlA w.heap.W r=hlA h.W r:=(Z1Q he).2.1;have hil:=(g.t0 i0 r hr).1;have hsm:=(g.t1 i0 hil h1).2 r hr;have po:=Z06 g.p;have sw:=Z1C po.1;have hv:=validB_iff.1 po.1;have hpw:n<=w.heap.C.pw:=by rw[k.c];omega
 obtain⟨i,p,t,p1,p2,p3,p4,p5,p6,p7,e⟩:=Z5G hw ⟨by omega,hpw⟩ hc;have hcc:=k.c;have hin:=g.inw hr;have hki:(h.P.getD i M).K=0:=by
  rcases p2 with q | q
  .by_cases c:(i:Int)∈w.T
   .exact(k.tk i c).2.1
   .rw[<- (k.pg i c).1];exact q.1
  .exact(k.tk i q.1).2.1
 have hpl:=k.pl;have hwl:=k.wl;have hio:=Z17 (i:=i) (j:=h.C.pg) (pw:=h.C.pw) oq oq;rw[Ly h.C.pg]at hio;have hi0:0<=(i:Int)*h.C.pw:=LF oq oq;have hx:∀ j x,x∈T j->x≠r->(loadA (Z0L (moveA w.heap.W (w.place n).2.1 r n).1 r (4*(w.place n).2.1+2)).1 x).1=(loadA w.heap.W x).1:=by
  intro j x hx hne;have far:=g.free (show i<h.P.length by omega) (Li hki) hx;rw[occP,if_pos hki]at far;have r1:=Z0e h.W x;unfold bsP at far;rw[p7,hcc];rw[hcc]at p5;have farr:=g.free (show i<h.P.length by omega) (Li hki) hr;rw[occP,if_pos hki]at farr;unfold bsP at farr;obtain⟨m1,m2,m3⟩:=Z52 (ws:=w.heap.W) (a:=4+4092+(i:Int)*h.C.pw+occP (w.heap.P.getD i M)) (b:=r) (n:=n) oq oq oq;rw[show(4:Int)+4092+(i:Int)*h.C.pw=4096+(i:Int)*h.C.pw by omega]at m1 m2 m3;rw[Z0w (by rw[m1];omega) hne,m3 x oq]
 have hrr:(Z08 (loadA (Z0L (moveA w.heap.W (w.place n).2.1 r n).1 r (4*(w.place n).2.1+2)).1 r).1).2=O:=by
  have farr:=g.free (show i<h.P.length by omega) (Li hki) hr;rw[occP,if_pos hki]at farr;unfold bsP at farr;rw[p7,hcc];rw[hcc]at p5;obtain⟨m1,m2,m3⟩:=Z52 (ws:=w.heap.W) (a:=4+4092+(i:Int)*h.C.pw+occP (w.heap.P.getD i M)) (b:=r) (n:=n) oq oq oq;rw[show(4:Int)+4092+(i:Int)*h.C.pw=4096+(i:Int)*h.C.pw by omega]at m1 m2 m3;rw[Z1N (by rw[m1];omega)];rw[Z5N oq oq]
 have ew:((w.place n).1.copy r (w.place n).2.1 n).heap.W=(Z0L (moveA w.heap.W (w.place n).2.1 r n).1 r (4*(w.place n).2.1+2)).1:=by
  rw[e];rfl
 have hrest:Z5W h T ((w.place n).1.copy r (w.place n).2.1 n)+n<=Z5W h T w:=by
  refine Zky hil ⟨h1,hup⟩ hr (λj x hxj=>?_) ?_
  .unfold wtW;rw[ew];by_cases q:x=r
   .subst q;rw[if_pos hrr];have:=(Z6C h w x).1;unfold wtW at this;exact this
   .rw[hx j x hxj q];exact Lx _
  .unfold wtW;rw[ew,if_pos hrr,if_neg (by rw[ht];simp)];omega
 have eP:((w.place n).1.copy r (w.place n).2.1 n).heap.P=w.heap.P.set i p:=by rw[e];rfl
 have eT:((w.place n).1.copy r (w.place n).2.1 n).T=t:=by rw[e];rfl
 have eL:Z0n ((w.place n).1.copy r (w.place n).2.1 n)=t.getD ((t.length:Int)-1).toNat M:=by unfold Z0n;rw[eT]
 have s1:=Z5z usP p w.heap.P i p1;have s2:=Z5z nzP p w.heap.P i p1;have u1:usP p=p.U:=by rw[usP,if_pos p3]
 have z1:nzP p=1:=by rw[nzP,if_neg oq]
 have m1:=m.m1;have m3:=m.m3;have m4:=m.m4;have hmul:0<=((w.T.length:Int))*(h.C.pw/4*3+1):=LF oq oq;have h5:∀ j,j<h.P.length->(h.P.getD j M).K=1->((((w.place n).1.copy r (w.place n).2.1 n).heap.P.getD j M).S=((w.place n).1.copy r (w.place n).2.1 n).heap.S↔¬ 0<(h.P.getD j M).N):=by
  intro j hj hk;have eS:((w.place n).1.copy r (w.place n).2.1 n).heap.S=w.heap.S:=by rw[e];rfl
  rw[eP,eS,Z0o p1,if_neg (by rintro rfl;omega)];exact m.m5 j hj hk
 rcases p2 with⟨q1,q2,q3⟩ | ⟨q1,q2,q3,q4⟩
 .have u2:usP (w.heap.P.getD i M)=0:=by rw[usP,if_neg oq]
  have z2:nzP (w.heap.P.getD i M)=0:=by rw[nzP,if_pos q1]
  have oc:occP (w.heap.P.getD i M)=0:=by rw[occP,if_pos q1]
  rw[oc]at p4;have hu:sumP usP (w.heap.P.set i p)=sumP usP w.heap.P+n:=by omega
  refine⟨⟨by rw[eP,Xs];exact m.m0.1,by rw[e];exact m.m0.2⟩,by rw[eP];omega, ?_,by rw[eP];omega,by rw[eP,eT,q2,L9,Xb];omega,h5⟩;intro _;rw[eL,eP,eT,hu,q2];have el:(w.T++[(i:Int)]).getD ((((w.T++[(i:Int)]).length:Nat):Int)-1).toNat M=i:=by
   rw[L9,Xb,show(((w.T.length+1:Nat):Int)-1).toNat=w.T.length by omega];simp[Le]
  rw[el,Lz,Z0o p1,if_pos rfl,L9,Xb];rw[show(((w.T.length+1:Nat):Int)-1)=w.T.length by omega];by_cases z:0<w.T.length
  .have m2:=m.m2 z;have nf:¬ Z2B w n:=by
    intro f;have hp:(w.place n).2.1=4096+Z0n w*w.heap.C.pw+(w.heap.P.getD (Z0n w).toNat M).U:=by rw[Work.place,if_pos f]
    have htk:(w.place n).1.T=w.T:=by rw[Work.place,if_pos f]
    rw[e]at htk;simp only at htk;rw[q2]at htk;have:=congrArg List.length htk;simp at this
   unfold Z2B at nf;have hb:=hw.us (Z0n w).toNat (by have:=hw.tk _ (Z18 z);omega)
   rw[show((w.T.length:Int))*(h.C.pw/4*3+1)=((w.T.length:Int)-1)*(h.C.pw/4*3+1)+(h.C.pw/4*3+1) by rw[Xn];omega];have hq:h.C.pw/4*3+1<=(w.heap.P.getD (Z0n w).toNat M).U:=by
    have hpm:h.C.pw=h.C.pw/4*4:=by
     have:=hv.2.2.1;rw[L4 oq]at this;omega
    rw[hcc]at nf;omega
   omega
  .have:w.T.length=0:=by omega
   rw[this];simp;omega
 .have u2:usP (w.heap.P.getD i M)=(w.heap.P.getD i M).U:=by rw[usP,if_pos q2]
  have z2:nzP (w.heap.P.getD i M)=1:=by rw[nzP,if_neg oq]
  have oc:occP (w.heap.P.getD i M)=(w.heap.P.getD i M).U:=by rw[occP,if_neg oq]
  rw[oc]at p4;have hu:sumP usP (w.heap.P.set i p)=sumP usP w.heap.P+n:=by omega
  refine⟨⟨by rw[eP,Xs];exact m.m0.1,by rw[e];exact m.m0.2⟩,by rw[eP];omega, ?_,by rw[eP];omega,by rw[eP,eT,q3];omega,h5⟩;intro z;rw[eT,q3]at z;have m2:=m.m2 z;rw[eL,eP,eT,hu,q3];rw[Z0o p1];show((w.T.length:Int)-1)*_+Page.U (if i=(Z0n w).toNat then p else w.heap.P.getD (Z0n w).toNat M)<=_;split
  .rename_i c;rw[p4,c];omega
  .omega
structure MV (h:Heap):Prop where
 v:sumP usP h.P+sumP lgP h.P*h.C.pw<=h.C.pg/4*h.C.pw
 n:∃ t:Int,sumP nzP h.P<=h.C.pg/4+sumP lgP h.P+t/\(t-1)*(h.C.pw/4*3+1)<=sumP usP h.P
def Zji{α:Type}{f:α->Int}{r:α}:∀ {l:List α},(∀ x∈l,0<=f x)->r∈l->f r<=(l.map f).sum
 | [],_,hr=>by simp at hr
 | x::l,h,hr=>by
  have h0:=h x pq;have hl:∀ y∈l,0<=f y:=λy hy=>h y (LL _ hy);simp only[Lr,Ls];rcases Xf.1 hr with rfl | hr
  .have:=Z2U hl;omega
  .have:=Zji hl hr;omega
def Zhy{t t' s q L U nz pg:Int}(hs:4<=s)(hq:2<=q)(hpg:4*q<=pg)(hL:0<=L)(ht:0<=t)(h1:pg=nz+t)(h2:t*(s*3+1)<=U-1)(h3:nz<=q+L+t')(h4:(t'-1)*(s*3+1)<=U)(h5:U+L*(s*4)<=q*(s*4)):False:=by
 have e2:t*(s*3+1)=3*t*s+t:=by grind
 have e4:(t'-1)*(s*3+1)=3*(t'-1)*s+(t'-1):=by grind
 have e5:q*(s*4)-L*(s*4)=4*(q-L)*s:=by grind
 have a1:3*t<4*(q-L):=by
  by_cases c:3*t<4*(q-L)
  .exact c
  .have:=LD (show 4*(q-L)<=3*t by omega) (show 0<=s by omega);omega
 have a2:3*(t'-1)<4*(q-L):=by
  by_cases c:3*(t'-1)<4*(q-L)
  .exact c
  .have:=LD (show 4*(q-L)<=3*(t'-1) by omega) (show 0<=s by omega);omega
 omega
def MI.unp{h:Heap}{T tq:Nat->List Int}{w:Work}(m:MI h T w)(k:KI h T tq w){r o:Int}{i0:Nat}(ofr:ofA w.heap.C r=((i0:Int),o,0))(nt:(i0:Int)∉w.T)(hi:i0<h.P.length)(k1:(h.P.getD i0 M).K=1)(c4:¬ Z0K w (ofA w.heap.C r).1=O):¬ 0<(h.P.getD i0 M).N:=by
 intro hp;apply c4;have hpl:=m.m0.1;have q:=(m.m5 i0 hi k1)
 have kk:=(k.pg i0 nt).1;simp only[Z0K,decide_eq_true_eq];rw[ofr];simp only[Lz];exact⟨by omega,by omega,by omega,λc=>(q.1 c) hp,nt⟩
section
variable {h:Heap} {T tq:Nat->List Int} {w:Work} (g:Gd h T) (m:MI h T w) (k:KI h T tq w) (hw:WkOk w) (mv:MV h)
include g m k hw mv
theorem MI.room{r n:Int}{i0:Nat}(hr:r∈T i0)(h1:(h.P.getD i0 M).K=1)(hup:¬ 0<(h.P.getD i0 M).N)(ht:(Z08 (loadA w.heap.W r).1).2=Lc)(hn:n=hlA w.heap.W r+1):(w.place n).2.2=O:=by
 have he:(loadA w.heap.W r).1=(loadA h.W r).1:=by
  rcases k.hd i0 r hr with q | q
  .exact q
  .rw[q.1]at ht;cases ht
 have hlr:=Z0e w.heap.W r;have ehl:hlA w.heap.W r=hlA h.W r:=(Z1Q he).2.1;have hil:=(g.t0 i0 r hr).1;have hsm:=(g.t1 i0 hil h1).2 r hr;have po:=Z06 g.p;have sw:=Z1C po.1;have hv:=validB_iff.1 po.1;have hpm:h.C.pw=h.C.pw/4*4:=by
  have:=hv.2.2.1;rw[L4 oq]at this;omega
 by_cases hf:Z2B w n
 .rw[Work.place,if_pos hf]
 .by_cases hg:0<=Z0f w
  .rw[Work.place,if_neg hf,if_pos hg]
  .exfalso;have nz:=ZpH (Zhx (l:=w.heap.P) hg);have m0:=m.m0;have m1:=m.m1;have m3:=m.m3;have m4:=m.m4;have hpl:=hw.pl;rw[m0.2]at hpl;have hrest:n<=Z5W h T w:=by
    have a:Z9v h T w i0<=Z5W h T w:=Zji (λi _=>by
     unfold Z9v;split
     .exact Z2U λx _=>(Z6C h w x).1
     .exact Lx _) (Lg.2 hil)
    have b:wtW h w r<=Z9v h T w i0:=by
     unfold Z9v;rw[if_pos ⟨h1,hup⟩];exact Zji (λx _=>(Z6C h w x).1) hr
    unfold wtW at b;rw[if_neg (by rw[ht];simp)]at b;omega
   have hun:sumP unP h.P<=sumP usP h.P:=Z4z λp hp=>by
    obtain⟨j,hj,rfl⟩:=LU hp;have pp:=Z0I g.p hj;rw[Le,Lu hj,Lv]at pp;unfold unP usP;split
    .rename_i c;rw[if_pos c.1];omega
    .split<;>omega
   have hL:0<=sumP lgP h.P:=Z2U λp _=>by unfold lgP;split<;>omega
   have h2:(w.T.length:Int)*(h.C.pw/4*3+1)<=sumP usP h.P-1:=by
    by_cases z:0<w.T.length
    .have m2:=m.m2 z;unfold Z2B at hf;rw[m0.2]at hf;have hq:h.C.pw/4*3+1<=(w.heap.P.getD (Z0n w).toNat M).U:=by omega
     rw[show(w.T.length:Int)*(h.C.pw/4*3+1)=((w.T.length:Int)-1)*(h.C.pw/4*3+1)+(h.C.pw/4*3+1) by rw[Xn];omega];omega
    .have:w.T.length=0:=by omega
     rw[this];simp;omega
   obtain⟨t',n1,n2⟩:=mv.n;have v:=mv.v;exact Zhy (s:=h.C.pw/4) (q:=h.C.pg/4) (pg:=h.C.pg) (nz:=sumP nzP h.P) (L:=sumP lgP h.P) (U:=sumP usP h.P) (t:=w.T.length) (t':=t') oq oq oq hL oq oq h2 n1 n2 (by rw[<- hpm];exact v)
theorem MI.fwd_ok(hi:CIv w){r:Int}(hr:r=0\/r∈w.Q\/r∈w.old):(w.fwd r).2.2=0:=by
 unfold Work.fwd;by_cases c1:r=0\/r∈w.Q
 .rw[if_pos c1]
 rw[if_neg c1];have c2:r∈w.old:=by
  rcases hr with q | q | q
  .exact absurd (Li q) c1
  .exact absurd (Ll q) c1
  .exact q
 rw[if_neg (by simpa using c2)];obtain⟨i0,hx,hkd⟩:=(k.old r).1 c2;have ofr:ofA w.heap.C r=((i0:Int),r-bsP h i0,0):=by rw[k.c];exact g.ofx hx
 by_cases c3:(Z08 (loadA w.heap.W r).1).2=O
 .rw[if_pos c3]
 rw[if_neg c3,if_neg (by rw[ofr];simp)];by_cases c4:Z0K w (ofA w.heap.C r).1=O
 .rw[if_pos c4]
 rw[if_neg c4];by_cases c5:(w.heap.P.getD (Z19 w r) M).K=2
 .rw[if_pos c5]
 rw[if_neg c5];have epw:Z19 w r=i0:=by rw[Z19,ofr];simp
 rw[epw]at c5;have nt:=k.nt g hx;have k1:(h.P.getD i0 M).K=1:=by
  have:=(g.t0 i0 r hx).2;rw[<- (k.pg i0 nt).1]at this ⊢;omega
 have:=m.room g k hw mv hx k1 (m.unp k ofr nt (g.t0 i0 r hx).1 k1 c4) (by simpa using c3) rfl;rw[<- Z1P w r]at this;rw[if_neg (by rw[this];simp)]
theorem MI.fwd(hi:CIv w){r:Int}(e:(w.fwd r).2.2=0):MI h T (w.fwd r).1:=by
 unfold Work.fwd at e ⊢;by_cases c1:r=0\/r∈w.Q
 .rw[if_pos c1];exact m
 rw[if_neg c1]at e ⊢;by_cases c2:r∈w.old
 .rw[if_neg (by simpa using c2)]at e ⊢;obtain⟨i0,hx,hkd⟩:=(k.old r).1 c2;have ofr:ofA w.heap.C r=((i0:Int),r-bsP h i0,0):=by rw[k.c];exact g.ofx hx
  by_cases c3:(Z08 (loadA w.heap.W r).1).2=O
  .rw[if_pos c3];exact m
  rw[if_neg c3,if_neg (by rw[ofr];simp)]at e ⊢;by_cases c4:Z0K w (ofA w.heap.C r).1=O
  .rw[if_pos c4];exact m.keep r
  rw[if_neg c4]at e ⊢;by_cases c5:(w.heap.P.getD (Z19 w r) M).K=2
  .rw[if_pos c5];exact(m.flip k c5).keep r
  rw[if_neg c5]at e ⊢;have epw:Z19 w r=i0:=by rw[Z19,ofr];simp
  rw[epw]at c5;have nt:=k.nt g hx;have k1:(h.P.getD i0 M).K=1:=by
   have:=(g.t0 i0 r hx).2;rw[<- (k.pg i0 nt).1]at this ⊢;omega
  have hup:=m.unp k ofr nt (g.t0 i0 r hx).1 k1 c4;have c6:=m.room g k hw mv hx k1 hup (by simpa using c3) rfl;rw[<- Z1P w r]at c6;rw[if_neg (by rw[c6];simp)];exact m.copy g k hw hx k1 hup (by simpa using c3) (Z1P w r) c6
 .rw[if_pos c2]at e;simp at e
end
def Znz{ws:List Int}{a b n k:Int}(ha:4096<=a/\a-4096+n<=ws.length)(hb:4096<=b/\b-4096+n<=ws.length)(hk:0<=k/\k<n):loadA (moveA ws a b n).1 (a+k)=((loadA ws (b+k)).1,0):=by
 have e1:Z1n ws b n=((ws.drop (b-4096).toNat).take n.toNat,0):=by rw[Z1n,if_neg oq,if_pos hb]
 have e2:moveA ws a b n=Z0F ws a ((ws.drop (b-4096).toNat).take n.toNat):=by rw[moveA,e1];simp
 have hl:((ws.drop (b-4096).toNat).take n.toNat).length=n.toNat:=by simp;omega
 rw[e2,Z1O oq oq];congr 1;unfold loadA;rw[if_pos oq];simp only[Le];rw[show a+k-a=k by omega,List.getElem?_take_of_lt oq,LR];rw[show(b-4096).toNat+k.toNat=(b+k-4096).toNat by omega]
def Z3H(w:Work)(y:Int):Int:=if y∈w.Q then y else if(Z08 (loadA w.heap.W y).1).2=O then(Z08 (loadA w.heap.W y).1).1 else 0
structure NewF (h:Heap) (T:Nat->List Int) (w:Work) (r:Int) (i0:Nat) (w':Work) (a:Int):Prop where
 b:4096<=a
 q:w'.Q=w.Q++[a]
 n:w'.rep.copied+w'.rep.kept=w.rep.copied+w.rep.kept+1
 o:w'.old=w.old
 l:w'.heap.W.length=w.heap.W.length
 s:((h.P.getD i0 M).K=2\/0<(h.P.getD i0 M).N)↔a=r
 e:a-4096+hlA h.W r<w.heap.W.length
 f:a=r->w'.heap.W=w.heap.W
 c:a≠r->Z08 (loadA w'.heap.W r).1=(a,O)
 t:∀ j x,x∈T j->x≠r->a≠x/\loadA w'.heap.W x=loadA w.heap.W x
 x:∀ k,0<=k->k<=hlA h.W r->(loadA w'.heap.W (a+k)).1=(loadA w.heap.W (r+k)).1
section
variable {h:Heap} {T tq:Nat->List Int} {w:Work} (g:Gd h T) (m:MI h T w) (k:KI h T tq w) (hw:WkOk w) (mv:MV h)
include g m k hw mv
theorem ZoI{r:Int}{i0:Nat}(hx:r∈T i0)(hkd:kdA h.W r≠0)(hq:r∉w.Q)(ht:(Z08 (loadA w.heap.W r).1).2=Lc) :
  (w.fwd r).2.2=0/\NewF h T w r i0 (w.fwd r).1 (w.fwd r).2.1:=by
 have ho:r∈w.old:=(k.old r).2 ⟨i0,hx,hkd⟩;have hin:=g.inw hx;have on:=g.on hx;have hlr:=Z0e h.W r;have he:(loadA w.heap.W r).1=(loadA h.W r).1:=by
  rcases k.hd i0 r hx with q | q
  .exact q
  .rw[q.1]at ht;cases ht
 have ehl:hlA w.heap.W r=hlA h.W r:=(Z1Q he).2.1;have nt:=k.nt g hx;have pg:=k.pg i0 nt;have wl:=k.wl;have c1:¬ (r=0\/r∈w.Q):=by
  rintro(q | q)
  .omega
  .exact hq q
 have ofr:ofA w.heap.C r=((i0:Int),r-bsP h i0,0):=by rw[k.c];exact g.ofx hx
 have epw:Z19 w r=i0:=by rw[Z19,ofr];simp
 by_cases c4:Z0K w (ofA w.heap.C r).1=O
 .have ef:w.fwd r=(w.keep r,r,0):=by rw[Work.fwd,if_neg c1,if_neg (by simpa using ho),if_neg (by rw[ht];simp),if_neg (by rw[ofr];simp),if_pos c4]
  rw[ef];show(0:Int)=0/\NewF h T w r i0 (w.keep r) r;have hs:(h.P.getD i0 M).K=2\/0<(h.P.getD i0 M).N:=by
   rw[ofr]at c4;simp only[Z0K,decide_eq_true_eq,Lz]at c4;have k1:(h.P.getD i0 M).K=1:=by rw[<- pg.1];exact c4.2.2.1
   have:=m.m5 i0 on.1 k1;by_cases q:0<(h.P.getD i0 M).N
   .exact .inr q
   .exact absurd (this.2 q) c4.2.2.2.1
  exact⟨rfl,by omega,rfl,by simp only[Work.keep];omega,rfl,rfl,⟨λ_=>rfl,λ_=>hs⟩,by omega,λ_=>rfl,λq=>absurd rfl q,λj x _ hne=>⟨λq=>hne q.symm,rfl⟩,λ_ _ _=>rfl⟩
 .by_cases c5:(w.heap.P.getD (Z19 w r) M).K=2
  .have ef:w.fwd r=((w.flip (Z19 w r)).keep r,r,0):=by rw[Work.fwd,if_neg c1,if_neg (by simpa using ho),if_neg (by rw[ht];simp),if_neg (by rw[ofr];simp),if_neg c4,if_pos c5]
   rw[ef];show(0:Int)=0/\NewF h T w r i0 ((w.flip (Z19 w r)).keep r) r;have hs:(h.P.getD i0 M).K=2\/0<(h.P.getD i0 M).N:=by
    rw[epw,pg.1]at c5;exact .inl c5
   exact⟨rfl,by omega,rfl,by simp only[Work.keep,Work.flip];omega,rfl,rfl,⟨λ_=>rfl,λ_=>hs⟩,by omega,λ_=>rfl,λq=>absurd rfl q,λj x _ hne=>⟨λq=>hne q.symm,rfl⟩,λ_ _ _=>rfl⟩
  .have k1:(h.P.getD i0 M).K=1:=by
    have:=on.2.1;rw[epw]at c5;rw[<- pg.1]at this ⊢;omega
   have hup:=m.unp k ofr nt on.1 k1 c4;have hroom:=m.room g k hw mv hx k1 hup ht rfl;have hsz:=Z1P w r;have ef:w.fwd r=((w.place (hlA w.heap.W r+1)).1.copy r (w.place (hlA w.heap.W r+1)).2.1 (hlA w.heap.W r+1),(w.place (hlA w.heap.W r+1)).2.1,0):=by
    rw[Work.fwd,if_neg c1,if_neg (by simpa using ho),if_neg (by rw[ht];simp),if_neg (by rw[ofr];simp),if_neg c4,if_neg c5,hsz,if_neg (by rw[hroom];simp)]
   rw[ef];show(0:Int)=0/\NewF h T w r i0 ((w.place (hlA w.heap.W r+1)).1.copy r (w.place (hlA w.heap.W r+1)).2.1 (hlA w.heap.W r+1)) (w.place (hlA w.heap.W r+1)).2.1;have po:=Z06 g.p;have hsm:=(g.t1 i0 on.1 k1).2 r hx;have hsw:=Z1C po.1;have hcv:=validB_iff.1 po.1;obtain⟨i,p,t,p1,p2,p3,p4,p5,p6,p7,e⟩:=Z5G hw ⟨by omega,by rw[k.c];omega⟩ hroom;have hcc:=k.c;have hpl:=k.pl;have hki:(h.P.getD i M).K=0:=by
    rcases p2 with q | q
    .by_cases c:(i:Int)∈w.T
     .exact(k.tk i c).2.1
     .rw[<- (k.pg i c).1];exact q.1
    .exact(k.tk i q.1).2.1
   have hio:=Z17 (i:=i) (j:=h.C.pg) (pw:=h.C.pw) oq oq;rw[Ly h.C.pg]at hio;have hi0:0<=(i:Int)*h.C.pw:=LF oq oq;rw[hcc]at p5 p7;have hbp:4096+(i:Int)*h.C.pw=bsP h i:=rfl;rw[e,p7,hbp];generalize hu:occP (w.heap.P.getD i M)=u at *;generalize ha:bsP h i+u=a;have hbl:4096<=a/\a+(hlA w.heap.W r+1)<=4096+w.heap.W.length:=by omega
   have far:∀ j x,x∈T j->x+hlA h.W x<bsP h i\/bsP h i+h.C.pw<=x:=by
    intro j x hx;have:=g.free (show i<h.P.length by omega) (Li hki) hx;rw[occP,if_pos hki]at this;omega
   have farr:=far i0 r hx;obtain⟨m1,m2,m3⟩:=Z52 (ws:=w.heap.W) (a:=a) (b:=r) (n:=hlA w.heap.W r+1) oq oq oq;have hsr:4096<=r/\r<4096+(moveA w.heap.W a r (hlA w.heap.W r+1)).1.length:=by omega
   have hne:a≠r:=by omega
   refine⟨rfl,by omega,rfl,by simp only[Work.copy];omega,rfl, ?_,⟨λq=>?_,λq=>absurd q hne⟩,by omega,λq=>absurd q hne,λ_=>?_,λj x hxj hxr=>?_,λj j0 j1=>?_⟩
   .simp only[Work.copy];rw[Z2v hsr,m1]
   .rcases q with q | q
    .omega
    .exact absurd q hup
   .simp only[Work.copy];rw[Z1N hsr,Z5N oq oq]
   .have fx:=far j x hxj;have rx:=Z0e h.W x;simp only[Work.copy];exact⟨by omega,by rw[Z0w hsr hxr,m3 x oq]⟩
   .simp only[Work.copy];rw[Z0w hsr oq,Znz oq oq oq]
end
def Zj1{w:Work}(hw:WkOk w)(h:CIv w){r n:Int}(hr:r∈w.old)(hq:r∉w.Q)(hn:n=hlA w.heap.W r+1)(hp:n<=w.heap.C.pw)(hc:(w.place n).2.2=O):∀ x∈w.old++w.Q,(x∈w.Q\/x≠r)->∀ m,0<=m->m<=hlA w.heap.W x->loadA ((w.place n).1.copy r (w.place n).2.1 n).heap.W (x+m)=loadA w.heap.W (x+m):=by
 have hlr:=Z0e w.heap.W r;obtain⟨i,p,t,h1,h2,h3,h4,h5,h6,h7,h8,e⟩:=Z5J hw ⟨by omega,hp⟩ hc;have hb:=validB_iff.1 hw.C;have hpl:=hw.pl;have hL:=h.L;have hio:(i:Int)*w.heap.C.pw+w.heap.C.pw<=w.heap.C.pw*w.heap.C.pg:=by
  have:=Z17 (i:=i) (j:=w.heap.C.pg) (pw:=w.heap.C.pw) oq oq;rw[Ly w.heap.C.pw];exact this
 have hi0:0<=(i:Int)*w.heap.C.pw:=LF oq oq;rw[e,h8];generalize hu:occP (w.heap.P.getD i M)=u at *;generalize ha:4096+(i:Int)*w.heap.C.pw+u=at';have hrr:=h.r r (Lj _ hr);have hf:=h.f i h1 (by rcases h2 with h2 | h2;exact Li h2;exact Ll h2.1);rw[hu]at hf;obtain⟨m1,m2,m3⟩:=Z52 (ws:=w.heap.W) (a:=at') (b:=r) (n:=n) oq oq oq;have hsr:4096<=r/\r<4096+(moveA w.heap.W at' r n).1.length:=by omega
 intro x hx hxr m hm0 hm1;have hfx:=hf x hx;simp only[Work.copy];rw[Z0w hsr ?_,m3 _ oq];intro c;by_cases q:x=r
 .exact hxr.elim (λa=>hq (q▸a)) (λa=>a q)
 .have:=h.s x hx r (Lj _ hr) oq;omega
def Z6I{w:Work}(hw:WkOk w)(h:CIv w)(r:Int)(e:(w.fwd r).2.2=0):(∃ m,(w.fwd r).1.Q=w.Q++m)/\(w.fwd r).1.D=w.D/\∀ x∈w.old++w.Q,(x∈w.Q\/x≠r)->∀ m,0<=m->m<=hlA w.heap.W x->loadA (w.fwd r).1.heap.W (x+m)=loadA w.heap.W (x+m):=by
 unfold Work.fwd at e ⊢;split at e
 .rename_i c1;rw[if_pos c1];exact⟨⟨[],by simp⟩,rfl,λ_ _ _ _ _ _=>rfl⟩
 .rename_i c1;rw[if_neg c1];have c1':r∉w.Q:=λh=>c1 (Ll h);split at e
  .simp at e
  .rename_i c2;rw[if_neg c2];have c2':r∈w.old:=LM.1 c2;split at e
   .rename_i c3;rw[if_pos c3];exact⟨⟨[],by simp⟩,rfl,λ_ _ _ _ _ _=>rfl⟩
   .rename_i c3;rw[if_neg c3];split at e
    .simp at e
    .rename_i c4;rw[if_neg c4];split at e
     .rename_i c5;rw[if_pos c5];exact⟨⟨[r],rfl⟩,rfl,λ_ _ _ _ _ _=>rfl⟩
     .rename_i c5;rw[if_neg c5];split at e
      .rename_i c6;rw[if_pos c6];exact⟨⟨[r],rfl⟩,rfl,λ_ _ _ _ _ _=>rfl⟩
      .rename_i c6;rw[if_neg c6];split at e
       .simp at e
       .rename_i c7;rw[if_neg c7];have c7':(w.place (sizeH (hdW w r))).2.2=O:=by simpa using c7
        have hz:=h.z r c2';have hp:sizeH (hdW w r)<=w.heap.C.pw:=by
         rw[Z1P];rcases hz with hz | hz
         .exact absurd hz c6
         .exact hz
        have hlr:=Z0e w.heap.W r;obtain⟨i,p,t,p1,p2,p3,p4,p5,p6,p7,e8⟩:=Z5G hw ⟨by rw[Z1P];omega,hp⟩ c7';refine⟨⟨[(w.place (sizeH (hdW w r))).2.1], ?_⟩, ?_,Zj1 hw h c2' c1' (Z1P w r) hp c7'⟩
        .rw[e8];rfl
        .rw[e8];rfl
def FD(w:Work)(F:Int->Prop):Prop:=∀ z,F z->(∃ q j,q∈w.Q/\0<=j/\j<hlA w.heap.W q/\z=q+1+j)/\ToOk w (loadA w.heap.W z).1
structure Sm (w v:Work):Prop where
 q:∃ m,v.Q=w.Q++m
 h:∀ x∈w.Q,hdA v.heap.W x=hdA w.heap.W x
def Sm.trans{u v w:Work}(a:Sm u v)(b:Sm v w):Sm u w:=by
 obtain⟨m,em⟩:=a.q;obtain⟨n,en⟩:=b.q;exact⟨⟨m++n,by rw[en,em,L5]⟩,λx hx=>(b.h x (by rw[em];exact Lj _ hx)).trans (a.h x hx)⟩
def Sm.mem{w v:Work}(a:Sm w v){x:Int}(hx:x∈w.Q):x∈v.Q:=by
 obtain⟨m,em⟩:=a.q;rw[em];exact Lj _ hx
def Sm.len{w v:Work}(a:Sm w v){x:Int}(hx:x∈w.Q):hlA v.heap.W x=hlA w.heap.W x:=congrArg Header.length (a.h x hx)
def Sm.to{w v:Work}(a:Sm w v){x:Int}(hx:ToOk w x):ToOk v x:=hx.imp id a.mem
def ZfM{w:Work}(hw:WkOk w)(h:CIv w)(r:Int)(e:(w.fwd r).2.2=0):Sm w (w.fwd r).1:=by
 have s:=Z6I hw h r e;refine⟨s.1,λx hx=>?_⟩;have:=s.2.2 x (Lm _ hx) (.inl hx) 0 oq (Z0e _ _).1;rw[L1]at this;rw[hdA,hdA,this]
def FD.fwd{w:Work}{F:Int->Prop}(f:FD w F)(hw:WkOk w)(h:CIv w)(r:Int)(e:(w.fwd r).2.2=0):FD (w.fwd r).1 F:=by
 have s:=Z6I hw h r e;have m:=ZfM hw h r e;intro z hz;obtain⟨⟨q,j,hq,h0,h1,rfl⟩,t⟩:=f z hz;refine⟨⟨q,j,m.mem hq,h0,by rw[m.len hq];exact h1,rfl⟩, ?_⟩;have:=s.2.2 q (Lm _ hq) (.inl hq) (1+j) oq oq;rw[<- LN]at this;rw[this];exact m.to t
def Zpn{B:Int}{w:Work}(hw:WkOk w)(h:CIv w)(hp:PR B w){F:Int->Prop}(f:FD w F){q j:Int}(hq:q∈w.Q)(hj:0<=j/\j<hlA w.heap.W q)(e:(w.fwd (loadA w.heap.W (q+1+j)).1).2.2=0):Sm w (w.in1 (q+1+j))/\(w.in1 (q+1+j)).D=w.D/\FD (w.in1 (q+1+j)) (λz=>F z\/z=q+1+j):=by
 have s:=Z6I hw h _ e;have m:=ZfM hw h _ e;have ff:=f.fwd hw h _ e;have to:=ZmP w _ hp e;obtain⟨i1,x1⟩:=Z4B hw h _ e;have hq1:=x1.q q hq;have hl1:=x1.l q hq;have hr:=i1.r q (Lm _ hq1);have hin:4096<=q+1+j/\q+1+j<4096+(w.fwd (loadA w.heap.W (q+1+j)).1).1.heap.W.length:=by omega
 have hne:∀ x∈(w.fwd (loadA w.heap.W (q+1+j)).1).1.Q,x≠q+1+j:=by
  intro x hx c;have:=i1.s q (Lm _ hq1) x (Lm _ hx) oq;omega
 have hh:∀ x∈(w.fwd (loadA w.heap.W (q+1+j)).1).1.Q,hdA (w.in1 (q+1+j)).heap.W x=hdA (w.fwd (loadA w.heap.W (q+1+j)).1).1.heap.W x:=by
  intro x hx;simp only[Work.in1];rw[hdA,hdA,Z0w hin (hne x hx)]
 have m2:Sm (w.fwd (loadA w.heap.W (q+1+j)).1).1 (w.in1 (q+1+j)):=⟨⟨[],by simp[Work.in1]⟩,hh⟩
 refine⟨m.trans m2,s.2.1, ?_⟩;intro z hz;have key:(∃ q' j',q'∈w.Q/\0<=j'/\j'<hlA w.heap.W q'/\z=q'+1+j'):=by
  rcases hz with hz | rfl
  .exact(f z hz).1
  .exact⟨q,j,hq,hj.1,hj.2,rfl⟩
 obtain⟨q',j',k1,k2,k3,k4⟩:=key;refine⟨⟨q',j',(m.trans m2).mem k1,k2,by rw[(m.trans m2).len k1];exact k3,k4⟩, ?_⟩;by_cases c:z=q+1+j
 .subst c;have:(loadA (w.in1 (q+1+j)).heap.W (q+1+j)).1=(w.fwd (loadA w.heap.W (q+1+j)).1).2.1:=by
   simp only[Work.in1];rw[Z1N hin]
  rw[this];exact m2.to to
 .have:loadA (w.in1 (q+1+j)).heap.W z=loadA (w.fwd (loadA w.heap.W (q+1+j)).1).1.heap.W z:=by
   simp only[Work.in1];rw[Z0w hin c]
  rw[this];rcases hz with hz | hz
  .exact m2.to (ff z hz).2
  .exact absurd hz c
section
variable {B:Int} (hB:0<=B)
include hB
theorem Zk3{w:Work}(hw:WkOk w)(h:CIv w)(hp:PR B w){F:Int->Prop}(f:FD w F){q:Int}(hq:q∈w.Q){l:List Int}(hl:∀ x∈l,0<=x/\x<hlA w.heap.W q):∀ k,k<=l.length->(∀ j,j<k->innE w q l j=0)->Sm w (innN w q l k)/\(innN w q l k).D=w.D/\FD (innN w q l k) (λz=>F z\/∃ i,i<k/\z=q+1+l.getD i M)
 | 0,_,_=>⟨⟨⟨[],by simp[innN]⟩,λ_ _=>rfl⟩,rfl,λz hz=>f z (hz.resolve_right (by rintro⟨i,hi,_⟩;omega))⟩
 | k+1,hk,he=>by
  obtain⟨a,b,c⟩:=Zk3 hw h hp f hq hl k oq (λj hj=>he j oq);have ok:=(Z3T hw q l k (λj hj=>he j oq)).1;have iv:=Z6V hw h hq hl k oq (λj hj=>he j oq);have pr:=ZdG (PR B) (λw q j hw hi h hq h0 h1 e=>PR.in1 hB w q j hw hi h hq h0 h1 e) hw h hp hq hl k oq (λj hj=>he j oq);have hx:=hl _ (getD_mem_iff.2 ⟨k,by omega,rfl⟩);obtain⟨d1,d2,d3⟩:=Zpn ok iv.1 pr c (a.mem hq) (j:=l.getD k M) ⟨hx.1,by rw[a.len hq];exact hx.2⟩ (he k oq);refine⟨a.trans d1,d2.trans b,λz hz=>d3 z ?_⟩;rcases hz with hz | ⟨i,hi,hz⟩
  .exact Li (Li hz)
  .by_cases q2:i=k
   .subst q2;exact Ll hz
   .exact Li (Ll ⟨i,by omega,hz⟩)
def SD(w:Work):Prop:=FD w (λz=>∃ i j,i<w.D.toNat/\j∈Z03 (hdA w.heap.W (w.Q.getD i M))/\z=w.Q.getD i M+1+j)
omit hB in
theorem Sm.get{w v:Work}(a:Sm w v){i:Nat}(hi:i<w.Q.length):v.Q.getD i M=w.Q.getD i M:=by
 obtain⟨m,em⟩:=a.q;rw[em,Le,Le,LQ hi]
theorem ZfC{w:Work}(hw:WkOk w)(h:CIv w)(hp:PR B w)(f:SD w)(e:(Z0B w).2.2=0):SD (Z0B w).1:=by
 by_cases hs:w.D<w.Q.length
 .have hsc:=hw.sc;have hq:Z0T w∈w.Q:=getD_mem_iff.2 ⟨w.D.toNat,by omega,rfl⟩;unfold Z0B at e ⊢;rw[if_pos hs]at e ⊢;cases hb:(Lf (Z0r w).length).find? (λk=>Lb (innE w (Z0T w) (Z0r w) k≠0))with
  | none =>
   have h0:∀ j,j<(Z0r w).length->innE w (Z0T w) (Z0r w) j=0:=λj hj=>by
    have:=Lp.1 hb j (Lg.2 hj);simpa using this
   obtain⟨a,b,c⟩:=Zk3 hB hw h hp f hq (l:=Z0r w) (Z2u (hdW w (Z0T w))) (Z0r w).length (Lt _) h0;intro z hz;obtain⟨i,j,hi,hj,rfl⟩:=hz;simp only[Z3E]at hi hj ⊢;rw[b]at hi;have hg:=a.get (show i<w.Q.length by omega);have hm:w.Q.getD i M∈w.Q:=getD_mem_iff.2 ⟨i,by omega,rfl⟩;rw[hg,a.h _ hm]at hj;rw[hg];refine c _ ?_;by_cases q:i=w.D.toNat
   .subst q;obtain⟨n,n1,n2⟩:=getD_mem_iff.1 hj;exact Ll ⟨n,n1,by rw[<- n2];rfl⟩
   .exact Li ⟨i,j,by omega,hj,rfl⟩
  | some k =>
   simp only[hb]at e;have:=(Lq.1 hb).1;simp[e]at this
 .have e:Z0B w=(w,Lc,0):=by rw[Z0B,if_neg hs]
  rw[e];exact f
theorem ZmR{w:Work}(hw:WkOk w)(h:CIv w)(hp:PR B w)(f:SD w):∀ k,(∀ j,j<k->Z30 w j=Lc)->SD (itW w k)
 | 0,_=>f
 | k+1,hh=>by
  have ih:=ZmR hw h hp f k (λj hj=>hh j oq);have ok:=(Z4x hw k (λj hj=>hh j oq)).1;have iv:=(Z7w hw h k (λj hj=>hh j oq)).1;have pr:=Zln (PR B) (λw q j hw hi h hq h0 h1 e=>PR.in1 hB w q j hw hi h hq h0 h1 e) (λw n h=>⟨⟨h.tab.pt,h.tab.tk,h.tab.pin⟩,h.rt.q,h.rt.t⟩) hw h hp k (λj hj=>hh j oq);have hk:=hh k oq;simp only[Z30,decide_eq_false_iff_not,not_or,LM]at hk;exact ZfC hB ok iv pr ih hk.1
theorem Zoa{w:Work}(hw:WkOk w)(h:CIv w)(hp:PR B w)(f:SD w)(e:(allF w).2=0):SD (allF w).1/\(allF w).1.D=(allF w).1.Q.length:=by
 obtain⟨k,hb⟩:=Z3B hw;obtain⟨h1,h2,h3⟩:=Lq.1 hb;have h0:∀ j,j<k->Z30 w j=Lc:=λj hj=>by simpa using h3 j hj
 unfold allF at e ⊢;rw[hb]at e ⊢;simp only at e ⊢;split at e
 .rename_i c;rw[if_pos c];have ok:=(Z4x hw k h0).1;have iv:=(Z7w hw h k h0).1;have pr:=Zln (PR B) (λw q j hw hi h hq h0 h1 e=>PR.in1 hB w q j hw hi h hq h0 h1 e) (λw n h=>⟨⟨h.tab.pt,h.tab.tk,h.tab.pin⟩,h.rt.q,h.rt.t⟩) hw h hp k h0;refine⟨ZfC hB ok iv pr (ZmR hB hw h hp f k h0) c, ?_⟩;simp only[Z30,decide_eq_true_eq]at h1;have hf:(Z0B (itW w k)).2.1=Lc:=h1.resolve_left (λq=>q c);have hsc:=ok.sc;by_cases hs:(itW w k).D<(itW w k).Q.length
  .exfalso;unfold Z0B at hf c;rw[if_pos hs]at hf c;cases hb2:(Lf (Z0r (itW w k)).length).find? (λm=>Lb (innE (itW w k) (Z0T (itW w k)) (Z0r (itW w k)) m≠0))with
   | none =>
    rw[hb2]at hf;simp at hf
   | some m =>
    simp only[hb2]at c;have:=(Lq.1 hb2).1;simp[c]at this
  .have e3:Z0B (itW w k)=(itW w k,Lc,0):=by rw[Z0B,if_neg hs]
   rw[e3];simp only;omega
 .rename_i c;exact absurd e c
theorem Zn6{h:Heap}{s:List Int}(hw:WOk h.W)(hp:Z02 h=O)(hb:∀ p∈h.P,p.N<=B)(e:(rootsF (beginW h) s).2.2=0)(e2:(allF (rootsF (beginW h) s).1).2=0):SD (cW2 h s)/\(cW2 h s).D=(cW2 h s).Q.length:=by
 have wb:=Z37 hw hp;have hi:=Z38 hp;have ho:=Z3x (roots:=s) wb hi e;have pr:=Zc9 (PR B) (λw r hw hi h e=>PR.fwd hB w r hw hi h e) (roots:=s) wb hi ⟨Z5f hp hb,Z83 hp⟩ e;have s0:=Zc9 (λw=>w.D=0) (λw r hw hi h e=>(Z6I hw hi r e).2.1.trans h) (roots:=s) wb hi rfl e;exact Zoa hB ho.1 ho.2.1 pr (λz hz=>by obtain⟨i,j,q,_⟩:=hz;rw[s0]at q;simp at q) e2
end
def Z61(w:Work)(x:Int):Prop:=Z0K w (ofA w.heap.C x).1=O/\x∉w.Q
def Zab(n:Int)(a x:Int):Int:=if a=x then 1+16*n else 0
def Ziu{n:Int}(h:0<=n/\n<=255):decodeH (1+16*n)=(⟨0,n,0⟩,O):=by
 have hv:Z0h ⟨0,n,0⟩=O:=validH_iff.2 ⟨by simp,by simp,h.1,h.2,by simp⟩;have:=decode_encode hv pq;rw[Z5E h]at this;exact this
def ZjL{n:Int}(h:0<=n/\n<=255){ws:List Int}{a x:Int}(hx:4096<=x/\x+n<4096+ws.length)(ha:x<=a/\a<=x+n):(loadA (Z0F ws x (objW ⟨0,n,0⟩)).1 a).1=Zab n a x:=by
 have hl:(objW ⟨0,n,0⟩).length=n.toNat+1:=by simp[objW]
 rw[Z1O oq oq];unfold Zab;by_cases c:a=x
 .subst c;simp[objW,Z5E h]
 .rw[if_neg c,objW,show(a-x).toNat=(a-x-1).toNat+1 by omega];simp[Le,LS];split<;>rfl
structure FL (v:Work) (ws:List Int) (k:Nat):Prop where
 l:ws.length=v.heap.W.length
 h:∀ x∈v.old,hlA ws x=hlA v.heap.W x
 s:∀ a,loadA ws a=loadA v.heap.W a\/∃ x∈v.old,Z61 v x/\x<=a/\a<=x+hlA v.heap.W x/\(loadA ws a).1=Zab (hlA v.heap.W x) a x
 f:∀ j,j<k->Z61 v (v.old.getD j M)->∀ a,v.old.getD j M<=a->a<=v.old.getD j M+hlA v.heap.W (v.old.getD j M)->(loadA ws a).1=Zab (hlA v.heap.W (v.old.getD j M)) a (v.old.getD j M)
def ZfR{v:Work}(hw:FOk v)(hi:CIv v):∀ k,k<=v.old.length->FL v (fillN v k).heap.W k
 | 0,_=>⟨rfl,λ_ _=>rfl,λ_=>Li rfl,λj hj=>by omega⟩
 | k+1,hk=>by
  have ih:=ZfR hw hi k oq;obtain⟨i0,i1,i2,i3,i4,i5,i6,i7,i8,i9,i10,i11⟩:=Z5y v hw k;have hm:v.old.getD k M∈v.old:=getD_mem_iff.2 ⟨k,by omega,rfl⟩;have hr:=hi.r _ (Lj _ hm);have hn:=Z0e v.heap.W (v.old.getD k M);have hprom:Z0K (fillN v k) (ofA (fillN v k).heap.C (v.old.getD k M)).1=Z0K v (ofA v.heap.C (v.old.getD k M)).1:=by
   unfold Z0K;rw[i1,i2,i3,i6]
  by_cases c:Z61 v (v.old.getD k M)
  .have e:(fillN v (k+1)).heap.W=(Z0F (fillN v k).heap.W (v.old.getD k M) (objW ⟨0,hlA v.heap.W (v.old.getD k M),0⟩)).1:=by
    show(Z5X (fillN v k) (v.old.getD k M)).heap.W=_;rw[Z5X,hprom,i7,if_pos (show Z0K v (ofA v.heap.C (v.old.getD k M)).1=O/\v.old.getD k M∉v.Q from c)];simp only;rw[<- ih.h _ hm];rfl
   rw[e];have hl:=ih.l;generalize hx:v.old.getD k M=x at *;have hin:4096<=x/\x+hlA v.heap.W x<4096+(fillN v k).heap.W.length:=by omega
   have ho:(objW ⟨0,hlA v.heap.W x,0⟩).length=(hlA v.heap.W x).toNat+1:=by simp[objW]
   have win:=λa ha=>ZjL hn (ws:=(fillN v k).heap.W) (a:=a) hin ha;have wout:∀ a,a<x\/x+hlA v.heap.W x<a->loadA (Z0F (fillN v k).heap.W x (objW ⟨0,hlA v.heap.W x,0⟩)).1 a=loadA (fillN v k).heap.W a:=λa ha=>Z2e oq oq;have sep:=λy hy=>hi.s x (Lj _ hm) y (Lj _ hy);have sep2:=λy hy=>hi.s y (Lj _ hy) x (Lj _ hm);refine⟨?_, ?_, ?_, ?_⟩
   .unfold Z0F;rw[if_pos oq];exact(Z3U oq).trans hl
   .intro y hy;by_cases q:y=x
    .subst q;have:=win y oq;rw[hlA,this,Zab,if_pos rfl,Ziu hn]
    .have s1:=sep y hy;have s2:=sep2 y hy;have:=Z0e v.heap.W y;rw[hlA,wout y oq];exact ih.h y hy
   .intro a;by_cases q:x<=a/\a<=x+hlA v.heap.W x
    .exact Ll ⟨x,hm,c,q.1,q.2,win a q⟩
    .rw[wout a oq];exact ih.s a
   .intro j hj hf a h1 h2;by_cases q:v.old.getD j M=x
    .rw[q]at h1 h2 ⊢;exact win a ⟨h1,h2⟩
    .have hjk:j<k:=by
      by_cases q2:j=k
      .subst q2;exact absurd hx q
      .omega
     have hmj:v.old.getD j M∈v.old:=getD_mem_iff.2 ⟨j,by omega,rfl⟩;have s1:=sep _ hmj;have s2:=sep2 _ hmj;have:=Z0e v.heap.W (v.old.getD j M);rw[wout a oq];exact ih.f j hjk hf a h1 h2
  .have e:fillN v (k+1)=fillN v k:=by
    show Z5X (fillN v k) (v.old.getD k M)=_;rw[Z5X,hprom,i7,if_neg (show ¬ (Z0K v (ofA v.heap.C (v.old.getD k M)).1=O/\v.old.getD k M∉v.Q)from c)]
   rw[e];refine⟨ih.l,ih.h,ih.s,λj hj hf=>?_⟩;by_cases q:j=k
   .subst q;exact absurd hf c
   .exact ih.f j oq hf
def ZcB{c:Conf}{s:Int}{l:List Page}{ws:List Int}(hp:0<=c.pw)(hl:(ws.length:Int)=c.pw*l.length):∀ k,k<=l.length->(Z2i c.pw s l ws k).length=ws.length/\∀ (i:Nat) (o:Int),i<l.length->0<=o->o<c.pw->loadA (Z2i c.pw s l ws k) (4096+i*c.pw+o)=if i<k/\Z2g s (l.getD i M)then(0,0)else loadA ws (4096+i*c.pw+o)
 | 0,_=>⟨rfl,λi o _ _ _=>by rw[if_neg oq];rfl⟩
 | k+1,hk=>by
  obtain⟨h1,h2⟩:=ZcB (s:=s) hp hl k oq;unfold Z2i;by_cases c':Z2g s (l.getD k M)
  .rw[if_pos c'];have hk2:=Z17 (i:=k) (j:=l.length) (pw:=c.pw) oq hp;have hk0:0<=(k:Int)*c.pw:=LF oq hp;rw[Ly (l.length:Int)]at hk2;have hlen:(Lh c.pw.toNat (0:Int)).length=c.pw.toNat:=LH;have en:((k*c.pw.toNat:Nat):Int)=k*c.pw:=by rw[Int.natCast_mul,Xo hp]
   have e:spl (Z2i c.pw s l ws k) (k*c.pw.toNat) (Lh c.pw.toNat 0)=(Z0F (Z2i c.pw s l ws k) (4096+k*c.pw) (Lh c.pw.toNat 0)).1:=by
    unfold Z0F;rw[if_pos oq];simp only;congr 1;omega
   refine⟨?_, ?_⟩
   .rw[Z3U oq];exact h1
   .intro i o hi h0 ho;rw[e];by_cases q:i=k
    .subst q;rw[Z1O oq oq,if_pos ⟨by omega,c'⟩];simp[Le,LS];split<;>rfl
    .have hne:4096+(i:Int)*c.pw+o<4096+k*c.pw\/4096+k*c.pw+c.pw<=4096+(i:Int)*c.pw+o:=by
      rcases Nat.lt_or_gt_of_ne q with q | q
      .have:=Z17 (i:=i) (j:=k) (pw:=c.pw) oq hp;omega
      .have:=Z17 (i:=k) (j:=i) (pw:=c.pw) oq hp;omega
     rw[Z2e oq oq,h2 i o hi h0 ho];by_cases q2:i<k/\Z2g s (l.getD i M)
     .rw[if_pos q2,if_pos ⟨by omega,q2.2⟩]
     .rw[if_neg q2,if_neg (λq3=>q2 ⟨by omega,q3.2⟩)]
  .rw[if_neg c'];refine⟨h1,λi o hi h0 ho=>?_⟩;rw[h2 i o hi h0 ho];by_cases q2:i<k/\Z2g s (l.getD i M)
   .rw[if_pos q2,if_pos ⟨by omega,q2.2⟩]
   .rw[if_neg q2,if_neg];rintro⟨q3,q4⟩;by_cases q5:i=k
    .subst q5;exact c' q4
    .exact q2 ⟨by omega,q4⟩
def ZaI(hd:Header){k:Int}(h0:0<=k)(hp:Z0d hd k=O):∀ n:Nat,k<n->k∈Z11 hd n
 | 0,h=>by omega
 | n+1,h=>by
  unfold Z11;by_cases q:k=n
  .subst q;rw[if_pos hp];simp
  .have ih:=ZaI hd h0 hp n oq;split
   .exact Lj _ ih
   .exact ih
def Z70{hd:Header}{k:Int}(h0:0<=k)(h1:k<hd.length)(hp:Z0d hd k=O):k∈Z03 hd:=by
 have hv:Z0h hd=O:=by
  unfold Z0d at hp;simp only[LZ]at hp;exact hp.1.1.1
 unfold Z03;rw[if_pos hv];exact ZaI hd h0 hp _ oq
structure CE (h:Heap) (T tq:Nat->List Int) (w:Work) (l4 l5:List Int):Prop where
 g:Gd h T
 k:KI h T tq w
 i:CIv w
 s:w.heap.S=0\/w.heap.S=1
 pt:PT w.heap.C w.heap.P
 ts:∀ x∈w.T,(w.heap.P.getD x.toNat M).S=1-w.heap.S
 sd:SD w
 sc:w.D=w.Q.length
 f3:∀ a,loadA l4 a=loadA w.heap.W a\/∃ x∈w.old,Z61 w x/\x<=a/\a<=x+hlA w.heap.W x/\(loadA l4 a).1=Zab (hlA w.heap.W x) a x
 f4:∀ x∈w.old,Z61 w x->∀ a,x<=a->a<=x+hlA w.heap.W x->(loadA l4 a).1=Zab (hlA w.heap.W x) a x
 n4:l4.length=w.heap.W.length
 n5:l5.length=w.heap.W.length
 fr:∀ (i:Nat) (o:Int),i<h.P.length->0<=o->o<h.C.pw->loadA l5 (bsP h i+o)=if Z2g w.heap.S (w.heap.P.getD i M)then(0,0)else loadA l4 (bsP h i+o)
def tE(T tq:Nat->List Int)(w:Work)(i:Nat):List Int:=if(i:Int)∈w.T then tq i else if(w.heap.P.getD i M).S≠w.heap.S then T i else []
section
variable {h:Heap} {T tq:Nat->List Int} {w:Work} {l4 l5:List Int} (c:CE h T tq w l4 l5)
include c
theorem CE.mem{i:Nat}{x:Int}(hx:x∈tE T tq w i):(i:Int)∈w.T/\x∈tq i\/(i:Int)∉w.T/\(w.heap.P.getD i M).S≠w.heap.S/\x∈T i:=by
 unfold tE at hx;split at hx
 .rename_i q;exact Li ⟨q,hx⟩
 .rename_i q;split at hx
  .rename_i q2;exact Ll ⟨q,q2,hx⟩
  .simp at hx
theorem CE.gone0{i:Nat}(hi:(i:Int)∈w.T):¬ Z2g w.heap.S (w.heap.P.getD i M):=by
 have:=c.ts _ hi;rw[Lz]at this;have:=c.s;unfold Z2g;omega
theorem CE.pgof{i:Nat}{x a:Int}(hx:x∈T i)(h1:x<=a)(h2:a<=x+hlA h.W x):∃ (j:Nat) (o:Int),j<h.P.length/\0<=o/\o<h.C.pw/\a=bsP h j+o/\(w.heap.P.getD j M).K≠0/\(w.heap.P.getD j M).S=(w.heap.P.getD i M).S:=by
 have g:=c.g;have o:=g.on hx;have po:=Z06 g.p;have pg:=c.k.pg i (c.k.nt g hx);have hcc:=c.k.c;have hpl:=c.k.pl;rcases o.2.1 with k | k
 .have pp:=Z0I g.p o.1;exact⟨i,a-bsP h i,o.1,by omega,by omega,by omega,by omega,rfl⟩
 .have hx2:=o.2.2.2.2.2.2 k;have lg:=c.pt.lg i oq oq;rw[pg.2.1,hcc]at lg;have nu:=Z51 lg.1;have h0:0<=(a-bsP h i)/h.C.pw:=Xk oq oq;have h3:=Xl (a-bsP h i) h.C.pw;have h4:=L3 (a-bsP h i) (b:=h.C.pw) oq;have h5:=L2 (a-bsP h i) (b:=h.C.pw) oq;have h6:(a-bsP h i)/h.C.pw<need h.C (h.P.getD i M).U:=Xj oq oq;rw[Ly]at h3;generalize hm:(a-bsP h i)/h.C.pw=m at *;have hmn:((m.toNat:Nat):Int)=m:=by omega
  refine⟨i+m.toNat,(a-bsP h i)%h.C.pw, ?_,h4,h5, ?_, ?_⟩
  .by_cases q:m.toNat=0
   .omega
   .have:=(lg.2 m.toNat oq oq).1;omega
  .unfold bsP at h3 ⊢;rw[Int.natCast_add,hmn,LO];omega
  .by_cases q:m.toNat=0
   .rw[q,Nat.add_zero];exact⟨by omega,rfl⟩
   .have:=(lg.2 m.toNat oq oq).2;exact⟨by omega,this.2⟩
theorem CE.keptw{i:Nat}{x a:Int}(hx:x∈T i)(hs:(w.heap.P.getD i M).S≠w.heap.S)(h1:x<=a)(h2:a<=x+hlA h.W x):loadA l5 a=loadA l4 a:=by
 obtain⟨j,o,j1,o1,o2,e,k0,k1⟩:=c.pgof hx h1 h2;rw[e,c.fr j o j1 o1 o2,if_neg];unfold Z2g;rw[k1];exact λq=>hs q.2
theorem CE.gonew{i:Nat}{x a:Int}(hx:x∈T i)(hs:(w.heap.P.getD i M).S=w.heap.S)(h1:x<=a)(h2:a<=x+hlA h.W x):(loadA l5 a).1=0:=by
 obtain⟨j,o,j1,o1,o2,e,k0,k1⟩:=c.pgof hx h1 h2;rw[e,c.fr j o j1 o1 o2,if_pos ⟨k0,k1.trans hs⟩]
theorem CE.seen4{x a:Int}(hx:x∈w.Q)(h1:x<=a)(h2:a<=x+hlA w.heap.W x):loadA l4 a=loadA w.heap.W a:=by
 rcases c.f3 a with q | ⟨y,hy,q1,q2,q3,q4⟩
 .exact q
 .exfalso;have hne:x≠y:=λe=>q1.2 (e▸hx);have s1:=c.i.s x (Lm _ hx) y (Lj _ hy);have s2:=c.i.s y (Lj _ hy) x (Lm _ hx);have r1:=Z0e w.heap.W x;have r2:=Z0e w.heap.W y;rcases Int.lt_or_gt_of_ne hne with q | q
  .have:=s1 q;omega
  .have:=s2 q;omega
theorem CE.takenw{i:Nat}{a:Int}(hi:(i:Int)∈w.T)(h1:bsP h i<=a)(h2:a<bsP h i+h.C.pw):loadA l5 a=loadA l4 a:=by
 have t:=c.k.tk i hi;have:=c.fr i (a-bsP h i) t.1 oq oq;rw[show bsP h i+(a-bsP h i)=a by omega,if_neg (c.gone0 hi)]at this;exact this
theorem CE.seen{x a:Int}(hx:x∈w.Q)(h1:x<=a)(h2:a<=x+hlA w.heap.W x):loadA l5 a=loadA w.heap.W a:=by
 rw[<- c.seen4 hx h1 h2];rcases c.k.q x hx with⟨i,i1,i2,i3,i4⟩ | ⟨i,i1,i2⟩
 .have he:(loadA w.heap.W x).1=(loadA h.W x).1:=by
   rcases c.k.hd i x i2 with q | q
   .exact q
   .exact absurd q.2.2 i4
  rw[(Z1Q he).2.1]at h2;exact c.keptw i2 i4 h1 h2
 .have t:=c.k.tk i i1;have m:=Z1K t.2.2.2.2.2.1 i2;exact c.takenw i1 oq oq
theorem CE.where'{x:Int}(hx:x∈w.Q):∃ i,x∈tE T tq w i:=by
 rcases c.k.q x hx with⟨i,i1,i2,i3,i4⟩ | ⟨i,i1,i2⟩
 .exact⟨i,by rw[tE,if_neg i1,if_pos i4];exact i2⟩
 .exact⟨i,by rw[tE,if_pos i1];exact i2⟩
theorem CE.seenK{x:Int}(hx:x∈w.Q):kdA w.heap.W x≠0/\okA w.heap.W x:=by
 rcases c.k.q x hx with⟨i,i1,i2,i3,i4⟩ | ⟨i,i1,i2⟩
 .have he:(loadA w.heap.W x).1=(loadA h.W x).1:=by
   rcases c.k.hd i x i2 with q | q
   .exact q
   .exact absurd q.2.2 i4
  have o:=Z1Q he;exact⟨by rw[o.2.2.1];exact i3,o.1 (c.g.on i2).2.2.2.2.2.1⟩
 .have t:=c.k.tk i i1;exact⟨(t.2.2.2.2.2.2 x i2).2.1,(Z1K t.2.2.2.2.2.1 i2).1⟩
theorem CE.kept{i:Nat}{x:Int}(hx:x∈T i)(hn:(i:Int)∉w.T)(hs:(w.heap.P.getD i M).S≠w.heap.S):(loadA w.heap.W x).1=(loadA h.W x).1/\okA l5 x/\hlA l5 x=hlA h.W x/\(x∉w.Q->kdA l5 x=0/\(h.P.getD i M).K=1/\(kdA h.W x≠0->x∈w.old/\Z61 w x)):=by
 have he:(loadA w.heap.W x).1=(loadA h.W x).1:=by
  rcases c.k.hd i x hx with q | q
  .exact q
  .exact absurd q.2.2 hs
 have on:=c.g.on hx;have oh:=Z1Q he;have rx:=Z0e h.W x;refine⟨he, ?_⟩;by_cases hq:x∈w.Q
 .have e:=Z1Q (congrArg Prod.fst (c.seen hq (Lx _) (by have:=Z0e w.heap.W x;omega)));exact⟨e.1 (oh.1 on.2.2.2.2.2.1),by rw[e.2.1,oh.2.1],λq=>absurd hq q⟩
 .have k1:(h.P.getD i M).K=1:=by
   rcases on.2.1 with q | q
   .exact q
   .have:=c.k.lg i q hs;rw[<- (on.2.2.2.2.2.2 q).1]at this;exact absurd this hq
  have e5:loadA l5 x=loadA l4 x:=c.keptw hx hs (Lx _) oq;by_cases hk:kdA h.W x=0
  .have e4:loadA l4 x=loadA w.heap.W x:=by
    rcases c.f3 x with q | ⟨y,hy,q1,q2,q3,q4⟩
    .exact q
    .exfalso;obtain⟨j,hj,hjk⟩:=(c.k.old y).1 hy;by_cases e:y=x
     .subst e;exact hjk hk
     .have sj:(loadA w.heap.W y).1=(loadA h.W y).1:=by
       rcases c.k.hd j y hj with q | q
       .exact q
       .exfalso;have o2:=q1.1;unfold Z0K at o2;rw[c.k.c,c.g.ofx hj]at o2;simp only[decide_eq_true_eq,Lz]at o2;exact o2.2.2.2.1 q.2.2
      rw[(Z1Q sj).2.1]at q3;have:=c.g.sep hj hx oq;omega
   have e:=Z1Q (ws:=h.W) (ws':=l5) (a:=x) (by rw[e5,e4,he]);exact⟨e.1 on.2.2.2.2.2.1,e.2.1,λ_=>⟨by rw[e.2.2.1];exact hk,k1,λq=>absurd hk q⟩⟩
  .have ho:x∈w.old:=(c.k.old x).2 ⟨i,hx,hk⟩;have hf:Z61 w x:=by
    refine⟨?_,hq⟩;have pg:=c.k.pg i hn;have pl:=c.k.pl;unfold Z0K;rw[c.k.c,c.g.ofx hx];simp only[decide_eq_true_eq,Lz];exact⟨by omega,by omega,by omega,hs,hn⟩
   have v:=c.f4 x ho hf x (Lx _) (by have:=Z0e w.heap.W x;omega);rw[Zab,if_pos rfl,oh.2.1]at v;rw[<- e5]at v;have d:=Ziu rx;exact⟨by rw[okA,v,d],by rw[hlA,v,d],λ_=>⟨by rw[kdA,hdA,v,d],k1,λ_=>⟨ho,hf⟩⟩⟩
theorem CE.start{i:Nat}{x:Int}(hx:x∈tE T tq w i):okA l5 x/\(kdA l5 x≠0↔x∈w.Q):=by
 have sq:x∈w.Q->okA l5 x/\kdA l5 x≠0:=λhq=>by
  have e:=Z1Q (congrArg Prod.fst (c.seen hq (Lx _) (by have:=Z0e w.heap.W x;omega)));have s:=c.seenK hq;exact⟨e.1 s.2,by rw[e.2.2.1];exact s.1⟩
 rcases c.mem hx with⟨q1,q2⟩ | ⟨q1,q2,q3⟩
 .have hq:=((c.k.tk i q1).2.2.2.2.2.2 x q2).1;exact⟨(sq hq).1,λ_=>hq,λ_=>(sq hq).2⟩
 .have kk:=c.kept q3 q1 q2;refine⟨kk.2.1,λhk=>?_,λhq=>(sq hq).2⟩;by_cases hq:x∈w.Q
  .exact hq
  .exact absurd (kk.2.2.2 hq).1 hk
theorem CE.good{b:Int}(hp:Z02 ⟨w.heap.C,l5,w.heap.P.map (Z1e w.heap.S),1-w.heap.S,b⟩=O):Gd ⟨w.heap.C,l5,w.heap.P.map (Z1e w.heap.S),1-w.heap.S,b⟩ (tE T tq w):=by
 have g:=c.g;have hcc:=c.k.c;have hpl:=c.k.pl;have hs:=c.s;have po:=Z06 g.p;have hgt:∀ i,i<h.P.length->(w.heap.P.map (Z1e w.heap.S)).getD i M=Z1e w.heap.S (w.heap.P.getD i M):=λi hi=>by
  have:i<w.heap.P.length:=by omega
  simp[Le,this]
 have hng:∀ i,i<h.P.length->((w.heap.P.map (Z1e w.heap.S)).getD i M).K≠0->¬ Z2g w.heap.S (w.heap.P.getD i M)/\(w.heap.P.map (Z1e w.heap.S)).getD i M=w.heap.P.getD i M:=by
  intro i hi hk;rw[hgt i hi]at hk ⊢;unfold Z1e at hk ⊢;split at hk
  .simp at hk
  .rename_i q;rw[if_neg q];exact⟨q,rfl⟩
 have hb:∀ i,bsP ⟨w.heap.C,l5,w.heap.P.map (Z1e w.heap.S),1-w.heap.S,b⟩ i=bsP h i:=λi=>by simp only[bsP,hcc]
 have hk5:∀ x,x∈w.Q->okA w.heap.W x->okA l5 x/\hlA l5 x=hlA w.heap.W x/\kdA l5 x=kdA w.heap.W x/\hdA l5 x=hdA w.heap.W x:=λx hq ho=>by
  have e:=Z1Q (congrArg Prod.fst (c.seen hq (Lx _) (by have:=Z0e w.heap.W x;omega)));exact⟨e.1 ho,e.2.1,e.2.2.1,e.2.2.2.1⟩
 have hkept:∀ i,i<h.P.length->(i:Int)∉w.T->((w.heap.P.map (Z1e w.heap.S)).getD i M).K≠0->(w.heap.P.getD i M).S≠w.heap.S/\(h.P.getD i M).K=((w.heap.P.map (Z1e w.heap.S)).getD i M).K/\(h.P.getD i M).U=((w.heap.P.map (Z1e w.heap.S)).getD i M).U/\(h.P.getD i M).N=((w.heap.P.map (Z1e w.heap.S)).getD i M).N:=by
  intro i hi hn hk;have n:=hng i hi hk;have pg:=c.k.pg i hn;rw[n.2]at hk ⊢;refine⟨λq=>n.1 ⟨hk,q⟩,pg.1.symm,pg.2.1.symm,pg.2.2.symm⟩
 refine⟨hp, ?_, ?_, ?_, ?_, ?_, ?_, ?_⟩
 .intro i hi hk;simp only[LA]at hi hk ⊢;have n:=hng i oq hk;rw[n.2]at hk ⊢;have:=(c.pt.b i hi).s;have n1:=n.1;unfold Z2g at n1;omega
 .intro i hi hk;simp only[LA]at hi hk ⊢;rw[hb];have n:=hng i oq oq;by_cases q:(i:Int)∈w.T
  .have t:=c.k.tk i q;rw[tE,if_pos q,n.2,hcc];refine⟨Z2A t.2.2.2.2.2.1 λx hx=>?_,λx hx=>?_⟩
   .have e:=hk5 x (t.2.2.2.2.2.2 x hx).1 (Z1K t.2.2.2.2.2.1 hx).1;exact⟨e.1,e.2.1⟩
   .have e:=hk5 x (t.2.2.2.2.2.2 x hx).1 (Z1K t.2.2.2.2.2.1 hx).1;rw[e.2.1];exact(t.2.2.2.2.2.2 x hx).2.2
  .have kp:=hkept i oq q oq;rw[tE,if_neg q,if_pos kp.1,<- kp.2.2.1,hcc];have t:=g.t1 i oq oq;refine⟨Z2A t.1 λx hx=>?_,λx hx=>?_⟩
   .have e:=c.kept hx q kp.1;exact⟨e.2.1,e.2.2.1⟩
   .rw[(c.kept hx q kp.1).2.2.1];exact t.2 x hx
 .intro i hi hk;simp only[LA]at hi hk ⊢;rw[hb];have n:=hng i oq oq;by_cases q:(i:Int)∈w.T
  .have t:=c.k.tk i q;rw[n.2]at hk;omega
  .have kp:=hkept i oq q oq;have t:=g.t2 i oq oq;have hx:bsP h i∈T i:=by rw[t.1];simp
   have e:=c.kept hx q kp.1;have hq:=c.k.lg i oq kp.1;have st:=c.start (i:=i) (x:=bsP h i) (by rw[tE,if_neg q,if_pos kp.1];exact hx);rw[tE,if_neg q,if_pos kp.1,<- kp.2.2.1];exact⟨t.1,e.2.1,by rw[e.2.2.1];exact t.2.2.1,st.2.2 hq⟩
 .intro i x hx;simp only[LA];rcases c.mem hx with⟨q1,q2⟩ | ⟨q1,q2,q3⟩
  .have t:=c.k.tk i q1;have:Z1e w.heap.S (w.heap.P.getD i M)=w.heap.P.getD i M:=by rw[Z1e,if_neg (c.gone0 q1)]
   rw[hgt i t.1,this];exact⟨by omega,Li t.2.2.1⟩
  .have t:=g.t0 i x q3;have pg:=c.k.pg i q1;have:Z1e w.heap.S (w.heap.P.getD i M)=w.heap.P.getD i M:=by rw[Z1e,if_neg (λq=>q2 q.2)]
   rw[hgt i t.1,this];exact⟨by omega,by rw[pg.1];exact t.2⟩
 .intro a ha;simp only at ha ⊢;have h4:(loadA l4 a).1≠0:=by
   have hr:4096<=a/\a<4096+l5.length:=by
    unfold loadA at ha;by_cases q:4096<=a/\a<4096+l5.length
    .exact q
    .rw[if_neg q]at ha;simp at ha
   have hl5:=c.n5;have hL:=c.i.L;rw[hcc]at hL;have h0:0<=(a-4096)/h.C.pw:=Xk oq oq;have h3:=Xl (a-4096) h.C.pw;have h5:=L3 (a-4096) (b:=h.C.pw) oq;have h6:=L2 (a-4096) (b:=h.C.pw) oq;have h7:(a-4096)/h.C.pw<h.C.pg:=Xj oq (by rw[Ly];omega);rw[Ly]at h3;have f:=c.fr ((a-4096)/h.C.pw).toNat ((a-4096)%h.C.pw) oq h5 h6;have ea:bsP h ((a-4096)/h.C.pw).toNat+(a-4096)%h.C.pw=a:=by
    unfold bsP;rw[Xo h0];omega
   rw[ea]at f;rw[f]at ha;split at ha
   .simp at ha
   .exact ha
  have hks:∀ i x,x∈T i->x<=a->a<=x+hlA h.W x->(i:Int)∉w.T/\(w.heap.P.getD i M).S≠w.heap.S:=λi x hx h1 h2 =>
   ⟨c.k.nt g hx,λq=>ha (c.gonew hx q h1 h2)⟩
  have cov:∀ i x,x∈T i->x<=a->a<=x+hlA h.W x->(x∉w.Q->a=x)->∃ i x,x∈tE T tq w i/\x<=a/\a<x+kpA l5 x:=by
   intro i x hx h1 h2 h3;obtain⟨n1,n2⟩:=hks i x hx h1 h2;have hm:x∈tE T tq w i:=by rw[tE,if_neg n1,if_pos n2];exact hx
   have kk:=c.kept hx n1 n2;have r:=Z0e l5 x;refine⟨i,x,hm,h1, ?_⟩;by_cases q:x∈w.Q
   .rw[kpA,if_neg ((c.start hm).2.2 q),kk.2.2.1];omega
   .have:=h3 q;unfold kpA;split<;>omega
  rcases c.f3 a with q | ⟨x,hx,q1,q2,q3,q4⟩
  .rw[q]at h4;rcases c.k.dt a h4 with⟨i,x,hx,h1,h2⟩ | ⟨i,i1,i2,i3⟩
   .have hkp:kpA h.W x<=hlA h.W x+1:=by
     have:=Z0e h.W x;unfold kpA;split<;>omega
    have hh:=hks i x hx h1 oq;refine cov i x hx h1 oq λhq=>?_;have kk:=(c.kept hx hh.1 hh.2).2.2.2 hq;by_cases hk:kdA h.W x=0
    .rw[kpA,if_pos hk]at h2;omega
    .have fl:=kk.2.2 hk;have oh:=Z1Q (c.kept hx hh.1 hh.2).1;have v:=c.f4 x fl.1 fl.2 a h1 (by rw[oh.2.1];omega);rw[<- q]at h4;rw[v,Zab]at h4;split at h4
     .rename_i e;exact e
     .exact absurd rfl h4
   .have t:=c.k.tk i i1;obtain⟨x,hx,x1,x2⟩:=Zb0 t.2.2.2.2.2.1 i2 i3;have hm:x∈tE T tq w i:=by rw[tE,if_pos i1];exact hx
    have hq:=(t.2.2.2.2.2.2 x hx).1;have e:=hk5 x hq (Z1K t.2.2.2.2.2.1 hx).1;refine⟨i,x,hm,x1, ?_⟩;rw[kpA,if_neg ((c.start hm).2.2 hq),e.2.1];omega
  .obtain⟨i,hi,hk⟩:=(c.k.old x).1 hx;have sj:(loadA w.heap.W x).1=(loadA h.W x).1:=by
    rcases c.k.hd i x hi with q | q
    .exact q
    .exfalso;have o2:=q1.1;unfold Z0K at o2;rw[hcc,g.ofx hi]at o2;simp only[decide_eq_true_eq,Lz]at o2;exact o2.2.2.2.1 q.2.2
   rw[(Z1Q sj).2.1]at q3;refine cov i x hi q2 q3 λ_=>?_;rw[q4,Zab]at h4;split at h4
   .rename_i e;exact e
   .exact absurd rfl h4
 .intro i x m hx hk h0 h1 hpt;simp only at hk h1 hpt ⊢;have hq:=(c.start hx).2.1 hk;have sk:=c.seenK hq;have e:=hk5 x hq sk.2;rw[e.2.1]at h1;rw[e.2.2.2]at hpt;rw[c.seen hq (a:=x+1+m) oq oq];obtain⟨n,n1,n2⟩:=getD_mem_iff.1 hq;have sd:=(c.sd (x+1+m) ⟨n,m,by rw[c.sc];simpa using n1,by rw[n2];exact Z70 h0 h1 hpt,by rw[n2]⟩).2;rcases sd with q | q
  .exact Li q
  .obtain⟨j,hj⟩:=c.where' q;exact Ll ⟨j,hj,(c.start hj).2.2 q⟩
 .have:crowd (w.heap.P.map (Z1e w.heap.S))<=crowd h.P:=by
   refine Z79 qo λi hi k1 k2=>?_;by_cases q:(i:Int)∈w.T
   .have t:=c.k.tk i q;have n:=hng i hi oq;rw[n.2]at k2;omega
   .have kp:=hkept i hi q oq;omega
  have g2:=g.cr;simp only[hcc];omega
end
def Zgx{B:Int}(hB:0<=B){h:Heap}{T:Nat->List Int}(g:Gd h T){s k:List Int}(hw:WOk h.W)(hb:∀ p∈h.P,p.N<=B)(hs:RtOb h T s)(hk:RtOb h T k)(e:(collectF h s k).2.2.2.2=0) :
  ∃ T',Gd (collectF h s k).1 T'/\RtOb (collectF h s k).1 T' (collectF h s k).2.1/\RtOb (collectF h s k).1 T' (collectF h s k).2.2.1:=by
 have hp:=g.p;have hr:=g.refers hs;have hr':=g.refers hk;have pr1:=(Z7A hB hw hb e).p1;by_cases e1:(rootsF (beginW h) s).2.2=0
 .by_cases e2:(allF (rootsF (beginW h) s).1).2=0
  .have e7:collectF h s k=(endH (cW5 h s k),(rootsF (beginW h) s).2.1,Z3G (cW2 h s) k k.length,(cW5 h s k).rep,0):=by rw[collectF,if_pos hp,if_pos ⟨hr,hr'⟩,if_pos e1,if_pos e2]
   rw[e7]at pr1 ⊢;have ck:=cOk h s k hw hp e1 e2;have c5:=cOk5 h s k hw hp e1 e2;have pr:=Zjs hB hw hp hb e1 e2;have sd:=Zn6 hB hw hp hb e1 e2;obtain⟨tq,ki⟩:=Zqm g hw e1 e2;obtain⟨g1,g2,g3,g4,g5⟩:=ck.h4;have po:=Z06 hp;obtain⟨a1,a2,a3,a4,a5,a6,a7,a8⟩:=Z4I (cW2 h s) k k.length;have a1:(cW3 h s k).heap=(cW2 h s).heap:=a1;have a2:(cW3 h s k).old=(cW2 h s).old:=a2;have a3:(cW3 h s k).T=(cW2 h s).T:=a3;have a4:(cW3 h s k).Q=(cW2 h s).Q:=a4;have fl:FL (cW3 h s k) (cW4 h s k).heap.W (cW3 h s k).old.length:=ZfR ck.f3 ck.i3 (cW3 h s k).old.length (Lt _);have tf:∀ x,Z61 (cW3 h s k) x↔Z61 (cW2 h s) x:=λx=>by
    unfold Z61 Z0K;rw[a1,a3,a4]
   have hcc:=ki.c;have hpl:=ki.pl;have hwl:=ki.wl;have w4:(cW4 h s k).heap.W.length=h.W.length:=by
    have:=fl.l;rw[a1]at this;exact this.trans hwl
   have fw:=ZcB (c:=h.C) (s:=(cW2 h s).heap.S) (l:=(cW2 h s).heap.P) (ws:=(cW4 h s k).heap.W) oq (by rw[w4,hpl,po.2.2.2.2.2.2.2.1];exact po.2.2.2.2.2.1) (cW2 h s).heap.P.length (Lt _);have e5:(Z1p (cW4 h s k)).heap.W=Z2i h.C.pw (cW2 h s).heap.S (cW2 h s).heap.P (cW4 h s k).heap.W (cW2 h s).heap.P.length:=by
    simp only[Z1p,g1,g2,g3]
   have ce:CE h T tq (cW2 h s) (cW4 h s k).heap.W (Z1p (cW4 h s k)).heap.W:=by
    refine⟨g,ki,ck.i2,ck.w2.sp,pr.tab.pt,pr.tab.tk,sd.1,sd.2, ?_, ?_, ?_, ?_, ?_⟩
    .intro a;rcases fl.s a with q | ⟨x,hx,q1,q2,q3,q4⟩
     .refine Li ?_;rw[a1]at q;exact q
     .refine Ll ⟨x,a2▸hx,(tf x).1 q1,q2, ?_, ?_⟩
      .rw[a1]at q3;exact q3
      .rw[a1]at q4;exact q4
    .intro x hx hf a h1 h2;obtain⟨j,j1,j2⟩:=getD_mem_iff.1 hx;have:=fl.f j (by rw[a2];exact j1);rw[a2,a1,j2]at this;exact this ((tf x).2 hf) a h1 h2
    .rw[w4,hwl]
    .rw[e5,fw.1,w4,hwl]
    .intro i o hi h0 ho;have:=fw.2 i o oq h0 ho;rw[e5];show loadA _ (4096+(i:Int)*h.C.pw+o)=_;rw[this];by_cases q:Z2g (cW2 h s).heap.S ((cW2 h s).heap.P.getD i M)
     .rw[if_pos ⟨by omega,q⟩,if_pos q]
     .rw[if_neg (λc=>q c.2),if_neg q];rfl
   have eh:endH (cW5 h s k)=⟨(cW2 h s).heap.C,(Z1p (cW4 h s k)).heap.W,(cW2 h s).heap.P.map (Z1e (cW2 h s).heap.S),1-(cW2 h s).heap.S,(endH (cW5 h s k)).B⟩:=by
    unfold endH cW5;simp only[Z1p,g1,g2,g3,hcc]
   rw[eh]at pr1 ⊢;have gd:=ce.good pr1;have seen:∀ x,ToOk (cW2 h s) x->x=0\/Ob ⟨(cW2 h s).heap.C,(Z1p (cW4 h s k)).heap.W,(cW2 h s).heap.P.map (Z1e (cW2 h s).heap.S),1-(cW2 h s).heap.S,(endH (cW5 h s k)).B⟩ (tE T tq (cW2 h s)) x:=by
    intro x hx;rcases hx with q | q
    .exact Li q
    .obtain⟨i,hi⟩:=ce.where' q;exact Ll ⟨i,hi,(ce.start hi).2.2 q⟩
   refine⟨tE T tq (cW2 h s),gd,λx hx=>seen x ?_,λx hx=>seen x ?_⟩
   .have hbg:=Z37 hw hp;have hib:=Z38 hp;have pr0:PR B (beginW h):=⟨Z5f hp hb,Z83 hp⟩
    have hall:=Z3x (roots:=s) hbg hib e1;have ax:=Zb5 hall.1 hall.2.1 e2;have:ToOk (rootsF (beginW h) s).1 x:=by
     unfold rootsF at e1 hx ⊢;cases hbb:(Lf s.length).find? (λk=>Lb (Z1f (beginW h) s k≠0))with
     | none =>
      rw[hbb]at hx;have h0:∀ j,j<s.length->Z1f (beginW h) s j=0:=λj hj=>by
       have:=Lp.1 hbb j (Lg.2 hj);simpa using this
      exact Z9c hB hbg hib pr0 s.length h0 x hx
     | some k =>
      rw[hbb]at e1;simp only at e1;have:=(Lq.1 hbb).1;simp[e1]at this
    rcases this with q | q
    .exact Li q
    .exact Ll (ax.2.q x q)
   .have:∀ i,i<=k.length->∀ x∈Z3G (cW2 h s) k i,ToOk (cW2 h s) x:=by
     intro i;induction i with
     | zero=>intro _ x hx;simp[Z3G]at hx
     | succ i ih =>
      intro hi' x hx;simp only[Z3G,LB,LG]at hx;rcases hx with hx | rfl
      .exact ih oq x hx
      .have hsi:=Z4I (cW2 h s) k i;unfold Z6H;split
       .exact Li rfl
       .rename_i hne;unfold Z1D;rw[hsi.2.2.2.1,hsi.1];split
        .rename_i hq;exact Ll hq
        .cases ht:(Z08 (loadA (cW2 h s).heap.W (k.getD i M)).1).2 with
         | true =>
          refine Ll (pr.rt.t _ ?_ ht);rw[ki.old];rcases hk _ (getD_mem_iff.2 ⟨i,by omega,rfl⟩)with q | q
          .exact absurd q hne
          .exact q
         | false =>
          refine Li ?_;unfold Z08 at ht ⊢;split at ht
          .simp at ht
          .rename_i hcc2;rw[if_neg hcc2]
    exact this k.length (Lt _) x hx
  .rw[collectF,if_pos hp,if_pos ⟨hr,hr'⟩,if_pos e1,if_neg e2]at e;exact absurd e e2
 .rw[collectF,if_pos hp,if_pos ⟨hr,hr'⟩,if_neg e1]at e;exact absurd e e1
def WG.collect{w:WorldM}{n:Nat}(h:WG w)(hm:MOk w n):WG w.collect:=by
 unfold WorldM.collect;split
 .rename_i e;obtain⟨T,g,g1,g2⟩:=h;exact Zgx (B:=n) oq g hm.W (λp hp=>(hm.pin_mem p hp).2) g1 g2 e
 .exact h
def WG.step{w:WorldM}{n:Nat}(h:WG w)(hm:MOk w n)(hn:n<=1000000)(t:Tape):WG (w.step t):=by
 unfold WorldM.step;repeat' split
 .exact h.put hm.W (Z4m _ _)
 .exact h.link hm hn _
 .exact h.pin hm hn _
 .exact h.drop _
 .exact h.collect hm
 .exact h.dup _
def ZhT{w:WorldM}{n:Nat}(h:WG w)(hm:MOk w n)(t:Tape):∀ k,n+k<=1000000->WG (mkS w t k).1
 | 0,_=>h
 | k+1,hk=>(ZhT h hm t k oq).step (ZaL hm t k oq) oq _
def Zgh(l:List Int):WG (Z0g l):=by
 have e:=Z5K l;have hl:(((Z3b l).step 4).step 5).l.length<=300:=by rw[e.1];simp;omega
 have hk:=ZcP (Z3b l).empty (((Z3b l).step 4).step 5) oq;exact ZhT (ZbX (Z3b l)) (Z8h (Z3b l)) _ _ oq
def ZgR(l:List Int):Z0D (Z0g l).heap=⟨0,0,0⟩/\Z0k (Z0g l).heap (Z0g l).G=O/\Z0k (Z0g l).heap (Z0g l).E=O:=by
 obtain⟨T,g,g1,g2⟩:=Zgh l;exact⟨g.good,g.refers g1,g.refers g2⟩
def Z4b(l:List Page):sumP nzP l=Z1x l:=by
 rw[Z1G];unfold Z1x;have:∀ n,((Lf n).map λi=>nzP (l.getD i M)).sum=Z1I l n:=by
  intro n;induction n with
  | zero=>simp[Z1I]
  | succ n ih =>
   have hpa:Z1h l n=l.getD n M:=by rw[Z3Q];simp
   rw[LV,LC,Xg,ih,Z1I,hpa];simp only[Lr,Xd,Ls,Xh,nzP];split<;>simp
 exact this _
def ZpM{pw:Int}:∀ {l:List Page},(∀ p∈l,usP p+lgP p*pw<=nzP p*pw)->sumP usP l+sumP lgP l*pw<=sumP nzP l*pw
 | [],_=>by simp[sumP]
 | x::l,h=>by
  have h1:=ZpM (l:=l) λp hp=>h p (LL _ hp);have h2:=h x pq;simp only[sumP,Lr,Ls,LO]at h1 h2 ⊢;omega
def Zcv{h:Heap}(hp:Z02 h=O):0<=sumP usP h.P:=Z2U λp hq=>by
 obtain⟨j,hj,rfl⟩:=LU hq;have pp:=Z0I hp hj;rw[Le,Lu hj,Lv]at pp;unfold usP;split<;>omega
def Zkb(l:List Page):0<=sumP lgP l:=Z2U λp _=>by unfold lgP;split<;>omega
def MV.few{h:Heap}(hp:Z02 h=O)(hn:(Z1x h.P:Int)<=h.C.pg/4):MV h:=by
 have po:=Z06 hp;rw[<- Z4b]at hn;have u0:=Zcv hp;have l0:=Zkb h.P;refine⟨?_,0,by omega,by omega⟩;have:=ZpM (pw:=h.C.pw) (l:=h.P) λp hq=>by
  obtain⟨j,hj,rfl⟩:=LU hq;have pp:=Z0I hp hj;rw[Le,Lu hj,Lv]at pp;unfold usP lgP nzP;split
  .rename_i k;rw[if_neg oq,if_neg oq];omega
  .split
   .rw[if_neg oq];omega
   .split<;>omega
 have:=LD hn (show 0<=h.C.pw by omega);omega
def MV.same{h h':Heap}(m:MV h)(hc:h'.C=h.C)(hl:h'.P.length=h.P.length)(hk:∀ i,i<h.P.length->(h'.P.getD i M).K=(h.P.getD i M).K/\(h'.P.getD i M).U=(h.P.getD i M).U):MV h':=by
 have e1:sumP usP h'.P=sumP usP h.P:=Z2Q usP hl λi hi=>by unfold usP;rw[(hk i hi).1,(hk i hi).2]
 have e2:sumP nzP h'.P=sumP nzP h.P:=Z2Q nzP hl λi hi=>by unfold nzP;rw[(hk i hi).1]
 have e3:sumP lgP h'.P=sumP lgP h.P:=Z2Q lgP hl λi hi=>by unfold lgP;rw[(hk i hi).1]
 refine⟨by rw[e1,e3,hc];exact m.v, ?_⟩;rw[e1,e2,e3,hc];exact m.n
def ZpZ{l m:List Page}{i:Nat}(h:i+m.length<=l.length):∀ k,k<=m.length->sumP nzP (wr l m i k)<=sumP nzP l+k
 | 0,_=>by rw[Z7x];simp
 | k+1,hk=>by
  have ih:=ZpZ h k oq;have e:=Z8s h oq (M:Page) (k:=k);rw[<- e];have s:=Z5z nzP (m.getD k M) (wr l m i k) (i+k) (by rw[Z4p h oq];omega);have r1:∀ p:Page,0<=nzP p/\nzP p<=1:=λp=>by unfold nzP;split<;>omega
  have:=r1 (m.getD k M);have:=r1 ((wr l m i k).getD (i+k) M);omega
def Zoy{l:List Page}{i k:Nat}{p q:Page}(hk:1<=k)(h:i+k<=l.length)(hq:q.K≠0):sumP nzP (tookP l i k p q)<=sumP nzP l+k:=by
 have h':i+(Lh k q).length<=l.length:=by simpa using h
 have w:=ZpZ h' k pq;have s:=Z5z nzP p (wr l (Lh k q) i k) i (by rw[Z4p h' pq];omega);have g:(wr l (Lh k q) i k).getD i M=q:=by
  rw[Le,Z94 h' pq,if_neg oq,if_pos oq,Xx,LS,if_pos oq];rfl
 rw[g]at s;have:nzP q=1:=by unfold nzP;rw[if_neg hq]
 have:nzP p<=1:=by unfold nzP;split<;>omega
 unfold tookP;omega
def ZlX{h:Heap}{hd:Header}(hp:Z02 h=O)(hc:(put7 h hd).2.2=O):(Z1x (put7 h hd).1.P:Int)<=h.C.pg/4:=by
 have po:=Z06 hp;have hv:=validB_iff.1 po.1;have li:Z2m h.C=h.C.pg/4:=by rw[Z2m,if_pos po.1,Z50 oq]
 unfold put7 at hc ⊢;split at hc
 .rename_i c;rw[if_pos c];unfold Z0y at hc ⊢;split at hc
  .rename_i c2;rw[if_pos c2];have ff:=Z1m c2.1;rw[<- Z4b];simp only;have e:(Z2x h.C h.P (first h.P (need h.C (sizeH hd))) h.S (sizeH hd)).1=tookP h.P (first h.P (need h.C (sizeH hd))).toNat (need h.C (sizeH hd)).toNat ⟨2,h.S,sizeH hd,0⟩ ⟨3,h.S,0,0⟩:=by
    unfold Z2x Z2Z;rw[if_pos oq,if_pos oq,if_pos ff.2.2]
   rw[e];have:=Zoy (l:=h.P) (i:=(first h.P (need h.C (sizeH hd))).toNat) (k:=(need h.C (sizeH hd)).toNat) (p:=⟨2,h.S,sizeH hd,0⟩) (q:=⟨3,h.S,0,0⟩) oq oq pq;rw[Z4b h.P]at this;omega
  .simp at hc
 .rename_i c;rw[if_neg c];unfold Z0j at hc ⊢;split at hc
  .rename_i c2;rw[if_pos c2];rw[<- Z4b];simp only;have e:sumP nzP (Z1B h.P h.B.toNat (sizeH hd))=sumP nzP h.P:=Z2Q nzP (by simp[Z1B]) λi hi=>by
    rw[Z3q];by_cases hb:h.B.toNat<h.P.length
    .rw[Z0o hb];split
     .rename_i q;rw[<- q];rfl
     .rfl
    .rw[Xw oq]
   rw[e,Z4b];have:=c2.2.2.2;omega
  .rename_i c2;rw[if_neg c2];split at hc
   .rename_i c3;rw[if_pos c3];obtain⟨g1,g2,g3⟩:=Z2X po.2.2.2.2.2.2.2.2 c3.1 (sizeH hd);rw[<- Z4b];simp only;rw[g1];have s:=Z5z nzP ⟨1,h.S,sizeH hd,0⟩ h.P (first h.P 1).toNat g3;have z1:nzP ⟨1,h.S,sizeH hd,0⟩=1:=rfl;have z0:0<=nzP (h.P.getD (first h.P 1).toNat M):=by unfold nzP;split<;>omega
    rw[Z4b h.P]at s;omega
   .simp at hc
def MV.put{w:WorldM}(m:MV w.heap)(hw:WOk w.heap.W){hd:Header}(hm:0<=hd.map/\hd.map<=4294967295):MV (w.put hd).heap:=by
 unfold WorldM.put;split
 .rename_i e;obtain⟨k1,k2,k3,k4,k5,k6,k7,k8⟩:=Zbb hw hm e;have f:=ZlX k1 k4;refine MV.few k7 ?_;rw[k6];simp only;rw[k3.c];exact f
 .exact m
def MV.setf{h:Heap}{a i v:Int}(m:MV h)(hw:WOk h.W)(hv:0<=v/\v<=18446744073709551615)(e:(getH h a).2=0)(hi:0<=i/\i<(getH h a).1.length):MV (Z0A h a i v).1:=by
 obtain⟨s1,s2,s3⟩:=Z4H hw hv (a:=a) (i:=i) e hi;rw[s1];exact m.same rfl rfl λ_ _=>⟨rfl,rfl⟩
def MV.link{w:WorldM}{n:Nat}(m:MV w.heap)(hm:MOk w n)(hn:n<=1000000)(t:Tape):MV (w.link t).heap:=by
 unfold WorldM.link;split
 .rename_i hc;have hw:=hm.wm hn;have n1:=Z0R (w.pickT (w.pickT t)) (n:=8) dd;have gg:=Z3W hc.1;have hi:0<=Z4g w t/\Z4g w t<(getH w.heap (w.pick t)).1.length:=by
   unfold Z4g;rw[L4 n1.1];exact⟨L3 _ oq,L2 _ oq⟩
  have hv:0<=Z4o w t/\Z4o w t<=18446744073709551615:=by
   unfold Z4o;split
   .exact Z2S hw _
   .have:=Z0R ((w.pickT (w.pickT t)).step 8) (n:=1048576) dd;omega
  exact m.setf hm.W hv hc.1 hi
 .exact m
def MV.pinB{w:WorldM}(m:MV w.heap)(i:Nat)(d:Int):MV (Go.Proofs.YtdhchmlalchgeaaGreat.pinB w i d).heap:=by
 refine m.same rfl (by simp[Go.Proofs.YtdhchmlalchgeaaGreat.pinB]) λj hj=>?_;simp only[Go.Proofs.YtdhchmlalchgeaaGreat.pinB];by_cases hi:i<w.heap.P.length
 .rw[Z0o hi];split
  .rename_i q;subst q;exact⟨rfl,rfl⟩
  .exact⟨rfl,rfl⟩
 .rw[Xw oq];exact⟨rfl,rfl⟩
def MV.pin{w:WorldM}(m:MV w.heap)(t:Tape):MV (w.pin t).heap:=by
 unfold WorldM.pin;repeat' split
 .exact m.pinB _ _
 .exact m.pinB _ _
 .exact m
 .exact m
def MV.drop{w:WorldM}(m:MV w.heap)(t:Tape):MV (w.drop t).heap:=by
 unfold WorldM.drop;split
 .exact m
 .exact m
def MI.in1{h:Heap}{T tq:Nat->List Int}(g:Gd h T){w:Work}(m:MI h T w)(k:KI h T tq w)(mv:MV h)(hw:WkOk w)(hi:CIv w){q j:Int}(hq:q∈w.Q)(hj:0<=j/\j<hlA w.heap.W q)(e:(w.fwd (loadA w.heap.W (q+1+j)).1).2.2=0):MI h T (w.in1 (q+1+j)):=by
 obtain⟨tq',k'⟩:=k.fwd g hw hi _ e;have m':=m.fwd g k hw mv hi e;obtain⟨i1,x1⟩:=Z4B hw hi _ e;have hq1:=x1.q q hq;have hl1:=x1.l q hq;have hr:=i1.r q (Lm _ hq1);have hin:4096<=q+1+j/\q+1+j<4096+(w.fwd (loadA w.heap.W (q+1+j)).1).1.heap.W.length:=by omega
 obtain⟨f1,f2,f3⟩:=k'.field g hq1 (j:=j) oq;have er:Z5W h T (w.in1 (q+1+j))<=Z5W h T (w.fwd (loadA w.heap.W (q+1+j)).1).1:=by
  refine Z4z λi _=>?_;unfold Z9v;split
  .refine Z4z λx hx=>?_;unfold wtW;rw[show(w.in1 (q+1+j)).heap.W=(Z0L (w.fwd (loadA w.heap.W (q+1+j)).1).1.heap.W (q+1+j) (w.fwd (loadA w.heap.W (q+1+j)).1).2.1).1 from rfl,Z0w hin (f1 i x hx)];exact Lx _
  .exact Lx _
 have m3:=m'.m3;exact⟨m'.m0,m'.m1,m'.m2,by show sumP usP (w.fwd (loadA w.heap.W (q+1+j)).1).1.heap.P+_<=_;omega,m'.m4,m'.m5⟩
def ZpK{h:Heap}{T:Nat->List Int}(g:Gd h T)(mv:MV h){s:List Int}(hw:WOk h.W)(e:(rootsF (beginW h) s).2.2=0)(e2:(allF (rootsF (beginW h) s).1).2=0):(∃ tq,KI h T tq (cW2 h s))/\MI h T (cW2 h s) :=
 Zmg (λw=>(∃ tq,KI h T tq w)/\MI h T w) (λw r hw hi ⟨⟨_,k⟩,m⟩ e=>⟨k.fwd g hw hi r e,m.fwd g k hw mv hi e⟩) (λw q j hw hi ⟨⟨_,k⟩,m⟩ hq h0 h1 e=>⟨k.in1 g hw hi hq ⟨h0,h1⟩ e,m.in1 g k mv hw hi hq ⟨h0,h1⟩ e⟩)
  (λw n ⟨⟨tq,k⟩,m⟩=>⟨⟨tq,k.c,k.sp,k.old,k.pl,k.wl,k.pg,k.tk,k.tk0,k.q,k.hd,k.dt,k.lg⟩,⟨m.m0,m.m1,m.m2,m.m3,m.m4,m.m5⟩⟩) hw g.p ⟨⟨_,KI.begin g⟩,MI.begin g⟩ e e2
def Z7r{α:Type}{f g:α->Int}:∀ l:List α,(l.map λx=>f x+g x).sum=(l.map f).sum+(l.map g).sum
 | []=>by simp
 | x::l=>by
  simp only[Lr,Ls,Z7r l];omega
def crP(p:Page):Int:=if p.K=1/\0<p.N then 1 else 0
def Zjq(l:List Page):sumP crP l=crowd l:=by
 rw[Z1G];unfold crowd;have:∀ n,((Lf n).map λi=>crP (l.getD i M)).sum=Z0x l n:=by
  intro n;induction n with
  | zero=>simp[Z0x]
  | succ n ih =>
   rw[LV,LC,Xg,ih,Z0x];simp only[Lr,Xd,Ls,Xh,crP];split<;>simp
 exact this _
def Z6O{f:Page->Int}{q:Page->Page}(l:List Page):sumP f (l.map q)=((Lf l.length).map λi=>f (q (l.getD i M))).sum:=by
 rw[Z1G,LA];congr 1;refine List.map_congr_left λi hi=>?_;have hi:=Lg.1 hi;simp[Le,hi]
def MI.end{h:Heap}{T tq:Nat->List Int}(g:Gd h T){w:Work}(m:MI h T w)(k:KI h T tq w)(mv:MV h)(hw:WkOk w)(ts:∀ x∈w.T,(w.heap.P.getD x.toNat M).S=1-w.heap.S){h':Heap}(hc:h'.C=h.C)(hpg:h'.P=w.heap.P.map (Z1e w.heap.S)):MV h':=by
 have hl:=m.m0.1;have sp:=hw.sp;have po:=Z06 g.p;have page:∀ i,i<h.P.length->((i:Int)∈w.T/\(h.P.getD i M).K=0/\(w.heap.P.getD i M).K=1/\(w.heap.P.getD i M).S=1-w.heap.S)\/((w.heap.P.getD i M).K=(h.P.getD i M).K/\(w.heap.P.getD i M).U=(h.P.getD i M).U/\((h.P.getD i M).K=1->((w.heap.P.getD i M).S=w.heap.S↔¬ 0<(h.P.getD i M).N))):=by
  intro i hi;by_cases c:(i:Int)∈w.T
  .have t:=k.tk i c;have:=ts _ c;rw[Lz]at this;exact Li ⟨c,t.2.1,t.2.2.1,this⟩
  .have q:=k.pg i c;exact Ll ⟨q.1,q.2.1,m.m5 i hi⟩
 have usr:∀ i,i<h.P.length->0<=(w.heap.P.getD i M).U/\0<=(h.P.getD i M).U:=λi hi=>by
  have a:=hw.us i oq;have b:=Z0I g.p hi;omega
 have q0:(⟨0,0,0,0⟩:Page).K=0:=rfl;have e1:sumP usP h'.P+sumP unP h.P<=sumP usP w.heap.P:=by
  rw[hpg,Z6O,Z1G unP,Z1G usP,<- hl,<- Z7r];refine Z4z λi hi=>?_;have hi:=Lg.1 hi;have p:=page i oq;have u:=usr i oq;by_cases gq:Z2g w.heap.S (w.heap.P.getD i M)
  .rw[Z1e,if_pos gq];unfold Z2g at gq;unfold usP unP;repeat' split
   all_goals (try simp only at *)
   all_goals omega
  .rw[Z1e,if_neg gq];unfold Z2g at gq;unfold usP unP;repeat' split
   all_goals omega
 have e2:sumP usP w.heap.P<=sumP usP h'.P+sumP usP h.P:=by
  rw[hpg,Z6O,Z1G usP h.P,Z1G usP,<- hl,<- Z7r];refine Z4z λi hi=>?_;have hi:=Lg.1 hi;have p:=page i oq;have u:=usr i oq;by_cases gq:Z2g w.heap.S (w.heap.P.getD i M)
  .rw[Z1e,if_pos gq];unfold Z2g at gq;unfold usP;repeat' split
   all_goals (try simp only at *)
   all_goals omega
  .rw[Z1e,if_neg gq];unfold Z2g at gq;unfold usP;repeat' split
   all_goals omega
 have e3:sumP lgP h'.P<=sumP lgP h.P:=by
  rw[hpg,Z6O,Z1G lgP h.P,<- hl];refine Z4z λi hi=>?_;have hi:=Lg.1 hi;have p:=page i oq;by_cases gq:Z2g w.heap.S (w.heap.P.getD i M)
  .rw[Z1e,if_pos gq];unfold Z2g at gq;unfold lgP;repeat' split
   all_goals (try simp only at *)
   all_goals omega
  .rw[Z1e,if_neg gq];unfold Z2g at gq;unfold lgP;repeat' split
   all_goals omega
 have e4:sumP nzP h'.P+sumP nzP h.P<=sumP nzP w.heap.P+(sumP lgP h'.P+sumP crP h.P):=by
  rw[hpg,Z6O,Z6O,Z1G nzP h.P,Z1G nzP,Z1G crP,<- hl,<- Z7r,<- Z7r,<- Z7r];refine Z4z λi hi=>?_;have hi:=Lg.1 hi;have p:=page i oq;have kr:0<=(h.P.getD i M).K/\(h.P.getD i M).K<=3:=by
   have:=Z0I g.p (show i<h.P.length by omega);omega
  by_cases gq:Z2g w.heap.S (w.heap.P.getD i M)
  .rw[Z1e,if_pos gq];unfold Z2g at gq;unfold nzP lgP crP;repeat' split
   all_goals (try simp only at *)
   all_goals omega
  .rw[Z1e,if_neg gq];unfold Z2g at gq;unfold nzP lgP crP;repeat' split
   all_goals omega
 have cr:=g.cr;rw[<- Zjq]at cr;have m1:=m.m1;have m3:=m.m3;have m4:=m.m4;have r:=Zef h T w;have v:=mv.v;have u0:=Zcv g.p;have hpw:0<=h.C.pw:=by omega
 refine⟨?_,w.T.length,by rw[hc];omega, ?_⟩
 .rw[hc];have:=LD e3 hpw;omega
 .rw[hc];by_cases z:0<w.T.length
  .have m2:=m.m2 z;have:=hw.us (Z0n w).toNat (by have:=hw.tk _ (Z18 z);omega)
   omega
  .have:w.T.length=0:=by omega
   rw[this];simp only[Int.natCast_zero,Int.zero_sub];have:0<=sumP usP h'.P:=by
    have:sumP unP h.P<=sumP usP h.P:=Z4z λp hp=>by
     obtain⟨j,hj,rfl⟩:=LU hp;have pp:=Z0I g.p hj;rw[Le,Lu hj,Lv]at pp;unfold unP usP;split
     .rename_i c;rw[if_pos c.1];omega
     .split<;>omega
    omega
   omega
def MV.collectF{B:Int}(hB:0<=B){h:Heap}{T:Nat->List Int}(g:Gd h T)(mv:MV h){s k:List Int}(hw:WOk h.W)(hb:∀ p∈h.P,p.N<=B)(hs:RtOb h T s)(hk:RtOb h T k)(e:(Go.Proofs.YtdhchmlalchgeaaGreat.collectF h s k).2.2.2.2=0):MV (Go.Proofs.YtdhchmlalchgeaaGreat.collectF h s k).1:=by
 have hp:=g.p;have hr:=g.refers hs;have hr':=g.refers hk;by_cases e1:(rootsF (beginW h) s).2.2=0
 .by_cases e2:(allF (rootsF (beginW h) s).1).2=0
  .have e7:Go.Proofs.YtdhchmlalchgeaaGreat.collectF h s k=(endH (cW5 h s k),(rootsF (beginW h) s).2.1,Z3G (cW2 h s) k k.length,(cW5 h s k).rep,0):=by rw[Go.Proofs.YtdhchmlalchgeaaGreat.collectF,if_pos hp,if_pos ⟨hr,hr'⟩,if_pos e1,if_pos e2]
   rw[e7];have ck:=cOk h s k hw hp e1 e2;obtain⟨g1,g2,g3,g4,g5⟩:=ck.h4;have pr:=Zjs hB hw hp hb e1 e2;obtain⟨⟨tq,ki⟩,mi⟩:=ZpK g mv hw e1 e2;refine mi.end g ki mv ck.w2 pr.tab.tk (h':=endH (cW5 h s k)) ?_ ?_
   .unfold endH cW5;simp only[Z1p,g1]
   .unfold endH cW5;simp only[Z1p,g2,g3]
  .rw[Go.Proofs.YtdhchmlalchgeaaGreat.collectF,if_pos hp,if_pos ⟨hr,hr'⟩,if_pos e1,if_neg e2]at e;exact absurd e e2
 .rw[Go.Proofs.YtdhchmlalchgeaaGreat.collectF,if_pos hp,if_pos ⟨hr,hr'⟩,if_neg e1]at e;exact absurd e e1
def MV.collect{w:WorldM}{n:Nat}(m:MV w.heap)(h:WG w)(hm:MOk w n):MV w.collect.heap:=by
 unfold WorldM.collect;split
 .rename_i e;obtain⟨T,g,g1,g2⟩:=h;exact MV.collectF (B:=n) oq g m hm.W (λp hp=>(hm.pin_mem p hp).2) g1 g2 e
 .exact m
def MV.step{w:WorldM}{n:Nat}(m:MV w.heap)(h:WG w)(hm:MOk w n)(hn:n<=1000000)(t:Tape):MV (w.step t).heap:=by
 unfold WorldM.step;repeat' split
 .exact m.put hm.W (Z4m _ _)
 .exact m.link hm hn _
 .exact m.pin _
 .exact m.drop _
 .exact m.collect h hm
 .exact m
def ZmS{w:WorldM}{n:Nat}(m:MV w.heap)(h:WG w)(hm:MOk w n)(t:Tape):∀ k,n+k<=1000000->MV (mkS w t k).1.heap
 | 0,_=>m
 | k+1,hk=>(ZmS m h hm t k oq).step (ZhT h hm t k oq) (ZaL hm t k oq) oq _
def ZlD(l:List Int):MV (Z0g l).heap:=by
 have e:=Z5K l;have hl:(((Z3b l).step 4).step 5).l.length<=300:=by rw[e.1];simp;omega
 have hk:=ZcP (Z3b l).empty (((Z3b l).step 4).step 5) oq;obtain⟨_,ge,_⟩:=ZbX (Z3b l);have hp:=ge.p;refine ZmS (MV.few hp ?_) (ZbX (Z3b l)) (Z8h (Z3b l)) _ _ oq;have hv:=validB_iff.1 (Z06 hp).1;have z:sumP nzP (Z3b l).empty.heap.P=0:=by simp[sumP,Tape.empty,Z32,nzP]
 rw[Z4b]at z;omega
def ZcS{w:Int}(h:(decodeH w).2=O):(Z08 w).2=Lc:=by
 unfold decodeH at h;split at h
 .rename_i c;unfold Z0c at c;split at c
  .simp only at c;unfold Z08;rw[if_neg oq]
  .simp at c
 .cases h
structure OnW (h:Heap) (T:Nat->List Int) (w:Work):Prop where
 c:Col h T w
 m:MI h T w
 q:∀ y∈w.old,Z3H w y≠0->Z3H w y∈w.Q
 z:∀ y∈w.old,Z3H w y=0->y∉w.Q/\(Z08 (loadA w.heap.W y).1).2=Lc
 n:w.rep.copied+w.rep.kept=w.Q.length
def Zaz{h:Heap}{T:Nat->List Int}(g:Gd h T){y:Int}(hy:y∈(beginW h).old):Z3H (beginW h) y=0/\(Z08 (loadA h.W y).1).2=Lc:=by
 obtain⟨i,hi,hk⟩:=((KI.begin g).old y).1 hy;have t:=ZcS (g.on hi).2.2.2.2.2.1;refine⟨?_,t⟩;unfold Z3H;rw[if_neg (by simp[beginW]),if_neg (by show ¬ (Z08 (loadA h.W y).1).2=O;rw[t];simp)]
def OnW.begin{h:Heap}{T:Nat->List Int}(g:Gd h T)(hw:WOk h.W):OnW h T (beginW h) :=
 ⟨Col.begin g hw,MI.begin g,λy hy q=>absurd (Zaz g hy).1 q,λy hy _=>⟨by simp[beginW],(Zaz g hy).2⟩,rfl⟩
section
variable {h:Heap} {T:Nat->List Int} {w:Work} (o:OnW h T w) (g:Gd h T) (mv:MV h) {r:Int} (hr:r∈w.old)
include o g mv hr
theorem OnW.new(hs:Z3H w r=0):∃ i0,r∈T i0/\(w.fwd r).2.2=0/\NewF h T w r i0 (w.fwd r).1 (w.fwd r).2.1:=by
 obtain⟨tq,k⟩:=o.c.k;obtain⟨i0,hx,hk⟩:=(k.old r).1 hr;have z:=o.z r hr hs;exact⟨i0,hx,ZoI g o.m k o.c.ok mv hx hk z.1 z.2⟩
theorem OnW.ok:(w.fwd r).2.2=0:=by
 obtain⟨tq,k⟩:=o.c.k;exact o.m.fwd_ok g k o.c.ok mv o.c.inv (.inr (.inr hr))
theorem OnW.same(hs:Z3H w r≠0):w.fwd r=(w,Z3H w r,0):=by
 unfold Work.fwd Z3H at *;split at hs
 .rename_i q;rw[if_pos (.inr q),if_pos q]
 .rename_i q;split at hs
  .rename_i q2;obtain⟨tq,k⟩:=o.c.k;obtain⟨i0,hx,hk⟩:=(k.old r).1 hr;have:=g.inw hx;have c:¬ (r=0\/r∈w.Q):=by
    rintro(c | c)
    .omega
    .exact q c
   rw[if_neg c,if_neg (by simpa using hr),if_pos q2,if_neg q,if_pos q2]
  .exact absurd rfl hs
theorem OnW.seen:(w.fwd r).2.1≠0/\Z3H (w.fwd r).1 r=(w.fwd r).2.1/\(∀ y∈w.old,y≠r->Z3H (w.fwd r).1 y=Z3H w y)/\(w.fwd r).1.old=w.old /\
  ((w.fwd r).1.Q.length:Int)=w.Q.length+(if Z3H w r=0 then 1 else 0):=by
 by_cases hs:Z3H w r=0
 .obtain⟨i0,hx,e,N⟩:=o.new g mv hr hs;have z:=o.z r hr hs;have b:=N.b;obtain⟨tq,k⟩:=o.c.k;refine⟨by omega, ?_,λy hy hne=>?_,N.o,by rw[if_pos hs,N.q];simp⟩
  .unfold Z3H;rw[N.q];by_cases q:(w.fwd r).2.1=r
   .rw[if_pos (by rw[q];simp)];exact q.symm
   .rw[if_neg (by simp only[LB,LG];rintro(c | c);exact z.1 c;exact q c.symm),N.c q];simp
  .obtain⟨j,hj,_⟩:=(k.old y).1 hy;have t:=N.t j y hj hne;unfold Z3H;rw[N.q,t.2];have:(y∈w.Q++[(w.fwd r).2.1])↔y∈w.Q:=by
    simp only[LB,LG];exact⟨λc=>c.elim id λc=>absurd c.symm t.1,.inl⟩
   simp only[this]
 .rw[o.same g mv hr hs];exact⟨hs,rfl,λ_ _ _=>rfl,rfl,by rw[if_neg hs];simp⟩
theorem OnW.fwd:OnW h T (w.fwd r).1:=by
 by_cases hs:Z3H w r=0
 .obtain⟨i0,hx,e,N⟩:=o.new g mv hr hs;obtain⟨s1,s2,s3,s4,s5⟩:=o.seen g mv hr;obtain⟨tq,k⟩:=o.c.k;refine⟨o.c.fwd g e,o.m.fwd g k o.c.ok mv o.c.inv e,λy hy hne=>?_,λy hy h0=>?_,by rw[N.n,o.n,N.q];simp⟩
  .rw[s4]at hy;rw[N.q];by_cases q:y=r
   .subst q;rw[s2];simp
   .rw[s3 y hy q]at hne ⊢;exact Lj _ (o.q y hy hne)
  .rw[s4]at hy;by_cases q:y=r
   .subst q;rw[s2]at h0;exact absurd h0 s1
   .rw[s3 y hy q]at h0;have z:=o.z y hy h0;obtain⟨j,hj,_⟩:=(k.old y).1 hy;have t:=N.t j y hj q;rw[N.q,t.2];refine⟨?_,z.2⟩;simp only[LB,LG];rintro(c | c)
    .exact z.1 c
    .exact t.1 c.symm
 .rw[o.same g mv hr hs];exact o
end
def AF(w:Work):Prop:=∀ x∈w.old++w.Q,(Z08 (loadA w.heap.W x).1).2=Lc->∀ j,0<=j->j<hlA w.heap.W x->Z0d (hdA w.heap.W x) j=O->(loadA w.heap.W (x+1+j)).1=0\/(loadA w.heap.W (x+1+j)).1∈w.old++w.Q
structure SW (h:Heap) (T:Nat->List Int) (w:Work):Prop where
 o:OnW h T w
 a:AF w
def SW.begin{h:Heap}{T:Nat->List Int}(g:Gd h T)(hw:WOk h.W):SW h T (beginW h):=by
 refine⟨OnW.begin g hw,λx hx ht j h0 h1 hp=>?_⟩;have hx':x∈(beginW h).old:=by simpa[beginW]using hx
 obtain⟨i,hi,hk⟩:=((KI.begin g).old x).1 hx';refine(g.q i x j hi hk h0 h1 hp).imp id λ⟨k,h2,h3⟩=>?_;exact Lj _ (((KI.begin g).old _).2 ⟨k,h2,h3⟩)
section
variable {h:Heap} {T:Nat->List Int} {w:Work} (s:SW h T w) (g:Gd h T) (mv:MV h)
include s g mv
theorem SW.fwd{r:Int}(hr:r=0\/r∈w.Q\/r∈w.old):(w.fwd r).2.2=0/\SW h T (w.fwd r).1/\ToOk (w.fwd r).1 (w.fwd r).2.1:=by
 by_cases c1:r=0\/r∈w.Q
 .rw[Work.fwd,if_pos c1];exact⟨rfl,s,c1⟩
 have hr:r∈w.old:=(hr.resolve_left λq=>c1 (.inl q)).resolve_left λq=>c1 (.inr q);by_cases hs:Z3H w r=0
 .obtain⟨i0,hx,e,N⟩:=s.o.new g mv hr hs;refine⟨e,⟨s.o.fwd g mv hr, ?_⟩,Ll (by rw[N.q];simp)⟩;obtain⟨tq,k⟩:=s.o.c.k;have z:=s.o.z r hr hs;have same:=(Z6I s.o.c.ok s.o.c.inv r e).2.2;have he:(loadA w.heap.W r).1=(loadA h.W r).1:=by
   rcases k.hd i0 r hx with q | q
   .exact q
   .rw[q.1]at z;cases z.2
  have ehl:hlA w.heap.W r=hlA h.W r:=(Z1Q he).2.1;intro x hm ht j h0 h1 hp;rw[N.o,N.q]at hm ⊢;have more:∀ v,v∈w.old++w.Q->v∈w.old++(w.Q++[(w.fwd r).2.1]):=λv hv=>by
   rw[<- L5];exact Lj _ hv
  by_cases xa:x=(w.fwd r).2.1
  .have e0:=N.x 0 oq (Z0e _ _).1;simp only[L1]at e0;have eh:hdA (w.fwd r).1.heap.W x=hdA w.heap.W r:=by rw[hdA,xa,e0];rfl
   have el:hlA (w.fwd r).1.heap.W x=hlA w.heap.W r:=congrArg Header.length eh;rw[eh]at hp;rw[el]at h1;have ef:=N.x (1+j) oq oq;rw[<- LN,<- LN,<- xa]at ef;rw[ef];exact(s.a r (Lj _ hr) z.2 j h0 h1 hp).imp id (more _)
  .have hm':x∈w.old++w.Q:=by
    simp only[LB,LG]at hm ⊢;rcases hm with q | q | q
    .exact .inl q
    .exact .inr q
    .exact absurd q xa
   by_cases xr:x=r
   .exfalso;have:=N.c λq=>xa (xr.trans q.symm);rw[xr,this]at ht;cases ht
   .have e0:=same x hm' (.inr xr) 0 oq (Z0e _ _).1;rw[L1]at e0;have eh:hdA (w.fwd r).1.heap.W x=hdA w.heap.W x:=by rw[hdA,hdA,e0]
    have el:hlA (w.fwd r).1.heap.W x=hlA w.heap.W x:=congrArg Header.length eh;rw[eh]at hp;rw[el]at h1;rw[e0]at ht;have ef:=same x hm' (.inr xr) (1+j) oq oq;rw[<- LN]at ef;rw[ef];exact(s.a x hm' ht j h0 h1 hp).imp id (more _)
 .rw[s.o.same g mv hr hs];exact⟨rfl,s,Ll (s.o.q r hr hs)⟩
omit g mv in
theorem SW.dec(g:Gd h T){q:Int}(hq:q∈w.Q):(Z08 (loadA w.heap.W q).1).2=Lc:=ZcS (s.o.c.dec g hq)
omit s g mv in
theorem ZoZ{w:Work}{r:Int}(e:(w.fwd r).2.2=0):r=0\/r∈w.Q\/r∈w.old:=by
 unfold Work.fwd at e;split at e
 .rename_i c;exact c.imp id .inl
 .split at e
  .simp at e
  .rename_i c;exact .inr (.inr (LM.1 c))
theorem SW.in1{q j:Int}(hq:q∈w.Q)(h0:0<=j)(h1:j<hlA w.heap.W q)(e:(w.fwd (loadA w.heap.W (q+1+j)).1).2.2=0):SW h T (w.in1 (q+1+j))/\∀ x∈w.Q,x∈(w.in1 (q+1+j)).Q/\hdA (w.in1 (q+1+j)).heap.W x=hdA w.heap.W x:=by
 obtain⟨_,s1,to⟩:=s.fwd g mv (ZoZ e);have hw:=s.o.c.ok;have iv:=s.o.c.inv;obtain⟨tq,k⟩:=s.o.c.k;obtain⟨i1,x1⟩:=Z4B hw iv _ e;have m:=ZfM hw iv _ e;have hq1:=x1.q q hq;have hl1:=x1.l q hq;have hr:=i1.r q (Lm _ hq1);have hin:4096<=q+1+j/\q+1+j<4096+(w.fwd (loadA w.heap.W (q+1+j)).1).1.heap.W.length:=by omega
 have far:∀ x∈(w.fwd (loadA w.heap.W (q+1+j)).1).1.old++(w.fwd (loadA w.heap.W (q+1+j)).1).1.Q,∀ i,0<=i->i<=hlA (w.fwd (loadA w.heap.W (q+1+j)).1).1.heap.W x->x+i=q+1+j->x=q:=by
  intro x hx i a b c;have l1:=i1.s q (Lm _ hq1) x hx;have l2:=i1.s x hx q (Lm _ hq1);omega
 have hh:∀ x∈(w.fwd (loadA w.heap.W (q+1+j)).1).1.old++(w.fwd (loadA w.heap.W (q+1+j)).1).1.Q,loadA (w.in1 (q+1+j)).heap.W x=loadA (w.fwd (loadA w.heap.W (q+1+j)).1).1.heap.W x:=by
  intro x hx;simp only[Work.in1];rw[Z0w hin λc=>?_];have:=far x hx 0 oq (Z0e _ _).1 oq;omega
 refine⟨⟨⟨s.o.c.in1 g hq h0 h1 e,s.o.m.in1 g k mv hw iv hq ⟨h0,h1⟩ e,λy hy hne=>?_,λy hy hz=>?_,s1.o.n⟩, ?_⟩,λx hx=>⟨m.mem hx, ?_⟩⟩
 .have e3:Z3H (w.in1 (q+1+j)) y=Z3H (w.fwd (loadA w.heap.W (q+1+j)).1).1 y:=by
   unfold Z3H;rw[hh y (Lj _ hy)];rfl
  rw[e3]at hne ⊢;exact s1.o.q y hy hne
 .have e3:Z3H (w.in1 (q+1+j)) y=Z3H (w.fwd (loadA w.heap.W (q+1+j)).1).1 y:=by
   unfold Z3H;rw[hh y (Lj _ hy)];rfl
  rw[e3]at hz;rw[hh y (Lj _ hy)];exact s1.o.z y hy hz
 .intro x hx ht i a b hp;have hx:x∈(w.fwd (loadA w.heap.W (q+1+j)).1).1.old++(w.fwd (loadA w.heap.W (q+1+j)).1).1.Q:=hx;show _\/_∈(w.fwd (loadA w.heap.W (q+1+j)).1).1.old++(w.fwd (loadA w.heap.W (q+1+j)).1).1.Q;have e0:=hh x hx;have eh:hdA (w.in1 (q+1+j)).heap.W x=hdA (w.fwd (loadA w.heap.W (q+1+j)).1).1.heap.W x:=by rw[hdA,hdA,e0]
  have el:hlA (w.in1 (q+1+j)).heap.W x=hlA (w.fwd (loadA w.heap.W (q+1+j)).1).1.heap.W x:=congrArg Header.length eh;rw[eh]at hp;rw[el]at b;rw[e0]at ht;by_cases c:x+1+i=q+1+j
  .have:(loadA (w.in1 (q+1+j)).heap.W (x+1+i)).1=(w.fwd (loadA w.heap.W (q+1+j)).1).2.1:=by
    rw[c];simp only[Work.in1];rw[Z1N hin]
   rw[this];exact to.imp id (Lm _)
  .have:loadA (w.in1 (q+1+j)).heap.W (x+1+i)=loadA (w.fwd (loadA w.heap.W (q+1+j)).1).1.heap.W (x+1+i):=by
    simp only[Work.in1];rw[Z0w hin c]
   rw[this];exact s1.a x hx ht i a b hp
 .rw[hdA,hh x (Lm _ (m.mem hx))];exact m.h x hx
omit s g mv in
theorem Z8w(h:Header):∀ n:Nat,∀ x∈Z11 h n,Z0d h x=O
 | 0,x,hx=>by cases hx
 | n+1,x,hx=>by
  unfold Z11 at hx;split at hx
  .rename_i c;rcases LB.1 hx with q | q
   .exact Z8w h n x q
   .rw[LG.1 q];exact c
  .exact Z8w h n x hx
omit s g mv in
theorem ZdB(h:Header):∀ x∈Z03 h,Z0d h x=O:=by
 unfold Z03;split
 .exact Z8w h _
 .intro x hx;cases hx
theorem SW.inn{q:Int}(hq:q∈w.Q){l:List Int}(hl:∀ x∈l,(0<=x/\x<hlA w.heap.W q)/\Z0d (hdA w.heap.W q) x=O):∀ k,k<=l.length->(∀ j,j<k->innE w q l j=0)/\SW h T (innN w q l k)/\q∈(innN w q l k).Q/\hdA (innN w q l k).heap.W q=hdA w.heap.W q
 | 0,_=>⟨λj hj=>absurd hj (LW j),s,hq,rfl⟩
 | k+1,hk=>by
  obtain⟨i1,i2,i3,i4⟩:=SW.inn hq hl k oq;have hx:=hl _ (getD_mem_iff.2 ⟨k,by omega,rfl⟩);have el:hlA (innN w q l k).heap.W q=hlA w.heap.W q:=congrArg Header.length i4;have af:=i2.a q (Lm _ i3) (i2.dec g i3) (l.getD k M) hx.1.1 (by rw[el];exact hx.1.2) (by rw[i4];exact hx.2);have e:innE w q l k=0:=(i2.fwd g mv (af.imp id λc=>(LB.1 c).symm)).1;have n:=i2.in1 g mv i3 hx.1.1 (by rw[el];exact hx.1.2) e;refine⟨λj hj=>?_,n.1,(n.2 q i3).1,(n.2 q i3).2.trans i4⟩;by_cases c:j=k
  .rw[c];exact e
  .exact i1 j oq
theorem SW.step:(Z0B w).2.2=0/\SW h T (Z0B w).1:=by
 by_cases hs:w.D<w.Q.length
 .have hsc:=s.o.c.ok.sc;have hq:Z0T w∈w.Q:=getD_mem_iff.2 ⟨w.D.toNat,by omega,rfl⟩;obtain⟨i1,i2,_,_⟩:=s.inn g mv hq (l:=Z0r w) (λx hx=>⟨Z2u (hdW w (Z0T w)) x hx,ZdB (hdW w (Z0T w)) x hx⟩) (Z0r w).length (Lt _);have hb:(Lf (Z0r w).length).find? (λk=>Lb (innE w (Z0T w) (Z0r w) k≠0))=Lw:=Lp.2 λj hj=>by simp[i1 j (Lg.1 hj)]
  have e7:Z0B w=(Z3E (innN w (Z0T w) (Z0r w) (Z0r w).length) (Z0r w).length,O,0):=by unfold Z0B;rw[if_pos hs,hb]
  have c:=s.o.c.step g (by rw[e7]);rw[e7]at c ⊢;exact⟨rfl,⟨c,⟨i2.o.m.m0,i2.o.m.m1,i2.o.m.m2,i2.o.m.m3,i2.o.m.m4,i2.o.m.m5⟩,i2.o.q,i2.o.z,i2.o.n⟩,i2.a⟩
 .have e7:Z0B w=(w,Lc,0):=by rw[Z0B,if_neg hs]
  rw[e7];exact⟨rfl,s⟩
theorem SW.it:∀ k,SW h T (itW w k)
 | 0=>s
 | k+1=>(SW.step (SW.it k) g mv).2
theorem SW.all:(allF w).2=0/\SW h T (allF w).1:=by
 obtain⟨k,hb⟩:=Z3B s.o.c.ok;have e:=(s.it g mv k).step g mv;have e7:allF w=((Z0B (itW w k)).1,0):=by rw[allF,hb];simp only[if_pos e.1]
 rw[e7];exact⟨rfl,e.2⟩
end
section
variable {h:Heap} {T:Nat->List Int} (g:Gd h T) (mv:MV h) {s:List Int} (hs:∀ r∈s,r=0\/Ob h T r)
include g mv hs
theorem SW.rootsN(hw:WOk h.W):∀ k,k<=s.length->(∀ j,j<k->Z1f (beginW h) s j=0)/\SW h T (Go.Proofs.YtdhchmlalchgeaaGreat.rootsN (beginW h) s k).1/\∀ i,i<k->ToOk (Go.Proofs.YtdhchmlalchgeaaGreat.rootsN (beginW h) s k).1 ((Go.Proofs.YtdhchmlalchgeaaGreat.rootsN (beginW h) s k).2.getD i M)/\((Go.Proofs.YtdhchmlalchgeaaGreat.rootsN (beginW h) s k).2.getD i M=0↔s.getD i M=0)
 | 0,_=>⟨λj hj=>absurd hj (LW j),SW.begin g hw,λi hi=>absurd hi (LW i)⟩
 | k+1,hk=>by
  obtain⟨i1,i2,i3⟩:=SW.rootsN hw k oq;have hr:=hs _ (getD_mem_iff.2 ⟨k,by omega,rfl⟩);obtain⟨tq,ki⟩:=i2.o.c.k;have hr':s.getD k M=0\/s.getD k M∈(Go.Proofs.YtdhchmlalchgeaaGreat.rootsN (beginW h) s k).1.Q\/s.getD k M∈(Go.Proofs.YtdhchmlalchgeaaGreat.rootsN (beginW h) s k).1.old:=hr.imp id λq=>.inr ((ki.old _).2 q);obtain⟨e,f1,f2⟩:=i2.fwd g mv hr';have sm:=ZfM i2.o.c.ok i2.o.c.inv _ e;have hn:=Z2d (beginW h) s k;refine⟨λj hj=>?_,f1,λi hi=>?_⟩
  .by_cases q:j=k
   .rw[q];exact e
   .exact i1 j oq
  .simp only[Go.Proofs.YtdhchmlalchgeaaGreat.rootsN,Le];by_cases q:i=k
   .subst q;rw[L6 oq,hn];simp only[Xx,List.getElem?_cons_zero,Lv];simp only[Le]at hr hr' f2;refine⟨f2,λc=>?_,λc=>?_⟩
    .rcases hr with q | q
     .exact q
     .have:=(i2.o.seen g mv ((ki.old _).2 q)).1;exact absurd c this
    .rw[c,Work.fwd,if_pos (.inl rfl)]
   .rw[LQ oq];have:=i3 i oq;simp only[Le]at this;exact⟨sm.to this.1,this.2⟩
theorem SW.roots(hw:WOk h.W):rootsF (beginW h) s=((Go.Proofs.YtdhchmlalchgeaaGreat.rootsN (beginW h) s s.length).1,(Go.Proofs.YtdhchmlalchgeaaGreat.rootsN (beginW h) s s.length).2,0)/\SW h T (rootsF (beginW h) s).1:=by
 obtain⟨i1,i2,i3⟩:=SW.rootsN g mv hs hw s.length (Lt _);have e:rootsF (beginW h) s=((Go.Proofs.YtdhchmlalchgeaaGreat.rootsN (beginW h) s s.length).1,(Go.Proofs.YtdhchmlalchgeaaGreat.rootsN (beginW h) s s.length).2,0):=by
  unfold rootsF;rw[Lp.2 λj hj=>by simp[i1 j (Lg.1 hj)]]
 rw[e];exact⟨rfl,i2⟩
structure DoneF (x:Work) (s l:List Int):Prop where
 q:∀ q∈x.Q,4096<=q/\q+hlA x.heap.W q<4096+x.heap.W.length/\(decodeH (loadA x.heap.W q).1).2=O
 f:∀ q∈x.Q,∀ j,0<=j->j<hlA x.heap.W q->Z0d (hdA x.heap.W q) j=O->ToOk x (loadA x.heap.W (q+1+j)).1
 n:l.length=s.length
 r:∀ i,i<s.length->ToOk x (l.getD i M)/\(l.getD i M=0↔s.getD i M=0)
theorem Zn9{w:Work}(sw:SW h T w):∀ k x,x∈w.Q->x∈(itW w k).Q
 | 0,x,hx=>hx
 | k+1,x,hx=>by
  have ih:=Zn9 sw k x hx;have sk:=sw.it g mv k;have e:=(sk.step g mv).1;exact(Z76 sk.o.c.ok sk.o.c.inv e).2.q x ih
theorem Zp1{B:Int}(hB:0<=B)(hw:WOk h.W)(hb:∀ p∈h.P,p.N<=B):DoneF (cW2 h s) s (rootsF (beginW h) s).2.1:=by
 obtain⟨e,sw⟩:=SW.roots g mv hs hw;have i3:=(SW.rootsN g mv hs hw s.length (Lt _)).2.2;obtain⟨e2,sa⟩:=sw.all g mv;obtain⟨sd,sc⟩:=Zn6 hB hw g.p hb (by rw[e]) e2;obtain⟨k,hk⟩:=Z3B sw.o.c.ok;have ek:=(sw.it g mv k).step g mv;have e7:cW2 h s=itW (rootsF (beginW h) s).1 (k+1):=by rw[cW2,allF,hk];simp only[if_pos ek.1];rfl
 refine⟨λq hq=>?_,λq hq j h0 h1 hp=>?_,by rw[e];exact Z2d _ _ _,λi hi=>?_⟩
 .have r:=sa.o.c.inv.r q (Lm _ hq);exact⟨r.1,r.2,sa.o.c.dec g hq⟩
 .obtain⟨n,n1,n2⟩:=getD_mem_iff.1 hq;exact(sd (q+1+j) ⟨n,j,by rw[sc];simpa using n1,by rw[n2];exact Z70 h0 h1 hp,by rw[n2]⟩).2
 .rw[e];refine⟨(i3 i hi).1.imp id λq=>?_,(i3 i hi).2⟩;rw[e7];refine Zn9 g mv hs sw _ _ ?_;rw[e];exact q
end
def Zhl(ws:List Int)(a n:Int)(hw:ws.length<=1048576)(h0:4096<=a/\1<=n/\n<=1000/\a-4096+n<=ws.length):GP 117 [Z01 ws,u64 a,int n] O (.tu [.ow 0,int 0]) [.arr 35 1 (((ws.drop (a-4096).toNat).take n.toNat).map wdv)]:=by
 have ei1:(Z0b ws a n).1=a-4096:=by rw[Z0b,if_pos oq]
 have e2:(Z0b ws a n).2=O:=by rw[Z0b,if_pos oq];simp;omega
 have hne:(ws.drop (a-4096).toNat).take n.toNat≠[]:=Z8n (by rw[LI,Xa];omega);exact gF [41027] func117 [Lc,O] (Fh 26 [.els (Ld wdv (Lo (((Z0b ws a n).1+n).toNat-(Z0b ws a n).1.toNat) (Ln (Z0b ws a n).1.toNat ws)))] (Ffb 11 (Lb (n<0)) (Fc 16 (@Z7B ws a n aa oq) (Ffb 20 (!(Z0b ws a n).2) (Fi 25 ((Z0b ws a n).1+n) (Fa (by(simp only[LA];omega):0<=(Z0b ws a n).1/\(Z0b ws a n).1<=(Z0b ws a n).1+n/\(Z0b ws a n).1+n<=(↑(Ld wdv ws).length:Int)) (Fa (by simp[e2,Xe,Xc,List.map_set,LC,wdv,idv]:Lo (((Z0b ws a n).1+n).toNat-(Z0b ws a n).1.toNat) (Ln (Z0b ws a n).1.toNat (Ld wdv ws))=Ld wdv (Lo (((Z0b ws a n).1+n).toNat-(Z0b ws a n).1.toNat) (Ln (Z0b ws a n).1.toNat ws))) (Fc 27 (@Zes (Lo (((Z0b ws a n).1+n).toNat-(Z0b ws a n).1.toNat) (Ln (Z0b ws a n).1.toNat ws)) (by(simp[e2, *];omega)) (by(simp[e2, *];omega))) (Fa (by exact Z1o _:Z0C (Ld wdv (Lo (((Z0b ws a n).1+n).toNat-(Z0b ws a n).1.toNat) (Ln (Z0b ws a n).1.toNat ws)))) (Fr (35:Int) (Fa (by refine congrArg _ ?_;(simp[e2, *];omega):Ld wdv (Lo (((Z0b ws a n).1+n).toNat-(Z0b ws a n).1.toNat) (Ln (Z0b ws a n).1.toNat ws))=Ld wdv (Lo n.toNat (Ln (a-4096).toNat ws))) Fz)))))))))))
def fstW(l:List Int):Nat:=(l.takeWhile λx=>x==0).length
def Zbw{l:List Int}{m:Nat}(h:m<fstW l):m<l.length/\l.getD m M=0:=by
 obtain⟨h1,h2⟩:=Zhq _ _ _ h;refine⟨h1, ?_⟩;rw[Le,Lu h1];simpa using h2
def Zfw{l:List Int}(h:fstW l<l.length):¬ l.getD (fstW l) M=0:=by
 have h2:=ZaK (λx:Int=>x==0) l h;have h3:l.getD (fstW l) M=l[(l.takeWhile λx=>x==0).length]:=by
  rw[Le,Lu h];rfl
 rw[h3];simpa using h2
def idxW(l:List Int):Int:=if fstW l<l.length then fstW l else -1
def ZjA(x:Int):GP 204 [u64 x] O (bool (x != 0)) []:=by
 exact gF [] func204 [] Fz
def Zhb(l:List Int)(i:Nat):Tg:=⟨tm 19 [(0,Z01 l),(1,.fn 204 []),(4,int 0),(7,int l.length),(8,int i)],[],60⟩
def ZdI(l:List Int)(i:Nat)(hl:l.length<=1048576)(hi:i<l.length)(e:l.getD i M=0):CP (rndF f203 0) (Zhb l i).st .nrm (Zhb l (i+1)).st:=by
 exact sF [] [] (Fh 16 [.call O (Sx.bool (l.getD i M != 0)) [],.br Lc] (Ftb 9 (Lb ((i:Int)<(l.length:Int))) (Fek 14 wdv l (↑i) i (Fa (@ZjA (l.getD i M)) (Fb ((l.getD i M != 0)=Lc) (Fx 18 i Fz))))))
def ZjV(l:List Int)(i:Nat)(hl:l.length<=1048576)(hi:i<l.length)(e:¬ l.getD i M=0):CP (rndF f203 0) (Zhb l i).st .ret (Tg.st ⟨tm 19 [(4,int i)],[],60⟩):=by
 exact sF [] [] (Fh 16 [.call O (Sx.bool (l.getD i M != 0)) [],.br O] (Ftb 9 (Lb ((i:Int)<(l.length:Int))) (Fek 14 wdv l (↑i) i (Fa (@ZjA (l.getD i M)) (Fb ((l.getD i M != 0)=O) Fz)))))
def ZoN(l:List Int):CP (rndF f203 0) (Zhb l l.length).st (.ext 0) (Tg.st ⟨tm 19 [(4,int 0)],[],60⟩):=by
 exact sF [] [] (Ffb 9 (Lb ((l.length:Int)<(l.length:Int))) Fz)
def ZlU(l:List Int)(hl:l.length<=1048576)(h:¬ fstW l<l.length)  := Z0a (S:=λj=>(Zhb l j).st) l.length (by kernel_rfl) (λj hj=>ZdI l j hl hj (Zbw (by omega)).2) (ZoN l)
def ZhE(l:List Int)(hl:l.length<=1048576)(h:fstW l<l.length)  := Z0G (S:=λj=>(Zhb l j).st) (fstW l) (by kernel_rfl) (λj hj=>ZdI l j hl (by omega) (Zbw hj).2) (ZjV l (fstW l) hl h (Zfw h))
def Zp7(l:List Int)(hl:l.length<=1048576):GP 203 [Z01 l,.fn 204 []] O (int (idxW l)) []:=by
 by_cases h:fstW l<l.length
 .have e7:idxW l=fstW l:=if_pos h;rw[e7];exact gF [] func203 [] (Fl 7 wdv l (Fu (@ZhE l aa aa) Fz))
 .have e7:idxW l=-1:=if_neg h;rw[e7];exact gF [] func203 [] (Fl 7 wdv l (Fu (@ZlU l aa aa) Fz))
def loC(c:List Int)(x:Int):Nat:=(min (max x 0) (c.length:Int)).toNat
def clrW(c:List Int)(x k:Int):List Int:=c.take (loC c x)++Lh (loC c (x+k)-loC c x) 0++c.drop (loC c x+(loC c (x+k)-loC c x))
def cwN(h:Heap)(F:Int)(l c:List Int):Nat->List Int
 | 0=>c
 | n+1=>clrW (cwN h F l c n) (l.getD n M-F) (Z4y h (l.getD n M))
def Zfq(c:List Int)(x:Int):loC c x<=c.length:=by unfold loC;omega
def Zfv(c:List Int)(x:Int){k:Int}(hk:0<=k):loC c x<=loC c (x+k):=by unfold loC;omega
def Z9G(h:Heap)(a:Int):0<=Z4y h a/\Z4y h a<=256:=by
 have:=Z1c (atH h a).1;unfold Z4y;split<;>omega
def Zlo(c:List Int)(x:Int){k:Int}(hk:0<=k):(clrW c x k).length=c.length:=by
 have h1:=Zfq c x;have h2:=Zfq c (x+k);have h3:=Zfv c x hk;simp[clrW];omega
def Z8o(h:Heap)(F:Int)(l c:List Int):∀ n,(cwN h F l c n).length=c.length
 | 0=>rfl
 | n+1=>by rw[cwN,Zlo _ _ (Z9G h _).1,Z8o h F l c n]
def adL(h:Heap)(F:Int)(l c:List Int)(n:Nat):Tg:=⟨tm 90 [(2,.pt 8002 0 0),(4,u64 0),(5,bool Lc),(6,u64 F),(8,.ow 25033),(44,Z01 l),(45,int l.length),(46,int n)],[(25033,.arr 35 1 ((cwN h F l c n).map wdv)),(8002,.box 28 h.cells)],60⟩
def Znu(h:Heap)(F:Int)(l c:List Int)(n:Nat)(hw:WOk h.W)(hF:0<=F/\F<=8192)(hl:l.length<=1048576)(hc:c.length<=64)(hr:∀ x∈l,0<=x/\x<=8192)(hn:n<l.length):CP (rndF f194 0) (adL h F l c n).st .nrm (adL h F l c (n+1)).st:=by
 have hx:=hr (l.getD n M) (getD_mem_iff.2 ⟨n,hn,rfl⟩);have hm:=Z3F hw (l.getD n M);have hlen:=Z8o h F l c n;have hs:=Z1c (atH h (l.getD n M)).1;by_cases hk:(atH h (l.getD n M)).1.K=0
 .have ek:Z4y h (l.getD n M)=1:=if_pos hk;have e7:cwN h F l c (n+1)=clrW (cwN h F l c n) (l.getD n M-F) 1:=by rw[cwN,ek]
  exact sF [] (fO 8) (Fh 20000 [.els (Ld wdv (Lo (min (max (l.getD n M-F) 0) (↑(cwN h F l c n).length:Int)).toNat (cwN h F l c n)++Lh ((min (max (l.getD n M-F+1) 0) (↑(cwN h F l c n).length:Int)).toNat-(min (max (l.getD n M-F) 0) (↑(cwN h F l c n).length:Int)).toNat) 0++Ln ((min (max (l.getD n M-F) 0) (↑(cwN h F l c n).length:Int)).toNat+(Lh ((min (max (l.getD n M-F+1) 0) (↑(cwN h F l c n).length:Int)).toNat-(min (max (l.getD n M-F) 0) (↑(cwN h F l c n).length:Int)).toNat) 0).length) (cwN h F l c n)))] (Ftb 47 (Lb ((n:Int)<(l.length:Int))) (Fek 48 wdv l (↑n) n (Fc 53 (@Z41 h (l.getD n M) aa oq) (Ffb 58 ((atH h (l.getD n M)).1.K != 0) (Fi 62 (l.getD n M) (Fi 64 F (Fi 65 (l.getD n M-F) (Fgo 68 (if 0 > l.getD n M-F then 0 else l.getD n M-F) (max (l.getD n M-F) 0) (Fl 70 wdv (cwN h F l c n) (Fgo 71 (if(↑(cwN h F l c n).length:Int)<max (l.getD n M-F) 0 then(↑(cwN h F l c n).length:Int)else max (l.getD n M-F) 0) (min (max (l.getD n M-F) 0) (↑(cwN h F l c n).length:Int)) (Fi 74 (l.getD n M-F+1) (Fgo 75 (if 0 > l.getD n M-F+1 then 0 else l.getD n M-F+1) (max (l.getD n M-F+1) 0) (Fl 77 wdv (cwN h F l c n) (Fgo 78 (if(↑(cwN h F l c n).length:Int)<max (l.getD n M-F+1) 0 then(↑(cwN h F l c n).length:Int)else max (l.getD n M-F+1) 0) (min (max (l.getD n M-F+1) 0) (↑(cwN h F l c n).length:Int)) (Fa (by(simp only[LA];omega):0<=min (max (l.getD n M-F) 0) (↑(cwN h F l c n).length:Int)/\min (max (l.getD n M-F) 0) (↑(cwN h F l c n).length:Int)<=min (max (l.getD n M-F+1) 0) (↑(cwN h F l c n).length:Int)/\min (max (l.getD n M-F+1) 0) (↑(cwN h F l c n).length:Int)<=(↑(Ld wdv (cwN h F l c n)).length:Int)) (Fa (by simp only[Z0Q,LC,Xe,Xc,Xt,LH];rfl:Z0Q (Ld wdv (cwN h F l c n)) (min (max (l.getD n M-F) 0) (↑(cwN h F l c n).length:Int)).toNat (Lh ((min (max (l.getD n M-F+1) 0) (↑(cwN h F l c n).length:Int)).toNat-(min (max (l.getD n M-F) 0) (↑(cwN h F l c n).length:Int)).toNat) [du64 0])=Ld wdv (Lo (min (max (l.getD n M-F) 0) (↑(cwN h F l c n).length:Int)).toNat (cwN h F l c n)++Lh ((min (max (l.getD n M-F+1) 0) (↑(cwN h F l c n).length:Int)).toNat-(min (max (l.getD n M-F) 0) (↑(cwN h F l c n).length:Int)).toNat) 0++Ln ((min (max (l.getD n M-F) 0) (↑(cwN h F l c n).length:Int)).toNat+(Lh ((min (max (l.getD n M-F+1) 0) (↑(cwN h F l c n).length:Int)).toNat-(min (max (l.getD n M-F) 0) (↑(cwN h F l c n).length:Int)).toNat) 0).length) (cwN h F l c n))) (Fx 80 n (Fr (35:Int) (Fa (by refine congrArg _ ?_;rw[e7];simp only[clrW,loC,LH]:Ld wdv (Lo (min (max (l.getD n M-F) 0) (↑(cwN h F l c n).length:Int)).toNat (cwN h F l c n)++Lh ((min (max (l.getD n M-F+1) 0) (↑(cwN h F l c n).length:Int)).toNat-(min (max (l.getD n M-F) 0) (↑(cwN h F l c n).length:Int)).toNat) 0++Ln ((min (max (l.getD n M-F) 0) (↑(cwN h F l c n).length:Int)).toNat+(Lh ((min (max (l.getD n M-F+1) 0) (↑(cwN h F l c n).length:Int)).toNat-(min (max (l.getD n M-F) 0) (↑(cwN h F l c n).length:Int)).toNat) 0).length) (cwN h F l c n))=Ld wdv (cwN h F l c (n+1))) Fz))))))))))))))))))))
 .have ek:Z4y h (l.getD n M)=sizeH (atH h (l.getD n M)).1:=if_neg hk;have e7:cwN h F l c (n+1)=clrW (cwN h F l c n) (l.getD n M-F) (sizeH (atH h (l.getD n M)).1):=by rw[cwN,ek]
  exact sF [] (fO 8) (Fh 20000 [.els (Ld wdv (Lo (min (max (l.getD n M-F) 0) (↑(cwN h F l c n).length:Int)).toNat (cwN h F l c n)++Lh ((min (max (l.getD n M-F+sizeH (atH h (l.getD n M)).1) 0) (↑(cwN h F l c n).length:Int)).toNat-(min (max (l.getD n M-F) 0) (↑(cwN h F l c n).length:Int)).toNat) 0++Ln ((min (max (l.getD n M-F) 0) (↑(cwN h F l c n).length:Int)).toNat+(Lh ((min (max (l.getD n M-F+sizeH (atH h (l.getD n M)).1) 0) (↑(cwN h F l c n).length:Int)).toNat-(min (max (l.getD n M-F) 0) (↑(cwN h F l c n).length:Int)).toNat) 0).length) (cwN h F l c n)))] (Ftb 47 (Lb ((n:Int)<(l.length:Int))) (Fek 48 wdv l (↑n) n (Fc 53 (@Z41 h (l.getD n M) aa oq) (Ftb 58 ((atH h (l.getD n M)).1.K != 0) (Fc 60 (@Z0S ((atH h (l.getD n M)).1) aa) (Fi 62 (l.getD n M) (Fi 64 F (Fi 65 (l.getD n M-F) (Fgo 68 (if 0 > l.getD n M-F then 0 else l.getD n M-F) (max (l.getD n M-F) 0) (Fl 70 wdv (cwN h F l c n) (Fgo 71 (if(↑(cwN h F l c n).length:Int)<max (l.getD n M-F) 0 then(↑(cwN h F l c n).length:Int)else max (l.getD n M-F) 0) (min (max (l.getD n M-F) 0) (↑(cwN h F l c n).length:Int)) (Fi 74 (l.getD n M-F+sizeH (atH h (l.getD n M)).1) (Fgo 75 (if 0 > l.getD n M-F+sizeH (atH h (l.getD n M)).1 then 0 else l.getD n M-F+sizeH (atH h (l.getD n M)).1) (max (l.getD n M-F+sizeH (atH h (l.getD n M)).1) 0) (Fl 77 wdv (cwN h F l c n) (Fgo 78 (if(↑(cwN h F l c n).length:Int)<max (l.getD n M-F+sizeH (atH h (l.getD n M)).1) 0 then(↑(cwN h F l c n).length:Int)else max (l.getD n M-F+sizeH (atH h (l.getD n M)).1) 0) (min (max (l.getD n M-F+sizeH (atH h (l.getD n M)).1) 0) (↑(cwN h F l c n).length:Int)) (Fa (by(simp only[LA];omega):0<=min (max (l.getD n M-F) 0) (↑(cwN h F l c n).length:Int)/\min (max (l.getD n M-F) 0) (↑(cwN h F l c n).length:Int)<=min (max (l.getD n M-F+sizeH (atH h (l.getD n M)).1) 0) (↑(cwN h F l c n).length:Int)/\min (max (l.getD n M-F+sizeH (atH h (l.getD n M)).1) 0) (↑(cwN h F l c n).length:Int)<=(↑(Ld wdv (cwN h F l c n)).length:Int)) (Fa (by simp only[Z0Q,LC,Xe,Xc,Xt,LH];rfl:Z0Q (Ld wdv (cwN h F l c n)) (min (max (l.getD n M-F) 0) (↑(cwN h F l c n).length:Int)).toNat (Lh ((min (max (l.getD n M-F+sizeH (atH h (l.getD n M)).1) 0) (↑(cwN h F l c n).length:Int)).toNat-(min (max (l.getD n M-F) 0) (↑(cwN h F l c n).length:Int)).toNat) [du64 0])=Ld wdv (Lo (min (max (l.getD n M-F) 0) (↑(cwN h F l c n).length:Int)).toNat (cwN h F l c n)++Lh ((min (max (l.getD n M-F+sizeH (atH h (l.getD n M)).1) 0) (↑(cwN h F l c n).length:Int)).toNat-(min (max (l.getD n M-F) 0) (↑(cwN h F l c n).length:Int)).toNat) 0++Ln ((min (max (l.getD n M-F) 0) (↑(cwN h F l c n).length:Int)).toNat+(Lh ((min (max (l.getD n M-F+sizeH (atH h (l.getD n M)).1) 0) (↑(cwN h F l c n).length:Int)).toNat-(min (max (l.getD n M-F) 0) (↑(cwN h F l c n).length:Int)).toNat) 0).length) (cwN h F l c n))) (Fx 80 n (Fr (35:Int) (Fa (by refine congrArg _ ?_;rw[e7];simp only[clrW,loC,LH]:Ld wdv (Lo (min (max (l.getD n M-F) 0) (↑(cwN h F l c n).length:Int)).toNat (cwN h F l c n)++Lh ((min (max (l.getD n M-F+sizeH (atH h (l.getD n M)).1) 0) (↑(cwN h F l c n).length:Int)).toNat-(min (max (l.getD n M-F) 0) (↑(cwN h F l c n).length:Int)).toNat) 0++Ln ((min (max (l.getD n M-F) 0) (↑(cwN h F l c n).length:Int)).toNat+(Lh ((min (max (l.getD n M-F+sizeH (atH h (l.getD n M)).1) 0) (↑(cwN h F l c n).length:Int)).toNat-(min (max (l.getD n M-F) 0) (↑(cwN h F l c n).length:Int)).toNat) 0).length) (cwN h F l c n))=Ld wdv (cwN h F l c (n+1))) Fz)))))))))))))))))))))
def ZqG(h:Heap)(F:Int)(l c:List Int):CP (rndF f194 0) (adL h F l c l.length).st (.ext 0) (Tg.st ⟨tm 90 [(4,u64 0),(5,bool Lc),(6,u64 F),(8,.ow 25033)],[(25033,.arr 35 1 ((cwN h F l c l.length).map wdv))],60⟩):=by
 exact sF [] [] (Ffb 47 (Lb ((l.length:Int)<(l.length:Int))) Fz)
def Zql(h:Heap)(F:Int)(l c:List Int)(hw:WOk h.W)(hF:0<=F/\F<=8192)(hl:l.length<=1048576)(hc:c.length<=64)(hr:∀ x∈l,0<=x/\x<=8192):CP (blkF f194 0) (Tg.st ⟨tm 90 [(2,.pt 8002 0 0),(4,u64 0),(5,bool Lc),(6,u64 F),(8,.ow 25033),(44,Z01 l),(45,int l.length),(46,int 0)],[(25033,.arr 35 1 (c.map wdv)),(8002,.box 28 h.cells)],60⟩) .nrm
  (Tg.st ⟨tm 90 [(4,u64 0),(5,bool Lc),(6,u64 F),(8,.ow 25033)],[(25033,.arr 35 1 ((cwN h F l c l.length).map wdv))],60⟩) :=
 Z0a (S:=λn=>(adL h F l c n).st) l.length kr (λn hn=>Znu h F l c n hw hF hl hc hr hn) (ZqG h F l c)
def rawP(h:Heap)(i:Nat):List Int:=(h.W.drop ((address h.C i 0).1-4096).toNat).take h.C.pw.toNat
def clrP(h:Heap)(i:Nat):List Int:=cwN h (address h.C i 0).1 (Z09 h (Z0E h.P i:Nat)).1 (rawP h i) (Z09 h (Z0E h.P i:Nat)).1.length
def Z7k(h:Heap)(i:Nat)(hw:WOk h.W)(hp:Z02 h=O)(hi:i<h.P.length):GP 194 [h.av,int i] O (.tu [u64 ((address h.C i 0).1+max (idxW (clrP h i)) 0),bool (Lb (0<=idxW (clrP h i)))]) []:=by
 have po:=Z06 hp;have ea:(address h.C i 0).1=4096+i*h.C.pw:=by
  unfold address;rw[if_pos po.1,if_pos (inB_iff.2 oq)];simp only;omega
 have ap:=Z2P po.1 (i:=i) oq oq;have hh:=Zbn h.P i;have hx:(i:Int)*h.C.pw+h.C.pw<=h.W.length:=by
  have h1:((i:Int)+1)*h.C.pw<=h.C.pg*h.C.pw:=LD oq oq;have h2:((i:Int)+1)*h.C.pw=i*h.C.pw+h.C.pw:=by rw[LO,Xm]
  have h3:h.C.pg*h.C.pw=h.C.pw*h.C.pg:=Ly _ _;omega
 have hr:=Z2O hp (Z0E h.P i:Nat);have hn:=Z33 h (Z0E h.P i:Nat);have hlen:(clrP h i).length<=64:=by
  rw[clrP,Z8o,rawP,LI];omega
 have hix:idxW (clrP h i)<=64/\-1<=idxW (clrP h i):=by
  have:fstW (clrP h i)<=(clrP h i).length:=(List.takeWhile_sublist _).length_le;unfold idxW;split<;>omega
 have hrl:(rawP h i).length<=64:=by rw[rawP,LI];omega
 unfold clrP rawP at *;let y1:=address h.C (i:Int) 0;let y0:=cwN h y1.1 (Z09 h (↑(Z0E h.P i):Int)).1 (Lo h.C.pw.toNat (Ln (y1.1-4096).toNat h.W)) (Z09 h (↑(Z0E h.P i):Int)).1.length;exact gF [] func194 [] (Fc 23 (@Z3Z h.C ((i:Int)) (0)) (Fc 33 (@Zhl h.W (y1.1) h.C.pw oq oq) (Fc 40 (@Zjp h i aa aa) (Fc 41 (@Z3I h ((↑(Z0E h.P i):Int)) aa oq) (Fl 45 wdv (Z09 h (↑(Z0E h.P i):Int)).1 (Fu (@Zql h (y1.1) ((Z09 h (↑(Z0E h.P i):Int)).1) (Lo h.C.pw.toNat (Ln (y1.1-4096).toNat h.W)) aa oq oq aa aa) (Fc 82 (@Zp7 y0 oq) (Fgo 85 (if 0 > idxW y0 then 0 else idxW y0) (max (idxW y0) 0) (Fv 86 (max (idxW y0) 0) (Fv 87 (y1.1+max (idxW y0) 0) Fz))))))))))
def unS(fn:Func):Func:=match fn.body with
 | some (.seq x (.scope c)) => { fn with body:=Lk (.seq x c) }
 | _=>fn
def firS(fn:Func):Code:=match fn.body with
 | some (.seq x _)=>x
 | _=>.skip
def bdyS(fn:Func):Code:=match fn.body with
 | some (.seq _ c)=>c
 | _=>.skip
def Ziw{P:Program}{c:Code}{n m:Nat}{s t:St}(hmn:m≠n)(h:CSpec P c s (.ext m) t):CSpec P (.block n c) s (.ext m) t:=by
 intro Ow Im0 w0 a w hS;refine wp_block (wp_mono (h Ow Im0 w0 a w hS) ?_);rintro e a' w' ⟨rfl,hS'⟩;show(if m=n then _ else _);rw[if_neg hmn];exact⟨rfl,hS'⟩
def ZeQ{P:Program}{fn:Func}{b m:Nat}{S:Nat->St}{t:St}(n:Nat)(hb:Z6K b (blkF fn b)=O)(hm:m≠b)(h:∀ i,i<n->CSpec P (rndF fn b) (S i) .nrm (S (i+1)))(hn:CSpec P (rndF fn b) (S n) (.ext m) t):CSpec P (blkF fn b) (S 0) (.ext m) t:=by
 rw[Z6L hb];exact Ziw hm (ZeP (ZeL n h (λh=>nomatch h) hn))
def fdV(h:Heap)(a k:Int):Int:=(loadA h.W (a+1+k)).1
def pbad(h:Heap)(all:List Int)(a k:Int):Bool:=(fdV h a k != 0)&&!decide (fdV h a k∈all)
def pbad_yes{h:Heap}{all:List Int}{a k:Int}:pbad h all a k=O↔¬ fdV h a k=0/\¬ fdV h a k∈all:=by simp[pbad]
def pbad_no{h:Heap}{all:List Int}{a k:Int}:pbad h all a k=Lc↔fdV h a k=0\/fdV h a k∈all:=by
 by_cases h1:fdV h a k=0<;>by_cases h2:fdV h a k∈all<;>simp[pbad,h1,h2]
def yJ(a:Int)(P:List Int):Nat->Int
 | 0=>0
 | j+1=>a+1+P.getD j M
def apI(h:Heap)(all:List Int)(i:Nat)(a:Int)(P:List Int)(j:Nat):Tg:=⟨tm 83 [(1,.pt 8001 0 0),(2,.pt 8002 0 0),(3,Z01 all),(5,u64 (yJ a P j)),(7,u64 a),(24,Z01 all),(25,int all.length),(26,int i),(37,Z0q P),(38,int P.length),(39,int j)],[(8002,.box 180 [int 0,int 0,u64 0]),(8001,.box 28 h.cells)],64⟩
section
variable (h:Heap) (all:List Int) (i:Nat) (a:Int) (P:List Int) (j:Nat) (hw:WOk h.W) (hwl:h.W.length<=1048576) (hl:all.length<=1048576) (hs:all.Pairwise (· < ·)) (ha:0<=a/\a<=8192) (hP:P.length<=256) (hk:0<=P.getD j M/\P.getD j M<=256) (hj:j<P.length)
include hw hwl hl hs ha hP hk hj
theorem ZfP(hb:pbad h all a (P.getD j M)=Lc):CP (rndF (unS f170) 2) (apI h all i a P j).st .nrm (apI h all i a P (j+1)).st:=by
 have ey:yJ a P (j+1)=a+1+P.getD j M:=rfl;have hb':=pbad_no.1 hb;unfold fdV at hb';clear hb;generalize hy:yJ a P (j+1)=y1 at ey;unfold apI;rw[hy];rcases hb' with hb | hb
 .exact sF [] (fO 5) (Ftb 40 (Lb ((j:Int)<(P.length:Int))) (Fek 41 idv P (↑j) j (Fv 44 (a+1) (Fv 46 (P.getD j M) (Fv 47 (a+1+P.getD j M) (Fc 52 (@Z7h h.W (a+1+P.getD j M) aa oq) (Fc 58 (@bsearch all ((loadA h.W (a+1+P.getD j M)).1) aa aa) (Ffb 66 ((loadA h.W (a+1+P.getD j M)).1 != 0&&!decide ((loadA h.W (a+1+P.getD j M)).1∈all)) (Fx 67 j (Fa ‹a+1+P.getD j M=y1› Fz))))))))))
 .exact sF [] (fO 5) (Ftb 40 (Lb ((j:Int)<(P.length:Int))) (Fek 41 idv P (↑j) j (Fv 44 (a+1) (Fv 46 (P.getD j M) (Fv 47 (a+1+P.getD j M) (Fc 52 (@Z7h h.W (a+1+P.getD j M) aa oq) (Fc 58 (@bsearch all ((loadA h.W (a+1+P.getD j M)).1) aa aa) (Ffs 66 ((loadA h.W (a+1+P.getD j M)).1 != 0&&!decide ((loadA h.W (a+1+P.getD j M)).1∈all)) (Fx 67 j (Fa ‹a+1+P.getD j M=y1› Fz))))))))))
theorem Zkx(hb:pbad h all a (P.getD j M)=O):CP (rndF (unS f170) 2) (apI h all i a P j).st (.ext 0) (Tg.st ⟨tm 83 [(1,.pt 8001 0 0),(2,.pt 8002 0 0),(5,u64 (a+1+P.getD j M))],[(8002,.box 180 [int 0,int 0,u64 0]),(8001,.box 28 h.cells)],68⟩):=by
 obtain⟨hb1,hb2⟩:=pbad_yes.1 hb;unfold fdV at hb1 hb2;clear hb;exact sF [] [] (Ftb 40 (Lb ((j:Int)<(P.length:Int))) (Fek 41 idv P (↑j) j (Fv 44 (a+1) (Fv 46 (P.getD j M) (Fv 47 (a+1+P.getD j M) (Fc 52 (@Z7h h.W (a+1+P.getD j M) aa oq) (Fc 58 (@bsearch all ((loadA h.W (a+1+P.getD j M)).1) aa aa) (Fts 66 ((loadA h.W (a+1+P.getD j M)).1 != 0&&!decide ((loadA h.W (a+1+P.getD j M)).1∈all)) Fz))))))))
end
def Zpu(h:Heap)(all:List Int)(i:Nat)(a:Int)(P:List Int):CP (rndF (unS f170) 2) (apI h all i a P P.length).st (.ext 2) (Tg.st ⟨tm 83 [(1,.pt 8001 0 0),(2,.pt 8002 0 0),(3,Z01 all),(24,Z01 all),(25,int all.length),(26,int i)],[(8002,.box 180 [int 0,int 0,u64 0]),(8001,.box 28 h.cells)],68⟩):=by
 exact sF [] [] (Ffb 40 (Lb ((P.length:Int)<(P.length:Int))) Fz)
def Znm(h:Heap)(all:List Int)(i:Nat)(a:Int)(P:List Int)(hw:WOk h.W)(hwl:h.W.length<=1048576)(hl:all.length<=1048576)(hs:all.Pairwise (· < ·))(ha:0<=a/\a<=8192)(hP:P.length<=256)(hk:∀ k∈P,0<=k/\k<=256)(hf:P.find? (pbad h all a)=Lw) :
  CP (blkF (unS f170) 2) (Tg.st ⟨tm 83 [(1,.pt 8001 0 0),(2,.pt 8002 0 0),(3,Z01 all),(5,u64 0),(7,u64 a),(24,Z01 all),(25,int all.length),(26,int i),(37,Z0q P),(38,int P.length),(39,int 0)],[(8002,.box 180 [int 0,int 0,u64 0]),(8001,.box 28 h.cells)],64⟩) .nrm (Tg.st ⟨tm 83 [(1,.pt 8001 0 0),(2,.pt 8002 0 0),(3,Z01 all),(24,Z01 all),(25,int all.length),(26,int i)],[(8002,.box 180 [int 0,int 0,u64 0]),(8001,.box 28 h.cells)],68⟩) :=
 Z0a (S:=λj=>(apI h all i a P j).st) P.length kr (λj hj=>ZfP h all i a P j hw hwl hl hs ha hP (hk _ (getD_mem_iff.2 ⟨j,hj,rfl⟩)) hj (Z6z hf j hj)) (Zpu h all i a P)
def ZmC(h:Heap)(all:List Int)(i:Nat)(a:Int)(P:List Int)(x:Int)(hw:WOk h.W)(hwl:h.W.length<=1048576)(hl:all.length<=1048576)(hs:all.Pairwise (· < ·))(ha:0<=a/\a<=8192)(hP:P.length<=256)(hk:∀ k∈P,0<=k/\k<=256)(hf:P.find? (pbad h all a)=Lk x) :
  CP (blkF (unS f170) 2) (Tg.st ⟨tm 83 [(1,.pt 8001 0 0),(2,.pt 8002 0 0),(3,Z01 all),(5,u64 0),(7,u64 a),(24,Z01 all),(25,int all.length),(26,int i),(37,Z0q P),(38,int P.length),(39,int 0)],[(8002,.box 180 [int 0,int 0,u64 0]),(8001,.box 28 h.cells)],64⟩) (.ext 0) (Tg.st ⟨tm 83 [(1,.pt 8001 0 0),(2,.pt 8002 0 0),(5,u64 (a+1+x))],[(8002,.box 180 [int 0,int 0,u64 0]),(8001,.box 28 h.cells)],68⟩):=by
 obtain⟨n,h1,h2,h3,h4⟩:=Z3V hf;subst h2;exact ZeQ (S:=λj=>(apI h all i a P j).st) n kr dd (λj hj=>ZfP h all i a P j hw hwl hl hs ha hP (hk _ (getD_mem_iff.2 ⟨j,by omega,rfl⟩)) oq (h4 j hj)) (Zkx h all i a P n hw hwl hl hs ha hP (hk _ (getD_mem_iff.2 ⟨n,h1,rfl⟩)) h1 h3)
def apF(h:Heap)(all:List Int)(a:Int):Option Int:=(Z03 (atH h a).1).find? (pbad h all a)
def apL(h:Heap)(all:List Int)(i:Nat):Tg:=⟨tm 83 [(1,.pt 8001 0 0),(2,.pt 8002 0 0),(3,Z01 all),(5,u64 0),(24,Z01 all),(25,int all.length),(26,int i)],[(8002,.box 180 [int 0,int 0,u64 0]),(8001,.box 28 h.cells)],60⟩
def Z7m(h:Header):∀ n:Nat,∀ k∈Z11 h n,0<=k/\k<n
 | 0,k,hk=>by simp[Z11]at hk
 | n+1,k,hk=>by
  unfold Z11 at hk;split at hk
  .rcases LB.1 hk with hk | hk
   .have:=Z7m h n k hk;omega
   .simp only[Xf,List.not_mem_nil,or_false]at hk;omega
  .have:=Z7m h n k hk;omega
def Z4O(h:Header):(Z03 h).length<=256/\∀ k∈Z03 h,0<=k/\k<=256:=by
 rw[<- Z7H];have hs:=Z1c h;have h1:=Z4v h (sizeH h).toNat
 exact⟨by omega,λk hk=>by have:=Z7m h _ k hk;omega⟩
section
variable (h:Heap) (all:List Int) (i:Nat) (hw:WOk h.W) (hwl:h.W.length<=1048576) (hl:all.length<=1048576) (hs:all.Pairwise (· < ·)) (hr:∀ x∈all,0<=x/\x<=8192) (hi:i<all.length)
include hw hwl hl hs hr hi
theorem ZhQ(hb:apF h all (all.getD i M)=Lw):CP (rndF (unS f170) 0) (apL h all i).st .nrm (apL h all (i+1)).st:=by
 have hx:=hr (all.getD i M) (getD_mem_iff.2 ⟨i,hi,rfl⟩);have hm:=Z3F hw (all.getD i M);have hq:=Z4O (atH h (all.getD i M)).1;have hq1:=hq.1;have hq2:=hq.2;unfold apF at hb;let y0:=all.getD i M;let y1:=Z03 (atH h y0).1;exact sF [] [] (Fk (2,Tg.mk (tm 83 [(1,AV.pt 8001 0 0),(2,AV.pt 8002 0 0),(3,Z01 all),(5,u64 0),(7,u64 y0),(24,Z01 all),(25,int ↑all.length),(26,int ↑i),(37,Z0q y1),(38,int (y1.length:Int)),(39,int 0)]) [(8002,Blk.box 180 [int 0,int 0,u64 0]),(8001,Blk.box 28 h.cells)] 64,Ex.nrm,Tg.mk (tm 83 [(1,AV.pt 8001 0 0),(2,AV.pt 8002 0 0),(3,Z01 all),(24,Z01 all),(25,int ↑all.length),(26,int ↑i)]) [(8002,Blk.box 180 [int 0,int 0,u64 0]),(8001,Blk.box 28 h.cells)] 68) (Ftb 27 (Lb ((i:Int)<(all.length:Int))) (Fek 28 wdv all (↑i) i (Fc 33 (@Z41 h y0 aa oq) (Fc 37 (@Z3r ((atH h y0).1) aa) (Fl 38 idv y1 (Fa (@Znm h all i y0 y1 aa aa aa aa aa aa aa aa) (Fx 68 i Fz))))))))
theorem Zoo(x:Int)(hb:apF h all (all.getD i M)=Lk x):CP (rndF (unS f170) 0) (apL h all i).st (.ext 0) (Tg.st ⟨tm 83 [(1,.pt 8001 0 0),(2,.pt 8002 0 0),(5,u64 (all.getD i M+1+x))],[(8002,.box 180 [int 0,int 0,u64 0]),(8001,.box 28 h.cells)],72⟩):=by
 have hx:=hr (all.getD i M) (getD_mem_iff.2 ⟨i,hi,rfl⟩);have hm:=Z3F hw (all.getD i M);have hq:=Z4O (atH h (all.getD i M)).1;have hq1:=hq.1;have hq2:=hq.2;unfold apF at hb;let y0:=all.getD i M;let y1:=Z03 (atH h y0).1;exact sF [] [] (Fk (2,Tg.mk (tm 83 [(1,AV.pt 8001 0 0),(2,AV.pt 8002 0 0),(3,Z01 all),(5,u64 0),(7,u64 y0),(24,Z01 all),(25,int ↑all.length),(26,int ↑i),(37,Z0q y1),(38,int (y1.length:Int)),(39,int 0)]) [(8002,Blk.box 180 [int 0,int 0,u64 0]),(8001,Blk.box 28 h.cells)] 64,Ex.ext 0,Tg.mk (tm 83 [(1,AV.pt 8001 0 0),(2,AV.pt 8002 0 0),(5,u64 (all.getD i M+1+x))]) [(8002,Blk.box 180 [int 0,int 0,u64 0]),(8001,Blk.box 28 h.cells)] 68) (Ftb 27 (Lb ((i:Int)<(all.length:Int))) (Fek 28 wdv all (↑i) i (Fc 33 (@Z41 h y0 aa oq) (Fc 37 (@Z3r ((atH h y0).1) aa) (Fl 38 idv y1 (Fa (@ZmC h all i y0 y1 x aa aa aa aa aa aa aa aa) Fz)))))))
end
def ZqD(h:Heap)(all:List Int):CP (rndF (unS f170) 0) (apL h all all.length).st (.ext 0) (Tg.st ⟨tm 83 [(1,.pt 8001 0 0),(2,.pt 8002 0 0),(5,u64 0)],[(8002,.box 180 [int 0,int 0,u64 0]),(8001,.box 28 h.cells)],72⟩):=by
 exact sF [] [] (Ffb 27 (Lb ((all.length:Int)<(all.length:Int))) Fz)
def Zqo(h:Heap)(all:List Int)(hw:WOk h.W)(hwl:h.W.length<=1048576)(hl:all.length<=1048576)(hs:all.Pairwise (· < ·))(hr:∀ x∈all,0<=x/\x<=8192)(hf:all.find? (λa=>(apF h all a).isSome)=Lw)  := Z0a (S:=λi=>(apL h all i).st) all.length (by kernel_rfl) (λi hi=>ZhQ h all i hw hwl hl hs hr hi (by simpa using Z6z hf i hi)) (ZqD h all)
def ZnR(h:Heap)(all:List Int)(a x:Int)(hw:WOk h.W)(hwl:h.W.length<=1048576)(hl:all.length<=1048576)(hs:all.Pairwise (· < ·))(hr:∀ x∈all,0<=x/\x<=8192)(hf:all.find? (λa=>(apF h all a).isSome)=Lk a)(hx:apF h all a=Lk x):CP (blkF (unS f170) 0) (Tg.st ⟨tm 83 [(1,.pt 8001 0 0),(2,.pt 8002 0 0),(3,Z01 all),(5,u64 0),(24,Z01 all),(25,int all.length),(26,int 0)],[(8002,.box 180 [int 0,int 0,u64 0]),(8001,.box 28 h.cells)],60⟩) .nrm (Tg.st ⟨tm 83 [(1,.pt 8001 0 0),(2,.pt 8002 0 0),(5,u64 (a+1+x))],[(8002,.box 180 [int 0,int 0,u64 0]),(8001,.box 28 h.cells)],72⟩):=by
 obtain⟨n,h1,h2,h3,h4⟩:=Z3V hf;subst h2;exact Z0a (S:=λi=>(apL h all i).st) n kr (λi hi=>ZhQ h all i hw hwl hl hs hr oq (by simpa using h4 i hi)) (Zoo h all n hw hwl hl hs hr h1 x hx)
def ZqB(h:Heap):CP (firS (unS f170)) (Tg.st ⟨tm 83 [(0,h.av)],[],1⟩) .nrm (Tg.st ⟨tm 83 [(1,.pt 8001 0 0),(2,.pt 8002 0 0)],[(8002,.box 180 [int 0,int 0,u64 0]),(8001,.box 28 h.cells)],20⟩):=by
 exact sF [] [] Fz
def apAt(h:Heap):Int:=match (Z05 h).1.find? (λa=>(apF h (Z05 h).1 a).isSome)with
 | some a=>a+1+(apF h (Z05 h).1 a).getD 0
 | none=>0
def apW(h:Heap):Finding:=if apAt h=0 then⟨0,0,0⟩else⟨6,(ofA h.C (apAt h)).1,apAt h⟩
def ZqK(h:Heap)(hw:WOk h.W)(hwl:h.W.length<=1048576):CP (bdyS (unS f170)) (Tg.st ⟨tm 83 [(1,.pt 8001 0 0),(2,.pt 8002 0 0)],[(8002,.box 180 [int 0,int 0,u64 0]),(8001,.box 28 h.cells)],20⟩) .ret (Tg.st ⟨tm 83 [(2,.pt 8002 0 0)],[(8002,.box 180 [int (apW h).fault,int (apW h).page,u64 (apW h).addr])],90⟩):=by
 have hl:=Z2W h;have hs:=ZeH h;have hr:=Z4f h;cases hf:(Z05 h).1.find? (λa=>(apF h (Z05 h).1 a).isSome)with
 | none =>
  have e1:apAt h=0:=by simp only[apAt,hf]
  have e7:apW h=⟨0,0,0⟩:=if_pos e1;rw[e7];exact sF [] [] (Fk (0,Tg.mk (tm 83 [(1,AV.pt 8001 0 0),(2,AV.pt 8002 0 0),(3,Z01 (Z05 h).1),(5,u64 0),(24,Z01 (Z05 h).1),(25,int (↑(Z05 h).1.length:Int)),(26,int 0)]) [(8002,Blk.box 180 [int 0,int 0,u64 0]),(8001,Blk.box 28 h.cells)] 60,Ex.nrm,Tg.mk (tm 83 [(1,AV.pt 8001 0 0),(2,AV.pt 8002 0 0),(5,u64 0)]) [(8002,Blk.box 180 [int 0,int 0,u64 0]),(8001,Blk.box 28 h.cells)] 72) (Fc 21 (@Z67 h aa) (Fl 25 wdv (Z05 h).1 (Fa (@Zqo h ((Z05 h).1) aa aa oq aa aa aa) Fz))))
 | some a =>
  obtain⟨n,h1,h2,h3,h4⟩:=Z3V hf;obtain⟨x,hx⟩:=Xy.1 h3;have ha:=hr a (getD_mem_iff.2 ⟨n,h1,h2⟩);have hxr:=(Z4O (atH h a).1).2 x (Xv hx);have e1:apAt h=a+1+x:=by simp only[apAt,hf,hx,Lv]
  have e7:apW h=⟨6,(ofA h.C (a+1+x)).1,a+1+x⟩:=by rw[apW,e1,if_neg oq]
  rw[e7];exact sF [] [] (Fk (0,Tg.mk (tm 83 [(1,AV.pt 8001 0 0),(2,AV.pt 8002 0 0),(3,Z01 (Z05 h).1),(5,u64 0),(24,Z01 (Z05 h).1),(25,int (↑(Z05 h).1.length:Int)),(26,int 0)]) [(8002,Blk.box 180 [int 0,int 0,u64 0]),(8001,Blk.box 28 h.cells)] 60,Ex.nrm,Tg.mk (tm 83 [(1,AV.pt 8001 0 0),(2,AV.pt 8002 0 0),(5,u64 (a+1+x))]) [(8002,Blk.box 180 [int 0,int 0,u64 0]),(8001,Blk.box 28 h.cells)] 72) (Fc 21 (@Z67 h aa) (Fl 25 wdv (Z05 h).1 (Fa (@ZnR h ((Z05 h).1) a x aa aa oq aa aa aa aa) (Ffb 70 (a+1+x==0) (Fc 76 (@Z2p h.C (a+1+x) oq oq) Fz))))))
end Go.Proofs.YtdhchmlalchgeaaGreat
namespace Go.Proofs.YtdhchmlalchgeaaGreat
open Go.Sx Go.RowKit
def Finding.val(f:Finding):Value:=.agg #[.int .i64 f.fault,.int .i64 f.page,.int .u64 f.addr]
def Zf2(ρ:Rho)(w:World)(Im:Nat->Prop)(f:Finding):Rel ρ w Im f.av f.val:=by
 refine .ag _ _ rfl (λi v h=>?_) (λi a v ha hv=>?_)
 .rcases i with _ | _ | _ | i<;>simp at h<;>subst h<;>rfl
 .rcases i with _ | _ | _ | i<;>simp at ha hv<;>subst ha<;>subst hv<;>exact .d (.sc _ rfl)
def Zh0{ρ:Rho}{w:World}{Im:Nat->Prop}{f:Finding}{v:Value}(h:Rel ρ w Im f.av v):v=f.val:=by
 obtain⟨cs,h1,h2,h3,h4⟩:=Z3y h;rw[h1];have g:∀ (k:Nat) (hk:k<cs.size) (v:Value),[int f.fault,int f.page,u64 f.addr][k]? = Lk (.d (.sc v))->cs[k]=v:=λk hk v hv=>Z14 (h4 k _ cs[k] hv (Array.getElem?_eq_getElem hk));have hs:cs.size=3:=h2;simp only[Finding.val];congr 1;apply Array.ext
 .simp[hs]
 .intro k hk _;rcases k with _ | _ | _ | k
  .exact g 0 hk _ rfl
  .exact g 1 hk _ rfl
  .exact g 2 hk _ rfl
  .omega
def noGoto_ret{Q:Exit->Act->World->Prop}{a:Act}{w:World}(h:Q .ret a w):Exit.noGoto Q Ex.ret.exit a w:=h
def Z4K(h:Heap)(hw:WOk h.W)(hwl:h.W.length<=1048576):GP 170 [h.av] O (apW h).av []:=by
 intro w00 Im vs hIm hsz hargs;have hs1:vs.size=1:=hsz;have hbody:Tryz.f170.body=Lk (.seq (firS (unS f170)) (.scope (bdyS (unS f170)))):=by kernel_rfl
 refine calls_of_wp func170 hbody ?_;have S0:Sx.Sys Z4q Im w00 (tm 83 [(0,h.av)]) (hOf []) 1 { tmps:=vs++Array.replicate (Tryz.f170.ntmps-vs.size) undef,defers:=[] } w00:=by
  refine⟨_,Im,Sx.Inv.empty hIm (Lt 1),⟨by rw[hs1];simp[hs1];kernel_rfl,λk y v hy hv=>?_,rfl⟩⟩;rw[show tm 83 [(0,h.av)]=[h.av]++Lh 82 .any from by kernel_rfl,List.getElem?_append]at hy;rw[Array.getElem?_append]at hv;split at hy
  .rename_i hk;rw[if_pos (by rw[hsz];exact hk)]at hv;exact hargs k y v hy hv
  .have:=List.mem_of_getElem? hy;rw[(List.mem_replicate.1 this).2];exact .any _
 refine wp_seq (wp_mono (ZqB h _ _ _ _ _ S0) ?_);rintro e a1 w1 ⟨rfl,S1⟩;refine wp_scope_straight (wp_mono (ZqK h hw hwl _ _ _ _ _ S1) ?_);rintro e a2 w2 ⟨rfl,ρ2,Im2,I2,T2⟩;obtain⟨v,hv1,hv2⟩:=Z7G (P:=prog) (fn:=f170) (l:=[(apW h).av]) I2 T2 kr;refine noGoto_ret (bodyPost_ret hv1 T2.defers ⟨v,rfl,I2.kept.no,λ_=>Lw,λ_=>False,λ_ q=>q.elim,λ_ q=>q.elim,λ_ _ _ q=>(by cases q),λ_ _ _ _ _ q=>(by cases q),λ_ _ q=>(by cases q),λk B q=>by simp at q, ?_⟩);rw[Zh0 (show Rel ρ2 w2 Im2 (apW h).av v from hv2)];exact Zf2 _ _ _ _
end Go.Proofs.YtdhchmlalchgeaaGreat
namespace Go.Proofs.YtdhchmlalchgeaaGreat
open Go.Sx
def Zl6{c:List Int}{x k:Int}(hk:0<=k){o:Nat}(ho:o<c.length):(clrW c x k).getD o 0=if x<=o/\(o:Int)<x+k then 0 else c.getD o 0:=by
 have h1:loC c x<=c.length:=Zfq c x;have h2:loC c (x+k)<=c.length:=Zfq c (x+k);have h3:=Zfv c x hk;have e1:loC c x+(loC c (x+k)-loC c x)=loC c (x+k):=by omega
 have a1:o<loC c x↔(o:Int)<x:=by unfold loC;omega
 have a2:o<loC c (x+k)↔(o:Int)<x+k:=by unfold loC;omega
 unfold clrW;rw[e1];simp only[Le];by_cases h4:o<loC c x
 .rw[L5,LQ qo,L8,if_pos h4,if_neg (by have:=a1.1 h4;omega)]
 .by_cases h5:o<loC c (x+k)
  .rw[LQ qo,L6 qo,if_pos (by have:=a2.1 h5;omega)];rw[LS,if_pos qo];rfl
  .rw[L6 qo,LR,if_neg (λq=>h5 (a2.2 q.2))];congr 2;simp;omega
def ZhG{h:Heap}{F:Int}{l c:List Int}{o:Nat}(ho:o<c.length):∀ n:Nat,n<=l.length->(cwN h F l c n).getD o 0=if(l.take n).any (λa=>Lb (a-F<=o)&&Lb ((o:Int)<a-F+Z4y h a))=O then 0 else c.getD o 0
 | 0,_=>by simp[cwN]
 | n+1,hn=>by
  have hl:=Z8o h F l c n;rw[cwN,Zl6 (Z9G h _).1 oq,ZhG ho n oq,Z9f oq,List.any_append];generalize l.getD n M=a;generalize (l.take n).any _=b;by_cases h1:a-F<=o/\(o:Int)<a-F+Z4y h a
  .rw[if_pos h1,if_pos (by simp[h1])]
  .rw[if_neg h1];have:([a].any λa=>Lb (a-F<=(o:Int))&&Lb ((o:Int)<a-F+Z4y h a))=Lc:=by
    simp only[List.any_cons,List.any_nil,Xi,Bool.and_eq_false_iff,decide_eq_false_iff_not];omega
   rw[this,Xi]
def Zc6{h:Heap}(hp:Z02 h=O){i:Nat}(hi:i<h.P.length){o:Int}(ho:0<=o/\o<h.C.pw):(address h.C i o).1=4096+(i*h.C.pw+o):=by
 have po:=Z06 hp;unfold address;rw[if_pos po.1,if_pos (inB_iff.2 oq)]
def Zei{h:Heap}(hp:Z02 h=O){i:Nat}(hi:i<h.P.length):0<=(i:Int)*h.C.pw/\(i:Int)*h.C.pw+h.C.pw<=h.W.length:=by
 have po:=Z06 hp;have h1:((i:Int)+1)*h.C.pw<=h.C.pg*h.C.pw:=LD oq oq;have h2:((i:Int)+1)*h.C.pw=i*h.C.pw+h.C.pw:=by rw[LO,Xm]
 have h3:h.C.pg*h.C.pw=h.C.pw*h.C.pg:=Ly _ _;have h4:(0:Int)<=i*h.C.pw:=LF oq oq;omega
def ZlS{h:Heap}(hp:Z02 h=O){i:Nat}(hi:i<h.P.length):(rawP h i).length=h.C.pw.toNat/\∀ o:Nat,o<h.C.pw.toNat->(rawP h i).getD o 0=Z4e h i o:=by
 have po:=Z06 hp;have pi:=Zei hp hi;have e0:=Zc6 hp hi (o:=0) oq;constructor
 .simp only[rawP,LI,Xa];omega
 .intro o ho;have e1:=Zc6 hp hi (o:=o) oq;unfold Z4e loadA;rw[e1];rw[if_pos oq];simp only[rawP,Le,L8,LR,if_pos ho];rw[e0,show(4096+((i:Int)*h.C.pw+0)-4096).toNat+o=(4096+((i:Int)*h.C.pw+(o:Int))-4096).toNat from by omega]
def ZbS{h:Heap}(hp:Z02 h=O){i:Nat}(hi:i<h.P.length):(clrP h i).length=h.C.pw.toNat/\∀ o:Nat,o<h.C.pw.toNat->(clrP h i).getD o 0=if(Z2n h i).getD o M=O then 0 else Z4e h i o:=by
 have po:=Z06 hp;obtain⟨r1,r2⟩:=ZlS hp hi;constructor
 .rw[clrP,Z8o,r1]
 .intro o ho;rw[clrP,ZhG oq _ (Lt _),List.take_length,r2 o ho];have e0:=Zc6 hp hi (o:=0) oq;have e:(Z2n h i).getD o M=(Z09 h (Z0E h.P i:Nat)).1.any (λa=>Lb (a-(address h.C i 0).1<=(o:Int))&&Lb ((o:Int)<a-(address h.C i 0).1+Z4y h a)):=by
   unfold Z2n Z1L;rw[Le,L7,List.getElem?_range ho];simp only[LY,Lv];congr 1;funext a
   unfold Z8u;rw[e0,show a-(4096+((i:Int)*h.C.pw+0))=a-4096-i*h.C.pw from by omega]
  rw[e]
def ZfJ{h:Heap}(hp:Z02 h=O){i:Nat}(hi:i<h.P.length)(e:fstW (clrP h i)<(clrP h i).length):Z2Y h i (Z2n h i)=4096+i*h.C.pw+fstW (clrP h i):=by
 obtain⟨c1,c2⟩:=ZbS hp hi;have hu:=Z6q h i;have hf:(Lf (Z2n h i).length).find? (badD h i (Z2n h i))=Lk (fstW (clrP h i)):=by
  rw[Lq];refine⟨?_,Lg.2 oq,λj hj=>?_⟩
  .have h1:=Zfw e;rw[show(M:Int)=0 from rfl,c2 _ oq]at h1;split at h1
   .exact absurd rfl h1
   .rename_i h2;simp only[badD,LZ,L0,decide_eq_true_eq];exact⟨by simpa using h2,h1⟩
  .have h1:=(Zbw hj).2;rw[show(M:Int)=0 from rfl,c2 _ oq]at h1;simp only[badD,Bool.not_and,Bool.not_not,Bool.or_eq_true,L0,decide_eq_false_iff_not];split at h1
   .rename_i h2;exact .inl h2
   .exact .inr (λq=>q h1)
 unfold Z2Y;rw[hf]
def ZoS{h:Heap}(hp:Z02 h=O){i:Nat}(hi:i<h.P.length)(e:¬ fstW (clrP h i)<(clrP h i).length):Z2Y h i (Z2n h i)=0:=by
 obtain⟨c1,c2⟩:=ZbS hp hi;have hu:=Z6q h i;have hf:(Lf (Z2n h i).length).find? (badD h i (Z2n h i))=Lw:=by
  rw[Lp];intro j hj;have hj:=Lg.1 hj;have h1:=(Zbw (l:=clrP h i) (m:=j) oq).2;rw[show(M:Int)=0 from rfl,c2 _ oq]at h1;simp only[badD,LZ,L0,decide_eq_true_eq,not_and];intro h2 h3;rw[if_neg (by rw[h2];simp)]at h1;exact h3 h1
 unfold Z2Y;rw[hf]
def Z7v{h:Heap}(hp:Z02 h=O){i:Nat}(hi:i<h.P.length):Z21 h i (Z09 h i).1=Lb (Z16 h i (Z09 h i).1≠0):=by
 unfold Z16 Z21;cases hf:(Z09 h i).1.find? (Z1y h i)with
 | none=>simp
 | some x =>
  have hx:=Xv hf;have e:=Z7E hp (i:=i) oq;rw[e]at hx;obtain⟨y,hy,rfl⟩:=Xu.1 hx;have h1:=(Z5q y hy).1;have h2:=(Zei hp hi).1;have:y.addr≠0:=by omega
  simp[this]
def find_congr{α:Type}{p q:α->Bool}:∀ {l:List α},(∀ x∈l,p x=q x)->l.find? p=l.find? q
 | [],_=>rfl
 | a::l,h=>by
  rw[Xq,Xq,h a pq,find_congr (l:=l) (λx hx=>h x (by simp[hx]))]
def find_range{l:List Int}{p:Int->Bool}:match (Lf l.length).find? (λi=>p (l.getD i M))with | Lw=>l.find? p=Lw | Lk i=>l.find? p=Lk (l.getD i M):=by
 split
 .rename_i hb;rw[Lp]at hb ⊢;intro x hx;obtain⟨i,hi,e⟩:=getD_mem_iff.1 hx;have:=hb i (Lg.2 hi);rwa [e]at this
 .rename_i i hb;obtain⟨h1,h2,h3⟩:=Lq.1 hb;have h2:=Lg.1 h2;cases hf:l.find? p with
  | none =>
   have:=Lp.1 hf (l.getD i M) (getD_mem_iff.2 ⟨i,h2,rfl⟩);exact absurd h1 this
  | some x =>
   obtain⟨n,k1,k2,k3,k4⟩:=Z3V hf;have hn:n=i:=by
    rcases Nat.lt_trichotomy n i with q | q | q
    .have:=h3 n q;rw[k2,k3]at this;cases this
    .exact q
    .have:=k4 i q;rw[h1]at this;cases this
   subst hn;rw[k2]
def Z9K{h:Heap}{a:Int}(ha:a∈(Z05 h).1):(atH h a).2=0/\(atH h a).1.K≠0:=by
 by_cases e:(allW h).2=0
 .rw[Zis h e]at ha;obtain⟨x,hx,rfl⟩:=Xu.1 ha;obtain⟨h1,h2⟩:=List.mem_filter.1 hx;obtain⟨h3,h4⟩:=Zi7 x h1;refine⟨h4, ?_⟩;rw[<- h3];simpa[Z2G]using h2
 .rw[Zg2 h e]at ha;simp at ha
def Z7i(hd:Header):∀ n:Nat,Z11 hd n=((Lf n).filter (λk:Nat=>Z0d hd k)).map (λk:Nat=>(k:Int))
 | 0=>rfl
 | n+1=>by
  rw[Z11,LV,List.filter_append,LC,<- Z7i hd n];by_cases h:Z0d hd (n:Int)=O
  .rw[if_pos h];simp[h]
  .rw[if_neg h];simp[h]
def ptrF(h:Heap)(all:List Int)(a:Int):Option Nat:=(Lf (Z10 h a).1.length).find? (Z9U (getH h a).1 (Z10 h a).1 all)
def Zqc{h:Heap}{a:Int}(e:(atH h a).2=0)(hk:(atH h a).1.K≠0)(all:List Int):apF h all a=(ptrF h all a).map (λk:Nat=>(k:Int)):=by
 have i1:=Zjm e;have i2:=(ZdF e).1;have g1:getH h a=atH h a:=by
  unfold getH;rw[if_pos i2,if_neg oq,if_neg (λq=>hk q.2)]
 have g2:=Z3W (h:=h) (a:=a) (by rw[g1];exact e);rw[g1]at g2;have hv:=g2.2.2.2.2.2.2.1;have hl:=g2.2.2.2.2.2.2.2.2.2;have f1:(Z10 h a).1=(h.W.drop (a+1-4096).toNat).take (atH h a).1.length.toNat:=by
  unfold Z10;rw[g1,if_pos e,Z1n,if_neg oq,if_pos oq]
 have fl:(Z10 h a).1.length=(atH h a).1.length.toNat:=by
  rw[f1,LI,Xa];omega
 have fg:∀ k:Nat,k<(atH h a).1.length.toNat->(Z10 h a).1.getD k M=fdV h a k:=by
  intro k hk;unfold fdV loadA;rw[if_pos oq,f1];simp only[Le,L8,LR,if_pos hk];rw[show(a+1-4096).toNat+k=(a+1+(k:Int)-4096).toNat from by omega];rfl
 unfold apF ptrF Z03;rw[if_pos hv,Z7i,List.find?_map,List.find?_filter,fl,g1];congr 1;refine find_congr λk hk=>?_;have hk:=Lg.1 hk;rw[Z9U,fg k hk];simp only[Function.comp,pbad];cases Z0d (atH h a).1 (k:Int)<;>simp
def Zpa(h:Heap):apW h=Z13 h (Z05 h).1:=by
 have hr:=find_range (l:=(Z05 h).1) (p:=λa=>(ptrF h (Z05 h).1 a).isSome);have hc:(Z05 h).1.find? (λa=>(apF h (Z05 h).1 a).isSome)=(Z05 h).1.find? (λa=>(ptrF h (Z05 h).1 a).isSome):=find_congr λa ha=>by
  rw[Zqc (Z9K ha).1 (Z9K ha).2,Option.isSome_map]
 unfold apW apAt Z13;rw[hc];change match (Lf (Z05 h).1.length).find? (λi=>(Z22 h (Z05 h).1 i).isSome)with | Lw=>_ | Lk i=>_ at hr
 split at hr
 .rename_i hb;rw[hr,hb];rfl
 .rename_i i hb;have h1:=(Lq.1 hb)
  have hm:(Z05 h).1.getD i M∈(Z05 h).1:=getD_mem_iff.2 ⟨i,Lg.1 h1.2.1,rfl⟩;obtain⟨k,hk⟩:=Xy.1 h1.1;have hk':ptrF h (Z05 h).1 ((Z05 h).1.getD i M)=Lk k:=hk;have i1:=Zjm (Z9K hm).1;rw[hr,hb];simp only[hk,Zqc (Z9K hm).1 (Z9K hm).2,hk',LY,Lv];rw[if_neg oq]
end Go.Proofs.YtdhchmlalchgeaaGreat
