/-
 The statement ScanOrder: part 14.
 Conditions: none.
-/
import Derived.Test.YtdhchmlalchgeaaGreatN13
set_option maxRecDepth 100000
set_option maxHeartbeats 2000000
set_option linter.all false
open Inhabited renaming default->M
open Bool renaming true->O,false->Lc,and_eq_true->LI,not_eq_true'->LL,or_false->L1
open Decidable renaming decide->La,not_not->L2
open Int renaming toNat->Lb,mul_comm->Lv,mul_nonneg->Lw,mul_le_mul_of_nonneg_right->LD,toNat_natCast->LM,add_mul->L3,le_refl->L4,one_mul->L5,sub_mul->L6,tdiv_eq_ediv_of_nonneg->L7,tmod_eq_emod_of_nonneg->L8
open List renaming map->Ld,replicate->Le,getD_eq_getElem?_getD->Lg,range->Lh,mem_range->Li,drop->Lj,take->Lk,find?_range_eq_some->Ln,mem_append_left->Lo,find?_eq_none->Lp,getElem?_eq_getElem->Lr,map_cons->Ls,sum_cons->Lt,mem_append_right->Lx,length_replicate->LA,length_take->LB,map_append->LC,getElem?_drop->LF,mem_cons_of_mem->LG,getElem?_append_left->LN,getElem?_map->LO,getElem?_replicate->LQ,getElem?_take->LR,length_append->LS,length_drop->LU,length_map->LV,length_singleton->LW,map_drop->LY,map_take->LZ,mem_cons->L0,append_assoc->L9,ext_getElem->Xa,find?_cons->Xb,getElem?_append_right->Xc,getElem?_eq_none->Xd,length_set->Xe,map_replicate->Xf,mem_map->Xg,mem_of_find?_eq_some->Xh,range_succ->Xi
open Option renaming some->Lf,none->Ll,getD_some->Lz,map_some->LH,isSome_iff_exists->Xk
open Or renaming inl->Lm,inr->Lu
open Classical renaming not_not->Lq
open Nat renaming le_refl->Ly,not_lt_zero->Xj
open Go.Proofs.Tryz
namespace Go.Proofs.YtdhchmlalchgeaaGreat
open Go.Sx
def Zk0(w:Work)(k:CkOk w)(hs:w.D<w.Q.length)(sc:0<=w.D)(hr:4096<=w.Q.getD w.D.toNat M/\w.Q.getD w.D.toNat M+hlA w.heap.W (w.Q.getD w.D.toNat M)<4096+w.heap.W.length)(hd:(decodeH (loadA w.heap.W (w.Q.getD w.D.toNat M)).1).2=O)(hN:StpOk w (Z0U w) (Z0n w))(h0:∀ j,j<(Z0n w).length->innE w (Z0U w) (Z0n w) j=0):BP 98 [.pt 0 0 0] w.ckp (.tu [bool O,int 0]) (Z3H (innN w (Z0U w) (Z0n w) (Z0n w).length) (Z0n w).length).ckq:=by
 have hb:(Lh (Z0n w).length).find? (λk=>La (innE w (Z0U w) (Z0n w) k≠0))=Ll:=Lp.2 λj hj=>by simp[h0 j (Li.1 hj)]
 have hmm:=k.mem;obtain⟨h1,h2,h3,h4,h5⟩:=k.ln;have ok:=k.ok;have k1:=Z43 ok (Z0U w) (Z0n w) (Z0n w).length h0;have k2:=k1.1.rs;have k3:=k1.1.sc;have k4:=k1.1.mu;have pr:=(Z35 (hdW w (Z0U w)))
 have pl:∀ x∈Z0n w,0<=x/\x+1<hlA w.heap.W (Z0U w)+1:=λx hx=>by
  have:=Z1Q (hdW w (Z0U w)) x hx;unfold hdW at this;unfold hlA;omega
 have lr:=Z0b w.heap.W (w.Q.getD w.D.toNat M);have cf:=validB_iff.1 ok.C;have ld:=Z0D ok.W (w.Q.getD w.D.toNat M);have hdw:=Z1N w (w.Q.getD w.D.toNat M);have sz:=Z2K w (w.Q.getD w.D.toNat M);have hm:=Z1q (loadA w.heap.W (w.Q.getD w.D.toNat M)).1 ld.1;have el:(loadA w.heap.W (w.Q.getD w.D.toNat M)).1=w.heap.W.getD ((w.Q.getD w.D.toNat M-4096).toNat+Lb 0) M:=by
  unfold loadA;rw[if_pos oq];rfl
 unfold Z0n Z0U hdW at *;rw[el]at hd ld hdw sz hm hN h0 hb k1 k2 k3 k4 pr ⊢;try rw[el]at pl
 rw[show Z3H (innN w (w.Q.getD w.D.toNat M) (Z03 (decodeH (w.heap.W.getD ((w.Q.getD w.D.toNat M-(4096:Int)).toNat+Lb (0:Int)) M)).1) (Z03 (decodeH (w.heap.W.getD ((w.Q.getD w.D.toNat M-(4096:Int)).toNat+Lb (0:Int)) M)).1).length) (↑(Z03 (decodeH (w.heap.W.getD ((w.Q.getD w.D.toNat M-(4096:Int)).toNat+Lb (0:Int)) M)).1).length:Int)=Work.mk (innN w (w.Q.getD w.D.toNat M) (Z03 (decodeH (w.heap.W.getD ((w.Q.getD w.D.toNat M-(4096:Int)).toNat+Lb (0:Int)) M)).1) (Z03 (decodeH (w.heap.W.getD ((w.Q.getD w.D.toNat M-(4096:Int)).toNat+Lb (0:Int)) M)).1).length).heap (innN w (w.Q.getD w.D.toNat M) (Z03 (decodeH (w.heap.W.getD ((w.Q.getD w.D.toNat M-(4096:Int)).toNat+Lb (0:Int)) M)).1) (Z03 (decodeH (w.heap.W.getD ((w.Q.getD w.D.toNat M-(4096:Int)).toNat+Lb (0:Int)) M)).1).length).old (innN w (w.Q.getD w.D.toNat M) (Z03 (decodeH (w.heap.W.getD ((w.Q.getD w.D.toNat M-(4096:Int)).toNat+Lb (0:Int)) M)).1) (Z03 (decodeH (w.heap.W.getD ((w.Q.getD w.D.toNat M-(4096:Int)).toNat+Lb (0:Int)) M)).1).length).T (innN w (w.Q.getD w.D.toNat M) (Z03 (decodeH (w.heap.W.getD ((w.Q.getD w.D.toNat M-(4096:Int)).toNat+Lb (0:Int)) M)).1) (Z03 (decodeH (w.heap.W.getD ((w.Q.getD w.D.toNat M-(4096:Int)).toNat+Lb (0:Int)) M)).1).length).Q ((innN w (w.Q.getD w.D.toNat M) (Z03 (decodeH (w.heap.W.getD ((w.Q.getD w.D.toNat M-(4096:Int)).toNat+Lb (0:Int)) M)).1) (Z03 (decodeH (w.heap.W.getD ((w.Q.getD w.D.toNat M-(4096:Int)).toNat+Lb (0:Int)) M)).1).length).D+(1:Int)) (Rep.mk (innN w (w.Q.getD w.D.toNat M) (Z03 (decodeH (w.heap.W.getD ((w.Q.getD w.D.toNat M-(4096:Int)).toNat+Lb (0:Int)) M)).1) (Z03 (decodeH (w.heap.W.getD ((w.Q.getD w.D.toNat M-(4096:Int)).toNat+Lb (0:Int)) M)).1).length).rep.copied (innN w (w.Q.getD w.D.toNat M) (Z03 (decodeH (w.heap.W.getD ((w.Q.getD w.D.toNat M-(4096:Int)).toNat+Lb (0:Int)) M)).1) (Z03 (decodeH (w.heap.W.getD ((w.Q.getD w.D.toNat M-(4096:Int)).toNat+Lb (0:Int)) M)).1).length).rep.kept (innN w (w.Q.getD w.D.toNat M) (Z03 (decodeH (w.heap.W.getD ((w.Q.getD w.D.toNat M-(4096:Int)).toNat+Lb (0:Int)) M)).1) (Z03 (decodeH (w.heap.W.getD ((w.Q.getD w.D.toNat M-(4096:Int)).toNat+Lb (0:Int)) M)).1).length).rep.filled (innN w (w.Q.getD w.D.toNat M) (Z03 (decodeH (w.heap.W.getD ((w.Q.getD w.D.toNat M-(4096:Int)).toNat+Lb (0:Int)) M)).1) (Z03 (decodeH (w.heap.W.getD ((w.Q.getD w.D.toNat M-(4096:Int)).toNat+Lb (0:Int)) M)).1).length).rep.freed (innN w (w.Q.getD w.D.toNat M) (Z03 (decodeH (w.heap.W.getD ((w.Q.getD w.D.toNat M-(4096:Int)).toNat+Lb (0:Int)) M)).1) (Z03 (decodeH (w.heap.W.getD ((w.Q.getD w.D.toNat M-(4096:Int)).toNat+Lb (0:Int)) M)).1).length).rep.cleared ((innN w (w.Q.getD w.D.toNat M) (Z03 (decodeH (w.heap.W.getD ((w.Q.getD w.D.toNat M-(4096:Int)).toNat+Lb (0:Int)) M)).1) (Z03 (decodeH (w.heap.W.getD ((w.Q.getD w.D.toNat M-(4096:Int)).toNat+Lb (0:Int)) M)).1).length).rep.steps+((1:Int)+(↑(Z03 (decodeH (w.heap.W.getD ((w.Q.getD w.D.toNat M-(4096:Int)).toNat+Lb (0:Int)) M)).1).length:Int))))from by(simp[Z3H, *];omega)];exact borF [0,1,8002,3,8004,8005] [8002,8004,8005] func98 [] (Fh 52 [.el (wdv (w.heap.W.getD ((w.Q.getD w.D.toNat M-4096).toNat+Lb 0) M))] (FlG 28 (!decide (w.D<0)) wdv w.Q (Ffb 30 (La (w.D<0)||La ((w.Q.length:Int)<=w.D)) (Fmq 40 wdv w.Q w.D (Fbq 44 [0,1,8002,3,8004,8005] (@Z20 w (w.Q.getD w.D.toNat M) (1) aa oq) (Fo ((0:Int)<=0/\Lb 0<Lb 1) (Fa (by exact Z0I oq:(Ld wdv w.heap.W)[(w.Q.getD w.D.toNat M-4096).toNat+Lb 0]? = Lf (wdv (w.heap.W.getD ((w.Q.getD w.D.toNat M-4096).toNat+Lb 0) M))) (Fc 53 (@Z0P (w.heap.W.getD ((w.Q.getD w.D.toNat M-4096).toNat+Lb 0) M) oq oq) (Fc 60 (@Z0S ((decodeH (w.heap.W.getD ((w.Q.getD w.D.toNat M-4096).toNat+Lb 0) M)).1) aa) (Fbq 61 [0,1,8002,3,8004,8005] (@Z20 w (w.Q.getD w.D.toNat M) (sizeH (decodeH (w.heap.W.getD ((w.Q.getD w.D.toNat M-4096).toNat+Lb 0) M)).1) aa oq) (Ffs 69 (!(decodeH (w.heap.W.getD ((w.Q.getD w.D.toNat M-4096).toNat+Lb 0) M)).2||Lc) (Fc 71 (@Z3A ((decodeH (w.heap.W.getD ((w.Q.getD w.D.toNat M-4096).toNat+Lb 0) M)).1) aa) (Fl 73 idv (Z03 (decodeH (w.heap.W.getD ((w.Q.getD w.D.toNat M-(4096:Int)).toNat+Lb (0:Int)) M)).1) (Fu (@ZoS w (w.Q.getD w.D.toNat M) (sizeH (decodeH (w.heap.W.getD ((w.Q.getD w.D.toNat M-4096).toNat+Lb 0) M)).1) (Z03 (decodeH (w.heap.W.getD ((w.Q.getD w.D.toNat M-4096).toNat+Lb 0) M)).1) aa oq (by grind[Z3H]) oq oq aa) (Fi 101 ((innN w (w.Q.getD w.D.toNat M) (Z03 (decodeH (w.heap.W.getD ((w.Q.getD w.D.toNat M-4096).toNat+Lb 0) M)).1) (Z03 (decodeH (w.heap.W.getD ((w.Q.getD w.D.toNat M-4096).toNat+Lb 0) M)).1).length).D+1) (Fl 110 idv (Z03 (decodeH (w.heap.W.getD ((w.Q.getD w.D.toNat M-(4096:Int)).toNat+Lb (0:Int)) M)).1) (Fi 111 (1+(↑(Z03 (decodeH (w.heap.W.getD ((w.Q.getD w.D.toNat M-4096).toNat+Lb 0) M)).1).length:Int)) (Fi 112 ((innN w (w.Q.getD w.D.toNat M) (Z03 (decodeH (w.heap.W.getD ((w.Q.getD w.D.toNat M-4096).toNat+Lb 0) M)).1) (Z03 (decodeH (w.heap.W.getD ((w.Q.getD w.D.toNat M-4096).toNat+Lb 0) M)).1).length).rep.steps+(1+(↑(Z03 (decodeH (w.heap.W.getD ((w.Q.getD w.D.toNat M-4096).toNat+Lb 0) M)).1).length:Int))) Fz))))))))))))))))))
def Zob(w:Work)(k:CkOk w)(hs:w.D<w.Q.length)(sc:0<=w.D)(hr:4096<=w.Q.getD w.D.toNat M/\w.Q.getD w.D.toNat M+hlA w.heap.W (w.Q.getD w.D.toNat M)<4096+w.heap.W.length)(hd:(decodeH (loadA w.heap.W (w.Q.getD w.D.toNat M)).1).2=O)(hN:StpOk w (Z0U w) (Z0n w))(i:Nat)(hb:(Lh (Z0n w).length).find? (λk=>La (innE w (Z0U w) (Z0n w) k≠0))=Lf i):BP 98 [.pt 0 0 0] w.ckp (.tu [bool Lc,int (innE w (Z0U w) (Z0n w) i)]) (innN w (Z0U w) (Z0n w) i).ckq:=by
 have hmm:=k.mem;obtain⟨h1,h2,h3,h4,h5⟩:=k.ln;have ok:=k.ok;have pr:=(Z35 (hdW w (Z0U w)))
 have pl:∀ x∈Z0n w,0<=x/\x+1<hlA w.heap.W (Z0U w)+1:=λx hx=>by
  have:=Z1Q (hdW w (Z0U w)) x hx;unfold hdW at this;unfold hlA;omega
 have lr:=Z0b w.heap.W (w.Q.getD w.D.toNat M);have cf:=validB_iff.1 ok.C;have ld:=Z0D ok.W (w.Q.getD w.D.toNat M);have hdw:=Z1N w (w.Q.getD w.D.toNat M);have sz:=Z2K w (w.Q.getD w.D.toNat M);have hm:=Z1q (loadA w.heap.W (w.Q.getD w.D.toNat M)).1 ld.1;have el:(loadA w.heap.W (w.Q.getD w.D.toNat M)).1=w.heap.W.getD ((w.Q.getD w.D.toNat M-4096).toNat+Lb 0) M:=by
  unfold loadA;rw[if_pos oq];rfl
 unfold Z0n Z0U hdW at *;rw[el]at hd ld hdw sz hm hN hb pr ⊢;try rw[el]at pl
 exact borF [0,1,8002,3,8004,8005] [8002,8004,8005] func98 [] (Fh 52 [.el (wdv (w.heap.W.getD ((w.Q.getD w.D.toNat M-4096).toNat+Lb 0) M))] (FlG 28 (!decide (w.D<0)) wdv w.Q (Ffb 30 (La (w.D<0)||La ((w.Q.length:Int)<=w.D)) (Fmq 40 wdv w.Q w.D (Fbq 44 [0,1,8002,3,8004,8005] (@Z20 w (w.Q.getD w.D.toNat M) (1) aa oq) (Fo ((0:Int)<=0/\Lb 0<Lb 1) (Fa (by exact Z0I oq:(Ld wdv w.heap.W)[(w.Q.getD w.D.toNat M-4096).toNat+Lb 0]? = Lf (wdv (w.heap.W.getD ((w.Q.getD w.D.toNat M-4096).toNat+Lb 0) M))) (Fc 53 (@Z0P (w.heap.W.getD ((w.Q.getD w.D.toNat M-4096).toNat+Lb 0) M) oq oq) (Fc 60 (@Z0S ((decodeH (w.heap.W.getD ((w.Q.getD w.D.toNat M-4096).toNat+Lb 0) M)).1) aa) (Fbq 61 [0,1,8002,3,8004,8005] (@Z20 w (w.Q.getD w.D.toNat M) (sizeH (decodeH (w.heap.W.getD ((w.Q.getD w.D.toNat M-4096).toNat+Lb 0) M)).1) aa oq) (Ffs 69 (!(decodeH (w.heap.W.getD ((w.Q.getD w.D.toNat M-4096).toNat+Lb 0) M)).2||Lc) (Fc 71 (@Z3A ((decodeH (w.heap.W.getD ((w.Q.getD w.D.toNat M-4096).toNat+Lb 0) M)).1) aa) (Fl 73 idv (Z03 (decodeH (w.heap.W.getD ((w.Q.getD w.D.toNat M-(4096:Int)).toNat+Lb (0:Int)) M)).1) (Fu (@ZlU w (w.Q.getD w.D.toNat M) (sizeH (decodeH (w.heap.W.getD ((w.Q.getD w.D.toNat M-4096).toNat+Lb 0) M)).1) (Z03 (decodeH (w.heap.W.getD ((w.Q.getD w.D.toNat M-4096).toNat+Lb 0) M)).1) aa oq (by grind[]) oq oq i aa) Fz))))))))))))))
structure Z3j (w:Work):Prop where
 k:CkOk w
 sc:0<=w.D
 hr:w.D<w.Q.length->4096<=w.Q.getD w.D.toNat M/\w.Q.getD w.D.toNat M+hlA w.heap.W (w.Q.getD w.D.toNat M)<4096+w.heap.W.length
 hd:w.D<w.Q.length->(decodeH (loadA w.heap.W (w.Q.getD w.D.toNat M)).1).2=O
 hN:w.D<w.Q.length->StpOk w (Z0U w) (Z0n w)
def Zja(w:Work)(k:Z3j w)(hs:¬ w.D<w.Q.length):GP 49 [w.av] O (.tu [w.av,bool Lc,int 0]) []:=by
 have ln:=k.k.ln;have sc:=k.sc;exact gF [] func49 [] (Fbr 9 [] (@Za2 w aa) (Fbq 12 [17009,18009,19009,20009,21009,22009] (@Zkv w aa aa aa) (Fa (by exact Z1a _:Z0x (Ld wdv w.heap.W)) (Fa (by exact Z1O _:Z0x (Ld Page.dv w.heap.P)) (Fa (by exact Z1a _:Z0x (Ld wdv w.old)) (Fa (by exact Z3P _:Z0x (Ld idv w.T)) (Fa (by exact Z1a _:Z0x (Ld wdv w.Q)) Fz)))))))
def Zik(w:Work)(k:Z3j w)(hs:w.D<w.Q.length)(h0:∀ j,j<(Z0n w).length->innE w (Z0U w) (Z0n w) j=0):GP 49 [w.av] O (.tu [(Z3H (innN w (Z0U w) (Z0n w) (Z0n w).length) (Z0n w).length).av,bool O,int 0]) []:=by
 have ln:=k.k.ln;obtain⟨kk,sc,hr,hd,hN⟩:=k;have hr:=hr hs;have hd:=hd hs;have hN:=hN hs;let y0:=Z3H (innN w (Z0U w) (Z0n w) (Z0n w).length) (↑(Z0n w).length:Int);exact gF [] func49 [] (Fbr 9 [] (@Za2 w aa) (Fbr 12 [17009,18009,19009,20009,21009,22009] (@Zk0 w aa aa aa aa aa aa aa) (Fa (by exact Z1a _:Z0x (Ld wdv y0.heap.W)) (Fa (by exact Z1O _:Z0x (Ld Page.dv y0.heap.P)) (Fa (by exact Z1a _:Z0x (Ld wdv y0.old)) (Fa (by exact Z3P _:Z0x (Ld idv y0.T)) (Fa (by exact Z1a _:Z0x (Ld wdv y0.Q)) Fz)))))))
def stpI(w:Work):Nat:=((Lh (Z0n w).length).find? (λk=>La (innE w (Z0U w) (Z0n w) k≠0))).getD 0
def ZjF{w:Work}{i:Nat}(h:(Lh (Z0n w).length).find? (λk=>La (innE w (Z0U w) (Z0n w) k≠0))=Lf i):stpI w=i:=by unfold stpI;rw[h];rfl
def ZoG(w:Work)(k:CkOk w)(hs:w.D<w.Q.length)(sc:0<=w.D)(hr:4096<=w.Q.getD w.D.toNat M/\w.Q.getD w.D.toNat M+hlA w.heap.W (w.Q.getD w.D.toNat M)<4096+w.heap.W.length)(hd:(decodeH (loadA w.heap.W (w.Q.getD w.D.toNat M)).1).2=O)(hN:StpOk w (Z0U w) (Z0n w))(hb:(Lh (Z0n w).length).find? (λk=>La (innE w (Z0U w) (Z0n w) k≠0))=Lf (stpI w)):BP 98 [.pt 0 0 0] w.ckp (.tu [bool Lc,int (innE w (Z0U w) (Z0n w) (stpI w))]) (innN w (Z0U w) (Z0n w) (stpI w)).ckq :=
 Zob w k hs sc hr hd hN (stpI w) hb
def Zkl(w:Work)(k:Z3j w)(hs:w.D<w.Q.length)(hb:(Lh (Z0n w).length).find? (λk=>La (innE w (Z0U w) (Z0n w) k≠0))=Lf (stpI w)):GP 49 [w.av] O (.tu [noWork.av,bool Lc,int (innE w (Z0U w) (Z0n w) (stpI w))]) []:=by
 have ln:=k.k.ln;obtain⟨kk,sc,hr,hd,hN⟩:=k;have hr:=hr hs;have hd:=hd hs;have hN:=hN hs;have hz:innE w (Z0U w) (Z0n w) (stpI w)≠0:=of_decide_eq_true (Ln.1 hb).1;exact gF [] func49 [] (Fbr 9 [] (@Za2 w aa) (Fbr 12 [17009,18009,19009,20009,21009,22009] (@ZoG w aa aa aa aa aa aa aa) (Ftb 16 (innE w (Z0U w) (Z0n w) (stpI w) != 0) (Fnl (Fnl (Fnl (Fnl (Fnl Fz))))))))
def Zl6(w:Work)(k:Z3j w):GP 49 [w.av] O (.tu [(Z0z w).1.av,bool (Z0z w).2.1,int (Z0z w).2.2]) []:=by
 by_cases hs:w.D<w.Q.length
 .cases hb:(Lh (Z0n w).length).find? (λk=>La (innE w (Z0U w) (Z0n w) k≠0))with
  | none =>
   have h0:∀ j,j<(Z0n w).length->innE w (Z0U w) (Z0n w) j=0:=λj hj=>by
    have:=Lp.1 hb j (Li.2 hj);simpa using this
   have e:Z0z w=(Z3H (innN w (Z0U w) (Z0n w) (Z0n w).length) (Z0n w).length,O,0):=by unfold Z0z;rw[if_pos hs,hb]
   rw[e];exact Zik w k hs h0
  | some i =>
   have e:Z0z w=(noWork,Lc,innE w (Z0U w) (Z0n w) i):=by unfold Z0z;rw[if_pos hs,hb]
   rw[e,<- ZjF hb];exact Zkl w k hs (by rw[ZjF hb];exact hb)
 .have e:Z0z w=(w,Lc,0):=by rw[Z0z,if_neg hs]
  rw[e];exact Zja w k hs
def KI.sd{h:Heap}{T:Nat->List Int}:∀ w n,(∃ tq,KI h T tq w)->∃ tq,KI h T tq (Z3H w n) :=
 λw n ⟨tq,k⟩=>⟨tq,k.c,k.sp,k.old,k.pl,k.wl,k.pg,k.tk,k.tk0,k.q,k.hd,k.dt,k.lg⟩
section
variable {h:Heap} {T:Nat->List Int} {w:Work} (c:Col h T w) (g:Gd h T)
include c g
theorem Col.dec{q:Int}(hq:q∈w.Q):(decodeH (loadA w.heap.W q).1).2=O:=by
 obtain⟨tq,k⟩:=c.k;rcases k.q q hq with⟨i,nt,hi,hk,hs⟩ | ⟨i,ti,hi⟩
 .rcases k.hd i q hi with e | e
  .rw[e];exact(g.on hi).2.2.2.2.2.1
  .exact absurd e.2.2 hs
 .exact(Z1J (k.tk i ti).2.2.2.2.2.1 hi).1
theorem Col.in1{q j:Int}(hq:q∈w.Q)(h0:0<=j)(h1:j<hlA w.heap.W q)(e:(w.fwd (loadA w.heap.W (q+1+j)).1).2.2=0):Col h T (w.in1 (q+1+j)):=by
 obtain⟨tq,k⟩:=c.k;exact⟨k.in1 g c.ok c.inv hq ⟨h0,h1⟩ e,(Znh c.ok _ e).1,(ZiL c.ok c.inv hq ⟨h0,h1⟩ e).1,c.so.fwd c.ok _ e⟩
theorem Col.inn{q:Int}(hq:q∈w.Q){l:List Int}(hl:∀ x∈l,0<=x/\x<hlA w.heap.W q)(k:Nat)(hk:k<=l.length)(he:∀ j,j<k->innE w q l j=0):Col h T (innN w q l k) :=
 ⟨Zd2 (λw=>∃ tq,KI h T tq w) (λw q j hw hi ⟨_,k⟩ hq h0 h1 e=>k.in1 g hw hi hq ⟨h0,h1⟩ e) c.ok c.inv c.k hq hl k hk he,(Z43 c.ok q l k he).1,(Z7a c.ok c.inv hq hl k hk he).1,Zd2 (λw=>SpOk w.heap.P) (λw q j hw hi p hq h0 h1 e=>p.fwd hw _ e) c.ok c.inv c.so hq hl k hk he⟩
theorem Col.step(e:(Z0z w).2.2=0):Col h T (Z0z w).1 :=
 ⟨ZbU (λw=>∃ tq,KI h T tq w) (λw q j hw hi ⟨_,k⟩ hq h0 h1 e=>k.in1 g hw hi hq ⟨h0,h1⟩ e) KI.sd c.ok c.inv c.k e,(Z8t c.ok e).1,(Z9v c.ok c.inv e).1,ZbU (λw=>SpOk w.heap.P) (λw q j hw hi p hq h0 h1 e=>p.fwd hw _ e) (λ_ _ p=>p) c.ok c.inv c.so e⟩
theorem Col.stp:Z3j w:=by
 have sc:=c.ok.sc;have hq:w.D<w.Q.length->Z0U w∈w.Q:=λhs=>getD_mem_iff.2 ⟨w.D.toNat,by omega,rfl⟩;refine⟨c.ck,sc.1,λhs=>c.inv.r _ (Lx _ (hq hs)),λhs=>c.dec g (hq hs),λhs=>?_⟩;obtain⟨tq,ki⟩:=c.k;have hp:=Z1Q (hdW w (Z0U w));have ci:=λk hk he=>c.inn g (hq hs) (l:=Z0n w) hp k hk he;refine⟨λk hk he=>(ci k oq he).fw g (Z0D (ci k oq he).ok.W _),λk hk he=>?_,λk hk he e=>?_⟩
 .obtain⟨_,k'⟩:=(ci k hk he).k;exact k'.wl.trans ki.wl.symm
 .obtain⟨_,k'⟩:=((ci k oq he).fwd g e).k;exact k'.wl.trans ki.wl.symm
theorem Col.roots{roots:List Int}(k:Nat)(he:∀ j,j<k->Z1k w roots j=0):Col h T (rootsN w roots k).1:=by
 induction k with
 | zero=>exact c
 | succ k ih=>exact(ih λj hj=>he j oq).fwd g (he k oq)
theorem Col.rts{roots:List Int}(hr:WOk roots):Zlu w roots:=λk hk he=>(c.roots g k he).fw g (ZiD hr k)
theorem Col.rootsF{roots:List Int}(e:(rootsF w roots).2.2=0):Col h T (rootsF w roots).1:=by
 cases hb:(Lh roots.length).find? (λk=>La (Z1k w roots k≠0))with
 | none =>
  have h0:∀ j,j<roots.length->Z1k w roots j=0:=λj hj=>by
   have:=Lp.1 hb j (Li.2 hj);simpa using this
  have e7:Go.Proofs.YtdhchmlalchgeaaGreat.rootsF w roots=((rootsN w roots roots.length).1,(rootsN w roots roots.length).2,0):=by unfold Go.Proofs.YtdhchmlalchgeaaGreat.rootsF;rw[hb]
  rw[e7];exact c.roots g _ h0
 | some i =>
  have e7:Go.Proofs.YtdhchmlalchgeaaGreat.rootsF w roots=(noWork,[],Z1k w roots i):=by unfold Go.Proofs.YtdhchmlalchgeaaGreat.rootsF;rw[hb]
  rw[e7]at e;have:=of_decide_eq_true (Ln.1 hb).1;exact absurd e this
end
def ZhN(ws:List Int)(a n:Int)(hw:ws.length<=1048576)(h0:4096<=a/\1<=n/\n<=1000/\a-4096+n<=ws.length):GP 117 [Z01 ws,u64 a,int n] O (.tu [.ow 0,int 0]) [.arr 35 1 (((ws.drop (a-4096).toNat).take n.toNat).map wdv)]:=by
 have ei1:(Z0c ws a n).1=a-4096:=by rw[Z0c,if_pos oq]
 have e2:(Z0c ws a n).2=O:=by rw[Z0c,if_pos oq];simp;omega
 have hne:(ws.drop (a-4096).toNat).take n.toNat≠[]:=Z9g (by rw[LB,LU];omega);exact gF [41027] func117 [Lc,O] (Fh 26 [.els (Ld wdv (Lk (((Z0c ws a n).1+n).toNat-(Z0c ws a n).1.toNat) (Lj (Z0c ws a n).1.toNat ws)))] (Ffb 11 (La (n<0)) (Fc 16 (@Z7q ws a n aa oq) (Ffb 20 (!(Z0c ws a n).2) (Fi 25 ((Z0c ws a n).1+n) (Fa (by(simp only[LV];omega):0<=(Z0c ws a n).1/\(Z0c ws a n).1<=(Z0c ws a n).1+n/\(Z0c ws a n).1+n<=(↑(Ld wdv ws).length:Int)) (Fa (by simp[e2,LZ,LY,List.map_set,LC,wdv,idv]:Lk (((Z0c ws a n).1+n).toNat-(Z0c ws a n).1.toNat) (Lj (Z0c ws a n).1.toNat (Ld wdv ws))=Ld wdv (Lk (((Z0c ws a n).1+n).toNat-(Z0c ws a n).1.toNat) (Lj (Z0c ws a n).1.toNat ws))) (Fc 27 (@ZeA (Lk (((Z0c ws a n).1+n).toNat-(Z0c ws a n).1.toNat) (Lj (Z0c ws a n).1.toNat ws)) (by(simp[e2, *];omega)) (by(simp[e2, *];omega))) (Fa (by exact Z1a _:Z0x (Ld wdv (Lk (((Z0c ws a n).1+n).toNat-(Z0c ws a n).1.toNat) (Lj (Z0c ws a n).1.toNat ws)))) (Fr (35:Int) (Fa (by refine congrArg _ ?_;(simp[e2, *];omega):Ld wdv (Lk (((Z0c ws a n).1+n).toNat-(Z0c ws a n).1.toNat) (Lj (Z0c ws a n).1.toNat ws))=Ld wdv (Lk n.toNat (Lj (a-4096).toNat ws))) Fz)))))))))))
def fstW(l:List Int):Nat:=(l.takeWhile λx=>x==0).length
def ZbL{l:List Int}{m:Nat}(h:m<fstW l):m<l.length/\l.getD m M=0:=by
 obtain⟨h1,h2⟩:=Zha _ _ _ h;refine⟨h1, ?_⟩;rw[Lg,Lr h1];simpa using h2
def ZfY{l:List Int}(h:fstW l<l.length):¬ l.getD (fstW l) M=0:=by
 have h2:=Zb2 (λx:Int=>x==0) l h;have h3:l.getD (fstW l) M=l[(l.takeWhile λx=>x==0).length]:=by
  rw[Lg,Lr h];rfl
 rw[h3];simpa using h2
def idxW(l:List Int):Int:=if fstW l<l.length then fstW l else -1
def ZkA(x:Int):GP 204 [u64 x] O (bool (x != 0)) []:=by
 exact gF [] func204 [] Fz
def ZgW(l:List Int)(i:Nat):Tg:=⟨tm 19 [(0,Z01 l),(1,.fn 204 []),(4,int 0),(7,int l.length),(8,int i)],[],60⟩
def Zdb(l:List Int)(i:Nat)(hl:l.length<=1048576)(hi:i<l.length)(e:l.getD i M=0):CP (rndF f203 0) (ZgW l i).st .nrm (ZgW l (i+1)).st:=by
 exact sF [] [] (Fh 16 [.call O (Sx.bool (l.getD i M != 0)) [],.br Lc] (Ftb 9 (La ((i:Int)<(l.length:Int))) (Fek 14 wdv l (↑i) i (Fa (@ZkA (l.getD i M)) (Fb ((l.getD i M != 0)=Lc) (Fx 18 i Fz))))))
def Zi3(l:List Int)(i:Nat)(hl:l.length<=1048576)(hi:i<l.length)(e:¬ l.getD i M=0):CP (rndF f203 0) (ZgW l i).st .ret (Tg.st ⟨tm 19 [(4,int i)],[],60⟩):=by
 exact sF [] [] (Fh 16 [.call O (Sx.bool (l.getD i M != 0)) [],.br O] (Ftb 9 (La ((i:Int)<(l.length:Int))) (Fek 14 wdv l (↑i) i (Fa (@ZkA (l.getD i M)) (Fb ((l.getD i M != 0)=O) Fz)))))
def Zov(l:List Int):CP (rndF f203 0) (ZgW l l.length).st (.ext 0) (Tg.st ⟨tm 19 [(4,int 0)],[],60⟩):=by
 exact sF [] [] (Ffb 9 (La ((l.length:Int)<(l.length:Int))) Fz)
def Zmz(l:List Int)(hl:l.length<=1048576)(h:¬ fstW l<l.length)  := Z0a (S:=λj=>(ZgW l j).st) l.length (by kernel_rfl) (λj hj=>Zdb l j hl hj (ZbL (by omega)).2) (Zov l)
def Zif(l:List Int)(hl:l.length<=1048576)(h:fstW l<l.length)  := Z0H (S:=λj=>(ZgW l j).st) (fstW l) (by kernel_rfl) (λj hj=>Zdb l j hl (by omega) (ZbL hj).2) (Zi3 l (fstW l) hl h (ZfY h))
def ZpE(l:List Int)(hl:l.length<=1048576):GP 203 [Z01 l,.fn 204 []] O (int (idxW l)) []:=by
 by_cases h:fstW l<l.length
 .have e7:idxW l=fstW l:=if_pos h;rw[e7];exact gF [] func203 [] (Fl 7 wdv l (Fu (@Zif l aa aa) Fz))
 .have e7:idxW l=-1:=if_neg h;rw[e7];exact gF [] func203 [] (Fl 7 wdv l (Fu (@Zmz l aa aa) Fz))
def loC(c:List Int)(x:Int):Nat:=(min (max x 0) (c.length:Int)).toNat
def clrW(c:List Int)(x k:Int):List Int:=c.take (loC c x)++Le (loC c (x+k)-loC c x) 0++c.drop (loC c x+(loC c (x+k)-loC c x))
def cwN(h:Heap)(F:Int)(l c:List Int):Nat->List Int
 | 0=>c
 | n+1=>clrW (cwN h F l c n) (l.getD n M-F) (Z4F h (l.getD n M))
def ZfF(c:List Int)(x:Int):loC c x<=c.length:=by unfold loC;omega
def Zgq(c:List Int)(x:Int){k:Int}(hk:0<=k):loC c x<=loC c (x+k):=by unfold loC;omega
def Z91(h:Heap)(a:Int):0<=Z4F h a/\Z4F h a<=256:=by
 have:=Z1d (atH h a).1;unfold Z4F;split<;>omega
def ZlB(c:List Int)(x:Int){k:Int}(hk:0<=k):(clrW c x k).length=c.length:=by
 have h1:=ZfF c x;have h2:=ZfF c (x+k);have h3:=Zgq c x hk;simp[clrW];omega
def Z8F(h:Heap)(F:Int)(l c:List Int):∀ n,(cwN h F l c n).length=c.length
 | 0=>rfl
 | n+1=>by rw[cwN,ZlB _ _ (Z91 h _).1,Z8F h F l c n]
def adL(h:Heap)(F:Int)(l c:List Int)(n:Nat):Tg:=⟨tm 90 [(2,.pt 8002 0 0),(4,u64 0),(5,bool Lc),(6,u64 F),(8,.ow 25033),(44,Z01 l),(45,int l.length),(46,int n)],[(25033,.arr 35 1 ((cwN h F l c n).map wdv)),(8002,.box 28 h.cells)],60⟩
def ZnU(h:Heap)(F:Int)(l c:List Int)(n:Nat)(hw:WOk h.W)(hF:0<=F/\F<=8192)(hl:l.length<=1048576)(hc:c.length<=64)(hr:∀ x∈l,0<=x/\x<=8192)(hn:n<l.length):CP (rndF f194 0) (adL h F l c n).st .nrm (adL h F l c (n+1)).st:=by
 have hx:=hr (l.getD n M) (getD_mem_iff.2 ⟨n,hn,rfl⟩);have hm:=Z3M hw (l.getD n M);have hlen:=Z8F h F l c n;have hs:=Z1d (atH h (l.getD n M)).1;by_cases hk:(atH h (l.getD n M)).1.K=0
 .have ek:Z4F h (l.getD n M)=1:=if_pos hk;have e7:cwN h F l c (n+1)=clrW (cwN h F l c n) (l.getD n M-F) 1:=by rw[cwN,ek]
  exact sF [] (fO 8) (Fh 20000 [.els (Ld wdv (Lk (min (max (l.getD n M-F) 0) (↑(cwN h F l c n).length:Int)).toNat (cwN h F l c n)++Le ((min (max (l.getD n M-F+1) 0) (↑(cwN h F l c n).length:Int)).toNat-(min (max (l.getD n M-F) 0) (↑(cwN h F l c n).length:Int)).toNat) 0++Lj ((min (max (l.getD n M-F) 0) (↑(cwN h F l c n).length:Int)).toNat+(Le ((min (max (l.getD n M-F+1) 0) (↑(cwN h F l c n).length:Int)).toNat-(min (max (l.getD n M-F) 0) (↑(cwN h F l c n).length:Int)).toNat) 0).length) (cwN h F l c n)))] (Ftb 47 (La ((n:Int)<(l.length:Int))) (Fek 48 wdv l (↑n) n (Fc 53 (@Z4g h (l.getD n M) aa oq) (Ffb 58 ((atH h (l.getD n M)).1.K != 0) (Fi 62 (l.getD n M) (Fi 64 F (Fi 65 (l.getD n M-F) (Fgo 68 (if 0 > l.getD n M-F then 0 else l.getD n M-F) (max (l.getD n M-F) 0) (Fl 70 wdv (cwN h F l c n) (Fgo 71 (if(↑(cwN h F l c n).length:Int)<max (l.getD n M-F) 0 then(↑(cwN h F l c n).length:Int)else max (l.getD n M-F) 0) (min (max (l.getD n M-F) 0) (↑(cwN h F l c n).length:Int)) (Fi 74 (l.getD n M-F+1) (Fgo 75 (if 0 > l.getD n M-F+1 then 0 else l.getD n M-F+1) (max (l.getD n M-F+1) 0) (Fl 77 wdv (cwN h F l c n) (Fgo 78 (if(↑(cwN h F l c n).length:Int)<max (l.getD n M-F+1) 0 then(↑(cwN h F l c n).length:Int)else max (l.getD n M-F+1) 0) (min (max (l.getD n M-F+1) 0) (↑(cwN h F l c n).length:Int)) (Fa (by(simp only[LV];omega):0<=min (max (l.getD n M-F) 0) (↑(cwN h F l c n).length:Int)/\min (max (l.getD n M-F) 0) (↑(cwN h F l c n).length:Int)<=min (max (l.getD n M-F+1) 0) (↑(cwN h F l c n).length:Int)/\min (max (l.getD n M-F+1) 0) (↑(cwN h F l c n).length:Int)<=(↑(Ld wdv (cwN h F l c n)).length:Int)) (Fa (by simp only[Z0R,LC,LZ,LY,Xf,LA];rfl:Z0R (Ld wdv (cwN h F l c n)) (min (max (l.getD n M-F) 0) (↑(cwN h F l c n).length:Int)).toNat (Le ((min (max (l.getD n M-F+1) 0) (↑(cwN h F l c n).length:Int)).toNat-(min (max (l.getD n M-F) 0) (↑(cwN h F l c n).length:Int)).toNat) [du64 0])=Ld wdv (Lk (min (max (l.getD n M-F) 0) (↑(cwN h F l c n).length:Int)).toNat (cwN h F l c n)++Le ((min (max (l.getD n M-F+1) 0) (↑(cwN h F l c n).length:Int)).toNat-(min (max (l.getD n M-F) 0) (↑(cwN h F l c n).length:Int)).toNat) 0++Lj ((min (max (l.getD n M-F) 0) (↑(cwN h F l c n).length:Int)).toNat+(Le ((min (max (l.getD n M-F+1) 0) (↑(cwN h F l c n).length:Int)).toNat-(min (max (l.getD n M-F) 0) (↑(cwN h F l c n).length:Int)).toNat) 0).length) (cwN h F l c n))) (Fx 80 n (Fr (35:Int) (Fa (by refine congrArg _ ?_;rw[e7];simp only[clrW,loC,LA]:Ld wdv (Lk (min (max (l.getD n M-F) 0) (↑(cwN h F l c n).length:Int)).toNat (cwN h F l c n)++Le ((min (max (l.getD n M-F+1) 0) (↑(cwN h F l c n).length:Int)).toNat-(min (max (l.getD n M-F) 0) (↑(cwN h F l c n).length:Int)).toNat) 0++Lj ((min (max (l.getD n M-F) 0) (↑(cwN h F l c n).length:Int)).toNat+(Le ((min (max (l.getD n M-F+1) 0) (↑(cwN h F l c n).length:Int)).toNat-(min (max (l.getD n M-F) 0) (↑(cwN h F l c n).length:Int)).toNat) 0).length) (cwN h F l c n))=Ld wdv (cwN h F l c (n+1))) Fz))))))))))))))))))))
 .have ek:Z4F h (l.getD n M)=sizeH (atH h (l.getD n M)).1:=if_neg hk;have e7:cwN h F l c (n+1)=clrW (cwN h F l c n) (l.getD n M-F) (sizeH (atH h (l.getD n M)).1):=by rw[cwN,ek]
  exact sF [] (fO 8) (Fh 20000 [.els (Ld wdv (Lk (min (max (l.getD n M-F) 0) (↑(cwN h F l c n).length:Int)).toNat (cwN h F l c n)++Le ((min (max (l.getD n M-F+sizeH (atH h (l.getD n M)).1) 0) (↑(cwN h F l c n).length:Int)).toNat-(min (max (l.getD n M-F) 0) (↑(cwN h F l c n).length:Int)).toNat) 0++Lj ((min (max (l.getD n M-F) 0) (↑(cwN h F l c n).length:Int)).toNat+(Le ((min (max (l.getD n M-F+sizeH (atH h (l.getD n M)).1) 0) (↑(cwN h F l c n).length:Int)).toNat-(min (max (l.getD n M-F) 0) (↑(cwN h F l c n).length:Int)).toNat) 0).length) (cwN h F l c n)))] (Ftb 47 (La ((n:Int)<(l.length:Int))) (Fek 48 wdv l (↑n) n (Fc 53 (@Z4g h (l.getD n M) aa oq) (Ftb 58 ((atH h (l.getD n M)).1.K != 0) (Fc 60 (@Z0S ((atH h (l.getD n M)).1) aa) (Fi 62 (l.getD n M) (Fi 64 F (Fi 65 (l.getD n M-F) (Fgo 68 (if 0 > l.getD n M-F then 0 else l.getD n M-F) (max (l.getD n M-F) 0) (Fl 70 wdv (cwN h F l c n) (Fgo 71 (if(↑(cwN h F l c n).length:Int)<max (l.getD n M-F) 0 then(↑(cwN h F l c n).length:Int)else max (l.getD n M-F) 0) (min (max (l.getD n M-F) 0) (↑(cwN h F l c n).length:Int)) (Fi 74 (l.getD n M-F+sizeH (atH h (l.getD n M)).1) (Fgo 75 (if 0 > l.getD n M-F+sizeH (atH h (l.getD n M)).1 then 0 else l.getD n M-F+sizeH (atH h (l.getD n M)).1) (max (l.getD n M-F+sizeH (atH h (l.getD n M)).1) 0) (Fl 77 wdv (cwN h F l c n) (Fgo 78 (if(↑(cwN h F l c n).length:Int)<max (l.getD n M-F+sizeH (atH h (l.getD n M)).1) 0 then(↑(cwN h F l c n).length:Int)else max (l.getD n M-F+sizeH (atH h (l.getD n M)).1) 0) (min (max (l.getD n M-F+sizeH (atH h (l.getD n M)).1) 0) (↑(cwN h F l c n).length:Int)) (Fa (by(simp only[LV];omega):0<=min (max (l.getD n M-F) 0) (↑(cwN h F l c n).length:Int)/\min (max (l.getD n M-F) 0) (↑(cwN h F l c n).length:Int)<=min (max (l.getD n M-F+sizeH (atH h (l.getD n M)).1) 0) (↑(cwN h F l c n).length:Int)/\min (max (l.getD n M-F+sizeH (atH h (l.getD n M)).1) 0) (↑(cwN h F l c n).length:Int)<=(↑(Ld wdv (cwN h F l c n)).length:Int)) (Fa (by simp only[Z0R,LC,LZ,LY,Xf,LA];rfl:Z0R (Ld wdv (cwN h F l c n)) (min (max (l.getD n M-F) 0) (↑(cwN h F l c n).length:Int)).toNat (Le ((min (max (l.getD n M-F+sizeH (atH h (l.getD n M)).1) 0) (↑(cwN h F l c n).length:Int)).toNat-(min (max (l.getD n M-F) 0) (↑(cwN h F l c n).length:Int)).toNat) [du64 0])=Ld wdv (Lk (min (max (l.getD n M-F) 0) (↑(cwN h F l c n).length:Int)).toNat (cwN h F l c n)++Le ((min (max (l.getD n M-F+sizeH (atH h (l.getD n M)).1) 0) (↑(cwN h F l c n).length:Int)).toNat-(min (max (l.getD n M-F) 0) (↑(cwN h F l c n).length:Int)).toNat) 0++Lj ((min (max (l.getD n M-F) 0) (↑(cwN h F l c n).length:Int)).toNat+(Le ((min (max (l.getD n M-F+sizeH (atH h (l.getD n M)).1) 0) (↑(cwN h F l c n).length:Int)).toNat-(min (max (l.getD n M-F) 0) (↑(cwN h F l c n).length:Int)).toNat) 0).length) (cwN h F l c n))) (Fx 80 n (Fr (35:Int) (Fa (by refine congrArg _ ?_;rw[e7];simp only[clrW,loC,LA]:Ld wdv (Lk (min (max (l.getD n M-F) 0) (↑(cwN h F l c n).length:Int)).toNat (cwN h F l c n)++Le ((min (max (l.getD n M-F+sizeH (atH h (l.getD n M)).1) 0) (↑(cwN h F l c n).length:Int)).toNat-(min (max (l.getD n M-F) 0) (↑(cwN h F l c n).length:Int)).toNat) 0++Lj ((min (max (l.getD n M-F) 0) (↑(cwN h F l c n).length:Int)).toNat+(Le ((min (max (l.getD n M-F+sizeH (atH h (l.getD n M)).1) 0) (↑(cwN h F l c n).length:Int)).toNat-(min (max (l.getD n M-F) 0) (↑(cwN h F l c n).length:Int)).toNat) 0).length) (cwN h F l c n))=Ld wdv (cwN h F l c (n+1))) Fz)))))))))))))))))))))
def ZqT(h:Heap)(F:Int)(l c:List Int):CP (rndF f194 0) (adL h F l c l.length).st (.ext 0) (Tg.st ⟨tm 90 [(4,u64 0),(5,bool Lc),(6,u64 F),(8,.ow 25033)],[(25033,.arr 35 1 ((cwN h F l c l.length).map wdv))],60⟩):=by
 exact sF [] [] (Ffb 47 (La ((l.length:Int)<(l.length:Int))) Fz)
def ZpG(h:Heap)(F:Int)(l c:List Int)(hw:WOk h.W)(hF:0<=F/\F<=8192)(hl:l.length<=1048576)(hc:c.length<=64)(hr:∀ x∈l,0<=x/\x<=8192):CP (blkF f194 0) (Tg.st ⟨tm 90 [(2,.pt 8002 0 0),(4,u64 0),(5,bool Lc),(6,u64 F),(8,.ow 25033),(44,Z01 l),(45,int l.length),(46,int 0)],[(25033,.arr 35 1 (c.map wdv)),(8002,.box 28 h.cells)],60⟩) .nrm
  (Tg.st ⟨tm 90 [(4,u64 0),(5,bool Lc),(6,u64 F),(8,.ow 25033)],[(25033,.arr 35 1 ((cwN h F l c l.length).map wdv))],60⟩) :=
 Z0a (S:=λn=>(adL h F l c n).st) l.length kr (λn hn=>ZnU h F l c n hw hF hl hc hr hn) (ZqT h F l c)
def rawP(h:Heap)(i:Nat):List Int:=(h.W.drop ((address h.C i 0).1-4096).toNat).take h.C.pw.toNat
def clrP(h:Heap)(i:Nat):List Int:=cwN h (address h.C i 0).1 (Z09 h (Z0E h.P i:Nat)).1 (rawP h i) (Z09 h (Z0E h.P i:Nat)).1.length
def Z6K(h:Heap)(i:Nat)(hw:WOk h.W)(hp:Z02 h=O)(hi:i<h.P.length):GP 194 [h.av,int i] O (.tu [u64 ((address h.C i 0).1+max (idxW (clrP h i)) 0),bool (La (0<=idxW (clrP h i)))]) []:=by
 have po:=Z06 hp;have ea:(address h.C i 0).1=4096+i*h.C.pw:=by
  unfold address;rw[if_pos po.1,if_pos (inB_iff.2 oq)];simp only;omega
 have ap:=Z2T po.1 (i:=i) oq oq;have hh:=Zbg h.P i;have hx:(i:Int)*h.C.pw+h.C.pw<=h.W.length:=by
  have h1:((i:Int)+1)*h.C.pw<=h.C.pg*h.C.pw:=LD oq oq;have h2:((i:Int)+1)*h.C.pw=i*h.C.pw+h.C.pw:=by rw[L3,L5]
  have h3:h.C.pg*h.C.pw=h.C.pw*h.C.pg:=Lv _ _;omega
 have hr:=Z2V hp (Z0E h.P i:Nat);have hn:=Z3a h (Z0E h.P i:Nat);have hlen:(clrP h i).length<=64:=by
  rw[clrP,Z8F,rawP,LB];omega
 have hix:idxW (clrP h i)<=64/\-1<=idxW (clrP h i):=by
  have:fstW (clrP h i)<=(clrP h i).length:=(List.takeWhile_sublist _).length_le;unfold idxW;split<;>omega
 have hrl:(rawP h i).length<=64:=by rw[rawP,LB];omega
 unfold clrP rawP at *;let y1:=address h.C (i:Int) 0;let y0:=cwN h y1.1 (Z09 h (↑(Z0E h.P i):Int)).1 (Lk h.C.pw.toNat (Lj (y1.1-4096).toNat h.W)) (Z09 h (↑(Z0E h.P i):Int)).1.length;exact gF [] func194 [] (Fc 23 (@Z46 h.C ((i:Int)) (0)) (Fc 33 (@ZhN h.W (y1.1) h.C.pw oq oq) (Fc 40 (@ZjK h i aa aa) (Fc 41 (@Z3N h ((↑(Z0E h.P i):Int)) aa oq) (Fl 45 wdv (Z09 h (↑(Z0E h.P i):Int)).1 (Fu (@ZpG h (y1.1) ((Z09 h (↑(Z0E h.P i):Int)).1) (Lk h.C.pw.toNat (Lj (y1.1-4096).toNat h.W)) aa oq oq aa aa) (Fc 82 (@ZpE y0 oq) (Fgo 85 (if 0 > idxW y0 then 0 else idxW y0) (max (idxW y0) 0) (Fv 86 (max (idxW y0) 0) (Fv 87 (y1.1+max (idxW y0) 0) Fz))))))))))
def unS(fn:Func):Func:=match fn.body with
 | some (.seq x (.scope c)) => { fn with body:=Lf (.seq x c) }
 | _=>fn
def firS(fn:Func):Code:=match fn.body with
 | some (.seq x _)=>x
 | _=>.skip
def bdyS(fn:Func):Code:=match fn.body with
 | some (.seq _ c)=>c
 | _=>.skip
def Zi8{P:Program}{c:Code}{n m:Nat}{s t:St}(hmn:m≠n)(h:CSpec P c s (.ext m) t):CSpec P (.block n c) s (.ext m) t:=by
 intro Ow Im0 w0 a w hS;refine wp_block (wp_mono (h Ow Im0 w0 a w hS) ?_);rintro e a' w' ⟨rfl,hS'⟩;show(if m=n then _ else _);rw[if_neg hmn];exact⟨rfl,hS'⟩
def Zef{P:Program}{fn:Func}{b m:Nat}{S:Nat->St}{t:St}(n:Nat)(hb:Z6V b (blkF fn b)=O)(hm:m≠b)(h:∀ i,i<n->CSpec P (rndF fn b) (S i) .nrm (S (i+1)))(hn:CSpec P (rndF fn b) (S n) (.ext m) t):CSpec P (blkF fn b) (S 0) (.ext m) t:=by
 rw[Z7g hb];exact Zi8 hm (ZeU (Zf1 n h (λh=>nomatch h) hn))
def fdV(h:Heap)(a k:Int):Int:=(loadA h.W (a+1+k)).1
def pbad(h:Heap)(all:List Int)(a k:Int):Bool:=(fdV h a k != 0)&&!decide (fdV h a k∈all)
def pbad_yes{h:Heap}{all:List Int}{a k:Int}:pbad h all a k=O↔¬ fdV h a k=0/\¬ fdV h a k∈all:=by simp[pbad]
def pbad_no{h:Heap}{all:List Int}{a k:Int}:pbad h all a k=Lc↔fdV h a k=0\/fdV h a k∈all:=by
 by_cases h1:fdV h a k=0<;>by_cases h2:fdV h a k∈all<;>simp[pbad,h1,h2]
def yJ(a:Int)(P:List Int):Nat->Int
 | 0=>0
 | j+1=>a+1+P.getD j M
def apI(h:Heap)(all:List Int)(i:Nat)(a:Int)(P:List Int)(j:Nat):Tg:=⟨tm 83 [(1,.pt 8001 0 0),(2,.pt 8002 0 0),(3,Z01 all),(5,u64 (yJ a P j)),(7,u64 a),(24,Z01 all),(25,int all.length),(26,int i),(37,Z0r P),(38,int P.length),(39,int j)],[(8002,.box 180 [int 0,int 0,u64 0]),(8001,.box 28 h.cells)],64⟩
section
variable (h:Heap) (all:List Int) (i:Nat) (a:Int) (P:List Int) (j:Nat) (hw:WOk h.W) (hwl:h.W.length<=1048576) (hl:all.length<=1048576) (hs:all.Pairwise (· < ·)) (ha:0<=a/\a<=8192) (hP:P.length<=256) (hk:0<=P.getD j M/\P.getD j M<=256) (hj:j<P.length)
include hw hwl hl hs ha hP hk hj
theorem Zfq(hb:pbad h all a (P.getD j M)=Lc):CP (rndF (unS f170) 2) (apI h all i a P j).st .nrm (apI h all i a P (j+1)).st:=by
 have ey:yJ a P (j+1)=a+1+P.getD j M:=rfl;have hb':=pbad_no.1 hb;unfold fdV at hb';clear hb;generalize hy:yJ a P (j+1)=y1 at ey;unfold apI;rw[hy];rcases hb' with hb | hb
 .exact sF [] (fO 5) (Ftb 40 (La ((j:Int)<(P.length:Int))) (Fek 41 idv P (↑j) j (Fv 44 (a+1) (Fv 46 (P.getD j M) (Fv 47 (a+1+P.getD j M) (Fc 52 (@Z6N h.W (a+1+P.getD j M) aa oq) (Fc 58 (@bsearch all ((loadA h.W (a+1+P.getD j M)).1) aa aa) (Ffb 66 ((loadA h.W (a+1+P.getD j M)).1 != 0&&!decide ((loadA h.W (a+1+P.getD j M)).1∈all)) (Fx 67 j (Fa ‹a+1+P.getD j M=y1› Fz))))))))))
 .exact sF [] (fO 5) (Ftb 40 (La ((j:Int)<(P.length:Int))) (Fek 41 idv P (↑j) j (Fv 44 (a+1) (Fv 46 (P.getD j M) (Fv 47 (a+1+P.getD j M) (Fc 52 (@Z6N h.W (a+1+P.getD j M) aa oq) (Fc 58 (@bsearch all ((loadA h.W (a+1+P.getD j M)).1) aa aa) (Ffs 66 ((loadA h.W (a+1+P.getD j M)).1 != 0&&!decide ((loadA h.W (a+1+P.getD j M)).1∈all)) (Fx 67 j (Fa ‹a+1+P.getD j M=y1› Fz))))))))))
theorem ZlN(hb:pbad h all a (P.getD j M)=O):CP (rndF (unS f170) 2) (apI h all i a P j).st (.ext 0) (Tg.st ⟨tm 83 [(1,.pt 8001 0 0),(2,.pt 8002 0 0),(5,u64 (a+1+P.getD j M))],[(8002,.box 180 [int 0,int 0,u64 0]),(8001,.box 28 h.cells)],68⟩):=by
 obtain⟨hb1,hb2⟩:=pbad_yes.1 hb;unfold fdV at hb1 hb2;clear hb;exact sF [] [] (Ftb 40 (La ((j:Int)<(P.length:Int))) (Fek 41 idv P (↑j) j (Fv 44 (a+1) (Fv 46 (P.getD j M) (Fv 47 (a+1+P.getD j M) (Fc 52 (@Z6N h.W (a+1+P.getD j M) aa oq) (Fc 58 (@bsearch all ((loadA h.W (a+1+P.getD j M)).1) aa aa) (Fts 66 ((loadA h.W (a+1+P.getD j M)).1 != 0&&!decide ((loadA h.W (a+1+P.getD j M)).1∈all)) Fz))))))))
end
def Zq0(h:Heap)(all:List Int)(i:Nat)(a:Int)(P:List Int):CP (rndF (unS f170) 2) (apI h all i a P P.length).st (.ext 2) (Tg.st ⟨tm 83 [(1,.pt 8001 0 0),(2,.pt 8002 0 0),(3,Z01 all),(24,Z01 all),(25,int all.length),(26,int i)],[(8002,.box 180 [int 0,int 0,u64 0]),(8001,.box 28 h.cells)],68⟩):=by
 exact sF [] [] (Ffb 40 (La ((P.length:Int)<(P.length:Int))) Fz)
def Zpb(h:Heap)(all:List Int)(i:Nat)(a:Int)(P:List Int)(hw:WOk h.W)(hwl:h.W.length<=1048576)(hl:all.length<=1048576)(hs:all.Pairwise (· < ·))(ha:0<=a/\a<=8192)(hP:P.length<=256)(hk:∀ k∈P,0<=k/\k<=256)(hf:P.find? (pbad h all a)=Ll) :
  CP (blkF (unS f170) 2) (Tg.st ⟨tm 83 [(1,.pt 8001 0 0),(2,.pt 8002 0 0),(3,Z01 all),(5,u64 0),(7,u64 a),(24,Z01 all),(25,int all.length),(26,int i),(37,Z0r P),(38,int P.length),(39,int 0)],[(8002,.box 180 [int 0,int 0,u64 0]),(8001,.box 28 h.cells)],64⟩) .nrm (Tg.st ⟨tm 83 [(1,.pt 8001 0 0),(2,.pt 8002 0 0),(3,Z01 all),(24,Z01 all),(25,int all.length),(26,int i)],[(8002,.box 180 [int 0,int 0,u64 0]),(8001,.box 28 h.cells)],68⟩) :=
 Z0a (S:=λj=>(apI h all i a P j).st) P.length kr (λj hj=>Zfq h all i a P j hw hwl hl hs ha hP (hk _ (getD_mem_iff.2 ⟨j,hj,rfl⟩)) hj (Z7f hf j hj)) (Zq0 h all i a P)
def ZkQ(h:Heap)(all:List Int)(i:Nat)(a:Int)(P:List Int)(x:Int)(hw:WOk h.W)(hwl:h.W.length<=1048576)(hl:all.length<=1048576)(hs:all.Pairwise (· < ·))(ha:0<=a/\a<=8192)(hP:P.length<=256)(hk:∀ k∈P,0<=k/\k<=256)(hf:P.find? (pbad h all a)=Lf x) :
  CP (blkF (unS f170) 2) (Tg.st ⟨tm 83 [(1,.pt 8001 0 0),(2,.pt 8002 0 0),(3,Z01 all),(5,u64 0),(7,u64 a),(24,Z01 all),(25,int all.length),(26,int i),(37,Z0r P),(38,int P.length),(39,int 0)],[(8002,.box 180 [int 0,int 0,u64 0]),(8001,.box 28 h.cells)],64⟩) (.ext 0) (Tg.st ⟨tm 83 [(1,.pt 8001 0 0),(2,.pt 8002 0 0),(5,u64 (a+1+x))],[(8002,.box 180 [int 0,int 0,u64 0]),(8001,.box 28 h.cells)],68⟩):=by
 obtain⟨n,h1,h2,h3,h4⟩:=Z40 hf;subst h2;exact Zef (S:=λj=>(apI h all i a P j).st) n kr dd (λj hj=>Zfq h all i a P j hw hwl hl hs ha hP (hk _ (getD_mem_iff.2 ⟨j,by omega,rfl⟩)) oq (h4 j hj)) (ZlN h all i a P n hw hwl hl hs ha hP (hk _ (getD_mem_iff.2 ⟨n,h1,rfl⟩)) h1 h3)
def apF(h:Heap)(all:List Int)(a:Int):Option Int:=(Z03 (atH h a).1).find? (pbad h all a)
def apL(h:Heap)(all:List Int)(i:Nat):Tg:=⟨tm 83 [(1,.pt 8001 0 0),(2,.pt 8002 0 0),(3,Z01 all),(5,u64 0),(24,Z01 all),(25,int all.length),(26,int i)],[(8002,.box 180 [int 0,int 0,u64 0]),(8001,.box 28 h.cells)],60⟩
def Z7M(h:Header):∀ n:Nat,∀ k∈Z0V h n,0<=k/\k<n
 | 0,k,hk=>by simp[Z0V]at hk
 | n+1,k,hk=>by
  unfold Z0V at hk;split at hk
  .rcases List.mem_append.1 hk with hk | hk
   .have:=Z7M h n k hk;omega
   .simp only[L0,List.not_mem_nil,or_false]at hk;omega
  .have:=Z7M h n k hk;omega
def Z4P(h:Header):(Z03 h).length<=256/\∀ k∈Z03 h,0<=k/\k<=256:=by
 rw[<- Z7U];have hs:=Z1d h;have h1:=Z4C h (sizeH h).toNat
 exact⟨by omega,λk hk=>by have:=Z7M h _ k hk;omega⟩
section
variable (h:Heap) (all:List Int) (i:Nat) (hw:WOk h.W) (hwl:h.W.length<=1048576) (hl:all.length<=1048576) (hs:all.Pairwise (· < ·)) (hr:∀ x∈all,0<=x/\x<=8192) (hi:i<all.length)
include hw hwl hl hs hr hi
theorem Zkh(hb:apF h all (all.getD i M)=Ll):CP (rndF (unS f170) 0) (apL h all i).st .nrm (apL h all (i+1)).st:=by
 have hx:=hr (all.getD i M) (getD_mem_iff.2 ⟨i,hi,rfl⟩);have hm:=Z3M hw (all.getD i M);have hq:=Z4P (atH h (all.getD i M)).1;have hq1:=hq.1;have hq2:=hq.2;unfold apF at hb;let y0:=all.getD i M;let y1:=Z03 (atH h y0).1;exact sF [] [] (Fk (2,Tg.mk (tm 83 [(1,AV.pt 8001 0 0),(2,AV.pt 8002 0 0),(3,Z01 all),(5,u64 0),(7,u64 y0),(24,Z01 all),(25,int ↑all.length),(26,int ↑i),(37,Z0r y1),(38,int (y1.length:Int)),(39,int 0)]) [(8002,Blk.box 180 [int 0,int 0,u64 0]),(8001,Blk.box 28 h.cells)] 64,Ex.nrm,Tg.mk (tm 83 [(1,AV.pt 8001 0 0),(2,AV.pt 8002 0 0),(3,Z01 all),(24,Z01 all),(25,int ↑all.length),(26,int ↑i)]) [(8002,Blk.box 180 [int 0,int 0,u64 0]),(8001,Blk.box 28 h.cells)] 68) (Ftb 27 (La ((i:Int)<(all.length:Int))) (Fek 28 wdv all (↑i) i (Fc 33 (@Z4g h y0 aa oq) (Fc 37 (@Z3A ((atH h y0).1) aa) (Fl 38 idv y1 (Fa (@Zpb h all i y0 y1 aa aa aa aa aa aa aa aa) (Fx 68 i Fz))))))))
theorem Zoa(x:Int)(hb:apF h all (all.getD i M)=Lf x):CP (rndF (unS f170) 0) (apL h all i).st (.ext 0) (Tg.st ⟨tm 83 [(1,.pt 8001 0 0),(2,.pt 8002 0 0),(5,u64 (all.getD i M+1+x))],[(8002,.box 180 [int 0,int 0,u64 0]),(8001,.box 28 h.cells)],72⟩):=by
 have hx:=hr (all.getD i M) (getD_mem_iff.2 ⟨i,hi,rfl⟩);have hm:=Z3M hw (all.getD i M);have hq:=Z4P (atH h (all.getD i M)).1;have hq1:=hq.1;have hq2:=hq.2;unfold apF at hb;let y0:=all.getD i M;let y1:=Z03 (atH h y0).1;exact sF [] [] (Fk (2,Tg.mk (tm 83 [(1,AV.pt 8001 0 0),(2,AV.pt 8002 0 0),(3,Z01 all),(5,u64 0),(7,u64 y0),(24,Z01 all),(25,int ↑all.length),(26,int ↑i),(37,Z0r y1),(38,int (y1.length:Int)),(39,int 0)]) [(8002,Blk.box 180 [int 0,int 0,u64 0]),(8001,Blk.box 28 h.cells)] 64,Ex.ext 0,Tg.mk (tm 83 [(1,AV.pt 8001 0 0),(2,AV.pt 8002 0 0),(5,u64 (all.getD i M+1+x))]) [(8002,Blk.box 180 [int 0,int 0,u64 0]),(8001,Blk.box 28 h.cells)] 68) (Ftb 27 (La ((i:Int)<(all.length:Int))) (Fek 28 wdv all (↑i) i (Fc 33 (@Z4g h y0 aa oq) (Fc 37 (@Z3A ((atH h y0).1) aa) (Fl 38 idv y1 (Fa (@ZkQ h all i y0 y1 x aa aa aa aa aa aa aa aa) Fz)))))))
end
def ZqX(h:Heap)(all:List Int):CP (rndF (unS f170) 0) (apL h all all.length).st (.ext 0) (Tg.st ⟨tm 83 [(1,.pt 8001 0 0),(2,.pt 8002 0 0),(5,u64 0)],[(8002,.box 180 [int 0,int 0,u64 0]),(8001,.box 28 h.cells)],72⟩):=by
 exact sF [] [] (Ffb 27 (La ((all.length:Int)<(all.length:Int))) Fz)
def Zpi(h:Heap)(all:List Int)(hw:WOk h.W)(hwl:h.W.length<=1048576)(hl:all.length<=1048576)(hs:all.Pairwise (· < ·))(hr:∀ x∈all,0<=x/\x<=8192)(hf:all.find? (λa=>(apF h all a).isSome)=Ll)  := Z0a (S:=λi=>(apL h all i).st) all.length (by kernel_rfl) (λi hi=>Zkh h all i hw hwl hl hs hr hi (by simpa using Z7f hf i hi)) (ZqX h all)
def Zpa(h:Heap)(all:List Int)(a x:Int)(hw:WOk h.W)(hwl:h.W.length<=1048576)(hl:all.length<=1048576)(hs:all.Pairwise (· < ·))(hr:∀ x∈all,0<=x/\x<=8192)(hf:all.find? (λa=>(apF h all a).isSome)=Lf a)(hx:apF h all a=Lf x):CP (blkF (unS f170) 0) (Tg.st ⟨tm 83 [(1,.pt 8001 0 0),(2,.pt 8002 0 0),(3,Z01 all),(5,u64 0),(24,Z01 all),(25,int all.length),(26,int 0)],[(8002,.box 180 [int 0,int 0,u64 0]),(8001,.box 28 h.cells)],60⟩) .nrm (Tg.st ⟨tm 83 [(1,.pt 8001 0 0),(2,.pt 8002 0 0),(5,u64 (a+1+x))],[(8002,.box 180 [int 0,int 0,u64 0]),(8001,.box 28 h.cells)],72⟩):=by
 obtain⟨n,h1,h2,h3,h4⟩:=Z40 hf;subst h2;exact Z0a (S:=λi=>(apL h all i).st) n kr (λi hi=>Zkh h all i hw hwl hl hs hr oq (by simpa using h4 i hi)) (Zoa h all n hw hwl hl hs hr h1 x hx)
def ZqV(h:Heap):CP (firS (unS f170)) (Tg.st ⟨tm 83 [(0,h.av)],[],1⟩) .nrm (Tg.st ⟨tm 83 [(1,.pt 8001 0 0),(2,.pt 8002 0 0)],[(8002,.box 180 [int 0,int 0,u64 0]),(8001,.box 28 h.cells)],20⟩):=by
 exact sF [] [] Fz
def apAt(h:Heap):Int:=match (Z05 h).1.find? (λa=>(apF h (Z05 h).1 a).isSome)with
 | some a=>a+1+(apF h (Z05 h).1 a).getD 0
 | none=>0
def apW(h:Heap):Finding:=if apAt h=0 then⟨0,0,0⟩else⟨6,(ofA h.C (apAt h)).1,apAt h⟩
def ZqW(h:Heap)(hw:WOk h.W)(hwl:h.W.length<=1048576):CP (bdyS (unS f170)) (Tg.st ⟨tm 83 [(1,.pt 8001 0 0),(2,.pt 8002 0 0)],[(8002,.box 180 [int 0,int 0,u64 0]),(8001,.box 28 h.cells)],20⟩) .ret (Tg.st ⟨tm 83 [(2,.pt 8002 0 0)],[(8002,.box 180 [int (apW h).fault,int (apW h).page,u64 (apW h).addr])],90⟩):=by
 have hl:=Z23 h;have hs:=ZeV h;have hr:=Z2N h;cases hf:(Z05 h).1.find? (λa=>(apF h (Z05 h).1 a).isSome)with
 | none =>
  have e1:apAt h=0:=by simp only[apAt,hf]
  have e7:apW h=⟨0,0,0⟩:=if_pos e1;rw[e7];exact sF [] [] (Fk (0,Tg.mk (tm 83 [(1,AV.pt 8001 0 0),(2,AV.pt 8002 0 0),(3,Z01 (Z05 h).1),(5,u64 0),(24,Z01 (Z05 h).1),(25,int (↑(Z05 h).1.length:Int)),(26,int 0)]) [(8002,Blk.box 180 [int 0,int 0,u64 0]),(8001,Blk.box 28 h.cells)] 60,Ex.nrm,Tg.mk (tm 83 [(1,AV.pt 8001 0 0),(2,AV.pt 8002 0 0),(5,u64 0)]) [(8002,Blk.box 180 [int 0,int 0,u64 0]),(8001,Blk.box 28 h.cells)] 72) (Fc 21 (@Z6o h aa) (Fl 25 wdv (Z05 h).1 (Fa (@Zpi h ((Z05 h).1) aa aa oq aa aa aa) Fz))))
 | some a =>
  obtain⟨n,h1,h2,h3,h4⟩:=Z40 hf;obtain⟨x,hx⟩:=Xk.1 h3;have ha:=hr a (getD_mem_iff.2 ⟨n,h1,h2⟩);have hxr:=(Z4P (atH h a).1).2 x (Xh hx);have e1:apAt h=a+1+x:=by simp only[apAt,hf,hx,Lz]
  have e7:apW h=⟨6,(ofA h.C (a+1+x)).1,a+1+x⟩:=by rw[apW,e1,if_neg oq]
  rw[e7];exact sF [] [] (Fk (0,Tg.mk (tm 83 [(1,AV.pt 8001 0 0),(2,AV.pt 8002 0 0),(3,Z01 (Z05 h).1),(5,u64 0),(24,Z01 (Z05 h).1),(25,int (↑(Z05 h).1.length:Int)),(26,int 0)]) [(8002,Blk.box 180 [int 0,int 0,u64 0]),(8001,Blk.box 28 h.cells)] 60,Ex.nrm,Tg.mk (tm 83 [(1,AV.pt 8001 0 0),(2,AV.pt 8002 0 0),(5,u64 (a+1+x))]) [(8002,Blk.box 180 [int 0,int 0,u64 0]),(8001,Blk.box 28 h.cells)] 72) (Fc 21 (@Z6o h aa) (Fl 25 wdv (Z05 h).1 (Fa (@Zpa h ((Z05 h).1) a x aa aa oq aa aa aa aa) (Ffb 70 (a+1+x==0) (Fc 76 (@Z2t h.C (a+1+x) oq oq) Fz))))))
end Go.Proofs.YtdhchmlalchgeaaGreat
namespace Go.Proofs.YtdhchmlalchgeaaGreat
open Go.Sx Go.RowKit
def Finding.val(f:Finding):Value:=.agg #[.int .i64 f.fault,.int .i64 f.page,.int .u64 f.addr]
def Ze8(ρ:Rho)(w:World)(Im:Nat->Prop)(f:Finding):Rel ρ w Im f.av f.val:=by
 refine .ag _ _ rfl (λi v h=>?_) (λi a v ha hv=>?_)
 .rcases i with _ | _ | _ | i<;>simp at h<;>subst h<;>rfl
 .rcases i with _ | _ | _ | i<;>simp at ha hv<;>subst ha<;>subst hv<;>exact .d (.sc _ rfl)
def Zh7{ρ:Rho}{w:World}{Im:Nat->Prop}{f:Finding}{v:Value}(h:Rel ρ w Im f.av v):v=f.val:=by
 obtain⟨cs,h1,h2,h3,h4⟩:=Z3D h;rw[h1];have g:∀ (k:Nat) (hk:k<cs.size) (v:Value),[int f.fault,int f.page,u64 f.addr][k]? = Lf (.d (.sc v))->cs[k]=v:=λk hk v hv=>Z15 (h4 k _ cs[k] hv (Array.getElem?_eq_getElem hk));have hs:cs.size=3:=h2;simp only[Finding.val];congr 1;apply Array.ext
 .simp[hs]
 .intro k hk _;rcases k with _ | _ | _ | k
  .exact g 0 hk _ rfl
  .exact g 1 hk _ rfl
  .exact g 2 hk _ rfl
  .omega
def noGoto_ret{Q:Exit->Act->World->Prop}{a:Act}{w:World}(h:Q .ret a w):Exit.noGoto Q Ex.ret.exit a w:=h
def Z4J(h:Heap)(hw:WOk h.W)(hwl:h.W.length<=1048576):GP 170 [h.av] O (apW h).av []:=by
 intro w00 Im vs hIm hsz hargs;have hs1:vs.size=1:=hsz;have hbody:Tryz.f170.body=Lf (.seq (firS (unS f170)) (.scope (bdyS (unS f170)))):=by kernel_rfl
 refine calls_of_wp func170 hbody ?_;have S0:Sx.Sys Z4z Im w00 (tm 83 [(0,h.av)]) (hOf []) 1 { tmps:=vs++Array.replicate (Tryz.f170.ntmps-vs.size) undef,defers:=[] } w00:=by
  refine⟨_,Im,Sx.Inv.empty hIm (Ly 1),⟨by rw[hs1];simp[hs1];kernel_rfl,λk y v hy hv=>?_,rfl⟩⟩;rw[show tm 83 [(0,h.av)]=[h.av]++Le 82 .any from by kernel_rfl,List.getElem?_append]at hy;rw[Array.getElem?_append]at hv;split at hy
  .rename_i hk;rw[if_pos (by rw[hsz];exact hk)]at hv;exact hargs k y v hy hv
  .have:=List.mem_of_getElem? hy;rw[(List.mem_replicate.1 this).2];exact .any _
 refine wp_seq (wp_mono (ZqV h _ _ _ _ _ S0) ?_);rintro e a1 w1 ⟨rfl,S1⟩;refine wp_scope_straight (wp_mono (ZqW h hw hwl _ _ _ _ _ S1) ?_);rintro e a2 w2 ⟨rfl,ρ2,Im2,I2,T2⟩;obtain⟨v,hv1,hv2⟩:=Z7w (P:=prog) (fn:=f170) (l:=[(apW h).av]) I2 T2 kr;refine noGoto_ret (bodyPost_ret hv1 T2.defers ⟨v,rfl,I2.kept.no,λ_=>Ll,λ_=>False,λ_ q=>q.elim,λ_ q=>q.elim,λ_ _ _ q=>(by cases q),λ_ _ _ _ _ q=>(by cases q),λ_ _ q=>(by cases q),λk B q=>by simp at q, ?_⟩);rw[Zh7 (show Rel ρ2 w2 Im2 (apW h).av v from hv2)];exact Ze8 _ _ _ _
end Go.Proofs.YtdhchmlalchgeaaGreat
namespace Go.Proofs.YtdhchmlalchgeaaGreat
open Go.Sx
def ZkY{c:List Int}{x k:Int}(hk:0<=k){o:Nat}(ho:o<c.length):(clrW c x k).getD o 0=if x<=o/\(o:Int)<x+k then 0 else c.getD o 0:=by
 have h1:loC c x<=c.length:=ZfF c x;have h2:loC c (x+k)<=c.length:=ZfF c (x+k);have h3:=Zgq c x hk;have e1:loC c x+(loC c (x+k)-loC c x)=loC c (x+k):=by omega
 have a1:o<loC c x↔(o:Int)<x:=by unfold loC;omega
 have a2:o<loC c (x+k)↔(o:Int)<x+k:=by unfold loC;omega
 unfold clrW;rw[e1];simp only[Lg];by_cases h4:o<loC c x
 .rw[L9,LN qo,LR,if_pos h4,if_neg (by have:=a1.1 h4;omega)]
 .by_cases h5:o<loC c (x+k)
  .rw[LN qo,Xc qo,if_pos (by have:=a2.1 h5;omega)];rw[LQ,if_pos qo];rfl
  .rw[Xc qo,LF,if_neg (λq=>h5 (a2.2 q.2))];congr 2;simp;omega
def ZhY{h:Heap}{F:Int}{l c:List Int}{o:Nat}(ho:o<c.length):∀ n:Nat,n<=l.length->(cwN h F l c n).getD o 0=if(l.take n).any (λa=>La (a-F<=o)&&La ((o:Int)<a-F+Z4F h a))=O then 0 else c.getD o 0
 | 0,_=>by simp[cwN]
 | n+1,hn=>by
  have hl:=Z8F h F l c n;rw[cwN,ZkY (Z91 h _).1 oq,ZhY ho n oq,Z9c oq,List.any_append];generalize l.getD n M=a;generalize (l.take n).any _=b;by_cases h1:a-F<=o/\(o:Int)<a-F+Z4F h a
  .rw[if_pos h1,if_pos (by simp[h1])]
  .rw[if_neg h1];have:([a].any λa=>La (a-F<=(o:Int))&&La ((o:Int)<a-F+Z4F h a))=Lc:=by
    simp only[List.any_cons,List.any_nil,L1,Bool.and_eq_false_iff,decide_eq_false_iff_not];omega
   rw[this,L1]
def Zbn{h:Heap}(hp:Z02 h=O){i:Nat}(hi:i<h.P.length){o:Int}(ho:0<=o/\o<h.C.pw):(address h.C i o).1=4096+(i*h.C.pw+o):=by
 have po:=Z06 hp;unfold address;rw[if_pos po.1,if_pos (inB_iff.2 oq)]
def Zei{h:Heap}(hp:Z02 h=O){i:Nat}(hi:i<h.P.length):0<=(i:Int)*h.C.pw/\(i:Int)*h.C.pw+h.C.pw<=h.W.length:=by
 have po:=Z06 hp;have h1:((i:Int)+1)*h.C.pw<=h.C.pg*h.C.pw:=LD oq oq;have h2:((i:Int)+1)*h.C.pw=i*h.C.pw+h.C.pw:=by rw[L3,L5]
 have h3:h.C.pg*h.C.pw=h.C.pw*h.C.pg:=Lv _ _;have h4:(0:Int)<=i*h.C.pw:=Lw oq oq;omega
def Zlp{h:Heap}(hp:Z02 h=O){i:Nat}(hi:i<h.P.length):(rawP h i).length=h.C.pw.toNat/\∀ o:Nat,o<h.C.pw.toNat->(rawP h i).getD o 0=Z4p h i o:=by
 have po:=Z06 hp;have pi:=Zei hp hi;have e0:=Zbn hp hi (o:=0) oq;constructor
 .simp only[rawP,LB,LU];omega
 .intro o ho;have e1:=Zbn hp hi (o:=o) oq;unfold Z4p loadA;rw[e1];rw[if_pos oq];simp only[rawP,Lg,LR,LF,if_pos ho];rw[e0,show(4096+((i:Int)*h.C.pw+0)-4096).toNat+o=(4096+((i:Int)*h.C.pw+(o:Int))-4096).toNat from by omega]
def Zci{h:Heap}(hp:Z02 h=O){i:Nat}(hi:i<h.P.length):(clrP h i).length=h.C.pw.toNat/\∀ o:Nat,o<h.C.pw.toNat->(clrP h i).getD o 0=if(Z2q h i).getD o M=O then 0 else Z4p h i o:=by
 have po:=Z06 hp;obtain⟨r1,r2⟩:=Zlp hp hi;constructor
 .rw[clrP,Z8F,r1]
 .intro o ho;rw[clrP,ZhY oq _ (Ly _),List.take_length,r2 o ho];have e0:=Zbn hp hi (o:=0) oq;have e:(Z2q h i).getD o M=(Z09 h (Z0E h.P i:Nat)).1.any (λa=>La (a-(address h.C i 0).1<=(o:Int))&&La ((o:Int)<a-(address h.C i 0).1+Z4F h a)):=by
   unfold Z2q Z1M;rw[Lg,LO,List.getElem?_range ho];simp only[LH,Lz];congr 1;funext a
   unfold Z9n;rw[e0,show a-(4096+((i:Int)*h.C.pw+0))=a-4096-i*h.C.pw from by omega]
  rw[e]
def Zgi{h:Heap}(hp:Z02 h=O){i:Nat}(hi:i<h.P.length)(e:fstW (clrP h i)<(clrP h i).length):Z32 h i (Z2q h i)=4096+i*h.C.pw+fstW (clrP h i):=by
 obtain⟨c1,c2⟩:=Zci hp hi;have hu:=Z74 h i;have hf:(Lh (Z2q h i).length).find? (badD h i (Z2q h i))=Lf (fstW (clrP h i)):=by
  rw[Ln];refine⟨?_,Li.2 oq,λj hj=>?_⟩
  .have h1:=ZfY e;rw[show(M:Int)=0 from rfl,c2 _ oq]at h1;split at h1
   .exact absurd rfl h1
   .rename_i h2;simp only[badD,LI,LL,decide_eq_true_eq];exact⟨by simpa using h2,h1⟩
  .have h1:=(ZbL hj).2;rw[show(M:Int)=0 from rfl,c2 _ oq]at h1;simp only[badD,Bool.not_and,Bool.not_not,Bool.or_eq_true,LL,decide_eq_false_iff_not];split at h1
   .rename_i h2;exact .inl h2
   .exact .inr (λq=>q h1)
 unfold Z32;rw[hf]
def Zoh{h:Heap}(hp:Z02 h=O){i:Nat}(hi:i<h.P.length)(e:¬ fstW (clrP h i)<(clrP h i).length):Z32 h i (Z2q h i)=0:=by
 obtain⟨c1,c2⟩:=Zci hp hi;have hu:=Z74 h i;have hf:(Lh (Z2q h i).length).find? (badD h i (Z2q h i))=Ll:=by
  rw[Lp];intro j hj;have hj:=Li.1 hj;have h1:=(ZbL (l:=clrP h i) (m:=j) oq).2;rw[show(M:Int)=0 from rfl,c2 _ oq]at h1;simp only[badD,LI,LL,decide_eq_true_eq,not_and];intro h2 h3;rw[if_neg (by rw[h2];simp)]at h1;exact h3 h1
 unfold Z32;rw[hf]
def Z7D{h:Heap}(hp:Z02 h=O){i:Nat}(hi:i<h.P.length):Z26 h i (Z09 h i).1=La (Z16 h i (Z09 h i).1≠0):=by
 unfold Z16 Z26;cases hf:(Z09 h i).1.find? (Z1y h i)with
 | none=>simp
 | some x =>
  have hx:=Xh hf;have e:=Z7K hp (i:=i) oq;rw[e]at hx;obtain⟨y,hy,rfl⟩:=Xg.1 hx;have h1:=(Z5k y hy).1;have h2:=(Zei hp hi).1;have:y.addr≠0:=by omega
  simp[this]
def find_congr{α:Type}{p q:α->Bool}:∀ {l:List α},(∀ x∈l,p x=q x)->l.find? p=l.find? q
 | [],_=>rfl
 | a::l,h=>by
  rw[Xb,Xb,h a pq,find_congr (l:=l) (λx hx=>h x (by simp[hx]))]
def find_range{l:List Int}{p:Int->Bool}:match (Lh l.length).find? (λi=>p (l.getD i M))with | Ll=>l.find? p=Ll | Lf i=>l.find? p=Lf (l.getD i M):=by
 split
 .rename_i hb;rw[Lp]at hb ⊢;intro x hx;obtain⟨i,hi,e⟩:=getD_mem_iff.1 hx;have:=hb i (Li.2 hi);rwa [e]at this
 .rename_i i hb;obtain⟨h1,h2,h3⟩:=Ln.1 hb;have h2:=Li.1 h2;cases hf:l.find? p with
  | none =>
   have:=Lp.1 hf (l.getD i M) (getD_mem_iff.2 ⟨i,h2,rfl⟩);exact absurd h1 this
  | some x =>
   obtain⟨n,k1,k2,k3,k4⟩:=Z40 hf;have hn:n=i:=by
    rcases Nat.lt_trichotomy n i with q | q | q
    .have:=h3 n q;rw[k2,k3]at this;cases this
    .exact q
    .have:=k4 i q;rw[h1]at this;cases this
   subst hn;rw[k2]
def Z9t{h:Heap}{a:Int}(ha:a∈(Z05 h).1):(atH h a).2=0/\(atH h a).1.K≠0:=by
 by_cases e:(allW h).2=0
 .rw[Zjd h e]at ha;obtain⟨x,hx,rfl⟩:=Xg.1 ha;obtain⟨h1,h2⟩:=List.mem_filter.1 hx;obtain⟨h3,h4⟩:=Zin x h1;refine⟨h4, ?_⟩;rw[<- h3];simpa[Z2O]using h2
 .rw[Zft h e]at ha;simp at ha
def Z6E(hd:Header):∀ n:Nat,Z0V hd n=((Lh n).filter (λk:Nat=>Z0f hd k)).map (λk:Nat=>(k:Int))
 | 0=>rfl
 | n+1=>by
  rw[Z0V,Xi,List.filter_append,LC,<- Z6E hd n];by_cases h:Z0f hd (n:Int)=O
  .rw[if_pos h];simp[h]
  .rw[if_neg h];simp[h]
def ptrF(h:Heap)(all:List Int)(a:Int):Option Nat:=(Lh (Z0G h a).1.length).find? (Zac (getH h a).1 (Z0G h a).1 all)
def Zq3{h:Heap}{a:Int}(e:(atH h a).2=0)(hk:(atH h a).1.K≠0)(all:List Int):apF h all a=(ptrF h all a).map (λk:Nat=>(k:Int)):=by
 have i1:=Zje e;have i2:=(ZcH e).1;have g1:getH h a=atH h a:=by
  unfold getH;rw[if_pos i2,if_neg oq,if_neg (λq=>hk q.2)]
 have g2:=Z45 (h:=h) (a:=a) (by rw[g1];exact e);rw[g1]at g2;have hv:=g2.2.2.2.2.2.2.1;have hl:=g2.2.2.2.2.2.2.2.2.2;have f1:(Z0G h a).1=(h.W.drop (a+1-4096).toNat).take (atH h a).1.length.toNat:=by
  unfold Z0G;rw[g1,if_pos e,Z1n,if_neg oq,if_pos oq]
 have fl:(Z0G h a).1.length=(atH h a).1.length.toNat:=by
  rw[f1,LB,LU];omega
 have fg:∀ k:Nat,k<(atH h a).1.length.toNat->(Z0G h a).1.getD k M=fdV h a k:=by
  intro k hk;unfold fdV loadA;rw[if_pos oq,f1];simp only[Lg,LR,LF,if_pos hk];rw[show(a+1-4096).toNat+k=(a+1+(k:Int)-4096).toNat from by omega];rfl
 unfold apF ptrF Z03;rw[if_pos hv,Z6E,List.find?_map,List.find?_filter,fl,g1];congr 1;refine find_congr λk hk=>?_;have hk:=Li.1 hk;rw[Zac,fg k hk];simp only[Function.comp,pbad];cases Z0f (atH h a).1 (k:Int)<;>simp
def Zpu(h:Heap):apW h=Z13 h (Z05 h).1:=by
 have hr:=find_range (l:=(Z05 h).1) (p:=λa=>(ptrF h (Z05 h).1 a).isSome);have hc:(Z05 h).1.find? (λa=>(apF h (Z05 h).1 a).isSome)=(Z05 h).1.find? (λa=>(ptrF h (Z05 h).1 a).isSome):=find_congr λa ha=>by
  rw[Zq3 (Z9t ha).1 (Z9t ha).2,Option.isSome_map]
 unfold apW apAt Z13;rw[hc];change match (Lh (Z05 h).1.length).find? (λi=>(Z27 h (Z05 h).1 i).isSome)with | Ll=>_ | Lf i=>_ at hr
 split at hr
 .rename_i hb;rw[hr,hb];rfl
 .rename_i i hb;have h1:=(Ln.1 hb)
  have hm:(Z05 h).1.getD i M∈(Z05 h).1:=getD_mem_iff.2 ⟨i,Li.1 h1.2.1,rfl⟩;obtain⟨k,hk⟩:=Xk.1 h1.1;have hk':ptrF h (Z05 h).1 ((Z05 h).1.getD i M)=Lf k:=hk;have i1:=Zje (Z9t hm).1;rw[hr,hb];simp only[hk,Zq3 (Z9t hm).1 (Z9t hm).2,hk',LH,Lz];rw[if_neg oq]
def apgL(h:Heap)(i:Nat):Tg:=⟨tm 64 [(1,.pt 8001 0 0),(2,.pt 8002 0 0),(12,Z0u h.P),(13,int h.P.length),(14,int i)],[(8002,.box 180 [int 0,int 0,u64 0]),(8001,.box 28 h.cells)],60⟩
def apgE(f:Finding):Tg:=⟨tm 64 [(2,.pt 8002 0 0)],[(8002,.box 180 [int f.fault,int f.page,u64 f.addr])],64⟩
section
variable (h:Heap) (i:Nat) (hw:WOk h.W) (hp:Z02 h=O) (hi:i<h.P.length)
include hw hp hi
theorem ZpU(e:Z32 h i (Z2q h i)=0):idxW (clrP h i)=-1:=by
 by_cases hc:fstW (clrP h i)<(clrP h i).length
 .have h1:=Zgi hp hi hc;have h2:=(Zei hp hi).1;omega
 .exact if_neg hc
theorem Zom(e:¬ Z32 h i (Z2q h i)=0):0<=idxW (clrP h i)/\idxW (clrP h i)<=64/\Z32 h i (Z2q h i)=(address h.C i 0).1+idxW (clrP h i):=by
 have po:=Z06 hp;by_cases hc:fstW (clrP h i)<(clrP h i).length
 .have h1:=Zgi hp hi hc;have h2:idxW (clrP h i)=fstW (clrP h i):=if_pos hc;have h3:=Zbn hp hi (o:=0) oq;have h4:=(Zci hp hi).1;rw[h1,h2,h3];omega
 .exact absurd (Zoh hp hi hc) e
theorem Zfn(n1:(h.P.getD i M).K=0\/(h.P.getD i M).S=h.S)(n2:(Z09 h (i:Int)).2=0)(n3:Z16 h (i:Int) (Z09 h (i:Int)).1=0)(n4:Z32 h i (Z2q h i)=0):CP (rndF f169 0) (apgL h i).st .nrm (apgL h (i+1)).st:=by
 have po:=Z06 hp;have hn:=Z3a h (i:Int);have hr:=Z2V hp (i:Int);have q3:=Z7D hp hi;rw[n3]at q3;have q4:=ZpU h i hw hp hi n4;simp only[ne_eq,not_true_eq_false,decide_false]at q3;rcases n1 with n1 | n1
 .exact sF [] [] (Fh 48 [.br Lc] (Fh 58 [.br Lc] (Ftb 15 (La ((i:Int)<(h.P.length:Int))) (Fek 17 Page.dv h.P (↑i) i (Ffb 28 ((h.P.getD i M).K != 0&&(h.P.getD i M).S != h.S) (Fc 34 (@Z3N h ((i:Int)) aa oq) (Ffb 38 ((Z09 h (i:Int)).2 != 0) (Fc 45 (@Z3T h ((i:Int)) ((Z09 h (i:Int)).1) aa oq oq oq aa) (Fa ‹Z26 h (i:Int) (Z09 h (i:Int)).1=Lc› (Fc 55 (@Z6K h i aa aa aa) (Fb (La (0<=idxW (clrP h i))=Lc) (Fx 62 i Fz))))))))))))
 .exact sF [] [] (Fh 48 [.br Lc] (Fh 58 [.br Lc] (Ftb 15 (La ((i:Int)<(h.P.length:Int))) (Fek 17 Page.dv h.P (↑i) i (Ffb 28 ((h.P.getD i M).K != 0&&(h.P.getD i M).S != h.S) (Fc 34 (@Z3N h ((i:Int)) aa oq) (Ffb 38 ((Z09 h (i:Int)).2 != 0) (Fc 45 (@Z3T h ((i:Int)) ((Z09 h (i:Int)).1) aa oq oq oq aa) (Fa ‹Z26 h (i:Int) (Z09 h (i:Int)).1=Lc› (Fc 55 (@Z6K h i aa aa aa) (Fb (La (0<=idxW (clrP h i))=Lc) (Fx 62 i Fz))))))))))))
theorem Zr0(n1:¬ (h.P.getD i M).K=0/\¬ (h.P.getD i M).S=h.S):CP (rndF f169 0) (apgL h i).st .ret (apgE ⟨2,i,0⟩).st:=by
 have po:=Z06 hp;obtain⟨n1,n2⟩:=n1;exact sF [] [] (Ftb 15 (La ((i:Int)<(h.P.length:Int))) (Fek 17 Page.dv h.P (↑i) i (Ftb 28 ((h.P.getD i M).K != 0&&(h.P.getD i M).S != h.S) Fz)))
theorem Zr5(n1:(h.P.getD i M).K=0\/(h.P.getD i M).S=h.S)(n2:¬ (Z09 h (i:Int)).2=0):CP (rndF f169 0) (apgL h i).st .ret (apgE ⟨3,i,0⟩).st:=by
 have po:=Z06 hp;rcases n1 with n1 | n1
 .exact sF [] [] (Ftb 15 (La ((i:Int)<(h.P.length:Int))) (Fek 17 Page.dv h.P (↑i) i (Ffb 28 ((h.P.getD i M).K != 0&&(h.P.getD i M).S != h.S) (Fc 34 (@Z3N h ((i:Int)) aa oq) (Ftb 38 ((Z09 h (i:Int)).2 != 0) Fz)))))
 .exact sF [] [] (Ftb 15 (La ((i:Int)<(h.P.length:Int))) (Fek 17 Page.dv h.P (↑i) i (Ffb 28 ((h.P.getD i M).K != 0&&(h.P.getD i M).S != h.S) (Fc 34 (@Z3N h ((i:Int)) aa oq) (Ftb 38 ((Z09 h (i:Int)).2 != 0) Fz)))))
theorem ZqU(n1:(h.P.getD i M).K=0\/(h.P.getD i M).S=h.S)(n2:(Z09 h (i:Int)).2=0)(n3:¬ Z16 h (i:Int) (Z09 h (i:Int)).1=0):CP (rndF f169 0) (apgL h i).st .ret (apgE ⟨5,i,Z16 h (i:Int) (Z09 h (i:Int)).1⟩).st:=by
 have po:=Z06 hp;have hn:=Z3a h (i:Int);have hr:=Z2V hp (i:Int);have q3:Z26 h i (Z09 h i).1=O:=by rw[Z7D hp hi];simpa using n3
 rcases n1 with n1 | n1
 .exact sF [] [] (Fh 48 [.br O] (Ftb 15 (La ((i:Int)<(h.P.length:Int))) (Fek 17 Page.dv h.P (↑i) i (Ffb 28 ((h.P.getD i M).K != 0&&(h.P.getD i M).S != h.S) (Fc 34 (@Z3N h ((i:Int)) aa oq) (Ffb 38 ((Z09 h (i:Int)).2 != 0) (Fc 45 (@Z3T h ((i:Int)) ((Z09 h (i:Int)).1) aa oq oq oq aa) (Fa ‹Z26 h (i:Int) (Z09 h (i:Int)).1=O› Fz))))))))
 .exact sF [] [] (Fh 48 [.br O] (Ftb 15 (La ((i:Int)<(h.P.length:Int))) (Fek 17 Page.dv h.P (↑i) i (Ffb 28 ((h.P.getD i M).K != 0&&(h.P.getD i M).S != h.S) (Fc 34 (@Z3N h ((i:Int)) aa oq) (Ffb 38 ((Z09 h (i:Int)).2 != 0) (Fc 45 (@Z3T h ((i:Int)) ((Z09 h (i:Int)).1) aa oq oq oq aa) (Fa ‹Z26 h (i:Int) (Z09 h (i:Int)).1=O› Fz))))))))
theorem Zr1(n1:(h.P.getD i M).K=0\/(h.P.getD i M).S=h.S)(n2:(Z09 h (i:Int)).2=0)(n3:Z16 h (i:Int) (Z09 h (i:Int)).1=0)(n4:¬ Z32 h i (Z2q h i)=0):CP (rndF f169 0) (apgL h i).st .ret (apgE ⟨4,i,Z32 h i (Z2q h i)⟩).st:=by
 have po:=Z06 hp;have hn:=Z3a h (i:Int);have hr:=Z2V hp (i:Int);have q3:=Z7D hp hi;rw[n3]at q3;simp only[ne_eq,not_true_eq_false,decide_false]at q3;obtain⟨q4,q5,q6⟩:=Zom h i hw hp hi n4;have q7:max (idxW (clrP h i)) 0=idxW (clrP h i):=by omega
 rw[q6];rcases n1 with n1 | n1
 .exact sF [] (fO 6) (Fh 48 [.br Lc] (Fh 58 [.br O] (Ftb 15 (La ((i:Int)<(h.P.length:Int))) (Fek 17 Page.dv h.P (↑i) i (Ffb 28 ((h.P.getD i M).K != 0&&(h.P.getD i M).S != h.S) (Fc 34 (@Z3N h ((i:Int)) aa oq) (Ffb 38 ((Z09 h (i:Int)).2 != 0) (Fc 45 (@Z3T h ((i:Int)) ((Z09 h (i:Int)).1) aa oq oq oq aa) (Fa ‹Z26 h (i:Int) (Z09 h (i:Int)).1=Lc› (Fc 55 (@Z6K h i aa aa aa) (Fb (La (0<=idxW (clrP h i))=O) (Fr (180:Int) (Fr (4:Int) (Fr (i:Int) (Fa (by rw[q7]:(address h.C (i:Int) 0).1+max (idxW (clrP h i)) 0=(Finding.mk 4 (i:Int) ((address h.C (i:Int) 0).1+idxW (clrP h i))).addr) Fz)))))))))))))))
 .exact sF [] (fO 6) (Fh 48 [.br Lc] (Fh 58 [.br O] (Ftb 15 (La ((i:Int)<(h.P.length:Int))) (Fek 17 Page.dv h.P (↑i) i (Ffb 28 ((h.P.getD i M).K != 0&&(h.P.getD i M).S != h.S) (Fc 34 (@Z3N h ((i:Int)) aa oq) (Ffb 38 ((Z09 h (i:Int)).2 != 0) (Fc 45 (@Z3T h ((i:Int)) ((Z09 h (i:Int)).1) aa oq oq oq aa) (Fa ‹Z26 h (i:Int) (Z09 h (i:Int)).1=Lc› (Fc 55 (@Z6K h i aa aa aa) (Fb (La (0<=idxW (clrP h i))=O) (Fr (180:Int) (Fr (4:Int) (Fr (i:Int) (Fa (by rw[q7]:(address h.C (i:Int) 0).1+max (idxW (clrP h i)) 0=(Finding.mk 4 (i:Int) ((address h.C (i:Int) 0).1+idxW (clrP h i))).addr) Fz)))))))))))))))
end
def Zqq(h:Heap):CP (rndF f169 0) (apgL h h.P.length).st (.ext 0) (apgE ⟨0,0,0⟩).st:=by
 exact sF [] [] (Ffb 15 (La ((h.P.length:Int)<(h.P.length:Int))) Fz)
def apgV(h:Heap):Finding:=match Z2Y h with | Lf i=>pageF h i | Ll=>⟨0,0,0⟩
def Zfr{h:Heap}{i:Nat}(e:(pageF h i).fault=0):((h.P.getD i M).K=0\/(h.P.getD i M).S=h.S)/\(Z09 h (i:Int)).2=0/\Z16 h (i:Int) (Z09 h (i:Int)).1=0/\Z32 h i (Z2q h i)=0:=by
 unfold pageF at e;split at e
 .simp at e
 .rename_i h1;split at e
  .simp at e
  .rename_i h2;split at e
   .simp at e
   .rename_i h3;split at e
    .simp at e
    .rename_i h4;refine⟨?_,Lq.1 h2,Lq.1 h3,Lq.1 h4⟩;by_cases q:(h.P.getD i M).K=0
     .exact .inl q
     .refine .inr (Lq.1 λq2=>h1 ⟨q,q2⟩)
def ZlV(h:Heap)(i:Nat)(hw:WOk h.W)(hp:Z02 h=O)(hi:i<h.P.length)(e:(pageF h i).fault≠0):CP (rndF f169 0) (apgL h i).st .ret (apgE (pageF h i)).st:=by
 unfold pageF at e ⊢;split
 .rename_i h1;exact Zr0 h i hw hp hi h1
 .rename_i h1;have n1:(h.P.getD i M).K=0\/(h.P.getD i M).S=h.S:=by
   by_cases q:(h.P.getD i M).K=0
   .exact .inl q
   .exact .inr (Lq.1 λq2=>h1 ⟨q,q2⟩)
  split
  .rename_i h2;exact Zr5 h i hw hp hi n1 h2
  .rename_i h2;split
   .rename_i h3;exact ZqU h i hw hp hi n1 (Lq.1 h2) h3
   .rename_i h3;split
    .rename_i h4;exact Zr1 h i hw hp hi n1 (Lq.1 h2) (Lq.1 h3) h4
    .rename_i h4;rw[if_neg h1,if_neg h2,if_neg h3,if_neg h4]at e;exact absurd rfl e
def ZnD(h:Heap)(hw:WOk h.W)(hp:Z02 h=O)(hf:Z2Y h=Ll):CP (blkF f169 0) (apgL h 0).st .nrm (Tg.st ⟨tm 64 [(2,.pt 8002 0 0)],[(8002,.box 180 [int 0,int 0,u64 0])],64⟩):=by
 refine Z0a (S:=λk=>(apgL h k).st) h.P.length kr (λk hk=>?_) (Zqq h);have e:=Lp.1 hf k (Li.2 hk);obtain⟨n1,n2,n3,n4⟩:=Zfr (h:=h) (i:=k) (by simpa using e);exact Zfn h k hw hp hk n1 n2 n3 n4
def ZkM(h:Heap)(i:Nat)(hw:WOk h.W)(hp:Z02 h=O)(hf:Z2Y h=Lf i):CP (blkF f169 0) (Tg.st ⟨tm 64 [(1,.pt 8001 0 0),(2,.pt 8002 0 0),(12,Z0u h.P),(13,int h.P.length),(14,int 0)],[(8002,.box 180 [int 0,int 0,u64 0]),(8001,.box 28 h.cells)],60⟩) .ret (Tg.st ⟨tm 64 [(2,.pt 8002 0 0)],[(8002,.box 180 [int (pageF h i).fault,int (pageF h i).page,u64 (pageF h i).addr])],64⟩):=by
 obtain⟨h1,h2,h3⟩:=Ln.1 hf;have h2:=Li.1 h2;refine Z0H (S:=λk=>(apgL h k).st) i kr (λk hk=>?_) (ZlV h i hw hp h2 (by simpa using h1));have e:=h3 k hk;obtain⟨n1,n2,n3,n4⟩:=Zfr (h:=h) (i:=k) (by simpa using e);exact Zfn h k hw hp oq n1 n2 n3 n4
def Z5K(h:Heap)(hw:WOk h.W)(hp:Z02 h=O):GP 169 [h.av] O (apgV h).av []:=by
 have po:=Z06 hp;cases hf:Z2Y h with
 | none =>
  have e7:apgV h=⟨0,0,0⟩:=by simp only[apgV,hf]
  rw[e7];exact gF [] func169 [] (Fl 13 Page.dv h.P (Fu (@ZnD h aa aa aa) Fz))
 | some i =>
  have e7:apgV h=pageF h i:=by simp only[apgV,hf]
  rw[e7];exact gF [] func169 [] (Fl 13 Page.dv h.P (Fu (@ZkM h i aa aa aa) Fz))
def Zcr(h:Heap)(hw:WOk h.W)(hp:Z02 h=Lc):GP 129 [h.av] O (Finding.av ⟨1,0,0⟩) []:=by
 exact gF [] func129 [] (Fc 9 (@Z0N h) (Ftb 10 (!Z02 h) Fz))
def Zal(h:Heap)(hw:WOk h.W)(hp:Z02 h=O)(i:Nat)(hb:Z2Y h=Lf i):GP 129 [h.av] O (pageF h i).av []:=by
 have po:=Z06 hp;have e7:apgV h=pageF h i:=by simp only[apgV,hb]
 have h1:¬ (pageF h i).fault=0:=by simpa using (Ln.1 hb).1
 rw[<- e7]at h1 ⊢;exact gF [] func129 [] (Fc 9 (@Z0N h) (Ffb 10 (!Z02 h) (Fc 13 (@Z5K h aa aa) (Ftb 16 (!((apgV h).fault==0&&((apgV h).page==0&&(apgV h).addr==0))) Fz))))
def Zbp(h:Heap)(hw:WOk h.W)(hp:Z02 h=O)(hb:Z2Y h=Ll)(hq:¬ (apW h).fault=0):GP 129 [h.av] O (apW h).av []:=by
 have po:=Z06 hp;have e7:apgV h=⟨0,0,0⟩:=by simp only[apgV,hb]
 have q1:(apgV h).fault=0:=by rw[e7]
 have q2:(apgV h).page=0:=by rw[e7]
 have q3:(apgV h).addr=0:=by rw[e7]
 exact gF [] func129 [] (Fc 9 (@Z0N h) (Ffb 10 (!Z02 h) (Fc 13 (@Z5K h aa aa) (Ffb 16 (!((apgV h).fault==0&&((apgV h).page==0&&(apgV h).addr==0))) (Fc 19 (@Z4J h aa oq) (Ftb 22 (!((apW h).fault==0&&((apW h).page==0&&(apW h).addr==0))) Fz))))))
def acrL(h:Heap)(i:Nat):Tg:=⟨tm 50 [(1,.pt 8001 0 0),(2,.pt 8002 0 0),(5,int (Z0y h.P i)),(25,Z0u h.P),(26,int h.P.length),(27,int i)],[(8002,.box 180 [int 0,int 0,u64 0]),(8001,.box 28 h.cells)],60⟩
def Zms(h:Heap)(i:Nat)(hp:Z02 h=O)(hi:i<h.P.length):CP (rndF f129 0) (acrL h i).st .nrm (acrL h (i+1)).st:=by
 have po:=Z06 hp;have:=Z37 h.P i;by_cases h1:(h.P.getD i M).K=1
 .by_cases h2:0<(h.P.getD i M).N
  .have e:Z0y h.P (i+1)=Z0y h.P i+1:=by rw[Z0y,if_pos ⟨h1,h2⟩]
   rw[acrL,acrL,e];exact sF [] [] (Ftb 28 (La ((i:Int)<(h.P.length:Int))) (Fek 29 Page.dv h.P (↑i) i (Ftb 38 ((h.P.getD i M).K==1&&La (0<(h.P.getD i M).N)) (Fw 40 ((↑(Z0y h.P i):Int)+1) (↑(Z0y h.P i+1):Int) (Fx 41 i Fz)))))
  .have e:Z0y h.P (i+1)=Z0y h.P i:=by rw[Z0y,if_neg (λq=>h2 q.2)];rfl
   rw[acrL,acrL,e];exact sF [] [] (Ftb 28 (La ((i:Int)<(h.P.length:Int))) (Fek 29 Page.dv h.P (↑i) i (Ffb 38 ((h.P.getD i M).K==1&&La (0<(h.P.getD i M).N)) (Fx 41 i Fz))))
 .have e:Z0y h.P (i+1)=Z0y h.P i:=by rw[Z0y,if_neg (λq=>h1 q.1)];rfl
  rw[acrL,acrL,e];exact sF [] [] (Ftb 28 (La ((i:Int)<(h.P.length:Int))) (Fek 29 Page.dv h.P (↑i) i (Ffb 38 ((h.P.getD i M).K==1&&La (0<(h.P.getD i M).N)) (Fx 41 i Fz))))
def Zqy(h:Heap):CP (rndF f129 0) (acrL h h.P.length).st (.ext 0) (Tg.st ⟨tm 50 [(1,.pt 8001 0 0),(2,.pt 8002 0 0),(5,int (Z0y h.P h.P.length))],[(8002,.box 180 [int 0,int 0,u64 0]),(8001,.box 28 h.cells)],64⟩):=by
 exact sF [] [] (Ffb 28 (La ((h.P.length:Int)<(h.P.length:Int))) Fz)
def Zke(h:Heap)(hp:Z02 h=O)  := Z0a (S:=λi=>(acrL h i).st) h.P.length (by kernel_rfl) (λi hi=>Zms h i hp hi) (Zqy h)
def Z9N(h:Heap)(hw:WOk h.W)(hp:Z02 h=O)(hb:Z2Y h=Ll)(hq:(apW h).fault=0)(hc:h.C.pg/4<(Z0y h.P h.P.length:Nat)):GP 129 [h.av] O (Finding.av ⟨7,0,0⟩) []:=by
 have po:=Z06 hp;have cl:=Z37 h.P h.P.length;have e7:apgV h=⟨0,0,0⟩:=by simp only[apgV,hb]
 have q1:(apgV h).fault=0:=by rw[e7]
 have q2:(apgV h).page=0:=by rw[e7]
 have q3:(apgV h).addr=0:=by rw[e7]
 have e8:apW h=⟨0,0,0⟩:=by
  unfold apW at hq ⊢;split at hq
  .rename_i h1;rw[if_pos h1]
  .simp at hq
 have q4:(apW h).fault=0:=by rw[e8]
 have q5:(apW h).page=0:=by rw[e8]
 have q6:(apW h).addr=0:=by rw[e8]
 exact gF [] func129 [] (Fc 9 (@Z0N h) (Ffb 10 (!Z02 h) (Fc 13 (@Z5K h aa aa) (Ffb 16 (!((apgV h).fault==0&&((apgV h).page==0&&(apgV h).addr==0))) (Fc 19 (@Z4J h aa oq) (Ffb 22 (!((apW h).fault==0&&((apW h).page==0&&(apW h).addr==0))) (Fl 26 Page.dv h.P (Fu (@Zke h aa) (Fg 46 (by rw[L7 oq,wrapI' oq oq]:IntKind.i64.wrap (h.C.pg.tdiv 4)=h.C.pg/4) (Fa (by decide:(4:Int)≠0) (Ftb 47 (La (h.C.pg/4<(↑(Z0y h.P h.P.length):Int))) Fz)))))))))))
def Zae(h:Heap)(hw:WOk h.W)(hp:Z02 h=O)(hb:Z2Y h=Ll)(hq:(apW h).fault=0)(hc:¬ h.C.pg/4<(Z0y h.P h.P.length:Nat)):GP 129 [h.av] O (Finding.av ⟨0,0,0⟩) []:=by
 have po:=Z06 hp;have cl:=Z37 h.P h.P.length;have e7:apgV h=⟨0,0,0⟩:=by simp only[apgV,hb]
 have q1:(apgV h).fault=0:=by rw[e7]
 have q2:(apgV h).page=0:=by rw[e7]
 have q3:(apgV h).addr=0:=by rw[e7]
 have e8:apW h=⟨0,0,0⟩:=by
  unfold apW at hq ⊢;split at hq
  .rename_i h1;rw[if_pos h1]
  .simp at hq
 have q4:(apW h).fault=0:=by rw[e8]
 have q5:(apW h).page=0:=by rw[e8]
 have q6:(apW h).addr=0:=by rw[e8]
 exact gF [] func129 [] (Fc 9 (@Z0N h) (Ffb 10 (!Z02 h) (Fc 13 (@Z5K h aa aa) (Ffb 16 (!((apgV h).fault==0&&((apgV h).page==0&&(apgV h).addr==0))) (Fc 19 (@Z4J h aa oq) (Ffb 22 (!((apW h).fault==0&&((apW h).page==0&&(apW h).addr==0))) (Fl 26 Page.dv h.P (Fu (@Zke h aa) (Fg 46 (by rw[L7 oq,wrapI' oq oq]:IntKind.i64.wrap (h.C.pg.tdiv 4)=h.C.pg/4) (Fa (by decide:(4:Int)≠0) (Ffb 47 (La (h.C.pg/4<(↑(Z0y h.P h.P.length):Int))) Fz)))))))))))
def ZhA(h:Heap)(hw:WOk h.W):GP 129 [h.av] O (Z0C h).av []:=by
 have e7:=Zpu h;unfold Z0C;rw[<- e7];by_cases hp:Z02 h=O
 .rw[if_pos hp];cases hb:Z2Y h with
  | some i=>exact Zal h hw hp i hb
  | none =>
   by_cases hq:(apW h).fault=0
   .simp only[hq,ne_eq,not_true_eq_false,if_false];by_cases hc:h.C.pg/4<(Z0y h.P h.P.length:Nat)
    .rw[if_pos hc];exact Z9N h hw hp hb hq hc
    .rw[if_neg hc];exact Zae h hw hp hb hq hc
   .simp only[ne_eq,hq,not_false_eq_true,if_true];exact Zbp h hw hp hb hq
 .rw[if_neg hp];exact Zcr h hw (by simpa using hp)
def Zr2(h:Heap):((Z0C h).fault==0&&((Z0C h).page==0&&(Z0C h).addr==0))=La (Z0C h=⟨0,0,0⟩):=by
 cases Z0C h with
 | mk a b c=>by_cases h1:a=0<;>by_cases h2:b=0<;>by_cases h3:c=0<;>simp[h1,h2,h3]
def ZjY(h:Heap)(hw:WOk h.W):GP 78 [h.av] O (bool (La (Z0C h=⟨0,0,0⟩))) []:=by
 have e9:=Zr2 h;exact gF [] func78 [O] (Fc 4 (@ZhA h aa) (Fa (by exact e9:((Z0C h).fault==0&&((Z0C h).page==0&&(Z0C h).addr==0))=La (Z0C h=Finding.mk 0 0 0)) Fz))
def Z9V{h:Heap}(hp:∀ i:Nat,i<h.P.length->(Z09 h (i:Int)).2=0):∀ (f i:Nat),i+f=h.P.length->(Z0Q h f i).2=0
 | 0,_,_=>rfl
 | f+1,i,hf=>by
  have ih:=Z9V hp f (i+1) oq;unfold Z0Q;rw[hp i oq,ih];rfl
def Zkp{h:Heap}(hg:Z0C h=⟨0,0,0⟩):(Z05 h).2=0:=by
 have hp:Z02 h=O:=by
  by_cases q:Z02 h=O
  .exact q
  .rw[Z0C,if_neg q]at hg;cases hg
 rw[Z0C,if_pos hp]at hg;have hpf:∀ i,i<h.P.length->(pageF h i).fault=0:=by
  intro i hi;cases hb:Z2Y h with
  | some j =>
   rw[hb]at hg;simp only at hg;have:=List.find?_some hb;rw[hg]at this;simp at this
  | none =>
   have:=Lp.1 hb i (Li.2 hi);simpa using this
 have hpg:∀ i:Nat,i<h.P.length->(Z09 h (i:Int)).2=0:=by
  intro i hi;have q:=hpf i hi;unfold pageF at q;split at q
  .simp at q
  .split at q
   .simp at q
   .rename_i c2;simpa using c2
 unfold Z05;rw[Z10,if_pos hp];exact Z9V hpg h.P.length 0 oq
def evbB(h:Heap)(l:List Page):List (Nat×Blk):=[(8001,.box 28 [int h.C.pw,int h.C.pg,.ow 49027,.ow 49030,int h.S,int h.B]),(49030,.arr 84 4 (l.map Page.dv)),(49027,.arr 35 1 (h.W.map wdv)),(8002,.box 73 zW)]
def evbL(h:Heap)(all:List Int)(i:Nat):Tg:=⟨tm 61 [(1,.pt 8001 0 0),(2,.pt 8002 0 0),(3,int 0),(4,Z01 all),(34,.ow 49030),(35,int h.P.length),(36,int i)],evbB h (preM (begQ (1-h.S)) h.P i),8⟩
section
variable (h:Heap) (all:List Int) (hs:h.S=0\/h.S=1) (hl:h.P.length<=1048576)
include hs hl
theorem Zl5(i:Nat)(hi:i<h.P.length):CP (rndF f33 0) (evbL h all i).st .nrm (evbL h all (i+1)).st:=by
 have ha:=Z8f (begQ (1-h.S)) h.P (Ly i) M;have hn:=Z4b (begQ (1-h.S)) h.P i;by_cases hc:(h.P.getD i M).K=1/\0<(h.P.getD i M).N
 .have hq:=Z6T (begQ (1-h.S)) h.P hi M;rw[show begQ (1-h.S) (h.P.getD i M)=⟨(h.P.getD i M).K,1-h.S,(h.P.getD i M).U,(h.P.getD i M).N⟩ by rw[begQ,if_pos hc],<- ha]at hq;rw[<- ha]at hc;have Q0 {h_ c_ p_} (r_:Fq h_ c_ p_):=Ftb 37 (La ((i:Int)<(h.P.length:Int))) (Fmq 40 Page.dv (preM (begQ (1-h.S)) h.P i) (↑i) r_);rcases bb (((preM (begQ (1-h.S)) h.P i).getD (i:Int).toNat M).K==1&&La (0<((preM (begQ (1-h.S)) h.P i).getD (i:Int).toNat M).N))with hc0 | hc0<;>have hc0p:=hc0<;>simp only[bs]at hc0p
  .obtain⟨hc0pa,hc0pb⟩:=hc0p;let y1:=preM (begQ (1-h.S)) h.P i;let y0:=y1.getD (i:Int).toNat M;exact sF [] (fO 11) (Q0 (Ft 48 hc0 (Fi 54 (1-h.S) (Fm0q Page.dv y1 (↑i) (FS 10056 Page.dv y1 ((i:Int).toNat) (Page.mk y0.K (1-h.S) y0.U y0.N) (y0.dv) (Fx 57 i (Fr (84:Int) (Fa (by refine congrArg _ ?_;exact hq:Ld Page.dv (y1.set (i:Int).toNat (Page.mk y0.K (1-h.S) y0.U y0.N))=Ld Page.dv (preM (begQ (1-h.S)) h.P (i+1))) Fz))))))))
  .exact sF [] (fO 11) (Q0 (Ff 48 hc0 (Fx 57 i (Fr (84:Int) (Fa (by refine congrArg _ ?_;grind[]:Ld Page.dv (preM (begQ (1-h.S)) h.P i)=Ld Page.dv (preM (begQ (1-h.S)) h.P (i+1))) Fz)))))
 .have hq:=Z9R (begQ (1-h.S)) h.P hi M (by rw[begQ,if_neg hc]);rw[<- ha]at hc;have Q1 {h_ c_ p_} (r_:Fq h_ c_ p_):=Ftb 37 (La ((i:Int)<(h.P.length:Int))) (Fmq 40 Page.dv (preM (begQ (1-h.S)) h.P i) (↑i) r_);rcases bb (((preM (begQ (1-h.S)) h.P i).getD (i:Int).toNat M).K==1&&La (0<((preM (begQ (1-h.S)) h.P i).getD (i:Int).toNat M).N))with hc0 | hc0<;>have hc0p:=hc0<;>simp only[bs]at hc0p
  .obtain⟨hc0pa,hc0pb⟩:=hc0p;let y3:=preM (begQ (1-h.S)) h.P i;let y2:=y3.getD (i:Int).toNat M;exact sF [] (fO 11) (Q1 (Ft 48 hc0 (Fi 54 (1-h.S) (Fm0q Page.dv y3 (↑i) (FS 10056 Page.dv y3 ((i:Int).toNat) (Page.mk y2.K (1-h.S) y2.U y2.N) (y2.dv) (Fx 57 i (Fr (84:Int) (Fa (by refine congrArg _ ?_;grind[]:Ld Page.dv (y3.set (i:Int).toNat (Page.mk y2.K (1-h.S) y2.U y2.N))=Ld Page.dv (preM (begQ (1-h.S)) h.P (i+1))) Fz))))))))
  .exact sF [] (fO 11) (Q1 (Ff 48 hc0 (Fx 57 i (Fr (84:Int) (Fa (by refine congrArg _ ?_;exact hq:Ld Page.dv (preM (begQ (1-h.S)) h.P i)=Ld Page.dv (preM (begQ (1-h.S)) h.P (i+1))) Fz)))))
omit hs hl in
theorem Zq1:CP (rndF f33 0) (evbL h all h.P.length).st (.ext 0) (Tg.st ⟨tm 61 [(1,.pt 8001 0 0),(2,.pt 8002 0 0),(3,int 0),(4,Z01 all)],evbB h (h.P.map (begQ (1-h.S))),8⟩):=by
 have hq:=Z89 (begQ (1-h.S)) h.P;have hn:=Z4b (begQ (1-h.S)) h.P h.P.length;exact sF [] (fO 5) (Ffb 37 (La ((h.P.length:Int)<(h.P.length:Int))) (Fr (84:Int) (Fa (by refine congrArg _ ?_;assumption:Ld Page.dv (preM (begQ (1-h.S)) h.P h.P.length)=Ld Page.dv (Ld (begQ (1-h.S)) h.P)) Fz)))
theorem Zo7:CP (blkF f33 0) (Tg.st ⟨tm 61 [(1,.pt 8001 0 0),(2,.pt 8002 0 0),(3,int 0),(4,Z01 all),(34,.ow 49030),(35,int h.P.length),(36,int 0)],evbB h h.P,8⟩) .nrm (Tg.st ⟨tm 61 [(1,.pt 8001 0 0),(2,.pt 8002 0 0),(3,int 0),(4,Z01 all)],evbB h (h.P.map (begQ (1-h.S))),8⟩):=by
 have:=Z0a (S:=λk=>(evbL h all k).st) h.P.length kr (λk hk=>Zl5 h all hs hl k hk) (Zq1 h all);simp only[evbL,ZdE]at this;exact this
end
def Zgr(h:Heap)(hw:WOk h.W)(hp:Z02 h=O)(hg:Z0C h=⟨0,0,0⟩):GP 33 [h.av] Lc (.tu [(beginW h).av,int 0]) []:=by
 have po:=Z06 hp;have ho:=Z23 h;have g:=Zkp hg;have hne:h.P≠[]:=Z9g oq;exact gF [] func33 [] (Fc 9 (@Z0N h) (Ffb 10 (!Z02 h) (Fc 13 (@ZjY h aa) (Ffb 14 (!decide (Z0C h=Finding.mk 0 0 0)) (Fc 18 (@Z6o h aa) (Ffb 22 ((Z05 h).2 != 0) (Fc 27 (@Z4Q h.W oq) (Fc 30 (@Z6v h.P oq aa) (Fl 35 Page.dv h.P (Fu (@Zo7 h ((Z05 h).1) oq oq) (Fnl (Fnl Fz))))))))))))
def Z9S{ρ:Rho}{w:World}{Im:Nat->Prop}{v:Value}(s:Nat)(h:Rel ρ w Im (.d (.sl 0 [])) v):Rel ρ w Im (.d (.sl s [])) v:=by
 cases h with
 | d h =>
  cases h with
  | slNil=>exact .d (.slNil _ _ _)
  | sl _ _ p n c f hn=>cases hn;exact .d (.slNil _ _ _)
def hA10:Heap:=⟨⟨32,8⟩,Le 256 0,Le 8 ⟨0,0,0,0⟩,0,-1⟩
def hB10:Heap:=⟨⟨32,8⟩,(Le 256 0).set 0 29,[⟨1,0,2,0⟩,⟨0,0,0,0⟩,⟨0,0,0,0⟩,⟨0,0,0,0⟩,⟨0,0,0,0⟩,⟨0,0,0,0⟩,⟨0,0,0,0⟩,⟨0,0,0,0⟩],0,0⟩
def ZgE:Z0e []=⟨hA10,[],[]⟩:=by kernel_rfl
def ZnM:(⟨hA10,[],[]⟩:WorldM).put ⟨3,1,0⟩=⟨hB10,[4096],[]⟩:=by kernel_rfl
def Zg0:Z02 hB10=O:=by decide+kernel
def Zo6:Z0C hB10=⟨0,0,0⟩:=by decide+kernel
def Zjp:WOk hB10.W:=by unfold WOk;decide+kernel
def wB0:Work:=(⟨⟨⟨32,8⟩,(Le 256 0).set 0 29,[⟨1,0,2,0⟩,⟨0,0,0,0⟩,⟨0,0,0,0⟩,⟨0,0,0,0⟩,⟨0,0,0,0⟩,⟨0,0,0,0⟩,⟨0,0,0,0⟩,⟨0,0,0,0⟩],0,0⟩,[4096],[],[],0,⟨0,0,0,0,0,0⟩⟩:Work)
def wB1:Work:=(⟨⟨⟨32,8⟩,((Le 256 0).set 0 16514).set 32 29,[⟨1,0,2,0⟩,⟨1,1,2,0⟩,⟨0,0,0,0⟩,⟨0,0,0,0⟩,⟨0,0,0,0⟩,⟨0,0,0,0⟩,⟨0,0,0,0⟩,⟨0,0,0,0⟩],0,0⟩,[4096],[1],[4128],0,⟨1,0,0,0,0,0⟩⟩:Work)
def Zix:beginW hB10=wB0:=by kernel_rfl
def Zng:wB0.fwd 4096=(wB1,4128,0):=by kernel_rfl
def Zqt:WkOk wB0:=Zix▸Z38 Zjp Zg0
def Zr4:WkOk wB1:=by
 have k:=(fwd_ok Zqt 4096 (by rw[Zng])).1;rw[Zng]at k;exact k
def ok_B0:FwOk wB0 4096:=⟨⟨Zqt,by unfold SpOk;decide+kernel,by decide+kernel⟩,by decide,by decide+kernel,by decide+kernel,by decide+kernel⟩
def ok_B1:FwOk wB1 4096:=⟨⟨Zr4,by unfold SpOk;decide+kernel,by decide+kernel⟩,by decide,by decide+kernel,by decide+kernel,by decide+kernel⟩
def ZoC:GP 15 [.d (.sl 0 [])] Lc (⟨(⟨⟨32,8⟩,Le 256 0,Le 8 ⟨0,0,0,0⟩,0,-1⟩:Heap),[],[]⟩:WorldM).av []:=by
 have k:=Zck [] pq;rw[ZgE]at k;intro w Im vs hIm hsz h;refine k w Im vs hIm hsz λi x v hx hv=>?_;rcases i with _ | i
 .cases hx;exact Z9S 1 (h 0 _ v rfl hv)
 .simp at hx
def Zqa:GP 62 [.ag [int 32,int 8,.d (.sl 1 ((Le 256 0).map wdv)),.d (.sl 4 ((Le 8 (⟨0,0,0,0⟩:Page)).map Page.dv)),int 0,int (-1),.d (.sl 0 []),.d (.sl 0 [])],.ag [int 3,int 1,.d (.sc (.int .u32 0))]] Lc (⟨(⟨⟨32,8⟩,(Le 256 0).set 0 29,[⟨1,0,2,0⟩,⟨0,0,0,0⟩,⟨0,0,0,0⟩,⟨0,0,0,0⟩,⟨0,0,0,0⟩,⟨0,0,0,0⟩,⟨0,0,0,0⟩,⟨0,0,0,0⟩],0,0⟩:Heap),[4096],[]⟩:WorldM).av []:=by
 have hm:=ZfT [];rw[ZgE]at hm;have k:=Z7i ⟨hA10,[],[]⟩ ⟨3,1,0⟩ (hm.wm dd) dd;rw[ZnM]at k;intro w Im vs hIm hsz h;refine k w Im vs hIm hsz λi x v hx hv=>?_;rcases i with _ | _ | i
 .cases hx;obtain⟨cs,rfl,h2,h3,h4⟩:=Z3D (h 0 _ v rfl hv);refine .ag _ _ h2 h3 (λi a u ha hu=>?_);rcases i with _ | _ | _ | _ | _ | _ | _ | _ | i
  .cases ha;exact h4 0 _ u rfl hu
  .cases ha;exact h4 1 _ u rfl hu
  .cases ha;exact h4 2 _ u rfl hu
  .cases ha;exact h4 3 _ u rfl hu
  .cases ha;exact h4 4 _ u rfl hu
  .cases ha;exact h4 5 _ u rfl hu
  .cases ha;exact Z9S 1 (h4 6 _ u rfl hu)
  .cases ha;exact Z9S 1 (h4 7 _ u rfl hu)
  .cases (show(Ll:Option AV)=Lf a from ha)
 .cases hx;exact h 1 _ v rfl hv
 .simp at hx
def ZqM:GP 33 [(⟨⟨32,8⟩,(Le 256 0).set 0 29,[⟨1,0,2,0⟩,⟨0,0,0,0⟩,⟨0,0,0,0⟩,⟨0,0,0,0⟩,⟨0,0,0,0⟩,⟨0,0,0,0⟩,⟨0,0,0,0⟩,⟨0,0,0,0⟩],0,0⟩:Heap).av] Lc (.tu [(⟨⟨⟨32,8⟩,(Le 256 0).set 0 29,[⟨1,0,2,0⟩,⟨0,0,0,0⟩,⟨0,0,0,0⟩,⟨0,0,0,0⟩,⟨0,0,0,0⟩,⟨0,0,0,0⟩,⟨0,0,0,0⟩,⟨0,0,0,0⟩],0,0⟩,[4096],[],[],0,⟨0,0,0,0,0,0⟩⟩:Work).av,int 0]) []:=by
 have k:=Zgr hB10 Zjp Zg0 Zo6;rw[Zix]at k;exact k
def wB2:Work:=(⟨⟨⟨32,8⟩,((Le 256 0).set 0 16514).set 32 29,[⟨1,0,2,0⟩,⟨1,1,2,0⟩,⟨0,0,0,0⟩,⟨0,0,0,0⟩,⟨0,0,0,0⟩,⟨0,0,0,0⟩,⟨0,0,0,0⟩,⟨0,0,0,0⟩],0,0⟩,[4096],[1],[4128],1,⟨1,0,0,0,0,1⟩⟩:Work)
def Zo1:rootsF wB0 [4096]=(wB1,[4128],0):=by kernel_rfl
def Zpp:Z0z wB1=(wB2,O,0):=by kernel_rfl
def Zr7:Zlu wB0 [4096]:=λk hk _=>by
 have:k=0:=by simpa using hk
 subst this;exact ok_B0
def Zr6:Z3j wB1:=⟨ok_B1.ck,by decide,by decide+kernel,by decide+kernel,λ_=>by
 rw[show Z0n wB1=[] by kernel_rfl];exact⟨λk hk=>absurd hk (Xj k),λk hk _=>by rw[Nat.le_zero.1 hk];rfl,λk hk=>absurd hk (Xj k)⟩⟩
def Zqi:GP 46 [(⟨⟨⟨32,8⟩,(Le 256 0).set 0 29,[⟨1,0,2,0⟩,⟨0,0,0,0⟩,⟨0,0,0,0⟩,⟨0,0,0,0⟩,⟨0,0,0,0⟩,⟨0,0,0,0⟩,⟨0,0,0,0⟩,⟨0,0,0,0⟩],0,0⟩,[4096],[],[],0,⟨0,0,0,0,0,0⟩⟩:Work).av,.d (.sl 1 ([4096].map wdv))] O (.tu [(⟨⟨⟨32,8⟩,((Le 256 0).set 0 16514).set 32 29,[⟨1,0,2,0⟩,⟨1,1,2,0⟩,⟨0,0,0,0⟩,⟨0,0,0,0⟩,⟨0,0,0,0⟩,⟨0,0,0,0⟩,⟨0,0,0,0⟩,⟨0,0,0,0⟩],0,0⟩,[4096],[1],[4128],0,⟨1,0,0,0,0,0⟩⟩:Work).av,.d (.sl 1 ([4128].map wdv)),int 0]) []:=by
 have k:=Z8D wB0 [4096] Zr7 dd ok_B0.ck.ln;rw[Zo1]at k;exact k
def ZqZ:GP 49 [(⟨⟨⟨32,8⟩,((Le 256 0).set 0 16514).set 32 29,[⟨1,0,2,0⟩,⟨1,1,2,0⟩,⟨0,0,0,0⟩,⟨0,0,0,0⟩,⟨0,0,0,0⟩,⟨0,0,0,0⟩,⟨0,0,0,0⟩,⟨0,0,0,0⟩],0,0⟩,[4096],[1],[4128],0,⟨1,0,0,0,0,0⟩⟩:Work).av] O (.tu [(⟨⟨⟨32,8⟩,((Le 256 0).set 0 16514).set 32 29,[⟨1,0,2,0⟩,⟨1,1,2,0⟩,⟨0,0,0,0⟩,⟨0,0,0,0⟩,⟨0,0,0,0⟩,⟨0,0,0,0⟩,⟨0,0,0,0⟩,⟨0,0,0,0⟩],0,0⟩,[4096],[1],[4128],1,⟨1,0,0,0,0,1⟩⟩:Work).av,bool O,int 0]) []:=by
 have k:=Zl6 wB1 Zr6;rw[Zpp]at k;exact k
def Zh6:GP 51 [] O (bool O) []:=by
 exact gF [] func51 [] (Fc 8 (@ZoC) (Fc 12 (@Zqa) (Fc 16 (@ZqM) (Fc 23 (@Zqi) (Fc 29 (@ZqZ) Fz)))))
def sumP(f:Page->Int)(l:List Page):Int:=(l.map f).sum
def nzP(p:Page):Int:=if p.K=0 then 0 else 1
def usP(p:Page):Int:=if p.K=1 then p.U else 0
def unP(p:Page):Int:=if p.K=1/\¬ 0<p.N then p.U else 0
def lgP(p:Page):Int:=if p.K=2\/p.K=3 then 1 else 0
def Z5M(f:Page->Int)(p:Page):∀ (l:List Page) (i:Nat),i<l.length->sumP f (l.set i p)+f (l.getD i M)=sumP f l+f p
 | [],i,h=>by simp at h
 | x::l,0,_=>by simp[sumP];omega
 | x::l,i+1,h=>by
  have:=Z5M f p l i (by simpa using h);simp only[sumP,List.set_cons_succ,Ls,Lt,List.getD_cons_succ]at this ⊢;omega
def Z2X(f:Page->Int){l l':List Page}(hl:l'.length=l.length)(h:∀ i,i<l.length->f (l'.getD i M)=f (l.getD i M)):sumP f l'=sumP f l:=by
 unfold sumP;congr 1;refine Xa (by simpa using hl) λi h1 h2=>?_;have hi:i<l.length:=by simpa using h2
 have:=h i hi;rw[Lg,Lg,Lr hi,Lr oq]at this;simpa using this
def Z1G(f:Page->Int)(l:List Page):sumP f l=((Lh l.length).map λi=>f (l.getD i M)).sum:=by
 unfold sumP;congr 1;refine Xa pq λi h1 h2=>?_;have hi:i<l.length:=by simpa using h1
 simp[Lg,hi]
def Z4x{α:Type}{f g:α->Int}:∀ {l:List α},(∀ x∈l,f x<=g x)->(l.map f).sum<=(l.map g).sum
 | [],_=>by simp
 | x::l,h=>by
  have:=Z4x (l:=l) λy hy=>h y (LG _ hy);have:=h x pq;simp only[Ls,Lt];omega
def ZeY{α:Type}{f g:α->Int}{n:Int}{r:α}:∀ {l:List α},(∀ x∈l,f x<=g x)->r∈l->f r+n<=g r->(l.map f).sum+n<=(l.map g).sum
 | [],_,hr,_=>by simp at hr
 | x::l,h,hr,hn=>by
  have h0:=h x pq;have hl:∀ y∈l,f y<=g y:=λy hy=>h y (LG _ hy);simp only[Ls,Lt];rcases L0.1 hr with rfl | hr
  .have:=Z4x hl;omega
  .have:=ZeY hl hr hn;omega
def Z2W{α:Type}{f:α->Int}:∀ {l:List α},(∀ x∈l,0<=f x)->0<=(l.map f).sum
 | [],_=>by simp
 | x::l,h=>by
  have:=Z2W (l:=l) λy hy=>h y (LG _ hy);have:=h x pq;simp only[Ls,Lt];omega
def Zgv{ws:List Int}:∀ {l:List Int} {a b:Int},tile ws a b l->(l.map λx=>hlA ws x+1).sum=b-a
 | [],a,b,h=>by simp only[tile]at h;simp;omega
 | x::l,a,b,h=>by
  have:=Zgv h.2.2;simp only[Ls,Lt,this,h.1];omega
def ZcG(l:List Page):∀ i,i<=l.length->(∃ j,j<i/\(l.getD j M).K=0)->Z04 l i≠[]
 | 0,_,⟨j,hj,_⟩=>by omega
 | i+1,hi,⟨j,hj,hk⟩=>by
  have hpa:Z1l l i=l.getD i M:=by rw[Z3Y];simp
  simp only[Z04,Z3C];split
  .split<;>simp
  .rename_i c;rw[hpa]at c;exact ZcG l i oq ⟨j,by
    by_cases q:j=i
    .subst q;exact absurd hk c
    .omega,hk⟩
def Zht{l:List Page}(h:¬ 0<=first l 1):∀ j,j<l.length->(l.getD j M).K≠0:=by
 intro j hj hk;have hn:=ZcG l l.length (Ly _) ⟨j,hj,hk⟩;unfold first at h
 rw[if_neg oq]at h;have ok:=(Z2x l l.length).2;cases hr:Z04 l l.length with
 | nil=>exact hn hr
 | cons r rs =>
  have:=ok r (by rw[hr];simp);rw[show runs l=r::rs from hr,Z2S,if_pos oq]at h;omega
def ZqA{l:List Page}(h:∀ j,j<l.length->(l.getD j M).K≠0):sumP nzP l=l.length:=by
 rw[Z1G];have:∀ n,n<=l.length->((Lh n).map λi=>nzP (l.getD i M)).sum=n:=by
  intro n;induction n with
  | zero=>simp
  | succ n ih =>
   intro hn;have:=ih oq;rw[Xi,LC,List.sum_append,this];simp only[Ls,List.map_nil,Lt,List.sum_nil,nzP,if_neg (h n oq)];omega
 exact this _ (Ly _)
def wtW(h:Heap)(w:Work)(x:Int):Int:=if(Z08 (loadA w.heap.W x).1).2=O then 0 else hlA h.W x+1
def Z9U(h:Heap)(T:Nat->List Int)(w:Work)(i:Nat):Int:=if(h.P.getD i M).K=1/\¬ 0<(h.P.getD i M).N then((T i).map (wtW h w)).sum else 0
def Z62(h:Heap)(T:Nat->List Int)(w:Work):Int:=((Lh h.P.length).map (Z9U h T w)).sum
structure MI (h:Heap) (T:Nat->List Int) (w:Work):Prop where
 m0:w.heap.P.length=h.P.length/\w.heap.C=h.C
 m1:sumP usP h.P<=sumP usP w.heap.P
 m2:0<w.T.length->((w.T.length:Int)-1)*(h.C.pw/4*3+1)+(w.heap.P.getD (Z0o w).toNat M).U<=sumP usP w.heap.P-sumP usP h.P
 m3:sumP usP w.heap.P+Z62 h T w<=sumP usP h.P+sumP unP h.P
 m4:sumP nzP w.heap.P=sumP nzP h.P+w.T.length
 m5:∀ i,i<h.P.length->(h.P.getD i M).K=1->((w.heap.P.getD i M).S=w.heap.S↔¬ 0<(h.P.getD i M).N)
def Z77(h:Heap)(w:Work)(x:Int):0<=wtW h w x/\wtW h w x<=hlA h.W x+1:=by
 have:=Z0b h.W x;unfold wtW;split<;>omega
def ZjQ{h:Heap}{T:Nat->List Int}{w w':Work}(e:w'.heap.W=w.heap.W):Z62 h T w'=Z62 h T w:=by
 unfold Z62 Z9U wtW;rw[e]
def ZhF{h:Heap}{T:Nat->List Int}(g:Gd h T)(w:Work):Z62 h T w<=sumP unP h.P:=by
 rw[Z1G];refine Z4x λi hi=>?_;have hi:=Li.1 hi;unfold Z9U unP;split
 .rename_i k;have t:=Zgv (g.t1 i hi k.1).1;have:=Z4x (l:=T i) (f:=wtW h w) (g:=λx=>hlA h.W x+1) λx _=>(Z77 h w x).2;omega
 .omega
def ZeO(h:Heap)(T:Nat->List Int)(w:Work):0<=Z62 h T w:=by
 refine Z2W λi _=>?_;unfold Z9U;split
 .exact Z2W λx _=>(Z77 h w x).1
 .omega
def Zla{h:Heap}{T:Nat->List Int}{w w':Work}{n r:Int}{i0:Nat}(hi:i0<h.P.length)(hk:(h.P.getD i0 M).K=1/\¬ 0<(h.P.getD i0 M).N)(hr:r∈T i0)(h1:∀ i x,x∈T i->wtW h w' x<=wtW h w x)(h2:wtW h w' r+n<=wtW h w r):Z62 h T w'+n<=Z62 h T w:=by
 refine ZeY (r:=i0) (λi hi=>?_) (Li.2 hi) ?_
 .unfold Z9U;split
  .exact Z4x λx hx=>h1 i x hx
  .omega
 .unfold Z9U;rw[if_pos hk,if_pos hk];exact ZeY (λx hx=>h1 i0 x hx) hr h2
def MI.begin{h:Heap}{T:Nat->List Int}(g:Gd h T):MI h T (beginW h):=by
 have e:∀ i,i<h.P.length->(((beginW h).heap.P.getD i M).K=(h.P.getD i M).K/\((beginW h).heap.P.getD i M).U=(h.P.getD i M).U):=by
  intro i hi;simp only[beginW,Lg,LO,Lr hi,LH,Lz,begQ];split<;>exact⟨rfl,rfl⟩
 have l:(beginW h).heap.P.length=h.P.length:=by simp[beginW]
 have e1:sumP usP (beginW h).heap.P=sumP usP h.P:=Z2X usP l λi hi=>by unfold usP;rw[(e i hi).1,(e i hi).2]
 have e2:sumP nzP (beginW h).heap.P=sumP nzP h.P:=Z2X nzP l λi hi=>by unfold nzP;rw[(e i hi).1]
 have r:=ZhF g (beginW h);refine⟨⟨l,rfl⟩,by omega,by simp[beginW],by omega,by rw[e2];simp[beginW],λi hi hk=>?_⟩;have sp:=g.sp i hi oq;have po:=Z06 g.p;simp only[beginW,Lg,LO,Lr hi,LH,Lz,begQ]at hk sp ⊢;split
 .rename_i c;simp only;omega
 .rename_i c;omega
def MI.keep{h:Heap}{T:Nat->List Int}{w:Work}(m:MI h T w)(r:Int):MI h T (w.keep r):=⟨m.m0,m.m1,m.m2,m.m3,m.m4,m.m5⟩
def MI.flip{h:Heap}{T tq:Nat->List Int}{w:Work}(m:MI h T w)(k:KI h T tq w){i:Nat}(h2:(w.heap.P.getD i M).K=2):MI h T (w.flip i):=by
 have e:∀ j,((w.flip i).heap.P.getD j M).K=(w.heap.P.getD j M).K/\((w.flip i).heap.P.getD j M).U=(w.heap.P.getD j M).U:=by
  intro j;simp only[Work.flip];by_cases hj:j<w.heap.P.length
  .rw[Z1u hj];split<;>exact⟨rfl,rfl⟩
  .rw[Lg,Lg,Xd (by rw[Z1j];omega),Xd oq];exact⟨rfl,rfl⟩
 have l:(w.flip i).heap.P.length=w.heap.P.length:=by simp[Work.flip,Z1j]
 have e1:sumP usP (w.flip i).heap.P=sumP usP w.heap.P:=Z2X usP l λj _=>by unfold usP;rw[(e j).1,(e j).2]
 have e2:sumP nzP (w.flip i).heap.P=sumP nzP w.heap.P:=Z2X nzP l λj _=>by unfold nzP;rw[(e j).1]
 have e3:Z62 h T (w.flip i)=Z62 h T w:=ZjQ rfl;have et:(w.flip i).T=w.T:=rfl;have el:Z0o (w.flip i)=Z0o w:=rfl;refine⟨⟨by rw[l];exact m.m0.1,m.m0.2⟩,by rw[e1];exact m.m1, ?_,by rw[e1,e3];exact m.m3,by rw[e2,et];exact m.m4,λj hj hk=>?_⟩;rotate_left
 .have hpl:=m.m0.1;have jt:(j:Int)∉w.T:=λq=>by have:=(k.tk j q).2.1;omega
  have kj:=(k.pg j jt).1;rw[hk]at kj;have:(w.flip i).heap.P.getD j M=w.heap.P.getD j M:=by
   simp only[Work.flip];rw[Z1u oq,if_neg];rintro⟨q1,q2⟩;by_cases q:j=i
   .subst q;omega
   .have:=(Z6l (l:=w.heap.P) (i:=i) (m:=j-i-1) oq).2;rw[show i+1+(j-i-1)=j by omega]at this;omega
  rw[this];exact m.m5 j hj hk
 intro q;rw[et,el,(e _).2,e1];exact m.m2 q
def MI.copy{h:Heap}{T tq:Nat->List Int}{w:Work}(g:Gd h T)(m:MI h T w)(k:KI h T tq w)(hw:WkOk w){r n:Int}{i0:Nat}(hr:r∈T i0)(h1:(h.P.getD i0 M).K=1)(hup:¬ 0<(h.P.getD i0 M).N)(ht:(Z08 (loadA w.heap.W r).1).2=Lc)(hn:n=hlA w.heap.W r+1)(hc:(w.place n).2.2=O):MI h T ((w.place n).1.copy r (w.place n).2.1 n):=by
 have he:(loadA w.heap.W r).1=(loadA h.W r).1:=by
  rcases k.hd i0 r hr with q | q
  .exact q
  .rw[q.1]at ht;cases ht
 have hlr:=Z0b w.heap.W r;have ehl:hlA w.heap.W r=hlA h.W r:=(Z1L he).2.1;have hil:=(g.t0 i0 r hr).1;have hsm:=(g.t1 i0 hil h1).2 r hr;have po:=Z06 g.p;have sw:=Z1B po.1;have hv:=validB_iff.1 po.1;have hpw:n<=w.heap.C.pw:=by rw[k.c];omega
 obtain⟨i,p,t,p1,p2,p3,p4,p5,p6,p7,e⟩:=Z4G hw ⟨by omega,hpw⟩ hc;have hcc:=k.c;have hin:=g.inw hr;have hki:(h.P.getD i M).K=0:=by
  rcases p2 with q | q
  .by_cases c:(i:Int)∈w.T
   .exact(k.tk i c).2.1
   .rw[<- (k.pg i c).1];exact q.1
  .exact(k.tk i q.1).2.1
 have hpl:=k.pl;have hwl:=k.wl;have hio:=Z17 (i:=i) (j:=h.C.pg) (pw:=h.C.pw) oq oq;rw[Lv h.C.pg]at hio;have hi0:0<=(i:Int)*h.C.pw:=Lw oq oq;have hx:∀ j x,x∈T j->x≠r->(loadA (Z0L (moveA w.heap.W (w.place n).2.1 r n).1 r (4*(w.place n).2.1+2)).1 x).1=(loadA w.heap.W x).1:=by
  intro j x hx hne;have far:=g.free (show i<h.P.length by omega) (Lm hki) hx;rw[occP,if_pos hki]at far;have r1:=Z0b h.W x;unfold bsP at far;rw[p7,hcc];rw[hcc]at p5;have farr:=g.free (show i<h.P.length by omega) (Lm hki) hr;rw[occP,if_pos hki]at farr;unfold bsP at farr;obtain⟨m1,m2,m3⟩:=Z5x (ws:=w.heap.W) (a:=4+4092+(i:Int)*h.C.pw+occP (w.heap.P.getD i M)) (b:=r) (n:=n) oq oq oq;rw[show(4:Int)+4092+(i:Int)*h.C.pw=4096+(i:Int)*h.C.pw by omega]at m1 m2 m3;rw[Z0v (by rw[m1];omega) hne,m3 x oq]
 have hrr:(Z08 (loadA (Z0L (moveA w.heap.W (w.place n).2.1 r n).1 r (4*(w.place n).2.1+2)).1 r).1).2=O:=by
  have farr:=g.free (show i<h.P.length by omega) (Lm hki) hr;rw[occP,if_pos hki]at farr;unfold bsP at farr;rw[p7,hcc];rw[hcc]at p5;obtain⟨m1,m2,m3⟩:=Z5x (ws:=w.heap.W) (a:=4+4092+(i:Int)*h.C.pw+occP (w.heap.P.getD i M)) (b:=r) (n:=n) oq oq oq;rw[show(4:Int)+4092+(i:Int)*h.C.pw=4096+(i:Int)*h.C.pw by omega]at m1 m2 m3;rw[Z1P (by rw[m1];omega)];rw[Z5E oq oq]
 have ew:((w.place n).1.copy r (w.place n).2.1 n).heap.W=(Z0L (moveA w.heap.W (w.place n).2.1 r n).1 r (4*(w.place n).2.1+2)).1:=by
  rw[e];rfl
 have hrest:Z62 h T ((w.place n).1.copy r (w.place n).2.1 n)+n<=Z62 h T w:=by
  refine Zla hil ⟨h1,hup⟩ hr (λj x hxj=>?_) ?_
  .unfold wtW;rw[ew];by_cases q:x=r
   .subst q;rw[if_pos hrr];have:=(Z77 h w x).1;unfold wtW at this;exact this
   .rw[hx j x hxj q];exact L4 _
  .unfold wtW;rw[ew,if_pos hrr,if_neg (by rw[ht];simp)];omega
 have eP:((w.place n).1.copy r (w.place n).2.1 n).heap.P=w.heap.P.set i p:=by rw[e];rfl
 have eT:((w.place n).1.copy r (w.place n).2.1 n).T=t:=by rw[e];rfl
 have eL:Z0o ((w.place n).1.copy r (w.place n).2.1 n)=t.getD ((t.length:Int)-1).toNat M:=by unfold Z0o;rw[eT]
 have s1:=Z5M usP p w.heap.P i p1;have s2:=Z5M nzP p w.heap.P i p1;have u1:usP p=p.U:=by rw[usP,if_pos p3]
 have z1:nzP p=1:=by rw[nzP,if_neg oq]
 have m1:=m.m1;have m3:=m.m3;have m4:=m.m4;have hmul:0<=((w.T.length:Int))*(h.C.pw/4*3+1):=Lw oq oq;have h5:∀ j,j<h.P.length->(h.P.getD j M).K=1->((((w.place n).1.copy r (w.place n).2.1 n).heap.P.getD j M).S=((w.place n).1.copy r (w.place n).2.1 n).heap.S↔¬ 0<(h.P.getD j M).N):=by
  intro j hj hk;have eS:((w.place n).1.copy r (w.place n).2.1 n).heap.S=w.heap.S:=by rw[e];rfl
  rw[eP,eS,Z0p p1,if_neg (by rintro rfl;omega)];exact m.m5 j hj hk
 rcases p2 with⟨q1,q2,q3⟩ | ⟨q1,q2,q3,q4⟩
 .have u2:usP (w.heap.P.getD i M)=0:=by rw[usP,if_neg oq]
  have z2:nzP (w.heap.P.getD i M)=0:=by rw[nzP,if_pos q1]
  have oc:occP (w.heap.P.getD i M)=0:=by rw[occP,if_pos q1]
  rw[oc]at p4;have hu:sumP usP (w.heap.P.set i p)=sumP usP w.heap.P+n:=by omega
  refine⟨⟨by rw[eP,Xe];exact m.m0.1,by rw[e];exact m.m0.2⟩,by rw[eP];omega, ?_,by rw[eP];omega,by rw[eP,eT,q2,LS,LW];omega,h5⟩;intro _;rw[eL,eP,eT,hu,q2];have el:(w.T++[(i:Int)]).getD ((((w.T++[(i:Int)]).length:Nat):Int)-1).toNat M=i:=by
   rw[LS,LW,show(((w.T.length+1:Nat):Int)-1).toNat=w.T.length by omega];simp[Lg]
  rw[el,LM,Z0p p1,if_pos rfl,LS,LW];rw[show(((w.T.length+1:Nat):Int)-1)=w.T.length by omega];by_cases z:0<w.T.length
  .have m2:=m.m2 z;have nf:¬ Z2A w n:=by
    intro f;have hp:(w.place n).2.1=4096+Z0o w*w.heap.C.pw+(w.heap.P.getD (Z0o w).toNat M).U:=by rw[Work.place,if_pos f]
    have htk:(w.place n).1.T=w.T:=by rw[Work.place,if_pos f]
    rw[e]at htk;simp only at htk;rw[q2]at htk;have:=congrArg List.length htk;simp at this
   unfold Z2A at nf;have hb:=hw.us (Z0o w).toNat (by have:=hw.tk _ (Z18 z);omega)
   rw[show((w.T.length:Int))*(h.C.pw/4*3+1)=((w.T.length:Int)-1)*(h.C.pw/4*3+1)+(h.C.pw/4*3+1) by rw[L6];omega];have hq:h.C.pw/4*3+1<=(w.heap.P.getD (Z0o w).toNat M).U:=by
    have hpm:h.C.pw=h.C.pw/4*4:=by
     have:=hv.2.2.1;rw[L8 oq]at this;omega
    rw[hcc]at nf;omega
   omega
  .have:w.T.length=0:=by omega
   rw[this];simp;omega
 .have u2:usP (w.heap.P.getD i M)=(w.heap.P.getD i M).U:=by rw[usP,if_pos q2]
  have z2:nzP (w.heap.P.getD i M)=1:=by rw[nzP,if_neg oq]
  have oc:occP (w.heap.P.getD i M)=(w.heap.P.getD i M).U:=by rw[occP,if_neg oq]
  rw[oc]at p4;have hu:sumP usP (w.heap.P.set i p)=sumP usP w.heap.P+n:=by omega
  refine⟨⟨by rw[eP,Xe];exact m.m0.1,by rw[e];exact m.m0.2⟩,by rw[eP];omega, ?_,by rw[eP];omega,by rw[eP,eT,q3];omega,h5⟩;intro z;rw[eT,q3]at z;have m2:=m.m2 z;rw[eL,eP,eT,hu,q3];rw[Z0p p1];show((w.T.length:Int)-1)*_+Page.U (if i=(Z0o w).toNat then p else w.heap.P.getD (Z0o w).toNat M)<=_;split
  .rename_i c;rw[p4,c];omega
  .omega
structure MV (h:Heap):Prop where
 v:sumP usP h.P+sumP lgP h.P*h.C.pw<=h.C.pg/4*h.C.pw
 n:∃ t:Int,sumP nzP h.P<=h.C.pg/4+sumP lgP h.P+t/\(t-1)*(h.C.pw/4*3+1)<=sumP usP h.P
def ZiH{α:Type}{f:α->Int}{r:α}:∀ {l:List α},(∀ x∈l,0<=f x)->r∈l->f r<=(l.map f).sum
 | [],_,hr=>by simp at hr
 | x::l,h,hr=>by
  have h0:=h x pq;have hl:∀ y∈l,0<=f y:=λy hy=>h y (LG _ hy);simp only[Ls,Lt];rcases L0.1 hr with rfl | hr
  .have:=Z2W hl;omega
  .have:=ZiH hl hr;omega
def ZhE{t t' s q L U nz pg:Int}(hs:4<=s)(hq:2<=q)(hpg:4*q<=pg)(hL:0<=L)(ht:0<=t)(h1:pg=nz+t)(h2:t*(s*3+1)<=U-1)(h3:nz<=q+L+t')(h4:(t'-1)*(s*3+1)<=U)(h5:U+L*(s*4)<=q*(s*4)):False:=by
 have e2:t*(s*3+1)=3*t*s+t:=by grind
 have e4:(t'-1)*(s*3+1)=3*(t'-1)*s+(t'-1):=by grind
 have e5:q*(s*4)-L*(s*4)=4*(q-L)*s:=by grind
 have a1:3*t<4*(q-L):=by
  by_cases c:3*t<4*(q-L)
  .exact c
  .have:=LD (show 4*(q-L)<=3*t by omega) (show 0<=s by omega);omega
 have a2:3*(t'-1)<4*(q-L):=by
  by_cases c:3*(t'-1)<4*(q-L)
  .exact c
  .have:=LD (show 4*(q-L)<=3*(t'-1) by omega) (show 0<=s by omega);omega
 omega
def MI.unp{h:Heap}{T tq:Nat->List Int}{w:Work}(m:MI h T w)(k:KI h T tq w){r o:Int}{i0:Nat}(ofr:ofA w.heap.C r=((i0:Int),o,0))(nt:(i0:Int)∉w.T)(hi:i0<h.P.length)(k1:(h.P.getD i0 M).K=1)(c4:¬ Z0M w (ofA w.heap.C r).1=O):¬ 0<(h.P.getD i0 M).N:=by
 intro hp;apply c4;have hpl:=m.m0.1;have q:=(m.m5 i0 hi k1)
 have kk:=(k.pg i0 nt).1;simp only[Z0M,decide_eq_true_eq];rw[ofr];simp only[LM];exact⟨by omega,by omega,by omega,λc=>(q.1 c) hp,nt⟩
section
variable {h:Heap} {T tq:Nat->List Int} {w:Work} (g:Gd h T) (m:MI h T w) (k:KI h T tq w) (hw:WkOk w) (mv:MV h)
include g m k hw mv
theorem MI.room{r n:Int}{i0:Nat}(hr:r∈T i0)(h1:(h.P.getD i0 M).K=1)(hup:¬ 0<(h.P.getD i0 M).N)(ht:(Z08 (loadA w.heap.W r).1).2=Lc)(hn:n=hlA w.heap.W r+1):(w.place n).2.2=O:=by
 have he:(loadA w.heap.W r).1=(loadA h.W r).1:=by
  rcases k.hd i0 r hr with q | q
  .exact q
  .rw[q.1]at ht;cases ht
 have hlr:=Z0b w.heap.W r;have ehl:hlA w.heap.W r=hlA h.W r:=(Z1L he).2.1;have hil:=(g.t0 i0 r hr).1;have hsm:=(g.t1 i0 hil h1).2 r hr;have po:=Z06 g.p;have sw:=Z1B po.1;have hv:=validB_iff.1 po.1;have hpm:h.C.pw=h.C.pw/4*4:=by
  have:=hv.2.2.1;rw[L8 oq]at this;omega
 by_cases hf:Z2A w n
 .rw[Work.place,if_pos hf]
 .by_cases hg:0<=Z0g w
  .rw[Work.place,if_neg hf,if_pos hg]
  .exfalso;have nz:=ZqA (Zht (l:=w.heap.P) hg);have m0:=m.m0;have m1:=m.m1;have m3:=m.m3;have m4:=m.m4;have hpl:=hw.pl;rw[m0.2]at hpl;have hrest:n<=Z62 h T w:=by
    have a:Z9U h T w i0<=Z62 h T w:=ZiH (λi _=>by
     unfold Z9U;split
     .exact Z2W λx _=>(Z77 h w x).1
     .exact L4 _) (Li.2 hil)
    have b:wtW h w r<=Z9U h T w i0:=by
     unfold Z9U;rw[if_pos ⟨h1,hup⟩];exact ZiH (λx _=>(Z77 h w x).1) hr
    unfold wtW at b;rw[if_neg (by rw[ht];simp)]at b;omega
   have hun:sumP unP h.P<=sumP usP h.P:=Z4x λp hp=>by
    obtain⟨j,hj,rfl⟩:=List.getElem_of_mem hp;have pp:=Z0J g.p hj;rw[Lg,Lr hj,Lz]at pp;unfold unP usP;split
    .rename_i c;rw[if_pos c.1];omega
    .split<;>omega
   have hL:0<=sumP lgP h.P:=Z2W λp _=>by unfold lgP;split<;>omega
   have h2:(w.T.length:Int)*(h.C.pw/4*3+1)<=sumP usP h.P-1:=by
    by_cases z:0<w.T.length
    .have m2:=m.m2 z;unfold Z2A at hf;rw[m0.2]at hf;have hq:h.C.pw/4*3+1<=(w.heap.P.getD (Z0o w).toNat M).U:=by omega
     rw[show(w.T.length:Int)*(h.C.pw/4*3+1)=((w.T.length:Int)-1)*(h.C.pw/4*3+1)+(h.C.pw/4*3+1) by rw[L6];omega];omega
    .have:w.T.length=0:=by omega
     rw[this];simp;omega
   obtain⟨t',n1,n2⟩:=mv.n;have v:=mv.v;exact ZhE (s:=h.C.pw/4) (q:=h.C.pg/4) (pg:=h.C.pg) (nz:=sumP nzP h.P) (L:=sumP lgP h.P) (U:=sumP usP h.P) (t:=w.T.length) (t':=t') oq oq oq hL oq oq h2 n1 n2 (by rw[<- hpm];exact v)
theorem MI.fwd_ok(hi:CIv w){r:Int}(hr:r=0\/r∈w.Q\/r∈w.old):(w.fwd r).2.2=0:=by
 unfold Work.fwd;by_cases c1:r=0\/r∈w.Q
 .rw[if_pos c1]
 rw[if_neg c1];have c2:r∈w.old:=by
  rcases hr with q | q | q
  .exact absurd (Lm q) c1
  .exact absurd (Lu q) c1
  .exact q
 rw[if_neg (by simpa using c2)];obtain⟨i0,hx,hkd⟩:=(k.old r).1 c2;have ofr:ofA w.heap.C r=((i0:Int),r-bsP h i0,0):=by rw[k.c];exact g.ofx hx
 by_cases c3:(Z08 (loadA w.heap.W r).1).2=O
 .rw[if_pos c3]
 rw[if_neg c3,if_neg (by rw[ofr];simp)];by_cases c4:Z0M w (ofA w.heap.C r).1=O
 .rw[if_pos c4]
 rw[if_neg c4];by_cases c5:(w.heap.P.getD (Z19 w r) M).K=2
 .rw[if_pos c5]
 rw[if_neg c5];have epw:Z19 w r=i0:=by rw[Z19,ofr];simp
 rw[epw]at c5;have nt:=k.nt g hx;have k1:(h.P.getD i0 M).K=1:=by
  have:=(g.t0 i0 r hx).2;rw[<- (k.pg i0 nt).1]at this ⊢;omega
 have:=m.room g k hw mv hx k1 (m.unp k ofr nt (g.t0 i0 r hx).1 k1 c4) (by simpa using c3) rfl;rw[<- Z1N w r]at this;rw[if_neg (by rw[this];simp)]
theorem MI.fwd(hi:CIv w){r:Int}(e:(w.fwd r).2.2=0):MI h T (w.fwd r).1:=by
 unfold Work.fwd at e ⊢;by_cases c1:r=0\/r∈w.Q
 .rw[if_pos c1];exact m
 rw[if_neg c1]at e ⊢;by_cases c2:r∈w.old
 .rw[if_neg (by simpa using c2)]at e ⊢;obtain⟨i0,hx,hkd⟩:=(k.old r).1 c2;have ofr:ofA w.heap.C r=((i0:Int),r-bsP h i0,0):=by rw[k.c];exact g.ofx hx
  by_cases c3:(Z08 (loadA w.heap.W r).1).2=O
  .rw[if_pos c3];exact m
  rw[if_neg c3,if_neg (by rw[ofr];simp)]at e ⊢;by_cases c4:Z0M w (ofA w.heap.C r).1=O
  .rw[if_pos c4];exact m.keep r
  rw[if_neg c4]at e ⊢;by_cases c5:(w.heap.P.getD (Z19 w r) M).K=2
  .rw[if_pos c5];exact(m.flip k c5).keep r
  rw[if_neg c5]at e ⊢;have epw:Z19 w r=i0:=by rw[Z19,ofr];simp
  rw[epw]at c5;have nt:=k.nt g hx;have k1:(h.P.getD i0 M).K=1:=by
   have:=(g.t0 i0 r hx).2;rw[<- (k.pg i0 nt).1]at this ⊢;omega
  have hup:=m.unp k ofr nt (g.t0 i0 r hx).1 k1 c4;have c6:=m.room g k hw mv hx k1 hup (by simpa using c3) rfl;rw[<- Z1N w r]at c6;rw[if_neg (by rw[c6];simp)];exact m.copy g k hw hx k1 hup (by simpa using c3) (Z1N w r) c6
 .rw[if_pos c2]at e;simp at e
end
def Zp2{ws:List Int}{a b n k:Int}(ha:4096<=a/\a-4096+n<=ws.length)(hb:4096<=b/\b-4096+n<=ws.length)(hk:0<=k/\k<n):loadA (moveA ws a b n).1 (a+k)=((loadA ws (b+k)).1,0):=by
 have e1:Z1n ws b n=((ws.drop (b-4096).toNat).take n.toNat,0):=by rw[Z1n,if_neg oq,if_pos hb]
 have e2:moveA ws a b n=Z0F ws a ((ws.drop (b-4096).toNat).take n.toNat):=by rw[moveA,e1];simp
 have hl:((ws.drop (b-4096).toNat).take n.toNat).length=n.toNat:=by simp;omega
 rw[e2,Z1R oq oq];congr 1;unfold loadA;rw[if_pos oq];simp only[Lg];rw[show a+k-a=k by omega,List.getElem?_take_of_lt oq,LF];rw[show(b-4096).toNat+k.toNat=(b+k-4096).toNat by omega]
def Z2F(w:Work)(y:Int):Int:=if y∈w.Q then y else if(Z08 (loadA w.heap.W y).1).2=O then(Z08 (loadA w.heap.W y).1).1 else 0
structure NewF (h:Heap) (T:Nat->List Int) (w:Work) (r:Int) (i0:Nat) (w':Work) (a:Int):Prop where
 b:4096<=a
 q:w'.Q=w.Q++[a]
 n:w'.rep.copied+w'.rep.kept=w.rep.copied+w.rep.kept+1
 o:w'.old=w.old
 l:w'.heap.W.length=w.heap.W.length
 s:((h.P.getD i0 M).K=2\/0<(h.P.getD i0 M).N)↔a=r
 e:a-4096+hlA h.W r<w.heap.W.length
 f:a=r->w'.heap.W=w.heap.W
 c:a≠r->Z08 (loadA w'.heap.W r).1=(a,O)
 t:∀ j x,x∈T j->x≠r->a≠x/\loadA w'.heap.W x=loadA w.heap.W x
 x:∀ k,0<=k->k<=hlA h.W r->(loadA w'.heap.W (a+k)).1=(loadA w.heap.W (r+k)).1
section
variable {h:Heap} {T tq:Nat->List Int} {w:Work} (g:Gd h T) (m:MI h T w) (k:KI h T tq w) (hw:WkOk w) (mv:MV h)
include g m k hw mv
theorem Zp9{r:Int}{i0:Nat}(hx:r∈T i0)(hkd:kdA h.W r≠0)(hq:r∉w.Q)(ht:(Z08 (loadA w.heap.W r).1).2=Lc) :
  (w.fwd r).2.2=0/\NewF h T w r i0 (w.fwd r).1 (w.fwd r).2.1:=by
 have ho:r∈w.old:=(k.old r).2 ⟨i0,hx,hkd⟩;have hin:=g.inw hx;have on:=g.on hx;have hlr:=Z0b h.W r;have he:(loadA w.heap.W r).1=(loadA h.W r).1:=by
  rcases k.hd i0 r hx with q | q
  .exact q
  .rw[q.1]at ht;cases ht
 have ehl:hlA w.heap.W r=hlA h.W r:=(Z1L he).2.1;have nt:=k.nt g hx;have pg:=k.pg i0 nt;have wl:=k.wl;have c1:¬ (r=0\/r∈w.Q):=by
  rintro(q | q)
  .omega
  .exact hq q
 have ofr:ofA w.heap.C r=((i0:Int),r-bsP h i0,0):=by rw[k.c];exact g.ofx hx
 have epw:Z19 w r=i0:=by rw[Z19,ofr];simp
 by_cases c4:Z0M w (ofA w.heap.C r).1=O
 .have ef:w.fwd r=(w.keep r,r,0):=by rw[Work.fwd,if_neg c1,if_neg (by simpa using ho),if_neg (by rw[ht];simp),if_neg (by rw[ofr];simp),if_pos c4]
  rw[ef];show(0:Int)=0/\NewF h T w r i0 (w.keep r) r;have hs:(h.P.getD i0 M).K=2\/0<(h.P.getD i0 M).N:=by
   rw[ofr]at c4;simp only[Z0M,decide_eq_true_eq,LM]at c4;have k1:(h.P.getD i0 M).K=1:=by rw[<- pg.1];exact c4.2.2.1
   have:=m.m5 i0 on.1 k1;by_cases q:0<(h.P.getD i0 M).N
   .exact .inr q
   .exact absurd (this.2 q) c4.2.2.2.1
  exact⟨rfl,by omega,rfl,by simp only[Work.keep];omega,rfl,rfl,⟨λ_=>rfl,λ_=>hs⟩,by omega,λ_=>rfl,λq=>absurd rfl q,λj x _ hne=>⟨λq=>hne q.symm,rfl⟩,λ_ _ _=>rfl⟩
 .by_cases c5:(w.heap.P.getD (Z19 w r) M).K=2
  .have ef:w.fwd r=((w.flip (Z19 w r)).keep r,r,0):=by rw[Work.fwd,if_neg c1,if_neg (by simpa using ho),if_neg (by rw[ht];simp),if_neg (by rw[ofr];simp),if_neg c4,if_pos c5]
   rw[ef];show(0:Int)=0/\NewF h T w r i0 ((w.flip (Z19 w r)).keep r) r;have hs:(h.P.getD i0 M).K=2\/0<(h.P.getD i0 M).N:=by
    rw[epw,pg.1]at c5;exact .inl c5
   exact⟨rfl,by omega,rfl,by simp only[Work.keep,Work.flip];omega,rfl,rfl,⟨λ_=>rfl,λ_=>hs⟩,by omega,λ_=>rfl,λq=>absurd rfl q,λj x _ hne=>⟨λq=>hne q.symm,rfl⟩,λ_ _ _=>rfl⟩
  .have k1:(h.P.getD i0 M).K=1:=by
    have:=on.2.1;rw[epw]at c5;rw[<- pg.1]at this ⊢;omega
   have hup:=m.unp k ofr nt on.1 k1 c4;have hroom:=m.room g k hw mv hx k1 hup ht rfl;have hsz:=Z1N w r;have ef:w.fwd r=((w.place (hlA w.heap.W r+1)).1.copy r (w.place (hlA w.heap.W r+1)).2.1 (hlA w.heap.W r+1),(w.place (hlA w.heap.W r+1)).2.1,0):=by
    rw[Work.fwd,if_neg c1,if_neg (by simpa using ho),if_neg (by rw[ht];simp),if_neg (by rw[ofr];simp),if_neg c4,if_neg c5,hsz,if_neg (by rw[hroom];simp)]
   rw[ef];show(0:Int)=0/\NewF h T w r i0 ((w.place (hlA w.heap.W r+1)).1.copy r (w.place (hlA w.heap.W r+1)).2.1 (hlA w.heap.W r+1)) (w.place (hlA w.heap.W r+1)).2.1;have po:=Z06 g.p;have hsm:=(g.t1 i0 on.1 k1).2 r hx;have hsw:=Z1B po.1;have hcv:=validB_iff.1 po.1;obtain⟨i,p,t,p1,p2,p3,p4,p5,p6,p7,e⟩:=Z4G hw ⟨by omega,by rw[k.c];omega⟩ hroom;have hcc:=k.c;have hpl:=k.pl;have hki:(h.P.getD i M).K=0:=by
    rcases p2 with q | q
    .by_cases c:(i:Int)∈w.T
     .exact(k.tk i c).2.1
     .rw[<- (k.pg i c).1];exact q.1
    .exact(k.tk i q.1).2.1
   have hio:=Z17 (i:=i) (j:=h.C.pg) (pw:=h.C.pw) oq oq;rw[Lv h.C.pg]at hio;have hi0:0<=(i:Int)*h.C.pw:=Lw oq oq;rw[hcc]at p5 p7;have hbp:4096+(i:Int)*h.C.pw=bsP h i:=rfl;rw[e,p7,hbp];generalize hu:occP (w.heap.P.getD i M)=u at *;generalize ha:bsP h i+u=a;have hbl:4096<=a/\a+(hlA w.heap.W r+1)<=4096+w.heap.W.length:=by omega
   have far:∀ j x,x∈T j->x+hlA h.W x<bsP h i\/bsP h i+h.C.pw<=x:=by
    intro j x hx;have:=g.free (show i<h.P.length by omega) (Lm hki) hx;rw[occP,if_pos hki]at this;omega
   have farr:=far i0 r hx;obtain⟨m1,m2,m3⟩:=Z5x (ws:=w.heap.W) (a:=a) (b:=r) (n:=hlA w.heap.W r+1) oq oq oq;have hsr:4096<=r/\r<4096+(moveA w.heap.W a r (hlA w.heap.W r+1)).1.length:=by omega
   have hne:a≠r:=by omega
   refine⟨rfl,by omega,rfl,by simp only[Work.copy];omega,rfl, ?_,⟨λq=>?_,λq=>absurd q hne⟩,by omega,λq=>absurd q hne,λ_=>?_,λj x hxj hxr=>?_,λj j0 j1=>?_⟩
   .simp only[Work.copy];rw[Z2u hsr,m1]
   .rcases q with q | q
    .omega
    .exact absurd q hup
   .simp only[Work.copy];rw[Z1P hsr,Z5E oq oq]
   .have fx:=far j x hxj;have rx:=Z0b h.W x;simp only[Work.copy];exact⟨by omega,by rw[Z0v hsr hxr,m3 x oq]⟩
   .simp only[Work.copy];rw[Z0v hsr oq,Zp2 oq oq oq]
end
def Zkk{w:Work}(hw:WkOk w)(h:CIv w){r n:Int}(hr:r∈w.old)(hq:r∉w.Q)(hn:n=hlA w.heap.W r+1)(hp:n<=w.heap.C.pw)(hc:(w.place n).2.2=O):∀ x∈w.old++w.Q,(x∈w.Q\/x≠r)->∀ m,0<=m->m<=hlA w.heap.W x->loadA ((w.place n).1.copy r (w.place n).2.1 n).heap.W (x+m)=loadA w.heap.W (x+m):=by
 have hlr:=Z0b w.heap.W r;obtain⟨i,p,t,h1,h2,h3,h4,h5,h6,h7,h8,e⟩:=Z4s hw ⟨by omega,hp⟩ hc;have hb:=validB_iff.1 hw.C;have hpl:=hw.pl;have hL:=h.L;have hio:(i:Int)*w.heap.C.pw+w.heap.C.pw<=w.heap.C.pw*w.heap.C.pg:=by
  have:=Z17 (i:=i) (j:=w.heap.C.pg) (pw:=w.heap.C.pw) oq oq;rw[Lv w.heap.C.pw];exact this
 have hi0:0<=(i:Int)*w.heap.C.pw:=Lw oq oq;rw[e,h8];generalize hu:occP (w.heap.P.getD i M)=u at *;generalize ha:4096+(i:Int)*w.heap.C.pw+u=at';have hrr:=h.r r (Lo _ hr);have hf:=h.f i h1 (by rcases h2 with h2 | h2;exact Lm h2;exact Lu h2.1);rw[hu]at hf;obtain⟨m1,m2,m3⟩:=Z5x (ws:=w.heap.W) (a:=at') (b:=r) (n:=n) oq oq oq;have hsr:4096<=r/\r<4096+(moveA w.heap.W at' r n).1.length:=by omega
 intro x hx hxr m hm0 hm1;have hfx:=hf x hx;simp only[Work.copy];rw[Z0v hsr ?_,m3 _ oq];intro c;by_cases q:x=r
 .exact hxr.elim (λa=>hq (q▸a)) (λa=>a q)
 .have:=h.s x hx r (Lo _ hr) oq;omega
def Z49{w:Work}(hw:WkOk w)(h:CIv w)(r:Int)(e:(w.fwd r).2.2=0):(∃ m,(w.fwd r).1.Q=w.Q++m)/\(w.fwd r).1.D=w.D/\∀ x∈w.old++w.Q,(x∈w.Q\/x≠r)->∀ m,0<=m->m<=hlA w.heap.W x->loadA (w.fwd r).1.heap.W (x+m)=loadA w.heap.W (x+m):=by
 unfold Work.fwd at e ⊢;split at e
 .rename_i c1;rw[if_pos c1];exact⟨⟨[],by simp⟩,rfl,λ_ _ _ _ _ _=>rfl⟩
 .rename_i c1;rw[if_neg c1];have c1':r∉w.Q:=λh=>c1 (Lu h);split at e
  .simp at e
  .rename_i c2;rw[if_neg c2];have c2':r∈w.old:=L2.1 c2;split at e
   .rename_i c3;rw[if_pos c3];exact⟨⟨[],by simp⟩,rfl,λ_ _ _ _ _ _=>rfl⟩
   .rename_i c3;rw[if_neg c3];split at e
    .simp at e
    .rename_i c4;rw[if_neg c4];split at e
     .rename_i c5;rw[if_pos c5];exact⟨⟨[r],rfl⟩,rfl,λ_ _ _ _ _ _=>rfl⟩
     .rename_i c5;rw[if_neg c5];split at e
      .rename_i c6;rw[if_pos c6];exact⟨⟨[r],rfl⟩,rfl,λ_ _ _ _ _ _=>rfl⟩
      .rename_i c6;rw[if_neg c6];split at e
       .simp at e
       .rename_i c7;rw[if_neg c7];have c7':(w.place (sizeH (hdW w r))).2.2=O:=by simpa using c7
        have hz:=h.z r c2';have hp:sizeH (hdW w r)<=w.heap.C.pw:=by
         rw[Z1N];rcases hz with hz | hz
         .exact absurd hz c6
         .exact hz
        have hlr:=Z0b w.heap.W r;obtain⟨i,p,t,p1,p2,p3,p4,p5,p6,p7,e8⟩:=Z4G hw ⟨by rw[Z1N];omega,hp⟩ c7';refine⟨⟨[(w.place (sizeH (hdW w r))).2.1], ?_⟩, ?_,Zkk hw h c2' c1' (Z1N w r) hp c7'⟩
        .rw[e8];rfl
        .rw[e8];rfl
def FD(w:Work)(F:Int->Prop):Prop:=∀ z,F z->(∃ q j,q∈w.Q/\0<=j/\j<hlA w.heap.W q/\z=q+1+j)/\ToOk w (loadA w.heap.W z).1
structure Sm (w v:Work):Prop where
 q:∃ m,v.Q=w.Q++m
 h:∀ x∈w.Q,hdA v.heap.W x=hdA w.heap.W x
def Sm.trans{u v w:Work}(a:Sm u v)(b:Sm v w):Sm u w:=by
 obtain⟨m,em⟩:=a.q;obtain⟨n,en⟩:=b.q;exact⟨⟨m++n,by rw[en,em,L9]⟩,λx hx=>(b.h x (by rw[em];exact Lo _ hx)).trans (a.h x hx)⟩
def Sm.mem{w v:Work}(a:Sm w v){x:Int}(hx:x∈w.Q):x∈v.Q:=by
 obtain⟨m,em⟩:=a.q;rw[em];exact Lo _ hx
def Sm.len{w v:Work}(a:Sm w v){x:Int}(hx:x∈w.Q):hlA v.heap.W x=hlA w.heap.W x:=congrArg Header.length (a.h x hx)
def Sm.to{w v:Work}(a:Sm w v){x:Int}(hx:ToOk w x):ToOk v x:=hx.imp id a.mem
def ZdT{w:Work}(hw:WkOk w)(h:CIv w)(r:Int)(e:(w.fwd r).2.2=0):Sm w (w.fwd r).1:=by
 have s:=Z49 hw h r e;refine⟨s.1,λx hx=>?_⟩;have:=s.2.2 x (Lx _ hx) (.inl hx) 0 oq (Z0b _ _).1;rw[Int.add_zero]at this;rw[hdA,hdA,this]
def FD.fwd{w:Work}{F:Int->Prop}(f:FD w F)(hw:WkOk w)(h:CIv w)(r:Int)(e:(w.fwd r).2.2=0):FD (w.fwd r).1 F:=by
 have s:=Z49 hw h r e;have m:=ZdT hw h r e;intro z hz;obtain⟨⟨q,j,hq,h0,h1,rfl⟩,t⟩:=f z hz;refine⟨⟨q,j,m.mem hq,h0,by rw[m.len hq];exact h1,rfl⟩, ?_⟩;have:=s.2.2 q (Lx _ hq) (.inl hq) (1+j) oq oq;rw[<- Int.add_assoc]at this;rw[this];exact m.to t
def ZpR{B:Int}{w:Work}(hw:WkOk w)(h:CIv w)(hp:PR B w){F:Int->Prop}(f:FD w F){q j:Int}(hq:q∈w.Q)(hj:0<=j/\j<hlA w.heap.W q)(e:(w.fwd (loadA w.heap.W (q+1+j)).1).2.2=0):Sm w (w.in1 (q+1+j))/\(w.in1 (q+1+j)).D=w.D/\FD (w.in1 (q+1+j)) (λz=>F z\/z=q+1+j):=by
 have s:=Z49 hw h _ e;have m:=ZdT hw h _ e;have ff:=f.fwd hw h _ e;have to:=Zni w _ hp e;obtain⟨i1,x1⟩:=Z4r hw h _ e;have hq1:=x1.q q hq;have hl1:=x1.l q hq;have hr:=i1.r q (Lx _ hq1);have hin:4096<=q+1+j/\q+1+j<4096+(w.fwd (loadA w.heap.W (q+1+j)).1).1.heap.W.length:=by omega
 have hne:∀ x∈(w.fwd (loadA w.heap.W (q+1+j)).1).1.Q,x≠q+1+j:=by
  intro x hx c;have:=i1.s q (Lx _ hq1) x (Lx _ hx) oq;omega
 have hh:∀ x∈(w.fwd (loadA w.heap.W (q+1+j)).1).1.Q,hdA (w.in1 (q+1+j)).heap.W x=hdA (w.fwd (loadA w.heap.W (q+1+j)).1).1.heap.W x:=by
  intro x hx;simp only[Work.in1];rw[hdA,hdA,Z0v hin (hne x hx)]
 have m2:Sm (w.fwd (loadA w.heap.W (q+1+j)).1).1 (w.in1 (q+1+j)):=⟨⟨[],by simp[Work.in1]⟩,hh⟩
 refine⟨m.trans m2,s.2.1, ?_⟩;intro z hz;have key:(∃ q' j',q'∈w.Q/\0<=j'/\j'<hlA w.heap.W q'/\z=q'+1+j'):=by
  rcases hz with hz | rfl
  .exact(f z hz).1
  .exact⟨q,j,hq,hj.1,hj.2,rfl⟩
 obtain⟨q',j',k1,k2,k3,k4⟩:=key;refine⟨⟨q',j',(m.trans m2).mem k1,k2,by rw[(m.trans m2).len k1];exact k3,k4⟩, ?_⟩;by_cases c:z=q+1+j
 .subst c;have:(loadA (w.in1 (q+1+j)).heap.W (q+1+j)).1=(w.fwd (loadA w.heap.W (q+1+j)).1).2.1:=by
   simp only[Work.in1];rw[Z1P hin]
  rw[this];exact m2.to to
 .have:loadA (w.in1 (q+1+j)).heap.W z=loadA (w.fwd (loadA w.heap.W (q+1+j)).1).1.heap.W z:=by
   simp only[Work.in1];rw[Z0v hin c]
  rw[this];rcases hz with hz | hz
  .exact m2.to (ff z hz).2
  .exact absurd hz c
section
variable {B:Int} (hB:0<=B)
include hB
theorem Zka{w:Work}(hw:WkOk w)(h:CIv w)(hp:PR B w){F:Int->Prop}(f:FD w F){q:Int}(hq:q∈w.Q){l:List Int}(hl:∀ x∈l,0<=x/\x<hlA w.heap.W q):∀ k,k<=l.length->(∀ j,j<k->innE w q l j=0)->Sm w (innN w q l k)/\(innN w q l k).D=w.D/\FD (innN w q l k) (λz=>F z\/∃ i,i<k/\z=q+1+l.getD i M)
 | 0,_,_=>⟨⟨⟨[],by simp[innN]⟩,λ_ _=>rfl⟩,rfl,λz hz=>f z (hz.resolve_right (by rintro⟨i,hi,_⟩;omega))⟩
 | k+1,hk,he=>by
  obtain⟨a,b,c⟩:=Zka hw h hp f hq hl k oq (λj hj=>he j oq);have ok:=(Z43 hw q l k (λj hj=>he j oq)).1;have iv:=Z7a hw h hq hl k oq (λj hj=>he j oq);have pr:=Zd2 (PR B) (λw q j hw hi h hq h0 h1 e=>PR.in1 hB w q j hw hi h hq h0 h1 e) hw h hp hq hl k oq (λj hj=>he j oq);have hx:=hl _ (getD_mem_iff.2 ⟨k,by omega,rfl⟩);obtain⟨d1,d2,d3⟩:=ZpR ok iv.1 pr c (a.mem hq) (j:=l.getD k M) ⟨hx.1,by rw[a.len hq];exact hx.2⟩ (he k oq);refine⟨a.trans d1,d2.trans b,λz hz=>d3 z ?_⟩;rcases hz with hz | ⟨i,hi,hz⟩
  .exact Lm (Lm hz)
  .by_cases q2:i=k
   .subst q2;exact Lu hz
   .exact Lm (Lu ⟨i,by omega,hz⟩)
def SD(w:Work):Prop:=FD w (λz=>∃ i j,i<w.D.toNat/\j∈Z03 (hdA w.heap.W (w.Q.getD i M))/\z=w.Q.getD i M+1+j)
omit hB in
theorem Sm.get{w v:Work}(a:Sm w v){i:Nat}(hi:i<w.Q.length):v.Q.getD i M=w.Q.getD i M:=by
 obtain⟨m,em⟩:=a.q;rw[em,Lg,Lg,LN hi]
theorem Zfu{w:Work}(hw:WkOk w)(h:CIv w)(hp:PR B w)(f:SD w)(e:(Z0z w).2.2=0):SD (Z0z w).1:=by
 by_cases hs:w.D<w.Q.length
 .have hsc:=hw.sc;have hq:Z0U w∈w.Q:=getD_mem_iff.2 ⟨w.D.toNat,by omega,rfl⟩;unfold Z0z at e ⊢;rw[if_pos hs]at e ⊢;cases hb:(Lh (Z0n w).length).find? (λk=>La (innE w (Z0U w) (Z0n w) k≠0))with
  | none =>
   have h0:∀ j,j<(Z0n w).length->innE w (Z0U w) (Z0n w) j=0:=λj hj=>by
    have:=Lp.1 hb j (Li.2 hj);simpa using this
   obtain⟨a,b,c⟩:=Zka hB hw h hp f hq (l:=Z0n w) (Z1Q (hdW w (Z0U w))) (Z0n w).length (Ly _) h0;intro z hz;obtain⟨i,j,hi,hj,rfl⟩:=hz;simp only[Z3H]at hi hj ⊢;rw[b]at hi;have hg:=a.get (show i<w.Q.length by omega);have hm:w.Q.getD i M∈w.Q:=getD_mem_iff.2 ⟨i,by omega,rfl⟩;rw[hg,a.h _ hm]at hj;rw[hg];refine c _ ?_;by_cases q:i=w.D.toNat
   .subst q;obtain⟨n,n1,n2⟩:=getD_mem_iff.1 hj;exact Lu ⟨n,n1,by rw[<- n2];rfl⟩
   .exact Lm ⟨i,j,by omega,hj,rfl⟩
  | some k =>
   simp only[hb]at e;have:=(Ln.1 hb).1;simp[e]at this
 .have e:Z0z w=(w,Lc,0):=by rw[Z0z,if_neg hs]
  rw[e];exact f
theorem Zns{w:Work}(hw:WkOk w)(h:CIv w)(hp:PR B w)(f:SD w):∀ k,(∀ j,j<k->Z2I w j=Lc)->SD (itW w k)
 | 0,_=>f
 | k+1,hh=>by
  have ih:=Zns hw h hp f k (λj hj=>hh j oq);have ok:=(Z4H hw k (λj hj=>hh j oq)).1;have iv:=(Z7z hw h k (λj hj=>hh j oq)).1;have pr:=Zmp (PR B) (λw q j hw hi h hq h0 h1 e=>PR.in1 hB w q j hw hi h hq h0 h1 e) (λw n h=>⟨⟨h.tab.pt,h.tab.tk,h.tab.pin⟩,h.rt.q,h.rt.t⟩) hw h hp k (λj hj=>hh j oq);have hk:=hh k oq;simp only[Z2I,decide_eq_false_iff_not,not_or,L2]at hk;exact Zfu hB ok iv pr ih hk.1
theorem ZoX{w:Work}(hw:WkOk w)(h:CIv w)(hp:PR B w)(f:SD w)(e:(allF w).2=0):SD (allF w).1/\(allF w).1.D=(allF w).1.Q.length:=by
 obtain⟨k,hb⟩:=Z3E hw;obtain⟨h1,h2,h3⟩:=Ln.1 hb;have h0:∀ j,j<k->Z2I w j=Lc:=λj hj=>by simpa using h3 j hj
 unfold allF at e ⊢;rw[hb]at e ⊢;simp only at e ⊢;split at e
 .rename_i c;rw[if_pos c];have ok:=(Z4H hw k h0).1;have iv:=(Z7z hw h k h0).1;have pr:=Zmp (PR B) (λw q j hw hi h hq h0 h1 e=>PR.in1 hB w q j hw hi h hq h0 h1 e) (λw n h=>⟨⟨h.tab.pt,h.tab.tk,h.tab.pin⟩,h.rt.q,h.rt.t⟩) hw h hp k h0;refine⟨Zfu hB ok iv pr (Zns hB hw h hp f k h0) c, ?_⟩;simp only[Z2I,decide_eq_true_eq]at h1;have hf:(Z0z (itW w k)).2.1=Lc:=h1.resolve_left (λq=>q c);have hsc:=ok.sc;by_cases hs:(itW w k).D<(itW w k).Q.length
  .exfalso;unfold Z0z at hf c;rw[if_pos hs]at hf c;cases hb2:(Lh (Z0n (itW w k)).length).find? (λm=>La (innE (itW w k) (Z0U (itW w k)) (Z0n (itW w k)) m≠0))with
   | none =>
    rw[hb2]at hf;simp at hf
   | some m =>
    simp only[hb2]at c;have:=(Ln.1 hb2).1;simp[c]at this
  .have e3:Z0z (itW w k)=(itW w k,Lc,0):=by rw[Z0z,if_neg hs]
   rw[e3];simp only;omega
 .rename_i c;exact absurd e c
theorem ZpC{h:Heap}{s:List Int}(hw:WOk h.W)(hp:Z02 h=O)(hb:∀ p∈h.P,p.N<=B)(e:(rootsF (beginW h) s).2.2=0)(e2:(allF (rootsF (beginW h) s).1).2=0):SD (cW2 h s)/\(cW2 h s).D=(cW2 h s).Q.length:=by
 have wb:=Z38 hw hp;have hi:=Z34 hp;have ho:=Z3J (roots:=s) wb hi e;have pr:=ZbM (PR B) (λw r hw hi h e=>PR.fwd hB w r hw hi h e) (roots:=s) wb hi ⟨Z5h hp hb,Z8n hp⟩ e;have s0:=ZbM (λw=>w.D=0) (λw r hw hi h e=>(Z49 hw hi r e).2.1.trans h) (roots:=s) wb hi rfl e;exact ZoX hB ho.1 ho.2.1 pr (λz hz=>by obtain⟨i,j,q,_⟩:=hz;rw[s0]at q;simp at q) e2
end
def Z6b(w:Work)(x:Int):Prop:=Z0M w (ofA w.heap.C x).1=O/\x∉w.Q
def Zak(n:Int)(a x:Int):Int:=if a=x then 1+16*n else 0
def Zj7{n:Int}(h:0<=n/\n<=255):decodeH (1+16*n)=(⟨0,n,0⟩,O):=by
 have hv:Z0h ⟨0,n,0⟩=O:=validH_iff.2 ⟨by simp,by simp,h.1,h.2,by simp⟩;have:=decode_encode hv pq;rw[Z61 h]at this;exact this
def ZiS{n:Int}(h:0<=n/\n<=255){ws:List Int}{a x:Int}(hx:4096<=x/\x+n<4096+ws.length)(ha:x<=a/\a<=x+n):(loadA (Z0F ws x (objW ⟨0,n,0⟩)).1 a).1=Zak n a x:=by
 have hl:(objW ⟨0,n,0⟩).length=n.toNat+1:=by simp[objW]
 rw[Z1R oq oq];unfold Zak;by_cases c:a=x
 .subst c;simp[objW,Z61 h]
 .rw[if_neg c,objW,show(a-x).toNat=(a-x-1).toNat+1 by omega];simp[Lg,LQ];split<;>rfl
structure FL (v:Work) (ws:List Int) (k:Nat):Prop where
 l:ws.length=v.heap.W.length
 h:∀ x∈v.old,hlA ws x=hlA v.heap.W x
 s:∀ a,loadA ws a=loadA v.heap.W a\/∃ x∈v.old,Z6b v x/\x<=a/\a<=x+hlA v.heap.W x/\(loadA ws a).1=Zak (hlA v.heap.W x) a x
 f:∀ j,j<k->Z6b v (v.old.getD j M)->∀ a,v.old.getD j M<=a->a<=v.old.getD j M+hlA v.heap.W (v.old.getD j M)->(loadA ws a).1=Zak (hlA v.heap.W (v.old.getD j M)) a (v.old.getD j M)
def Zg3{v:Work}(hw:FOk v)(hi:CIv v):∀ k,k<=v.old.length->FL v (fillN v k).heap.W k
 | 0,_=>⟨rfl,λ_ _=>rfl,λ_=>Lm rfl,λj hj=>by omega⟩
 | k+1,hk=>by
  have ih:=Zg3 hw hi k oq;obtain⟨i0,i1,i2,i3,i4,i5,i6,i7,i8,i9,i10,i11⟩:=Z5V v hw k;have hm:v.old.getD k M∈v.old:=getD_mem_iff.2 ⟨k,by omega,rfl⟩;have hr:=hi.r _ (Lo _ hm);have hn:=Z0b v.heap.W (v.old.getD k M);have hprom:Z0M (fillN v k) (ofA (fillN v k).heap.C (v.old.getD k M)).1=Z0M v (ofA v.heap.C (v.old.getD k M)).1:=by
   unfold Z0M;rw[i1,i2,i3,i6]
  by_cases c:Z6b v (v.old.getD k M)
  .have e:(fillN v (k+1)).heap.W=(Z0F (fillN v k).heap.W (v.old.getD k M) (objW ⟨0,hlA v.heap.W (v.old.getD k M),0⟩)).1:=by
    show(Z64 (fillN v k) (v.old.getD k M)).heap.W=_;rw[Z64,hprom,i7,if_pos (show Z0M v (ofA v.heap.C (v.old.getD k M)).1=O/\v.old.getD k M∉v.Q from c)];simp only;rw[<- ih.h _ hm];rfl
   rw[e];have hl:=ih.l;generalize hx:v.old.getD k M=x at *;have hin:4096<=x/\x+hlA v.heap.W x<4096+(fillN v k).heap.W.length:=by omega
   have ho:(objW ⟨0,hlA v.heap.W x,0⟩).length=(hlA v.heap.W x).toNat+1:=by simp[objW]
   have win:=λa ha=>ZiS hn (ws:=(fillN v k).heap.W) (a:=a) hin ha;have wout:∀ a,a<x\/x+hlA v.heap.W x<a->loadA (Z0F (fillN v k).heap.W x (objW ⟨0,hlA v.heap.W x,0⟩)).1 a=loadA (fillN v k).heap.W a:=λa ha=>Z2i oq oq;have sep:=λy hy=>hi.s x (Lo _ hm) y (Lo _ hy);have sep2:=λy hy=>hi.s y (Lo _ hy) x (Lo _ hm);refine⟨?_, ?_, ?_, ?_⟩
   .unfold Z0F;rw[if_pos oq];exact(Z3Z oq).trans hl
   .intro y hy;by_cases q:y=x
    .subst q;have:=win y oq;rw[hlA,this,Zak,if_pos rfl,Zj7 hn]
    .have s1:=sep y hy;have s2:=sep2 y hy;have:=Z0b v.heap.W y;rw[hlA,wout y oq];exact ih.h y hy
   .intro a;by_cases q:x<=a/\a<=x+hlA v.heap.W x
    .exact Lu ⟨x,hm,c,q.1,q.2,win a q⟩
    .rw[wout a oq];exact ih.s a
   .intro j hj hf a h1 h2;by_cases q:v.old.getD j M=x
    .rw[q]at h1 h2 ⊢;exact win a ⟨h1,h2⟩
    .have hjk:j<k:=by
      by_cases q2:j=k
      .subst q2;exact absurd hx q
      .omega
     have hmj:v.old.getD j M∈v.old:=getD_mem_iff.2 ⟨j,by omega,rfl⟩;have s1:=sep _ hmj;have s2:=sep2 _ hmj;have:=Z0b v.heap.W (v.old.getD j M);rw[wout a oq];exact ih.f j hjk hf a h1 h2
  .have e:fillN v (k+1)=fillN v k:=by
    show Z64 (fillN v k) (v.old.getD k M)=_;rw[Z64,hprom,i7,if_neg (show ¬ (Z0M v (ofA v.heap.C (v.old.getD k M)).1=O/\v.old.getD k M∉v.Q)from c)]
   rw[e];refine⟨ih.l,ih.h,ih.s,λj hj hf=>?_⟩;by_cases q:j=k
   .subst q;exact absurd hf c
   .exact ih.f j oq hf
def ZdO{c:Conf}{s:Int}{l:List Page}{ws:List Int}(hp:0<=c.pw)(hl:(ws.length:Int)=c.pw*l.length):∀ k,k<=l.length->(Z2o c.pw s l ws k).length=ws.length/\∀ (i:Nat) (o:Int),i<l.length->0<=o->o<c.pw->loadA (Z2o c.pw s l ws k) (4096+i*c.pw+o)=if i<k/\Z2m s (l.getD i M)then(0,0)else loadA ws (4096+i*c.pw+o)
 | 0,_=>⟨rfl,λi o _ _ _=>by rw[if_neg oq];rfl⟩
 | k+1,hk=>by
  obtain⟨h1,h2⟩:=ZdO (s:=s) hp hl k oq;unfold Z2o;by_cases c':Z2m s (l.getD k M)
  .rw[if_pos c'];have hk2:=Z17 (i:=k) (j:=l.length) (pw:=c.pw) oq hp;have hk0:0<=(k:Int)*c.pw:=Lw oq hp;rw[Lv (l.length:Int)]at hk2;have hlen:(Le c.pw.toNat (0:Int)).length=c.pw.toNat:=LA;have en:((k*c.pw.toNat:Nat):Int)=k*c.pw:=by rw[Int.natCast_mul,Int.toNat_of_nonneg hp]
   have e:spl (Z2o c.pw s l ws k) (k*c.pw.toNat) (Le c.pw.toNat 0)=(Z0F (Z2o c.pw s l ws k) (4096+k*c.pw) (Le c.pw.toNat 0)).1:=by
    unfold Z0F;rw[if_pos oq];simp only;congr 1;omega
   refine⟨?_, ?_⟩
   .rw[Z3Z oq];exact h1
   .intro i o hi h0 ho;rw[e];by_cases q:i=k
    .subst q;rw[Z1R oq oq,if_pos ⟨by omega,c'⟩];simp[Lg,LQ];split<;>rfl
    .have hne:4096+(i:Int)*c.pw+o<4096+k*c.pw\/4096+k*c.pw+c.pw<=4096+(i:Int)*c.pw+o:=by
      rcases Nat.lt_or_gt_of_ne q with q | q
      .have:=Z17 (i:=i) (j:=k) (pw:=c.pw) oq hp;omega
      .have:=Z17 (i:=k) (j:=i) (pw:=c.pw) oq hp;omega
     rw[Z2i oq oq,h2 i o hi h0 ho];by_cases q2:i<k/\Z2m s (l.getD i M)
     .rw[if_pos q2,if_pos ⟨by omega,q2.2⟩]
     .rw[if_neg q2,if_neg (λq3=>q2 ⟨by omega,q3.2⟩)]
  .rw[if_neg c'];refine⟨h1,λi o hi h0 ho=>?_⟩;rw[h2 i o hi h0 ho];by_cases q2:i<k/\Z2m s (l.getD i M)
   .rw[if_pos q2,if_pos ⟨by omega,q2.2⟩]
   .rw[if_neg q2,if_neg];rintro⟨q3,q4⟩;by_cases q5:i=k
    .subst q5;exact c' q4
    .exact q2 ⟨by omega,q4⟩
def ZaJ(hd:Header){k:Int}(h0:0<=k)(hp:Z0f hd k=O):∀ n:Nat,k<n->k∈Z0V hd n
 | 0,h=>by omega
 | n+1,h=>by
  unfold Z0V;by_cases q:k=n
  .subst q;rw[if_pos hp];simp
  .have ih:=ZaJ hd h0 hp n oq;split
   .exact Lo _ ih
   .exact ih
def Zca{hd:Header}{k:Int}(h0:0<=k)(h1:k<hd.length)(hp:Z0f hd k=O):k∈Z03 hd:=by
 have hv:Z0h hd=O:=by
  unfold Z0f at hp;simp only[LI]at hp;exact hp.1.1.1
 unfold Z03;rw[if_pos hv];exact ZaJ hd h0 hp _ oq
end Go.Proofs.YtdhchmlalchgeaaGreat
