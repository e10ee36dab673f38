/-
 The statement GraphReach: part 13.
 Conditions: none.
-/
import Derived.Test.YtgedmeaemofdkaaGreatP12
set_option maxRecDepth 100000
set_option maxHeartbeats 2000000
set_option linter.all false
open Inhabited renaming default->M
open Bool renaming true->O,false->Lg,and_eq_true->LL
open Or renaming inl->La,inr->Lb
open List renaming map->Lc,getD_eq_getElem?_getD->Ld,mem_append_left->Lf,mem_append->Lh,mem_singleton->Li,take->Lk,length_set->Ll,mem_append_right->Ln,mem_range->Lo,range->Lp,find?_eq_none->Lq,getElem?_eq_none->Lr,length_map->Lt,length_replicate->Lu,find?_range_eq_some->Lw,replicate->Ly,drop->LA,getElem?_eq_getElem->LG,getElem?_replicate->LH,mem_map->LI,mem_cons->LO,length_append->LV,length_drop->LW,length_take->LY,mem_cons_of_mem->LZ,mem_of_mem_drop->L0,mem_of_mem_take->L1,eq_nil_iff_forall_not_mem->L9,getElem?_append_left->Xa,getElem?_drop->Xb,length_singleton->Xc,map_append->Xd,map_drop->Xe,map_set->Xf,map_take->Xg,mem_iff_getElem->Xh,mem_or_eq_of_mem_set->Xi,mem_replicate->Xj,nodup_nil->Xk
open Decidable renaming decide->Le,not_not->Lv
open Nat renaming le_refl->Lj,lt_trichotomy->LQ,add_zero->Xl,le_add_right->Xm,le_trans->Xn
open Option renaming some->Lm,none->LB,getD_none->L2,getD_some->Xo
open Int renaming toNat_natCast->Ls,toNat->Lx,mul_comm->Lz,emod_lt_of_pos->LC,le_refl->LD,mul_nonneg->LF,emod_nonneg->LM,tdiv_eq_ediv_of_nonneg->LN,add_assoc->LR,mul_ediv_add_emod->LS,toNat_of_nonneg->LU,add_mul->L3,add_zero->L4,ediv_lt_of_lt_mul->L5,ediv_nonneg->L6,mul_le_mul_of_nonneg_right->L7,tmod_eq_emod_of_nonneg->L8
open Go.Proofs.Tryz
namespace Go.Proofs.YtgedmeaemofdkaaGreat
open Go.Sx
def pinB(w:WorldM)(i:Nat)(n:Int):WorldM:=⟨⟨w.heap.C,w.heap.W,w.heap.P.set i ⟨(w.heap.P.getD i M).K,(w.heap.P.getD i M).S,(w.heap.P.getD i M).U,(w.heap.P.getD i M).N+n⟩,w.heap.S,w.heap.B⟩,w.G,w.E⟩
def pinI(w:WorldM)(t:Tape):Nat:=(ofA w.heap.C (w.pick t)).1.toNat
def WorldM.pin(w:WorldM)(t:Tape):WorldM :=
  if(ofA w.heap.C (w.pick t)).2.2=0 then
    (if 0<(w.heap.P.getD (pinI w t) M).N/\(w.pickT t).next 2=0 then pinB w (pinI w t) (-1)
     else if 0<(w.heap.P.getD (pinI w t) M).N\/(w.heap.P.getD (pinI w t) M).K=2\/(crowd w.heap.P:Int)<w.heap.C.pg/4 then pinB w (pinI w t) 1 else w)else w
def WorldM.pinT(w:WorldM)(t:Tape):Tape:=if(ofA w.heap.C (w.pick t)).2.2=0/\0<(w.heap.P.getD (pinI w t) M).N then(w.pickT t).step 2 else w.pickT t
def Zjs(w:WorldM)(t:Tape)(hw:WMok w)(ht:TOk t)(ha:t.at'<=1000000)(hv:Z06 w.heap.C=O)(hp:(w.heap.P.length:Int)=w.heap.C.pg)(hpn:∀ j,j<w.heap.P.length->-1048576<=(w.heap.P.getD j M).N/\(w.heap.P.getD j M).N<=4294967296):LP 104 [w.av,.pt 0 0 0] [t.b] (w.pin t).av [(w.pinT t).b]:=by
 have hb:=validB_iff.1 hv;have s1:=ZaK w t;have k1:=Z4D ht s1.2.2 oq oq;have p1:=Z3g hw t;have q1:=hpn (pinI w t);have hcr:=Z3Q w.heap.P w.heap.P.length;unfold pinI at q1;have o1:=λe=>Z3F (a:=w.pick t) hv e;by_cases e:(ofA w.heap.C (w.pick t)).2.2=0
 .have o2:=o1 e;by_cases c1:0<(w.heap.P.getD (ofA w.heap.C (w.pick t)).1.toNat M).N
  .have eT:w.pinT t=(w.pickT t).step 2:=by rw[WorldM.pinT,if_pos ⟨e,c1⟩]
   by_cases c2:(w.pickT t).next 2=0
   .have eP:w.pin t=⟨⟨w.heap.C,w.heap.W,w.heap.P.set (ofA w.heap.C (w.pick t)).1.toNat ⟨(w.heap.P.getD (ofA w.heap.C (w.pick t)).1.toNat M).K,(w.heap.P.getD (ofA w.heap.C (w.pick t)).1.toNat M).S,(w.heap.P.getD (ofA w.heap.C (w.pick t)).1.toNat M).U,(w.heap.P.getD (ofA w.heap.C (w.pick t)).1.toNat M).N-1⟩,w.heap.S,w.heap.B⟩,w.G,w.E⟩:=by rw[WorldM.pin,if_pos e,if_pos ⟨c1,c2⟩];rfl
    rw[eP,eT];exact lF func104 [] (Fh 42 [.br O] (Fh 37 [.br O] (Fh 51 [.el (w.heap.P.getD (ofA w.heap.C (w.pick t)).1.toNat M).dv] (Fp 12 (@Z1Y w t aa aa oq) (Fc 18 (@Z4t w.heap.C (w.pick t) oq oq) (Ffb 23 ((ofA w.heap.C (w.pick t)).2.2 != 0) (FA 25 29 Page.dv w.heap.P (Fmq 41 Page.dv w.heap.P ((ofA w.heap.C (w.pick t)).1) (Fb (Le (0<(w.heap.P.getD (ofA w.heap.C (w.pick t)).1.toNat M).N)=O) (Fp 45 (@Z0w (w.pickT t) (2) aa oq oq) (Fb (((w.pickT t).next (2:Int)==0)=O) (Fa (by exact Z10 oq:(Lc Page.dv w.heap.P)[(ofA w.heap.C (w.pick t)).1.toNat]? = Lm (w.heap.P.getD (ofA w.heap.C (w.pick t)).1.toNat M).dv) (Fi 52 ((w.heap.P.getD (ofA w.heap.C (w.pick t)).1.toNat M).N-1) (Fa (by exact Z10 oq:(Lc Page.dv w.heap.P)[(ofA w.heap.C (w.pick t)).1.toNat]? = Lm (w.heap.P.getD (ofA w.heap.C (w.pick t)).1.toNat M).dv) (FS 10054 Page.dv w.heap.P ((ofA w.heap.C (w.pick t)).1.toNat) (Page.mk (w.heap.P.getD (ofA w.heap.C (w.pick t)).1.toNat M).K (w.heap.P.getD (ofA w.heap.C (w.pick t)).1.toNat M).S (w.heap.P.getD (ofA w.heap.C (w.pick t)).1.toNat M).U ((w.heap.P.getD (ofA w.heap.C (w.pick t)).1.toNat M).N-1)) ((w.heap.P.getD (ofA w.heap.C (w.pick t)).1.toNat M).dv) Fz)))))))))))))))
   .have eP:w.pin t=⟨⟨w.heap.C,w.heap.W,w.heap.P.set (ofA w.heap.C (w.pick t)).1.toNat ⟨(w.heap.P.getD (ofA w.heap.C (w.pick t)).1.toNat M).K,(w.heap.P.getD (ofA w.heap.C (w.pick t)).1.toNat M).S,(w.heap.P.getD (ofA w.heap.C (w.pick t)).1.toNat M).U,(w.heap.P.getD (ofA w.heap.C (w.pick t)).1.toNat M).N+1⟩,w.heap.S,w.heap.B⟩,w.G,w.E⟩:=by rw[WorldM.pin,if_pos e,if_neg (λq=>c2 q.2),if_pos (.inl c1)];rfl
    rw[eP,eT];exact lF func104 [] (Fh 42 [.br O] (Fh 37 [.br Lg] (Fh 59 [.el (w.heap.P.getD (ofA w.heap.C (w.pick t)).1.toNat M).dv] (Fh 65 [.el (w.heap.P.getD (ofA w.heap.C (w.pick t)).1.toNat M).dv] (Fh 76 [.int (w.heap.C.pg/4)] (Fh 55 [.br O] (Fh 82 [.el (w.heap.P.getD (ofA w.heap.C (w.pick t)).1.toNat M).dv] (Fp 12 (@Z1Y w t aa aa oq) (Fc 18 (@Z4t w.heap.C (w.pick t) oq oq) (Ffb 23 ((ofA w.heap.C (w.pick t)).2.2 != 0) (FA 25 29 Page.dv w.heap.P (Fmq 41 Page.dv w.heap.P ((ofA w.heap.C (w.pick t)).1) (Fb (Le (0<(w.heap.P.getD (ofA w.heap.C (w.pick t)).1.toNat M).N)=O) (Fp 45 (@Z0w (w.pickT t) (2) aa oq oq) (Fb (((w.pickT t).next (2:Int)==0)=Lg) (Fa (by exact Z10 oq:(Lc Page.dv w.heap.P)[(ofA w.heap.C (w.pick t)).1.toNat]? = Lm (w.heap.P.getD (ofA w.heap.C (w.pick t)).1.toNat M).dv) (Fa (by intro hg;(try simp only[bs]at hg);exact Z10 oq:(!decide (0<(w.heap.P.getD (ofA w.heap.C (w.pick t)).1.toNat M).N))=O->(Lc Page.dv w.heap.P)[(ofA w.heap.C (w.pick t)).1.toNat]? = Lm (w.heap.P.getD (ofA w.heap.C (w.pick t)).1.toNat M).dv) (FcG 71 (!(Le (0<(w.heap.P.getD (ofA w.heap.C (w.pick t)).1.toNat M).N)||(w.heap.P.getD (ofA w.heap.C (w.pick t)).1.toNat M).K==2)) (λhg=>by(try simp only[bs]at hg);exact @Z91 w.heap oq) (Fa (by intro hg;(try simp only[bs]at hg);rw[wrapI' oq oq];omega:(!(Le (0<(w.heap.P.getD (ofA w.heap.C (w.pick t)).1.toNat M).N)||(w.heap.P.getD (ofA w.heap.C (w.pick t)).1.toNat M).K==2))=O->IntKind.i64.wrap (w.heap.C.pg.tdiv 4)=w.heap.C.pg/4) (Fa (by intro hg;(try simp only[bs]at hg);omega:(!(Le (0<(w.heap.P.getD (ofA w.heap.C (w.pick t)).1.toNat M).N)||(w.heap.P.getD (ofA w.heap.C (w.pick t)).1.toNat M).K==2))=O->(4:Int)=0->False) (Fb ((Le (0<(w.heap.P.getD (ofA w.heap.C (w.pick t)).1.toNat M).N)||(w.heap.P.getD (ofA w.heap.C (w.pick t)).1.toNat M).K==2||Le ((↑(crowd w.heap.P):Int)<w.heap.C.pg/4))=O) (Fa (by exact Z10 oq:(Lc Page.dv w.heap.P)[(ofA w.heap.C (w.pick t)).1.toNat]? = Lm (w.heap.P.getD (ofA w.heap.C (w.pick t)).1.toNat M).dv) (Fi 83 ((w.heap.P.getD (ofA w.heap.C (w.pick t)).1.toNat M).N+1) (Fa (by exact Z10 oq:(Lc Page.dv w.heap.P)[(ofA w.heap.C (w.pick t)).1.toNat]? = Lm (w.heap.P.getD (ofA w.heap.C (w.pick t)).1.toNat M).dv) (FS 10085 Page.dv w.heap.P ((ofA w.heap.C (w.pick t)).1.toNat) (Page.mk (w.heap.P.getD (ofA w.heap.C (w.pick t)).1.toNat M).K (w.heap.P.getD (ofA w.heap.C (w.pick t)).1.toNat M).S (w.heap.P.getD (ofA w.heap.C (w.pick t)).1.toNat M).U ((w.heap.P.getD (ofA w.heap.C (w.pick t)).1.toNat M).N+1)) ((w.heap.P.getD (ofA w.heap.C (w.pick t)).1.toNat M).dv) Fz)))))))))))))))))))))))))
  .have eT:w.pinT t=w.pickT t:=by rw[WorldM.pinT,if_neg (λq=>c1 q.2)]
   by_cases c3:(w.heap.P.getD (ofA w.heap.C (w.pick t)).1.toNat M).K=2\/(crowd w.heap.P:Int)<w.heap.C.pg/4
   .have eP:w.pin t=⟨⟨w.heap.C,w.heap.W,w.heap.P.set (ofA w.heap.C (w.pick t)).1.toNat ⟨(w.heap.P.getD (ofA w.heap.C (w.pick t)).1.toNat M).K,(w.heap.P.getD (ofA w.heap.C (w.pick t)).1.toNat M).S,(w.heap.P.getD (ofA w.heap.C (w.pick t)).1.toNat M).U,(w.heap.P.getD (ofA w.heap.C (w.pick t)).1.toNat M).N+1⟩,w.heap.S,w.heap.B⟩,w.G,w.E⟩:=by rw[WorldM.pin,if_pos e,if_neg (λq=>c1 q.1),if_pos (.inr c3)];rfl
    rw[eP,eT];exact lF func104 [] (Fh 42 [.br Lg] (Fh 45 [.bor [0] (int ((w.pickT t).next 2)) [((w.pickT t).step 2).b]] (Fh 59 [.el (w.heap.P.getD (ofA w.heap.C (w.pick t)).1.toNat M).dv] (Fh 65 [.el (w.heap.P.getD (ofA w.heap.C (w.pick t)).1.toNat M).dv] (Fh 76 [.int (w.heap.C.pg/4)] (Fh 55 [.br O] (Fh 82 [.el (w.heap.P.getD (ofA w.heap.C (w.pick t)).1.toNat M).dv] (Fp 12 (@Z1Y w t aa aa oq) (Fc 18 (@Z4t w.heap.C (w.pick t) oq oq) (Ffb 23 ((ofA w.heap.C (w.pick t)).2.2 != 0) (FA 25 29 Page.dv w.heap.P (Fmq 41 Page.dv w.heap.P ((ofA w.heap.C (w.pick t)).1) (Fb (Le (0<(w.heap.P.getD (ofA w.heap.C (w.pick t)).1.toNat M).N)=Lg) (Fa (by exact Z10 oq:(Lc Page.dv w.heap.P)[(ofA w.heap.C (w.pick t)).1.toNat]? = Lm (w.heap.P.getD (ofA w.heap.C (w.pick t)).1.toNat M).dv) (Fa (by intro hg;(try simp only[bs]at hg);exact Z10 oq:(!decide (0<(w.heap.P.getD (ofA w.heap.C (w.pick t)).1.toNat M).N))=O->(Lc Page.dv w.heap.P)[(ofA w.heap.C (w.pick t)).1.toNat]? = Lm (w.heap.P.getD (ofA w.heap.C (w.pick t)).1.toNat M).dv) (FcG 71 (!(Le (0<(w.heap.P.getD (ofA w.heap.C (w.pick t)).1.toNat M).N)||(w.heap.P.getD (ofA w.heap.C (w.pick t)).1.toNat M).K==2)) (λhg=>by(try simp only[bs]at hg);exact @Z91 w.heap oq) (Fa (by intro hg;(try simp only[bs]at hg);rw[LN oq,wrapI' oq oq]:(!(Le (0<(w.heap.P.getD (ofA w.heap.C (w.pick t)).1.toNat M).N)||(w.heap.P.getD (ofA w.heap.C (w.pick t)).1.toNat M).K==2))=O->IntKind.i64.wrap (w.heap.C.pg.tdiv 4)=w.heap.C.pg/4) (Fa (by intro hg;(try simp only[bs]at hg);omega:(!(Le (0<(w.heap.P.getD (ofA w.heap.C (w.pick t)).1.toNat M).N)||(w.heap.P.getD (ofA w.heap.C (w.pick t)).1.toNat M).K==2))=O->(4:Int)=0->False) (Fb ((Le (0<(w.heap.P.getD (ofA w.heap.C (w.pick t)).1.toNat M).N)||(w.heap.P.getD (ofA w.heap.C (w.pick t)).1.toNat M).K==2||Le ((↑(crowd w.heap.P):Int)<w.heap.C.pg/4))=O) (Fa (by exact Z10 oq:(Lc Page.dv w.heap.P)[(ofA w.heap.C (w.pick t)).1.toNat]? = Lm (w.heap.P.getD (ofA w.heap.C (w.pick t)).1.toNat M).dv) (Fi 83 ((w.heap.P.getD (ofA w.heap.C (w.pick t)).1.toNat M).N+1) (Fa (by exact Z10 oq:(Lc Page.dv w.heap.P)[(ofA w.heap.C (w.pick t)).1.toNat]? = Lm (w.heap.P.getD (ofA w.heap.C (w.pick t)).1.toNat M).dv) (FS 10085 Page.dv w.heap.P ((ofA w.heap.C (w.pick t)).1.toNat) (Page.mk (w.heap.P.getD (ofA w.heap.C (w.pick t)).1.toNat M).K (w.heap.P.getD (ofA w.heap.C (w.pick t)).1.toNat M).S (w.heap.P.getD (ofA w.heap.C (w.pick t)).1.toNat M).U ((w.heap.P.getD (ofA w.heap.C (w.pick t)).1.toNat M).N+1)) ((w.heap.P.getD (ofA w.heap.C (w.pick t)).1.toNat M).dv) Fz)))))))))))))))))))))))
   .have eP:w.pin t=w:=by rw[WorldM.pin,if_pos e,if_neg (λq=>c1 q.1),if_neg (λq=>q.elim c1 c3)]
    rw[eP,eT];exact lF func104 [] (Fh 42 [.br Lg] (Fh 45 [.bor [0] (int ((w.pickT t).next 2)) [((w.pickT t).step 2).b]] (Fh 59 [.el (w.heap.P.getD (ofA w.heap.C (w.pick t)).1.toNat M).dv] (Fh 65 [.el (w.heap.P.getD (ofA w.heap.C (w.pick t)).1.toNat M).dv] (Fh 76 [.int (w.heap.C.pg/4)] (Fh 55 [.br Lg] (Fp 12 (@Z1Y w t aa aa oq) (Fc 18 (@Z4t w.heap.C (w.pick t) oq oq) (Ffb 23 ((ofA w.heap.C (w.pick t)).2.2 != 0) (FA 25 29 Page.dv w.heap.P (Fmq 41 Page.dv w.heap.P ((ofA w.heap.C (w.pick t)).1) (Fb (Le (0<(w.heap.P.getD (ofA w.heap.C (w.pick t)).1.toNat M).N)=Lg) (Fa (by exact Z10 oq:(Lc Page.dv w.heap.P)[(ofA w.heap.C (w.pick t)).1.toNat]? = Lm (w.heap.P.getD (ofA w.heap.C (w.pick t)).1.toNat M).dv) (Fa (by intro hg;(try simp only[bs]at hg);exact Z10 oq:(!decide (0<(w.heap.P.getD (ofA w.heap.C (w.pick t)).1.toNat M).N))=O->(Lc Page.dv w.heap.P)[(ofA w.heap.C (w.pick t)).1.toNat]? = Lm (w.heap.P.getD (ofA w.heap.C (w.pick t)).1.toNat M).dv) (FcG 71 (!(Le (0<(w.heap.P.getD (ofA w.heap.C (w.pick t)).1.toNat M).N)||(w.heap.P.getD (ofA w.heap.C (w.pick t)).1.toNat M).K==2)) (λhg=>by(try simp only[bs]at hg);exact @Z91 w.heap oq) (Fa (by intro hg;(try simp only[bs]at hg);rw[LN oq,wrapI' oq oq]:(!(Le (0<(w.heap.P.getD (ofA w.heap.C (w.pick t)).1.toNat M).N)||(w.heap.P.getD (ofA w.heap.C (w.pick t)).1.toNat M).K==2))=O->IntKind.i64.wrap (w.heap.C.pg.tdiv 4)=w.heap.C.pg/4) (Fa (by intro hg;(try simp only[bs]at hg);omega:(!(Le (0<(w.heap.P.getD (ofA w.heap.C (w.pick t)).1.toNat M).N)||(w.heap.P.getD (ofA w.heap.C (w.pick t)).1.toNat M).K==2))=O->(4:Int)=0->False) (Fb ((Le (0<(w.heap.P.getD (ofA w.heap.C (w.pick t)).1.toNat M).N)||(w.heap.P.getD (ofA w.heap.C (w.pick t)).1.toNat M).K==2||Le ((↑(crowd w.heap.P):Int)<w.heap.C.pg/4))=Lg) Fz))))))))))))))))))
 .have eP:w.pin t=w:=by rw[WorldM.pin,if_neg e]
  have eT:w.pinT t=w.pickT t:=by rw[WorldM.pinT,if_neg (λq=>e q.1)]
  rw[eP,eT];exact lF func104 [] (Fp 12 (@Z1Y w t aa aa oq) (Fc 18 (@Z4t w.heap.C (w.pick t) oq oq) (Ftb 23 ((ofA w.heap.C (w.pick t)).2.2 != 0) Fz)))
def Z7e(h:Heap)(s k:List Int)(hw:WOk h.W)(hs:s.length<=1048575)(hk:k.length<=1048575)(hs2:ULe s)(hk2:ULe k):GP 36 [h.av,Z01 s,Z01 k] Lg (.tu [(Z0d h s k).1.av,Z01 (Z0d h s k).2.1,Z01 (Z0d h s k).2.2.1,.ag (Z0d h s k).2.2.2.1.cells,int (Z0d h s k).2.2.2.2]) []:=by
 unfold Z0d;by_cases hp:Z03 h=O
 .rw[if_pos hp];by_cases hr:Z0i h s=O/\Z0i h k=O
  .rw[if_pos hr];by_cases e:(rootsF (beginW h) s).2.2=0
   .rw[if_pos e];by_cases e2:(allF (rootsF (beginW h) s).1).2=0
    .rw[if_pos e2];exact ZkX h s k hw hs hk hs2 hk2 hp hr.1 hr.2 e e2
    .rw[if_neg e2];exact ZkF h s k hw hs hk hs2 hk2 hp hr.1 hr.2 e e2
   .rw[if_neg e];exact Zka h s k hw hs hk hs2 hk2 hp hr.1 hr.2 e
  .rw[if_neg hr];refine ZjD h s k hw hs hk hs2 hk2 hp ?_;by_cases q:Z0i h s=O
   .refine Lb ?_;have:¬ Z0i h k=O:=λq2=>hr ⟨q,q2⟩;simpa using this
   .exact La (by simpa using q)
 .rw[if_neg hp];exact Zjb h s k hw hs hk hs2 hk2 (by simpa using hp)
def WorldM.collect(w:WorldM):WorldM:=if(Z0d w.heap w.G w.E).2.2.2.2=0 then⟨(Z0d w.heap w.G w.E).1,(Z0d w.heap w.G w.E).2.1,(Z0d w.heap w.G w.E).2.2.1⟩else w
def Zd4(w:WorldM)(hw:WOk w.heap.W)(hs:w.G.length<=1048575)(hk:w.E.length<=1048575)(hs2:ULe w.G)(hk2:ULe w.E):GP 23 [w.av] Lg w.collect.av []:=by
 by_cases e:(Z0d w.heap w.G w.E).2.2.2.2=0
 .have e7:w.collect=⟨(Z0d w.heap w.G w.E).1,(Z0d w.heap w.G w.E).2.1,(Z0d w.heap w.G w.E).2.2.1⟩:=by rw[WorldM.collect,if_pos e]
  rw[e7];exact gF [] func23 [] (Fc 15 (@Z7e w.heap w.G w.E aa aa aa aa aa) (Ftb 22 ((Z0d w.heap w.G w.E).2.2.2.2==0) Fz))
 .have e7:w.collect=w:=by rw[WorldM.collect,if_neg e]
  rw[e7];exact gF [] func23 [] (Fc 15 (@Z7e w.heap w.G w.E aa aa aa aa aa) (Ffb 22 ((Z0d w.heap w.G w.E).2.2.2.2==0) Fz))
section
variable (P:Work->Prop) (hf:∀ w r,WkOk w->CIv w->P w->(w.fwd r).2.2=0->P (w.fwd r).1)
 (hin:∀ w q j,WkOk w->CIv w->P w->q∈w.Q->0<=j->j<hlA w.heap.W q->(w.fwd (loadA w.heap.W (q+1+j)).1).2.2=0->P (w.in1 (q+1+j))) (hsd:∀ w n,P w->P (Zdm w n))
include hin in
theorem Zj2{w:Work}(hw:WkOk w)(h:CIv w)(hp:P w){q:Int}(hq:q∈w.Q){l:List Int}(hl:∀ x∈l,0<=x/\x<hlA w.heap.W q):∀ k,k<=l.length->(∀ j,j<k->innE w q l j=0)->P (innN w q l k)
 | 0,_,_=>hp
 | k+1,hk,he=>by
  have ih:=Zj2 hw h hp hq hl k oq (λj hj=>he j oq);have ok:=(Z4c hw q l k (λj hj=>he j oq)).1;have iv:=Z7k hw h hq hl k oq (λj hj=>he j oq);have hx:=hl _ (getD_mem_iff.2 ⟨k,by omega,rfl⟩);exact hin _ q (l.getD k M) ok iv.1 ih (iv.2.q q hq) hx.1 (by rw[iv.2.l q hq];exact hx.2) (he k oq)
include hin hsd in
theorem ZhN{w:Work}(hw:WkOk w)(h:CIv w)(hp:P w)(e:(Z0G w).2.2=0):P (Z0G w).1:=by
 by_cases hs:w.D<w.Q.length
 .have hsc:=hw.sc;have hq:Z2Y w∈w.Q:=getD_mem_iff.2 ⟨w.D.toNat,by omega,rfl⟩;unfold Z0G at e ⊢;rw[if_pos hs]at e ⊢;cases hb:(Lp (Z1H w).length).find? (λk=>Le (innE w (Z2Y w) (Z1H w) k≠0))with
  | none =>
   have h0:∀ j,j<(Z1H w).length->innE w (Z2Y w) (Z1H w) j=0:=λj hj=>by
    have:=Lq.1 hb j (Lo.2 hj);simpa using this
   exact hsd _ _ (Zj2 P hin hw h hp hq (l:=Z1H w) (Z4v (hdW w (Z2Y w))) (Z1H w).length (Lj _) h0)
  | some k =>
   simp only[hb]at e;have:=(Lw.1 hb).1;simp[e]at this
 .have e:Z0G w=(w,Lg,0):=by rw[Z0G,if_neg hs]
  rw[e];exact hp
include hin hsd in
theorem Zl9{w:Work}(hw:WkOk w)(h:CIv w)(hp:P w):∀ k,(∀ j,j<k->Z3a w j=Lg)->P (itW w k)
 | 0,_=>hp
 | k+1,hh=>by
  have ih:=Zl9 hw h hp k (λj hj=>hh j oq);have ok:=(Z3X hw k (λj hj=>hh j oq)).1;have iv:=(Z6H hw h k (λj hj=>hh j oq)).1;have hk:=hh k oq;simp only[Z3a,decide_eq_false_iff_not,not_or,Lv]at hk;exact ZhN P hin hsd ok iv ih hk.1
include hin hsd in
theorem Zo0{w:Work}(hw:WkOk w)(h:CIv w)(hp:P w)(e:(allF w).2=0):P (allF w).1:=by
 obtain⟨k,hb⟩:=Z4P hw;obtain⟨h1,h2,h3⟩:=Lw.1 hb;have h0:∀ j,j<k->Z3a w j=Lg:=λj hj=>by simpa using h3 j hj
 unfold allF at e ⊢;rw[hb]at e ⊢;simp only at e ⊢;split at e
 .rename_i c;rw[if_pos c];exact ZhN P hin hsd (Z3X hw k h0).1 (Z6H hw h k h0).1 (Zl9 P hin hsd hw h hp k h0) c
 .rename_i c;exact absurd e c
include hf in
theorem Zas{w:Work}{roots:List Int}(hw:WkOk w)(h:CIv w)(hp:P w):∀ k,(∀ j,j<k->Z2q w roots j=0)->P (Z1m w roots k).1
 | 0,_=>hp
 | k+1,hh=>by
  have ih:=Zas hw h hp k (λj hj=>hh j oq);have ok:=(Z31 (roots:=roots) hw k (λj hj=>hh j oq)).1;have iv:=(Z5f (roots:=roots) hw h k (λj hj=>hh j oq)).1;exact hf _ _ ok iv ih (hh k oq)
include hf in
theorem Zai{w:Work}{roots:List Int}(hw:WkOk w)(h:CIv w)(hp:P w)(e:(rootsF w roots).2.2=0):P (rootsF w roots).1:=by
 unfold rootsF at e ⊢;cases hb:(Lp roots.length).find? (λk=>Le (Z2q w roots k≠0))with
 | none =>
  have h0:∀ j,j<roots.length->Z2q w roots j=0:=λj hj=>by
   have:=Lq.1 hb j (Lo.2 hj);simpa using this
  exact Zas P hf hw h hp roots.length h0
 | some k =>
  simp only[hb]at e;have:=(Lw.1 hb).1;simp[e]at this
include hf hin hsd in
theorem Zn1{h:Heap}{s:List Int}(hw:WOk h.W)(hp:Z03 h=O)(h0:P (beginW h))(e:(rootsF (beginW h) s).2.2=0)(e2:(allF (rootsF (beginW h) s).1).2=0):P (cW2 h s):=by
 have hb:=Z3z hw hp;have hi:=Z3m hp;have ho:=Z3i (roots:=s) hb hi e;exact Zo0 P hin hsd ho.1 ho.2.1 (Zai P hf hb hi h0 e) e2
end
def Zhe{l:List Page}{i k:Nat}(h:∀ m,m<k->i+1+m<l.length/\(l.getD (i+1+m) M).K=3):k<=Z0u l i:=by
 by_cases hc:k<=Z0u l i
 .exact hc
 .have h1:=h (Z0u l i) oq;exact absurd h1.2 (Zfr h1.1)
def PT.flip{c:Conf}{l:List Page}(h:PT c l){i:Nat}(hi:i<l.length)(hk:(l.getD i M).K=2){s:Int}(hs:0<=s/\s<=1):PT c (Z0F l i (Z0u l i) s):=by
 have hr:∀ j,i<j->j<=i+Z0u l i->(l.getD j M).K=3:=λj h1 h2=>by
  have:=(Z8u (l:=l) (i:=i) (m:=j-i-1) oq).2;rwa [show i+1+(j-i-1)=j by omega]at this
 have hg:∀ j,j<l.length->((Z0F l i (Z0u l i) s).getD j M).K=(l.getD j M).K/\((Z0F l i (Z0u l i) s).getD j M).U=(l.getD j M).U/\((Z0F l i (Z0u l i) s).getD j M).N=(l.getD j M).N:=λj hj=>by
  rw[Z1x hj];split
  .exact⟨rfl,rfl,rfl⟩
  .exact⟨rfl,rfl,rfl⟩
 refine⟨?_, ?_, ?_⟩
 .intro j hj;rw[Z1t]at hj;have b:=h.b j hj;rw[Z1x hj];split
  .rename_i hc;refine⟨hs,b.n,b.k,λq=>?_,b.k1,b.k3⟩;exfalso;have q':(l.getD j M).K=0:=q;by_cases hij:j=i
   .subst hij;omega
   .have:=hr j oq hc.2;omega
  .exact b
 .intro j hj hk2;rw[Z1t]at hj ⊢;rw[(hg j hj).1]at hk2;rw[(hg j hj).2.1];have q:=h.lg j hj hk2;refine⟨q.1,λm h1 h2=>?_⟩;have r:=q.2 m h1 h2;refine⟨r.1,by rw[(hg _ r.1).1];exact r.2.1, ?_⟩;rw[Z1x r.1,Z1x hj];by_cases hij:j=i
  .subst hij;have hT:(need c (l.getD j M).U-1).toNat<=Z0u l j:=Zhe λm' hm'=>by
    have:=q.2 (m'+1) oq oq;rw[show j+1+m'=j+(m'+1) by omega];exact⟨this.1,this.2.1⟩
   rw[if_pos oq,if_pos oq];rfl
  .have hj1:¬ (i<=j/\j<=i+Z0u l i):=λhc=>by
    have:=hr j oq hc.2;omega
   have hj2:¬ (i<=j+m/\j+m<=i+Z0u l i):=λhc=>by
    by_cases hlt:j<i
    .by_cases he:j+m=i
     .have:=r.2.1;rw[he]at this;omega
     .have:=(q.2 (i-j) oq oq).2.1;rw[show j+(i-j)=i by omega]at this;omega
    .omega
   rw[if_neg hj1,if_neg hj2];exact r.2.2
 .intro j hj hk3;rw[Z1t]at hj;rw[(hg j hj).1]at hk3;obtain⟨a,a1,a2,a3⟩:=h.tl j hj hk3;exact⟨a,a1,by rw[(hg a oq).1];exact a2,by rw[(hg a oq).2.1];exact a3⟩
structure Tab (B:Int) (w:Work):Prop where
 pt:PT w.heap.C w.heap.P
 tk:∀ x∈w.T,(w.heap.P.getD x.toNat M).S=1-w.heap.S
 pin:∀ p∈w.heap.P,p.N<=B
def Tab.withWords{B:Int}{w:Work}(h:Tab B w)(l:List Int):Tab B ⟨⟨w.heap.C,l,w.heap.P,w.heap.S,w.heap.B⟩,w.old,w.T,w.Q,w.D,w.rep⟩:=⟨h.pt,h.tk,h.pin⟩
def Tab.place{B:Int}(hB:0<=B){w:Work}(hw:WkOk w)(h:Tab B w){n:Int}(hn:1<=n/\n<=w.heap.C.pw)(hc:(w.place n).2.2=O):PT (w.place n).1.heap.C (w.place n).1.heap.P/\(∀ x∈(w.place n).1.T,((w.place n).1.heap.P.getD x.toNat M).S=1-(w.place n).1.heap.S)/\∀ p∈(w.place n).1.heap.P,p.N<=B:=by
 have hsp:=hw.sp;by_cases hf:Z4u w n
 .have e:w.place n=(⟨⟨w.heap.C,w.heap.W,Z2a w.heap.P (Z0S w).toNat n,w.heap.S,w.heap.B⟩,w.old,w.T,w.Q,w.D,w.rep⟩,4096+Z0S w*w.heap.C.pw+(w.heap.P.getD (Z0S w).toNat M).U,O):=by rw[Work.place,if_pos hf]
  unfold Z4u at hf;have hm:=hw.tk _ (Z1u hf.1);have hi:(Z0S w).toNat<w.heap.P.length:=by omega
  have ok:=h.pt.b _ hi;have u:=ok.k1 hm.2.2;rw[e];refine⟨h.pt.setPage hi (Lb hm.2.2) ⟨ok.s,ok.n,ok.k,λq=>by simp only at q;omega,λ_=>by simp only;omega,λq=>by simp only at q;omega⟩ (Lb hm.2.2), ?_, ?_⟩
  .intro x hx;simp only;rw[Z4Z,Z0o hi];split
   .rename_i q;have:=h.tk _ (Z1u hf.1);simp only;omega
   .exact h.tk x hx
  .intro p hp;rcases Xi hp with hp | rfl
   .exact h.pin p hp
   .exact h.pin (w.heap.P.getD (Z0S w).toNat M) (getD_in hi)
 .by_cases hg:0<=Z0q w
  .have e:w.place n=(⟨⟨w.heap.C,w.heap.W,Z2a (Z2w w) (Z0q w).toNat n,w.heap.S,w.heap.B⟩,w.old,w.T++[Z0q w],w.Q,w.D,w.rep⟩,4096+Z0q w*w.heap.C.pw,O):=by rw[Work.place,if_neg hf,if_pos hg]
   obtain⟨g1,g2,g3⟩:=Z3P (h:=⟨w.heap.C,w.heap.W,w.heap.P,1-w.heap.S,w.heap.B⟩) (by simp only;omega) hg n;have g1':Z2a (Z2w w) (Z0q w).toNat n=w.heap.P.set (Z0q w).toNat ⟨1,1-w.heap.S,n,0⟩:=g1;have g2':(w.heap.P.getD (Z0q w).toNat M).K=0:=g2;have g3':(Z0q w).toNat<w.heap.P.length:=g3;rw[e,g1'];refine⟨h.pt.setPage g3' (La g2') ⟨by simp only;omega,by simp,by simp,by simp,λ_=>by simp only;omega,by simp⟩ (Lb rfl), ?_, ?_⟩
   .intro x hx;simp only at hx ⊢;rw[Z0o g3'];split
    .rfl
    .rename_i hne;rcases Lh.1 hx with hx | hx
     .exact h.tk x hx
     .simp at hx;subst hx;exact absurd rfl hne
   .intro p hp;rcases Xi hp with hp | rfl
    .exact h.pin p hp
    .exact hB
  .rw[Work.place,if_neg hf,if_neg hg]at hc;simp at hc
def Tab.fwd{B:Int}(hB:0<=B)(w:Work)(r:Int)(hw:WkOk w)(hi:CIv w)(h:Tab B w)(e:(w.fwd r).2.2=0):Tab B (w.fwd r).1:=by
 unfold Work.fwd at e ⊢;split at e
 .rename_i c1;rw[if_pos c1];exact h
 .rename_i c1;rw[if_neg c1];split at e
  .simp at e
  .rename_i c2;rw[if_neg c2];have c2':r∈w.old:=Lv.1 c2;split at e
   .rename_i c3;rw[if_pos c3];exact h
   .rename_i c3;rw[if_neg c3];split at e
    .simp at e
    .rename_i c4;rw[if_neg c4];split at e
     .rename_i c5;rw[if_pos c5];exact⟨h.pt,h.tk,h.pin⟩
     .rename_i c5;rw[if_neg c5];split at e
      .rename_i c6;rw[if_pos c6];have hsp:=hw.sp;have o:=Z3F hw.C (Lv.1 c4);have hpl:=hw.pl;have hl:Z2k w r<w.heap.P.length:=by unfold Z2k;omega
       refine⟨h.pt.flip hl c6 oq, ?_, ?_⟩
       .intro x hx;have t:=hw.tk x hx;simp only[Work.keep,Work.flip];rw[Z1x oq];split
        .rename_i hc;exfalso;by_cases hx':x.toNat=Z2k w r
         .rw[hx']at t;omega
         .have:=(Z8u (l:=w.heap.P) (i:=Z2k w r) (m:=x.toNat-Z2k w r-1) oq).2;rw[show Z2k w r+1+(x.toNat-Z2k w r-1)=x.toNat by omega]at this;omega
        .exact h.tk x hx
       .intro p hp;simp only[Work.keep,Work.flip,Z0F,LI,Lo]at hp;obtain⟨j,hj,rfl⟩:=hp;split
        .exact h.pin (w.heap.P.getD j M) (getD_in hj)
        .exact h.pin (w.heap.P.getD j M) (getD_in hj)
      .rename_i c6;rw[if_neg c6];split at e
       .simp at e
       .rename_i c7;rw[if_neg c7];have c7':(w.place (sizeH (hdW w r))).2.2=O:=by simpa using c7
        have hz:=hi.z r c2';have hs:=Z65 w r;have hp:sizeH (hdW w r)<=w.heap.C.pw:=by
         rw[Z3n];rcases hz with hz | hz
         .exact absurd hz c6
         .exact hz
        obtain⟨q1,q2,q3⟩:=h.place hB hw ⟨hs.1,hp⟩ c7';exact⟨q1,q2,q3⟩
def Z6g{B:Int}{h:Heap}(hp:Z03 h=O)(hb:∀ p∈h.P,p.N<=B):Tab B (beginW h):=by
 have hp':=hp;rw[Z1y]at hp';have hs:=hp'.2.2.2.1;refine⟨?_,by simp[beginW], ?_⟩
 .refine hp'.2.2.2.2.2.mapPages _ ?_ ?_ ?_ ?_
  .intro p hp;unfold begQ;split
   .rename_i hc;exact⟨by simp only;omega,hp.n,hp.k,λq=>by simp only at q;omega,hp.k1,λq=>by simp only at q;omega⟩
   .exact hp
  .intro p hp hk;unfold begQ at hk ⊢;split at hk
   .rename_i hc;simp only at hk;omega
   .rename_i hc;rw[if_neg hc];exact⟨hk,rfl⟩
  .intro p hp hk;unfold begQ at hk;split at hk
   .rename_i hc;simp only at hk;omega
   .exact hk
  .intro p q hp hq h2 h3 he;have e1:begQ (1-h.S) p=p:=by rw[begQ,if_neg oq]
   have e2:begQ (1-h.S) q=q:=by rw[begQ,if_neg oq]
   rw[e1,e2];exact⟨⟨λ_=>h3,λ_=>h2⟩,λ_=>he⟩
 .intro p hp;simp only[beginW,LI]at hp;obtain⟨q,hq,rfl⟩:=hp;unfold begQ;split
  .exact hb q hq
  .exact hb q hq
def ZmV{B:Int}(hB:0<=B){h:Heap}{s:List Int}(hw:WOk h.W)(hp:Z03 h=O)(hb:∀ p∈h.P,p.N<=B)(e:(rootsF (beginW h) s).2.2=0)(e2:(allF (rootsF (beginW h) s).1).2=0):Tab B (cW2 h s) :=
 Zn1 (Tab B) (λw r hw hi h e=>h.fwd hB w r hw hi e) (λw q j hw hi h hq h0 h1 e=>(Tab.fwd hB w _ hw hi h e).withWords _) (λw n h=>⟨h.pt,h.tk,h.pin⟩) hw hp (Z6g hp hb) e e2
structure MOk (w:WorldM) (n:Nat):Prop where
 W:WOk w.heap.W
 hv:Z06 w.heap.C=O
 pl:(w.heap.P.length:Int)=w.heap.C.pg
 L:(w.heap.W.length:Int)=w.heap.C.pw*w.heap.C.pg
 N:∀ j,j<w.heap.P.length->0<=(w.heap.P.getD j M).N/\(w.heap.P.getD j M).N<=n
 us:∀ j,j<w.heap.P.length->0<=(w.heap.P.getD j M).U/\(w.heap.P.getD j M).U<=256
 G:ULe w.G
 E:ULe w.E
 sl:w.G.length<=n
 wl:w.E.length<=n
def MOk.wm{w:WorldM}{n:Nat}(h:MOk w n)(hn:n<=1000000):WMok w:=⟨h.W,h.G,h.E,Xn h.sl oq,Xn h.wl oq⟩
def WorldM.dup(w:WorldM)(t:Tape):WorldM:=⟨w.heap,w.G++[w.pick t],w.E⟩
def WorldM.step(w:WorldM)(t:Tape):WorldM :=
 if t.next 12<=3 then w.put ((t.step 12).header w.heap.C)
 else if t.next 12<=6 then w.link (t.step 12)
 else if t.next 12<=7 then w.pin (t.step 12)
 else if t.next 12<=9 then w.drop (t.step 12)
 else if t.next 12<=10 then w.collect
 else w.dup (t.step 12)
def WorldM.stepT(w:WorldM)(t:Tape):Tape :=
 if t.next 12<=3 then(t.step 12).headerT w.heap.C
 else if t.next 12<=6 then w.linkT (t.step 12)
 else if t.next 12<=7 then w.pinT (t.step 12)
 else if t.next 12<=9 then w.dropT (t.step 12)
 else if t.next 12<=10 then t.step 12
 else w.pickT (t.step 12)
def Z6J(t:Tape)(c:Conf):0<=(t.header c).map/\(t.header c).map<=4294967295:=by
 have h:∀ n:Int,0<=((Z35 t c).step 4).next (2^(min (min n 32) 12).toNat)/\((Z35 t c).step 4).next (2^(min (min n 32) 12).toNat)<=4294967295:=by
  intro n;have p:=Zmd (n:=min (min n 32) 12) oq;have r:=Z0T ((Z35 t c).step 4) (n:=2^(min (min n 32) 12).toNat) p.1;omega
 unfold Tape.header;split
 .simp
 .split
  .simp
  .exact h _
def Z1W(t:Tape)(d:Int)(hd:t.next 12=d)(ht:TOk t):LP 22 [.pt 0 0 0,int 12] [t.b] (int d) [(t.step 12).b]:=by
 rw[<- hd];exact Z0w t 12 ht dd dd
section
variable (w:WorldM) (t:Tape) (n:Nat) (hm:MOk w n) (hn:n<=1000000) (ht:TOk t) (ha:t.at'<=900000)
include hm hn ht ha
theorem Ziq:LP 54 [w.av,.pt 0 0 0] [t.b] (w.step t).av [(w.stepT t).b]:=by
 have hw:=hm.wm hn;have h1:=hm.W;have h2:=hm.G;have h3:=hm.E;have h4:=hm.sl;have h5:=hm.wl;have s1:=Z3M (t:=t) 12;have k1:=Z4D ht s1.2.2 oq oq;have n1:=Z0T t (n:=12) dd;have hmap:=Z6J (t.step 12) w.heap.C;have hv:=hm.hv;have hpl:=hm.pl;have hpn:∀ j,j<w.heap.P.length->-1048576<=(w.heap.P.getD j M).N/\(w.heap.P.getD j M).N<=4294967296:=λj hj=>by
  have:=hm.N j hj;omega
 have hd:t.next 12=0\/t.next 12=1\/t.next 12=2\/t.next 12=3\/t.next 12=4\/t.next 12=5\/t.next 12=6\/t.next 12=7\/t.next 12=8\/t.next 12=9\/t.next 12=10\/t.next 12=11:=by omega
 rcases hd with hd | hd | hd | hd | hd | hd | hd | hd | hd | hd | hd | hd
 .have e7:w.step t=w.put ((t.step 12).header w.heap.C):=by simp[WorldM.step,hd]
  have e8:w.stepT t=(t.step 12).headerT w.heap.C:=by simp[WorldM.stepT,hd]
  rw[e7,e8];exact lF func54 [] (Fp 6 (@Z1W t (0) aa aa) (Fp 17 (@Z5a (t.step 12) w.heap.C aa oq aa) (Fc 18 (@Z6a w ((t.step 12).header w.heap.C) aa aa) Fz)))
 .have e7:w.step t=w.put ((t.step 12).header w.heap.C):=by simp[WorldM.step,hd]
  have e8:w.stepT t=(t.step 12).headerT w.heap.C:=by simp[WorldM.stepT,hd]
  rw[e7,e8];exact lF func54 [] (Fp 6 (@Z1W t (1) aa aa) (Fp 17 (@Z5a (t.step 12) w.heap.C aa oq aa) (Fc 18 (@Z6a w ((t.step 12).header w.heap.C) aa aa) Fz)))
 .have e7:w.step t=w.put ((t.step 12).header w.heap.C):=by simp[WorldM.step,hd]
  have e8:w.stepT t=(t.step 12).headerT w.heap.C:=by simp[WorldM.stepT,hd]
  rw[e7,e8];exact lF func54 [] (Fp 6 (@Z1W t (2) aa aa) (Fp 17 (@Z5a (t.step 12) w.heap.C aa oq aa) (Fc 18 (@Z6a w ((t.step 12).header w.heap.C) aa aa) Fz)))
 .have e7:w.step t=w.put ((t.step 12).header w.heap.C):=by simp[WorldM.step,hd]
  have e8:w.stepT t=(t.step 12).headerT w.heap.C:=by simp[WorldM.stepT,hd]
  rw[e7,e8];exact lF func54 [] (Fp 6 (@Z1W t (3) aa aa) (Fp 17 (@Z5a (t.step 12) w.heap.C aa oq aa) (Fc 18 (@Z6a w ((t.step 12).header w.heap.C) aa aa) Fz)))
 .have e7:w.step t=w.link (t.step 12):=by simp[WorldM.step,hd]
  have e8:w.stepT t=w.linkT (t.step 12):=by simp[WorldM.stepT,hd]
  rw[e7,e8];exact lF func54 [] (Fp 6 (@Z1W t (4) aa aa) (Fp 25 (@Z87 w (t.step 12) aa aa oq) Fz))
 .have e7:w.step t=w.link (t.step 12):=by simp[WorldM.step,hd]
  have e8:w.stepT t=w.linkT (t.step 12):=by simp[WorldM.stepT,hd]
  rw[e7,e8];exact lF func54 [] (Fp 6 (@Z1W t (5) aa aa) (Fp 25 (@Z87 w (t.step 12) aa aa oq) Fz))
 .have e7:w.step t=w.link (t.step 12):=by simp[WorldM.step,hd]
  have e8:w.stepT t=w.linkT (t.step 12):=by simp[WorldM.stepT,hd]
  rw[e7,e8];exact lF func54 [] (Fp 6 (@Z1W t (6) aa aa) (Fp 25 (@Z87 w (t.step 12) aa aa oq) Fz))
 .have e7:w.step t=w.pin (t.step 12):=by simp[WorldM.step,hd]
  have e8:w.stepT t=w.pinT (t.step 12):=by simp[WorldM.stepT,hd]
  rw[e7,e8];exact lF func54 [] (Fp 6 (@Z1W t (7) aa aa) (Fp 30 (@Zjs w (t.step 12) aa aa oq aa oq aa) Fz))
 .have e7:w.step t=w.drop (t.step 12):=by simp[WorldM.step,hd]
  have e8:w.stepT t=w.dropT (t.step 12):=by simp[WorldM.stepT,hd]
  rw[e7,e8];exact lF func54 [] (Fp 6 (@Z1W t (8) aa aa) (Fp 36 (@Zcg w (t.step 12) aa aa oq) Fz))
 .have e7:w.step t=w.drop (t.step 12):=by simp[WorldM.step,hd]
  have e8:w.stepT t=w.dropT (t.step 12):=by simp[WorldM.stepT,hd]
  rw[e7,e8];exact lF func54 [] (Fp 6 (@Z1W t (9) aa aa) (Fp 36 (@Zcg w (t.step 12) aa aa oq) Fz))
 .have e7:w.step t=w.collect:=by simp[WorldM.step,hd]
  have e8:w.stepT t=t.step 12:=by simp[WorldM.stepT,hd]
  rw[e7,e8];exact lF func54 [] (Fp 6 (@Z1W t (10) aa aa) (Fc 40 (@Zd4 w aa oq oq aa aa) Fz))
 .have e7:w.step t=w.dup (t.step 12):=by simp[WorldM.step,hd]
  have e8:w.stepT t=w.pickT (t.step 12):=by simp[WorldM.stepT,hd]
  rw[e7,e8];exact lF func54 [] (Fh 49 [.els (Lc wdv (w.G++[w.pick (t.step 12)]))] (Fp 6 (@Z1W t (11) aa aa) (FAx 41 44 wdv w.G (by(simp[WorldM.dup, *];omega)) (Fp 47 (@Z1Y w (t.step 12) aa aa oq) (Fs 48 (Lc wdv [w.pick (t.step 12)]) (Fa (by(simp[WorldM.dup, *];omega):(Lc wdv w.G).length+(Lc wdv [w.pick (t.step 12)]).length<=2^30) (Fa (by simp[WorldM.dup,Xg,Xe,Xf,Xd,wdv,idv]:Lc wdv w.G++Lc wdv [w.pick (t.step 12)]=Lc wdv (w.G++[w.pick (t.step 12)])) Fz)))))))
end
def Z9z{pw s:Int}{l:List Page}{ws:List Int}(h:WOk ws):∀ i,WOk (Z26 pw s l ws i)
 | 0=>h
 | i+1=>by
  have ih:=Z9z (pw:=pw) (s:=s) (l:=l) h i;unfold Z26;split
  .intro x hx;simp only[spl,Lh,Xj]at hx;rcases hx with(hx | hx) | hx
   .exact ih x (L1 hx)
   .omega
   .exact ih x (L0 hx)
  .exact ih
def ZlY{c:Conf}{l:List Page}(h:PT c l)(s:Int):PT c (l.map (Z1o s)):=by
 refine h.mapPages _ ?_ ?_ ?_ ?_
 .intro p hp;unfold Z1o;split
  .exact⟨by simp,by simp,by simp,by simp,by simp,by simp⟩
  .exact hp
 .intro p hp hk;unfold Z1o at hk ⊢;split at hk
  .simp at hk
  .rename_i hc;rw[if_neg hc];exact⟨hk,rfl⟩
 .intro p hp hk;unfold Z1o at hk;split at hk
  .simp at hk
  .exact hk
 .intro p q hp hq h2 h3 he;by_cases hg:p.S=s
  .have e1:Z1o s p=⟨0,0,0,0⟩:=by rw[Z1o,if_pos ⟨by omega,hg⟩]
   have e2:Z1o s q=⟨0,0,0,0⟩:=by rw[Z1o,if_pos ⟨by omega,by omega⟩]
   rw[e1,e2];simp
  .have e1:Z1o s p=p:=by rw[Z1o,if_neg (by unfold Z39;omega)]
   have e2:Z1o s q=q:=by rw[Z1o,if_neg (by unfold Z39;omega)]
   rw[e1,e2];exact⟨⟨λ_=>h3,λ_=>h2⟩,λ_=>he⟩
def Z8E{w:Work}(hw:WkOk w)(k:List Int):∀ i,∀ x∈Z4d w k i,0<=x/\x<=4294967296
 | 0,x,hx=>by simp[Z4d]at hx
 | i+1,x,hx=>by
  simp only[Z4d,Lh,Li]at hx;rcases hx with hx | rfl
  .exact Z8E hw k i x hx
  .have h:=Z53 w k i;unfold Z76;split
   .omega
   .unfold Z1v;rw[h.2.2.2.1,h.1];split
    .rename_i hq;have:=hw.q _ hq;omega
    .have:=Z6u (Z0E hw.W (k.getD i M)).1;omega
structure ColOk (B:Int) (h:Heap) (s k:List Int):Prop where
 p0:Z03 h=O
 p1:Z03 (Z0d h s k).1=O
 w:WOk (Z0d h s k).1.W
 n:∀ p∈(Z0d h s k).1.P,p.N<=B
 c:(Z0d h s k).1.C=h.C
 r:∀ x∈(Z0d h s k).2.1,0<=x/\x<=4294967296
 rl:(Z0d h s k).2.1.length=s.length
 v:∀ x∈(Z0d h s k).2.2.1,0<=x/\x<=4294967296
 vl:(Z0d h s k).2.2.1.length=k.length
def Z9Z{B:Int}(hB:0<=B){h:Heap}{s k:List Int}(hw:WOk h.W)(hb:∀ p∈h.P,p.N<=B)(e:(Z0d h s k).2.2.2.2=0):ColOk B h s k:=by
 by_cases hp:Z03 h=O
 .by_cases hr:Z0i h s=O/\Z0i h k=O
  .by_cases e1:(rootsF (beginW h) s).2.2=0
   .by_cases e2:(allF (rootsF (beginW h) s).1).2=0
    .have e7:Z0d h s k=(endH (cW5 h s k),(rootsF (beginW h) s).2.1,Z4d (cW2 h s) k k.length,(cW5 h s k).rep,0):=by rw[Z0d,if_pos hp,if_pos hr,if_pos e1,if_pos e2]
     have ho:=Z3i (roots:=s) (Z3z hw hp) (Z3m hp) e1;have c:=cOk h s k hw hp e1 e2;have c5:=cOk5 h s k hw hp e1 e2;have tb:=ZmV hB hw hp hb e1 e2;obtain⟨g1,g2,g3,g4,g5⟩:=c.h4;have hsp:=c.w2.sp;have hc2:(cW2 h s).heap.C=h.C:=c.x2.c;have hpl:=c.w2.pl;rw[hc2]at hpl;have hL:=c.i4.L;rw[g1]at hL;have hfl:=Z55 (s:=(cW4 h s k).heap.S) c5.2.2.2.1 (cW4 h s k).heap.P.length (Lj _);refine⟨hp, ?_, ?_, ?_, ?_, ?_, ?_, ?_, ?_⟩
     .rw[e7,Z1y];simp only[endH,cW5,Z1f,g1,g2,g3,g4];have hptf:=ZlY (s:=(cW2 h s).heap.S) tb.pt;rw[hc2]at hptf;refine⟨(Z07 hp).1, ?_,by simp only[Lt];exact hpl,by omega, ?_,hptf⟩
      .rw[g1,g2,g3]at hfl;rw[hfl];exact hL
      .split
       .rename_i ht;have hm:=Z1u (w:=cW2 h s) ht;have t1:=c.w2.tk _ hm;have t2:=tb.tk _ hm;refine Lb ⟨t1.1,by simp only[Lt];exact t1.2.1, ?_⟩;have hx:(Lc (Z1o (cW2 h s).heap.S) (cW2 h s).heap.P).getD (Z0S (cW2 h s)).toNat M=(cW2 h s).heap.P.getD (Z0S (cW2 h s)).toNat M:=by
         have hi:(Z0S (cW2 h s)).toNat<(cW2 h s).heap.P.length:=by omega
         have:(Lc (Z1o (cW2 h s).heap.S) (cW2 h s).heap.P).getD (Z0S (cW2 h s)).toNat M=Z1o (cW2 h s).heap.S ((cW2 h s).heap.P.getD (Z0S (cW2 h s)).toNat M):=by simp[Ld,hi]
         rw[this,Z1o,if_neg (by unfold Z39;omega)]
        show((Lc (Z1o (cW2 h s).heap.S) (cW2 h s).heap.P).getD (Z0S (cW2 h s)).toNat M).K=1;rw[hx];exact t1.2.2
       .exact La rfl
     .rw[e7];exact Z9z c.f4.W _
     .rw[e7];intro p hp';simp only[endH,cW5,Z1f,g2,LI]at hp';obtain⟨q,hq,rfl⟩:=hp';unfold Z1o;split
      .exact hB
      .exact tb.pin q hq
     .rw[e7];exact g1
     .rw[e7];exact ho.2.2.2.1
     .rw[e7];exact ho.2.2.2.2
     .rw[e7];exact Z8E c.w2 k _
     .rw[e7];exact Z8K _ _ _
    .rw[Z0d,if_pos hp,if_pos hr,if_pos e1,if_neg e2]at e;exact absurd e e2
   .rw[Z0d,if_pos hp,if_pos hr,if_neg e1]at e;exact absurd e e1
  .rw[Z0d,if_pos hp,if_neg hr]at e;simp at e
 .rw[Z0d,if_neg hp]at e;simp at e
def Ze3{h:Heap}(hp:Z03 h=O):∀ p∈h.P,0<=p.N:=by
 rw[Z1y]at hp;intro p hp';obtain⟨i,hi,e⟩:=Xh.1 hp';have:=(hp.2.2.2.2.2.b i hi).n.1;rwa [show h.P.getD i M=p by rw[Ld,LG hi,e];rfl]at this
def MOk.of_proper{w:WorldM}{n:Nat}(hp:Z03 w.heap=O)(hw:WOk w.heap.W)(hn:∀ p∈w.heap.P,p.N<=n)(h1:ULe w.G)(h2:ULe w.E)(h3:w.G.length<=n)(h4:w.E.length<=n):MOk w n:=by
 have po:=Z07 hp;exact⟨hw,po.1,po.2.2.2.2.2.2.2.1,po.2.2.2.2.2.1,λj hj=>⟨Ze3 hp _ (getD_in hj),hn _ (getD_in hj)⟩,λj hj=>by have:=Z0K hp hj;omega,h1,h2,h3,h4⟩
def MOk.pin_mem{w:WorldM}{n:Nat}(h:MOk w n):∀ p∈w.heap.P,0<=p.N/\p.N<=n:=by
 intro p hp;obtain⟨i,hi,e⟩:=Xh.1 hp;have:=h.N i hi;rwa [show w.heap.P.getD i M=p by rw[Ld,LG hi,e];rfl]at this
def MOk.mono{w:WorldM}{n:Nat}(h:MOk w n):MOk w (n+1) :=
 ⟨h.W,h.hv,h.pl,h.L,λj hj=>by have:=h.N j hj;omega,h.us,h.G,h.E,by have:=h.sl;omega,by have:=h.wl;omega⟩
def Zdg{l:List Int}(h:ULe l){x:Int}(hx:0<=x/\x<=18446744073709551615):ULe (l++[x]):=by
 intro y hy;simp only[Lh,Li]at hy;rcases hy with hy | rfl
 .exact h y hy
 .exact hx
def MOk.put{w:WorldM}{n:Nat}(h:MOk w n){hd:Header}(hm:0<=hd.map/\hd.map<=4294967295):MOk (w.put hd) (n+1):=by
 unfold WorldM.put;split
 .rename_i e;obtain⟨k1,k2,k3,k4,k5,k6,k7,k8⟩:=ZhG h.W hm e;have po:=Z07 k1;have hl:=h.sl;have hl2:=h.wl;have z:=(Z7t k2).2.1;have a1:=k3.lo;have a2:=k3.hi;refine MOk.of_proper k7 k8 ?_ (Zdg h.G (by rw[k5];omega)) h.E qo (by simp only;omega);intro p hp;simp only at hp;rw[k6]at hp;simp only at hp;rcases k3.pin p hp with q | ⟨q,q1,q2⟩
  .omega
  .have:=h.pin_mem q q1;omega
 .exact h.mono
def MOk.link{w:WorldM}{n:Nat}(h:MOk w n)(hn:n<=1000000)(t:Tape):MOk (w.link t) (n+1):=by
 unfold WorldM.link;split
 .rename_i hc;have g:=Z3I hc.1;have hw:=h.wm hn;have hlen:1<=(getH w.heap (w.pick t)).1.length:=by omega
  have n1:=Z0T (w.pickT (w.pickT t)) (n:=8) dd;have hi:0<=Z5M w t/\Z5M w t<(getH w.heap (w.pick t)).1.length:=by
   unfold Z5M;rw[L8 n1.1];exact⟨LM _ oq,LC _ oq⟩
  have hv:0<=Z6l w t/\Z6l w t<=18446744073709551615:=by
   unfold Z6l;split
   .exact Z3g hw _
   .have:=Z0T ((w.pickT (w.pickT t)).step 8) (n:=1048576) dd;omega
  obtain⟨s1,s2,s3⟩:=Z92 h.W hv hc.1 hi;have hl:=h.sl;have hl2:=h.wl;refine MOk.of_proper s2 s3 ?_ h.G h.E (by simp only;omega) (by simp only;omega);intro p hp;simp only at hp;rw[s1]at hp;have:=h.pin_mem p hp;omega
 .exact h.mono
def Zi6{w:WorldM}{n:Nat}(h:MOk w n){i:Nat}(hi:i<w.heap.P.length){d:Int}(hd:d=1\/(d=-1/\0<(w.heap.P.getD i M).N)):MOk (pinB w i d) (n+1):=by
 have hp:=h.N i hi;refine⟨h.W,h.hv, ?_,h.L, ?_, ?_,h.G,h.E,by have:=h.sl;simp only[pinB];omega,by have:=h.wl;simp only[pinB];omega⟩
 .simp only[pinB,Ll];exact h.pl
 .intro j hj;simp only[pinB,Ll]at hj ⊢;rw[Z0o hi];split
  .simp only;omega
  .have:=h.N j hj;omega
 .intro j hj;simp only[pinB,Ll]at hj ⊢;rw[Z0o hi];split
  .exact h.us i hi
  .exact h.us j hj
def MOk.pin{w:WorldM}{n:Nat}(h:MOk w n)(t:Tape):MOk (w.pin t) (n+1):=by
 unfold WorldM.pin;split
 .rename_i e;have o:=Z3F h.hv e;have hpl:=h.pl;have hi:pinI w t<w.heap.P.length:=by unfold pinI;omega
  split
  .rename_i hc;exact Zi6 h hi (Lb ⟨rfl,hc.1⟩)
  .split
   .exact Zi6 h hi (La rfl)
   .exact h.mono
 .exact h.mono
def MOk.drop{w:WorldM}{n:Nat}(h:MOk w n)(t:Tape):MOk (w.drop t) (n+1):=by
 unfold WorldM.drop;split
 .have hl:=h.sl;have hl2:=h.wl;refine⟨h.W,h.hv,h.pl,h.L,λj hj=>by have:=h.N j hj;simp only;omega,h.us, ?_, ?_, ?_, ?_⟩
  .intro x hx;rcases Lh.1 hx with hx | hx
   .exact h.G x (L1 hx)
   .exact h.G x (L0 hx)
  .simp only;split
   .exact Zdg h.E (Z58 h.G _)
   .exact h.E
  .simp only[LV,LY,LW];omega
  .simp only;split
   .simp;omega
   .omega
 .exact h.mono
def MOk.collect{w:WorldM}{n:Nat}(h:MOk w n):MOk w.collect (n+1):=by
 unfold WorldM.collect;split
 .rename_i e;have c:=Z9Z (B:=n) oq h.W (λp hp=>(h.pin_mem p hp).2) e;have hl:=h.sl;have hl2:=h.wl;refine MOk.of_proper c.p1 c.w (λp hp=>by have:=c.n p hp;omega) (λx hx=>by have:=c.r x hx;omega) (λx hx=>by have:=c.v x hx;omega) (by simp only[c.rl];omega) (by simp only[c.vl];omega)
 .exact h.mono
def MOk.step{w:WorldM}{n:Nat}(h:MOk w n)(hn:n<=1000000)(t:Tape):MOk (w.step t) (n+1):=by
 unfold WorldM.step;repeat' split
 .exact h.put (Z6J _ _)
 .exact h.link hn _
 .exact h.pin _
 .exact h.drop _
 .exact h.collect
 .have hl:=h.sl;have hl2:=h.wl;exact⟨h.W,h.hv,h.pl,h.L,λj hj=>by have:=h.N j hj;simp only[WorldM.dup]at *;omega,h.us,Zdg h.G (Z3g (h.wm hn) _),h.E,by simp only[WorldM.dup,LV,Xc];omega,by simp only[WorldM.dup];omega⟩
def pgOf(w:Work)(x:Int):Page:=w.heap.P.getD (ofA w.heap.C x).1.toNat M
structure Rt (w:Work):Prop where
 q:∀ x∈w.Q,((pgOf w x).K=1\/(pgOf w x).K=2)/\(pgOf w x).S=1-w.heap.S
 t:∀ x∈w.old,(Z0m (loadA w.heap.W x).1).2=O->(Z0m (loadA w.heap.W x).1).1∈w.Q
def Z9B{a:Int}(h0:0<=a)(h1:a<4294967296):Z0m (4*a+2)=(a,O):=by
 have e:(4*a+2)/4=a:=by omega
 rw[Z0m,if_pos oq,e]
def Rt.copy{B:Int}{w:Work}(hw:WkOk w)(h:CIv w)(hT:Tab B w)(hR:Rt w){r n:Int}(hr:r∈w.old)(hq:r∉w.Q)(hn:n=hlA w.heap.W r+1)(hp:n<=w.heap.C.pw)(hc:(w.place n).2.2=O):Rt ((w.place n).1.copy r (w.place n).2.1 n):=by
 have hlr:=Z0e w.heap.W r;obtain⟨i,p,t,h1,h2,h3,h4,h5,h6,h7,h8,e⟩:=Z56 hw ⟨by omega,hp⟩ hc;have hsp:p.S=1-w.heap.S:=by
  by_cases hf:Z4u w n
  .have e7:w.place n=(⟨⟨w.heap.C,w.heap.W,Z2a w.heap.P (Z0S w).toNat n,w.heap.S,w.heap.B⟩,w.old,w.T,w.Q,w.D,w.rep⟩,4096+Z0S w*w.heap.C.pw+(w.heap.P.getD (Z0S w).toNat M).U,O):=by rw[Work.place,if_pos hf]
   unfold Z4u at hf;have hm:=hw.tk _ (Z1u hf.1);have ht:=hT.tk _ (Z1u hf.1);have hi:(Z0S w).toNat<w.heap.P.length:=by omega
   rw[e7]at e;simp only[Z4Z,Work.mk.injEq,Heap.mk.injEq]at e;have e2:=e.1.2.2.1;have g1:(w.heap.P.set i p).getD i M=p:=by rw[Z0o h1,if_pos rfl]
   rw[<- e2,Z0o hi]at g1;split at g1
   .rw[<- g1];exact ht
   .rename_i hne;have g2:(w.heap.P.set i p).getD (Z0S w).toNat M=w.heap.P.getD (Z0S w).toNat M:=by rw[Z0o h1,if_neg (λq=>hne q.symm)]
    rw[<- e2,Z0o hi,if_pos rfl]at g2;have:=congrArg Page.U g2;simp only at this;omega
  .by_cases hg:0<=Z0q w
   .have e7:w.place n=(⟨⟨w.heap.C,w.heap.W,Z2a (Z2w w) (Z0q w).toNat n,w.heap.S,w.heap.B⟩,w.old,w.T++[Z0q w],w.Q,w.D,w.rep⟩,4096+Z0q w*w.heap.C.pw,O):=by rw[Work.place,if_neg hf,if_pos hg]
    obtain⟨g1,g2,g3⟩:=Z3P (h:=⟨w.heap.C,w.heap.W,w.heap.P,1-w.heap.S,w.heap.B⟩) (by have:=hw.sp;simp only;omega) hg n;have g1':Z2a (Z2w w) (Z0q w).toNat n=w.heap.P.set (Z0q w).toNat ⟨1,1-w.heap.S,n,0⟩:=g1;have g2':(w.heap.P.getD (Z0q w).toNat M).K=0:=g2;have g3':(Z0q w).toNat<w.heap.P.length:=g3;rw[e7,g1']at e;simp only[Work.mk.injEq,Heap.mk.injEq]at e;have e2:=e.1.2.2.1;have k1:(w.heap.P.set i p).getD i M=p:=by rw[Z0o h1,if_pos rfl]
    rw[<- e2,Z0o g3']at k1;split at k1
    .rw[<- k1]
    .rename_i hne;have k2:(w.heap.P.set i p).getD (Z0q w).toNat M=w.heap.P.getD (Z0q w).toNat M:=by rw[Z0o h1,if_neg (λq=>hne q.symm)]
     rw[<- e2,Z0o g3',if_pos rfl]at k2;rw[<- k2]at g2';simp at g2'
   .rw[Work.place,if_neg hf,if_neg hg]at hc;simp at hc
 have hb:=validB_iff.1 hw.C;have hpl:=hw.pl;have hL:=h.L;have hio:(i:Int)*w.heap.C.pw+w.heap.C.pw<=w.heap.C.pw*w.heap.C.pg:=by
  have:=Z12 (i:=i) (j:=w.heap.C.pg) (pw:=w.heap.C.pw) oq oq;rw[Lz w.heap.C.pw];exact this
 have hi0:0<=(i:Int)*w.heap.C.pw:=LF oq oq;have har:=area hw.C;rw[e,h8];generalize hu:occP (w.heap.P.getD i M)=u at *;have hof:(ofA w.heap.C (4096+(i:Int)*w.heap.C.pw+u)).1.toNat=i:=by
  have:=Zft (c:=w.heap.C) (i:=i) (o:=u) hw.C oq oq;rw[show 4096+(i:Int)*w.heap.C.pw+u=4096+((i:Int)*w.heap.C.pw+u) by omega,this];simp
 generalize ha:4096+(i:Int)*w.heap.C.pw+u=at' at *;have hrr:=h.r r (Lf _ hr);have hf:=h.f i h1 (by rcases h2 with h2 | h2;exact La h2;exact Lb h2.1);rw[hu]at hf;obtain⟨m1,m2,m3⟩:=Z7P (ws:=w.heap.W) (a:=at') (b:=r) (n:=n) oq oq oq;have hsr:4096<=r/\r<4096+(moveA w.heap.W at' r n).1.length:=by omega
 refine⟨?_, ?_⟩
 .intro x hx;simp only[Work.copy,Lh,Li]at hx;simp only[pgOf,Work.copy];rw[Z0o h1];split
  .exact⟨La h3,hsp⟩
  .rename_i hne;rcases hx with hx | rfl
   .exact hR.q x hx
   .exact absurd hof.symm hne
 .intro x hx ht;simp only[Work.copy]at hx ht ⊢;by_cases hxr:x=r
  .subst hxr;rw[Z2y hsr]at ht ⊢;simp only;rw[Z9B oq oq];simp
  .have hfx:=hf x (Lf _ hx);have hlx:=Z0e w.heap.W x;have el:loadA (Z0D (moveA w.heap.W at' r n).1 r (4*at'+2)).1 x=loadA w.heap.W x:=by rw[Z0z hsr hxr,m3 x oq]
   rw[el]at ht ⊢;exact Lf _ (hR.t x hx ht)
structure PR (B:Int) (w:Work):Prop where
 tab:Tab B w
 rt:Rt w
def ToOk(w:Work)(x:Int):Prop:=x=0\/x∈w.Q
def Zli{B:Int}(w:Work)(r:Int)(hp:PR B w)(e:(w.fwd r).2.2=0):ToOk (w.fwd r).1 (w.fwd r).2.1:=by
 unfold Work.fwd at e ⊢;split at e
 .rename_i c1;rw[if_pos c1];exact c1
 .rename_i c1;rw[if_neg c1];split at e
  .simp at e
  .rename_i c2;rw[if_neg c2];have c2':r∈w.old:=Lv.1 c2;split at e
   .rename_i c3;rw[if_pos c3];exact Lb (hp.rt.t r c2' c3)
   .rename_i c3;rw[if_neg c3];split at e
    .simp at e
    .rename_i c4;rw[if_neg c4];split at e
     .rename_i c5;rw[if_pos c5];exact Lb (Ln _ pq)
     .rename_i c5;rw[if_neg c5];split at e
      .rename_i c6;rw[if_pos c6];exact Lb (Ln _ pq)
      .rename_i c6;rw[if_neg c6];split at e
       .simp at e
       .rename_i c7;rw[if_neg c7];exact Lb (Ln _ pq)
def PR.fwd{B:Int}(hB:0<=B)(w:Work)(r:Int)(hw:WkOk w)(hi:CIv w)(h:PR B w)(e:(w.fwd r).2.2=0):PR B (w.fwd r).1:=by
 refine⟨h.tab.fwd hB w r hw hi e, ?_⟩;have hR:=h.rt;have hsp:=hw.sp;unfold Work.fwd at e ⊢;split at e
 .rename_i c1;rw[if_pos c1];exact hR
 .rename_i c1;rw[if_neg c1];have c1':r∉w.Q:=λh=>c1 (Lb h);split at e
  .simp at e
  .rename_i c2;rw[if_neg c2];have c2':r∈w.old:=Lv.1 c2;split at e
   .rename_i c3;rw[if_pos c3];exact hR
   .rename_i c3;rw[if_neg c3];split at e
    .simp at e
    .rename_i c4;rw[if_neg c4];have o:=Z3F hw.C (Lv.1 c4);have hpl:=hw.pl;split at e
     .rename_i c5;rw[if_pos c5];simp only[Z1d,decide_eq_true_eq]at c5;have ok:=h.tab.pt.b (ofA w.heap.C r).1.toNat oq
      have oks:=ok.s;refine⟨?_,λx hx ht=>Lf _ (hR.t x hx ht)⟩;intro x hx;simp only[Work.keep,Lh,Li]at hx;rcases hx with hx | rfl
      .exact hR.q x hx
      .refine⟨La c5.2.2.1, ?_⟩;simp only[pgOf,Work.keep];omega
     .rename_i c5;rw[if_neg c5];split at e
      .rename_i c6;rw[if_pos c6];refine⟨?_,λx hx ht=>Lf _ (hR.t x hx ht)⟩;have hlr:(ofA w.heap.C r).1.toNat<w.heap.P.length:=by omega
       intro x hx;simp only[Work.keep,Lh,Li]at hx;have hxl:(ofA w.heap.C x).1.toNat<w.heap.P.length:=by
        rcases hx with hx | rfl
        .by_cases q:(ofA w.heap.C x).1.toNat<w.heap.P.length
         .exact q
         .have:=(hR.q x hx).1;rw[pgOf,Ld,Lr oq]at this;simp only[L2]at this;have d:(M:Page).K=0:=rfl;omega
        .exact hlr
       simp only[pgOf,Work.keep,Work.flip];rw[Z1x hxl];split
       .refine⟨?_,rfl⟩;rcases hx with hx | rfl
        .exact(hR.q x hx).1
        .exact Lb c6
       .rename_i hne;rcases hx with hx | rfl
        .exact hR.q x hx
        .exact absurd ⟨Lj _,Xm _ _⟩ hne
      .rename_i c6;rw[if_neg c6];split at e
       .simp at e
       .rename_i c7;rw[if_neg c7];have c7':(w.place (sizeH (hdW w r))).2.2=O:=by simpa using c7
        have hz:=hi.z r c2';have hp:sizeH (hdW w r)<=w.heap.C.pw:=by
         rw[Z3n];rcases hz with hz | hz
         .exact absurd hz c6
         .exact hz
        exact hR.copy hw hi h.tab c2' c1' (Z3n w r) hp c7'
def PR.in1{B:Int}(hB:0<=B)(w:Work)(q j:Int)(hw:WkOk w)(hi:CIv w)(h:PR B w)(hq:q∈w.Q)(h0:0<=j)(h1:j<hlA w.heap.W q)(e:(w.fwd (loadA w.heap.W (q+1+j)).1).2.2=0):PR B (w.in1 (q+1+j)):=by
 have hf:=PR.fwd hB w _ hw hi h e;obtain⟨i1,x1⟩:=Z6I hw hi _ e;have hq1:=x1.q q hq;have hl1:=x1.l q hq;have hr:=i1.r q (Ln _ hq1);have hs:=i1.s q (Ln _ hq1);have hin:4096<=q+1+j/\q+1+j<4096+(w.fwd (loadA w.heap.W (q+1+j)).1).1.heap.W.length:=by omega
 refine⟨hf.tab.withWords _,hf.rt.q,λx hx ht=>?_⟩;have el:loadA (Z0D (w.fwd (loadA w.heap.W (q+1+j)).1).1.heap.W (q+1+j) (w.fwd (loadA w.heap.W (q+1+j)).1).2.1).1 x=loadA (w.fwd (loadA w.heap.W (q+1+j)).1).1.heap.W x:=by
  refine Z0z hin λhc=>?_;have:=hs x (Lf _ hx) oq;omega
 simp only[Work.in1]at hx ht ⊢;rw[el]at ht ⊢;exact hf.rt.t x hx ht
def ZaZ{h:Heap}(hp:Z03 h=O):Rt (beginW h):=by
 refine⟨by simp[beginW],λx hx ht=>?_⟩;exfalso;simp only[beginW]at hx ht;obtain⟨j,j1,o⟩:=(Z81 hp).1 x hx;have e:=o.at';have k:=ZeA e;unfold atH at e;rw[if_pos k.1,if_pos k.2.1]at e;split at e
 .rename_i g;have hd:=g.2.2;unfold decodeH at hd;split at hd
  .rename_i c;have c1:=c.1;have c2:=c.2;unfold Z0a at c1 c2;split at c2
   .unfold Z0m at ht;split at ht
    .simp only at c2;omega
    .simp at ht
   .rename_i hv;rw[if_neg hv]at c1;simp at c1
  .simp at hd
 .simp at e
def ZnB{B:Int}(hB:0<=B){h:Heap}{s:List Int}(hw:WOk h.W)(hp:Z03 h=O)(hb:∀ p∈h.P,p.N<=B)(e:(rootsF (beginW h) s).2.2=0)(e2:(allF (rootsF (beginW h) s).1).2=0):PR B (cW2 h s) :=
 Zn1 (PR B) (λw r hw hi h e=>PR.fwd hB w r hw hi h e) (λw q j hw hi h hq h0 h1 e=>PR.in1 hB w q j hw hi h hq h0 h1 e) (λw n h=>⟨⟨h.tab.pt,h.tab.tk,h.tab.pin⟩,h.rt.q,h.rt.t⟩) hw hp ⟨Z6g hp hb,ZaZ hp⟩ e e2
def ZbU{B:Int}(hB:0<=B){w:Work}{roots:List Int}(hw:WkOk w)(h:CIv w)(hp:PR B w):∀ k,(∀ j,j<k->Z2q w roots j=0)->∀ x∈(Z1m w roots k).2,ToOk (Z1m w roots k).1 x
 | 0,_,x,hx=>by simp[Z1m]at hx
 | k+1,hh,x,hx=>by
  have ih:=ZbU hB (roots:=roots) hw h hp k (λj hj=>hh j oq);have ok:=(Z31 (roots:=roots) hw k (λj hj=>hh j oq)).1;have iv:=(Z5f (roots:=roots) hw h k (λj hj=>hh j oq)).1;have pr:=Zas (PR B) (λw r hw hi h e=>PR.fwd hB w r hw hi h e) (roots:=roots) hw h hp k (λj hj=>hh j oq);have he:=hh k oq;simp only[Z1m,Lh,Li]at hx ⊢;rcases hx with hx | rfl
  .rcases ih x hx with q | q
   .exact La q
   .exact Lb ((Z6I ok iv _ he).2.q x q)
  .exact Zli _ _ pr he
def Z75(w:WorldM)(t:Tape)(n:Nat)(hm:MOk w n)(hn:n<=1000000)(ht:TOk t)(ha:t.at'<=900000):LP 54 [w.av,.pt 0 0 0] [t.b] (w.step t).av [(w.stepT t).b] :=
 Ziq w t n hm hn ht ha
structure TUp (n:Int) (t u:Tape):Prop where
 l:u.l=t.l
 lo:t.at'<=u.at'
 hi:u.at'<=t.at'+n
def TUp.step(t:Tape)(n:Int):TUp 1 t (t.step n):=by
 have:=Z3M (t:=t) n;exact⟨this.2.2,this.1,this.2.1⟩
def TUp.trans{m n:Int}{t u v:Tape}(h1:TUp m t u)(h2:TUp n u v):TUp (m+n) t v :=
 ⟨h2.l.trans h1.l,by have:=h1.lo;have:=h2.lo;omega,by have:=h1.hi;have:=h2.hi;omega⟩
def TUp.mono{m n:Int}{t u:Tape}(h:TUp m t u)(hmn:m<=n):TUp n t u:=⟨h.l,h.lo,by have:=h.hi;omega⟩
def ZgC(t:Tape)(c:Conf):TUp 10 t (t.headerT c):=by
 have h1:TUp 4 t (Z35 t c):=by
  unfold Z35;split
  .exact(((TUp.step t _).trans (TUp.step _ 12)).trans (TUp.step _ _)).mono dd
  .exact((TUp.step t _).trans (TUp.step _ 12)).mono dd
 unfold Tape.headerT;repeat' split
 .exact(h1.trans (TUp.step _ 4)).mono dd
 .exact(h1.trans (TUp.step _ 4)).mono dd
 .exact((h1.trans (TUp.step _ 4)).trans (TUp.step _ _)).mono dd
def ZkO(w:WorldM)(t:Tape):TUp 10 t (w.linkT t):=by
 have h1:TUp 1 t (w.pickT t):=TUp.step _ _;have h2:TUp 1 (w.pickT t) (w.pickT (w.pickT t)):=TUp.step _ _;unfold WorldM.linkT;split
 .exact((((h1.trans h2).trans (TUp.step _ 8))).trans (TUp.step _ _)).mono dd
 .exact((h1.trans h2).trans (TUp.step _ 8)).mono dd
def Zl2(w:WorldM)(t:Tape):(w.stepT t).l=t.l/\t.at'+1<=(w.stepT t).at'/\(w.stepT t).at'<=t.at'+20:=by
 have h0:(t.step 12).at'=t.at'+1/\(t.step 12).l=t.l:=by simp[Tape.step]
 have key:TUp 10 (t.step 12) (w.stepT t):=by
  unfold WorldM.stepT;repeat' split
  .exact ZgC _ _
  .exact ZkO _ _
  .unfold WorldM.pinT;split
   .exact((TUp.step _ _).trans (TUp.step _ 2)).mono dd
   .exact(TUp.step _ _).mono dd
  .unfold WorldM.dropT;split
   .exact((TUp.step _ _).trans (TUp.step _ 3)).mono dd
   .exact⟨rfl,by omega,by omega⟩
  .exact⟨rfl,by omega,by omega⟩
  .exact(TUp.step _ _).mono dd
 have a:=key.l;have b:=key.lo;have c:=key.hi;exact⟨a.trans h0.2,by omega,by omega⟩
def mkS(w:WorldM)(t:Tape):Nat->WorldM×Tape
 | 0=>(w,t)
 | k+1=>((mkS w t k).1.step (mkS w t k).2,(mkS w t k).1.stepT (mkS w t k).2)
def mkB(w:WorldM)(t:Tape)(k:Nat):Bool:=Le (((mkS w t k).2.l.length:Int)<=(mkS w t k).2.at')
def mkN(w:WorldM)(t:Tape):Nat:=((Lp (2+t.l.length)).find? (mkB w t)).getD 0
def Zdn(w:WorldM)(t:Tape):WorldM:=(mkS w t (mkN w t)).1
def Zf5(w:WorldM)(t:Tape):∀ k:Nat,(mkS w t k).2.l=t.l/\t.at'+k<=(mkS w t k).2.at'/\(mkS w t k).2.at'<=t.at'+20*k
 | 0=>by simp[mkS]
 | k+1=>by
  have ih:=Zf5 w t k;have:=Zl2 (mkS w t k).1 (mkS w t k).2;refine⟨this.1.trans ih.1, ?_, ?_⟩
  .simp only[mkS];omega
  .simp only[mkS];omega
def ZcN{w:WorldM}{n:Nat}(h:MOk w n)(t:Tape):∀ k,n+k<=1000000->MOk (mkS w t k).1 (n+k)
 | 0,_=>h
 | k+1,hk=>(ZcN h t k oq).step oq _
def Zf8(w:WorldM)(t:Tape)(ht:0<=t.at'):mkB w t (mkN w t)=O/\(∀ j,j<mkN w t->mkB w t j=Lg)/\mkN w t<=t.l.length+1:=by
 cases hb:(Lp (2+t.l.length)).find? (mkB w t)with
 | none =>
  exfalso;have:=Lq.1 hb t.l.length (Lo.2 oq);have u:=Zf5 w t t.l.length;simp only[mkB,decide_eq_true_eq,u.1]at this;omega
 | some k =>
  obtain⟨h1,h2,h3⟩:=Lw.1 hb;have h2:=Lo.1 h2;have e:mkN w t=k:=by rw[mkN,hb];rfl
  rw[e];exact⟨h1,λj hj=>by simpa using h3 j hj,by omega⟩
def mkLA(w:WorldM)(t:Tape):Tg:=⟨tm 22 [(2,.pt 8002 0 0),(3,.pt 32012 0 0),(4,.pt 40004 0 0)],[(40004,.box 30 w.cells),(32012,t.b),(8002,.box 30 [int 0,int 0,.d (.sl 0 []),.d (.sl 0 []),int 0,int 0,.d (.sl 0 []),.d (.sl 0 [])])],60⟩
def Zkp(w:WorldM)(t:Tape)(n:Nat)(hm:MOk w n)(hn:n<=1000000)(ht:TOk t)(ha:t.at'<=900000)(hd:t.at'<t.l.length):CP (rndF f15 0) (mkLA w t).st .nrm (mkLA (w.step t) (w.stepT t)).st:=by
 exact sF [] [] (Fbq 16 [32012] (@Z7x t aa) (Ftb 17 (!decide ((t.l.length:Int)<=t.at')) (Fbr 20 [32012] (@Z75 w t n aa aa aa aa) Fz)))
def Znj(w:WorldM)(t:Tape)(ht:TOk t)(hd:¬ t.at'<t.l.length):CP (rndF f15 0) (mkLA w t).st (.ext 0) (Tg.st ⟨tm 22 [(2,.pt 8002 0 0),(4,.pt 40004 0 0)],[(40004,.box 30 w.cells),(8002,.box 30 [int 0,int 0,.d (.sl 0 []),.d (.sl 0 []),int 0,int 0,.d (.sl 0 []),.d (.sl 0 [])])],60⟩):=by
 exact sF [] [] (Fbq 16 [32012] (@Z7x t aa) (Ffb 17 (!decide ((t.l.length:Int)<=t.at')) Fz))
def Zn2(w:WorldM)(t:Tape)(hm:MOk w 0)(hl:t.l.length<=300)(h0:0<=t.at')(h1:t.at'<=1000):CP (blkF f15 0) (Tg.st ⟨tm 22 [(2,.pt 8002 0 0),(3,.pt 32012 0 0),(4,.pt 40004 0 0)],[(40004,.box 30 w.cells),(32012,t.b),(8002,.box 30 [int 0,int 0,.d (.sl 0 []),.d (.sl 0 []),int 0,int 0,.d (.sl 0 []),.d (.sl 0 [])])],60⟩) .nrm (Tg.st ⟨tm 22 [(2,.pt 8002 0 0),(4,.pt 40004 0 0)],[(40004,.box 30 (Zdn w t).cells),(8002,.box 30 [int 0,int 0,.d (.sl 0 []),.d (.sl 0 []),int 0,int 0,.d (.sl 0 []),.d (.sl 0 [])])],60⟩):=by
 have hk:=Zf8 w t h0;have tok:∀ k,k<=mkN w t->TOk (mkS w t k).2/\(mkS w t k).2.at'<=900000:=λk hk'=>by
  have u:=Zf5 w t k;refine⟨?_,by omega⟩;unfold TOk;rw[u.1];omega
 refine Z09 (S:=λk=>(mkLA (mkS w t k).1 (mkS w t k).2).st) (mkN w t) kr (λk hk'=>?_) ?_
 .have hs:=hk.2.1 k hk';simp only[mkB,decide_eq_false_iff_not]at hs;have m:=ZcN hm t k oq;exact Zkp _ _ (0+k) m oq (tok k oq).1 (tok k oq).2 oq
 .have hs:=hk.1;simp only[mkB,decide_eq_true_eq]at hs;exact Znj _ _ (tok _ (Lj _)).1 oq
def mkLB(w:WorldM)(t:Tape):Tg:=⟨tm 22 [(2,.pt 8002 0 0),(3,.pt 24012 0 0),(4,.pt 32004 0 0)],[(32004,.box 30 w.cells),(24012,t.b),(8002,.box 30 [int 0,int 0,.d (.sl 0 []),.d (.sl 0 []),int 0,int 0,.d (.sl 0 []),.d (.sl 0 [])])],60⟩
def ZkB(w:WorldM)(t:Tape)(n:Nat)(hm:MOk w n)(hn:n<=1000000)(ht:TOk t)(ha:t.at'<=900000)(hd:t.at'<t.l.length):CP (rndF f15 0) (mkLB w t).st .nrm (mkLB (w.step t) (w.stepT t)).st:=by
 exact sF [] [] (Fbq 16 [24012] (@Z7x t aa) (Ftb 17 (!decide ((t.l.length:Int)<=t.at')) (Fbr 20 [24012] (@Z75 w t n aa aa aa aa) Fz)))
def Zo1(w:WorldM)(t:Tape)(ht:TOk t)(hd:¬ t.at'<t.l.length):CP (rndF f15 0) (mkLB w t).st (.ext 0) (Tg.st ⟨tm 22 [(2,.pt 8002 0 0),(4,.pt 32004 0 0)],[(32004,.box 30 w.cells),(8002,.box 30 [int 0,int 0,.d (.sl 0 []),.d (.sl 0 []),int 0,int 0,.d (.sl 0 []),.d (.sl 0 [])])],60⟩):=by
 exact sF [] [] (Fbq 16 [24012] (@Z7x t aa) (Ffb 17 (!decide ((t.l.length:Int)<=t.at')) Fz))
def ZlM(w:WorldM)(t:Tape)(hm:MOk w 0)(hl:t.l.length<=300)(h0:0<=t.at')(h1:t.at'<=1000):CP (blkF f15 0) (Tg.st ⟨tm 22 [(2,.pt 8002 0 0),(3,.pt 24012 0 0),(4,.pt 32004 0 0)],[(32004,.box 30 w.cells),(24012,t.b),(8002,.box 30 [int 0,int 0,.d (.sl 0 []),.d (.sl 0 []),int 0,int 0,.d (.sl 0 []),.d (.sl 0 [])])],60⟩) .nrm (Tg.st ⟨tm 22 [(2,.pt 8002 0 0),(4,.pt 32004 0 0)],[(32004,.box 30 (Zdn w t).cells),(8002,.box 30 [int 0,int 0,.d (.sl 0 []),.d (.sl 0 []),int 0,int 0,.d (.sl 0 []),.d (.sl 0 [])])],60⟩):=by
 have hk:=Zf8 w t h0;have tok:∀ k,k<=mkN w t->TOk (mkS w t k).2/\(mkS w t k).2.at'<=900000:=λk hk'=>by
  have u:=Zf5 w t k;refine⟨?_,by omega⟩;unfold TOk;rw[u.1];omega
 refine Z09 (S:=λk=>(mkLB (mkS w t k).1 (mkS w t k).2).st) (mkN w t) kr (λk hk'=>?_) ?_
 .have hs:=hk.2.1 k hk';simp only[mkB,decide_eq_false_iff_not]at hs;have m:=ZcN hm t k oq;exact ZkB _ _ (0+k) m oq (tok k oq).1 (tok k oq).2 oq
 .have hs:=hk.1;simp only[mkB,decide_eq_true_eq]at hs;exact Zo1 _ _ (tok _ (Lj _)).1 oq
def Z3q(l:List Int):Tape:=⟨l.take 300,0⟩
def Z0A(l:List Int):WorldM:=Zdn (Z3q l).empty (((Z3q l).step 4).step 5)
def ZaB(t:Tape):MOk t.empty 0:=by
 have hv:=Z2G t;have hb:=validB_iff.1 hv;refine⟨?_,hv, ?_, ?_, ?_, ?_, ?_, ?_,by simp[Tape.empty],by simp[Tape.empty]⟩
 .intro x hx;simp only[Tape.empty,Z2S,Xj]at hx;omega
 .simp only[Tape.empty,Z2S,Lu];omega
 .have:=area hv;simp only[Tape.empty,Z2S,Lu];omega
 .intro j hj;simp only[Tape.empty,Z2S,Lu]at hj ⊢;have:(Ly t.C.pg.toNat (⟨0,0,0,0⟩:Page)).getD j M=⟨0,0,0,0⟩:=by simp[Ld,hj]
  rw[this];simp
 .intro j hj;simp only[Tape.empty,Z2S,Lu]at hj ⊢;have:(Ly t.C.pg.toNat (⟨0,0,0,0⟩:Page)).getD j M=⟨0,0,0,0⟩:=by simp[Ld,hj]
  rw[this];simp
 .intro x hx;simp[Tape.empty]at hx
 .intro x hx;simp[Tape.empty]at hx
def Z6R(l:List Int):(((Z3q l).step 4).step 5).l=l.take 300/\(((Z3q l).step 4).step 5).at'=2:=by simp[Z3q,Tape.step]
def Zfi(l:List Int):MOk (Z0A l) 1000:=by
 have e:=Z6R l;have hl:(((Z3q l).step 4).step 5).l.length<=300:=by rw[e.1];simp;omega
 have hk:=Zf8 (Z3q l).empty (((Z3q l).step 4).step 5) oq;have m:=ZcN (ZaB (Z3q l)) (((Z3q l).step 4).step 5) (mkN (Z3q l).empty (((Z3q l).step 4).step 5)) oq;have h2:∀ (w:WorldM) (a b:Nat),MOk w a->a<=b->MOk w b:=λw a b h hab =>
  ⟨h.W,h.hv,h.pl,h.L,λj hj=>by have:=h.N j hj;omega,h.us,h.G,h.E,by have:=h.sl;omega,by have:=h.wl;omega⟩
 exact h2 _ _ _ m oq
def Zff(l:List Int)(hl:l.length<=140737488355328):GP 15 [Z0V l] Lg (Z0A l).av []:=by
 have e:=Z6R l;have he:=ZaB (Z3q l);have h1:(((Z3q l).step 4).step 5).l.length<=300:=by rw[e.1];simp;omega
 have h2:=e.2;by_cases h:300<l.length
 .have ht:TOk ⟨Lk (Lx 300) l,0⟩:=by simp[TOk];omega
  have e9:Z3q l=⟨Lk (Lx 300) l,0⟩:=rfl;unfold Z0A;rw[e9]at he h1 h2 ⊢;exact gF [] func15 [] (Fh 9 [.els (Lc idv (Lk (Lx 300) l))] (Fl 6 idv l (Ftb 7 (Le (300<(l.length:Int))) (Fa (by(simp only[Lt];omega):(0:Int)<=(300:Int)/\300<=(↑(Lc idv l).length:Int)) (Fa (ms:Lk (Lx 300) (Lc idv l)=Lc idv (Lk (Lx 300) l)) (Fbr 14 [32012] (@ZbL (Tape.mk (Lk (Lx 300) l) 0) aa (by(simp only[bs];omega))) (Fu (@Zn2 ((Tape.mk (Lk (Lx 300) l) 0).empty) (((Tape.mk (Lk (Lx 300) l) 0).step 4).step 5) aa aa oq oq) Fz)))))))
 .have ht:TOk ⟨l,0⟩:=by simp[TOk];omega
  have e9:Z3q l=⟨l,0⟩:=by rw[Z3q,List.take_of_length_le oq]
  unfold Z0A;rw[e9]at he h1 h2 ⊢;exact gF [] func15 [] (Fl 6 idv l (Ffb 7 (Le (300<(l.length:Int))) (Fbr 14 [24012] (@ZbL (Tape.mk l 0) aa (by(simp only[bs];omega))) (Fu (@ZlM ((Tape.mk l 0).empty) (((Tape.mk l 0).step 4).step 5) aa aa oq oq) Fz))))
def RootOn(h:Heap)(r:Int):Prop:=(ofA h.C r).2.2=0->(h.P.getD (ofA h.C r).1.toNat M).K=1\/(h.P.getD (ofA h.C r).1.toNat M).K=2
structure POk (w:WorldM):Prop where
 p:Z03 w.heap=O
 s:∀ r∈w.G,RootOn w.heap r
 k:∀ r∈w.E,RootOn w.heap r
def Znv(h:Heap):RootOn h 0:=by
 intro e;exfalso;unfold ofA at e;split at e
 .split at e
  .omega
  .simp at e
 .simp at e
def RootOn.mono{h h':Heap}{r:Int}(hr:RootOn h r)(hc:h'.C=h.C)(hk:∀ j:Nat,(h.P.getD j M).K≠0->(h'.P.getD j M).K=(h.P.getD j M).K):RootOn h' r:=by
 intro e;rw[hc]at e ⊢;have q:=hr e;rw[hk _ oq];exact q
def PT.setPins{c:Conf}{l:List Page}(h:PT c l){i:Nat}(hi:i<l.length)(hk:(l.getD i M).K=1\/(l.getD i M).K=2){n:Int}(hn:0<=n/\n<=2147483647):PT c (l.set i ⟨(l.getD i M).K,(l.getD i M).S,(l.getD i M).U,n⟩):=by
 have e:∀ j,((l.set i ⟨(l.getD i M).K,(l.getD i M).S,(l.getD i M).U,n⟩).getD j M).K=(l.getD j M).K/\((l.set i ⟨(l.getD i M).K,(l.getD i M).S,(l.getD i M).U,n⟩).getD j M).S=(l.getD j M).S/\((l.set i ⟨(l.getD i M).K,(l.getD i M).S,(l.getD i M).U,n⟩).getD j M).U=(l.getD j M).U:=by
  intro j;rw[Z0o hi];split
  .rename_i q;subst q;exact⟨rfl,rfl,rfl⟩
  .exact⟨rfl,rfl,rfl⟩
 refine⟨?_, ?_, ?_⟩
 .intro j hj;rw[Ll]at hj;rw[Z0o hi];split
  .have b:=h.b i hi;exact⟨b.s,hn,b.k,λq=>by simp only at q;omega,b.k1,λq=>by simp only at q;omega⟩
  .exact h.b j hj
 .intro j hj hk2;rw[Ll]at hj;rw[(e j).1]at hk2;rw[(e j).2.2,(e j).2.1];have q:=h.lg j hj hk2;refine⟨q.1,λm h1 h2=>?_⟩;rw[Ll,(e _).1,(e _).2.1];exact q.2 m h1 h2
 .intro j hj hk3;rw[Ll]at hj;rw[(e j).1]at hk3;obtain⟨a,a1,a2,a3⟩:=h.tl j hj hk3;exact⟨a,a1,by rw[(e a).1];exact a2,by rw[(e a).2.2];exact a3⟩
def ZeD{w:WorldM}{n:Nat}(h:POk w)(hm:MOk w n)(hn:n<=1000000){i:Nat}(hi:i<w.heap.P.length)(hk:(w.heap.P.getD i M).K=1\/(w.heap.P.getD i M).K=2){d:Int}(hd:d=1\/(d=-1/\0<(w.heap.P.getD i M).N)):POk (pinB w i d):=by
 have hp:=hm.N i hi;have kk:∀ j:Nat,((pinB w i d).heap.P.getD j M).K=(w.heap.P.getD j M).K:=by
  intro j;simp only[pinB];rw[Z0o hi];split
  .rename_i q;subst q;rfl
  .rfl
 have pr:=h.p;rw[Z1y]at pr;obtain⟨p1,p2,p3,p4,p5,p6⟩:=pr;refine⟨?_,λr hr=>(h.s r hr).mono rfl (λj _=>kk j),λr hr=>(h.k r hr).mono rfl (λj _=>kk j)⟩;rw[Z1y];refine⟨p1,p2,by simp only[pinB,Ll];exact p3,p4, ?_,p6.setPins hi hk oq⟩;rcases p5 with p5 | p5
 .exact La p5
 .refine Lb ⟨p5.1,by simp only[pinB,Ll];exact p5.2.1, ?_⟩;rw[show(pinB w i d).heap.B=w.heap.B from rfl,kk];exact p5.2.2
def Zfp(w:WorldM)(t:Tape):w.pick t=0\/w.pick t∈w.G\/w.pick t∈w.E:=by
 have hn:=Z0T t (n:=(w.refs.length:Int)) (by simp[WorldM.refs];omega);have:w.pick t∈w.refs:=getD_mem_iff.2 ⟨_,by omega,rfl⟩;simpa[WorldM.refs]using this
def POk.pick{w:WorldM}(h:POk w)(t:Tape):RootOn w.heap (w.pick t):=by
 rcases Zfp w t with e | e | e
 .rw[e];exact Znv _
 .exact h.s _ e
 .exact h.k _ e
def POk.pin{w:WorldM}{n:Nat}(h:POk w)(hm:MOk w n)(hn:n<=1000000)(t:Tape):POk (w.pin t):=by
 unfold WorldM.pin;split
 .rename_i e;have o:=Z3F hm.hv e;have hpl:=hm.pl;have hi:pinI w t<w.heap.P.length:=by unfold pinI;omega
  have hk:=h.pick t e;split
  .rename_i hc;exact ZeD h hm hn hi hk (Lb ⟨rfl,hc.1⟩)
  .split
   .exact ZeD h hm hn hi hk (La rfl)
   .exact h
 .exact h
def Zib(t:Tape):POk t.empty:=by
 refine⟨?_,by simp[Tape.empty],by simp[Tape.empty]⟩;have hv:=Z2G t;have hb:=validB_iff.1 hv;have ha:=area hv;rw[Z1y];have hg:∀ j,j<t.C.pg.toNat->(Ly t.C.pg.toNat (⟨0,0,0,0⟩:Page)).getD j M=⟨0,0,0,0⟩:=λj hj=>by simp[Ld,hj]
 refine⟨hv,by simp only[Tape.empty,Z2S,Lu];omega,by simp only[Tape.empty,Z2S,Lu];omega,La rfl,La rfl, ?_⟩;simp only[Tape.empty,Z2S];refine⟨λj hj=>?_,λj hj hk=>?_,λj hj hk=>?_⟩
 .rw[Lu]at hj;rw[hg j hj];exact⟨by simp,by simp,by simp,by simp,by simp,by simp⟩
 .rw[Lu]at hj;rw[hg j hj]at hk;simp at hk
 .rw[Lu]at hj;rw[hg j hj]at hk;simp at hk
def hdA(ws:List Int)(a:Int):Header:=(decodeH (loadA ws a).1).1
def okA(ws:List Int)(a:Int):Prop:=(decodeH (loadA ws a).1).2=O
def kdA(ws:List Int)(a:Int):Int:=(hdA ws a).K
def kpA(ws:List Int)(a:Int):Int:=if kdA ws a=0 then 1 else hlA ws a+1
def bsP(h:Heap)(i:Nat):Int:=4096+i*h.C.pw
def tile(ws:List Int):Int->Int->List Int->Prop
 | a,b,[]=>a=b
 | a,b,x::l=>x=a/\okA ws a/\tile ws (a+hlA ws a+1) b l
def Z6q(ws:List Int)(a:Int):sizeH (hdA ws a)=hlA ws a+1:=by
 unfold hdA;rw[sizeH,if_pos (Z2h _)];rfl
def ZdY{ws:List Int}:∀ {l:List Int} {a b:Int},tile ws a b l->a<=b
 | [],a,b,h=>by simp only[tile]at h;omega
 | x::l,a,b,h=>by
  have:=ZdY h.2.2;have:=Z0e ws a;omega
def Z1C{ws:List Int}{x:Int}:∀ {l:List Int} {a b:Int},tile ws a b l->x∈l->okA ws x/\a<=x/\x+hlA ws x<b
 | [],_,_,_,hx=>by simp at hx
 | y::l,a,b,h,hx=>by
  have hr:=Z0e ws a;rcases LO.1 hx with rfl | hx
  .have:=ZdY h.2.2;rw[h.1];exact⟨h.2.1,by omega,by omega⟩
  .have:=Z1C h.2.2 hx;exact⟨this.1,by omega,this.2.2⟩
def Zbi{ws:List Int}{x y:Int}:∀ {l:List Int} {a b:Int},tile ws a b l->x∈l->y∈l->x<y->x+hlA ws x<y
 | [],_,_,_,hx,_,_=>by simp at hx
 | z::l,a,b,h,hx,hy,hxy=>by
  have hr:=Z0e ws a;have h1:=h.1;rcases LO.1 hx with e | hx'
  .rcases LO.1 hy with e2 | hy'
   .omega
   .have:=(Z1C h.2.2 hy').2.1;rw[e,h1];omega
  .rcases LO.1 hy with e2 | hy'
   .have:=(Z1C h.2.2 hx').2.1;omega
   .exact Zbi h.2.2 hx' hy' hxy
def Zb1{ws:List Int}{m:List Int}{b c:Int}:∀ {l:List Int} {a:Int},tile ws a b l->tile ws b c m->tile ws a c (l++m)
 | [],a,h,h2=>by simp only[tile]at h;subst h;exact h2
 | _::_,_,h,h2=>⟨h.1,h.2.1,Zb1 h.2.2 h2⟩
def Z2g{ws ws':List Int}:∀ {l:List Int} {a b:Int},tile ws a b l->(∀ x∈l,okA ws' x/\hlA ws' x=hlA ws x)->tile ws' a b l
 | [],_,_,h,_=>h
 | x::l,a,b,h,hh=>by
  have hx:=hh x pq;have h1:=h.1;subst h1;refine⟨rfl,hx.1, ?_⟩;rw[hx.2];exact Z2g h.2.2 λy hy=>hh y (LZ _ hy)
def Z9U{ws:List Int}{c:Int}:∀ {l:List Int} {a b:Int},tile ws a b l->a<=c->c<b->∃ x∈l,x<=c/\c<=x+hlA ws x
 | [],a,b,h,h1,h2=>by simp only[tile]at h;omega
 | x::l,a,b,h,h1,h2=>by
  by_cases hc:c<=a+hlA ws a
  .exact⟨a,by rw[h.1];simp,h1,hc⟩
  .obtain⟨y,hy,h3⟩:=Z9U h.2.2 (show a+hlA ws a+1<=c by omega) h2;exact⟨y,LZ _ hy,h3⟩
def Z23{ws ws':List Int}{a:Int}(h:(loadA ws' a).1=(loadA ws a).1):(okA ws a->okA ws' a)/\hlA ws' a=hlA ws a/\kdA ws' a=kdA ws a/\hdA ws' a=hdA ws a/\kpA ws' a=kpA ws a:=by
 have e:hdA ws' a=hdA ws a:=by rw[hdA,hdA,h]
 have e2:hlA ws' a=hlA ws a:=by rw[hlA,hlA,h]
 have e3:kdA ws' a=kdA ws a:=by rw[kdA,kdA,e]
 exact⟨λq=>by rw[okA,h];exact q,e2,e3,e,by rw[kpA,kpA,e2,e3]⟩
structure Gt (h:Heap) (T:Nat->List Int):Prop where
 p:Z03 h=O
 t1:∀ i,i<h.P.length->(h.P.getD i M).K=1->tile h.W (bsP h i) (bsP h i+(h.P.getD i M).U) (T i)
 t2:∀ i,i<h.P.length->(h.P.getD i M).K=2->T i=[bsP h i]/\okA h.W (bsP h i)/\hlA h.W (bsP h i)+1=(h.P.getD i M).U
 t0:∀ i x,x∈T i->i<h.P.length/\((h.P.getD i M).K=1\/(h.P.getD i M).K=2)
structure Gd (h:Heap) (T:Nat->List Int):Prop where
 p:Z03 h=O
 sp:∀ i,i<h.P.length->(h.P.getD i M).K≠0->(h.P.getD i M).S=h.S
 t1:∀ i,i<h.P.length->(h.P.getD i M).K=1->tile h.W (bsP h i) (bsP h i+(h.P.getD i M).U) (T i)/\∀ x∈T i,hlA h.W x+1<=Z00 h.C
 t2:∀ i,i<h.P.length->(h.P.getD i M).K=2->T i=[bsP h i]/\okA h.W (bsP h i)/\hlA h.W (bsP h i)+1=(h.P.getD i M).U/\kdA h.W (bsP h i)≠0
 t0:∀ i x,x∈T i->i<h.P.length/\((h.P.getD i M).K=1\/(h.P.getD i M).K=2)
 d:∀ a,(loadA h.W a).1≠0->∃ i x,x∈T i/\x<=a/\a<x+kpA h.W x
 q:∀ i x k,x∈T i->kdA h.W x≠0->0<=k->k<hlA h.W x->Z0b (hdA h.W x) k=O->(loadA h.W (x+1+k)).1=0\/∃ j,(loadA h.W (x+1+k)).1∈T j/\kdA h.W (loadA h.W (x+1+k)).1≠0
 cr:(crowd h.P:Int)<=h.C.pg/4
def Ob(h:Heap)(T:Nat->List Int)(x:Int):Prop:=∃ j,x∈T j/\kdA h.W x≠0
section
variable {h:Heap} {T:Nat->List Int} (g:Gt h T)
include g
theorem Gt.on{i:Nat}{x:Int}(hx:x∈T i):i<h.P.length/\((h.P.getD i M).K=1\/(h.P.getD i M).K=2)/\bsP h i<=x/\x<bsP h i+h.C.pw/\x+hlA h.W x<bsP h i+(h.P.getD i M).U/\okA h.W x/\((h.P.getD i M).K=2->x=bsP h i/\hlA h.W x+1=(h.P.getD i M).U):=by
 have t:=g.t0 i x hx;have po:=Z07 g.p;have pp:=Z0K g.p t.1;have hr:=Z0e h.W x;refine⟨t.1,t.2, ?_⟩;rcases t.2 with k | k
 .have m:=Z1C (g.t1 i t.1 k) hx;exact⟨m.2.1,by omega,m.2.2,m.1,λq=>by omega⟩
 .have m:=g.t2 i t.1 k;rw[m.1]at hx;have hx:=Li.1 hx;subst hx;exact⟨by omega,by omega,by omega,m.2.1,λ_=>⟨rfl,m.2.2⟩⟩
theorem Gt.ofx{i:Nat}{x:Int}(hx:x∈T i):ofA h.C x=((i:Int),x-bsP h i,0):=by
 have o:=g.on hx;have po:=Z07 g.p;have:=Zft (c:=h.C) (i:=i) (o:=x-bsP h i) po.1 oq oq;rw[<- this];congr 1;unfold bsP;omega
theorem Gt.sep{i j:Nat}{x y:Int}(hx:x∈T i)(hy:y∈T j)(hxy:x<y):x+hlA h.W x<y:=by
 have o1:=g.on hx;have o2:=g.on hy;have r2:=Z0e h.W y;have r1:=Z0e h.W x;unfold bsP at o1 o2;rcases LQ i j with q | q | q
 .have:=Z4e g.p q o2.1 o1.2.1 oq;omega
 .subst q;rcases o1.2.1 with k | k
  .exact Zbi (g.t1 i o1.1 k) hx hy hxy
  .have:=(o1.2.2.2.2.2.2 k).1;have:=(o2.2.2.2.2.2.2 k).1;omega
 .have:=Z4e g.p q o1.1 o2.2.1 oq;omega
theorem Gt.free{i j:Nat}{x:Int}(hi:i<h.P.length)(hk:(h.P.getD i M).K=0\/(h.P.getD i M).K=1)(hx:x∈T j):x+hlA h.W x<bsP h i+occP (h.P.getD i M)\/bsP h i+h.C.pw<=x:=by
 have o:=g.on hx;have po:=Z07 g.p;have pp:=Z0K g.p hi;have hoc:0<=occP (h.P.getD i M):=by unfold occP;split<;>omega
 unfold bsP at o ⊢;rcases LQ i j with q | q | q
 .have:=Z12 (i:=i) (j:=j) (pw:=h.C.pw) oq oq;omega
 .subst q;rw[occP,if_neg oq];omega
 .have:=Z4e g.p q hi o.2.1 oq;omega
theorem Gt.at'{i:Nat}{x:Int}(hx:x∈T i):atH h x=(hdA h.W x,0):=by
 have o:=g.on hx;have r:=Z0e h.W x;have s:sizeH (decodeH (loadA h.W x).1).1=hlA h.W x+1:=Z6q h.W x;unfold atH;rw[if_pos g.p,g.ofx hx];simp only[Ls,s,if_true];rw[if_pos ⟨o.2.1,by omega,o.2.2.2.2.2.1⟩,if_neg]
 .rfl
 .have:=o.2.2.2.2.2.2;omega
theorem Zcc{i:Nat}(hi:i<h.P.length)(hk:(h.P.getD i M).K=1):∀ (f:Nat) (o:Int) (l:List Int),tile h.W (bsP h i+o) (bsP h i+(h.P.getD i M).U) l->(∀ x∈l,x∈T i)->0<=o->(h.P.getD i M).U-o<=f->Z2N h i f o=Lm l
 | 0,o,[],ht,hm,h0,hf=>rfl
 | 0,o,x::l,ht,hm,h0,hf=>by
  have:=ZdY ht.2.2;have:=Z0e h.W (bsP h i+o);omega
 | f+1,o,[],ht,hm,h0,hf=>by
  simp only[tile]at ht;unfold Z2N;rw[if_neg];show ¬ o<(h.P.getD (i:Int).toNat M).U;rw[Ls];omega
 | f+1,o,x::l,ht,hm,h0,hf=>by
  have hx:=hm x pq;have e:=ht.1;have on:=g.on hx;have po:=Z07 g.p;have hr:=Z0e h.W x;have hpg:pg h (i:Int)=h.P.getD i M:=by simp[pg]
  have ea:adr h i o=x:=by
   unfold adr address;rw[if_pos po.1,if_pos (inB_iff.2 ⟨by omega,by omega,h0,by omega⟩),e];unfold bsP;simp only;omega
  have t3:=ht.2.2;rw[<- e]at t3;have ih:=Zcc hi hk f (o+(hlA h.W x+1)) l (by rw[show bsP h i+(o+(hlA h.W x+1))=x+hlA h.W x+1 by omega];exact t3) (λy hy=>hm y (LZ _ hy)) oq oq;unfold Z2N;rw[hpg,if_pos oq,ea,g.at' hx];simp only[if_true];rw[if_neg oq,Z6q,ih];rfl
theorem Gt.page{i:Nat}(hi:i<h.P.length):Z0l h i=(T i,0):=by
 have pp:=Z0K g.p hi;have hpg:pg h (i:Int)=h.P.getD i M:=by simp[pg]
 unfold Z0l;rw[if_pos g.p,if_pos oq,hpg];by_cases hk:(h.P.getD i M).K=0\/(h.P.getD i M).K=3
 .rw[if_pos hk];have:T i=[]:=L9.2 λx hx=>by have:=(g.t0 i x hx).2;omega
  rw[this]
 .rw[if_neg hk];by_cases h1:(h.P.getD i M).K=1
  .have:=Zcc g hi h1 256 0 (T i) (by rw[L4];exact(g.t1 i hi h1)) (λ_ q=>q) oq oq;rw[this]
  .have h2:(h.P.getD i M).K=2:=by omega
   have t:=g.t2 i hi h2;have hx:bsP h i∈T i:=by rw[t.1];simp
   have on:=g.on hx;have po:=Z07 g.p;have hr:=Z0e h.W (bsP h i);have ea:adr h i 0=bsP h i:=by
    unfold adr address;rw[if_pos po.1,if_pos (inB_iff.2 ⟨by omega,by omega,by omega,by omega⟩)];unfold bsP;simp
   have:Z2N h i 256 0=Lm (T i):=by
    unfold Z2N;rw[hpg,if_pos oq,ea,g.at' hx];simp only[if_true];rw[if_pos h2,t.1]
   rw[this]
theorem Gt.starts:∀ (f i:Nat),i+f=h.P.length->(Z0y h f i).2=0/\∀ x,x∈(Z0y h f i).1↔∃ j,i<=j/\x∈T j
 | 0,i,hf=>by
  refine⟨rfl,λx=>⟨λhx=>by simp[Z0y]at hx, ?_⟩⟩;rintro⟨j,hj,hx⟩;have:=(g.t0 j x hx).1;omega
 | f+1,i,hf=>by
  obtain⟨i1,i2⟩:=Gt.starts f (i+1) oq;unfold Z0y;rw[g.page (show i<h.P.length by omega)];simp only[i1,if_true];refine⟨trivial,λx=>?_⟩;rw[Lh,i2];constructor
  .rintro(hx | ⟨j,hj,hx⟩)
   .exact⟨i,Lj _,hx⟩
   .exact⟨j,by omega,hx⟩
  .rintro⟨j,hj,hx⟩;by_cases q:j=i
   .subst q;exact La hx
   .exact Lb ⟨j,by omega,hx⟩
theorem Gt.objs:(Z04 h).2=0/\∀ x,x∈(Z04 h).1↔Ob h T x:=by
 have s:=g.starts h.P.length 0 oq;have e:Z0P h=Z0y h h.P.length 0:=by rw[Z0P,if_pos g.p]
 unfold Z04;rw[e];refine⟨s.1,λx=>?_⟩;rw[List.mem_filter,s.2];constructor
 .rintro⟨⟨j,_,hj⟩,hb⟩;have hb':(atH h x).1.K≠0:=of_decide_eq_true hb;rw[g.at' hj]at hb';exact⟨j,hj,hb'⟩
 .rintro⟨j,hj,hb⟩;refine⟨⟨j,by omega,hj⟩,decide_eq_true ?_⟩;rw[g.at' hj];exact hb
end
section
variable {h:Heap} {T:Nat->List Int} (g:Gd h T)
include g
theorem Gd.gt:Gt h T:=⟨g.p,λi hi hk=>(g.t1 i hi hk).1,λi hi hk=>⟨(g.t2 i hi hk).1,(g.t2 i hi hk).2.1,(g.t2 i hi hk).2.2.1⟩,g.t0⟩
theorem Gd.on{i:Nat}{x:Int}(hx:x∈T i):i<h.P.length/\((h.P.getD i M).K=1\/(h.P.getD i M).K=2)/\bsP h i<=x/\x<bsP h i+h.C.pw/\x+hlA h.W x<bsP h i+(h.P.getD i M).U/\okA h.W x/\((h.P.getD i M).K=2->x=bsP h i/\hlA h.W x+1=(h.P.getD i M).U):=g.gt.on hx
theorem Gd.ofx{i:Nat}{x:Int}(hx:x∈T i):ofA h.C x=((i:Int),x-bsP h i,0):=g.gt.ofx hx
theorem Gd.sep{i j:Nat}{x y:Int}(hx:x∈T i)(hy:y∈T j)(hxy:x<y):x+hlA h.W x<y:=g.gt.sep hx hy hxy
theorem Gd.free{i j:Nat}{x:Int}(hi:i<h.P.length)(hk:(h.P.getD i M).K=0\/(h.P.getD i M).K=1)(hx:x∈T j):x+hlA h.W x<bsP h i+occP (h.P.getD i M)\/bsP h i+h.C.pw<=x:=g.gt.free hi hk hx
theorem Gd.at'{i:Nat}{x:Int}(hx:x∈T i):atH h x=(hdA h.W x,0):=g.gt.at' hx
theorem Gd.page{i:Nat}(hi:i<h.P.length):Z0l h i=(T i,0):=g.gt.page hi
theorem Gd.objs:(Z04 h).2=0/\∀ x,x∈(Z04 h).1↔Ob h T x:=g.gt.objs
end
def ZgH{l:List Page}:∀ {i j:Nat},j<=i->(l.getD j M).K≠3->(∀ m,j<m->m<=i->(l.getD m M).K=3)->Z1j l i=j
 | 0,j,h,_,_=>by simp[Z1j];omega
 | i+1,j,h,hk,hm=>by
  unfold Z1j;by_cases q:j=i+1
  .subst q;rw[if_neg hk]
  .rw[if_pos (hm (i+1) oq (Lj _))];exact ZgH oq hk λm h1 h2=>hm m h1 oq
def ZkK{ws:List Int}{a n:Int}{k:Nat}(hn:0<=n)(ha:4096<=a/\a-4096+n<=ws.length)(hk:(k:Int)<n):(Z18 ws a n).1.getD k M=(loadA ws (a+k)).1:=by
 unfold Z18 loadA;rw[if_neg oq,if_pos ha,if_pos oq];simp only[Ld];rw[List.getElem?_take_of_lt oq,Xb,show(a-4096).toNat+k=(a+k-4096).toNat by omega];rfl
section
variable {h:Heap} {T:Nat->List Int} (g:Gd h T)
include g
theorem Gd.inw{i:Nat}{x:Int}(hx:x∈T i):4096<=x/\x+hlA h.W x<4096+h.W.length:=by
 have o:=g.on hx;have po:=Z07 g.p;have u:=Zay g.p o.1 o.2.1;have h0:0<=(i:Int)*h.C.pw:=LF oq oq;unfold bsP at o;omega
theorem Gd.head{i j:Nat}{x a:Int}(hx:x∈T j)(h1:x<=a)(h2:a<=x+hlA h.W x)(hi:i<h.P.length)(h3:bsP h i<=a)(h4:a<bsP h i+h.C.pw):Z1j h.P i=j:=by
 have o:=g.on hx;have po:=Z07 g.p;unfold bsP at o h3 h4;have hji:j<=i:=by
  by_cases q:j<=i
  .exact q
  .have:=Z12 (i:=i) (j:=j) (pw:=h.C.pw) oq oq;omega
 refine ZgH hji oq λm m1 m2=>?_;have hms:=Z12 (i:=j) (j:=m) (pw:=h.C.pw) oq oq;have hmi:(m:Int)*h.C.pw<=i*h.C.pw:=L7 oq oq;rcases o.2.1 with k | k
 .have pp:=Z0K g.p o.1;omega
 .by_cases q:(h.P.getD m M).K=3
  .exact q
  .have:=Z4e g.p m1 oq (Lb k) q;omega
theorem Gd.badd{i k:Nat}(hi:i<h.P.length)(hk:(k:Int)<h.C.pw):badD h i (Z3O h i) k=Lg:=by
 have po:=Z07 g.p;unfold badD;have ew:Z4s h i k=(loadA h.W (bsP h i+k)).1:=by
  unfold Z4s address;rw[if_pos po.1,if_pos (inB_iff.2 ⟨by omega,by omega,by omega,by omega⟩)];unfold bsP;simp only;rw[LR]
 rw[ew];by_cases h0:(loadA h.W (bsP h i+k)).1=0
 .rw[h0];simp
 .obtain⟨j,x,hx,h1,h2⟩:=g.d _ h0;have hr:=Z0e h.W x;have hkp:kpA h.W x<=hlA h.W x+1:=by unfold kpA;split<;>omega
  have hh:=g.head hx h1 oq hi oq oq;have hb:(Z3O h i).getD k M=O:=by
   unfold Z3O Z1B;rw[hh,g.page (g.on hx).1];have hkk:k<h.C.pw.toNat:=by omega
   simp only[Ld,List.getElem?_map,List.getElem?_range hkk,Option.map_some,Xo,List.any_eq_true];refine⟨x,hx, ?_⟩;unfold ZaV;have ek:Z9a h x=kpA h.W x:=by
    unfold Z9a kpA;rw[g.at' hx];rw[Z6q];rfl
   rw[ek,LL,decide_eq_true_eq,decide_eq_true_eq];unfold bsP at h1 h2;omega
  rw[hb];simp
theorem Gd.dirt{i:Nat}(hi:i<h.P.length):Z4b h i (Z3O h i)=0:=by
 have hl:=ZbH h i;unfold Z4b;have:(Lp (Z3O h i).length).find? (badD h i (Z3O h i))=LB:=by
  rw[Lq];intro k hk;have hk:=Lo.1 hk;rw[g.badd hi oq];simp
 rw[this]
theorem Gd.cls{i:Nat}{x:Int}(hx:x∈T i):Z2F h i x=Lg:=by
 have o:=g.on hx;unfold Z2F;rw[g.at' hx,Z6q,Ls];rcases o.2.1 with k | k
 .have:=(g.t1 i o.1 k).2 x hx;rw[k];simp;omega
 .have t:=g.t2 i o.1 k;have hx2:=(o.2.2.2.2.2.2 k).1;have:(hdA h.W x).K≠0:=by rw[hx2];exact t.2.2.2
  rw[k];simp;exact this
theorem Gd.pageF{i:Nat}(hi:i<h.P.length):(pageF h i).fault=0:=by
 have hs:=g.sp i hi;have hc:Z2l h i (T i)=0:=by
  unfold Z2l;have:(T i).find? (Z2F h i)=LB:=by
   rw[Lq];intro x hx;rw[g.cls hx];simp
  rw[this];rfl
 unfold Go.Proofs.YtgedmeaemofdkaaGreat.pageF;rw[if_neg (by rintro⟨q1,q2⟩;exact q2 (hs q1)),g.page hi,if_neg pq,if_neg (by rw[hc];simp),if_neg (by rw[g.dirt hi];simp)]
theorem Gd.fields{i:Nat}{x:Int}(hx:x∈T i)(hk:kdA h.W x≠0):getH h x=(hdA h.W x,0)/\((Z0v h x).1.length:Int)=hlA h.W x/\∀ k:Nat,(k:Int)<hlA h.W x->(Z0v h x).1.getD k M=(loadA h.W (x+1+k)).1:=by
 have n:=g.inw hx;have r:=Z0e h.W x;have eg:getH h x=(hdA h.W x,0):=by
  unfold getH;rw[if_pos g.p,if_neg oq,g.at' hx,if_neg];rintro⟨_,q⟩;exact hk q
 have ef:Z0v h x=Z18 h.W (x+1) (hlA h.W x):=by
  unfold Z0v;rw[eg,if_pos rfl];rfl
 refine⟨eg, ?_, ?_⟩
 .rw[ef];unfold Z18;rw[if_neg oq,if_pos oq];simp only[LY,LW];omega
 .intro k hk;rw[ef];exact ZkK r.1 oq hk
theorem Gd.good:Z0R h=⟨0,0,0⟩:=by
 have ob:=g.objs;have h1:Z5u h=LB:=by
  unfold Z5u;rw[Lq];intro i hi;have:=g.pageF (Lo.1 hi);simp[this]
 have h2:Z0W h (Z04 h).1=⟨0,0,0⟩:=by
  unfold Z0W;have:(Lp (Z04 h).1.length).find? (λi=>(Z27 h (Z04 h).1 i).isSome)=LB:=by
   rw[Lq];intro i hi;have hm:(Z04 h).1.getD i M∈(Z04 h).1:=getD_mem_iff.2 ⟨i,Lo.1 hi,rfl⟩;have:Z27 h (Z04 h).1 i=LB:=by
    unfold Z27;generalize (Z04 h).1.getD i M=x at hm ⊢;obtain⟨j,hj,hkd⟩:=(ob.2 x).1 hm;have f:=g.fields hj hkd;rw[Lq];intro k hk;have hk:=Lo.1 hk;have hk2:(k:Int)<hlA h.W x:=by omega
    unfold ZcH;rw[f.1,f.2.2 k hk2];intro hc;simp only[LL,Bool.not_eq_true',decide_eq_true_eq,decide_eq_false_iff_not]at hc;rcases g.q j x k hj hkd oq hk2 hc.1.1 with q | ⟨m,q1,q2⟩
    .exact hc.1.2 q
    .exact hc.2 ((ob.2 _).2 ⟨m,q1,q2⟩)
   rw[this];simp
  rw[this]
 unfold Z0R;rw[if_pos g.p,h1];simp only[h2,ne_eq,not_true_eq_false,if_false];rw[if_neg];have:=g.cr;show ¬ h.C.pg/4<(crowd h.P:Int);omega
theorem Gd.refers{s:List Int}(hs:∀ r∈s,r=0\/Ob h T r):Z0i h s=O:=by
 unfold Z0i;rw[LL,decide_eq_true_eq];refine⟨g.good, ?_⟩;have:(Lp s.length).find? (rfsB s (Z04 h).1)=LB:=by
  rw[Lq];intro i hi;have hm:s.getD i M∈s:=getD_mem_iff.2 ⟨i,Lo.1 hi,rfl⟩;unfold rfsB;rw[decide_eq_true_eq];rintro⟨q1,q2⟩;rcases hs _ hm with q | q
  .exact q1 q
  .exact q2 ((g.objs.2 _).2 q)
 rw[this];rfl
end
def decode_encode{hd:Header}(hv:Z0c hd=O)(hm:0<=hd.map/\hd.map<=4294967295):decodeH (Z0a hd).1=(hd,O):=by
 have b:=validH_iff.1 hv;have e1:Z0a hd=(1+4*hd.K+16*hd.length+65536*hd.map,0):=by rw[Z0a,if_pos hv]
 have e2:Z2I (1+4*hd.K+16*hd.length+65536*hd.map)=hd:=by
  obtain⟨k,l,m⟩:=hd;simp only at b hm;simp only[Z2I,Header.mk.injEq];omega
 rw[e1];unfold decodeH;simp only[e2,e1];simp
def Z7I{l l':List Page}:∀ n:Nat,(∀ i,i<n->(l'.getD i M).K=1->0<(l'.getD i M).N->(l.getD i M).K=1/\0<(l.getD i M).N)->Z0L l' n<=Z0L l n
 | 0,_=>Lj _
 | n+1,hh=>by
  have ih:=Z7I n λi hi=>hh i oq;have hn:=hh n oq;unfold Z0L;split
  .rename_i c;rw[if_pos (hn c.1 c.2)];omega
  .split<;>omega
def Z9u{l:List Page}{i:Nat}{p:Page}(hi:i<l.length):∀ n:Nat,Z0L (l.set i p) n<=Z0L l n+1/\(n<=i->Z0L (l.set i p) n<=Z0L l n)
 | 0=>⟨by simp[Z0L],λ_=>Lj _⟩
 | n+1=>by
  obtain⟨i1,i2⟩:=Z9u (p:=p) hi n;unfold Z0L;rw[Z0o hi];by_cases q:i=n
  .have:=i2 oq;subst q;refine⟨?_,λq=>by omega⟩;split<;>split<;>omega
  .rw[if_neg q];refine⟨?_,λq2=>?_⟩
   .split<;>omega
   .have:=i2 oq;split<;>omega
def Z66{l l':List Page}(hl:l'.length=l.length)(hh:∀ i,i<l.length->(l'.getD i M).K=1->0<(l'.getD i M).N->(l.getD i M).K=1/\0<(l.getD i M).N):crowd l'<=crowd l:=by
 unfold crowd;rw[hl];exact Z7I _ hh
def Gd.P{h h':Heap}{T:Nat->List Int}(g:Gd h T)(hp:Z03 h'=O)(hc:h'.C=h.C)(hw:h'.W=h.W)(hs:h'.S=h.S)(hl:h'.P.length=h.P.length)
  (hh:∀ i,i<h.P.length->(h'.P.getD i M).K=(h.P.getD i M).K/\(h'.P.getD i M).S=(h.P.getD i M).S/\(h'.P.getD i M).U=(h.P.getD i M).U) (hcr:(crowd h'.P:Int)<=h.C.pg/4):Gd h' T:=by
 have hb:∀ i,bsP h' i=bsP h i:=λi=>by rw[bsP,bsP,hc]
 refine⟨hp, ?_, ?_, ?_, ?_,by rw[hw];exact g.d,by rw[hw];exact g.q,by rw[hc];exact hcr⟩
 .intro i hi hk;rw[hl]at hi;rw[(hh i hi).1]at hk;rw[(hh i hi).2.1,hs];exact g.sp i hi hk
 .intro i hi hk;rw[hl]at hi;rw[(hh i hi).1]at hk;rw[(hh i hi).2.2,hw,hb,hc];exact g.t1 i hi hk
 .intro i hi hk;rw[hl]at hi;rw[(hh i hi).1]at hk;rw[(hh i hi).2.2,hw,hb];exact g.t2 i hi hk
 .intro i x hx;have t:=g.t0 i x hx;rw[hl,(hh i t.1).1];exact t
def Gd.store{h:Heap}{T:Nat->List Int}(g:Gd h T){x k v:Int}(hx:Ob h T x)(hk:0<=k/\k<hlA h.W x)(hv:Z0b (hdA h.W x) k=O->v=0\/Ob h T v) :
  Gd { h with W:=(Z0D h.W (x+1+k) v).1 } T/\(∀ i y,y∈T i->(loadA (Z0D h.W (x+1+k) v).1 y).1=(loadA h.W y).1):=by
 obtain⟨j,hj,hkd⟩:=hx;have n:=g.inw hj;have hin:4096<=x+1+k/\x+1+k<4096+h.W.length:=by omega
 have hlen:=Z2x (ws:=h.W) (v:=v) hin;have key:∀ i y,y∈T i->(loadA (Z0D h.W (x+1+k) v).1 y).1=(loadA h.W y).1:=by
  intro i y hy;rw[Z0z hin];intro e;have:=g.sep hj hy oq;omega
 have ky:∀ i y,y∈T i->okA h.W y/\okA (Z0D h.W (x+1+k) v).1 y/\hlA (Z0D h.W (x+1+k) v).1 y=hlA h.W y/\kdA (Z0D h.W (x+1+k) v).1 y=kdA h.W y/\hdA (Z0D h.W (x+1+k) v).1 y=hdA h.W y/\kpA (Z0D h.W (x+1+k) v).1 y=kpA h.W y:=by
  intro i y hy;have o:=Z23 (key i y hy);have:=(g.on hy).2.2.2.2.2.1;exact⟨this,o.1 this,o.2⟩
 refine⟨⟨?_,g.sp, ?_, ?_,g.t0, ?_, ?_,g.cr⟩,key⟩
 .have q:=g.p;rw[Z1y]at q ⊢;refine⟨q.1, ?_,q.2.2.1,q.2.2.2.1,q.2.2.2.2.1,q.2.2.2.2.2⟩;simp only[hlen];exact q.2.1
 .intro i hi hk1;have t:=g.t1 i hi hk1;exact⟨Z2g t.1 λy hy=>⟨(ky i y hy).2.1,(ky i y hy).2.2.1⟩,λy hy=>by rw[(ky i y hy).2.2.1];exact t.2 y hy⟩
 .intro i hi hk2;have t:=g.t2 i hi hk2;have q:=ky i (bsP h i) (by rw[t.1];simp);refine⟨t.1,q.2.1, ?_, ?_⟩
  .exact q.2.2.1▸t.2.2.1
  .exact q.2.2.2.1▸t.2.2.2
 .intro a ha;by_cases e:a=x+1+k
  .refine⟨j,x,hj,by omega, ?_⟩;simp only;rw[(ky j x hj).2.2.2.2.2,kpA,if_neg hkd];omega
  .simp only at ha;rw[Z0z hin e]at ha;obtain⟨i,y,hy,h1,h2⟩:=g.d a ha;refine⟨i,y,hy,h1, ?_⟩;simp only;rw[(ky i y hy).2.2.2.2.2];exact h2
 .intro i y m hy hkd2 h0 h1 hp;simp only at hkd2 h1 hp ⊢;obtain⟨c0,c1,c2,c3,c4,c5⟩:=ky i y hy;rw[c3]at hkd2;rw[c2]at h1;rw[c4]at hp;have fin:∀ z,z=0\/Ob h T z->z=0\/∃ j,z∈T j/\kdA (Z0D h.W (x+1+k) v).1 z≠0:=by
   rintro z (q | ⟨b,b1,b2⟩)
   .exact La q
   .exact Lb ⟨b,b1,by rw[(ky b z b1).2.2.2.1];exact b2⟩
  by_cases e:y+1+m=x+1+k
  .have hyx:y=x:=by
    rcases Int.lt_trichotomy y x with q | q | q
    .have:=g.sep hy hj q;omega
    .exact q
    .have:=g.sep hj hy q;omega
   subst hyx;have hmk:m=k:=by omega
   subst hmk;rw[Z2y hin];exact fin _ (hv hp)
  .rw[Z0z hin e];exact fin _ (g.q i y m hy hkd2 h0 h1 hp)
def Gd.add{h h':Heap}{T:Nat->List Int}(g:Gd h T){i:Nat}{a:Int}{hd:Header}(hv:Z0c hd=O)(hm:0<=hd.map/\hd.map<=4294967295)(hk:hd.K≠0)
  (hp:Z03 h'=O) (hc:h'.C=h.C) (hs:h'.S=h.S) (hl:h'.P.length=h.P.length) (hw:h'.W=(Z0r h.W a (objW hd)).1)
  (hin:4096<=a/\a+sizeH hd<=4096+h.W.length) (hi:i<h.P.length)
  (hj:∀ j,j<h.P.length->j≠i->h'.P.getD j M=h.P.getD j M\/((h.P.getD j M).K=0/\(h'.P.getD j M).K=3/\(h'.P.getD j M).S=h.S))
  (hI:((h.P.getD i M).K=0\/(h.P.getD i M).K=1)/\(h'.P.getD i M).K=1/\a=bsP h i+occP (h.P.getD i M)/\(h'.P.getD i M).U=occP (h.P.getD i M)+sizeH hd/\sizeH hd<=Z00 h.C\/(h.P.getD i M).K=0/\(h'.P.getD i M).K=2/\a=bsP h i/\(h'.P.getD i M).U=sizeH hd)
  (hsp:(h'.P.getD i M).S=h.S) (hcr:crowd h'.P<=crowd h.P) (hdis:∀ j x,x∈T j->x+hlA h.W x<a\/a+sizeH hd<=x) :
  Gd h' (λj=>if j=i then T i++[a]else T j)/\kdA h'.W a≠0/\hdA h'.W a=hd/\(∀ k,a<k->k<a+sizeH hd->(loadA h'.W k).1=0)/\(∀ k,k<a\/a+sizeH hd<=k->loadA h'.W k=loadA h.W k):=by
 have ow:=ZiD hv hm;have hs1:sizeH hd=hd.length+1:=by rw[sizeH,if_pos hv]
 have vb:=validH_iff.1 hv;have hin':4096<=a/\a-4096+(objW hd).length<=h.W.length:=by omega
 have out:∀ k,k<a\/a+sizeH hd<=k->loadA h'.W k=loadA h.W k:=by
  intro k hk;rw[hw];exact Z20 hin' oq
 have wa:(loadA h'.W a).1=(Z0a hd).1:=by
  rw[hw,Z1R hin' oq];simp[objW]
 have z:∀ k,a<k->k<a+sizeH hd->(loadA h'.W k).1=0:=by
  intro k h1 h2;rw[hw,Z1R hin' oq];have:(k-a).toNat=(k-a-1).toNat+1:=by omega
  rw[this,objW];simp[Ld,LH];split<;>rfl
 have de:=decode_encode hv hm;have ha1:hdA h'.W a=hd:=by rw[hdA,wa,de]
 have ha2:okA h'.W a:=by rw[okA,wa,de]
 have ha3:hlA h'.W a=hd.length:=by rw[hlA,wa,de]
 have ha4:kdA h'.W a≠0:=by rw[kdA,ha1];exact hk
 have hb:∀ j,bsP h' j=bsP h j:=λj=>by rw[bsP,bsP,hc]
 have ky:∀ j x,x∈T j->okA h'.W x/\hlA h'.W x=hlA h.W x/\kdA h'.W x=kdA h.W x/\hdA h'.W x=hdA h.W x/\kpA h'.W x=kpA h.W x/\∀ m,0<=m->m<=hlA h.W x->loadA h'.W (x+m)=loadA h.W (x+m):=by
  intro j x hx;have d:=hdis j x hx;have r:=Z0e h.W x;have o:=Z23 (ws:=h.W) (ws':=h'.W) (a:=x) (by rw[out x oq]);refine⟨o.1 (g.on hx).2.2.2.2.2.1,o.2.1,o.2.2.1,o.2.2.2.1,o.2.2.2.2,λm h1 h2=>out _ oq⟩
 have mem:∀ j x,x∈(if j=i then T i++[a]else T j)->x∈T j\/(j=i/\x=a):=by
  intro j x hx;split at hx
  .rename_i q;subst q;rcases Lh.1 hx with hx | hx
   .exact La hx
   .exact Lb ⟨rfl,Li.1 hx⟩
  .exact La hx
 have mem2:∀ j x,x∈T j->x∈(if j=i then T i++[a]else T j):=by
  intro j x hx;split
  .rename_i q;subst q;exact Lf _ hx
  .exact hx
 have mem3:a∈(if i=i then T i++[a]else T i):=by simp
 have hnil:(h.P.getD i M).K=0->T i=[]:=λq=>L9.2 λx hx=>by have:=(g.t0 i x hx).2;omega
 refine⟨⟨hp, ?_, ?_, ?_, ?_, ?_, ?_, ?_⟩,ha4,ha1,z,out⟩
 .intro j hj1 hk1;rw[hl]at hj1;rw[hs];by_cases q:j=i
  .subst q;exact hsp
  .rcases hj j hj1 q with e | e
   .rw[e]at hk1 ⊢;exact g.sp j hj1 hk1
   .exact e.2.2
 .intro j hj1 hk1;rw[hl]at hj1;rw[hb,hc];by_cases q:j=i
  .subst q;simp only[if_true];rcases hI with⟨c1,c2,c3,c4,c5⟩ | c
   .refine⟨?_, ?_⟩
    .have last:tile h'.W a (bsP h j+(h'.P.getD j M).U) [a]:=⟨rfl,ha2,by rw[ha3];simp only[tile];omega⟩
     refine Zb1 (b:=a) ?_ last;rcases c1 with c1 | c1
     .rw[hnil c1];rw[occP,if_pos c1]at c3;simp only[tile];omega
     .have t:=(g.t1 j hi c1).1;rw[occP,if_neg oq]at c3;rw[c3];exact Z2g t λx hx=>⟨(ky j x hx).1,(ky j x hx).2.1⟩
    .intro x hx;rcases Lh.1 hx with hx | hx
     .rw[(ky j x hx).2.1];rcases c1 with c1 | c1
      .rw[hnil c1]at hx;simp at hx
      .exact(g.t1 j hi c1).2 x hx
     .have:=Li.1 hx;subst this;omega
   .omega
  .rw[if_neg q];rcases hj j hj1 q with e | e
   .rw[e]at hk1 ⊢;have t:=g.t1 j hj1 hk1;exact⟨Z2g t.1 λx hx=>⟨(ky j x hx).1,(ky j x hx).2.1⟩,λx hx=>by rw[(ky j x hx).2.1];exact t.2 x hx⟩
   .omega
 .intro j hj1 hk2;rw[hl]at hj1;rw[hb];by_cases q:j=i
  .subst q;simp only[if_true];rcases hI with c | ⟨c1,c2,c3,c4⟩
   .omega
   .rw[hnil c1,<- c3,ha3];exact⟨rfl,ha2,by omega,ha4⟩
  .rw[if_neg q];rcases hj j hj1 q with e | e
   .rw[e]at hk2 ⊢;have t:=g.t2 j hj1 hk2;have k:=ky j (bsP h j) (by rw[t.1];simp);exact⟨t.1,k.1,by rw[k.2.1];exact t.2.2.1,by rw[k.2.2.1];exact t.2.2.2⟩
   .omega
 .intro j x hx;rw[hl];rcases mem j x hx with hx | ⟨q,_⟩
  .have t:=g.t0 j x hx;refine⟨t.1, ?_⟩;by_cases q:j=i
   .subst q;rcases hI with c | c<;>omega
   .rcases hj j t.1 q with e | e
    .rw[e];exact t.2
    .omega
  .subst q;exact⟨hi,by rcases hI with c | c<;>omega⟩
 .intro k hk0;by_cases hr:k<a\/a+sizeH hd<=k
  .rw[out k hr]at hk0;obtain⟨j,x,hx,h1,h2⟩:=g.d k hk0;exact⟨j,x,mem2 j x hx,h1,by rw[(ky j x hx).2.2.2.2.1];exact h2⟩
  .refine⟨i,a,mem3,by omega, ?_⟩;rw[kpA,if_neg ha4,ha3];omega
 .intro j x k hx hkd h0 h1 hpt;rcases mem j x hx with hx | ⟨_,q⟩
  .have c:=ky j x hx;rw[c.2.2.1]at hkd;rw[c.2.1]at h1;rw[c.2.2.2.1]at hpt;have e:=c.2.2.2.2.2 (1+k) oq oq;rw[<- LR]at e;rw[e];rcases g.q j x k hx hkd h0 h1 hpt with q | ⟨b,b1,b2⟩
   .exact La q
   .exact Lb ⟨b,mem2 b _ b1,by rw[(ky b _ b1).2.2.1];exact b2⟩
  .subst q;rw[ha3]at h1;exact La (z _ oq oq)
 .rw[hc];have:=g.cr;omega
structure NewOk (h h':Heap) (T:Nat->List Int) (hd:Header) (i:Nat) (a:Int):Prop where
 g:Gd h' (λj=>if j=i then T i++[a]else T j)
 k:kdA h'.W a≠0
 e:hdA h'.W a=hd
 z:∀ k,a<k->k<a+sizeH hd->(loadA h'.W k).1=0
 o:∀ k,k<a\/a+sizeH hd<=k->loadA h'.W k=loadA h.W k
 d:∀ j x,x∈T j->x+hlA h.W x<a\/a+sizeH hd<=x
 c:h'.C=h.C
def ZgB{c:Conf}{n:Int}(hn:¬ 0<need c n)(h0:0<=need c n):n<=Z00 c:=by
 unfold need at hn h0;split at h0
 .rename_i hc;rw[if_pos hc]at hn;have hb:=validB_iff.1 hc.1;rw[Z00,if_pos hc.1,LN oq];split at h0
  .rename_i hd;exact hd
  .rename_i hd;rw[if_neg hd]at hn;have e:=LS (n+c.pw-1) c.pw;have:=LC (n+c.pw-1) (b:=c.pw) oq;have hz:(n+c.pw-1)/c.pw=0:=by omega
   rw[hz]at e;omega
 .omega
def Gd.newOk{h:Heap}{T:Nat->List Int}(g:Gd h T){hd:Header}(hw:WOk h.W)(hm:0<=hd.map/\hd.map<=4294967295)(e:(new7 h hd).2.2=0):∃ i,NewOk h (new7 h hd).1 T hd i (new7 h hd).2.1:=by
 obtain⟨k1,k2,k3,k4,k5,k6,k7,k8⟩:=ZhG hw hm e;obtain⟨a1,a2,a3,a4,a5⟩:=Z7t k2;have po:=Z07 g.p;have hpt:=g.p;rw[Z1y]at hpt;obtain⟨p1,p2,p3,p4,p5,p6⟩:=hpt;have hin:4096<=(put7 h hd).2.1/\(put7 h hd).2.1+sizeH hd<=4096+h.W.length:=⟨k3.lo,k3.hi⟩
 have e1:(new7 h hd).1.C=h.C:=by rw[k6];exact k3.c
 have e2:(new7 h hd).1.S=h.S:=by rw[k6];exact k3.sp
 have e3:(new7 h hd).1.P.length=h.P.length:=by rw[k6];exact k3.l
 have e4:(new7 h hd).1.W=(Z0r h.W (put7 h hd).2.1 (objW hd)).1:=by rw[k6]
 have e5:(new7 h hd).1.P=(put7 h hd).1.P:=by rw[k6]
 rw[k5];have fin:∀ i:Nat,i<h.P.length->(∀ j,j<h.P.length->j≠i->(new7 h hd).1.P.getD j M=h.P.getD j M\/((h.P.getD j M).K=0/\((new7 h hd).1.P.getD j M).K=3/\((new7 h hd).1.P.getD j M).S=h.S)) ->
   ((h.P.getD i M).K=0\/(h.P.getD i M).K=1)/\((new7 h hd).1.P.getD i M).K=1/\(put7 h hd).2.1=bsP h i+occP (h.P.getD i M)/\((new7 h hd).1.P.getD i M).U=occP (h.P.getD i M)+sizeH hd/\sizeH hd<=Z00 h.C\/(h.P.getD i M).K=0/\((new7 h hd).1.P.getD i M).K=2/\(put7 h hd).2.1=bsP h i/\((new7 h hd).1.P.getD i M).U=sizeH hd ->
   ((new7 h hd).1.P.getD i M).S=h.S->crowd (new7 h hd).1.P<=crowd h.P->(∀ j x,x∈T j->x+hlA h.W x<(put7 h hd).2.1\/(put7 h hd).2.1+sizeH hd<=x)->∃ i,NewOk h (new7 h hd).1 T hd i (put7 h hd).2.1:=by
  intro i hi hj hI hsp hcr hdis;obtain⟨q1,q2,q3,q4,q5⟩:=g.add a1 hm a5 k7 e1 e2 e3 e4 hin hi hj hI hsp hcr hdis;exact⟨i,q1,q2,q3,q4,q5,hdis,e1⟩
 rw[e5]at fin;by_cases hn:0<need h.C (sizeH hd)
 .have e7:put7 h hd=Z0s h (sizeH hd) (need h.C (sizeH hd)):=by rw[put7,if_pos hn]
  rw[e7]at k4 fin ⊢;by_cases hg:0<=first h.P (need h.C (sizeH hd))/\Z1Z h.P+need h.C (sizeH hd)<=Z29 h.C
  .obtain⟨g1,g2,g3⟩:=Z1I hg.1;have el:(Z2E h.C h.P (first h.P (need h.C (sizeH hd))) h.S (sizeH hd)).1=tookP h.P (first h.P (need h.C (sizeH hd))).toNat (need h.C (sizeH hd)).toNat ⟨2,h.S,sizeH hd,0⟩ ⟨3,h.S,0,0⟩:=by
    rw[Z2E,if_pos ⟨g1,by omega⟩,Z2H,if_pos oq,if_pos g3]
   have e8:Z0s h (sizeH hd) (need h.C (sizeH hd))=(⟨h.C,h.W,tookP h.P (first h.P (need h.C (sizeH hd))).toNat (need h.C (sizeH hd)).toNat ⟨2,h.S,sizeH hd,0⟩ ⟨3,h.S,0,0⟩,h.S,h.B⟩,4096+first h.P (need h.C (sizeH hd))*h.C.pw,O):=by rw[Z0s,if_pos hg,el]
   have hf:∀ j,j<(need h.C (sizeH hd)).toNat->(h.P.getD ((first h.P (need h.C (sizeH hd))).toNat+j) M).K=0:=freeK_iff.1 g3;have hu:=Z4w g1;rw[e8]at fin ⊢;simp only at fin ⊢;generalize hk:need h.C (sizeH hd)=k at *;generalize hfi:first h.P k=f at *
   have hge:∀ j,(tookP h.P f.toNat k.toNat ⟨2,h.S,sizeH hd,0⟩ ⟨3,h.S,0,0⟩).getD j M=if j=f.toNat then⟨2,h.S,sizeH hd,0⟩else if f.toNat<j/\j<f.toNat+k.toNat then⟨3,h.S,0,0⟩else h.P.getD j M:=Z8T oq oq;have h0:=hf 0 oq;rw[Xl]at h0;refine fin f.toNat oq ?_ ?_ ?_ ?_ ?_
   .intro j hj1 hj2;rw[hge,if_neg hj2];split
    .rename_i q;have:=hf (j-f.toNat) oq;rw[show f.toNat+(j-f.toNat)=j by omega]at this;exact Lb ⟨this,rfl,rfl⟩
    .exact La rfl
   .rw[hge,if_pos rfl];refine Lb ⟨h0,rfl, ?_,rfl⟩;rw[bsP,LU oq]
   .rw[hge,if_pos rfl]
   .refine Z66 (Z6p oq) λj hj1 q1 q2=>?_;rw[hge]at q1 q2;split at q1
    .simp at q1
    .rename_i c1;rw[if_neg c1]at q2;split at q1
     .simp at q1
     .rename_i c2;rw[if_neg c2]at q2;exact⟨q1,q2⟩
   .intro j x hx;have o:=g.on hx;have hr:=Z0e h.W x;unfold bsP at o;have hfe:((f.toNat:Nat):Int)=f:=by omega
    by_cases q:j<f.toNat
    .have:=Z4e g.p q oq o.2.1 oq;rw[hfe]at this;omega
    .have hjk:f.toNat+k.toNat<=j:=by
      by_cases q2:f.toNat+k.toNat<=j
      .exact q2
      .have:=hf (j-f.toNat) oq;rw[show f.toNat+(j-f.toNat)=j by omega]at this;omega
     have:=L7 (show f+k<=(j:Int) by omega) (show 0<=h.C.pw by omega);rw[L3]at this;omega
  .rw[Z0s,if_neg hg]at k4;simp at k4
 .have e7:put7 h hd=Z0j h (sizeH hd):=by rw[put7,if_neg hn]
  have hsm:=ZgB hn a4;have hsw:Z00 h.C<=h.C.pw:=by
   rw[Z00,if_pos p1,LN oq];omega
  rw[e7]at k4 fin ⊢;by_cases hf:Z7h h (sizeH hd)
  .have e8:Z0j h (sizeH hd)=(⟨h.C,h.W,Z2a h.P h.B.toNat (sizeH hd),h.S,h.B⟩,4096+h.B*h.C.pw+(h.P.getD h.B.toNat M).U,O):=by rw[Z0j,if_pos hf]
   unfold Z7h at hf;have hbi:h.B.toNat<h.P.length:=by omega
   have hk:(h.P.getD h.B.toNat M).K=1:=by omega
   have hbe:((h.B.toNat:Nat):Int)=h.B:=by omega
   have hoc:occP (h.P.getD h.B.toNat M)=(h.P.getD h.B.toNat M).U:=by rw[occP,if_neg oq]
   rw[e8,Z4Z]at fin;rw[e8];simp only at fin ⊢;refine fin h.B.toNat hbi ?_ ?_ ?_ ?_ ?_
   .intro j hj1 hj2;rw[Z0o hbi,if_neg (λq=>hj2 q.symm)];exact La rfl
   .rw[Z0o hbi,if_pos rfl,hoc];refine La ⟨Lb hk,hk, ?_,rfl,hsm⟩;rw[bsP,hbe]
   .rw[Z0o hbi,if_pos rfl];exact hf.2.1
   .refine Z66 (by rw[Ll]) λj hj1 q1 q2=>?_;rw[Z0o hbi]at q1 q2;split at q1
    .rename_i c;rw[if_pos c]at q2;subst c;exact⟨q1,q2⟩
    .rename_i c;rw[if_neg c]at q2;exact⟨q1,q2⟩
   .intro j x hx;have:=g.free hbi (Lb hk) hx;rw[hoc,bsP,hbe]at this;omega
  .by_cases hg:0<=first h.P 1/\(Z1Z h.P:Int)<Z29 h.C
   .have e8:Z0j h (sizeH hd)=(⟨h.C,h.W,Z2a (Z37 h) (first h.P 1).toNat (sizeH hd),h.S,first h.P 1⟩,4096+first h.P 1*h.C.pw+((Z37 h).getD (first h.P 1).toNat M).U,O):=by rw[Z0j,if_neg hf,if_pos hg]
    obtain⟨g1,g2,g3⟩:=Z3P p4 hg.1 (sizeH hd);have g4:=congrArg Page.U (Z33 p4 hg.1).2.2.2;simp only at g4;have hbe:(((first h.P 1).toNat:Nat):Int)=first h.P 1:=by omega
    have hoc:occP (h.P.getD (first h.P 1).toNat M)=0:=by rw[occP,if_pos g2]
    rw[e8,g1,g4]at fin;rw[e8,g4];simp only at fin ⊢;refine fin (first h.P 1).toNat g3 ?_ ?_ ?_ ?_ ?_
    .intro j hj1 hj2;rw[Z0o g3,if_neg (λq=>hj2 q.symm)];exact La rfl
    .rw[Z0o g3,if_pos rfl,hoc];refine La ⟨La g2,rfl, ?_,by simp,hsm⟩;rw[bsP,hbe]
    .rw[Z0o g3,if_pos rfl]
    .refine Z66 (by rw[Ll]) λj hj1 q1 q2=>?_;rw[Z0o g3]at q1 q2;split at q1
     .rename_i c;rw[if_pos c]at q2;simp at q2
     .rename_i c;rw[if_neg c]at q2;exact⟨q1,q2⟩
    .intro j x hx;have:=g.free g3 (La g2) hx;rw[hoc,bsP,hbe]at this;omega
   .rw[Z0j,if_neg hf,if_neg hg]at k4;simp at k4
def RtOb(h:Heap)(T:Nat->List Int)(l:List Int):Prop:=∀ r∈l,r=0\/Ob h T r
def WG(w:WorldM):Prop:=∃ T,Gd w.heap T/\RtOb w.heap T w.G/\RtOb w.heap T w.E
def NewOk.ob{h h':Heap}{T:Nat->List Int}{hd:Header}{i:Nat}{a:Int}(n:NewOk h h' T hd i a){x:Int}(hx:Ob h T x):Ob h' (λj=>if j=i then T i++[a]else T j) x:=by
 obtain⟨j,hj,hk⟩:=hx;have r:=Z0e h.W x;have o:=Z23 (ws:=h.W) (ws':=h'.W) (a:=x) (by rw[n.o x (by have:=n.d j x hj;omega)]);refine⟨j, ?_,by rw[o.2.2.1];exact hk⟩;show x∈(if j=i then T i++[a]else T j);split
 .rename_i q;subst q;exact Lf _ hj
 .exact hj
def NewOk.ob0{h h':Heap}{T:Nat->List Int}{hd:Header}{i:Nat}{a:Int}(n:NewOk h h' T hd i a):Ob h' (λj=>if j=i then T i++[a]else T j) a :=
 ⟨i,by simp,n.k⟩
def WG.put{w:WorldM}(h:WG w)(hw:WOk w.heap.W){hd:Header}(hm:0<=hd.map/\hd.map<=4294967295):WG (w.put hd):=by
 unfold WorldM.put;split
 .rename_i e;obtain⟨T,g,g1,g2⟩:=h;obtain⟨i,n⟩:=g.newOk hw hm e;refine⟨_,n.g,λr hr=>?_,λr hr=>?_⟩
  .rcases Lh.1 hr with hr | hr
   .rcases g1 r hr with q | q
    .exact La q
    .exact Lb (n.ob q)
   .have:=Li.1 hr;subst this;exact Lb n.ob0
  .rcases g2 r hr with q | q
   .exact La q
   .exact Lb (n.ob q)
 .exact h
def WG.pick{w:WorldM}{T:Nat->List Int}(g1:RtOb w.heap T w.G)(g2:RtOb w.heap T w.E)(t:Tape):w.pick t=0\/Ob w.heap T (w.pick t):=by
 rcases Zfp w t with e | e | e
 .exact La e
 .exact g1 _ e
 .exact g2 _ e
def Gd.setf{h:Heap}{T:Nat->List Int}(g:Gd h T)(hw:WOk h.W){a i v:Int}(hv:0<=v/\v<=18446744073709551615)(ha:Ob h T a)(hi:0<=i/\i<(getH h a).1.length)(hp:Z0b (getH h a).1 i=O->v=0\/Ob h T v):Gd (Z0p h a i v).1 T/\∀ x,Ob h T x->Ob (Z0p h a i v).1 T x:=by
 obtain⟨j,hj,hk⟩:=ha;have f:=g.fields hj hk;obtain⟨s1,s2,s3⟩:=Z92 hw hv (a:=a) (i:=i) (by rw[f.1]) hi;rw[f.1]at hi hp;have q:=g.store (v:=v) ⟨j,hj,hk⟩ hi hp;rw[s1];refine⟨q.1, ?_⟩;rintro x ⟨m,m1,m2⟩;refine⟨m,m1, ?_⟩;have:=(Z23 (q.2 m x m1)).2.2.1;simp only;rw[this];exact m2
def WG.link{w:WorldM}{n:Nat}(h:WG w)(hm:MOk w n)(hn:n<=1000000)(t:Tape):WG (w.link t):=by
 unfold WorldM.link;split
 .rename_i hc;obtain⟨T,g,g1,g2⟩:=h;have hw:=hm.wm hn;have gg:=Z3I hc.1;have n1:=Z0T (w.pickT (w.pickT t)) (n:=8) dd;have hi:0<=Z5M w t/\Z5M w t<(getH w.heap (w.pick t)).1.length:=by
   unfold Z5M;rw[L8 n1.1];exact⟨LM _ oq,LC _ oq⟩
  have hv:0<=Z6l w t/\Z6l w t<=18446744073709551615:=by
   unfold Z6l;split
   .exact Z3g hw _
   .have:=Z0T ((w.pickT (w.pickT t)).step 8) (n:=1048576) dd;omega
  have ho:Ob w.heap T (w.pick t):=by
   rcases WG.pick g1 g2 t with q | q
   .omega
   .exact q
  have s:=g.setf hm.W hv ho hi (λq=>by
   unfold Z6l;rw[if_pos q];exact WG.pick g1 g2 _)
  exact⟨T,s.1,λr hr=>(g1 r hr).imp id (s.2 r),λr hr=>(g2 r hr).imp id (s.2 r)⟩
 .exact h
def WG.pinned{w:WorldM}(h:WG w){i:Nat}{d:Int}(hp:Z03 (pinB w i d).heap=O)(hi:i<w.heap.P.length)(hd:d=-1\/0<(w.heap.P.getD i M).N\/(w.heap.P.getD i M).K=2\/(crowd w.heap.P:Int)<w.heap.C.pg/4):WG (pinB w i d):=by
 obtain⟨T,g,g1,g2⟩:=h;have pp:=Z0K g.p hi;have ks:∀ j,j<w.heap.P.length->((pinB w i d).heap.P.getD j M).K=(w.heap.P.getD j M).K/\((pinB w i d).heap.P.getD j M).S=(w.heap.P.getD j M).S/\((pinB w i d).heap.P.getD j M).U=(w.heap.P.getD j M).U:=by
  intro j hj;simp only[pinB];rw[Z0o hi];split
  .rename_i q;subst q;exact⟨rfl,rfl,rfl⟩
  .exact⟨rfl,rfl,rfl⟩
 have hcr:(crowd (pinB w i d).heap.P:Int)<=w.heap.C.pg/4:=by
  have c0:=g.cr;have mono:(0<(w.heap.P.getD i M).N+d->(w.heap.P.getD i M).K=1->0<(w.heap.P.getD i M).N)->(crowd (pinB w i d).heap.P:Int)<=w.heap.C.pg/4:=by
   intro hh;have:crowd (pinB w i d).heap.P<=crowd w.heap.P:=by
    refine Z66 (by simp[pinB]) λj hj q1 q2=>?_;simp only[pinB]at q1 q2;rw[Z0o hi]at q1 q2;split at q1
    .rename_i c;rw[if_pos c]at q2;subst c;exact⟨q1,hh q2 q1⟩
    .rename_i c;rw[if_neg c]at q2;exact⟨q1,q2⟩
   omega
  rcases hd with q | q | q | q
  .exact mono oq
  .exact mono oq
  .exact mono oq
  .have:=(Z9u (p:=⟨(w.heap.P.getD i M).K,(w.heap.P.getD i M).S,(w.heap.P.getD i M).U,(w.heap.P.getD i M).N+d⟩) hi w.heap.P.length).1;have e:crowd (pinB w i d).heap.P=Z0L (w.heap.P.set i ⟨(w.heap.P.getD i M).K,(w.heap.P.getD i M).S,(w.heap.P.getD i M).U,(w.heap.P.getD i M).N+d⟩) w.heap.P.length:=by
    simp only[crowd,pinB,Ll]
   have e2:crowd w.heap.P=Z0L w.heap.P w.heap.P.length:=rfl;omega
 exact⟨T,g.P hp rfl rfl rfl (by simp[pinB]) ks hcr,g1,g2⟩
def WG.pok{w:WorldM}(h:WG w):POk w:=by
 obtain⟨T,g,g1,g2⟩:=h;have k:∀ l,RtOb w.heap T l->∀ r∈l,RootOn w.heap r:=λl hl r hr=>by
  rcases hl r hr with rfl | ⟨j,hj,_⟩
  .exact Znv _
  .intro _;rw[g.ofx hj];simpa using (g.on hj).2.1
 exact⟨g.p,k _ g1,k _ g2⟩
def WG.pin{w:WorldM}{n:Nat}(h:WG w)(hm:MOk w n)(hn:n<=1000000)(t:Tape):WG (w.pin t):=by
 have p1:=(h.pok.pin hm hn t).p;unfold WorldM.pin at p1 ⊢;split
 .rename_i e;rw[if_pos e]at p1;have o:=Z3F hm.hv e;have hpl:=hm.pl;have hi:pinI w t<w.heap.P.length:=by unfold pinI;omega
  split
  .rename_i c;rw[if_pos c]at p1;exact h.pinned p1 hi (La rfl)
  .rename_i c;rw[if_neg c]at p1;split
   .rename_i c2;rw[if_pos c2]at p1;exact h.pinned p1 hi (Lb c2)
   .exact h
 .exact h
def WG.drop{w:WorldM}(h:WG w)(t:Tape):WG (w.drop t):=by
 unfold WorldM.drop;split
 .rename_i hl;obtain⟨T,g,g1,g2⟩:=h;have n1:=Z0T t (n:=(w.G.length:Int)) oq;refine⟨T,g,λr hr=>?_,λr hr=>?_⟩
  .rcases Lh.1 hr with hr | hr
   .exact g1 r (L1 hr)
   .exact g1 r (L0 hr)
  .simp only at hr;split at hr
   .rcases Lh.1 hr with hr | hr
    .exact g2 r hr
    .simp only[Li]at hr;subst hr;refine g1 _ (getD_mem_iff.2 ⟨_, ?_,rfl⟩);unfold Zjd;omega
   .exact g2 r hr
 .exact h
def WG.dup{w:WorldM}(h:WG w)(t:Tape):WG (w.dup t):=by
 obtain⟨T,g,g1,g2⟩:=h;refine⟨T,g,λr hr=>?_,g2⟩;rcases Lh.1 hr with hr | hr
 .exact g1 r hr
 .simp only[Li]at hr;subst hr;exact WG.pick g1 g2 _
def Zjl(t:Tape):WG t.empty:=by
 have hpr:=(Zib t).p;have hv:=Z2G t;have hb:=validB_iff.1 hv;have hz:∀ j,(t.empty.heap.P.getD j M).K=0/\(t.empty.heap.P.getD j M).N=0:=by
  intro j;simp only[Tape.empty,Z2S,Ld,LH];split
  .exact⟨rfl,rfl⟩
  .exact⟨rfl,rfl⟩
 refine⟨λ_=>[],⟨hpr, ?_, ?_, ?_,by simp, ?_,by simp, ?_⟩,by simp[RtOb,Tape.empty],by simp[RtOb,Tape.empty]⟩
 .intro i _ hk;exact absurd (hz i).1 hk
 .intro i _ hk;rw[(hz i).1]at hk;omega
 .intro i _ hk;rw[(hz i).1]at hk;omega
 .intro a ha;exfalso;apply ha;show(loadA (Ly (t.C.pw*t.C.pg).toNat 0) a).1=0;unfold loadA;by_cases c:4096<=a/\a<4096+((Ly (t.C.pw*t.C.pg).toNat (0:Int)).length:Int)
  .rw[if_pos c];simp only[Ld,LH];split<;>rfl
  .rw[if_neg c]
 .have:crowd t.empty.heap.P=0:=by
   have h0:∀ n,Z0L t.empty.heap.P n=0:=by
    intro n;induction n with
    | zero=>rfl
    | succ n ih =>
     unfold Z0L;rw[ih,if_neg (by rw[(hz n).1];omega)]
   exact h0 _
  rw[this];show(0:Int)<=t.C.pg/4;omega
def Z9J{w:Work}{n:Int}(hw:WkOk w)(hn:1<=n/\n<=w.heap.C.pw)(h:(w.place n).2.2=O) :
  ∃ (i:Nat) (p:Page) (t:List Int),i<w.heap.P.length/\((w.heap.P.getD i M).K=0/\t=w.T++[(i:Int)]/\p.N=0\/(i:Int)∈w.T/\(w.heap.P.getD i M).K=1/\t=w.T/\p.N=(w.heap.P.getD i M).N)/\p.K=1/\p.U=occP (w.heap.P.getD i M)+n/\occP (w.heap.P.getD i M)+n<=w.heap.C.pw/\0<=occP (w.heap.P.getD i M)/\(w.place n).2.1=4096+i*w.heap.C.pw+occP (w.heap.P.getD i M) /\
  (w.place n).1=⟨⟨w.heap.C,w.heap.W,w.heap.P.set i p,w.heap.S,w.heap.B⟩,w.old,t,w.Q,w.D,w.rep⟩:=by
 by_cases hf:Z4u w n
 .have e:w.place n=(⟨⟨w.heap.C,w.heap.W,Z2a w.heap.P (Z0S w).toNat n,w.heap.S,w.heap.B⟩,w.old,w.T,w.Q,w.D,w.rep⟩,4096+Z0S w*w.heap.C.pw+(w.heap.P.getD (Z0S w).toNat M).U,O):=by rw[Work.place,if_pos hf]
  unfold Z4u at hf;have hm:=hw.tk _ (Z1u hf.1);have hu:=hw.us (Z0S w).toNat oq
  have hoc:occP (w.heap.P.getD (Z0S w).toNat M)=(w.heap.P.getD (Z0S w).toNat M).U:=by rw[occP,if_neg oq]
  have hle:(((Z0S w).toNat:Nat):Int)=Z0S w:=by omega
  refine⟨(Z0S w).toNat,⟨(w.heap.P.getD (Z0S w).toNat M).K,(w.heap.P.getD (Z0S w).toNat M).S,(w.heap.P.getD (Z0S w).toNat M).U+n,(w.heap.P.getD (Z0S w).toNat M).N⟩,w.T,by omega,Lb ⟨by rw[hle];exact Z1u hf.1,hm.2.2,rfl,rfl⟩,hm.2.2, ?_,by rw[hoc];omega,by rw[hoc];omega, ?_, ?_⟩
  .rw[hoc]
  .rw[e,hoc,hle]
  .rw[e,Z4Z]
 .by_cases hg:0<=Z0q w
  .have e:w.place n=(⟨⟨w.heap.C,w.heap.W,Z2a (Z2w w) (Z0q w).toNat n,w.heap.S,w.heap.B⟩,w.old,w.T++[Z0q w],w.Q,w.D,w.rep⟩,4096+Z0q w*w.heap.C.pw,O):=by rw[Work.place,if_neg hf,if_pos hg]
   obtain⟨g1,g2,g3⟩:=Z3P (h:=⟨w.heap.C,w.heap.W,w.heap.P,1-w.heap.S,w.heap.B⟩) (by have:=hw.sp;simp only;omega) hg n;have g1':Z2a (Z2w w) (Z0q w).toNat n=w.heap.P.set (Z0q w).toNat ⟨1,1-w.heap.S,n,0⟩:=g1;have g2':(w.heap.P.getD (Z0q w).toNat M).K=0:=g2;have g3':(Z0q w).toNat<w.heap.P.length:=g3;have hoc:occP (w.heap.P.getD (Z0q w).toNat M)=0:=by rw[occP,if_pos g2']
   have hle:(((Z0q w).toNat:Nat):Int)=Z0q w:=by omega
   refine⟨(Z0q w).toNat,⟨1,1-w.heap.S,n,0⟩,w.T++[Z0q w],g3',La ⟨g2',by rw[hle],rfl⟩,rfl,by rw[hoc];simp,by rw[hoc];omega,by rw[hoc];omega, ?_, ?_⟩
   .rw[e,hoc,hle];simp
   .rw[e,g1']
  .rw[Work.place,if_neg hf,if_neg hg]at h;simp at h
structure KI (h:Heap) (T tq:Nat->List Int) (w:Work):Prop where
 c:w.heap.C=h.C
 sp:w.heap.S=h.S
 old:∀ x,x∈w.old↔Ob h T x
 pl:w.heap.P.length=h.P.length
 wl:w.heap.W.length=h.W.length
 pg:∀ i:Nat,(i:Int)∉w.T->(w.heap.P.getD i M).K=(h.P.getD i M).K/\(w.heap.P.getD i M).U=(h.P.getD i M).U/\(w.heap.P.getD i M).N=(h.P.getD i M).N
 tk:∀ i:Nat,(i:Int)∈w.T->i<h.P.length/\(h.P.getD i M).K=0/\(w.heap.P.getD i M).K=1/\(w.heap.P.getD i M).N=0/\(w.heap.P.getD i M).U<=h.C.pw/\tile w.heap.W (bsP h i) (bsP h i+(w.heap.P.getD i M).U) (tq i)/\∀ x∈tq i,x∈w.Q/\kdA w.heap.W x≠0/\hlA w.heap.W x+1<=Z00 h.C
 tk0:∀ i:Nat,(i:Int)∉w.T->tq i=[]
 q:∀ x∈w.Q,(∃ i:Nat,(i:Int)∉w.T/\x∈T i/\kdA h.W x≠0/\(w.heap.P.getD i M).S≠w.heap.S)\/(∃ i:Nat,(i:Int)∈w.T/\x∈tq i)
 hd:∀ i x,x∈T i->(loadA w.heap.W x).1=(loadA h.W x).1\/((Z0m (loadA w.heap.W x).1).2=O/\(w.heap.P.getD i M).K=1/\(w.heap.P.getD i M).S=w.heap.S)
 dt:∀ a,(loadA w.heap.W a).1≠0->(∃ i x,x∈T i/\x<=a/\a<x+kpA h.W x)\/(∃ i:Nat,(i:Int)∈w.T/\bsP h i<=a/\a<bsP h i+(w.heap.P.getD i M).U)
 lg:∀ i:Nat,(h.P.getD i M).K=2->(w.heap.P.getD i M).S≠w.heap.S->bsP h i∈w.Q
section
variable {h:Heap} {T:Nat->List Int} (g:Gd h T)
include g
theorem KI.nt{tq:Nat->List Int}{w:Work}(k:KI h T tq w){i:Nat}{x:Int}(hx:x∈T i):(i:Int)∉w.T:=by
 intro q;have:=(k.tk i q).2.1;have:=(g.t0 i x hx).2;omega
theorem KI.sepT{tq:Nat->List Int}{w:Work}(k:KI h T tq w){i j:Nat}{x y:Int}(hi:(i:Int)∈w.T)(hx:x∈tq i)(hy:y∈T j):bsP h i<=x/\x+hlA w.heap.W x<bsP h i+h.C.pw/\(y+hlA h.W y<bsP h i\/bsP h i+h.C.pw<=y):=by
 have t:=k.tk i hi;have m:=Z1C t.2.2.2.2.2.1 hx;have f:=g.free t.1 (La t.2.1) hy;rw[occP,if_pos t.2.1]at f;exact⟨m.2.1,by omega,by omega⟩
omit g in
theorem KI.sepQ(g:Gd h T){tq:Nat->List Int}{w:Work}(k:KI h T tq w){i j:Nat}{x y:Int}(hi:(i:Int)∈w.T)(hx:x∈tq i)(hj:(j:Int)∈w.T)(hy:y∈tq j)(hxy:x<y):x+hlA w.heap.W x<y:=by
 have t:=k.tk i hi;have u:=k.tk j hj;have m:=Z1C t.2.2.2.2.2.1 hx;have n:=Z1C u.2.2.2.2.2.1 hy;have po:=Z07 g.p;have r:=Z0e w.heap.W y;unfold bsP at m n;rcases LQ i j with q | q | q
 .have:=Z12 (i:=i) (j:=j) (pw:=h.C.pw) oq oq;omega
 .subst q;exact Zbi t.2.2.2.2.2.1 hx hy hxy
 .have:=Z12 (i:=j) (j:=i) (pw:=h.C.pw) oq oq;omega
theorem KI.withWords{tq:Nat->List Int}{w:Work}(k:KI h T tq w){l:List Int}(hl:l.length=w.heap.W.length)(h1:∀ i x,x∈T i->(loadA l x).1=(loadA w.heap.W x).1)(h2:∀ (i:Nat) x,(i:Int)∈w.T->x∈tq i->(loadA l x).1=(loadA w.heap.W x).1)
  (h3:∀ a,(loadA l a).1≠0->(loadA w.heap.W a).1≠0\/(∃ i x,x∈T i/\x<=a/\a<x+kpA h.W x)\/(∃ i:Nat,(i:Int)∈w.T/\bsP h i<=a/\a<bsP h i+(w.heap.P.getD i M).U)) :
  KI h T tq ⟨⟨w.heap.C,l,w.heap.P,w.heap.S,w.heap.B⟩,w.old,w.T,w.Q,w.D,w.rep⟩:=by
 refine⟨k.c,k.sp,k.old,k.pl,hl.trans k.wl,k.pg, ?_,k.tk0,k.q, ?_, ?_,k.lg⟩
 .intro i hi;obtain⟨t1,t2,t3,t4,t5,t6,t7⟩:=k.tk i hi;have ky:=λx hx=>Z23 (h2 i x hi hx);refine⟨t1,t2,t3,t4,t5,Z2g t6 λx hx=>⟨(ky x hx).1 (Z1C t6 hx).1,(ky x hx).2.1⟩,λx hx=>?_⟩;have:=t7 x hx;simp only;rw[(ky x hx).2.2.1,(ky x hx).2.1];exact this
 .intro i x hx;simp only;rw[h1 i x hx];exact k.hd i x hx
 .intro a ha;rcases h3 a ha with q | q
  .exact k.dt a q
  .exact q
theorem KI.keep{tq:Nat->List Int}{w:Work}(k:KI h T tq w){r:Int}{i:Nat}(hi:r∈T i)(hk:kdA h.W r≠0)(hs:(w.heap.P.getD i M).S≠w.heap.S):KI h T tq (w.keep r):=by
 refine⟨k.c,k.sp,k.old,k.pl,k.wl,k.pg, ?_,k.tk0, ?_,k.hd,k.dt, ?_⟩
 .intro j hj;obtain⟨t1,t2,t3,t4,t5,t6,t7⟩:=k.tk j hj;exact⟨t1,t2,t3,t4,t5,t6,λx hx=>⟨Lf _ (t7 x hx).1,(t7 x hx).2⟩⟩
 .intro x hx;simp only[Work.keep,Lh,Li]at hx;rcases hx with hx | rfl
  .exact k.q x hx
  .exact La ⟨i,k.nt g hi,hi,hk,hs⟩
 .intro j h1 h2;exact Lf _ (k.lg j h1 h2)
theorem KI.flip{tq:Nat->List Int}{w:Work}(k:KI h T tq w)(hw:WkOk w){r:Int}{i:Nat}(hi:r∈T i)(hk:kdA h.W r≠0)(h2:(w.heap.P.getD i M).K=2):KI h T tq ((w.flip i).keep r):=by
 have hil:=(g.t0 i r hi).1;have hpl:=k.pl;have hsp:=hw.sp;have hu:∀ j,((Z0F w.heap.P i (Z0u w.heap.P i) (1-w.heap.S)).getD j M).K=(w.heap.P.getD j M).K/\((Z0F w.heap.P i (Z0u w.heap.P i) (1-w.heap.S)).getD j M).U=(w.heap.P.getD j M).U/\((Z0F w.heap.P i (Z0u w.heap.P i) (1-w.heap.S)).getD j M).N=(w.heap.P.getD j M).N:=by
  intro j;by_cases hj:j<w.heap.P.length
  .rw[Z1x hj];split
   .exact⟨rfl,rfl,rfl⟩
   .exact⟨rfl,rfl,rfl⟩
  .rw[Ld,Ld,Lr (by rw[Z1t];omega),Lr oq];exact⟨rfl,rfl,rfl⟩
 have hs1:∀ j,(w.heap.P.getD j M).K=1->((Z0F w.heap.P i (Z0u w.heap.P i) (1-w.heap.S)).getD j M).S=(w.heap.P.getD j M).S:=by
  intro j hj;by_cases hjl:j<w.heap.P.length
  .rw[Z1x hjl];split
   .rename_i c;exfalso;by_cases q:j=i
    .subst q;omega
    .have:=(Z8u (l:=w.heap.P) (i:=i) (m:=j-i-1) oq).2;rw[show i+1+(j-i-1)=j by omega]at this;omega
   .rfl
  .rw[Ld,Ld,Lr (by rw[Z1t];omega),Lr oq]
 have hs2:∀ j,(w.heap.P.getD j M).S≠w.heap.S->((Z0F w.heap.P i (Z0u w.heap.P i) (1-w.heap.S)).getD j M).S≠w.heap.S:=by
  intro j hj;by_cases hjl:j<w.heap.P.length
  .rw[Z1x hjl];split
   .simp only[ZcX];omega
   .exact hj
  .rw[Ld,Lr (by rw[Z1t];omega)];rw[Ld,Lr oq]at hj;exact hj
 have hs3:∀ j,(w.heap.P.getD j M).K=2->j≠i->((Z0F w.heap.P i (Z0u w.heap.P i) (1-w.heap.S)).getD j M).S=(w.heap.P.getD j M).S:=by
  intro j hj hne;by_cases hjl:j<w.heap.P.length
  .rw[Z1x hjl];split
   .rename_i c;exfalso;have:=(Z8u (l:=w.heap.P) (i:=i) (m:=j-i-1) oq).2;rw[show i+1+(j-i-1)=j by omega]at this;omega
   .rfl
  .rw[Ld,Lr oq]at hj;have d:(M:Page).K=0:=rfl;simp only[L2]at hj;omega
 have hsi:((Z0F w.heap.P i (Z0u w.heap.P i) (1-w.heap.S)).getD i M).S≠w.heap.S:=by
  rw[Z1x oq,if_pos ⟨Lj _,Xm _ _⟩];simp only[ZcX];omega
 have kf:KI h T tq ⟨⟨w.heap.C,w.heap.W,Z0F w.heap.P i (Z0u w.heap.P i) (1-w.heap.S),w.heap.S,w.heap.B⟩,w.old,w.T,w.Q++[r],w.D,w.rep⟩:=by
  refine⟨k.c,k.sp,k.old,by simp only[Z1t];exact k.pl,k.wl, ?_, ?_,k.tk0, ?_, ?_, ?_, ?_⟩
  .intro j hj;simp only[hu];exact k.pg j hj
  .intro j hj;simp only[hu];obtain⟨t1,t2,t3,t4,t5,t6,t7⟩:=k.tk j hj;exact⟨t1,t2,t3,t4,t5,t6,λx hx=>⟨Lf _ (t7 x hx).1,(t7 x hx).2⟩⟩
  .intro x hx;simp only[Lh,Li]at hx;rcases hx with hx | rfl
   .rcases k.q x hx with⟨j,j1,j2,j3,j4⟩ | q
    .exact La ⟨j,j1,j2,j3,hs2 j j4⟩
    .exact Lb q
   .exact La ⟨i,k.nt g hi,hi,hk,hsi⟩
  .intro j x hx;rcases k.hd j x hx with q | q
   .exact La q
   .refine Lb ⟨q.1, ?_, ?_⟩
    .simp only[hu];exact q.2.1
    .simp only;rw[hs1 j q.2.1];exact q.2.2
  .intro a ha;simp only[hu];exact k.dt a ha
  .intro j h1 h2';simp only at h2' ⊢;by_cases q:j=i
   .subst q;have:=(g.on hi).2.2.2.2.2.2 h1;rw[<- this.1];simp
   .have hjt:(j:Int)∉w.T:=λq=>by have:=(k.tk j q).2.1;omega
    rw[hs3 j (by rw[(k.pg j hjt).1];exact h1) q]at h2';exact Lf _ (k.lg j h1 h2')
 exact⟨kf.c,kf.sp,kf.old,kf.pl,kf.wl,kf.pg,kf.tk,kf.tk0,kf.q,kf.hd,kf.dt,kf.lg⟩
end
section
variable {h:Heap} {T:Nat->List Int} (g:Gd h T)
include g
theorem KI.copy{tq:Nat->List Int}{w:Work}(k:KI h T tq w)(hw:WkOk w){r n:Int}{i0:Nat}(hr:r∈T i0)(hkd:kdA h.W r≠0)(h1:(h.P.getD i0 M).K=1)(hs:(w.heap.P.getD i0 M).S=w.heap.S)(he:(loadA w.heap.W r).1=(loadA h.W r).1)
  (hn:n=hlA w.heap.W r+1) (hp:n<=w.heap.C.pw) (hc:(w.place n).2.2=O):∃ tq',KI h T tq' ((w.place n).1.copy r (w.place n).2.1 n):=by
 have hlr:=Z0e w.heap.W r;have ey:=Z23 he;obtain⟨i,p,t,p1,p2,p3,p4,p5,p6,p7,e⟩:=Z9J hw ⟨by omega,hp⟩ hc;have hcc:=k.c;have hpl:=k.pl;have hwl:=k.wl;have po:=Z07 g.p;have hin:=g.inw hr;have hki:(h.P.getD i M).K=0:=by
  rcases p2 with q | q
  .by_cases c:(i:Int)∈w.T
   .exact(k.tk i c).2.1
   .rw[<- (k.pg i c).1];exact q.1
  .exact(k.tk i q.1).2.1
 have hio:=Z12 (i:=i) (j:=h.C.pg) (pw:=h.C.pw) oq oq;rw[Lz h.C.pg]at hio;have hi0:0<=(i:Int)*h.C.pw:=LF oq oq;rw[hcc]at p5 p7 hp;have hbp:4096+(i:Int)*h.C.pw=bsP h i:=rfl;rw[e,p7,hbp];generalize hu:occP (w.heap.P.getD i M)=u at *;generalize ha:bsP h i+u=a;have hbl:4096<=a/\a+n<=4096+w.heap.W.length:=by omega
 have far:∀ j x,x∈T j->x+hlA h.W x<bsP h i\/bsP h i+h.C.pw<=x:=by
  intro j x hx;have:=g.free (show i<h.P.length by omega) (La hki) hx;rw[occP,if_pos hki]at this;omega
 have farr:=far i0 r hr;obtain⟨m1,m2,m3⟩:=Z7P (ws:=w.heap.W) (a:=a) (b:=r) (n:=n) oq oq oq;have hsr:4096<=r/\r<4096+(moveA w.heap.W a r n).1.length:=by omega
 have w1:∀ x,x≠r->(x<a\/a+n<=x)->loadA (Z0D (moveA w.heap.W a r n).1 r (4*a+2)).1 x=loadA w.heap.W x:=λx q1 q2=>by rw[Z0z hsr q1,m3 x q2]
 have w2:(loadA (Z0D (moveA w.heap.W a r n).1 r (4*a+2)).1 r).1=4*a+2:=by rw[Z2y hsr]
 have w3:(loadA (Z0D (moveA w.heap.W a r n).1 r (4*a+2)).1 a).1=(loadA w.heap.W r).1:=by rw[Z0z hsr oq,m2]
 have hlen:(Z0D (moveA w.heap.W a r n).1 r (4*a+2)).1.length=w.heap.W.length:=by rw[Z2x hsr,m1]
 have hit:(i:Int)∈t:=by rcases p2 with q | q;(rw[q.2.1];simp);(rw[q.2.2.1];exact q.1)
 have htt:∀ x,x∈t↔x∈w.T\/x=(i:Int):=by
  intro x;rcases p2 with q | q
  .rw[q.2.1];simp
  .rw[q.2.2.1];exact⟨La,λc=>c.elim id λc=>c▸q.1⟩
 have w4:∀ (j:Nat) x,(j:Int)∈w.T->x∈tq j->x≠r/\(x<a\/a+n<=x)/\(j=i->x+hlA w.heap.W x<a):=by
  intro j x hj hx;have s:=k.sepT g hj hx hr;have rx:=Z0e w.heap.W x;have t:=k.tk j hj;have m:=Z1C t.2.2.2.2.2.1 hx;refine⟨by omega, ?_⟩;rcases LQ j i with q | q | q
  .have:=Z12 (i:=j) (j:=i) (pw:=h.C.pw) oq oq;unfold bsP at s;rw[<- hbp]at ha;exact⟨La oq,λq2=>by omega⟩
  .subst q;have:u=(w.heap.P.getD j M).U:=by rw[<- hu,occP,if_neg oq]
   exact⟨La oq,λ_=>by omega⟩
  .have:=Z12 (i:=i) (j:=j) (pw:=h.C.pw) oq oq;unfold bsP at s;rw[<- hbp]at ha;exact⟨Lb oq,λq2=>by omega⟩
 have kq:∀ (j:Nat) x,(j:Int)∈w.T->x∈tq j->(loadA (Z0D (moveA w.heap.W a r n).1 r (4*a+2)).1 x).1=(loadA w.heap.W x).1:=λj x hj hx=>by
  have:=w4 j x hj hx;rw[w1 x this.1 this.2.1]
 refine⟨λj=>if j=i then tq i++[a]else tq j,k.c,k.sp,k.old, ?_, ?_, ?_, ?_, ?_, ?_, ?_, ?_, ?_⟩
 .simp only[Work.copy,Ll];exact k.pl
 .simp only[Work.copy,hlen];exact k.wl
 .intro j hj;simp only[Work.copy]at hj ⊢;have hj':=λq=>hj ((htt _).2 (La q));have hne:¬ i=j:=λq=>hj (q▸hit);rw[Z0o p1,if_neg hne];exact k.pg j hj'
 .intro j hj;simp only[Work.copy]at hj ⊢;rw[Z0o p1];by_cases q:i=j
  .subst q;rw[if_pos rfl];simp only[if_true];have ka:=Z23 (ws:=w.heap.W) (ws':=(Z0D (moveA w.heap.W a r n).1 r (4*a+2)).1) (a:=a);have ke:hdA (Z0D (moveA w.heap.W a r n).1 r (4*a+2)).1 a=hdA h.W r:=by rw[hdA,hdA,w3,he]
   have kl:hlA (Z0D (moveA w.heap.W a r n).1 r (4*a+2)).1 a=n-1:=by
    have:hlA (Z0D (moveA w.heap.W a r n).1 r (4*a+2)).1 a=hlA w.heap.W r:=by rw[hlA,hlA,w3]
    omega
   have kk:okA (Z0D (moveA w.heap.W a r n).1 r (4*a+2)).1 a:=by
    have:=(g.on hr).2.2.2.2.2.1;rw[okA]at this ⊢;rw[w3,he];exact this
   refine⟨by omega,hki,p3, ?_,by omega, ?_, ?_⟩
   .rcases p2 with q | q
    .exact q.2.2
    .rw[q.2.2.2];exact(k.tk i q.1).2.2.2.1
   .refine Zb1 (b:=a) ?_ ⟨rfl,kk,by rw[kl];simp only[tile];omega⟩;by_cases c:(i:Int)∈w.T
    .have t:=k.tk i c;have hue:u=(w.heap.P.getD i M).U:=by rw[<- hu,occP,if_neg oq]
     have t6:=t.2.2.2.2.2.1;rw[<- hue,ha]at t6;exact Z2g t6 λx hx=>⟨(Z23 (kq i x c hx)).1 (Z1C t6 hx).1,(Z23 (kq i x c hx)).2.1⟩
    .rw[k.tk0 i c];have hue:u=0:=by
      rcases p2 with q | q
      .rw[<- hu,occP,if_pos q.1]
      .exact absurd q.1 c
     simp only[tile];omega
   .intro x hx;rcases Lh.1 hx with hx | hx
    .by_cases c:(i:Int)∈w.T
     .have t:=(k.tk i c).2.2.2.2.2.2 x hx;have o:=Z23 (kq i x c hx);rw[o.2.2.1,o.2.1];exact⟨Lf _ t.1,t.2⟩
     .rw[k.tk0 i c]at hx;simp at hx
    .have:=Li.1 hx;subst this;refine⟨by simp,by rw[kdA,ke];exact hkd, ?_⟩;have:=(g.t1 i0 (g.t0 i0 r hr).1 h1).2 r hr;rw[kl];have:=ey.2.1;omega
  .rw[if_neg q];have hj':(j:Int)∈w.T:=by
    rcases(htt _).1 hj with c | c
    .exact c
    .omega
   obtain⟨t1,t2,t3,t4,t5,t6,t7⟩:=k.tk j hj';simp only[show ¬ j=i from λc=>q c.symm,if_false];refine⟨t1,t2,t3,t4,t5,Z2g t6 λx hx=>⟨(Z23 (kq j x hj' hx)).1 (Z1C t6 hx).1,(Z23 (kq j x hj' hx)).2.1⟩,λx hx=>?_⟩;have o:=Z23 (kq j x hj' hx);rw[o.2.2.1,o.2.1];exact⟨Lf _ (t7 x hx).1,(t7 x hx).2⟩
 .intro j hj;simp only[Work.copy]at hj;have hne:¬ j=i:=λq=>hj (q▸hit);simp only[hne,if_false];exact k.tk0 j λq=>hj ((htt _).2 (La q))
 .intro x hx;simp only[Work.copy,Lh,Li]at hx ⊢;rcases hx with hx | rfl
  .rcases k.q x hx with⟨j,j1,j2,j3,j4⟩ | ⟨j,j1,j2⟩
   .have hne:¬ i=j:=by
     rintro rfl;have:=(g.t0 i x j2).2;omega
    refine La ⟨j,λc=>?_,j2,j3,by rw[Z0o p1,if_neg hne];exact j4⟩;rcases(htt _).1 c with c | c
    .exact j1 c
    .omega
   .refine Lb ⟨j,(htt _).2 (La j1), ?_⟩;split
    .rename_i q;subst q;exact Lf _ j2
    .exact j2
  .exact Lb ⟨i,hit,by simp⟩
 .intro j x hx;simp only[Work.copy];have hne:¬ i=j:=by
   rintro rfl;have:=(g.t0 i x hx).2;omega
  rw[Z0o p1,if_neg hne];by_cases q:x=r
  .subst q;refine Lb ⟨by rw[w2,Z9B oq oq], ?_, ?_⟩
   .have e1:=g.ofx hx;have e2:=g.ofx hr;rw[e1]at e2;have:j=i0:=by simp only[Prod.mk.injEq]at e2;omega
    subst this;rw[(k.pg j (k.nt g hx)).1];exact h1
   .have e1:=g.ofx hx;have e2:=g.ofx hr;rw[e1]at e2;have:j=i0:=by simp only[Prod.mk.injEq]at e2;omega
    subst this;exact hs
  .have f:=far j x hx;have rx:=Z0e h.W x;rw[w1 x q oq];exact k.hd j x hx
 .intro b hb;simp only[Work.copy]at hb ⊢;by_cases q:a<=b/\b<a+n
  .exact Lb ⟨i,hit,by omega,by rw[Z0o p1,if_pos rfl];omega⟩
  .by_cases q2:b=r
   .refine La ⟨i0,r,hr,by omega, ?_⟩;rw[kpA,if_neg hkd];have:=Z0e h.W r;omega
   .rw[w1 b q2 oq]at hb;rcases k.dt b hb with c | ⟨j,j1,j2,j3⟩
    .exact La c
    .refine Lb ⟨j,(htt _).2 (La j1),j2, ?_⟩;rw[Z0o p1];split
     .rename_i c;subst c;have:=(k.tk i j1).2.2.1;have:u=(w.heap.P.getD i M).U:=by rw[<- hu,occP,if_neg oq]
      omega
     .exact j3
 .intro j h2 hsj;simp only[Work.copy]at hsj ⊢;have hne:¬ i=j:=by rintro rfl;omega
  rw[Z0o p1,if_neg hne]at hsj;exact Lf _ (k.lg j h2 hsj)
theorem KI.fwd{tq:Nat->List Int}{w:Work}(k:KI h T tq w)(hw:WkOk w)(hi:CIv w)(r:Int)(e:(w.fwd r).2.2=0):∃ tq',KI h T tq' (w.fwd r).1:=by
 unfold Work.fwd at e ⊢;split at e
 .rename_i c1;rw[if_pos c1];exact⟨tq,k⟩
 .rename_i c1;rw[if_neg c1];split at e
  .simp at e
  .rename_i c2;rw[if_neg c2];have c2':r∈w.old:=Lv.1 c2;obtain⟨i0,hr,hkd⟩:=(k.old r).1 c2';have ofr:ofA w.heap.C r=((i0:Int),r-bsP h i0,0):=by rw[k.c];exact g.ofx hr
   have nt:=k.nt g hr;have pgi:=k.pg i0 nt;have hil:=(g.t0 i0 r hr).1;have hki:=(g.t0 i0 r hr).2;have hpl:=k.pl;split at e
   .rename_i c3;rw[if_pos c3];exact⟨tq,k⟩
   .rename_i c3;rw[if_neg c3];split at e
    .simp at e
    .rename_i c4;rw[if_neg c4];split at e
     .rename_i c5;rw[if_pos c5];simp only[Z1d,decide_eq_true_eq]at c5;rw[ofr]at c5;simp only[Ls]at c5;exact⟨tq,k.keep g hr hkd c5.2.2.2.1⟩
     .rename_i c5;rw[if_neg c5];have epw:Z2k w r=i0:=by rw[Z2k,ofr];simp
      split at e
      .rename_i c6;rw[if_pos c6];rw[epw]at c6 ⊢;exact⟨tq,k.flip g hw hr hkd c6⟩
      .rename_i c6;rw[if_neg c6];split at e
       .simp at e
       .rename_i c7;rw[if_neg c7];have c7':(w.place (sizeH (hdW w r))).2.2=O:=by simpa using c7
        rw[epw]at c6;have k1:(h.P.getD i0 M).K=1:=by omega
        have hs:(w.heap.P.getD i0 M).S=w.heap.S:=by
         by_cases q:(w.heap.P.getD i0 M).S=w.heap.S
         .exact q
         .exfalso;apply c5;simp only[Z1d,decide_eq_true_eq];rw[ofr];simp only[Ls];exact⟨by omega,by omega,by omega,q,nt⟩
        have he:(loadA w.heap.W r).1=(loadA h.W r).1:=by
         rcases k.hd i0 r hr with q | q
         .exact q
         .exact absurd q.1 c3
        have hz:=hi.z r c2';have hp:sizeH (hdW w r)<=w.heap.C.pw:=by
         rw[Z3n];rw[ofr]at hz;simp only[Ls]at hz;rcases hz with hz | hz
         .exact absurd hz c6
         .exact hz
        exact k.copy g hw hr hkd k1 hs he (Z3n w r) hp c7'
theorem KI.field{tq:Nat->List Int}{w:Work}(k:KI h T tq w){q j:Int}(hq:q∈w.Q)(hj:0<=j/\j<hlA w.heap.W q) :
  (∀ i x,x∈T i->x≠q+1+j)/\(∀ (i:Nat) x,(i:Int)∈w.T->x∈tq i->x≠q+1+j)/\((∃ i x,x∈T i/\x<=q+1+j/\q+1+j<x+kpA h.W x)\/(∃ i:Nat,(i:Int)∈w.T/\bsP h i<=q+1+j/\q+1+j<bsP h i+(w.heap.P.getD i M).U)):=by
 rcases k.q q hq with⟨i,i1,i2,i3,i4⟩ | ⟨i,i1,i2⟩
 .have he:(loadA w.heap.W q).1=(loadA h.W q).1:=by
   rcases k.hd i q i2 with c | c
   .exact c
   .exact absurd c.2.2 i4
  have o:=Z23 he;rw[o.2.1]at hj;refine⟨λm x hx c=>?_,λm x hm hx c=>?_,La ⟨i,q,i2,by omega,by rw[kpA,if_neg i3];omega⟩⟩
  .have:=g.sep i2 hx oq;omega
  .have:=k.sepT g hm hx i2;have:=Z0e w.heap.W x;omega
 .have t:=k.tk i i1;have m:=Z1C t.2.2.2.2.2.1 i2;refine⟨λm x hx c=>?_,λm x hm hx c=>?_,Lb ⟨i,i1,by omega,by omega⟩⟩
  .have:=k.sepT g i1 i2 hx;have:=Z0e h.W x;omega
  .have:=k.sepQ g i1 i2 hm hx oq;omega
theorem KI.in1{tq:Nat->List Int}{w:Work}(k:KI h T tq w)(hw:WkOk w)(hi:CIv w){q j:Int}(hq:q∈w.Q)(hj:0<=j/\j<hlA w.heap.W q)(e:(w.fwd (loadA w.heap.W (q+1+j)).1).2.2=0):∃ tq',KI h T tq' (w.in1 (q+1+j)):=by
 obtain⟨tq',k'⟩:=k.fwd g hw hi _ e;obtain⟨i1,x1⟩:=Z6I hw hi _ e;have hq1:=x1.q q hq;have hl1:=x1.l q hq;have hr:=i1.r q (Ln _ hq1);have hin:4096<=q+1+j/\q+1+j<4096+(w.fwd (loadA w.heap.W (q+1+j)).1).1.heap.W.length:=by omega
 obtain⟨f1,f2,f3⟩:=k'.field g hq1 (j:=j) oq;refine⟨tq',k'.withWords g (Z2x hin) (λi x hx=>?_) (λi x hm hx=>?_) (λa ha=>?_)⟩
 .rw[Z0z hin (f1 i x hx)]
 .rw[Z0z hin (f2 i x hm hx)]
 .by_cases c:a=q+1+j
  .subst c;exact Lb f3
  .rw[Z0z hin c]at ha;exact La ha
theorem KI.begin:KI h T (λ_=>[]) (beginW h):=by
 have hq:∀ j,((h.P.map (begQ (1-h.S))).getD j M).K=(h.P.getD j M).K/\((h.P.map (begQ (1-h.S))).getD j M).U=(h.P.getD j M).U/\((h.P.map (begQ (1-h.S))).getD j M).N=(h.P.getD j M).N/\((h.P.getD j M).K=2->((h.P.map (begQ (1-h.S))).getD j M).S=(h.P.getD j M).S):=by
  intro j;by_cases hj:j<h.P.length
  .have:(h.P.map (begQ (1-h.S))).getD j M=begQ (1-h.S) (h.P.getD j M):=by simp[Ld,hj]
   rw[this,begQ];split
   .rename_i c;exact⟨rfl,rfl,rfl,λq=>by omega⟩
   .exact⟨rfl,rfl,rfl,λ_=>rfl⟩
  .rw[Ld,Ld,Lr qo,Lr oq];exact⟨rfl,rfl,rfl,λ_=>rfl⟩
 refine⟨rfl,rfl,g.objs.2,by simp[beginW],rfl,λi _=>⟨(hq i).1,(hq i).2.1,(hq i).2.2.1⟩,by simp[beginW],λ_ _=>rfl,by simp[beginW],λ_ _ _=>La rfl,λa ha=>La (g.d a ha), ?_⟩;intro i h2 hs;exfalso;simp only[beginW]at hs;rw[(hq i).2.2.2 h2]at hs;by_cases hi:i<h.P.length
 .exact hs (g.sp i hi oq)
 .rw[Ld,Lr oq]at h2;have d:(M:Page).K=0:=rfl;simp only[L2]at h2;omega
theorem ZnS{s:List Int}(hw:WOk h.W)(e:(rootsF (beginW h) s).2.2=0)(e2:(allF (rootsF (beginW h) s).1).2=0):∃ tq,KI h T tq (cW2 h s) :=
 Zn1 (λw=>∃ tq,KI h T tq w) (λw r hw hi ⟨_,k⟩ e=>k.fwd g hw hi r e) (λw q j hw hi ⟨_,k⟩ hq h0 h1 e=>k.in1 g hw hi hq ⟨h0,h1⟩ e) (λw n ⟨tq,k⟩=>⟨tq,k.c,k.sp,k.old,k.pl,k.wl,k.pg,k.tk,k.tk0,k.q,k.hd,k.dt,k.lg⟩) hw g.p ⟨_,KI.begin g⟩ e e2
end
def ZhC{w:Work}(hw:WkOk w)(h:CIv w){r n:Int}(hr:r∈w.old)(hq:r∉w.Q)(hn:n=hlA w.heap.W r+1)(hp:n<=w.heap.C.pw)(hc:(w.place n).2.2=O):∀ x∈w.old++w.Q,(x∈w.Q\/x≠r)->∀ m,0<=m->m<=hlA w.heap.W x->loadA ((w.place n).1.copy r (w.place n).2.1 n).heap.W (x+m)=loadA w.heap.W (x+m):=by
 have hlr:=Z0e w.heap.W r;obtain⟨i,p,t,h1,h2,h3,h4,h5,h6,h7,h8,e⟩:=Z56 hw ⟨by omega,hp⟩ hc;have hb:=validB_iff.1 hw.C;have hpl:=hw.pl;have hL:=h.L;have hio:(i:Int)*w.heap.C.pw+w.heap.C.pw<=w.heap.C.pw*w.heap.C.pg:=by
  have:=Z12 (i:=i) (j:=w.heap.C.pg) (pw:=w.heap.C.pw) oq oq;rw[Lz w.heap.C.pw];exact this
 have hi0:0<=(i:Int)*w.heap.C.pw:=LF oq oq;rw[e,h8];generalize hu:occP (w.heap.P.getD i M)=u at *;generalize ha:4096+(i:Int)*w.heap.C.pw+u=at';have hrr:=h.r r (Lf _ hr);have hf:=h.f i h1 (by rcases h2 with h2 | h2;exact La h2;exact Lb h2.1);rw[hu]at hf;obtain⟨m1,m2,m3⟩:=Z7P (ws:=w.heap.W) (a:=at') (b:=r) (n:=n) oq oq oq;have hsr:4096<=r/\r<4096+(moveA w.heap.W at' r n).1.length:=by omega
 intro x hx hxr m hm0 hm1;have hfx:=hf x hx;simp only[Work.copy];rw[Z0z hsr ?_,m3 _ oq];intro c;by_cases q:x=r
 .exact hxr.elim (λa=>hq (q▸a)) (λa=>a q)
 .have:=h.s x hx r (Lf _ hr) oq;omega
def Z7p{w:Work}(hw:WkOk w)(h:CIv w)(r:Int)(e:(w.fwd r).2.2=0):(∃ m,(w.fwd r).1.Q=w.Q++m)/\(w.fwd r).1.D=w.D/\∀ x∈w.old++w.Q,(x∈w.Q\/x≠r)->∀ m,0<=m->m<=hlA w.heap.W x->loadA (w.fwd r).1.heap.W (x+m)=loadA w.heap.W (x+m):=by
 unfold Work.fwd at e ⊢;split at e
 .rename_i c1;rw[if_pos c1];exact⟨⟨[],by simp⟩,rfl,λ_ _ _ _ _ _=>rfl⟩
 .rename_i c1;rw[if_neg c1];have c1':r∉w.Q:=λh=>c1 (Lb h);split at e
  .simp at e
  .rename_i c2;rw[if_neg c2];have c2':r∈w.old:=Lv.1 c2;split at e
   .rename_i c3;rw[if_pos c3];exact⟨⟨[],by simp⟩,rfl,λ_ _ _ _ _ _=>rfl⟩
   .rename_i c3;rw[if_neg c3];split at e
    .simp at e
    .rename_i c4;rw[if_neg c4];split at e
     .rename_i c5;rw[if_pos c5];exact⟨⟨[r],rfl⟩,rfl,λ_ _ _ _ _ _=>rfl⟩
     .rename_i c5;rw[if_neg c5];split at e
      .rename_i c6;rw[if_pos c6];exact⟨⟨[r],rfl⟩,rfl,λ_ _ _ _ _ _=>rfl⟩
      .rename_i c6;rw[if_neg c6];split at e
       .simp at e
       .rename_i c7;rw[if_neg c7];have c7':(w.place (sizeH (hdW w r))).2.2=O:=by simpa using c7
        have hz:=h.z r c2';have hp:sizeH (hdW w r)<=w.heap.C.pw:=by
         rw[Z3n];rcases hz with hz | hz
         .exact absurd hz c6
         .exact hz
        have hlr:=Z0e w.heap.W r;obtain⟨i,p,t,p1,p2,p3,p4,p5,p6,p7,e8⟩:=Z9J hw ⟨by rw[Z3n];omega,hp⟩ c7';refine⟨⟨[(w.place (sizeH (hdW w r))).2.1], ?_⟩, ?_,ZhC hw h c2' c1' (Z3n w r) hp c7'⟩
        .rw[e8];rfl
        .rw[e8];rfl
def FD(w:Work)(F:Int->Prop):Prop:=∀ z,F z->(∃ q j,q∈w.Q/\0<=j/\j<hlA w.heap.W q/\z=q+1+j)/\ToOk w (loadA w.heap.W z).1
structure Sm (w v:Work):Prop where
 q:∃ m,v.Q=w.Q++m
 h:∀ x∈w.Q,hdA v.heap.W x=hdA w.heap.W x
def Sm.trans{u v w:Work}(a:Sm u v)(b:Sm v w):Sm u w:=by
 obtain⟨m,em⟩:=a.q;obtain⟨n,en⟩:=b.q;exact⟨⟨m++n,by rw[en,em,List.append_assoc]⟩,λx hx=>(b.h x (by rw[em];exact Lf _ hx)).trans (a.h x hx)⟩
def Sm.mem{w v:Work}(a:Sm w v){x:Int}(hx:x∈w.Q):x∈v.Q:=by
 obtain⟨m,em⟩:=a.q;rw[em];exact Lf _ hx
def Sm.len{w v:Work}(a:Sm w v){x:Int}(hx:x∈w.Q):hlA v.heap.W x=hlA w.heap.W x:=congrArg Header.length (a.h x hx)
def Sm.to{w v:Work}(a:Sm w v){x:Int}(hx:ToOk w x):ToOk v x:=hx.imp id a.mem
def Zll{w:Work}(hw:WkOk w)(h:CIv w)(r:Int)(e:(w.fwd r).2.2=0):Sm w (w.fwd r).1:=by
 have s:=Z7p hw h r e;refine⟨s.1,λx hx=>?_⟩;have:=s.2.2 x (Ln _ hx) (.inl hx) 0 oq (Z0e _ _).1;rw[L4]at this;rw[hdA,hdA,this]
def FD.fwd{w:Work}{F:Int->Prop}(f:FD w F)(hw:WkOk w)(h:CIv w)(r:Int)(e:(w.fwd r).2.2=0):FD (w.fwd r).1 F:=by
 have s:=Z7p hw h r e;have m:=Zll hw h r e;intro z hz;obtain⟨⟨q,j,hq,h0,h1,rfl⟩,t⟩:=f z hz;refine⟨⟨q,j,m.mem hq,h0,by rw[m.len hq];exact h1,rfl⟩, ?_⟩;have:=s.2.2 q (Ln _ hq) (.inl hq) (1+j) oq oq;rw[<- LR]at this;rw[this];exact m.to t
def ZnG{B:Int}{w:Work}(hw:WkOk w)(h:CIv w)(hp:PR B w){F:Int->Prop}(f:FD w F){q j:Int}(hq:q∈w.Q)(hj:0<=j/\j<hlA w.heap.W q)(e:(w.fwd (loadA w.heap.W (q+1+j)).1).2.2=0):Sm w (w.in1 (q+1+j))/\(w.in1 (q+1+j)).D=w.D/\FD (w.in1 (q+1+j)) (λz=>F z\/z=q+1+j):=by
 have s:=Z7p hw h _ e;have m:=Zll hw h _ e;have ff:=f.fwd hw h _ e;have to:=Zli w _ hp e;obtain⟨i1,x1⟩:=Z6I hw h _ e;have hq1:=x1.q q hq;have hl1:=x1.l q hq;have hr:=i1.r q (Ln _ hq1);have hin:4096<=q+1+j/\q+1+j<4096+(w.fwd (loadA w.heap.W (q+1+j)).1).1.heap.W.length:=by omega
 have hne:∀ x∈(w.fwd (loadA w.heap.W (q+1+j)).1).1.Q,x≠q+1+j:=by
  intro x hx c;have:=i1.s q (Ln _ hq1) x (Ln _ hx) oq;omega
 have hh:∀ x∈(w.fwd (loadA w.heap.W (q+1+j)).1).1.Q,hdA (w.in1 (q+1+j)).heap.W x=hdA (w.fwd (loadA w.heap.W (q+1+j)).1).1.heap.W x:=by
  intro x hx;simp only[Work.in1];rw[hdA,hdA,Z0z hin (hne x hx)]
 have m2:Sm (w.fwd (loadA w.heap.W (q+1+j)).1).1 (w.in1 (q+1+j)):=⟨⟨[],by simp[Work.in1]⟩,hh⟩
 refine⟨m.trans m2,s.2.1, ?_⟩;intro z hz;have key:(∃ q' j',q'∈w.Q/\0<=j'/\j'<hlA w.heap.W q'/\z=q'+1+j'):=by
  rcases hz with hz | rfl
  .exact(f z hz).1
  .exact⟨q,j,hq,hj.1,hj.2,rfl⟩
 obtain⟨q',j',k1,k2,k3,k4⟩:=key;refine⟨⟨q',j',(m.trans m2).mem k1,k2,by rw[(m.trans m2).len k1];exact k3,k4⟩, ?_⟩;by_cases c:z=q+1+j
 .subst c;have:(loadA (w.in1 (q+1+j)).heap.W (q+1+j)).1=(w.fwd (loadA w.heap.W (q+1+j)).1).2.1:=by
   simp only[Work.in1];rw[Z2y hin]
  rw[this];exact m2.to to
 .have:loadA (w.in1 (q+1+j)).heap.W z=loadA (w.fwd (loadA w.heap.W (q+1+j)).1).1.heap.W z:=by
   simp only[Work.in1];rw[Z0z hin c]
  rw[this];rcases hz with hz | hz
  .exact m2.to (ff z hz).2
  .exact absurd hz c
section
variable {B:Int} (hB:0<=B)
include hB
theorem ZhQ{w:Work}(hw:WkOk w)(h:CIv w)(hp:PR B w){F:Int->Prop}(f:FD w F){q:Int}(hq:q∈w.Q){l:List Int}(hl:∀ x∈l,0<=x/\x<hlA w.heap.W q):∀ k,k<=l.length->(∀ j,j<k->innE w q l j=0)->Sm w (innN w q l k)/\(innN w q l k).D=w.D/\FD (innN w q l k) (λz=>F z\/∃ i,i<k/\z=q+1+l.getD i M)
 | 0,_,_=>⟨⟨⟨[],by simp[innN]⟩,λ_ _=>rfl⟩,rfl,λz hz=>f z (hz.resolve_right (by rintro⟨i,hi,_⟩;omega))⟩
 | k+1,hk,he=>by
  obtain⟨a,b,c⟩:=ZhQ hw h hp f hq hl k oq (λj hj=>he j oq);have ok:=(Z4c hw q l k (λj hj=>he j oq)).1;have iv:=Z7k hw h hq hl k oq (λj hj=>he j oq);have pr:=Zj2 (PR B) (λw q j hw hi h hq h0 h1 e=>PR.in1 hB w q j hw hi h hq h0 h1 e) hw h hp hq hl k oq (λj hj=>he j oq);have hx:=hl _ (getD_mem_iff.2 ⟨k,by omega,rfl⟩);obtain⟨d1,d2,d3⟩:=ZnG ok iv.1 pr c (a.mem hq) (j:=l.getD k M) ⟨hx.1,by rw[a.len hq];exact hx.2⟩ (he k oq);refine⟨a.trans d1,d2.trans b,λz hz=>d3 z ?_⟩;rcases hz with hz | ⟨i,hi,hz⟩
  .exact La (La hz)
  .by_cases q2:i=k
   .subst q2;exact Lb hz
   .exact La (Lb ⟨i,by omega,hz⟩)
def SD(w:Work):Prop:=FD w (λz=>∃ i j,i<w.D.toNat/\j∈Z02 (hdA w.heap.W (w.Q.getD i M))/\z=w.Q.getD i M+1+j)
omit hB in
theorem Sm.get{w v:Work}(a:Sm w v){i:Nat}(hi:i<w.Q.length):v.Q.getD i M=w.Q.getD i M:=by
 obtain⟨m,em⟩:=a.q;rw[em,Ld,Ld,Xa hi]
theorem ZfD{w:Work}(hw:WkOk w)(h:CIv w)(hp:PR B w)(f:SD w)(e:(Z0G w).2.2=0):SD (Z0G w).1:=by
 by_cases hs:w.D<w.Q.length
 .have hsc:=hw.sc;have hq:Z2Y w∈w.Q:=getD_mem_iff.2 ⟨w.D.toNat,by omega,rfl⟩;unfold Z0G at e ⊢;rw[if_pos hs]at e ⊢;cases hb:(Lp (Z1H w).length).find? (λk=>Le (innE w (Z2Y w) (Z1H w) k≠0))with
  | none =>
   have h0:∀ j,j<(Z1H w).length->innE w (Z2Y w) (Z1H w) j=0:=λj hj=>by
    have:=Lq.1 hb j (Lo.2 hj);simpa using this
   obtain⟨a,b,c⟩:=ZhQ hB hw h hp f hq (l:=Z1H w) (Z4v (hdW w (Z2Y w))) (Z1H w).length (Lj _) h0;intro z hz;obtain⟨i,j,hi,hj,rfl⟩:=hz;simp only[Zdm]at hi hj ⊢;rw[b]at hi;have hg:=a.get (show i<w.Q.length by omega);have hm:w.Q.getD i M∈w.Q:=getD_mem_iff.2 ⟨i,by omega,rfl⟩;rw[hg,a.h _ hm]at hj;rw[hg];refine c _ ?_;by_cases q:i=w.D.toNat
   .subst q;obtain⟨n,n1,n2⟩:=getD_mem_iff.1 hj;exact Lb ⟨n,n1,by rw[<- n2];rfl⟩
   .exact La ⟨i,j,by omega,hj,rfl⟩
  | some k =>
   simp only[hb]at e;have:=(Lw.1 hb).1;simp[e]at this
 .have e:Z0G w=(w,Lg,0):=by rw[Z0G,if_neg hs]
  rw[e];exact f
theorem Zlm{w:Work}(hw:WkOk w)(h:CIv w)(hp:PR B w)(f:SD w):∀ k,(∀ j,j<k->Z3a w j=Lg)->SD (itW w k)
 | 0,_=>f
 | k+1,hh=>by
  have ih:=Zlm hw h hp f k (λj hj=>hh j oq);have ok:=(Z3X hw k (λj hj=>hh j oq)).1;have iv:=(Z6H hw h k (λj hj=>hh j oq)).1;have pr:=Zl9 (PR B) (λw q j hw hi h hq h0 h1 e=>PR.in1 hB w q j hw hi h hq h0 h1 e) (λw n h=>⟨⟨h.tab.pt,h.tab.tk,h.tab.pin⟩,h.rt.q,h.rt.t⟩) hw h hp k (λj hj=>hh j oq);have hk:=hh k oq;simp only[Z3a,decide_eq_false_iff_not,not_or,Lv]at hk;exact ZfD hB ok iv pr ih hk.1
theorem Zmw{w:Work}(hw:WkOk w)(h:CIv w)(hp:PR B w)(f:SD w)(e:(allF w).2=0):SD (allF w).1/\(allF w).1.D=(allF w).1.Q.length:=by
 obtain⟨k,hb⟩:=Z4P hw;obtain⟨h1,h2,h3⟩:=Lw.1 hb;have h0:∀ j,j<k->Z3a w j=Lg:=λj hj=>by simpa using h3 j hj
 unfold allF at e ⊢;rw[hb]at e ⊢;simp only at e ⊢;split at e
 .rename_i c;rw[if_pos c];have ok:=(Z3X hw k h0).1;have iv:=(Z6H hw h k h0).1;have pr:=Zl9 (PR B) (λw q j hw hi h hq h0 h1 e=>PR.in1 hB w q j hw hi h hq h0 h1 e) (λw n h=>⟨⟨h.tab.pt,h.tab.tk,h.tab.pin⟩,h.rt.q,h.rt.t⟩) hw h hp k h0;refine⟨ZfD hB ok iv pr (Zlm hB hw h hp f k h0) c, ?_⟩;simp only[Z3a,decide_eq_true_eq]at h1;have hf:(Z0G (itW w k)).2.1=Lg:=h1.resolve_left (λq=>q c);have hsc:=ok.sc;by_cases hs:(itW w k).D<(itW w k).Q.length
  .exfalso;unfold Z0G at hf c;rw[if_pos hs]at hf c;cases hb2:(Lp (Z1H (itW w k)).length).find? (λm=>Le (innE (itW w k) (Z2Y (itW w k)) (Z1H (itW w k)) m≠0))with
   | none =>
    rw[hb2]at hf;simp at hf
   | some m =>
    simp only[hb2]at c;have:=(Lw.1 hb2).1;simp[c]at this
  .have e3:Z0G (itW w k)=(itW w k,Lg,0):=by rw[Z0G,if_neg hs]
   rw[e3];simp only;omega
 .rename_i c;exact absurd e c
theorem ZnW{h:Heap}{s:List Int}(hw:WOk h.W)(hp:Z03 h=O)(hb:∀ p∈h.P,p.N<=B)(e:(rootsF (beginW h) s).2.2=0)(e2:(allF (rootsF (beginW h) s).1).2=0):SD (cW2 h s)/\(cW2 h s).D=(cW2 h s).Q.length:=by
 have wb:=Z3z hw hp;have hi:=Z3m hp;have ho:=Z3i (roots:=s) wb hi e;have pr:=Zai (PR B) (λw r hw hi h e=>PR.fwd hB w r hw hi h e) (roots:=s) wb hi ⟨Z6g hp hb,ZaZ hp⟩ e;have s0:=Zai (λw=>w.D=0) (λw r hw hi h e=>(Z7p hw hi r e).2.1.trans h) (roots:=s) wb hi rfl e;exact Zmw hB ho.1 ho.2.1 pr (λz hz=>by obtain⟨i,j,q,_⟩:=hz;rw[s0]at q;simp at q) e2
end
def Z5v(w:Work)(x:Int):Prop:=Z1d w (ofA w.heap.C x).1=O/\x∉w.Q
def Z9f(n:Int)(a x:Int):Int:=if a=x then 1+16*n else 0
def ZhL{n:Int}(h:0<=n/\n<=255):decodeH (1+16*n)=(⟨0,n,0⟩,O):=by
 have hv:Z0c ⟨0,n,0⟩=O:=validH_iff.2 ⟨by simp,by simp,h.1,h.2,by simp⟩;have:=decode_encode hv pq;rw[Z5e h]at this;exact this
def ZgU{n:Int}(h:0<=n/\n<=255){ws:List Int}{a x:Int}(hx:4096<=x/\x+n<4096+ws.length)(ha:x<=a/\a<=x+n):(loadA (Z0r ws x (objW ⟨0,n,0⟩)).1 a).1=Z9f n a x:=by
 have hl:(objW ⟨0,n,0⟩).length=n.toNat+1:=by simp[objW]
 rw[Z1R oq oq];unfold Z9f;by_cases c:a=x
 .subst c;simp[objW,Z5e h]
 .rw[if_neg c,objW,show(a-x).toNat=(a-x-1).toNat+1 by omega];simp[Ld,LH];split<;>rfl
structure FL (v:Work) (ws:List Int) (k:Nat):Prop where
 l:ws.length=v.heap.W.length
 h:∀ x∈v.old,hlA ws x=hlA v.heap.W x
 s:∀ a,loadA ws a=loadA v.heap.W a\/∃ x∈v.old,Z5v v x/\x<=a/\a<=x+hlA v.heap.W x/\(loadA ws a).1=Z9f (hlA v.heap.W x) a x
 f:∀ j,j<k->Z5v v (v.old.getD j M)->∀ a,v.old.getD j M<=a->a<=v.old.getD j M+hlA v.heap.W (v.old.getD j M)->(loadA ws a).1=Z9f (hlA v.heap.W (v.old.getD j M)) a (v.old.getD j M)
def Zfx{v:Work}(hw:FOk v)(hi:CIv v):∀ k,k<=v.old.length->FL v (fillN v k).heap.W k
 | 0,_=>⟨rfl,λ_ _=>rfl,λ_=>La rfl,λj hj=>by omega⟩
 | k+1,hk=>by
  have ih:=Zfx hw hi k oq;obtain⟨i0,i1,i2,i3,i4,i5,i6,i7,i8,i9,i10,i11⟩:=Z5d v hw k;have hm:v.old.getD k M∈v.old:=getD_mem_iff.2 ⟨k,by omega,rfl⟩;have hr:=hi.r _ (Lf _ hm);have hn:=Z0e v.heap.W (v.old.getD k M);have hprom:Z1d (fillN v k) (ofA (fillN v k).heap.C (v.old.getD k M)).1=Z1d v (ofA v.heap.C (v.old.getD k M)).1:=by
   unfold Z1d;rw[i1,i2,i3,i6]
  by_cases c:Z5v v (v.old.getD k M)
  .have e:(fillN v (k+1)).heap.W=(Z0r (fillN v k).heap.W (v.old.getD k M) (objW ⟨0,hlA v.heap.W (v.old.getD k M),0⟩)).1:=by
    show(Z5l (fillN v k) (v.old.getD k M)).heap.W=_;rw[Z5l,hprom,i7,if_pos (show Z1d v (ofA v.heap.C (v.old.getD k M)).1=O/\v.old.getD k M∉v.Q from c)];simp only;rw[<- ih.h _ hm];rfl
   rw[e];have hl:=ih.l;generalize hx:v.old.getD k M=x at *;have hin:4096<=x/\x+hlA v.heap.W x<4096+(fillN v k).heap.W.length:=by omega
   have ho:(objW ⟨0,hlA v.heap.W x,0⟩).length=(hlA v.heap.W x).toNat+1:=by simp[objW]
   have win:=λa ha=>ZgU hn (ws:=(fillN v k).heap.W) (a:=a) hin ha;have wout:∀ a,a<x\/x+hlA v.heap.W x<a->loadA (Z0r (fillN v k).heap.W x (objW ⟨0,hlA v.heap.W x,0⟩)).1 a=loadA (fillN v k).heap.W a:=λa ha=>Z20 oq oq;have sep:=λy hy=>hi.s x (Lf _ hm) y (Lf _ hy);have sep2:=λy hy=>hi.s y (Lf _ hy) x (Lf _ hm);refine⟨?_, ?_, ?_, ?_⟩
   .unfold Z0r;rw[if_pos oq];exact(Z3J oq).trans hl
   .intro y hy;by_cases q:y=x
    .subst q;have:=win y oq;rw[hlA,this,Z9f,if_pos rfl,ZhL hn]
    .have s1:=sep y hy;have s2:=sep2 y hy;have:=Z0e v.heap.W y;rw[hlA,wout y oq];exact ih.h y hy
   .intro a;by_cases q:x<=a/\a<=x+hlA v.heap.W x
    .exact Lb ⟨x,hm,c,q.1,q.2,win a q⟩
    .rw[wout a oq];exact ih.s a
   .intro j hj hf a h1 h2;by_cases q:v.old.getD j M=x
    .rw[q]at h1 h2 ⊢;exact win a ⟨h1,h2⟩
    .have hjk:j<k:=by
      by_cases q2:j=k
      .subst q2;exact absurd hx q
      .omega
     have hmj:v.old.getD j M∈v.old:=getD_mem_iff.2 ⟨j,by omega,rfl⟩;have s1:=sep _ hmj;have s2:=sep2 _ hmj;have:=Z0e v.heap.W (v.old.getD j M);rw[wout a oq];exact ih.f j hjk hf a h1 h2
  .have e:fillN v (k+1)=fillN v k:=by
    show Z5l (fillN v k) (v.old.getD k M)=_;rw[Z5l,hprom,i7,if_neg (show ¬ (Z1d v (ofA v.heap.C (v.old.getD k M)).1=O/\v.old.getD k M∉v.Q)from c)]
   rw[e];refine⟨ih.l,ih.h,ih.s,λj hj hf=>?_⟩;by_cases q:j=k
   .subst q;exact absurd hf c
   .exact ih.f j oq hf
def Zck{c:Conf}{s:Int}{l:List Page}{ws:List Int}(hp:0<=c.pw)(hl:(ws.length:Int)=c.pw*l.length):∀ k,k<=l.length->(Z26 c.pw s l ws k).length=ws.length/\∀ (i:Nat) (o:Int),i<l.length->0<=o->o<c.pw->loadA (Z26 c.pw s l ws k) (4096+i*c.pw+o)=if i<k/\Z39 s (l.getD i M)then(0,0)else loadA ws (4096+i*c.pw+o)
 | 0,_=>⟨rfl,λi o _ _ _=>by rw[if_neg oq];rfl⟩
 | k+1,hk=>by
  obtain⟨h1,h2⟩:=Zck (s:=s) hp hl k oq;unfold Z26;by_cases c':Z39 s (l.getD k M)
  .rw[if_pos c'];have hk2:=Z12 (i:=k) (j:=l.length) (pw:=c.pw) oq hp;have hk0:0<=(k:Int)*c.pw:=LF oq hp;rw[Lz (l.length:Int)]at hk2;have hlen:(Ly c.pw.toNat (0:Int)).length=c.pw.toNat:=Lu;have en:((k*c.pw.toNat:Nat):Int)=k*c.pw:=by rw[Int.natCast_mul,LU hp]
   have e:spl (Z26 c.pw s l ws k) (k*c.pw.toNat) (Ly c.pw.toNat 0)=(Z0r (Z26 c.pw s l ws k) (4096+k*c.pw) (Ly c.pw.toNat 0)).1:=by
    unfold Z0r;rw[if_pos oq];simp only;congr 1;omega
   refine⟨?_, ?_⟩
   .rw[Z3J oq];exact h1
   .intro i o hi h0 ho;rw[e];by_cases q:i=k
    .subst q;rw[Z1R oq oq,if_pos ⟨by omega,c'⟩];simp[Ld,LH];split<;>rfl
    .have hne:4096+(i:Int)*c.pw+o<4096+k*c.pw\/4096+k*c.pw+c.pw<=4096+(i:Int)*c.pw+o:=by
      rcases Nat.lt_or_gt_of_ne q with q | q
      .have:=Z12 (i:=i) (j:=k) (pw:=c.pw) oq hp;omega
      .have:=Z12 (i:=k) (j:=i) (pw:=c.pw) oq hp;omega
     rw[Z20 oq oq,h2 i o hi h0 ho];by_cases q2:i<k/\Z39 s (l.getD i M)
     .rw[if_pos q2,if_pos ⟨by omega,q2.2⟩]
     .rw[if_neg q2,if_neg (λq3=>q2 ⟨by omega,q3.2⟩)]
  .rw[if_neg c'];refine⟨h1,λi o hi h0 ho=>?_⟩;rw[h2 i o hi h0 ho];by_cases q2:i<k/\Z39 s (l.getD i M)
   .rw[if_pos q2,if_pos ⟨by omega,q2.2⟩]
   .rw[if_neg q2,if_neg];rintro⟨q3,q4⟩;by_cases q5:i=k
    .subst q5;exact c' q4
    .exact q2 ⟨by omega,q4⟩
def Za3(hd:Header){k:Int}(h0:0<=k)(hp:Z0b hd k=O):∀ n:Nat,k<n->k∈Z0Q hd n
 | 0,h=>by omega
 | n+1,h=>by
  unfold Z0Q;by_cases q:k=n
  .subst q;rw[if_pos hp];simp
  .have ih:=Za3 hd h0 hp n oq;split
   .exact Lf _ ih
   .exact ih
def Zao{hd:Header}{k:Int}(h0:0<=k)(h1:k<hd.length)(hp:Z0b hd k=O):k∈Z02 hd:=by
 have hv:Z0c hd=O:=by
  unfold Z0b at hp;simp only[LL]at hp;exact hp.1.1.1
 unfold Z02;rw[if_pos hv];exact Za3 hd h0 hp _ oq
structure CE (h:Heap) (T tq:Nat->List Int) (w:Work) (l4 l5:List Int):Prop where
 g:Gd h T
 k:KI h T tq w
 i:CIv w
 s:w.heap.S=0\/w.heap.S=1
 pt:PT w.heap.C w.heap.P
 ts:∀ x∈w.T,(w.heap.P.getD x.toNat M).S=1-w.heap.S
 sd:SD w
 sc:w.D=w.Q.length
 f3:∀ a,loadA l4 a=loadA w.heap.W a\/∃ x∈w.old,Z5v w x/\x<=a/\a<=x+hlA w.heap.W x/\(loadA l4 a).1=Z9f (hlA w.heap.W x) a x
 f4:∀ x∈w.old,Z5v w x->∀ a,x<=a->a<=x+hlA w.heap.W x->(loadA l4 a).1=Z9f (hlA w.heap.W x) a x
 n4:l4.length=w.heap.W.length
 n5:l5.length=w.heap.W.length
 fr:∀ (i:Nat) (o:Int),i<h.P.length->0<=o->o<h.C.pw->loadA l5 (bsP h i+o)=if Z39 w.heap.S (w.heap.P.getD i M)then(0,0)else loadA l4 (bsP h i+o)
def tE(T tq:Nat->List Int)(w:Work)(i:Nat):List Int:=if(i:Int)∈w.T then tq i else if(w.heap.P.getD i M).S≠w.heap.S then T i else []
section
variable {h:Heap} {T tq:Nat->List Int} {w:Work} {l4 l5:List Int} (c:CE h T tq w l4 l5)
include c
theorem CE.mem{i:Nat}{x:Int}(hx:x∈tE T tq w i):(i:Int)∈w.T/\x∈tq i\/(i:Int)∉w.T/\(w.heap.P.getD i M).S≠w.heap.S/\x∈T i:=by
 unfold tE at hx;split at hx
 .rename_i q;exact La ⟨q,hx⟩
 .rename_i q;split at hx
  .rename_i q2;exact Lb ⟨q,q2,hx⟩
  .simp at hx
theorem CE.gone0{i:Nat}(hi:(i:Int)∈w.T):¬ Z39 w.heap.S (w.heap.P.getD i M):=by
 have:=c.ts _ hi;rw[Ls]at this;have:=c.s;unfold Z39;omega
theorem CE.pgof{i:Nat}{x a:Int}(hx:x∈T i)(h1:x<=a)(h2:a<=x+hlA h.W x):∃ (j:Nat) (o:Int),j<h.P.length/\0<=o/\o<h.C.pw/\a=bsP h j+o/\(w.heap.P.getD j M).K≠0/\(w.heap.P.getD j M).S=(w.heap.P.getD i M).S:=by
 have g:=c.g;have o:=g.on hx;have po:=Z07 g.p;have pg:=c.k.pg i (c.k.nt g hx);have hcc:=c.k.c;have hpl:=c.k.pl;rcases o.2.1 with k | k
 .have pp:=Z0K g.p o.1;exact⟨i,a-bsP h i,o.1,by omega,by omega,by omega,by omega,rfl⟩
 .have hx2:=o.2.2.2.2.2.2 k;have lg:=c.pt.lg i oq oq;rw[pg.2.1,hcc]at lg;have nu:=Z4w lg.1;have h0:0<=(a-bsP h i)/h.C.pw:=L6 oq oq;have h3:=LS (a-bsP h i) h.C.pw;have h4:=LM (a-bsP h i) (b:=h.C.pw) oq;have h5:=LC (a-bsP h i) (b:=h.C.pw) oq;have h6:(a-bsP h i)/h.C.pw<need h.C (h.P.getD i M).U:=L5 oq oq;rw[Lz]at h3;generalize hm:(a-bsP h i)/h.C.pw=m at *;have hmn:((m.toNat:Nat):Int)=m:=by omega
  refine⟨i+m.toNat,(a-bsP h i)%h.C.pw, ?_,h4,h5, ?_, ?_⟩
  .by_cases q:m.toNat=0
   .omega
   .have:=(lg.2 m.toNat oq oq).1;omega
  .unfold bsP at h3 ⊢;rw[Int.natCast_add,hmn,L3];omega
  .by_cases q:m.toNat=0
   .rw[q,Xl];exact⟨by omega,rfl⟩
   .have:=(lg.2 m.toNat oq oq).2;exact⟨by omega,this.2⟩
theorem CE.keptw{i:Nat}{x a:Int}(hx:x∈T i)(hs:(w.heap.P.getD i M).S≠w.heap.S)(h1:x<=a)(h2:a<=x+hlA h.W x):loadA l5 a=loadA l4 a:=by
 obtain⟨j,o,j1,o1,o2,e,k0,k1⟩:=c.pgof hx h1 h2;rw[e,c.fr j o j1 o1 o2,if_neg];unfold Z39;rw[k1];exact λq=>hs q.2
theorem CE.gonew{i:Nat}{x a:Int}(hx:x∈T i)(hs:(w.heap.P.getD i M).S=w.heap.S)(h1:x<=a)(h2:a<=x+hlA h.W x):(loadA l5 a).1=0:=by
 obtain⟨j,o,j1,o1,o2,e,k0,k1⟩:=c.pgof hx h1 h2;rw[e,c.fr j o j1 o1 o2,if_pos ⟨k0,k1.trans hs⟩]
theorem CE.seen4{x a:Int}(hx:x∈w.Q)(h1:x<=a)(h2:a<=x+hlA w.heap.W x):loadA l4 a=loadA w.heap.W a:=by
 rcases c.f3 a with q | ⟨y,hy,q1,q2,q3,q4⟩
 .exact q
 .exfalso;have hne:x≠y:=λe=>q1.2 (e▸hx);have s1:=c.i.s x (Ln _ hx) y (Lf _ hy);have s2:=c.i.s y (Lf _ hy) x (Ln _ hx);have r1:=Z0e w.heap.W x;have r2:=Z0e w.heap.W y;rcases Int.lt_or_gt_of_ne hne with q | q
  .have:=s1 q;omega
  .have:=s2 q;omega
theorem CE.takenw{i:Nat}{a:Int}(hi:(i:Int)∈w.T)(h1:bsP h i<=a)(h2:a<bsP h i+h.C.pw):loadA l5 a=loadA l4 a:=by
 have t:=c.k.tk i hi;have:=c.fr i (a-bsP h i) t.1 oq oq;rw[show bsP h i+(a-bsP h i)=a by omega,if_neg (c.gone0 hi)]at this;exact this
theorem CE.seen{x a:Int}(hx:x∈w.Q)(h1:x<=a)(h2:a<=x+hlA w.heap.W x):loadA l5 a=loadA w.heap.W a:=by
 rw[<- c.seen4 hx h1 h2];rcases c.k.q x hx with⟨i,i1,i2,i3,i4⟩ | ⟨i,i1,i2⟩
 .have he:(loadA w.heap.W x).1=(loadA h.W x).1:=by
   rcases c.k.hd i x i2 with q | q
   .exact q
   .exact absurd q.2.2 i4
  rw[(Z23 he).2.1]at h2;exact c.keptw i2 i4 h1 h2
 .have t:=c.k.tk i i1;have m:=Z1C t.2.2.2.2.2.1 i2;exact c.takenw i1 oq oq
theorem CE.where'{x:Int}(hx:x∈w.Q):∃ i,x∈tE T tq w i:=by
 rcases c.k.q x hx with⟨i,i1,i2,i3,i4⟩ | ⟨i,i1,i2⟩
 .exact⟨i,by rw[tE,if_neg i1,if_pos i4];exact i2⟩
 .exact⟨i,by rw[tE,if_pos i1];exact i2⟩
theorem CE.seenK{x:Int}(hx:x∈w.Q):kdA w.heap.W x≠0/\okA w.heap.W x:=by
 rcases c.k.q x hx with⟨i,i1,i2,i3,i4⟩ | ⟨i,i1,i2⟩
 .have he:(loadA w.heap.W x).1=(loadA h.W x).1:=by
   rcases c.k.hd i x i2 with q | q
   .exact q
   .exact absurd q.2.2 i4
  have o:=Z23 he;exact⟨by rw[o.2.2.1];exact i3,o.1 (c.g.on i2).2.2.2.2.2.1⟩
 .have t:=c.k.tk i i1;exact⟨(t.2.2.2.2.2.2 x i2).2.1,(Z1C t.2.2.2.2.2.1 i2).1⟩
theorem CE.kept{i:Nat}{x:Int}(hx:x∈T i)(hn:(i:Int)∉w.T)(hs:(w.heap.P.getD i M).S≠w.heap.S):(loadA w.heap.W x).1=(loadA h.W x).1/\okA l5 x/\hlA l5 x=hlA h.W x/\(x∉w.Q->kdA l5 x=0/\(h.P.getD i M).K=1/\(kdA h.W x≠0->x∈w.old/\Z5v w x)):=by
 have he:(loadA w.heap.W x).1=(loadA h.W x).1:=by
  rcases c.k.hd i x hx with q | q
  .exact q
  .exact absurd q.2.2 hs
 have on:=c.g.on hx;have oh:=Z23 he;have rx:=Z0e h.W x;refine⟨he, ?_⟩;by_cases hq:x∈w.Q
 .have e:=Z23 (congrArg Prod.fst (c.seen hq (LD _) (by have:=Z0e w.heap.W x;omega)));exact⟨e.1 (oh.1 on.2.2.2.2.2.1),by rw[e.2.1,oh.2.1],λq=>absurd hq q⟩
 .have k1:(h.P.getD i M).K=1:=by
   rcases on.2.1 with q | q
   .exact q
   .have:=c.k.lg i q hs;rw[<- (on.2.2.2.2.2.2 q).1]at this;exact absurd this hq
  have e5:loadA l5 x=loadA l4 x:=c.keptw hx hs (LD _) oq;by_cases hk:kdA h.W x=0
  .have e4:loadA l4 x=loadA w.heap.W x:=by
    rcases c.f3 x with q | ⟨y,hy,q1,q2,q3,q4⟩
    .exact q
    .exfalso;obtain⟨j,hj,hjk⟩:=(c.k.old y).1 hy;by_cases e:y=x
     .subst e;exact hjk hk
     .have sj:(loadA w.heap.W y).1=(loadA h.W y).1:=by
       rcases c.k.hd j y hj with q | q
       .exact q
       .exfalso;have o2:=q1.1;unfold Z1d at o2;rw[c.k.c,c.g.ofx hj]at o2;simp only[decide_eq_true_eq,Ls]at o2;exact o2.2.2.2.1 q.2.2
      rw[(Z23 sj).2.1]at q3;have:=c.g.sep hj hx oq;omega
   have e:=Z23 (ws:=h.W) (ws':=l5) (a:=x) (by rw[e5,e4,he]);exact⟨e.1 on.2.2.2.2.2.1,e.2.1,λ_=>⟨by rw[e.2.2.1];exact hk,k1,λq=>absurd hk q⟩⟩
  .have ho:x∈w.old:=(c.k.old x).2 ⟨i,hx,hk⟩;have hf:Z5v w x:=by
    refine⟨?_,hq⟩;have pg:=c.k.pg i hn;have pl:=c.k.pl;unfold Z1d;rw[c.k.c,c.g.ofx hx];simp only[decide_eq_true_eq,Ls];exact⟨by omega,by omega,by omega,hs,hn⟩
   have v:=c.f4 x ho hf x (LD _) (by have:=Z0e w.heap.W x;omega);rw[Z9f,if_pos rfl,oh.2.1]at v;rw[<- e5]at v;have d:=ZhL rx;exact⟨by rw[okA,v,d],by rw[hlA,v,d],λ_=>⟨by rw[kdA,hdA,v,d],k1,λ_=>⟨ho,hf⟩⟩⟩
theorem CE.start{i:Nat}{x:Int}(hx:x∈tE T tq w i):okA l5 x/\(kdA l5 x≠0↔x∈w.Q):=by
 have sq:x∈w.Q->okA l5 x/\kdA l5 x≠0:=λhq=>by
  have e:=Z23 (congrArg Prod.fst (c.seen hq (LD _) (by have:=Z0e w.heap.W x;omega)));have s:=c.seenK hq;exact⟨e.1 s.2,by rw[e.2.2.1];exact s.1⟩
 rcases c.mem hx with⟨q1,q2⟩ | ⟨q1,q2,q3⟩
 .have hq:=((c.k.tk i q1).2.2.2.2.2.2 x q2).1;exact⟨(sq hq).1,λ_=>hq,λ_=>(sq hq).2⟩
 .have kk:=c.kept q3 q1 q2;refine⟨kk.2.1,λhk=>?_,λhq=>(sq hq).2⟩;by_cases hq:x∈w.Q
  .exact hq
  .exact absurd (kk.2.2.2 hq).1 hk
theorem CE.good{b:Int}(hp:Z03 ⟨w.heap.C,l5,w.heap.P.map (Z1o w.heap.S),1-w.heap.S,b⟩=O):Gd ⟨w.heap.C,l5,w.heap.P.map (Z1o w.heap.S),1-w.heap.S,b⟩ (tE T tq w):=by
 have g:=c.g;have hcc:=c.k.c;have hpl:=c.k.pl;have hs:=c.s;have po:=Z07 g.p;have hgt:∀ i,i<h.P.length->(w.heap.P.map (Z1o w.heap.S)).getD i M=Z1o w.heap.S (w.heap.P.getD i M):=λi hi=>by
  have:i<w.heap.P.length:=by omega
  simp[Ld,this]
 have hng:∀ i,i<h.P.length->((w.heap.P.map (Z1o w.heap.S)).getD i M).K≠0->¬ Z39 w.heap.S (w.heap.P.getD i M)/\(w.heap.P.map (Z1o w.heap.S)).getD i M=w.heap.P.getD i M:=by
  intro i hi hk;rw[hgt i hi]at hk ⊢;unfold Z1o at hk ⊢;split at hk
  .simp at hk
  .rename_i q;rw[if_neg q];exact⟨q,rfl⟩
 have hb:∀ i,bsP ⟨w.heap.C,l5,w.heap.P.map (Z1o w.heap.S),1-w.heap.S,b⟩ i=bsP h i:=λi=>by simp only[bsP,hcc]
 have hk5:∀ x,x∈w.Q->okA w.heap.W x->okA l5 x/\hlA l5 x=hlA w.heap.W x/\kdA l5 x=kdA w.heap.W x/\hdA l5 x=hdA w.heap.W x:=λx hq ho=>by
  have e:=Z23 (congrArg Prod.fst (c.seen hq (LD _) (by have:=Z0e w.heap.W x;omega)));exact⟨e.1 ho,e.2.1,e.2.2.1,e.2.2.2.1⟩
 have hkept:∀ i,i<h.P.length->(i:Int)∉w.T->((w.heap.P.map (Z1o w.heap.S)).getD i M).K≠0->(w.heap.P.getD i M).S≠w.heap.S/\(h.P.getD i M).K=((w.heap.P.map (Z1o w.heap.S)).getD i M).K/\(h.P.getD i M).U=((w.heap.P.map (Z1o w.heap.S)).getD i M).U/\(h.P.getD i M).N=((w.heap.P.map (Z1o w.heap.S)).getD i M).N:=by
  intro i hi hn hk;have n:=hng i hi hk;have pg:=c.k.pg i hn;rw[n.2]at hk ⊢;refine⟨λq=>n.1 ⟨hk,q⟩,pg.1.symm,pg.2.1.symm,pg.2.2.symm⟩
 refine⟨hp, ?_, ?_, ?_, ?_, ?_, ?_, ?_⟩
 .intro i hi hk;simp only[Lt]at hi hk ⊢;have n:=hng i oq hk;rw[n.2]at hk ⊢;have:=(c.pt.b i hi).s;have n1:=n.1;unfold Z39 at n1;omega
 .intro i hi hk;simp only[Lt]at hi hk ⊢;rw[hb];have n:=hng i oq oq;by_cases q:(i:Int)∈w.T
  .have t:=c.k.tk i q;rw[tE,if_pos q,n.2,hcc];refine⟨Z2g t.2.2.2.2.2.1 λx hx=>?_,λx hx=>?_⟩
   .have e:=hk5 x (t.2.2.2.2.2.2 x hx).1 (Z1C t.2.2.2.2.2.1 hx).1;exact⟨e.1,e.2.1⟩
   .have e:=hk5 x (t.2.2.2.2.2.2 x hx).1 (Z1C t.2.2.2.2.2.1 hx).1;rw[e.2.1];exact(t.2.2.2.2.2.2 x hx).2.2
  .have kp:=hkept i oq q oq;rw[tE,if_neg q,if_pos kp.1,<- kp.2.2.1,hcc];have t:=g.t1 i oq oq;refine⟨Z2g t.1 λx hx=>?_,λx hx=>?_⟩
   .have e:=c.kept hx q kp.1;exact⟨e.2.1,e.2.2.1⟩
   .rw[(c.kept hx q kp.1).2.2.1];exact t.2 x hx
 .intro i hi hk;simp only[Lt]at hi hk ⊢;rw[hb];have n:=hng i oq oq;by_cases q:(i:Int)∈w.T
  .have t:=c.k.tk i q;rw[n.2]at hk;omega
  .have kp:=hkept i oq q oq;have t:=g.t2 i oq oq;have hx:bsP h i∈T i:=by rw[t.1];simp
   have e:=c.kept hx q kp.1;have hq:=c.k.lg i oq kp.1;have st:=c.start (i:=i) (x:=bsP h i) (by rw[tE,if_neg q,if_pos kp.1];exact hx);rw[tE,if_neg q,if_pos kp.1,<- kp.2.2.1];exact⟨t.1,e.2.1,by rw[e.2.2.1];exact t.2.2.1,st.2.2 hq⟩
 .intro i x hx;simp only[Lt];rcases c.mem hx with⟨q1,q2⟩ | ⟨q1,q2,q3⟩
  .have t:=c.k.tk i q1;have:Z1o w.heap.S (w.heap.P.getD i M)=w.heap.P.getD i M:=by rw[Z1o,if_neg (c.gone0 q1)]
   rw[hgt i t.1,this];exact⟨by omega,La t.2.2.1⟩
  .have t:=g.t0 i x q3;have pg:=c.k.pg i q1;have:Z1o w.heap.S (w.heap.P.getD i M)=w.heap.P.getD i M:=by rw[Z1o,if_neg (λq=>q2 q.2)]
   rw[hgt i t.1,this];exact⟨by omega,by rw[pg.1];exact t.2⟩
 .intro a ha;simp only at ha ⊢;have h4:(loadA l4 a).1≠0:=by
   have hr:4096<=a/\a<4096+l5.length:=by
    unfold loadA at ha;by_cases q:4096<=a/\a<4096+l5.length
    .exact q
    .rw[if_neg q]at ha;simp at ha
   have hl5:=c.n5;have hL:=c.i.L;rw[hcc]at hL;have h0:0<=(a-4096)/h.C.pw:=L6 oq oq;have h3:=LS (a-4096) h.C.pw;have h5:=LM (a-4096) (b:=h.C.pw) oq;have h6:=LC (a-4096) (b:=h.C.pw) oq;have h7:(a-4096)/h.C.pw<h.C.pg:=L5 oq (by rw[Lz];omega);rw[Lz]at h3;have f:=c.fr ((a-4096)/h.C.pw).toNat ((a-4096)%h.C.pw) oq h5 h6;have ea:bsP h ((a-4096)/h.C.pw).toNat+(a-4096)%h.C.pw=a:=by
    unfold bsP;rw[LU h0];omega
   rw[ea]at f;rw[f]at ha;split at ha
   .simp at ha
   .exact ha
  have hks:∀ i x,x∈T i->x<=a->a<=x+hlA h.W x->(i:Int)∉w.T/\(w.heap.P.getD i M).S≠w.heap.S:=λi x hx h1 h2 =>
   ⟨c.k.nt g hx,λq=>ha (c.gonew hx q h1 h2)⟩
  have cov:∀ i x,x∈T i->x<=a->a<=x+hlA h.W x->(x∉w.Q->a=x)->∃ i x,x∈tE T tq w i/\x<=a/\a<x+kpA l5 x:=by
   intro i x hx h1 h2 h3;obtain⟨n1,n2⟩:=hks i x hx h1 h2;have hm:x∈tE T tq w i:=by rw[tE,if_neg n1,if_pos n2];exact hx
   have kk:=c.kept hx n1 n2;have r:=Z0e l5 x;refine⟨i,x,hm,h1, ?_⟩;by_cases q:x∈w.Q
   .rw[kpA,if_neg ((c.start hm).2.2 q),kk.2.2.1];omega
   .have:=h3 q;unfold kpA;split<;>omega
  rcases c.f3 a with q | ⟨x,hx,q1,q2,q3,q4⟩
  .rw[q]at h4;rcases c.k.dt a h4 with⟨i,x,hx,h1,h2⟩ | ⟨i,i1,i2,i3⟩
   .have hkp:kpA h.W x<=hlA h.W x+1:=by
     have:=Z0e h.W x;unfold kpA;split<;>omega
    have hh:=hks i x hx h1 oq;refine cov i x hx h1 oq λhq=>?_;have kk:=(c.kept hx hh.1 hh.2).2.2.2 hq;by_cases hk:kdA h.W x=0
    .rw[kpA,if_pos hk]at h2;omega
    .have fl:=kk.2.2 hk;have oh:=Z23 (c.kept hx hh.1 hh.2).1;have v:=c.f4 x fl.1 fl.2 a h1 (by rw[oh.2.1];omega);rw[<- q]at h4;rw[v,Z9f]at h4;split at h4
     .rename_i e;exact e
     .exact absurd rfl h4
   .have t:=c.k.tk i i1;obtain⟨x,hx,x1,x2⟩:=Z9U t.2.2.2.2.2.1 i2 i3;have hm:x∈tE T tq w i:=by rw[tE,if_pos i1];exact hx
    have hq:=(t.2.2.2.2.2.2 x hx).1;have e:=hk5 x hq (Z1C t.2.2.2.2.2.1 hx).1;refine⟨i,x,hm,x1, ?_⟩;rw[kpA,if_neg ((c.start hm).2.2 hq),e.2.1];omega
  .obtain⟨i,hi,hk⟩:=(c.k.old x).1 hx;have sj:(loadA w.heap.W x).1=(loadA h.W x).1:=by
    rcases c.k.hd i x hi with q | q
    .exact q
    .exfalso;have o2:=q1.1;unfold Z1d at o2;rw[hcc,g.ofx hi]at o2;simp only[decide_eq_true_eq,Ls]at o2;exact o2.2.2.2.1 q.2.2
   rw[(Z23 sj).2.1]at q3;refine cov i x hi q2 q3 λ_=>?_;rw[q4,Z9f]at h4;split at h4
   .rename_i e;exact e
   .exact absurd rfl h4
 .intro i x m hx hk h0 h1 hpt;simp only at hk h1 hpt ⊢;have hq:=(c.start hx).2.1 hk;have sk:=c.seenK hq;have e:=hk5 x hq sk.2;rw[e.2.1]at h1;rw[e.2.2.2]at hpt;rw[c.seen hq (a:=x+1+m) oq oq];obtain⟨n,n1,n2⟩:=getD_mem_iff.1 hq;have sd:=(c.sd (x+1+m) ⟨n,m,by rw[c.sc];simpa using n1,by rw[n2];exact Zao h0 h1 hpt,by rw[n2]⟩).2;rcases sd with q | q
  .exact La q
  .obtain⟨j,hj⟩:=c.where' q;exact Lb ⟨j,hj,(c.start hj).2.2 q⟩
 .have:crowd (w.heap.P.map (Z1o w.heap.S))<=crowd h.P:=by
   refine Z66 qo λi hi k1 k2=>?_;by_cases q:(i:Int)∈w.T
   .have t:=c.k.tk i q;have n:=hng i hi oq;rw[n.2]at k2;omega
   .have kp:=hkept i hi q oq;omega
  have g2:=g.cr;simp only[hcc];omega
end
def ZfR{B:Int}(hB:0<=B){h:Heap}{T:Nat->List Int}(g:Gd h T){s k:List Int}(hw:WOk h.W)(hb:∀ p∈h.P,p.N<=B)(hs:RtOb h T s)(hk:RtOb h T k)(e:(Z0d h s k).2.2.2.2=0) :
  ∃ T',Gd (Z0d h s k).1 T'/\RtOb (Z0d h s k).1 T' (Z0d h s k).2.1/\RtOb (Z0d h s k).1 T' (Z0d h s k).2.2.1:=by
 have hp:=g.p;have hr:=g.refers hs;have hr':=g.refers hk;have pr1:=(Z9Z hB hw hb e).p1;by_cases e1:(rootsF (beginW h) s).2.2=0
 .by_cases e2:(allF (rootsF (beginW h) s).1).2=0
  .have e7:Z0d h s k=(endH (cW5 h s k),(rootsF (beginW h) s).2.1,Z4d (cW2 h s) k k.length,(cW5 h s k).rep,0):=by rw[Z0d,if_pos hp,if_pos ⟨hr,hr'⟩,if_pos e1,if_pos e2]
   rw[e7]at pr1 ⊢;have ck:=cOk h s k hw hp e1 e2;have c5:=cOk5 h s k hw hp e1 e2;have pr:=ZnB hB hw hp hb e1 e2;have sd:=ZnW hB hw hp hb e1 e2;obtain⟨tq,ki⟩:=ZnS g hw e1 e2;obtain⟨g1,g2,g3,g4,g5⟩:=ck.h4;have po:=Z07 hp;obtain⟨a1,a2,a3,a4,a5,a6,a7,a8⟩:=Z53 (cW2 h s) k k.length;have a1:(cW3 h s k).heap=(cW2 h s).heap:=a1;have a2:(cW3 h s k).old=(cW2 h s).old:=a2;have a3:(cW3 h s k).T=(cW2 h s).T:=a3;have a4:(cW3 h s k).Q=(cW2 h s).Q:=a4;have fl:FL (cW3 h s k) (cW4 h s k).heap.W (cW3 h s k).old.length:=Zfx ck.f3 ck.i3 (cW3 h s k).old.length (Lj _);have tf:∀ x,Z5v (cW3 h s k) x↔Z5v (cW2 h s) x:=λx=>by
    unfold Z5v Z1d;rw[a1,a3,a4]
   have hcc:=ki.c;have hpl:=ki.pl;have hwl:=ki.wl;have w4:(cW4 h s k).heap.W.length=h.W.length:=by
    have:=fl.l;rw[a1]at this;exact this.trans hwl
   have fw:=Zck (c:=h.C) (s:=(cW2 h s).heap.S) (l:=(cW2 h s).heap.P) (ws:=(cW4 h s k).heap.W) oq (by rw[w4,hpl,po.2.2.2.2.2.2.2.1];exact po.2.2.2.2.2.1) (cW2 h s).heap.P.length (Lj _);have e5:(Z1f (cW4 h s k)).heap.W=Z26 h.C.pw (cW2 h s).heap.S (cW2 h s).heap.P (cW4 h s k).heap.W (cW2 h s).heap.P.length:=by
    simp only[Z1f,g1,g2,g3]
   have ce:CE h T tq (cW2 h s) (cW4 h s k).heap.W (Z1f (cW4 h s k)).heap.W:=by
    refine⟨g,ki,ck.i2,ck.w2.sp,pr.tab.pt,pr.tab.tk,sd.1,sd.2, ?_, ?_, ?_, ?_, ?_⟩
    .intro a;rcases fl.s a with q | ⟨x,hx,q1,q2,q3,q4⟩
     .refine La ?_;rw[a1]at q;exact q
     .refine Lb ⟨x,a2▸hx,(tf x).1 q1,q2, ?_, ?_⟩
      .rw[a1]at q3;exact q3
      .rw[a1]at q4;exact q4
    .intro x hx hf a h1 h2;obtain⟨j,j1,j2⟩:=getD_mem_iff.1 hx;have:=fl.f j (by rw[a2];exact j1);rw[a2,a1,j2]at this;exact this ((tf x).2 hf) a h1 h2
    .rw[w4,hwl]
    .rw[e5,fw.1,w4,hwl]
    .intro i o hi h0 ho;have:=fw.2 i o oq h0 ho;rw[e5];show loadA _ (4096+(i:Int)*h.C.pw+o)=_;rw[this];by_cases q:Z39 (cW2 h s).heap.S ((cW2 h s).heap.P.getD i M)
     .rw[if_pos ⟨by omega,q⟩,if_pos q]
     .rw[if_neg (λc=>q c.2),if_neg q];rfl
   have eh:endH (cW5 h s k)=⟨(cW2 h s).heap.C,(Z1f (cW4 h s k)).heap.W,(cW2 h s).heap.P.map (Z1o (cW2 h s).heap.S),1-(cW2 h s).heap.S,(endH (cW5 h s k)).B⟩:=by
    unfold endH cW5;simp only[Z1f,g1,g2,g3,hcc]
   rw[eh]at pr1 ⊢;have gd:=ce.good pr1;have seen:∀ x,ToOk (cW2 h s) x->x=0\/Ob ⟨(cW2 h s).heap.C,(Z1f (cW4 h s k)).heap.W,(cW2 h s).heap.P.map (Z1o (cW2 h s).heap.S),1-(cW2 h s).heap.S,(endH (cW5 h s k)).B⟩ (tE T tq (cW2 h s)) x:=by
    intro x hx;rcases hx with q | q
    .exact La q
    .obtain⟨i,hi⟩:=ce.where' q;exact Lb ⟨i,hi,(ce.start hi).2.2 q⟩
   refine⟨tE T tq (cW2 h s),gd,λx hx=>seen x ?_,λx hx=>seen x ?_⟩
   .have hbg:=Z3z hw hp;have hib:=Z3m hp;have pr0:PR B (beginW h):=⟨Z6g hp hb,ZaZ hp⟩
    have hall:=Z3i (roots:=s) hbg hib e1;have ax:=Zfv hall.1 hall.2.1 e2;have:ToOk (rootsF (beginW h) s).1 x:=by
     unfold rootsF at e1 hx ⊢;cases hbb:(Lp s.length).find? (λk=>Le (Z2q (beginW h) s k≠0))with
     | none =>
      rw[hbb]at hx;have h0:∀ j,j<s.length->Z2q (beginW h) s j=0:=λj hj=>by
       have:=Lq.1 hbb j (Lo.2 hj);simpa using this
      exact ZbU hB hbg hib pr0 s.length h0 x hx
     | some k =>
      rw[hbb]at e1;simp only at e1;have:=(Lw.1 hbb).1;simp[e1]at this
    rcases this with q | q
    .exact La q
    .exact Lb (ax.2.q x q)
   .have:∀ i,i<=k.length->∀ x∈Z4d (cW2 h s) k i,ToOk (cW2 h s) x:=by
     intro i;induction i with
     | zero=>intro _ x hx;simp[Z4d]at hx
     | succ i ih =>
      intro hi' x hx;simp only[Z4d,Lh,Li]at hx;rcases hx with hx | rfl
      .exact ih oq x hx
      .have hsi:=Z53 (cW2 h s) k i;unfold Z76;split
       .exact La rfl
       .rename_i hne;unfold Z1v;rw[hsi.2.2.2.1,hsi.1];split
        .rename_i hq;exact Lb hq
        .cases ht:(Z0m (loadA (cW2 h s).heap.W (k.getD i M)).1).2 with
         | true =>
          refine Lb (pr.rt.t _ ?_ ht);rw[ki.old];rcases hk _ (getD_mem_iff.2 ⟨i,by omega,rfl⟩)with q | q
          .exact absurd q hne
          .exact q
         | false =>
          refine La ?_;unfold Z0m at ht ⊢;split at ht
          .simp at ht
          .rename_i hcc2;rw[if_neg hcc2]
    exact this k.length (Lj _) x hx
  .rw[Z0d,if_pos hp,if_pos ⟨hr,hr'⟩,if_pos e1,if_neg e2]at e;exact absurd e e2
 .rw[Z0d,if_pos hp,if_pos ⟨hr,hr'⟩,if_neg e1]at e;exact absurd e e1
def WG.collect{w:WorldM}{n:Nat}(h:WG w)(hm:MOk w n):WG w.collect:=by
 unfold WorldM.collect;split
 .rename_i e;obtain⟨T,g,g1,g2⟩:=h;exact ZfR (B:=n) oq g hm.W (λp hp=>(hm.pin_mem p hp).2) g1 g2 e
 .exact h
def WG.step{w:WorldM}{n:Nat}(h:WG w)(hm:MOk w n)(hn:n<=1000000)(t:Tape):WG (w.step t):=by
 unfold WorldM.step;repeat' split
 .exact h.put hm.W (Z6J _ _)
 .exact h.link hm hn _
 .exact h.pin hm hn _
 .exact h.drop _
 .exact h.collect hm
 .exact h.dup _
def Zlp{w:WorldM}{n:Nat}(h:WG w)(hm:MOk w n)(t:Tape):∀ k,n+k<=1000000->WG (mkS w t k).1
 | 0,_=>h
 | k+1,hk=>(Zlp h hm t k oq).step (ZcN hm t k oq) oq _
def Zjy(l:List Int):WG (Z0A l):=by
 have e:=Z6R l;have hl:(((Z3q l).step 4).step 5).l.length<=300:=by rw[e.1];simp;omega
 have hk:=Zf8 (Z3q l).empty (((Z3q l).step 4).step 5) oq;exact Zlp (Zjl (Z3q l)) (ZaB (Z3q l)) _ _ oq
def Z6M(h:Header):∀ n:Nat,∀ x∈Z0Q h n,Z0b h x=O
 | 0,x,hx=>by cases hx
 | n+1,x,hx=>by
  unfold Z0Q at hx;split at hx
  .rename_i c;rcases Lh.1 hx with q | q
   .exact Z6M h n x q
   .rw[Li.1 q];exact c
  .exact Z6M h n x hx
section
variable {h:Heap} {T:Nat->List Int} (g:Gd h T)
include g
theorem Gd.refsOb{a:Int}(ha:a∈(Z04 h).1):∀ v∈Z0k h a,v=0\/v∈(Z04 h).1:=by
 intro v hv;obtain⟨i,hx,hk⟩:=(g.objs.2 a).1 ha;unfold Z0k at hv;rw[g.at' hx]at hv;obtain⟨p,hp,rfl⟩:=LI.1 hv;simp only at hp;have pq:0<=p/\p<hlA h.W a/\Z0b (hdA h.W a) p=O:=by
  unfold Z02 at hp;split at hp
  .have r:=Z28 _ _ _ hp;have l:(hdA h.W a).length=hlA h.W a:=rfl;exact⟨r.1,by omega,Z6M _ _ _ hp⟩
  .simp at hp
 rcases g.q i a p hx hk pq.1 pq.2.1 pq.2.2 with h0 | ⟨j,h1,h2⟩
 .exact .inl h0
 .exact .inr ((g.objs.2 _).2 ⟨j,h1,h2⟩)
theorem Gd.order{s:List Int}(hs:∀ r∈s,r=0\/Ob h T r):(Z0n h s).2=0:=by
 have no:∀ {l:List Int},(∀ r∈l,r=0\/r∈(Z04 h).1)->((Lp l.length).find? (rfsB l (Z04 h).1)).isSome=Lg:=by
  intro l hl;cases e:(Lp l.length).find? (rfsB l (Z04 h).1)with
  | none=>rfl
  | some j =>
   obtain⟨h1,h2,_⟩:=Lw.1 e;have q:=of_decide_eq_true h1;rcases hl _ (getD_mem_iff.2 ⟨j,Lo.1 h2,rfl⟩)with c | c
   .exact absurd c q.1
   .exact absurd c q.2
 have hb:Z3U h s=Lg:=no λr hr=>(hs r hr).imp id (g.objs.2 r).2;obtain⟨I,e⟩:=Zb6 hb;unfold Z0n;rw[if_pos g.p,if_pos g.objs.1,if_neg];rintro(q | ⟨q1,q2⟩)
 .rw[hb]at q;cases q
 .have:=no (g.refsOb ((I.el _ (Lj _)).2 _ (getD_mem_iff.2 ⟨ordZ h s,q1,rfl⟩)));unfold badG at q2;rw[this]at q2;cases q2
end
def Why(h:Heap)(roots l:List Int)(i:Nat):Prop:=l.getD i M∈roots\/∃ k,k<i/\l.getD i M∈Z0k h (l.getD k M)
def Z7C{out refs:List Int}:∀ n,n<=refs.length->∀ i,out.length<=i->i<(addN out refs n).length->(addN out refs n).getD i M∈refs
 | 0,_,i,h1,h2=>by unfold addN at h2;omega
 | n+1,hn,i,h1,h2=>by
  unfold addN addO at h2 ⊢;split at h2
  .rename_i c;rw[if_pos c];exact Z7C n oq i h1 h2
  .rename_i c;rw[if_neg c];rw[LV,Xc]at h2;by_cases q:i<(addN out refs n).length
   .have:=Z7C n oq i h1 q;simp only[Ld]at this ⊢;rw[Xa q];exact this
   .have e:i=(addN out refs n).length:=by omega
    have:=getD_mem_iff.2 ⟨n,by omega,(rfl:refs.getD n M=_)⟩;simp only[Ld]at this ⊢;rw[e,List.getElem?_append_right (Lj _),Nat.sub_self];exact this
def Zfj(h:Heap)(roots:List Int):∀ k,(∀ j,j<k->j<(ordG h roots j).length)->∀ i,i<(ordG h roots k).length->Why h roots (ordG h roots k) i
 | 0,_,i,hi=>.inl (Z7C roots.length (Lj _) i (Nat.zero_le _) hi)
 | k+1,hk,i,hi=>by
  have ih:=Zfj h roots k (λj hj=>hk j oq);have pre:=(Z6w h roots k 1).2;by_cases q:i<(ordG h roots k).length
  .have pi:=(pre i q).2;rcases ih i q with w | ⟨m,m1,m2⟩
   .exact .inl (by rw[pi];exact w)
   .refine .inr ⟨m,m1, ?_⟩;rw[pi,(pre m oq).2];exact m2
  .have hk':=hk k oq;refine .inr ⟨k,by omega, ?_⟩;rw[(pre k hk').2];exact Z7C (out:=ordG h roots k) _ (Lj _) i oq hi
def Zgp{h:Heap}{roots:List Int}(e:(Z0n h roots).2=0):∀ i,i<(Z0n h roots).1.length->Why h roots (Z0n h roots).1 i:=by
 have key:∃ k,Z0n h roots=(ordG h roots k,0)/\OrdI h roots k:=by
  unfold Z0n at e ⊢;by_cases hp:Z03 h=O
  .rw[if_pos hp]at e ⊢;by_cases ho:(Z04 h).2=0
   .rw[if_pos ho]at e ⊢;split at e
    .cases e
    .rename_i c;rw[if_neg c];exact⟨_,rfl,(Zb6 (by simpa using λq=>c (.inl q))).1⟩
   .rw[if_neg ho]at e;exact absurd e ho
  .rw[if_neg hp]at e;cases e
 obtain⟨k,h1,I⟩:=key;rw[h1];exact Zfj h roots k λj hj=>(I.lo j hj).1
def numB(l:List Int)(v:Int):Int:=if v∈l then(l.idxOf v:Int)+1 else 0
def Zg2(l:List Int)(v:Int):0<=numB l v/\numB l v<=l.length:=by
 unfold numB;split
 .rename_i h;have:=List.idxOf_lt_length_iff.2 h;omega
 .omega
def numL(l fs ps:List Int):Nat->List Int
 | 0=>fs
 | j+1=>(numL l fs ps j).set (ps.getD j M).toNat (numB l (fs.getD (ps.getD j M).toNat M))
def Zfn(l fs ps:List Int):∀ j,(numL l fs ps j).length=fs.length
 | 0=>rfl
 | j+1=>by rw[numL,Ll,Zfn l fs ps j]
def Zek(l fs ps:List Int)(i:Nat):∀ j,(∀ m,m<j->(ps.getD m M).toNat≠i)->(numL l fs ps j).getD i M=fs.getD i M
 | 0,_=>rfl
 | j+1,h=>by
  rw[numL];simp only[Ld];rw[List.getElem?_set_ne (by simpa[Ld]using h j oq)];have:=Zek l fs ps i j (λm hm=>h m oq);simpa only[Ld]using this
structure NodeG where
 hd:Header
 fs:List Int
instance:Inhabited NodeG:=⟨⟨default,[]⟩⟩
def NodeG.dv(n:NodeG):List DV:=[dint n.hd.K,dint n.hd.length,.sc (.int .u32 n.hd.map),.sl 1 (n.fs.map wdv)]
def NodeG.cells(n:NodeG):List AV:=[int n.hd.K,int n.hd.length,u32 n.hd.map,Z01 n.fs]
def Z9D(hd:Header):∀ n:Nat,(Z0Q hd n).Nodup
 | 0=>Xk
 | n+1=>by
  have ih:=Z9D hd n;unfold Z0Q;split
  .rw[List.nodup_append];refine⟨ih,by simp,λa ha b hb=>?_⟩;have:=(Z28 hd n a ha).2;rw[Li]at hb;omega
  .exact ih
def ZkP{l:List Int}{i:Nat}{x:Int}(hi:i<l.length)(h:l.getD i M=x):l.set i x=l:=by
 rw[<- h,Ld,LG hi,Xo];exact List.set_getElem_self hi
def fldG(h:Heap)(a:Int):List Int:=(Z18 h.W (a+1) (atH h a).1.length).1
def Z2O(h:Heap)(l:List Int)(a:Int):NodeG:=⟨(atH h a).1,numL l (fldG h a) (Z02 (atH h a).1) (Z02 (atH h a).1).length⟩
def Zgx(ws:List Int)(a n:Int)(hw:ws.length<=1048576)(h0:4096<=a/\0<=n/\n<=1000/\a-4096+n<=ws.length):GP 117 [Z01 ws,u64 a,int n] O (.tu [.ow 0,int 0]) [.arr 35 1 (((ws.drop (a-4096).toNat).take n.toNat).map wdv)]:=by
 have ei1:(Z08 ws a n).1=a-4096:=by rw[Z08,if_pos oq]
 have e2:(Z08 ws a n).2=O:=by rw[Z08,if_pos oq];simp;omega
 exact gF [41027] func117 [Lg,O] (Fh 26 [.els (Lc wdv (Lk (((Z08 ws a n).1+n).toNat-(Z08 ws a n).1.toNat) (LA (Z08 ws a n).1.toNat ws)))] (Ffb 11 (Le (n<0)) (Fc 16 (@Z6D ws a n aa oq) (Ffb 20 (!(Z08 ws a n).2) (Fi 25 ((Z08 ws a n).1+n) (Fa (by(simp only[Lt];omega):0<=(Z08 ws a n).1/\(Z08 ws a n).1<=(Z08 ws a n).1+n/\(Z08 ws a n).1+n<=(↑(Lc wdv ws).length:Int)) (Fa (by simp[e2,Xg,Xe,Xf,Xd,wdv,idv]:Lk (((Z08 ws a n).1+n).toNat-(Z08 ws a n).1.toNat) (LA (Z08 ws a n).1.toNat (Lc wdv ws))=Lc wdv (Lk (((Z08 ws a n).1+n).toNat-(Z08 ws a n).1.toNat) (LA (Z08 ws a n).1.toNat ws))) (Fc 27 (@Ze4 (Lk (((Z08 ws a n).1+n).toNat-(Z08 ws a n).1.toNat) (LA (Z08 ws a n).1.toNat ws)) (by(simp[e2, *];omega))) (Fa (by exact Z3y _:Z1h (Lc wdv (Lk (((Z08 ws a n).1+n).toNat-(Z08 ws a n).1.toNat) (LA (Z08 ws a n).1.toNat ws)))) (Fr (35:Int) (Fa (by refine congrArg _ ?_;(simp[e2, *];omega):Lc wdv (Lk (((Z08 ws a n).1+n).toNat-(Z08 ws a n).1.toNat) (LA (Z08 ws a n).1.toNat ws))=Lc wdv (Lk n.toNat (LA (a-4096).toNat ws))) Fz)))))))))))
def Z8H{h:Heap}{a:Int}(hp:Z03 h=O)(ha:a∈(Z04 h).1):4096<=a/\a<=8192/\0<=(atH h a).1.length/\(atH h a).1.length<=255/\a+(atH h a).1.length<4096+h.W.length/\(atH h a).2=0/\((fldG h a).length:Int)=(atH h a).1.length/\fldG h a=(h.W.drop (a+1-4096).toNat).take (atH h a).1.length.toNat /\
  (Z02 (atH h a).1).Nodup/\(∀ p∈Z02 (atH h a).1,0<=p/\p<(atH h a).1.length/\(fldG h a).getD p.toNat M∈Z0k h a):=by
 have ox:=Z0Y h a ha;obtain⟨g1,g2,g3⟩:=Z6X hp ha;have ir:=ZfB g2;have v:=Z3I g1;have e0:getH h a=atH h a:=v.1;rw[e0]at v;have fe:fldG h a=(h.W.drop (a+1-4096).toNat).take (atH h a).1.length.toNat:=by rw[fldG,Z18,if_neg oq,if_pos oq]
 have fl:((fldG h a).length:Int)=(atH h a).1.length:=by rw[fe,LY,LW];omega
 refine⟨ir.1,ox.2,by omega,by omega,ir.2,g2,fl,fe, ?_,λp hp=>?_⟩
 .unfold Z02;split
  .exact Z9D _ _
  .exact Xk
 .have pr:0<=p/\p<(atH h a).1.length:=by
   have:=hp;unfold Z02 at this;split at this
   .have:=Z28 _ _ _ this;omega
   .simp at this
  refine⟨pr.1,pr.2,LI.2 ⟨p,hp, ?_⟩⟩;rw[fe,loadA,if_pos oq];simp only[Ld,List.getElem?_take,Xb];rw[if_pos oq,show(a+1-4096).toNat+p.toNat=(a+1+p-4096).toNat by omega];rfl
def Zk3(h:Heap)(a:Int)(hp:Z03 h=O)(ha:a∈(Z04 h).1):GP 117 [Z01 h.W,u64 (a+1),int (atH h a).1.length] O (.tu [.ow 0,int 0]) [.arr 35 1 ((fldG h a).map wdv)]:=by
 have f:=Z8H hp ha;have po:=Z07 hp;have:=Zgx h.W (a+1) (atH h a).1.length oq oq;rw[f.2.2.2.2.2.2.2.1];exact this
def noL(h:Heap)(all l:List Int)(a:Int)(j:Nat):Tg:=⟨tm 67 [(0,.pt 0 0 0),(6,.pt 16006 0 0),(7,int 0),(8,.pt 24008 0 0),(10,.ow 41030),(38,.d (.sl 1 ((Z02 (atH h a).1).map idv))),(39,int (Z02 (atH h a).1).length),(40,int j)],[(41030,.arr 35 1 ((numL l (fldG h a) (Z02 (atH h a).1) j).map wdv)),(24008,.box 52 [int (atH h a).1.K,int (atH h a).1.length,u32 (atH h a).1.map]),(16006,.box 54 [int 0,int 0,u32 0,.d (.sl 0 [])]),(0,.box 105 [Z01 all,.pt 1 0 99999,.ow 2]),(1,.mp l),(2,.arr 35 1 (l.map wdv))],8⟩
section
variable (h:Heap) (all l:List Int) (a:Int) (hp:Z03 h=O) (ha:a∈(Z04 h).1) (cl:∀ v∈Z0k h a,v=0\/v∈l) (hl:l.length<=16384) (n0:(0:Int)∉l)
include hp ha cl hl n0
theorem Zn9(j:Nat)(hj:j<(Z02 (atH h a).1).length):CP (rndF f60 0) (noL h all l a j).st .nrm (noL h all l a (j+1)).st:=by
 have pl:=(Z1w (atH h a).1).1;obtain⟨f1,f2,f3,f4,f5,f6,f7,f8,f9,f10⟩:=Z8H hp ha;have pm:=getD_mem_iff.2 ⟨j,hj,rfl⟩;obtain⟨p1,p2,p3⟩:=f10 _ pm;have nl:=Zfn l (fldG h a) (Z02 (atH h a).1) j;have ng:=Zek l (fldG h a) (Z02 (atH h a).1) ((Z02 (atH h a).1).getD j M).toNat j (λm hm q=>by
  have d:=(List.pairwise_iff_getElem.1 f9) m j oq hj hm;obtain⟨m1,m2,_⟩:=f10 _ (getD_mem_iff.2 ⟨m,by omega,rfl⟩);have e1:(Z02 (atH h a).1).getD m M=(Z02 (atH h a).1)[m]:=by rw[Ld,LG oq];rfl
  have e2:(Z02 (atH h a).1).getD j M=(Z02 (atH h a).1)[j]:=by rw[Ld,LG hj];rfl
  omega)
 have nr:=Zg2 l ((fldG h a).getD ((Z02 (atH h a).1).getD j M).toNat M);have cv:=cl _ p3;by_cases c:(fldG h a).getD ((Z02 (atH h a).1).getD j M).toNat M=0
 .have e7:numL l (fldG h a) (Z02 (atH h a).1) (j+1)=numL l (fldG h a) (Z02 (atH h a).1) j:=by
   rw[numL,c,numB,if_neg n0];rw[c]at ng;exact ZkP oq ng
  rw[<- ng]at c;unfold noL;rw[e7];exact sF [] [] (Ftb 41 (Le ((j:Int)<(↑(Z02 (atH h a).1).length:Int))) (Fek 42 idv (Z02 (atH h a).1) (↑j) j (Fmq 47 wdv (numL l (fldG h a) (Z02 (atH h a).1) j) ((Z02 (atH h a).1).getD j M) (Ffb 48 ((numL l (fldG h a) (Z02 (atH h a).1) j).getD ((Z02 (atH h a).1).getD j M).toNat M != 0) (Fx 63 j Fz)))))
 .have cv:=cv.resolve_left c;have e7:numL l (fldG h a) (Z02 (atH h a).1) (j+1)=(numL l (fldG h a) (Z02 (atH h a).1) j).set ((Z02 (atH h a).1).getD j M).toNat (mpV l ((numL l (fldG h a) (Z02 (atH h a).1) j).getD ((Z02 (atH h a).1).getD j M).toNat M)+1):=by
   rw[numL,ng,numB,if_pos cv,mpV,if_pos cv]
  have vr:0<=mpV l ((numL l (fldG h a) (Z02 (atH h a).1) j).getD ((Z02 (atH h a).1).getD j M).toNat M)/\mpV l ((numL l (fldG h a) (Z02 (atH h a).1) j).getD ((Z02 (atH h a).1).getD j M).toNat M)+1<=16384:=by
   rw[ng,mpV,if_pos cv];rw[numB,if_pos cv]at nr;omega
  rw[<- ng]at c cv;unfold noL;rw[e7];exact sF [] [] (Fh 10062 [.els (Lc wdv ((numL l (fldG h a) (Z02 (atH h a).1) j).set ((Z02 (atH h a).1).getD j M).toNat (mpV l ((numL l (fldG h a) (Z02 (atH h a).1) j).getD ((Z02 (atH h a).1).getD j M).toNat M)+1)))] (Ftb 41 (Le ((j:Int)<(↑(Z02 (atH h a).1).length:Int))) (Fek 42 idv (Z02 (atH h a).1) (↑j) j (Fmq 47 wdv (numL l (fldG h a) (Z02 (atH h a).1) j) ((Z02 (atH h a).1).getD j M) (Ftb 48 ((numL l (fldG h a) (Z02 (atH h a).1) j).getD ((Z02 (atH h a).1).getD j M).toNat M != 0) (Fmq 58 wdv (numL l (fldG h a) (Z02 (atH h a).1) j) ((Z02 (atH h a).1).getD j M) (Fi 60 (mpV l ((numL l (fldG h a) (Z02 (atH h a).1) j).getD ((Z02 (atH h a).1).getD j M).toNat M)+1) (Fv 61 (mpV l ((numL l (fldG h a) (Z02 (atH h a).1) j).getD ((Z02 (atH h a).1).getD j M).toNat M)+1) (Fa (by(simp only[Lt];omega):0<=(Z02 (atH h a).1).getD j M/\((Z02 (atH h a).1).getD j M).toNat<(Lc wdv (numL l (fldG h a) (Z02 (atH h a).1) j)).length) (Fa (by(simp only[Lt];omega):((Z02 (atH h a).1).getD j M).toNat<(Lc wdv (numL l (fldG h a) (Z02 (atH h a).1) j)).length) (Fa (ms:(Lc wdv (numL l (fldG h a) (Z02 (atH h a).1) j)).set ((Z02 (atH h a).1).getD j M).toNat [du64 (mpV l ((numL l (fldG h a) (Z02 (atH h a).1) j).getD ((Z02 (atH h a).1).getD j M).toNat M)+1)]=Lc wdv ((numL l (fldG h a) (Z02 (atH h a).1) j).set ((Z02 (atH h a).1).getD j M).toNat (mpV l ((numL l (fldG h a) (Z02 (atH h a).1) j).getD ((Z02 (atH h a).1).getD j M).toNat M)+1))) (Fx 63 j Fz))))))))))))
omit hp ha cl hl n0 in
theorem Zoi:CP (rndF f60 0) (noL h all l a (Z02 (atH h a).1).length).st (.ext 0) (Tg.st ⟨tm 67 [(6,.pt 16006 0 0),(7,int 0),(8,.pt 24008 0 0),(10,.ow 41030)],[(41030,.arr 35 1 ((Z2O h l a).fs.map wdv)),(24008,.box 52 [int (atH h a).1.K,int (atH h a).1.length,u32 (atH h a).1.map]),(16006,.box 54 [int 0,int 0,u32 0,.d (.sl 0 [])]),(0,.box 105 [Z01 all,.pt 1 0 99999,.ow 2]),(1,.mp l),(2,.arr 35 1 (l.map wdv))],8⟩):=by
 unfold noL Z2O;exact sF [] [] (Ffb 41 (Le ((↑(Z02 (atH h a).1).length:Int)<(↑(Z02 (atH h a).1).length:Int))) Fz)
def Zo7  := Z09 (S:=λj=>(noL h all l a j).st) (Z02 (atH h a).1).length (by kernel_rfl) (λj hj=>Zn9 h all l a hp ha cl hl n0 j hj) (Zoi h all l a)
theorem Zno(hw:WOk h.W):BP 60 [.pt 0 0 0,h.av,u64 a] (seaP all l) (.tu [.ag [int (atH h a).1.K,int (atH h a).1.length,u32 (atH h a).1.map,Z01 (Z2O h l a).fs],int 0]) (seaP all l):=by
 obtain⟨f1,f2,f3,f4,f5,f6,f7,f8,f9,f10⟩:=Z8H hp ha;have gm:=Z3H hw a;have po:=Z07 hp;exact borF [0,1,2] [] func60 [] (Fc 16 (@Z6C h a aa oq) (Ffb 20 ((atH h a).2 != 0) (Fv 27 (a+1) (Fc 30 (@Zk3 h a aa aa) (Fc 38 (@Z3L ((atH h a).1) aa) (Fl 39 idv (Z02 (atH h a).1) (Fu (@Zo7 h all l a aa aa aa aa aa) Fz)))))))
end
end Go.Proofs.YtgedmeaemofdkaaGreat
