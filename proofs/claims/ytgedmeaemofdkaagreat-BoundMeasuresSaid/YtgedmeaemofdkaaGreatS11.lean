/-
 The statement BoundMeasures: part 11.
 Conditions: none.
-/
import Derived.Test.YtgedmeaemofdkaaGreatS10
set_option maxRecDepth 100000
set_option maxHeartbeats 2000000
set_option linter.all false
open Inhabited renaming default->M
open List renaming map->O,getD_eq_getElem?_getD->Lf,range->Lg,take->Lh,replicate->Lj,length_map->Lk,find?_range_eq_some->Ln,mem_range->Lo,getElem?_eq_none->Lr,mem_append_left->Ls,find?_eq_none->Lu,mem_append->Lv,append_nil->LA,map_append->LB,mem_singleton->LC,drop->LF,mem_append_right->LG,getElem?_drop->LM,getElem?_eq_getElem->LN,length_cons->LO,map_drop->LQ,map_set->LR,map_take->LS,mem_cons->LU,mem_iff_getElem->LV,not_mem_nil->LW,takeWhile_cons->LY,append_assoc->L0,ext_getElem->L1,filter_append->L2,filter_eq_self->L3,getElem?_of_mem->L4,getElem_map->L5,getElem_range->L6,getElem_set->L7,length_replicate->L8,pairwise_cons->L9,pairwise_iff_getElem->Xa,take_succ->Xb
open Bool renaming false->La,true->Lb
open Option renaming some->Lc,none->Le
open Decidable renaming decide->Ld,not_not->Ly
open Or renaming inl->Li,inr->Lm
open Nat renaming le_refl->Ll,add_zero->Xc,zero_mul->Xd
open Go.World renaming putObj_heap_other->Lp,putObj_size->LH,alloc_heap_new->LZ,putObj_heap_same->Xe,setRow->Xf
open Go.Fence renaming wide->Lq
open Go.RowKit.Below renaming heap_alloc->Lt
open Array renaming getElem?_eq_some_iff->Lw
open Int renaming mul_comm->Lx,toNat_natCast->Lz,mul_nonneg->LD,add_mul->LI,mul_le_mul_of_nonneg_right->LL
open Go.Proofs.Tryz
namespace Go.Proofs.YtgedmeaemofdkaaGreat
open Go.Sx
def preM{α:Type}(f:α->α)(l:List α)(i:Nat):List α:=(l.take i).map f++l.drop i
def ZcI{α:Type}(f:α->α)(l:List α):preM f l 0=l:=by simp[preM]
def Z7F{α:Type}(f:α->α)(l:List α):preM f l l.length=l.map f:=by simp[preM]
def Z3I{α:Type}(f:α->α)(l:List α)(i:Nat):(preM f l i).length=l.length:=by simp[preM];omega
def Z7V{α:Type}(f:α->α)(l:List α){i j:Nat}(h:i<=j)(d:α):(preM f l i).getD j d=l.getD j d:=by
 rw[Lf,Lf];congr 1;by_cases hi:i<=l.length
 .rw[preM,List.getElem?_append_right qo];simp only[Lk,List.length_take,LM];congr 1;omega
 .rw[Lr (by rw[Z3I];omega),Lr oq]
def Z6r{α:Type}(f:α->α)(l:List α){i:Nat}(h:i<l.length)(d:α):(preM f l i).set i (f (l.getD i d))=preM f l (i+1):=by
 have e:l.getD i d=l[i]:=by simp[Lf,h]
 rw[e,preM,preM,List.take_succ_eq_append_getElem h,LB,List.set_append_right i _ qo,L0];congr 1;have:l.drop i=l[i]::l.drop (i+1):=List.drop_eq_getElem_cons h;rw[show i-(O f (Lh i l)).length=0 by simp;omega,this];rfl
def Z8E{α:Type}(f:α->α)(l:List α){i:Nat}(h:i<l.length)(d:α)(hf:f (l.getD i d)=l.getD i d):preM f l i=preM f l (i+1):=by
 rw[<- Z6r f l h d,hf,<- Z7V f l (Ll i) d];have h':i<(preM f l i).length:=by rw[Z3I];exact h
 rw[show(preM f l i).getD i d=(preM f l i)[i] by simp[Lf,h'],List.set_getElem_self]
def begQ(s:Int)(p:Page):Page:=if p.K=1/\0<p.N then⟨p.K,s,p.U,p.N⟩else p
def begL(h:Heap)(all:List Int)(i:Nat):Tg:=⟨tm 61 [(1,.pt 8001 0 0),(2,.pt 8002 0 0),(3,int 0),(4,.pt 32004 0 0),(5,int i)],[(32004,.box 138 [int h.C.pw,int h.C.pg,Z01 h.W,.ow 48026,int h.S,int h.B,Z01 all,.d (.sl 0 []),.d (.sl 0 []),int 0,int 0,int 0,int 0,int 0,int 0,int 0]),(48026,.arr 86 4 ((preM (begQ (1-h.S)) h.P i).map Page.dv)),(8002,.box 138 zW),(8001,.box 28 h.cells)],60⟩
section
variable (h:Heap) (all:List Int) (hs:h.S=0\/h.S=1) (hl:h.P.length<=1048576)
include hs hl
theorem ZlA(i:Nat)(hi:i<h.P.length):CP (rndF f82 0) (begL h all i).st .nrm (begL h all (i+1)).st:=by
 have ha:=Z7V (begQ (1-h.S)) h.P (Ll i) M;have hn:=Z3I (begQ (1-h.S)) h.P i;by_cases hc:(h.P.getD i M).K=1/\0<(h.P.getD i M).N
 .have hq:=Z6r (begQ (1-h.S)) h.P hi M;rw[show begQ (1-h.S) (h.P.getD i M)=⟨(h.P.getD i M).K,1-h.S,(h.P.getD i M).U,(h.P.getD i M).N⟩ by rw[begQ,if_pos hc],<- ha]at hq;rw[<- ha]at hc;have Q0 {h_ c_ p_} (r_:Fq h_ c_ p_):=Fl 33 Page.dv (preM (begQ ((1:Int)-h.S)) h.P i) (Ftb 34 (Ld ((i:Int)<(↑(preM (begQ (1-h.S)) h.P i).length:Int))) (Fmq 42 Page.dv (preM (begQ (1-h.S)) h.P i) (↑i) r_));rcases bb (((preM (begQ (1-h.S)) h.P i).getD (i:Int).toNat M).K==1&&Ld (0<((preM (begQ (1-h.S)) h.P i).getD (i:Int).toNat M).N))with hc0 | hc0<;>have hc0p:=hc0<;>simp only[bs]at hc0p
  .obtain⟨hc0pa,hc0pb⟩:=hc0p;let y1:=preM (begQ (1-h.S)) h.P i;let y0:=y1.getD (i:Int).toNat M;exact sF [] (fO 9) (Q0 (Ft 50 hc0 (Fi 57 (1-h.S) (Fm0q Page.dv y1 (↑i) (FS 10059 Page.dv y1 ((i:Int).toNat) (Page.mk y0.K (1-h.S) y0.U y0.N) (y0.dv) (Fx 36 i (Fr (86:Int) (Fa (by refine congrArg _ ?_;exact hq:O Page.dv (y1.set (i:Int).toNat (Page.mk y0.K (1-h.S) y0.U y0.N))=O Page.dv (preM (begQ (1-h.S)) h.P (i+1))) Fz))))))))
  .exact sF [] (fO 9) (Q0 (Ff 50 hc0 (Fx 36 i (Fr (86:Int) (Fa (by refine congrArg _ ?_;grind[]:O Page.dv (preM (begQ (1-h.S)) h.P i)=O Page.dv (preM (begQ (1-h.S)) h.P (i+1))) Fz)))))
 .have hq:=Z8E (begQ (1-h.S)) h.P hi M (by rw[begQ,if_neg hc]);rw[<- ha]at hc;have Q1 {h_ c_ p_} (r_:Fq h_ c_ p_):=Fl 33 Page.dv (preM (begQ ((1:Int)-h.S)) h.P i) (Ftb 34 (Ld ((i:Int)<(↑(preM (begQ (1-h.S)) h.P i).length:Int))) (Fmq 42 Page.dv (preM (begQ (1-h.S)) h.P i) (↑i) r_));rcases bb (((preM (begQ (1-h.S)) h.P i).getD (i:Int).toNat M).K==1&&Ld (0<((preM (begQ (1-h.S)) h.P i).getD (i:Int).toNat M).N))with hc0 | hc0<;>have hc0p:=hc0<;>simp only[bs]at hc0p
  .obtain⟨hc0pa,hc0pb⟩:=hc0p;let y3:=preM (begQ (1-h.S)) h.P i;let y2:=y3.getD (i:Int).toNat M;exact sF [] (fO 9) (Q1 (Ft 50 hc0 (Fi 57 (1-h.S) (Fm0q Page.dv y3 (↑i) (FS 10059 Page.dv y3 ((i:Int).toNat) (Page.mk y2.K (1-h.S) y2.U y2.N) (y2.dv) (Fx 36 i (Fr (86:Int) (Fa (by refine congrArg _ ?_;grind[]:O Page.dv (y3.set (i:Int).toNat (Page.mk y2.K (1-h.S) y2.U y2.N))=O Page.dv (preM (begQ (1-h.S)) h.P (i+1))) Fz))))))))
  .exact sF [] (fO 9) (Q1 (Ff 50 hc0 (Fx 36 i (Fr (86:Int) (Fa (by refine congrArg _ ?_;exact hq:O Page.dv (preM (begQ (1-h.S)) h.P i)=O Page.dv (preM (begQ (1-h.S)) h.P (i+1))) Fz)))))
omit hs hl in
theorem Zpj:CP (rndF f82 0) (begL h all h.P.length).st (.ext 0) (Tg.st ⟨tm 61 [(2,.pt 8002 0 0),(3,int 0),(4,.pt 32004 0 0)],[(32004,.box 138 [int h.C.pw,int h.C.pg,Z01 h.W,.ow 48026,int h.S,int h.B,Z01 all,.d (.sl 0 []),.d (.sl 0 []),int 0,int 0,int 0,int 0,int 0,int 0,int 0]),(48026,.arr 86 4 ((h.P.map (begQ (1-h.S))).map Page.dv)),(8002,.box 138 zW)],60⟩):=by
 have hq:=Z7F (begQ (1-h.S)) h.P;have hn:=Z3I (begQ (1-h.S)) h.P h.P.length;exact sF [] (fO 4) (Fl 33 Page.dv (preM (begQ ((1:Int)-h.S)) h.P h.P.length) (Ffb 34 (Ld ((h.P.length:Int)<(↑(preM (begQ (1-h.S)) h.P h.P.length).length:Int))) (Fr (86:Int) (Fa (by refine congrArg _ ?_;assumption:O Page.dv (preM (begQ (1-h.S)) h.P h.P.length)=O Page.dv (O (begQ (1-h.S)) h.P)) Fz))))
theorem Zo5:CP (blkF f82 0) (Tg.st ⟨tm 61 [(1,.pt 8001 0 0),(2,.pt 8002 0 0),(3,int 0),(4,.pt 32004 0 0),(5,int 0)],[(32004,.box 138 [int h.C.pw,int h.C.pg,Z01 h.W,.ow 48026,int h.S,int h.B,Z01 all,.d (.sl 0 []),.d (.sl 0 []),int 0,int 0,int 0,int 0,int 0,int 0,int 0]),(48026,.arr 86 4 (h.P.map Page.dv)),(8002,.box 138 zW),(8001,.box 28 h.cells)],60⟩) .nrm (Tg.st ⟨tm 61 [(2,.pt 8002 0 0),(3,int 0),(4,.pt 32004 0 0)],[(32004,.box 138 [int h.C.pw,int h.C.pg,Z01 h.W,.ow 48026,int h.S,int h.B,Z01 all,.d (.sl 0 []),.d (.sl 0 []),int 0,int 0,int 0,int 0,int 0,int 0,int 0]),(48026,.arr 86 4 ((h.P.map (begQ (1-h.S))).map Page.dv)),(8002,.box 138 zW)],60⟩):=by
 have:=Z08 (S:=λk=>(begL h all k).st) h.P.length kr (λk hk=>ZlA h all hs hl k hk) (Zpj h all);simp only[begL,ZcI]at this;exact this
end
def beginW(h:Heap):Work:=⟨⟨h.C,h.W,h.P.map (begQ (1-h.S)),h.S,h.B⟩,(Z03 h).1,[],[],0,⟨0,0,0,0,0,0⟩⟩
def Z4y(h:Heap)(hw:WOk h.W)(hp:Z02 h=Lb)(hg:Z0r h=⟨0,0,0⟩):GP 82 [h.av] La (.tu [(beginW h).av,int 0]) []:=by
 have po:=Z0a hp;have ho:=Z0F h;exact gF [] func82 [] (Fc 8 (@Z0h h) (Ffb 9 (!Z02 h) (Fc 12 (@Z7I h aa) (Ffb 13 (!decide (Z0r h=Finding.mk 0 0 0)) (Fc 19 (@Z1T h aa) (FAx 23 26 Page.dv h.P (by(simp[beginW, *];omega)) (Fu (@Zo5 h ((Z03 h).1) oq oq) (Fnl (Fnl Fz)))))))))
def ZhH(w:Work)(r:Int)(hw:WkOk w)(h0:0<=r/\r<=18446744073709551615)(hc:r=0\/r∈w.Q):GP 137 [w.av,u64 r] La (.tu [w.av,u64 r,int 0]) []:=by
 have h1:=hw.mu;rcases hc with hc | hc
 .exact gF [] func137 [] (FcG 29 (!r==0) (λhg=>by(try simp only[bs]at hg);exact @Z0N w.Q r oq) (Ftb 30 (r==0||Ld (r∈w.Q)) Fz))
 .by_cases h0:r=0
  .exact gF [] func137 [] (FcG 29 (!r==0) (λhg=>by(try simp only[bs]at hg);exact @Z0N w.Q r oq) (Ftb 30 (r==0||Ld (r∈w.Q)) Fz))
  .exact gF [] func137 [] (FcG 29 (!r==0) (λhg=>by(try simp only[bs]at hg);exact @Z0N w.Q r oq) (Fts 30 (r==0||Ld (r∈w.Q)) Fz))
def ZhT(w:Work)(r:Int)(hw:WkOk w)(h0:0<=r/\r<=18446744073709551615)(c1:r≠0)(c2:r∉w.Q)(c3:r∉w.old):GP 137 [w.av,u64 r] La (.tu [noWork.av,u64 0,int 19]) []:=by
 have h1:=hw.mu;have h2:=hw.ol;exact gF [] func137 [] (FcG 29 (!r==0) (λhg=>by(try simp only[bs]at hg);exact @Z0N w.Q r oq) (Ffs 30 (r==0||Ld (r∈w.Q)) (Fc 36 (@Z0N w.old r oq) (Ftb 37 (!decide (r∈w.old)) (Fnl (Fnl (Fnl (Fnl (Fnl Fz)))))))))
def ZiC(w:Work)(r:Int)(hw:WkOk w)(h0:0<=r/\r<=18446744073709551615)(c1:r≠0)(c2:r∉w.Q)(c3:r∈w.old)(c4:(Z0u (loadA w.heap.W r).1).2=Lb):GP 137 [w.av,u64 r] La (.tu [w.av,u64 (Z0u (loadA w.heap.W r).1).1,int 0]) []:=by
 have h1:=hw.mu;have h2:=hw.ol;have h3:=hw.wl;have h4:=Z0H hw.W r;exact gF [] func137 [] (Fh 52 [.br Lb] (FcG 29 (!r==0) (λhg=>by(try simp only[bs]at hg);exact @Z0N w.Q r oq) (Ffs 30 (r==0||Ld (r∈w.Q)) (Fc 36 (@Z0N w.old r oq) (Ffb 37 (!decide (r∈w.old)) (Fc 44 (@Z1H w.heap.W r oq aa) (Fc 49 (@Z2R ((loadA w.heap.W r).1) oq oq) (Fa ‹(Z0u (loadA w.heap.W r).1).2=Lb› Fz))))))))
def ZiX(w:Work)(r:Int)(hw:WkOk w)(h0:0<=r/\r<=18446744073709551615)(c1:r≠0)(c2:r∉w.Q)(c3:r∈w.old)(c4:(Z0u (loadA w.heap.W r).1).2=La)(c5:(ofA w.heap.C r).2.2≠0):GP 137 [w.av,u64 r] La (.tu [noWork.av,u64 0,int 19]) []:=by
 have h1:=hw.mu;have h2:=hw.ol;have h3:=hw.wl;have h4:=Z0H hw.W r;exact gF [] func137 [] (Fh 52 [.br La] (FcG 29 (!r==0) (λhg=>by(try simp only[bs]at hg);exact @Z0N w.Q r oq) (Ffs 30 (r==0||Ld (r∈w.Q)) (Fc 36 (@Z0N w.old r oq) (Ffb 37 (!decide (r∈w.old)) (Fc 44 (@Z1H w.heap.W r oq aa) (Fc 49 (@Z2R ((loadA w.heap.W r).1) oq oq) (Fa ‹(Z0u (loadA w.heap.W r).1).2=La› (Fc 60 (@Z4j w.heap.C r oq oq) (FlG 71 (!(ofA w.heap.C r).2.2 != 0) Page.dv w.heap.P (Ftb 73 ((ofA w.heap.C r).2.2 != 0||Ld ((w.heap.P.length:Int)<=(ofA w.heap.C r).1)) (Fnl (Fnl (Fnl (Fnl (Fnl Fz))))))))))))))))
def Zhw{α:Type}(p:α->Bool):∀ (l:List α) (m:Nat),m<(l.takeWhile p).length->∃ h:m<l.length,p l[m]=Lb
 | [],m,h=>by simp at h
 | x::l,m,h=>by
  rw[LY]at h;split at h
  .rename_i hp;cases m with
   | zero=>exact⟨by simp,hp⟩
   | succ m =>
    obtain⟨h1,h2⟩:=Zhw p l m (by simpa using h);exact⟨by simp;omega,by simpa using h2⟩
  .simp at h
def ZaE{α:Type}(p:α->Bool):∀ (l:List α) (h:(l.takeWhile p).length<l.length),p l[(l.takeWhile p).length]=La
 | [],h=>by simp at h
 | x::l,h=>by
  by_cases hp:p x=Lb
  .have e:((x::l).takeWhile p).length=(l.takeWhile p).length+1:=by rw[LY,if_pos hp];rfl
   have:=ZaE p l (by simp only[e,LO]at h;omega);simp only[e,List.getElem_cons_succ];exact this
  .have e:((x::l).takeWhile p).length=0:=by rw[LY,if_neg hp];rfl
   simp only[e,List.getElem_cons_zero];simpa using hp
def Zek{l:List Page}{i m:Nat}(h:m<Z0I l i):i+1+m<l.length/\(l.getD (i+1+m) M).K=3:=by
 obtain⟨h1,h2⟩:=Zhw _ _ _ h;have h3:i+1+m<l.length:=by simp at h1;omega
 refine⟨h3, ?_⟩;simpa[Lf,h3]using h2
def Zf5{l:List Page}{i:Nat}(h:i+1+Z0I l i<l.length):¬ (l.getD (i+1+Z0I l i) M).K=3:=by
 have h2:=ZaE (λp:Page=>p.K==3) (l.drop (i+1)) (by simp;unfold Z0I at h;omega);intro h3;have h4:(l.drop (i+1))[Z0I l i]' qo=l.getD (i+1+Z0I l i) M:=by simp[Lf,h]
 have h5:(((l.drop (i+1))[Z0I l i]' qo).K==3)=La:=h2;rw[h4,h3]at h5;simp at h5
def Zh0{l:List Page}{i:Nat}(s:Int):Z0U l i 0 s=l.set i (Zhl s (l.getD i M)):=by
 refine L1 (by simp[Z0U]) λj h1 h2=>?_;have h:j<l.length:=by simpa using h2
 have e:l.getD j M=l[j]:=by simp[Lf,h]
 simp only[Z0U,L5,L6,L7,e];by_cases hj:i=j
 .subst hj;rw[if_pos oq,if_pos rfl,e]
 .rw[if_neg oq,if_neg hj]
def Zht{l:List Page}{i m:Nat}(s:Int)(h:i+1+m<l.length):(Z0U l i m s).set (i+1+m) (Zhl s (l.getD (i+1+m) M))=Z0U l i (m+1) s:=by
 refine L1 (by simp[Z0U]) λj h1 h2=>?_;have h:j<l.length:=by simpa[Z0U]using h2
 have e:l.getD j M=l[j]:=by simp[Lf,h]
 simp only[Z0U,L5,L6,L7,e];by_cases hj:i+1+m=j
 .subst hj;rw[if_pos rfl,if_pos oq,e]
 .rw[if_neg hj];by_cases hk:i<=j/\j<=i+m
  .rw[if_pos hk,if_pos oq]
  .rw[if_neg hk,if_neg oq]
def Zf6{l:List Page}{i m:Nat}(s:Int):(Z0U l i m s).getD (i+1+m) M=l.getD (i+1+m) M:=by
 by_cases h:i+1+m<l.length
 .rw[Z2J h,if_neg oq]
 .rw[Lf,Lf,Lr (by rw[Z2c];omega),Lr oq]
def fwdL(w:Work)(r x:Int)(m:Nat):Tg:=⟨tm 202 [(1,u64 r),(2,.pt 8002 0 0),(4,.pt 8004 0 0),(5,u64 0),(6,int 0),(14,int (x+1+m))],[(88094,.arr 86 4 ((Z0U w.heap.P x.toNat m (1-w.heap.S)).map Page.dv)),(8002,.box 138 [int w.heap.C.pw,int w.heap.C.pg,Z01 w.heap.W,.ow 88094,int w.heap.S,int w.heap.B,Z01 w.old,Z0K w.T,Z01 w.Q,int w.D,int w.rep.copied,int w.rep.kept,int w.rep.filled,int w.rep.freed,int w.rep.cleared,int w.rep.steps]),(8004,.box 138 zW)],60⟩
def Zm9(w:Work)(r x:Int)(m:Nat)(hs:w.heap.S=0\/w.heap.S=1)(hl:w.heap.P.length<=1048576)(hx:0<=x)(hm:m<Z0I w.heap.P x.toNat):CP (rndF f137 0) (fwdL w r x m).st .nrm (fwdL w r x (m+1)).st:=by
 have ht:=Zek hm;have ha:=Zf6 (l:=w.heap.P) (i:=x.toNat) (m:=m) (1-w.heap.S);have hn:=Z2c w.heap.P x.toNat m (1-w.heap.S);have hq:=Zht (1-w.heap.S) ht.1;unfold Zhl at hq;rw[<- ha]at hq ht;have eN:x.toNat+1+m=(x+1+(m:Int)).toNat:=by omega
 have eI:((x.toNat+1+m:Nat):Int)=x+1+(m:Int):=by omega
 rw[eN]at ha hq ht;let y1:=Z0U w.heap.P x.toNat m (1-w.heap.S);let y2:=x+1+(m:Int);let y0:=y1.getD y2.toNat M;let y3:=x+1+(m:Int)<(y1.length:Int);let y4:=Page.mk y0.K (1-w.heap.S) y0.U y0.N;exact sF [] (fP 13) (Fl 113 Page.dv (Z0U w.heap.P x.toNat m ((1:Int)-w.heap.S)) (FmGq 122 (decide y3) Page.dv y1 y2 (Ftb 124 (decide y3&&y0.K==3) (Fi 134 (1-w.heap.S) (Fm0q Page.dv y1 y2 (FS 10136 Page.dv y1 (y2.toNat) y4 (y0.dv) (Fi 126 (x+1+(m:Int)+1) (Fo (x+1+(m:Int)+1=x+1+(↑(m+1):Int)) (Fr (86:Int) (Fa (by refine congrArg _ ?_;exact hq:O Page.dv (y1.set y2.toNat y4)=O Page.dv (Z0U w.heap.P x.toNat (m+1) (1-w.heap.S))) Fz))))))))))
def ZoX(w:Work)(r x:Int)(hl:w.heap.P.length<=1048576)(hx:0<=x):CP (rndF f137 0) (fwdL w r x (Z0I w.heap.P x.toNat)).st (.ext 0) (Tg.st ⟨tm 202 [(1,u64 r),(2,.pt 8002 0 0),(4,.pt 8004 0 0),(5,u64 0),(6,int 0)],[(88094,.arr 86 4 ((Z0U w.heap.P x.toNat (Z0I w.heap.P x.toNat) (1-w.heap.S)).map Page.dv)),(8002,.box 138 [int w.heap.C.pw,int w.heap.C.pg,Z01 w.heap.W,.ow 88094,int w.heap.S,int w.heap.B,Z01 w.old,Z0K w.T,Z01 w.Q,int w.D,int w.rep.copied,int w.rep.kept,int w.rep.filled,int w.rep.freed,int w.rep.cleared,int w.rep.steps]),(8004,.box 138 zW)],60⟩):=by
 have ht:=λh=>Zf5 (l:=w.heap.P) (i:=x.toNat) h;have ha:=Zf6 (l:=w.heap.P) (i:=x.toNat) (m:=Z0I w.heap.P x.toNat) (1-w.heap.S);have hn:=Z2c w.heap.P x.toNat (Z0I w.heap.P x.toNat) (1-w.heap.S)
 have eN:x.toNat+1+Z0I w.heap.P x.toNat=(x+1+(Z0I w.heap.P x.toNat:Int)).toNat:=by omega
 rw[<- ha,eN]at ht;exact sF [] [] (Fl 113 Page.dv (Z0U w.heap.P x.toNat (Z0I w.heap.P x.toNat) ((1:Int)-w.heap.S)) (FmGq 122 (Ld (x+1+(↑(Z0I w.heap.P x.toNat):Int)<(↑(Z0U w.heap.P x.toNat (Z0I w.heap.P x.toNat) (1-w.heap.S)).length:Int))) Page.dv (Z0U w.heap.P x.toNat (Z0I w.heap.P x.toNat) (1-w.heap.S)) (x+1+(↑(Z0I w.heap.P x.toNat):Int)) (Ffb 124 (Ld (x+1+(↑(Z0I w.heap.P x.toNat):Int)<(↑(Z0U w.heap.P x.toNat (Z0I w.heap.P x.toNat) (1-w.heap.S)).length:Int))&&((Z0U w.heap.P x.toNat (Z0I w.heap.P x.toNat) (1-w.heap.S)).getD (x+1+(↑(Z0I w.heap.P x.toNat):Int)).toNat M).K==3) Fz)))
section
variable (w:Work) (r:Int) (hw:WkOk w) (h0:0<=r/\r<=18446744073709551615) (c1:r≠0) (c2:r∉w.Q) (c3:r∈w.old) (c4:(Z0u (loadA w.heap.W r).1).2=La) (c5:(ofA w.heap.C r).2.2=0)
include hw h0 c1 c2 c3 c4 c5
theorem ZjJ(c6:Z1L w (ofA w.heap.C r).1=Lb):GP 137 [w.av,u64 r] La (.tu [(w.keep r).av,u64 r,int 0]) []:=by
 have h1:=hw.mu;have h2:=hw.ol;have h3:=hw.wl;have h4:=Z0H hw.W r;have h11:=Z29 (loadA w.heap.W r).1 h4.1;have h5:=hw.pl;have h6:=validB_iff.1 hw.C;have h7:=hw.tl;have h8:=Z5e hw.C c5;have Q0 {h_ c_ p_} (r_:Fq h_ c_ p_):=FcG 29 (!r==0) (λhg=>by(try simp only[bs]at hg);exact @Z0N w.Q r oq) r_;rcases bb (r==0||Ld (r∈w.Q))with hc0 | hc0<;>have hc0p:=hc0<;>simp only[bs]at hc0p
 .rw[show w.keep r=w from by grind[]];exact gF [] func137 [] (Q0 (Ft 30 hc0 Fz))
 .obtain⟨hc0pa,hc0pb⟩:=hc0p;let y0:=ofA w.heap.C r;exact gF [] func137 [] (Fh 73 [.br La] (Fh 77 [.call Lb (Sx.bool (Z1L w y0.1)) [],.br Lb] (Q0 (Ff 30 hc0 (Fc 36 (@Z0N w.old r oq) (Ffb 37 (!decide (r∈w.old)) (Fc 44 (@Z1H w.heap.W r oq aa) (Fc 49 (@Z2R ((loadA w.heap.W r).1) oq oq) (Fa ‹(Z0u (loadA w.heap.W r).1).2=La› (Fc 60 (@Z4j w.heap.C r oq oq) (FlG 71 (!y0.2.2 != 0) Page.dv w.heap.P (Ffb 52 (y0.2.2 != 0||Ld ((w.heap.P.length:Int)<=y0.1)) (Fa (@Z1U w (y0.1) oq oq) (Fa ‹Z1L w y0.1=Lb› (Fc 80 (@Zcm w r aa) Fz)))))))))))))))
theorem ZiE(c6:Z1L w (ofA w.heap.C r).1=La)(c7:¬ (w.heap.P.getD (Z2D w r) M).K=2)(c8:(w.place (sizeH (hdW w r))).2.2=La):GP 137 [w.av,u64 r] La (.tu [noWork.av,u64 0,int 3]) []:=by
 have h1:=hw.mu;have h2:=hw.ol;have h3:=hw.wl;have h4:=Z0H hw.W r;have h11:=Z29 (loadA w.heap.W r).1 h4.1;have h5:=hw.pl;have h6:=validB_iff.1 hw.C;have h7:=hw.tl;have h8:=Z5e hw.C c5;have h9:=Z6E w r;unfold Z2D at c7;unfold hdW at h9 c8;have Q0 {h_ c_ p_} (r_:Fq h_ c_ p_):=FcG 29 (!r==0) (λhg=>by(try simp only[bs]at hg);exact @Z0N w.Q r oq) r_;rcases bb (r==0||Ld (r∈w.Q))with hc0 | hc0<;>have hc0p:=hc0<;>simp only[bs]at hc0p
 .rw[show noWork=w from by grind[noWork,noHeap]];exact gF [] func137 (fO 4) (Q0 (Ft 30 hc0 (Fr w.heap.C.pw (Fr w.heap.C.pg (Fr (O wdv w.heap.W) (Fr (O Page.dv w.heap.P) (Fr w.heap.S (Fr w.heap.B (Fr (O wdv w.old) (Fr (O idv w.T) (Fr (O wdv w.Q) (Fr w.D (Fr w.rep.copied (Fr w.rep.kept (Fr w.rep.filled (Fr w.rep.freed (Fr w.rep.cleared (Fr w.rep.steps (Fa (by grind[noWork,noHeap]:r=0) (Fa (by grind[noWork,noHeap]:(0:Int)=3) Fz))))))))))))))))))))
 .obtain⟨hc0pa,hc0pb⟩:=hc0p;let y0:=ofA w.heap.C r;let y1:=loadA w.heap.W r;exact gF [] func137 [] (Fh 77 [.call Lb (Sx.bool (Z1L w y0.1)) [],.br La] (Fh 89 [.br La] (Q0 (Ff 30 hc0 (Fc 36 (@Z0N w.old r oq) (Ffb 37 (!decide (r∈w.old)) (Fc 44 (@Z1H w.heap.W r oq aa) (Fc 49 (@Z2R (y1.1) oq oq) (Fa ‹(Z0u y1.1).2=La› (Fc 60 (@Z4j w.heap.C r oq oq) (FlG 71 (!y0.2.2 != 0) Page.dv w.heap.P (Ffb 52 (y0.2.2 != 0||Ld ((w.heap.P.length:Int)<=y0.1)) (Fa (@Z1U w (y0.1) oq oq) (Fa ‹Z1L w y0.1=La› (Fe 86 Page.dv w.heap.P (y0.1) (Ffb 73 ((w.heap.P.getD y0.1.toNat M).K==2) (Fc 143 (@Z2P (y1.1) oq oq) (Fc 147 (@Z1E ((decodeH y1.1).1) aa) (Fc 151 (@ZaF w (sizeH (decodeH y1.1).1) aa aa) (Ftb 156 (!(w.place (sizeH (decodeH y1.1).1)).2.2) (Fnl (Fnl (Fnl (Fnl (Fnl Fz)))))))))))))))))))))))))
theorem ZhB(c6:Z1L w (ofA w.heap.C r).1=La)(c7:¬ (w.heap.P.getD (Z2D w r) M).K=2)(c8:(w.place (sizeH (hdW w r))).2.2=Lb):GP 137 [w.av,u64 r] La (.tu [((w.place (sizeH (hdW w r))).1.copy r (w.place (sizeH (hdW w r))).2.1 (sizeH (hdW w r))).av,u64 (w.place (sizeH (hdW w r))).2.1,int 0]) []:=by
 have h1:=hw.mu;have h2:=hw.ol;have h3:=hw.wl;have h4:=Z0H hw.W r;have h11:=Z29 (loadA w.heap.W r).1 h4.1;have h5:=hw.pl;have h6:=validB_iff.1 hw.C;have h7:=hw.tl;have h8:=Z5e hw.C c5;have h9:=Z6E w r;have h10:=hw.rk;obtain⟨i,p,t,d1,d2,d3,d4,d4',d5,d6,d7,d8,d9,e⟩:=Z5O hw h9.1 c8;have e1:=congrArg (λw=>w.heap.W) e;have e2:=congrArg (λw=>w.Q) e;have e3:=congrArg (λw=>w.rep) e;have e3c:=congrArg (λw=>w.rep.copied) e;simp only at e1 e2 e3 e3c;have l1:=ZfJ w.heap.W (w.place (sizeH (hdW w r))).2.1 r (sizeH (hdW w r));unfold Z2D at c7;unfold hdW at *;have Q0 {h_ c_ p_} (r_:Fq h_ c_ p_):=FcG 29 (!r==0) (λhg=>by(try simp only[bs]at hg);exact @Z0N w.Q r oq) r_;rcases bb (r==0||Ld (r∈w.Q))with hc0 | hc0<;>have hc0p:=hc0<;>simp only[bs]at hc0p
 .rw[show(w.place (sizeH (decodeH (loadA w.heap.W r).1).1)).1.copy r (w.place (sizeH (decodeH (loadA w.heap.W r).1).1)).2.1 (sizeH (decodeH (loadA w.heap.W r).1).1)=w from by grind[Work.copy]];exact gF [] func137 (fO 4) (Q0 (Ft 30 hc0 (Fr w.heap.C.pw (Fr w.heap.C.pg (Fr (O wdv w.heap.W) (Fr (O Page.dv w.heap.P) (Fr w.heap.S (Fr w.heap.B (Fr (O wdv w.old) (Fr (O idv w.T) (Fr (O wdv w.Q) (Fr w.D (Fr w.rep.copied (Fr w.rep.kept (Fr w.rep.filled (Fr w.rep.freed (Fr w.rep.cleared (Fr w.rep.steps (Fa (by grind[Work.copy]:r=(w.place (sizeH (decodeH (loadA w.heap.W r).1).1)).2.1) (Fr (0:Int) Fz))))))))))))))))))))
 .obtain⟨hc0pa,hc0pb⟩:=hc0p;let y1:=ofA w.heap.C r;let y2:=loadA w.heap.W r;let y0:=w.place (sizeH (decodeH y2.1).1);let y3:=sizeH (decodeH y2.1).1;exact gF [] func137 [] (Fh 77 [.call Lb (Sx.bool (Z1L w y1.1)) [],.br La] (Fh 156 [.br La] (Fh 192 [.els (O wdv (y0.1.Q++[y0.2.1]))] (Q0 (Ff 30 hc0 (Fc 36 (@Z0N w.old r oq) (Ffb 37 (!decide (r∈w.old)) (Fc 44 (@Z1H w.heap.W r oq aa) (Fc 49 (@Z2R (y2.1) oq oq) (Fa ‹(Z0u y2.1).2=La› (Fc 60 (@Z4j w.heap.C r oq oq) (FlG 71 (!y1.2.2 != 0) Page.dv w.heap.P (Ffb 52 (y1.2.2 != 0||Ld ((w.heap.P.length:Int)<=y1.1)) (Fa (@Z1U w (y1.1) oq oq) (Fa ‹Z1L w y1.1=La› (Fe 86 Page.dv w.heap.P (y1.1) (Ffb 73 ((w.heap.P.getD y1.1.toNat M).K==2) (Fc 143 (@Z2P (y2.1) oq oq) (Fc 147 (@Z1E ((decodeH y2.1).1) aa) (Fc 151 (@ZaF w y3 aa aa) (Ffb 89 (!y0.2.2) (Fc 165 (@ZkB (y0.1.heap.W) (y0.2.1) r y3 (by grind[Work.copy]) oq aa) (Fc 172 (@Zeb (y0.2.1) oq oq) (Fc 181 (@Z8z ((moveA y0.1.heap.W y0.2.1 r y3).1) r (4*y0.2.1+2) (by grind[Work.copy]) aa) (FAx 186 189 wdv y0.1.Q (by grind[Work.copy]) (Fs 191 (O wdv [y0.2.1]) (Fa (by grind[Work.copy]:(O wdv y0.1.Q).length+(O wdv [y0.2.1]).length<=2^30) (Fa (by simp[Work.copy,LS,LQ,LR,LB,wdv,idv]:O wdv y0.1.Q++O wdv [y0.2.1]=O wdv (y0.1.Q++[y0.2.1])) (Fi 197 (y0.1.rep.copied+1) Fz)))))))))))))))))))))))))))))
end
def ZmN(w:Work)(r x:Int)(hs:w.heap.S=0\/w.heap.S=1)(hl:w.heap.P.length<=1048576)(hx:0<=x):CP (blkF f137 0) (Tg.st ⟨tm 202 [(1,u64 r),(2,.pt 8002 0 0),(4,.pt 8004 0 0),(5,u64 0),(6,int 0),(14,int (x+1))],[(88094,.arr 86 4 ((w.heap.P.set x.toNat ⟨(w.heap.P.getD x.toNat M).K,1-w.heap.S,(w.heap.P.getD x.toNat M).U,(w.heap.P.getD x.toNat M).N⟩).map Page.dv)),(8002,.box 138 [int w.heap.C.pw,int w.heap.C.pg,Z01 w.heap.W,.ow 88094,int w.heap.S,int w.heap.B,Z01 w.old,Z0K w.T,Z01 w.Q,int w.D,int w.rep.copied,int w.rep.kept,int w.rep.filled,int w.rep.freed,int w.rep.cleared,int w.rep.steps]),(8004,.box 138 zW)],60⟩) .nrm (Tg.st ⟨tm 202 [(1,u64 r),(2,.pt 8002 0 0),(4,.pt 8004 0 0),(5,u64 0),(6,int 0)],[(88094,.arr 86 4 ((Z0U w.heap.P x.toNat (Z0I w.heap.P x.toNat) (1-w.heap.S)).map Page.dv)),(8002,.box 138 [int w.heap.C.pw,int w.heap.C.pg,Z01 w.heap.W,.ow 88094,int w.heap.S,int w.heap.B,Z01 w.old,Z0K w.T,Z01 w.Q,int w.D,int w.rep.copied,int w.rep.kept,int w.rep.filled,int w.rep.freed,int w.rep.cleared,int w.rep.steps]),(8004,.box 138 zW)],60⟩):=by
 have h:=Z08 (S:=λk=>(fwdL w r x k).st) (Z0I w.heap.P x.toNat) kr (λk hk=>Zm9 w r x k hs hl hx hk) (ZoX w r x hl hx);have hz:=Zh0 (l:=w.heap.P) (i:=x.toNat) (1-w.heap.S);simp only[fwdL,hz,Zhl,Int.natCast_zero,Int.add_zero]at h;exact h
section
variable (w:Work) (r:Int) (hw:WkOk w) (h0:0<=r/\r<=18446744073709551615) (c1:r≠0) (c2:r∉w.Q) (c3:r∈w.old) (c4:(Z0u (loadA w.heap.W r).1).2=La) (c5:(ofA w.heap.C r).2.2=0)
include hw h0 c1 c2 c3 c4 c5
theorem Zk0(c6:Z1L w (ofA w.heap.C r).1=La)(c7:(w.heap.P.getD (Z2D w r) M).K=2):GP 137 [w.av,u64 r] La (.tu [((w.flip (Z2D w r)).keep r).av,u64 r,int 0]) []:=by
 have h1:=hw.mu;have h2:=hw.ol;have h3:=hw.wl;have h4:=Z0H hw.W r;have h5:=hw.pl;have h6:=validB_iff.1 hw.C;have h7:=hw.tl;have h8:=Z5e hw.C c5;have h9:=hw.sp;have h10:=ZhC hw (Z2D w r);have h12:(⟨⟨w.heap.C,w.heap.W,Z0U w.heap.P (ofA w.heap.C r).1.toNat (Z0I w.heap.P (ofA w.heap.C r).1.toNat) (1-w.heap.S),w.heap.S,w.heap.B⟩,w.old,w.T,w.Q,w.D,w.rep⟩:Work)=w.flip (Z2D w r):=rfl;unfold Z2D at c7;have Q0 {h_ c_ p_} (r_:Fq h_ c_ p_):=FcG 29 (!r==0) (λhg=>by(try simp only[bs]at hg);exact @Z0N w.Q r oq) r_;rcases bb (r==0||Ld (r∈w.Q))with hc0 | hc0<;>have hc0p:=hc0<;>simp only[bs]at hc0p
 .rw[show(w.flip (Z2D w r)).keep r=w from by grind[]];exact gF [] func137 [] (Q0 (Ft 30 hc0 Fz))
 .obtain⟨hc0pa,hc0pb⟩:=hc0p;let y0:=ofA w.heap.C r;let y1:=Work.mk (Heap.mk w.heap.C w.heap.W (Z0U w.heap.P y0.1.toNat (Z0I w.heap.P y0.1.toNat) (1-w.heap.S)) w.heap.S w.heap.B) w.old w.T w.Q w.D w.rep;let y2:=w.heap.P.getD y0.1.toNat M;exact gF [] func137 [] (Fh 73 [.br La] (Fh 77 [.call Lb (Sx.bool (Z1L w y0.1)) [],.br La] (Fh 139 [.kill (y1.keep r).av] (Q0 (Ff 30 hc0 (Fc 36 (@Z0N w.old r oq) (Ffb 37 (!decide (r∈w.old)) (Fc 44 (@Z1H w.heap.W r oq aa) (Fc 49 (@Z2R ((loadA w.heap.W r).1) oq oq) (Fa ‹(Z0u (loadA w.heap.W r).1).2=La› (Fc 60 (@Z4j w.heap.C r oq oq) (FlG 71 (!y0.2.2 != 0) Page.dv w.heap.P (Ffb 52 (y0.2.2 != 0||Ld ((w.heap.P.length:Int)<=y0.1)) (Fa (@Z1U w (y0.1) oq oq) (Fa ‹Z1L w y0.1=La› (Fe 86 Page.dv w.heap.P (y0.1) (Ftb 89 (y2.K==2) (FA 90 94 Page.dv w.heap.P (Fi 104 (1-w.heap.S) (Fm0q Page.dv w.heap.P (y0.1) (FS 10106 Page.dv w.heap.P (y0.1.toNat) (Page.mk y2.K (1-w.heap.S) y2.U y2.N) (y2.dv) (Fi 108 (y0.1+1) (Fu (@ZmN w r (y0.1) aa oq oq) (Fa (@Zcm y1 r aa) Fz))))))))))))))))))))))))
end
def Z3P(w:Work)(r:Int)(hw:WkOk w)(h0:0<=r/\r<=18446744073709551615):GP 137 [w.av,u64 r] La (.tu [(w.fwd r).1.av,u64 (w.fwd r).2.1,int (w.fwd r).2.2]) []:=by
 unfold Work.fwd;by_cases c1:r=0\/r∈w.Q
 .rw[if_pos c1];exact ZhH w r hw h0 c1
 .rw[if_neg c1];have c1':r≠0:=λh=>c1 (Li h);have c2':r∉w.Q:=λh=>c1 (Lm h);by_cases c3:r∈w.old
  .rw[if_neg (by simpa using c3)];by_cases c4:(Z0u (loadA w.heap.W r).1).2=Lb
   .rw[if_pos c4];exact ZiC w r hw h0 c1' c2' c3 c4
   .rw[if_neg c4];have c4':(Z0u (loadA w.heap.W r).1).2=La:=by simpa using c4
    by_cases c5:(ofA w.heap.C r).2.2=0
    .rw[if_neg (by simpa using c5)];by_cases c6:Z1L w (ofA w.heap.C r).1=Lb
     .rw[if_pos c6];exact ZjJ w r hw h0 c1' c2' c3 c4' c5 c6
     .rw[if_neg c6];have c6':Z1L w (ofA w.heap.C r).1=La:=by simpa using c6
      by_cases c7:(w.heap.P.getD (Z2D w r) M).K=2
      .rw[if_pos c7];exact Zk0 w r hw h0 c1' c2' c3 c4' c5 c6' c7
      .rw[if_neg c7];by_cases c8:(w.place (sizeH (hdW w r))).2.2=La
       .rw[if_pos c8];exact ZiE w r hw h0 c1' c2' c3 c4' c5 c6' c7 c8
       .rw[if_neg c8];exact ZhB w r hw h0 c1' c2' c3 c4' c5 c6' c7 (by simpa using c8)
    .rw[if_pos c5];exact ZiX w r hw h0 c1' c2' c3 c4' c5
  .rw[if_pos c3];exact ZhT w r hw h0 c1' c2' c3
def Z1D(w:Work)(roots:List Int):Nat->Work×List Int
 | 0=>(w,[])
 | k+1=>(((Z1D w roots k).1.fwd (roots.getD k M)).1,(Z1D w roots k).2++[((Z1D w roots k).1.fwd (roots.getD k M)).2.1])
def Z2O(w:Work)(roots:List Int)(k:Nat):Int:=((Z1D w roots k).1.fwd (roots.getD k M)).2.2
def rootsF(w:Work)(roots:List Int):Work×List Int×Int:=match (Lg roots.length).find? (λk=>Ld (Z2O w roots k≠0))with
 | none=>((Z1D w roots roots.length).1,(Z1D w roots roots.length).2,0)
 | some k=>(noWork,[],Z2O w roots k)
def rtsL(w:Work)(roots out:List Int)(i:Nat):Tg:=⟨tm 39 [(1,Z01 roots),(2,.pt 8002 0 0),(4,.pt 8004 0 0),(5,.d (.sl 0 [])),(6,int 0),(7,.ow 16007),(8,int i)],[(16007,.arr 35 1 (out.map wdv)),(8004,.box 138 zW),(8002,.box 138 w.cells)],60⟩
section
variable (w:Work) (roots out:List Int) (i:Nat) (hw:WkOk w) (hr:0<=roots.getD i M/\roots.getD i M<=18446744073709551615) (hl:roots.length<=1048576) (ho:out.length<=1048576) (hi:i<roots.length)
include hw hr hl ho hi
theorem ZfR(e:(w.fwd (roots.getD i M)).2.2=0):CP (rndF f83 0) (rtsL w roots out i).st .nrm (rtsL (w.fwd (roots.getD i M)).1 roots (out++[(w.fwd (roots.getD i M)).2.1]) (i+1)).st:=by
 let y0:=w.fwd (roots.getD i M);exact sF [(504036,16007)] [] (Fh 36 [.els (O wdv (out++[y0.2.1]))] (FN 14 15 22 wdv roots i (Fc 24 (@Z3P w (roots.getD i M) aa aa) (Ffb 29 (y0.2.2 != 0) (Fs 35 (O wdv [y0.2.1]) (Fa (by(simp[*];omega):(O wdv out).length+(O wdv [y0.2.1]).length<=2^30) (Fa (ms:O wdv out++O wdv [y0.2.1]=O wdv (out++[y0.2.1])) (Fx 17 i Fz))))))))
theorem Zlj(e:¬ (w.fwd (roots.getD i M)).2.2=0):CP (rndF f83 0) (rtsL w roots out i).st .ret (Tg.st ⟨tm 39 [(4,.pt 8004 0 0),(5,.d (.sl 0 [])),(6,int (w.fwd (roots.getD i M)).2.2)],[(8004,.box 138 zW)],60⟩):=by
 exact sF [] [] (FN 14 15 22 wdv roots i (Fc 24 (@Z3P w (roots.getD i M) aa aa) (Ftb 29 ((w.fwd (roots.getD i M)).2.2 != 0) Fz)))
end
def ZoR(w:Work)(roots out:List Int):CP (rndF f83 0) (rtsL w roots out roots.length).st (.ext 0) (Tg.st ⟨tm 39 [(2,.pt 8002 0 0),(4,.pt 8004 0 0),(7,.ow 16007)],[(16007,.arr 35 1 (out.map wdv)),(8004,.box 138 zW),(8002,.box 138 w.cells)],60⟩):=by
 exact sF [] [] (FO 14 15 wdv roots Fz)
def Z46(w:Work)(roots:List Int):∀ k,(Z1D w roots k).2.length=k
 | 0=>rfl
 | k+1=>by simp[Z1D,Z46 w roots k]
def Z3t{w:Work}{roots:List Int}(hw:WkOk w):∀ k,(∀ j,j<k->Z2O w roots j=0)->WkOk (Z1D w roots k).1/\(∀ x∈(Z1D w roots k).2,0<=x/\x<=4294967296)/\(Z1D w roots k).1.D=w.D
 | 0,_=>⟨hw,by simp[Z1D],rfl⟩
 | k+1,h=>by
  have ih:=Z3t hw k (λj hj=>h j oq);have hf:=Zjh ih.1 (roots.getD k M) (h k oq);refine⟨hf.1, ?_, ?_⟩
  .intro x hx;simp only[Z1D,Lv,LC]at hx;rcases hx with hx | rfl
   .exact ih.2.1 x hx
   .exact⟨hf.2.1,hf.2.2.1⟩
  .show((Z1D w roots k).1.fwd (roots.getD k M)).1.D=w.D;rw[hf.2.2.2.2.1,ih.2.2]
section
variable (w:Work) (roots:List Int) (hw:WkOk w) (hr:ULe roots) (hl:roots.length<=1048575)
include hw hr hl
theorem Zoa(hb:(Lg roots.length).find? (λk=>Ld (Z2O w roots k≠0))=Le):CP (blkF f83 0) (Tg.st ⟨tm 39 [(1,Z01 roots),(2,.pt 8002 0 0),(4,.pt 8004 0 0),(5,.d (.sl 0 [])),(6,int 0),(7,.ow 16007),(8,int 0)],[(16007,.arr 35 1 []),(8004,.box 138 zW),(8002,.box 138 w.cells)],60⟩) .nrm (Tg.st ⟨tm 39 [(2,.pt 8002 0 0),(4,.pt 8004 0 0),(7,.ow 16007)],[(16007,.arr 35 1 ((Z1D w roots roots.length).2.map wdv)),(8004,.box 138 zW),(8002,.box 138 (Z1D w roots roots.length).1.cells)],60⟩):=by
 have h0:∀ j,j<roots.length->Z2O w roots j=0:=λj hj=>by
  have:=Lu.1 hb j (Lo.2 hj);simpa using this
 exact Z08 (S:=λk=>(rtsL (Z1D w roots k).1 roots (Z1D w roots k).2 k).st) roots.length kr (λk hk=>ZfR _ roots _ k (Z3t hw k λj hj=>h0 j oq).1 (Z4f hr k) oq (by rw[Z46];omega) hk (h0 k hk)) (ZoR _ roots _)
theorem Zl6(i:Nat)(hb:(Lg roots.length).find? (λk=>Ld (Z2O w roots k≠0))=Lc i):CP (blkF f83 0) (Tg.st ⟨tm 39 [(1,Z01 roots),(2,.pt 8002 0 0),(4,.pt 8004 0 0),(5,.d (.sl 0 [])),(6,int 0),(7,.ow 16007),(8,int 0)],[(16007,.arr 35 1 []),(8004,.box 138 zW),(8002,.box 138 w.cells)],60⟩) .ret (Tg.st ⟨tm 39 [(4,.pt 8004 0 0),(5,.d (.sl 0 [])),(6,int (Z2O w roots i))],[(8004,.box 138 zW)],60⟩):=by
 obtain⟨h1,h2,h3⟩:=Ln.1 hb;have h2:=Lo.1 h2;have h0:∀ j,j<i->Z2O w roots j=0:=λj hj=>by simpa using h3 j hj
 exact Z0v (S:=λk=>(rtsL (Z1D w roots k).1 roots (Z1D w roots k).2 k).st) i kr (λk hk=>ZfR _ roots _ k (Z3t hw k λj hj=>h0 j oq).1 (Z4f hr k) oq (by rw[Z46];omega) oq (h0 k hk)) (Zlj _ roots _ i (Z3t hw i h0).1 (Z4f hr i) oq (by rw[Z46];omega) h2 (of_decide_eq_true h1))
theorem Z5s:GP 83 [w.av,Z01 roots] La (.tu [(rootsF w roots).1.av,Z01 (rootsF w roots).2.1,int (rootsF w roots).2.2]) []:=by
 cases hb:(Lg roots.length).find? (λk=>Ld (Z2O w roots k≠0))with
 | none =>
  have e7:rootsF w roots=((Z1D w roots roots.length).1,(Z1D w roots roots.length).2,0):=by rw[rootsF,hb]
  rw[e7];exact gF [] func83 [] (Fh 7 [.own] (Fu (@Zoa w roots aa aa aa aa) Fz))
 | some i =>
  have e7:rootsF w roots=(noWork,[],Z2O w roots i):=by rw[rootsF,hb]
  rw[e7];exact gF [] func83 [] (Fh 7 [.own] (Fu (@Zl6 w roots aa aa aa i aa) (Fnl (Fnl (Fnl (Fnl (Fnl (Fnl Fz))))))))
end
def Z0P(h:Header):Nat->List Int
 | 0=>[]
 | i+1=>if Z0e h (i:Int)=Lb then Z0P h i++[(i:Int)]else Z0P h i
def Z45(h:Header):∀ i,(Z0P h i).length<=i
 | 0=>Ll _
 | i+1=>by
  have:=Z45 h i;simp only[Z0P];split<;>simp<;>omega
def Z04(h:Header):List Int:=if Z0i h=Lb then Z0P h h.length.toNat else []
def Zi6(h:Header)(i:Nat):Tg:=⟨tm 23 [(1,.pt 8001 0 0),(3,.ow 16003),(4,int i)],[(16003,.arr 3 1 ((Z0P h i).map idv)),(8001,.box 52 [int h.K,int h.length,u32 h.map])],60⟩
def Zj0(h:Header)(i:Nat)(hm:0<=h.map/\h.map<=4294967295)(hv:Z0i h=Lb)(hb:h.length<=255)(hi:i<h.length):CP (rndF f189 0) (Zi6 h i).st .nrm (Zi6 h (i+1)).st:=by
 have hn:=Z45 h i;by_cases hp:Z0e h (i:Int)=Lb
 .have e:Z0P h (i+1)=Z0P h i++[(i:Int)]:=by rw[Z0P,if_pos hp]
  exact sF [(496021,16003)] (fO 5) (Fh 17 [.call Lb (Sx.bool (Z0e h (i:Int))) [],.br Lb] (Fh 21 [.els (O idv (Z0P h i++[(i:Int)]))] (FcG 11 (Ld ((i:Int)<h.length)) (λhg=>by(try simp only[bs]at hg);exact @Z28 h aa) (Ft 12 (by simp[*]:(Ld ((i:Int)<h.length)&&Z0i h)=Lb) (Fa (@Z1F h ((i:Int)) aa) (Fa ‹Z0e h (i:Int)=Lb› (Fs 20 (O idv [(i:Int)]) (Fa (by(simp[*];omega):(O idv (Z0P h i)).length+(O idv [(i:Int)]).length<=2^30) (Fa (ms:O idv (Z0P h i)++O idv [(i:Int)]=O idv (Z0P h i++[(i:Int)])) (Fx 14 i (Fr (3:Int) (Fa (by refine congrArg _ ?_;rw[e]:O idv (Z0P h i++[(i:Int)])=O idv (Z0P h (i+1))) Fz))))))))))))
 .have e:Z0P h (i+1)=Z0P h i:=by rw[Z0P,if_neg hp]
  have hp':Z0e h (i:Int)=La:=by simpa using hp
  exact sF [] (fO 5) (Fh 17 [.call Lb (Sx.bool (Z0e h (i:Int))) [],.br La] (FcG 11 (Ld ((i:Int)<h.length)) (λhg=>by(try simp only[bs]at hg);exact @Z28 h aa) (Ft 12 (by simp[*]:(Ld ((i:Int)<h.length)&&Z0i h)=Lb) (Fa (@Z1F h ((i:Int)) aa) (Fa ‹Z0e h (i:Int)=La› (Fx 14 i (Fr (3:Int) (Fa (by refine congrArg _ ?_;rw[e]:O idv (Z0P h i)=O idv (Z0P h (i+1))) Fz))))))))
def ZiV(h:Header)(i:Nat)(hm:0<=h.map/\h.map<=4294967295)(hi:h.length<=i\/Z0i h=La):CP (rndF f189 0) (Zi6 h i).st (.ext 0) (Tg.st ⟨tm 23 [(3,.ow 16003)],[(16003,.arr 3 1 ((Z0P h i).map idv))],60⟩):=by
 rcases hi with hi | hi
 .exact sF [] [] (FcG 11 (Ld ((i:Int)<h.length)) (λhg=>by(try simp only[bs]at hg);exact @Z28 h aa) (Ffb 12 (Ld ((i:Int)<h.length)&&Z0i h) Fz))
 .exact sF [] [] (FcG 11 (Ld ((i:Int)<h.length)) (λhg=>by(try simp only[bs]at hg);exact @Z28 h aa) (Ff 12 (by simp[*]:(Ld ((i:Int)<h.length)&&Z0i h)=La) Fz))
def Zks(h:Header)(hm:0<=h.map/\h.map<=4294967295):CP (blkF f189 0) (Tg.st ⟨tm 23 [(1,.pt 8001 0 0),(3,.ow 16003),(4,int 0)],[(16003,.arr 3 1 []),(8001,.box 52 [int h.K,int h.length,u32 h.map])],60⟩) .nrm (Tg.st ⟨tm 23 [(3,.ow 16003)],[(16003,.arr 3 1 ((Z04 h).map idv))],60⟩):=by
 unfold Z04;by_cases hv:Z0i h=Lb
 .rw[if_pos hv];have hb:=validH_iff.1 hv;exact Z08 (S:=λi=>(Zi6 h i).st) h.length.toNat kr (λi hi=>Zj0 h i hm hv oq oq) (ZiV h _ hm (.inl oq))
 .rw[if_neg hv];exact Z08 (S:=λi=>(Zi6 h i).st) 0 kr (λi hi=>by omega) (ZiV h 0 hm (.inr (by simpa using hv)))
def Z7n(h:Header)(hm:0<=h.map/\h.map<=4294967295):GP 189 [h.av] Lb (.d (.sl 1 ((Z04 h).map idv))) []:=by
 exact gF [] func189 [] (Fh 3 [.own] (Fu (@Zks h aa) (Fa (by exact Zff _:Z1s (O idv (Z04 h))) Fz)))
def Work.in1(w:Work)(a:Int):Work:=⟨⟨(w.fwd (loadA w.heap.W a).1).1.heap.C,(Z1m (w.fwd (loadA w.heap.W a).1).1.heap.W a (w.fwd (loadA w.heap.W a).1).2.1).1,(w.fwd (loadA w.heap.W a).1).1.heap.P,(w.fwd (loadA w.heap.W a).1).1.heap.S,(w.fwd (loadA w.heap.W a).1).1.heap.B⟩,(w.fwd (loadA w.heap.W a).1).1.old,(w.fwd (loadA w.heap.W a).1).1.T,(w.fwd (loadA w.heap.W a).1).1.Q,(w.fwd (loadA w.heap.W a).1).1.D,(w.fwd (loadA w.heap.W a).1).1.rep⟩
def innN(w:Work)(a:Int)(l:List Int):Nat->Work
 | 0=>w
 | k+1=>(innN w a l k).in1 (a+1+l.getD k M)
def innE(w:Work)(a:Int)(l:List Int)(k:Nat):Int:=((innN w a l k).fwd (loadA (innN w a l k).heap.W (a+1+l.getD k M)).1).2.2
def Z3Y(w:Work):Int:=w.Q.getD w.D.toNat M
def Z2j(w:Work):List Int:=Z04 (hdW w (Z3Y w))
def ZgA(w:Work)(n:Int):Work:=⟨w.heap,w.old,w.T,w.Q,w.D+1,⟨w.rep.copied,w.rep.kept,w.rep.filled,w.rep.freed,w.rep.cleared,w.rep.steps+1+n⟩⟩
def Z0Z(w:Work):Work×Bool×Int :=
 if w.D<w.Q.length then
  match (Lg (Z2j w).length).find? (λk=>Ld (innE w (Z3Y w) (Z2j w) k≠0))with
  | none=>(ZgA (innN w (Z3Y w) (Z2j w) (Z2j w).length) (Z2j w).length,Lb,0)
  | some k=>(noWork,La,innE w (Z3Y w) (Z2j w) k)
 else(w,La,0)
def Zpi{w:Work}(hw:WkOk w)(a:Int)(e:(w.fwd (loadA w.heap.W a).1).2.2=0):WkOk (w.in1 a)/\w.Q.length<=(w.in1 a).Q.length/\(w.in1 a).D=w.D/\(w.in1 a).rep.steps=w.rep.steps:=by
 have hf:=Zjh hw _ e;have hl:=Zd4 (w.fwd (loadA w.heap.W a).1).1.heap.W a (w.fwd (loadA w.heap.W a).1).2.1;have hl2:=hf.1.wl;exact⟨hf.1.withWords (Z8h hf.1.W oq a) oq,hf.2.2.2.1,hf.2.2.2.2.1,hf.2.2.2.2.2⟩
def Z5g{w:Work}(hw:WkOk w)(a:Int)(l:List Int):∀ k,(∀ j,j<k->innE w a l j=0)->WkOk (innN w a l k)/\w.Q.length<=(innN w a l k).Q.length/\(innN w a l k).D=w.D/\(innN w a l k).rep.steps=w.rep.steps
 | 0,_=>⟨hw,Ll _,rfl,rfl⟩
 | k+1,h=>by
  have ih:=Z5g hw a l k (λj hj=>h j oq);have hi:=Zpi ih.1 (a+1+l.getD k M) (h k oq);exact⟨hi.1,Nat.le_trans ih.2.1 hi.2.1,hi.2.2.1.trans ih.2.2.1,hi.2.2.2.trans ih.2.2.2⟩
def Z3d(h:Header):∀ i,∀ x∈Z0P h i,0<=x/\x<i
 | 0,x,hx=>by simp[Z0P]at hx
 | i+1,x,hx=>by
  have ih:=Z3d h i;simp only[Z0P]at hx;split at hx
  .rcases Lv.1 hx with hx | hx
   .have:=ih x hx;omega
   .simp at hx;omega
  .have:=ih x hx;omega
def Z1I(h:Header):(Z04 h).length<=255/\∀ x∈Z04 h,0<=x/\x<=255:=by
 unfold Z04;split
 .rename_i hv;have:=validH_iff.1 hv;have hl:=Z45 h h.length.toNat
  exact⟨by omega,λx hx=>by have:=Z3d h _ x hx;omega⟩
 .simp
def Zh9(w:Work)(hw:WkOk w)(hs:¬ w.D<w.Q.length):GP 138 [w.av] La (.tu [w.av,bool La,int 0]) []:=by
 have h3:=hw.mu;exact gF [] func138 [] (Fl 18 wdv w.Q (Ftb 19 (Ld ((w.Q.length:Int)<=w.D)) Fz))
def stpL(w:Work)(a:Int)(l:List Int)(k:Nat):Tg:=⟨tm 90 [(1,.pt 8001 0 0),(2,.pt 8002 0 0),(3,bool La),(4,int 0),(5,u64 a),(6,Z0K l),(7,int k)],[(8002,.box 138 zW),(8001,.box 138 w.cells)],60⟩
section
variable (w:Work) (a:Int) (l:List Int) (k:Nat) (hw:WkOk w) (ha:0<=a/\a<=16384) (hl:l.length<=255) (hr:0<=l.getD k M/\l.getD k M<=255) (hk:k<l.length)
include hw ha hl hr hk
theorem ZfK(e:(w.fwd (loadA w.heap.W (a+1+l.getD k M)).1).2.2=0):CP (rndF f138 0) (stpL w a l k).st .nrm (stpL (w.in1 (a+1+l.getD k M)) a l (k+1)).st:=by
 have h1:=hw.wl;have h2:=Z0H hw.W (a+1+l.getD k M);have h3:=Zjh hw _ e;have h4:=h3.1.wl;let y0:=a+1+l.getD k M;let y1:=w.fwd (loadA w.heap.W y0).1;exact sF [] [] (FM 33 34 idv l k (Fv 38 (a+1) (Fek 41 idv l (↑k) k (Fv 43 (l.getD k M) (Fv 44 y0 (Fc 50 (@Z1H w.heap.W y0 oq oq) (Fc 56 (@Z3P w ((loadA w.heap.W y0).1) aa aa) (Ffb 61 (y1.2.2 != 0) (Fc 71 (@Z8z (y1.1.heap.W) y0 (y1.2.1) oq oq) (Fx 36 k Fz))))))))))
theorem ZlS(e:¬ (w.fwd (loadA w.heap.W (a+1+l.getD k M)).1).2.2=0):CP (rndF f138 0) (stpL w a l k).st .ret (Tg.st ⟨tm 90 [(2,.pt 8002 0 0),(3,bool La),(4,int (w.fwd (loadA w.heap.W (a+1+l.getD k M)).1).2.2)],[(8002,.box 138 zW)],60⟩):=by
 have h1:=hw.wl;have h2:=Z0H hw.W (a+1+l.getD k M);let y0:=a+1+l.getD k M;exact sF [] [] (FM 33 34 idv l k (Fv 38 (a+1) (Fek 41 idv l (↑k) k (Fv 43 (l.getD k M) (Fv 44 y0 (Fc 50 (@Z1H w.heap.W y0 oq oq) (Fc 56 (@Z3P w ((loadA w.heap.W y0).1) aa aa) (Ftb 61 ((w.fwd (loadA w.heap.W y0).1).2.2 != 0) Fz))))))))
end
def ZoK(w:Work)(a:Int)(l:List Int):CP (rndF f138 0) (stpL w a l l.length).st (.ext 0) (Tg.st ⟨tm 90 [(1,.pt 8001 0 0),(2,.pt 8002 0 0),(6,Z0K l)],[(8002,.box 138 zW),(8001,.box 138 w.cells)],60⟩):=by
 exact sF [] [] (FO 33 34 idv l Fz)
section
variable (w:Work) (a:Int) (l:List Int) (hw:WkOk w) (ha:0<=a/\a<=16384) (hl:l.length<=255) (hr:∀ x∈l,0<=x/\x<=255)
include hw ha hl hr
theorem Zoe(hb:(Lg l.length).find? (λk=>Ld (innE w a l k≠0))=Le):CP (blkF f138 0) (Tg.st ⟨tm 90 [(1,.pt 8001 0 0),(2,.pt 8002 0 0),(3,bool La),(4,int 0),(5,u64 a),(6,Z0K l),(7,int 0)],[(8002,.box 138 zW),(8001,.box 138 w.cells)],60⟩) .nrm (Tg.st ⟨tm 90 [(1,.pt 8001 0 0),(2,.pt 8002 0 0),(6,Z0K l)],[(8002,.box 138 zW),(8001,.box 138 (innN w a l l.length).cells)],60⟩):=by
 have h0:∀ j,j<l.length->innE w a l j=0:=λj hj=>by
  have:=Lu.1 hb j (Lo.2 hj);simpa using this
 exact Z08 (S:=λk=>(stpL (innN w a l k) a l k).st) l.length kr (λk hk=>ZfK _ a l k (Z5g hw a l k λj hj=>h0 j oq).1 ha hl (hr _ (getD_mem_iff.2 ⟨k,hk,rfl⟩)) hk (h0 k hk)) (ZoK _ a l)
theorem Zka(i:Nat)(hb:(Lg l.length).find? (λk=>Ld (innE w a l k≠0))=Lc i):CP (blkF f138 0) (Tg.st ⟨tm 90 [(1,.pt 8001 0 0),(2,.pt 8002 0 0),(3,bool La),(4,int 0),(5,u64 a),(6,Z0K l),(7,int 0)],[(8002,.box 138 zW),(8001,.box 138 w.cells)],60⟩) .ret (Tg.st ⟨tm 90 [(2,.pt 8002 0 0),(3,bool La),(4,int (innE w a l i))],[(8002,.box 138 zW)],60⟩):=by
 obtain⟨h1,h2,h3⟩:=Ln.1 hb;have h2:=Lo.1 h2;have h0:∀ j,j<i->innE w a l j=0:=λj hj=>by simpa using h3 j hj
 exact Z0v (S:=λk=>(stpL (innN w a l k) a l k).st) i kr (λk hk=>ZfK _ a l k (Z5g hw a l k λj hj=>h0 j oq).1 ha hl (hr _ (getD_mem_iff.2 ⟨k,by omega,rfl⟩)) oq (h0 k hk)) (ZlS _ a l i (Z5g hw a l i h0).1 ha hl (hr _ (getD_mem_iff.2 ⟨i,h2,rfl⟩)) h2 (of_decide_eq_true h1))
end
def Z9n(w:Work)(hw:WkOk w):GP 138 [w.av] La (.tu [(Z0Z w).1.av,bool (Z0Z w).2.1,int (Z0Z w).2.2]) []:=by
 by_cases hs:w.D<w.Q.length
 .have h2:=hw.sc;have h1:=hw.q _ (getD_mem_iff.2 ⟨w.D.toNat,by omega,rfl⟩);have h3:=hw.mu;have h4:=Z29 (loadA w.heap.W (w.Q.getD w.D.toNat M)).1 (Z0H hw.W _).1;have h5:hdW w (w.Q.getD w.D.toNat M)=(decodeH (loadA w.heap.W (w.Q.getD w.D.toNat M)).1).1:=rfl;have h6:=Z1I (hdW w (w.Q.getD w.D.toNat M));rw[<- h5]at h4;unfold Z0Z;rw[if_pos hs];cases hb:(Lg (Z2j w).length).find? (λk=>Ld (innE w (Z3Y w) (Z2j w) k≠0))with
  | none =>
   have h0:∀ j,j<(Z2j w).length->innE w (Z3Y w) (Z2j w) j=0:=λj hj=>by
    have:=Lu.1 hb j (Lo.2 hj);simpa using this
   have k1:=Z5g hw (Z3Y w) (Z2j w) (Z2j w).length h0;have k2:=k1.1.rs;have k3:=k1.1.sc;have k4:=k1.1.mu;unfold Z2j Z3Y at *;let y0:=w.Q.getD w.D.toNat M;let y1:=Z04 (hdW w y0);let y2:=innN w y0 y1 y1.length;exact gF [] func138 [] (Fl 18 wdv w.Q (Ffb 19 (Ld ((w.Q.length:Int)<=w.D)) (Fe 25 wdv w.Q w.D (Fc 29 (@Zgj w y0 aa oq) (Fc 30 (@Z7n (hdW w y0) aa) (Fu (@Zoe w y0 y1 aa aa oq (by grind[ZgA]) aa) (Fi 78 (y2.D+1) (Fi 83 (y2.rep.steps+1) (Fl 85 idv y1 (Fi 86 (y2.rep.steps+1+(y1.length:Int)) Fz))))))))))
  | some k =>
   unfold Z2j Z3Y at *;let y3:=w.Q.getD w.D.toNat M;exact gF [] func138 [] (Fl 18 wdv w.Q (Ffb 19 (Ld ((w.Q.length:Int)<=w.D)) (Fe 25 wdv w.Q w.D (Fc 29 (@Zgj w y3 aa oq) (Fc 30 (@Z7n (hdW w y3) aa) (Fu (@Zka w y3 (Z04 (hdW w y3)) aa aa oq (by grind[noWork,noHeap]) k aa) (Fnl (Fnl (Fnl (Fnl (Fnl Fz)))))))))))
 .have e:Z0Z w=(w,La,0):=by rw[Z0Z,if_neg hs]
  rw[e];exact Zh9 w hw hs
def Zf3{w:Work}(hw:WkOk w)(e:(Z0Z w).2.2=0):WkOk (Z0Z w).1/\((Z0Z w).2.1=Lb->(Z0Z w).1.D=w.D+1):=by
 by_cases hs:w.D<w.Q.length
 .unfold Z0Z at e ⊢;rw[if_pos hs]at e ⊢;cases hb:(Lg (Z2j w).length).find? (λk=>Ld (innE w (Z3Y w) (Z2j w) k≠0))with
  | none =>
   have h0:∀ j,j<(Z2j w).length->innE w (Z3Y w) (Z2j w) j=0:=λj hj=>by
    have:=Lu.1 hb j (Lo.2 hj);simpa using this
   have k1:=Z5g hw (Z3Y w) (Z2j w) (Z2j w).length h0;have k2:=k1.1.rs;have k3:=k1.1.sc;have k5:=(Z1I (hdW w (Z3Y w))).1;have k6:=hw.sc;simp only;refine⟨⟨k1.1.W,k1.1.wl,k1.1.C,k1.1.pl,k1.1.sp,k1.1.ol,k1.1.o,k1.1.tk,k1.1.tl,k1.1.q,k1.1.us,k1.1.mu, ?_,k1.1.rk, ?_,k1.1.r0⟩, ?_⟩
   .simp only[ZgA];omega
   .simp only[ZgA];unfold Z2j at *;omega
   .intro _;simp only[ZgA];omega
  | some k =>
   simp only[hb]at e;have:=(Ln.1 hb).1;simp[e]at this
 .have e:Z0Z w=(w,La,0):=by rw[Z0Z,if_neg hs]
  rw[e];exact⟨hw,λh=>by cases h⟩
def itW(w:Work):Nat->Work
 | 0=>w
 | k+1=>(Z0Z (itW w k)).1
def bndW(w:Work):Nat:=1000002+w.old.length
def Z48(w:Work)(k:Nat):Bool:=Ld ((Z0Z (itW w k)).2.2≠0\/(Z0Z (itW w k)).2.1=La)
def allF(w:Work):Work×Int:=match (Lg (bndW w)).find? (Z48 w)with
 | none=>(w,0)
 | some k=>if(Z0Z (itW w k)).2.2=0 then((Z0Z (itW w k)).1,0)else(noWork,(Z0Z (itW w k)).2.2)
def Z4Y{w:Work}(hw:WkOk w):∀ k,(∀ j,j<k->Z48 w j=La)->WkOk (itW w k)/\(itW w k).D=w.D+k
 | 0,_=>⟨hw,by simp[itW]⟩
 | k+1,h=>by
  have ih:=Z4Y hw k (λj hj=>h j oq);have hk:=h k oq;simp only[Z48,decide_eq_false_iff_not,not_or,Ly]at hk;have hs:=Zf3 ih.1 hk.1;refine⟨hs.1, ?_⟩;have:=hs.2 (by simpa using hk.2);simp only[itW];omega
def Z6B{w:Work}(hw:WkOk w):∃ k,(Lg (bndW w)).find? (Z48 w)=Lc k:=by
 cases hb:(Lg (bndW w)).find? (Z48 w)with
 | some k=>exact⟨k,rfl⟩
 | none =>
  exfalso;have h0:∀ j,j<1000001->Z48 w j=La:=λj hj=>by
   have:=Lu.1 hb j (Lo.2 (by unfold bndW;omega));simpa using this
  have k:=Z4Y hw 1000001 h0;have h1:=k.1.sc;have h2:=k.1.mu;have h3:=hw.sc;omega
def allL(w:Work):Tg:=⟨tm 21 [(1,.pt 8001 0 0),(2,.pt 8002 0 0),(3,int 0)],[(8002,.box 138 zW),(8001,.box 138 w.cells)],60⟩
section
variable (w:Work) (hw:WkOk w)
include hw
theorem Zgf(e:(Z0Z w).2.2=0)(m:(Z0Z w).2.1=Lb):CP (rndF f84 0) (allL w).st .nrm (allL (Z0Z w).1).st:=by
 exact sF [] [] (Fc 9 (@Z9n w aa) (Ffb 14 ((Z0Z w).2.2 != 0) (Ffb 19 (!(Z0Z w).2.1) Fz)))
theorem ZmX(e:(Z0Z w).2.2=0)(m:(Z0Z w).2.1=La):CP (rndF f84 0) (allL w).st .ret (Tg.st ⟨tm 21 [(2,.pt 8002 0 0),(3,int 0)],[(8002,.box 138 (Z0Z w).1.cells)],60⟩):=by
 exact sF [] [] (Fc 9 (@Z9n w aa) (Ffb 14 ((Z0Z w).2.2 != 0) (Ftb 19 (!(Z0Z w).2.1) Fz)))
theorem Zp9(e:¬ (Z0Z w).2.2=0):CP (rndF f84 0) (allL w).st .ret (Tg.st ⟨tm 21 [(2,.pt 8002 0 0),(3,int (Z0Z w).2.2)],[(8002,.box 138 zW)],60⟩):=by
 exact sF [] [] (Fc 9 (@Z9n w aa) (Ftb 14 ((Z0Z w).2.2 != 0) Fz))
theorem ZnY(k:Nat)(hb:(Lg (bndW w)).find? (Z48 w)=Lc k)(e:(Z0Z (itW w k)).2.2=0):CP (blkF f84 0) (Tg.st ⟨tm 21 [(1,.pt 8001 0 0),(2,.pt 8002 0 0),(3,int 0)],[(8002,.box 138 zW),(8001,.box 138 w.cells)],60⟩) .ret (Tg.st ⟨tm 21 [(2,.pt 8002 0 0),(3,int 0)],[(8002,.box 138 (Z0Z (itW w k)).1.cells)],60⟩):=by
 obtain⟨h1,h2,h3⟩:=Ln.1 hb;have h0:∀ j,j<k->Z48 w j=La:=λj hj=>by simpa using h3 j hj
 have m:(Z0Z (itW w k)).2.1=La:=by
  simp only[Z48,decide_eq_true_eq,e]at h1;simpa using h1
 exact Z0v (S:=λk=>(allL (itW w k)).st) k kr (λj hj=>by
  have hk:=h0 j hj;simp only[Z48,decide_eq_false_iff_not,not_or,Ly]at hk;exact Zgf _ (Z4Y hw j λi hi=>h0 i oq).1 hk.1 (by simpa using hk.2)) (ZmX _ (Z4Y hw k h0).1 e m)
theorem Zml(k:Nat)(hb:(Lg (bndW w)).find? (Z48 w)=Lc k)(e:¬ (Z0Z (itW w k)).2.2=0):CP (blkF f84 0) (Tg.st ⟨tm 21 [(1,.pt 8001 0 0),(2,.pt 8002 0 0),(3,int 0)],[(8002,.box 138 zW),(8001,.box 138 w.cells)],60⟩) .ret (Tg.st ⟨tm 21 [(2,.pt 8002 0 0),(3,int (Z0Z (itW w k)).2.2)],[(8002,.box 138 zW)],60⟩):=by
 obtain⟨h1,h2,h3⟩:=Ln.1 hb;have h0:∀ j,j<k->Z48 w j=La:=λj hj=>by simpa using h3 j hj
 exact Z0v (S:=λk=>(allL (itW w k)).st) k kr (λj hj=>by
  have hk:=h0 j hj;simp only[Z48,decide_eq_false_iff_not,not_or,Ly]at hk;exact Zgf _ (Z4Y hw j λi hi=>h0 i oq).1 hk.1 (by simpa using hk.2)) (Zp9 _ (Z4Y hw k h0).1 e)
theorem Zbs:GP 84 [w.av] La (.tu [(allF w).1.av,int (allF w).2]) []:=by
 obtain⟨k,hb⟩:=Z6B hw;by_cases e:(Z0Z (itW w k)).2.2=0
 .have e7:allF w=((Z0Z (itW w k)).1,0):=by rw[allF,hb];simp only[if_pos e]
  rw[e7];exact gF [] func84 [] (Fu (@ZnY w aa k aa aa) Fz)
 .have e7:allF w=(noWork,(Z0Z (itW w k)).2.2):=by rw[allF,hb];simp only[if_neg e]
  rw[e7];exact gF [] func84 [] (Fu (@Zml w aa k aa aa) (Fnl (Fnl (Fnl (Fnl (Fnl Fz))))))
omit hw in
theorem Zo3(hw:WkOk w)(e:(allF w).2=0):WkOk (allF w).1:=by
 obtain⟨k,hb⟩:=Z6B hw;obtain⟨h1,h2,h3⟩:=Ln.1 hb;have h0:∀ j,j<k->Z48 w j=La:=λj hj=>by simpa using h3 j hj
 unfold allF at e ⊢;rw[hb]at e ⊢;simp only at e ⊢;split at e
 .rename_i c;rw[if_pos c];exact(Zf3 (Z4Y hw k h0).1 c).1
 .rename_i c;exact absurd e c
end
def hlA(ws:List Int)(a:Int):Int:=(decodeH (loadA ws a).1).1.length
def Z13(ws:List Int)(a:Int):0<=hlA ws a/\hlA ws a<=255:=by
 have:=validH_iff.1 (Z2h (loadA ws a).1);exact⟨this.2.2.1,this.2.2.2.1⟩
def Z3X{ws l:List Int}{a b:Int}(h:4096<=a/\a-4096+l.length<=ws.length)(hb:b<a\/a+l.length<=b):loadA (Z0D ws a l).1 b=loadA ws b:=by
 unfold Z0D;rw[if_pos h];have hl:(spl ws (a-4096).toNat l).length=ws.length:=Z50 oq;unfold loadA;simp only[hl];split
 .have:=ZaG (ws:=ws) (l:=l) (i:=(a-4096).toNat) (k:=l.length) oq (Ll _) (b-4096).toNat
  rw[Zd2]at this;rw[Lf,Lf,this];by_cases h1:(b-4096).toNat<(a-4096).toNat
  .rw[if_pos h1]
  .rw[if_neg h1,if_neg oq]
 .rfl
def Z4h{ws l:List Int}{a b:Int}(h:4096<=a/\a-4096+l.length<=ws.length)(hb:a<=b/\b<a+l.length):loadA (Z0D ws a l).1 b=(l.getD (b-a).toNat 0,0):=by
 unfold Z0D;rw[if_pos h];have hl:(spl ws (a-4096).toNat l).length=ws.length:=Z50 oq;unfold loadA;simp only[hl];rw[if_pos oq];have:=ZaG (ws:=ws) (l:=l) (i:=(a-4096).toNat) (k:=l.length) oq (Ll _) (b-4096).toNat
 rw[Zd2]at this;rw[Lf,Lf,this,if_neg oq,if_pos oq,show(b-4096).toNat-(a-4096).toNat=(b-a).toNat by omega]
def Z53{ws:List Int}{a v:Int}(h:4096<=a/\a<4096+ws.length):(Z1m ws a v).1.length=ws.length:=by
 unfold Z1m Z0D;rw[if_pos qo];exact Z50 qo
def Z3k{ws:List Int}{a b v:Int}(h:4096<=a/\a<4096+ws.length)(hb:b≠a):loadA (Z1m ws a v).1 b=loadA ws b :=
 Z3X qo qo
def ZbX{ws:List Int}{a v:Int}(h:4096<=a/\a<4096+ws.length):loadA (Z1m ws a v).1 a=(v,0):=by
 have:=Z4h (ws:=ws) (l:=[v]) (a:=a) (b:=a) qo qo;rw[Z1m,this];simp
def ZhP{ws:List Int}{a b n:Int}(hn:1<=n)(ha:4096<=a/\a-4096+n<=ws.length)(hb:4096<=b/\b-4096+n<=ws.length) :
  (moveA ws a b n).1.length=ws.length/\loadA (moveA ws a b n).1 a=((loadA ws b).1,0)/\∀ x,x<a\/a+n<=x->loadA (moveA ws a b n).1 x=loadA ws x:=by
 have e1:Z1e ws b n=((ws.drop (b-4096).toNat).take n.toNat,0):=by rw[Z1e,if_neg oq,if_pos hb]
 have e2:moveA ws a b n=Z0D ws a ((ws.drop (b-4096).toNat).take n.toNat):=by rw[moveA,e1];simp
 have hl:((ws.drop (b-4096).toNat).take n.toNat).length=n.toNat:=by simp;omega
 rw[e2];refine⟨?_, ?_, ?_⟩
 .unfold Z0D;rw[if_pos oq];exact Z50 oq
 .rw[Z4h oq oq];congr 1;unfold loadA;rw[if_pos oq];simp only[Lf,Int.sub_self,Int.toNat_zero];rw[List.getElem?_take_of_lt oq,LM];simp
 .intro x hx;exact Z3X oq oq
def ZgS(a:Int):(decodeH (4*a+2)).1.length=0:=by
 unfold decodeH;rw[if_neg]
 .rfl
 .rintro⟨h1,h2⟩;unfold Z0c at h1 h2;split at h2
  .simp only[Z3b]at h2;omega
  .simp only at h2;omega
def occP(p:Page):Int:=if p.K=0 then 0 else p.U
structure CIv (w:Work):Prop where
 L:(w.heap.W.length:Int)=w.heap.C.pw*w.heap.C.pg
 r:∀ a∈w.old++w.Q,4096<=a/\a+hlA w.heap.W a<4096+w.heap.W.length
 s:∀ a∈w.old++w.Q,∀ b∈w.old++w.Q,a<b->a+hlA w.heap.W a<b
 f:∀ i:Nat,i<w.heap.P.length->(w.heap.P.getD i M).K=0\/(i:Int)∈w.T->∀ a∈w.old++w.Q,a+hlA w.heap.W a<4096+i*w.heap.C.pw+occP (w.heap.P.getD i M)\/4096+i*w.heap.C.pw+w.heap.C.pw<=a
 z:∀ x∈w.old,(w.heap.P.getD (ofA w.heap.C x).1.toNat M).K=2\/hlA w.heap.W x+1<=w.heap.C.pw
def CIv.withWords{w:Work}(h:CIv w){l:List Int}(hl:l.length=w.heap.W.length)(hh:∀ a∈w.old++w.Q,hlA l a<=hlA w.heap.W a):CIv ⟨⟨w.heap.C,l,w.heap.P,w.heap.S,w.heap.B⟩,w.old,w.T,w.Q,w.D,w.rep⟩:=by
 refine⟨?_, ?_, ?_, ?_, ?_⟩
 .simp only[hl];exact h.L
 .intro a ha;have h1:=h.r a ha;have h2:=hh a ha;simp only[hl];omega
 .intro a ha b hb hab;have h1:=h.s a ha b hb hab;have h2:=hh a ha;simp only;omega
 .intro i hi hc a ha;have h1:=h.f i hi hc a ha;have h2:=hh a ha;simp only at *;omega
 .intro x hx;have h1:=h.z x hx;have h2:=hh x (Ls _ hx);simp only at *;omega
def CIv.keep{w:Work}(h:CIv w){r:Int}(hr:r∈w.old):CIv (w.keep r):=by
 have hm:∀ a,a∈w.old++(w.Q++[r])->a∈w.old++w.Q:=by
  intro a ha;simp only[Lv,LC]at ha ⊢;rcases ha with ha | ha | rfl
  .exact Li ha
  .exact Lm ha
  .exact Li hr
 exact⟨h.L,λa ha=>h.r a (hm a ha),λa ha b hb=>h.s a (hm a ha) b (hm b hb),λi hi hc a ha=>h.f i hi hc a (hm a ha),h.z⟩
def CIv.flip{w:Work}(h:CIv w)(i:Nat):CIv (w.flip i):=by
 have hk:∀ j,((Z0U w.heap.P i (Z0I w.heap.P i) (1-w.heap.S)).getD j M).K=(w.heap.P.getD j M).K/\((Z0U w.heap.P i (Z0I w.heap.P i) (1-w.heap.S)).getD j M).U=(w.heap.P.getD j M).U:=by
  intro j;by_cases hj:j<w.heap.P.length
  .rw[Z2J hj];split
   .exact⟨rfl,rfl⟩
   .exact⟨rfl,rfl⟩
  .rw[Lf,Lf,Lr (by rw[Z2c];omega),Lr oq];exact⟨rfl,rfl⟩
 refine⟨h.L,h.r,h.s, ?_, ?_⟩
 .intro j hj hc a ha;simp only[Work.flip,Z2c,occP,hk]at hj hc ha ⊢;exact h.f j hj hc a ha
 .intro x hx;simp only[Work.flip,hk];exact h.z x hx
def Zae{w:Work}{n:Int}(hw:WkOk w)(hn:1<=n/\n<=w.heap.C.pw)(h:(w.place n).2.2=Lb) :
  ∃ (i:Nat) (p:Page) (t:List Int),i<w.heap.P.length/\((w.heap.P.getD i M).K=0\/((i:Int)∈w.T/\(w.heap.P.getD i M).K=1))/\p.K=1/\p.U=occP (w.heap.P.getD i M)+n/\occP (w.heap.P.getD i M)+n<=w.heap.C.pw/\0<=occP (w.heap.P.getD i M)/\(∀ x∈t,x∈w.T\/x=(i:Int))/\(w.place n).2.1=4096+i*w.heap.C.pw+occP (w.heap.P.getD i M) /\
  (w.place n).1=⟨⟨w.heap.C,w.heap.W,w.heap.P.set i p,w.heap.S,w.heap.B⟩,w.old,t,w.Q,w.D,w.rep⟩:=by
 have hb:=validB_iff.1 hw.C;have hpl:=hw.pl;by_cases hf:Z75 w n
 .have e:w.place n=(⟨⟨w.heap.C,w.heap.W,Z2W w.heap.P (Z1g w).toNat n,w.heap.S,w.heap.B⟩,w.old,w.T,w.Q,w.D,w.rep⟩,4096+Z1g w*w.heap.C.pw+(w.heap.P.getD (Z1g w).toNat M).U,Lb):=by rw[Work.place,if_pos hf]
  unfold Z75 at hf;have hm:=hw.tk _ (Z2d hf.1);have hu:=hw.us (Z1g w).toNat oq
  have hk:=hm.2.2;have hup:occP (w.heap.P.getD (Z1g w).toNat M)=(w.heap.P.getD (Z1g w).toNat M).U:=by rw[occP,if_neg oq]
  have hc:(((Z1g w).toNat:Nat):Int)=Z1g w:=by omega
  refine⟨(Z1g w).toNat,⟨(w.heap.P.getD (Z1g w).toNat M).K,(w.heap.P.getD (Z1g w).toNat M).S,(w.heap.P.getD (Z1g w).toNat M).U+n,(w.heap.P.getD (Z1g w).toNat M).N⟩,w.T,by omega,Lm ⟨by rw[hc];exact Z2d hf.1,hk⟩,hk,by rw[hup],by rw[hup];omega,by rw[hup];omega,λx hx=>Li hx, ?_, ?_⟩
  .rw[e,hup,hc]
  .rw[e];rfl
 .by_cases hg:0<=Z0W w
  .have e:w.place n=(⟨⟨w.heap.C,w.heap.W,Z2W (Z3j w) (Z0W w).toNat n,w.heap.S,w.heap.B⟩,w.old,w.T++[Z0W w],w.Q,w.D,w.rep⟩,4096+Z0W w*w.heap.C.pw,Lb):=by rw[Work.place,if_neg hf,if_pos hg]
   obtain⟨f1,f2,f3,f4⟩:=Z3y (h:=⟨w.heap.C,w.heap.W,w.heap.P,1-w.heap.S,w.heap.B⟩) (by have:=hw.sp;simp only;omega) hg;obtain⟨g1,g2,g3⟩:=Z21 hg;simp only at f1 f2 f3 f4;have hi:(Z0W w).toNat<w.heap.P.length:=by unfold Z0W;omega
   have hk:(w.heap.P.getD (Z0W w).toNat M).K=0:=by
    have:=freeK_iff.1 g3 0 dd;simpa[Z0W]using this
   have hup:occP (w.heap.P.getD (Z0W w).toNat M)=0:=by rw[occP,if_pos hk]
   have hc:(((Z0W w).toNat:Nat):Int)=Z0W w:=by omega
   have hq:Z2W (Z3j w) (Z0W w).toNat n=w.heap.P.set (Z0W w).toNat ⟨1,1-w.heap.S,n,0⟩:=by
    unfold Z2W;have e4:(Z3j w).getD (Z0W w).toNat M=⟨1,1-w.heap.S,0,0⟩:=f4;rw[e4];have e1:Z3j w=w.heap.P.set (Z0W w).toNat ⟨1,1-w.heap.S,0,0⟩:=by
     have:Z3j w=tookP w.heap.P (Z0W w).toNat 1 ⟨1,1-w.heap.S,0,0⟩ ⟨0,0,0,0⟩:=f1;rw[this,Z9r hi]
    rw[e1,List.set_set];simp
   refine⟨(Z0W w).toNat,⟨1,1-w.heap.S,n,0⟩,w.T++[Z0W w],hi,Li hk,rfl,by rw[hup];simp,by rw[hup];omega,by rw[hup];decide, ?_, ?_, ?_⟩
   .intro x hx;simp only[Lv,LC]at hx;rcases hx with hx | rfl
    .exact Li hx
    .exact Lm hc.symm
   .rw[e,hup,hc];simp
   .rw[e,hq]
  .rw[Work.place,if_neg hf,if_neg hg]at h;simp at h
def Z2f{i j pw:Int}(h:i<j)(hp:0<=pw):i*pw+pw<=j*pw:=by
 have:=LL (show i+1<=j by omega) hp;rw[LI,Int.one_mul]at this;exact this
def CIv.copy{w:Work}(hw:WkOk w)(h:CIv w){r n:Int}(hr:r∈w.old)(hn:n=hlA w.heap.W r+1)(hp:n<=w.heap.C.pw)(hc:(w.place n).2.2=Lb):CIv ((w.place n).1.copy r (w.place n).2.1 n):=by
 have hlr:=Z13 w.heap.W r;obtain⟨i,p,t,h1,h2,h3,h4,h5,h6,h7,h8,e⟩:=Zae hw ⟨by omega,hp⟩ hc;have hb:=validB_iff.1 hw.C;have hpl:=hw.pl;have hL:=h.L;have hio:(i:Int)*w.heap.C.pw+w.heap.C.pw<=w.heap.C.pw*w.heap.C.pg:=by
  have:=Z2f (i:=i) (j:=w.heap.C.pg) (pw:=w.heap.C.pw) oq oq;rw[Lx w.heap.C.pw];exact this
 have hi0:0<=(i:Int)*w.heap.C.pw:=LD oq oq;rw[e,h8];generalize hu:occP (w.heap.P.getD i M)=u at *;generalize ha:4096+(i:Int)*w.heap.C.pw+u=at';have hrr:=h.r r (Ls _ hr);have hf:=h.f i h1 (by rcases h2 with h2 | h2;exact Li h2;exact Lm h2.1);rw[hu]at hf;obtain⟨m1,m2,m3⟩:=ZhP (ws:=w.heap.W) (a:=at') (b:=r) (n:=n) oq oq oq;have hfr:=hf r (Ls _ hr);have hne:r≠at':=by omega
 have hsr:4096<=r/\r<4096+(moveA w.heap.W at' r n).1.length:=by omega
 have k1:∀ a∈w.old++w.Q,hlA (Z1m (moveA w.heap.W at' r n).1 r (4*at'+2)).1 a<=hlA w.heap.W a:=by
  intro a hA;have hfa:=hf a hA;have hla:=Z13 w.heap.W a;by_cases hk:a=r
  .subst hk;have:hlA (Z1m (moveA w.heap.W at' a n).1 a (4*at'+2)).1 a=0:=by
    unfold hlA;rw[ZbX hsr];exact ZgS at'
   omega
  .have:hlA (Z1m (moveA w.heap.W at' r n).1 r (4*at'+2)).1 a=hlA w.heap.W a:=by
    unfold hlA;rw[Z3k hsr hk,m3 a oq]
   omega
 have k2:hlA (Z1m (moveA w.heap.W at' r n).1 r (4*at'+2)).1 at'=n-1:=by
  have:hlA (Z1m (moveA w.heap.W at' r n).1 r (4*at'+2)).1 at'=hlA w.heap.W r:=by
   unfold hlA;rw[Z3k hsr (Ne.symm hne),m2]
  omega
 have hlen:(Z1m (moveA w.heap.W at' r n).1 r (4*at'+2)).1.length=w.heap.W.length:=by rw[Z53 hsr,m1]
 have hmem:∀ a,a∈w.old++(w.Q++[at'])->a∈w.old++w.Q\/a=at':=by
  intro a hA;simp only[Lv,LC]at hA ⊢;rcases hA with hA | hA | hA
  .exact Li (Li hA)
  .exact Li (Lm hA)
  .exact Lm hA
 refine⟨?_, ?_, ?_, ?_, ?_⟩
 .simp only[Work.copy,hlen];exact hL
 .intro a hA;simp only[Work.copy,hlen]at hA ⊢;rcases hmem a hA with hA | rfl
  .have q1:=h.r a hA;have q2:=k1 a hA;omega
  .rw[k2];omega
 .intro a hA b hB hab;simp only[Work.copy]at hA hB ⊢;rcases hmem a hA with hA' | e1<;>rcases hmem b hB with hB' | e2
  .have q1:=h.s a hA' b hB' hab;have q2:=k1 a hA';omega
  .have q1:=hf a hA';have q2:=k1 a hA';omega
  .have q1:=hf b hB';have q2:=Z13 w.heap.W b;rw[e1,k2];omega
  .omega
 .intro j hj hcj a hA;simp only[Work.copy,List.length_set]at hj hcj hA ⊢;by_cases hij:i=j
  .subst hij;rw[Z1C h1,if_pos rfl];have hup:occP p=u+n:=by rw[occP,if_neg oq,h4]
   rw[hup];rcases hmem a hA with hA | rfl
   .have q1:=hf a hA;have q2:=k1 a hA;omega
   .rw[k2];omega
  .rw[Z1C h1,if_neg hij]at hcj ⊢;have hcj':(w.heap.P.getD j M).K=0\/(j:Int)∈w.T:=by
    rcases hcj with hcj | hcj
    .exact Li hcj
    .rcases h7 _ hcj with q | q
     .exact Lm q
     .omega
   rcases hmem a hA with hA | rfl
   .have q1:=h.f j hj hcj' a hA;have q2:=k1 a hA;omega
   .rw[k2];have hus:0<=occP (w.heap.P.getD j M):=by
     have:=hw.us j hj;unfold occP;split<;>omega
    by_cases hlt:i<j
    .have:=Z2f (i:=i) (j:=j) (pw:=w.heap.C.pw) oq oq;omega
    .have:=Z2f (i:=j) (j:=i) (pw:=w.heap.C.pw) oq oq;omega
 .intro x hx;simp only[Work.copy]at hx ⊢;have q1:=h.z x hx;have q2:=k1 x (Ls _ hx);rw[Z1C h1];split
  .rename_i hxi;rw[<- hxi]at q1;rcases h2 with h2 | h2<;>omega
  .omega
structure CEx (w v:Work):Prop where
 c:v.heap.C=w.heap.C
 o:v.old=w.old
 q:∀ x∈w.Q,x∈v.Q
 l:∀ x∈w.Q,hlA v.heap.W x=hlA w.heap.W x
def CEx.rfl'(w:Work):CEx w w:=⟨rfl,rfl,λ_ h=>h,λ_ _=>rfl⟩
def CEx.trans{u v w:Work}(h1:CEx u v)(h2:CEx v w):CEx u w :=
 ⟨h2.c.trans h1.c,h2.o.trans h1.o,λx hx=>h2.q x (h1.q x hx),λx hx=>(h2.l x (h1.q x hx)).trans (h1.l x hx)⟩
def Zb9(w:Work)(r:Int):sizeH (hdW w r)=hlA w.heap.W r+1:=by
 have hv:Z0i (hdW w r)=Lb:=Z2h _;rw[sizeH,if_pos hv];rfl
def Zlr{w:Work}(hw:WkOk w)(h:CIv w){r n:Int}(hr:r∈w.old)(hq:r∉w.Q)(hn:n=hlA w.heap.W r+1)(hp:n<=w.heap.C.pw)(hc:(w.place n).2.2=Lb):CEx w ((w.place n).1.copy r (w.place n).2.1 n):=by
 have hlr:=Z13 w.heap.W r;obtain⟨i,p,t,h1,h2,h3,h4,h5,h6,h7,h8,e⟩:=Zae hw ⟨by omega,hp⟩ hc;have hb:=validB_iff.1 hw.C;have hpl:=hw.pl;have hL:=h.L;have hio:(i:Int)*w.heap.C.pw+w.heap.C.pw<=w.heap.C.pw*w.heap.C.pg:=by
  have:=Z2f (i:=i) (j:=w.heap.C.pg) (pw:=w.heap.C.pw) oq oq;rw[Lx w.heap.C.pw];exact this
 have hi0:0<=(i:Int)*w.heap.C.pw:=LD oq oq;rw[e,h8];generalize hu:occP (w.heap.P.getD i M)=u at *;generalize ha:4096+(i:Int)*w.heap.C.pw+u=at';have hrr:=h.r r (Ls _ hr);have hf:=h.f i h1 (by rcases h2 with h2 | h2;exact Li h2;exact Lm h2.1);rw[hu]at hf;obtain⟨m1,m2,m3⟩:=ZhP (ws:=w.heap.W) (a:=at') (b:=r) (n:=n) oq oq oq;have hsr:4096<=r/\r<4096+(moveA w.heap.W at' r n).1.length:=by omega
 refine⟨rfl,rfl,λx hx=>Ls _ hx, ?_⟩;intro x hx;have hfx:=hf x (LG _ hx);have hlx:=Z13 w.heap.W x;simp only[Work.copy];unfold hlA at *;rw[Z3k hsr (λq=>hq (q▸hx)),m3 x oq]
def Zjb{w:Work}(hw:WkOk w)(h:CIv w)(r:Int)(e:(w.fwd r).2.2=0):CIv (w.fwd r).1/\CEx w (w.fwd r).1:=by
 unfold Work.fwd at e ⊢;split at e
 .rename_i c1;rw[if_pos c1];exact⟨h,CEx.rfl' w⟩
 .rename_i c1;rw[if_neg c1];have c1':r∉w.Q:=λh=>c1 (Lm h);split at e
  .simp at e
  .rename_i c2;rw[if_neg c2];have c2':r∈w.old:=Ly.1 c2;split at e
   .rename_i c3;rw[if_pos c3];exact⟨h,CEx.rfl' w⟩
   .rename_i c3;rw[if_neg c3];split at e
    .simp at e
    .rename_i c4;rw[if_neg c4];split at e
     .rename_i c5;rw[if_pos c5];exact⟨h.keep c2',⟨rfl,rfl,λx hx=>Ls _ hx,λ_ _=>rfl⟩⟩
     .rename_i c5;rw[if_neg c5];split at e
      .rename_i c6;rw[if_pos c6];exact⟨(h.flip _).keep c2',⟨rfl,rfl,λx hx=>Ls _ hx,λ_ _=>rfl⟩⟩
      .rename_i c6;rw[if_neg c6];split at e
       .simp at e
       .rename_i c7;rw[if_neg c7];have c7':(w.place (sizeH (hdW w r))).2.2=Lb:=by simpa using c7
        have hz:=h.z r c2';have hp:sizeH (hdW w r)<=w.heap.C.pw:=by
         rw[Zb9];rcases hz with hz | hz
         .exact absurd hz c6
         .exact hz
        exact⟨h.copy hw c2' (Zb9 w r) hp c7',Zlr hw h c2' c1' (Zb9 w r) hp c7'⟩
def Zor{w:Work}(hw:WkOk w)(h:CIv w){q j:Int}(hq:q∈w.Q)(hj:0<=j/\j<hlA w.heap.W q)(e:(w.fwd (loadA w.heap.W (q+1+j)).1).2.2=0):CIv (w.in1 (q+1+j))/\CEx w (w.in1 (q+1+j)):=by
 obtain⟨i1,x1⟩:=Zjb hw h _ e;have hq1:=x1.q q hq;have hl1:=x1.l q hq;have hr:=i1.r q (LG _ hq1);have hs:=i1.s q (LG _ hq1);have hin:4096<=q+1+j/\q+1+j<4096+(w.fwd (loadA w.heap.W (q+1+j)).1).1.heap.W.length:=by omega
 have hk:∀ a∈(w.fwd (loadA w.heap.W (q+1+j)).1).1.old++(w.fwd (loadA w.heap.W (q+1+j)).1).1.Q,hlA (Z1m (w.fwd (loadA w.heap.W (q+1+j)).1).1.heap.W (q+1+j) (w.fwd (loadA w.heap.W (q+1+j)).1).2.1).1 a=hlA (w.fwd (loadA w.heap.W (q+1+j)).1).1.heap.W a:=by
  intro a ha;unfold hlA;rw[Z3k hin];intro hc;have:=hs a ha oq;omega
 refine⟨i1.withWords (Z53 hin) (λa ha=>Int.le_of_eq (hk a ha)),x1.trans ⟨rfl,rfl,λ_ h=>h,λx hx=>hk x (LG _ hx)⟩⟩
def Z7f(h:Header):∀ x∈Z04 h,0<=x/\x<h.length:=by
 unfold Z04;split
 .intro x hx;have:=Z3d h _ x hx;omega
 .simp
def Zb6{w:Work}(hw:WkOk w)(h:CIv w){q:Int}(hq:q∈w.Q){l:List Int}(hl:∀ x∈l,0<=x/\x<hlA w.heap.W q):∀ k,k<=l.length->(∀ j,j<k->innE w q l j=0)->CIv (innN w q l k)/\CEx w (innN w q l k)
 | 0,_,_=>⟨h,CEx.rfl' w⟩
 | k+1,hk,he=>by
  have ih:=Zb6 hw h hq hl k oq (λj hj=>he j oq);have ok:=(Z5g hw q l k (λj hj=>he j oq)).1;have hx:=hl _ (getD_mem_iff.2 ⟨k,by omega,rfl⟩);have:=Zor ok ih.1 (ih.2.q q hq) (j:=l.getD k M) ⟨hx.1,by rw[ih.2.l q hq];exact hx.2⟩ (he k oq);exact⟨this.1,ih.2.trans this.2⟩
def Zd7{w:Work}(hw:WkOk w)(h:CIv w)(e:(Z0Z w).2.2=0):CIv (Z0Z w).1/\CEx w (Z0Z w).1:=by
 by_cases hs:w.D<w.Q.length
 .have hsc:=hw.sc;have hq:Z3Y w∈w.Q:=getD_mem_iff.2 ⟨w.D.toNat,by omega,rfl⟩;unfold Z0Z at e ⊢;rw[if_pos hs]at e ⊢;cases hb:(Lg (Z2j w).length).find? (λk=>Ld (innE w (Z3Y w) (Z2j w) k≠0))with
  | none =>
   have h0:∀ j,j<(Z2j w).length->innE w (Z3Y w) (Z2j w) j=0:=λj hj=>by
    have:=Lu.1 hb j (Lo.2 hj);simpa using this
   obtain⟨k1,k2⟩:=Zb6 hw h hq (l:=Z2j w) (Z7f (hdW w (Z3Y w))) (Z2j w).length (Ll _) h0;exact⟨⟨k1.L,k1.r,k1.s,k1.f,k1.z⟩,⟨k2.c,k2.o,k2.q,k2.l⟩⟩
  | some k =>
   simp only[hb]at e;have:=(Ln.1 hb).1;simp[e]at this
 .have e:Z0Z w=(w,La,0):=by rw[Z0Z,if_neg hs]
  rw[e];exact⟨h,CEx.rfl' w⟩
def ZbV{w:Work}(hw:WkOk w)(h:CIv w):∀ k,(∀ j,j<k->Z48 w j=La)->CIv (itW w k)/\CEx w (itW w k)
 | 0,_=>⟨h,CEx.rfl' w⟩
 | k+1,hh=>by
  have ih:=ZbV hw h k (λj hj=>hh j oq);have ok:=(Z4Y hw k (λj hj=>hh j oq)).1;have hk:=hh k oq;simp only[Z48,decide_eq_false_iff_not,not_or,Ly]at hk;have:=Zd7 ok ih.1 hk.1;exact⟨this.1,ih.2.trans this.2⟩
def Zma{w:Work}(hw:WkOk w)(h:CIv w)(e:(allF w).2=0):CIv (allF w).1/\CEx w (allF w).1:=by
 obtain⟨k,hb⟩:=Z6B hw;obtain⟨h1,h2,h3⟩:=Ln.1 hb;have h0:∀ j,j<k->Z48 w j=La:=λj hj=>by simpa using h3 j hj
 unfold allF at e ⊢;rw[hb]at e ⊢;simp only at e ⊢;split at e
 .rename_i c;rw[if_pos c];have i1:=ZbV hw h k h0;have i2:=Zd7 (Z4Y hw k h0).1 i1.1 c;exact⟨i2.1,i1.2.trans i2.2⟩
 .rename_i c;exact absurd e c
def Z6N{w:Work}{roots:List Int}(hw:WkOk w)(h:CIv w):∀ k,(∀ j,j<k->Z2O w roots j=0)->CIv (Z1D w roots k).1/\CEx w (Z1D w roots k).1
 | 0,_=>⟨h,CEx.rfl' w⟩
 | k+1,hh=>by
  have ih:=Z6N hw h k (λj hj=>hh j oq);have ok:=(Z3t (roots:=roots) hw k (λj hj=>hh j oq)).1;have:=Zjb ok ih.1 (roots.getD k M) (hh k oq);exact⟨this.1,ih.2.trans this.2⟩
def Z4U{w:Work}{roots:List Int}(hw:WkOk w)(h:CIv w)(e:(rootsF w roots).2.2=0):WkOk (rootsF w roots).1/\CIv (rootsF w roots).1/\CEx w (rootsF w roots).1/\(∀ x∈(rootsF w roots).2.1,0<=x/\x<=4294967296)/\(rootsF w roots).2.1.length=roots.length:=by
 unfold rootsF at e ⊢;cases hb:(Lg roots.length).find? (λk=>Ld (Z2O w roots k≠0))with
 | none =>
  have h0:∀ j,j<roots.length->Z2O w roots j=0:=λj hj=>by
   have:=Lu.1 hb j (Lo.2 hj);simpa using this
  have k1:=Z3t (roots:=roots) hw roots.length h0;have k2:=Z6N (roots:=roots) hw h roots.length h0;exact⟨k1.1,k2.1,k2.2,k1.2.1,Z46 w roots _⟩
 | some k =>
  simp only[hb]at e;have:=(Ln.1 hb).1;simp[e]at this
def Z5M(sp:Int):∀ (l:List Page) (m:Nat),m<Z1a sp l->m<l.length/\(l.getD m M).K=3/\(l.getD m M).S=sp
 | [],m,h=>by simp[Z1a]at h
 | p::l,m,h=>by
  unfold Z1a at h;split at h
  .rename_i hp;cases m with
   | zero=>exact⟨by simp,hp⟩
   | succ m =>
    obtain⟨h1,h2⟩:=Z5M sp l m oq;exact⟨by simp;omega,by simpa using h2⟩
  .omega
def Z9d{c:Conf}{n:Int}(h:1<=need c n):n<=need c n*c.pw:=by
 unfold need at h ⊢;split at h
 .rename_i hc;rw[if_pos hc];have hb:=validB_iff.1 hc.1;split at h
  .omega
  .rename_i hd;rw[if_neg hd];have e:=Int.mul_ediv_add_emod (n+c.pw-1) c.pw;have l:=Int.emod_lt_of_pos (n+c.pw-1) (b:=c.pw) oq;rw[Lx]at e;omega
 .omega
def Z7j{h:Heap}(hp:Z02 h=Lb){j:Nat}(hj:j<h.P.length)(hk:(h.P.getD j M).K=2) :
  1<=need h.C (h.P.getD j M).U/\∀ m:Nat,1<=m->(m:Int)<need h.C (h.P.getD j M).U->j+m<h.P.length/\(h.P.getD (j+m) M).K=3/\(h.P.getD (j+m) M).S=(h.P.getD j M).S:=by
 have hi:=properB_iff.1 hp;obtain⟨d,_,hc⟩:=Zjg oq hi.2.2.2.2.2 oq j oq hj;have ht:=hc.2.2.2.2.2.2.2.2.2.1 hk;refine⟨ht.1, ?_⟩;intro m h1 h2;obtain⟨g1,g2⟩:=Z5M (h.P.getD j M).S (h.P.drop (j+1)) (m-1) oq;have g3:j+m<h.P.length:=by simp at g1;omega
 refine⟨g3, ?_⟩;have:(h.P.drop (j+1)).getD (m-1) M=h.P.getD (j+m) M:=by
  rw[Lf,Lf,LM,show j+1+(m-1)=j+m by omega]
 rw[this]at g2;exact g2
def Zbb{h:Heap}(hp:Z02 h=Lb){j:Nat}(hj:j<h.P.length)(hk:(h.P.getD j M).K=1\/(h.P.getD j M).K=2):(j:Int)*h.C.pw+(h.P.getD j M).U<=h.C.pw*h.C.pg:=by
 have po:=Z0a hp;have pp:=Z0L hp hj;rcases hk with hk | hk
 .have:=Z2f (i:=j) (j:=h.C.pg) (pw:=h.C.pw) oq oq;rw[Lx h.C.pg]at this;omega
 .obtain⟨t1,t2⟩:=Z7j hp hj hk;have nu:=Z9d t1;have hl:(j:Int)+need h.C (h.P.getD j M).U<=h.C.pg:=by
   by_cases h1:need h.C (h.P.getD j M).U=1
   .omega
   .have:=(t2 (need h.C (h.P.getD j M).U-1).toNat oq oq).1;omega
  have:=LL hl (show 0<=h.C.pw by omega);rw[LI,Lx h.C.pg]at this;omega
def ZaL{h:Heap}(hp:Z02 h=Lb){i j:Nat}(hij:i<j)(hj:j<h.P.length)(hk:(h.P.getD i M).K=1\/(h.P.getD i M).K=2)(hk':(h.P.getD j M).K≠3):(i:Int)*h.C.pw+(h.P.getD i M).U<=j*h.C.pw:=by
 have po:=Z0a hp;have pp:=Z0L hp (show i<h.P.length by omega);rcases hk with hk | hk
 .have:=Z2f (i:=i) (j:=j) (pw:=h.C.pw) oq oq;omega
 .obtain⟨t1,t2⟩:=Z7j hp (show i<h.P.length by omega) hk;have nu:=Z9d t1;have hl:(i:Int)+need h.C (h.P.getD i M).U<=j:=by
   by_cases h1:(i:Int)+need h.C (h.P.getD i M).U<=j
   .exact h1
   .have:=(t2 (j-i) oq oq).2;rw[show i+(j-i)=j by omega]at this;exact absurd this.1 hk'
  have:=LL hl (show 0<=h.C.pw by omega);rw[LI]at this;omega
def ZfQ{c:Conf}{i o:Int}(hv:Z06 c=Lb)(h1:0<=i/\i<c.pg)(h2:0<=o/\o<c.pw):ofA c (4096+(i*c.pw+o))=(i,o,0):=by
 have hb:=validB_iff.1 hv;have hs:=Z2f (i:=i) (j:=c.pg) (pw:=c.pw) h1.2 oq;have h0:0<=i*c.pw:=LD h1.1 oq;rw[Lx c.pg]at hs;unfold ofA;rw[if_pos hv,if_pos oq,show 4096+(i*c.pw+o)-4096=o+i*c.pw by omega,Int.add_mul_ediv_right _ _ oq,Int.add_mul_emod_self_right,Int.ediv_eq_zero_of_lt h2.1 h2.2,Int.emod_eq_of_lt h2.1 h2.2];simp
structure OnP (h:Heap) (j:Nat) (a:Int):Prop where
 k:(h.P.getD j M).K=1\/(h.P.getD j M).K=2
 lo:4096+j*h.C.pw<=a
 hi:a<4096+j*h.C.pw+h.C.pw
 of:(ofA h.C a).1=j
 e:a+hlA h.W a<4096+j*h.C.pw+(h.P.getD j M).U
 z:(h.P.getD j M).K=2\/hlA h.W a+1<=h.C.pw
 at':(atH h a).2=0
def Zf4{h:Heap}{j:Nat}(hp:Z02 h=Lb)(hj:j<h.P.length)(hk:(h.P.getD j M).K=1\/(h.P.getD j M).K=2):∀ (f:Nat) (o:Int) (l:List Int),0<=o->((h.P.getD j M).K=2->o=0)->Z2s h j f o=Lc l ->
  (∀ a∈l,OnP h j a/\4096+j*h.C.pw+o<=a)/\l.Pairwise (λa b=>a+hlA h.W a<b)
 | 0,o,l,_,_,e=>by simp[Z2s]at e;subst e;simp
 | f+1,o,l,h0,h2,e=>by
  have po:=Z0a hp;have pp:=Z0L hp hj;unfold Z2s at e;have hpg:pg h (j:Int)=h.P.getD j M:=by simp[pg]
  rw[hpg]at e;split at e
  .rename_i ho;have hop:o<h.C.pw:=by
    rcases hk with hk | hk
    .omega
    .have:=h2 hk;omega
   have ea:adr h j o=4096+(j*h.C.pw+o):=by
    unfold adr address;rw[if_pos po.1,if_pos (inB_iff.2 ⟨by omega,by omega,h0,hop⟩)]
   have eo:=ZfQ (c:=h.C) (i:=j) (o:=o) po.1 oq ⟨h0,hop⟩;split at e
   .rename_i hat
    have hat':=hat
    rw[ea]at hat';have hsz:sizeH (decodeH (loadA h.W (4096+(j*h.C.pw+o))).1).1=hlA h.W (4096+(j*h.C.pw+o))+1:=by
     rw[sizeH,if_pos (Z2h _)];rfl
    have hle:=Z13 h.W (4096+(j*h.C.pw+o));have key:((h.P.getD j M).K=1->o+(hlA h.W (4096+(j*h.C.pw+o))+1)<=(h.P.getD j M).U)/\((h.P.getD j M).K=2->hlA h.W (4096+(j*h.C.pw+o))+1=(h.P.getD j M).U)/\sizeH (atH h (4096+(j*h.C.pw+o))).1=hlA h.W (4096+(j*h.C.pw+o))+1:=by
     unfold atH at hat' ⊢;rw[if_pos hp]at hat' ⊢;simp only[eo,hsz,if_true,Lz]at hat' ⊢;split at hat'
     .rename_i g1;split at hat'
      .simp at hat'
      .rename_i g2;rw[if_pos g1,if_neg g2];refine⟨λhk1=>?_,λhk2=>?_,hsz⟩
       .omega
       .omega
     .simp at hat'
    have hon:OnP h j (adr h j o):=by
     refine⟨hk, ?_, ?_, ?_, ?_, ?_,hat⟩
     .rw[ea];omega
     .rw[ea];omega
     .rw[ea,eo]
     .rw[ea];rcases hk with hk | hk
      .have:=key.1 hk;omega
      .have:=key.2.1 hk;have:=h2 hk;omega
     .rw[ea];rcases hk with hk | hk
      .have:=key.1 hk;omega
      .exact Li hk
    split at e
    .cases e;simp only[LC,L9,LW,List.Pairwise.nil];refine⟨?_,by simp⟩;rintro a rfl;exact⟨hon,by rw[ea];omega⟩
    .rename_i hk2;rw[Option.map_eq_some_iff]at e;obtain⟨m,hm,rfl⟩:=e;rw[ea,key.2.2]at hm;obtain⟨i1,i2⟩:=Zf4 hp hj hk f _ m oq (λq=>absurd q hk2) hm;constructor
     .intro a ha;rcases LU.1 ha with rfl | ha
      .exact⟨hon,by rw[ea];omega⟩
      .have:=i1 a ha;exact⟨this.1,by omega⟩
     .rw[L9];refine⟨λb hb=>?_,i2⟩;have:=(i1 b hb).2;rw[ea];omega
   .cases e
  .cases e;simp
def Zaz{h:Heap}(hp:Z02 h=Lb):∀ (f i:Nat),i+f=h.P.length->(Z0E h f i).1.Pairwise (λa b=>a+hlA h.W a<b)/\∀ a∈(Z0E h f i).1,∃ j,i<=j/\j<h.P.length/\OnP h j a
 | 0,i,_=>by simp[Z0E]
 | f+1,i,hf=>by
  have ih:=Zaz hp f (i+1) oq;have hpg:(Z07 h i).1.Pairwise (λa b=>a+hlA h.W a<b)/\∀ a∈(Z07 h i).1,OnP h i a:=by
   unfold Z07;rw[if_pos hp,if_pos oq];have hg:pg h (i:Int)=h.P.getD i M:=by simp[pg]
   rw[hg];split
   .simp
   .rename_i hk;cases hw:Z2s h i 256 0 with
    | none=>simp
    | some l =>
     have pp:=Z0L hp (show i<h.P.length by omega);obtain⟨w1,w2⟩:=Zf4 hp (show i<h.P.length by omega) oq 256 0 l oq (λ_=>rfl) hw;exact⟨w2,λa ha=>(w1 a ha).1⟩
  unfold Z0E;split
  .split
   .simp only;constructor
    .rw[List.pairwise_append];refine⟨hpg.1,ih.1,λa ha b hb=>?_⟩;have o1:=hpg.2 a ha;obtain⟨j,j1,j2,o2⟩:=ih.2 b hb;have:=ZaL hp (show i<j by omega) j2 o1.k (by have:=o2.k;omega);have:=o1.e;have:=o2.lo;omega
    .intro a ha;rcases Lv.1 ha with ha | ha
     .exact⟨i,by omega,by omega,hpg.2 a ha⟩
     .obtain⟨j,j1,j2,o2⟩:=ih.2 a ha;exact⟨j,by omega,j2,o2⟩
   .simp
  .simp
def Ze4{h:Heap}(hp:Z02 h=Lb):(∀ a∈(Z03 h).1,∃ j,j<h.P.length/\OnP h j a)/\∀ a∈(Z03 h).1,∀ b∈(Z03 h).1,a<b->a+hlA h.W a<b:=by
 have hs:=Zaz hp h.P.length 0 oq;have e:Z0R h=Z0E h h.P.length 0:=by rw[Z0R,if_pos hp]
 rw[<- e]at hs;have h1:∀ a∈(Z03 h).1,∃ j,j<h.P.length/\OnP h j a:=by
  intro a ha;obtain⟨j,_,j2,o⟩:=hs.2 a (List.mem_filter.1 ha).1;exact⟨j,j2,o⟩
 refine⟨h1, ?_⟩;have hpw:(Z03 h).1.Pairwise (λa b=>a+hlA h.W a<b):=List.Pairwise.filter _ hs.1;intro a ha b hb hab;obtain⟨i,hi,ei⟩:=LV.1 ha;obtain⟨k,hk,ek⟩:=LV.1 hb;have hlb:=Z13 h.W b;rcases Nat.lt_trichotomy i k with q | q | q
 .have:=Xa.1 hpw i k hi hk q;rw[ei,ek]at this;exact this
 .subst q;omega
 .have:=Xa.1 hpw k i hk hi q;rw[ei,ek]at this;omega
def Z4M{h:Heap}(hp:Z02 h=Lb):CIv (beginW h):=by
 have po:=Z0a hp;have hs:=Ze4 hp;have hq:∀ j,((h.P.map (begQ (1-h.S))).getD j M).K=(h.P.getD j M).K/\((h.P.map (begQ (1-h.S))).getD j M).U=(h.P.getD j M).U:=by
  intro j;by_cases hj:j<h.P.length
  .have:(h.P.map (begQ (1-h.S))).getD j M=begQ (1-h.S) (h.P.getD j M):=by simp[Lf,hj]
   rw[this,begQ];split
   .exact⟨rfl,rfl⟩
   .exact⟨rfl,rfl⟩
  .rw[Lf,Lf,Lr qo,Lr oq];exact⟨rfl,rfl⟩
 refine⟨po.2.2.2.2.2.1, ?_, ?_, ?_, ?_⟩
 .intro a ha;simp only[beginW,LA]at ha ⊢;obtain⟨j,j1,o⟩:=hs.1 a ha;have h1:=o.lo;have h2:=o.e;have h3:=Zbb hp j1 o.k;have h4:0<=(j:Int)*h.C.pw:=LD oq oq;have h5:=po.2.2.2.2.2.1;omega
 .intro a ha b hb hab;simp only[beginW,LA]at ha hb ⊢;exact hs.2 a ha b hb hab
 .intro i hi hc a ha;simp only[beginW,LA,Lk,LW,or_false]at hi hc ha ⊢;rw[(hq i).1]at hc;have hoc:occP ((h.P.map (begQ (1-h.S))).getD i M)=0:=by rw[occP,(hq i).1,if_pos hc]
  rw[hoc];obtain⟨j,j1,o⟩:=hs.1 a ha;have hk:=o.k;have hne:i≠j:=by rintro rfl;omega
  by_cases hlt:i<j
  .have:=Z2f (i:=i) (j:=j) (pw:=h.C.pw) oq oq;have:=o.lo;omega
  .have:=ZaL hp (show j<i by omega) hi hk oq;have:=o.e;omega
 .intro x hx;simp only[beginW]at hx ⊢;obtain⟨j,j1,o⟩:=hs.1 x hx;rw[o.of,Lz,(hq j).1];exact o.z
def Z5t{h:Heap}(hw:WOk h.W)(hp:Z02 h=Lb):WkOk (beginW h):=by
 have po:=Z0a hp;have ho:=Z0F h;have hr:=Z18 h;have hus:∀ j,j<h.P.length->0<=((h.P.map (begQ (1-h.S))).getD j M).U/\((h.P.map (begQ (1-h.S))).getD j M).U<=1024:=by
  intro j hj;have pp:=Z0L hp hj;have:(h.P.map (begQ (1-h.S))).getD j M=begQ (1-h.S) (h.P.getD j M):=by simp[Lf,hj]
  rw[this,begQ];split
  .simp only;omega
  .omega
 refine⟨hw,po.2.2.2.2.2.2.1,po.1,by simp only[beginW,Lk];exact po.2.2.2.2.2.2.2.1,po.2.2.2.2.2.2.2.2,by simp only[beginW];omega,hr,by simp[beginW],by simp[beginW],by simp[beginW],by simpa only[beginW,Lk]using hus, ?_,by simp[beginW],by simp[beginW],by simp[beginW],by simp[beginW]⟩;simp only[beginW,muW,List.length_nil];have h1:Zdx (Z03 h).1 []<=(Z03 h).1.length:=List.length_filter_le _ _;have h2:∀ l:List Page,(∀ p∈l,Zbe h.C.pw p<=64)->Z8I h.C.pw l<=64*l.length:=by
  intro l;induction l with
  | nil=>intro _;simp[Z8I]
  | cons p l ih =>
   intro hl;have:=ih λq hq=>hl q (List.mem_cons_of_mem _ hq);have:=hl p (List.mem_cons_self);simp only[Z8I,List.map_cons,List.sum_cons,LO]at *;omega
 have h3:=h2 (h.P.map (begQ (1-h.S))) (by
  intro p hp';obtain⟨j,hj,e⟩:=LV.1 hp';have:=hus j (by simpa using hj);rw[show(h.P.map (begQ (1-h.S))).getD j M=p by simp only[Lf,LN hj,e];rfl]at this;unfold Zbe;split<;>omega)
 simp only[Lk]at h3;omega
def ZbI(h:Heap):¬ (atH h 0).2=0:=by
 unfold atH;split
 .have:¬ (ofA h.C 0).2.2=0:=by
   unfold ofA;split
   .rw[if_neg oq];simp
   .simp
  rw[if_neg this];simp
 .simp
def Zpt{h:Heap}(hp:Z02 h=Lb){i o:Int}(hi:0<=i/\i<h.P.length)(ho:0<=o/\o<h.C.pw)(e:(atH h (adr h i o)).2=0):(pg h i).K=2->o=0/\sizeH (atH h (adr h i o)).1=(pg h i).U:=by
 have hv:=Z0a hp;have hq:=properB_iff.1 hp;have ea:adr h i o=4096+(i*h.C.pw+o):=by
  unfold adr address;rw[if_pos hv.1,if_pos (by unfold inB;simp;omega)]
 have eo:=ZfQ (c:=h.C) (i:=i) (o:=o) hv.1 oq ho;rw[<- ea]at eo;unfold atH at e ⊢;rw[if_pos hp,eo]at e ⊢;simp only[if_true]at e ⊢;intro hk;have hk':(h.P.getD i.toNat M).K=2:=hk;split at e
 .rename_i h1;rw[if_pos h1];split at e
  .simp at e
  .rename_i h2;rw[if_neg h2];simp only[hk',not_or,not_and]at h2;have:=h2.2;simp only[true_and,not_or,Classical.not_not,forall_const]at this;exact⟨this.1,this.2⟩
 .simp at e
def Zay{h:Heap}(hp:Z02 h=Lb){i:Int}(hi:0<=i/\i<h.P.length):∀ (f:Nat) (o:Int),0<=o->((pg h i).K=2->o=0) ->
  ((Z1G h i f o).2=Lb->Z2s h i f o=Lc ((Z1G h i f o).1.map (·.addr)))/\((Z1G h i f o).2=La->Z2s h i f o=Le)
 | 0,o,_,_=>⟨λ_=>rfl,λh=>by cases h⟩
 | f+1,o,h0,hk=>by
  unfold Z1G Z2s;by_cases ho:o<(pg h i).U
  .rw[if_pos ho,if_pos ho];by_cases ha:(address h.C i o).2=0
   .by_cases hh:(atH h (adr h i o)).2=0
    .rw[if_pos ⟨ha,hh⟩,if_pos hh];have hpw:o<h.C.pw:=by
      unfold address at ha;split at ha
      .split at ha
       .rename_i hb;unfold inB at hb;simp at hb;omega
       .simp at ha
      .simp at ha
     have h2:=Zpt hp hi ⟨h0,hpw⟩ hh;by_cases hk2:(pg h i).K=2
     .rw[if_pos hk2];have e:Z1G h i f (o+sizeH (atH h (adr h i o)).1)=([],Lb):=by
       have:=h2 hk2;cases f with
       | zero=>rfl
       | succ f=>unfold Z1G;rw[if_neg oq]
      rw[e];exact⟨λ_=>rfl,λh=>by cases h⟩
     .rw[if_neg hk2];have sz:=Z0T (atH h (adr h i o)).1;obtain⟨i1,i2⟩:=Zay hp hi f (o+sizeH (atH h (adr h i o)).1) oq (λh=>absurd h hk2);exact⟨λh=>by rw[i1 h];rfl,λh=>by rw[i2 h];rfl⟩
    .rw[if_neg (λq=>hh q.2),if_neg hh];exact⟨λh=>(by cases h),λ_=>rfl⟩
   .have e:adr h i o=0:=by
     unfold adr address at *;split at ha
     .rename_i hv;split at ha
      .simp at ha
      .rename_i hb;rw[if_pos hv,if_neg hb]
     .rename_i hv;rw[if_neg hv]
    rw[if_neg (λq=>ha q.1),if_neg (by rw[e];exact ZbI h)];exact⟨λh=>(by cases h),λ_=>rfl⟩
  .rw[if_neg ho,if_neg ho];exact⟨λ_=>rfl,λh=>(by cases h)⟩
def Zfc{h:Heap}{i:Int}:∀ {f:Nat} {o:Int},∀ x∈(Z1G h i f o).1,x.hd=(atH h x.addr).1/\(atH h x.addr).2=0/\∃ o,x.addr=adr h i o
 | 0,o,x,hx=>by simp[Z1G]at hx
 | f+1,o,x,hx=>by
  unfold Z1G at hx;split at hx
  .split at hx
   .rename_i h1;rcases LU.1 hx with rfl | hx
    .exact⟨rfl,h1.2,o,rfl⟩
    .exact Zfc x hx
   .simp at hx
  .simp at hx
def ZcN{h:Heap}{i:Int}:∀ {f:Nat} {o:Int},(Z1G h i f o).1.length<=f
 | 0,o=>by simp[Z1G]
 | f+1,o=>by
  unfold Z1G;split
  .split
   .have:=ZcN (h:=h) (i:=i) (f:=f) (o:=o+sizeH (atH h (adr h i o)).1);simp only[LO];omega
   .simp
  .simp
def Z6V{h:Heap}(hp:Z02 h=Lb){i:Int}(hi:0<=i/\i<h.P.length):Z07 h i=((Z0p h i).1.map (·.addr),(Z0p h i).2):=by
 have hk:=(Z0L hp (j:=i.toNat) oq)
 unfold Z07 Z0p Z1S;rw[if_pos hp,if_pos hi];by_cases h1:(pg h i).K=0\/(pg h i).K=3
 .have e:(if(pg h i).K=1\/(pg h i).K=2 then Z1G h i 256 0 else([],Lb))=([],Lb):=if_neg oq;rw[if_pos h1,e];rfl
 .have h2:(pg h i).K=1\/(pg h i).K=2:=by
   have:0<=(pg h i).K/\(pg h i).K<=3:=⟨hk.2.2.2.2.1,hk.2.2.2.2.2.1⟩
   omega
  rw[if_neg h1,if_pos h2];obtain⟨i1,i2⟩:=Zay hp hi 256 0 oq (λ_=>rfl);cases e:(Z1G h i 256 0).2 with
  | true=>rw[i1 e];rfl
  | false=>rw[i2 e];rfl
def Z4g(h:Heap)(i:Int):(Z0p h i).1.length<=256:=by
 unfold Z0p Z1S;split
 .split
  .exact ZcN
  .simp
 .simp
def Zan{h:Heap}{i:Int}:∀ x∈(Z0p h i).1,x.hd=(atH h x.addr).1/\(atH h x.addr).2=0/\∃ o,x.addr=adr h i o:=by
 intro x hx;unfold Z0p Z1S at hx;split at hx
 .split at hx
  .exact Zfc x hx
  .simp at hx
 .simp at hx
def allR(h:Heap):Nat->Nat->List Found×Int
 | 0,_=>([],0)
 | f+1,i=>if(Z0p h i).2=0 then(if(allR h f (i+1)).2=0 then((Z0p h i).1++(allR h f (i+1)).1,0)else([],(allR h f (i+1)).2))else([],(Z0p h i).2)
def allW(h:Heap):List Found×Int:=if Z02 h=Lb then allR h h.P.length 0 else([],1)
def Zis{h:Heap}(hp:Z02 h=Lb):∀ (f i:Nat),i+f<=h.P.length->Z0E h f i=((allR h f i).1.map (·.addr),(allR h f i).2)
 | 0,i,_=>rfl
 | f+1,i,hi=>by
  unfold Z0E allR;rw[Z6V hp (i:=i) oq,Zis hp f (i+1) oq];simp only;split
  .split
   .simp
   .rfl
  .rfl
def ZaO(h:Heap):Z0R h=((allW h).1.map (·.addr),(allW h).2):=by
 unfold Z0R allW;split
 .rename_i hp;exact Zis hp _ _ oq
 .rfl
def Zlw(h:Heap):∀ (f i:Nat),¬ (allR h f i).2=0->(allR h f i).1=[]
 | 0,i,e=>absurd rfl e
 | f+1,i,e=>by
  unfold allR at e ⊢;split at e
  .rename_i h1;rw[if_pos h1];split at e
   .exact absurd rfl e
   .rename_i h2;rw[if_neg h2]
  .rename_i h1;rw[if_neg h1]
def Zir{h:Heap}:∀ (f i:Nat),∀ x∈(allR h f i).1,x.hd=(atH h x.addr).1/\(atH h x.addr).2=0
 | 0,i,x,hx=>by simp[allR]at hx
 | f+1,i,x,hx=>by
  unfold allR at hx;split at hx
  .split at hx
   .rcases Lv.1 hx with hx | hx
    .exact⟨(Zan x hx).1,(Zan x hx).2.1⟩
    .exact Zir f (i+1) x hx
   .simp at hx
  .simp at hx
def ZeO{h:Heap}:∀ x∈(allW h).1,x.hd=(atH h x.addr).1/\(atH h x.addr).2=0:=by
 intro x hx;unfold allW at hx;split at hx
 .exact Zir _ _ x hx
 .simp at hx
def ZfY(h:Heap):∀ (f i:Nat),(allR h f i).1.length<=256*f
 | 0,i=>by simp[allR]
 | f+1,i=>by
  have:=Z4g h i;have:=ZfY h f (i+1);unfold allR;split
  .split
   .simp;omega
   .simp
  .simp
def Zkh(h:Heap):(allW h).1.length<=16384:=by
 unfold allW;split
 .rename_i hp;have:=ZfY h h.P.length 0;have:=Z0a hp;omega
 .simp
end Go.Proofs.YtgedmeaemofdkaaGreat
namespace Go.Proofs.YtgedmeaemofdkaaGreat
open Go.Sx Go.RowKit
def Zil{h:Heap}{i:Int}(e:(Z1S h i).2=Lb):Z0p h i=((Z1S h i).1,0):=if_pos e
def Zh6{h:Heap}{i:Int}(e:(Z1S h i).2=La):Z0p h i=([],19):=if_neg (by rw[e];simp)
def Z7H{w00 X:World}(K:Kept (λ_=>False) w00 X){g:Nat}{o:Obj}(hg:w00.heap.size<=g):Kept (λ_=>False) w00 (X.putObj g o):=by
 refine⟨K.os,K.tape,K.output,by rw[LH];exact K.size,λk hk _=>by rw[Lp oq];exact K.block k hk id,λk hk=>?_⟩;have:=K.rows k hk;unfold rows at this ⊢;rw[Lp oq];exact this
def Zgc{w00 X:World}(K:Kept (λ_=>False) w00 X){g:Nat}{cs:Array Value}(hg:w00.heap.size<=g):Kept (λ_=>False) w00 (X.setRow g cs):=by
 refine⟨K.os,K.tape,K.output,by have:=K.size;simp[Xf];omega,λk hk _=>by rw[setRow_other X g k _ oq];exact K.block k hk id,λk hk=>?_⟩;have:=K.rows k hk;unfold rows at this ⊢;rw[setRow_other X g k _ oq];exact this
def kept_alloc{w00 X:World}(K:Kept (λ_=>False) w00 X)(o:Obj):Kept (λ_=>False) w00 (X.alloc o):=by
 have hs:=K.size;refine⟨K.os,K.tape,K.output,by simp;omega,λk hk _=>by rw[Lt _ _ _ oq];exact K.block k hk id,λk hk=>?_⟩;have:=K.rows k hk;unfold rows at this ⊢;rw[Lt _ _ _ oq];exact this
def ZiF{X:World}{l g:Nat}{x y:Option (List Deferred)}(h:X.heap[l]? = Lc (.deferred x)):rows (X.putObj l (.deferred y)) g=rows X g:=by
 by_cases hg:g=l
 .subst hg;simp[rows,h,Xe (Lw.1 h).1]
 .simp only[rows,Lp hg]
def ZjS{X:World}{l g:Nat}{x y:Loop}(h:X.heap[l]? = Lc (.loop x)):rows (X.putObj l (.loop y)) g=rows X g:=by
 by_cases hg:g=l
 .subst hg;simp[rows,h,Xe (Lw.1 h).1]
 .simp only[rows,Lp hg]
def Z5R{a:Act}{k:Nat}{v:Value}(h:a.tmps[k]? = Lc v):a.eval (.tmp k)=v:=by
 show a.tmps.getD k undef=v;simp[Array.getD_eq_getD_getElem?,h]
def Z7l{a:Act}{k d:Nat}{u v:Value}(h:a.tmps[k]? = Lc v)(hk:d≠k):(a.put (Lc d) u).tmps[k]? = Lc v:=by
 show(a.tmps.setIfInBounds d u)[k]? = Lc v;rw[Array.getElem?_setIfInBounds_ne hk];exact h
def Z5I{a:Act}{d:Nat}{u:Value}(h:d<a.tmps.size):(a.put (Lc d) u).tmps[d]? = Lc u:=by
 show(a.tmps.setIfInBounds d u)[d]? = Lc u;rw[Array.getElem?_setIfInBounds_self_of_lt h]
def Zme{W:World}{g6:Nat}(c6:W.heap[g6]? = Lc (.cells #[.slice Le 0 0] 206 (0,0)))(prot:List (Nat×Obj))(hp:∀ p∈prot,W.heap[p.1]? = Lc p.2/\p.1≠g6):LJ g6 prot (λg=>g=g6) [] W:=by
 have l6:g6<W.heap.size:=(Lw.1 c6).1;let ρ:Rho:=λb=>if b=6 then Lc ⟨Lc g6,1,1⟩else if b=8020 then Lc ⟨Le,4,0⟩else Le
 have hρ:∀ b β,ρ b=Lc β->(b=6/\β=⟨Lc g6,1,1⟩)\/(b=8020/\β=⟨Le,4,0⟩):=by
  intro b β h;simp only[ρ]at h;split at h
  .cases h;exact .inl ⟨aa,rfl⟩
  .split at h
   .cases h;exact .inr ⟨aa,rfl⟩
   .cases h
 have hA:∀ g,g=g6↔∃ b β,ρ b=Lc β/\β.g=Lc g:=by
  intro g;constructor
  .rintro rfl;exact⟨6,_,rfl,rfl⟩
  .rintro⟨b,β,h,h'⟩;rcases hρ b β h with⟨_,rfl⟩ | ⟨_,rfl⟩
   .cases h';rfl
   .cases h'
 have hg:∀ b β g,ρ b=Lc β->β.g=Lc g->b=6/\g=g6:=by
  intro b β g h h';rcases hρ b β h with⟨rfl,rfl⟩ | ⟨_,rfl⟩
  .cases h';exact⟨rfl,rfl⟩
  .cases h'
 refine⟨ρ,hA,⟨Kept.refl _ _,λb b' β β' g _ _ q1 q2 q3 q4=>by rw[(hg _ _ _ q1 q3).1,(hg _ _ _ q2 q4).1],λ_ _ _ _ _ _ h=>h,λb β g q1 q2=>by rw[(hg _ _ _ q1 q2).2];exact l6,λb β g q1 q2=>.inr ⟨b,β,q1,q2⟩,λ_ h=>h.elim,λ_ h=>h.elim,λb B q=>?_,λb hb _=>?_,⟨by decide,λ_ _ _ h=>h⟩⟩,⟨1,1,rfl⟩,λb β h=>?_,λb β g q1 q2=>?_,λp hpp=>hp p hpp⟩
 .simp only[lstH,List.map_nil,hOf]at q;split at q
  .rename_i hb;cases q;subst hb;exact⟨_,rfl,rfl,rfl,by simp[big],by simp,.inl ⟨rfl,rfl⟩⟩
  .split at q
   .rename_i hb;cases q;subst hb;refine⟨_,rfl,rfl,rfl,g6,_,rfl,c6,rfl,λi v h=>?_,λo a v ha hv=>?_⟩
    .rcases i with _ | i<;>simp at h;subst h;rfl
    .rcases o with _ | o<;>simp at ha hv;subst ha;subst hv;exact .ow (β:=⟨Le,4,0⟩) rfl (Ll _) (by simp[big]) (.inl rfl)
   .cases q
 .simp only[ρ];rw[if_neg oq,if_neg oq]
 .rcases hρ b β h with⟨rfl,_⟩ | ⟨rfl,_⟩<;>simp
 .obtain⟨rfl,rfl⟩:=hg _ _ _ q1 q2;rcases hρ _ _ q1 with⟨_,rfl⟩ | ⟨h,_⟩
  .simp[rows,c6]
  .omega
def ZjK{w00 W:World}{Im Im':Nat->Prop}{v4 v5:Value}{l:List Found}{e:Int}(K:Kept (λ_=>False) w00 W)(h1:∀ g,Im' g->w00.heap.size<=g/\g<W.heap.size)(h4:RelD W Im' (.sl 4 (l.map Found.dv)) v4)(h5:v5 = .int .i64 e) :
  Zeh w00 Im Lb (.tu [Z15 l,int e]) [] (.tuple #[v4,v5]) W:=by
 subst h5;refine⟨K,λ_=>Le,Im',λg hg=>.inr (h1 g hg).1,λg hg=>(h1 g hg).2,λ_ _ _ h=>(by cases h),λ_ _ _ _ _ h=>(by cases h),λ_ _ h=>(by cases h),λk B h=>(by simp at h),.tu _ _ rfl λi a v ha hv=>?_⟩;rcases i with _ | _ | i<;>simp at ha hv
 .subst ha;subst hv;exact .d h4
 .subst ha;subst hv;exact .d (.sc _ rfl)
def ZlE{h:Heap}{i:Int}(hw:WOk h.W)(hp:Z02 h=Lb)(hi:0<=i/\i<h.P.length){w00 w4:World}{Im Im4:Nat->Prop}{a4:Act}{g4 g5 g6:Nat}{u4 u5 p1 p2:Value}
  (K:Kept (λ_=>False) w00 w4) (ha:a4.tmps.size=22) (t4:a4.tmps[4]? = Lc (.pointer (Lc ⟨g4,0,Le⟩))) (t5:a4.tmps[5]? = Lc (.pointer (Lc ⟨g5,0,Le⟩))) (t6:a4.tmps[6]? = Lc (.pointer (Lc ⟨g6,0,Le⟩)))
  (t11:a4.tmps[11]? = Lc (.func (.func 234) #[] #[p1,p2])) (hd:a4.defers=[]) (l4:w00.heap.size<=g4) (l5:w00.heap.size<=g5) (n45:g4≠g5) (n46:g4≠g6) (n56:g5≠g6) (l6:w00.heap.size<=g6)
  (c4:w4.heap[g4]? = Lc (.cells #[u4] 206 (0,0))) (c5:w4.heap[g5]? = Lc (.cells #[u5] 32 (0,0))) (c6:w4.heap[g6]? = Lc (.cells #[.slice Le 0 0] 206 (0,0)))
  (hIm:∀ g,Im4 g->g<w4.heap.size/\g≠g6) (r1:Rel (λ_=>Le) w4 Im4 (.rp h.dvs 0) p1) (r2:Rel (λ_=>Le) w4 Im4 (.rp [dint i] 0) p2) {Q:Exit->Act->World->Prop}
  (hQ:bodyPostM Lq 10 prog f183 (λe w'=>∃ v,e=Ending.returned v/\Zeh w00 Im Lb (AV.tu [Z15 (Z0p h i).1,int (Z0p h i).2]) [] v w')=Q) :
  (blkF f183 0).wpIn Lq 10 prog (Exit.then ((Code.seq (.region 8 (rgO f183 8) La) .ret).wpIn Lq 10 prog Q) Q) a4 w4:=by
 have hs4:=K.size;rw[show blkF f183 0 = .block 0 (.rangeFunc (.tmp 11) #[12,13] (asgF f183 0) (bodF f183 0))from by kernel_rfl];refine wpIn_block (wpIn_rangeFunc ?_);intro fn hfn;have q4:g4<w4.heap.size:=(Lw.1 c4).1;have q5:g5<w4.heap.size:=(Lw.1 c5).1;have q6:g6<w4.heap.size:=(Lw.1 c6).1;obtain⟨D,hD⟩:∃ D,w4.heap.size=D:=⟨_,rfl⟩
 obtain⟨W1,hW1⟩:∃ W1,(w4.alloc (.deferred (Lc []))).alloc (recV f183 fn a4.tmps D .ready Le)=W1:=⟨_,rfl⟩
 have old:∀ {g:Nat},g<D->W1.heap[g]? = w4.heap[g]? := λ{g} hg=>by
  rw[<- hW1,Lt _ _ _ qo,Lt _ _ _ oq]
 have atD:W1.heap[D]? = Lc (.deferred (Lc [])):=by
  rw[<- hW1,Lt _ _ _ qo,<- hD];exact LZ _ _
 have atL:W1.heap[D+1]? = Lc (recV f183 fn a4.tmps D .ready Le):=by
  have:=LZ (w4.alloc (.deferred (Lc []))) (recV f183 fn a4.tmps D .ready Le);rw[World.size_alloc,hD]at this;rw[<- hW1];exact this
 have z1:W1.heap.size=D+2:=by rw[<- hW1];simp;omega
 have K1:Kept (λ_=>False) w00 W1:=by rw[<- hW1];exact kept_alloc (kept_alloc K _) _
 have E1:Sx.Ext Im4 w4 W1:=⟨by omega,λg hg=>old (by have:=(hIm g hg).1;omega),λg hg=>by unfold rows;rw[old oq]⟩
 have J0:LK w00 g6 [(D+1,recV f183 fn a4.tmps D .ready Le),(D,.deferred (Lc [])),(g4,.cells #[u4] 206 (0,0)),(g5,.cells #[u5] 32 (0,0))] (λg=>g=g6) [] W1:=by
  refine⟨Zme (by rw[old oq];exact c6) _ λp hpp=>?_,K1,λg hg=>by omega⟩;simp only[LU,LW,or_false]at hpp;rcases hpp with rfl | rfl | rfl | rfl
  .exact⟨atL,by show D+1≠g6;omega⟩
  .exact⟨atD,by show D≠g6;omega⟩
  .exact⟨by rw[old (by show g4<D;omega)];exact c4,n46⟩
  .exact⟨by rw[old (by show g5<D;omega)];exact c5,n56⟩
 have RR:=Zo2 (w00:=w00) (fn:=fn) (a0:=a4.tmps) (D:=D) (l:=D+1) (n:=8) (g4:=g4) (g5:=g5) (g6:=g6) (u4:=u4) (u5:=u5) ha t4 t5 t6 n45 l4 l5 oq;have v11:=Z5R t11;refine⟨D+1,[{ target:=.collected D,args := #[] }],W1,{ target:=.fn (.func 234) #[p1,p2],args := #[Z23 (D+1)] },W1,234,#[Z23 (D+1)] ++ #[p1,p2],W1, ?_, ?_,λ_ _=>trivial, ?_,λ_=>by decide, ?_⟩
 .rw[<- hW1,<- hD];exact run_enterLoop_outer _ _ _ _ _
 .simp[resolve,t11,Deferred.ofValue,rangeCall,Z23,go_sem]
 .have:=Z1O (P:=prog) (f:=234) kr (#[Z23 (D+1)] ++ #[p1,p2]) W1;simp[invoke,go_sem]at this ⊢ <;> exact this
 .refine(Znb h i (D+1) 8 hw hp hi RR (Im:=Im4) (λg hg=>⟨by have:=(hIm g hg).1;omega,(hIm g hg).2⟩) (r1.mono E1 (λ_ h=>h) (λ_ _ h=>h) (λ_ _ _ h=>nomatch h)) (r2.mono E1 (λ_ h=>h) (λ_ _ h=>h) (λ_ _ _ h=>nomatch h)) J0).mono ?_;rintro e W2 ⟨⟨v,rfl⟩,hh⟩;rcases hh with⟨e1,A,J2⟩ | ⟨e1,x1,x2,x3,x4,x5⟩
  .obtain⟨sv,s1,s2,s3,Im',s4,s5⟩:=ZkX J2;obtain⟨⟨ρ,_,_,_,_,_,hpp⟩,K2,hge⟩:=J2;have pl:=hpp (D+1,recV f183 fn a4.tmps D .ready Le) pq;have pD:=hpp (D,.deferred (Lc [])) pq;have p4:=hpp (g4,.cells #[u4] 206 (0,0)) pq;have p5:=hpp (g5,.cells #[u5] 32 (0,0)) pq;have n6:∀ {g:Nat},¬ A g->g6≠g:=λhg e=>hg (e▸s3);refine⟨Le,_,run_endLoop pl.1 pq, ?_⟩;show(Code.seq (.region 8 (rgO f183 8) La) .ret).wpIn Lq 10 prog Q { tmps:=a4.tmps,defers:=[{ target:=.collected D,args := #[] }]++a4.defers } _;rw[hd];generalize hW3:W2.putObj (D+1) _=W3;have o3:∀ {g:Nat},g≠D+1->W3.heap[g]? = W2.heap[g]? := λ{g} hg=>by rw[<- hW3];exact Lp hg
   have K3:Kept (λ_=>False) w00 W3:=by rw[<- hW3];exact Z7H K2 oq
   have z3:W3.heap.size=W2.heap.size:=by rw[<- hW3];exact LH
   have d6:W3.heap[g6]? = Lc (.cells #[sv] 206 (0,0)):=by rw[o3 (n6 pl.2)];exact s1
   have d4:W3.heap[g4]? = Lc (.cells #[u4] 206 (0,0)):=by rw[o3 oq];exact p4.1
   have d5:W3.heap[g5]? = Lc (.cells #[u5] 32 (0,0)):=by rw[o3 oq];exact p5.1
   have dD:W3.heap[D]? = Lc (.deferred (Lc [])):=by rw[o3 oq];exact pD.1
   refine wpIn_seq (wpIn_region ?_);rw[show Lg (rgO f183 8).size=[0,1,2]from by kernel_rfl];refine Z2u (o:=(rgO f183 8).getD 0 M) kr kr (Z2X (ro:=Le) (by intro c h;cases h) (Z69 (Zou (t:=206) (x:=.tmp 6) kr (Z5R t6) d6 s2 kr) ?_));have e4:(W3.setRow g4 #[sv]).heap[g4]? = Lc (.cells #[sv] 206 (0,0)):=setRow_self d4;have f5:(W3.setRow g4 #[sv]).heap[g5]? = Lc (.cells #[u5] 32 (0,0)):=by rw[setRow_other W3 g4 g5 _ n45.symm];exact d5
   refine Z2u (o:=(rgO f183 8).getD 1 M) kr kr (Z2X (ro:=Le) (by intro c h;cases h) (Z5q (Z7A (t:=206) (x:=.tmp 4) (y:=.tmp 21) (v:=sv) kr (Z5R (Z7l t4 dd)) (Z5R (Z5I (by show 21<a4.tmps.size;omega))) d4 s2 kr) ?_));refine Z2u (o:=(rgO f183 8).getD 2 M) kr kr (Z2X (ro:=Le) (by intro c h;cases h) (Z5q (Z7A (t:=32) (x:=.tmp 5) (y:=.const (.int .i64 0)) (v:=.int .i64 0) kr (Z5R (Z7l t5 dd)) rfl f5 rfl kr) ?_));generalize hW5:(W3.setRow g4 #[sv]).setRow g5 #[.int .i64 0]=W5;have o5:∀ {g:Nat},g≠g4->g≠g5->W5.heap[g]? = W3.heap[g]? := λ{g} h k=>by
    rw[<- hW5,setRow_other _ g5 g _ k,setRow_other _ g4 g _ h]
   have m4:g4≠D:=by omega
   have m5:g5≠D:=by omega
   have K5:Kept (λ_=>False) w00 W5:=by rw[<- hW5];exact Zgc (Zgc K3 l4) l5
   have z5:W5.heap.size=W2.heap.size:=by rw[<- hW5,<- z3];simp[Xf]
   refine wpIn_ret ?_;show Q .ret _ W5;rw[<- hQ,Zil e1];refine ZdD (g4:=g4) (g5:=g5) (v4:=sv) (v5:=.int .i64 0) (Z5R (a := { tmps:=_,defers:=[] }) (Z7l t4 dd)) (Z5R (a := { tmps:=_,defers:=[] }) (Z7l t5 dd)) ?_ ?_ s2 rfl ?_ ⟨_,rfl,ZjK (Im':=Im') (Z7H K5 oq) (λg hg=>?_) (s5.mono ⟨?_,λg hg=>?_,λg hg=>?_⟩ (λ_ h=>h)) rfl⟩
   .rw[<- hW5,setRow_other _ g5 g4 _ n45];exact e4
   .rw[<- hW5];exact setRow_self f5
   .rw[o5 m4.symm m5.symm];exact dD
   .have:=(s4 g hg).2;have:=hge g (s4 g hg).1;rw[LH];omega
   .rw[LH];omega
   .have hA:=(s4 g hg).1;have ne:∀ {k:Nat},¬ A k->g≠k:=λhk e=>hk (e▸hA);rw[Lp (ne pD.2),o5 (ne p4.2) (ne p5.2),o3 (ne pl.2)]
   .rw[ZiF (by rw[o5 m4.symm m5.symm];exact dD),<- hW5,Z2a _ g5 #[u5] #[.int .i64 0] _ f5 rfl,Z2a _ g4 #[u4] #[sv] _ d4 rfl,<- hW3,ZjS pl.1]
  .refine⟨Lc .ret,_,run_endLoop x1 pq, ?_⟩;refine wpIn_ret ?_;show Q .ret { tmps:=a4.tmps,defers:=[{ target:=.collected D,args := #[] }]++a4.defers } _;rw[hd,<- hQ,Zh6 e1];refine ZdD (g4:=g4) (g5:=g5) (v4:=.slice Le 0 0) (v5:=.int .i64 19) (Z5R (a := { tmps:=_,defers:=[] }) t4) (Z5R (a := { tmps:=_,defers:=[] }) t5) ?_ ?_ rfl rfl ?_ ⟨_,rfl,ZjK (Im':=λ_=>False) (Z7H (Z7H x5 oq) oq) (λ_ h=>h.elim) (.slNil _ _ _) rfl⟩
   .rw[Lp oq];exact x3
   .rw[Lp oq];exact x4
   .rw[Lp oq];exact x2
def Z5l(h:Heap)(i:Int)(hw:WOk h.W)(hp:Z02 h=Lb)(hi:0<=i/\i<h.P.length):GP 183 [h.av,int i] Lb (.tu [Z15 (Z0p h i).1,int (Z0p h i).2]) []:=by
 intro w00 Im vs hIm hsz hargs;rw[<- callsIn_wide (n:=10)];refine callsIn_of_wp_marks func183 (c:=bdyF f183) kr trivial ?_ rfl;have S0:Sx.Sys Z3E Im w00 (tm 22 [(0,h.av),(1,int i)]) (hOf []) 1 { tmps:=vs++Array.replicate (Tryz.f183.ntmps-vs.size) undef,defers:=[] } w00:=by
  have hs2:vs.size=2:=hsz;refine⟨_,Im,Sx.Inv.empty hIm (Ll 1),⟨by rw[hs2];simp[hs2];kernel_rfl,λk y v hy hv=>?_,rfl⟩⟩;rw[show tm 22 [(0,h.av),(1,int i)]=[h.av,int i]++Lj 20 .any from by kernel_rfl,List.getElem?_append]at hy;rw[Array.getElem?_append]at hv;split at hy
  .rename_i hk;rw[if_pos (by rw[hsz];exact hk)]at hv;exact hargs k y v hy hv
  .have:=List.mem_of_getElem? hy;rw[(List.mem_replicate.1 this).2];exact .any _
 generalize hR:(λe w'=>∃ v,e=Ending.returned v/\Zeh w00 Im Lb (AV.tu [Z15 (Z0p h i).1,int (Z0p h i).2]) [] v w')=R;generalize hQ:bodyPostM Lq 10 prog f183 R=Q;refine Znm h i 10 Q _ _ _ _ _ S0 ?_;rintro a1 w1 ⟨ρ1,Im1,I1,T1⟩;obtain⟨v2,t2,r2⟩:=T1.at (t:=2) (x:=.pt 8002 0 0) rfl;obtain⟨v4,t4,r4⟩:=T1.at (t:=4) (x:=.pt 8004 0 0) rfl;obtain⟨v5,t5,r5⟩:=T1.at (t:=5) (x:=.pt 8005 0 0) rfl;obtain⟨β2,m2,n2⟩:=I1.blk 8002 _ rfl;obtain⟨β4,m4,n4⟩:=I1.blk 8004 _ rfl;obtain⟨β5,m5,n5⟩:=I1.blk 8005 _ rfl;have rp2:Rel (λ_=>Le) w1 (λg=>Im1 g\/β2.g=Lc g) (.rp h.dvs 0) v2:=Z4I m2 n2 r2 (λ_ h=>.inl h) (λ_ h=>.inr h);obtain⟨g4,s4,k4,e4,rfl⟩:=Z3H r4 rfl;obtain⟨g5,s5,k5,e5,rfl⟩:=Z3H r5 rfl;rw[m4]at e4;cases e4;rw[m5]at e5;cases e5;have h45:g4≠g5:=by
  rintro rfl;have:=I1.inj 8004 8005 _ _ g4 ⟨_,rfl,by simp⟩ ⟨_,rfl,by simp⟩ m4 m5 rfl rfl;omega
 have l4:w00.heap.size<=g4:=(I1.own 8004 _ g4 m4 rfl).elim (·.1) (λh=>h.no.elim);have l5:w00.heap.size<=g5:=(I1.own 8005 _ g5 m5 rfl).elim (·.1) (λh=>h.no.elim);have cell:∀ {β:Bi} {ty g:Nat} {x:AV},RelB ρ1 w1 Im1 β (.box ty [x])->β.g=Lc g->∃ u,w1.heap[g]? = Lc (.cells #[u] ty (0,0)):=by
  intro β ty g x hb hg;obtain⟨_,_,g',cs,q1,q2,q3,_⟩:=hb;rw[hg]at q1;cases q1;have hc:cs.size=1:=q3;exact⟨cs[0],by
   have:cs = #[cs[0]]:=by
    apply Array.ext
    .simp[hc]
    .intro k hk _;rcases k with _ | k
     .rfl
     .omega
   rw[<- this];exact q2⟩
 obtain⟨u4,c4⟩:=cell n4 rfl;obtain⟨u5,c5⟩:=cell n5 rfl;have er:rest prog 10 1 (bdyF f183) Q a1 w1=(Code.region 1 (rgO f183 1) La).wpIn Lq 10 prog (Exit.then ((Code.seq (.seq (.region 2 (rgO f183 2) La) (blkF f183 0)) (.seq (.region 8 (rgO f183 8) La) .ret)).wpIn Lq 10 prog Q) Q) a1 w1:=by kernel_rfl
 rw[er];refine wpIn_region ?_;rw[show Lg (rgO f183 1).size=[0]from by kernel_rfl];refine Z2u (o:=(rgO f183 1).getD 0 M) kr kr (Z2X (ro:=Le) (by intro c h;cases h) (Z69 (Zmi (t:=206) (z:=.slice Le 0 0) kr kr) ?_));show(Code.seq (.seq (.region 2 (rgO f183 2) La) (blkF f183 0)) (.seq (.region 8 (rgO f183 8) La) .ret)).wpIn Lq 10 prog Q (a1.put (Lc 6) (.pointer (Lc ⟨w1.heap.size,0,Le⟩))) (w1.alloc (.cells #[.slice Le 0 0] 206));obtain⟨w2,hw2⟩:∃ w2,w1.alloc (.cells #[.slice Le 0 0] 206)=w2:=⟨_,rfl⟩
 rw[hw2];obtain⟨g6,hg6⟩:∃ g6,w1.heap.size=g6:=⟨_,rfl⟩
 rw[hg6];have E2:Sx.Ext (λg=>Im1 g\/β2.g=Lc g) w1 w2:=by
  rw[<- hw2];refine Sx.Ext.alloc _ w1 _ ?_;rintro g (hg | hg)
  .exact I1.imb g hg
  .exact I1.bnd _ _ g m2 hg
 have z2:w2.heap.size=w1.heap.size+1:=by rw[<- hw2];simp
 have K2:Kept (λ_=>False) w1 w2:=by
  rw[<- hw2];exact⟨rfl,rfl,rfl,by simp,λk hk _=>Lt _ _ _ hk,λk hk=>by simp only[rows];rw[Lt _ _ _ hk]⟩
 have c6:w2.heap[g6]? = Lc (.cells #[.slice Le 0 0] 206 (0,0)):=by rw[<- hw2,<- hg6];exact LZ _ _
 have T2:RelT [] (λ_=>Le) w2 (λg=>Im1 g\/β2.g=Lc g) (tm 22 [(1,int i),(2,.rp h.dvs 0),(4,ptr g4),(5,ptr g5),(6,ptr g6)]) (a1.put (Lc 6) (.pointer (Lc ⟨g6,0,Le⟩))):=by
  have A1:RelT [] ρ1 w1 (λg=>Im1 g\/β2.g=Lc g) _ a1:=T1.mono (Sx.Ext.refl _ _) (λ_ h=>.inl h) (λ_ _ h=>h) I1.bnd;have A2:=((((A1.reSet 2 .any (λv _=>.any v)).reSet 4 .any (λv _=>.any v)).reSet 5 .any (λv _=>.any v)).pure kr)
  have A3:=((A2.reSet 2 (.rp h.dvs 0) (λv hv=>by rw[t2]at hv;cases hv;exact rp2)).reSet 4 (ptr g4) (λv hv=>by rw[t4]at hv;cases hv;simp only[Xd,Xc];exact .d (.sc _ rfl))).reSet 5 (ptr g5) (λv hv=>by rw[t5]at hv;cases hv;simp only[Xd,Xc];exact .d (.sc _ rfl));exact(A3.mono E2 (λ_ h=>h) (λ_ _ h=>h) (λ_ _ _ h=>nomatch h)).put 6 (Rel.d (RelD.sc _ rfl))
 have S2:Sx.Sys Z3E (λg=>Im1 g\/β2.g=Lc g) w2 (tm 22 [(1,int i),(2,.rp h.dvs 0),(4,ptr g4),(5,ptr g5),(6,ptr g6)]) (hOf []) 20 (a1.put (Lc 6) (.pointer (Lc ⟨g6,0,Le⟩))) w2:=by
  refine⟨_,_,Sx.Inv.empty ?_ dd,T2⟩;rintro g (hg | hg)
  .have:=I1.imb g hg;omega
  .have:=I1.bnd _ _ g m2 hg;omega
 refine wpIn_seq (wpIn_seq (wpIn_region ?_));rw[show Lg (rgO f183 2).size=[0,1]++[2]from by kernel_rfl];refine Z3s (ro:=Le) (hints:=[]) (out:=⟨tm 22 [(1,int i),(2,.rp h.dvs 0),(4,ptr g4),(5,ptr g5),(6,ptr g6),(9,h.av),(10,int i)],hOf [],[],[]⟩) kr S2 trivial (λp hp=>by simp at hp) ?_;rintro a3 w3 ⟨ρ3,Im3,I3,T3⟩;have T3:=T3.pure kr;have hcall:(execOp a3.eval ((rgO f183 2).getD 2 M)).run prog w3 = .ok (.enter 214 #[a3.eval (.tmp 9),a3.eval (.tmp 10)]) w3:=by
  have hop:((rgO f183 2).getD 2 M).op = .call ⟨.value (.func 214),#[.tmp 9,.tmp 10],tsOf ((rgO f183 2).getD 2 M)⟩:=by kernel_rfl
  have:=Z1O (P:=prog) (f:=214) kr #[a3.eval (.tmp 9),a3.eval (.tmp 10)] w3;have hev:a3.eval (.func 214) = .func (.func 214) #[] #[]:=rfl;generalize (rgO f183 2).getD 2 M=o at hop ⊢;simp[execOp,hop,resolve,hev,Deferred.ofValue,invoke,this]
 refine Z2u (o:=(rgO f183 2).getD 2 M) kr kr (Z2X (ro:=Le) (by intro c h;cases h) ?_);unfold Oper.wp;rw[hcall,Oper.upon_enter];refine(ZpP h i w3 Im3 _ _ I3.imb (Z1p T3 (.tmp 9)) (Z1p T3 (.tmp 10))).mono ?_;rintro e w4 ⟨p1,p2,Im4,rfl,K4,hIm4,rp1,rp2'⟩;have hdst:((rgO f183 2).getD 2 M).dst=Lc 11:=by kernel_rfl
 rw[hdst];have b4:g4<g6:=by rw[<- hg6];exact I1.bnd _ _ _ m4 rfl
 have b5:g5<g6:=by rw[<- hg6];exact I1.bnd _ _ _ m5 rfl
 have s1:=I1.kept.size;have s3:=I3.kept.size;obtain⟨x4,y4,q4⟩:=T3.at (t:=4) (x:=ptr g4) rfl;obtain⟨x5,y5,q5⟩:=T3.at (t:=5) (x:=ptr g5) rfl;obtain⟨x6,y6,q6⟩:=T3.at (t:=6) (x:=ptr g6) rfl;rw[Z0G q4]at y4;rw[Z0G q5]at y5;rw[Z0G q6]at y6;have hz:a3.tmps.size=22:=T3.size;have to4:∀ {g:Nat},g<w2.heap.size->w4.heap[g]? = w2.heap[g]? := λ{g} hg=>by
  rw[K4.block g oq id,I3.kept.no.block g hg id]
 have to2:∀ {g:Nat},g<w1.heap.size->w2.heap[g]? = w1.heap[g]? := λ{g} hg=>K2.block g hg id;refine ZlE hw hp hi (w4:=w4) (Im4:=Im4) (g4:=g4) (g5:=g5) (g6:=g6) (u4:=u4) (u5:=u5) (p1:=p1) (p2:=p2) (Z3m (Z3m (Z3m I1.kept.no K2 (λ_ h=>h.elim)) I3.kept.no (λ_ h=>h.elim)) K4 (λ_ h=>h.elim)) ?_ (Z7l y4 dd) (Z7l y5 dd) (Z7l y6 dd) (Z5I oq) T3.defers l4 l5 h45 oq oq oq ?_ ?_ ?_ (λg hg=>?_) rp1 rp2' (by rw[hR];exact hQ)
 .show(a3.tmps.setIfInBounds 11 _).size=22;rw[Array.size_setIfInBounds];exact hz
 .rw[to4 oq,to2 oq];exact c4
 .rw[to4 oq,to2 oq];exact c5
 .rw[to4 oq];exact c6
 .obtain⟨h1,h2⟩:=hIm4 g hg;refine⟨h2, ?_⟩;rcases h1 with h1 | h1
  .rcases I3.im0 g h1 with k | k | k
   .rcases k with k | k
    .have:=I1.imb g k;omega
    .have:=I1.bnd _ _ g m2 k;omega
   .omega
   .exact k.no.elim
  .omega
end Go.Proofs.YtgedmeaemofdkaaGreat
namespace Go.Proofs.YtgedmeaemofdkaaGreat
open Go.Sx
def Z8G{l:List Found}{i:Nat}(hi:i<l.length):l.take (i+1)=l.take i++[l.getD i M]:=by
 rw[Xb];simp[hi]
def Zlq(l:List Found)(i:Nat):Tg:=⟨tm 19 [(2,.d (.sl 0 [])),(3,.ow 16003),(6,Z15 l),(7,int l.length),(8,int i)],[(16003,.arr 35 1 (((l.take i).map (·.addr)).map wdv))],60⟩
def ZhE(l:List Found)(i:Nat)(hl:l.length<=1048576)(hi:i<l.length):CP (rndF f157 0) (Zlq l i).st .nrm (Zlq l (i+1)).st:=by
 have e:(l.take (i+1)).map (·.addr)=(l.take i).map (·.addr)++[(l.getD i M).addr]:=by rw[Z8G hi,LB];rfl
 have en:((l.take i).map (·.addr)).length<=1048576:=by simp;omega
 let y0:=l.getD i M;exact sF [(496016,16003)] (fO 5) (Fh 16 [.els (O wdv (O (λ(x:Found)=>x.addr) (Lh i l)++[y0.addr]))] (Ftb 9 (Ld ((i:Int)<(l.length:Int))) (Fek 10 Found.dv l (↑i) i (Fs 15 (O wdv [y0.addr]) (Fa (by(simp[*];omega):(O wdv (O (λ(x:Found)=>x.addr) (Lh i l))).length+(O wdv [y0.addr]).length<=2^30) (Fa (ms:O wdv (O (λ(x:Found)=>x.addr) (Lh i l))++O wdv [y0.addr]=O wdv (O (λ(x:Found)=>x.addr) (Lh i l)++[y0.addr])) (Fx 17 i (Fr (35:Int) (Fa (by refine congrArg _ ?_;rw[e]:O wdv (O (λ(x:Found)=>x.addr) (Lh i l)++[y0.addr])=O wdv (O (λ(x:Found)=>x.addr) (Lh (i+1) l))) Fz)))))))))
def ZnH(l:List Found):CP (rndF f157 0) (Zlq l l.length).st (.ext 0) (Tg.st ⟨tm 19 [(2,.d (.sl 0 [])),(3,.ow 16003)],[(16003,.arr 35 1 ((l.map (·.addr)).map wdv))],60⟩):=by
 exact sF [] (fO 2) (Ffb 9 (Ld ((l.length:Int)<(l.length:Int))) (Fr (35:Int) (Fa (by refine congrArg _ ?_;refine congrArg _ ?_;simp[LS,LQ,LR,LB,wdv,idv]:O wdv (O (λ(x:Found)=>x.addr) (Lh l.length l))=O wdv (O (λ(x:Found)=>x.addr) l)) Fz)))
def Zkl(l:List Found)(hl:l.length<=1048576)  := Z08 (S:=λj=>(Zlq l j).st) l.length (by kernel_rfl) (λj hj=>ZhE l j hl hj) (ZnH l)
def Z6k(l:List Found)(hl:l.length<=1048576):GP 157 [Z15 l] Lb (Z01 (l.map (·.addr))) []:=by
 exact gF [] func157 [] (Fh 3 [.own] (Fl 7 Found.dv l (Fu (@Zkl l aa) (Fa (by exact Z4k _:Z1s (O wdv (O (λ(x:Found)=>x.addr) l))) Fz))))
def Z3l(h:Heap)(i:Int)(hw:WOk h.W)(hi:-9223372036854775808<=i/\i<=9223372036854775807):GP 134 [h.av,int i] La (.tu [Z01 (Z07 h i).1,int (Z07 h i).2]) []:=by
 cases hp:Z02 h with
 | false =>
  have e7:Z07 h i=([],1):=by unfold Z07;rw[if_neg (by rw[hp];simp)]
  rw[e7];exact gF [] func134 [] (Fh 8 [.br Lb] (Fc 10 (@Z0n h) (Fb ((!Z02 h)=Lb) (Fnl Fz))))
 | true =>
  have po:=Z0a hp;by_cases hi2:0<=i/\i<h.P.length
  .have e7:=Z6V hp hi2;have el:=Z4g h i;by_cases e:(Z0p h i).2=0
   .rw[show Z07 h i=(O (λ(x:Found)=>x.addr) (Z0p h i).1,(0:Int))from by rw[e7,e]];exact gF [] func134 [] (Fh 12 [.br La] (Fh 29 [.br La] (Fc 10 (@Z0n h) (Fb ((!Z02 h)=La) (FlG 19 (!decide (i<0)) Page.dv h.P (Fb ((Ld (i<0)||Ld ((h.P.length:Int)<=i))=La) (Fc 25 (@Z5l h i aa aa aa) (Ffb 8 ((Z0p h i).2 != 0) (Fc 32 (@Z6k ((Z0p h i).1) oq) Fz)))))))))
   .have e8:(Z0p h i).1=[]:=by
     unfold Z0p at e ⊢;split at e
     .exact absurd rfl e
     .rename_i h9;rw[if_neg h9]
    exact gF [] func134 (fO 5) (Fh 8 [.br La] (Fh 12 [.br La] (Fc 10 (@Z0n h) (Fb ((!Z02 h)=La) (FlG 19 (!decide (i<0)) Page.dv h.P (Fb ((Ld (i<0)||Ld ((h.P.length:Int)<=i))=La) (Fc 25 (@Z5l h i aa aa aa) (Ftb 29 ((Z0p h i).2 != 0) (Fnl (Fa (by rw[e7,e8];rfl:[]=O wdv (Z07 h i).1) (Fa (by rw[e7]:(Z0p h i).2=(Z07 h i).2) Fz)))))))))))
  .have e7:Z07 h i=([],2):=by unfold Z07;rw[if_pos hp,if_neg hi2]
   rw[e7];exact gF [] func134 [] (Fh 8 [.br La] (Fh 12 [.br Lb] (Fc 10 (@Z0n h) (Fb ((!Z02 h)=La) (FlG 19 (!decide (i<0)) Page.dv h.P (Fb ((Ld (i<0)||Ld ((h.P.length:Int)<=i))=Lb) (Fnl Fz)))))))
def Zgo(h:Heap)(i:Nat)(acc:List Found):Tg:=⟨tm 31 [(1,.pt 8001 0 0),(2,.d (.sl 0 [])),(3,int 0),(4,.ow 24004),(13,int h.P.length),(14,int i)],[(24004,.arr 212 4 (acc.map Found.dv)),(8001,.box 28 h.cells)],60⟩
section
variable (h:Heap) (i:Nat) (acc:List Found) (hw:WOk h.W) (hp:Z02 h=Lb) (hl:h.P.length<=1048576) (ha:acc.length<=1048576)
include hw hp hl ha
theorem ZiU(hi:i<h.P.length)(e:(Z0p h i).2=0):CP (rndF f156 0) (Zgo h i acc).st .nrm (Zgo h (i+1) (acc++(Z0p h i).1)).st:=by
 have hn:=Z4g h i;exact sF [(512028,24004)] [] (Fh 28 [.els (O Found.dv (acc++(Z0p h (i:Int)).1))] (Ftb 15 (Ld ((i:Int)<(h.P.length:Int))) (Fc 20 (@Z5l h ((i:Int)) aa aa oq) (Ffb 24 ((Z0p h (i:Int)).2 != 0) (Fa (by(simp only[Lk];omega):(O Found.dv acc).length+(O Found.dv (Z0p h (i:Int)).1).length<=2^30) (Fa (ms:O Found.dv acc++O Found.dv (Z0p h (i:Int)).1=O Found.dv (acc++(Z0p h (i:Int)).1)) (Fx 29 i Fz)))))))
theorem ZnD(hi:i<h.P.length)(e:¬ (Z0p h i).2=0):CP (rndF f156 0) (Zgo h i acc).st .ret (Tg.st ⟨tm 31 [(2,.d (.sl 0 [])),(3,int (Z0p h i).2)],[],60⟩):=by
 exact sF [] [] (Ftb 15 (Ld ((i:Int)<(h.P.length:Int))) (Fc 20 (@Z5l h ((i:Int)) aa aa oq) (Ftb 24 ((Z0p h (i:Int)).2 != 0) Fz)))
omit hw hp hl ha in
theorem ZnK:CP (rndF f156 0) (Zgo h h.P.length acc).st (.ext 0) (Tg.st ⟨tm 31 [(2,.d (.sl 0 [])),(3,int 0),(4,.ow 24004)],[(24004,.arr 212 4 (acc.map Found.dv))],60⟩):=by
 exact sF [] [] (Ffb 15 (Ld ((h.P.length:Int)<(h.P.length:Int))) Fz)
end
def ZmH(h:Heap)(hw:WOk h.W)(hp:Z02 h=Lb)(hl:h.P.length<=1048576):∀ (f i:Nat) (acc:List Found),i+f=h.P.length->acc.length+256*f<=1048576 ->
  ((allR h f i).2=0->LSpec prog f156 0 (Zgo h i acc).st (.ext 0) (Tg.st ⟨tm 31 [(2,.d (.sl 0 [])),(3,int 0),(4,.ow 24004)],[(24004,.arr 212 4 ((acc++(allR h f i).1).map Found.dv))],60⟩)) /\
  (¬ (allR h f i).2=0->LSpec prog f156 0 (Zgo h i acc).st .ret (Tg.st ⟨tm 31 [(2,.d (.sl 0 [])),(3,int (allR h f i).2)],[],60⟩)):=by
 intro f;induction f with
 | zero =>
  intro i acc hi _;have:i=h.P.length:=by omega
  subst this;refine⟨λ_=>?_,λe=>absurd rfl e⟩;rw[allR,LA];exact .endx (ZnK h acc)
 | succ f ih =>
  intro i acc hi hb;have hn:=Z4g h i;unfold allR;by_cases e:(Z0p h i).2=0
  .rw[if_pos e];have hr:=ZiU h i acc hw hp hl oq oq e;obtain⟨i1,i2⟩:=ih (i+1) (acc++(Z0p h i).1) oq qo;by_cases e2:(allR h f (i+1)).2=0
   .rw[if_pos e2];refine⟨λ_=>?_,λe=>absurd rfl e⟩;have:=i1 e2;rw[L0]at this;exact .next hr this
   .rw[if_neg e2];exact⟨λe=>absurd e e2,λ_=>.next hr (i2 e2)⟩
  .rw[if_neg e];exact⟨λe'=>absurd e' e,λ_=>.endr (ZnD h i acc hw hp hl oq oq e)⟩
def Zkf(h:Heap)(hw:WOk h.W)(hp:Z02 h=Lb)(hl:h.P.length<=64)(e:(allR h h.P.length 0).2=0):CP (blkF f156 0) (Tg.st ⟨tm 31 [(1,.pt 8001 0 0),(2,.d (.sl 0 [])),(3,int 0),(4,.ow 24004),(13,int h.P.length),(14,int 0)],[(24004,.arr 212 4 []),(8001,.box 28 h.cells)],60⟩) .nrm
  (Tg.st ⟨tm 31 [(2,.d (.sl 0 [])),(3,int 0),(4,.ow 24004)],[(24004,.arr 212 4 ((allR h h.P.length 0).1.map Found.dv))],60⟩) :=
 ((ZmH h hw hp oq h.P.length 0 [] oq qo).1 e).ext kr
def ZeC(h:Heap)(hw:WOk h.W)(hp:Z02 h=Lb)(hl:h.P.length<=64)(e:¬ (allR h h.P.length 0).2=0):CP (blkF f156 0) (Tg.st ⟨tm 31 [(1,.pt 8001 0 0),(2,.d (.sl 0 [])),(3,int 0),(4,.ow 24004),(13,int h.P.length),(14,int 0)],[(24004,.arr 212 4 []),(8001,.box 28 h.cells)],60⟩) .ret
  (Tg.st ⟨tm 31 [(2,.d (.sl 0 [])),(3,int (allR h h.P.length 0).2)],[],60⟩) :=
 ((ZmH h hw hp oq h.P.length 0 [] oq qo).2 e).ret kr
def Zlv(h:Heap)(hw:WOk h.W)(e:(allW h).2=0):GP 156 [h.av] Lb (.tu [.ow 0,int 0]) [.arr 212 4 ((allW h).1.map Found.dv)]:=by
 have hp:Z02 h=Lb:=by
  unfold allW at e;split at e
  .assumption
  .simp at e
 have po:=Z0a hp;have e7:allW h=allR h h.P.length 0:=by rw[allW,if_pos hp]
 rw[e7]at e ⊢;exact gF [24004] func156 [] (Fh 4 [.own] (Fc 9 (@Z0n h) (Ffb 10 (!Z02 h) (Fl 13 Page.dv h.P (Fu (@Zkf h aa aa oq aa) (Fa (by exact ZlV _:Z1s (O Found.dv (allR h h.P.length 0).1)) Fz))))))
def Zh8(h:Heap)(hw:WOk h.W)(e:¬ (allW h).2=0):GP 156 [h.av] Lb (.tu [Z15 [],int (allW h).2]) []:=by
 cases hp:Z02 h with
 | false =>
  have e7:allW h=([],1):=by rw[allW,if_neg (by rw[hp];simp)]
  refine gspec_ofE [((9:Nat),[Hint.call Lb (Sx.bool (Z02 h)) []]),((10:Nat),[Hint.br Lb])] [] [] dd func156 [Lb] (φ:=GP 94 [h.av] Lb (Sx.bool (Z02 h)) []/\(!Z02 h)=Lb/\Lb=Lb/\([]:List (List DV))=[]/\[]=O Found.dv []/\(1:Int)=(allW h).2) ?_ kr kr;exact⟨(@Z0n (h)),(by(simp only[bs];omega)),rfl,rfl,rfl,(by rw[e7])⟩
 | true =>
  have po:=Z0a hp;have e7:allW h=allR h h.P.length 0:=by rw[allW,if_pos hp]
  rw[e7]at e ⊢;refine gspec_ofE [((9:Nat),[Hint.call Lb (Sx.bool (Z02 h)) []]),((10:Nat),[Hint.br La]),((4:Nat),[Hint.own]),((13:Nat),[Hint.int (h.P.length:Int)])] [((0:Nat),Tg.mk (tm (31:Nat) [((1:Nat),AV.pt (8001:Nat) (0:Nat) (0:Nat)),((2:Nat),AV.d (DV.sl (0:Nat) [])),((3:Nat),int (0:Int)),((4:Nat),AV.ow (24004:Nat)),((13:Nat),int (h.P.length:Int)),((14:Nat),int (0:Int))]) [((24004:Nat),Blk.arr 212 (4:Nat) []),((8001:Nat),Blk.box 28 h.cells)] (60:Nat),Ex.ret,Tg.mk (tm (31:Nat) [((2:Nat),AV.d (DV.sl (0:Nat) [])),((3:Nat),int (allR h h.P.length (0:Nat)).2)]) [] (60:Nat))] [] dd func156 [] (φ:=GP 94 [h.av] Lb (Sx.bool (Z02 h)) []/\(!Z02 h)=La/\La=La/\(↑(O Page.dv h.P).length:Int)=(h.P.length:Int)/\CP (blkF f156 (0:Nat)) (Tg.mk (tm (31:Nat) [((1:Nat),AV.pt (8001:Nat) (0:Nat) (0:Nat)),((2:Nat),AV.d (DV.sl (0:Nat) [])),((3:Nat),int (0:Int)),((4:Nat),AV.ow (24004:Nat)),((13:Nat),int (h.P.length:Int)),((14:Nat),int (0:Int))]) [((24004:Nat),Blk.arr 212 (4:Nat) []),((8001:Nat),Blk.box 28 h.cells)] (60:Nat)).st Ex.ret (Tg.mk (tm (31:Nat) [((2:Nat),AV.d (DV.sl (0:Nat) [])),((3:Nat),int (allR h h.P.length (0:Nat)).2)]) [] (60:Nat)).st/\([]:List (List DV))=[]) ?_ kr kr;exact⟨(@Z0n (h)),(by(simp only[bs];omega)),rfl,(by simp only[Lk]),(@ZeC (h) aa aa oq aa),rfl⟩
def Z2l(f:Found):Bool:=!(f.hd.K==0)
def ZfZ(x:Found):GP 159 [x.av] Lb (bool (x.hd.K==0)) []:=by
 exact gF [] func159 [] Fz
def Z0Q(l:List Found):Nat:=(l.takeWhile Z2l).length
def Z6m{l:List Found}{m:Nat}(h:m<Z0Q l):m<l.length/\((l.getD m M).hd.K==0)=La:=by
 obtain⟨h1,h2⟩:=Zhw _ _ _ h;refine⟨h1, ?_⟩;rw[Lf,LN h1];simpa[Z2l]using h2
def Zav{l:List Found}(h:Z0Q l<l.length):((l.getD (Z0Q l) M).hd.K==0)=Lb:=by
 have h2:=ZaE Z2l l h;have h3:l.getD (Z0Q l) M=l[(l.takeWhile Z2l).length]:=by
  rw[Lf,LN h];rfl
 rw[h3];simpa[Z2l]using h2
def idxF(l:List Found):Int:=if Z0Q l<l.length then Z0Q l else -1
def ZgJ(l:List Found)(i:Nat):Tg:=⟨tm 19 [(0,Z15 l),(1,.fn 159 []),(4,int 0),(7,int l.length),(8,int i)],[],60⟩
def Zcd(l:List Found)(i:Nat)(hl:l.length<=1048576)(hi:i<l.length)(e:((l.getD i M).hd.K==0)=La):CP (rndF f200 0) (ZgJ l i).st .nrm (ZgJ l (i+1)).st:=by
 exact sF [] [] (Fh 16 [.call Lb (Sx.bool ((l.getD i M).hd.K==0)) [],.br La] (Ftb 9 (Ld ((i:Int)<(l.length:Int))) (Fek 14 Found.dv l (↑i) i (Fa (@ZfZ (l.getD i M)) (Fa ‹((l.getD i M).hd.K==0)=La› (Fx 18 i Fz))))))
def Ziu(l:List Found)(i:Nat)(hl:l.length<=1048576)(hi:i<l.length)(e:((l.getD i M).hd.K==0)=Lb):CP (rndF f200 0) (ZgJ l i).st .ret (Tg.st ⟨tm 19 [(4,int i)],[],60⟩):=by
 exact sF [] [] (Fh 16 [.call Lb (Sx.bool ((l.getD i M).hd.K==0)) [],.br Lb] (Ftb 9 (Ld ((i:Int)<(l.length:Int))) (Fek 14 Found.dv l (↑i) i (Fa (@ZfZ (l.getD i M)) (Fa ‹((l.getD i M).hd.K==0)=Lb› Fz)))))
def ZmR(l:List Found):CP (rndF f200 0) (ZgJ l l.length).st (.ext 0) (Tg.st ⟨tm 19 [(4,int 0)],[],60⟩):=by
 exact sF [] [] (Ffb 9 (Ld ((l.length:Int)<(l.length:Int))) Fz)
def ZlL(l:List Found)(hl:l.length<=1048576)(h:¬ Z0Q l<l.length)  := Z08 (S:=λj=>(ZgJ l j).st) l.length (by kernel_rfl) (λj hj=>Zcd l j hl hj (Z6m (by omega)).2) (ZmR l)
def Zi2(l:List Found)(hl:l.length<=1048576)(h:Z0Q l<l.length)  := Z0v (S:=λj=>(ZgJ l j).st) (Z0Q l) (by kernel_rfl) (λj hj=>Zcd l j hl (by omega) (Z6m hj).2) (Ziu l (Z0Q l) hl h (Zav h))
def Zmu(l:List Found)(hl:l.length<=1048576):GP 200 [Z15 l,.fn 159 []] Lb (int (idxF l)) []:=by
 by_cases h:Z0Q l<l.length
 .have e7:idxF l=Z0Q l:=if_pos h;rw[e7];exact gF [] func200 [] (Fl 7 Found.dv l (Fu (@Zi2 l aa aa) Fz))
 .have e7:idxF l=-1:=if_neg h;rw[e7];exact gF [] func200 [] (Fl 7 Found.dv l (Fu (@ZlL l aa aa) Fz))
def dfS(l:List Found)(i0:Nat):Nat->List Found×Nat
 | 0=>(l,i0)
 | m+1=>if Z2l ((dfS l i0 m).1.getD (i0+1+m) M)=Lb then((dfS l i0 m).1.set (dfS l i0 m).2 ((dfS l i0 m).1.getD (i0+1+m) M),(dfS l i0 m).2+1)else dfS l i0 m
def Zj6{l:List Found}{i0:Nat}(h0:(l.take i0).filter Z2l=l.take i0)(h1:i0<l.length)(h2:Z2l (l.getD i0 M)=La):∀ m,i0+1+m<=l.length ->
  (dfS l i0 m).1.length=l.length/\(dfS l i0 m).2<=i0+m/\(∀ k,i0+1+m<=k->(dfS l i0 m).1.getD k M=l.getD k M)/\(dfS l i0 m).1.take (dfS l i0 m).2=(l.take (i0+1+m)).filter Z2l
 | 0,_=>by
  refine⟨rfl,Ll _,λ_ _=>rfl, ?_⟩;show l.take i0=(l.take (i0+1)).filter Z2l;rw[Z8G h1,L2,h0];generalize l.getD i0 M=y at h2 ⊢;simp[h2]
 | m+1,hm=>by
  obtain⟨a1,a2,a3,a4⟩:=Zj6 h0 h1 h2 m oq;have e:=a3 (i0+1+m) (Ll _);have et:l.take (i0+1+(m+1))=l.take (i0+1+m)++[l.getD (i0+1+m) M]:=Z8G (l:=l) (i:=i0+1+m) (show i0+1+m<l.length by omega);unfold dfS;rw[e,et,L2];generalize hd:dfS l i0 m=d at *;by_cases hk:Z2l (l.getD (i0+1+m) M)=Lb
  .rw[if_pos hk];refine⟨by simp[a1],by simp only;omega,λk hk'=>?_, ?_⟩
   .simp only;rw[Lf,List.getElem?_set_ne oq,<- Lf];exact a3 k oq
   .have hlt:d.2<d.1.length:=by omega
    simp only;rw[<- a4,Xb,List.take_set_of_le oq];generalize l.getD (i0+1+m) M=y at hk ⊢;simp[hk,hlt]
  .rw[if_neg hk];refine⟨a1,by omega,λk hk'=>a3 k oq, ?_⟩;rw[a4];generalize l.getD (i0+1+m) M=y at hk ⊢;simp[hk]
def Z8e(l:List Found):(l.take (Z0Q l)).filter Z2l=l.take (Z0Q l):=by
 rw[L3];intro x hx;obtain⟨k,hk⟩:=L4 hx;rw[List.getElem?_take]at hk;split at hk
 .rename_i hlt;have:=(Z6m hlt).2;rw[Lf,hk]at this;simpa[Z2l]using this
 .cases hk
def Zag{l:List Found}(h:Z0Q l<l.length):Z2l (l.getD (Z0Q l) M)=La:=by
 have:=Zav h;show(!((l.getD (Z0Q l) M).hd.K==0))=La;rw[this];rfl
def ZjH{l:List Found}(h:Z0Q l<l.length):(dfS l (Z0Q l) (l.length-Z0Q l-1)).1.take (dfS l (Z0Q l) (l.length-Z0Q l-1)).2=l.filter Z2l/\(dfS l (Z0Q l) (l.length-Z0Q l-1)).1.length=l.length/\(dfS l (Z0Q l) (l.length-Z0Q l-1)).2<=l.length:=by
 have h0:=Z8e l;have h2:=Zag h;obtain⟨a1,a2,a3,a4⟩:=Zj6 h0 h h2 (l.length-Z0Q l-1) oq;refine⟨?_,a1,by omega⟩;rw[a4,show Z0Q l+1+(l.length-Z0Q l-1)=l.length from by omega,List.take_length]
def ZiI{l:List Found}(h:¬ Z0Q l<l.length):l.filter Z2l=l:=by
 rw[L3];intro x hx;obtain⟨k,hk⟩:=L4 hx;have hlt:k<l.length:=(List.getElem?_eq_some_iff.1 hk).1;have:=(Z6m (l:=l) (m:=k) oq).2;rw[Lf,hk]at this;simpa[Z2l]using this
def ZnX(l:List Found)(hl:l.length<=1048576)(h:¬ Z0Q l<l.length):CP (bdyF f158) (Tg.st ⟨tm 42 [(0,.ow 0),(1,.fn 159 [])],[(0,.arr 212 4 (l.map Found.dv))],1⟩) .ret (Tg.st ⟨tm 42 [(4,.ow 0)],[(0,.arr 212 4 (l.map Found.dv))],60⟩):=by
 have e7:idxF l=-1:=if_neg h;exact sF [] [] (Fc 10 (@Zmu l aa) (Ftb 12 (idxF l==(-1:Int)) Fz))
def delL(l:List Found)(i0 m:Nat):Tg:=⟨tm 42 [(0,.ow 0),(1,.fn 159 []),(5,int (dfS l i0 m).2),(6,int (i0+1+m:Nat))],[(0,.arr 212 4 ((dfS l i0 m).1.map Found.dv))],60⟩
section
variable (l:List Found) (i0 m:Nat) (hl:l.length<=1048576) (h1:(dfS l i0 m).1.length=l.length) (h2:(dfS l i0 m).2<=i0+m)
include hl h1 h2
theorem ZoA(hm:i0+1+m<l.length)(hk:(((dfS l i0 m).1.getD (i0+1+m) M).hd.K==0)=La):CP (rndF f158 0) (delL l i0 m).st .nrm (delL l i0 (m+1)).st:=by
 have e7:dfS l i0 (m+1)=((dfS l i0 m).1.set (dfS l i0 m).2 ((dfS l i0 m).1.getD (i0+1+m) M),(dfS l i0 m).2+1):=by
  rw[dfS,if_pos (by unfold Z2l;rw[hk];rfl)]
 have hk2:¬ ((dfS l i0 m).1.getD ((i0+1+m:Nat):Int).toNat M).hd.K=0:=by rw[Lz];simpa using hk
 exact sF [] [La,La,Lb,La,Lb] (Fh 10033 [.els (O Found.dv ((dfS l i0 m).1.set (↑(dfS l i0 m).2:Int).toNat ((dfS l i0 m).1.getD (↑(i0+1+m):Int).toNat M)))] (Fl 18 Found.dv (dfS l i0 m).1 (Ftb 19 (Ld ((↑(i0+1+m):Int)<(↑(dfS l i0 m).1.length:Int))) (Fmq 25 Found.dv ((dfS l i0 m).1) (↑(i0+1+m):Int) (Fc 28 (@ZfZ ((dfS l i0 m).1.getD (↑(i0+1+m):Int).toNat M)) (Ftb 29 (!((dfS l i0 m).1.getD (↑(i0+1+m):Int).toNat M).hd.K==0) (Fa (by(simp only[Lk];omega):0<=(↑(dfS l i0 m).2:Int)/\(↑(dfS l i0 m).2:Int).toNat<(O Found.dv (dfS l i0 m).1).length) (Fa (by(simp only[Lk];omega):(↑(dfS l i0 m).2:Int).toNat<(O Found.dv (dfS l i0 m).1).length) (Fa (by rw[LR];rfl:(O Found.dv (dfS l i0 m).1).set (↑(dfS l i0 m).2:Int).toNat [du64 ((dfS l i0 m).1.getD (↑(i0+1+m):Int).toNat M).addr,dint ((dfS l i0 m).1.getD (↑(i0+1+m):Int).toNat M).hd.K,dint ((dfS l i0 m).1.getD (↑(i0+1+m):Int).toNat M).hd.length,DV.sc (Value.int IntKind.u32 ((dfS l i0 m).1.getD (↑(i0+1+m):Int).toNat M).hd.map)]=O Found.dv ((dfS l i0 m).1.set (↑(dfS l i0 m).2:Int).toNat ((dfS l i0 m).1.getD (↑(i0+1+m):Int).toNat M))) (Fw 35 ((↑(dfS l i0 m).2:Int)+1) (↑((dfS l i0 m).2+1):Int) (Fw 21 ((↑(i0+1+m):Int)+1) (↑(i0+1+m+1):Int) (Fa (by rw[e7]:(↑((dfS l i0 m).2+1):Int)=(↑(dfS l i0 (m+1)).2:Int)) (Fr (212:Int) (Fa (by refine congrArg _ ?_;rw[e7];rfl:O Found.dv ((dfS l i0 m).1.set (↑(dfS l i0 m).2:Int).toNat ((dfS l i0 m).1.getD (↑(i0+1+m):Int).toNat M))=O Found.dv (dfS l i0 (m+1)).1) Fz))))))))))))))
theorem Zno(hm:i0+1+m<l.length)(hk:(((dfS l i0 m).1.getD (i0+1+m) M).hd.K==0)=Lb):CP (rndF f158 0) (delL l i0 m).st .nrm (delL l i0 (m+1)).st:=by
 have e7:dfS l i0 (m+1)=dfS l i0 m:=by
  rw[dfS,if_neg (by unfold Z2l;rw[hk];simp)]
 have hk2:((dfS l i0 m).1.getD ((i0+1+m:Nat):Int).toNat M).hd.K=0:=by rw[Lz];simpa using hk
 let y0:=(dfS l i0 m).1.getD (↑(i0+1+m):Int).toNat M;exact sF [] [La,La,Lb,La,Lb] (Fl 18 Found.dv (dfS l i0 m).1 (Ftb 19 (Ld ((↑(i0+1+m):Int)<(↑(dfS l i0 m).1.length:Int))) (Fmq 25 Found.dv ((dfS l i0 m).1) (↑(i0+1+m):Int) (Fc 28 (@ZfZ y0) (Ffb 29 (!y0.hd.K==0) (Fw 21 ((↑(i0+1+m):Int)+1) (↑(i0+1+m+1):Int) (Fa (by rw[e7]:(↑(dfS l i0 m).2:Int)=(↑(dfS l i0 (m+1)).2:Int)) (Fr (212:Int) (Fa (by refine congrArg _ ?_;rw[e7]:O Found.dv (dfS l i0 m).1=O Found.dv (dfS l i0 (m+1)).1) Fz)))))))))
theorem ZpD(hm:i0+1+m=l.length):CP (rndF f158 0) (delL l i0 m).st (.ext 0) (Tg.st ⟨tm 42 [(0,.ow 0),(5,int (dfS l i0 m).2)],[(0,.arr 212 4 ((dfS l i0 m).1.map Found.dv))],60⟩):=by
 exact sF [] [] (Fl 18 Found.dv (dfS l i0 m).1 (Ffb 19 (Ld ((↑(i0+1+m):Int)<(↑(dfS l i0 m).1.length:Int))) Fz))
end
def delR(l:List Found):List Found×Nat:=dfS l (Z0Q l) (l.length-Z0Q l-1)
def Zoz(l:List Found)(hl:l.length<=1048576)(h:Z0Q l<l.length):CP (blkF f158 0) (Tg.st ⟨tm 42 [(0,.ow 0),(1,.fn 159 []),(5,int (idxF l)),(6,int (idxF l+1))],[(0,.arr 212 4 (l.map Found.dv))],60⟩) .nrm
  (Tg.st ⟨tm 42 [(0,.ow 0),(5,int (delR l).2)],[(0,.arr 212 4 ((delR l).1.map Found.dv))],60⟩):=by
 rw[show idxF l=Z0Q l from if_pos h];have h0:(l.take (Z0Q l)).filter Z2l=l.take (Z0Q l):=Z8e l;have h2:Z2l (l.getD (Z0Q l) M)=La:=Zag h;have hh:=λm hm=>Zj6 h0 h h2 m hm;have:=Z08 (S:=λj=>(delL l (Z0Q l) j).st) (l.length-Z0Q l-1) kr (λj hj=>by
  obtain⟨a1,a2,a3,a4⟩:=hh j oq;cases hk:(((dfS l (Z0Q l) j).1.getD (Z0Q l+1+j) M).hd.K==0)with
  | false=>exact ZoA l (Z0Q l) j hl a1 a2 oq hk
  | true=>exact Zno l (Z0Q l) j hl a1 a2 oq hk) (ZpD l (Z0Q l) _ hl (hh _ oq).1 (hh _ oq).2.1 oq)
 exact this
def ZoC(l:List Found)(hl:l.length<=1048576)(h:Z0Q l<l.length):CP (bdyF f158) (Tg.st ⟨tm 42 [(0,.ow 0),(1,.fn 159 [])],[(0,.arr 212 4 (l.map Found.dv))],1⟩) .ret (Tg.st ⟨tm 42 [(4,.os 0 0 (delR l).2)],[(0,.arr 212 4 (((delR l).1.take (delR l).2++Lj ((delR l).1.length-(delR l).2) noFound).map Found.dv))],60⟩):=by
 have e7:idxF l=Z0Q l:=if_pos h;obtain⟨d1,d2,d3⟩:=ZjH h;have d4:(delR l).1.length=l.length:=d2;have d5:(delR l).2<=l.length:=d3;exact sF [] (fO 6) (Fh 20000 [.els (O Found.dv (Lh (↑(delR l).2:Int).toNat (delR l).1++Lj ((↑(O Found.dv (delR l).1).length:Int).toNat-(↑(delR l).2:Int).toNat) (Found.mk 0 (Header.mk 0 0 0))++LF ((↑(delR l).2:Int).toNat+(Lj ((↑(O Found.dv (delR l).1).length:Int).toNat-(↑(delR l).2:Int).toNat) (Found.mk 0 (Header.mk 0 0 0))).length) (delR l).1))] (Fc 10 (@Zmu l aa) (Ffb 12 (idxF l==(-1:Int)) (Fi 15 (idxF l+1) (Fu (@Zoz l aa aa) (Fa (by(simp only[Lk];omega):0<=(↑(delR l).2:Int)/\(↑(delR l).2:Int)<=(↑(O Found.dv (delR l).1).length:Int)) (Fa (by simp only[Z0M,LB,LS,LQ,List.map_replicate,L8];rfl:Z0M (O Found.dv (delR l).1) (↑(delR l).2:Int).toNat (Lj ((↑(O Found.dv (delR l).1).length:Int).toNat-(↑(delR l).2:Int).toNat) [du64 0,dint 0,dint 0,DV.sc (Value.int IntKind.u32 0)])=O Found.dv (Lh (↑(delR l).2:Int).toNat (delR l).1++Lj ((↑(O Found.dv (delR l).1).length:Int).toNat-(↑(delR l).2:Int).toNat) (Found.mk 0 (Header.mk 0 0 0))++LF ((↑(delR l).2:Int).toNat+(Lj ((↑(O Found.dv (delR l).1).length:Int).toNat-(↑(delR l).2:Int).toNat) (Found.mk 0 (Header.mk 0 0 0))).length) (delR l).1)) (Fa (by simp[*]:0<=(↑(delR l).2:Int)/\(↑(delR l).2:Int)<=(↑(O Found.dv (Lh (↑(delR l).2:Int).toNat (delR l).1++Lj ((↑(O Found.dv (delR l).1).length:Int).toNat-(↑(delR l).2:Int).toNat) (Found.mk 0 (Header.mk 0 0 0))++LF ((↑(delR l).2:Int).toNat+(Lj ((↑(O Found.dv (delR l).1).length:Int).toNat-(↑(delR l).2:Int).toNat) (Found.mk 0 (Header.mk 0 0 0))).length) (delR l).1)).length:Int)) (Fr (212:Int) (Fa (by refine congrArg _ ?_;simp only[Lz,Lk,L8];rw[List.drop_of_length_le oq,LA];rfl:O Found.dv (Lh (↑(delR l).2:Int).toNat (delR l).1++Lj ((↑(O Found.dv (delR l).1).length:Int).toNat-(↑(delR l).2:Int).toNat) (Found.mk 0 (Header.mk 0 0 0))++LF ((↑(delR l).2:Int).toNat+(Lj ((↑(O Found.dv (delR l).1).length:Int).toNat-(↑(delR l).2:Int).toNat) (Found.mk 0 (Header.mk 0 0 0))).length) (delR l).1)=O Found.dv (Lh (delR l).2 (delR l).1++Lj ((delR l).1.length-(delR l).2) noFound)) Fz))))))))))
def Zos(h:Heap)(hw:WOk h.W)(e:(allW h).2=0):Zcx prog 4 (bdyF f107) (Tg.st ⟨tm 17 [(0,h.av)],[],1⟩) (Tg.st ⟨tm 17 [(4,.ow 17008)],[(17008,.arr 212 4 ((allW h).1.map Found.dv))],20⟩):=by
 refine Z4u [((8:Nat),[Hint.call Lb (AV.tu [AV.ow (0:Nat),int (0:Int)]) [Blk.arr 212 (4:Nat) (O Found.dv (allW h).1)]])] [] [] (φ:=GP 156 [h.av] Lb (AV.tu [AV.ow (0:Nat),int (0:Int)]) [Blk.arr 212 (4:Nat) (O Found.dv (allW h).1)]) ?_ kr kr kr kr;exact(@Zlv (h) aa aa)
def Z9z(h:Heap)(hw:WOk h.W)(e:¬ (allW h).2=0):GP 107 [h.av] Lb (.tu [Z01 [],int (allW h).2]) []:=by
 exact gF [] func107 [] (Fc 8 (@Zh8 h aa aa) (Ftb 12 ((allW h).2 != 0) (Fnl Fz)))
end Go.Proofs.YtgedmeaemofdkaaGreat
