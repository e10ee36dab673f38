/-
 The statement GraphSame: part 13.
 Conditions: none.
-/
import Derived.Test.YtgedmeaemofdkaaGreatQ12
set_option maxRecDepth 100000
set_option maxHeartbeats 2000000
set_option linter.all false
open Inhabited renaming default->M
open Bool renaming true->La,false->Lb,and_eq_true->LB
open Or renaming inl->Lc,inr->Le
open List renaming map->Ld,getD_eq_getElem?_getD->Lg,mem_append_left->Lh,mem_append->Li,mem_singleton->Lj,length_set->Lm,getElem?_eq_none->Ln,mem_append_right->Lo,mem_range->Lp,find?_eq_none->Lq,length_replicate->Ls,range->Lt,take->Lv,find?_range_eq_some->Lw,replicate->Ly,length_map->LG,mem_cons->LH,getElem?_replicate->LN,mem_cons_of_mem->LO,mem_map->LQ,mem_of_mem_drop->LR,mem_of_mem_take->LS,eq_nil_iff_forall_not_mem->L1,getElem?_eq_getElem->L2,length->L3,length_append->L4,length_drop->L5,length_take->L6,mem_iff_getElem->L7,mem_or_eq_of_mem_set->L8,mem_replicate->L9
open Decidable renaming decide->Lf,not_not->Lr
open Option renaming some->Lk,none->Lz,getD_none->LU
open Nat renaming le_refl->Ll,lt_trichotomy->LI,add_mul->Xa,le_add_right->Xb,le_trans->Xc,mul_le_mul_right->Xd,one_mul->Xe
open Int renaming toNat->Lu,toNat_natCast->Lx,mul_comm->LC,mul_nonneg->LD,tdiv_eq_ediv_of_nonneg->LF,add_assoc->LL,emod_lt_of_pos->LM,add_zero->LV,emod_nonneg->LW,mul_le_mul_of_nonneg_right->LY,tmod_eq_emod_of_nonneg->LZ,toNat_of_nonneg->L0
open Go.IntKind renaming i64->LA
open Go.Proofs.Tryz
namespace Go.Proofs.YtgedmeaemofdkaaGreat
open Go.Sx
def Z5i{pw s:Int}{l:List Page}{ws:List Int}(h:l.length*pw.toNat<=ws.length):∀ i,i<=l.length->(Z23 pw s l ws i).length=ws.length
 | 0,_=>rfl
 | i+1,hi=>by
  have ih:=Z5i (s:=s) h i oq;have hm:(i+1)*pw.toNat<=l.length*pw.toNat:=Xd _ hi;rw[Xa,Xe]at hm;unfold Z23;split
  .rw[Z3I qo,ih]
  .exact ih
def Z5O(n s:Int)(l:List Page):∀ i:Nat,n<=Z4s n s l i/\Z4s n s l i<=n+i
 | 0=>by simp[Z4s]
 | i+1=>by
  have ih:=Z5O n s l i;unfold Z4s;split<;>omega
def Z1d(w:Work):Work:=⟨⟨w.heap.C,Z23 w.heap.C.pw w.heap.S w.heap.P w.heap.W w.heap.P.length,w.heap.P.map (Z1n w.heap.S),w.heap.S,w.heap.B⟩,w.old,w.T,w.Q,w.D,⟨w.rep.copied,w.rep.kept,w.rep.filled,Z4s w.rep.freed w.heap.S w.heap.P w.heap.P.length,w.rep.cleared,w.rep.steps⟩⟩
def Zm4(w:Work)(ps:List Page)(ws:List Int)(n:Int):CP (rndF f86 0) (ZgG w ps ws n ps.length).st (.ext 0) (Tg.st ⟨tm 78 [(1,.pt 8001 0 0),(2,.pt 8002 0 0)],[(8001,.box 138 [int w.heap.C.pw,int w.heap.C.pg,.ow 24017,.ow 16010,int w.heap.S,int w.heap.B,Z01 w.old,Z0m w.T,Z01 w.Q,int w.D,int w.rep.copied,int w.rep.kept,int w.rep.filled,int n,int w.rep.cleared,int w.rep.steps]),(24017,.arr 35 1 (ws.map wdv)),(16010,.arr 86 4 (ps.map Page.dv)),(8002,.box 138 zW)],60⟩):=by
 exact sF [] [] (FO 24 25 Page.dv ps Fz)
section
variable (w:Work) (hl:w.heap.P.length<=64) (hp:0<=w.heap.C.pw/\w.heap.C.pw<=64) (hs:w.heap.P.length*w.heap.C.pw.toNat<=w.heap.W.length) (hw:w.heap.W.length<=4096) (hr:w.rep.freed=0)
include hl hp hs hw hr
theorem ZkL:CP (blkF f86 0) (Tg.st ⟨tm 78 [(1,.pt 8001 0 0),(2,.pt 8002 0 0),(3,int 0)],[(8001,.box 138 [int w.heap.C.pw,int w.heap.C.pg,.ow 24017,.ow 16010,int w.heap.S,int w.heap.B,Z01 w.old,Z0m w.T,Z01 w.Q,int w.D,int w.rep.copied,int w.rep.kept,int w.rep.filled,int w.rep.freed,int w.rep.cleared,int w.rep.steps]),(24017,.arr 35 1 (w.heap.W.map wdv)),(16010,.arr 86 4 (w.heap.P.map Page.dv)),(8002,.box 138 zW)],60⟩) .nrm (Tg.st ⟨tm 78 [(1,.pt 8001 0 0),(2,.pt 8002 0 0)],[(8001,.box 138 [int w.heap.C.pw,int w.heap.C.pg,.ow 24017,.ow 16010,int w.heap.S,int w.heap.B,Z01 w.old,Z0m w.T,Z01 w.Q,int w.D,int w.rep.copied,int w.rep.kept,int w.rep.filled,int (Z4s w.rep.freed w.heap.S w.heap.P w.heap.P.length),int w.rep.cleared,int w.rep.steps]),(24017,.arr 35 1 ((Z23 w.heap.C.pw w.heap.S w.heap.P w.heap.W w.heap.P.length).map wdv)),(16010,.arr 86 4 ((w.heap.P.map (Z1n w.heap.S)).map Page.dv)),(8002,.box 138 zW)],60⟩):=by
 refine Z0b (S:=λk=>(ZgG w (preM (Z1n w.heap.S) w.heap.P k) (Z23 w.heap.C.pw w.heap.S w.heap.P w.heap.W k) (Z4s w.rep.freed w.heap.S w.heap.P k) k).st) w.heap.P.length kr (λk hk=>?_) ?_
 .have h1:=Z5d (Z1n w.heap.S) w.heap.P k;have h2:=Zb5 (Z1n w.heap.S) w.heap.P (Ll k) M;have h3:=Z5i (s:=w.heap.S) hs k oq;have h4:=Z5O w.rep.freed w.heap.S w.heap.P k;by_cases hb:Z3c w.heap.S (w.heap.P.getD k M)
  .have e1:=Z8S (Z1n w.heap.S) w.heap.P hk M;have e2:Z23 w.heap.C.pw w.heap.S w.heap.P w.heap.W (k+1)=spl (Z23 w.heap.C.pw w.heap.S w.heap.P w.heap.W k) (k*w.heap.C.pw.toNat) (Ly w.heap.C.pw.toNat 0):=by rw[Z23,if_pos hb]
   have e3:Z4s w.rep.freed w.heap.S w.heap.P (k+1)=Z4s w.rep.freed w.heap.S w.heap.P k+1:=by rw[Z4s,if_pos hb]
   rw[Z1n,if_pos hb]at e1;rw[<- e1,e2,e3];have hm:(k+1)*w.heap.C.pw.toNat<=w.heap.P.length*w.heap.C.pw.toNat:=Xd _ hk;rw[Xa,Xe]at hm;exact ZjV w _ _ _ k oq oq (by rw[h2];exact hb) hp oq oq oq
  .have e1:=Zco (Z1n w.heap.S) w.heap.P hk M (by rw[Z1n,if_neg hb]);have e2:Z23 w.heap.C.pw w.heap.S w.heap.P w.heap.W (k+1)=Z23 w.heap.C.pw w.heap.S w.heap.P w.heap.W k:=by rw[Z23,if_neg hb]
   have e3:Z4s w.rep.freed w.heap.S w.heap.P (k+1)=Z4s w.rep.freed w.heap.S w.heap.P k:=by rw[Z4s,if_neg hb]
   rw[<- e1,e2,e3];exact Zkj w _ _ _ k oq oq (by rw[h2];exact hb)
 .have h:=Zm4 w (preM (Z1n w.heap.S) w.heap.P w.heap.P.length) (Z23 w.heap.C.pw w.heap.S w.heap.P w.heap.W w.heap.P.length) (Z4s w.rep.freed w.heap.S w.heap.P w.heap.P.length);rw[Z5d,Zb9]at h;simp only[Zb9];exact h
theorem ZcP:GP 86 [w.av] Lb (Z1d w).av []:=by
 have h1:=Z5i (s:=w.heap.S) hs w.heap.P.length (Ll _);have h2:=Z5O w.rep.freed w.heap.S w.heap.P w.heap.P.length;exact gF [] func86 [] (FAx 6 10 Page.dv w.heap.P (by(simp[Z1d, *];omega)) (FAx 13 17 wdv w.heap.W (by(simp[Z1d, *];omega)) (Fu (@ZkL w aa aa aa aa aa) Fz)))
end
def rep0:Rep:=⟨0,0,0,0,0,0⟩
def Z4C{h:Heap}{l:List Int}(e:Z0j h l=La):Z0R h=⟨0,0,0⟩:=by
 simp only[Z0j,LB,decide_eq_true_eq]at e;exact e.1
section
variable (h:Heap) (s k:List Int) (hw:WOk h.W) (hs:s.length<=1048575) (hk:k.length<=1048575) (hs2:ULe s) (hk2:ULe k)
include hw hs hk hs2 hk2
theorem Zle(hp:Z03 h=Lb):GP 36 [h.av,Z01 s,Z01 k] Lb (.tu [noHeap.av,Z01 [],Z01 [],.ag rep0.cells,int 1]) []:=by
 exact gF [] func36 [] (Fc 20 (@Z0h h) (Ftb 21 (!Z03 h) (Fnl (Fnl (Fnl (Fnl Fz))))))
theorem Zks(hp:Z03 h=La)(hr:Z0j h s=Lb\/Z0j h k=Lb):GP 36 [h.av,Z01 s,Z01 k] Lb (.tu [noHeap.av,Z01 [],Z01 [],.ag rep0.cells,int 19]) []:=by
 by_cases h1:Z0j h s=Lb
 .exact gF [] func36 [] (Fc 20 (@Z0h h) (Ffb 21 (!Z03 h) (Fc 26 (@Z1L h s aa oq) (FcG 31 (!!Z0j h s) (λhg=>by(try simp only[bs]at hg);exact @ZbF h k aa (by(try simp only[bs]at hg);grind[noHeap,rep0])) (Fts 33 (!Z0j h s||La) (Fnl (Fnl (Fnl (Fnl Fz)))))))))
 .have h2:Z0j h k=Lb:=by
   rcases hr with hr | hr
   .exact absurd hr h1
   .exact hr
  exact gF [] func36 [] (Fc 20 (@Z0h h) (Ffb 21 (!Z03 h) (Fc 26 (@Z1L h s aa oq) (FcG 31 (!!Z0j h s) (λhg=>by(try simp only[bs]at hg);exact @Z1L h k aa oq) (Ftb 33 (!Z0j h s||!Z0j h k) (Fnl (Fnl (Fnl (Fnl Fz)))))))))
theorem ZkW(hp:Z03 h=La)(hr:Z0j h s=La)(hr':Z0j h k=La)(e:¬ (rootsF (beginW h) s).2.2=0):GP 36 [h.av,Z01 s,Z01 k] Lb (.tu [noHeap.av,Z01 [],Z01 [],.ag rep0.cells,int (rootsF (beginW h) s).2.2]) []:=by
 have hb:=Z3u hw hp;have hg:=Z4C hr;exact gF [] func36 [] (Fc 20 (@Z0h h) (Ffb 21 (!Z03 h) (Fc 26 (@Z1L h s aa oq) (FcG 31 (!!Z0j h s) (λhg=>by(try simp only[bs]at hg);exact @Z1L h k aa oq) (Ffs 33 (!Z0j h s||!Z0j h k) (Fc 38 (@Z45 h aa aa aa) (Fc 44 (@Z59 (beginW h) s aa aa aa) (Ftb 49 ((rootsF (beginW h) s).2.2 != 0) (Fnl (Fnl (Fnl (Fnl Fz))))))))))))
theorem Zl5(hp:Z03 h=La)(hr:Z0j h s=La)(hr':Z0j h k=La)(e:(rootsF (beginW h) s).2.2=0)(e2:¬ (allF (rootsF (beginW h) s).1).2=0):GP 36 [h.av,Z01 s,Z01 k] Lb (.tu [noHeap.av,Z01 [],Z01 [],.ag rep0.cells,int (allF (rootsF (beginW h) s).1).2]) []:=by
 have hb:=Z3u hw hp;have hi:=Z3j hp;have hg:=Z4C hr;have ho:=Z3n (roots:=s) hb hi e;have ho1:=ho.1;let y0:=rootsF (beginW h) s;exact gF [] func36 [] (Fc 20 (@Z0h h) (Ffb 21 (!Z03 h) (Fc 26 (@Z1L h s aa oq) (FcG 31 (!!Z0j h s) (λhg=>by(try simp only[bs]at hg);exact @Z1L h k aa oq) (Ffs 33 (!Z0j h s||!Z0j h k) (Fc 38 (@Z45 h aa aa aa) (Fc 44 (@Z59 (beginW h) s aa aa aa) (Ffb 49 (y0.2.2 != 0) (Fc 55 (@Zbi (y0.1) aa) (Ftb 59 ((allF y0.1).2 != 0) (Fnl (Fnl (Fnl (Fnl Fz))))))))))))))
end
def Z71(w:Work)(x:Int):Int:=if x=0 then 0 else Z1x w x
def Z9m(w:Work)(x:Int):Work:=⟨w.heap,w.old,w.T,w.Q,w.D,⟨w.rep.copied,w.rep.kept,w.rep.filled,w.rep.freed,if x≠0/\Z1x w x=0 then w.rep.cleared+1 else w.rep.cleared,w.rep.steps⟩⟩
def weakS(w:Work)(k:List Int):Nat->Work
 | 0=>w
 | i+1=>Z9m (weakS w k i) (k.getD i M)
def Z4d(w:Work)(k:List Int):Nat->List Int
 | 0=>[]
 | i+1=>Z4d w k i++[Z71 (weakS w k i) (k.getD i M)]
def Z5n(w:Work)(k:List Int):∀ i,(weakS w k i).heap=w.heap/\(weakS w k i).old=w.old/\(weakS w k i).T=w.T/\(weakS w k i).Q=w.Q/\(weakS w k i).rep.filled=w.rep.filled/\(weakS w k i).rep.freed=w.rep.freed/\w.rep.cleared<=(weakS w k i).rep.cleared/\(weakS w k i).rep.cleared<=w.rep.cleared+i
 | 0=>⟨rfl,rfl,rfl,rfl,rfl,rfl,by simp[weakS],by simp[weakS]⟩
 | i+1=>by
  obtain⟨h1,h2,h3,h4,h5,h6,h7,h8⟩:=Z5n w k i;refine⟨h1,h2,h3,h4,h5,h6, ?_, ?_⟩
  .simp only[weakS,Z9m];split<;>omega
  .simp only[weakS,Z9m];split<;>omega
def Z8U(w:Work)(k:List Int):∀ i,(Z4d w k i).length=i
 | 0=>rfl
 | i+1=>by simp[Z4d,Z8U w k i]
def ZkN(w:Work)(k roots out:List Int)(i:Nat):Tg:=⟨tm 122 [(2,Z01 k),(6,.pt 8006 0 0),(7,.d (.sl 0 [])),(8,.d (.sl 0 [])),(9,.pt 8009 0 0),(10,int 0),(11,.pt 32011 0 0),(13,Z01 roots),(15,.ow 72015),(16,int i)],[(72015,.arr 35 1 (out.map wdv)),(32011,.box 138 w.cells),(8009,.box 73 [int 0,int 0,int 0,int 0,int 0,int 0]),(8006,.box 28 [int 0,int 0,.d (.sl 0 []),.d (.sl 0 []),int 0,int 0])],60⟩
section
variable (w:Work) (k roots out:List Int) (i:Nat) (hw:WOk w.heap.W) (hl:w.heap.W.length<=4096) (hq:w.Q.length<=1048576) (hk:k.length<=1048575) (hx:0<=k.getD i M/\k.getD i M<=18446744073709551615) (ho:out.length<=1048576) (hi:i<k.length) (hc:0<=w.rep.cleared/\w.rep.cleared<=2097152)
include hw hl hq hk hx ho hi hc
theorem Zil:CP (rndF f36 0) (ZkN w k roots out i).st .nrm (ZkN (Z9m w (k.getD i M)) k roots (out++[Z71 w (k.getD i M)]) (i+1)).st:=by
 by_cases h0:k.getD i M=0
 .have e1:Z71 w (k.getD i M)=0:=by rw[Z71,if_pos h0]
  have e2:Z9m w (k.getD i M)=w:=by rw[Z9m,if_neg (by rintro⟨q,_⟩;exact q h0)]
  rw[e1,e2];exact sF [(504091,72015)] [] (Fh 91 [.els (Ld wdv (out++[0]))] (FN 65 66 71 wdv k i (Ffb 73 (k.getD i M != 0) (Fs 90 (Ld wdv [0]) (Fa (by(simp[*];omega):(Ld wdv out).length+(Ld wdv [0]).length<=2^30) (Fa (ms:Ld wdv out++Ld wdv [0]=Ld wdv (out++[0])) (Fx 68 i Fz)))))))
 .have e1:Z71 w (k.getD i M)=Z1x w (k.getD i M):=by rw[Z71,if_neg h0]
  rw[e1];by_cases h2:Z1x w (k.getD i M)=0
  .have e2:Z9m w (k.getD i M)=⟨w.heap,w.old,w.T,w.Q,w.D,⟨w.rep.copied,w.rep.kept,w.rep.filled,w.rep.freed,w.rep.cleared+1,w.rep.steps⟩⟩:=by rw[Z9m,if_pos ⟨h0,h2⟩]
   rw[e2];let y0:=k.getD i M;exact sF [(528091,72015)] [] (Fh 91 [.els (Ld wdv (out++[Z1x w y0]))] (FN 65 66 71 wdv k i (Ftb 73 (k.getD i M != 0) (Fek 77 wdv k (↑i) i (Fc 79 (@Za9 w y0 aa aa aa aa) (Ftb 81 (Z1x w y0==0) (Fi 85 (w.rep.cleared+1) (Fs 90 (Ld wdv [Z1x w y0]) (Fa (by(simp[*];omega):(Ld wdv out).length+(Ld wdv [Z1x w y0]).length<=2^30) (Fa (ms:Ld wdv out++Ld wdv [Z1x w y0]=Ld wdv (out++[Z1x w y0])) (Fx 68 i Fz)))))))))))
  .have e2:Z9m w (k.getD i M)=w:=by rw[Z9m,if_neg (by rintro⟨_,q⟩;exact h2 q)]
   rw[e2];let y1:=k.getD i M;exact sF [(520091,72015)] [] (Fh 91 [.els (Ld wdv (out++[Z1x w y1]))] (FN 65 66 71 wdv k i (Ftb 73 (k.getD i M != 0) (Fek 77 wdv k (↑i) i (Fc 79 (@Za9 w y1 aa aa aa aa) (Ffb 81 (Z1x w y1==0) (Fs 90 (Ld wdv [Z1x w y1]) (Fa (by(simp[*];omega):(Ld wdv out).length+(Ld wdv [Z1x w y1]).length<=2^30) (Fa (ms:Ld wdv out++Ld wdv [Z1x w y1]=Ld wdv (out++[Z1x w y1])) (Fx 68 i Fz))))))))))
end
def ZmP(w:Work)(k roots out:List Int):CP (rndF f36 0) (ZkN w k roots out k.length).st (.ext 0) (Tg.st ⟨tm 122 [(6,.pt 8006 0 0),(7,.d (.sl 0 [])),(8,.d (.sl 0 [])),(9,.pt 8009 0 0),(10,int 0),(11,.pt 32011 0 0),(13,Z01 roots),(15,.ow 72015)],[(72015,.arr 35 1 (out.map wdv)),(32011,.box 138 w.cells),(8009,.box 73 [int 0,int 0,int 0,int 0,int 0,int 0]),(8006,.box 28 [int 0,int 0,.d (.sl 0 []),.d (.sl 0 []),int 0,int 0])],60⟩):=by
 exact sF [] [] (FO 65 66 wdv k Fz)
def Zey(w:Work)(k roots:List Int)(hw:WOk w.heap.W)(hl:w.heap.W.length<=4096)(hq:w.Q.length<=1048576)(hk:k.length<=1048575)(hx:ULe k)(hc:w.rep.cleared=0):CP (blkF f36 0) (ZkN (weakS w k 0) k roots (Z4d w k 0) 0).st .nrm (Tg.st ⟨tm 122 [(6,.pt 8006 0 0),(7,.d (.sl 0 [])),(8,.d (.sl 0 [])),(9,.pt 8009 0 0),(10,int 0),(11,.pt 32011 0 0),(13,Z01 roots),(15,.ow 72015)],[(72015,.arr 35 1 ((Z4d w k k.length).map wdv)),(32011,.box 138 (weakS w k k.length).cells),(8009,.box 73 [int 0,int 0,int 0,int 0,int 0,int 0]),(8006,.box 28 [int 0,int 0,.d (.sl 0 []),.d (.sl 0 []),int 0,int 0])],60⟩):=by
 refine Z0b (S:=λi=>(ZkN (weakS w k i) k roots (Z4d w k i) i).st) k.length kr (λi hi=>?_) (ZmP _ k roots _);have h:=Z5n w k i;exact Zil _ k roots _ i (by rw[h.1];exact hw) (by rw[h.1];exact hl) (by rw[h.2.2.2.1];exact hq) hk (Z4Y hx i) (by rw[Z8U];omega) hi oq
abbrev cB(h:Heap)(s k:List Int):Work:=weakS (allF (rootsF (beginW h) s).1).1 k k.length
abbrev cA(h:Heap)(s k:List Int):Work:=fillN (cB h s k) (cB h s k).old.length
def Zdt{n:Int}(h:0<=n/\n<=255):(decodeH (1+16*n)).1.length=n:=by
 have e:Z2I (1+16*n)=⟨0,n,0⟩:=by
  simp only[Z2I,Header.mk.injEq];omega
 have he:=Z58 h;unfold decodeH;rw[e,he];simp
def Zii{w:Work}(h:CIv w){x:Int}(hx:x∈w.old):CIv (Z5o w x):=by
 unfold Z5o;split
 .rename_i hc;have hr:=h.r x (Lh _ hx);have hh:=Z0f w.heap.W x;have hl:(objW ⟨0,(hdW w x).length,0⟩).length=(hlA w.heap.W x+1).toNat:=by
   show(objW ⟨0,hlA w.heap.W x,0⟩).length=_;simp[objW];omega
  have hin:4096<=x/\x-4096+(objW ⟨0,(hdW w x).length,0⟩).length<=w.heap.W.length:=by omega
  have hlen:(Z0r w.heap.W x (objW ⟨0,(hdW w x).length,0⟩)).1.length=w.heap.W.length:=by
   unfold Z0r;rw[if_pos hin];exact Z3I oq
  have:=h.withWords hlen (λa ha=>?_)
  .exact⟨this.L,this.r,this.s,this.f,this.z⟩
  .by_cases he:a=x
   .subst he;have:hlA (Z0r w.heap.W a (objW ⟨0,(hdW w a).length,0⟩)).1 a=hlA w.heap.W a:=by
     have e1:=Z1Q (b:=a) hin oq;unfold hlA at *;rw[e1];have e2:(objW ⟨0,(hdW w a).length,0⟩).getD (a-a).toNat 0=1+16*(decodeH (loadA w.heap.W a).1).1.length:=by
      rw[Int.sub_self];show(Z0a ⟨0,(hdW w a).length,0⟩).1=_;rw[Z58 (show 0<=(hdW w a).length/\(hdW w a).length<=255 from hh)];rfl
     rw[e2];exact Zdt hh
    omega
   .have s1:=h.s a ha x (Lh _ hx);have s2:=h.s x (Lh _ hx) a ha;have ha0:=Z0f w.heap.W a;have:hlA (Z0r w.heap.W x (objW ⟨0,(hdW w x).length,0⟩)).1 a=hlA w.heap.W a:=by
     have e1:=Z20 (b:=a) hin (by
      rcases Int.lt_or_lt_of_ne he with q | q
      .exact Lc q
      .have:=s2 q;exact Le oq)
     unfold hlA;rw[e1]
    omega
 .exact h
def Zcq{w:Work}(hw:FOk w)(h:CIv w):∀ k,k<=w.old.length->CIv (fillN w k)
 | 0,_=>h
 | k+1,hk=>Zii (Zcq hw h k oq) (by rw[(Z5c w hw k).2.2.2.2.2.1];exact getD_mem_iff.2 ⟨k,by omega,rfl⟩)
def Zc6{w:Work}(h:CIv w)(k:List Int):∀ i,CIv (weakS w k i)
 | 0=>h
 | i+1=>by
  have ih:=Zc6 h k i;exact⟨ih.L,ih.r,ih.s,ih.f,ih.z⟩
def ZbU{w:Work}(h:FOk w)(k:List Int):∀ i,FOk (weakS w k i)
 | 0=>h
 | i+1=>by
  have ih:=ZbU h k i;exact⟨ih.W,ih.wl,ih.pl,ih.ol,ih.o,ih.tl,ih.ql⟩
def cW2(h:Heap)(s:List Int):Work:=(allF (rootsF (beginW h) s).1).1
def cW3(h:Heap)(s k:List Int):Work:=weakS (cW2 h s) k k.length
def cW4(h:Heap)(s k:List Int):Work:=fillN (cW3 h s k) (cW3 h s k).old.length
def cW5(h:Heap)(s k:List Int):Work:=Z1d (cW4 h s k)
def endH(w:Work):Heap:=⟨w.heap.C,w.heap.W,w.heap.P,1-w.heap.S,if 0<w.T.length then Z0S w else -1⟩
structure COk (h:Heap) (s k:List Int):Prop where
 w2:WkOk (cW2 h s)
 i2:CIv (cW2 h s)
 x2:CEx (beginW h) (cW2 h s)
 f3:FOk (cW3 h s k)
 i3:CIv (cW3 h s k)
 r3:(cW3 h s k).rep.filled=0/\(cW3 h s k).rep.freed=0
 f4:FOk (cW4 h s k)
 i4:CIv (cW4 h s k)
 h4:(cW4 h s k).heap.C=h.C/\(cW4 h s k).heap.P=(cW2 h s).heap.P/\(cW4 h s k).heap.S=(cW2 h s).heap.S/\(cW4 h s k).T=(cW2 h s).T/\(cW4 h s k).rep.freed=0
section
variable (h:Heap) (s k:List Int) (hw:WOk h.W) (hp:Z03 h=La) (e:(rootsF (beginW h) s).2.2=0) (e2:(allF (rootsF (beginW h) s).1).2=0)
include hw hp e e2
theorem cOk:COk h s k:=by
 have hb:=Z3u hw hp;have hi:=Z3j hp;have ho:=Z3n (roots:=s) hb hi e;have w2:WkOk (cW2 h s):=ZmG _ ho.1 e2;have i2:=ZeL ho.1 ho.2.1 e2;have x2:CEx (beginW h) (cW2 h s):=ho.2.2.1.trans i2.2;have f3:FOk (cW3 h s k):=ZbU w2.fok k _;have i3:CIv (cW3 h s k):=Zc6 i2.1 k _;obtain⟨a1,a2,a3,a4,a5,a6,a7,a8⟩:=Z5n (cW2 h s) k k.length;have hr0:=w2.r0;have r3:(cW3 h s k).rep.filled=0/\(cW3 h s k).rep.freed=0:=⟨a5.trans hr0.1,a6.trans hr0.2.1⟩
 obtain⟨b0,b1,b2,b3,b4,b5,b6,b7,b8,b9,b10,b11⟩:=Z5c (cW3 h s k) f3 (cW3 h s k).old.length;refine⟨w2,i2.1,x2,f3,i3,r3,b0,Zcq f3 i3 _ (Ll _), ?_, ?_, ?_, ?_, ?_⟩
 .show(fillN (cW3 h s k) (cW3 h s k).old.length).heap.C=_;rw[b1];show(weakS (cW2 h s) k k.length).heap.C=_;rw[a1];exact x2.c
 .show(fillN (cW3 h s k) (cW3 h s k).old.length).heap.P=_;rw[b2];show(weakS (cW2 h s) k k.length).heap.P=_;rw[a1]
 .show(fillN (cW3 h s k) (cW3 h s k).old.length).heap.S=_;rw[b3];show(weakS (cW2 h s) k k.length).heap.S=_;rw[a1]
 .show(fillN (cW3 h s k) (cW3 h s k).old.length).T=_;rw[b6];exact a3
 .show(fillN (cW3 h s k) (cW3 h s k).old.length).rep.freed=_;rw[b8];exact r3.2
theorem cOk5:(cW4 h s k).heap.P.length<=64/\0<=(cW4 h s k).heap.C.pw/\(cW4 h s k).heap.C.pw<=64/\(cW4 h s k).heap.P.length*(cW4 h s k).heap.C.pw.toNat<=(cW4 h s k).heap.W.length/\(cW4 h s k).heap.W.length<=4096:=by
 have c:=cOk h s k hw hp e e2;have po:=Z08 hp;have hL:=c.i4.L;have hpl:=c.w2.pl;have hc2:=c.x2.c;have hc:(cW2 h s).heap.C=h.C:=hc2;rw[hc]at hpl;rw[c.h4.1]at hL;have hl4:=c.f4.wl;rw[c.h4.1,c.h4.2.1];refine⟨by omega,by omega,by omega, ?_,hl4⟩;have:(((cW2 h s).heap.P.length*h.C.pw.toNat:Nat):Int)=h.C.pw*h.C.pg:=by
  rw[Int.natCast_mul,L0 oq,hpl,LC]
 omega
end
def Z0e(h:Heap)(s k:List Int):Heap×List Int×List Int×Rep×Int :=
 if Z03 h=La then
  (if Z0j h s=La/\Z0j h k=La then
   (if(rootsF (beginW h) s).2.2=0 then
    (if(allF (rootsF (beginW h) s).1).2=0 then(endH (cW5 h s k),(rootsF (beginW h) s).2.1,Z4d (cW2 h s) k k.length,(cW5 h s k).rep,0)
    else(noHeap,[],[],rep0,(allF (rootsF (beginW h) s).1).2))
   else(noHeap,[],[],rep0,(rootsF (beginW h) s).2.2))
  else(noHeap,[],[],rep0,19))
 else(noHeap,[],[],rep0,1)
section
variable (h:Heap) (s k:List Int) (hw:WOk h.W) (hs:s.length<=1048575) (hk:k.length<=1048575) (hs2:ULe s) (hk2:ULe k)
include hw hs hk hs2 hk2
theorem ZkQ(hp:Z03 h=La)(hr:Z0j h s=La)(hr':Z0j h k=La)(e:(rootsF (beginW h) s).2.2=0)(e2:(allF (rootsF (beginW h) s).1).2=0):GP 36 [h.av,Z01 s,Z01 k] Lb (.tu [(endH (cW5 h s k)).av,Z01 (rootsF (beginW h) s).2.1,Z01 (Z4d (cW2 h s) k k.length),.ag (cW5 h s k).rep.cells,int 0]) []:=by
 have hb:=Z3u hw hp;have hi:=Z3j hp;have hg:=Z4C hr;have ho:=Z3n (roots:=s) hb hi e;have ho1:=ho.1;have ho4:=ho.2.2.2.2;have c:=cOk h s k hw hp e e2;obtain⟨q1,q2,q3,q4,q5⟩:=cOk5 h s k hw hp e e2;have w2:=c.w2;have f3:=c.f3;have r3:=c.r3.1;obtain⟨g1,g2,g3,g4,g5⟩:=c.h4;have v1:=w2.W;have v2:=w2.wl;have v3:=w2.mu;have v4:=w2.tl;have v5:=w2.sp;have v6:=w2.r0.2.2;have v7:=congrArg L3 g4;have z1:(Z1d (cW4 h s k)).T=(cW4 h s k).T:=rfl;have v8:=congrArg L3 z1;have z2:(Z1d (cW4 h s k)).heap.S=(cW4 h s k).heap.S:=rfl;clear c;unfold cW4 at *;unfold cW3 at *;unfold cW2 at *;rcases bb (Lf (0<(↑(Z1d (fillN (weakS (allF (rootsF (beginW h) s).1).1 k k.length) (weakS (allF (rootsF (beginW h) s).1).1 k k.length).old.length)).T.length:Int)))with hc0 | hc0<;>have hc0p:=hc0<;>simp only[bs]at hc0p
 .rw[show endH (cW5 h s k)=Heap.mk (Z1d (fillN (weakS (allF (rootsF (beginW h) s).1).1 k k.length) (weakS (allF (rootsF (beginW h) s).1).1 k k.length).old.length)).heap.C (Z1d (fillN (weakS (allF (rootsF (beginW h) s).1).1 k k.length) (weakS (allF (rootsF (beginW h) s).1).1 k k.length).old.length)).heap.W (Z1d (fillN (weakS (allF (rootsF (beginW h) s).1).1 k k.length) (weakS (allF (rootsF (beginW h) s).1).1 k k.length).old.length)).heap.P ((1:Int)-(Z1d (fillN (weakS (allF (rootsF (beginW h) s).1).1 k k.length) (weakS (allF (rootsF (beginW h) s).1).1 k k.length).old.length)).heap.S) ((Z1d (fillN (weakS (allF (rootsF (beginW h) s).1).1 k k.length) (weakS (allF (rootsF (beginW h) s).1).1 k k.length).old.length)).T.getD ((↑(Z1d (fillN (weakS (allF (rootsF (beginW h) s).1).1 k k.length) (weakS (allF (rootsF (beginW h) s).1).1 k k.length).old.length)).T.length:Int)-(1:Int)).toNat M)from by(simp only[endH,cW5,cW4,cW3,cW2,Z0S] ;exact sj)];refine gspec_ofE [((20:Nat),[Hint.call La (Sx.bool (Z03 h)) []]),((21:Nat),[Hint.br Lb]),((26:Nat),[Hint.call La (Sx.bool (Z0j h s)) []]),((31:Nat),[Hint.call La (Sx.bool (Z0j h k)) []]),((33:Nat),[Hint.br Lb]),((38:Nat),[Hint.call Lb (AV.tu [(beginW h).av,int (0:Int)]) []]),((44:Nat),[Hint.call Lb (AV.tu [(rootsF (beginW h) s).1.av,Z01 (rootsF (beginW h) s).2.1,int (rootsF (beginW h) s).2.2]) []]),((49:Nat),[Hint.br Lb]),((55:Nat),[Hint.call Lb (AV.tu [(allF (rootsF (beginW h) s).1).1.av,int (allF (rootsF (beginW h) s).1).2]) []]),((59:Nat),[Hint.br Lb]),((15:Nat),[Hint.own]),((93:Nat),[Hint.call Lb (fillN (weakS (allF (rootsF (beginW h) s).1).1 k k.length) (weakS (allF (rootsF (beginW h) s).1).1 k k.length).old.length).av []]),((94:Nat),[Hint.call Lb (Z1d (fillN (weakS (allF (rootsF (beginW h) s).1).1 k k.length) (weakS (allF (rootsF (beginW h) s).1).1 k k.length).old.length)).av []]),((98:Nat),[Hint.int ((1:Int)-(Z1d (fillN (weakS (allF (rootsF (beginW h) s).1).1 k k.length) (weakS (allF (rootsF (beginW h) s).1).1 k k.length).old.length)).heap.S)]),((105:Nat),[Hint.int (↑(Z1d (fillN (weakS (allF (rootsF (beginW h) s).1).1 k k.length) (weakS (allF (rootsF (beginW h) s).1).1 k k.length).old.length)).T.length:Int)]),((107:Nat),[Hint.br La]),((111:Nat),[Hint.int ((↑(Z1d (fillN (weakS (allF (rootsF (beginW h) s).1).1 k k.length) (weakS (allF (rootsF (beginW h) s).1).1 k k.length).old.length)).T.length:Int)-(1:Int))]),((112:Nat),[Hint.el (idv ((Z1d (fillN (weakS (allF (rootsF (beginW h) s).1).1 k k.length) (weakS (allF (rootsF (beginW h) s).1).1 k k.length).old.length)).T.getD ((↑(Z1d (fillN (weakS (allF (rootsF (beginW h) s).1).1 k k.length) (weakS (allF (rootsF (beginW h) s).1).1 k k.length).old.length)).T.length:Int)-(1:Int)).toNat M))])] [((0:Nat),Tg.mk (tm (122:Nat) [((2:Nat),Z01 k),((6:Nat),AV.pt (8006:Nat) (0:Nat) (0:Nat)),((7:Nat),AV.d (DV.sl (0:Nat) [])),((8:Nat),AV.d (DV.sl (0:Nat) [])),((9:Nat),AV.pt (8009:Nat) (0:Nat) (0:Nat)),((10:Nat),int (0:Int)),((11:Nat),AV.pt (32011:Nat) (0:Nat) (0:Nat)),((13:Nat),Z01 (rootsF (beginW h) s).2.1),((15:Nat),AV.ow (72015:Nat)),((16:Nat),int (0:Int))]) [((72015:Nat),Blk.arr 35 (1:Nat) []),((32011:Nat),Blk.box 138 (allF (rootsF (beginW h) s).1).1.cells),((8009:Nat),Blk.box 73 [int (0:Int),int (0:Int),int (0:Int),int (0:Int),int (0:Int),int (0:Int)]),((8006:Nat),Blk.box 28 [int (0:Int),int (0:Int),AV.d (DV.sl (0:Nat) []),AV.d (DV.sl (0:Nat) []),int (0:Int),int (0:Int)])] (60:Nat),Ex.nrm,Tg.mk (tm (122:Nat) [((6:Nat),AV.pt (8006:Nat) (0:Nat) (0:Nat)),((7:Nat),AV.d (DV.sl (0:Nat) [])),((8:Nat),AV.d (DV.sl (0:Nat) [])),((9:Nat),AV.pt (8009:Nat) (0:Nat) (0:Nat)),((10:Nat),int (0:Int)),((11:Nat),AV.pt (32011:Nat) (0:Nat) (0:Nat)),((13:Nat),Z01 (rootsF (beginW h) s).2.1),((15:Nat),AV.ow (72015:Nat))]) [((72015:Nat),Blk.arr 35 (1:Nat) (Ld wdv (Z4d (allF (rootsF (beginW h) s).1).1 k k.length))),((32011:Nat),Blk.box 138 (weakS (allF (rootsF (beginW h) s).1).1 k k.length).cells),((8009:Nat),Blk.box 73 [int (0:Int),int (0:Int),int (0:Int),int (0:Int),int (0:Int),int (0:Int)]),((8006:Nat),Blk.box 28 [int (0:Int),int (0:Int),AV.d (DV.sl (0:Nat) []),AV.d (DV.sl (0:Nat) []),int (0:Int),int (0:Int)])] (60:Nat))] [] dd func36 [] (φ:=GP 65 [h.av] La (Sx.bool (Z03 h)) []/\(!Z03 h)=Lb/\Lb=Lb/\GP 42 [h.av,Z01 s] La (Sx.bool (Z0j h s)) []/\((!!Z0j h s)=La->GP 42 [h.av,Z01 k] La (Sx.bool (Z0j h k)) [])/\(!Z0j h s||!Z0j h k)=Lb/\Lb=Lb/\GP 82 [h.av] Lb (AV.tu [(beginW h).av,int (0:Int)]) []/\GP 83 [(beginW h).av,Z01 s] Lb (AV.tu [(rootsF (beginW h) s).1.av,Z01 (rootsF (beginW h) s).2.1,int (rootsF (beginW h) s).2.2]) []/\((rootsF (beginW h) s).2.2 != (0:Int))=Lb/\Lb=Lb/\GP 84 [(rootsF (beginW h) s).1.av] Lb (AV.tu [(allF (rootsF (beginW h) s).1).1.av,int (allF (rootsF (beginW h) s).1).2]) []/\((allF (rootsF (beginW h) s).1).2 != (0:Int))=Lb/\Lb=Lb/\CP (blkF f36 (0:Nat)) (Tg.mk (tm (122:Nat) [((2:Nat),Z01 k),((6:Nat),AV.pt (8006:Nat) (0:Nat) (0:Nat)),((7:Nat),AV.d (DV.sl (0:Nat) [])),((8:Nat),AV.d (DV.sl (0:Nat) [])),((9:Nat),AV.pt (8009:Nat) (0:Nat) (0:Nat)),((10:Nat),int (0:Int)),((11:Nat),AV.pt (32011:Nat) (0:Nat) (0:Nat)),((13:Nat),Z01 (rootsF (beginW h) s).2.1),((15:Nat),AV.ow (72015:Nat)),((16:Nat),int (0:Int))]) [((72015:Nat),Blk.arr 35 (1:Nat) []),((32011:Nat),Blk.box 138 (allF (rootsF (beginW h) s).1).1.cells),((8009:Nat),Blk.box 73 [int (0:Int),int (0:Int),int (0:Int),int (0:Int),int (0:Int),int (0:Int)]),((8006:Nat),Blk.box 28 [int (0:Int),int (0:Int),AV.d (DV.sl (0:Nat) []),AV.d (DV.sl (0:Nat) []),int (0:Int),int (0:Int)])] (60:Nat)).st Ex.nrm (Tg.mk (tm (122:Nat) [((6:Nat),AV.pt (8006:Nat) (0:Nat) (0:Nat)),((7:Nat),AV.d (DV.sl (0:Nat) [])),((8:Nat),AV.d (DV.sl (0:Nat) [])),((9:Nat),AV.pt (8009:Nat) (0:Nat) (0:Nat)),((10:Nat),int (0:Int)),((11:Nat),AV.pt (32011:Nat) (0:Nat) (0:Nat)),((13:Nat),Z01 (rootsF (beginW h) s).2.1),((15:Nat),AV.ow (72015:Nat))]) [((72015:Nat),Blk.arr 35 (1:Nat) (Ld wdv (Z4d (allF (rootsF (beginW h) s).1).1 k k.length))),((32011:Nat),Blk.box 138 (weakS (allF (rootsF (beginW h) s).1).1 k k.length).cells),((8009:Nat),Blk.box 73 [int (0:Int),int (0:Int),int (0:Int),int (0:Int),int (0:Int),int (0:Int)]),((8006:Nat),Blk.box 28 [int (0:Int),int (0:Int),AV.d (DV.sl (0:Nat) []),AV.d (DV.sl (0:Nat) []),int (0:Int),int (0:Int)])] (60:Nat)).st/\GP 87 [(weakS (allF (rootsF (beginW h) s).1).1 k k.length).av] Lb (fillN (weakS (allF (rootsF (beginW h) s).1).1 k k.length) (weakS (allF (rootsF (beginW h) s).1).1 k k.length).old.length).av []/\GP 86 [(fillN (weakS (allF (rootsF (beginW h) s).1).1 k k.length) (weakS (allF (rootsF (beginW h) s).1).1 k k.length).old.length).av] Lb (Z1d (fillN (weakS (allF (rootsF (beginW h) s).1).1 k k.length) (weakS (allF (rootsF (beginW h) s).1).1 k k.length).old.length)).av []/\LA.wrap ((1:Int)-(Z1d (fillN (weakS (allF (rootsF (beginW h) s).1).1 k k.length) (weakS (allF (rootsF (beginW h) s).1).1 k k.length).old.length)).heap.S)=(1:Int)-(Z1d (fillN (weakS (allF (rootsF (beginW h) s).1).1 k k.length) (weakS (allF (rootsF (beginW h) s).1).1 k k.length).old.length)).heap.S/\(↑(Ld idv (Z1d (fillN (weakS (allF (rootsF (beginW h) s).1).1 k k.length) (weakS (allF (rootsF (beginW h) s).1).1 k k.length).old.length)).T).length:Int)=(↑(Z1d (fillN (weakS (allF (rootsF (beginW h) s).1).1 k k.length) (weakS (allF (rootsF (beginW h) s).1).1 k k.length).old.length)).T.length:Int)/\Lf ((0:Int)<(↑(Z1d (fillN (weakS (allF (rootsF (beginW h) s).1).1 k k.length) (weakS (allF (rootsF (beginW h) s).1).1 k k.length).old.length)).T.length:Int))=La/\La=La/\LA.wrap ((↑(Z1d (fillN (weakS (allF (rootsF (beginW h) s).1).1 k k.length) (weakS (allF (rootsF (beginW h) s).1).1 k k.length).old.length)).T.length:Int)-(1:Int))=(↑(Z1d (fillN (weakS (allF (rootsF (beginW h) s).1).1 k k.length) (weakS (allF (rootsF (beginW h) s).1).1 k k.length).old.length)).T.length:Int)-(1:Int)/\(0:Int)<=(↑(Z1d (fillN (weakS (allF (rootsF (beginW h) s).1).1 k k.length) (weakS (allF (rootsF (beginW h) s).1).1 k k.length).old.length)).T.length:Int)-(1:Int)/\(Ld idv (Z1d (fillN (weakS (allF (rootsF (beginW h) s).1).1 k k.length) (weakS (allF (rootsF (beginW h) s).1).1 k k.length).old.length)).T)[((↑(Z1d (fillN (weakS (allF (rootsF (beginW h) s).1).1 k k.length) (weakS (allF (rootsF (beginW h) s).1).1 k k.length).old.length)).T.length:Int)-(1:Int)).toNat]? = Lk (idv ((Z1d (fillN (weakS (allF (rootsF (beginW h) s).1).1 k k.length) (weakS (allF (rootsF (beginW h) s).1).1 k k.length).old.length)).T.getD ((↑(Z1d (fillN (weakS (allF (rootsF (beginW h) s).1).1 k k.length) (weakS (allF (rootsF (beginW h) s).1).1 k k.length).old.length)).T.length:Int)-(1:Int)).toNat M))) ?_ kr kr;exact⟨(@Z0h (h)),(by(simp only[bs];omega)),rfl,(@Z1L (h) (s) aa oq),(λhg=>by(try simp only[bs]at hg);exact @Z1L (h) (k) (by(try simp only[bs]at hg);assumption) (by(try simp only[bs]at hg);omega)),(by simp only[bs, *,true_or,or_true,true_and,and_true,not_true_eq_false,not_false_eq_true,Bool.true_eq_false,Bool.false_eq_true]),rfl,(@Z45 (h) aa aa aa),(@Z59 (beginW h) (s) aa aa aa),(by(simp only[bs];omega)),rfl,(@Zbi ((rootsF (beginW h) s).1) aa),(by(simp only[bs];omega)),rfl,(@Zey ((allF (rootsF (beginW h) s).1).1) (k) ((rootsF (beginW h) s).2.1) aa aa oq aa aa aa),(@ZcL (weakS (allF (rootsF (beginW h) s).1).1 k k.length) aa aa),(@ZcP (fillN (weakS (allF (rootsF (beginW h) s).1).1 k k.length) (weakS (allF (rootsF (beginW h) s).1).1 k k.length).old.length) aa oq aa aa aa),(by exact wrapI2 rfl oq oq),(by simp only[LG]),aa,rfl,(by exact wrapI2 rfl oq oq),(by exact elI oq oq oq)⟩
 .rw[show endH (cW5 h s k)=Heap.mk (Z1d (fillN (weakS (allF (rootsF (beginW h) s).1).1 k k.length) (weakS (allF (rootsF (beginW h) s).1).1 k k.length).old.length)).heap.C (Z1d (fillN (weakS (allF (rootsF (beginW h) s).1).1 k k.length) (weakS (allF (rootsF (beginW h) s).1).1 k k.length).old.length)).heap.W (Z1d (fillN (weakS (allF (rootsF (beginW h) s).1).1 k k.length) (weakS (allF (rootsF (beginW h) s).1).1 k k.length).old.length)).heap.P ((1:Int)-(Z1d (fillN (weakS (allF (rootsF (beginW h) s).1).1 k k.length) (weakS (allF (rootsF (beginW h) s).1).1 k k.length).old.length)).heap.S) (-1:Int)from by(simp[endH,cW5,cW4,cW3,cW2,Z0S, *];omega)];let y1:=rootsF (beginW h) s;let y0:=weakS (allF y1.1).1 k k.length;let y2:=fillN y0 y0.old.length;exact gF [] func36 [] (Fh 15 [.own] (Fc 20 (@Z0h h) (Ffb 21 (!Z03 h) (Fc 26 (@Z1L h s aa oq) (FcG 31 (!!Z0j h s) (λhg=>by(try simp only[bs]at hg);exact @Z1L h k aa oq) (Ffs 33 (!Z0j h s||!Z0j h k) (Fc 38 (@Z45 h aa aa aa) (Fc 44 (@Z59 (beginW h) s aa aa aa) (Ffb 49 (y1.2.2 != 0) (Fc 55 (@Zbi (y1.1) aa) (Ffb 59 ((allF y1.1).2 != 0) (Fu (@Zey ((allF y1.1).1) k (y1.2.1) aa aa oq aa aa aa) (Fc 93 (@ZcL y0 aa aa) (Fc 94 (@ZcP y2 aa oq aa aa aa) (Fi 98 (1-(Z1d y2).heap.S) (Fl 105 idv (Z1d y2).T (Ff 107 hc0 Fz)))))))))))))))))
end
def pinB(w:WorldM)(i:Nat)(n:Int):WorldM:=⟨⟨w.heap.C,w.heap.W,w.heap.P.set i ⟨(w.heap.P.getD i M).K,(w.heap.P.getD i M).S,(w.heap.P.getD i M).U,(w.heap.P.getD i M).N+n⟩,w.heap.S,w.heap.B⟩,w.G,w.E⟩
def pinI(w:WorldM)(t:Tape):Nat:=(ofA w.heap.C (w.pick t)).1.toNat
def WorldM.pin(w:WorldM)(t:Tape):WorldM :=
  if(ofA w.heap.C (w.pick t)).2.2=0 then
    (if 0<(w.heap.P.getD (pinI w t) M).N/\(w.pickT t).next 2=0 then pinB w (pinI w t) (-1)
     else if 0<(w.heap.P.getD (pinI w t) M).N\/(w.heap.P.getD (pinI w t) M).K=2\/(crowd w.heap.P:Int)<w.heap.C.pg/4 then pinB w (pinI w t) 1 else w)else w
def WorldM.pinT(w:WorldM)(t:Tape):Tape:=if(ofA w.heap.C (w.pick t)).2.2=0/\0<(w.heap.P.getD (pinI w t) M).N then(w.pickT t).step 2 else w.pickT t
def Zkf(w:WorldM)(t:Tape)(hw:WMok w)(ht:TOk t)(ha:t.at'<=1000000)(hv:Z07 w.heap.C=La)(hp:(w.heap.P.length:Int)=w.heap.C.pg)(hpn:∀ j,j<w.heap.P.length->-1048576<=(w.heap.P.getD j M).N/\(w.heap.P.getD j M).N<=4294967296):LP 104 [w.av,.pt 0 0 0] [t.b] (w.pin t).av [(w.pinT t).b]:=by
 have hb:=validB_iff.1 hv;have s1:=ZaH w t;have k1:=Z4J ht s1.2.2 oq oq;have p1:=Z3h hw t;have q1:=hpn (pinI w t);have hcr:=Z3W w.heap.P w.heap.P.length;unfold pinI at q1;have o1:=λe=>Z3x (a:=w.pick t) hv e;by_cases e:(ofA w.heap.C (w.pick t)).2.2=0
 .have o2:=o1 e;by_cases c1:0<(w.heap.P.getD (ofA w.heap.C (w.pick t)).1.toNat M).N
  .have eT:w.pinT t=(w.pickT t).step 2:=by rw[WorldM.pinT,if_pos ⟨e,c1⟩]
   by_cases c2:(w.pickT t).next 2=0
   .have eP:w.pin t=⟨⟨w.heap.C,w.heap.W,w.heap.P.set (ofA w.heap.C (w.pick t)).1.toNat ⟨(w.heap.P.getD (ofA w.heap.C (w.pick t)).1.toNat M).K,(w.heap.P.getD (ofA w.heap.C (w.pick t)).1.toNat M).S,(w.heap.P.getD (ofA w.heap.C (w.pick t)).1.toNat M).U,(w.heap.P.getD (ofA w.heap.C (w.pick t)).1.toNat M).N-1⟩,w.heap.S,w.heap.B⟩,w.G,w.E⟩:=by rw[WorldM.pin,if_pos e,if_pos ⟨c1,c2⟩];rfl
    rw[eP,eT];exact lF func104 [] (Fh 42 [.br La] (Fh 37 [.br La] (Fh 51 [.el (w.heap.P.getD (ofA w.heap.C (w.pick t)).1.toNat M).dv] (Fp 12 (@Z1Z w t aa aa oq) (Fc 18 (@Z4q w.heap.C (w.pick t) oq oq) (Ffb 23 ((ofA w.heap.C (w.pick t)).2.2 != 0) (FA 25 29 Page.dv w.heap.P (Fmq 41 Page.dv w.heap.P ((ofA w.heap.C (w.pick t)).1) (Fb (Lf (0<(w.heap.P.getD (ofA w.heap.C (w.pick t)).1.toNat M).N)=La) (Fp 45 (@Z0x (w.pickT t) (2) aa oq oq) (Fb (((w.pickT t).next (2:Int)==0)=La) (Fa (by exact Z0Z oq:(Ld Page.dv w.heap.P)[(ofA w.heap.C (w.pick t)).1.toNat]? = Lk (w.heap.P.getD (ofA w.heap.C (w.pick t)).1.toNat M).dv) (Fi 52 ((w.heap.P.getD (ofA w.heap.C (w.pick t)).1.toNat M).N-1) (Fa (by exact Z0Z oq:(Ld Page.dv w.heap.P)[(ofA w.heap.C (w.pick t)).1.toNat]? = Lk (w.heap.P.getD (ofA w.heap.C (w.pick t)).1.toNat M).dv) (FS 10054 Page.dv w.heap.P ((ofA w.heap.C (w.pick t)).1.toNat) (Page.mk (w.heap.P.getD (ofA w.heap.C (w.pick t)).1.toNat M).K (w.heap.P.getD (ofA w.heap.C (w.pick t)).1.toNat M).S (w.heap.P.getD (ofA w.heap.C (w.pick t)).1.toNat M).U ((w.heap.P.getD (ofA w.heap.C (w.pick t)).1.toNat M).N-1)) ((w.heap.P.getD (ofA w.heap.C (w.pick t)).1.toNat M).dv) Fz)))))))))))))))
   .have eP:w.pin t=⟨⟨w.heap.C,w.heap.W,w.heap.P.set (ofA w.heap.C (w.pick t)).1.toNat ⟨(w.heap.P.getD (ofA w.heap.C (w.pick t)).1.toNat M).K,(w.heap.P.getD (ofA w.heap.C (w.pick t)).1.toNat M).S,(w.heap.P.getD (ofA w.heap.C (w.pick t)).1.toNat M).U,(w.heap.P.getD (ofA w.heap.C (w.pick t)).1.toNat M).N+1⟩,w.heap.S,w.heap.B⟩,w.G,w.E⟩:=by rw[WorldM.pin,if_pos e,if_neg (λq=>c2 q.2),if_pos (.inl c1)];rfl
    rw[eP,eT];exact lF func104 [] (Fh 42 [.br La] (Fh 37 [.br Lb] (Fh 59 [.el (w.heap.P.getD (ofA w.heap.C (w.pick t)).1.toNat M).dv] (Fh 65 [.el (w.heap.P.getD (ofA w.heap.C (w.pick t)).1.toNat M).dv] (Fh 76 [.int (w.heap.C.pg/4)] (Fh 55 [.br La] (Fh 82 [.el (w.heap.P.getD (ofA w.heap.C (w.pick t)).1.toNat M).dv] (Fp 12 (@Z1Z w t aa aa oq) (Fc 18 (@Z4q w.heap.C (w.pick t) oq oq) (Ffb 23 ((ofA w.heap.C (w.pick t)).2.2 != 0) (FA 25 29 Page.dv w.heap.P (Fmq 41 Page.dv w.heap.P ((ofA w.heap.C (w.pick t)).1) (Fb (Lf (0<(w.heap.P.getD (ofA w.heap.C (w.pick t)).1.toNat M).N)=La) (Fp 45 (@Z0x (w.pickT t) (2) aa oq oq) (Fb (((w.pickT t).next (2:Int)==0)=Lb) (Fa (by exact Z0Z oq:(Ld Page.dv w.heap.P)[(ofA w.heap.C (w.pick t)).1.toNat]? = Lk (w.heap.P.getD (ofA w.heap.C (w.pick t)).1.toNat M).dv) (Fa (by intro hg;(try simp only[bs]at hg);exact Z0Z oq:(!decide (0<(w.heap.P.getD (ofA w.heap.C (w.pick t)).1.toNat M).N))=La->(Ld Page.dv w.heap.P)[(ofA w.heap.C (w.pick t)).1.toNat]? = Lk (w.heap.P.getD (ofA w.heap.C (w.pick t)).1.toNat M).dv) (FcG 71 (!(Lf (0<(w.heap.P.getD (ofA w.heap.C (w.pick t)).1.toNat M).N)||(w.heap.P.getD (ofA w.heap.C (w.pick t)).1.toNat M).K==2)) (λhg=>by(try simp only[bs]at hg);exact @Z7W w.heap oq) (Fa (by intro hg;(try simp only[bs]at hg);rw[wrapI' oq oq];omega:(!(Lf (0<(w.heap.P.getD (ofA w.heap.C (w.pick t)).1.toNat M).N)||(w.heap.P.getD (ofA w.heap.C (w.pick t)).1.toNat M).K==2))=La->LA.wrap (w.heap.C.pg.tdiv 4)=w.heap.C.pg/4) (Fa (by intro hg;(try simp only[bs]at hg);omega:(!(Lf (0<(w.heap.P.getD (ofA w.heap.C (w.pick t)).1.toNat M).N)||(w.heap.P.getD (ofA w.heap.C (w.pick t)).1.toNat M).K==2))=La->(4:Int)=0->False) (Fb ((Lf (0<(w.heap.P.getD (ofA w.heap.C (w.pick t)).1.toNat M).N)||(w.heap.P.getD (ofA w.heap.C (w.pick t)).1.toNat M).K==2||Lf ((↑(crowd w.heap.P):Int)<w.heap.C.pg/4))=La) (Fa (by exact Z0Z oq:(Ld Page.dv w.heap.P)[(ofA w.heap.C (w.pick t)).1.toNat]? = Lk (w.heap.P.getD (ofA w.heap.C (w.pick t)).1.toNat M).dv) (Fi 83 ((w.heap.P.getD (ofA w.heap.C (w.pick t)).1.toNat M).N+1) (Fa (by exact Z0Z oq:(Ld Page.dv w.heap.P)[(ofA w.heap.C (w.pick t)).1.toNat]? = Lk (w.heap.P.getD (ofA w.heap.C (w.pick t)).1.toNat M).dv) (FS 10085 Page.dv w.heap.P ((ofA w.heap.C (w.pick t)).1.toNat) (Page.mk (w.heap.P.getD (ofA w.heap.C (w.pick t)).1.toNat M).K (w.heap.P.getD (ofA w.heap.C (w.pick t)).1.toNat M).S (w.heap.P.getD (ofA w.heap.C (w.pick t)).1.toNat M).U ((w.heap.P.getD (ofA w.heap.C (w.pick t)).1.toNat M).N+1)) ((w.heap.P.getD (ofA w.heap.C (w.pick t)).1.toNat M).dv) Fz)))))))))))))))))))))))))
  .have eT:w.pinT t=w.pickT t:=by rw[WorldM.pinT,if_neg (λq=>c1 q.2)]
   by_cases c3:(w.heap.P.getD (ofA w.heap.C (w.pick t)).1.toNat M).K=2\/(crowd w.heap.P:Int)<w.heap.C.pg/4
   .have eP:w.pin t=⟨⟨w.heap.C,w.heap.W,w.heap.P.set (ofA w.heap.C (w.pick t)).1.toNat ⟨(w.heap.P.getD (ofA w.heap.C (w.pick t)).1.toNat M).K,(w.heap.P.getD (ofA w.heap.C (w.pick t)).1.toNat M).S,(w.heap.P.getD (ofA w.heap.C (w.pick t)).1.toNat M).U,(w.heap.P.getD (ofA w.heap.C (w.pick t)).1.toNat M).N+1⟩,w.heap.S,w.heap.B⟩,w.G,w.E⟩:=by rw[WorldM.pin,if_pos e,if_neg (λq=>c1 q.1),if_pos (.inr c3)];rfl
    rw[eP,eT];exact lF func104 [] (Fh 42 [.br Lb] (Fh 45 [.bor [0] (int ((w.pickT t).next 2)) [((w.pickT t).step 2).b]] (Fh 59 [.el (w.heap.P.getD (ofA w.heap.C (w.pick t)).1.toNat M).dv] (Fh 65 [.el (w.heap.P.getD (ofA w.heap.C (w.pick t)).1.toNat M).dv] (Fh 76 [.int (w.heap.C.pg/4)] (Fh 55 [.br La] (Fh 82 [.el (w.heap.P.getD (ofA w.heap.C (w.pick t)).1.toNat M).dv] (Fp 12 (@Z1Z w t aa aa oq) (Fc 18 (@Z4q w.heap.C (w.pick t) oq oq) (Ffb 23 ((ofA w.heap.C (w.pick t)).2.2 != 0) (FA 25 29 Page.dv w.heap.P (Fmq 41 Page.dv w.heap.P ((ofA w.heap.C (w.pick t)).1) (Fb (Lf (0<(w.heap.P.getD (ofA w.heap.C (w.pick t)).1.toNat M).N)=Lb) (Fa (by exact Z0Z oq:(Ld Page.dv w.heap.P)[(ofA w.heap.C (w.pick t)).1.toNat]? = Lk (w.heap.P.getD (ofA w.heap.C (w.pick t)).1.toNat M).dv) (Fa (by intro hg;(try simp only[bs]at hg);exact Z0Z oq:(!decide (0<(w.heap.P.getD (ofA w.heap.C (w.pick t)).1.toNat M).N))=La->(Ld Page.dv w.heap.P)[(ofA w.heap.C (w.pick t)).1.toNat]? = Lk (w.heap.P.getD (ofA w.heap.C (w.pick t)).1.toNat M).dv) (FcG 71 (!(Lf (0<(w.heap.P.getD (ofA w.heap.C (w.pick t)).1.toNat M).N)||(w.heap.P.getD (ofA w.heap.C (w.pick t)).1.toNat M).K==2)) (λhg=>by(try simp only[bs]at hg);exact @Z7W w.heap oq) (Fa (by intro hg;(try simp only[bs]at hg);rw[LF oq,wrapI' oq oq]:(!(Lf (0<(w.heap.P.getD (ofA w.heap.C (w.pick t)).1.toNat M).N)||(w.heap.P.getD (ofA w.heap.C (w.pick t)).1.toNat M).K==2))=La->LA.wrap (w.heap.C.pg.tdiv 4)=w.heap.C.pg/4) (Fa (by intro hg;(try simp only[bs]at hg);omega:(!(Lf (0<(w.heap.P.getD (ofA w.heap.C (w.pick t)).1.toNat M).N)||(w.heap.P.getD (ofA w.heap.C (w.pick t)).1.toNat M).K==2))=La->(4:Int)=0->False) (Fb ((Lf (0<(w.heap.P.getD (ofA w.heap.C (w.pick t)).1.toNat M).N)||(w.heap.P.getD (ofA w.heap.C (w.pick t)).1.toNat M).K==2||Lf ((↑(crowd w.heap.P):Int)<w.heap.C.pg/4))=La) (Fa (by exact Z0Z oq:(Ld Page.dv w.heap.P)[(ofA w.heap.C (w.pick t)).1.toNat]? = Lk (w.heap.P.getD (ofA w.heap.C (w.pick t)).1.toNat M).dv) (Fi 83 ((w.heap.P.getD (ofA w.heap.C (w.pick t)).1.toNat M).N+1) (Fa (by exact Z0Z oq:(Ld Page.dv w.heap.P)[(ofA w.heap.C (w.pick t)).1.toNat]? = Lk (w.heap.P.getD (ofA w.heap.C (w.pick t)).1.toNat M).dv) (FS 10085 Page.dv w.heap.P ((ofA w.heap.C (w.pick t)).1.toNat) (Page.mk (w.heap.P.getD (ofA w.heap.C (w.pick t)).1.toNat M).K (w.heap.P.getD (ofA w.heap.C (w.pick t)).1.toNat M).S (w.heap.P.getD (ofA w.heap.C (w.pick t)).1.toNat M).U ((w.heap.P.getD (ofA w.heap.C (w.pick t)).1.toNat M).N+1)) ((w.heap.P.getD (ofA w.heap.C (w.pick t)).1.toNat M).dv) Fz)))))))))))))))))))))))
   .have eP:w.pin t=w:=by rw[WorldM.pin,if_pos e,if_neg (λq=>c1 q.1),if_neg (λq=>q.elim c1 c3)]
    rw[eP,eT];exact lF func104 [] (Fh 42 [.br Lb] (Fh 45 [.bor [0] (int ((w.pickT t).next 2)) [((w.pickT t).step 2).b]] (Fh 59 [.el (w.heap.P.getD (ofA w.heap.C (w.pick t)).1.toNat M).dv] (Fh 65 [.el (w.heap.P.getD (ofA w.heap.C (w.pick t)).1.toNat M).dv] (Fh 76 [.int (w.heap.C.pg/4)] (Fh 55 [.br Lb] (Fp 12 (@Z1Z w t aa aa oq) (Fc 18 (@Z4q w.heap.C (w.pick t) oq oq) (Ffb 23 ((ofA w.heap.C (w.pick t)).2.2 != 0) (FA 25 29 Page.dv w.heap.P (Fmq 41 Page.dv w.heap.P ((ofA w.heap.C (w.pick t)).1) (Fb (Lf (0<(w.heap.P.getD (ofA w.heap.C (w.pick t)).1.toNat M).N)=Lb) (Fa (by exact Z0Z oq:(Ld Page.dv w.heap.P)[(ofA w.heap.C (w.pick t)).1.toNat]? = Lk (w.heap.P.getD (ofA w.heap.C (w.pick t)).1.toNat M).dv) (Fa (by intro hg;(try simp only[bs]at hg);exact Z0Z oq:(!decide (0<(w.heap.P.getD (ofA w.heap.C (w.pick t)).1.toNat M).N))=La->(Ld Page.dv w.heap.P)[(ofA w.heap.C (w.pick t)).1.toNat]? = Lk (w.heap.P.getD (ofA w.heap.C (w.pick t)).1.toNat M).dv) (FcG 71 (!(Lf (0<(w.heap.P.getD (ofA w.heap.C (w.pick t)).1.toNat M).N)||(w.heap.P.getD (ofA w.heap.C (w.pick t)).1.toNat M).K==2)) (λhg=>by(try simp only[bs]at hg);exact @Z7W w.heap oq) (Fa (by intro hg;(try simp only[bs]at hg);rw[LF oq,wrapI' oq oq]:(!(Lf (0<(w.heap.P.getD (ofA w.heap.C (w.pick t)).1.toNat M).N)||(w.heap.P.getD (ofA w.heap.C (w.pick t)).1.toNat M).K==2))=La->LA.wrap (w.heap.C.pg.tdiv 4)=w.heap.C.pg/4) (Fa (by intro hg;(try simp only[bs]at hg);omega:(!(Lf (0<(w.heap.P.getD (ofA w.heap.C (w.pick t)).1.toNat M).N)||(w.heap.P.getD (ofA w.heap.C (w.pick t)).1.toNat M).K==2))=La->(4:Int)=0->False) (Fb ((Lf (0<(w.heap.P.getD (ofA w.heap.C (w.pick t)).1.toNat M).N)||(w.heap.P.getD (ofA w.heap.C (w.pick t)).1.toNat M).K==2||Lf ((↑(crowd w.heap.P):Int)<w.heap.C.pg/4))=Lb) Fz))))))))))))))))))
 .have eP:w.pin t=w:=by rw[WorldM.pin,if_neg e]
  have eT:w.pinT t=w.pickT t:=by rw[WorldM.pinT,if_neg (λq=>e q.1)]
  rw[eP,eT];exact lF func104 [] (Fp 12 (@Z1Z w t aa aa oq) (Fc 18 (@Z4q w.heap.C (w.pick t) oq oq) (Ftb 23 ((ofA w.heap.C (w.pick t)).2.2 != 0) Fz)))
def Z70(h:Heap)(s k:List Int)(hw:WOk h.W)(hs:s.length<=1048575)(hk:k.length<=1048575)(hs2:ULe s)(hk2:ULe k):GP 36 [h.av,Z01 s,Z01 k] Lb (.tu [(Z0e h s k).1.av,Z01 (Z0e h s k).2.1,Z01 (Z0e h s k).2.2.1,.ag (Z0e h s k).2.2.2.1.cells,int (Z0e h s k).2.2.2.2]) []:=by
 unfold Z0e;by_cases hp:Z03 h=La
 .rw[if_pos hp];by_cases hr:Z0j h s=La/\Z0j h k=La
  .rw[if_pos hr];by_cases e:(rootsF (beginW h) s).2.2=0
   .rw[if_pos e];by_cases e2:(allF (rootsF (beginW h) s).1).2=0
    .rw[if_pos e2];exact ZkQ h s k hw hs hk hs2 hk2 hp hr.1 hr.2 e e2
    .rw[if_neg e2];exact Zl5 h s k hw hs hk hs2 hk2 hp hr.1 hr.2 e e2
   .rw[if_neg e];exact ZkW h s k hw hs hk hs2 hk2 hp hr.1 hr.2 e
  .rw[if_neg hr];refine Zks h s k hw hs hk hs2 hk2 hp ?_;by_cases q:Z0j h s=La
   .refine Le ?_;have:¬ Z0j h k=La:=λq2=>hr ⟨q,q2⟩;simpa using this
   .exact Lc (by simpa using q)
 .rw[if_neg hp];exact Zle h s k hw hs hk hs2 hk2 (by simpa using hp)
def WorldM.collect(w:WorldM):WorldM:=if(Z0e w.heap w.G w.E).2.2.2.2=0 then⟨(Z0e w.heap w.G w.E).1,(Z0e w.heap w.G w.E).2.1,(Z0e w.heap w.G w.E).2.2.1⟩else w
def ZcC(w:WorldM)(hw:WOk w.heap.W)(hs:w.G.length<=1048575)(hk:w.E.length<=1048575)(hs2:ULe w.G)(hk2:ULe w.E):GP 23 [w.av] Lb w.collect.av []:=by
 by_cases e:(Z0e w.heap w.G w.E).2.2.2.2=0
 .have e7:w.collect=⟨(Z0e w.heap w.G w.E).1,(Z0e w.heap w.G w.E).2.1,(Z0e w.heap w.G w.E).2.2.1⟩:=by rw[WorldM.collect,if_pos e]
  rw[e7];exact gF [] func23 [] (Fc 15 (@Z70 w.heap w.G w.E aa aa aa aa aa) (Ftb 22 ((Z0e w.heap w.G w.E).2.2.2.2==0) Fz))
 .have e7:w.collect=w:=by rw[WorldM.collect,if_neg e]
  rw[e7];exact gF [] func23 [] (Fc 15 (@Z70 w.heap w.G w.E aa aa aa aa aa) (Ffb 22 ((Z0e w.heap w.G w.E).2.2.2.2==0) Fz))
section
variable (P:Work->Prop) (hf:∀ w r,WkOk w->CIv w->P w->(w.fwd r).2.2=0->P (w.fwd r).1)
 (hin:∀ w q j,WkOk w->CIv w->P w->q∈w.Q->0<=j->j<hlA w.heap.W q->(w.fwd (loadA w.heap.W (q+1+j)).1).2.2=0->P (w.in1 (q+1+j))) (hsd:∀ w n,P w->P (ZdP w n))
include hin in
theorem ZhC{w:Work}(hw:WkOk w)(h:CIv w)(hp:P w){q:Int}(hq:q∈w.Q){l:List Int}(hl:∀ x∈l,0<=x/\x<hlA w.heap.W q):∀ k,k<=l.length->(∀ j,j<k->innE w q l j=0)->P (innN w q l k)
 | 0,_,_=>hp
 | k+1,hk,he=>by
  have ih:=ZhC hw h hp hq hl k oq (λj hj=>he j oq);have ok:=(Z47 hw q l k (λj hj=>he j oq)).1;have iv:=Z7z hw h hq hl k oq (λj hj=>he j oq);have hx:=hl _ (getD_mem_iff.2 ⟨k,by omega,rfl⟩);exact hin _ q (l.getD k M) ok iv.1 ih (iv.2.q q hq) hx.1 (by rw[iv.2.l q hq];exact hx.2) (he k oq)
include hin hsd in
theorem ZgV{w:Work}(hw:WkOk w)(h:CIv w)(hp:P w)(e:(Z0G w).2.2=0):P (Z0G w).1:=by
 by_cases hs:w.D<w.Q.length
 .have hsc:=hw.sc;have hq:Z30 w∈w.Q:=getD_mem_iff.2 ⟨w.D.toNat,by omega,rfl⟩;unfold Z0G at e ⊢;rw[if_pos hs]at e ⊢;cases hb:(Lt (Z1K w).length).find? (λk=>Lf (innE w (Z30 w) (Z1K w) k≠0))with
  | none =>
   have h0:∀ j,j<(Z1K w).length->innE w (Z30 w) (Z1K w) j=0:=λj hj=>by
    have:=Lq.1 hb j (Lp.2 hj);simpa using this
   exact hsd _ _ (ZhC P hin hw h hp hq (l:=Z1K w) (Z4L (hdW w (Z30 w))) (Z1K w).length (Ll _) h0)
  | some k =>
   simp only[hb]at e;have:=(Lw.1 hb).1;simp[e]at this
 .have e:Z0G w=(w,Lb,0):=by rw[Z0G,if_neg hs]
  rw[e];exact hp
include hin hsd in
theorem ZjO{w:Work}(hw:WkOk w)(h:CIv w)(hp:P w):∀ k,(∀ j,j<k->Z3b w j=Lb)->P (itW w k)
 | 0,_=>hp
 | k+1,hh=>by
  have ih:=ZjO hw h hp k (λj hj=>hh j oq);have ok:=(Z3M hw k (λj hj=>hh j oq)).1;have iv:=(Z6O hw h k (λj hj=>hh j oq)).1;have hk:=hh k oq;simp only[Z3b,decide_eq_false_iff_not,not_or,Lr]at hk;exact ZgV P hin hsd ok iv ih hk.1
include hin hsd in
theorem Zo8{w:Work}(hw:WkOk w)(h:CIv w)(hp:P w)(e:(allF w).2=0):P (allF w).1:=by
 obtain⟨k,hb⟩:=Z4I hw;obtain⟨h1,h2,h3⟩:=Lw.1 hb;have h0:∀ j,j<k->Z3b w j=Lb:=λj hj=>by simpa using h3 j hj
 unfold allF at e ⊢;rw[hb]at e ⊢;simp only at e ⊢;split at e
 .rename_i c;rw[if_pos c];exact ZgV P hin hsd (Z3M hw k h0).1 (Z6O hw h k h0).1 (ZjO P hin hsd hw h hp k h0) c
 .rename_i c;exact absurd e c
include hf in
theorem Zas{w:Work}{roots:List Int}(hw:WkOk w)(h:CIv w)(hp:P w):∀ k,(∀ j,j<k->Z2q w roots j=0)->P (Z1l w roots k).1
 | 0,_=>hp
 | k+1,hh=>by
  have ih:=Zas hw h hp k (λj hj=>hh j oq);have ok:=(Z2Z (roots:=roots) hw k (λj hj=>hh j oq)).1;have iv:=(Z55 (roots:=roots) hw h k (λj hj=>hh j oq)).1;exact hf _ _ ok iv ih (hh k oq)
include hf in
theorem Zbh{w:Work}{roots:List Int}(hw:WkOk w)(h:CIv w)(hp:P w)(e:(rootsF w roots).2.2=0):P (rootsF w roots).1:=by
 unfold rootsF at e ⊢;cases hb:(Lt roots.length).find? (λk=>Lf (Z2q w roots k≠0))with
 | none =>
  have h0:∀ j,j<roots.length->Z2q w roots j=0:=λj hj=>by
   have:=Lq.1 hb j (Lp.2 hj);simpa using this
  exact Zas P hf hw h hp roots.length h0
 | some k =>
  simp only[hb]at e;have:=(Lw.1 hb).1;simp[e]at this
include hf hin hsd in
theorem Zm0{h:Heap}{s:List Int}(hw:WOk h.W)(hp:Z03 h=La)(h0:P (beginW h))(e:(rootsF (beginW h) s).2.2=0)(e2:(allF (rootsF (beginW h) s).1).2=0):P (cW2 h s):=by
 have hb:=Z3u hw hp;have hi:=Z3j hp;have ho:=Z3n (roots:=s) hb hi e;exact Zo8 P hin hsd ho.1 ho.2.1 (Zbh P hf hb hi h0 e) e2
end
def ZhV{l:List Page}{i k:Nat}(h:∀ m,m<k->i+1+m<l.length/\(l.getD (i+1+m) M).K=3):k<=Z0w l i:=by
 by_cases hc:k<=Z0w l i
 .exact hc
 .have h1:=h (Z0w l i) oq;exact absurd h1.2 (Zff h1.1)
def PT.flip{c:Conf}{l:List Page}(h:PT c l){i:Nat}(hi:i<l.length)(hk:(l.getD i M).K=2){s:Int}(hs:0<=s/\s<=1):PT c (Z0F l i (Z0w l i) s):=by
 have hr:∀ j,i<j->j<=i+Z0w l i->(l.getD j M).K=3:=λj h1 h2=>by
  have:=(Z8Z (l:=l) (i:=i) (m:=j-i-1) oq).2;rwa [show i+1+(j-i-1)=j by omega]at this
 have hg:∀ j,j<l.length->((Z0F l i (Z0w l i) s).getD j M).K=(l.getD j M).K/\((Z0F l i (Z0w l i) s).getD j M).U=(l.getD j M).U/\((Z0F l i (Z0w l i) s).getD j M).N=(l.getD j M).N:=λj hj=>by
  rw[Z1v hj];split
  .exact⟨rfl,rfl,rfl⟩
  .exact⟨rfl,rfl,rfl⟩
 refine⟨?_, ?_, ?_⟩
 .intro j hj;rw[Z1r]at hj;have b:=h.b j hj;rw[Z1v hj];split
  .rename_i hc;refine⟨hs,b.n,b.k,λq=>?_,b.k1,b.k3⟩;exfalso;have q':(l.getD j M).K=0:=q;by_cases hij:j=i
   .subst hij;omega
   .have:=hr j oq hc.2;omega
  .exact b
 .intro j hj hk2;rw[Z1r]at hj ⊢;rw[(hg j hj).1]at hk2;rw[(hg j hj).2.1];have q:=h.lg j hj hk2;refine⟨q.1,λm h1 h2=>?_⟩;have r:=q.2 m h1 h2;refine⟨r.1,by rw[(hg _ r.1).1];exact r.2.1, ?_⟩;rw[Z1v r.1,Z1v hj];by_cases hij:j=i
  .subst hij;have hT:(need c (l.getD j M).U-1).toNat<=Z0w l j:=ZhV λm' hm'=>by
    have:=q.2 (m'+1) oq oq;rw[show j+1+m'=j+(m'+1) by omega];exact⟨this.1,this.2.1⟩
   rw[if_pos oq,if_pos oq];rfl
  .have hj1:¬ (i<=j/\j<=i+Z0w l i):=λhc=>by
    have:=hr j oq hc.2;omega
   have hj2:¬ (i<=j+m/\j+m<=i+Z0w l i):=λhc=>by
    by_cases hlt:j<i
    .by_cases he:j+m=i
     .have:=r.2.1;rw[he]at this;omega
     .have:=(q.2 (i-j) oq oq).2.1;rw[show j+(i-j)=i by omega]at this;omega
    .omega
   rw[if_neg hj1,if_neg hj2];exact r.2.2
 .intro j hj hk3;rw[Z1r]at hj;rw[(hg j hj).1]at hk3;obtain⟨a,a1,a2,a3⟩:=h.tl j hj hk3;exact⟨a,a1,by rw[(hg a oq).1];exact a2,by rw[(hg a oq).2.1];exact a3⟩
structure Tab (B:Int) (w:Work):Prop where
 pt:PT w.heap.C w.heap.P
 tk:∀ x∈w.T,(w.heap.P.getD x.toNat M).S=1-w.heap.S
 pin:∀ p∈w.heap.P,p.N<=B
def Tab.withWords{B:Int}{w:Work}(h:Tab B w)(l:List Int):Tab B ⟨⟨w.heap.C,l,w.heap.P,w.heap.S,w.heap.B⟩,w.old,w.T,w.Q,w.D,w.rep⟩:=⟨h.pt,h.tk,h.pin⟩
def Tab.place{B:Int}(hB:0<=B){w:Work}(hw:WkOk w)(h:Tab B w){n:Int}(hn:1<=n/\n<=w.heap.C.pw)(hc:(w.place n).2.2=La):PT (w.place n).1.heap.C (w.place n).1.heap.P/\(∀ x∈(w.place n).1.T,((w.place n).1.heap.P.getD x.toNat M).S=1-(w.place n).1.heap.S)/\∀ p∈(w.place n).1.heap.P,p.N<=B:=by
 have hsp:=hw.sp;by_cases hf:Z4u w n
 .have e:w.place n=(⟨⟨w.heap.C,w.heap.W,Z2a w.heap.P (Z0S w).toNat n,w.heap.S,w.heap.B⟩,w.old,w.T,w.Q,w.D,w.rep⟩,4096+Z0S w*w.heap.C.pw+(w.heap.P.getD (Z0S w).toNat M).U,La):=by rw[Work.place,if_pos hf]
  unfold Z4u at hf;have hm:=hw.tk _ (Z1s hf.1);have hi:(Z0S w).toNat<w.heap.P.length:=by omega
  have ok:=h.pt.b _ hi;have u:=ok.k1 hm.2.2;rw[e];refine⟨h.pt.setPage hi (Le hm.2.2) ⟨ok.s,ok.n,ok.k,λq=>by simp only at q;omega,λ_=>by simp only;omega,λq=>by simp only at q;omega⟩ (Le hm.2.2), ?_, ?_⟩
  .intro x hx;simp only;rw[Z5b,Z0o hi];split
   .rename_i q;have:=h.tk _ (Z1s hf.1);simp only;omega
   .exact h.tk x hx
  .intro p hp;rcases L8 hp with hp | rfl
   .exact h.pin p hp
   .exact h.pin (w.heap.P.getD (Z0S w).toNat M) (getD_in hi)
 .by_cases hg:0<=Z0q w
  .have e:w.place n=(⟨⟨w.heap.C,w.heap.W,Z2a (Z2w w) (Z0q w).toNat n,w.heap.S,w.heap.B⟩,w.old,w.T++[Z0q w],w.Q,w.D,w.rep⟩,4096+Z0q w*w.heap.C.pw,La):=by rw[Work.place,if_neg hf,if_pos hg]
   obtain⟨g1,g2,g3⟩:=Z3O (h:=⟨w.heap.C,w.heap.W,w.heap.P,1-w.heap.S,w.heap.B⟩) (by simp only;omega) hg n;have g1':Z2a (Z2w w) (Z0q w).toNat n=w.heap.P.set (Z0q w).toNat ⟨1,1-w.heap.S,n,0⟩:=g1;have g2':(w.heap.P.getD (Z0q w).toNat M).K=0:=g2;have g3':(Z0q w).toNat<w.heap.P.length:=g3;rw[e,g1'];refine⟨h.pt.setPage g3' (Lc g2') ⟨by simp only;omega,by simp,by simp,by simp,λ_=>by simp only;omega,by simp⟩ (Le rfl), ?_, ?_⟩
   .intro x hx;simp only at hx ⊢;rw[Z0o g3'];split
    .rfl
    .rename_i hne;rcases Li.1 hx with hx | hx
     .exact h.tk x hx
     .simp at hx;subst hx;exact absurd rfl hne
   .intro p hp;rcases L8 hp with hp | rfl
    .exact h.pin p hp
    .exact hB
  .rw[Work.place,if_neg hf,if_neg hg]at hc;simp at hc
def Tab.fwd{B:Int}(hB:0<=B)(w:Work)(r:Int)(hw:WkOk w)(hi:CIv w)(h:Tab B w)(e:(w.fwd r).2.2=0):Tab B (w.fwd r).1:=by
 unfold Work.fwd at e ⊢;split at e
 .rename_i c1;rw[if_pos c1];exact h
 .rename_i c1;rw[if_neg c1];split at e
  .simp at e
  .rename_i c2;rw[if_neg c2];have c2':r∈w.old:=Lr.1 c2;split at e
   .rename_i c3;rw[if_pos c3];exact h
   .rename_i c3;rw[if_neg c3];split at e
    .simp at e
    .rename_i c4;rw[if_neg c4];split at e
     .rename_i c5;rw[if_pos c5];exact⟨h.pt,h.tk,h.pin⟩
     .rename_i c5;rw[if_neg c5];split at e
      .rename_i c6;rw[if_pos c6];have hsp:=hw.sp;have o:=Z3x hw.C (Lr.1 c4);have hpl:=hw.pl;have hl:Z2l w r<w.heap.P.length:=by unfold Z2l;omega
       refine⟨h.pt.flip hl c6 oq, ?_, ?_⟩
       .intro x hx;have t:=hw.tk x hx;simp only[Work.keep,Work.flip];rw[Z1v oq];split
        .rename_i hc;exfalso;by_cases hx':x.toNat=Z2l w r
         .rw[hx']at t;omega
         .have:=(Z8Z (l:=w.heap.P) (i:=Z2l w r) (m:=x.toNat-Z2l w r-1) oq).2;rw[show Z2l w r+1+(x.toNat-Z2l w r-1)=x.toNat by omega]at this;omega
        .exact h.tk x hx
       .intro p hp;simp only[Work.keep,Work.flip,Z0F,LQ,Lp]at hp;obtain⟨j,hj,rfl⟩:=hp;split
        .exact h.pin (w.heap.P.getD j M) (getD_in hj)
        .exact h.pin (w.heap.P.getD j M) (getD_in hj)
      .rename_i c6;rw[if_neg c6];split at e
       .simp at e
       .rename_i c7;rw[if_neg c7];have c7':(w.place (sizeH (hdW w r))).2.2=La:=by simpa using c7
        have hz:=hi.z r c2';have hs:=Z5W w r;have hp:sizeH (hdW w r)<=w.heap.C.pw:=by
         rw[Z3i];rcases hz with hz | hz
         .exact absurd hz c6
         .exact hz
        obtain⟨q1,q2,q3⟩:=h.place hB hw ⟨hs.1,hp⟩ c7';exact⟨q1,q2,q3⟩
def Z66{B:Int}{h:Heap}(hp:Z03 h=La)(hb:∀ p∈h.P,p.N<=B):Tab B (beginW h):=by
 have hp':=hp;rw[Z1u]at hp';have hs:=hp'.2.2.2.1;refine⟨?_,by simp[beginW], ?_⟩
 .refine hp'.2.2.2.2.2.mapPages _ ?_ ?_ ?_ ?_
  .intro p hp;unfold begQ;split
   .rename_i hc;exact⟨by simp only;omega,hp.n,hp.k,λq=>by simp only at q;omega,hp.k1,λq=>by simp only at q;omega⟩
   .exact hp
  .intro p hp hk;unfold begQ at hk ⊢;split at hk
   .rename_i hc;simp only at hk;omega
   .rename_i hc;rw[if_neg hc];exact⟨hk,rfl⟩
  .intro p hp hk;unfold begQ at hk;split at hk
   .rename_i hc;simp only at hk;omega
   .exact hk
  .intro p q hp hq h2 h3 he;have e1:begQ (1-h.S) p=p:=by rw[begQ,if_neg oq]
   have e2:begQ (1-h.S) q=q:=by rw[begQ,if_neg oq]
   rw[e1,e2];exact⟨⟨λ_=>h3,λ_=>h2⟩,λ_=>he⟩
 .intro p hp;simp only[beginW,LQ]at hp;obtain⟨q,hq,rfl⟩:=hp;unfold begQ;split
  .exact hb q hq
  .exact hb q hq
def Zm2{B:Int}(hB:0<=B){h:Heap}{s:List Int}(hw:WOk h.W)(hp:Z03 h=La)(hb:∀ p∈h.P,p.N<=B)(e:(rootsF (beginW h) s).2.2=0)(e2:(allF (rootsF (beginW h) s).1).2=0):Tab B (cW2 h s) :=
 Zm0 (Tab B) (λw r hw hi h e=>h.fwd hB w r hw hi e) (λw q j hw hi h hq h0 h1 e=>(Tab.fwd hB w _ hw hi h e).withWords _) (λw n h=>⟨h.pt,h.tk,h.pin⟩) hw hp (Z66 hp hb) e e2
structure MOk (w:WorldM) (n:Nat):Prop where
 W:WOk w.heap.W
 hv:Z07 w.heap.C=La
 pl:(w.heap.P.length:Int)=w.heap.C.pg
 L:(w.heap.W.length:Int)=w.heap.C.pw*w.heap.C.pg
 N:∀ j,j<w.heap.P.length->0<=(w.heap.P.getD j M).N/\(w.heap.P.getD j M).N<=n
 us:∀ j,j<w.heap.P.length->0<=(w.heap.P.getD j M).U/\(w.heap.P.getD j M).U<=256
 G:ULe w.G
 E:ULe w.E
 sl:w.G.length<=n
 wl:w.E.length<=n
def MOk.wm{w:WorldM}{n:Nat}(h:MOk w n)(hn:n<=1000000):WMok w:=⟨h.W,h.G,h.E,Xc h.sl oq,Xc h.wl oq⟩
def WorldM.dup(w:WorldM)(t:Tape):WorldM:=⟨w.heap,w.G++[w.pick t],w.E⟩
def WorldM.step(w:WorldM)(t:Tape):WorldM :=
 if t.next 12<=3 then w.put ((t.step 12).header w.heap.C)
 else if t.next 12<=6 then w.link (t.step 12)
 else if t.next 12<=7 then w.pin (t.step 12)
 else if t.next 12<=9 then w.drop (t.step 12)
 else if t.next 12<=10 then w.collect
 else w.dup (t.step 12)
def WorldM.stepT(w:WorldM)(t:Tape):Tape :=
 if t.next 12<=3 then(t.step 12).headerT w.heap.C
 else if t.next 12<=6 then w.linkT (t.step 12)
 else if t.next 12<=7 then w.pinT (t.step 12)
 else if t.next 12<=9 then w.dropT (t.step 12)
 else if t.next 12<=10 then t.step 12
 else w.pickT (t.step 12)
def Z6H(t:Tape)(c:Conf):0<=(t.header c).map/\(t.header c).map<=4294967295:=by
 have h:∀ n:Int,0<=((Z35 t c).step 4).next (2^(min (min n 32) 12).toNat)/\((Z35 t c).step 4).next (2^(min (min n 32) 12).toNat)<=4294967295:=by
  intro n;have p:=Znf (n:=min (min n 32) 12) oq;have r:=Z0P ((Z35 t c).step 4) (n:=2^(min (min n 32) 12).toNat) p.1;omega
 unfold Tape.header;split
 .simp
 .split
  .simp
  .exact h _
def Z1Y(t:Tape)(d:Int)(hd:t.next 12=d)(ht:TOk t):LP 22 [.pt 0 0 0,int 12] [t.b] (int d) [(t.step 12).b]:=by
 rw[<- hd];exact Z0x t 12 ht dd dd
section
variable (w:WorldM) (t:Tape) (n:Nat) (hm:MOk w n) (hn:n<=1000000) (ht:TOk t) (ha:t.at'<=900000)
include hm hn ht ha
theorem ZhQ:LP 54 [w.av,.pt 0 0 0] [t.b] (w.step t).av [(w.stepT t).b]:=by
 have hw:=hm.wm hn;have h1:=hm.W;have h2:=hm.G;have h3:=hm.E;have h4:=hm.sl;have h5:=hm.wl;have s1:=Z3J (t:=t) 12;have k1:=Z4J ht s1.2.2 oq oq;have n1:=Z0P t (n:=12) dd;have hmap:=Z6H (t.step 12) w.heap.C;have hv:=hm.hv;have hpl:=hm.pl;have hpn:∀ j,j<w.heap.P.length->-1048576<=(w.heap.P.getD j M).N/\(w.heap.P.getD j M).N<=4294967296:=λj hj=>by
  have:=hm.N j hj;omega
 have hd:t.next 12=0\/t.next 12=1\/t.next 12=2\/t.next 12=3\/t.next 12=4\/t.next 12=5\/t.next 12=6\/t.next 12=7\/t.next 12=8\/t.next 12=9\/t.next 12=10\/t.next 12=11:=by omega
 rcases hd with hd | hd | hd | hd | hd | hd | hd | hd | hd | hd | hd | hd
 .have e7:w.step t=w.put ((t.step 12).header w.heap.C):=by simp[WorldM.step,hd]
  have e8:w.stepT t=(t.step 12).headerT w.heap.C:=by simp[WorldM.stepT,hd]
  rw[e7,e8];exact lF func54 [] (Fp 6 (@Z1Y t (0) aa aa) (Fp 17 (@Z5j (t.step 12) w.heap.C aa oq aa) (Fc 18 (@Z63 w ((t.step 12).header w.heap.C) aa aa) Fz)))
 .have e7:w.step t=w.put ((t.step 12).header w.heap.C):=by simp[WorldM.step,hd]
  have e8:w.stepT t=(t.step 12).headerT w.heap.C:=by simp[WorldM.stepT,hd]
  rw[e7,e8];exact lF func54 [] (Fp 6 (@Z1Y t (1) aa aa) (Fp 17 (@Z5j (t.step 12) w.heap.C aa oq aa) (Fc 18 (@Z63 w ((t.step 12).header w.heap.C) aa aa) Fz)))
 .have e7:w.step t=w.put ((t.step 12).header w.heap.C):=by simp[WorldM.step,hd]
  have e8:w.stepT t=(t.step 12).headerT w.heap.C:=by simp[WorldM.stepT,hd]
  rw[e7,e8];exact lF func54 [] (Fp 6 (@Z1Y t (2) aa aa) (Fp 17 (@Z5j (t.step 12) w.heap.C aa oq aa) (Fc 18 (@Z63 w ((t.step 12).header w.heap.C) aa aa) Fz)))
 .have e7:w.step t=w.put ((t.step 12).header w.heap.C):=by simp[WorldM.step,hd]
  have e8:w.stepT t=(t.step 12).headerT w.heap.C:=by simp[WorldM.stepT,hd]
  rw[e7,e8];exact lF func54 [] (Fp 6 (@Z1Y t (3) aa aa) (Fp 17 (@Z5j (t.step 12) w.heap.C aa oq aa) (Fc 18 (@Z63 w ((t.step 12).header w.heap.C) aa aa) Fz)))
 .have e7:w.step t=w.link (t.step 12):=by simp[WorldM.step,hd]
  have e8:w.stepT t=w.linkT (t.step 12):=by simp[WorldM.stepT,hd]
  rw[e7,e8];exact lF func54 [] (Fp 6 (@Z1Y t (4) aa aa) (Fp 25 (@Z7S w (t.step 12) aa aa oq) Fz))
 .have e7:w.step t=w.link (t.step 12):=by simp[WorldM.step,hd]
  have e8:w.stepT t=w.linkT (t.step 12):=by simp[WorldM.stepT,hd]
  rw[e7,e8];exact lF func54 [] (Fp 6 (@Z1Y t (5) aa aa) (Fp 25 (@Z7S w (t.step 12) aa aa oq) Fz))
 .have e7:w.step t=w.link (t.step 12):=by simp[WorldM.step,hd]
  have e8:w.stepT t=w.linkT (t.step 12):=by simp[WorldM.stepT,hd]
  rw[e7,e8];exact lF func54 [] (Fp 6 (@Z1Y t (6) aa aa) (Fp 25 (@Z7S w (t.step 12) aa aa oq) Fz))
 .have e7:w.step t=w.pin (t.step 12):=by simp[WorldM.step,hd]
  have e8:w.stepT t=w.pinT (t.step 12):=by simp[WorldM.stepT,hd]
  rw[e7,e8];exact lF func54 [] (Fp 6 (@Z1Y t (7) aa aa) (Fp 30 (@Zkf w (t.step 12) aa aa oq aa oq aa) Fz))
 .have e7:w.step t=w.drop (t.step 12):=by simp[WorldM.step,hd]
  have e8:w.stepT t=w.dropT (t.step 12):=by simp[WorldM.stepT,hd]
  rw[e7,e8];exact lF func54 [] (Fp 6 (@Z1Y t (8) aa aa) (Fp 36 (@Zc5 w (t.step 12) aa aa oq) Fz))
 .have e7:w.step t=w.drop (t.step 12):=by simp[WorldM.step,hd]
  have e8:w.stepT t=w.dropT (t.step 12):=by simp[WorldM.stepT,hd]
  rw[e7,e8];exact lF func54 [] (Fp 6 (@Z1Y t (9) aa aa) (Fp 36 (@Zc5 w (t.step 12) aa aa oq) Fz))
 .have e7:w.step t=w.collect:=by simp[WorldM.step,hd]
  have e8:w.stepT t=t.step 12:=by simp[WorldM.stepT,hd]
  rw[e7,e8];exact lF func54 [] (Fp 6 (@Z1Y t (10) aa aa) (Fc 40 (@ZcC w aa oq oq aa aa) Fz))
 .have e7:w.step t=w.dup (t.step 12):=by simp[WorldM.step,hd]
  have e8:w.stepT t=w.pickT (t.step 12):=by simp[WorldM.stepT,hd]
  rw[e7,e8];exact lF func54 [] (Fh 49 [.els (Ld wdv (w.G++[w.pick (t.step 12)]))] (Fp 6 (@Z1Y t (11) aa aa) (FAx 41 44 wdv w.G (by(simp[WorldM.dup, *];omega)) (Fp 47 (@Z1Z w (t.step 12) aa aa oq) (Fs 48 (Ld wdv [w.pick (t.step 12)]) (Fa (by(simp[WorldM.dup, *];omega):(Ld wdv w.G).length+(Ld wdv [w.pick (t.step 12)]).length<=2^30) (Fa (by simp[WorldM.dup,List.map_take,List.map_drop,List.map_set,List.map_append,wdv,idv]:Ld wdv w.G++Ld wdv [w.pick (t.step 12)]=Ld wdv (w.G++[w.pick (t.step 12)])) Fz)))))))
end
def Z9v{pw s:Int}{l:List Page}{ws:List Int}(h:WOk ws):∀ i,WOk (Z23 pw s l ws i)
 | 0=>h
 | i+1=>by
  have ih:=Z9v (pw:=pw) (s:=s) (l:=l) h i;unfold Z23;split
  .intro x hx;simp only[spl,Li,L9]at hx;rcases hx with(hx | hx) | hx
   .exact ih x (LS hx)
   .omega
   .exact ih x (LR hx)
  .exact ih
def Zmx{c:Conf}{l:List Page}(h:PT c l)(s:Int):PT c (l.map (Z1n s)):=by
 refine h.mapPages _ ?_ ?_ ?_ ?_
 .intro p hp;unfold Z1n;split
  .exact⟨by simp,by simp,by simp,by simp,by simp,by simp⟩
  .exact hp
 .intro p hp hk;unfold Z1n at hk ⊢;split at hk
  .simp at hk
  .rename_i hc;rw[if_neg hc];exact⟨hk,rfl⟩
 .intro p hp hk;unfold Z1n at hk;split at hk
  .simp at hk
  .exact hk
 .intro p q hp hq h2 h3 he;by_cases hg:p.S=s
  .have e1:Z1n s p=⟨0,0,0,0⟩:=by rw[Z1n,if_pos ⟨by omega,hg⟩]
   have e2:Z1n s q=⟨0,0,0,0⟩:=by rw[Z1n,if_pos ⟨by omega,by omega⟩]
   rw[e1,e2];simp
  .have e1:Z1n s p=p:=by rw[Z1n,if_neg (by unfold Z3c;omega)]
   have e2:Z1n s q=q:=by rw[Z1n,if_neg (by unfold Z3c;omega)]
   rw[e1,e2];exact⟨⟨λ_=>h3,λ_=>h2⟩,λ_=>he⟩
def Z8G{w:Work}(hw:WkOk w)(k:List Int):∀ i,∀ x∈Z4d w k i,0<=x/\x<=4294967296
 | 0,x,hx=>by simp[Z4d]at hx
 | i+1,x,hx=>by
  simp only[Z4d,Li,Lj]at hx;rcases hx with hx | rfl
  .exact Z8G hw k i x hx
  .have h:=Z5n w k i;unfold Z71;split
   .omega
   .unfold Z1x;rw[h.2.2.2.1,h.1];split
    .rename_i hq;have:=hw.q _ hq;omega
    .have:=Z65 (Z0E hw.W (k.getD i M)).1;omega
structure ColOk (B:Int) (h:Heap) (s k:List Int):Prop where
 p0:Z03 h=La
 p1:Z03 (Z0e h s k).1=La
 w:WOk (Z0e h s k).1.W
 n:∀ p∈(Z0e h s k).1.P,p.N<=B
 c:(Z0e h s k).1.C=h.C
 r:∀ x∈(Z0e h s k).2.1,0<=x/\x<=4294967296
 rl:(Z0e h s k).2.1.length=s.length
 v:∀ x∈(Z0e h s k).2.2.1,0<=x/\x<=4294967296
 vl:(Z0e h s k).2.2.1.length=k.length
def Z9O{B:Int}(hB:0<=B){h:Heap}{s k:List Int}(hw:WOk h.W)(hb:∀ p∈h.P,p.N<=B)(e:(Z0e h s k).2.2.2.2=0):ColOk B h s k:=by
 by_cases hp:Z03 h=La
 .by_cases hr:Z0j h s=La/\Z0j h k=La
  .by_cases e1:(rootsF (beginW h) s).2.2=0
   .by_cases e2:(allF (rootsF (beginW h) s).1).2=0
    .have e7:Z0e h s k=(endH (cW5 h s k),(rootsF (beginW h) s).2.1,Z4d (cW2 h s) k k.length,(cW5 h s k).rep,0):=by rw[Z0e,if_pos hp,if_pos hr,if_pos e1,if_pos e2]
     have ho:=Z3n (roots:=s) (Z3u hw hp) (Z3j hp) e1;have c:=cOk h s k hw hp e1 e2;have c5:=cOk5 h s k hw hp e1 e2;have tb:=Zm2 hB hw hp hb e1 e2;obtain⟨g1,g2,g3,g4,g5⟩:=c.h4;have hsp:=c.w2.sp;have hc2:(cW2 h s).heap.C=h.C:=c.x2.c;have hpl:=c.w2.pl;rw[hc2]at hpl;have hL:=c.i4.L;rw[g1]at hL;have hfl:=Z5i (s:=(cW4 h s k).heap.S) c5.2.2.2.1 (cW4 h s k).heap.P.length (Ll _);refine⟨hp, ?_, ?_, ?_, ?_, ?_, ?_, ?_, ?_⟩
     .rw[e7,Z1u];simp only[endH,cW5,Z1d,g1,g2,g3,g4];have hptf:=Zmx (s:=(cW2 h s).heap.S) tb.pt;rw[hc2]at hptf;refine⟨(Z08 hp).1, ?_,by simp only[LG];exact hpl,by omega, ?_,hptf⟩
      .rw[g1,g2,g3]at hfl;rw[hfl];exact hL
      .split
       .rename_i ht;have hm:=Z1s (w:=cW2 h s) ht;have t1:=c.w2.tk _ hm;have t2:=tb.tk _ hm;refine Le ⟨t1.1,by simp only[LG];exact t1.2.1, ?_⟩;have hx:(Ld (Z1n (cW2 h s).heap.S) (cW2 h s).heap.P).getD (Z0S (cW2 h s)).toNat M=(cW2 h s).heap.P.getD (Z0S (cW2 h s)).toNat M:=by
         have hi:(Z0S (cW2 h s)).toNat<(cW2 h s).heap.P.length:=by omega
         have:(Ld (Z1n (cW2 h s).heap.S) (cW2 h s).heap.P).getD (Z0S (cW2 h s)).toNat M=Z1n (cW2 h s).heap.S ((cW2 h s).heap.P.getD (Z0S (cW2 h s)).toNat M):=by simp[Lg,hi]
         rw[this,Z1n,if_neg (by unfold Z3c;omega)]
        show((Ld (Z1n (cW2 h s).heap.S) (cW2 h s).heap.P).getD (Z0S (cW2 h s)).toNat M).K=1;rw[hx];exact t1.2.2
       .exact Lc rfl
     .rw[e7];exact Z9v c.f4.W _
     .rw[e7];intro p hp';simp only[endH,cW5,Z1d,g2,LQ]at hp';obtain⟨q,hq,rfl⟩:=hp';unfold Z1n;split
      .exact hB
      .exact tb.pin q hq
     .rw[e7];exact g1
     .rw[e7];exact ho.2.2.2.1
     .rw[e7];exact ho.2.2.2.2
     .rw[e7];exact Z8G c.w2 k _
     .rw[e7];exact Z8U _ _ _
    .rw[Z0e,if_pos hp,if_pos hr,if_pos e1,if_neg e2]at e;exact absurd e e2
   .rw[Z0e,if_pos hp,if_pos hr,if_neg e1]at e;exact absurd e e1
  .rw[Z0e,if_pos hp,if_neg hr]at e;simp at e
 .rw[Z0e,if_neg hp]at e;simp at e
def Zdy{h:Heap}(hp:Z03 h=La):∀ p∈h.P,0<=p.N:=by
 rw[Z1u]at hp;intro p hp';obtain⟨i,hi,e⟩:=L7.1 hp';have:=(hp.2.2.2.2.2.b i hi).n.1;rwa [show h.P.getD i M=p by rw[Lg,L2 hi,e];rfl]at this
def MOk.of_proper{w:WorldM}{n:Nat}(hp:Z03 w.heap=La)(hw:WOk w.heap.W)(hn:∀ p∈w.heap.P,p.N<=n)(h1:ULe w.G)(h2:ULe w.E)(h3:w.G.length<=n)(h4:w.E.length<=n):MOk w n:=by
 have po:=Z08 hp;exact⟨hw,po.1,po.2.2.2.2.2.2.2.1,po.2.2.2.2.2.1,λj hj=>⟨Zdy hp _ (getD_in hj),hn _ (getD_in hj)⟩,λj hj=>by have:=Z0J hp hj;omega,h1,h2,h3,h4⟩
def MOk.pin_mem{w:WorldM}{n:Nat}(h:MOk w n):∀ p∈w.heap.P,0<=p.N/\p.N<=n:=by
 intro p hp;obtain⟨i,hi,e⟩:=L7.1 hp;have:=h.N i hi;rwa [show w.heap.P.getD i M=p by rw[Lg,L2 hi,e];rfl]at this
def MOk.mono{w:WorldM}{n:Nat}(h:MOk w n):MOk w (n+1) :=
 ⟨h.W,h.hv,h.pl,h.L,λj hj=>by have:=h.N j hj;omega,h.us,h.G,h.E,by have:=h.sl;omega,by have:=h.wl;omega⟩
def Ze5{l:List Int}(h:ULe l){x:Int}(hx:0<=x/\x<=18446744073709551615):ULe (l++[x]):=by
 intro y hy;simp only[Li,Lj]at hy;rcases hy with hy | rfl
 .exact h y hy
 .exact hx
def MOk.put{w:WorldM}{n:Nat}(h:MOk w n){hd:Header}(hm:0<=hd.map/\hd.map<=4294967295):MOk (w.put hd) (n+1):=by
 unfold WorldM.put;split
 .rename_i e;obtain⟨k1,k2,k3,k4,k5,k6,k7,k8⟩:=ZhZ h.W hm e;have po:=Z08 k1;have hl:=h.sl;have hl2:=h.wl;have z:=(Z7w k2).2.1;have a1:=k3.lo;have a2:=k3.hi;refine MOk.of_proper k7 k8 ?_ (Ze5 h.G (by rw[k5];omega)) h.E qo (by simp only;omega);intro p hp;simp only at hp;rw[k6]at hp;simp only at hp;rcases k3.pin p hp with q | ⟨q,q1,q2⟩
  .omega
  .have:=h.pin_mem q q1;omega
 .exact h.mono
def MOk.link{w:WorldM}{n:Nat}(h:MOk w n)(hn:n<=1000000)(t:Tape):MOk (w.link t) (n+1):=by
 unfold WorldM.link;split
 .rename_i hc;have g:=Z4l hc.1;have hw:=h.wm hn;have hlen:1<=(getH w.heap (w.pick t)).1.length:=by omega
  have n1:=Z0P (w.pickT (w.pickT t)) (n:=8) dd;have hi:0<=Z5H w t/\Z5H w t<(getH w.heap (w.pick t)).1.length:=by
   unfold Z5H;rw[LZ n1.1];exact⟨LW _ oq,LM _ oq⟩
  have hv:0<=Z62 w t/\Z62 w t<=18446744073709551615:=by
   unfold Z62;split
   .exact Z3h hw _
   .have:=Z0P ((w.pickT (w.pickT t)).step 8) (n:=1048576) dd;omega
  obtain⟨s1,s2,s3⟩:=Z7X h.W hv hc.1 hi;have hl:=h.sl;have hl2:=h.wl;refine MOk.of_proper s2 s3 ?_ h.G h.E (by simp only;omega) (by simp only;omega);intro p hp;simp only at hp;rw[s1]at hp;have:=h.pin_mem p hp;omega
 .exact h.mono
def ZiJ{w:WorldM}{n:Nat}(h:MOk w n){i:Nat}(hi:i<w.heap.P.length){d:Int}(hd:d=1\/(d=-1/\0<(w.heap.P.getD i M).N)):MOk (pinB w i d) (n+1):=by
 have hp:=h.N i hi;refine⟨h.W,h.hv, ?_,h.L, ?_, ?_,h.G,h.E,by have:=h.sl;simp only[pinB];omega,by have:=h.wl;simp only[pinB];omega⟩
 .simp only[pinB,Lm];exact h.pl
 .intro j hj;simp only[pinB,Lm]at hj ⊢;rw[Z0o hi];split
  .simp only;omega
  .have:=h.N j hj;omega
 .intro j hj;simp only[pinB,Lm]at hj ⊢;rw[Z0o hi];split
  .exact h.us i hi
  .exact h.us j hj
def MOk.pin{w:WorldM}{n:Nat}(h:MOk w n)(t:Tape):MOk (w.pin t) (n+1):=by
 unfold WorldM.pin;split
 .rename_i e;have o:=Z3x h.hv e;have hpl:=h.pl;have hi:pinI w t<w.heap.P.length:=by unfold pinI;omega
  split
  .rename_i hc;exact ZiJ h hi (Le ⟨rfl,hc.1⟩)
  .split
   .exact ZiJ h hi (Lc rfl)
   .exact h.mono
 .exact h.mono
def MOk.drop{w:WorldM}{n:Nat}(h:MOk w n)(t:Tape):MOk (w.drop t) (n+1):=by
 unfold WorldM.drop;split
 .have hl:=h.sl;have hl2:=h.wl;refine⟨h.W,h.hv,h.pl,h.L,λj hj=>by have:=h.N j hj;simp only;omega,h.us, ?_, ?_, ?_, ?_⟩
  .intro x hx;rcases Li.1 hx with hx | hx
   .exact h.G x (LS hx)
   .exact h.G x (LR hx)
  .simp only;split
   .exact Ze5 h.E (Z4Y h.G _)
   .exact h.E
  .simp only[L4,L6,L5];omega
  .simp only;split
   .simp;omega
   .omega
 .exact h.mono
def MOk.collect{w:WorldM}{n:Nat}(h:MOk w n):MOk w.collect (n+1):=by
 unfold WorldM.collect;split
 .rename_i e;have c:=Z9O (B:=n) oq h.W (λp hp=>(h.pin_mem p hp).2) e;have hl:=h.sl;have hl2:=h.wl;refine MOk.of_proper c.p1 c.w (λp hp=>by have:=c.n p hp;omega) (λx hx=>by have:=c.r x hx;omega) (λx hx=>by have:=c.v x hx;omega) (by simp only[c.rl];omega) (by simp only[c.vl];omega)
 .exact h.mono
def MOk.step{w:WorldM}{n:Nat}(h:MOk w n)(hn:n<=1000000)(t:Tape):MOk (w.step t) (n+1):=by
 unfold WorldM.step;repeat' split
 .exact h.put (Z6H _ _)
 .exact h.link hn _
 .exact h.pin _
 .exact h.drop _
 .exact h.collect
 .have hl:=h.sl;have hl2:=h.wl;exact⟨h.W,h.hv,h.pl,h.L,λj hj=>by have:=h.N j hj;simp only[WorldM.dup]at *;omega,h.us,Ze5 h.G (Z3h (h.wm hn) _),h.E,by simp only[WorldM.dup,L4,List.length_singleton];omega,by simp only[WorldM.dup];omega⟩
def pgOf(w:Work)(x:Int):Page:=w.heap.P.getD (ofA w.heap.C x).1.toNat M
structure Rt (w:Work):Prop where
 q:∀ x∈w.Q,((pgOf w x).K=1\/(pgOf w x).K=2)/\(pgOf w x).S=1-w.heap.S
 t:∀ x∈w.old,(Z0n (loadA w.heap.W x).1).2=La->(Z0n (loadA w.heap.W x).1).1∈w.Q
def Z9C{a:Int}(h0:0<=a)(h1:a<4294967296):Z0n (4*a+2)=(a,La):=by
 have e:(4*a+2)/4=a:=by omega
 rw[Z0n,if_pos oq,e]
def Rt.copy{B:Int}{w:Work}(hw:WkOk w)(h:CIv w)(hT:Tab B w)(hR:Rt w){r n:Int}(hr:r∈w.old)(hq:r∉w.Q)(hn:n=hlA w.heap.W r+1)(hp:n<=w.heap.C.pw)(hc:(w.place n).2.2=La):Rt ((w.place n).1.copy r (w.place n).2.1 n):=by
 have hlr:=Z0f w.heap.W r;obtain⟨i,p,t,h1,h2,h3,h4,h5,h6,h7,h8,e⟩:=Z5e hw ⟨by omega,hp⟩ hc;have hsp:p.S=1-w.heap.S:=by
  by_cases hf:Z4u w n
  .have e7:w.place n=(⟨⟨w.heap.C,w.heap.W,Z2a w.heap.P (Z0S w).toNat n,w.heap.S,w.heap.B⟩,w.old,w.T,w.Q,w.D,w.rep⟩,4096+Z0S w*w.heap.C.pw+(w.heap.P.getD (Z0S w).toNat M).U,La):=by rw[Work.place,if_pos hf]
   unfold Z4u at hf;have hm:=hw.tk _ (Z1s hf.1);have ht:=hT.tk _ (Z1s hf.1);have hi:(Z0S w).toNat<w.heap.P.length:=by omega
   rw[e7]at e;simp only[Z5b,Work.mk.injEq,Heap.mk.injEq]at e;have e2:=e.1.2.2.1;have g1:(w.heap.P.set i p).getD i M=p:=by rw[Z0o h1,if_pos rfl]
   rw[<- e2,Z0o hi]at g1;split at g1
   .rw[<- g1];exact ht
   .rename_i hne;have g2:(w.heap.P.set i p).getD (Z0S w).toNat M=w.heap.P.getD (Z0S w).toNat M:=by rw[Z0o h1,if_neg (λq=>hne q.symm)]
    rw[<- e2,Z0o hi,if_pos rfl]at g2;have:=congrArg Page.U g2;simp only at this;omega
  .by_cases hg:0<=Z0q w
   .have e7:w.place n=(⟨⟨w.heap.C,w.heap.W,Z2a (Z2w w) (Z0q w).toNat n,w.heap.S,w.heap.B⟩,w.old,w.T++[Z0q w],w.Q,w.D,w.rep⟩,4096+Z0q w*w.heap.C.pw,La):=by rw[Work.place,if_neg hf,if_pos hg]
    obtain⟨g1,g2,g3⟩:=Z3O (h:=⟨w.heap.C,w.heap.W,w.heap.P,1-w.heap.S,w.heap.B⟩) (by have:=hw.sp;simp only;omega) hg n;have g1':Z2a (Z2w w) (Z0q w).toNat n=w.heap.P.set (Z0q w).toNat ⟨1,1-w.heap.S,n,0⟩:=g1;have g2':(w.heap.P.getD (Z0q w).toNat M).K=0:=g2;have g3':(Z0q w).toNat<w.heap.P.length:=g3;rw[e7,g1']at e;simp only[Work.mk.injEq,Heap.mk.injEq]at e;have e2:=e.1.2.2.1;have k1:(w.heap.P.set i p).getD i M=p:=by rw[Z0o h1,if_pos rfl]
    rw[<- e2,Z0o g3']at k1;split at k1
    .rw[<- k1]
    .rename_i hne;have k2:(w.heap.P.set i p).getD (Z0q w).toNat M=w.heap.P.getD (Z0q w).toNat M:=by rw[Z0o h1,if_neg (λq=>hne q.symm)]
     rw[<- e2,Z0o g3',if_pos rfl]at k2;rw[<- k2]at g2';simp at g2'
   .rw[Work.place,if_neg hf,if_neg hg]at hc;simp at hc
 have hb:=validB_iff.1 hw.C;have hpl:=hw.pl;have hL:=h.L;have hio:(i:Int)*w.heap.C.pw+w.heap.C.pw<=w.heap.C.pw*w.heap.C.pg:=by
  have:=Z11 (i:=i) (j:=w.heap.C.pg) (pw:=w.heap.C.pw) oq oq;rw[LC w.heap.C.pw];exact this
 have hi0:0<=(i:Int)*w.heap.C.pw:=LD oq oq;have har:=area hw.C;rw[e,h8];generalize hu:occP (w.heap.P.getD i M)=u at *;have hof:(ofA w.heap.C (4096+(i:Int)*w.heap.C.pw+u)).1.toNat=i:=by
  have:=Zem (c:=w.heap.C) (i:=i) (o:=u) hw.C oq oq;rw[show 4096+(i:Int)*w.heap.C.pw+u=4096+((i:Int)*w.heap.C.pw+u) by omega,this];simp
 generalize ha:4096+(i:Int)*w.heap.C.pw+u=at' at *;have hrr:=h.r r (Lh _ hr);have hf:=h.f i h1 (by rcases h2 with h2 | h2;exact Lc h2;exact Le h2.1);rw[hu]at hf;obtain⟨m1,m2,m3⟩:=Z8v (ws:=w.heap.W) (a:=at') (b:=r) (n:=n) oq oq oq;have hsr:4096<=r/\r<4096+(moveA w.heap.W at' r n).1.length:=by omega
 refine⟨?_, ?_⟩
 .intro x hx;simp only[Work.copy,Li,Lj]at hx;simp only[pgOf,Work.copy];rw[Z0o h1];split
  .exact⟨Lc h3,hsp⟩
  .rename_i hne;rcases hx with hx | rfl
   .exact hR.q x hx
   .exact absurd hof.symm hne
 .intro x hx ht;simp only[Work.copy]at hx ht ⊢;by_cases hxr:x=r
  .subst hxr;rw[Z2E hsr]at ht ⊢;simp only;rw[Z9C oq oq];simp
  .have hfx:=hf x (Lh _ hx);have hlx:=Z0f w.heap.W x;have el:loadA (Z0D (moveA w.heap.W at' r n).1 r (4*at'+2)).1 x=loadA w.heap.W x:=by rw[Z0A hsr hxr,m3 x oq]
   rw[el]at ht ⊢;exact Lh _ (hR.t x hx ht)
structure PR (B:Int) (w:Work):Prop where
 tab:Tab B w
 rt:Rt w
def ToOk(w:Work)(x:Int):Prop:=x=0\/x∈w.Q
def ZlB{B:Int}(w:Work)(r:Int)(hp:PR B w)(e:(w.fwd r).2.2=0):ToOk (w.fwd r).1 (w.fwd r).2.1:=by
 unfold Work.fwd at e ⊢;split at e
 .rename_i c1;rw[if_pos c1];exact c1
 .rename_i c1;rw[if_neg c1];split at e
  .simp at e
  .rename_i c2;rw[if_neg c2];have c2':r∈w.old:=Lr.1 c2;split at e
   .rename_i c3;rw[if_pos c3];exact Le (hp.rt.t r c2' c3)
   .rename_i c3;rw[if_neg c3];split at e
    .simp at e
    .rename_i c4;rw[if_neg c4];split at e
     .rename_i c5;rw[if_pos c5];exact Le (Lo _ pq)
     .rename_i c5;rw[if_neg c5];split at e
      .rename_i c6;rw[if_pos c6];exact Le (Lo _ pq)
      .rename_i c6;rw[if_neg c6];split at e
       .simp at e
       .rename_i c7;rw[if_neg c7];exact Le (Lo _ pq)
def PR.fwd{B:Int}(hB:0<=B)(w:Work)(r:Int)(hw:WkOk w)(hi:CIv w)(h:PR B w)(e:(w.fwd r).2.2=0):PR B (w.fwd r).1:=by
 refine⟨h.tab.fwd hB w r hw hi e, ?_⟩;have hR:=h.rt;have hsp:=hw.sp;unfold Work.fwd at e ⊢;split at e
 .rename_i c1;rw[if_pos c1];exact hR
 .rename_i c1;rw[if_neg c1];have c1':r∉w.Q:=λh=>c1 (Le h);split at e
  .simp at e
  .rename_i c2;rw[if_neg c2];have c2':r∈w.old:=Lr.1 c2;split at e
   .rename_i c3;rw[if_pos c3];exact hR
   .rename_i c3;rw[if_neg c3];split at e
    .simp at e
    .rename_i c4;rw[if_neg c4];have o:=Z3x hw.C (Lr.1 c4);have hpl:=hw.pl;split at e
     .rename_i c5;rw[if_pos c5];simp only[Z1b,decide_eq_true_eq]at c5;have ok:=h.tab.pt.b (ofA w.heap.C r).1.toNat oq
      have oks:=ok.s;refine⟨?_,λx hx ht=>Lh _ (hR.t x hx ht)⟩;intro x hx;simp only[Work.keep,Li,Lj]at hx;rcases hx with hx | rfl
      .exact hR.q x hx
      .refine⟨Lc c5.2.2.1, ?_⟩;simp only[pgOf,Work.keep];omega
     .rename_i c5;rw[if_neg c5];split at e
      .rename_i c6;rw[if_pos c6];refine⟨?_,λx hx ht=>Lh _ (hR.t x hx ht)⟩;have hlr:(ofA w.heap.C r).1.toNat<w.heap.P.length:=by omega
       intro x hx;simp only[Work.keep,Li,Lj]at hx;have hxl:(ofA w.heap.C x).1.toNat<w.heap.P.length:=by
        rcases hx with hx | rfl
        .by_cases q:(ofA w.heap.C x).1.toNat<w.heap.P.length
         .exact q
         .have:=(hR.q x hx).1;rw[pgOf,Lg,Ln oq]at this;simp only[LU]at this;have d:(M:Page).K=0:=rfl;omega
        .exact hlr
       simp only[pgOf,Work.keep,Work.flip];rw[Z1v hxl];split
       .refine⟨?_,rfl⟩;rcases hx with hx | rfl
        .exact(hR.q x hx).1
        .exact Le c6
       .rename_i hne;rcases hx with hx | rfl
        .exact hR.q x hx
        .exact absurd ⟨Ll _,Xb _ _⟩ hne
      .rename_i c6;rw[if_neg c6];split at e
       .simp at e
       .rename_i c7;rw[if_neg c7];have c7':(w.place (sizeH (hdW w r))).2.2=La:=by simpa using c7
        have hz:=hi.z r c2';have hp:sizeH (hdW w r)<=w.heap.C.pw:=by
         rw[Z3i];rcases hz with hz | hz
         .exact absurd hz c6
         .exact hz
        exact hR.copy hw hi h.tab c2' c1' (Z3i w r) hp c7'
def PR.in1{B:Int}(hB:0<=B)(w:Work)(q j:Int)(hw:WkOk w)(hi:CIv w)(h:PR B w)(hq:q∈w.Q)(h0:0<=j)(h1:j<hlA w.heap.W q)(e:(w.fwd (loadA w.heap.W (q+1+j)).1).2.2=0):PR B (w.in1 (q+1+j)):=by
 have hf:=PR.fwd hB w _ hw hi h e;obtain⟨i1,x1⟩:=Z6Q hw hi _ e;have hq1:=x1.q q hq;have hl1:=x1.l q hq;have hr:=i1.r q (Lo _ hq1);have hs:=i1.s q (Lo _ hq1);have hin:4096<=q+1+j/\q+1+j<4096+(w.fwd (loadA w.heap.W (q+1+j)).1).1.heap.W.length:=by omega
 refine⟨hf.tab.withWords _,hf.rt.q,λx hx ht=>?_⟩;have el:loadA (Z0D (w.fwd (loadA w.heap.W (q+1+j)).1).1.heap.W (q+1+j) (w.fwd (loadA w.heap.W (q+1+j)).1).2.1).1 x=loadA (w.fwd (loadA w.heap.W (q+1+j)).1).1.heap.W x:=by
  refine Z0A hin λhc=>?_;have:=hs x (Lh _ hx) oq;omega
 simp only[Work.in1]at hx ht ⊢;rw[el]at ht ⊢;exact hf.rt.t x hx ht
def Zat{h:Heap}(hp:Z03 h=La):Rt (beginW h):=by
 refine⟨by simp[beginW],λx hx ht=>?_⟩;exfalso;simp only[beginW]at hx ht;obtain⟨j,j1,o⟩:=(Z8E hp).1 x hx;have e:=o.at';have k:=ZfG e;unfold atH at e;rw[if_pos k.1,if_pos k.2.1]at e;split at e
 .rename_i g;have hd:=g.2.2;unfold decodeH at hd;split at hd
  .rename_i c;have c1:=c.1;have c2:=c.2;unfold Z0a at c1 c2;split at c2
   .unfold Z0n at ht;split at ht
    .simp only at c2;omega
    .simp at ht
   .rename_i hv;rw[if_neg hv]at c1;simp at c1
  .simp at hd
 .simp at e
def Zof{B:Int}(hB:0<=B){h:Heap}{s:List Int}(hw:WOk h.W)(hp:Z03 h=La)(hb:∀ p∈h.P,p.N<=B)(e:(rootsF (beginW h) s).2.2=0)(e2:(allF (rootsF (beginW h) s).1).2=0):PR B (cW2 h s) :=
 Zm0 (PR B) (λw r hw hi h e=>PR.fwd hB w r hw hi h e) (λw q j hw hi h hq h0 h1 e=>PR.in1 hB w q j hw hi h hq h0 h1 e) (λw n h=>⟨⟨h.tab.pt,h.tab.tk,h.tab.pin⟩,h.rt.q,h.rt.t⟩) hw hp ⟨Z66 hp hb,Zat hp⟩ e e2
def ZbO{B:Int}(hB:0<=B){w:Work}{roots:List Int}(hw:WkOk w)(h:CIv w)(hp:PR B w):∀ k,(∀ j,j<k->Z2q w roots j=0)->∀ x∈(Z1l w roots k).2,ToOk (Z1l w roots k).1 x
 | 0,_,x,hx=>by simp[Z1l]at hx
 | k+1,hh,x,hx=>by
  have ih:=ZbO hB (roots:=roots) hw h hp k (λj hj=>hh j oq);have ok:=(Z2Z (roots:=roots) hw k (λj hj=>hh j oq)).1;have iv:=(Z55 (roots:=roots) hw h k (λj hj=>hh j oq)).1;have pr:=Zas (PR B) (λw r hw hi h e=>PR.fwd hB w r hw hi h e) (roots:=roots) hw h hp k (λj hj=>hh j oq);have he:=hh k oq;simp only[Z1l,Li,Lj]at hx ⊢;rcases hx with hx | rfl
  .rcases ih x hx with q | q
   .exact Lc q
   .exact Le ((Z6Q ok iv _ he).2.q x q)
  .exact ZlB _ _ pr he
def Z6Z(w:WorldM)(t:Tape)(n:Nat)(hm:MOk w n)(hn:n<=1000000)(ht:TOk t)(ha:t.at'<=900000):LP 54 [w.av,.pt 0 0 0] [t.b] (w.step t).av [(w.stepT t).b] :=
 ZhQ w t n hm hn ht ha
structure TUp (n:Int) (t u:Tape):Prop where
 l:u.l=t.l
 lo:t.at'<=u.at'
 hi:u.at'<=t.at'+n
def TUp.step(t:Tape)(n:Int):TUp 1 t (t.step n):=by
 have:=Z3J (t:=t) n;exact⟨this.2.2,this.1,this.2.1⟩
def TUp.trans{m n:Int}{t u v:Tape}(h1:TUp m t u)(h2:TUp n u v):TUp (m+n) t v :=
 ⟨h2.l.trans h1.l,by have:=h1.lo;have:=h2.lo;omega,by have:=h1.hi;have:=h2.hi;omega⟩
def TUp.mono{m n:Int}{t u:Tape}(h:TUp m t u)(hmn:m<=n):TUp n t u:=⟨h.l,h.lo,by have:=h.hi;omega⟩
def ZfM(t:Tape)(c:Conf):TUp 10 t (t.headerT c):=by
 have h1:TUp 4 t (Z35 t c):=by
  unfold Z35;split
  .exact(((TUp.step t _).trans (TUp.step _ 12)).trans (TUp.step _ _)).mono dd
  .exact((TUp.step t _).trans (TUp.step _ 12)).mono dd
 unfold Tape.headerT;repeat' split
 .exact(h1.trans (TUp.step _ 4)).mono dd
 .exact(h1.trans (TUp.step _ 4)).mono dd
 .exact((h1.trans (TUp.step _ 4)).trans (TUp.step _ _)).mono dd
def ZkI(w:WorldM)(t:Tape):TUp 10 t (w.linkT t):=by
 have h1:TUp 1 t (w.pickT t):=TUp.step _ _;have h2:TUp 1 (w.pickT t) (w.pickT (w.pickT t)):=TUp.step _ _;unfold WorldM.linkT;split
 .exact((((h1.trans h2).trans (TUp.step _ 8))).trans (TUp.step _ _)).mono dd
 .exact((h1.trans h2).trans (TUp.step _ 8)).mono dd
def Zkx(w:WorldM)(t:Tape):(w.stepT t).l=t.l/\t.at'+1<=(w.stepT t).at'/\(w.stepT t).at'<=t.at'+20:=by
 have h0:(t.step 12).at'=t.at'+1/\(t.step 12).l=t.l:=by simp[Tape.step]
 have key:TUp 10 (t.step 12) (w.stepT t):=by
  unfold WorldM.stepT;repeat' split
  .exact ZfM _ _
  .exact ZkI _ _
  .unfold WorldM.pinT;split
   .exact((TUp.step _ _).trans (TUp.step _ 2)).mono dd
   .exact(TUp.step _ _).mono dd
  .unfold WorldM.dropT;split
   .exact((TUp.step _ _).trans (TUp.step _ 3)).mono dd
   .exact⟨rfl,by omega,by omega⟩
  .exact⟨rfl,by omega,by omega⟩
  .exact(TUp.step _ _).mono dd
 have a:=key.l;have b:=key.lo;have c:=key.hi;exact⟨a.trans h0.2,by omega,by omega⟩
def mkS(w:WorldM)(t:Tape):Nat->WorldM×Tape
 | 0=>(w,t)
 | k+1=>((mkS w t k).1.step (mkS w t k).2,(mkS w t k).1.stepT (mkS w t k).2)
def mkB(w:WorldM)(t:Tape)(k:Nat):Bool:=Lf (((mkS w t k).2.l.length:Int)<=(mkS w t k).2.at')
def mkN(w:WorldM)(t:Tape):Nat:=((Lt (2+t.l.length)).find? (mkB w t)).getD 0
def Ze8(w:WorldM)(t:Tape):WorldM:=(mkS w t (mkN w t)).1
def ZeZ(w:WorldM)(t:Tape):∀ k:Nat,(mkS w t k).2.l=t.l/\t.at'+k<=(mkS w t k).2.at'/\(mkS w t k).2.at'<=t.at'+20*k
 | 0=>by simp[mkS]
 | k+1=>by
  have ih:=ZeZ w t k;have:=Zkx (mkS w t k).1 (mkS w t k).2;refine⟨this.1.trans ih.1, ?_, ?_⟩
  .simp only[mkS];omega
  .simp only[mkS];omega
def Zd9{w:WorldM}{n:Nat}(h:MOk w n)(t:Tape):∀ k,n+k<=1000000->MOk (mkS w t k).1 (n+k)
 | 0,_=>h
 | k+1,hk=>(Zd9 h t k oq).step oq _
def ZeI(w:WorldM)(t:Tape)(ht:0<=t.at'):mkB w t (mkN w t)=La/\(∀ j,j<mkN w t->mkB w t j=Lb)/\mkN w t<=t.l.length+1:=by
 cases hb:(Lt (2+t.l.length)).find? (mkB w t)with
 | none =>
  exfalso;have:=Lq.1 hb t.l.length (Lp.2 oq);have u:=ZeZ w t t.l.length;simp only[mkB,decide_eq_true_eq,u.1]at this;omega
 | some k =>
  obtain⟨h1,h2,h3⟩:=Lw.1 hb;have h2:=Lp.1 h2;have e:mkN w t=k:=by rw[mkN,hb];rfl
  rw[e];exact⟨h1,λj hj=>by simpa using h3 j hj,by omega⟩
def mkLA(w:WorldM)(t:Tape):Tg:=⟨tm 22 [(2,.pt 8002 0 0),(3,.pt 32012 0 0),(4,.pt 40004 0 0)],[(40004,.box 30 w.cells),(32012,t.b),(8002,.box 30 [int 0,int 0,.d (.sl 0 []),.d (.sl 0 []),int 0,int 0,.d (.sl 0 []),.d (.sl 0 [])])],60⟩
def Zjm(w:WorldM)(t:Tape)(n:Nat)(hm:MOk w n)(hn:n<=1000000)(ht:TOk t)(ha:t.at'<=900000)(hd:t.at'<t.l.length):CP (rndF f15 0) (mkLA w t).st .nrm (mkLA (w.step t) (w.stepT t)).st:=by
 exact sF [] [] (Fbq 16 [32012] (@Z7o t aa) (Ftb 17 (!decide ((t.l.length:Int)<=t.at')) (Fbr 20 [32012] (@Z6Z w t n aa aa aa aa) Fz)))
def ZnH(w:WorldM)(t:Tape)(ht:TOk t)(hd:¬ t.at'<t.l.length):CP (rndF f15 0) (mkLA w t).st (.ext 0) (Tg.st ⟨tm 22 [(2,.pt 8002 0 0),(4,.pt 40004 0 0)],[(40004,.box 30 w.cells),(8002,.box 30 [int 0,int 0,.d (.sl 0 []),.d (.sl 0 []),int 0,int 0,.d (.sl 0 []),.d (.sl 0 [])])],60⟩):=by
 exact sF [] [] (Fbq 16 [32012] (@Z7o t aa) (Ffb 17 (!decide ((t.l.length:Int)<=t.at')) Fz))
def Zmh(w:WorldM)(t:Tape)(hm:MOk w 0)(hl:t.l.length<=300)(h0:0<=t.at')(h1:t.at'<=1000):CP (blkF f15 0) (Tg.st ⟨tm 22 [(2,.pt 8002 0 0),(3,.pt 32012 0 0),(4,.pt 40004 0 0)],[(40004,.box 30 w.cells),(32012,t.b),(8002,.box 30 [int 0,int 0,.d (.sl 0 []),.d (.sl 0 []),int 0,int 0,.d (.sl 0 []),.d (.sl 0 [])])],60⟩) .nrm (Tg.st ⟨tm 22 [(2,.pt 8002 0 0),(4,.pt 40004 0 0)],[(40004,.box 30 (Ze8 w t).cells),(8002,.box 30 [int 0,int 0,.d (.sl 0 []),.d (.sl 0 []),int 0,int 0,.d (.sl 0 []),.d (.sl 0 [])])],60⟩):=by
 have hk:=ZeI w t h0;have tok:∀ k,k<=mkN w t->TOk (mkS w t k).2/\(mkS w t k).2.at'<=900000:=λk hk'=>by
  have u:=ZeZ w t k;refine⟨?_,by omega⟩;unfold TOk;rw[u.1];omega
 refine Z0b (S:=λk=>(mkLA (mkS w t k).1 (mkS w t k).2).st) (mkN w t) kr (λk hk'=>?_) ?_
 .have hs:=hk.2.1 k hk';simp only[mkB,decide_eq_false_iff_not]at hs;have m:=Zd9 hm t k oq;exact Zjm _ _ (0+k) m oq (tok k oq).1 (tok k oq).2 oq
 .have hs:=hk.1;simp only[mkB,decide_eq_true_eq]at hs;exact ZnH _ _ (tok _ (Ll _)).1 oq
def mkLB(w:WorldM)(t:Tape):Tg:=⟨tm 22 [(2,.pt 8002 0 0),(3,.pt 24012 0 0),(4,.pt 32004 0 0)],[(32004,.box 30 w.cells),(24012,t.b),(8002,.box 30 [int 0,int 0,.d (.sl 0 []),.d (.sl 0 []),int 0,int 0,.d (.sl 0 []),.d (.sl 0 [])])],60⟩
def ZjF(w:WorldM)(t:Tape)(n:Nat)(hm:MOk w n)(hn:n<=1000000)(ht:TOk t)(ha:t.at'<=900000)(hd:t.at'<t.l.length):CP (rndF f15 0) (mkLB w t).st .nrm (mkLB (w.step t) (w.stepT t)).st:=by
 exact sF [] [] (Fbq 16 [24012] (@Z7o t aa) (Ftb 17 (!decide ((t.l.length:Int)<=t.at')) (Fbr 20 [24012] (@Z6Z w t n aa aa aa aa) Fz)))
def Zop(w:WorldM)(t:Tape)(ht:TOk t)(hd:¬ t.at'<t.l.length):CP (rndF f15 0) (mkLB w t).st (.ext 0) (Tg.st ⟨tm 22 [(2,.pt 8002 0 0),(4,.pt 32004 0 0)],[(32004,.box 30 w.cells),(8002,.box 30 [int 0,int 0,.d (.sl 0 []),.d (.sl 0 []),int 0,int 0,.d (.sl 0 []),.d (.sl 0 [])])],60⟩):=by
 exact sF [] [] (Fbq 16 [24012] (@Z7o t aa) (Ffb 17 (!decide ((t.l.length:Int)<=t.at')) Fz))
def ZmX(w:WorldM)(t:Tape)(hm:MOk w 0)(hl:t.l.length<=300)(h0:0<=t.at')(h1:t.at'<=1000):CP (blkF f15 0) (Tg.st ⟨tm 22 [(2,.pt 8002 0 0),(3,.pt 24012 0 0),(4,.pt 32004 0 0)],[(32004,.box 30 w.cells),(24012,t.b),(8002,.box 30 [int 0,int 0,.d (.sl 0 []),.d (.sl 0 []),int 0,int 0,.d (.sl 0 []),.d (.sl 0 [])])],60⟩) .nrm (Tg.st ⟨tm 22 [(2,.pt 8002 0 0),(4,.pt 32004 0 0)],[(32004,.box 30 (Ze8 w t).cells),(8002,.box 30 [int 0,int 0,.d (.sl 0 []),.d (.sl 0 []),int 0,int 0,.d (.sl 0 []),.d (.sl 0 [])])],60⟩):=by
 have hk:=ZeI w t h0;have tok:∀ k,k<=mkN w t->TOk (mkS w t k).2/\(mkS w t k).2.at'<=900000:=λk hk'=>by
  have u:=ZeZ w t k;refine⟨?_,by omega⟩;unfold TOk;rw[u.1];omega
 refine Z0b (S:=λk=>(mkLB (mkS w t k).1 (mkS w t k).2).st) (mkN w t) kr (λk hk'=>?_) ?_
 .have hs:=hk.2.1 k hk';simp only[mkB,decide_eq_false_iff_not]at hs;have m:=Zd9 hm t k oq;exact ZjF _ _ (0+k) m oq (tok k oq).1 (tok k oq).2 oq
 .have hs:=hk.1;simp only[mkB,decide_eq_true_eq]at hs;exact Zop _ _ (tok _ (Ll _)).1 oq
def Z3r(l:List Int):Tape:=⟨l.take 300,0⟩
def Z05(l:List Int):WorldM:=Ze8 (Z3r l).empty (((Z3r l).step 4).step 5)
def Zbl(t:Tape):MOk t.empty 0:=by
 have hv:=Z2F t;have hb:=validB_iff.1 hv;refine⟨?_,hv, ?_, ?_, ?_, ?_, ?_, ?_,by simp[Tape.empty],by simp[Tape.empty]⟩
 .intro x hx;simp only[Tape.empty,Z2M,L9]at hx;omega
 .simp only[Tape.empty,Z2M,Ls];omega
 .have:=area hv;simp only[Tape.empty,Z2M,Ls];omega
 .intro j hj;simp only[Tape.empty,Z2M,Ls]at hj ⊢;have:(Ly t.C.pg.toNat (⟨0,0,0,0⟩:Page)).getD j M=⟨0,0,0,0⟩:=by simp[Lg,hj]
  rw[this];simp
 .intro j hj;simp only[Tape.empty,Z2M,Ls]at hj ⊢;have:(Ly t.C.pg.toNat (⟨0,0,0,0⟩:Page)).getD j M=⟨0,0,0,0⟩:=by simp[Lg,hj]
  rw[this];simp
 .intro x hx;simp[Tape.empty]at hx
 .intro x hx;simp[Tape.empty]at hx
def Z6W(l:List Int):(((Z3r l).step 4).step 5).l=l.take 300/\(((Z3r l).step 4).step 5).at'=2:=by simp[Z3r,Tape.step]
def Zf7(l:List Int):MOk (Z05 l) 1000:=by
 have e:=Z6W l;have hl:(((Z3r l).step 4).step 5).l.length<=300:=by rw[e.1];simp;omega
 have hk:=ZeI (Z3r l).empty (((Z3r l).step 4).step 5) oq;have m:=Zd9 (Zbl (Z3r l)) (((Z3r l).step 4).step 5) (mkN (Z3r l).empty (((Z3r l).step 4).step 5)) oq;have h2:∀ (w:WorldM) (a b:Nat),MOk w a->a<=b->MOk w b:=λw a b h hab =>
  ⟨h.W,h.hv,h.pl,h.L,λj hj=>by have:=h.N j hj;omega,h.us,h.G,h.E,by have:=h.sl;omega,by have:=h.wl;omega⟩
 exact h2 _ _ _ m oq
def Zbz(l:List Int)(hl:l.length<=140737488355328):GP 15 [Z0m l] Lb (Z05 l).av []:=by
 have e:=Z6W l;have he:=Zbl (Z3r l);have h1:(((Z3r l).step 4).step 5).l.length<=300:=by rw[e.1];simp;omega
 have h2:=e.2;by_cases h:300<l.length
 .have ht:TOk ⟨Lv (Lu 300) l,0⟩:=by simp[TOk];omega
  have e9:Z3r l=⟨Lv (Lu 300) l,0⟩:=rfl;unfold Z05;rw[e9]at he h1 h2 ⊢;exact gF [] func15 [] (Fh 9 [.els (Ld idv (Lv (Lu 300) l))] (Fl 6 idv l (Ftb 7 (Lf (300<(l.length:Int))) (Fa (by(simp only[LG];omega):(0:Int)<=(300:Int)/\300<=(↑(Ld idv l).length:Int)) (Fa (ms:Lv (Lu 300) (Ld idv l)=Ld idv (Lv (Lu 300) l)) (Fbr 14 [32012] (@ZbC (Tape.mk (Lv (Lu 300) l) 0) aa (by(simp only[bs];omega))) (Fu (@Zmh ((Tape.mk (Lv (Lu 300) l) 0).empty) (((Tape.mk (Lv (Lu 300) l) 0).step 4).step 5) aa aa oq oq) Fz)))))))
 .have ht:TOk ⟨l,0⟩:=by simp[TOk];omega
  have e9:Z3r l=⟨l,0⟩:=by rw[Z3r,List.take_of_length_le oq]
  unfold Z05;rw[e9]at he h1 h2 ⊢;exact gF [] func15 [] (Fl 6 idv l (Ffb 7 (Lf (300<(l.length:Int))) (Fbr 14 [24012] (@ZbC (Tape.mk l 0) aa (by(simp only[bs];omega))) (Fu (@ZmX ((Tape.mk l 0).empty) (((Tape.mk l 0).step 4).step 5) aa aa oq oq) Fz))))
def RootOn(h:Heap)(r:Int):Prop:=(ofA h.C r).2.2=0->(h.P.getD (ofA h.C r).1.toNat M).K=1\/(h.P.getD (ofA h.C r).1.toNat M).K=2
structure POk (w:WorldM):Prop where
 p:Z03 w.heap=La
 s:∀ r∈w.G,RootOn w.heap r
 k:∀ r∈w.E,RootOn w.heap r
def Zoj(h:Heap):RootOn h 0:=by
 intro e;exfalso;unfold ofA at e;split at e
 .split at e
  .omega
  .simp at e
 .simp at e
def RootOn.mono{h h':Heap}{r:Int}(hr:RootOn h r)(hc:h'.C=h.C)(hk:∀ j:Nat,(h.P.getD j M).K≠0->(h'.P.getD j M).K=(h.P.getD j M).K):RootOn h' r:=by
 intro e;rw[hc]at e ⊢;have q:=hr e;rw[hk _ oq];exact q
def PT.setPins{c:Conf}{l:List Page}(h:PT c l){i:Nat}(hi:i<l.length)(hk:(l.getD i M).K=1\/(l.getD i M).K=2){n:Int}(hn:0<=n/\n<=2147483647):PT c (l.set i ⟨(l.getD i M).K,(l.getD i M).S,(l.getD i M).U,n⟩):=by
 have e:∀ j,((l.set i ⟨(l.getD i M).K,(l.getD i M).S,(l.getD i M).U,n⟩).getD j M).K=(l.getD j M).K/\((l.set i ⟨(l.getD i M).K,(l.getD i M).S,(l.getD i M).U,n⟩).getD j M).S=(l.getD j M).S/\((l.set i ⟨(l.getD i M).K,(l.getD i M).S,(l.getD i M).U,n⟩).getD j M).U=(l.getD j M).U:=by
  intro j;rw[Z0o hi];split
  .rename_i q;subst q;exact⟨rfl,rfl,rfl⟩
  .exact⟨rfl,rfl,rfl⟩
 refine⟨?_, ?_, ?_⟩
 .intro j hj;rw[Lm]at hj;rw[Z0o hi];split
  .have b:=h.b i hi;exact⟨b.s,hn,b.k,λq=>by simp only at q;omega,b.k1,λq=>by simp only at q;omega⟩
  .exact h.b j hj
 .intro j hj hk2;rw[Lm]at hj;rw[(e j).1]at hk2;rw[(e j).2.2,(e j).2.1];have q:=h.lg j hj hk2;refine⟨q.1,λm h1 h2=>?_⟩;rw[Lm,(e _).1,(e _).2.1];exact q.2 m h1 h2
 .intro j hj hk3;rw[Lm]at hj;rw[(e j).1]at hk3;obtain⟨a,a1,a2,a3⟩:=h.tl j hj hk3;exact⟨a,a1,by rw[(e a).1];exact a2,by rw[(e a).2.2];exact a3⟩
def Zft{w:WorldM}{n:Nat}(h:POk w)(hm:MOk w n)(hn:n<=1000000){i:Nat}(hi:i<w.heap.P.length)(hk:(w.heap.P.getD i M).K=1\/(w.heap.P.getD i M).K=2){d:Int}(hd:d=1\/(d=-1/\0<(w.heap.P.getD i M).N)):POk (pinB w i d):=by
 have hp:=hm.N i hi;have kk:∀ j:Nat,((pinB w i d).heap.P.getD j M).K=(w.heap.P.getD j M).K:=by
  intro j;simp only[pinB];rw[Z0o hi];split
  .rename_i q;subst q;rfl
  .rfl
 have pr:=h.p;rw[Z1u]at pr;obtain⟨p1,p2,p3,p4,p5,p6⟩:=pr;refine⟨?_,λr hr=>(h.s r hr).mono rfl (λj _=>kk j),λr hr=>(h.k r hr).mono rfl (λj _=>kk j)⟩;rw[Z1u];refine⟨p1,p2,by simp only[pinB,Lm];exact p3,p4, ?_,p6.setPins hi hk oq⟩;rcases p5 with p5 | p5
 .exact Lc p5
 .refine Le ⟨p5.1,by simp only[pinB,Lm];exact p5.2.1, ?_⟩;rw[show(pinB w i d).heap.B=w.heap.B from rfl,kk];exact p5.2.2
def Zen(w:WorldM)(t:Tape):w.pick t=0\/w.pick t∈w.G\/w.pick t∈w.E:=by
 have hn:=Z0P t (n:=(w.refs.length:Int)) (by simp[WorldM.refs];omega);have:w.pick t∈w.refs:=getD_mem_iff.2 ⟨_,by omega,rfl⟩;simpa[WorldM.refs]using this
def POk.pick{w:WorldM}(h:POk w)(t:Tape):RootOn w.heap (w.pick t):=by
 rcases Zen w t with e | e | e
 .rw[e];exact Zoj _
 .exact h.s _ e
 .exact h.k _ e
def POk.pin{w:WorldM}{n:Nat}(h:POk w)(hm:MOk w n)(hn:n<=1000000)(t:Tape):POk (w.pin t):=by
 unfold WorldM.pin;split
 .rename_i e;have o:=Z3x hm.hv e;have hpl:=hm.pl;have hi:pinI w t<w.heap.P.length:=by unfold pinI;omega
  have hk:=h.pick t e;split
  .rename_i hc;exact Zft h hm hn hi hk (Le ⟨rfl,hc.1⟩)
  .split
   .exact Zft h hm hn hi hk (Lc rfl)
   .exact h
 .exact h
def Zi9(t:Tape):POk t.empty:=by
 refine⟨?_,by simp[Tape.empty],by simp[Tape.empty]⟩;have hv:=Z2F t;have hb:=validB_iff.1 hv;have ha:=area hv;rw[Z1u];have hg:∀ j,j<t.C.pg.toNat->(Ly t.C.pg.toNat (⟨0,0,0,0⟩:Page)).getD j M=⟨0,0,0,0⟩:=λj hj=>by simp[Lg,hj]
 refine⟨hv,by simp only[Tape.empty,Z2M,Ls];omega,by simp only[Tape.empty,Z2M,Ls];omega,Lc rfl,Lc rfl, ?_⟩;simp only[Tape.empty,Z2M];refine⟨λj hj=>?_,λj hj hk=>?_,λj hj hk=>?_⟩
 .rw[Ls]at hj;rw[hg j hj];exact⟨by simp,by simp,by simp,by simp,by simp,by simp⟩
 .rw[Ls]at hj;rw[hg j hj]at hk;simp at hk
 .rw[Ls]at hj;rw[hg j hj]at hk;simp at hk
def hdA(ws:List Int)(a:Int):Header:=(decodeH (loadA ws a).1).1
def okA(ws:List Int)(a:Int):Prop:=(decodeH (loadA ws a).1).2=La
def kdA(ws:List Int)(a:Int):Int:=(hdA ws a).K
def kpA(ws:List Int)(a:Int):Int:=if kdA ws a=0 then 1 else hlA ws a+1
def bsP(h:Heap)(i:Nat):Int:=4096+i*h.C.pw
def tile(ws:List Int):Int->Int->List Int->Prop
 | a,b,[]=>a=b
 | a,b,x::l=>x=a/\okA ws a/\tile ws (a+hlA ws a+1) b l
def Z6f(ws:List Int)(a:Int):sizeH (hdA ws a)=hlA ws a+1:=by
 unfold hdA;rw[sizeH,if_pos (Z2j _)];rfl
def Zea{ws:List Int}:∀ {l:List Int} {a b:Int},tile ws a b l->a<=b
 | [],a,b,h=>by simp only[tile]at h;omega
 | x::l,a,b,h=>by
  have:=Zea h.2.2;have:=Z0f ws a;omega
def Z1A{ws:List Int}{x:Int}:∀ {l:List Int} {a b:Int},tile ws a b l->x∈l->okA ws x/\a<=x/\x+hlA ws x<b
 | [],_,_,_,hx=>by simp at hx
 | y::l,a,b,h,hx=>by
  have hr:=Z0f ws a;rcases LH.1 hx with rfl | hx
  .have:=Zea h.2.2;rw[h.1];exact⟨h.2.1,by omega,by omega⟩
  .have:=Z1A h.2.2 hx;exact⟨this.1,by omega,this.2.2⟩
def Zbt{ws:List Int}{x y:Int}:∀ {l:List Int} {a b:Int},tile ws a b l->x∈l->y∈l->x<y->x+hlA ws x<y
 | [],_,_,_,hx,_,_=>by simp at hx
 | z::l,a,b,h,hx,hy,hxy=>by
  have hr:=Z0f ws a;have h1:=h.1;rcases LH.1 hx with e | hx'
  .rcases LH.1 hy with e2 | hy'
   .omega
   .have:=(Z1A h.2.2 hy').2.1;rw[e,h1];omega
  .rcases LH.1 hy with e2 | hy'
   .have:=(Z1A h.2.2 hx').2.1;omega
   .exact Zbt h.2.2 hx' hy' hxy
def Zal{ws:List Int}{m:List Int}{b c:Int}:∀ {l:List Int} {a:Int},tile ws a b l->tile ws b c m->tile ws a c (l++m)
 | [],a,h,h2=>by simp only[tile]at h;subst h;exact h2
 | _::_,_,h,h2=>⟨h.1,h.2.1,Zal h.2.2 h2⟩
def Z2i{ws ws':List Int}:∀ {l:List Int} {a b:Int},tile ws a b l->(∀ x∈l,okA ws' x/\hlA ws' x=hlA ws x)->tile ws' a b l
 | [],_,_,h,_=>h
 | x::l,a,b,h,hh=>by
  have hx:=hh x pq;have h1:=h.1;subst h1;refine⟨rfl,hx.1, ?_⟩;rw[hx.2];exact Z2i h.2.2 λy hy=>hh y (LO _ hy)
def Z9R{ws:List Int}{c:Int}:∀ {l:List Int} {a b:Int},tile ws a b l->a<=c->c<b->∃ x∈l,x<=c/\c<=x+hlA ws x
 | [],a,b,h,h1,h2=>by simp only[tile]at h;omega
 | x::l,a,b,h,h1,h2=>by
  by_cases hc:c<=a+hlA ws a
  .exact⟨a,by rw[h.1];simp,h1,hc⟩
  .obtain⟨y,hy,h3⟩:=Z9R h.2.2 (show a+hlA ws a+1<=c by omega) h2;exact⟨y,LO _ hy,h3⟩
def Z26{ws ws':List Int}{a:Int}(h:(loadA ws' a).1=(loadA ws a).1):(okA ws a->okA ws' a)/\hlA ws' a=hlA ws a/\kdA ws' a=kdA ws a/\hdA ws' a=hdA ws a/\kpA ws' a=kpA ws a:=by
 have e:hdA ws' a=hdA ws a:=by rw[hdA,hdA,h]
 have e2:hlA ws' a=hlA ws a:=by rw[hlA,hlA,h]
 have e3:kdA ws' a=kdA ws a:=by rw[kdA,kdA,e]
 exact⟨λq=>by rw[okA,h];exact q,e2,e3,e,by rw[kpA,kpA,e2,e3]⟩
structure Gt (h:Heap) (T:Nat->List Int):Prop where
 p:Z03 h=La
 t1:∀ i,i<h.P.length->(h.P.getD i M).K=1->tile h.W (bsP h i) (bsP h i+(h.P.getD i M).U) (T i)
 t2:∀ i,i<h.P.length->(h.P.getD i M).K=2->T i=[bsP h i]/\okA h.W (bsP h i)/\hlA h.W (bsP h i)+1=(h.P.getD i M).U
 t0:∀ i x,x∈T i->i<h.P.length/\((h.P.getD i M).K=1\/(h.P.getD i M).K=2)
structure Gd (h:Heap) (T:Nat->List Int):Prop where
 p:Z03 h=La
 sp:∀ i,i<h.P.length->(h.P.getD i M).K≠0->(h.P.getD i M).S=h.S
 t1:∀ i,i<h.P.length->(h.P.getD i M).K=1->tile h.W (bsP h i) (bsP h i+(h.P.getD i M).U) (T i)/\∀ x∈T i,hlA h.W x+1<=Z00 h.C
 t2:∀ i,i<h.P.length->(h.P.getD i M).K=2->T i=[bsP h i]/\okA h.W (bsP h i)/\hlA h.W (bsP h i)+1=(h.P.getD i M).U/\kdA h.W (bsP h i)≠0
 t0:∀ i x,x∈T i->i<h.P.length/\((h.P.getD i M).K=1\/(h.P.getD i M).K=2)
 d:∀ a,(loadA h.W a).1≠0->∃ i x,x∈T i/\x<=a/\a<x+kpA h.W x
 q:∀ i x k,x∈T i->kdA h.W x≠0->0<=k->k<hlA h.W x->Z0c (hdA h.W x) k=La->(loadA h.W (x+1+k)).1=0\/∃ j,(loadA h.W (x+1+k)).1∈T j/\kdA h.W (loadA h.W (x+1+k)).1≠0
 cr:(crowd h.P:Int)<=h.C.pg/4
def Ob(h:Heap)(T:Nat->List Int)(x:Int):Prop:=∃ j,x∈T j/\kdA h.W x≠0
section
variable {h:Heap} {T:Nat->List Int} (g:Gt h T)
include g
theorem Gt.on{i:Nat}{x:Int}(hx:x∈T i):i<h.P.length/\((h.P.getD i M).K=1\/(h.P.getD i M).K=2)/\bsP h i<=x/\x<bsP h i+h.C.pw/\x+hlA h.W x<bsP h i+(h.P.getD i M).U/\okA h.W x/\((h.P.getD i M).K=2->x=bsP h i/\hlA h.W x+1=(h.P.getD i M).U):=by
 have t:=g.t0 i x hx;have po:=Z08 g.p;have pp:=Z0J g.p t.1;have hr:=Z0f h.W x;refine⟨t.1,t.2, ?_⟩;rcases t.2 with k | k
 .have m:=Z1A (g.t1 i t.1 k) hx;exact⟨m.2.1,by omega,m.2.2,m.1,λq=>by omega⟩
 .have m:=g.t2 i t.1 k;rw[m.1]at hx;have hx:=Lj.1 hx;subst hx;exact⟨by omega,by omega,by omega,m.2.1,λ_=>⟨rfl,m.2.2⟩⟩
theorem Gt.ofx{i:Nat}{x:Int}(hx:x∈T i):ofA h.C x=((i:Int),x-bsP h i,0):=by
 have o:=g.on hx;have po:=Z08 g.p;have:=Zem (c:=h.C) (i:=i) (o:=x-bsP h i) po.1 oq oq;rw[<- this];congr 1;unfold bsP;omega
theorem Gt.sep{i j:Nat}{x y:Int}(hx:x∈T i)(hy:y∈T j)(hxy:x<y):x+hlA h.W x<y:=by
 have o1:=g.on hx;have o2:=g.on hy;have r2:=Z0f h.W y;have r1:=Z0f h.W x;unfold bsP at o1 o2;rcases LI i j with q | q | q
 .have:=Z4i g.p q o2.1 o1.2.1 oq;omega
 .subst q;rcases o1.2.1 with k | k
  .exact Zbt (g.t1 i o1.1 k) hx hy hxy
  .have:=(o1.2.2.2.2.2.2 k).1;have:=(o2.2.2.2.2.2.2 k).1;omega
 .have:=Z4i g.p q o1.1 o2.2.1 oq;omega
theorem Gt.free{i j:Nat}{x:Int}(hi:i<h.P.length)(hk:(h.P.getD i M).K=0\/(h.P.getD i M).K=1)(hx:x∈T j):x+hlA h.W x<bsP h i+occP (h.P.getD i M)\/bsP h i+h.C.pw<=x:=by
 have o:=g.on hx;have po:=Z08 g.p;have pp:=Z0J g.p hi;have hoc:0<=occP (h.P.getD i M):=by unfold occP;split<;>omega
 unfold bsP at o ⊢;rcases LI i j with q | q | q
 .have:=Z11 (i:=i) (j:=j) (pw:=h.C.pw) oq oq;omega
 .subst q;rw[occP,if_neg oq];omega
 .have:=Z4i g.p q hi o.2.1 oq;omega
theorem Gt.at'{i:Nat}{x:Int}(hx:x∈T i):atH h x=(hdA h.W x,0):=by
 have o:=g.on hx;have r:=Z0f h.W x;have s:sizeH (decodeH (loadA h.W x).1).1=hlA h.W x+1:=Z6f h.W x;unfold atH;rw[if_pos g.p,g.ofx hx];simp only[Lx,s,if_true];rw[if_pos ⟨o.2.1,by omega,o.2.2.2.2.2.1⟩,if_neg]
 .rfl
 .have:=o.2.2.2.2.2.2;omega
theorem Zcg{i:Nat}(hi:i<h.P.length)(hk:(h.P.getD i M).K=1):∀ (f:Nat) (o:Int) (l:List Int),tile h.W (bsP h i+o) (bsP h i+(h.P.getD i M).U) l->(∀ x∈l,x∈T i)->0<=o->(h.P.getD i M).U-o<=f->Z2S h i f o=Lk l
 | 0,o,[],ht,hm,h0,hf=>rfl
 | 0,o,x::l,ht,hm,h0,hf=>by
  have:=Zea ht.2.2;have:=Z0f h.W (bsP h i+o);omega
 | f+1,o,[],ht,hm,h0,hf=>by
  simp only[tile]at ht;unfold Z2S;rw[if_neg];show ¬ o<(h.P.getD (i:Int).toNat M).U;rw[Lx];omega
 | f+1,o,x::l,ht,hm,h0,hf=>by
  have hx:=hm x pq;have e:=ht.1;have on:=g.on hx;have po:=Z08 g.p;have hr:=Z0f h.W x;have hpg:pg h (i:Int)=h.P.getD i M:=by simp[pg]
  have ea:adr h i o=x:=by
   unfold adr address;rw[if_pos po.1,if_pos (inB_iff.2 ⟨by omega,by omega,h0,by omega⟩),e];unfold bsP;simp only;omega
  have t3:=ht.2.2;rw[<- e]at t3;have ih:=Zcg hi hk f (o+(hlA h.W x+1)) l (by rw[show bsP h i+(o+(hlA h.W x+1))=x+hlA h.W x+1 by omega];exact t3) (λy hy=>hm y (LO _ hy)) oq oq;unfold Z2S;rw[hpg,if_pos oq,ea,g.at' hx];simp only[if_true];rw[if_neg oq,Z6f,ih];rfl
theorem Gt.page{i:Nat}(hi:i<h.P.length):Z0l h i=(T i,0):=by
 have pp:=Z0J g.p hi;have hpg:pg h (i:Int)=h.P.getD i M:=by simp[pg]
 unfold Z0l;rw[if_pos g.p,if_pos oq,hpg];by_cases hk:(h.P.getD i M).K=0\/(h.P.getD i M).K=3
 .rw[if_pos hk];have:T i=[]:=L1.2 λx hx=>by have:=(g.t0 i x hx).2;omega
  rw[this]
 .rw[if_neg hk];by_cases h1:(h.P.getD i M).K=1
  .have:=Zcg g hi h1 256 0 (T i) (by rw[LV];exact(g.t1 i hi h1)) (λ_ q=>q) oq oq;rw[this]
  .have h2:(h.P.getD i M).K=2:=by omega
   have t:=g.t2 i hi h2;have hx:bsP h i∈T i:=by rw[t.1];simp
   have on:=g.on hx;have po:=Z08 g.p;have hr:=Z0f h.W (bsP h i);have ea:adr h i 0=bsP h i:=by
    unfold adr address;rw[if_pos po.1,if_pos (inB_iff.2 ⟨by omega,by omega,by omega,by omega⟩)];unfold bsP;simp
   have:Z2S h i 256 0=Lk (T i):=by
    unfold Z2S;rw[hpg,if_pos oq,ea,g.at' hx];simp only[if_true];rw[if_pos h2,t.1]
   rw[this]
theorem Gt.starts:∀ (f i:Nat),i+f=h.P.length->(Z0z h f i).2=0/\∀ x,x∈(Z0z h f i).1↔∃ j,i<=j/\x∈T j
 | 0,i,hf=>by
  refine⟨rfl,λx=>⟨λhx=>by simp[Z0z]at hx, ?_⟩⟩;rintro⟨j,hj,hx⟩;have:=(g.t0 j x hx).1;omega
 | f+1,i,hf=>by
  obtain⟨i1,i2⟩:=Gt.starts f (i+1) oq;unfold Z0z;rw[g.page (show i<h.P.length by omega)];simp only[i1,if_true];refine⟨trivial,λx=>?_⟩;rw[Li,i2];constructor
  .rintro(hx | ⟨j,hj,hx⟩)
   .exact⟨i,Ll _,hx⟩
   .exact⟨j,by omega,hx⟩
  .rintro⟨j,hj,hx⟩;by_cases q:j=i
   .subst q;exact Lc hx
   .exact Le ⟨j,by omega,hx⟩
theorem Gt.objs:(Z04 h).2=0/\∀ x,x∈(Z04 h).1↔Ob h T x:=by
 have s:=g.starts h.P.length 0 oq;have e:Z0M h=Z0z h h.P.length 0:=by rw[Z0M,if_pos g.p]
 unfold Z04;rw[e];refine⟨s.1,λx=>?_⟩;rw[List.mem_filter,s.2];constructor
 .rintro⟨⟨j,_,hj⟩,hb⟩;have hb':(atH h x).1.K≠0:=of_decide_eq_true hb;rw[g.at' hj]at hb';exact⟨j,hj,hb'⟩
 .rintro⟨j,hj,hb⟩;refine⟨⟨j,by omega,hj⟩,decide_eq_true ?_⟩;rw[g.at' hj];exact hb
end
section
variable {h:Heap} {T:Nat->List Int} (g:Gd h T)
include g
theorem Gd.gt:Gt h T:=⟨g.p,λi hi hk=>(g.t1 i hi hk).1,λi hi hk=>⟨(g.t2 i hi hk).1,(g.t2 i hi hk).2.1,(g.t2 i hi hk).2.2.1⟩,g.t0⟩
theorem Gd.on{i:Nat}{x:Int}(hx:x∈T i):i<h.P.length/\((h.P.getD i M).K=1\/(h.P.getD i M).K=2)/\bsP h i<=x/\x<bsP h i+h.C.pw/\x+hlA h.W x<bsP h i+(h.P.getD i M).U/\okA h.W x/\((h.P.getD i M).K=2->x=bsP h i/\hlA h.W x+1=(h.P.getD i M).U):=g.gt.on hx
theorem Gd.ofx{i:Nat}{x:Int}(hx:x∈T i):ofA h.C x=((i:Int),x-bsP h i,0):=g.gt.ofx hx
theorem Gd.sep{i j:Nat}{x y:Int}(hx:x∈T i)(hy:y∈T j)(hxy:x<y):x+hlA h.W x<y:=g.gt.sep hx hy hxy
theorem Gd.free{i j:Nat}{x:Int}(hi:i<h.P.length)(hk:(h.P.getD i M).K=0\/(h.P.getD i M).K=1)(hx:x∈T j):x+hlA h.W x<bsP h i+occP (h.P.getD i M)\/bsP h i+h.C.pw<=x:=g.gt.free hi hk hx
theorem Gd.at'{i:Nat}{x:Int}(hx:x∈T i):atH h x=(hdA h.W x,0):=g.gt.at' hx
theorem Gd.page{i:Nat}(hi:i<h.P.length):Z0l h i=(T i,0):=g.gt.page hi
theorem Gd.objs:(Z04 h).2=0/\∀ x,x∈(Z04 h).1↔Ob h T x:=g.gt.objs
end
def Zhy{l:List Page}:∀ {i j:Nat},j<=i->(l.getD j M).K≠3->(∀ m,j<m->m<=i->(l.getD m M).K=3)->Z1h l i=j
 | 0,j,h,_,_=>by simp[Z1h];omega
 | i+1,j,h,hk,hm=>by
  unfold Z1h;by_cases q:j=i+1
  .subst q;rw[if_neg hk]
  .rw[if_pos (hm (i+1) oq (Ll _))];exact Zhy oq hk λm h1 h2=>hm m h1 oq
def Zkr{ws:List Int}{a n:Int}{k:Nat}(hn:0<=n)(ha:4096<=a/\a-4096+n<=ws.length)(hk:(k:Int)<n):(Z1c ws a n).1.getD k M=(loadA ws (a+k)).1:=by
 unfold Z1c loadA;rw[if_neg oq,if_pos ha,if_pos oq];simp only[Lg];rw[List.getElem?_take_of_lt oq,List.getElem?_drop,show(a-4096).toNat+k=(a+k-4096).toNat by omega];rfl
section
variable {h:Heap} {T:Nat->List Int} (g:Gd h T)
include g
theorem Gd.inw{i:Nat}{x:Int}(hx:x∈T i):4096<=x/\x+hlA h.W x<4096+h.W.length:=by
 have o:=g.on hx;have po:=Z08 g.p;have u:=ZaX g.p o.1 o.2.1;have h0:0<=(i:Int)*h.C.pw:=LD oq oq;unfold bsP at o;omega
theorem Gd.head{i j:Nat}{x a:Int}(hx:x∈T j)(h1:x<=a)(h2:a<=x+hlA h.W x)(hi:i<h.P.length)(h3:bsP h i<=a)(h4:a<bsP h i+h.C.pw):Z1h h.P i=j:=by
 have o:=g.on hx;have po:=Z08 g.p;unfold bsP at o h3 h4;have hji:j<=i:=by
  by_cases q:j<=i
  .exact q
  .have:=Z11 (i:=i) (j:=j) (pw:=h.C.pw) oq oq;omega
 refine Zhy hji oq λm m1 m2=>?_;have hms:=Z11 (i:=j) (j:=m) (pw:=h.C.pw) oq oq;have hmi:(m:Int)*h.C.pw<=i*h.C.pw:=LY oq oq;rcases o.2.1 with k | k
 .have pp:=Z0J g.p o.1;omega
 .by_cases q:(h.P.getD m M).K=3
  .exact q
  .have:=Z4i g.p m1 oq (Le k) q;omega
theorem Gd.badd{i k:Nat}(hi:i<h.P.length)(hk:(k:Int)<h.C.pw):badD h i (Z3U h i) k=Lb:=by
 have po:=Z08 g.p;unfold badD;have ew:Z4r h i k=(loadA h.W (bsP h i+k)).1:=by
  unfold Z4r address;rw[if_pos po.1,if_pos (inB_iff.2 ⟨by omega,by omega,by omega,by omega⟩)];unfold bsP;simp only;rw[LL]
 rw[ew];by_cases h0:(loadA h.W (bsP h i+k)).1=0
 .rw[h0];simp
 .obtain⟨j,x,hx,h1,h2⟩:=g.d _ h0;have hr:=Z0f h.W x;have hkp:kpA h.W x<=hlA h.W x+1:=by unfold kpA;split<;>omega
  have hh:=g.head hx h1 oq hi oq oq;have hb:(Z3U h i).getD k M=La:=by
   unfold Z3U Z1B;rw[hh,g.page (g.on hx).1];have hkk:k<h.C.pw.toNat:=by omega
   simp only[Lg,List.getElem?_map,List.getElem?_range hkk,Option.map_some,Option.getD_some,List.any_eq_true];refine⟨x,hx, ?_⟩;unfold Zbk;have ek:Z9b h x=kpA h.W x:=by
    unfold Z9b kpA;rw[g.at' hx];rw[Z6f];rfl
   rw[ek,LB,decide_eq_true_eq,decide_eq_true_eq];unfold bsP at h1 h2;omega
  rw[hb];simp
theorem Gd.dirt{i:Nat}(hi:i<h.P.length):Z41 h i (Z3U h i)=0:=by
 have hl:=ZcU h i;unfold Z41;have:(Lt (Z3U h i).length).find? (badD h i (Z3U h i))=Lz:=by
  rw[Lq];intro k hk;have hk:=Lp.1 hk;rw[g.badd hi oq];simp
 rw[this]
theorem Gd.cls{i:Nat}{x:Int}(hx:x∈T i):Z2B h i x=Lb:=by
 have o:=g.on hx;unfold Z2B;rw[g.at' hx,Z6f,Lx];rcases o.2.1 with k | k
 .have:=(g.t1 i o.1 k).2 x hx;rw[k];simp;omega
 .have t:=g.t2 i o.1 k;have hx2:=(o.2.2.2.2.2.2 k).1;have:(hdA h.W x).K≠0:=by rw[hx2];exact t.2.2.2
  rw[k];simp;exact this
theorem Gd.pageF{i:Nat}(hi:i<h.P.length):(pageF h i).fault=0:=by
 have hs:=g.sp i hi;have hc:Z2k h i (T i)=0:=by
  unfold Z2k;have:(T i).find? (Z2B h i)=Lz:=by
   rw[Lq];intro x hx;rw[g.cls hx];simp
  rw[this];rfl
 unfold Go.Proofs.YtgedmeaemofdkaaGreat.pageF;rw[if_neg (by rintro⟨q1,q2⟩;exact q2 (hs q1)),g.page hi,if_neg pq,if_neg (by rw[hc];simp),if_neg (by rw[g.dirt hi];simp)]
theorem Gd.fields{i:Nat}{x:Int}(hx:x∈T i)(hk:kdA h.W x≠0):getH h x=(hdA h.W x,0)/\((Z0X h x).1.length:Int)=hlA h.W x/\∀ k:Nat,(k:Int)<hlA h.W x->(Z0X h x).1.getD k M=(loadA h.W (x+1+k)).1:=by
 have n:=g.inw hx;have r:=Z0f h.W x;have eg:getH h x=(hdA h.W x,0):=by
  unfold getH;rw[if_pos g.p,if_neg oq,g.at' hx,if_neg];rintro⟨_,q⟩;exact hk q
 have ef:Z0X h x=Z1c h.W (x+1) (hlA h.W x):=by
  unfold Z0X;rw[eg,if_pos rfl];rfl
 refine⟨eg, ?_, ?_⟩
 .rw[ef];unfold Z1c;rw[if_neg oq,if_pos oq];simp only[L6,L5];omega
 .intro k hk;rw[ef];exact Zkr r.1 oq hk
theorem Gd.good:Z0R h=⟨0,0,0⟩:=by
 have ob:=g.objs;have h1:Z5w h=Lz:=by
  unfold Z5w;rw[Lq];intro i hi;have:=g.pageF (Lp.1 hi);simp[this]
 have h2:Z0U h (Z04 h).1=⟨0,0,0⟩:=by
  unfold Z0U;have:(Lt (Z04 h).1.length).find? (λi=>(Z24 h (Z04 h).1 i).isSome)=Lz:=by
   rw[Lq];intro i hi;have hm:(Z04 h).1.getD i M∈(Z04 h).1:=getD_mem_iff.2 ⟨i,Lp.1 hi,rfl⟩;have:Z24 h (Z04 h).1 i=Lz:=by
    unfold Z24;generalize (Z04 h).1.getD i M=x at hm ⊢;obtain⟨j,hj,hkd⟩:=(ob.2 x).1 hm;have f:=g.fields hj hkd;rw[Lq];intro k hk;have hk:=Lp.1 hk;have hk2:(k:Int)<hlA h.W x:=by omega
    unfold Zcu;rw[f.1,f.2.2 k hk2];intro hc;simp only[LB,Bool.not_eq_true',decide_eq_true_eq,decide_eq_false_iff_not]at hc;rcases g.q j x k hj hkd oq hk2 hc.1.1 with q | ⟨m,q1,q2⟩
    .exact hc.1.2 q
    .exact hc.2 ((ob.2 _).2 ⟨m,q1,q2⟩)
   rw[this];simp
  rw[this]
 unfold Z0R;rw[if_pos g.p,h1];simp only[h2,ne_eq,not_true_eq_false,if_false];rw[if_neg];have:=g.cr;show ¬ h.C.pg/4<(crowd h.P:Int);omega
theorem Gd.refers{s:List Int}(hs:∀ r∈s,r=0\/Ob h T r):Z0j h s=La:=by
 unfold Z0j;rw[LB,decide_eq_true_eq];refine⟨g.good, ?_⟩;have:(Lt s.length).find? (rfsB s (Z04 h).1)=Lz:=by
  rw[Lq];intro i hi;have hm:s.getD i M∈s:=getD_mem_iff.2 ⟨i,Lp.1 hi,rfl⟩;unfold rfsB;rw[decide_eq_true_eq];rintro⟨q1,q2⟩;rcases hs _ hm with q | q
  .exact q1 q
  .exact q2 ((g.objs.2 _).2 q)
 rw[this];rfl
end
def decode_encode{hd:Header}(hv:Z0d hd=La)(hm:0<=hd.map/\hd.map<=4294967295):decodeH (Z0a hd).1=(hd,La):=by
 have b:=validH_iff.1 hv;have e1:Z0a hd=(1+4*hd.K+16*hd.length+65536*hd.map,0):=by rw[Z0a,if_pos hv]
 have e2:Z2I (1+4*hd.K+16*hd.length+65536*hd.map)=hd:=by
  obtain⟨k,l,m⟩:=hd;simp only at b hm;simp only[Z2I,Header.mk.injEq];omega
 rw[e1];unfold decodeH;simp only[e2,e1];simp
def Z8P{l l':List Page}:∀ n:Nat,(∀ i,i<n->(l'.getD i M).K=1->0<(l'.getD i M).N->(l.getD i M).K=1/\0<(l.getD i M).N)->Z0K l' n<=Z0K l n
 | 0,_=>Ll _
 | n+1,hh=>by
  have ih:=Z8P n λi hi=>hh i oq;have hn:=hh n oq;unfold Z0K;split
  .rename_i c;rw[if_pos (hn c.1 c.2)];omega
  .split<;>omega
def Z9N{l:List Page}{i:Nat}{p:Page}(hi:i<l.length):∀ n:Nat,Z0K (l.set i p) n<=Z0K l n+1/\(n<=i->Z0K (l.set i p) n<=Z0K l n)
 | 0=>⟨by simp[Z0K],λ_=>Ll _⟩
 | n+1=>by
  obtain⟨i1,i2⟩:=Z9N (p:=p) hi n;unfold Z0K;rw[Z0o hi];by_cases q:i=n
  .have:=i2 oq;subst q;refine⟨?_,λq=>by omega⟩;split<;>split<;>omega
  .rw[if_neg q];refine⟨?_,λq2=>?_⟩
   .split<;>omega
   .have:=i2 oq;split<;>omega
def Z6D{l l':List Page}(hl:l'.length=l.length)(hh:∀ i,i<l.length->(l'.getD i M).K=1->0<(l'.getD i M).N->(l.getD i M).K=1/\0<(l.getD i M).N):crowd l'<=crowd l:=by
 unfold crowd;rw[hl];exact Z8P _ hh
def Gd.P{h h':Heap}{T:Nat->List Int}(g:Gd h T)(hp:Z03 h'=La)(hc:h'.C=h.C)(hw:h'.W=h.W)(hs:h'.S=h.S)(hl:h'.P.length=h.P.length)
  (hh:∀ i,i<h.P.length->(h'.P.getD i M).K=(h.P.getD i M).K/\(h'.P.getD i M).S=(h.P.getD i M).S/\(h'.P.getD i M).U=(h.P.getD i M).U) (hcr:(crowd h'.P:Int)<=h.C.pg/4):Gd h' T:=by
 have hb:∀ i,bsP h' i=bsP h i:=λi=>by rw[bsP,bsP,hc]
 refine⟨hp, ?_, ?_, ?_, ?_,by rw[hw];exact g.d,by rw[hw];exact g.q,by rw[hc];exact hcr⟩
 .intro i hi hk;rw[hl]at hi;rw[(hh i hi).1]at hk;rw[(hh i hi).2.1,hs];exact g.sp i hi hk
 .intro i hi hk;rw[hl]at hi;rw[(hh i hi).1]at hk;rw[(hh i hi).2.2,hw,hb,hc];exact g.t1 i hi hk
 .intro i hi hk;rw[hl]at hi;rw[(hh i hi).1]at hk;rw[(hh i hi).2.2,hw,hb];exact g.t2 i hi hk
 .intro i x hx;have t:=g.t0 i x hx;rw[hl,(hh i t.1).1];exact t
def Gd.store{h:Heap}{T:Nat->List Int}(g:Gd h T){x k v:Int}(hx:Ob h T x)(hk:0<=k/\k<hlA h.W x)(hv:Z0c (hdA h.W x) k=La->v=0\/Ob h T v) :
  Gd { h with W:=(Z0D h.W (x+1+k) v).1 } T/\(∀ i y,y∈T i->(loadA (Z0D h.W (x+1+k) v).1 y).1=(loadA h.W y).1):=by
 obtain⟨j,hj,hkd⟩:=hx;have n:=g.inw hj;have hin:4096<=x+1+k/\x+1+k<4096+h.W.length:=by omega
 have hlen:=Z2x (ws:=h.W) (v:=v) hin;have key:∀ i y,y∈T i->(loadA (Z0D h.W (x+1+k) v).1 y).1=(loadA h.W y).1:=by
  intro i y hy;rw[Z0A hin];intro e;have:=g.sep hj hy oq;omega
 have ky:∀ i y,y∈T i->okA h.W y/\okA (Z0D h.W (x+1+k) v).1 y/\hlA (Z0D h.W (x+1+k) v).1 y=hlA h.W y/\kdA (Z0D h.W (x+1+k) v).1 y=kdA h.W y/\hdA (Z0D h.W (x+1+k) v).1 y=hdA h.W y/\kpA (Z0D h.W (x+1+k) v).1 y=kpA h.W y:=by
  intro i y hy;have o:=Z26 (key i y hy);have:=(g.on hy).2.2.2.2.2.1;exact⟨this,o.1 this,o.2⟩
 refine⟨⟨?_,g.sp, ?_, ?_,g.t0, ?_, ?_,g.cr⟩,key⟩
 .have q:=g.p;rw[Z1u]at q ⊢;refine⟨q.1, ?_,q.2.2.1,q.2.2.2.1,q.2.2.2.2.1,q.2.2.2.2.2⟩;simp only[hlen];exact q.2.1
 .intro i hi hk1;have t:=g.t1 i hi hk1;exact⟨Z2i t.1 λy hy=>⟨(ky i y hy).2.1,(ky i y hy).2.2.1⟩,λy hy=>by rw[(ky i y hy).2.2.1];exact t.2 y hy⟩
 .intro i hi hk2;have t:=g.t2 i hi hk2;have q:=ky i (bsP h i) (by rw[t.1];simp);refine⟨t.1,q.2.1, ?_, ?_⟩
  .exact q.2.2.1▸t.2.2.1
  .exact q.2.2.2.1▸t.2.2.2
 .intro a ha;by_cases e:a=x+1+k
  .refine⟨j,x,hj,by omega, ?_⟩;simp only;rw[(ky j x hj).2.2.2.2.2,kpA,if_neg hkd];omega
  .simp only at ha;rw[Z0A hin e]at ha;obtain⟨i,y,hy,h1,h2⟩:=g.d a ha;refine⟨i,y,hy,h1, ?_⟩;simp only;rw[(ky i y hy).2.2.2.2.2];exact h2
 .intro i y m hy hkd2 h0 h1 hp;simp only at hkd2 h1 hp ⊢;obtain⟨c0,c1,c2,c3,c4,c5⟩:=ky i y hy;rw[c3]at hkd2;rw[c2]at h1;rw[c4]at hp;have fin:∀ z,z=0\/Ob h T z->z=0\/∃ j,z∈T j/\kdA (Z0D h.W (x+1+k) v).1 z≠0:=by
   rintro z (q | ⟨b,b1,b2⟩)
   .exact Lc q
   .exact Le ⟨b,b1,by rw[(ky b z b1).2.2.2.1];exact b2⟩
  by_cases e:y+1+m=x+1+k
  .have hyx:y=x:=by
    rcases Int.lt_trichotomy y x with q | q | q
    .have:=g.sep hy hj q;omega
    .exact q
    .have:=g.sep hj hy q;omega
   subst hyx;have hmk:m=k:=by omega
   subst hmk;rw[Z2E hin];exact fin _ (hv hp)
  .rw[Z0A hin e];exact fin _ (g.q i y m hy hkd2 h0 h1 hp)
def Gd.add{h h':Heap}{T:Nat->List Int}(g:Gd h T){i:Nat}{a:Int}{hd:Header}(hv:Z0d hd=La)(hm:0<=hd.map/\hd.map<=4294967295)(hk:hd.K≠0)
  (hp:Z03 h'=La) (hc:h'.C=h.C) (hs:h'.S=h.S) (hl:h'.P.length=h.P.length) (hw:h'.W=(Z0r h.W a (objW hd)).1)
  (hin:4096<=a/\a+sizeH hd<=4096+h.W.length) (hi:i<h.P.length)
  (hj:∀ j,j<h.P.length->j≠i->h'.P.getD j M=h.P.getD j M\/((h.P.getD j M).K=0/\(h'.P.getD j M).K=3/\(h'.P.getD j M).S=h.S))
  (hI:((h.P.getD i M).K=0\/(h.P.getD i M).K=1)/\(h'.P.getD i M).K=1/\a=bsP h i+occP (h.P.getD i M)/\(h'.P.getD i M).U=occP (h.P.getD i M)+sizeH hd/\sizeH hd<=Z00 h.C\/(h.P.getD i M).K=0/\(h'.P.getD i M).K=2/\a=bsP h i/\(h'.P.getD i M).U=sizeH hd)
  (hsp:(h'.P.getD i M).S=h.S) (hcr:crowd h'.P<=crowd h.P) (hdis:∀ j x,x∈T j->x+hlA h.W x<a\/a+sizeH hd<=x) :
  Gd h' (λj=>if j=i then T i++[a]else T j)/\kdA h'.W a≠0/\hdA h'.W a=hd/\(∀ k,a<k->k<a+sizeH hd->(loadA h'.W k).1=0)/\(∀ k,k<a\/a+sizeH hd<=k->loadA h'.W k=loadA h.W k):=by
 have ow:=Zhm hv hm;have hs1:sizeH hd=hd.length+1:=by rw[sizeH,if_pos hv]
 have vb:=validH_iff.1 hv;have hin':4096<=a/\a-4096+(objW hd).length<=h.W.length:=by omega
 have out:∀ k,k<a\/a+sizeH hd<=k->loadA h'.W k=loadA h.W k:=by
  intro k hk;rw[hw];exact Z20 hin' oq
 have wa:(loadA h'.W a).1=(Z0a hd).1:=by
  rw[hw,Z1Q hin' oq];simp[objW]
 have z:∀ k,a<k->k<a+sizeH hd->(loadA h'.W k).1=0:=by
  intro k h1 h2;rw[hw,Z1Q hin' oq];have:(k-a).toNat=(k-a-1).toNat+1:=by omega
  rw[this,objW];simp[Lg,LN];split<;>rfl
 have de:=decode_encode hv hm;have ha1:hdA h'.W a=hd:=by rw[hdA,wa,de]
 have ha2:okA h'.W a:=by rw[okA,wa,de]
 have ha3:hlA h'.W a=hd.length:=by rw[hlA,wa,de]
 have ha4:kdA h'.W a≠0:=by rw[kdA,ha1];exact hk
 have hb:∀ j,bsP h' j=bsP h j:=λj=>by rw[bsP,bsP,hc]
 have ky:∀ j x,x∈T j->okA h'.W x/\hlA h'.W x=hlA h.W x/\kdA h'.W x=kdA h.W x/\hdA h'.W x=hdA h.W x/\kpA h'.W x=kpA h.W x/\∀ m,0<=m->m<=hlA h.W x->loadA h'.W (x+m)=loadA h.W (x+m):=by
  intro j x hx;have d:=hdis j x hx;have r:=Z0f h.W x;have o:=Z26 (ws:=h.W) (ws':=h'.W) (a:=x) (by rw[out x oq]);refine⟨o.1 (g.on hx).2.2.2.2.2.1,o.2.1,o.2.2.1,o.2.2.2.1,o.2.2.2.2,λm h1 h2=>out _ oq⟩
 have mem:∀ j x,x∈(if j=i then T i++[a]else T j)->x∈T j\/(j=i/\x=a):=by
  intro j x hx;split at hx
  .rename_i q;subst q;rcases Li.1 hx with hx | hx
   .exact Lc hx
   .exact Le ⟨rfl,Lj.1 hx⟩
  .exact Lc hx
 have mem2:∀ j x,x∈T j->x∈(if j=i then T i++[a]else T j):=by
  intro j x hx;split
  .rename_i q;subst q;exact Lh _ hx
  .exact hx
 have mem3:a∈(if i=i then T i++[a]else T i):=by simp
 have hnil:(h.P.getD i M).K=0->T i=[]:=λq=>L1.2 λx hx=>by have:=(g.t0 i x hx).2;omega
 refine⟨⟨hp, ?_, ?_, ?_, ?_, ?_, ?_, ?_⟩,ha4,ha1,z,out⟩
 .intro j hj1 hk1;rw[hl]at hj1;rw[hs];by_cases q:j=i
  .subst q;exact hsp
  .rcases hj j hj1 q with e | e
   .rw[e]at hk1 ⊢;exact g.sp j hj1 hk1
   .exact e.2.2
 .intro j hj1 hk1;rw[hl]at hj1;rw[hb,hc];by_cases q:j=i
  .subst q;simp only[if_true];rcases hI with⟨c1,c2,c3,c4,c5⟩ | c
   .refine⟨?_, ?_⟩
    .have last:tile h'.W a (bsP h j+(h'.P.getD j M).U) [a]:=⟨rfl,ha2,by rw[ha3];simp only[tile];omega⟩
     refine Zal (b:=a) ?_ last;rcases c1 with c1 | c1
     .rw[hnil c1];rw[occP,if_pos c1]at c3;simp only[tile];omega
     .have t:=(g.t1 j hi c1).1;rw[occP,if_neg oq]at c3;rw[c3];exact Z2i t λx hx=>⟨(ky j x hx).1,(ky j x hx).2.1⟩
    .intro x hx;rcases Li.1 hx with hx | hx
     .rw[(ky j x hx).2.1];rcases c1 with c1 | c1
      .rw[hnil c1]at hx;simp at hx
      .exact(g.t1 j hi c1).2 x hx
     .have:=Lj.1 hx;subst this;omega
   .omega
  .rw[if_neg q];rcases hj j hj1 q with e | e
   .rw[e]at hk1 ⊢;have t:=g.t1 j hj1 hk1;exact⟨Z2i t.1 λx hx=>⟨(ky j x hx).1,(ky j x hx).2.1⟩,λx hx=>by rw[(ky j x hx).2.1];exact t.2 x hx⟩
   .omega
 .intro j hj1 hk2;rw[hl]at hj1;rw[hb];by_cases q:j=i
  .subst q;simp only[if_true];rcases hI with c | ⟨c1,c2,c3,c4⟩
   .omega
   .rw[hnil c1,<- c3,ha3];exact⟨rfl,ha2,by omega,ha4⟩
  .rw[if_neg q];rcases hj j hj1 q with e | e
   .rw[e]at hk2 ⊢;have t:=g.t2 j hj1 hk2;have k:=ky j (bsP h j) (by rw[t.1];simp);exact⟨t.1,k.1,by rw[k.2.1];exact t.2.2.1,by rw[k.2.2.1];exact t.2.2.2⟩
   .omega
 .intro j x hx;rw[hl];rcases mem j x hx with hx | ⟨q,_⟩
  .have t:=g.t0 j x hx;refine⟨t.1, ?_⟩;by_cases q:j=i
   .subst q;rcases hI with c | c<;>omega
   .rcases hj j t.1 q with e | e
    .rw[e];exact t.2
    .omega
  .subst q;exact⟨hi,by rcases hI with c | c<;>omega⟩
 .intro k hk0;by_cases hr:k<a\/a+sizeH hd<=k
  .rw[out k hr]at hk0;obtain⟨j,x,hx,h1,h2⟩:=g.d k hk0;exact⟨j,x,mem2 j x hx,h1,by rw[(ky j x hx).2.2.2.2.1];exact h2⟩
  .refine⟨i,a,mem3,by omega, ?_⟩;rw[kpA,if_neg ha4,ha3];omega
 .intro j x k hx hkd h0 h1 hpt;rcases mem j x hx with hx | ⟨_,q⟩
  .have c:=ky j x hx;rw[c.2.2.1]at hkd;rw[c.2.1]at h1;rw[c.2.2.2.1]at hpt;have e:=c.2.2.2.2.2 (1+k) oq oq;rw[<- LL]at e;rw[e];rcases g.q j x k hx hkd h0 h1 hpt with q | ⟨b,b1,b2⟩
   .exact Lc q
   .exact Le ⟨b,mem2 b _ b1,by rw[(ky b _ b1).2.2.1];exact b2⟩
  .subst q;rw[ha3]at h1;exact Lc (z _ oq oq)
 .rw[hc];have:=g.cr;omega
structure NewOk (h h':Heap) (T:Nat->List Int) (hd:Header) (i:Nat) (a:Int):Prop where
 g:Gd h' (λj=>if j=i then T i++[a]else T j)
 k:kdA h'.W a≠0
 e:hdA h'.W a=hd
 z:∀ k,a<k->k<a+sizeH hd->(loadA h'.W k).1=0
 o:∀ k,k<a\/a+sizeH hd<=k->loadA h'.W k=loadA h.W k
 d:∀ j x,x∈T j->x+hlA h.W x<a\/a+sizeH hd<=x
 c:h'.C=h.C
def Zgu{c:Conf}{n:Int}(hn:¬ 0<need c n)(h0:0<=need c n):n<=Z00 c:=by
 unfold need at hn h0;split at h0
 .rename_i hc;rw[if_pos hc]at hn;have hb:=validB_iff.1 hc.1;rw[Z00,if_pos hc.1,LF oq];split at h0
  .rename_i hd;exact hd
  .rename_i hd;rw[if_neg hd]at hn;have e:=Int.mul_ediv_add_emod (n+c.pw-1) c.pw;have:=LM (n+c.pw-1) (b:=c.pw) oq;have hz:(n+c.pw-1)/c.pw=0:=by omega
   rw[hz]at e;omega
 .omega
def Gd.newOk{h:Heap}{T:Nat->List Int}(g:Gd h T){hd:Header}(hw:WOk h.W)(hm:0<=hd.map/\hd.map<=4294967295)(e:(new7 h hd).2.2=0):∃ i,NewOk h (new7 h hd).1 T hd i (new7 h hd).2.1:=by
 obtain⟨k1,k2,k3,k4,k5,k6,k7,k8⟩:=ZhZ hw hm e;obtain⟨a1,a2,a3,a4,a5⟩:=Z7w k2;have po:=Z08 g.p;have hpt:=g.p;rw[Z1u]at hpt;obtain⟨p1,p2,p3,p4,p5,p6⟩:=hpt;have hin:4096<=(put7 h hd).2.1/\(put7 h hd).2.1+sizeH hd<=4096+h.W.length:=⟨k3.lo,k3.hi⟩
 have e1:(new7 h hd).1.C=h.C:=by rw[k6];exact k3.c
 have e2:(new7 h hd).1.S=h.S:=by rw[k6];exact k3.sp
 have e3:(new7 h hd).1.P.length=h.P.length:=by rw[k6];exact k3.l
 have e4:(new7 h hd).1.W=(Z0r h.W (put7 h hd).2.1 (objW hd)).1:=by rw[k6]
 have e5:(new7 h hd).1.P=(put7 h hd).1.P:=by rw[k6]
 rw[k5];have fin:∀ i:Nat,i<h.P.length->(∀ j,j<h.P.length->j≠i->(new7 h hd).1.P.getD j M=h.P.getD j M\/((h.P.getD j M).K=0/\((new7 h hd).1.P.getD j M).K=3/\((new7 h hd).1.P.getD j M).S=h.S)) ->
   ((h.P.getD i M).K=0\/(h.P.getD i M).K=1)/\((new7 h hd).1.P.getD i M).K=1/\(put7 h hd).2.1=bsP h i+occP (h.P.getD i M)/\((new7 h hd).1.P.getD i M).U=occP (h.P.getD i M)+sizeH hd/\sizeH hd<=Z00 h.C\/(h.P.getD i M).K=0/\((new7 h hd).1.P.getD i M).K=2/\(put7 h hd).2.1=bsP h i/\((new7 h hd).1.P.getD i M).U=sizeH hd ->
   ((new7 h hd).1.P.getD i M).S=h.S->crowd (new7 h hd).1.P<=crowd h.P->(∀ j x,x∈T j->x+hlA h.W x<(put7 h hd).2.1\/(put7 h hd).2.1+sizeH hd<=x)->∃ i,NewOk h (new7 h hd).1 T hd i (put7 h hd).2.1:=by
  intro i hi hj hI hsp hcr hdis;obtain⟨q1,q2,q3,q4,q5⟩:=g.add a1 hm a5 k7 e1 e2 e3 e4 hin hi hj hI hsp hcr hdis;exact⟨i,q1,q2,q3,q4,q5,hdis,e1⟩
 rw[e5]at fin;by_cases hn:0<need h.C (sizeH hd)
 .have e7:put7 h hd=Z0s h (sizeH hd) (need h.C (sizeH hd)):=by rw[put7,if_pos hn]
  rw[e7]at k4 fin ⊢;by_cases hg:0<=first h.P (need h.C (sizeH hd))/\Z1V h.P+need h.C (sizeH hd)<=Z2c h.C
  .obtain⟨g1,g2,g3⟩:=Z1I hg.1;have el:(Z2y h.C h.P (first h.P (need h.C (sizeH hd))) h.S (sizeH hd)).1=tookP h.P (first h.P (need h.C (sizeH hd))).toNat (need h.C (sizeH hd)).toNat ⟨2,h.S,sizeH hd,0⟩ ⟨3,h.S,0,0⟩:=by
    rw[Z2y,if_pos ⟨g1,by omega⟩,Z2J,if_pos oq,if_pos g3]
   have e8:Z0s h (sizeH hd) (need h.C (sizeH hd))=(⟨h.C,h.W,tookP h.P (first h.P (need h.C (sizeH hd))).toNat (need h.C (sizeH hd)).toNat ⟨2,h.S,sizeH hd,0⟩ ⟨3,h.S,0,0⟩,h.S,h.B⟩,4096+first h.P (need h.C (sizeH hd))*h.C.pw,La):=by rw[Z0s,if_pos hg,el]
   have hf:∀ j,j<(need h.C (sizeH hd)).toNat->(h.P.getD ((first h.P (need h.C (sizeH hd))).toNat+j) M).K=0:=freeK_iff.1 g3;have hu:=Z4V g1;rw[e8]at fin ⊢;simp only at fin ⊢;generalize hk:need h.C (sizeH hd)=k at *;generalize hfi:first h.P k=f at *
   have hge:∀ j,(tookP h.P f.toNat k.toNat ⟨2,h.S,sizeH hd,0⟩ ⟨3,h.S,0,0⟩).getD j M=if j=f.toNat then⟨2,h.S,sizeH hd,0⟩else if f.toNat<j/\j<f.toNat+k.toNat then⟨3,h.S,0,0⟩else h.P.getD j M:=Z8p oq oq;have h0:=hf 0 oq;rw[Nat.add_zero]at h0;refine fin f.toNat oq ?_ ?_ ?_ ?_ ?_
   .intro j hj1 hj2;rw[hge,if_neg hj2];split
    .rename_i q;have:=hf (j-f.toNat) oq;rw[show f.toNat+(j-f.toNat)=j by omega]at this;exact Le ⟨this,rfl,rfl⟩
    .exact Lc rfl
   .rw[hge,if_pos rfl];refine Le ⟨h0,rfl, ?_,rfl⟩;rw[bsP,L0 oq]
   .rw[hge,if_pos rfl]
   .refine Z6D (Z6o oq) λj hj1 q1 q2=>?_;rw[hge]at q1 q2;split at q1
    .simp at q1
    .rename_i c1;rw[if_neg c1]at q2;split at q1
     .simp at q1
     .rename_i c2;rw[if_neg c2]at q2;exact⟨q1,q2⟩
   .intro j x hx;have o:=g.on hx;have hr:=Z0f h.W x;unfold bsP at o;have hfe:((f.toNat:Nat):Int)=f:=by omega
    by_cases q:j<f.toNat
    .have:=Z4i g.p q oq o.2.1 oq;rw[hfe]at this;omega
    .have hjk:f.toNat+k.toNat<=j:=by
      by_cases q2:f.toNat+k.toNat<=j
      .exact q2
      .have:=hf (j-f.toNat) oq;rw[show f.toNat+(j-f.toNat)=j by omega]at this;omega
     have:=LY (show f+k<=(j:Int) by omega) (show 0<=h.C.pw by omega);rw[Int.add_mul]at this;omega
  .rw[Z0s,if_neg hg]at k4;simp at k4
 .have e7:put7 h hd=Z0k h (sizeH hd):=by rw[put7,if_neg hn]
  have hsm:=Zgu hn a4;have hsw:Z00 h.C<=h.C.pw:=by
   rw[Z00,if_pos p1,LF oq];omega
  rw[e7]at k4 fin ⊢;by_cases hf:Z7f h (sizeH hd)
  .have e8:Z0k h (sizeH hd)=(⟨h.C,h.W,Z2a h.P h.B.toNat (sizeH hd),h.S,h.B⟩,4096+h.B*h.C.pw+(h.P.getD h.B.toNat M).U,La):=by rw[Z0k,if_pos hf]
   unfold Z7f at hf;have hbi:h.B.toNat<h.P.length:=by omega
   have hk:(h.P.getD h.B.toNat M).K=1:=by omega
   have hbe:((h.B.toNat:Nat):Int)=h.B:=by omega
   have hoc:occP (h.P.getD h.B.toNat M)=(h.P.getD h.B.toNat M).U:=by rw[occP,if_neg oq]
   rw[e8,Z5b]at fin;rw[e8];simp only at fin ⊢;refine fin h.B.toNat hbi ?_ ?_ ?_ ?_ ?_
   .intro j hj1 hj2;rw[Z0o hbi,if_neg (λq=>hj2 q.symm)];exact Lc rfl
   .rw[Z0o hbi,if_pos rfl,hoc];refine Lc ⟨Le hk,hk, ?_,rfl,hsm⟩;rw[bsP,hbe]
   .rw[Z0o hbi,if_pos rfl];exact hf.2.1
   .refine Z6D (by rw[Lm]) λj hj1 q1 q2=>?_;rw[Z0o hbi]at q1 q2;split at q1
    .rename_i c;rw[if_pos c]at q2;subst c;exact⟨q1,q2⟩
    .rename_i c;rw[if_neg c]at q2;exact⟨q1,q2⟩
   .intro j x hx;have:=g.free hbi (Le hk) hx;rw[hoc,bsP,hbe]at this;omega
  .by_cases hg:0<=first h.P 1/\(Z1V h.P:Int)<Z2c h.C
   .have e8:Z0k h (sizeH hd)=(⟨h.C,h.W,Z2a (Z38 h) (first h.P 1).toNat (sizeH hd),h.S,first h.P 1⟩,4096+first h.P 1*h.C.pw+((Z38 h).getD (first h.P 1).toNat M).U,La):=by rw[Z0k,if_neg hf,if_pos hg]
    obtain⟨g1,g2,g3⟩:=Z3O p4 hg.1 (sizeH hd);have g4:=congrArg Page.U (Z2Y p4 hg.1).2.2.2;simp only at g4;have hbe:(((first h.P 1).toNat:Nat):Int)=first h.P 1:=by omega
    have hoc:occP (h.P.getD (first h.P 1).toNat M)=0:=by rw[occP,if_pos g2]
    rw[e8,g1,g4]at fin;rw[e8,g4];simp only at fin ⊢;refine fin (first h.P 1).toNat g3 ?_ ?_ ?_ ?_ ?_
    .intro j hj1 hj2;rw[Z0o g3,if_neg (λq=>hj2 q.symm)];exact Lc rfl
    .rw[Z0o g3,if_pos rfl,hoc];refine Lc ⟨Lc g2,rfl, ?_,by simp,hsm⟩;rw[bsP,hbe]
    .rw[Z0o g3,if_pos rfl]
    .refine Z6D (by rw[Lm]) λj hj1 q1 q2=>?_;rw[Z0o g3]at q1 q2;split at q1
     .rename_i c;rw[if_pos c]at q2;simp at q2
     .rename_i c;rw[if_neg c]at q2;exact⟨q1,q2⟩
    .intro j x hx;have:=g.free g3 (Lc g2) hx;rw[hoc,bsP,hbe]at this;omega
   .rw[Z0k,if_neg hf,if_neg hg]at k4;simp at k4
def RtOb(h:Heap)(T:Nat->List Int)(l:List Int):Prop:=∀ r∈l,r=0\/Ob h T r
def WG(w:WorldM):Prop:=∃ T,Gd w.heap T/\RtOb w.heap T w.G/\RtOb w.heap T w.E
def NewOk.ob{h h':Heap}{T:Nat->List Int}{hd:Header}{i:Nat}{a:Int}(n:NewOk h h' T hd i a){x:Int}(hx:Ob h T x):Ob h' (λj=>if j=i then T i++[a]else T j) x:=by
 obtain⟨j,hj,hk⟩:=hx;have r:=Z0f h.W x;have o:=Z26 (ws:=h.W) (ws':=h'.W) (a:=x) (by rw[n.o x (by have:=n.d j x hj;omega)]);refine⟨j, ?_,by rw[o.2.2.1];exact hk⟩;show x∈(if j=i then T i++[a]else T j);split
 .rename_i q;subst q;exact Lh _ hj
 .exact hj
def NewOk.ob0{h h':Heap}{T:Nat->List Int}{hd:Header}{i:Nat}{a:Int}(n:NewOk h h' T hd i a):Ob h' (λj=>if j=i then T i++[a]else T j) a :=
 ⟨i,by simp,n.k⟩
def WG.put{w:WorldM}(h:WG w)(hw:WOk w.heap.W){hd:Header}(hm:0<=hd.map/\hd.map<=4294967295):WG (w.put hd):=by
 unfold WorldM.put;split
 .rename_i e;obtain⟨T,g,g1,g2⟩:=h;obtain⟨i,n⟩:=g.newOk hw hm e;refine⟨_,n.g,λr hr=>?_,λr hr=>?_⟩
  .rcases Li.1 hr with hr | hr
   .rcases g1 r hr with q | q
    .exact Lc q
    .exact Le (n.ob q)
   .have:=Lj.1 hr;subst this;exact Le n.ob0
  .rcases g2 r hr with q | q
   .exact Lc q
   .exact Le (n.ob q)
 .exact h
def WG.pick{w:WorldM}{T:Nat->List Int}(g1:RtOb w.heap T w.G)(g2:RtOb w.heap T w.E)(t:Tape):w.pick t=0\/Ob w.heap T (w.pick t):=by
 rcases Zen w t with e | e | e
 .exact Lc e
 .exact g1 _ e
 .exact g2 _ e
def Gd.setf{h:Heap}{T:Nat->List Int}(g:Gd h T)(hw:WOk h.W){a i v:Int}(hv:0<=v/\v<=18446744073709551615)(ha:Ob h T a)(hi:0<=i/\i<(getH h a).1.length)(hp:Z0c (getH h a).1 i=La->v=0\/Ob h T v):Gd (Z0p h a i v).1 T/\∀ x,Ob h T x->Ob (Z0p h a i v).1 T x:=by
 obtain⟨j,hj,hk⟩:=ha;have f:=g.fields hj hk;obtain⟨s1,s2,s3⟩:=Z7X hw hv (a:=a) (i:=i) (by rw[f.1]) hi;rw[f.1]at hi hp;have q:=g.store (v:=v) ⟨j,hj,hk⟩ hi hp;rw[s1];refine⟨q.1, ?_⟩;rintro x ⟨m,m1,m2⟩;refine⟨m,m1, ?_⟩;have:=(Z26 (q.2 m x m1)).2.2.1;simp only;rw[this];exact m2
def WG.link{w:WorldM}{n:Nat}(h:WG w)(hm:MOk w n)(hn:n<=1000000)(t:Tape):WG (w.link t):=by
 unfold WorldM.link;split
 .rename_i hc;obtain⟨T,g,g1,g2⟩:=h;have hw:=hm.wm hn;have gg:=Z4l hc.1;have n1:=Z0P (w.pickT (w.pickT t)) (n:=8) dd;have hi:0<=Z5H w t/\Z5H w t<(getH w.heap (w.pick t)).1.length:=by
   unfold Z5H;rw[LZ n1.1];exact⟨LW _ oq,LM _ oq⟩
  have hv:0<=Z62 w t/\Z62 w t<=18446744073709551615:=by
   unfold Z62;split
   .exact Z3h hw _
   .have:=Z0P ((w.pickT (w.pickT t)).step 8) (n:=1048576) dd;omega
  have ho:Ob w.heap T (w.pick t):=by
   rcases WG.pick g1 g2 t with q | q
   .omega
   .exact q
  have s:=g.setf hm.W hv ho hi (λq=>by
   unfold Z62;rw[if_pos q];exact WG.pick g1 g2 _)
  exact⟨T,s.1,λr hr=>(g1 r hr).imp id (s.2 r),λr hr=>(g2 r hr).imp id (s.2 r)⟩
 .exact h
def WG.pinned{w:WorldM}(h:WG w){i:Nat}{d:Int}(hp:Z03 (pinB w i d).heap=La)(hi:i<w.heap.P.length)(hd:d=-1\/0<(w.heap.P.getD i M).N\/(w.heap.P.getD i M).K=2\/(crowd w.heap.P:Int)<w.heap.C.pg/4):WG (pinB w i d):=by
 obtain⟨T,g,g1,g2⟩:=h;have pp:=Z0J g.p hi;have ks:∀ j,j<w.heap.P.length->((pinB w i d).heap.P.getD j M).K=(w.heap.P.getD j M).K/\((pinB w i d).heap.P.getD j M).S=(w.heap.P.getD j M).S/\((pinB w i d).heap.P.getD j M).U=(w.heap.P.getD j M).U:=by
  intro j hj;simp only[pinB];rw[Z0o hi];split
  .rename_i q;subst q;exact⟨rfl,rfl,rfl⟩
  .exact⟨rfl,rfl,rfl⟩
 have hcr:(crowd (pinB w i d).heap.P:Int)<=w.heap.C.pg/4:=by
  have c0:=g.cr;have mono:(0<(w.heap.P.getD i M).N+d->(w.heap.P.getD i M).K=1->0<(w.heap.P.getD i M).N)->(crowd (pinB w i d).heap.P:Int)<=w.heap.C.pg/4:=by
   intro hh;have:crowd (pinB w i d).heap.P<=crowd w.heap.P:=by
    refine Z6D (by simp[pinB]) λj hj q1 q2=>?_;simp only[pinB]at q1 q2;rw[Z0o hi]at q1 q2;split at q1
    .rename_i c;rw[if_pos c]at q2;subst c;exact⟨q1,hh q2 q1⟩
    .rename_i c;rw[if_neg c]at q2;exact⟨q1,q2⟩
   omega
  rcases hd with q | q | q | q
  .exact mono oq
  .exact mono oq
  .exact mono oq
  .have:=(Z9N (p:=⟨(w.heap.P.getD i M).K,(w.heap.P.getD i M).S,(w.heap.P.getD i M).U,(w.heap.P.getD i M).N+d⟩) hi w.heap.P.length).1;have e:crowd (pinB w i d).heap.P=Z0K (w.heap.P.set i ⟨(w.heap.P.getD i M).K,(w.heap.P.getD i M).S,(w.heap.P.getD i M).U,(w.heap.P.getD i M).N+d⟩) w.heap.P.length:=by
    simp only[crowd,pinB,Lm]
   have e2:crowd w.heap.P=Z0K w.heap.P w.heap.P.length:=rfl;omega
 exact⟨T,g.P hp rfl rfl rfl (by simp[pinB]) ks hcr,g1,g2⟩
def WG.pok{w:WorldM}(h:WG w):POk w:=by
 obtain⟨T,g,g1,g2⟩:=h;have k:∀ l,RtOb w.heap T l->∀ r∈l,RootOn w.heap r:=λl hl r hr=>by
  rcases hl r hr with rfl | ⟨j,hj,_⟩
  .exact Zoj _
  .intro _;rw[g.ofx hj];simpa using (g.on hj).2.1
 exact⟨g.p,k _ g1,k _ g2⟩
def WG.pin{w:WorldM}{n:Nat}(h:WG w)(hm:MOk w n)(hn:n<=1000000)(t:Tape):WG (w.pin t):=by
 have p1:=(h.pok.pin hm hn t).p;unfold WorldM.pin at p1 ⊢;split
 .rename_i e;rw[if_pos e]at p1;have o:=Z3x hm.hv e;have hpl:=hm.pl;have hi:pinI w t<w.heap.P.length:=by unfold pinI;omega
  split
  .rename_i c;rw[if_pos c]at p1;exact h.pinned p1 hi (Lc rfl)
  .rename_i c;rw[if_neg c]at p1;split
   .rename_i c2;rw[if_pos c2]at p1;exact h.pinned p1 hi (Le c2)
   .exact h
 .exact h
def WG.drop{w:WorldM}(h:WG w)(t:Tape):WG (w.drop t):=by
 unfold WorldM.drop;split
 .rename_i hl;obtain⟨T,g,g1,g2⟩:=h;have n1:=Z0P t (n:=(w.G.length:Int)) oq;refine⟨T,g,λr hr=>?_,λr hr=>?_⟩
  .rcases Li.1 hr with hr | hr
   .exact g1 r (LS hr)
   .exact g1 r (LR hr)
  .simp only at hr;split at hr
   .rcases Li.1 hr with hr | hr
    .exact g2 r hr
    .simp only[Lj]at hr;subst hr;refine g1 _ (getD_mem_iff.2 ⟨_, ?_,rfl⟩);unfold Zk6;omega
   .exact g2 r hr
 .exact h
def WG.dup{w:WorldM}(h:WG w)(t:Tape):WG (w.dup t):=by
 obtain⟨T,g,g1,g2⟩:=h;refine⟨T,g,λr hr=>?_,g2⟩;rcases Li.1 hr with hr | hr
 .exact g1 r hr
 .simp only[Lj]at hr;subst hr;exact WG.pick g1 g2 _
def Zkl(t:Tape):WG t.empty:=by
 have hpr:=(Zi9 t).p;have hv:=Z2F t;have hb:=validB_iff.1 hv;have hz:∀ j,(t.empty.heap.P.getD j M).K=0/\(t.empty.heap.P.getD j M).N=0:=by
  intro j;simp only[Tape.empty,Z2M,Lg,LN];split
  .exact⟨rfl,rfl⟩
  .exact⟨rfl,rfl⟩
 refine⟨λ_=>[],⟨hpr, ?_, ?_, ?_,by simp, ?_,by simp, ?_⟩,by simp[RtOb,Tape.empty],by simp[RtOb,Tape.empty]⟩
 .intro i _ hk;exact absurd (hz i).1 hk
 .intro i _ hk;rw[(hz i).1]at hk;omega
 .intro i _ hk;rw[(hz i).1]at hk;omega
 .intro a ha;exfalso;apply ha;show(loadA (Ly (t.C.pw*t.C.pg).toNat 0) a).1=0;unfold loadA;by_cases c:4096<=a/\a<4096+((Ly (t.C.pw*t.C.pg).toNat (0:Int)).length:Int)
  .rw[if_pos c];simp only[Lg,LN];split<;>rfl
  .rw[if_neg c]
 .have:crowd t.empty.heap.P=0:=by
   have h0:∀ n,Z0K t.empty.heap.P n=0:=by
    intro n;induction n with
    | zero=>rfl
    | succ n ih =>
     unfold Z0K;rw[ih,if_neg (by rw[(hz n).1];omega)]
   exact h0 _
  rw[this];show(0:Int)<=t.C.pg/4;omega
def Za3{w:Work}{n:Int}(hw:WkOk w)(hn:1<=n/\n<=w.heap.C.pw)(h:(w.place n).2.2=La) :
  ∃ (i:Nat) (p:Page) (t:List Int),i<w.heap.P.length/\((w.heap.P.getD i M).K=0/\t=w.T++[(i:Int)]/\p.N=0\/(i:Int)∈w.T/\(w.heap.P.getD i M).K=1/\t=w.T/\p.N=(w.heap.P.getD i M).N)/\p.K=1/\p.U=occP (w.heap.P.getD i M)+n/\occP (w.heap.P.getD i M)+n<=w.heap.C.pw/\0<=occP (w.heap.P.getD i M)/\(w.place n).2.1=4096+i*w.heap.C.pw+occP (w.heap.P.getD i M) /\
  (w.place n).1=⟨⟨w.heap.C,w.heap.W,w.heap.P.set i p,w.heap.S,w.heap.B⟩,w.old,t,w.Q,w.D,w.rep⟩:=by
 by_cases hf:Z4u w n
 .have e:w.place n=(⟨⟨w.heap.C,w.heap.W,Z2a w.heap.P (Z0S w).toNat n,w.heap.S,w.heap.B⟩,w.old,w.T,w.Q,w.D,w.rep⟩,4096+Z0S w*w.heap.C.pw+(w.heap.P.getD (Z0S w).toNat M).U,La):=by rw[Work.place,if_pos hf]
  unfold Z4u at hf;have hm:=hw.tk _ (Z1s hf.1);have hu:=hw.us (Z0S w).toNat oq
  have hoc:occP (w.heap.P.getD (Z0S w).toNat M)=(w.heap.P.getD (Z0S w).toNat M).U:=by rw[occP,if_neg oq]
  have hle:(((Z0S w).toNat:Nat):Int)=Z0S w:=by omega
  refine⟨(Z0S w).toNat,⟨(w.heap.P.getD (Z0S w).toNat M).K,(w.heap.P.getD (Z0S w).toNat M).S,(w.heap.P.getD (Z0S w).toNat M).U+n,(w.heap.P.getD (Z0S w).toNat M).N⟩,w.T,by omega,Le ⟨by rw[hle];exact Z1s hf.1,hm.2.2,rfl,rfl⟩,hm.2.2, ?_,by rw[hoc];omega,by rw[hoc];omega, ?_, ?_⟩
  .rw[hoc]
  .rw[e,hoc,hle]
  .rw[e,Z5b]
 .by_cases hg:0<=Z0q w
  .have e:w.place n=(⟨⟨w.heap.C,w.heap.W,Z2a (Z2w w) (Z0q w).toNat n,w.heap.S,w.heap.B⟩,w.old,w.T++[Z0q w],w.Q,w.D,w.rep⟩,4096+Z0q w*w.heap.C.pw,La):=by rw[Work.place,if_neg hf,if_pos hg]
   obtain⟨g1,g2,g3⟩:=Z3O (h:=⟨w.heap.C,w.heap.W,w.heap.P,1-w.heap.S,w.heap.B⟩) (by have:=hw.sp;simp only;omega) hg n;have g1':Z2a (Z2w w) (Z0q w).toNat n=w.heap.P.set (Z0q w).toNat ⟨1,1-w.heap.S,n,0⟩:=g1;have g2':(w.heap.P.getD (Z0q w).toNat M).K=0:=g2;have g3':(Z0q w).toNat<w.heap.P.length:=g3;have hoc:occP (w.heap.P.getD (Z0q w).toNat M)=0:=by rw[occP,if_pos g2']
   have hle:(((Z0q w).toNat:Nat):Int)=Z0q w:=by omega
   refine⟨(Z0q w).toNat,⟨1,1-w.heap.S,n,0⟩,w.T++[Z0q w],g3',Lc ⟨g2',by rw[hle],rfl⟩,rfl,by rw[hoc];simp,by rw[hoc];omega,by rw[hoc];omega, ?_, ?_⟩
   .rw[e,hoc,hle];simp
   .rw[e,g1']
  .rw[Work.place,if_neg hf,if_neg hg]at h;simp at h
structure KI (h:Heap) (T tq:Nat->List Int) (w:Work):Prop where
 c:w.heap.C=h.C
 sp:w.heap.S=h.S
 old:∀ x,x∈w.old↔Ob h T x
 pl:w.heap.P.length=h.P.length
 wl:w.heap.W.length=h.W.length
 pg:∀ i:Nat,(i:Int)∉w.T->(w.heap.P.getD i M).K=(h.P.getD i M).K/\(w.heap.P.getD i M).U=(h.P.getD i M).U/\(w.heap.P.getD i M).N=(h.P.getD i M).N
 tk:∀ i:Nat,(i:Int)∈w.T->i<h.P.length/\(h.P.getD i M).K=0/\(w.heap.P.getD i M).K=1/\(w.heap.P.getD i M).N=0/\(w.heap.P.getD i M).U<=h.C.pw/\tile w.heap.W (bsP h i) (bsP h i+(w.heap.P.getD i M).U) (tq i)/\∀ x∈tq i,x∈w.Q/\kdA w.heap.W x≠0/\hlA w.heap.W x+1<=Z00 h.C
 tk0:∀ i:Nat,(i:Int)∉w.T->tq i=[]
 q:∀ x∈w.Q,(∃ i:Nat,(i:Int)∉w.T/\x∈T i/\kdA h.W x≠0/\(w.heap.P.getD i M).S≠w.heap.S)\/(∃ i:Nat,(i:Int)∈w.T/\x∈tq i)
 hd:∀ i x,x∈T i->(loadA w.heap.W x).1=(loadA h.W x).1\/((Z0n (loadA w.heap.W x).1).2=La/\(w.heap.P.getD i M).K=1/\(w.heap.P.getD i M).S=w.heap.S)
 dt:∀ a,(loadA w.heap.W a).1≠0->(∃ i x,x∈T i/\x<=a/\a<x+kpA h.W x)\/(∃ i:Nat,(i:Int)∈w.T/\bsP h i<=a/\a<bsP h i+(w.heap.P.getD i M).U)
 lg:∀ i:Nat,(h.P.getD i M).K=2->(w.heap.P.getD i M).S≠w.heap.S->bsP h i∈w.Q
section
variable {h:Heap} {T:Nat->List Int} (g:Gd h T)
include g
theorem KI.nt{tq:Nat->List Int}{w:Work}(k:KI h T tq w){i:Nat}{x:Int}(hx:x∈T i):(i:Int)∉w.T:=by
 intro q;have:=(k.tk i q).2.1;have:=(g.t0 i x hx).2;omega
theorem KI.sepT{tq:Nat->List Int}{w:Work}(k:KI h T tq w){i j:Nat}{x y:Int}(hi:(i:Int)∈w.T)(hx:x∈tq i)(hy:y∈T j):bsP h i<=x/\x+hlA w.heap.W x<bsP h i+h.C.pw/\(y+hlA h.W y<bsP h i\/bsP h i+h.C.pw<=y):=by
 have t:=k.tk i hi;have m:=Z1A t.2.2.2.2.2.1 hx;have f:=g.free t.1 (Lc t.2.1) hy;rw[occP,if_pos t.2.1]at f;exact⟨m.2.1,by omega,by omega⟩
omit g in
theorem KI.sepQ(g:Gd h T){tq:Nat->List Int}{w:Work}(k:KI h T tq w){i j:Nat}{x y:Int}(hi:(i:Int)∈w.T)(hx:x∈tq i)(hj:(j:Int)∈w.T)(hy:y∈tq j)(hxy:x<y):x+hlA w.heap.W x<y:=by
 have t:=k.tk i hi;have u:=k.tk j hj;have m:=Z1A t.2.2.2.2.2.1 hx;have n:=Z1A u.2.2.2.2.2.1 hy;have po:=Z08 g.p;have r:=Z0f w.heap.W y;unfold bsP at m n;rcases LI i j with q | q | q
 .have:=Z11 (i:=i) (j:=j) (pw:=h.C.pw) oq oq;omega
 .subst q;exact Zbt t.2.2.2.2.2.1 hx hy hxy
 .have:=Z11 (i:=j) (j:=i) (pw:=h.C.pw) oq oq;omega
theorem KI.withWords{tq:Nat->List Int}{w:Work}(k:KI h T tq w){l:List Int}(hl:l.length=w.heap.W.length)(h1:∀ i x,x∈T i->(loadA l x).1=(loadA w.heap.W x).1)(h2:∀ (i:Nat) x,(i:Int)∈w.T->x∈tq i->(loadA l x).1=(loadA w.heap.W x).1)
  (h3:∀ a,(loadA l a).1≠0->(loadA w.heap.W a).1≠0\/(∃ i x,x∈T i/\x<=a/\a<x+kpA h.W x)\/(∃ i:Nat,(i:Int)∈w.T/\bsP h i<=a/\a<bsP h i+(w.heap.P.getD i M).U)) :
  KI h T tq ⟨⟨w.heap.C,l,w.heap.P,w.heap.S,w.heap.B⟩,w.old,w.T,w.Q,w.D,w.rep⟩:=by
 refine⟨k.c,k.sp,k.old,k.pl,hl.trans k.wl,k.pg, ?_,k.tk0,k.q, ?_, ?_,k.lg⟩
 .intro i hi;obtain⟨t1,t2,t3,t4,t5,t6,t7⟩:=k.tk i hi;have ky:=λx hx=>Z26 (h2 i x hi hx);refine⟨t1,t2,t3,t4,t5,Z2i t6 λx hx=>⟨(ky x hx).1 (Z1A t6 hx).1,(ky x hx).2.1⟩,λx hx=>?_⟩;have:=t7 x hx;simp only;rw[(ky x hx).2.2.1,(ky x hx).2.1];exact this
 .intro i x hx;simp only;rw[h1 i x hx];exact k.hd i x hx
 .intro a ha;rcases h3 a ha with q | q
  .exact k.dt a q
  .exact q
theorem KI.keep{tq:Nat->List Int}{w:Work}(k:KI h T tq w){r:Int}{i:Nat}(hi:r∈T i)(hk:kdA h.W r≠0)(hs:(w.heap.P.getD i M).S≠w.heap.S):KI h T tq (w.keep r):=by
 refine⟨k.c,k.sp,k.old,k.pl,k.wl,k.pg, ?_,k.tk0, ?_,k.hd,k.dt, ?_⟩
 .intro j hj;obtain⟨t1,t2,t3,t4,t5,t6,t7⟩:=k.tk j hj;exact⟨t1,t2,t3,t4,t5,t6,λx hx=>⟨Lh _ (t7 x hx).1,(t7 x hx).2⟩⟩
 .intro x hx;simp only[Work.keep,Li,Lj]at hx;rcases hx with hx | rfl
  .exact k.q x hx
  .exact Lc ⟨i,k.nt g hi,hi,hk,hs⟩
 .intro j h1 h2;exact Lh _ (k.lg j h1 h2)
theorem KI.flip{tq:Nat->List Int}{w:Work}(k:KI h T tq w)(hw:WkOk w){r:Int}{i:Nat}(hi:r∈T i)(hk:kdA h.W r≠0)(h2:(w.heap.P.getD i M).K=2):KI h T tq ((w.flip i).keep r):=by
 have hil:=(g.t0 i r hi).1;have hpl:=k.pl;have hsp:=hw.sp;have hu:∀ j,((Z0F w.heap.P i (Z0w w.heap.P i) (1-w.heap.S)).getD j M).K=(w.heap.P.getD j M).K/\((Z0F w.heap.P i (Z0w w.heap.P i) (1-w.heap.S)).getD j M).U=(w.heap.P.getD j M).U/\((Z0F w.heap.P i (Z0w w.heap.P i) (1-w.heap.S)).getD j M).N=(w.heap.P.getD j M).N:=by
  intro j;by_cases hj:j<w.heap.P.length
  .rw[Z1v hj];split
   .exact⟨rfl,rfl,rfl⟩
   .exact⟨rfl,rfl,rfl⟩
  .rw[Lg,Lg,Ln (by rw[Z1r];omega),Ln oq];exact⟨rfl,rfl,rfl⟩
 have hs1:∀ j,(w.heap.P.getD j M).K=1->((Z0F w.heap.P i (Z0w w.heap.P i) (1-w.heap.S)).getD j M).S=(w.heap.P.getD j M).S:=by
  intro j hj;by_cases hjl:j<w.heap.P.length
  .rw[Z1v hjl];split
   .rename_i c;exfalso;by_cases q:j=i
    .subst q;omega
    .have:=(Z8Z (l:=w.heap.P) (i:=i) (m:=j-i-1) oq).2;rw[show i+1+(j-i-1)=j by omega]at this;omega
   .rfl
  .rw[Lg,Lg,Ln (by rw[Z1r];omega),Ln oq]
 have hs2:∀ j,(w.heap.P.getD j M).S≠w.heap.S->((Z0F w.heap.P i (Z0w w.heap.P i) (1-w.heap.S)).getD j M).S≠w.heap.S:=by
  intro j hj;by_cases hjl:j<w.heap.P.length
  .rw[Z1v hjl];split
   .simp only[Zcx];omega
   .exact hj
  .rw[Lg,Ln (by rw[Z1r];omega)];rw[Lg,Ln oq]at hj;exact hj
 have hs3:∀ j,(w.heap.P.getD j M).K=2->j≠i->((Z0F w.heap.P i (Z0w w.heap.P i) (1-w.heap.S)).getD j M).S=(w.heap.P.getD j M).S:=by
  intro j hj hne;by_cases hjl:j<w.heap.P.length
  .rw[Z1v hjl];split
   .rename_i c;exfalso;have:=(Z8Z (l:=w.heap.P) (i:=i) (m:=j-i-1) oq).2;rw[show i+1+(j-i-1)=j by omega]at this;omega
   .rfl
  .rw[Lg,Ln oq]at hj;have d:(M:Page).K=0:=rfl;simp only[LU]at hj;omega
 have hsi:((Z0F w.heap.P i (Z0w w.heap.P i) (1-w.heap.S)).getD i M).S≠w.heap.S:=by
  rw[Z1v oq,if_pos ⟨Ll _,Xb _ _⟩];simp only[Zcx];omega
 have kf:KI h T tq ⟨⟨w.heap.C,w.heap.W,Z0F w.heap.P i (Z0w w.heap.P i) (1-w.heap.S),w.heap.S,w.heap.B⟩,w.old,w.T,w.Q++[r],w.D,w.rep⟩:=by
  refine⟨k.c,k.sp,k.old,by simp only[Z1r];exact k.pl,k.wl, ?_, ?_,k.tk0, ?_, ?_, ?_, ?_⟩
  .intro j hj;simp only[hu];exact k.pg j hj
  .intro j hj;simp only[hu];obtain⟨t1,t2,t3,t4,t5,t6,t7⟩:=k.tk j hj;exact⟨t1,t2,t3,t4,t5,t6,λx hx=>⟨Lh _ (t7 x hx).1,(t7 x hx).2⟩⟩
  .intro x hx;simp only[Li,Lj]at hx;rcases hx with hx | rfl
   .rcases k.q x hx with⟨j,j1,j2,j3,j4⟩ | q
    .exact Lc ⟨j,j1,j2,j3,hs2 j j4⟩
    .exact Le q
   .exact Lc ⟨i,k.nt g hi,hi,hk,hsi⟩
  .intro j x hx;rcases k.hd j x hx with q | q
   .exact Lc q
   .refine Le ⟨q.1, ?_, ?_⟩
    .simp only[hu];exact q.2.1
    .simp only;rw[hs1 j q.2.1];exact q.2.2
  .intro a ha;simp only[hu];exact k.dt a ha
  .intro j h1 h2';simp only at h2' ⊢;by_cases q:j=i
   .subst q;have:=(g.on hi).2.2.2.2.2.2 h1;rw[<- this.1];simp
   .have hjt:(j:Int)∉w.T:=λq=>by have:=(k.tk j q).2.1;omega
    rw[hs3 j (by rw[(k.pg j hjt).1];exact h1) q]at h2';exact Lh _ (k.lg j h1 h2')
 exact⟨kf.c,kf.sp,kf.old,kf.pl,kf.wl,kf.pg,kf.tk,kf.tk0,kf.q,kf.hd,kf.dt,kf.lg⟩
end
section
variable {h:Heap} {T:Nat->List Int} (g:Gd h T)
include g
theorem KI.copy{tq:Nat->List Int}{w:Work}(k:KI h T tq w)(hw:WkOk w){r n:Int}{i0:Nat}(hr:r∈T i0)(hkd:kdA h.W r≠0)(h1:(h.P.getD i0 M).K=1)(hs:(w.heap.P.getD i0 M).S=w.heap.S)(he:(loadA w.heap.W r).1=(loadA h.W r).1)
  (hn:n=hlA w.heap.W r+1) (hp:n<=w.heap.C.pw) (hc:(w.place n).2.2=La):∃ tq',KI h T tq' ((w.place n).1.copy r (w.place n).2.1 n):=by
 have hlr:=Z0f w.heap.W r;have ey:=Z26 he;obtain⟨i,p,t,p1,p2,p3,p4,p5,p6,p7,e⟩:=Za3 hw ⟨by omega,hp⟩ hc;have hcc:=k.c;have hpl:=k.pl;have hwl:=k.wl;have po:=Z08 g.p;have hin:=g.inw hr;have hki:(h.P.getD i M).K=0:=by
  rcases p2 with q | q
  .by_cases c:(i:Int)∈w.T
   .exact(k.tk i c).2.1
   .rw[<- (k.pg i c).1];exact q.1
  .exact(k.tk i q.1).2.1
 have hio:=Z11 (i:=i) (j:=h.C.pg) (pw:=h.C.pw) oq oq;rw[LC h.C.pg]at hio;have hi0:0<=(i:Int)*h.C.pw:=LD oq oq;rw[hcc]at p5 p7 hp;have hbp:4096+(i:Int)*h.C.pw=bsP h i:=rfl;rw[e,p7,hbp];generalize hu:occP (w.heap.P.getD i M)=u at *;generalize ha:bsP h i+u=a;have hbl:4096<=a/\a+n<=4096+w.heap.W.length:=by omega
 have far:∀ j x,x∈T j->x+hlA h.W x<bsP h i\/bsP h i+h.C.pw<=x:=by
  intro j x hx;have:=g.free (show i<h.P.length by omega) (Lc hki) hx;rw[occP,if_pos hki]at this;omega
 have farr:=far i0 r hr;obtain⟨m1,m2,m3⟩:=Z8v (ws:=w.heap.W) (a:=a) (b:=r) (n:=n) oq oq oq;have hsr:4096<=r/\r<4096+(moveA w.heap.W a r n).1.length:=by omega
 have w1:∀ x,x≠r->(x<a\/a+n<=x)->loadA (Z0D (moveA w.heap.W a r n).1 r (4*a+2)).1 x=loadA w.heap.W x:=λx q1 q2=>by rw[Z0A hsr q1,m3 x q2]
 have w2:(loadA (Z0D (moveA w.heap.W a r n).1 r (4*a+2)).1 r).1=4*a+2:=by rw[Z2E hsr]
 have w3:(loadA (Z0D (moveA w.heap.W a r n).1 r (4*a+2)).1 a).1=(loadA w.heap.W r).1:=by rw[Z0A hsr oq,m2]
 have hlen:(Z0D (moveA w.heap.W a r n).1 r (4*a+2)).1.length=w.heap.W.length:=by rw[Z2x hsr,m1]
 have hit:(i:Int)∈t:=by rcases p2 with q | q;(rw[q.2.1];simp);(rw[q.2.2.1];exact q.1)
 have htt:∀ x,x∈t↔x∈w.T\/x=(i:Int):=by
  intro x;rcases p2 with q | q
  .rw[q.2.1];simp
  .rw[q.2.2.1];exact⟨Lc,λc=>c.elim id λc=>c▸q.1⟩
 have w4:∀ (j:Nat) x,(j:Int)∈w.T->x∈tq j->x≠r/\(x<a\/a+n<=x)/\(j=i->x+hlA w.heap.W x<a):=by
  intro j x hj hx;have s:=k.sepT g hj hx hr;have rx:=Z0f w.heap.W x;have t:=k.tk j hj;have m:=Z1A t.2.2.2.2.2.1 hx;refine⟨by omega, ?_⟩;rcases LI j i with q | q | q
  .have:=Z11 (i:=j) (j:=i) (pw:=h.C.pw) oq oq;unfold bsP at s;rw[<- hbp]at ha;exact⟨Lc oq,λq2=>by omega⟩
  .subst q;have:u=(w.heap.P.getD j M).U:=by rw[<- hu,occP,if_neg oq]
   exact⟨Lc oq,λ_=>by omega⟩
  .have:=Z11 (i:=i) (j:=j) (pw:=h.C.pw) oq oq;unfold bsP at s;rw[<- hbp]at ha;exact⟨Le oq,λq2=>by omega⟩
 have kq:∀ (j:Nat) x,(j:Int)∈w.T->x∈tq j->(loadA (Z0D (moveA w.heap.W a r n).1 r (4*a+2)).1 x).1=(loadA w.heap.W x).1:=λj x hj hx=>by
  have:=w4 j x hj hx;rw[w1 x this.1 this.2.1]
 refine⟨λj=>if j=i then tq i++[a]else tq j,k.c,k.sp,k.old, ?_, ?_, ?_, ?_, ?_, ?_, ?_, ?_, ?_⟩
 .simp only[Work.copy,Lm];exact k.pl
 .simp only[Work.copy,hlen];exact k.wl
 .intro j hj;simp only[Work.copy]at hj ⊢;have hj':=λq=>hj ((htt _).2 (Lc q));have hne:¬ i=j:=λq=>hj (q▸hit);rw[Z0o p1,if_neg hne];exact k.pg j hj'
 .intro j hj;simp only[Work.copy]at hj ⊢;rw[Z0o p1];by_cases q:i=j
  .subst q;rw[if_pos rfl];simp only[if_true];have ka:=Z26 (ws:=w.heap.W) (ws':=(Z0D (moveA w.heap.W a r n).1 r (4*a+2)).1) (a:=a);have ke:hdA (Z0D (moveA w.heap.W a r n).1 r (4*a+2)).1 a=hdA h.W r:=by rw[hdA,hdA,w3,he]
   have kl:hlA (Z0D (moveA w.heap.W a r n).1 r (4*a+2)).1 a=n-1:=by
    have:hlA (Z0D (moveA w.heap.W a r n).1 r (4*a+2)).1 a=hlA w.heap.W r:=by rw[hlA,hlA,w3]
    omega
   have kk:okA (Z0D (moveA w.heap.W a r n).1 r (4*a+2)).1 a:=by
    have:=(g.on hr).2.2.2.2.2.1;rw[okA]at this ⊢;rw[w3,he];exact this
   refine⟨by omega,hki,p3, ?_,by omega, ?_, ?_⟩
   .rcases p2 with q | q
    .exact q.2.2
    .rw[q.2.2.2];exact(k.tk i q.1).2.2.2.1
   .refine Zal (b:=a) ?_ ⟨rfl,kk,by rw[kl];simp only[tile];omega⟩;by_cases c:(i:Int)∈w.T
    .have t:=k.tk i c;have hue:u=(w.heap.P.getD i M).U:=by rw[<- hu,occP,if_neg oq]
     have t6:=t.2.2.2.2.2.1;rw[<- hue,ha]at t6;exact Z2i t6 λx hx=>⟨(Z26 (kq i x c hx)).1 (Z1A t6 hx).1,(Z26 (kq i x c hx)).2.1⟩
    .rw[k.tk0 i c];have hue:u=0:=by
      rcases p2 with q | q
      .rw[<- hu,occP,if_pos q.1]
      .exact absurd q.1 c
     simp only[tile];omega
   .intro x hx;rcases Li.1 hx with hx | hx
    .by_cases c:(i:Int)∈w.T
     .have t:=(k.tk i c).2.2.2.2.2.2 x hx;have o:=Z26 (kq i x c hx);rw[o.2.2.1,o.2.1];exact⟨Lh _ t.1,t.2⟩
     .rw[k.tk0 i c]at hx;simp at hx
    .have:=Lj.1 hx;subst this;refine⟨by simp,by rw[kdA,ke];exact hkd, ?_⟩;have:=(g.t1 i0 (g.t0 i0 r hr).1 h1).2 r hr;rw[kl];have:=ey.2.1;omega
  .rw[if_neg q];have hj':(j:Int)∈w.T:=by
    rcases(htt _).1 hj with c | c
    .exact c
    .omega
   obtain⟨t1,t2,t3,t4,t5,t6,t7⟩:=k.tk j hj';simp only[show ¬ j=i from λc=>q c.symm,if_false];refine⟨t1,t2,t3,t4,t5,Z2i t6 λx hx=>⟨(Z26 (kq j x hj' hx)).1 (Z1A t6 hx).1,(Z26 (kq j x hj' hx)).2.1⟩,λx hx=>?_⟩;have o:=Z26 (kq j x hj' hx);rw[o.2.2.1,o.2.1];exact⟨Lh _ (t7 x hx).1,(t7 x hx).2⟩
 .intro j hj;simp only[Work.copy]at hj;have hne:¬ j=i:=λq=>hj (q▸hit);simp only[hne,if_false];exact k.tk0 j λq=>hj ((htt _).2 (Lc q))
 .intro x hx;simp only[Work.copy,Li,Lj]at hx ⊢;rcases hx with hx | rfl
  .rcases k.q x hx with⟨j,j1,j2,j3,j4⟩ | ⟨j,j1,j2⟩
   .have hne:¬ i=j:=by
     rintro rfl;have:=(g.t0 i x j2).2;omega
    refine Lc ⟨j,λc=>?_,j2,j3,by rw[Z0o p1,if_neg hne];exact j4⟩;rcases(htt _).1 c with c | c
    .exact j1 c
    .omega
   .refine Le ⟨j,(htt _).2 (Lc j1), ?_⟩;split
    .rename_i q;subst q;exact Lh _ j2
    .exact j2
  .exact Le ⟨i,hit,by simp⟩
 .intro j x hx;simp only[Work.copy];have hne:¬ i=j:=by
   rintro rfl;have:=(g.t0 i x hx).2;omega
  rw[Z0o p1,if_neg hne];by_cases q:x=r
  .subst q;refine Le ⟨by rw[w2,Z9C oq oq], ?_, ?_⟩
   .have e1:=g.ofx hx;have e2:=g.ofx hr;rw[e1]at e2;have:j=i0:=by simp only[Prod.mk.injEq]at e2;omega
    subst this;rw[(k.pg j (k.nt g hx)).1];exact h1
   .have e1:=g.ofx hx;have e2:=g.ofx hr;rw[e1]at e2;have:j=i0:=by simp only[Prod.mk.injEq]at e2;omega
    subst this;exact hs
  .have f:=far j x hx;have rx:=Z0f h.W x;rw[w1 x q oq];exact k.hd j x hx
 .intro b hb;simp only[Work.copy]at hb ⊢;by_cases q:a<=b/\b<a+n
  .exact Le ⟨i,hit,by omega,by rw[Z0o p1,if_pos rfl];omega⟩
  .by_cases q2:b=r
   .refine Lc ⟨i0,r,hr,by omega, ?_⟩;rw[kpA,if_neg hkd];have:=Z0f h.W r;omega
   .rw[w1 b q2 oq]at hb;rcases k.dt b hb with c | ⟨j,j1,j2,j3⟩
    .exact Lc c
    .refine Le ⟨j,(htt _).2 (Lc j1),j2, ?_⟩;rw[Z0o p1];split
     .rename_i c;subst c;have:=(k.tk i j1).2.2.1;have:u=(w.heap.P.getD i M).U:=by rw[<- hu,occP,if_neg oq]
      omega
     .exact j3
 .intro j h2 hsj;simp only[Work.copy]at hsj ⊢;have hne:¬ i=j:=by rintro rfl;omega
  rw[Z0o p1,if_neg hne]at hsj;exact Lh _ (k.lg j h2 hsj)
theorem KI.fwd{tq:Nat->List Int}{w:Work}(k:KI h T tq w)(hw:WkOk w)(hi:CIv w)(r:Int)(e:(w.fwd r).2.2=0):∃ tq',KI h T tq' (w.fwd r).1:=by
 unfold Work.fwd at e ⊢;split at e
 .rename_i c1;rw[if_pos c1];exact⟨tq,k⟩
 .rename_i c1;rw[if_neg c1];split at e
  .simp at e
  .rename_i c2;rw[if_neg c2];have c2':r∈w.old:=Lr.1 c2;obtain⟨i0,hr,hkd⟩:=(k.old r).1 c2';have ofr:ofA w.heap.C r=((i0:Int),r-bsP h i0,0):=by rw[k.c];exact g.ofx hr
   have nt:=k.nt g hr;have pgi:=k.pg i0 nt;have hil:=(g.t0 i0 r hr).1;have hki:=(g.t0 i0 r hr).2;have hpl:=k.pl;split at e
   .rename_i c3;rw[if_pos c3];exact⟨tq,k⟩
   .rename_i c3;rw[if_neg c3];split at e
    .simp at e
    .rename_i c4;rw[if_neg c4];split at e
     .rename_i c5;rw[if_pos c5];simp only[Z1b,decide_eq_true_eq]at c5;rw[ofr]at c5;simp only[Lx]at c5;exact⟨tq,k.keep g hr hkd c5.2.2.2.1⟩
     .rename_i c5;rw[if_neg c5];have epw:Z2l w r=i0:=by rw[Z2l,ofr];simp
      split at e
      .rename_i c6;rw[if_pos c6];rw[epw]at c6 ⊢;exact⟨tq,k.flip g hw hr hkd c6⟩
      .rename_i c6;rw[if_neg c6];split at e
       .simp at e
       .rename_i c7;rw[if_neg c7];have c7':(w.place (sizeH (hdW w r))).2.2=La:=by simpa using c7
        rw[epw]at c6;have k1:(h.P.getD i0 M).K=1:=by omega
        have hs:(w.heap.P.getD i0 M).S=w.heap.S:=by
         by_cases q:(w.heap.P.getD i0 M).S=w.heap.S
         .exact q
         .exfalso;apply c5;simp only[Z1b,decide_eq_true_eq];rw[ofr];simp only[Lx];exact⟨by omega,by omega,by omega,q,nt⟩
        have he:(loadA w.heap.W r).1=(loadA h.W r).1:=by
         rcases k.hd i0 r hr with q | q
         .exact q
         .exact absurd q.1 c3
        have hz:=hi.z r c2';have hp:sizeH (hdW w r)<=w.heap.C.pw:=by
         rw[Z3i];rw[ofr]at hz;simp only[Lx]at hz;rcases hz with hz | hz
         .exact absurd hz c6
         .exact hz
        exact k.copy g hw hr hkd k1 hs he (Z3i w r) hp c7'
theorem KI.field{tq:Nat->List Int}{w:Work}(k:KI h T tq w){q j:Int}(hq:q∈w.Q)(hj:0<=j/\j<hlA w.heap.W q) :
  (∀ i x,x∈T i->x≠q+1+j)/\(∀ (i:Nat) x,(i:Int)∈w.T->x∈tq i->x≠q+1+j)/\((∃ i x,x∈T i/\x<=q+1+j/\q+1+j<x+kpA h.W x)\/(∃ i:Nat,(i:Int)∈w.T/\bsP h i<=q+1+j/\q+1+j<bsP h i+(w.heap.P.getD i M).U)):=by
 rcases k.q q hq with⟨i,i1,i2,i3,i4⟩ | ⟨i,i1,i2⟩
 .have he:(loadA w.heap.W q).1=(loadA h.W q).1:=by
   rcases k.hd i q i2 with c | c
   .exact c
   .exact absurd c.2.2 i4
  have o:=Z26 he;rw[o.2.1]at hj;refine⟨λm x hx c=>?_,λm x hm hx c=>?_,Lc ⟨i,q,i2,by omega,by rw[kpA,if_neg i3];omega⟩⟩
  .have:=g.sep i2 hx oq;omega
  .have:=k.sepT g hm hx i2;have:=Z0f w.heap.W x;omega
 .have t:=k.tk i i1;have m:=Z1A t.2.2.2.2.2.1 i2;refine⟨λm x hx c=>?_,λm x hm hx c=>?_,Le ⟨i,i1,by omega,by omega⟩⟩
  .have:=k.sepT g i1 i2 hx;have:=Z0f h.W x;omega
  .have:=k.sepQ g i1 i2 hm hx oq;omega
theorem KI.in1{tq:Nat->List Int}{w:Work}(k:KI h T tq w)(hw:WkOk w)(hi:CIv w){q j:Int}(hq:q∈w.Q)(hj:0<=j/\j<hlA w.heap.W q)(e:(w.fwd (loadA w.heap.W (q+1+j)).1).2.2=0):∃ tq',KI h T tq' (w.in1 (q+1+j)):=by
 obtain⟨tq',k'⟩:=k.fwd g hw hi _ e;obtain⟨i1,x1⟩:=Z6Q hw hi _ e;have hq1:=x1.q q hq;have hl1:=x1.l q hq;have hr:=i1.r q (Lo _ hq1);have hin:4096<=q+1+j/\q+1+j<4096+(w.fwd (loadA w.heap.W (q+1+j)).1).1.heap.W.length:=by omega
 obtain⟨f1,f2,f3⟩:=k'.field g hq1 (j:=j) oq;refine⟨tq',k'.withWords g (Z2x hin) (λi x hx=>?_) (λi x hm hx=>?_) (λa ha=>?_)⟩
 .rw[Z0A hin (f1 i x hx)]
 .rw[Z0A hin (f2 i x hm hx)]
 .by_cases c:a=q+1+j
  .subst c;exact Le f3
  .rw[Z0A hin c]at ha;exact Lc ha
theorem KI.begin:KI h T (λ_=>[]) (beginW h):=by
 have hq:∀ j,((h.P.map (begQ (1-h.S))).getD j M).K=(h.P.getD j M).K/\((h.P.map (begQ (1-h.S))).getD j M).U=(h.P.getD j M).U/\((h.P.map (begQ (1-h.S))).getD j M).N=(h.P.getD j M).N/\((h.P.getD j M).K=2->((h.P.map (begQ (1-h.S))).getD j M).S=(h.P.getD j M).S):=by
  intro j;by_cases hj:j<h.P.length
  .have:(h.P.map (begQ (1-h.S))).getD j M=begQ (1-h.S) (h.P.getD j M):=by simp[Lg,hj]
   rw[this,begQ];split
   .rename_i c;exact⟨rfl,rfl,rfl,λq=>by omega⟩
   .exact⟨rfl,rfl,rfl,λ_=>rfl⟩
  .rw[Lg,Lg,Ln qo,Ln oq];exact⟨rfl,rfl,rfl,λ_=>rfl⟩
 refine⟨rfl,rfl,g.objs.2,by simp[beginW],rfl,λi _=>⟨(hq i).1,(hq i).2.1,(hq i).2.2.1⟩,by simp[beginW],λ_ _=>rfl,by simp[beginW],λ_ _ _=>Lc rfl,λa ha=>Lc (g.d a ha), ?_⟩;intro i h2 hs;exfalso;simp only[beginW]at hs;rw[(hq i).2.2.2 h2]at hs;by_cases hi:i<h.P.length
 .exact hs (g.sp i hi oq)
 .rw[Lg,Ln oq]at h2;have d:(M:Page).K=0:=rfl;simp only[LU]at h2;omega
theorem ZnU{s:List Int}(hw:WOk h.W)(e:(rootsF (beginW h) s).2.2=0)(e2:(allF (rootsF (beginW h) s).1).2=0):∃ tq,KI h T tq (cW2 h s) :=
 Zm0 (λw=>∃ tq,KI h T tq w) (λw r hw hi ⟨_,k⟩ e=>k.fwd g hw hi r e) (λw q j hw hi ⟨_,k⟩ hq h0 h1 e=>k.in1 g hw hi hq ⟨h0,h1⟩ e) (λw n ⟨tq,k⟩=>⟨tq,k.c,k.sp,k.old,k.pl,k.wl,k.pg,k.tk,k.tk0,k.q,k.hd,k.dt,k.lg⟩) hw g.p ⟨_,KI.begin g⟩ e e2
end
def ZhU{w:Work}(hw:WkOk w)(h:CIv w){r n:Int}(hr:r∈w.old)(hq:r∉w.Q)(hn:n=hlA w.heap.W r+1)(hp:n<=w.heap.C.pw)(hc:(w.place n).2.2=La):∀ x∈w.old++w.Q,(x∈w.Q\/x≠r)->∀ m,0<=m->m<=hlA w.heap.W x->loadA ((w.place n).1.copy r (w.place n).2.1 n).heap.W (x+m)=loadA w.heap.W (x+m):=by
 have hlr:=Z0f w.heap.W r;obtain⟨i,p,t,h1,h2,h3,h4,h5,h6,h7,h8,e⟩:=Z5e hw ⟨by omega,hp⟩ hc;have hb:=validB_iff.1 hw.C;have hpl:=hw.pl;have hL:=h.L;have hio:(i:Int)*w.heap.C.pw+w.heap.C.pw<=w.heap.C.pw*w.heap.C.pg:=by
  have:=Z11 (i:=i) (j:=w.heap.C.pg) (pw:=w.heap.C.pw) oq oq;rw[LC w.heap.C.pw];exact this
 have hi0:0<=(i:Int)*w.heap.C.pw:=LD oq oq;rw[e,h8];generalize hu:occP (w.heap.P.getD i M)=u at *;generalize ha:4096+(i:Int)*w.heap.C.pw+u=at';have hrr:=h.r r (Lh _ hr);have hf:=h.f i h1 (by rcases h2 with h2 | h2;exact Lc h2;exact Le h2.1);rw[hu]at hf;obtain⟨m1,m2,m3⟩:=Z8v (ws:=w.heap.W) (a:=at') (b:=r) (n:=n) oq oq oq;have hsr:4096<=r/\r<4096+(moveA w.heap.W at' r n).1.length:=by omega
 intro x hx hxr m hm0 hm1;have hfx:=hf x hx;simp only[Work.copy];rw[Z0A hsr ?_,m3 _ oq];intro c;by_cases q:x=r
 .exact hxr.elim (λa=>hq (q▸a)) (λa=>a q)
 .have:=h.s x hx r (Lh _ hr) oq;omega
def Z7D{w:Work}(hw:WkOk w)(h:CIv w)(r:Int)(e:(w.fwd r).2.2=0):(∃ m,(w.fwd r).1.Q=w.Q++m)/\(w.fwd r).1.D=w.D/\∀ x∈w.old++w.Q,(x∈w.Q\/x≠r)->∀ m,0<=m->m<=hlA w.heap.W x->loadA (w.fwd r).1.heap.W (x+m)=loadA w.heap.W (x+m):=by
 unfold Work.fwd at e ⊢;split at e
 .rename_i c1;rw[if_pos c1];exact⟨⟨[],by simp⟩,rfl,λ_ _ _ _ _ _=>rfl⟩
 .rename_i c1;rw[if_neg c1];have c1':r∉w.Q:=λh=>c1 (Le h);split at e
  .simp at e
  .rename_i c2;rw[if_neg c2];have c2':r∈w.old:=Lr.1 c2;split at e
   .rename_i c3;rw[if_pos c3];exact⟨⟨[],by simp⟩,rfl,λ_ _ _ _ _ _=>rfl⟩
   .rename_i c3;rw[if_neg c3];split at e
    .simp at e
    .rename_i c4;rw[if_neg c4];split at e
     .rename_i c5;rw[if_pos c5];exact⟨⟨[r],rfl⟩,rfl,λ_ _ _ _ _ _=>rfl⟩
     .rename_i c5;rw[if_neg c5];split at e
      .rename_i c6;rw[if_pos c6];exact⟨⟨[r],rfl⟩,rfl,λ_ _ _ _ _ _=>rfl⟩
      .rename_i c6;rw[if_neg c6];split at e
       .simp at e
       .rename_i c7;rw[if_neg c7];have c7':(w.place (sizeH (hdW w r))).2.2=La:=by simpa using c7
        have hz:=h.z r c2';have hp:sizeH (hdW w r)<=w.heap.C.pw:=by
         rw[Z3i];rcases hz with hz | hz
         .exact absurd hz c6
         .exact hz
        have hlr:=Z0f w.heap.W r;obtain⟨i,p,t,p1,p2,p3,p4,p5,p6,p7,e8⟩:=Za3 hw ⟨by rw[Z3i];omega,hp⟩ c7';refine⟨⟨[(w.place (sizeH (hdW w r))).2.1], ?_⟩, ?_,ZhU hw h c2' c1' (Z3i w r) hp c7'⟩
        .rw[e8];rfl
        .rw[e8];rfl
def FD(w:Work)(F:Int->Prop):Prop:=∀ z,F z->(∃ q j,q∈w.Q/\0<=j/\j<hlA w.heap.W q/\z=q+1+j)/\ToOk w (loadA w.heap.W z).1
structure Sm (w v:Work):Prop where
 q:∃ m,v.Q=w.Q++m
 h:∀ x∈w.Q,hdA v.heap.W x=hdA w.heap.W x
def Sm.trans{u v w:Work}(a:Sm u v)(b:Sm v w):Sm u w:=by
 obtain⟨m,em⟩:=a.q;obtain⟨n,en⟩:=b.q;exact⟨⟨m++n,by rw[en,em,List.append_assoc]⟩,λx hx=>(b.h x (by rw[em];exact Lh _ hx)).trans (a.h x hx)⟩
def Sm.mem{w v:Work}(a:Sm w v){x:Int}(hx:x∈w.Q):x∈v.Q:=by
 obtain⟨m,em⟩:=a.q;rw[em];exact Lh _ hx
def Sm.len{w v:Work}(a:Sm w v){x:Int}(hx:x∈w.Q):hlA v.heap.W x=hlA w.heap.W x:=congrArg Header.length (a.h x hx)
def Sm.to{w v:Work}(a:Sm w v){x:Int}(hx:ToOk w x):ToOk v x:=hx.imp id a.mem
def Zlu{w:Work}(hw:WkOk w)(h:CIv w)(r:Int)(e:(w.fwd r).2.2=0):Sm w (w.fwd r).1:=by
 have s:=Z7D hw h r e;refine⟨s.1,λx hx=>?_⟩;have:=s.2.2 x (Lo _ hx) (.inl hx) 0 oq (Z0f _ _).1;rw[LV]at this;rw[hdA,hdA,this]
def FD.fwd{w:Work}{F:Int->Prop}(f:FD w F)(hw:WkOk w)(h:CIv w)(r:Int)(e:(w.fwd r).2.2=0):FD (w.fwd r).1 F:=by
 have s:=Z7D hw h r e;have m:=Zlu hw h r e;intro z hz;obtain⟨⟨q,j,hq,h0,h1,rfl⟩,t⟩:=f z hz;refine⟨⟨q,j,m.mem hq,h0,by rw[m.len hq];exact h1,rfl⟩, ?_⟩;have:=s.2.2 q (Lo _ hq) (.inl hq) (1+j) oq oq;rw[<- LL]at this;rw[this];exact m.to t
def Zok{B:Int}{w:Work}(hw:WkOk w)(h:CIv w)(hp:PR B w){F:Int->Prop}(f:FD w F){q j:Int}(hq:q∈w.Q)(hj:0<=j/\j<hlA w.heap.W q)(e:(w.fwd (loadA w.heap.W (q+1+j)).1).2.2=0):Sm w (w.in1 (q+1+j))/\(w.in1 (q+1+j)).D=w.D/\FD (w.in1 (q+1+j)) (λz=>F z\/z=q+1+j):=by
 have s:=Z7D hw h _ e;have m:=Zlu hw h _ e;have ff:=f.fwd hw h _ e;have to:=ZlB w _ hp e;obtain⟨i1,x1⟩:=Z6Q hw h _ e;have hq1:=x1.q q hq;have hl1:=x1.l q hq;have hr:=i1.r q (Lo _ hq1);have hin:4096<=q+1+j/\q+1+j<4096+(w.fwd (loadA w.heap.W (q+1+j)).1).1.heap.W.length:=by omega
 have hne:∀ x∈(w.fwd (loadA w.heap.W (q+1+j)).1).1.Q,x≠q+1+j:=by
  intro x hx c;have:=i1.s q (Lo _ hq1) x (Lo _ hx) oq;omega
 have hh:∀ x∈(w.fwd (loadA w.heap.W (q+1+j)).1).1.Q,hdA (w.in1 (q+1+j)).heap.W x=hdA (w.fwd (loadA w.heap.W (q+1+j)).1).1.heap.W x:=by
  intro x hx;simp only[Work.in1];rw[hdA,hdA,Z0A hin (hne x hx)]
 have m2:Sm (w.fwd (loadA w.heap.W (q+1+j)).1).1 (w.in1 (q+1+j)):=⟨⟨[],by simp[Work.in1]⟩,hh⟩
 refine⟨m.trans m2,s.2.1, ?_⟩;intro z hz;have key:(∃ q' j',q'∈w.Q/\0<=j'/\j'<hlA w.heap.W q'/\z=q'+1+j'):=by
  rcases hz with hz | rfl
  .exact(f z hz).1
  .exact⟨q,j,hq,hj.1,hj.2,rfl⟩
 obtain⟨q',j',k1,k2,k3,k4⟩:=key;refine⟨⟨q',j',(m.trans m2).mem k1,k2,by rw[(m.trans m2).len k1];exact k3,k4⟩, ?_⟩;by_cases c:z=q+1+j
 .subst c;have:(loadA (w.in1 (q+1+j)).heap.W (q+1+j)).1=(w.fwd (loadA w.heap.W (q+1+j)).1).2.1:=by
   simp only[Work.in1];rw[Z2E hin]
  rw[this];exact m2.to to
 .have:loadA (w.in1 (q+1+j)).heap.W z=loadA (w.fwd (loadA w.heap.W (q+1+j)).1).1.heap.W z:=by
   simp only[Work.in1];rw[Z0A hin c]
  rw[this];rcases hz with hz | hz
  .exact m2.to (ff z hz).2
  .exact absurd hz c
section
variable {B:Int} (hB:0<=B)
include hB
theorem ZiU{w:Work}(hw:WkOk w)(h:CIv w)(hp:PR B w){F:Int->Prop}(f:FD w F){q:Int}(hq:q∈w.Q){l:List Int}(hl:∀ x∈l,0<=x/\x<hlA w.heap.W q):∀ k,k<=l.length->(∀ j,j<k->innE w q l j=0)->Sm w (innN w q l k)/\(innN w q l k).D=w.D/\FD (innN w q l k) (λz=>F z\/∃ i,i<k/\z=q+1+l.getD i M)
 | 0,_,_=>⟨⟨⟨[],by simp[innN]⟩,λ_ _=>rfl⟩,rfl,λz hz=>f z (hz.resolve_right (by rintro⟨i,hi,_⟩;omega))⟩
 | k+1,hk,he=>by
  obtain⟨a,b,c⟩:=ZiU hw h hp f hq hl k oq (λj hj=>he j oq);have ok:=(Z47 hw q l k (λj hj=>he j oq)).1;have iv:=Z7z hw h hq hl k oq (λj hj=>he j oq);have pr:=ZhC (PR B) (λw q j hw hi h hq h0 h1 e=>PR.in1 hB w q j hw hi h hq h0 h1 e) hw h hp hq hl k oq (λj hj=>he j oq);have hx:=hl _ (getD_mem_iff.2 ⟨k,by omega,rfl⟩);obtain⟨d1,d2,d3⟩:=Zok ok iv.1 pr c (a.mem hq) (j:=l.getD k M) ⟨hx.1,by rw[a.len hq];exact hx.2⟩ (he k oq);refine⟨a.trans d1,d2.trans b,λz hz=>d3 z ?_⟩;rcases hz with hz | ⟨i,hi,hz⟩
  .exact Lc (Lc hz)
  .by_cases q2:i=k
   .subst q2;exact Le hz
   .exact Lc (Le ⟨i,by omega,hz⟩)
def SD(w:Work):Prop:=FD w (λz=>∃ i j,i<w.D.toNat/\j∈Z02 (hdA w.heap.W (w.Q.getD i M))/\z=w.Q.getD i M+1+j)
omit hB in
theorem Sm.get{w v:Work}(a:Sm w v){i:Nat}(hi:i<w.Q.length):v.Q.getD i M=w.Q.getD i M:=by
 obtain⟨m,em⟩:=a.q;rw[em,Lg,Lg,List.getElem?_append_left hi]
theorem ZeV{w:Work}(hw:WkOk w)(h:CIv w)(hp:PR B w)(f:SD w)(e:(Z0G w).2.2=0):SD (Z0G w).1:=by
 by_cases hs:w.D<w.Q.length
 .have hsc:=hw.sc;have hq:Z30 w∈w.Q:=getD_mem_iff.2 ⟨w.D.toNat,by omega,rfl⟩;unfold Z0G at e ⊢;rw[if_pos hs]at e ⊢;cases hb:(Lt (Z1K w).length).find? (λk=>Lf (innE w (Z30 w) (Z1K w) k≠0))with
  | none =>
   have h0:∀ j,j<(Z1K w).length->innE w (Z30 w) (Z1K w) j=0:=λj hj=>by
    have:=Lq.1 hb j (Lp.2 hj);simpa using this
   obtain⟨a,b,c⟩:=ZiU hB hw h hp f hq (l:=Z1K w) (Z4L (hdW w (Z30 w))) (Z1K w).length (Ll _) h0;intro z hz;obtain⟨i,j,hi,hj,rfl⟩:=hz;simp only[ZdP]at hi hj ⊢;rw[b]at hi;have hg:=a.get (show i<w.Q.length by omega);have hm:w.Q.getD i M∈w.Q:=getD_mem_iff.2 ⟨i,by omega,rfl⟩;rw[hg,a.h _ hm]at hj;rw[hg];refine c _ ?_;by_cases q:i=w.D.toNat
   .subst q;obtain⟨n,n1,n2⟩:=getD_mem_iff.1 hj;exact Le ⟨n,n1,by rw[<- n2];rfl⟩
   .exact Lc ⟨i,j,by omega,hj,rfl⟩
  | some k =>
   simp only[hb]at e;have:=(Lw.1 hb).1;simp[e]at this
 .have e:Z0G w=(w,Lb,0):=by rw[Z0G,if_neg hs]
  rw[e];exact f
theorem ZlF{w:Work}(hw:WkOk w)(h:CIv w)(hp:PR B w)(f:SD w):∀ k,(∀ j,j<k->Z3b w j=Lb)->SD (itW w k)
 | 0,_=>f
 | k+1,hh=>by
  have ih:=ZlF hw h hp f k (λj hj=>hh j oq);have ok:=(Z3M hw k (λj hj=>hh j oq)).1;have iv:=(Z6O hw h k (λj hj=>hh j oq)).1;have pr:=ZjO (PR B) (λw q j hw hi h hq h0 h1 e=>PR.in1 hB w q j hw hi h hq h0 h1 e) (λw n h=>⟨⟨h.tab.pt,h.tab.tk,h.tab.pin⟩,h.rt.q,h.rt.t⟩) hw h hp k (λj hj=>hh j oq);have hk:=hh k oq;simp only[Z3b,decide_eq_false_iff_not,not_or,Lr]at hk;exact ZeV hB ok iv pr ih hk.1
theorem ZmL{w:Work}(hw:WkOk w)(h:CIv w)(hp:PR B w)(f:SD w)(e:(allF w).2=0):SD (allF w).1/\(allF w).1.D=(allF w).1.Q.length:=by
 obtain⟨k,hb⟩:=Z4I hw;obtain⟨h1,h2,h3⟩:=Lw.1 hb;have h0:∀ j,j<k->Z3b w j=Lb:=λj hj=>by simpa using h3 j hj
 unfold allF at e ⊢;rw[hb]at e ⊢;simp only at e ⊢;split at e
 .rename_i c;rw[if_pos c];have ok:=(Z3M hw k h0).1;have iv:=(Z6O hw h k h0).1;have pr:=ZjO (PR B) (λw q j hw hi h hq h0 h1 e=>PR.in1 hB w q j hw hi h hq h0 h1 e) (λw n h=>⟨⟨h.tab.pt,h.tab.tk,h.tab.pin⟩,h.rt.q,h.rt.t⟩) hw h hp k h0;refine⟨ZeV hB ok iv pr (ZlF hB hw h hp f k h0) c, ?_⟩;simp only[Z3b,decide_eq_true_eq]at h1;have hf:(Z0G (itW w k)).2.1=Lb:=h1.resolve_left (λq=>q c);have hsc:=ok.sc;by_cases hs:(itW w k).D<(itW w k).Q.length
  .exfalso;unfold Z0G at hf c;rw[if_pos hs]at hf c;cases hb2:(Lt (Z1K (itW w k)).length).find? (λm=>Lf (innE (itW w k) (Z30 (itW w k)) (Z1K (itW w k)) m≠0))with
   | none =>
    rw[hb2]at hf;simp at hf
   | some m =>
    simp only[hb2]at c;have:=(Lw.1 hb2).1;simp[c]at this
  .have e3:Z0G (itW w k)=(itW w k,Lb,0):=by rw[Z0G,if_neg hs]
   rw[e3];simp only;omega
 .rename_i c;exact absurd e c
theorem ZnK{h:Heap}{s:List Int}(hw:WOk h.W)(hp:Z03 h=La)(hb:∀ p∈h.P,p.N<=B)(e:(rootsF (beginW h) s).2.2=0)(e2:(allF (rootsF (beginW h) s).1).2=0):SD (cW2 h s)/\(cW2 h s).D=(cW2 h s).Q.length:=by
 have wb:=Z3u hw hp;have hi:=Z3j hp;have ho:=Z3n (roots:=s) wb hi e;have pr:=Zbh (PR B) (λw r hw hi h e=>PR.fwd hB w r hw hi h e) (roots:=s) wb hi ⟨Z66 hp hb,Zat hp⟩ e;have s0:=Zbh (λw=>w.D=0) (λw r hw hi h e=>(Z7D hw hi r e).2.1.trans h) (roots:=s) wb hi rfl e;exact ZmL hB ho.1 ho.2.1 pr (λz hz=>by obtain⟨i,j,q,_⟩:=hz;rw[s0]at q;simp at q) e2
end
end Go.Proofs.YtgedmeaemofdkaaGreat
