/-
 The statement BoundMeasures: part 14.
 Conditions: none.
-/
import Derived.Test.YtgedmeaemofdkaaGreatS13
set_option maxRecDepth 100000
set_option maxHeartbeats 2000000
set_option linter.all false
open Bool renaming true->M,false->Lb,false_eq_true->Ll,true_eq_false->Lm,and_eq_true->Lt,eq_false_or_eq_true->Lw
open Inhabited renaming default->La
open Decidable renaming decide->Lc,not_not->Lx
open List renaming map->Ld,mem_range->Lg,find?_eq_none->Lh,range->Lj,getD_eq_getElem?_getD->Lk,take->Lo,mem_append->Lr,find?_range_eq_some->Lv,length_map->Ly,length_replicate->Lz,mem_append_left->LA,mem_map->LB,mem_singleton->LC,getElem?_eq_getElem->LI,length_set->LL,mem_or_eq_of_mem_set->LM,any_eq_true->LV,getElem?_map->LW,getElem?_range->LY,length->LZ,length_append->L0,length_drop->L1,length_take->L2,mem_iff_getElem->L3,mem_of_mem_drop->L4,mem_of_mem_take->L5,mem_replicate->L6,replicate->L7
open Go.IntKind renaming i64->Le
open Option renaming some->Lf,getD_some->LN,map_some->L9
open Or renaming inr->Li,inl->Lq
open Int renaming toNat->Ln,toNat_natCast->Ls,mul_nonneg->Lu,add_zero->LD,ediv_nonneg->LF,eq_ofNat_of_zero_le->LG,mul_comm->LH,add_assoc->LO,ediv_le_self->LQ,emod_lt_of_pos->LR,emod_nonneg->LS,tdiv_eq_ediv_of_nonneg->LU
open Nat renaming le_refl->Lp,le_trans->L8
open Go.Proofs.Tryz
namespace Go.Proofs.YtgedmeaemofdkaaGreat
open Go.Sx
def Z85(w:Work)(x:Int):Int:=if x=0 then 0 else Z1A w x
def Z9y(w:Work)(x:Int):Work:=⟨w.heap,w.old,w.T,w.Q,w.D,⟨w.rep.copied,w.rep.kept,w.rep.filled,w.rep.freed,if x≠0/\Z1A w x=0 then w.rep.cleared+1 else w.rep.cleared,w.rep.steps⟩⟩
def weakS(w:Work)(k:List Int):Nat->Work
 | 0=>w
 | i+1=>Z9y (weakS w k i) (k.getD i La)
def Z5V(w:Work)(k:List Int):Nat->List Int
 | 0=>[]
 | i+1=>Z5V w k i++[Z85 (weakS w k i) (k.getD i La)]
def Z7O(w:Work)(k:List Int):∀ i,(weakS w k i).heap=w.heap/\(weakS w k i).old=w.old/\(weakS w k i).T=w.T/\(weakS w k i).Q=w.Q/\(weakS w k i).rep.filled=w.rep.filled/\(weakS w k i).rep.freed=w.rep.freed/\w.rep.cleared<=(weakS w k i).rep.cleared/\(weakS w k i).rep.cleared<=w.rep.cleared+i
 | 0=>⟨rfl,rfl,rfl,rfl,rfl,rfl,by simp[weakS],by simp[weakS]⟩
 | i+1=>by
  obtain⟨h1,h2,h3,h4,h5,h6,h7,h8⟩:=Z7O w k i;refine⟨h1,h2,h3,h4,h5,h6, ?_, ?_⟩
  .simp only[weakS,Z9y];split<;>omega
  .simp only[weakS,Z9y];split<;>omega
def Z8m(w:Work)(k:List Int):∀ i,(Z5V w k i).length=i
 | 0=>rfl
 | i+1=>by simp[Z5V,Z8m w k i]
def ZlH(w:Work)(k roots out:List Int)(i:Nat):Tg:=⟨tm 122 [(2,Z01 k),(6,.pt 8006 0 0),(7,.d (.sl 0 [])),(8,.d (.sl 0 [])),(9,.pt 8009 0 0),(10,int 0),(11,.pt 32011 0 0),(13,Z01 roots),(15,.ow 72015),(16,int i)],[(72015,.arr 35 1 (out.map wdv)),(32011,.box 138 w.cells),(8009,.box 73 [int 0,int 0,int 0,int 0,int 0,int 0]),(8006,.box 28 [int 0,int 0,.d (.sl 0 []),.d (.sl 0 []),int 0,int 0])],60⟩
section
variable (w:Work) (k roots out:List Int) (i:Nat) (hw:WOk w.heap.W) (hl:w.heap.W.length<=4096) (hq:w.Q.length<=1048576) (hk:k.length<=1048575) (hx:0<=k.getD i La/\k.getD i La<=18446744073709551615) (ho:out.length<=1048576) (hi:i<k.length) (hc:0<=w.rep.cleared/\w.rep.cleared<=2097152)
include hw hl hq hk hx ho hi hc
theorem ZjB:CP (rndF f36 0) (ZlH w k roots out i).st .nrm (ZlH (Z9y w (k.getD i La)) k roots (out++[Z85 w (k.getD i La)]) (i+1)).st:=by
 by_cases h0:k.getD i La=0
 .have e1:Z85 w (k.getD i La)=0:=by rw[Z85,if_pos h0]
  have e2:Z9y w (k.getD i La)=w:=by rw[Z9y,if_neg (by rintro⟨q,_⟩;exact q h0)]
  rw[e1,e2];exact sF [(504091,72015)] [] (Fh 91 [.els (Ld wdv (out++[0]))] (FN 65 66 71 wdv k i (Ffb 73 (k.getD i La != 0) (Fs 90 (Ld wdv [0]) (Fa (by(simp[*];omega):(Ld wdv out).length+(Ld wdv [0]).length<=2^30) (Fa (ms:Ld wdv out++Ld wdv [0]=Ld wdv (out++[0])) (Fx 68 i Fz)))))))
 .have e1:Z85 w (k.getD i La)=Z1A w (k.getD i La):=by rw[Z85,if_neg h0]
  rw[e1];by_cases h2:Z1A w (k.getD i La)=0
  .have e2:Z9y w (k.getD i La)=⟨w.heap,w.old,w.T,w.Q,w.D,⟨w.rep.copied,w.rep.kept,w.rep.filled,w.rep.freed,w.rep.cleared+1,w.rep.steps⟩⟩:=by rw[Z9y,if_pos ⟨h0,h2⟩]
   rw[e2];let y0:=k.getD i La;exact sF [(528091,72015)] [] (Fh 91 [.els (Ld wdv (out++[Z1A w y0]))] (FN 65 66 71 wdv k i (Ftb 73 (k.getD i La != 0) (Fek 77 wdv k (↑i) i (Fc 79 (@Zas w y0 aa aa aa aa) (Ftb 81 (Z1A w y0==0) (Fi 85 (w.rep.cleared+1) (Fs 90 (Ld wdv [Z1A w y0]) (Fa (by(simp[*];omega):(Ld wdv out).length+(Ld wdv [Z1A w y0]).length<=2^30) (Fa (ms:Ld wdv out++Ld wdv [Z1A w y0]=Ld wdv (out++[Z1A w y0])) (Fx 68 i Fz)))))))))))
  .have e2:Z9y w (k.getD i La)=w:=by rw[Z9y,if_neg (by rintro⟨_,q⟩;exact h2 q)]
   rw[e2];let y1:=k.getD i La;exact sF [(520091,72015)] [] (Fh 91 [.els (Ld wdv (out++[Z1A w y1]))] (FN 65 66 71 wdv k i (Ftb 73 (k.getD i La != 0) (Fek 77 wdv k (↑i) i (Fc 79 (@Zas w y1 aa aa aa aa) (Ffb 81 (Z1A w y1==0) (Fs 90 (Ld wdv [Z1A w y1]) (Fa (by(simp[*];omega):(Ld wdv out).length+(Ld wdv [Z1A w y1]).length<=2^30) (Fa (ms:Ld wdv out++Ld wdv [Z1A w y1]=Ld wdv (out++[Z1A w y1])) (Fx 68 i Fz))))))))))
end
def Zon(w:Work)(k roots out:List Int):CP (rndF f36 0) (ZlH w k roots out k.length).st (.ext 0) (Tg.st ⟨tm 122 [(6,.pt 8006 0 0),(7,.d (.sl 0 [])),(8,.d (.sl 0 [])),(9,.pt 8009 0 0),(10,int 0),(11,.pt 32011 0 0),(13,Z01 roots),(15,.ow 72015)],[(72015,.arr 35 1 (out.map wdv)),(32011,.box 138 w.cells),(8009,.box 73 [int 0,int 0,int 0,int 0,int 0,int 0]),(8006,.box 28 [int 0,int 0,.d (.sl 0 []),.d (.sl 0 []),int 0,int 0])],60⟩):=by
 exact sF [] [] (FO 65 66 wdv k Fz)
def Zfo(w:Work)(k roots:List Int)(hw:WOk w.heap.W)(hl:w.heap.W.length<=4096)(hq:w.Q.length<=1048576)(hk:k.length<=1048575)(hx:ULe k)(hc:w.rep.cleared=0):CP (blkF f36 0) (ZlH (weakS w k 0) k roots (Z5V w k 0) 0).st .nrm (Tg.st ⟨tm 122 [(6,.pt 8006 0 0),(7,.d (.sl 0 [])),(8,.d (.sl 0 [])),(9,.pt 8009 0 0),(10,int 0),(11,.pt 32011 0 0),(13,Z01 roots),(15,.ow 72015)],[(72015,.arr 35 1 ((Z5V w k k.length).map wdv)),(32011,.box 138 (weakS w k k.length).cells),(8009,.box 73 [int 0,int 0,int 0,int 0,int 0,int 0]),(8006,.box 28 [int 0,int 0,.d (.sl 0 []),.d (.sl 0 []),int 0,int 0])],60⟩):=by
 refine Z08 (S:=λi=>(ZlH (weakS w k i) k roots (Z5V w k i) i).st) k.length kr (λi hi=>?_) (Zon _ k roots _);have h:=Z7O w k i;exact ZjB _ k roots _ i (by rw[h.1];exact hw) (by rw[h.1];exact hl) (by rw[h.2.2.2.1];exact hq) hk (Z4f hx i) (by rw[Z8m];omega) hi oq
abbrev cB(h:Heap)(s k:List Int):Work:=weakS (allF (rootsF (beginW h) s).1).1 k k.length
abbrev cA(h:Heap)(s k:List Int):Work:=fillN (cB h s k) (cB h s k).old.length
def Zem{n:Int}(h:0<=n/\n<=255):(decodeH (1+16*n)).1.length=n:=by
 have e:Z3b (1+16*n)=⟨0,n,0⟩:=by
  simp only[Z3b,Header.mk.injEq];omega
 have he:=Z7T h;unfold decodeH;rw[e,he];simp
def Zj9{w:Work}(h:CIv w){x:Int}(hx:x∈w.old):CIv (Z7w w x):=by
 unfold Z7w;split
 .rename_i hc;have hr:=h.r x (LA _ hx);have hh:=Z13 w.heap.W x;have hl:(objW ⟨0,(hdW w x).length,0⟩).length=(hlA w.heap.W x+1).toNat:=by
   show(objW ⟨0,hlA w.heap.W x,0⟩).length=_;simp[objW];omega
  have hin:4096<=x/\x-4096+(objW ⟨0,(hdW w x).length,0⟩).length<=w.heap.W.length:=by omega
  have hlen:(Z0D w.heap.W x (objW ⟨0,(hdW w x).length,0⟩)).1.length=w.heap.W.length:=by
   unfold Z0D;rw[if_pos hin];exact Z50 oq
  have:=h.withWords hlen (λa ha=>?_)
  .exact⟨this.L,this.r,this.s,this.f,this.z⟩
  .by_cases he:a=x
   .subst he;have:hlA (Z0D w.heap.W a (objW ⟨0,(hdW w a).length,0⟩)).1 a=hlA w.heap.W a:=by
     have e1:=Z4h (b:=a) hin oq;unfold hlA at *;rw[e1];have e2:(objW ⟨0,(hdW w a).length,0⟩).getD (a-a).toNat 0=1+16*(decodeH (loadA w.heap.W a).1).1.length:=by
      rw[Int.sub_self];show(Z0c ⟨0,(hdW w a).length,0⟩).1=_;rw[Z7T (show 0<=(hdW w a).length/\(hdW w a).length<=255 from hh)];rfl
     rw[e2];exact Zem hh
    omega
   .have s1:=h.s a ha x (LA _ hx);have s2:=h.s x (LA _ hx) a ha;have ha0:=Z13 w.heap.W a;have:hlA (Z0D w.heap.W x (objW ⟨0,(hdW w x).length,0⟩)).1 a=hlA w.heap.W a:=by
     have e1:=Z3X (b:=a) hin (by
      rcases Int.lt_or_lt_of_ne he with q | q
      .exact Lq q
      .have:=s2 q;exact Li oq)
     unfold hlA;rw[e1]
    omega
 .exact h
def Zdv{w:Work}(hw:FOk w)(h:CIv w):∀ k,k<=w.old.length->CIv (fillN w k)
 | 0,_=>h
 | k+1,hk=>Zj9 (Zdv hw h k oq) (by rw[(Z6i w hw k).2.2.2.2.2.1];exact getD_mem_iff.2 ⟨k,by omega,rfl⟩)
def Zdr{w:Work}(h:CIv w)(k:List Int):∀ i,CIv (weakS w k i)
 | 0=>h
 | i+1=>by
  have ih:=Zdr h k i;exact⟨ih.L,ih.r,ih.s,ih.f,ih.z⟩
def Zdf{w:Work}(h:FOk w)(k:List Int):∀ i,FOk (weakS w k i)
 | 0=>h
 | i+1=>by
  have ih:=Zdf h k i;exact⟨ih.W,ih.wl,ih.pl,ih.ol,ih.o,ih.tl,ih.ql⟩
def cW2(h:Heap)(s:List Int):Work:=(allF (rootsF (beginW h) s).1).1
def cW3(h:Heap)(s k:List Int):Work:=weakS (cW2 h s) k k.length
def cW4(h:Heap)(s k:List Int):Work:=fillN (cW3 h s k) (cW3 h s k).old.length
def cW5(h:Heap)(s k:List Int):Work:=Z1x (cW4 h s k)
def endH(w:Work):Heap:=⟨w.heap.C,w.heap.W,w.heap.P,1-w.heap.S,if 0<w.T.length then Z1g w else -1⟩
structure COk (h:Heap) (s k:List Int):Prop where
 w2:WkOk (cW2 h s)
 i2:CIv (cW2 h s)
 x2:CEx (beginW h) (cW2 h s)
 f3:FOk (cW3 h s k)
 i3:CIv (cW3 h s k)
 r3:(cW3 h s k).rep.filled=0/\(cW3 h s k).rep.freed=0
 f4:FOk (cW4 h s k)
 i4:CIv (cW4 h s k)
 h4:(cW4 h s k).heap.C=h.C/\(cW4 h s k).heap.P=(cW2 h s).heap.P/\(cW4 h s k).heap.S=(cW2 h s).heap.S/\(cW4 h s k).T=(cW2 h s).T/\(cW4 h s k).rep.freed=0
section
variable (h:Heap) (s k:List Int) (hw:WOk h.W) (hp:Z02 h=M) (e:(rootsF (beginW h) s).2.2=0) (e2:(allF (rootsF (beginW h) s).1).2=0)
include hw hp e e2
theorem cOk:COk h s k:=by
 have hb:=Z5t hw hp;have hi:=Z4M hp;have ho:=Z4U (roots:=s) hb hi e;have w2:WkOk (cW2 h s):=Zo3 _ ho.1 e2;have i2:=Zma ho.1 ho.2.1 e2;have x2:CEx (beginW h) (cW2 h s):=ho.2.2.1.trans i2.2;have f3:FOk (cW3 h s k):=Zdf w2.fok k _;have i3:CIv (cW3 h s k):=Zdr i2.1 k _;obtain⟨a1,a2,a3,a4,a5,a6,a7,a8⟩:=Z7O (cW2 h s) k k.length;have hr0:=w2.r0;have r3:(cW3 h s k).rep.filled=0/\(cW3 h s k).rep.freed=0:=⟨a5.trans hr0.1,a6.trans hr0.2.1⟩
 obtain⟨b0,b1,b2,b3,b4,b5,b6,b7,b8,b9,b10,b11⟩:=Z6i (cW3 h s k) f3 (cW3 h s k).old.length;refine⟨w2,i2.1,x2,f3,i3,r3,b0,Zdv f3 i3 _ (Lp _), ?_, ?_, ?_, ?_, ?_⟩
 .show(fillN (cW3 h s k) (cW3 h s k).old.length).heap.C=_;rw[b1];show(weakS (cW2 h s) k k.length).heap.C=_;rw[a1];exact x2.c
 .show(fillN (cW3 h s k) (cW3 h s k).old.length).heap.P=_;rw[b2];show(weakS (cW2 h s) k k.length).heap.P=_;rw[a1]
 .show(fillN (cW3 h s k) (cW3 h s k).old.length).heap.S=_;rw[b3];show(weakS (cW2 h s) k k.length).heap.S=_;rw[a1]
 .show(fillN (cW3 h s k) (cW3 h s k).old.length).T=_;rw[b6];exact a3
 .show(fillN (cW3 h s k) (cW3 h s k).old.length).rep.freed=_;rw[b8];exact r3.2
theorem cOk5:(cW4 h s k).heap.P.length<=64/\0<=(cW4 h s k).heap.C.pw/\(cW4 h s k).heap.C.pw<=64/\(cW4 h s k).heap.P.length*(cW4 h s k).heap.C.pw.toNat<=(cW4 h s k).heap.W.length/\(cW4 h s k).heap.W.length<=4096:=by
 have c:=cOk h s k hw hp e e2;have po:=Z0a hp;have hL:=c.i4.L;have hpl:=c.w2.pl;have hc2:=c.x2.c;have hc:(cW2 h s).heap.C=h.C:=hc2;rw[hc]at hpl;rw[c.h4.1]at hL;have hl4:=c.f4.wl;rw[c.h4.1,c.h4.2.1];refine⟨by omega,by omega,by omega, ?_,hl4⟩;have:(((cW2 h s).heap.P.length*h.C.pw.toNat:Nat):Int)=h.C.pw*h.C.pg:=by
  rw[Int.natCast_mul,Int.toNat_of_nonneg oq,hpl,LH]
 omega
end
def Z0m(h:Heap)(s k:List Int):Heap×List Int×List Int×Rep×Int :=
 if Z02 h=M then
  (if Z0f h s=M/\Z0f h k=M then
   (if(rootsF (beginW h) s).2.2=0 then
    (if(allF (rootsF (beginW h) s).1).2=0 then(endH (cW5 h s k),(rootsF (beginW h) s).2.1,Z5V (cW2 h s) k k.length,(cW5 h s k).rep,0)
    else(noHeap,[],[],rep0,(allF (rootsF (beginW h) s).1).2))
   else(noHeap,[],[],rep0,(rootsF (beginW h) s).2.2))
  else(noHeap,[],[],rep0,19))
 else(noHeap,[],[],rep0,1)
section
variable (h:Heap) (s k:List Int) (hw:WOk h.W) (hs:s.length<=1048575) (hk:k.length<=1048575) (hs2:ULe s) (hk2:ULe k)
include hw hs hk hs2 hk2
theorem ZkV(hp:Z02 h=M)(hr:Z0f h s=M)(hr':Z0f h k=M)(e:(rootsF (beginW h) s).2.2=0)(e2:(allF (rootsF (beginW h) s).1).2=0):GP 36 [h.av,Z01 s,Z01 k] Lb (.tu [(endH (cW5 h s k)).av,Z01 (rootsF (beginW h) s).2.1,Z01 (Z5V (cW2 h s) k k.length),.ag (cW5 h s k).rep.cells,int 0]) []:=by
 have hb:=Z5t hw hp;have hi:=Z4M hp;have hg:=Z4N hr;have ho:=Z4U (roots:=s) hb hi e;have ho1:=ho.1;have ho4:=ho.2.2.2.2;have c:=cOk h s k hw hp e e2;obtain⟨q1,q2,q3,q4,q5⟩:=cOk5 h s k hw hp e e2;have w2:=c.w2;have f3:=c.f3;have r3:=c.r3.1;obtain⟨g1,g2,g3,g4,g5⟩:=c.h4;have v1:=w2.W;have v2:=w2.wl;have v3:=w2.mu;have v4:=w2.tl;have v5:=w2.sp;have v6:=w2.r0.2.2;have v7:=congrArg LZ g4;have z1:(Z1x (cW4 h s k)).T=(cW4 h s k).T:=rfl;have v8:=congrArg LZ z1;have z2:(Z1x (cW4 h s k)).heap.S=(cW4 h s k).heap.S:=rfl;clear c;unfold cW4 at *;unfold cW3 at *;unfold cW2 at *;rcases bb (Lc (0<(↑(Z1x (fillN (weakS (allF (rootsF (beginW h) s).1).1 k k.length) (weakS (allF (rootsF (beginW h) s).1).1 k k.length).old.length)).T.length:Int)))with hc0 | hc0<;>have hc0p:=hc0<;>simp only[bs]at hc0p
 .rw[show endH (cW5 h s k)=Heap.mk (Z1x (fillN (weakS (allF (rootsF (beginW h) s).1).1 k k.length) (weakS (allF (rootsF (beginW h) s).1).1 k k.length).old.length)).heap.C (Z1x (fillN (weakS (allF (rootsF (beginW h) s).1).1 k k.length) (weakS (allF (rootsF (beginW h) s).1).1 k k.length).old.length)).heap.W (Z1x (fillN (weakS (allF (rootsF (beginW h) s).1).1 k k.length) (weakS (allF (rootsF (beginW h) s).1).1 k k.length).old.length)).heap.P ((1:Int)-(Z1x (fillN (weakS (allF (rootsF (beginW h) s).1).1 k k.length) (weakS (allF (rootsF (beginW h) s).1).1 k k.length).old.length)).heap.S) ((Z1x (fillN (weakS (allF (rootsF (beginW h) s).1).1 k k.length) (weakS (allF (rootsF (beginW h) s).1).1 k k.length).old.length)).T.getD ((↑(Z1x (fillN (weakS (allF (rootsF (beginW h) s).1).1 k k.length) (weakS (allF (rootsF (beginW h) s).1).1 k k.length).old.length)).T.length:Int)-(1:Int)).toNat La)from by(simp only[endH,cW5,cW4,cW3,cW2,Z1g] ;exact sj)];refine gspec_ofE [((20:Nat),[Hint.call M (Sx.bool (Z02 h)) []]),((21:Nat),[Hint.br Lb]),((26:Nat),[Hint.call M (Sx.bool (Z0f h s)) []]),((31:Nat),[Hint.call M (Sx.bool (Z0f h k)) []]),((33:Nat),[Hint.br Lb]),((38:Nat),[Hint.call Lb (AV.tu [(beginW h).av,int (0:Int)]) []]),((44:Nat),[Hint.call Lb (AV.tu [(rootsF (beginW h) s).1.av,Z01 (rootsF (beginW h) s).2.1,int (rootsF (beginW h) s).2.2]) []]),((49:Nat),[Hint.br Lb]),((55:Nat),[Hint.call Lb (AV.tu [(allF (rootsF (beginW h) s).1).1.av,int (allF (rootsF (beginW h) s).1).2]) []]),((59:Nat),[Hint.br Lb]),((15:Nat),[Hint.own]),((93:Nat),[Hint.call Lb (fillN (weakS (allF (rootsF (beginW h) s).1).1 k k.length) (weakS (allF (rootsF (beginW h) s).1).1 k k.length).old.length).av []]),((94:Nat),[Hint.call Lb (Z1x (fillN (weakS (allF (rootsF (beginW h) s).1).1 k k.length) (weakS (allF (rootsF (beginW h) s).1).1 k k.length).old.length)).av []]),((98:Nat),[Hint.int ((1:Int)-(Z1x (fillN (weakS (allF (rootsF (beginW h) s).1).1 k k.length) (weakS (allF (rootsF (beginW h) s).1).1 k k.length).old.length)).heap.S)]),((105:Nat),[Hint.int (↑(Z1x (fillN (weakS (allF (rootsF (beginW h) s).1).1 k k.length) (weakS (allF (rootsF (beginW h) s).1).1 k k.length).old.length)).T.length:Int)]),((107:Nat),[Hint.br M]),((111:Nat),[Hint.int ((↑(Z1x (fillN (weakS (allF (rootsF (beginW h) s).1).1 k k.length) (weakS (allF (rootsF (beginW h) s).1).1 k k.length).old.length)).T.length:Int)-(1:Int))]),((112:Nat),[Hint.el (idv ((Z1x (fillN (weakS (allF (rootsF (beginW h) s).1).1 k k.length) (weakS (allF (rootsF (beginW h) s).1).1 k k.length).old.length)).T.getD ((↑(Z1x (fillN (weakS (allF (rootsF (beginW h) s).1).1 k k.length) (weakS (allF (rootsF (beginW h) s).1).1 k k.length).old.length)).T.length:Int)-(1:Int)).toNat La))])] [((0:Nat),Tg.mk (tm (122:Nat) [((2:Nat),Z01 k),((6:Nat),AV.pt (8006:Nat) (0:Nat) (0:Nat)),((7:Nat),AV.d (DV.sl (0:Nat) [])),((8:Nat),AV.d (DV.sl (0:Nat) [])),((9:Nat),AV.pt (8009:Nat) (0:Nat) (0:Nat)),((10:Nat),int (0:Int)),((11:Nat),AV.pt (32011:Nat) (0:Nat) (0:Nat)),((13:Nat),Z01 (rootsF (beginW h) s).2.1),((15:Nat),AV.ow (72015:Nat)),((16:Nat),int (0:Int))]) [((72015:Nat),Blk.arr 35 (1:Nat) []),((32011:Nat),Blk.box 138 (allF (rootsF (beginW h) s).1).1.cells),((8009:Nat),Blk.box 73 [int (0:Int),int (0:Int),int (0:Int),int (0:Int),int (0:Int),int (0:Int)]),((8006:Nat),Blk.box 28 [int (0:Int),int (0:Int),AV.d (DV.sl (0:Nat) []),AV.d (DV.sl (0:Nat) []),int (0:Int),int (0:Int)])] (60:Nat),Ex.nrm,Tg.mk (tm (122:Nat) [((6:Nat),AV.pt (8006:Nat) (0:Nat) (0:Nat)),((7:Nat),AV.d (DV.sl (0:Nat) [])),((8:Nat),AV.d (DV.sl (0:Nat) [])),((9:Nat),AV.pt (8009:Nat) (0:Nat) (0:Nat)),((10:Nat),int (0:Int)),((11:Nat),AV.pt (32011:Nat) (0:Nat) (0:Nat)),((13:Nat),Z01 (rootsF (beginW h) s).2.1),((15:Nat),AV.ow (72015:Nat))]) [((72015:Nat),Blk.arr 35 (1:Nat) (Ld wdv (Z5V (allF (rootsF (beginW h) s).1).1 k k.length))),((32011:Nat),Blk.box 138 (weakS (allF (rootsF (beginW h) s).1).1 k k.length).cells),((8009:Nat),Blk.box 73 [int (0:Int),int (0:Int),int (0:Int),int (0:Int),int (0:Int),int (0:Int)]),((8006:Nat),Blk.box 28 [int (0:Int),int (0:Int),AV.d (DV.sl (0:Nat) []),AV.d (DV.sl (0:Nat) []),int (0:Int),int (0:Int)])] (60:Nat))] [] dd func36 [] (φ:=GP 65 [h.av] M (Sx.bool (Z02 h)) []/\(!Z02 h)=Lb/\Lb=Lb/\GP 42 [h.av,Z01 s] M (Sx.bool (Z0f h s)) []/\((!!Z0f h s)=M->GP 42 [h.av,Z01 k] M (Sx.bool (Z0f h k)) [])/\(!Z0f h s||!Z0f h k)=Lb/\Lb=Lb/\GP 82 [h.av] Lb (AV.tu [(beginW h).av,int (0:Int)]) []/\GP 83 [(beginW h).av,Z01 s] Lb (AV.tu [(rootsF (beginW h) s).1.av,Z01 (rootsF (beginW h) s).2.1,int (rootsF (beginW h) s).2.2]) []/\((rootsF (beginW h) s).2.2 != (0:Int))=Lb/\Lb=Lb/\GP 84 [(rootsF (beginW h) s).1.av] Lb (AV.tu [(allF (rootsF (beginW h) s).1).1.av,int (allF (rootsF (beginW h) s).1).2]) []/\((allF (rootsF (beginW h) s).1).2 != (0:Int))=Lb/\Lb=Lb/\CP (blkF f36 (0:Nat)) (Tg.mk (tm (122:Nat) [((2:Nat),Z01 k),((6:Nat),AV.pt (8006:Nat) (0:Nat) (0:Nat)),((7:Nat),AV.d (DV.sl (0:Nat) [])),((8:Nat),AV.d (DV.sl (0:Nat) [])),((9:Nat),AV.pt (8009:Nat) (0:Nat) (0:Nat)),((10:Nat),int (0:Int)),((11:Nat),AV.pt (32011:Nat) (0:Nat) (0:Nat)),((13:Nat),Z01 (rootsF (beginW h) s).2.1),((15:Nat),AV.ow (72015:Nat)),((16:Nat),int (0:Int))]) [((72015:Nat),Blk.arr 35 (1:Nat) []),((32011:Nat),Blk.box 138 (allF (rootsF (beginW h) s).1).1.cells),((8009:Nat),Blk.box 73 [int (0:Int),int (0:Int),int (0:Int),int (0:Int),int (0:Int),int (0:Int)]),((8006:Nat),Blk.box 28 [int (0:Int),int (0:Int),AV.d (DV.sl (0:Nat) []),AV.d (DV.sl (0:Nat) []),int (0:Int),int (0:Int)])] (60:Nat)).st Ex.nrm (Tg.mk (tm (122:Nat) [((6:Nat),AV.pt (8006:Nat) (0:Nat) (0:Nat)),((7:Nat),AV.d (DV.sl (0:Nat) [])),((8:Nat),AV.d (DV.sl (0:Nat) [])),((9:Nat),AV.pt (8009:Nat) (0:Nat) (0:Nat)),((10:Nat),int (0:Int)),((11:Nat),AV.pt (32011:Nat) (0:Nat) (0:Nat)),((13:Nat),Z01 (rootsF (beginW h) s).2.1),((15:Nat),AV.ow (72015:Nat))]) [((72015:Nat),Blk.arr 35 (1:Nat) (Ld wdv (Z5V (allF (rootsF (beginW h) s).1).1 k k.length))),((32011:Nat),Blk.box 138 (weakS (allF (rootsF (beginW h) s).1).1 k k.length).cells),((8009:Nat),Blk.box 73 [int (0:Int),int (0:Int),int (0:Int),int (0:Int),int (0:Int),int (0:Int)]),((8006:Nat),Blk.box 28 [int (0:Int),int (0:Int),AV.d (DV.sl (0:Nat) []),AV.d (DV.sl (0:Nat) []),int (0:Int),int (0:Int)])] (60:Nat)).st/\GP 87 [(weakS (allF (rootsF (beginW h) s).1).1 k k.length).av] Lb (fillN (weakS (allF (rootsF (beginW h) s).1).1 k k.length) (weakS (allF (rootsF (beginW h) s).1).1 k k.length).old.length).av []/\GP 86 [(fillN (weakS (allF (rootsF (beginW h) s).1).1 k k.length) (weakS (allF (rootsF (beginW h) s).1).1 k k.length).old.length).av] Lb (Z1x (fillN (weakS (allF (rootsF (beginW h) s).1).1 k k.length) (weakS (allF (rootsF (beginW h) s).1).1 k k.length).old.length)).av []/\Le.wrap ((1:Int)-(Z1x (fillN (weakS (allF (rootsF (beginW h) s).1).1 k k.length) (weakS (allF (rootsF (beginW h) s).1).1 k k.length).old.length)).heap.S)=(1:Int)-(Z1x (fillN (weakS (allF (rootsF (beginW h) s).1).1 k k.length) (weakS (allF (rootsF (beginW h) s).1).1 k k.length).old.length)).heap.S/\(↑(Ld idv (Z1x (fillN (weakS (allF (rootsF (beginW h) s).1).1 k k.length) (weakS (allF (rootsF (beginW h) s).1).1 k k.length).old.length)).T).length:Int)=(↑(Z1x (fillN (weakS (allF (rootsF (beginW h) s).1).1 k k.length) (weakS (allF (rootsF (beginW h) s).1).1 k k.length).old.length)).T.length:Int)/\Lc ((0:Int)<(↑(Z1x (fillN (weakS (allF (rootsF (beginW h) s).1).1 k k.length) (weakS (allF (rootsF (beginW h) s).1).1 k k.length).old.length)).T.length:Int))=M/\M=M/\Le.wrap ((↑(Z1x (fillN (weakS (allF (rootsF (beginW h) s).1).1 k k.length) (weakS (allF (rootsF (beginW h) s).1).1 k k.length).old.length)).T.length:Int)-(1:Int))=(↑(Z1x (fillN (weakS (allF (rootsF (beginW h) s).1).1 k k.length) (weakS (allF (rootsF (beginW h) s).1).1 k k.length).old.length)).T.length:Int)-(1:Int)/\(0:Int)<=(↑(Z1x (fillN (weakS (allF (rootsF (beginW h) s).1).1 k k.length) (weakS (allF (rootsF (beginW h) s).1).1 k k.length).old.length)).T.length:Int)-(1:Int)/\(Ld idv (Z1x (fillN (weakS (allF (rootsF (beginW h) s).1).1 k k.length) (weakS (allF (rootsF (beginW h) s).1).1 k k.length).old.length)).T)[((↑(Z1x (fillN (weakS (allF (rootsF (beginW h) s).1).1 k k.length) (weakS (allF (rootsF (beginW h) s).1).1 k k.length).old.length)).T.length:Int)-(1:Int)).toNat]? = Lf (idv ((Z1x (fillN (weakS (allF (rootsF (beginW h) s).1).1 k k.length) (weakS (allF (rootsF (beginW h) s).1).1 k k.length).old.length)).T.getD ((↑(Z1x (fillN (weakS (allF (rootsF (beginW h) s).1).1 k k.length) (weakS (allF (rootsF (beginW h) s).1).1 k k.length).old.length)).T.length:Int)-(1:Int)).toNat La))) ?_ kr kr;exact⟨(@Z0h (h)),(by(simp only[bs];omega)),rfl,(@Z1u (h) (s) aa oq),(λhg=>by(try simp only[bs]at hg);exact @Z1u (h) (k) (by(try simp only[bs]at hg);assumption) (by(try simp only[bs]at hg);omega)),(by simp only[bs, *,true_or,or_true,true_and,and_true,not_true_eq_false,not_false_eq_true,Lm,Ll]),rfl,(@Z4y (h) aa aa aa),(@Z5s (beginW h) (s) aa aa aa),(by(simp only[bs];omega)),rfl,(@Zbs ((rootsF (beginW h) s).1) aa),(by(simp only[bs];omega)),rfl,(@Zfo ((allF (rootsF (beginW h) s).1).1) (k) ((rootsF (beginW h) s).2.1) aa aa oq aa aa aa),(@ZcB (weakS (allF (rootsF (beginW h) s).1).1 k k.length) aa aa),(@Zc8 (fillN (weakS (allF (rootsF (beginW h) s).1).1 k k.length) (weakS (allF (rootsF (beginW h) s).1).1 k k.length).old.length) aa oq aa aa aa),(by exact wrapI2 rfl oq oq),(by simp only[Ly]),aa,rfl,(by exact wrapI2 rfl oq oq),(by exact elI oq oq oq)⟩
 .rw[show endH (cW5 h s k)=Heap.mk (Z1x (fillN (weakS (allF (rootsF (beginW h) s).1).1 k k.length) (weakS (allF (rootsF (beginW h) s).1).1 k k.length).old.length)).heap.C (Z1x (fillN (weakS (allF (rootsF (beginW h) s).1).1 k k.length) (weakS (allF (rootsF (beginW h) s).1).1 k k.length).old.length)).heap.W (Z1x (fillN (weakS (allF (rootsF (beginW h) s).1).1 k k.length) (weakS (allF (rootsF (beginW h) s).1).1 k k.length).old.length)).heap.P ((1:Int)-(Z1x (fillN (weakS (allF (rootsF (beginW h) s).1).1 k k.length) (weakS (allF (rootsF (beginW h) s).1).1 k k.length).old.length)).heap.S) (-1:Int)from by(simp[endH,cW5,cW4,cW3,cW2,Z1g, *];omega)];let y1:=rootsF (beginW h) s;let y0:=weakS (allF y1.1).1 k k.length;let y2:=fillN y0 y0.old.length;exact gF [] func36 [] (Fh 15 [.own] (Fc 20 (@Z0h h) (Ffb 21 (!Z02 h) (Fc 26 (@Z1u h s aa oq) (FcG 31 (!!Z0f h s) (λhg=>by(try simp only[bs]at hg);exact @Z1u h k aa oq) (Ffs 33 (!Z0f h s||!Z0f h k) (Fc 38 (@Z4y h aa aa aa) (Fc 44 (@Z5s (beginW h) s aa aa aa) (Ffb 49 (y1.2.2 != 0) (Fc 55 (@Zbs (y1.1) aa) (Ffb 59 ((allF y1.1).2 != 0) (Fu (@Zfo ((allF y1.1).1) k (y1.2.1) aa aa oq aa aa aa) (Fc 93 (@ZcB y0 aa aa) (Fc 94 (@Zc8 y2 aa oq aa aa aa) (Fi 98 (1-(Z1x y2).heap.S) (Fl 105 idv (Z1x y2).T (Ff 107 hc0 Fz)))))))))))))))))
end
def pinB(w:WorldM)(i:Nat)(n:Int):WorldM:=⟨⟨w.heap.C,w.heap.W,w.heap.P.set i ⟨(w.heap.P.getD i La).K,(w.heap.P.getD i La).S,(w.heap.P.getD i La).U,(w.heap.P.getD i La).N+n⟩,w.heap.S,w.heap.B⟩,w.G,w.E⟩
def pinI(w:WorldM)(t:Tape):Nat:=(ofA w.heap.C (w.pick t)).1.toNat
def WorldM.pin(w:WorldM)(t:Tape):WorldM :=
  if(ofA w.heap.C (w.pick t)).2.2=0 then
    (if 0<(w.heap.P.getD (pinI w t) La).N/\(w.pickT t).next 2=0 then pinB w (pinI w t) (-1)
     else if 0<(w.heap.P.getD (pinI w t) La).N\/(w.heap.P.getD (pinI w t) La).K=2\/(crowd w.heap.P:Int)<w.heap.C.pg/4 then pinB w (pinI w t) 1 else w)else w
def WorldM.pinT(w:WorldM)(t:Tape):Tape:=if(ofA w.heap.C (w.pick t)).2.2=0/\0<(w.heap.P.getD (pinI w t) La).N then(w.pickT t).step 2 else w.pickT t
def Zm3(w:WorldM)(t:Tape)(hw:WMok w)(ht:TOk t)(ha:t.at'<=1000000)(hv:Z06 w.heap.C=M)(hp:(w.heap.P.length:Int)=w.heap.C.pg)(hpn:∀ j,j<w.heap.P.length->-1048576<=(w.heap.P.getD j La).N/\(w.heap.P.getD j La).N<=4294967296):LP 104 [w.av,.pt 0 0 0] [t.b] (w.pin t).av [(w.pinT t).b]:=by
 have hb:=validB_iff.1 hv;have s1:=Zbf w t;have k1:=Z3O ht s1.2.2 oq oq;have p1:=Z4c hw t;have q1:=hpn (pinI w t);have hcr:=Z2G w.heap.P w.heap.P.length;unfold pinI at q1;have o1:=λe=>Z5e (a:=w.pick t) hv e;by_cases e:(ofA w.heap.C (w.pick t)).2.2=0
 .have o2:=o1 e;by_cases c1:0<(w.heap.P.getD (ofA w.heap.C (w.pick t)).1.toNat La).N
  .have eT:w.pinT t=(w.pickT t).step 2:=by rw[WorldM.pinT,if_pos ⟨e,c1⟩]
   by_cases c2:(w.pickT t).next 2=0
   .have eP:w.pin t=⟨⟨w.heap.C,w.heap.W,w.heap.P.set (ofA w.heap.C (w.pick t)).1.toNat ⟨(w.heap.P.getD (ofA w.heap.C (w.pick t)).1.toNat La).K,(w.heap.P.getD (ofA w.heap.C (w.pick t)).1.toNat La).S,(w.heap.P.getD (ofA w.heap.C (w.pick t)).1.toNat La).U,(w.heap.P.getD (ofA w.heap.C (w.pick t)).1.toNat La).N-1⟩,w.heap.S,w.heap.B⟩,w.G,w.E⟩:=by rw[WorldM.pin,if_pos e,if_pos ⟨c1,c2⟩];rfl
    rw[eP,eT];exact lF func104 [] (Fh 42 [.br M] (Fh 37 [.br M] (Fh 51 [.el (w.heap.P.getD (ofA w.heap.C (w.pick t)).1.toNat La).dv] (Fp 12 (@Z1Z w t aa aa oq) (Fc 18 (@Z4j w.heap.C (w.pick t) oq oq) (Ffb 23 ((ofA w.heap.C (w.pick t)).2.2 != 0) (FA 25 29 Page.dv w.heap.P (Fmq 41 Page.dv w.heap.P ((ofA w.heap.C (w.pick t)).1) (Fb (Lc (0<(w.heap.P.getD (ofA w.heap.C (w.pick t)).1.toNat La).N)=M) (Fp 45 (@Z0g (w.pickT t) (2) aa oq oq) (Fb (((w.pickT t).next (2:Int)==0)=M) (Fa (by exact Z0Y oq:(Ld Page.dv w.heap.P)[(ofA w.heap.C (w.pick t)).1.toNat]? = Lf (w.heap.P.getD (ofA w.heap.C (w.pick t)).1.toNat La).dv) (Fi 52 ((w.heap.P.getD (ofA w.heap.C (w.pick t)).1.toNat La).N-1) (Fa (by exact Z0Y oq:(Ld Page.dv w.heap.P)[(ofA w.heap.C (w.pick t)).1.toNat]? = Lf (w.heap.P.getD (ofA w.heap.C (w.pick t)).1.toNat La).dv) (FS 10054 Page.dv w.heap.P ((ofA w.heap.C (w.pick t)).1.toNat) (Page.mk (w.heap.P.getD (ofA w.heap.C (w.pick t)).1.toNat La).K (w.heap.P.getD (ofA w.heap.C (w.pick t)).1.toNat La).S (w.heap.P.getD (ofA w.heap.C (w.pick t)).1.toNat La).U ((w.heap.P.getD (ofA w.heap.C (w.pick t)).1.toNat La).N-1)) ((w.heap.P.getD (ofA w.heap.C (w.pick t)).1.toNat La).dv) Fz)))))))))))))))
   .have eP:w.pin t=⟨⟨w.heap.C,w.heap.W,w.heap.P.set (ofA w.heap.C (w.pick t)).1.toNat ⟨(w.heap.P.getD (ofA w.heap.C (w.pick t)).1.toNat La).K,(w.heap.P.getD (ofA w.heap.C (w.pick t)).1.toNat La).S,(w.heap.P.getD (ofA w.heap.C (w.pick t)).1.toNat La).U,(w.heap.P.getD (ofA w.heap.C (w.pick t)).1.toNat La).N+1⟩,w.heap.S,w.heap.B⟩,w.G,w.E⟩:=by rw[WorldM.pin,if_pos e,if_neg (λq=>c2 q.2),if_pos (.inl c1)];rfl
    rw[eP,eT];exact lF func104 [] (Fh 42 [.br M] (Fh 37 [.br Lb] (Fh 59 [.el (w.heap.P.getD (ofA w.heap.C (w.pick t)).1.toNat La).dv] (Fh 65 [.el (w.heap.P.getD (ofA w.heap.C (w.pick t)).1.toNat La).dv] (Fh 76 [.int (w.heap.C.pg/4)] (Fh 55 [.br M] (Fh 82 [.el (w.heap.P.getD (ofA w.heap.C (w.pick t)).1.toNat La).dv] (Fp 12 (@Z1Z w t aa aa oq) (Fc 18 (@Z4j w.heap.C (w.pick t) oq oq) (Ffb 23 ((ofA w.heap.C (w.pick t)).2.2 != 0) (FA 25 29 Page.dv w.heap.P (Fmq 41 Page.dv w.heap.P ((ofA w.heap.C (w.pick t)).1) (Fb (Lc (0<(w.heap.P.getD (ofA w.heap.C (w.pick t)).1.toNat La).N)=M) (Fp 45 (@Z0g (w.pickT t) (2) aa oq oq) (Fb (((w.pickT t).next (2:Int)==0)=Lb) (Fa (by exact Z0Y oq:(Ld Page.dv w.heap.P)[(ofA w.heap.C (w.pick t)).1.toNat]? = Lf (w.heap.P.getD (ofA w.heap.C (w.pick t)).1.toNat La).dv) (Fa (by intro hg;(try simp only[bs]at hg);exact Z0Y oq:(!decide (0<(w.heap.P.getD (ofA w.heap.C (w.pick t)).1.toNat La).N))=M->(Ld Page.dv w.heap.P)[(ofA w.heap.C (w.pick t)).1.toNat]? = Lf (w.heap.P.getD (ofA w.heap.C (w.pick t)).1.toNat La).dv) (FcG 71 (!(Lc (0<(w.heap.P.getD (ofA w.heap.C (w.pick t)).1.toNat La).N)||(w.heap.P.getD (ofA w.heap.C (w.pick t)).1.toNat La).K==2)) (λhg=>by(try simp only[bs]at hg);exact @Z9g w.heap oq) (Fa (by intro hg;(try simp only[bs]at hg);rw[wrapI' oq oq];omega:(!(Lc (0<(w.heap.P.getD (ofA w.heap.C (w.pick t)).1.toNat La).N)||(w.heap.P.getD (ofA w.heap.C (w.pick t)).1.toNat La).K==2))=M->Le.wrap (w.heap.C.pg.tdiv 4)=w.heap.C.pg/4) (Fa (by intro hg;(try simp only[bs]at hg);omega:(!(Lc (0<(w.heap.P.getD (ofA w.heap.C (w.pick t)).1.toNat La).N)||(w.heap.P.getD (ofA w.heap.C (w.pick t)).1.toNat La).K==2))=M->(4:Int)=0->False) (Fb ((Lc (0<(w.heap.P.getD (ofA w.heap.C (w.pick t)).1.toNat La).N)||(w.heap.P.getD (ofA w.heap.C (w.pick t)).1.toNat La).K==2||Lc ((↑(crowd w.heap.P):Int)<w.heap.C.pg/4))=M) (Fa (by exact Z0Y oq:(Ld Page.dv w.heap.P)[(ofA w.heap.C (w.pick t)).1.toNat]? = Lf (w.heap.P.getD (ofA w.heap.C (w.pick t)).1.toNat La).dv) (Fi 83 ((w.heap.P.getD (ofA w.heap.C (w.pick t)).1.toNat La).N+1) (Fa (by exact Z0Y oq:(Ld Page.dv w.heap.P)[(ofA w.heap.C (w.pick t)).1.toNat]? = Lf (w.heap.P.getD (ofA w.heap.C (w.pick t)).1.toNat La).dv) (FS 10085 Page.dv w.heap.P ((ofA w.heap.C (w.pick t)).1.toNat) (Page.mk (w.heap.P.getD (ofA w.heap.C (w.pick t)).1.toNat La).K (w.heap.P.getD (ofA w.heap.C (w.pick t)).1.toNat La).S (w.heap.P.getD (ofA w.heap.C (w.pick t)).1.toNat La).U ((w.heap.P.getD (ofA w.heap.C (w.pick t)).1.toNat La).N+1)) ((w.heap.P.getD (ofA w.heap.C (w.pick t)).1.toNat La).dv) Fz)))))))))))))))))))))))))
  .have eT:w.pinT t=w.pickT t:=by rw[WorldM.pinT,if_neg (λq=>c1 q.2)]
   by_cases c3:(w.heap.P.getD (ofA w.heap.C (w.pick t)).1.toNat La).K=2\/(crowd w.heap.P:Int)<w.heap.C.pg/4
   .have eP:w.pin t=⟨⟨w.heap.C,w.heap.W,w.heap.P.set (ofA w.heap.C (w.pick t)).1.toNat ⟨(w.heap.P.getD (ofA w.heap.C (w.pick t)).1.toNat La).K,(w.heap.P.getD (ofA w.heap.C (w.pick t)).1.toNat La).S,(w.heap.P.getD (ofA w.heap.C (w.pick t)).1.toNat La).U,(w.heap.P.getD (ofA w.heap.C (w.pick t)).1.toNat La).N+1⟩,w.heap.S,w.heap.B⟩,w.G,w.E⟩:=by rw[WorldM.pin,if_pos e,if_neg (λq=>c1 q.1),if_pos (.inr c3)];rfl
    rw[eP,eT];exact lF func104 [] (Fh 42 [.br Lb] (Fh 45 [.bor [0] (int ((w.pickT t).next 2)) [((w.pickT t).step 2).b]] (Fh 59 [.el (w.heap.P.getD (ofA w.heap.C (w.pick t)).1.toNat La).dv] (Fh 65 [.el (w.heap.P.getD (ofA w.heap.C (w.pick t)).1.toNat La).dv] (Fh 76 [.int (w.heap.C.pg/4)] (Fh 55 [.br M] (Fh 82 [.el (w.heap.P.getD (ofA w.heap.C (w.pick t)).1.toNat La).dv] (Fp 12 (@Z1Z w t aa aa oq) (Fc 18 (@Z4j w.heap.C (w.pick t) oq oq) (Ffb 23 ((ofA w.heap.C (w.pick t)).2.2 != 0) (FA 25 29 Page.dv w.heap.P (Fmq 41 Page.dv w.heap.P ((ofA w.heap.C (w.pick t)).1) (Fb (Lc (0<(w.heap.P.getD (ofA w.heap.C (w.pick t)).1.toNat La).N)=Lb) (Fa (by exact Z0Y oq:(Ld Page.dv w.heap.P)[(ofA w.heap.C (w.pick t)).1.toNat]? = Lf (w.heap.P.getD (ofA w.heap.C (w.pick t)).1.toNat La).dv) (Fa (by intro hg;(try simp only[bs]at hg);exact Z0Y oq:(!decide (0<(w.heap.P.getD (ofA w.heap.C (w.pick t)).1.toNat La).N))=M->(Ld Page.dv w.heap.P)[(ofA w.heap.C (w.pick t)).1.toNat]? = Lf (w.heap.P.getD (ofA w.heap.C (w.pick t)).1.toNat La).dv) (FcG 71 (!(Lc (0<(w.heap.P.getD (ofA w.heap.C (w.pick t)).1.toNat La).N)||(w.heap.P.getD (ofA w.heap.C (w.pick t)).1.toNat La).K==2)) (λhg=>by(try simp only[bs]at hg);exact @Z9g w.heap oq) (Fa (by intro hg;(try simp only[bs]at hg);rw[LU oq,wrapI' oq oq]:(!(Lc (0<(w.heap.P.getD (ofA w.heap.C (w.pick t)).1.toNat La).N)||(w.heap.P.getD (ofA w.heap.C (w.pick t)).1.toNat La).K==2))=M->Le.wrap (w.heap.C.pg.tdiv 4)=w.heap.C.pg/4) (Fa (by intro hg;(try simp only[bs]at hg);omega:(!(Lc (0<(w.heap.P.getD (ofA w.heap.C (w.pick t)).1.toNat La).N)||(w.heap.P.getD (ofA w.heap.C (w.pick t)).1.toNat La).K==2))=M->(4:Int)=0->False) (Fb ((Lc (0<(w.heap.P.getD (ofA w.heap.C (w.pick t)).1.toNat La).N)||(w.heap.P.getD (ofA w.heap.C (w.pick t)).1.toNat La).K==2||Lc ((↑(crowd w.heap.P):Int)<w.heap.C.pg/4))=M) (Fa (by exact Z0Y oq:(Ld Page.dv w.heap.P)[(ofA w.heap.C (w.pick t)).1.toNat]? = Lf (w.heap.P.getD (ofA w.heap.C (w.pick t)).1.toNat La).dv) (Fi 83 ((w.heap.P.getD (ofA w.heap.C (w.pick t)).1.toNat La).N+1) (Fa (by exact Z0Y oq:(Ld Page.dv w.heap.P)[(ofA w.heap.C (w.pick t)).1.toNat]? = Lf (w.heap.P.getD (ofA w.heap.C (w.pick t)).1.toNat La).dv) (FS 10085 Page.dv w.heap.P ((ofA w.heap.C (w.pick t)).1.toNat) (Page.mk (w.heap.P.getD (ofA w.heap.C (w.pick t)).1.toNat La).K (w.heap.P.getD (ofA w.heap.C (w.pick t)).1.toNat La).S (w.heap.P.getD (ofA w.heap.C (w.pick t)).1.toNat La).U ((w.heap.P.getD (ofA w.heap.C (w.pick t)).1.toNat La).N+1)) ((w.heap.P.getD (ofA w.heap.C (w.pick t)).1.toNat La).dv) Fz)))))))))))))))))))))))
   .have eP:w.pin t=w:=by rw[WorldM.pin,if_pos e,if_neg (λq=>c1 q.1),if_neg (λq=>q.elim c1 c3)]
    rw[eP,eT];exact lF func104 [] (Fh 42 [.br Lb] (Fh 45 [.bor [0] (int ((w.pickT t).next 2)) [((w.pickT t).step 2).b]] (Fh 59 [.el (w.heap.P.getD (ofA w.heap.C (w.pick t)).1.toNat La).dv] (Fh 65 [.el (w.heap.P.getD (ofA w.heap.C (w.pick t)).1.toNat La).dv] (Fh 76 [.int (w.heap.C.pg/4)] (Fh 55 [.br Lb] (Fp 12 (@Z1Z w t aa aa oq) (Fc 18 (@Z4j w.heap.C (w.pick t) oq oq) (Ffb 23 ((ofA w.heap.C (w.pick t)).2.2 != 0) (FA 25 29 Page.dv w.heap.P (Fmq 41 Page.dv w.heap.P ((ofA w.heap.C (w.pick t)).1) (Fb (Lc (0<(w.heap.P.getD (ofA w.heap.C (w.pick t)).1.toNat La).N)=Lb) (Fa (by exact Z0Y oq:(Ld Page.dv w.heap.P)[(ofA w.heap.C (w.pick t)).1.toNat]? = Lf (w.heap.P.getD (ofA w.heap.C (w.pick t)).1.toNat La).dv) (Fa (by intro hg;(try simp only[bs]at hg);exact Z0Y oq:(!decide (0<(w.heap.P.getD (ofA w.heap.C (w.pick t)).1.toNat La).N))=M->(Ld Page.dv w.heap.P)[(ofA w.heap.C (w.pick t)).1.toNat]? = Lf (w.heap.P.getD (ofA w.heap.C (w.pick t)).1.toNat La).dv) (FcG 71 (!(Lc (0<(w.heap.P.getD (ofA w.heap.C (w.pick t)).1.toNat La).N)||(w.heap.P.getD (ofA w.heap.C (w.pick t)).1.toNat La).K==2)) (λhg=>by(try simp only[bs]at hg);exact @Z9g w.heap oq) (Fa (by intro hg;(try simp only[bs]at hg);rw[LU oq,wrapI' oq oq]:(!(Lc (0<(w.heap.P.getD (ofA w.heap.C (w.pick t)).1.toNat La).N)||(w.heap.P.getD (ofA w.heap.C (w.pick t)).1.toNat La).K==2))=M->Le.wrap (w.heap.C.pg.tdiv 4)=w.heap.C.pg/4) (Fa (by intro hg;(try simp only[bs]at hg);omega:(!(Lc (0<(w.heap.P.getD (ofA w.heap.C (w.pick t)).1.toNat La).N)||(w.heap.P.getD (ofA w.heap.C (w.pick t)).1.toNat La).K==2))=M->(4:Int)=0->False) (Fb ((Lc (0<(w.heap.P.getD (ofA w.heap.C (w.pick t)).1.toNat La).N)||(w.heap.P.getD (ofA w.heap.C (w.pick t)).1.toNat La).K==2||Lc ((↑(crowd w.heap.P):Int)<w.heap.C.pg/4))=Lb) Fz))))))))))))))))))
 .have eP:w.pin t=w:=by rw[WorldM.pin,if_neg e]
  have eT:w.pinT t=w.pickT t:=by rw[WorldM.pinT,if_neg (λq=>e q.1)]
  rw[eP,eT];exact lF func104 [] (Fp 12 (@Z1Z w t aa aa oq) (Fc 18 (@Z4j w.heap.C (w.pick t) oq oq) (Ftb 23 ((ofA w.heap.C (w.pick t)).2.2 != 0) Fz)))
def Z7e(h:Heap)(s k:List Int)(hw:WOk h.W)(hs:s.length<=1048575)(hk:k.length<=1048575)(hs2:ULe s)(hk2:ULe k):GP 36 [h.av,Z01 s,Z01 k] Lb (.tu [(Z0m h s k).1.av,Z01 (Z0m h s k).2.1,Z01 (Z0m h s k).2.2.1,.ag (Z0m h s k).2.2.2.1.cells,int (Z0m h s k).2.2.2.2]) []:=by
 unfold Z0m;by_cases hp:Z02 h=M
 .rw[if_pos hp];by_cases hr:Z0f h s=M/\Z0f h k=M
  .rw[if_pos hr];by_cases e:(rootsF (beginW h) s).2.2=0
   .rw[if_pos e];by_cases e2:(allF (rootsF (beginW h) s).1).2=0
    .rw[if_pos e2];exact ZkV h s k hw hs hk hs2 hk2 hp hr.1 hr.2 e e2
    .rw[if_neg e2];exact ZlR h s k hw hs hk hs2 hk2 hp hr.1 hr.2 e e2
   .rw[if_neg e];exact Zln h s k hw hs hk hs2 hk2 hp hr.1 hr.2 e
  .rw[if_neg hr];refine ZkH h s k hw hs hk hs2 hk2 hp ?_;by_cases q:Z0f h s=M
   .refine Li ?_;have:¬ Z0f h k=M:=λq2=>hr ⟨q,q2⟩;simpa using this
   .exact Lq (by simpa using q)
 .rw[if_neg hp];exact Zmk h s k hw hs hk hs2 hk2 (by simpa using hp)
def WorldM.collect(w:WorldM):WorldM:=if(Z0m w.heap w.G w.E).2.2.2.2=0 then⟨(Z0m w.heap w.G w.E).1,(Z0m w.heap w.G w.E).2.1,(Z0m w.heap w.G w.E).2.2.1⟩else w
def Zcb(w:WorldM)(hw:WOk w.heap.W)(hs:w.G.length<=1048575)(hk:w.E.length<=1048575)(hs2:ULe w.G)(hk2:ULe w.E):GP 23 [w.av] Lb w.collect.av []:=by
 by_cases e:(Z0m w.heap w.G w.E).2.2.2.2=0
 .have e7:w.collect=⟨(Z0m w.heap w.G w.E).1,(Z0m w.heap w.G w.E).2.1,(Z0m w.heap w.G w.E).2.2.1⟩:=by rw[WorldM.collect,if_pos e]
  rw[e7];exact gF [] func23 [] (Fc 15 (@Z7e w.heap w.G w.E aa aa aa aa aa) (Ftb 22 ((Z0m w.heap w.G w.E).2.2.2.2==0) Fz))
 .have e7:w.collect=w:=by rw[WorldM.collect,if_neg e]
  rw[e7];exact gF [] func23 [] (Fc 15 (@Z7e w.heap w.G w.E aa aa aa aa aa) (Ffb 22 ((Z0m w.heap w.G w.E).2.2.2.2==0) Fz))
section
variable (P:Work->Prop) (hf:∀ w r,WkOk w->CIv w->P w->(w.fwd r).2.2=0->P (w.fwd r).1)
 (hin:∀ w q j,WkOk w->CIv w->P w->q∈w.Q->0<=j->j<hlA w.heap.W q->(w.fwd (loadA w.heap.W (q+1+j)).1).2.2=0->P (w.in1 (q+1+j))) (hsd:∀ w n,P w->P (ZgA w n))
include hin in
theorem Zmw{w:Work}(hw:WkOk w)(h:CIv w)(hp:P w){q:Int}(hq:q∈w.Q){l:List Int}(hl:∀ x∈l,0<=x/\x<hlA w.heap.W q):∀ k,k<=l.length->(∀ j,j<k->innE w q l j=0)->P (innN w q l k)
 | 0,_,_=>hp
 | k+1,hk,he=>by
  have ih:=Zmw hw h hp hq hl k oq (λj hj=>he j oq);have ok:=(Z5g hw q l k (λj hj=>he j oq)).1;have iv:=Zb6 hw h hq hl k oq (λj hj=>he j oq);have hx:=hl _ (getD_mem_iff.2 ⟨k,by omega,rfl⟩);exact hin _ q (l.getD k La) ok iv.1 ih (iv.2.q q hq) hx.1 (by rw[iv.2.l q hq];exact hx.2) (he k oq)
include hin hsd in
theorem ZiM{w:Work}(hw:WkOk w)(h:CIv w)(hp:P w)(e:(Z0Z w).2.2=0):P (Z0Z w).1:=by
 by_cases hs:w.D<w.Q.length
 .have hsc:=hw.sc;have hq:Z3Y w∈w.Q:=getD_mem_iff.2 ⟨w.D.toNat,by omega,rfl⟩;unfold Z0Z at e ⊢;rw[if_pos hs]at e ⊢;cases hb:(Lj (Z2j w).length).find? (λk=>Lc (innE w (Z3Y w) (Z2j w) k≠0))with
  | none =>
   have h0:∀ j,j<(Z2j w).length->innE w (Z3Y w) (Z2j w) j=0:=λj hj=>by
    have:=Lh.1 hb j (Lg.2 hj);simpa using this
   exact hsd _ _ (Zmw P hin hw h hp hq (l:=Z2j w) (Z7f (hdW w (Z3Y w))) (Z2j w).length (Lp _) h0)
  | some k =>
   simp only[hb]at e;have:=(Lv.1 hb).1;simp[e]at this
 .have e:Z0Z w=(w,Lb,0):=by rw[Z0Z,if_neg hs]
  rw[e];exact hp
include hin hsd in
theorem Zpe{w:Work}(hw:WkOk w)(h:CIv w)(hp:P w):∀ k,(∀ j,j<k->Z48 w j=Lb)->P (itW w k)
 | 0,_=>hp
 | k+1,hh=>by
  have ih:=Zpe hw h hp k (λj hj=>hh j oq);have ok:=(Z4Y hw k (λj hj=>hh j oq)).1;have iv:=(ZbV hw h k (λj hj=>hh j oq)).1;have hk:=hh k oq;simp only[Z48,decide_eq_false_iff_not,not_or,Lx]at hk;exact ZiM P hin hsd ok iv ih hk.1
include hin hsd in
theorem ZoE{w:Work}(hw:WkOk w)(h:CIv w)(hp:P w)(e:(allF w).2=0):P (allF w).1:=by
 obtain⟨k,hb⟩:=Z6B hw;obtain⟨h1,h2,h3⟩:=Lv.1 hb;have h0:∀ j,j<k->Z48 w j=Lb:=λj hj=>by simpa using h3 j hj
 unfold allF at e ⊢;rw[hb]at e ⊢;simp only at e ⊢;split at e
 .rename_i c;rw[if_pos c];exact ZiM P hin hsd (Z4Y hw k h0).1 (ZbV hw h k h0).1 (Zpe P hin hsd hw h hp k h0) c
 .rename_i c;exact absurd e c
include hf in
theorem Zg7{w:Work}{roots:List Int}(hw:WkOk w)(h:CIv w)(hp:P w):∀ k,(∀ j,j<k->Z2O w roots j=0)->P (Z1D w roots k).1
 | 0,_=>hp
 | k+1,hh=>by
  have ih:=Zg7 hw h hp k (λj hj=>hh j oq);have ok:=(Z3t (roots:=roots) hw k (λj hj=>hh j oq)).1;have iv:=(Z6N (roots:=roots) hw h k (λj hj=>hh j oq)).1;exact hf _ _ ok iv ih (hh k oq)
include hf in
theorem ZkP{w:Work}{roots:List Int}(hw:WkOk w)(h:CIv w)(hp:P w)(e:(rootsF w roots).2.2=0):P (rootsF w roots).1:=by
 unfold rootsF at e ⊢;cases hb:(Lj roots.length).find? (λk=>Lc (Z2O w roots k≠0))with
 | none =>
  have h0:∀ j,j<roots.length->Z2O w roots j=0:=λj hj=>by
   have:=Lh.1 hb j (Lg.2 hj);simpa using this
  exact Zg7 P hf hw h hp roots.length h0
 | some k =>
  simp only[hb]at e;have:=(Lv.1 hb).1;simp[e]at this
include hf hin hsd in
theorem Zqa{h:Heap}{s:List Int}(hw:WOk h.W)(hp:Z02 h=M)(h0:P (beginW h))(e:(rootsF (beginW h) s).2.2=0)(e2:(allF (rootsF (beginW h) s).1).2=0):P (cW2 h s):=by
 have hb:=Z5t hw hp;have hi:=Z4M hp;have ho:=Z4U (roots:=s) hb hi e;exact ZoE P hin hsd ho.1 ho.2.1 (ZkP P hf hb hi h0 e) e2
end
def ZhV{l:List Page}{i k:Nat}(h:∀ m,m<k->i+1+m<l.length/\(l.getD (i+1+m) La).K=3):k<=Z0I l i:=by
 by_cases hc:k<=Z0I l i
 .exact hc
 .have h1:=h (Z0I l i) oq;exact absurd h1.2 (Zf5 h1.1)
def PT.flip{c:Conf}{l:List Page}(h:PT c l){i:Nat}(hi:i<l.length)(hk:(l.getD i La).K=2){s:Int}(hs:0<=s/\s<=1):PT c (Z0U l i (Z0I l i) s):=by
 have hr:∀ j,i<j->j<=i+Z0I l i->(l.getD j La).K=3:=λj h1 h2=>by
  have:=(Zek (l:=l) (i:=i) (m:=j-i-1) oq).2;rwa [show i+1+(j-i-1)=j by omega]at this
 have hg:∀ j,j<l.length->((Z0U l i (Z0I l i) s).getD j La).K=(l.getD j La).K/\((Z0U l i (Z0I l i) s).getD j La).U=(l.getD j La).U/\((Z0U l i (Z0I l i) s).getD j La).N=(l.getD j La).N:=λj hj=>by
  rw[Z2J hj];split
  .exact⟨rfl,rfl,rfl⟩
  .exact⟨rfl,rfl,rfl⟩
 refine⟨?_, ?_, ?_⟩
 .intro j hj;rw[Z2c]at hj;have b:=h.b j hj;rw[Z2J hj];split
  .rename_i hc;refine⟨hs,b.n,b.k,λq=>?_,b.k1,b.k3⟩;exfalso;have q':(l.getD j La).K=0:=q;by_cases hij:j=i
   .subst hij;omega
   .have:=hr j oq hc.2;omega
  .exact b
 .intro j hj hk2;rw[Z2c]at hj ⊢;rw[(hg j hj).1]at hk2;rw[(hg j hj).2.1];have q:=h.lg j hj hk2;refine⟨q.1,λm h1 h2=>?_⟩;have r:=q.2 m h1 h2;refine⟨r.1,by rw[(hg _ r.1).1];exact r.2.1, ?_⟩;rw[Z2J r.1,Z2J hj];by_cases hij:j=i
  .subst hij;have hT:(need c (l.getD j La).U-1).toNat<=Z0I l j:=ZhV λm' hm'=>by
    have:=q.2 (m'+1) oq oq;rw[show j+1+m'=j+(m'+1) by omega];exact⟨this.1,this.2.1⟩
   rw[if_pos oq,if_pos oq];rfl
  .have hj1:¬ (i<=j/\j<=i+Z0I l i):=λhc=>by
    have:=hr j oq hc.2;omega
   have hj2:¬ (i<=j+m/\j+m<=i+Z0I l i):=λhc=>by
    by_cases hlt:j<i
    .by_cases he:j+m=i
     .have:=r.2.1;rw[he]at this;omega
     .have:=(q.2 (i-j) oq oq).2.1;rw[show j+(i-j)=i by omega]at this;omega
    .omega
   rw[if_neg hj1,if_neg hj2];exact r.2.2
 .intro j hj hk3;rw[Z2c]at hj;rw[(hg j hj).1]at hk3;obtain⟨a,a1,a2,a3⟩:=h.tl j hj hk3;exact⟨a,a1,by rw[(hg a oq).1];exact a2,by rw[(hg a oq).2.1];exact a3⟩
structure Tab (B:Int) (w:Work):Prop where
 pt:PT w.heap.C w.heap.P
 tk:∀ x∈w.T,(w.heap.P.getD x.toNat La).S=1-w.heap.S
 pin:∀ p∈w.heap.P,p.N<=B
def Tab.withWords{B:Int}{w:Work}(h:Tab B w)(l:List Int):Tab B ⟨⟨w.heap.C,l,w.heap.P,w.heap.S,w.heap.B⟩,w.old,w.T,w.Q,w.D,w.rep⟩:=⟨h.pt,h.tk,h.pin⟩
def Tab.place{B:Int}(hB:0<=B){w:Work}(hw:WkOk w)(h:Tab B w){n:Int}(hn:1<=n/\n<=w.heap.C.pw)(hc:(w.place n).2.2=M):PT (w.place n).1.heap.C (w.place n).1.heap.P/\(∀ x∈(w.place n).1.T,((w.place n).1.heap.P.getD x.toNat La).S=1-(w.place n).1.heap.S)/\∀ p∈(w.place n).1.heap.P,p.N<=B:=by
 have hsp:=hw.sp;by_cases hf:Z75 w n
 .have e:w.place n=(⟨⟨w.heap.C,w.heap.W,Z2W w.heap.P (Z1g w).toNat n,w.heap.S,w.heap.B⟩,w.old,w.T,w.Q,w.D,w.rep⟩,4096+Z1g w*w.heap.C.pw+(w.heap.P.getD (Z1g w).toNat La).U,M):=by rw[Work.place,if_pos hf]
  unfold Z75 at hf;have hm:=hw.tk _ (Z2d hf.1);have hi:(Z1g w).toNat<w.heap.P.length:=by omega
  have ok:=h.pt.b _ hi;have u:=ok.k1 hm.2.2;rw[e];refine⟨h.pt.setPage hi (Li hm.2.2) ⟨ok.s,ok.n,ok.k,λq=>by simp only at q;omega,λ_=>by simp only;omega,λq=>by simp only at q;omega⟩ (Li hm.2.2), ?_, ?_⟩
  .intro x hx;simp only;rw[Zc3,Z1C hi];split
   .rename_i q;have:=h.tk _ (Z2d hf.1);simp only;omega
   .exact h.tk x hx
  .intro p hp;rcases LM hp with hp | rfl
   .exact h.pin p hp
   .exact h.pin (w.heap.P.getD (Z1g w).toNat La) (getD_in hi)
 .by_cases hg:0<=Z0W w
  .have e:w.place n=(⟨⟨w.heap.C,w.heap.W,Z2W (Z3j w) (Z0W w).toNat n,w.heap.S,w.heap.B⟩,w.old,w.T++[Z0W w],w.Q,w.D,w.rep⟩,4096+Z0W w*w.heap.C.pw,M):=by rw[Work.place,if_neg hf,if_pos hg]
   obtain⟨g1,g2,g3⟩:=ZaB (h:=⟨w.heap.C,w.heap.W,w.heap.P,1-w.heap.S,w.heap.B⟩) (by simp only;omega) hg n;have g1':Z2W (Z3j w) (Z0W w).toNat n=w.heap.P.set (Z0W w).toNat ⟨1,1-w.heap.S,n,0⟩:=g1;have g2':(w.heap.P.getD (Z0W w).toNat La).K=0:=g2;have g3':(Z0W w).toNat<w.heap.P.length:=g3;rw[e,g1'];refine⟨h.pt.setPage g3' (Lq g2') ⟨by simp only;omega,by simp,by simp,by simp,λ_=>by simp only;omega,by simp⟩ (Li rfl), ?_, ?_⟩
   .intro x hx;simp only at hx ⊢;rw[Z1C g3'];split
    .rfl
    .rename_i hne;rcases Lr.1 hx with hx | hx
     .exact h.tk x hx
     .simp at hx;subst hx;exact absurd rfl hne
   .intro p hp;rcases LM hp with hp | rfl
    .exact h.pin p hp
    .exact hB
  .rw[Work.place,if_neg hf,if_neg hg]at hc;simp at hc
def Tab.fwd{B:Int}(hB:0<=B)(w:Work)(r:Int)(hw:WkOk w)(hi:CIv w)(h:Tab B w)(e:(w.fwd r).2.2=0):Tab B (w.fwd r).1:=by
 unfold Work.fwd at e ⊢;split at e
 .rename_i c1;rw[if_pos c1];exact h
 .rename_i c1;rw[if_neg c1];split at e
  .simp at e
  .rename_i c2;rw[if_neg c2];have c2':r∈w.old:=Lx.1 c2;split at e
   .rename_i c3;rw[if_pos c3];exact h
   .rename_i c3;rw[if_neg c3];split at e
    .simp at e
    .rename_i c4;rw[if_neg c4];split at e
     .rename_i c5;rw[if_pos c5];exact⟨h.pt,h.tk,h.pin⟩
     .rename_i c5;rw[if_neg c5];split at e
      .rename_i c6;rw[if_pos c6];have hsp:=hw.sp;have o:=Z5e hw.C (Lx.1 c4);have hpl:=hw.pl;have hl:Z2D w r<w.heap.P.length:=by unfold Z2D;omega
       refine⟨h.pt.flip hl c6 oq, ?_, ?_⟩
       .intro x hx;have t:=hw.tk x hx;simp only[Work.keep,Work.flip];rw[Z2J oq];split
        .rename_i hc;exfalso;by_cases hx':x.toNat=Z2D w r
         .rw[hx']at t;omega
         .have:=(Zek (l:=w.heap.P) (i:=Z2D w r) (m:=x.toNat-Z2D w r-1) oq).2;rw[show Z2D w r+1+(x.toNat-Z2D w r-1)=x.toNat by omega]at this;omega
        .exact h.tk x hx
       .intro p hp;simp only[Work.keep,Work.flip,Z0U,LB,Lg]at hp;obtain⟨j,hj,rfl⟩:=hp;split
        .exact h.pin (w.heap.P.getD j La) (getD_in hj)
        .exact h.pin (w.heap.P.getD j La) (getD_in hj)
      .rename_i c6;rw[if_neg c6];split at e
       .simp at e
       .rename_i c7;rw[if_neg c7];have c7':(w.place (sizeH (hdW w r))).2.2=M:=by simpa using c7
        have hz:=hi.z r c2';have hs:=Z6E w r;have hp:sizeH (hdW w r)<=w.heap.C.pw:=by
         rw[Zb9];rcases hz with hz | hz
         .exact absurd hz c6
         .exact hz
        obtain⟨q1,q2,q3⟩:=h.place hB hw ⟨hs.1,hp⟩ c7';exact⟨q1,q2,q3⟩
def Zk3{B:Int}{h:Heap}(hp:Z02 h=M)(hb:∀ p∈h.P,p.N<=B):Tab B (beginW h):=by
 have hp':=hp;rw[Z2b]at hp';have hs:=hp'.2.2.2.1;refine⟨?_,by simp[beginW], ?_⟩
 .refine hp'.2.2.2.2.2.mapPages _ ?_ ?_ ?_ ?_
  .intro p hp;unfold begQ;split
   .rename_i hc;exact⟨by simp only;omega,hp.n,hp.k,λq=>by simp only at q;omega,hp.k1,λq=>by simp only at q;omega⟩
   .exact hp
  .intro p hp hk;unfold begQ at hk ⊢;split at hk
   .rename_i hc;simp only at hk;omega
   .rename_i hc;rw[if_neg hc];exact⟨hk,rfl⟩
  .intro p hp hk;unfold begQ at hk;split at hk
   .rename_i hc;simp only at hk;omega
   .exact hk
  .intro p q hp hq h2 h3 he;have e1:begQ (1-h.S) p=p:=by rw[begQ,if_neg oq]
   have e2:begQ (1-h.S) q=q:=by rw[begQ,if_neg oq]
   rw[e1,e2];exact⟨⟨λ_=>h3,λ_=>h2⟩,λ_=>he⟩
 .intro p hp;simp only[beginW,LB]at hp;obtain⟨q,hq,rfl⟩:=hp;unfold begQ;split
  .exact hb q hq
  .exact hb q hq
def ZmS{B:Int}(hB:0<=B){h:Heap}{s:List Int}(hw:WOk h.W)(hp:Z02 h=M)(hb:∀ p∈h.P,p.N<=B)(e:(rootsF (beginW h) s).2.2=0)(e2:(allF (rootsF (beginW h) s).1).2=0):Tab B (cW2 h s) :=
 Zqa (Tab B) (λw r hw hi h e=>h.fwd hB w r hw hi e) (λw q j hw hi h hq h0 h1 e=>(Tab.fwd hB w _ hw hi h e).withWords _) (λw n h=>⟨h.pt,h.tk,h.pin⟩) hw hp (Zk3 hp hb) e e2
structure MOk (w:WorldM) (n:Nat):Prop where
 W:WOk w.heap.W
 hv:Z06 w.heap.C=M
 pl:(w.heap.P.length:Int)=w.heap.C.pg
 L:(w.heap.W.length:Int)=w.heap.C.pw*w.heap.C.pg
 N:∀ j,j<w.heap.P.length->0<=(w.heap.P.getD j La).N/\(w.heap.P.getD j La).N<=n
 us:∀ j,j<w.heap.P.length->0<=(w.heap.P.getD j La).U/\(w.heap.P.getD j La).U<=256
 G:ULe w.G
 E:ULe w.E
 sl:w.G.length<=n
 wl:w.E.length<=n
def MOk.wm{w:WorldM}{n:Nat}(h:MOk w n)(hn:n<=1000000):WMok w:=⟨h.W,h.G,h.E,L8 h.sl oq,L8 h.wl oq⟩
def WorldM.dup(w:WorldM)(t:Tape):WorldM:=⟨w.heap,w.G++[w.pick t],w.E⟩
def WorldM.step(w:WorldM)(t:Tape):WorldM :=
 if t.next 12<=3 then w.put ((t.step 12).header w.heap.C)
 else if t.next 12<=6 then w.link (t.step 12)
 else if t.next 12<=7 then w.pin (t.step 12)
 else if t.next 12<=9 then w.drop (t.step 12)
 else if t.next 12<=10 then w.collect
 else w.dup (t.step 12)
def WorldM.stepT(w:WorldM)(t:Tape):Tape :=
 if t.next 12<=3 then(t.step 12).headerT w.heap.C
 else if t.next 12<=6 then w.linkT (t.step 12)
 else if t.next 12<=7 then w.pinT (t.step 12)
 else if t.next 12<=9 then w.dropT (t.step 12)
 else if t.next 12<=10 then t.step 12
 else w.pickT (t.step 12)
def Za8(t:Tape)(c:Conf):0<=(t.header c).map/\(t.header c).map<=4294967295:=by
 have h:∀ n:Int,0<=((Z3g t c).step 4).next (2^(min (min n 32) 12).toNat)/\((Z3g t c).step 4).next (2^(min (min n 32) 12).toNat)<=4294967295:=by
  intro n;have p:=ZnG (n:=min (min n 32) 12) oq;have r:=Z11 ((Z3g t c).step 4) (n:=2^(min (min n 32) 12).toNat) p.1;omega
 unfold Tape.header;split
 .simp
 .split
  .simp
  .exact h _
def Z0V(t:Tape)(d:Int)(hd:t.next 12=d)(ht:TOk t):LP 22 [.pt 0 0 0,int 12] [t.b] (int d) [(t.step 12).b]:=by
 rw[<- hd];exact Z0g t 12 ht dd dd
section
variable (w:WorldM) (t:Tape) (n:Nat) (hm:MOk w n) (hn:n<=1000000) (ht:TOk t) (ha:t.at'<=900000)
include hm hn ht ha
theorem Zk5:LP 54 [w.av,.pt 0 0 0] [t.b] (w.step t).av [(w.stepT t).b]:=by
 have hw:=hm.wm hn;have h1:=hm.W;have h2:=hm.G;have h3:=hm.E;have h4:=hm.sl;have h5:=hm.wl;have s1:=Z2V (t:=t) 12;have k1:=Z3O ht s1.2.2 oq oq;have n1:=Z11 t (n:=12) dd;have hmap:=Za8 (t.step 12) w.heap.C;have hv:=hm.hv;have hpl:=hm.pl;have hpn:∀ j,j<w.heap.P.length->-1048576<=(w.heap.P.getD j La).N/\(w.heap.P.getD j La).N<=4294967296:=λj hj=>by
  have:=hm.N j hj;omega
 have hd:t.next 12=0\/t.next 12=1\/t.next 12=2\/t.next 12=3\/t.next 12=4\/t.next 12=5\/t.next 12=6\/t.next 12=7\/t.next 12=8\/t.next 12=9\/t.next 12=10\/t.next 12=11:=by omega
 rcases hd with hd | hd | hd | hd | hd | hd | hd | hd | hd | hd | hd | hd
 .have e7:w.step t=w.put ((t.step 12).header w.heap.C):=by simp[WorldM.step,hd]
  have e8:w.stepT t=(t.step 12).headerT w.heap.C:=by simp[WorldM.stepT,hd]
  rw[e7,e8];exact lF func54 [] (Fp 6 (@Z0V t (0) aa aa) (Fp 17 (@Z5n (t.step 12) w.heap.C aa oq aa) (Fc 18 (@Z7B w ((t.step 12).header w.heap.C) aa aa) Fz)))
 .have e7:w.step t=w.put ((t.step 12).header w.heap.C):=by simp[WorldM.step,hd]
  have e8:w.stepT t=(t.step 12).headerT w.heap.C:=by simp[WorldM.stepT,hd]
  rw[e7,e8];exact lF func54 [] (Fp 6 (@Z0V t (1) aa aa) (Fp 17 (@Z5n (t.step 12) w.heap.C aa oq aa) (Fc 18 (@Z7B w ((t.step 12).header w.heap.C) aa aa) Fz)))
 .have e7:w.step t=w.put ((t.step 12).header w.heap.C):=by simp[WorldM.step,hd]
  have e8:w.stepT t=(t.step 12).headerT w.heap.C:=by simp[WorldM.stepT,hd]
  rw[e7,e8];exact lF func54 [] (Fp 6 (@Z0V t (2) aa aa) (Fp 17 (@Z5n (t.step 12) w.heap.C aa oq aa) (Fc 18 (@Z7B w ((t.step 12).header w.heap.C) aa aa) Fz)))
 .have e7:w.step t=w.put ((t.step 12).header w.heap.C):=by simp[WorldM.step,hd]
  have e8:w.stepT t=(t.step 12).headerT w.heap.C:=by simp[WorldM.stepT,hd]
  rw[e7,e8];exact lF func54 [] (Fp 6 (@Z0V t (3) aa aa) (Fp 17 (@Z5n (t.step 12) w.heap.C aa oq aa) (Fc 18 (@Z7B w ((t.step 12).header w.heap.C) aa aa) Fz)))
 .have e7:w.step t=w.link (t.step 12):=by simp[WorldM.step,hd]
  have e8:w.stepT t=w.linkT (t.step 12):=by simp[WorldM.stepT,hd]
  rw[e7,e8];exact lF func54 [] (Fp 6 (@Z0V t (4) aa aa) (Fp 25 (@Z8k w (t.step 12) aa aa oq) Fz))
 .have e7:w.step t=w.link (t.step 12):=by simp[WorldM.step,hd]
  have e8:w.stepT t=w.linkT (t.step 12):=by simp[WorldM.stepT,hd]
  rw[e7,e8];exact lF func54 [] (Fp 6 (@Z0V t (5) aa aa) (Fp 25 (@Z8k w (t.step 12) aa aa oq) Fz))
 .have e7:w.step t=w.link (t.step 12):=by simp[WorldM.step,hd]
  have e8:w.stepT t=w.linkT (t.step 12):=by simp[WorldM.stepT,hd]
  rw[e7,e8];exact lF func54 [] (Fp 6 (@Z0V t (6) aa aa) (Fp 25 (@Z8k w (t.step 12) aa aa oq) Fz))
 .have e7:w.step t=w.pin (t.step 12):=by simp[WorldM.step,hd]
  have e8:w.stepT t=w.pinT (t.step 12):=by simp[WorldM.stepT,hd]
  rw[e7,e8];exact lF func54 [] (Fp 6 (@Z0V t (7) aa aa) (Fp 30 (@Zm3 w (t.step 12) aa aa oq aa oq aa) Fz))
 .have e7:w.step t=w.drop (t.step 12):=by simp[WorldM.step,hd]
  have e8:w.stepT t=w.dropT (t.step 12):=by simp[WorldM.stepT,hd]
  rw[e7,e8];exact lF func54 [] (Fp 6 (@Z0V t (8) aa aa) (Fp 36 (@ZdF w (t.step 12) aa aa oq) Fz))
 .have e7:w.step t=w.drop (t.step 12):=by simp[WorldM.step,hd]
  have e8:w.stepT t=w.dropT (t.step 12):=by simp[WorldM.stepT,hd]
  rw[e7,e8];exact lF func54 [] (Fp 6 (@Z0V t (9) aa aa) (Fp 36 (@ZdF w (t.step 12) aa aa oq) Fz))
 .have e7:w.step t=w.collect:=by simp[WorldM.step,hd]
  have e8:w.stepT t=t.step 12:=by simp[WorldM.stepT,hd]
  rw[e7,e8];exact lF func54 [] (Fp 6 (@Z0V t (10) aa aa) (Fc 40 (@Zcb w aa oq oq aa aa) Fz))
 .have e7:w.step t=w.dup (t.step 12):=by simp[WorldM.step,hd]
  have e8:w.stepT t=w.pickT (t.step 12):=by simp[WorldM.stepT,hd]
  rw[e7,e8];exact lF func54 [] (Fh 49 [.els (Ld wdv (w.G++[w.pick (t.step 12)]))] (Fp 6 (@Z0V t (11) aa aa) (FAx 41 44 wdv w.G (by(simp[WorldM.dup, *];omega)) (Fp 47 (@Z1Z w (t.step 12) aa aa oq) (Fs 48 (Ld wdv [w.pick (t.step 12)]) (Fa (by(simp[WorldM.dup, *];omega):(Ld wdv w.G).length+(Ld wdv [w.pick (t.step 12)]).length<=2^30) (Fa (by simp[WorldM.dup,List.map_take,List.map_drop,List.map_set,List.map_append,wdv,idv]:Ld wdv w.G++Ld wdv [w.pick (t.step 12)]=Ld wdv (w.G++[w.pick (t.step 12)])) Fz)))))))
end
def Za9{pw s:Int}{l:List Page}{ws:List Int}(h:WOk ws):∀ i,WOk (Z2N pw s l ws i)
 | 0=>h
 | i+1=>by
  have ih:=Za9 (pw:=pw) (s:=s) (l:=l) h i;unfold Z2N;split
  .intro x hx;simp only[spl,Lr,L6]at hx;rcases hx with(hx | hx) | hx
   .exact ih x (L5 hx)
   .omega
   .exact ih x (L4 hx)
  .exact ih
def Zn9{c:Conf}{l:List Page}(h:PT c l)(s:Int):PT c (l.map (Z2E s)):=by
 refine h.mapPages _ ?_ ?_ ?_ ?_
 .intro p hp;unfold Z2E;split
  .exact⟨by simp,by simp,by simp,by simp,by simp,by simp⟩
  .exact hp
 .intro p hp hk;unfold Z2E at hk ⊢;split at hk
  .simp at hk
  .rename_i hc;rw[if_neg hc];exact⟨hk,rfl⟩
 .intro p hp hk;unfold Z2E at hk;split at hk
  .simp at hk
  .exact hk
 .intro p q hp hq h2 h3 he;by_cases hg:p.S=s
  .have e1:Z2E s p=⟨0,0,0,0⟩:=by rw[Z2E,if_pos ⟨by omega,hg⟩]
   have e2:Z2E s q=⟨0,0,0,0⟩:=by rw[Z2E,if_pos ⟨by omega,by omega⟩]
   rw[e1,e2];simp
  .have e1:Z2E s p=p:=by rw[Z2E,if_neg (by unfold Z6Q;omega)]
   have e2:Z2E s q=q:=by rw[Z2E,if_neg (by unfold Z6Q;omega)]
   rw[e1,e2];exact⟨⟨λ_=>h3,λ_=>h2⟩,λ_=>he⟩
def Z8q{w:Work}(hw:WkOk w)(k:List Int):∀ i,∀ x∈Z5V w k i,0<=x/\x<=4294967296
 | 0,x,hx=>by simp[Z5V]at hx
 | i+1,x,hx=>by
  simp only[Z5V,Lr,LC]at hx;rcases hx with hx | rfl
  .exact Z8q hw k i x hx
  .have h:=Z7O w k i;unfold Z85;split
   .omega
   .unfold Z1A;rw[h.2.2.2.1,h.1];split
    .rename_i hq;have:=hw.q _ hq;omega
    .have:=Z5Z (Z0H hw.W (k.getD i La)).1;omega
structure ColOk (B:Int) (h:Heap) (s k:List Int):Prop where
 p0:Z02 h=M
 p1:Z02 (Z0m h s k).1=M
 w:WOk (Z0m h s k).1.W
 n:∀ p∈(Z0m h s k).1.P,p.N<=B
 c:(Z0m h s k).1.C=h.C
 r:∀ x∈(Z0m h s k).2.1,0<=x/\x<=4294967296
 rl:(Z0m h s k).2.1.length=s.length
 v:∀ x∈(Z0m h s k).2.2.1,0<=x/\x<=4294967296
 vl:(Z0m h s k).2.2.1.length=k.length
def ZgY{B:Int}(hB:0<=B){h:Heap}{s k:List Int}(hw:WOk h.W)(hb:∀ p∈h.P,p.N<=B)(e:(Z0m h s k).2.2.2.2=0):ColOk B h s k:=by
 by_cases hp:Z02 h=M
 .by_cases hr:Z0f h s=M/\Z0f h k=M
  .by_cases e1:(rootsF (beginW h) s).2.2=0
   .by_cases e2:(allF (rootsF (beginW h) s).1).2=0
    .have e7:Z0m h s k=(endH (cW5 h s k),(rootsF (beginW h) s).2.1,Z5V (cW2 h s) k k.length,(cW5 h s k).rep,0):=by rw[Z0m,if_pos hp,if_pos hr,if_pos e1,if_pos e2]
     have ho:=Z4U (roots:=s) (Z5t hw hp) (Z4M hp) e1;have c:=cOk h s k hw hp e1 e2;have c5:=cOk5 h s k hw hp e1 e2;have tb:=ZmS hB hw hp hb e1 e2;obtain⟨g1,g2,g3,g4,g5⟩:=c.h4;have hsp:=c.w2.sp;have hc2:(cW2 h s).heap.C=h.C:=c.x2.c;have hpl:=c.w2.pl;rw[hc2]at hpl;have hL:=c.i4.L;rw[g1]at hL;have hfl:=Z5i (s:=(cW4 h s k).heap.S) c5.2.2.2.1 (cW4 h s k).heap.P.length (Lp _);refine⟨hp, ?_, ?_, ?_, ?_, ?_, ?_, ?_, ?_⟩
     .rw[e7,Z2b];simp only[endH,cW5,Z1x,g1,g2,g3,g4];have hptf:=Zn9 (s:=(cW2 h s).heap.S) tb.pt;rw[hc2]at hptf;refine⟨(Z0a hp).1, ?_,by simp only[Ly];exact hpl,by omega, ?_,hptf⟩
      .rw[g1,g2,g3]at hfl;rw[hfl];exact hL
      .split
       .rename_i ht;have hm:=Z2d (w:=cW2 h s) ht;have t1:=c.w2.tk _ hm;have t2:=tb.tk _ hm;refine Li ⟨t1.1,by simp only[Ly];exact t1.2.1, ?_⟩;have hx:(Ld (Z2E (cW2 h s).heap.S) (cW2 h s).heap.P).getD (Z1g (cW2 h s)).toNat La=(cW2 h s).heap.P.getD (Z1g (cW2 h s)).toNat La:=by
         have hi:(Z1g (cW2 h s)).toNat<(cW2 h s).heap.P.length:=by omega
         have:(Ld (Z2E (cW2 h s).heap.S) (cW2 h s).heap.P).getD (Z1g (cW2 h s)).toNat La=Z2E (cW2 h s).heap.S ((cW2 h s).heap.P.getD (Z1g (cW2 h s)).toNat La):=by simp[Lk,hi]
         rw[this,Z2E,if_neg (by unfold Z6Q;omega)]
        show((Ld (Z2E (cW2 h s).heap.S) (cW2 h s).heap.P).getD (Z1g (cW2 h s)).toNat La).K=1;rw[hx];exact t1.2.2
       .exact Lq rfl
     .rw[e7];exact Za9 c.f4.W _
     .rw[e7];intro p hp';simp only[endH,cW5,Z1x,g2,LB]at hp';obtain⟨q,hq,rfl⟩:=hp';unfold Z2E;split
      .exact hB
      .exact tb.pin q hq
     .rw[e7];exact g1
     .rw[e7];exact ho.2.2.2.1
     .rw[e7];exact ho.2.2.2.2
     .rw[e7];exact Z8q c.w2 k _
     .rw[e7];exact Z8m _ _ _
    .rw[Z0m,if_pos hp,if_pos hr,if_pos e1,if_neg e2]at e;exact absurd e e2
   .rw[Z0m,if_pos hp,if_pos hr,if_neg e1]at e;exact absurd e e1
  .rw[Z0m,if_pos hp,if_neg hr]at e;simp at e
 .rw[Z0m,if_neg hp]at e;simp at e
def Zez{h:Heap}(hp:Z02 h=M):∀ p∈h.P,0<=p.N:=by
 rw[Z2b]at hp;intro p hp';obtain⟨i,hi,e⟩:=L3.1 hp';have:=(hp.2.2.2.2.2.b i hi).n.1;rwa [show h.P.getD i La=p by rw[Lk,LI hi,e];rfl]at this
def MOk.of_proper{w:WorldM}{n:Nat}(hp:Z02 w.heap=M)(hw:WOk w.heap.W)(hn:∀ p∈w.heap.P,p.N<=n)(h1:ULe w.G)(h2:ULe w.E)(h3:w.G.length<=n)(h4:w.E.length<=n):MOk w n:=by
 have po:=Z0a hp;exact⟨hw,po.1,po.2.2.2.2.2.2.2.1,po.2.2.2.2.2.1,λj hj=>⟨Zez hp _ (getD_in hj),hn _ (getD_in hj)⟩,λj hj=>by have:=Z0L hp hj;omega,h1,h2,h3,h4⟩
def MOk.pin_mem{w:WorldM}{n:Nat}(h:MOk w n):∀ p∈w.heap.P,0<=p.N/\p.N<=n:=by
 intro p hp;obtain⟨i,hi,e⟩:=L3.1 hp;have:=h.N i hi;rwa [show w.heap.P.getD i La=p by rw[Lk,LI hi,e];rfl]at this
def MOk.mono{w:WorldM}{n:Nat}(h:MOk w n):MOk w (n+1) :=
 ⟨h.W,h.hv,h.pl,h.L,λj hj=>by have:=h.N j hj;omega,h.us,h.G,h.E,by have:=h.sl;omega,by have:=h.wl;omega⟩
def ZdQ{l:List Int}(h:ULe l){x:Int}(hx:0<=x/\x<=18446744073709551615):ULe (l++[x]):=by
 intro y hy;simp only[Lr,LC]at hy;rcases hy with hy | rfl
 .exact h y hy
 .exact hx
def MOk.put{w:WorldM}{n:Nat}(h:MOk w n){hd:Header}(hm:0<=hd.map/\hd.map<=4294967295):MOk (w.put hd) (n+1):=by
 unfold WorldM.put;split
 .rename_i e;obtain⟨k1,k2,k3,k4,k5,k6,k7,k8⟩:=Zn1 h.W hm e;have po:=Z0a k1;have hl:=h.sl;have hl2:=h.wl;have z:=(Z7Q k2).2.1;have a1:=k3.lo;have a2:=k3.hi;refine MOk.of_proper k7 k8 ?_ (ZdQ h.G (by rw[k5];omega)) h.E qo (by simp only;omega);intro p hp;simp only at hp;rw[k6]at hp;simp only at hp;rcases k3.pin p hp with q | ⟨q,q1,q2⟩
  .omega
  .have:=h.pin_mem q q1;omega
 .exact h.mono
def MOk.link{w:WorldM}{n:Nat}(h:MOk w n)(hn:n<=1000000)(t:Tape):MOk (w.link t) (n+1):=by
 unfold WorldM.link;split
 .rename_i hc;have g:=Z3A hc.1;have hw:=h.wm hn;have hlen:1<=(getH w.heap (w.pick t)).1.length:=by omega
  have n1:=Z11 (w.pickT (w.pickT t)) (n:=8) dd;have hi:0<=Z7z w t/\Z7z w t<(getH w.heap (w.pick t)).1.length:=by
   unfold Z7z;rw[Int.tmod_eq_emod_of_nonneg n1.1];exact⟨LS _ oq,LR _ oq⟩
  have hv:0<=Z9M w t/\Z9M w t<=18446744073709551615:=by
   unfold Z9M;split
   .exact Z4c hw _
   .have:=Z11 ((w.pickT (w.pickT t)).step 8) (n:=1048576) dd;omega
  obtain⟨s1,s2,s3⟩:=Ze8 h.W hv hc.1 hi;have hl:=h.sl;have hl2:=h.wl;refine MOk.of_proper s2 s3 ?_ h.G h.E (by simp only;omega) (by simp only;omega);intro p hp;simp only at hp;rw[s1]at hp;have:=h.pin_mem p hp;omega
 .exact h.mono
def ZiJ{w:WorldM}{n:Nat}(h:MOk w n){i:Nat}(hi:i<w.heap.P.length){d:Int}(hd:d=1\/(d=-1/\0<(w.heap.P.getD i La).N)):MOk (pinB w i d) (n+1):=by
 have hp:=h.N i hi;refine⟨h.W,h.hv, ?_,h.L, ?_, ?_,h.G,h.E,by have:=h.sl;simp only[pinB];omega,by have:=h.wl;simp only[pinB];omega⟩
 .simp only[pinB,LL];exact h.pl
 .intro j hj;simp only[pinB,LL]at hj ⊢;rw[Z1C hi];split
  .simp only;omega
  .have:=h.N j hj;omega
 .intro j hj;simp only[pinB,LL]at hj ⊢;rw[Z1C hi];split
  .exact h.us i hi
  .exact h.us j hj
def MOk.pin{w:WorldM}{n:Nat}(h:MOk w n)(t:Tape):MOk (w.pin t) (n+1):=by
 unfold WorldM.pin;split
 .rename_i e;have o:=Z5e h.hv e;have hpl:=h.pl;have hi:pinI w t<w.heap.P.length:=by unfold pinI;omega
  split
  .rename_i hc;exact ZiJ h hi (Li ⟨rfl,hc.1⟩)
  .split
   .exact ZiJ h hi (Lq rfl)
   .exact h.mono
 .exact h.mono
def MOk.drop{w:WorldM}{n:Nat}(h:MOk w n)(t:Tape):MOk (w.drop t) (n+1):=by
 unfold WorldM.drop;split
 .have hl:=h.sl;have hl2:=h.wl;refine⟨h.W,h.hv,h.pl,h.L,λj hj=>by have:=h.N j hj;simp only;omega,h.us, ?_, ?_, ?_, ?_⟩
  .intro x hx;rcases Lr.1 hx with hx | hx
   .exact h.G x (L5 hx)
   .exact h.G x (L4 hx)
  .simp only;split
   .exact ZdQ h.E (Z4f h.G _)
   .exact h.E
  .simp only[L0,L2,L1];omega
  .simp only;split
   .simp;omega
   .omega
 .exact h.mono
def MOk.collect{w:WorldM}{n:Nat}(h:MOk w n):MOk w.collect (n+1):=by
 unfold WorldM.collect;split
 .rename_i e;have c:=ZgY (B:=n) oq h.W (λp hp=>(h.pin_mem p hp).2) e;have hl:=h.sl;have hl2:=h.wl;refine MOk.of_proper c.p1 c.w (λp hp=>by have:=c.n p hp;omega) (λx hx=>by have:=c.r x hx;omega) (λx hx=>by have:=c.v x hx;omega) (by simp only[c.rl];omega) (by simp only[c.vl];omega)
 .exact h.mono
def MOk.step{w:WorldM}{n:Nat}(h:MOk w n)(hn:n<=1000000)(t:Tape):MOk (w.step t) (n+1):=by
 unfold WorldM.step;repeat' split
 .exact h.put (Za8 _ _)
 .exact h.link hn _
 .exact h.pin _
 .exact h.drop _
 .exact h.collect
 .have hl:=h.sl;have hl2:=h.wl;exact⟨h.W,h.hv,h.pl,h.L,λj hj=>by have:=h.N j hj;simp only[WorldM.dup]at *;omega,h.us,ZdQ h.G (Z4c (h.wm hn) _),h.E,by simp only[WorldM.dup,L0,List.length_singleton];omega,by simp only[WorldM.dup];omega⟩
def Zck(h:Heap):GP 34 [h.av] M (bool (Lc (h.W.length<=5000/\h.P.length<=100))) []:=by
 exact gF [] func34 (fO 4) (Fl 5 wdv h.W (FlG 10 (Lc ((h.W.length:Int)<=5000)) Page.dv h.P (Fa (by grind[]:(Lc ((h.W.length:Int)<=5000)&&Lc ((h.P.length:Int)<=100))=Lc (h.W.length<=5000/\h.P.length<=100)) Fz)))
def Z7o(w:WorldM)(t:Tape)(n:Nat)(hm:MOk w n)(hn:n<=1000000)(ht:TOk t)(ha:t.at'<=900000):LP 54 [w.av,.pt 0 0 0] [t.b] (w.step t).av [(w.stepT t).b] :=
 Zk5 w t n hm hn ht ha
structure TUp (n:Int) (t u:Tape):Prop where
 l:u.l=t.l
 lo:t.at'<=u.at'
 hi:u.at'<=t.at'+n
def TUp.step(t:Tape)(n:Int):TUp 1 t (t.step n):=by
 have:=Z2V (t:=t) n;exact⟨this.2.2,this.1,this.2.1⟩
def TUp.trans{m n:Int}{t u v:Tape}(h1:TUp m t u)(h2:TUp n u v):TUp (m+n) t v :=
 ⟨h2.l.trans h1.l,by have:=h1.lo;have:=h2.lo;omega,by have:=h1.hi;have:=h2.hi;omega⟩
def TUp.mono{m n:Int}{t u:Tape}(h:TUp m t u)(hmn:m<=n):TUp n t u:=⟨h.l,h.lo,by have:=h.hi;omega⟩
def Zh5(t:Tape)(c:Conf):TUp 10 t (t.headerT c):=by
 have h1:TUp 4 t (Z3g t c):=by
  unfold Z3g;split
  .exact(((TUp.step t _).trans (TUp.step _ 12)).trans (TUp.step _ _)).mono dd
  .exact((TUp.step t _).trans (TUp.step _ 12)).mono dd
 unfold Tape.headerT;repeat' split
 .exact(h1.trans (TUp.step _ 4)).mono dd
 .exact(h1.trans (TUp.step _ 4)).mono dd
 .exact((h1.trans (TUp.step _ 4)).trans (TUp.step _ _)).mono dd
def Zl9(w:WorldM)(t:Tape):TUp 10 t (w.linkT t):=by
 have h1:TUp 1 t (w.pickT t):=TUp.step _ _;have h2:TUp 1 (w.pickT t) (w.pickT (w.pickT t)):=TUp.step _ _;unfold WorldM.linkT;split
 .exact((((h1.trans h2).trans (TUp.step _ 8))).trans (TUp.step _ _)).mono dd
 .exact((h1.trans h2).trans (TUp.step _ 8)).mono dd
def ZkG(w:WorldM)(t:Tape):(w.stepT t).l=t.l/\t.at'+1<=(w.stepT t).at'/\(w.stepT t).at'<=t.at'+20:=by
 have h0:(t.step 12).at'=t.at'+1/\(t.step 12).l=t.l:=by simp[Tape.step]
 have key:TUp 10 (t.step 12) (w.stepT t):=by
  unfold WorldM.stepT;repeat' split
  .exact Zh5 _ _
  .exact Zl9 _ _
  .unfold WorldM.pinT;split
   .exact((TUp.step _ _).trans (TUp.step _ 2)).mono dd
   .exact(TUp.step _ _).mono dd
  .unfold WorldM.dropT;split
   .exact((TUp.step _ _).trans (TUp.step _ 3)).mono dd
   .exact⟨rfl,by omega,by omega⟩
  .exact⟨rfl,by omega,by omega⟩
  .exact(TUp.step _ _).mono dd
 have a:=key.l;have b:=key.lo;have c:=key.hi;exact⟨a.trans h0.2,by omega,by omega⟩
def mkS(w:WorldM)(t:Tape):Nat->WorldM×Tape
 | 0=>(w,t)
 | k+1=>((mkS w t k).1.step (mkS w t k).2,(mkS w t k).1.stepT (mkS w t k).2)
def mkB(w:WorldM)(t:Tape)(k:Nat):Bool:=Lc (((mkS w t k).2.l.length:Int)<=(mkS w t k).2.at')
def mkN(w:WorldM)(t:Tape):Nat:=((Lj (2+t.l.length)).find? (mkB w t)).getD 0
def ZeP(w:WorldM)(t:Tape):WorldM:=(mkS w t (mkN w t)).1
def Zfd(w:WorldM)(t:Tape):∀ k:Nat,(mkS w t k).2.l=t.l/\t.at'+k<=(mkS w t k).2.at'/\(mkS w t k).2.at'<=t.at'+20*k
 | 0=>by simp[mkS]
 | k+1=>by
  have ih:=Zfd w t k;have:=ZkG (mkS w t k).1 (mkS w t k).2;refine⟨this.1.trans ih.1, ?_, ?_⟩
  .simp only[mkS];omega
  .simp only[mkS];omega
def Zfb{w:WorldM}{n:Nat}(h:MOk w n)(t:Tape):∀ k,n+k<=1000000->MOk (mkS w t k).1 (n+k)
 | 0,_=>h
 | k+1,hk=>(Zfb h t k oq).step oq _
def ZhD(w:WorldM)(t:Tape)(ht:0<=t.at'):mkB w t (mkN w t)=M/\(∀ j,j<mkN w t->mkB w t j=Lb)/\mkN w t<=t.l.length+1:=by
 cases hb:(Lj (2+t.l.length)).find? (mkB w t)with
 | none =>
  exfalso;have:=Lh.1 hb t.l.length (Lg.2 oq);have u:=Zfd w t t.l.length;simp only[mkB,decide_eq_true_eq,u.1]at this;omega
 | some k =>
  obtain⟨h1,h2,h3⟩:=Lv.1 hb;have h2:=Lg.1 h2;have e:mkN w t=k:=by rw[mkN,hb];rfl
  rw[e];exact⟨h1,λj hj=>by simpa using h3 j hj,by omega⟩
def mkLA(w:WorldM)(t:Tape):Tg:=⟨tm 22 [(2,.pt 8002 0 0),(3,.pt 32012 0 0),(4,.pt 40004 0 0)],[(40004,.box 30 w.cells),(32012,t.b),(8002,.box 30 [int 0,int 0,.d (.sl 0 []),.d (.sl 0 []),int 0,int 0,.d (.sl 0 []),.d (.sl 0 [])])],60⟩
def ZlJ(w:WorldM)(t:Tape)(n:Nat)(hm:MOk w n)(hn:n<=1000000)(ht:TOk t)(ha:t.at'<=900000)(hd:t.at'<t.l.length):CP (rndF f15 0) (mkLA w t).st .nrm (mkLA (w.step t) (w.stepT t)).st:=by
 exact sF [] [] (Fbq 16 [32012] (@Z80 t aa) (Ftb 17 (!decide ((t.l.length:Int)<=t.at')) (Fbr 20 [32012] (@Z7o w t n aa aa aa aa) Fz)))
def Zpn(w:WorldM)(t:Tape)(ht:TOk t)(hd:¬ t.at'<t.l.length):CP (rndF f15 0) (mkLA w t).st (.ext 0) (Tg.st ⟨tm 22 [(2,.pt 8002 0 0),(4,.pt 40004 0 0)],[(40004,.box 30 w.cells),(8002,.box 30 [int 0,int 0,.d (.sl 0 []),.d (.sl 0 []),int 0,int 0,.d (.sl 0 []),.d (.sl 0 [])])],60⟩):=by
 exact sF [] [] (Fbq 16 [32012] (@Z80 t aa) (Ffb 17 (!decide ((t.l.length:Int)<=t.at')) Fz))
def ZmL(w:WorldM)(t:Tape)(hm:MOk w 0)(hl:t.l.length<=300)(h0:0<=t.at')(h1:t.at'<=1000):CP (blkF f15 0) (Tg.st ⟨tm 22 [(2,.pt 8002 0 0),(3,.pt 32012 0 0),(4,.pt 40004 0 0)],[(40004,.box 30 w.cells),(32012,t.b),(8002,.box 30 [int 0,int 0,.d (.sl 0 []),.d (.sl 0 []),int 0,int 0,.d (.sl 0 []),.d (.sl 0 [])])],60⟩) .nrm (Tg.st ⟨tm 22 [(2,.pt 8002 0 0),(4,.pt 40004 0 0)],[(40004,.box 30 (ZeP w t).cells),(8002,.box 30 [int 0,int 0,.d (.sl 0 []),.d (.sl 0 []),int 0,int 0,.d (.sl 0 []),.d (.sl 0 [])])],60⟩):=by
 have hk:=ZhD w t h0;have tok:∀ k,k<=mkN w t->TOk (mkS w t k).2/\(mkS w t k).2.at'<=900000:=λk hk'=>by
  have u:=Zfd w t k;refine⟨?_,by omega⟩;unfold TOk;rw[u.1];omega
 refine Z08 (S:=λk=>(mkLA (mkS w t k).1 (mkS w t k).2).st) (mkN w t) kr (λk hk'=>?_) ?_
 .have hs:=hk.2.1 k hk';simp only[mkB,decide_eq_false_iff_not]at hs;have m:=Zfb hm t k oq;exact ZlJ _ _ (0+k) m oq (tok k oq).1 (tok k oq).2 oq
 .have hs:=hk.1;simp only[mkB,decide_eq_true_eq]at hs;exact Zpn _ _ (tok _ (Lp _)).1 oq
def mkLB(w:WorldM)(t:Tape):Tg:=⟨tm 22 [(2,.pt 8002 0 0),(3,.pt 24012 0 0),(4,.pt 32004 0 0)],[(32004,.box 30 w.cells),(24012,t.b),(8002,.box 30 [int 0,int 0,.d (.sl 0 []),.d (.sl 0 []),int 0,int 0,.d (.sl 0 []),.d (.sl 0 [])])],60⟩
def Zm8(w:WorldM)(t:Tape)(n:Nat)(hm:MOk w n)(hn:n<=1000000)(ht:TOk t)(ha:t.at'<=900000)(hd:t.at'<t.l.length):CP (rndF f15 0) (mkLB w t).st .nrm (mkLB (w.step t) (w.stepT t)).st:=by
 exact sF [] [] (Fbq 16 [24012] (@Z80 t aa) (Ftb 17 (!decide ((t.l.length:Int)<=t.at')) (Fbr 20 [24012] (@Z7o w t n aa aa aa aa) Fz)))
def ZoZ(w:WorldM)(t:Tape)(ht:TOk t)(hd:¬ t.at'<t.l.length):CP (rndF f15 0) (mkLB w t).st (.ext 0) (Tg.st ⟨tm 22 [(2,.pt 8002 0 0),(4,.pt 32004 0 0)],[(32004,.box 30 w.cells),(8002,.box 30 [int 0,int 0,.d (.sl 0 []),.d (.sl 0 []),int 0,int 0,.d (.sl 0 []),.d (.sl 0 [])])],60⟩):=by
 exact sF [] [] (Fbq 16 [24012] (@Z80 t aa) (Ffb 17 (!decide ((t.l.length:Int)<=t.at')) Fz))
def Znf(w:WorldM)(t:Tape)(hm:MOk w 0)(hl:t.l.length<=300)(h0:0<=t.at')(h1:t.at'<=1000):CP (blkF f15 0) (Tg.st ⟨tm 22 [(2,.pt 8002 0 0),(3,.pt 24012 0 0),(4,.pt 32004 0 0)],[(32004,.box 30 w.cells),(24012,t.b),(8002,.box 30 [int 0,int 0,.d (.sl 0 []),.d (.sl 0 []),int 0,int 0,.d (.sl 0 []),.d (.sl 0 [])])],60⟩) .nrm (Tg.st ⟨tm 22 [(2,.pt 8002 0 0),(4,.pt 32004 0 0)],[(32004,.box 30 (ZeP w t).cells),(8002,.box 30 [int 0,int 0,.d (.sl 0 []),.d (.sl 0 []),int 0,int 0,.d (.sl 0 []),.d (.sl 0 [])])],60⟩):=by
 have hk:=ZhD w t h0;have tok:∀ k,k<=mkN w t->TOk (mkS w t k).2/\(mkS w t k).2.at'<=900000:=λk hk'=>by
  have u:=Zfd w t k;refine⟨?_,by omega⟩;unfold TOk;rw[u.1];omega
 refine Z08 (S:=λk=>(mkLB (mkS w t k).1 (mkS w t k).2).st) (mkN w t) kr (λk hk'=>?_) ?_
 .have hs:=hk.2.1 k hk';simp only[mkB,decide_eq_false_iff_not]at hs;have m:=Zfb hm t k oq;exact Zm8 _ _ (0+k) m oq (tok k oq).1 (tok k oq).2 oq
 .have hs:=hk.1;simp only[mkB,decide_eq_true_eq]at hs;exact ZoZ _ _ (tok _ (Lp _)).1 oq
def Z4S(l:List Int):Tape:=⟨l.take 300,0⟩
def Z0A(l:List Int):WorldM:=ZeP (Z4S l).empty (((Z4S l).step 4).step 5)
def Zfq(t:Tape):MOk t.empty 0:=by
 have hv:=Z57 t;have hb:=validB_iff.1 hv;refine⟨?_,hv, ?_, ?_, ?_, ?_, ?_, ?_,by simp[Tape.empty],by simp[Tape.empty]⟩
 .intro x hx;simp only[Tape.empty,Z4m,L6]at hx;omega
 .simp only[Tape.empty,Z4m,Lz];omega
 .have:=area hv;simp only[Tape.empty,Z4m,Lz];omega
 .intro j hj;simp only[Tape.empty,Z4m,Lz]at hj ⊢;have:(L7 t.C.pg.toNat (⟨0,0,0,0⟩:Page)).getD j La=⟨0,0,0,0⟩:=by simp[Lk,hj]
  rw[this];simp
 .intro j hj;simp only[Tape.empty,Z4m,Lz]at hj ⊢;have:(L7 t.C.pg.toNat (⟨0,0,0,0⟩:Page)).getD j La=⟨0,0,0,0⟩:=by simp[Lk,hj]
  rw[this];simp
 .intro x hx;simp[Tape.empty]at hx
 .intro x hx;simp[Tape.empty]at hx
def Z9R(l:List Int):(((Z4S l).step 4).step 5).l=l.take 300/\(((Z4S l).step 4).step 5).at'=2:=by simp[Z4S,Tape.step]
def Zf0(l:List Int):MOk (Z0A l) 1000:=by
 have e:=Z9R l;have hl:(((Z4S l).step 4).step 5).l.length<=300:=by rw[e.1];simp;omega
 have hk:=ZhD (Z4S l).empty (((Z4S l).step 4).step 5) oq;have m:=Zfb (Zfq (Z4S l)) (((Z4S l).step 4).step 5) (mkN (Z4S l).empty (((Z4S l).step 4).step 5)) oq;have h2:∀ (w:WorldM) (a b:Nat),MOk w a->a<=b->MOk w b:=λw a b h hab =>
  ⟨h.W,h.hv,h.pl,h.L,λj hj=>by have:=h.N j hj;omega,h.us,h.G,h.E,by have:=h.sl;omega,by have:=h.wl;omega⟩
 exact h2 _ _ _ m oq
def Zg0(l:List Int)(hl:l.length<=140737488355328):GP 15 [Z0K l] Lb (Z0A l).av []:=by
 have e:=Z9R l;have he:=Zfq (Z4S l);have h1:(((Z4S l).step 4).step 5).l.length<=300:=by rw[e.1];simp;omega
 have h2:=e.2;by_cases h:300<l.length
 .have ht:TOk ⟨Lo (Ln 300) l,0⟩:=by simp[TOk];omega
  have e9:Z4S l=⟨Lo (Ln 300) l,0⟩:=rfl;unfold Z0A;rw[e9]at he h1 h2 ⊢;exact gF [] func15 [] (Fh 9 [.els (Ld idv (Lo (Ln 300) l))] (Fl 6 idv l (Ftb 7 (Lc (300<(l.length:Int))) (Fa (by(simp only[Ly];omega):(0:Int)<=(300:Int)/\300<=(↑(Ld idv l).length:Int)) (Fa (ms:Lo (Ln 300) (Ld idv l)=Ld idv (Lo (Ln 300) l)) (Fbr 14 [32012] (@ZcO (Tape.mk (Lo (Ln 300) l) 0) aa (by(simp only[bs];omega))) (Fu (@ZmL ((Tape.mk (Lo (Ln 300) l) 0).empty) (((Tape.mk (Lo (Ln 300) l) 0).step 4).step 5) aa aa oq oq) Fz)))))))
 .have ht:TOk ⟨l,0⟩:=by simp[TOk];omega
  have e9:Z4S l=⟨l,0⟩:=by rw[Z4S,List.take_of_length_le oq]
  unfold Z0A;rw[e9]at he h1 h2 ⊢;exact gF [] func15 [] (Fl 6 idv l (Ffb 7 (Lc (300<(l.length:Int))) (Fbr 14 [24012] (@ZcO (Tape.mk l 0) aa (by(simp only[bs];omega))) (Fu (@Znf ((Tape.mk l 0).empty) (((Tape.mk l 0).step 4).step 5) aa aa oq oq) Fz))))
def RootOn(h:Heap)(r:Int):Prop:=(ofA h.C r).2.2=0->(h.P.getD (ofA h.C r).1.toNat La).K=1\/(h.P.getD (ofA h.C r).1.toNat La).K=2
def RootOn.mono{h h':Heap}{r:Int}(hr:RootOn h r)(hc:h'.C=h.C)(hk:∀ j:Nat,(h.P.getD j La).K≠0->(h'.P.getD j La).K=(h.P.getD j La).K):RootOn h' r:=by
 intro e;rw[hc]at e ⊢;have q:=hr e;rw[hk _ oq];exact q
def hdA(ws:List Int)(a:Int):Header:=(decodeH (loadA ws a).1).1
def okA(ws:List Int)(a:Int):Prop:=(decodeH (loadA ws a).1).2=M
def kdA(ws:List Int)(a:Int):Int:=(hdA ws a).K
def kpA(ws:List Int)(a:Int):Int:=if kdA ws a=0 then 1 else hlA ws a+1
def bsP(h:Heap)(i:Nat):Int:=4096+i*h.C.pw
def tile(ws:List Int):Int->Int->List Int->Prop
 | a,b,[]=>a=b
 | a,b,x::l=>x=a/\okA ws a/\tile ws (a+hlA ws a+1) b l
def Z39(ws:List Int)(a:Int):sizeH (hdA ws a)=hlA ws a+1:=by
 unfold hdA;rw[sizeH,if_pos (Z2h _)];rfl
def ZeS{ws:List Int}:∀ {l:List Int} {a b:Int},tile ws a b l->a<=b
 | [],a,b,h=>by simp only[tile]at h;omega
 | x::l,a,b,h=>by
  have:=ZeS h.2.2;have:=Z13 ws a;omega
def Zg5{ws:List Int}{x:Int}:∀ {l:List Int} {a b:Int},tile ws a b l->x∈l->okA ws x/\a<=x/\x+hlA ws x<b
 | [],_,_,_,hx=>by simp at hx
 | y::l,a,b,h,hx=>by
  have hr:=Z13 ws a;rcases List.mem_cons.1 hx with rfl | hx
  .have:=ZeS h.2.2;rw[h.1];exact⟨h.2.1,by omega,by omega⟩
  .have:=Zg5 h.2.2 hx;exact⟨this.1,by omega,this.2.2⟩
structure Gt (h:Heap) (T:Nat->List Int):Prop where
 p:Z02 h=M
 t1:∀ i,i<h.P.length->(h.P.getD i La).K=1->tile h.W (bsP h i) (bsP h i+(h.P.getD i La).U) (T i)
 t2:∀ i,i<h.P.length->(h.P.getD i La).K=2->T i=[bsP h i]/\okA h.W (bsP h i)/\hlA h.W (bsP h i)+1=(h.P.getD i La).U
 t0:∀ i x,x∈T i->i<h.P.length/\((h.P.getD i La).K=1\/(h.P.getD i La).K=2)
structure Gd (h:Heap) (T:Nat->List Int):Prop where
 p:Z02 h=M
 sp:∀ i,i<h.P.length->(h.P.getD i La).K≠0->(h.P.getD i La).S=h.S
 t1:∀ i,i<h.P.length->(h.P.getD i La).K=1->tile h.W (bsP h i) (bsP h i+(h.P.getD i La).U) (T i)/\∀ x∈T i,hlA h.W x+1<=Z00 h.C
 t2:∀ i,i<h.P.length->(h.P.getD i La).K=2->T i=[bsP h i]/\okA h.W (bsP h i)/\hlA h.W (bsP h i)+1=(h.P.getD i La).U/\kdA h.W (bsP h i)≠0
 t0:∀ i x,x∈T i->i<h.P.length/\((h.P.getD i La).K=1\/(h.P.getD i La).K=2)
 d:∀ a,(loadA h.W a).1≠0->∃ i x,x∈T i/\x<=a/\a<x+kpA h.W x
 q:∀ i x k,x∈T i->kdA h.W x≠0->0<=k->k<hlA h.W x->Z0e (hdA h.W x) k=M->(loadA h.W (x+1+k)).1=0\/∃ j,(loadA h.W (x+1+k)).1∈T j/\kdA h.W (loadA h.W (x+1+k)).1≠0
 cr:(crowd h.P:Int)<=h.C.pg/4
def Ob(h:Heap)(T:Nat->List Int)(x:Int):Prop:=∃ j,x∈T j/\kdA h.W x≠0
section
variable {h:Heap} {T:Nat->List Int} (g:Gt h T)
include g
theorem Gt.on{i:Nat}{x:Int}(hx:x∈T i):i<h.P.length/\((h.P.getD i La).K=1\/(h.P.getD i La).K=2)/\bsP h i<=x/\x<bsP h i+h.C.pw/\x+hlA h.W x<bsP h i+(h.P.getD i La).U/\okA h.W x/\((h.P.getD i La).K=2->x=bsP h i/\hlA h.W x+1=(h.P.getD i La).U):=by
 have t:=g.t0 i x hx;have po:=Z0a g.p;have pp:=Z0L g.p t.1;have hr:=Z13 h.W x;refine⟨t.1,t.2, ?_⟩;rcases t.2 with k | k
 .have m:=Zg5 (g.t1 i t.1 k) hx;exact⟨m.2.1,by omega,m.2.2,m.1,λq=>by omega⟩
 .have m:=g.t2 i t.1 k;rw[m.1]at hx;have hx:=LC.1 hx;subst hx;exact⟨by omega,by omega,by omega,m.2.1,λ_=>⟨rfl,m.2.2⟩⟩
theorem Gt.ofx{i:Nat}{x:Int}(hx:x∈T i):ofA h.C x=((i:Int),x-bsP h i,0):=by
 have o:=g.on hx;have po:=Z0a g.p;have:=ZfQ (c:=h.C) (i:=i) (o:=x-bsP h i) po.1 oq oq;rw[<- this];congr 1;unfold bsP;omega
theorem Gt.at'{i:Nat}{x:Int}(hx:x∈T i):atH h x=(hdA h.W x,0):=by
 have o:=g.on hx;have r:=Z13 h.W x;have s:sizeH (decodeH (loadA h.W x).1).1=hlA h.W x+1:=Z39 h.W x;unfold atH;rw[if_pos g.p,g.ofx hx];simp only[Ls,s,if_true];rw[if_pos ⟨o.2.1,by omega,o.2.2.2.2.2.1⟩,if_neg]
 .rfl
 .have:=o.2.2.2.2.2.2;omega
theorem Zca{i:Nat}(hi:i<h.P.length)(hk:(h.P.getD i La).K=1):∀ (f:Nat) (o:Int) (l:List Int),tile h.W (bsP h i+o) (bsP h i+(h.P.getD i La).U) l->(∀ x∈l,x∈T i)->0<=o->(h.P.getD i La).U-o<=f->Z2s h i f o=Lf l
 | 0,o,[],ht,hm,h0,hf=>rfl
 | 0,o,x::l,ht,hm,h0,hf=>by
  have:=ZeS ht.2.2;have:=Z13 h.W (bsP h i+o);omega
 | f+1,o,[],ht,hm,h0,hf=>by
  simp only[tile]at ht;unfold Z2s;rw[if_neg];show ¬ o<(h.P.getD (i:Int).toNat La).U;rw[Ls];omega
 | f+1,o,x::l,ht,hm,h0,hf=>by
  have hx:=hm x pq;have e:=ht.1;have on:=g.on hx;have po:=Z0a g.p;have hr:=Z13 h.W x;have hpg:pg h (i:Int)=h.P.getD i La:=by simp[pg]
  have ea:adr h i o=x:=by
   unfold adr address;rw[if_pos po.1,if_pos (inB_iff.2 ⟨by omega,by omega,h0,by omega⟩),e];unfold bsP;simp only;omega
  have t3:=ht.2.2;rw[<- e]at t3;have ih:=Zca hi hk f (o+(hlA h.W x+1)) l (by rw[show bsP h i+(o+(hlA h.W x+1))=x+hlA h.W x+1 by omega];exact t3) (λy hy=>hm y (List.mem_cons_of_mem _ hy)) oq oq;unfold Z2s;rw[hpg,if_pos oq,ea,g.at' hx];simp only[if_true];rw[if_neg oq,Z39,ih];rfl
theorem Gt.page{i:Nat}(hi:i<h.P.length):Z07 h i=(T i,0):=by
 have pp:=Z0L g.p hi;have hpg:pg h (i:Int)=h.P.getD i La:=by simp[pg]
 unfold Z07;rw[if_pos g.p,if_pos oq,hpg];by_cases hk:(h.P.getD i La).K=0\/(h.P.getD i La).K=3
 .rw[if_pos hk];have:T i=[]:=List.eq_nil_iff_forall_not_mem.2 λx hx=>by have:=(g.t0 i x hx).2;omega
  rw[this]
 .rw[if_neg hk];by_cases h1:(h.P.getD i La).K=1
  .have:=Zca g hi h1 256 0 (T i) (by rw[LD];exact(g.t1 i hi h1)) (λ_ q=>q) oq oq;rw[this]
  .have h2:(h.P.getD i La).K=2:=by omega
   have t:=g.t2 i hi h2;have hx:bsP h i∈T i:=by rw[t.1];simp
   have on:=g.on hx;have po:=Z0a g.p;have hr:=Z13 h.W (bsP h i);have ea:adr h i 0=bsP h i:=by
    unfold adr address;rw[if_pos po.1,if_pos (inB_iff.2 ⟨by omega,by omega,by omega,by omega⟩)];unfold bsP;simp
   have:Z2s h i 256 0=Lf (T i):=by
    unfold Z2s;rw[hpg,if_pos oq,ea,g.at' hx];simp only[if_true];rw[if_pos h2,t.1]
   rw[this]
theorem Gt.starts:∀ (f i:Nat),i+f=h.P.length->(Z0E h f i).2=0/\∀ x,x∈(Z0E h f i).1↔∃ j,i<=j/\x∈T j
 | 0,i,hf=>by
  refine⟨rfl,λx=>⟨λhx=>by simp[Z0E]at hx, ?_⟩⟩;rintro⟨j,hj,hx⟩;have:=(g.t0 j x hx).1;omega
 | f+1,i,hf=>by
  obtain⟨i1,i2⟩:=Gt.starts f (i+1) oq;unfold Z0E;rw[g.page (show i<h.P.length by omega)];simp only[i1,if_true];refine⟨trivial,λx=>?_⟩;rw[Lr,i2];constructor
  .rintro(hx | ⟨j,hj,hx⟩)
   .exact⟨i,Lp _,hx⟩
   .exact⟨j,by omega,hx⟩
  .rintro⟨j,hj,hx⟩;by_cases q:j=i
   .subst q;exact Lq hx
   .exact Li ⟨j,by omega,hx⟩
theorem Gt.objs:(Z03 h).2=0/\∀ x,x∈(Z03 h).1↔Ob h T x:=by
 have s:=g.starts h.P.length 0 oq;have e:Z0R h=Z0E h h.P.length 0:=by rw[Z0R,if_pos g.p]
 unfold Z03;rw[e];refine⟨s.1,λx=>?_⟩;rw[List.mem_filter,s.2];constructor
 .rintro⟨⟨j,_,hj⟩,hb⟩;have hb':(atH h x).1.K≠0:=of_decide_eq_true hb;rw[g.at' hj]at hb';exact⟨j,hj,hb'⟩
 .rintro⟨j,hj,hb⟩;refine⟨⟨j,by omega,hj⟩,decide_eq_true ?_⟩;rw[g.at' hj];exact hb
end
section
variable {h:Heap} {T:Nat->List Int} (g:Gd h T)
include g
theorem Gd.gt:Gt h T:=⟨g.p,λi hi hk=>(g.t1 i hi hk).1,λi hi hk=>⟨(g.t2 i hi hk).1,(g.t2 i hi hk).2.1,(g.t2 i hi hk).2.2.1⟩,g.t0⟩
theorem Gd.on{i:Nat}{x:Int}(hx:x∈T i):i<h.P.length/\((h.P.getD i La).K=1\/(h.P.getD i La).K=2)/\bsP h i<=x/\x<bsP h i+h.C.pw/\x+hlA h.W x<bsP h i+(h.P.getD i La).U/\okA h.W x/\((h.P.getD i La).K=2->x=bsP h i/\hlA h.W x+1=(h.P.getD i La).U):=g.gt.on hx
theorem Gd.at'{i:Nat}{x:Int}(hx:x∈T i):atH h x=(hdA h.W x,0):=g.gt.at' hx
theorem Gd.page{i:Nat}(hi:i<h.P.length):Z07 h i=(T i,0):=g.gt.page hi
theorem Gd.objs:(Z03 h).2=0/\∀ x,x∈(Z03 h).1↔Ob h T x:=g.gt.objs
end
def Zja{l:List Page}:∀ {i j:Nat},j<=i->(l.getD j La).K≠3->(∀ m,j<m->m<=i->(l.getD m La).K=3)->Z0s l i=j
 | 0,j,h,_,_=>by simp[Z0s];omega
 | i+1,j,h,hk,hm=>by
  unfold Z0s;by_cases q:j=i+1
  .subst q;rw[if_neg hk]
  .rw[if_pos (hm (i+1) oq (Lp _))];exact Zja oq hk λm h1 h2=>hm m h1 oq
def Zki{ws:List Int}{a n:Int}{k:Nat}(hn:0<=n)(ha:4096<=a/\a-4096+n<=ws.length)(hk:(k:Int)<n):(Z1e ws a n).1.getD k La=(loadA ws (a+k)).1:=by
 unfold Z1e loadA;rw[if_neg oq,if_pos ha,if_pos oq];simp only[Lk];rw[List.getElem?_take_of_lt oq,List.getElem?_drop,show(a-4096).toNat+k=(a+k-4096).toNat by omega];rfl
section
variable {h:Heap} {T:Nat->List Int} (g:Gd h T)
include g
theorem Gd.head{i j:Nat}{x a:Int}(hx:x∈T j)(h1:x<=a)(h2:a<=x+hlA h.W x)(hi:i<h.P.length)(h3:bsP h i<=a)(h4:a<bsP h i+h.C.pw):Z0s h.P i=j:=by
 have o:=g.on hx;have po:=Z0a g.p;unfold bsP at o h3 h4;have hji:j<=i:=by
  by_cases q:j<=i
  .exact q
  .have:=Z2f (i:=i) (j:=j) (pw:=h.C.pw) oq oq;omega
 refine Zja hji oq λm m1 m2=>?_;have hms:=Z2f (i:=j) (j:=m) (pw:=h.C.pw) oq oq;have hmi:(m:Int)*h.C.pw<=i*h.C.pw:=Int.mul_le_mul_of_nonneg_right oq oq;rcases o.2.1 with k | k
 .have pp:=Z0L g.p o.1;omega
 .by_cases q:(h.P.getD m La).K=3
  .exact q
  .have:=ZaL g.p m1 oq (Li k) q;omega
theorem Gd.badd{i k:Nat}(hi:i<h.P.length)(hk:(k:Int)<h.C.pw):badD h i (Z1M h i) k=Lb:=by
 have po:=Z0a g.p;unfold badD;have ew:Z3x h i k=(loadA h.W (bsP h i+k)).1:=by
  unfold Z3x address;rw[if_pos po.1,if_pos (inB_iff.2 ⟨by omega,by omega,by omega,by omega⟩)];unfold bsP;simp only;rw[LO]
 rw[ew];by_cases h0:(loadA h.W (bsP h i+k)).1=0
 .rw[h0];simp
 .obtain⟨j,x,hx,h1,h2⟩:=g.d _ h0;have hr:=Z13 h.W x;have hkp:kpA h.W x<=hlA h.W x+1:=by unfold kpA;split<;>omega
  have hh:=g.head hx h1 oq hi oq oq;have hb:(Z1M h i).getD k La=M:=by
   unfold Z1M Z1z;rw[hh,g.page (g.on hx).1];have hkk:k<h.C.pw.toNat:=by omega
   simp only[Lk,LW,LY hkk,L9,LN,LV];refine⟨x,hx, ?_⟩;unfold Z76;have ek:Z3D h x=kpA h.W x:=by
    unfold Z3D kpA;rw[g.at' hx];rw[Z39];rfl
   rw[ek,Lt,decide_eq_true_eq,decide_eq_true_eq];unfold bsP at h1 h2;omega
  rw[hb];simp
theorem Gd.dirt{i:Nat}(hi:i<h.P.length):Z2m h i (Z1M h i)=0:=by
 have hl:=Z5d h i;unfold Z2m;have:(Lj (Z1M h i).length).find? (badD h i (Z1M h i))=none:=by
  rw[Lh];intro k hk;have hk:=Lg.1 hk;rw[g.badd hi oq];simp
 rw[this]
theorem Gd.cls{i:Nat}{x:Int}(hx:x∈T i):Z17 h i x=Lb:=by
 have o:=g.on hx;unfold Z17;rw[g.at' hx,Z39,Ls];rcases o.2.1 with k | k
 .have:=(g.t1 i o.1 k).2 x hx;rw[k];simp;omega
 .have t:=g.t2 i o.1 k;have hx2:=(o.2.2.2.2.2.2 k).1;have:(hdA h.W x).K≠0:=by rw[hx2];exact t.2.2.2
  rw[k];simp;exact this
theorem Gd.pageF{i:Nat}(hi:i<h.P.length):(pageF h i).fault=0:=by
 have hs:=g.sp i hi;have hc:Z10 h i (T i)=0:=by
  unfold Z10;have:(T i).find? (Z17 h i)=none:=by
   rw[Lh];intro x hx;rw[g.cls hx];simp
  rw[this];rfl
 unfold Go.Proofs.YtgedmeaemofdkaaGreat.pageF;rw[if_neg (by rintro⟨q1,q2⟩;exact q2 (hs q1)),g.page hi,if_neg pq,if_neg (by rw[hc];simp),if_neg (by rw[g.dirt hi];simp)]
end
def Gd.P{h h':Heap}{T:Nat->List Int}(g:Gd h T)(hp:Z02 h'=M)(hc:h'.C=h.C)(hw:h'.W=h.W)(hs:h'.S=h.S)(hl:h'.P.length=h.P.length)
  (hh:∀ i,i<h.P.length->(h'.P.getD i La).K=(h.P.getD i La).K/\(h'.P.getD i La).S=(h.P.getD i La).S/\(h'.P.getD i La).U=(h.P.getD i La).U) (hcr:(crowd h'.P:Int)<=h.C.pg/4):Gd h' T:=by
 have hb:∀ i,bsP h' i=bsP h i:=λi=>by rw[bsP,bsP,hc]
 refine⟨hp, ?_, ?_, ?_, ?_,by rw[hw];exact g.d,by rw[hw];exact g.q,by rw[hc];exact hcr⟩
 .intro i hi hk;rw[hl]at hi;rw[(hh i hi).1]at hk;rw[(hh i hi).2.1,hs];exact g.sp i hi hk
 .intro i hi hk;rw[hl]at hi;rw[(hh i hi).1]at hk;rw[(hh i hi).2.2,hw,hb,hc];exact g.t1 i hi hk
 .intro i hi hk;rw[hl]at hi;rw[(hh i hi).1]at hk;rw[(hh i hi).2.2,hw,hb];exact g.t2 i hi hk
 .intro i x hx;have t:=g.t0 i x hx;rw[hl,(hh i t.1).1];exact t
structure Sm (w v:Work):Prop where
 q:∃ m,v.Q=w.Q++m
 h:∀ x∈w.Q,hdA v.heap.W x=hdA w.heap.W x
def Sm.trans{u v w:Work}(a:Sm u v)(b:Sm v w):Sm u w:=by
 obtain⟨m,em⟩:=a.q;obtain⟨n,en⟩:=b.q;exact⟨⟨m++n,by rw[en,em,List.append_assoc]⟩,λx hx=>(b.h x (by rw[em];exact LA _ hx)).trans (a.h x hx)⟩
def Sm.len{w v:Work}(a:Sm w v){x:Int}(hx:x∈w.Q):hlA v.heap.W x=hlA w.heap.W x:=congrArg Header.length (a.h x hx)
def Z6X(h:Header):∀ n:Nat,∀ x∈Z0P h n,Z0e h x=M
 | 0,x,hx=>by cases hx
 | n+1,x,hx=>by
  unfold Z0P at hx;split at hx
  .rename_i c;rcases Lr.1 hx with q | q
   .exact Z6X h n x q
   .rw[LC.1 q];exact c
  .exact Z6X h n x hx
section
variable {h:Heap} {T:Nat->List Int} (g:Gd h T)
include g
theorem Gd.refsOb{a:Int}(ha:a∈(Z03 h).1):∀ v∈Z0q h a,v=0\/v∈(Z03 h).1:=by
 intro v hv;obtain⟨i,hx,hk⟩:=(g.objs.2 a).1 ha;unfold Z0q at hv;rw[g.at' hx]at hv;obtain⟨p,hp,rfl⟩:=LB.1 hv;simp only at hp;have pq:0<=p/\p<hlA h.W a/\Z0e (hdA h.W a) p=M:=by
  unfold Z04 at hp;split at hp
  .have r:=Z3d _ _ _ hp;have l:(hdA h.W a).length=hlA h.W a:=rfl;exact⟨r.1,by omega,Z6X _ _ _ hp⟩
  .simp at hp
 rcases g.q i a p hx hk pq.1 pq.2.1 pq.2.2 with h0 | ⟨j,h1,h2⟩
 .exact .inl h0
 .exact .inr ((g.objs.2 _).2 ⟨j,h1,h2⟩)
theorem Gd.order{s:List Int}(hs:∀ r∈s,r=0\/Ob h T r):(Z09 h s).2=0:=by
 have no:∀ {l:List Int},(∀ r∈l,r=0\/r∈(Z03 h).1)->((Lj l.length).find? (rfsB l (Z03 h).1)).isSome=Lb:=by
  intro l hl;cases e:(Lj l.length).find? (rfsB l (Z03 h).1)with
  | none=>rfl
  | some j =>
   obtain⟨h1,h2,_⟩:=Lv.1 e;have q:=of_decide_eq_true h1;rcases hl _ (getD_mem_iff.2 ⟨j,Lg.1 h2,rfl⟩)with c | c
   .exact absurd c q.1
   .exact absurd c q.2
 have hb:Z2r h s=Lb:=no λr hr=>(hs r hr).imp id (g.objs.2 r).2;obtain⟨I,e⟩:=Zc0 hb;unfold Z09;rw[if_pos g.p,if_pos g.objs.1,if_neg];rintro(q | ⟨q1,q2⟩)
 .rw[hb]at q;cases q
 .have:=no (g.refsOb ((I.el _ (Lp _)).2 _ (getD_mem_iff.2 ⟨ordZ h s,q1,rfl⟩)));unfold badG at q2;rw[this]at q2;cases q2
end
def Zj1{h:Heap}(hp:Z02 h=M){i:Nat}(hi:i<h.P.length){o:Int}(h0:0<=o)(hu:o<(h.P.getD i La).U)(hk:(h.P.getD i La).K=1\/(h.P.getD i La).K=2/\o=0)(e:(atH h (adr h i o)).2=0):adr h i o=bsP h i+o/\okA h.W (bsP h i+o)/\(atH h (adr h i o)).1=hdA h.W (bsP h i+o)/\((h.P.getD i La).K=1->o+hlA h.W (bsP h i+o)+1<=(h.P.getD i La).U)/\((h.P.getD i La).K=2->hlA h.W (bsP h i+o)+1=(h.P.getD i La).U):=by
 have po:=Z0a hp;have pp:=Z0L hp hi;have ht:=validB_iff.1 po.1;have ho:o<h.C.pw:=by omega
 have ea:adr h i o=bsP h i+o:=by
  unfold adr address;rw[if_pos po.1,if_pos (inB_iff.2 ⟨by omega,by omega,by omega,by omega⟩)];unfold bsP;simp only;omega
 rw[ea]at e ⊢;have ef:=ZfQ (c:=h.C) (i:=i) (o:=o) po.1 oq oq;rw[show 4096+((i:Int)*h.C.pw+o)=bsP h i+o by unfold bsP;omega]at ef;unfold atH at e ⊢;rw[if_pos hp,ef]at e ⊢;simp only[Ls,if_true]at e ⊢;by_cases q:((h.P.getD i La).K=1\/(h.P.getD i La).K=2)/\o<(h.P.getD i La).U/\(decodeH (loadA h.W (bsP h i+o)).1).2=M
 .rw[if_pos q]at e ⊢;have s:sizeH (decodeH (loadA h.W (bsP h i+o)).1).1=hlA h.W (bsP h i+o)+1:=Z39 h.W _;split at e
  .simp at e
  .rename_i q2;rw[if_neg q2];refine⟨trivial,q.2.2,rfl, ?_, ?_⟩<;>omega
 .rw[if_neg q]at e;simp at e
def Zat{h:Heap}(hp:Z02 h=M){i:Nat}(hi:i<h.P.length)(hk:(h.P.getD i La).K=1):∀ (f:Nat) (o:Int) (l:List Int),Z2s h i f o=Lf l->0<=o->o<=(h.P.getD i La).U->(h.P.getD i La).U-o<=f->tile h.W (bsP h i+o) (bsP h i+(h.P.getD i La).U) l
 | 0,o,l,e,h0,h1,hf=>by
  cases e;simp only[tile];omega
 | f+1,o,l,e,h0,h1,hf=>by
  have hpg:pg h (i:Int)=h.P.getD i La:=by simp[pg]
  unfold Z2s at e;rw[hpg]at e;split at e
  .rename_i hu;split at e
   .rename_i ha;rw[if_neg oq]at e;obtain⟨t1,t2,t3,t4,_⟩:=Zj1 hp hi h0 hu (Lq hk) ha;simp only[Option.map_eq_some_iff]at e;obtain⟨l',e,rfl⟩:=e;have r:=Z13 h.W (bsP h i+o);rw[t3,Z39]at e;have:=Zat hp hi hk f _ l' e oq (by have:=t4 hk;omega) oq;refine⟨t1,by rw[t1]at *;exact t2, ?_⟩;rw[show bsP h i+o+hlA h.W (bsP h i+o)+1=bsP h i+(o+(hlA h.W (bsP h i+o)+1)) by omega];exact this
   .cases e
  .cases e;simp only[tile];omega
def Zo9{h:Heap}(hg:Z0r h=⟨0,0,0⟩):Gd h (λi:Nat=>(Z07 h (i:Int)).1):=by
 have hp:Z02 h=M:=by
  by_cases q:Z02 h=M
  .exact q
  .rw[Z0r,if_neg q]at hg;cases hg
 have po:=Z0a hp;have ht:=validB_iff.1 po.1;rw[Z0r,if_pos hp]at hg;have hpf:∀ i,i<h.P.length->(pageF h i).fault=0:=by
  intro i hi;cases hb:Z2C h with
  | some j =>
   rw[hb]at hg;simp only at hg;have:=List.find?_some hb;rw[hg]at this;simp at this
  | none =>
   have:=Lh.1 hb i (Lg.2 hi);simpa using this
 have hnone:Z2C h=none:=by
  unfold Z2C;rw[Lh];intro i hi;simp[hpf i (Lg.1 hi)]
 rw[hnone]at hg;simp only at hg;have hpg:∀ i,i<h.P.length->((h.P.getD i La).K≠0->(h.P.getD i La).S=h.S)/\(Z07 h (i:Int)).2=0/\Z10 h (i:Int) (Z07 h (i:Int)).1=0/\Z2m h i (Z1M h i)=0:=by
  intro i hi;have q:=hpf i hi;unfold pageF at q;split at q
  .simp at q
  .rename_i c1;split at q
   .simp at q
   .rename_i c2;split at q
    .simp at q
    .rename_i c3;split at q
     .simp at q
     .rename_i c4;exact⟨λc=>by by_cases d:(h.P.getD i La).S=h.S;exact d;exact absurd ⟨c,d⟩ c1,by simpa using c2,by simpa using c3,by simpa using c4⟩
 have hT:∀ i,i<h.P.length->((h.P.getD i La).K=1->tile h.W (bsP h i) (bsP h i+(h.P.getD i La).U) (Z07 h (i:Int)).1)/\((h.P.getD i La).K=2->(Z07 h (i:Int)).1=[bsP h i]/\okA h.W (bsP h i)/\hlA h.W (bsP h i)+1=(h.P.getD i La).U):=by
  intro i hi;have q:=(hpg i hi).2.1;have pp:=Z0L hp hi;have e:pg h (i:Int)=h.P.getD i La:=by simp[pg]
  unfold Z07 at q ⊢;rw[if_pos hp,if_pos oq,e]at q ⊢;refine⟨λk=>?_,λk=>?_⟩
  .rw[if_neg oq]at q ⊢;cases hw:Z2s h i 256 0 with
   | none=>rw[hw]at q;simp at q
   | some l =>
    have:=Zat hp hi k 256 0 l hw oq oq oq;rwa [LD]at this
  .rw[if_neg oq]at q ⊢;cases hw:Z2s h i 256 0 with
   | none=>rw[hw]at q;simp at q
   | some l =>
    have hpt:=hp;rw[Z2b]at hpt;have lg:=(hpt.2.2.2.2.2.lg i hi k).1;have hu:0<(h.P.getD i La).U:=by
     unfold need at lg;split at lg
     .rename_i c;omega
     .omega
    unfold Z2s at hw;rw[e,if_pos hu]at hw;split at hw
    .rename_i ha;obtain⟨t1,t2,t3,_,t5⟩:=Zj1 hp hi (Int.le_refl 0) hu (Li ⟨k,rfl⟩) ha;rw[LD]at t1 t2 t5;cases hw;exact⟨by rw[t1],t2,t5 k⟩
    .cases hw
 have ht0:∀ i x,x∈(Z07 h ((i:Nat):Int)).1->i<h.P.length/\((h.P.getD i La).K=1\/(h.P.getD i La).K=2):=by
  intro i x hx;have e:pg h (i:Int)=h.P.getD i La:=by simp[pg]
  unfold Z07 at hx;rw[if_pos hp,e]at hx;split at hx
  .rename_i c;have pp:=Z0L hp (show i<h.P.length by omega);split at hx
   .simp at hx
   .exact⟨by omega,by omega⟩
  .simp at hx
 have g:Gt h (λi:Nat=>(Z07 h (i:Int)).1):=⟨hp,λi hi=>(hT i hi).1,λi hi=>(hT i hi).2,ht0⟩
 have hcls:∀ i x,x∈(Z07 h ((i:Nat):Int)).1->Z17 h i x=Lb:=by
  intro i x hx;have c:=(hpg i (ht0 i x hx).1).2.2.1;unfold Z10 at c;cases hb:(Z07 h (i:Int)).1.find? (Z17 h i)with
  | some y =>
   rw[hb]at c;simp only[LN]at c;have hy:=List.mem_of_find?_eq_some hb;have o:=g.on (i:=i) hy;have:0<=(i:Int)*h.C.pw:=Lu oq oq;unfold bsP at o;omega
  | none=>simpa using Lh.1 hb x hx
 refine⟨hp,λi hi=>(hpg i hi).1,λi hi k=>⟨(hT i hi).1 k,λx hx=>?_⟩,λi hi k=>?_,ht0,λa ha=>?_,λi x k hx hk h0 h1 hptr=>?_, ?_⟩
 .have c:=hcls i x hx;unfold Z17 at c;rw[g.at' hx,Z39,Ls,k]at c;simp at c;omega
 .have t:=(hT i hi).2 k;refine⟨t.1,t.2.1,t.2.2, ?_⟩;have hx:bsP h i∈(Z07 h (i:Int)).1:=by rw[t.1];simp
  have c:=hcls i _ hx;unfold Z17 at c;rw[g.at' hx,Ls,k]at c;simp at c;exact c
 .have har:4096<=a/\a-4096<h.W.length:=by
   by_cases q:4096<=a/\a-4096<h.W.length
   .exact q
   .unfold loadA at ha;rw[if_neg oq]at ha;exact absurd rfl ha
  have hL:=po.2;have q1:=LF (a:=a-4096) (b:=h.C.pw) oq oq;have q2:(a-4096)/h.C.pw<h.C.pg:=Int.ediv_lt_of_lt_mul oq (by rw[LH];omega);have q3:=LS (a-4096) (b:=h.C.pw) oq;have q4:=LR (a-4096) (b:=h.C.pw) oq;have q5:=Int.mul_ediv_add_emod (a-4096) h.C.pw;obtain⟨i,hi⟩:=LG q1;obtain⟨k,hk⟩:=LG q3;rw[hi,hk,LH]at q5;rw[hi]at q2;rw[hk]at q4;have hil:i<h.P.length:=by omega
  have ea:a=bsP h i+k:=by unfold bsP;omega
  have hd:=(hpg i hil).2.2.2;unfold Z2m at hd;cases hb:(Lj (Z1M h i).length).find? (badD h i (Z1M h i))with
  | some m=>rw[hb]at hd;simp only at hd;have:0<=(i:Int)*h.C.pw:=Lu oq oq;omega
  | none =>
   have:=Lh.1 hb k (Lg.2 (by rw[Z5d];omega));unfold badD at this;have ew:Z3x h i k=(loadA h.W (bsP h i+k)).1:=by
    unfold Z3x address;rw[if_pos po.1,if_pos (inB_iff.2 ⟨by omega,by omega,by omega,by omega⟩)];unfold bsP;simp only;rw[LO]
   rw[ea]at ha;rw[ew,decide_eq_true ha,Bool.and_true]at this;have hu:(Z1M h i).getD k La=M:=by simpa using this
   unfold Z1M Z1z at hu;have hkk:k<h.C.pw.toNat:=by omega
   simp only[Lk,LW,LY hkk,L9,LN,LV]at hu;obtain⟨x,hx,hc⟩:=hu;unfold Z76 at hc;rw[Lt,decide_eq_true_eq,decide_eq_true_eq]at hc;have ek:Z3D h x=kpA h.W x:=by
    unfold Z3D kpA;rw[g.at' hx,Z39];rfl
   rw[ek]at hc;refine⟨_,x,hx, ?_, ?_⟩<;>(rw[ea];unfold bsP;omega)
 .have hall:=(g.objs.2 x).2 ⟨i,hx,hk⟩;have hpt:(Z0J h (Z03 h).1).fault=0:=by
   by_cases q:(Z0J h (Z03 h).1).fault=0
   .exact q
   .rw[if_pos q]at hg;rw[hg]at q;exact absurd rfl q
  obtain⟨m,hm,e⟩:=getD_mem_iff.1 hall;unfold Z0J at hpt;cases hb:(Lj (Z03 h).1.length).find? (λi=>(Z24 h (Z03 h).1 i).isSome)with
  | some y=>rw[hb]at hpt;simp at hpt
  | none =>
   have:=Lh.1 hb m (Lg.2 hm);unfold Z24 at this;rw[e]at this;have n:=g.on hx;have r:=Z13 h.W x;have pp:=Z0L hp n.1;have eg:getH h x=(hdA h.W x,0):=by
    unfold getH;rw[if_pos hp,if_neg (by have:0<=(i:Int)*h.C.pw:=Lu oq oq;unfold bsP at n;omega),g.at' hx,if_neg];rintro⟨_,q⟩;exact hk q
   have ue:=Zbb hp n.1 n.2.1;have hi0:0<=(i:Int)*h.C.pw:=Lu oq oq;have hxr:4096<=x/\x+hlA h.W x<4096+h.W.length:=by unfold bsP at n;omega
   have ef:Z0t h x=Z1e h.W (x+1) (hlA h.W x):=by
    unfold Z0t;rw[eg,if_pos rfl];rfl
   have fl:((Z0t h x).1.length:Int)=hlA h.W x:=by
    rw[ef];unfold Z1e;rw[if_neg oq,if_pos oq];simp only[L2,L1];omega
   obtain⟨k',rfl⟩:=LG h0;have fk:(Z0t h x).1.getD k' La=(loadA h.W (x+1+k')).1:=by
    rw[ef];exact Zki r.1 oq h1
   have hn:(Lj (Z0t h x).1.length).find? (Z8o (getH h x).1 (Z0t h x).1 (Z03 h).1)=none:=by simpa using this
   have:=Lh.1 hn k' (Lg.2 oq);unfold Z8o at this;rw[eg,fk]at this;have hptr':Z0e (hdA h.W x) (k':Int)=M:=hptr;simp only[hptr',Bool.true_and,Lt,decide_eq_true_eq,Bool.not_eq_true',decide_eq_false_iff_not,not_and,Lx]at this;by_cases z:(loadA h.W (x+1+(k':Int))).1=0
   .exact Lq z
   .exact Li ((g.objs.2 _).1 (this z))
 .by_cases q:(Z0J h (Z03 h).1).fault=0
  .rw[if_neg (by rw[q];simp)]at hg;split at hg
   .cases hg
   .rename_i c;show(Z0C h.P h.P.length:Int)<=_;omega
  .rw[if_pos q]at hg;rw[hg]at q;exact absurd rfl q
def Z0d(c:Conf)(l:Live):Int:=if Z06 c=M/\Z12 l=M then l.pinned+l.large+(4*l.small+3*c.pw-1)/(3*c.pw)else 0
def Z9J(c:Conf)(l:Live)(hd:Header):Bool :=
 if Z06 c=M/\Z12 l=M/\Z1j c hd=M then
  (if need c (sizeH hd)=0 then Lc (Z0d c l+1<=Z0X c)else Lc (Z0d c l+need c (sizeH hd)<=Z0X c)&&Lc ((Z0d c l+1)*(need c (sizeH hd)-1)<c.pg-Z0d c l))else Lb
def Z2Z(c:Conf)(l:Live):GP 98 [c.av,l.av] M (int (Z0d c l)) []:=by
 by_cases hv:Z06 c=M
 .have hb:=validB_iff.1 hv;by_cases h:Z12 l=M
  .have hl:=liveOk_iff.1 h;have e7:Z0d c l=l.pinned+l.large+(4*l.small+3*c.pw-1)/(3*c.pw):=by rw[Z0d,if_pos ⟨hv,h⟩]
   rw[e7];have ei1:(4*l.small+3*c.pw-1).tdiv (3*c.pw)=(4*l.small+3*c.pw-1)/(3*c.pw):=Z40 oq;have d1:0<=(4*l.small+3*c.pw-1)/(3*c.pw):=LF oq oq;have d2:(4*l.small+3*c.pw-1)/(3*c.pw)<=4*l.small+3*c.pw-1:=LQ _ oq;refine gspec_ofE [((7:Nat),[Hint.call M (Sx.bool (Z06 c)) []]),((11:Nat),[Hint.call M (Sx.bool (Z12 l)) []]),((13:Nat),[Hint.br Lb]),((16:Nat),[Hint.int ((3:Int)*c.pw)]),((21:Nat),[Hint.int (l.pinned+l.large)]),((24:Nat),[Hint.int ((4:Int)*l.small)]),((26:Nat),[Hint.int ((4:Int)*l.small+(3:Int)*c.pw)]),((27:Nat),[Hint.int ((4:Int)*l.small+(3:Int)*c.pw-(1:Int))]),((29:Nat),[Hint.int (((4:Int)*l.small+(3:Int)*c.pw-(1:Int))/((3:Int)*c.pw))]),((30:Nat),[Hint.int (l.pinned+l.large+((4:Int)*l.small+(3:Int)*c.pw-(1:Int))/((3:Int)*c.pw))])] [] [] dd func98 [] (φ:=GP 149 [c.av] M (Sx.bool (Z06 c)) []/\((!!Z06 c)=M->GP 152 [l.av] M (Sx.bool (Z12 l)) [])/\(!Z06 c||!Z12 l)=Lb/\Lb=Lb/\Le.wrap ((3:Int)*c.pw)=(3:Int)*c.pw/\Le.wrap (l.pinned+l.large)=l.pinned+l.large/\Le.wrap ((4:Int)*l.small)=(4:Int)*l.small/\Le.wrap ((4:Int)*l.small+(3:Int)*c.pw)=(4:Int)*l.small+(3:Int)*c.pw/\Le.wrap ((4:Int)*l.small+(3:Int)*c.pw-(1:Int))=(4:Int)*l.small+(3:Int)*c.pw-(1:Int)/\Le.wrap (((4:Int)*l.small+(3:Int)*c.pw-(1:Int)).tdiv ((3:Int)*c.pw))=((4:Int)*l.small+(3:Int)*c.pw-(1:Int))/((3:Int)*c.pw)/\(3:Int)*c.pw≠(0:Int)/\Le.wrap (l.pinned+l.large+((4:Int)*l.small+(3:Int)*c.pw-(1:Int))/((3:Int)*c.pw))=l.pinned+l.large+((4:Int)*l.small+(3:Int)*c.pw-(1:Int))/((3:Int)*c.pw)) ?_ kr kr;exact⟨(@Z0l (c)),(λhg=>by(try simp only[bs]at hg);exact @Z2n (l)),(by simp only[bs, *,true_or,or_true,true_and,and_true,not_true_eq_false,not_false_eq_true,Lm,Ll]),rfl,(by exact wrapI2 rfl oq oq),(by exact wrapI2 rfl oq oq),(by exact wrapI2 rfl oq oq),(by exact wrapI2 rfl oq oq),(by exact wrapI2 rfl oq oq),(by rw[wrapI' oq oq];omega),oq,(by exact wrapI2 rfl oq oq)⟩
  .have e7:Z0d c l=0:=by rw[Z0d,if_neg (λq=>h q.2)]
   rw[e7];refine gspec_ofE [((7:Nat),[Hint.call M (Sx.bool (Z06 c)) []]),((11:Nat),[Hint.call M (Sx.bool (Z12 l)) []]),((13:Nat),[Hint.br M])] [] [] dd func98 [] (φ:=GP 149 [c.av] M (Sx.bool (Z06 c)) []/\((!!Z06 c)=M->GP 152 [l.av] M (Sx.bool (Z12 l)) [])/\(!Z06 c||!Z12 l)=M/\M=M) ?_ kr kr;exact⟨(@Z0l (c)),(λhg=>by(try simp only[bs]at hg);exact @Z2n (l)),(by simp only[bs, *,true_or,or_true,true_and,and_true,not_true_eq_false,not_false_eq_true,Lm,Ll]),rfl⟩
 .have e7:Z0d c l=0:=by rw[Z0d,if_neg (λq=>hv q.1)]
  rw[e7];refine gspec_ofE [((7:Nat),[Hint.call M (Sx.bool (Z06 c)) []]),((11:Nat),[Hint.call M (Sx.bool (Z12 l)) []]),((13:Nat),[Hint.br M])] [] [] dd func98 [] (φ:=GP 149 [c.av] M (Sx.bool (Z06 c)) []/\((!!Z06 c)=M->GP 152 [l.av] M (Sx.bool (Z12 l)) [])/\(!Z06 c||!Z12 l)=M/\M=M) ?_ kr kr;exact⟨(@Z0l (c)),(λhg=>by(try simp only[bs]at hg);exact @Z2n (l)),(by simp only[bs, *,true_or,or_true,true_and,and_true,not_true_eq_false,not_false_eq_true,Lm,Ll]),rfl⟩
def Z9I{c:Conf}{l:Live}:0<=Z0d c l/\Z0d c l<=17179869184:=by
 unfold Z0d;split
 .rename_i h;have hb:=validB_iff.1 h.1;have hl:=liveOk_iff.1 h.2;have d1:0<=(4*l.small+3*c.pw-1)/(3*c.pw):=LF oq oq;have d2:(4*l.small+3*c.pw-1)/(3*c.pw)<=4*l.small+3*c.pw-1:=LQ _ oq;omega
 .omega
def Zi5(c:Conf)(l:Live)(hd:Header)(hm:0<=hd.map/\hd.map<=4294967295):GP 99 [c.av,l.av,hd.av] M (bool (Z9J c l hd)) []:=by
 have hp:=Z9I (c:=c) (l:=l);have hr:=Z1J c (sizeH hd);by_cases hc:Z06 c=M/\Z12 l=M/\Z1j c hd=M
 .obtain⟨h1,h2,h3⟩:=hc;have hb:=validB_iff.1 h1;have hli:=Zbn h1;have ha:=Z7Q h3;have m1:0<need c (sizeH hd)->0<=(Z0d c l+1)*(need c (sizeH hd)-1)/\(Z0d c l+1)*(need c (sizeH hd)-1)<=17179869185*4:=λq=>⟨Lu oq oq,Int.mul_le_mul oq oq oq oq⟩
  by_cases hk:need c (sizeH hd)=0
  .have e7:Z9J c l hd=Lc (Z0d c l+1<=Z0X c):=by rw[Z9J,if_pos ⟨h1,h2,h3⟩,if_pos hk]
   rw[e7];rcases Lw (Lc (Z0X c-max (need c (sizeH hd)) (1:Int)<Z0d c l))with hc0 | hc0
   .have hc0p:=hc0;simp only[bs]at hc0p;refine gspec_ofE [((10:Nat),[Hint.call M (Sx.bool (Z06 c)) []]),((14:Nat),[Hint.call M (Sx.bool (Z12 l)) []]),((20:Nat),[Hint.call M (Sx.bool (Z1j c hd)) []]),((22:Nat),[Hint.br Lb]),((25:Nat),[Hint.call M (int (Z0d c l)) []]),((28:Nat),[Hint.call M (int (sizeH hd)) []]),((29:Nat),[Hint.call M (int (need c (sizeH hd))) []]),((32:Nat),[Hint.call M (int (Z0X c)) []]),((34:Nat),[Hint.int (max (need c (sizeH hd)) (1:Int))]),((35:Nat),[Hint.int (Z0X c-max (need c (sizeH hd)) (1:Int))]),((36:Nat),[Hint.br M])] [] [] dd func99 [Lb,Lb,Lb,Lb,Lb,Lb,Lb,M] (φ:=GP 149 [c.av] M (Sx.bool (Z06 c)) []/\((!!Z06 c)=M->GP 152 [l.av] M (Sx.bool (Z12 l)) [])/\((!(!Z06 c||!Z12 l))=M->GP 153 [c.av,hd.av] M (Sx.bool (Z1j c hd)) [])/\(!Z06 c||!Z12 l||!Z1j c hd)=Lb/\Lb=Lb/\GP 98 [c.av,l.av] M (int (Z0d c l)) []/\GP 69 [hd.av] M (int (sizeH hd)) []/\GP 97 [c.av,int (sizeH hd)] M (int (need c (sizeH hd))) []/\GP 154 [c.av] M (int (Z0X c)) []/\(if(1:Int) > need c (sizeH hd)then(1:Int)else need c (sizeH hd))=max (need c (sizeH hd)) (1:Int)/\Le.wrap (Z0X c-max (need c (sizeH hd)) (1:Int))=Z0X c-max (need c (sizeH hd)) (1:Int)/\Lc (Z0X c-max (need c (sizeH hd)) (1:Int)<Z0d c l)=M/\M=M/\Lb=Lc (Z0d c l+(1:Int)<=Z0X c)) ?_ kr kr;exact⟨(@Z0l (c)),(λhg=>by(try simp only[bs]at hg);exact @Z2n (l)),(λhg=>by(try simp only[bs]at hg);exact @Z3v (c) (hd) (by(try simp only[bs]at hg);assumption)),(by simp only[bs, *,true_or,or_true,true_and,and_true,not_true_eq_false,not_false_eq_true,Lm,Ll]),rfl,(@Z2Z (c) (l)),(@Z0B (hd) aa),(@Z2t (c) (sizeH hd)),(@Z3Z (c)),oq,(by exact wrapI2 rfl oq oq),aa,rfl,(by(simp[*];omega))⟩
   .have hc0p:=hc0;simp only[bs]at hc0p;refine gspec_ofE [((10:Nat),[Hint.call M (Sx.bool (Z06 c)) []]),((14:Nat),[Hint.call M (Sx.bool (Z12 l)) []]),((20:Nat),[Hint.call M (Sx.bool (Z1j c hd)) []]),((22:Nat),[Hint.br Lb]),((25:Nat),[Hint.call M (int (Z0d c l)) []]),((28:Nat),[Hint.call M (int (sizeH hd)) []]),((29:Nat),[Hint.call M (int (need c (sizeH hd))) []]),((32:Nat),[Hint.call M (int (Z0X c)) []]),((34:Nat),[Hint.int (max (need c (sizeH hd)) (1:Int))]),((35:Nat),[Hint.int (Z0X c-max (need c (sizeH hd)) (1:Int))]),((36:Nat),[Hint.br Lb]),((43:Nat),[Hint.int (c.pg-Z0d c l)]),((45:Nat),[Hint.int (Z0d c l+(1:Int))]),((47:Nat),[Hint.int (need c (sizeH hd)-(1:Int))]),((48:Nat),[Hint.int ((Z0d c l+(1:Int))*(need c (sizeH hd)-(1:Int)))])] [] [] dd func99 [Lb,Lb,Lb,Lb,Lb,Lb,Lb,Lb,Lb,Lb,Lb,Lb,Lb,Lb,Lb,Lb,Lb,M] (φ:=GP 149 [c.av] M (Sx.bool (Z06 c)) []/\((!!Z06 c)=M->GP 152 [l.av] M (Sx.bool (Z12 l)) [])/\((!(!Z06 c||!Z12 l))=M->GP 153 [c.av,hd.av] M (Sx.bool (Z1j c hd)) [])/\(!Z06 c||!Z12 l||!Z1j c hd)=Lb/\Lb=Lb/\GP 98 [c.av,l.av] M (int (Z0d c l)) []/\GP 69 [hd.av] M (int (sizeH hd)) []/\GP 97 [c.av,int (sizeH hd)] M (int (need c (sizeH hd))) []/\GP 154 [c.av] M (int (Z0X c)) []/\(if(1:Int) > need c (sizeH hd)then(1:Int)else need c (sizeH hd))=max (need c (sizeH hd)) (1:Int)/\Le.wrap (Z0X c-max (need c (sizeH hd)) (1:Int))=Z0X c-max (need c (sizeH hd)) (1:Int)/\Lc (Z0X c-max (need c (sizeH hd)) (1:Int)<Z0d c l)=Lb/\Lb=Lb/\((!need c (sizeH hd)==(0:Int))=M->Le.wrap (c.pg-Z0d c l)=c.pg-Z0d c l)/\((!need c (sizeH hd)==(0:Int))=M->Le.wrap (Z0d c l+(1:Int))=Z0d c l+(1:Int))/\((!need c (sizeH hd)==(0:Int))=M->Le.wrap (need c (sizeH hd)-(1:Int))=need c (sizeH hd)-(1:Int))/\((!need c (sizeH hd)==(0:Int))=M->Le.wrap ((Z0d c l+(1:Int))*(need c (sizeH hd)-(1:Int)))=(Z0d c l+(1:Int))*(need c (sizeH hd)-(1:Int)))/\(need c (sizeH hd)==(0:Int)||Lc ((Z0d c l+(1:Int))*(need c (sizeH hd)-(1:Int))<c.pg-Z0d c l))=Lc (Z0d c l+(1:Int)<=Z0X c)) ?_ kr kr;exact⟨(@Z0l (c)),(λhg=>by(try simp only[bs]at hg);exact @Z2n (l)),(λhg=>by(try simp only[bs]at hg);exact @Z3v (c) (hd) (by(try simp only[bs]at hg);assumption)),(by simp only[bs, *,true_or,or_true,true_and,and_true,not_true_eq_false,not_false_eq_true,Lm,Ll]),rfl,(@Z2Z (c) (l)),(@Z0B (hd) aa),(@Z2t (c) (sizeH hd)),(@Z3Z (c)),oq,(by exact wrapI2 rfl oq oq),aa,rfl,(by intro hg;(try simp only[bs]at hg);exact wrapI2 rfl oq oq),(by intro hg;(try simp only[bs]at hg);exact wrapI2 rfl oq oq),(by intro hg;(try simp only[bs]at hg);exact wrapI2 rfl oq oq),(by intro hg;(try simp only[bs]at hg);exact wrapI2 rfl oq oq),(by(simp[*];omega))⟩
  .have e7:Z9J c l hd=(Lc (Z0d c l+need c (sizeH hd)<=Z0X c)&&Lc ((Z0d c l+1)*(need c (sizeH hd)-1)<c.pg-Z0d c l)):=by rw[Z9J,if_pos ⟨h1,h2,h3⟩,if_neg hk]
   have m2:=m1 oq;rw[e7];rcases Lw (Lc (Z0X c-max (need c (sizeH hd)) (1:Int)<Z0d c l))with hc0 | hc0
   .have hc0p:=hc0;simp only[bs]at hc0p;refine gspec_ofE [((10:Nat),[Hint.call M (Sx.bool (Z06 c)) []]),((14:Nat),[Hint.call M (Sx.bool (Z12 l)) []]),((20:Nat),[Hint.call M (Sx.bool (Z1j c hd)) []]),((22:Nat),[Hint.br Lb]),((25:Nat),[Hint.call M (int (Z0d c l)) []]),((28:Nat),[Hint.call M (int (sizeH hd)) []]),((29:Nat),[Hint.call M (int (need c (sizeH hd))) []]),((32:Nat),[Hint.call M (int (Z0X c)) []]),((34:Nat),[Hint.int (max (need c (sizeH hd)) (1:Int))]),((35:Nat),[Hint.int (Z0X c-max (need c (sizeH hd)) (1:Int))]),((36:Nat),[Hint.br M])] [] [] dd func99 [Lb,Lb,Lb,Lb,Lb,Lb,Lb,M] (φ:=GP 149 [c.av] M (Sx.bool (Z06 c)) []/\((!!Z06 c)=M->GP 152 [l.av] M (Sx.bool (Z12 l)) [])/\((!(!Z06 c||!Z12 l))=M->GP 153 [c.av,hd.av] M (Sx.bool (Z1j c hd)) [])/\(!Z06 c||!Z12 l||!Z1j c hd)=Lb/\Lb=Lb/\GP 98 [c.av,l.av] M (int (Z0d c l)) []/\GP 69 [hd.av] M (int (sizeH hd)) []/\GP 97 [c.av,int (sizeH hd)] M (int (need c (sizeH hd))) []/\GP 154 [c.av] M (int (Z0X c)) []/\(if(1:Int) > need c (sizeH hd)then(1:Int)else need c (sizeH hd))=max (need c (sizeH hd)) (1:Int)/\Le.wrap (Z0X c-max (need c (sizeH hd)) (1:Int))=Z0X c-max (need c (sizeH hd)) (1:Int)/\Lc (Z0X c-max (need c (sizeH hd)) (1:Int)<Z0d c l)=M/\M=M/\Lb=(Lc (Z0d c l+need c (sizeH hd)<=Z0X c)&&Lc ((Z0d c l+(1:Int))*(need c (sizeH hd)-(1:Int))<c.pg-Z0d c l))) ?_ kr kr;exact⟨(@Z0l (c)),(λhg=>by(try simp only[bs]at hg);exact @Z2n (l)),(λhg=>by(try simp only[bs]at hg);exact @Z3v (c) (hd) (by(try simp only[bs]at hg);assumption)),(by simp only[bs, *,true_or,or_true,true_and,and_true,not_true_eq_false,not_false_eq_true,Lm,Ll]),rfl,(@Z2Z (c) (l)),(@Z0B (hd) aa),(@Z2t (c) (sizeH hd)),(@Z3Z (c)),oq,(by exact wrapI2 rfl oq oq),aa,rfl,(by(simp[*];omega))⟩
   .have hc0p:=hc0;simp only[bs]at hc0p;refine gspec_ofE [((10:Nat),[Hint.call M (Sx.bool (Z06 c)) []]),((14:Nat),[Hint.call M (Sx.bool (Z12 l)) []]),((20:Nat),[Hint.call M (Sx.bool (Z1j c hd)) []]),((22:Nat),[Hint.br Lb]),((25:Nat),[Hint.call M (int (Z0d c l)) []]),((28:Nat),[Hint.call M (int (sizeH hd)) []]),((29:Nat),[Hint.call M (int (need c (sizeH hd))) []]),((32:Nat),[Hint.call M (int (Z0X c)) []]),((34:Nat),[Hint.int (max (need c (sizeH hd)) (1:Int))]),((35:Nat),[Hint.int (Z0X c-max (need c (sizeH hd)) (1:Int))]),((36:Nat),[Hint.br Lb]),((43:Nat),[Hint.int (c.pg-Z0d c l)]),((45:Nat),[Hint.int (Z0d c l+(1:Int))]),((47:Nat),[Hint.int (need c (sizeH hd)-(1:Int))]),((48:Nat),[Hint.int ((Z0d c l+(1:Int))*(need c (sizeH hd)-(1:Int)))])] [] [] dd func99 [Lb,Lb,Lb,Lb,Lb,Lb,Lb,Lb,Lb,Lb,Lb,Lb,Lb,Lb,Lb,Lb,Lb,M] (φ:=GP 149 [c.av] M (Sx.bool (Z06 c)) []/\((!!Z06 c)=M->GP 152 [l.av] M (Sx.bool (Z12 l)) [])/\((!(!Z06 c||!Z12 l))=M->GP 153 [c.av,hd.av] M (Sx.bool (Z1j c hd)) [])/\(!Z06 c||!Z12 l||!Z1j c hd)=Lb/\Lb=Lb/\GP 98 [c.av,l.av] M (int (Z0d c l)) []/\GP 69 [hd.av] M (int (sizeH hd)) []/\GP 97 [c.av,int (sizeH hd)] M (int (need c (sizeH hd))) []/\GP 154 [c.av] M (int (Z0X c)) []/\(if(1:Int) > need c (sizeH hd)then(1:Int)else need c (sizeH hd))=max (need c (sizeH hd)) (1:Int)/\Le.wrap (Z0X c-max (need c (sizeH hd)) (1:Int))=Z0X c-max (need c (sizeH hd)) (1:Int)/\Lc (Z0X c-max (need c (sizeH hd)) (1:Int)<Z0d c l)=Lb/\Lb=Lb/\((!need c (sizeH hd)==(0:Int))=M->Le.wrap (c.pg-Z0d c l)=c.pg-Z0d c l)/\((!need c (sizeH hd)==(0:Int))=M->Le.wrap (Z0d c l+(1:Int))=Z0d c l+(1:Int))/\((!need c (sizeH hd)==(0:Int))=M->Le.wrap (need c (sizeH hd)-(1:Int))=need c (sizeH hd)-(1:Int))/\((!need c (sizeH hd)==(0:Int))=M->Le.wrap ((Z0d c l+(1:Int))*(need c (sizeH hd)-(1:Int)))=(Z0d c l+(1:Int))*(need c (sizeH hd)-(1:Int)))/\(need c (sizeH hd)==(0:Int)||Lc ((Z0d c l+(1:Int))*(need c (sizeH hd)-(1:Int))<c.pg-Z0d c l))=(Lc (Z0d c l+need c (sizeH hd)<=Z0X c)&&Lc ((Z0d c l+(1:Int))*(need c (sizeH hd)-(1:Int))<c.pg-Z0d c l))) ?_ kr kr;exact⟨(@Z0l (c)),(λhg=>by(try simp only[bs]at hg);exact @Z2n (l)),(λhg=>by(try simp only[bs]at hg);exact @Z3v (c) (hd) (by(try simp only[bs]at hg);assumption)),(by simp only[bs, *,true_or,or_true,true_and,and_true,not_true_eq_false,not_false_eq_true,Lm,Ll]),rfl,(@Z2Z (c) (l)),(@Z0B (hd) aa),(@Z2t (c) (sizeH hd)),(@Z3Z (c)),oq,(by exact wrapI2 rfl oq oq),aa,rfl,(by intro hg;(try simp only[bs]at hg);exact wrapI2 rfl oq oq),(by intro hg;(try simp only[bs]at hg);exact wrapI2 rfl oq oq),(by intro hg;(try simp only[bs]at hg);exact wrapI2 rfl oq oq),(by intro hg;(try simp only[bs]at hg);exact wrapI2 rfl oq oq),(by grind[])⟩
 .have e7:Z9J c l hd=Lb:=by rw[Z9J,if_neg hc]
  rw[e7];rcases Lw (!Z06 c||!Z12 l||!Z1j c hd)with hc0 | hc0
  .have hc0p:=hc0;simp only[bs]at hc0p;refine gspec_ofE [((10:Nat),[Hint.call M (Sx.bool (Z06 c)) []]),((14:Nat),[Hint.call M (Sx.bool (Z12 l)) []]),((20:Nat),[Hint.call M (Sx.bool (Z1j c hd)) []]),((22:Nat),[Hint.br M])] [] [] dd func99 [] (φ:=GP 149 [c.av] M (Sx.bool (Z06 c)) []/\((!!Z06 c)=M->GP 152 [l.av] M (Sx.bool (Z12 l)) [])/\((!(!Z06 c||!Z12 l))=M->GP 153 [c.av,hd.av] M (Sx.bool (Z1j c hd)) [])/\(!Z06 c||!Z12 l||!Z1j c hd)=M/\M=M) ?_ kr kr;exact⟨(@Z0l (c)),(λhg=>by(try simp only[bs]at hg);exact @Z2n (l)),(λhg=>by(try simp only[bs]at hg);exact @Z3v (c) (hd) (by(try simp only[bs]at hg);assumption)),aa,rfl⟩
  .have hc0p:=hc0;simp only[bs]at hc0p;obtain⟨⟨hc0paa,hc0pab⟩,hc0pb⟩:=hc0p;rcases Lw (Lc (Le.wrap (Z0X c-max (need c (sizeH hd)) (1:Int))<Z0d c l))with hc1 | hc1
   .have hc1p:=hc1;simp only[bs]at hc1p;refine gspec_ofE [((10:Nat),[Hint.call M (Sx.bool (Z06 c)) []]),((14:Nat),[Hint.call M (Sx.bool (Z12 l)) []]),((20:Nat),[Hint.call M (Sx.bool (Z1j c hd)) []]),((22:Nat),[Hint.br Lb]),((25:Nat),[Hint.call M (int (Z0d c l)) []]),((28:Nat),[Hint.call M (int (sizeH hd)) []]),((29:Nat),[Hint.call M (int (need c (sizeH hd))) []]),((32:Nat),[Hint.call M (int (Z0X c)) []]),((34:Nat),[Hint.int (max (need c (sizeH hd)) (1:Int))]),((36:Nat),[Hint.br M])] [] [] dd func99 [] (φ:=GP 149 [c.av] M (Sx.bool (Z06 c)) []/\((!!Z06 c)=M->GP 152 [l.av] M (Sx.bool (Z12 l)) [])/\((!(!Z06 c||!Z12 l))=M->GP 153 [c.av,hd.av] M (Sx.bool (Z1j c hd)) [])/\(!Z06 c||!Z12 l||!Z1j c hd)=Lb/\Lb=Lb/\GP 98 [c.av,l.av] M (int (Z0d c l)) []/\GP 69 [hd.av] M (int (sizeH hd)) []/\GP 97 [c.av,int (sizeH hd)] M (int (need c (sizeH hd))) []/\GP 154 [c.av] M (int (Z0X c)) []/\(if(1:Int) > need c (sizeH hd)then(1:Int)else need c (sizeH hd))=max (need c (sizeH hd)) (1:Int)/\Lc (Le.wrap (Z0X c-max (need c (sizeH hd)) (1:Int))<Z0d c l)=M/\M=M) ?_ kr kr;exact⟨(@Z0l (c)),(λhg=>by(try simp only[bs]at hg);exact @Z2n (l)),(λhg=>by(try simp only[bs]at hg);exact @Z3v (c) (hd) (by(try simp only[bs]at hg);assumption)),aa,rfl,(@Z2Z (c) (l)),(@Z0B (hd) aa),(@Z2t (c) (sizeH hd)),(@Z3Z (c)),oq,aa,rfl⟩
   .have hc1p:=hc1;simp only[bs]at hc1p;refine gspec_ofE [((10:Nat),[Hint.call M (Sx.bool (Z06 c)) []]),((14:Nat),[Hint.call M (Sx.bool (Z12 l)) []]),((20:Nat),[Hint.call M (Sx.bool (Z1j c hd)) []]),((22:Nat),[Hint.br Lb]),((25:Nat),[Hint.call M (int (Z0d c l)) []]),((28:Nat),[Hint.call M (int (sizeH hd)) []]),((29:Nat),[Hint.call M (int (need c (sizeH hd))) []]),((32:Nat),[Hint.call M (int (Z0X c)) []]),((34:Nat),[Hint.int (max (need c (sizeH hd)) (1:Int))]),((36:Nat),[Hint.br Lb]),((45:Nat),[Hint.int (Z0d c l+(1:Int))]),((47:Nat),[Hint.int (need c (sizeH hd)-(1:Int))])] [] [] dd func99 [Lb,Lb,Lb,Lb,Lb,Lb,Lb,Lb,Lb,Lb,Lb,Lb,Lb,Lb,Lb,Lb,Lb,M] (φ:=GP 149 [c.av] M (Sx.bool (Z06 c)) []/\((!!Z06 c)=M->GP 152 [l.av] M (Sx.bool (Z12 l)) [])/\((!(!Z06 c||!Z12 l))=M->GP 153 [c.av,hd.av] M (Sx.bool (Z1j c hd)) [])/\(!Z06 c||!Z12 l||!Z1j c hd)=Lb/\Lb=Lb/\GP 98 [c.av,l.av] M (int (Z0d c l)) []/\GP 69 [hd.av] M (int (sizeH hd)) []/\GP 97 [c.av,int (sizeH hd)] M (int (need c (sizeH hd))) []/\GP 154 [c.av] M (int (Z0X c)) []/\(if(1:Int) > need c (sizeH hd)then(1:Int)else need c (sizeH hd))=max (need c (sizeH hd)) (1:Int)/\Lc (Le.wrap (Z0X c-max (need c (sizeH hd)) (1:Int))<Z0d c l)=Lb/\Lb=Lb/\((!need c (sizeH hd)==(0:Int))=M->Le.wrap (Z0d c l+(1:Int))=Z0d c l+(1:Int))/\((!need c (sizeH hd)==(0:Int))=M->Le.wrap (need c (sizeH hd)-(1:Int))=need c (sizeH hd)-(1:Int))/\(need c (sizeH hd)==(0:Int)||Lc (Le.wrap ((Z0d c l+(1:Int))*(need c (sizeH hd)-(1:Int)))<Le.wrap (c.pg-Z0d c l)))=Lb) ?_ kr kr;exact⟨(@Z0l (c)),(λhg=>by(try simp only[bs]at hg);exact @Z2n (l)),(λhg=>by(try simp only[bs]at hg);exact @Z3v (c) (hd) (by(try simp only[bs]at hg);assumption)),aa,rfl,(@Z2Z (c) (l)),(@Z0B (hd) aa),(@Z2t (c) (sizeH hd)),(@Z3Z (c)),oq,aa,rfl,(by intro hg;(try simp only[bs]at hg);exact wrapI2 rfl oq oq),(by intro hg;(try simp only[bs]at hg);exact wrapI2 rfl oq oq),(by grind[])⟩
def Z1c(h:Heap)(roots:List Int):Live×Int :=
 if Z02 h=M then
  if Z0f h roots=M then(⟨(Z09 h roots).1.length,msW h (Z09 h roots).1 (Z09 h roots).1.length,msS h (Z09 h roots).1 (Z09 h roots).1.length,msL h (Z09 h roots).1 (Z09 h roots).1.length,msP h h.P.length⟩,0)
  else(⟨0,0,0,0,0⟩,19)
 else(⟨0,0,0,0,0⟩,1)
def Z7h{h:Heap}{roots:List Int}(e:Z0f h roots=M):(Z09 h roots).2=0:=by
 unfold Z0f at e;rw[Lt]at e;have g:=Zo9 (of_decide_eq_true e.1);refine g.order λr hr=>?_;obtain⟨i,hi,q⟩:=getD_mem_iff.1 hr;have n:=Lh.1 (Option.isNone_iff_eq_none.1 e.2) i (Lg.2 hi);by_cases r0:r=0
 .exact .inl r0
 .refine .inr ((g.objs.2 r).1 ?_);subst q;by_cases m:roots.getD i La∈(Z03 h).1
  .exact m
  .exact absurd (by unfold rfsB;simp only[decide_eq_true_eq,Lt,bne_iff_ne];exact⟨r0,m⟩) n
section
variable (h:Heap) (roots:List Int) (hw:WOk h.W) (hl:roots.length<=1000) (hr:ULe roots)
include hw hl hr
theorem Z4L:GP 48 [h.av,Z01 roots] M (.tu [(Z1c h roots).1.av,int (Z1c h roots).2]) []:=by
 unfold Z1c;by_cases hp:Z02 h=M
 .by_cases e:Z0f h roots=M
  .rw[if_pos hp,if_pos e];exact Zcw h roots hw hl hr hp e (Z7h e)
  .rw[if_pos hp,if_neg e];exact gF [] func48 [] (Fc 21 (@Z0n h) (Ffb 22 (!Z02 h) (Fc 26 (@Z9k h roots aa oq) (Fts 27 (!Z0f h roots) Fz))))
 .rw[if_neg hp];exact gF [] func48 [] (Fc 21 (@Z0n h) (Fts 22 (!Z02 h) Fz))
theorem Z55:GP 49 [h.av,Z01 roots] Lb (.tu [(Z1c h roots).1.av,int (Z1c h roots).2]) []:=by
 unfold Z1c;by_cases hp:Z02 h=M
 .by_cases e:Z0f h roots=M
  .rw[if_pos hp,if_pos e];exact ZcG h roots hw hl hr hp e (Z7h e)
  .rw[if_pos hp,if_neg e];exact gF [] func49 [] (Fc 18 (@Z0h h) (Ffb 19 (!Z02 h) (Fc 23 (@Z1u h roots aa oq) (Fts 24 (!Z0f h roots) Fz))))
 .rw[if_neg hp];exact gF [] func49 [] (Fc 18 (@Z0h h) (Fts 19 (!Z02 h) Fz))
end
def Zar:GP 51 [] M (bool M) []:=by
 have e1:Z0d ⟨16,8⟩ ⟨0,0,13,0,0⟩=2:=by decide
 have e2:Z9J ⟨16,8⟩ ⟨0,0,0,0,0⟩ ⟨3,3,0⟩=M:=by decide
 refine gspec_ofE [((5:Nat),[Hint.call M (int (Z0d (Conf.mk (16:Int) (8:Int)) (Live.mk (0:Int) (0:Int) (13:Int) (0:Int) (0:Int)))) []]),((11:Nat),[Hint.call M (Sx.bool (Z9J (Conf.mk (16:Int) (8:Int)) (Live.mk (0:Int) (0:Int) (0:Int) (0:Int) (0:Int)) (Header.mk (3:Int) (3:Int) (0:Int)))) []])] [] [] dd func51 [] (φ:=GP 98 [(Conf.mk (16:Int) (8:Int)).av,(Live.mk (0:Int) (0:Int) (13:Int) (0:Int) (0:Int)).av] M (int (Z0d (Conf.mk (16:Int) (8:Int)) (Live.mk (0:Int) (0:Int) (13:Int) (0:Int) (0:Int)))) []/\((Z0d (Conf.mk (16:Int) (8:Int)) (Live.mk (0:Int) (0:Int) (13:Int) (0:Int) (0:Int))==(2:Int))=M->GP 99 [(Conf.mk (16:Int) (8:Int)).av,(Live.mk (0:Int) (0:Int) (0:Int) (0:Int) (0:Int)).av,(Header.mk (3:Int) (3:Int) (0:Int)).av] M (Sx.bool (Z9J (Conf.mk (16:Int) (8:Int)) (Live.mk (0:Int) (0:Int) (0:Int) (0:Int) (0:Int)) (Header.mk (3:Int) (3:Int) (0:Int)))) [])) ?_ kr kr;exact⟨(@Z2Z (Conf.mk (16:Int) (8:Int)) (Live.mk (0:Int) (0:Int) (13:Int) (0:Int) (0:Int))),(λhg=>by(try simp only[bs]at hg);exact @Zi5 (Conf.mk (16:Int) (8:Int)) (Live.mk (0:Int) (0:Int) (0:Int) (0:Int) (0:Int)) (Header.mk (3:Int) (3:Int) (0:Int)) (by(try simp only[bs]at hg);(simp only[bs];omega)))⟩
def Z9Z(l:Live):GP 50 [l.av] M l.av []:=by
 refine gspec_ofE [] [] [] dd func50 [] (φ:=True) ?_ kr kr;exact trivial
def SpOk(l:List Page):Prop:=∀ p∈l,p.S=0\/p.S=1
def SpOk.at{l:List Page}(h:SpOk l){i:Nat}(hi:i<l.length):(l.getD i La).S=0\/(l.getD i La).S=1:=by
 rw[Lk,LI hi];exact h _ (List.getElem_mem hi)
def SpOk.set{l:List Page}(h:SpOk l)(i:Nat){p:Page}(hp:p.S=0\/p.S=1):SpOk (l.set i p):=λq hq=>by
 rcases LM hq with q1 | q1
 .exact h q q1
 .rw[q1];exact hp
def Work.took(w:Work):Work:=⟨⟨w.heap.C,w.heap.W,Z3j w,w.heap.S,w.heap.B⟩,w.old,w.T++[Z0W w],w.Q,w.D,w.rep⟩
end Go.Proofs.YtgedmeaemofdkaaGreat
