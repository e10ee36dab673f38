/-
 The statement ScanDone: part 15.
 Conditions: none.
-/
import Derived.Test.YtdhchmlalchgeaaGreatL14
set_option maxRecDepth 100000
set_option maxHeartbeats 2000000
set_option linter.all false
open Inhabited renaming default->M
open Bool renaming true->O,false->La,not_true->Lf,and_false->Lh
open Decidable renaming decide->Lb
open List renaming replicate->Lc,map->Ld,mem_range->Lg,find?_eq_none->Li,find?_range_eq_some->Lj
open Classical renaming not_not->Le
open Go.Proofs.Tryz
namespace Go.Proofs.YtdhchmlalchgeaaGreat
open Go.Sx
def apgL(h:Heap)(i:Nat):Tg:=⟨tm 64 [(1,.pt 8001 0 0),(2,.pt 8002 0 0),(12,Z0u h.P),(13,int h.P.length),(14,int i)],[(8002,.box 180 [int 0,int 0,u64 0]),(8001,.box 28 h.cells)],60⟩
def apgE(f:Finding):Tg:=⟨tm 64 [(2,.pt 8002 0 0)],[(8002,.box 180 [int f.fault,int f.page,u64 f.addr])],64⟩
section
variable (h:Heap) (i:Nat) (hw:WOk h.W) (hp:Z02 h=O) (hi:i<h.P.length)
include hw hp hi
theorem ZpD(e:Z2Y h i (Z2n h i)=0):idxW (clrP h i)=-1:=by
 by_cases hc:fstW (clrP h i)<(clrP h i).length
 .have h1:=ZfJ hp hi hc;have h2:=(Zei hp hi).1;omega
 .exact if_neg hc
theorem Znr(e:¬ Z2Y h i (Z2n h i)=0):0<=idxW (clrP h i)/\idxW (clrP h i)<=64/\Z2Y h i (Z2n h i)=(address h.C i 0).1+idxW (clrP h i):=by
 have po:=Z06 hp;by_cases hc:fstW (clrP h i)<(clrP h i).length
 .have h1:=ZfJ hp hi hc;have h2:idxW (clrP h i)=fstW (clrP h i):=if_pos hc;have h3:=Zc6 hp hi (o:=0) oq;have h4:=(ZbS hp hi).1;rw[h1,h2,h3];omega
 .exact absurd (ZoS hp hi hc) e
theorem Zgf(n1:(h.P.getD i M).K=0\/(h.P.getD i M).S=h.S)(n2:(Z09 h (i:Int)).2=0)(n3:Z16 h (i:Int) (Z09 h (i:Int)).1=0)(n4:Z2Y h i (Z2n h i)=0):CP (rndF f169 0) (apgL h i).st .nrm (apgL h (i+1)).st:=by
 have po:=Z06 hp;have hn:=Z33 h (i:Int);have hr:=Z2O hp (i:Int);have q3:=Z7v hp hi;rw[n3]at q3;have q4:=ZpD h i hw hp hi n4;simp only[ne_eq,not_true_eq_false,decide_false]at q3;rcases n1 with n1 | n1
 .exact sF [] [] (Fh 48 [.br La] (Fh 58 [.br La] (Ftb 15 (Lb ((i:Int)<(h.P.length:Int))) (Fek 17 Page.dv h.P (↑i) i (Ffb 28 ((h.P.getD i M).K != 0&&(h.P.getD i M).S != h.S) (Fc 34 (@Z3I h ((i:Int)) aa oq) (Ffb 38 ((Z09 h (i:Int)).2 != 0) (Fc 45 (@Z3P h ((i:Int)) ((Z09 h (i:Int)).1) aa oq oq oq aa) (Fa ‹Z21 h (i:Int) (Z09 h (i:Int)).1=La› (Fc 55 (@Z7k h i aa aa aa) (Fb (Lb (0<=idxW (clrP h i))=La) (Fx 62 i Fz))))))))))))
 .exact sF [] [] (Fh 48 [.br La] (Fh 58 [.br La] (Ftb 15 (Lb ((i:Int)<(h.P.length:Int))) (Fek 17 Page.dv h.P (↑i) i (Ffb 28 ((h.P.getD i M).K != 0&&(h.P.getD i M).S != h.S) (Fc 34 (@Z3I h ((i:Int)) aa oq) (Ffb 38 ((Z09 h (i:Int)).2 != 0) (Fc 45 (@Z3P h ((i:Int)) ((Z09 h (i:Int)).1) aa oq oq oq aa) (Fa ‹Z21 h (i:Int) (Z09 h (i:Int)).1=La› (Fc 55 (@Z7k h i aa aa aa) (Fb (Lb (0<=idxW (clrP h i))=La) (Fx 62 i Fz))))))))))))
theorem ZqF(n1:¬ (h.P.getD i M).K=0/\¬ (h.P.getD i M).S=h.S):CP (rndF f169 0) (apgL h i).st .ret (apgE ⟨2,i,0⟩).st:=by
 have po:=Z06 hp;obtain⟨n1,n2⟩:=n1;exact sF [] [] (Ftb 15 (Lb ((i:Int)<(h.P.length:Int))) (Fek 17 Page.dv h.P (↑i) i (Ftb 28 ((h.P.getD i M).K != 0&&(h.P.getD i M).S != h.S) Fz)))
theorem Zqs(n1:(h.P.getD i M).K=0\/(h.P.getD i M).S=h.S)(n2:¬ (Z09 h (i:Int)).2=0):CP (rndF f169 0) (apgL h i).st .ret (apgE ⟨3,i,0⟩).st:=by
 have po:=Z06 hp;rcases n1 with n1 | n1
 .exact sF [] [] (Ftb 15 (Lb ((i:Int)<(h.P.length:Int))) (Fek 17 Page.dv h.P (↑i) i (Ffb 28 ((h.P.getD i M).K != 0&&(h.P.getD i M).S != h.S) (Fc 34 (@Z3I h ((i:Int)) aa oq) (Ftb 38 ((Z09 h (i:Int)).2 != 0) Fz)))))
 .exact sF [] [] (Ftb 15 (Lb ((i:Int)<(h.P.length:Int))) (Fek 17 Page.dv h.P (↑i) i (Ffb 28 ((h.P.getD i M).K != 0&&(h.P.getD i M).S != h.S) (Fc 34 (@Z3I h ((i:Int)) aa oq) (Ftb 38 ((Z09 h (i:Int)).2 != 0) Fz)))))
theorem Zqw(n1:(h.P.getD i M).K=0\/(h.P.getD i M).S=h.S)(n2:(Z09 h (i:Int)).2=0)(n3:¬ Z16 h (i:Int) (Z09 h (i:Int)).1=0):CP (rndF f169 0) (apgL h i).st .ret (apgE ⟨5,i,Z16 h (i:Int) (Z09 h (i:Int)).1⟩).st:=by
 have po:=Z06 hp;have hn:=Z33 h (i:Int);have hr:=Z2O hp (i:Int);have q3:Z21 h i (Z09 h i).1=O:=by rw[Z7v hp hi];simpa using n3
 rcases n1 with n1 | n1
 .exact sF [] [] (Fh 48 [.br O] (Ftb 15 (Lb ((i:Int)<(h.P.length:Int))) (Fek 17 Page.dv h.P (↑i) i (Ffb 28 ((h.P.getD i M).K != 0&&(h.P.getD i M).S != h.S) (Fc 34 (@Z3I h ((i:Int)) aa oq) (Ffb 38 ((Z09 h (i:Int)).2 != 0) (Fc 45 (@Z3P h ((i:Int)) ((Z09 h (i:Int)).1) aa oq oq oq aa) (Fa ‹Z21 h (i:Int) (Z09 h (i:Int)).1=O› Fz))))))))
 .exact sF [] [] (Fh 48 [.br O] (Ftb 15 (Lb ((i:Int)<(h.P.length:Int))) (Fek 17 Page.dv h.P (↑i) i (Ffb 28 ((h.P.getD i M).K != 0&&(h.P.getD i M).S != h.S) (Fc 34 (@Z3I h ((i:Int)) aa oq) (Ffb 38 ((Z09 h (i:Int)).2 != 0) (Fc 45 (@Z3P h ((i:Int)) ((Z09 h (i:Int)).1) aa oq oq oq aa) (Fa ‹Z21 h (i:Int) (Z09 h (i:Int)).1=O› Fz))))))))
theorem Zqy(n1:(h.P.getD i M).K=0\/(h.P.getD i M).S=h.S)(n2:(Z09 h (i:Int)).2=0)(n3:Z16 h (i:Int) (Z09 h (i:Int)).1=0)(n4:¬ Z2Y h i (Z2n h i)=0):CP (rndF f169 0) (apgL h i).st .ret (apgE ⟨4,i,Z2Y h i (Z2n h i)⟩).st:=by
 have po:=Z06 hp;have hn:=Z33 h (i:Int);have hr:=Z2O hp (i:Int);have q3:=Z7v hp hi;rw[n3]at q3;simp only[ne_eq,not_true_eq_false,decide_false]at q3;obtain⟨q4,q5,q6⟩:=Znr h i hw hp hi n4;have q7:max (idxW (clrP h i)) 0=idxW (clrP h i):=by omega
 rw[q6];rcases n1 with n1 | n1
 .exact sF [] (fO 6) (Fh 48 [.br La] (Fh 58 [.br O] (Ftb 15 (Lb ((i:Int)<(h.P.length:Int))) (Fek 17 Page.dv h.P (↑i) i (Ffb 28 ((h.P.getD i M).K != 0&&(h.P.getD i M).S != h.S) (Fc 34 (@Z3I h ((i:Int)) aa oq) (Ffb 38 ((Z09 h (i:Int)).2 != 0) (Fc 45 (@Z3P h ((i:Int)) ((Z09 h (i:Int)).1) aa oq oq oq aa) (Fa ‹Z21 h (i:Int) (Z09 h (i:Int)).1=La› (Fc 55 (@Z7k h i aa aa aa) (Fb (Lb (0<=idxW (clrP h i))=O) (Fr (180:Int) (Fr (4:Int) (Fr (i:Int) (Fa (by rw[q7]:(address h.C (i:Int) 0).1+max (idxW (clrP h i)) 0=(Finding.mk 4 (i:Int) ((address h.C (i:Int) 0).1+idxW (clrP h i))).addr) Fz)))))))))))))))
 .exact sF [] (fO 6) (Fh 48 [.br La] (Fh 58 [.br O] (Ftb 15 (Lb ((i:Int)<(h.P.length:Int))) (Fek 17 Page.dv h.P (↑i) i (Ffb 28 ((h.P.getD i M).K != 0&&(h.P.getD i M).S != h.S) (Fc 34 (@Z3I h ((i:Int)) aa oq) (Ffb 38 ((Z09 h (i:Int)).2 != 0) (Fc 45 (@Z3P h ((i:Int)) ((Z09 h (i:Int)).1) aa oq oq oq aa) (Fa ‹Z21 h (i:Int) (Z09 h (i:Int)).1=La› (Fc 55 (@Z7k h i aa aa aa) (Fb (Lb (0<=idxW (clrP h i))=O) (Fr (180:Int) (Fr (4:Int) (Fr (i:Int) (Fa (by rw[q7]:(address h.C (i:Int) 0).1+max (idxW (clrP h i)) 0=(Finding.mk 4 (i:Int) ((address h.C (i:Int) 0).1+idxW (clrP h i))).addr) Fz)))))))))))))))
end
def Zqn(h:Heap):CP (rndF f169 0) (apgL h h.P.length).st (.ext 0) (apgE ⟨0,0,0⟩).st:=by
 exact sF [] [] (Ffb 15 (Lb ((h.P.length:Int)<(h.P.length:Int))) Fz)
def apgV(h:Heap):Finding:=match Z2T h with | some i=>pageF h i | none=>⟨0,0,0⟩
def Zgn{h:Heap}{i:Nat}(e:(pageF h i).fault=0):((h.P.getD i M).K=0\/(h.P.getD i M).S=h.S)/\(Z09 h (i:Int)).2=0/\Z16 h (i:Int) (Z09 h (i:Int)).1=0/\Z2Y h i (Z2n h i)=0:=by
 unfold pageF at e;split at e
 .simp at e
 .rename_i h1;split at e
  .simp at e
  .rename_i h2;split at e
   .simp at e
   .rename_i h3;split at e
    .simp at e
    .rename_i h4;refine⟨?_,Le.1 h2,Le.1 h3,Le.1 h4⟩;by_cases q:(h.P.getD i M).K=0
     .exact .inl q
     .refine .inr (Le.1 λq2=>h1 ⟨q,q2⟩)
def Zl7(h:Heap)(i:Nat)(hw:WOk h.W)(hp:Z02 h=O)(hi:i<h.P.length)(e:(pageF h i).fault≠0):CP (rndF f169 0) (apgL h i).st .ret (apgE (pageF h i)).st:=by
 unfold pageF at e ⊢;split
 .rename_i h1;exact ZqF h i hw hp hi h1
 .rename_i h1;have n1:(h.P.getD i M).K=0\/(h.P.getD i M).S=h.S:=by
   by_cases q:(h.P.getD i M).K=0
   .exact .inl q
   .exact .inr (Le.1 λq2=>h1 ⟨q,q2⟩)
  split
  .rename_i h2;exact Zqs h i hw hp hi n1 h2
  .rename_i h2;split
   .rename_i h3;exact Zqw h i hw hp hi n1 (Le.1 h2) h3
   .rename_i h3;split
    .rename_i h4;exact Zqy h i hw hp hi n1 (Le.1 h2) (Le.1 h3) h4
    .rename_i h4;rw[if_neg h1,if_neg h2,if_neg h3,if_neg h4]at e;exact absurd rfl e
def ZnU(h:Heap)(hw:WOk h.W)(hp:Z02 h=O)(hf:Z2T h=none):CP (blkF f169 0) (apgL h 0).st .nrm (Tg.st ⟨tm 64 [(2,.pt 8002 0 0)],[(8002,.box 180 [int 0,int 0,u64 0])],64⟩):=by
 refine Z0a (S:=λk=>(apgL h k).st) h.P.length kr (λk hk=>?_) (Zqn h);have e:=Li.1 hf k (Lg.2 hk);obtain⟨n1,n2,n3,n4⟩:=Zgn (h:=h) (i:=k) (by simpa using e);exact Zgf h k hw hp hk n1 n2 n3 n4
def ZlH(h:Heap)(i:Nat)(hw:WOk h.W)(hp:Z02 h=O)(hf:Z2T h=some i):CP (blkF f169 0) (Tg.st ⟨tm 64 [(1,.pt 8001 0 0),(2,.pt 8002 0 0),(12,Z0u h.P),(13,int h.P.length),(14,int 0)],[(8002,.box 180 [int 0,int 0,u64 0]),(8001,.box 28 h.cells)],60⟩) .ret (Tg.st ⟨tm 64 [(2,.pt 8002 0 0)],[(8002,.box 180 [int (pageF h i).fault,int (pageF h i).page,u64 (pageF h i).addr])],64⟩):=by
 obtain⟨h1,h2,h3⟩:=Lj.1 hf;have h2:=Lg.1 h2;refine Z0G (S:=λk=>(apgL h k).st) i kr (λk hk=>?_) (Zl7 h i hw hp h2 (by simpa using h1));have e:=h3 k hk;obtain⟨n1,n2,n3,n4⟩:=Zgn (h:=h) (i:=k) (by simpa using e);exact Zgf h k hw hp oq n1 n2 n3 n4
def Z5A(h:Heap)(hw:WOk h.W)(hp:Z02 h=O):GP 169 [h.av] O (apgV h).av []:=by
 have po:=Z06 hp;cases hf:Z2T h with
 | none =>
  have e7:apgV h=⟨0,0,0⟩:=by simp only[apgV,hf]
  rw[e7];exact gF [] func169 [] (Fl 13 Page.dv h.P (Fu (@ZnU h aa aa aa) Fz))
 | some i =>
  have e7:apgV h=pageF h i:=by simp only[apgV,hf]
  rw[e7];exact gF [] func169 [] (Fl 13 Page.dv h.P (Fu (@ZlH h i aa aa aa) Fz))
def ZbL(h:Heap)(hw:WOk h.W)(hp:Z02 h=La):GP 129 [h.av] O (Finding.av ⟨1,0,0⟩) []:=by
 exact gF [] func129 [] (Fc 9 (@Z0M h) (Ftb 10 (!Z02 h) Fz))
def Za6(h:Heap)(hw:WOk h.W)(hp:Z02 h=O)(i:Nat)(hb:Z2T h=some i):GP 129 [h.av] O (pageF h i).av []:=by
 have po:=Z06 hp;have e7:apgV h=pageF h i:=by simp only[apgV,hb]
 have h1:¬ (pageF h i).fault=0:=by simpa using (Lj.1 hb).1
 rw[<- e7]at h1 ⊢;exact gF [] func129 [] (Fc 9 (@Z0M h) (Ffb 10 (!Z02 h) (Fc 13 (@Z5A h aa aa) (Ftb 16 (!((apgV h).fault==0&&((apgV h).page==0&&(apgV h).addr==0))) Fz))))
def Zcj(h:Heap)(hw:WOk h.W)(hp:Z02 h=O)(hb:Z2T h=none)(hq:¬ (apW h).fault=0):GP 129 [h.av] O (apW h).av []:=by
 have po:=Z06 hp;have e7:apgV h=⟨0,0,0⟩:=by simp only[apgV,hb]
 have q1:(apgV h).fault=0:=by rw[e7]
 have q2:(apgV h).page=0:=by rw[e7]
 have q3:(apgV h).addr=0:=by rw[e7]
 exact gF [] func129 [] (Fc 9 (@Z0M h) (Ffb 10 (!Z02 h) (Fc 13 (@Z5A h aa aa) (Ffb 16 (!((apgV h).fault==0&&((apgV h).page==0&&(apgV h).addr==0))) (Fc 19 (@Z4K h aa oq) (Ftb 22 (!((apW h).fault==0&&((apW h).page==0&&(apW h).addr==0))) Fz))))))
def acrL(h:Heap)(i:Nat):Tg:=⟨tm 50 [(1,.pt 8001 0 0),(2,.pt 8002 0 0),(5,int (Z0x h.P i)),(25,Z0u h.P),(26,int h.P.length),(27,int i)],[(8002,.box 180 [int 0,int 0,u64 0]),(8001,.box 28 h.cells)],60⟩
def Zm7(h:Heap)(i:Nat)(hp:Z02 h=O)(hi:i<h.P.length):CP (rndF f129 0) (acrL h i).st .nrm (acrL h (i+1)).st:=by
 have po:=Z06 hp;have:=Z34 h.P i;by_cases h1:(h.P.getD i M).K=1
 .by_cases h2:0<(h.P.getD i M).N
  .have e:Z0x h.P (i+1)=Z0x h.P i+1:=by rw[Z0x,if_pos ⟨h1,h2⟩]
   rw[acrL,acrL,e];exact sF [] [] (Ftb 28 (Lb ((i:Int)<(h.P.length:Int))) (Fek 29 Page.dv h.P (↑i) i (Ftb 38 ((h.P.getD i M).K==1&&Lb (0<(h.P.getD i M).N)) (Fw 40 ((↑(Z0x h.P i):Int)+1) (↑(Z0x h.P i+1):Int) (Fx 41 i Fz)))))
  .have e:Z0x h.P (i+1)=Z0x h.P i:=by rw[Z0x,if_neg (λq=>h2 q.2)];rfl
   rw[acrL,acrL,e];exact sF [] [] (Ftb 28 (Lb ((i:Int)<(h.P.length:Int))) (Fek 29 Page.dv h.P (↑i) i (Ffb 38 ((h.P.getD i M).K==1&&Lb (0<(h.P.getD i M).N)) (Fx 41 i Fz))))
 .have e:Z0x h.P (i+1)=Z0x h.P i:=by rw[Z0x,if_neg (λq=>h1 q.1)];rfl
  rw[acrL,acrL,e];exact sF [] [] (Ftb 28 (Lb ((i:Int)<(h.P.length:Int))) (Fek 29 Page.dv h.P (↑i) i (Ffb 38 ((h.P.getD i M).K==1&&Lb (0<(h.P.getD i M).N)) (Fx 41 i Fz))))
def Zp5(h:Heap):CP (rndF f129 0) (acrL h h.P.length).st (.ext 0) (Tg.st ⟨tm 50 [(1,.pt 8001 0 0),(2,.pt 8002 0 0),(5,int (Z0x h.P h.P.length))],[(8002,.box 180 [int 0,int 0,u64 0]),(8001,.box 28 h.cells)],64⟩):=by
 exact sF [] [] (Ffb 28 (Lb ((h.P.length:Int)<(h.P.length:Int))) Fz)
def Zj4(h:Heap)(hp:Z02 h=O)  := Z0a (S:=λi=>(acrL h i).st) h.P.length (by kernel_rfl) (λi hi=>Zm7 h i hp hi) (Zp5 h)
def Z91(h:Heap)(hw:WOk h.W)(hp:Z02 h=O)(hb:Z2T h=none)(hq:(apW h).fault=0)(hc:h.C.pg/4<(Z0x h.P h.P.length:Nat)):GP 129 [h.av] O (Finding.av ⟨7,0,0⟩) []:=by
 have po:=Z06 hp;have cl:=Z34 h.P h.P.length;have e7:apgV h=⟨0,0,0⟩:=by simp only[apgV,hb]
 have q1:(apgV h).fault=0:=by rw[e7]
 have q2:(apgV h).page=0:=by rw[e7]
 have q3:(apgV h).addr=0:=by rw[e7]
 have e8:apW h=⟨0,0,0⟩:=by
  unfold apW at hq ⊢;split at hq
  .rename_i h1;rw[if_pos h1]
  .simp at hq
 have q4:(apW h).fault=0:=by rw[e8]
 have q5:(apW h).page=0:=by rw[e8]
 have q6:(apW h).addr=0:=by rw[e8]
 exact gF [] func129 [] (Fc 9 (@Z0M h) (Ffb 10 (!Z02 h) (Fc 13 (@Z5A h aa aa) (Ffb 16 (!((apgV h).fault==0&&((apgV h).page==0&&(apgV h).addr==0))) (Fc 19 (@Z4K h aa oq) (Ffb 22 (!((apW h).fault==0&&((apW h).page==0&&(apW h).addr==0))) (Fl 26 Page.dv h.P (Fu (@Zj4 h aa) (Fg 46 (by rw[Int.tdiv_eq_ediv_of_nonneg oq,wrapI' oq oq]:IntKind.i64.wrap (h.C.pg.tdiv 4)=h.C.pg/4) (Fa (by decide:(4:Int)≠0) (Ftb 47 (Lb (h.C.pg/4<(↑(Z0x h.P h.P.length):Int))) Fz)))))))))))
def Za2(h:Heap)(hw:WOk h.W)(hp:Z02 h=O)(hb:Z2T h=none)(hq:(apW h).fault=0)(hc:¬ h.C.pg/4<(Z0x h.P h.P.length:Nat)):GP 129 [h.av] O (Finding.av ⟨0,0,0⟩) []:=by
 have po:=Z06 hp;have cl:=Z34 h.P h.P.length;have e7:apgV h=⟨0,0,0⟩:=by simp only[apgV,hb]
 have q1:(apgV h).fault=0:=by rw[e7]
 have q2:(apgV h).page=0:=by rw[e7]
 have q3:(apgV h).addr=0:=by rw[e7]
 have e8:apW h=⟨0,0,0⟩:=by
  unfold apW at hq ⊢;split at hq
  .rename_i h1;rw[if_pos h1]
  .simp at hq
 have q4:(apW h).fault=0:=by rw[e8]
 have q5:(apW h).page=0:=by rw[e8]
 have q6:(apW h).addr=0:=by rw[e8]
 exact gF [] func129 [] (Fc 9 (@Z0M h) (Ffb 10 (!Z02 h) (Fc 13 (@Z5A h aa aa) (Ffb 16 (!((apgV h).fault==0&&((apgV h).page==0&&(apgV h).addr==0))) (Fc 19 (@Z4K h aa oq) (Ffb 22 (!((apW h).fault==0&&((apW h).page==0&&(apW h).addr==0))) (Fl 26 Page.dv h.P (Fu (@Zj4 h aa) (Fg 46 (by rw[Int.tdiv_eq_ediv_of_nonneg oq,wrapI' oq oq]:IntKind.i64.wrap (h.C.pg.tdiv 4)=h.C.pg/4) (Fa (by decide:(4:Int)≠0) (Ffb 47 (Lb (h.C.pg/4<(↑(Z0x h.P h.P.length):Int))) Fz)))))))))))
def Zho(h:Heap)(hw:WOk h.W):GP 129 [h.av] O (Z0D h).av []:=by
 have e7:=Zpa h;unfold Z0D;rw[<- e7];by_cases hp:Z02 h=O
 .rw[if_pos hp];cases hb:Z2T h with
  | some i=>exact Za6 h hw hp i hb
  | none =>
   by_cases hq:(apW h).fault=0
   .simp only[hq,ne_eq,not_true_eq_false,if_false];by_cases hc:h.C.pg/4<(Z0x h.P h.P.length:Nat)
    .rw[if_pos hc];exact Z91 h hw hp hb hq hc
    .rw[if_neg hc];exact Za2 h hw hp hb hq hc
   .simp only[ne_eq,hq,not_false_eq_true,if_true];exact Zcj h hw hp hb hq
 .rw[if_neg hp];exact ZbL h hw (by simpa using hp)
def ZqJ(h:Heap):((Z0D h).fault==0&&((Z0D h).page==0&&(Z0D h).addr==0))=Lb (Z0D h=⟨0,0,0⟩):=by
 cases Z0D h with
 | mk a b c=>by_cases h1:a=0<;>by_cases h2:b=0<;>by_cases h3:c=0<;>simp[h1,h2,h3]
def ZjH(h:Heap)(hw:WOk h.W):GP 78 [h.av] O (bool (Lb (Z0D h=⟨0,0,0⟩))) []:=by
 have e9:=ZqJ h;exact gF [] func78 [O] (Fc 4 (@Zho h aa) (Fa (by exact e9:((Z0D h).fault==0&&((Z0D h).page==0&&(Z0D h).addr==0))=Lb (Z0D h=Finding.mk 0 0 0)) Fz))
def Z9g{h:Heap}(hp:∀ i:Nat,i<h.P.length->(Z09 h (i:Int)).2=0):∀ (f i:Nat),i+f=h.P.length->(Z0P h f i).2=0
 | 0,_,_=>rfl
 | f+1,i,hf=>by
  have ih:=Z9g hp f (i+1) oq;unfold Z0P;rw[hp i oq,ih];rfl
def ZiQ{h:Heap}(hg:Z0D h=⟨0,0,0⟩):(Z05 h).2=0:=by
 have hp:Z02 h=O:=by
  by_cases q:Z02 h=O
  .exact q
  .rw[Z0D,if_neg q]at hg;cases hg
 rw[Z0D,if_pos hp]at hg;have hpf:∀ i,i<h.P.length->(pageF h i).fault=0:=by
  intro i hi;cases hb:Z2T h with
  | some j =>
   rw[hb]at hg;simp only at hg;have:=List.find?_some hb;rw[hg]at this;simp at this
  | none =>
   have:=Li.1 hb i (Lg.2 hi);simpa using this
 have hpg:∀ i:Nat,i<h.P.length->(Z09 h (i:Int)).2=0:=by
  intro i hi;have q:=hpf i hi;unfold pageF at q;split at q
  .simp at q
  .split at q
   .simp at q
   .rename_i c2;simpa using c2
 unfold Z05;rw[Z0X,if_pos hp];exact Z9g hpg h.P.length 0 oq
def evbB(h:Heap)(l:List Page):List (Nat×Blk):=[(8001,.box 28 [int h.C.pw,int h.C.pg,.ow 49027,.ow 49030,int h.S,int h.B]),(49030,.arr 84 4 (l.map Page.dv)),(49027,.arr 35 1 (h.W.map wdv)),(8002,.box 73 zW)]
def evbL(h:Heap)(all:List Int)(i:Nat):Tg:=⟨tm 61 [(1,.pt 8001 0 0),(2,.pt 8002 0 0),(3,int 0),(4,Z01 all),(34,.ow 49030),(35,int h.P.length),(36,int i)],evbB h (preM (begQ (1-h.S)) h.P i),8⟩
section
variable (h:Heap) (all:List Int) (hs:h.S=0\/h.S=1) (hl:h.P.length<=1048576)
include hs hl
theorem ZkW(i:Nat)(hi:i<h.P.length):CP (rndF f33 0) (evbL h all i).st .nrm (evbL h all (i+1)).st:=by
 have ha:=Z81 (begQ (1-h.S)) h.P (Nat.le_refl i) M;have hn:=Z4a (begQ (1-h.S)) h.P i;by_cases hc:(h.P.getD i M).K=1/\0<(h.P.getD i M).N
 .have hq:=Z7a (begQ (1-h.S)) h.P hi M;rw[show begQ (1-h.S) (h.P.getD i M)=⟨(h.P.getD i M).K,1-h.S,(h.P.getD i M).U,(h.P.getD i M).N⟩ by rw[begQ,if_pos hc],<- ha]at hq;rw[<- ha]at hc;have Q0 {h_ c_ p_} (r_:Fq h_ c_ p_):=Ftb 37 (Lb ((i:Int)<(h.P.length:Int))) (Fmq 40 Page.dv (preM (begQ (1-h.S)) h.P i) (↑i) r_);rcases bb (((preM (begQ (1-h.S)) h.P i).getD (i:Int).toNat M).K==1&&Lb (0<((preM (begQ (1-h.S)) h.P i).getD (i:Int).toNat M).N))with hc0 | hc0<;>have hc0p:=hc0<;>simp only[bs]at hc0p
  .obtain⟨hc0pa,hc0pb⟩:=hc0p;let y1:=preM (begQ (1-h.S)) h.P i;let y0:=y1.getD (i:Int).toNat M;exact sF [] (fO 11) (Q0 (Ft 48 hc0 (Fi 54 (1-h.S) (Fm0q Page.dv y1 (↑i) (FS 10056 Page.dv y1 ((i:Int).toNat) (Page.mk y0.K (1-h.S) y0.U y0.N) (y0.dv) (Fx 57 i (Fr (84:Int) (Fa (by refine congrArg _ ?_;exact hq:Ld Page.dv (y1.set (i:Int).toNat (Page.mk y0.K (1-h.S) y0.U y0.N))=Ld Page.dv (preM (begQ (1-h.S)) h.P (i+1))) Fz))))))))
  .exact sF [] (fO 11) (Q0 (Ff 48 hc0 (Fx 57 i (Fr (84:Int) (Fa (by refine congrArg _ ?_;grind[]:Ld Page.dv (preM (begQ (1-h.S)) h.P i)=Ld Page.dv (preM (begQ (1-h.S)) h.P (i+1))) Fz)))))
 .have hq:=Z8R (begQ (1-h.S)) h.P hi M (by rw[begQ,if_neg hc]);rw[<- ha]at hc;have Q1 {h_ c_ p_} (r_:Fq h_ c_ p_):=Ftb 37 (Lb ((i:Int)<(h.P.length:Int))) (Fmq 40 Page.dv (preM (begQ (1-h.S)) h.P i) (↑i) r_);rcases bb (((preM (begQ (1-h.S)) h.P i).getD (i:Int).toNat M).K==1&&Lb (0<((preM (begQ (1-h.S)) h.P i).getD (i:Int).toNat M).N))with hc0 | hc0<;>have hc0p:=hc0<;>simp only[bs]at hc0p
  .obtain⟨hc0pa,hc0pb⟩:=hc0p;let y3:=preM (begQ (1-h.S)) h.P i;let y2:=y3.getD (i:Int).toNat M;exact sF [] (fO 11) (Q1 (Ft 48 hc0 (Fi 54 (1-h.S) (Fm0q Page.dv y3 (↑i) (FS 10056 Page.dv y3 ((i:Int).toNat) (Page.mk y2.K (1-h.S) y2.U y2.N) (y2.dv) (Fx 57 i (Fr (84:Int) (Fa (by refine congrArg _ ?_;grind[]:Ld Page.dv (y3.set (i:Int).toNat (Page.mk y2.K (1-h.S) y2.U y2.N))=Ld Page.dv (preM (begQ (1-h.S)) h.P (i+1))) Fz))))))))
  .exact sF [] (fO 11) (Q1 (Ff 48 hc0 (Fx 57 i (Fr (84:Int) (Fa (by refine congrArg _ ?_;exact hq:Ld Page.dv (preM (begQ (1-h.S)) h.P i)=Ld Page.dv (preM (begQ (1-h.S)) h.P (i+1))) Fz)))))
omit hs hl in
theorem ZpX:CP (rndF f33 0) (evbL h all h.P.length).st (.ext 0) (Tg.st ⟨tm 61 [(1,.pt 8001 0 0),(2,.pt 8002 0 0),(3,int 0),(4,Z01 all)],evbB h (h.P.map (begQ (1-h.S))),8⟩):=by
 have hq:=Z89 (begQ (1-h.S)) h.P;have hn:=Z4a (begQ (1-h.S)) h.P h.P.length;exact sF [] (fO 5) (Ffb 37 (Lb ((h.P.length:Int)<(h.P.length:Int))) (Fr (84:Int) (Fa (by refine congrArg _ ?_;assumption:Ld Page.dv (preM (begQ (1-h.S)) h.P h.P.length)=Ld Page.dv (Ld (begQ (1-h.S)) h.P)) Fz)))
theorem Zou:CP (blkF f33 0) (Tg.st ⟨tm 61 [(1,.pt 8001 0 0),(2,.pt 8002 0 0),(3,int 0),(4,Z01 all),(34,.ow 49030),(35,int h.P.length),(36,int 0)],evbB h h.P,8⟩) .nrm (Tg.st ⟨tm 61 [(1,.pt 8001 0 0),(2,.pt 8002 0 0),(3,int 0),(4,Z01 all)],evbB h (h.P.map (begQ (1-h.S))),8⟩):=by
 have:=Z0a (S:=λk=>(evbL h all k).st) h.P.length kr (λk hk=>ZkW h all hs hl k hk) (ZpX h all);simp only[evbL,ZcU]at this;exact this
end
def Zfb(h:Heap)(hw:WOk h.W)(hp:Z02 h=O)(hg:Z0D h=⟨0,0,0⟩):GP 33 [h.av] La (.tu [(beginW h).av,int 0]) []:=by
 have po:=Z06 hp;have ho:=Z2W h;have g:=ZiQ hg;have hne:h.P≠[]:=Z8n oq;exact gF [] func33 [] (Fc 9 (@Z0M h) (Ffb 10 (!Z02 h) (Fc 13 (@ZjH h aa) (Ffb 14 (!decide (Z0D h=Finding.mk 0 0 0)) (Fc 18 (@Z67 h aa) (Ffb 22 ((Z05 h).2 != 0) (Fc 27 (@Z4R h.W oq) (Fc 30 (@Z6c h.P oq aa) (Fl 35 Page.dv h.P (Fu (@Zou h ((Z05 h).1) oq oq) (Fnl (Fnl Fz))))))))))))
def Z9A{ρ:Rho}{w:World}{Im:Nat->Prop}{v:Value}(s:Nat)(h:Rel ρ w Im (.d (.sl 0 [])) v):Rel ρ w Im (.d (.sl s [])) v:=by
 cases h with
 | d h =>
  cases h with
  | slNil=>exact .d (.slNil _ _ _)
  | sl _ _ p n c f hn=>cases hn;exact .d (.slNil _ _ _)
def hA10:Heap:=⟨⟨32,8⟩,Lc 256 0,Lc 8 ⟨0,0,0,0⟩,0,-1⟩
def hB10:Heap:=⟨⟨32,8⟩,(Lc 256 0).set 0 29,[⟨1,0,2,0⟩,⟨0,0,0,0⟩,⟨0,0,0,0⟩,⟨0,0,0,0⟩,⟨0,0,0,0⟩,⟨0,0,0,0⟩,⟨0,0,0,0⟩,⟨0,0,0,0⟩],0,0⟩
def Zgs:Z0g []=⟨hA10,[],[]⟩:=by kernel_rfl
def ZnG:(⟨hA10,[],[]⟩:WorldM).put ⟨3,1,0⟩=⟨hB10,[4096],[]⟩:=by kernel_rfl
def ZfI:Z02 hB10=O:=by decide+kernel
def Zox:Z0D hB10=⟨0,0,0⟩:=by decide+kernel
def ZhM:WOk hB10.W:=by unfold WOk;decide+kernel
def wB0:Work:=(⟨⟨⟨32,8⟩,(Lc 256 0).set 0 29,[⟨1,0,2,0⟩,⟨0,0,0,0⟩,⟨0,0,0,0⟩,⟨0,0,0,0⟩,⟨0,0,0,0⟩,⟨0,0,0,0⟩,⟨0,0,0,0⟩,⟨0,0,0,0⟩],0,0⟩,[4096],[],[],0,⟨0,0,0,0,0,0⟩⟩:Work)
def wB1:Work:=(⟨⟨⟨32,8⟩,((Lc 256 0).set 0 16514).set 32 29,[⟨1,0,2,0⟩,⟨1,1,2,0⟩,⟨0,0,0,0⟩,⟨0,0,0,0⟩,⟨0,0,0,0⟩,⟨0,0,0,0⟩,⟨0,0,0,0⟩,⟨0,0,0,0⟩],0,0⟩,[4096],[1],[4128],0,⟨1,0,0,0,0,0⟩⟩:Work)
def ZhI:beginW hB10=wB0:=by kernel_rfl
def ZmY:wB0.fwd 4096=(wB1,4128,0):=by kernel_rfl
def Zpk:WkOk wB0:=ZhI▸Z37 ZhM ZfI
def Zqz:WkOk wB1:=by
 have k:=(fwd_ok Zpk 4096 (by rw[ZmY])).1;rw[ZmY]at k;exact k
def ok_B0:FwOk wB0 4096:=⟨⟨Zpk,by unfold SpOk;decide+kernel,by decide+kernel⟩,by decide,by decide+kernel,by decide+kernel,by decide+kernel⟩
def ok_B1:FwOk wB1 4096:=⟨⟨Zqz,by unfold SpOk;decide+kernel,by decide+kernel⟩,by decide,by decide+kernel,by decide+kernel,by decide+kernel⟩
def ZoL:GP 15 [.d (.sl 0 [])] La (⟨(⟨⟨32,8⟩,Lc 256 0,Lc 8 ⟨0,0,0,0⟩,0,-1⟩:Heap),[],[]⟩:WorldM).av []:=by
 have k:=Zbd [] pq;rw[Zgs]at k;intro w Im vs hIm hsz h;refine k w Im vs hIm hsz λi x v hx hv=>?_;rcases i with _ | i
 .cases hx;exact Z9A 1 (h 0 _ v rfl hv)
 .simp at hx
def Zqk:GP 62 [.ag [int 32,int 8,.d (.sl 1 ((Lc 256 0).map wdv)),.d (.sl 4 ((Lc 8 (⟨0,0,0,0⟩:Page)).map Page.dv)),int 0,int (-1),.d (.sl 0 []),.d (.sl 0 [])],.ag [int 3,int 1,.d (.sc (.int .u32 0))]] La (⟨(⟨⟨32,8⟩,(Lc 256 0).set 0 29,[⟨1,0,2,0⟩,⟨0,0,0,0⟩,⟨0,0,0,0⟩,⟨0,0,0,0⟩,⟨0,0,0,0⟩,⟨0,0,0,0⟩,⟨0,0,0,0⟩,⟨0,0,0,0⟩],0,0⟩:Heap),[4096],[]⟩:WorldM).av []:=by
 have hm:=Zfs [];rw[Zgs]at hm;have k:=Z6w ⟨hA10,[],[]⟩ ⟨3,1,0⟩ (hm.wm dd) dd;rw[ZnG]at k;intro w Im vs hIm hsz h;refine k w Im vs hIm hsz λi x v hx hv=>?_;rcases i with _ | _ | i
 .cases hx;obtain⟨cs,rfl,h2,h3,h4⟩:=Z3y (h 0 _ v rfl hv);refine .ag _ _ h2 h3 (λi a u ha hu=>?_);rcases i with _ | _ | _ | _ | _ | _ | _ | _ | i
  .cases ha;exact h4 0 _ u rfl hu
  .cases ha;exact h4 1 _ u rfl hu
  .cases ha;exact h4 2 _ u rfl hu
  .cases ha;exact h4 3 _ u rfl hu
  .cases ha;exact h4 4 _ u rfl hu
  .cases ha;exact h4 5 _ u rfl hu
  .cases ha;exact Z9A 1 (h4 6 _ u rfl hu)
  .cases ha;exact Z9A 1 (h4 7 _ u rfl hu)
  .cases (show(none:Option AV)=some a from ha)
 .cases hx;exact h 1 _ v rfl hv
 .simp at hx
def Zp3:GP 33 [(⟨⟨32,8⟩,(Lc 256 0).set 0 29,[⟨1,0,2,0⟩,⟨0,0,0,0⟩,⟨0,0,0,0⟩,⟨0,0,0,0⟩,⟨0,0,0,0⟩,⟨0,0,0,0⟩,⟨0,0,0,0⟩,⟨0,0,0,0⟩],0,0⟩:Heap).av] La (.tu [(⟨⟨⟨32,8⟩,(Lc 256 0).set 0 29,[⟨1,0,2,0⟩,⟨0,0,0,0⟩,⟨0,0,0,0⟩,⟨0,0,0,0⟩,⟨0,0,0,0⟩,⟨0,0,0,0⟩,⟨0,0,0,0⟩,⟨0,0,0,0⟩],0,0⟩,[4096],[],[],0,⟨0,0,0,0,0,0⟩⟩:Work).av,int 0]) []:=by
 have k:=Zfb hB10 ZhM ZfI Zox;rw[ZhI]at k;exact k
def wB2:Work:=(⟨⟨⟨32,8⟩,((Lc 256 0).set 0 16514).set 32 29,[⟨1,0,2,0⟩,⟨1,1,2,0⟩,⟨0,0,0,0⟩,⟨0,0,0,0⟩,⟨0,0,0,0⟩,⟨0,0,0,0⟩,⟨0,0,0,0⟩,⟨0,0,0,0⟩],0,0⟩,[4096],[1],[4128],1,⟨1,0,0,0,0,1⟩⟩:Work)
def Zom:rootsF wB0 [4096]=(wB1,[4128],0):=by kernel_rfl
def Zp9:Z0B wB1=(wB2,O,0):=by kernel_rfl
def Zqx:ZlP wB0 [4096]:=λk hk _=>by
 have:k=0:=by simpa using hk
 subst this;exact ok_B0
def ZqC:Z3e wB1:=⟨ok_B1.ck,by decide,by decide+kernel,by decide+kernel,λ_=>by
 rw[show Z0r wB1=[] by kernel_rfl];exact⟨λk hk=>absurd hk (Nat.not_lt_zero k),λk hk _=>by rw[Nat.le_zero.1 hk];rfl,λk hk=>absurd hk (Nat.not_lt_zero k)⟩⟩
def Zpt:GP 46 [(⟨⟨⟨32,8⟩,(Lc 256 0).set 0 29,[⟨1,0,2,0⟩,⟨0,0,0,0⟩,⟨0,0,0,0⟩,⟨0,0,0,0⟩,⟨0,0,0,0⟩,⟨0,0,0,0⟩,⟨0,0,0,0⟩,⟨0,0,0,0⟩],0,0⟩,[4096],[],[],0,⟨0,0,0,0,0,0⟩⟩:Work).av,.d (.sl 1 ([4096].map wdv))] O (.tu [(⟨⟨⟨32,8⟩,((Lc 256 0).set 0 16514).set 32 29,[⟨1,0,2,0⟩,⟨1,1,2,0⟩,⟨0,0,0,0⟩,⟨0,0,0,0⟩,⟨0,0,0,0⟩,⟨0,0,0,0⟩,⟨0,0,0,0⟩,⟨0,0,0,0⟩],0,0⟩,[4096],[1],[4128],0,⟨1,0,0,0,0,0⟩⟩:Work).av,.d (.sl 1 ([4128].map wdv)),int 0]) []:=by
 have k:=Z8L wB0 [4096] Zqx dd ok_B0.ck.ln;rw[Zom]at k;exact k
def Zqt:GP 49 [(⟨⟨⟨32,8⟩,((Lc 256 0).set 0 16514).set 32 29,[⟨1,0,2,0⟩,⟨1,1,2,0⟩,⟨0,0,0,0⟩,⟨0,0,0,0⟩,⟨0,0,0,0⟩,⟨0,0,0,0⟩,⟨0,0,0,0⟩,⟨0,0,0,0⟩],0,0⟩,[4096],[1],[4128],0,⟨1,0,0,0,0,0⟩⟩:Work).av] O (.tu [(⟨⟨⟨32,8⟩,((Lc 256 0).set 0 16514).set 32 29,[⟨1,0,2,0⟩,⟨1,1,2,0⟩,⟨0,0,0,0⟩,⟨0,0,0,0⟩,⟨0,0,0,0⟩,⟨0,0,0,0⟩,⟨0,0,0,0⟩,⟨0,0,0,0⟩],0,0⟩,[4096],[1],[4128],1,⟨1,0,0,0,0,1⟩⟩:Work).av,bool O,int 0]) []:=by
 have k:=ZkR wB1 ZqC;rw[Zp9]at k;exact k
def Zhj:GP 51 [] O (bool O) []:=by
 exact gF [] func51 [] (Fc 8 (@ZoL) (Fc 12 (@Zqk) (Fc 16 (@Zp3) (Fc 23 (@Zpt) (Fc 29 (@Zqt) Fz)))))
def ZaT(h:Heap)(hw:WOk h.W)(hp:Z02 h=O)(hg:Z0D h=⟨0,0,0⟩):GP 33 [h.av] La (.tu [(beginW h).av,int 0]) []:=Zfb h hw hp hg
def doL(q:WorldM)(x:Work)(l:List Int)(i:Nat):Tg:=⟨tm 168 [(2,bool La),(3,.pt 16003 0 0),(6,Z01 l),(8,.pt 40008 0 0),(10,int i)],[(40008,.box 73 x.cells),(16003,.box 30 q.cells)],8⟩
def dnL(q:WorldM)(x:Work)(l:List Int)(i:Nat)(a:Int)(hd:Header)(k:Nat):Tg:=⟨tm 168 [(2,bool La),(3,.pt 16003 0 0),(6,Z01 l),(8,.pt 40008 0 0),(10,int i),(11,int a),(12,.pt 88012 0 0),(14,int k)],[(88012,.box 52 [int hd.K,int hd.length,u32 hd.map]),(40008,.box 73 x.cells),(16003,.box 30 q.cells)],14⟩
section
variable (q:WorldM) (x:Work) (l:List Int) (i:Nat) (a:Int) (hd:Header) (ok:WOk x.heap.W) (hx:x.heap.W.length<=4096) (hq:x.Q.length<=1048576) (hl:0<=hd.length/\hd.length<=255) (hm:0<=hd.map/\hd.map<=4294967295) (ha:0<=a/\a+hd.length<x.heap.W.length)
include ok hx hq hl hm ha
theorem Zo0(k:Nat)(hk:(k:Int)<hd.length)(h0:(Z0d hd k&&x.heap.W.getD (a+1+k).toNat M != 0&&!decide (x.heap.W.getD (a+1+k).toNat M∈x.Q))=La):CP (rndF f13 2) (dnL q x l i a hd k).st .nrm (dnL q x l i a hd (k+1)).st:=by
 have hv:=ZeY ok (a+1+k).toNat
 let y0:=a+1+(k:Int);exact sF [] [] (Ftb 106 (Lb ((k:Int)<hd.length)) (Fi 113 (a+1) (Fi 115 y0 (Fe 116 wdv x.heap.W y0 (Fc 120 (@Z23 hd ((k:Int)) aa) (FcG 129 (Z0d hd (k:Int)&&x.heap.W.getD y0.toNat M != 0) (λhg=>by(try simp only[bs]at hg);exact @Z15 x.Q (x.heap.W.getD y0.toNat M) aa) (Ff 131 ‹(Z0d hd (k:Int)&&x.heap.W.getD y0.toNat M != 0&&!decide (x.heap.W.getD y0.toNat M∈x.Q))=La› (Fx 108 k Fz))))))))
theorem ZqH:CP (rndF f13 2) (dnL q x l i a hd hd.length.toNat).st (.ext 2) (Tg.st ⟨tm 168 [(2,bool La),(3,.pt 16003 0 0),(6,Z01 l),(8,.pt 40008 0 0),(10,int i)],[(40008,.box 73 x.cells),(16003,.box 30 q.cells)],14⟩):=by
 have hn:((hd.length.toNat:Nat):Int)=hd.length:=by omega
 exact sF [] [] (Ffb 106 (Lb ((hd.length.toNat:Int)<hd.length)) Fz)
def Zp4(h0:∀ k:Nat,(k:Int)<hd.length->(Z0d hd k&&x.heap.W.getD (a+1+k).toNat M != 0&&!decide (x.heap.W.getD (a+1+k).toNat M∈x.Q))=La)  := Z0a (S:=λk=>(dnL q x l i a hd k).st) hd.length.toNat (by kernel_rfl) (λk hk=>Zo0 q x l i a hd ok hx hq hl hm ha k (by omega) (h0 k (by omega))) (ZqH q x l i a hd ok hx hq hl hm ha)
end
section
variable (q:WorldM) (x:Work) (l:List Int) (D:DoneF x q.G l) (ok:WkOk x) (hx:x.heap.W.length<=4096) (hq:x.Q.length<=1048576)
include D ok hx hq
theorem ZoV(i:Nat)(hi:i<x.Q.length):CP (rndF f13 0) (doL q x l i).st .nrm (doL q x l (i+1)).st:=by
 have hm:=getD_mem_iff.2 ⟨i,hi,rfl⟩;have d:=D.q _ hm;have lr:=Z0e x.heap.W (x.Q.getD i M);have ld:=Z0z ok.W (x.Q.getD i M);have hmm:=Z1i (loadA x.heap.W (x.Q.getD i M)).1 ld.1;have el:(loadA x.heap.W (x.Q.getD i M)).1=x.heap.W.getD (x.Q.getD i M-4096).toNat M:=by
  unfold loadA;rw[if_pos oq];rfl
 unfold hlA at d lr;rw[el]at d lr ld hmm;obtain⟨d1,d2,d3⟩:=d;have hz:(!(decodeH (x.heap.W.getD (x.Q.getD i M-4096).toNat M)).2||Lb ((x.heap.W.length:Int)<=x.Q.getD i M-4096+(decodeH (x.heap.W.getD (x.Q.getD i M-4096).toNat M)).1.length))=La:=by
  rw[d3,Lf,Bool.false_or,decide_eq_false_iff_not];omega
 have ok':=ok.W;have hf:∀ k:Nat,(k:Int)<(decodeH (x.heap.W.getD (x.Q.getD i M-4096).toNat M)).1.length->(Z0d (decodeH (x.heap.W.getD (x.Q.getD i M-4096).toNat M)).1 k&&x.heap.W.getD (x.Q.getD i M-4096+1+k).toNat M != 0&&!decide (x.heap.W.getD (x.Q.getD i M-4096+1+k).toNat M∈x.Q))=La:=λk hk=>by
  have f:=D.f _ hm k oq;unfold hlA hdA ToOk at f;rw[el,show(loadA x.heap.W (x.Q.getD i M+1+(k:Int))).1=x.heap.W.getD (x.Q.getD i M-4096+1+k).toNat M by
   unfold loadA;rw[if_pos oq,show x.Q.getD i M+1+(k:Int)-4096=x.Q.getD i M-4096+1+k by omega];rfl]at f
  have f:=f hk;cases hp:Z0d (decodeH (x.heap.W.getD (x.Q.getD i M-4096).toNat M)).1 k with
  | false=>rfl
  | true =>
   rcases f hp with f | f
   .rw[f];simp
   .rw[decide_eq_true f,Lf,Lh]
 let y1:=x.Q.getD i M-4096;let y0:=x.heap.W.getD y1.toNat M;exact sF [] [] (FN 59 60 66 wdv x.Q i (Fi 68 (x.Q.getD i M) (Fi 69 y1 (FlG 77 (!decide (x.Q.getD i M-(4096:Int)<0)) wdv x.heap.W (Ffb 79 (Lb (x.Q.getD i M-(4096:Int)<0)||Lb ((x.heap.W.length:Int)<=x.Q.getD i M-4096)) (Fe 85 wdv x.heap.W y1 (Fc 87 (@Z2R y0 oq oq) (FiG 96 (!!(decodeH y0).2) (x.Q.getD i M-4096+(decodeH y0).1.length) (FlG 100 (!!(decodeH y0).2) wdv x.heap.W (Ff 102 ‹(!(decodeH y0).2||Lb ((x.heap.W.length:Int)<=x.Q.getD i M-4096+(decodeH y0).1.length))=La› (Fu (@Zp4 q x l i y1 ((decodeH y0).1) aa aa aa aa aa oq aa) (Fx 62 i Fz))))))))))))
theorem Zqu:CP (rndF f13 0) (doL q x l x.Q.length).st (.ext 0) (Tg.st ⟨tm 168 [(2,bool La),(3,.pt 16003 0 0),(6,Z01 l),(8,.pt 40008 0 0)],[(40008,.box 73 x.cells),(16003,.box 30 q.cells)],8⟩):=by
 exact sF [] [] (FO 59 60 wdv x.Q Fz)
def Zqf  := Z0a (S:=λk=>(doL q x l k).st) x.Q.length (by kernel_rfl) (λk hk=>ZoV q x l D ok hx hq k hk) (Zqu q x l D ok hx hq)
def drL(q:WorldM)(x:Work)(l:List Int)(i:Nat):Tg:=⟨tm 168 [(2,bool La),(3,.pt 16003 0 0),(6,Z01 l),(8,.pt 40008 0 0),(16,int i)],[(40008,.box 73 x.cells),(16003,.box 30 q.cells)],9⟩
theorem ZnZ(i:Nat)(hi:i<l.length)(hl:l.length<=1048576):CP (rndF f13 4) (drL q x l i).st .nrm (drL q x l (i+1)).st:=by
 have hn:=D.n;obtain⟨t,z⟩:=D.r i oq;have hr:0<=l.getD i M/\l.getD i M<=18446744073709551615:=by
  rcases t with t | t
  .omega
  .have:=D.q _ t;have:=Z0e x.heap.W (l.getD i M);omega
 have hz:(l.getD i M != 0&&!decide (l.getD i M∈x.Q)||!((l.getD i M==0)==(q.G.getD i M==0)))=La:=by
  have e2:(l.getD i M==0)=(q.G.getD i M==0):=by rw[Bool.eq_iff_iff,beq_iff_eq,beq_iff_eq];exact z
  rw[e2,beq_self_eq_true,Lf,Bool.or_false];rcases t with t | t
  .rw[t];rfl
  .rw[decide_eq_true t,Lf,Lh]
 let y0:=!(l.getD i M != 0&&!decide (l.getD i M∈x.Q));exact sF [] [] (FN 134 135 140 wdv l i (FeG 148 (l.getD i M != 0) wdv l (↑i) i (FcG 150 (l.getD i M != 0) (λhg=>by(try simp only[bs]at hg);exact @Z15 x.Q (l.getD i M) aa) (FeG 156 y0 wdv l (↑i) i (FeG 162 y0 wdv q.G (↑i) i (Ff 166 ‹(l.getD i M != 0&&!decide (l.getD i M∈x.Q)||!(l.getD i M==0)==(q.G.getD i M==0))=La› (Fx 137 i Fz)))))))
omit D ok hx hq in
theorem ZqI:CP (rndF f13 4) (drL q x l l.length).st (.ext 4) (Tg.st ⟨tm 168 [(2,bool La)],[],9⟩):=by
 exact sF [] [] (FO 134 135 wdv l Fz)
def Zq8(hl:l.length<=1048576)  := Z0a (S:=λk=>(drL q x l k).st) l.length (by kernel_rfl) (λk hk=>ZnZ q x l D ok hx hq k hk hl) (ZqI q x l)
end
def Zni(tape:List Int)(h1:tape.length<=140737488355328):GP 13 [Z0q tape] O (bool O) []:=by
 have hm:=Zfs tape;have hw:=hm.W;have hss:=hm.G;have hsl:=hm.sl;obtain⟨T,g,gs,_⟩:=Zgh tape;have mv:=ZlD tape;have hg:=(ZgR tape).1;have hp:=g.p;have D:=Zp1 g mv gs (B:=1000) oq hw (λp hq=>by
  obtain⟨i,hi,rfl⟩:=List.getElem_of_mem hq;have:=(hm.N i hi).2;rw[List.getD_eq_getElem?_getD,List.getElem?_eq_getElem hi]at this;exact this)
 obtain⟨e1,sw⟩:=SW.roots g mv gs hw;have e2:=(sw.all g mv).1;have c0:Col (Z0g tape).heap T (beginW (Z0g tape).heap):=Col.begin g hw;have r2:ZlP (beginW (Z0g tape).heap) (Z0g tape).G:=c0.rts g hss;have ln0:=c0.ck.ln;have wk1:=sw.o.c.ok;have ln1:=sw.o.c.ck.ln;have R:AllS (rootsF (beginW (Z0g tape).heap) (Z0g tape).G).1:=λk _=>⟨(sw.it g mv k).o.c.stp g,((sw.it g mv k).step g mv).1⟩
 have e3:(rootsF (beginW (Z0g tape).heap) (Z0g tape).G).2.2=0:=by rw[e1]
 obtain⟨a1,a2,a3,a4,a5⟩:=ln1;have sa:=(sw.all g mv).2;obtain⟨b1,b2,b3,b4,b5⟩:=sa.o.c.ck.ln;have ax:=sa.o.c.ok;have hx:(allF (rootsF (beginW (Z0g tape).heap) (Z0g tape).G).1).1.heap.W.length<=4096:=by
  obtain⟨_,ka⟩:=sa.o.c.k;have:=area hm.hv;have:=hm.L;rw[ka.wl];omega
 have D:DoneF (allF (rootsF (beginW (Z0g tape).heap) (Z0g tape).G).1).1 (Z0g tape).G (rootsF (beginW (Z0g tape).heap) (Z0g tape).G).2.1:=D;have Dn:=D.n;let y0:=rootsF (beginW (Z0g tape).heap) (Z0g tape).G;have Q0 {h_ c_ p_} (r_:Fq h_ c_ p_):=Fc 18 (@Zbd tape oq) (Fc 22 (@ZaT ((Z0g tape).heap) aa oq oq) (Fc 29 (@Z8L (beginW (Z0g tape).heap) ((Z0g tape).G) aa oq aa) (Fc 35 (@scanAll (y0.1) oq aa) (FlG 50 (!((0:Int) != 0||y0.2.2 != 0||(0:Int) != 0)) wdv y0.2.1 (FlG 53 (!((0:Int) != 0||y0.2.2 != 0||(0:Int) != 0)) wdv (Z0g tape).G r_)))));rcases bb ((rootsF (beginW (Z0g tape).heap) (Z0g tape).G).2.2 != 0||La||(↑(rootsF (beginW (Z0g tape).heap) (Z0g tape).G).2.1.length:Int) != (↑(Z0g tape).G.length:Int))with hc0 | hc0<;>have hc0p:=hc0<;>simp only[bs]at hc0p
 .exact gF [] func13 (fO 10) (Q0 (Ft 55 hc0 (Fa (by grind[]:La=O) Fz)))
 .obtain⟨⟨hc0paa,hc0pab⟩,hc0pb⟩:=hc0p;exact gF [] func13 [] (Q0 (Ff 55 hc0 (Fu (@Zqf (Z0g tape) ((allF y0.1).1) (y0.2.1) aa aa aa oq) (Fu (@Zq8 (Z0g tape) ((allF y0.1).1) (y0.2.1) aa aa aa oq oq) (Fc 167 (@Zhj) Fz)))))
end Go.Proofs.YtdhchmlalchgeaaGreat
namespace Go.Proofs.YtdhchmlalchgeaaGreat
open Go.Sx Go.RowKit
def Z8v(os:Os)(started:os.Started)(H:Type)(enc:TypeId×Value->H) :
  ReturnsInHanded {} Tryz.checked os 13 .any (Rows.scanDoneSpec.pre6 enc prog f13 Rows.scanDoneRow.domain La) (Rows.scanDoneSpec.post enc prog f13 La O La La):=by
 refine ZcE (C:=Tryz.checked) (tb:=4) 5 own0 started kr func13
  (ChangeSpec.witness6 (enc:=enc) (C:=Tryz.checked) La ⟨#[],#[.slice none 0 0],[]⟩ 8 kr kr kr kr)
  Zl8 kr kr kr kr rfl (λds hd=>?_) (λls hl h=>?_)
 .match ds,hd with
  | [a0],_=>rfl
 .match ls,hl with
  | [l0],_ =>
   obtain⟨tape,rfl,htape⟩:=ZlF (n:=3) (h 0 22 l0 kr rfl);have e:Zc8 prog Tryz.f13.params.toList [[.sl 1 (tape.map idv)]]=[Z0q tape]:=by kernel_rfl
   exact⟨O,e▸Zni tape htape⟩
def Zf3:(Rows.scanDoneRow.inPlace==Tryz.prog.inPlace 13)=O:=by kernel_rfl
def Zej:(Rows.scanDoneRow.unfollowed==Tryz.prog.unfollowed 13)=O:=by kernel_rfl
def Zez:(Rows.scanDoneRow.recurses==Tryz.prog.recurses 13)=O:=by kernel_rfl
def ZdV:(Rows.scanDoneRow.named==Tryz.prog.varsNamed 13)=O:=by kernel_rfl
def Z8r:joinedFacts prog 13 f13 Rows.scanDoneSpec Rows.scanDoneRow=O:=by
 unfold joinedFacts;rw[Zf3,Zej,Zez,ZdV];kernel_rfl
theorem scanDone_holds:Rows.ScanDoneSaid :=
 OpenClaim.holds_of_wide 13 f13 rfl rfl rfl rfl rfl rfl rfl ⟨rfl,rfl,rfl,rfl,rfl⟩ rfl rfl rfl rfl rfl kr func13 Z8r
  (of_decide_eq_true kr) (by unfold Func.isWrapper;first | (rw[if_pos (by decide+kernel)];kernel_rfl) | (rw[if_neg (by decide+kernel)];exact⟨rfl,rfl⟩))
  (λos started H enc _=>Z8v os started H enc)
end Go.Proofs.YtdhchmlalchgeaaGreat
