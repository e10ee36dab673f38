/-
 The statement BoundRequests: part 6.
 Conditions: none.
-/
import Derived.IntWalk
import Derived.Test.YtkmnngahjnkdmaaGreatRows
import Derived.Test.YtkmnngahjnkdmaaGreatE5
set_option maxRecDepth 100000
set_option maxHeartbeats 2000000
set_option linter.all false
open Bool renaming true->X,false->Z,eq_iff_iff->Lh
open Decidable renaming decide->Y
open Go.IntKind renaming i64->M,u64->Lc
open List renaming map->L,replicate->Lb,getElem?_eq_some_iff->Lj
open Go.Lit renaming int->O
open Int renaming mul_le_mul_of_nonneg_right->La,mul_comm->Ld,ediv_le_self->Le,ediv_nonneg->Lf,mul_nonneg->Lg,add_mul->Li
open Go.Proofs.Tryz
namespace Go.Proofs.YtkmnngahjnkdmaaGreat
open Go.Sx
abbrev GP:=GSpec prog
abbrev LP:=LentSpec prog
abbrev BP:=BorSpec prog
abbrev CP:=CSpec prog
structure ZU where
 pw:Int
 pg:Int
 deriving DecidableEq,Inhabited
def ZU.av(c:ZU):AV:=.ag [nI c.pw,nI c.pg]
def Zm(c:ZU):Bool:=Y (16<=c.pw)&&Y (c.pw<=64)&&(c.pw.tmod 4==0)&&Y (8<=c.pg)&&Y (c.pg<=64)
def BR{c:ZU}:Zm c=X↔16<=c.pw/\c.pw<=64/\c.pw.tmod 4=0/\8<=c.pg/\c.pg<=64:=by simp[Zm,and_assoc]
def ZY(c:ZU):Int:=if Zm c=X then c.pg.tdiv 4 else 0
def Z6(c:ZU):Int:=if Zm c=X then c.pw.tdiv 4 else 0
theorem C5{n:Int}(a:-9223372036854775808<=n)(b:n<=9223372036854775807):M.wrap n=n:=IntWalk.i64_in n ⟨a,b⟩
def H5{a b:Int}(h:0<=a):a.tdiv b=a/b:=Int.tdiv_eq_ediv_of_nonneg h
def Z7j{a b:Int}(h:0<=a):a.tmod b=a%b:=Int.tmod_eq_emod_of_nonneg h
def EZ(c:ZU):GP 51 [c.av] X (bL (Zm c)) []:=by refine Zb [] [] [] dd func51 [] (φ:=(Y ((16:Int)<=c.pw)&&Y (c.pw<=(64:Int)))=X->(4:Int)=(0:Int)->False) ?_ kr kr;intro _ ;decide
def GM(c:ZU):GP 58 [c.av] X (bL (Zm c)) []:=by refine Zb [] [] [] dd func58 [] (φ:=(Y ((16:Int)<=c.pw)&&Y (c.pw<=(64:Int)))=X->(4:Int)=(0:Int)->False) ?_ kr kr;intro _ ;decide
def IG(c:ZU):GP 54 [c.av] X (nI (ZY c)) []:=by by_cases h:Zm c=X;have hv:=BR.1 h;have e:ZY c=c.pg.tdiv 4:=if_pos h;rw[e];exact gF [] func54 []<|Fh 8 [.int (c.pg.tdiv 4)]<|Fc 4 (@EZ c)<|Ff 5 (by simp[h]:(!Zm c)=Z)<|Fa ((C5 (by rw[H5 oq];omega) (by rw[H5 oq];omega)):M.wrap (c.pg.tdiv 4)=c.pg.tdiv 4)<|Fa (by decide:(4:Int)=0->False) Fz;have e:ZY c=0:=if_neg h;rw[e];exact gF [] func54 []<|Fc 4 (@EZ c)<|Ft 5 (by simp[h]:(!Zm c)=X) Fz
def Mt(c:ZU):GP 140 [c.av] X (nI (ZY c)) []:=by by_cases h:Zm c=X;have hv:=BR.1 h;have e:ZY c=c.pg.tdiv 4:=if_pos h;rw[e];exact gF [] func140 []<|Fh 8 [.int (c.pg.tdiv 4)]<|Fc 4 (@GM c)<|Ff 5 (by simp[h]:(!Zm c)=Z)<|Fa ((C5 (by rw[H5 oq];omega) (by rw[H5 oq];omega)):M.wrap (c.pg.tdiv 4)=c.pg.tdiv 4)<|Fa (by decide:(4:Int)=0->False) Fz;have e:ZY c=0:=if_neg h;rw[e];exact gF [] func140 []<|Fc 4 (@GM c)<|Ft 5 (by simp[h]:(!Zm c)=X) Fz
def Z0S(c:ZU):GP 105 [c.av] X (nI (Z6 c)) []:=by by_cases h:Zm c=X;have hv:=BR.1 h;have e:Z6 c=c.pw.tdiv 4:=if_pos h;rw[e];exact gF [] func105 []<|Fh 8 [.int (c.pw.tdiv 4)]<|Fc 4 (@EZ c)<|Ff 5 (by simp[h]:(!Zm c)=Z)<|Fa ((C5 (by rw[H5 oq];omega) (by rw[H5 oq];omega)):M.wrap (c.pw.tdiv 4)=c.pw.tdiv 4)<|Fa (by decide:(4:Int)=0->False) Fz;have e:Z6 c=0:=if_neg h;rw[e];exact gF [] func105 []<|Fc 4 (@EZ c)<|Ft 5 (by simp[h]:(!Zm c)=X) Fz
def HB(c:ZU):GP 29 [c.av] X (nI (Z6 c)) []:=by by_cases h:Zm c=X;have hv:=BR.1 h;have e:Z6 c=c.pw.tdiv 4:=if_pos h;rw[e];exact gF [] func29 []<|Fh 8 [.int (c.pw.tdiv 4)]<|Fc 4 (@GM c)<|Ff 5 (by simp[h]:(!Zm c)=Z)<|Fa ((C5 (by rw[H5 oq];omega) (by rw[H5 oq];omega)):M.wrap (c.pw.tdiv 4)=c.pw.tdiv 4)<|Fa (by decide:(4:Int)=0->False) Fz;have e:Z6 c=0:=if_neg h;rw[e];exact gF [] func29 []<|Fc 4 (@GM c)<|Ft 5 (by simp[h]:(!Zm c)=X) Fz
def need(c:ZU)(n:Int):Int:=if Zm c=X/\1<=n/\n<=4*c.pw then(if n<=c.pw/4 then 0 else(n+c.pw-1)/c.pw)else -1
def DJ{c:ZU}(h:Zm c=X):Z6 c=c.pw/4:=by have hv:=BR.1 h;rw[Z6,if_pos h,H5 oq]
def Hc(c:ZU) n:GP 50 [c.av,nI n] X (nI (need c n)) []:=by
 by_cases h:Zm c=X/\1<=n/\n<=4*c.pw;obtain⟨h,i,j⟩:=h;have b:=BR.1 h;by_cases a:n<=c.pw/4;have e:need c n=0:=by rw[need,if_pos ⟨h,i,j⟩,if_pos a]
 rw[e];exact gF [] func50 []<|Fh 7 [.call X (bL (Zm c)) []]<|Fh 17 [.int (4*c.pw)]<|Fh 19 [.br Z]<|Fh 23 [.call X (nI (Z6 c)) []]<|Fh 24 [.br X]<|Fa ((EZ c):GP 51 [AV.ag [nI c.pw,nI c.pg]] X (bL (Zm c)) [])<|Fa ((λ_=>C5 oq oq):(!(!Zm c||Y (n<1)))=X->M.wrap (4*c.pw)=4*c.pw)<|Fa (by simp[h];omega:(!Zm c||Y (n<1)||Y (4*c.pw<n))=Z)<|Fa ((Z0S c):GP 105 [AV.ag [nI c.pw,nI c.pg]] X (nI (Z6 c)) [])<|Fa (by rw[DJ h];simpa using a:Y (n<=Z6 c)=X) Fz;have e:need c n=(n+c.pw-1).tdiv c.pw:=by rw[need,if_pos ⟨h,i,j⟩,if_neg a,H5 oq]
 have hq:(n+c.pw-1)/c.pw<=n+c.pw-1:=Le _ oq;have k:0<=(n+c.pw-1)/c.pw:=Lf oq oq;rw[e];exact gF [] func50 []<|Fh 7 [.call X (bL (Zm c)) []]<|Fh 17 [.int (4*c.pw)]<|Fh 19 [.br Z]<|Fh 23 [.call X (nI (Z6 c)) []]<|Fh 24 [.br Z]<|Fh 28 [.int (n+c.pw)]<|Fh 29 [.int (n+c.pw-1)]<|Fh 32 [.int ((n+c.pw-1).tdiv c.pw)]<|Fa ((EZ c):GP 51 [AV.ag [nI c.pw,nI c.pg]] X (bL (Zm c)) [])<|Fa ((λ_=>C5 oq oq):(!(!Zm c||Y (n<1)))=X->M.wrap (4*c.pw)=4*c.pw)<|Fa (by simp[h];omega:(!Zm c||Y (n<1)||Y (4*c.pw<n))=Z)<|Fa ((Z0S c):GP 105 [AV.ag [nI c.pw,nI c.pg]] X (nI (Z6 c)) [])<|Fa (by rw[DJ h];simpa using a:Y (n<=Z6 c)=Z)<|Fa ((C5 oq oq):M.wrap (n+c.pw)=n+c.pw)<|Fa ((C5 oq oq):M.wrap (n+c.pw-1)=n+c.pw-1)<|Fa ((C5 (by rw[H5 oq];omega) (by rw[H5 oq];omega)):M.wrap ((n+c.pw-1).tdiv c.pw)=(n+c.pw-1).tdiv c.pw)<|Fo (c.pw=0->False) Fz;have e:need c n=-1:=if_neg h;rw[e];have d:((!(!Zm c||Y (n<(1:Int))))=X->M.wrap ((4:Int)*c.pw)=(4:Int)*c.pw):=by(intro g;simp at g;have b:=BR.1 g.1;exact C5 oq oq)
 have f:(!Zm c||Y (n<(1:Int))||Y ((4:Int)*c.pw<n))=X:=by
  simp;cases b:Zm c with|false=>simp|true =>simp only[b,true_and]at h;simp;omega
 exact gF [] func50 []<|Fh 7 [.call X (bL (Zm c)) []]<|Fh 17 [.int (4*c.pw)]<|Fh 19 [.br X]<|Fa ((EZ c):GP 51 [AV.ag [nI c.pw,nI c.pg]] X (bL (Zm c)) [])<|Fa (d:(!(!Zm c||Y (n<1)))=X->M.wrap (4*c.pw)=4*c.pw)<|Fa (f:(!Zm c||Y (n<1)||Y (4*c.pw<n))=X) Fz
def Zai{c:ZU}{n:Int}{k:Nat}(h:Zm c=X)(a:1<=n)(h2:c.pw/4<n)(hk:k<=4)(b:((k:Int)-1)*c.pw<n)(h4:n<=k*c.pw):need c n=k:=by have hv:=BR.1 h;have h5:(k:Int)*c.pw<=4*c.pw:=La oq oq;rw[need,if_pos ⟨h,a,by omega⟩,if_neg oq];rw[Int.sub_mul]at b;refine Int.le_antisymm (Int.le_of_lt_add_one (Int.ediv_lt_of_lt_mul oq ?_)) (Int.le_ediv_of_mul_le oq oq);rw[Li];omega
def NQ(c:ZU)(n:Int)(k:Nat):Tg:=⟨tm 28 [(1,nI n),(2,.pt 8002 0 0),(4,nI 0),(5,nI k)],[(8002,.box 23 [nI c.pw,nI c.pg])],20⟩
def Za5(c:ZU)(n:Int)(k:Nat)(hw:c.pw<=64)(hw0:0<=c.pw)(hk:k<=4)(hn:k*c.pw<n):CP (Zn f24 0) (NQ c n k).st .nrm (NQ c n (k+1)).st:=by have hm:(k:Int)*c.pw<=4*c.pw:=La oq oq;have hm0:0<=(k:Int)*c.pw:=Lg oq oq;exact sF [] []<|Ftb 18 (Y ((k:Int)<=4))<|Fi 24 ((k:Int)*c.pw)<|Ffb 26 (Y (n<=(k:Int)*c.pw))<|Fx 20 k Fz
def RX(c:ZU)(n:Int):GP 24 [c.av,nI n] X (nI (need c n)) []:=by
 by_cases h:Zm c=X/\1<=n
 .obtain⟨h,h1⟩:=h;have hv:=BR.1 h;by_cases h3:n<=c.pw/4
  .have e:need c n=0:=by rw[need,if_pos ⟨h,h1,by omega⟩,if_pos h3]
   rw[e];exact gF [] func24 []<|Fh 7 [.call X (bL (Zm c)) []]<|Fh 15 [.call X (nI (Z6 c)) []]<|Fa ((GM c):GP 58 [AV.ag [nI c.pw,nI c.pg]] X (bL (Zm c)) [])<|Ff 12 (by simp[h];omega:(!Zm c||Y (n<1))=Z)<|Fa ((HB c):GP 29 [AV.ag [nI c.pw,nI c.pg]] X (nI (Z6 c)) [])<|Ft 16 (by rw[DJ h];simpa using h3:Y (n<=Z6 c)=X) Fz
  .by_cases h4:n<=4*c.pw
   .-- it is found
    have hk:∃k:Nat,1<=k/\k<=4/\((k:Int)-1)*c.pw<n/\n<=k*c.pw:=by
     by_cases a1:n<=c.pw
     .exact⟨1,by omega,by omega,by omega,by omega⟩
     by_cases a2:n<=2*c.pw
     .exact⟨2,by omega,by omega,by omega,by omega⟩
     by_cases a3:n<=3*c.pw
     .exact⟨3,by omega,by omega,by omega,by omega⟩
     .exact⟨4,by omega,by omega,by omega,by omega⟩
    obtain⟨k,k1,k4,klo,khi⟩:=hk;rw[Zai h h1 oq k4 klo khi];have qz0:CP (Zl f24 (0:Nat)) (NQ c n (1:Nat)).st Ex.ret (Tg.mk (tm (28:Nat) [((4:Nat),nI (k:Int))]) [] (30:Nat)).st:=by
     obtain⟨j,rfl⟩:∃j,k=j+1:=⟨k-1,by omega⟩
     refine EF (S:=λi=>(NQ c n (i+1)).st) j kr (λi hi=>Za5 c n (i+1) oq oq oq ?_) ?_
     .have:((i+1:Nat):Int)*c.pw<=((j+1:Nat)-1:Int)*c.pw:=La oq oq;omega
     .have hm:((j+1:Nat):Int)*c.pw<=4*c.pw:=La oq oq;have hm0:0<=((j+1:Nat):Int)*c.pw:=Lg oq oq;refine Z4W [(18,[.br X]),(24,[.int ((j+1:Nat)*c.pw)]),(26,[.br X])] [] (φ:=Y ((↑(j+(1:Nat)):Int)<=(4:Int))=X/\X=X/\M.wrap ((↑(j+(1:Nat)):Int)*c.pw)=(↑(j+(1:Nat)):Int)*c.pw/\Y (n<=(↑(j+(1:Nat)):Int)*c.pw)=X/\X=X) ?_ kr kr kr;exact⟨decide_eq_true oq,rfl,C5 oq oq,decide_eq_true oq,rfl⟩
    exact gF [] func24 []<|Fh 7 [.call X (bL (Zm c)) []]<|Fh 15 [.call X (nI (Z6 c)) []]<|Fk (0,NQ c n 1,.ret,⟨tm 28 [(4,nI k)],[],30⟩)<|Fa ((GM c):GP 58 [AV.ag [nI c.pw,nI c.pg]] X (bL (Zm c)) [])<|Ff 12 (by simp[h];omega:(!Zm c||Y (n<1))=Z)<|Fa ((HB c):GP 29 [AV.ag [nI c.pw,nI c.pg]] X (nI (Z6 c)) [])<|Ff 16 (by rw[DJ h];simpa using h3:Y (n<=Z6 c)=Z)<|Fa (qz0:CP (Zl f24 0) (NQ c n 1).st Ex.ret (Tg.mk (tm 28 [(4,nI ↑k)]) [] 30).st) Fz
   .have e:need c n=-1:=by rw[need,if_neg oq]
    rw[e];have qz0:CP (Zl f24 (0:Nat)) (NQ c n (1:Nat)).st Ex.nrm (Tg.mk (tm (28:Nat) []) [] (30:Nat)).st:=by
     refine Bs (S:=λi=>(NQ c n (i+1)).st) 4 kr (λi hi=>Za5 c n (i+1) oq oq oq ?_) ?_
     .have:((i+1:Nat):Int)*c.pw<=4*c.pw:=La oq oq;omega
     .refine Z4W [(18,[.br Z])] [] (φ:=Y ((↑((4:Nat)+(1:Nat)):Int)<=(4:Int))=Z/\Z=Z) ?_ kr kr kr;exact⟨rfl,rfl⟩
    exact gF [] func24 []<|Fh 7 [.call X (bL (Zm c)) []]<|Fh 15 [.call X (nI (Z6 c)) []]<|Fk (0,NQ c n 1,.nrm,⟨tm 28 [],[],30⟩)<|Fa ((GM c):GP 58 [AV.ag [nI c.pw,nI c.pg]] X (bL (Zm c)) [])<|Ff 12 (by simp[h];omega:(!Zm c||Y (n<1))=Z)<|Fa ((HB c):GP 29 [AV.ag [nI c.pw,nI c.pg]] X (nI (Z6 c)) [])<|Ff 16 (by rw[DJ h];simpa using h3:Y (n<=Z6 c)=Z)<|Fa (qz0:CP (Zl f24 0) (NQ c n 1).st Ex.nrm (Tg.mk (tm 28 []) [] 30).st) Fz
 .have e:need c n=-1:=if_neg λh'=>h ⟨h'.1,h'.2.1⟩;rw[e];have qz0:(!Zm c||Y (n<(1:Int)))=X:=by
   cases hv:Zm c with
   |false=>simp
   |true =>
    simp only[hv,true_and]at h;simp;omega
  exact gF [] func24 []<|Fh 7 [.call X (bL (Zm c)) []]<|Fa ((GM c):GP 58 [AV.ag [nI c.pw,nI c.pg]] X (bL (Zm c)) [])<|Ft 12 (qz0:(!Zm c||Y (n<1))=X) Fz
def DG{n:Int}(a:0<=n)(b:n<=18446744073709551615):Lc.wrap n=n:=IntWalk.u64_in n ⟨a,b⟩
def HM{c:ZU}(h:Zm c=X):128<=c.pw*c.pg/\c.pw*c.pg<=4096:=by have hv:=BR.1 h;have h1:16*c.pg<=c.pw*c.pg:=La oq oq;have h2:c.pw*c.pg<=64*c.pg:=La oq oq;omega
def Po{c:ZU}{p o:Int}(h:Zm c=X)(h1:0<=p)(h2:p<c.pg)(_:0<=o)(h4:o<c.pw):0<=p*c.pw/\p*c.pw+o<c.pw*c.pg:=by have hv:=BR.1 h;have a:(p+1)*c.pw<=c.pg*c.pw:=La oq oq;have h6:0<=p*c.pw:=Lg oq oq;rw[Li,Ld c.pg]at a;omega
def inB(c:ZU)(p o:Int):Bool:=Y (0<=p)&&Y (p<c.pg)&&Y (0<=o)&&Y (o<c.pw)
theorem HT{c}{p o:Int}:inB c p o=X↔0<=p/\p<c.pg/\0<=o/\o<c.pw:=by simp[inB,and_assoc]
def address(c:ZU)(p o:Int):Int×Int:=if Zm c=X then(if inB c p o=X then(4096+(p*c.pw+o),0)else(0,2))else(0,1)
def CV(c:ZU)(p o:Int):AV:=.tu [uU (address c p o).1,nI (address c p o).2]
def RQ(c:ZU) p o:GP 68 [c.av,nI p,nI o] X (CV c p o) []:=by
 by_cases h:Zm c=X;have ha:=HM h;by_cases a:inB c p o=X;obtain⟨g,p2,d,f⟩:=HT.1 a;have hi:=Po h g p2 d f;have e:CV c p o=.tu [uU (4096+(p*c.pw+o)),nI 0]:=by rw[CV,address,if_pos h,if_pos a]
 rw[e];exact gF [] func68 []<|Fh 11 [.br Z]<|Fh 30 [.br Z]<|Fc 10 (@EZ c)<|Fa (by simp[h]:(!Zm c)=Z)<|Fb ((Y (p<0)||Y (c.pg<=p)||Y (o<0)||Y (c.pw<=o))=Z)<|Fi 34 (p*c.pw)<|Fi 36 (p*c.pw+o)<|Fv 37 (p*c.pw+o)<|Fv 38 (4096+(p*c.pw+o)) Fz;have e:CV c p o=.tu [uU 0,nI 2]:=by rw[CV,address,if_pos h,if_neg a]
 rw[e];have b:(Y (p<(0:Int))||Y (c.pg<=p)||Y (o<(0:Int))||Y (c.pw<=o))=X:=by(rw[HT]at a;simp;omega)
 exact gF [] func68 []<|Fh 11 [.br Z]<|Fh 30 [.br X]<|Fc 10 (@EZ c)<|Fa (by simp[h]:(!Zm c)=Z)<|Fa (b:(Y (p<0)||Y (c.pg<=p)||Y (o<0)||Y (c.pw<=o))=X) Fz;have e:CV c p o=.tu [uU 0,nI 1]:=by rw[CV,address,if_neg h]
 rw[e];exact gF [] func68 []<|Fh 11 [.br X]<|Fc 10 (@EZ c)<|Fa (by simp[h]:(!Zm c)=X) Fz
def Z0K(c:ZU) p o:GP 214 [c.av,nI p,nI o] X (CV c p o) []:=by
 by_cases h:Zm c=X;have ha:=HM h;by_cases a:inB c p o=X;obtain⟨g,p2,d,f⟩:=HT.1 a;have hi:=Po h g p2 d f;have e:CV c p o=.tu [uU (4096+p*c.pw+o),nI 0]:=by rw[CV,address,if_pos h,if_pos a,Int.add_assoc]
 rw[e];exact gF [] func214 []<|Fc 9 (@GM c)<|Ff 10 (by simp[h]:(!Zm c)=Z)<|Ffb 28 (Y (p<0)||Y (c.pg<=p)||Y (o<0)||Y (c.pw<=o))<|Fi 32 (p*c.pw)<|Fi 33 (4096+p*c.pw)<|Fi 35 (4096+p*c.pw+o)<|Fv 36 (4096+p*c.pw+o) Fz;have e:CV c p o=.tu [uU 0,nI 2]:=by rw[CV,address,if_pos h,if_neg a]
 rw[e];have b:(Y (p<(0:Int))||Y (c.pg<=p)||Y (o<(0:Int))||Y (c.pw<=o))=X:=by(rw[HT]at a;simp;omega)
 exact gF [] func214 []<|Fc 9 (@GM c)<|Ff 10 (by simp[h]:(!Zm c)=Z)<|Ft 28 (b:(Y (p<0)||Y (c.pg<=p)||Y (o<0)||Y (c.pw<=o))=X) Fz;have e:CV c p o=.tu [uU 0,nI 1]:=by rw[CV,address,if_neg h]
 rw[e];exact gF [] func214 []<|Fc 9 (@GM c)<|Ft 10 (by simp[h]:(!Zm c)=X) Fz
def Z4(c:ZU)(a:Int):Int×Int×Int:=if Zm c=X then(if 4096<=a/\a<4096+c.pw*c.pg then((a-4096)/c.pw,(a-4096)%c.pw,0)else(0,0,2))else(0,0,1)
def Bc(c:ZU)(a:Int):AV:=.tu [nI (Z4 c a).1,nI (Z4 c a).2.1,nI (Z4 c a).2.2]
def Gs(c:ZU)(a:Int)(a0:0<=a)(a1:a<=18446744073709551615):GP 49 [c.av,uU a] X (Bc c a) []:=by
 by_cases h:Zm c=X;have ha:=HM h;have hv:=BR.1 h;by_cases b:4096<=a/\a<4096+c.pw*c.pg;have d1:0<=(a-4096)/c.pw:=Lf oq oq;have d2:(a-4096)/c.pw<=a-4096:=Le _ oq;have e:Bc c a=.tu [nI ((a-4096).tdiv c.pw),nI ((a-4096).tmod c.pw),nI 0]:=by rw[Bc,Z4,if_pos h,if_pos b,H5 oq,Z7j oq]
 rw[e];exact gF [] func49 []<|Fh 11 [.br Z]<|Fh 22 [.int (c.pw*c.pg)]<|Fh 23 [.int (c.pw*c.pg)]<|Fh 25 [.br Z]<|Fh 28 [.int (a-4096)]<|Fh 32 [.int ((a-4096).tdiv c.pw)]<|Fc 10 (@EZ c)<|Fa (by simp[h]:(!Zm c)=Z)<|Fa ((λ_=>DG oq oq):(!decide (a<4096))=X->Lc.wrap (a-4096)=a-4096)<|Fa ((λ_=>C5 oq oq):(!decide (a<4096))=X->M.wrap (c.pw*c.pg)=c.pw*c.pg)<|Fa ((λ_=>DG oq oq):(!decide (a<4096))=X->Lc.wrap (c.pw*c.pg)=c.pw*c.pg)<|Fb ((Y (a<4096)||Y (c.pw*c.pg<=a-4096))=Z)<|Fv 17 (a-4096)<|Fi 27 (a-4096)<|Fa ((C5 (by rw[H5 oq];omega) (by rw[H5 oq];omega)):M.wrap ((a-4096).tdiv c.pw)=(a-4096).tdiv c.pw)<|Fo (c.pw=0->False)<|Fo (c.pw=0->False) Fz;have e:Bc c a=.tu [nI 0,nI 0,nI 2]:=by rw[Bc,Z4,if_pos h,if_neg b]
 rw[e];exact gF [] func49 []<|Fh 11 [.br Z]<|Fh 17 [.int (a-4096)]<|Fh 22 [.int (c.pw*c.pg)]<|Fh 23 [.int (c.pw*c.pg)]<|Fh 25 [.br X]<|Fc 10 (@EZ c)<|Fa (by simp[h]:(!Zm c)=Z)<|Fa ((λd=>DG (by simp at d;omega) oq):(!decide (a<4096))=X->Lc.wrap (a-4096)=a-4096)<|Fa ((λ_=>C5 oq oq):(!decide (a<4096))=X->M.wrap (c.pw*c.pg)=c.pw*c.pg)<|Fa ((λ_=>DG oq oq):(!decide (a<4096))=X->Lc.wrap (c.pw*c.pg)=c.pw*c.pg)<|Fb ((Y (a<4096)||Y (c.pw*c.pg<=a-4096))=X) Fz;have e:Bc c a=.tu [nI 0,nI 0,nI 1]:=by rw[Bc,Z4,if_neg h]
 rw[e];exact gF [] func49 []<|Fh 11 [.br X]<|Fc 10 (@EZ c)<|Fa (by simp[h]:(!Zm c)=X) Fz
def Hn(c:ZU)(a:Int)(a0:0<=a)(a1:a<=18446744073709551615):GP 109 [c.av,uU a] X (Bc c a) []:=by
 by_cases h:Zm c=X;have g:=HM h;rw[Ld]at g;have hv:=BR.1 h;by_cases f:4096<=a/\a<4096+c.pg*c.pw;have d1:0<=(a-4096)/c.pw:=Lf oq oq;have d2:(a-4096)/c.pw<=a-4096:=Le _ oq;have e:Bc c a=.tu [nI ((a-4096).tdiv c.pw),nI ((a-4096).tmod c.pw),nI 0]:=by rw[Bc,Z4,if_pos h,if_pos (by rw[Ld c.pw];exact f),H5 oq,Z7j oq]
 rw[e];let b:=4096+c.pg*c.pw;exact gF [] func109 []<|Fh 19 [.int (c.pg*c.pw)]<|Fh 20 [.int b]<|Fh 21 [.int b]<|Fh 30 [.int ((a-4096).tdiv c.pw)]<|Fc 9 (@GM c)<|Ff 10 (by simp[h]:(!Zm c)=Z)<|Fa ((λ_=>C5 oq oq):(!decide (a<4096))=X->M.wrap (c.pg*c.pw)=c.pg*c.pw)<|Fa ((λ_=>C5 oq oq):(!decide (a<4096))=X->M.wrap b=4096+c.pg*c.pw)<|Fa ((λ_=>DG oq oq):(!decide (a<4096))=X->Lc.wrap b=4096+c.pg*c.pw)<|Ffb 23 (Y (a<4096)||Y (4096+c.pg*c.pw<=a))<|Fv 25 (a-4096)<|Fi 26 (a-4096)<|Fa ((C5 (by rw[H5 oq];omega) (by rw[H5 oq];omega)):M.wrap ((a-4096).tdiv c.pw)=(a-4096).tdiv c.pw)<|Fo (c.pw=0->False)<|Fo (c.pw=0->False) Fz;have e:Bc c a=.tu [nI 0,nI 0,nI 2]:=by rw[Bc,Z4,if_pos h,if_neg (by rw[Ld c.pw];exact f)]
 rw[e];let d:=4096+c.pg*c.pw;exact gF [] func109 []<|Fh 19 [.int (c.pg*c.pw)]<|Fh 20 [.int d]<|Fh 21 [.int d]<|Fc 9 (@GM c)<|Ff 10 (by simp[h]:(!Zm c)=Z)<|Fa ((λ_=>C5 oq oq):(!decide (a<4096))=X->M.wrap (c.pg*c.pw)=c.pg*c.pw)<|Fa ((λ_=>C5 oq oq):(!decide (a<4096))=X->M.wrap d=4096+c.pg*c.pw)<|Fa ((λ_=>DG oq oq):(!decide (a<4096))=X->Lc.wrap d=4096+c.pg*c.pw)<|Ftb 23 (Y (a<4096)||Y (4096+c.pg*c.pw<=a)) Fz;have e:Bc c a=.tu [nI 0,nI 0,nI 1]:=by rw[Bc,Z4,if_neg h]
 rw[e];exact gF [] func109 []<|Fc 9 (@GM c)<|Ft 10 (by simp[h]:(!Zm c)=X) Fz
structure Z0 where
 K:Int
 S:Int
 U:Int
 N:Int
 deriving DecidableEq,Inhabited
def Z0.dv(p:Z0):List DV:=[Ze p.K,Ze p.S,Ze p.U,Ze p.N]
def Z0.av(p:Z0):AV:=.ag [nI p.K,nI p.S,nI p.U,nI p.N]
def ZJ(l:List Z0):AV:=.d (.sl 4 (l.map Z0.dv))
def Hy(p:Z0):Bool:=Y (p=⟨0,0,0,0⟩)
def GG(p:Z0):Bool:=(p.S==0)||(p.S==1)
def Nl(p:Z0):Bool:=Y (0<=p.N)&&Y (p.N<=2147483647)
def Nw(p:Z0)(c:ZU):Bool:=GG p&&Nl p&&Y (0<=p.U)&&Y (p.U<=c.pw)
def GT(p:Z0)(c:ZU):Bool:=GG p&&Nl p&&Y (1<=need c p.U)
def HQ(p q:Z0):Bool:=Y (p=⟨3,q.S,0,0⟩)
def Z0b(p:Z0):GP 173 [p.av] X (bL (GG p)) []:=by refine Zb [] [] [] dd func173 [] (φ:=True) ?_ kr kr;trivial
def Z4c(p:Z0):GP 199 [p.av] X (bL (Nl p)) []:=by refine Zb [] [] [] dd func199 [] (φ:=True) ?_ kr kr;trivial
def entryFree(p:Z0)(c:ZU):GP 153 [p.av,c.av] X (bL (Hy p)) []:=by refine Zb [((7:Nat),[Hint.br (Hy p)])] [] [] dd func153 [] (φ:=(p.K==(0:Int)&&(p.S==(0:Int)&&(p.U==(0:Int)&&p.N==(0:Int))))=Hy p) ?_ kr kr;rw[Lh];cases p;simp[Hy]
def Z7p(p:Z0)(c:ZU):GP 154 [p.av,c.av] X (bL (Nw p c)) []:=by exact gF [] func154 []<|Fc 6 (@Z0b p)<|FcG 9 (GG p) (λhg=>@Z4c p) Fz
def Z0k(p:Z0)(c:ZU):GP 155 [p.av,c.av] X (bL (GT p c)) []:=by exact gF [] func155 []<|Fc 6 (@Z0b p)<|FcG 9 (GG p) (λa=>@Z4c p)<|FcG 15 (GG p&&Nl p) (λa=>@Hc c p.U) Fz
def Z98(p q:Z0):GP 156 [p.av,q.av] X (bL (HQ p q)) []:=by refine Zb [((9:Nat),[Hint.br (HQ p q)])] [] [] dd func156 [] (φ:=(p.K==(3:Int)&&(p.S==q.S&&(p.U==(0:Int)&&p.N==(0:Int))))=HQ p q) ?_ kr kr;rw[Lh];cases p;simp[HQ]
def R3(p:Z0)(l:List Z0):Bool:=l.all λq=>HQ q p
def Ci(c:ZU)(l:List Z0)(i:Nat):Nat:=match l[i]? with
 |none=>0
 |some p =>
  if p.K=0 then(if Hy p=X then 1 else 0)
  else if p.K=1 then(if Nw p c=X then 1 else 0)
  else if p.K=2 then(if GT p c=X then(if(need c p.U).toNat<=l.length-i/\R3 p ((l.drop (i+1)).take ((need c p.U).toNat-1))=X then(need c p.U).toNat else 0)else 0)
  else 0
def GY{l:List Z0}{i:Nat}{p:Z0}(h:l[i]?=some p):(l.map Z0.dv)[((i:Nat):Int).toNat]?=some p.dv:=by simp[h]
def ZjN(c:ZU)(l:List Z0)(i:Nat)(p:Z0)(hp:l[i]?=some p)(hk:p.K<0\/3<=p.K):GP 101 [c.av,ZJ l,nI i] X (nI (Ci c l i)) []:=by
 have e:Ci c l i=0:=by grind[Ci]
 rw[e];exact gF [] func101 []<|Fh 15 [.el p.dv]<|Fh 28 [.int 0]<|Fh 32 [.call X (bL (Hy p)) []]<|Fa (by grind:0<=(i:Int)/\(L Z0.dv l)[(i:Int).toNat]?=some p.dv)<|Fa (by grind:(!(Y (p.K<0)||Y (3<=p.K)))=X->p.K=0)<|Fa (by grind:(!(Y (p.K<0)||Y (3<=p.K)))=X->GP 153 [AV.ag [nI p.K,nI p.S,nI p.U,nI p.N],AV.ag [nI c.pw,nI c.pg]] X (bL (Hy p)) [])<|Ftb 34 (Y (p.K<0)||Y (3<=p.K)||!Hy p) Fz
theorem Zij(c:ZU)(l:List Z0)(i:Nat)(sp us pi:Int)(hp:l[i]?=some ⟨0,sp,us,pi⟩):GSpec Tryz.prog 101 [c.av,ZJ l,nI i] true (nI (Ci c l i)) []:=by
 cases hf:Hy ⟨0,sp,us,pi⟩with
 |true =>
  have e:Ci c l i=1:=by grind[Ci]
  rw[e]
  exact gE [(15,[Hint.el (Z0.mk 0 sp us pi).dv]),(32,[Hint.call true (bL (Hy (Z0.mk 0 sp us pi))) []]),bF 34] [] [] Tryz.func101 [] (an ((⟨by omega,GY hp⟩):0≤(↑i:Int)∧(List.map Z0.dv l)[(↑i:Int).toNat]?=some (Z0.mk 0 sp us pi).dv) (an ((fun hg=>@entryFree _ c):(!(decide ((Z0.mk 0 sp us pi).K<0)||decide (3≤(Z0.mk 0 sp us pi).K)))=true→GSpec Tryz.prog 153 [AV.ag [nI (Z0.mk 0 sp us pi).K,nI (Z0.mk 0 sp us pi).S,nI (Z0.mk 0 sp us pi).U,nI (Z0.mk 0 sp us pi).N],AV.ag [nI c.pw,nI c.pg]] true (bL (Hy (Z0.mk 0 sp us pi))) []) (an (by simp[hf]:(decide ((Z0.mk 0 sp us pi).K<0)||decide (3≤(Z0.mk 0 sp us pi).K)||!Hy (Z0.mk 0 sp us pi))=false) (rf false))))
 |false =>
  have e:Ci c l i=0:=by grind[Ci]
  rw[e]
  exact gE [(15,[Hint.el (Z0.mk 0 sp us pi).dv]),(32,[Hint.call true (bL (Hy (Z0.mk 0 sp us pi))) []]),bT 34] [] [] Tryz.func101 [] (an ((⟨by omega,GY hp⟩):0≤(↑i:Int)∧(List.map Z0.dv l)[(↑i:Int).toNat]?=some (Z0.mk 0 sp us pi).dv) (an ((fun hg=>@entryFree _ c):(!(decide ((Z0.mk 0 sp us pi).K<0)||decide (3≤(Z0.mk 0 sp us pi).K)))=true→GSpec Tryz.prog 153 [AV.ag [nI (Z0.mk 0 sp us pi).K,nI (Z0.mk 0 sp us pi).S,nI (Z0.mk 0 sp us pi).U,nI (Z0.mk 0 sp us pi).N],AV.ag [nI c.pw,nI c.pg]] true (bL (Hy (Z0.mk 0 sp us pi))) []) (an (by simp[hf]:(decide ((Z0.mk 0 sp us pi).K<0)||decide (3≤(Z0.mk 0 sp us pi).K)||!Hy (Z0.mk 0 sp us pi))=true) tt)))
theorem Zbf(c:ZU)(l:List Z0)(i:Nat)(sp us pi:Int)(hp:l[i]?=some ⟨1,sp,us,pi⟩):GSpec Tryz.prog 101 [c.av,ZJ l,nI i] true (nI (Ci c l i)) []:=by
 cases hf:Nw ⟨1,sp,us,pi⟩ c with
 |true =>
  have e:Ci c l i=1:=by grind[Ci]
  rw[e]
  exact gE [(15,[Hint.el (Z0.mk 1 sp us pi).dv]),(32,[Hint.call true (bL (Nw (Z0.mk 1 sp us pi) c)) []]),bF 34] [] [] Tryz.func101 [] (an ((⟨by omega,GY hp⟩):0≤(↑i:Int)∧(List.map Z0.dv l)[(↑i:Int).toNat]?=some (Z0.mk 1 sp us pi).dv) (an ((fun hg=>@Z7p _ c):(!(decide ((Z0.mk 1 sp us pi).K<0)||decide (3≤(Z0.mk 1 sp us pi).K)))=true→GSpec Tryz.prog 154 [AV.ag [nI (Z0.mk 1 sp us pi).K,nI (Z0.mk 1 sp us pi).S,nI (Z0.mk 1 sp us pi).U,nI (Z0.mk 1 sp us pi).N],AV.ag [nI c.pw,nI c.pg]] true (bL (Nw (Z0.mk 1 sp us pi) c)) []) (an (by simp[hf]:(decide ((Z0.mk 1 sp us pi).K<0)||decide (3≤(Z0.mk 1 sp us pi).K)||!Nw (Z0.mk 1 sp us pi) c)=false) (rf false))))
 |false =>
  have e:Ci c l i=0:=by grind[Ci]
  rw[e]
  exact gE [(15,[Hint.el (Z0.mk 1 sp us pi).dv]),(32,[Hint.call true (bL (Nw (Z0.mk 1 sp us pi) c)) []]),bT 34] [] [] Tryz.func101 [] (an ((⟨by omega,GY hp⟩):0≤(↑i:Int)∧(List.map Z0.dv l)[(↑i:Int).toNat]?=some (Z0.mk 1 sp us pi).dv) (an ((fun hg=>@Z7p _ c):(!(decide ((Z0.mk 1 sp us pi).K<0)||decide (3≤(Z0.mk 1 sp us pi).K)))=true→GSpec Tryz.prog 154 [AV.ag [nI (Z0.mk 1 sp us pi).K,nI (Z0.mk 1 sp us pi).S,nI (Z0.mk 1 sp us pi).U,nI (Z0.mk 1 sp us pi).N],AV.ag [nI c.pw,nI c.pg]] true (bL (Nw (Z0.mk 1 sp us pi) c)) []) (an (by simp[hf]:(decide ((Z0.mk 1 sp us pi).K<0)||decide (3≤(Z0.mk 1 sp us pi).K)||!Nw (Z0.mk 1 sp us pi) c)=true) tt)))
def Na(p:Z0)(s:List Z0)(k:Nat)(j:Nat):Tg:=⟨tm 66 [(6,nI 0),(8,.pt 24008 0 0),(9,nI k),(54,ZJ s),(55,nI s.length),(56,nI j)],[(24008,.box 223 [nI p.K,nI p.S,nI p.U,nI p.N])],40⟩
def MV{α:Type}{f:α->Bool}:∀{l:List α},l.all f=Z->∃(j:Nat) (x:α),l[j]?=some x/\f x=Z/\∀i:Nat,i<j->∃y:α,l[i]?=some y/\f y=X
 |[],h=>by simp at h
 |a::l,h=>by
  cases ha:f a with
  |false=>exact⟨0,a,rfl,ha,λi d=>by omega⟩
  |true =>
   have:l.all f=Z:=by grind
   obtain⟨j,x,b,c,h3⟩:=MV this;refine⟨j+1,x,by simpa using b,c,λi d=>?_⟩;cases i<;>grind
def Z66(p:Z0)(s:List Z0)(k j:Nat)(q:Z0)(hs:s.length<=281474976710656)(hq:s[j]?=some q)(ht:HQ q p=X):CP (Zn f101 0) (Na p s k j).st .nrm (Na p s k (j+1)).st:=by have hj:j<s.length:=(Lj.1 hq).1;exact sF [] []<|Fh 58 [.el q.dv]<|Ftb 57 (Y ((j:Int)<(s.length:Int)))<|Fa ((⟨by omega,GY hq⟩):0<=(j:Int)/\(L Z0.dv s)[(j:Int).toNat]?=some q.dv)<|Fc 62 (@Z98 q p)<|Ff 63 (by simp[ht]:(!HQ q p)=Z)<|Fx 64 j Fz
def ZeM(p:Z0)(s:List Z0)(k j:Nat)(q:Z0)(hq:s[j]?=some q)(ht:HQ q p=Z):CP (Zn f101 0) (Na p s k j).st .ret (Tg.st ⟨tm 66 [(6,nI 0)],[],60⟩):=by have hj:j<s.length:=(Lj.1 hq).1;exact sF [] []<|Fh 58 [.el q.dv]<|Ftb 57 (Y ((j:Int)<(s.length:Int)))<|Fa ((⟨by omega,GY hq⟩):0<=(j:Int)/\(L Z0.dv s)[(j:Int).toNat]?=some q.dv)<|Fc 62 (@Z98 q p)<|Ft 63 (by simp[ht]:(!HQ q p)=X) Fz
def ZgF p s k:CP (Zn f101 0) (Na p s k s.length).st (.ext 0) (Tg.st ⟨tm 66 [(9,nI k)],[],60⟩):=by exact sF [] []<|Ffb 57 (Y ((s.length:Int)<(s.length:Int))) Fz
theorem ZbO(c:ZU)(l:List Z0)(hl:l.length≤281474976710656)(i:Nat)(sp us pi:Int)(hp:l[i]?=some ⟨2,sp,us,pi⟩):GSpec Tryz.prog 101 [c.av,ZJ l,nI i] true (nI (Ci c l i)) []:=by
 have hi:i<l.length:=(List.getElem?_eq_some_iff.1 hp).1
 cases hf:GT ⟨2,sp,us,pi⟩ c with
 |false =>
  have e:Ci c l i=0:=by grind[Ci]
  rw[e]
  exact gE [(15,[Hint.el (Z0.mk 2 sp us pi).dv]),(32,[Hint.call true (bL (GT (Z0.mk 2 sp us pi) c)) []]),bT 34] [] [] Tryz.func101 [] (an ((⟨by omega,GY hp⟩):0≤(↑i:Int)∧(List.map Z0.dv l)[(↑i:Int).toNat]?=some (Z0.mk 2 sp us pi).dv) (an ((fun hg=>@Z0k _ c):(!(decide ((Z0.mk 2 sp us pi).K<0)||decide (3≤(Z0.mk 2 sp us pi).K)))=true→GSpec Tryz.prog 155 [AV.ag [nI (Z0.mk 2 sp us pi).K,nI (Z0.mk 2 sp us pi).S,nI (Z0.mk 2 sp us pi).U,nI (Z0.mk 2 sp us pi).N],AV.ag [nI c.pw,nI c.pg]] true (bL (GT (Z0.mk 2 sp us pi) c)) []) (an (by simp[hf]:(decide ((Z0.mk 2 sp us pi).K<0)||decide (3≤(Z0.mk 2 sp us pi).K)||!GT (Z0.mk 2 sp us pi) c)=true) tt)))
 |true =>
  have hn:1≤need c us:=by grind[GT]
  obtain⟨k,hk⟩:∃k:Nat,need c us=k:=⟨(need c us).toNat,by omega⟩
  have hk1:1≤k:=by omega
  by_cases hfit:k≤l.length-i
  ·have hsl:((l.drop (i+1)).take (k-1)).length≤281474976710656:=by grind
   have hsub:List.take (((i+k:Nat):Int).toNat-((i+1:Nat):Int).toNat) (List.drop ((i+1:Nat):Int).toNat (List.map Z0.dv l))=List.map Z0.dv (List.take (k-1) (List.drop (i+1) l)):=by grind[List.map_take,List.map_drop]
   cases ht:R3 ⟨2,sp,us,pi⟩ ((l.drop (i+1)).take (k-1))with
   |true =>
    have e:Ci c l i=k:=by grind[Ci]
    rw[e]
    have qz0:CSpec Tryz.prog (Zl Tryz.f101 (0:Nat)) (Na (Z0.mk (2:Int) sp us pi) (List.take (k-(1:Nat)) (List.drop (i+(1:Nat)) l)) k (0:Nat)).st Ex.nrm (Tg.mk (tm (66:Nat) [((9:Nat),nI (↑k:Int))]) [] (60:Nat)).st:=by
     have hall:=List.all_eq_true.1 ht
     refine Bs (S:=fun j=>(Na ⟨2,sp,us,pi⟩ ((l.drop (i+1)).take (k-1)) k j).st) ((l.drop (i+1)).take (k-1)).length (by kernel_rfl) (fun j hj=>?_) (ZgF _ _ _)
     exact Z66 _ _ _ j _ hsl (List.getElem?_eq_getElem hj) (hall _ (List.getElem_mem hj))
    exact gE [(15,[Hint.el (Z0.mk 2 sp us pi).dv]),(32,[Hint.call true (bL (GT (Z0.mk 2 sp us pi) c)) []]),bF 34,(41,[Hint.call true (nI ↑k) []]),(46,[Hint.int ((↑l.length:Int)-(↑i:Int))]),bF 47,(50,[Hint.int (↑(i+1):Int)]),(53,[Hint.int (↑(i+k):Int)]),(54,[Hint.els (((l.drop (i+1)).take (k-1)).map Z0.dv)]),(55,[Hint.int (↑(List.take (k-1) (List.drop (i+1) l)).length:Int)])] [Zm4 (@qz0)] [] Tryz.func101 [] (an ((⟨by omega,GY hp⟩):0≤(↑i:Int)∧(List.map Z0.dv l)[(↑i:Int).toNat]?=some (Z0.mk 2 sp us pi).dv) (an ((fun hg=>@Z0k _ c):(!(decide ((Z0.mk 2 sp us pi).K<0)||decide (3≤(Z0.mk 2 sp us pi).K)))=true→GSpec Tryz.prog 155 [AV.ag [nI (Z0.mk 2 sp us pi).K,nI (Z0.mk 2 sp us pi).S,nI (Z0.mk 2 sp us pi).U,nI (Z0.mk 2 sp us pi).N],AV.ag [nI c.pw,nI c.pg]] true (bL (GT (Z0.mk 2 sp us pi) c)) []) (an (by simp[hf]:(decide ((Z0.mk 2 sp us pi).K<0)||decide (3≤(Z0.mk 2 sp us pi).K)||!GT (Z0.mk 2 sp us pi) c)=false) (an (rf false) (an (@hk▸Hc c us) (an (by grind[C5]:IntKind.i64.wrap ((↑(List.map Z0.dv l).length:Int)-(↑i:Int))=(↑l.length:Int)-(↑i:Int)) (an (bo (decide ((↑l.length:Int)-(↑i:Int)<(↑k:Int))=false)) (an (rf false) (an (wI (IntKind.i64.wrap ((↑i:Int)+1)=(↑(i+1):Int))) (an (wI (IntKind.i64.wrap ((↑i:Int)+(↑k:Int))=(↑(i+k):Int))) (an (by grind:0≤(↑(i+1):Int)∧(↑(i+1):Int)≤(↑(i+k):Int)∧(↑(i+k):Int)≤(↑(List.map Z0.dv l).length:Int)) (an (hsub:List.take ((↑(i+k):Int).toNat-(↑(i+1):Int).toNat) (List.drop (↑(i+1):Int).toNat (List.map Z0.dv l))=List.map Z0.dv (List.take (k-1) (List.drop (i+1) l))) (an (by grind:(↑(List.map Z0.dv (List.take (k-1) (List.drop (i+1) l))).length:Int)=(↑(List.take (k-1) (List.drop (i+1) l)).length:Int)) (@qz0))))))))))))))
   |false =>
    have e:Ci c l i=0:=by grind[Ci]
    rw[e]
    have qz0:CSpec Tryz.prog (Zl Tryz.f101 (0:Nat)) (Na (Z0.mk (2:Int) sp us pi) (List.take (k-(1:Nat)) (List.drop (i+(1:Nat)) l)) k (0:Nat)).st Ex.ret (Tg.mk (tm (66:Nat) [((6:Nat),nI (0:Int))]) [] (60:Nat)).st:=by
     obtain⟨n,x,h1,h2,h3⟩:=MV ht
     refine EF (S:=fun j=>(Na ⟨2,sp,us,pi⟩ ((l.drop (i+1)).take (k-1)) k j).st) n (by kernel_rfl) (fun j hj=>?_) (ZeM _ _ _ n x h1 h2)
     obtain⟨y,h4,h5⟩:=h3 j hj
     exact Z66 _ _ _ j y hsl h4 h5
    exact gE [(15,[Hint.el (Z0.mk 2 sp us pi).dv]),(32,[Hint.call true (bL (GT (Z0.mk 2 sp us pi) c)) []]),bF 34,(41,[Hint.call true (nI ↑k) []]),(46,[Hint.int ((↑l.length:Int)-(↑i:Int))]),bF 47,(50,[Hint.int (↑(i+1):Int)]),(53,[Hint.int (↑(i+k):Int)]),(54,[Hint.els (((l.drop (i+1)).take (k-1)).map Z0.dv)]),(55,[Hint.int (↑(List.take (k-1) (List.drop (i+1) l)).length:Int)])] [Zm4 (@qz0)] [] Tryz.func101 [] (an ((⟨by omega,GY hp⟩):0≤(↑i:Int)∧(List.map Z0.dv l)[(↑i:Int).toNat]?=some (Z0.mk 2 sp us pi).dv) (an ((fun hg=>@Z0k _ c):(!(decide ((Z0.mk 2 sp us pi).K<0)||decide (3≤(Z0.mk 2 sp us pi).K)))=true→GSpec Tryz.prog 155 [AV.ag [nI (Z0.mk 2 sp us pi).K,nI (Z0.mk 2 sp us pi).S,nI (Z0.mk 2 sp us pi).U,nI (Z0.mk 2 sp us pi).N],AV.ag [nI c.pw,nI c.pg]] true (bL (GT (Z0.mk 2 sp us pi) c)) []) (an (by simp[hf]:(decide ((Z0.mk 2 sp us pi).K<0)||decide (3≤(Z0.mk 2 sp us pi).K)||!GT (Z0.mk 2 sp us pi) c)=false) (an (rf false) (an (@hk▸Hc c us) (an (by grind[C5]:IntKind.i64.wrap ((↑(List.map Z0.dv l).length:Int)-(↑i:Int))=(↑l.length:Int)-(↑i:Int)) (an (bo (decide ((↑l.length:Int)-(↑i:Int)<(↑k:Int))=false)) (an (rf false) (an (wI (IntKind.i64.wrap ((↑i:Int)+1)=(↑(i+1):Int))) (an (wI (IntKind.i64.wrap ((↑i:Int)+(↑k:Int))=(↑(i+k):Int))) (an (by grind:0≤(↑(i+1):Int)∧(↑(i+1):Int)≤(↑(i+k):Int)∧(↑(i+k):Int)≤(↑(List.map Z0.dv l).length:Int)) (an (hsub:List.take ((↑(i+k):Int).toNat-(↑(i+1):Int).toNat) (List.drop (↑(i+1):Int).toNat (List.map Z0.dv l))=List.map Z0.dv (List.take (k-1) (List.drop (i+1) l))) (an (by grind:(↑(List.map Z0.dv (List.take (k-1) (List.drop (i+1) l))).length:Int)=(↑(List.take (k-1) (List.drop (i+1) l)).length:Int)) (@qz0))))))))))))))
  ·have e:Ci c l i=0:=by grind[Ci]
   rw[e]
   exact gE [(15,[Hint.el (Z0.mk 2 sp us pi).dv]),(32,[Hint.call true (bL (GT (Z0.mk 2 sp us pi) c)) []]),bF 34,(41,[Hint.call true (nI ↑k) []]),(46,[Hint.int ((↑l.length:Int)-(↑i:Int))]),bT 47] [] [] Tryz.func101 [] (an ((⟨by omega,GY hp⟩):0≤(↑i:Int)∧(List.map Z0.dv l)[(↑i:Int).toNat]?=some (Z0.mk 2 sp us pi).dv) (an ((fun hg=>@Z0k _ c):(!(decide ((Z0.mk 2 sp us pi).K<0)||decide (3≤(Z0.mk 2 sp us pi).K)))=true→GSpec Tryz.prog 155 [AV.ag [nI (Z0.mk 2 sp us pi).K,nI (Z0.mk 2 sp us pi).S,nI (Z0.mk 2 sp us pi).U,nI (Z0.mk 2 sp us pi).N],AV.ag [nI c.pw,nI c.pg]] true (bL (GT (Z0.mk 2 sp us pi) c)) []) (an (by simp[hf]:(decide ((Z0.mk 2 sp us pi).K<0)||decide (3≤(Z0.mk 2 sp us pi).K)||!GT (Z0.mk 2 sp us pi) c)=false) (an (rf false) (an (@hk▸Hc c us) (an (by grind[C5]:IntKind.i64.wrap ((↑(List.map Z0.dv l).length:Int)-(↑i:Int))=(↑l.length:Int)-(↑i:Int)) (an (bo (decide ((↑l.length:Int)-(↑i:Int)<(↑k:Int))=true)) tt)))))))
def Z8S(c:ZU)(l:List Z0)(hl:l.length<=281474976710656)(i:Nat)(g:i<l.length):GP 101 [c.av,ZJ l,nI i] X (nI (Ci c l i)) []:=by obtain⟨p,a⟩:∃p,l[i]?=some p:=⟨l[i],List.getElem?_eq_getElem g⟩;obtain⟨kd,sp,us,b⟩:=p;by_cases d:kd=0;subst d;exact Zij c l i sp us b a;by_cases e:kd=1;subst e;exact Zbf c l i sp us b a;by_cases f:kd=2;subst f;exact ZbO c l hl i sp us b a;exact ZjN c l i _ a (by grind)
def Z2(l:List Int):AV:=.d (.sl 1 (l.map wD))
structure Heap where
 C:ZU
 W:List Int
 P:List Z0
 S:Int
 B:Int
 deriving DecidableEq,Inhabited
def Heap.cells(h:Heap):List AV:=[nI h.C.pw,nI h.C.pg,Z2 h.W,ZJ h.P,nI h.S,nI h.B]
def Heap.av(h:Heap):AV:=.ag h.cells
def ZH:Heap:=⟨⟨0,0⟩,[],[],0,0⟩
def RA(c:ZU):Heap:=⟨c,Lb (c.pw*c.pg).toNat 0,Lb c.pg.toNat ⟨0,0,0,0⟩,0,-1⟩
def Zco(c:ZU)(h:Zm c=X):GP 59 [c.av] Z (.tu [(RA c).av,nI 0]) []:=by
 have hv:=BR.1 h;have ha:=HM h;rw[Ld]at ha;have hc:=Ld c.pw c.pg;exact gF [] func59 []<|Fh 14 [.els ((Lb (c.pw*c.pg).toNat 0).map wD)]<|Fh 17 [.els ((Lb c.pg.toNat (⟨0,0,0,0⟩:Z0)).map Z0.dv)]<|Fc 5 (@GM c)<|Ff 6 (by simp[h]:(!Zm c)=Z)<|Fg 13 (by grind[C5]:M.wrap (c.pg*c.pw)=(↑(c.pw*c.pg).toNat:Int))<|Fa ((⟨by omega,by omega,by simp;omega⟩):0<=(↑(c.pw*c.pg).toNat:Int)/\(↑(c.pw*c.pg).toNat:Int)<=(↑(c.pw*c.pg).toNat:Int)/\(↑(c.pw*c.pg).toNat:Int)*((↑(nat_lit 7):Int)+1)<=2^48)<|Fa (by rw[List.map_replicate];rfl:Lb (↑(c.pw*c.pg).toNat:Int).toNat [ZD 0]=L wD (Lb (c.pw*c.pg).toNat 0))<|Fa ((⟨by omega,by omega,by simp;omega⟩):0<=c.pg/\c.pg<=c.pg/\c.pg*((↑(nat_lit 31):Int)+1)<=2^48)<|Fa (by simp[Z0.dv,wD]:Lb c.pg.toNat [Ze 0,Ze 0,Ze 0,Ze 0]=L Z0.dv (Lb c.pg.toNat (Z0.mk 0 0 0 0))) Fz
def E9(l:List Z0)(i:Int):Z0:=l[i.toNat]?.getD ⟨0,0,0,0⟩
theorem Zcl{l:List Z0}{i:Int}(h:i.toNat<l.length):l[i.toNat]?=some (E9 l i):=by grind[E9]
def MP(h:Heap):Bool:=(h.B==-1)||(Y (0<=h.B)&&Y (h.B<h.P.length)&&((E9 h.P h.B).K==1))
def OA(h:Heap):Bool:=Zm h.C&&((h.W.length:Int)==h.C.pw*h.C.pg)&&((h.P.length:Int)==h.C.pg)&&((h.S==0)||(h.S==1))
def GU(c:ZU)(l:List Z0):Nat->Nat->Bool|0,i=>Y (l.length<=i)|f+1,i=>if i<l.length then(if Ci c l i=0 then Z else GU c l f (i+Ci c l i))else X
def Z9(h:Heap):Bool:=OA h&&(MP h&&GU h.C h.P h.P.length 0)
def NB(h:Heap)(i:Nat):Tg:=⟨tm 83 [(1,.pt 8001 0 0),(2,bL Z),(3,nI i)],[(8001,.box 27 h.cells)],50⟩
def ZlV{c}{l:List Z0}{i:Nat}(hi:i<l.length):i+Ci c l i<=l.length:=by grind[Ci]
def Z3Y(h:Heap)(i:Nat)(hl:h.P.length<=281474976710656)(hi:i<h.P.length)(hs:Ci h.C h.P i≠0):CP (Zn f45 0) (NB h i).st .nrm (NB h (i+Ci h.C h.P i)).st:=by have hle:=ZlV (c:=h.C) hi;exact sF [] []<|Fg 70 (by grind:(↑(L Z0.dv h.P).length:Int)=(h.P.length:Int))<|Ftb 71 (Y ((i:Int)<(h.P.length:Int)))<|Fc 77 (@Z8S h.C h.P hl i hi)<|Ffb 79 ((↑(Ci h.C h.P i):Int)==0)<|Fw 82 ((i:Int)+(↑(Ci h.C h.P i):Int)) (↑(i+Ci h.C h.P i):Int) Fz
def ZhZ(h:Heap)(i:Nat)(hl:h.P.length<=281474976710656)(hi:i<h.P.length)(hs:Ci h.C h.P i=0):CP (Zn f45 0) (NB h i).st .ret (Tg.st ⟨tm 83 [(2,bL Z)],[],60⟩):=by exact sF [] []<|Fg 70 (by grind:(↑(L Z0.dv h.P).length:Int)=(h.P.length:Int))<|Ftb 71 (Y ((i:Int)<(h.P.length:Int)))<|Fc 77 (@Z8S h.C h.P hl i hi)<|Ft 79 (by simp[hs]:((↑(Ci h.C h.P i):Int)==0)=X) Fz
def Z6E(h:Heap)(i:Nat)(hi:h.P.length<=i):CP (Zn f45 0) (NB h i).st (.ext 0) (Tg.st ⟨tm 83 [],[],60⟩):=by exact sF [] []<|Fl 70 Z0.dv h.P<|Ffb 71 (Y ((i:Int)<(h.P.length:Int))) Fz
def Z9U(h:Heap)(hl:h.P.length<=281474976710656):∀(f i:Nat),h.P.length<=i+f->GU h.C h.P f i=X->∃n,IY prog (Zn f45 0) n (NB h i).st (.ext 0) (Tg.st ⟨tm 83 [],[],60⟩)
 |0,i,hf,_=>⟨0,(λh=>nomatch h),Z6E h i oq⟩
 |f+1,i,hf,hb=>by
  by_cases a:i<h.P.length
  .simp only[GU,if_pos a]at hb;split at hb
   .cases hb
   .rename_i c;obtain⟨n,b⟩:=Z9U h hl f (i+Ci h.C h.P i) oq hb;exact⟨n+1,_,Z3Y h i hl a c,b⟩
  .exact⟨0,(λh=>nomatch h),Z6E h i oq⟩
def Z9h(h:Heap)(hl:h.P.length<=281474976710656):∀(f i:Nat),h.P.length<=i+f->GU h.C h.P f i=Z->∃n,IY prog (Zn f45 0) n (NB h i).st .ret (Tg.st ⟨tm 83 [(2,bL Z)],[],60⟩)
 |0,i,hf,hb=>by grind[GU]
 |f+1,i,hf,hb=>by
  by_cases a:i<h.P.length
  .simp only[GU,if_pos a]at hb;split at hb
   .rename_i b;exact⟨0,(λh=>nomatch h),ZhZ h i hl a b⟩
   .rename_i b;obtain⟨n,c⟩:=Z9h h hl f (i+Ci h.C h.P i) oq hb;exact⟨n+1,_,Z3Y h i hl a b,c⟩
  grind[GU]
theorem OD{h:Heap}:OA h=X↔Zm h.C=X/\(h.W.length:Int)=h.C.pw*h.C.pg/\(h.P.length:Int)=h.C.pg/\(h.S=0\/h.S=1):=by grind[OA]
def CW(h:Heap):GP 45 [h.av] X (bL (Z9 h)) []:=by
 have a:(!!Zm h.C)=X->M.wrap (h.C.pw*h.C.pg)=h.C.pw*h.C.pg:=by(intro i;have ha:=HM (c:=h.C) (by simpa using i);exact C5 oq oq)
 by_cases j:OA h=X;obtain⟨s1,s2,s3,s4⟩:=OD.1 j;have i:=BR.1 s1;have b:(!Zm h.C||(h.W.length:Int) != h.C.pw*h.C.pg||(h.P.length:Int) != h.C.pg||h.S != 0&&h.S != 1)=Z:=by grind
 have f:(h.B != -1&&!(Y (h.B<0)||Y ((h.P.length:Int)<=h.B)))=X->0<=h.B/\(L Z0.dv h.P)[h.B.toNat]?=some (E9 h.P h.B).dv:=by grind[Zcl]
 by_cases h2:MP h=X;have d:(h.B != -1&&(Y (h.B<0)||Y ((h.P.length:Int)<=h.B)||(E9 h.P h.B).K != 1))=Z:=by grind[MP]
 cases h3:GU h.C h.P h.P.length 0 with
 |true =>
  have e:Z9 h=X:=by grind[Z9]
  rw[e];obtain⟨n,g⟩:=Z9U h oq h.P.length 0 oq h3;exact gF [] func45 []<|Fh 7 [.call X (bL (Zm h.C)) []]<|Fh 12 [.int ↑h.W.length]<|Fh 19 [.int (h.C.pw*h.C.pg)]<|Fh 25 [.int ↑h.P.length]<|Fh 53 [.int ↑h.P.length]<|Fh 61 [.el (E9 h.P h.B).dv]<|Fk (0,NB h 0,.nrm,⟨tm 83 [],[],60⟩)<|Fa ((EZ h.C):GP 51 [AV.ag [nI h.C.pw,nI h.C.pg]] X (bL (Zm h.C)) [])<|Fa ((λ_=>by grind):(!!Zm h.C)=X->(↑(L wD h.W).length:Int)=(h.W.length:Int))<|Fa (a:(!!Zm h.C)=X->M.wrap (h.C.pw*h.C.pg)=h.C.pw*h.C.pg)<|Fa ((λ_=>by grind):(!(!Zm h.C||(h.W.length:Int) != h.C.pw*h.C.pg))=X->(↑(L Z0.dv h.P).length:Int)=(h.P.length:Int))<|Ff 40 (b:(!Zm h.C||(h.W.length:Int) != h.C.pw*h.C.pg||(h.P.length:Int) != h.C.pg||h.S != 0&&h.S != 1)=Z)<|Fa ((λ_=>by grind):(h.B != (-1:Int)&&!decide (h.B<0))=X->(↑(L Z0.dv h.P).length:Int)=(h.P.length:Int))<|Fa (f:(h.B != (-1:Int)&&!(Y (h.B<0)||Y ((h.P.length:Int)<=h.B)))=X->0<=h.B/\(L Z0.dv h.P)[h.B.toNat]?=some (E9 h.P h.B).dv)<|Ff 66 (d:(h.B != (-1:Int)&&(Y (h.B<0)||Y ((h.P.length:Int)<=h.B)||(E9 h.P h.B).K != 1))=Z)<|Fa ((Z1p kr g):CP (Zl f45 0) (NB h 0).st Ex.nrm (Tg.mk (tm 83 []) [] 60).st) Fz
 |false =>
  have e:Z9 h=Z:=by grind[Z9]
  rw[e];obtain⟨n,g⟩:=Z9h h oq h.P.length 0 oq h3;exact gF [] func45 []<|Fh 7 [.call X (bL (Zm h.C)) []]<|Fh 12 [.int ↑h.W.length]<|Fh 19 [.int (h.C.pw*h.C.pg)]<|Fh 25 [.int ↑h.P.length]<|Fh 53 [.int ↑h.P.length]<|Fh 61 [.el (E9 h.P h.B).dv]<|Fk (0,NB h 0,.ret,⟨tm 83 [(2,bL Z)],[],60⟩)<|Fa ((EZ h.C):GP 51 [AV.ag [nI h.C.pw,nI h.C.pg]] X (bL (Zm h.C)) [])<|Fa ((λ_=>by grind):(!!Zm h.C)=X->(↑(L wD h.W).length:Int)=(h.W.length:Int))<|Fa (a:(!!Zm h.C)=X->M.wrap (h.C.pw*h.C.pg)=h.C.pw*h.C.pg)<|Fa ((λ_=>by grind):(!(!Zm h.C||(h.W.length:Int) != h.C.pw*h.C.pg))=X->(↑(L Z0.dv h.P).length:Int)=(h.P.length:Int))<|Ff 40 (b:(!Zm h.C||(h.W.length:Int) != h.C.pw*h.C.pg||(h.P.length:Int) != h.C.pg||h.S != 0&&h.S != 1)=Z)<|Fa ((λ_=>by grind):(h.B != (-1:Int)&&!decide (h.B<0))=X->(↑(L Z0.dv h.P).length:Int)=(h.P.length:Int))<|Fa (f:(h.B != (-1:Int)&&!(Y (h.B<0)||Y ((h.P.length:Int)<=h.B)))=X->0<=h.B/\(L Z0.dv h.P)[h.B.toNat]?=some (E9 h.P h.B).dv)<|Ff 66 (d:(h.B != (-1:Int)&&(Y (h.B<0)||Y ((h.P.length:Int)<=h.B)||(E9 h.P h.B).K != 1))=Z)<|Fa ((Z1D kr g):CP (Zl f45 0) (NB h 0).st Ex.ret (Tg.mk (tm 83 [(2,bL Z)]) [] 60).st) Fz
 have d:(h.B != -1&&(Y (h.B<0)||Y ((h.P.length:Int)<=h.B)||(E9 h.P h.B).K != 1))=X:=by grind[MP]
 have e:Z9 h=Z:=by grind[Z9]
 rw[e];exact gF [] func45 []<|Fh 7 [.call X (bL (Zm h.C)) []]<|Fh 12 [.int ↑h.W.length]<|Fh 19 [.int (h.C.pw*h.C.pg)]<|Fh 25 [.int ↑h.P.length]<|Fh 53 [.int ↑h.P.length]<|Fh 61 [.el (E9 h.P h.B).dv]<|Fa ((EZ h.C):GP 51 [AV.ag [nI h.C.pw,nI h.C.pg]] X (bL (Zm h.C)) [])<|Fa ((λ_=>by grind):(!!Zm h.C)=X->(↑(L wD h.W).length:Int)=(h.W.length:Int))<|Fa (a:(!!Zm h.C)=X->M.wrap (h.C.pw*h.C.pg)=h.C.pw*h.C.pg)<|Fa ((λ_=>by grind):(!(!Zm h.C||(h.W.length:Int) != h.C.pw*h.C.pg))=X->(↑(L Z0.dv h.P).length:Int)=(h.P.length:Int))<|Ff 40 (b:(!Zm h.C||(h.W.length:Int) != h.C.pw*h.C.pg||(h.P.length:Int) != h.C.pg||h.S != 0&&h.S != 1)=Z)<|Fa ((λ_=>by grind):(h.B != (-1:Int)&&!decide (h.B<0))=X->(↑(L Z0.dv h.P).length:Int)=(h.P.length:Int))<|Fa (f:(h.B != (-1:Int)&&!(Y (h.B<0)||Y ((h.P.length:Int)<=h.B)))=X->0<=h.B/\(L Z0.dv h.P)[h.B.toNat]?=some (E9 h.P h.B).dv)<|Ft 66 (d:(h.B != (-1:Int)&&(Y (h.B<0)||Y ((h.P.length:Int)<=h.B)||(E9 h.P h.B).K != 1))=X) Fz;have b:(!Zm h.C||(h.W.length:Int) != h.C.pw*h.C.pg||(h.P.length:Int) != h.C.pg||h.S != 0&&h.S != 1)=X:=by grind[OD]
 have e:Z9 h=Z:=by grind[Z9]
 rw[e];exact gF [] func45 []<|Fh 7 [.call X (bL (Zm h.C)) []]<|Fh 12 [.int ↑h.W.length]<|Fh 19 [.int (h.C.pw*h.C.pg)]<|Fh 25 [.int ↑h.P.length]<|Fa ((EZ h.C):GP 51 [AV.ag [nI h.C.pw,nI h.C.pg]] X (bL (Zm h.C)) [])<|Fa ((λ_=>by grind):(!!Zm h.C)=X->(↑(L wD h.W).length:Int)=(h.W.length:Int))<|Fa (a:(!!Zm h.C)=X->M.wrap (h.C.pw*h.C.pg)=h.C.pw*h.C.pg)<|Fa ((λ_=>by grind):(!(!Zm h.C||(h.W.length:Int) != h.C.pw*h.C.pg))=X->(↑(L Z0.dv h.P).length:Int)=(h.P.length:Int))<|Ft 40 (b:(!Zm h.C||(h.W.length:Int) != h.C.pw*h.C.pg||(h.P.length:Int) != h.C.pg||h.S != 0&&h.S != 1)=X) Fz
end Go.Proofs.YtkmnngahjnkdmaaGreat
namespace Go.Proofs.YtkmnngahjnkdmaaGreat
open Go.Sx Go.RowKit
def ZlZ:ownKnob Tryz.prog.godebug=none:=by kernel_rfl
def Zcf:laidOutB prog=X:=by kernel_rfl
def Z3l{n:Nat}{l}(h:E4 prog (n+1) 3 l):∃x:Int,l=[Ze x]/\(O .i64 x).wf=X:=by
 have e:E4 prog (n+1) 3 l=(∃x:Int,l=[.sc (.int .i64 x)]/\(O .i64 x).wf=X):=by kernel_rfl
 rw[e]at h;exact h
def ZeG{n:Nat}{l}(h:E4 prog (n+1) 44 l):∃x:Int,l=[ZD x]/\(O .u64 x).wf=X:=by
 have e:E4 prog (n+1) 44 l=(∃x:Int,l=[.sc (.int .u64 x)]/\(O .u64 x).wf=X):=by kernel_rfl
 rw[e]at h;exact h
def Zk5{n:Nat}{l}(h:E4 prog (n+2) 23 l):∃c:ZU,l=[Ze c.pw,Ze c.pg]:=by
 have e:E4 prog (n+2) 23 l=(∃a b,l=a++b/\(∃x:Int,a=[.sc (.int .i64 x)]/\(O .i64 x).wf=X)/\∃d f,b=d++f/\(∃x:Int,d=[.sc (.int .i64 x)]/\(O .i64 x).wf=X)/\f=[]):=by kernel_rfl
 rw[e]at h;obtain⟨a,b,rfl,⟨x,rfl,_⟩,d,f,rfl,⟨y,rfl,_⟩,rfl⟩:=h;exact⟨⟨x,y⟩,rfl⟩
def range_u64{n:Int}(h:(O .u64 n).wf=X):0<=n/\n<=18446744073709551615:=by simp[Lit.wf,IntKind.min,IntKind.max,IntKind.signed,IntKind.bits]at h;omega
def Z3z{α β:Type}{f:α->β}:∀{l:List β},(∀x∈l,∃a,x=f a)->∃m:List α,l=m.map f
 |[],_=>⟨[],rfl⟩
 |x::l,h=>by
  obtain⟨a,rfl⟩:=h x pq;obtain⟨m,rfl⟩:=Z3z (l:=l) λy b=>h y (by simp[b]);exact⟨a::m,rfl⟩
def ZeB{n:Nat}{l}(h:E4 prog (n+2) 79 l):∃p:Z0,l=p.dv:=by
 have e:E4 prog (n+2) 79 l=(∃a b,l=a++b/\(∃x:Int,a=[.sc (.int .i64 x)]/\(O .i64 x).wf=X)/\∃f i,b=f++i/\(∃x:Int,f=[.sc (.int .i64 x)]/\(O .i64 x).wf=X) /\
  ∃c d,i=c++d/\(∃x:Int,c=[.sc (.int .i64 x)]/\(O .i64 x).wf=X)/\∃g j,d=g++j/\(∃x:Int,g=[.sc (.int .i64 x)]/\(O .i64 x).wf=X)/\j=[]):=by kernel_rfl
 rw[e]at h;obtain⟨a,b,rfl,⟨x,rfl,_⟩,f,i,rfl,⟨y,rfl,_⟩,a2,b2,rfl,⟨z,rfl,_⟩,g,j,rfl,⟨u,rfl,_⟩,rfl⟩:=h;exact⟨⟨x,y,z,u⟩,rfl⟩
def Zfi{n:Nat}{l}(h:E4 prog (n+3) 25 l):∃m:List Z0,l=[.sl 4 (m.map Z0.dv)]/\m.length<=140737488355328:=by
 have e:E4 prog (n+3) 25 l=(∃els:List (List DV),l=[.sl 4 els]/\els.length<=140737488355328/\∀x∈els,E4 prog (n+2) 79 x):=by kernel_rfl
 rw[e]at h;obtain⟨els,rfl,a,b⟩:=h;obtain⟨m,rfl⟩:=Z3z (f:=Z0.dv) λx c=>ZeB (b x c);exact⟨m,rfl,by simpa using a⟩
end Go.Proofs.YtkmnngahjnkdmaaGreat
