/-
 The statement CollectHeaps: part 6.
 Conditions: none.
-/
import Derived.IntWalk
import Derived.Test.YtgedmeaemofdkaaGreatRows
import Derived.Test.YtgedmeaemofdkaaGreatA5
set_option maxRecDepth 100000
set_option maxHeartbeats 2000000
set_option linter.all false
open Bool renaming true->X,false->Z,eq_iff_iff->Lh
open Decidable renaming decide->Y
open Go.IntKind renaming i64->M,u64->Lc
open List renaming map->L,replicate->Lb,getElem?_eq_some_iff->Lj
open Go.Lit renaming int->O
open Int renaming mul_le_mul_of_nonneg_right->La,mul_comm->Ld,ediv_le_self->Le,ediv_nonneg->Lf,mul_nonneg->Lg,add_mul->Li
open Go.Proofs.Tryz
namespace Go.Proofs.YtgedmeaemofdkaaGreat
open Go.Sx
abbrev GP:=GSpec prog
abbrev LP:=LentSpec prog
abbrev BP:=BorSpec prog
abbrev CP:=CSpec prog
structure B2 where
 pw:Int
 pg:Int
 deriving DecidableEq,Inhabited
def B2.av(c:B2):AV:=.ag [nI c.pw,nI c.pg]
def Zq(c:B2):Bool:=Y (16<=c.pw)&&Y (c.pw<=64)&&(c.pw.tmod 4==0)&&Y (8<=c.pg)&&Y (c.pg<=64)
def BF{c:B2}:Zq c=X↔16<=c.pw/\c.pw<=64/\c.pw.tmod 4=0/\8<=c.pg/\c.pg<=64:=by simp[Zq,and_assoc]
def Ed(c:B2):Int:=if Zq c=X then c.pg.tdiv 4 else 0
def Zc(c:B2):Int:=if Zq c=X then c.pw.tdiv 4 else 0
theorem BX{n:Int}(a:-9223372036854775808<=n)(b:n<=9223372036854775807):M.wrap n=n:=IntWalk.i64_in n ⟨a,b⟩
def GU{a b:Int}(h:0<=a):a.tdiv b=a/b:=Int.tdiv_eq_ediv_of_nonneg h
def Z5q{a b:Int}(h:0<=a):a.tmod b=a%b:=Int.tmod_eq_emod_of_nonneg h
def Ho(c:B2):GP 149 [c.av] X (bL (Zq c)) []:=by refine Zb [] [] [] dd func149 [] (φ:=(Y ((16:Int)<=c.pw)&&Y (c.pw<=(64:Int)))=X->(4:Int)=(0:Int)->False) ?_ kr kr;intro _ ;decide
def Gv(c:B2):GP 92 [c.av] X (bL (Zq c)) []:=by refine Zb [] [] [] dd func92 [] (φ:=(Y ((16:Int)<=c.pw)&&Y (c.pw<=(64:Int)))=X->(4:Int)=(0:Int)->False) ?_ kr kr;intro _ ;decide
def Zly(c:B2):GP 154 [c.av] X (nI (Ed c)) []:=by by_cases h:Zq c=X;have hv:=BF.1 h;have e:Ed c=c.pg.tdiv 4:=if_pos h;rw[e];exact gF [] func154 []<|Fh 8 [.int (c.pg.tdiv 4)]<|Fc 4 (@Ho c)<|Ff 5 (by simp[h]:(!Zq c)=Z)<|Fa ((BX (by rw[GU oq];omega) (by rw[GU oq];omega)):M.wrap (c.pg.tdiv 4)=c.pg.tdiv 4)<|Fa (by decide:(4:Int)=0->False) Fz;have e:Ed c=0:=if_neg h;rw[e];exact gF [] func154 []<|Fc 4 (@Ho c)<|Ft 5 (by simp[h]:(!Zq c)=X) Fz
def Mx(c:B2):GP 202 [c.av] X (nI (Ed c)) []:=by by_cases h:Zq c=X;have hv:=BF.1 h;have e:Ed c=c.pg.tdiv 4:=if_pos h;rw[e];exact gF [] func202 []<|Fh 8 [.int (c.pg.tdiv 4)]<|Fc 4 (@Gv c)<|Ff 5 (by simp[h]:(!Zq c)=Z)<|Fa ((BX (by rw[GU oq];omega) (by rw[GU oq];omega)):M.wrap (c.pg.tdiv 4)=c.pg.tdiv 4)<|Fa (by decide:(4:Int)=0->False) Fz;have e:Ed c=0:=if_neg h;rw[e];exact gF [] func202 []<|Fc 4 (@Gv c)<|Ft 5 (by simp[h]:(!Zq c)=X) Fz
def OR(c:B2):GP 151 [c.av] X (nI (Zc c)) []:=by by_cases h:Zq c=X;have hv:=BF.1 h;have e:Zc c=c.pw.tdiv 4:=if_pos h;rw[e];exact gF [] func151 []<|Fh 8 [.int (c.pw.tdiv 4)]<|Fc 4 (@Ho c)<|Ff 5 (by simp[h]:(!Zq c)=Z)<|Fa ((BX (by rw[GU oq];omega) (by rw[GU oq];omega)):M.wrap (c.pw.tdiv 4)=c.pw.tdiv 4)<|Fa (by decide:(4:Int)=0->False) Fz;have e:Zc c=0:=if_neg h;rw[e];exact gF [] func151 []<|Fc 4 (@Ho c)<|Ft 5 (by simp[h]:(!Zq c)=X) Fz
def Ng(c:B2):GP 93 [c.av] X (nI (Zc c)) []:=by by_cases h:Zq c=X;have hv:=BF.1 h;have e:Zc c=c.pw.tdiv 4:=if_pos h;rw[e];exact gF [] func93 []<|Fh 8 [.int (c.pw.tdiv 4)]<|Fc 4 (@Gv c)<|Ff 5 (by simp[h]:(!Zq c)=Z)<|Fa ((BX (by rw[GU oq];omega) (by rw[GU oq];omega)):M.wrap (c.pw.tdiv 4)=c.pw.tdiv 4)<|Fa (by decide:(4:Int)=0->False) Fz;have e:Zc c=0:=if_neg h;rw[e];exact gF [] func93 []<|Fc 4 (@Gv c)<|Ft 5 (by simp[h]:(!Zq c)=X) Fz
def need(c:B2)(n:Int):Int:=if Zq c=X/\1<=n/\n<=4*c.pw then(if n<=c.pw/4 then 0 else(n+c.pw-1)/c.pw)else -1
def Rn{c:B2}(h:Zq c=X):Zc c=c.pw/4:=by have hv:=BF.1 h;rw[Zc,if_pos h,GU oq]
def OT(c:B2) n:GP 97 [c.av,nI n] X (nI (need c n)) []:=by
 by_cases h:Zq c=X/\1<=n/\n<=4*c.pw;obtain⟨h,i,j⟩:=h;have b:=BF.1 h;by_cases a:n<=c.pw/4;have e:need c n=0:=by rw[need,if_pos ⟨h,i,j⟩,if_pos a]
 rw[e];exact gF [] func97 []<|Fh 7 [.call X (bL (Zq c)) []]<|Fh 17 [.int (4*c.pw)]<|Fh 19 [.br Z]<|Fh 23 [.call X (nI (Zc c)) []]<|Fh 24 [.br X]<|Fa ((Ho c):GP 149 [AV.ag [nI c.pw,nI c.pg]] X (bL (Zq c)) [])<|Fa ((λ_=>BX oq oq):(!(!Zq c||Y (n<1)))=X->M.wrap (4*c.pw)=4*c.pw)<|Fa (by simp[h];omega:(!Zq c||Y (n<1)||Y (4*c.pw<n))=Z)<|Fa ((OR c):GP 151 [AV.ag [nI c.pw,nI c.pg]] X (nI (Zc c)) [])<|Fa (by rw[Rn h];simpa using a:Y (n<=Zc c)=X) Fz;have e:need c n=(n+c.pw-1).tdiv c.pw:=by rw[need,if_pos ⟨h,i,j⟩,if_neg a,GU oq]
 have hq:(n+c.pw-1)/c.pw<=n+c.pw-1:=Le _ oq;have k:0<=(n+c.pw-1)/c.pw:=Lf oq oq;rw[e];exact gF [] func97 []<|Fh 7 [.call X (bL (Zq c)) []]<|Fh 17 [.int (4*c.pw)]<|Fh 19 [.br Z]<|Fh 23 [.call X (nI (Zc c)) []]<|Fh 24 [.br Z]<|Fh 28 [.int (n+c.pw)]<|Fh 29 [.int (n+c.pw-1)]<|Fh 32 [.int ((n+c.pw-1).tdiv c.pw)]<|Fa ((Ho c):GP 149 [AV.ag [nI c.pw,nI c.pg]] X (bL (Zq c)) [])<|Fa ((λ_=>BX oq oq):(!(!Zq c||Y (n<1)))=X->M.wrap (4*c.pw)=4*c.pw)<|Fa (by simp[h];omega:(!Zq c||Y (n<1)||Y (4*c.pw<n))=Z)<|Fa ((OR c):GP 151 [AV.ag [nI c.pw,nI c.pg]] X (nI (Zc c)) [])<|Fa (by rw[Rn h];simpa using a:Y (n<=Zc c)=Z)<|Fa ((BX oq oq):M.wrap (n+c.pw)=n+c.pw)<|Fa ((BX oq oq):M.wrap (n+c.pw-1)=n+c.pw-1)<|Fa ((BX (by rw[GU oq];omega) (by rw[GU oq];omega)):M.wrap ((n+c.pw-1).tdiv c.pw)=(n+c.pw-1).tdiv c.pw)<|Fo (c.pw=0->False) Fz;have e:need c n=-1:=if_neg h;rw[e];have d:((!(!Zq c||Y (n<(1:Int))))=X->M.wrap ((4:Int)*c.pw)=(4:Int)*c.pw):=by(intro g;simp at g;have b:=BF.1 g.1;exact BX oq oq)
 have f:(!Zq c||Y (n<(1:Int))||Y ((4:Int)*c.pw<n))=X:=by
  simp;cases b:Zq c with|false=>simp|true =>simp only[b,true_and]at h;simp;omega
 exact gF [] func97 []<|Fh 7 [.call X (bL (Zq c)) []]<|Fh 17 [.int (4*c.pw)]<|Fh 19 [.br X]<|Fa ((Ho c):GP 149 [AV.ag [nI c.pw,nI c.pg]] X (bL (Zq c)) [])<|Fa (d:(!(!Zq c||Y (n<1)))=X->M.wrap (4*c.pw)=4*c.pw)<|Fa (f:(!Zq c||Y (n<1)||Y (4*c.pw<n))=X) Fz
def Zi5{c:B2}{n:Int}{k:Nat}(h:Zq c=X)(a:1<=n)(h2:c.pw/4<n)(hk:k<=4)(b:((k:Int)-1)*c.pw<n)(h4:n<=k*c.pw):need c n=k:=by have hv:=BF.1 h;have h5:(k:Int)*c.pw<=4*c.pw:=La oq oq;rw[need,if_pos ⟨h,a,by omega⟩,if_neg oq];rw[Int.sub_mul]at b;refine Int.le_antisymm (Int.le_of_lt_add_one (Int.ediv_lt_of_lt_mul oq ?_)) (Int.le_ediv_of_mul_le oq oq);rw[Li];omega
def NE(c:B2)(n:Int)(k:Nat):Tg:=⟨tm 28 [(1,nI n),(2,.pt 8002 0 0),(4,nI 0),(5,nI k)],[(8002,.box 24 [nI c.pw,nI c.pg])],20⟩
def Z6n(c:B2)(n:Int)(k:Nat)(hw:c.pw<=64)(hw0:0<=c.pw)(hk:k<=4)(hn:k*c.pw<n):CP (Zl f47 0) (NE c n k).st .nrm (NE c n (k+1)).st:=by have hm:(k:Int)*c.pw<=4*c.pw:=La oq oq;have hm0:0<=(k:Int)*c.pw:=Lg oq oq;exact sF [] []<|Ftb 18 (Y ((k:Int)<=4))<|Fi 24 ((k:Int)*c.pw)<|Ffb 26 (Y (n<=(k:Int)*c.pw))<|Fx 20 k Fz
def RG(c:B2)(n:Int):GP 47 [c.av,nI n] X (nI (need c n)) []:=by
 by_cases h:Zq c=X/\1<=n
 .obtain⟨h,h1⟩:=h;have hv:=BF.1 h;by_cases h3:n<=c.pw/4
  .have e:need c n=0:=by rw[need,if_pos ⟨h,h1,by omega⟩,if_pos h3]
   rw[e];exact gF [] func47 []<|Fh 7 [.call X (bL (Zq c)) []]<|Fh 15 [.call X (nI (Zc c)) []]<|Fa ((Gv c):GP 92 [AV.ag [nI c.pw,nI c.pg]] X (bL (Zq c)) [])<|Ff 12 (by simp[h];omega:(!Zq c||Y (n<1))=Z)<|Fa ((Ng c):GP 93 [AV.ag [nI c.pw,nI c.pg]] X (nI (Zc c)) [])<|Ft 16 (by rw[Rn h];simpa using h3:Y (n<=Zc c)=X) Fz
  .by_cases h4:n<=4*c.pw
   .-- it is found
    have hk:∃k:Nat,1<=k/\k<=4/\((k:Int)-1)*c.pw<n/\n<=k*c.pw:=by
     by_cases a1:n<=c.pw
     .exact⟨1,by omega,by omega,by omega,by omega⟩
     by_cases a2:n<=2*c.pw
     .exact⟨2,by omega,by omega,by omega,by omega⟩
     by_cases a3:n<=3*c.pw
     .exact⟨3,by omega,by omega,by omega,by omega⟩
     .exact⟨4,by omega,by omega,by omega,by omega⟩
    obtain⟨k,k1,k4,klo,khi⟩:=hk;rw[Zi5 h h1 oq k4 klo khi];have qz0:CP (Zk f47 (0:Nat)) (NE c n (1:Nat)).st Ex.ret (Tg.mk (tm (28:Nat) [((4:Nat),nI (k:Int))]) [] (30:Nat)).st:=by
     obtain⟨j,rfl⟩:∃j,k=j+1:=⟨k-1,by omega⟩
     refine Ev (S:=λi=>(NE c n (i+1)).st) j kr (λi hi=>Z6n c n (i+1) oq oq oq ?_) ?_
     .have:((i+1:Nat):Int)*c.pw<=((j+1:Nat)-1:Int)*c.pw:=La oq oq;omega
     .have hm:((j+1:Nat):Int)*c.pw<=4*c.pw:=La oq oq;have hm0:0<=((j+1:Nat):Int)*c.pw:=Lg oq oq;refine Z6z [(18,[.br X]),(24,[.int ((j+1:Nat)*c.pw)]),(26,[.br X])] [] (φ:=Y ((↑(j+(1:Nat)):Int)<=(4:Int))=X/\X=X/\M.wrap ((↑(j+(1:Nat)):Int)*c.pw)=(↑(j+(1:Nat)):Int)*c.pw/\Y (n<=(↑(j+(1:Nat)):Int)*c.pw)=X/\X=X) ?_ kr kr kr;exact⟨decide_eq_true oq,rfl,BX oq oq,decide_eq_true oq,rfl⟩
    exact gF [] func47 []<|Fh 7 [.call X (bL (Zq c)) []]<|Fh 15 [.call X (nI (Zc c)) []]<|Fk (0,NE c n 1,.ret,⟨tm 28 [(4,nI k)],[],30⟩)<|Fa ((Gv c):GP 92 [AV.ag [nI c.pw,nI c.pg]] X (bL (Zq c)) [])<|Ff 12 (by simp[h];omega:(!Zq c||Y (n<1))=Z)<|Fa ((Ng c):GP 93 [AV.ag [nI c.pw,nI c.pg]] X (nI (Zc c)) [])<|Ff 16 (by rw[Rn h];simpa using h3:Y (n<=Zc c)=Z)<|Fa (qz0:CP (Zk f47 0) (NE c n 1).st Ex.ret (Tg.mk (tm 28 [(4,nI ↑k)]) [] 30).st) Fz
   .have e:need c n=-1:=by rw[need,if_neg oq]
    rw[e];have qz0:CP (Zk f47 (0:Nat)) (NE c n (1:Nat)).st Ex.nrm (Tg.mk (tm (28:Nat) []) [] (30:Nat)).st:=by
     refine Bp (S:=λi=>(NE c n (i+1)).st) 4 kr (λi hi=>Z6n c n (i+1) oq oq oq ?_) ?_
     .have:((i+1:Nat):Int)*c.pw<=4*c.pw:=La oq oq;omega
     .refine Z6z [(18,[.br Z])] [] (φ:=Y ((↑((4:Nat)+(1:Nat)):Int)<=(4:Int))=Z/\Z=Z) ?_ kr kr kr;exact⟨rfl,rfl⟩
    exact gF [] func47 []<|Fh 7 [.call X (bL (Zq c)) []]<|Fh 15 [.call X (nI (Zc c)) []]<|Fk (0,NE c n 1,.nrm,⟨tm 28 [],[],30⟩)<|Fa ((Gv c):GP 92 [AV.ag [nI c.pw,nI c.pg]] X (bL (Zq c)) [])<|Ff 12 (by simp[h];omega:(!Zq c||Y (n<1))=Z)<|Fa ((Ng c):GP 93 [AV.ag [nI c.pw,nI c.pg]] X (nI (Zc c)) [])<|Ff 16 (by rw[Rn h];simpa using h3:Y (n<=Zc c)=Z)<|Fa (qz0:CP (Zk f47 0) (NE c n 1).st Ex.nrm (Tg.mk (tm 28 []) [] 30).st) Fz
 .have e:need c n=-1:=if_neg λh'=>h ⟨h'.1,h'.2.1⟩;rw[e];have qz0:(!Zq c||Y (n<(1:Int)))=X:=by
   cases hv:Zq c with
   |false=>simp
   |true =>
    simp only[hv,true_and]at h;simp;omega
  exact gF [] func47 []<|Fh 7 [.call X (bL (Zq c)) []]<|Fa ((Gv c):GP 92 [AV.ag [nI c.pw,nI c.pg]] X (bL (Zq c)) [])<|Ft 12 (qz0:(!Zq c||Y (n<1))=X) Fz
def Dx{n:Int}(a:0<=n)(b:n<=18446744073709551615):Lc.wrap n=n:=IntWalk.u64_in n ⟨a,b⟩
def Hl{c:B2}(h:Zq c=X):128<=c.pw*c.pg/\c.pw*c.pg<=4096:=by have hv:=BF.1 h;have h1:16*c.pg<=c.pw*c.pg:=La oq oq;have h2:c.pw*c.pg<=64*c.pg:=La oq oq;omega
def Po{c:B2}{p o:Int}(h:Zq c=X)(h1:0<=p)(h2:p<c.pg)(_:0<=o)(h4:o<c.pw):0<=p*c.pw/\p*c.pw+o<c.pw*c.pg:=by have hv:=BF.1 h;have a:(p+1)*c.pw<=c.pg*c.pw:=La oq oq;have h6:0<=p*c.pw:=Lg oq oq;rw[Li,Ld c.pg]at a;omega
def inB(c:B2)(p o:Int):Bool:=Y (0<=p)&&Y (p<c.pg)&&Y (0<=o)&&Y (o<c.pw)
def HM{c}{p o:Int}:inB c p o=X↔0<=p/\p<c.pg/\0<=o/\o<c.pw:=by simp[inB,and_assoc]
def address(c:B2)(p o:Int):Int×Int:=if Zq c=X then(if inB c p o=X then(4096+(p*c.pw+o),0)else(0,2))else(0,1)
def Ef(c:B2)(p o:Int):AV:=.tu [uU (address c p o).1,nI (address c p o).2]
def MQ(c:B2) p o:GP 212 [c.av,nI p,nI o] X (Ef c p o) []:=by
 by_cases h:Zq c=X;have ha:=Hl h;by_cases a:inB c p o=X;obtain⟨g,p2,d,f⟩:=HM.1 a;have hi:=Po h g p2 d f;have e:Ef c p o=.tu [uU (4096+(p*c.pw+o)),nI 0]:=by rw[Ef,address,if_pos h,if_pos a]
 rw[e];exact gF [] func212 []<|Fh 11 [.br Z]<|Fh 30 [.br Z]<|Fc 10 (@Ho c)<|Fa (by simp[h]:(!Zq c)=Z)<|Fb ((Y (p<0)||Y (c.pg<=p)||Y (o<0)||Y (c.pw<=o))=Z)<|Fi 34 (p*c.pw)<|Fi 36 (p*c.pw+o)<|Fv 37 (p*c.pw+o)<|Fv 38 (4096+(p*c.pw+o)) Fz;have e:Ef c p o=.tu [uU 0,nI 2]:=by rw[Ef,address,if_pos h,if_neg a]
 rw[e];have b:(Y (p<(0:Int))||Y (c.pg<=p)||Y (o<(0:Int))||Y (c.pw<=o))=X:=by(rw[HM]at a;simp;omega)
 exact gF [] func212 []<|Fh 11 [.br Z]<|Fh 30 [.br X]<|Fc 10 (@Ho c)<|Fa (by simp[h]:(!Zq c)=Z)<|Fa (b:(Y (p<0)||Y (c.pg<=p)||Y (o<0)||Y (c.pw<=o))=X) Fz;have e:Ef c p o=.tu [uU 0,nI 1]:=by rw[Ef,address,if_neg h]
 rw[e];exact gF [] func212 []<|Fh 11 [.br X]<|Fc 10 (@Ho c)<|Fa (by simp[h]:(!Zq c)=X) Fz
def Pw(c:B2) p o:GP 194 [c.av,nI p,nI o] X (Ef c p o) []:=by
 by_cases h:Zq c=X;have ha:=Hl h;by_cases a:inB c p o=X;obtain⟨g,p2,d,f⟩:=HM.1 a;have hi:=Po h g p2 d f;have e:Ef c p o=.tu [uU (4096+p*c.pw+o),nI 0]:=by rw[Ef,address,if_pos h,if_pos a,Int.add_assoc]
 rw[e];exact gF [] func194 []<|Fc 9 (@Gv c)<|Ff 10 (by simp[h]:(!Zq c)=Z)<|Ffb 28 (Y (p<0)||Y (c.pg<=p)||Y (o<0)||Y (c.pw<=o))<|Fi 32 (p*c.pw)<|Fi 33 (4096+p*c.pw)<|Fi 35 (4096+p*c.pw+o)<|Fv 36 (4096+p*c.pw+o) Fz;have e:Ef c p o=.tu [uU 0,nI 2]:=by rw[Ef,address,if_pos h,if_neg a]
 rw[e];have b:(Y (p<(0:Int))||Y (c.pg<=p)||Y (o<(0:Int))||Y (c.pw<=o))=X:=by(rw[HM]at a;simp;omega)
 exact gF [] func194 []<|Fc 9 (@Gv c)<|Ff 10 (by simp[h]:(!Zq c)=Z)<|Ft 28 (b:(Y (p<0)||Y (c.pg<=p)||Y (o<0)||Y (c.pw<=o))=X) Fz;have e:Ef c p o=.tu [uU 0,nI 1]:=by rw[Ef,address,if_neg h]
 rw[e];exact gF [] func194 []<|Fc 9 (@Gv c)<|Ft 10 (by simp[h]:(!Zq c)=X) Fz
def Z3(c:B2)(a:Int):Int×Int×Int:=if Zq c=X then(if 4096<=a/\a<4096+c.pw*c.pg then((a-4096)/c.pw,(a-4096)%c.pw,0)else(0,0,2))else(0,0,1)
def B7(c:B2)(a:Int):AV:=.tu [nI (Z3 c a).1,nI (Z3 c a).2.1,nI (Z3 c a).2.2]
def Gb(c:B2)(a:Int)(a0:0<=a)(a1:a<=18446744073709551615):GP 96 [c.av,uU a] X (B7 c a) []:=by
 by_cases h:Zq c=X;have ha:=Hl h;have hv:=BF.1 h;by_cases b:4096<=a/\a<4096+c.pw*c.pg;have d1:0<=(a-4096)/c.pw:=Lf oq oq;have d2:(a-4096)/c.pw<=a-4096:=Le _ oq;have e:B7 c a=.tu [nI ((a-4096).tdiv c.pw),nI ((a-4096).tmod c.pw),nI 0]:=by rw[B7,Z3,if_pos h,if_pos b,GU oq,Z5q oq]
 rw[e];exact gF [] func96 []<|Fh 11 [.br Z]<|Fh 22 [.int (c.pw*c.pg)]<|Fh 23 [.int (c.pw*c.pg)]<|Fh 25 [.br Z]<|Fh 28 [.int (a-4096)]<|Fh 32 [.int ((a-4096).tdiv c.pw)]<|Fc 10 (@Ho c)<|Fa (by simp[h]:(!Zq c)=Z)<|Fa ((λ_=>Dx oq oq):(!decide (a<4096))=X->Lc.wrap (a-4096)=a-4096)<|Fa ((λ_=>BX oq oq):(!decide (a<4096))=X->M.wrap (c.pw*c.pg)=c.pw*c.pg)<|Fa ((λ_=>Dx oq oq):(!decide (a<4096))=X->Lc.wrap (c.pw*c.pg)=c.pw*c.pg)<|Fb ((Y (a<4096)||Y (c.pw*c.pg<=a-4096))=Z)<|Fv 17 (a-4096)<|Fi 27 (a-4096)<|Fa ((BX (by rw[GU oq];omega) (by rw[GU oq];omega)):M.wrap ((a-4096).tdiv c.pw)=(a-4096).tdiv c.pw)<|Fo (c.pw=0->False)<|Fo (c.pw=0->False) Fz;have e:B7 c a=.tu [nI 0,nI 0,nI 2]:=by rw[B7,Z3,if_pos h,if_neg b]
 rw[e];exact gF [] func96 []<|Fh 11 [.br Z]<|Fh 17 [.int (a-4096)]<|Fh 22 [.int (c.pw*c.pg)]<|Fh 23 [.int (c.pw*c.pg)]<|Fh 25 [.br X]<|Fc 10 (@Ho c)<|Fa (by simp[h]:(!Zq c)=Z)<|Fa ((λd=>Dx (by simp at d;omega) oq):(!decide (a<4096))=X->Lc.wrap (a-4096)=a-4096)<|Fa ((λ_=>BX oq oq):(!decide (a<4096))=X->M.wrap (c.pw*c.pg)=c.pw*c.pg)<|Fa ((λ_=>Dx oq oq):(!decide (a<4096))=X->Lc.wrap (c.pw*c.pg)=c.pw*c.pg)<|Fb ((Y (a<4096)||Y (c.pw*c.pg<=a-4096))=X) Fz;have e:B7 c a=.tu [nI 0,nI 0,nI 1]:=by rw[B7,Z3,if_neg h]
 rw[e];exact gF [] func96 []<|Fh 11 [.br X]<|Fc 10 (@Ho c)<|Fa (by simp[h]:(!Zq c)=X) Fz
def H5(c:B2)(a:Int)(a0:0<=a)(a1:a<=18446744073709551615):GP 44 [c.av,uU a] X (B7 c a) []:=by
 by_cases h:Zq c=X;have g:=Hl h;rw[Ld]at g;have hv:=BF.1 h;by_cases f:4096<=a/\a<4096+c.pg*c.pw;have d1:0<=(a-4096)/c.pw:=Lf oq oq;have d2:(a-4096)/c.pw<=a-4096:=Le _ oq;have e:B7 c a=.tu [nI ((a-4096).tdiv c.pw),nI ((a-4096).tmod c.pw),nI 0]:=by rw[B7,Z3,if_pos h,if_pos (by rw[Ld c.pw];exact f),GU oq,Z5q oq]
 rw[e];let b:=4096+c.pg*c.pw;exact gF [] func44 []<|Fh 19 [.int (c.pg*c.pw)]<|Fh 20 [.int b]<|Fh 21 [.int b]<|Fh 30 [.int ((a-4096).tdiv c.pw)]<|Fc 9 (@Gv c)<|Ff 10 (by simp[h]:(!Zq c)=Z)<|Fa ((λ_=>BX oq oq):(!decide (a<4096))=X->M.wrap (c.pg*c.pw)=c.pg*c.pw)<|Fa ((λ_=>BX oq oq):(!decide (a<4096))=X->M.wrap b=4096+c.pg*c.pw)<|Fa ((λ_=>Dx oq oq):(!decide (a<4096))=X->Lc.wrap b=4096+c.pg*c.pw)<|Ffb 23 (Y (a<4096)||Y (4096+c.pg*c.pw<=a))<|Fv 25 (a-4096)<|Fi 26 (a-4096)<|Fa ((BX (by rw[GU oq];omega) (by rw[GU oq];omega)):M.wrap ((a-4096).tdiv c.pw)=(a-4096).tdiv c.pw)<|Fo (c.pw=0->False)<|Fo (c.pw=0->False) Fz;have e:B7 c a=.tu [nI 0,nI 0,nI 2]:=by rw[B7,Z3,if_pos h,if_neg (by rw[Ld c.pw];exact f)]
 rw[e];let d:=4096+c.pg*c.pw;exact gF [] func44 []<|Fh 19 [.int (c.pg*c.pw)]<|Fh 20 [.int d]<|Fh 21 [.int d]<|Fc 9 (@Gv c)<|Ff 10 (by simp[h]:(!Zq c)=Z)<|Fa ((λ_=>BX oq oq):(!decide (a<4096))=X->M.wrap (c.pg*c.pw)=c.pg*c.pw)<|Fa ((λ_=>BX oq oq):(!decide (a<4096))=X->M.wrap d=4096+c.pg*c.pw)<|Fa ((λ_=>Dx oq oq):(!decide (a<4096))=X->Lc.wrap d=4096+c.pg*c.pw)<|Ftb 23 (Y (a<4096)||Y (4096+c.pg*c.pw<=a)) Fz;have e:B7 c a=.tu [nI 0,nI 0,nI 1]:=by rw[B7,Z3,if_neg h]
 rw[e];exact gF [] func44 []<|Fc 9 (@Gv c)<|Ft 10 (by simp[h]:(!Zq c)=X) Fz
structure Z0 where
 K:Int
 S:Int
 U:Int
 N:Int
 deriving DecidableEq,Inhabited
def Z0.dv(p:Z0):List DV:=[Zd p.K,Zd p.S,Zd p.U,Zd p.N]
def Z0.av(p:Z0):AV:=.ag [nI p.K,nI p.S,nI p.U,nI p.N]
def ZT(l:List Z0):AV:=.d (.sl 4 (l.map Z0.dv))
def Hp(p:Z0):Bool:=Y (p=⟨0,0,0,0⟩)
def H6(p:Z0):Bool:=(p.S==0)||(p.S==1)
def N3(p:Z0):Bool:=Y (0<=p.N)&&Y (p.N<=2147483647)
def IY(p:Z0)(c:B2):Bool:=H6 p&&N3 p&&Y (0<=p.U)&&Y (p.U<=c.pw)
def GB(p:Z0)(c:B2):Bool:=H6 p&&N3 p&&Y (1<=need c p.U)
def HC(p q:Z0):Bool:=Y (p=⟨3,q.S,0,0⟩)
def Z1J(p:Z0):GP 222 [p.av] X (bL (H6 p)) []:=by refine Zb [] [] [] dd func222 [] (φ:=True) ?_ kr kr;trivial
def Z4X(p:Z0):GP 223 [p.av] X (bL (N3 p)) []:=by refine Zb [] [] [] dd func223 [] (φ:=True) ?_ kr kr;trivial
def entryFree(p:Z0)(c:B2):GP 195 [p.av,c.av] X (bL (Hp p)) []:=by refine Zb [((7:Nat),[Hint.br (Hp p)])] [] [] dd func195 [] (φ:=(p.K==(0:Int)&&(p.S==(0:Int)&&(p.U==(0:Int)&&p.N==(0:Int))))=Hp p) ?_ kr kr;rw[Lh];cases p;simp[Hp]
def Z63(p:Z0)(c:B2):GP 196 [p.av,c.av] X (bL (IY p c)) []:=by exact gF [] func196 []<|Fc 6 (@Z1J p)<|FcG 9 (H6 p) (λhg=>@Z4X p) Fz
def Z0k(p:Z0)(c:B2):GP 197 [p.av,c.av] X (bL (GB p c)) []:=by exact gF [] func197 []<|Fc 6 (@Z1J p)<|FcG 9 (H6 p) (λa=>@Z4X p)<|FcG 15 (H6 p&&N3 p) (λa=>@OT c p.U) Fz
def Z87(p q:Z0):GP 198 [p.av,q.av] X (bL (HC p q)) []:=by refine Zb [((9:Nat),[Hint.br (HC p q)])] [] [] dd func198 [] (φ:=(p.K==(3:Int)&&(p.S==q.S&&(p.U==(0:Int)&&p.N==(0:Int))))=HC p q) ?_ kr kr;rw[Lh];cases p;simp[HC]
def NK(p:Z0)(l:List Z0):Bool:=l.all λq=>HC q p
def C8(c:B2)(l:List Z0)(i:Nat):Nat:=match l[i]? with
 |none=>0
 |some p =>
  if p.K=0 then(if Hp p=X then 1 else 0)
  else if p.K=1 then(if IY p c=X then 1 else 0)
  else if p.K=2 then(if GB p c=X then(if(need c p.U).toNat<=l.length-i/\NK p ((l.drop (i+1)).take ((need c p.U).toNat-1))=X then(need c p.U).toNat else 0)else 0)
  else 0
def GF{l:List Z0}{i:Nat}{p:Z0}(h:l[i]?=some p):(l.map Z0.dv)[((i:Nat):Int).toNat]?=some p.dv:=by simp[h]
def ZaB(c:B2)(l:List Z0)(i:Nat)(p:Z0)(hp:l[i]?=some p)(hk:p.K<0\/3<=p.K):GP 150 [c.av,ZT l,nI i] X (nI (C8 c l i)) []:=by
 have e:C8 c l i=0:=by grind[C8]
 rw[e];exact gF [] func150 []<|Fh 15 [.el p.dv]<|Fh 28 [.int 0]<|Fh 32 [.call X (bL (Hp p)) []]<|Fa (by grind:0<=(i:Int)/\(L Z0.dv l)[(i:Int).toNat]?=some p.dv)<|Fa (by grind:(!(Y (p.K<0)||Y (3<=p.K)))=X->p.K=0)<|Fa (by grind:(!(Y (p.K<0)||Y (3<=p.K)))=X->GP 195 [AV.ag [nI p.K,nI p.S,nI p.U,nI p.N],AV.ag [nI c.pw,nI c.pg]] X (bL (Hp p)) [])<|Ftb 34 (Y (p.K<0)||Y (3<=p.K)||!Hp p) Fz
theorem ZgD(c:B2)(l:List Z0)(i:Nat)(sp us pi:Int)(hp:l[i]?=some ⟨0,sp,us,pi⟩):GSpec Tryz.prog 150 [c.av,ZT l,nI i] true (nI (C8 c l i)) []:=by
 cases hf:Hp ⟨0,sp,us,pi⟩with
 |true =>
  have e:C8 c l i=1:=by grind[C8]
  rw[e]
  exact gE [(15,[Hint.el (Z0.mk 0 sp us pi).dv]),(32,[Hint.call true (bL (Hp (Z0.mk 0 sp us pi))) []]),bF 34] [] [] Tryz.func150 [] (an ((⟨by omega,GF hp⟩):0≤(↑i:Int)∧(List.map Z0.dv l)[(↑i:Int).toNat]?=some (Z0.mk 0 sp us pi).dv) (an ((fun hg=>@entryFree _ c):(!(decide ((Z0.mk 0 sp us pi).K<0)||decide (3≤(Z0.mk 0 sp us pi).K)))=true→GSpec Tryz.prog 195 [AV.ag [nI (Z0.mk 0 sp us pi).K,nI (Z0.mk 0 sp us pi).S,nI (Z0.mk 0 sp us pi).U,nI (Z0.mk 0 sp us pi).N],AV.ag [nI c.pw,nI c.pg]] true (bL (Hp (Z0.mk 0 sp us pi))) []) (an (by simp[hf]:(decide ((Z0.mk 0 sp us pi).K<0)||decide (3≤(Z0.mk 0 sp us pi).K)||!Hp (Z0.mk 0 sp us pi))=false) (rf false))))
 |false =>
  have e:C8 c l i=0:=by grind[C8]
  rw[e]
  exact gE [(15,[Hint.el (Z0.mk 0 sp us pi).dv]),(32,[Hint.call true (bL (Hp (Z0.mk 0 sp us pi))) []]),bT 34] [] [] Tryz.func150 [] (an ((⟨by omega,GF hp⟩):0≤(↑i:Int)∧(List.map Z0.dv l)[(↑i:Int).toNat]?=some (Z0.mk 0 sp us pi).dv) (an ((fun hg=>@entryFree _ c):(!(decide ((Z0.mk 0 sp us pi).K<0)||decide (3≤(Z0.mk 0 sp us pi).K)))=true→GSpec Tryz.prog 195 [AV.ag [nI (Z0.mk 0 sp us pi).K,nI (Z0.mk 0 sp us pi).S,nI (Z0.mk 0 sp us pi).U,nI (Z0.mk 0 sp us pi).N],AV.ag [nI c.pw,nI c.pg]] true (bL (Hp (Z0.mk 0 sp us pi))) []) (an (by simp[hf]:(decide ((Z0.mk 0 sp us pi).K<0)||decide (3≤(Z0.mk 0 sp us pi).K)||!Hp (Z0.mk 0 sp us pi))=true) tt)))
theorem ZaS(c:B2)(l:List Z0)(i:Nat)(sp us pi:Int)(hp:l[i]?=some ⟨1,sp,us,pi⟩):GSpec Tryz.prog 150 [c.av,ZT l,nI i] true (nI (C8 c l i)) []:=by
 cases hf:IY ⟨1,sp,us,pi⟩ c with
 |true =>
  have e:C8 c l i=1:=by grind[C8]
  rw[e]
  exact gE [(15,[Hint.el (Z0.mk 1 sp us pi).dv]),(32,[Hint.call true (bL (IY (Z0.mk 1 sp us pi) c)) []]),bF 34] [] [] Tryz.func150 [] (an ((⟨by omega,GF hp⟩):0≤(↑i:Int)∧(List.map Z0.dv l)[(↑i:Int).toNat]?=some (Z0.mk 1 sp us pi).dv) (an ((fun hg=>@Z63 _ c):(!(decide ((Z0.mk 1 sp us pi).K<0)||decide (3≤(Z0.mk 1 sp us pi).K)))=true→GSpec Tryz.prog 196 [AV.ag [nI (Z0.mk 1 sp us pi).K,nI (Z0.mk 1 sp us pi).S,nI (Z0.mk 1 sp us pi).U,nI (Z0.mk 1 sp us pi).N],AV.ag [nI c.pw,nI c.pg]] true (bL (IY (Z0.mk 1 sp us pi) c)) []) (an (by simp[hf]:(decide ((Z0.mk 1 sp us pi).K<0)||decide (3≤(Z0.mk 1 sp us pi).K)||!IY (Z0.mk 1 sp us pi) c)=false) (rf false))))
 |false =>
  have e:C8 c l i=0:=by grind[C8]
  rw[e]
  exact gE [(15,[Hint.el (Z0.mk 1 sp us pi).dv]),(32,[Hint.call true (bL (IY (Z0.mk 1 sp us pi) c)) []]),bT 34] [] [] Tryz.func150 [] (an ((⟨by omega,GF hp⟩):0≤(↑i:Int)∧(List.map Z0.dv l)[(↑i:Int).toNat]?=some (Z0.mk 1 sp us pi).dv) (an ((fun hg=>@Z63 _ c):(!(decide ((Z0.mk 1 sp us pi).K<0)||decide (3≤(Z0.mk 1 sp us pi).K)))=true→GSpec Tryz.prog 196 [AV.ag [nI (Z0.mk 1 sp us pi).K,nI (Z0.mk 1 sp us pi).S,nI (Z0.mk 1 sp us pi).U,nI (Z0.mk 1 sp us pi).N],AV.ag [nI c.pw,nI c.pg]] true (bL (IY (Z0.mk 1 sp us pi) c)) []) (an (by simp[hf]:(decide ((Z0.mk 1 sp us pi).K<0)||decide (3≤(Z0.mk 1 sp us pi).K)||!IY (Z0.mk 1 sp us pi) c)=true) tt)))
def IG(p:Z0)(s:List Z0)(k:Nat)(j:Nat):Tg:=⟨tm 66 [(6,nI 0),(8,.pt 24008 0 0),(9,nI k),(54,ZT s),(55,nI s.length),(56,nI j)],[(24008,.box 243 [nI p.K,nI p.S,nI p.U,nI p.N])],40⟩
def Md{α:Type}{f:α->Bool}:∀{l:List α},l.all f=Z->∃(j:Nat) (x:α),l[j]?=some x/\f x=Z/\∀i:Nat,i<j->∃y:α,l[i]?=some y/\f y=X
 |[],h=>by simp at h
 |a::l,h=>by
  cases ha:f a with
  |false=>exact⟨0,a,rfl,ha,λi d=>by omega⟩
  |true =>
   have:l.all f=Z:=by grind
   obtain⟨j,x,b,c,h3⟩:=Md this;refine⟨j+1,x,by simpa using b,c,λi d=>?_⟩;cases i<;>grind
def Z83(p:Z0)(s:List Z0)(k j:Nat)(q:Z0)(hs:s.length<=281474976710656)(hq:s[j]?=some q)(ht:HC q p=X):CP (Zl f150 0) (IG p s k j).st .nrm (IG p s k (j+1)).st:=by have hj:j<s.length:=(Lj.1 hq).1;exact sF [] []<|Fh 58 [.el q.dv]<|Ftb 57 (Y ((j:Int)<(s.length:Int)))<|Fa ((⟨by omega,GF hq⟩):0<=(j:Int)/\(L Z0.dv s)[(j:Int).toNat]?=some q.dv)<|Fc 62 (@Z87 q p)<|Ff 63 (by simp[ht]:(!HC q p)=Z)<|Fx 64 j Fz
def Zgf(p:Z0)(s:List Z0)(k j:Nat)(q:Z0)(hq:s[j]?=some q)(ht:HC q p=Z):CP (Zl f150 0) (IG p s k j).st .ret (Tg.st ⟨tm 66 [(6,nI 0)],[],60⟩):=by have hj:j<s.length:=(Lj.1 hq).1;exact sF [] []<|Fh 58 [.el q.dv]<|Ftb 57 (Y ((j:Int)<(s.length:Int)))<|Fa ((⟨by omega,GF hq⟩):0<=(j:Int)/\(L Z0.dv s)[(j:Int).toNat]?=some q.dv)<|Fc 62 (@Z87 q p)<|Ft 63 (by simp[ht]:(!HC q p)=X) Fz
def ZeJ p s k:CP (Zl f150 0) (IG p s k s.length).st (.ext 0) (Tg.st ⟨tm 66 [(9,nI k)],[],60⟩):=by exact sF [] []<|Ffb 57 (Y ((s.length:Int)<(s.length:Int))) Fz
theorem Zgq(c:B2)(l:List Z0)(hl:l.length≤281474976710656)(i:Nat)(sp us pi:Int)(hp:l[i]?=some ⟨2,sp,us,pi⟩):GSpec Tryz.prog 150 [c.av,ZT l,nI i] true (nI (C8 c l i)) []:=by
 have hi:i<l.length:=(List.getElem?_eq_some_iff.1 hp).1
 cases hf:GB ⟨2,sp,us,pi⟩ c with
 |false =>
  have e:C8 c l i=0:=by grind[C8]
  rw[e]
  exact gE [(15,[Hint.el (Z0.mk 2 sp us pi).dv]),(32,[Hint.call true (bL (GB (Z0.mk 2 sp us pi) c)) []]),bT 34] [] [] Tryz.func150 [] (an ((⟨by omega,GF hp⟩):0≤(↑i:Int)∧(List.map Z0.dv l)[(↑i:Int).toNat]?=some (Z0.mk 2 sp us pi).dv) (an ((fun hg=>@Z0k _ c):(!(decide ((Z0.mk 2 sp us pi).K<0)||decide (3≤(Z0.mk 2 sp us pi).K)))=true→GSpec Tryz.prog 197 [AV.ag [nI (Z0.mk 2 sp us pi).K,nI (Z0.mk 2 sp us pi).S,nI (Z0.mk 2 sp us pi).U,nI (Z0.mk 2 sp us pi).N],AV.ag [nI c.pw,nI c.pg]] true (bL (GB (Z0.mk 2 sp us pi) c)) []) (an (by simp[hf]:(decide ((Z0.mk 2 sp us pi).K<0)||decide (3≤(Z0.mk 2 sp us pi).K)||!GB (Z0.mk 2 sp us pi) c)=true) tt)))
 |true =>
  have hn:1≤need c us:=by grind[GB]
  obtain⟨k,hk⟩:∃k:Nat,need c us=k:=⟨(need c us).toNat,by omega⟩
  have hk1:1≤k:=by omega
  by_cases hfit:k≤l.length-i
  ·have hsl:((l.drop (i+1)).take (k-1)).length≤281474976710656:=by grind
   have hsub:List.take (((i+k:Nat):Int).toNat-((i+1:Nat):Int).toNat) (List.drop ((i+1:Nat):Int).toNat (List.map Z0.dv l))=List.map Z0.dv (List.take (k-1) (List.drop (i+1) l)):=by grind[List.map_take,List.map_drop]
   cases ht:NK ⟨2,sp,us,pi⟩ ((l.drop (i+1)).take (k-1))with
   |true =>
    have e:C8 c l i=k:=by grind[C8]
    rw[e]
    have qz0:CSpec Tryz.prog (Zk Tryz.f150 (0:Nat)) (IG (Z0.mk (2:Int) sp us pi) (List.take (k-(1:Nat)) (List.drop (i+(1:Nat)) l)) k (0:Nat)).st Ex.nrm (Tg.mk (tm (66:Nat) [((9:Nat),nI (↑k:Int))]) [] (60:Nat)).st:=by
     have hall:=List.all_eq_true.1 ht
     refine Bp (S:=fun j=>(IG ⟨2,sp,us,pi⟩ ((l.drop (i+1)).take (k-1)) k j).st) ((l.drop (i+1)).take (k-1)).length (by kernel_rfl) (fun j hj=>?_) (ZeJ _ _ _)
     exact Z83 _ _ _ j _ hsl (List.getElem?_eq_getElem hj) (hall _ (List.getElem_mem hj))
    exact gE [(15,[Hint.el (Z0.mk 2 sp us pi).dv]),(32,[Hint.call true (bL (GB (Z0.mk 2 sp us pi) c)) []]),bF 34,(41,[Hint.call true (nI ↑k) []]),(46,[Hint.int ((↑l.length:Int)-(↑i:Int))]),bF 47,(50,[Hint.int (↑(i+1):Int)]),(53,[Hint.int (↑(i+k):Int)]),(54,[Hint.els (((l.drop (i+1)).take (k-1)).map Z0.dv)]),(55,[Hint.int (↑(List.take (k-1) (List.drop (i+1) l)).length:Int)])] [Zlx (@qz0)] [] Tryz.func150 [] (an ((⟨by omega,GF hp⟩):0≤(↑i:Int)∧(List.map Z0.dv l)[(↑i:Int).toNat]?=some (Z0.mk 2 sp us pi).dv) (an ((fun hg=>@Z0k _ c):(!(decide ((Z0.mk 2 sp us pi).K<0)||decide (3≤(Z0.mk 2 sp us pi).K)))=true→GSpec Tryz.prog 197 [AV.ag [nI (Z0.mk 2 sp us pi).K,nI (Z0.mk 2 sp us pi).S,nI (Z0.mk 2 sp us pi).U,nI (Z0.mk 2 sp us pi).N],AV.ag [nI c.pw,nI c.pg]] true (bL (GB (Z0.mk 2 sp us pi) c)) []) (an (by simp[hf]:(decide ((Z0.mk 2 sp us pi).K<0)||decide (3≤(Z0.mk 2 sp us pi).K)||!GB (Z0.mk 2 sp us pi) c)=false) (an (rf false) (an (@hk▸OT c us) (an (by grind[BX]:IntKind.i64.wrap ((↑(List.map Z0.dv l).length:Int)-(↑i:Int))=(↑l.length:Int)-(↑i:Int)) (an (bo (decide ((↑l.length:Int)-(↑i:Int)<(↑k:Int))=false)) (an (rf false) (an (wI (IntKind.i64.wrap ((↑i:Int)+1)=(↑(i+1):Int))) (an (wI (IntKind.i64.wrap ((↑i:Int)+(↑k:Int))=(↑(i+k):Int))) (an (by grind:0≤(↑(i+1):Int)∧(↑(i+1):Int)≤(↑(i+k):Int)∧(↑(i+k):Int)≤(↑(List.map Z0.dv l).length:Int)) (an (hsub:List.take ((↑(i+k):Int).toNat-(↑(i+1):Int).toNat) (List.drop (↑(i+1):Int).toNat (List.map Z0.dv l))=List.map Z0.dv (List.take (k-1) (List.drop (i+1) l))) (an (by grind:(↑(List.map Z0.dv (List.take (k-1) (List.drop (i+1) l))).length:Int)=(↑(List.take (k-1) (List.drop (i+1) l)).length:Int)) (@qz0))))))))))))))
   |false =>
    have e:C8 c l i=0:=by grind[C8]
    rw[e]
    have qz0:CSpec Tryz.prog (Zk Tryz.f150 (0:Nat)) (IG (Z0.mk (2:Int) sp us pi) (List.take (k-(1:Nat)) (List.drop (i+(1:Nat)) l)) k (0:Nat)).st Ex.ret (Tg.mk (tm (66:Nat) [((6:Nat),nI (0:Int))]) [] (60:Nat)).st:=by
     obtain⟨n,x,h1,h2,h3⟩:=Md ht
     refine Ev (S:=fun j=>(IG ⟨2,sp,us,pi⟩ ((l.drop (i+1)).take (k-1)) k j).st) n (by kernel_rfl) (fun j hj=>?_) (Zgf _ _ _ n x h1 h2)
     obtain⟨y,h4,h5⟩:=h3 j hj
     exact Z83 _ _ _ j y hsl h4 h5
    exact gE [(15,[Hint.el (Z0.mk 2 sp us pi).dv]),(32,[Hint.call true (bL (GB (Z0.mk 2 sp us pi) c)) []]),bF 34,(41,[Hint.call true (nI ↑k) []]),(46,[Hint.int ((↑l.length:Int)-(↑i:Int))]),bF 47,(50,[Hint.int (↑(i+1):Int)]),(53,[Hint.int (↑(i+k):Int)]),(54,[Hint.els (((l.drop (i+1)).take (k-1)).map Z0.dv)]),(55,[Hint.int (↑(List.take (k-1) (List.drop (i+1) l)).length:Int)])] [Zlx (@qz0)] [] Tryz.func150 [] (an ((⟨by omega,GF hp⟩):0≤(↑i:Int)∧(List.map Z0.dv l)[(↑i:Int).toNat]?=some (Z0.mk 2 sp us pi).dv) (an ((fun hg=>@Z0k _ c):(!(decide ((Z0.mk 2 sp us pi).K<0)||decide (3≤(Z0.mk 2 sp us pi).K)))=true→GSpec Tryz.prog 197 [AV.ag [nI (Z0.mk 2 sp us pi).K,nI (Z0.mk 2 sp us pi).S,nI (Z0.mk 2 sp us pi).U,nI (Z0.mk 2 sp us pi).N],AV.ag [nI c.pw,nI c.pg]] true (bL (GB (Z0.mk 2 sp us pi) c)) []) (an (by simp[hf]:(decide ((Z0.mk 2 sp us pi).K<0)||decide (3≤(Z0.mk 2 sp us pi).K)||!GB (Z0.mk 2 sp us pi) c)=false) (an (rf false) (an (@hk▸OT c us) (an (by grind[BX]:IntKind.i64.wrap ((↑(List.map Z0.dv l).length:Int)-(↑i:Int))=(↑l.length:Int)-(↑i:Int)) (an (bo (decide ((↑l.length:Int)-(↑i:Int)<(↑k:Int))=false)) (an (rf false) (an (wI (IntKind.i64.wrap ((↑i:Int)+1)=(↑(i+1):Int))) (an (wI (IntKind.i64.wrap ((↑i:Int)+(↑k:Int))=(↑(i+k):Int))) (an (by grind:0≤(↑(i+1):Int)∧(↑(i+1):Int)≤(↑(i+k):Int)∧(↑(i+k):Int)≤(↑(List.map Z0.dv l).length:Int)) (an (hsub:List.take ((↑(i+k):Int).toNat-(↑(i+1):Int).toNat) (List.drop (↑(i+1):Int).toNat (List.map Z0.dv l))=List.map Z0.dv (List.take (k-1) (List.drop (i+1) l))) (an (by grind:(↑(List.map Z0.dv (List.take (k-1) (List.drop (i+1) l))).length:Int)=(↑(List.take (k-1) (List.drop (i+1) l)).length:Int)) (@qz0))))))))))))))
  ·have e:C8 c l i=0:=by grind[C8]
   rw[e]
   exact gE [(15,[Hint.el (Z0.mk 2 sp us pi).dv]),(32,[Hint.call true (bL (GB (Z0.mk 2 sp us pi) c)) []]),bF 34,(41,[Hint.call true (nI ↑k) []]),(46,[Hint.int ((↑l.length:Int)-(↑i:Int))]),bT 47] [] [] Tryz.func150 [] (an ((⟨by omega,GF hp⟩):0≤(↑i:Int)∧(List.map Z0.dv l)[(↑i:Int).toNat]?=some (Z0.mk 2 sp us pi).dv) (an ((fun hg=>@Z0k _ c):(!(decide ((Z0.mk 2 sp us pi).K<0)||decide (3≤(Z0.mk 2 sp us pi).K)))=true→GSpec Tryz.prog 197 [AV.ag [nI (Z0.mk 2 sp us pi).K,nI (Z0.mk 2 sp us pi).S,nI (Z0.mk 2 sp us pi).U,nI (Z0.mk 2 sp us pi).N],AV.ag [nI c.pw,nI c.pg]] true (bL (GB (Z0.mk 2 sp us pi) c)) []) (an (by simp[hf]:(decide ((Z0.mk 2 sp us pi).K<0)||decide (3≤(Z0.mk 2 sp us pi).K)||!GB (Z0.mk 2 sp us pi) c)=false) (an (rf false) (an (@hk▸OT c us) (an (by grind[BX]:IntKind.i64.wrap ((↑(List.map Z0.dv l).length:Int)-(↑i:Int))=(↑l.length:Int)-(↑i:Int)) (an (bo (decide ((↑l.length:Int)-(↑i:Int)<(↑k:Int))=true)) tt)))))))
def Z6c(c:B2)(l:List Z0)(hl:l.length<=281474976710656)(i:Nat)(g:i<l.length):GP 150 [c.av,ZT l,nI i] X (nI (C8 c l i)) []:=by obtain⟨p,a⟩:∃p,l[i]?=some p:=⟨l[i],List.getElem?_eq_getElem g⟩;obtain⟨kd,sp,us,b⟩:=p;by_cases d:kd=0;subst d;exact ZgD c l i sp us b a;by_cases e:kd=1;subst e;exact ZaS c l i sp us b a;by_cases f:kd=2;subst f;exact Zgq c l hl i sp us b a;exact ZaB c l i _ a (by grind)
def Z2(l:List Int):AV:=.d (.sl 1 (l.map wD))
structure Heap where
 C:B2
 W:List Int
 P:List Z0
 S:Int
 B:Int
 deriving DecidableEq,Inhabited
def Heap.cells(h:Heap):List AV:=[nI h.C.pw,nI h.C.pg,Z2 h.W,ZT h.P,nI h.S,nI h.B]
def Heap.av(h:Heap):AV:=.ag h.cells
def ZY:Heap:=⟨⟨0,0⟩,[],[],0,0⟩
def Rp(c:B2):Heap:=⟨c,Lb (c.pw*c.pg).toNat 0,Lb c.pg.toNat ⟨0,0,0,0⟩,0,-1⟩
def ZaR(c:B2)(h:Zq c=X):GP 100 [c.av] Z (.tu [(Rp c).av,nI 0]) []:=by
 have hv:=BF.1 h;have ha:=Hl h;rw[Ld]at ha;have hc:=Ld c.pw c.pg;exact gF [] func100 []<|Fh 14 [.els ((Lb (c.pw*c.pg).toNat 0).map wD)]<|Fh 17 [.els ((Lb c.pg.toNat (⟨0,0,0,0⟩:Z0)).map Z0.dv)]<|Fc 5 (@Gv c)<|Ff 6 (by simp[h]:(!Zq c)=Z)<|Fg 13 (by grind[BX]:M.wrap (c.pg*c.pw)=(↑(c.pw*c.pg).toNat:Int))<|Fa ((⟨by omega,by omega,by simp;omega⟩):0<=(↑(c.pw*c.pg).toNat:Int)/\(↑(c.pw*c.pg).toNat:Int)<=(↑(c.pw*c.pg).toNat:Int)/\(↑(c.pw*c.pg).toNat:Int)*((↑(nat_lit 7):Int)+1)<=2^48)<|Fa (by rw[List.map_replicate];rfl:Lb (↑(c.pw*c.pg).toNat:Int).toNat [ZD 0]=L wD (Lb (c.pw*c.pg).toNat 0))<|Fa ((⟨by omega,by omega,by simp;omega⟩):0<=c.pg/\c.pg<=c.pg/\c.pg*((↑(nat_lit 31):Int)+1)<=2^48)<|Fa (by simp[Z0.dv,wD]:Lb c.pg.toNat [Zd 0,Zd 0,Zd 0,Zd 0]=L Z0.dv (Lb c.pg.toNat (Z0.mk 0 0 0 0))) Fz
def CL(l:List Z0)(i:Int):Z0:=l[i.toNat]?.getD ⟨0,0,0,0⟩
theorem ZeN{l:List Z0}{i:Int}(h:i.toNat<l.length):l[i.toNat]?=some (CL l i):=by grind[CL]
def Mm(h:Heap):Bool:=(h.B==-1)||(Y (0<=h.B)&&Y (h.B<h.P.length)&&((CL h.P h.B).K==1))
def Z04(h:Heap):Bool:=Zq h.C&&((h.W.length:Int)==h.C.pw*h.C.pg)&&((h.P.length:Int)==h.C.pg)&&((h.S==0)||(h.S==1))
def GC(c:B2)(l:List Z0):Nat->Nat->Bool|0,i=>Y (l.length<=i)|f+1,i=>if i<l.length then(if C8 c l i=0 then Z else GC c l f (i+C8 c l i))else X
def Z8(h:Heap):Bool:=Z04 h&&(Mm h&&GC h.C h.P h.P.length 0)
def NB(h:Heap)(i:Nat):Tg:=⟨tm 83 [(1,.pt 8001 0 0),(2,bL Z),(3,nI i)],[(8001,.box 28 h.cells)],50⟩
def ZaL{c}{l:List Z0}{i:Nat}(hi:i<l.length):i+C8 c l i<=l.length:=by grind[C8]
def Z4j(h:Heap)(i:Nat)(hl:h.P.length<=281474976710656)(hi:i<h.P.length)(hs:C8 h.C h.P i≠0):CP (Zl f94 0) (NB h i).st .nrm (NB h (i+C8 h.C h.P i)).st:=by have hle:=ZaL (c:=h.C) hi;exact sF [] []<|Fg 70 (by grind:(↑(L Z0.dv h.P).length:Int)=(h.P.length:Int))<|Ftb 71 (Y ((i:Int)<(h.P.length:Int)))<|Fc 77 (@Z6c h.C h.P hl i hi)<|Ffb 79 ((↑(C8 h.C h.P i):Int)==0)<|Fw 82 ((i:Int)+(↑(C8 h.C h.P i):Int)) (↑(i+C8 h.C h.P i):Int) Fz
def ZdU(h:Heap)(i:Nat)(hl:h.P.length<=281474976710656)(hi:i<h.P.length)(hs:C8 h.C h.P i=0):CP (Zl f94 0) (NB h i).st .ret (Tg.st ⟨tm 83 [(2,bL Z)],[],60⟩):=by exact sF [] []<|Fg 70 (by grind:(↑(L Z0.dv h.P).length:Int)=(h.P.length:Int))<|Ftb 71 (Y ((i:Int)<(h.P.length:Int)))<|Fc 77 (@Z6c h.C h.P hl i hi)<|Ft 79 (by simp[hs]:((↑(C8 h.C h.P i):Int)==0)=X) Fz
def Z7a(h:Heap)(i:Nat)(hi:h.P.length<=i):CP (Zl f94 0) (NB h i).st (.ext 0) (Tg.st ⟨tm 83 [],[],60⟩):=by exact sF [] []<|Fl 70 Z0.dv h.P<|Ffb 71 (Y ((i:Int)<(h.P.length:Int))) Fz
def Z8G(h:Heap)(hl:h.P.length<=281474976710656):∀(f i:Nat),h.P.length<=i+f->GC h.C h.P f i=X->∃n,IR prog (Zl f94 0) n (NB h i).st (.ext 0) (Tg.st ⟨tm 83 [],[],60⟩)
 |0,i,hf,_=>⟨0,(λh=>nomatch h),Z7a h i oq⟩
 |f+1,i,hf,hb=>by
  by_cases a:i<h.P.length
  .simp only[GC,if_pos a]at hb;split at hb
   .cases hb
   .rename_i c;obtain⟨n,b⟩:=Z8G h hl f (i+C8 h.C h.P i) oq hb;exact⟨n+1,_,Z4j h i hl a c,b⟩
  .exact⟨0,(λh=>nomatch h),Z7a h i oq⟩
def Z4A(h:Heap)(hl:h.P.length<=281474976710656):∀(f i:Nat),h.P.length<=i+f->GC h.C h.P f i=Z->∃n,IR prog (Zl f94 0) n (NB h i).st .ret (Tg.st ⟨tm 83 [(2,bL Z)],[],60⟩)
 |0,i,hf,hb=>by grind[GC]
 |f+1,i,hf,hb=>by
  by_cases a:i<h.P.length
  .simp only[GC,if_pos a]at hb;split at hb
   .rename_i b;exact⟨0,(λh=>nomatch h),ZdU h i hl a b⟩
   .rename_i b;obtain⟨n,c⟩:=Z4A h hl f (i+C8 h.C h.P i) oq hb;exact⟨n+1,_,Z4j h i hl a b,c⟩
  grind[GC]
theorem O2{h:Heap}:Z04 h=X↔Zq h.C=X/\(h.W.length:Int)=h.C.pw*h.C.pg/\(h.P.length:Int)=h.C.pg/\(h.S=0\/h.S=1):=by grind[Z04]
def Eb(h:Heap):GP 94 [h.av] X (bL (Z8 h)) []:=by
 have a:(!!Zq h.C)=X->M.wrap (h.C.pw*h.C.pg)=h.C.pw*h.C.pg:=by(intro i;have ha:=Hl (c:=h.C) (by simpa using i);exact BX oq oq)
 by_cases j:Z04 h=X;obtain⟨s1,s2,s3,s4⟩:=O2.1 j;have i:=BF.1 s1;have b:(!Zq h.C||(h.W.length:Int) != h.C.pw*h.C.pg||(h.P.length:Int) != h.C.pg||h.S != 0&&h.S != 1)=Z:=by grind
 have f:(h.B != -1&&!(Y (h.B<0)||Y ((h.P.length:Int)<=h.B)))=X->0<=h.B/\(L Z0.dv h.P)[h.B.toNat]?=some (CL h.P h.B).dv:=by grind[ZeN]
 by_cases h2:Mm h=X;have d:(h.B != -1&&(Y (h.B<0)||Y ((h.P.length:Int)<=h.B)||(CL h.P h.B).K != 1))=Z:=by grind[Mm]
 cases h3:GC h.C h.P h.P.length 0 with
 |true =>
  have e:Z8 h=X:=by grind[Z8]
  rw[e];obtain⟨n,g⟩:=Z8G h oq h.P.length 0 oq h3;exact gF [] func94 []<|Fh 7 [.call X (bL (Zq h.C)) []]<|Fh 12 [.int ↑h.W.length]<|Fh 19 [.int (h.C.pw*h.C.pg)]<|Fh 25 [.int ↑h.P.length]<|Fh 53 [.int ↑h.P.length]<|Fh 61 [.el (CL h.P h.B).dv]<|Fk (0,NB h 0,.nrm,⟨tm 83 [],[],60⟩)<|Fa ((Ho h.C):GP 149 [AV.ag [nI h.C.pw,nI h.C.pg]] X (bL (Zq h.C)) [])<|Fa ((λ_=>by grind):(!!Zq h.C)=X->(↑(L wD h.W).length:Int)=(h.W.length:Int))<|Fa (a:(!!Zq h.C)=X->M.wrap (h.C.pw*h.C.pg)=h.C.pw*h.C.pg)<|Fa ((λ_=>by grind):(!(!Zq h.C||(h.W.length:Int) != h.C.pw*h.C.pg))=X->(↑(L Z0.dv h.P).length:Int)=(h.P.length:Int))<|Ff 40 (b:(!Zq h.C||(h.W.length:Int) != h.C.pw*h.C.pg||(h.P.length:Int) != h.C.pg||h.S != 0&&h.S != 1)=Z)<|Fa ((λ_=>by grind):(h.B != (-1:Int)&&!decide (h.B<0))=X->(↑(L Z0.dv h.P).length:Int)=(h.P.length:Int))<|Fa (f:(h.B != (-1:Int)&&!(Y (h.B<0)||Y ((h.P.length:Int)<=h.B)))=X->0<=h.B/\(L Z0.dv h.P)[h.B.toNat]?=some (CL h.P h.B).dv)<|Ff 66 (d:(h.B != (-1:Int)&&(Y (h.B<0)||Y ((h.P.length:Int)<=h.B)||(CL h.P h.B).K != 1))=Z)<|Fa ((Z28 kr g):CP (Zk f94 0) (NB h 0).st Ex.nrm (Tg.mk (tm 83 []) [] 60).st) Fz
 |false =>
  have e:Z8 h=Z:=by grind[Z8]
  rw[e];obtain⟨n,g⟩:=Z4A h oq h.P.length 0 oq h3;exact gF [] func94 []<|Fh 7 [.call X (bL (Zq h.C)) []]<|Fh 12 [.int ↑h.W.length]<|Fh 19 [.int (h.C.pw*h.C.pg)]<|Fh 25 [.int ↑h.P.length]<|Fh 53 [.int ↑h.P.length]<|Fh 61 [.el (CL h.P h.B).dv]<|Fk (0,NB h 0,.ret,⟨tm 83 [(2,bL Z)],[],60⟩)<|Fa ((Ho h.C):GP 149 [AV.ag [nI h.C.pw,nI h.C.pg]] X (bL (Zq h.C)) [])<|Fa ((λ_=>by grind):(!!Zq h.C)=X->(↑(L wD h.W).length:Int)=(h.W.length:Int))<|Fa (a:(!!Zq h.C)=X->M.wrap (h.C.pw*h.C.pg)=h.C.pw*h.C.pg)<|Fa ((λ_=>by grind):(!(!Zq h.C||(h.W.length:Int) != h.C.pw*h.C.pg))=X->(↑(L Z0.dv h.P).length:Int)=(h.P.length:Int))<|Ff 40 (b:(!Zq h.C||(h.W.length:Int) != h.C.pw*h.C.pg||(h.P.length:Int) != h.C.pg||h.S != 0&&h.S != 1)=Z)<|Fa ((λ_=>by grind):(h.B != (-1:Int)&&!decide (h.B<0))=X->(↑(L Z0.dv h.P).length:Int)=(h.P.length:Int))<|Fa (f:(h.B != (-1:Int)&&!(Y (h.B<0)||Y ((h.P.length:Int)<=h.B)))=X->0<=h.B/\(L Z0.dv h.P)[h.B.toNat]?=some (CL h.P h.B).dv)<|Ff 66 (d:(h.B != (-1:Int)&&(Y (h.B<0)||Y ((h.P.length:Int)<=h.B)||(CL h.P h.B).K != 1))=Z)<|Fa ((Z1D kr g):CP (Zk f94 0) (NB h 0).st Ex.ret (Tg.mk (tm 83 [(2,bL Z)]) [] 60).st) Fz
 have d:(h.B != -1&&(Y (h.B<0)||Y ((h.P.length:Int)<=h.B)||(CL h.P h.B).K != 1))=X:=by grind[Mm]
 have e:Z8 h=Z:=by grind[Z8]
 rw[e];exact gF [] func94 []<|Fh 7 [.call X (bL (Zq h.C)) []]<|Fh 12 [.int ↑h.W.length]<|Fh 19 [.int (h.C.pw*h.C.pg)]<|Fh 25 [.int ↑h.P.length]<|Fh 53 [.int ↑h.P.length]<|Fh 61 [.el (CL h.P h.B).dv]<|Fa ((Ho h.C):GP 149 [AV.ag [nI h.C.pw,nI h.C.pg]] X (bL (Zq h.C)) [])<|Fa ((λ_=>by grind):(!!Zq h.C)=X->(↑(L wD h.W).length:Int)=(h.W.length:Int))<|Fa (a:(!!Zq h.C)=X->M.wrap (h.C.pw*h.C.pg)=h.C.pw*h.C.pg)<|Fa ((λ_=>by grind):(!(!Zq h.C||(h.W.length:Int) != h.C.pw*h.C.pg))=X->(↑(L Z0.dv h.P).length:Int)=(h.P.length:Int))<|Ff 40 (b:(!Zq h.C||(h.W.length:Int) != h.C.pw*h.C.pg||(h.P.length:Int) != h.C.pg||h.S != 0&&h.S != 1)=Z)<|Fa ((λ_=>by grind):(h.B != (-1:Int)&&!decide (h.B<0))=X->(↑(L Z0.dv h.P).length:Int)=(h.P.length:Int))<|Fa (f:(h.B != (-1:Int)&&!(Y (h.B<0)||Y ((h.P.length:Int)<=h.B)))=X->0<=h.B/\(L Z0.dv h.P)[h.B.toNat]?=some (CL h.P h.B).dv)<|Ft 66 (d:(h.B != (-1:Int)&&(Y (h.B<0)||Y ((h.P.length:Int)<=h.B)||(CL h.P h.B).K != 1))=X) Fz;have b:(!Zq h.C||(h.W.length:Int) != h.C.pw*h.C.pg||(h.P.length:Int) != h.C.pg||h.S != 0&&h.S != 1)=X:=by grind[O2]
 have e:Z8 h=Z:=by grind[Z8]
 rw[e];exact gF [] func94 []<|Fh 7 [.call X (bL (Zq h.C)) []]<|Fh 12 [.int ↑h.W.length]<|Fh 19 [.int (h.C.pw*h.C.pg)]<|Fh 25 [.int ↑h.P.length]<|Fa ((Ho h.C):GP 149 [AV.ag [nI h.C.pw,nI h.C.pg]] X (bL (Zq h.C)) [])<|Fa ((λ_=>by grind):(!!Zq h.C)=X->(↑(L wD h.W).length:Int)=(h.W.length:Int))<|Fa (a:(!!Zq h.C)=X->M.wrap (h.C.pw*h.C.pg)=h.C.pw*h.C.pg)<|Fa ((λ_=>by grind):(!(!Zq h.C||(h.W.length:Int) != h.C.pw*h.C.pg))=X->(↑(L Z0.dv h.P).length:Int)=(h.P.length:Int))<|Ft 40 (b:(!Zq h.C||(h.W.length:Int) != h.C.pw*h.C.pg||(h.P.length:Int) != h.C.pg||h.S != 0&&h.S != 1)=X) Fz
end Go.Proofs.YtgedmeaemofdkaaGreat
namespace Go.Proofs.YtgedmeaemofdkaaGreat
open Go.Sx Go.RowKit
def ZfH:ownKnob Tryz.prog.godebug=none:=by kernel_rfl
def ZfB:laidOutB prog=X:=by kernel_rfl
def Z0Z{n:Nat}{l}(h:CX prog (n+1) 3 l):∃x:Int,l=[Zd x]/\(O .i64 x).wf=X:=by
 have e:CX prog (n+1) 3 l=(∃x:Int,l=[.sc (.int .i64 x)]/\(O .i64 x).wf=X):=by kernel_rfl
 rw[e]at h;exact h
def Zc9{n:Nat}{l}(h:CX prog (n+1) 35 l):∃x:Int,l=[ZD x]/\(O .u64 x).wf=X:=by
 have e:CX prog (n+1) 35 l=(∃x:Int,l=[.sc (.int .u64 x)]/\(O .u64 x).wf=X):=by kernel_rfl
 rw[e]at h;exact h
def ZcP{n:Nat}{l}(h:CX prog (n+2) 24 l):∃c:B2,l=[Zd c.pw,Zd c.pg]:=by
 have e:CX prog (n+2) 24 l=(∃a b,l=a++b/\(∃x:Int,a=[.sc (.int .i64 x)]/\(O .i64 x).wf=X)/\∃d f,b=d++f/\(∃x:Int,d=[.sc (.int .i64 x)]/\(O .i64 x).wf=X)/\f=[]):=by kernel_rfl
 rw[e]at h;obtain⟨a,b,rfl,⟨x,rfl,_⟩,d,f,rfl,⟨y,rfl,_⟩,rfl⟩:=h;exact⟨⟨x,y⟩,rfl⟩
def range_u64{n:Int}(h:(O .u64 n).wf=X):0<=n/\n<=18446744073709551615:=by simp[Lit.wf,IntKind.min,IntKind.max,IntKind.signed,IntKind.bits]at h;omega
def Z1a{α β:Type}{f:α->β}:∀{l:List β},(∀x∈l,∃a,x=f a)->∃m:List α,l=m.map f
 |[],_=>⟨[],rfl⟩
 |x::l,h=>by
  obtain⟨a,rfl⟩:=h x pq;obtain⟨m,rfl⟩:=Z1a (l:=l) λy b=>h y (by simp[b]);exact⟨a::m,rfl⟩
def Zll{n:Nat}{l}(h:CX prog (n+2) 86 l):∃p:Z0,l=p.dv:=by
 have e:CX prog (n+2) 86 l=(∃a b,l=a++b/\(∃x:Int,a=[.sc (.int .i64 x)]/\(O .i64 x).wf=X)/\∃f i,b=f++i/\(∃x:Int,f=[.sc (.int .i64 x)]/\(O .i64 x).wf=X) /\
  ∃c d,i=c++d/\(∃x:Int,c=[.sc (.int .i64 x)]/\(O .i64 x).wf=X)/\∃g j,d=g++j/\(∃x:Int,g=[.sc (.int .i64 x)]/\(O .i64 x).wf=X)/\j=[]):=by kernel_rfl
 rw[e]at h;obtain⟨a,b,rfl,⟨x,rfl,_⟩,f,i,rfl,⟨y,rfl,_⟩,a2,b2,rfl,⟨z,rfl,_⟩,g,j,rfl,⟨u,rfl,_⟩,rfl⟩:=h;exact⟨⟨x,y,z,u⟩,rfl⟩
def Zcj{n:Nat}{l}(h:CX prog (n+3) 26 l):∃m:List Z0,l=[.sl 4 (m.map Z0.dv)]/\m.length<=140737488355328:=by
 have e:CX prog (n+3) 26 l=(∃els:List (List DV),l=[.sl 4 els]/\els.length<=140737488355328/\∀x∈els,CX prog (n+2) 86 x):=by kernel_rfl
 rw[e]at h;obtain⟨els,rfl,a,b⟩:=h;obtain⟨m,rfl⟩:=Z1a (f:=Z0.dv) λx c=>Zll (b x c);exact⟨m,rfl,by simpa using a⟩
end Go.Proofs.YtgedmeaemofdkaaGreat
