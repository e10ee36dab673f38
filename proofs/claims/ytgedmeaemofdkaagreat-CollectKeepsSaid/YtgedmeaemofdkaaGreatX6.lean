/-
 The statement CollectKeeps: part 6.
 Conditions: none.
-/
import Derived.IntWalk
import Derived.Test.YtgedmeaemofdkaaGreatRows
import Derived.Test.YtgedmeaemofdkaaGreatX5
set_option maxRecDepth 100000
set_option maxHeartbeats 2000000
set_option linter.all false
open Bool renaming true->X,false->Z,eq_iff_iff->Lg
open Decidable renaming decide->Y
open Go.IntKind renaming i64->M,u64->Lb
open List renaming map->L,replicate->La,getElem?_eq_some_iff->Li
open Int renaming mul_le_mul_of_nonneg_right->O,mul_comm->Lc,ediv_le_self->Ld,ediv_nonneg->Le,mul_nonneg->Lf,add_mul->Lh
open Go.Proofs.Tryz
namespace Go.Proofs.YtgedmeaemofdkaaGreat
open Go.Sx
abbrev GP:=GSpec prog
abbrev LP:=LentSpec prog
abbrev BP:=BorSpec prog
abbrev CP:=CSpec prog
structure B7 where
 pw:Int
 pg:Int
 deriving DecidableEq,Inhabited
def B7.av(c:B7):AV:=.ag [nI c.pw,nI c.pg]
def Zv(c:B7):Bool:=Y (16<=c.pw)&&Y (c.pw<=64)&&(c.pw.tmod 4==0)&&Y (8<=c.pg)&&Y (c.pg<=64)
def BI{c:B7}:Zv c=X↔16<=c.pw/\c.pw<=64/\c.pw.tmod 4=0/\8<=c.pg/\c.pg<=64:=by simp[Zv,and_assoc]
def Ea(c:B7):Int:=if Zv c=X then c.pg.tdiv 4 else 0
def Zd(c:B7):Int:=if Zv c=X then c.pw.tdiv 4 else 0
theorem C5{n:Int}(a:-9223372036854775808<=n)(b:n<=9223372036854775807):M.wrap n=n:=IntWalk.i64_in n ⟨a,b⟩
def Hk{a b:Int}(h:0<=a):a.tdiv b=a/b:=Int.tdiv_eq_ediv_of_nonneg h
def Z5I{a b:Int}(h:0<=a):a.tmod b=a%b:=Int.tmod_eq_emod_of_nonneg h
def HN(c:B7):GP 149 [c.av] X (bL (Zv c)) []:=by refine Zc [] [] [] dd func149 [] (φ:=(Y ((16:Int)<=c.pw)&&Y (c.pw<=(64:Int)))=X->(4:Int)=(0:Int)->False) ?_ kr kr;intro _ ;decide
def GJ(c:B7):GP 92 [c.av] X (bL (Zv c)) []:=by refine Zc [] [] [] dd func92 [] (φ:=(Y ((16:Int)<=c.pw)&&Y (c.pw<=(64:Int)))=X->(4:Int)=(0:Int)->False) ?_ kr kr;intro _ ;decide
def Zna(c:B7):GP 154 [c.av] X (nI (Ea c)) []:=by by_cases h:Zv c=X;have hv:=BI.1 h;have e:Ea c=c.pg.tdiv 4:=if_pos h;rw[e];exact gF [] func154 []<|Fh 8 [.int (c.pg.tdiv 4)]<|Fc 4 (@HN c)<|Ff 5 (by simp[h]:(!Zv c)=Z)<|Fa ((C5 (by rw[Hk oq];omega) (by rw[Hk oq];omega)):M.wrap (c.pg.tdiv 4)=c.pg.tdiv 4)<|Fa (by decide:(4:Int)=0->False) Fz;have e:Ea c=0:=if_neg h;rw[e];exact gF [] func154 []<|Fc 4 (@HN c)<|Ft 5 (by simp[h]:(!Zv c)=X) Fz
def Tl(c:B7):GP 202 [c.av] X (nI (Ea c)) []:=by by_cases h:Zv c=X;have hv:=BI.1 h;have e:Ea c=c.pg.tdiv 4:=if_pos h;rw[e];exact gF [] func202 []<|Fh 8 [.int (c.pg.tdiv 4)]<|Fc 4 (@GJ c)<|Ff 5 (by simp[h]:(!Zv c)=Z)<|Fa ((C5 (by rw[Hk oq];omega) (by rw[Hk oq];omega)):M.wrap (c.pg.tdiv 4)=c.pg.tdiv 4)<|Fa (by decide:(4:Int)=0->False) Fz;have e:Ea c=0:=if_neg h;rw[e];exact gF [] func202 []<|Fc 4 (@GJ c)<|Ft 5 (by simp[h]:(!Zv c)=X) Fz
def O8(c:B7):GP 151 [c.av] X (nI (Zd c)) []:=by by_cases h:Zv c=X;have hv:=BI.1 h;have e:Zd c=c.pw.tdiv 4:=if_pos h;rw[e];exact gF [] func151 []<|Fh 8 [.int (c.pw.tdiv 4)]<|Fc 4 (@HN c)<|Ff 5 (by simp[h]:(!Zv c)=Z)<|Fa ((C5 (by rw[Hk oq];omega) (by rw[Hk oq];omega)):M.wrap (c.pw.tdiv 4)=c.pw.tdiv 4)<|Fa (by decide:(4:Int)=0->False) Fz;have e:Zd c=0:=if_neg h;rw[e];exact gF [] func151 []<|Fc 4 (@HN c)<|Ft 5 (by simp[h]:(!Zv c)=X) Fz
def Nr(c:B7):GP 93 [c.av] X (nI (Zd c)) []:=by by_cases h:Zv c=X;have hv:=BI.1 h;have e:Zd c=c.pw.tdiv 4:=if_pos h;rw[e];exact gF [] func93 []<|Fh 8 [.int (c.pw.tdiv 4)]<|Fc 4 (@GJ c)<|Ff 5 (by simp[h]:(!Zv c)=Z)<|Fa ((C5 (by rw[Hk oq];omega) (by rw[Hk oq];omega)):M.wrap (c.pw.tdiv 4)=c.pw.tdiv 4)<|Fa (by decide:(4:Int)=0->False) Fz;have e:Zd c=0:=if_neg h;rw[e];exact gF [] func93 []<|Fc 4 (@GJ c)<|Ft 5 (by simp[h]:(!Zv c)=X) Fz
def need(c:B7)(n:Int):Int:=if Zv c=X/\1<=n/\n<=4*c.pw then(if n<=c.pw/4 then 0 else(n+c.pw-1)/c.pw)else -1
def RS{c:B7}(h:Zv c=X):Zd c=c.pw/4:=by have hv:=BI.1 h;rw[Zd,if_pos h,Hk oq]
def Z07(c:B7) n:GP 97 [c.av,nI n] X (nI (need c n)) []:=by
 by_cases h:Zv c=X/\1<=n/\n<=4*c.pw;obtain⟨h,i,j⟩:=h;have b:=BI.1 h;by_cases a:n<=c.pw/4;have e:need c n=0:=by rw[need,if_pos ⟨h,i,j⟩,if_pos a]
 rw[e];exact gF [] func97 []<|Fh 7 [.call X (bL (Zv c)) []]<|Fh 17 [.int (4*c.pw)]<|Fh 19 [.br Z]<|Fh 23 [.call X (nI (Zd c)) []]<|Fh 24 [.br X]<|Fa ((HN c):GP 149 [AV.ag [nI c.pw,nI c.pg]] X (bL (Zv c)) [])<|Fa ((λ_=>C5 oq oq):(!(!Zv c||Y (n<1)))=X->M.wrap (4*c.pw)=4*c.pw)<|Fa (by simp[h];omega:(!Zv c||Y (n<1)||Y (4*c.pw<n))=Z)<|Fa ((O8 c):GP 151 [AV.ag [nI c.pw,nI c.pg]] X (nI (Zd c)) [])<|Fa (by rw[RS h];simpa using a:Y (n<=Zd c)=X) Fz;have e:need c n=(n+c.pw-1).tdiv c.pw:=by rw[need,if_pos ⟨h,i,j⟩,if_neg a,Hk oq]
 have hq:(n+c.pw-1)/c.pw<=n+c.pw-1:=Ld _ oq;have k:0<=(n+c.pw-1)/c.pw:=Le oq oq;rw[e];exact gF [] func97 []<|Fh 7 [.call X (bL (Zv c)) []]<|Fh 17 [.int (4*c.pw)]<|Fh 19 [.br Z]<|Fh 23 [.call X (nI (Zd c)) []]<|Fh 24 [.br Z]<|Fh 28 [.int (n+c.pw)]<|Fh 29 [.int (n+c.pw-1)]<|Fh 32 [.int ((n+c.pw-1).tdiv c.pw)]<|Fa ((HN c):GP 149 [AV.ag [nI c.pw,nI c.pg]] X (bL (Zv c)) [])<|Fa ((λ_=>C5 oq oq):(!(!Zv c||Y (n<1)))=X->M.wrap (4*c.pw)=4*c.pw)<|Fa (by simp[h];omega:(!Zv c||Y (n<1)||Y (4*c.pw<n))=Z)<|Fa ((O8 c):GP 151 [AV.ag [nI c.pw,nI c.pg]] X (nI (Zd c)) [])<|Fa (by rw[RS h];simpa using a:Y (n<=Zd c)=Z)<|Fa ((C5 oq oq):M.wrap (n+c.pw)=n+c.pw)<|Fa ((C5 oq oq):M.wrap (n+c.pw-1)=n+c.pw-1)<|Fa ((C5 (by rw[Hk oq];omega) (by rw[Hk oq];omega)):M.wrap ((n+c.pw-1).tdiv c.pw)=(n+c.pw-1).tdiv c.pw)<|Fo (c.pw=0->False) Fz;have e:need c n=-1:=if_neg h;rw[e];have d:((!(!Zv c||Y (n<(1:Int))))=X->M.wrap ((4:Int)*c.pw)=(4:Int)*c.pw):=by(intro g;simp at g;have b:=BI.1 g.1;exact C5 oq oq)
 have f:(!Zv c||Y (n<(1:Int))||Y ((4:Int)*c.pw<n))=X:=by
  simp;cases b:Zv c with|false=>simp|true =>simp only[b,true_and]at h;simp;omega
 exact gF [] func97 []<|Fh 7 [.call X (bL (Zv c)) []]<|Fh 17 [.int (4*c.pw)]<|Fh 19 [.br X]<|Fa ((HN c):GP 149 [AV.ag [nI c.pw,nI c.pg]] X (bL (Zv c)) [])<|Fa (d:(!(!Zv c||Y (n<1)))=X->M.wrap (4*c.pw)=4*c.pw)<|Fa (f:(!Zv c||Y (n<1)||Y (4*c.pw<n))=X) Fz
def Zg0{c:B7}{n:Int}{k:Nat}(h:Zv c=X)(a:1<=n)(h2:c.pw/4<n)(hk:k<=4)(b:((k:Int)-1)*c.pw<n)(h4:n<=k*c.pw):need c n=k:=by have hv:=BI.1 h;have h5:(k:Int)*c.pw<=4*c.pw:=O oq oq;rw[need,if_pos ⟨h,a,by omega⟩,if_neg oq];rw[Int.sub_mul]at b;refine Int.le_antisymm (Int.le_of_lt_add_one (Int.ediv_lt_of_lt_mul oq ?_)) (Int.le_ediv_of_mul_le oq oq);rw[Lh];omega
def R6(c:B7)(n:Int)(k:Nat):Tg:=⟨tm 28 [(1,nI n),(2,.pt 8002 0 0),(4,nI 0),(5,nI k)],[(8002,.box 24 [nI c.pw,nI c.pg])],20⟩
def Z8M(c:B7)(n:Int)(k:Nat)(hw:c.pw<=64)(hw0:0<=c.pw)(hk:k<=4)(hn:k*c.pw<n):CP (Zm f47 0) (R6 c n k).st .nrm (R6 c n (k+1)).st:=by have hm:(k:Int)*c.pw<=4*c.pw:=O oq oq;have hm0:0<=(k:Int)*c.pw:=Lf oq oq;exact sF [] []<|Ftb 18 (Y ((k:Int)<=4))<|Fi 24 ((k:Int)*c.pw)<|Ffb 26 (Y (n<=(k:Int)*c.pw))<|Fx 20 k Fz
def RI(c:B7)(n:Int):GP 47 [c.av,nI n] X (nI (need c n)) []:=by
 by_cases h:Zv c=X/\1<=n
 .obtain⟨h,h1⟩:=h;have hv:=BI.1 h;by_cases h3:n<=c.pw/4
  .have e:need c n=0:=by rw[need,if_pos ⟨h,h1,by omega⟩,if_pos h3]
   rw[e];exact gF [] func47 []<|Fh 7 [.call X (bL (Zv c)) []]<|Fh 15 [.call X (nI (Zd c)) []]<|Fa ((GJ c):GP 92 [AV.ag [nI c.pw,nI c.pg]] X (bL (Zv c)) [])<|Ff 12 (by simp[h];omega:(!Zv c||Y (n<1))=Z)<|Fa ((Nr c):GP 93 [AV.ag [nI c.pw,nI c.pg]] X (nI (Zd c)) [])<|Ft 16 (by rw[RS h];simpa using h3:Y (n<=Zd c)=X) Fz
  .by_cases h4:n<=4*c.pw
   .-- it is found
    have hk:∃k:Nat,1<=k/\k<=4/\((k:Int)-1)*c.pw<n/\n<=k*c.pw:=by
     by_cases a1:n<=c.pw
     .exact⟨1,by omega,by omega,by omega,by omega⟩
     by_cases a2:n<=2*c.pw
     .exact⟨2,by omega,by omega,by omega,by omega⟩
     by_cases a3:n<=3*c.pw
     .exact⟨3,by omega,by omega,by omega,by omega⟩
     .exact⟨4,by omega,by omega,by omega,by omega⟩
    obtain⟨k,k1,k4,klo,khi⟩:=hk;rw[Zg0 h h1 oq k4 klo khi];have qz0:CP (Zi f47 (0:Nat)) (R6 c n (1:Nat)).st Ex.ret (Tg.mk (tm (28:Nat) [((4:Nat),nI (k:Int))]) [] (30:Nat)).st:=by
     obtain⟨j,rfl⟩:∃j,k=j+1:=⟨k-1,by omega⟩
     refine EJ (S:=λi=>(R6 c n (i+1)).st) j kr (λi hi=>Z8M c n (i+1) oq oq oq ?_) ?_
     .have:((i+1:Nat):Int)*c.pw<=((j+1:Nat)-1:Int)*c.pw:=O oq oq;omega
     .have hm:((j+1:Nat):Int)*c.pw<=4*c.pw:=O oq oq;have hm0:0<=((j+1:Nat):Int)*c.pw:=Lf oq oq;refine Z9Y [(18,[.br X]),(24,[.int ((j+1:Nat)*c.pw)]),(26,[.br X])] [] (φ:=Y ((↑(j+(1:Nat)):Int)<=(4:Int))=X/\X=X/\M.wrap ((↑(j+(1:Nat)):Int)*c.pw)=(↑(j+(1:Nat)):Int)*c.pw/\Y (n<=(↑(j+(1:Nat)):Int)*c.pw)=X/\X=X) ?_ kr kr kr;exact⟨decide_eq_true oq,rfl,C5 oq oq,decide_eq_true oq,rfl⟩
    exact gF [] func47 []<|Fh 7 [.call X (bL (Zv c)) []]<|Fh 15 [.call X (nI (Zd c)) []]<|Fk (0,R6 c n 1,.ret,⟨tm 28 [(4,nI k)],[],30⟩)<|Fa ((GJ c):GP 92 [AV.ag [nI c.pw,nI c.pg]] X (bL (Zv c)) [])<|Ff 12 (by simp[h];omega:(!Zv c||Y (n<1))=Z)<|Fa ((Nr c):GP 93 [AV.ag [nI c.pw,nI c.pg]] X (nI (Zd c)) [])<|Ff 16 (by rw[RS h];simpa using h3:Y (n<=Zd c)=Z)<|Fa (qz0:CP (Zi f47 0) (R6 c n 1).st Ex.ret (Tg.mk (tm 28 [(4,nI ↑k)]) [] 30).st) Fz
   .have e:need c n=-1:=by rw[need,if_neg oq]
    rw[e];have qz0:CP (Zi f47 (0:Nat)) (R6 c n (1:Nat)).st Ex.nrm (Tg.mk (tm (28:Nat) []) [] (30:Nat)).st:=by
     refine Bp (S:=λi=>(R6 c n (i+1)).st) 4 kr (λi hi=>Z8M c n (i+1) oq oq oq ?_) ?_
     .have:((i+1:Nat):Int)*c.pw<=4*c.pw:=O oq oq;omega
     .refine Z9Y [(18,[.br Z])] [] (φ:=Y ((↑((4:Nat)+(1:Nat)):Int)<=(4:Int))=Z/\Z=Z) ?_ kr kr kr;exact⟨rfl,rfl⟩
    exact gF [] func47 []<|Fh 7 [.call X (bL (Zv c)) []]<|Fh 15 [.call X (nI (Zd c)) []]<|Fk (0,R6 c n 1,.nrm,⟨tm 28 [],[],30⟩)<|Fa ((GJ c):GP 92 [AV.ag [nI c.pw,nI c.pg]] X (bL (Zv c)) [])<|Ff 12 (by simp[h];omega:(!Zv c||Y (n<1))=Z)<|Fa ((Nr c):GP 93 [AV.ag [nI c.pw,nI c.pg]] X (nI (Zd c)) [])<|Ff 16 (by rw[RS h];simpa using h3:Y (n<=Zd c)=Z)<|Fa (qz0:CP (Zi f47 0) (R6 c n 1).st Ex.nrm (Tg.mk (tm 28 []) [] 30).st) Fz
 .have e:need c n=-1:=if_neg λh'=>h ⟨h'.1,h'.2.1⟩;rw[e];have qz0:(!Zv c||Y (n<(1:Int)))=X:=by
   cases hv:Zv c with
   |false=>simp
   |true =>
    simp only[hv,true_and]at h;simp;omega
  exact gF [] func47 []<|Fh 7 [.call X (bL (Zv c)) []]<|Fa ((GJ c):GP 92 [AV.ag [nI c.pw,nI c.pg]] X (bL (Zv c)) [])<|Ft 12 (qz0:(!Zv c||Y (n<1))=X) Fz
def Ms{n:Int}(a:0<=n)(b:n<=18446744073709551615):Lb.wrap n=n:=IntWalk.u64_in n ⟨a,b⟩
def Ij{c:B7}(h:Zv c=X):128<=c.pw*c.pg/\c.pw*c.pg<=4096:=by have hv:=BI.1 h;have h1:16*c.pg<=c.pw*c.pg:=O oq oq;have h2:c.pw*c.pg<=64*c.pg:=O oq oq;omega
def Z11{c:B7}{p o:Int}(h:Zv c=X)(h1:0<=p)(h2:p<c.pg)(_:0<=o)(h4:o<c.pw):0<=p*c.pw/\p*c.pw+o<c.pw*c.pg:=by have hv:=BI.1 h;have a:(p+1)*c.pw<=c.pg*c.pw:=O oq oq;have h6:0<=p*c.pw:=Lf oq oq;rw[Lh,Lc c.pg]at a;omega
def inB(c:B7)(p o:Int):Bool:=Y (0<=p)&&Y (p<c.pg)&&Y (0<=o)&&Y (o<c.pw)
def Ie{c}{p o:Int}:inB c p o=X↔0<=p/\p<c.pg/\0<=o/\o<c.pw:=by simp[inB,and_assoc]
def address(c:B7)(p o:Int):Int×Int:=if Zv c=X then(if inB c p o=X then(4096+(p*c.pw+o),0)else(0,2))else(0,1)
def EB(c:B7)(p o:Int):AV:=.tu [uU (address c p o).1,nI (address c p o).2]
def Tv(c:B7) p o:GP 212 [c.av,nI p,nI o] X (EB c p o) []:=by
 by_cases h:Zv c=X;have ha:=Ij h;by_cases a:inB c p o=X;obtain⟨g,p2,d,f⟩:=Ie.1 a;have hi:=Z11 h g p2 d f;have e:EB c p o=.tu [uU (4096+(p*c.pw+o)),nI 0]:=by rw[EB,address,if_pos h,if_pos a]
 rw[e];exact gF [] func212 []<|Fh 11 [.br Z]<|Fh 30 [.br Z]<|Fc 10 (@HN c)<|Fa (by simp[h]:(!Zv c)=Z)<|Fb ((Y (p<0)||Y (c.pg<=p)||Y (o<0)||Y (c.pw<=o))=Z)<|Fi 34 (p*c.pw)<|Fi 36 (p*c.pw+o)<|Fv 37 (p*c.pw+o)<|Fv 38 (4096+(p*c.pw+o)) Fz;have e:EB c p o=.tu [uU 0,nI 2]:=by rw[EB,address,if_pos h,if_neg a]
 rw[e];have b:(Y (p<(0:Int))||Y (c.pg<=p)||Y (o<(0:Int))||Y (c.pw<=o))=X:=by(rw[Ie]at a;simp;omega)
 exact gF [] func212 []<|Fh 11 [.br Z]<|Fh 30 [.br X]<|Fc 10 (@HN c)<|Fa (by simp[h]:(!Zv c)=Z)<|Fa (b:(Y (p<0)||Y (c.pg<=p)||Y (o<0)||Y (c.pw<=o))=X) Fz;have e:EB c p o=.tu [uU 0,nI 1]:=by rw[EB,address,if_neg h]
 rw[e];exact gF [] func212 []<|Fh 11 [.br X]<|Fc 10 (@HN c)<|Fa (by simp[h]:(!Zv c)=X) Fz
def Z0z(c:B7) p o:GP 194 [c.av,nI p,nI o] X (EB c p o) []:=by
 by_cases h:Zv c=X;have ha:=Ij h;by_cases a:inB c p o=X;obtain⟨g,p2,d,f⟩:=Ie.1 a;have hi:=Z11 h g p2 d f;have e:EB c p o=.tu [uU (4096+p*c.pw+o),nI 0]:=by rw[EB,address,if_pos h,if_pos a,Int.add_assoc]
 rw[e];exact gF [] func194 []<|Fc 9 (@GJ c)<|Ff 10 (by simp[h]:(!Zv c)=Z)<|Ffb 28 (Y (p<0)||Y (c.pg<=p)||Y (o<0)||Y (c.pw<=o))<|Fi 32 (p*c.pw)<|Fi 33 (4096+p*c.pw)<|Fi 35 (4096+p*c.pw+o)<|Fv 36 (4096+p*c.pw+o) Fz;have e:EB c p o=.tu [uU 0,nI 2]:=by rw[EB,address,if_pos h,if_neg a]
 rw[e];have b:(Y (p<(0:Int))||Y (c.pg<=p)||Y (o<(0:Int))||Y (c.pw<=o))=X:=by(rw[Ie]at a;simp;omega)
 exact gF [] func194 []<|Fc 9 (@GJ c)<|Ff 10 (by simp[h]:(!Zv c)=Z)<|Ft 28 (b:(Y (p<0)||Y (c.pg<=p)||Y (o<0)||Y (c.pw<=o))=X) Fz;have e:EB c p o=.tu [uU 0,nI 1]:=by rw[EB,address,if_neg h]
 rw[e];exact gF [] func194 []<|Fc 9 (@GJ c)<|Ft 10 (by simp[h]:(!Zv c)=X) Fz
def Z4(c:B7)(a:Int):Int×Int×Int:=if Zv c=X then(if 4096<=a/\a<4096+c.pw*c.pg then((a-4096)/c.pw,(a-4096)%c.pw,0)else(0,0,2))else(0,0,1)
def Bc(c:B7)(a:Int):AV:=.tu [nI (Z4 c a).1,nI (Z4 c a).2.1,nI (Z4 c a).2.2]
def Gu(c:B7)(a:Int)(a0:0<=a)(a1:a<=18446744073709551615):GP 96 [c.av,uU a] X (Bc c a) []:=by
 by_cases h:Zv c=X;have ha:=Ij h;have hv:=BI.1 h;by_cases b:4096<=a/\a<4096+c.pw*c.pg;have d1:0<=(a-4096)/c.pw:=Le oq oq;have d2:(a-4096)/c.pw<=a-4096:=Ld _ oq;have e:Bc c a=.tu [nI ((a-4096).tdiv c.pw),nI ((a-4096).tmod c.pw),nI 0]:=by rw[Bc,Z4,if_pos h,if_pos b,Hk oq,Z5I oq]
 rw[e];exact gF [] func96 []<|Fh 11 [.br Z]<|Fh 22 [.int (c.pw*c.pg)]<|Fh 23 [.int (c.pw*c.pg)]<|Fh 25 [.br Z]<|Fh 28 [.int (a-4096)]<|Fh 32 [.int ((a-4096).tdiv c.pw)]<|Fc 10 (@HN c)<|Fa (by simp[h]:(!Zv c)=Z)<|Fa ((λ_=>Ms oq oq):(!decide (a<4096))=X->Lb.wrap (a-4096)=a-4096)<|Fa ((λ_=>C5 oq oq):(!decide (a<4096))=X->M.wrap (c.pw*c.pg)=c.pw*c.pg)<|Fa ((λ_=>Ms oq oq):(!decide (a<4096))=X->Lb.wrap (c.pw*c.pg)=c.pw*c.pg)<|Fb ((Y (a<4096)||Y (c.pw*c.pg<=a-4096))=Z)<|Fv 17 (a-4096)<|Fi 27 (a-4096)<|Fa ((C5 (by rw[Hk oq];omega) (by rw[Hk oq];omega)):M.wrap ((a-4096).tdiv c.pw)=(a-4096).tdiv c.pw)<|Fo (c.pw=0->False)<|Fo (c.pw=0->False) Fz;have e:Bc c a=.tu [nI 0,nI 0,nI 2]:=by rw[Bc,Z4,if_pos h,if_neg b]
 rw[e];exact gF [] func96 []<|Fh 11 [.br Z]<|Fh 17 [.int (a-4096)]<|Fh 22 [.int (c.pw*c.pg)]<|Fh 23 [.int (c.pw*c.pg)]<|Fh 25 [.br X]<|Fc 10 (@HN c)<|Fa (by simp[h]:(!Zv c)=Z)<|Fa ((λd=>Ms (by simp at d;omega) oq):(!decide (a<4096))=X->Lb.wrap (a-4096)=a-4096)<|Fa ((λ_=>C5 oq oq):(!decide (a<4096))=X->M.wrap (c.pw*c.pg)=c.pw*c.pg)<|Fa ((λ_=>Ms oq oq):(!decide (a<4096))=X->Lb.wrap (c.pw*c.pg)=c.pw*c.pg)<|Fb ((Y (a<4096)||Y (c.pw*c.pg<=a-4096))=X) Fz;have e:Bc c a=.tu [nI 0,nI 0,nI 1]:=by rw[Bc,Z4,if_neg h]
 rw[e];exact gF [] func96 []<|Fh 11 [.br X]<|Fc 10 (@HN c)<|Fa (by simp[h]:(!Zv c)=X) Fz
def Hr(c:B7)(a:Int)(a0:0<=a)(a1:a<=18446744073709551615):GP 44 [c.av,uU a] X (Bc c a) []:=by
 by_cases h:Zv c=X;have g:=Ij h;rw[Lc]at g;have hv:=BI.1 h;by_cases f:4096<=a/\a<4096+c.pg*c.pw;have d1:0<=(a-4096)/c.pw:=Le oq oq;have d2:(a-4096)/c.pw<=a-4096:=Ld _ oq;have e:Bc c a=.tu [nI ((a-4096).tdiv c.pw),nI ((a-4096).tmod c.pw),nI 0]:=by rw[Bc,Z4,if_pos h,if_pos (by rw[Lc c.pw];exact f),Hk oq,Z5I oq]
 rw[e];let b:=4096+c.pg*c.pw;exact gF [] func44 []<|Fh 19 [.int (c.pg*c.pw)]<|Fh 20 [.int b]<|Fh 21 [.int b]<|Fh 30 [.int ((a-4096).tdiv c.pw)]<|Fc 9 (@GJ c)<|Ff 10 (by simp[h]:(!Zv c)=Z)<|Fa ((λ_=>C5 oq oq):(!decide (a<4096))=X->M.wrap (c.pg*c.pw)=c.pg*c.pw)<|Fa ((λ_=>C5 oq oq):(!decide (a<4096))=X->M.wrap b=4096+c.pg*c.pw)<|Fa ((λ_=>Ms oq oq):(!decide (a<4096))=X->Lb.wrap b=4096+c.pg*c.pw)<|Ffb 23 (Y (a<4096)||Y (4096+c.pg*c.pw<=a))<|Fv 25 (a-4096)<|Fi 26 (a-4096)<|Fa ((C5 (by rw[Hk oq];omega) (by rw[Hk oq];omega)):M.wrap ((a-4096).tdiv c.pw)=(a-4096).tdiv c.pw)<|Fo (c.pw=0->False)<|Fo (c.pw=0->False) Fz;have e:Bc c a=.tu [nI 0,nI 0,nI 2]:=by rw[Bc,Z4,if_pos h,if_neg (by rw[Lc c.pw];exact f)]
 rw[e];let d:=4096+c.pg*c.pw;exact gF [] func44 []<|Fh 19 [.int (c.pg*c.pw)]<|Fh 20 [.int d]<|Fh 21 [.int d]<|Fc 9 (@GJ c)<|Ff 10 (by simp[h]:(!Zv c)=Z)<|Fa ((λ_=>C5 oq oq):(!decide (a<4096))=X->M.wrap (c.pg*c.pw)=c.pg*c.pw)<|Fa ((λ_=>C5 oq oq):(!decide (a<4096))=X->M.wrap d=4096+c.pg*c.pw)<|Fa ((λ_=>Ms oq oq):(!decide (a<4096))=X->Lb.wrap d=4096+c.pg*c.pw)<|Ftb 23 (Y (a<4096)||Y (4096+c.pg*c.pw<=a)) Fz;have e:Bc c a=.tu [nI 0,nI 0,nI 1]:=by rw[Bc,Z4,if_neg h]
 rw[e];exact gF [] func44 []<|Fc 9 (@GJ c)<|Ft 10 (by simp[h]:(!Zv c)=X) Fz
structure Z0 where
 K:Int
 S:Int
 U:Int
 N:Int
 deriving DecidableEq,Inhabited
def Z0.dv(p:Z0):List DV:=[Zq p.K,Zq p.S,Zq p.U,Zq p.N]
def Z0.av(p:Z0):AV:=.ag [nI p.K,nI p.S,nI p.U,nI p.N]
def B5(l:List Z0):AV:=.d (.sl 4 (l.map Z0.dv))
def HH(p:Z0):Bool:=Y (p=⟨0,0,0,0⟩)
def Hs(p:Z0):Bool:=(p.S==0)||(p.S==1)
def NG(p:Z0):Bool:=Y (0<=p.N)&&Y (p.N<=2147483647)
def Nx(p:Z0)(c:B7):Bool:=Hs p&&NG p&&Y (0<=p.U)&&Y (p.U<=c.pw)
def GW(p:Z0)(c:B7):Bool:=Hs p&&NG p&&Y (1<=need c p.U)
def HV(p q:Z0):Bool:=Y (p=⟨3,q.S,0,0⟩)
def Z39(p:Z0):GP 222 [p.av] X (bL (Hs p)) []:=by refine Zc [] [] [] dd func222 [] (φ:=True) ?_ kr kr;trivial
def Z6U(p:Z0):GP 223 [p.av] X (bL (NG p)) []:=by refine Zc [] [] [] dd func223 [] (φ:=True) ?_ kr kr;trivial
def entryFree(p:Z0)(c:B7):GP 195 [p.av,c.av] X (bL (HH p)) []:=by refine Zc [((7:Nat),[Hint.br (HH p)])] [] [] dd func195 [] (φ:=(p.K==(0:Int)&&(p.S==(0:Int)&&(p.U==(0:Int)&&p.N==(0:Int))))=HH p) ?_ kr kr;rw[Lg];cases p;simp[HH]
def Z8D(p:Z0)(c:B7):GP 196 [p.av,c.av] X (bL (Nx p c)) []:=by exact gF [] func196 []<|Fc 6 (@Z39 p)<|FcG 9 (Hs p) (λhg=>@Z6U p) Fz
def Z0N(p:Z0)(c:B7):GP 197 [p.av,c.av] X (bL (GW p c)) []:=by exact gF [] func197 []<|Fc 6 (@Z39 p)<|FcG 9 (Hs p) (λa=>@Z6U p)<|FcG 15 (Hs p&&NG p) (λa=>@Z07 c p.U) Fz
def Z8c(p q:Z0):GP 198 [p.av,q.av] X (bL (HV p q)) []:=by refine Zc [((9:Nat),[Hint.br (HV p q)])] [] [] dd func198 [] (φ:=(p.K==(3:Int)&&(p.S==q.S&&(p.U==(0:Int)&&p.N==(0:Int))))=HV p q) ?_ kr kr;rw[Lg];cases p;simp[HV]
def Rc(p:Z0)(l:List Z0):Bool:=l.all λq=>HV q p
def Ch(c:B7)(l:List Z0)(i:Nat):Nat:=match l[i]? with
 |none=>0
 |some p =>
  if p.K=0 then(if HH p=X then 1 else 0)
  else if p.K=1 then(if Nx p c=X then 1 else 0)
  else if p.K=2 then(if GW p c=X then(if(need c p.U).toNat<=l.length-i/\Rc p ((l.drop (i+1)).take ((need c p.U).toNat-1))=X then(need c p.U).toNat else 0)else 0)
  else 0
def HZ{l:List Z0}{i:Nat}{p:Z0}(h:l[i]?=some p):(l.map Z0.dv)[((i:Nat):Int).toNat]?=some p.dv:=by simp[h]
def ZlP(c:B7)(l:List Z0)(i:Nat)(p:Z0)(hp:l[i]?=some p)(hk:p.K<0\/3<=p.K):GP 150 [c.av,B5 l,nI i] X (nI (Ch c l i)) []:=by
 have e:Ch c l i=0:=by grind[Ch]
 rw[e];exact gF [] func150 []<|Fh 15 [.el p.dv]<|Fh 28 [.int 0]<|Fh 32 [.call X (bL (HH p)) []]<|Fa (by grind:0<=(i:Int)/\(L Z0.dv l)[(i:Int).toNat]?=some p.dv)<|Fa (by grind:(!(Y (p.K<0)||Y (3<=p.K)))=X->p.K=0)<|Fa (by grind:(!(Y (p.K<0)||Y (3<=p.K)))=X->GP 195 [AV.ag [nI p.K,nI p.S,nI p.U,nI p.N],AV.ag [nI c.pw,nI c.pg]] X (bL (HH p)) [])<|Ftb 34 (Y (p.K<0)||Y (3<=p.K)||!HH p) Fz
theorem ZmE(c:B7)(l:List Z0)(i:Nat)(sp us pi:Int)(hp:l[i]?=some ⟨0,sp,us,pi⟩):GSpec Tryz.prog 150 [c.av,B5 l,nI i] true (nI (Ch c l i)) []:=by
 cases hf:HH ⟨0,sp,us,pi⟩with
 |true =>
  have e:Ch c l i=1:=by grind[Ch]
  rw[e]
  exact gE [(15,[Hint.el (Z0.mk 0 sp us pi).dv]),(32,[Hint.call true (bL (HH (Z0.mk 0 sp us pi))) []]),bF 34] [] [] Tryz.func150 [] (an ((⟨by omega,HZ hp⟩):0≤(↑i:Int)∧(List.map Z0.dv l)[(↑i:Int).toNat]?=some (Z0.mk 0 sp us pi).dv) (an ((fun hg=>@entryFree _ c):(!(decide ((Z0.mk 0 sp us pi).K<0)||decide (3≤(Z0.mk 0 sp us pi).K)))=true→GSpec Tryz.prog 195 [AV.ag [nI (Z0.mk 0 sp us pi).K,nI (Z0.mk 0 sp us pi).S,nI (Z0.mk 0 sp us pi).U,nI (Z0.mk 0 sp us pi).N],AV.ag [nI c.pw,nI c.pg]] true (bL (HH (Z0.mk 0 sp us pi))) []) (an (by simp[hf]:(decide ((Z0.mk 0 sp us pi).K<0)||decide (3≤(Z0.mk 0 sp us pi).K)||!HH (Z0.mk 0 sp us pi))=false) (rf false))))
 |false =>
  have e:Ch c l i=0:=by grind[Ch]
  rw[e]
  exact gE [(15,[Hint.el (Z0.mk 0 sp us pi).dv]),(32,[Hint.call true (bL (HH (Z0.mk 0 sp us pi))) []]),bT 34] [] [] Tryz.func150 [] (an ((⟨by omega,HZ hp⟩):0≤(↑i:Int)∧(List.map Z0.dv l)[(↑i:Int).toNat]?=some (Z0.mk 0 sp us pi).dv) (an ((fun hg=>@entryFree _ c):(!(decide ((Z0.mk 0 sp us pi).K<0)||decide (3≤(Z0.mk 0 sp us pi).K)))=true→GSpec Tryz.prog 195 [AV.ag [nI (Z0.mk 0 sp us pi).K,nI (Z0.mk 0 sp us pi).S,nI (Z0.mk 0 sp us pi).U,nI (Z0.mk 0 sp us pi).N],AV.ag [nI c.pw,nI c.pg]] true (bL (HH (Z0.mk 0 sp us pi))) []) (an (by simp[hf]:(decide ((Z0.mk 0 sp us pi).K<0)||decide (3≤(Z0.mk 0 sp us pi).K)||!HH (Z0.mk 0 sp us pi))=true) tt)))
theorem ZgR(c:B7)(l:List Z0)(i:Nat)(sp us pi:Int)(hp:l[i]?=some ⟨1,sp,us,pi⟩):GSpec Tryz.prog 150 [c.av,B5 l,nI i] true (nI (Ch c l i)) []:=by
 cases hf:Nx ⟨1,sp,us,pi⟩ c with
 |true =>
  have e:Ch c l i=1:=by grind[Ch]
  rw[e]
  exact gE [(15,[Hint.el (Z0.mk 1 sp us pi).dv]),(32,[Hint.call true (bL (Nx (Z0.mk 1 sp us pi) c)) []]),bF 34] [] [] Tryz.func150 [] (an ((⟨by omega,HZ hp⟩):0≤(↑i:Int)∧(List.map Z0.dv l)[(↑i:Int).toNat]?=some (Z0.mk 1 sp us pi).dv) (an ((fun hg=>@Z8D _ c):(!(decide ((Z0.mk 1 sp us pi).K<0)||decide (3≤(Z0.mk 1 sp us pi).K)))=true→GSpec Tryz.prog 196 [AV.ag [nI (Z0.mk 1 sp us pi).K,nI (Z0.mk 1 sp us pi).S,nI (Z0.mk 1 sp us pi).U,nI (Z0.mk 1 sp us pi).N],AV.ag [nI c.pw,nI c.pg]] true (bL (Nx (Z0.mk 1 sp us pi) c)) []) (an (by simp[hf]:(decide ((Z0.mk 1 sp us pi).K<0)||decide (3≤(Z0.mk 1 sp us pi).K)||!Nx (Z0.mk 1 sp us pi) c)=false) (rf false))))
 |false =>
  have e:Ch c l i=0:=by grind[Ch]
  rw[e]
  exact gE [(15,[Hint.el (Z0.mk 1 sp us pi).dv]),(32,[Hint.call true (bL (Nx (Z0.mk 1 sp us pi) c)) []]),bT 34] [] [] Tryz.func150 [] (an ((⟨by omega,HZ hp⟩):0≤(↑i:Int)∧(List.map Z0.dv l)[(↑i:Int).toNat]?=some (Z0.mk 1 sp us pi).dv) (an ((fun hg=>@Z8D _ c):(!(decide ((Z0.mk 1 sp us pi).K<0)||decide (3≤(Z0.mk 1 sp us pi).K)))=true→GSpec Tryz.prog 196 [AV.ag [nI (Z0.mk 1 sp us pi).K,nI (Z0.mk 1 sp us pi).S,nI (Z0.mk 1 sp us pi).U,nI (Z0.mk 1 sp us pi).N],AV.ag [nI c.pw,nI c.pg]] true (bL (Nx (Z0.mk 1 sp us pi) c)) []) (an (by simp[hf]:(decide ((Z0.mk 1 sp us pi).K<0)||decide (3≤(Z0.mk 1 sp us pi).K)||!Nx (Z0.mk 1 sp us pi) c)=true) tt)))
def N1(p:Z0)(s:List Z0)(k:Nat)(j:Nat):Tg:=⟨tm 66 [(6,nI 0),(8,.pt 24008 0 0),(9,nI k),(54,B5 s),(55,nI s.length),(56,nI j)],[(24008,.box 243 [nI p.K,nI p.S,nI p.U,nI p.N])],40⟩
def PH{α:Type}{f:α->Bool}:∀{l:List α},l.all f=Z->∃(j:Nat) (x:α),l[j]?=some x/\f x=Z/\∀i:Nat,i<j->∃y:α,l[i]?=some y/\f y=X
 |[],h=>by simp at h
 |a::l,h=>by
  cases ha:f a with
  |false=>exact⟨0,a,rfl,ha,λi d=>by omega⟩
  |true =>
   have:l.all f=Z:=by grind
   obtain⟨j,x,b,c,h3⟩:=PH this;refine⟨j+1,x,by simpa using b,c,λi d=>?_⟩;cases i<;>grind
def Z9W(p:Z0)(s:List Z0)(k j:Nat)(q:Z0)(hs:s.length<=281474976710656)(hq:s[j]?=some q)(ht:HV q p=X):CP (Zm f150 0) (N1 p s k j).st .nrm (N1 p s k (j+1)).st:=by have hj:j<s.length:=(Li.1 hq).1;exact sF [] []<|Fh 58 [.el q.dv]<|Ftb 57 (Y ((j:Int)<(s.length:Int)))<|Fa ((⟨by omega,HZ hq⟩):0<=(j:Int)/\(L Z0.dv s)[(j:Int).toNat]?=some q.dv)<|Fc 62 (@Z8c q p)<|Ff 63 (by simp[ht]:(!HV q p)=Z)<|Fx 64 j Fz
def Zm1(p:Z0)(s:List Z0)(k j:Nat)(q:Z0)(hq:s[j]?=some q)(ht:HV q p=Z):CP (Zm f150 0) (N1 p s k j).st .ret (Tg.st ⟨tm 66 [(6,nI 0)],[],60⟩):=by have hj:j<s.length:=(Li.1 hq).1;exact sF [] []<|Fh 58 [.el q.dv]<|Ftb 57 (Y ((j:Int)<(s.length:Int)))<|Fa ((⟨by omega,HZ hq⟩):0<=(j:Int)/\(L Z0.dv s)[(j:Int).toNat]?=some q.dv)<|Fc 62 (@Z8c q p)<|Ft 63 (by simp[ht]:(!HV q p)=X) Fz
def Zjs p s k:CP (Zm f150 0) (N1 p s k s.length).st (.ext 0) (Tg.st ⟨tm 66 [(9,nI k)],[],60⟩):=by exact sF [] []<|Ffb 57 (Y ((s.length:Int)<(s.length:Int))) Fz
theorem Zlf(c:B7)(l:List Z0)(hl:l.length≤281474976710656)(i:Nat)(sp us pi:Int)(hp:l[i]?=some ⟨2,sp,us,pi⟩):GSpec Tryz.prog 150 [c.av,B5 l,nI i] true (nI (Ch c l i)) []:=by
 have hi:i<l.length:=(List.getElem?_eq_some_iff.1 hp).1
 cases hf:GW ⟨2,sp,us,pi⟩ c with
 |false =>
  have e:Ch c l i=0:=by grind[Ch]
  rw[e]
  exact gE [(15,[Hint.el (Z0.mk 2 sp us pi).dv]),(32,[Hint.call true (bL (GW (Z0.mk 2 sp us pi) c)) []]),bT 34] [] [] Tryz.func150 [] (an ((⟨by omega,HZ hp⟩):0≤(↑i:Int)∧(List.map Z0.dv l)[(↑i:Int).toNat]?=some (Z0.mk 2 sp us pi).dv) (an ((fun hg=>@Z0N _ c):(!(decide ((Z0.mk 2 sp us pi).K<0)||decide (3≤(Z0.mk 2 sp us pi).K)))=true→GSpec Tryz.prog 197 [AV.ag [nI (Z0.mk 2 sp us pi).K,nI (Z0.mk 2 sp us pi).S,nI (Z0.mk 2 sp us pi).U,nI (Z0.mk 2 sp us pi).N],AV.ag [nI c.pw,nI c.pg]] true (bL (GW (Z0.mk 2 sp us pi) c)) []) (an (by simp[hf]:(decide ((Z0.mk 2 sp us pi).K<0)||decide (3≤(Z0.mk 2 sp us pi).K)||!GW (Z0.mk 2 sp us pi) c)=true) tt)))
 |true =>
  have hn:1≤need c us:=by grind[GW]
  obtain⟨k,hk⟩:∃k:Nat,need c us=k:=⟨(need c us).toNat,by omega⟩
  have hk1:1≤k:=by omega
  by_cases hfit:k≤l.length-i
  ·have hsl:((l.drop (i+1)).take (k-1)).length≤281474976710656:=by grind
   have hsub:List.take (((i+k:Nat):Int).toNat-((i+1:Nat):Int).toNat) (List.drop ((i+1:Nat):Int).toNat (List.map Z0.dv l))=List.map Z0.dv (List.take (k-1) (List.drop (i+1) l)):=by grind[List.map_take,List.map_drop]
   cases ht:Rc ⟨2,sp,us,pi⟩ ((l.drop (i+1)).take (k-1))with
   |true =>
    have e:Ch c l i=k:=by grind[Ch]
    rw[e]
    have qz0:CSpec Tryz.prog (Zi Tryz.f150 (0:Nat)) (N1 (Z0.mk (2:Int) sp us pi) (List.take (k-(1:Nat)) (List.drop (i+(1:Nat)) l)) k (0:Nat)).st Ex.nrm (Tg.mk (tm (66:Nat) [((9:Nat),nI (↑k:Int))]) [] (60:Nat)).st:=by
     have hall:=List.all_eq_true.1 ht
     refine Bp (S:=fun j=>(N1 ⟨2,sp,us,pi⟩ ((l.drop (i+1)).take (k-1)) k j).st) ((l.drop (i+1)).take (k-1)).length (by kernel_rfl) (fun j hj=>?_) (Zjs _ _ _)
     exact Z9W _ _ _ j _ hsl (List.getElem?_eq_getElem hj) (hall _ (List.getElem_mem hj))
    exact gE [(15,[Hint.el (Z0.mk 2 sp us pi).dv]),(32,[Hint.call true (bL (GW (Z0.mk 2 sp us pi) c)) []]),bF 34,(41,[Hint.call true (nI ↑k) []]),(46,[Hint.int ((↑l.length:Int)-(↑i:Int))]),bF 47,(50,[Hint.int (↑(i+1):Int)]),(53,[Hint.int (↑(i+k):Int)]),(54,[Hint.els (((l.drop (i+1)).take (k-1)).map Z0.dv)]),(55,[Hint.int (↑(List.take (k-1) (List.drop (i+1) l)).length:Int)])] [Zn9 (@qz0)] [] Tryz.func150 [] (an ((⟨by omega,HZ hp⟩):0≤(↑i:Int)∧(List.map Z0.dv l)[(↑i:Int).toNat]?=some (Z0.mk 2 sp us pi).dv) (an ((fun hg=>@Z0N _ c):(!(decide ((Z0.mk 2 sp us pi).K<0)||decide (3≤(Z0.mk 2 sp us pi).K)))=true→GSpec Tryz.prog 197 [AV.ag [nI (Z0.mk 2 sp us pi).K,nI (Z0.mk 2 sp us pi).S,nI (Z0.mk 2 sp us pi).U,nI (Z0.mk 2 sp us pi).N],AV.ag [nI c.pw,nI c.pg]] true (bL (GW (Z0.mk 2 sp us pi) c)) []) (an (by simp[hf]:(decide ((Z0.mk 2 sp us pi).K<0)||decide (3≤(Z0.mk 2 sp us pi).K)||!GW (Z0.mk 2 sp us pi) c)=false) (an (rf false) (an (@hk▸Z07 c us) (an (by grind[C5]:IntKind.i64.wrap ((↑(List.map Z0.dv l).length:Int)-(↑i:Int))=(↑l.length:Int)-(↑i:Int)) (an (bo (decide ((↑l.length:Int)-(↑i:Int)<(↑k:Int))=false)) (an (rf false) (an (wI (IntKind.i64.wrap ((↑i:Int)+1)=(↑(i+1):Int))) (an (wI (IntKind.i64.wrap ((↑i:Int)+(↑k:Int))=(↑(i+k):Int))) (an (by grind:0≤(↑(i+1):Int)∧(↑(i+1):Int)≤(↑(i+k):Int)∧(↑(i+k):Int)≤(↑(List.map Z0.dv l).length:Int)) (an (hsub:List.take ((↑(i+k):Int).toNat-(↑(i+1):Int).toNat) (List.drop (↑(i+1):Int).toNat (List.map Z0.dv l))=List.map Z0.dv (List.take (k-1) (List.drop (i+1) l))) (an (by grind:(↑(List.map Z0.dv (List.take (k-1) (List.drop (i+1) l))).length:Int)=(↑(List.take (k-1) (List.drop (i+1) l)).length:Int)) (@qz0))))))))))))))
   |false =>
    have e:Ch c l i=0:=by grind[Ch]
    rw[e]
    have qz0:CSpec Tryz.prog (Zi Tryz.f150 (0:Nat)) (N1 (Z0.mk (2:Int) sp us pi) (List.take (k-(1:Nat)) (List.drop (i+(1:Nat)) l)) k (0:Nat)).st Ex.ret (Tg.mk (tm (66:Nat) [((6:Nat),nI (0:Int))]) [] (60:Nat)).st:=by
     obtain⟨n,x,h1,h2,h3⟩:=PH ht
     refine EJ (S:=fun j=>(N1 ⟨2,sp,us,pi⟩ ((l.drop (i+1)).take (k-1)) k j).st) n (by kernel_rfl) (fun j hj=>?_) (Zm1 _ _ _ n x h1 h2)
     obtain⟨y,h4,h5⟩:=h3 j hj
     exact Z9W _ _ _ j y hsl h4 h5
    exact gE [(15,[Hint.el (Z0.mk 2 sp us pi).dv]),(32,[Hint.call true (bL (GW (Z0.mk 2 sp us pi) c)) []]),bF 34,(41,[Hint.call true (nI ↑k) []]),(46,[Hint.int ((↑l.length:Int)-(↑i:Int))]),bF 47,(50,[Hint.int (↑(i+1):Int)]),(53,[Hint.int (↑(i+k):Int)]),(54,[Hint.els (((l.drop (i+1)).take (k-1)).map Z0.dv)]),(55,[Hint.int (↑(List.take (k-1) (List.drop (i+1) l)).length:Int)])] [Zn9 (@qz0)] [] Tryz.func150 [] (an ((⟨by omega,HZ hp⟩):0≤(↑i:Int)∧(List.map Z0.dv l)[(↑i:Int).toNat]?=some (Z0.mk 2 sp us pi).dv) (an ((fun hg=>@Z0N _ c):(!(decide ((Z0.mk 2 sp us pi).K<0)||decide (3≤(Z0.mk 2 sp us pi).K)))=true→GSpec Tryz.prog 197 [AV.ag [nI (Z0.mk 2 sp us pi).K,nI (Z0.mk 2 sp us pi).S,nI (Z0.mk 2 sp us pi).U,nI (Z0.mk 2 sp us pi).N],AV.ag [nI c.pw,nI c.pg]] true (bL (GW (Z0.mk 2 sp us pi) c)) []) (an (by simp[hf]:(decide ((Z0.mk 2 sp us pi).K<0)||decide (3≤(Z0.mk 2 sp us pi).K)||!GW (Z0.mk 2 sp us pi) c)=false) (an (rf false) (an (@hk▸Z07 c us) (an (by grind[C5]:IntKind.i64.wrap ((↑(List.map Z0.dv l).length:Int)-(↑i:Int))=(↑l.length:Int)-(↑i:Int)) (an (bo (decide ((↑l.length:Int)-(↑i:Int)<(↑k:Int))=false)) (an (rf false) (an (wI (IntKind.i64.wrap ((↑i:Int)+1)=(↑(i+1):Int))) (an (wI (IntKind.i64.wrap ((↑i:Int)+(↑k:Int))=(↑(i+k):Int))) (an (by grind:0≤(↑(i+1):Int)∧(↑(i+1):Int)≤(↑(i+k):Int)∧(↑(i+k):Int)≤(↑(List.map Z0.dv l).length:Int)) (an (hsub:List.take ((↑(i+k):Int).toNat-(↑(i+1):Int).toNat) (List.drop (↑(i+1):Int).toNat (List.map Z0.dv l))=List.map Z0.dv (List.take (k-1) (List.drop (i+1) l))) (an (by grind:(↑(List.map Z0.dv (List.take (k-1) (List.drop (i+1) l))).length:Int)=(↑(List.take (k-1) (List.drop (i+1) l)).length:Int)) (@qz0))))))))))))))
  ·have e:Ch c l i=0:=by grind[Ch]
   rw[e]
   exact gE [(15,[Hint.el (Z0.mk 2 sp us pi).dv]),(32,[Hint.call true (bL (GW (Z0.mk 2 sp us pi) c)) []]),bF 34,(41,[Hint.call true (nI ↑k) []]),(46,[Hint.int ((↑l.length:Int)-(↑i:Int))]),bT 47] [] [] Tryz.func150 [] (an ((⟨by omega,HZ hp⟩):0≤(↑i:Int)∧(List.map Z0.dv l)[(↑i:Int).toNat]?=some (Z0.mk 2 sp us pi).dv) (an ((fun hg=>@Z0N _ c):(!(decide ((Z0.mk 2 sp us pi).K<0)||decide (3≤(Z0.mk 2 sp us pi).K)))=true→GSpec Tryz.prog 197 [AV.ag [nI (Z0.mk 2 sp us pi).K,nI (Z0.mk 2 sp us pi).S,nI (Z0.mk 2 sp us pi).U,nI (Z0.mk 2 sp us pi).N],AV.ag [nI c.pw,nI c.pg]] true (bL (GW (Z0.mk 2 sp us pi) c)) []) (an (by simp[hf]:(decide ((Z0.mk 2 sp us pi).K<0)||decide (3≤(Z0.mk 2 sp us pi).K)||!GW (Z0.mk 2 sp us pi) c)=false) (an (rf false) (an (@hk▸Z07 c us) (an (by grind[C5]:IntKind.i64.wrap ((↑(List.map Z0.dv l).length:Int)-(↑i:Int))=(↑l.length:Int)-(↑i:Int)) (an (bo (decide ((↑l.length:Int)-(↑i:Int)<(↑k:Int))=true)) tt)))))))
def Z7w(c:B7)(l:List Z0)(hl:l.length<=281474976710656)(i:Nat)(g:i<l.length):GP 150 [c.av,B5 l,nI i] X (nI (Ch c l i)) []:=by obtain⟨p,a⟩:∃p,l[i]?=some p:=⟨l[i],List.getElem?_eq_getElem g⟩;obtain⟨kd,sp,us,b⟩:=p;by_cases d:kd=0;subst d;exact ZmE c l i sp us b a;by_cases e:kd=1;subst e;exact ZgR c l i sp us b a;by_cases f:kd=2;subst f;exact Zlf c l hl i sp us b a;exact ZlP c l i _ a (by grind)
def Z2(l:List Int):AV:=.d (.sl 1 (l.map wD))
structure Heap where
 C:B7
 W:List Int
 P:List Z0
 S:Int
 B:Int
 deriving DecidableEq,Inhabited
def Heap.cells(h:Heap):List AV:=[nI h.C.pw,nI h.C.pg,Z2 h.W,B5 h.P,nI h.S,nI h.B]
def Heap.av(h:Heap):AV:=.ag h.cells
def B9:Heap:=⟨⟨0,0⟩,[],[],0,0⟩
def Iz(c:B7):Heap:=⟨c,La (c.pw*c.pg).toNat 0,La c.pg.toNat ⟨0,0,0,0⟩,0,-1⟩
def Zbd(c:B7)(h:Zv c=X):GP 100 [c.av] Z (.tu [(Iz c).av,nI 0]) []:=by
 have hv:=BI.1 h;have ha:=Ij h;rw[Lc]at ha;have hc:=Lc c.pw c.pg;exact gF [] func100 []<|Fh 14 [.els ((La (c.pw*c.pg).toNat 0).map wD)]<|Fh 17 [.els ((La c.pg.toNat (⟨0,0,0,0⟩:Z0)).map Z0.dv)]<|Fc 5 (@GJ c)<|Ff 6 (by simp[h]:(!Zv c)=Z)<|Fg 13 (by grind[C5]:M.wrap (c.pg*c.pw)=(↑(c.pw*c.pg).toNat:Int))<|Fa ((⟨by omega,by omega,by simp;omega⟩):0<=(↑(c.pw*c.pg).toNat:Int)/\(↑(c.pw*c.pg).toNat:Int)<=(↑(c.pw*c.pg).toNat:Int)/\(↑(c.pw*c.pg).toNat:Int)*((↑(nat_lit 7):Int)+1)<=2^48)<|Fa (by rw[List.map_replicate];rfl:La (↑(c.pw*c.pg).toNat:Int).toNat [ZZ 0]=L wD (La (c.pw*c.pg).toNat 0))<|Fa ((⟨by omega,by omega,by simp;omega⟩):0<=c.pg/\c.pg<=c.pg/\c.pg*((↑(nat_lit 31):Int)+1)<=2^48)<|Fa (by simp[Z0.dv,wD]:La c.pg.toNat [Zq 0,Zq 0,Zq 0,Zq 0]=L Z0.dv (La c.pg.toNat (Z0.mk 0 0 0 0))) Fz
def E7(l:List Z0)(i:Int):Z0:=l[i.toNat]?.getD ⟨0,0,0,0⟩
theorem Zhx{l:List Z0}{i:Int}(h:i.toNat<l.length):l[i.toNat]?=some (E7 l i):=by grind[E7]
def MY(h:Heap):Bool:=(h.B==-1)||(Y (0<=h.B)&&Y (h.B<h.P.length)&&((E7 h.P h.B).K==1))
def Z0G(h:Heap):Bool:=Zv h.C&&((h.W.length:Int)==h.C.pw*h.C.pg)&&((h.P.length:Int)==h.C.pg)&&((h.S==0)||(h.S==1))
def H1(c:B7)(l:List Z0):Nat->Nat->Bool|0,i=>Y (l.length<=i)|f+1,i=>if i<l.length then(if Ch c l i=0 then Z else H1 c l f (i+Ch c l i))else X
def Z9(h:Heap):Bool:=Z0G h&&(MY h&&H1 h.C h.P h.P.length 0)
def NM(h:Heap)(i:Nat):Tg:=⟨tm 83 [(1,.pt 8001 0 0),(2,bL Z),(3,nI i)],[(8001,.box 28 h.cells)],50⟩
def Zj9{c}{l:List Z0}{i:Nat}(hi:i<l.length):i+Ch c l i<=l.length:=by grind[Ch]
def Z4X(h:Heap)(i:Nat)(hl:h.P.length<=281474976710656)(hi:i<h.P.length)(hs:Ch h.C h.P i≠0):CP (Zm f94 0) (NM h i).st .nrm (NM h (i+Ch h.C h.P i)).st:=by have hle:=Zj9 (c:=h.C) hi;exact sF [] []<|Fg 70 (by grind:(↑(L Z0.dv h.P).length:Int)=(h.P.length:Int))<|Ftb 71 (Y ((i:Int)<(h.P.length:Int)))<|Fc 77 (@Z7w h.C h.P hl i hi)<|Ffb 79 ((↑(Ch h.C h.P i):Int)==0)<|Fw 82 ((i:Int)+(↑(Ch h.C h.P i):Int)) (↑(i+Ch h.C h.P i):Int) Fz
def Zie(h:Heap)(i:Nat)(hl:h.P.length<=281474976710656)(hi:i<h.P.length)(hs:Ch h.C h.P i=0):CP (Zm f94 0) (NM h i).st .ret (Tg.st ⟨tm 83 [(2,bL Z)],[],60⟩):=by exact sF [] []<|Fg 70 (by grind:(↑(L Z0.dv h.P).length:Int)=(h.P.length:Int))<|Ftb 71 (Y ((i:Int)<(h.P.length:Int)))<|Fc 77 (@Z7w h.C h.P hl i hi)<|Ft 79 (by simp[hs]:((↑(Ch h.C h.P i):Int)==0)=X) Fz
def Z5w(h:Heap)(i:Nat)(hi:h.P.length<=i):CP (Zm f94 0) (NM h i).st (.ext 0) (Tg.st ⟨tm 83 [],[],60⟩):=by exact sF [] []<|Fl 70 Z0.dv h.P<|Ffb 71 (Y ((i:Int)<(h.P.length:Int))) Fz
def Z6d(h:Heap)(hl:h.P.length<=281474976710656):∀(f i:Nat),h.P.length<=i+f->H1 h.C h.P f i=X->∃n,Nc prog (Zm f94 0) n (NM h i).st (.ext 0) (Tg.st ⟨tm 83 [],[],60⟩)
 |0,i,hf,_=>⟨0,(λh=>nomatch h),Z5w h i oq⟩
 |f+1,i,hf,hb=>by
  by_cases a:i<h.P.length
  .simp only[H1,if_pos a]at hb;split at hb
   .cases hb
   .rename_i c;obtain⟨n,b⟩:=Z6d h hl f (i+Ch h.C h.P i) oq hb;exact⟨n+1,_,Z4X h i hl a c,b⟩
  .exact⟨0,(λh=>nomatch h),Z5w h i oq⟩
def Z9q(h:Heap)(hl:h.P.length<=281474976710656):∀(f i:Nat),h.P.length<=i+f->H1 h.C h.P f i=Z->∃n,Nc prog (Zm f94 0) n (NM h i).st .ret (Tg.st ⟨tm 83 [(2,bL Z)],[],60⟩)
 |0,i,hf,hb=>by grind[H1]
 |f+1,i,hf,hb=>by
  by_cases a:i<h.P.length
  .simp only[H1,if_pos a]at hb;split at hb
   .rename_i b;exact⟨0,(λh=>nomatch h),Zie h i hl a b⟩
   .rename_i b;obtain⟨n,c⟩:=Z9q h hl f (i+Ch h.C h.P i) oq hb;exact⟨n+1,_,Z4X h i hl a b,c⟩
  grind[H1]
theorem Z0s{h:Heap}:Z0G h=X↔Zv h.C=X/\(h.W.length:Int)=h.C.pw*h.C.pg/\(h.P.length:Int)=h.C.pg/\(h.S=0\/h.S=1):=by grind[Z0G]
def Eg(h:Heap):GP 94 [h.av] X (bL (Z9 h)) []:=by
 have a:(!!Zv h.C)=X->M.wrap (h.C.pw*h.C.pg)=h.C.pw*h.C.pg:=by(intro i;have ha:=Ij (c:=h.C) (by simpa using i);exact C5 oq oq)
 by_cases j:Z0G h=X;obtain⟨s1,s2,s3,s4⟩:=Z0s.1 j;have i:=BI.1 s1;have b:(!Zv h.C||(h.W.length:Int) != h.C.pw*h.C.pg||(h.P.length:Int) != h.C.pg||h.S != 0&&h.S != 1)=Z:=by grind
 have f:(h.B != -1&&!(Y (h.B<0)||Y ((h.P.length:Int)<=h.B)))=X->0<=h.B/\(L Z0.dv h.P)[h.B.toNat]?=some (E7 h.P h.B).dv:=by grind[Zhx]
 by_cases h2:MY h=X;have d:(h.B != -1&&(Y (h.B<0)||Y ((h.P.length:Int)<=h.B)||(E7 h.P h.B).K != 1))=Z:=by grind[MY]
 cases h3:H1 h.C h.P h.P.length 0 with
 |true =>
  have e:Z9 h=X:=by grind[Z9]
  rw[e];obtain⟨n,g⟩:=Z6d h oq h.P.length 0 oq h3;exact gF [] func94 []<|Fh 7 [.call X (bL (Zv h.C)) []]<|Fh 12 [.int ↑h.W.length]<|Fh 19 [.int (h.C.pw*h.C.pg)]<|Fh 25 [.int ↑h.P.length]<|Fh 53 [.int ↑h.P.length]<|Fh 61 [.el (E7 h.P h.B).dv]<|Fk (0,NM h 0,.nrm,⟨tm 83 [],[],60⟩)<|Fa ((HN h.C):GP 149 [AV.ag [nI h.C.pw,nI h.C.pg]] X (bL (Zv h.C)) [])<|Fa ((λ_=>by grind):(!!Zv h.C)=X->(↑(L wD h.W).length:Int)=(h.W.length:Int))<|Fa (a:(!!Zv h.C)=X->M.wrap (h.C.pw*h.C.pg)=h.C.pw*h.C.pg)<|Fa ((λ_=>by grind):(!(!Zv h.C||(h.W.length:Int) != h.C.pw*h.C.pg))=X->(↑(L Z0.dv h.P).length:Int)=(h.P.length:Int))<|Ff 40 (b:(!Zv h.C||(h.W.length:Int) != h.C.pw*h.C.pg||(h.P.length:Int) != h.C.pg||h.S != 0&&h.S != 1)=Z)<|Fa ((λ_=>by grind):(h.B != (-1:Int)&&!decide (h.B<0))=X->(↑(L Z0.dv h.P).length:Int)=(h.P.length:Int))<|Fa (f:(h.B != (-1:Int)&&!(Y (h.B<0)||Y ((h.P.length:Int)<=h.B)))=X->0<=h.B/\(L Z0.dv h.P)[h.B.toNat]?=some (E7 h.P h.B).dv)<|Ff 66 (d:(h.B != (-1:Int)&&(Y (h.B<0)||Y ((h.P.length:Int)<=h.B)||(E7 h.P h.B).K != 1))=Z)<|Fa ((Z1R kr g):CP (Zi f94 0) (NM h 0).st Ex.nrm (Tg.mk (tm 83 []) [] 60).st) Fz
 |false =>
  have e:Z9 h=Z:=by grind[Z9]
  rw[e];obtain⟨n,g⟩:=Z9q h oq h.P.length 0 oq h3;exact gF [] func94 []<|Fh 7 [.call X (bL (Zv h.C)) []]<|Fh 12 [.int ↑h.W.length]<|Fh 19 [.int (h.C.pw*h.C.pg)]<|Fh 25 [.int ↑h.P.length]<|Fh 53 [.int ↑h.P.length]<|Fh 61 [.el (E7 h.P h.B).dv]<|Fk (0,NM h 0,.ret,⟨tm 83 [(2,bL Z)],[],60⟩)<|Fa ((HN h.C):GP 149 [AV.ag [nI h.C.pw,nI h.C.pg]] X (bL (Zv h.C)) [])<|Fa ((λ_=>by grind):(!!Zv h.C)=X->(↑(L wD h.W).length:Int)=(h.W.length:Int))<|Fa (a:(!!Zv h.C)=X->M.wrap (h.C.pw*h.C.pg)=h.C.pw*h.C.pg)<|Fa ((λ_=>by grind):(!(!Zv h.C||(h.W.length:Int) != h.C.pw*h.C.pg))=X->(↑(L Z0.dv h.P).length:Int)=(h.P.length:Int))<|Ff 40 (b:(!Zv h.C||(h.W.length:Int) != h.C.pw*h.C.pg||(h.P.length:Int) != h.C.pg||h.S != 0&&h.S != 1)=Z)<|Fa ((λ_=>by grind):(h.B != (-1:Int)&&!decide (h.B<0))=X->(↑(L Z0.dv h.P).length:Int)=(h.P.length:Int))<|Fa (f:(h.B != (-1:Int)&&!(Y (h.B<0)||Y ((h.P.length:Int)<=h.B)))=X->0<=h.B/\(L Z0.dv h.P)[h.B.toNat]?=some (E7 h.P h.B).dv)<|Ff 66 (d:(h.B != (-1:Int)&&(Y (h.B<0)||Y ((h.P.length:Int)<=h.B)||(E7 h.P h.B).K != 1))=Z)<|Fa ((Z3R kr g):CP (Zi f94 0) (NM h 0).st Ex.ret (Tg.mk (tm 83 [(2,bL Z)]) [] 60).st) Fz
 have d:(h.B != -1&&(Y (h.B<0)||Y ((h.P.length:Int)<=h.B)||(E7 h.P h.B).K != 1))=X:=by grind[MY]
 have e:Z9 h=Z:=by grind[Z9]
 rw[e];exact gF [] func94 []<|Fh 7 [.call X (bL (Zv h.C)) []]<|Fh 12 [.int ↑h.W.length]<|Fh 19 [.int (h.C.pw*h.C.pg)]<|Fh 25 [.int ↑h.P.length]<|Fh 53 [.int ↑h.P.length]<|Fh 61 [.el (E7 h.P h.B).dv]<|Fa ((HN h.C):GP 149 [AV.ag [nI h.C.pw,nI h.C.pg]] X (bL (Zv h.C)) [])<|Fa ((λ_=>by grind):(!!Zv h.C)=X->(↑(L wD h.W).length:Int)=(h.W.length:Int))<|Fa (a:(!!Zv h.C)=X->M.wrap (h.C.pw*h.C.pg)=h.C.pw*h.C.pg)<|Fa ((λ_=>by grind):(!(!Zv h.C||(h.W.length:Int) != h.C.pw*h.C.pg))=X->(↑(L Z0.dv h.P).length:Int)=(h.P.length:Int))<|Ff 40 (b:(!Zv h.C||(h.W.length:Int) != h.C.pw*h.C.pg||(h.P.length:Int) != h.C.pg||h.S != 0&&h.S != 1)=Z)<|Fa ((λ_=>by grind):(h.B != (-1:Int)&&!decide (h.B<0))=X->(↑(L Z0.dv h.P).length:Int)=(h.P.length:Int))<|Fa (f:(h.B != (-1:Int)&&!(Y (h.B<0)||Y ((h.P.length:Int)<=h.B)))=X->0<=h.B/\(L Z0.dv h.P)[h.B.toNat]?=some (E7 h.P h.B).dv)<|Ft 66 (d:(h.B != (-1:Int)&&(Y (h.B<0)||Y ((h.P.length:Int)<=h.B)||(E7 h.P h.B).K != 1))=X) Fz;have b:(!Zv h.C||(h.W.length:Int) != h.C.pw*h.C.pg||(h.P.length:Int) != h.C.pg||h.S != 0&&h.S != 1)=X:=by grind[Z0s]
 have e:Z9 h=Z:=by grind[Z9]
 rw[e];exact gF [] func94 []<|Fh 7 [.call X (bL (Zv h.C)) []]<|Fh 12 [.int ↑h.W.length]<|Fh 19 [.int (h.C.pw*h.C.pg)]<|Fh 25 [.int ↑h.P.length]<|Fa ((HN h.C):GP 149 [AV.ag [nI h.C.pw,nI h.C.pg]] X (bL (Zv h.C)) [])<|Fa ((λ_=>by grind):(!!Zv h.C)=X->(↑(L wD h.W).length:Int)=(h.W.length:Int))<|Fa (a:(!!Zv h.C)=X->M.wrap (h.C.pw*h.C.pg)=h.C.pw*h.C.pg)<|Fa ((λ_=>by grind):(!(!Zv h.C||(h.W.length:Int) != h.C.pw*h.C.pg))=X->(↑(L Z0.dv h.P).length:Int)=(h.P.length:Int))<|Ft 40 (b:(!Zv h.C||(h.W.length:Int) != h.C.pw*h.C.pg||(h.P.length:Int) != h.C.pg||h.S != 0&&h.S != 1)=X) Fz
end Go.Proofs.YtgedmeaemofdkaaGreat
namespace Go.Proofs.YtgedmeaemofdkaaGreat
open Go.Sx Go.RowKit
def ZgH:ownKnob Tryz.prog.godebug=none:=by kernel_rfl
def ZlD:laidOutB prog=X:=by kernel_rfl
def ZlC{n:Nat}{l}(h:shp prog (n+1) 3 l):∃x:Int,l=[Zq x]/\(Lit.int .i64 x).wf=X:=by
 have e:shp prog (n+1) 3 l=(∃x:Int,l=[.sc (.int .i64 x)]/\(Lit.int .i64 x).wf=X):=by kernel_rfl
 rw[e]at h;exact h
def Z8S{α β:Type}{f:α->β}:∀{l:List β},(∀x∈l,∃a,x=f a)->∃m:List α,l=m.map f
 |[],_=>⟨[],rfl⟩
 |x::l,h=>by
  obtain⟨a,rfl⟩:=h x pq;obtain⟨m,rfl⟩:=Z8S (l:=l) λy b=>h y (by simp[b]);exact⟨a::m,rfl⟩
end Go.Proofs.YtgedmeaemofdkaaGreat
