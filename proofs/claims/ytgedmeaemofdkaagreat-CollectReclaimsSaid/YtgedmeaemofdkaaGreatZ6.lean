/-
 The statement CollectReclaims: part 6.
 Conditions: none.
-/
import Derived.IntWalk
import Derived.Test.YtgedmeaemofdkaaGreatRows
import Derived.Test.YtgedmeaemofdkaaGreatZ5
set_option maxRecDepth 100000
set_option maxHeartbeats 2000000
set_option linter.all false
open Bool renaming true->X,false->Z,eq_iff_iff->Lg
open Decidable renaming decide->Y
open Go.IntKind renaming i64->M,u64->Lb
open List renaming map->L,replicate->La,getElem?_eq_some_iff->Li
open Int renaming mul_le_mul_of_nonneg_right->O,mul_comm->Lc,ediv_le_self->Ld,ediv_nonneg->Le,mul_nonneg->Lf,add_mul->Lh
open Go.Proofs.Tryz
namespace Go.Proofs.YtgedmeaemofdkaaGreat
open Go.Sx
abbrev GP:=GSpec prog
abbrev LP:=LentSpec prog
abbrev BP:=BorSpec prog
abbrev CP:=CSpec prog
structure B3 where
 pw:Int
 pg:Int
 deriving DecidableEq,Inhabited
def B3.av(c:B3):AV:=.ag [nI c.pw,nI c.pg]
def Zs(c:B3):Bool:=Y (16<=c.pw)&&Y (c.pw<=64)&&(c.pw.tmod 4==0)&&Y (8<=c.pg)&&Y (c.pg<=64)
def BG{c:B3}:Zs c=X↔16<=c.pw/\c.pw<=64/\c.pw.tmod 4=0/\8<=c.pg/\c.pg<=64:=by simp[Zs,and_assoc]
def E6(c:B3):Int:=if Zs c=X then c.pg.tdiv 4 else 0
def Zc(c:B3):Int:=if Zs c=X then c.pw.tdiv 4 else 0
theorem C3{n:Int}(a:-9223372036854775808<=n)(b:n<=9223372036854775807):M.wrap n=n:=IntWalk.i64_in n ⟨a,b⟩
def H5{a b:Int}(h:0<=a):a.tdiv b=a/b:=Int.tdiv_eq_ediv_of_nonneg h
def Z5U{a b:Int}(h:0<=a):a.tmod b=a%b:=Int.tmod_eq_emod_of_nonneg h
def Hy(c:B3):GP 149 [c.av] X (bL (Zs c)) []:=by refine Zb [] [] [] dd func149 [] (φ:=(Y ((16:Int)<=c.pw)&&Y (c.pw<=(64:Int)))=X->(4:Int)=(0:Int)->False) ?_ kr kr;intro _ ;decide
def GC(c:B3):GP 92 [c.av] X (bL (Zs c)) []:=by refine Zb [] [] [] dd func92 [] (φ:=(Y ((16:Int)<=c.pw)&&Y (c.pw<=(64:Int)))=X->(4:Int)=(0:Int)->False) ?_ kr kr;intro _ ;decide
def Zm6(c:B3):GP 154 [c.av] X (nI (E6 c)) []:=by by_cases h:Zs c=X;have hv:=BG.1 h;have e:E6 c=c.pg.tdiv 4:=if_pos h;rw[e];exact gF [] func154 []<|Fh 8 [.int (c.pg.tdiv 4)]<|Fc 4 (@Hy c)<|Ff 5 (by simp[h]:(!Zs c)=Z)<|Fa ((C3 (by rw[H5 oq];omega) (by rw[H5 oq];omega)):M.wrap (c.pg.tdiv 4)=c.pg.tdiv 4)<|Fa (by decide:(4:Int)=0->False) Fz;have e:E6 c=0:=if_neg h;rw[e];exact gF [] func154 []<|Fc 4 (@Hy c)<|Ft 5 (by simp[h]:(!Zs c)=X) Fz
def MW(c:B3):GP 202 [c.av] X (nI (E6 c)) []:=by by_cases h:Zs c=X;have hv:=BG.1 h;have e:E6 c=c.pg.tdiv 4:=if_pos h;rw[e];exact gF [] func202 []<|Fh 8 [.int (c.pg.tdiv 4)]<|Fc 4 (@GC c)<|Ff 5 (by simp[h]:(!Zs c)=Z)<|Fa ((C3 (by rw[H5 oq];omega) (by rw[H5 oq];omega)):M.wrap (c.pg.tdiv 4)=c.pg.tdiv 4)<|Fa (by decide:(4:Int)=0->False) Fz;have e:E6 c=0:=if_neg h;rw[e];exact gF [] func202 []<|Fc 4 (@GC c)<|Ft 5 (by simp[h]:(!Zs c)=X) Fz
def PF(c:B3):GP 151 [c.av] X (nI (Zc c)) []:=by by_cases h:Zs c=X;have hv:=BG.1 h;have e:Zc c=c.pw.tdiv 4:=if_pos h;rw[e];exact gF [] func151 []<|Fh 8 [.int (c.pw.tdiv 4)]<|Fc 4 (@Hy c)<|Ff 5 (by simp[h]:(!Zs c)=Z)<|Fa ((C3 (by rw[H5 oq];omega) (by rw[H5 oq];omega)):M.wrap (c.pw.tdiv 4)=c.pw.tdiv 4)<|Fa (by decide:(4:Int)=0->False) Fz;have e:Zc c=0:=if_neg h;rw[e];exact gF [] func151 []<|Fc 4 (@Hy c)<|Ft 5 (by simp[h]:(!Zs c)=X) Fz
def Ny(c:B3):GP 93 [c.av] X (nI (Zc c)) []:=by by_cases h:Zs c=X;have hv:=BG.1 h;have e:Zc c=c.pw.tdiv 4:=if_pos h;rw[e];exact gF [] func93 []<|Fh 8 [.int (c.pw.tdiv 4)]<|Fc 4 (@GC c)<|Ff 5 (by simp[h]:(!Zs c)=Z)<|Fa ((C3 (by rw[H5 oq];omega) (by rw[H5 oq];omega)):M.wrap (c.pw.tdiv 4)=c.pw.tdiv 4)<|Fa (by decide:(4:Int)=0->False) Fz;have e:Zc c=0:=if_neg h;rw[e];exact gF [] func93 []<|Fc 4 (@GC c)<|Ft 5 (by simp[h]:(!Zs c)=X) Fz
def need(c:B3)(n:Int):Int:=if Zs c=X/\1<=n/\n<=4*c.pw then(if n<=c.pw/4 then 0 else(n+c.pw-1)/c.pw)else -1
def Ru{c:B3}(h:Zs c=X):Zc c=c.pw/4:=by have hv:=BG.1 h;rw[Zc,if_pos h,H5 oq]
def Py(c:B3) n:GP 97 [c.av,nI n] X (nI (need c n)) []:=by
 by_cases h:Zs c=X/\1<=n/\n<=4*c.pw;obtain⟨h,i,j⟩:=h;have b:=BG.1 h;by_cases a:n<=c.pw/4;have e:need c n=0:=by rw[need,if_pos ⟨h,i,j⟩,if_pos a]
 rw[e];exact gF [] func97 []<|Fh 7 [.call X (bL (Zs c)) []]<|Fh 17 [.int (4*c.pw)]<|Fh 19 [.br Z]<|Fh 23 [.call X (nI (Zc c)) []]<|Fh 24 [.br X]<|Fa ((Hy c):GP 149 [AV.ag [nI c.pw,nI c.pg]] X (bL (Zs c)) [])<|Fa ((λ_=>C3 oq oq):(!(!Zs c||Y (n<1)))=X->M.wrap (4*c.pw)=4*c.pw)<|Fa (by simp[h];omega:(!Zs c||Y (n<1)||Y (4*c.pw<n))=Z)<|Fa ((PF c):GP 151 [AV.ag [nI c.pw,nI c.pg]] X (nI (Zc c)) [])<|Fa (by rw[Ru h];simpa using a:Y (n<=Zc c)=X) Fz;have e:need c n=(n+c.pw-1).tdiv c.pw:=by rw[need,if_pos ⟨h,i,j⟩,if_neg a,H5 oq]
 have hq:(n+c.pw-1)/c.pw<=n+c.pw-1:=Ld _ oq;have k:0<=(n+c.pw-1)/c.pw:=Le oq oq;rw[e];exact gF [] func97 []<|Fh 7 [.call X (bL (Zs c)) []]<|Fh 17 [.int (4*c.pw)]<|Fh 19 [.br Z]<|Fh 23 [.call X (nI (Zc c)) []]<|Fh 24 [.br Z]<|Fh 28 [.int (n+c.pw)]<|Fh 29 [.int (n+c.pw-1)]<|Fh 32 [.int ((n+c.pw-1).tdiv c.pw)]<|Fa ((Hy c):GP 149 [AV.ag [nI c.pw,nI c.pg]] X (bL (Zs c)) [])<|Fa ((λ_=>C3 oq oq):(!(!Zs c||Y (n<1)))=X->M.wrap (4*c.pw)=4*c.pw)<|Fa (by simp[h];omega:(!Zs c||Y (n<1)||Y (4*c.pw<n))=Z)<|Fa ((PF c):GP 151 [AV.ag [nI c.pw,nI c.pg]] X (nI (Zc c)) [])<|Fa (by rw[Ru h];simpa using a:Y (n<=Zc c)=Z)<|Fa ((C3 oq oq):M.wrap (n+c.pw)=n+c.pw)<|Fa ((C3 oq oq):M.wrap (n+c.pw-1)=n+c.pw-1)<|Fa ((C3 (by rw[H5 oq];omega) (by rw[H5 oq];omega)):M.wrap ((n+c.pw-1).tdiv c.pw)=(n+c.pw-1).tdiv c.pw)<|Fo (c.pw=0->False) Fz;have e:need c n=-1:=if_neg h;rw[e];have d:((!(!Zs c||Y (n<(1:Int))))=X->M.wrap ((4:Int)*c.pw)=(4:Int)*c.pw):=by(intro g;simp at g;have b:=BG.1 g.1;exact C3 oq oq)
 have f:(!Zs c||Y (n<(1:Int))||Y ((4:Int)*c.pw<n))=X:=by
  simp;cases b:Zs c with|false=>simp|true =>simp only[b,true_and]at h;simp;omega
 exact gF [] func97 []<|Fh 7 [.call X (bL (Zs c)) []]<|Fh 17 [.int (4*c.pw)]<|Fh 19 [.br X]<|Fa ((Hy c):GP 149 [AV.ag [nI c.pw,nI c.pg]] X (bL (Zs c)) [])<|Fa (d:(!(!Zs c||Y (n<1)))=X->M.wrap (4*c.pw)=4*c.pw)<|Fa (f:(!Zs c||Y (n<1)||Y (4*c.pw<n))=X) Fz
def ZbQ{c:B3}{n:Int}{k:Nat}(h:Zs c=X)(a:1<=n)(h2:c.pw/4<n)(hk:k<=4)(b:((k:Int)-1)*c.pw<n)(h4:n<=k*c.pw):need c n=k:=by have hv:=BG.1 h;have h5:(k:Int)*c.pw<=4*c.pw:=O oq oq;rw[need,if_pos ⟨h,a,by omega⟩,if_neg oq];rw[Int.sub_mul]at b;refine Int.le_antisymm (Int.le_of_lt_add_one (Int.ediv_lt_of_lt_mul oq ?_)) (Int.le_ediv_of_mul_le oq oq);rw[Lh];omega
def NC(c:B3)(n:Int)(k:Nat):Tg:=⟨tm 28 [(1,nI n),(2,.pt 8002 0 0),(4,nI 0),(5,nI k)],[(8002,.box 24 [nI c.pw,nI c.pg])],20⟩
def Z6E(c:B3)(n:Int)(k:Nat)(hw:c.pw<=64)(hw0:0<=c.pw)(hk:k<=4)(hn:k*c.pw<n):CP (Zn f47 0) (NC c n k).st .nrm (NC c n (k+1)).st:=by have hm:(k:Int)*c.pw<=4*c.pw:=O oq oq;have hm0:0<=(k:Int)*c.pw:=Lf oq oq;exact sF [] []<|Ftb 18 (Y ((k:Int)<=4))<|Fi 24 ((k:Int)*c.pw)<|Ffb 26 (Y (n<=(k:Int)*c.pw))<|Fx 20 k Fz
def Rq(c:B3)(n:Int):GP 47 [c.av,nI n] X (nI (need c n)) []:=by
 by_cases h:Zs c=X/\1<=n
 .obtain⟨h,h1⟩:=h;have hv:=BG.1 h;by_cases h3:n<=c.pw/4
  .have e:need c n=0:=by rw[need,if_pos ⟨h,h1,by omega⟩,if_pos h3]
   rw[e];exact gF [] func47 []<|Fh 7 [.call X (bL (Zs c)) []]<|Fh 15 [.call X (nI (Zc c)) []]<|Fa ((GC c):GP 92 [AV.ag [nI c.pw,nI c.pg]] X (bL (Zs c)) [])<|Ff 12 (by simp[h];omega:(!Zs c||Y (n<1))=Z)<|Fa ((Ny c):GP 93 [AV.ag [nI c.pw,nI c.pg]] X (nI (Zc c)) [])<|Ft 16 (by rw[Ru h];simpa using h3:Y (n<=Zc c)=X) Fz
  .by_cases h4:n<=4*c.pw
   .-- it is found
    have hk:∃k:Nat,1<=k/\k<=4/\((k:Int)-1)*c.pw<n/\n<=k*c.pw:=by
     by_cases a1:n<=c.pw
     .exact⟨1,by omega,by omega,by omega,by omega⟩
     by_cases a2:n<=2*c.pw
     .exact⟨2,by omega,by omega,by omega,by omega⟩
     by_cases a3:n<=3*c.pw
     .exact⟨3,by omega,by omega,by omega,by omega⟩
     .exact⟨4,by omega,by omega,by omega,by omega⟩
    obtain⟨k,k1,k4,klo,khi⟩:=hk;rw[ZbQ h h1 oq k4 klo khi];have qz0:CP (Zj f47 (0:Nat)) (NC c n (1:Nat)).st Ex.ret (Tg.mk (tm (28:Nat) [((4:Nat),nI (k:Int))]) [] (30:Nat)).st:=by
     obtain⟨j,rfl⟩:∃j,k=j+1:=⟨k-1,by omega⟩
     refine G0 (S:=λi=>(NC c n (i+1)).st) j kr (λi hi=>Z6E c n (i+1) oq oq oq ?_) ?_
     .have:((i+1:Nat):Int)*c.pw<=((j+1:Nat)-1:Int)*c.pw:=O oq oq;omega
     .have hm:((j+1:Nat):Int)*c.pw<=4*c.pw:=O oq oq;have hm0:0<=((j+1:Nat):Int)*c.pw:=Lf oq oq;refine Z9s [(18,[.br X]),(24,[.int ((j+1:Nat)*c.pw)]),(26,[.br X])] [] (φ:=Y ((↑(j+(1:Nat)):Int)<=(4:Int))=X/\X=X/\M.wrap ((↑(j+(1:Nat)):Int)*c.pw)=(↑(j+(1:Nat)):Int)*c.pw/\Y (n<=(↑(j+(1:Nat)):Int)*c.pw)=X/\X=X) ?_ kr kr kr;exact⟨decide_eq_true oq,rfl,C3 oq oq,decide_eq_true oq,rfl⟩
    exact gF [] func47 []<|Fh 7 [.call X (bL (Zs c)) []]<|Fh 15 [.call X (nI (Zc c)) []]<|Fk (0,NC c n 1,.ret,⟨tm 28 [(4,nI k)],[],30⟩)<|Fa ((GC c):GP 92 [AV.ag [nI c.pw,nI c.pg]] X (bL (Zs c)) [])<|Ff 12 (by simp[h];omega:(!Zs c||Y (n<1))=Z)<|Fa ((Ny c):GP 93 [AV.ag [nI c.pw,nI c.pg]] X (nI (Zc c)) [])<|Ff 16 (by rw[Ru h];simpa using h3:Y (n<=Zc c)=Z)<|Fa (qz0:CP (Zj f47 0) (NC c n 1).st Ex.ret (Tg.mk (tm 28 [(4,nI ↑k)]) [] 30).st) Fz
   .have e:need c n=-1:=by rw[need,if_neg oq]
    rw[e];have qz0:CP (Zj f47 (0:Nat)) (NC c n (1:Nat)).st Ex.nrm (Tg.mk (tm (28:Nat) []) [] (30:Nat)).st:=by
     refine Bt (S:=λi=>(NC c n (i+1)).st) 4 kr (λi hi=>Z6E c n (i+1) oq oq oq ?_) ?_
     .have:((i+1:Nat):Int)*c.pw<=4*c.pw:=O oq oq;omega
     .refine Z9s [(18,[.br Z])] [] (φ:=Y ((↑((4:Nat)+(1:Nat)):Int)<=(4:Int))=Z/\Z=Z) ?_ kr kr kr;exact⟨rfl,rfl⟩
    exact gF [] func47 []<|Fh 7 [.call X (bL (Zs c)) []]<|Fh 15 [.call X (nI (Zc c)) []]<|Fk (0,NC c n 1,.nrm,⟨tm 28 [],[],30⟩)<|Fa ((GC c):GP 92 [AV.ag [nI c.pw,nI c.pg]] X (bL (Zs c)) [])<|Ff 12 (by simp[h];omega:(!Zs c||Y (n<1))=Z)<|Fa ((Ny c):GP 93 [AV.ag [nI c.pw,nI c.pg]] X (nI (Zc c)) [])<|Ff 16 (by rw[Ru h];simpa using h3:Y (n<=Zc c)=Z)<|Fa (qz0:CP (Zj f47 0) (NC c n 1).st Ex.nrm (Tg.mk (tm 28 []) [] 30).st) Fz
 .have e:need c n=-1:=if_neg λh'=>h ⟨h'.1,h'.2.1⟩;rw[e];have qz0:(!Zs c||Y (n<(1:Int)))=X:=by
   cases hv:Zs c with
   |false=>simp
   |true =>
    simp only[hv,true_and]at h;simp;omega
  exact gF [] func47 []<|Fh 7 [.call X (bL (Zs c)) []]<|Fa ((GC c):GP 92 [AV.ag [nI c.pw,nI c.pg]] X (bL (Zs c)) [])<|Ft 12 (qz0:(!Zs c||Y (n<1))=X) Fz
def Ma{n:Int}(a:0<=n)(b:n<=18446744073709551615):Lb.wrap n=n:=IntWalk.u64_in n ⟨a,b⟩
def HE{c:B3}(h:Zs c=X):128<=c.pw*c.pg/\c.pw*c.pg<=4096:=by have hv:=BG.1 h;have h1:16*c.pg<=c.pw*c.pg:=O oq oq;have h2:c.pw*c.pg<=64*c.pg:=O oq oq;omega
def OH{c:B3}{p o:Int}(h:Zs c=X)(h1:0<=p)(h2:p<c.pg)(_:0<=o)(h4:o<c.pw):0<=p*c.pw/\p*c.pw+o<c.pw*c.pg:=by have hv:=BG.1 h;have a:(p+1)*c.pw<=c.pg*c.pw:=O oq oq;have h6:0<=p*c.pw:=Lf oq oq;rw[Lh,Lc c.pg]at a;omega
def inB(c:B3)(p o:Int):Bool:=Y (0<=p)&&Y (p<c.pg)&&Y (0<=o)&&Y (o<c.pw)
def HT{c}{p o:Int}:inB c p o=X↔0<=p/\p<c.pg/\0<=o/\o<c.pw:=by simp[inB,and_assoc]
def address(c:B3)(p o:Int):Int×Int:=if Zs c=X then(if inB c p o=X then(4096+(p*c.pw+o),0)else(0,2))else(0,1)
def Ey(c:B3)(p o:Int):AV:=.tu [uU (address c p o).1,nI (address c p o).2]
def TQ(c:B3) p o:GP 212 [c.av,nI p,nI o] X (Ey c p o) []:=by
 by_cases h:Zs c=X;have ha:=HE h;by_cases a:inB c p o=X;obtain⟨g,p2,d,f⟩:=HT.1 a;have hi:=OH h g p2 d f;have e:Ey c p o=.tu [uU (4096+(p*c.pw+o)),nI 0]:=by rw[Ey,address,if_pos h,if_pos a]
 rw[e];exact gF [] func212 []<|Fh 11 [.br Z]<|Fh 30 [.br Z]<|Fc 10 (@Hy c)<|Fa (by simp[h]:(!Zs c)=Z)<|Fb ((Y (p<0)||Y (c.pg<=p)||Y (o<0)||Y (c.pw<=o))=Z)<|Fi 34 (p*c.pw)<|Fi 36 (p*c.pw+o)<|Fv 37 (p*c.pw+o)<|Fv 38 (4096+(p*c.pw+o)) Fz;have e:Ey c p o=.tu [uU 0,nI 2]:=by rw[Ey,address,if_pos h,if_neg a]
 rw[e];have b:(Y (p<(0:Int))||Y (c.pg<=p)||Y (o<(0:Int))||Y (c.pw<=o))=X:=by(rw[HT]at a;simp;omega)
 exact gF [] func212 []<|Fh 11 [.br Z]<|Fh 30 [.br X]<|Fc 10 (@Hy c)<|Fa (by simp[h]:(!Zs c)=Z)<|Fa (b:(Y (p<0)||Y (c.pg<=p)||Y (o<0)||Y (c.pw<=o))=X) Fz;have e:Ey c p o=.tu [uU 0,nI 1]:=by rw[Ey,address,if_neg h]
 rw[e];exact gF [] func212 []<|Fh 11 [.br X]<|Fc 10 (@Hy c)<|Fa (by simp[h]:(!Zs c)=X) Fz
def OT(c:B3) p o:GP 194 [c.av,nI p,nI o] X (Ey c p o) []:=by
 by_cases h:Zs c=X;have ha:=HE h;by_cases a:inB c p o=X;obtain⟨g,p2,d,f⟩:=HT.1 a;have hi:=OH h g p2 d f;have e:Ey c p o=.tu [uU (4096+p*c.pw+o),nI 0]:=by rw[Ey,address,if_pos h,if_pos a,Int.add_assoc]
 rw[e];exact gF [] func194 []<|Fc 9 (@GC c)<|Ff 10 (by simp[h]:(!Zs c)=Z)<|Ffb 28 (Y (p<0)||Y (c.pg<=p)||Y (o<0)||Y (c.pw<=o))<|Fi 32 (p*c.pw)<|Fi 33 (4096+p*c.pw)<|Fi 35 (4096+p*c.pw+o)<|Fv 36 (4096+p*c.pw+o) Fz;have e:Ey c p o=.tu [uU 0,nI 2]:=by rw[Ey,address,if_pos h,if_neg a]
 rw[e];have b:(Y (p<(0:Int))||Y (c.pg<=p)||Y (o<(0:Int))||Y (c.pw<=o))=X:=by(rw[HT]at a;simp;omega)
 exact gF [] func194 []<|Fc 9 (@GC c)<|Ff 10 (by simp[h]:(!Zs c)=Z)<|Ft 28 (b:(Y (p<0)||Y (c.pg<=p)||Y (o<0)||Y (c.pw<=o))=X) Fz;have e:Ey c p o=.tu [uU 0,nI 1]:=by rw[Ey,address,if_neg h]
 rw[e];exact gF [] func194 []<|Fc 9 (@GC c)<|Ft 10 (by simp[h]:(!Zs c)=X) Fz
def Z3(c:B3)(a:Int):Int×Int×Int:=if Zs c=X then(if 4096<=a/\a<4096+c.pw*c.pg then((a-4096)/c.pw,(a-4096)%c.pw,0)else(0,0,2))else(0,0,1)
def Ba(c:B3)(a:Int):AV:=.tu [nI (Z3 c a).1,nI (Z3 c a).2.1,nI (Z3 c a).2.2]
def Gp(c:B3)(a:Int)(a0:0<=a)(a1:a<=18446744073709551615):GP 96 [c.av,uU a] X (Ba c a) []:=by
 by_cases h:Zs c=X;have ha:=HE h;have hv:=BG.1 h;by_cases b:4096<=a/\a<4096+c.pw*c.pg;have d1:0<=(a-4096)/c.pw:=Le oq oq;have d2:(a-4096)/c.pw<=a-4096:=Ld _ oq;have e:Ba c a=.tu [nI ((a-4096).tdiv c.pw),nI ((a-4096).tmod c.pw),nI 0]:=by rw[Ba,Z3,if_pos h,if_pos b,H5 oq,Z5U oq]
 rw[e];exact gF [] func96 []<|Fh 11 [.br Z]<|Fh 22 [.int (c.pw*c.pg)]<|Fh 23 [.int (c.pw*c.pg)]<|Fh 25 [.br Z]<|Fh 28 [.int (a-4096)]<|Fh 32 [.int ((a-4096).tdiv c.pw)]<|Fc 10 (@Hy c)<|Fa (by simp[h]:(!Zs c)=Z)<|Fa ((λ_=>Ma oq oq):(!decide (a<4096))=X->Lb.wrap (a-4096)=a-4096)<|Fa ((λ_=>C3 oq oq):(!decide (a<4096))=X->M.wrap (c.pw*c.pg)=c.pw*c.pg)<|Fa ((λ_=>Ma oq oq):(!decide (a<4096))=X->Lb.wrap (c.pw*c.pg)=c.pw*c.pg)<|Fb ((Y (a<4096)||Y (c.pw*c.pg<=a-4096))=Z)<|Fv 17 (a-4096)<|Fi 27 (a-4096)<|Fa ((C3 (by rw[H5 oq];omega) (by rw[H5 oq];omega)):M.wrap ((a-4096).tdiv c.pw)=(a-4096).tdiv c.pw)<|Fo (c.pw=0->False)<|Fo (c.pw=0->False) Fz;have e:Ba c a=.tu [nI 0,nI 0,nI 2]:=by rw[Ba,Z3,if_pos h,if_neg b]
 rw[e];exact gF [] func96 []<|Fh 11 [.br Z]<|Fh 17 [.int (a-4096)]<|Fh 22 [.int (c.pw*c.pg)]<|Fh 23 [.int (c.pw*c.pg)]<|Fh 25 [.br X]<|Fc 10 (@Hy c)<|Fa (by simp[h]:(!Zs c)=Z)<|Fa ((λd=>Ma (by simp at d;omega) oq):(!decide (a<4096))=X->Lb.wrap (a-4096)=a-4096)<|Fa ((λ_=>C3 oq oq):(!decide (a<4096))=X->M.wrap (c.pw*c.pg)=c.pw*c.pg)<|Fa ((λ_=>Ma oq oq):(!decide (a<4096))=X->Lb.wrap (c.pw*c.pg)=c.pw*c.pg)<|Fb ((Y (a<4096)||Y (c.pw*c.pg<=a-4096))=X) Fz;have e:Ba c a=.tu [nI 0,nI 0,nI 1]:=by rw[Ba,Z3,if_neg h]
 rw[e];exact gF [] func96 []<|Fh 11 [.br X]<|Fc 10 (@Hy c)<|Fa (by simp[h]:(!Zs c)=X) Fz
def He(c:B3)(a:Int)(a0:0<=a)(a1:a<=18446744073709551615):GP 44 [c.av,uU a] X (Ba c a) []:=by
 by_cases h:Zs c=X;have g:=HE h;rw[Lc]at g;have hv:=BG.1 h;by_cases f:4096<=a/\a<4096+c.pg*c.pw;have d1:0<=(a-4096)/c.pw:=Le oq oq;have d2:(a-4096)/c.pw<=a-4096:=Ld _ oq;have e:Ba c a=.tu [nI ((a-4096).tdiv c.pw),nI ((a-4096).tmod c.pw),nI 0]:=by rw[Ba,Z3,if_pos h,if_pos (by rw[Lc c.pw];exact f),H5 oq,Z5U oq]
 rw[e];let b:=4096+c.pg*c.pw;exact gF [] func44 []<|Fh 19 [.int (c.pg*c.pw)]<|Fh 20 [.int b]<|Fh 21 [.int b]<|Fh 30 [.int ((a-4096).tdiv c.pw)]<|Fc 9 (@GC c)<|Ff 10 (by simp[h]:(!Zs c)=Z)<|Fa ((λ_=>C3 oq oq):(!decide (a<4096))=X->M.wrap (c.pg*c.pw)=c.pg*c.pw)<|Fa ((λ_=>C3 oq oq):(!decide (a<4096))=X->M.wrap b=4096+c.pg*c.pw)<|Fa ((λ_=>Ma oq oq):(!decide (a<4096))=X->Lb.wrap b=4096+c.pg*c.pw)<|Ffb 23 (Y (a<4096)||Y (4096+c.pg*c.pw<=a))<|Fv 25 (a-4096)<|Fi 26 (a-4096)<|Fa ((C3 (by rw[H5 oq];omega) (by rw[H5 oq];omega)):M.wrap ((a-4096).tdiv c.pw)=(a-4096).tdiv c.pw)<|Fo (c.pw=0->False)<|Fo (c.pw=0->False) Fz;have e:Ba c a=.tu [nI 0,nI 0,nI 2]:=by rw[Ba,Z3,if_pos h,if_neg (by rw[Lc c.pw];exact f)]
 rw[e];let d:=4096+c.pg*c.pw;exact gF [] func44 []<|Fh 19 [.int (c.pg*c.pw)]<|Fh 20 [.int d]<|Fh 21 [.int d]<|Fc 9 (@GC c)<|Ff 10 (by simp[h]:(!Zs c)=Z)<|Fa ((λ_=>C3 oq oq):(!decide (a<4096))=X->M.wrap (c.pg*c.pw)=c.pg*c.pw)<|Fa ((λ_=>C3 oq oq):(!decide (a<4096))=X->M.wrap d=4096+c.pg*c.pw)<|Fa ((λ_=>Ma oq oq):(!decide (a<4096))=X->Lb.wrap d=4096+c.pg*c.pw)<|Ftb 23 (Y (a<4096)||Y (4096+c.pg*c.pw<=a)) Fz;have e:Ba c a=.tu [nI 0,nI 0,nI 1]:=by rw[Ba,Z3,if_neg h]
 rw[e];exact gF [] func44 []<|Fc 9 (@GC c)<|Ft 10 (by simp[h]:(!Zs c)=X) Fz
structure Z0 where
 K:Int
 S:Int
 U:Int
 N:Int
 deriving DecidableEq,Inhabited
def Z0.dv(p:Z0):List DV:=[Zq p.K,Zq p.S,Zq p.U,Zq p.N]
def Z0.av(p:Z0):AV:=.ag [nI p.K,nI p.S,nI p.U,nI p.N]
def ZZ(l:List Z0):AV:=.d (.sl 4 (l.map Z0.dv))
def HA(p:Z0):Bool:=Y (p=⟨0,0,0,0⟩)
def Hg(p:Z0):Bool:=(p.S==0)||(p.S==1)
def N9(p:Z0):Bool:=Y (0<=p.N)&&Y (p.N<=2147483647)
def Nj(p:Z0)(c:B3):Bool:=Hg p&&N9 p&&Y (0<=p.U)&&Y (p.U<=c.pw)
def GQ(p:Z0)(c:B3):Bool:=Hg p&&N9 p&&Y (1<=need c p.U)
def HG(p q:Z0):Bool:=Y (p=⟨3,q.S,0,0⟩)
def Z1r(p:Z0):GP 222 [p.av] X (bL (Hg p)) []:=by refine Zb [] [] [] dd func222 [] (φ:=True) ?_ kr kr;trivial
def Z8J(p:Z0):GP 223 [p.av] X (bL (N9 p)) []:=by refine Zb [] [] [] dd func223 [] (φ:=True) ?_ kr kr;trivial
def entryFree(p:Z0)(c:B3):GP 195 [p.av,c.av] X (bL (HA p)) []:=by refine Zb [((7:Nat),[Hint.br (HA p)])] [] [] dd func195 [] (φ:=(p.K==(0:Int)&&(p.S==(0:Int)&&(p.U==(0:Int)&&p.N==(0:Int))))=HA p) ?_ kr kr;rw[Lg];cases p;simp[HA]
def Z9f(p:Z0)(c:B3):GP 196 [p.av,c.av] X (bL (Nj p c)) []:=by exact gF [] func196 []<|Fc 6 (@Z1r p)<|FcG 9 (Hg p) (λhg=>@Z8J p) Fz
def PY(p:Z0)(c:B3):GP 197 [p.av,c.av] X (bL (GQ p c)) []:=by exact gF [] func197 []<|Fc 6 (@Z1r p)<|FcG 9 (Hg p) (λa=>@Z8J p)<|FcG 15 (Hg p&&N9 p) (λa=>@Py c p.U) Fz
def Z6d(p q:Z0):GP 198 [p.av,q.av] X (bL (HG p q)) []:=by refine Zb [((9:Nat),[Hint.br (HG p q)])] [] [] dd func198 [] (φ:=(p.K==(3:Int)&&(p.S==q.S&&(p.U==(0:Int)&&p.N==(0:Int))))=HG p q) ?_ kr kr;rw[Lg];cases p;simp[HG]
def NE(p:Z0)(l:List Z0):Bool:=l.all λq=>HG q p
def Ce(c:B3)(l:List Z0)(i:Nat):Nat:=match l[i]? with
 |none=>0
 |some p =>
  if p.K=0 then(if HA p=X then 1 else 0)
  else if p.K=1 then(if Nj p c=X then 1 else 0)
  else if p.K=2 then(if GQ p c=X then(if(need c p.U).toNat<=l.length-i/\NE p ((l.drop (i+1)).take ((need c p.U).toNat-1))=X then(need c p.U).toNat else 0)else 0)
  else 0
def HC{l:List Z0}{i:Nat}{p:Z0}(h:l[i]?=some p):(l.map Z0.dv)[((i:Nat):Int).toNat]?=some p.dv:=by simp[h]
def Zk1(c:B3)(l:List Z0)(i:Nat)(p:Z0)(hp:l[i]?=some p)(hk:p.K<0\/3<=p.K):GP 150 [c.av,ZZ l,nI i] X (nI (Ce c l i)) []:=by
 have e:Ce c l i=0:=by grind[Ce]
 rw[e];exact gF [] func150 []<|Fh 15 [.el p.dv]<|Fh 28 [.int 0]<|Fh 32 [.call X (bL (HA p)) []]<|Fa (by grind:0<=(i:Int)/\(L Z0.dv l)[(i:Int).toNat]?=some p.dv)<|Fa (by grind:(!(Y (p.K<0)||Y (3<=p.K)))=X->p.K=0)<|Fa (by grind:(!(Y (p.K<0)||Y (3<=p.K)))=X->GP 195 [AV.ag [nI p.K,nI p.S,nI p.U,nI p.N],AV.ag [nI c.pw,nI c.pg]] X (bL (HA p)) [])<|Ftb 34 (Y (p.K<0)||Y (3<=p.K)||!HA p) Fz
theorem ZhA(c:B3)(l:List Z0)(i:Nat)(sp us pi:Int)(hp:l[i]?=some ⟨0,sp,us,pi⟩):GSpec Tryz.prog 150 [c.av,ZZ l,nI i] true (nI (Ce c l i)) []:=by
 cases hf:HA ⟨0,sp,us,pi⟩with
 |true =>
  have e:Ce c l i=1:=by grind[Ce]
  rw[e]
  exact gE [(15,[Hint.el (Z0.mk 0 sp us pi).dv]),(32,[Hint.call true (bL (HA (Z0.mk 0 sp us pi))) []]),bF 34] [] [] Tryz.func150 [] (an ((⟨by omega,HC hp⟩):0≤(↑i:Int)∧(List.map Z0.dv l)[(↑i:Int).toNat]?=some (Z0.mk 0 sp us pi).dv) (an ((fun hg=>@entryFree _ c):(!(decide ((Z0.mk 0 sp us pi).K<0)||decide (3≤(Z0.mk 0 sp us pi).K)))=true→GSpec Tryz.prog 195 [AV.ag [nI (Z0.mk 0 sp us pi).K,nI (Z0.mk 0 sp us pi).S,nI (Z0.mk 0 sp us pi).U,nI (Z0.mk 0 sp us pi).N],AV.ag [nI c.pw,nI c.pg]] true (bL (HA (Z0.mk 0 sp us pi))) []) (an (by simp[hf]:(decide ((Z0.mk 0 sp us pi).K<0)||decide (3≤(Z0.mk 0 sp us pi).K)||!HA (Z0.mk 0 sp us pi))=false) (rf false))))
 |false =>
  have e:Ce c l i=0:=by grind[Ce]
  rw[e]
  exact gE [(15,[Hint.el (Z0.mk 0 sp us pi).dv]),(32,[Hint.call true (bL (HA (Z0.mk 0 sp us pi))) []]),bT 34] [] [] Tryz.func150 [] (an ((⟨by omega,HC hp⟩):0≤(↑i:Int)∧(List.map Z0.dv l)[(↑i:Int).toNat]?=some (Z0.mk 0 sp us pi).dv) (an ((fun hg=>@entryFree _ c):(!(decide ((Z0.mk 0 sp us pi).K<0)||decide (3≤(Z0.mk 0 sp us pi).K)))=true→GSpec Tryz.prog 195 [AV.ag [nI (Z0.mk 0 sp us pi).K,nI (Z0.mk 0 sp us pi).S,nI (Z0.mk 0 sp us pi).U,nI (Z0.mk 0 sp us pi).N],AV.ag [nI c.pw,nI c.pg]] true (bL (HA (Z0.mk 0 sp us pi))) []) (an (by simp[hf]:(decide ((Z0.mk 0 sp us pi).K<0)||decide (3≤(Z0.mk 0 sp us pi).K)||!HA (Z0.mk 0 sp us pi))=true) tt)))
theorem ZeT(c:B3)(l:List Z0)(i:Nat)(sp us pi:Int)(hp:l[i]?=some ⟨1,sp,us,pi⟩):GSpec Tryz.prog 150 [c.av,ZZ l,nI i] true (nI (Ce c l i)) []:=by
 cases hf:Nj ⟨1,sp,us,pi⟩ c with
 |true =>
  have e:Ce c l i=1:=by grind[Ce]
  rw[e]
  exact gE [(15,[Hint.el (Z0.mk 1 sp us pi).dv]),(32,[Hint.call true (bL (Nj (Z0.mk 1 sp us pi) c)) []]),bF 34] [] [] Tryz.func150 [] (an ((⟨by omega,HC hp⟩):0≤(↑i:Int)∧(List.map Z0.dv l)[(↑i:Int).toNat]?=some (Z0.mk 1 sp us pi).dv) (an ((fun hg=>@Z9f _ c):(!(decide ((Z0.mk 1 sp us pi).K<0)||decide (3≤(Z0.mk 1 sp us pi).K)))=true→GSpec Tryz.prog 196 [AV.ag [nI (Z0.mk 1 sp us pi).K,nI (Z0.mk 1 sp us pi).S,nI (Z0.mk 1 sp us pi).U,nI (Z0.mk 1 sp us pi).N],AV.ag [nI c.pw,nI c.pg]] true (bL (Nj (Z0.mk 1 sp us pi) c)) []) (an (by simp[hf]:(decide ((Z0.mk 1 sp us pi).K<0)||decide (3≤(Z0.mk 1 sp us pi).K)||!Nj (Z0.mk 1 sp us pi) c)=false) (rf false))))
 |false =>
  have e:Ce c l i=0:=by grind[Ce]
  rw[e]
  exact gE [(15,[Hint.el (Z0.mk 1 sp us pi).dv]),(32,[Hint.call true (bL (Nj (Z0.mk 1 sp us pi) c)) []]),bT 34] [] [] Tryz.func150 [] (an ((⟨by omega,HC hp⟩):0≤(↑i:Int)∧(List.map Z0.dv l)[(↑i:Int).toNat]?=some (Z0.mk 1 sp us pi).dv) (an ((fun hg=>@Z9f _ c):(!(decide ((Z0.mk 1 sp us pi).K<0)||decide (3≤(Z0.mk 1 sp us pi).K)))=true→GSpec Tryz.prog 196 [AV.ag [nI (Z0.mk 1 sp us pi).K,nI (Z0.mk 1 sp us pi).S,nI (Z0.mk 1 sp us pi).U,nI (Z0.mk 1 sp us pi).N],AV.ag [nI c.pw,nI c.pg]] true (bL (Nj (Z0.mk 1 sp us pi) c)) []) (an (by simp[hf]:(decide ((Z0.mk 1 sp us pi).K<0)||decide (3≤(Z0.mk 1 sp us pi).K)||!Nj (Z0.mk 1 sp us pi) c)=true) tt)))
def IP(p:Z0)(s:List Z0)(k:Nat)(j:Nat):Tg:=⟨tm 66 [(6,nI 0),(8,.pt 24008 0 0),(9,nI k),(54,ZZ s),(55,nI s.length),(56,nI j)],[(24008,.box 243 [nI p.K,nI p.S,nI p.U,nI p.N])],40⟩
def ME{α:Type}{f:α->Bool}:∀{l:List α},l.all f=Z->∃(j:Nat) (x:α),l[j]?=some x/\f x=Z/\∀i:Nat,i<j->∃y:α,l[i]?=some y/\f y=X
 |[],h=>by simp at h
 |a::l,h=>by
  cases ha:f a with
  |false=>exact⟨0,a,rfl,ha,λi d=>by omega⟩
  |true =>
   have:l.all f=Z:=by grind
   obtain⟨j,x,b,c,h3⟩:=ME this;refine⟨j+1,x,by simpa using b,c,λi d=>?_⟩;cases i<;>grind
def Z8G(p:Z0)(s:List Z0)(k j:Nat)(q:Z0)(hs:s.length<=281474976710656)(hq:s[j]?=some q)(ht:HG q p=X):CP (Zn f150 0) (IP p s k j).st .nrm (IP p s k (j+1)).st:=by have hj:j<s.length:=(Li.1 hq).1;exact sF [] []<|Fh 58 [.el q.dv]<|Ftb 57 (Y ((j:Int)<(s.length:Int)))<|Fa ((⟨by omega,HC hq⟩):0<=(j:Int)/\(L Z0.dv s)[(j:Int).toNat]?=some q.dv)<|Fc 62 (@Z6d q p)<|Ff 63 (by simp[ht]:(!HG q p)=Z)<|Fx 64 j Fz
def ZkI(p:Z0)(s:List Z0)(k j:Nat)(q:Z0)(hq:s[j]?=some q)(ht:HG q p=Z):CP (Zn f150 0) (IP p s k j).st .ret (Tg.st ⟨tm 66 [(6,nI 0)],[],60⟩):=by have hj:j<s.length:=(Li.1 hq).1;exact sF [] []<|Fh 58 [.el q.dv]<|Ftb 57 (Y ((j:Int)<(s.length:Int)))<|Fa ((⟨by omega,HC hq⟩):0<=(j:Int)/\(L Z0.dv s)[(j:Int).toNat]?=some q.dv)<|Fc 62 (@Z6d q p)<|Ft 63 (by simp[ht]:(!HG q p)=X) Fz
def ZhG p s k:CP (Zn f150 0) (IP p s k s.length).st (.ext 0) (Tg.st ⟨tm 66 [(9,nI k)],[],60⟩):=by exact sF [] []<|Ffb 57 (Y ((s.length:Int)<(s.length:Int))) Fz
theorem Zj8(c:B3)(l:List Z0)(hl:l.length≤281474976710656)(i:Nat)(sp us pi:Int)(hp:l[i]?=some ⟨2,sp,us,pi⟩):GSpec Tryz.prog 150 [c.av,ZZ l,nI i] true (nI (Ce c l i)) []:=by
 have hi:i<l.length:=(List.getElem?_eq_some_iff.1 hp).1
 cases hf:GQ ⟨2,sp,us,pi⟩ c with
 |false =>
  have e:Ce c l i=0:=by grind[Ce]
  rw[e]
  exact gE [(15,[Hint.el (Z0.mk 2 sp us pi).dv]),(32,[Hint.call true (bL (GQ (Z0.mk 2 sp us pi) c)) []]),bT 34] [] [] Tryz.func150 [] (an ((⟨by omega,HC hp⟩):0≤(↑i:Int)∧(List.map Z0.dv l)[(↑i:Int).toNat]?=some (Z0.mk 2 sp us pi).dv) (an ((fun hg=>@PY _ c):(!(decide ((Z0.mk 2 sp us pi).K<0)||decide (3≤(Z0.mk 2 sp us pi).K)))=true→GSpec Tryz.prog 197 [AV.ag [nI (Z0.mk 2 sp us pi).K,nI (Z0.mk 2 sp us pi).S,nI (Z0.mk 2 sp us pi).U,nI (Z0.mk 2 sp us pi).N],AV.ag [nI c.pw,nI c.pg]] true (bL (GQ (Z0.mk 2 sp us pi) c)) []) (an (by simp[hf]:(decide ((Z0.mk 2 sp us pi).K<0)||decide (3≤(Z0.mk 2 sp us pi).K)||!GQ (Z0.mk 2 sp us pi) c)=true) tt)))
 |true =>
  have hn:1≤need c us:=by grind[GQ]
  obtain⟨k,hk⟩:∃k:Nat,need c us=k:=⟨(need c us).toNat,by omega⟩
  have hk1:1≤k:=by omega
  by_cases hfit:k≤l.length-i
  ·have hsl:((l.drop (i+1)).take (k-1)).length≤281474976710656:=by grind
   have hsub:List.take (((i+k:Nat):Int).toNat-((i+1:Nat):Int).toNat) (List.drop ((i+1:Nat):Int).toNat (List.map Z0.dv l))=List.map Z0.dv (List.take (k-1) (List.drop (i+1) l)):=by grind[List.map_take,List.map_drop]
   cases ht:NE ⟨2,sp,us,pi⟩ ((l.drop (i+1)).take (k-1))with
   |true =>
    have e:Ce c l i=k:=by grind[Ce]
    rw[e]
    have qz0:CSpec Tryz.prog (Zj Tryz.f150 (0:Nat)) (IP (Z0.mk (2:Int) sp us pi) (List.take (k-(1:Nat)) (List.drop (i+(1:Nat)) l)) k (0:Nat)).st Ex.nrm (Tg.mk (tm (66:Nat) [((9:Nat),nI (↑k:Int))]) [] (60:Nat)).st:=by
     have hall:=List.all_eq_true.1 ht
     refine Bt (S:=fun j=>(IP ⟨2,sp,us,pi⟩ ((l.drop (i+1)).take (k-1)) k j).st) ((l.drop (i+1)).take (k-1)).length (by kernel_rfl) (fun j hj=>?_) (ZhG _ _ _)
     exact Z8G _ _ _ j _ hsl (List.getElem?_eq_getElem hj) (hall _ (List.getElem_mem hj))
    exact gE [(15,[Hint.el (Z0.mk 2 sp us pi).dv]),(32,[Hint.call true (bL (GQ (Z0.mk 2 sp us pi) c)) []]),bF 34,(41,[Hint.call true (nI ↑k) []]),(46,[Hint.int ((↑l.length:Int)-(↑i:Int))]),bF 47,(50,[Hint.int (↑(i+1):Int)]),(53,[Hint.int (↑(i+k):Int)]),(54,[Hint.els (((l.drop (i+1)).take (k-1)).map Z0.dv)]),(55,[Hint.int (↑(List.take (k-1) (List.drop (i+1) l)).length:Int)])] [Zm3 (@qz0)] [] Tryz.func150 [] (an ((⟨by omega,HC hp⟩):0≤(↑i:Int)∧(List.map Z0.dv l)[(↑i:Int).toNat]?=some (Z0.mk 2 sp us pi).dv) (an ((fun hg=>@PY _ c):(!(decide ((Z0.mk 2 sp us pi).K<0)||decide (3≤(Z0.mk 2 sp us pi).K)))=true→GSpec Tryz.prog 197 [AV.ag [nI (Z0.mk 2 sp us pi).K,nI (Z0.mk 2 sp us pi).S,nI (Z0.mk 2 sp us pi).U,nI (Z0.mk 2 sp us pi).N],AV.ag [nI c.pw,nI c.pg]] true (bL (GQ (Z0.mk 2 sp us pi) c)) []) (an (by simp[hf]:(decide ((Z0.mk 2 sp us pi).K<0)||decide (3≤(Z0.mk 2 sp us pi).K)||!GQ (Z0.mk 2 sp us pi) c)=false) (an (rf false) (an (@hk▸Py c us) (an (by grind[C3]:IntKind.i64.wrap ((↑(List.map Z0.dv l).length:Int)-(↑i:Int))=(↑l.length:Int)-(↑i:Int)) (an (bo (decide ((↑l.length:Int)-(↑i:Int)<(↑k:Int))=false)) (an (rf false) (an (wI (IntKind.i64.wrap ((↑i:Int)+1)=(↑(i+1):Int))) (an (wI (IntKind.i64.wrap ((↑i:Int)+(↑k:Int))=(↑(i+k):Int))) (an (by grind:0≤(↑(i+1):Int)∧(↑(i+1):Int)≤(↑(i+k):Int)∧(↑(i+k):Int)≤(↑(List.map Z0.dv l).length:Int)) (an (hsub:List.take ((↑(i+k):Int).toNat-(↑(i+1):Int).toNat) (List.drop (↑(i+1):Int).toNat (List.map Z0.dv l))=List.map Z0.dv (List.take (k-1) (List.drop (i+1) l))) (an (by grind:(↑(List.map Z0.dv (List.take (k-1) (List.drop (i+1) l))).length:Int)=(↑(List.take (k-1) (List.drop (i+1) l)).length:Int)) (@qz0))))))))))))))
   |false =>
    have e:Ce c l i=0:=by grind[Ce]
    rw[e]
    have qz0:CSpec Tryz.prog (Zj Tryz.f150 (0:Nat)) (IP (Z0.mk (2:Int) sp us pi) (List.take (k-(1:Nat)) (List.drop (i+(1:Nat)) l)) k (0:Nat)).st Ex.ret (Tg.mk (tm (66:Nat) [((6:Nat),nI (0:Int))]) [] (60:Nat)).st:=by
     obtain⟨n,x,h1,h2,h3⟩:=ME ht
     refine G0 (S:=fun j=>(IP ⟨2,sp,us,pi⟩ ((l.drop (i+1)).take (k-1)) k j).st) n (by kernel_rfl) (fun j hj=>?_) (ZkI _ _ _ n x h1 h2)
     obtain⟨y,h4,h5⟩:=h3 j hj
     exact Z8G _ _ _ j y hsl h4 h5
    exact gE [(15,[Hint.el (Z0.mk 2 sp us pi).dv]),(32,[Hint.call true (bL (GQ (Z0.mk 2 sp us pi) c)) []]),bF 34,(41,[Hint.call true (nI ↑k) []]),(46,[Hint.int ((↑l.length:Int)-(↑i:Int))]),bF 47,(50,[Hint.int (↑(i+1):Int)]),(53,[Hint.int (↑(i+k):Int)]),(54,[Hint.els (((l.drop (i+1)).take (k-1)).map Z0.dv)]),(55,[Hint.int (↑(List.take (k-1) (List.drop (i+1) l)).length:Int)])] [Zm3 (@qz0)] [] Tryz.func150 [] (an ((⟨by omega,HC hp⟩):0≤(↑i:Int)∧(List.map Z0.dv l)[(↑i:Int).toNat]?=some (Z0.mk 2 sp us pi).dv) (an ((fun hg=>@PY _ c):(!(decide ((Z0.mk 2 sp us pi).K<0)||decide (3≤(Z0.mk 2 sp us pi).K)))=true→GSpec Tryz.prog 197 [AV.ag [nI (Z0.mk 2 sp us pi).K,nI (Z0.mk 2 sp us pi).S,nI (Z0.mk 2 sp us pi).U,nI (Z0.mk 2 sp us pi).N],AV.ag [nI c.pw,nI c.pg]] true (bL (GQ (Z0.mk 2 sp us pi) c)) []) (an (by simp[hf]:(decide ((Z0.mk 2 sp us pi).K<0)||decide (3≤(Z0.mk 2 sp us pi).K)||!GQ (Z0.mk 2 sp us pi) c)=false) (an (rf false) (an (@hk▸Py c us) (an (by grind[C3]:IntKind.i64.wrap ((↑(List.map Z0.dv l).length:Int)-(↑i:Int))=(↑l.length:Int)-(↑i:Int)) (an (bo (decide ((↑l.length:Int)-(↑i:Int)<(↑k:Int))=false)) (an (rf false) (an (wI (IntKind.i64.wrap ((↑i:Int)+1)=(↑(i+1):Int))) (an (wI (IntKind.i64.wrap ((↑i:Int)+(↑k:Int))=(↑(i+k):Int))) (an (by grind:0≤(↑(i+1):Int)∧(↑(i+1):Int)≤(↑(i+k):Int)∧(↑(i+k):Int)≤(↑(List.map Z0.dv l).length:Int)) (an (hsub:List.take ((↑(i+k):Int).toNat-(↑(i+1):Int).toNat) (List.drop (↑(i+1):Int).toNat (List.map Z0.dv l))=List.map Z0.dv (List.take (k-1) (List.drop (i+1) l))) (an (by grind:(↑(List.map Z0.dv (List.take (k-1) (List.drop (i+1) l))).length:Int)=(↑(List.take (k-1) (List.drop (i+1) l)).length:Int)) (@qz0))))))))))))))
  ·have e:Ce c l i=0:=by grind[Ce]
   rw[e]
   exact gE [(15,[Hint.el (Z0.mk 2 sp us pi).dv]),(32,[Hint.call true (bL (GQ (Z0.mk 2 sp us pi) c)) []]),bF 34,(41,[Hint.call true (nI ↑k) []]),(46,[Hint.int ((↑l.length:Int)-(↑i:Int))]),bT 47] [] [] Tryz.func150 [] (an ((⟨by omega,HC hp⟩):0≤(↑i:Int)∧(List.map Z0.dv l)[(↑i:Int).toNat]?=some (Z0.mk 2 sp us pi).dv) (an ((fun hg=>@PY _ c):(!(decide ((Z0.mk 2 sp us pi).K<0)||decide (3≤(Z0.mk 2 sp us pi).K)))=true→GSpec Tryz.prog 197 [AV.ag [nI (Z0.mk 2 sp us pi).K,nI (Z0.mk 2 sp us pi).S,nI (Z0.mk 2 sp us pi).U,nI (Z0.mk 2 sp us pi).N],AV.ag [nI c.pw,nI c.pg]] true (bL (GQ (Z0.mk 2 sp us pi) c)) []) (an (by simp[hf]:(decide ((Z0.mk 2 sp us pi).K<0)||decide (3≤(Z0.mk 2 sp us pi).K)||!GQ (Z0.mk 2 sp us pi) c)=false) (an (rf false) (an (@hk▸Py c us) (an (by grind[C3]:IntKind.i64.wrap ((↑(List.map Z0.dv l).length:Int)-(↑i:Int))=(↑l.length:Int)-(↑i:Int)) (an (bo (decide ((↑l.length:Int)-(↑i:Int)<(↑k:Int))=true)) tt)))))))
def Z7R(c:B3)(l:List Z0)(hl:l.length<=281474976710656)(i:Nat)(hi:i<l.length):GP 150 [c.av,ZZ l,nI i] X (nI (Ce c l i)) []:=by obtain⟨p,a⟩:∃p,l[i]?=some p:=⟨l[i],List.getElem?_eq_getElem hi⟩;obtain⟨kd,sp,us,b⟩:=p;by_cases d:kd=0;subst d;exact ZhA c l i sp us b a;by_cases e:kd=1;subst e;exact ZeT c l i sp us b a;by_cases f:kd=2;subst f;exact Zj8 c l hl i sp us b a;exact Zk1 c l i _ a (by grind)
def Z2(l:List Int):AV:=.d (.sl 1 (l.map wD))
structure Heap where
 C:B3
 W:List Int
 P:List Z0
 S:Int
 B:Int
 deriving DecidableEq,Inhabited
def Heap.cells(h:Heap):List AV:=[nI h.C.pw,nI h.C.pg,Z2 h.W,ZZ h.P,nI h.S,nI h.B]
def Heap.av(h:Heap):AV:=.ag h.cells
def B8:Heap:=⟨⟨0,0⟩,[],[],0,0⟩
def Ii(c:B3):Heap:=⟨c,La (c.pw*c.pg).toNat 0,La c.pg.toNat ⟨0,0,0,0⟩,0,-1⟩
def Zfw(c:B3)(h:Zs c=X):GP 100 [c.av] Z (.tu [(Ii c).av,nI 0]) []:=by
 have hv:=BG.1 h;have ha:=HE h;rw[Lc]at ha;have hc:=Lc c.pw c.pg;exact gF [] func100 []<|Fh 14 [.els ((La (c.pw*c.pg).toNat 0).map wD)]<|Fh 17 [.els ((La c.pg.toNat (⟨0,0,0,0⟩:Z0)).map Z0.dv)]<|Fc 5 (@GC c)<|Ff 6 (by simp[h]:(!Zs c)=Z)<|Fg 13 (by grind[C3]:M.wrap (c.pg*c.pw)=(↑(c.pw*c.pg).toNat:Int))<|Fa ((⟨by omega,by omega,by simp;omega⟩):0<=(↑(c.pw*c.pg).toNat:Int)/\(↑(c.pw*c.pg).toNat:Int)<=(↑(c.pw*c.pg).toNat:Int)/\(↑(c.pw*c.pg).toNat:Int)*((↑(nat_lit 7):Int)+1)<=2^48)<|Fa (by rw[List.map_replicate];rfl:La (↑(c.pw*c.pg).toNat:Int).toNat [B2 0]=L wD (La (c.pw*c.pg).toNat 0))<|Fa ((⟨by omega,by omega,by simp;omega⟩):0<=c.pg/\c.pg<=c.pg/\c.pg*((↑(nat_lit 31):Int)+1)<=2^48)<|Fa (by simp[Z0.dv,wD]:La c.pg.toNat [Zq 0,Zq 0,Zq 0,Zq 0]=L Z0.dv (La c.pg.toNat (Z0.mk 0 0 0 0))) Fz
def E0(l:List Z0)(i:Int):Z0:=l[i.toNat]?.getD ⟨0,0,0,0⟩
theorem ZkQ{l:List Z0}{i:Int}(h:i.toNat<l.length):l[i.toNat]?=some (E0 l i):=by grind[E0]
def MR(h:Heap):Bool:=(h.B==-1)||(Y (0<=h.B)&&Y (h.B<h.P.length)&&((E0 h.P h.B).K==1))
def PE(h:Heap):Bool:=Zs h.C&&((h.W.length:Int)==h.C.pw*h.C.pg)&&((h.P.length:Int)==h.C.pg)&&((h.S==0)||(h.S==1))
def GG(c:B3)(l:List Z0):Nat->Nat->Bool|0,i=>Y (l.length<=i)|f+1,i=>if i<l.length then(if Ce c l i=0 then Z else GG c l f (i+Ce c l i))else X
def Z8(h:Heap):Bool:=PE h&&(MR h&&GG h.C h.P h.P.length 0)
def NG(h:Heap)(i:Nat):Tg:=⟨tm 83 [(1,.pt 8001 0 0),(2,bL Z),(3,nI i)],[(8001,.box 28 h.cells)],50⟩
def ZhC{c}{l:List Z0}{i:Nat}(hi:i<l.length):i+Ce c l i<=l.length:=by grind[Ce]
def Z8n(h:Heap)(i:Nat)(hl:h.P.length<=281474976710656)(hi:i<h.P.length)(hs:Ce h.C h.P i≠0):CP (Zn f94 0) (NG h i).st .nrm (NG h (i+Ce h.C h.P i)).st:=by have hle:=ZhC (c:=h.C) hi;exact sF [] []<|Fg 70 (by grind:(↑(L Z0.dv h.P).length:Int)=(h.P.length:Int))<|Ftb 71 (Y ((i:Int)<(h.P.length:Int)))<|Fc 77 (@Z7R h.C h.P hl i hi)<|Ffb 79 ((↑(Ce h.C h.P i):Int)==0)<|Fw 82 ((i:Int)+(↑(Ce h.C h.P i):Int)) (↑(i+Ce h.C h.P i):Int) Fz
def ZkH(h:Heap)(i:Nat)(hl:h.P.length<=281474976710656)(hi:i<h.P.length)(hs:Ce h.C h.P i=0):CP (Zn f94 0) (NG h i).st .ret (Tg.st ⟨tm 83 [(2,bL Z)],[],60⟩):=by exact sF [] []<|Fg 70 (by grind:(↑(L Z0.dv h.P).length:Int)=(h.P.length:Int))<|Ftb 71 (Y ((i:Int)<(h.P.length:Int)))<|Fc 77 (@Z7R h.C h.P hl i hi)<|Ft 79 (by simp[hs]:((↑(Ce h.C h.P i):Int)==0)=X) Fz
def Z8o(h:Heap)(i:Nat)(hi:h.P.length<=i):CP (Zn f94 0) (NG h i).st (.ext 0) (Tg.st ⟨tm 83 [],[],60⟩):=by exact sF [] []<|Fl 70 Z0.dv h.P<|Ffb 71 (Y ((i:Int)<(h.P.length:Int))) Fz
def Z4L(h:Heap)(hl:h.P.length<=281474976710656):∀(f i:Nat),h.P.length<=i+f->GG h.C h.P f i=X->∃n,N4 prog (Zn f94 0) n (NG h i).st (.ext 0) (Tg.st ⟨tm 83 [],[],60⟩)
 |0,i,hf,_=>⟨0,(λh=>nomatch h),Z8o h i oq⟩
 |f+1,i,hf,hb=>by
  by_cases a:i<h.P.length
  .simp only[GG,if_pos a]at hb;split at hb
   .cases hb
   .rename_i c;obtain⟨n,b⟩:=Z4L h hl f (i+Ce h.C h.P i) oq hb;exact⟨n+1,_,Z8n h i hl a c,b⟩
  .exact⟨0,(λh=>nomatch h),Z8o h i oq⟩
def Z9x(h:Heap)(hl:h.P.length<=281474976710656):∀(f i:Nat),h.P.length<=i+f->GG h.C h.P f i=Z->∃n,N4 prog (Zn f94 0) n (NG h i).st .ret (Tg.st ⟨tm 83 [(2,bL Z)],[],60⟩)
 |0,i,hf,hb=>by grind[GG]
 |f+1,i,hf,hb=>by
  by_cases a:i<h.P.length
  .simp only[GG,if_pos a]at hb;split at hb
   .rename_i b;exact⟨0,(λh=>nomatch h),ZkH h i hl a b⟩
   .rename_i b;obtain⟨n,c⟩:=Z9x h hl f (i+Ce h.C h.P i) oq hb;exact⟨n+1,_,Z8n h i hl a b,c⟩
  grind[GG]
theorem Z0x{h:Heap}:PE h=X↔Zs h.C=X/\(h.W.length:Int)=h.C.pw*h.C.pg/\(h.P.length:Int)=h.C.pg/\(h.S=0\/h.S=1):=by grind[PE]
def EF(h:Heap):GP 94 [h.av] X (bL (Z8 h)) []:=by
 have a:(!!Zs h.C)=X->M.wrap (h.C.pw*h.C.pg)=h.C.pw*h.C.pg:=by(intro i;have ha:=HE (c:=h.C) (by simpa using i);exact C3 oq oq)
 by_cases j:PE h=X;obtain⟨s1,s2,s3,s4⟩:=Z0x.1 j;have i:=BG.1 s1;have b:(!Zs h.C||(h.W.length:Int) != h.C.pw*h.C.pg||(h.P.length:Int) != h.C.pg||h.S != 0&&h.S != 1)=Z:=by grind
 have f:(h.B != -1&&!(Y (h.B<0)||Y ((h.P.length:Int)<=h.B)))=X->0<=h.B/\(L Z0.dv h.P)[h.B.toNat]?=some (E0 h.P h.B).dv:=by grind[ZkQ]
 by_cases h2:MR h=X;have d:(h.B != -1&&(Y (h.B<0)||Y ((h.P.length:Int)<=h.B)||(E0 h.P h.B).K != 1))=Z:=by grind[MR]
 cases h3:GG h.C h.P h.P.length 0 with
 |true =>
  have e:Z8 h=X:=by grind[Z8]
  rw[e];obtain⟨n,g⟩:=Z4L h oq h.P.length 0 oq h3;exact gF [] func94 []<|Fh 7 [.call X (bL (Zs h.C)) []]<|Fh 12 [.int ↑h.W.length]<|Fh 19 [.int (h.C.pw*h.C.pg)]<|Fh 25 [.int ↑h.P.length]<|Fh 53 [.int ↑h.P.length]<|Fh 61 [.el (E0 h.P h.B).dv]<|Fk (0,NG h 0,.nrm,⟨tm 83 [],[],60⟩)<|Fa ((Hy h.C):GP 149 [AV.ag [nI h.C.pw,nI h.C.pg]] X (bL (Zs h.C)) [])<|Fa ((λ_=>by grind):(!!Zs h.C)=X->(↑(L wD h.W).length:Int)=(h.W.length:Int))<|Fa (a:(!!Zs h.C)=X->M.wrap (h.C.pw*h.C.pg)=h.C.pw*h.C.pg)<|Fa ((λ_=>by grind):(!(!Zs h.C||(h.W.length:Int) != h.C.pw*h.C.pg))=X->(↑(L Z0.dv h.P).length:Int)=(h.P.length:Int))<|Ff 40 (b:(!Zs h.C||(h.W.length:Int) != h.C.pw*h.C.pg||(h.P.length:Int) != h.C.pg||h.S != 0&&h.S != 1)=Z)<|Fa ((λ_=>by grind):(h.B != (-1:Int)&&!decide (h.B<0))=X->(↑(L Z0.dv h.P).length:Int)=(h.P.length:Int))<|Fa (f:(h.B != (-1:Int)&&!(Y (h.B<0)||Y ((h.P.length:Int)<=h.B)))=X->0<=h.B/\(L Z0.dv h.P)[h.B.toNat]?=some (E0 h.P h.B).dv)<|Ff 66 (d:(h.B != (-1:Int)&&(Y (h.B<0)||Y ((h.P.length:Int)<=h.B)||(E0 h.P h.B).K != 1))=Z)<|Fa ((Z3N kr g):CP (Zj f94 0) (NG h 0).st Ex.nrm (Tg.mk (tm 83 []) [] 60).st) Fz
 |false =>
  have e:Z8 h=Z:=by grind[Z8]
  rw[e];obtain⟨n,g⟩:=Z9x h oq h.P.length 0 oq h3;exact gF [] func94 []<|Fh 7 [.call X (bL (Zs h.C)) []]<|Fh 12 [.int ↑h.W.length]<|Fh 19 [.int (h.C.pw*h.C.pg)]<|Fh 25 [.int ↑h.P.length]<|Fh 53 [.int ↑h.P.length]<|Fh 61 [.el (E0 h.P h.B).dv]<|Fk (0,NG h 0,.ret,⟨tm 83 [(2,bL Z)],[],60⟩)<|Fa ((Hy h.C):GP 149 [AV.ag [nI h.C.pw,nI h.C.pg]] X (bL (Zs h.C)) [])<|Fa ((λ_=>by grind):(!!Zs h.C)=X->(↑(L wD h.W).length:Int)=(h.W.length:Int))<|Fa (a:(!!Zs h.C)=X->M.wrap (h.C.pw*h.C.pg)=h.C.pw*h.C.pg)<|Fa ((λ_=>by grind):(!(!Zs h.C||(h.W.length:Int) != h.C.pw*h.C.pg))=X->(↑(L Z0.dv h.P).length:Int)=(h.P.length:Int))<|Ff 40 (b:(!Zs h.C||(h.W.length:Int) != h.C.pw*h.C.pg||(h.P.length:Int) != h.C.pg||h.S != 0&&h.S != 1)=Z)<|Fa ((λ_=>by grind):(h.B != (-1:Int)&&!decide (h.B<0))=X->(↑(L Z0.dv h.P).length:Int)=(h.P.length:Int))<|Fa (f:(h.B != (-1:Int)&&!(Y (h.B<0)||Y ((h.P.length:Int)<=h.B)))=X->0<=h.B/\(L Z0.dv h.P)[h.B.toNat]?=some (E0 h.P h.B).dv)<|Ff 66 (d:(h.B != (-1:Int)&&(Y (h.B<0)||Y ((h.P.length:Int)<=h.B)||(E0 h.P h.B).K != 1))=Z)<|Fa ((Z39 kr g):CP (Zj f94 0) (NG h 0).st Ex.ret (Tg.mk (tm 83 [(2,bL Z)]) [] 60).st) Fz
 have d:(h.B != -1&&(Y (h.B<0)||Y ((h.P.length:Int)<=h.B)||(E0 h.P h.B).K != 1))=X:=by grind[MR]
 have e:Z8 h=Z:=by grind[Z8]
 rw[e];exact gF [] func94 []<|Fh 7 [.call X (bL (Zs h.C)) []]<|Fh 12 [.int ↑h.W.length]<|Fh 19 [.int (h.C.pw*h.C.pg)]<|Fh 25 [.int ↑h.P.length]<|Fh 53 [.int ↑h.P.length]<|Fh 61 [.el (E0 h.P h.B).dv]<|Fa ((Hy h.C):GP 149 [AV.ag [nI h.C.pw,nI h.C.pg]] X (bL (Zs h.C)) [])<|Fa ((λ_=>by grind):(!!Zs h.C)=X->(↑(L wD h.W).length:Int)=(h.W.length:Int))<|Fa (a:(!!Zs h.C)=X->M.wrap (h.C.pw*h.C.pg)=h.C.pw*h.C.pg)<|Fa ((λ_=>by grind):(!(!Zs h.C||(h.W.length:Int) != h.C.pw*h.C.pg))=X->(↑(L Z0.dv h.P).length:Int)=(h.P.length:Int))<|Ff 40 (b:(!Zs h.C||(h.W.length:Int) != h.C.pw*h.C.pg||(h.P.length:Int) != h.C.pg||h.S != 0&&h.S != 1)=Z)<|Fa ((λ_=>by grind):(h.B != (-1:Int)&&!decide (h.B<0))=X->(↑(L Z0.dv h.P).length:Int)=(h.P.length:Int))<|Fa (f:(h.B != (-1:Int)&&!(Y (h.B<0)||Y ((h.P.length:Int)<=h.B)))=X->0<=h.B/\(L Z0.dv h.P)[h.B.toNat]?=some (E0 h.P h.B).dv)<|Ft 66 (d:(h.B != (-1:Int)&&(Y (h.B<0)||Y ((h.P.length:Int)<=h.B)||(E0 h.P h.B).K != 1))=X) Fz;have b:(!Zs h.C||(h.W.length:Int) != h.C.pw*h.C.pg||(h.P.length:Int) != h.C.pg||h.S != 0&&h.S != 1)=X:=by grind[Z0x]
 have e:Z8 h=Z:=by grind[Z8]
 rw[e];exact gF [] func94 []<|Fh 7 [.call X (bL (Zs h.C)) []]<|Fh 12 [.int ↑h.W.length]<|Fh 19 [.int (h.C.pw*h.C.pg)]<|Fh 25 [.int ↑h.P.length]<|Fa ((Hy h.C):GP 149 [AV.ag [nI h.C.pw,nI h.C.pg]] X (bL (Zs h.C)) [])<|Fa ((λ_=>by grind):(!!Zs h.C)=X->(↑(L wD h.W).length:Int)=(h.W.length:Int))<|Fa (a:(!!Zs h.C)=X->M.wrap (h.C.pw*h.C.pg)=h.C.pw*h.C.pg)<|Fa ((λ_=>by grind):(!(!Zs h.C||(h.W.length:Int) != h.C.pw*h.C.pg))=X->(↑(L Z0.dv h.P).length:Int)=(h.P.length:Int))<|Ft 40 (b:(!Zs h.C||(h.W.length:Int) != h.C.pw*h.C.pg||(h.P.length:Int) != h.C.pg||h.S != 0&&h.S != 1)=X) Fz
end Go.Proofs.YtgedmeaemofdkaaGreat
namespace Go.Proofs.YtgedmeaemofdkaaGreat
open Go.Sx Go.RowKit
def Zfe:ownKnob Tryz.prog.godebug=none:=by kernel_rfl
def ZjO:laidOutB prog=X:=by kernel_rfl
def ZaS{n:Nat}{l}(h:shp prog (n+1) 3 l):∃x:Int,l=[Zq x]/\(Lit.int .i64 x).wf=X:=by
 have e:shp prog (n+1) 3 l=(∃x:Int,l=[.sc (.int .i64 x)]/\(Lit.int .i64 x).wf=X):=by kernel_rfl
 rw[e]at h;exact h
def Z9z{α β:Type}{f:α->β}:∀{l:List β},(∀x∈l,∃a,x=f a)->∃m:List α,l=m.map f
 |[],_=>⟨[],rfl⟩
 |x::l,h=>by
  obtain⟨a,rfl⟩:=h x pq;obtain⟨m,rfl⟩:=Z9z (l:=l) λy b=>h y (by simp[b]);exact⟨a::m,rfl⟩
end Go.Proofs.YtgedmeaemofdkaaGreat
