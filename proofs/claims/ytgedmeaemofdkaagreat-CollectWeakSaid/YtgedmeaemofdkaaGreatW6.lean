/-
 The statement CollectWeak: part 6.
 Conditions: none.
-/
import Derived.IntWalk
import Derived.Test.YtgedmeaemofdkaaGreatRows
import Derived.Test.YtgedmeaemofdkaaGreatW5
set_option maxRecDepth 100000
set_option maxHeartbeats 2000000
set_option linter.all false
open Bool renaming true->X,false->Z,eq_iff_iff->Lg
open Decidable renaming decide->Y
open Go.IntKind renaming i64->M,u64->Lb
open List renaming map->L,replicate->La,getElem?_eq_some_iff->Li
open Int renaming mul_le_mul_of_nonneg_right->O,mul_comm->Lc,ediv_le_self->Ld,ediv_nonneg->Le,mul_nonneg->Lf,add_mul->Lh
open Go.Proofs.Tryz
namespace Go.Proofs.YtgedmeaemofdkaaGreat
open Go.Sx
abbrev GP:=GSpec prog
abbrev LP:=LentSpec prog
abbrev BP:=BorSpec prog
abbrev CP:=CSpec prog
structure B3 where
 pw:Int
 pg:Int
 deriving DecidableEq,Inhabited
def B3.av(c:B3):AV:=.ag [int c.pw,int c.pg]
def Zr(c:B3):Bool:=Y (16<=c.pw)&&Y (c.pw<=64)&&(c.pw.tmod 4==0)&&Y (8<=c.pg)&&Y (c.pg<=64)
def BG{c:B3}:Zr c=X↔16<=c.pw/\c.pw<=64/\c.pw.tmod 4=0/\8<=c.pg/\c.pg<=64:=by simp[Zr,and_assoc]
def CX(c:B3):Int:=if Zr c=X then c.pg.tdiv 4 else 0
def Zb(c:B3):Int:=if Zr c=X then c.pw.tdiv 4 else 0
theorem C1{n:Int}(a:-9223372036854775808<=n)(b:n<=9223372036854775807):M.wrap n=n:=IntWalk.i64_in n ⟨a,b⟩
def H7{a b:Int}(h:0<=a):a.tdiv b=a/b:=Int.tdiv_eq_ediv_of_nonneg h
def Z4Q{a b:Int}(h:0<=a):a.tmod b=a%b:=Int.tmod_eq_emod_of_nonneg h
def Hx(c:B3):GP 149 [c.av] X (bool (Zr c)) []:=by refine Zc [] [] [] dd func149 [] (φ:=(Y ((16:Int)<=c.pw)&&Y (c.pw<=(64:Int)))=X->(4:Int)=(0:Int)->False) ?_ kr kr;intro _ ;decide
def GE(c:B3):GP 92 [c.av] X (bool (Zr c)) []:=by refine Zc [] [] [] dd func92 [] (φ:=(Y ((16:Int)<=c.pw)&&Y (c.pw<=(64:Int)))=X->(4:Int)=(0:Int)->False) ?_ kr kr;intro _ ;decide
def Zle(c:B3):GP 154 [c.av] X (int (CX c)) []:=by by_cases h:Zr c=X;have hv:=BG.1 h;have e:CX c=c.pg.tdiv 4:=if_pos h;rw[e];exact gF [] func154 [] (Fh 8 [.int (c.pg.tdiv 4)] (Fc 4 (@Hx c) (Ff 5 (by simp[h]:(!Zr c)=Z) (Fa ((C1 (by rw[H7 oq];omega) (by rw[H7 oq];omega)):M.wrap (c.pg.tdiv 4)=c.pg.tdiv 4) (Fa (by decide:(4:Int)=0->False) Fz)))));have e:CX c=0:=if_neg h;rw[e];exact gF [] func154 [] (Fc 4 (@Hx c) (Ft 5 (by simp[h]:(!Zr c)=X) Fz))
def MG(c:B3):GP 202 [c.av] X (int (CX c)) []:=by by_cases h:Zr c=X;have hv:=BG.1 h;have e:CX c=c.pg.tdiv 4:=if_pos h;rw[e];exact gF [] func202 [] (Fh 8 [.int (c.pg.tdiv 4)] (Fc 4 (@GE c) (Ff 5 (by simp[h]:(!Zr c)=Z) (Fa ((C1 (by rw[H7 oq];omega) (by rw[H7 oq];omega)):M.wrap (c.pg.tdiv 4)=c.pg.tdiv 4) (Fa (by decide:(4:Int)=0->False) Fz)))));have e:CX c=0:=if_neg h;rw[e];exact gF [] func202 [] (Fc 4 (@GE c) (Ft 5 (by simp[h]:(!Zr c)=X) Fz))
def Z0s(c:B3):GP 151 [c.av] X (int (Zb c)) []:=by by_cases h:Zr c=X;have hv:=BG.1 h;have e:Zb c=c.pw.tdiv 4:=if_pos h;rw[e];exact gF [] func151 [] (Fh 8 [.int (c.pw.tdiv 4)] (Fc 4 (@Hx c) (Ff 5 (by simp[h]:(!Zr c)=Z) (Fa ((C1 (by rw[H7 oq];omega) (by rw[H7 oq];omega)):M.wrap (c.pw.tdiv 4)=c.pw.tdiv 4) (Fa (by decide:(4:Int)=0->False) Fz)))));have e:Zb c=0:=if_neg h;rw[e];exact gF [] func151 [] (Fc 4 (@Hx c) (Ft 5 (by simp[h]:(!Zr c)=X) Fz))
def Nl(c:B3):GP 93 [c.av] X (int (Zb c)) []:=by by_cases h:Zr c=X;have hv:=BG.1 h;have e:Zb c=c.pw.tdiv 4:=if_pos h;rw[e];exact gF [] func93 [] (Fh 8 [.int (c.pw.tdiv 4)] (Fc 4 (@GE c) (Ff 5 (by simp[h]:(!Zr c)=Z) (Fa ((C1 (by rw[H7 oq];omega) (by rw[H7 oq];omega)):M.wrap (c.pw.tdiv 4)=c.pw.tdiv 4) (Fa (by decide:(4:Int)=0->False) Fz)))));have e:Zb c=0:=if_neg h;rw[e];exact gF [] func93 [] (Fc 4 (@GE c) (Ft 5 (by simp[h]:(!Zr c)=X) Fz))
def need(c:B3)(n:Int):Int:=if Zr c=X/\1<=n/\n<=4*c.pw then(if n<=c.pw/4 then 0 else(n+c.pw-1)/c.pw)else -1
def RE{c:B3}(h:Zr c=X):Zb c=c.pw/4:=by have hv:=BG.1 h;rw[Zb,if_pos h,H7 oq]
def Ox(c:B3) n:GP 97 [c.av,int n] X (int (need c n)) []:=by
 by_cases h:Zr c=X/\1<=n/\n<=4*c.pw;obtain⟨h,i,j⟩:=h;have b:=BG.1 h;by_cases a:n<=c.pw/4;have e:need c n=0:=by rw[need,if_pos ⟨h,i,j⟩,if_pos a]
 rw[e];exact gF [] func97 [] (Fh 7 [.call X (Sx.bool (Zr c)) []] (Fh 17 [.int (4*c.pw)] (Fh 19 [.br Z] (Fh 23 [.call X (int (Zb c)) []] (Fh 24 [.br X] (Fa ((Hx c):GP 149 [AV.ag [int c.pw,int c.pg]] X (Sx.bool (Zr c)) []) (Fa ((λ_=>C1 oq oq):(!(!Zr c||Y (n<1)))=X->M.wrap (4*c.pw)=4*c.pw) (Fa (by simp[h];omega:(!Zr c||Y (n<1)||Y (4*c.pw<n))=Z) (Fa ((Z0s c):GP 151 [AV.ag [int c.pw,int c.pg]] X (int (Zb c)) []) (Fa (by rw[RE h];simpa using a:Y (n<=Zb c)=X) Fz))))))))));have e:need c n=(n+c.pw-1).tdiv c.pw:=by rw[need,if_pos ⟨h,i,j⟩,if_neg a,H7 oq]
 have hq:(n+c.pw-1)/c.pw<=n+c.pw-1:=Ld _ oq;have k:0<=(n+c.pw-1)/c.pw:=Le oq oq;rw[e];exact gF [] func97 [] (Fh 7 [.call X (Sx.bool (Zr c)) []] (Fh 17 [.int (4*c.pw)] (Fh 19 [.br Z] (Fh 23 [.call X (int (Zb c)) []] (Fh 24 [.br Z] (Fh 28 [.int (n+c.pw)] (Fh 29 [.int (n+c.pw-1)] (Fh 32 [.int ((n+c.pw-1).tdiv c.pw)] (Fa ((Hx c):GP 149 [AV.ag [int c.pw,int c.pg]] X (Sx.bool (Zr c)) []) (Fa ((λ_=>C1 oq oq):(!(!Zr c||Y (n<1)))=X->M.wrap (4*c.pw)=4*c.pw) (Fa (by simp[h];omega:(!Zr c||Y (n<1)||Y (4*c.pw<n))=Z) (Fa ((Z0s c):GP 151 [AV.ag [int c.pw,int c.pg]] X (int (Zb c)) []) (Fa (by rw[RE h];simpa using a:Y (n<=Zb c)=Z) (Fa ((C1 oq oq):M.wrap (n+c.pw)=n+c.pw) (Fa ((C1 oq oq):M.wrap (n+c.pw-1)=n+c.pw-1) (Fa ((C1 (by rw[H7 oq];omega) (by rw[H7 oq];omega)):M.wrap ((n+c.pw-1).tdiv c.pw)=(n+c.pw-1).tdiv c.pw) (Fo (c.pw=0->False) Fz)))))))))))))))));have e:need c n=-1:=if_neg h;rw[e];have d:((!(!Zr c||Y (n<(1:Int))))=X->M.wrap ((4:Int)*c.pw)=(4:Int)*c.pw):=by(intro g;simp at g;have b:=BG.1 g.1;exact C1 oq oq)
 have f:(!Zr c||Y (n<(1:Int))||Y ((4:Int)*c.pw<n))=X:=by
  simp;cases b:Zr c with|false=>simp|true =>simp only[b,true_and]at h;simp;omega
 exact gF [] func97 [] (Fh 7 [.call X (Sx.bool (Zr c)) []] (Fh 17 [.int (4*c.pw)] (Fh 19 [.br X] (Fa ((Hx c):GP 149 [AV.ag [int c.pw,int c.pg]] X (Sx.bool (Zr c)) []) (Fa (d:(!(!Zr c||Y (n<1)))=X->M.wrap (4*c.pw)=4*c.pw) (Fa (f:(!Zr c||Y (n<1)||Y (4*c.pw<n))=X) Fz))))))
def Zgz{c:B3}{n:Int}{k:Nat}(h:Zr c=X)(a:1<=n)(h2:c.pw/4<n)(hk:k<=4)(b:((k:Int)-1)*c.pw<n)(h4:n<=k*c.pw):need c n=k:=by have hv:=BG.1 h;have h5:(k:Int)*c.pw<=4*c.pw:=O oq oq;rw[need,if_pos ⟨h,a,by omega⟩,if_neg oq];rw[Int.sub_mul]at b;refine Int.le_antisymm (Int.le_of_lt_add_one (Int.ediv_lt_of_lt_mul oq ?_)) (Int.le_ediv_of_mul_le oq oq);rw[Lh];omega
def Nt(c:B3)(n:Int)(k:Nat):Tg:=⟨tm 28 [(1,int n),(2,.pt 8002 0 0),(4,int 0),(5,int k)],[(8002,.box 24 [int c.pw,int c.pg])],20⟩
def Z6a(c:B3)(n:Int)(k:Nat)(hw:c.pw<=64)(hw0:0<=c.pw)(hk:k<=4)(hn:k*c.pw<n):CP (Zm f47 0) (Nt c n k).st .nrm (Nt c n (k+1)).st:=by have hm:(k:Int)*c.pw<=4*c.pw:=O oq oq;have hm0:0<=(k:Int)*c.pw:=Lf oq oq;exact sF [] [] (Ftb 18 (Y ((k:Int)<=4)) (Fi 24 ((k:Int)*c.pw) (Ffb 26 (Y (n<=(k:Int)*c.pw)) (Fx 20 k Fz))))
def Rx(c:B3)(n:Int):GP 47 [c.av,int n] X (int (need c n)) []:=by
 by_cases h:Zr c=X/\1<=n
 .obtain⟨h,h1⟩:=h;have hv:=BG.1 h;by_cases h3:n<=c.pw/4
  .have e:need c n=0:=by rw[need,if_pos ⟨h,h1,by omega⟩,if_pos h3]
   rw[e];exact gF [] func47 [] (Fh 7 [.call X (Sx.bool (Zr c)) []] (Fh 15 [.call X (int (Zb c)) []] (Fa ((GE c):GP 92 [AV.ag [int c.pw,int c.pg]] X (Sx.bool (Zr c)) []) (Ff 12 (by simp[h];omega:(!Zr c||Y (n<1))=Z) (Fa ((Nl c):GP 93 [AV.ag [int c.pw,int c.pg]] X (int (Zb c)) []) (Ft 16 (by rw[RE h];simpa using h3:Y (n<=Zb c)=X) Fz))))))
  .by_cases h4:n<=4*c.pw
   .-- it is found
    have hk:∃k:Nat,1<=k/\k<=4/\((k:Int)-1)*c.pw<n/\n<=k*c.pw:=by
     by_cases a1:n<=c.pw
     .exact⟨1,by omega,by omega,by omega,by omega⟩
     by_cases a2:n<=2*c.pw
     .exact⟨2,by omega,by omega,by omega,by omega⟩
     by_cases a3:n<=3*c.pw
     .exact⟨3,by omega,by omega,by omega,by omega⟩
     .exact⟨4,by omega,by omega,by omega,by omega⟩
    obtain⟨k,k1,k4,klo,khi⟩:=hk;rw[Zgz h h1 oq k4 klo khi];have qz0:CP (Zi f47 (0:Nat)) (Nt c n (1:Nat)).st Ex.ret (Tg.mk (tm (28:Nat) [((4:Nat),int (k:Int))]) [] (30:Nat)).st:=by
     obtain⟨j,rfl⟩:∃j,k=j+1:=⟨k-1,by omega⟩
     refine G5 (S:=λi=>(Nt c n (i+1)).st) j kr (λi hi=>Z6a c n (i+1) oq oq oq ?_) ?_
     .have:((i+1:Nat):Int)*c.pw<=((j+1:Nat)-1:Int)*c.pw:=O oq oq;omega
     .have hm:((j+1:Nat):Int)*c.pw<=4*c.pw:=O oq oq;have hm0:0<=((j+1:Nat):Int)*c.pw:=Lf oq oq;refine Z6W [(18,[.br X]),(24,[.int ((j+1:Nat)*c.pw)]),(26,[.br X])] [] (φ:=Y ((↑(j+(1:Nat)):Int)<=(4:Int))=X/\X=X/\M.wrap ((↑(j+(1:Nat)):Int)*c.pw)=(↑(j+(1:Nat)):Int)*c.pw/\Y (n<=(↑(j+(1:Nat)):Int)*c.pw)=X/\X=X) ?_ kr kr kr;exact⟨decide_eq_true oq,rfl,C1 oq oq,decide_eq_true oq,rfl⟩
    exact gF [] func47 [] (Fh 7 [.call X (Sx.bool (Zr c)) []] (Fh 15 [.call X (int (Zb c)) []] (Fk (0,Nt c n 1,.ret,⟨tm 28 [(4,int k)],[],30⟩) (Fa ((GE c):GP 92 [AV.ag [int c.pw,int c.pg]] X (Sx.bool (Zr c)) []) (Ff 12 (by simp[h];omega:(!Zr c||Y (n<1))=Z) (Fa ((Nl c):GP 93 [AV.ag [int c.pw,int c.pg]] X (int (Zb c)) []) (Ff 16 (by rw[RE h];simpa using h3:Y (n<=Zb c)=Z) (Fa (qz0:CP (Zi f47 0) (Nt c n 1).st Ex.ret (Tg.mk (tm 28 [(4,int ↑k)]) [] 30).st) Fz))))))))
   .have e:need c n=-1:=by rw[need,if_neg oq]
    rw[e];have qz0:CP (Zi f47 (0:Nat)) (Nt c n (1:Nat)).st Ex.nrm (Tg.mk (tm (28:Nat) []) [] (30:Nat)).st:=by
     refine Bs (S:=λi=>(Nt c n (i+1)).st) 4 kr (λi hi=>Z6a c n (i+1) oq oq oq ?_) ?_
     .have:((i+1:Nat):Int)*c.pw<=4*c.pw:=O oq oq;omega
     .refine Z6W [(18,[.br Z])] [] (φ:=Y ((↑((4:Nat)+(1:Nat)):Int)<=(4:Int))=Z/\Z=Z) ?_ kr kr kr;exact⟨rfl,rfl⟩
    exact gF [] func47 [] (Fh 7 [.call X (Sx.bool (Zr c)) []] (Fh 15 [.call X (int (Zb c)) []] (Fk (0,Nt c n 1,.nrm,⟨tm 28 [],[],30⟩) (Fa ((GE c):GP 92 [AV.ag [int c.pw,int c.pg]] X (Sx.bool (Zr c)) []) (Ff 12 (by simp[h];omega:(!Zr c||Y (n<1))=Z) (Fa ((Nl c):GP 93 [AV.ag [int c.pw,int c.pg]] X (int (Zb c)) []) (Ff 16 (by rw[RE h];simpa using h3:Y (n<=Zb c)=Z) (Fa (qz0:CP (Zi f47 0) (Nt c n 1).st Ex.nrm (Tg.mk (tm 28 []) [] 30).st) Fz))))))))
 .have e:need c n=-1:=if_neg λh'=>h ⟨h'.1,h'.2.1⟩;rw[e];have qz0:(!Zr c||Y (n<(1:Int)))=X:=by
   cases hv:Zr c with
   |false=>simp
   |true =>
    simp only[hv,true_and]at h;simp;omega
  exact gF [] func47 [] (Fh 7 [.call X (Sx.bool (Zr c)) []] (Fa ((GE c):GP 92 [AV.ag [int c.pw,int c.pg]] X (Sx.bool (Zr c)) []) (Ft 12 (qz0:(!Zr c||Y (n<1))=X) Fz)))
def Dy{n:Int}(a:0<=n)(b:n<=18446744073709551615):Lb.wrap n=n:=IntWalk.u64_in n ⟨a,b⟩
def HN{c:B3}(h:Zr c=X):128<=c.pw*c.pg/\c.pw*c.pg<=4096:=by have hv:=BG.1 h;have h1:16*c.pg<=c.pw*c.pg:=O oq oq;have h2:c.pw*c.pg<=64*c.pg:=O oq oq;omega
def OM{c:B3}{p o:Int}(h:Zr c=X)(h1:0<=p)(h2:p<c.pg)(_:0<=o)(h4:o<c.pw):0<=p*c.pw/\p*c.pw+o<c.pw*c.pg:=by have hv:=BG.1 h;have a:(p+1)*c.pw<=c.pg*c.pw:=O oq oq;have h6:0<=p*c.pw:=Lf oq oq;rw[Lh,Lc c.pg]at a;omega
def inB(c:B3)(p o:Int):Bool:=Y (0<=p)&&Y (p<c.pg)&&Y (0<=o)&&Y (o<c.pw)
def HQ{c}{p o:Int}:inB c p o=X↔0<=p/\p<c.pg/\0<=o/\o<c.pw:=by simp[inB,and_assoc]
def address(c:B3)(p o:Int):Int×Int:=if Zr c=X then(if inB c p o=X then(4096+(p*c.pw+o),0)else(0,2))else(0,1)
def Ej(c:B3)(p o:Int):AV:=.tu [u64 (address c p o).1,int (address c p o).2]
def Me(c:B3) p o:GP 212 [c.av,int p,int o] X (Ej c p o) []:=by
 by_cases h:Zr c=X;have ha:=HN h;by_cases a:inB c p o=X;obtain⟨g,p2,d,f⟩:=HQ.1 a;have hi:=OM h g p2 d f;have e:Ej c p o=.tu [u64 (4096+(p*c.pw+o)),int 0]:=by rw[Ej,address,if_pos h,if_pos a]
 rw[e];exact gF [] func212 [] (Fh 11 [.br Z] (Fh 30 [.br Z] (Fc 10 (@Hx c) (Fa (by simp[h]:(!Zr c)=Z) (Fb ((Y (p<0)||Y (c.pg<=p)||Y (o<0)||Y (c.pw<=o))=Z) (Fi 34 (p*c.pw) (Fi 36 (p*c.pw+o) (Fv 37 (p*c.pw+o) (Fv 38 (4096+(p*c.pw+o)) Fz)))))))));have e:Ej c p o=.tu [u64 0,int 2]:=by rw[Ej,address,if_pos h,if_neg a]
 rw[e];have b:(Y (p<(0:Int))||Y (c.pg<=p)||Y (o<(0:Int))||Y (c.pw<=o))=X:=by(rw[HQ]at a;simp;omega)
 exact gF [] func212 [] (Fh 11 [.br Z] (Fh 30 [.br X] (Fc 10 (@Hx c) (Fa (by simp[h]:(!Zr c)=Z) (Fa (b:(Y (p<0)||Y (c.pg<=p)||Y (o<0)||Y (c.pw<=o))=X) Fz)))));have e:Ej c p o=.tu [u64 0,int 1]:=by rw[Ej,address,if_neg h]
 rw[e];exact gF [] func212 [] (Fh 11 [.br X] (Fc 10 (@Hx c) (Fa (by simp[h]:(!Zr c)=X) Fz)))
def Z0y(c:B3) p o:GP 194 [c.av,int p,int o] X (Ej c p o) []:=by
 by_cases h:Zr c=X;have ha:=HN h;by_cases a:inB c p o=X;obtain⟨g,p2,d,f⟩:=HQ.1 a;have hi:=OM h g p2 d f;have e:Ej c p o=.tu [u64 (4096+p*c.pw+o),int 0]:=by rw[Ej,address,if_pos h,if_pos a,Int.add_assoc]
 rw[e];exact gF [] func194 [] (Fc 9 (@GE c) (Ff 10 (by simp[h]:(!Zr c)=Z) (Ffb 28 (Y (p<0)||Y (c.pg<=p)||Y (o<0)||Y (c.pw<=o)) (Fi 32 (p*c.pw) (Fi 33 (4096+p*c.pw) (Fi 35 (4096+p*c.pw+o) (Fv 36 (4096+p*c.pw+o) Fz)))))));have e:Ej c p o=.tu [u64 0,int 2]:=by rw[Ej,address,if_pos h,if_neg a]
 rw[e];have b:(Y (p<(0:Int))||Y (c.pg<=p)||Y (o<(0:Int))||Y (c.pw<=o))=X:=by(rw[HQ]at a;simp;omega)
 exact gF [] func194 [] (Fc 9 (@GE c) (Ff 10 (by simp[h]:(!Zr c)=Z) (Ft 28 (b:(Y (p<0)||Y (c.pg<=p)||Y (o<0)||Y (c.pw<=o))=X) Fz)));have e:Ej c p o=.tu [u64 0,int 1]:=by rw[Ej,address,if_neg h]
 rw[e];exact gF [] func194 [] (Fc 9 (@GE c) (Ft 10 (by simp[h]:(!Zr c)=X) Fz))
def Z2(c:B3)(a:Int):Int×Int×Int:=if Zr c=X then(if 4096<=a/\a<4096+c.pw*c.pg then((a-4096)/c.pw,(a-4096)%c.pw,0)else(0,0,2))else(0,0,1)
def Ba(c:B3)(a:Int):AV:=.tu [int (Z2 c a).1,int (Z2 c a).2.1,int (Z2 c a).2.2]
def Gq(c:B3)(a:Int)(a0:0<=a)(a1:a<=18446744073709551615):GP 96 [c.av,u64 a] X (Ba c a) []:=by
 by_cases h:Zr c=X;have ha:=HN h;have hv:=BG.1 h;by_cases b:4096<=a/\a<4096+c.pw*c.pg;have d1:0<=(a-4096)/c.pw:=Le oq oq;have d2:(a-4096)/c.pw<=a-4096:=Ld _ oq;have e:Ba c a=.tu [int ((a-4096).tdiv c.pw),int ((a-4096).tmod c.pw),int 0]:=by rw[Ba,Z2,if_pos h,if_pos b,H7 oq,Z4Q oq]
 rw[e];exact gF [] func96 [] (Fh 11 [.br Z] (Fh 22 [.int (c.pw*c.pg)] (Fh 23 [.int (c.pw*c.pg)] (Fh 25 [.br Z] (Fh 28 [.int (a-4096)] (Fh 32 [.int ((a-4096).tdiv c.pw)] (Fc 10 (@Hx c) (Fa (by simp[h]:(!Zr c)=Z) (Fa ((λ_=>Dy oq oq):(!decide (a<4096))=X->Lb.wrap (a-4096)=a-4096) (Fa ((λ_=>C1 oq oq):(!decide (a<4096))=X->M.wrap (c.pw*c.pg)=c.pw*c.pg) (Fa ((λ_=>Dy oq oq):(!decide (a<4096))=X->Lb.wrap (c.pw*c.pg)=c.pw*c.pg) (Fb ((Y (a<4096)||Y (c.pw*c.pg<=a-4096))=Z) (Fv 17 (a-4096) (Fi 27 (a-4096) (Fa ((C1 (by rw[H7 oq];omega) (by rw[H7 oq];omega)):M.wrap ((a-4096).tdiv c.pw)=(a-4096).tdiv c.pw) (Fo (c.pw=0->False) (Fo (c.pw=0->False) Fz)))))))))))))))));have e:Ba c a=.tu [int 0,int 0,int 2]:=by rw[Ba,Z2,if_pos h,if_neg b]
 rw[e];exact gF [] func96 [] (Fh 11 [.br Z] (Fh 17 [.int (a-4096)] (Fh 22 [.int (c.pw*c.pg)] (Fh 23 [.int (c.pw*c.pg)] (Fh 25 [.br X] (Fc 10 (@Hx c) (Fa (by simp[h]:(!Zr c)=Z) (Fa ((λd=>Dy (by simp at d;omega) oq):(!decide (a<4096))=X->Lb.wrap (a-4096)=a-4096) (Fa ((λ_=>C1 oq oq):(!decide (a<4096))=X->M.wrap (c.pw*c.pg)=c.pw*c.pg) (Fa ((λ_=>Dy oq oq):(!decide (a<4096))=X->Lb.wrap (c.pw*c.pg)=c.pw*c.pg) (Fb ((Y (a<4096)||Y (c.pw*c.pg<=a-4096))=X) Fz)))))))))));have e:Ba c a=.tu [int 0,int 0,int 1]:=by rw[Ba,Z2,if_neg h]
 rw[e];exact gF [] func96 [] (Fh 11 [.br X] (Fc 10 (@Hx c) (Fa (by simp[h]:(!Zr c)=X) Fz)))
def Hn(c:B3)(a:Int)(a0:0<=a)(a1:a<=18446744073709551615):GP 44 [c.av,u64 a] X (Ba c a) []:=by
 by_cases h:Zr c=X;have g:=HN h;rw[Lc]at g;have hv:=BG.1 h;by_cases f:4096<=a/\a<4096+c.pg*c.pw;have d1:0<=(a-4096)/c.pw:=Le oq oq;have d2:(a-4096)/c.pw<=a-4096:=Ld _ oq;have e:Ba c a=.tu [int ((a-4096).tdiv c.pw),int ((a-4096).tmod c.pw),int 0]:=by rw[Ba,Z2,if_pos h,if_pos (by rw[Lc c.pw];exact f),H7 oq,Z4Q oq]
 rw[e];let b:=4096+c.pg*c.pw;exact gF [] func44 [] (Fh 19 [.int (c.pg*c.pw)] (Fh 20 [.int b] (Fh 21 [.int b] (Fh 30 [.int ((a-4096).tdiv c.pw)] (Fc 9 (@GE c) (Ff 10 (by simp[h]:(!Zr c)=Z) (Fa ((λ_=>C1 oq oq):(!decide (a<4096))=X->M.wrap (c.pg*c.pw)=c.pg*c.pw) (Fa ((λ_=>C1 oq oq):(!decide (a<4096))=X->M.wrap b=4096+c.pg*c.pw) (Fa ((λ_=>Dy oq oq):(!decide (a<4096))=X->Lb.wrap b=4096+c.pg*c.pw) (Ffb 23 (Y (a<4096)||Y (4096+c.pg*c.pw<=a)) (Fv 25 (a-4096) (Fi 26 (a-4096) (Fa ((C1 (by rw[H7 oq];omega) (by rw[H7 oq];omega)):M.wrap ((a-4096).tdiv c.pw)=(a-4096).tdiv c.pw) (Fo (c.pw=0->False) (Fo (c.pw=0->False) Fz)))))))))))))));have e:Ba c a=.tu [int 0,int 0,int 2]:=by rw[Ba,Z2,if_pos h,if_neg (by rw[Lc c.pw];exact f)]
 rw[e];let d:=4096+c.pg*c.pw;exact gF [] func44 [] (Fh 19 [.int (c.pg*c.pw)] (Fh 20 [.int d] (Fh 21 [.int d] (Fc 9 (@GE c) (Ff 10 (by simp[h]:(!Zr c)=Z) (Fa ((λ_=>C1 oq oq):(!decide (a<4096))=X->M.wrap (c.pg*c.pw)=c.pg*c.pw) (Fa ((λ_=>C1 oq oq):(!decide (a<4096))=X->M.wrap d=4096+c.pg*c.pw) (Fa ((λ_=>Dy oq oq):(!decide (a<4096))=X->Lb.wrap d=4096+c.pg*c.pw) (Ftb 23 (Y (a<4096)||Y (4096+c.pg*c.pw<=a)) Fz)))))))));have e:Ba c a=.tu [int 0,int 0,int 1]:=by rw[Ba,Z2,if_neg h]
 rw[e];exact gF [] func44 [] (Fc 9 (@GE c) (Ft 10 (by simp[h]:(!Zr c)=X) Fz))
structure Z0 where
 K:Int
 S:Int
 U:Int
 N:Int
 deriving DecidableEq,Inhabited
def Z0.dv(p:Z0):List DV:=[Zn p.K,Zn p.S,Zn p.U,Zn p.N]
def Z0.av(p:Z0):AV:=.ag [int p.K,int p.S,int p.U,int p.N]
def ZZ(l:List Z0):AV:=.d (.sl 4 (l.map Z0.dv))
def Hs(p:Z0):Bool:=Y (p=⟨0,0,0,0⟩)
def Hh(p:Z0):Bool:=(p.S==0)||(p.S==1)
def Ng(p:Z0):Bool:=Y (0<=p.N)&&Y (p.N<=2147483647)
def Np(p:Z0)(c:B3):Bool:=Hh p&&Ng p&&Y (0<=p.U)&&Y (p.U<=c.pw)
def GU(p:Z0)(c:B3):Bool:=Hh p&&Ng p&&Y (1<=need c p.U)
def HC(p q:Z0):Bool:=Y (p=⟨3,q.S,0,0⟩)
def Z1k(p:Z0):GP 222 [p.av] X (bool (Hh p)) []:=by refine Zc [] [] [] dd func222 [] (φ:=True) ?_ kr kr;trivial
def Z4A(p:Z0):GP 223 [p.av] X (bool (Ng p)) []:=by refine Zc [] [] [] dd func223 [] (φ:=True) ?_ kr kr;trivial
def entryFree(p:Z0)(c:B3):GP 195 [p.av,c.av] X (bool (Hs p)) []:=by refine Zc [((7:Nat),[Hint.br (Hs p)])] [] [] dd func195 [] (φ:=(p.K==(0:Int)&&(p.S==(0:Int)&&(p.U==(0:Int)&&p.N==(0:Int))))=Hs p) ?_ kr kr;rw[Lg];cases p;simp[Hs]
def Z4F(p:Z0)(c:B3):GP 196 [p.av,c.av] X (bool (Np p c)) []:=by exact gF [] func196 [] (Fc 6 (@Z1k p) (FcG 9 (Hh p) (λhg=>@Z4A p) Fz))
def PH(p:Z0)(c:B3):GP 197 [p.av,c.av] X (bool (GU p c)) []:=by exact gF [] func197 [] (Fc 6 (@Z1k p) (FcG 9 (Hh p) (λa=>@Z4A p) (FcG 15 (Hh p&&Ng p) (λa=>@Ox c p.U) Fz)))
def Z89(p q:Z0):GP 198 [p.av,q.av] X (bool (HC p q)) []:=by refine Zc [((9:Nat),[Hint.br (HC p q)])] [] [] dd func198 [] (φ:=(p.K==(3:Int)&&(p.S==q.S&&(p.U==(0:Int)&&p.N==(0:Int))))=HC p q) ?_ kr kr;rw[Lg];cases p;simp[HC]
def NS(p:Z0)(l:List Z0):Bool:=l.all λq=>HC q p
def Ce(c:B3)(l:List Z0)(i:Nat):Nat:=match l[i]? with
 |none=>0
 |some p =>
  if p.K=0 then(if Hs p=X then 1 else 0)
  else if p.K=1 then(if Np p c=X then 1 else 0)
  else if p.K=2 then(if GU p c=X then(if(need c p.U).toNat<=l.length-i/\NS p ((l.drop (i+1)).take ((need c p.U).toNat-1))=X then(need c p.U).toNat else 0)else 0)
  else 0
def HH{l:List Z0}{i:Nat}{p:Z0}(h:l[i]?=some p):(l.map Z0.dv)[((i:Nat):Int).toNat]?=some p.dv:=by simp[h]
def Zf4(c:B3)(l:List Z0)(i:Nat)(p:Z0)(hp:l[i]?=some p)(hk:p.K<0\/3<=p.K):GP 150 [c.av,ZZ l,int i] X (int (Ce c l i)) []:=by
 have e:Ce c l i=0:=by grind[Ce]
 rw[e];exact gF [] func150 [] (Fh 15 [.el p.dv] (Fh 28 [.int 0] (Fh 32 [.call X (Sx.bool (Hs p)) []] (Fa (by grind:0<=(i:Int)/\(L Z0.dv l)[(i:Int).toNat]?=some p.dv) (Fa (by grind:(!(Y (p.K<0)||Y (3<=p.K)))=X->p.K=0) (Fa (by grind:(!(Y (p.K<0)||Y (3<=p.K)))=X->GP 195 [AV.ag [int p.K,int p.S,int p.U,int p.N],AV.ag [int c.pw,int c.pg]] X (Sx.bool (Hs p)) []) (Ftb 34 (Y (p.K<0)||Y (3<=p.K)||!Hs p) Fz)))))))
theorem Zky(c:B3)(l:List Z0)(i:Nat)(sp us pi:Int)(hp:l[i]?=some ⟨0,sp,us,pi⟩):GSpec Tryz.prog 150 [c.av,ZZ l,int i] true (int (Ce c l i)) []:=by
 cases hf:Hs ⟨0,sp,us,pi⟩with
 |true =>
  have e:Ce c l i=1:=by grind[Ce]
  rw[e]
  exact gE [(15,[Hint.el (Z0.mk 0 sp us pi).dv]),(32,[Hint.call true (Sx.bool (Hs (Z0.mk 0 sp us pi))) []]),bF 34] [] [] Tryz.func150 [] (an ((⟨by omega,HH hp⟩):0≤(↑i:Int)∧(List.map Z0.dv l)[(↑i:Int).toNat]?=some (Z0.mk 0 sp us pi).dv) (an ((fun hg=>@entryFree _ c):(!(decide ((Z0.mk 0 sp us pi).K<0)||decide (3≤(Z0.mk 0 sp us pi).K)))=true→GSpec Tryz.prog 195 [AV.ag [int (Z0.mk 0 sp us pi).K,int (Z0.mk 0 sp us pi).S,int (Z0.mk 0 sp us pi).U,int (Z0.mk 0 sp us pi).N],AV.ag [int c.pw,int c.pg]] true (Sx.bool (Hs (Z0.mk 0 sp us pi))) []) (an (by simp[hf]:(decide ((Z0.mk 0 sp us pi).K<0)||decide (3≤(Z0.mk 0 sp us pi).K)||!Hs (Z0.mk 0 sp us pi))=false) (rf false))))
 |false =>
  have e:Ce c l i=0:=by grind[Ce]
  rw[e]
  exact gE [(15,[Hint.el (Z0.mk 0 sp us pi).dv]),(32,[Hint.call true (Sx.bool (Hs (Z0.mk 0 sp us pi))) []]),bT 34] [] [] Tryz.func150 [] (an ((⟨by omega,HH hp⟩):0≤(↑i:Int)∧(List.map Z0.dv l)[(↑i:Int).toNat]?=some (Z0.mk 0 sp us pi).dv) (an ((fun hg=>@entryFree _ c):(!(decide ((Z0.mk 0 sp us pi).K<0)||decide (3≤(Z0.mk 0 sp us pi).K)))=true→GSpec Tryz.prog 195 [AV.ag [int (Z0.mk 0 sp us pi).K,int (Z0.mk 0 sp us pi).S,int (Z0.mk 0 sp us pi).U,int (Z0.mk 0 sp us pi).N],AV.ag [int c.pw,int c.pg]] true (Sx.bool (Hs (Z0.mk 0 sp us pi))) []) (an (by simp[hf]:(decide ((Z0.mk 0 sp us pi).K<0)||decide (3≤(Z0.mk 0 sp us pi).K)||!Hs (Z0.mk 0 sp us pi))=true) tt)))
theorem ZjG(c:B3)(l:List Z0)(i:Nat)(sp us pi:Int)(hp:l[i]?=some ⟨1,sp,us,pi⟩):GSpec Tryz.prog 150 [c.av,ZZ l,int i] true (int (Ce c l i)) []:=by
 cases hf:Np ⟨1,sp,us,pi⟩ c with
 |true =>
  have e:Ce c l i=1:=by grind[Ce]
  rw[e]
  exact gE [(15,[Hint.el (Z0.mk 1 sp us pi).dv]),(32,[Hint.call true (Sx.bool (Np (Z0.mk 1 sp us pi) c)) []]),bF 34] [] [] Tryz.func150 [] (an ((⟨by omega,HH hp⟩):0≤(↑i:Int)∧(List.map Z0.dv l)[(↑i:Int).toNat]?=some (Z0.mk 1 sp us pi).dv) (an ((fun hg=>@Z4F _ c):(!(decide ((Z0.mk 1 sp us pi).K<0)||decide (3≤(Z0.mk 1 sp us pi).K)))=true→GSpec Tryz.prog 196 [AV.ag [int (Z0.mk 1 sp us pi).K,int (Z0.mk 1 sp us pi).S,int (Z0.mk 1 sp us pi).U,int (Z0.mk 1 sp us pi).N],AV.ag [int c.pw,int c.pg]] true (Sx.bool (Np (Z0.mk 1 sp us pi) c)) []) (an (by simp[hf]:(decide ((Z0.mk 1 sp us pi).K<0)||decide (3≤(Z0.mk 1 sp us pi).K)||!Np (Z0.mk 1 sp us pi) c)=false) (rf false))))
 |false =>
  have e:Ce c l i=0:=by grind[Ce]
  rw[e]
  exact gE [(15,[Hint.el (Z0.mk 1 sp us pi).dv]),(32,[Hint.call true (Sx.bool (Np (Z0.mk 1 sp us pi) c)) []]),bT 34] [] [] Tryz.func150 [] (an ((⟨by omega,HH hp⟩):0≤(↑i:Int)∧(List.map Z0.dv l)[(↑i:Int).toNat]?=some (Z0.mk 1 sp us pi).dv) (an ((fun hg=>@Z4F _ c):(!(decide ((Z0.mk 1 sp us pi).K<0)||decide (3≤(Z0.mk 1 sp us pi).K)))=true→GSpec Tryz.prog 196 [AV.ag [int (Z0.mk 1 sp us pi).K,int (Z0.mk 1 sp us pi).S,int (Z0.mk 1 sp us pi).U,int (Z0.mk 1 sp us pi).N],AV.ag [int c.pw,int c.pg]] true (Sx.bool (Np (Z0.mk 1 sp us pi) c)) []) (an (by simp[hf]:(decide ((Z0.mk 1 sp us pi).K<0)||decide (3≤(Z0.mk 1 sp us pi).K)||!Np (Z0.mk 1 sp us pi) c)=true) tt)))
def IR(p:Z0)(s:List Z0)(k:Nat)(j:Nat):Tg:=⟨tm 66 [(6,int 0),(8,.pt 24008 0 0),(9,int k),(54,ZZ s),(55,int s.length),(56,int j)],[(24008,.box 243 [int p.K,int p.S,int p.U,int p.N])],40⟩
def Mz{α:Type}{f:α->Bool}:∀{l:List α},l.all f=Z->∃(j:Nat) (x:α),l[j]?=some x/\f x=Z/\∀i:Nat,i<j->∃y:α,l[i]?=some y/\f y=X
 |[],h=>by simp at h
 |a::l,h=>by
  cases ha:f a with
  |false=>exact⟨0,a,rfl,ha,λi d=>by omega⟩
  |true =>
   have:l.all f=Z:=by grind
   obtain⟨j,x,b,c,h3⟩:=Mz this;refine⟨j+1,x,by simpa using b,c,λi d=>?_⟩;cases i<;>grind
def Z9p(p:Z0)(s:List Z0)(k j:Nat)(q:Z0)(hs:s.length<=281474976710656)(hq:s[j]?=some q)(ht:HC q p=X):CP (Zm f150 0) (IR p s k j).st .nrm (IR p s k (j+1)).st:=by have hj:j<s.length:=(Li.1 hq).1;exact sF [] [] (Fh 58 [.el q.dv] (Ftb 57 (Y ((j:Int)<(s.length:Int))) (Fa ((⟨by omega,HH hq⟩):0<=(j:Int)/\(L Z0.dv s)[(j:Int).toNat]?=some q.dv) (Fc 62 (@Z89 q p) (Ff 63 (by simp[ht]:(!HC q p)=Z) (Fx 64 j Fz))))))
def ZeE(p:Z0)(s:List Z0)(k j:Nat)(q:Z0)(hq:s[j]?=some q)(ht:HC q p=Z):CP (Zm f150 0) (IR p s k j).st .ret (Tg.st ⟨tm 66 [(6,int 0)],[],60⟩):=by have hj:j<s.length:=(Li.1 hq).1;exact sF [] [] (Fh 58 [.el q.dv] (Ftb 57 (Y ((j:Int)<(s.length:Int))) (Fa ((⟨by omega,HH hq⟩):0<=(j:Int)/\(L Z0.dv s)[(j:Int).toNat]?=some q.dv) (Fc 62 (@Z89 q p) (Ft 63 (by simp[ht]:(!HC q p)=X) Fz)))))
def Zee p s k:CP (Zm f150 0) (IR p s k s.length).st (.ext 0) (Tg.st ⟨tm 66 [(9,int k)],[],60⟩):=by exact sF [] [] (Ffb 57 (Y ((s.length:Int)<(s.length:Int))) Fz)
theorem Zf0(c:B3)(l:List Z0)(hl:l.length≤281474976710656)(i:Nat)(sp us pi:Int)(hp:l[i]?=some ⟨2,sp,us,pi⟩):GSpec Tryz.prog 150 [c.av,ZZ l,int i] true (int (Ce c l i)) []:=by
 have hi:i<l.length:=(List.getElem?_eq_some_iff.1 hp).1
 cases hf:GU ⟨2,sp,us,pi⟩ c with
 |false =>
  have e:Ce c l i=0:=by grind[Ce]
  rw[e]
  exact gE [(15,[Hint.el (Z0.mk 2 sp us pi).dv]),(32,[Hint.call true (Sx.bool (GU (Z0.mk 2 sp us pi) c)) []]),bT 34] [] [] Tryz.func150 [] (an ((⟨by omega,HH hp⟩):0≤(↑i:Int)∧(List.map Z0.dv l)[(↑i:Int).toNat]?=some (Z0.mk 2 sp us pi).dv) (an ((fun hg=>@PH _ c):(!(decide ((Z0.mk 2 sp us pi).K<0)||decide (3≤(Z0.mk 2 sp us pi).K)))=true→GSpec Tryz.prog 197 [AV.ag [int (Z0.mk 2 sp us pi).K,int (Z0.mk 2 sp us pi).S,int (Z0.mk 2 sp us pi).U,int (Z0.mk 2 sp us pi).N],AV.ag [int c.pw,int c.pg]] true (Sx.bool (GU (Z0.mk 2 sp us pi) c)) []) (an (by simp[hf]:(decide ((Z0.mk 2 sp us pi).K<0)||decide (3≤(Z0.mk 2 sp us pi).K)||!GU (Z0.mk 2 sp us pi) c)=true) tt)))
 |true =>
  have hn:1≤need c us:=by grind[GU]
  obtain⟨k,hk⟩:∃k:Nat,need c us=k:=⟨(need c us).toNat,by omega⟩
  have hk1:1≤k:=by omega
  by_cases hfit:k≤l.length-i
  ·have hsl:((l.drop (i+1)).take (k-1)).length≤281474976710656:=by grind
   have hsub:List.take (((i+k:Nat):Int).toNat-((i+1:Nat):Int).toNat) (List.drop ((i+1:Nat):Int).toNat (List.map Z0.dv l))=List.map Z0.dv (List.take (k-1) (List.drop (i+1) l)):=by grind[List.map_take,List.map_drop]
   cases ht:NS ⟨2,sp,us,pi⟩ ((l.drop (i+1)).take (k-1))with
   |true =>
    have e:Ce c l i=k:=by grind[Ce]
    rw[e]
    have qz0:CSpec Tryz.prog (Zi Tryz.f150 (0:Nat)) (IR (Z0.mk (2:Int) sp us pi) (List.take (k-(1:Nat)) (List.drop (i+(1:Nat)) l)) k (0:Nat)).st Ex.nrm (Tg.mk (tm (66:Nat) [((9:Nat),int (↑k:Int))]) [] (60:Nat)).st:=by
     have hall:=List.all_eq_true.1 ht
     refine Bs (S:=fun j=>(IR ⟨2,sp,us,pi⟩ ((l.drop (i+1)).take (k-1)) k j).st) ((l.drop (i+1)).take (k-1)).length (by kernel_rfl) (fun j hj=>?_) (Zee _ _ _)
     exact Z9p _ _ _ j _ hsl (List.getElem?_eq_getElem hj) (hall _ (List.getElem_mem hj))
    exact gE [(15,[Hint.el (Z0.mk 2 sp us pi).dv]),(32,[Hint.call true (Sx.bool (GU (Z0.mk 2 sp us pi) c)) []]),bF 34,(41,[Hint.call true (int ↑k) []]),(46,[Hint.int ((↑l.length:Int)-(↑i:Int))]),bF 47,(50,[Hint.int (↑(i+1):Int)]),(53,[Hint.int (↑(i+k):Int)]),(54,[Hint.els (((l.drop (i+1)).take (k-1)).map Z0.dv)]),(55,[Hint.int (↑(List.take (k-1) (List.drop (i+1) l)).length:Int)])] [Zld (@qz0)] [] Tryz.func150 [] (an ((⟨by omega,HH hp⟩):0≤(↑i:Int)∧(List.map Z0.dv l)[(↑i:Int).toNat]?=some (Z0.mk 2 sp us pi).dv) (an ((fun hg=>@PH _ c):(!(decide ((Z0.mk 2 sp us pi).K<0)||decide (3≤(Z0.mk 2 sp us pi).K)))=true→GSpec Tryz.prog 197 [AV.ag [int (Z0.mk 2 sp us pi).K,int (Z0.mk 2 sp us pi).S,int (Z0.mk 2 sp us pi).U,int (Z0.mk 2 sp us pi).N],AV.ag [int c.pw,int c.pg]] true (Sx.bool (GU (Z0.mk 2 sp us pi) c)) []) (an (by simp[hf]:(decide ((Z0.mk 2 sp us pi).K<0)||decide (3≤(Z0.mk 2 sp us pi).K)||!GU (Z0.mk 2 sp us pi) c)=false) (an (rf false) (an (@hk▸Ox c us) (an (by grind[C1]:IntKind.i64.wrap ((↑(List.map Z0.dv l).length:Int)-(↑i:Int))=(↑l.length:Int)-(↑i:Int)) (an (bo (decide ((↑l.length:Int)-(↑i:Int)<(↑k:Int))=false)) (an (rf false) (an (wI (IntKind.i64.wrap ((↑i:Int)+1)=(↑(i+1):Int))) (an (wI (IntKind.i64.wrap ((↑i:Int)+(↑k:Int))=(↑(i+k):Int))) (an (by grind:0≤(↑(i+1):Int)∧(↑(i+1):Int)≤(↑(i+k):Int)∧(↑(i+k):Int)≤(↑(List.map Z0.dv l).length:Int)) (an (hsub:List.take ((↑(i+k):Int).toNat-(↑(i+1):Int).toNat) (List.drop (↑(i+1):Int).toNat (List.map Z0.dv l))=List.map Z0.dv (List.take (k-1) (List.drop (i+1) l))) (an (by grind:(↑(List.map Z0.dv (List.take (k-1) (List.drop (i+1) l))).length:Int)=(↑(List.take (k-1) (List.drop (i+1) l)).length:Int)) (@qz0))))))))))))))
   |false =>
    have e:Ce c l i=0:=by grind[Ce]
    rw[e]
    have qz0:CSpec Tryz.prog (Zi Tryz.f150 (0:Nat)) (IR (Z0.mk (2:Int) sp us pi) (List.take (k-(1:Nat)) (List.drop (i+(1:Nat)) l)) k (0:Nat)).st Ex.ret (Tg.mk (tm (66:Nat) [((6:Nat),int (0:Int))]) [] (60:Nat)).st:=by
     obtain⟨n,x,h1,h2,h3⟩:=Mz ht
     refine G5 (S:=fun j=>(IR ⟨2,sp,us,pi⟩ ((l.drop (i+1)).take (k-1)) k j).st) n (by kernel_rfl) (fun j hj=>?_) (ZeE _ _ _ n x h1 h2)
     obtain⟨y,h4,h5⟩:=h3 j hj
     exact Z9p _ _ _ j y hsl h4 h5
    exact gE [(15,[Hint.el (Z0.mk 2 sp us pi).dv]),(32,[Hint.call true (Sx.bool (GU (Z0.mk 2 sp us pi) c)) []]),bF 34,(41,[Hint.call true (int ↑k) []]),(46,[Hint.int ((↑l.length:Int)-(↑i:Int))]),bF 47,(50,[Hint.int (↑(i+1):Int)]),(53,[Hint.int (↑(i+k):Int)]),(54,[Hint.els (((l.drop (i+1)).take (k-1)).map Z0.dv)]),(55,[Hint.int (↑(List.take (k-1) (List.drop (i+1) l)).length:Int)])] [Zld (@qz0)] [] Tryz.func150 [] (an ((⟨by omega,HH hp⟩):0≤(↑i:Int)∧(List.map Z0.dv l)[(↑i:Int).toNat]?=some (Z0.mk 2 sp us pi).dv) (an ((fun hg=>@PH _ c):(!(decide ((Z0.mk 2 sp us pi).K<0)||decide (3≤(Z0.mk 2 sp us pi).K)))=true→GSpec Tryz.prog 197 [AV.ag [int (Z0.mk 2 sp us pi).K,int (Z0.mk 2 sp us pi).S,int (Z0.mk 2 sp us pi).U,int (Z0.mk 2 sp us pi).N],AV.ag [int c.pw,int c.pg]] true (Sx.bool (GU (Z0.mk 2 sp us pi) c)) []) (an (by simp[hf]:(decide ((Z0.mk 2 sp us pi).K<0)||decide (3≤(Z0.mk 2 sp us pi).K)||!GU (Z0.mk 2 sp us pi) c)=false) (an (rf false) (an (@hk▸Ox c us) (an (by grind[C1]:IntKind.i64.wrap ((↑(List.map Z0.dv l).length:Int)-(↑i:Int))=(↑l.length:Int)-(↑i:Int)) (an (bo (decide ((↑l.length:Int)-(↑i:Int)<(↑k:Int))=false)) (an (rf false) (an (wI (IntKind.i64.wrap ((↑i:Int)+1)=(↑(i+1):Int))) (an (wI (IntKind.i64.wrap ((↑i:Int)+(↑k:Int))=(↑(i+k):Int))) (an (by grind:0≤(↑(i+1):Int)∧(↑(i+1):Int)≤(↑(i+k):Int)∧(↑(i+k):Int)≤(↑(List.map Z0.dv l).length:Int)) (an (hsub:List.take ((↑(i+k):Int).toNat-(↑(i+1):Int).toNat) (List.drop (↑(i+1):Int).toNat (List.map Z0.dv l))=List.map Z0.dv (List.take (k-1) (List.drop (i+1) l))) (an (by grind:(↑(List.map Z0.dv (List.take (k-1) (List.drop (i+1) l))).length:Int)=(↑(List.take (k-1) (List.drop (i+1) l)).length:Int)) (@qz0))))))))))))))
  ·have e:Ce c l i=0:=by grind[Ce]
   rw[e]
   exact gE [(15,[Hint.el (Z0.mk 2 sp us pi).dv]),(32,[Hint.call true (Sx.bool (GU (Z0.mk 2 sp us pi) c)) []]),bF 34,(41,[Hint.call true (int ↑k) []]),(46,[Hint.int ((↑l.length:Int)-(↑i:Int))]),bT 47] [] [] Tryz.func150 [] (an ((⟨by omega,HH hp⟩):0≤(↑i:Int)∧(List.map Z0.dv l)[(↑i:Int).toNat]?=some (Z0.mk 2 sp us pi).dv) (an ((fun hg=>@PH _ c):(!(decide ((Z0.mk 2 sp us pi).K<0)||decide (3≤(Z0.mk 2 sp us pi).K)))=true→GSpec Tryz.prog 197 [AV.ag [int (Z0.mk 2 sp us pi).K,int (Z0.mk 2 sp us pi).S,int (Z0.mk 2 sp us pi).U,int (Z0.mk 2 sp us pi).N],AV.ag [int c.pw,int c.pg]] true (Sx.bool (GU (Z0.mk 2 sp us pi) c)) []) (an (by simp[hf]:(decide ((Z0.mk 2 sp us pi).K<0)||decide (3≤(Z0.mk 2 sp us pi).K)||!GU (Z0.mk 2 sp us pi) c)=false) (an (rf false) (an (@hk▸Ox c us) (an (by grind[C1]:IntKind.i64.wrap ((↑(List.map Z0.dv l).length:Int)-(↑i:Int))=(↑l.length:Int)-(↑i:Int)) (an (bo (decide ((↑l.length:Int)-(↑i:Int)<(↑k:Int))=true)) tt)))))))
def Z5V(c:B3)(l:List Z0)(hl:l.length<=281474976710656)(i:Nat)(g:i<l.length):GP 150 [c.av,ZZ l,int i] X (int (Ce c l i)) []:=by obtain⟨p,a⟩:∃p,l[i]?=some p:=⟨l[i],List.getElem?_eq_getElem g⟩;obtain⟨kd,sp,us,b⟩:=p;by_cases d:kd=0;subst d;exact Zky c l i sp us b a;by_cases e:kd=1;subst e;exact ZjG c l i sp us b a;by_cases f:kd=2;subst f;exact Zf0 c l hl i sp us b a;exact Zf4 c l i _ a (by grind)
def Z3(l:List Int):AV:=.d (.sl 1 (l.map wdv))
structure Heap where
 C:B3
 W:List Int
 P:List Z0
 S:Int
 B:Int
 deriving DecidableEq,Inhabited
def Heap.cells(h:Heap):List AV:=[int h.C.pw,int h.C.pg,Z3 h.W,ZZ h.P,int h.S,int h.B]
def Heap.av(h:Heap):AV:=.ag h.cells
def B7:Heap:=⟨⟨0,0⟩,[],[],0,0⟩
def Ia(c:B3):Heap:=⟨c,La (c.pw*c.pg).toNat 0,La c.pg.toNat ⟨0,0,0,0⟩,0,-1⟩
def Zat(c:B3)(h:Zr c=X):GP 100 [c.av] Z (.tu [(Ia c).av,int 0]) []:=by
 have hv:=BG.1 h;have ha:=HN h;rw[Lc]at ha;have hc:=Lc c.pw c.pg;exact gF [] func100 [] (Fh 14 [.els ((La (c.pw*c.pg).toNat 0).map wdv)] (Fh 17 [.els ((La c.pg.toNat (⟨0,0,0,0⟩:Z0)).map Z0.dv)] (Fc 5 (@GE c) (Ff 6 (by simp[h]:(!Zr c)=Z) (Fg 13 (by grind[C1]:M.wrap (c.pg*c.pw)=(↑(c.pw*c.pg).toNat:Int)) (Fa ((⟨by omega,by omega,by simp;omega⟩):0<=(↑(c.pw*c.pg).toNat:Int)/\(↑(c.pw*c.pg).toNat:Int)<=(↑(c.pw*c.pg).toNat:Int)/\(↑(c.pw*c.pg).toNat:Int)*((↑(nat_lit 7):Int)+1)<=2^48) (Fa (by rw[List.map_replicate];rfl:La (↑(c.pw*c.pg).toNat:Int).toNat [B1 0]=L wdv (La (c.pw*c.pg).toNat 0)) (Fa ((⟨by omega,by omega,by simp;omega⟩):0<=c.pg/\c.pg<=c.pg/\c.pg*((↑(nat_lit 31):Int)+1)<=2^48) (Fa (by simp[Z0.dv,wdv]:La c.pg.toNat [Zn 0,Zn 0,Zn 0,Zn 0]=L Z0.dv (La c.pg.toNat (Z0.mk 0 0 0 0))) Fz)))))))))
def CQ(l:List Z0)(i:Int):Z0:=l[i.toNat]?.getD ⟨0,0,0,0⟩
theorem ZhX{l:List Z0}{i:Int}(h:i.toNat<l.length):l[i.toNat]?=some (CQ l i):=by grind[CQ]
def To(h:Heap):Bool:=(h.B==-1)||(Y (0<=h.B)&&Y (h.B<h.P.length)&&((CQ h.P h.B).K==1))
def Ps(h:Heap):Bool:=Zr h.C&&((h.W.length:Int)==h.C.pw*h.C.pg)&&((h.P.length:Int)==h.C.pg)&&((h.S==0)||(h.S==1))
def GI(c:B3)(l:List Z0):Nat->Nat->Bool|0,i=>Y (l.length<=i)|f+1,i=>if i<l.length then(if Ce c l i=0 then Z else GI c l f (i+Ce c l i))else X
def Z8(h:Heap):Bool:=Ps h&&(To h&&GI h.C h.P h.P.length 0)
def Ns(h:Heap)(i:Nat):Tg:=⟨tm 83 [(1,.pt 8001 0 0),(2,bool Z),(3,int i)],[(8001,.box 28 h.cells)],50⟩
def Zkp{c}{l:List Z0}{i:Nat}(hi:i<l.length):i+Ce c l i<=l.length:=by grind[Ce]
def Z5F(h:Heap)(i:Nat)(hl:h.P.length<=281474976710656)(hi:i<h.P.length)(hs:Ce h.C h.P i≠0):CP (Zm f94 0) (Ns h i).st .nrm (Ns h (i+Ce h.C h.P i)).st:=by have hle:=Zkp (c:=h.C) hi;exact sF [] [] (Fg 70 (by grind:(↑(L Z0.dv h.P).length:Int)=(h.P.length:Int)) (Ftb 71 (Y ((i:Int)<(h.P.length:Int))) (Fc 77 (@Z5V h.C h.P hl i hi) (Ffb 79 ((↑(Ce h.C h.P i):Int)==0) (Fw 82 ((i:Int)+(↑(Ce h.C h.P i):Int)) (↑(i+Ce h.C h.P i):Int) Fz)))))
def ZaG(h:Heap)(i:Nat)(hl:h.P.length<=281474976710656)(hi:i<h.P.length)(hs:Ce h.C h.P i=0):CP (Zm f94 0) (Ns h i).st .ret (Tg.st ⟨tm 83 [(2,bool Z)],[],60⟩):=by exact sF [] [] (Fg 70 (by grind:(↑(L Z0.dv h.P).length:Int)=(h.P.length:Int)) (Ftb 71 (Y ((i:Int)<(h.P.length:Int))) (Fc 77 (@Z5V h.C h.P hl i hi) (Ft 79 (by simp[hs]:((↑(Ce h.C h.P i):Int)==0)=X) Fz))))
def Z8p(h:Heap)(i:Nat)(hi:h.P.length<=i):CP (Zm f94 0) (Ns h i).st (.ext 0) (Tg.st ⟨tm 83 [],[],60⟩):=by exact sF [] [] (Fl 70 Z0.dv h.P (Ffb 71 (Y ((i:Int)<(h.P.length:Int))) Fz))
def Z4O(h:Heap)(hl:h.P.length<=281474976710656):∀(f i:Nat),h.P.length<=i+f->GI h.C h.P f i=X->∃n,IY prog (Zm f94 0) n (Ns h i).st (.ext 0) (Tg.st ⟨tm 83 [],[],60⟩)
 |0,i,hf,_=>⟨0,(λh=>nomatch h),Z8p h i oq⟩
 |f+1,i,hf,hb=>by
  by_cases a:i<h.P.length
  .simp only[GI,if_pos a]at hb;split at hb
   .cases hb
   .rename_i c;obtain⟨n,b⟩:=Z4O h hl f (i+Ce h.C h.P i) oq hb;exact⟨n+1,_,Z5F h i hl a c,b⟩
  .exact⟨0,(λh=>nomatch h),Z8p h i oq⟩
def Z5n(h:Heap)(hl:h.P.length<=281474976710656):∀(f i:Nat),h.P.length<=i+f->GI h.C h.P f i=Z->∃n,IY prog (Zm f94 0) n (Ns h i).st .ret (Tg.st ⟨tm 83 [(2,bool Z)],[],60⟩)
 |0,i,hf,hb=>by grind[GI]
 |f+1,i,hf,hb=>by
  by_cases a:i<h.P.length
  .simp only[GI,if_pos a]at hb;split at hb
   .rename_i b;exact⟨0,(λh=>nomatch h),ZaG h i hl a b⟩
   .rename_i b;obtain⟨n,c⟩:=Z5n h hl f (i+Ce h.C h.P i) oq hb;exact⟨n+1,_,Z5F h i hl a b,c⟩
  grind[GI]
theorem Ph{h:Heap}:Ps h=X↔Zr h.C=X/\(h.W.length:Int)=h.C.pw*h.C.pg/\(h.P.length:Int)=h.C.pg/\(h.S=0\/h.S=1):=by grind[Ps]
def Ey(h:Heap):GP 94 [h.av] X (bool (Z8 h)) []:=by
 have a:(!!Zr h.C)=X->M.wrap (h.C.pw*h.C.pg)=h.C.pw*h.C.pg:=by(intro i;have ha:=HN (c:=h.C) (by simpa using i);exact C1 oq oq)
 by_cases j:Ps h=X;obtain⟨s1,s2,s3,s4⟩:=Ph.1 j;have i:=BG.1 s1;have b:(!Zr h.C||(h.W.length:Int) != h.C.pw*h.C.pg||(h.P.length:Int) != h.C.pg||h.S != 0&&h.S != 1)=Z:=by grind
 have f:(h.B != -1&&!(Y (h.B<0)||Y ((h.P.length:Int)<=h.B)))=X->0<=h.B/\(L Z0.dv h.P)[h.B.toNat]?=some (CQ h.P h.B).dv:=by grind[ZhX]
 by_cases h2:To h=X;have d:(h.B != -1&&(Y (h.B<0)||Y ((h.P.length:Int)<=h.B)||(CQ h.P h.B).K != 1))=Z:=by grind[To]
 cases h3:GI h.C h.P h.P.length 0 with
 |true =>
  have e:Z8 h=X:=by grind[Z8]
  rw[e];obtain⟨n,g⟩:=Z4O h oq h.P.length 0 oq h3;exact gF [] func94 [] (Fh 7 [.call X (Sx.bool (Zr h.C)) []] (Fh 12 [.int ↑h.W.length] (Fh 19 [.int (h.C.pw*h.C.pg)] (Fh 25 [.int ↑h.P.length] (Fh 53 [.int ↑h.P.length] (Fh 61 [.el (CQ h.P h.B).dv] (Fk (0,Ns h 0,.nrm,⟨tm 83 [],[],60⟩) (Fa ((Hx h.C):GP 149 [AV.ag [int h.C.pw,int h.C.pg]] X (Sx.bool (Zr h.C)) []) (Fa ((λ_=>by grind):(!!Zr h.C)=X->(↑(L wdv h.W).length:Int)=(h.W.length:Int)) (Fa (a:(!!Zr h.C)=X->M.wrap (h.C.pw*h.C.pg)=h.C.pw*h.C.pg) (Fa ((λ_=>by grind):(!(!Zr h.C||(h.W.length:Int) != h.C.pw*h.C.pg))=X->(↑(L Z0.dv h.P).length:Int)=(h.P.length:Int)) (Ff 40 (b:(!Zr h.C||(h.W.length:Int) != h.C.pw*h.C.pg||(h.P.length:Int) != h.C.pg||h.S != 0&&h.S != 1)=Z) (Fa ((λ_=>by grind):(h.B != (-1:Int)&&!decide (h.B<0))=X->(↑(L Z0.dv h.P).length:Int)=(h.P.length:Int)) (Fa (f:(h.B != (-1:Int)&&!(Y (h.B<0)||Y ((h.P.length:Int)<=h.B)))=X->0<=h.B/\(L Z0.dv h.P)[h.B.toNat]?=some (CQ h.P h.B).dv) (Ff 66 (d:(h.B != (-1:Int)&&(Y (h.B<0)||Y ((h.P.length:Int)<=h.B)||(CQ h.P h.B).K != 1))=Z) (Fa ((Z2y kr g):CP (Zi f94 0) (Ns h 0).st Ex.nrm (Tg.mk (tm 83 []) [] 60).st) Fz))))))))))))))))
 |false =>
  have e:Z8 h=Z:=by grind[Z8]
  rw[e];obtain⟨n,g⟩:=Z5n h oq h.P.length 0 oq h3;exact gF [] func94 [] (Fh 7 [.call X (Sx.bool (Zr h.C)) []] (Fh 12 [.int ↑h.W.length] (Fh 19 [.int (h.C.pw*h.C.pg)] (Fh 25 [.int ↑h.P.length] (Fh 53 [.int ↑h.P.length] (Fh 61 [.el (CQ h.P h.B).dv] (Fk (0,Ns h 0,.ret,⟨tm 83 [(2,bool Z)],[],60⟩) (Fa ((Hx h.C):GP 149 [AV.ag [int h.C.pw,int h.C.pg]] X (Sx.bool (Zr h.C)) []) (Fa ((λ_=>by grind):(!!Zr h.C)=X->(↑(L wdv h.W).length:Int)=(h.W.length:Int)) (Fa (a:(!!Zr h.C)=X->M.wrap (h.C.pw*h.C.pg)=h.C.pw*h.C.pg) (Fa ((λ_=>by grind):(!(!Zr h.C||(h.W.length:Int) != h.C.pw*h.C.pg))=X->(↑(L Z0.dv h.P).length:Int)=(h.P.length:Int)) (Ff 40 (b:(!Zr h.C||(h.W.length:Int) != h.C.pw*h.C.pg||(h.P.length:Int) != h.C.pg||h.S != 0&&h.S != 1)=Z) (Fa ((λ_=>by grind):(h.B != (-1:Int)&&!decide (h.B<0))=X->(↑(L Z0.dv h.P).length:Int)=(h.P.length:Int)) (Fa (f:(h.B != (-1:Int)&&!(Y (h.B<0)||Y ((h.P.length:Int)<=h.B)))=X->0<=h.B/\(L Z0.dv h.P)[h.B.toNat]?=some (CQ h.P h.B).dv) (Ff 66 (d:(h.B != (-1:Int)&&(Y (h.B<0)||Y ((h.P.length:Int)<=h.B)||(CQ h.P h.B).K != 1))=Z) (Fa ((Z1p kr g):CP (Zi f94 0) (Ns h 0).st Ex.ret (Tg.mk (tm 83 [(2,Sx.bool Z)]) [] 60).st) Fz))))))))))))))))
 have d:(h.B != -1&&(Y (h.B<0)||Y ((h.P.length:Int)<=h.B)||(CQ h.P h.B).K != 1))=X:=by grind[To]
 have e:Z8 h=Z:=by grind[Z8]
 rw[e];exact gF [] func94 [] (Fh 7 [.call X (Sx.bool (Zr h.C)) []] (Fh 12 [.int ↑h.W.length] (Fh 19 [.int (h.C.pw*h.C.pg)] (Fh 25 [.int ↑h.P.length] (Fh 53 [.int ↑h.P.length] (Fh 61 [.el (CQ h.P h.B).dv] (Fa ((Hx h.C):GP 149 [AV.ag [int h.C.pw,int h.C.pg]] X (Sx.bool (Zr h.C)) []) (Fa ((λ_=>by grind):(!!Zr h.C)=X->(↑(L wdv h.W).length:Int)=(h.W.length:Int)) (Fa (a:(!!Zr h.C)=X->M.wrap (h.C.pw*h.C.pg)=h.C.pw*h.C.pg) (Fa ((λ_=>by grind):(!(!Zr h.C||(h.W.length:Int) != h.C.pw*h.C.pg))=X->(↑(L Z0.dv h.P).length:Int)=(h.P.length:Int)) (Ff 40 (b:(!Zr h.C||(h.W.length:Int) != h.C.pw*h.C.pg||(h.P.length:Int) != h.C.pg||h.S != 0&&h.S != 1)=Z) (Fa ((λ_=>by grind):(h.B != (-1:Int)&&!decide (h.B<0))=X->(↑(L Z0.dv h.P).length:Int)=(h.P.length:Int)) (Fa (f:(h.B != (-1:Int)&&!(Y (h.B<0)||Y ((h.P.length:Int)<=h.B)))=X->0<=h.B/\(L Z0.dv h.P)[h.B.toNat]?=some (CQ h.P h.B).dv) (Ft 66 (d:(h.B != (-1:Int)&&(Y (h.B<0)||Y ((h.P.length:Int)<=h.B)||(CQ h.P h.B).K != 1))=X) Fz))))))))))))));have b:(!Zr h.C||(h.W.length:Int) != h.C.pw*h.C.pg||(h.P.length:Int) != h.C.pg||h.S != 0&&h.S != 1)=X:=by grind[Ph]
 have e:Z8 h=Z:=by grind[Z8]
 rw[e];exact gF [] func94 [] (Fh 7 [.call X (Sx.bool (Zr h.C)) []] (Fh 12 [.int ↑h.W.length] (Fh 19 [.int (h.C.pw*h.C.pg)] (Fh 25 [.int ↑h.P.length] (Fa ((Hx h.C):GP 149 [AV.ag [int h.C.pw,int h.C.pg]] X (Sx.bool (Zr h.C)) []) (Fa ((λ_=>by grind):(!!Zr h.C)=X->(↑(L wdv h.W).length:Int)=(h.W.length:Int)) (Fa (a:(!!Zr h.C)=X->M.wrap (h.C.pw*h.C.pg)=h.C.pw*h.C.pg) (Fa ((λ_=>by grind):(!(!Zr h.C||(h.W.length:Int) != h.C.pw*h.C.pg))=X->(↑(L Z0.dv h.P).length:Int)=(h.P.length:Int)) (Ft 40 (b:(!Zr h.C||(h.W.length:Int) != h.C.pw*h.C.pg||(h.P.length:Int) != h.C.pg||h.S != 0&&h.S != 1)=X) Fz)))))))))
end Go.Proofs.YtgedmeaemofdkaaGreat
namespace Go.Proofs.YtgedmeaemofdkaaGreat
open Go.Sx Go.RowKit
def Zkw:ownKnob Tryz.prog.godebug=none:=by kernel_rfl
def ZgO:laidOutB prog=X:=by kernel_rfl
def Zbz{n:Nat}{l}(h:shp prog (n+1) 3 l):∃x:Int,l=[Zn x]/\(Lit.int .i64 x).wf=X:=by
 have e:shp prog (n+1) 3 l=(∃x:Int,l=[.sc (.int .i64 x)]/\(Lit.int .i64 x).wf=X):=by kernel_rfl
 rw[e]at h;exact h
def Z6E{α β:Type}{f:α->β}:∀{l:List β},(∀x∈l,∃a,x=f a)->∃m:List α,l=m.map f
 |[],_=>⟨[],rfl⟩
 |x::l,h=>by
  obtain⟨a,rfl⟩:=h x pq;obtain⟨m,rfl⟩:=Z6E (l:=l) λy b=>h y (by simp[b]);exact⟨a::m,rfl⟩
end Go.Proofs.YtgedmeaemofdkaaGreat
