/-
 The statement BoundMeasures: part 5.
 Conditions: none.
-/
import Derived.IntWalk
import Derived.Test.YtgedmeaemofdkaaGreatRows
import Derived.Test.YtgedmeaemofdkaaGreatS4
set_option maxRecDepth 100000
set_option maxHeartbeats 2000000
set_option linter.all false
open Bool renaming true->X,false->Y,eq_iff_iff->Lt
open Decidable renaming decide->Z
open List renaming map->M,length_map->La,drop->Le,take->Lf,replicate->Lj,getElem?_eq_getElem->Lm,getElem?_eq_some_iff->Lq,getElem?_map->Lr
open Go.IntKind renaming i64->L,u64->Ld
open Option renaming some->O,none->Lc,map_eq_some_iff->Lv
open Nat renaming beq->Lb,ne_of_beq_eq_false->Lh,eq_of_beq_eq_true->Ll
open Go.Lit renaming int->Lg
open Int renaming mul_le_mul_of_nonneg_right->Li,mul_comm->Lk,ediv_le_self->Ln,ediv_nonneg->Lo,mul_nonneg->Lp,add_mul->Lu
open Option.some renaming injEq->Ls
open Go.Proofs.Tryz
namespace Go.Proofs.YtgedmeaemofdkaaGreat
open Go.Sx
abbrev GP:=GSpec prog
abbrev LP:=LentSpec prog
abbrev BP:=BorSpec prog
abbrev CP:=CSpec prog
structure Conf where
 pw:Int
 pg:Int
 deriving DecidableEq,Inhabited
def Conf.av(c:Conf):AV:=.ag [int c.pw,int c.pg]
def Z06(c:Conf):Bool:=Z (16<=c.pw)&&Z (c.pw<=64)&&(c.pw.tmod 4==0)&&Z (8<=c.pg)&&Z (c.pg<=64)
def validB_iff{c:Conf}:Z06 c=X↔16<=c.pw/\c.pw<=64/\c.pw.tmod 4=0/\8<=c.pg/\c.pg<=64:=by
 simp[Z06,and_assoc]
def Z0X(c:Conf):Int:=if Z06 c=X then c.pg.tdiv 4 else 0
def Z00(c:Conf):Int:=if Z06 c=X then c.pw.tdiv 4 else 0
def Z14{n:Int}(h1:-9223372036854775808<=n)(h2:n<=9223372036854775807):L.wrap n=n:=IntWalk.i64_in n ⟨h1,h2⟩
def Z40{a b:Int}(h:0<=a):a.tdiv b=a/b:=Int.tdiv_eq_ediv_of_nonneg h
def ZoO{a b:Int}(h:0<=a):a.tmod b=a%b:=Int.tmod_eq_emod_of_nonneg h
def Z0l(c:Conf):GP 149 [c.av] X (bool (Z06 c)) []:=by
 refine Z0j [] [] [] dd func149 (φ:=(Z ((16:Int)<=c.pw)&&Z (c.pw<=(64:Int)))=X->(4:Int)=(0:Int)->False) ?_ kr kr;intro _ ;decide
def Z0x(c:Conf):GP 92 [c.av] X (bool (Z06 c)) []:=by
 refine Z0j [] [] [] dd func92 (φ:=(Z ((16:Int)<=c.pw)&&Z (c.pw<=(64:Int)))=X->(4:Int)=(0:Int)->False) ?_ kr kr;intro _ ;decide
def Z3Z(c:Conf):GP 154 [c.av] X (int (Z0X c)) []:=by
 by_cases h:Z06 c=X
 .have hv:=validB_iff.1 h;have e:Z0X c=c.pg.tdiv 4:=if_pos h;rw[e];refine Z0j [(4,[.call X (bool (Z06 c)) []]),(5,[.br Y]),(8,[.int (c.pg.tdiv 4)])] [] [] dd func154 (φ:=GP 149 [AV.ag [int c.pw,int c.pg]] X (Sx.bool (Z06 c)) []/\(!Z06 c)=Y/\Y=Y/\L.wrap (c.pg.tdiv (4:Int))=c.pg.tdiv (4:Int)/\((4:Int)=(0:Int)->False)) ?_ kr kr;exact⟨Z0l c,by simp[h],rfl,Z14 (by rw[Z40 oq];omega) (by rw[Z40 oq];omega),by decide⟩
 .have e:Z0X c=0:=if_neg h;rw[e];refine Z0j [(4,[.call X (bool (Z06 c)) []]),(5,[.br X])] [] [] dd func154 (φ:=GP 149 [AV.ag [int c.pw,int c.pg]] X (Sx.bool (Z06 c)) []/\(!Z06 c)=X/\X=X) ?_ kr kr;exact⟨Z0l c,by simp[h],rfl⟩
def Z6A(c:Conf):GP 202 [c.av] X (int (Z0X c)) []:=by
 by_cases h:Z06 c=X
 .have hv:=validB_iff.1 h;have e:Z0X c=c.pg.tdiv 4:=if_pos h;rw[e];refine Z0j [(4,[.call X (bool (Z06 c)) []]),(5,[.br Y]),(8,[.int (c.pg.tdiv 4)])] [] [] dd func202 (φ:=GP 92 [AV.ag [int c.pw,int c.pg]] X (Sx.bool (Z06 c)) []/\(!Z06 c)=Y/\Y=Y/\L.wrap (c.pg.tdiv (4:Int))=c.pg.tdiv (4:Int)/\((4:Int)=(0:Int)->False)) ?_ kr kr;exact⟨Z0x c,by simp[h],rfl,Z14 (by rw[Z40 oq];omega) (by rw[Z40 oq];omega),by decide⟩
 .have e:Z0X c=0:=if_neg h;rw[e];refine Z0j [(4,[.call X (bool (Z06 c)) []]),(5,[.br X])] [] [] dd func202 (φ:=GP 92 [AV.ag [int c.pw,int c.pg]] X (Sx.bool (Z06 c)) []/\(!Z06 c)=X/\X=X) ?_ kr kr;exact⟨Z0x c,by simp[h],rfl⟩
def Z35(c:Conf):GP 151 [c.av] X (int (Z00 c)) []:=by
 by_cases h:Z06 c=X
 .have hv:=validB_iff.1 h;have e:Z00 c=c.pw.tdiv 4:=if_pos h;rw[e];refine Z0j [(4,[.call X (bool (Z06 c)) []]),(5,[.br Y]),(8,[.int (c.pw.tdiv 4)])] [] [] dd func151 (φ:=GP 149 [AV.ag [int c.pw,int c.pg]] X (Sx.bool (Z06 c)) []/\(!Z06 c)=Y/\Y=Y/\L.wrap (c.pw.tdiv (4:Int))=c.pw.tdiv (4:Int)/\((4:Int)=(0:Int)->False)) ?_ kr kr;exact⟨Z0l c,by simp[h],rfl,Z14 (by rw[Z40 oq];omega) (by rw[Z40 oq];omega),by decide⟩
 .have e:Z00 c=0:=if_neg h;rw[e];refine Z0j [(4,[.call X (bool (Z06 c)) []]),(5,[.br X])] [] [] dd func151 (φ:=GP 149 [AV.ag [int c.pw,int c.pg]] X (Sx.bool (Z06 c)) []/\(!Z06 c)=X/\X=X) ?_ kr kr;exact⟨Z0l c,by simp[h],rfl⟩
def Z19(c:Conf):GP 93 [c.av] X (int (Z00 c)) []:=by
 by_cases h:Z06 c=X
 .have hv:=validB_iff.1 h;have e:Z00 c=c.pw.tdiv 4:=if_pos h;rw[e];refine Z0j [(4,[.call X (bool (Z06 c)) []]),(5,[.br Y]),(8,[.int (c.pw.tdiv 4)])] [] [] dd func93 (φ:=GP 92 [AV.ag [int c.pw,int c.pg]] X (Sx.bool (Z06 c)) []/\(!Z06 c)=Y/\Y=Y/\L.wrap (c.pw.tdiv (4:Int))=c.pw.tdiv (4:Int)/\((4:Int)=(0:Int)->False)) ?_ kr kr;exact⟨Z0x c,by simp[h],rfl,Z14 (by rw[Z40 oq];omega) (by rw[Z40 oq];omega),by decide⟩
 .have e:Z00 c=0:=if_neg h;rw[e];refine Z0j [(4,[.call X (bool (Z06 c)) []]),(5,[.br X])] [] [] dd func93 (φ:=GP 92 [AV.ag [int c.pw,int c.pg]] X (Sx.bool (Z06 c)) []/\(!Z06 c)=X/\X=X) ?_ kr kr;exact⟨Z0x c,by simp[h],rfl⟩
def need(c:Conf)(n:Int):Int:=if Z06 c=X/\1<=n/\n<=4*c.pw then(if n<=c.pw/4 then 0 else(n+c.pw-1)/c.pw)else -1
def Z2e{c:Conf}(h:Z06 c=X):Z00 c=c.pw/4:=by
 have hv:=validB_iff.1 h;rw[Z00,if_pos h,Z40 oq]
def Z2t(c:Conf)(n:Int):GP 97 [c.av,int n] X (int (need c n)) []:=by
 by_cases h:Z06 c=X/\1<=n/\n<=4*c.pw
 .obtain⟨h,h1,h2⟩:=h;have hv:=validB_iff.1 h;by_cases h3:n<=c.pw/4
  .have e:need c n=0:=by rw[need,if_pos ⟨h,h1,h2⟩,if_pos h3]
   rw[e];refine Z0j [(7,[.call X (bool (Z06 c)) []]),(17,[.int (4*c.pw)]),(19,[.br Y]),(23,[.call X (int (Z00 c)) []]),(24,[.br X])] [] [] dd func97 (φ:=GP 149 [AV.ag [int c.pw,int c.pg]] X (Sx.bool (Z06 c)) []/\((!(!Z06 c||Z (n<(1:Int))))=X->L.wrap ((4:Int)*c.pw)=(4:Int)*c.pw)/\(!Z06 c||Z (n<(1:Int))||Z ((4:Int)*c.pw<n))=Y/\GP 151 [AV.ag [int c.pw,int c.pg]] X (int (Z00 c)) []/\Z (n<=Z00 c)=X) ?_ kr kr;exact⟨Z0l c,λ_=>Z14 oq oq,by simp[h];omega,Z35 c,by rw[Z2e h];simpa using h3⟩
  .have e:need c n=(n+c.pw-1).tdiv c.pw:=by rw[need,if_pos ⟨h,h1,h2⟩,if_neg h3,Z40 oq]
   have hq:(n+c.pw-1)/c.pw<=n+c.pw-1:=Ln _ oq;have hq0:0<=(n+c.pw-1)/c.pw:=Lo oq oq;rw[e];refine Z0j [(7,[.call X (bool (Z06 c)) []]),(17,[.int (4*c.pw)]),(19,[.br Y]),(23,[.call X (int (Z00 c)) []]),(24,[.br Y]),(28,[.int (n+c.pw)]),(29,[.int (n+c.pw-1)]),(32,[.int ((n+c.pw-1).tdiv c.pw)])] [] [] dd func97 (φ:=GP 149 [AV.ag [int c.pw,int c.pg]] X (Sx.bool (Z06 c)) []/\((!(!Z06 c||Z (n<(1:Int))))=X->L.wrap ((4:Int)*c.pw)=(4:Int)*c.pw)/\(!Z06 c||Z (n<(1:Int))||Z ((4:Int)*c.pw<n))=Y/\GP 151 [AV.ag [int c.pw,int c.pg]] X (int (Z00 c)) []/\Z (n<=Z00 c)=Y/\L.wrap (n+c.pw)=n+c.pw/\L.wrap (n+c.pw-(1:Int))=n+c.pw-(1:Int)/\L.wrap ((n+c.pw-(1:Int)).tdiv c.pw)=(n+c.pw-(1:Int)).tdiv c.pw/\(c.pw=(0:Int)->False)) ?_ kr kr;exact⟨Z0l c,λ_=>Z14 oq oq,by simp[h];omega,Z35 c,by rw[Z2e h];simpa using h3,Z14 oq oq,Z14 oq oq,Z14 (by rw[Z40 oq];omega) (by rw[Z40 oq];omega),by omega⟩
 .have e:need c n=-1:=if_neg h;rw[e];refine Z0j [(7,[.call X (bool (Z06 c)) []]),(17,[.int (4*c.pw)]),(19,[.br X])] [] [] dd func97 (φ:=GP 149 [AV.ag [int c.pw,int c.pg]] X (Sx.bool (Z06 c)) []/\((!(!Z06 c||Z (n<(1:Int))))=X->L.wrap ((4:Int)*c.pw)=(4:Int)*c.pw)/\(!Z06 c||Z (n<(1:Int))||Z ((4:Int)*c.pw<n))=X) ?_ kr kr;refine⟨Z0l c,λh'=>?_, ?_⟩
  .simp at h';have hv:=validB_iff.1 h'.1;exact Z14 oq oq
  .simp;cases hv:Z06 c with
   | false=>simp
   | true =>
    simp only[hv,true_and]at h;simp;omega
def Zhm{c:Conf}{n:Int}{k:Nat}(h:Z06 c=X)(h1:1<=n)(h2:c.pw/4<n)(hk:k<=4)(h3:((k:Int)-1)*c.pw<n)(h4:n<=k*c.pw):need c n=k:=by
 have hv:=validB_iff.1 h;have h5:(k:Int)*c.pw<=4*c.pw:=Li oq oq;rw[need,if_pos ⟨h,h1,by omega⟩,if_neg oq];rw[Int.sub_mul]at h3;refine Int.le_antisymm (Int.le_of_lt_add_one (Int.ediv_lt_of_lt_mul oq ?_)) (Int.le_ediv_of_mul_le oq oq);rw[Lu];omega
def ZcQ(c:Conf)(n:Int)(k:Nat):Tg:=⟨tm 28 [(1,int n),(2,.pt 8002 0 0),(4,int 0),(5,int k)],[(8002,.box 24 [int c.pw,int c.pg])],20⟩
def Z9W(c:Conf)(n:Int)(k:Nat)(hw:c.pw<=64)(hw0:0<=c.pw)(hk:k<=4)(hn:k*c.pw<n):CP (rndF f47 0) (ZcQ c n k).st .nrm (ZcQ c n (k+1)).st:=by
 have hm:(k:Int)*c.pw<=4*c.pw:=Li oq oq;have hm0:0<=(k:Int)*c.pw:=Lp oq oq;refine Z1v [(18,[.br X]),(24,[.int (k*c.pw)]),(26,[.br Y]),(20,[.int ((k+1:Nat):Int)])] [] (φ:=Z ((k:Int)<=(4:Int))=X/\X=X/\L.wrap ((k:Int)*c.pw)=(k:Int)*c.pw/\Z (n<=(k:Int)*c.pw)=Y/\Y=Y/\L.wrap ((k:Int)+(1:Int))=(↑(k+(1:Nat)):Int)) ?_ kr kr kr;exact⟨decide_eq_true oq,rfl,Z14 oq oq,decide_eq_false oq,rfl,Z14 oq oq⟩
def Z3V(c:Conf)(n:Int):GP 47 [c.av,int n] X (int (need c n)) []:=by
 by_cases h:Z06 c=X/\1<=n
 .obtain⟨h,h1⟩:=h;have hv:=validB_iff.1 h;by_cases h3:n<=c.pw/4
  .have e:need c n=0:=by rw[need,if_pos ⟨h,h1,by omega⟩,if_pos h3]
   rw[e];refine Z0j [(7,[.call X (bool (Z06 c)) []]),(12,[.br Y]),(15,[.call X (int (Z00 c)) []]),(16,[.br X])] [] [] dd func47 (φ:=GP 92 [AV.ag [int c.pw,int c.pg]] X (Sx.bool (Z06 c)) []/\(!Z06 c||Z (n<(1:Int)))=Y/\Y=Y/\GP 93 [AV.ag [int c.pw,int c.pg]] X (int (Z00 c)) []/\Z (n<=Z00 c)=X/\X=X) ?_ kr kr;exact⟨Z0x c,by simp[h];omega,rfl,Z19 c,by rw[Z2e h];simpa using h3,rfl⟩
  .by_cases h4:n<=4*c.pw
   .-- it is found
    have hk:∃ k:Nat,1<=k/\k<=4/\((k:Int)-1)*c.pw<n/\n<=k*c.pw:=by
     by_cases a1:n<=c.pw
     .exact⟨1,by omega,by omega,by omega,by omega⟩
     by_cases a2:n<=2*c.pw
     .exact⟨2,by omega,by omega,by omega,by omega⟩
     by_cases a3:n<=3*c.pw
     .exact⟨3,by omega,by omega,by omega,by omega⟩
     .exact⟨4,by omega,by omega,by omega,by omega⟩
    obtain⟨k,k1,k4,klo,khi⟩:=hk;rw[Zhm h h1 oq k4 klo khi];refine Z0j [(7,[.call X (bool (Z06 c)) []]),(12,[.br Y]),(15,[.call X (int (Z00 c)) []]),(16,[.br Y])] [(0,ZcQ c n 1,.ret,⟨tm 28 [(4,int k)],[],30⟩)] [] dd func47 (φ:=GP 92 [AV.ag [int c.pw,int c.pg]] X (Sx.bool (Z06 c)) []/\(!Z06 c||Z (n<(1:Int)))=Y/\Y=Y/\GP 93 [AV.ag [int c.pw,int c.pg]] X (int (Z00 c)) []/\Z (n<=Z00 c)=Y/\Y=Y/\CP (blkF f47 (0:Nat)) (ZcQ c n (1:Nat)).st Ex.ret (Tg.mk (tm (28:Nat) [((4:Nat),int (k:Int))]) [] (30:Nat)).st) ?_ kr kr;refine⟨Z0x c,by simp[h];omega,rfl,Z19 c,by rw[Z2e h];simpa using h3,rfl, ?_⟩;obtain⟨j,rfl⟩:∃ j,k=j+1:=⟨k-1,by omega⟩
    refine Z0v (S:=λi=>(ZcQ c n (i+1)).st) j kr (λi hi=>Z9W c n (i+1) oq oq oq ?_) ?_
    .have:((i+1:Nat):Int)*c.pw<=((j+1:Nat)-1:Int)*c.pw:=Li oq oq;omega
    .have hm:((j+1:Nat):Int)*c.pw<=4*c.pw:=Li oq oq;have hm0:0<=((j+1:Nat):Int)*c.pw:=Lp oq oq;refine Z1v [(18,[.br X]),(24,[.int ((j+1:Nat)*c.pw)]),(26,[.br X])] [] (φ:=Z ((↑(j+(1:Nat)):Int)<=(4:Int))=X/\X=X/\L.wrap ((↑(j+(1:Nat)):Int)*c.pw)=(↑(j+(1:Nat)):Int)*c.pw/\Z (n<=(↑(j+(1:Nat)):Int)*c.pw)=X/\X=X) ?_ kr kr kr;exact⟨decide_eq_true oq,rfl,Z14 oq oq,decide_eq_true oq,rfl⟩
   .have e:need c n=-1:=by rw[need,if_neg oq]
    rw[e];refine Z0j [(7,[.call X (bool (Z06 c)) []]),(12,[.br Y]),(15,[.call X (int (Z00 c)) []]),(16,[.br Y])] [(0,ZcQ c n 1,.nrm,⟨tm 28 [],[],30⟩)] [] dd func47 (φ:=GP 92 [AV.ag [int c.pw,int c.pg]] X (Sx.bool (Z06 c)) []/\(!Z06 c||Z (n<(1:Int)))=Y/\Y=Y/\GP 93 [AV.ag [int c.pw,int c.pg]] X (int (Z00 c)) []/\Z (n<=Z00 c)=Y/\Y=Y/\CP (blkF f47 (0:Nat)) (ZcQ c n (1:Nat)).st Ex.nrm (Tg.mk (tm (28:Nat) []) [] (30:Nat)).st) ?_ kr kr;refine⟨Z0x c,by simp[h];omega,rfl,Z19 c,by rw[Z2e h];simpa using h3,rfl, ?_⟩;refine Z08 (S:=λi=>(ZcQ c n (i+1)).st) 4 kr (λi hi=>Z9W c n (i+1) oq oq oq ?_) ?_
    .have:((i+1:Nat):Int)*c.pw<=4*c.pw:=Li oq oq;omega
    .refine Z1v [(18,[.br Y])] [] (φ:=Z ((↑((4:Nat)+(1:Nat)):Int)<=(4:Int))=Y/\Y=Y) ?_ kr kr kr;exact⟨rfl,rfl⟩
 .have e:need c n=-1:=if_neg λh'=>h ⟨h'.1,h'.2.1⟩;rw[e];refine Z0j [(7,[.call X (bool (Z06 c)) []]),(12,[.br X])] [] [] dd func47 (φ:=GP 92 [AV.ag [int c.pw,int c.pg]] X (Sx.bool (Z06 c)) []/\(!Z06 c||Z (n<(1:Int)))=X/\X=X) ?_ kr kr;refine⟨Z0x c, ?_,rfl⟩;cases hv:Z06 c with
  | false=>simp
  | true =>
   simp only[hv,true_and]at h;simp;omega
def Z8X{n:Int}(h1:0<=n)(h2:n<=18446744073709551615):Ld.wrap n=n:=IntWalk.u64_in n ⟨h1,h2⟩
def area{c:Conf}(h:Z06 c=X):128<=c.pw*c.pg/\c.pw*c.pg<=4096:=by
 have hv:=validB_iff.1 h;have h1:16*c.pg<=c.pw*c.pg:=Li oq oq;have h2:c.pw*c.pg<=64*c.pg:=Li oq oq;omega
def ZfU{c:Conf}{p o:Int}(h:Z06 c=X)(h1:0<=p)(h2:p<c.pg)(_:0<=o)(h4:o<c.pw):0<=p*c.pw/\p*c.pw+o<c.pw*c.pg:=by
 have hv:=validB_iff.1 h;have h5:(p+1)*c.pw<=c.pg*c.pw:=Li oq oq;have h6:0<=p*c.pw:=Lp oq oq;rw[Lu,Lk c.pg]at h5;omega
def inB(c:Conf)(p o:Int):Bool:=Z (0<=p)&&Z (p<c.pg)&&Z (0<=o)&&Z (o<c.pw)
def inB_iff{c:Conf}{p o:Int}:inB c p o=X↔0<=p/\p<c.pg/\0<=o/\o<c.pw:=by simp[inB,and_assoc]
def address(c:Conf)(p o:Int):Int×Int:=if Z06 c=X then(if inB c p o=X then(4096+(p*c.pw+o),0)else(0,2))else(0,1)
def Z0S(c:Conf)(p o:Int):AV:=.tu [u64 (address c p o).1,int (address c p o).2]
def Z4e(c:Conf)(p o:Int):GP 212 [c.av,int p,int o] X (Z0S c p o) []:=by
 by_cases h:Z06 c=X
 .have ha:=area h;by_cases h1:inB c p o=X
  .obtain⟨p1,p2,o1,o2⟩:=inB_iff.1 h1;have hi:=ZfU h p1 p2 o1 o2;have e:Z0S c p o = .tu [u64 (4096+(p*c.pw+o)),int 0]:=by rw[Z0S,address,if_pos h,if_pos h1]
   rw[e];refine Z0j [(10,[.call X (bool (Z06 c)) []]),(11,[.br Y]),(30,[.br Y]),(34,[.int (p*c.pw)]),(36,[.int (p*c.pw+o)]),(37,[.int (p*c.pw+o)]),(38,[.int (4096+(p*c.pw+o))])] [] [] dd func212 (φ:=GP 149 [AV.ag [int c.pw,int c.pg]] X (Sx.bool (Z06 c)) []/\(!Z06 c)=Y/\(Z (p<(0:Int))||Z (c.pg<=p)||Z (o<(0:Int))||Z (c.pw<=o))=Y/\L.wrap (p*c.pw)=p*c.pw/\L.wrap (p*c.pw+o)=p*c.pw+o/\Ld.wrap (p*c.pw+o)=p*c.pw+o/\Ld.wrap ((4096:Int)+(p*c.pw+o))=(4096:Int)+(p*c.pw+o)) ?_ kr kr;exact⟨Z0l c,by simp[h],by simp;omega,Z14 oq oq,Z14 oq oq,Z8X oq oq,Z8X oq oq⟩
  .have e:Z0S c p o = .tu [u64 0,int 2]:=by rw[Z0S,address,if_pos h,if_neg h1]
   rw[e];refine Z0j [(10,[.call X (bool (Z06 c)) []]),(11,[.br Y]),(30,[.br X])] [] [] dd func212 (φ:=GP 149 [AV.ag [int c.pw,int c.pg]] X (Sx.bool (Z06 c)) []/\(!Z06 c)=Y/\(Z (p<(0:Int))||Z (c.pg<=p)||Z (o<(0:Int))||Z (c.pw<=o))=X) ?_ kr kr;refine⟨Z0l c,by simp[h], ?_⟩;rw[inB_iff]at h1;simp;omega
 .have e:Z0S c p o = .tu [u64 0,int 1]:=by rw[Z0S,address,if_neg h]
  rw[e];refine Z0j [(10,[.call X (bool (Z06 c)) []]),(11,[.br X])] [] [] dd func212 (φ:=GP 149 [AV.ag [int c.pw,int c.pg]] X (Sx.bool (Z06 c)) []/\(!Z06 c)=X) ?_ kr kr;exact⟨Z0l c,by simp[h]⟩
def Z5h(c:Conf)(p o:Int):GP 194 [c.av,int p,int o] X (Z0S c p o) []:=by
 by_cases h:Z06 c=X
 .have ha:=area h;by_cases h1:inB c p o=X
  .obtain⟨p1,p2,o1,o2⟩:=inB_iff.1 h1;have hi:=ZfU h p1 p2 o1 o2;have e:Z0S c p o = .tu [u64 (4096+p*c.pw+o),int 0]:=by rw[Z0S,address,if_pos h,if_pos h1,Int.add_assoc]
   rw[e];refine Z0j [(9,[.call X (bool (Z06 c)) []]),(10,[.br Y]),(28,[.br Y]),(32,[.int (p*c.pw)]),(33,[.int (4096+p*c.pw)]),(35,[.int (4096+p*c.pw+o)]),(36,[.int (4096+p*c.pw+o)])] [] [] dd func194 (φ:=GP 92 [AV.ag [int c.pw,int c.pg]] X (Sx.bool (Z06 c)) []/\(!Z06 c)=Y/\Y=Y/\(Z (p<(0:Int))||Z (c.pg<=p)||Z (o<(0:Int))||Z (c.pw<=o))=Y/\Y=Y/\L.wrap (p*c.pw)=p*c.pw/\L.wrap ((4096:Int)+p*c.pw)=(4096:Int)+p*c.pw/\L.wrap ((4096:Int)+p*c.pw+o)=(4096:Int)+p*c.pw+o/\Ld.wrap ((4096:Int)+p*c.pw+o)=(4096:Int)+p*c.pw+o) ?_ kr kr;exact⟨Z0x c,by simp[h],rfl,by simp;omega,rfl,Z14 oq oq,Z14 oq oq,Z14 oq oq,Z8X oq oq⟩
  .have e:Z0S c p o = .tu [u64 0,int 2]:=by rw[Z0S,address,if_pos h,if_neg h1]
   rw[e];refine Z0j [(9,[.call X (bool (Z06 c)) []]),(10,[.br Y]),(28,[.br X])] [] [] dd func194 (φ:=GP 92 [AV.ag [int c.pw,int c.pg]] X (Sx.bool (Z06 c)) []/\(!Z06 c)=Y/\Y=Y/\(Z (p<(0:Int))||Z (c.pg<=p)||Z (o<(0:Int))||Z (c.pw<=o))=X/\X=X) ?_ kr kr;refine⟨Z0x c,by simp[h],rfl, ?_,rfl⟩;rw[inB_iff]at h1;simp;omega
 .have e:Z0S c p o = .tu [u64 0,int 1]:=by rw[Z0S,address,if_neg h]
  rw[e];refine Z0j [(9,[.call X (bool (Z06 c)) []]),(10,[.br X])] [] [] dd func194 (φ:=GP 92 [AV.ag [int c.pw,int c.pg]] X (Sx.bool (Z06 c)) []/\(!Z06 c)=X/\X=X) ?_ kr kr;exact⟨Z0x c,by simp[h],rfl⟩
def ofA(c:Conf)(a:Int):Int×Int×Int:=if Z06 c=X then(if 4096<=a/\a<4096+c.pw*c.pg then((a-4096)/c.pw,(a-4096)%c.pw,0)else(0,0,2))else(0,0,1)
def ofV(c:Conf)(a:Int):AV:=.tu [int (ofA c a).1,int (ofA c a).2.1,int (ofA c a).2.2]
def Z3B(c:Conf)(a:Int)(a0:0<=a)(a1:a<=18446744073709551615):GP 96 [c.av,u64 a] X (ofV c a) []:=by
 by_cases h:Z06 c=X
 .have ha:=area h;have hv:=validB_iff.1 h;by_cases h1:4096<=a/\a<4096+c.pw*c.pg
  .have d1:0<=(a-4096)/c.pw:=Lo oq oq;have d2:(a-4096)/c.pw<=a-4096:=Ln _ oq;have e:ofV c a = .tu [int ((a-4096).tdiv c.pw),int ((a-4096).tmod c.pw),int 0]:=by rw[ofV,ofA,if_pos h,if_pos h1,Z40 oq,ZoO oq]
   rw[e];refine Z0j [(10,[.call X (bool (Z06 c)) []]),(11,[.br Y]),(17,[.int (a-4096)]),(22,[.int (c.pw*c.pg)]),(23,[.int (c.pw*c.pg)]),(25,[.br Y]),(27,[.int (a-4096)]),(28,[.int (a-4096)]),(32,[.int ((a-4096).tdiv c.pw)])] [] [] dd func96 (φ:=GP 149 [AV.ag [int c.pw,int c.pg]] X (Sx.bool (Z06 c)) []/\(!Z06 c)=Y/\((!decide (a<(4096:Int)))=X->Ld.wrap (a-(4096:Int))=a-(4096:Int))/\((!decide (a<(4096:Int)))=X->L.wrap (c.pw*c.pg)=c.pw*c.pg)/\((!decide (a<(4096:Int)))=X->Ld.wrap (c.pw*c.pg)=c.pw*c.pg)/\(Z (a<(4096:Int))||Z (c.pw*c.pg<=a-(4096:Int)))=Y/\Ld.wrap (a-(4096:Int))=a-(4096:Int)/\L.wrap (a-(4096:Int))=a-(4096:Int)/\L.wrap ((a-(4096:Int)).tdiv c.pw)=(a-(4096:Int)).tdiv c.pw/\(c.pw=(0:Int)->False)/\(c.pw=(0:Int)->False)) ?_ kr kr;exact⟨Z0l c,by simp[h],λ_=>Z8X oq oq,λ_=>Z14 oq oq,λ_=>Z8X oq oq,by simp;omega,Z8X oq oq,Z14 oq oq,Z14 (by rw[Z40 oq];omega) (by rw[Z40 oq];omega),by omega,by omega⟩
  .have e:ofV c a = .tu [int 0,int 0,int 2]:=by rw[ofV,ofA,if_pos h,if_neg h1]
   rw[e];refine Z0j [(10,[.call X (bool (Z06 c)) []]),(11,[.br Y]),(17,[.int (a-4096)]),(22,[.int (c.pw*c.pg)]),(23,[.int (c.pw*c.pg)]),(25,[.br X])] [] [] dd func96 (φ:=GP 149 [AV.ag [int c.pw,int c.pg]] X (Sx.bool (Z06 c)) []/\(!Z06 c)=Y/\((!decide (a<(4096:Int)))=X->Ld.wrap (a-(4096:Int))=a-(4096:Int))/\((!decide (a<(4096:Int)))=X->L.wrap (c.pw*c.pg)=c.pw*c.pg)/\((!decide (a<(4096:Int)))=X->Ld.wrap (c.pw*c.pg)=c.pw*c.pg)/\(Z (a<(4096:Int))||Z (c.pw*c.pg<=a-(4096:Int)))=X) ?_ kr kr;refine⟨Z0l c,by simp[h],λh'=>Z8X (by simp at h';omega) oq,λ_=>Z14 oq oq,λ_=>Z8X oq oq,by simp;omega⟩
 .have e:ofV c a = .tu [int 0,int 0,int 1]:=by rw[ofV,ofA,if_neg h]
  rw[e];refine Z0j [(10,[.call X (bool (Z06 c)) []]),(11,[.br X])] [] [] dd func96 (φ:=GP 149 [AV.ag [int c.pw,int c.pg]] X (Sx.bool (Z06 c)) []/\(!Z06 c)=X) ?_ kr kr;exact⟨Z0l c,by simp[h]⟩
def Z4j(c:Conf)(a:Int)(a0:0<=a)(a1:a<=18446744073709551615):GP 44 [c.av,u64 a] X (ofV c a) []:=by
 by_cases h:Z06 c=X
 .have ha:=area h;rw[Lk]at ha;have hv:=validB_iff.1 h;by_cases h1:4096<=a/\a<4096+c.pg*c.pw
  .have d1:0<=(a-4096)/c.pw:=Lo oq oq;have d2:(a-4096)/c.pw<=a-4096:=Ln _ oq;have e:ofV c a = .tu [int ((a-4096).tdiv c.pw),int ((a-4096).tmod c.pw),int 0]:=by rw[ofV,ofA,if_pos h,if_pos (by rw[Lk c.pw];exact h1),Z40 oq,ZoO oq]
   rw[e];refine Z0j [(9,[.call X (bool (Z06 c)) []]),(10,[.br Y]),(19,[.int (c.pg*c.pw)]),(20,[.int (4096+c.pg*c.pw)]),(21,[.int (4096+c.pg*c.pw)]),(23,[.br Y]),(25,[.int (a-4096)]),(26,[.int (a-4096)]),(30,[.int ((a-4096).tdiv c.pw)])] [] [] dd func44 (φ:=GP 92 [AV.ag [int c.pw,int c.pg]] X (Sx.bool (Z06 c)) []/\(!Z06 c)=Y/\Y=Y/\((!decide (a<(4096:Int)))=X->L.wrap (c.pg*c.pw)=c.pg*c.pw)/\((!decide (a<(4096:Int)))=X->L.wrap ((4096:Int)+c.pg*c.pw)=(4096:Int)+c.pg*c.pw)/\((!decide (a<(4096:Int)))=X->Ld.wrap ((4096:Int)+c.pg*c.pw)=(4096:Int)+c.pg*c.pw)/\(Z (a<(4096:Int))||Z ((4096:Int)+c.pg*c.pw<=a))=Y/\Y=Y/\Ld.wrap (a-(4096:Int))=a-(4096:Int)/\L.wrap (a-(4096:Int))=a-(4096:Int)/\L.wrap ((a-(4096:Int)).tdiv c.pw)=(a-(4096:Int)).tdiv c.pw/\(c.pw=(0:Int)->False)/\(c.pw=(0:Int)->False)) ?_ kr kr;exact⟨Z0x c,by simp[h],rfl,λ_=>Z14 oq oq,λ_=>Z14 oq oq,λ_=>Z8X oq oq,by simp;omega,rfl,Z8X oq oq,Z14 oq oq,Z14 (by rw[Z40 oq];omega) (by rw[Z40 oq];omega),by omega,by omega⟩
  .have e:ofV c a = .tu [int 0,int 0,int 2]:=by rw[ofV,ofA,if_pos h,if_neg (by rw[Lk c.pw];exact h1)]
   rw[e];refine Z0j [(9,[.call X (bool (Z06 c)) []]),(10,[.br Y]),(19,[.int (c.pg*c.pw)]),(20,[.int (4096+c.pg*c.pw)]),(21,[.int (4096+c.pg*c.pw)]),(23,[.br X])] [] [] dd func44 (φ:=GP 92 [AV.ag [int c.pw,int c.pg]] X (Sx.bool (Z06 c)) []/\(!Z06 c)=Y/\Y=Y/\((!decide (a<(4096:Int)))=X->L.wrap (c.pg*c.pw)=c.pg*c.pw)/\((!decide (a<(4096:Int)))=X->L.wrap ((4096:Int)+c.pg*c.pw)=(4096:Int)+c.pg*c.pw)/\((!decide (a<(4096:Int)))=X->Ld.wrap ((4096:Int)+c.pg*c.pw)=(4096:Int)+c.pg*c.pw)/\(Z (a<(4096:Int))||Z ((4096:Int)+c.pg*c.pw<=a))=X/\X=X) ?_ kr kr;refine⟨Z0x c,by simp[h],rfl,λ_=>Z14 oq oq,λ_=>Z14 oq oq,λ_=>Z8X oq oq,by simp;omega,rfl⟩
 .have e:ofV c a = .tu [int 0,int 0,int 1]:=by rw[ofV,ofA,if_neg h]
  rw[e];refine Z0j [(9,[.call X (bool (Z06 c)) []]),(10,[.br X])] [] [] dd func44 (φ:=GP 92 [AV.ag [int c.pw,int c.pg]] X (Sx.bool (Z06 c)) []/\(!Z06 c)=X/\X=X) ?_ kr kr;exact⟨Z0x c,by simp[h],rfl⟩
structure Page where
 K:Int
 S:Int
 U:Int
 N:Int
 deriving DecidableEq,Inhabited
def Page.dv(p:Page):List DV:=[dint p.K,dint p.S,dint p.U,dint p.N]
def Page.av(p:Page):AV:=.ag [int p.K,int p.S,int p.U,int p.N]
def Z0y(l:List Page):AV:=.d (.sl 4 (l.map Page.dv))
def Z56(p:Page):Bool:=Z (p=⟨0,0,0,0⟩)
def Z2S(p:Page):Bool:=(p.S==0)||(p.S==1)
def Z3w(p:Page):Bool:=Z (0<=p.N)&&Z (p.N<=2147483647)
def Z5f(p:Page)(c:Conf):Bool:=Z2S p&&Z3w p&&Z (0<=p.U)&&Z (p.U<=c.pw)
def Z2p(p:Page)(c:Conf):Bool:=Z2S p&&Z3w p&&Z (1<=need c p.U)
def Z5x(p q:Page):Bool:=Z (p=⟨3,q.S,0,0⟩)
def Z9h(p:Page):GP 222 [p.av] X (bool (Z2S p)) []:=by
 refine Z0j [] [] [] dd func222 (φ:=True) ?_ kr kr;trivial
def Z8Q(p:Page):GP 223 [p.av] X (bool (Z3w p)) []:=by
 refine Z0j [] [] [] dd func223 (φ:=True) ?_ kr kr;trivial
def entryFree(p:Page)(c:Conf):GP 195 [p.av,c.av] X (bool (Z56 p)) []:=by
 refine Z0j [(7,[.br (Z56 p)])] [] [] dd func195 (φ:=(p.K==(0:Int)&&(p.S==(0:Int)&&(p.U==(0:Int)&&p.N==(0:Int))))=Z56 p) ?_ kr kr;rw[Lt];cases p;simp[Z56]
def Zad(p:Page)(c:Conf):GP 196 [p.av,c.av] X (bool (Z5f p c)) []:=by
 refine Z0j [(6,[.call X (bool (Z2S p)) []]),(9,[.call X (bool (Z3w p)) []])] [] [] dd func196 (φ:=GP 222 [AV.ag [int p.K,int p.S,int p.U,int p.N]] X (Sx.bool (Z2S p)) []/\(Z2S p=X->GP 223 [AV.ag [int p.K,int p.S,int p.U,int p.N]] X (Sx.bool (Z3w p)) [])) ?_ kr kr;exact⟨Z9h p,λ_=>Z8Q p⟩
def Z5v(p:Page)(c:Conf):GP 197 [p.av,c.av] X (bool (Z2p p c)) []:=by
 refine Z0j [(6,[.call X (bool (Z2S p)) []]),(9,[.call X (bool (Z3w p)) []]),(15,[.call X (int (need c p.U)) []])] [] [] dd func197 (φ:=GP 222 [AV.ag [int p.K,int p.S,int p.U,int p.N]] X (Sx.bool (Z2S p)) []/\(Z2S p=X->GP 223 [AV.ag [int p.K,int p.S,int p.U,int p.N]] X (Sx.bool (Z3w p)) [])/\((Z2S p&&Z3w p)=X->GP 97 [AV.ag [int c.pw,int c.pg],int p.U] X (int (need c p.U)) [])) ?_ kr kr;exact⟨Z9h p,λ_=>Z8Q p,λ_=>Z2t c p.U⟩
def Zc9(p q:Page):GP 198 [p.av,q.av] X (bool (Z5x p q)) []:=by
 refine Z0j [(9,[.br (Z5x p q)])] [] [] dd func198 (φ:=(p.K==(3:Int)&&(p.S==q.S&&(p.U==(0:Int)&&p.N==(0:Int))))=Z5x p q) ?_ kr kr;rw[Lt];cases p;simp[Z5x]
def Z5A(p:Page)(l:List Page):Bool:=l.all λq=>Z5x q p
def Z1n(c:Conf)(l:List Page)(i:Nat):Nat:=match l[i]? with
 | none=>0
 | some p =>
  if p.K=0 then(if Z56 p=X then 1 else 0)
  else if p.K=1 then(if Z5f p c=X then 1 else 0)
  else if p.K=2 then(if Z2p p c=X then(if(need c p.U).toNat<=l.length-i/\Z5A p ((l.drop (i+1)).take ((need c p.U).toNat-1))=X then(need c p.U).toNat else 0)else 0)
  else 0
def Z1k{l:List Page}{i:Nat}{p:Page}(h:l[i]? = O p):(l.map Page.dv)[((i:Nat):Int).toNat]? = O p.dv:=by simp[h]
def Zdp(c:Conf)(l:List Page)(i:Nat)(p:Page)(hp:l[i]? = O p)(hk:p.K<0\/3<=p.K):GP 150 [c.av,Z0y l,int i] X (int (Z1n c l i)) []:=by
 have e:Z1n c l i=0:=by
  rw[Z1n,hp];simp only;rw[if_neg oq,if_neg oq,if_neg oq]
 rw[e];refine Z0j [(15,[.el p.dv]),(28,[.int 0]),(32,[.call X (bool (Z56 p)) []]),(34,[.br X])] [] [] dd func150 (φ:=((0:Int)<=(i:Int)/\(M Page.dv l)[(i:Int).toNat]? = O p.dv)/\((!(Z (p.K<(0:Int))||Z ((3:Int)<=p.K)))=X->p.K=(0:Int))/\((!(Z (p.K<(0:Int))||Z ((3:Int)<=p.K)))=X->GP 195 [AV.ag [int p.K,int p.S,int p.U,int p.N],AV.ag [int c.pw,int c.pg]] X (Sx.bool (Z56 p)) [])/\(Z (p.K<(0:Int))||Z ((3:Int)<=p.K)||!Z56 p)=X/\X=X) ?_ kr kr;exact⟨⟨by omega,Z1k hp⟩,λh=>by simp at h;omega,λ_=>entryFree p c,by simp;omega,rfl⟩
def Zb7(c:Conf)(l:List Page)(i:Nat)(sp us pi:Int)(hp:l[i]? = O ⟨0,sp,us,pi⟩):GP 150 [c.av,Z0y l,int i] X (int (Z1n c l i)) []:=by
 cases hf:Z56 ⟨0,sp,us,pi⟩with
 | true =>
  have e:Z1n c l i=1:=by
   rw[Z1n,hp];simp[hf]
  rw[e];refine Z0j [(15,[.el (Page.dv ⟨0,sp,us,pi⟩)]),(32,[.call X (bool (Z56 ⟨0,sp,us,pi⟩)) []]),(34,[.br Y])] [] [] dd func150 (φ:=((0:Int)<=(i:Int)/\(M Page.dv l)[(i:Int).toNat]? = O (Page.mk (0:Int) sp us pi).dv)/\((!(Z ((Page.mk (0:Int) sp us pi).K<(0:Int))||Z ((3:Int)<=(Page.mk (0:Int) sp us pi).K)))=X->GP 195 [AV.ag [int (Page.mk (0:Int) sp us pi).K,int (Page.mk (0:Int) sp us pi).S,int (Page.mk (0:Int) sp us pi).U,int (Page.mk (0:Int) sp us pi).N],AV.ag [int c.pw,int c.pg]] X (Sx.bool (Z56 (Page.mk (0:Int) sp us pi))) [])/\(Z ((Page.mk (0:Int) sp us pi).K<(0:Int))||Z ((3:Int)<=(Page.mk (0:Int) sp us pi).K)||!Z56 (Page.mk (0:Int) sp us pi))=Y/\Y=Y) ?_ kr kr;exact⟨⟨by omega,Z1k hp⟩,λ_=>entryFree _ c,by simp[hf],rfl⟩
 | false =>
  have e:Z1n c l i=0:=by
   rw[Z1n,hp];simp[hf]
  rw[e];refine Z0j [(15,[.el (Page.dv ⟨0,sp,us,pi⟩)]),(32,[.call X (bool (Z56 ⟨0,sp,us,pi⟩)) []]),(34,[.br X])] [] [] dd func150 (φ:=((0:Int)<=(i:Int)/\(M Page.dv l)[(i:Int).toNat]? = O (Page.mk (0:Int) sp us pi).dv)/\((!(Z ((Page.mk (0:Int) sp us pi).K<(0:Int))||Z ((3:Int)<=(Page.mk (0:Int) sp us pi).K)))=X->GP 195 [AV.ag [int (Page.mk (0:Int) sp us pi).K,int (Page.mk (0:Int) sp us pi).S,int (Page.mk (0:Int) sp us pi).U,int (Page.mk (0:Int) sp us pi).N],AV.ag [int c.pw,int c.pg]] X (Sx.bool (Z56 (Page.mk (0:Int) sp us pi))) [])/\(Z ((Page.mk (0:Int) sp us pi).K<(0:Int))||Z ((3:Int)<=(Page.mk (0:Int) sp us pi).K)||!Z56 (Page.mk (0:Int) sp us pi))=X/\X=X) ?_ kr kr;exact⟨⟨by omega,Z1k hp⟩,λ_=>entryFree _ c,by simp[hf],rfl⟩
def Z9N(c:Conf)(l:List Page)(i:Nat)(sp us pi:Int)(hp:l[i]? = O ⟨1,sp,us,pi⟩):GP 150 [c.av,Z0y l,int i] X (int (Z1n c l i)) []:=by
 cases hf:Z5f ⟨1,sp,us,pi⟩ c with
 | true =>
  have e:Z1n c l i=1:=by
   rw[Z1n,hp];simp[hf]
  rw[e];refine Z0j [(15,[.el (Page.dv ⟨1,sp,us,pi⟩)]),(32,[.call X (bool (Z5f ⟨1,sp,us,pi⟩ c)) []]),(34,[.br Y])] [] [] dd func150 (φ:=((0:Int)<=(i:Int)/\(M Page.dv l)[(i:Int).toNat]? = O (Page.mk (1:Int) sp us pi).dv)/\((!(Z ((Page.mk (1:Int) sp us pi).K<(0:Int))||Z ((3:Int)<=(Page.mk (1:Int) sp us pi).K)))=X->GP 196 [AV.ag [int (Page.mk (1:Int) sp us pi).K,int (Page.mk (1:Int) sp us pi).S,int (Page.mk (1:Int) sp us pi).U,int (Page.mk (1:Int) sp us pi).N],AV.ag [int c.pw,int c.pg]] X (Sx.bool (Z5f (Page.mk (1:Int) sp us pi) c)) [])/\(Z ((Page.mk (1:Int) sp us pi).K<(0:Int))||Z ((3:Int)<=(Page.mk (1:Int) sp us pi).K)||!Z5f (Page.mk (1:Int) sp us pi) c)=Y/\Y=Y) ?_ kr kr;exact⟨⟨by omega,Z1k hp⟩,λ_=>Zad _ c,by simp[hf],rfl⟩
 | false =>
  have e:Z1n c l i=0:=by
   rw[Z1n,hp];simp[hf]
  rw[e];refine Z0j [(15,[.el (Page.dv ⟨1,sp,us,pi⟩)]),(32,[.call X (bool (Z5f ⟨1,sp,us,pi⟩ c)) []]),(34,[.br X])] [] [] dd func150 (φ:=((0:Int)<=(i:Int)/\(M Page.dv l)[(i:Int).toNat]? = O (Page.mk (1:Int) sp us pi).dv)/\((!(Z ((Page.mk (1:Int) sp us pi).K<(0:Int))||Z ((3:Int)<=(Page.mk (1:Int) sp us pi).K)))=X->GP 196 [AV.ag [int (Page.mk (1:Int) sp us pi).K,int (Page.mk (1:Int) sp us pi).S,int (Page.mk (1:Int) sp us pi).U,int (Page.mk (1:Int) sp us pi).N],AV.ag [int c.pw,int c.pg]] X (Sx.bool (Z5f (Page.mk (1:Int) sp us pi) c)) [])/\(Z ((Page.mk (1:Int) sp us pi).K<(0:Int))||Z ((3:Int)<=(Page.mk (1:Int) sp us pi).K)||!Z5f (Page.mk (1:Int) sp us pi) c)=X/\X=X) ?_ kr kr;exact⟨⟨by omega,Z1k hp⟩,λ_=>Zad _ c,by simp[hf],rfl⟩
def Z9x(p:Page)(s:List Page)(k:Nat)(j:Nat):Tg:=⟨tm 66 [(6,int 0),(8,.pt 24008 0 0),(9,int k),(54,Z0y s),(55,int s.length),(56,int j)],[(24008,.box 243 [int p.K,int p.S,int p.U,int p.N])],40⟩
def Z51{α:Type}{f:α->Bool}:∀ {l:List α},l.all f=Y->∃ (j:Nat) (x:α),l[j]? = O x/\f x=Y/\∀ i:Nat,i<j->∃ y:α,l[i]? = O y/\f y=X
 | [],h=>by simp at h
 | a::l,h=>by
  cases ha:f a with
  | false=>exact⟨0,a,rfl,ha,λi hi=>by omega⟩
  | true =>
   have:l.all f=Y:=by simpa[ha]using h
   obtain⟨j,x,h1,h2,h3⟩:=Z51 this;refine⟨j+1,x,by simpa using h1,h2,λi hi=>?_⟩;cases i with
   | zero=>exact⟨a,rfl,ha⟩
   | succ i =>
    obtain⟨y,h4,h5⟩:=h3 i oq;exact⟨y,by simpa using h4,h5⟩
def Zdw(p:Page)(s:List Page)(k j:Nat)(q:Page)(hs:s.length<=281474976710656)(hq:s[j]? = O q)(ht:Z5x q p=X):CP (rndF f150 0) (Z9x p s k j).st .nrm (Z9x p s k (j+1)).st:=by
 have hj:j<s.length:=(Lq.1 hq).1;refine Z1v [(57,[.br X]),(58,[.el q.dv]),(62,[.call X (bool (Z5x q p)) []]),(63,[.br Y]),(64,[.int ((j+1:Nat):Int)])] [] (φ:=Z ((j:Int)<(s.length:Int))=X/\X=X/\((0:Int)<=(j:Int)/\(M Page.dv s)[(j:Int).toNat]? = O q.dv)/\GP 198 [AV.ag [int q.K,int q.S,int q.U,int q.N],AV.ag [int p.K,int p.S,int p.U,int p.N]] X (Sx.bool (Z5x q p)) []/\(!Z5x q p)=Y/\Y=Y/\L.wrap ((j:Int)+(1:Int))=(↑(j+(1:Nat)):Int)) ?_ kr kr kr;exact⟨decide_eq_true oq,rfl,⟨by omega,Z1k hq⟩,Zc9 q p,by simp[ht],rfl,Z14 oq oq⟩
def Zbp(p:Page)(s:List Page)(k j:Nat)(q:Page)(hq:s[j]? = O q)(ht:Z5x q p=Y):CP (rndF f150 0) (Z9x p s k j).st .ret (Tg.st ⟨tm 66 [(6,int 0)],[],60⟩):=by
 have hj:j<s.length:=(Lq.1 hq).1;refine Z1v [(57,[.br X]),(58,[.el q.dv]),(62,[.call X (bool (Z5x q p)) []]),(63,[.br X])] [] (φ:=Z ((j:Int)<(s.length:Int))=X/\X=X/\((0:Int)<=(j:Int)/\(M Page.dv s)[(j:Int).toNat]? = O q.dv)/\GP 198 [AV.ag [int q.K,int q.S,int q.U,int q.N],AV.ag [int p.K,int p.S,int p.U,int p.N]] X (Sx.bool (Z5x q p)) []/\(!Z5x q p)=X/\X=X) ?_ kr kr kr;exact⟨decide_eq_true oq,rfl,⟨by omega,Z1k hq⟩,Zc9 q p,by simp[ht],rfl⟩
def ZaM(p:Page)(s:List Page)(k:Nat):CP (rndF f150 0) (Z9x p s k s.length).st (.ext 0) (Tg.st ⟨tm 66 [(9,int k)],[],60⟩):=by
 refine Z1v [(57,[.br Y])] [] (φ:=Z ((s.length:Int)<(s.length:Int))=Y/\Y=Y) ?_ kr kr kr;exact⟨decide_eq_false oq,rfl⟩
def Z9P(c:Conf)(l:List Page)(hl:l.length<=281474976710656)(i:Nat)(sp us pi:Int)(hp:l[i]? = O ⟨2,sp,us,pi⟩):GP 150 [c.av,Z0y l,int i] X (int (Z1n c l i)) []:=by
 have hi:i<l.length:=(Lq.1 hp).1;cases hf:Z2p ⟨2,sp,us,pi⟩ c with
 | false =>
  have e:Z1n c l i=0:=by
   rw[Z1n,hp];simp[hf]
  rw[e];refine Z0j [(15,[.el (Page.dv ⟨2,sp,us,pi⟩)]),(32,[.call X (bool (Z2p ⟨2,sp,us,pi⟩ c)) []]),(34,[.br X])] [] [] dd func150 (φ:=((0:Int)<=(i:Int)/\(M Page.dv l)[(i:Int).toNat]? = O (Page.mk (2:Int) sp us pi).dv)/\((!(Z ((Page.mk (2:Int) sp us pi).K<(0:Int))||Z ((3:Int)<=(Page.mk (2:Int) sp us pi).K)))=X->GP 197 [AV.ag [int (Page.mk (2:Int) sp us pi).K,int (Page.mk (2:Int) sp us pi).S,int (Page.mk (2:Int) sp us pi).U,int (Page.mk (2:Int) sp us pi).N],AV.ag [int c.pw,int c.pg]] X (Sx.bool (Z2p (Page.mk (2:Int) sp us pi) c)) [])/\(Z ((Page.mk (2:Int) sp us pi).K<(0:Int))||Z ((3:Int)<=(Page.mk (2:Int) sp us pi).K)||!Z2p (Page.mk (2:Int) sp us pi) c)=X/\X=X) ?_ kr kr;exact⟨⟨by omega,Z1k hp⟩,λ_=>Z5v _ c,by simp[hf],rfl⟩
 | true =>
  have hn:1<=need c us:=by
   simp[Z2p]at hf;exact hf.2
  obtain⟨k,hk⟩:∃ k:Nat,need c us=k:=⟨(need c us).toNat,by omega⟩
  have hk1:1<=k:=by omega
  by_cases hfit:k<=l.length-i
  .have hsl:((l.drop (i+1)).take (k-1)).length<=281474976710656:=by rw[List.length_take,List.length_drop];omega
   have hsub:Lf (((i+k:Nat):Int).toNat-((i+1:Nat):Int).toNat) (Le ((i+1:Nat):Int).toNat (M Page.dv l))=M Page.dv (Lf (k-1) (Le (i+1) l)):=by
    rw[List.map_take,List.map_drop];congr 1;simp only[Int.toNat_natCast];omega
   cases ht:Z5A ⟨2,sp,us,pi⟩ ((l.drop (i+1)).take (k-1))with
   | true =>
    have e:Z1n c l i=k:=by
     rw[Z1n,hp];simp[hf,hk,ht,hfit]
    rw[e];refine Z0j [(15,[.el (Page.dv ⟨2,sp,us,pi⟩)]),(32,[.call X (bool (Z2p ⟨2,sp,us,pi⟩ c)) []]),(34,[.br Y]),(41,[.call X (int k) []]),(46,[.int ((l.length:Int)-i)]),(47,[.br Y]),(50,[.int ((i+1:Nat):Int)]),(53,[.int ((i+k:Nat):Int)]),(54,[.els (((l.drop (i+1)).take (k-1)).map Page.dv)]),(55,[.int ((l.drop (i+1)).take (k-1)).length])] [(0,Z9x ⟨2,sp,us,pi⟩ ((l.drop (i+1)).take (k-1)) k 0,.nrm,⟨tm 66 [(9,int k)],[],60⟩)] [] dd func150 (φ:=((0:Int)<=(i:Int)/\(M Page.dv l)[(i:Int).toNat]? = O (Page.mk (2:Int) sp us pi).dv)/\((!(Z ((Page.mk (2:Int) sp us pi).K<(0:Int))||Z ((3:Int)<=(Page.mk (2:Int) sp us pi).K)))=X->GP 197 [AV.ag [int (Page.mk (2:Int) sp us pi).K,int (Page.mk (2:Int) sp us pi).S,int (Page.mk (2:Int) sp us pi).U,int (Page.mk (2:Int) sp us pi).N],AV.ag [int c.pw,int c.pg]] X (Sx.bool (Z2p (Page.mk (2:Int) sp us pi) c)) [])/\(Z ((Page.mk (2:Int) sp us pi).K<(0:Int))||Z ((3:Int)<=(Page.mk (2:Int) sp us pi).K)||!Z2p (Page.mk (2:Int) sp us pi) c)=Y/\Y=Y/\GP 97 [AV.ag [int c.pw,int c.pg],int (Page.mk (2:Int) sp us pi).U] X (int (k:Int)) []/\L.wrap ((↑(M Page.dv l).length:Int)-(i:Int))=(l.length:Int)-(i:Int)/\Z ((l.length:Int)-(i:Int)<(k:Int))=Y/\Y=Y/\L.wrap ((i:Int)+(1:Int))=(↑(i+(1:Nat)):Int)/\L.wrap ((i:Int)+(k:Int))=(↑(i+k):Int)/\((0:Int)<=(↑(i+(1:Nat)):Int)/\(↑(i+(1:Nat)):Int)<=(↑(i+k):Int)/\(↑(i+k):Int)<=(↑(M Page.dv l).length:Int))/\Lf ((↑(i+k):Int).toNat-(↑(i+(1:Nat)):Int).toNat) (Le (↑(i+(1:Nat)):Int).toNat (M Page.dv l))=M Page.dv (Lf (k-(1:Nat)) (Le (i+(1:Nat)) l))/\(↑(M Page.dv (Lf (k-(1:Nat)) (Le (i+(1:Nat)) l))).length:Int)=(↑(Lf (k-(1:Nat)) (Le (i+(1:Nat)) l)).length:Int)/\CP (blkF f150 (0:Nat)) (Z9x (Page.mk (2:Int) sp us pi) (Lf (k-(1:Nat)) (Le (i+(1:Nat)) l)) k (0:Nat)).st Ex.nrm (Tg.mk (tm (66:Nat) [((9:Nat),int (k:Int))]) [] (60:Nat)).st) ?_ kr kr;refine⟨⟨by omega,Z1k hp⟩,λ_=>Z5v _ c,by simp[hf],rfl,hk▸Z2t c us,by rw[La];exact Z14 oq oq,decide_eq_false oq,rfl,Z14 oq oq,Z14 oq oq,by rw[La];omega,hsub,by rw[La], ?_⟩;have hall:=List.all_eq_true.1 ht;refine Z08 (S:=λj=>(Z9x ⟨2,sp,us,pi⟩ ((l.drop (i+1)).take (k-1)) k j).st) ((l.drop (i+1)).take (k-1)).length kr (λj hj=>?_) (ZaM _ _ _);exact Zdw _ _ _ j _ hsl (Lm hj) (hall _ (List.getElem_mem hj))
   | false =>
    have e:Z1n c l i=0:=by
     rw[Z1n,hp];simp[hf,hk,ht]
    rw[e];refine Z0j [(15,[.el (Page.dv ⟨2,sp,us,pi⟩)]),(32,[.call X (bool (Z2p ⟨2,sp,us,pi⟩ c)) []]),(34,[.br Y]),(41,[.call X (int k) []]),(46,[.int ((l.length:Int)-i)]),(47,[.br Y]),(50,[.int ((i+1:Nat):Int)]),(53,[.int ((i+k:Nat):Int)]),(54,[.els (((l.drop (i+1)).take (k-1)).map Page.dv)]),(55,[.int ((l.drop (i+1)).take (k-1)).length])] [(0,Z9x ⟨2,sp,us,pi⟩ ((l.drop (i+1)).take (k-1)) k 0,.ret,⟨tm 66 [(6,int 0)],[],60⟩)] [] dd func150 (φ:=((0:Int)<=(i:Int)/\(M Page.dv l)[(i:Int).toNat]? = O (Page.mk (2:Int) sp us pi).dv)/\((!(Z ((Page.mk (2:Int) sp us pi).K<(0:Int))||Z ((3:Int)<=(Page.mk (2:Int) sp us pi).K)))=X->GP 197 [AV.ag [int (Page.mk (2:Int) sp us pi).K,int (Page.mk (2:Int) sp us pi).S,int (Page.mk (2:Int) sp us pi).U,int (Page.mk (2:Int) sp us pi).N],AV.ag [int c.pw,int c.pg]] X (Sx.bool (Z2p (Page.mk (2:Int) sp us pi) c)) [])/\(Z ((Page.mk (2:Int) sp us pi).K<(0:Int))||Z ((3:Int)<=(Page.mk (2:Int) sp us pi).K)||!Z2p (Page.mk (2:Int) sp us pi) c)=Y/\Y=Y/\GP 97 [AV.ag [int c.pw,int c.pg],int (Page.mk (2:Int) sp us pi).U] X (int (k:Int)) []/\L.wrap ((↑(M Page.dv l).length:Int)-(i:Int))=(l.length:Int)-(i:Int)/\Z ((l.length:Int)-(i:Int)<(k:Int))=Y/\Y=Y/\L.wrap ((i:Int)+(1:Int))=(↑(i+(1:Nat)):Int)/\L.wrap ((i:Int)+(k:Int))=(↑(i+k):Int)/\((0:Int)<=(↑(i+(1:Nat)):Int)/\(↑(i+(1:Nat)):Int)<=(↑(i+k):Int)/\(↑(i+k):Int)<=(↑(M Page.dv l).length:Int))/\Lf ((↑(i+k):Int).toNat-(↑(i+(1:Nat)):Int).toNat) (Le (↑(i+(1:Nat)):Int).toNat (M Page.dv l))=M Page.dv (Lf (k-(1:Nat)) (Le (i+(1:Nat)) l))/\(↑(M Page.dv (Lf (k-(1:Nat)) (Le (i+(1:Nat)) l))).length:Int)=(↑(Lf (k-(1:Nat)) (Le (i+(1:Nat)) l)).length:Int)/\CP (blkF f150 (0:Nat)) (Z9x (Page.mk (2:Int) sp us pi) (Lf (k-(1:Nat)) (Le (i+(1:Nat)) l)) k (0:Nat)).st Ex.ret (Tg.mk (tm (66:Nat) [((6:Nat),int (0:Int))]) [] (60:Nat)).st) ?_ kr kr;refine⟨⟨by omega,Z1k hp⟩,λ_=>Z5v _ c,by simp[hf],rfl,hk▸Z2t c us,by rw[La];exact Z14 oq oq,decide_eq_false oq,rfl,Z14 oq oq,Z14 oq oq,by rw[La];omega,hsub,by rw[La], ?_⟩;obtain⟨n,x,h1,h2,h3⟩:=Z51 ht;refine Z0v (S:=λj=>(Z9x ⟨2,sp,us,pi⟩ ((l.drop (i+1)).take (k-1)) k j).st) n kr (λj hj=>?_) (Zbp _ _ _ n x h1 h2);obtain⟨y,h4,h5⟩:=h3 j hj;exact Zdw _ _ _ j y hsl h4 h5
  .have e:Z1n c l i=0:=by
    rw[Z1n,hp];simp[hf,hk,hfit]
   rw[e];refine Z0j [(15,[.el (Page.dv ⟨2,sp,us,pi⟩)]),(32,[.call X (bool (Z2p ⟨2,sp,us,pi⟩ c)) []]),(34,[.br Y]),(41,[.call X (int k) []]),(46,[.int ((l.length:Int)-i)]),(47,[.br X])] [] [] dd func150 (φ:=((0:Int)<=(i:Int)/\(M Page.dv l)[(i:Int).toNat]? = O (Page.mk (2:Int) sp us pi).dv)/\((!(Z ((Page.mk (2:Int) sp us pi).K<(0:Int))||Z ((3:Int)<=(Page.mk (2:Int) sp us pi).K)))=X->GP 197 [AV.ag [int (Page.mk (2:Int) sp us pi).K,int (Page.mk (2:Int) sp us pi).S,int (Page.mk (2:Int) sp us pi).U,int (Page.mk (2:Int) sp us pi).N],AV.ag [int c.pw,int c.pg]] X (Sx.bool (Z2p (Page.mk (2:Int) sp us pi) c)) [])/\(Z ((Page.mk (2:Int) sp us pi).K<(0:Int))||Z ((3:Int)<=(Page.mk (2:Int) sp us pi).K)||!Z2p (Page.mk (2:Int) sp us pi) c)=Y/\Y=Y/\GP 97 [AV.ag [int c.pw,int c.pg],int (Page.mk (2:Int) sp us pi).U] X (int (k:Int)) []/\L.wrap ((↑(M Page.dv l).length:Int)-(i:Int))=(l.length:Int)-(i:Int)/\Z ((l.length:Int)-(i:Int)<(k:Int))=X/\X=X) ?_ kr kr;exact⟨⟨by omega,Z1k hp⟩,λ_=>Z5v _ c,by simp[hf],rfl,hk▸Z2t c us,by rw[La];exact Z14 oq oq,decide_eq_true oq,rfl⟩
def Zg2(c:Conf)(l:List Page)(hl:l.length<=281474976710656)(i:Nat)(hi:i<l.length):GP 150 [c.av,Z0y l,int i] X (int (Z1n c l i)) []:=by
 obtain⟨p,hp⟩:∃ p,l[i]? = O p:=⟨l[i],Lm hi⟩
 obtain⟨kd,sp,us,pi⟩:=p;by_cases h0:kd=0
 .subst h0;exact Zb7 c l i sp us pi hp
 by_cases h1:kd=1
 .subst h1;exact Z9N c l i sp us pi hp
 by_cases h2:kd=2
 .subst h2;exact Z9P c l hl i sp us pi hp
 .exact Zdp c l i _ hp (by simp only;omega)
def Z01(l:List Int):AV:=.d (.sl 1 (l.map wdv))
structure Heap where
 C:Conf
 W:List Int
 P:List Page
 S:Int
 B:Int
 deriving DecidableEq,Inhabited
def Heap.cells(h:Heap):List AV:=[int h.C.pw,int h.C.pg,Z01 h.W,Z0y h.P,int h.S,int h.B]
def Heap.av(h:Heap):AV:=.ag h.cells
def noHeap:Heap:=⟨⟨0,0⟩,[],[],0,0⟩
def Z4m(c:Conf):Heap:=⟨c,Lj (c.pw*c.pg).toNat 0,Lj c.pg.toNat ⟨0,0,0,0⟩,0,-1⟩
def ZhZ(c:Conf)(h:Z06 c=X):GP 100 [c.av] Y (.tu [(Z4m c).av,int 0]) []:=by
 refine Z0j [(5,[.call X (bool (Z06 c)) []]),(6,[.br Y]),(13,[.int ((c.pw*c.pg).toNat:Int)]),(14,[.els ((Lj (c.pw*c.pg).toNat 0).map wdv)]),(17,[.els ((Lj c.pg.toNat (⟨0,0,0,0⟩:Page)).map Page.dv)])] [] [] dd func100 (φ:=GP 92 [AV.ag [int c.pw,int c.pg]] X (Sx.bool (Z06 c)) []/\(!Z06 c)=Y/\Y=Y/\L.wrap (c.pg*c.pw)=(↑(c.pw*c.pg).toNat:Int)/\((0:Int)<=(↑(c.pw*c.pg).toNat:Int)/\(↑(c.pw*c.pg).toNat:Int)<=(↑(c.pw*c.pg).toNat:Int)/\(↑(c.pw*c.pg).toNat:Int)*((↑(nat_lit 7):Int)+(1:Int))<=(2:Int)^(48:Nat))/\Lj (↑(c.pw*c.pg).toNat:Int).toNat [du64 (0:Int)]=M wdv (Lj (c.pw*c.pg).toNat (0:Int))/\((0:Int)<=c.pg/\c.pg<=c.pg/\c.pg*((↑(nat_lit 31):Int)+(1:Int))<=(2:Int)^(48:Nat))/\Lj c.pg.toNat [dint (0:Int),dint (0:Int),dint (0:Int),dint (0:Int)]=M Page.dv (Lj c.pg.toNat (Page.mk (0:Int) (0:Int) (0:Int) (0:Int)))) ?_ kr kr;have hv:=validB_iff.1 h;have ha:=area h;rw[Lk]at ha;have hc:=Lk c.pw c.pg;exact⟨Z0x c,by simp[h],rfl,by rw[Z14 oq oq];omega,⟨by omega,by omega,by simp;omega⟩,by rw[List.map_replicate];rfl,⟨by omega,by omega,by simp;omega⟩,by simp[Page.dv,wdv]⟩
def Z1h(l:List Page)(i:Int):Page:=l[i.toNat]?.getD ⟨0,0,0,0⟩
def Zjq{l:List Page}{i:Int}(h:i.toNat<l.length):l[i.toNat]? = O (Z1h l i):=by
 rw[Z1h,Lm h];rfl
def Zjl(h:Heap):Bool:=(h.B==-1)||(Z (0<=h.B)&&Z (h.B<h.P.length)&&((Z1h h.P h.B).K==1))
def ZeZ(h:Heap):Bool:=Z06 h.C&&((h.W.length:Int)==h.C.pw*h.C.pg)&&((h.P.length:Int)==h.C.pg)&&((h.S==0)||(h.S==1))
def Z2o(c:Conf)(l:List Page):Nat->Nat->Bool
 | 0,i=>Z (l.length<=i)
 | f+1,i=>if i<l.length then(if Z1n c l i=0 then Y else Z2o c l f (i+Z1n c l i))else X
def Z02(h:Heap):Bool:=ZeZ h&&(Zjl h&&Z2o h.C h.P h.P.length 0)
def Z3W(h:Heap)(i:Nat):Tg:=⟨tm 83 [(1,.pt 8001 0 0),(2,bool Y),(3,int i)],[(8001,.box 28 h.cells)],50⟩
def Zl5{c:Conf}{l:List Page}{i:Nat}(hi:i<l.length):i+Z1n c l i<=l.length:=by
 obtain⟨p,hp⟩:∃ p,l[i]? = O p:=⟨l[i],Lm hi⟩
 rw[Z1n,hp];simp only;repeat' split
 all_goals first | omega | (rename_i h;omega)
def Z8L(h:Heap)(i:Nat)(hl:h.P.length<=281474976710656)(hi:i<h.P.length)(hs:Z1n h.C h.P i≠0):CP (rndF f94 0) (Z3W h i).st .nrm (Z3W h (i+Z1n h.C h.P i)).st:=by
 have hle:=Zl5 (c:=h.C) hi;refine Z1v [(70,[.int h.P.length]),(71,[.br X]),(77,[.call X (int (Z1n h.C h.P i)) []]),(79,[.br Y]),(82,[.int ((i+Z1n h.C h.P i:Nat):Int)])] [] (φ:=(↑(M Page.dv h.P).length:Int)=(h.P.length:Int)/\Z ((i:Int)<(h.P.length:Int))=X/\X=X/\GP 150 [AV.ag [int h.C.pw,int h.C.pg],AV.d (DV.sl (4:Nat) (M Page.dv h.P)),int (i:Int)] X (int (↑(Z1n h.C h.P i):Int)) []/\((↑(Z1n h.C h.P i):Int)==(0:Int))=Y/\Y=Y/\L.wrap ((i:Int)+(↑(Z1n h.C h.P i):Int))=(↑(i+Z1n h.C h.P i):Int)) ?_ kr kr kr;exact⟨by rw[La],decide_eq_true oq,rfl,Zg2 h.C h.P hl i hi,by simp;omega,rfl,Z14 oq oq⟩
def Ziy(h:Heap)(i:Nat)(hl:h.P.length<=281474976710656)(hi:i<h.P.length)(hs:Z1n h.C h.P i=0):CP (rndF f94 0) (Z3W h i).st .ret (Tg.st ⟨tm 83 [(2,bool Y)],[],60⟩):=by
 refine Z1v [(70,[.int h.P.length]),(71,[.br X]),(77,[.call X (int (Z1n h.C h.P i)) []]),(79,[.br X])] [] (φ:=(↑(M Page.dv h.P).length:Int)=(h.P.length:Int)/\Z ((i:Int)<(h.P.length:Int))=X/\X=X/\GP 150 [AV.ag [int h.C.pw,int h.C.pg],AV.d (DV.sl (4:Nat) (M Page.dv h.P)),int (i:Int)] X (int (↑(Z1n h.C h.P i):Int)) []/\((↑(Z1n h.C h.P i):Int)==(0:Int))=X/\X=X) ?_ kr kr kr;exact⟨by rw[La],decide_eq_true oq,rfl,Zg2 h.C h.P hl i hi,by simp[hs],rfl⟩
def Zcv(h:Heap)(i:Nat)(hi:h.P.length<=i):CP (rndF f94 0) (Z3W h i).st (.ext 0) (Tg.st ⟨tm 83 [],[],60⟩):=by
 refine Z1v [(70,[.int h.P.length]),(71,[.br Y])] [] (φ:=(↑(M Page.dv h.P).length:Int)=(h.P.length:Int)/\Z ((i:Int)<(h.P.length:Int))=Y/\Y=Y) ?_ kr kr kr;exact⟨by rw[La],decide_eq_false oq,rfl⟩
def Zao(h:Heap)(hl:h.P.length<=281474976710656):∀ (f i:Nat),h.P.length<=i+f->Z2o h.C h.P f i=X->∃ n,Z2v prog (rndF f94 0) n (Z3W h i).st (.ext 0) (Tg.st ⟨tm 83 [],[],60⟩)
 | 0,i,hf,_=>⟨0,(λh=>nomatch h),Zcv h i oq⟩
 | f+1,i,hf,hb=>by
  by_cases hi:i<h.P.length
  .simp only[Z2o,if_pos hi]at hb;split at hb
   .cases hb
   .rename_i hs;obtain⟨n,hn⟩:=Zao h hl f (i+Z1n h.C h.P i) oq hb;exact⟨n+1,_,Z8L h i hl hi hs,hn⟩
  .exact⟨0,(λh=>nomatch h),Zcv h i oq⟩
def Z6g(h:Heap)(hl:h.P.length<=281474976710656):∀ (f i:Nat),h.P.length<=i+f->Z2o h.C h.P f i=Y->∃ n,Z2v prog (rndF f94 0) n (Z3W h i).st .ret (Tg.st ⟨tm 83 [(2,bool Y)],[],60⟩)
 | 0,i,hf,hb=>by simp[Z2o]at hb;omega
 | f+1,i,hf,hb=>by
  by_cases hi:i<h.P.length
  .simp only[Z2o,if_pos hi]at hb;split at hb
   .rename_i hs;exact⟨0,(λh=>nomatch h),Ziy h i hl hi hs⟩
   .rename_i hs;obtain⟨n,hn⟩:=Z6g h hl f (i+Z1n h.C h.P i) oq hb;exact⟨n+1,_,Z8L h i hl hi hs,hn⟩
  .simp only[Z2o,if_neg hi]at hb;cases hb
def shapeB_iff{h:Heap}:ZeZ h=X↔Z06 h.C=X/\(h.W.length:Int)=h.C.pw*h.C.pg/\(h.P.length:Int)=h.C.pg/\(h.S=0\/h.S=1):=by
 simp[ZeZ,and_assoc]
def Z0n(h:Heap):GP 94 [h.av] X (bool (Z02 h)) []:=by
 have hmul:(!!Z06 h.C)=X->L.wrap (h.C.pw*h.C.pg)=h.C.pw*h.C.pg:=by
  intro hv;have ha:=area (c:=h.C) (by simpa using hv);exact Z14 oq oq
 by_cases h1:ZeZ h=X
 .obtain⟨s1,s2,s3,s4⟩:=shapeB_iff.1 h1;have hv:=validB_iff.1 s1;have hc1:(!Z06 h.C||(h.W.length:Int) != h.C.pw*h.C.pg||(h.P.length:Int) != h.C.pg||h.S != 0&&h.S != 1)=Y:=by
   simp[s1,s2,s3];omega
  have hel:(h.B != -1&&!(Z (h.B<0)||Z ((h.P.length:Int)<=h.B)))=X->0<=h.B/\(M Page.dv h.P)[h.B.toNat]? = O (Z1h h.P h.B).dv:=by
   intro hg;simp at hg;refine⟨by omega, ?_⟩;rw[Lr,Zjq oq];rfl
  by_cases h2:Zjl h=X
  .have hc2:(h.B != -1&&(Z (h.B<0)||Z ((h.P.length:Int)<=h.B)||(Z1h h.P h.B).K != 1))=Y:=by
    simp[Zjl]at h2;simp;omega
   cases h3:Z2o h.C h.P h.P.length 0 with
   | true =>
    have e:Z02 h=X:=by simp[Z02,h1,h2,h3]
    rw[e];obtain⟨n,hn⟩:=Zao h oq h.P.length 0 oq h3;refine Z0j [(7,[.call X (bool (Z06 h.C)) []]),(12,[.int h.W.length]),(19,[.int (h.C.pw*h.C.pg)]),(25,[.int h.P.length]),(40,[.br Y]),(53,[.int h.P.length]),(61,[.el (Z1h h.P h.B).dv]),(66,[.br Y])] [(0,Z3W h 0,.nrm,⟨tm 83 [],[],60⟩)] [] dd func94 (φ:=GP 149 [AV.ag [int h.C.pw,int h.C.pg]] X (Sx.bool (Z06 h.C)) []/\((!!Z06 h.C)=X->(↑(M wdv h.W).length:Int)=(h.W.length:Int))/\((!!Z06 h.C)=X->L.wrap (h.C.pw*h.C.pg)=h.C.pw*h.C.pg)/\((!(!Z06 h.C||(h.W.length:Int) != h.C.pw*h.C.pg))=X->(↑(M Page.dv h.P).length:Int)=(h.P.length:Int))/\(!Z06 h.C||(h.W.length:Int) != h.C.pw*h.C.pg||(h.P.length:Int) != h.C.pg||h.S != (0:Int)&&h.S != (1:Int))=Y/\Y=Y/\((h.B != (-1:Int)&&!decide (h.B<(0:Int)))=X->(↑(M Page.dv h.P).length:Int)=(h.P.length:Int))/\((h.B != (-1:Int)&&!(Z (h.B<(0:Int))||Z ((h.P.length:Int)<=h.B)))=X->(0:Int)<=h.B/\(M Page.dv h.P)[h.B.toNat]? = O (Z1h h.P h.B).dv)/\(h.B != (-1:Int)&&(Z (h.B<(0:Int))||Z ((h.P.length:Int)<=h.B)||(Z1h h.P h.B).K != (1:Int)))=Y/\Y=Y/\CP (blkF f94 (0:Nat)) (Z3W h (0:Nat)).st Ex.nrm (Tg.mk (tm (83:Nat) []) [] (60:Nat)).st) ?_ kr kr;exact⟨Z0l h.C,λ_=>by rw[La],hmul,λ_=>by rw[La],hc1,rfl,λ_=>by rw[La],hel,hc2,rfl,ZbH kr hn⟩
   | false =>
    have e:Z02 h=Y:=by simp[Z02,h3]
    rw[e];obtain⟨n,hn⟩:=Z6g h oq h.P.length 0 oq h3;refine Z0j [(7,[.call X (bool (Z06 h.C)) []]),(12,[.int h.W.length]),(19,[.int (h.C.pw*h.C.pg)]),(25,[.int h.P.length]),(40,[.br Y]),(53,[.int h.P.length]),(61,[.el (Z1h h.P h.B).dv]),(66,[.br Y])] [(0,Z3W h 0,.ret,⟨tm 83 [(2,bool Y)],[],60⟩)] [] dd func94 (φ:=GP 149 [AV.ag [int h.C.pw,int h.C.pg]] X (Sx.bool (Z06 h.C)) []/\((!!Z06 h.C)=X->(↑(M wdv h.W).length:Int)=(h.W.length:Int))/\((!!Z06 h.C)=X->L.wrap (h.C.pw*h.C.pg)=h.C.pw*h.C.pg)/\((!(!Z06 h.C||(h.W.length:Int) != h.C.pw*h.C.pg))=X->(↑(M Page.dv h.P).length:Int)=(h.P.length:Int))/\(!Z06 h.C||(h.W.length:Int) != h.C.pw*h.C.pg||(h.P.length:Int) != h.C.pg||h.S != (0:Int)&&h.S != (1:Int))=Y/\Y=Y/\((h.B != (-1:Int)&&!decide (h.B<(0:Int)))=X->(↑(M Page.dv h.P).length:Int)=(h.P.length:Int))/\((h.B != (-1:Int)&&!(Z (h.B<(0:Int))||Z ((h.P.length:Int)<=h.B)))=X->(0:Int)<=h.B/\(M Page.dv h.P)[h.B.toNat]? = O (Z1h h.P h.B).dv)/\(h.B != (-1:Int)&&(Z (h.B<(0:Int))||Z ((h.P.length:Int)<=h.B)||(Z1h h.P h.B).K != (1:Int)))=Y/\Y=Y/\CP (blkF f94 (0:Nat)) (Z3W h (0:Nat)).st Ex.ret (Tg.mk (tm (83:Nat) [((2:Nat),Sx.bool Y)]) [] (60:Nat)).st) ?_ kr kr;exact⟨Z0l h.C,λ_=>by rw[La],hmul,λ_=>by rw[La],hc1,rfl,λ_=>by rw[La],hel,hc2,rfl,Zbq kr hn⟩
  .have hc2:(h.B != -1&&(Z (h.B<0)||Z ((h.P.length:Int)<=h.B)||(Z1h h.P h.B).K != 1))=X:=by
    simp[Zjl]at h2;simp;omega
   have e:Z02 h=Y:=by simp[Z02,h2]
   rw[e];refine Z0j [(7,[.call X (bool (Z06 h.C)) []]),(12,[.int h.W.length]),(19,[.int (h.C.pw*h.C.pg)]),(25,[.int h.P.length]),(40,[.br Y]),(53,[.int h.P.length]),(61,[.el (Z1h h.P h.B).dv]),(66,[.br X])] [] [] dd func94 (φ:=GP 149 [AV.ag [int h.C.pw,int h.C.pg]] X (Sx.bool (Z06 h.C)) []/\((!!Z06 h.C)=X->(↑(M wdv h.W).length:Int)=(h.W.length:Int))/\((!!Z06 h.C)=X->L.wrap (h.C.pw*h.C.pg)=h.C.pw*h.C.pg)/\((!(!Z06 h.C||(h.W.length:Int) != h.C.pw*h.C.pg))=X->(↑(M Page.dv h.P).length:Int)=(h.P.length:Int))/\(!Z06 h.C||(h.W.length:Int) != h.C.pw*h.C.pg||(h.P.length:Int) != h.C.pg||h.S != (0:Int)&&h.S != (1:Int))=Y/\Y=Y/\((h.B != (-1:Int)&&!decide (h.B<(0:Int)))=X->(↑(M Page.dv h.P).length:Int)=(h.P.length:Int))/\((h.B != (-1:Int)&&!(Z (h.B<(0:Int))||Z ((h.P.length:Int)<=h.B)))=X->(0:Int)<=h.B/\(M Page.dv h.P)[h.B.toNat]? = O (Z1h h.P h.B).dv)/\(h.B != (-1:Int)&&(Z (h.B<(0:Int))||Z ((h.P.length:Int)<=h.B)||(Z1h h.P h.B).K != (1:Int)))=X/\X=X) ?_ kr kr;exact⟨Z0l h.C,λ_=>by rw[La],hmul,λ_=>by rw[La],hc1,rfl,λ_=>by rw[La],hel,hc2,rfl⟩
 .have hc1:(!Z06 h.C||(h.W.length:Int) != h.C.pw*h.C.pg||(h.P.length:Int) != h.C.pg||h.S != 0&&h.S != 1)=X:=by
   rw[shapeB_iff]at h1;cases hv:Z06 h.C with
   | false=>simp
   | true =>
    simp only[hv,true_and]at h1;simp;omega
  have e:Z02 h=Y:=by simp[Z02,h1]
  rw[e];refine Z0j [(7,[.call X (bool (Z06 h.C)) []]),(12,[.int h.W.length]),(19,[.int (h.C.pw*h.C.pg)]),(25,[.int h.P.length]),(40,[.br X])] [] [] dd func94 (φ:=GP 149 [AV.ag [int h.C.pw,int h.C.pg]] X (Sx.bool (Z06 h.C)) []/\((!!Z06 h.C)=X->(↑(M wdv h.W).length:Int)=(h.W.length:Int))/\((!!Z06 h.C)=X->L.wrap (h.C.pw*h.C.pg)=h.C.pw*h.C.pg)/\((!(!Z06 h.C||(h.W.length:Int) != h.C.pw*h.C.pg))=X->(↑(M Page.dv h.P).length:Int)=(h.P.length:Int))/\(!Z06 h.C||(h.W.length:Int) != h.C.pw*h.C.pg||(h.P.length:Int) != h.C.pg||h.S != (0:Int)&&h.S != (1:Int))=X/\X=X) ?_ kr kr;exact⟨Z0l h.C,λ_=>by rw[La],hmul,λ_=>by rw[La],hc1,rfl⟩
end Go.Proofs.YtgedmeaemofdkaaGreat
namespace Go.Proofs.YtgedmeaemofdkaaGreat
open Go.Sx Go.RowKit
def own0:ownKnob Tryz.prog.godebug=Lc:=by kernel_rfl
def Zl3:laidOutB prog=X:=by kernel_rfl
def Ze6{n:Nat}{l:List DV}(h:shp prog (n+1) 3 l):∃ x:Int,l=[dint x]/\(Lg .i64 x).wf=X:=by
 have e:shp prog (n+1) 3 l=(∃ x:Int,l=[.sc (.int .i64 x)]/\(Lg .i64 x).wf=X):=by kernel_rfl
 rw[e]at h;exact h
def ZoB{n:Nat}{l:List DV}(h:shp prog (n+1) 35 l):∃ x:Int,l=[du64 x]/\(Lg .u64 x).wf=X:=by
 have e:shp prog (n+1) 35 l=(∃ x:Int,l=[.sc (.int .u64 x)]/\(Lg .u64 x).wf=X):=by kernel_rfl
 rw[e]at h;exact h
def ZkN{n:Nat}{l:List DV}(h:shp prog (n+2) 24 l):∃ c:Conf,l=[dint c.pw,dint c.pg]:=by
 have e:shp prog (n+2) 24 l=(∃ a b,l=a++b/\(∃ x:Int,a=[.sc (.int .i64 x)]/\(Lg .i64 x).wf=X)/\∃ a' b',b=a'++b'/\(∃ x:Int,a'=[.sc (.int .i64 x)]/\(Lg .i64 x).wf=X)/\b'=[]):=by kernel_rfl
 rw[e]at h;obtain⟨a,b,rfl,⟨x,rfl,_⟩,a',b',rfl,⟨y,rfl,_⟩,rfl⟩:=h;exact⟨⟨x,y⟩,rfl⟩
def range_u64{n:Int}(h:(Lg .u64 n).wf=X):0<=n/\n<=18446744073709551615:=by
 simp[Lit.wf,IntKind.min,IntKind.max,IntKind.signed,IntKind.bits]at h;omega
def Z73{α β:Type}{f:α->β}:∀ {l:List β},(∀ x∈l,∃ a,x=f a)->∃ m:List α,l=m.map f
 | [],_=>⟨[],rfl⟩
 | x::l,h=>by
  obtain⟨a,rfl⟩:=h x pq;obtain⟨m,rfl⟩:=Z73 (l:=l) λy hy=>h y (by simp[hy]);exact⟨a::m,rfl⟩
def Zmo{n:Nat}{l:List DV}(h:shp prog (n+2) 86 l):∃ p:Page,l=p.dv:=by
 have e:shp prog (n+2) 86 l=(∃ a b,l=a++b/\(∃ x:Int,a=[.sc (.int .i64 x)]/\(Lg .i64 x).wf=X)/\∃ a' b',b=a'++b'/\(∃ x:Int,a'=[.sc (.int .i64 x)]/\(Lg .i64 x).wf=X) /\
  ∃ a'' b'',b'=a''++b''/\(∃ x:Int,a''=[.sc (.int .i64 x)]/\(Lg .i64 x).wf=X)/\∃ a3 b3,b''=a3++b3/\(∃ x:Int,a3=[.sc (.int .i64 x)]/\(Lg .i64 x).wf=X)/\b3=[]):=by kernel_rfl
 rw[e]at h;obtain⟨a,b,rfl,⟨x,rfl,_⟩,a',b',rfl,⟨y,rfl,_⟩,a2,b2,rfl,⟨z,rfl,_⟩,a3,b3,rfl,⟨u,rfl,_⟩,rfl⟩:=h;exact⟨⟨x,y,z,u⟩,rfl⟩
def ZiW{n:Nat}{l:List DV}(h:shp prog (n+3) 26 l):∃ m:List Page,l=[.sl 4 (m.map Page.dv)]/\m.length<=140737488355328:=by
 have e:shp prog (n+3) 26 l=(∃ els:List (List DV),l=[.sl 4 els]/\els.length<=140737488355328/\∀ x∈els,shp prog (n+2) 86 x):=by kernel_rfl
 rw[e]at h;obtain⟨els,rfl,h1,h2⟩:=h;obtain⟨m,rfl⟩:=Z73 (f:=Page.dv) λx hx=>Zmo (h2 x hx);exact⟨m,rfl,by simpa using h1⟩
end Go.Proofs.YtgedmeaemofdkaaGreat
namespace Go.Sx
def Z9B(a b:Nat):AV->AV
 | .pt k i o=>match Lb k a with
  | true=>.pt b i o
  | false=>match Lb k b with | X=>.any | Y=>.pt k i o
 | .os k o n=>match Lb k a with
  | true=>.os b o n
  | false=>match Lb k b with | X=>.any | Y=>.os k o n
 | .ow k=>match Lb k a with
  | true=>.ow b
  | false=>match Lb k b with | X=>.any | Y=>.ow k
 | x=>x
def renB(a b:Nat):Blk->Blk
 | .box ty cells=>.box ty (cells.map (mapA (Z9B a b)))
 | .arr ty s els=>.arr ty s els
 | .mp ks=>.mp ks
 | .dead=>.dead
def renH(a b:Nat)(H:Heap):Heap:=λk=>match Lb k b with
 | true=>match H a with | O B=>O (renB a b B) | Lc=>Lc
 | false=>match Lb k a with
  | true=>Lc
  | false=>match H k with | O B=>O (renB a b B) | Lc=>Lc
def ren1(a b:Nat)(s:St):Option St:=match Lb a b||!Nat.ble 8000 b with
 | true=>Lc
 | false=>match s.H a with
  | none=>Lc
  | some _=>O ⟨s.tmps.map (mapT (Z9B a b)),renH a b s.H,s.clk⟩
def renS:List (Nat×Nat)->St->Option St
 | [],s=>O s
 | (a,b)::l,s=>match ren1 a b s with
  | some s'=>renS l s'
  | none=>Lc
def renR(a b:Nat)(ρ:Rho):Rho:=λk=>if k=b then ρ a else if k=a then Lc else ρ k
section
variable {ρ:Rho} {w:World} {Im:Nat->Prop} {a b:Nat}
theorem Zge{k:Nat}{v:Value}(h:Rel ρ w Im (.ow k) v):Rel (renR a b ρ) w Im (Z9B a b (.ow k)) v:=by
 simp only[Z9B];cases h1:Lb k a with
 | true =>
  have e:=Ll h1;subst e;cases h with
  | ow hr hc hb ha=>exact .ow (by simp only[renR,if_true];exact hr) hc hb ha
 | false =>
  have e1:=Lh h1;cases h2:Lb k b with
  | true=>exact .any _
  | false =>
   have e2:=Lh h2;cases h with
   | ow hr hc hb ha=>exact .ow (by simp only[renR,if_neg e1,if_neg e2];exact hr) hc hb ha
theorem ZfX{k o n:Nat}{v:Value}(h:Rel ρ w Im (.os k o n) v):Rel (renR a b ρ) w Im (Z9B a b (.os k o n)) v:=by
 simp only[Z9B];cases h1:Lb k a with
 | true =>
  have e:=Ll h1;subst e;cases h with
  | os hr hn hc hb ha=>exact .os (by simp only[renR,if_true];exact hr) hn hc hb ha
 | false =>
  have e1:=Lh h1;cases h2:Lb k b with
  | true=>exact .any _
  | false =>
   have e2:=Lh h2;cases h with
   | os hr hn hc hb ha=>exact .os (by simp only[renR,if_neg e1,if_neg e2];exact hr) hn hc hb ha
theorem Zf8{k i o:Nat}{v:Value}(h:Rel ρ w Im (.pt k i o) v):Rel (renR a b ρ) w Im (Z9B a b (.pt k i o)) v:=by
 simp only[Z9B];obtain⟨g,s,n,hr,rfl⟩:=Z4p h;cases h1:Lb k a with
 | true =>
  have e:=Ll h1;subst e;exact .pt (by simp only[renR,if_true];exact hr)
 | false =>
  have e1:=Lh h1;cases h2:Lb k b with
  | true=>exact .any _
  | false =>
   have e2:=Lh h2;exact .pt (by simp only[renR,if_neg e1,if_neg e2];exact hr)
theorem Zlg{x:AV}{v:Value}(h:Rel ρ w Im x v):Rel (renR a b ρ) w Im (mapA (Z9B a b) x) v :=
 Z6u (λ_ h=>h) (λ_ _ _ _ h=>Zf8 h) (λ_ _ _ _ h=>ZfX h) (λ_ _ h=>Zge h) h
theorem Zly{x:AV}{v:Value}(h:Rel ρ w Im x v):Rel (renR a b ρ) w Im (mapT (Z9B a b) x) v :=
 Z7J (λ_ h=>h) (λ_ _ _ _ h=>Zf8 h) (λ_ _ _ _ h=>ZfX h) (λ_ _ h=>Zge h) h
theorem Zfk{β:Bi}{B:Blk}(h:RelB ρ w Im β B):RelB (renR a b ρ) w Im β (renB a b B):=by
 cases B with
 | box ty cells =>
  obtain⟨h0,h00,g,cs,h1,h2,h3,h3',h4⟩:=h;refine⟨by simpa using h0,h00,g,cs,h1,h2,by simpa using h3,h3',λo x v hx hv=>?_⟩;simp only[Lr,Lv]at hx;obtain⟨y,hy,rfl⟩:=hx;exact Zlg (h4 o y v hy hv)
 | arr ty s els=>exact h
 | mp ks=>exact h
 | dead=>trivial
theorem ZcJ{B:Blk}(h:renB a b B≠.dead):B≠.dead:=by
 rintro rfl;exact h rfl
theorem Zoj{s s':St}(h:ren1 a b s=O s'){Ow:Own}{Im0:Nat->Prop}{w0:World}{x:Act}{w:World}(hS:Sys Ow Im0 w0 s.tmps s.H s.clk x w):Sys Ow Im0 w0 s'.tmps s'.H s'.clk x w:=by
 unfold ren1 at h;split at h
 .cases h
 rename_i hab;simp only[Bool.or_eq_false_iff,Bool.not_eq_false']at hab;have hne:=Lh hab.1;have hb8:=Nat.le_of_ble_eq_true hab.2;split at h
 .cases h
 rename_i B0 hB0;cases h;obtain⟨ρ,Im,I,T⟩:=hS;have hH:∀ k B,renH a b s.H k=O B->(k=b/\∃ B',s.H a=O B'/\B=renB a b B')\/(k≠b/\k≠a/\∃ B',s.H k=O B'/\B=renB a b B'):=by
  intro k B hk;simp only[renH]at hk;cases h1:Lb k b with
  | true =>
   rw[h1,hB0]at hk;simp only[Ls]at hk;exact .inl ⟨Ll h1,B0,hB0,hk.symm⟩
  | false =>
   rw[h1]at hk;cases h2:Lb k a with
   | true=>rw[h2]at hk;simp at hk
   | false =>
    rw[h2]at hk;cases h3:s.H k with
    | none=>rw[h3]at hk;simp at hk
    | some B' =>
     rw[h3]at hk;simp only[Ls]at hk;exact .inr ⟨Lh h1,Lh h2,B',rfl,hk.symm⟩
 have hρ:∀ k β,renR a b ρ k=O β->(k=b/\ρ a=O β)\/(k≠b/\k≠a/\ρ k=O β):=by
  intro k β hk;simp only[renR]at hk;split at hk
  .rename_i e;exact .inl ⟨e,hk⟩
  .rename_i e;split at hk
   .cases hk
   .rename_i e2;exact .inr ⟨e,e2,hk⟩
 have hlive:∀ k,live (renH a b s.H) k->(k=b/\live s.H a)\/(k≠b/\k≠a/\live s.H k):=by
  rintro k ⟨B,h1,h2⟩;rcases hH k B h1 with⟨e,B',h3,rfl⟩ | ⟨e1,e2,B',h3,rfl⟩
  .exact .inl ⟨e,B',h3,ZcJ h2⟩
  .exact .inr ⟨e1,e2,B',h3,ZcJ h2⟩
 refine⟨renR a b ρ,Im,⟨I.kept,λk k' β β' g l1 l2 q1 q2 q3 q4=>?_,λk β g l q=>?_,λk β g q=>?_,λk β g q=>?_,I.imb,I.im0,λk B q=>?_,λk hk q=>?_,I.one.1,λk β h q=>?_⟩,⟨by rw[T.size];simp,λi y v hy hv=>?_,T.defers⟩⟩
 .rcases hρ k β q1 with⟨e1,r1⟩ | ⟨e1,f1,r1⟩<;>rcases hρ k' β' q2 with⟨e2,r2⟩ | ⟨e2,f2,r2⟩
  .rw[e1,e2]
  .rcases hlive k l1 with⟨_,m1⟩ | ⟨m,_⟩
   .rcases hlive k' l2 with⟨m,_⟩ | ⟨_,_,m2⟩
    .exact absurd m e2
    .exact absurd (I.inj a k' β β' g m1 m2 r1 r2 q3 q4).symm f2
   .exact absurd e1 m
  .rcases hlive k l1 with⟨m,_⟩ | ⟨_,_,m1⟩
   .exact absurd m e1
   .rcases hlive k' l2 with⟨_,m2⟩ | ⟨m,_⟩
    .exact absurd (I.inj k a β β' g m1 m2 r1 r2 q3 q4) f1
    .exact absurd e2 m
  .rcases hlive k l1 with⟨m,_⟩ | ⟨_,_,m1⟩
   .exact absurd m e1
   .rcases hlive k' l2 with⟨m,_⟩ | ⟨_,_,m2⟩
    .exact absurd m e2
    .exact I.inj k k' β β' g m1 m2 r1 r2 q3 q4
 .rcases hρ k β q with⟨e1,r1⟩ | ⟨e1,f1,r1⟩
  .rcases hlive k l with⟨_,m1⟩ | ⟨m,_⟩
   .exact I.notIm a β g m1 r1
   .exact absurd e1 m
  .rcases hlive k l with⟨m,_⟩ | ⟨_,_,m1⟩
   .exact absurd m e1
   .exact I.notIm k β g m1 r1
 .rcases hρ k β q with⟨_,r1⟩ | ⟨_,_,r1⟩
  .exact I.bnd a β g r1
  .exact I.bnd k β g r1
 .rcases hρ k β q with⟨_,r1⟩ | ⟨_,_,r1⟩
  .rename_i hk0;intro hg;exact(I.own a β g r1 hg).imp (λh=>⟨h.1,by omega⟩) (λh=>h)
  .exact I.own k β g r1
 rotate_left 2
 .rcases hρ k β q with⟨e1,r1⟩ | ⟨_,_,r1⟩
  .omega
  .exact I.one.2 k β h r1
 rotate_right 2
 .rcases hH k B q with⟨rfl,B',h3,rfl⟩ | ⟨e1,e2,B',h3,rfl⟩
  .obtain⟨β,h4,h5⟩:=I.blk a B' h3;exact⟨β,by simp only[renR,if_true];exact h4,Zfk h5⟩
  .obtain⟨β,h4,h5⟩:=I.blk k B' h3;exact⟨β,by simp only[renR,if_neg e1,if_neg e2];exact h4,Zfk h5⟩
 .simp only[renH]at q;simp only[renR];cases h1:Lb k b with
  | true=>rw[h1,hB0]at q;simp at q
  | false =>
   rw[h1]at q;rw[if_neg (Lh h1)];cases h2:Lb k a with
   | true=>rw[if_pos (Ll h2)]
   | false =>
    rw[if_neg (Lh h2)];rw[h2]at q;cases h3:s.H k with
    | none=>exact I.fresh k hk h3
    | some B'=>rw[h3]at q;simp at q
 .simp only[Lr,Lv]at hy;obtain⟨z,hz,rfl⟩:=hy;exact Zly (T.tmp i z v hz hv)
end
def ZbW:∀ {l:List (Nat×Nat)} {s s':St},renS l s=O s'->∀ {Ow:Own} {Im0:Nat->Prop} {w0:World} {x:Act} {w:World},Sys Ow Im0 w0 s.tmps s.H s.clk x w->Sys Ow Im0 w0 s'.tmps s'.H s'.clk x w
 | [],s,s',h,_,_,_,_,_,hS=>by
  simp only[renS,Ls]at h;subst h;exact hS
 | (a,b)::l,s,s',h,_,_,_,_,_,hS=>by
  simp only[renS]at h;split at h
  .rename_i s1 h1;exact ZbW h (Zoj h1 hS)
  .cases h
def runToR(P:Program)(hints:List (Nat×List Hint))(cuts:List (Nat×Tg×Ex×Tg))(ren:List (Nat×Nat))(c:Code)(s:St)(t:Tg):Option Run :=
 match runC P hints cuts c s with
 | none=>Lc
 | some r=>match renS ren r.s with
  | none=>Lc
  | some s'=>match wk s' t with
   | some l=>O ⟨r.e,s',r.ph,r.eq++l⟩
   | none=>Lc
def Z4t{P:Program}(hints:List (Nat×List Hint))(cuts:List (Nat×Tg×Ex×Tg))(ren:List (Nat×Nat)){c:Code}{s:St}{e:Ex}{t:Tg}{φ:Prop}(hφ:φ)
  (h1:oblO (runToR P hints cuts ren c s t)=φ) (h2:lefO (runToR P hints cuts ren c s t)=rigO (runToR P hints cuts ren c s t)) (h3:exO (runToR P hints cuts ren c s t)=O e):CSpec P c s e t.st:=by
 rw[<- h1]at hφ;cases hr:runToR P hints cuts ren c s t with
 | none=>rw[hr]at hφ;exact hφ.elim
 | some r =>
  rw[hr]at hφ h2 h3;have heq:EqP r.eq:=Z8y h2;have he:r.e=e:=by simpa[exO]using h3
  unfold runToR at hr;split at hr
  .cases hr
  rename_i q hq;split at hr
  .cases hr
  rename_i s' hs';split at hr;rotate_left
  .cases hr
  rename_i l hl;cases hr;intro Ow Im0 w0 a w hS;refine wp_mono (Z9s hq hφ heq.left Ow Im0 w0 a w hS) ?_;rintro e' a' w' ⟨rfl,hS'⟩;exact⟨by rw[<- he],ZgZ hl heq.right (ZbW hs' hS')⟩
end Go.Sx
