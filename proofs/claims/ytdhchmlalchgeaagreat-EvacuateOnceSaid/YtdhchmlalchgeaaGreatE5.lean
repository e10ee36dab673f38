/-
 The statement EvacuateOnce: part 5.
 Conditions: none.
-/
import Derived.IntWalk
import Derived.Test.YtdhchmlalchgeaaGreatRows
import Derived.Test.YtdhchmlalchgeaaGreatE4
set_option maxRecDepth 100000
set_option maxHeartbeats 2000000
set_option linter.all false
namespace Go.Proofs.YtdhchmlalchgeaaGreat
open Go.Sx
abbrev GP:=GSpec Tryz.prog
abbrev LP:=LentSpec Tryz.prog
abbrev BP:=BorSpec Tryz.prog
abbrev CP:=CSpec Tryz.prog
structure Conf where
 pw:Int
 pg:Int
 deriving DecidableEq,Inhabited
def Conf.av(c:Conf):AV:=.ag [int c.pw,int c.pg]
def Z05(c:Conf):Bool:=decide (16≤c.pw)&&decide (c.pw≤64)&&(c.pw.tmod 4==0)&&decide (8≤c.pg)&&decide (c.pg≤64)
theorem validB_iff{c:Conf}:Z05 c=true↔16≤c.pw∧c.pw≤64∧c.pw.tmod 4=0∧8≤c.pg∧c.pg≤64:=by
 simp[Z05,and_assoc]
def Z2q(c:Conf):Int:=if Z05 c=true then c.pg.tdiv 4 else 0
def Z00(c:Conf):Int:=if Z05 c=true then c.pw.tdiv 4 else 0
theorem Z18{n:Int}(h1:-9223372036854775808≤n)(h2:n≤9223372036854775807):IntKind.i64.wrap n=n:=IntWalk.i64_in n ⟨h1,h2⟩
theorem Z4O{a b:Int}(h:0≤a):a.tdiv b=a/b:=Int.tdiv_eq_ediv_of_nonneg h
theorem ZmT{a b:Int}(h:0≤a):a.tmod b=a%b:=Int.tmod_eq_emod_of_nonneg h
theorem Z0V(c:Conf):GP 127 [c.av] true (bool (Z05 c)) []:=by
 refine Z0i [] [] [] dd Tryz.func127 (φ:=(decide ((16:Int)≤c.pw)&&decide (c.pw≤(64:Int)))=true→(4:Int)=(0:Int)→False) ?_ kr kr;intro _ ;decide
theorem Z0E(c:Conf):GP 86 [c.av] true (bool (Z05 c)) []:=by
 refine Z0i [] [] [] dd Tryz.func86 (φ:=(decide ((16:Int)≤c.pw)&&decide (c.pw≤(64:Int)))=true→(4:Int)=(0:Int)→False) ?_ kr kr;intro _ ;decide
theorem Z6z(c:Conf):GP 186 [c.av] true (int (Z2q c)) []:=by
 by_cases h:Z05 c=true
 ·have hv:=validB_iff.1 h;have e:Z2q c=c.pg.tdiv 4:=if_pos h;rw[e];refine Z0i [(4,[.call true (bool (Z05 c)) []]),(5,[.br false]),(8,[.int (c.pg.tdiv 4)])] [] [] dd Tryz.func186 (φ:=GP 86 [AV.ag [int c.pw,int c.pg]] true (Sx.bool (Z05 c)) []∧(!Z05 c)=false∧false=false∧IntKind.i64.wrap (c.pg.tdiv (4:Int))=c.pg.tdiv (4:Int)∧((4:Int)=(0:Int)→False)) ?_ kr kr;exact⟨Z0E c,by simp[h],rfl,Z18 (by rw[Z4O oq];omega) (by rw[Z4O oq];omega),by decide⟩
 ·have e:Z2q c=0:=if_neg h;rw[e];refine Z0i [(4,[.call true (bool (Z05 c)) []]),(5,[.br true])] [] [] dd Tryz.func186 (φ:=GP 86 [AV.ag [int c.pw,int c.pg]] true (Sx.bool (Z05 c)) []∧(!Z05 c)=true∧true=true) ?_ kr kr;exact⟨Z0E c,by simp[h],rfl⟩
theorem Z3i(c:Conf):GP 191 [c.av] true (int (Z00 c)) []:=by
 by_cases h:Z05 c=true
 ·have hv:=validB_iff.1 h;have e:Z00 c=c.pw.tdiv 4:=if_pos h;rw[e];refine Z0i [(4,[.call true (bool (Z05 c)) []]),(5,[.br false]),(8,[.int (c.pw.tdiv 4)])] [] [] dd Tryz.func191 (φ:=GP 127 [AV.ag [int c.pw,int c.pg]] true (Sx.bool (Z05 c)) []∧(!Z05 c)=false∧false=false∧IntKind.i64.wrap (c.pw.tdiv (4:Int))=c.pw.tdiv (4:Int)∧((4:Int)=(0:Int)→False)) ?_ kr kr;exact⟨Z0V c,by simp[h],rfl,Z18 (by rw[Z4O oq];omega) (by rw[Z4O oq];omega),by decide⟩
 ·have e:Z00 c=0:=if_neg h;rw[e];refine Z0i [(4,[.call true (bool (Z05 c)) []]),(5,[.br true])] [] [] dd Tryz.func191 (φ:=GP 127 [AV.ag [int c.pw,int c.pg]] true (Sx.bool (Z05 c)) []∧(!Z05 c)=true∧true=true) ?_ kr kr;exact⟨Z0V c,by simp[h],rfl⟩
theorem Z1f(c:Conf):GP 151 [c.av] true (int (Z00 c)) []:=by
 by_cases h:Z05 c=true
 ·have hv:=validB_iff.1 h;have e:Z00 c=c.pw.tdiv 4:=if_pos h;rw[e];refine Z0i [(4,[.call true (bool (Z05 c)) []]),(5,[.br false]),(8,[.int (c.pw.tdiv 4)])] [] [] dd Tryz.func151 (φ:=GP 86 [AV.ag [int c.pw,int c.pg]] true (Sx.bool (Z05 c)) []∧(!Z05 c)=false∧false=false∧IntKind.i64.wrap (c.pw.tdiv (4:Int))=c.pw.tdiv (4:Int)∧((4:Int)=(0:Int)→False)) ?_ kr kr;exact⟨Z0E c,by simp[h],rfl,Z18 (by rw[Z4O oq];omega) (by rw[Z4O oq];omega),by decide⟩
 ·have e:Z00 c=0:=if_neg h;rw[e];refine Z0i [(4,[.call true (bool (Z05 c)) []]),(5,[.br true])] [] [] dd Tryz.func151 (φ:=GP 86 [AV.ag [int c.pw,int c.pg]] true (Sx.bool (Z05 c)) []∧(!Z05 c)=true∧true=true) ?_ kr kr;exact⟨Z0E c,by simp[h],rfl⟩
def need(c:Conf)(n:Int):Int:=if Z05 c=true∧1≤n∧n≤4*c.pw then(if n≤c.pw/4 then 0 else(n+c.pw-1)/c.pw)else -1
theorem Z1v{c:Conf}(h:Z05 c=true):Z00 c=c.pw/4:=by
 have hv:=validB_iff.1 h;rw[Z00,if_pos h,Z4O oq]
theorem Z84(c:Conf)(n:Int):GP 167 [c.av,int n] true (int (need c n)) []:=by
 by_cases h:Z05 c=true∧1≤n∧n≤4*c.pw
 ·obtain⟨h,h1,h2⟩:=h;have hv:=validB_iff.1 h;by_cases h3:n≤c.pw/4
  ·have e:need c n=0:=by rw[need,if_pos ⟨h,h1,h2⟩,if_pos h3]
   rw[e];refine Z0i [(7,[.call true (bool (Z05 c)) []]),(17,[.int (4*c.pw)]),(19,[.br false]),(23,[.call true (int (Z00 c)) []]),(24,[.br true])] [] [] dd Tryz.func167 (φ:=GP 127 [AV.ag [int c.pw,int c.pg]] true (Sx.bool (Z05 c)) []∧((!(!Z05 c||decide (n<(1:Int))))=true→IntKind.i64.wrap ((4:Int)*c.pw)=(4:Int)*c.pw)∧(!Z05 c||decide (n<(1:Int))||decide ((4:Int)*c.pw<n))=false∧GP 191 [AV.ag [int c.pw,int c.pg]] true (int (Z00 c)) []∧decide (n≤Z00 c)=true) ?_ kr kr;exact⟨Z0V c,fun _=>Z18 oq oq,by simp[h];omega,Z3i c,by rw[Z1v h];simpa using h3⟩
  ·have e:need c n=(n+c.pw-1).tdiv c.pw:=by rw[need,if_pos ⟨h,h1,h2⟩,if_neg h3,Z4O oq]
   have hq:(n+c.pw-1)/c.pw≤n+c.pw-1:=Int.ediv_le_self _ oq;have hq0:0≤(n+c.pw-1)/c.pw:=Int.ediv_nonneg oq oq;rw[e];refine Z0i [(7,[.call true (bool (Z05 c)) []]),(17,[.int (4*c.pw)]),(19,[.br false]),(23,[.call true (int (Z00 c)) []]),(24,[.br false]),(28,[.int (n+c.pw)]),(29,[.int (n+c.pw-1)]),(32,[.int ((n+c.pw-1).tdiv c.pw)])] [] [] dd Tryz.func167 (φ:=GP 127 [AV.ag [int c.pw,int c.pg]] true (Sx.bool (Z05 c)) []∧((!(!Z05 c||decide (n<(1:Int))))=true→IntKind.i64.wrap ((4:Int)*c.pw)=(4:Int)*c.pw)∧(!Z05 c||decide (n<(1:Int))||decide ((4:Int)*c.pw<n))=false∧GP 191 [AV.ag [int c.pw,int c.pg]] true (int (Z00 c)) []∧decide (n≤Z00 c)=false∧IntKind.i64.wrap (n+c.pw)=n+c.pw∧IntKind.i64.wrap (n+c.pw-(1:Int))=n+c.pw-(1:Int)∧IntKind.i64.wrap ((n+c.pw-(1:Int)).tdiv c.pw)=(n+c.pw-(1:Int)).tdiv c.pw∧(c.pw=(0:Int)→False)) ?_ kr kr;exact⟨Z0V c,fun _=>Z18 oq oq,by simp[h];omega,Z3i c,by rw[Z1v h];simpa using h3,Z18 oq oq,Z18 oq oq,Z18 (by rw[Z4O oq];omega) (by rw[Z4O oq];omega),by omega⟩
 ·have e:need c n=-1:=if_neg h;rw[e];refine Z0i [(7,[.call true (bool (Z05 c)) []]),(17,[.int (4*c.pw)]),(19,[.br true])] [] [] dd Tryz.func167 (φ:=GP 127 [AV.ag [int c.pw,int c.pg]] true (Sx.bool (Z05 c)) []∧((!(!Z05 c||decide (n<(1:Int))))=true→IntKind.i64.wrap ((4:Int)*c.pw)=(4:Int)*c.pw)∧(!Z05 c||decide (n<(1:Int))||decide ((4:Int)*c.pw<n))=true) ?_ kr kr;refine⟨Z0V c,fun h'=>?_, ?_⟩
  ·simp at h';have hv:=validB_iff.1 h'.1;exact Z18 oq oq
  ·simp;cases hv:Z05 c with
   | false=>simp
   | true =>
    simp only[hv,true_and]at h;simp;omega
theorem Zh2{c:Conf}{n:Int}{k:Nat}(h:Z05 c=true)(h1:1≤n)(h2:c.pw/4<n)(hk:k≤4)(h3:((k:Int)-1)*c.pw<n)(h4:n≤k*c.pw):need c n=k:=by
 have hv:=validB_iff.1 h;have h5:(k:Int)*c.pw≤4*c.pw:=Int.mul_le_mul_of_nonneg_right oq oq;rw[need,if_pos ⟨h,h1,by omega⟩,if_neg oq];rw[Int.sub_mul]at h3;refine Int.le_antisymm (Int.le_of_lt_add_one (Int.ediv_lt_of_lt_mul oq ?_)) (Int.le_ediv_of_mul_le oq oq);rw[Int.add_mul];omega
def Zcl(c:Conf)(n:Int)(k:Nat):Tg:=⟨tm 28 [(1,int n),(2,.pt 8002 0 0),(4,int 0),(5,int k)],[(8002,.box 24 [int c.pw,int c.pg])],20⟩
theorem ZaE(c:Conf)(n:Int)(k:Nat)(hw:c.pw≤64)(hw0:0≤c.pw)(hk:k≤4)(hn:k*c.pw<n):CP (rndF Tryz.f123 0) (Zcl c n k).st .nrm (Zcl c n (k+1)).st:=by
 have hm:(k:Int)*c.pw≤4*c.pw:=Int.mul_le_mul_of_nonneg_right oq oq;have hm0:0≤(k:Int)*c.pw:=Int.mul_nonneg oq oq;refine Z1C [(18,[.br true]),(24,[.int (k*c.pw)]),(26,[.br false]),(20,[.int ((k+1:Nat):Int)])] [] (φ:=decide ((↑k:Int)≤(4:Int))=true∧true=true∧IntKind.i64.wrap ((↑k:Int)*c.pw)=(↑k:Int)*c.pw∧decide (n≤(↑k:Int)*c.pw)=false∧false=false∧IntKind.i64.wrap ((↑k:Int)+(1:Int))=(↑(k+(1:Nat)):Int)) ?_ kr kr kr;exact⟨decide_eq_true oq,rfl,Z18 oq oq,decide_eq_false oq,rfl,Z18 oq oq⟩
theorem Z4G(c:Conf)(n:Int):GP 123 [c.av,int n] true (int (need c n)) []:=by
 by_cases h:Z05 c=true∧1≤n
 ·obtain⟨h,h1⟩:=h;have hv:=validB_iff.1 h;by_cases h3:n≤c.pw/4
  ·have e:need c n=0:=by rw[need,if_pos ⟨h,h1,by omega⟩,if_pos h3]
   rw[e];refine Z0i [(7,[.call true (bool (Z05 c)) []]),(12,[.br false]),(15,[.call true (int (Z00 c)) []]),(16,[.br true])] [] [] dd Tryz.func123 (φ:=GP 86 [AV.ag [int c.pw,int c.pg]] true (Sx.bool (Z05 c)) []∧(!Z05 c||decide (n<(1:Int)))=false∧false=false∧GP 151 [AV.ag [int c.pw,int c.pg]] true (int (Z00 c)) []∧decide (n≤Z00 c)=true∧true=true) ?_ kr kr;exact⟨Z0E c,by simp[h];omega,rfl,Z1f c,by rw[Z1v h];simpa using h3,rfl⟩
  ·by_cases h4:n≤4*c.pw
   ·-- it is found
    have hk:∃ k:Nat,1≤k∧k≤4∧((k:Int)-1)*c.pw<n∧n≤k*c.pw:=by
     by_cases a1:n≤c.pw
     ·exact⟨1,by omega,by omega,by omega,by omega⟩
     by_cases a2:n≤2*c.pw
     ·exact⟨2,by omega,by omega,by omega,by omega⟩
     by_cases a3:n≤3*c.pw
     ·exact⟨3,by omega,by omega,by omega,by omega⟩
     ·exact⟨4,by omega,by omega,by omega,by omega⟩
    obtain⟨k,k1,k4,klo,khi⟩:=hk;rw[Zh2 h h1 oq k4 klo khi];refine Z0i [(7,[.call true (bool (Z05 c)) []]),(12,[.br false]),(15,[.call true (int (Z00 c)) []]),(16,[.br false])] [(0,Zcl c n 1,.ret,⟨tm 28 [(4,int k)],[],30⟩)] [] dd Tryz.func123 (φ:=GP 86 [AV.ag [int c.pw,int c.pg]] true (Sx.bool (Z05 c)) []∧(!Z05 c||decide (n<(1:Int)))=false∧false=false∧GP 151 [AV.ag [int c.pw,int c.pg]] true (int (Z00 c)) []∧decide (n≤Z00 c)=false∧false=false∧CP (blkF Tryz.f123 (0:Nat)) (Zcl c n (1:Nat)).st Ex.ret (Tg.mk (tm (28:Nat) [((4:Nat),int (↑k:Int))]) [] (30:Nat)).st) ?_ kr kr;refine⟨Z0E c,by simp[h];omega,rfl,Z1f c,by rw[Z1v h];simpa using h3,rfl, ?_⟩;obtain⟨j,rfl⟩:∃ j,k=j+1:=⟨k-1,by omega⟩
    refine Z0I (S:=fun i=>(Zcl c n (i+1)).st) j kr (fun i hi=>ZaE c n (i+1) oq oq oq ?_) ?_
    ·have:((i+1:Nat):Int)*c.pw≤((j+1:Nat)-1:Int)*c.pw:=Int.mul_le_mul_of_nonneg_right oq oq;omega
    ·have hm:((j+1:Nat):Int)*c.pw≤4*c.pw:=Int.mul_le_mul_of_nonneg_right oq oq;have hm0:0≤((j+1:Nat):Int)*c.pw:=Int.mul_nonneg oq oq;refine Z1C [(18,[.br true]),(24,[.int ((j+1:Nat)*c.pw)]),(26,[.br true])] [] (φ:=decide ((↑(j+(1:Nat)):Int)≤(4:Int))=true∧true=true∧IntKind.i64.wrap ((↑(j+(1:Nat)):Int)*c.pw)=(↑(j+(1:Nat)):Int)*c.pw∧decide (n≤(↑(j+(1:Nat)):Int)*c.pw)=true∧true=true) ?_ kr kr kr;exact⟨decide_eq_true oq,rfl,Z18 oq oq,decide_eq_true oq,rfl⟩
   ·have e:need c n=-1:=by rw[need,if_neg oq]
    rw[e];refine Z0i [(7,[.call true (bool (Z05 c)) []]),(12,[.br false]),(15,[.call true (int (Z00 c)) []]),(16,[.br false])] [(0,Zcl c n 1,.nrm,⟨tm 28 [],[],30⟩)] [] dd Tryz.func123 (φ:=GP 86 [AV.ag [int c.pw,int c.pg]] true (Sx.bool (Z05 c)) []∧(!Z05 c||decide (n<(1:Int)))=false∧false=false∧GP 151 [AV.ag [int c.pw,int c.pg]] true (int (Z00 c)) []∧decide (n≤Z00 c)=false∧false=false∧CP (blkF Tryz.f123 (0:Nat)) (Zcl c n (1:Nat)).st Ex.nrm (Tg.mk (tm (28:Nat) []) [] (30:Nat)).st) ?_ kr kr;refine⟨Z0E c,by simp[h];omega,rfl,Z1f c,by rw[Z1v h];simpa using h3,rfl, ?_⟩;refine Z0a (S:=fun i=>(Zcl c n (i+1)).st) 4 kr (fun i hi=>ZaE c n (i+1) oq oq oq ?_) ?_
    ·have:((i+1:Nat):Int)*c.pw≤4*c.pw:=Int.mul_le_mul_of_nonneg_right oq oq;omega
    ·refine Z1C [(18,[.br false])] [] (φ:=decide ((↑((4:Nat)+(1:Nat)):Int)≤(4:Int))=false∧false=false) ?_ kr kr kr;exact⟨rfl,rfl⟩
 ·have e:need c n=-1:=if_neg fun h'=>h ⟨h'.1,h'.2.1⟩;rw[e];refine Z0i [(7,[.call true (bool (Z05 c)) []]),(12,[.br true])] [] [] dd Tryz.func123 (φ:=GP 86 [AV.ag [int c.pw,int c.pg]] true (Sx.bool (Z05 c)) []∧(!Z05 c||decide (n<(1:Int)))=true∧true=true) ?_ kr kr;refine⟨Z0E c, ?_,rfl⟩;cases hv:Z05 c with
  | false=>simp
  | true =>
   simp only[hv,true_and]at h;simp;omega
theorem Z9z{n:Int}(h1:0≤n)(h2:n≤18446744073709551615):IntKind.u64.wrap n=n:=IntWalk.u64_in n ⟨h1,h2⟩
theorem area{c:Conf}(h:Z05 c=true):128≤c.pw*c.pg∧c.pw*c.pg≤4096:=by
 have hv:=validB_iff.1 h;have h1:16*c.pg≤c.pw*c.pg:=Int.mul_le_mul_of_nonneg_right oq oq;have h2:c.pw*c.pg≤64*c.pg:=Int.mul_le_mul_of_nonneg_right oq oq;omega
theorem Zfa{c:Conf}{p o:Int}(h:Z05 c=true)(h1:0≤p)(h2:p<c.pg)(_:0≤o)(h4:o<c.pw):0≤p*c.pw∧p*c.pw+o<c.pw*c.pg:=by
 have hv:=validB_iff.1 h;have h5:(p+1)*c.pw≤c.pg*c.pw:=Int.mul_le_mul_of_nonneg_right oq oq;have h6:0≤p*c.pw:=Int.mul_nonneg oq oq;rw[Int.add_mul,Int.mul_comm c.pg]at h5;omega
def inB(c:Conf)(p o:Int):Bool:=decide (0≤p)&&decide (p<c.pg)&&decide (0≤o)&&decide (o<c.pw)
theorem inB_iff{c:Conf}{p o:Int}:inB c p o=true↔0≤p∧p<c.pg∧0≤o∧o<c.pw:=by simp[inB,and_assoc]
def address(c:Conf)(p o:Int):Int×Int:=if Z05 c=true then(if inB c p o=true then(4096+(p*c.pw+o),0)else(0,2))else(0,1)
def Z0R(c:Conf)(p o:Int):AV:=.tu [u64 (address c p o).1,int (address c p o).2]
theorem Z3M(c:Conf)(p o:Int):GP 177 [c.av,int p,int o] true (Z0R c p o) []:=by
 by_cases h:Z05 c=true
 ·have ha:=area h;by_cases h1:inB c p o=true
  ·obtain⟨p1,p2,o1,o2⟩:=inB_iff.1 h1;have hi:=Zfa h p1 p2 o1 o2;have e:Z0R c p o = .tu [u64 (4096+(p*c.pw+o)),int 0]:=by rw[Z0R,address,if_pos h,if_pos h1]
   rw[e];refine Z0i [(10,[.call true (bool (Z05 c)) []]),(11,[.br false]),(30,[.br false]),(34,[.int (p*c.pw)]),(36,[.int (p*c.pw+o)]),(37,[.int (p*c.pw+o)]),(38,[.int (4096+(p*c.pw+o))])] [] [] dd Tryz.func177 (φ:=GP 127 [AV.ag [int c.pw,int c.pg]] true (Sx.bool (Z05 c)) []∧(!Z05 c)=false∧(decide (p<(0:Int))||decide (c.pg≤p)||decide (o<(0:Int))||decide (c.pw≤o))=false∧IntKind.i64.wrap (p*c.pw)=p*c.pw∧IntKind.i64.wrap (p*c.pw+o)=p*c.pw+o∧IntKind.u64.wrap (p*c.pw+o)=p*c.pw+o∧IntKind.u64.wrap ((4096:Int)+(p*c.pw+o))=(4096:Int)+(p*c.pw+o)) ?_ kr kr;exact⟨Z0V c,by simp[h],by simp;omega,Z18 oq oq,Z18 oq oq,Z9z oq oq,Z9z oq oq⟩
  ·have e:Z0R c p o = .tu [u64 0,int 2]:=by rw[Z0R,address,if_pos h,if_neg h1]
   rw[e];refine Z0i [(10,[.call true (bool (Z05 c)) []]),(11,[.br false]),(30,[.br true])] [] [] dd Tryz.func177 (φ:=GP 127 [AV.ag [int c.pw,int c.pg]] true (Sx.bool (Z05 c)) []∧(!Z05 c)=false∧(decide (p<(0:Int))||decide (c.pg≤p)||decide (o<(0:Int))||decide (c.pw≤o))=true) ?_ kr kr;refine⟨Z0V c,by simp[h], ?_⟩;rw[inB_iff]at h1;simp;omega
 ·have e:Z0R c p o = .tu [u64 0,int 1]:=by rw[Z0R,address,if_neg h]
  rw[e];refine Z0i [(10,[.call true (bool (Z05 c)) []]),(11,[.br true])] [] [] dd Tryz.func177 (φ:=GP 127 [AV.ag [int c.pw,int c.pg]] true (Sx.bool (Z05 c)) []∧(!Z05 c)=true) ?_ kr kr;exact⟨Z0V c,by simp[h]⟩
theorem Z5N(c:Conf)(p o:Int):GP 173 [c.av,int p,int o] true (Z0R c p o) []:=by
 by_cases h:Z05 c=true
 ·have ha:=area h;by_cases h1:inB c p o=true
  ·obtain⟨p1,p2,o1,o2⟩:=inB_iff.1 h1;have hi:=Zfa h p1 p2 o1 o2;have e:Z0R c p o = .tu [u64 (4096+p*c.pw+o),int 0]:=by rw[Z0R,address,if_pos h,if_pos h1,Int.add_assoc]
   rw[e];refine Z0i [(9,[.call true (bool (Z05 c)) []]),(10,[.br false]),(28,[.br false]),(32,[.int (p*c.pw)]),(33,[.int (4096+p*c.pw)]),(35,[.int (4096+p*c.pw+o)]),(36,[.int (4096+p*c.pw+o)])] [] [] dd Tryz.func173 (φ:=GP 86 [AV.ag [int c.pw,int c.pg]] true (Sx.bool (Z05 c)) []∧(!Z05 c)=false∧false=false∧(decide (p<(0:Int))||decide (c.pg≤p)||decide (o<(0:Int))||decide (c.pw≤o))=false∧false=false∧IntKind.i64.wrap (p*c.pw)=p*c.pw∧IntKind.i64.wrap ((4096:Int)+p*c.pw)=(4096:Int)+p*c.pw∧IntKind.i64.wrap ((4096:Int)+p*c.pw+o)=(4096:Int)+p*c.pw+o∧IntKind.u64.wrap ((4096:Int)+p*c.pw+o)=(4096:Int)+p*c.pw+o) ?_ kr kr;exact⟨Z0E c,by simp[h],rfl,by simp;omega,rfl,Z18 oq oq,Z18 oq oq,Z18 oq oq,Z9z oq oq⟩
  ·have e:Z0R c p o = .tu [u64 0,int 2]:=by rw[Z0R,address,if_pos h,if_neg h1]
   rw[e];refine Z0i [(9,[.call true (bool (Z05 c)) []]),(10,[.br false]),(28,[.br true])] [] [] dd Tryz.func173 (φ:=GP 86 [AV.ag [int c.pw,int c.pg]] true (Sx.bool (Z05 c)) []∧(!Z05 c)=false∧false=false∧(decide (p<(0:Int))||decide (c.pg≤p)||decide (o<(0:Int))||decide (c.pw≤o))=true∧true=true) ?_ kr kr;refine⟨Z0E c,by simp[h],rfl, ?_,rfl⟩;rw[inB_iff]at h1;simp;omega
 ·have e:Z0R c p o = .tu [u64 0,int 1]:=by rw[Z0R,address,if_neg h]
  rw[e];refine Z0i [(9,[.call true (bool (Z05 c)) []]),(10,[.br true])] [] [] dd Tryz.func173 (φ:=GP 86 [AV.ag [int c.pw,int c.pg]] true (Sx.bool (Z05 c)) []∧(!Z05 c)=true∧true=true) ?_ kr kr;exact⟨Z0E c,by simp[h],rfl⟩
def ofA(c:Conf)(a:Int):Int×Int×Int:=if Z05 c=true then(if 4096≤a∧a<4096+c.pw*c.pg then((a-4096)/c.pw,(a-4096)%c.pw,0)else(0,0,2))else(0,0,1)
def ofV(c:Conf)(a:Int):AV:=.tu [int (ofA c a).1,int (ofA c a).2.1,int (ofA c a).2.2]
theorem Z2n(c:Conf)(a:Int)(a0:0≤a)(a1:a≤18446744073709551615):GP 138 [c.av,u64 a] true (ofV c a) []:=by
 by_cases h:Z05 c=true
 ·have ha:=area h;have hv:=validB_iff.1 h;by_cases h1:4096≤a∧a<4096+c.pw*c.pg
  ·have d1:0≤(a-4096)/c.pw:=Int.ediv_nonneg oq oq;have d2:(a-4096)/c.pw≤a-4096:=Int.ediv_le_self _ oq;have e:ofV c a = .tu [int ((a-4096).tdiv c.pw),int ((a-4096).tmod c.pw),int 0]:=by rw[ofV,ofA,if_pos h,if_pos h1,Z4O oq,ZmT oq]
   rw[e];refine Z0i [(10,[.call true (bool (Z05 c)) []]),(11,[.br false]),(17,[.int (a-4096)]),(22,[.int (c.pw*c.pg)]),(23,[.int (c.pw*c.pg)]),(25,[.br false]),(27,[.int (a-4096)]),(28,[.int (a-4096)]),(32,[.int ((a-4096).tdiv c.pw)])] [] [] dd Tryz.func138 (φ:=GP 127 [AV.ag [int c.pw,int c.pg]] true (Sx.bool (Z05 c)) []∧(!Z05 c)=false∧((!decide (a<(4096:Int)))=true→IntKind.u64.wrap (a-(4096:Int))=a-(4096:Int))∧((!decide (a<(4096:Int)))=true→IntKind.i64.wrap (c.pw*c.pg)=c.pw*c.pg)∧((!decide (a<(4096:Int)))=true→IntKind.u64.wrap (c.pw*c.pg)=c.pw*c.pg)∧(decide (a<(4096:Int))||decide (c.pw*c.pg≤a-(4096:Int)))=false∧IntKind.u64.wrap (a-(4096:Int))=a-(4096:Int)∧IntKind.i64.wrap (a-(4096:Int))=a-(4096:Int)∧IntKind.i64.wrap ((a-(4096:Int)).tdiv c.pw)=(a-(4096:Int)).tdiv c.pw∧(c.pw=(0:Int)→False)∧(c.pw=(0:Int)→False)) ?_ kr kr;exact⟨Z0V c,by simp[h],fun _=>Z9z oq oq,fun _=>Z18 oq oq,fun _=>Z9z oq oq,by simp;omega,Z9z oq oq,Z18 oq oq,Z18 (by rw[Z4O oq];omega) (by rw[Z4O oq];omega),by omega,by omega⟩
  ·have e:ofV c a = .tu [int 0,int 0,int 2]:=by rw[ofV,ofA,if_pos h,if_neg h1]
   rw[e];refine Z0i [(10,[.call true (bool (Z05 c)) []]),(11,[.br false]),(17,[.int (a-4096)]),(22,[.int (c.pw*c.pg)]),(23,[.int (c.pw*c.pg)]),(25,[.br true])] [] [] dd Tryz.func138 (φ:=GP 127 [AV.ag [int c.pw,int c.pg]] true (Sx.bool (Z05 c)) []∧(!Z05 c)=false∧((!decide (a<(4096:Int)))=true→IntKind.u64.wrap (a-(4096:Int))=a-(4096:Int))∧((!decide (a<(4096:Int)))=true→IntKind.i64.wrap (c.pw*c.pg)=c.pw*c.pg)∧((!decide (a<(4096:Int)))=true→IntKind.u64.wrap (c.pw*c.pg)=c.pw*c.pg)∧(decide (a<(4096:Int))||decide (c.pw*c.pg≤a-(4096:Int)))=true) ?_ kr kr;refine⟨Z0V c,by simp[h],fun h'=>Z9z (by simp at h';omega) oq,fun _=>Z18 oq oq,fun _=>Z9z oq oq,by simp;omega⟩
 ·have e:ofV c a = .tu [int 0,int 0,int 1]:=by rw[ofV,ofA,if_neg h]
  rw[e];refine Z0i [(10,[.call true (bool (Z05 c)) []]),(11,[.br true])] [] [] dd Tryz.func138 (φ:=GP 127 [AV.ag [int c.pw,int c.pg]] true (Sx.bool (Z05 c)) []∧(!Z05 c)=true) ?_ kr kr;exact⟨Z0V c,by simp[h]⟩
theorem Z4L(c:Conf)(a:Int)(a0:0≤a)(a1:a≤18446744073709551615):GP 38 [c.av,u64 a] true (ofV c a) []:=by
 by_cases h:Z05 c=true
 ·have ha:=area h;rw[Int.mul_comm]at ha;have hv:=validB_iff.1 h;by_cases h1:4096≤a∧a<4096+c.pg*c.pw
  ·have d1:0≤(a-4096)/c.pw:=Int.ediv_nonneg oq oq;have d2:(a-4096)/c.pw≤a-4096:=Int.ediv_le_self _ oq;have e:ofV c a = .tu [int ((a-4096).tdiv c.pw),int ((a-4096).tmod c.pw),int 0]:=by rw[ofV,ofA,if_pos h,if_pos (by rw[Int.mul_comm c.pw];exact h1),Z4O oq,ZmT oq]
   rw[e];refine Z0i [(9,[.call true (bool (Z05 c)) []]),(10,[.br false]),(19,[.int (c.pg*c.pw)]),(20,[.int (4096+c.pg*c.pw)]),(21,[.int (4096+c.pg*c.pw)]),(23,[.br false]),(25,[.int (a-4096)]),(26,[.int (a-4096)]),(30,[.int ((a-4096).tdiv c.pw)])] [] [] dd Tryz.func38 (φ:=GP 86 [AV.ag [int c.pw,int c.pg]] true (Sx.bool (Z05 c)) []∧(!Z05 c)=false∧false=false∧((!decide (a<(4096:Int)))=true→IntKind.i64.wrap (c.pg*c.pw)=c.pg*c.pw)∧((!decide (a<(4096:Int)))=true→IntKind.i64.wrap ((4096:Int)+c.pg*c.pw)=(4096:Int)+c.pg*c.pw)∧((!decide (a<(4096:Int)))=true→IntKind.u64.wrap ((4096:Int)+c.pg*c.pw)=(4096:Int)+c.pg*c.pw)∧(decide (a<(4096:Int))||decide ((4096:Int)+c.pg*c.pw≤a))=false∧false=false∧IntKind.u64.wrap (a-(4096:Int))=a-(4096:Int)∧IntKind.i64.wrap (a-(4096:Int))=a-(4096:Int)∧IntKind.i64.wrap ((a-(4096:Int)).tdiv c.pw)=(a-(4096:Int)).tdiv c.pw∧(c.pw=(0:Int)→False)∧(c.pw=(0:Int)→False)) ?_ kr kr;exact⟨Z0E c,by simp[h],rfl,fun _=>Z18 oq oq,fun _=>Z18 oq oq,fun _=>Z9z oq oq,by simp;omega,rfl,Z9z oq oq,Z18 oq oq,Z18 (by rw[Z4O oq];omega) (by rw[Z4O oq];omega),by omega,by omega⟩
  ·have e:ofV c a = .tu [int 0,int 0,int 2]:=by rw[ofV,ofA,if_pos h,if_neg (by rw[Int.mul_comm c.pw];exact h1)]
   rw[e];refine Z0i [(9,[.call true (bool (Z05 c)) []]),(10,[.br false]),(19,[.int (c.pg*c.pw)]),(20,[.int (4096+c.pg*c.pw)]),(21,[.int (4096+c.pg*c.pw)]),(23,[.br true])] [] [] dd Tryz.func38 (φ:=GP 86 [AV.ag [int c.pw,int c.pg]] true (Sx.bool (Z05 c)) []∧(!Z05 c)=false∧false=false∧((!decide (a<(4096:Int)))=true→IntKind.i64.wrap (c.pg*c.pw)=c.pg*c.pw)∧((!decide (a<(4096:Int)))=true→IntKind.i64.wrap ((4096:Int)+c.pg*c.pw)=(4096:Int)+c.pg*c.pw)∧((!decide (a<(4096:Int)))=true→IntKind.u64.wrap ((4096:Int)+c.pg*c.pw)=(4096:Int)+c.pg*c.pw)∧(decide (a<(4096:Int))||decide ((4096:Int)+c.pg*c.pw≤a))=true∧true=true) ?_ kr kr;refine⟨Z0E c,by simp[h],rfl,fun _=>Z18 oq oq,fun _=>Z18 oq oq,fun _=>Z9z oq oq,by simp;omega,rfl⟩
 ·have e:ofV c a = .tu [int 0,int 0,int 1]:=by rw[ofV,ofA,if_neg h]
  rw[e];refine Z0i [(9,[.call true (bool (Z05 c)) []]),(10,[.br true])] [] [] dd Tryz.func38 (φ:=GP 86 [AV.ag [int c.pw,int c.pg]] true (Sx.bool (Z05 c)) []∧(!Z05 c)=true∧true=true) ?_ kr kr;exact⟨Z0E c,by simp[h],rfl⟩
structure Page where
 K:Int
 S:Int
 U:Int
 N:Int
 deriving DecidableEq,Inhabited
def Page.dv(p:Page):List DV:=[dint p.K,dint p.S,dint p.U,dint p.N]
def Page.av(p:Page):AV:=.ag [int p.K,int p.S,int p.U,int p.N]
def Z0r(l:List Page):AV:=.d (.sl 4 (l.map Page.dv))
def Z4U(p:Page):Bool:=decide (p=⟨0,0,0,0⟩)
def Z27(p:Page):Bool:=(p.S==0)||(p.S==1)
def Z3R(p:Page):Bool:=decide (0≤p.N)&&decide (p.N≤2147483647)
def Z5h(p:Page)(c:Conf):Bool:=Z27 p&&Z3R p&&decide (0≤p.U)&&decide (p.U≤c.pw)
def Z2w(p:Page)(c:Conf):Bool:=Z27 p&&Z3R p&&decide (1≤need c p.U)
def Z5S(p q:Page):Bool:=decide (p=⟨3,q.S,0,0⟩)
theorem Z6a(p:Page):GP 189 [p.av] true (bool (Z27 p)) []:=by
 refine Z0i [] [] [] dd Tryz.func189 (φ:=True) ?_ kr kr;trivial
theorem Z9h(p:Page):GP 190 [p.av] true (bool (Z3R p)) []:=by
 refine Z0i [] [] [] dd Tryz.func190 (φ:=True) ?_ kr kr;trivial
theorem entryFree(p:Page)(c:Conf):GP 164 [p.av,c.av] true (bool (Z4U p)) []:=by
 refine Z0i [(7,[.br (Z4U p)])] [] [] dd Tryz.func164 (φ:=(p.K==(0:Int)&&(p.S==(0:Int)&&(p.U==(0:Int)&&p.N==(0:Int))))=Z4U p) ?_ kr kr;rw[Bool.eq_iff_iff];cases p;simp[Z4U]
theorem ZaJ(p:Page)(c:Conf):GP 165 [p.av,c.av] true (bool (Z5h p c)) []:=by
 refine Z0i [(6,[.call true (bool (Z27 p)) []]),(9,[.call true (bool (Z3R p)) []])] [] [] dd Tryz.func165 (φ:=GP 189 [AV.ag [int p.K,int p.S,int p.U,int p.N]] true (Sx.bool (Z27 p)) []∧(Z27 p=true→GP 190 [AV.ag [int p.K,int p.S,int p.U,int p.N]] true (Sx.bool (Z3R p)) [])) ?_ kr kr;exact⟨Z6a p,fun _=>Z9h p⟩
theorem Z5D(p:Page)(c:Conf):GP 166 [p.av,c.av] true (bool (Z2w p c)) []:=by
 refine Z0i [(6,[.call true (bool (Z27 p)) []]),(9,[.call true (bool (Z3R p)) []]),(15,[.call true (int (need c p.U)) []])] [] [] dd Tryz.func166 (φ:=GP 189 [AV.ag [int p.K,int p.S,int p.U,int p.N]] true (Sx.bool (Z27 p)) []∧(Z27 p=true→GP 190 [AV.ag [int p.K,int p.S,int p.U,int p.N]] true (Sx.bool (Z3R p)) [])∧((Z27 p&&Z3R p)=true→GP 167 [AV.ag [int c.pw,int c.pg],int p.U] true (int (need c p.U)) [])) ?_ kr kr;exact⟨Z6a p,fun _=>Z9h p,fun _=>Z84 c p.U⟩
theorem ZdN(p q:Page):GP 168 [p.av,q.av] true (bool (Z5S p q)) []:=by
 refine Z0i [(9,[.br (Z5S p q)])] [] [] dd Tryz.func168 (φ:=(p.K==(3:Int)&&(p.S==q.S&&(p.U==(0:Int)&&p.N==(0:Int))))=Z5S p q) ?_ kr kr;rw[Bool.eq_iff_iff];cases p;simp[Z5S]
def Z5V(p:Page)(l:List Page):Bool:=l.all fun q=>Z5S q p
def Z1q(c:Conf)(l:List Page)(i:Nat):Nat:=match l[i]? with
 | none=>0
 | some p =>
  if p.K=0 then(if Z4U p=true then 1 else 0)
  else if p.K=1 then(if Z5h p c=true then 1 else 0)
  else if p.K=2 then(if Z2w p c=true then(if(need c p.U).toNat≤l.length-i∧Z5V p ((l.drop (i+1)).take ((need c p.U).toNat-1))=true then(need c p.U).toNat else 0)else 0)
  else 0
theorem Z1n{l:List Page}{i:Nat}{p:Page}(h:l[i]? = some p):(l.map Page.dv)[((i:Nat):Int).toNat]? = some p.dv:=by simp[h]
theorem Zdo(c:Conf)(l:List Page)(i:Nat)(p:Page)(hp:l[i]? = some p)(hk:p.K<0∨3≤p.K):GP 128 [c.av,Z0r l,int i] true (int (Z1q c l i)) []:=by
 have e:Z1q c l i=0:=by
  rw[Z1q,hp];simp only;rw[if_neg oq,if_neg oq,if_neg oq]
 rw[e];refine Z0i [(15,[.el p.dv]),(28,[.int 0]),(32,[.call true (bool (Z4U p)) []]),(34,[.br true])] [] [] dd Tryz.func128 (φ:=((0:Int)≤(↑i:Int)∧(List.map Page.dv l)[(↑i:Int).toNat]? = some p.dv)∧((!(decide (p.K<(0:Int))||decide ((3:Int)≤p.K)))=true→p.K=(0:Int))∧((!(decide (p.K<(0:Int))||decide ((3:Int)≤p.K)))=true→GP 164 [AV.ag [int p.K,int p.S,int p.U,int p.N],AV.ag [int c.pw,int c.pg]] true (Sx.bool (Z4U p)) [])∧(decide (p.K<(0:Int))||decide ((3:Int)≤p.K)||!Z4U p)=true∧true=true) ?_ kr kr;exact⟨⟨by omega,Z1n hp⟩,fun h=>by simp at h;omega,fun _=>entryFree p c,by simp;omega,rfl⟩
theorem ZbZ(c:Conf)(l:List Page)(i:Nat)(sp us pi:Int)(hp:l[i]? = some ⟨0,sp,us,pi⟩):GP 128 [c.av,Z0r l,int i] true (int (Z1q c l i)) []:=by
 cases hf:Z4U ⟨0,sp,us,pi⟩with
 | true =>
  have e:Z1q c l i=1:=by
   rw[Z1q,hp];simp[hf]
  rw[e];refine Z0i [(15,[.el (Page.dv ⟨0,sp,us,pi⟩)]),(32,[.call true (bool (Z4U ⟨0,sp,us,pi⟩)) []]),(34,[.br false])] [] [] dd Tryz.func128 (φ:=((0:Int)≤(↑i:Int)∧(List.map Page.dv l)[(↑i:Int).toNat]? = some (Page.mk (0:Int) sp us pi).dv)∧((!(decide ((Page.mk (0:Int) sp us pi).K<(0:Int))||decide ((3:Int)≤(Page.mk (0:Int) sp us pi).K)))=true→GP 164 [AV.ag [int (Page.mk (0:Int) sp us pi).K,int (Page.mk (0:Int) sp us pi).S,int (Page.mk (0:Int) sp us pi).U,int (Page.mk (0:Int) sp us pi).N],AV.ag [int c.pw,int c.pg]] true (Sx.bool (Z4U (Page.mk (0:Int) sp us pi))) [])∧(decide ((Page.mk (0:Int) sp us pi).K<(0:Int))||decide ((3:Int)≤(Page.mk (0:Int) sp us pi).K)||!Z4U (Page.mk (0:Int) sp us pi))=false∧false=false) ?_ kr kr;exact⟨⟨by omega,Z1n hp⟩,fun _=>entryFree _ c,by simp[hf],rfl⟩
 | false =>
  have e:Z1q c l i=0:=by
   rw[Z1q,hp];simp[hf]
  rw[e];refine Z0i [(15,[.el (Page.dv ⟨0,sp,us,pi⟩)]),(32,[.call true (bool (Z4U ⟨0,sp,us,pi⟩)) []]),(34,[.br true])] [] [] dd Tryz.func128 (φ:=((0:Int)≤(↑i:Int)∧(List.map Page.dv l)[(↑i:Int).toNat]? = some (Page.mk (0:Int) sp us pi).dv)∧((!(decide ((Page.mk (0:Int) sp us pi).K<(0:Int))||decide ((3:Int)≤(Page.mk (0:Int) sp us pi).K)))=true→GP 164 [AV.ag [int (Page.mk (0:Int) sp us pi).K,int (Page.mk (0:Int) sp us pi).S,int (Page.mk (0:Int) sp us pi).U,int (Page.mk (0:Int) sp us pi).N],AV.ag [int c.pw,int c.pg]] true (Sx.bool (Z4U (Page.mk (0:Int) sp us pi))) [])∧(decide ((Page.mk (0:Int) sp us pi).K<(0:Int))||decide ((3:Int)≤(Page.mk (0:Int) sp us pi).K)||!Z4U (Page.mk (0:Int) sp us pi))=true∧true=true) ?_ kr kr;exact⟨⟨by omega,Z1n hp⟩,fun _=>entryFree _ c,by simp[hf],rfl⟩
theorem Za6(c:Conf)(l:List Page)(i:Nat)(sp us pi:Int)(hp:l[i]? = some ⟨1,sp,us,pi⟩):GP 128 [c.av,Z0r l,int i] true (int (Z1q c l i)) []:=by
 cases hf:Z5h ⟨1,sp,us,pi⟩ c with
 | true =>
  have e:Z1q c l i=1:=by
   rw[Z1q,hp];simp[hf]
  rw[e];refine Z0i [(15,[.el (Page.dv ⟨1,sp,us,pi⟩)]),(32,[.call true (bool (Z5h ⟨1,sp,us,pi⟩ c)) []]),(34,[.br false])] [] [] dd Tryz.func128 (φ:=((0:Int)≤(↑i:Int)∧(List.map Page.dv l)[(↑i:Int).toNat]? = some (Page.mk (1:Int) sp us pi).dv)∧((!(decide ((Page.mk (1:Int) sp us pi).K<(0:Int))||decide ((3:Int)≤(Page.mk (1:Int) sp us pi).K)))=true→GP 165 [AV.ag [int (Page.mk (1:Int) sp us pi).K,int (Page.mk (1:Int) sp us pi).S,int (Page.mk (1:Int) sp us pi).U,int (Page.mk (1:Int) sp us pi).N],AV.ag [int c.pw,int c.pg]] true (Sx.bool (Z5h (Page.mk (1:Int) sp us pi) c)) [])∧(decide ((Page.mk (1:Int) sp us pi).K<(0:Int))||decide ((3:Int)≤(Page.mk (1:Int) sp us pi).K)||!Z5h (Page.mk (1:Int) sp us pi) c)=false∧false=false) ?_ kr kr;exact⟨⟨by omega,Z1n hp⟩,fun _=>ZaJ _ c,by simp[hf],rfl⟩
 | false =>
  have e:Z1q c l i=0:=by
   rw[Z1q,hp];simp[hf]
  rw[e];refine Z0i [(15,[.el (Page.dv ⟨1,sp,us,pi⟩)]),(32,[.call true (bool (Z5h ⟨1,sp,us,pi⟩ c)) []]),(34,[.br true])] [] [] dd Tryz.func128 (φ:=((0:Int)≤(↑i:Int)∧(List.map Page.dv l)[(↑i:Int).toNat]? = some (Page.mk (1:Int) sp us pi).dv)∧((!(decide ((Page.mk (1:Int) sp us pi).K<(0:Int))||decide ((3:Int)≤(Page.mk (1:Int) sp us pi).K)))=true→GP 165 [AV.ag [int (Page.mk (1:Int) sp us pi).K,int (Page.mk (1:Int) sp us pi).S,int (Page.mk (1:Int) sp us pi).U,int (Page.mk (1:Int) sp us pi).N],AV.ag [int c.pw,int c.pg]] true (Sx.bool (Z5h (Page.mk (1:Int) sp us pi) c)) [])∧(decide ((Page.mk (1:Int) sp us pi).K<(0:Int))||decide ((3:Int)≤(Page.mk (1:Int) sp us pi).K)||!Z5h (Page.mk (1:Int) sp us pi) c)=true∧true=true) ?_ kr kr;exact⟨⟨by omega,Z1n hp⟩,fun _=>ZaJ _ c,by simp[hf],rfl⟩
def Z9U(p:Page)(s:List Page)(k:Nat)(j:Nat):Tg:=⟨tm 66 [(6,int 0),(8,.pt 24008 0 0),(9,int k),(54,Z0r s),(55,int s.length),(56,int j)],[(24008,.box 220 [int p.K,int p.S,int p.U,int p.N])],40⟩
theorem Z4Z{α:Type}{f:α→Bool}:∀ {l:List α},l.all f=false→∃ (j:Nat) (x:α),l[j]? = some x∧f x=false∧∀ i:Nat,i<j→∃ y:α,l[i]? = some y∧f y=true
 | [],h=>by simp at h
 | a::l,h=>by
  cases ha:f a with
  | false=>exact⟨0,a,rfl,ha,fun i hi=>by omega⟩
  | true =>
   have:l.all f=false:=by simpa[ha]using h
   obtain⟨j,x,h1,h2,h3⟩:=Z4Z this;refine⟨j+1,x,by simpa using h1,h2,fun i hi=>?_⟩;cases i with
   | zero=>exact⟨a,rfl,ha⟩
   | succ i =>
    obtain⟨y,h4,h5⟩:=h3 i oq;exact⟨y,by simpa using h4,h5⟩
theorem Zdx(p:Page)(s:List Page)(k j:Nat)(q:Page)(hs:s.length≤281474976710656)(hq:s[j]? = some q)(ht:Z5S q p=true):CP (rndF Tryz.f128 0) (Z9U p s k j).st .nrm (Z9U p s k (j+1)).st:=by
 have hj:j<s.length:=(List.getElem?_eq_some_iff.1 hq).1;refine Z1C [(57,[.br true]),(58,[.el q.dv]),(62,[.call true (bool (Z5S q p)) []]),(63,[.br false]),(64,[.int ((j+1:Nat):Int)])] [] (φ:=decide ((↑j:Int)<(↑s.length:Int))=true∧true=true∧((0:Int)≤(↑j:Int)∧(List.map Page.dv s)[(↑j:Int).toNat]? = some q.dv)∧GP 168 [AV.ag [int q.K,int q.S,int q.U,int q.N],AV.ag [int p.K,int p.S,int p.U,int p.N]] true (Sx.bool (Z5S q p)) []∧(!Z5S q p)=false∧false=false∧IntKind.i64.wrap ((↑j:Int)+(1:Int))=(↑(j+(1:Nat)):Int)) ?_ kr kr kr;exact⟨decide_eq_true oq,rfl,⟨by omega,Z1n hq⟩,ZdN q p,by simp[ht],rfl,Z18 oq oq⟩
theorem Zcb(p:Page)(s:List Page)(k j:Nat)(q:Page)(hq:s[j]? = some q)(ht:Z5S q p=false):CP (rndF Tryz.f128 0) (Z9U p s k j).st .ret (Tg.st ⟨tm 66 [(6,int 0)],[],60⟩):=by
 have hj:j<s.length:=(List.getElem?_eq_some_iff.1 hq).1;refine Z1C [(57,[.br true]),(58,[.el q.dv]),(62,[.call true (bool (Z5S q p)) []]),(63,[.br true])] [] (φ:=decide ((↑j:Int)<(↑s.length:Int))=true∧true=true∧((0:Int)≤(↑j:Int)∧(List.map Page.dv s)[(↑j:Int).toNat]? = some q.dv)∧GP 168 [AV.ag [int q.K,int q.S,int q.U,int q.N],AV.ag [int p.K,int p.S,int p.U,int p.N]] true (Sx.bool (Z5S q p)) []∧(!Z5S q p)=true∧true=true) ?_ kr kr kr;exact⟨decide_eq_true oq,rfl,⟨by omega,Z1n hq⟩,ZdN q p,by simp[ht],rfl⟩
theorem Zbi(p:Page)(s:List Page)(k:Nat):CP (rndF Tryz.f128 0) (Z9U p s k s.length).st (.ext 0) (Tg.st ⟨tm 66 [(9,int k)],[],60⟩):=by
 refine Z1C [(57,[.br false])] [] (φ:=decide ((↑s.length:Int)<(↑s.length:Int))=false∧false=false) ?_ kr kr kr;exact⟨decide_eq_false oq,rfl⟩
theorem Zaa(c:Conf)(l:List Page)(hl:l.length≤281474976710656)(i:Nat)(sp us pi:Int)(hp:l[i]? = some ⟨2,sp,us,pi⟩):GP 128 [c.av,Z0r l,int i] true (int (Z1q c l i)) []:=by
 have hi:i<l.length:=(List.getElem?_eq_some_iff.1 hp).1;cases hf:Z2w ⟨2,sp,us,pi⟩ c with
 | false =>
  have e:Z1q c l i=0:=by
   rw[Z1q,hp];simp[hf]
  rw[e];refine Z0i [(15,[.el (Page.dv ⟨2,sp,us,pi⟩)]),(32,[.call true (bool (Z2w ⟨2,sp,us,pi⟩ c)) []]),(34,[.br true])] [] [] dd Tryz.func128 (φ:=((0:Int)≤(↑i:Int)∧(List.map Page.dv l)[(↑i:Int).toNat]? = some (Page.mk (2:Int) sp us pi).dv)∧((!(decide ((Page.mk (2:Int) sp us pi).K<(0:Int))||decide ((3:Int)≤(Page.mk (2:Int) sp us pi).K)))=true→GP 166 [AV.ag [int (Page.mk (2:Int) sp us pi).K,int (Page.mk (2:Int) sp us pi).S,int (Page.mk (2:Int) sp us pi).U,int (Page.mk (2:Int) sp us pi).N],AV.ag [int c.pw,int c.pg]] true (Sx.bool (Z2w (Page.mk (2:Int) sp us pi) c)) [])∧(decide ((Page.mk (2:Int) sp us pi).K<(0:Int))||decide ((3:Int)≤(Page.mk (2:Int) sp us pi).K)||!Z2w (Page.mk (2:Int) sp us pi) c)=true∧true=true) ?_ kr kr;exact⟨⟨by omega,Z1n hp⟩,fun _=>Z5D _ c,by simp[hf],rfl⟩
 | true =>
  have hn:1≤need c us:=by
   simp[Z2w]at hf;exact hf.2
  obtain⟨k,hk⟩:∃ k:Nat,need c us=k:=⟨(need c us).toNat,by omega⟩
  have hk1:1≤k:=by omega
  by_cases hfit:k≤l.length-i
  ·have hsl:((l.drop (i+1)).take (k-1)).length≤281474976710656:=by rw[List.length_take,List.length_drop];omega
   have hsub:List.take (((i+k:Nat):Int).toNat-((i+1:Nat):Int).toNat) (List.drop ((i+1:Nat):Int).toNat (List.map Page.dv l))=List.map Page.dv (List.take (k-1) (List.drop (i+1) l)):=by
    rw[List.map_take,List.map_drop];congr 1;simp only[Int.toNat_natCast];omega
   cases ht:Z5V ⟨2,sp,us,pi⟩ ((l.drop (i+1)).take (k-1))with
   | true =>
    have e:Z1q c l i=k:=by
     rw[Z1q,hp];simp[hf,hk,ht,hfit]
    rw[e];refine Z0i [(15,[.el (Page.dv ⟨2,sp,us,pi⟩)]),(32,[.call true (bool (Z2w ⟨2,sp,us,pi⟩ c)) []]),(34,[.br false]),(41,[.call true (int k) []]),(46,[.int ((l.length:Int)-i)]),(47,[.br false]),(50,[.int ((i+1:Nat):Int)]),(53,[.int ((i+k:Nat):Int)]),(54,[.els (((l.drop (i+1)).take (k-1)).map Page.dv)]),(55,[.int ((l.drop (i+1)).take (k-1)).length])] [(0,Z9U ⟨2,sp,us,pi⟩ ((l.drop (i+1)).take (k-1)) k 0,.nrm,⟨tm 66 [(9,int k)],[],60⟩)] [] dd Tryz.func128 (φ:=((0:Int)≤(↑i:Int)∧(List.map Page.dv l)[(↑i:Int).toNat]? = some (Page.mk (2:Int) sp us pi).dv)∧((!(decide ((Page.mk (2:Int) sp us pi).K<(0:Int))||decide ((3:Int)≤(Page.mk (2:Int) sp us pi).K)))=true→GP 166 [AV.ag [int (Page.mk (2:Int) sp us pi).K,int (Page.mk (2:Int) sp us pi).S,int (Page.mk (2:Int) sp us pi).U,int (Page.mk (2:Int) sp us pi).N],AV.ag [int c.pw,int c.pg]] true (Sx.bool (Z2w (Page.mk (2:Int) sp us pi) c)) [])∧(decide ((Page.mk (2:Int) sp us pi).K<(0:Int))||decide ((3:Int)≤(Page.mk (2:Int) sp us pi).K)||!Z2w (Page.mk (2:Int) sp us pi) c)=false∧false=false∧GP 167 [AV.ag [int c.pw,int c.pg],int (Page.mk (2:Int) sp us pi).U] true (int (↑k:Int)) []∧IntKind.i64.wrap ((↑(List.map Page.dv l).length:Int)-(↑i:Int))=(↑l.length:Int)-(↑i:Int)∧decide ((↑l.length:Int)-(↑i:Int)<(↑k:Int))=false∧false=false∧IntKind.i64.wrap ((↑i:Int)+(1:Int))=(↑(i+(1:Nat)):Int)∧IntKind.i64.wrap ((↑i:Int)+(↑k:Int))=(↑(i+k):Int)∧((0:Int)≤(↑(i+(1:Nat)):Int)∧(↑(i+(1:Nat)):Int)≤(↑(i+k):Int)∧(↑(i+k):Int)≤(↑(List.map Page.dv l).length:Int))∧List.take ((↑(i+k):Int).toNat-(↑(i+(1:Nat)):Int).toNat) (List.drop (↑(i+(1:Nat)):Int).toNat (List.map Page.dv l))=List.map Page.dv (List.take (k-(1:Nat)) (List.drop (i+(1:Nat)) l))∧(↑(List.map Page.dv (List.take (k-(1:Nat)) (List.drop (i+(1:Nat)) l))).length:Int)=(↑(List.take (k-(1:Nat)) (List.drop (i+(1:Nat)) l)).length:Int)∧CP (blkF Tryz.f128 (0:Nat)) (Z9U (Page.mk (2:Int) sp us pi) (List.take (k-(1:Nat)) (List.drop (i+(1:Nat)) l)) k (0:Nat)).st Ex.nrm (Tg.mk (tm (66:Nat) [((9:Nat),int (↑k:Int))]) [] (60:Nat)).st) ?_ kr kr;refine⟨⟨by omega,Z1n hp⟩,fun _=>Z5D _ c,by simp[hf],rfl,hk▸Z84 c us,by rw[List.length_map];exact Z18 oq oq,decide_eq_false oq,rfl,Z18 oq oq,Z18 oq oq,by rw[List.length_map];omega,hsub,by rw[List.length_map], ?_⟩;have hall:=List.all_eq_true.1 ht;refine Z0a (S:=fun j=>(Z9U ⟨2,sp,us,pi⟩ ((l.drop (i+1)).take (k-1)) k j).st) ((l.drop (i+1)).take (k-1)).length kr (fun j hj=>?_) (Zbi _ _ _);exact Zdx _ _ _ j _ hsl (List.getElem?_eq_getElem hj) (hall _ (List.getElem_mem hj))
   | false =>
    have e:Z1q c l i=0:=by
     rw[Z1q,hp];simp[hf,hk,ht]
    rw[e];refine Z0i [(15,[.el (Page.dv ⟨2,sp,us,pi⟩)]),(32,[.call true (bool (Z2w ⟨2,sp,us,pi⟩ c)) []]),(34,[.br false]),(41,[.call true (int k) []]),(46,[.int ((l.length:Int)-i)]),(47,[.br false]),(50,[.int ((i+1:Nat):Int)]),(53,[.int ((i+k:Nat):Int)]),(54,[.els (((l.drop (i+1)).take (k-1)).map Page.dv)]),(55,[.int ((l.drop (i+1)).take (k-1)).length])] [(0,Z9U ⟨2,sp,us,pi⟩ ((l.drop (i+1)).take (k-1)) k 0,.ret,⟨tm 66 [(6,int 0)],[],60⟩)] [] dd Tryz.func128 (φ:=((0:Int)≤(↑i:Int)∧(List.map Page.dv l)[(↑i:Int).toNat]? = some (Page.mk (2:Int) sp us pi).dv)∧((!(decide ((Page.mk (2:Int) sp us pi).K<(0:Int))||decide ((3:Int)≤(Page.mk (2:Int) sp us pi).K)))=true→GP 166 [AV.ag [int (Page.mk (2:Int) sp us pi).K,int (Page.mk (2:Int) sp us pi).S,int (Page.mk (2:Int) sp us pi).U,int (Page.mk (2:Int) sp us pi).N],AV.ag [int c.pw,int c.pg]] true (Sx.bool (Z2w (Page.mk (2:Int) sp us pi) c)) [])∧(decide ((Page.mk (2:Int) sp us pi).K<(0:Int))||decide ((3:Int)≤(Page.mk (2:Int) sp us pi).K)||!Z2w (Page.mk (2:Int) sp us pi) c)=false∧false=false∧GP 167 [AV.ag [int c.pw,int c.pg],int (Page.mk (2:Int) sp us pi).U] true (int (↑k:Int)) []∧IntKind.i64.wrap ((↑(List.map Page.dv l).length:Int)-(↑i:Int))=(↑l.length:Int)-(↑i:Int)∧decide ((↑l.length:Int)-(↑i:Int)<(↑k:Int))=false∧false=false∧IntKind.i64.wrap ((↑i:Int)+(1:Int))=(↑(i+(1:Nat)):Int)∧IntKind.i64.wrap ((↑i:Int)+(↑k:Int))=(↑(i+k):Int)∧((0:Int)≤(↑(i+(1:Nat)):Int)∧(↑(i+(1:Nat)):Int)≤(↑(i+k):Int)∧(↑(i+k):Int)≤(↑(List.map Page.dv l).length:Int))∧List.take ((↑(i+k):Int).toNat-(↑(i+(1:Nat)):Int).toNat) (List.drop (↑(i+(1:Nat)):Int).toNat (List.map Page.dv l))=List.map Page.dv (List.take (k-(1:Nat)) (List.drop (i+(1:Nat)) l))∧(↑(List.map Page.dv (List.take (k-(1:Nat)) (List.drop (i+(1:Nat)) l))).length:Int)=(↑(List.take (k-(1:Nat)) (List.drop (i+(1:Nat)) l)).length:Int)∧CP (blkF Tryz.f128 (0:Nat)) (Z9U (Page.mk (2:Int) sp us pi) (List.take (k-(1:Nat)) (List.drop (i+(1:Nat)) l)) k (0:Nat)).st Ex.ret (Tg.mk (tm (66:Nat) [((6:Nat),int (0:Int))]) [] (60:Nat)).st) ?_ kr kr;refine⟨⟨by omega,Z1n hp⟩,fun _=>Z5D _ c,by simp[hf],rfl,hk▸Z84 c us,by rw[List.length_map];exact Z18 oq oq,decide_eq_false oq,rfl,Z18 oq oq,Z18 oq oq,by rw[List.length_map];omega,hsub,by rw[List.length_map], ?_⟩;obtain⟨n,x,h1,h2,h3⟩:=Z4Z ht;refine Z0I (S:=fun j=>(Z9U ⟨2,sp,us,pi⟩ ((l.drop (i+1)).take (k-1)) k j).st) n kr (fun j hj=>?_) (Zcb _ _ _ n x h1 h2);obtain⟨y,h4,h5⟩:=h3 j hj;exact Zdx _ _ _ j y hsl h4 h5
  ·have e:Z1q c l i=0:=by
    rw[Z1q,hp];simp[hf,hk,hfit]
   rw[e];refine Z0i [(15,[.el (Page.dv ⟨2,sp,us,pi⟩)]),(32,[.call true (bool (Z2w ⟨2,sp,us,pi⟩ c)) []]),(34,[.br false]),(41,[.call true (int k) []]),(46,[.int ((l.length:Int)-i)]),(47,[.br true])] [] [] dd Tryz.func128 (φ:=((0:Int)≤(↑i:Int)∧(List.map Page.dv l)[(↑i:Int).toNat]? = some (Page.mk (2:Int) sp us pi).dv)∧((!(decide ((Page.mk (2:Int) sp us pi).K<(0:Int))||decide ((3:Int)≤(Page.mk (2:Int) sp us pi).K)))=true→GP 166 [AV.ag [int (Page.mk (2:Int) sp us pi).K,int (Page.mk (2:Int) sp us pi).S,int (Page.mk (2:Int) sp us pi).U,int (Page.mk (2:Int) sp us pi).N],AV.ag [int c.pw,int c.pg]] true (Sx.bool (Z2w (Page.mk (2:Int) sp us pi) c)) [])∧(decide ((Page.mk (2:Int) sp us pi).K<(0:Int))||decide ((3:Int)≤(Page.mk (2:Int) sp us pi).K)||!Z2w (Page.mk (2:Int) sp us pi) c)=false∧false=false∧GP 167 [AV.ag [int c.pw,int c.pg],int (Page.mk (2:Int) sp us pi).U] true (int (↑k:Int)) []∧IntKind.i64.wrap ((↑(List.map Page.dv l).length:Int)-(↑i:Int))=(↑l.length:Int)-(↑i:Int)∧decide ((↑l.length:Int)-(↑i:Int)<(↑k:Int))=true∧true=true) ?_ kr kr;exact⟨⟨by omega,Z1n hp⟩,fun _=>Z5D _ c,by simp[hf],rfl,hk▸Z84 c us,by rw[List.length_map];exact Z18 oq oq,decide_eq_true oq,rfl⟩
theorem ZfT(c:Conf)(l:List Page)(hl:l.length≤281474976710656)(i:Nat)(hi:i<l.length):GP 128 [c.av,Z0r l,int i] true (int (Z1q c l i)) []:=by
 obtain⟨p,hp⟩:∃ p,l[i]? = some p:=⟨l[i],List.getElem?_eq_getElem hi⟩
 obtain⟨kd,sp,us,pi⟩:=p;by_cases h0:kd=0
 ·subst h0;exact ZbZ c l i sp us pi hp
 by_cases h1:kd=1
 ·subst h1;exact Za6 c l i sp us pi hp
 by_cases h2:kd=2
 ·subst h2;exact Zaa c l hl i sp us pi hp
 ·exact Zdo c l i _ hp (by simp only;omega)
def Z01(l:List Int):AV:=.d (.sl 1 (l.map wdv))
structure Heap where
 C:Conf
 W:List Int
 P:List Page
 S:Int
 B:Int
 deriving DecidableEq,Inhabited
def Heap.cells(h:Heap):List AV:=[int h.C.pw,int h.C.pg,Z01 h.W,Z0r h.P,int h.S,int h.B]
def Heap.av(h:Heap):AV:=.ag h.cells
def noHeap:Heap:=⟨⟨0,0⟩,[],[],0,0⟩
def Z2Y(c:Conf):Heap:=⟨c,List.replicate (c.pw*c.pg).toNat 0,List.replicate c.pg.toNat ⟨0,0,0,0⟩,0,-1⟩
theorem Zik(c:Conf)(h:Z05 c=true):GP 103 [c.av] false (.tu [(Z2Y c).av,int 0]) []:=by
 refine Z0i [(5,[.call true (bool (Z05 c)) []]),(6,[.br false]),(13,[.int ((c.pw*c.pg).toNat:Int)]),(14,[.els ((List.replicate (c.pw*c.pg).toNat 0).map wdv)]),(17,[.els ((List.replicate c.pg.toNat (⟨0,0,0,0⟩:Page)).map Page.dv)])] [] [] dd Tryz.func103 (φ:=GP 86 [AV.ag [int c.pw,int c.pg]] true (Sx.bool (Z05 c)) []∧(!Z05 c)=false∧false=false∧IntKind.i64.wrap (c.pg*c.pw)=(↑(c.pw*c.pg).toNat:Int)∧((0:Int)≤(↑(c.pw*c.pg).toNat:Int)∧(↑(c.pw*c.pg).toNat:Int)≤(↑(c.pw*c.pg).toNat:Int)∧(↑(c.pw*c.pg).toNat:Int)*((↑(nat_lit 7):Int)+(1:Int))≤(2:Int)^(48:Nat))∧List.replicate (↑(c.pw*c.pg).toNat:Int).toNat [du64 (0:Int)]=List.map wdv (List.replicate (c.pw*c.pg).toNat (0:Int))∧((0:Int)≤c.pg∧c.pg≤c.pg∧c.pg*((↑(nat_lit 31):Int)+(1:Int))≤(2:Int)^(48:Nat))∧List.replicate c.pg.toNat [dint (0:Int),dint (0:Int),dint (0:Int),dint (0:Int)]=List.map Page.dv (List.replicate c.pg.toNat (Page.mk (0:Int) (0:Int) (0:Int) (0:Int)))) ?_ kr kr;have hv:=validB_iff.1 h;have ha:=area h;rw[Int.mul_comm]at ha;have hc:=Int.mul_comm c.pw c.pg;exact⟨Z0E c,by simp[h],rfl,by rw[Z18 oq oq];omega,⟨by omega,by omega,by simp;omega⟩,by rw[List.map_replicate];rfl,⟨by omega,by omega,by simp;omega⟩,by simp[Page.dv,wdv]⟩
def Z1e(l:List Page)(i:Int):Page:=l[i.toNat]?.getD ⟨0,0,0,0⟩
theorem ZiT{l:List Page}{i:Int}(h:i.toNat<l.length):l[i.toNat]? = some (Z1e l i):=by
 rw[Z1e,List.getElem?_eq_getElem h];rfl
def ZhA(h:Heap):Bool:=(h.B==-1)||(decide (0≤h.B)&&decide (h.B<h.P.length)&&((Z1e h.P h.B).K==1))
def Zgk(h:Heap):Bool:=Z05 h.C&&((h.W.length:Int)==h.C.pw*h.C.pg)&&((h.P.length:Int)==h.C.pg)&&((h.S==0)||(h.S==1))
def Z2x(c:Conf)(l:List Page):Nat→Nat→Bool
 | 0,i=>decide (l.length≤i)
 | f+1,i=>if i<l.length then(if Z1q c l i=0 then false else Z2x c l f (i+Z1q c l i))else true
def Z02(h:Heap):Bool:=Zgk h&&(ZhA h&&Z2x h.C h.P h.P.length 0)
def Z48(h:Heap)(i:Nat):Tg:=⟨tm 83 [(1,.pt 8001 0 0),(2,bool false),(3,int i)],[(8001,.box 28 h.cells)],50⟩
theorem ZlD{c:Conf}{l:List Page}{i:Nat}(hi:i<l.length):i+Z1q c l i≤l.length:=by
 obtain⟨p,hp⟩:∃ p,l[i]? = some p:=⟨l[i],List.getElem?_eq_getElem hi⟩
 rw[Z1q,hp];simp only;repeat' split
 all_goals first | omega | (rename_i h;omega)
theorem Z9I(h:Heap)(i:Nat)(hl:h.P.length≤281474976710656)(hi:i<h.P.length)(hs:Z1q h.C h.P i≠0):CP (rndF Tryz.f77 0) (Z48 h i).st .nrm (Z48 h (i+Z1q h.C h.P i)).st:=by
 have hle:=ZlD (c:=h.C) hi;refine Z1C [(70,[.int h.P.length]),(71,[.br true]),(77,[.call true (int (Z1q h.C h.P i)) []]),(79,[.br false]),(82,[.int ((i+Z1q h.C h.P i:Nat):Int)])] [] (φ:=(↑(List.map Page.dv h.P).length:Int)=(↑h.P.length:Int)∧decide ((↑i:Int)<(↑h.P.length:Int))=true∧true=true∧GP 128 [AV.ag [int h.C.pw,int h.C.pg],AV.d (DV.sl (4:Nat) (List.map Page.dv h.P)),int (↑i:Int)] true (int (↑(Z1q h.C h.P i):Int)) []∧((↑(Z1q h.C h.P i):Int)==(0:Int))=false∧false=false∧IntKind.i64.wrap ((↑i:Int)+(↑(Z1q h.C h.P i):Int))=(↑(i+Z1q h.C h.P i):Int)) ?_ kr kr kr;exact⟨by rw[List.length_map],decide_eq_true oq,rfl,ZfT h.C h.P hl i hi,by simp;omega,rfl,Z18 oq oq⟩
theorem Zi7(h:Heap)(i:Nat)(hl:h.P.length≤281474976710656)(hi:i<h.P.length)(hs:Z1q h.C h.P i=0):CP (rndF Tryz.f77 0) (Z48 h i).st .ret (Tg.st ⟨tm 83 [(2,bool false)],[],60⟩):=by
 refine Z1C [(70,[.int h.P.length]),(71,[.br true]),(77,[.call true (int (Z1q h.C h.P i)) []]),(79,[.br true])] [] (φ:=(↑(List.map Page.dv h.P).length:Int)=(↑h.P.length:Int)∧decide ((↑i:Int)<(↑h.P.length:Int))=true∧true=true∧GP 128 [AV.ag [int h.C.pw,int h.C.pg],AV.d (DV.sl (4:Nat) (List.map Page.dv h.P)),int (↑i:Int)] true (int (↑(Z1q h.C h.P i):Int)) []∧((↑(Z1q h.C h.P i):Int)==(0:Int))=true∧true=true) ?_ kr kr kr;exact⟨by rw[List.length_map],decide_eq_true oq,rfl,ZfT h.C h.P hl i hi,by simp[hs],rfl⟩
theorem ZcI(h:Heap)(i:Nat)(hi:h.P.length≤i):CP (rndF Tryz.f77 0) (Z48 h i).st (.ext 0) (Tg.st ⟨tm 83 [],[],60⟩):=by
 refine Z1C [(70,[.int h.P.length]),(71,[.br false])] [] (φ:=(↑(List.map Page.dv h.P).length:Int)=(↑h.P.length:Int)∧decide ((↑i:Int)<(↑h.P.length:Int))=false∧false=false) ?_ kr kr kr;exact⟨by rw[List.length_map],decide_eq_false oq,rfl⟩
theorem Zak(h:Heap)(hl:h.P.length≤281474976710656):∀ (f i:Nat),h.P.length≤i+f→Z2x h.C h.P f i=true→∃ n,Z2G Tryz.prog (rndF Tryz.f77 0) n (Z48 h i).st (.ext 0) (Tg.st ⟨tm 83 [],[],60⟩)
 | 0,i,hf,_=>⟨0,(fun h=>nomatch h),ZcI h i oq⟩
 | f+1,i,hf,hb=>by
  by_cases hi:i<h.P.length
  ·simp only[Z2x,if_pos hi]at hb;split at hb
   ·cases hb
   ·rename_i hs;obtain⟨n,hn⟩:=Zak h hl f (i+Z1q h.C h.P i) oq hb;exact⟨n+1,_,Z9I h i hl hi hs,hn⟩
  ·exact⟨0,(fun h=>nomatch h),ZcI h i oq⟩
theorem Z6F(h:Heap)(hl:h.P.length≤281474976710656):∀ (f i:Nat),h.P.length≤i+f→Z2x h.C h.P f i=false→∃ n,Z2G Tryz.prog (rndF Tryz.f77 0) n (Z48 h i).st .ret (Tg.st ⟨tm 83 [(2,bool false)],[],60⟩)
 | 0,i,hf,hb=>by simp[Z2x]at hb;omega
 | f+1,i,hf,hb=>by
  by_cases hi:i<h.P.length
  ·simp only[Z2x,if_pos hi]at hb;split at hb
   ·rename_i hs;exact⟨0,(fun h=>nomatch h),Zi7 h i hl hi hs⟩
   ·rename_i hs;obtain⟨n,hn⟩:=Z6F h hl f (i+Z1q h.C h.P i) oq hb;exact⟨n+1,_,Z9I h i hl hi hs,hn⟩
  ·simp only[Z2x,if_neg hi]at hb;cases hb
theorem shapeB_iff{h:Heap}:Zgk h=true↔Z05 h.C=true∧(h.W.length:Int)=h.C.pw*h.C.pg∧(h.P.length:Int)=h.C.pg∧(h.S=0∨h.S=1):=by
 simp[Zgk,and_assoc]
theorem Z0H(h:Heap):GP 77 [h.av] true (bool (Z02 h)) []:=by
 have hmul:(!!Z05 h.C)=true→IntKind.i64.wrap (h.C.pw*h.C.pg)=h.C.pw*h.C.pg:=by
  intro hv;have ha:=area (c:=h.C) (by simpa using hv);exact Z18 oq oq
 by_cases h1:Zgk h=true
 ·obtain⟨s1,s2,s3,s4⟩:=shapeB_iff.1 h1;have hv:=validB_iff.1 s1;have hc1:(!Z05 h.C||(h.W.length:Int) != h.C.pw*h.C.pg||(h.P.length:Int) != h.C.pg||h.S != 0&&h.S != 1)=false:=by
   simp[s1,s2,s3];omega
  have hel:(h.B != -1&&!(decide (h.B<0)||decide ((h.P.length:Int)≤h.B)))=true→0≤h.B∧(List.map Page.dv h.P)[h.B.toNat]? = some (Z1e h.P h.B).dv:=by
   intro hg;simp at hg;refine⟨by omega, ?_⟩;rw[List.getElem?_map,ZiT oq];rfl
  by_cases h2:ZhA h=true
  ·have hc2:(h.B != -1&&(decide (h.B<0)||decide ((h.P.length:Int)≤h.B)||(Z1e h.P h.B).K != 1))=false:=by
    simp[ZhA]at h2;simp;omega
   cases h3:Z2x h.C h.P h.P.length 0 with
   | true =>
    have e:Z02 h=true:=by simp[Z02,h1,h2,h3]
    rw[e];obtain⟨n,hn⟩:=Zak h oq h.P.length 0 oq h3;refine Z0i [(7,[.call true (bool (Z05 h.C)) []]),(12,[.int h.W.length]),(19,[.int (h.C.pw*h.C.pg)]),(25,[.int h.P.length]),(40,[.br false]),(53,[.int h.P.length]),(61,[.el (Z1e h.P h.B).dv]),(66,[.br false])] [(0,Z48 h 0,.nrm,⟨tm 83 [],[],60⟩)] [] dd Tryz.func77 (φ:=GP 127 [AV.ag [int h.C.pw,int h.C.pg]] true (Sx.bool (Z05 h.C)) []∧((!!Z05 h.C)=true→(↑(List.map wdv h.W).length:Int)=(↑h.W.length:Int))∧((!!Z05 h.C)=true→IntKind.i64.wrap (h.C.pw*h.C.pg)=h.C.pw*h.C.pg)∧((!(!Z05 h.C||(↑h.W.length:Int) != h.C.pw*h.C.pg))=true→(↑(List.map Page.dv h.P).length:Int)=(↑h.P.length:Int))∧(!Z05 h.C||(↑h.W.length:Int) != h.C.pw*h.C.pg||(↑h.P.length:Int) != h.C.pg||h.S != (0:Int)&&h.S != (1:Int))=false∧false=false∧((h.B != (-1:Int)&&!decide (h.B<(0:Int)))=true→(↑(List.map Page.dv h.P).length:Int)=(↑h.P.length:Int))∧((h.B != (-1:Int)&&!(decide (h.B<(0:Int))||decide ((↑h.P.length:Int)≤h.B)))=true→(0:Int)≤h.B∧(List.map Page.dv h.P)[h.B.toNat]? = some (Z1e h.P h.B).dv)∧(h.B != (-1:Int)&&(decide (h.B<(0:Int))||decide ((↑h.P.length:Int)≤h.B)||(Z1e h.P h.B).K != (1:Int)))=false∧false=false∧CP (blkF Tryz.f77 (0:Nat)) (Z48 h (0:Nat)).st Ex.nrm (Tg.mk (tm (83:Nat) []) [] (60:Nat)).st) ?_ kr kr;exact⟨Z0V h.C,fun _=>by rw[List.length_map],hmul,fun _=>by rw[List.length_map],hc1,rfl,fun _=>by rw[List.length_map],hel,hc2,rfl,ZbT kr hn⟩
   | false =>
    have e:Z02 h=false:=by simp[Z02,h3]
    rw[e];obtain⟨n,hn⟩:=Z6F h oq h.P.length 0 oq h3;refine Z0i [(7,[.call true (bool (Z05 h.C)) []]),(12,[.int h.W.length]),(19,[.int (h.C.pw*h.C.pg)]),(25,[.int h.P.length]),(40,[.br false]),(53,[.int h.P.length]),(61,[.el (Z1e h.P h.B).dv]),(66,[.br false])] [(0,Z48 h 0,.ret,⟨tm 83 [(2,bool false)],[],60⟩)] [] dd Tryz.func77 (φ:=GP 127 [AV.ag [int h.C.pw,int h.C.pg]] true (Sx.bool (Z05 h.C)) []∧((!!Z05 h.C)=true→(↑(List.map wdv h.W).length:Int)=(↑h.W.length:Int))∧((!!Z05 h.C)=true→IntKind.i64.wrap (h.C.pw*h.C.pg)=h.C.pw*h.C.pg)∧((!(!Z05 h.C||(↑h.W.length:Int) != h.C.pw*h.C.pg))=true→(↑(List.map Page.dv h.P).length:Int)=(↑h.P.length:Int))∧(!Z05 h.C||(↑h.W.length:Int) != h.C.pw*h.C.pg||(↑h.P.length:Int) != h.C.pg||h.S != (0:Int)&&h.S != (1:Int))=false∧false=false∧((h.B != (-1:Int)&&!decide (h.B<(0:Int)))=true→(↑(List.map Page.dv h.P).length:Int)=(↑h.P.length:Int))∧((h.B != (-1:Int)&&!(decide (h.B<(0:Int))||decide ((↑h.P.length:Int)≤h.B)))=true→(0:Int)≤h.B∧(List.map Page.dv h.P)[h.B.toNat]? = some (Z1e h.P h.B).dv)∧(h.B != (-1:Int)&&(decide (h.B<(0:Int))||decide ((↑h.P.length:Int)≤h.B)||(Z1e h.P h.B).K != (1:Int)))=false∧false=false∧CP (blkF Tryz.f77 (0:Nat)) (Z48 h (0:Nat)).st Ex.ret (Tg.mk (tm (83:Nat) [((2:Nat),Sx.bool false)]) [] (60:Nat)).st) ?_ kr kr;exact⟨Z0V h.C,fun _=>by rw[List.length_map],hmul,fun _=>by rw[List.length_map],hc1,rfl,fun _=>by rw[List.length_map],hel,hc2,rfl,ZbO kr hn⟩
  ·have hc2:(h.B != -1&&(decide (h.B<0)||decide ((h.P.length:Int)≤h.B)||(Z1e h.P h.B).K != 1))=true:=by
    simp[ZhA]at h2;simp;omega
   have e:Z02 h=false:=by simp[Z02,h2]
   rw[e];refine Z0i [(7,[.call true (bool (Z05 h.C)) []]),(12,[.int h.W.length]),(19,[.int (h.C.pw*h.C.pg)]),(25,[.int h.P.length]),(40,[.br false]),(53,[.int h.P.length]),(61,[.el (Z1e h.P h.B).dv]),(66,[.br true])] [] [] dd Tryz.func77 (φ:=GP 127 [AV.ag [int h.C.pw,int h.C.pg]] true (Sx.bool (Z05 h.C)) []∧((!!Z05 h.C)=true→(↑(List.map wdv h.W).length:Int)=(↑h.W.length:Int))∧((!!Z05 h.C)=true→IntKind.i64.wrap (h.C.pw*h.C.pg)=h.C.pw*h.C.pg)∧((!(!Z05 h.C||(↑h.W.length:Int) != h.C.pw*h.C.pg))=true→(↑(List.map Page.dv h.P).length:Int)=(↑h.P.length:Int))∧(!Z05 h.C||(↑h.W.length:Int) != h.C.pw*h.C.pg||(↑h.P.length:Int) != h.C.pg||h.S != (0:Int)&&h.S != (1:Int))=false∧false=false∧((h.B != (-1:Int)&&!decide (h.B<(0:Int)))=true→(↑(List.map Page.dv h.P).length:Int)=(↑h.P.length:Int))∧((h.B != (-1:Int)&&!(decide (h.B<(0:Int))||decide ((↑h.P.length:Int)≤h.B)))=true→(0:Int)≤h.B∧(List.map Page.dv h.P)[h.B.toNat]? = some (Z1e h.P h.B).dv)∧(h.B != (-1:Int)&&(decide (h.B<(0:Int))||decide ((↑h.P.length:Int)≤h.B)||(Z1e h.P h.B).K != (1:Int)))=true∧true=true) ?_ kr kr;exact⟨Z0V h.C,fun _=>by rw[List.length_map],hmul,fun _=>by rw[List.length_map],hc1,rfl,fun _=>by rw[List.length_map],hel,hc2,rfl⟩
 ·have hc1:(!Z05 h.C||(h.W.length:Int) != h.C.pw*h.C.pg||(h.P.length:Int) != h.C.pg||h.S != 0&&h.S != 1)=true:=by
   rw[shapeB_iff]at h1;cases hv:Z05 h.C with
   | false=>simp
   | true =>
    simp only[hv,true_and]at h1;simp;omega
  have e:Z02 h=false:=by simp[Z02,h1]
  rw[e];refine Z0i [(7,[.call true (bool (Z05 h.C)) []]),(12,[.int h.W.length]),(19,[.int (h.C.pw*h.C.pg)]),(25,[.int h.P.length]),(40,[.br true])] [] [] dd Tryz.func77 (φ:=GP 127 [AV.ag [int h.C.pw,int h.C.pg]] true (Sx.bool (Z05 h.C)) []∧((!!Z05 h.C)=true→(↑(List.map wdv h.W).length:Int)=(↑h.W.length:Int))∧((!!Z05 h.C)=true→IntKind.i64.wrap (h.C.pw*h.C.pg)=h.C.pw*h.C.pg)∧((!(!Z05 h.C||(↑h.W.length:Int) != h.C.pw*h.C.pg))=true→(↑(List.map Page.dv h.P).length:Int)=(↑h.P.length:Int))∧(!Z05 h.C||(↑h.W.length:Int) != h.C.pw*h.C.pg||(↑h.P.length:Int) != h.C.pg||h.S != (0:Int)&&h.S != (1:Int))=true∧true=true) ?_ kr kr;exact⟨Z0V h.C,fun _=>by rw[List.length_map],hmul,fun _=>by rw[List.length_map],hc1,rfl⟩
end Go.Proofs.YtdhchmlalchgeaaGreat
namespace Go.Proofs.YtdhchmlalchgeaaGreat
open Go.Sx Go.RowKit
theorem own0:ownKnob Tryz.prog.godebug=none:=by kernel_rfl
theorem ZlZ:laidOutB Tryz.prog=true:=by kernel_rfl
theorem Zn7{n:Nat}{l:List DV}(h:shp Tryz.prog (n+1) 3 l):∃ x:Int,l=[dint x]∧(Lit.int .i64 x).wf=true:=by
 have e:shp Tryz.prog (n+1) 3 l=(∃ x:Int,l=[.sc (.int .i64 x)]∧(Lit.int .i64 x).wf=true):=by kernel_rfl
 rw[e]at h;exact h
theorem Zar{α β:Type}{f:α→β}:∀ {l:List β},(∀ x∈l,∃ a,x=f a)→∃ m:List α,l=m.map f
 | [],_=>⟨[],rfl⟩
 | x::l,h=>by
  obtain⟨a,rfl⟩:=h x pq;obtain⟨m,rfl⟩:=Zar (l:=l) fun y hy=>h y (by simp[hy]);exact⟨a::m,rfl⟩
end Go.Proofs.YtdhchmlalchgeaaGreat
namespace Go.Sx
def Za4(a b:Nat):AV→AV
 | .pt k i o=>match Nat.beq k a with
  | true=>.pt b i o
  | false=>match Nat.beq k b with | true=>.any | false=>.pt k i o
 | .os k o n=>match Nat.beq k a with
  | true=>.os b o n
  | false=>match Nat.beq k b with | true=>.any | false=>.os k o n
 | .ow k=>match Nat.beq k a with
  | true=>.ow b
  | false=>match Nat.beq k b with | true=>.any | false=>.ow k
 | x=>x
def renB(a b:Nat):Blk→Blk
 | .box ty cells=>.box ty (cells.map (mapA (Za4 a b)))
 | .arr ty s els=>.arr ty s els
 | .dead=>.dead
def renH(a b:Nat)(H:Heap):Heap:=fun k=>match Nat.beq k b with
 | true=>match H a with | some B=>some (renB a b B) | none=>none
 | false=>match Nat.beq k a with
  | true=>none
  | false=>match H k with | some B=>some (renB a b B) | none=>none
def ren1(a b:Nat)(s:St):Option St:=match Nat.beq a b||!Nat.ble 8000 b with
 | true=>none
 | false=>match s.H a with
  | none=>none
  | some _=>some ⟨s.tmps.map (mapT (Za4 a b)),renH a b s.H,s.clk⟩
def renS:List (Nat×Nat)→St→Option St
 | [],s=>some s
 | (a,b)::l,s=>match ren1 a b s with
  | some s'=>renS l s'
  | none=>none
def renR(a b:Nat)(ρ:Rho):Rho:=fun k=>if k=b then ρ a else if k=a then none else ρ k
section
variable {ρ:Rho} {w:World} {Im:Nat→Prop} {a b:Nat}
theorem Zgh{k:Nat}{v:Value}(h:Rel ρ w Im (.ow k) v):Rel (renR a b ρ) w Im (Za4 a b (.ow k)) v:=by
 simp only[Za4];cases h1:Nat.beq k a with
 | true =>
  have e:=Nat.eq_of_beq_eq_true h1;subst e;cases h with
  | ow hr hc hb ha=>exact .ow (by simp only[renR,if_true];exact hr) hc hb ha
 | false =>
  have e1:=Nat.ne_of_beq_eq_false h1;cases h2:Nat.beq k b with
  | true=>exact .any _
  | false =>
   have e2:=Nat.ne_of_beq_eq_false h2;cases h with
   | ow hr hc hb ha=>exact .ow (by simp only[renR,if_neg e1,if_neg e2];exact hr) hc hb ha
theorem Zf0{k o n:Nat}{v:Value}(h:Rel ρ w Im (.os k o n) v):Rel (renR a b ρ) w Im (Za4 a b (.os k o n)) v:=by
 simp only[Za4];cases h1:Nat.beq k a with
 | true =>
  have e:=Nat.eq_of_beq_eq_true h1;subst e;cases h with
  | os hr hn hc hb ha=>exact .os (by simp only[renR,if_true];exact hr) hn hc hb ha
 | false =>
  have e1:=Nat.ne_of_beq_eq_false h1;cases h2:Nat.beq k b with
  | true=>exact .any _
  | false =>
   have e2:=Nat.ne_of_beq_eq_false h2;cases h with
   | os hr hn hc hb ha=>exact .os (by simp only[renR,if_neg e1,if_neg e2];exact hr) hn hc hb ha
theorem Zgq{k i o:Nat}{v:Value}(h:Rel ρ w Im (.pt k i o) v):Rel (renR a b ρ) w Im (Za4 a b (.pt k i o)) v:=by
 simp only[Za4];obtain⟨g,s,n,hr,rfl⟩:=Z2J h;cases h1:Nat.beq k a with
 | true =>
  have e:=Nat.eq_of_beq_eq_true h1;subst e;exact .pt (by simp only[renR,if_true];exact hr)
 | false =>
  have e1:=Nat.ne_of_beq_eq_false h1;cases h2:Nat.beq k b with
  | true=>exact .any _
  | false =>
   have e2:=Nat.ne_of_beq_eq_false h2;exact .pt (by simp only[renR,if_neg e1,if_neg e2];exact hr)
theorem Zmr{x:AV}{v:Value}(h:Rel ρ w Im x v):Rel (renR a b ρ) w Im (mapA (Za4 a b) x) v :=
 Z6O (fun _ h=>h) (fun _ _ _ _ h=>Zgq h) (fun _ _ _ _ h=>Zf0 h) (fun _ _ h=>Zgh h) h
theorem Zl5{x:AV}{v:Value}(h:Rel ρ w Im x v):Rel (renR a b ρ) w Im (mapT (Za4 a b) x) v :=
 Z8h (fun _ h=>h) (fun _ _ _ _ h=>Zgq h) (fun _ _ _ _ h=>Zf0 h) (fun _ _ h=>Zgh h) h
theorem Zfo{β:Bi}{B:Blk}(h:RelB ρ w Im β B):RelB (renR a b ρ) w Im β (renB a b B):=by
 cases B with
 | box ty cells =>
  obtain⟨h0,h00,g,cs,h1,h2,h3,h3',h4⟩:=h;refine⟨by simpa using h0,h00,g,cs,h1,h2,by simpa using h3,h3',fun o x v hx hv=>?_⟩;simp only[List.getElem?_map,Option.map_eq_some_iff]at hx;obtain⟨y,hy,rfl⟩:=hx;exact Zmr (h4 o y v hy hv)
 | arr ty s els=>exact h
 | dead=>trivial
theorem ZdC{B:Blk}(h:renB a b B≠.dead):B≠.dead:=by
 rintro rfl;exact h rfl
theorem Zor{s s':St}(h:ren1 a b s=some s'){Ow:Own}{Im0:Nat→Prop}{w0:World}{x:Act}{w:World}(hS:Sys Ow Im0 w0 s.tmps s.H s.clk x w):Sys Ow Im0 w0 s'.tmps s'.H s'.clk x w:=by
 unfold ren1 at h;split at h
 ·cases h
 rename_i hab;simp only[Bool.or_eq_false_iff,Bool.not_eq_false']at hab;have hne:=Nat.ne_of_beq_eq_false hab.1;have hb8:=Nat.le_of_ble_eq_true hab.2;split at h
 ·cases h
 rename_i B0 hB0;cases h;obtain⟨ρ,Im,I,T⟩:=hS;have hH:∀ k B,renH a b s.H k=some B→(k=b∧∃ B',s.H a=some B'∧B=renB a b B')∨(k≠b∧k≠a∧∃ B',s.H k=some B'∧B=renB a b B'):=by
  intro k B hk;simp only[renH]at hk;cases h1:Nat.beq k b with
  | true =>
   rw[h1,hB0]at hk;simp only[Option.some.injEq]at hk;exact .inl ⟨Nat.eq_of_beq_eq_true h1,B0,hB0,hk.symm⟩
  | false =>
   rw[h1]at hk;cases h2:Nat.beq k a with
   | true=>rw[h2]at hk;simp at hk
   | false =>
    rw[h2]at hk;cases h3:s.H k with
    | none=>rw[h3]at hk;simp at hk
    | some B' =>
     rw[h3]at hk;simp only[Option.some.injEq]at hk;exact .inr ⟨Nat.ne_of_beq_eq_false h1,Nat.ne_of_beq_eq_false h2,B',rfl,hk.symm⟩
 have hρ:∀ k β,renR a b ρ k=some β→(k=b∧ρ a=some β)∨(k≠b∧k≠a∧ρ k=some β):=by
  intro k β hk;simp only[renR]at hk;split at hk
  ·rename_i e;exact .inl ⟨e,hk⟩
  ·rename_i e;split at hk
   ·cases hk
   ·rename_i e2;exact .inr ⟨e,e2,hk⟩
 have hlive:∀ k,live (renH a b s.H) k→(k=b∧live s.H a)∨(k≠b∧k≠a∧live s.H k):=by
  rintro k ⟨B,h1,h2⟩;rcases hH k B h1 with⟨e,B',h3,rfl⟩ | ⟨e1,e2,B',h3,rfl⟩
  ·exact .inl ⟨e,B',h3,ZdC h2⟩
  ·exact .inr ⟨e1,e2,B',h3,ZdC h2⟩
 refine⟨renR a b ρ,Im,⟨I.kept,fun k k' β β' g l1 l2 q1 q2 q3 q4=>?_,fun k β g l q=>?_,fun k β g q=>?_,fun k β g q=>?_,I.imb,I.im0,fun k B q=>?_,fun k hk q=>?_,I.one.1,fun k β h q=>?_⟩,⟨by rw[T.size];simp,fun i y v hy hv=>?_,T.defers⟩⟩
 ·rcases hρ k β q1 with⟨e1,r1⟩ | ⟨e1,f1,r1⟩<;>rcases hρ k' β' q2 with⟨e2,r2⟩ | ⟨e2,f2,r2⟩
  ·rw[e1,e2]
  ·rcases hlive k l1 with⟨_,m1⟩ | ⟨m,_⟩
   ·rcases hlive k' l2 with⟨m,_⟩ | ⟨_,_,m2⟩
    ·exact absurd m e2
    ·exact absurd (I.inj a k' β β' g m1 m2 r1 r2 q3 q4).symm f2
   ·exact absurd e1 m
  ·rcases hlive k l1 with⟨m,_⟩ | ⟨_,_,m1⟩
   ·exact absurd m e1
   ·rcases hlive k' l2 with⟨_,m2⟩ | ⟨m,_⟩
    ·exact absurd (I.inj k a β β' g m1 m2 r1 r2 q3 q4) f1
    ·exact absurd e2 m
  ·rcases hlive k l1 with⟨m,_⟩ | ⟨_,_,m1⟩
   ·exact absurd m e1
   ·rcases hlive k' l2 with⟨m,_⟩ | ⟨_,_,m2⟩
    ·exact absurd m e2
    ·exact I.inj k k' β β' g m1 m2 r1 r2 q3 q4
 ·rcases hρ k β q with⟨e1,r1⟩ | ⟨e1,f1,r1⟩
  ·rcases hlive k l with⟨_,m1⟩ | ⟨m,_⟩
   ·exact I.notIm a β g m1 r1
   ·exact absurd e1 m
  ·rcases hlive k l with⟨m,_⟩ | ⟨_,_,m1⟩
   ·exact absurd m e1
   ·exact I.notIm k β g m1 r1
 ·rcases hρ k β q with⟨_,r1⟩ | ⟨_,_,r1⟩
  ·exact I.bnd a β g r1
  ·exact I.bnd k β g r1
 ·rcases hρ k β q with⟨_,r1⟩ | ⟨_,_,r1⟩
  ·rename_i hk0;intro hg;exact(I.own a β g r1 hg).imp (fun h=>⟨h.1,by omega⟩) (fun h=>h)
  ·exact I.own k β g r1
 rotate_left 2
 ·rcases hρ k β q with⟨e1,r1⟩ | ⟨_,_,r1⟩
  ·omega
  ·exact I.one.2 k β h r1
 rotate_right 2
 ·rcases hH k B q with⟨rfl,B',h3,rfl⟩ | ⟨e1,e2,B',h3,rfl⟩
  ·obtain⟨β,h4,h5⟩:=I.blk a B' h3;exact⟨β,by simp only[renR,if_true];exact h4,Zfo h5⟩
  ·obtain⟨β,h4,h5⟩:=I.blk k B' h3;exact⟨β,by simp only[renR,if_neg e1,if_neg e2];exact h4,Zfo h5⟩
 ·simp only[renH]at q;simp only[renR];cases h1:Nat.beq k b with
  | true=>rw[h1,hB0]at q;simp at q
  | false =>
   rw[h1]at q;rw[if_neg (Nat.ne_of_beq_eq_false h1)];cases h2:Nat.beq k a with
   | true=>rw[if_pos (Nat.eq_of_beq_eq_true h2)]
   | false =>
    rw[if_neg (Nat.ne_of_beq_eq_false h2)];rw[h2]at q;cases h3:s.H k with
    | none=>exact I.fresh k hk h3
    | some B'=>rw[h3]at q;simp at q
 ·simp only[List.getElem?_map,Option.map_eq_some_iff]at hy;obtain⟨z,hz,rfl⟩:=hy;exact Zl5 (T.tmp i z v hz hv)
end
theorem Zbs:∀ {l:List (Nat×Nat)} {s s':St},renS l s=some s'→∀ {Ow:Own} {Im0:Nat→Prop} {w0:World} {x:Act} {w:World},Sys Ow Im0 w0 s.tmps s.H s.clk x w→Sys Ow Im0 w0 s'.tmps s'.H s'.clk x w
 | [],s,s',h,_,_,_,_,_,hS=>by
  simp only[renS,Option.some.injEq]at h;subst h;exact hS
 | (a,b)::l,s,s',h,_,_,_,_,_,hS=>by
  simp only[renS]at h;split at h
  ·rename_i s1 h1;exact Zbs h (Zor h1 hS)
  ·cases h
def runToR(P:Program)(hints:List (Nat×List Hint))(cuts:List (Nat×Tg×Ex×Tg))(ren:List (Nat×Nat))(c:Code)(s:St)(t:Tg):Option Run :=
 match runC P hints cuts c s with
 | none=>none
 | some r=>match renS ren r.s with
  | none=>none
  | some s'=>match wk s' t with
   | some l=>some ⟨r.e,s',r.ph,r.eq++l⟩
   | none=>none
theorem Z4u{P:Program}(hints:List (Nat×List Hint))(cuts:List (Nat×Tg×Ex×Tg))(ren:List (Nat×Nat)){c:Code}{s:St}{e:Ex}{t:Tg}{φ:Prop}(hφ:φ)
  (h1:oblO (runToR P hints cuts ren c s t)=φ) (h2:lefO (runToR P hints cuts ren c s t)=rigO (runToR P hints cuts ren c s t)) (h3:exO (runToR P hints cuts ren c s t)=some e):CSpec P c s e t.st:=by
 rw[← h1]at hφ;cases hr:runToR P hints cuts ren c s t with
 | none=>rw[hr]at hφ;exact hφ.elim
 | some r =>
  rw[hr]at hφ h2 h3;have heq:EqP r.eq:=Z8R h2;have he:r.e=e:=by simpa[exO]using h3
  unfold runToR at hr;split at hr
  ·cases hr
  rename_i q hq;split at hr
  ·cases hr
  rename_i s' hs';split at hr;rotate_left
  ·cases hr
  rename_i l hl;cases hr;intro Ow Im0 w0 a w hS;refine wp_mono (Z9N hq hφ heq.left Ow Im0 w0 a w hS) ?_;rintro e' a' w' ⟨rfl,hS'⟩;exact⟨by rw[← he],ZgG hl heq.right (Zbs hs' hS')⟩
end Go.Sx
