/-
 The statement EvacuateForwards: part 14.
 Conditions: none.
-/
import Derived.Test.YtdhchmlalchgeaaGreatI13
set_option maxRecDepth 100000
set_option maxHeartbeats 2000000
set_option linter.all false
namespace Go.Proofs.YtdhchmlalchgeaaGreat
open Go.Sx
def loC(c:List Int)(x:Int):Nat:=(min (max x 0) (c.length:Int)).toNat
def clrW(c:List Int)(x k:Int):List Int:=c.take (loC c x)++List.replicate (loC c (x+k)-loC c x) 0++c.drop (loC c x+(loC c (x+k)-loC c x))
def cwN(h:Heap)(F:Int)(l c:List Int):Nat→List Int
 | 0=>c
 | n+1=>clrW (cwN h F l c n) (l.getD n default-F) (Z3A h (l.getD n default))
theorem Zfa(c:List Int)(x:Int):loC c x≤c.length:=by unfold loC;omega
theorem Zf2(c:List Int)(x:Int){k:Int}(hk:0≤k):loC c x≤loC c (x+k):=by unfold loC;omega
theorem Z9o(h:Heap)(a:Int):0≤Z3A h a∧Z3A h a≤256:=by
 have:=Z19 (atH h a).1;unfold Z3A;split<;>omega
theorem Zko(c:List Int)(x:Int){k:Int}(hk:0≤k):(clrW c x k).length=c.length:=by
 have h1:=Zfa c x;have h2:=Zfa c (x+k);have h3:=Zf2 c x hk;simp[clrW];omega
theorem Z8O(h:Heap)(F:Int)(l c:List Int):∀ n,(cwN h F l c n).length=c.length
 | 0=>rfl
 | n+1=>by rw[cwN,Zko _ _ (Z9o h _).1,Z8O h F l c n]
def adL(h:Heap)(F:Int)(l c:List Int)(n:Nat):Tg:=⟨tm 90 [(2,.pt 8002 0 0),(4,u64 0),(5,bool false),(6,u64 F),(8,.ow 25033),(44,Z01 l),(45,int l.length),(46,int n)],[(25033,.arr 35 1 ((cwN h F l c n).map wdv)),(8002,.box 28 h.cells)],60⟩
theorem ZnR(h:Heap)(F:Int)(l c:List Int)(n:Nat)(hw:WOk h.W)(hF:0≤F∧F≤8192)(hl:l.length≤1048576)(hc:c.length≤64)(hr:∀ x∈l,0≤x∧x≤8192)(hn:n<l.length):CP (rndF Tryz.f194 0) (adL h F l c n).st .nrm (adL h F l c (n+1)).st:=by
 have hx:=hr (l.getD n default) (getD_mem_iff.2 ⟨n,hn,rfl⟩);have hm:=Z3i hw (l.getD n default);have hlen:=Z8O h F l c n;have hs:=Z19 (atH h (l.getD n default)).1;by_cases hk:(atH h (l.getD n default)).1.K=0
 ·have ek:Z3A h (l.getD n default)=1:=if_pos hk;have e7:cwN h F l c (n+1)=clrW (cwN h F l c n) (l.getD n default-F) 1:=by rw[cwN,ek]
  exact sF [] (fO 8) (Fh 20000 [.els (List.map wdv (List.take (min (max (l.getD n default-F) 0) (↑(cwN h F l c n).length:Int)).toNat (cwN h F l c n)++List.replicate ((min (max (l.getD n default-F+1) 0) (↑(cwN h F l c n).length:Int)).toNat-(min (max (l.getD n default-F) 0) (↑(cwN h F l c n).length:Int)).toNat) 0++List.drop ((min (max (l.getD n default-F) 0) (↑(cwN h F l c n).length:Int)).toNat+(List.replicate ((min (max (l.getD n default-F+1) 0) (↑(cwN h F l c n).length:Int)).toNat-(min (max (l.getD n default-F) 0) (↑(cwN h F l c n).length:Int)).toNat) 0).length) (cwN h F l c n)))] (Ftb 47 (decide ((↑n:Int)<(↑l.length:Int))) (Fek 48 wdv l (↑n) n (Fc 53 (@Z3D h (l.getD n default) aa oq) (Ffb 58 ((atH h (l.getD n default)).fst.K != 0) (Fi 62 (l.getD n default) (Fi 64 F (Fi 65 (l.getD n default-F) (Fgo 68 (if 0 > l.getD n default-F then 0 else l.getD n default-F) (max (l.getD n default-F) 0) (Fl 70 wdv (cwN h F l c n) (Fgo 71 (if(↑(cwN h F l c n).length:Int)<max (l.getD n default-F) 0 then(↑(cwN h F l c n).length:Int)else max (l.getD n default-F) 0) (min (max (l.getD n default-F) 0) (↑(cwN h F l c n).length:Int)) (Fi 74 (l.getD n default-F+1) (Fgo 75 (if 0 > l.getD n default-F+1 then 0 else l.getD n default-F+1) (max (l.getD n default-F+1) 0) (Fl 77 wdv (cwN h F l c n) (Fgo 78 (if(↑(cwN h F l c n).length:Int)<max (l.getD n default-F+1) 0 then(↑(cwN h F l c n).length:Int)else max (l.getD n default-F+1) 0) (min (max (l.getD n default-F+1) 0) (↑(cwN h F l c n).length:Int)) (Fa (by(simp only[List.length_map];omega):0≤min (max (l.getD n default-F) 0) (↑(cwN h F l c n).length:Int)∧min (max (l.getD n default-F) 0) (↑(cwN h F l c n).length:Int)≤min (max (l.getD n default-F+1) 0) (↑(cwN h F l c n).length:Int)∧min (max (l.getD n default-F+1) 0) (↑(cwN h F l c n).length:Int)≤(↑(List.map wdv (cwN h F l c n)).length:Int)) (Fa (by simp only[Z0K,List.map_append,List.map_take,List.map_drop,List.map_replicate,List.length_replicate];rfl:Z0K (List.map wdv (cwN h F l c n)) (min (max (l.getD n default-F) 0) (↑(cwN h F l c n).length:Int)).toNat (List.replicate ((min (max (l.getD n default-F+1) 0) (↑(cwN h F l c n).length:Int)).toNat-(min (max (l.getD n default-F) 0) (↑(cwN h F l c n).length:Int)).toNat) [du64 0])=List.map wdv (List.take (min (max (l.getD n default-F) 0) (↑(cwN h F l c n).length:Int)).toNat (cwN h F l c n)++List.replicate ((min (max (l.getD n default-F+1) 0) (↑(cwN h F l c n).length:Int)).toNat-(min (max (l.getD n default-F) 0) (↑(cwN h F l c n).length:Int)).toNat) 0++List.drop ((min (max (l.getD n default-F) 0) (↑(cwN h F l c n).length:Int)).toNat+(List.replicate ((min (max (l.getD n default-F+1) 0) (↑(cwN h F l c n).length:Int)).toNat-(min (max (l.getD n default-F) 0) (↑(cwN h F l c n).length:Int)).toNat) 0).length) (cwN h F l c n))) (Fx 80 n (Fr (35:Int) (Fa (by refine congrArg _ ?_;rw[e7];simp only[clrW,loC,List.length_replicate]:List.map wdv (List.take (min (max (l.getD n default-F) 0) (↑(cwN h F l c n).length:Int)).toNat (cwN h F l c n)++List.replicate ((min (max (l.getD n default-F+1) 0) (↑(cwN h F l c n).length:Int)).toNat-(min (max (l.getD n default-F) 0) (↑(cwN h F l c n).length:Int)).toNat) 0++List.drop ((min (max (l.getD n default-F) 0) (↑(cwN h F l c n).length:Int)).toNat+(List.replicate ((min (max (l.getD n default-F+1) 0) (↑(cwN h F l c n).length:Int)).toNat-(min (max (l.getD n default-F) 0) (↑(cwN h F l c n).length:Int)).toNat) 0).length) (cwN h F l c n))=List.map wdv (cwN h F l c (n+1))) Fz))))))))))))))))))))
 ·have ek:Z3A h (l.getD n default)=sizeH (atH h (l.getD n default)).1:=if_neg hk;have e7:cwN h F l c (n+1)=clrW (cwN h F l c n) (l.getD n default-F) (sizeH (atH h (l.getD n default)).1):=by rw[cwN,ek]
  exact sF [] (fO 8) (Fh 20000 [.els (List.map wdv (List.take (min (max (l.getD n default-F) 0) (↑(cwN h F l c n).length:Int)).toNat (cwN h F l c n)++List.replicate ((min (max (l.getD n default-F+sizeH (atH h (l.getD n default)).fst) 0) (↑(cwN h F l c n).length:Int)).toNat-(min (max (l.getD n default-F) 0) (↑(cwN h F l c n).length:Int)).toNat) 0++List.drop ((min (max (l.getD n default-F) 0) (↑(cwN h F l c n).length:Int)).toNat+(List.replicate ((min (max (l.getD n default-F+sizeH (atH h (l.getD n default)).fst) 0) (↑(cwN h F l c n).length:Int)).toNat-(min (max (l.getD n default-F) 0) (↑(cwN h F l c n).length:Int)).toNat) 0).length) (cwN h F l c n)))] (Ftb 47 (decide ((↑n:Int)<(↑l.length:Int))) (Fek 48 wdv l (↑n) n (Fc 53 (@Z3D h (l.getD n default) aa oq) (Ftb 58 ((atH h (l.getD n default)).fst.K != 0) (Fc 60 (@Z0O ((atH h (l.getD n default)).fst) aa) (Fi 62 (l.getD n default) (Fi 64 F (Fi 65 (l.getD n default-F) (Fgo 68 (if 0 > l.getD n default-F then 0 else l.getD n default-F) (max (l.getD n default-F) 0) (Fl 70 wdv (cwN h F l c n) (Fgo 71 (if(↑(cwN h F l c n).length:Int)<max (l.getD n default-F) 0 then(↑(cwN h F l c n).length:Int)else max (l.getD n default-F) 0) (min (max (l.getD n default-F) 0) (↑(cwN h F l c n).length:Int)) (Fi 74 (l.getD n default-F+sizeH (atH h (l.getD n default)).fst) (Fgo 75 (if 0 > l.getD n default-F+sizeH (atH h (l.getD n default)).fst then 0 else l.getD n default-F+sizeH (atH h (l.getD n default)).fst) (max (l.getD n default-F+sizeH (atH h (l.getD n default)).fst) 0) (Fl 77 wdv (cwN h F l c n) (Fgo 78 (if(↑(cwN h F l c n).length:Int)<max (l.getD n default-F+sizeH (atH h (l.getD n default)).fst) 0 then(↑(cwN h F l c n).length:Int)else max (l.getD n default-F+sizeH (atH h (l.getD n default)).fst) 0) (min (max (l.getD n default-F+sizeH (atH h (l.getD n default)).fst) 0) (↑(cwN h F l c n).length:Int)) (Fa (by(simp only[List.length_map];omega):0≤min (max (l.getD n default-F) 0) (↑(cwN h F l c n).length:Int)∧min (max (l.getD n default-F) 0) (↑(cwN h F l c n).length:Int)≤min (max (l.getD n default-F+sizeH (atH h (l.getD n default)).fst) 0) (↑(cwN h F l c n).length:Int)∧min (max (l.getD n default-F+sizeH (atH h (l.getD n default)).fst) 0) (↑(cwN h F l c n).length:Int)≤(↑(List.map wdv (cwN h F l c n)).length:Int)) (Fa (by simp only[Z0K,List.map_append,List.map_take,List.map_drop,List.map_replicate,List.length_replicate];rfl:Z0K (List.map wdv (cwN h F l c n)) (min (max (l.getD n default-F) 0) (↑(cwN h F l c n).length:Int)).toNat (List.replicate ((min (max (l.getD n default-F+sizeH (atH h (l.getD n default)).fst) 0) (↑(cwN h F l c n).length:Int)).toNat-(min (max (l.getD n default-F) 0) (↑(cwN h F l c n).length:Int)).toNat) [du64 0])=List.map wdv (List.take (min (max (l.getD n default-F) 0) (↑(cwN h F l c n).length:Int)).toNat (cwN h F l c n)++List.replicate ((min (max (l.getD n default-F+sizeH (atH h (l.getD n default)).fst) 0) (↑(cwN h F l c n).length:Int)).toNat-(min (max (l.getD n default-F) 0) (↑(cwN h F l c n).length:Int)).toNat) 0++List.drop ((min (max (l.getD n default-F) 0) (↑(cwN h F l c n).length:Int)).toNat+(List.replicate ((min (max (l.getD n default-F+sizeH (atH h (l.getD n default)).fst) 0) (↑(cwN h F l c n).length:Int)).toNat-(min (max (l.getD n default-F) 0) (↑(cwN h F l c n).length:Int)).toNat) 0).length) (cwN h F l c n))) (Fx 80 n (Fr (35:Int) (Fa (by refine congrArg _ ?_;rw[e7];simp only[clrW,loC,List.length_replicate]:List.map wdv (List.take (min (max (l.getD n default-F) 0) (↑(cwN h F l c n).length:Int)).toNat (cwN h F l c n)++List.replicate ((min (max (l.getD n default-F+sizeH (atH h (l.getD n default)).fst) 0) (↑(cwN h F l c n).length:Int)).toNat-(min (max (l.getD n default-F) 0) (↑(cwN h F l c n).length:Int)).toNat) 0++List.drop ((min (max (l.getD n default-F) 0) (↑(cwN h F l c n).length:Int)).toNat+(List.replicate ((min (max (l.getD n default-F+sizeH (atH h (l.getD n default)).fst) 0) (↑(cwN h F l c n).length:Int)).toNat-(min (max (l.getD n default-F) 0) (↑(cwN h F l c n).length:Int)).toNat) 0).length) (cwN h F l c n))=List.map wdv (cwN h F l c (n+1))) Fz)))))))))))))))))))))
theorem Zqf(h:Heap)(F:Int)(l c:List Int):CP (rndF Tryz.f194 0) (adL h F l c l.length).st (.ext 0) (Tg.st ⟨tm 90 [(4,u64 0),(5,bool false),(6,u64 F),(8,.ow 25033)],[(25033,.arr 35 1 ((cwN h F l c l.length).map wdv))],60⟩):=by
 exact sF [] [] (Ffb 47 (decide ((↑l.length:Int)<(↑l.length:Int))) Fz)
theorem ZpH(h:Heap)(F:Int)(l c:List Int)(hw:WOk h.W)(hF:0≤F∧F≤8192)(hl:l.length≤1048576)(hc:c.length≤64)(hr:∀ x∈l,0≤x∧x≤8192):CP (blkF Tryz.f194 0) (Tg.st ⟨tm 90 [(2,.pt 8002 0 0),(4,u64 0),(5,bool false),(6,u64 F),(8,.ow 25033),(44,Z01 l),(45,int l.length),(46,int 0)],[(25033,.arr 35 1 (c.map wdv)),(8002,.box 28 h.cells)],60⟩) .nrm
  (Tg.st ⟨tm 90 [(4,u64 0),(5,bool false),(6,u64 F),(8,.ow 25033)],[(25033,.arr 35 1 ((cwN h F l c l.length).map wdv))],60⟩) :=
 Z08 (S:=fun n=>(adL h F l c n).st) l.length kr (fun n hn=>ZnR h F l c n hw hF hl hc hr hn) (Zqf h F l c)
def rawP(h:Heap)(i:Nat):List Int:=(h.W.drop ((address h.C i 0).1-4096).toNat).take h.C.pw.toNat
def clrP(h:Heap)(i:Nat):List Int:=cwN h (address h.C i 0).1 (Z06 h (Z0v h.P i:Nat)).1 (rawP h i) (Z06 h (Z0v h.P i:Nat)).1.length
theorem Z74(h:Heap)(i:Nat)(hw:WOk h.W)(hp:Z02 h=true)(hi:i<h.P.length):GP 194 [h.av,int i] true (.tu [u64 ((address h.C i 0).1+max (idxW (clrP h i)) 0),bool (decide (0≤idxW (clrP h i)))]) []:=by
 have po:=Z07 hp;have ea:(address h.C i 0).1=4096+i*h.C.pw:=by
  unfold address;rw[if_pos po.1,if_pos (inB_iff.2 oq)];simp only;omega
 have ap:=Z2B po.1 (i:=i) oq oq;have hh:=Zb3 h.P i;have hx:(i:Int)*h.C.pw+h.C.pw≤h.W.length:=by
  have h1:((i:Int)+1)*h.C.pw≤h.C.pg*h.C.pw:=Int.mul_le_mul_of_nonneg_right oq oq;have h2:((i:Int)+1)*h.C.pw=i*h.C.pw+h.C.pw:=by rw[Int.add_mul,Int.one_mul]
  have h3:h.C.pg*h.C.pw=h.C.pw*h.C.pg:=Int.mul_comm _ _;omega
 have hr:=Z2C hp (Z0v h.P i:Nat);have hn:=Z2L h (Z0v h.P i:Nat);have hlen:(clrP h i).length≤64:=by
  rw[clrP,Z8O,rawP,List.length_take];omega
 have hix:idxW (clrP h i)≤64∧-1≤idxW (clrP h i):=by
  have:fstW (clrP h i)≤(clrP h i).length:=(List.takeWhile_sublist _).length_le;unfold idxW;split<;>omega
 have hrl:(rawP h i).length≤64:=by rw[rawP,List.length_take];omega
 unfold clrP rawP at *;let y1:=address h.C (↑i:Int) 0;let y0:=cwN h y1.fst (Z06 h (↑(Z0v h.P i):Int)).fst (List.take h.C.pw.toNat (List.drop (y1.fst-4096).toNat h.W)) (Z06 h (↑(Z0v h.P i):Int)).fst.length;exact gF [] Tryz.func194 [] (Fc 23 (@Z3v h.C ((↑i:Int)) (0)) (Fc 33 (@Zhb h.W (y1.fst) h.C.pw oq oq) (Fc 40 (@ZiR h i aa aa) (Fc 41 (@Z3l h ((↑(Z0v h.P i):Int)) aa oq) (Fl 45 wdv (Z06 h (↑(Z0v h.P i):Int)).fst (Fu (@ZpH h (y1.fst) ((Z06 h (↑(Z0v h.P i):Int)).fst) (List.take h.C.pw.toNat (List.drop (y1.fst-4096).toNat h.W)) aa oq oq aa aa) (Fc 82 (@Zpk y0 oq) (Fgo 85 (if 0 > idxW y0 then 0 else idxW y0) (max (idxW y0) 0) (Fv 86 (max (idxW y0) 0) (Fv 87 (y1.fst+max (idxW y0) 0) Fz))))))))))
def unS(fn:Func):Func:=match fn.body with
 | some (.seq x (.scope c)) => { fn with body:=some (.seq x c) }
 | _=>fn
def firS(fn:Func):Code:=match fn.body with
 | some (.seq x _)=>x
 | _=>.skip
def bdyS(fn:Func):Code:=match fn.body with
 | some (.seq _ c)=>c
 | _=>.skip
theorem ZiP{P:Program}{c:Code}{n m:Nat}{s t:St}(hmn:m≠n)(h:CSpec P c s (.ext m) t):CSpec P (.block n c) s (.ext m) t:=by
 intro Ow Im0 w0 a w hS;refine wp_block (wp_mono (h Ow Im0 w0 a w hS) ?_);rintro e a' w' ⟨rfl,hS'⟩;show(if m=n then _ else _);rw[if_neg hmn];exact⟨rfl,hS'⟩
theorem Zed{P:Program}{fn:Func}{b m:Nat}{S:Nat→St}{t:St}(n:Nat)(hb:Z6w b (blkF fn b)=true)(hm:m≠b)(h:∀ i,i<n→CSpec P (rndF fn b) (S i) .nrm (S (i+1)))(hn:CSpec P (rndF fn b) (S n) (.ext m) t):CSpec P (blkF fn b) (S 0) (.ext m) t:=by
 rw[Z6r hb];exact ZiP hm (ZeA (ZeH n h (fun h=>nomatch h) hn))
def fdV(h:Heap)(a k:Int):Int:=(loadA h.W (a+1+k)).1
def pbad(h:Heap)(all:List Int)(a k:Int):Bool:=(fdV h a k != 0)&&!decide (fdV h a k∈all)
theorem pbad_yes{h:Heap}{all:List Int}{a k:Int}:pbad h all a k=true↔¬ fdV h a k=0∧¬ fdV h a k∈all:=by simp[pbad]
theorem pbad_no{h:Heap}{all:List Int}{a k:Int}:pbad h all a k=false↔fdV h a k=0∨fdV h a k∈all:=by
 by_cases h1:fdV h a k=0<;>by_cases h2:fdV h a k∈all<;>simp[pbad,h1,h2]
def yJ(a:Int)(P:List Int):Nat→Int
 | 0=>0
 | j+1=>a+1+P.getD j default
def apI(h:Heap)(all:List Int)(i:Nat)(a:Int)(P:List Int)(j:Nat):Tg:=⟨tm 83 [(1,.pt 8001 0 0),(2,.pt 8002 0 0),(3,Z01 all),(5,u64 (yJ a P j)),(7,u64 a),(24,Z01 all),(25,int all.length),(26,int i),(37,Z0j P),(38,int P.length),(39,int j)],[(8002,.box 180 [int 0,int 0,u64 0]),(8001,.box 28 h.cells)],64⟩
section
variable (h:Heap) (all:List Int) (i:Nat) (a:Int) (P:List Int) (j:Nat) (hw:WOk h.W) (hwl:h.W.length≤1048576) (hl:all.length≤1048576) (hs:all.Pairwise (· < ·)) (ha:0≤a∧a≤8192) (hP:P.length≤256) (hk:0≤P.getD j default∧P.getD j default≤256) (hj:j<P.length)
include hw hwl hl hs ha hP hk hj
theorem ZfA(hb:pbad h all a (P.getD j default)=false):CP (rndF (unS Tryz.f170) 2) (apI h all i a P j).st .nrm (apI h all i a P (j+1)).st:=by
 have ey:yJ a P (j+1)=a+1+P.getD j default:=rfl;have hb':=pbad_no.1 hb;unfold fdV at hb';clear hb;generalize hy:yJ a P (j+1)=y1 at ey;unfold apI;rw[hy];rcases hb' with hb | hb
 ·exact sF [] (fO 5) (Ftb 40 (decide ((↑j:Int)<(↑P.length:Int))) (Fek 41 idv P (↑j) j (Fv 44 (a+1) (Fv 46 (P.getD j default) (Fv 47 (a+1+P.getD j default) (Fc 52 (@Z6I h.W (a+1+P.getD j default) aa oq) (Fc 58 (@bsearch all ((loadA h.W (a+1+P.getD j default)).fst) aa aa) (Ffb 66 ((loadA h.W (a+1+P.getD j default)).fst != 0&&!decide ((loadA h.W (a+1+P.getD j default)).fst∈all)) (Fx 67 j (Fa ‹a+1+P.getD j default=y1› Fz))))))))))
 ·exact sF [] (fO 5) (Ftb 40 (decide ((↑j:Int)<(↑P.length:Int))) (Fek 41 idv P (↑j) j (Fv 44 (a+1) (Fv 46 (P.getD j default) (Fv 47 (a+1+P.getD j default) (Fc 52 (@Z6I h.W (a+1+P.getD j default) aa oq) (Fc 58 (@bsearch all ((loadA h.W (a+1+P.getD j default)).fst) aa aa) (Ffs 66 ((loadA h.W (a+1+P.getD j default)).fst != 0&&!decide ((loadA h.W (a+1+P.getD j default)).fst∈all)) (Fx 67 j (Fa ‹a+1+P.getD j default=y1› Fz))))))))))
theorem Zm8(hb:pbad h all a (P.getD j default)=true):CP (rndF (unS Tryz.f170) 2) (apI h all i a P j).st (.ext 0) (Tg.st ⟨tm 83 [(1,.pt 8001 0 0),(2,.pt 8002 0 0),(5,u64 (a+1+P.getD j default))],[(8002,.box 180 [int 0,int 0,u64 0]),(8001,.box 28 h.cells)],68⟩):=by
 obtain⟨hb1,hb2⟩:=pbad_yes.1 hb;unfold fdV at hb1 hb2;clear hb;exact sF [] [] (Ftb 40 (decide ((↑j:Int)<(↑P.length:Int))) (Fek 41 idv P (↑j) j (Fv 44 (a+1) (Fv 46 (P.getD j default) (Fv 47 (a+1+P.getD j default) (Fc 52 (@Z6I h.W (a+1+P.getD j default) aa oq) (Fc 58 (@bsearch all ((loadA h.W (a+1+P.getD j default)).fst) aa aa) (Fts 66 ((loadA h.W (a+1+P.getD j default)).fst != 0&&!decide ((loadA h.W (a+1+P.getD j default)).fst∈all)) Fz))))))))
end
theorem Zpd(h:Heap)(all:List Int)(i:Nat)(a:Int)(P:List Int):CP (rndF (unS Tryz.f170) 2) (apI h all i a P P.length).st (.ext 2) (Tg.st ⟨tm 83 [(1,.pt 8001 0 0),(2,.pt 8002 0 0),(3,Z01 all),(24,Z01 all),(25,int all.length),(26,int i)],[(8002,.box 180 [int 0,int 0,u64 0]),(8001,.box 28 h.cells)],68⟩):=by
 exact sF [] [] (Ffb 40 (decide ((↑P.length:Int)<(↑P.length:Int))) Fz)
theorem ZmY(h:Heap)(all:List Int)(i:Nat)(a:Int)(P:List Int)(hw:WOk h.W)(hwl:h.W.length≤1048576)(hl:all.length≤1048576)(hs:all.Pairwise (· < ·))(ha:0≤a∧a≤8192)(hP:P.length≤256)(hk:∀ k∈P,0≤k∧k≤256)(hf:P.find? (pbad h all a)=none) :
  CP (blkF (unS Tryz.f170) 2) (Tg.st ⟨tm 83 [(1,.pt 8001 0 0),(2,.pt 8002 0 0),(3,Z01 all),(5,u64 0),(7,u64 a),(24,Z01 all),(25,int all.length),(26,int i),(37,Z0j P),(38,int P.length),(39,int 0)],[(8002,.box 180 [int 0,int 0,u64 0]),(8001,.box 28 h.cells)],64⟩) .nrm (Tg.st ⟨tm 83 [(1,.pt 8001 0 0),(2,.pt 8002 0 0),(3,Z01 all),(24,Z01 all),(25,int all.length),(26,int i)],[(8002,.box 180 [int 0,int 0,u64 0]),(8001,.box 28 h.cells)],68⟩) :=
 Z08 (S:=fun j=>(apI h all i a P j).st) P.length kr (fun j hj=>ZfA h all i a P j hw hwl hl hs ha hP (hk _ (getD_mem_iff.2 ⟨j,hj,rfl⟩)) hj (Z6v hf j hj)) (Zpd h all i a P)
theorem ZkR(h:Heap)(all:List Int)(i:Nat)(a:Int)(P:List Int)(x:Int)(hw:WOk h.W)(hwl:h.W.length≤1048576)(hl:all.length≤1048576)(hs:all.Pairwise (· < ·))(ha:0≤a∧a≤8192)(hP:P.length≤256)(hk:∀ k∈P,0≤k∧k≤256)(hf:P.find? (pbad h all a)=some x) :
  CP (blkF (unS Tryz.f170) 2) (Tg.st ⟨tm 83 [(1,.pt 8001 0 0),(2,.pt 8002 0 0),(3,Z01 all),(5,u64 0),(7,u64 a),(24,Z01 all),(25,int all.length),(26,int i),(37,Z0j P),(38,int P.length),(39,int 0)],[(8002,.box 180 [int 0,int 0,u64 0]),(8001,.box 28 h.cells)],64⟩) (.ext 0) (Tg.st ⟨tm 83 [(1,.pt 8001 0 0),(2,.pt 8002 0 0),(5,u64 (a+1+x))],[(8002,.box 180 [int 0,int 0,u64 0]),(8001,.box 28 h.cells)],68⟩):=by
 obtain⟨n,h1,h2,h3,h4⟩:=Z3s hf;subst h2;exact Zed (S:=fun j=>(apI h all i a P j).st) n kr dd (fun j hj=>ZfA h all i a P j hw hwl hl hs ha hP (hk _ (getD_mem_iff.2 ⟨j,by omega,rfl⟩)) oq (h4 j hj)) (Zm8 h all i a P n hw hwl hl hs ha hP (hk _ (getD_mem_iff.2 ⟨n,h1,rfl⟩)) h1 h3)
def apF(h:Heap)(all:List Int)(a:Int):Option Int:=(Z09 (atH h a).1).find? (pbad h all a)
def apL(h:Heap)(all:List Int)(i:Nat):Tg:=⟨tm 83 [(1,.pt 8001 0 0),(2,.pt 8002 0 0),(3,Z01 all),(5,u64 0),(24,Z01 all),(25,int all.length),(26,int i)],[(8002,.box 180 [int 0,int 0,u64 0]),(8001,.box 28 h.cells)],60⟩
theorem Z7n(h:Header):∀ n:Nat,∀ k∈Z12 h n,0≤k∧k<n
 | 0,k,hk=>by simp[Z12]at hk
 | n+1,k,hk=>by
  unfold Z12 at hk;split at hk
  ·rcases List.mem_append.1 hk with hk | hk
   ·have:=Z7n h n k hk;omega
   ·simp only[List.mem_cons,List.not_mem_nil,or_false]at hk;omega
  ·have:=Z7n h n k hk;omega
theorem Z4n(h:Header):(Z09 h).length≤256∧∀ k∈Z09 h,0≤k∧k≤256:=by
 rw[← Z7H];have hs:=Z19 h;have h1:=Z41 h (sizeH h).toNat
 exact⟨by omega,fun k hk=>by have:=Z7n h _ k hk;omega⟩
section
variable (h:Heap) (all:List Int) (i:Nat) (hw:WOk h.W) (hwl:h.W.length≤1048576) (hl:all.length≤1048576) (hs:all.Pairwise (· < ·)) (hr:∀ x∈all,0≤x∧x≤8192) (hi:i<all.length)
include hw hwl hl hs hr hi
theorem Zi5(hb:apF h all (all.getD i default)=none):CP (rndF (unS Tryz.f170) 0) (apL h all i).st .nrm (apL h all (i+1)).st:=by
 have hx:=hr (all.getD i default) (getD_mem_iff.2 ⟨i,hi,rfl⟩);have hm:=Z3i hw (all.getD i default);have hq:=Z4n (atH h (all.getD i default)).1;have hq1:=hq.1;have hq2:=hq.2;unfold apF at hb;let y0:=all.getD i default;let y1:=Z09 (atH h y0).fst;exact sF [] [] (Fk (2,Tg.mk (tm 83 [(1,AV.pt 8001 0 0),(2,AV.pt 8002 0 0),(3,Z01 all),(5,u64 0),(7,u64 y0),(24,Z01 all),(25,int ↑all.length),(26,int ↑i),(37,Z0j y1),(38,int (↑y1.length:Int)),(39,int 0)]) [(8002,Blk.box 180 [int 0,int 0,u64 0]),(8001,Blk.box 28 h.cells)] 64,Ex.nrm,Tg.mk (tm 83 [(1,AV.pt 8001 0 0),(2,AV.pt 8002 0 0),(3,Z01 all),(24,Z01 all),(25,int ↑all.length),(26,int ↑i)]) [(8002,Blk.box 180 [int 0,int 0,u64 0]),(8001,Blk.box 28 h.cells)] 68) (Ftb 27 (decide ((↑i:Int)<(↑all.length:Int))) (Fek 28 wdv all (↑i) i (Fc 33 (@Z3D h y0 aa oq) (Fc 37 (@Z5J ((atH h y0).fst) aa) (Fl 38 idv y1 (Fa (@ZmY h all i y0 y1 aa aa aa aa aa aa aa aa) (Fx 68 i Fz))))))))
theorem Zn8(x:Int)(hb:apF h all (all.getD i default)=some x):CP (rndF (unS Tryz.f170) 0) (apL h all i).st (.ext 0) (Tg.st ⟨tm 83 [(1,.pt 8001 0 0),(2,.pt 8002 0 0),(5,u64 (all.getD i default+1+x))],[(8002,.box 180 [int 0,int 0,u64 0]),(8001,.box 28 h.cells)],72⟩):=by
 have hx:=hr (all.getD i default) (getD_mem_iff.2 ⟨i,hi,rfl⟩);have hm:=Z3i hw (all.getD i default);have hq:=Z4n (atH h (all.getD i default)).1;have hq1:=hq.1;have hq2:=hq.2;unfold apF at hb;let y0:=all.getD i default;let y1:=Z09 (atH h y0).fst;exact sF [] [] (Fk (2,Tg.mk (tm 83 [(1,AV.pt 8001 0 0),(2,AV.pt 8002 0 0),(3,Z01 all),(5,u64 0),(7,u64 y0),(24,Z01 all),(25,int ↑all.length),(26,int ↑i),(37,Z0j y1),(38,int (↑y1.length:Int)),(39,int 0)]) [(8002,Blk.box 180 [int 0,int 0,u64 0]),(8001,Blk.box 28 h.cells)] 64,Ex.ext 0,Tg.mk (tm 83 [(1,AV.pt 8001 0 0),(2,AV.pt 8002 0 0),(5,u64 (all.getD i default+1+x))]) [(8002,Blk.box 180 [int 0,int 0,u64 0]),(8001,Blk.box 28 h.cells)] 68) (Ftb 27 (decide ((↑i:Int)<(↑all.length:Int))) (Fek 28 wdv all (↑i) i (Fc 33 (@Z3D h y0 aa oq) (Fc 37 (@Z5J ((atH h y0).fst) aa) (Fl 38 idv y1 (Fa (@ZkR h all i y0 y1 x aa aa aa aa aa aa aa aa) Fz)))))))
end
theorem Zqd(h:Heap)(all:List Int):CP (rndF (unS Tryz.f170) 0) (apL h all all.length).st (.ext 0) (Tg.st ⟨tm 83 [(1,.pt 8001 0 0),(2,.pt 8002 0 0),(5,u64 0)],[(8002,.box 180 [int 0,int 0,u64 0]),(8001,.box 28 h.cells)],72⟩):=by
 exact sF [] [] (Ffb 27 (decide ((↑all.length:Int)<(↑all.length:Int))) Fz)
def ZpG(h:Heap)(all:List Int)(hw:WOk h.W)(hwl:h.W.length≤1048576)(hl:all.length≤1048576)(hs:all.Pairwise (· < ·))(hr:∀ x∈all,0≤x∧x≤8192)(hf:all.find? (fun a=>(apF h all a).isSome)=none)  := Z08 (S:=fun i=>(apL h all i).st) all.length (by kernel_rfl) (fun i hi=>Zi5 h all i hw hwl hl hs hr hi (by simpa using Z6v hf i hi)) (Zqd h all)
theorem Zo4(h:Heap)(all:List Int)(a x:Int)(hw:WOk h.W)(hwl:h.W.length≤1048576)(hl:all.length≤1048576)(hs:all.Pairwise (· < ·))(hr:∀ x∈all,0≤x∧x≤8192)(hf:all.find? (fun a=>(apF h all a).isSome)=some a)(hx:apF h all a=some x):CP (blkF (unS Tryz.f170) 0) (Tg.st ⟨tm 83 [(1,.pt 8001 0 0),(2,.pt 8002 0 0),(3,Z01 all),(5,u64 0),(24,Z01 all),(25,int all.length),(26,int 0)],[(8002,.box 180 [int 0,int 0,u64 0]),(8001,.box 28 h.cells)],60⟩) .nrm (Tg.st ⟨tm 83 [(1,.pt 8001 0 0),(2,.pt 8002 0 0),(5,u64 (a+1+x))],[(8002,.box 180 [int 0,int 0,u64 0]),(8001,.box 28 h.cells)],72⟩):=by
 obtain⟨n,h1,h2,h3,h4⟩:=Z3s hf;subst h2;exact Z08 (S:=fun i=>(apL h all i).st) n kr (fun i hi=>Zi5 h all i hw hwl hl hs hr oq (by simpa using h4 i hi)) (Zn8 h all n hw hwl hl hs hr h1 x hx)
theorem Zq6(h:Heap):CP (firS (unS Tryz.f170)) (Tg.st ⟨tm 83 [(0,h.av)],[],1⟩) .nrm (Tg.st ⟨tm 83 [(1,.pt 8001 0 0),(2,.pt 8002 0 0)],[(8002,.box 180 [int 0,int 0,u64 0]),(8001,.box 28 h.cells)],20⟩):=by
 exact sF [] [] Fz
def apAt(h:Heap):Int:=match (Z03 h).1.find? (fun a=>(apF h (Z03 h).1 a).isSome)with
 | some a=>a+1+(apF h (Z03 h).1 a).getD 0
 | none=>0
def apW(h:Heap):Finding:=if apAt h=0 then⟨0,0,0⟩else⟨6,(ofA h.C (apAt h)).1,apAt h⟩
theorem Zq5(h:Heap)(hw:WOk h.W)(hwl:h.W.length≤1048576):CP (bdyS (unS Tryz.f170)) (Tg.st ⟨tm 83 [(1,.pt 8001 0 0),(2,.pt 8002 0 0)],[(8002,.box 180 [int 0,int 0,u64 0]),(8001,.box 28 h.cells)],20⟩) .ret (Tg.st ⟨tm 83 [(2,.pt 8002 0 0)],[(8002,.box 180 [int (apW h).fault,int (apW h).page,u64 (apW h).addr])],90⟩):=by
 have hl:=Z2d h;have hs:=Ze1 h;have hr:=Z36 h;cases hf:(Z03 h).1.find? (fun a=>(apF h (Z03 h).1 a).isSome)with
 | none =>
  have e1:apAt h=0:=by simp only[apAt,hf]
  have e7:apW h=⟨0,0,0⟩:=if_pos e1;rw[e7];exact sF [] [] (Fk (0,Tg.mk (tm 83 [(1,AV.pt 8001 0 0),(2,AV.pt 8002 0 0),(3,Z01 (Z03 h).fst),(5,u64 0),(24,Z01 (Z03 h).fst),(25,int (↑(Z03 h).fst.length:Int)),(26,int 0)]) [(8002,Blk.box 180 [int 0,int 0,u64 0]),(8001,Blk.box 28 h.cells)] 60,Ex.nrm,Tg.mk (tm 83 [(1,AV.pt 8001 0 0),(2,AV.pt 8002 0 0),(5,u64 0)]) [(8002,Blk.box 180 [int 0,int 0,u64 0]),(8001,Blk.box 28 h.cells)] 72) (Fc 21 (@Z5Q h aa) (Fl 25 wdv (Z03 h).fst (Fa (@ZpG h ((Z03 h).fst) aa aa oq aa aa aa) Fz))))
 | some a =>
  obtain⟨n,h1,h2,h3,h4⟩:=Z3s hf;obtain⟨x,hx⟩:=Option.isSome_iff_exists.1 h3;have ha:=hr a (getD_mem_iff.2 ⟨n,h1,h2⟩);have hxr:=(Z4n (atH h a).1).2 x (List.mem_of_find?_eq_some hx);have e1:apAt h=a+1+x:=by simp only[apAt,hf,hx,Option.getD_some]
  have e7:apW h=⟨6,(ofA h.C (a+1+x)).1,a+1+x⟩:=by rw[apW,e1,if_neg oq]
  rw[e7];exact sF [] [] (Fk (0,Tg.mk (tm 83 [(1,AV.pt 8001 0 0),(2,AV.pt 8002 0 0),(3,Z01 (Z03 h).fst),(5,u64 0),(24,Z01 (Z03 h).fst),(25,int (↑(Z03 h).fst.length:Int)),(26,int 0)]) [(8002,Blk.box 180 [int 0,int 0,u64 0]),(8001,Blk.box 28 h.cells)] 60,Ex.nrm,Tg.mk (tm 83 [(1,AV.pt 8001 0 0),(2,AV.pt 8002 0 0),(5,u64 (a+1+x))]) [(8002,Blk.box 180 [int 0,int 0,u64 0]),(8001,Blk.box 28 h.cells)] 72) (Fc 21 (@Z5Q h aa) (Fl 25 wdv (Z03 h).fst (Fa (@Zo4 h ((Z03 h).fst) a x aa aa oq aa aa aa aa) (Ffb 70 (a+1+x==0) (Fc 76 (@Z2a h.C (a+1+x) oq oq) Fz))))))
end Go.Proofs.YtdhchmlalchgeaaGreat
namespace Go.Proofs.YtdhchmlalchgeaaGreat
open Go.Sx Go.RowKit
def Finding.val(f:Finding):Value:=.agg #[.int .i64 f.fault,.int .i64 f.page,.int .u64 f.addr]
theorem Zep(ρ:Rho)(w:World)(Im:Nat→Prop)(f:Finding):Rel ρ w Im f.av f.val:=by
 refine .ag _ _ rfl (fun i v h=>?_) (fun i a v ha hv=>?_)
 ·rcases i with _ | _ | _ | i<;>simp at h<;>subst h<;>rfl
 ·rcases i with _ | _ | _ | i<;>simp at ha hv<;>subst ha<;>subst hv<;>exact .d (.sc _ rfl)
theorem Zhu{ρ:Rho}{w:World}{Im:Nat→Prop}{f:Finding}{v:Value}(h:Rel ρ w Im f.av v):v=f.val:=by
 obtain⟨cs,h1,h2,h3,h4⟩:=Z2R h;rw[h1];have g:∀ (k:Nat) (hk:k<cs.size) (v:Value),[int f.fault,int f.page,u64 f.addr][k]? = some (.d (.sc v))→cs[k]=v:=fun k hk v hv=>Z0L (h4 k _ cs[k] hv (Array.getElem?_eq_getElem hk));have hs:cs.size=3:=h2;simp only[Finding.val];congr 1;apply Array.ext
 ·simp[hs]
 ·intro k hk _;rcases k with _ | _ | _ | k
  ·exact g 0 hk _ rfl
  ·exact g 1 hk _ rfl
  ·exact g 2 hk _ rfl
  ·omega
theorem noGoto_ret{Q:Exit→Act→World→Prop}{a:Act}{w:World}(h:Q .ret a w):Exit.noGoto Q Ex.ret.exit a w:=h
theorem Z4s(h:Heap)(hw:WOk h.W)(hwl:h.W.length≤1048576):GP 170 [h.av] true (apW h).av []:=by
 intro w00 Im vs hIm hsz hargs;have hs1:vs.size=1:=hsz;have hbody:Tryz.f170.body=some (.seq (firS (unS Tryz.f170)) (.scope (bdyS (unS Tryz.f170)))):=by kernel_rfl
 refine calls_of_wp Tryz.func170 hbody ?_;have S0:Sx.Sys Z40 Im w00 (tm 83 [(0,h.av)]) (hOf []) 1 { tmps:=vs++Array.replicate (Tryz.f170.ntmps-vs.size) undef,defers:=[] } w00:=by
  refine⟨_,Im,Sx.Inv.empty hIm (Nat.le_refl 1),⟨by rw[hs1];simp[hs1];kernel_rfl,fun k y v hy hv=>?_,rfl⟩⟩;rw[show tm 83 [(0,h.av)]=[h.av]++List.replicate 82 .any from by kernel_rfl,List.getElem?_append]at hy;rw[Array.getElem?_append]at hv;split at hy
  ·rename_i hk;rw[if_pos (by rw[hsz];exact hk)]at hv;exact hargs k y v hy hv
  ·have:=List.mem_of_getElem? hy;rw[(List.mem_replicate.1 this).2];exact .any _
 refine wp_seq (wp_mono (Zq6 h _ _ _ _ _ S0) ?_);rintro e a1 w1 ⟨rfl,S1⟩;refine wp_scope_straight (wp_mono (Zq5 h hw hwl _ _ _ _ _ S1) ?_);rintro e a2 w2 ⟨rfl,ρ2,Im2,I2,T2⟩;obtain⟨v,hv1,hv2⟩:=Z5u (P:=Tryz.prog) (fn:=Tryz.f170) (l:=[(apW h).av]) I2 T2 kr;refine noGoto_ret (bodyPost_ret hv1 T2.defers ⟨v,rfl,I2.kept.no,fun _=>none,fun _=>False,fun _ q=>q.elim,fun _ q=>q.elim,fun _ _ _ q=>(by cases q),fun _ _ _ _ _ q=>(by cases q),fun _ _ q=>(by cases q),fun k B q=>by simp at q, ?_⟩);rw[Zhu (show Rel ρ2 w2 Im2 (apW h).av v from hv2)];exact Zep _ _ _ _
end Go.Proofs.YtdhchmlalchgeaaGreat
namespace Go.Proofs.YtdhchmlalchgeaaGreat
open Go.Sx
theorem Zk7{c:List Int}{x k:Int}(hk:0≤k){o:Nat}(ho:o<c.length):(clrW c x k).getD o 0=if x≤o∧(o:Int)<x+k then 0 else c.getD o 0:=by
 have h1:loC c x≤c.length:=Zfa c x;have h2:loC c (x+k)≤c.length:=Zfa c (x+k);have h3:=Zf2 c x hk;have e1:loC c x+(loC c (x+k)-loC c x)=loC c (x+k):=by omega
 have a1:o<loC c x↔(o:Int)<x:=by unfold loC;omega
 have a2:o<loC c (x+k)↔(o:Int)<x+k:=by unfold loC;omega
 unfold clrW;rw[e1];simp only[List.getD_eq_getElem?_getD];by_cases h4:o<loC c x
 ·rw[List.append_assoc,List.getElem?_append_left qo,List.getElem?_take,if_pos h4,if_neg (by have:=a1.1 h4;omega)]
 ·by_cases h5:o<loC c (x+k)
  ·rw[List.getElem?_append_left qo,List.getElem?_append_right qo,if_pos (by have:=a2.1 h5;omega)];rw[List.getElem?_replicate,if_pos qo];rfl
  ·rw[List.getElem?_append_right qo,List.getElem?_drop,if_neg (fun q=>h5 (a2.2 q.2))];congr 2;simp;omega
theorem ZjJ{h:Heap}{F:Int}{l c:List Int}{o:Nat}(ho:o<c.length):∀ n:Nat,n≤l.length→(cwN h F l c n).getD o 0=if(l.take n).any (fun a=>decide (a-F≤o)&&decide ((o:Int)<a-F+Z3A h a))=true then 0 else c.getD o 0
 | 0,_=>by simp[cwN]
 | n+1,hn=>by
  have hl:=Z8O h F l c n;rw[cwN,Zk7 (Z9o h _).1 oq,ZjJ ho n oq,Z8C oq,List.any_append];generalize l.getD n default=a;generalize (l.take n).any _=b;by_cases h1:a-F≤o∧(o:Int)<a-F+Z3A h a
  ·rw[if_pos h1,if_pos (by simp[h1])]
  ·rw[if_neg h1];have:([a].any fun a=>decide (a-F≤(o:Int))&&decide ((o:Int)<a-F+Z3A h a))=false:=by
    simp only[List.any_cons,List.any_nil,Bool.or_false,Bool.and_eq_false_iff,decide_eq_false_iff_not];omega
   rw[this,Bool.or_false]
theorem ZbV{h:Heap}(hp:Z02 h=true){i:Nat}(hi:i<h.P.length){o:Int}(ho:0≤o∧o<h.C.pw):(address h.C i o).1=4096+(i*h.C.pw+o):=by
 have po:=Z07 hp;unfold address;rw[if_pos po.1,if_pos (inB_iff.2 oq)]
theorem ZeG{h:Heap}(hp:Z02 h=true){i:Nat}(hi:i<h.P.length):0≤(i:Int)*h.C.pw∧(i:Int)*h.C.pw+h.C.pw≤h.W.length:=by
 have po:=Z07 hp;have h1:((i:Int)+1)*h.C.pw≤h.C.pg*h.C.pw:=Int.mul_le_mul_of_nonneg_right oq oq;have h2:((i:Int)+1)*h.C.pw=i*h.C.pw+h.C.pw:=by rw[Int.add_mul,Int.one_mul]
 have h3:h.C.pg*h.C.pw=h.C.pw*h.C.pg:=Int.mul_comm _ _;have h4:(0:Int)≤i*h.C.pw:=Int.mul_nonneg oq oq;omega
theorem ZkV{h:Heap}(hp:Z02 h=true){i:Nat}(hi:i<h.P.length):(rawP h i).length=h.C.pw.toNat∧∀ o:Nat,o<h.C.pw.toNat→(rawP h i).getD o 0=Z3u h i o:=by
 have po:=Z07 hp;have pi:=ZeG hp hi;have e0:=ZbV hp hi (o:=0) oq;constructor
 ·simp only[rawP,List.length_take,List.length_drop];omega
 ·intro o ho;have e1:=ZbV hp hi (o:=o) oq;unfold Z3u loadA;rw[e1];rw[if_pos oq];simp only[rawP,List.getD_eq_getElem?_getD,List.getElem?_take,List.getElem?_drop,if_pos ho];rw[e0,show(4096+((i:Int)*h.C.pw+0)-4096).toNat+o=(4096+((i:Int)*h.C.pw+(o:Int))-4096).toNat from by omega]
theorem Zbo{h:Heap}(hp:Z02 h=true){i:Nat}(hi:i<h.P.length):(clrP h i).length=h.C.pw.toNat∧∀ o:Nat,o<h.C.pw.toNat→(clrP h i).getD o 0=if(Z1O h i).getD o default=true then 0 else Z3u h i o:=by
 have po:=Z07 hp;obtain⟨r1,r2⟩:=ZkV hp hi;constructor
 ·rw[clrP,Z8O,r1]
 ·intro o ho;rw[clrP,ZjJ oq _ (Nat.le_refl _),List.take_length,r2 o ho];have e0:=ZbV hp hi (o:=0) oq;have e:(Z1O h i).getD o default=(Z06 h (Z0v h.P i:Nat)).1.any (fun a=>decide (a-(address h.C i 0).1≤(o:Int))&&decide ((o:Int)<a-(address h.C i 0).1+Z3A h a)):=by
   unfold Z1O Z1A;rw[List.getD_eq_getElem?_getD,List.getElem?_map,List.getElem?_range ho];simp only[Option.map_some,Option.getD_some];congr 1;funext a
   unfold Z7f;rw[e0,show a-(4096+((i:Int)*h.C.pw+0))=a-4096-i*h.C.pw from by omega]
  rw[e]
theorem ZfD{h:Heap}(hp:Z02 h=true){i:Nat}(hi:i<h.P.length)(e:fstW (clrP h i)<(clrP h i).length):Z2u h i (Z1O h i)=4096+i*h.C.pw+fstW (clrP h i):=by
 obtain⟨c1,c2⟩:=Zbo hp hi;have hu:=Z58 h i;have hf:(List.range (Z1O h i).length).find? (badD h i (Z1O h i))=some (fstW (clrP h i)):=by
  rw[List.find?_range_eq_some];refine⟨?_,List.mem_range.2 oq,fun j hj=>?_⟩
  ·have h1:=Zfj e;rw[show(default:Int)=0 from rfl,c2 _ oq]at h1;split at h1
   ·exact absurd rfl h1
   ·rename_i h2;simp only[badD,Bool.and_eq_true,Bool.not_eq_true',decide_eq_true_eq];exact⟨by simpa using h2,h1⟩
  ·have h1:=(Zc0 hj).2;rw[show(default:Int)=0 from rfl,c2 _ oq]at h1;simp only[badD,Bool.not_and,Bool.not_not,Bool.or_eq_true,Bool.not_eq_true',decide_eq_false_iff_not];split at h1
   ·rename_i h2;exact .inl h2
   ·exact .inr (fun q=>q h1)
 unfold Z2u;rw[hf]
theorem Zo3{h:Heap}(hp:Z02 h=true){i:Nat}(hi:i<h.P.length)(e:¬ fstW (clrP h i)<(clrP h i).length):Z2u h i (Z1O h i)=0:=by
 obtain⟨c1,c2⟩:=Zbo hp hi;have hu:=Z58 h i;have hf:(List.range (Z1O h i).length).find? (badD h i (Z1O h i))=none:=by
  rw[List.find?_eq_none];intro j hj;have hj:=List.mem_range.1 hj;have h1:=(Zc0 (l:=clrP h i) (m:=j) oq).2;rw[show(default:Int)=0 from rfl,c2 _ oq]at h1;simp only[badD,Bool.and_eq_true,Bool.not_eq_true',decide_eq_true_eq,not_and];intro h2 h3;rw[if_neg (by rw[h2];simp)]at h1;exact h3 h1
 unfold Z2u;rw[hf]
theorem Z7k{h:Heap}(hp:Z02 h=true){i:Nat}(hi:i<h.P.length):Z1R h i (Z06 h i).1=decide (Z11 h i (Z06 h i).1≠0):=by
 unfold Z11 Z1R;cases hf:(Z06 h i).1.find? (Z1d h i)with
 | none=>simp
 | some x =>
  have hx:=List.mem_of_find?_eq_some hf;have e:=Z7d hp (i:=i) oq;rw[e]at hx;obtain⟨y,hy,rfl⟩:=List.mem_map.1 hx;have h1:=(Z4W y hy).1;have h2:=(ZeG hp hi).1;have:y.addr≠0:=by omega
  simp[this]
theorem find_congr{α:Type}{p q:α→Bool}:∀ {l:List α},(∀ x∈l,p x=q x)→l.find? p=l.find? q
 | [],_=>rfl
 | a::l,h=>by
  rw[List.find?_cons,List.find?_cons,h a pq,find_congr (l:=l) (fun x hx=>h x (by simp[hx]))]
theorem find_range{l:List Int}{p:Int→Bool}:match (List.range l.length).find? (fun i=>p (l.getD i default))with | none=>l.find? p=none | some i=>l.find? p=some (l.getD i default):=by
 split
 ·rename_i hb;rw[List.find?_eq_none]at hb ⊢;intro x hx;obtain⟨i,hi,e⟩:=getD_mem_iff.1 hx;have:=hb i (List.mem_range.2 hi);rwa [e]at this
 ·rename_i i hb;obtain⟨h1,h2,h3⟩:=List.find?_range_eq_some.1 hb;have h2:=List.mem_range.1 h2;cases hf:l.find? p with
  | none =>
   have:=List.find?_eq_none.1 hf (l.getD i default) (getD_mem_iff.2 ⟨i,h2,rfl⟩);exact absurd h1 this
  | some x =>
   obtain⟨n,k1,k2,k3,k4⟩:=Z3s hf;have hn:n=i:=by
    rcases Nat.lt_trichotomy n i with q | q | q
    ·have:=h3 n q;rw[k2,k3]at this;cases this
    ·exact q
    ·have:=k4 i q;rw[h1]at this;cases this
   subst hn;rw[k2]
theorem Z91{h:Heap}{a:Int}(ha:a∈(Z03 h).1):(atH h a).2=0∧(atH h a).1.K≠0:=by
 by_cases e:(allW h).2=0
 ·rw[ZjB h e]at ha;obtain⟨x,hx,rfl⟩:=List.mem_map.1 ha;obtain⟨h1,h2⟩:=List.mem_filter.1 hx;obtain⟨h3,h4⟩:=ZhV x h1;refine⟨h4, ?_⟩;rw[← h3];simpa[Z2q]using h2
 ·rw[Zgf h e]at ha;simp at ha
theorem Z6X(hd:Header):∀ n:Nat,Z12 hd n=((List.range n).filter (fun k:Nat=>Z0d hd k)).map (fun k:Nat=>(k:Int))
 | 0=>rfl
 | n+1=>by
  rw[Z12,List.range_succ,List.filter_append,List.map_append,← Z6X hd n];by_cases h:Z0d hd (n:Int)=true
  ·rw[if_pos h];simp[h]
  ·rw[if_neg h];simp[h]
def ptrF(h:Heap)(all:List Int)(a:Int):Option Nat:=(List.range (Z0S h a).1.length).find? (Z8H (getH h a).1 (Z0S h a).1 all)
theorem ZpM{h:Heap}{a:Int}(e:(atH h a).2=0)(hk:(atH h a).1.K≠0)(all:List Int):apF h all a=(ptrF h all a).map (fun k:Nat=>(k:Int)):=by
 have i1:=ZjN e;have i2:=(Zf0 e).1;have g1:getH h a=atH h a:=by
  unfold getH;rw[if_pos i2,if_neg oq,if_neg (fun q=>hk q.2)]
 have g2:=Z54 (h:=h) (a:=a) (by rw[g1];exact e);rw[g1]at g2;have hv:=g2.2.2.2.2.2.2.1;have hl:=g2.2.2.2.2.2.2.2.2.2;have f1:(Z0S h a).1=(h.W.drop (a+1-4096).toNat).take (atH h a).1.length.toNat:=by
  unfold Z0S;rw[g1,if_pos e,Z1j,if_neg oq,if_pos oq]
 have fl:(Z0S h a).1.length=(atH h a).1.length.toNat:=by
  rw[f1,List.length_take,List.length_drop];omega
 have fg:∀ k:Nat,k<(atH h a).1.length.toNat→(Z0S h a).1.getD k default=fdV h a k:=by
  intro k hk;unfold fdV loadA;rw[if_pos oq,f1];simp only[List.getD_eq_getElem?_getD,List.getElem?_take,List.getElem?_drop,if_pos hk];rw[show(a+1-4096).toNat+k=(a+1+(k:Int)-4096).toNat from by omega];rfl
 unfold apF ptrF Z09;rw[if_pos hv,Z6X,List.find?_map,List.find?_filter,fl,g1];congr 1;refine find_congr fun k hk=>?_;have hk:=List.mem_range.1 hk;rw[Z8H,fg k hk];simp only[Function.comp,pbad];cases Z0d (atH h a).1 (k:Int)<;>simp
theorem ZpV(h:Heap):apW h=Z0Q h (Z03 h).1:=by
 have hr:=find_range (l:=(Z03 h).1) (p:=fun a=>(ptrF h (Z03 h).1 a).isSome);have hc:(Z03 h).1.find? (fun a=>(apF h (Z03 h).1 a).isSome)=(Z03 h).1.find? (fun a=>(ptrF h (Z03 h).1 a).isSome):=find_congr fun a ha=>by
  rw[ZpM (Z91 ha).1 (Z91 ha).2,Option.isSome_map]
 unfold apW apAt Z0Q;rw[hc];change match (List.range (Z03 h).1.length).find? (fun i=>(Z28 h (Z03 h).1 i).isSome)with | none=>_ | some i=>_ at hr
 split at hr
 ·rename_i hb;rw[hr,hb];rfl
 ·rename_i i hb;have h1:=(List.find?_range_eq_some.1 hb)
  have hm:(Z03 h).1.getD i default∈(Z03 h).1:=getD_mem_iff.2 ⟨i,List.mem_range.1 h1.2.1,rfl⟩;obtain⟨k,hk⟩:=Option.isSome_iff_exists.1 h1.1;have hk':ptrF h (Z03 h).1 ((Z03 h).1.getD i default)=some k:=hk;have i1:=ZjN (Z91 hm).1;rw[hr,hb];simp only[hk,ZpM (Z91 hm).1 (Z91 hm).2,hk',Option.map_some,Option.getD_some];rw[if_neg oq]
def apgL(h:Heap)(i:Nat):Tg:=⟨tm 64 [(1,.pt 8001 0 0),(2,.pt 8002 0 0),(12,Z0n h.P),(13,int h.P.length),(14,int i)],[(8002,.box 180 [int 0,int 0,u64 0]),(8001,.box 28 h.cells)],60⟩
def apgE(f:Finding):Tg:=⟨tm 64 [(2,.pt 8002 0 0)],[(8002,.box 180 [int f.fault,int f.page,u64 f.addr])],64⟩
section
variable (h:Heap) (i:Nat) (hw:WOk h.W) (hp:Z02 h=true) (hi:i<h.P.length)
include hw hp hi
theorem Zph(e:Z2u h i (Z1O h i)=0):idxW (clrP h i)=-1:=by
 by_cases hc:fstW (clrP h i)<(clrP h i).length
 ·have h1:=ZfD hp hi hc;have h2:=(ZeG hp hi).1;omega
 ·exact if_neg hc
theorem ZnU(e:¬ Z2u h i (Z1O h i)=0):0≤idxW (clrP h i)∧idxW (clrP h i)≤64∧Z2u h i (Z1O h i)=(address h.C i 0).1+idxW (clrP h i):=by
 have po:=Z07 hp;by_cases hc:fstW (clrP h i)<(clrP h i).length
 ·have h1:=ZfD hp hi hc;have h2:idxW (clrP h i)=fstW (clrP h i):=if_pos hc;have h3:=ZbV hp hi (o:=0) oq;have h4:=(Zbo hp hi).1;rw[h1,h2,h3];omega
 ·exact absurd (Zo3 hp hi hc) e
theorem ZeZ(n1:(h.P.getD i default).K=0∨(h.P.getD i default).S=h.S)(n2:(Z06 h (i:Int)).2=0)(n3:Z11 h (i:Int) (Z06 h (i:Int)).1=0)(n4:Z2u h i (Z1O h i)=0):CP (rndF Tryz.f169 0) (apgL h i).st .nrm (apgL h (i+1)).st:=by
 have po:=Z07 hp;have hn:=Z2L h (i:Int);have hr:=Z2C hp (i:Int);have q3:=Z7k hp hi;rw[n3]at q3;have q4:=Zph h i hw hp hi n4;simp only[ne_eq,not_true_eq_false,decide_false]at q3;rcases n1 with n1 | n1
 ·exact sF [] [] (Fh 48 [.br false] (Fh 58 [.br false] (Ftb 15 (decide ((↑i:Int)<(↑h.P.length:Int))) (Fek 17 Page.dv h.P (↑i) i (Ffb 28 ((h.P.getD i default).K != 0&&(h.P.getD i default).S != h.S) (Fc 34 (@Z3l h ((↑i:Int)) aa oq) (Ffb 38 ((Z06 h (↑i:Int)).snd != 0) (Fc 45 (@Z3p h ((↑i:Int)) ((Z06 h (↑i:Int)).fst) aa oq oq oq aa) (Fa ‹Z1R h (↑i:Int) (Z06 h (↑i:Int)).fst=false› (Fc 55 (@Z74 h i aa aa aa) (Fb (decide (0≤idxW (clrP h i))=false) (Fx 62 i Fz))))))))))))
 ·exact sF [] [] (Fh 48 [.br false] (Fh 58 [.br false] (Ftb 15 (decide ((↑i:Int)<(↑h.P.length:Int))) (Fek 17 Page.dv h.P (↑i) i (Ffb 28 ((h.P.getD i default).K != 0&&(h.P.getD i default).S != h.S) (Fc 34 (@Z3l h ((↑i:Int)) aa oq) (Ffb 38 ((Z06 h (↑i:Int)).snd != 0) (Fc 45 (@Z3p h ((↑i:Int)) ((Z06 h (↑i:Int)).fst) aa oq oq oq aa) (Fa ‹Z1R h (↑i:Int) (Z06 h (↑i:Int)).fst=false› (Fc 55 (@Z74 h i aa aa aa) (Fb (decide (0≤idxW (clrP h i))=false) (Fx 62 i Fz))))))))))))
theorem Zq8(n1:¬ (h.P.getD i default).K=0∧¬ (h.P.getD i default).S=h.S):CP (rndF Tryz.f169 0) (apgL h i).st .ret (apgE ⟨2,i,0⟩).st:=by
 have po:=Z07 hp;obtain⟨n1,n2⟩:=n1;exact sF [] [] (Ftb 15 (decide ((↑i:Int)<(↑h.P.length:Int))) (Fek 17 Page.dv h.P (↑i) i (Ftb 28 ((h.P.getD i default).K != 0&&(h.P.getD i default).S != h.S) Fz)))
theorem Zq2(n1:(h.P.getD i default).K=0∨(h.P.getD i default).S=h.S)(n2:¬ (Z06 h (i:Int)).2=0):CP (rndF Tryz.f169 0) (apgL h i).st .ret (apgE ⟨3,i,0⟩).st:=by
 have po:=Z07 hp;rcases n1 with n1 | n1
 ·exact sF [] [] (Ftb 15 (decide ((↑i:Int)<(↑h.P.length:Int))) (Fek 17 Page.dv h.P (↑i) i (Ffb 28 ((h.P.getD i default).K != 0&&(h.P.getD i default).S != h.S) (Fc 34 (@Z3l h ((↑i:Int)) aa oq) (Ftb 38 ((Z06 h (↑i:Int)).snd != 0) Fz)))))
 ·exact sF [] [] (Ftb 15 (decide ((↑i:Int)<(↑h.P.length:Int))) (Fek 17 Page.dv h.P (↑i) i (Ffb 28 ((h.P.getD i default).K != 0&&(h.P.getD i default).S != h.S) (Fc 34 (@Z3l h ((↑i:Int)) aa oq) (Ftb 38 ((Z06 h (↑i:Int)).snd != 0) Fz)))))
theorem Zqa(n1:(h.P.getD i default).K=0∨(h.P.getD i default).S=h.S)(n2:(Z06 h (i:Int)).2=0)(n3:¬ Z11 h (i:Int) (Z06 h (i:Int)).1=0):CP (rndF Tryz.f169 0) (apgL h i).st .ret (apgE ⟨5,i,Z11 h (i:Int) (Z06 h (i:Int)).1⟩).st:=by
 have po:=Z07 hp;have hn:=Z2L h (i:Int);have hr:=Z2C hp (i:Int);have q3:Z1R h i (Z06 h i).1=true:=by rw[Z7k hp hi];simpa using n3
 rcases n1 with n1 | n1
 ·exact sF [] [] (Fh 48 [.br true] (Ftb 15 (decide ((↑i:Int)<(↑h.P.length:Int))) (Fek 17 Page.dv h.P (↑i) i (Ffb 28 ((h.P.getD i default).K != 0&&(h.P.getD i default).S != h.S) (Fc 34 (@Z3l h ((↑i:Int)) aa oq) (Ffb 38 ((Z06 h (↑i:Int)).snd != 0) (Fc 45 (@Z3p h ((↑i:Int)) ((Z06 h (↑i:Int)).fst) aa oq oq oq aa) (Fa ‹Z1R h (↑i:Int) (Z06 h (↑i:Int)).fst=true› Fz))))))))
 ·exact sF [] [] (Fh 48 [.br true] (Ftb 15 (decide ((↑i:Int)<(↑h.P.length:Int))) (Fek 17 Page.dv h.P (↑i) i (Ffb 28 ((h.P.getD i default).K != 0&&(h.P.getD i default).S != h.S) (Fc 34 (@Z3l h ((↑i:Int)) aa oq) (Ffb 38 ((Z06 h (↑i:Int)).snd != 0) (Fc 45 (@Z3p h ((↑i:Int)) ((Z06 h (↑i:Int)).fst) aa oq oq oq aa) (Fa ‹Z1R h (↑i:Int) (Z06 h (↑i:Int)).fst=true› Fz))))))))
theorem Zq7(n1:(h.P.getD i default).K=0∨(h.P.getD i default).S=h.S)(n2:(Z06 h (i:Int)).2=0)(n3:Z11 h (i:Int) (Z06 h (i:Int)).1=0)(n4:¬ Z2u h i (Z1O h i)=0):CP (rndF Tryz.f169 0) (apgL h i).st .ret (apgE ⟨4,i,Z2u h i (Z1O h i)⟩).st:=by
 have po:=Z07 hp;have hn:=Z2L h (i:Int);have hr:=Z2C hp (i:Int);have q3:=Z7k hp hi;rw[n3]at q3;simp only[ne_eq,not_true_eq_false,decide_false]at q3;obtain⟨q4,q5,q6⟩:=ZnU h i hw hp hi n4;have q7:max (idxW (clrP h i)) 0=idxW (clrP h i):=by omega
 rw[q6];rcases n1 with n1 | n1
 ·exact sF [] (fO 6) (Fh 48 [.br false] (Fh 58 [.br true] (Ftb 15 (decide ((↑i:Int)<(↑h.P.length:Int))) (Fek 17 Page.dv h.P (↑i) i (Ffb 28 ((h.P.getD i default).K != 0&&(h.P.getD i default).S != h.S) (Fc 34 (@Z3l h ((↑i:Int)) aa oq) (Ffb 38 ((Z06 h (↑i:Int)).snd != 0) (Fc 45 (@Z3p h ((↑i:Int)) ((Z06 h (↑i:Int)).fst) aa oq oq oq aa) (Fa ‹Z1R h (↑i:Int) (Z06 h (↑i:Int)).fst=false› (Fc 55 (@Z74 h i aa aa aa) (Fb (decide (0≤idxW (clrP h i))=true) (Fr (180:Int) (Fr (4:Int) (Fr (↑i:Int) (Fa (by rw[q7]:(address h.C (↑i:Int) 0).fst+max (idxW (clrP h i)) 0=(Finding.mk 4 (↑i:Int) ((address h.C (↑i:Int) 0).fst+idxW (clrP h i))).addr) Fz)))))))))))))))
 ·exact sF [] (fO 6) (Fh 48 [.br false] (Fh 58 [.br true] (Ftb 15 (decide ((↑i:Int)<(↑h.P.length:Int))) (Fek 17 Page.dv h.P (↑i) i (Ffb 28 ((h.P.getD i default).K != 0&&(h.P.getD i default).S != h.S) (Fc 34 (@Z3l h ((↑i:Int)) aa oq) (Ffb 38 ((Z06 h (↑i:Int)).snd != 0) (Fc 45 (@Z3p h ((↑i:Int)) ((Z06 h (↑i:Int)).fst) aa oq oq oq aa) (Fa ‹Z1R h (↑i:Int) (Z06 h (↑i:Int)).fst=false› (Fc 55 (@Z74 h i aa aa aa) (Fb (decide (0≤idxW (clrP h i))=true) (Fr (180:Int) (Fr (4:Int) (Fr (↑i:Int) (Fa (by rw[q7]:(address h.C (↑i:Int) 0).fst+max (idxW (clrP h i)) 0=(Finding.mk 4 (↑i:Int) ((address h.C (↑i:Int) 0).fst+idxW (clrP h i))).addr) Fz)))))))))))))))
end
theorem ZoW(h:Heap):CP (rndF Tryz.f169 0) (apgL h h.P.length).st (.ext 0) (apgE ⟨0,0,0⟩).st:=by
 exact sF [] [] (Ffb 15 (decide ((↑h.P.length:Int)<(↑h.P.length:Int))) Fz)
def apgV(h:Heap):Finding:=match Z2r h with | some i=>pageF h i | none=>⟨0,0,0⟩
theorem ZfB{h:Heap}{i:Nat}(e:(pageF h i).fault=0):((h.P.getD i default).K=0∨(h.P.getD i default).S=h.S)∧(Z06 h (i:Int)).2=0∧Z11 h (i:Int) (Z06 h (i:Int)).1=0∧Z2u h i (Z1O h i)=0:=by
 unfold pageF at e;split at e
 ·simp at e
 ·rename_i h1;split at e
  ·simp at e
  ·rename_i h2;split at e
   ·simp at e
   ·rename_i h3;split at e
    ·simp at e
    ·rename_i h4;refine⟨?_,Classical.not_not.1 h2,Classical.not_not.1 h3,Classical.not_not.1 h4⟩;by_cases q:(h.P.getD i default).K=0
     ·exact .inl q
     ·refine .inr (Classical.not_not.1 fun q2=>h1 ⟨q,q2⟩)
theorem Zkl(h:Heap)(i:Nat)(hw:WOk h.W)(hp:Z02 h=true)(hi:i<h.P.length)(e:(pageF h i).fault≠0):CP (rndF Tryz.f169 0) (apgL h i).st .ret (apgE (pageF h i)).st:=by
 unfold pageF at e ⊢;split
 ·rename_i h1;exact Zq8 h i hw hp hi h1
 ·rename_i h1;have n1:(h.P.getD i default).K=0∨(h.P.getD i default).S=h.S:=by
   by_cases q:(h.P.getD i default).K=0
   ·exact .inl q
   ·exact .inr (Classical.not_not.1 fun q2=>h1 ⟨q,q2⟩)
  split
  ·rename_i h2;exact Zq2 h i hw hp hi n1 h2
  ·rename_i h2;split
   ·rename_i h3;exact Zqa h i hw hp hi n1 (Classical.not_not.1 h2) h3
   ·rename_i h3;split
    ·rename_i h4;exact Zq7 h i hw hp hi n1 (Classical.not_not.1 h2) (Classical.not_not.1 h3) h4
    ·rename_i h4;rw[if_neg h1,if_neg h2,if_neg h3,if_neg h4]at e;exact absurd rfl e
theorem ZnM(h:Heap)(hw:WOk h.W)(hp:Z02 h=true)(hf:Z2r h=none):CP (blkF Tryz.f169 0) (apgL h 0).st .nrm (Tg.st ⟨tm 64 [(2,.pt 8002 0 0)],[(8002,.box 180 [int 0,int 0,u64 0])],64⟩):=by
 refine Z08 (S:=fun k=>(apgL h k).st) h.P.length kr (fun k hk=>?_) (ZoW h);have e:=List.find?_eq_none.1 hf k (List.mem_range.2 hk);obtain⟨n1,n2,n3,n4⟩:=ZfB (h:=h) (i:=k) (by simpa using e);exact ZeZ h k hw hp hk n1 n2 n3 n4
theorem ZkY(h:Heap)(i:Nat)(hw:WOk h.W)(hp:Z02 h=true)(hf:Z2r h=some i):CP (blkF Tryz.f169 0) (Tg.st ⟨tm 64 [(1,.pt 8001 0 0),(2,.pt 8002 0 0),(12,Z0n h.P),(13,int h.P.length),(14,int 0)],[(8002,.box 180 [int 0,int 0,u64 0]),(8001,.box 28 h.cells)],60⟩) .ret (Tg.st ⟨tm 64 [(2,.pt 8002 0 0)],[(8002,.box 180 [int (pageF h i).fault,int (pageF h i).page,u64 (pageF h i).addr])],64⟩):=by
 obtain⟨h1,h2,h3⟩:=List.find?_range_eq_some.1 hf;have h2:=List.mem_range.1 h2;refine Z0z (S:=fun k=>(apgL h k).st) i kr (fun k hk=>?_) (Zkl h i hw hp h2 (by simpa using h1));have e:=h3 k hk;obtain⟨n1,n2,n3,n4⟩:=ZfB (h:=h) (i:=k) (by simpa using e);exact ZeZ h k hw hp oq n1 n2 n3 n4
theorem Z5A(h:Heap)(hw:WOk h.W)(hp:Z02 h=true):GP 169 [h.av] true (apgV h).av []:=by
 have po:=Z07 hp;cases hf:Z2r h with
 | none =>
  have e7:apgV h=⟨0,0,0⟩:=by simp only[apgV,hf]
  rw[e7];exact gF [] Tryz.func169 [] (Fl 13 Page.dv h.P (Fu (@ZnM h aa aa aa) Fz))
 | some i =>
  have e7:apgV h=pageF h i:=by simp only[apgV,hf]
  rw[e7];exact gF [] Tryz.func169 [] (Fl 13 Page.dv h.P (Fu (@ZkY h i aa aa aa) Fz))
theorem Zbz(h:Heap)(hw:WOk h.W)(hp:Z02 h=false):GP 129 [h.av] true (Finding.av ⟨1,0,0⟩) []:=by
 exact gF [] Tryz.func129 [] (Fc 9 (@Z0y h) (Ftb 10 (!Z02 h) Fz))
theorem Za1(h:Heap)(hw:WOk h.W)(hp:Z02 h=true)(i:Nat)(hb:Z2r h=some i):GP 129 [h.av] true (pageF h i).av []:=by
 have po:=Z07 hp;have e7:apgV h=pageF h i:=by simp only[apgV,hb]
 have h1:¬ (pageF h i).fault=0:=by simpa using (List.find?_range_eq_some.1 hb).1
 rw[← e7]at h1 ⊢;exact gF [] Tryz.func129 [] (Fc 9 (@Z0y h) (Ffb 10 (!Z02 h) (Fc 13 (@Z5A h aa aa) (Ftb 16 (!((apgV h).fault==0&&((apgV h).page==0&&(apgV h).addr==0))) Fz))))
theorem ZbT(h:Heap)(hw:WOk h.W)(hp:Z02 h=true)(hb:Z2r h=none)(hq:¬ (apW h).fault=0):GP 129 [h.av] true (apW h).av []:=by
 have po:=Z07 hp;have e7:apgV h=⟨0,0,0⟩:=by simp only[apgV,hb]
 have q1:(apgV h).fault=0:=by rw[e7]
 have q2:(apgV h).page=0:=by rw[e7]
 have q3:(apgV h).addr=0:=by rw[e7]
 exact gF [] Tryz.func129 [] (Fc 9 (@Z0y h) (Ffb 10 (!Z02 h) (Fc 13 (@Z5A h aa aa) (Ffb 16 (!((apgV h).fault==0&&((apgV h).page==0&&(apgV h).addr==0))) (Fc 19 (@Z4s h aa oq) (Ftb 22 (!((apW h).fault==0&&((apW h).page==0&&(apW h).addr==0))) Fz))))))
def acrL(h:Heap)(i:Nat):Tg:=⟨tm 50 [(1,.pt 8001 0 0),(2,.pt 8002 0 0),(5,int (Z0F h.P i)),(25,Z0n h.P),(26,int h.P.length),(27,int i)],[(8002,.box 180 [int 0,int 0,u64 0]),(8001,.box 28 h.cells)],60⟩
theorem Zkp(h:Heap)(i:Nat)(hp:Z02 h=true)(hi:i<h.P.length):CP (rndF Tryz.f129 0) (acrL h i).st .nrm (acrL h (i+1)).st:=by
 have po:=Z07 hp;have:=Z2M h.P i;by_cases h1:(h.P.getD i default).K=1
 ·by_cases h2:0<(h.P.getD i default).N
  ·have e:Z0F h.P (i+1)=Z0F h.P i+1:=by rw[Z0F,if_pos ⟨h1,h2⟩]
   rw[acrL,acrL,e];exact sF [] [] (Ftb 28 (decide ((↑i:Int)<(↑h.P.length:Int))) (Fek 29 Page.dv h.P (↑i) i (Ftb 38 ((h.P.getD i default).K==1&&decide (0<(h.P.getD i default).N)) (Fw 40 ((↑(Z0F h.P i):Int)+1) (↑(Z0F h.P i+1):Int) (Fx 41 i Fz)))))
  ·have e:Z0F h.P (i+1)=Z0F h.P i:=by rw[Z0F,if_neg (fun q=>h2 q.2)];rfl
   rw[acrL,acrL,e];exact sF [] [] (Ftb 28 (decide ((↑i:Int)<(↑h.P.length:Int))) (Fek 29 Page.dv h.P (↑i) i (Ffb 38 ((h.P.getD i default).K==1&&decide (0<(h.P.getD i default).N)) (Fx 41 i Fz))))
 ·have e:Z0F h.P (i+1)=Z0F h.P i:=by rw[Z0F,if_neg (fun q=>h1 q.1)];rfl
  rw[acrL,acrL,e];exact sF [] [] (Ftb 28 (decide ((↑i:Int)<(↑h.P.length:Int))) (Fek 29 Page.dv h.P (↑i) i (Ffb 38 ((h.P.getD i default).K==1&&decide (0<(h.P.getD i default).N)) (Fx 41 i Fz))))
theorem ZpK(h:Heap):CP (rndF Tryz.f129 0) (acrL h h.P.length).st (.ext 0) (Tg.st ⟨tm 50 [(1,.pt 8001 0 0),(2,.pt 8002 0 0),(5,int (Z0F h.P h.P.length))],[(8002,.box 180 [int 0,int 0,u64 0]),(8001,.box 28 h.cells)],64⟩):=by
 exact sF [] [] (Ffb 28 (decide ((↑h.P.length:Int)<(↑h.P.length:Int))) Fz)
def ZiC(h:Heap)(hp:Z02 h=true)  := Z08 (S:=fun i=>(acrL h i).st) h.P.length (by kernel_rfl) (fun i hi=>Zkp h i hp hi) (ZpK h)
theorem Z8J(h:Heap)(hw:WOk h.W)(hp:Z02 h=true)(hb:Z2r h=none)(hq:(apW h).fault=0)(hc:h.C.pg/4<(Z0F h.P h.P.length:Nat)):GP 129 [h.av] true (Finding.av ⟨7,0,0⟩) []:=by
 have po:=Z07 hp;have cl:=Z2M h.P h.P.length;have e7:apgV h=⟨0,0,0⟩:=by simp only[apgV,hb]
 have q1:(apgV h).fault=0:=by rw[e7]
 have q2:(apgV h).page=0:=by rw[e7]
 have q3:(apgV h).addr=0:=by rw[e7]
 have e8:apW h=⟨0,0,0⟩:=by
  unfold apW at hq ⊢;split at hq
  ·rename_i h1;rw[if_pos h1]
  ·simp at hq
 have q4:(apW h).fault=0:=by rw[e8]
 have q5:(apW h).page=0:=by rw[e8]
 have q6:(apW h).addr=0:=by rw[e8]
 exact gF [] Tryz.func129 [] (Fc 9 (@Z0y h) (Ffb 10 (!Z02 h) (Fc 13 (@Z5A h aa aa) (Ffb 16 (!((apgV h).fault==0&&((apgV h).page==0&&(apgV h).addr==0))) (Fc 19 (@Z4s h aa oq) (Ffb 22 (!((apW h).fault==0&&((apW h).page==0&&(apW h).addr==0))) (Fl 26 Page.dv h.P (Fu (@ZiC h aa) (Fg 46 (by rw[Int.tdiv_eq_ediv_of_nonneg oq,wrapI' oq oq]:IntKind.i64.wrap (h.C.pg.tdiv 4)=h.C.pg/4) (Fa (by decide:(4:Int)≠0) (Ftb 47 (decide (h.C.pg/4<(↑(Z0F h.P h.P.length):Int))) Fz)))))))))))
theorem Z9G(h:Heap)(hw:WOk h.W)(hp:Z02 h=true)(hb:Z2r h=none)(hq:(apW h).fault=0)(hc:¬ h.C.pg/4<(Z0F h.P h.P.length:Nat)):GP 129 [h.av] true (Finding.av ⟨0,0,0⟩) []:=by
 have po:=Z07 hp;have cl:=Z2M h.P h.P.length;have e7:apgV h=⟨0,0,0⟩:=by simp only[apgV,hb]
 have q1:(apgV h).fault=0:=by rw[e7]
 have q2:(apgV h).page=0:=by rw[e7]
 have q3:(apgV h).addr=0:=by rw[e7]
 have e8:apW h=⟨0,0,0⟩:=by
  unfold apW at hq ⊢;split at hq
  ·rename_i h1;rw[if_pos h1]
  ·simp at hq
 have q4:(apW h).fault=0:=by rw[e8]
 have q5:(apW h).page=0:=by rw[e8]
 have q6:(apW h).addr=0:=by rw[e8]
 exact gF [] Tryz.func129 [] (Fc 9 (@Z0y h) (Ffb 10 (!Z02 h) (Fc 13 (@Z5A h aa aa) (Ffb 16 (!((apgV h).fault==0&&((apgV h).page==0&&(apgV h).addr==0))) (Fc 19 (@Z4s h aa oq) (Ffb 22 (!((apW h).fault==0&&((apW h).page==0&&(apW h).addr==0))) (Fl 26 Page.dv h.P (Fu (@ZiC h aa) (Fg 46 (by rw[Int.tdiv_eq_ediv_of_nonneg oq,wrapI' oq oq]:IntKind.i64.wrap (h.C.pg.tdiv 4)=h.C.pg/4) (Fa (by decide:(4:Int)≠0) (Ffb 47 (decide (h.C.pg/4<(↑(Z0F h.P h.P.length):Int))) Fz)))))))))))
theorem Zgy(h:Heap)(hw:WOk h.W):GP 129 [h.av] true (Z0p h).av []:=by
 have e7:=ZpV h;unfold Z0p;rw[← e7];by_cases hp:Z02 h=true
 ·rw[if_pos hp];cases hb:Z2r h with
  | some i=>exact Za1 h hw hp i hb
  | none =>
   by_cases hq:(apW h).fault=0
   ·simp only[hq,ne_eq,not_true_eq_false,if_false];by_cases hc:h.C.pg/4<(Z0F h.P h.P.length:Nat)
    ·rw[if_pos hc];exact Z8J h hw hp hb hq hc
    ·rw[if_neg hc];exact Z9G h hw hp hb hq hc
   ·simp only[ne_eq,hq,not_false_eq_true,if_true];exact ZbT h hw hp hb hq
 ·rw[if_neg hp];exact Zbz h hw (by simpa using hp)
theorem Zqg(h:Heap):((Z0p h).fault==0&&((Z0p h).page==0&&(Z0p h).addr==0))=decide (Z0p h=⟨0,0,0⟩):=by
 cases Z0p h with
 | mk a b c=>by_cases h1:a=0<;>by_cases h2:b=0<;>by_cases h3:c=0<;>simp[h1,h2,h3]
theorem ZcW(h:Heap)(hw:WOk h.W):GP 78 [h.av] true (bool (decide (Z0p h=⟨0,0,0⟩))) []:=by
 have e9:=Zqg h;exact gF [] Tryz.func78 [true] (Fc 4 (@Zgy h aa) (Fa (by exact e9:((Z0p h).fault==0&&((Z0p h).page==0&&(Z0p h).addr==0))=decide (Z0p h=Finding.mk 0 0 0)) Fz))
theorem Z8D{h:Heap}(hp:∀ i:Nat,i<h.P.length→(Z06 h (i:Int)).2=0):∀ (f i:Nat),i+f=h.P.length→(Z0I h f i).2=0
 | 0,_,_=>rfl
 | f+1,i,hf=>by
  have ih:=Z8D hp f (i+1) oq;unfold Z0I;rw[hp i oq,ih];rfl
theorem ZhI{h:Heap}(hg:Z0p h=⟨0,0,0⟩):(Z03 h).2=0:=by
 have hp:Z02 h=true:=by
  by_cases q:Z02 h=true
  ·exact q
  ·rw[Z0p,if_neg q]at hg;cases hg
 rw[Z0p,if_pos hp]at hg;have hpf:∀ i,i<h.P.length→(pageF h i).fault=0:=by
  intro i hi;cases hb:Z2r h with
  | some j =>
   rw[hb]at hg;simp only at hg;have:=List.find?_some hb;rw[hg]at this;simp at this
  | none =>
   have:=List.find?_eq_none.1 hb i (List.mem_range.2 hi);simpa using this
 have hpg:∀ i:Nat,i<h.P.length→(Z06 h (i:Int)).2=0:=by
  intro i hi;have q:=hpf i hi;unfold pageF at q;split at q
  ·simp at q
  ·split at q
   ·simp at q
   ·rename_i c2;simpa using c2
 unfold Z03;rw[Z0w,if_pos hp];exact Z8D hpg h.P.length 0 oq
theorem ZkE(h:Heap)(hw:WOk h.W)(hp:Z02 h=false):GP 33 [h.av] false (.tu [noWork.av,int 1]) []:=by
 exact gF [] Tryz.func33 [] (Fc 9 (@Z0y h) (Ftb 10 (!Z02 h) (Fnl (Fnl (Fnl (Fnl (Fnl Fz)))))))
theorem ZkO(h:Heap)(hw:WOk h.W)(hp:Z02 h=true)(hg:Z0p h≠⟨0,0,0⟩):GP 33 [h.av] false (.tu [noWork.av,int 19]) []:=by
 exact gF [] Tryz.func33 [] (Fc 9 (@Z0y h) (Ffb 10 (!Z02 h) (Fc 13 (@ZcW h aa) (Ftb 14 (!decide (Z0p h=Finding.mk 0 0 0)) (Fnl (Fnl (Fnl (Fnl (Fnl Fz)))))))))
def evbB(h:Heap)(l:List Page):List (Nat×Blk):=[(8001,.box 28 [int h.C.pw,int h.C.pg,.ow 49027,.ow 49030,int h.S,int h.B]),(49030,.arr 84 4 (l.map Page.dv)),(49027,.arr 35 1 (h.W.map wdv)),(8002,.box 73 zW)]
def evbL(h:Heap)(all:List Int)(i:Nat):Tg:=⟨tm 61 [(1,.pt 8001 0 0),(2,.pt 8002 0 0),(3,int 0),(4,Z01 all),(34,.ow 49030),(35,int h.P.length),(36,int i)],evbB h (preM (begQ (1-h.S)) h.P i),8⟩
section
variable (h:Heap) (all:List Int) (hs:h.S=0∨h.S=1) (hl:h.P.length≤1048576)
include hs hl
theorem ZkQ(i:Nat)(hi:i<h.P.length):CP (rndF Tryz.f33 0) (evbL h all i).st .nrm (evbL h all (i+1)).st:=by
 have ha:=Z88 (begQ (1-h.S)) h.P (Nat.le_refl i) default;have hn:=Z3G (begQ (1-h.S)) h.P i;by_cases hc:(h.P.getD i default).K=1∧0<(h.P.getD i default).N
 ·have hq:=Z6i (begQ (1-h.S)) h.P hi default;rw[show begQ (1-h.S) (h.P.getD i default)=⟨(h.P.getD i default).K,1-h.S,(h.P.getD i default).U,(h.P.getD i default).N⟩ by rw[begQ,if_pos hc],← ha]at hq;rw[← ha]at hc;have Q0 {h_ c_ p_} (r_:Fq h_ c_ p_):=Ftb 37 (decide ((↑i:Int)<(↑h.P.length:Int))) (Fmq 40 Page.dv (preM (begQ (1-h.S)) h.P i) (↑i) r_);rcases bb (((preM (begQ (1-h.S)) h.P i).getD (↑i:Int).toNat default).K==1&&decide (0<((preM (begQ (1-h.S)) h.P i).getD (↑i:Int).toNat default).N))with hc0 | hc0<;>have hc0p:=hc0<;>simp only[bs]at hc0p
  ·obtain⟨hc0pa,hc0pb⟩:=hc0p;let y1:=preM (begQ (1-h.S)) h.P i;let y0:=y1.getD (↑i:Int).toNat default;exact sF [] (fO 11) (Q0 (Ft 48 hc0 (Fi 54 (1-h.S) (Fm0q Page.dv y1 (↑i) (FS 10056 Page.dv y1 ((↑i:Int).toNat) (Page.mk y0.K (1-h.S) y0.U y0.N) (y0.dv) (Fx 57 i (Fr (84:Int) (Fa (by refine congrArg _ ?_;exact hq:List.map Page.dv (y1.set (↑i:Int).toNat (Page.mk y0.K (1-h.S) y0.U y0.N))=List.map Page.dv (preM (begQ (1-h.S)) h.P (i+1))) Fz))))))))
  ·exact sF [] (fO 11) (Q0 (Ff 48 hc0 (Fx 57 i (Fr (84:Int) (Fa (by refine congrArg _ ?_;grind[]:List.map Page.dv (preM (begQ (1-h.S)) h.P i)=List.map Page.dv (preM (begQ (1-h.S)) h.P (i+1))) Fz)))))
 ·have hq:=Z9b (begQ (1-h.S)) h.P hi default (by rw[begQ,if_neg hc]);rw[← ha]at hc;have Q1 {h_ c_ p_} (r_:Fq h_ c_ p_):=Ftb 37 (decide ((↑i:Int)<(↑h.P.length:Int))) (Fmq 40 Page.dv (preM (begQ (1-h.S)) h.P i) (↑i) r_);rcases bb (((preM (begQ (1-h.S)) h.P i).getD (↑i:Int).toNat default).K==1&&decide (0<((preM (begQ (1-h.S)) h.P i).getD (↑i:Int).toNat default).N))with hc0 | hc0<;>have hc0p:=hc0<;>simp only[bs]at hc0p
  ·obtain⟨hc0pa,hc0pb⟩:=hc0p;let y3:=preM (begQ (1-h.S)) h.P i;let y2:=y3.getD (↑i:Int).toNat default;exact sF [] (fO 11) (Q1 (Ft 48 hc0 (Fi 54 (1-h.S) (Fm0q Page.dv y3 (↑i) (FS 10056 Page.dv y3 ((↑i:Int).toNat) (Page.mk y2.K (1-h.S) y2.U y2.N) (y2.dv) (Fx 57 i (Fr (84:Int) (Fa (by refine congrArg _ ?_;grind[]:List.map Page.dv (y3.set (↑i:Int).toNat (Page.mk y2.K (1-h.S) y2.U y2.N))=List.map Page.dv (preM (begQ (1-h.S)) h.P (i+1))) Fz))))))))
  ·exact sF [] (fO 11) (Q1 (Ff 48 hc0 (Fx 57 i (Fr (84:Int) (Fa (by refine congrArg _ ?_;exact hq:List.map Page.dv (preM (begQ (1-h.S)) h.P i)=List.map Page.dv (preM (begQ (1-h.S)) h.P (i+1))) Fz)))))
omit hs hl in
theorem ZpE:CP (rndF Tryz.f33 0) (evbL h all h.P.length).st (.ext 0) (Tg.st ⟨tm 61 [(1,.pt 8001 0 0),(2,.pt 8002 0 0),(3,int 0),(4,Z01 all)],evbB h (h.P.map (begQ (1-h.S))),8⟩):=by
 have hq:=Z7T (begQ (1-h.S)) h.P;have hn:=Z3G (begQ (1-h.S)) h.P h.P.length;exact sF [] (fO 5) (Ffb 37 (decide ((↑h.P.length:Int)<(↑h.P.length:Int))) (Fr (84:Int) (Fa (by refine congrArg _ ?_;assumption:List.map Page.dv (preM (begQ (1-h.S)) h.P h.P.length)=List.map Page.dv (List.map (begQ (1-h.S)) h.P)) Fz)))
theorem Zoi:CP (blkF Tryz.f33 0) (Tg.st ⟨tm 61 [(1,.pt 8001 0 0),(2,.pt 8002 0 0),(3,int 0),(4,Z01 all),(34,.ow 49030),(35,int h.P.length),(36,int 0)],evbB h h.P,8⟩) .nrm (Tg.st ⟨tm 61 [(1,.pt 8001 0 0),(2,.pt 8002 0 0),(3,int 0),(4,Z01 all)],evbB h (h.P.map (begQ (1-h.S))),8⟩):=by
 have:=Z08 (S:=fun k=>(evbL h all k).st) h.P.length kr (fun k hk=>ZkQ h all hs hl k hk) (ZpE h all);simp only[evbL,Zct]at this;exact this
end
theorem Zg0(h:Heap)(hw:WOk h.W)(hp:Z02 h=true)(hg:Z0p h=⟨0,0,0⟩):GP 33 [h.av] false (.tu [(beginW h).av,int 0]) []:=by
 have po:=Z07 hp;have ho:=Z2d h;have g:=ZhI hg;have hne:h.P≠[]:=Z96 oq;exact gF [] Tryz.func33 [] (Fc 9 (@Z0y h) (Ffb 10 (!Z02 h) (Fc 13 (@ZcW h aa) (Ffb 14 (!decide (Z0p h=Finding.mk 0 0 0)) (Fc 18 (@Z5Q h aa) (Ffb 22 ((Z03 h).snd != 0) (Fc 27 (@Z4v h.W oq) (Fc 30 (@Z6c h.P oq aa) (Fl 35 Page.dv h.P (Fu (@Zoi h ((Z03 h).fst) oq oq) (Fnl (Fnl Fz))))))))))))
def Z1n(h:Heap):Work×Int:=if Z02 h=true then(if Z0p h=⟨0,0,0⟩then(beginW h,0)else(noWork,19))else(noWork,1)
theorem Zo1(h:Heap)(hw:WOk h.W):GP 33 [h.av] false (.tu [(Z1n h).1.av,int (Z1n h).2]) []:=by
 unfold Z1n;by_cases hp:Z02 h=true
 ·rw[if_pos hp];by_cases hg:Z0p h=⟨0,0,0⟩
  ·rw[if_pos hg];exact Zg0 h hw hp hg
  ·rw[if_neg hg];exact ZkO h hw hp hg
 ·rw[if_neg hp];exact ZkE h hw (by simpa using hp)
theorem ZgW(h:Heap)(hw:WOk h.W):GP 41 [h.av] false (.tu [(Z1n h).1.av,int (Z1n h).2]) []:=by
 unfold Z1n;by_cases hp:Z02 h=true
 ·rw[if_pos hp];by_cases hg:Z0p h=⟨0,0,0⟩
  ·rw[if_pos hg];exact Z3y h hw hp hg
  ·rw[if_neg hg];exact Zev h hw hp hg
 ·rw[if_neg hp];exact Zet h hw (by simpa using hp)
theorem Z8Q{ρ:Rho}{w:World}{Im:Nat→Prop}{v:Value}(s:Nat)(h:Rel ρ w Im (.d (.sl 0 [])) v):Rel ρ w Im (.d (.sl s [])) v:=by
 cases h with
 | d h =>
  cases h with
  | slNil=>exact .d (.slNil _ _ _)
  | sl _ _ p n c f hn=>cases hn;exact .d (.slNil _ _ _)
def hA10:Heap:=⟨⟨32,8⟩,List.replicate 256 0,List.replicate 8 ⟨0,0,0,0⟩,0,-1⟩
def hB10:Heap:=⟨⟨32,8⟩,(List.replicate 256 0).set 0 29,[⟨1,0,2,0⟩,⟨0,0,0,0⟩,⟨0,0,0,0⟩,⟨0,0,0,0⟩,⟨0,0,0,0⟩,⟨0,0,0,0⟩,⟨0,0,0,0⟩,⟨0,0,0,0⟩],0,0⟩
theorem ZfR:Z13 []=⟨hA10,[],[]⟩:=by kernel_rfl
theorem Zn5:(⟨hA10,[],[]⟩:WorldM).put ⟨3,1,0⟩=⟨hB10,[4096],[]⟩:=by kernel_rfl
theorem Zfw:Z02 hB10=true:=by decide+kernel
theorem Znt:Z0p hB10=⟨0,0,0⟩:=by decide+kernel
theorem Zj0:WOk hB10.W:=by unfold WOk;decide+kernel
def wB0:Work:=(⟨⟨⟨32,8⟩,(List.replicate 256 0).set 0 29,[⟨1,0,2,0⟩,⟨0,0,0,0⟩,⟨0,0,0,0⟩,⟨0,0,0,0⟩,⟨0,0,0,0⟩,⟨0,0,0,0⟩,⟨0,0,0,0⟩,⟨0,0,0,0⟩],0,0⟩,[4096],[],[],0,⟨0,0,0,0,0,0⟩⟩:Work)
def wB1:Work:=(⟨⟨⟨32,8⟩,((List.replicate 256 0).set 0 16514).set 32 29,[⟨1,0,2,0⟩,⟨1,1,2,0⟩,⟨0,0,0,0⟩,⟨0,0,0,0⟩,⟨0,0,0,0⟩,⟨0,0,0,0⟩,⟨0,0,0,0⟩,⟨0,0,0,0⟩],0,0⟩,[4096],[1],[4128],0,⟨1,0,0,0,0,0⟩⟩:Work)
theorem ZiW:beginW hB10=wB0:=by kernel_rfl
theorem Ziq:wB0.fwd 4096=(wB1,4128,0):=by kernel_rfl
theorem ZoV:wB1.fwd 4096=(wB1,4128,0):=by kernel_rfl
theorem ZpC:WkOk wB0:=ZiW▸Z3N Zj0 Zfw
theorem Zqe:WkOk wB1:=by
 have k:=(ZcF ZpC 4096 (by rw[Ziq])).1;rw[Ziq]at k;exact k
theorem Zqh:FwOk wB0 4096:=⟨⟨ZpC,by unfold SpOk;decide+kernel,by decide+kernel⟩,by decide,by decide+kernel,by decide+kernel,by decide+kernel⟩
theorem Zq4:FwOk wB1 4096:=⟨⟨Zqe,by unfold SpOk;decide+kernel,by decide+kernel⟩,by decide,by decide+kernel,by decide+kernel,by decide+kernel⟩
theorem Znp:GP 15 [.d (.sl 0 [])] false (⟨(⟨⟨32,8⟩,List.replicate 256 0,List.replicate 8 ⟨0,0,0,0⟩,0,-1⟩:Heap),[],[]⟩:WorldM).av []:=by
 have k:=Zg6 [] pq;rw[ZfR]at k;intro w Im vs hIm hsz h;refine k w Im vs hIm hsz fun i x v hx hv=>?_;rcases i with _ | i
 ·cases hx;exact Z8Q 1 (h 0 _ v rfl hv)
 ·simp at hx
theorem ZoR:GP 62 [.ag [int 32,int 8,.d (.sl 1 ((List.replicate 256 0).map wdv)),.d (.sl 4 ((List.replicate 8 (⟨0,0,0,0⟩:Page)).map Page.dv)),int 0,int (-1),.d (.sl 0 []),.d (.sl 0 [])],.ag [int 3,int 1,.d (.sc (.int .u32 0))]] false (⟨(⟨⟨32,8⟩,(List.replicate 256 0).set 0 29,[⟨1,0,2,0⟩,⟨0,0,0,0⟩,⟨0,0,0,0⟩,⟨0,0,0,0⟩,⟨0,0,0,0⟩,⟨0,0,0,0⟩,⟨0,0,0,0⟩,⟨0,0,0,0⟩],0,0⟩:Heap),[4096],[]⟩:WorldM).av []:=by
 have hm:=Zft [];rw[ZfR]at hm;have k:=Z6h ⟨hA10,[],[]⟩ ⟨3,1,0⟩ (hm.wm dd) dd;rw[Zn5]at k;intro w Im vs hIm hsz h;refine k w Im vs hIm hsz fun i x v hx hv=>?_;rcases i with _ | _ | i
 ·cases hx;obtain⟨cs,rfl,h2,h3,h4⟩:=Z2R (h 0 _ v rfl hv);refine .ag _ _ h2 h3 (fun i a u ha hu=>?_);rcases i with _ | _ | _ | _ | _ | _ | _ | _ | i
  ·cases ha;exact h4 0 _ u rfl hu
  ·cases ha;exact h4 1 _ u rfl hu
  ·cases ha;exact h4 2 _ u rfl hu
  ·cases ha;exact h4 3 _ u rfl hu
  ·cases ha;exact h4 4 _ u rfl hu
  ·cases ha;exact h4 5 _ u rfl hu
  ·cases ha;exact Z8Q 1 (h4 6 _ u rfl hu)
  ·cases ha;exact Z8Q 1 (h4 7 _ u rfl hu)
  ·cases (show(none:Option AV)=some a from ha)
 ·cases hx;exact h 1 _ v rfl hv
 ·simp at hx
theorem Zpz:GP 33 [(⟨⟨32,8⟩,(List.replicate 256 0).set 0 29,[⟨1,0,2,0⟩,⟨0,0,0,0⟩,⟨0,0,0,0⟩,⟨0,0,0,0⟩,⟨0,0,0,0⟩,⟨0,0,0,0⟩,⟨0,0,0,0⟩,⟨0,0,0,0⟩],0,0⟩:Heap).av] false (.tu [(⟨⟨⟨32,8⟩,(List.replicate 256 0).set 0 29,[⟨1,0,2,0⟩,⟨0,0,0,0⟩,⟨0,0,0,0⟩,⟨0,0,0,0⟩,⟨0,0,0,0⟩,⟨0,0,0,0⟩,⟨0,0,0,0⟩,⟨0,0,0,0⟩],0,0⟩,[4096],[],[],0,⟨0,0,0,0,0,0⟩⟩:Work).av,int 0]) []:=by
 have k:=Zg0 hB10 Zj0 Zfw Znt;rw[ZiW]at k;exact k
theorem Zqc:GP 36 [(⟨⟨⟨32,8⟩,(List.replicate 256 0).set 0 29,[⟨1,0,2,0⟩,⟨0,0,0,0⟩,⟨0,0,0,0⟩,⟨0,0,0,0⟩,⟨0,0,0,0⟩,⟨0,0,0,0⟩,⟨0,0,0,0⟩,⟨0,0,0,0⟩],0,0⟩,[4096],[],[],0,⟨0,0,0,0,0,0⟩⟩:Work).av,u64 4096] true (.tu [(⟨⟨⟨32,8⟩,((List.replicate 256 0).set 0 16514).set 32 29,[⟨1,0,2,0⟩,⟨1,1,2,0⟩,⟨0,0,0,0⟩,⟨0,0,0,0⟩,⟨0,0,0,0⟩,⟨0,0,0,0⟩,⟨0,0,0,0⟩,⟨0,0,0,0⟩],0,0⟩,[4096],[1],[4128],0,⟨1,0,0,0,0,0⟩⟩:Work).av,u64 4128,int 0]) []:=by
 have k:=Z9y wB0 4096 Zqh;rw[Ziq]at k;exact k
theorem Zq1:GP 36 [(⟨⟨⟨32,8⟩,((List.replicate 256 0).set 0 16514).set 32 29,[⟨1,0,2,0⟩,⟨1,1,2,0⟩,⟨0,0,0,0⟩,⟨0,0,0,0⟩,⟨0,0,0,0⟩,⟨0,0,0,0⟩,⟨0,0,0,0⟩,⟨0,0,0,0⟩],0,0⟩,[4096],[1],[4128],0,⟨1,0,0,0,0,0⟩⟩:Work).av,u64 4096] true (.tu [(⟨⟨⟨32,8⟩,((List.replicate 256 0).set 0 16514).set 32 29,[⟨1,0,2,0⟩,⟨1,1,2,0⟩,⟨0,0,0,0⟩,⟨0,0,0,0⟩,⟨0,0,0,0⟩,⟨0,0,0,0⟩,⟨0,0,0,0⟩,⟨0,0,0,0⟩],0,0⟩,[4096],[1],[4128],0,⟨1,0,0,0,0,0⟩⟩:Work).av,u64 4128,int 0]) []:=by
 have k:=Z9y wB1 4096 Zq4;rw[ZoV]at k;exact k
theorem Zgt:GP 35 [] true (bool true) []:=by
 exact gF [] Tryz.func35 [] (Fh 33 [.el (wdv ((WorldM.mk (Heap.mk (Conf.mk 32 8) ((List.replicate 256 0).set 0 29) [Page.mk 1 0 2 0,Page.mk 0 0 0 0,Page.mk 0 0 0 0,Page.mk 0 0 0 0,Page.mk 0 0 0 0,Page.mk 0 0 0 0,Page.mk 0 0 0 0,Page.mk 0 0 0 0] 0 0) [4096] []).G.getD 0 default))] (Fh 43 [.el (wdv ((WorldM.mk (Heap.mk (Conf.mk 32 8) ((List.replicate 256 0).set 0 29) [Page.mk 1 0 2 0,Page.mk 0 0 0 0,Page.mk 0 0 0 0,Page.mk 0 0 0 0,Page.mk 0 0 0 0,Page.mk 0 0 0 0,Page.mk 0 0 0 0,Page.mk 0 0 0 0] 0 0) [4096] []).G.getD 0 default))] (Fc 10 (@Znp) (Fc 14 (@ZoR) (Fc 18 (@Zpz) (Fa (by simp[*]:(0:Int)≤0∧(List.map wdv (WorldM.mk (Heap.mk (Conf.mk 32 8) ((List.replicate 256 0).set 0 29) [Page.mk 1 0 2 0,Page.mk 0 0 0 0,Page.mk 0 0 0 0,Page.mk 0 0 0 0,Page.mk 0 0 0 0,Page.mk 0 0 0 0,Page.mk 0 0 0 0,Page.mk 0 0 0 0] 0 0) [4096] []).G)[Int.toNat 0]? = some (wdv ((WorldM.mk (Heap.mk (Conf.mk 32 8) ((List.replicate 256 0).set 0 29) [Page.mk 1 0 2 0,Page.mk 0 0 0 0,Page.mk 0 0 0 0,Page.mk 0 0 0 0,Page.mk 0 0 0 0,Page.mk 0 0 0 0,Page.mk 0 0 0 0,Page.mk 0 0 0 0] 0 0) [4096] []).G.getD 0 default))) (Fc 35 (@Zqc) (Fa (by simp[*]:(0:Int)≤0∧(List.map wdv (WorldM.mk (Heap.mk (Conf.mk 32 8) ((List.replicate 256 0).set 0 29) [Page.mk 1 0 2 0,Page.mk 0 0 0 0,Page.mk 0 0 0 0,Page.mk 0 0 0 0,Page.mk 0 0 0 0,Page.mk 0 0 0 0,Page.mk 0 0 0 0,Page.mk 0 0 0 0] 0 0) [4096] []).G)[Int.toNat 0]? = some (wdv ((WorldM.mk (Heap.mk (Conf.mk 32 8) ((List.replicate 256 0).set 0 29) [Page.mk 1 0 2 0,Page.mk 0 0 0 0,Page.mk 0 0 0 0,Page.mk 0 0 0 0,Page.mk 0 0 0 0,Page.mk 0 0 0 0,Page.mk 0 0 0 0,Page.mk 0 0 0 0] 0 0) [4096] []).G.getD 0 default))) (Fc 45 (@Zq1) Fz)))))))))
structure FwC (w:Work) (r:Int):Prop where
 rg:0≤r∧r≤18446744073709551615
 p:GP 36 [w.av,u64 r] true (.tu [(w.fwd r).1.av,u64 (w.fwd r).2.1,int (w.fwd r).2.2]) []
 q:GP 45 [w.av,u64 r] false (.tu [(w.fwd r).1.av,u64 (w.fwd r).2.1,int (w.fwd r).2.2]) []
theorem ZmA(w:Work)(r:Int)(f:FwC w r):GP 36 [w.av,u64 r] true (.tu [(w.fwd r).1.av,u64 (w.fwd r).2.1,int (w.fwd r).2.2]) []:=f.p
theorem ZmD(w:Work)(r:Int)(f:FwC w r):GP 45 [w.av,u64 r] false (.tu [(w.fwd r).1.av,u64 (w.fwd r).2.1,int (w.fwd r).2.2]) []:=f.q
theorem Zdg(r:Int)(h0:0≤r∧r≤18446744073709551615):GP 45 [noWork.av,u64 r] false (.tu [(noWork.fwd r).1.av,u64 (noWork.fwd r).2.1,int (noWork.fwd r).2.2]) []:=by
 have ln:=Z6D;obtain⟨l1,l2,l3,l4,l5⟩:=ln;by_cases c1:r=0
 ·have e7:noWork.fwd r=(noWork,r,0):=by simp[Work.fwd,c1]
  rw[e7];exact gF [] Tryz.func45 [] (FcG 29 (!r==0) (fun hg=>by(try simp only[bs]at hg);exact @Z0Y noWork.Q r aa) (Ftb 30 (r==0||false) Fz))
 ·have c2:r∉noWork.Q:=by simp[noWork]
  have c3:r∉noWork.old:=by simp[noWork]
  have e7:noWork.fwd r=(noWork,0,19):=by simp[Work.fwd,c1,c2,c3]
  rw[e7];exact gF [] Tryz.func45 [] (FcG 29 (!r==0) (fun hg=>by(try simp only[bs]at hg);exact @Z0Y noWork.Q r aa) (Ffs 30 (r==0||false) (Fc 36 (@Z0Y noWork.old r aa) (Fnl (Fnl (Fnl (Fnl (Fnl Fz))))))))
theorem Zgp(r:Int):(noWork.fwd r).1=noWork:=by
 by_cases c1:r=0
 ·rw[show noWork.fwd r=(noWork,r,0) by simp[Work.fwd,c1]]
 ·have c2:r∉noWork.Q:=by simp[noWork]
  have c3:r∉noWork.old:=by simp[noWork]
  rw[show noWork.fwd r=(noWork,0,19) by simp[Work.fwd,c1,c2,c3]]
theorem ZmP(l:List Int):∀ i,fwN noWork l i=noWork
 | 0=>rfl
 | i+1=>by
  rw[fwN,ZmP l i];split
  ·exact Zgp _
  ·rfl
theorem ZaV{h:Heap}(hw:WOk h.W)(l:List Int)(i:Nat):(PrOk (fwN (Z1n h).1 l i)∧LnOk (fwN (Z1n h).1 l i))∧∀ r,0≤r∧r≤18446744073709551615→FwC (fwN (Z1n h).1 l i) r:=by
 by_cases c:Z0p h=⟨0,0,0⟩
 ·have gd:=ZnV c;have k:=(Col.begin gd hw).fwN gd l i;rw[show(Z1n h).1=beginW h by rw[Z1n,if_pos gd.p,if_pos c]];exact⟨⟨k.ck.pr,k.ck.ln⟩,fun r hr=>⟨hr,Z9y _ r (k.fw gd hr),Z3a _ r k.ok hr⟩⟩
 ·have e:(Z1n h).1=noWork:=by
   unfold Z1n;rw[if_neg c];split<;>rfl
  rw[e,ZmP];exact⟨⟨ZiE,Z6D⟩,fun r hr=>⟨hr,ZdQ r hr,Zdg r hr⟩⟩
def fwX(all:List Int)(o:Int):Int:=all.getD (o%all.length).toNat default
theorem Zos(h:Heap)(hw:WOk h.W):GP 34 [h.av] false (.tu [.ow 0,int (Z03 h).2]) [.arr 35 1 ((Z03 h).1.map wdv)]:=by
 have hl:=Z5X h;have hr:=Z4l h;exact gF [24006] Tryz.func34 [] (Fh 6 [.own] (Fc 12 (@Zan h aa) (Fu (@ZfM h ((Z0w h).fst) ((Z0w h).snd) aa oq aa) Fz)))
def fwL(q:WorldM)(all order:List Int)(w:Work)(i:Nat):Tg:=⟨tm 135 [(2,Z0j order),(6,bool false),(7,.pt 24007 0 0),(8,.pt 32008 0 0),(10,.pt 40010 0 0),(12,.ow 64064),(14,int i)],[(64064,.arr 35 1 (all.map wdv)),(40010,.box 89 w.cells),(32008,.box 73 w.cells),(24007,.box 30 q.cells)],10⟩
def fiL(q:WorldM)(all order:List Int)(w:Work)(i k:Nat):Tg:=⟨tm 135 [(2,Z0j order),(6,bool false),(7,.pt 24007 0 0),(8,.pt 32008 0 0),(10,.pt 40010 0 0),(12,.ow 64064),(14,int i),(22,int k)],[(64064,.arr 35 1 (all.map wdv)),(40010,.box 89 w.cells),(32008,.box 73 w.cells),(24007,.box 30 q.cells)],10⟩
theorem ZnC(q:WorldM)(all order:List Int)(w:Work)(i k:Nat)(pr:PrOk w)(hp:q.heap.P.length≤1048576)(hk:k<q.heap.P.length):CP (rndF Tryz.f10 2) (fiL q all order w i k).st .nrm (fiL q all order w i (k+1)).st:=by
 have tl:=pr.tl;have pl:=pr.pl;exact sF [] [] (FM 123 124 Page.dv q.heap.P k (Fc 129 (@Zhe w ((↑k:Int)) aa) (Fc 132 (@Z1C w ((↑k:Int)) oq oq) (Ffs 133 (!Z0E w (↑k:Int)==Z0E w (↑k:Int)) (Fx 126 k Fz)))))
theorem Zqi(q:WorldM)(all order:List Int)(w:Work)(i:Nat)(hp:q.heap.P.length≤1048576):CP (rndF Tryz.f10 2) (fiL q all order w i q.heap.P.length).st (.ext 2) (fwL q all order w i).st:=by
 exact sF [] [] (FO 123 124 Page.dv q.heap.P Fz)
def ZpY(q:WorldM)(all order:List Int)(w:Work)(i:Nat)(pr:PrOk w)(hp:q.heap.P.length≤1048576)  := Z08 (S:=fun k=>(fiL q all order w i k).st) q.heap.P.length (by kernel_rfl) (fun k hk=>ZnC q all order w i k pr hp hk) (Zqi q all order w i hp)
section
variable (q:WorldM) (all order:List Int) (w:Work) (i:Nat) (ha:1≤all.length) (hl:all.length≤1048576) (hi:i<order.length) (ho:order.length≤60) (f:FwC w (fwX all (order.getD i default))) (hp:q.heap.P.length≤1048576)
include ha hl hi ho f hp
theorem ZgI(e:¬ (w.fwd (fwX all (order.getD i default))).2.2=0):CP (rndF Tryz.f10 0) (fwL q all order w i).st .nrm (fwL q all order w (i+1)).st:=by
 have r0:=f.rg;have r1:=Z5h (order.getD i default) (n:=all.length) oq;have ei1:IntKind.i64.wrap ((order.getD i default).tmod all.length+all.length)=(order.getD i default).tmod all.length+all.length:=wrapI' oq oq;have ej2:=Z9x (order.getD i default) (n:=all.length) oq;have ei2:((order.getD i default).tmod all.length+all.length)%all.length=(order.getD i default)%all.length:=(Zl0 oq).symm.trans ej2;have k0:=Int.emod_nonneg (order.getD i default) (show(all.length:Int)≠0 by omega);have k1:=Int.emod_lt_of_pos (order.getD i default) (show(0:Int)<all.length by omega);have z:LnOk (w.fwd (fwX all (order.getD i default))).1:=by rw[(Zeh e).1];exact Z6D
 obtain⟨s1,s2,s3,s4,s5⟩:=z;unfold fwX at *;let y1:=(order.getD i default).tmod (↑all.length:Int)+(↑all.length:Int);let y2:=order.getD i default%(↑all.length:Int);let y0:=all.getD y2.toNat default;exact sF [] [] (FN 67 68 74 idv order i (Fl 77 wdv all (Fo ((↑all.length:Int)≠0) (Fl 80 wdv all (Fi 81 y1 (Fl 83 wdv all (Fgo 84 (y1.tmod (↑all.length:Int)) y2 (Fo ((↑all.length:Int)≠0) (Fmq 86 wdv all y2 (Fc 90 (@ZmA w y0 aa) (Fc 97 (@ZmD w y0 aa) (FcG 112 (!((w.fwd y0).snd.snd != (w.fwd y0).snd.snd||(w.fwd y0).snd.fst != (w.fwd y0).snd.fst)) (fun hg=>by(try simp only[bs]at hg);exact @Z9k ((w.fwd y0).fst) aa aa aa aa aa) (Ffs 114 ((w.fwd y0).snd.snd != (w.fwd y0).snd.snd||(w.fwd y0).snd.fst != (w.fwd y0).snd.fst||false) (Ftb 116 ((w.fwd y0).snd.snd != 0) (Fx 70 i Fz)))))))))))))))
theorem Zn9(e:(w.fwd (fwX all (order.getD i default))).2.2=0)(pr:PrOk (w.fwd (fwX all (order.getD i default))).1)(k':LnOk (w.fwd (fwX all (order.getD i default))).1):CP (rndF Tryz.f10 0) (fwL q all order w i).st .nrm (fwL q all order (w.fwd (fwX all (order.getD i default))).1 (i+1)).st:=by
 have r0:=f.rg;have r1:=Z5h (order.getD i default) (n:=all.length) oq;have ei1:IntKind.i64.wrap ((order.getD i default).tmod all.length+all.length)=(order.getD i default).tmod all.length+all.length:=wrapI' oq oq;have ej2:=Z9x (order.getD i default) (n:=all.length) oq;have ei2:((order.getD i default).tmod all.length+all.length)%all.length=(order.getD i default)%all.length:=(Zl0 oq).symm.trans ej2;have k0:=Int.emod_nonneg (order.getD i default) (show(all.length:Int)≠0 by omega);have k1:=Int.emod_lt_of_pos (order.getD i default) (show(0:Int)<all.length by omega);obtain⟨s1,s2,s3,s4,s5⟩:=k';unfold fwX at *;let y1:=(order.getD i default).tmod (↑all.length:Int)+(↑all.length:Int);let y2:=order.getD i default%(↑all.length:Int);let y0:=all.getD y2.toNat default;exact sF [] [] (FN 67 68 74 idv order i (Fl 77 wdv all (Fo ((↑all.length:Int)≠0) (Fl 80 wdv all (Fi 81 y1 (Fl 83 wdv all (Fgo 84 (y1.tmod (↑all.length:Int)) y2 (Fo ((↑all.length:Int)≠0) (Fmq 86 wdv all y2 (Fc 90 (@ZmA w y0 aa) (Fc 97 (@ZmD w y0 aa) (FcG 112 (!((w.fwd y0).snd.snd != (w.fwd y0).snd.snd||(w.fwd y0).snd.fst != (w.fwd y0).snd.fst)) (fun hg=>by(try simp only[bs]at hg);exact @Z9k ((w.fwd y0).fst) aa aa aa aa aa) (Ffs 114 ((w.fwd y0).snd.snd != (w.fwd y0).snd.snd||(w.fwd y0).snd.fst != (w.fwd y0).snd.fst||false) (Ffb 116 ((w.fwd y0).snd.snd != 0) (Fu (@ZpY q all order ((w.fwd y0).fst) i aa aa) (Fx 70 i Fz))))))))))))))))
end
theorem Zq3(q:WorldM)(all order:List Int)(w:Work):CP (rndF Tryz.f10 0) (fwL q all order w order.length).st (.ext 0) (Tg.st ⟨tm 135 [(6,bool false)],[],10⟩):=by
 exact sF [] [] (FO 67 68 idv order Fz)
structure FwS (all order:List Int) (w:Nat→Work):Prop where
 f:∀ i,i<order.length→FwC (w i) (fwX all (order.getD i default))
 k:∀ i,PrOk (w i)∧LnOk (w i)
 s:∀ i,i<order.length→w (i+1)=if((w i).fwd (fwX all (order.getD i default))).2.2=0 then((w i).fwd (fwX all (order.getD i default))).1 else w i
theorem ZpT(q:WorldM)(all order:List Int)(w:Nat→Work)(w0:Work)(h0:w 0=w0)(ha:1≤all.length)(hl:all.length≤1048576)(ho:order.length≤60)(h:FwS all order w)(hp:q.heap.P.length≤1048576):CP (blkF Tryz.f10 0) (fwL q all order (w 0) 0).st .nrm (Tg.st ⟨tm 135 [(6,bool false)],[],10⟩):=by
 subst h0;refine Z08 (S:=fun i=>(fwL q all order (w i) i).st) order.length kr (fun i hi=>?_) (Zq3 q all order (w order.length));have f:=h.f i hi;have e:=h.s i hi;by_cases c:((w i).fwd (fwX all (order.getD i default))).2.2=0
 ·have k':=h.k (i+1);rw[e,if_pos c]at k';rw[e,if_pos c];exact Zn9 q all order (w i) i ha hl hi ho f hp c k'.1 k'.2
 ·rw[e,if_neg c];exact ZgI q all order (w i) i ha hl hi ho f hp c
theorem ZdM(tape refs order:List Int)(h1:tape.length≤140737488355328)(h2:refs.length≤140737488355328)(hr:WOk refs)(h3:order.length≤140737488355328):GP 10 [Z0j tape,Z01 refs,Z0j order] true (bool true) []:=by
 have hm:=Zft tape;have hw:=hm.W;by_cases c:20<refs.length∨60<order.length
 ·exact gF [] Tryz.func10 [] (Fl 24 wdv refs (FlG 28 (!decide (20<(↑refs.length:Int))) idv order (Ftb 30 (decide (20<(↑refs.length:Int))||decide (60<(↑order.length:Int))) Fz)))
 ·have ol:=Z2d (Z13 tape).heap;have b1:=ZaV hw [] 0;obtain⟨⟨b2,s1,s2,s3,s4,s5⟩,-⟩:=b1;have hq:(Z13 tape).heap.P.length≤1048576:=by
   have:=hm.pl;have:=validB_iff.1 hm.hv;omega
  have q3:1≤((Z03 (Z13 tape).heap).1++[0]++refs).length∧((Z03 (Z13 tape).heap).1++[0]++refs).length≤1048576:=by
   simp only[List.length_append,List.length_cons,List.length_nil];omega
  have rg:∀ o,0≤fwX ((Z03 (Z13 tape).heap).1++[0]++refs) o∧fwX ((Z03 (Z13 tape).heap).1++[0]++refs) o≤18446744073709551615:=fun o=>by
   have m0:=Int.emod_nonneg o (show(((Z03 (Z13 tape).heap).1++[0]++refs).length:Int)≠0 by omega);have m1:=Int.emod_lt_of_pos o (show(0:Int)<(((Z03 (Z13 tape).heap).1++[0]++refs).length:Int) by omega);have m:fwX ((Z03 (Z13 tape).heap).1++[0]++refs) o∈(Z03 (Z13 tape).heap).1++[0]++refs:=getD_mem_iff.2 ⟨(o%(((Z03 (Z13 tape).heap).1++[0]++refs).length:Int)).toNat,by omega,rfl⟩;rcases List.mem_append.1 m with m | m
   ·rcases List.mem_append.1 m with m | m
    ·have:=Z36 _ _ m;omega
    ·rw[List.mem_singleton.1 m];omega
   ·exact hr _ m
  have hs:FwS ((Z03 (Z13 tape).heap).1++[0]++refs) order (fwN (Z1n (Z13 tape).heap).1 (order.map (fwX ((Z03 (Z13 tape).heap).1++[0]++refs)))):=by
   refine⟨fun i hi=>(ZaV hw _ i).2 _ (rg _),fun i=>(ZaV hw _ i).1,fun i hi=>?_⟩;have e:(order.map (fwX ((Z03 (Z13 tape).heap).1++[0]++refs))).getD i default=fwX ((Z03 (Z13 tape).heap).1++[0]++refs) (order.getD i default):=by
    simp[List.getD_eq_getElem?_getD,List.getElem?_eq_getElem hi]
   rw[fwN,e]
  exact gF [] Tryz.func10 [] (Fh 62 [.els (List.map wdv ((Z03 (Z13 tape).heap).fst++[0]))] (Fh 64 [.els (List.map wdv ((Z03 (Z13 tape).heap).fst++[0]++refs))] (Fl 24 wdv refs (FlG 28 (!decide (20<(↑refs.length:Int))) idv order (Ffb 30 (decide (20<(↑refs.length:Int))||decide (60<(↑order.length:Int))) (Fc 32 (@Zg6 tape aa) (Fc 36 (@Zo1 ((Z13 tape).heap) aa) (Fc 42 (@ZgW ((Z13 tape).heap) aa) (FcG 51 (!(Z1n (Z13 tape).heap).snd != (Z1n (Z13 tape).heap).snd) (fun hg=>by(try simp only[bs]at hg);exact @Z9k ((Z1n (Z13 tape).heap).fst) aa aa aa aa aa) (Ffs 53 ((Z1n (Z13 tape).heap).snd != (Z1n (Z13 tape).heap).snd||false) (Fc 57 (@Zos ((Z13 tape).heap) aa) (Fs 61 (List.map wdv [0]) (Fa (by(simp[*];omega):(List.map wdv (Z03 (Z13 tape).heap).fst).length+(List.map wdv [0]).length≤2^30) (Fa (ms:List.map wdv (Z03 (Z13 tape).heap).fst++List.map wdv [0]=List.map wdv ((Z03 (Z13 tape).heap).fst++[0])) (Fa (by(simp[*];omega):(List.map wdv ((Z03 (Z13 tape).heap).fst++[0])).length+(List.map wdv refs).length≤2^30) (Fa (ms:List.map wdv ((Z03 (Z13 tape).heap).fst++[0])++List.map wdv refs=List.map wdv ((Z03 (Z13 tape).heap).fst++[0]++refs)) (Fu (@ZpT (Z13 tape) ((Z03 (Z13 tape).heap).fst++[0]++refs) order (fwN (Z1n (Z13 tape).heap).fst (List.map (fwX ((Z03 (Z13 tape).heap).fst++[0]++refs)) order)) ((Z1n (Z13 tape).heap).fst) (by rfl) oq oq oq hs aa) (Fc 134 (@Zgt) Fz))))))))))))))))))
end Go.Proofs.YtdhchmlalchgeaaGreat
namespace Go.Proofs.YtdhchmlalchgeaaGreat
open Go.Sx Go.RowKit
theorem Z4u(os:Os)(started:os.Started)(H:Type)(enc:TypeId×Value→H) :
  ReturnsInHanded {} Tryz.checked os 10 .any (Rows.evacuateForwardsSpec.pre6 enc Tryz.prog Tryz.f10 Rows.evacuateForwardsRow.domain false) (Rows.evacuateForwardsSpec.post enc Tryz.prog Tryz.f10 false true false false):=by
 refine Zdu (C:=Tryz.checked) (tb:=4) 5 own0 started kr Tryz.func10
  (ChangeSpec.witness6 (enc:=enc) (C:=Tryz.checked) false ⟨#[],#[.slice none 0 0,.slice none 0 0,.slice none 0 0],[]⟩ 8 kr kr kr kr)
  ZlM kr kr kr kr rfl (fun ds hd=>?_) (fun ls hl h=>?_)
 ·match ds,hd with
  | [a0,a1,a2],_=>rfl
 ·match ls,hl with
  | [l0,l1,l2],_ =>
   obtain⟨tape,rfl,htape⟩:=Zf6 (n:=3) (h 0 22 l0 kr rfl);obtain⟨refs,rfl,hrefs,krefs⟩:=Zjq (n:=3) (h 1 25 l1 kr rfl);obtain⟨order,rfl,horder⟩:=Zf6 (n:=3) (h 2 22 l2 kr rfl);have e:ZbK Tryz.prog Tryz.f10.params.toList [[.sl 1 (tape.map idv)],[.sl 1 (refs.map wdv)],[.sl 1 (order.map idv)]]=[Z0j tape,Z01 refs,Z0j order]:=by kernel_rfl
   exact⟨true,e▸ZdM tape refs order htape hrefs krefs horder⟩
theorem Z6d:(Rows.evacuateForwardsRow.inPlace==Tryz.prog.inPlace 10)=true:=by kernel_rfl
theorem Z66:(Rows.evacuateForwardsRow.unfollowed==Tryz.prog.unfollowed 10)=true:=by kernel_rfl
theorem Z5V:(Rows.evacuateForwardsRow.recurses==Tryz.prog.recurses 10)=true:=by kernel_rfl
theorem Z5Y:(Rows.evacuateForwardsRow.named==Tryz.prog.varsNamed 10)=true:=by kernel_rfl
theorem Z4g:joinedFacts Tryz.prog 10 Tryz.f10 Rows.evacuateForwardsSpec Rows.evacuateForwardsRow=true:=by
 unfold joinedFacts;rw[Z6d,Z66,Z5V,Z5Y];kernel_rfl
theorem evacuateForwards_holds:Rows.EvacuateForwardsSaid :=
 OpenClaim.holds_of_wide 10 Tryz.f10 rfl rfl rfl rfl rfl rfl rfl ⟨rfl,rfl,rfl,rfl,rfl⟩ rfl rfl rfl rfl rfl kr Tryz.func10 Z4g
  (of_decide_eq_true kr) (by unfold Func.isWrapper;first | (rw[if_pos (by decide+kernel)];kernel_rfl) | (rw[if_neg (by decide+kernel)];exact⟨rfl,rfl⟩))
  (fun os started H enc _=>Z4u os started H enc)
end Go.Proofs.YtdhchmlalchgeaaGreat
