/-
 The statement EvacuateBegins: part 14.
 Conditions: none.
-/
import Derived.Test.YtdhchmlalchgeaaGreatH13
set_option maxRecDepth 100000
set_option maxHeartbeats 2000000
set_option linter.all false
namespace Go.Proofs.YtdhchmlalchgeaaGreat
open Go.Sx
def loC(c:List Int)(x:Int):Nat:=(min (max x 0) (c.length:Int)).toNat
def clrW(c:List Int)(x k:Int):List Int:=c.take (loC c x)++List.replicate (loC c (x+k)-loC c x) 0++c.drop (loC c x+(loC c (x+k)-loC c x))
def cwN(h:Heap)(F:Int)(l c:List Int):Nat→List Int
 | 0=>c
 | n+1=>clrW (cwN h F l c n) (l.getD n default-F) (Z47 h (l.getD n default))
theorem ZeX(c:List Int)(x:Int):loC c x≤c.length:=by unfold loC;omega
theorem Zg2(c:List Int)(x:Int){k:Int}(hk:0≤k):loC c x≤loC c (x+k):=by unfold loC;omega
theorem Z8j(h:Heap)(a:Int):0≤Z47 h a∧Z47 h a≤256:=by
 have:=Z1b (atH h a).1;unfold Z47;split<;>omega
theorem ZlH(c:List Int)(x:Int){k:Int}(hk:0≤k):(clrW c x k).length=c.length:=by
 have h1:=ZeX c x;have h2:=ZeX c (x+k);have h3:=Zg2 c x hk;simp[clrW];omega
theorem Z9m(h:Heap)(F:Int)(l c:List Int):∀ n,(cwN h F l c n).length=c.length
 | 0=>rfl
 | n+1=>by rw[cwN,ZlH _ _ (Z8j h _).1,Z9m h F l c n]
def adL(h:Heap)(F:Int)(l c:List Int)(n:Nat):Tg:=⟨tm 90 [(2,.pt 8002 0 0),(4,u64 0),(5,bool false),(6,u64 F),(8,.ow 25033),(44,Z01 l),(45,int l.length),(46,int n)],[(25033,.arr 35 1 ((cwN h F l c n).map wdv)),(8002,.box 28 h.cells)],60⟩
theorem Znk(h:Heap)(F:Int)(l c:List Int)(n:Nat)(hw:WOk h.W)(hF:0≤F∧F≤8192)(hl:l.length≤1048576)(hc:c.length≤64)(hr:∀ x∈l,0≤x∧x≤8192)(hn:n<l.length):CP (rndF Tryz.f194 0) (adL h F l c n).st .nrm (adL h F l c (n+1)).st:=by
 have hx:=hr (l.getD n default) (getD_mem_iff.2 ⟨n,hn,rfl⟩);have hm:=Z3e hw (l.getD n default);have hlen:=Z9m h F l c n;have hs:=Z1b (atH h (l.getD n default)).1;by_cases hk:(atH h (l.getD n default)).1.K=0
 ·have ek:Z47 h (l.getD n default)=1:=if_pos hk;have e7:cwN h F l c (n+1)=clrW (cwN h F l c n) (l.getD n default-F) 1:=by rw[cwN,ek]
  exact sF [] (fO 8) (Fh 20000 [.els (List.map wdv (List.take (min (max (l.getD n default-F) 0) (↑(cwN h F l c n).length:Int)).toNat (cwN h F l c n)++List.replicate ((min (max (l.getD n default-F+1) 0) (↑(cwN h F l c n).length:Int)).toNat-(min (max (l.getD n default-F) 0) (↑(cwN h F l c n).length:Int)).toNat) 0++List.drop ((min (max (l.getD n default-F) 0) (↑(cwN h F l c n).length:Int)).toNat+(List.replicate ((min (max (l.getD n default-F+1) 0) (↑(cwN h F l c n).length:Int)).toNat-(min (max (l.getD n default-F) 0) (↑(cwN h F l c n).length:Int)).toNat) 0).length) (cwN h F l c n)))] (Ftb 47 (decide ((↑n:Int)<(↑l.length:Int))) (Fek 48 wdv l (↑n) n (Fc 53 (@Z3F h (l.getD n default) aa oq) (Ffb 58 ((atH h (l.getD n default)).fst.K != 0) (Fi 62 (l.getD n default) (Fi 64 F (Fi 65 (l.getD n default-F) (Fgo 68 (if 0 > l.getD n default-F then 0 else l.getD n default-F) (max (l.getD n default-F) 0) (Fl 70 wdv (cwN h F l c n) (Fgo 71 (if(↑(cwN h F l c n).length:Int)<max (l.getD n default-F) 0 then(↑(cwN h F l c n).length:Int)else max (l.getD n default-F) 0) (min (max (l.getD n default-F) 0) (↑(cwN h F l c n).length:Int)) (Fi 74 (l.getD n default-F+1) (Fgo 75 (if 0 > l.getD n default-F+1 then 0 else l.getD n default-F+1) (max (l.getD n default-F+1) 0) (Fl 77 wdv (cwN h F l c n) (Fgo 78 (if(↑(cwN h F l c n).length:Int)<max (l.getD n default-F+1) 0 then(↑(cwN h F l c n).length:Int)else max (l.getD n default-F+1) 0) (min (max (l.getD n default-F+1) 0) (↑(cwN h F l c n).length:Int)) (Fa (by(simp only[List.length_map];omega):0≤min (max (l.getD n default-F) 0) (↑(cwN h F l c n).length:Int)∧min (max (l.getD n default-F) 0) (↑(cwN h F l c n).length:Int)≤min (max (l.getD n default-F+1) 0) (↑(cwN h F l c n).length:Int)∧min (max (l.getD n default-F+1) 0) (↑(cwN h F l c n).length:Int)≤(↑(List.map wdv (cwN h F l c n)).length:Int)) (Fa (by simp only[Z0G,List.map_append,List.map_take,List.map_drop,List.map_replicate,List.length_replicate];rfl:Z0G (List.map wdv (cwN h F l c n)) (min (max (l.getD n default-F) 0) (↑(cwN h F l c n).length:Int)).toNat (List.replicate ((min (max (l.getD n default-F+1) 0) (↑(cwN h F l c n).length:Int)).toNat-(min (max (l.getD n default-F) 0) (↑(cwN h F l c n).length:Int)).toNat) [du64 0])=List.map wdv (List.take (min (max (l.getD n default-F) 0) (↑(cwN h F l c n).length:Int)).toNat (cwN h F l c n)++List.replicate ((min (max (l.getD n default-F+1) 0) (↑(cwN h F l c n).length:Int)).toNat-(min (max (l.getD n default-F) 0) (↑(cwN h F l c n).length:Int)).toNat) 0++List.drop ((min (max (l.getD n default-F) 0) (↑(cwN h F l c n).length:Int)).toNat+(List.replicate ((min (max (l.getD n default-F+1) 0) (↑(cwN h F l c n).length:Int)).toNat-(min (max (l.getD n default-F) 0) (↑(cwN h F l c n).length:Int)).toNat) 0).length) (cwN h F l c n))) (Fx 80 n (Fr (35:Int) (Fa (by refine congrArg _ ?_;rw[e7];simp only[clrW,loC,List.length_replicate]:List.map wdv (List.take (min (max (l.getD n default-F) 0) (↑(cwN h F l c n).length:Int)).toNat (cwN h F l c n)++List.replicate ((min (max (l.getD n default-F+1) 0) (↑(cwN h F l c n).length:Int)).toNat-(min (max (l.getD n default-F) 0) (↑(cwN h F l c n).length:Int)).toNat) 0++List.drop ((min (max (l.getD n default-F) 0) (↑(cwN h F l c n).length:Int)).toNat+(List.replicate ((min (max (l.getD n default-F+1) 0) (↑(cwN h F l c n).length:Int)).toNat-(min (max (l.getD n default-F) 0) (↑(cwN h F l c n).length:Int)).toNat) 0).length) (cwN h F l c n))=List.map wdv (cwN h F l c (n+1))) Fz))))))))))))))))))))
 ·have ek:Z47 h (l.getD n default)=sizeH (atH h (l.getD n default)).1:=if_neg hk;have e7:cwN h F l c (n+1)=clrW (cwN h F l c n) (l.getD n default-F) (sizeH (atH h (l.getD n default)).1):=by rw[cwN,ek]
  exact sF [] (fO 8) (Fh 20000 [.els (List.map wdv (List.take (min (max (l.getD n default-F) 0) (↑(cwN h F l c n).length:Int)).toNat (cwN h F l c n)++List.replicate ((min (max (l.getD n default-F+sizeH (atH h (l.getD n default)).fst) 0) (↑(cwN h F l c n).length:Int)).toNat-(min (max (l.getD n default-F) 0) (↑(cwN h F l c n).length:Int)).toNat) 0++List.drop ((min (max (l.getD n default-F) 0) (↑(cwN h F l c n).length:Int)).toNat+(List.replicate ((min (max (l.getD n default-F+sizeH (atH h (l.getD n default)).fst) 0) (↑(cwN h F l c n).length:Int)).toNat-(min (max (l.getD n default-F) 0) (↑(cwN h F l c n).length:Int)).toNat) 0).length) (cwN h F l c n)))] (Ftb 47 (decide ((↑n:Int)<(↑l.length:Int))) (Fek 48 wdv l (↑n) n (Fc 53 (@Z3F h (l.getD n default) aa oq) (Ftb 58 ((atH h (l.getD n default)).fst.K != 0) (Fc 60 (@Z0L ((atH h (l.getD n default)).fst) aa) (Fi 62 (l.getD n default) (Fi 64 F (Fi 65 (l.getD n default-F) (Fgo 68 (if 0 > l.getD n default-F then 0 else l.getD n default-F) (max (l.getD n default-F) 0) (Fl 70 wdv (cwN h F l c n) (Fgo 71 (if(↑(cwN h F l c n).length:Int)<max (l.getD n default-F) 0 then(↑(cwN h F l c n).length:Int)else max (l.getD n default-F) 0) (min (max (l.getD n default-F) 0) (↑(cwN h F l c n).length:Int)) (Fi 74 (l.getD n default-F+sizeH (atH h (l.getD n default)).fst) (Fgo 75 (if 0 > l.getD n default-F+sizeH (atH h (l.getD n default)).fst then 0 else l.getD n default-F+sizeH (atH h (l.getD n default)).fst) (max (l.getD n default-F+sizeH (atH h (l.getD n default)).fst) 0) (Fl 77 wdv (cwN h F l c n) (Fgo 78 (if(↑(cwN h F l c n).length:Int)<max (l.getD n default-F+sizeH (atH h (l.getD n default)).fst) 0 then(↑(cwN h F l c n).length:Int)else max (l.getD n default-F+sizeH (atH h (l.getD n default)).fst) 0) (min (max (l.getD n default-F+sizeH (atH h (l.getD n default)).fst) 0) (↑(cwN h F l c n).length:Int)) (Fa (by(simp only[List.length_map];omega):0≤min (max (l.getD n default-F) 0) (↑(cwN h F l c n).length:Int)∧min (max (l.getD n default-F) 0) (↑(cwN h F l c n).length:Int)≤min (max (l.getD n default-F+sizeH (atH h (l.getD n default)).fst) 0) (↑(cwN h F l c n).length:Int)∧min (max (l.getD n default-F+sizeH (atH h (l.getD n default)).fst) 0) (↑(cwN h F l c n).length:Int)≤(↑(List.map wdv (cwN h F l c n)).length:Int)) (Fa (by simp only[Z0G,List.map_append,List.map_take,List.map_drop,List.map_replicate,List.length_replicate];rfl:Z0G (List.map wdv (cwN h F l c n)) (min (max (l.getD n default-F) 0) (↑(cwN h F l c n).length:Int)).toNat (List.replicate ((min (max (l.getD n default-F+sizeH (atH h (l.getD n default)).fst) 0) (↑(cwN h F l c n).length:Int)).toNat-(min (max (l.getD n default-F) 0) (↑(cwN h F l c n).length:Int)).toNat) [du64 0])=List.map wdv (List.take (min (max (l.getD n default-F) 0) (↑(cwN h F l c n).length:Int)).toNat (cwN h F l c n)++List.replicate ((min (max (l.getD n default-F+sizeH (atH h (l.getD n default)).fst) 0) (↑(cwN h F l c n).length:Int)).toNat-(min (max (l.getD n default-F) 0) (↑(cwN h F l c n).length:Int)).toNat) 0++List.drop ((min (max (l.getD n default-F) 0) (↑(cwN h F l c n).length:Int)).toNat+(List.replicate ((min (max (l.getD n default-F+sizeH (atH h (l.getD n default)).fst) 0) (↑(cwN h F l c n).length:Int)).toNat-(min (max (l.getD n default-F) 0) (↑(cwN h F l c n).length:Int)).toNat) 0).length) (cwN h F l c n))) (Fx 80 n (Fr (35:Int) (Fa (by refine congrArg _ ?_;rw[e7];simp only[clrW,loC,List.length_replicate]:List.map wdv (List.take (min (max (l.getD n default-F) 0) (↑(cwN h F l c n).length:Int)).toNat (cwN h F l c n)++List.replicate ((min (max (l.getD n default-F+sizeH (atH h (l.getD n default)).fst) 0) (↑(cwN h F l c n).length:Int)).toNat-(min (max (l.getD n default-F) 0) (↑(cwN h F l c n).length:Int)).toNat) 0++List.drop ((min (max (l.getD n default-F) 0) (↑(cwN h F l c n).length:Int)).toNat+(List.replicate ((min (max (l.getD n default-F+sizeH (atH h (l.getD n default)).fst) 0) (↑(cwN h F l c n).length:Int)).toNat-(min (max (l.getD n default-F) 0) (↑(cwN h F l c n).length:Int)).toNat) 0).length) (cwN h F l c n))=List.map wdv (cwN h F l c (n+1))) Fz)))))))))))))))))))))
theorem Zqd(h:Heap)(F:Int)(l c:List Int):CP (rndF Tryz.f194 0) (adL h F l c l.length).st (.ext 0) (Tg.st ⟨tm 90 [(4,u64 0),(5,bool false),(6,u64 F),(8,.ow 25033)],[(25033,.arr 35 1 ((cwN h F l c l.length).map wdv))],60⟩):=by
 exact sF [] [] (Ffb 47 (decide ((↑l.length:Int)<(↑l.length:Int))) Fz)
theorem ZoR(h:Heap)(F:Int)(l c:List Int)(hw:WOk h.W)(hF:0≤F∧F≤8192)(hl:l.length≤1048576)(hc:c.length≤64)(hr:∀ x∈l,0≤x∧x≤8192):CP (blkF Tryz.f194 0) (Tg.st ⟨tm 90 [(2,.pt 8002 0 0),(4,u64 0),(5,bool false),(6,u64 F),(8,.ow 25033),(44,Z01 l),(45,int l.length),(46,int 0)],[(25033,.arr 35 1 (c.map wdv)),(8002,.box 28 h.cells)],60⟩) .nrm
  (Tg.st ⟨tm 90 [(4,u64 0),(5,bool false),(6,u64 F),(8,.ow 25033)],[(25033,.arr 35 1 ((cwN h F l c l.length).map wdv))],60⟩) :=
 Z07 (S:=fun n=>(adL h F l c n).st) l.length kr (fun n hn=>Znk h F l c n hw hF hl hc hr hn) (Zqd h F l c)
def rawP(h:Heap)(i:Nat):List Int:=(h.W.drop ((address h.C i 0).1-4096).toNat).take h.C.pw.toNat
def clrP(h:Heap)(i:Nat):List Int:=cwN h (address h.C i 0).1 (Z06 h (Z0u h.P i:Nat)).1 (rawP h i) (Z06 h (Z0u h.P i:Nat)).1.length
theorem Z6O(h:Heap)(i:Nat)(hw:WOk h.W)(hp:Z02 h=true)(hi:i<h.P.length):GP 194 [h.av,int i] true (.tu [u64 ((address h.C i 0).1+max (idxW (clrP h i)) 0),bool (decide (0≤idxW (clrP h i)))]) []:=by
 have po:=Z09 hp;have ea:(address h.C i 0).1=4096+i*h.C.pw:=by
  unfold address;rw[if_pos po.1,if_pos (inB_iff.2 oq)];simp only;omega
 have ap:=Z2u po.1 (i:=i) oq oq;have hh:=Zbj h.P i;have hx:(i:Int)*h.C.pw+h.C.pw≤h.W.length:=by
  have h1:((i:Int)+1)*h.C.pw≤h.C.pg*h.C.pw:=Int.mul_le_mul_of_nonneg_right oq oq;have h2:((i:Int)+1)*h.C.pw=i*h.C.pw+h.C.pw:=by rw[Int.add_mul,Int.one_mul]
  have h3:h.C.pg*h.C.pw=h.C.pw*h.C.pg:=Int.mul_comm _ _;omega
 have hr:=Z2t hp (Z0u h.P i:Nat);have hn:=Z2D h (Z0u h.P i:Nat);have hlen:(clrP h i).length≤64:=by
  rw[clrP,Z9m,rawP,List.length_take];omega
 have hix:idxW (clrP h i)≤64∧-1≤idxW (clrP h i):=by
  have:fstW (clrP h i)≤(clrP h i).length:=(List.takeWhile_sublist _).length_le;unfold idxW;split<;>omega
 have hrl:(rawP h i).length≤64:=by rw[rawP,List.length_take];omega
 unfold clrP rawP at *;let y1:=address h.C (↑i:Int) 0;let y0:=cwN h y1.fst (Z06 h (↑(Z0u h.P i):Int)).fst (List.take h.C.pw.toNat (List.drop (y1.fst-4096).toNat h.W)) (Z06 h (↑(Z0u h.P i):Int)).fst.length;exact gF [] Tryz.func194 [] (Fc 23 (@Z3w h.C ((↑i:Int)) (0)) (Fc 33 (@ZgS h.W (y1.fst) h.C.pw oq oq) (Fc 40 (@ZhT h i aa aa) (Fc 41 (@Z3g h ((↑(Z0u h.P i):Int)) aa oq) (Fl 45 wdv (Z06 h (↑(Z0u h.P i):Int)).fst (Fu (@ZoR h (y1.fst) ((Z06 h (↑(Z0u h.P i):Int)).fst) (List.take h.C.pw.toNat (List.drop (y1.fst-4096).toNat h.W)) aa oq oq aa aa) (Fc 82 (@Zpg y0 oq) (Fgo 85 (if 0 > idxW y0 then 0 else idxW y0) (max (idxW y0) 0) (Fv 86 (max (idxW y0) 0) (Fv 87 (y1.fst+max (idxW y0) 0) Fz))))))))))
def unS(fn:Func):Func:=match fn.body with
 | some (.seq x (.scope c)) => { fn with body:=some (.seq x c) }
 | _=>fn
def firS(fn:Func):Code:=match fn.body with
 | some (.seq x _)=>x
 | _=>.skip
def bdyS(fn:Func):Code:=match fn.body with
 | some (.seq _ c)=>c
 | _=>.skip
theorem ZjX{P:Program}{c:Code}{n m:Nat}{s t:St}(hmn:m≠n)(h:CSpec P c s (.ext m) t):CSpec P (.block n c) s (.ext m) t:=by
 intro Ow Im0 w0 a w hS;refine wp_block (wp_mono (h Ow Im0 w0 a w hS) ?_);rintro e a' w' ⟨rfl,hS'⟩;show(if m=n then _ else _);rw[if_neg hmn];exact⟨rfl,hS'⟩
theorem ZdD{P:Program}{fn:Func}{b m:Nat}{S:Nat→St}{t:St}(n:Nat)(hb:Z6w b (blkF fn b)=true)(hm:m≠b)(h:∀ i,i<n→CSpec P (rndF fn b) (S i) .nrm (S (i+1)))(hn:CSpec P (rndF fn b) (S n) (.ext m) t):CSpec P (blkF fn b) (S 0) (.ext m) t:=by
 rw[Z6n hb];exact ZjX hm (Zeu (ZdK n h (fun h=>nomatch h) hn))
def fdV(h:Heap)(a k:Int):Int:=(loadA h.W (a+1+k)).1
def pbad(h:Heap)(all:List Int)(a k:Int):Bool:=(fdV h a k != 0)&&!decide (fdV h a k∈all)
theorem pbad_yes{h:Heap}{all:List Int}{a k:Int}:pbad h all a k=true↔¬ fdV h a k=0∧¬ fdV h a k∈all:=by simp[pbad]
theorem pbad_no{h:Heap}{all:List Int}{a k:Int}:pbad h all a k=false↔fdV h a k=0∨fdV h a k∈all:=by
 by_cases h1:fdV h a k=0<;>by_cases h2:fdV h a k∈all<;>simp[pbad,h1,h2]
def yJ(a:Int)(P:List Int):Nat→Int
 | 0=>0
 | j+1=>a+1+P.getD j default
def apI(h:Heap)(all:List Int)(i:Nat)(a:Int)(P:List Int)(j:Nat):Tg:=⟨tm 83 [(1,.pt 8001 0 0),(2,.pt 8002 0 0),(3,Z01 all),(5,u64 (yJ a P j)),(7,u64 a),(24,Z01 all),(25,int all.length),(26,int i),(37,Z0l P),(38,int P.length),(39,int j)],[(8002,.box 180 [int 0,int 0,u64 0]),(8001,.box 28 h.cells)],64⟩
section
variable (h:Heap) (all:List Int) (i:Nat) (a:Int) (P:List Int) (j:Nat) (hw:WOk h.W) (hwl:h.W.length≤1048576) (hl:all.length≤1048576) (hs:all.Pairwise (· < ·)) (ha:0≤a∧a≤8192) (hP:P.length≤256) (hk:0≤P.getD j default∧P.getD j default≤256) (hj:j<P.length)
include hw hwl hl hs ha hP hk hj
theorem Zg6(hb:pbad h all a (P.getD j default)=false):CP (rndF (unS Tryz.f170) 2) (apI h all i a P j).st .nrm (apI h all i a P (j+1)).st:=by
 have ey:yJ a P (j+1)=a+1+P.getD j default:=rfl;have hb':=pbad_no.1 hb;unfold fdV at hb';clear hb;generalize hy:yJ a P (j+1)=y1 at ey;unfold apI;rw[hy];rcases hb' with hb | hb
 ·exact sF [] (fO 5) (Ftb 40 (decide ((↑j:Int)<(↑P.length:Int))) (Fek 41 idv P (↑j) j (Fv 44 (a+1) (Fv 46 (P.getD j default) (Fv 47 (a+1+P.getD j default) (Fc 52 (@Z6N h.W (a+1+P.getD j default) aa oq) (Fc 58 (@bsearch all ((loadA h.W (a+1+P.getD j default)).fst) aa aa) (Ffb 66 ((loadA h.W (a+1+P.getD j default)).fst != 0&&!decide ((loadA h.W (a+1+P.getD j default)).fst∈all)) (Fx 67 j (Fa ‹a+1+P.getD j default=y1› Fz))))))))))
 ·exact sF [] (fO 5) (Ftb 40 (decide ((↑j:Int)<(↑P.length:Int))) (Fek 41 idv P (↑j) j (Fv 44 (a+1) (Fv 46 (P.getD j default) (Fv 47 (a+1+P.getD j default) (Fc 52 (@Z6N h.W (a+1+P.getD j default) aa oq) (Fc 58 (@bsearch all ((loadA h.W (a+1+P.getD j default)).fst) aa aa) (Ffs 66 ((loadA h.W (a+1+P.getD j default)).fst != 0&&!decide ((loadA h.W (a+1+P.getD j default)).fst∈all)) (Fx 67 j (Fa ‹a+1+P.getD j default=y1› Fz))))))))))
theorem Zmr(hb:pbad h all a (P.getD j default)=true):CP (rndF (unS Tryz.f170) 2) (apI h all i a P j).st (.ext 0) (Tg.st ⟨tm 83 [(1,.pt 8001 0 0),(2,.pt 8002 0 0),(5,u64 (a+1+P.getD j default))],[(8002,.box 180 [int 0,int 0,u64 0]),(8001,.box 28 h.cells)],68⟩):=by
 obtain⟨hb1,hb2⟩:=pbad_yes.1 hb;unfold fdV at hb1 hb2;clear hb;exact sF [] [] (Ftb 40 (decide ((↑j:Int)<(↑P.length:Int))) (Fek 41 idv P (↑j) j (Fv 44 (a+1) (Fv 46 (P.getD j default) (Fv 47 (a+1+P.getD j default) (Fc 52 (@Z6N h.W (a+1+P.getD j default) aa oq) (Fc 58 (@bsearch all ((loadA h.W (a+1+P.getD j default)).fst) aa aa) (Fts 66 ((loadA h.W (a+1+P.getD j default)).fst != 0&&!decide ((loadA h.W (a+1+P.getD j default)).fst∈all)) Fz))))))))
end
theorem ZoL(h:Heap)(all:List Int)(i:Nat)(a:Int)(P:List Int):CP (rndF (unS Tryz.f170) 2) (apI h all i a P P.length).st (.ext 2) (Tg.st ⟨tm 83 [(1,.pt 8001 0 0),(2,.pt 8002 0 0),(3,Z01 all),(24,Z01 all),(25,int all.length),(26,int i)],[(8002,.box 180 [int 0,int 0,u64 0]),(8001,.box 28 h.cells)],68⟩):=by
 exact sF [] [] (Ffb 40 (decide ((↑P.length:Int)<(↑P.length:Int))) Fz)
theorem Zn6(h:Heap)(all:List Int)(i:Nat)(a:Int)(P:List Int)(hw:WOk h.W)(hwl:h.W.length≤1048576)(hl:all.length≤1048576)(hs:all.Pairwise (· < ·))(ha:0≤a∧a≤8192)(hP:P.length≤256)(hk:∀ k∈P,0≤k∧k≤256)(hf:P.find? (pbad h all a)=none) :
  CP (blkF (unS Tryz.f170) 2) (Tg.st ⟨tm 83 [(1,.pt 8001 0 0),(2,.pt 8002 0 0),(3,Z01 all),(5,u64 0),(7,u64 a),(24,Z01 all),(25,int all.length),(26,int i),(37,Z0l P),(38,int P.length),(39,int 0)],[(8002,.box 180 [int 0,int 0,u64 0]),(8001,.box 28 h.cells)],64⟩) .nrm (Tg.st ⟨tm 83 [(1,.pt 8001 0 0),(2,.pt 8002 0 0),(3,Z01 all),(24,Z01 all),(25,int all.length),(26,int i)],[(8002,.box 180 [int 0,int 0,u64 0]),(8001,.box 28 h.cells)],68⟩) :=
 Z07 (S:=fun j=>(apI h all i a P j).st) P.length kr (fun j hj=>Zg6 h all i a P j hw hwl hl hs ha hP (hk _ (getD_mem_iff.2 ⟨j,hj,rfl⟩)) hj (Z6B hf j hj)) (ZoL h all i a P)
theorem Zm0(h:Heap)(all:List Int)(i:Nat)(a:Int)(P:List Int)(x:Int)(hw:WOk h.W)(hwl:h.W.length≤1048576)(hl:all.length≤1048576)(hs:all.Pairwise (· < ·))(ha:0≤a∧a≤8192)(hP:P.length≤256)(hk:∀ k∈P,0≤k∧k≤256)(hf:P.find? (pbad h all a)=some x) :
  CP (blkF (unS Tryz.f170) 2) (Tg.st ⟨tm 83 [(1,.pt 8001 0 0),(2,.pt 8002 0 0),(3,Z01 all),(5,u64 0),(7,u64 a),(24,Z01 all),(25,int all.length),(26,int i),(37,Z0l P),(38,int P.length),(39,int 0)],[(8002,.box 180 [int 0,int 0,u64 0]),(8001,.box 28 h.cells)],64⟩) (.ext 0) (Tg.st ⟨tm 83 [(1,.pt 8001 0 0),(2,.pt 8002 0 0),(5,u64 (a+1+x))],[(8002,.box 180 [int 0,int 0,u64 0]),(8001,.box 28 h.cells)],68⟩):=by
 obtain⟨n,h1,h2,h3,h4⟩:=Z3r hf;subst h2;exact ZdD (S:=fun j=>(apI h all i a P j).st) n kr dd (fun j hj=>Zg6 h all i a P j hw hwl hl hs ha hP (hk _ (getD_mem_iff.2 ⟨j,by omega,rfl⟩)) oq (h4 j hj)) (Zmr h all i a P n hw hwl hl hs ha hP (hk _ (getD_mem_iff.2 ⟨n,h1,rfl⟩)) h1 h3)
def apF(h:Heap)(all:List Int)(a:Int):Option Int:=(Z08 (atH h a).1).find? (pbad h all a)
def apL(h:Heap)(all:List Int)(i:Nat):Tg:=⟨tm 83 [(1,.pt 8001 0 0),(2,.pt 8002 0 0),(3,Z01 all),(5,u64 0),(24,Z01 all),(25,int all.length),(26,int i)],[(8002,.box 180 [int 0,int 0,u64 0]),(8001,.box 28 h.cells)],60⟩
theorem Z7d(h:Header):∀ n:Nat,∀ k∈Z11 h n,0≤k∧k<n
 | 0,k,hk=>by simp[Z11]at hk
 | n+1,k,hk=>by
  unfold Z11 at hk;split at hk
  ·rcases List.mem_append.1 hk with hk | hk
   ·have:=Z7d h n k hk;omega
   ·simp only[List.mem_cons,List.not_mem_nil,or_false]at hk;omega
  ·have:=Z7d h n k hk;omega
theorem Z4l(h:Header):(Z08 h).length≤256∧∀ k∈Z08 h,0≤k∧k≤256:=by
 rw[← Z7B];have hs:=Z1b h;have h1:=Z46 h (sizeH h).toNat
 exact⟨by omega,fun k hk=>by have:=Z7d h _ k hk;omega⟩
section
variable (h:Heap) (all:List Int) (i:Nat) (hw:WOk h.W) (hwl:h.W.length≤1048576) (hl:all.length≤1048576) (hs:all.Pairwise (· < ·)) (hr:∀ x∈all,0≤x∧x≤8192) (hi:i<all.length)
include hw hwl hl hs hr hi
theorem Zjb(hb:apF h all (all.getD i default)=none):CP (rndF (unS Tryz.f170) 0) (apL h all i).st .nrm (apL h all (i+1)).st:=by
 have hx:=hr (all.getD i default) (getD_mem_iff.2 ⟨i,hi,rfl⟩);have hm:=Z3e hw (all.getD i default);have hq:=Z4l (atH h (all.getD i default)).1;have hq1:=hq.1;have hq2:=hq.2;unfold apF at hb;let y0:=all.getD i default;let y1:=Z08 (atH h y0).fst;exact sF [] [] (Fk (2,Tg.mk (tm 83 [(1,AV.pt 8001 0 0),(2,AV.pt 8002 0 0),(3,Z01 all),(5,u64 0),(7,u64 y0),(24,Z01 all),(25,int ↑all.length),(26,int ↑i),(37,Z0l y1),(38,int (↑y1.length:Int)),(39,int 0)]) [(8002,Blk.box 180 [int 0,int 0,u64 0]),(8001,Blk.box 28 h.cells)] 64,Ex.nrm,Tg.mk (tm 83 [(1,AV.pt 8001 0 0),(2,AV.pt 8002 0 0),(3,Z01 all),(24,Z01 all),(25,int ↑all.length),(26,int ↑i)]) [(8002,Blk.box 180 [int 0,int 0,u64 0]),(8001,Blk.box 28 h.cells)] 68) (Ftb 27 (decide ((↑i:Int)<(↑all.length:Int))) (Fek 28 wdv all (↑i) i (Fc 33 (@Z3F h y0 aa oq) (Fc 37 (@Z5y ((atH h y0).fst) aa) (Fl 38 idv y1 (Fa (@Zn6 h all i y0 y1 aa aa aa aa aa aa aa aa) (Fx 68 i Fz))))))))
theorem ZnN(x:Int)(hb:apF h all (all.getD i default)=some x):CP (rndF (unS Tryz.f170) 0) (apL h all i).st (.ext 0) (Tg.st ⟨tm 83 [(1,.pt 8001 0 0),(2,.pt 8002 0 0),(5,u64 (all.getD i default+1+x))],[(8002,.box 180 [int 0,int 0,u64 0]),(8001,.box 28 h.cells)],72⟩):=by
 have hx:=hr (all.getD i default) (getD_mem_iff.2 ⟨i,hi,rfl⟩);have hm:=Z3e hw (all.getD i default);have hq:=Z4l (atH h (all.getD i default)).1;have hq1:=hq.1;have hq2:=hq.2;unfold apF at hb;let y0:=all.getD i default;let y1:=Z08 (atH h y0).fst;exact sF [] [] (Fk (2,Tg.mk (tm 83 [(1,AV.pt 8001 0 0),(2,AV.pt 8002 0 0),(3,Z01 all),(5,u64 0),(7,u64 y0),(24,Z01 all),(25,int ↑all.length),(26,int ↑i),(37,Z0l y1),(38,int (↑y1.length:Int)),(39,int 0)]) [(8002,Blk.box 180 [int 0,int 0,u64 0]),(8001,Blk.box 28 h.cells)] 64,Ex.ext 0,Tg.mk (tm 83 [(1,AV.pt 8001 0 0),(2,AV.pt 8002 0 0),(5,u64 (all.getD i default+1+x))]) [(8002,Blk.box 180 [int 0,int 0,u64 0]),(8001,Blk.box 28 h.cells)] 68) (Ftb 27 (decide ((↑i:Int)<(↑all.length:Int))) (Fek 28 wdv all (↑i) i (Fc 33 (@Z3F h y0 aa oq) (Fc 37 (@Z5y ((atH h y0).fst) aa) (Fl 38 idv y1 (Fa (@Zm0 h all i y0 y1 x aa aa aa aa aa aa aa aa) Fz)))))))
end
theorem Zqh(h:Heap)(all:List Int):CP (rndF (unS Tryz.f170) 0) (apL h all all.length).st (.ext 0) (Tg.st ⟨tm 83 [(1,.pt 8001 0 0),(2,.pt 8002 0 0),(5,u64 0)],[(8002,.box 180 [int 0,int 0,u64 0]),(8001,.box 28 h.cells)],72⟩):=by
 exact sF [] [] (Ffb 27 (decide ((↑all.length:Int)<(↑all.length:Int))) Fz)
def ZoP(h:Heap)(all:List Int)(hw:WOk h.W)(hwl:h.W.length≤1048576)(hl:all.length≤1048576)(hs:all.Pairwise (· < ·))(hr:∀ x∈all,0≤x∧x≤8192)(hf:all.find? (fun a=>(apF h all a).isSome)=none)  := Z07 (S:=fun i=>(apL h all i).st) all.length (by kernel_rfl) (fun i hi=>Zjb h all i hw hwl hl hs hr hi (by simpa using Z6B hf i hi)) (Zqh h all)
theorem ZmL(h:Heap)(all:List Int)(a x:Int)(hw:WOk h.W)(hwl:h.W.length≤1048576)(hl:all.length≤1048576)(hs:all.Pairwise (· < ·))(hr:∀ x∈all,0≤x∧x≤8192)(hf:all.find? (fun a=>(apF h all a).isSome)=some a)(hx:apF h all a=some x):CP (blkF (unS Tryz.f170) 0) (Tg.st ⟨tm 83 [(1,.pt 8001 0 0),(2,.pt 8002 0 0),(3,Z01 all),(5,u64 0),(24,Z01 all),(25,int all.length),(26,int 0)],[(8002,.box 180 [int 0,int 0,u64 0]),(8001,.box 28 h.cells)],60⟩) .nrm (Tg.st ⟨tm 83 [(1,.pt 8001 0 0),(2,.pt 8002 0 0),(5,u64 (a+1+x))],[(8002,.box 180 [int 0,int 0,u64 0]),(8001,.box 28 h.cells)],72⟩):=by
 obtain⟨n,h1,h2,h3,h4⟩:=Z3r hf;subst h2;exact Z07 (S:=fun i=>(apL h all i).st) n kr (fun i hi=>Zjb h all i hw hwl hl hs hr oq (by simpa using h4 i hi)) (ZnN h all n hw hwl hl hs hr h1 x hx)
theorem Zq6(h:Heap):CP (firS (unS Tryz.f170)) (Tg.st ⟨tm 83 [(0,h.av)],[],1⟩) .nrm (Tg.st ⟨tm 83 [(1,.pt 8001 0 0),(2,.pt 8002 0 0)],[(8002,.box 180 [int 0,int 0,u64 0]),(8001,.box 28 h.cells)],20⟩):=by
 exact sF [] [] Fz
def apAt(h:Heap):Int:=match (Z04 h).1.find? (fun a=>(apF h (Z04 h).1 a).isSome)with
 | some a=>a+1+(apF h (Z04 h).1 a).getD 0
 | none=>0
def apW(h:Heap):Finding:=if apAt h=0 then⟨0,0,0⟩else⟨6,(ofA h.C (apAt h)).1,apAt h⟩
theorem Zq4(h:Heap)(hw:WOk h.W)(hwl:h.W.length≤1048576):CP (bdyS (unS Tryz.f170)) (Tg.st ⟨tm 83 [(1,.pt 8001 0 0),(2,.pt 8002 0 0)],[(8002,.box 180 [int 0,int 0,u64 0]),(8001,.box 28 h.cells)],20⟩) .ret (Tg.st ⟨tm 83 [(2,.pt 8002 0 0)],[(8002,.box 180 [int (apW h).fault,int (apW h).page,u64 (apW h).addr])],90⟩):=by
 have hl:=Z2w h;have hs:=ZdU h;have hr:=Z3R h;cases hf:(Z04 h).1.find? (fun a=>(apF h (Z04 h).1 a).isSome)with
 | none =>
  have e1:apAt h=0:=by simp only[apAt,hf]
  have e7:apW h=⟨0,0,0⟩:=if_pos e1;rw[e7];exact sF [] [] (Fk (0,Tg.mk (tm 83 [(1,AV.pt 8001 0 0),(2,AV.pt 8002 0 0),(3,Z01 (Z04 h).fst),(5,u64 0),(24,Z01 (Z04 h).fst),(25,int (↑(Z04 h).fst.length:Int)),(26,int 0)]) [(8002,Blk.box 180 [int 0,int 0,u64 0]),(8001,Blk.box 28 h.cells)] 60,Ex.nrm,Tg.mk (tm 83 [(1,AV.pt 8001 0 0),(2,AV.pt 8002 0 0),(5,u64 0)]) [(8002,Blk.box 180 [int 0,int 0,u64 0]),(8001,Blk.box 28 h.cells)] 72) (Fc 21 (@Z5S h aa) (Fl 25 wdv (Z04 h).fst (Fa (@ZoP h ((Z04 h).fst) aa aa oq aa aa aa) Fz))))
 | some a =>
  obtain⟨n,h1,h2,h3,h4⟩:=Z3r hf;obtain⟨x,hx⟩:=Option.isSome_iff_exists.1 h3;have ha:=hr a (getD_mem_iff.2 ⟨n,h1,h2⟩);have hxr:=(Z4l (atH h a).1).2 x (List.mem_of_find?_eq_some hx);have e1:apAt h=a+1+x:=by simp only[apAt,hf,hx,Option.getD_some]
  have e7:apW h=⟨6,(ofA h.C (a+1+x)).1,a+1+x⟩:=by rw[apW,e1,if_neg oq]
  rw[e7];exact sF [] [] (Fk (0,Tg.mk (tm 83 [(1,AV.pt 8001 0 0),(2,AV.pt 8002 0 0),(3,Z01 (Z04 h).fst),(5,u64 0),(24,Z01 (Z04 h).fst),(25,int (↑(Z04 h).fst.length:Int)),(26,int 0)]) [(8002,Blk.box 180 [int 0,int 0,u64 0]),(8001,Blk.box 28 h.cells)] 60,Ex.nrm,Tg.mk (tm 83 [(1,AV.pt 8001 0 0),(2,AV.pt 8002 0 0),(5,u64 (a+1+x))]) [(8002,Blk.box 180 [int 0,int 0,u64 0]),(8001,Blk.box 28 h.cells)] 72) (Fc 21 (@Z5S h aa) (Fl 25 wdv (Z04 h).fst (Fa (@ZmL h ((Z04 h).fst) a x aa aa oq aa aa aa aa) (Ffb 70 (a+1+x==0) (Fc 76 (@Z29 h.C (a+1+x) oq oq) Fz))))))
end Go.Proofs.YtdhchmlalchgeaaGreat
namespace Go.Proofs.YtdhchmlalchgeaaGreat
open Go.Sx Go.RowKit
def Finding.val(f:Finding):Value:=.agg #[.int .i64 f.fault,.int .i64 f.page,.int .u64 f.addr]
theorem ZdZ(ρ:Rho)(w:World)(Im:Nat→Prop)(f:Finding):Rel ρ w Im f.av f.val:=by
 refine .ag _ _ rfl (fun i v h=>?_) (fun i a v ha hv=>?_)
 ·rcases i with _ | _ | _ | i<;>simp at h<;>subst h<;>rfl
 ·rcases i with _ | _ | _ | i<;>simp at ha hv<;>subst ha<;>subst hv<;>exact .d (.sc _ rfl)
theorem ZgD{ρ:Rho}{w:World}{Im:Nat→Prop}{f:Finding}{v:Value}(h:Rel ρ w Im f.av v):v=f.val:=by
 obtain⟨cs,h1,h2,h3,h4⟩:=Z2N h;rw[h1];have g:∀ (k:Nat) (hk:k<cs.size) (v:Value),[int f.fault,int f.page,u64 f.addr][k]? = some (.d (.sc v))→cs[k]=v:=fun k hk v hv=>Z0H (h4 k _ cs[k] hv (Array.getElem?_eq_getElem hk));have hs:cs.size=3:=h2;simp only[Finding.val];congr 1;apply Array.ext
 ·simp[hs]
 ·intro k hk _;rcases k with _ | _ | _ | k
  ·exact g 0 hk _ rfl
  ·exact g 1 hk _ rfl
  ·exact g 2 hk _ rfl
  ·omega
theorem noGoto_ret{Q:Exit→Act→World→Prop}{a:Act}{w:World}(h:Q .ret a w):Exit.noGoto Q Ex.ret.exit a w:=h
theorem Z49(h:Heap)(hw:WOk h.W)(hwl:h.W.length≤1048576):GP 170 [h.av] true (apW h).av []:=by
 intro w00 Im vs hIm hsz hargs;have hs1:vs.size=1:=hsz;have hbody:Tryz.f170.body=some (.seq (firS (unS Tryz.f170)) (.scope (bdyS (unS Tryz.f170)))):=by kernel_rfl
 refine calls_of_wp Tryz.func170 hbody ?_;have S0:Sx.Sys Z3V Im w00 (tm 83 [(0,h.av)]) (hOf []) 1 { tmps:=vs++Array.replicate (Tryz.f170.ntmps-vs.size) undef,defers:=[] } w00:=by
  refine⟨_,Im,Sx.Inv.empty hIm (Nat.le_refl 1),⟨by rw[hs1];simp[hs1];kernel_rfl,fun k y v hy hv=>?_,rfl⟩⟩;rw[show tm 83 [(0,h.av)]=[h.av]++List.replicate 82 .any from by kernel_rfl,List.getElem?_append]at hy;rw[Array.getElem?_append]at hv;split at hy
  ·rename_i hk;rw[if_pos (by rw[hsz];exact hk)]at hv;exact hargs k y v hy hv
  ·have:=List.mem_of_getElem? hy;rw[(List.mem_replicate.1 this).2];exact .any _
 refine wp_seq (wp_mono (Zq6 h _ _ _ _ _ S0) ?_);rintro e a1 w1 ⟨rfl,S1⟩;refine wp_scope_straight (wp_mono (Zq4 h hw hwl _ _ _ _ _ S1) ?_);rintro e a2 w2 ⟨rfl,ρ2,Im2,I2,T2⟩;obtain⟨v,hv1,hv2⟩:=Z5j (P:=Tryz.prog) (fn:=Tryz.f170) (l:=[(apW h).av]) I2 T2 kr;refine noGoto_ret (bodyPost_ret hv1 T2.defers ⟨v,rfl,I2.kept.no,fun _=>none,fun _=>False,fun _ q=>q.elim,fun _ q=>q.elim,fun _ _ _ q=>(by cases q),fun _ _ _ _ _ q=>(by cases q),fun _ _ q=>(by cases q),fun k B q=>by simp at q, ?_⟩);rw[ZgD (show Rel ρ2 w2 Im2 (apW h).av v from hv2)];exact ZdZ _ _ _ _
end Go.Proofs.YtdhchmlalchgeaaGreat
namespace Go.Proofs.YtdhchmlalchgeaaGreat
open Go.Sx
theorem Zke{c:List Int}{x k:Int}(hk:0≤k){o:Nat}(ho:o<c.length):(clrW c x k).getD o 0=if x≤o∧(o:Int)<x+k then 0 else c.getD o 0:=by
 have h1:loC c x≤c.length:=ZeX c x;have h2:loC c (x+k)≤c.length:=ZeX c (x+k);have h3:=Zg2 c x hk;have e1:loC c x+(loC c (x+k)-loC c x)=loC c (x+k):=by omega
 have a1:o<loC c x↔(o:Int)<x:=by unfold loC;omega
 have a2:o<loC c (x+k)↔(o:Int)<x+k:=by unfold loC;omega
 unfold clrW;rw[e1];simp only[List.getD_eq_getElem?_getD];by_cases h4:o<loC c x
 ·rw[List.append_assoc,List.getElem?_append_left qo,List.getElem?_take,if_pos h4,if_neg (by have:=a1.1 h4;omega)]
 ·by_cases h5:o<loC c (x+k)
  ·rw[List.getElem?_append_left qo,List.getElem?_append_right qo,if_pos (by have:=a2.1 h5;omega)];rw[List.getElem?_replicate,if_pos qo];rfl
  ·rw[List.getElem?_append_right qo,List.getElem?_drop,if_neg (fun q=>h5 (a2.2 q.2))];congr 2;simp;omega
theorem ZiJ{h:Heap}{F:Int}{l c:List Int}{o:Nat}(ho:o<c.length):∀ n:Nat,n≤l.length→(cwN h F l c n).getD o 0=if(l.take n).any (fun a=>decide (a-F≤o)&&decide ((o:Int)<a-F+Z47 h a))=true then 0 else c.getD o 0
 | 0,_=>by simp[cwN]
 | n+1,hn=>by
  have hl:=Z9m h F l c n;rw[cwN,Zke (Z8j h _).1 oq,ZiJ ho n oq,Z8k oq,List.any_append];generalize l.getD n default=a;generalize (l.take n).any _=b;by_cases h1:a-F≤o∧(o:Int)<a-F+Z47 h a
  ·rw[if_pos h1,if_pos (by simp[h1])]
  ·rw[if_neg h1];have:([a].any fun a=>decide (a-F≤(o:Int))&&decide ((o:Int)<a-F+Z47 h a))=false:=by
    simp only[List.any_cons,List.any_nil,Bool.or_false,Bool.and_eq_false_iff,decide_eq_false_iff_not];omega
   rw[this,Bool.or_false]
theorem ZaK{h:Heap}(hp:Z02 h=true){i:Nat}(hi:i<h.P.length){o:Int}(ho:0≤o∧o<h.C.pw):(address h.C i o).1=4096+(i*h.C.pw+o):=by
 have po:=Z09 hp;unfold address;rw[if_pos po.1,if_pos (inB_iff.2 oq)]
theorem ZdB{h:Heap}(hp:Z02 h=true){i:Nat}(hi:i<h.P.length):0≤(i:Int)*h.C.pw∧(i:Int)*h.C.pw+h.C.pw≤h.W.length:=by
 have po:=Z09 hp;have h1:((i:Int)+1)*h.C.pw≤h.C.pg*h.C.pw:=Int.mul_le_mul_of_nonneg_right oq oq;have h2:((i:Int)+1)*h.C.pw=i*h.C.pw+h.C.pw:=by rw[Int.add_mul,Int.one_mul]
 have h3:h.C.pg*h.C.pw=h.C.pw*h.C.pg:=Int.mul_comm _ _;have h4:(0:Int)≤i*h.C.pw:=Int.mul_nonneg oq oq;omega
theorem Zkt{h:Heap}(hp:Z02 h=true){i:Nat}(hi:i<h.P.length):(rawP h i).length=h.C.pw.toNat∧∀ o:Nat,o<h.C.pw.toNat→(rawP h i).getD o 0=Z3T h i o:=by
 have po:=Z09 hp;have pi:=ZdB hp hi;have e0:=ZaK hp hi (o:=0) oq;constructor
 ·simp only[rawP,List.length_take,List.length_drop];omega
 ·intro o ho;have e1:=ZaK hp hi (o:=o) oq;unfold Z3T loadA;rw[e1];rw[if_pos oq];simp only[rawP,List.getD_eq_getElem?_getD,List.getElem?_take,List.getElem?_drop,if_pos ho];rw[e0,show(4096+((i:Int)*h.C.pw+0)-4096).toNat+o=(4096+((i:Int)*h.C.pw+(o:Int))-4096).toNat from by omega]
theorem ZbX{h:Heap}(hp:Z02 h=true){i:Nat}(hi:i<h.P.length):(clrP h i).length=h.C.pw.toNat∧∀ o:Nat,o<h.C.pw.toNat→(clrP h i).getD o 0=if(Z24 h i).getD o default=true then 0 else Z3T h i o:=by
 have po:=Z09 hp;obtain⟨r1,r2⟩:=Zkt hp hi;constructor
 ·rw[clrP,Z9m,r1]
 ·intro o ho;rw[clrP,ZiJ oq _ (Nat.le_refl _),List.take_length,r2 o ho];have e0:=ZaK hp hi (o:=0) oq;have e:(Z24 h i).getD o default=(Z06 h (Z0u h.P i:Nat)).1.any (fun a=>decide (a-(address h.C i 0).1≤(o:Int))&&decide ((o:Int)<a-(address h.C i 0).1+Z47 h a)):=by
   unfold Z24 Z1z;rw[List.getD_eq_getElem?_getD,List.getElem?_map,List.getElem?_range ho];simp only[Option.map_some,Option.getD_some];congr 1;funext a
   unfold Z9c;rw[e0,show a-(4096+((i:Int)*h.C.pw+0))=a-4096-i*h.C.pw from by omega]
  rw[e]
theorem ZfK{h:Heap}(hp:Z02 h=true){i:Nat}(hi:i<h.P.length)(e:fstW (clrP h i)<(clrP h i).length):Z2C h i (Z24 h i)=4096+i*h.C.pw+fstW (clrP h i):=by
 obtain⟨c1,c2⟩:=ZbX hp hi;have hu:=Z6i h i;have hf:(List.range (Z24 h i).length).find? (badD h i (Z24 h i))=some (fstW (clrP h i)):=by
  rw[List.find?_range_eq_some];refine⟨?_,List.mem_range.2 oq,fun j hj=>?_⟩
  ·have h1:=ZfX e;rw[show(default:Int)=0 from rfl,c2 _ oq]at h1;split at h1
   ·exact absurd rfl h1
   ·rename_i h2;simp only[badD,Bool.and_eq_true,Bool.not_eq_true',decide_eq_true_eq];exact⟨by simpa using h2,h1⟩
  ·have h1:=(Zbf hj).2;rw[show(default:Int)=0 from rfl,c2 _ oq]at h1;simp only[badD,Bool.not_and,Bool.not_not,Bool.or_eq_true,Bool.not_eq_true',decide_eq_false_iff_not];split at h1
   ·rename_i h2;exact .inl h2
   ·exact .inr (fun q=>q h1)
 unfold Z2C;rw[hf]
theorem ZoB{h:Heap}(hp:Z02 h=true){i:Nat}(hi:i<h.P.length)(e:¬ fstW (clrP h i)<(clrP h i).length):Z2C h i (Z24 h i)=0:=by
 obtain⟨c1,c2⟩:=ZbX hp hi;have hu:=Z6i h i;have hf:(List.range (Z24 h i).length).find? (badD h i (Z24 h i))=none:=by
  rw[List.find?_eq_none];intro j hj;have hj:=List.mem_range.1 hj;have h1:=(Zbf (l:=clrP h i) (m:=j) oq).2;rw[show(default:Int)=0 from rfl,c2 _ oq]at h1;simp only[badD,Bool.and_eq_true,Bool.not_eq_true',decide_eq_true_eq,not_and];intro h2 h3;rw[if_neg (by rw[h2];simp)]at h1;exact h3 h1
 unfold Z2C;rw[hf]
theorem Z79{h:Heap}(hp:Z02 h=true){i:Nat}(hi:i<h.P.length):Z1O h i (Z06 h i).1=decide (Z12 h i (Z06 h i).1≠0):=by
 unfold Z12 Z1O;cases hf:(Z06 h i).1.find? (Z1o h i)with
 | none=>simp
 | some x =>
  have hx:=List.mem_of_find?_eq_some hf;have e:=Z7c hp (i:=i) oq;rw[e]at hx;obtain⟨y,hy,rfl⟩:=List.mem_map.1 hx;have h1:=(Z55 y hy).1;have h2:=(ZdB hp hi).1;have:y.addr≠0:=by omega
  simp[this]
theorem find_congr{α:Type}{p q:α→Bool}:∀ {l:List α},(∀ x∈l,p x=q x)→l.find? p=l.find? q
 | [],_=>rfl
 | a::l,h=>by
  rw[List.find?_cons,List.find?_cons,h a pq,find_congr (l:=l) (fun x hx=>h x (by simp[hx]))]
theorem find_range{l:List Int}{p:Int→Bool}:match (List.range l.length).find? (fun i=>p (l.getD i default))with | none=>l.find? p=none | some i=>l.find? p=some (l.getD i default):=by
 split
 ·rename_i hb;rw[List.find?_eq_none]at hb ⊢;intro x hx;obtain⟨i,hi,e⟩:=getD_mem_iff.1 hx;have:=hb i (List.mem_range.2 hi);rwa [e]at this
 ·rename_i i hb;obtain⟨h1,h2,h3⟩:=List.find?_range_eq_some.1 hb;have h2:=List.mem_range.1 h2;cases hf:l.find? p with
  | none =>
   have:=List.find?_eq_none.1 hf (l.getD i default) (getD_mem_iff.2 ⟨i,h2,rfl⟩);exact absurd h1 this
  | some x =>
   obtain⟨n,k1,k2,k3,k4⟩:=Z3r hf;have hn:n=i:=by
    rcases Nat.lt_trichotomy n i with q | q | q
    ·have:=h3 n q;rw[k2,k3]at this;cases this
    ·exact q
    ·have:=k4 i q;rw[h1]at this;cases this
   subst hn;rw[k2]
theorem Z8Y{h:Heap}{a:Int}(ha:a∈(Z04 h).1):(atH h a).2=0∧(atH h a).1.K≠0:=by
 by_cases e:(allW h).2=0
 ·rw[Ziz h e]at ha;obtain⟨x,hx,rfl⟩:=List.mem_map.1 ha;obtain⟨h1,h2⟩:=List.mem_filter.1 hx;obtain⟨h3,h4⟩:=Zi3 x h1;refine⟨h4, ?_⟩;rw[← h3];simpa[Z2i]using h2
 ·rw[Zg9 h e]at ha;simp at ha
theorem Z68(hd:Header):∀ n:Nat,Z11 hd n=((List.range n).filter (fun k:Nat=>Z0e hd k)).map (fun k:Nat=>(k:Int))
 | 0=>rfl
 | n+1=>by
  rw[Z11,List.range_succ,List.filter_append,List.map_append,← Z68 hd n];by_cases h:Z0e hd (n:Int)=true
  ·rw[if_pos h];simp[h]
  ·rw[if_neg h];simp[h]
def ptrF(h:Heap)(all:List Int)(a:Int):Option Nat:=(List.range (Z13 h a).1.length).find? (ZaY (getH h a).1 (Z13 h a).1 all)
theorem ZpS{h:Heap}{a:Int}(e:(atH h a).2=0)(hk:(atH h a).1.K≠0)(all:List Int):apF h all a=(ptrF h all a).map (fun k:Nat=>(k:Int)):=by
 have i1:=Zic e;have i2:=(Zgd e).1;have g1:getH h a=atH h a:=by
  unfold getH;rw[if_pos i2,if_neg oq,if_neg (fun q=>hk q.2)]
 have g2:=Z4B (h:=h) (a:=a) (by rw[g1];exact e);rw[g1]at g2;have hv:=g2.2.2.2.2.2.2.1;have hl:=g2.2.2.2.2.2.2.2.2.2;have f1:(Z13 h a).1=(h.W.drop (a+1-4096).toNat).take (atH h a).1.length.toNat:=by
  unfold Z13;rw[g1,if_pos e,Z1p,if_neg oq,if_pos oq]
 have fl:(Z13 h a).1.length=(atH h a).1.length.toNat:=by
  rw[f1,List.length_take,List.length_drop];omega
 have fg:∀ k:Nat,k<(atH h a).1.length.toNat→(Z13 h a).1.getD k default=fdV h a k:=by
  intro k hk;unfold fdV loadA;rw[if_pos oq,f1];simp only[List.getD_eq_getElem?_getD,List.getElem?_take,List.getElem?_drop,if_pos hk];rw[show(a+1-4096).toNat+k=(a+1+(k:Int)-4096).toNat from by omega];rfl
 unfold apF ptrF Z08;rw[if_pos hv,Z68,List.find?_map,List.find?_filter,fl,g1];congr 1;refine find_congr fun k hk=>?_;have hk:=List.mem_range.1 hk;rw[ZaY,fg k hk];simp only[Function.comp,pbad];cases Z0e (atH h a).1 (k:Int)<;>simp
theorem Zpx(h:Heap):apW h=Z10 h (Z04 h).1:=by
 have hr:=find_range (l:=(Z04 h).1) (p:=fun a=>(ptrF h (Z04 h).1 a).isSome);have hc:(Z04 h).1.find? (fun a=>(apF h (Z04 h).1 a).isSome)=(Z04 h).1.find? (fun a=>(ptrF h (Z04 h).1 a).isSome):=find_congr fun a ha=>by
  rw[ZpS (Z8Y ha).1 (Z8Y ha).2,Option.isSome_map]
 unfold apW apAt Z10;rw[hc];change match (List.range (Z04 h).1.length).find? (fun i=>(Z2r h (Z04 h).1 i).isSome)with | none=>_ | some i=>_ at hr
 split at hr
 ·rename_i hb;rw[hr,hb];rfl
 ·rename_i i hb;have h1:=(List.find?_range_eq_some.1 hb)
  have hm:(Z04 h).1.getD i default∈(Z04 h).1:=getD_mem_iff.2 ⟨i,List.mem_range.1 h1.2.1,rfl⟩;obtain⟨k,hk⟩:=Option.isSome_iff_exists.1 h1.1;have hk':ptrF h (Z04 h).1 ((Z04 h).1.getD i default)=some k:=hk;have i1:=Zic (Z8Y hm).1;rw[hr,hb];simp only[hk,ZpS (Z8Y hm).1 (Z8Y hm).2,hk',Option.map_some,Option.getD_some];rw[if_neg oq]
def apgL(h:Heap)(i:Nat):Tg:=⟨tm 64 [(1,.pt 8001 0 0),(2,.pt 8002 0 0),(12,Z0n h.P),(13,int h.P.length),(14,int i)],[(8002,.box 180 [int 0,int 0,u64 0]),(8001,.box 28 h.cells)],60⟩
def apgE(f:Finding):Tg:=⟨tm 64 [(2,.pt 8002 0 0)],[(8002,.box 180 [int f.fault,int f.page,u64 f.addr])],64⟩
section
variable (h:Heap) (i:Nat) (hw:WOk h.W) (hp:Z02 h=true) (hi:i<h.P.length)
include hw hp hi
theorem ZpX(e:Z2C h i (Z24 h i)=0):idxW (clrP h i)=-1:=by
 by_cases hc:fstW (clrP h i)<(clrP h i).length
 ·have h1:=ZfK hp hi hc;have h2:=(ZdB hp hi).1;omega
 ·exact if_neg hc
theorem Zn1(e:¬ Z2C h i (Z24 h i)=0):0≤idxW (clrP h i)∧idxW (clrP h i)≤64∧Z2C h i (Z24 h i)=(address h.C i 0).1+idxW (clrP h i):=by
 have po:=Z09 hp;by_cases hc:fstW (clrP h i)<(clrP h i).length
 ·have h1:=ZfK hp hi hc;have h2:idxW (clrP h i)=fstW (clrP h i):=if_pos hc;have h3:=ZaK hp hi (o:=0) oq;have h4:=(ZbX hp hi).1;rw[h1,h2,h3];omega
 ·exact absurd (ZoB hp hi hc) e
theorem Zf1(n1:(h.P.getD i default).K=0∨(h.P.getD i default).S=h.S)(n2:(Z06 h (i:Int)).2=0)(n3:Z12 h (i:Int) (Z06 h (i:Int)).1=0)(n4:Z2C h i (Z24 h i)=0):CP (rndF Tryz.f169 0) (apgL h i).st .nrm (apgL h (i+1)).st:=by
 have po:=Z09 hp;have hn:=Z2D h (i:Int);have hr:=Z2t hp (i:Int);have q3:=Z79 hp hi;rw[n3]at q3;have q4:=ZpX h i hw hp hi n4;simp only[ne_eq,not_true_eq_false,decide_false]at q3;rcases n1 with n1 | n1
 ·exact sF [] [] (Fh 48 [.br false] (Fh 58 [.br false] (Ftb 15 (decide ((↑i:Int)<(↑h.P.length:Int))) (Fek 17 Page.dv h.P (↑i) i (Ffb 28 ((h.P.getD i default).K != 0&&(h.P.getD i default).S != h.S) (Fc 34 (@Z3g h ((↑i:Int)) aa oq) (Ffb 38 ((Z06 h (↑i:Int)).snd != 0) (Fc 45 (@Z3m h ((↑i:Int)) ((Z06 h (↑i:Int)).fst) aa oq oq oq aa) (Fa ‹Z1O h (↑i:Int) (Z06 h (↑i:Int)).fst=false› (Fc 55 (@Z6O h i aa aa aa) (Fb (decide (0≤idxW (clrP h i))=false) (Fx 62 i Fz))))))))))))
 ·exact sF [] [] (Fh 48 [.br false] (Fh 58 [.br false] (Ftb 15 (decide ((↑i:Int)<(↑h.P.length:Int))) (Fek 17 Page.dv h.P (↑i) i (Ffb 28 ((h.P.getD i default).K != 0&&(h.P.getD i default).S != h.S) (Fc 34 (@Z3g h ((↑i:Int)) aa oq) (Ffb 38 ((Z06 h (↑i:Int)).snd != 0) (Fc 45 (@Z3m h ((↑i:Int)) ((Z06 h (↑i:Int)).fst) aa oq oq oq aa) (Fa ‹Z1O h (↑i:Int) (Z06 h (↑i:Int)).fst=false› (Fc 55 (@Z6O h i aa aa aa) (Fb (decide (0≤idxW (clrP h i))=false) (Fx 62 i Fz))))))))))))
theorem Zq3(n1:¬ (h.P.getD i default).K=0∧¬ (h.P.getD i default).S=h.S):CP (rndF Tryz.f169 0) (apgL h i).st .ret (apgE ⟨2,i,0⟩).st:=by
 have po:=Z09 hp;obtain⟨n1,n2⟩:=n1;exact sF [] [] (Ftb 15 (decide ((↑i:Int)<(↑h.P.length:Int))) (Fek 17 Page.dv h.P (↑i) i (Ftb 28 ((h.P.getD i default).K != 0&&(h.P.getD i default).S != h.S) Fz)))
theorem Zq1(n1:(h.P.getD i default).K=0∨(h.P.getD i default).S=h.S)(n2:¬ (Z06 h (i:Int)).2=0):CP (rndF Tryz.f169 0) (apgL h i).st .ret (apgE ⟨3,i,0⟩).st:=by
 have po:=Z09 hp;rcases n1 with n1 | n1
 ·exact sF [] [] (Ftb 15 (decide ((↑i:Int)<(↑h.P.length:Int))) (Fek 17 Page.dv h.P (↑i) i (Ffb 28 ((h.P.getD i default).K != 0&&(h.P.getD i default).S != h.S) (Fc 34 (@Z3g h ((↑i:Int)) aa oq) (Ftb 38 ((Z06 h (↑i:Int)).snd != 0) Fz)))))
 ·exact sF [] [] (Ftb 15 (decide ((↑i:Int)<(↑h.P.length:Int))) (Fek 17 Page.dv h.P (↑i) i (Ffb 28 ((h.P.getD i default).K != 0&&(h.P.getD i default).S != h.S) (Fc 34 (@Z3g h ((↑i:Int)) aa oq) (Ftb 38 ((Z06 h (↑i:Int)).snd != 0) Fz)))))
theorem Zqg(n1:(h.P.getD i default).K=0∨(h.P.getD i default).S=h.S)(n2:(Z06 h (i:Int)).2=0)(n3:¬ Z12 h (i:Int) (Z06 h (i:Int)).1=0):CP (rndF Tryz.f169 0) (apgL h i).st .ret (apgE ⟨5,i,Z12 h (i:Int) (Z06 h (i:Int)).1⟩).st:=by
 have po:=Z09 hp;have hn:=Z2D h (i:Int);have hr:=Z2t hp (i:Int);have q3:Z1O h i (Z06 h i).1=true:=by rw[Z79 hp hi];simpa using n3
 rcases n1 with n1 | n1
 ·exact sF [] [] (Fh 48 [.br true] (Ftb 15 (decide ((↑i:Int)<(↑h.P.length:Int))) (Fek 17 Page.dv h.P (↑i) i (Ffb 28 ((h.P.getD i default).K != 0&&(h.P.getD i default).S != h.S) (Fc 34 (@Z3g h ((↑i:Int)) aa oq) (Ffb 38 ((Z06 h (↑i:Int)).snd != 0) (Fc 45 (@Z3m h ((↑i:Int)) ((Z06 h (↑i:Int)).fst) aa oq oq oq aa) (Fa ‹Z1O h (↑i:Int) (Z06 h (↑i:Int)).fst=true› Fz))))))))
 ·exact sF [] [] (Fh 48 [.br true] (Ftb 15 (decide ((↑i:Int)<(↑h.P.length:Int))) (Fek 17 Page.dv h.P (↑i) i (Ffb 28 ((h.P.getD i default).K != 0&&(h.P.getD i default).S != h.S) (Fc 34 (@Z3g h ((↑i:Int)) aa oq) (Ffb 38 ((Z06 h (↑i:Int)).snd != 0) (Fc 45 (@Z3m h ((↑i:Int)) ((Z06 h (↑i:Int)).fst) aa oq oq oq aa) (Fa ‹Z1O h (↑i:Int) (Z06 h (↑i:Int)).fst=true› Fz))))))))
theorem Zqc(n1:(h.P.getD i default).K=0∨(h.P.getD i default).S=h.S)(n2:(Z06 h (i:Int)).2=0)(n3:Z12 h (i:Int) (Z06 h (i:Int)).1=0)(n4:¬ Z2C h i (Z24 h i)=0):CP (rndF Tryz.f169 0) (apgL h i).st .ret (apgE ⟨4,i,Z2C h i (Z24 h i)⟩).st:=by
 have po:=Z09 hp;have hn:=Z2D h (i:Int);have hr:=Z2t hp (i:Int);have q3:=Z79 hp hi;rw[n3]at q3;simp only[ne_eq,not_true_eq_false,decide_false]at q3;obtain⟨q4,q5,q6⟩:=Zn1 h i hw hp hi n4;have q7:max (idxW (clrP h i)) 0=idxW (clrP h i):=by omega
 rw[q6];rcases n1 with n1 | n1
 ·exact sF [] (fO 6) (Fh 48 [.br false] (Fh 58 [.br true] (Ftb 15 (decide ((↑i:Int)<(↑h.P.length:Int))) (Fek 17 Page.dv h.P (↑i) i (Ffb 28 ((h.P.getD i default).K != 0&&(h.P.getD i default).S != h.S) (Fc 34 (@Z3g h ((↑i:Int)) aa oq) (Ffb 38 ((Z06 h (↑i:Int)).snd != 0) (Fc 45 (@Z3m h ((↑i:Int)) ((Z06 h (↑i:Int)).fst) aa oq oq oq aa) (Fa ‹Z1O h (↑i:Int) (Z06 h (↑i:Int)).fst=false› (Fc 55 (@Z6O h i aa aa aa) (Fb (decide (0≤idxW (clrP h i))=true) (Fr (180:Int) (Fr (4:Int) (Fr (↑i:Int) (Fa (by rw[q7]:(address h.C (↑i:Int) 0).fst+max (idxW (clrP h i)) 0=(Finding.mk 4 (↑i:Int) ((address h.C (↑i:Int) 0).fst+idxW (clrP h i))).addr) Fz)))))))))))))))
 ·exact sF [] (fO 6) (Fh 48 [.br false] (Fh 58 [.br true] (Ftb 15 (decide ((↑i:Int)<(↑h.P.length:Int))) (Fek 17 Page.dv h.P (↑i) i (Ffb 28 ((h.P.getD i default).K != 0&&(h.P.getD i default).S != h.S) (Fc 34 (@Z3g h ((↑i:Int)) aa oq) (Ffb 38 ((Z06 h (↑i:Int)).snd != 0) (Fc 45 (@Z3m h ((↑i:Int)) ((Z06 h (↑i:Int)).fst) aa oq oq oq aa) (Fa ‹Z1O h (↑i:Int) (Z06 h (↑i:Int)).fst=false› (Fc 55 (@Z6O h i aa aa aa) (Fb (decide (0≤idxW (clrP h i))=true) (Fr (180:Int) (Fr (4:Int) (Fr (↑i:Int) (Fa (by rw[q7]:(address h.C (↑i:Int) 0).fst+max (idxW (clrP h i)) 0=(Finding.mk 4 (↑i:Int) ((address h.C (↑i:Int) 0).fst+idxW (clrP h i))).addr) Fz)))))))))))))))
end
theorem Zpm(h:Heap):CP (rndF Tryz.f169 0) (apgL h h.P.length).st (.ext 0) (apgE ⟨0,0,0⟩).st:=by
 exact sF [] [] (Ffb 15 (decide ((↑h.P.length:Int)<(↑h.P.length:Int))) Fz)
def apgV(h:Heap):Finding:=match Z2K h with | some i=>pageF h i | none=>⟨0,0,0⟩
theorem ZeO{h:Heap}{i:Nat}(e:(pageF h i).fault=0):((h.P.getD i default).K=0∨(h.P.getD i default).S=h.S)∧(Z06 h (i:Int)).2=0∧Z12 h (i:Int) (Z06 h (i:Int)).1=0∧Z2C h i (Z24 h i)=0:=by
 unfold pageF at e;split at e
 ·simp at e
 ·rename_i h1;split at e
  ·simp at e
  ·rename_i h2;split at e
   ·simp at e
   ·rename_i h3;split at e
    ·simp at e
    ·rename_i h4;refine⟨?_,Classical.not_not.1 h2,Classical.not_not.1 h3,Classical.not_not.1 h4⟩;by_cases q:(h.P.getD i default).K=0
     ·exact .inl q
     ·refine .inr (Classical.not_not.1 fun q2=>h1 ⟨q,q2⟩)
theorem Zli(h:Heap)(i:Nat)(hw:WOk h.W)(hp:Z02 h=true)(hi:i<h.P.length)(e:(pageF h i).fault≠0):CP (rndF Tryz.f169 0) (apgL h i).st .ret (apgE (pageF h i)).st:=by
 unfold pageF at e ⊢;split
 ·rename_i h1;exact Zq3 h i hw hp hi h1
 ·rename_i h1;have n1:(h.P.getD i default).K=0∨(h.P.getD i default).S=h.S:=by
   by_cases q:(h.P.getD i default).K=0
   ·exact .inl q
   ·exact .inr (Classical.not_not.1 fun q2=>h1 ⟨q,q2⟩)
  split
  ·rename_i h2;exact Zq1 h i hw hp hi n1 h2
  ·rename_i h2;split
   ·rename_i h3;exact Zqg h i hw hp hi n1 (Classical.not_not.1 h2) h3
   ·rename_i h3;split
    ·rename_i h4;exact Zqc h i hw hp hi n1 (Classical.not_not.1 h2) (Classical.not_not.1 h3) h4
    ·rename_i h4;rw[if_neg h1,if_neg h2,if_neg h3,if_neg h4]at e;exact absurd rfl e
theorem ZmR(h:Heap)(hw:WOk h.W)(hp:Z02 h=true)(hf:Z2K h=none):CP (blkF Tryz.f169 0) (apgL h 0).st .nrm (Tg.st ⟨tm 64 [(2,.pt 8002 0 0)],[(8002,.box 180 [int 0,int 0,u64 0])],64⟩):=by
 refine Z07 (S:=fun k=>(apgL h k).st) h.P.length kr (fun k hk=>?_) (Zpm h);have e:=List.find?_eq_none.1 hf k (List.mem_range.2 hk);obtain⟨n1,n2,n3,n4⟩:=ZeO (h:=h) (i:=k) (by simpa using e);exact Zf1 h k hw hp hk n1 n2 n3 n4
theorem Zk5(h:Heap)(i:Nat)(hw:WOk h.W)(hp:Z02 h=true)(hf:Z2K h=some i):CP (blkF Tryz.f169 0) (Tg.st ⟨tm 64 [(1,.pt 8001 0 0),(2,.pt 8002 0 0),(12,Z0n h.P),(13,int h.P.length),(14,int 0)],[(8002,.box 180 [int 0,int 0,u64 0]),(8001,.box 28 h.cells)],60⟩) .ret (Tg.st ⟨tm 64 [(2,.pt 8002 0 0)],[(8002,.box 180 [int (pageF h i).fault,int (pageF h i).page,u64 (pageF h i).addr])],64⟩):=by
 obtain⟨h1,h2,h3⟩:=List.find?_range_eq_some.1 hf;have h2:=List.mem_range.1 h2;refine Z0z (S:=fun k=>(apgL h k).st) i kr (fun k hk=>?_) (Zli h i hw hp h2 (by simpa using h1));have e:=h3 k hk;obtain⟨n1,n2,n3,n4⟩:=ZeO (h:=h) (i:=k) (by simpa using e);exact Zf1 h k hw hp oq n1 n2 n3 n4
theorem Z5s(h:Heap)(hw:WOk h.W)(hp:Z02 h=true):GP 169 [h.av] true (apgV h).av []:=by
 have po:=Z09 hp;cases hf:Z2K h with
 | none =>
  have e7:apgV h=⟨0,0,0⟩:=by simp only[apgV,hf]
  rw[e7];exact gF [] Tryz.func169 [] (Fl 13 Page.dv h.P (Fu (@ZmR h aa aa aa) Fz))
 | some i =>
  have e7:apgV h=pageF h i:=by simp only[apgV,hf]
  rw[e7];exact gF [] Tryz.func169 [] (Fl 13 Page.dv h.P (Fu (@Zk5 h i aa aa aa) Fz))
theorem Zb2(h:Heap)(hw:WOk h.W)(hp:Z02 h=false):GP 129 [h.av] true (Finding.av ⟨1,0,0⟩) []:=by
 exact gF [] Tryz.func129 [] (Fc 9 (@Z0x h) (Ftb 10 (!Z02 h) Fz))
theorem Z9A(h:Heap)(hw:WOk h.W)(hp:Z02 h=true)(i:Nat)(hb:Z2K h=some i):GP 129 [h.av] true (pageF h i).av []:=by
 have po:=Z09 hp;have e7:apgV h=pageF h i:=by simp only[apgV,hb]
 have h1:¬ (pageF h i).fault=0:=by simpa using (List.find?_range_eq_some.1 hb).1
 rw[← e7]at h1 ⊢;exact gF [] Tryz.func129 [] (Fc 9 (@Z0x h) (Ffb 10 (!Z02 h) (Fc 13 (@Z5s h aa aa) (Ftb 16 (!((apgV h).fault==0&&((apgV h).page==0&&(apgV h).addr==0))) Fz))))
theorem Zbl(h:Heap)(hw:WOk h.W)(hp:Z02 h=true)(hb:Z2K h=none)(hq:¬ (apW h).fault=0):GP 129 [h.av] true (apW h).av []:=by
 have po:=Z09 hp;have e7:apgV h=⟨0,0,0⟩:=by simp only[apgV,hb]
 have q1:(apgV h).fault=0:=by rw[e7]
 have q2:(apgV h).page=0:=by rw[e7]
 have q3:(apgV h).addr=0:=by rw[e7]
 exact gF [] Tryz.func129 [] (Fc 9 (@Z0x h) (Ffb 10 (!Z02 h) (Fc 13 (@Z5s h aa aa) (Ffb 16 (!((apgV h).fault==0&&((apgV h).page==0&&(apgV h).addr==0))) (Fc 19 (@Z49 h aa oq) (Ftb 22 (!((apW h).fault==0&&((apW h).page==0&&(apW h).addr==0))) Fz))))))
def acrL(h:Heap)(i:Nat):Tg:=⟨tm 50 [(1,.pt 8001 0 0),(2,.pt 8002 0 0),(5,int (Z0F h.P i)),(25,Z0n h.P),(26,int h.P.length),(27,int i)],[(8002,.box 180 [int 0,int 0,u64 0]),(8001,.box 28 h.cells)],60⟩
theorem ZlA(h:Heap)(i:Nat)(hp:Z02 h=true)(hi:i<h.P.length):CP (rndF Tryz.f129 0) (acrL h i).st .nrm (acrL h (i+1)).st:=by
 have po:=Z09 hp;have:=Z2J h.P i;by_cases h1:(h.P.getD i default).K=1
 ·by_cases h2:0<(h.P.getD i default).N
  ·have e:Z0F h.P (i+1)=Z0F h.P i+1:=by rw[Z0F,if_pos ⟨h1,h2⟩]
   rw[acrL,acrL,e];exact sF [] [] (Ftb 28 (decide ((↑i:Int)<(↑h.P.length:Int))) (Fek 29 Page.dv h.P (↑i) i (Ftb 38 ((h.P.getD i default).K==1&&decide (0<(h.P.getD i default).N)) (Fw 40 ((↑(Z0F h.P i):Int)+1) (↑(Z0F h.P i+1):Int) (Fx 41 i Fz)))))
  ·have e:Z0F h.P (i+1)=Z0F h.P i:=by rw[Z0F,if_neg (fun q=>h2 q.2)];rfl
   rw[acrL,acrL,e];exact sF [] [] (Ftb 28 (decide ((↑i:Int)<(↑h.P.length:Int))) (Fek 29 Page.dv h.P (↑i) i (Ffb 38 ((h.P.getD i default).K==1&&decide (0<(h.P.getD i default).N)) (Fx 41 i Fz))))
 ·have e:Z0F h.P (i+1)=Z0F h.P i:=by rw[Z0F,if_neg (fun q=>h1 q.1)];rfl
  rw[acrL,acrL,e];exact sF [] [] (Ftb 28 (decide ((↑i:Int)<(↑h.P.length:Int))) (Fek 29 Page.dv h.P (↑i) i (Ffb 38 ((h.P.getD i default).K==1&&decide (0<(h.P.getD i default).N)) (Fx 41 i Fz))))
theorem Zp5(h:Heap):CP (rndF Tryz.f129 0) (acrL h h.P.length).st (.ext 0) (Tg.st ⟨tm 50 [(1,.pt 8001 0 0),(2,.pt 8002 0 0),(5,int (Z0F h.P h.P.length))],[(8002,.box 180 [int 0,int 0,u64 0]),(8001,.box 28 h.cells)],64⟩):=by
 exact sF [] [] (Ffb 28 (decide ((↑h.P.length:Int)<(↑h.P.length:Int))) Fz)
def ZjL(h:Heap)(hp:Z02 h=true)  := Z07 (S:=fun i=>(acrL h i).st) h.P.length (by kernel_rfl) (fun i hi=>ZlA h i hp hi) (Zp5 h)
theorem Z8Q(h:Heap)(hw:WOk h.W)(hp:Z02 h=true)(hb:Z2K h=none)(hq:(apW h).fault=0)(hc:h.C.pg/4<(Z0F h.P h.P.length:Nat)):GP 129 [h.av] true (Finding.av ⟨7,0,0⟩) []:=by
 have po:=Z09 hp;have cl:=Z2J h.P h.P.length;have e7:apgV h=⟨0,0,0⟩:=by simp only[apgV,hb]
 have q1:(apgV h).fault=0:=by rw[e7]
 have q2:(apgV h).page=0:=by rw[e7]
 have q3:(apgV h).addr=0:=by rw[e7]
 have e8:apW h=⟨0,0,0⟩:=by
  unfold apW at hq ⊢;split at hq
  ·rename_i h1;rw[if_pos h1]
  ·simp at hq
 have q4:(apW h).fault=0:=by rw[e8]
 have q5:(apW h).page=0:=by rw[e8]
 have q6:(apW h).addr=0:=by rw[e8]
 exact gF [] Tryz.func129 [] (Fc 9 (@Z0x h) (Ffb 10 (!Z02 h) (Fc 13 (@Z5s h aa aa) (Ffb 16 (!((apgV h).fault==0&&((apgV h).page==0&&(apgV h).addr==0))) (Fc 19 (@Z49 h aa oq) (Ffb 22 (!((apW h).fault==0&&((apW h).page==0&&(apW h).addr==0))) (Fl 26 Page.dv h.P (Fu (@ZjL h aa) (Fg 46 (by rw[Int.tdiv_eq_ediv_of_nonneg oq,wrapI' oq oq]:IntKind.i64.wrap (h.C.pg.tdiv 4)=h.C.pg/4) (Fa (by decide:(4:Int)≠0) (Ftb 47 (decide (h.C.pg/4<(↑(Z0F h.P h.P.length):Int))) Fz)))))))))))
theorem Z9x(h:Heap)(hw:WOk h.W)(hp:Z02 h=true)(hb:Z2K h=none)(hq:(apW h).fault=0)(hc:¬ h.C.pg/4<(Z0F h.P h.P.length:Nat)):GP 129 [h.av] true (Finding.av ⟨0,0,0⟩) []:=by
 have po:=Z09 hp;have cl:=Z2J h.P h.P.length;have e7:apgV h=⟨0,0,0⟩:=by simp only[apgV,hb]
 have q1:(apgV h).fault=0:=by rw[e7]
 have q2:(apgV h).page=0:=by rw[e7]
 have q3:(apgV h).addr=0:=by rw[e7]
 have e8:apW h=⟨0,0,0⟩:=by
  unfold apW at hq ⊢;split at hq
  ·rename_i h1;rw[if_pos h1]
  ·simp at hq
 have q4:(apW h).fault=0:=by rw[e8]
 have q5:(apW h).page=0:=by rw[e8]
 have q6:(apW h).addr=0:=by rw[e8]
 exact gF [] Tryz.func129 [] (Fc 9 (@Z0x h) (Ffb 10 (!Z02 h) (Fc 13 (@Z5s h aa aa) (Ffb 16 (!((apgV h).fault==0&&((apgV h).page==0&&(apgV h).addr==0))) (Fc 19 (@Z49 h aa oq) (Ffb 22 (!((apW h).fault==0&&((apW h).page==0&&(apW h).addr==0))) (Fl 26 Page.dv h.P (Fu (@ZjL h aa) (Fg 46 (by rw[Int.tdiv_eq_ediv_of_nonneg oq,wrapI' oq oq]:IntKind.i64.wrap (h.C.pg.tdiv 4)=h.C.pg/4) (Fa (by decide:(4:Int)≠0) (Ffb 47 (decide (h.C.pg/4<(↑(Z0F h.P h.P.length):Int))) Fz)))))))))))
theorem ZgQ(h:Heap)(hw:WOk h.W):GP 129 [h.av] true (Z0s h).av []:=by
 have e7:=Zpx h;unfold Z0s;rw[← e7];by_cases hp:Z02 h=true
 ·rw[if_pos hp];cases hb:Z2K h with
  | some i=>exact Z9A h hw hp i hb
  | none =>
   by_cases hq:(apW h).fault=0
   ·simp only[hq,ne_eq,not_true_eq_false,if_false];by_cases hc:h.C.pg/4<(Z0F h.P h.P.length:Nat)
    ·rw[if_pos hc];exact Z8Q h hw hp hb hq hc
    ·rw[if_neg hc];exact Z9x h hw hp hb hq hc
   ·simp only[ne_eq,hq,not_false_eq_true,if_true];exact Zbl h hw hp hb hq
 ·rw[if_neg hp];exact Zb2 h hw (by simpa using hp)
theorem Zq5(h:Heap):((Z0s h).fault==0&&((Z0s h).page==0&&(Z0s h).addr==0))=decide (Z0s h=⟨0,0,0⟩):=by
 cases Z0s h with
 | mk a b c=>by_cases h1:a=0<;>by_cases h2:b=0<;>by_cases h3:c=0<;>simp[h1,h2,h3]
theorem Zdh(h:Heap)(hw:WOk h.W):GP 78 [h.av] true (bool (decide (Z0s h=⟨0,0,0⟩))) []:=by
 have e9:=Zq5 h;exact gF [] Tryz.func78 [true] (Fc 4 (@ZgQ h aa) (Fa (by exact e9:((Z0s h).fault==0&&((Z0s h).page==0&&(Z0s h).addr==0))=decide (Z0s h=Finding.mk 0 0 0)) Fz))
theorem Z9j{h:Heap}(hp:∀ i:Nat,i<h.P.length→(Z06 h (i:Int)).2=0):∀ (f i:Nat),i+f=h.P.length→(Z0K h f i).2=0
 | 0,_,_=>rfl
 | f+1,i,hf=>by
  have ih:=Z9j hp f (i+1) oq;unfold Z0K;rw[hp i oq,ih];rfl
theorem ZjC{h:Heap}(hg:Z0s h=⟨0,0,0⟩):(Z04 h).2=0:=by
 have hp:Z02 h=true:=by
  by_cases q:Z02 h=true
  ·exact q
  ·rw[Z0s,if_neg q]at hg;cases hg
 rw[Z0s,if_pos hp]at hg;have hpf:∀ i,i<h.P.length→(pageF h i).fault=0:=by
  intro i hi;cases hb:Z2K h with
  | some j =>
   rw[hb]at hg;simp only at hg;have:=List.find?_some hb;rw[hg]at this;simp at this
  | none =>
   have:=List.find?_eq_none.1 hb i (List.mem_range.2 hi);simpa using this
 have hpg:∀ i:Nat,i<h.P.length→(Z06 h (i:Int)).2=0:=by
  intro i hi;have q:=hpf i hi;unfold pageF at q;split at q
  ·simp at q
  ·split at q
   ·simp at q
   ·rename_i c2;simpa using c2
 unfold Z04;rw[Z0W,if_pos hp];exact Z9j hpg h.P.length 0 oq
theorem ZlQ(h:Heap)(hw:WOk h.W)(hp:Z02 h=false):GP 33 [h.av] false (.tu [noWork.av,int 1]) []:=by
 exact gF [] Tryz.func33 [] (Fc 9 (@Z0x h) (Ftb 10 (!Z02 h) (Fnl (Fnl (Fnl (Fnl (Fnl Fz)))))))
theorem Zkq(h:Heap)(hw:WOk h.W)(hp:Z02 h=true)(hg:Z0s h≠⟨0,0,0⟩):GP 33 [h.av] false (.tu [noWork.av,int 19]) []:=by
 exact gF [] Tryz.func33 [] (Fc 9 (@Z0x h) (Ffb 10 (!Z02 h) (Fc 13 (@Zdh h aa) (Ftb 14 (!decide (Z0s h=Finding.mk 0 0 0)) (Fnl (Fnl (Fnl (Fnl (Fnl Fz)))))))))
def evbB(h:Heap)(l:List Page):List (Nat×Blk):=[(8001,.box 28 [int h.C.pw,int h.C.pg,.ow 49027,.ow 49030,int h.S,int h.B]),(49030,.arr 84 4 (l.map Page.dv)),(49027,.arr 35 1 (h.W.map wdv)),(8002,.box 73 zW)]
def evbL(h:Heap)(all:List Int)(i:Nat):Tg:=⟨tm 61 [(1,.pt 8001 0 0),(2,.pt 8002 0 0),(3,int 0),(4,Z01 all),(34,.ow 49030),(35,int h.P.length),(36,int i)],evbB h (preM (begQ (1-h.S)) h.P i),8⟩
section
variable (h:Heap) (all:List Int) (hs:h.S=0∨h.S=1) (hl:h.P.length≤1048576)
include hs hl
theorem Zma(i:Nat)(hi:i<h.P.length):CP (rndF Tryz.f33 0) (evbL h all i).st .nrm (evbL h all (i+1)).st:=by
 have ha:=Z63 (begQ (1-h.S)) h.P (Nat.le_refl i) default;have hn:=Z35 (begQ (1-h.S)) h.P i;by_cases hc:(h.P.getD i default).K=1∧0<(h.P.getD i default).N
 ·have hq:=Z4U (begQ (1-h.S)) h.P hi default;rw[show begQ (1-h.S) (h.P.getD i default)=⟨(h.P.getD i default).K,1-h.S,(h.P.getD i default).U,(h.P.getD i default).N⟩ by rw[begQ,if_pos hc],← ha]at hq;rw[← ha]at hc;have Q0 {h_ c_ p_} (r_:Fq h_ c_ p_):=Ftb 37 (decide ((↑i:Int)<(↑h.P.length:Int))) (Fmq 40 Page.dv (preM (begQ (1-h.S)) h.P i) (↑i) r_);rcases bb (((preM (begQ (1-h.S)) h.P i).getD (↑i:Int).toNat default).K==1&&decide (0<((preM (begQ (1-h.S)) h.P i).getD (↑i:Int).toNat default).N))with hc0 | hc0<;>have hc0p:=hc0<;>simp only[bs]at hc0p
  ·obtain⟨hc0pa,hc0pb⟩:=hc0p;let y1:=preM (begQ (1-h.S)) h.P i;let y0:=y1.getD (↑i:Int).toNat default;exact sF [] (fO 11) (Q0 (Ft 48 hc0 (Fi 54 (1-h.S) (Fm0q Page.dv y1 (↑i) (FS 10056 Page.dv y1 ((↑i:Int).toNat) (Page.mk y0.K (1-h.S) y0.U y0.N) (y0.dv) (Fx 57 i (Fr (84:Int) (Fa (by refine congrArg _ ?_;exact hq:List.map Page.dv (y1.set (↑i:Int).toNat (Page.mk y0.K (1-h.S) y0.U y0.N))=List.map Page.dv (preM (begQ (1-h.S)) h.P (i+1))) Fz))))))))
  ·exact sF [] (fO 11) (Q0 (Ff 48 hc0 (Fx 57 i (Fr (84:Int) (Fa (by refine congrArg _ ?_;grind[]:List.map Page.dv (preM (begQ (1-h.S)) h.P i)=List.map Page.dv (preM (begQ (1-h.S)) h.P (i+1))) Fz)))))
 ·have hq:=Z6v (begQ (1-h.S)) h.P hi default (by rw[begQ,if_neg hc]);rw[← ha]at hc;have Q1 {h_ c_ p_} (r_:Fq h_ c_ p_):=Ftb 37 (decide ((↑i:Int)<(↑h.P.length:Int))) (Fmq 40 Page.dv (preM (begQ (1-h.S)) h.P i) (↑i) r_);rcases bb (((preM (begQ (1-h.S)) h.P i).getD (↑i:Int).toNat default).K==1&&decide (0<((preM (begQ (1-h.S)) h.P i).getD (↑i:Int).toNat default).N))with hc0 | hc0<;>have hc0p:=hc0<;>simp only[bs]at hc0p
  ·obtain⟨hc0pa,hc0pb⟩:=hc0p;let y3:=preM (begQ (1-h.S)) h.P i;let y2:=y3.getD (↑i:Int).toNat default;exact sF [] (fO 11) (Q1 (Ft 48 hc0 (Fi 54 (1-h.S) (Fm0q Page.dv y3 (↑i) (FS 10056 Page.dv y3 ((↑i:Int).toNat) (Page.mk y2.K (1-h.S) y2.U y2.N) (y2.dv) (Fx 57 i (Fr (84:Int) (Fa (by refine congrArg _ ?_;grind[]:List.map Page.dv (y3.set (↑i:Int).toNat (Page.mk y2.K (1-h.S) y2.U y2.N))=List.map Page.dv (preM (begQ (1-h.S)) h.P (i+1))) Fz))))))))
  ·exact sF [] (fO 11) (Q1 (Ff 48 hc0 (Fx 57 i (Fr (84:Int) (Fa (by refine congrArg _ ?_;exact hq:List.map Page.dv (preM (begQ (1-h.S)) h.P i)=List.map Page.dv (preM (begQ (1-h.S)) h.P (i+1))) Fz)))))
omit hs hl in
theorem ZoI:CP (rndF Tryz.f33 0) (evbL h all h.P.length).st (.ext 0) (Tg.st ⟨tm 61 [(1,.pt 8001 0 0),(2,.pt 8002 0 0),(3,int 0),(4,Z01 all)],evbB h (h.P.map (begQ (1-h.S))),8⟩):=by
 have hq:=Z6o (begQ (1-h.S)) h.P;have hn:=Z35 (begQ (1-h.S)) h.P h.P.length;exact sF [] (fO 5) (Ffb 37 (decide ((↑h.P.length:Int)<(↑h.P.length:Int))) (Fr (84:Int) (Fa (by refine congrArg _ ?_;assumption:List.map Page.dv (preM (begQ (1-h.S)) h.P h.P.length)=List.map Page.dv (List.map (begQ (1-h.S)) h.P)) Fz)))
theorem Zn7:CP (blkF Tryz.f33 0) (Tg.st ⟨tm 61 [(1,.pt 8001 0 0),(2,.pt 8002 0 0),(3,int 0),(4,Z01 all),(34,.ow 49030),(35,int h.P.length),(36,int 0)],evbB h h.P,8⟩) .nrm (Tg.st ⟨tm 61 [(1,.pt 8001 0 0),(2,.pt 8002 0 0),(3,int 0),(4,Z01 all)],evbB h (h.P.map (begQ (1-h.S))),8⟩):=by
 have:=Z07 (S:=fun k=>(evbL h all k).st) h.P.length kr (fun k hk=>Zma h all hs hl k hk) (ZoI h all);simp only[evbL,Z8F]at this;exact this
end
theorem ZfC(h:Heap)(hw:WOk h.W)(hp:Z02 h=true)(hg:Z0s h=⟨0,0,0⟩):GP 33 [h.av] false (.tu [(beginW h).av,int 0]) []:=by
 have po:=Z09 hp;have ho:=Z2w h;have g:=ZjC hg;have hne:h.P≠[]:=Z8i oq;exact gF [] Tryz.func33 [] (Fc 9 (@Z0x h) (Ffb 10 (!Z02 h) (Fc 13 (@Zdh h aa) (Ffb 14 (!decide (Z0s h=Finding.mk 0 0 0)) (Fc 18 (@Z5S h aa) (Ffb 22 ((Z04 h).snd != 0) (Fc 27 (@Z4a h.W oq) (Fc 30 (@Z5V h.P oq aa) (Fl 35 Page.dv h.P (Fu (@Zn7 h ((Z04 h).fst) oq oq) (Fnl (Fnl Fz))))))))))))
def Z0U(h:Heap):Work×Int:=if Z02 h=true then(if Z0s h=⟨0,0,0⟩then(beginW h,0)else(noWork,19))else(noWork,1)
theorem Zhw(h:Heap)(hw:WOk h.W):GP 33 [h.av] false (.tu [(Z0U h).1.av,int (Z0U h).2]) []:=by
 unfold Z0U;by_cases hp:Z02 h=true
 ·rw[if_pos hp];by_cases hg:Z0s h=⟨0,0,0⟩
  ·rw[if_pos hg];exact ZfC h hw hp hg
  ·rw[if_neg hg];exact Zkq h hw hp hg
 ·rw[if_neg hp];exact ZlQ h hw (by simpa using hp)
theorem Z9X(h:Heap)(hw:WOk h.W):GP 41 [h.av] false (.tu [(Z0U h).1.av,int (Z0U h).2]) []:=by
 unfold Z0U;by_cases hp:Z02 h=true
 ·rw[if_pos hp];by_cases hg:Z0s h=⟨0,0,0⟩
  ·rw[if_pos hg];exact Z3v h hw hp hg
  ·rw[if_neg hg];exact ZdF h hw hp hg
 ·rw[if_neg hp];exact Ze3 h hw (by simpa using hp)
theorem Z89{ρ:Rho}{w:World}{Im:Nat→Prop}{v:Value}(s:Nat)(h:Rel ρ w Im (.d (.sl 0 [])) v):Rel ρ w Im (.d (.sl s [])) v:=by
 cases h with
 | d h =>
  cases h with
  | slNil=>exact .d (.slNil _ _ _)
  | sl _ _ p n c f hn=>cases hn;exact .d (.slNil _ _ _)
def hA10:Heap:=⟨⟨32,8⟩,List.replicate 256 0,List.replicate 8 ⟨0,0,0,0⟩,0,-1⟩
def hB10:Heap:=⟨⟨32,8⟩,(List.replicate 256 0).set 0 29,[⟨1,0,2,0⟩,⟨0,0,0,0⟩,⟨0,0,0,0⟩,⟨0,0,0,0⟩,⟨0,0,0,0⟩,⟨0,0,0,0⟩,⟨0,0,0,0⟩,⟨0,0,0,0⟩],0,0⟩
theorem Zfq:Z0I []=⟨hA10,[],[]⟩:=by kernel_rfl
theorem Zon:(⟨hA10,[],[]⟩:WorldM).put ⟨3,1,0⟩=⟨hB10,[4096],[]⟩:=by kernel_rfl
theorem ZfD:Z02 hB10=true:=by decide+kernel
theorem ZnA:Z0s hB10=⟨0,0,0⟩:=by decide+kernel
theorem ZhN:WOk hB10.W:=by unfold WOk;decide+kernel
def wB0:Work:=(⟨⟨⟨32,8⟩,(List.replicate 256 0).set 0 29,[⟨1,0,2,0⟩,⟨0,0,0,0⟩,⟨0,0,0,0⟩,⟨0,0,0,0⟩,⟨0,0,0,0⟩,⟨0,0,0,0⟩,⟨0,0,0,0⟩,⟨0,0,0,0⟩],0,0⟩,[4096],[],[],0,⟨0,0,0,0,0,0⟩⟩:Work)
def wB1:Work:=(⟨⟨⟨32,8⟩,((List.replicate 256 0).set 0 16514).set 32 29,[⟨1,0,2,0⟩,⟨1,1,2,0⟩,⟨0,0,0,0⟩,⟨0,0,0,0⟩,⟨0,0,0,0⟩,⟨0,0,0,0⟩,⟨0,0,0,0⟩,⟨0,0,0,0⟩],0,0⟩,[4096],[1],[4128],0,⟨1,0,0,0,0,0⟩⟩:Work)
theorem ZiR:beginW hB10=wB0:=by kernel_rfl
theorem Zhr:wB0.fwd 4096=(wB1,4128,0):=by kernel_rfl
theorem Zpc:wB1.fwd 4096=(wB1,4128,0):=by kernel_rfl
theorem ZpU:WkOk wB0:=ZiR▸Z3H ZhN ZfD
theorem Zq7:WkOk wB1:=by
 have k:=(Zfh ZpU 4096 (by rw[Zhr])).1;rw[Zhr]at k;exact k
theorem Zq8:FwOk wB0 4096:=⟨⟨ZpU,by unfold SpOk;decide+kernel,by decide+kernel⟩,by decide,by decide+kernel,by decide+kernel,by decide+kernel⟩
theorem Zqa:FwOk wB1 4096:=⟨⟨Zq7,by unfold SpOk;decide+kernel,by decide+kernel⟩,by decide,by decide+kernel,by decide+kernel,by decide+kernel⟩
theorem Znj:GP 15 [.d (.sl 0 [])] false (⟨(⟨⟨32,8⟩,List.replicate 256 0,List.replicate 8 ⟨0,0,0,0⟩,0,-1⟩:Heap),[],[]⟩:WorldM).av []:=by
 have k:=Zbg [] pq;rw[Zfq]at k;intro w Im vs hIm hsz h;refine k w Im vs hIm hsz fun i x v hx hv=>?_;rcases i with _ | i
 ·cases hx;exact Z89 1 (h 0 _ v rfl hv)
 ·simp at hx
theorem ZpN:GP 62 [.ag [int 32,int 8,.d (.sl 1 ((List.replicate 256 0).map wdv)),.d (.sl 4 ((List.replicate 8 (⟨0,0,0,0⟩:Page)).map Page.dv)),int 0,int (-1),.d (.sl 0 []),.d (.sl 0 [])],.ag [int 3,int 1,.d (.sc (.int .u32 0))]] false (⟨(⟨⟨32,8⟩,(List.replicate 256 0).set 0 29,[⟨1,0,2,0⟩,⟨0,0,0,0⟩,⟨0,0,0,0⟩,⟨0,0,0,0⟩,⟨0,0,0,0⟩,⟨0,0,0,0⟩,⟨0,0,0,0⟩,⟨0,0,0,0⟩],0,0⟩:Heap),[4096],[]⟩:WorldM).av []:=by
 have hm:=Zfr [];rw[Zfq]at hm;have k:=Z6h ⟨hA10,[],[]⟩ ⟨3,1,0⟩ (hm.wm dd) dd;rw[Zon]at k;intro w Im vs hIm hsz h;refine k w Im vs hIm hsz fun i x v hx hv=>?_;rcases i with _ | _ | i
 ·cases hx;obtain⟨cs,rfl,h2,h3,h4⟩:=Z2N (h 0 _ v rfl hv);refine .ag _ _ h2 h3 (fun i a u ha hu=>?_);rcases i with _ | _ | _ | _ | _ | _ | _ | _ | i
  ·cases ha;exact h4 0 _ u rfl hu
  ·cases ha;exact h4 1 _ u rfl hu
  ·cases ha;exact h4 2 _ u rfl hu
  ·cases ha;exact h4 3 _ u rfl hu
  ·cases ha;exact h4 4 _ u rfl hu
  ·cases ha;exact h4 5 _ u rfl hu
  ·cases ha;exact Z89 1 (h4 6 _ u rfl hu)
  ·cases ha;exact Z89 1 (h4 7 _ u rfl hu)
  ·cases (show(none:Option AV)=some a from ha)
 ·cases hx;exact h 1 _ v rfl hv
 ·simp at hx
theorem Zpj:GP 33 [(⟨⟨32,8⟩,(List.replicate 256 0).set 0 29,[⟨1,0,2,0⟩,⟨0,0,0,0⟩,⟨0,0,0,0⟩,⟨0,0,0,0⟩,⟨0,0,0,0⟩,⟨0,0,0,0⟩,⟨0,0,0,0⟩,⟨0,0,0,0⟩],0,0⟩:Heap).av] false (.tu [(⟨⟨⟨32,8⟩,(List.replicate 256 0).set 0 29,[⟨1,0,2,0⟩,⟨0,0,0,0⟩,⟨0,0,0,0⟩,⟨0,0,0,0⟩,⟨0,0,0,0⟩,⟨0,0,0,0⟩,⟨0,0,0,0⟩,⟨0,0,0,0⟩],0,0⟩,[4096],[],[],0,⟨0,0,0,0,0,0⟩⟩:Work).av,int 0]) []:=by
 have k:=ZfC hB10 ZhN ZfD ZnA;rw[ZiR]at k;exact k
theorem Zq9:GP 36 [(⟨⟨⟨32,8⟩,(List.replicate 256 0).set 0 29,[⟨1,0,2,0⟩,⟨0,0,0,0⟩,⟨0,0,0,0⟩,⟨0,0,0,0⟩,⟨0,0,0,0⟩,⟨0,0,0,0⟩,⟨0,0,0,0⟩,⟨0,0,0,0⟩],0,0⟩,[4096],[],[],0,⟨0,0,0,0,0,0⟩⟩:Work).av,u64 4096] true (.tu [(⟨⟨⟨32,8⟩,((List.replicate 256 0).set 0 16514).set 32 29,[⟨1,0,2,0⟩,⟨1,1,2,0⟩,⟨0,0,0,0⟩,⟨0,0,0,0⟩,⟨0,0,0,0⟩,⟨0,0,0,0⟩,⟨0,0,0,0⟩,⟨0,0,0,0⟩],0,0⟩,[4096],[1],[4128],0,⟨1,0,0,0,0,0⟩⟩:Work).av,u64 4128,int 0]) []:=by
 have k:=ZcW wB0 4096 Zq8;rw[Zhr]at k;exact k
theorem Zq2:GP 36 [(⟨⟨⟨32,8⟩,((List.replicate 256 0).set 0 16514).set 32 29,[⟨1,0,2,0⟩,⟨1,1,2,0⟩,⟨0,0,0,0⟩,⟨0,0,0,0⟩,⟨0,0,0,0⟩,⟨0,0,0,0⟩,⟨0,0,0,0⟩,⟨0,0,0,0⟩],0,0⟩,[4096],[1],[4128],0,⟨1,0,0,0,0,0⟩⟩:Work).av,u64 4096] true (.tu [(⟨⟨⟨32,8⟩,((List.replicate 256 0).set 0 16514).set 32 29,[⟨1,0,2,0⟩,⟨1,1,2,0⟩,⟨0,0,0,0⟩,⟨0,0,0,0⟩,⟨0,0,0,0⟩,⟨0,0,0,0⟩,⟨0,0,0,0⟩,⟨0,0,0,0⟩],0,0⟩,[4096],[1],[4128],0,⟨1,0,0,0,0,0⟩⟩:Work).av,u64 4128,int 0]) []:=by
 have k:=ZcW wB1 4096 Zqa;rw[Zpc]at k;exact k
theorem Zat:GP 35 [] true (bool true) []:=by
 exact gF [] Tryz.func35 [] (Fh 33 [.el (wdv ((WorldM.mk (Heap.mk (Conf.mk 32 8) ((List.replicate 256 0).set 0 29) [Page.mk 1 0 2 0,Page.mk 0 0 0 0,Page.mk 0 0 0 0,Page.mk 0 0 0 0,Page.mk 0 0 0 0,Page.mk 0 0 0 0,Page.mk 0 0 0 0,Page.mk 0 0 0 0] 0 0) [4096] []).G.getD 0 default))] (Fh 43 [.el (wdv ((WorldM.mk (Heap.mk (Conf.mk 32 8) ((List.replicate 256 0).set 0 29) [Page.mk 1 0 2 0,Page.mk 0 0 0 0,Page.mk 0 0 0 0,Page.mk 0 0 0 0,Page.mk 0 0 0 0,Page.mk 0 0 0 0,Page.mk 0 0 0 0,Page.mk 0 0 0 0] 0 0) [4096] []).G.getD 0 default))] (Fc 10 (@Znj) (Fc 14 (@ZpN) (Fc 18 (@Zpj) (Fa (by simp[*]:(0:Int)≤0∧(List.map wdv (WorldM.mk (Heap.mk (Conf.mk 32 8) ((List.replicate 256 0).set 0 29) [Page.mk 1 0 2 0,Page.mk 0 0 0 0,Page.mk 0 0 0 0,Page.mk 0 0 0 0,Page.mk 0 0 0 0,Page.mk 0 0 0 0,Page.mk 0 0 0 0,Page.mk 0 0 0 0] 0 0) [4096] []).G)[Int.toNat 0]? = some (wdv ((WorldM.mk (Heap.mk (Conf.mk 32 8) ((List.replicate 256 0).set 0 29) [Page.mk 1 0 2 0,Page.mk 0 0 0 0,Page.mk 0 0 0 0,Page.mk 0 0 0 0,Page.mk 0 0 0 0,Page.mk 0 0 0 0,Page.mk 0 0 0 0,Page.mk 0 0 0 0] 0 0) [4096] []).G.getD 0 default))) (Fc 35 (@Zq9) (Fa (by simp[*]:(0:Int)≤0∧(List.map wdv (WorldM.mk (Heap.mk (Conf.mk 32 8) ((List.replicate 256 0).set 0 29) [Page.mk 1 0 2 0,Page.mk 0 0 0 0,Page.mk 0 0 0 0,Page.mk 0 0 0 0,Page.mk 0 0 0 0,Page.mk 0 0 0 0,Page.mk 0 0 0 0,Page.mk 0 0 0 0] 0 0) [4096] []).G)[Int.toNat 0]? = some (wdv ((WorldM.mk (Heap.mk (Conf.mk 32 8) ((List.replicate 256 0).set 0 29) [Page.mk 1 0 2 0,Page.mk 0 0 0 0,Page.mk 0 0 0 0,Page.mk 0 0 0 0,Page.mk 0 0 0 0,Page.mk 0 0 0 0,Page.mk 0 0 0 0,Page.mk 0 0 0 0] 0 0) [4096] []).G.getD 0 default))) (Fc 45 (@Zq2) Fz)))))))))
structure SOk (w:WorldM):Prop where
 W:WOk w.heap.W
 wl:1≤w.heap.W.length∧w.heap.W.length≤4096
 pl:1≤w.heap.P.length∧w.heap.P.length≤64
 cw:-1000≤w.heap.C.pw∧w.heap.C.pw≤1000
theorem MOk.so{w:WorldM}{n:Nat}(hm:MOk w n):SOk w:=by
 have a1:=area hm.hv;have a2:=validB_iff.1 hm.hv;have a3:=hm.L;have a4:=hm.pl;exact⟨hm.W,by omega,by omega,by omega⟩
def spT2(w:WorldM)(t:Tape):Tape:=(t.step (w.heap.W.length:Int)).step (w.heap.P.length:Int)
def spT3(w:WorldM)(t:Tape):Tape:=(spT2 w t).step 12
def spI(w:WorldM)(t:Tape):Nat:=(t.next (w.heap.W.length:Int)).toNat
def spP(w:WorldM)(t:Tape):Nat:=((t.step (w.heap.W.length:Int)).next (w.heap.P.length:Int)).toNat
def spPg(w:WorldM)(t:Tape):Page:=w.heap.P.getD (spP w t) default
def spList:List Int:=[0,1,5,21,4096,4097,4112,16386,1099511627776,61]
def pinQ(p:Page):Page:=if p.K=1 then⟨p.K,p.S,p.U,1⟩else p
def spV(w:WorldM)(t:Tape)(d:Int):Int:=if d≤1 then spList.getD ((spT3 w t).next 10).toNat default else bits .xor .u64 (w.heap.W.getD (spI w t) default) (IntKind.u64.wrap (1*2^min ((spT3 w t).next 64).toNat 64))
def spQ(w:WorldM)(t:Tape)(d:Int):Page :=
 if d=3 then⟨(spT3 w t).next 5,(spPg w t).S,(spPg w t).U,(spPg w t).N⟩
 else if d=4 then⟨(spPg w t).K,(spT3 w t).next 3,(spPg w t).U,(spPg w t).N⟩
 else if d=5 then⟨(spPg w t).K,(spPg w t).S,(spPg w t).U+(spT3 w t).next 9-4,(spPg w t).N⟩
 else⟨(spPg w t).K,(spPg w t).S,(spPg w t).U,(spT3 w t).next 3-1⟩
def spH(w:WorldM)(t:Tape)(d:Int):Heap :=
 if d≤2 then⟨w.heap.C,w.heap.W.set (spI w t) (spV w t d),w.heap.P,w.heap.S,w.heap.B⟩
 else if d≤6 then⟨w.heap.C,w.heap.W,w.heap.P.set (spP w t) (spQ w t d),w.heap.S,w.heap.B⟩
 else if d=7 then⟨w.heap.C,w.heap.W,w.heap.P,(spT3 w t).next 3,w.heap.B⟩
 else if d=8 then⟨w.heap.C,w.heap.W,w.heap.P,w.heap.S,(spT3 w t).next ((w.heap.P.length+2:Nat):Int)-1⟩
 else if d=9 then⟨⟨w.heap.C.pw+4,w.heap.C.pg⟩,w.heap.W,w.heap.P,w.heap.S,w.heap.B⟩
 else if d=10 then⟨w.heap.C,w.heap.W,w.heap.P.drop 1,w.heap.S,w.heap.B⟩
 else⟨w.heap.C,w.heap.W,w.heap.P.map pinQ,w.heap.S,w.heap.B⟩
def spN(w:WorldM)(d:Int):Int:=if d≤1 then 10 else if d=2 then 64 else if d=3 then 5 else if d=4 then 3 else if d=5 then 9 else if d=6 then 3 else if d=7 then 3 else if d=8 then((w.heap.P.length+2:Nat):Int)else 0
def WorldM.spoil(w:WorldM)(t:Tape):WorldM:=⟨spH w t ((spT2 w t).next 12),w.G,w.E⟩
def WorldM.spoilT(w:WorldM)(t:Tape):Tape:=if(spT2 w t).next 12≤8 then(spT3 w t).step (spN w ((spT2 w t).next 12))else spT3 w t
def pinL(w:WorldM)(tp:Tape)(i:Nat):Tg:=⟨tm 156 [(2,.pt 8002 0 0),(4,.pt 8004 0 0),(5,.pt 16005 0 0),(8,int i)],[(0,tp.b),(16005,.box 28 [int w.heap.C.pw,int w.heap.C.pg,.ow 24014,.ow 24018,int w.heap.S,int w.heap.B]),(24018,.arr 84 4 ((preM pinQ w.heap.P i).map Page.dv)),(24014,.arr 35 1 (w.heap.W.map wdv)),(8004,.box 30 [int 0,int 0,.d (.sl 0 []),.d (.sl 0 []),int 0,int 0,.d (.sl 0 []),.d (.sl 0 [])]),(8002,.box 30 w.cells)],60⟩
theorem Zm2(w:WorldM)(tp:Tape)(i:Nat)(hl:w.heap.P.length≤64)(hi:i<w.heap.P.length):CP (rndF Tryz.f39 1) (pinL w tp i).st .nrm (pinL w tp (i+1)).st:=by
 have ha:=Z63 pinQ w.heap.P (Nat.le_refl i) default;have hn:=Z35 pinQ w.heap.P i;by_cases hc:(w.heap.P.getD i default).K=1
 ·have hq:=Z4U pinQ w.heap.P hi default;rw[show pinQ (w.heap.P.getD i default)=⟨(w.heap.P.getD i default).K,(w.heap.P.getD i default).S,(w.heap.P.getD i default).U,1⟩ by rw[pinQ,if_pos hc],← ha]at hq;rw[← ha]at hc;rcases bb (((preM pinQ w.heap.P i).getD (↑i:Int).toNat default).K==1)with hc0 | hc0<;>have hc0p:=hc0<;>simp only[bs]at hc0p
  ·let y1:=preM pinQ w.heap.P i;let y0:=y1.getD (↑i:Int).toNat default;exact sF [] (fO 6) (FM 137 138 Page.dv y1 i (Fmq 146 Page.dv y1 (↑i) (Ft 147 hc0 (Fm0q Page.dv y1 (↑i) (FS 10152 Page.dv y1 ((↑i:Int).toNat) (Page.mk y0.K y0.S y0.U 1) (y0.dv) (Fx 140 i (Fr (84:Int) (Fa (by refine congrArg _ ?_;exact hq:List.map Page.dv (y1.set (↑i:Int).toNat (Page.mk y0.K y0.S y0.U 1))=List.map Page.dv (preM pinQ w.heap.P (i+1))) Fz))))))))
  ·contradiction
 ·have hq:=Z6v pinQ w.heap.P hi default (by rw[pinQ,if_neg hc]);rw[← ha]at hc;rcases bb (((preM pinQ w.heap.P i).getD (↑i:Int).toNat default).K==1)with hc0 | hc0<;>have hc0p:=hc0<;>simp only[bs]at hc0p
  ·contradiction
  ·let y2:=preM pinQ w.heap.P i;exact sF [] (fO 6) (FM 137 138 Page.dv y2 i (Fmq 146 Page.dv y2 (↑i) (Ff 147 hc0 (Fx 140 i (Fr (84:Int) (Fa (by refine congrArg _ ?_;exact hq:List.map Page.dv y2=List.map Page.dv (preM pinQ w.heap.P (i+1))) Fz))))))
theorem ZoQ(w:WorldM)(tp:Tape):CP (rndF Tryz.f39 1) (pinL w tp w.heap.P.length).st (.ext 1) (Tg.st ⟨tm 156 [(2,.pt 8002 0 0),(4,.pt 8004 0 0),(5,.pt 16005 0 0)],[(0,tp.b),(16005,.box 28 [int w.heap.C.pw,int w.heap.C.pg,.ow 24014,.ow 24018,int w.heap.S,int w.heap.B]),(24018,.arr 84 4 ((w.heap.P.map pinQ).map Page.dv)),(24014,.arr 35 1 (w.heap.W.map wdv)),(8004,.box 30 [int 0,int 0,.d (.sl 0 []),.d (.sl 0 []),int 0,int 0,.d (.sl 0 []),.d (.sl 0 [])]),(8002,.box 30 w.cells)],60⟩):=by
 have hq:=Z6o pinQ w.heap.P;have hn:=Z35 pinQ w.heap.P w.heap.P.length;let y0:=preM pinQ w.heap.P w.heap.P.length;exact sF [] (fO 5) (Fl 137 Page.dv y0 (Ffb 138 (decide ((↑w.heap.P.length:Int)<(↑y0.length:Int))) (Fr (84:Int) (Fa (by refine congrArg _ ?_;assumption:List.map Page.dv y0=List.map Page.dv (List.map pinQ w.heap.P)) Fz))))
theorem Zo0(w:WorldM)(tp:Tape)(hl:w.heap.P.length≤64):CP (blkF Tryz.f39 1) (Tg.st ⟨tm 156 [(2,.pt 8002 0 0),(4,.pt 8004 0 0),(5,.pt 16005 0 0),(8,int 0)],[(0,tp.b),(16005,.box 28 [int w.heap.C.pw,int w.heap.C.pg,.ow 24014,.ow 24018,int w.heap.S,int w.heap.B]),(24018,.arr 84 4 (w.heap.P.map Page.dv)),(24014,.arr 35 1 (w.heap.W.map wdv)),(8004,.box 30 [int 0,int 0,.d (.sl 0 []),.d (.sl 0 []),int 0,int 0,.d (.sl 0 []),.d (.sl 0 [])]),(8002,.box 30 w.cells)],60⟩) .nrm (Tg.st ⟨tm 156 [(2,.pt 8002 0 0),(4,.pt 8004 0 0),(5,.pt 16005 0 0)],[(0,tp.b),(16005,.box 28 [int w.heap.C.pw,int w.heap.C.pg,.ow 24014,.ow 24018,int w.heap.S,int w.heap.B]),(24018,.arr 84 4 ((w.heap.P.map pinQ).map Page.dv)),(24014,.arr 35 1 (w.heap.W.map wdv)),(8004,.box 30 [int 0,int 0,.d (.sl 0 []),.d (.sl 0 []),int 0,int 0,.d (.sl 0 []),.d (.sl 0 [])]),(8002,.box 30 w.cells)],60⟩):=by
 have:=Z07 (S:=fun k=>(pinL w tp k).st) w.heap.P.length kr (fun k hk=>Zm2 w tp k hl hk) (ZoQ w tp);simp only[pinL,Z8F]at this;exact this
theorem Zcp(w:WorldM)(t:Tape)(hm:SOk w)(ht:TOk t)(ha:t.at'≤900000)(hus:∀ j,j<w.heap.P.length→-1099511627776≤(w.heap.P.getD j default).U∧(w.heap.P.getD j default).U≤1099511627776):LP 39 [w.av,.pt 0 0 0] [t.b] (w.spoil t).av [(w.spoilT t).b]:=by
 have s1:=Z30 (t:=t) (w.heap.W.length:Int);have s2:(t.step (w.heap.W.length:Int)).at'≤(spT2 w t).at'∧(spT2 w t).at'≤(t.step (w.heap.W.length:Int)).at'+1∧(spT2 w t).l=(t.step (w.heap.W.length:Int)).l:=Z30 _;have s3:(spT2 w t).at'≤(spT3 w t).at'∧(spT3 w t).at'≤(spT2 w t).at'+1∧(spT3 w t).l=(spT2 w t).l:=Z30 _;have k1:=Z3z ht s1.2.2 oq oq;have k2:TOk (spT2 w t):=Z3z k1 s2.2.2 oq oq;have k3:TOk (spT3 w t):=Z3z k2 s3.2.2 oq oq;have a1:=hm.wl;have a2:=hm.pl;have a3:=hm.cw;have hw:=hm.W;have n1:=Z0Z t (n:=(w.heap.W.length:Int)) oq;have n2:=Z0Z (t.step (w.heap.W.length:Int)) (n:=(w.heap.P.length:Int)) oq;have n:=Z0Z (spT2 w t) (n:=12) dd;have hd:(spT2 w t).next 12=0∨(spT2 w t).next 12=1∨(spT2 w t).next 12=2∨(spT2 w t).next 12=3∨(spT2 w t).next 12=4∨(spT2 w t).next 12=5∨(spT2 w t).next 12=6∨(spT2 w t).next 12=7∨(spT2 w t).next 12=8∨(spT2 w t).next 12=9∨(spT2 w t).next 12=10∨(spT2 w t).next 12=11:=by omega
 have n3:=fun(n:Int) (h:1≤n)=>Z0Z (spT3 w t) (n:=n) h;have pu:=hus (spP w t);have e7:w.spoil t=⟨spH w t ((spT2 w t).next 12),w.G,w.E⟩:=rfl;have e8:w.spoilT t=if(spT2 w t).next 12≤8 then(spT3 w t).step (spN w ((spT2 w t).next 12))else spT3 w t:=rfl
 have hq:List.take ((↑(List.map Page.dv w.heap.P).length:Int).toNat-Int.toNat 1) (List.drop (Int.toNat 1) (List.map Page.dv w.heap.P))=List.map Page.dv (w.heap.P.drop 1):=by
  show List.take _ (List.drop 1 (List.map Page.dv w.heap.P))=_;rw[← List.map_drop];exact List.take_of_length_le pq
 unfold spT3 spT2 spP at *;rcases hd with hd | hd | hd | hd | hd | hd | hd | hd | hd | hd | hd | hd<;>rw[e7,e8,hd]<;>simp only[spH,spN,spV,spQ,spPg,spI,spP,spT3,spT2,Int.reduceLE,Int.reduceEq,if_true,if_false,reduceIte]<;>clear e7 e8
 ·have n3:=n3 10 oq;exact lF Tryz.func39 [] (Fh 10044 [.els (List.map wdv (w.heap.W.set (t.next (↑w.heap.W.length:Int)).toNat ([0,1,5,21,4096,4097,4112,16386,1099511627776,61].getD ((((t.step (↑w.heap.W.length:Int)).step (↑w.heap.P.length:Int)).step 12).next 10).toNat default)))] (FA 11 14 wdv w.heap.W (FA 15 18 Page.dv w.heap.P (Fl 24 wdv w.heap.W (Fp 25 (@Z0d t ((↑w.heap.W.length:Int)) aa oq oq) (Fl 29 Page.dv w.heap.P (Fp 30 (@Z0d (t.step (↑w.heap.W.length:Int)) ((↑w.heap.P.length:Int)) aa oq oq) (Fp 32 (@Z0X ((t.step (↑w.heap.W.length:Int)).step (↑w.heap.P.length:Int)) (0) aa aa) (Fs 39 (List.map wdv [0,1,5,21,4096,4097,4112,16386,1099511627776,61]) (Fp 41 (@Z0d (((t.step (↑w.heap.W.length:Int)).step (↑w.heap.P.length:Int)).step 12) (10) aa oq oq) (Fmq 43 wdv [0,1,5,21,4096,4097,4112,16386,1099511627776,61] ((((t.step (↑w.heap.W.length:Int)).step (↑w.heap.P.length:Int)).step 12).next 10) (Fa (by(simp only[List.length_map,List.length_cons,List.length_nil];omega):0≤t.next (↑w.heap.W.length:Int)∧(t.next (↑w.heap.W.length:Int)).toNat<(List.map wdv w.heap.W).length) (Fa (by(simp only[List.length_map,List.length_cons,List.length_nil];omega):(t.next (↑w.heap.W.length:Int)).toNat<(List.map wdv w.heap.W).length) (Fa (by simp[spList,List.map_take,List.map_drop,List.map_set,List.map_append,wdv,idv]:(List.map wdv w.heap.W).set (t.next (↑w.heap.W.length:Int)).toNat [du64 ([0,1,5,21,4096,4097,4112,16386,1099511627776,61].getD ((((t.step (↑w.heap.W.length:Int)).step (↑w.heap.P.length:Int)).step 12).next 10).toNat default)]=List.map wdv (w.heap.W.set (t.next (↑w.heap.W.length:Int)).toNat ([0,1,5,21,4096,4097,4112,16386,1099511627776,61].getD ((((t.step (↑w.heap.W.length:Int)).step (↑w.heap.P.length:Int)).step 12).next 10).toNat default))) Fz))))))))))))))
 ·have n3:=n3 10 oq;exact lF Tryz.func39 [] (Fh 10044 [.els (List.map wdv (w.heap.W.set (t.next (↑w.heap.W.length:Int)).toNat ([0,1,5,21,4096,4097,4112,16386,1099511627776,61].getD ((((t.step (↑w.heap.W.length:Int)).step (↑w.heap.P.length:Int)).step 12).next 10).toNat default)))] (FA 11 14 wdv w.heap.W (FA 15 18 Page.dv w.heap.P (Fl 24 wdv w.heap.W (Fp 25 (@Z0d t ((↑w.heap.W.length:Int)) aa oq oq) (Fl 29 Page.dv w.heap.P (Fp 30 (@Z0d (t.step (↑w.heap.W.length:Int)) ((↑w.heap.P.length:Int)) aa oq oq) (Fp 32 (@Z0X ((t.step (↑w.heap.W.length:Int)).step (↑w.heap.P.length:Int)) (1) aa aa) (Fs 39 (List.map wdv [0,1,5,21,4096,4097,4112,16386,1099511627776,61]) (Fp 41 (@Z0d (((t.step (↑w.heap.W.length:Int)).step (↑w.heap.P.length:Int)).step 12) (10) aa oq oq) (Fmq 43 wdv [0,1,5,21,4096,4097,4112,16386,1099511627776,61] ((((t.step (↑w.heap.W.length:Int)).step (↑w.heap.P.length:Int)).step 12).next 10) (Fa (by(simp only[List.length_map,List.length_cons,List.length_nil];omega):0≤t.next (↑w.heap.W.length:Int)∧(t.next (↑w.heap.W.length:Int)).toNat<(List.map wdv w.heap.W).length) (Fa (by(simp only[List.length_map,List.length_cons,List.length_nil];omega):(t.next (↑w.heap.W.length:Int)).toNat<(List.map wdv w.heap.W).length) (Fa (by simp[spList,List.map_take,List.map_drop,List.map_set,List.map_append,wdv,idv]:(List.map wdv w.heap.W).set (t.next (↑w.heap.W.length:Int)).toNat [du64 ([0,1,5,21,4096,4097,4112,16386,1099511627776,61].getD ((((t.step (↑w.heap.W.length:Int)).step (↑w.heap.P.length:Int)).step 12).next 10).toNat default)]=List.map wdv (w.heap.W.set (t.next (↑w.heap.W.length:Int)).toNat ([0,1,5,21,4096,4097,4112,16386,1099511627776,61].getD ((((t.step (↑w.heap.W.length:Int)).step (↑w.heap.P.length:Int)).step 12).next 10).toNat default))) Fz))))))))))))))
 ·have n3:=n3 64 oq;exact lF Tryz.func39 [] (Fh 10057 [.els (List.map wdv (w.heap.W.set (t.next (↑w.heap.W.length:Int)).toNat (bits BinOp.xor IntKind.u64 (w.heap.W.getD (t.next (↑w.heap.W.length:Int)).toNat default) (IntKind.u64.wrap ((1:Int)*2^min ((((t.step (↑w.heap.W.length:Int)).step (↑w.heap.P.length:Int)).step 12).next 64).toNat 64)))))] (FA 11 14 wdv w.heap.W (FA 15 18 Page.dv w.heap.P (Fl 24 wdv w.heap.W (Fp 25 (@Z0d t ((↑w.heap.W.length:Int)) aa oq oq) (Fl 29 Page.dv w.heap.P (Fp 30 (@Z0d (t.step (↑w.heap.W.length:Int)) ((↑w.heap.P.length:Int)) aa oq oq) (Fp 32 (@Z0X ((t.step (↑w.heap.W.length:Int)).step (↑w.heap.P.length:Int)) (2) aa aa) (Fmq 51 wdv w.heap.W (t.next (↑w.heap.W.length:Int)) (Fp 53 (@Z0d (((t.step (↑w.heap.W.length:Int)).step (↑w.heap.P.length:Int)).step 12) (64) aa oq oq) (Fv 54 ((((t.step (↑w.heap.W.length:Int)).step (↑w.heap.P.length:Int)).step 12).next 64) (Fo (0≤(((t.step (↑w.heap.W.length:Int)).step (↑w.heap.P.length:Int)).step 12).next 64) (Fa (by(simp only[List.length_map,List.length_cons,List.length_nil];omega):0≤t.next (↑w.heap.W.length:Int)∧(t.next (↑w.heap.W.length:Int)).toNat<(List.map wdv w.heap.W).length) (Fa (by(simp only[List.length_map,List.length_cons,List.length_nil];omega):(t.next (↑w.heap.W.length:Int)).toNat<(List.map wdv w.heap.W).length) (Fa (by rw[List.map_set];rfl:(List.map wdv w.heap.W).set (t.next (↑w.heap.W.length:Int)).toNat [du64 (bits BinOp.xor IntKind.u64 (w.heap.W.getD (t.next (↑w.heap.W.length:Int)).toNat default) (IntKind.u64.wrap ((1:Int)*2^min ((((t.step (↑w.heap.W.length:Int)).step (↑w.heap.P.length:Int)).step 12).next 64).toNat IntKind.u64.bits)))]=List.map wdv (w.heap.W.set (t.next (↑w.heap.W.length:Int)).toNat (bits BinOp.xor IntKind.u64 (w.heap.W.getD (t.next (↑w.heap.W.length:Int)).toNat default) (IntKind.u64.wrap ((1:Int)*2^min ((((t.step (↑w.heap.W.length:Int)).step (↑w.heap.P.length:Int)).step 12).next 64).toNat 64))))) Fz)))))))))))))))
 ·have n3:=n3 5 oq;exact lF Tryz.func39 [] (FA 11 14 wdv w.heap.W (FA 15 18 Page.dv w.heap.P (Fl 24 wdv w.heap.W (Fp 25 (@Z0d t ((↑w.heap.W.length:Int)) aa oq oq) (Fl 29 Page.dv w.heap.P (Fp 30 (@Z0d (t.step (↑w.heap.W.length:Int)) ((↑w.heap.P.length:Int)) aa oq oq) (Fp 32 (@Z0X ((t.step (↑w.heap.W.length:Int)).step (↑w.heap.P.length:Int)) (3) aa aa) (Fp 64 (@Z0d (((t.step (↑w.heap.W.length:Int)).step (↑w.heap.P.length:Int)).step 12) (5) aa oq oq) (Fm0q Page.dv w.heap.P ((t.step (↑w.heap.W.length:Int)).next (↑w.heap.P.length:Int)) (FS 10066 Page.dv w.heap.P (((t.step (↑w.heap.W.length:Int)).next (↑w.heap.P.length:Int)).toNat) (Page.mk ((((t.step (↑w.heap.W.length:Int)).step (↑w.heap.P.length:Int)).step 12).next 5) (w.heap.P.getD ((t.step (↑w.heap.W.length:Int)).next (↑w.heap.P.length:Int)).toNat default).S (w.heap.P.getD ((t.step (↑w.heap.W.length:Int)).next (↑w.heap.P.length:Int)).toNat default).U (w.heap.P.getD ((t.step (↑w.heap.W.length:Int)).next (↑w.heap.P.length:Int)).toNat default).N) ((w.heap.P.getD ((t.step (↑w.heap.W.length:Int)).next (↑w.heap.P.length:Int)).toNat default).dv) Fz))))))))))
 ·have n3:=n3 3 oq;exact lF Tryz.func39 [] (FA 11 14 wdv w.heap.W (FA 15 18 Page.dv w.heap.P (Fl 24 wdv w.heap.W (Fp 25 (@Z0d t ((↑w.heap.W.length:Int)) aa oq oq) (Fl 29 Page.dv w.heap.P (Fp 30 (@Z0d (t.step (↑w.heap.W.length:Int)) ((↑w.heap.P.length:Int)) aa oq oq) (Fp 32 (@Z0X ((t.step (↑w.heap.W.length:Int)).step (↑w.heap.P.length:Int)) (4) aa aa) (Fp 73 (@Z0d (((t.step (↑w.heap.W.length:Int)).step (↑w.heap.P.length:Int)).step 12) (3) aa oq oq) (Fm0q Page.dv w.heap.P ((t.step (↑w.heap.W.length:Int)).next (↑w.heap.P.length:Int)) (FS 10075 Page.dv w.heap.P (((t.step (↑w.heap.W.length:Int)).next (↑w.heap.P.length:Int)).toNat) (Page.mk (w.heap.P.getD ((t.step (↑w.heap.W.length:Int)).next (↑w.heap.P.length:Int)).toNat default).K ((((t.step (↑w.heap.W.length:Int)).step (↑w.heap.P.length:Int)).step 12).next 3) (w.heap.P.getD ((t.step (↑w.heap.W.length:Int)).next (↑w.heap.P.length:Int)).toNat default).U (w.heap.P.getD ((t.step (↑w.heap.W.length:Int)).next (↑w.heap.P.length:Int)).toNat default).N) ((w.heap.P.getD ((t.step (↑w.heap.W.length:Int)).next (↑w.heap.P.length:Int)).toNat default).dv) Fz))))))))))
 ·have n3:=n3 9 oq;exact lF Tryz.func39 [] (FA 11 14 wdv w.heap.W (FA 15 18 Page.dv w.heap.P (Fl 24 wdv w.heap.W (Fp 25 (@Z0d t ((↑w.heap.W.length:Int)) aa oq oq) (Fl 29 Page.dv w.heap.P (Fp 30 (@Z0d (t.step (↑w.heap.W.length:Int)) ((↑w.heap.P.length:Int)) aa oq oq) (Fp 32 (@Z0X ((t.step (↑w.heap.W.length:Int)).step (↑w.heap.P.length:Int)) (5) aa aa) (Fmq 86 Page.dv w.heap.P ((t.step (↑w.heap.W.length:Int)).next (↑w.heap.P.length:Int)) (Fp 88 (@Z0d (((t.step (↑w.heap.W.length:Int)).step (↑w.heap.P.length:Int)).step 12) (9) aa oq oq) (Fi 89 ((w.heap.P.getD ((t.step (↑w.heap.W.length:Int)).next (↑w.heap.P.length:Int)).toNat default).U+(((t.step (↑w.heap.W.length:Int)).step (↑w.heap.P.length:Int)).step 12).next 9) (Fi 90 ((w.heap.P.getD ((t.step (↑w.heap.W.length:Int)).next (↑w.heap.P.length:Int)).toNat default).U+(((t.step (↑w.heap.W.length:Int)).step (↑w.heap.P.length:Int)).step 12).next (9:Int)-4) (Fm0q Page.dv w.heap.P ((t.step (↑w.heap.W.length:Int)).next (↑w.heap.P.length:Int)) (FS 10092 Page.dv w.heap.P (((t.step (↑w.heap.W.length:Int)).next (↑w.heap.P.length:Int)).toNat) (Page.mk (w.heap.P.getD ((t.step (↑w.heap.W.length:Int)).next (↑w.heap.P.length:Int)).toNat default).K (w.heap.P.getD ((t.step (↑w.heap.W.length:Int)).next (↑w.heap.P.length:Int)).toNat default).S ((w.heap.P.getD ((t.step (↑w.heap.W.length:Int)).next (↑w.heap.P.length:Int)).toNat default).U+(((t.step (↑w.heap.W.length:Int)).step (↑w.heap.P.length:Int)).step 12).next (9:Int)-4) (w.heap.P.getD ((t.step (↑w.heap.W.length:Int)).next (↑w.heap.P.length:Int)).toNat default).N) ((w.heap.P.getD ((t.step (↑w.heap.W.length:Int)).next (↑w.heap.P.length:Int)).toNat default).dv) Fz)))))))))))))
 ·have n3:=n3 3 oq;exact lF Tryz.func39 [] (FA 11 14 wdv w.heap.W (FA 15 18 Page.dv w.heap.P (Fl 24 wdv w.heap.W (Fp 25 (@Z0d t ((↑w.heap.W.length:Int)) aa oq oq) (Fl 29 Page.dv w.heap.P (Fp 30 (@Z0d (t.step (↑w.heap.W.length:Int)) ((↑w.heap.P.length:Int)) aa oq oq) (Fp 32 (@Z0X ((t.step (↑w.heap.W.length:Int)).step (↑w.heap.P.length:Int)) (6) aa aa) (Fp 99 (@Z0d (((t.step (↑w.heap.W.length:Int)).step (↑w.heap.P.length:Int)).step 12) (3) aa oq oq) (Fi 100 ((((t.step (↑w.heap.W.length:Int)).step (↑w.heap.P.length:Int)).step 12).next (3:Int)-1) (Fm0q Page.dv w.heap.P ((t.step (↑w.heap.W.length:Int)).next (↑w.heap.P.length:Int)) (FS 10102 Page.dv w.heap.P (((t.step (↑w.heap.W.length:Int)).next (↑w.heap.P.length:Int)).toNat) (Page.mk (w.heap.P.getD ((t.step (↑w.heap.W.length:Int)).next (↑w.heap.P.length:Int)).toNat default).K (w.heap.P.getD ((t.step (↑w.heap.W.length:Int)).next (↑w.heap.P.length:Int)).toNat default).S (w.heap.P.getD ((t.step (↑w.heap.W.length:Int)).next (↑w.heap.P.length:Int)).toNat default).U ((((t.step (↑w.heap.W.length:Int)).step (↑w.heap.P.length:Int)).step 12).next (3:Int)-1)) ((w.heap.P.getD ((t.step (↑w.heap.W.length:Int)).next (↑w.heap.P.length:Int)).toNat default).dv) Fz)))))))))))
 ·have n3:=n3 3 oq;exact lF Tryz.func39 [] (FA 11 14 wdv w.heap.W (FA 15 18 Page.dv w.heap.P (Fl 24 wdv w.heap.W (Fp 25 (@Z0d t ((↑w.heap.W.length:Int)) aa oq oq) (Fl 29 Page.dv w.heap.P (Fp 30 (@Z0d (t.step (↑w.heap.W.length:Int)) ((↑w.heap.P.length:Int)) aa oq oq) (Fp 32 (@Z0X ((t.step (↑w.heap.W.length:Int)).step (↑w.heap.P.length:Int)) (7) aa aa) (Fp 106 (@Z0d (((t.step (↑w.heap.W.length:Int)).step (↑w.heap.P.length:Int)).step 12) (3) aa oq oq) Fz))))))))
 ·have n3:=n3 ((w.heap.P.length+2:Nat):Int) oq;exact lF Tryz.func39 [] (FA 11 14 wdv w.heap.W (FA 15 18 Page.dv w.heap.P (Fl 24 wdv w.heap.W (Fp 25 (@Z0d t ((↑w.heap.W.length:Int)) aa oq oq) (Fl 29 Page.dv w.heap.P (Fp 30 (@Z0d (t.step (↑w.heap.W.length:Int)) ((↑w.heap.P.length:Int)) aa oq oq) (Fp 32 (@Z0X ((t.step (↑w.heap.W.length:Int)).step (↑w.heap.P.length:Int)) (8) aa aa) (Fl 113 Page.dv w.heap.P (Fw 114 ((↑w.heap.P.length:Int)+2) (↑(w.heap.P.length+2):Int) (Fp 115 (@Z0d (((t.step (↑w.heap.W.length:Int)).step (↑w.heap.P.length:Int)).step 12) ((↑(w.heap.P.length+2):Int)) aa oq oq) (Fi 116 ((((t.step (↑w.heap.W.length:Int)).step (↑w.heap.P.length:Int)).step 12).next (↑(w.heap.P.length+2):Int)-1) Fz)))))))))))
 ·exact lF Tryz.func39 [] (FA 11 14 wdv w.heap.W (FA 15 18 Page.dv w.heap.P (Fl 24 wdv w.heap.W (Fp 25 (@Z0d t ((↑w.heap.W.length:Int)) aa oq oq) (Fl 29 Page.dv w.heap.P (Fp 30 (@Z0d (t.step (↑w.heap.W.length:Int)) ((↑w.heap.P.length:Int)) aa oq oq) (Fp 32 (@Z0X ((t.step (↑w.heap.W.length:Int)).step (↑w.heap.P.length:Int)) (9) aa aa) (Fi 123 (w.heap.C.pw+4) Fz))))))))
 ·exact lF Tryz.func39 [true] (FA 11 14 wdv w.heap.W (FA 15 18 Page.dv w.heap.P (Fl 24 wdv w.heap.W (Fp 25 (@Z0d t ((↑w.heap.W.length:Int)) aa oq oq) (Fl 29 Page.dv w.heap.P (Fp 30 (@Z0d (t.step (↑w.heap.W.length:Int)) ((↑w.heap.P.length:Int)) aa oq oq) (Fp 32 (@Z0X ((t.step (↑w.heap.W.length:Int)).step (↑w.heap.P.length:Int)) (10) aa aa) (Fa (by(simp only[List.length_map,List.length_cons,List.length_nil];omega):(0:Int)≤(1:Int)∧1≤(↑(List.map Page.dv w.heap.P).length:Int)) (Fr w.heap.C.pw (Fr w.heap.C.pg (Fr (List.map wdv w.heap.W) (Fa (by exact hq:List.take ((↑(List.map Page.dv w.heap.P).length:Int).toNat-Int.toNat 1) (List.drop (Int.toNat 1) (List.map Page.dv w.heap.P))=List.map Page.dv (WorldM.mk (Heap.mk w.heap.C w.heap.W (List.drop 1 w.heap.P) w.heap.S w.heap.B) w.G w.E).heap.P) (Fr w.heap.S (Fr w.heap.B (Fr (List.map wdv w.G) (Fr (List.map wdv w.E) Fz))))))))))))))))
 ·exact lF Tryz.func39 [] (FA 11 14 wdv w.heap.W (FA 15 18 Page.dv w.heap.P (Fl 24 wdv w.heap.W (Fp 25 (@Z0d t ((↑w.heap.W.length:Int)) aa oq oq) (Fl 29 Page.dv w.heap.P (Fp 30 (@Z0d (t.step (↑w.heap.W.length:Int)) ((↑w.heap.P.length:Int)) aa oq oq) (Fp 32 (@Z0X ((t.step (↑w.heap.W.length:Int)).step (↑w.heap.P.length:Int)) (11) aa aa) (Fu (@Zo0 w (((t.step (↑w.heap.W.length:Int)).step (↑w.heap.P.length:Int)).step 12) oq) Fz))))))))
structure HOk (h:Heap):Prop where
 w:WOk h.W
 wl:h.W.length≤1048576
 pl:h.P.length≤1048576
theorem Zea(n:Int):0≤IntKind.u64.wrap n∧IntKind.u64.wrap n≤18446744073709551615:=by
 unfold IntKind.wrap;simp only[IntKind.signed,IntKind.bits,Bool.false_and,Bool.false_eq_true,if_false];omega
theorem ZhR{w:WorldM}(hw:WOk w.heap.W)(t:Tape)(d:Int):0≤spV w t d∧spV w t d≤18446744073709551615:=by
 unfold spV;split
 ·have h:∀ x∈spList,0≤x∧x≤18446744073709551615:=by
   intro x hx;simp only[spList,List.mem_cons,List.not_mem_nil,or_false]at hx;omega
  exact Z4p h _
 ·exact Zea _
theorem Zkp{w:WorldM}(hm:MOk w 1000)(t:Tape):HOk (w.spoil t).heap:=by
 have a1:=area hm.hv;have a2:=validB_iff.1 hm.hv;have a3:=hm.L;have a4:=hm.pl;unfold WorldM.spoil spH;simp only;split
 ·refine⟨fun x hx=>?_,by simp only[List.length_set];omega,by simp only;omega⟩;rcases List.mem_or_eq_of_mem_set hx with hx | rfl
  ·exact hm.W x hx
  ·exact ZhR hm.W _ _
 ·split
  ·exact⟨hm.W,by simp only;omega,by simp only[List.length_set];omega⟩
  ·split
   ·exact⟨hm.W,by simp only;omega,by simp only;omega⟩
   ·split
    ·exact⟨hm.W,by simp only;omega,by simp only;omega⟩
    ·split
     ·exact⟨hm.W,by simp only;omega,by simp only;omega⟩
     ·split
      ·exact⟨hm.W,by simp only;omega,by simp only[List.length_drop];omega⟩
      ·exact⟨hm.W,by simp only;omega,by simp only[List.length_map];omega⟩
end Go.Proofs.YtdhchmlalchgeaaGreat
