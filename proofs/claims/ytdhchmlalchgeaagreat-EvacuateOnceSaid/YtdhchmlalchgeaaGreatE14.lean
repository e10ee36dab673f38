/-
 The statement EvacuateOnce: part 14.
 Conditions: none.
-/
import Derived.Test.YtdhchmlalchgeaaGreatE13
set_option maxRecDepth 100000
set_option maxHeartbeats 2000000
set_option linter.all false
namespace Go.Proofs.YtdhchmlalchgeaaGreat
open Go.Sx
def loC(c:List Int)(x:Int):Nat:=(min (max x 0) (c.length:Int)).toNat
def clrW(c:List Int)(x k:Int):List Int:=c.take (loC c x)++List.replicate (loC c (x+k)-loC c x) 0++c.drop (loC c x+(loC c (x+k)-loC c x))
def cwN(h:Heap)(F:Int)(l c:List Int):Nat→List Int
 | 0=>c
 | n+1=>clrW (cwN h F l c n) (l.getD n default-F) (Z4k h (l.getD n default))
theorem Zf1(c:List Int)(x:Int):loC c x≤c.length:=by unfold loC;omega
theorem ZfA(c:List Int)(x:Int){k:Int}(hk:0≤k):loC c x≤loC c (x+k):=by unfold loC;omega
theorem Z9g(h:Heap)(a:Int):0≤Z4k h a∧Z4k h a≤256:=by
 have:=Z1a (atH h a).1;unfold Z4k;split<;>omega
theorem Zlo(c:List Int)(x:Int){k:Int}(hk:0≤k):(clrW c x k).length=c.length:=by
 have h1:=Zf1 c x;have h2:=Zf1 c (x+k);have h3:=ZfA c x hk;simp[clrW];omega
theorem Z9e(h:Heap)(F:Int)(l c:List Int):∀ n,(cwN h F l c n).length=c.length
 | 0=>rfl
 | n+1=>by rw[cwN,Zlo _ _ (Z9g h _).1,Z9e h F l c n]
def adL(h:Heap)(F:Int)(l c:List Int)(n:Nat):Tg:=⟨tm 90 [(2,.pt 8002 0 0),(4,u64 0),(5,bool false),(6,u64 F),(8,.ow 25033),(44,Z01 l),(45,int l.length),(46,int n)],[(25033,.arr 35 1 ((cwN h F l c n).map wdv)),(8002,.box 28 h.cells)],60⟩
theorem Zn8(h:Heap)(F:Int)(l c:List Int)(n:Nat)(hw:WOk h.W)(hF:0≤F∧F≤8192)(hl:l.length≤1048576)(hc:c.length≤64)(hr:∀ x∈l,0≤x∧x≤8192)(hn:n<l.length):CP (rndF Tryz.f194 0) (adL h F l c n).st .nrm (adL h F l c (n+1)).st:=by
 have hx:=hr (l.getD n default) (getD_mem_iff.2 ⟨n,hn,rfl⟩);have hm:=Z3x hw (l.getD n default);have hlen:=Z9e h F l c n;have hs:=Z1a (atH h (l.getD n default)).1;by_cases hk:(atH h (l.getD n default)).1.K=0
 ·have ek:Z4k h (l.getD n default)=1:=if_pos hk;have e7:cwN h F l c (n+1)=clrW (cwN h F l c n) (l.getD n default-F) 1:=by rw[cwN,ek]
  exact sF [] (fO 8) (Fh 20000 [.els (List.map wdv (List.take (min (max (l.getD n default-F) 0) (↑(cwN h F l c n).length:Int)).toNat (cwN h F l c n)++List.replicate ((min (max (l.getD n default-F+1) 0) (↑(cwN h F l c n).length:Int)).toNat-(min (max (l.getD n default-F) 0) (↑(cwN h F l c n).length:Int)).toNat) 0++List.drop ((min (max (l.getD n default-F) 0) (↑(cwN h F l c n).length:Int)).toNat+(List.replicate ((min (max (l.getD n default-F+1) 0) (↑(cwN h F l c n).length:Int)).toNat-(min (max (l.getD n default-F) 0) (↑(cwN h F l c n).length:Int)).toNat) 0).length) (cwN h F l c n)))] (Ftb 47 (decide ((↑n:Int)<(↑l.length:Int))) (Fek 48 wdv l (↑n) n (Fc 53 (@Z3Z h (l.getD n default) aa oq) (Ffb 58 ((atH h (l.getD n default)).fst.K != 0) (Fi 62 (l.getD n default) (Fi 64 F (Fi 65 (l.getD n default-F) (Fgo 68 (if 0 > l.getD n default-F then 0 else l.getD n default-F) (max (l.getD n default-F) 0) (Fl 70 wdv (cwN h F l c n) (Fgo 71 (if(↑(cwN h F l c n).length:Int)<max (l.getD n default-F) 0 then(↑(cwN h F l c n).length:Int)else max (l.getD n default-F) 0) (min (max (l.getD n default-F) 0) (↑(cwN h F l c n).length:Int)) (Fi 74 (l.getD n default-F+1) (Fgo 75 (if 0 > l.getD n default-F+1 then 0 else l.getD n default-F+1) (max (l.getD n default-F+1) 0) (Fl 77 wdv (cwN h F l c n) (Fgo 78 (if(↑(cwN h F l c n).length:Int)<max (l.getD n default-F+1) 0 then(↑(cwN h F l c n).length:Int)else max (l.getD n default-F+1) 0) (min (max (l.getD n default-F+1) 0) (↑(cwN h F l c n).length:Int)) (Fa (by(simp only[List.length_map];omega):0≤min (max (l.getD n default-F) 0) (↑(cwN h F l c n).length:Int)∧min (max (l.getD n default-F) 0) (↑(cwN h F l c n).length:Int)≤min (max (l.getD n default-F+1) 0) (↑(cwN h F l c n).length:Int)∧min (max (l.getD n default-F+1) 0) (↑(cwN h F l c n).length:Int)≤(↑(List.map wdv (cwN h F l c n)).length:Int)) (Fa (by simp only[Z0M,List.map_append,List.map_take,List.map_drop,List.map_replicate,List.length_replicate];rfl:Z0M (List.map wdv (cwN h F l c n)) (min (max (l.getD n default-F) 0) (↑(cwN h F l c n).length:Int)).toNat (List.replicate ((min (max (l.getD n default-F+1) 0) (↑(cwN h F l c n).length:Int)).toNat-(min (max (l.getD n default-F) 0) (↑(cwN h F l c n).length:Int)).toNat) [du64 0])=List.map wdv (List.take (min (max (l.getD n default-F) 0) (↑(cwN h F l c n).length:Int)).toNat (cwN h F l c n)++List.replicate ((min (max (l.getD n default-F+1) 0) (↑(cwN h F l c n).length:Int)).toNat-(min (max (l.getD n default-F) 0) (↑(cwN h F l c n).length:Int)).toNat) 0++List.drop ((min (max (l.getD n default-F) 0) (↑(cwN h F l c n).length:Int)).toNat+(List.replicate ((min (max (l.getD n default-F+1) 0) (↑(cwN h F l c n).length:Int)).toNat-(min (max (l.getD n default-F) 0) (↑(cwN h F l c n).length:Int)).toNat) 0).length) (cwN h F l c n))) (Fx 80 n (Fr (35:Int) (Fa (by refine congrArg _ ?_;rw[e7];simp only[clrW,loC,List.length_replicate]:List.map wdv (List.take (min (max (l.getD n default-F) 0) (↑(cwN h F l c n).length:Int)).toNat (cwN h F l c n)++List.replicate ((min (max (l.getD n default-F+1) 0) (↑(cwN h F l c n).length:Int)).toNat-(min (max (l.getD n default-F) 0) (↑(cwN h F l c n).length:Int)).toNat) 0++List.drop ((min (max (l.getD n default-F) 0) (↑(cwN h F l c n).length:Int)).toNat+(List.replicate ((min (max (l.getD n default-F+1) 0) (↑(cwN h F l c n).length:Int)).toNat-(min (max (l.getD n default-F) 0) (↑(cwN h F l c n).length:Int)).toNat) 0).length) (cwN h F l c n))=List.map wdv (cwN h F l c (n+1))) Fz))))))))))))))))))))
 ·have ek:Z4k h (l.getD n default)=sizeH (atH h (l.getD n default)).1:=if_neg hk;have e7:cwN h F l c (n+1)=clrW (cwN h F l c n) (l.getD n default-F) (sizeH (atH h (l.getD n default)).1):=by rw[cwN,ek]
  exact sF [] (fO 8) (Fh 20000 [.els (List.map wdv (List.take (min (max (l.getD n default-F) 0) (↑(cwN h F l c n).length:Int)).toNat (cwN h F l c n)++List.replicate ((min (max (l.getD n default-F+sizeH (atH h (l.getD n default)).fst) 0) (↑(cwN h F l c n).length:Int)).toNat-(min (max (l.getD n default-F) 0) (↑(cwN h F l c n).length:Int)).toNat) 0++List.drop ((min (max (l.getD n default-F) 0) (↑(cwN h F l c n).length:Int)).toNat+(List.replicate ((min (max (l.getD n default-F+sizeH (atH h (l.getD n default)).fst) 0) (↑(cwN h F l c n).length:Int)).toNat-(min (max (l.getD n default-F) 0) (↑(cwN h F l c n).length:Int)).toNat) 0).length) (cwN h F l c n)))] (Ftb 47 (decide ((↑n:Int)<(↑l.length:Int))) (Fek 48 wdv l (↑n) n (Fc 53 (@Z3Z h (l.getD n default) aa oq) (Ftb 58 ((atH h (l.getD n default)).fst.K != 0) (Fc 60 (@Z0O ((atH h (l.getD n default)).fst) aa) (Fi 62 (l.getD n default) (Fi 64 F (Fi 65 (l.getD n default-F) (Fgo 68 (if 0 > l.getD n default-F then 0 else l.getD n default-F) (max (l.getD n default-F) 0) (Fl 70 wdv (cwN h F l c n) (Fgo 71 (if(↑(cwN h F l c n).length:Int)<max (l.getD n default-F) 0 then(↑(cwN h F l c n).length:Int)else max (l.getD n default-F) 0) (min (max (l.getD n default-F) 0) (↑(cwN h F l c n).length:Int)) (Fi 74 (l.getD n default-F+sizeH (atH h (l.getD n default)).fst) (Fgo 75 (if 0 > l.getD n default-F+sizeH (atH h (l.getD n default)).fst then 0 else l.getD n default-F+sizeH (atH h (l.getD n default)).fst) (max (l.getD n default-F+sizeH (atH h (l.getD n default)).fst) 0) (Fl 77 wdv (cwN h F l c n) (Fgo 78 (if(↑(cwN h F l c n).length:Int)<max (l.getD n default-F+sizeH (atH h (l.getD n default)).fst) 0 then(↑(cwN h F l c n).length:Int)else max (l.getD n default-F+sizeH (atH h (l.getD n default)).fst) 0) (min (max (l.getD n default-F+sizeH (atH h (l.getD n default)).fst) 0) (↑(cwN h F l c n).length:Int)) (Fa (by(simp only[List.length_map];omega):0≤min (max (l.getD n default-F) 0) (↑(cwN h F l c n).length:Int)∧min (max (l.getD n default-F) 0) (↑(cwN h F l c n).length:Int)≤min (max (l.getD n default-F+sizeH (atH h (l.getD n default)).fst) 0) (↑(cwN h F l c n).length:Int)∧min (max (l.getD n default-F+sizeH (atH h (l.getD n default)).fst) 0) (↑(cwN h F l c n).length:Int)≤(↑(List.map wdv (cwN h F l c n)).length:Int)) (Fa (by simp only[Z0M,List.map_append,List.map_take,List.map_drop,List.map_replicate,List.length_replicate];rfl:Z0M (List.map wdv (cwN h F l c n)) (min (max (l.getD n default-F) 0) (↑(cwN h F l c n).length:Int)).toNat (List.replicate ((min (max (l.getD n default-F+sizeH (atH h (l.getD n default)).fst) 0) (↑(cwN h F l c n).length:Int)).toNat-(min (max (l.getD n default-F) 0) (↑(cwN h F l c n).length:Int)).toNat) [du64 0])=List.map wdv (List.take (min (max (l.getD n default-F) 0) (↑(cwN h F l c n).length:Int)).toNat (cwN h F l c n)++List.replicate ((min (max (l.getD n default-F+sizeH (atH h (l.getD n default)).fst) 0) (↑(cwN h F l c n).length:Int)).toNat-(min (max (l.getD n default-F) 0) (↑(cwN h F l c n).length:Int)).toNat) 0++List.drop ((min (max (l.getD n default-F) 0) (↑(cwN h F l c n).length:Int)).toNat+(List.replicate ((min (max (l.getD n default-F+sizeH (atH h (l.getD n default)).fst) 0) (↑(cwN h F l c n).length:Int)).toNat-(min (max (l.getD n default-F) 0) (↑(cwN h F l c n).length:Int)).toNat) 0).length) (cwN h F l c n))) (Fx 80 n (Fr (35:Int) (Fa (by refine congrArg _ ?_;rw[e7];simp only[clrW,loC,List.length_replicate]:List.map wdv (List.take (min (max (l.getD n default-F) 0) (↑(cwN h F l c n).length:Int)).toNat (cwN h F l c n)++List.replicate ((min (max (l.getD n default-F+sizeH (atH h (l.getD n default)).fst) 0) (↑(cwN h F l c n).length:Int)).toNat-(min (max (l.getD n default-F) 0) (↑(cwN h F l c n).length:Int)).toNat) 0++List.drop ((min (max (l.getD n default-F) 0) (↑(cwN h F l c n).length:Int)).toNat+(List.replicate ((min (max (l.getD n default-F+sizeH (atH h (l.getD n default)).fst) 0) (↑(cwN h F l c n).length:Int)).toNat-(min (max (l.getD n default-F) 0) (↑(cwN h F l c n).length:Int)).toNat) 0).length) (cwN h F l c n))=List.map wdv (cwN h F l c (n+1))) Fz)))))))))))))))))))))
theorem Zqe(h:Heap)(F:Int)(l c:List Int):CP (rndF Tryz.f194 0) (adL h F l c l.length).st (.ext 0) (Tg.st ⟨tm 90 [(4,u64 0),(5,bool false),(6,u64 F),(8,.ow 25033)],[(25033,.arr 35 1 ((cwN h F l c l.length).map wdv))],60⟩):=by
 exact sF [] [] (Ffb 47 (decide ((↑l.length:Int)<(↑l.length:Int))) Fz)
theorem Zpw(h:Heap)(F:Int)(l c:List Int)(hw:WOk h.W)(hF:0≤F∧F≤8192)(hl:l.length≤1048576)(hc:c.length≤64)(hr:∀ x∈l,0≤x∧x≤8192):CP (blkF Tryz.f194 0) (Tg.st ⟨tm 90 [(2,.pt 8002 0 0),(4,u64 0),(5,bool false),(6,u64 F),(8,.ow 25033),(44,Z01 l),(45,int l.length),(46,int 0)],[(25033,.arr 35 1 (c.map wdv)),(8002,.box 28 h.cells)],60⟩) .nrm
  (Tg.st ⟨tm 90 [(4,u64 0),(5,bool false),(6,u64 F),(8,.ow 25033)],[(25033,.arr 35 1 ((cwN h F l c l.length).map wdv))],60⟩) :=
 Z0a (S:=fun n=>(adL h F l c n).st) l.length kr (fun n hn=>Zn8 h F l c n hw hF hl hc hr hn) (Zqe h F l c)
def rawP(h:Heap)(i:Nat):List Int:=(h.W.drop ((address h.C i 0).1-4096).toNat).take h.C.pw.toNat
def clrP(h:Heap)(i:Nat):List Int:=cwN h (address h.C i 0).1 (Z07 h (Z0x h.P i:Nat)).1 (rawP h i) (Z07 h (Z0x h.P i:Nat)).1.length
theorem Z6T(h:Heap)(i:Nat)(hw:WOk h.W)(hp:Z02 h=true)(hi:i<h.P.length):GP 194 [h.av,int i] true (.tu [u64 ((address h.C i 0).1+max (idxW (clrP h i)) 0),bool (decide (0≤idxW (clrP h i)))]) []:=by
 have po:=Z06 hp;have ea:(address h.C i 0).1=4096+i*h.C.pw:=by
  unfold address;rw[if_pos po.1,if_pos (inB_iff.2 oq)];simp only;omega
 have ap:=Z2K po.1 (i:=i) oq oq;have hh:=Zbb h.P i;have hx:(i:Int)*h.C.pw+h.C.pw≤h.W.length:=by
  have h1:((i:Int)+1)*h.C.pw≤h.C.pg*h.C.pw:=Int.mul_le_mul_of_nonneg_right oq oq;have h2:((i:Int)+1)*h.C.pw=i*h.C.pw+h.C.pw:=by rw[Int.add_mul,Int.one_mul]
  have h3:h.C.pg*h.C.pw=h.C.pw*h.C.pg:=Int.mul_comm _ _;omega
 have hr:=Z2L hp (Z0x h.P i:Nat);have hn:=Z2V h (Z0x h.P i:Nat);have hlen:(clrP h i).length≤64:=by
  rw[clrP,Z9e,rawP,List.length_take];omega
 have hix:idxW (clrP h i)≤64∧-1≤idxW (clrP h i):=by
  have:fstW (clrP h i)≤(clrP h i).length:=(List.takeWhile_sublist _).length_le;unfold idxW;split<;>omega
 have hrl:(rawP h i).length≤64:=by rw[rawP,List.length_take];omega
 unfold clrP rawP at *;let y1:=address h.C (↑i:Int) 0;let y0:=cwN h y1.fst (Z07 h (↑(Z0x h.P i):Int)).fst (List.take h.C.pw.toNat (List.drop (y1.fst-4096).toNat h.W)) (Z07 h (↑(Z0x h.P i):Int)).fst.length;exact gF [] Tryz.func194 [] (Fc 23 (@Z3M h.C ((↑i:Int)) (0)) (Fc 33 (@Zhs h.W (y1.fst) h.C.pw oq oq) (Fc 40 (@Zii h i aa aa) (Fc 41 (@Z3C h ((↑(Z0x h.P i):Int)) aa oq) (Fl 45 wdv (Z07 h (↑(Z0x h.P i):Int)).fst (Fu (@Zpw h (y1.fst) ((Z07 h (↑(Z0x h.P i):Int)).fst) (List.take h.C.pw.toNat (List.drop (y1.fst-4096).toNat h.W)) aa oq oq aa aa) (Fc 82 (@Zpu y0 oq) (Fgo 85 (if 0 > idxW y0 then 0 else idxW y0) (max (idxW y0) 0) (Fv 86 (max (idxW y0) 0) (Fv 87 (y1.fst+max (idxW y0) 0) Fz))))))))))
def unS(fn:Func):Func:=match fn.body with
 | some (.seq x (.scope c)) => { fn with body:=some (.seq x c) }
 | _=>fn
def firS(fn:Func):Code:=match fn.body with
 | some (.seq x _)=>x
 | _=>.skip
def bdyS(fn:Func):Code:=match fn.body with
 | some (.seq _ c)=>c
 | _=>.skip
theorem Zir{P:Program}{c:Code}{n m:Nat}{s t:St}(hmn:m≠n)(h:CSpec P c s (.ext m) t):CSpec P (.block n c) s (.ext m) t:=by
 intro Ow Im0 w0 a w hS;refine wp_block (wp_mono (h Ow Im0 w0 a w hS) ?_);rintro e a' w' ⟨rfl,hS'⟩;show(if m=n then _ else _);rw[if_neg hmn];exact⟨rfl,hS'⟩
theorem Zem{P:Program}{fn:Func}{b m:Nat}{S:Nat→St}{t:St}(n:Nat)(hb:Z6Z b (blkF fn b)=true)(hm:m≠b)(h:∀ i,i<n→CSpec P (rndF fn b) (S i) .nrm (S (i+1)))(hn:CSpec P (rndF fn b) (S n) (.ext m) t):CSpec P (blkF fn b) (S 0) (.ext m) t:=by
 rw[Z6E hb];exact Zir hm (Zeb (ZdW n h (fun h=>nomatch h) hn))
def fdV(h:Heap)(a k:Int):Int:=(loadA h.W (a+1+k)).1
def pbad(h:Heap)(all:List Int)(a k:Int):Bool:=(fdV h a k != 0)&&!decide (fdV h a k∈all)
theorem pbad_yes{h:Heap}{all:List Int}{a k:Int}:pbad h all a k=true↔¬ fdV h a k=0∧¬ fdV h a k∈all:=by simp[pbad]
theorem pbad_no{h:Heap}{all:List Int}{a k:Int}:pbad h all a k=false↔fdV h a k=0∨fdV h a k∈all:=by
 by_cases h1:fdV h a k=0<;>by_cases h2:fdV h a k∈all<;>simp[pbad,h1,h2]
def yJ(a:Int)(P:List Int):Nat→Int
 | 0=>0
 | j+1=>a+1+P.getD j default
def apI(h:Heap)(all:List Int)(i:Nat)(a:Int)(P:List Int)(j:Nat):Tg:=⟨tm 83 [(1,.pt 8001 0 0),(2,.pt 8002 0 0),(3,Z01 all),(5,u64 (yJ a P j)),(7,u64 a),(24,Z01 all),(25,int all.length),(26,int i),(37,Z0q P),(38,int P.length),(39,int j)],[(8002,.box 180 [int 0,int 0,u64 0]),(8001,.box 28 h.cells)],64⟩
section
variable (h:Heap) (all:List Int) (i:Nat) (a:Int) (P:List Int) (j:Nat) (hw:WOk h.W) (hwl:h.W.length≤1048576) (hl:all.length≤1048576) (hs:all.Pairwise (· < ·)) (ha:0≤a∧a≤8192) (hP:P.length≤256) (hk:0≤P.getD j default∧P.getD j default≤256) (hj:j<P.length)
include hw hwl hl hs ha hP hk hj
theorem ZfR(hb:pbad h all a (P.getD j default)=false):CP (rndF (unS Tryz.f170) 2) (apI h all i a P j).st .nrm (apI h all i a P (j+1)).st:=by
 have ey:yJ a P (j+1)=a+1+P.getD j default:=rfl;have hb':=pbad_no.1 hb;unfold fdV at hb';clear hb;generalize hy:yJ a P (j+1)=y1 at ey;unfold apI;rw[hy];rcases hb' with hb | hb
 ·exact sF [] (fO 5) (Ftb 40 (decide ((↑j:Int)<(↑P.length:Int))) (Fek 41 idv P (↑j) j (Fv 44 (a+1) (Fv 46 (P.getD j default) (Fv 47 (a+1+P.getD j default) (Fc 52 (@Z70 h.W (a+1+P.getD j default) aa oq) (Fc 58 (@bsearch all ((loadA h.W (a+1+P.getD j default)).fst) aa aa) (Ffb 66 ((loadA h.W (a+1+P.getD j default)).fst != 0&&!decide ((loadA h.W (a+1+P.getD j default)).fst∈all)) (Fx 67 j (Fa ‹a+1+P.getD j default=y1› Fz))))))))))
 ·exact sF [] (fO 5) (Ftb 40 (decide ((↑j:Int)<(↑P.length:Int))) (Fek 41 idv P (↑j) j (Fv 44 (a+1) (Fv 46 (P.getD j default) (Fv 47 (a+1+P.getD j default) (Fc 52 (@Z70 h.W (a+1+P.getD j default) aa oq) (Fc 58 (@bsearch all ((loadA h.W (a+1+P.getD j default)).fst) aa aa) (Ffs 66 ((loadA h.W (a+1+P.getD j default)).fst != 0&&!decide ((loadA h.W (a+1+P.getD j default)).fst∈all)) (Fx 67 j (Fa ‹a+1+P.getD j default=y1› Fz))))))))))
theorem ZlB(hb:pbad h all a (P.getD j default)=true):CP (rndF (unS Tryz.f170) 2) (apI h all i a P j).st (.ext 0) (Tg.st ⟨tm 83 [(1,.pt 8001 0 0),(2,.pt 8002 0 0),(5,u64 (a+1+P.getD j default))],[(8002,.box 180 [int 0,int 0,u64 0]),(8001,.box 28 h.cells)],68⟩):=by
 obtain⟨hb1,hb2⟩:=pbad_yes.1 hb;unfold fdV at hb1 hb2;clear hb;exact sF [] [] (Ftb 40 (decide ((↑j:Int)<(↑P.length:Int))) (Fek 41 idv P (↑j) j (Fv 44 (a+1) (Fv 46 (P.getD j default) (Fv 47 (a+1+P.getD j default) (Fc 52 (@Z70 h.W (a+1+P.getD j default) aa oq) (Fc 58 (@bsearch all ((loadA h.W (a+1+P.getD j default)).fst) aa aa) (Fts 66 ((loadA h.W (a+1+P.getD j default)).fst != 0&&!decide ((loadA h.W (a+1+P.getD j default)).fst∈all)) Fz))))))))
end
theorem ZpQ(h:Heap)(all:List Int)(i:Nat)(a:Int)(P:List Int):CP (rndF (unS Tryz.f170) 2) (apI h all i a P P.length).st (.ext 2) (Tg.st ⟨tm 83 [(1,.pt 8001 0 0),(2,.pt 8002 0 0),(3,Z01 all),(24,Z01 all),(25,int all.length),(26,int i)],[(8002,.box 180 [int 0,int 0,u64 0]),(8001,.box 28 h.cells)],68⟩):=by
 exact sF [] [] (Ffb 40 (decide ((↑P.length:Int)<(↑P.length:Int))) Fz)
theorem ZnG(h:Heap)(all:List Int)(i:Nat)(a:Int)(P:List Int)(hw:WOk h.W)(hwl:h.W.length≤1048576)(hl:all.length≤1048576)(hs:all.Pairwise (· < ·))(ha:0≤a∧a≤8192)(hP:P.length≤256)(hk:∀ k∈P,0≤k∧k≤256)(hf:P.find? (pbad h all a)=none) :
  CP (blkF (unS Tryz.f170) 2) (Tg.st ⟨tm 83 [(1,.pt 8001 0 0),(2,.pt 8002 0 0),(3,Z01 all),(5,u64 0),(7,u64 a),(24,Z01 all),(25,int all.length),(26,int i),(37,Z0q P),(38,int P.length),(39,int 0)],[(8002,.box 180 [int 0,int 0,u64 0]),(8001,.box 28 h.cells)],64⟩) .nrm (Tg.st ⟨tm 83 [(1,.pt 8001 0 0),(2,.pt 8002 0 0),(3,Z01 all),(24,Z01 all),(25,int all.length),(26,int i)],[(8002,.box 180 [int 0,int 0,u64 0]),(8001,.box 28 h.cells)],68⟩) :=
 Z0a (S:=fun j=>(apI h all i a P j).st) P.length kr (fun j hj=>ZfR h all i a P j hw hwl hl hs ha hP (hk _ (getD_mem_iff.2 ⟨j,hj,rfl⟩)) hj (Z7e hf j hj)) (ZpQ h all i a P)
theorem Zms(h:Heap)(all:List Int)(i:Nat)(a:Int)(P:List Int)(x:Int)(hw:WOk h.W)(hwl:h.W.length≤1048576)(hl:all.length≤1048576)(hs:all.Pairwise (· < ·))(ha:0≤a∧a≤8192)(hP:P.length≤256)(hk:∀ k∈P,0≤k∧k≤256)(hf:P.find? (pbad h all a)=some x) :
  CP (blkF (unS Tryz.f170) 2) (Tg.st ⟨tm 83 [(1,.pt 8001 0 0),(2,.pt 8002 0 0),(3,Z01 all),(5,u64 0),(7,u64 a),(24,Z01 all),(25,int all.length),(26,int i),(37,Z0q P),(38,int P.length),(39,int 0)],[(8002,.box 180 [int 0,int 0,u64 0]),(8001,.box 28 h.cells)],64⟩) (.ext 0) (Tg.st ⟨tm 83 [(1,.pt 8001 0 0),(2,.pt 8002 0 0),(5,u64 (a+1+x))],[(8002,.box 180 [int 0,int 0,u64 0]),(8001,.box 28 h.cells)],68⟩):=by
 obtain⟨n,h1,h2,h3,h4⟩:=Z3J hf;subst h2;exact Zem (S:=fun j=>(apI h all i a P j).st) n kr dd (fun j hj=>ZfR h all i a P j hw hwl hl hs ha hP (hk _ (getD_mem_iff.2 ⟨j,by omega,rfl⟩)) oq (h4 j hj)) (ZlB h all i a P n hw hwl hl hs ha hP (hk _ (getD_mem_iff.2 ⟨n,h1,rfl⟩)) h1 h3)
def apF(h:Heap)(all:List Int)(a:Int):Option Int:=(Z09 (atH h a).1).find? (pbad h all a)
def apL(h:Heap)(all:List Int)(i:Nat):Tg:=⟨tm 83 [(1,.pt 8001 0 0),(2,.pt 8002 0 0),(3,Z01 all),(5,u64 0),(24,Z01 all),(25,int all.length),(26,int i)],[(8002,.box 180 [int 0,int 0,u64 0]),(8001,.box 28 h.cells)],60⟩
theorem Z7m(h:Header):∀ n:Nat,∀ k∈Z11 h n,0≤k∧k<n
 | 0,k,hk=>by simp[Z11]at hk
 | n+1,k,hk=>by
  unfold Z11 at hk;split at hk
  ·rcases List.mem_append.1 hk with hk | hk
   ·have:=Z7m h n k hk;omega
   ·simp only[List.mem_cons,List.not_mem_nil,or_false]at hk;omega
  ·have:=Z7m h n k hk;omega
theorem Z4s(h:Header):(Z09 h).length≤256∧∀ k∈Z09 h,0≤k∧k≤256:=by
 rw[← Z7Q];have hs:=Z1a h;have h1:=Z4e h (sizeH h).toNat
 exact⟨by omega,fun k hk=>by have:=Z7m h _ k hk;omega⟩
section
variable (h:Heap) (all:List Int) (i:Nat) (hw:WOk h.W) (hwl:h.W.length≤1048576) (hl:all.length≤1048576) (hs:all.Pairwise (· < ·)) (hr:∀ x∈all,0≤x∧x≤8192) (hi:i<all.length)
include hw hwl hl hs hr hi
theorem Zi9(hb:apF h all (all.getD i default)=none):CP (rndF (unS Tryz.f170) 0) (apL h all i).st .nrm (apL h all (i+1)).st:=by
 have hx:=hr (all.getD i default) (getD_mem_iff.2 ⟨i,hi,rfl⟩);have hm:=Z3x hw (all.getD i default);have hq:=Z4s (atH h (all.getD i default)).1;have hq1:=hq.1;have hq2:=hq.2;unfold apF at hb;let y0:=all.getD i default;let y1:=Z09 (atH h y0).fst;exact sF [] [] (Fk (2,Tg.mk (tm 83 [(1,AV.pt 8001 0 0),(2,AV.pt 8002 0 0),(3,Z01 all),(5,u64 0),(7,u64 y0),(24,Z01 all),(25,int ↑all.length),(26,int ↑i),(37,Z0q y1),(38,int (↑y1.length:Int)),(39,int 0)]) [(8002,Blk.box 180 [int 0,int 0,u64 0]),(8001,Blk.box 28 h.cells)] 64,Ex.nrm,Tg.mk (tm 83 [(1,AV.pt 8001 0 0),(2,AV.pt 8002 0 0),(3,Z01 all),(24,Z01 all),(25,int ↑all.length),(26,int ↑i)]) [(8002,Blk.box 180 [int 0,int 0,u64 0]),(8001,Blk.box 28 h.cells)] 68) (Ftb 27 (decide ((↑i:Int)<(↑all.length:Int))) (Fek 28 wdv all (↑i) i (Fc 33 (@Z3Z h y0 aa oq) (Fc 37 (@Z5W ((atH h y0).fst) aa) (Fl 38 idv y1 (Fa (@ZnG h all i y0 y1 aa aa aa aa aa aa aa aa) (Fx 68 i Fz))))))))
theorem Zn1(x:Int)(hb:apF h all (all.getD i default)=some x):CP (rndF (unS Tryz.f170) 0) (apL h all i).st (.ext 0) (Tg.st ⟨tm 83 [(1,.pt 8001 0 0),(2,.pt 8002 0 0),(5,u64 (all.getD i default+1+x))],[(8002,.box 180 [int 0,int 0,u64 0]),(8001,.box 28 h.cells)],72⟩):=by
 have hx:=hr (all.getD i default) (getD_mem_iff.2 ⟨i,hi,rfl⟩);have hm:=Z3x hw (all.getD i default);have hq:=Z4s (atH h (all.getD i default)).1;have hq1:=hq.1;have hq2:=hq.2;unfold apF at hb;let y0:=all.getD i default;let y1:=Z09 (atH h y0).fst;exact sF [] [] (Fk (2,Tg.mk (tm 83 [(1,AV.pt 8001 0 0),(2,AV.pt 8002 0 0),(3,Z01 all),(5,u64 0),(7,u64 y0),(24,Z01 all),(25,int ↑all.length),(26,int ↑i),(37,Z0q y1),(38,int (↑y1.length:Int)),(39,int 0)]) [(8002,Blk.box 180 [int 0,int 0,u64 0]),(8001,Blk.box 28 h.cells)] 64,Ex.ext 0,Tg.mk (tm 83 [(1,AV.pt 8001 0 0),(2,AV.pt 8002 0 0),(5,u64 (all.getD i default+1+x))]) [(8002,Blk.box 180 [int 0,int 0,u64 0]),(8001,Blk.box 28 h.cells)] 68) (Ftb 27 (decide ((↑i:Int)<(↑all.length:Int))) (Fek 28 wdv all (↑i) i (Fc 33 (@Z3Z h y0 aa oq) (Fc 37 (@Z5W ((atH h y0).fst) aa) (Fl 38 idv y1 (Fa (@Zms h all i y0 y1 x aa aa aa aa aa aa aa aa) Fz)))))))
end
theorem Zq4(h:Heap)(all:List Int):CP (rndF (unS Tryz.f170) 0) (apL h all all.length).st (.ext 0) (Tg.st ⟨tm 83 [(1,.pt 8001 0 0),(2,.pt 8002 0 0),(5,u64 0)],[(8002,.box 180 [int 0,int 0,u64 0]),(8001,.box 28 h.cells)],72⟩):=by
 exact sF [] [] (Ffb 27 (decide ((↑all.length:Int)<(↑all.length:Int))) Fz)
def Zpt(h:Heap)(all:List Int)(hw:WOk h.W)(hwl:h.W.length≤1048576)(hl:all.length≤1048576)(hs:all.Pairwise (· < ·))(hr:∀ x∈all,0≤x∧x≤8192)(hf:all.find? (fun a=>(apF h all a).isSome)=none)  := Z0a (S:=fun i=>(apL h all i).st) all.length (by kernel_rfl) (fun i hi=>Zi9 h all i hw hwl hl hs hr hi (by simpa using Z7e hf i hi)) (Zq4 h all)
theorem ZnT(h:Heap)(all:List Int)(a x:Int)(hw:WOk h.W)(hwl:h.W.length≤1048576)(hl:all.length≤1048576)(hs:all.Pairwise (· < ·))(hr:∀ x∈all,0≤x∧x≤8192)(hf:all.find? (fun a=>(apF h all a).isSome)=some a)(hx:apF h all a=some x):CP (blkF (unS Tryz.f170) 0) (Tg.st ⟨tm 83 [(1,.pt 8001 0 0),(2,.pt 8002 0 0),(3,Z01 all),(5,u64 0),(24,Z01 all),(25,int all.length),(26,int 0)],[(8002,.box 180 [int 0,int 0,u64 0]),(8001,.box 28 h.cells)],60⟩) .nrm (Tg.st ⟨tm 83 [(1,.pt 8001 0 0),(2,.pt 8002 0 0),(5,u64 (a+1+x))],[(8002,.box 180 [int 0,int 0,u64 0]),(8001,.box 28 h.cells)],72⟩):=by
 obtain⟨n,h1,h2,h3,h4⟩:=Z3J hf;subst h2;exact Z0a (S:=fun i=>(apL h all i).st) n kr (fun i hi=>Zi9 h all i hw hwl hl hs hr oq (by simpa using h4 i hi)) (Zn1 h all n hw hwl hl hs hr h1 x hx)
theorem Zq1(h:Heap):CP (firS (unS Tryz.f170)) (Tg.st ⟨tm 83 [(0,h.av)],[],1⟩) .nrm (Tg.st ⟨tm 83 [(1,.pt 8001 0 0),(2,.pt 8002 0 0)],[(8002,.box 180 [int 0,int 0,u64 0]),(8001,.box 28 h.cells)],20⟩):=by
 exact sF [] [] Fz
def apAt(h:Heap):Int:=match (Z03 h).1.find? (fun a=>(apF h (Z03 h).1 a).isSome)with
 | some a=>a+1+(apF h (Z03 h).1 a).getD 0
 | none=>0
def apW(h:Heap):Finding:=if apAt h=0 then⟨0,0,0⟩else⟨6,(ofA h.C (apAt h)).1,apAt h⟩
theorem ZpY(h:Heap)(hw:WOk h.W)(hwl:h.W.length≤1048576):CP (bdyS (unS Tryz.f170)) (Tg.st ⟨tm 83 [(1,.pt 8001 0 0),(2,.pt 8002 0 0)],[(8002,.box 180 [int 0,int 0,u64 0]),(8001,.box 28 h.cells)],20⟩) .ret (Tg.st ⟨tm 83 [(2,.pt 8002 0 0)],[(8002,.box 180 [int (apW h).fault,int (apW h).page,u64 (apW h).addr])],90⟩):=by
 have hl:=Z2f h;have hs:=Z91 h;have hr:=Z3k h;cases hf:(Z03 h).1.find? (fun a=>(apF h (Z03 h).1 a).isSome)with
 | none =>
  have e1:apAt h=0:=by simp only[apAt,hf]
  have e7:apW h=⟨0,0,0⟩:=if_pos e1;rw[e7];exact sF [] [] (Fk (0,Tg.mk (tm 83 [(1,AV.pt 8001 0 0),(2,AV.pt 8002 0 0),(3,Z01 (Z03 h).fst),(5,u64 0),(24,Z01 (Z03 h).fst),(25,int (↑(Z03 h).fst.length:Int)),(26,int 0)]) [(8002,Blk.box 180 [int 0,int 0,u64 0]),(8001,Blk.box 28 h.cells)] 60,Ex.nrm,Tg.mk (tm 83 [(1,AV.pt 8001 0 0),(2,AV.pt 8002 0 0),(5,u64 0)]) [(8002,Blk.box 180 [int 0,int 0,u64 0]),(8001,Blk.box 28 h.cells)] 72) (Fc 21 (@Z6l h aa) (Fl 25 wdv (Z03 h).fst (Fa (@Zpt h ((Z03 h).fst) aa aa oq aa aa aa) Fz))))
 | some a =>
  obtain⟨n,h1,h2,h3,h4⟩:=Z3J hf;obtain⟨x,hx⟩:=Option.isSome_iff_exists.1 h3;have ha:=hr a (getD_mem_iff.2 ⟨n,h1,h2⟩);have hxr:=(Z4s (atH h a).1).2 x (List.mem_of_find?_eq_some hx);have e1:apAt h=a+1+x:=by simp only[apAt,hf,hx,Option.getD_some]
  have e7:apW h=⟨6,(ofA h.C (a+1+x)).1,a+1+x⟩:=by rw[apW,e1,if_neg oq]
  rw[e7];exact sF [] [] (Fk (0,Tg.mk (tm 83 [(1,AV.pt 8001 0 0),(2,AV.pt 8002 0 0),(3,Z01 (Z03 h).fst),(5,u64 0),(24,Z01 (Z03 h).fst),(25,int (↑(Z03 h).fst.length:Int)),(26,int 0)]) [(8002,Blk.box 180 [int 0,int 0,u64 0]),(8001,Blk.box 28 h.cells)] 60,Ex.nrm,Tg.mk (tm 83 [(1,AV.pt 8001 0 0),(2,AV.pt 8002 0 0),(5,u64 (a+1+x))]) [(8002,Blk.box 180 [int 0,int 0,u64 0]),(8001,Blk.box 28 h.cells)] 72) (Fc 21 (@Z6l h aa) (Fl 25 wdv (Z03 h).fst (Fa (@ZnT h ((Z03 h).fst) a x aa aa oq aa aa aa aa) (Ffb 70 (a+1+x==0) (Fc 76 (@Z2n h.C (a+1+x) oq oq) Fz))))))
end Go.Proofs.YtdhchmlalchgeaaGreat
namespace Go.Proofs.YtdhchmlalchgeaaGreat
open Go.Sx Go.RowKit
def Finding.val(f:Finding):Value:=.agg #[.int .i64 f.fault,.int .i64 f.page,.int .u64 f.addr]
theorem ZdT(ρ:Rho)(w:World)(Im:Nat→Prop)(f:Finding):Rel ρ w Im f.av f.val:=by
 refine .ag _ _ rfl (fun i v h=>?_) (fun i a v ha hv=>?_)
 ·rcases i with _ | _ | _ | i<;>simp at h<;>subst h<;>rfl
 ·rcases i with _ | _ | _ | i<;>simp at ha hv<;>subst ha<;>subst hv<;>exact .d (.sc _ rfl)
theorem Zhk{ρ:Rho}{w:World}{Im:Nat→Prop}{f:Finding}{v:Value}(h:Rel ρ w Im f.av v):v=f.val:=by
 obtain⟨cs,h1,h2,h3,h4⟩:=Z3u h;rw[h1];have g:∀ (k:Nat) (hk:k<cs.size) (v:Value),[int f.fault,int f.page,u64 f.addr][k]? = some (.d (.sc v))→cs[k]=v:=fun k hk v hv=>Z10 (h4 k _ cs[k] hv (Array.getElem?_eq_getElem hk));have hs:cs.size=3:=h2;simp only[Finding.val];congr 1;apply Array.ext
 ·simp[hs]
 ·intro k hk _;rcases k with _ | _ | _ | k
  ·exact g 0 hk _ rfl
  ·exact g 1 hk _ rfl
  ·exact g 2 hk _ rfl
  ·omega
theorem noGoto_ret{Q:Exit→Act→World→Prop}{a:Act}{w:World}(h:Q .ret a w):Exit.noGoto Q Ex.ret.exit a w:=h
theorem Z4r(h:Heap)(hw:WOk h.W)(hwl:h.W.length≤1048576):GP 170 [h.av] true (apW h).av []:=by
 intro w00 Im vs hIm hsz hargs;have hs1:vs.size=1:=hsz;have hbody:Tryz.f170.body=some (.seq (firS (unS Tryz.f170)) (.scope (bdyS (unS Tryz.f170)))):=by kernel_rfl
 refine calls_of_wp Tryz.func170 hbody ?_;have S0:Sx.Sys Z4g Im w00 (tm 83 [(0,h.av)]) (hOf []) 1 { tmps:=vs++Array.replicate (Tryz.f170.ntmps-vs.size) undef,defers:=[] } w00:=by
  refine⟨_,Im,Sx.Inv.empty hIm (Nat.le_refl 1),⟨by rw[hs1];simp[hs1];kernel_rfl,fun k y v hy hv=>?_,rfl⟩⟩;rw[show tm 83 [(0,h.av)]=[h.av]++List.replicate 82 .any from by kernel_rfl,List.getElem?_append]at hy;rw[Array.getElem?_append]at hv;split at hy
  ·rename_i hk;rw[if_pos (by rw[hsz];exact hk)]at hv;exact hargs k y v hy hv
  ·have:=List.mem_of_getElem? hy;rw[(List.mem_replicate.1 this).2];exact .any _
 refine wp_seq (wp_mono (Zq1 h _ _ _ _ _ S0) ?_);rintro e a1 w1 ⟨rfl,S1⟩;refine wp_scope_straight (wp_mono (ZpY h hw hwl _ _ _ _ _ S1) ?_);rintro e a2 w2 ⟨rfl,ρ2,Im2,I2,T2⟩;obtain⟨v,hv1,hv2⟩:=Z7o (P:=Tryz.prog) (fn:=Tryz.f170) (l:=[(apW h).av]) I2 T2 kr;refine noGoto_ret (bodyPost_ret hv1 T2.defers ⟨v,rfl,I2.kept.no,fun _=>none,fun _=>False,fun _ q=>q.elim,fun _ q=>q.elim,fun _ _ _ q=>(by cases q),fun _ _ _ _ _ q=>(by cases q),fun _ _ q=>(by cases q),fun k B q=>by simp at q, ?_⟩);rw[Zhk (show Rel ρ2 w2 Im2 (apW h).av v from hv2)];exact ZdT _ _ _ _
end Go.Proofs.YtdhchmlalchgeaaGreat
namespace Go.Proofs.YtdhchmlalchgeaaGreat
open Go.Sx
theorem Zme{c:List Int}{x k:Int}(hk:0≤k){o:Nat}(ho:o<c.length):(clrW c x k).getD o 0=if x≤o∧(o:Int)<x+k then 0 else c.getD o 0:=by
 have h1:loC c x≤c.length:=Zf1 c x;have h2:loC c (x+k)≤c.length:=Zf1 c (x+k);have h3:=ZfA c x hk;have e1:loC c x+(loC c (x+k)-loC c x)=loC c (x+k):=by omega
 have a1:o<loC c x↔(o:Int)<x:=by unfold loC;omega
 have a2:o<loC c (x+k)↔(o:Int)<x+k:=by unfold loC;omega
 unfold clrW;rw[e1];simp only[List.getD_eq_getElem?_getD];by_cases h4:o<loC c x
 ·rw[List.append_assoc,List.getElem?_append_left qo,List.getElem?_take,if_pos h4,if_neg (by have:=a1.1 h4;omega)]
 ·by_cases h5:o<loC c (x+k)
  ·rw[List.getElem?_append_left qo,List.getElem?_append_right qo,if_pos (by have:=a2.1 h5;omega)];rw[List.getElem?_replicate,if_pos qo];rfl
  ·rw[List.getElem?_append_right qo,List.getElem?_drop,if_neg (fun q=>h5 (a2.2 q.2))];congr 2;simp;omega
theorem ZhE{h:Heap}{F:Int}{l c:List Int}{o:Nat}(ho:o<c.length):∀ n:Nat,n≤l.length→(cwN h F l c n).getD o 0=if(l.take n).any (fun a=>decide (a-F≤o)&&decide ((o:Int)<a-F+Z4k h a))=true then 0 else c.getD o 0
 | 0,_=>by simp[cwN]
 | n+1,hn=>by
  have hl:=Z9e h F l c n;rw[cwN,Zme (Z9g h _).1 oq,ZhE ho n oq,Z8s oq,List.any_append];generalize l.getD n default=a;generalize (l.take n).any _=b;by_cases h1:a-F≤o∧(o:Int)<a-F+Z4k h a
  ·rw[if_pos h1,if_pos (by simp[h1])]
  ·rw[if_neg h1];have:([a].any fun a=>decide (a-F≤(o:Int))&&decide ((o:Int)<a-F+Z4k h a))=false:=by
    simp only[List.any_cons,List.any_nil,Bool.or_false,Bool.and_eq_false_iff,decide_eq_false_iff_not];omega
   rw[this,Bool.or_false]
theorem Zci{h:Heap}(hp:Z02 h=true){i:Nat}(hi:i<h.P.length){o:Int}(ho:0≤o∧o<h.C.pw):(address h.C i o).1=4096+(i*h.C.pw+o):=by
 have po:=Z06 hp;unfold address;rw[if_pos po.1,if_pos (inB_iff.2 oq)]
theorem ZeL{h:Heap}(hp:Z02 h=true){i:Nat}(hi:i<h.P.length):0≤(i:Int)*h.C.pw∧(i:Int)*h.C.pw+h.C.pw≤h.W.length:=by
 have po:=Z06 hp;have h1:((i:Int)+1)*h.C.pw≤h.C.pg*h.C.pw:=Int.mul_le_mul_of_nonneg_right oq oq;have h2:((i:Int)+1)*h.C.pw=i*h.C.pw+h.C.pw:=by rw[Int.add_mul,Int.one_mul]
 have h3:h.C.pg*h.C.pw=h.C.pw*h.C.pg:=Int.mul_comm _ _;have h4:(0:Int)≤i*h.C.pw:=Int.mul_nonneg oq oq;omega
theorem Zmm{h:Heap}(hp:Z02 h=true){i:Nat}(hi:i<h.P.length):(rawP h i).length=h.C.pw.toNat∧∀ o:Nat,o<h.C.pw.toNat→(rawP h i).getD o 0=Z45 h i o:=by
 have po:=Z06 hp;have pi:=ZeL hp hi;have e0:=Zci hp hi (o:=0) oq;constructor
 ·simp only[rawP,List.length_take,List.length_drop];omega
 ·intro o ho;have e1:=Zci hp hi (o:=o) oq;unfold Z45 loadA;rw[e1];rw[if_pos oq];simp only[rawP,List.getD_eq_getElem?_getD,List.getElem?_take,List.getElem?_drop,if_pos ho];rw[e0,show(4096+((i:Int)*h.C.pw+0)-4096).toNat+o=(4096+((i:Int)*h.C.pw+(o:Int))-4096).toNat from by omega]
theorem Zbo{h:Heap}(hp:Z02 h=true){i:Nat}(hi:i<h.P.length):(clrP h i).length=h.C.pw.toNat∧∀ o:Nat,o<h.C.pw.toNat→(clrP h i).getD o 0=if(Z2d h i).getD o default=true then 0 else Z45 h i o:=by
 have po:=Z06 hp;obtain⟨r1,r2⟩:=Zmm hp hi;constructor
 ·rw[clrP,Z9e,r1]
 ·intro o ho;rw[clrP,ZhE oq _ (Nat.le_refl _),List.take_length,r2 o ho];have e0:=Zci hp hi (o:=0) oq;have e:(Z2d h i).getD o default=(Z07 h (Z0x h.P i:Nat)).1.any (fun a=>decide (a-(address h.C i 0).1≤(o:Int))&&decide ((o:Int)<a-(address h.C i 0).1+Z4k h a)):=by
   unfold Z2d Z1H;rw[List.getD_eq_getElem?_getD,List.getElem?_map,List.getElem?_range ho];simp only[Option.map_some,Option.getD_some];congr 1;funext a
   unfold Z93;rw[e0,show a-(4096+((i:Int)*h.C.pw+0))=a-4096-i*h.C.pw from by omega]
  rw[e]
theorem ZfY{h:Heap}(hp:Z02 h=true){i:Nat}(hi:i<h.P.length)(e:fstW (clrP h i)<(clrP h i).length):Z2S h i (Z2d h i)=4096+i*h.C.pw+fstW (clrP h i):=by
 obtain⟨c1,c2⟩:=Zbo hp hi;have hu:=Z6x h i;have hf:(List.range (Z2d h i).length).find? (badD h i (Z2d h i))=some (fstW (clrP h i)):=by
  rw[List.find?_range_eq_some];refine⟨?_,List.mem_range.2 oq,fun j hj=>?_⟩
  ·have h1:=Zfx e;rw[show(default:Int)=0 from rfl,c2 _ oq]at h1;split at h1
   ·exact absurd rfl h1
   ·rename_i h2;simp only[badD,Bool.and_eq_true,Bool.not_eq_true',decide_eq_true_eq];exact⟨by simpa using h2,h1⟩
  ·have h1:=(Zc2 hj).2;rw[show(default:Int)=0 from rfl,c2 _ oq]at h1;simp only[badD,Bool.not_and,Bool.not_not,Bool.or_eq_true,Bool.not_eq_true',decide_eq_false_iff_not];split at h1
   ·rename_i h2;exact .inl h2
   ·exact .inr (fun q=>q h1)
 unfold Z2S;rw[hf]
theorem ZmS{h:Heap}(hp:Z02 h=true){i:Nat}(hi:i<h.P.length)(e:¬ fstW (clrP h i)<(clrP h i).length):Z2S h i (Z2d h i)=0:=by
 obtain⟨c1,c2⟩:=Zbo hp hi;have hu:=Z6x h i;have hf:(List.range (Z2d h i).length).find? (badD h i (Z2d h i))=none:=by
  rw[List.find?_eq_none];intro j hj;have hj:=List.mem_range.1 hj;have h1:=(Zc2 (l:=clrP h i) (m:=j) oq).2;rw[show(default:Int)=0 from rfl,c2 _ oq]at h1;simp only[badD,Bool.and_eq_true,Bool.not_eq_true',decide_eq_true_eq,not_and];intro h2 h3;rw[if_neg (by rw[h2];simp)]at h1;exact h3 h1
 unfold Z2S;rw[hf]
theorem Z7k{h:Heap}(hp:Z02 h=true){i:Nat}(hi:i<h.P.length):Z1T h i (Z07 h i).1=decide (Z13 h i (Z07 h i).1≠0):=by
 unfold Z13 Z1T;cases hf:(Z07 h i).1.find? (Z1r h i)with
 | none=>simp
 | some x =>
  have hx:=List.mem_of_find?_eq_some hf;have e:=Z7y hp (i:=i) oq;rw[e]at hx;obtain⟨y,hy,rfl⟩:=List.mem_map.1 hx;have h1:=(Z5m y hy).1;have h2:=(ZeL hp hi).1;have:y.addr≠0:=by omega
  simp[this]
theorem find_congr{α:Type}{p q:α→Bool}:∀ {l:List α},(∀ x∈l,p x=q x)→l.find? p=l.find? q
 | [],_=>rfl
 | a::l,h=>by
  rw[List.find?_cons,List.find?_cons,h a pq,find_congr (l:=l) (fun x hx=>h x (by simp[hx]))]
theorem find_range{l:List Int}{p:Int→Bool}:match (List.range l.length).find? (fun i=>p (l.getD i default))with | none=>l.find? p=none | some i=>l.find? p=some (l.getD i default):=by
 split
 ·rename_i hb;rw[List.find?_eq_none]at hb ⊢;intro x hx;obtain⟨i,hi,e⟩:=getD_mem_iff.1 hx;have:=hb i (List.mem_range.2 hi);rwa [e]at this
 ·rename_i i hb;obtain⟨h1,h2,h3⟩:=List.find?_range_eq_some.1 hb;have h2:=List.mem_range.1 h2;cases hf:l.find? p with
  | none =>
   have:=List.find?_eq_none.1 hf (l.getD i default) (getD_mem_iff.2 ⟨i,h2,rfl⟩);exact absurd h1 this
  | some x =>
   obtain⟨n,k1,k2,k3,k4⟩:=Z3J hf;have hn:n=i:=by
    rcases Nat.lt_trichotomy n i with q | q | q
    ·have:=h3 n q;rw[k2,k3]at this;cases this
    ·exact q
    ·have:=k4 i q;rw[h1]at this;cases this
   subst hn;rw[k2]
theorem Z9q{h:Heap}{a:Int}(ha:a∈(Z03 h).1):(atH h a).2=0∧(atH h a).1.K≠0:=by
 by_cases e:(allW h).2=0
 ·rw[Ziz h e]at ha;obtain⟨x,hx,rfl⟩:=List.mem_map.1 ha;obtain⟨h1,h2⟩:=List.mem_filter.1 hx;obtain⟨h3,h4⟩:=Zk6 x h1;refine⟨h4, ?_⟩;rw[← h3];simpa[Z2A]using h2
 ·rw[Zfc h e]at ha;simp at ha
theorem Z6V(hd:Header):∀ n:Nat,Z11 hd n=((List.range n).filter (fun k:Nat=>Z0f hd k)).map (fun k:Nat=>(k:Int))
 | 0=>rfl
 | n+1=>by
  rw[Z11,List.range_succ,List.filter_append,List.map_append,← Z6V hd n];by_cases h:Z0f hd (n:Int)=true
  ·rw[if_pos h];simp[h]
  ·rw[if_neg h];simp[h]
def ptrF(h:Heap)(all:List Int)(a:Int):Option Nat:=(List.range (Z0X h a).1.length).find? (Za7 (getH h a).1 (Z0X h a).1 all)
theorem Zp4{h:Heap}{a:Int}(e:(atH h a).2=0)(hk:(atH h a).1.K≠0)(all:List Int):apF h all a=(ptrF h all a).map (fun k:Nat=>(k:Int)):=by
 have i1:=ZiR e;have i2:=(ZdI e).1;have g1:getH h a=atH h a:=by
  unfold getH;rw[if_pos i2,if_neg oq,if_neg (fun q=>hk q.2)]
 have g2:=Z47 (h:=h) (a:=a) (by rw[g1];exact e);rw[g1]at g2;have hv:=g2.2.2.2.2.2.2.1;have hl:=g2.2.2.2.2.2.2.2.2.2;have f1:(Z0X h a).1=(h.W.drop (a+1-4096).toNat).take (atH h a).1.length.toNat:=by
  unfold Z0X;rw[g1,if_pos e,Z1i,if_neg oq,if_pos oq]
 have fl:(Z0X h a).1.length=(atH h a).1.length.toNat:=by
  rw[f1,List.length_take,List.length_drop];omega
 have fg:∀ k:Nat,k<(atH h a).1.length.toNat→(Z0X h a).1.getD k default=fdV h a k:=by
  intro k hk;unfold fdV loadA;rw[if_pos oq,f1];simp only[List.getD_eq_getElem?_getD,List.getElem?_take,List.getElem?_drop,if_pos hk];rw[show(a+1-4096).toNat+k=(a+1+(k:Int)-4096).toNat from by omega];rfl
 unfold apF ptrF Z09;rw[if_pos hv,Z6V,List.find?_map,List.find?_filter,fl,g1];congr 1;refine find_congr fun k hk=>?_;have hk:=List.mem_range.1 hk;rw[Za7,fg k hk];simp only[Function.comp,pbad];cases Z0f (atH h a).1 (k:Int)<;>simp
theorem Zp8(h:Heap):apW h=Z0Z h (Z03 h).1:=by
 have hr:=find_range (l:=(Z03 h).1) (p:=fun a=>(ptrF h (Z03 h).1 a).isSome);have hc:(Z03 h).1.find? (fun a=>(apF h (Z03 h).1 a).isSome)=(Z03 h).1.find? (fun a=>(ptrF h (Z03 h).1 a).isSome):=find_congr fun a ha=>by
  rw[Zp4 (Z9q ha).1 (Z9q ha).2,Option.isSome_map]
 unfold apW apAt Z0Z;rw[hc];change match (List.range (Z03 h).1.length).find? (fun i=>(Z1X h (Z03 h).1 i).isSome)with | none=>_ | some i=>_ at hr
 split at hr
 ·rename_i hb;rw[hr,hb];rfl
 ·rename_i i hb;have h1:=(List.find?_range_eq_some.1 hb)
  have hm:(Z03 h).1.getD i default∈(Z03 h).1:=getD_mem_iff.2 ⟨i,List.mem_range.1 h1.2.1,rfl⟩;obtain⟨k,hk⟩:=Option.isSome_iff_exists.1 h1.1;have hk':ptrF h (Z03 h).1 ((Z03 h).1.getD i default)=some k:=hk;have i1:=ZiR (Z9q hm).1;rw[hr,hb];simp only[hk,Zp4 (Z9q hm).1 (Z9q hm).2,hk',Option.map_some,Option.getD_some];rw[if_neg oq]
def apgL(h:Heap)(i:Nat):Tg:=⟨tm 64 [(1,.pt 8001 0 0),(2,.pt 8002 0 0),(12,Z0r h.P),(13,int h.P.length),(14,int i)],[(8002,.box 180 [int 0,int 0,u64 0]),(8001,.box 28 h.cells)],60⟩
def apgE(f:Finding):Tg:=⟨tm 64 [(2,.pt 8002 0 0)],[(8002,.box 180 [int f.fault,int f.page,u64 f.addr])],64⟩
section
variable (h:Heap) (i:Nat) (hw:WOk h.W) (hp:Z02 h=true) (hi:i<h.P.length)
include hw hp hi
theorem Zpl(e:Z2S h i (Z2d h i)=0):idxW (clrP h i)=-1:=by
 by_cases hc:fstW (clrP h i)<(clrP h i).length
 ·have h1:=ZfY hp hi hc;have h2:=(ZeL hp hi).1;omega
 ·exact if_neg hc
theorem Znc(e:¬ Z2S h i (Z2d h i)=0):0≤idxW (clrP h i)∧idxW (clrP h i)≤64∧Z2S h i (Z2d h i)=(address h.C i 0).1+idxW (clrP h i):=by
 have po:=Z06 hp;by_cases hc:fstW (clrP h i)<(clrP h i).length
 ·have h1:=ZfY hp hi hc;have h2:idxW (clrP h i)=fstW (clrP h i):=if_pos hc;have h3:=Zci hp hi (o:=0) oq;have h4:=(Zbo hp hi).1;rw[h1,h2,h3];omega
 ·exact absurd (ZmS hp hi hc) e
theorem Zgg(n1:(h.P.getD i default).K=0∨(h.P.getD i default).S=h.S)(n2:(Z07 h (i:Int)).2=0)(n3:Z13 h (i:Int) (Z07 h (i:Int)).1=0)(n4:Z2S h i (Z2d h i)=0):CP (rndF Tryz.f169 0) (apgL h i).st .nrm (apgL h (i+1)).st:=by
 have po:=Z06 hp;have hn:=Z2V h (i:Int);have hr:=Z2L hp (i:Int);have q3:=Z7k hp hi;rw[n3]at q3;have q4:=Zpl h i hw hp hi n4;simp only[ne_eq,not_true_eq_false,decide_false]at q3;rcases n1 with n1 | n1
 ·exact sF [] [] (Fh 48 [.br false] (Fh 58 [.br false] (Ftb 15 (decide ((↑i:Int)<(↑h.P.length:Int))) (Fek 17 Page.dv h.P (↑i) i (Ffb 28 ((h.P.getD i default).K != 0&&(h.P.getD i default).S != h.S) (Fc 34 (@Z3C h ((↑i:Int)) aa oq) (Ffb 38 ((Z07 h (↑i:Int)).snd != 0) (Fc 45 (@Z3D h ((↑i:Int)) ((Z07 h (↑i:Int)).fst) aa oq oq oq aa) (Fa ‹Z1T h (↑i:Int) (Z07 h (↑i:Int)).fst=false› (Fc 55 (@Z6T h i aa aa aa) (Fb (decide (0≤idxW (clrP h i))=false) (Fx 62 i Fz))))))))))))
 ·exact sF [] [] (Fh 48 [.br false] (Fh 58 [.br false] (Ftb 15 (decide ((↑i:Int)<(↑h.P.length:Int))) (Fek 17 Page.dv h.P (↑i) i (Ffb 28 ((h.P.getD i default).K != 0&&(h.P.getD i default).S != h.S) (Fc 34 (@Z3C h ((↑i:Int)) aa oq) (Ffb 38 ((Z07 h (↑i:Int)).snd != 0) (Fc 45 (@Z3D h ((↑i:Int)) ((Z07 h (↑i:Int)).fst) aa oq oq oq aa) (Fa ‹Z1T h (↑i:Int) (Z07 h (↑i:Int)).fst=false› (Fc 55 (@Z6T h i aa aa aa) (Fb (decide (0≤idxW (clrP h i))=false) (Fx 62 i Fz))))))))))))
theorem Zq5(n1:¬ (h.P.getD i default).K=0∧¬ (h.P.getD i default).S=h.S):CP (rndF Tryz.f169 0) (apgL h i).st .ret (apgE ⟨2,i,0⟩).st:=by
 have po:=Z06 hp;obtain⟨n1,n2⟩:=n1;exact sF [] [] (Ftb 15 (decide ((↑i:Int)<(↑h.P.length:Int))) (Fek 17 Page.dv h.P (↑i) i (Ftb 28 ((h.P.getD i default).K != 0&&(h.P.getD i default).S != h.S) Fz)))
theorem Zq8(n1:(h.P.getD i default).K=0∨(h.P.getD i default).S=h.S)(n2:¬ (Z07 h (i:Int)).2=0):CP (rndF Tryz.f169 0) (apgL h i).st .ret (apgE ⟨3,i,0⟩).st:=by
 have po:=Z06 hp;rcases n1 with n1 | n1
 ·exact sF [] [] (Ftb 15 (decide ((↑i:Int)<(↑h.P.length:Int))) (Fek 17 Page.dv h.P (↑i) i (Ffb 28 ((h.P.getD i default).K != 0&&(h.P.getD i default).S != h.S) (Fc 34 (@Z3C h ((↑i:Int)) aa oq) (Ftb 38 ((Z07 h (↑i:Int)).snd != 0) Fz)))))
 ·exact sF [] [] (Ftb 15 (decide ((↑i:Int)<(↑h.P.length:Int))) (Fek 17 Page.dv h.P (↑i) i (Ffb 28 ((h.P.getD i default).K != 0&&(h.P.getD i default).S != h.S) (Fc 34 (@Z3C h ((↑i:Int)) aa oq) (Ftb 38 ((Z07 h (↑i:Int)).snd != 0) Fz)))))
theorem Zq3(n1:(h.P.getD i default).K=0∨(h.P.getD i default).S=h.S)(n2:(Z07 h (i:Int)).2=0)(n3:¬ Z13 h (i:Int) (Z07 h (i:Int)).1=0):CP (rndF Tryz.f169 0) (apgL h i).st .ret (apgE ⟨5,i,Z13 h (i:Int) (Z07 h (i:Int)).1⟩).st:=by
 have po:=Z06 hp;have hn:=Z2V h (i:Int);have hr:=Z2L hp (i:Int);have q3:Z1T h i (Z07 h i).1=true:=by rw[Z7k hp hi];simpa using n3
 rcases n1 with n1 | n1
 ·exact sF [] [] (Fh 48 [.br true] (Ftb 15 (decide ((↑i:Int)<(↑h.P.length:Int))) (Fek 17 Page.dv h.P (↑i) i (Ffb 28 ((h.P.getD i default).K != 0&&(h.P.getD i default).S != h.S) (Fc 34 (@Z3C h ((↑i:Int)) aa oq) (Ffb 38 ((Z07 h (↑i:Int)).snd != 0) (Fc 45 (@Z3D h ((↑i:Int)) ((Z07 h (↑i:Int)).fst) aa oq oq oq aa) (Fa ‹Z1T h (↑i:Int) (Z07 h (↑i:Int)).fst=true› Fz))))))))
 ·exact sF [] [] (Fh 48 [.br true] (Ftb 15 (decide ((↑i:Int)<(↑h.P.length:Int))) (Fek 17 Page.dv h.P (↑i) i (Ffb 28 ((h.P.getD i default).K != 0&&(h.P.getD i default).S != h.S) (Fc 34 (@Z3C h ((↑i:Int)) aa oq) (Ffb 38 ((Z07 h (↑i:Int)).snd != 0) (Fc 45 (@Z3D h ((↑i:Int)) ((Z07 h (↑i:Int)).fst) aa oq oq oq aa) (Fa ‹Z1T h (↑i:Int) (Z07 h (↑i:Int)).fst=true› Fz))))))))
theorem Zqc(n1:(h.P.getD i default).K=0∨(h.P.getD i default).S=h.S)(n2:(Z07 h (i:Int)).2=0)(n3:Z13 h (i:Int) (Z07 h (i:Int)).1=0)(n4:¬ Z2S h i (Z2d h i)=0):CP (rndF Tryz.f169 0) (apgL h i).st .ret (apgE ⟨4,i,Z2S h i (Z2d h i)⟩).st:=by
 have po:=Z06 hp;have hn:=Z2V h (i:Int);have hr:=Z2L hp (i:Int);have q3:=Z7k hp hi;rw[n3]at q3;simp only[ne_eq,not_true_eq_false,decide_false]at q3;obtain⟨q4,q5,q6⟩:=Znc h i hw hp hi n4;have q7:max (idxW (clrP h i)) 0=idxW (clrP h i):=by omega
 rw[q6];rcases n1 with n1 | n1
 ·exact sF [] (fO 6) (Fh 48 [.br false] (Fh 58 [.br true] (Ftb 15 (decide ((↑i:Int)<(↑h.P.length:Int))) (Fek 17 Page.dv h.P (↑i) i (Ffb 28 ((h.P.getD i default).K != 0&&(h.P.getD i default).S != h.S) (Fc 34 (@Z3C h ((↑i:Int)) aa oq) (Ffb 38 ((Z07 h (↑i:Int)).snd != 0) (Fc 45 (@Z3D h ((↑i:Int)) ((Z07 h (↑i:Int)).fst) aa oq oq oq aa) (Fa ‹Z1T h (↑i:Int) (Z07 h (↑i:Int)).fst=false› (Fc 55 (@Z6T h i aa aa aa) (Fb (decide (0≤idxW (clrP h i))=true) (Fr (180:Int) (Fr (4:Int) (Fr (↑i:Int) (Fa (by rw[q7]:(address h.C (↑i:Int) 0).fst+max (idxW (clrP h i)) 0=(Finding.mk 4 (↑i:Int) ((address h.C (↑i:Int) 0).fst+idxW (clrP h i))).addr) Fz)))))))))))))))
 ·exact sF [] (fO 6) (Fh 48 [.br false] (Fh 58 [.br true] (Ftb 15 (decide ((↑i:Int)<(↑h.P.length:Int))) (Fek 17 Page.dv h.P (↑i) i (Ffb 28 ((h.P.getD i default).K != 0&&(h.P.getD i default).S != h.S) (Fc 34 (@Z3C h ((↑i:Int)) aa oq) (Ffb 38 ((Z07 h (↑i:Int)).snd != 0) (Fc 45 (@Z3D h ((↑i:Int)) ((Z07 h (↑i:Int)).fst) aa oq oq oq aa) (Fa ‹Z1T h (↑i:Int) (Z07 h (↑i:Int)).fst=false› (Fc 55 (@Z6T h i aa aa aa) (Fb (decide (0≤idxW (clrP h i))=true) (Fr (180:Int) (Fr (4:Int) (Fr (↑i:Int) (Fa (by rw[q7]:(address h.C (↑i:Int) 0).fst+max (idxW (clrP h i)) 0=(Finding.mk 4 (↑i:Int) ((address h.C (↑i:Int) 0).fst+idxW (clrP h i))).addr) Fz)))))))))))))))
end
theorem Zoz(h:Heap):CP (rndF Tryz.f169 0) (apgL h h.P.length).st (.ext 0) (apgE ⟨0,0,0⟩).st:=by
 exact sF [] [] (Ffb 15 (decide ((↑h.P.length:Int)<(↑h.P.length:Int))) Fz)
def apgV(h:Heap):Finding:=match Z2P h with | some i=>pageF h i | none=>⟨0,0,0⟩
theorem Zgj{h:Heap}{i:Nat}(e:(pageF h i).fault=0):((h.P.getD i default).K=0∨(h.P.getD i default).S=h.S)∧(Z07 h (i:Int)).2=0∧Z13 h (i:Int) (Z07 h (i:Int)).1=0∧Z2S h i (Z2d h i)=0:=by
 unfold pageF at e;split at e
 ·simp at e
 ·rename_i h1;split at e
  ·simp at e
  ·rename_i h2;split at e
   ·simp at e
   ·rename_i h3;split at e
    ·simp at e
    ·rename_i h4;refine⟨?_,Classical.not_not.1 h2,Classical.not_not.1 h3,Classical.not_not.1 h4⟩;by_cases q:(h.P.getD i default).K=0
     ·exact .inl q
     ·refine .inr (Classical.not_not.1 fun q2=>h1 ⟨q,q2⟩)
theorem Zlr(h:Heap)(i:Nat)(hw:WOk h.W)(hp:Z02 h=true)(hi:i<h.P.length)(e:(pageF h i).fault≠0):CP (rndF Tryz.f169 0) (apgL h i).st .ret (apgE (pageF h i)).st:=by
 unfold pageF at e ⊢;split
 ·rename_i h1;exact Zq5 h i hw hp hi h1
 ·rename_i h1;have n1:(h.P.getD i default).K=0∨(h.P.getD i default).S=h.S:=by
   by_cases q:(h.P.getD i default).K=0
   ·exact .inl q
   ·exact .inr (Classical.not_not.1 fun q2=>h1 ⟨q,q2⟩)
  split
  ·rename_i h2;exact Zq8 h i hw hp hi n1 h2
  ·rename_i h2;split
   ·rename_i h3;exact Zq3 h i hw hp hi n1 (Classical.not_not.1 h2) h3
   ·rename_i h3;split
    ·rename_i h4;exact Zqc h i hw hp hi n1 (Classical.not_not.1 h2) (Classical.not_not.1 h3) h4
    ·rename_i h4;rw[if_neg h1,if_neg h2,if_neg h3,if_neg h4]at e;exact absurd rfl e
theorem ZmZ(h:Heap)(hw:WOk h.W)(hp:Z02 h=true)(hf:Z2P h=none):CP (blkF Tryz.f169 0) (apgL h 0).st .nrm (Tg.st ⟨tm 64 [(2,.pt 8002 0 0)],[(8002,.box 180 [int 0,int 0,u64 0])],64⟩):=by
 refine Z0a (S:=fun k=>(apgL h k).st) h.P.length kr (fun k hk=>?_) (Zoz h);have e:=List.find?_eq_none.1 hf k (List.mem_range.2 hk);obtain⟨n1,n2,n3,n4⟩:=Zgj (h:=h) (i:=k) (by simpa using e);exact Zgg h k hw hp hk n1 n2 n3 n4
theorem Zm3(h:Heap)(i:Nat)(hw:WOk h.W)(hp:Z02 h=true)(hf:Z2P h=some i):CP (blkF Tryz.f169 0) (Tg.st ⟨tm 64 [(1,.pt 8001 0 0),(2,.pt 8002 0 0),(12,Z0r h.P),(13,int h.P.length),(14,int 0)],[(8002,.box 180 [int 0,int 0,u64 0]),(8001,.box 28 h.cells)],60⟩) .ret (Tg.st ⟨tm 64 [(2,.pt 8002 0 0)],[(8002,.box 180 [int (pageF h i).fault,int (pageF h i).page,u64 (pageF h i).addr])],64⟩):=by
 obtain⟨h1,h2,h3⟩:=List.find?_range_eq_some.1 hf;have h2:=List.mem_range.1 h2;refine Z0I (S:=fun k=>(apgL h k).st) i kr (fun k hk=>?_) (Zlr h i hw hp h2 (by simpa using h1));have e:=h3 k hk;obtain⟨n1,n2,n3,n4⟩:=Zgj (h:=h) (i:=k) (by simpa using e);exact Zgg h k hw hp oq n1 n2 n3 n4
theorem Z5K(h:Heap)(hw:WOk h.W)(hp:Z02 h=true):GP 169 [h.av] true (apgV h).av []:=by
 have po:=Z06 hp;cases hf:Z2P h with
 | none =>
  have e7:apgV h=⟨0,0,0⟩:=by simp only[apgV,hf]
  rw[e7];exact gF [] Tryz.func169 [] (Fl 13 Page.dv h.P (Fu (@ZmZ h aa aa aa) Fz))
 | some i =>
  have e7:apgV h=pageF h i:=by simp only[apgV,hf]
  rw[e7];exact gF [] Tryz.func169 [] (Fl 13 Page.dv h.P (Fu (@Zm3 h i aa aa aa) Fz))
theorem Zb9(h:Heap)(hw:WOk h.W)(hp:Z02 h=false):GP 129 [h.av] true (Finding.av ⟨1,0,0⟩) []:=by
 exact gF [] Tryz.func129 [] (Fc 9 (@Z0H h) (Ftb 10 (!Z02 h) Fz))
theorem Z9V(h:Heap)(hw:WOk h.W)(hp:Z02 h=true)(i:Nat)(hb:Z2P h=some i):GP 129 [h.av] true (pageF h i).av []:=by
 have po:=Z06 hp;have e7:apgV h=pageF h i:=by simp only[apgV,hb]
 have h1:¬ (pageF h i).fault=0:=by simpa using (List.find?_range_eq_some.1 hb).1
 rw[← e7]at h1 ⊢;exact gF [] Tryz.func129 [] (Fc 9 (@Z0H h) (Ffb 10 (!Z02 h) (Fc 13 (@Z5K h aa aa) (Ftb 16 (!((apgV h).fault==0&&((apgV h).page==0&&(apgV h).addr==0))) Fz))))
theorem Zb7(h:Heap)(hw:WOk h.W)(hp:Z02 h=true)(hb:Z2P h=none)(hq:¬ (apW h).fault=0):GP 129 [h.av] true (apW h).av []:=by
 have po:=Z06 hp;have e7:apgV h=⟨0,0,0⟩:=by simp only[apgV,hb]
 have q1:(apgV h).fault=0:=by rw[e7]
 have q2:(apgV h).page=0:=by rw[e7]
 have q3:(apgV h).addr=0:=by rw[e7]
 exact gF [] Tryz.func129 [] (Fc 9 (@Z0H h) (Ffb 10 (!Z02 h) (Fc 13 (@Z5K h aa aa) (Ffb 16 (!((apgV h).fault==0&&((apgV h).page==0&&(apgV h).addr==0))) (Fc 19 (@Z4r h aa oq) (Ftb 22 (!((apW h).fault==0&&((apW h).page==0&&(apW h).addr==0))) Fz))))))
def acrL(h:Heap)(i:Nat):Tg:=⟨tm 50 [(1,.pt 8001 0 0),(2,.pt 8002 0 0),(5,int (Z0t h.P i)),(25,Z0r h.P),(26,int h.P.length),(27,int i)],[(8002,.box 180 [int 0,int 0,u64 0]),(8001,.box 28 h.cells)],60⟩
theorem Zlk(h:Heap)(i:Nat)(hp:Z02 h=true)(hi:i<h.P.length):CP (rndF Tryz.f129 0) (acrL h i).st .nrm (acrL h (i+1)).st:=by
 have po:=Z06 hp;have:=Z31 h.P i;by_cases h1:(h.P.getD i default).K=1
 ·by_cases h2:0<(h.P.getD i default).N
  ·have e:Z0t h.P (i+1)=Z0t h.P i+1:=by rw[Z0t,if_pos ⟨h1,h2⟩]
   rw[acrL,acrL,e];exact sF [] [] (Ftb 28 (decide ((↑i:Int)<(↑h.P.length:Int))) (Fek 29 Page.dv h.P (↑i) i (Ftb 38 ((h.P.getD i default).K==1&&decide (0<(h.P.getD i default).N)) (Fw 40 ((↑(Z0t h.P i):Int)+1) (↑(Z0t h.P i+1):Int) (Fx 41 i Fz)))))
  ·have e:Z0t h.P (i+1)=Z0t h.P i:=by rw[Z0t,if_neg (fun q=>h2 q.2)];rfl
   rw[acrL,acrL,e];exact sF [] [] (Ftb 28 (decide ((↑i:Int)<(↑h.P.length:Int))) (Fek 29 Page.dv h.P (↑i) i (Ffb 38 ((h.P.getD i default).K==1&&decide (0<(h.P.getD i default).N)) (Fx 41 i Fz))))
 ·have e:Z0t h.P (i+1)=Z0t h.P i:=by rw[Z0t,if_neg (fun q=>h1 q.1)];rfl
  rw[acrL,acrL,e];exact sF [] [] (Ftb 28 (decide ((↑i:Int)<(↑h.P.length:Int))) (Fek 29 Page.dv h.P (↑i) i (Ffb 38 ((h.P.getD i default).K==1&&decide (0<(h.P.getD i default).N)) (Fx 41 i Fz))))
theorem Zp9(h:Heap):CP (rndF Tryz.f129 0) (acrL h h.P.length).st (.ext 0) (Tg.st ⟨tm 50 [(1,.pt 8001 0 0),(2,.pt 8002 0 0),(5,int (Z0t h.P h.P.length))],[(8002,.box 180 [int 0,int 0,u64 0]),(8001,.box 28 h.cells)],64⟩):=by
 exact sF [] [] (Ffb 28 (decide ((↑h.P.length:Int)<(↑h.P.length:Int))) Fz)
def ZjU(h:Heap)(hp:Z02 h=true)  := Z0a (S:=fun i=>(acrL h i).st) h.P.length (by kernel_rfl) (fun i hi=>Zlk h i hp hi) (Zp9 h)
theorem Z8n(h:Heap)(hw:WOk h.W)(hp:Z02 h=true)(hb:Z2P h=none)(hq:(apW h).fault=0)(hc:h.C.pg/4<(Z0t h.P h.P.length:Nat)):GP 129 [h.av] true (Finding.av ⟨7,0,0⟩) []:=by
 have po:=Z06 hp;have cl:=Z31 h.P h.P.length;have e7:apgV h=⟨0,0,0⟩:=by simp only[apgV,hb]
 have q1:(apgV h).fault=0:=by rw[e7]
 have q2:(apgV h).page=0:=by rw[e7]
 have q3:(apgV h).addr=0:=by rw[e7]
 have e8:apW h=⟨0,0,0⟩:=by
  unfold apW at hq ⊢;split at hq
  ·rename_i h1;rw[if_pos h1]
  ·simp at hq
 have q4:(apW h).fault=0:=by rw[e8]
 have q5:(apW h).page=0:=by rw[e8]
 have q6:(apW h).addr=0:=by rw[e8]
 exact gF [] Tryz.func129 [] (Fc 9 (@Z0H h) (Ffb 10 (!Z02 h) (Fc 13 (@Z5K h aa aa) (Ffb 16 (!((apgV h).fault==0&&((apgV h).page==0&&(apgV h).addr==0))) (Fc 19 (@Z4r h aa oq) (Ffb 22 (!((apW h).fault==0&&((apW h).page==0&&(apW h).addr==0))) (Fl 26 Page.dv h.P (Fu (@ZjU h aa) (Fg 46 (by rw[Int.tdiv_eq_ediv_of_nonneg oq,wrapI' oq oq]:IntKind.i64.wrap (h.C.pg.tdiv 4)=h.C.pg/4) (Fa (by decide:(4:Int)≠0) (Ftb 47 (decide (h.C.pg/4<(↑(Z0t h.P h.P.length):Int))) Fz)))))))))))
theorem Za9(h:Heap)(hw:WOk h.W)(hp:Z02 h=true)(hb:Z2P h=none)(hq:(apW h).fault=0)(hc:¬ h.C.pg/4<(Z0t h.P h.P.length:Nat)):GP 129 [h.av] true (Finding.av ⟨0,0,0⟩) []:=by
 have po:=Z06 hp;have cl:=Z31 h.P h.P.length;have e7:apgV h=⟨0,0,0⟩:=by simp only[apgV,hb]
 have q1:(apgV h).fault=0:=by rw[e7]
 have q2:(apgV h).page=0:=by rw[e7]
 have q3:(apgV h).addr=0:=by rw[e7]
 have e8:apW h=⟨0,0,0⟩:=by
  unfold apW at hq ⊢;split at hq
  ·rename_i h1;rw[if_pos h1]
  ·simp at hq
 have q4:(apW h).fault=0:=by rw[e8]
 have q5:(apW h).page=0:=by rw[e8]
 have q6:(apW h).addr=0:=by rw[e8]
 exact gF [] Tryz.func129 [] (Fc 9 (@Z0H h) (Ffb 10 (!Z02 h) (Fc 13 (@Z5K h aa aa) (Ffb 16 (!((apgV h).fault==0&&((apgV h).page==0&&(apgV h).addr==0))) (Fc 19 (@Z4r h aa oq) (Ffb 22 (!((apW h).fault==0&&((apW h).page==0&&(apW h).addr==0))) (Fl 26 Page.dv h.P (Fu (@ZjU h aa) (Fg 46 (by rw[Int.tdiv_eq_ediv_of_nonneg oq,wrapI' oq oq]:IntKind.i64.wrap (h.C.pg.tdiv 4)=h.C.pg/4) (Fa (by decide:(4:Int)≠0) (Ffb 47 (decide (h.C.pg/4<(↑(Z0t h.P h.P.length):Int))) Fz)))))))))))
theorem Zhj(h:Heap)(hw:WOk h.W):GP 129 [h.av] true (Z0w h).av []:=by
 have e7:=Zp8 h;unfold Z0w;rw[← e7];by_cases hp:Z02 h=true
 ·rw[if_pos hp];cases hb:Z2P h with
  | some i=>exact Z9V h hw hp i hb
  | none =>
   by_cases hq:(apW h).fault=0
   ·simp only[hq,ne_eq,not_true_eq_false,if_false];by_cases hc:h.C.pg/4<(Z0t h.P h.P.length:Nat)
    ·rw[if_pos hc];exact Z8n h hw hp hb hq hc
    ·rw[if_neg hc];exact Za9 h hw hp hb hq hc
   ·simp only[ne_eq,hq,not_false_eq_true,if_true];exact Zb7 h hw hp hb hq
 ·rw[if_neg hp];exact Zb9 h hw (by simpa using hp)
theorem ZpZ(h:Heap):((Z0w h).fault==0&&((Z0w h).page==0&&(Z0w h).addr==0))=decide (Z0w h=⟨0,0,0⟩):=by
 cases Z0w h with
 | mk a b c=>by_cases h1:a=0<;>by_cases h2:b=0<;>by_cases h3:c=0<;>simp[h1,h2,h3]
theorem Zjx(h:Heap)(hw:WOk h.W):GP 78 [h.av] true (bool (decide (Z0w h=⟨0,0,0⟩))) []:=by
 have e9:=ZpZ h;exact gF [] Tryz.func78 [true] (Fc 4 (@Zhj h aa) (Fa (by exact e9:((Z0w h).fault==0&&((Z0w h).page==0&&(Z0w h).addr==0))=decide (Z0w h=Finding.mk 0 0 0)) Fz))
theorem Z8C{h:Heap}(hp:∀ i:Nat,i<h.P.length→(Z07 h (i:Int)).2=0):∀ (f i:Nat),i+f=h.P.length→(Z0L h f i).2=0
 | 0,_,_=>rfl
 | f+1,i,hf=>by
  have ih:=Z8C hp f (i+1) oq;unfold Z0L;rw[hp i oq,ih];rfl
theorem ZjW{h:Heap}(hg:Z0w h=⟨0,0,0⟩):(Z03 h).2=0:=by
 have hp:Z02 h=true:=by
  by_cases q:Z02 h=true
  ·exact q
  ·rw[Z0w,if_neg q]at hg;cases hg
 rw[Z0w,if_pos hp]at hg;have hpf:∀ i,i<h.P.length→(pageF h i).fault=0:=by
  intro i hi;cases hb:Z2P h with
  | some j =>
   rw[hb]at hg;simp only at hg;have:=List.find?_some hb;rw[hg]at this;simp at this
  | none =>
   have:=List.find?_eq_none.1 hb i (List.mem_range.2 hi);simpa using this
 have hpg:∀ i:Nat,i<h.P.length→(Z07 h (i:Int)).2=0:=by
  intro i hi;have q:=hpf i hi;unfold pageF at q;split at q
  ·simp at q
  ·split at q
   ·simp at q
   ·rename_i c2;simpa using c2
 unfold Z03;rw[Z0A,if_pos hp];exact Z8C hpg h.P.length 0 oq
def evbB(h:Heap)(l:List Page):List (Nat×Blk):=[(8001,.box 28 [int h.C.pw,int h.C.pg,.ow 49027,.ow 49030,int h.S,int h.B]),(49030,.arr 84 4 (l.map Page.dv)),(49027,.arr 35 1 (h.W.map wdv)),(8002,.box 73 zW)]
def evbL(h:Heap)(all:List Int)(i:Nat):Tg:=⟨tm 61 [(1,.pt 8001 0 0),(2,.pt 8002 0 0),(3,int 0),(4,Z01 all),(34,.ow 49030),(35,int h.P.length),(36,int i)],evbB h (preM (begQ (1-h.S)) h.P i),8⟩
section
variable (h:Heap) (all:List Int) (hs:h.S=0∨h.S=1) (hl:h.P.length≤1048576)
include hs hl
theorem Zkz(i:Nat)(hi:i<h.P.length):CP (rndF Tryz.f33 0) (evbL h all i).st .nrm (evbL h all (i+1)).st:=by
 have ha:=Z8i (begQ (1-h.S)) h.P (Nat.le_refl i) default;have hn:=Z41 (begQ (1-h.S)) h.P i;by_cases hc:(h.P.getD i default).K=1∧0<(h.P.getD i default).N
 ·have hq:=Z71 (begQ (1-h.S)) h.P hi default;rw[show begQ (1-h.S) (h.P.getD i default)=⟨(h.P.getD i default).K,1-h.S,(h.P.getD i default).U,(h.P.getD i default).N⟩ by rw[begQ,if_pos hc],← ha]at hq;rw[← ha]at hc;have Q0 {h_ c_ p_} (r_:Fq h_ c_ p_):=Ftb 37 (decide ((↑i:Int)<(↑h.P.length:Int))) (Fmq 40 Page.dv (preM (begQ (1-h.S)) h.P i) (↑i) r_);rcases bb (((preM (begQ (1-h.S)) h.P i).getD (↑i:Int).toNat default).K==1&&decide (0<((preM (begQ (1-h.S)) h.P i).getD (↑i:Int).toNat default).N))with hc0 | hc0<;>have hc0p:=hc0<;>simp only[bs]at hc0p
  ·obtain⟨hc0pa,hc0pb⟩:=hc0p;let y1:=preM (begQ (1-h.S)) h.P i;let y0:=y1.getD (↑i:Int).toNat default;exact sF [] (fO 11) (Q0 (Ft 48 hc0 (Fi 54 (1-h.S) (Fm0q Page.dv y1 (↑i) (FS 10056 Page.dv y1 ((↑i:Int).toNat) (Page.mk y0.K (1-h.S) y0.U y0.N) (y0.dv) (Fx 57 i (Fr (84:Int) (Fa (by refine congrArg _ ?_;exact hq:List.map Page.dv (y1.set (↑i:Int).toNat (Page.mk y0.K (1-h.S) y0.U y0.N))=List.map Page.dv (preM (begQ (1-h.S)) h.P (i+1))) Fz))))))))
  ·exact sF [] (fO 11) (Q0 (Ff 48 hc0 (Fx 57 i (Fr (84:Int) (Fa (by refine congrArg _ ?_;grind[]:List.map Page.dv (preM (begQ (1-h.S)) h.P i)=List.map Page.dv (preM (begQ (1-h.S)) h.P (i+1))) Fz)))))
 ·have hq:=Z9B (begQ (1-h.S)) h.P hi default (by rw[begQ,if_neg hc]);rw[← ha]at hc;have Q1 {h_ c_ p_} (r_:Fq h_ c_ p_):=Ftb 37 (decide ((↑i:Int)<(↑h.P.length:Int))) (Fmq 40 Page.dv (preM (begQ (1-h.S)) h.P i) (↑i) r_);rcases bb (((preM (begQ (1-h.S)) h.P i).getD (↑i:Int).toNat default).K==1&&decide (0<((preM (begQ (1-h.S)) h.P i).getD (↑i:Int).toNat default).N))with hc0 | hc0<;>have hc0p:=hc0<;>simp only[bs]at hc0p
  ·obtain⟨hc0pa,hc0pb⟩:=hc0p;let y3:=preM (begQ (1-h.S)) h.P i;let y2:=y3.getD (↑i:Int).toNat default;exact sF [] (fO 11) (Q1 (Ft 48 hc0 (Fi 54 (1-h.S) (Fm0q Page.dv y3 (↑i) (FS 10056 Page.dv y3 ((↑i:Int).toNat) (Page.mk y2.K (1-h.S) y2.U y2.N) (y2.dv) (Fx 57 i (Fr (84:Int) (Fa (by refine congrArg _ ?_;grind[]:List.map Page.dv (y3.set (↑i:Int).toNat (Page.mk y2.K (1-h.S) y2.U y2.N))=List.map Page.dv (preM (begQ (1-h.S)) h.P (i+1))) Fz))))))))
  ·exact sF [] (fO 11) (Q1 (Ff 48 hc0 (Fx 57 i (Fr (84:Int) (Fa (by refine congrArg _ ?_;exact hq:List.map Page.dv (preM (begQ (1-h.S)) h.P i)=List.map Page.dv (preM (begQ (1-h.S)) h.P (i+1))) Fz)))))
omit hs hl in
theorem ZoK:CP (rndF Tryz.f33 0) (evbL h all h.P.length).st (.ext 0) (Tg.st ⟨tm 61 [(1,.pt 8001 0 0),(2,.pt 8002 0 0),(3,int 0),(4,Z01 all)],evbB h (h.P.map (begQ (1-h.S))),8⟩):=by
 have hq:=Z7Z (begQ (1-h.S)) h.P;have hn:=Z41 (begQ (1-h.S)) h.P h.P.length;exact sF [] (fO 5) (Ffb 37 (decide ((↑h.P.length:Int)<(↑h.P.length:Int))) (Fr (84:Int) (Fa (by refine congrArg _ ?_;assumption:List.map Page.dv (preM (begQ (1-h.S)) h.P h.P.length)=List.map Page.dv (List.map (begQ (1-h.S)) h.P)) Fz)))
theorem Znw:CP (blkF Tryz.f33 0) (Tg.st ⟨tm 61 [(1,.pt 8001 0 0),(2,.pt 8002 0 0),(3,int 0),(4,Z01 all),(34,.ow 49030),(35,int h.P.length),(36,int 0)],evbB h h.P,8⟩) .nrm (Tg.st ⟨tm 61 [(1,.pt 8001 0 0),(2,.pt 8002 0 0),(3,int 0),(4,Z01 all)],evbB h (h.P.map (begQ (1-h.S))),8⟩):=by
 have:=Z0a (S:=fun k=>(evbL h all k).st) h.P.length kr (fun k hk=>Zkz h all hs hl k hk) (ZoK h all);simp only[evbL,ZcJ]at this;exact this
end
theorem Zgc(h:Heap)(hw:WOk h.W)(hp:Z02 h=true)(hg:Z0w h=⟨0,0,0⟩):GP 33 [h.av] false (.tu [(beginW h).av,int 0]) []:=by
 have po:=Z06 hp;have ho:=Z2f h;have g:=ZjW hg;have hne:h.P≠[]:=Z8U oq;exact gF [] Tryz.func33 [] (Fc 9 (@Z0H h) (Ffb 10 (!Z02 h) (Fc 13 (@Zjx h aa) (Ffb 14 (!decide (Z0w h=Finding.mk 0 0 0)) (Fc 18 (@Z6l h aa) (Ffb 22 ((Z03 h).snd != 0) (Fc 27 (@Z4E h.W oq) (Fc 30 (@Z67 h.P oq aa) (Fl 35 Page.dv h.P (Fu (@Znw h ((Z03 h).fst) oq oq) (Fnl (Fnl Fz))))))))))))
theorem Z9D{ρ:Rho}{w:World}{Im:Nat→Prop}{v:Value}(s:Nat)(h:Rel ρ w Im (.d (.sl 0 [])) v):Rel ρ w Im (.d (.sl s [])) v:=by
 cases h with
 | d h =>
  cases h with
  | slNil=>exact .d (.slNil _ _ _)
  | sl _ _ p n c f hn=>cases hn;exact .d (.slNil _ _ _)
def hA10:Heap:=⟨⟨32,8⟩,List.replicate 256 0,List.replicate 8 ⟨0,0,0,0⟩,0,-1⟩
def hB10:Heap:=⟨⟨32,8⟩,(List.replicate 256 0).set 0 29,[⟨1,0,2,0⟩,⟨0,0,0,0⟩,⟨0,0,0,0⟩,⟨0,0,0,0⟩,⟨0,0,0,0⟩,⟨0,0,0,0⟩,⟨0,0,0,0⟩,⟨0,0,0,0⟩],0,0⟩
theorem Zfy:Z15 []=⟨hA10,[],[]⟩:=by kernel_rfl
theorem ZnR:(⟨hA10,[],[]⟩:WorldM).put ⟨3,1,0⟩=⟨hB10,[4096],[]⟩:=by kernel_rfl
theorem ZfB:Z02 hB10=true:=by decide+kernel
theorem Zo1:Z0w hB10=⟨0,0,0⟩:=by decide+kernel
theorem Zjy:WOk hB10.W:=by unfold WOk;decide+kernel
def wB0:Work:=(⟨⟨⟨32,8⟩,(List.replicate 256 0).set 0 29,[⟨1,0,2,0⟩,⟨0,0,0,0⟩,⟨0,0,0,0⟩,⟨0,0,0,0⟩,⟨0,0,0,0⟩,⟨0,0,0,0⟩,⟨0,0,0,0⟩,⟨0,0,0,0⟩],0,0⟩,[4096],[],[],0,⟨0,0,0,0,0,0⟩⟩:Work)
def wB1:Work:=(⟨⟨⟨32,8⟩,((List.replicate 256 0).set 0 16514).set 32 29,[⟨1,0,2,0⟩,⟨1,1,2,0⟩,⟨0,0,0,0⟩,⟨0,0,0,0⟩,⟨0,0,0,0⟩,⟨0,0,0,0⟩,⟨0,0,0,0⟩,⟨0,0,0,0⟩],0,0⟩,[4096],[1],[4128],0,⟨1,0,0,0,0,0⟩⟩:Work)
theorem Zis:beginW hB10=wB0:=by kernel_rfl
theorem Zkf:wB0.fwd 4096=(wB1,4128,0):=by kernel_rfl
theorem ZpD:wB1.fwd 4096=(wB1,4128,0):=by kernel_rfl
theorem Zpe:WkOk wB0:=Zis▸Z3j Zjy ZfB
theorem Zqa:WkOk wB1:=by
 have k:=(fwd_ok Zpe 4096 (by rw[Zkf])).1;rw[Zkf]at k;exact k
theorem Zq9:FwOk wB0 4096:=⟨⟨Zpe,by unfold SpOk;decide+kernel,by decide+kernel⟩,by decide,by decide+kernel,by decide+kernel,by decide+kernel⟩
theorem Zqf:FwOk wB1 4096:=⟨⟨Zqa,by unfold SpOk;decide+kernel,by decide+kernel⟩,by decide,by decide+kernel,by decide+kernel,by decide+kernel⟩
theorem Zo3:GP 15 [.d (.sl 0 [])] false (⟨(⟨⟨32,8⟩,List.replicate 256 0,List.replicate 8 ⟨0,0,0,0⟩,0,-1⟩:Heap),[],[]⟩:WorldM).av []:=by
 have k:=Zb4 [] pq;rw[Zfy]at k;intro w Im vs hIm hsz h;refine k w Im vs hIm hsz fun i x v hx hv=>?_;rcases i with _ | i
 ·cases hx;exact Z9D 1 (h 0 _ v rfl hv)
 ·simp at hx
theorem ZpE:GP 62 [.ag [int 32,int 8,.d (.sl 1 ((List.replicate 256 0).map wdv)),.d (.sl 4 ((List.replicate 8 (⟨0,0,0,0⟩:Page)).map Page.dv)),int 0,int (-1),.d (.sl 0 []),.d (.sl 0 [])],.ag [int 3,int 1,.d (.sc (.int .u32 0))]] false (⟨(⟨⟨32,8⟩,(List.replicate 256 0).set 0 29,[⟨1,0,2,0⟩,⟨0,0,0,0⟩,⟨0,0,0,0⟩,⟨0,0,0,0⟩,⟨0,0,0,0⟩,⟨0,0,0,0⟩,⟨0,0,0,0⟩,⟨0,0,0,0⟩],0,0⟩:Heap),[4096],[]⟩:WorldM).av []:=by
 have hm:=ZfC [];rw[Zfy]at hm;have k:=Z6A ⟨hA10,[],[]⟩ ⟨3,1,0⟩ (hm.wm dd) dd;rw[ZnR]at k;intro w Im vs hIm hsz h;refine k w Im vs hIm hsz fun i x v hx hv=>?_;rcases i with _ | _ | i
 ·cases hx;obtain⟨cs,rfl,h2,h3,h4⟩:=Z3u (h 0 _ v rfl hv);refine .ag _ _ h2 h3 (fun i a u ha hu=>?_);rcases i with _ | _ | _ | _ | _ | _ | _ | _ | i
  ·cases ha;exact h4 0 _ u rfl hu
  ·cases ha;exact h4 1 _ u rfl hu
  ·cases ha;exact h4 2 _ u rfl hu
  ·cases ha;exact h4 3 _ u rfl hu
  ·cases ha;exact h4 4 _ u rfl hu
  ·cases ha;exact h4 5 _ u rfl hu
  ·cases ha;exact Z9D 1 (h4 6 _ u rfl hu)
  ·cases ha;exact Z9D 1 (h4 7 _ u rfl hu)
  ·cases (show(none:Option AV)=some a from ha)
 ·cases hx;exact h 1 _ v rfl hv
 ·simp at hx
theorem ZoD:GP 33 [(⟨⟨32,8⟩,(List.replicate 256 0).set 0 29,[⟨1,0,2,0⟩,⟨0,0,0,0⟩,⟨0,0,0,0⟩,⟨0,0,0,0⟩,⟨0,0,0,0⟩,⟨0,0,0,0⟩,⟨0,0,0,0⟩,⟨0,0,0,0⟩],0,0⟩:Heap).av] false (.tu [(⟨⟨⟨32,8⟩,(List.replicate 256 0).set 0 29,[⟨1,0,2,0⟩,⟨0,0,0,0⟩,⟨0,0,0,0⟩,⟨0,0,0,0⟩,⟨0,0,0,0⟩,⟨0,0,0,0⟩,⟨0,0,0,0⟩,⟨0,0,0,0⟩],0,0⟩,[4096],[],[],0,⟨0,0,0,0,0,0⟩⟩:Work).av,int 0]) []:=by
 have k:=Zgc hB10 Zjy ZfB Zo1;rw[Zis]at k;exact k
theorem ZpX:GP 36 [(⟨⟨⟨32,8⟩,(List.replicate 256 0).set 0 29,[⟨1,0,2,0⟩,⟨0,0,0,0⟩,⟨0,0,0,0⟩,⟨0,0,0,0⟩,⟨0,0,0,0⟩,⟨0,0,0,0⟩,⟨0,0,0,0⟩,⟨0,0,0,0⟩],0,0⟩,[4096],[],[],0,⟨0,0,0,0,0,0⟩⟩:Work).av,u64 4096] true (.tu [(⟨⟨⟨32,8⟩,((List.replicate 256 0).set 0 16514).set 32 29,[⟨1,0,2,0⟩,⟨1,1,2,0⟩,⟨0,0,0,0⟩,⟨0,0,0,0⟩,⟨0,0,0,0⟩,⟨0,0,0,0⟩,⟨0,0,0,0⟩,⟨0,0,0,0⟩],0,0⟩,[4096],[1],[4128],0,⟨1,0,0,0,0,0⟩⟩:Work).av,u64 4128,int 0]) []:=by
 have k:=Zd9 wB0 4096 Zq9;rw[Zkf]at k;exact k
theorem Zqb:GP 36 [(⟨⟨⟨32,8⟩,((List.replicate 256 0).set 0 16514).set 32 29,[⟨1,0,2,0⟩,⟨1,1,2,0⟩,⟨0,0,0,0⟩,⟨0,0,0,0⟩,⟨0,0,0,0⟩,⟨0,0,0,0⟩,⟨0,0,0,0⟩,⟨0,0,0,0⟩],0,0⟩,[4096],[1],[4128],0,⟨1,0,0,0,0,0⟩⟩:Work).av,u64 4096] true (.tu [(⟨⟨⟨32,8⟩,((List.replicate 256 0).set 0 16514).set 32 29,[⟨1,0,2,0⟩,⟨1,1,2,0⟩,⟨0,0,0,0⟩,⟨0,0,0,0⟩,⟨0,0,0,0⟩,⟨0,0,0,0⟩,⟨0,0,0,0⟩,⟨0,0,0,0⟩],0,0⟩,[4096],[1],[4128],0,⟨1,0,0,0,0,0⟩⟩:Work).av,u64 4128,int 0]) []:=by
 have k:=Zd9 wB1 4096 Zqf;rw[ZpD]at k;exact k
theorem ZaG:GP 35 [] true (bool true) []:=by
 exact gF [] Tryz.func35 [] (Fh 33 [.el (wdv ((WorldM.mk (Heap.mk (Conf.mk 32 8) ((List.replicate 256 0).set 0 29) [Page.mk 1 0 2 0,Page.mk 0 0 0 0,Page.mk 0 0 0 0,Page.mk 0 0 0 0,Page.mk 0 0 0 0,Page.mk 0 0 0 0,Page.mk 0 0 0 0,Page.mk 0 0 0 0] 0 0) [4096] []).G.getD 0 default))] (Fh 43 [.el (wdv ((WorldM.mk (Heap.mk (Conf.mk 32 8) ((List.replicate 256 0).set 0 29) [Page.mk 1 0 2 0,Page.mk 0 0 0 0,Page.mk 0 0 0 0,Page.mk 0 0 0 0,Page.mk 0 0 0 0,Page.mk 0 0 0 0,Page.mk 0 0 0 0,Page.mk 0 0 0 0] 0 0) [4096] []).G.getD 0 default))] (Fc 10 (@Zo3) (Fc 14 (@ZpE) (Fc 18 (@ZoD) (Fa (by simp[*]:(0:Int)≤0∧(List.map wdv (WorldM.mk (Heap.mk (Conf.mk 32 8) ((List.replicate 256 0).set 0 29) [Page.mk 1 0 2 0,Page.mk 0 0 0 0,Page.mk 0 0 0 0,Page.mk 0 0 0 0,Page.mk 0 0 0 0,Page.mk 0 0 0 0,Page.mk 0 0 0 0,Page.mk 0 0 0 0] 0 0) [4096] []).G)[Int.toNat 0]? = some (wdv ((WorldM.mk (Heap.mk (Conf.mk 32 8) ((List.replicate 256 0).set 0 29) [Page.mk 1 0 2 0,Page.mk 0 0 0 0,Page.mk 0 0 0 0,Page.mk 0 0 0 0,Page.mk 0 0 0 0,Page.mk 0 0 0 0,Page.mk 0 0 0 0,Page.mk 0 0 0 0] 0 0) [4096] []).G.getD 0 default))) (Fc 35 (@ZpX) (Fa (by simp[*]:(0:Int)≤0∧(List.map wdv (WorldM.mk (Heap.mk (Conf.mk 32 8) ((List.replicate 256 0).set 0 29) [Page.mk 1 0 2 0,Page.mk 0 0 0 0,Page.mk 0 0 0 0,Page.mk 0 0 0 0,Page.mk 0 0 0 0,Page.mk 0 0 0 0,Page.mk 0 0 0 0,Page.mk 0 0 0 0] 0 0) [4096] []).G)[Int.toNat 0]? = some (wdv ((WorldM.mk (Heap.mk (Conf.mk 32 8) ((List.replicate 256 0).set 0 29) [Page.mk 1 0 2 0,Page.mk 0 0 0 0,Page.mk 0 0 0 0,Page.mk 0 0 0 0,Page.mk 0 0 0 0,Page.mk 0 0 0 0,Page.mk 0 0 0 0,Page.mk 0 0 0 0] 0 0) [4096] []).G.getD 0 default))) (Fc 45 (@Zqb) Fz)))))))))
def sumP(f:Page→Int)(l:List Page):Int:=(l.map f).sum
def nzP(p:Page):Int:=if p.K=0 then 0 else 1
def usP(p:Page):Int:=if p.K=1 then p.U else 0
def unP(p:Page):Int:=if p.K=1∧¬ 0<p.N then p.U else 0
def lgP(p:Page):Int:=if p.K=2∨p.K=3 then 1 else 0
theorem Z5O(f:Page→Int)(p:Page):∀ (l:List Page) (i:Nat),i<l.length→sumP f (l.set i p)+f (l.getD i default)=sumP f l+f p
 | [],i,h=>by simp at h
 | x::l,0,_=>by simp[sumP];omega
 | x::l,i+1,h=>by
  have:=Z5O f p l i (by simpa using h);simp only[sumP,List.set_cons_succ,List.map_cons,List.sum_cons,List.getD_cons_succ]at this ⊢;omega
theorem Z2Q(f:Page→Int){l l':List Page}(hl:l'.length=l.length)(h:∀ i,i<l.length→f (l'.getD i default)=f (l.getD i default)):sumP f l'=sumP f l:=by
 unfold sumP;congr 1;refine List.ext_getElem (by simpa using hl) fun i h1 h2=>?_;have hi:i<l.length:=by simpa using h2
 have:=h i hi;rw[List.getD_eq_getElem?_getD,List.getD_eq_getElem?_getD,List.getElem?_eq_getElem hi,List.getElem?_eq_getElem oq]at this;simpa using this
theorem Z1z(f:Page→Int)(l:List Page):sumP f l=((List.range l.length).map fun i=>f (l.getD i default)).sum:=by
 unfold sumP;congr 1;refine List.ext_getElem pq fun i h1 h2=>?_;have hi:i<l.length:=by simpa using h1
 simp[List.getD_eq_getElem?_getD,hi]
theorem Z4o{α:Type}{f g:α→Int}:∀ {l:List α},(∀ x∈l,f x≤g x)→(l.map f).sum≤(l.map g).sum
 | [],_=>by simp
 | x::l,h=>by
  have:=Z4o (l:=l) fun y hy=>h y (List.mem_cons_of_mem _ hy);have:=h x pq;simp only[List.map_cons,List.sum_cons];omega
theorem ZeS{α:Type}{f g:α→Int}{n:Int}{r:α}:∀ {l:List α},(∀ x∈l,f x≤g x)→r∈l→f r+n≤g r→(l.map f).sum+n≤(l.map g).sum
 | [],_,hr,_=>by simp at hr
 | x::l,h,hr,hn=>by
  have h0:=h x pq;have hl:∀ y∈l,f y≤g y:=fun y hy=>h y (List.mem_cons_of_mem _ hy);simp only[List.map_cons,List.sum_cons];rcases List.mem_cons.1 hr with rfl | hr
  ·have:=Z4o hl;omega
  ·have:=ZeS hl hr hn;omega
theorem Z2N{α:Type}{f:α→Int}:∀ {l:List α},(∀ x∈l,0≤f x)→0≤(l.map f).sum
 | [],_=>by simp
 | x::l,h=>by
  have:=Z2N (l:=l) fun y hy=>h y (List.mem_cons_of_mem _ hy);have:=h x pq;simp only[List.map_cons,List.sum_cons];omega
theorem Zf3{ws:List Int}:∀ {l:List Int} {a b:Int},tile ws a b l→(l.map fun x=>hlA ws x+1).sum=b-a
 | [],a,b,h=>by simp only[tile]at h;simp;omega
 | x::l,a,b,h=>by
  have:=Zf3 h.2.2;simp only[List.map_cons,List.sum_cons,this,h.1];omega
theorem Zdj(l:List Page):∀ i,i≤l.length→(∃ j,j<i∧(l.getD j default).K=0)→Z04 l i≠[]
 | 0,_,⟨j,hj,_⟩=>by omega
 | i+1,hi,⟨j,hj,hk⟩=>by
  have hpa:Z1e l i=l.getD i default:=by rw[Z3K];simp
  simp only[Z04,Z3f];split
  ·split<;>simp
  ·rename_i c;rw[hpa]at c;exact Zdj l i oq ⟨j,by
    by_cases q:j=i
    ·subst q;exact absurd hk c
    ·omega,hk⟩
theorem ZgD{l:List Page}(h:¬ 0≤first l 1):∀ j,j<l.length→(l.getD j default).K≠0:=by
 intro j hj hk;have hn:=Zdj l l.length (Nat.le_refl _) ⟨j,hj,hk⟩;unfold first at h
 rw[if_neg oq]at h;have ok:=(Z2m l l.length).2;cases hr:Z04 l l.length with
 | nil=>exact hn hr
 | cons r rs =>
  have:=ok r (by rw[hr];simp);rw[show runs l=r::rs from hr,Z2M,if_pos oq]at h;omega
theorem ZpB{l:List Page}(h:∀ j,j<l.length→(l.getD j default).K≠0):sumP nzP l=l.length:=by
 rw[Z1z];have:∀ n,n≤l.length→((List.range n).map fun i=>nzP (l.getD i default)).sum=n:=by
  intro n;induction n with
  | zero=>simp
  | succ n ih =>
   intro hn;have:=ih oq;rw[List.range_succ,List.map_append,List.sum_append,this];simp only[List.map_cons,List.map_nil,List.sum_cons,List.sum_nil,nzP,if_neg (h n oq)];omega
 exact this _ (Nat.le_refl _)
def wtW(h:Heap)(w:Work)(x:Int):Int:=if(Z08 (loadA w.heap.W x).1).2=true then 0 else hlA h.W x+1
def Z9d(h:Heap)(T:Nat→List Int)(w:Work)(i:Nat):Int:=if(h.P.getD i default).K=1∧¬ 0<(h.P.getD i default).N then((T i).map (wtW h w)).sum else 0
def Z5Q(h:Heap)(T:Nat→List Int)(w:Work):Int:=((List.range h.P.length).map (Z9d h T w)).sum
structure MI (h:Heap) (T:Nat→List Int) (w:Work):Prop where
 m0:w.heap.P.length=h.P.length∧w.heap.C=h.C
 m1:sumP usP h.P≤sumP usP w.heap.P
 m2:0<w.T.length→((w.T.length:Int)-1)*(h.C.pw/4*3+1)+(w.heap.P.getD (Z0k w).toNat default).U≤sumP usP w.heap.P-sumP usP h.P
 m3:sumP usP w.heap.P+Z5Q h T w≤sumP usP h.P+sumP unP h.P
 m4:sumP nzP w.heap.P=sumP nzP h.P+w.T.length
 m5:∀ i,i<h.P.length→(h.P.getD i default).K=1→((w.heap.P.getD i default).S=w.heap.S↔¬ 0<(h.P.getD i default).N)
theorem Z6K(h:Heap)(w:Work)(x:Int):0≤wtW h w x∧wtW h w x≤hlA h.W x+1:=by
 have:=Z0d h.W x;unfold wtW;split<;>omega
theorem ZhS{h:Heap}{T:Nat→List Int}{w w':Work}(e:w'.heap.W=w.heap.W):Z5Q h T w'=Z5Q h T w:=by
 unfold Z5Q Z9d wtW;rw[e]
theorem ZgI{h:Heap}{T:Nat→List Int}(g:Gd h T)(w:Work):Z5Q h T w≤sumP unP h.P:=by
 rw[Z1z];refine Z4o fun i hi=>?_;have hi:=List.mem_range.1 hi;unfold Z9d unP;split
 ·rename_i k;have t:=Zf3 (g.t1 i hi k.1).1;have:=Z4o (l:=T i) (f:=wtW h w) (g:=fun x=>hlA h.W x+1) fun x _=>(Z6K h w x).2;omega
 ·omega
theorem ZeK(h:Heap)(T:Nat→List Int)(w:Work):0≤Z5Q h T w:=by
 refine Z2N fun i _=>?_;unfold Z9d;split
 ·exact Z2N fun x _=>(Z6K h w x).1
 ·omega
theorem Zln{h:Heap}{T:Nat→List Int}{w w':Work}{n r:Int}{i0:Nat}(hi:i0<h.P.length)(hk:(h.P.getD i0 default).K=1∧¬ 0<(h.P.getD i0 default).N)(hr:r∈T i0)(h1:∀ i x,x∈T i→wtW h w' x≤wtW h w x)(h2:wtW h w' r+n≤wtW h w r):Z5Q h T w'+n≤Z5Q h T w:=by
 refine ZeS (r:=i0) (fun i hi=>?_) (List.mem_range.2 hi) ?_
 ·unfold Z9d;split
  ·exact Z4o fun x hx=>h1 i x hx
  ·omega
 ·unfold Z9d;rw[if_pos hk,if_pos hk];exact ZeS (fun x hx=>h1 i0 x hx) hr h2
theorem MI.begin{h:Heap}{T:Nat→List Int}(g:Gd h T):MI h T (beginW h):=by
 have e:∀ i,i<h.P.length→(((beginW h).heap.P.getD i default).K=(h.P.getD i default).K∧((beginW h).heap.P.getD i default).U=(h.P.getD i default).U):=by
  intro i hi;simp only[beginW,List.getD_eq_getElem?_getD,List.getElem?_map,List.getElem?_eq_getElem hi,Option.map_some,Option.getD_some,begQ];split<;>exact⟨rfl,rfl⟩
 have l:(beginW h).heap.P.length=h.P.length:=by simp[beginW]
 have e1:sumP usP (beginW h).heap.P=sumP usP h.P:=Z2Q usP l fun i hi=>by unfold usP;rw[(e i hi).1,(e i hi).2]
 have e2:sumP nzP (beginW h).heap.P=sumP nzP h.P:=Z2Q nzP l fun i hi=>by unfold nzP;rw[(e i hi).1]
 have r:=ZgI g (beginW h);refine⟨⟨l,rfl⟩,by omega,by simp[beginW],by omega,by rw[e2];simp[beginW],fun i hi hk=>?_⟩;have sp:=g.sp i hi oq;have po:=Z06 g.p;simp only[beginW,List.getD_eq_getElem?_getD,List.getElem?_map,List.getElem?_eq_getElem hi,Option.map_some,Option.getD_some,begQ]at hk sp ⊢;split
 ·rename_i c;simp only;omega
 ·rename_i c;omega
theorem MI.keep{h:Heap}{T:Nat→List Int}{w:Work}(m:MI h T w)(r:Int):MI h T (w.keep r):=⟨m.m0,m.m1,m.m2,m.m3,m.m4,m.m5⟩
theorem MI.flip{h:Heap}{T tq:Nat→List Int}{w:Work}(m:MI h T w)(k:KI h T tq w){i:Nat}(h2:(w.heap.P.getD i default).K=2):MI h T (w.flip i):=by
 have e:∀ j,((w.flip i).heap.P.getD j default).K=(w.heap.P.getD j default).K∧((w.flip i).heap.P.getD j default).U=(w.heap.P.getD j default).U:=by
  intro j;simp only[Work.flip];by_cases hj:j<w.heap.P.length
  ·rw[Z1o hj];split<;>exact⟨rfl,rfl⟩
  ·rw[List.getD_eq_getElem?_getD,List.getD_eq_getElem?_getD,List.getElem?_eq_none (by rw[Z1g];omega),List.getElem?_eq_none oq];exact⟨rfl,rfl⟩
 have l:(w.flip i).heap.P.length=w.heap.P.length:=by simp[Work.flip,Z1g]
 have e1:sumP usP (w.flip i).heap.P=sumP usP w.heap.P:=Z2Q usP l fun j _=>by unfold usP;rw[(e j).1,(e j).2]
 have e2:sumP nzP (w.flip i).heap.P=sumP nzP w.heap.P:=Z2Q nzP l fun j _=>by unfold nzP;rw[(e j).1]
 have e3:Z5Q h T (w.flip i)=Z5Q h T w:=ZhS rfl;have et:(w.flip i).T=w.T:=rfl;have el:Z0k (w.flip i)=Z0k w:=rfl;refine⟨⟨by rw[l];exact m.m0.1,m.m0.2⟩,by rw[e1];exact m.m1, ?_,by rw[e1,e3];exact m.m3,by rw[e2,et];exact m.m4,fun j hj hk=>?_⟩;rotate_left
 ·have hpl:=m.m0.1;have jt:(j:Int)∉w.T:=fun q=>by have:=(k.tk j q).2.1;omega
  have kj:=(k.pg j jt).1;rw[hk]at kj;have:(w.flip i).heap.P.getD j default=w.heap.P.getD j default:=by
   simp only[Work.flip];rw[Z1o oq,if_neg];rintro⟨q1,q2⟩;by_cases q:j=i
   ·subst q;omega
   ·have:=(Z6n (l:=w.heap.P) (i:=i) (m:=j-i-1) oq).2;rw[show i+1+(j-i-1)=j by omega]at this;omega
  rw[this];exact m.m5 j hj hk
 intro q;rw[et,el,(e _).2,e1];exact m.m2 q
theorem MI.copy{h:Heap}{T tq:Nat→List Int}{w:Work}(g:Gd h T)(m:MI h T w)(k:KI h T tq w)(hw:WkOk w){r n:Int}{i0:Nat}(hr:r∈T i0)(h1:(h.P.getD i0 default).K=1)(hup:¬ 0<(h.P.getD i0 default).N)(ht:(Z08 (loadA w.heap.W r).1).2=false)(hn:n=hlA w.heap.W r+1)(hc:(w.place n).2.2=true):MI h T ((w.place n).1.copy r (w.place n).2.1 n):=by
 have he:(loadA w.heap.W r).1=(loadA h.W r).1:=by
  rcases k.hd i0 r hr with q | q
  ·exact q
  ·rw[q.1]at ht;cases ht
 have hlr:=Z0d w.heap.W r;have ehl:hlA w.heap.W r=hlA h.W r:=(Z1O he).2.1;have hil:=(g.t0 i0 r hr).1;have hsm:=(g.t1 i0 hil h1).2 r hr;have po:=Z06 g.p;have sw:=Z1v po.1;have hv:=validB_iff.1 po.1;have hpw:n≤w.heap.C.pw:=by rw[k.c];omega
 obtain⟨i,p,t,p1,p2,p3,p4,p5,p6,p7,e⟩:=Z5x hw ⟨by omega,hpw⟩ hc;have hcc:=k.c;have hin:=g.inw hr;have hki:(h.P.getD i default).K=0:=by
  rcases p2 with q | q
  ·by_cases c:(i:Int)∈w.T
   ·exact(k.tk i c).2.1
   ·rw[← (k.pg i c).1];exact q.1
  ·exact(k.tk i q.1).2.1
 have hpl:=k.pl;have hwl:=k.wl;have hio:=Z14 (i:=i) (j:=h.C.pg) (pw:=h.C.pw) oq oq;rw[Int.mul_comm h.C.pg]at hio;have hi0:0≤(i:Int)*h.C.pw:=Int.mul_nonneg oq oq;have hx:∀ j x,x∈T j→x≠r→(loadA (Z0J (moveA w.heap.W (w.place n).2.1 r n).1 r (4*(w.place n).2.1+2)).1 x).1=(loadA w.heap.W x).1:=by
  intro j x hx hne;have far:=g.free (show i<h.P.length by omega) (Or.inl hki) hx;rw[occP,if_pos hki]at far;have r1:=Z0d h.W x;unfold bsP at far;rw[p7,hcc];rw[hcc]at p5;have farr:=g.free (show i<h.P.length by omega) (Or.inl hki) hr;rw[occP,if_pos hki]at farr;unfold bsP at farr;obtain⟨m1,m2,m3⟩:=Z57 (ws:=w.heap.W) (a:=4+4092+(i:Int)*h.C.pw+occP (w.heap.P.getD i default)) (b:=r) (n:=n) oq oq oq;rw[show(4:Int)+4092+(i:Int)*h.C.pw=4096+(i:Int)*h.C.pw by omega]at m1 m2 m3;rw[Z0y (by rw[m1];omega) hne,m3 x oq]
 have hrr:(Z08 (loadA (Z0J (moveA w.heap.W (w.place n).2.1 r n).1 r (4*(w.place n).2.1+2)).1 r).1).2=true:=by
  have farr:=g.free (show i<h.P.length by omega) (Or.inl hki) hr;rw[occP,if_pos hki]at farr;unfold bsP at farr;rw[p7,hcc];rw[hcc]at p5;obtain⟨m1,m2,m3⟩:=Z57 (ws:=w.heap.W) (a:=4+4092+(i:Int)*h.C.pw+occP (w.heap.P.getD i default)) (b:=r) (n:=n) oq oq oq;rw[show(4:Int)+4092+(i:Int)*h.C.pw=4096+(i:Int)*h.C.pw by omega]at m1 m2 m3;rw[Z1V (by rw[m1];omega)];rw[Z5H oq oq]
 have ew:((w.place n).1.copy r (w.place n).2.1 n).heap.W=(Z0J (moveA w.heap.W (w.place n).2.1 r n).1 r (4*(w.place n).2.1+2)).1:=by
  rw[e];rfl
 have hrest:Z5Q h T ((w.place n).1.copy r (w.place n).2.1 n)+n≤Z5Q h T w:=by
  refine Zln hil ⟨h1,hup⟩ hr (fun j x hxj=>?_) ?_
  ·unfold wtW;rw[ew];by_cases q:x=r
   ·subst q;rw[if_pos hrr];have:=(Z6K h w x).1;unfold wtW at this;exact this
   ·rw[hx j x hxj q];exact Int.le_refl _
  ·unfold wtW;rw[ew,if_pos hrr,if_neg (by rw[ht];simp)];omega
 have eP:((w.place n).1.copy r (w.place n).2.1 n).heap.P=w.heap.P.set i p:=by rw[e];rfl
 have eT:((w.place n).1.copy r (w.place n).2.1 n).T=t:=by rw[e];rfl
 have eL:Z0k ((w.place n).1.copy r (w.place n).2.1 n)=t.getD ((t.length:Int)-1).toNat default:=by unfold Z0k;rw[eT]
 have s1:=Z5O usP p w.heap.P i p1;have s2:=Z5O nzP p w.heap.P i p1;have u1:usP p=p.U:=by rw[usP,if_pos p3]
 have z1:nzP p=1:=by rw[nzP,if_neg oq]
 have m1:=m.m1;have m3:=m.m3;have m4:=m.m4;have hmul:0≤((w.T.length:Int))*(h.C.pw/4*3+1):=Int.mul_nonneg oq oq;have h5:∀ j,j<h.P.length→(h.P.getD j default).K=1→((((w.place n).1.copy r (w.place n).2.1 n).heap.P.getD j default).S=((w.place n).1.copy r (w.place n).2.1 n).heap.S↔¬ 0<(h.P.getD j default).N):=by
  intro j hj hk;have eS:((w.place n).1.copy r (w.place n).2.1 n).heap.S=w.heap.S:=by rw[e];rfl
  rw[eP,eS,Z0p p1,if_neg (by rintro rfl;omega)];exact m.m5 j hj hk
 rcases p2 with⟨q1,q2,q3⟩ | ⟨q1,q2,q3,q4⟩
 ·have u2:usP (w.heap.P.getD i default)=0:=by rw[usP,if_neg oq]
  have z2:nzP (w.heap.P.getD i default)=0:=by rw[nzP,if_pos q1]
  have oc:occP (w.heap.P.getD i default)=0:=by rw[occP,if_pos q1]
  rw[oc]at p4;have hu:sumP usP (w.heap.P.set i p)=sumP usP w.heap.P+n:=by omega
  refine⟨⟨by rw[eP,List.length_set];exact m.m0.1,by rw[e];exact m.m0.2⟩,by rw[eP];omega, ?_,by rw[eP];omega,by rw[eP,eT,q2,List.length_append,List.length_singleton];omega,h5⟩;intro _;rw[eL,eP,eT,hu,q2];have el:(w.T++[(i:Int)]).getD ((((w.T++[(i:Int)]).length:Nat):Int)-1).toNat default=i:=by
   rw[List.length_append,List.length_singleton,show(((w.T.length+1:Nat):Int)-1).toNat=w.T.length by omega];simp[List.getD_eq_getElem?_getD]
  rw[el,Int.toNat_natCast,Z0p p1,if_pos rfl,List.length_append,List.length_singleton];rw[show(((w.T.length+1:Nat):Int)-1)=w.T.length by omega];by_cases z:0<w.T.length
  ·have m2:=m.m2 z;have nf:¬ Z2u w n:=by
    intro f;have hp:(w.place n).2.1=4096+Z0k w*w.heap.C.pw+(w.heap.P.getD (Z0k w).toNat default).U:=by rw[Work.place,if_pos f]
    have htk:(w.place n).1.T=w.T:=by rw[Work.place,if_pos f]
    rw[e]at htk;simp only at htk;rw[q2]at htk;have:=congrArg List.length htk;simp at this
   unfold Z2u at nf;have hb:=hw.us (Z0k w).toNat (by have:=hw.tk _ (Z17 z);omega)
   rw[show((w.T.length:Int))*(h.C.pw/4*3+1)=((w.T.length:Int)-1)*(h.C.pw/4*3+1)+(h.C.pw/4*3+1) by rw[Int.sub_mul];omega];have hq:h.C.pw/4*3+1≤(w.heap.P.getD (Z0k w).toNat default).U:=by
    have hpm:h.C.pw=h.C.pw/4*4:=by
     have:=hv.2.2.1;rw[Int.tmod_eq_emod_of_nonneg oq]at this;omega
    rw[hcc]at nf;omega
   omega
  ·have:w.T.length=0:=by omega
   rw[this];simp;omega
 ·have u2:usP (w.heap.P.getD i default)=(w.heap.P.getD i default).U:=by rw[usP,if_pos q2]
  have z2:nzP (w.heap.P.getD i default)=1:=by rw[nzP,if_neg oq]
  have oc:occP (w.heap.P.getD i default)=(w.heap.P.getD i default).U:=by rw[occP,if_neg oq]
  rw[oc]at p4;have hu:sumP usP (w.heap.P.set i p)=sumP usP w.heap.P+n:=by omega
  refine⟨⟨by rw[eP,List.length_set];exact m.m0.1,by rw[e];exact m.m0.2⟩,by rw[eP];omega, ?_,by rw[eP];omega,by rw[eP,eT,q3];omega,h5⟩;intro z;rw[eT,q3]at z;have m2:=m.m2 z;rw[eL,eP,eT,hu,q3];rw[Z0p p1];show((w.T.length:Int)-1)*_+Page.U (if i=(Z0k w).toNat then p else w.heap.P.getD (Z0k w).toNat default)≤_;split
  ·rename_i c;rw[p4,c];omega
  ·omega
structure MV (h:Heap):Prop where
 v:sumP usP h.P+sumP lgP h.P*h.C.pw≤h.C.pg/4*h.C.pw
 n:∃ t:Int,sumP nzP h.P≤h.C.pg/4+sumP lgP h.P+t∧(t-1)*(h.C.pw/4*3+1)≤sumP usP h.P
theorem ZjD{α:Type}{f:α→Int}{r:α}:∀ {l:List α},(∀ x∈l,0≤f x)→r∈l→f r≤(l.map f).sum
 | [],_,hr=>by simp at hr
 | x::l,h,hr=>by
  have h0:=h x pq;have hl:∀ y∈l,0≤f y:=fun y hy=>h y (List.mem_cons_of_mem _ hy);simp only[List.map_cons,List.sum_cons];rcases List.mem_cons.1 hr with rfl | hr
  ·have:=Z2N hl;omega
  ·have:=ZjD hl hr;omega
theorem ZgX{t t' s q L U nz pg:Int}(hs:4≤s)(hq:2≤q)(hpg:4*q≤pg)(hL:0≤L)(ht:0≤t)(h1:pg=nz+t)(h2:t*(s*3+1)≤U-1)(h3:nz≤q+L+t')(h4:(t'-1)*(s*3+1)≤U)(h5:U+L*(s*4)≤q*(s*4)):False:=by
 have e2:t*(s*3+1)=3*t*s+t:=by grind
 have e4:(t'-1)*(s*3+1)=3*(t'-1)*s+(t'-1):=by grind
 have e5:q*(s*4)-L*(s*4)=4*(q-L)*s:=by grind
 have a1:3*t<4*(q-L):=by
  by_cases c:3*t<4*(q-L)
  ·exact c
  ·have:=Int.mul_le_mul_of_nonneg_right (show 4*(q-L)≤3*t by omega) (show 0≤s by omega);omega
 have a2:3*(t'-1)<4*(q-L):=by
  by_cases c:3*(t'-1)<4*(q-L)
  ·exact c
  ·have:=Int.mul_le_mul_of_nonneg_right (show 4*(q-L)≤3*(t'-1) by omega) (show 0≤s by omega);omega
 omega
theorem MI.unp{h:Heap}{T tq:Nat→List Int}{w:Work}(m:MI h T w)(k:KI h T tq w){r o:Int}{i0:Nat}(ofr:ofA w.heap.C r=((i0:Int),o,0))(nt:(i0:Int)∉w.T)(hi:i0<h.P.length)(k1:(h.P.getD i0 default).K=1)(c4:¬ Z0G w (ofA w.heap.C r).1=true):¬ 0<(h.P.getD i0 default).N:=by
 intro hp;apply c4;have hpl:=m.m0.1;have q:=(m.m5 i0 hi k1)
 have kk:=(k.pg i0 nt).1;simp only[Z0G,decide_eq_true_eq];rw[ofr];simp only[Int.toNat_natCast];exact⟨by omega,by omega,by omega,fun c=>(q.1 c) hp,nt⟩
section
variable {h:Heap} {T tq:Nat→List Int} {w:Work} (g:Gd h T) (m:MI h T w) (k:KI h T tq w) (hw:WkOk w) (mv:MV h)
include g m k hw mv
theorem MI.room{r n:Int}{i0:Nat}(hr:r∈T i0)(h1:(h.P.getD i0 default).K=1)(hup:¬ 0<(h.P.getD i0 default).N)(ht:(Z08 (loadA w.heap.W r).1).2=false)(hn:n=hlA w.heap.W r+1):(w.place n).2.2=true:=by
 have he:(loadA w.heap.W r).1=(loadA h.W r).1:=by
  rcases k.hd i0 r hr with q | q
  ·exact q
  ·rw[q.1]at ht;cases ht
 have hlr:=Z0d w.heap.W r;have ehl:hlA w.heap.W r=hlA h.W r:=(Z1O he).2.1;have hil:=(g.t0 i0 r hr).1;have hsm:=(g.t1 i0 hil h1).2 r hr;have po:=Z06 g.p;have sw:=Z1v po.1;have hv:=validB_iff.1 po.1;have hpm:h.C.pw=h.C.pw/4*4:=by
  have:=hv.2.2.1;rw[Int.tmod_eq_emod_of_nonneg oq]at this;omega
 by_cases hf:Z2u w n
 ·rw[Work.place,if_pos hf]
 ·by_cases hg:0≤Z0e w
  ·rw[Work.place,if_neg hf,if_pos hg]
  ·exfalso;have nz:=ZpB (ZgD (l:=w.heap.P) hg);have m0:=m.m0;have m1:=m.m1;have m3:=m.m3;have m4:=m.m4;have hpl:=hw.pl;rw[m0.2]at hpl;have hrest:n≤Z5Q h T w:=by
    have a:Z9d h T w i0≤Z5Q h T w:=ZjD (fun i _=>by
     unfold Z9d;split
     ·exact Z2N fun x _=>(Z6K h w x).1
     ·exact Int.le_refl _) (List.mem_range.2 hil)
    have b:wtW h w r≤Z9d h T w i0:=by
     unfold Z9d;rw[if_pos ⟨h1,hup⟩];exact ZjD (fun x _=>(Z6K h w x).1) hr
    unfold wtW at b;rw[if_neg (by rw[ht];simp)]at b;omega
   have hun:sumP unP h.P≤sumP usP h.P:=Z4o fun p hp=>by
    obtain⟨j,hj,rfl⟩:=List.getElem_of_mem hp;have pp:=Z0D g.p hj;rw[List.getD_eq_getElem?_getD,List.getElem?_eq_getElem hj,Option.getD_some]at pp;unfold unP usP;split
    ·rename_i c;rw[if_pos c.1];omega
    ·split<;>omega
   have hL:0≤sumP lgP h.P:=Z2N fun p _=>by unfold lgP;split<;>omega
   have h2:(w.T.length:Int)*(h.C.pw/4*3+1)≤sumP usP h.P-1:=by
    by_cases z:0<w.T.length
    ·have m2:=m.m2 z;unfold Z2u at hf;rw[m0.2]at hf;have hq:h.C.pw/4*3+1≤(w.heap.P.getD (Z0k w).toNat default).U:=by omega
     rw[show(w.T.length:Int)*(h.C.pw/4*3+1)=((w.T.length:Int)-1)*(h.C.pw/4*3+1)+(h.C.pw/4*3+1) by rw[Int.sub_mul];omega];omega
    ·have:w.T.length=0:=by omega
     rw[this];simp;omega
   obtain⟨t',n1,n2⟩:=mv.n;have v:=mv.v;exact ZgX (s:=h.C.pw/4) (q:=h.C.pg/4) (pg:=h.C.pg) (nz:=sumP nzP h.P) (L:=sumP lgP h.P) (U:=sumP usP h.P) (t:=w.T.length) (t':=t') oq oq oq hL oq oq h2 n1 n2 (by rw[← hpm];exact v)
theorem MI.fwd_ok(hi:CIv w){r:Int}(hr:r=0∨r∈w.Q∨r∈w.old):(w.fwd r).2.2=0:=by
 unfold Work.fwd;by_cases c1:r=0∨r∈w.Q
 ·rw[if_pos c1]
 rw[if_neg c1];have c2:r∈w.old:=by
  rcases hr with q | q | q
  ·exact absurd (Or.inl q) c1
  ·exact absurd (Or.inr q) c1
  ·exact q
 rw[if_neg (by simpa using c2)];obtain⟨i0,hx,hkd⟩:=(k.old r).1 c2;have ofr:ofA w.heap.C r=((i0:Int),r-bsP h i0,0):=by rw[k.c];exact g.ofx hx
 by_cases c3:(Z08 (loadA w.heap.W r).1).2=true
 ·rw[if_pos c3]
 rw[if_neg c3,if_neg (by rw[ofr];simp)];by_cases c4:Z0G w (ofA w.heap.C r).1=true
 ·rw[if_pos c4]
 rw[if_neg c4];by_cases c5:(w.heap.P.getD (Z16 w r) default).K=2
 ·rw[if_pos c5]
 rw[if_neg c5];have epw:Z16 w r=i0:=by rw[Z16,ofr];simp
 rw[epw]at c5;have nt:=k.nt g hx;have k1:(h.P.getD i0 default).K=1:=by
  have:=(g.t0 i0 r hx).2;rw[← (k.pg i0 nt).1]at this ⊢;omega
 have:=m.room g k hw mv hx k1 (m.unp k ofr nt (g.t0 i0 r hx).1 k1 c4) (by simpa using c3) rfl;rw[← Z1W w r]at this;rw[if_neg (by rw[this];simp)]
theorem MI.fwd(hi:CIv w){r:Int}(e:(w.fwd r).2.2=0):MI h T (w.fwd r).1:=by
 unfold Work.fwd at e ⊢;by_cases c1:r=0∨r∈w.Q
 ·rw[if_pos c1];exact m
 rw[if_neg c1]at e ⊢;by_cases c2:r∈w.old
 ·rw[if_neg (by simpa using c2)]at e ⊢;obtain⟨i0,hx,hkd⟩:=(k.old r).1 c2;have ofr:ofA w.heap.C r=((i0:Int),r-bsP h i0,0):=by rw[k.c];exact g.ofx hx
  by_cases c3:(Z08 (loadA w.heap.W r).1).2=true
  ·rw[if_pos c3];exact m
  rw[if_neg c3,if_neg (by rw[ofr];simp)]at e ⊢;by_cases c4:Z0G w (ofA w.heap.C r).1=true
  ·rw[if_pos c4];exact m.keep r
  rw[if_neg c4]at e ⊢;by_cases c5:(w.heap.P.getD (Z16 w r) default).K=2
  ·rw[if_pos c5];exact(m.flip k c5).keep r
  rw[if_neg c5]at e ⊢;have epw:Z16 w r=i0:=by rw[Z16,ofr];simp
  rw[epw]at c5;have nt:=k.nt g hx;have k1:(h.P.getD i0 default).K=1:=by
   have:=(g.t0 i0 r hx).2;rw[← (k.pg i0 nt).1]at this ⊢;omega
  have hup:=m.unp k ofr nt (g.t0 i0 r hx).1 k1 c4;have c6:=m.room g k hw mv hx k1 hup (by simpa using c3) rfl;rw[← Z1W w r]at c6;rw[if_neg (by rw[c6];simp)];exact m.copy g k hw hx k1 hup (by simpa using c3) (Z1W w r) c6
 ·rw[if_pos c2]at e;simp at e
end
theorem Zos{ws:List Int}{a b n k:Int}(ha:4096≤a∧a-4096+n≤ws.length)(hb:4096≤b∧b-4096+n≤ws.length)(hk:0≤k∧k<n):loadA (moveA ws a b n).1 (a+k)=((loadA ws (b+k)).1,0):=by
 have e1:Z1i ws b n=((ws.drop (b-4096).toNat).take n.toNat,0):=by rw[Z1i,if_neg oq,if_pos hb]
 have e2:moveA ws a b n=Z0z ws a ((ws.drop (b-4096).toNat).take n.toNat):=by rw[moveA,e1];simp
 have hl:((ws.drop (b-4096).toNat).take n.toNat).length=n.toNat:=by simp;omega
 rw[e2,Z1I oq oq];congr 1;unfold loadA;rw[if_pos oq];simp only[List.getD_eq_getElem?_getD];rw[show a+k-a=k by omega,List.getElem?_take_of_lt oq,List.getElem?_drop];rw[show(b-4096).toNat+k.toNat=(b+k-4096).toNat by omega]
def Z38(w:Work)(y:Int):Int:=if y∈w.Q then y else if(Z08 (loadA w.heap.W y).1).2=true then(Z08 (loadA w.heap.W y).1).1 else 0
structure NewF (h:Heap) (T:Nat→List Int) (w:Work) (r:Int) (i0:Nat) (w':Work) (a:Int):Prop where
 b:4096≤a
 q:w'.Q=w.Q++[a]
 n:w'.rep.copied+w'.rep.kept=w.rep.copied+w.rep.kept+1
 o:w'.old=w.old
 l:w'.heap.W.length=w.heap.W.length
 s:((h.P.getD i0 default).K=2∨0<(h.P.getD i0 default).N)↔a=r
 e:a-4096+hlA h.W r<w.heap.W.length
 f:a=r→w'.heap.W=w.heap.W
 c:a≠r→Z08 (loadA w'.heap.W r).1=(a,true)
 t:∀ j x,x∈T j→x≠r→a≠x∧loadA w'.heap.W x=loadA w.heap.W x
 x:∀ k,0≤k→k≤hlA h.W r→(loadA w'.heap.W (a+k)).1=(loadA w.heap.W (r+k)).1
section
variable {h:Heap} {T tq:Nat→List Int} {w:Work} (g:Gd h T) (m:MI h T w) (k:KI h T tq w) (hw:WkOk w) (mv:MV h)
include g m k hw mv
theorem Zod{r:Int}{i0:Nat}(hx:r∈T i0)(hkd:kdA h.W r≠0)(hq:r∉w.Q)(ht:(Z08 (loadA w.heap.W r).1).2=false) :
  (w.fwd r).2.2=0∧NewF h T w r i0 (w.fwd r).1 (w.fwd r).2.1:=by
 have ho:r∈w.old:=(k.old r).2 ⟨i0,hx,hkd⟩;have hin:=g.inw hx;have on:=g.on hx;have hlr:=Z0d h.W r;have he:(loadA w.heap.W r).1=(loadA h.W r).1:=by
  rcases k.hd i0 r hx with q | q
  ·exact q
  ·rw[q.1]at ht;cases ht
 have ehl:hlA w.heap.W r=hlA h.W r:=(Z1O he).2.1;have nt:=k.nt g hx;have pg:=k.pg i0 nt;have wl:=k.wl;have c1:¬ (r=0∨r∈w.Q):=by
  rintro(q | q)
  ·omega
  ·exact hq q
 have ofr:ofA w.heap.C r=((i0:Int),r-bsP h i0,0):=by rw[k.c];exact g.ofx hx
 have epw:Z16 w r=i0:=by rw[Z16,ofr];simp
 by_cases c4:Z0G w (ofA w.heap.C r).1=true
 ·have ef:w.fwd r=(w.keep r,r,0):=by rw[Work.fwd,if_neg c1,if_neg (by simpa using ho),if_neg (by rw[ht];simp),if_neg (by rw[ofr];simp),if_pos c4]
  rw[ef];show(0:Int)=0∧NewF h T w r i0 (w.keep r) r;have hs:(h.P.getD i0 default).K=2∨0<(h.P.getD i0 default).N:=by
   rw[ofr]at c4;simp only[Z0G,decide_eq_true_eq,Int.toNat_natCast]at c4;have k1:(h.P.getD i0 default).K=1:=by rw[← pg.1];exact c4.2.2.1
   have:=m.m5 i0 on.1 k1;by_cases q:0<(h.P.getD i0 default).N
   ·exact .inr q
   ·exact absurd (this.2 q) c4.2.2.2.1
  exact⟨rfl,by omega,rfl,by simp only[Work.keep];omega,rfl,rfl,⟨fun _=>rfl,fun _=>hs⟩,by omega,fun _=>rfl,fun q=>absurd rfl q,fun j x _ hne=>⟨fun q=>hne q.symm,rfl⟩,fun _ _ _=>rfl⟩
 ·by_cases c5:(w.heap.P.getD (Z16 w r) default).K=2
  ·have ef:w.fwd r=((w.flip (Z16 w r)).keep r,r,0):=by rw[Work.fwd,if_neg c1,if_neg (by simpa using ho),if_neg (by rw[ht];simp),if_neg (by rw[ofr];simp),if_neg c4,if_pos c5]
   rw[ef];show(0:Int)=0∧NewF h T w r i0 ((w.flip (Z16 w r)).keep r) r;have hs:(h.P.getD i0 default).K=2∨0<(h.P.getD i0 default).N:=by
    rw[epw,pg.1]at c5;exact .inl c5
   exact⟨rfl,by omega,rfl,by simp only[Work.keep,Work.flip];omega,rfl,rfl,⟨fun _=>rfl,fun _=>hs⟩,by omega,fun _=>rfl,fun q=>absurd rfl q,fun j x _ hne=>⟨fun q=>hne q.symm,rfl⟩,fun _ _ _=>rfl⟩
  ·have k1:(h.P.getD i0 default).K=1:=by
    have:=on.2.1;rw[epw]at c5;rw[← pg.1]at this ⊢;omega
   have hup:=m.unp k ofr nt on.1 k1 c4;have hroom:=m.room g k hw mv hx k1 hup ht rfl;have hsz:=Z1W w r;have ef:w.fwd r=((w.place (hlA w.heap.W r+1)).1.copy r (w.place (hlA w.heap.W r+1)).2.1 (hlA w.heap.W r+1),(w.place (hlA w.heap.W r+1)).2.1,0):=by
    rw[Work.fwd,if_neg c1,if_neg (by simpa using ho),if_neg (by rw[ht];simp),if_neg (by rw[ofr];simp),if_neg c4,if_neg c5,hsz,if_neg (by rw[hroom];simp)]
   rw[ef];show(0:Int)=0∧NewF h T w r i0 ((w.place (hlA w.heap.W r+1)).1.copy r (w.place (hlA w.heap.W r+1)).2.1 (hlA w.heap.W r+1)) (w.place (hlA w.heap.W r+1)).2.1;have po:=Z06 g.p;have hsm:=(g.t1 i0 on.1 k1).2 r hx;have hsw:=Z1v po.1;have hcv:=validB_iff.1 po.1;obtain⟨i,p,t,p1,p2,p3,p4,p5,p6,p7,e⟩:=Z5x hw ⟨by omega,by rw[k.c];omega⟩ hroom;have hcc:=k.c;have hpl:=k.pl;have hki:(h.P.getD i default).K=0:=by
    rcases p2 with q | q
    ·by_cases c:(i:Int)∈w.T
     ·exact(k.tk i c).2.1
     ·rw[← (k.pg i c).1];exact q.1
    ·exact(k.tk i q.1).2.1
   have hio:=Z14 (i:=i) (j:=h.C.pg) (pw:=h.C.pw) oq oq;rw[Int.mul_comm h.C.pg]at hio;have hi0:0≤(i:Int)*h.C.pw:=Int.mul_nonneg oq oq;rw[hcc]at p5 p7;have hbp:4096+(i:Int)*h.C.pw=bsP h i:=rfl;rw[e,p7,hbp];generalize hu:occP (w.heap.P.getD i default)=u at *;generalize ha:bsP h i+u=a;have hbl:4096≤a∧a+(hlA w.heap.W r+1)≤4096+w.heap.W.length:=by omega
   have far:∀ j x,x∈T j→x+hlA h.W x<bsP h i∨bsP h i+h.C.pw≤x:=by
    intro j x hx;have:=g.free (show i<h.P.length by omega) (Or.inl hki) hx;rw[occP,if_pos hki]at this;omega
   have farr:=far i0 r hx;obtain⟨m1,m2,m3⟩:=Z57 (ws:=w.heap.W) (a:=a) (b:=r) (n:=hlA w.heap.W r+1) oq oq oq;have hsr:4096≤r∧r<4096+(moveA w.heap.W a r (hlA w.heap.W r+1)).1.length:=by omega
   have hne:a≠r:=by omega
   refine⟨rfl,by omega,rfl,by simp only[Work.copy];omega,rfl, ?_,⟨fun q=>?_,fun q=>absurd q hne⟩,by omega,fun q=>absurd q hne,fun _=>?_,fun j x hxj hxr=>?_,fun j j0 j1=>?_⟩
   ·simp only[Work.copy];rw[Z2l hsr,m1]
   ·rcases q with q | q
    ·omega
    ·exact absurd q hup
   ·simp only[Work.copy];rw[Z1V hsr,Z5H oq oq]
   ·have fx:=far j x hxj;have rx:=Z0d h.W x;simp only[Work.copy];exact⟨by omega,by rw[Z0y hsr hxr,m3 x oq]⟩
   ·simp only[Work.copy];rw[Z0y hsr oq,Zos oq oq oq]
end
theorem ZhV{w:Work}(hw:WkOk w)(h:CIv w){r n:Int}(hr:r∈w.old)(hq:r∉w.Q)(hn:n=hlA w.heap.W r+1)(hp:n≤w.heap.C.pw)(hc:(w.place n).2.2=true):∀ x∈w.Q,∀ m,0≤m→m≤hlA w.heap.W x→loadA ((w.place n).1.copy r (w.place n).2.1 n).heap.W (x+m)=loadA w.heap.W (x+m):=by
 have hlr:=Z0d w.heap.W r;obtain⟨i,p,t,h1,h2,h3,h4,h5,h6,h7,h8,e⟩:=Z5F hw ⟨by omega,hp⟩ hc;have hb:=validB_iff.1 hw.C;have hpl:=hw.pl;have hL:=h.L;have hio:(i:Int)*w.heap.C.pw+w.heap.C.pw≤w.heap.C.pw*w.heap.C.pg:=by
  have:=Z14 (i:=i) (j:=w.heap.C.pg) (pw:=w.heap.C.pw) oq oq;rw[Int.mul_comm w.heap.C.pw];exact this
 have hi0:0≤(i:Int)*w.heap.C.pw:=Int.mul_nonneg oq oq;rw[e,h8];generalize hu:occP (w.heap.P.getD i default)=u at *;generalize ha:4096+(i:Int)*w.heap.C.pw+u=at';have hrr:=h.r r (List.mem_append_left _ hr);have hf:=h.f i h1 (by rcases h2 with h2 | h2;exact Or.inl h2;exact Or.inr h2.1);rw[hu]at hf;obtain⟨m1,m2,m3⟩:=Z57 (ws:=w.heap.W) (a:=at') (b:=r) (n:=n) oq oq oq;have hsr:4096≤r∧r<4096+(moveA w.heap.W at' r n).1.length:=by omega
 intro x hx m hm0 hm1;have hfx:=hf x (List.mem_append_right _ hx);simp only[Work.copy];rw[Z0y hsr ?_,m3 _ oq];intro c;by_cases q:x=r
 ·exact hq (q▸hx)
 ·have:=h.s x (List.mem_append_right _ hx) r (List.mem_append_left _ hr) oq;omega
theorem Z80{w:Work}(hw:WkOk w)(h:CIv w)(r:Int)(e:(w.fwd r).2.2=0):(∃ m,(w.fwd r).1.Q=w.Q++m)∧(w.fwd r).1.D=w.D∧∀ x∈w.Q,∀ m,0≤m→m≤hlA w.heap.W x→loadA (w.fwd r).1.heap.W (x+m)=loadA w.heap.W (x+m):=by
 unfold Work.fwd at e ⊢;split at e
 ·rename_i c1;rw[if_pos c1];exact⟨⟨[],by simp⟩,rfl,fun _ _ _ _ _=>rfl⟩
 ·rename_i c1;rw[if_neg c1];have c1':r∉w.Q:=fun h=>c1 (Or.inr h);split at e
  ·simp at e
  ·rename_i c2;rw[if_neg c2];have c2':r∈w.old:=Decidable.not_not.1 c2;split at e
   ·rename_i c3;rw[if_pos c3];exact⟨⟨[],by simp⟩,rfl,fun _ _ _ _ _=>rfl⟩
   ·rename_i c3;rw[if_neg c3];split at e
    ·simp at e
    ·rename_i c4;rw[if_neg c4];split at e
     ·rename_i c5;rw[if_pos c5];exact⟨⟨[r],rfl⟩,rfl,fun _ _ _ _ _=>rfl⟩
     ·rename_i c5;rw[if_neg c5];split at e
      ·rename_i c6;rw[if_pos c6];exact⟨⟨[r],rfl⟩,rfl,fun _ _ _ _ _=>rfl⟩
      ·rename_i c6;rw[if_neg c6];split at e
       ·simp at e
       ·rename_i c7;rw[if_neg c7];have c7':(w.place (sizeH (hdW w r))).2.2=true:=by simpa using c7
        have hz:=h.z r c2';have hp:sizeH (hdW w r)≤w.heap.C.pw:=by
         rw[Z1W];rcases hz with hz | hz
         ·exact absurd hz c6
         ·exact hz
        have hlr:=Z0d w.heap.W r;obtain⟨i,p,t,p1,p2,p3,p4,p5,p6,p7,e8⟩:=Z5x hw ⟨by rw[Z1W];omega,hp⟩ c7';refine⟨⟨[(w.place (sizeH (hdW w r))).2.1], ?_⟩, ?_,ZhV hw h c2' c1' (Z1W w r) hp c7'⟩
        ·rw[e8];rfl
        ·rw[e8];rfl
def FD(w:Work)(F:Int→Prop):Prop:=∀ z,F z→(∃ q j,q∈w.Q∧0≤j∧j<hlA w.heap.W q∧z=q+1+j)∧ToOk w (loadA w.heap.W z).1
structure Sm (w v:Work):Prop where
 q:∃ m,v.Q=w.Q++m
 h:∀ x∈w.Q,hdA v.heap.W x=hdA w.heap.W x
theorem Sm.trans{u v w:Work}(a:Sm u v)(b:Sm v w):Sm u w:=by
 obtain⟨m,em⟩:=a.q;obtain⟨n,en⟩:=b.q;exact⟨⟨m++n,by rw[en,em,List.append_assoc]⟩,fun x hx=>(b.h x (by rw[em];exact List.mem_append_left _ hx)).trans (a.h x hx)⟩
theorem Sm.mem{w v:Work}(a:Sm w v){x:Int}(hx:x∈w.Q):x∈v.Q:=by
 obtain⟨m,em⟩:=a.q;rw[em];exact List.mem_append_left _ hx
theorem Sm.len{w v:Work}(a:Sm w v){x:Int}(hx:x∈w.Q):hlA v.heap.W x=hlA w.heap.W x:=congrArg Header.length (a.h x hx)
theorem Sm.to{w v:Work}(a:Sm w v){x:Int}(hx:ToOk w x):ToOk v x:=hx.imp id a.mem
theorem ZmD{w:Work}(hw:WkOk w)(h:CIv w)(r:Int)(e:(w.fwd r).2.2=0):Sm w (w.fwd r).1:=by
 have s:=Z80 hw h r e;refine⟨s.1,fun x hx=>?_⟩;have:=s.2.2 x hx 0 oq (Z0d _ _).1;rw[Int.add_zero]at this;rw[hdA,hdA,this]
theorem FD.fwd{w:Work}{F:Int→Prop}(f:FD w F)(hw:WkOk w)(h:CIv w)(r:Int)(e:(w.fwd r).2.2=0):FD (w.fwd r).1 F:=by
 have s:=Z80 hw h r e;have m:=ZmD hw h r e;intro z hz;obtain⟨⟨q,j,hq,h0,h1,rfl⟩,t⟩:=f z hz;refine⟨⟨q,j,m.mem hq,h0,by rw[m.len hq];exact h1,rfl⟩, ?_⟩;have:=s.2.2 q hq (1+j) oq oq;rw[← Int.add_assoc]at this;rw[this];exact m.to t
theorem Zpj{B:Int}{w:Work}(hw:WkOk w)(h:CIv w)(hp:PR B w){F:Int→Prop}(f:FD w F){q j:Int}(hq:q∈w.Q)(hj:0≤j∧j<hlA w.heap.W q)(e:(w.fwd (loadA w.heap.W (q+1+j)).1).2.2=0):Sm w (w.in1 (q+1+j))∧(w.in1 (q+1+j)).D=w.D∧FD (w.in1 (q+1+j)) (fun z=>F z∨z=q+1+j):=by
 have s:=Z80 hw h _ e;have m:=ZmD hw h _ e;have ff:=f.fwd hw h _ e;have to:=Zmw w _ hp e;obtain⟨i1,x1⟩:=Z5j hw h _ e;have hq1:=x1.q q hq;have hl1:=x1.l q hq;have hr:=i1.r q (List.mem_append_right _ hq1);have hin:4096≤q+1+j∧q+1+j<4096+(w.fwd (loadA w.heap.W (q+1+j)).1).1.heap.W.length:=by omega
 have hne:∀ x∈(w.fwd (loadA w.heap.W (q+1+j)).1).1.Q,x≠q+1+j:=by
  intro x hx c;have:=i1.s q (List.mem_append_right _ hq1) x (List.mem_append_right _ hx) oq;omega
 have hh:∀ x∈(w.fwd (loadA w.heap.W (q+1+j)).1).1.Q,hdA (w.in1 (q+1+j)).heap.W x=hdA (w.fwd (loadA w.heap.W (q+1+j)).1).1.heap.W x:=by
  intro x hx;simp only[Work.in1];rw[hdA,hdA,Z0y hin (hne x hx)]
 have m2:Sm (w.fwd (loadA w.heap.W (q+1+j)).1).1 (w.in1 (q+1+j)):=⟨⟨[],by simp[Work.in1]⟩,hh⟩
 refine⟨m.trans m2,s.2.1, ?_⟩;intro z hz;have key:(∃ q' j',q'∈w.Q∧0≤j'∧j'<hlA w.heap.W q'∧z=q'+1+j'):=by
  rcases hz with hz | rfl
  ·exact(f z hz).1
  ·exact⟨q,j,hq,hj.1,hj.2,rfl⟩
 obtain⟨q',j',k1,k2,k3,k4⟩:=key;refine⟨⟨q',j',(m.trans m2).mem k1,k2,by rw[(m.trans m2).len k1];exact k3,k4⟩, ?_⟩;by_cases c:z=q+1+j
 ·subst c;have:(loadA (w.in1 (q+1+j)).heap.W (q+1+j)).1=(w.fwd (loadA w.heap.W (q+1+j)).1).2.1:=by
   simp only[Work.in1];rw[Z1V hin]
  rw[this];exact m2.to to
 ·have:loadA (w.in1 (q+1+j)).heap.W z=loadA (w.fwd (loadA w.heap.W (q+1+j)).1).1.heap.W z:=by
   simp only[Work.in1];rw[Z0y hin c]
  rw[this];rcases hz with hz | hz
  ·exact m2.to (ff z hz).2
  ·exact absurd hz c
section
variable {B:Int} (hB:0≤B)
include hB
theorem ZjB{w:Work}(hw:WkOk w)(h:CIv w)(hp:PR B w){F:Int→Prop}(f:FD w F){q:Int}(hq:q∈w.Q){l:List Int}(hl:∀ x∈l,0≤x∧x<hlA w.heap.W q):∀ k,k≤l.length→(∀ j,j<k→innE w q l j=0)→Sm w (innN w q l k)∧(innN w q l k).D=w.D∧FD (innN w q l k) (fun z=>F z∨∃ i,i<k∧z=q+1+l.getD i default)
 | 0,_,_=>⟨⟨⟨[],by simp[innN]⟩,fun _ _=>rfl⟩,rfl,fun z hz=>f z (hz.resolve_right (by rintro⟨i,hi,_⟩;omega))⟩
 | k+1,hk,he=>by
  obtain⟨a,b,c⟩:=ZjB hw h hp f hq hl k oq (fun j hj=>he j oq);have ok:=(Z4z hw q l k (fun j hj=>he j oq)).1;have iv:=Z82 hw h hq hl k oq (fun j hj=>he j oq);have pr:=Zj5 (PR B) (fun w q j hw hi h hq h0 h1 e=>PR.in1 hB w q j hw hi h hq h0 h1 e) hw h hp hq hl k oq (fun j hj=>he j oq);have hx:=hl _ (getD_mem_iff.2 ⟨k,by omega,rfl⟩);obtain⟨d1,d2,d3⟩:=Zpj ok iv.1 pr c (a.mem hq) (j:=l.getD k default) ⟨hx.1,by rw[a.len hq];exact hx.2⟩ (he k oq);refine⟨a.trans d1,d2.trans b,fun z hz=>d3 z ?_⟩;rcases hz with hz | ⟨i,hi,hz⟩
  ·exact Or.inl (Or.inl hz)
  ·by_cases q2:i=k
   ·subst q2;exact Or.inr hz
   ·exact Or.inl (Or.inr ⟨i,by omega,hz⟩)
def SD(w:Work):Prop:=FD w (fun z=>∃ i j,i<w.D.toNat∧j∈Z09 (hdA w.heap.W (w.Q.getD i default))∧z=w.Q.getD i default+1+j)
omit hB in
theorem Sm.get{w v:Work}(a:Sm w v){i:Nat}(hi:i<w.Q.length):v.Q.getD i default=w.Q.getD i default:=by
 obtain⟨m,em⟩:=a.q;rw[em,List.getD_eq_getElem?_getD,List.getD_eq_getElem?_getD,List.getElem?_append_left hi]
theorem ZfF{w:Work}(hw:WkOk w)(h:CIv w)(hp:PR B w)(f:SD w)(e:(Z0Q w).2.2=0):SD (Z0Q w).1:=by
 by_cases hs:w.D<w.Q.length
 ·have hsc:=hw.sc;have hq:Z3s w∈w.Q:=getD_mem_iff.2 ⟨w.D.toNat,by omega,rfl⟩;unfold Z0Q at e ⊢;rw[if_pos hs]at e ⊢;cases hb:(List.range (Z1Q w).length).find? (fun k=>decide (innE w (Z3s w) (Z1Q w) k≠0))with
  | none =>
   have h0:∀ j,j<(Z1Q w).length→innE w (Z3s w) (Z1Q w) j=0:=fun j hj=>by
    have:=List.find?_eq_none.1 hb j (List.mem_range.2 hj);simpa using this
   obtain⟨a,b,c⟩:=ZjB hB hw h hp f hq (l:=Z1Q w) (Z5i (hdW w (Z3s w))) (Z1Q w).length (Nat.le_refl _) h0;intro z hz;obtain⟨i,j,hi,hj,rfl⟩:=hz;simp only[ZeR]at hi hj ⊢;rw[b]at hi;have hg:=a.get (show i<w.Q.length by omega);have hm:w.Q.getD i default∈w.Q:=getD_mem_iff.2 ⟨i,by omega,rfl⟩;rw[hg,a.h _ hm]at hj;rw[hg];refine c _ ?_;by_cases q:i=w.D.toNat
   ·subst q;obtain⟨n,n1,n2⟩:=getD_mem_iff.1 hj;exact Or.inr ⟨n,n1,by rw[← n2];rfl⟩
   ·exact Or.inl ⟨i,j,by omega,hj,rfl⟩
  | some k =>
   simp only[hb]at e;have:=(List.find?_range_eq_some.1 hb).1;simp[e]at this
 ·have e:Z0Q w=(w,false,0):=by rw[Z0Q,if_neg hs]
  rw[e];exact f
theorem ZmI{w:Work}(hw:WkOk w)(h:CIv w)(hp:PR B w)(f:SD w):∀ k,(∀ j,j<k→Z3B w j=false)→SD (itW w k)
 | 0,_=>f
 | k+1,hh=>by
  have ih:=ZmI hw h hp f k (fun j hj=>hh j oq);have ok:=(Z4d hw k (fun j hj=>hh j oq)).1;have iv:=(Z7B hw h k (fun j hj=>hh j oq)).1;have pr:=ZkM (PR B) (fun w q j hw hi h hq h0 h1 e=>PR.in1 hB w q j hw hi h hq h0 h1 e) (fun w n h=>⟨⟨h.tab.pt,h.tab.tk,h.tab.pin⟩,h.rt.q,h.rt.t⟩) hw h hp k (fun j hj=>hh j oq);have hk:=hh k oq;simp only[Z3B,decide_eq_false_iff_not,not_or,Decidable.not_not]at hk;exact ZfF hB ok iv pr ih hk.1
theorem ZnC{w:Work}(hw:WkOk w)(h:CIv w)(hp:PR B w)(f:SD w)(e:(allF w).2=0):SD (allF w).1∧(allF w).1.D=(allF w).1.Q.length:=by
 obtain⟨k,hb⟩:=Z4T hw;obtain⟨h1,h2,h3⟩:=List.find?_range_eq_some.1 hb;have h0:∀ j,j<k→Z3B w j=false:=fun j hj=>by simpa using h3 j hj
 unfold allF at e ⊢;rw[hb]at e ⊢;simp only at e ⊢;split at e
 ·rename_i c;rw[if_pos c];have ok:=(Z4d hw k h0).1;have iv:=(Z7B hw h k h0).1;have pr:=ZkM (PR B) (fun w q j hw hi h hq h0 h1 e=>PR.in1 hB w q j hw hi h hq h0 h1 e) (fun w n h=>⟨⟨h.tab.pt,h.tab.tk,h.tab.pin⟩,h.rt.q,h.rt.t⟩) hw h hp k h0;refine⟨ZfF hB ok iv pr (ZmI hB hw h hp f k h0) c, ?_⟩;simp only[Z3B,decide_eq_true_eq]at h1;have hf:(Z0Q (itW w k)).2.1=false:=h1.resolve_left (fun q=>q c);have hsc:=ok.sc;by_cases hs:(itW w k).D<(itW w k).Q.length
  ·exfalso;unfold Z0Q at hf c;rw[if_pos hs]at hf c;cases hb2:(List.range (Z1Q (itW w k)).length).find? (fun m=>decide (innE (itW w k) (Z3s (itW w k)) (Z1Q (itW w k)) m≠0))with
   | none =>
    rw[hb2]at hf;simp at hf
   | some m =>
    simp only[hb2]at c;have:=(List.find?_range_eq_some.1 hb2).1;simp[c]at this
  ·have e3:Z0Q (itW w k)=(itW w k,false,0):=by rw[Z0Q,if_neg hs]
   rw[e3];simp only;omega
 ·rename_i c;exact absurd e c
theorem ZoT{h:Heap}{s:List Int}(hw:WOk h.W)(hp:Z02 h=true)(hb:∀ p∈h.P,p.N≤B)(e:(rootsF (beginW h) s).2.2=0)(e2:(allF (rootsF (beginW h) s).1).2=0):SD (cW2 h s)∧(cW2 h s).D=(cW2 h s).Q.length:=by
 have wb:=Z3j hw hp;have hi:=Z3t hp;have ho:=Z3O (roots:=s) wb hi e;have pr:=Zbq (PR B) (fun w r hw hi h e=>PR.fwd hB w r hw hi h e) (roots:=s) wb hi ⟨Z6S hp hb,ZbY hp⟩ e;have s0:=Zbq (fun w=>w.D=0) (fun w r hw hi h e=>(Z80 hw hi r e).2.1.trans h) (roots:=s) wb hi rfl e;exact ZnC hB ho.1 ho.2.1 pr (fun z hz=>by obtain⟨i,j,q,_⟩:=hz;rw[s0]at q;simp at q) e2
end
def Z5T(w:Work)(x:Int):Prop:=Z0G w (ofA w.heap.C x).1=true∧x∉w.Q
def Za0(n:Int)(a x:Int):Int:=if a=x then 1+16*n else 0
theorem ZiO{n:Int}(h:0≤n∧n≤255):decodeH (1+16*n)=(⟨0,n,0⟩,true):=by
 have hv:Z0g ⟨0,n,0⟩=true:=validH_iff.2 ⟨by simp,by simp,h.1,h.2,by simp⟩;have:=decode_encode hv pq;rw[Z5y h]at this;exact this
theorem ZiU{n:Int}(h:0≤n∧n≤255){ws:List Int}{a x:Int}(hx:4096≤x∧x+n<4096+ws.length)(ha:x≤a∧a≤x+n):(loadA (Z0z ws x (objW ⟨0,n,0⟩)).1 a).1=Za0 n a x:=by
 have hl:(objW ⟨0,n,0⟩).length=n.toNat+1:=by simp[objW]
 rw[Z1I oq oq];unfold Za0;by_cases c:a=x
 ·subst c;simp[objW,Z5y h]
 ·rw[if_neg c,objW,show(a-x).toNat=(a-x-1).toNat+1 by omega];simp[List.getD_eq_getElem?_getD,List.getElem?_replicate];split<;>rfl
structure FL (v:Work) (ws:List Int) (k:Nat):Prop where
 l:ws.length=v.heap.W.length
 h:∀ x∈v.old,hlA ws x=hlA v.heap.W x
 s:∀ a,loadA ws a=loadA v.heap.W a∨∃ x∈v.old,Z5T v x∧x≤a∧a≤x+hlA v.heap.W x∧(loadA ws a).1=Za0 (hlA v.heap.W x) a x
 f:∀ j,j<k→Z5T v (v.old.getD j default)→∀ a,v.old.getD j default≤a→a≤v.old.getD j default+hlA v.heap.W (v.old.getD j default)→(loadA ws a).1=Za0 (hlA v.heap.W (v.old.getD j default)) a (v.old.getD j default)
theorem ZfG{v:Work}(hw:FOk v)(hi:CIv v):∀ k,k≤v.old.length→FL v (fillN v k).heap.W k
 | 0,_=>⟨rfl,fun _ _=>rfl,fun _=>Or.inl rfl,fun j hj=>by omega⟩
 | k+1,hk=>by
  have ih:=ZfG hw hi k oq;obtain⟨i0,i1,i2,i3,i4,i5,i6,i7,i8,i9,i10,i11⟩:=Z5v v hw k;have hm:v.old.getD k default∈v.old:=getD_mem_iff.2 ⟨k,by omega,rfl⟩;have hr:=hi.r _ (List.mem_append_left _ hm);have hn:=Z0d v.heap.W (v.old.getD k default);have hprom:Z0G (fillN v k) (ofA (fillN v k).heap.C (v.old.getD k default)).1=Z0G v (ofA v.heap.C (v.old.getD k default)).1:=by
   unfold Z0G;rw[i1,i2,i3,i6]
  by_cases c:Z5T v (v.old.getD k default)
  ·have e:(fillN v (k+1)).heap.W=(Z0z (fillN v k).heap.W (v.old.getD k default) (objW ⟨0,hlA v.heap.W (v.old.getD k default),0⟩)).1:=by
    show(Z5R (fillN v k) (v.old.getD k default)).heap.W=_;rw[Z5R,hprom,i7,if_pos (show Z0G v (ofA v.heap.C (v.old.getD k default)).1=true∧v.old.getD k default∉v.Q from c)];simp only;rw[← ih.h _ hm];rfl
   rw[e];have hl:=ih.l;generalize hx:v.old.getD k default=x at *;have hin:4096≤x∧x+hlA v.heap.W x<4096+(fillN v k).heap.W.length:=by omega
   have ho:(objW ⟨0,hlA v.heap.W x,0⟩).length=(hlA v.heap.W x).toNat+1:=by simp[objW]
   have win:=fun a ha=>ZiU hn (ws:=(fillN v k).heap.W) (a:=a) hin ha;have wout:∀ a,a<x∨x+hlA v.heap.W x<a→loadA (Z0z (fillN v k).heap.W x (objW ⟨0,hlA v.heap.W x,0⟩)).1 a=loadA (fillN v k).heap.W a:=fun a ha=>Z26 oq oq;have sep:=fun y hy=>hi.s x (List.mem_append_left _ hm) y (List.mem_append_left _ hy);have sep2:=fun y hy=>hi.s y (List.mem_append_left _ hy) x (List.mem_append_left _ hm);refine⟨?_, ?_, ?_, ?_⟩
   ·unfold Z0z;rw[if_pos oq];exact(Z3P oq).trans hl
   ·intro y hy;by_cases q:y=x
    ·subst q;have:=win y oq;rw[hlA,this,Za0,if_pos rfl,ZiO hn]
    ·have s1:=sep y hy;have s2:=sep2 y hy;have:=Z0d v.heap.W y;rw[hlA,wout y oq];exact ih.h y hy
   ·intro a;by_cases q:x≤a∧a≤x+hlA v.heap.W x
    ·exact Or.inr ⟨x,hm,c,q.1,q.2,win a q⟩
    ·rw[wout a oq];exact ih.s a
   ·intro j hj hf a h1 h2;by_cases q:v.old.getD j default=x
    ·rw[q]at h1 h2 ⊢;exact win a ⟨h1,h2⟩
    ·have hjk:j<k:=by
      by_cases q2:j=k
      ·subst q2;exact absurd hx q
      ·omega
     have hmj:v.old.getD j default∈v.old:=getD_mem_iff.2 ⟨j,by omega,rfl⟩;have s1:=sep _ hmj;have s2:=sep2 _ hmj;have:=Z0d v.heap.W (v.old.getD j default);rw[wout a oq];exact ih.f j hjk hf a h1 h2
  ·have e:fillN v (k+1)=fillN v k:=by
    show Z5R (fillN v k) (v.old.getD k default)=_;rw[Z5R,hprom,i7,if_neg (show ¬ (Z0G v (ofA v.heap.C (v.old.getD k default)).1=true∧v.old.getD k default∉v.Q)from c)]
   rw[e];refine⟨ih.l,ih.h,ih.s,fun j hj hf=>?_⟩;by_cases q:j=k
   ·subst q;exact absurd hf c
   ·exact ih.f j oq hf
theorem ZcL{c:Conf}{s:Int}{l:List Page}{ws:List Int}(hp:0≤c.pw)(hl:(ws.length:Int)=c.pw*l.length):∀ k,k≤l.length→(Z29 c.pw s l ws k).length=ws.length∧∀ (i:Nat) (o:Int),i<l.length→0≤o→o<c.pw→loadA (Z29 c.pw s l ws k) (4096+i*c.pw+o)=if i<k∧Z2e s (l.getD i default)then(0,0)else loadA ws (4096+i*c.pw+o)
 | 0,_=>⟨rfl,fun i o _ _ _=>by rw[if_neg oq];rfl⟩
 | k+1,hk=>by
  obtain⟨h1,h2⟩:=ZcL (s:=s) hp hl k oq;unfold Z29;by_cases c':Z2e s (l.getD k default)
  ·rw[if_pos c'];have hk2:=Z14 (i:=k) (j:=l.length) (pw:=c.pw) oq hp;have hk0:0≤(k:Int)*c.pw:=Int.mul_nonneg oq hp;rw[Int.mul_comm (l.length:Int)]at hk2;have hlen:(List.replicate c.pw.toNat (0:Int)).length=c.pw.toNat:=List.length_replicate;have en:((k*c.pw.toNat:Nat):Int)=k*c.pw:=by rw[Int.natCast_mul,Int.toNat_of_nonneg hp]
   have e:spl (Z29 c.pw s l ws k) (k*c.pw.toNat) (List.replicate c.pw.toNat 0)=(Z0z (Z29 c.pw s l ws k) (4096+k*c.pw) (List.replicate c.pw.toNat 0)).1:=by
    unfold Z0z;rw[if_pos oq];simp only;congr 1;omega
   refine⟨?_, ?_⟩
   ·rw[Z3P oq];exact h1
   ·intro i o hi h0 ho;rw[e];by_cases q:i=k
    ·subst q;rw[Z1I oq oq,if_pos ⟨by omega,c'⟩];simp[List.getD_eq_getElem?_getD,List.getElem?_replicate];split<;>rfl
    ·have hne:4096+(i:Int)*c.pw+o<4096+k*c.pw∨4096+k*c.pw+c.pw≤4096+(i:Int)*c.pw+o:=by
      rcases Nat.lt_or_gt_of_ne q with q | q
      ·have:=Z14 (i:=i) (j:=k) (pw:=c.pw) oq hp;omega
      ·have:=Z14 (i:=k) (j:=i) (pw:=c.pw) oq hp;omega
     rw[Z26 oq oq,h2 i o hi h0 ho];by_cases q2:i<k∧Z2e s (l.getD i default)
     ·rw[if_pos q2,if_pos ⟨by omega,q2.2⟩]
     ·rw[if_neg q2,if_neg (fun q3=>q2 ⟨by omega,q3.2⟩)]
  ·rw[if_neg c'];refine⟨h1,fun i o hi h0 ho=>?_⟩;rw[h2 i o hi h0 ho];by_cases q2:i<k∧Z2e s (l.getD i default)
   ·rw[if_pos q2,if_pos ⟨by omega,q2.2⟩]
   ·rw[if_neg q2,if_neg];rintro⟨q3,q4⟩;by_cases q5:i=k
    ·subst q5;exact c' q4
    ·exact q2 ⟨by omega,q4⟩
theorem ZaI(hd:Header){k:Int}(h0:0≤k)(hp:Z0f hd k=true):∀ n:Nat,k<n→k∈Z11 hd n
 | 0,h=>by omega
 | n+1,h=>by
  unfold Z11;by_cases q:k=n
  ·subst q;rw[if_pos hp];simp
  ·have ih:=ZaI hd h0 hp n oq;split
   ·exact List.mem_append_left _ ih
   ·exact ih
theorem Zbr{hd:Header}{k:Int}(h0:0≤k)(h1:k<hd.length)(hp:Z0f hd k=true):k∈Z09 hd:=by
 have hv:Z0g hd=true:=by
  unfold Z0f at hp;simp only[Bool.and_eq_true]at hp;exact hp.1.1.1
 unfold Z09;rw[if_pos hv];exact ZaI hd h0 hp _ oq
structure CE (h:Heap) (T tq:Nat→List Int) (w:Work) (l4 l5:List Int):Prop where
 g:Gd h T
 k:KI h T tq w
 i:CIv w
 s:w.heap.S=0∨w.heap.S=1
 pt:PT w.heap.C w.heap.P
 ts:∀ x∈w.T,(w.heap.P.getD x.toNat default).S=1-w.heap.S
 sd:SD w
 sc:w.D=w.Q.length
 f3:∀ a,loadA l4 a=loadA w.heap.W a∨∃ x∈w.old,Z5T w x∧x≤a∧a≤x+hlA w.heap.W x∧(loadA l4 a).1=Za0 (hlA w.heap.W x) a x
 f4:∀ x∈w.old,Z5T w x→∀ a,x≤a→a≤x+hlA w.heap.W x→(loadA l4 a).1=Za0 (hlA w.heap.W x) a x
 n4:l4.length=w.heap.W.length
 n5:l5.length=w.heap.W.length
 fr:∀ (i:Nat) (o:Int),i<h.P.length→0≤o→o<h.C.pw→loadA l5 (bsP h i+o)=if Z2e w.heap.S (w.heap.P.getD i default)then(0,0)else loadA l4 (bsP h i+o)
def tE(T tq:Nat→List Int)(w:Work)(i:Nat):List Int:=if(i:Int)∈w.T then tq i else if(w.heap.P.getD i default).S≠w.heap.S then T i else []
section
variable {h:Heap} {T tq:Nat→List Int} {w:Work} {l4 l5:List Int} (c:CE h T tq w l4 l5)
include c
theorem CE.mem{i:Nat}{x:Int}(hx:x∈tE T tq w i):(i:Int)∈w.T∧x∈tq i∨(i:Int)∉w.T∧(w.heap.P.getD i default).S≠w.heap.S∧x∈T i:=by
 unfold tE at hx;split at hx
 ·rename_i q;exact Or.inl ⟨q,hx⟩
 ·rename_i q;split at hx
  ·rename_i q2;exact Or.inr ⟨q,q2,hx⟩
  ·simp at hx
theorem CE.gone0{i:Nat}(hi:(i:Int)∈w.T):¬ Z2e w.heap.S (w.heap.P.getD i default):=by
 have:=c.ts _ hi;rw[Int.toNat_natCast]at this;have:=c.s;unfold Z2e;omega
theorem CE.pgof{i:Nat}{x a:Int}(hx:x∈T i)(h1:x≤a)(h2:a≤x+hlA h.W x):∃ (j:Nat) (o:Int),j<h.P.length∧0≤o∧o<h.C.pw∧a=bsP h j+o∧(w.heap.P.getD j default).K≠0∧(w.heap.P.getD j default).S=(w.heap.P.getD i default).S:=by
 have g:=c.g;have o:=g.on hx;have po:=Z06 g.p;have pg:=c.k.pg i (c.k.nt g hx);have hcc:=c.k.c;have hpl:=c.k.pl;rcases o.2.1 with k | k
 ·have pp:=Z0D g.p o.1;exact⟨i,a-bsP h i,o.1,by omega,by omega,by omega,by omega,rfl⟩
 ·have hx2:=o.2.2.2.2.2.2 k;have lg:=c.pt.lg i oq oq;rw[pg.2.1,hcc]at lg;have nu:=Z59 lg.1;have h0:0≤(a-bsP h i)/h.C.pw:=Int.ediv_nonneg oq oq;have h3:=Int.mul_ediv_add_emod (a-bsP h i) h.C.pw;have h4:=Int.emod_nonneg (a-bsP h i) (b:=h.C.pw) oq;have h5:=Int.emod_lt_of_pos (a-bsP h i) (b:=h.C.pw) oq;have h6:(a-bsP h i)/h.C.pw<need h.C (h.P.getD i default).U:=Int.ediv_lt_of_lt_mul oq oq;rw[Int.mul_comm]at h3;generalize hm:(a-bsP h i)/h.C.pw=m at *;have hmn:((m.toNat:Nat):Int)=m:=by omega
  refine⟨i+m.toNat,(a-bsP h i)%h.C.pw, ?_,h4,h5, ?_, ?_⟩
  ·by_cases q:m.toNat=0
   ·omega
   ·have:=(lg.2 m.toNat oq oq).1;omega
  ·unfold bsP at h3 ⊢;rw[Int.natCast_add,hmn,Int.add_mul];omega
  ·by_cases q:m.toNat=0
   ·rw[q,Nat.add_zero];exact⟨by omega,rfl⟩
   ·have:=(lg.2 m.toNat oq oq).2;exact⟨by omega,this.2⟩
theorem CE.keptw{i:Nat}{x a:Int}(hx:x∈T i)(hs:(w.heap.P.getD i default).S≠w.heap.S)(h1:x≤a)(h2:a≤x+hlA h.W x):loadA l5 a=loadA l4 a:=by
 obtain⟨j,o,j1,o1,o2,e,k0,k1⟩:=c.pgof hx h1 h2;rw[e,c.fr j o j1 o1 o2,if_neg];unfold Z2e;rw[k1];exact fun q=>hs q.2
theorem CE.gonew{i:Nat}{x a:Int}(hx:x∈T i)(hs:(w.heap.P.getD i default).S=w.heap.S)(h1:x≤a)(h2:a≤x+hlA h.W x):(loadA l5 a).1=0:=by
 obtain⟨j,o,j1,o1,o2,e,k0,k1⟩:=c.pgof hx h1 h2;rw[e,c.fr j o j1 o1 o2,if_pos ⟨k0,k1.trans hs⟩]
theorem CE.seen4{x a:Int}(hx:x∈w.Q)(h1:x≤a)(h2:a≤x+hlA w.heap.W x):loadA l4 a=loadA w.heap.W a:=by
 rcases c.f3 a with q | ⟨y,hy,q1,q2,q3,q4⟩
 ·exact q
 ·exfalso;have hne:x≠y:=fun e=>q1.2 (e▸hx);have s1:=c.i.s x (List.mem_append_right _ hx) y (List.mem_append_left _ hy);have s2:=c.i.s y (List.mem_append_left _ hy) x (List.mem_append_right _ hx);have r1:=Z0d w.heap.W x;have r2:=Z0d w.heap.W y;rcases Int.lt_or_gt_of_ne hne with q | q
  ·have:=s1 q;omega
  ·have:=s2 q;omega
theorem CE.takenw{i:Nat}{a:Int}(hi:(i:Int)∈w.T)(h1:bsP h i≤a)(h2:a<bsP h i+h.C.pw):loadA l5 a=loadA l4 a:=by
 have t:=c.k.tk i hi;have:=c.fr i (a-bsP h i) t.1 oq oq;rw[show bsP h i+(a-bsP h i)=a by omega,if_neg (c.gone0 hi)]at this;exact this
theorem CE.seen{x a:Int}(hx:x∈w.Q)(h1:x≤a)(h2:a≤x+hlA w.heap.W x):loadA l5 a=loadA w.heap.W a:=by
 rw[← c.seen4 hx h1 h2];rcases c.k.q x hx with⟨i,i1,i2,i3,i4⟩ | ⟨i,i1,i2⟩
 ·have he:(loadA w.heap.W x).1=(loadA h.W x).1:=by
   rcases c.k.hd i x i2 with q | q
   ·exact q
   ·exact absurd q.2.2 i4
  rw[(Z1O he).2.1]at h2;exact c.keptw i2 i4 h1 h2
 ·have t:=c.k.tk i i1;have m:=Z1J t.2.2.2.2.2.1 i2;exact c.takenw i1 oq oq
theorem CE.where'{x:Int}(hx:x∈w.Q):∃ i,x∈tE T tq w i:=by
 rcases c.k.q x hx with⟨i,i1,i2,i3,i4⟩ | ⟨i,i1,i2⟩
 ·exact⟨i,by rw[tE,if_neg i1,if_pos i4];exact i2⟩
 ·exact⟨i,by rw[tE,if_pos i1];exact i2⟩
theorem CE.seenK{x:Int}(hx:x∈w.Q):kdA w.heap.W x≠0∧okA w.heap.W x:=by
 rcases c.k.q x hx with⟨i,i1,i2,i3,i4⟩ | ⟨i,i1,i2⟩
 ·have he:(loadA w.heap.W x).1=(loadA h.W x).1:=by
   rcases c.k.hd i x i2 with q | q
   ·exact q
   ·exact absurd q.2.2 i4
  have o:=Z1O he;exact⟨by rw[o.2.2.1];exact i3,o.1 (c.g.on i2).2.2.2.2.2.1⟩
 ·have t:=c.k.tk i i1;exact⟨(t.2.2.2.2.2.2 x i2).2.1,(Z1J t.2.2.2.2.2.1 i2).1⟩
theorem CE.kept{i:Nat}{x:Int}(hx:x∈T i)(hn:(i:Int)∉w.T)(hs:(w.heap.P.getD i default).S≠w.heap.S):(loadA w.heap.W x).1=(loadA h.W x).1∧okA l5 x∧hlA l5 x=hlA h.W x∧(x∉w.Q→kdA l5 x=0∧(h.P.getD i default).K=1∧(kdA h.W x≠0→x∈w.old∧Z5T w x)):=by
 have he:(loadA w.heap.W x).1=(loadA h.W x).1:=by
  rcases c.k.hd i x hx with q | q
  ·exact q
  ·exact absurd q.2.2 hs
 have on:=c.g.on hx;have oh:=Z1O he;have rx:=Z0d h.W x;refine⟨he, ?_⟩;by_cases hq:x∈w.Q
 ·have e:=Z1O (congrArg Prod.fst (c.seen hq (Int.le_refl _) (by have:=Z0d w.heap.W x;omega)));exact⟨e.1 (oh.1 on.2.2.2.2.2.1),by rw[e.2.1,oh.2.1],fun q=>absurd hq q⟩
 ·have k1:(h.P.getD i default).K=1:=by
   rcases on.2.1 with q | q
   ·exact q
   ·have:=c.k.lg i q hs;rw[← (on.2.2.2.2.2.2 q).1]at this;exact absurd this hq
  have e5:loadA l5 x=loadA l4 x:=c.keptw hx hs (Int.le_refl _) oq;by_cases hk:kdA h.W x=0
  ·have e4:loadA l4 x=loadA w.heap.W x:=by
    rcases c.f3 x with q | ⟨y,hy,q1,q2,q3,q4⟩
    ·exact q
    ·exfalso;obtain⟨j,hj,hjk⟩:=(c.k.old y).1 hy;by_cases e:y=x
     ·subst e;exact hjk hk
     ·have sj:(loadA w.heap.W y).1=(loadA h.W y).1:=by
       rcases c.k.hd j y hj with q | q
       ·exact q
       ·exfalso;have o2:=q1.1;unfold Z0G at o2;rw[c.k.c,c.g.ofx hj]at o2;simp only[decide_eq_true_eq,Int.toNat_natCast]at o2;exact o2.2.2.2.1 q.2.2
      rw[(Z1O sj).2.1]at q3;have:=c.g.sep hj hx oq;omega
   have e:=Z1O (ws:=h.W) (ws':=l5) (a:=x) (by rw[e5,e4,he]);exact⟨e.1 on.2.2.2.2.2.1,e.2.1,fun _=>⟨by rw[e.2.2.1];exact hk,k1,fun q=>absurd hk q⟩⟩
  ·have ho:x∈w.old:=(c.k.old x).2 ⟨i,hx,hk⟩;have hf:Z5T w x:=by
    refine⟨?_,hq⟩;have pg:=c.k.pg i hn;have pl:=c.k.pl;unfold Z0G;rw[c.k.c,c.g.ofx hx];simp only[decide_eq_true_eq,Int.toNat_natCast];exact⟨by omega,by omega,by omega,hs,hn⟩
   have v:=c.f4 x ho hf x (Int.le_refl _) (by have:=Z0d w.heap.W x;omega);rw[Za0,if_pos rfl,oh.2.1]at v;rw[← e5]at v;have d:=ZiO rx;exact⟨by rw[okA,v,d],by rw[hlA,v,d],fun _=>⟨by rw[kdA,hdA,v,d],k1,fun _=>⟨ho,hf⟩⟩⟩
theorem CE.start{i:Nat}{x:Int}(hx:x∈tE T tq w i):okA l5 x∧(kdA l5 x≠0↔x∈w.Q):=by
 have sq:x∈w.Q→okA l5 x∧kdA l5 x≠0:=fun hq=>by
  have e:=Z1O (congrArg Prod.fst (c.seen hq (Int.le_refl _) (by have:=Z0d w.heap.W x;omega)));have s:=c.seenK hq;exact⟨e.1 s.2,by rw[e.2.2.1];exact s.1⟩
 rcases c.mem hx with⟨q1,q2⟩ | ⟨q1,q2,q3⟩
 ·have hq:=((c.k.tk i q1).2.2.2.2.2.2 x q2).1;exact⟨(sq hq).1,fun _=>hq,fun _=>(sq hq).2⟩
 ·have kk:=c.kept q3 q1 q2;refine⟨kk.2.1,fun hk=>?_,fun hq=>(sq hq).2⟩;by_cases hq:x∈w.Q
  ·exact hq
  ·exact absurd (kk.2.2.2 hq).1 hk
theorem CE.good{b:Int}(hp:Z02 ⟨w.heap.C,l5,w.heap.P.map (Z1h w.heap.S),1-w.heap.S,b⟩=true):Gd ⟨w.heap.C,l5,w.heap.P.map (Z1h w.heap.S),1-w.heap.S,b⟩ (tE T tq w):=by
 have g:=c.g;have hcc:=c.k.c;have hpl:=c.k.pl;have hs:=c.s;have po:=Z06 g.p;have hgt:∀ i,i<h.P.length→(w.heap.P.map (Z1h w.heap.S)).getD i default=Z1h w.heap.S (w.heap.P.getD i default):=fun i hi=>by
  have:i<w.heap.P.length:=by omega
  simp[List.getD_eq_getElem?_getD,this]
 have hng:∀ i,i<h.P.length→((w.heap.P.map (Z1h w.heap.S)).getD i default).K≠0→¬ Z2e w.heap.S (w.heap.P.getD i default)∧(w.heap.P.map (Z1h w.heap.S)).getD i default=w.heap.P.getD i default:=by
  intro i hi hk;rw[hgt i hi]at hk ⊢;unfold Z1h at hk ⊢;split at hk
  ·simp at hk
  ·rename_i q;rw[if_neg q];exact⟨q,rfl⟩
 have hb:∀ i,bsP ⟨w.heap.C,l5,w.heap.P.map (Z1h w.heap.S),1-w.heap.S,b⟩ i=bsP h i:=fun i=>by simp only[bsP,hcc]
 have hk5:∀ x,x∈w.Q→okA w.heap.W x→okA l5 x∧hlA l5 x=hlA w.heap.W x∧kdA l5 x=kdA w.heap.W x∧hdA l5 x=hdA w.heap.W x:=fun x hq ho=>by
  have e:=Z1O (congrArg Prod.fst (c.seen hq (Int.le_refl _) (by have:=Z0d w.heap.W x;omega)));exact⟨e.1 ho,e.2.1,e.2.2.1,e.2.2.2.1⟩
 have hkept:∀ i,i<h.P.length→(i:Int)∉w.T→((w.heap.P.map (Z1h w.heap.S)).getD i default).K≠0→(w.heap.P.getD i default).S≠w.heap.S∧(h.P.getD i default).K=((w.heap.P.map (Z1h w.heap.S)).getD i default).K∧(h.P.getD i default).U=((w.heap.P.map (Z1h w.heap.S)).getD i default).U∧(h.P.getD i default).N=((w.heap.P.map (Z1h w.heap.S)).getD i default).N:=by
  intro i hi hn hk;have n:=hng i hi hk;have pg:=c.k.pg i hn;rw[n.2]at hk ⊢;refine⟨fun q=>n.1 ⟨hk,q⟩,pg.1.symm,pg.2.1.symm,pg.2.2.symm⟩
 refine⟨hp, ?_, ?_, ?_, ?_, ?_, ?_, ?_⟩
 ·intro i hi hk;simp only[List.length_map]at hi hk ⊢;have n:=hng i oq hk;rw[n.2]at hk ⊢;have:=(c.pt.b i hi).s;have n1:=n.1;unfold Z2e at n1;omega
 ·intro i hi hk;simp only[List.length_map]at hi hk ⊢;rw[hb];have n:=hng i oq oq;by_cases q:(i:Int)∈w.T
  ·have t:=c.k.tk i q;rw[tE,if_pos q,n.2,hcc];refine⟨Z2t t.2.2.2.2.2.1 fun x hx=>?_,fun x hx=>?_⟩
   ·have e:=hk5 x (t.2.2.2.2.2.2 x hx).1 (Z1J t.2.2.2.2.2.1 hx).1;exact⟨e.1,e.2.1⟩
   ·have e:=hk5 x (t.2.2.2.2.2.2 x hx).1 (Z1J t.2.2.2.2.2.1 hx).1;rw[e.2.1];exact(t.2.2.2.2.2.2 x hx).2.2
  ·have kp:=hkept i oq q oq;rw[tE,if_neg q,if_pos kp.1,← kp.2.2.1,hcc];have t:=g.t1 i oq oq;refine⟨Z2t t.1 fun x hx=>?_,fun x hx=>?_⟩
   ·have e:=c.kept hx q kp.1;exact⟨e.2.1,e.2.2.1⟩
   ·rw[(c.kept hx q kp.1).2.2.1];exact t.2 x hx
 ·intro i hi hk;simp only[List.length_map]at hi hk ⊢;rw[hb];have n:=hng i oq oq;by_cases q:(i:Int)∈w.T
  ·have t:=c.k.tk i q;rw[n.2]at hk;omega
  ·have kp:=hkept i oq q oq;have t:=g.t2 i oq oq;have hx:bsP h i∈T i:=by rw[t.1];simp
   have e:=c.kept hx q kp.1;have hq:=c.k.lg i oq kp.1;have st:=c.start (i:=i) (x:=bsP h i) (by rw[tE,if_neg q,if_pos kp.1];exact hx);rw[tE,if_neg q,if_pos kp.1,← kp.2.2.1];exact⟨t.1,e.2.1,by rw[e.2.2.1];exact t.2.2.1,st.2.2 hq⟩
 ·intro i x hx;simp only[List.length_map];rcases c.mem hx with⟨q1,q2⟩ | ⟨q1,q2,q3⟩
  ·have t:=c.k.tk i q1;have:Z1h w.heap.S (w.heap.P.getD i default)=w.heap.P.getD i default:=by rw[Z1h,if_neg (c.gone0 q1)]
   rw[hgt i t.1,this];exact⟨by omega,Or.inl t.2.2.1⟩
  ·have t:=g.t0 i x q3;have pg:=c.k.pg i q1;have:Z1h w.heap.S (w.heap.P.getD i default)=w.heap.P.getD i default:=by rw[Z1h,if_neg (fun q=>q2 q.2)]
   rw[hgt i t.1,this];exact⟨by omega,by rw[pg.1];exact t.2⟩
 ·intro a ha;simp only at ha ⊢;have h4:(loadA l4 a).1≠0:=by
   have hr:4096≤a∧a<4096+l5.length:=by
    unfold loadA at ha;by_cases q:4096≤a∧a<4096+l5.length
    ·exact q
    ·rw[if_neg q]at ha;simp at ha
   have hl5:=c.n5;have hL:=c.i.L;rw[hcc]at hL;have h0:0≤(a-4096)/h.C.pw:=Int.ediv_nonneg oq oq;have h3:=Int.mul_ediv_add_emod (a-4096) h.C.pw;have h5:=Int.emod_nonneg (a-4096) (b:=h.C.pw) oq;have h6:=Int.emod_lt_of_pos (a-4096) (b:=h.C.pw) oq;have h7:(a-4096)/h.C.pw<h.C.pg:=Int.ediv_lt_of_lt_mul oq (by rw[Int.mul_comm];omega);rw[Int.mul_comm]at h3;have f:=c.fr ((a-4096)/h.C.pw).toNat ((a-4096)%h.C.pw) oq h5 h6;have ea:bsP h ((a-4096)/h.C.pw).toNat+(a-4096)%h.C.pw=a:=by
    unfold bsP;rw[Int.toNat_of_nonneg h0];omega
   rw[ea]at f;rw[f]at ha;split at ha
   ·simp at ha
   ·exact ha
  have hks:∀ i x,x∈T i→x≤a→a≤x+hlA h.W x→(i:Int)∉w.T∧(w.heap.P.getD i default).S≠w.heap.S:=fun i x hx h1 h2 =>
   ⟨c.k.nt g hx,fun q=>ha (c.gonew hx q h1 h2)⟩
  have cov:∀ i x,x∈T i→x≤a→a≤x+hlA h.W x→(x∉w.Q→a=x)→∃ i x,x∈tE T tq w i∧x≤a∧a<x+kpA l5 x:=by
   intro i x hx h1 h2 h3;obtain⟨n1,n2⟩:=hks i x hx h1 h2;have hm:x∈tE T tq w i:=by rw[tE,if_neg n1,if_pos n2];exact hx
   have kk:=c.kept hx n1 n2;have r:=Z0d l5 x;refine⟨i,x,hm,h1, ?_⟩;by_cases q:x∈w.Q
   ·rw[kpA,if_neg ((c.start hm).2.2 q),kk.2.2.1];omega
   ·have:=h3 q;unfold kpA;split<;>omega
  rcases c.f3 a with q | ⟨x,hx,q1,q2,q3,q4⟩
  ·rw[q]at h4;rcases c.k.dt a h4 with⟨i,x,hx,h1,h2⟩ | ⟨i,i1,i2,i3⟩
   ·have hkp:kpA h.W x≤hlA h.W x+1:=by
     have:=Z0d h.W x;unfold kpA;split<;>omega
    have hh:=hks i x hx h1 oq;refine cov i x hx h1 oq fun hq=>?_;have kk:=(c.kept hx hh.1 hh.2).2.2.2 hq;by_cases hk:kdA h.W x=0
    ·rw[kpA,if_pos hk]at h2;omega
    ·have fl:=kk.2.2 hk;have oh:=Z1O (c.kept hx hh.1 hh.2).1;have v:=c.f4 x fl.1 fl.2 a h1 (by rw[oh.2.1];omega);rw[← q]at h4;rw[v,Za0]at h4;split at h4
     ·rename_i e;exact e
     ·exact absurd rfl h4
   ·have t:=c.k.tk i i1;obtain⟨x,hx,x1,x2⟩:=Zam t.2.2.2.2.2.1 i2 i3;have hm:x∈tE T tq w i:=by rw[tE,if_pos i1];exact hx
    have hq:=(t.2.2.2.2.2.2 x hx).1;have e:=hk5 x hq (Z1J t.2.2.2.2.2.1 hx).1;refine⟨i,x,hm,x1, ?_⟩;rw[kpA,if_neg ((c.start hm).2.2 hq),e.2.1];omega
  ·obtain⟨i,hi,hk⟩:=(c.k.old x).1 hx;have sj:(loadA w.heap.W x).1=(loadA h.W x).1:=by
    rcases c.k.hd i x hi with q | q
    ·exact q
    ·exfalso;have o2:=q1.1;unfold Z0G at o2;rw[hcc,g.ofx hi]at o2;simp only[decide_eq_true_eq,Int.toNat_natCast]at o2;exact o2.2.2.2.1 q.2.2
   rw[(Z1O sj).2.1]at q3;refine cov i x hi q2 q3 fun _=>?_;rw[q4,Za0]at h4;split at h4
   ·rename_i e;exact e
   ·exact absurd rfl h4
 ·intro i x m hx hk h0 h1 hpt;simp only at hk h1 hpt ⊢;have hq:=(c.start hx).2.1 hk;have sk:=c.seenK hq;have e:=hk5 x hq sk.2;rw[e.2.1]at h1;rw[e.2.2.2]at hpt;rw[c.seen hq (a:=x+1+m) oq oq];obtain⟨n,n1,n2⟩:=getD_mem_iff.1 hq;have sd:=(c.sd (x+1+m) ⟨n,m,by rw[c.sc];simpa using n1,by rw[n2];exact Zbr h0 h1 hpt,by rw[n2]⟩).2;rcases sd with q | q
  ·exact Or.inl q
  ·obtain⟨j,hj⟩:=c.where' q;exact Or.inr ⟨j,hj,(c.start hj).2.2 q⟩
 ·have:crowd (w.heap.P.map (Z1h w.heap.S))≤crowd h.P:=by
   refine Z6q qo fun i hi k1 k2=>?_;by_cases q:(i:Int)∈w.T
   ·have t:=c.k.tk i q;have n:=hng i hi oq;rw[n.2]at k2;omega
   ·have kp:=hkept i hi q oq;omega
  have g2:=g.cr;simp only[hcc];omega
end
theorem Zgs{B:Int}(hB:0≤B){h:Heap}{T:Nat→List Int}(g:Gd h T){s k:List Int}(hw:WOk h.W)(hb:∀ p∈h.P,p.N≤B)(hs:RtOb h T s)(hk:RtOb h T k)(e:(collectF h s k).2.2.2.2=0) :
  ∃ T',Gd (collectF h s k).1 T'∧RtOb (collectF h s k).1 T' (collectF h s k).2.1∧RtOb (collectF h s k).1 T' (collectF h s k).2.2.1:=by
 have hp:=g.p;have hr:=g.refers hs;have hr':=g.refers hk;have pr1:=(ZaY hB hw hb e).p1;by_cases e1:(rootsF (beginW h) s).2.2=0
 ·by_cases e2:(allF (rootsF (beginW h) s).1).2=0
  ·have e7:collectF h s k=(endH (cW5 h s k),(rootsF (beginW h) s).2.1,Z4p (cW2 h s) k k.length,(cW5 h s k).rep,0):=by rw[collectF,if_pos hp,if_pos ⟨hr,hr'⟩,if_pos e1,if_pos e2]
   rw[e7]at pr1 ⊢;have ck:=cOk h s k hw hp e1 e2;have c5:=cOk5 h s k hw hp e1 e2;have pr:=ZmC hB hw hp hb e1 e2;have sd:=ZoT hB hw hp hb e1 e2;obtain⟨tq,ki⟩:=ZoX g hw e1 e2;obtain⟨g1,g2,g3,g4,g5⟩:=ck.h4;have po:=Z06 hp;obtain⟨a1,a2,a3,a4,a5,a6,a7,a8⟩:=Z5G (cW2 h s) k k.length;have a1:(cW3 h s k).heap=(cW2 h s).heap:=a1;have a2:(cW3 h s k).old=(cW2 h s).old:=a2;have a3:(cW3 h s k).T=(cW2 h s).T:=a3;have a4:(cW3 h s k).Q=(cW2 h s).Q:=a4;have fl:FL (cW3 h s k) (cW4 h s k).heap.W (cW3 h s k).old.length:=ZfG ck.f3 ck.i3 (cW3 h s k).old.length (Nat.le_refl _);have tf:∀ x,Z5T (cW3 h s k) x↔Z5T (cW2 h s) x:=fun x=>by
    unfold Z5T Z0G;rw[a1,a3,a4]
   have hcc:=ki.c;have hpl:=ki.pl;have hwl:=ki.wl;have w4:(cW4 h s k).heap.W.length=h.W.length:=by
    have:=fl.l;rw[a1]at this;exact this.trans hwl
   have fw:=ZcL (c:=h.C) (s:=(cW2 h s).heap.S) (l:=(cW2 h s).heap.P) (ws:=(cW4 h s k).heap.W) oq (by rw[w4,hpl,po.2.2.2.2.2.2.2.1];exact po.2.2.2.2.2.1) (cW2 h s).heap.P.length (Nat.le_refl _);have e5:(Z1k (cW4 h s k)).heap.W=Z29 h.C.pw (cW2 h s).heap.S (cW2 h s).heap.P (cW4 h s k).heap.W (cW2 h s).heap.P.length:=by
    simp only[Z1k,g1,g2,g3]
   have ce:CE h T tq (cW2 h s) (cW4 h s k).heap.W (Z1k (cW4 h s k)).heap.W:=by
    refine⟨g,ki,ck.i2,ck.w2.sp,pr.tab.pt,pr.tab.tk,sd.1,sd.2, ?_, ?_, ?_, ?_, ?_⟩
    ·intro a;rcases fl.s a with q | ⟨x,hx,q1,q2,q3,q4⟩
     ·refine Or.inl ?_;rw[a1]at q;exact q
     ·refine Or.inr ⟨x,a2▸hx,(tf x).1 q1,q2, ?_, ?_⟩
      ·rw[a1]at q3;exact q3
      ·rw[a1]at q4;exact q4
    ·intro x hx hf a h1 h2;obtain⟨j,j1,j2⟩:=getD_mem_iff.1 hx;have:=fl.f j (by rw[a2];exact j1);rw[a2,a1,j2]at this;exact this ((tf x).2 hf) a h1 h2
    ·rw[w4,hwl]
    ·rw[e5,fw.1,w4,hwl]
    ·intro i o hi h0 ho;have:=fw.2 i o oq h0 ho;rw[e5];show loadA _ (4096+(i:Int)*h.C.pw+o)=_;rw[this];by_cases q:Z2e (cW2 h s).heap.S ((cW2 h s).heap.P.getD i default)
     ·rw[if_pos ⟨by omega,q⟩,if_pos q]
     ·rw[if_neg (fun c=>q c.2),if_neg q];rfl
   have eh:endH (cW5 h s k)=⟨(cW2 h s).heap.C,(Z1k (cW4 h s k)).heap.W,(cW2 h s).heap.P.map (Z1h (cW2 h s).heap.S),1-(cW2 h s).heap.S,(endH (cW5 h s k)).B⟩:=by
    unfold endH cW5;simp only[Z1k,g1,g2,g3,hcc]
   rw[eh]at pr1 ⊢;have gd:=ce.good pr1;have seen:∀ x,ToOk (cW2 h s) x→x=0∨Ob ⟨(cW2 h s).heap.C,(Z1k (cW4 h s k)).heap.W,(cW2 h s).heap.P.map (Z1h (cW2 h s).heap.S),1-(cW2 h s).heap.S,(endH (cW5 h s k)).B⟩ (tE T tq (cW2 h s)) x:=by
    intro x hx;rcases hx with q | q
    ·exact Or.inl q
    ·obtain⟨i,hi⟩:=ce.where' q;exact Or.inr ⟨i,hi,(ce.start hi).2.2 q⟩
   refine⟨tE T tq (cW2 h s),gd,fun x hx=>seen x ?_,fun x hx=>seen x ?_⟩
   ·have hbg:=Z3j hw hp;have hib:=Z3t hp;have pr0:PR B (beginW h):=⟨Z6S hp hb,ZbY hp⟩
    have hall:=Z3O (roots:=s) hbg hib e1;have ax:=Zge hall.1 hall.2.1 e2;have:ToOk (rootsF (beginW h) s).1 x:=by
     unfold rootsF at e1 hx ⊢;cases hbb:(List.range s.length).find? (fun k=>decide (Z2B (beginW h) s k≠0))with
     | none =>
      rw[hbb]at hx;have h0:∀ j,j<s.length→Z2B (beginW h) s j=0:=fun j hj=>by
       have:=List.find?_eq_none.1 hbb j (List.mem_range.2 hj);simpa using this
      exact Zcv hB hbg hib pr0 s.length h0 x hx
     | some k =>
      rw[hbb]at e1;simp only at e1;have:=(List.find?_range_eq_some.1 hbb).1;simp[e1]at this
    rcases this with q | q
    ·exact Or.inl q
    ·exact Or.inr (ax.2.q x q)
   ·have:∀ i,i≤k.length→∀ x∈Z4p (cW2 h s) k i,ToOk (cW2 h s) x:=by
     intro i;induction i with
     | zero=>intro _ x hx;simp[Z4p]at hx
     | succ i ih =>
      intro hi' x hx;simp only[Z4p,List.mem_append,List.mem_singleton]at hx;rcases hx with hx | rfl
      ·exact ih oq x hx
      ·have hsi:=Z5G (cW2 h s) k i;unfold Z7I;split
       ·exact Or.inl rfl
       ·rename_i hne;unfold Z1D;rw[hsi.2.2.2.1,hsi.1];split
        ·rename_i hq;exact Or.inr hq
        ·cases ht:(Z08 (loadA (cW2 h s).heap.W (k.getD i default)).1).2 with
         | true =>
          refine Or.inr (pr.rt.t _ ?_ ht);rw[ki.old];rcases hk _ (getD_mem_iff.2 ⟨i,by omega,rfl⟩)with q | q
          ·exact absurd q hne
          ·exact q
         | false =>
          refine Or.inl ?_;unfold Z08 at ht ⊢;split at ht
          ·simp at ht
          ·rename_i hcc2;rw[if_neg hcc2]
    exact this k.length (Nat.le_refl _) x hx
  ·rw[collectF,if_pos hp,if_pos ⟨hr,hr'⟩,if_pos e1,if_neg e2]at e;exact absurd e e2
 ·rw[collectF,if_pos hp,if_pos ⟨hr,hr'⟩,if_neg e1]at e;exact absurd e e1
theorem WG.collect{w:WorldM}{n:Nat}(h:WG w)(hm:MOk w n):WG w.collect:=by
 unfold WorldM.collect;split
 ·rename_i e;obtain⟨T,g,g1,g2⟩:=h;exact Zgs (B:=n) oq g hm.W (fun p hp=>(hm.pin_mem p hp).2) g1 g2 e
 ·exact h
theorem WG.step{w:WorldM}{n:Nat}(h:WG w)(hm:MOk w n)(hn:n≤1000000)(t:Tape):WG (w.step t):=by
 unfold WorldM.step;repeat' split
 ·exact h.put hm.W (Z5B _ _)
 ·exact h.link hm hn _
 ·exact h.pin hm hn _
 ·exact h.drop _
 ·exact h.collect hm
 ·exact h.dup _
theorem ZhO{w:WorldM}{n:Nat}(h:WG w)(hm:MOk w n)(t:Tape):∀ k,n+k≤1000000→WG (mkS w t k).1
 | 0,_=>h
 | k+1,hk=>(ZhO h hm t k oq).step (ZaR hm t k oq) oq _
theorem Zf7(l:List Int):WG (Z15 l):=by
 have e:=Z5o l;have hl:(((Z2T l).step 4).step 5).l.length≤300:=by rw[e.1];simp;omega
 have hk:=Zdq (Z2T l).empty (((Z2T l).step 4).step 5) oq;exact ZhO (ZbH (Z2T l)) (Z8f (Z2T l)) _ _ oq
theorem Zhr(l:List Int):Z0w (Z15 l).heap=⟨0,0,0⟩∧Z0m (Z15 l).heap (Z15 l).G=true∧Z0m (Z15 l).heap (Z15 l).E=true:=by
 obtain⟨T,g,g1,g2⟩:=Zf7 l;exact⟨g.good,g.refers g1,g.refers g2⟩
theorem Z44(l:List Page):sumP nzP l=Z1t l:=by
 rw[Z1z];unfold Z1t;have:∀ n,((List.range n).map fun i=>nzP (l.getD i default)).sum=Z1A l n:=by
  intro n;induction n with
  | zero=>simp[Z1A]
  | succ n ih =>
   have hpa:Z1e l n=l.getD n default:=by rw[Z3K];simp
   rw[List.range_succ,List.map_append,List.sum_append,ih,Z1A,hpa];simp only[List.map_cons,List.map_nil,List.sum_cons,List.sum_nil,nzP];split<;>simp
 exact this _
theorem ZoI{pw:Int}:∀ {l:List Page},(∀ p∈l,usP p+lgP p*pw≤nzP p*pw)→sumP usP l+sumP lgP l*pw≤sumP nzP l*pw
 | [],_=>by simp[sumP]
 | x::l,h=>by
  have h1:=ZoI (l:=l) fun p hp=>h p (List.mem_cons_of_mem _ hp);have h2:=h x pq;simp only[sumP,List.map_cons,List.sum_cons,Int.add_mul]at h1 h2 ⊢;omega
theorem Zcq{h:Heap}(hp:Z02 h=true):0≤sumP usP h.P:=Z2N fun p hq=>by
 obtain⟨j,hj,rfl⟩:=List.getElem_of_mem hq;have pp:=Z0D hp hj;rw[List.getD_eq_getElem?_getD,List.getElem?_eq_getElem hj,Option.getD_some]at pp;unfold usP;split<;>omega
theorem Zjl(l:List Page):0≤sumP lgP l:=Z2N fun p _=>by unfold lgP;split<;>omega
theorem MV.few{h:Heap}(hp:Z02 h=true)(hn:(Z1t h.P:Int)≤h.C.pg/4):MV h:=by
 have po:=Z06 hp;rw[← Z44]at hn;have u0:=Zcq hp;have l0:=Zjl h.P;refine⟨?_,0,by omega,by omega⟩;have:=ZoI (pw:=h.C.pw) (l:=h.P) fun p hq=>by
  obtain⟨j,hj,rfl⟩:=List.getElem_of_mem hq;have pp:=Z0D hp hj;rw[List.getD_eq_getElem?_getD,List.getElem?_eq_getElem hj,Option.getD_some]at pp;unfold usP lgP nzP;split
  ·rename_i k;rw[if_neg oq,if_neg oq];omega
  ·split
   ·rw[if_neg oq];omega
   ·split<;>omega
 have:=Int.mul_le_mul_of_nonneg_right hn (show 0≤h.C.pw by omega);omega
theorem MV.same{h h':Heap}(m:MV h)(hc:h'.C=h.C)(hl:h'.P.length=h.P.length)(hk:∀ i,i<h.P.length→(h'.P.getD i default).K=(h.P.getD i default).K∧(h'.P.getD i default).U=(h.P.getD i default).U):MV h':=by
 have e1:sumP usP h'.P=sumP usP h.P:=Z2Q usP hl fun i hi=>by unfold usP;rw[(hk i hi).1,(hk i hi).2]
 have e2:sumP nzP h'.P=sumP nzP h.P:=Z2Q nzP hl fun i hi=>by unfold nzP;rw[(hk i hi).1]
 have e3:sumP lgP h'.P=sumP lgP h.P:=Z2Q lgP hl fun i hi=>by unfold lgP;rw[(hk i hi).1]
 refine⟨by rw[e1,e3,hc];exact m.v, ?_⟩;rw[e1,e2,e3,hc];exact m.n
theorem Zpi{l m:List Page}{i:Nat}(h:i+m.length≤l.length):∀ k,k≤m.length→sumP nzP (wr l m i k)≤sumP nzP l+k
 | 0,_=>by rw[Z7t];simp
 | k+1,hk=>by
  have ih:=Zpi h k oq;have e:=Z97 h oq (default:Page) (k:=k);rw[← e];have s:=Z5O nzP (m.getD k default) (wr l m i k) (i+k) (by rw[Z4l h oq];omega);have r1:∀ p:Page,0≤nzP p∧nzP p≤1:=fun p=>by unfold nzP;split<;>omega
  have:=r1 (m.getD k default);have:=r1 ((wr l m i k).getD (i+k) default);omega
theorem ZnJ{l:List Page}{i k:Nat}{p q:Page}(hk:1≤k)(h:i+k≤l.length)(hq:q.K≠0):sumP nzP (tookP l i k p q)≤sumP nzP l+k:=by
 have h':i+(List.replicate k q).length≤l.length:=by simpa using h
 have w:=Zpi h' k pq;have s:=Z5O nzP p (wr l (List.replicate k q) i k) i (by rw[Z4l h' pq];omega);have g:(wr l (List.replicate k q) i k).getD i default=q:=by
  rw[List.getD_eq_getElem?_getD,Z8S h' pq,if_neg oq,if_pos oq,Nat.sub_self,List.getElem?_replicate,if_pos oq];rfl
 rw[g]at s;have:nzP q=1:=by unfold nzP;rw[if_neg hq]
 have:nzP p≤1:=by unfold nzP;split<;>omega
 unfold tookP;omega
theorem Zm4{h:Heap}{hd:Header}(hp:Z02 h=true)(hc:(put7 h hd).2.2=true):(Z1t (put7 h hd).1.P:Int)≤h.C.pg/4:=by
 have po:=Z06 hp;have hv:=validB_iff.1 po.1;have li:Z2q h.C=h.C.pg/4:=by rw[Z2q,if_pos po.1,Z4O oq]
 unfold put7 at hc ⊢;split at hc
 ·rename_i c;rw[if_pos c];unfold Z0B at hc ⊢;split at hc
  ·rename_i c2;rw[if_pos c2];have ff:=Z1j c2.1;rw[← Z44];simp only;have e:(Z2E h.C h.P (first h.P (need h.C (sizeH hd))) h.S (sizeH hd)).1=tookP h.P (first h.P (need h.C (sizeH hd))).toNat (need h.C (sizeH hd)).toNat ⟨2,h.S,sizeH hd,0⟩ ⟨3,h.S,0,0⟩:=by
    unfold Z2E Z2Z;rw[if_pos oq,if_pos oq,if_pos ff.2.2]
   rw[e];have:=ZnJ (l:=h.P) (i:=(first h.P (need h.C (sizeH hd))).toNat) (k:=(need h.C (sizeH hd)).toNat) (p:=⟨2,h.S,sizeH hd,0⟩) (q:=⟨3,h.S,0,0⟩) oq oq pq;rw[Z44 h.P]at this;omega
  ·simp at hc
 ·rename_i c;rw[if_neg c];unfold Z0o at hc ⊢;split at hc
  ·rename_i c2;rw[if_pos c2];rw[← Z44];simp only;have e:sumP nzP (Z1B h.P h.B.toNat (sizeH hd))=sumP nzP h.P:=Z2Q nzP (by simp[Z1B]) fun i hi=>by
    rw[Z3X];by_cases hb:h.B.toNat<h.P.length
    ·rw[Z0p hb];split
     ·rename_i q;rw[← q];rfl
     ·rfl
    ·rw[List.set_eq_of_length_le oq]
   rw[e,Z44];have:=c2.2.2.2;omega
  ·rename_i c2;rw[if_neg c2];split at hc
   ·rename_i c3;rw[if_pos c3];obtain⟨g1,g2,g3⟩:=Z34 po.2.2.2.2.2.2.2.2 c3.1 (sizeH hd);rw[← Z44];simp only;rw[g1];have s:=Z5O nzP ⟨1,h.S,sizeH hd,0⟩ h.P (first h.P 1).toNat g3;have z1:nzP ⟨1,h.S,sizeH hd,0⟩=1:=rfl;have z0:0≤nzP (h.P.getD (first h.P 1).toNat default):=by unfold nzP;split<;>omega
    rw[Z44 h.P]at s;omega
   ·simp at hc
theorem MV.put{w:WorldM}(m:MV w.heap)(hw:WOk w.heap.W){hd:Header}(hm:0≤hd.map∧hd.map≤4294967295):MV (w.put hd).heap:=by
 unfold WorldM.put;split
 ·rename_i e;obtain⟨k1,k2,k3,k4,k5,k6,k7,k8⟩:=ZdU hw hm e;have f:=Zm4 k1 k4;refine MV.few k7 ?_;rw[k6];simp only;rw[k3.c];exact f
 ·exact m
theorem MV.setf{h:Heap}{a i v:Int}(m:MV h)(hw:WOk h.W)(hv:0≤v∧v≤18446744073709551615)(e:(getH h a).2=0)(hi:0≤i∧i<(getH h a).1.length):MV (Z0v h a i v).1:=by
 obtain⟨s1,s2,s3⟩:=Z6f hw hv (a:=a) (i:=i) e hi;rw[s1];exact m.same rfl rfl fun _ _=>⟨rfl,rfl⟩
theorem MV.link{w:WorldM}{n:Nat}(m:MV w.heap)(hm:MOk w n)(hn:n≤1000000)(t:Tape):MV (w.link t).heap:=by
 unfold WorldM.link;split
 ·rename_i hc;have hw:=hm.wm hn;have n1:=Z0U (w.pickT (w.pickT t)) (n:=8) dd;have gg:=Z47 hc.1;have hi:0≤Z4Q w t∧Z4Q w t<(getH w.heap (w.pick t)).1.length:=by
   unfold Z4Q;rw[Int.tmod_eq_emod_of_nonneg n1.1];exact⟨Int.emod_nonneg _ oq,Int.emod_lt_of_pos _ oq⟩
  have hv:0≤Z5n w t∧Z5n w t≤18446744073709551615:=by
   unfold Z5n;split
   ·exact Z3b hw _
   ·have:=Z0U ((w.pickT (w.pickT t)).step 8) (n:=1048576) dd;omega
  exact m.setf hm.W hv hc.1 hi
 ·exact m
theorem MV.pinB{w:WorldM}(m:MV w.heap)(i:Nat)(d:Int):MV (Go.Proofs.YtdhchmlalchgeaaGreat.pinB w i d).heap:=by
 refine m.same rfl (by simp[Go.Proofs.YtdhchmlalchgeaaGreat.pinB]) fun j hj=>?_;simp only[Go.Proofs.YtdhchmlalchgeaaGreat.pinB];by_cases hi:i<w.heap.P.length
 ·rw[Z0p hi];split
  ·rename_i q;subst q;exact⟨rfl,rfl⟩
  ·exact⟨rfl,rfl⟩
 ·rw[List.set_eq_of_length_le oq];exact⟨rfl,rfl⟩
theorem MV.pin{w:WorldM}(m:MV w.heap)(t:Tape):MV (w.pin t).heap:=by
 unfold WorldM.pin;repeat' split
 ·exact m.pinB _ _
 ·exact m.pinB _ _
 ·exact m
 ·exact m
theorem MV.drop{w:WorldM}(m:MV w.heap)(t:Tape):MV (w.drop t).heap:=by
 unfold WorldM.drop;split
 ·exact m
 ·exact m
theorem MI.in1{h:Heap}{T tq:Nat→List Int}(g:Gd h T){w:Work}(m:MI h T w)(k:KI h T tq w)(mv:MV h)(hw:WkOk w)(hi:CIv w){q j:Int}(hq:q∈w.Q)(hj:0≤j∧j<hlA w.heap.W q)(e:(w.fwd (loadA w.heap.W (q+1+j)).1).2.2=0):MI h T (w.in1 (q+1+j)):=by
 obtain⟨tq',k'⟩:=k.fwd g hw hi _ e;have m':=m.fwd g k hw mv hi e;obtain⟨i1,x1⟩:=Z5j hw hi _ e;have hq1:=x1.q q hq;have hl1:=x1.l q hq;have hr:=i1.r q (List.mem_append_right _ hq1);have hin:4096≤q+1+j∧q+1+j<4096+(w.fwd (loadA w.heap.W (q+1+j)).1).1.heap.W.length:=by omega
 obtain⟨f1,f2,f3⟩:=k'.field g hq1 (j:=j) oq;have er:Z5Q h T (w.in1 (q+1+j))≤Z5Q h T (w.fwd (loadA w.heap.W (q+1+j)).1).1:=by
  refine Z4o fun i _=>?_;unfold Z9d;split
  ·refine Z4o fun x hx=>?_;unfold wtW;rw[show(w.in1 (q+1+j)).heap.W=(Z0J (w.fwd (loadA w.heap.W (q+1+j)).1).1.heap.W (q+1+j) (w.fwd (loadA w.heap.W (q+1+j)).1).2.1).1 from rfl,Z0y hin (f1 i x hx)];exact Int.le_refl _
  ·exact Int.le_refl _
 have m3:=m'.m3;exact⟨m'.m0,m'.m1,m'.m2,by show sumP usP (w.fwd (loadA w.heap.W (q+1+j)).1).1.heap.P+_≤_;omega,m'.m4,m'.m5⟩
theorem ZoG{h:Heap}{T:Nat→List Int}(g:Gd h T)(mv:MV h){s:List Int}(hw:WOk h.W)(e:(rootsF (beginW h) s).2.2=0)(e2:(allF (rootsF (beginW h) s).1).2=0):(∃ tq,KI h T tq (cW2 h s))∧MI h T (cW2 h s) :=
 Zld (fun w=>(∃ tq,KI h T tq w)∧MI h T w) (fun w r hw hi ⟨⟨_,k⟩,m⟩ e=>⟨k.fwd g hw hi r e,m.fwd g k hw mv hi e⟩) (fun w q j hw hi ⟨⟨_,k⟩,m⟩ hq h0 h1 e=>⟨k.in1 g hw hi hq ⟨h0,h1⟩ e,m.in1 g k mv hw hi hq ⟨h0,h1⟩ e⟩)
  (fun w n ⟨⟨tq,k⟩,m⟩=>⟨⟨tq,k.c,k.sp,k.old,k.pl,k.wl,k.pg,k.tk,k.tk0,k.q,k.hd,k.dt,k.lg⟩,⟨m.m0,m.m1,m.m2,m.m3,m.m4,m.m5⟩⟩) hw g.p ⟨⟨_,KI.begin g⟩,MI.begin g⟩ e e2
theorem Z7l{α:Type}{f g:α→Int}:∀ l:List α,(l.map fun x=>f x+g x).sum=(l.map f).sum+(l.map g).sum
 | []=>by simp
 | x::l=>by
  simp only[List.map_cons,List.sum_cons,Z7l l];omega
def crP(p:Page):Int:=if p.K=1∧0<p.N then 1 else 0
theorem Zim(l:List Page):sumP crP l=crowd l:=by
 rw[Z1z];unfold crowd;have:∀ n,((List.range n).map fun i=>crP (l.getD i default)).sum=Z0t l n:=by
  intro n;induction n with
  | zero=>simp[Z0t]
  | succ n ih =>
   rw[List.range_succ,List.map_append,List.sum_append,ih,Z0t];simp only[List.map_cons,List.map_nil,List.sum_cons,List.sum_nil,crP];split<;>simp
 exact this _
theorem Z6Y{f:Page→Int}{q:Page→Page}(l:List Page):sumP f (l.map q)=((List.range l.length).map fun i=>f (q (l.getD i default))).sum:=by
 rw[Z1z,List.length_map];congr 1;refine List.map_congr_left fun i hi=>?_;have hi:=List.mem_range.1 hi;simp[List.getD_eq_getElem?_getD,hi]
theorem MI.end{h:Heap}{T tq:Nat→List Int}(g:Gd h T){w:Work}(m:MI h T w)(k:KI h T tq w)(mv:MV h)(hw:WkOk w)(ts:∀ x∈w.T,(w.heap.P.getD x.toNat default).S=1-w.heap.S){h':Heap}(hc:h'.C=h.C)(hpg:h'.P=w.heap.P.map (Z1h w.heap.S)):MV h':=by
 have hl:=m.m0.1;have sp:=hw.sp;have po:=Z06 g.p;have page:∀ i,i<h.P.length→((i:Int)∈w.T∧(h.P.getD i default).K=0∧(w.heap.P.getD i default).K=1∧(w.heap.P.getD i default).S=1-w.heap.S)∨((w.heap.P.getD i default).K=(h.P.getD i default).K∧(w.heap.P.getD i default).U=(h.P.getD i default).U∧((h.P.getD i default).K=1→((w.heap.P.getD i default).S=w.heap.S↔¬ 0<(h.P.getD i default).N))):=by
  intro i hi;by_cases c:(i:Int)∈w.T
  ·have t:=k.tk i c;have:=ts _ c;rw[Int.toNat_natCast]at this;exact Or.inl ⟨c,t.2.1,t.2.2.1,this⟩
  ·have q:=k.pg i c;exact Or.inr ⟨q.1,q.2.1,m.m5 i hi⟩
 have usr:∀ i,i<h.P.length→0≤(w.heap.P.getD i default).U∧0≤(h.P.getD i default).U:=fun i hi=>by
  have a:=hw.us i oq;have b:=Z0D g.p hi;omega
 have q0:(⟨0,0,0,0⟩:Page).K=0:=rfl;have e1:sumP usP h'.P+sumP unP h.P≤sumP usP w.heap.P:=by
  rw[hpg,Z6Y,Z1z unP,Z1z usP,← hl,← Z7l];refine Z4o fun i hi=>?_;have hi:=List.mem_range.1 hi;have p:=page i oq;have u:=usr i oq;by_cases gq:Z2e w.heap.S (w.heap.P.getD i default)
  ·rw[Z1h,if_pos gq];unfold Z2e at gq;unfold usP unP;repeat' split
   all_goals (try simp only at *)
   all_goals omega
  ·rw[Z1h,if_neg gq];unfold Z2e at gq;unfold usP unP;repeat' split
   all_goals omega
 have e2:sumP usP w.heap.P≤sumP usP h'.P+sumP usP h.P:=by
  rw[hpg,Z6Y,Z1z usP h.P,Z1z usP,← hl,← Z7l];refine Z4o fun i hi=>?_;have hi:=List.mem_range.1 hi;have p:=page i oq;have u:=usr i oq;by_cases gq:Z2e w.heap.S (w.heap.P.getD i default)
  ·rw[Z1h,if_pos gq];unfold Z2e at gq;unfold usP;repeat' split
   all_goals (try simp only at *)
   all_goals omega
  ·rw[Z1h,if_neg gq];unfold Z2e at gq;unfold usP;repeat' split
   all_goals omega
 have e3:sumP lgP h'.P≤sumP lgP h.P:=by
  rw[hpg,Z6Y,Z1z lgP h.P,← hl];refine Z4o fun i hi=>?_;have hi:=List.mem_range.1 hi;have p:=page i oq;by_cases gq:Z2e w.heap.S (w.heap.P.getD i default)
  ·rw[Z1h,if_pos gq];unfold Z2e at gq;unfold lgP;repeat' split
   all_goals (try simp only at *)
   all_goals omega
  ·rw[Z1h,if_neg gq];unfold Z2e at gq;unfold lgP;repeat' split
   all_goals omega
 have e4:sumP nzP h'.P+sumP nzP h.P≤sumP nzP w.heap.P+(sumP lgP h'.P+sumP crP h.P):=by
  rw[hpg,Z6Y,Z6Y,Z1z nzP h.P,Z1z nzP,Z1z crP,← hl,← Z7l,← Z7l,← Z7l];refine Z4o fun i hi=>?_;have hi:=List.mem_range.1 hi;have p:=page i oq;have kr:0≤(h.P.getD i default).K∧(h.P.getD i default).K≤3:=by
   have:=Z0D g.p (show i<h.P.length by omega);omega
  by_cases gq:Z2e w.heap.S (w.heap.P.getD i default)
  ·rw[Z1h,if_pos gq];unfold Z2e at gq;unfold nzP lgP crP;repeat' split
   all_goals (try simp only at *)
   all_goals omega
  ·rw[Z1h,if_neg gq];unfold Z2e at gq;unfold nzP lgP crP;repeat' split
   all_goals omega
 have cr:=g.cr;rw[← Zim]at cr;have m1:=m.m1;have m3:=m.m3;have m4:=m.m4;have r:=ZeK h T w;have v:=mv.v;have u0:=Zcq g.p;have hpw:0≤h.C.pw:=by omega
 refine⟨?_,w.T.length,by rw[hc];omega, ?_⟩
 ·rw[hc];have:=Int.mul_le_mul_of_nonneg_right e3 hpw;omega
 ·rw[hc];by_cases z:0<w.T.length
  ·have m2:=m.m2 z;have:=hw.us (Z0k w).toNat (by have:=hw.tk _ (Z17 z);omega)
   omega
  ·have:w.T.length=0:=by omega
   rw[this];simp only[Int.natCast_zero,Int.zero_sub];have:0≤sumP usP h'.P:=by
    have:sumP unP h.P≤sumP usP h.P:=Z4o fun p hp=>by
     obtain⟨j,hj,rfl⟩:=List.getElem_of_mem hp;have pp:=Z0D g.p hj;rw[List.getD_eq_getElem?_getD,List.getElem?_eq_getElem hj,Option.getD_some]at pp;unfold unP usP;split
     ·rename_i c;rw[if_pos c.1];omega
     ·split<;>omega
    omega
   omega
theorem MV.collectF{B:Int}(hB:0≤B){h:Heap}{T:Nat→List Int}(g:Gd h T)(mv:MV h){s k:List Int}(hw:WOk h.W)(hb:∀ p∈h.P,p.N≤B)(hs:RtOb h T s)(hk:RtOb h T k)(e:(Go.Proofs.YtdhchmlalchgeaaGreat.collectF h s k).2.2.2.2=0):MV (Go.Proofs.YtdhchmlalchgeaaGreat.collectF h s k).1:=by
 have hp:=g.p;have hr:=g.refers hs;have hr':=g.refers hk;by_cases e1:(rootsF (beginW h) s).2.2=0
 ·by_cases e2:(allF (rootsF (beginW h) s).1).2=0
  ·have e7:Go.Proofs.YtdhchmlalchgeaaGreat.collectF h s k=(endH (cW5 h s k),(rootsF (beginW h) s).2.1,Z4p (cW2 h s) k k.length,(cW5 h s k).rep,0):=by rw[Go.Proofs.YtdhchmlalchgeaaGreat.collectF,if_pos hp,if_pos ⟨hr,hr'⟩,if_pos e1,if_pos e2]
   rw[e7];have ck:=cOk h s k hw hp e1 e2;obtain⟨g1,g2,g3,g4,g5⟩:=ck.h4;have pr:=ZmC hB hw hp hb e1 e2;obtain⟨⟨tq,ki⟩,mi⟩:=ZoG g mv hw e1 e2;refine mi.end g ki mv ck.w2 pr.tab.tk (h':=endH (cW5 h s k)) ?_ ?_
   ·unfold endH cW5;simp only[Z1k,g1]
   ·unfold endH cW5;simp only[Z1k,g2,g3]
  ·rw[Go.Proofs.YtdhchmlalchgeaaGreat.collectF,if_pos hp,if_pos ⟨hr,hr'⟩,if_pos e1,if_neg e2]at e;exact absurd e e2
 ·rw[Go.Proofs.YtdhchmlalchgeaaGreat.collectF,if_pos hp,if_pos ⟨hr,hr'⟩,if_neg e1]at e;exact absurd e e1
theorem MV.collect{w:WorldM}{n:Nat}(m:MV w.heap)(h:WG w)(hm:MOk w n):MV w.collect.heap:=by
 unfold WorldM.collect;split
 ·rename_i e;obtain⟨T,g,g1,g2⟩:=h;exact MV.collectF (B:=n) oq g m hm.W (fun p hp=>(hm.pin_mem p hp).2) g1 g2 e
 ·exact m
theorem MV.step{w:WorldM}{n:Nat}(m:MV w.heap)(h:WG w)(hm:MOk w n)(hn:n≤1000000)(t:Tape):MV (w.step t).heap:=by
 unfold WorldM.step;repeat' split
 ·exact m.put hm.W (Z5B _ _)
 ·exact m.link hm hn _
 ·exact m.pin _
 ·exact m.drop _
 ·exact m.collect h hm
 ·exact m
theorem Zmz{w:WorldM}{n:Nat}(m:MV w.heap)(h:WG w)(hm:MOk w n)(t:Tape):∀ k,n+k≤1000000→MV (mkS w t k).1.heap
 | 0,_=>m
 | k+1,hk=>(Zmz m h hm t k oq).step (ZhO h hm t k oq) (ZaR hm t k oq) oq _
theorem ZkS(l:List Int):MV (Z15 l).heap:=by
 have e:=Z5o l;have hl:(((Z2T l).step 4).step 5).l.length≤300:=by rw[e.1];simp;omega
 have hk:=Zdq (Z2T l).empty (((Z2T l).step 4).step 5) oq;obtain⟨_,ge,_⟩:=ZbH (Z2T l);have hp:=ge.p;refine Zmz (MV.few hp ?_) (ZbH (Z2T l)) (Z8f (Z2T l)) _ _ oq;have hv:=validB_iff.1 (Z06 hp).1;have z:sumP nzP (Z2T l).empty.heap.P=0:=by simp[sumP,Tape.empty,Z2Y,nzP]
 rw[Z44]at z;omega
theorem ZhL{w:Int}(h:(decodeH w).2=true):(Z08 w).2=false:=by
 unfold decodeH at h;split at h
 ·rename_i c;unfold Z0c at c;split at c
  ·simp only at c;unfold Z08;rw[if_neg oq]
  ·simp at c
 ·cases h
structure OnW (h:Heap) (T:Nat→List Int) (w:Work):Prop where
 c:Col h T w
 m:MI h T w
 q:∀ y∈w.old,Z38 w y≠0→Z38 w y∈w.Q
 z:∀ y∈w.old,Z38 w y=0→y∉w.Q∧(Z08 (loadA w.heap.W y).1).2=false
 n:w.rep.copied+w.rep.kept=w.Q.length
theorem Z7h{h:Heap}{T:Nat→List Int}(g:Gd h T){y:Int}(hy:y∈(beginW h).old):Z38 (beginW h) y=0∧(Z08 (loadA h.W y).1).2=false:=by
 obtain⟨i,hi,hk⟩:=((KI.begin g).old y).1 hy;have t:=ZhL (g.on hi).2.2.2.2.2.1;refine⟨?_,t⟩;unfold Z38;rw[if_neg (by simp[beginW]),if_neg (by show ¬ (Z08 (loadA h.W y).1).2=true;rw[t];simp)]
theorem OnW.begin{h:Heap}{T:Nat→List Int}(g:Gd h T)(hw:WOk h.W):OnW h T (beginW h) :=
 ⟨Col.begin g hw,MI.begin g,fun y hy q=>absurd (Z7h g hy).1 q,fun y hy _=>⟨by simp[beginW],(Z7h g hy).2⟩,rfl⟩
section
variable {h:Heap} {T:Nat→List Int} {w:Work} (o:OnW h T w) (g:Gd h T) (mv:MV h) {r:Int} (hr:r∈w.old)
include o g mv hr
theorem OnW.new(hs:Z38 w r=0):∃ i0,r∈T i0∧(w.fwd r).2.2=0∧NewF h T w r i0 (w.fwd r).1 (w.fwd r).2.1:=by
 obtain⟨tq,k⟩:=o.c.k;obtain⟨i0,hx,hk⟩:=(k.old r).1 hr;have z:=o.z r hr hs;exact⟨i0,hx,Zod g o.m k o.c.ok mv hx hk z.1 z.2⟩
theorem OnW.ok:(w.fwd r).2.2=0:=by
 obtain⟨tq,k⟩:=o.c.k;exact o.m.fwd_ok g k o.c.ok mv o.c.inv (.inr (.inr hr))
theorem OnW.same(hs:Z38 w r≠0):w.fwd r=(w,Z38 w r,0):=by
 unfold Work.fwd Z38 at *;split at hs
 ·rename_i q;rw[if_pos (.inr q),if_pos q]
 ·rename_i q;split at hs
  ·rename_i q2;obtain⟨tq,k⟩:=o.c.k;obtain⟨i0,hx,hk⟩:=(k.old r).1 hr;have:=g.inw hx;have c:¬ (r=0∨r∈w.Q):=by
    rintro(c | c)
    ·omega
    ·exact q c
   rw[if_neg c,if_neg (by simpa using hr),if_pos q2,if_neg q,if_pos q2]
  ·exact absurd rfl hs
theorem OnW.seen:(w.fwd r).2.1≠0∧Z38 (w.fwd r).1 r=(w.fwd r).2.1∧(∀ y∈w.old,y≠r→Z38 (w.fwd r).1 y=Z38 w y)∧(w.fwd r).1.old=w.old ∧
  ((w.fwd r).1.Q.length:Int)=w.Q.length+(if Z38 w r=0 then 1 else 0):=by
 by_cases hs:Z38 w r=0
 ·obtain⟨i0,hx,e,N⟩:=o.new g mv hr hs;have z:=o.z r hr hs;have b:=N.b;obtain⟨tq,k⟩:=o.c.k;refine⟨by omega, ?_,fun y hy hne=>?_,N.o,by rw[if_pos hs,N.q];simp⟩
  ·unfold Z38;rw[N.q];by_cases q:(w.fwd r).2.1=r
   ·rw[if_pos (by rw[q];simp)];exact q.symm
   ·rw[if_neg (by simp only[List.mem_append,List.mem_singleton];rintro(c | c);exact z.1 c;exact q c.symm),N.c q];simp
  ·obtain⟨j,hj,_⟩:=(k.old y).1 hy;have t:=N.t j y hj hne;unfold Z38;rw[N.q,t.2];have:(y∈w.Q++[(w.fwd r).2.1])↔y∈w.Q:=by
    simp only[List.mem_append,List.mem_singleton];exact⟨fun c=>c.elim id fun c=>absurd c.symm t.1,.inl⟩
   simp only[this]
 ·rw[o.same g mv hr hs];exact⟨hs,rfl,fun _ _ _=>rfl,rfl,by rw[if_neg hs];simp⟩
theorem OnW.fwd:OnW h T (w.fwd r).1:=by
 by_cases hs:Z38 w r=0
 ·obtain⟨i0,hx,e,N⟩:=o.new g mv hr hs;obtain⟨s1,s2,s3,s4,s5⟩:=o.seen g mv hr;obtain⟨tq,k⟩:=o.c.k;refine⟨o.c.fwd g e,o.m.fwd g k o.c.ok mv o.c.inv e,fun y hy hne=>?_,fun y hy h0=>?_,by rw[N.n,o.n,N.q];simp⟩
  ·rw[s4]at hy;rw[N.q];by_cases q:y=r
   ·subst q;rw[s2];simp
   ·rw[s3 y hy q]at hne ⊢;exact List.mem_append_left _ (o.q y hy hne)
  ·rw[s4]at hy;by_cases q:y=r
   ·subst q;rw[s2]at h0;exact absurd h0 s1
   ·rw[s3 y hy q]at h0;have z:=o.z y hy h0;obtain⟨j,hj,_⟩:=(k.old y).1 hy;have t:=N.t j y hj q;rw[N.q,t.2];refine⟨?_,z.2⟩;simp only[List.mem_append,List.mem_singleton];rintro(c | c)
    ·exact z.1 c
    ·exact t.1 c.symm
 ·rw[o.same g mv hr hs];exact o
end
theorem Zat(h:Heap)(hw:WOk h.W)(hp:Z02 h=true)(hg:Z0w h=⟨0,0,0⟩):GP 33 [h.av] false (.tu [(beginW h).av,int 0]) []:=Zgc h hw hp hg
theorem Ziu(h:Heap)(hw:WOk h.W):GP 34 [h.av] false (.tu [.ow 0,int (Z03 h).2]) [.arr 35 1 ((Z03 h).1.map wdv)]:=by
 have hl:=Z6m h;have hr:=Z4q h;exact gF [24006] Tryz.func34 [] (Fh 6 [.own] (Fc 12 (@ZaV h aa) (Fu (@Zfu h ((Z0A h).fst) ((Z0A h).snd) aa oq aa) Fz)))
def ixX(all:List Int)(o:Int):Int:=all.getD (o%all.length).toNat default
theorem Zc0{all:List Int}(o:Int)(h:1≤all.length):ixX all o∈all:=by
 have k0:=Int.emod_nonneg o (show(all.length:Int)≠0 by omega);have k1:=Int.emod_lt_of_pos o (show(0:Int)<all.length by omega);exact getD_mem_iff.2 ⟨(o%(all.length:Int)).toNat,by omega,rfl⟩
end Go.Proofs.YtdhchmlalchgeaaGreat
