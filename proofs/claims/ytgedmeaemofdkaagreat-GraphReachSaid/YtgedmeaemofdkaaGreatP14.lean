/-
 The statement GraphReach: part 14.
 Conditions: none.
-/
import Derived.Test.YtgedmeaemofdkaaGreatP13
set_option maxRecDepth 100000
set_option maxHeartbeats 2000000
set_option linter.all false
open List renaming map->M,take->Lc,replicate->Le,getElem?_eq_getElem->Lh,map_append->Li,map_drop->Lj,map_set->Lk,map_take->Ll,getD_eq_getElem?_getD->Lm,length_take->Ln,take_length->Lo
open Inhabited renaming default->La
open Bool renaming true->Lb,false->Ld
open Decidable renaming decide->Lf
open Int renaming toNat->Lg
open Go.Proofs.Tryz
namespace Go.Proofs.YtgedmeaemofdkaaGreat
open Go.Sx
def Z1K(l:List Int)(r:Int):Int:=numB l r-1
def ZeR{α β:Type}[Inhabited α](f:α->β){l:List α}{i:Nat}(hi:i<l.length):(l.take (i+1)).map f=(l.take i).map f++[f (l.getD i La)]:=by
 rw[List.take_succ,Li,Lh hi,Lm,Lh hi];rfl
def ogB(h:Heap)(l rs:List Int)(ns:List NodeG):List (Nat×Blk):=[(32008,.box 42 [.ow 33008,.ow 34008]),(34008,.arr 54 4 (ns.map NodeG.dv)),(33008,.arr 3 1 (rs.map idv)),(19020,.arr 35 1 (l.map wdv)),(18020,.mp l),(17020,.box 105 [Z01 (Z04 h).1,.pt 18020 0 99999,.ow 19020]),(8004,.box 42 [.ow 9004,.ow 10004]),(10004,.arr 54 4 []),(9004,.arr 3 1 []),(8002,.box 28 [int h.C.pw,int h.C.pg,.d (.sl 1 (h.W.map wdv)),.d (.sl 4 (h.P.map Page.dv)),int h.S,int h.B])]
def ogL(h:Heap)(l roots:List Int)(i:Nat):Tg:=⟨tm 79 [(2,.pt 8002 0 0),(4,.pt 8004 0 0),(5,int 0),(6,.pt 17020 0 0),(8,.pt 32008 0 0),(27,Z01 roots),(28,int roots.length),(29,int i)],ogB h l ((roots.take i).map (Z1K l)) [],6⟩
def onL(h:Heap)(l roots:List Int)(k:Nat):Tg:=⟨tm 79 [(2,.pt 8002 0 0),(4,.pt 8004 0 0),(5,int 0),(6,.pt 17020 0 0),(8,.pt 32008 0 0),(54,.ow 19020),(55,int l.length),(56,int k)],ogB h l (roots.map (Z1K l)) ((l.take k).map (Z2O h l)),8⟩
section
variable (h:Heap) (l roots:List Int) (O:OrdL h roots l) (hw:WOk h.W) (hl:roots.length<=1000)
include O hw hl
omit hw in
theorem Zna(i:Nat)(hi:i<roots.length):CP (rndF f20 0) (ogL h l roots i).st .nrm (ogL h l roots (i+1)).st:=by
 have ll:=O.len;have e0:(roots.take i).length=i:=by rw[Ln];omega
 have e7:=ZeR (Z1K l) hi;by_cases c:roots.getD i La∈l
 .have e8:Z1K l (roots.getD i La)=mpV l (roots.getD i La):=by rw[Z1K,numB,if_pos c,mpV,if_pos c];omega
  unfold ogL ogB;rw[e7,e8];have Q0 {h_ c_ p_} (r_:Fq h_ c_ p_):=Ftb 30 (Lf ((i:Int)<(roots.length:Int))) (Fek 31 wdv roots (↑i) i r_);rcases bb (!mpC l (roots.getD i La))with hc0 | hc0<;>have hc0p:=hc0<;>simp only[bs]at hc0p
  .exact sF [(88048,33008)] (fO 10) (Fh 48 [.els (M idv (M (Z1K l) (Lc i roots)++[(-1:Int)]))] (Q0 (Ft 43 hc0 (Fs 47 (M idv [(-1:Int)]) (Fa (by(simp[mpC, *];omega):(M idv (M (Z1K l) (Lc i roots))).length+(M idv [(-1:Int)]).length<=2^30) (Fa (by simp[mpC,Ll,Lj,Lk,Li,wdv,idv]:M idv (M (Z1K l) (Lc i roots))++M idv [(-1:Int)]=M idv (M (Z1K l) (Lc i roots)++[(-1:Int)])) (Fx 50 i (Fr (3:Int) (Fa (by refine congrArg _ ?_;grind[mpC]:M idv (M (Z1K l) (Lc i roots)++[(-1:Int)])=M idv (M (Z1K l) (Lc i roots)++[mpV l (roots.getD i La)])) Fz)))))))))
  .exact sF [(80048,33008)] [] (Fh 48 [.els (M idv (M (Z1K l) (Lc i roots)++[mpV l (roots.getD i La)]))] (Q0 (Ff 43 hc0 (Fs 47 (M idv [mpV l (roots.getD i La)]) (Fa (by(simp[mpC, *];omega):(M idv (M (Z1K l) (Lc i roots))).length+(M idv [mpV l (roots.getD i La)]).length<=2^30) (Fa (by simp[mpC,Ll,Lj,Lk,Li,wdv,idv]:M idv (M (Z1K l) (Lc i roots))++M idv [mpV l (roots.getD i La)]=M idv (M (Z1K l) (Lc i roots)++[mpV l (roots.getD i La)])) (Fx 50 i Fz)))))))
 .have e8:Z1K l (roots.getD i La)=-1:=by rw[Z1K,numB,if_neg c];rfl
  unfold ogL ogB;rw[e7,e8];have Q1 {h_ c_ p_} (r_:Fq h_ c_ p_):=Ftb 30 (Lf ((i:Int)<(roots.length:Int))) (Fek 31 wdv roots (↑i) i r_);rcases bb (!mpC l (roots.getD i La))with hc0 | hc0<;>have hc0p:=hc0<;>simp only[bs]at hc0p
  .exact sF [(88048,33008)] [] (Fh 48 [.els (M idv (M (Z1K l) (Lc i roots)++[(-1:Int)]))] (Q1 (Ft 43 hc0 (Fs 47 (M idv [(-1:Int)]) (Fa (by(simp[mpC, *];omega):(M idv (M (Z1K l) (Lc i roots))).length+(M idv [(-1:Int)]).length<=2^30) (Fa (by simp[mpC,Ll,Lj,Lk,Li,wdv,idv]:M idv (M (Z1K l) (Lc i roots))++M idv [(-1:Int)]=M idv (M (Z1K l) (Lc i roots)++[(-1:Int)])) (Fx 50 i Fz)))))))
  .exact sF [(80048,33008)] (fO 10) (Fh 48 [.els (M idv (M (Z1K l) (Lc i roots)++[mpV l (roots.getD i La)]))] (Q1 (Ff 43 hc0 (Fs 47 (M idv [mpV l (roots.getD i La)]) (Fa (by(simp[mpC, *];omega):(M idv (M (Z1K l) (Lc i roots))).length+(M idv [mpV l (roots.getD i La)]).length<=2^30) (Fa (by simp[mpC,Ll,Lj,Lk,Li,wdv,idv]:M idv (M (Z1K l) (Lc i roots))++M idv [mpV l (roots.getD i La)]=M idv (M (Z1K l) (Lc i roots)++[mpV l (roots.getD i La)])) (Fx 50 i (Fr (3:Int) (Fa (by refine congrArg _ ?_;grind[mpC]:M idv (M (Z1K l) (Lc i roots)++[mpV l (roots.getD i La)])=M idv (M (Z1K l) (Lc i roots)++[(-1:Int)])) Fz)))))))))
omit O hw hl in
theorem Zoq:CP (rndF f20 0) (ogL h l roots roots.length).st (.ext 0) (Tg.st ⟨tm 79 [(2,.pt 8002 0 0),(4,.pt 8004 0 0),(5,int 0),(6,.pt 17020 0 0),(8,.pt 32008 0 0)],ogB h l (roots.map (Z1K l)) [],6⟩):=by
 have e:roots.take roots.length=roots:=Lo;unfold ogL ogB;rw[e];exact sF [] [] (Ffb 30 (Lf ((roots.length:Int)<(roots.length:Int))) Fz)
theorem ZnO:CP (blkF f20 0) (Tg.st ⟨tm 79 [(2,.pt 8002 0 0),(4,.pt 8004 0 0),(5,int 0),(6,.pt 17020 0 0),(8,.pt 32008 0 0),(27,Z01 roots),(28,int roots.length),(29,int 0)],[(32008,.box 42 [.ow 33008,.ow 34008]),(34008,.arr 54 4 []),(33008,.arr 3 1 []),(19020,.arr 35 1 (l.map wdv)),(18020,.mp l),(17020,.box 105 [Z01 (Z04 h).1,.pt 18020 0 99999,.ow 19020]),(8004,.box 42 [.ow 9004,.ow 10004]),(10004,.arr 54 4 []),(9004,.arr 3 1 []),(8002,.box 28 [int h.C.pw,int h.C.pg,.d (.sl 1 (h.W.map wdv)),.d (.sl 4 (h.P.map Page.dv)),int h.S,int h.B])],6⟩) .nrm (Tg.st ⟨tm 79 [(2,.pt 8002 0 0),(4,.pt 8004 0 0),(5,int 0),(6,.pt 17020 0 0),(8,.pt 32008 0 0)],ogB h l (roots.map (Z1K l)) [],6⟩) :=
 Z09 (S:=λi=>(ogL h l roots i).st) roots.length kr (λi hi=>Zna h l roots O hl i hi) (Zoq h l roots)
theorem ZlG(k:Nat)(hk:k<l.length):CP (rndF f20 2) (onL h l roots k).st .nrm (onL h l roots (k+1)).st:=by
 have ll:=O.len;have hp:=O.p;have n0:=O.n0;have am:=getD_mem_iff.2 ⟨k,hk,rfl⟩;have ha:=O.el _ am;have cl:=O.cl _ am;have ox:=Z0Y h _ ha;have e0:(l.take k).length=k:=by rw[Ln];omega
 have e7:=ZeR (Z2O h l) hk;unfold onL ogB;rw[e7];let y0:=l.getD k La;exact sF [(96075,34008)] [] (Fh 75 [.els (M NodeG.dv (M (Z2O h l) (Lc k l)++[NodeG.mk (atH h y0).1 (Z2O h l y0).fs]))] (Ftb 57 (Lf ((k:Int)<(l.length:Int))) (Fm 59 wdv l (↑k) k (Fbq 64 [17020,18020,19020] (@Zno h ((Z04 h).1) l y0 aa aa aa aa aa aa) (Fs 74 (M NodeG.dv [NodeG.mk (atH h y0).1 (Z2O h l y0).fs]) (Fa (by(simp[*];omega):(M NodeG.dv (M (Z2O h l) (Lc k l))).length+(M NodeG.dv [NodeG.mk (atH h y0).1 (Z2O h l y0).fs]).length<=2^30) (Fa (ms:M NodeG.dv (M (Z2O h l) (Lc k l))++M NodeG.dv [NodeG.mk (atH h y0).1 (Z2O h l y0).fs]=M NodeG.dv (M (Z2O h l) (Lc k l)++[NodeG.mk (atH h y0).1 (Z2O h l y0).fs])) (Fx 77 k Fz))))))))
omit O hw hl in
theorem Zop:CP (rndF f20 2) (onL h l roots l.length).st (.ext 2) (Tg.st ⟨tm 79 [(4,.pt 8004 0 0),(5,int 0),(8,.pt 32008 0 0)],ogB h l (roots.map (Z1K l)) (l.map (Z2O h l)),8⟩):=by
 have e:l.take l.length=l:=Lo;unfold onL ogB;rw[e];exact sF [] [] (Ffb 57 (Lf ((l.length:Int)<(l.length:Int))) Fz)
def Zo6  := Z09 (S:=λk=>(onL h l roots k).st) l.length (by kernel_rfl) (λk hk=>ZlG h l roots O hw hl k hk) (Zop h l roots)
end
section
variable (h:Heap) (roots:List Int) (hw:WOk h.W) (hl:roots.length<=1000) (hr:ULe roots)
include hw hl hr
theorem Zh7(e:(Z0n h roots).2=0):GP 20 [h.av,Z01 roots] Ld (.tu [.ag [Z0V (roots.map (Z1K (Z0n h roots).1)),.d (.sl 4 (((Z0n h roots).1.map (Z2O h (Z0n h roots).1)).map NodeG.dv))],int 0]) []:=by
 have ol:=Zcj h roots hw hl hr e;exact gF [] func20 [] (Fh 4 [.gh 3 1,.int 0,.gh 54 4,.int 1] (Fh 8 [.gh 3 1,.int 0,.gh 54 4,.int 1] (Fbr 20 [] (@Z9p h roots aa aa aa aa) (Fl 28 wdv roots (Fu (@ZnO h ((Z0n h roots).1) roots aa aa aa) (Fl 55 wdv (Z0n h roots).1 (Fu (@Zo6 h ((Z0n h roots).1) roots aa aa aa) Fz)))))))
end
def SpOk(l:List Page):Prop:=∀ p∈l,p.S=0\/p.S=1
def SpOk.at{l:List Page}(h:SpOk l){i:Nat}(hi:i<l.length):(l.getD i La).S=0\/(l.getD i La).S=1:=by
 rw[Lm,Lh hi];exact h _ (List.getElem_mem hi)
def SpOk.set{l:List Page}(h:SpOk l)(i:Nat){p:Page}(hp:p.S=0\/p.S=1):SpOk (l.set i p):=λq hq=>by
 rcases List.mem_or_eq_of_mem_set hq with q1 | q1
 .exact h q q1
 .rw[q1];exact hp
def SpOk.begin{h:Heap}(hp:Z03 h=Lb):SpOk (beginW h).heap.P:=λp hq=>by
 have po:=Z07 hp;simp only[beginW,List.mem_map]at hq;obtain⟨q,hq,rfl⟩:=hq;obtain⟨i,hi,rfl⟩:=List.getElem_of_mem hq;have pp:=Z0K hp hi;rw[Lm,Lh hi,Option.getD_some]at pp;unfold begQ;split
 .simp only;omega
 .omega
def Work.took(w:Work):Work:=⟨⟨w.heap.C,w.heap.W,Z2w w,w.heap.S,w.heap.B⟩,w.old,w.T++[Z0q w],w.Q,w.D,w.rep⟩
def Zbp{ρ:Rho}{w:World}{Im:Nat->Prop}{v:Value}(s:Nat)(h:Rel ρ w Im (.d (.sl 0 [])) v):Rel ρ w Im (.d (.sl s [])) v:=by
 cases h with
 | d h =>
  cases h with
  | slNil=>exact .d (.slNil _ _ _)
  | sl _ _ p n c f hn=>cases hn;exact .d (.slNil _ _ _)
def hA8:Heap:=⟨⟨32,8⟩,Le 256 0,Le 8 ⟨0,0,0,0⟩,0,-1⟩
def hB8:Heap:=(⟨⟨32,8⟩,(Le 256 0).set 0 25,[⟨1,0,2,0⟩,⟨0,0,0,0⟩,⟨0,0,0,0⟩,⟨0,0,0,0⟩,⟨0,0,0,0⟩,⟨0,0,0,0⟩,⟨0,0,0,0⟩,⟨0,0,0,0⟩],0,0⟩:Heap)
def hC8:Heap:=(⟨⟨32,8⟩,((Le 256 0).set 0 25).set 1 4096,[⟨1,0,2,0⟩,⟨0,0,0,0⟩,⟨0,0,0,0⟩,⟨0,0,0,0⟩,⟨0,0,0,0⟩,⟨0,0,0,0⟩,⟨0,0,0,0⟩,⟨0,0,0,0⟩],0,0⟩:Heap)
def ZcY:Z0A []=⟨hA8,[],[]⟩:=by kernel_rfl
def ZjY:(⟨hA8,[],[]⟩:WorldM).put ⟨2,1,0⟩=⟨hB8,[4096],[]⟩:=by kernel_rfl
def Znt:Z0p hB8 4096 0 4096=(hC8,0):=by kernel_rfl
def ZeK:Z0n hC8 [4096]=([4096],0):=by kernel_rfl
def Zm2:[4096].map (Z2O hC8 [4096])=[⟨⟨2,1,0⟩,[1]⟩]:=by kernel_rfl
def Zmm:[4096].map (Z1K [4096])=[0]:=by kernel_rfl
def Zjr:WOk hB8.W:=by unfold WOk;decide+kernel
def ZjE:WOk hC8.W:=by unfold WOk;decide+kernel
def ZjU:GP 15 [.d (.sl 0 [])] Ld (⟨(⟨⟨32,8⟩,Le 256 0,Le 8 ⟨0,0,0,0⟩,0,-1⟩:Heap),[],[]⟩:WorldM).av []:=by
 have k:=Zff [] pq;rw[ZcY]at k;intro w Im vs hIm hsz h;refine k w Im vs hIm hsz λi x v hx hv=>?_;rcases i with _ | i
 .cases hx;exact Zbp 1 (h 0 _ v rfl hv)
 .simp at hx
def Zmg:GP 58 [.ag [int 32,int 8,.d (.sl 1 ((Le 256 0).map wdv)),.d (.sl 4 ((Le 8 (⟨0,0,0,0⟩:Page)).map Page.dv)),int 0,int (-1),.d (.sl 0 []),.d (.sl 0 [])],.ag [int 2,int 1,.d (.sc (.int .u32 0))]] Ld (⟨(⟨⟨32,8⟩,(Le 256 0).set 0 25,[⟨1,0,2,0⟩,⟨0,0,0,0⟩,⟨0,0,0,0⟩,⟨0,0,0,0⟩,⟨0,0,0,0⟩,⟨0,0,0,0⟩,⟨0,0,0,0⟩,⟨0,0,0,0⟩],0,0⟩:Heap),[4096],[]⟩:WorldM).av []:=by
 have hm:=Zfi [];rw[ZcY]at hm;have k:=Z6a ⟨hA8,[],[]⟩ ⟨2,1,0⟩ (hm.wm dd) dd;rw[ZjY]at k;intro w Im vs hIm hsz h;refine k w Im vs hIm hsz λi x v hx hv=>?_;rcases i with _ | _ | i
 .cases hx;obtain⟨cs,rfl,h2,h3,h4⟩:=Z38 (h 0 _ v rfl hv);refine .ag _ _ h2 h3 (λi a u ha hu=>?_);rcases i with _ | _ | _ | _ | _ | _ | _ | _ | i
  .cases ha;exact h4 0 _ u rfl hu
  .cases ha;exact h4 1 _ u rfl hu
  .cases ha;exact h4 2 _ u rfl hu
  .cases ha;exact h4 3 _ u rfl hu
  .cases ha;exact h4 4 _ u rfl hu
  .cases ha;exact h4 5 _ u rfl hu
  .cases ha;exact Zbp 1 (h4 6 _ u rfl hu)
  .cases ha;exact Zbp 1 (h4 7 _ u rfl hu)
  .cases (show(none:Option AV)=some a from ha)
 .cases hx;exact h 1 _ v rfl hv
 .simp at hx
def Zoo:GP 59 [(⟨⟨32,8⟩,(Le 256 0).set 0 25,[⟨1,0,2,0⟩,⟨0,0,0,0⟩,⟨0,0,0,0⟩,⟨0,0,0,0⟩,⟨0,0,0,0⟩,⟨0,0,0,0⟩,⟨0,0,0,0⟩,⟨0,0,0,0⟩],0,0⟩:Heap).av,u64 4096,int 0,u64 4096] Ld (.tu [(⟨⟨32,8⟩,((Le 256 0).set 0 25).set 1 4096,[⟨1,0,2,0⟩,⟨0,0,0,0⟩,⟨0,0,0,0⟩,⟨0,0,0,0⟩,⟨0,0,0,0⟩,⟨0,0,0,0⟩,⟨0,0,0,0⟩,⟨0,0,0,0⟩],0,0⟩:Heap).av,int 0]) []:=by
 have k:=Z4z hB8 4096 0 4096 Zjr dd;rw[Znt]at k;exact k
def ofC8:GP 20 [(⟨⟨32,8⟩,((Le 256 0).set 0 25).set 1 4096,[⟨1,0,2,0⟩,⟨0,0,0,0⟩,⟨0,0,0,0⟩,⟨0,0,0,0⟩,⟨0,0,0,0⟩,⟨0,0,0,0⟩,⟨0,0,0,0⟩,⟨0,0,0,0⟩],0,0⟩:Heap).av,.d (.sl 1 ([4096].map wdv))] Ld (.tu [.ag [.d (.sl 1 ([0].map idv)),.d (.sl 4 ([(⟨⟨2,1,0⟩,[1]⟩:NodeG)].map NodeG.dv))],int 0]) []:=by
 have k:=Zh7 hC8 [4096] ZjE dd (by intro x hx;rw[List.mem_singleton.1 hx];decide) (by rw[ZeK]);rw[ZeK]at k;simp only at k;rw[Zm2,Zmm]at k;exact k
def ZhI:GP 19 [] Lb (bool Lb) []:=by
 exact gF [] func19 [] (Fh 20 [.el (wdv ((WorldM.mk (Heap.mk (Conf.mk 32 8) ((Le 256 0).set 0 25) [Page.mk 1 0 2 0,Page.mk 0 0 0 0,Page.mk 0 0 0 0,Page.mk 0 0 0 0,Page.mk 0 0 0 0,Page.mk 0 0 0 0,Page.mk 0 0 0 0,Page.mk 0 0 0 0] 0 0) [4096] []).G.getD 0 La))] (Fh 24 [.el (wdv ((WorldM.mk (Heap.mk (Conf.mk 32 8) ((Le 256 0).set 0 25) [Page.mk 1 0 2 0,Page.mk 0 0 0 0,Page.mk 0 0 0 0,Page.mk 0 0 0 0,Page.mk 0 0 0 0,Page.mk 0 0 0 0,Page.mk 0 0 0 0,Page.mk 0 0 0 0] 0 0) [4096] []).G.getD 0 La))] (Fh 4 [.gh 3 1,.int 0,.gh 54 4,.int 1] (Fh 47 [.el (NodeG.mk (Header.mk 2 1 0) [1]).dv] (Fh 56 [.el (NodeG.mk (Header.mk 2 1 0) [1]).dv] (Fh 59 [.el (wdv ((NodeG.mk (Header.mk 2 1 0) [1]).fs.getD 0 La))] (Fh 72 [.el (idv 0)] (Fc 6 (@ZjU) (Fc 10 (@Zmg) (Fa (by simp[*]:(0:Int)<=0/\(M wdv (WorldM.mk (Heap.mk (Conf.mk 32 8) ((Le 256 0).set 0 25) [Page.mk 1 0 2 0,Page.mk 0 0 0 0,Page.mk 0 0 0 0,Page.mk 0 0 0 0,Page.mk 0 0 0 0,Page.mk 0 0 0 0,Page.mk 0 0 0 0,Page.mk 0 0 0 0] 0 0) [4096] []).G)[Lg 0]? = some (wdv ((WorldM.mk (Heap.mk (Conf.mk 32 8) ((Le 256 0).set 0 25) [Page.mk 1 0 2 0,Page.mk 0 0 0 0,Page.mk 0 0 0 0,Page.mk 0 0 0 0,Page.mk 0 0 0 0,Page.mk 0 0 0 0,Page.mk 0 0 0 0,Page.mk 0 0 0 0] 0 0) [4096] []).G.getD 0 La))) (Fa (by simp[*]:(0:Int)<=0/\(M wdv (WorldM.mk (Heap.mk (Conf.mk 32 8) ((Le 256 0).set 0 25) [Page.mk 1 0 2 0,Page.mk 0 0 0 0,Page.mk 0 0 0 0,Page.mk 0 0 0 0,Page.mk 0 0 0 0,Page.mk 0 0 0 0,Page.mk 0 0 0 0,Page.mk 0 0 0 0] 0 0) [4096] []).G)[Lg 0]? = some (wdv ((WorldM.mk (Heap.mk (Conf.mk 32 8) ((Le 256 0).set 0 25) [Page.mk 1 0 2 0,Page.mk 0 0 0 0,Page.mk 0 0 0 0,Page.mk 0 0 0 0,Page.mk 0 0 0 0,Page.mk 0 0 0 0,Page.mk 0 0 0 0,Page.mk 0 0 0 0] 0 0) [4096] []).G.getD 0 La))) (Fc 26 (@Zoo) (Fc 33 (@ofC8) (Fa (by intro hg;(try simp only[bs]at hg);simp[*]:((0:Int)==0&&(↑(M NodeG.dv [NodeG.mk (Header.mk 2 1 0) [1]]).length:Int)==1)=Lb->(0:Int)<=0/\(M NodeG.dv [NodeG.mk (Header.mk 2 1 0) [1]])[Lg 0]? = some (NodeG.mk (Header.mk 2 1 0) [1]).dv) (Fa (by intro hg;(try simp only[bs]at hg);simp[*]:((0:Int)==0&&(↑(M NodeG.dv [NodeG.mk (Header.mk 2 1 0) [1]]).length:Int)==1&&(↑(M wdv (NodeG.mk (Header.mk 2 1 0) [1]).fs).length:Int)==1)=Lb->(0:Int)<=0/\(M NodeG.dv [NodeG.mk (Header.mk 2 1 0) [1]])[Lg 0]? = some (NodeG.mk (Header.mk 2 1 0) [1]).dv) (Fa (by intro hg;(try simp only[bs]at hg);simp[*]:((0:Int)==0&&(↑(M NodeG.dv [NodeG.mk (Header.mk 2 1 0) [1]]).length:Int)==1&&(↑(M wdv (NodeG.mk (Header.mk 2 1 0) [1]).fs).length:Int)==1)=Lb->(0:Int)<=0/\(M wdv (NodeG.mk (Header.mk 2 1 0) [1]).fs)[Lg 0]? = some (wdv ((NodeG.mk (Header.mk 2 1 0) [1]).fs.getD 0 La))) (Fa (by intro hg;(try simp only[bs]at hg);simp[*]:((0:Int)==0&&(↑(M NodeG.dv [NodeG.mk (Header.mk 2 1 0) [1]]).length:Int)==1&&(↑(M wdv (NodeG.mk (Header.mk 2 1 0) [1]).fs).length:Int)==1&&(NodeG.mk (Header.mk 2 1 0) [1]).fs.getD 0 La==1&&(↑(M idv [0]).length:Int)==1)=Lb->(0:Int)<=0/\(M idv [0])[Lg 0]? = some (idv 0)) Fz)))))))))))))))))
def reA(w:WorldM)(l:List Int)(i:Nat):Tg:=⟨tm 120 [(2,bool Ld),(3,.pt 16003 0 0),(4,Z01 l),(6,int i)],[(16003,.box 30 [int w.heap.C.pw,int w.heap.C.pg,.d (.sl 1 (w.heap.W.map wdv)),.d (.sl 4 (w.heap.P.map Page.dv)),int w.heap.S,int w.heap.B,.d (.sl 1 (w.G.map wdv)),.d (.sl 1 (w.E.map wdv))])],6⟩
def whyN(h:Heap)(roots l:List Int)(i:Nat):Nat->Bool
 | 0=>Lf (l.getD i La∈roots)
 | n+1=>whyN h roots l i n||Lf (l.getD i La∈Z0k h (l.getD n La))
def ZmH{h:Heap}{roots l:List Int}{i:Nat}(W:Why h roots l i):whyN h roots l i i=Lb:=by
 have up:∀ n m,whyN h roots l i n=Lb->whyN h roots l i (n+m)=Lb:=by
  intro n m e;induction m with
  | zero=>exact e
  | succ m ih=>show(whyN h roots l i (n+m)||_)=Lb;rw[ih];rfl
 rcases W with W | ⟨k,k1,k2⟩
 .have:=up 0 i (by simpa[whyN]using W);rwa [Nat.zero_add]at this
 .have:=up (k+1) (i-(k+1)) (by rw[whyN,decide_eq_true k2,Bool.or_true]);rwa [show k+1+(i-(k+1))=i from by omega]at this
section
variable (w:WorldM) (l:List Int) (hw:WOk w.heap.W) (sl:w.G.length<=1000) (O:OrdL w.heap w.G l) (W:∀ i,i<l.length->Why w.heap w.G l i)
include hw sl O W
theorem ZjB(i:Nat)(hi:i<w.G.length):CP (rndF f3 0) (reA w l i).st .nrm (reA w l (i+1)).st:=by
 have ll:=O.len;have r:=O.rt _ (getD_mem_iff.2 ⟨i,hi,rfl⟩);exact sF [] [] (FN 27 28 34 wdv w.G i (FeG 42 (w.G.getD i La != 0) wdv w.G (↑i) i (FcG 44 (w.G.getD i La != 0) (λhg=>by(try simp only[bs]at hg);exact @Z0H l (w.G.getD i La) oq) (Ffb 46 (w.G.getD i La != 0&&!decide (w.G.getD i La∈l)) (Fx 30 i Fz)))))
omit hw sl O W in
theorem Znf:CP (rndF f3 0) (reA w l w.G.length).st (.ext 0) (Tg.st ⟨tm 120 [(2,bool Ld),(3,.pt 16003 0 0),(4,Z01 l)],[(16003,.box 30 [int w.heap.C.pw,int w.heap.C.pg,.d (.sl 1 (w.heap.W.map wdv)),.d (.sl 4 (w.heap.P.map Page.dv)),int w.heap.S,int w.heap.B,.d (.sl 1 (w.G.map wdv)),.d (.sl 1 (w.E.map wdv))])],6⟩):=by
 exact sF [] [] (FO 27 28 wdv w.G Fz)
theorem Zmn:CP (blkF f3 0) (Tg.st ⟨tm 120 [(2,bool Ld),(3,.pt 16003 0 0),(4,Z01 l),(6,int 0)],[(16003,.box 30 [int w.heap.C.pw,int w.heap.C.pg,.d (.sl 1 (w.heap.W.map wdv)),.d (.sl 4 (w.heap.P.map Page.dv)),int w.heap.S,int w.heap.B,.d (.sl 1 (w.G.map wdv)),.d (.sl 1 (w.E.map wdv))])],6⟩) .nrm (Tg.st ⟨tm 120 [(2,bool Ld),(3,.pt 16003 0 0),(4,Z01 l)],[(16003,.box 30 [int w.heap.C.pw,int w.heap.C.pg,.d (.sl 1 (w.heap.W.map wdv)),.d (.sl 4 (w.heap.P.map Page.dv)),int w.heap.S,int w.heap.B,.d (.sl 1 (w.G.map wdv)),.d (.sl 1 (w.E.map wdv))])],6⟩) :=
 Z09 (S:=λi=>(reA w l i).st) w.G.length kr (λi hi=>ZjB w l hw sl O W i hi) (Znf w l)
def reC(w:WorldM)(l:List Int)(i n:Nat):Tg:=⟨tm 120 [(2,bool Ld),(3,.pt 16003 0 0),(4,Z01 l),(7,int i),(8,bool (whyN w.heap w.G l i n)),(9,int n)],[(16003,.box 30 [int w.heap.C.pw,int w.heap.C.pg,.d (.sl 1 (w.heap.W.map wdv)),.d (.sl 4 (w.heap.P.map Page.dv)),int w.heap.S,int w.heap.B,.d (.sl 1 (w.G.map wdv)),.d (.sl 1 (w.E.map wdv))])],10⟩
theorem ZjN(i n:Nat)(hi:i<l.length)(hn:n<i):CP (rndF f3 4) (reC w l i n).st .nrm (reC w l i (n+1)).st:=by
 have ll:=O.len;have hp:=O.p;have ao:=O.el _ (getD_mem_iff.2 ⟨n,by omega,rfl⟩);have ar:=Z0Y _ _ ao;have rl:=Zce w.heap (l.getD n La);have ai:=Z0Y _ _ (O.el _ (getD_mem_iff.2 ⟨i,hi,rfl⟩));by_cases c:whyN w.heap w.G l i n=Lb
 .have e7:whyN w.heap w.G l i (n+1)=Lb:=by rw[whyN,c];rfl
  unfold reC;rw[e7,c];exact sF [] [] (Ftb 62 (Lf ((n:Int)<(i:Int))) (FeG 71 (!true) wdv l (↑n) n (FcG 73 (!true) (λhg=>by(try simp only[bs]at hg);exact @Z5w w.heap (l.getD n La) aa aa aa) (FeG 76 (!true) wdv l (↑i) i (FcG 78 (!true) (λhg=>by(try simp only[bs]at hg);exact @Z0H (Z0k w.heap (l.getD n La)) (l.getD i La) oq) (Fx 64 n Fz))))))
 .have c:whyN w.heap w.G l i n=Ld:=by simpa using c
  have e7:whyN w.heap w.G l i (n+1)=Lf (l.getD i La∈Z0k w.heap (l.getD n La)):=by rw[whyN,c];rfl
  unfold reC;rw[e7,c];exact sF [] [] (Ftb 62 (Lf ((n:Int)<(i:Int))) (FeG 71 (!false) wdv l (↑n) n (FcG 73 (!false) (λhg=>by(try simp only[bs]at hg);exact @Z5w w.heap (l.getD n La) aa aa aa) (FeG 76 (!false) wdv l (↑i) i (FcG 78 (!false) (λhg=>by(try simp only[bs]at hg);exact @Z0H (Z0k w.heap (l.getD n La)) (l.getD i La) oq) (Fx 64 n Fz))))))
omit hw sl O W in
theorem Zoa(i:Nat)(wy:whyN w.heap w.G l i i=Lb):CP (rndF f3 4) (reC w l i i).st (.ext 4) (Tg.st ⟨tm 120 [(2,bool Ld),(3,.pt 16003 0 0),(4,Z01 l),(7,int i),(8,bool Lb)],[(16003,.box 30 [int w.heap.C.pw,int w.heap.C.pg,.d (.sl 1 (w.heap.W.map wdv)),.d (.sl 4 (w.heap.P.map Page.dv)),int w.heap.S,int w.heap.B,.d (.sl 1 (w.G.map wdv)),.d (.sl 1 (w.E.map wdv))])],10⟩):=by
 unfold reC;rw[wy];exact sF [] [] (Ffb 62 (Lf ((i:Int)<(i:Int))) Fz)
theorem ZlB(i:Nat)(hi:i<l.length):CP (blkF f3 4) (Tg.st ⟨tm 120 [(2,bool Ld),(3,.pt 16003 0 0),(4,Z01 l),(7,int i),(8,bool (Lf (l.getD i La∈w.G))),(9,int 0)],[(16003,.box 30 [int w.heap.C.pw,int w.heap.C.pg,.d (.sl 1 (w.heap.W.map wdv)),.d (.sl 4 (w.heap.P.map Page.dv)),int w.heap.S,int w.heap.B,.d (.sl 1 (w.G.map wdv)),.d (.sl 1 (w.E.map wdv))])],10⟩) .nrm (Tg.st ⟨tm 120 [(2,bool Ld),(3,.pt 16003 0 0),(4,Z01 l),(7,int i),(8,bool Lb)],[(16003,.box 30 [int w.heap.C.pw,int w.heap.C.pg,.d (.sl 1 (w.heap.W.map wdv)),.d (.sl 4 (w.heap.P.map Page.dv)),int w.heap.S,int w.heap.B,.d (.sl 1 (w.G.map wdv)),.d (.sl 1 (w.E.map wdv))])],10⟩) :=
 Z09 (S:=λn=>(reC w l i n).st) i kr (λn hn=>ZjN w l hw sl O W i n hi hn) (Zoa w l i (ZmH (W i hi)))
def reD(w:WorldM)(l rf:List Int)(i n:Nat):Tg:=⟨tm 120 [(2,bool Ld),(3,.pt 16003 0 0),(4,Z01 l),(7,int i),(8,bool Lb),(10,Z01 rf),(11,int n)],[(16003,.box 30 [int w.heap.C.pw,int w.heap.C.pg,.d (.sl 1 (w.heap.W.map wdv)),.d (.sl 4 (w.heap.P.map Page.dv)),int w.heap.S,int w.heap.B,.d (.sl 1 (w.G.map wdv)),.d (.sl 1 (w.E.map wdv))])],12⟩
theorem Zjq(rf:List Int)(i n:Nat)(hr:∀ v∈rf,v=0\/v∈l)(hl:rf.length<=255)(hn:n<rf.length):CP (rndF f3 6) (reD w l rf i n).st .nrm (reD w l rf i (n+1)).st:=by
 have ll:=O.len;have r:=hr _ (getD_mem_iff.2 ⟨n,hn,rfl⟩);exact sF [] [] (FN 89 90 95 wdv rf n (FeG 102 (rf.getD n La != 0) wdv rf (↑n) n (FcG 104 (rf.getD n La != 0) (λhg=>by(try simp only[bs]at hg);exact @Z0H l (rf.getD n La) oq) (Ffb 106 (rf.getD n La != 0&&!decide (rf.getD n La∈l)) (Fx 92 n Fz)))))
omit hw sl O W in
theorem Zne(rf:List Int)(i:Nat):CP (rndF f3 6) (reD w l rf i rf.length).st (.ext 6) (Tg.st ⟨tm 120 [(2,bool Ld),(3,.pt 16003 0 0),(4,Z01 l),(7,int i),(8,bool Lb)],[(16003,.box 30 [int w.heap.C.pw,int w.heap.C.pg,.d (.sl 1 (w.heap.W.map wdv)),.d (.sl 4 (w.heap.P.map Page.dv)),int w.heap.S,int w.heap.B,.d (.sl 1 (w.G.map wdv)),.d (.sl 1 (w.E.map wdv))])],12⟩):=by
 exact sF [] [] (FO 89 90 wdv rf Fz)
theorem Zn5(rf:List Int)(i:Nat)(hr:∀ v∈rf,v=0\/v∈l)(hl:rf.length<=255):CP (blkF f3 6) (Tg.st ⟨tm 120 [(2,bool Ld),(3,.pt 16003 0 0),(4,Z01 l),(7,int i),(8,bool Lb),(10,Z01 rf),(11,int 0)],[(16003,.box 30 [int w.heap.C.pw,int w.heap.C.pg,.d (.sl 1 (w.heap.W.map wdv)),.d (.sl 4 (w.heap.P.map Page.dv)),int w.heap.S,int w.heap.B,.d (.sl 1 (w.G.map wdv)),.d (.sl 1 (w.E.map wdv))])],12⟩) .nrm (Tg.st ⟨tm 120 [(2,bool Ld),(3,.pt 16003 0 0),(4,Z01 l),(7,int i),(8,bool Lb)],[(16003,.box 30 [int w.heap.C.pw,int w.heap.C.pg,.d (.sl 1 (w.heap.W.map wdv)),.d (.sl 4 (w.heap.P.map Page.dv)),int w.heap.S,int w.heap.B,.d (.sl 1 (w.G.map wdv)),.d (.sl 1 (w.E.map wdv))])],12⟩) :=
 Z09 (S:=λn=>(reD w l rf i n).st) rf.length kr (λn hn=>Zjq w l hw sl O W rf i n hr hl hn) (Zne w l rf i)
def reB(w:WorldM)(l:List Int)(i:Nat):Tg:=⟨tm 120 [(2,bool Ld),(3,.pt 16003 0 0),(4,Z01 l),(7,int i)],[(16003,.box 30 [int w.heap.C.pw,int w.heap.C.pg,.d (.sl 1 (w.heap.W.map wdv)),.d (.sl 4 (w.heap.P.map Page.dv)),int w.heap.S,int w.heap.B,.d (.sl 1 (w.G.map wdv)),.d (.sl 1 (w.E.map wdv))])],7⟩
theorem ZkE(i:Nat)(hi:i<l.length):CP (rndF f3 2) (reB w l i).st .nrm (reB w l (i+1)).st:=by
 have ll:=O.len;have am:=getD_mem_iff.2 ⟨i,hi,rfl⟩;have ao:=O.el _ am;have ar:=Z0Y _ _ ao;have hp:=O.p;have cl:=O.cl _ am;have rl:=Zce w.heap (l.getD i La);have nd:Lf (l.getD i La∈l.take i)=Ld:=by
  refine decide_eq_false λq=>?_;obtain⟨k,hk,e⟩:=getD_mem_iff.1 q;rw[Ln]at hk;simp only[Lm,List.getElem?_take,if_pos (show k<i by omega),Lh hi,Lh (show k<l.length by omega),Option.getD_some]at e;exact(List.pairwise_iff_getElem.1 O.nd) k i oq hi oq e
 exact sF [] [] (Fh 112 [.els (M wdv (Lc (i:Int).toNat l))] (FN 49 50 57 wdv l i (Fc 59 (@Z0H w.G (l.getD i La) oq) (Fu (@ZlB w l aa aa aa aa i aa) (Fek 84 wdv l (↑i) i (Fc 86 (@Z5w w.heap (l.getD i La) aa aa aa) (Fu (@Zn5 w l aa aa aa aa (Z0k w.heap (l.getD i La)) i aa aa) (Fa (by intro hg;(try simp only[bs]at hg);(simp only[List.length_map];omega):(!!true)=Lb->0<=(i:Int)/\(i:Int)<=(↑(M wdv l).length:Int)) (Fa (by intro hg;(try simp only[bs]at hg);simp[Ll,Lj,Lk,Li,wdv,idv]:(!!true)=Lb->Lc (i:Int).toNat (M wdv l)=M wdv (Lc (i:Int).toNat l)) (FeG 115 (!!true) wdv l (↑i) i (FcG 117 (!!true) (λhg=>by(try simp only[bs]at hg);exact @Z0H (Lc (i:Int).toNat l) (l.getD i La) (by(try simp only[bs]at hg);(simp[*];omega))) (Ff 118 (by exact nd:Lf (l.getD i La∈Lc (i:Int).toNat l)=Ld) (Fx 52 i Fz)))))))))))))
omit hw sl O W in
theorem Zo4:CP (rndF f3 2) (reB w l l.length).st (.ext 2) (Tg.st ⟨tm 120 [(2,bool Ld)],[],7⟩):=by
 exact sF [] [] (FO 49 50 wdv l Fz)
theorem ZmT:CP (blkF f3 2) (Tg.st ⟨tm 120 [(2,bool Ld),(3,.pt 16003 0 0),(4,Z01 l),(7,int 0)],[(16003,.box 30 [int w.heap.C.pw,int w.heap.C.pg,.d (.sl 1 (w.heap.W.map wdv)),.d (.sl 4 (w.heap.P.map Page.dv)),int w.heap.S,int w.heap.B,.d (.sl 1 (w.G.map wdv)),.d (.sl 1 (w.E.map wdv))])],7⟩) .nrm (Tg.st ⟨tm 120 [(2,bool Ld)],[],7⟩) :=
 Z09 (S:=λi=>(reB w l i).st) l.length kr (λi hi=>ZkE w l hw sl O W i hi) (Zo4 w l)
end
def Zkx(tape:List Int)(h1:tape.length<=140737488355328):GP 3 [Z0V tape] Lb (bool Lb) []:=by
 have hm:=Zfi tape;have hw:=hm.W;have sl:=hm.sl;have su:=hm.G;obtain⟨T,g,g1,g2⟩:=Zjy tape;have e:=g.order g1;have O:=Zcj _ _ hw sl su e;have W:=Zgp e;let y0:=Z0n (Z0A tape).heap (Z0A tape).G;exact gF [] func3 [] (Fc 13 (@Zff tape aa) (Fc 19 (@Zgj ((Z0A tape).heap) ((Z0A tape).G) aa aa aa) (Ffb 23 (y0.2 != 0) (Fu (@Zmn (Z0A tape) (y0.1) aa aa aa aa) (Fu (@ZmT (Z0A tape) (y0.1) aa aa aa aa) (Fc 119 (@ZhI) Fz))))))
end Go.Proofs.YtgedmeaemofdkaaGreat
namespace Go.Proofs.YtgedmeaemofdkaaGreat
open Go.Sx Go.RowKit
def Z71(os:Os)(started:os.Started)(H:Type)(enc:TypeId×Value->H) :
  ReturnsInHanded {} Tryz.checked os 3 .any (Rows.graphReachSpec.pre6 enc prog f3 Rows.graphReachRow.domain Ld) (Rows.graphReachSpec.post enc prog f3 Ld Lb Ld Ld):=by
 refine ZbK (C:=Tryz.checked) (tb:=4) 5 own0 started kr func3
  (ChangeSpec.witness6 (enc:=enc) (C:=Tryz.checked) Ld ⟨#[],#[.slice none 0 0],[]⟩ 8 kr kr kr kr)
  ZjV kr kr kr kr rfl (λds hd=>?_) (λls hl h=>?_)
 .match ds,hd with
  | [a0],_=>rfl
 .match ls,hl with
  | [l0],_ =>
   obtain⟨tape,rfl,htape⟩:=Zjj (n:=3) (h 0 22 l0 kr rfl);have e:Zb7 prog Tryz.f3.params.toList [[.sl 1 (tape.map idv)]]=[Z0V tape]:=by kernel_rfl
   exact⟨Lb,e▸Zkx tape htape⟩
def Zb8:(Rows.graphReachRow.inPlace==Tryz.prog.inPlace 3)=Lb:=by kernel_rfl
def Zbd:(Rows.graphReachRow.unfollowed==Tryz.prog.unfollowed 3)=Lb:=by kernel_rfl
def ZaA:(Rows.graphReachRow.recurses==Tryz.prog.recurses 3)=Lb:=by kernel_rfl
def ZaC:(Rows.graphReachRow.named==Tryz.prog.varsNamed 3)=Lb:=by kernel_rfl
def Z6O:joinedFacts prog 3 f3 Rows.graphReachSpec Rows.graphReachRow=Lb:=by
 unfold joinedFacts;rw[Zb8,Zbd,ZaA,ZaC];kernel_rfl
theorem graphReach_holds:Rows.GraphReachSaid :=
 OpenClaim.holds_of_wide 3 f3 rfl rfl rfl rfl rfl rfl rfl ⟨rfl,rfl,rfl,rfl,rfl⟩ rfl rfl rfl rfl rfl kr func3 Z6O
  (of_decide_eq_true kr) (by unfold Func.isWrapper;first | (rw[if_pos (by decide+kernel)];kernel_rfl) | (rw[if_neg (by decide+kernel)];exact⟨rfl,rfl⟩))
  (λos started H enc _=>Z71 os started H enc)
end Go.Proofs.YtgedmeaemofdkaaGreat
