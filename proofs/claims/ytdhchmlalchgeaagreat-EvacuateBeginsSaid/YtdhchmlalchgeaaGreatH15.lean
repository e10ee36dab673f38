/-
 The statement EvacuateBegins: part 15.
 Conditions: none.
-/
import Derived.Test.YtdhchmlalchgeaaGreatH14
set_option maxRecDepth 100000
set_option maxHeartbeats 2000000
set_option linter.all false
namespace Go.Proofs.YtdhchmlalchgeaaGreat
open Go.Sx
theorem ZfF{h:Heap}(hh:HOk h):PrOk (Z0U h).1∧(Z0U h).1.heap.W.length≤1048576∧(Z0U h).1.old.length≤1048576∧(Z0U h).1.Q.length≤1048576:=by
 have z:PrOk noWork∧noWork.heap.W.length≤1048576∧noWork.old.length≤1048576∧noWork.Q.length≤1048576:=⟨⟨by decide,by decide,by decide,by intro p hp;simp[noWork,noHeap]at hp⟩,by decide,by decide,by decide⟩
 unfold Z0U;split
 ·rename_i hp;split
  ·have k:=Z3H hh.w hp;have po:=Z09 hp;have wl:=k.wl;have ol:=k.ol;exact⟨⟨by simp[beginW],by simp only[beginW,List.length_map];omega,k.sp,SpOk.begin hp⟩,by simp only;omega,by simp only;omega,by simp[beginW]⟩
  ·exact z
 ·exact z
def biAL(l:List Heap)(n i:Int)(h:Heap)(w:Work)(m:Nat):Tg:=⟨tm 74 [(6,bool false),(10,.pt 64010 0 0),(11,.pt 72011 0 0),(13,.pt 80013 0 0),(15,int (-1+(m:Int))),(33,.ow 40032),(34,int n),(35,int i)],[(80013,.box 89 w.cells),(72011,.box 73 w.cells),(64010,.box 28 h.cells),(40032,.arr 28 6 (l.map Heap.dvs))],13⟩
theorem Zk7(l:List Heap)(n i:Int)(h:Heap)(w:Work)(m:Nat)(pr:PrOk w)(hp:h.P.length≤1048576)(hm:m<h.P.length+2):CP (rndF Tryz.f9 2) (biAL l n i h w m).st .nrm (biAL l n i h w (m+1)).st:=by
 have tl:=pr.tl;have pl:=pr.pl;have ei0:IntKind.i64.wrap (-1+(m:Int)+1)=-1+((m+1:Nat):Int):=by rw[show -1+(m:Int)+1=-1+((m+1:Nat):Int) by omega];exact wrapI' oq oq
 let y0:=(-1:Int)+(↑m:Int);exact sF [] (fO 4) (Fl 61 Page.dv h.P (Ftb 62 (decide ((-1:Int)+(↑m:Int)≤(↑h.P.length:Int))) (Fc 67 (@Z9R w y0 aa) (Fc 70 (@Z1r w y0 oq oq) (Ffs 71 (!Z0B w y0==Z0B w y0) (Fi 64 ((-1:Int)+(↑m:Int)+1) (Fo ((-1:Int)+(↑m:Int)+1=(-1:Int)+(↑(m+1):Int)) Fz)))))))
theorem ZoV(l:List Heap)(n i:Int)(h:Heap)(w:Work)(hp:h.P.length≤1048576):CP (rndF Tryz.f9 2) (biAL l n i h w (h.P.length+2)).st (.ext 2) (Tg.st ⟨tm 74 [(6,bool false),(33,.ow 40032),(34,int n),(35,int i)],[(40032,.arr 28 6 (l.map Heap.dvs))],13⟩):=by
 have e:((h.P.length+2:Nat):Int)=(h.P.length:Int)+2:=by omega
 exact sF [] [] (Fl 61 Page.dv h.P (Ffb 62 (decide ((-1:Int)+(↑(h.P.length+2):Int)≤(↑h.P.length:Int))) Fz))
theorem ZnJ(l:List Heap)(n i:Int)(h:Heap)(w:Work)(pr:PrOk w)(hp:h.P.length≤1048576):CP (blkF Tryz.f9 2) (Tg.st ⟨tm 74 [(6,bool false),(10,.pt 64010 0 0),(11,.pt 72011 0 0),(13,.pt 80013 0 0),(15,int (-1)),(33,.ow 40032),(34,int n),(35,int i)],[(80013,.box 89 w.cells),(72011,.box 73 w.cells),(64010,.box 28 h.cells),(40032,.arr 28 6 (l.map Heap.dvs))],13⟩) .nrm (Tg.st ⟨tm 74 [(6,bool false),(33,.ow 40032),(34,int n),(35,int i)],[(40032,.arr 28 6 (l.map Heap.dvs))],13⟩):=by
 have:=Z07 (S:=fun m=>(biAL l n i h w m).st) (h.P.length+2) kr (fun m hm=>Zk7 l n i h w m pr hp hm) (ZoV l n i h w hp);simp only[biAL,Int.natCast_zero,Int.add_zero]at this;exact this
def bgAL(l:List Heap)(n:Int)(i:Nat):Tg:=⟨tm 74 [(6,bool false),(33,.ow 40032),(34,int n),(35,int i)],[(40032,.arr 28 6 (l.map Heap.dvs))],7⟩
theorem Zkx(l:List Heap)(n:Int)(i:Nat)(hh:HOk (l.getD i default))(hl:l.length≤4)(hn:n=l.length)(hi:i<l.length):CP (rndF Tryz.f9 0) (bgAL l n i).st .nrm (bgAL l n (i+1)).st:=by
 have hw:=hh.w;have pr:=ZfF hh;have wl:=hh.wl;have pl:=hh.pl;have ptl:=pr.1.tl;have ppl:=pr.1.pl;let y0:=l.getD (↑i:Int).toNat default;exact sF [] [] (Fh 38 [.el y0.dvs] (Ftb 36 (decide ((↑i:Int)<n)) (Fa (by(simp only[List.length_map];omega):0≤(↑i:Int)∧(↑i:Int).toNat<(List.map Heap.dvs l).length) (Fa (by exact Z0v oq:(List.map Heap.dvs l)[(↑i:Int).toNat]? = some y0.dvs) (Fc 41 (@Zhw y0 aa) (Fc 46 (@Z9X y0 aa) (FcG 55 (!(Z0U y0).snd != (Z0U y0).snd) (fun hg=>by(try simp only[bs]at hg);exact @ZcG ((Z0U y0).fst) (by(try simp only[bs]at hg);grind[]) (by(try simp only[bs]at hg);grind[]) (by(try simp only[bs]at hg);grind[]) (by(try simp only[bs]at hg);grind[]) (by(try simp only[bs]at hg);grind[])) (Ffs 57 ((Z0U y0).snd != (Z0U y0).snd||false) (Fu (@ZnJ l n ((↑i:Int)) y0 ((Z0U y0).fst) (by grind[]) aa) (Fx 72 i Fz))))))))))
theorem ZpR(l:List Heap)(n:Int)(hn:n=l.length):CP (rndF Tryz.f9 0) (bgAL l n l.length).st (.ext 0) (Tg.st ⟨tm 74 [(6,bool false)],[],7⟩):=by
 exact sF [] [] (Ffb 36 (decide ((↑l.length:Int)<n)) Fz)
def Znx(l:List Heap)(n:Int)(hh:∀ h∈l,HOk h)(hl:l.length≤4)(hn:n=l.length)  := Z07 (S:=fun i=>(bgAL l n i).st) l.length (by kernel_rfl) (fun i hi=>Zkx l n i (hh _ (by rw[List.getD_eq_getElem?_getD,List.getElem?_eq_getElem hi];exact List.getElem_mem hi)) hl hn hi) (ZpR l n hn)
def biBL(l:List Heap)(n i:Int)(h:Heap)(w:Work)(m:Nat):Tg:=⟨tm 74 [(6,bool false),(10,.pt 64010 0 0),(11,.pt 72011 0 0),(13,.pt 80013 0 0),(15,int (-1+(m:Int))),(33,.ow 24026),(34,int n),(35,int i)],[(80013,.box 89 w.cells),(72011,.box 73 w.cells),(64010,.box 28 h.cells),(24026,.arr 28 6 (l.map Heap.dvs))],13⟩
theorem ZkQ(l:List Heap)(n i:Int)(h:Heap)(w:Work)(m:Nat)(pr:PrOk w)(hp:h.P.length≤1048576)(hm:m<h.P.length+2):CP (rndF Tryz.f9 2) (biBL l n i h w m).st .nrm (biBL l n i h w (m+1)).st:=by
 have tl:=pr.tl;have pl:=pr.pl;have ei0:IntKind.i64.wrap (-1+(m:Int)+1)=-1+((m+1:Nat):Int):=by rw[show -1+(m:Int)+1=-1+((m+1:Nat):Int) by omega];exact wrapI' oq oq
 let y0:=(-1:Int)+(↑m:Int);exact sF [] (fO 4) (Fl 61 Page.dv h.P (Ftb 62 (decide ((-1:Int)+(↑m:Int)≤(↑h.P.length:Int))) (Fc 67 (@Z9R w y0 aa) (Fc 70 (@Z1r w y0 oq oq) (Ffs 71 (!Z0B w y0==Z0B w y0) (Fi 64 ((-1:Int)+(↑m:Int)+1) (Fo ((-1:Int)+(↑m:Int)+1=(-1:Int)+(↑(m+1):Int)) Fz)))))))
theorem Zp4(l:List Heap)(n i:Int)(h:Heap)(w:Work)(hp:h.P.length≤1048576):CP (rndF Tryz.f9 2) (biBL l n i h w (h.P.length+2)).st (.ext 2) (Tg.st ⟨tm 74 [(6,bool false),(33,.ow 24026),(34,int n),(35,int i)],[(24026,.arr 28 6 (l.map Heap.dvs))],13⟩):=by
 have e:((h.P.length+2:Nat):Int)=(h.P.length:Int)+2:=by omega
 exact sF [] [] (Fl 61 Page.dv h.P (Ffb 62 (decide ((-1:Int)+(↑(h.P.length+2):Int)≤(↑h.P.length:Int))) Fz))
theorem Zno(l:List Heap)(n i:Int)(h:Heap)(w:Work)(pr:PrOk w)(hp:h.P.length≤1048576):CP (blkF Tryz.f9 2) (Tg.st ⟨tm 74 [(6,bool false),(10,.pt 64010 0 0),(11,.pt 72011 0 0),(13,.pt 80013 0 0),(15,int (-1)),(33,.ow 24026),(34,int n),(35,int i)],[(80013,.box 89 w.cells),(72011,.box 73 w.cells),(64010,.box 28 h.cells),(24026,.arr 28 6 (l.map Heap.dvs))],13⟩) .nrm (Tg.st ⟨tm 74 [(6,bool false),(33,.ow 24026),(34,int n),(35,int i)],[(24026,.arr 28 6 (l.map Heap.dvs))],13⟩):=by
 have:=Z07 (S:=fun m=>(biBL l n i h w m).st) (h.P.length+2) kr (fun m hm=>ZkQ l n i h w m pr hp hm) (Zp4 l n i h w hp);simp only[biBL,Int.natCast_zero,Int.add_zero]at this;exact this
def bgBL(l:List Heap)(n:Int)(i:Nat):Tg:=⟨tm 74 [(6,bool false),(33,.ow 24026),(34,int n),(35,int i)],[(24026,.arr 28 6 (l.map Heap.dvs))],7⟩
theorem Zmp(l:List Heap)(n:Int)(i:Nat)(hh:HOk (l.getD i default))(hl:l.length≤4)(hn:n=l.length)(hi:i<l.length):CP (rndF Tryz.f9 0) (bgBL l n i).st .nrm (bgBL l n (i+1)).st:=by
 have hw:=hh.w;have pr:=ZfF hh;have wl:=hh.wl;have pl:=hh.pl;have ptl:=pr.1.tl;have ppl:=pr.1.pl;let y0:=l.getD (↑i:Int).toNat default;exact sF [] [] (Fh 38 [.el y0.dvs] (Ftb 36 (decide ((↑i:Int)<n)) (Fa (by(simp only[List.length_map];omega):0≤(↑i:Int)∧(↑i:Int).toNat<(List.map Heap.dvs l).length) (Fa (by exact Z0v oq:(List.map Heap.dvs l)[(↑i:Int).toNat]? = some y0.dvs) (Fc 41 (@Zhw y0 aa) (Fc 46 (@Z9X y0 aa) (FcG 55 (!(Z0U y0).snd != (Z0U y0).snd) (fun hg=>by(try simp only[bs]at hg);exact @ZcG ((Z0U y0).fst) (by(try simp only[bs]at hg);grind[]) (by(try simp only[bs]at hg);grind[]) (by(try simp only[bs]at hg);grind[]) (by(try simp only[bs]at hg);grind[]) (by(try simp only[bs]at hg);grind[])) (Ffs 57 ((Z0U y0).snd != (Z0U y0).snd||false) (Fu (@Zno l n ((↑i:Int)) y0 ((Z0U y0).fst) (by grind[]) aa) (Fx 72 i Fz))))))))))
theorem ZpI(l:List Heap)(n:Int)(hn:n=l.length):CP (rndF Tryz.f9 0) (bgBL l n l.length).st (.ext 0) (Tg.st ⟨tm 74 [(6,bool false)],[],7⟩):=by
 exact sF [] [] (Ffb 36 (decide ((↑l.length:Int)<n)) Fz)
def ZoA(l:List Heap)(n:Int)(hh:∀ h∈l,HOk h)(hl:l.length≤4)(hn:n=l.length)  := Z07 (S:=fun i=>(bgBL l n i).st) l.length (by kernel_rfl) (fun i hi=>Zmp l n i (hh _ (by rw[List.getD_eq_getElem?_getD,List.getElem?_eq_getElem hi];exact List.getElem_mem hi)) hl hn hi) (ZpI l n hn)
theorem ZjV(raw:Heap)(tape odd:List Int)(hw:WOk raw.W)(h1:tape.length≤140737488355328)(h2:odd.length≤140737488355328):GP 9 [raw.av,Z0l tape,Z0l odd] true (bool true) []:=by
 have hm:=Zfr tape;have hso:=hm.so;have ht:TOk ⟨odd,0⟩:=by simp[TOk];omega
 have hus:∀ j,j<(Z0I tape).heap.P.length→-1099511627776≤((Z0I tape).heap.P.getD j default).U∧((Z0I tape).heap.P.getD j default).U≤1099511627776:=fun j hj=>by
  have:=hm.us j hj;omega
 have g1:HOk (Z0I tape).heap:=by
  have a1:=area hm.hv;have a2:=validB_iff.1 hm.hv;have a3:=hm.L;have a4:=hm.pl;exact⟨hm.W,by omega,by omega⟩
 have g2:=Zkp hm ⟨odd,0⟩;by_cases hl:raw.W.length≤5000∧raw.P.length≤100
 ·have q1:∀ h∈[(Z0I tape).heap,((Z0I tape).spoil ⟨odd,0⟩).heap,raw],HOk h:=by
   intro h hh;simp only[List.mem_cons,List.not_mem_nil,or_false]at hh;rcases hh with rfl | rfl | rfl
   ·exact g1
   ·exact g2
   ·exact⟨hw,by omega,by omega⟩
  have q2:([(Z0I tape).heap,((Z0I tape).spoil ⟨odd,0⟩).heap,raw]:List Heap).length≤4:=by simp
  let y0:=(Z0I tape).spoil (Tape.mk odd 0);exact gF [] Tryz.func9 [] (Fh 28 [.call true (Sx.bool (decide (raw.W.length≤5000∧raw.P.length≤100))) [],.br true] (Fh 34 [.int (↑(0+1+1+1):Int)] (Fc 17 (@Zbg tape aa) (Fp 24 (@Zcp (Z0I tape) (Tape.mk odd 0) aa aa (by(simp only[bs];omega)) aa) (Fs 26 (List.map Heap.dvs [(Z0I tape).heap,y0.heap]) (Fa (@Zdi raw) (Fb (decide (raw.W.length≤5000∧raw.P.length≤100)=true) (Fs 31 (List.map Heap.dvs [raw]) (Fa (by simp[*]:(List.map Heap.dvs [(Z0I tape).heap,y0.heap]).length+(List.map Heap.dvs [raw]).length≤2^30) (Fs 32 (List.map Heap.dvs [(Z0I tape).heap,y0.heap,raw]) (Fr (↑(List.map Heap.dvs [(Z0I tape).heap,((Z0I tape).spoil (Tape.mk odd (0:Int))).heap,raw]).length:Int) (Fu (@Znx ([(Z0I tape).heap,y0.heap,raw]) (3) aa aa (by rfl)) (Fc 73 (@Zat) Fz)))))))))))))
 ·have q1:∀ h∈[(Z0I tape).heap,((Z0I tape).spoil ⟨odd,0⟩).heap],HOk h:=by
   intro h hh;simp only[List.mem_cons,List.not_mem_nil,or_false]at hh;rcases hh with rfl | rfl
   ·exact g1
   ·exact g2
  have q2:([(Z0I tape).heap,((Z0I tape).spoil ⟨odd,0⟩).heap]:List Heap).length≤4:=by simp
  exact gF [] Tryz.func9 [] (Fh 28 [.call true (Sx.bool (decide (raw.W.length≤5000∧raw.P.length≤100))) [],.br false] (Fh 34 [.int (↑(0+1+1):Int)] (Fc 17 (@Zbg tape aa) (Fp 24 (@Zcp (Z0I tape) (Tape.mk odd 0) aa aa (by(simp only[bs];omega)) aa) (Fs 26 (List.map Heap.dvs [(Z0I tape).heap,((Z0I tape).spoil (Tape.mk odd 0)).heap]) (Fa (@Zdi raw) (Fb (decide (raw.W.length≤5000∧raw.P.length≤100)=false) (Fr (↑(List.map Heap.dvs [(Z0I tape).heap,((Z0I tape).spoil (Tape.mk odd (0:Int))).heap]).length:Int) (Fu (@ZoA ([(Z0I tape).heap,((Z0I tape).spoil (Tape.mk odd 0)).heap]) (2) aa aa (by rfl)) (Fc 73 (@Zat) Fz))))))))))
end Go.Proofs.YtdhchmlalchgeaaGreat
namespace Go.Proofs.YtdhchmlalchgeaaGreat
open Go.Sx Go.RowKit
theorem Z4Q(os:Os)(started:os.Started)(H:Type)(enc:TypeId×Value→H) :
  ReturnsInHanded {} Tryz.checked os 9 .any (Rows.evacuateBeginsSpec.pre6 enc Tryz.prog Tryz.f9 Rows.evacuateBeginsRow.domain false) (Rows.evacuateBeginsSpec.post enc Tryz.prog Tryz.f9 false true false false):=by
 refine Zc3 (C:=Tryz.checked) (tb:=4) 5 own0 started kr Tryz.func9
  (ChangeSpec.witness6 (enc:=enc) (C:=Tryz.checked) false ⟨#[],#[.agg #[.int .i64 0,.int .i64 0,.slice none 0 0,.slice none 0 0,.int .i64 0,.int .i64 0],.slice none 0 0,.slice none 0 0],[]⟩ 8 kr kr kr kr)
  Zl9 kr kr kr kr rfl (fun ds hd=>?_) (fun ls hl h=>?_)
 ·match ds,hd with
  | [a0,a1,a2],_=>rfl
 ·match ls,hl with
  | [l0,l1,l2],_ =>
   obtain⟨raw,rfl,hraw⟩:=Zlc (n:=1) (h 0 28 l0 kr rfl);obtain⟨tape,rfl,htape⟩:=Zfo (n:=3) (h 1 22 l1 kr rfl);obtain⟨odd,rfl,hodd⟩:=Zfo (n:=3) (h 2 22 l2 kr rfl);have e:Zbt Tryz.prog Tryz.f9.params.toList [ZoC raw,[.sl 1 (tape.map idv)],[.sl 1 (odd.map idv)]]=[raw.av,Z0l tape,Z0l odd]:=by kernel_rfl
   exact⟨true,e▸ZjV raw tape odd hraw htape hodd⟩
theorem Z7f:(Rows.evacuateBeginsRow.inPlace==Tryz.prog.inPlace 9)=true:=by kernel_rfl
theorem Z7k:(Rows.evacuateBeginsRow.unfollowed==Tryz.prog.unfollowed 9)=true:=by kernel_rfl
theorem Z72:(Rows.evacuateBeginsRow.recurses==Tryz.prog.recurses 9)=true:=by kernel_rfl
theorem Z74:(Rows.evacuateBeginsRow.named==Tryz.prog.varsNamed 9)=true:=by kernel_rfl
theorem Z56:joinedFacts Tryz.prog 9 Tryz.f9 Rows.evacuateBeginsSpec Rows.evacuateBeginsRow=true:=by
 unfold joinedFacts;rw[Z7f,Z7k,Z72,Z74];kernel_rfl
theorem evacuateBegins_holds:Rows.EvacuateBeginsSaid :=
 OpenClaim.holds_of_wide 9 Tryz.f9 rfl rfl rfl rfl rfl rfl rfl ⟨rfl,rfl,rfl,rfl,rfl⟩ rfl rfl rfl rfl rfl kr Tryz.func9 Z56
  (of_decide_eq_true kr) (by unfold Func.isWrapper;first | (rw[if_pos (by decide+kernel)];kernel_rfl) | (rw[if_neg (by decide+kernel)];exact⟨rfl,rfl⟩))
  (fun os started H enc _=>Z4Q os started H enc)
end Go.Proofs.YtdhchmlalchgeaaGreat
