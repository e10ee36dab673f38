/-
 The statement GraphMoves: part 14.
 Conditions: none.
-/
import Derived.Test.YtgedmeaemofdkaaGreatR13
set_option maxRecDepth 100000
set_option maxHeartbeats 2000000
set_option linter.all false
open Bool renaming true->M,false->Lc
open List renaming replicate->La,map->Lb
open Int renaming toNat->Ld
open Go.Proofs.Tryz
namespace Go.Proofs.YtgedmeaemofdkaaGreat
open Go.Sx
def ZaV{ρ:Rho}{w:World}{Im:Nat->Prop}{v:Value}(s:Nat)(h:Rel ρ w Im (.d (.sl 0 [])) v):Rel ρ w Im (.d (.sl s [])) v:=by
 cases h with
 | d h =>
  cases h with
  | slNil=>exact .d (.slNil _ _ _)
  | sl _ _ p n c f hn=>cases hn;exact .d (.slNil _ _ _)
def hA8:Heap:=⟨⟨32,8⟩,La 256 0,La 8 ⟨0,0,0,0⟩,0,-1⟩
def hB8:Heap:=(⟨⟨32,8⟩,(La 256 0).set 0 25,[⟨1,0,2,0⟩,⟨0,0,0,0⟩,⟨0,0,0,0⟩,⟨0,0,0,0⟩,⟨0,0,0,0⟩,⟨0,0,0,0⟩,⟨0,0,0,0⟩,⟨0,0,0,0⟩],0,0⟩:Heap)
def hC8:Heap:=(⟨⟨32,8⟩,((La 256 0).set 0 25).set 1 4096,[⟨1,0,2,0⟩,⟨0,0,0,0⟩,⟨0,0,0,0⟩,⟨0,0,0,0⟩,⟨0,0,0,0⟩,⟨0,0,0,0⟩,⟨0,0,0,0⟩,⟨0,0,0,0⟩],0,0⟩:Heap)
def ZcM:Z0o []=⟨hA8,[],[]⟩:=by kernel_rfl
def ZlL:(⟨hA8,[],[]⟩:WorldM).put ⟨2,1,0⟩=⟨hB8,[4096],[]⟩:=by kernel_rfl
def Zpf:Z0n hB8 4096 0 4096=(hC8,0):=by kernel_rfl
def Zfh:Z0v hC8 [4096]=([4096],0):=by kernel_rfl
def Zo7:[4096].map (Z2r hC8 [4096])=[⟨⟨2,1,0⟩,[1]⟩]:=by kernel_rfl
def ZmR:[4096].map (Z1K [4096])=[0]:=by kernel_rfl
def ZkE:WOk hB8.W:=by unfold WOk;decide+kernel
def ZkG:WOk hC8.W:=by unfold WOk;decide+kernel
def ZkX:GP 15 [.d (.sl 0 [])] Lc (⟨(⟨⟨32,8⟩,La 256 0,La 8 ⟨0,0,0,0⟩,0,-1⟩:Heap),[],[]⟩:WorldM).av []:=by
 have k:=Zf2 [] pq;rw[ZcM]at k;intro w Im vs hIm hsz h;refine k w Im vs hIm hsz λi x v hx hv=>?_;rcases i with _ | i
 .cases hx;exact ZaV 1 (h 0 _ v rfl hv)
 .simp at hx
def ZnY:GP 58 [.ag [int 32,int 8,.d (.sl 1 ((La 256 0).map wdv)),.d (.sl 4 ((La 8 (⟨0,0,0,0⟩:Page)).map Page.dv)),int 0,int (-1),.d (.sl 0 []),.d (.sl 0 [])],.ag [int 2,int 1,.d (.sc (.int .u32 0))]] Lc (⟨(⟨⟨32,8⟩,(La 256 0).set 0 25,[⟨1,0,2,0⟩,⟨0,0,0,0⟩,⟨0,0,0,0⟩,⟨0,0,0,0⟩,⟨0,0,0,0⟩,⟨0,0,0,0⟩,⟨0,0,0,0⟩,⟨0,0,0,0⟩],0,0⟩:Heap),[4096],[]⟩:WorldM).av []:=by
 have hm:=Zbh [];rw[ZcM]at hm;have k:=Z6V ⟨hA8,[],[]⟩ ⟨2,1,0⟩ (hm.wm dd) dd;rw[ZlL]at k;intro w Im vs hIm hsz h;refine k w Im vs hIm hsz λi x v hx hv=>?_;rcases i with _ | _ | i
 .cases hx;obtain⟨cs,rfl,h2,h3,h4⟩:=Z3l (h 0 _ v rfl hv);refine .ag _ _ h2 h3 (λi a u ha hu=>?_);rcases i with _ | _ | _ | _ | _ | _ | _ | _ | i
  .cases ha;exact h4 0 _ u rfl hu
  .cases ha;exact h4 1 _ u rfl hu
  .cases ha;exact h4 2 _ u rfl hu
  .cases ha;exact h4 3 _ u rfl hu
  .cases ha;exact h4 4 _ u rfl hu
  .cases ha;exact h4 5 _ u rfl hu
  .cases ha;exact ZaV 1 (h4 6 _ u rfl hu)
  .cases ha;exact ZaV 1 (h4 7 _ u rfl hu)
  .cases (show(none:Option AV)=some a from ha)
 .cases hx;exact h 1 _ v rfl hv
 .simp at hx
def Zpx:GP 59 [(⟨⟨32,8⟩,(La 256 0).set 0 25,[⟨1,0,2,0⟩,⟨0,0,0,0⟩,⟨0,0,0,0⟩,⟨0,0,0,0⟩,⟨0,0,0,0⟩,⟨0,0,0,0⟩,⟨0,0,0,0⟩,⟨0,0,0,0⟩],0,0⟩:Heap).av,u64 4096,int 0,u64 4096] Lc (.tu [(⟨⟨32,8⟩,((La 256 0).set 0 25).set 1 4096,[⟨1,0,2,0⟩,⟨0,0,0,0⟩,⟨0,0,0,0⟩,⟨0,0,0,0⟩,⟨0,0,0,0⟩,⟨0,0,0,0⟩,⟨0,0,0,0⟩,⟨0,0,0,0⟩],0,0⟩:Heap).av,int 0]) []:=by
 have k:=Z57 hB8 4096 0 4096 ZkE dd;rw[Zpf]at k;exact k
def ofC8:GP 20 [(⟨⟨32,8⟩,((La 256 0).set 0 25).set 1 4096,[⟨1,0,2,0⟩,⟨0,0,0,0⟩,⟨0,0,0,0⟩,⟨0,0,0,0⟩,⟨0,0,0,0⟩,⟨0,0,0,0⟩,⟨0,0,0,0⟩,⟨0,0,0,0⟩],0,0⟩:Heap).av,.d (.sl 1 ([4096].map wdv))] Lc (.tu [.ag [.d (.sl 1 ([0].map idv)),.d (.sl 4 ([(⟨⟨2,1,0⟩,[1]⟩:NodeG)].map NodeG.dv))],int 0]) []:=by
 have k:=Zdg hC8 [4096] ZkG dd (by intro x hx;rw[List.mem_singleton.1 hx];decide) (by rw[Zfh]);rw[Zfh]at k;simp only at k;rw[Zo7,ZmR]at k;exact k
def ZhG:GP 19 [] M (bool M) []:=by
 exact gF [] func19 [] (Fh 20 [.el (wdv ((WorldM.mk (Heap.mk (Conf.mk 32 8) ((La 256 0).set 0 25) [Page.mk 1 0 2 0,Page.mk 0 0 0 0,Page.mk 0 0 0 0,Page.mk 0 0 0 0,Page.mk 0 0 0 0,Page.mk 0 0 0 0,Page.mk 0 0 0 0,Page.mk 0 0 0 0] 0 0) [4096] []).G.getD 0 default))] (Fh 24 [.el (wdv ((WorldM.mk (Heap.mk (Conf.mk 32 8) ((La 256 0).set 0 25) [Page.mk 1 0 2 0,Page.mk 0 0 0 0,Page.mk 0 0 0 0,Page.mk 0 0 0 0,Page.mk 0 0 0 0,Page.mk 0 0 0 0,Page.mk 0 0 0 0,Page.mk 0 0 0 0] 0 0) [4096] []).G.getD 0 default))] (Fh 4 [.gh 3 1,.int 0,.gh 54 4,.int 1] (Fh 47 [.el (NodeG.mk (Header.mk 2 1 0) [1]).dv] (Fh 56 [.el (NodeG.mk (Header.mk 2 1 0) [1]).dv] (Fh 59 [.el (wdv ((NodeG.mk (Header.mk 2 1 0) [1]).fs.getD 0 default))] (Fh 72 [.el (idv 0)] (Fc 6 (@ZkX) (Fc 10 (@ZnY) (Fa (by simp[*]:(0:Int)<=0/\(Lb wdv (WorldM.mk (Heap.mk (Conf.mk 32 8) ((La 256 0).set 0 25) [Page.mk 1 0 2 0,Page.mk 0 0 0 0,Page.mk 0 0 0 0,Page.mk 0 0 0 0,Page.mk 0 0 0 0,Page.mk 0 0 0 0,Page.mk 0 0 0 0,Page.mk 0 0 0 0] 0 0) [4096] []).G)[Ld 0]? = some (wdv ((WorldM.mk (Heap.mk (Conf.mk 32 8) ((La 256 0).set 0 25) [Page.mk 1 0 2 0,Page.mk 0 0 0 0,Page.mk 0 0 0 0,Page.mk 0 0 0 0,Page.mk 0 0 0 0,Page.mk 0 0 0 0,Page.mk 0 0 0 0,Page.mk 0 0 0 0] 0 0) [4096] []).G.getD 0 default))) (Fa (by simp[*]:(0:Int)<=0/\(Lb wdv (WorldM.mk (Heap.mk (Conf.mk 32 8) ((La 256 0).set 0 25) [Page.mk 1 0 2 0,Page.mk 0 0 0 0,Page.mk 0 0 0 0,Page.mk 0 0 0 0,Page.mk 0 0 0 0,Page.mk 0 0 0 0,Page.mk 0 0 0 0,Page.mk 0 0 0 0] 0 0) [4096] []).G)[Ld 0]? = some (wdv ((WorldM.mk (Heap.mk (Conf.mk 32 8) ((La 256 0).set 0 25) [Page.mk 1 0 2 0,Page.mk 0 0 0 0,Page.mk 0 0 0 0,Page.mk 0 0 0 0,Page.mk 0 0 0 0,Page.mk 0 0 0 0,Page.mk 0 0 0 0,Page.mk 0 0 0 0] 0 0) [4096] []).G.getD 0 default))) (Fc 26 (@Zpx) (Fc 33 (@ofC8) (Fa (by intro hg;(try simp only[bs]at hg);simp[*]:((0:Int)==0&&(↑(Lb NodeG.dv [NodeG.mk (Header.mk 2 1 0) [1]]).length:Int)==1)=M->(0:Int)<=0/\(Lb NodeG.dv [NodeG.mk (Header.mk 2 1 0) [1]])[Ld 0]? = some (NodeG.mk (Header.mk 2 1 0) [1]).dv) (Fa (by intro hg;(try simp only[bs]at hg);simp[*]:((0:Int)==0&&(↑(Lb NodeG.dv [NodeG.mk (Header.mk 2 1 0) [1]]).length:Int)==1&&(↑(Lb wdv (NodeG.mk (Header.mk 2 1 0) [1]).fs).length:Int)==1)=M->(0:Int)<=0/\(Lb NodeG.dv [NodeG.mk (Header.mk 2 1 0) [1]])[Ld 0]? = some (NodeG.mk (Header.mk 2 1 0) [1]).dv) (Fa (by intro hg;(try simp only[bs]at hg);simp[*]:((0:Int)==0&&(↑(Lb NodeG.dv [NodeG.mk (Header.mk 2 1 0) [1]]).length:Int)==1&&(↑(Lb wdv (NodeG.mk (Header.mk 2 1 0) [1]).fs).length:Int)==1)=M->(0:Int)<=0/\(Lb wdv (NodeG.mk (Header.mk 2 1 0) [1]).fs)[Ld 0]? = some (wdv ((NodeG.mk (Header.mk 2 1 0) [1]).fs.getD 0 default))) (Fa (by intro hg;(try simp only[bs]at hg);simp[*]:((0:Int)==0&&(↑(Lb NodeG.dv [NodeG.mk (Header.mk 2 1 0) [1]]).length:Int)==1&&(↑(Lb wdv (NodeG.mk (Header.mk 2 1 0) [1]).fs).length:Int)==1&&(NodeG.mk (Header.mk 2 1 0) [1]).fs.getD 0 default==1&&(↑(Lb idv [0]).length:Int)==1)=M->(0:Int)<=0/\(Lb idv [0])[Ld 0]? = some (idv 0)) Fz)))))))))))))))))
def Zmq(ns:List NodeG):Prop:=ns.length<=16384/\∀ n∈ns,(0<=n.hd.map/\n.hd.map<=4294967295)/\n.fs.length<=1048576
structure WZ where
 w:WorldM
 z:Nat
instance:Inhabited WZ:=⟨⟨default,1⟩⟩
def WZ.dv(x:WZ):List DV:=[dint x.w.heap.C.pw,dint x.w.heap.C.pg,.sl 1 (x.w.heap.W.map wdv),.sl 4 (x.w.heap.P.map Page.dv),dint x.w.heap.S,dint x.w.heap.B,.sl 1 (x.w.G.map wdv),.sl x.z (x.w.E.map wdv)]
def ZkM{h:Heap}{roots l:List Int}(O:OrdL h roots l)(hw:WOk h.W):Zmq (l.map (Z2r h l)):=by
 refine⟨by rw[List.length_map];exact O.len,λn hn=>?_⟩;obtain⟨a,ha,rfl⟩:=List.mem_map.1 hn;have f:=Z3c O.p (O.el a ha);refine⟨Z3u hw a, ?_⟩;show(numL l (fldG h a) (Z01 (atH h a).1) (Z01 (atH h a).1).length).length<=1048576;rw[Z4x];omega
section
variable (h:Heap) (roots:List Int) (hw:WOk h.W) (hl:roots.length<=1000) (hr:ULe roots)
include hw hl hr
theorem Za5:GP 20 [h.av,Z02 roots] Lc (.tu [.ag [Z0x (ofF h roots).1.roots,.d (.sl 4 ((ofF h roots).1.nodes.map NodeG.dv))],int (ofF h roots).2]) []:=by
 unfold ofF;by_cases e:(Z0v h roots).2=0
 .rw[if_pos e];exact Zdg h roots hw hl hr e
 .rw[if_neg e];exact Zgo h roots hw hl hr e
theorem ZoT:Zmq (ofF h roots).1.nodes/\(ofF h roots).1.roots.length<=1000:=by
 unfold ofF;by_cases e:(Z0v h roots).2=0
 .rw[if_pos e];exact⟨ZkM (Zc5 _ _ hw hl hr e) hw,by simpa[ZhL]using hl⟩
 .rw[if_neg e];exact⟨⟨Nat.zero_le _,by simp⟩,Nat.zero_le _⟩
end
def ZgV(tape:List Int):WOk (Z0o tape).collect.heap.W/\(Z0o tape).collect.G.length<=1000/\ULe (Z0o tape).collect.G/\ofF (Z0o tape).collect.heap (Z0o tape).collect.G=ofF (Z0o tape).heap (Z0o tape).G:=by
 have hm:=Zbh tape;have hv:=MOk.collect hm;obtain⟨T,g,g1,g2⟩:=ZfY tape;by_cases e:(collectF (Z0o tape).heap (Z0o tape).G (Z0o tape).E).2.2.2.2=0
 .have K:=ZjF (B:=1000) oq g (Zkk tape) hm.W (λp hp=>(hm.pin_mem p hp).2) g1 g2 e;have e7:(Z0o tape).collect=⟨(collectF (Z0o tape).heap (Z0o tape).G (Z0o tape).E).1,(collectF (Z0o tape).heap (Z0o tape).G (Z0o tape).E).2.1,(collectF (Z0o tape).heap (Z0o tape).G (Z0o tape).E).2.2.1⟩:=by rw[WorldM.collect,if_pos e]
  have sl:=K.sl;have kg:=K.graph;have:=hm.sl;refine⟨hv.W, ?_,hv.G, ?_⟩
  .rw[e7];simp only;omega
  .rw[e7];exact kg
 .have e7:(Z0o tape).collect=Z0o tape:=by rw[WorldM.collect,if_neg e]
  rw[e7];exact⟨hm.W,hm.sl,hm.G,rfl⟩
def ZlN(tape:List Int)(h1:tape.length<=140737488355328):GP 5 [Z0x tape] M (bool M) []:=by
 have hm:=Zbh tape;have hw:=hm.W;have sl:=hm.sl;have wl:=hm.wl;have su:=hm.G;have wu:=hm.E;obtain⟨v1,v2,v3,v4⟩:=ZgV tape;obtain⟨T,g,g1,g2⟩:=ZfY tape;have e:=g.order g1;obtain⟨n1,n2⟩:=ZoT _ _ hw sl su;have ex:(ofF (Z0o tape).heap (Z0o tape).G).2=0:=by rw[ofF,if_pos e]
 have n3:=n1.1;have gx:GphOk (ofF (Z0o tape).heap (Z0o tape).G).1:=⟨by omega,by omega,λn hn=>by have:=(n1.2 n hn).2;omega⟩
 have sx:Zcx (ofF (Z0o tape).heap (Z0o tape).G).1 (ofF (Z0o tape).heap (Z0o tape).G).1=M:=by simp[Zcx]
 have ey:(ofF (Z0o tape).collect.heap (Z0o tape).collect.G).2=0:=by rw[v4];exact ex
 have gy:GphOk (ofF (Z0o tape).collect.heap (Z0o tape).collect.G).1:=by rw[v4];exact gx
 have sy:Zcx (ofF (Z0o tape).heap (Z0o tape).G).1 (ofF (Z0o tape).collect.heap (Z0o tape).collect.G).1=M:=by rw[v4];exact sx
 exact gF [] func5 (fO 7) (Fh 4 [.gh 3 1,.int 0,.gh 54 4,.int 1] (Fh 7 [.gh 3 1,.int 0,.gh 54 4,.int 1] (Fc 10 (@Zf2 tape aa) (Fc 16 (@Za5 ((Z0o tape).heap) ((Z0o tape).G) aa aa aa) (Fc 20 (@Z7C (Z0o tape) aa oq oq aa aa) (Fc 26 (@Za5 ((Z0o tape).collect.heap) ((Z0o tape).collect.G) aa aa aa) (Fc 29 (@ZhG) (FcG 41 (M&&(ofF (Z0o tape).heap (Z0o tape).G).2==0&&(ofF (Z0o tape).collect.heap (Z0o tape).collect.G).2==0) (λhg=>by(try simp only[bs]at hg);exact @graphSame ((ofF (Z0o tape).heap (Z0o tape).G).1) ((ofF (Z0o tape).collect.heap (Z0o tape).collect.G).1) aa aa) (Fbs (((ofF (Z0o tape).heap (Z0o tape).G).2==0&&(ofF (Z0o tape).collect.heap (Z0o tape).collect.G).2==0&&Zcx (ofF (Z0o tape).heap (Z0o tape).G).1 (ofF (Z0o tape).collect.heap (Z0o tape).collect.G).1)=M) Fz)))))))))
end Go.Proofs.YtgedmeaemofdkaaGreat
namespace Go.Proofs.YtgedmeaemofdkaaGreat
open Go.Sx Go.RowKit
def Z7g(os:Os)(started:os.Started)(H:Type)(enc:TypeId×Value->H) :
  ReturnsInHanded {} Tryz.checked os 5 .any (Rows.graphMovesSpec.pre6 enc prog f5 Rows.graphMovesRow.domain Lc) (Rows.graphMovesSpec.post enc prog f5 Lc M Lc Lc):=by
 refine ZcG (C:=Tryz.checked) (tb:=4) 5 own0 started kr func5
  (ChangeSpec.witness6 (enc:=enc) (C:=Tryz.checked) Lc ⟨#[],#[.slice none 0 0],[]⟩ 8 kr kr kr kr)
  Zlw kr kr kr kr rfl (λds hd=>?_) (λls hl h=>?_)
 .match ds,hd with
  | [a0],_=>rfl
 .match ls,hl with
  | [l0],_ =>
   obtain⟨tape,rfl,htape⟩:=ZkZ (n:=3) (h 0 22 l0 kr rfl);have e:ZbM prog Tryz.f5.params.toList [[.sl 1 (tape.map idv)]]=[Z0x tape]:=by kernel_rfl
   exact⟨M,e▸ZlN tape htape⟩
def Zc1:(Rows.graphMovesRow.inPlace==Tryz.prog.inPlace 5)=M:=by kernel_rfl
def ZbA:(Rows.graphMovesRow.unfollowed==Tryz.prog.unfollowed 5)=M:=by kernel_rfl
def Zbr:(Rows.graphMovesRow.recurses==Tryz.prog.recurses 5)=M:=by kernel_rfl
def Zba:(Rows.graphMovesRow.named==Tryz.prog.varsNamed 5)=M:=by kernel_rfl
def Z79:joinedFacts prog 5 f5 Rows.graphMovesSpec Rows.graphMovesRow=M:=by
 unfold joinedFacts;rw[Zc1,ZbA,Zbr,Zba];kernel_rfl
theorem graphMoves_holds:Rows.GraphMovesSaid :=
 OpenClaim.holds_of_wide 5 f5 rfl rfl rfl rfl rfl rfl rfl ⟨rfl,rfl,rfl,rfl,rfl⟩ rfl rfl rfl rfl rfl kr func5 Z79
  (of_decide_eq_true kr) (by unfold Func.isWrapper;first | (rw[if_pos (by decide+kernel)];kernel_rfl) | (rw[if_neg (by decide+kernel)];exact⟨rfl,rfl⟩))
  (λos started H enc _=>Z7g os started H enc)
end Go.Proofs.YtgedmeaemofdkaaGreat
