/-
 The statement EvacuateOnce: part 12.
 Conditions: none.
-/
import Derived.Test.YtdhchmlalchgeaaGreatE11
set_option maxRecDepth 100000
set_option maxHeartbeats 2000000
set_option linter.all false
namespace Go.Proofs.YtdhchmlalchgeaaGreat
open Go.Sx
def SpOk(l:List Page):Prop:=∀ p∈l,p.S=0∨p.S=1
theorem SpOk.at{l:List Page}(h:SpOk l){i:Nat}(hi:i<l.length):(l.getD i default).S=0∨(l.getD i default).S=1:=by
 rw[List.getD_eq_getElem?_getD,List.getElem?_eq_getElem hi];exact h _ (List.getElem_mem hi)
theorem SpOk.set{l:List Page}(h:SpOk l)(i:Nat){p:Page}(hp:p.S=0∨p.S=1):SpOk (l.set i p):=fun q hq=>by
 rcases List.mem_or_eq_of_mem_set hq with q1 | q1
 ·exact h q q1
 ·rw[q1];exact hp
theorem SpOk.fwd{w:Work}(hw:WkOk w)(h:SpOk w.heap.P)(r:Int)(e:(w.fwd r).2.2=0):SpOk (w.fwd r).1.heap.P:=by
 have sp:=hw.sp;have pl:∀ n,(w.place n).2.2=true→SpOk (w.place n).1.heap.P:=fun n hn=>by
  by_cases hf:Z2u w n
  ·rw[Work.place,if_pos hf];unfold Z2u at hf;have hm:=hw.tk _ (Z17 hf.1);show SpOk (Z1B _ _ _);rw[Z3X];exact h.set _ (h.at oq)
  ·by_cases hg:0≤Z0e w
   ·rw[Work.place,if_neg hf,if_pos hg];obtain⟨g1,_,_⟩:=Z34 (h:=⟨w.heap.C,w.heap.W,w.heap.P,1-w.heap.S,w.heap.B⟩) (by simp only;omega) hg n;have g1':Z1B (Z1P w) (Z0e w).toNat n=w.heap.P.set (Z0e w).toNat ⟨1,1-w.heap.S,n,0⟩:=g1;show SpOk (Z1B _ _ _);rw[g1'];exact h.set _ (by simp only;omega)
   ·rw[Work.place,if_neg hf,if_neg hg]at hn;cases hn
 unfold Work.fwd at e ⊢;repeat' split at e
 all_goals first | (simp at e;done) | skip
 all_goals (repeat' (first | rw[if_pos aa] | rw[if_neg aa]))
 all_goals first | exact h | skip
 ·intro p hp;simp only[Work.keep,Work.flip,Z0n,List.mem_map,List.mem_range]at hp;obtain⟨j,hj,rfl⟩:=hp;split
  ·simp only[Z8r];omega
  ·exact h.at hj
 ·exact pl _ (by simp only[Bool.not_eq_false]at *;assumption)
theorem SpOk.begin{h:Heap}(hp:Z02 h=true):SpOk (beginW h).heap.P:=fun p hq=>by
 have po:=Z06 hp;simp only[beginW,List.mem_map]at hq;obtain⟨q,hq,rfl⟩:=hq;obtain⟨i,hi,rfl⟩:=List.getElem_of_mem hq;have pp:=Z0D hp hi;rw[List.getD_eq_getElem?_getD,List.getElem?_eq_getElem hi,Option.getD_some]at pp;unfold begQ;split
 ·simp only;omega
 ·omega
structure CkOk (w:Work):Prop where
 ok:WkOk w
 so:SpOk w.heap.P
 L:(w.heap.W.length:Int)=w.heap.C.pw*w.heap.C.pg
structure FwOk (w:Work) (r:Int):Prop where
 ck:CkOk w
 rg:0≤r∧r≤18446744073709551615
 ol:r∈w.old→4096≤r∧r+hlA w.heap.W r<4096+w.heap.W.length∧(ofA w.heap.C r).2.2=0∧(ofA w.heap.C r).1.toNat<w.heap.P.length
 dc:r∈w.old→(Z08 (loadA w.heap.W r).1).2=false→(decodeH (loadA w.heap.W r).1).2=true
 sz:r∈w.old→(w.heap.P.getD (ofA w.heap.C r).1.toNat default).K=2∨hlA w.heap.W r+1≤w.heap.C.pw
structure Col (h:Heap) (T:Nat→List Int) (w:Work):Prop where
 k:∃ tq,KI h T tq w
 ok:WkOk w
 inv:CIv w
 so:SpOk w.heap.P
theorem Col.begin{h:Heap}{T:Nat→List Int}(g:Gd h T)(hw:WOk h.W):Col h T (beginW h) :=
 ⟨⟨_,KI.begin g⟩,Z3j hw g.p,Z3t g.p,SpOk.begin g.p⟩
theorem Col.fwd{h:Heap}{T:Nat→List Int}{w:Work}(c:Col h T w)(g:Gd h T){r:Int}(e:(w.fwd r).2.2=0):Col h T (w.fwd r).1:=by
 obtain⟨tq,k⟩:=c.k;exact⟨k.fwd g c.ok c.inv r e,(fwd_ok c.ok r e).1,(Z5j c.ok c.inv r e).1,c.so.fwd c.ok r e⟩
theorem Col.ck{h:Heap}{T:Nat→List Int}{w:Work}(c:Col h T w):CkOk w:=⟨c.ok,c.so,c.inv.L⟩
theorem Col.fw{h:Heap}{T:Nat→List Int}{w:Work}(c:Col h T w)(g:Gd h T){r:Int}(hr:0≤r∧r≤18446744073709551615):FwOk w r:=by
 obtain⟨tq,k⟩:=c.k;refine⟨c.ck,hr,fun ho=>?_,fun ho ht=>?_,fun ho=>c.inv.z r ho⟩
 ·obtain⟨i,hi,hk⟩:=(k.old r).1 ho;have q:=c.inv.r r (List.mem_append_left _ ho);have e:=g.ofx hi;rw[← k.c]at e;rw[e];have:=(g.t0 i r hi).1;have:=k.pl;refine⟨q.1,q.2,rfl, ?_⟩;simp only[Int.toNat_natCast];omega
 ·obtain⟨i,hi,hk⟩:=(k.old r).1 ho;rcases k.hd i r hi with q | q
  ·rw[q];exact(g.on hi).2.2.2.2.2.1
  ·rw[q.1]at ht;cases ht
def fwN(w:Work)(l:List Int):Nat→Work
 | 0=>w
 | i+1=>if((fwN w l i).fwd (l.getD i default)).2.2=0 then((fwN w l i).fwd (l.getD i default)).1 else fwN w l i
def Work.ckc(w:Work)(a b c d e:Nat):List AV:=[int w.heap.C.pw,int w.heap.C.pg,.ow a,.ow b,int w.heap.S,int w.heap.B,.ow c,.ow d,.ow e,int w.D,int w.rep.copied,int w.rep.kept,int w.rep.filled,int w.rep.freed,int w.rep.cleared,int w.rep.steps]
def Work.ckB(w:Work)(a b c d e:Nat):Blk:=.box 140 (w.ckc a b c d e)
def Z0u(l:List Int):Blk:=.arr 35 1 (l.map wdv)
def Z3y(l:List Int):Blk:=.arr 3 1 (l.map idv)
def Z23(l:List Page):Blk:=.arr 84 4 (l.map Page.dv)
def Work.ckp(w:Work):List Blk:=[w.ckB 1 2 3 4 5,Z0u w.heap.W,Z23 w.heap.P,Z0u w.old,Z3y w.T,Z0u w.Q]
def Work.ckq(w:Work):List Blk:=[w.ckB 1 6 3 7 8,Z0u w.heap.W,.dead,Z0u w.old,.dead,.dead,Z23 w.heap.P,Z3y w.T,Z0u w.Q]
def Work.ckr(w:Work):List Blk:=[w.ckB 1 2 3 4 6,Z0u w.heap.W,Z23 w.heap.P,Z0u w.old,Z3y w.T,.dead,Z0u w.Q]
def Work.cks(w:Work):List Blk:=[w.ckB 1 6 3 7 5,Z0u w.heap.W,.dead,Z0u w.old,.dead,Z0u w.Q,Z23 w.heap.P,Z3y w.T]
structure LnOk (w:Work):Prop where
 wl:w.heap.W.length≤1048576
 pl:w.heap.P.length≤1048576
 ol:w.old.length≤1048576
 tl:w.T.length≤1048576
 ql:w.Q.length≤1048576
theorem CkOk.ln{w:Work}(k:CkOk w):LnOk w:=by
 have h1:=k.ok.mu;have h2:=k.ok.ol;have h3:=k.ok.wl;have h4:=k.ok.pl;have h5:=validB_iff.1 k.ok.C;have h6:=k.ok.tl;exact⟨by omega,by omega,by omega,by omega,by omega⟩
theorem ZpH{c:Conf}{a:Int}(hv:Z05 c=true)(h:4096≤a∧a-4096<c.pw*c.pg):(ofA c a).2.2=0∧(ofA c a).1*c.pw+(ofA c a).2.1=a-4096∧0≤(ofA c a).1*c.pw∧(ofA c a).1*c.pw≤a-4096∧0≤(ofA c a).2.1:=by
 have cf:=validB_iff.1 hv;have e:(ofA c a).2.2=0:=by
  unfold ofA;rw[if_pos hv,if_pos oq]
 have o:=Z2C hv e;have:=Int.mul_nonneg o.1 (show 0≤c.pw by omega);omega
structure MemOk (w:Work):Prop where
 C:Z05 w.heap.C=true
 wl:w.heap.W.length≤4096
 pl:(w.heap.P.length:Int)=w.heap.C.pg
 L:(w.heap.W.length:Int)=w.heap.C.pw*w.heap.C.pg
theorem CkOk.mem{w:Work}(k:CkOk w):MemOk w:=⟨k.ok.C,k.ok.wl,k.ok.pl,k.L⟩
def ckX(pw pg sp bm sc r1 r2 r3 r4 r5 r6:Int)(a b c d e:Nat):Blk:=.box 140 [int pw,int pg,.ow a,.ow b,int sp,int bm,.ow c,.ow d,.ow e,int sc,int r1,int r2,int r3,int r4,int r5,int r6]
theorem Z9Q(pw pg sp bm sc r1 r2 r3 r4 r5 r6:Int)(ws ol q tk:List Int)(ps:List Page)(hs:sp=0∨sp=1):BP 140 [.pt 0 0 0] [ckX pw pg sp bm sc r1 r2 r3 r4 r5 r6 1 2 3 4 5,Z0u ws,Z23 ps,Z0u ol,Z3y tk,Z0u q] (int (1-sp)) [ckX pw pg sp bm sc r1 r2 r3 r4 r5 r6 1 2 3 4 5,Z0u ws,Z23 ps,Z0u ol,Z3y tk,Z0u q]:=by
 exact borF [0,1,2,3,4,5] [] Tryz.func140 [] (Fi 8 (1-sp) Fz)
theorem Z2R(w:Work)(i:Int)(hw:CkOk w):BP 89 [.pt 0 0 0,int i] w.ckp (bool (Z0G w i)) w.ckp:=by
 have k:=hw.ok;have mu:=k.mu;have pl:=k.pl;have cf:=validB_iff.1 k.C;have tl:=k.tl;have sp:=k.sp;have so:=fun h=>hw.so.at (i:=i.toNat) h;rcases bb (decide (i<0)||decide ((↑w.heap.P.length:Int)≤i))with hc0 | hc0<;>have hc0p:=hc0<;>simp only[bs]at hc0p
 ·exact borF [0,1,2,3,4,5] [] Tryz.func89 (fO 8) (FlG 15 (!decide (i<0)) Page.dv w.heap.P (Ft 17 hc0 (Fa (by(simp[Z0G, *];omega):false=Z0G w i) Fz)))
 ·obtain⟨hc0pa,hc0pb⟩:=hc0p;have Q0 {h_ c_ p_} (r_:Fq h_ c_ p_):=FlG 15 (!decide (i<0)) Page.dv w.heap.P (Ff 17 hc0 (Fmq 25 Page.dv w.heap.P i r_));rcases bb ((w.heap.P.getD i.toNat default).K==1)with hc1 | hc1<;>have hc1p:=hc1<;>simp only[bs]at hc1p
  ·exact borF [0,1,2,3,4,5] [] Tryz.func89 (fO 19) (Fh 28 [.br true] (Q0 (Fa hc1 (Fbq 33 [0,1,2,3,4,5] (@Z9Q w.heap.C.pw w.heap.C.pg w.heap.S w.heap.B w.D w.rep.copied w.rep.kept w.rep.filled w.rep.freed w.rep.cleared w.rep.steps w.heap.W w.old w.Q w.T w.heap.P aa) (FcG 42 (true&&(w.heap.P.getD i.toNat default).S==1-w.heap.S) (fun hg=>by(try simp only[bs]at hg);exact @Zck w.T i oq) (Fa (by grind[Z0G]:((w.heap.P.getD i.toNat default).S==1-w.heap.S&&!decide (i∈w.T))=Z0G w i) Fz))))))
  ·exact borF [0,1,2,3,4,5] [] Tryz.func89 (fO 19) (Fh 28 [.br false] (Fh 33 [.bor [0,1,2,3,4,5] (int (1-w.heap.S)) []] (Q0 (Fa hc1 (FcG 42 (false&&(w.heap.P.getD i.toNat default).S==1-w.heap.S) (fun hg=>by(try simp only[bs]at hg);exact @Zck w.T i oq) (Fa (by(simp only[Z0G] ;exact sj):false=Z0G w i) Fz))))))
theorem Z2v(w:Work)(a n:Int)(hw:MemOk w)(h:4096≤a∧1≤n∧a-4096+n≤w.heap.W.length):BP 136 [.pt 0 0 0,u64 a,int n] w.ckp (.tu [.os 1 (a-4096).toNat n.toNat,bool true]) w.ckp:=by
 have wl:=hw.wl;have pl:=hw.pl;have cf:=validB_iff.1 hw.C;have L:=hw.L;have hv:=hw.C;have o:=ZpH (c:=w.heap.C) (a:=a) hv oq;have eo:(ofA w.heap.C a).2.2=0:=o.1;have q:=o.2.1;have r1:=o.2.2;have ei0:IntKind.i64.wrap ((ofA w.heap.C a).1*w.heap.C.pw)=(ofA w.heap.C a).1*w.heap.C.pw:=wrapI' oq oq;have ei1:IntKind.i64.wrap ((ofA w.heap.C a).1*w.heap.C.pw+(ofA w.heap.C a).2.1)=a-4096:=by rw[q];exact wrapI' oq oq
 exact borF [0,1,2,3,4,5] [] Tryz.func136 (fO 10) (Fc 19 (@Z2n w.heap.C a oq oq) (Fi 30 ((ofA w.heap.C a).fst*w.heap.C.pw) (Fi 32 ((ofA w.heap.C a).fst*w.heap.C.pw+(ofA w.heap.C a).snd.fst) (FlG 42 (!(ofA w.heap.C a).snd.snd != 0) wdv w.heap.W (FiG 44 (!(ofA w.heap.C a).snd.snd != 0) ((↑w.heap.W.length:Int)-((ofA w.heap.C a).fst*w.heap.C.pw+(ofA w.heap.C a).snd.fst)) (Ffb 46 ((ofA w.heap.C a).snd.snd != 0||decide ((↑w.heap.W.length:Int)-((ofA w.heap.C a).fst*w.heap.C.pw+(ofA w.heap.C a).snd.fst)<n)) (Fi 55 ((ofA w.heap.C a).fst*w.heap.C.pw+(ofA w.heap.C a).snd.fst+n) (Fa (by(simp only[List.length_map];omega):0≤(ofA w.heap.C a).fst*w.heap.C.pw+(ofA w.heap.C a).snd.fst∧(ofA w.heap.C a).fst*w.heap.C.pw+(ofA w.heap.C a).snd.fst≤(ofA w.heap.C a).fst*w.heap.C.pw+(ofA w.heap.C a).snd.fst+n∧(ofA w.heap.C a).fst*w.heap.C.pw+(ofA w.heap.C a).snd.fst+n≤(↑(List.map wdv w.heap.W).length:Int)) (Fa (by(simp[eo, *];omega):AV.os 1 ((ofA w.heap.C a).fst*w.heap.C.pw+(ofA w.heap.C a).snd.fst).toNat (((ofA w.heap.C a).fst*w.heap.C.pw+(ofA w.heap.C a).snd.fst+n).toNat-((ofA w.heap.C a).fst*w.heap.C.pw+(ofA w.heap.C a).snd.fst).toNat)=AV.os 1 (a-4096).toNat n.toNat) (Ftt Fz))))))))))
theorem ZmG(pw pg sp bm sc r1 r2 r3 r4 r5 r6 r:Int)(ws ol q tk:List Int)(ps:List Page)(hq:q.length≤1000000)(hr:0≤r2∧r2≤1000000):BP 139 [.pt 0 0 0,u64 r] [ckX pw pg sp bm sc r1 r2 r3 r4 r5 r6 1 2 3 4 5,Z0u ws,Z23 ps,Z0u ol,Z3y tk,Z0u q] (.tu [u64 r,int 0]) [ckX pw pg sp bm sc r1 (r2+1) r3 r4 r5 r6 1 2 3 4 6,Z0u ws,Z23 ps,Z0u ol,Z3y tk,.dead,Z0u (q++[r])]:=by
 have ei0:IntKind.i64.wrap (r2+1)=r2+1:=wrapI' oq oq;exact borF [0,1,2,3,4,8005] [24013] Tryz.func139 [] (Fh 13 [.els (List.map wdv (q++[r]))] (Fs 12 (List.map wdv [r]) (Fa (by(simp[*];omega):(List.map wdv q).length+(List.map wdv [r]).length≤2^30) (Fa (ms:List.map wdv q++List.map wdv [r]=List.map wdv (q++[r])) (Fi 21 (r2+1) Fz)))))
theorem ZjO(w:Work)(n:Int)(hw:CkOk w)(hn:1≤n∧n≤256)(h:Z2u w n):BP 142 [.pt 0 0 0,int n] w.ckp (.tu [int (Z0k w),int (w.heap.P.getD (Z0k w).toNat default).U,int 0]) w.ckp:=by
 have k:=hw.ok;have mu:=k.mu;have pl:=k.pl;have cf:=validB_iff.1 k.C;have tl:=k.tl;have hm:=k.tk _ (Z17 h.1);have hu:=k.us (Z0k w).toNat oq
 have h':=h;unfold Z2u at h';have ei0:IntKind.i64.wrap ((w.T.length:Int)-1)=(w.T.length:Int)-1:=wrapI' oq oq;have ei1:IntKind.i64.wrap (w.heap.C.pw-(w.heap.P.getD (w.T.getD ((w.T.length:Int)-1).toNat default).toNat default).U)=w.heap.C.pw-(w.heap.P.getD (w.T.getD ((w.T.length:Int)-1).toNat default).toNat default).U:=by
  unfold Z0k at hu;exact wrapI' oq oq
 unfold Z0k at *;let y0:=(↑w.T.length:Int)-1;let y2:=w.heap.P.getD (w.T.getD y0.toNat default).toNat default;let y3:=0<(↑w.T.length:Int);let y1:=decide y3&&decide (0≤w.T.getD y0.toNat default);exact borF [0,1,2,3,4,5] [] Tryz.func142 [] (Fl 17 idv w.T (FiG 26 (decide y3) y0 (FmGq 28 (decide y3) idv w.T y0 (FiG 37 y1 y0 (FmGq 39 y1 idv w.T y0 (FlG 45 y1 Page.dv w.heap.P (Ftb 47 (decide y3&&decide (0≤w.T.getD y0.toNat default)&&decide (w.T.getD y0.toNat default<(↑w.heap.P.length:Int))) (Fi 53 y0 (Fmq 55 idv w.T y0 (Fmq 64 Page.dv w.heap.P (w.T.getD y0.toNat default) (Fi 73 (w.heap.C.pw-y2.U) (Ftb 74 (decide (n≤w.heap.C.pw-y2.U)) Fz))))))))))))
theorem Zht(w:Work)(n:Int)(hw:CkOk w)(hn:1≤n∧n≤256)(h:¬ Z2u w n)(hf:¬ 0≤Z0e w):BP 142 [.pt 0 0 0,int n] w.ckp (.tu [int 0,int 0,int 3]) w.ckp:=by
 have k:=hw.ok;have mu:=k.mu;have pl:=k.pl;have cf:=validB_iff.1 k.C;have tl:=k.tl;have hu:=fun q=>k.us (Z0k w).toNat q;unfold Z2u at h;unfold Z0k at h hu;unfold Z0e at hf;have ei0:0<w.T.length→IntKind.i64.wrap ((w.T.length:Int)-1)=(w.T.length:Int)-1:=fun _=>wrapI' oq oq;have Q0 {h_ c_ p_} (r_:Fq h_ c_ p_):=Fl 17 idv w.T (FiG 26 (decide (0<(↑w.T.length:Int))) ((↑w.T.length:Int)-1) (FmGq 28 (decide (0<(↑w.T.length:Int))) idv w.T ((↑w.T.length:Int)-1) (FiG 37 (decide (0<(↑w.T.length:Int))&&decide (0≤w.T.getD ((↑w.T.length:Int)-1).toNat default)) ((↑w.T.length:Int)-1) (FmGq 39 (decide (0<(↑w.T.length:Int))&&decide (0≤w.T.getD ((↑w.T.length:Int)-1).toNat default)) idv w.T ((↑w.T.length:Int)-1) (FlG 45 (decide (0<(↑w.T.length:Int))&&decide (0≤w.T.getD ((↑w.T.length:Int)-1).toNat default)) Page.dv w.heap.P r_)))));rcases bb (decide (0<(↑w.T.length:Int))&&decide (0≤w.T.getD ((↑w.T.length:Int)-1).toNat default)&&decide (w.T.getD ((↑w.T.length:Int)-1).toNat default<(↑w.heap.P.length:Int)))with hc0 | hc0<;>have hc0p:=hc0<;>simp only[bs]at hc0p
 ·obtain⟨⟨hc0paa,hc0pab⟩,hc0pb⟩:=hc0p;exact borF [0,1,2,3,4,5] [] Tryz.func142 [] (Q0 (Ft 47 hc0 (Fi 53 ((↑w.T.length:Int)-1) (Fmq 55 idv w.T ((↑w.T.length:Int)-1) (Fmq 64 Page.dv w.heap.P (w.T.getD ((↑w.T.length:Int)-1).toNat default) (Fi 73 (w.heap.C.pw-(w.heap.P.getD (w.T.getD ((↑w.T.length:Int)-1).toNat default).toNat default).U) (Ffb 74 (decide (n≤w.heap.C.pw-(w.heap.P.getD (w.T.getD ((↑w.T.length:Int)-1).toNat default).toNat default).U)) (Fc 82 (@Z7a w.heap.P (1) oq) (Ftb 84 (decide (first w.heap.P (1:Int)<0)) Fz)))))))))
 ·exact borF [0,1,2,3,4,5] [] Tryz.func142 [] (Q0 (Ff 47 hc0 (Fc 82 (@Z7a w.heap.P (1) oq) (Ftb 84 (decide (first w.heap.P (1:Int)<0)) Fz))))
def Work.took(w:Work):Work:=⟨⟨w.heap.C,w.heap.W,Z1P w,w.heap.S,w.heap.B⟩,w.old,w.T++[Z0e w],w.Q,w.D,w.rep⟩
theorem ZjC(w:Work)(n:Int)(hw:CkOk w)(hn:1≤n∧n≤256)(h:¬ Z2u w n)(hf:0≤Z0e w):BP 142 [.pt 0 0 0,int n] w.ckp (.tu [int (Z0e w),int 0,int 0]) w.took.cks:=by
 have k:=hw.ok;have mu:=k.mu;have pl:=k.pl;have cf:=validB_iff.1 k.C;have tl:=k.tl;have sp:=k.sp;have hu:=fun q=>k.us (Z0k w).toNat q;unfold Z2u at h;unfold Z0k at h hu;obtain⟨f1,f2,f3,f4⟩:=Z2D (h:=⟨w.heap.C,w.heap.W,w.heap.P,1-w.heap.S,w.heap.B⟩) (by simp only;omega) hf;have f1':Z1P w=tookP w.heap.P (Z0e w).toNat 1 ⟨1,1-w.heap.S,0,0⟩ ⟨0,0,0,0⟩:=f1;have ff:=Z1j hf;have ei0:0<w.T.length→IntKind.i64.wrap ((w.T.length:Int)-1)=(w.T.length:Int)-1:=fun _=>wrapI' oq oq;unfold Work.took;rw[f1'];unfold Z0e at *;have Q0 {h_ c_ p_} (r_:Fq h_ c_ p_):=Fl 17 idv w.T (FiG 26 (decide (0<(↑w.T.length:Int))) ((↑w.T.length:Int)-1) (FmGq 28 (decide (0<(↑w.T.length:Int))) idv w.T ((↑w.T.length:Int)-1) (FiG 37 (decide (0<(↑w.T.length:Int))&&decide (0≤w.T.getD ((↑w.T.length:Int)-1).toNat default)) ((↑w.T.length:Int)-1) (FmGq 39 (decide (0<(↑w.T.length:Int))&&decide (0≤w.T.getD ((↑w.T.length:Int)-1).toNat default)) idv w.T ((↑w.T.length:Int)-1) (FlG 45 (decide (0<(↑w.T.length:Int))&&decide (0≤w.T.getD ((↑w.T.length:Int)-1).toNat default)) Page.dv w.heap.P r_)))));rcases bb (decide (0<(↑w.T.length:Int))&&decide (0≤w.T.getD ((↑w.T.length:Int)-1).toNat default)&&decide (w.T.getD ((↑w.T.length:Int)-1).toNat default<(↑w.heap.P.length:Int)))with hc0 | hc0<;>have hc0p:=hc0<;>simp only[bs]at hc0p
 ·obtain⟨⟨hc0paa,hc0pab⟩,hc0pb⟩:=hc0p;exact borF [0,1,8002,3,8004,5] [81094,96109] Tryz.func142 [] (Fh 109 [.els (List.map idv (w.T++[first w.heap.P 1]))] (Q0 (Ft 47 hc0 (Fi 53 ((↑w.T.length:Int)-1) (Fmq 55 idv w.T ((↑w.T.length:Int)-1) (Fmq 64 Page.dv w.heap.P (w.T.getD ((↑w.T.length:Int)-1).toNat default) (Fi 73 (w.heap.C.pw-(w.heap.P.getD (w.T.getD ((↑w.T.length:Int)-1).toNat default).toNat default).U) (Ffb 74 (decide (n≤w.heap.C.pw-(w.heap.P.getD (w.T.getD ((↑w.T.length:Int)-1).toNat default).toNat default).U)) (Fc 82 (@Z7a w.heap.P (1) oq) (Ffb 84 (decide (first w.heap.P (1:Int)<0)) (Fbq 93 [0,1,8002,3,8004,5] (@Z9Q w.heap.C.pw w.heap.C.pg w.heap.S w.heap.B w.D w.rep.copied w.rep.kept w.rep.filled w.rep.freed w.rep.cleared w.rep.steps w.heap.W w.old w.Q w.T w.heap.P aa) (Fc 94 (@Zad w.heap.P (first w.heap.P 1) (1-w.heap.S) oq oq oq (by grind[])) (Fs 108 (List.map idv [first w.heap.P 1]) (Fa (by(simp[*];omega):(List.map idv w.T).length+(List.map idv [first w.heap.P 1]).length≤2^30) (Fa (ms:List.map idv w.T++List.map idv [first w.heap.P 1]=List.map idv (w.T++[first w.heap.P 1])) Fz)))))))))))))))
 ·exact borF [0,1,8002,3,8004,5] [57094,72109] Tryz.func142 [] (Fh 109 [.els (List.map idv (w.T++[first w.heap.P 1]))] (Q0 (Ff 47 hc0 (Fc 82 (@Z7a w.heap.P (1) oq) (Ffb 84 (decide (first w.heap.P (1:Int)<0)) (Fbq 93 [0,1,8002,3,8004,5] (@Z9Q w.heap.C.pw w.heap.C.pg w.heap.S w.heap.B w.D w.rep.copied w.rep.kept w.rep.filled w.rep.freed w.rep.cleared w.rep.steps w.heap.W w.old w.Q w.T w.heap.P aa) (Fc 94 (@Zad w.heap.P (first w.heap.P 1) (1-w.heap.S) oq oq oq (by grind[])) (Fs 108 (List.map idv [first w.heap.P 1]) (Fa (by(simp[*];omega):(List.map idv w.T).length+(List.map idv [first w.heap.P 1]).length≤2^30) (Fa (ms:List.map idv w.T++List.map idv [first w.heap.P 1]=List.map idv (w.T++[first w.heap.P 1])) Fz))))))))))
def Work.put(w:Work)(i:Nat)(r a n:Int):Work:=⟨⟨w.heap.C,(Z0J (moveA w.heap.W a r n).1 r (4*a+2)).1,Z1B w.heap.P i n,w.heap.S,w.heap.B⟩,w.old,w.T,w.Q++[a],w.D,⟨w.rep.copied+1,w.rep.kept,w.rep.filled,w.rep.freed,w.rep.cleared,w.rep.steps⟩⟩
theorem Znm{ws:List Int}{i:Nat}{v:Int}(h:i<ws.length):spl ws i [v]=ws.set i v:=by
 rw[List.set_eq_take_append_cons_drop,if_pos h,spl];simp
theorem ZoC{ws:List Int}{a r:Int}{n:Nat}(hn:1≤n)(ha:4096≤a∧a-4096+n≤ws.length)(hr:4096≤r∧r-4096+n≤ws.length) :
  (ws.take (a-4096).toNat++(ws.drop (r-4096).toNat).take n++ws.drop ((a-4096).toNat+((ws.drop (r-4096).toNat).take n).length)).set (r-4096).toNat (4*a+2)=(Z0J (moveA ws a r n).1 r (4*a+2)).1:=by
 have e1:Z1i ws r n=((ws.drop (r-4096).toNat).take n,0):=by rw[Z1i,if_neg oq,if_pos hr];rfl
 have hl:((ws.drop (r-4096).toNat).take n).length=n:=by simp;omega
 have e2:(moveA ws a r n).1=spl ws (a-4096).toNat ((ws.drop (r-4096).toNat).take n):=by
  rw[moveA,e1];simp only[if_neg (show ¬ (0:Int)≠0 by simp)];rw[Z0z,if_pos oq]
 rw[e2];have hL:=Z3P (ws:=ws) (l:=(ws.drop (r-4096).toNat).take n) (i:=(a-4096).toNat) oq;rw[Z0J,Z0z,if_pos (by simp only[List.length_singleton];omega),Znm oq];rfl
section
variable (w:Work) (r i off:Int) (n:Nat) (hw:MemOk w) (hq:w.Q.length≤1000000) (rk:0≤w.rep.copied∧w.rep.copied≤1000000) (hu:0≤(w.heap.P.getD i.toNat default).U∧(w.heap.P.getD i.toNat default).U≤1024) (hr:4096≤r∧1≤n∧r-4096+n≤w.heap.W.length) (hi:0≤i∧i<w.heap.P.length) (ha:(address w.heap.C i off).2=0) (har:4096≤(address w.heap.C i off).1∧(address w.heap.C i off).1-4096+n≤w.heap.W.length)
include hw hq rk hu hr hi ha har
theorem ckTo:BP 143 [.ag [.pt 0 0 0,.os 1 (r-4096).toNat n],int i,int off] w.ckp (.tu [u64 (address w.heap.C i off).1,int 0]) (w.put i.toNat r (address w.heap.C i off).1 n).ckr:=by
 have wl:=hw.wl;have pl:=hw.pl;have hs:=ZoC (ws:=w.heap.W) (a:=(address w.heap.C i off).1) (r:=r) (n:=n) hr.2.1 har oq;have hs2:List.map wdv ((w.heap.W.take ((address w.heap.C i off).1-4096).toNat++(w.heap.W.drop (r-4096).toNat).take n++w.heap.W.drop (((address w.heap.C i off).1-4096).toNat+((w.heap.W.drop (r-4096).toNat).take n).length)).set ((r-4096).toNat+Int.toNat 0) (4*(address w.heap.C i off).1+2))=List.map wdv (w.put i.toNat r (address w.heap.C i off).1 n).heap.W:=congrArg _ hs;have hn:=hr.2.1;have ei0:IntKind.i64.wrap ((w.heap.P.getD i.toNat default).U+n)=(w.heap.P.getD i.toNat default).U+n:=wrapI' oq oq;have ei1:IntKind.i64.wrap (w.rep.copied+1)=w.rep.copied+1:=wrapI' oq oq;exact borF [0,1,2,3,4,8005] [88082] Tryz.func143 (fO 4) (Fh 52 [.els (List.map wdv (List.take ((address w.heap.C i off).fst-4096).toNat w.heap.W++List.take n (List.drop (r-4096).toNat w.heap.W)++List.drop (((address w.heap.C i off).fst-4096).toNat+(List.take n (List.drop (r-4096).toNat w.heap.W)).length) w.heap.W))] (Fh 10056 [.els (List.map wdv ((List.take ((address w.heap.C i off).fst-4096).toNat w.heap.W++List.take n (List.drop (r-4096).toNat w.heap.W)++List.drop (((address w.heap.C i off).fst-4096).toNat+(List.take n (List.drop (r-4096).toNat w.heap.W)).length) w.heap.W).set ((r-4096).toNat+Int.toNat 0) (4*(address w.heap.C i off).fst+2)))] (Fh 82 [.els (List.map wdv (w.Q++[(address w.heap.C i off).fst]))] (Fc 22 (@Z3M w.heap.C i off) (Ffb 26 ((address w.heap.C i off).snd != 0) (Fbq 35 [0,1,2,3,4,8005] (@Z2v w ((address w.heap.C i off).fst) ((↑n:Int)) aa oq) (Fc 40 (@Zby ((address w.heap.C i off).fst) oq) (Fa (by(simp[ha,Work.put,Z1B, *];omega):(List.take n (List.drop (r-4096).toNat (List.map wdv w.heap.W))).length≤(↑n:Int).toNat) (Fa (by(simp[Z0M]):Z0M (List.map wdv w.heap.W) ((address w.heap.C i off).fst-4096).toNat (List.take n (List.drop (r-4096).toNat (List.map wdv w.heap.W)))=List.map wdv (List.take ((address w.heap.C i off).fst-4096).toNat w.heap.W++List.take n (List.drop (r-4096).toNat w.heap.W)++List.drop (((address w.heap.C i off).fst-4096).toNat+(List.take n (List.drop (r-4096).toNat w.heap.W)).length) w.heap.W)) (Fo ((0:Int)≤0∧Int.toNat 0<n) (Fa (by(simp[ha,Work.put,Z1B, *];omega):(r-4096).toNat+Int.toNat 0<(List.map wdv (List.take ((address w.heap.C i off).fst-4096).toNat w.heap.W++List.take n (List.drop (r-4096).toNat w.heap.W)++List.drop (((address w.heap.C i off).fst-4096).toNat+(List.take n (List.drop (r-4096).toNat w.heap.W)).length) w.heap.W)).length) (Fa (by simp[ha,Work.put,Z1B,List.map_take,List.map_drop,List.map_set,List.map_append,wdv,idv]:(List.map wdv (List.take ((address w.heap.C i off).fst-4096).toNat w.heap.W++List.take n (List.drop (r-4096).toNat w.heap.W)++List.drop (((address w.heap.C i off).fst-4096).toNat+(List.take n (List.drop (r-4096).toNat w.heap.W)).length) w.heap.W)).set ((r-4096).toNat+Int.toNat 0) [du64 (4*(address w.heap.C i off).fst+2)]=List.map wdv ((List.take ((address w.heap.C i off).fst-4096).toNat w.heap.W++List.take n (List.drop (r-4096).toNat w.heap.W)++List.drop (((address w.heap.C i off).fst-4096).toNat+(List.take n (List.drop (r-4096).toNat w.heap.W)).length) w.heap.W).set ((r-4096).toNat+Int.toNat 0) (4*(address w.heap.C i off).fst+2))) (Fmq 66 Page.dv w.heap.P i (Fi 70 ((w.heap.P.getD i.toNat default).U+(↑n:Int)) (Fm0q Page.dv w.heap.P i (FS 10072 Page.dv w.heap.P i.toNat (Page.mk (w.heap.P.getD i.toNat default).K (w.heap.P.getD i.toNat default).S ((w.heap.P.getD i.toNat default).U+(↑n:Int)) (w.heap.P.getD i.toNat default).N) ((w.heap.P.getD i.toNat default).dv) (Fs 81 (List.map wdv [(address w.heap.C i off).fst]) (Fa (by(simp[ha,Work.put,Z1B, *];omega):(List.map wdv w.Q).length+(List.map wdv [(address w.heap.C i off).fst]).length≤2^30) (Fa (by(simp[Z0M]):List.map wdv w.Q++List.map wdv [(address w.heap.C i off).fst]=List.map wdv (w.Q++[(address w.heap.C i off).fst])) (Fi 91 (w.rep.copied+1) (Fr (35:Int) (Fa (by refine congrArg _ ?_;assumption:List.map wdv ((List.take ((address w.heap.C i off).fst-4096).toNat w.heap.W++List.take n (List.drop (r-4096).toNat w.heap.W)++List.drop (((address w.heap.C i off).fst-4096).toNat+(List.take n (List.drop (r-4096).toNat w.heap.W)).length) w.heap.W).set ((r-4096).toNat+Int.toNat 0) (4*(address w.heap.C i off).fst+2))=List.map wdv (w.put i.toNat r (address w.heap.C i off).fst (↑n:Int)).heap.W) Fz))))))))))))))))))))))
end
def ckfB(w:Work)(l:List Page):List (Nat×Blk):=[(2,Z23 l),(0,w.ckB 1 2 3 4 8005),(1,Z0u w.heap.W),(3,Z0u w.old),(4,Z3y w.T),(8005,Z0u w.Q)]
def ckfL(w:Work)(r x:Int)(m:Nat):Tg:=⟨tm 180 [(0,.pt 0 0 0),(1,u64 r),(4,u64 0),(5,int 0),(6,.os 1 (r-4096).toNat 1),(7,bool true),(13,int (x+1+m))],ckfB w (Z0n w.heap.P x.toNat m (1-w.heap.S)),15⟩
theorem Zmc(w:Work)(r x:Int)(m:Nat)(hs:w.heap.S=0∨w.heap.S=1)(hl:w.heap.P.length≤1048576)(hx:0≤x)(hm:m<Z0h w.heap.P x.toNat):CP (rndF Tryz.f85 0) (ckfL w r x m).st .nrm (ckfL w r x (m+1)).st:=by
 have ht:=Z6n hm;have ha:=Z8l (l:=w.heap.P) (i:=x.toNat) (m:=m) (1-w.heap.S);have hn:=Z1g w.heap.P x.toNat m (1-w.heap.S);have hq:=Zaj (1-w.heap.S) ht.1;unfold Z8r at hq;rw[← ha]at hq ht;have eN:x.toNat+1+m=(x+1+(m:Int)).toNat:=by omega
 have eI:((x.toNat+1+m:Nat):Int)=x+1+(m:Int):=by omega
 rw[eN]at ha hq ht;let y1:=Z0n w.heap.P x.toNat m (1-w.heap.S);let y2:=x+1+(↑m:Int);let y0:=y1.getD y2.toNat default;let y3:=x+1+(↑m:Int)<(↑y1.length:Int);let y4:=Page.mk y0.K (1-w.heap.S) y0.U y0.N;exact sF [] (fP 16) (Fl 109 Page.dv (Z0n w.heap.P x.toNat m ((1:Int)-w.heap.S)) (FmGq 120 (decide y3) Page.dv y1 y2 (Ftb 122 (decide y3&&y0.K==3) (Fbq 132 [0,1,2,3,4,8005] (@Z9Q w.heap.C.pw w.heap.C.pg w.heap.S w.heap.B w.D w.rep.copied w.rep.kept w.rep.filled w.rep.freed w.rep.cleared w.rep.steps w.heap.W w.old w.Q w.T y1 aa) (Fm0q Page.dv y1 y2 (FS 10134 Page.dv y1 (y2.toNat) y4 (y0.dv) (Fi 124 (x+1+(↑m:Int)+1) (Fo (x+1+(↑m:Int)+1=x+1+(↑(m+1):Int)) (Fr (84:Int) (Fa (by refine congrArg _ ?_;exact hq:List.map Page.dv (y1.set y2.toNat y4)=List.map Page.dv (Z0n w.heap.P x.toNat (m+1) (1-w.heap.S))) Fz))))))))))
theorem Zpk(w:Work)(r x:Int)(hl:w.heap.P.length≤1048576)(hx:0≤x):CP (rndF Tryz.f85 0) (ckfL w r x (Z0h w.heap.P x.toNat)).st (.ext 0) (Tg.st ⟨tm 180 [(0,.pt 0 0 0),(1,u64 r),(4,u64 0),(5,int 0),(6,.os 1 (r-4096).toNat 1),(7,bool true)],ckfB w (Z0n w.heap.P x.toNat (Z0h w.heap.P x.toNat) (1-w.heap.S)),15⟩):=by
 have ht:=fun h=>Zbn (l:=w.heap.P) (i:=x.toNat) h;have ha:=Z8l (l:=w.heap.P) (i:=x.toNat) (m:=Z0h w.heap.P x.toNat) (1-w.heap.S);have hn:=Z1g w.heap.P x.toNat (Z0h w.heap.P x.toNat) (1-w.heap.S)
 have eN:x.toNat+1+Z0h w.heap.P x.toNat=(x+1+(Z0h w.heap.P x.toNat:Int)).toNat:=by omega
 rw[← ha,eN]at ht;exact sF [] [] (Fl 109 Page.dv (Z0n w.heap.P x.toNat (Z0h w.heap.P x.toNat) ((1:Int)-w.heap.S)) (FmGq 120 (decide (x+1+(↑(Z0h w.heap.P x.toNat):Int)<(↑(Z0n w.heap.P x.toNat (Z0h w.heap.P x.toNat) (1-w.heap.S)).length:Int))) Page.dv (Z0n w.heap.P x.toNat (Z0h w.heap.P x.toNat) (1-w.heap.S)) (x+1+(↑(Z0h w.heap.P x.toNat):Int)) (Ffb 122 (decide (x+1+(↑(Z0h w.heap.P x.toNat):Int)<(↑(Z0n w.heap.P x.toNat (Z0h w.heap.P x.toNat) (1-w.heap.S)).length:Int))&&((Z0n w.heap.P x.toNat (Z0h w.heap.P x.toNat) (1-w.heap.S)).getD (x+1+(↑(Z0h w.heap.P x.toNat):Int)).toNat default).K==3) Fz)))
theorem Zne(w:Work)(r x:Int)(hs:w.heap.S=0∨w.heap.S=1)(hl:w.heap.P.length≤1048576)(hx:0≤x):CP (blkF Tryz.f85 0) (Tg.st ⟨tm 180 [(0,.pt 0 0 0),(1,u64 r),(4,u64 0),(5,int 0),(6,.os 1 (r-4096).toNat 1),(7,bool true),(13,int (x+1))],ckfB w (w.heap.P.set x.toNat ⟨(w.heap.P.getD x.toNat default).K,1-w.heap.S,(w.heap.P.getD x.toNat default).U,(w.heap.P.getD x.toNat default).N⟩),15⟩) .nrm (Tg.st ⟨tm 180 [(0,.pt 0 0 0),(1,u64 r),(4,u64 0),(5,int 0),(6,.os 1 (r-4096).toNat 1),(7,bool true)],ckfB w (Z0n w.heap.P x.toNat (Z0h w.heap.P x.toNat) (1-w.heap.S)),15⟩):=by
 have h:=Z0a (S:=fun k=>(ckfL w r x k).st) (Z0h w.heap.P x.toNat) kr (fun k hk=>Zmc w r x k hs hl hx hk) (Zpk w r x hl hx);have hz:=Zas (l:=w.heap.P) (i:=x.toNat) (1-w.heap.S);simp only[ckfL,hz,Z8r,Int.natCast_zero,Int.add_zero]at h;exact h
theorem FwOk.ld{w:Work}{r:Int}(f:FwOk w r)(c3:r∈w.old):(loadA w.heap.W r).1=w.heap.W.getD ((r-4096).toNat+Int.toNat 0) default:=by
 have h3:=f.ol c3;have lr:=Z0d w.heap.W r;unfold loadA;rw[if_pos oq];rfl
theorem ZoV(w:Work)(r:Int)(h0:0≤r∧r≤18446744073709551615)(ln:LnOk w)(c1:r=0∨r∈w.Q):BP 85 [.pt 0 0 0,u64 r] w.ckp (.tu [u64 r,int 0]) w.ckp:=by
 obtain⟨h1,h2,h3,h4,h5⟩:=ln;exact borF [0,1,2,3,4,5] [] Tryz.func85 [] (FcG 27 (!r==0) (fun hg=>by(try simp only[bs]at hg);exact @Z0P w.Q r aa) (Ftb 28 (r==0||decide (r∈w.Q)) Fz))
theorem Zps(w:Work)(r:Int)(h0:0≤r∧r≤18446744073709551615)(ln:LnOk w)(c1:r≠0)(c2:r∉w.Q)(c3:r∉w.old):BP 85 [.pt 0 0 0,u64 r] w.ckp (.tu [u64 0,int 19]) w.ckp:=by
 obtain⟨h1,h2,h3,h4,h5⟩:=ln;exact borF [0,1,2,3,4,5] [] Tryz.func85 [] (FcG 27 (!r==0) (fun hg=>by(try simp only[bs]at hg);exact @Z0P w.Q r aa) (Ffs 28 (r==0||decide (r∈w.Q)) (Fc 35 (@Z0P w.old r aa) (Ftb 36 (!decide (r∈w.old)) Fz))))
section
variable (w:Work) (r:Int) (f:FwOk w r)
include f
variable (c1:r≠0) (c2:r∉w.Q) (c3:r∈w.old)
include c1 c2 c3
theorem Zpd(c4:(Z08 (loadA w.heap.W r).1).2=true):BP 85 [.pt 0 0 0,u64 r] w.ckp (.tu [u64 (Z08 (loadA w.heap.W r).1).1,int 0]) w.ckp:=by
 have h0:=f.rg;have hk:=f.ck;have hmm:=hk.mem;have ok:=hk.ok;obtain⟨-,wl,-,pl,sp,ol,-,-,tl,-,-,mu,-,rk,-,-⟩:=id ok;have cf:=validB_iff.1 ok.C;have h3:=f.ol c3;have lr:=Z0d w.heap.W r;have o:=Z2C ok.C h3.2.2.1;have eof:=h3.2.2.1;have el:=f.ld c3;have ld:=Z0F ok.W r;rw[el]at c4 ld ⊢;have Q0 {h_ c_ p_} (r_:Fq h_ c_ p_):=FcG 27 (!r==0) (fun hg=>by(try simp only[bs]at hg);exact @Z0P w.Q r oq) r_;rcases bb (r==0||decide (r∈w.Q))with hc0 | hc0<;>have hc0p:=hc0<;>simp only[bs]at hc0p
 ·exact borF [0,1,2,3,4,5] [] Tryz.func85 (fO 6) (Q0 (Ft 28 hc0 (Fa (by grind[]:r=(Z08 (w.heap.W.getD ((r-4096).toNat+Int.toNat 0) default)).fst) (Fr (0:Int) Fz))))
 ·obtain⟨hc0pa,hc0pb⟩:=hc0p;let y0:=w.heap.W.getD ((r-4096).toNat+Int.toNat 0) default;exact borF [0,1,2,3,4,5] [] Tryz.func85 [] (Fh 48 [.el (wdv y0)] (Fh 52 [.br true] (Q0 (Ff 28 hc0 (Fc 35 (@Z0P w.old r oq) (Ffb 36 (!decide (r∈w.old)) (Fbq 40 [0,1,2,3,4,5] (@Z2v w r (1) aa oq) (Fo ((0:Int)≤0∧Int.toNat 0<Int.toNat 1) (Fa (by exact Z0C oq:(List.map wdv w.heap.W)[(r-4096).toNat+Int.toNat 0]? = some (wdv y0)) (Fc 49 (@Z1K y0 oq oq) (Fa ‹(Z08 y0).snd=true› Fz)))))))))))
variable (c4:(Z08 (loadA w.heap.W r).1).2=false)
include c4
theorem ZpN(c6:Z0G w (ofA w.heap.C r).1=true):BP 85 [.pt 0 0 0,u64 r] w.ckp (.tu [u64 r,int 0]) (w.keep r).ckr:=by
 have h0:=f.rg;have hk:=f.ck;have hmm:=hk.mem;have ok:=hk.ok;obtain⟨-,wl,-,pl,sp,ol,-,-,tl,-,-,mu,-,rk,-,-⟩:=id ok;have cf:=validB_iff.1 ok.C;have h3:=f.ol c3;have lr:=Z0d w.heap.W r;have o:=Z2C ok.C h3.2.2.1;have eof:=h3.2.2.1;have el:=f.ld c3;have ld:=Z0F ok.W r;rw[el]at c4 ld;rcases bb (r==0||decide (r∈w.Q))with hc0 | hc0<;>have hc0p:=hc0<;>simp only[bs]at hc0p
 ·rw[show w.keep r=w from by exact absurd hc0p (by simp[c1,c2])];exact absurd hc0p (by simp[c1,c2])
 ·obtain⟨hc0pa,hc0pb⟩:=hc0p;let y0:=w.heap.W.getD ((r-4096).toNat+Int.toNat 0) default;let y1:=ofA w.heap.C r;exact borF [0,1,2,3,4,8005] [97078] Tryz.func85 [] (Fh 48 [.el (wdv y0)] (Fh 72 [.br false] (Fh 75 [.bor [0,1,2,3,4,8005] (Sx.bool (Z0G w y1.fst)) [],.br true] (FcG 27 (!r==0) (fun hg=>by(try simp only[bs]at hg);exact @Z0P w.Q r oq) (Ff 28 hc0 (Fc 35 (@Z0P w.old r oq) (Ffb 36 (!decide (r∈w.old)) (Fbq 40 [0,1,2,3,4,8005] (@Z2v w r (1) aa oq) (Fo ((0:Int)≤0∧Int.toNat 0<Int.toNat 1) (Fa (by exact Z0C oq:(List.map wdv w.heap.W)[(r-4096).toNat+Int.toNat 0]? = some (wdv y0)) (Fc 49 (@Z1K y0 oq oq) (Fa ‹(Z08 y0).snd=false› (Fc 61 (@Z2n w.heap.C r oq oq) (Fl 71 Page.dv w.heap.P (Ffb 52 (decide ((↑w.heap.P.length:Int)≤y1.fst)) (Fa (@Z2R w (y1.fst) aa) (Fa ‹Z0G w y1.fst=true› (Fbr 78 [0,1,2,3,4,8005] (@ZmG w.heap.C.pw w.heap.C.pg w.heap.S w.heap.B w.D w.rep.copied w.rep.kept w.rep.filled w.rep.freed w.rep.cleared w.rep.steps r w.heap.W w.old w.Q w.T w.heap.P oq oq) Fz))))))))))))))))))
theorem ZoO(c6:Z0G w (ofA w.heap.C r).1=false)(c7:(w.heap.P.getD (Z16 w r) default).K=2):BP 85 [.pt 0 0 0,u64 r] w.ckp (.tu [u64 r,int 0]) ((w.flip (Z16 w r)).keep r).ckr:=by
 have h0:=f.rg;have hk:=f.ck;have hmm:=hk.mem;have ok:=hk.ok;obtain⟨-,wl,-,pl,sp,ol,-,-,tl,-,-,mu,-,rk,-,-⟩:=id ok;have cf:=validB_iff.1 ok.C;have h3:=f.ol c3;have lr:=Z0d w.heap.W r;have o:=Z2C ok.C h3.2.2.1;have eof:=h3.2.2.1;have el:=f.ld c3;have ld:=Z0F ok.W r;rw[el]at c4 ld;unfold Z16 at c7;rcases bb (r==0||decide (r∈w.Q))with hc0 | hc0<;>have hc0p:=hc0<;>simp only[bs]at hc0p
 ·rw[show(w.flip (Z16 w r)).keep r=w from by exact absurd hc0p (by simp[c1,c2])];exact absurd hc0p (by simp[c1,c2])
 ·obtain⟨hc0pa,hc0pb⟩:=hc0p;let y0:=ofA w.heap.C r;let y1:=w.heap.W.getD ((r-4096).toNat+Int.toNat 0) default;let y2:=w.heap.P.getD y0.fst.toNat default;exact borF [0,1,2,3,4,8005] [121137] Tryz.func85 [] (Fh 48 [.el (wdv y1)] (Fh 72 [.br false] (Fh 75 [.bor [0,1,2,3,4,8005] (Sx.bool (Z0G w y0.fst)) [],.br false] (FcG 27 (!r==0) (fun hg=>by(try simp only[bs]at hg);exact @Z0P w.Q r oq) (Ff 28 hc0 (Fc 35 (@Z0P w.old r oq) (Ffb 36 (!decide (r∈w.old)) (Fbq 40 [0,1,2,3,4,8005] (@Z2v w r (1) aa oq) (Fo ((0:Int)≤0∧Int.toNat 0<Int.toNat 1) (Fa (by exact Z0C oq:(List.map wdv w.heap.W)[(r-4096).toNat+Int.toNat 0]? = some (wdv y1)) (Fc 49 (@Z1K y1 oq oq) (Fa ‹(Z08 y1).snd=false› (Fc 61 (@Z2n w.heap.C r oq oq) (Fl 71 Page.dv w.heap.P (Ffb 52 (decide ((↑w.heap.P.length:Int)≤y0.fst)) (Fa (@Z2R w (y0.fst) aa) (Fa ‹Z0G w y0.fst=false› (Fmq 89 Page.dv w.heap.P (y0.fst) (Ftb 90 (y2.K==2) (Fbq 98 [0,1,2,3,4,8005] (@Z9Q w.heap.C.pw w.heap.C.pg w.heap.S w.heap.B w.D w.rep.copied w.rep.kept w.rep.filled w.rep.freed w.rep.cleared w.rep.steps w.heap.W w.old w.Q w.T w.heap.P aa) (Fm0q Page.dv w.heap.P (y0.fst) (FS 10100 Page.dv w.heap.P (y0.fst.toNat) (Page.mk y2.K (1-w.heap.S) y2.U y2.N) (y2.dv) (Fi 102 (y0.fst+1) (Fu (@Zne w r (y0.fst) aa oq oq) (Fbr 137 [0,1,2,3,4,8005] (@ZmG w.heap.C.pw w.heap.C.pg w.heap.S w.heap.B w.D w.rep.copied w.rep.kept w.rep.filled w.rep.freed w.rep.cleared w.rep.steps r w.heap.W w.old w.Q w.T (Z0n w.heap.P y0.fst.toNat (Z0h w.heap.P y0.fst.toNat) (1-w.heap.S)) oq oq) Fz)))))))))))))))))))))))))
variable (c6:Z0G w (ofA w.heap.C r).1=false) (c7:¬ (w.heap.P.getD (Z16 w r) default).K=2)
include c6 c7
theorem Zp1(c8:¬ Z2u w (sizeH (hdW w r)))(c9:¬ 0≤Z0e w):BP 85 [.pt 0 0 0,u64 r] w.ckp (.tu [u64 0,int 3]) w.ckp:=by
 have h0:=f.rg;have hk:=f.ck;have hmm:=hk.mem;have ok:=hk.ok;obtain⟨-,wl,-,pl,sp,ol,-,-,tl,-,-,mu,-,rk,-,-⟩:=id ok;have cf:=validB_iff.1 ok.C;have h3:=f.ol c3;have lr:=Z0d w.heap.W r;have o:=Z2C ok.C h3.2.2.1;have eof:=h3.2.2.1;have el:=f.ld c3;have ld:=Z0F ok.W r;have dc:=f.dc c3 c4;have sz:=Z3p w r;have hl:=Z1W w r;have dm:=Z1E (loadA w.heap.W r).1 ld.1;have ein:(((sizeH (hdW w r)).toNat:Nat):Int)=sizeH (hdW w r):=Int.toNat_of_nonneg oq;unfold Z16 at c7;unfold hdW at *;rw[el]at c4 c8 ld dc sz hl dm ein;rcases bb (r==0||decide (r∈w.Q))with hc0 | hc0<;>have hc0p:=hc0<;>simp only[bs]at hc0p
 ·exact absurd hc0p (by simp[c1,c2])
 ·obtain⟨hc0pa,hc0pb⟩:=hc0p;rcases bb (!(decodeH (w.heap.W.getD ((r-4096).toNat+Int.toNat 0) default)).snd||false)with hc1 | hc1<;>have hc1p:=hc1<;>simp only[bs]at hc1p
  ·exact absurd hc1p (by rw[dc];simp)
  ·obtain⟨hc1pa,hc1pb⟩:=hc1p;let y0:=w.heap.W.getD ((r-4096).toNat+Int.toNat 0) default;let y1:=ofA w.heap.C r;let y2:=sizeH (decodeH y0).fst;let y3:=(0:Int)≤0∧Int.toNat 0<Int.toNat 1;exact borF [0,1,2,3,4,5] [] Tryz.func85 [] (Fh 48 [.el (wdv y0)] (Fh 75 [.bor [0,1,2,3,4,5] (Sx.bool (Z0G w y1.fst)) [],.br false] (Fh 143 [.el (wdv y0)] (Fh 160 [.br false] (FcG 27 (!r==0) (fun hg=>by(try simp only[bs]at hg);exact @Z0P w.Q r oq) (Ff 28 hc0 (Fc 35 (@Z0P w.old r oq) (Ffb 36 (!decide (r∈w.old)) (Fbq 40 [0,1,2,3,4,5] (@Z2v w r (1) aa oq) (Fo y3 (Fa (by exact Z0C oq:(List.map wdv w.heap.W)[(r-4096).toNat+Int.toNat 0]? = some (wdv y0)) (Fc 49 (@Z1K y0 oq oq) (Fa ‹(Z08 y0).snd=false› (Fc 61 (@Z2n w.heap.C r oq oq) (Fl 71 Page.dv w.heap.P (Ffb 52 (decide ((↑w.heap.P.length:Int)≤y1.fst)) (Fa (@Z2R w (y1.fst) aa) (Fa ‹Z0G w y1.fst=false› (Fmq 89 Page.dv w.heap.P (y1.fst) (Ffb 72 ((w.heap.P.getD y1.fst.toNat default).K==2) (Fo y3 (Fa (by exact Z0C oq:(List.map wdv w.heap.W)[(r-4096).toNat+Int.toNat 0]? = some (wdv y0)) (Fc 144 (@Z0N y0 oq oq) (Fc 151 (@Z0O ((decodeH y0).fst) aa) (Fbq 152 [0,1,2,3,4,5] (@Z2v w r y2 aa oq) (Ff 90 hc1 (Fg 164 (by assumption:(↑y2.toNat:Int)=sizeH (decodeH y0).fst) (Fbq 165 [0,1,2,3,4,5] (@Zht w y2 aa aa aa aa) Fz))))))))))))))))))))))))))))
theorem ZpL(c8:Z2u w (sizeH (hdW w r)))(ha:(address w.heap.C (Z0k w) (w.heap.P.getD (Z0k w).toNat default).U).2=0)(har:4096≤(address w.heap.C (Z0k w) (w.heap.P.getD (Z0k w).toNat default).U).1∧(address w.heap.C (Z0k w) (w.heap.P.getD (Z0k w).toNat default).U).1-4096+sizeH (hdW w r)≤w.heap.W.length):BP 85 [.pt 0 0 0,u64 r] w.ckp (.tu [u64 (address w.heap.C (Z0k w) (w.heap.P.getD (Z0k w).toNat default).U).1,int 0]) (w.put (Z0k w).toNat r (address w.heap.C (Z0k w) (w.heap.P.getD (Z0k w).toNat default).U).1 (sizeH (hdW w r)).toNat).ckr:=by
 have h0:=f.rg;have hk:=f.ck;have hmm:=hk.mem;have ok:=hk.ok;obtain⟨-,wl,-,pl,sp,ol,-,-,tl,-,-,mu,-,rk,-,-⟩:=id ok;have cf:=validB_iff.1 ok.C;have h3:=f.ol c3;have lr:=Z0d w.heap.W r;have o:=Z2C ok.C h3.2.2.1;have eof:=h3.2.2.1;have el:=f.ld c3;have ld:=Z0F ok.W r;have dc:=f.dc c3 c4;have sz:=Z3p w r;have hl:=Z1W w r;have dm:=Z1E (loadA w.heap.W r).1 ld.1;have ein:(((sizeH (hdW w r)).toNat:Nat):Int)=sizeH (hdW w r):=Int.toNat_of_nonneg oq;unfold Z16 at c7;unfold hdW at *;rw[el]at c4 c8 har ld dc sz hl dm ein ⊢;have hm:=ok.tk _ (Z17 c8.1);have hu:=ok.us (Z0k w).toNat oq
 rcases bb (r==0||decide (r∈w.Q))with hc0 | hc0<;>have hc0p:=hc0<;>simp only[bs]at hc0p
 ·rw[show w.put (Z0k w).toNat r (address w.heap.C (Z0k w) (w.heap.P.getD (Z0k w).toNat default).U).fst (↑(sizeH (decodeH (w.heap.W.getD ((r-(4096:Int)).toNat+Int.toNat (0:Int)) default)).fst).toNat:Int)=w from by exact absurd hc0p (by simp[c1,c2])];exact absurd hc0p (by simp[c1,c2])
 ·obtain⟨hc0pa,hc0pb⟩:=hc0p;rcases bb (!(decodeH (w.heap.W.getD ((r-4096).toNat+Int.toNat 0) default)).snd||false)with hc1 | hc1<;>have hc1p:=hc1<;>simp only[bs]at hc1p
  ·rw[show w.put (Z0k w).toNat r (address w.heap.C (Z0k w) (w.heap.P.getD (Z0k w).toNat default).U).fst (↑(sizeH (decodeH (w.heap.W.getD ((r-(4096:Int)).toNat+Int.toNat (0:Int)) default)).fst).toNat:Int)=w from by exact absurd hc1p (by rw[dc];simp)];exact absurd hc1p (by rw[dc];simp)
  ·obtain⟨hc1pa,hc1pb⟩:=hc1p;let y0:=w.heap.W.getD ((r-4096).toNat+Int.toNat 0) default;let y1:=ofA w.heap.C r;let y2:=sizeH (decodeH y0).fst;let y3:=(0:Int)≤0∧Int.toNat 0<Int.toNat 1;exact borF [0,1,2,3,4,8005] [145177] Tryz.func85 [] (Fh 48 [.el (wdv y0)] (Fh 75 [.bor [0,1,2,3,4,8005] (Sx.bool (Z0G w y1.fst)) [],.br false] (Fh 143 [.el (wdv y0)] (Fh 160 [.br false] (FcG 27 (!r==0) (fun hg=>by(try simp only[bs]at hg);exact @Z0P w.Q r oq) (Ff 28 hc0 (Fc 35 (@Z0P w.old r oq) (Ffb 36 (!decide (r∈w.old)) (Fbq 40 [0,1,2,3,4,8005] (@Z2v w r (1) aa oq) (Fo y3 (Fa (by exact Z0C oq:(List.map wdv w.heap.W)[(r-4096).toNat+Int.toNat 0]? = some (wdv y0)) (Fc 49 (@Z1K y0 oq oq) (Fa ‹(Z08 y0).snd=false› (Fc 61 (@Z2n w.heap.C r oq oq) (Fl 71 Page.dv w.heap.P (Ffb 52 (decide ((↑w.heap.P.length:Int)≤y1.fst)) (Fa (@Z2R w (y1.fst) aa) (Fa ‹Z0G w y1.fst=false› (Fmq 89 Page.dv w.heap.P (y1.fst) (Ffb 72 ((w.heap.P.getD y1.fst.toNat default).K==2) (Fo y3 (Fa (by exact Z0C oq:(List.map wdv w.heap.W)[(r-4096).toNat+Int.toNat 0]? = some (wdv y0)) (Fc 144 (@Z0N y0 oq oq) (Fc 151 (@Z0O ((decodeH y0).fst) aa) (Fbq 152 [0,1,2,3,4,8005] (@Z2v w r y2 aa oq) (Ff 90 hc1 (Fg 164 (by assumption:(↑y2.toNat:Int)=sizeH (decodeH y0).fst) (Fbq 165 [0,1,2,3,4,8005] (@ZjO w y2 aa aa aa) (Fbr 177 [0,1,2,3,4,8005] (@ckTo w r (Z0k w) ((w.heap.P.getD (Z0k w).toNat default).U) (y2.toNat) aa oq oq aa oq oq aa oq) Fz)))))))))))))))))))))))))))))
theorem ZpS(hk2:MemOk w.took)(hu2:0≤(w.took.heap.P.getD (Z0e w).toNat default).U∧(w.took.heap.P.getD (Z0e w).toNat default).U≤1024)(c8:¬ Z2u w (sizeH (hdW w r)))(c9:0≤Z0e w)(ha:(address w.heap.C (Z0e w) 0).2=0)(har:4096≤(address w.heap.C (Z0e w) 0).1∧(address w.heap.C (Z0e w) 0).1-4096+sizeH (hdW w r)≤w.heap.W.length):BP 85 [.pt 0 0 0,u64 r] w.ckp (.tu [u64 (address w.heap.C (Z0e w) 0).1,int 0]) (w.took.put (Z0e w).toNat r (address w.heap.C (Z0e w) 0).1 (sizeH (hdW w r)).toNat).ckq:=by
 have h0:=f.rg;have hk:=f.ck;have hmm:=hk.mem;have ok:=hk.ok;obtain⟨-,wl,-,pl,sp,ol,-,-,tl,-,-,mu,-,rk,-,-⟩:=id ok;have cf:=validB_iff.1 ok.C;have h3:=f.ol c3;have lr:=Z0d w.heap.W r;have o:=Z2C ok.C h3.2.2.1;have eof:=h3.2.2.1;have el:=f.ld c3;have ld:=Z0F ok.W r;have dc:=f.dc c3 c4;have sz:=Z3p w r;have hl:=Z1W w r;have dm:=Z1E (loadA w.heap.W r).1 ld.1;have ein:(((sizeH (hdW w r)).toNat:Nat):Int)=sizeH (hdW w r):=Int.toNat_of_nonneg oq;unfold Z16 at c7;unfold hdW at *;rw[el]at c4 c8 har ld dc sz hl dm ein ⊢;have ff:=Z1j c9;have fl:Z0e w<w.heap.C.pg:=by unfold Z0e;omega
 have tw:w.took.heap.W.length=w.heap.W.length:=rfl;have tp:=hk2.pl;have tq:w.took.Q.length=w.Q.length:=rfl;have trk:w.took.rep.copied=w.rep.copied:=rfl;have tc:w.took.heap.C=w.heap.C:=rfl;rw[tc]at tp;have ha2:(address w.took.heap.C (Z0e w) 0).2=0:=ha;have har2:=har;rw[← tw,← tc]at har2;rcases bb (r==0||decide (r∈w.Q))with hc0 | hc0<;>have hc0p:=hc0<;>simp only[bs]at hc0p
 ·rw[show w.took.put (Z0e w).toNat r (address w.heap.C (Z0e w) (0:Int)).fst (↑(sizeH (decodeH (w.heap.W.getD ((r-(4096:Int)).toNat+Int.toNat (0:Int)) default)).fst).toNat:Int)=w from by exact absurd hc0p (by simp[c1,c2])];exact absurd hc0p (by simp[c1,c2])
 ·obtain⟨hc0pa,hc0pb⟩:=hc0p;rcases bb (!(decodeH (w.heap.W.getD ((r-4096).toNat+Int.toNat 0) default)).snd||false)with hc1 | hc1<;>have hc1p:=hc1<;>simp only[bs]at hc1p
  ·rw[show w.took.put (Z0e w).toNat r (address w.heap.C (Z0e w) (0:Int)).fst (↑(sizeH (decodeH (w.heap.W.getD ((r-(4096:Int)).toNat+Int.toNat (0:Int)) default)).fst).toNat:Int)=w from by exact absurd hc1p (by rw[dc];simp)];exact absurd hc1p (by rw[dc];simp)
  ·obtain⟨hc1pa,hc1pb⟩:=hc1p;let y0:=w.heap.W.getD ((r-4096).toNat+Int.toNat 0) default;let y1:=ofA w.heap.C r;let y2:=sizeH (decodeH y0).fst;let y3:=(0:Int)≤0∧Int.toNat 0<Int.toNat 1;exact borF [0,1,8002,3,8004,8005] [129165,130165,145177] Tryz.func85 [] (Fh 48 [.el (wdv y0)] (Fh 75 [.bor [0,1,8002,3,8004,8005] (Sx.bool (Z0G w y1.fst)) [],.br false] (Fh 143 [.el (wdv y0)] (Fh 160 [.br false] (FcG 27 (!r==0) (fun hg=>by(try simp only[bs]at hg);exact @Z0P w.Q r oq) (Ff 28 hc0 (Fc 35 (@Z0P w.old r oq) (Ffb 36 (!decide (r∈w.old)) (Fbq 40 [0,1,8002,3,8004,8005] (@Z2v w r (1) aa oq) (Fo y3 (Fa (by exact Z0C oq:(List.map wdv w.heap.W)[(r-4096).toNat+Int.toNat 0]? = some (wdv y0)) (Fc 49 (@Z1K y0 oq oq) (Fa ‹(Z08 y0).snd=false› (Fc 61 (@Z2n w.heap.C r oq oq) (Fl 71 Page.dv w.heap.P (Ffb 52 (decide ((↑w.heap.P.length:Int)≤y1.fst)) (Fa (@Z2R w (y1.fst) aa) (Fa ‹Z0G w y1.fst=false› (Fmq 89 Page.dv w.heap.P (y1.fst) (Ffb 72 ((w.heap.P.getD y1.fst.toNat default).K==2) (Fo y3 (Fa (by exact Z0C oq:(List.map wdv w.heap.W)[(r-4096).toNat+Int.toNat 0]? = some (wdv y0)) (Fc 144 (@Z0N y0 oq oq) (Fc 151 (@Z0O ((decodeH y0).fst) aa) (Fbq 152 [0,1,8002,3,8004,8005] (@Z2v w r y2 aa oq) (Ff 90 hc1 (Fg 164 (by assumption:(↑y2.toNat:Int)=sizeH (decodeH y0).fst) (Fbr 165 [0,1,8002,3,8004,8005] (@ZjC w y2 aa aa aa aa) (Fbr 177 [0,1,129165,3,130165,8005] (@ckTo w.took r (Z0e w) (0) (y2.toNat) aa oq oq aa oq oq aa oq) Fz)))))))))))))))))))))))))))))
end
theorem Zip{c:Conf}{i o:Int}(hv:Z05 c=true)(h:0≤i∧i<c.pg∧0≤o∧o<c.pw):address c i o=(4096+(i*c.pw+o),0):=by
 unfold address;rw[if_pos hv,if_pos (inB_iff.2 h)]
theorem Zjr{w:Work}(k:MemOk w){i n o:Int}(hi:0≤i∧i<w.heap.P.length)(hn:1≤n)(ho:0≤o∧o+n≤w.heap.C.pw):(address w.heap.C i o).2=0∧(address w.heap.C i o).1=4096+i*w.heap.C.pw+o∧4096≤(address w.heap.C i o).1∧(address w.heap.C i o).1-4096+n≤w.heap.W.length:=by
 have pl:=k.pl;have L:=k.L;have cf:=validB_iff.1 k.C;have m:=Z14 (i:=i) (j:=w.heap.C.pg) (pw:=w.heap.C.pw) oq oq;rw[Int.mul_comm w.heap.C.pg]at m;have m0:0≤i*w.heap.C.pw:=Int.mul_nonneg hi.1 oq;rw[Zip k.C oq];exact⟨rfl,by simp only;omega,by simp only;omega,by simp only;omega⟩
theorem Zlq{w:Work}(k:CkOk w)(h:0≤Z0e w):MemOk w.took∧(w.took.heap.P.getD (Z0e w).toNat default).U=0:=by
 have sp:=k.ok.sp;obtain⟨f1,f2,f3,f4⟩:=Z2D (h:=⟨w.heap.C,w.heap.W,w.heap.P,1-w.heap.S,w.heap.B⟩) (by simp only;omega) h;have f2':(Z1P w).length=w.heap.P.length:=f2;have f4':(Z1P w).getD (Z0e w).toNat default=⟨1,1-w.heap.S,0,0⟩:=f4;refine⟨⟨k.ok.C,k.ok.wl, ?_,k.L⟩, ?_⟩
 ·show((Z1P w).length:Int)=_;rw[f2'];exact k.ok.pl
 ·show((Z1P w).getD (Z0e w).toNat default).U=0;rw[f4']
section
variable {w:Work} {r:Int} (f:FwOk w r)
include f
theorem Zoa(e:(w.fwd r).2.2=0):BP 85 [.pt 0 0 0,u64 r] w.ckp (.tu [u64 (w.fwd r).2.1,int 0]) (w.fwd r).1.ckq:=by
 unfold Work.fwd at e ⊢;by_cases c1:r=0∨r∈w.Q
 ·rw[if_pos c1];exact Z6L [0,1,6,3,7,8] 9 (ZoV w r f.rg f.ck.ln c1) (by rfl) rfl rfl
 rw[if_neg c1]at e ⊢;have c1':r≠0:=fun h=>c1 (Or.inl h);have c2:r∉w.Q:=fun h=>c1 (Or.inr h);by_cases c3:r∈w.old;rotate_left
 ·rw[if_pos c3]at e;cases e
 rw[if_neg (by simpa using c3)]at e ⊢;by_cases c4:(Z08 (loadA w.heap.W r).1).2=true
 ·rw[if_pos c4];exact Z6L [0,1,6,3,7,8] 9 (Zpd w r f c1' c2 c3 c4) (by rfl) rfl rfl
 rw[if_neg c4]at e ⊢;have c4':(Z08 (loadA w.heap.W r).1).2=false:=by simpa using c4
 have h3:=f.ol c3;rw[if_neg (by rw[h3.2.2.1];simp)]at e ⊢;by_cases c6:Z0G w (ofA w.heap.C r).1=true
 ·rw[if_pos c6];exact Z6L [0,1,6,3,7,5,8] 9 (ZpN w r f c1' c2 c3 c4' c6) (by rfl) rfl rfl
 rw[if_neg c6]at e ⊢;have c6':Z0G w (ofA w.heap.C r).1=false:=by simpa using c6
 by_cases c7:(w.heap.P.getD (Z16 w r) default).K=2
 ·rw[if_pos c7];exact Z6L [0,1,6,3,7,5,8] 9 (ZoO w r f c1' c2 c3 c4' c6' c7) (by rfl) rfl rfl
 rw[if_neg c7]at e ⊢;have sz:=Z3p w r;have hl:=Z1W w r;have en:(((sizeH (hdW w r)).toNat:Nat):Int)=sizeH (hdW w r):=Int.toNat_of_nonneg oq;have hpw:sizeH (hdW w r)≤w.heap.C.pw:=by
  rcases f.sz c3 with q | q
  ·exact absurd q c7
  ·omega
 have ok:=f.ck.ok;by_cases hf:Z2u w (sizeH (hdW w r))
 ·have ep:w.place (sizeH (hdW w r))=(⟨⟨w.heap.C,w.heap.W,Z1B w.heap.P (Z0k w).toNat (sizeH (hdW w r)),w.heap.S,w.heap.B⟩,w.old,w.T,w.Q,w.D,w.rep⟩,4096+Z0k w*w.heap.C.pw+(w.heap.P.getD (Z0k w).toNat default).U,true):=by rw[Work.place,if_pos hf]
  rw[ep];rw[if_neg pq];have hm:=ok.tk _ (Z17 hf.1);have hu:=ok.us (Z0k w).toNat oq
  have ri:=Zjr f.ck.mem (i:=Z0k w) (n:=sizeH (hdW w r)) (o:=(w.heap.P.getD (Z0k w).toNat default).U) ⟨hm.1,hm.2.1⟩ sz.1 ⟨hu.1,hf.2⟩;have b:=ZpL w r f c1' c2 c3 c4' c6' c7 hf ri.1 ri.2.2;rw[en,ri.2.1]at b;exact Z6L [0,1,6,3,7,5,8] 9 b (by rfl) rfl rfl
 ·by_cases hg:0≤Z0e w
  ·have ep:w.place (sizeH (hdW w r))=(⟨⟨w.heap.C,w.heap.W,Z1B (Z1P w) (Z0e w).toNat (sizeH (hdW w r)),w.heap.S,w.heap.B⟩,w.old,w.T++[Z0e w],w.Q,w.D,w.rep⟩,4096+Z0e w*w.heap.C.pw,true):=by rw[Work.place,if_neg hf,if_pos hg]
   rw[ep];rw[if_neg pq];obtain⟨t1,t2⟩:=Zlq f.ck hg;have ff:=Z1j hg;have ri:=Zjr f.ck.mem (i:=Z0e w) (n:=sizeH (hdW w r)) (o:=0) ⟨hg,by unfold Z0e;omega⟩ sz.1 ⟨Int.le_refl _,by omega⟩;have b:=ZpS w r f c1' c2 c3 c4' c6' c7 t1 oq hf hg ri.1 ri.2.2;rw[en,ri.2.1,Int.add_zero]at b;exact b
  ·rw[Work.place,if_neg hf,if_neg hg]at e;simp at e
theorem Zlh(e:¬ (w.fwd r).2.2=0):BP 85 [.pt 0 0 0,u64 r] w.ckp (.tu [u64 0,int (w.fwd r).2.2]) w.ckp:=by
 unfold Work.fwd at e ⊢;by_cases c1:r=0∨r∈w.Q
 ·rw[if_pos c1]at e;exact absurd rfl e
 rw[if_neg c1]at e ⊢;have c1':r≠0:=fun h=>c1 (Or.inl h);have c2:r∉w.Q:=fun h=>c1 (Or.inr h);by_cases c3:r∈w.old;rotate_left
 ·rw[if_pos c3];exact Zps w r f.rg f.ck.ln c1' c2 c3
 rw[if_neg (by simpa using c3)]at e ⊢;by_cases c4:(Z08 (loadA w.heap.W r).1).2=true
 ·rw[if_pos c4]at e;exact absurd rfl e
 rw[if_neg c4]at e ⊢;have c4':(Z08 (loadA w.heap.W r).1).2=false:=by simpa using c4
 have h3:=f.ol c3;rw[if_neg (by rw[h3.2.2.1];simp)]at e ⊢;by_cases c6:Z0G w (ofA w.heap.C r).1=true
 ·rw[if_pos c6]at e;exact absurd rfl e
 rw[if_neg c6]at e ⊢;have c6':Z0G w (ofA w.heap.C r).1=false:=by simpa using c6
 by_cases c7:(w.heap.P.getD (Z16 w r) default).K=2
 ·rw[if_pos c7]at e;exact absurd rfl e
 rw[if_neg c7]at e ⊢;by_cases c8:(w.place (sizeH (hdW w r))).2.2=false
 ·rw[if_pos c8];by_cases hf:Z2u w (sizeH (hdW w r))
  ·rw[Work.place,if_pos hf]at c8;simp at c8
  ·by_cases hg:0≤Z0e w
   ·rw[Work.place,if_neg hf,if_pos hg]at c8;simp at c8
   ·exact Zp1 w r f c1' c2 c3 c4' c6' c7 hf hg
 ·rw[if_neg c8]at e;exact absurd rfl e
end
theorem Zic{w:Work}{r:Int}(e:¬ (w.fwd r).2.2=0):(w.fwd r).1=noWork∧(w.fwd r).2.1=0:=by
 unfold Work.fwd at e ⊢;repeat' split at e
 all_goals first | (exact absurd rfl e) | skip
 all_goals (repeat' (first | rw[if_pos aa] | rw[if_neg aa]))
 all_goals exact⟨rfl,rfl⟩
theorem ZmE(w:Work)(hw:LnOk w):BP 84 [w.av] [] (.pt 0 0 0) w.ckp:=by
 obtain⟨h1,h2,h3,h4,h5⟩:=hw;exact borF [] [16001,25006,25010,33017,33020,33023] Tryz.func84 [] (Fc 6 (@Z4E w.heap.W aa) (Fc 10 (@ZeG w.heap.P aa) (Fc 17 (@Z4E w.old aa) (Fc 20 (@ZgB w.T aa) (Fc 23 (@Z4E w.Q aa) Fz)))))
theorem Z6b(w:Work)(r:Int)(f:FwOk w r)(e:(w.fwd r).2.2=0):GP 36 [w.av,u64 r] true (.tu [(w.fwd r).1.av,u64 (w.fwd r).2.1,int 0]) []:=by
 have hk:=f.ck.ln;exact gF [] Tryz.func36 [] (Fbr 10 [] (@ZmE w aa) (Fbr 16 [17010,18010,19010,20010,21010,22010] (@Zoa w r aa aa) (Fa (by exact Z2I _:Z0S (List.map wdv (w.fwd r).fst.heap.W)) (Fa (by exact Z2O _:Z0S (List.map Page.dv (w.fwd r).fst.heap.P)) (Fa (by exact Z2I _:Z0S (List.map wdv (w.fwd r).fst.old)) (Fa (by exact Z6C _:Z0S (List.map idv (w.fwd r).fst.T)) (Fa (by exact Z2I _:Z0S (List.map wdv (w.fwd r).fst.Q)) Fz)))))))
theorem Zdd(w:Work)(r:Int)(f:FwOk w r)(e:¬ (w.fwd r).2.2=0):GP 36 [w.av,u64 r] true (.tu [noWork.av,u64 0,int (w.fwd r).2.2]) []:=by
 have hk:=f.ck.ln;exact gF [] Tryz.func36 [] (Fbr 10 [] (@ZmE w aa) (Fbq 16 [17010,18010,19010,20010,21010,22010] (@Zlh w r aa aa) (Ftb 21 ((w.fwd r).snd.snd != 0) (Fnl (Fnl (Fnl (Fnl (Fnl Fz))))))))
theorem Zd9(w:Work)(r:Int)(f:FwOk w r):GP 36 [w.av,u64 r] true (.tu [(w.fwd r).1.av,u64 (w.fwd r).2.1,int (w.fwd r).2.2]) []:=by
 by_cases e:(w.fwd r).2.2=0
 ·have:=Z6b w r f e;rw[e];exact this
 ·have:=Zdd w r f e;rw[(Zic e).1,(Zic e).2];exact this
end Go.Proofs.YtdhchmlalchgeaaGreat
