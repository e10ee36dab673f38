/-
 The statement EvacuateOnce: part 10.
 Conditions: none.
-/
import Derived.Test.YtdhchmlalchgeaaGreatE9
set_option maxRecDepth 100000
set_option maxHeartbeats 2000000
set_option linter.all false
namespace Go.Proofs.YtdhchmlalchgeaaGreat
open Go.Sx
theorem ZgS{α:Type}(p:α→Bool):∀ (l:List α) (m:Nat),m<(l.takeWhile p).length→∃ h:m<l.length,p l[m]=true
 | [],m,h=>by simp at h
 | x::l,m,h=>by
  rw[List.takeWhile_cons]at h;split at h
  ·rename_i hp;cases m with
   | zero=>exact⟨by simp,hp⟩
   | succ m =>
    obtain⟨h1,h2⟩:=ZgS p l m (by simpa using h);exact⟨by simp;omega,by simpa using h2⟩
  ·simp at h
theorem Zaq{α:Type}(p:α→Bool):∀ (l:List α) (h:(l.takeWhile p).length<l.length),p l[(l.takeWhile p).length]=false
 | [],h=>by simp at h
 | x::l,h=>by
  by_cases hp:p x=true
  ·have e:((x::l).takeWhile p).length=(l.takeWhile p).length+1:=by rw[List.takeWhile_cons,if_pos hp];rfl
   have:=Zaq p l (by simp only[e,List.length_cons]at h;omega);simp only[e,List.getElem_cons_succ];exact this
  ·have e:((x::l).takeWhile p).length=0:=by rw[List.takeWhile_cons,if_neg hp];rfl
   simp only[e,List.getElem_cons_zero];simpa using hp
theorem Z6n{l:List Page}{i m:Nat}(h:m<Z0h l i):i+1+m<l.length∧(l.getD (i+1+m) default).K=3:=by
 obtain⟨h1,h2⟩:=ZgS _ _ _ h;have h3:i+1+m<l.length:=by simp at h1;omega
 refine⟨h3, ?_⟩;simpa[List.getD_eq_getElem?_getD,h3]using h2
theorem Zbn{l:List Page}{i:Nat}(h:i+1+Z0h l i<l.length):¬ (l.getD (i+1+Z0h l i) default).K=3:=by
 have h2:=Zaq (fun p:Page=>p.K==3) (l.drop (i+1)) (by simp;unfold Z0h at h;omega);intro h3;have h4:(l.drop (i+1))[Z0h l i]' qo=l.getD (i+1+Z0h l i) default:=by simp[List.getD_eq_getElem?_getD,h]
 have h5:(((l.drop (i+1))[Z0h l i]' qo).K==3)=false:=h2;rw[h4,h3]at h5;simp at h5
theorem Zas{l:List Page}{i:Nat}(s:Int):Z0n l i 0 s=l.set i (Z8r s (l.getD i default)):=by
 refine List.ext_getElem (by simp[Z0n]) fun j h1 h2=>?_;have h:j<l.length:=by simpa using h2
 have e:l.getD j default=l[j]:=by simp[List.getD_eq_getElem?_getD,h]
 simp only[Z0n,List.getElem_map,List.getElem_range,List.getElem_set,e];by_cases hj:i=j
 ·subst hj;rw[if_pos oq,if_pos rfl,e]
 ·rw[if_neg oq,if_neg hj]
theorem Zaj{l:List Page}{i m:Nat}(s:Int)(h:i+1+m<l.length):(Z0n l i m s).set (i+1+m) (Z8r s (l.getD (i+1+m) default))=Z0n l i (m+1) s:=by
 refine List.ext_getElem (by simp[Z0n]) fun j h1 h2=>?_;have h:j<l.length:=by simpa[Z0n]using h2
 have e:l.getD j default=l[j]:=by simp[List.getD_eq_getElem?_getD,h]
 simp only[Z0n,List.getElem_map,List.getElem_range,List.getElem_set,e];by_cases hj:i+1+m=j
 ·subst hj;rw[if_pos rfl,if_pos oq,e]
 ·rw[if_neg hj];by_cases hk:i≤j∧j≤i+m
  ·rw[if_pos hk,if_pos oq]
  ·rw[if_neg hk,if_neg oq]
theorem Z8l{l:List Page}{i m:Nat}(s:Int):(Z0n l i m s).getD (i+1+m) default=l.getD (i+1+m) default:=by
 by_cases h:i+1+m<l.length
 ·rw[Z1o h,if_neg oq]
 ·rw[List.getD_eq_getElem?_getD,List.getD_eq_getElem?_getD,List.getElem?_eq_none (by rw[Z1g];omega),List.getElem?_eq_none oq]
def fwdL(w:Work)(r x:Int)(m:Nat):Tg:=⟨tm 202 [(1,u64 r),(2,.pt 8002 0 0),(4,.pt 8004 0 0),(5,u64 0),(6,int 0),(14,int (x+1+m))],[(88094,.arr 84 4 ((Z0n w.heap.P x.toNat m (1-w.heap.S)).map Page.dv)),(8002,.box 89 [int w.heap.C.pw,int w.heap.C.pg,Z01 w.heap.W,.ow 88094,int w.heap.S,int w.heap.B,Z01 w.old,Z0q w.T,Z01 w.Q,int w.D,int w.rep.copied,int w.rep.kept,int w.rep.filled,int w.rep.freed,int w.rep.cleared,int w.rep.steps]),(8004,.box 89 zW)],60⟩
theorem ZkQ(w:Work)(r x:Int)(m:Nat)(hs:w.heap.S=0∨w.heap.S=1)(hl:w.heap.P.length≤1048576)(hx:0≤x)(hm:m<Z0h w.heap.P x.toNat):CP (rndF Tryz.f45 0) (fwdL w r x m).st .nrm (fwdL w r x (m+1)).st:=by
 have ht:=Z6n hm;have ha:=Z8l (l:=w.heap.P) (i:=x.toNat) (m:=m) (1-w.heap.S);have hn:=Z1g w.heap.P x.toNat m (1-w.heap.S);have hq:=Zaj (1-w.heap.S) ht.1;unfold Z8r at hq;rw[← ha]at hq ht;have eN:x.toNat+1+m=(x+1+(m:Int)).toNat:=by omega
 have eI:((x.toNat+1+m:Nat):Int)=x+1+(m:Int):=by omega
 rw[eN]at ha hq ht;let y1:=Z0n w.heap.P x.toNat m (1-w.heap.S);let y2:=x+1+(↑m:Int);let y0:=y1.getD y2.toNat default;let y3:=x+1+(↑m:Int)<(↑y1.length:Int);let y4:=Page.mk y0.K (1-w.heap.S) y0.U y0.N;exact sF [] (fP 13) (Fl 113 Page.dv (Z0n w.heap.P x.toNat m ((1:Int)-w.heap.S)) (FmGq 122 (decide y3) Page.dv y1 y2 (Ftb 124 (decide y3&&y0.K==3) (Fi 134 (1-w.heap.S) (Fm0q Page.dv y1 y2 (FS 10136 Page.dv y1 (y2.toNat) y4 (y0.dv) (Fi 126 (x+1+(↑m:Int)+1) (Fo (x+1+(↑m:Int)+1=x+1+(↑(m+1):Int)) (Fr (84:Int) (Fa (by refine congrArg _ ?_;exact hq:List.map Page.dv (y1.set y2.toNat y4)=List.map Page.dv (Z0n w.heap.P x.toNat (m+1) (1-w.heap.S))) Fz))))))))))
theorem Zp7(w:Work)(r x:Int)(hl:w.heap.P.length≤1048576)(hx:0≤x):CP (rndF Tryz.f45 0) (fwdL w r x (Z0h w.heap.P x.toNat)).st (.ext 0) (Tg.st ⟨tm 202 [(1,u64 r),(2,.pt 8002 0 0),(4,.pt 8004 0 0),(5,u64 0),(6,int 0)],[(88094,.arr 84 4 ((Z0n w.heap.P x.toNat (Z0h w.heap.P x.toNat) (1-w.heap.S)).map Page.dv)),(8002,.box 89 [int w.heap.C.pw,int w.heap.C.pg,Z01 w.heap.W,.ow 88094,int w.heap.S,int w.heap.B,Z01 w.old,Z0q w.T,Z01 w.Q,int w.D,int w.rep.copied,int w.rep.kept,int w.rep.filled,int w.rep.freed,int w.rep.cleared,int w.rep.steps]),(8004,.box 89 zW)],60⟩):=by
 have ht:=fun h=>Zbn (l:=w.heap.P) (i:=x.toNat) h;have ha:=Z8l (l:=w.heap.P) (i:=x.toNat) (m:=Z0h w.heap.P x.toNat) (1-w.heap.S);have hn:=Z1g w.heap.P x.toNat (Z0h w.heap.P x.toNat) (1-w.heap.S)
 have eN:x.toNat+1+Z0h w.heap.P x.toNat=(x+1+(Z0h w.heap.P x.toNat:Int)).toNat:=by omega
 rw[← ha,eN]at ht;exact sF [] [] (Fl 113 Page.dv (Z0n w.heap.P x.toNat (Z0h w.heap.P x.toNat) ((1:Int)-w.heap.S)) (FmGq 122 (decide (x+1+(↑(Z0h w.heap.P x.toNat):Int)<(↑(Z0n w.heap.P x.toNat (Z0h w.heap.P x.toNat) (1-w.heap.S)).length:Int))) Page.dv (Z0n w.heap.P x.toNat (Z0h w.heap.P x.toNat) (1-w.heap.S)) (x+1+(↑(Z0h w.heap.P x.toNat):Int)) (Ffb 124 (decide (x+1+(↑(Z0h w.heap.P x.toNat):Int)<(↑(Z0n w.heap.P x.toNat (Z0h w.heap.P x.toNat) (1-w.heap.S)).length:Int))&&((Z0n w.heap.P x.toNat (Z0h w.heap.P x.toNat) (1-w.heap.S)).getD (x+1+(↑(Z0h w.heap.P x.toNat):Int)).toNat default).K==3) Fz)))
section
variable (w:Work) (r:Int) (hw:WkOk w) (h0:0≤r∧r≤18446744073709551615) (c1:r≠0) (c2:r∉w.Q) (c3:r∈w.old) (c4:(Z08 (loadA w.heap.W r).1).2=false) (c5:(ofA w.heap.C r).2.2=0)
include hw h0 c1 c2 c3 c4 c5
theorem Zkd(c6:Z0G w (ofA w.heap.C r).1=true):GP 45 [w.av,u64 r] false (.tu [(w.keep r).av,u64 r,int 0]) []:=by
 have h1:=hw.mu;have h2:=hw.ol;have h3:=hw.wl;have h4:=Z0F hw.W r;have h11:=Z1E (loadA w.heap.W r).1 h4.1;have h5:=hw.pl;have h6:=validB_iff.1 hw.C;have h7:=hw.tl;have h8:=Z2C hw.C c5;have Q0 {h_ c_ p_} (r_:Fq h_ c_ p_):=FcG 29 (!r==0) (fun hg=>by(try simp only[bs]at hg);exact @Z12 w.Q r oq) r_;rcases bb (r==0||decide (r∈w.Q))with hc0 | hc0<;>have hc0p:=hc0<;>simp only[bs]at hc0p
 ·rw[show w.keep r=w from by grind[]];exact gF [] Tryz.func45 [] (Q0 (Ft 30 hc0 Fz))
 ·obtain⟨hc0pa,hc0pb⟩:=hc0p;let y0:=ofA w.heap.C r;exact gF [] Tryz.func45 [] (Fh 73 [.br false] (Fh 77 [.call true (Sx.bool (Z0G w y0.fst)) [],.br true] (Q0 (Ff 30 hc0 (Fc 36 (@Z12 w.old r oq) (Ffb 37 (!decide (r∈w.old)) (Fc 44 (@Z1M w.heap.W r oq aa) (Fc 49 (@Z3e ((loadA w.heap.W r).fst) oq oq) (Fa ‹(Z08 (loadA w.heap.W r).fst).snd=false› (Fc 60 (@Z4L w.heap.C r oq oq) (FlG 71 (!y0.snd.snd != 0) Page.dv w.heap.P (Ffb 52 (y0.snd.snd != 0||decide ((↑w.heap.P.length:Int)≤y0.fst)) (Fa (@Z1Z w (y0.fst) oq oq) (Fa ‹Z0G w y0.fst=true› (Fc 80 (@ZcX w r aa) Fz)))))))))))))))
theorem Zju(c6:Z0G w (ofA w.heap.C r).1=false)(c7:¬ (w.heap.P.getD (Z16 w r) default).K=2)(c8:(w.place (sizeH (hdW w r))).2.2=false):GP 45 [w.av,u64 r] false (.tu [noWork.av,u64 0,int 3]) []:=by
 have h1:=hw.mu;have h2:=hw.ol;have h3:=hw.wl;have h4:=Z0F hw.W r;have h11:=Z1E (loadA w.heap.W r).1 h4.1;have h5:=hw.pl;have h6:=validB_iff.1 hw.C;have h7:=hw.tl;have h8:=Z2C hw.C c5;have h9:=Z3p w r;unfold Z16 at c7;unfold hdW at h9 c8;have Q0 {h_ c_ p_} (r_:Fq h_ c_ p_):=FcG 29 (!r==0) (fun hg=>by(try simp only[bs]at hg);exact @Z12 w.Q r oq) r_;rcases bb (r==0||decide (r∈w.Q))with hc0 | hc0<;>have hc0p:=hc0<;>simp only[bs]at hc0p
 ·rw[show noWork=w from by grind[noWork,noHeap]];exact gF [] Tryz.func45 (fO 4) (Q0 (Ft 30 hc0 (Fr w.heap.C.pw (Fr w.heap.C.pg (Fr (List.map wdv w.heap.W) (Fr (List.map Page.dv w.heap.P) (Fr w.heap.S (Fr w.heap.B (Fr (List.map wdv w.old) (Fr (List.map idv w.T) (Fr (List.map wdv w.Q) (Fr w.D (Fr w.rep.copied (Fr w.rep.kept (Fr w.rep.filled (Fr w.rep.freed (Fr w.rep.cleared (Fr w.rep.steps (Fa (by grind[noWork,noHeap]:r=0) (Fa (by grind[noWork,noHeap]:(0:Int)=3) Fz))))))))))))))))))))
 ·obtain⟨hc0pa,hc0pb⟩:=hc0p;let y0:=ofA w.heap.C r;let y1:=loadA w.heap.W r;exact gF [] Tryz.func45 [] (Fh 77 [.call true (Sx.bool (Z0G w y0.fst)) [],.br false] (Fh 89 [.br false] (Q0 (Ff 30 hc0 (Fc 36 (@Z12 w.old r oq) (Ffb 37 (!decide (r∈w.old)) (Fc 44 (@Z1M w.heap.W r oq aa) (Fc 49 (@Z3e (y1.fst) oq oq) (Fa ‹(Z08 y1.fst).snd=false› (Fc 60 (@Z4L w.heap.C r oq oq) (FlG 71 (!y0.snd.snd != 0) Page.dv w.heap.P (Ffb 52 (y0.snd.snd != 0||decide ((↑w.heap.P.length:Int)≤y0.fst)) (Fa (@Z1Z w (y0.fst) oq oq) (Fa ‹Z0G w y0.fst=false› (Fe 86 Page.dv w.heap.P (y0.fst) (Ffb 73 ((w.heap.P.getD y0.fst.toNat default).K==2) (Fc 143 (@Z35 (y1.fst) oq oq) (Fc 147 (@Z2a ((decodeH y1.fst).fst) aa) (Fc 151 (@Zaz w (sizeH (decodeH y1.fst).fst) aa aa) (Ftb 156 (!(w.place (sizeH (decodeH y1.fst).fst)).snd.snd) (Fnl (Fnl (Fnl (Fnl (Fnl Fz)))))))))))))))))))))))))
theorem Zk9(c6:Z0G w (ofA w.heap.C r).1=false)(c7:¬ (w.heap.P.getD (Z16 w r) default).K=2)(c8:(w.place (sizeH (hdW w r))).2.2=true):GP 45 [w.av,u64 r] false (.tu [((w.place (sizeH (hdW w r))).1.copy r (w.place (sizeH (hdW w r))).2.1 (sizeH (hdW w r))).av,u64 (w.place (sizeH (hdW w r))).2.1,int 0]) []:=by
 have h1:=hw.mu;have h2:=hw.ol;have h3:=hw.wl;have h4:=Z0F hw.W r;have h11:=Z1E (loadA w.heap.W r).1 h4.1;have h5:=hw.pl;have h6:=validB_iff.1 hw.C;have h7:=hw.tl;have h8:=Z2C hw.C c5;have h9:=Z3p w r;have h10:=hw.rk;obtain⟨i,p,t,d1,d2,d3,d4,d4',d5,d6,d7,d8,d9,e⟩:=Z63 hw h9.1 c8;have e1:=congrArg (fun w=>w.heap.W) e;have e2:=congrArg (fun w=>w.Q) e;have e3:=congrArg (fun w=>w.rep) e;have e3c:=congrArg (fun w=>w.rep.copied) e;simp only at e1 e2 e3 e3c;have l1:=Zgf w.heap.W (w.place (sizeH (hdW w r))).2.1 r (sizeH (hdW w r));unfold Z16 at c7;unfold hdW at *;have Q0 {h_ c_ p_} (r_:Fq h_ c_ p_):=FcG 29 (!r==0) (fun hg=>by(try simp only[bs]at hg);exact @Z12 w.Q r oq) r_;rcases bb (r==0||decide (r∈w.Q))with hc0 | hc0<;>have hc0p:=hc0<;>simp only[bs]at hc0p
 ·rw[show(w.place (sizeH (decodeH (loadA w.heap.W r).fst).fst)).fst.copy r (w.place (sizeH (decodeH (loadA w.heap.W r).fst).fst)).snd.fst (sizeH (decodeH (loadA w.heap.W r).fst).fst)=w from by grind[Work.copy]];exact gF [] Tryz.func45 (fO 4) (Q0 (Ft 30 hc0 (Fr w.heap.C.pw (Fr w.heap.C.pg (Fr (List.map wdv w.heap.W) (Fr (List.map Page.dv w.heap.P) (Fr w.heap.S (Fr w.heap.B (Fr (List.map wdv w.old) (Fr (List.map idv w.T) (Fr (List.map wdv w.Q) (Fr w.D (Fr w.rep.copied (Fr w.rep.kept (Fr w.rep.filled (Fr w.rep.freed (Fr w.rep.cleared (Fr w.rep.steps (Fa (by grind[Work.copy]:r=(w.place (sizeH (decodeH (loadA w.heap.W r).fst).fst)).snd.fst) (Fr (0:Int) Fz))))))))))))))))))))
 ·obtain⟨hc0pa,hc0pb⟩:=hc0p;let y1:=ofA w.heap.C r;let y2:=loadA w.heap.W r;let y0:=w.place (sizeH (decodeH y2.fst).fst);let y3:=sizeH (decodeH y2.fst).fst;exact gF [] Tryz.func45 [] (Fh 77 [.call true (Sx.bool (Z0G w y1.fst)) [],.br false] (Fh 156 [.br false] (Fh 192 [.els (List.map wdv (y0.fst.Q++[y0.snd.fst]))] (Q0 (Ff 30 hc0 (Fc 36 (@Z12 w.old r oq) (Ffb 37 (!decide (r∈w.old)) (Fc 44 (@Z1M w.heap.W r oq aa) (Fc 49 (@Z3e (y2.fst) oq oq) (Fa ‹(Z08 y2.fst).snd=false› (Fc 60 (@Z4L w.heap.C r oq oq) (FlG 71 (!y1.snd.snd != 0) Page.dv w.heap.P (Ffb 52 (y1.snd.snd != 0||decide ((↑w.heap.P.length:Int)≤y1.fst)) (Fa (@Z1Z w (y1.fst) oq oq) (Fa ‹Z0G w y1.fst=false› (Fe 86 Page.dv w.heap.P (y1.fst) (Ffb 73 ((w.heap.P.getD y1.fst.toNat default).K==2) (Fc 143 (@Z35 (y2.fst) oq oq) (Fc 147 (@Z2a ((decodeH y2.fst).fst) aa) (Fc 151 (@Zaz w y3 aa aa) (Ffb 89 (!y0.snd.snd) (Fc 165 (@Zmt (y0.fst.heap.W) (y0.snd.fst) r y3 (by grind[Work.copy]) oq aa) (Fc 172 (@ZeV (y0.snd.fst) oq oq) (Fc 181 (@Z9E ((moveA y0.fst.heap.W y0.snd.fst r y3).fst) r (4*y0.snd.fst+2) (by grind[Work.copy]) aa) (FAx 186 189 wdv y0.fst.Q (by grind[Work.copy]) (Fs 191 (List.map wdv [y0.snd.fst]) (Fa (by grind[Work.copy]:(List.map wdv y0.fst.Q).length+(List.map wdv [y0.snd.fst]).length≤2^30) (Fa (by simp[Work.copy,List.map_take,List.map_drop,List.map_set,List.map_append,wdv,idv]:List.map wdv y0.fst.Q++List.map wdv [y0.snd.fst]=List.map wdv (y0.fst.Q++[y0.snd.fst])) (Fi 197 (y0.fst.rep.copied+1) Fz)))))))))))))))))))))))))))))
end
theorem Znb(w:Work)(r x:Int)(hs:w.heap.S=0∨w.heap.S=1)(hl:w.heap.P.length≤1048576)(hx:0≤x):CP (blkF Tryz.f45 0) (Tg.st ⟨tm 202 [(1,u64 r),(2,.pt 8002 0 0),(4,.pt 8004 0 0),(5,u64 0),(6,int 0),(14,int (x+1))],[(88094,.arr 84 4 ((w.heap.P.set x.toNat ⟨(w.heap.P.getD x.toNat default).K,1-w.heap.S,(w.heap.P.getD x.toNat default).U,(w.heap.P.getD x.toNat default).N⟩).map Page.dv)),(8002,.box 89 [int w.heap.C.pw,int w.heap.C.pg,Z01 w.heap.W,.ow 88094,int w.heap.S,int w.heap.B,Z01 w.old,Z0q w.T,Z01 w.Q,int w.D,int w.rep.copied,int w.rep.kept,int w.rep.filled,int w.rep.freed,int w.rep.cleared,int w.rep.steps]),(8004,.box 89 zW)],60⟩) .nrm (Tg.st ⟨tm 202 [(1,u64 r),(2,.pt 8002 0 0),(4,.pt 8004 0 0),(5,u64 0),(6,int 0)],[(88094,.arr 84 4 ((Z0n w.heap.P x.toNat (Z0h w.heap.P x.toNat) (1-w.heap.S)).map Page.dv)),(8002,.box 89 [int w.heap.C.pw,int w.heap.C.pg,Z01 w.heap.W,.ow 88094,int w.heap.S,int w.heap.B,Z01 w.old,Z0q w.T,Z01 w.Q,int w.D,int w.rep.copied,int w.rep.kept,int w.rep.filled,int w.rep.freed,int w.rep.cleared,int w.rep.steps]),(8004,.box 89 zW)],60⟩):=by
 have h:=Z0a (S:=fun k=>(fwdL w r x k).st) (Z0h w.heap.P x.toNat) kr (fun k hk=>ZkQ w r x k hs hl hx hk) (Zp7 w r x hl hx);have hz:=Zas (l:=w.heap.P) (i:=x.toNat) (1-w.heap.S);simp only[fwdL,hz,Z8r,Int.natCast_zero,Int.add_zero]at h;exact h
section
variable (w:Work) (r:Int) (hw:WkOk w) (h0:0≤r∧r≤18446744073709551615) (c1:r≠0) (c2:r∉w.Q) (c3:r∈w.old) (c4:(Z08 (loadA w.heap.W r).1).2=false) (c5:(ofA w.heap.C r).2.2=0)
include hw h0 c1 c2 c3 c4 c5
theorem Zk1(c6:Z0G w (ofA w.heap.C r).1=false)(c7:(w.heap.P.getD (Z16 w r) default).K=2):GP 45 [w.av,u64 r] false (.tu [((w.flip (Z16 w r)).keep r).av,u64 r,int 0]) []:=by
 have h1:=hw.mu;have h2:=hw.ol;have h3:=hw.wl;have h4:=Z0F hw.W r;have h5:=hw.pl;have h6:=validB_iff.1 hw.C;have h7:=hw.tl;have h8:=Z2C hw.C c5;have h9:=hw.sp;have h10:=ZjY hw (Z16 w r);have h12:(⟨⟨w.heap.C,w.heap.W,Z0n w.heap.P (ofA w.heap.C r).1.toNat (Z0h w.heap.P (ofA w.heap.C r).1.toNat) (1-w.heap.S),w.heap.S,w.heap.B⟩,w.old,w.T,w.Q,w.D,w.rep⟩:Work)=w.flip (Z16 w r):=rfl;unfold Z16 at c7;have Q0 {h_ c_ p_} (r_:Fq h_ c_ p_):=FcG 29 (!r==0) (fun hg=>by(try simp only[bs]at hg);exact @Z12 w.Q r oq) r_;rcases bb (r==0||decide (r∈w.Q))with hc0 | hc0<;>have hc0p:=hc0<;>simp only[bs]at hc0p
 ·rw[show(w.flip (Z16 w r)).keep r=w from by grind[]];exact gF [] Tryz.func45 [] (Q0 (Ft 30 hc0 Fz))
 ·obtain⟨hc0pa,hc0pb⟩:=hc0p;let y0:=ofA w.heap.C r;let y1:=Work.mk (Heap.mk w.heap.C w.heap.W (Z0n w.heap.P y0.fst.toNat (Z0h w.heap.P y0.fst.toNat) (1-w.heap.S)) w.heap.S w.heap.B) w.old w.T w.Q w.D w.rep;let y2:=w.heap.P.getD y0.fst.toNat default;exact gF [] Tryz.func45 [] (Fh 73 [.br false] (Fh 77 [.call true (Sx.bool (Z0G w y0.fst)) [],.br false] (Fh 139 [.kill (y1.keep r).av] (Q0 (Ff 30 hc0 (Fc 36 (@Z12 w.old r oq) (Ffb 37 (!decide (r∈w.old)) (Fc 44 (@Z1M w.heap.W r oq aa) (Fc 49 (@Z3e ((loadA w.heap.W r).fst) oq oq) (Fa ‹(Z08 (loadA w.heap.W r).fst).snd=false› (Fc 60 (@Z4L w.heap.C r oq oq) (FlG 71 (!y0.snd.snd != 0) Page.dv w.heap.P (Ffb 52 (y0.snd.snd != 0||decide ((↑w.heap.P.length:Int)≤y0.fst)) (Fa (@Z1Z w (y0.fst) oq oq) (Fa ‹Z0G w y0.fst=false› (Fe 86 Page.dv w.heap.P (y0.fst) (Ftb 89 (y2.K==2) (FA 90 94 Page.dv w.heap.P (Fi 104 (1-w.heap.S) (Fm0q Page.dv w.heap.P (y0.fst) (FS 10106 Page.dv w.heap.P (y0.fst.toNat) (Page.mk y2.K (1-w.heap.S) y2.U y2.N) (y2.dv) (Fi 108 (y0.fst+1) (Fu (@Znb w r (y0.fst) aa oq oq) (Fa (@ZcX y1 r aa) Fz))))))))))))))))))))))))
end
theorem Z43(w:Work)(r:Int)(hw:WkOk w)(h0:0≤r∧r≤18446744073709551615):GP 45 [w.av,u64 r] false (.tu [(w.fwd r).1.av,u64 (w.fwd r).2.1,int (w.fwd r).2.2]) []:=by
 unfold Work.fwd;by_cases c1:r=0∨r∈w.Q
 ·rw[if_pos c1];exact ZhW w r hw h0 c1
 ·rw[if_neg c1];have c1':r≠0:=fun h=>c1 (Or.inl h);have c2':r∉w.Q:=fun h=>c1 (Or.inr h);by_cases c3:r∈w.old
  ·rw[if_neg (by simpa using c3)];by_cases c4:(Z08 (loadA w.heap.W r).1).2=true
   ·rw[if_pos c4];exact ZiL w r hw h0 c1' c2' c3 c4
   ·rw[if_neg c4];have c4':(Z08 (loadA w.heap.W r).1).2=false:=by simpa using c4
    by_cases c5:(ofA w.heap.C r).2.2=0
    ·rw[if_neg (by simpa using c5)];by_cases c6:Z0G w (ofA w.heap.C r).1=true
     ·rw[if_pos c6];exact Zkd w r hw h0 c1' c2' c3 c4' c5 c6
     ·rw[if_neg c6];have c6':Z0G w (ofA w.heap.C r).1=false:=by simpa using c6
      by_cases c7:(w.heap.P.getD (Z16 w r) default).K=2
      ·rw[if_pos c7];exact Zk1 w r hw h0 c1' c2' c3 c4' c5 c6' c7
      ·rw[if_neg c7];by_cases c8:(w.place (sizeH (hdW w r))).2.2=false
       ·rw[if_pos c8];exact Zju w r hw h0 c1' c2' c3 c4' c5 c6' c7 c8
       ·rw[if_neg c8];exact Zk9 w r hw h0 c1' c2' c3 c4' c5 c6' c7 (by simpa using c8)
    ·rw[if_pos c5];exact Zi0 w r hw h0 c1' c2' c3 c4' c5
  ·rw[if_pos c3];exact ZiK w r hw h0 c1' c2' c3
def Z1u(w:Work)(roots:List Int):Nat→Work×List Int
 | 0=>(w,[])
 | k+1=>(((Z1u w roots k).1.fwd (roots.getD k default)).1,(Z1u w roots k).2++[((Z1u w roots k).1.fwd (roots.getD k default)).2.1])
def Z2B(w:Work)(roots:List Int)(k:Nat):Int:=((Z1u w roots k).1.fwd (roots.getD k default)).2.2
def rootsF(w:Work)(roots:List Int):Work×List Int×Int:=match (List.range roots.length).find? (fun k=>decide (Z2B w roots k≠0))with
 | none=>((Z1u w roots roots.length).1,(Z1u w roots roots.length).2,0)
 | some k=>(noWork,[],Z2B w roots k)
def rtsL(w:Work)(roots out:List Int)(i:Nat):Tg:=⟨tm 39 [(1,Z01 roots),(2,.pt 8002 0 0),(4,.pt 8004 0 0),(5,.d (.sl 0 [])),(6,int 0),(7,.ow 16007),(8,int i)],[(16007,.arr 35 1 (out.map wdv)),(8004,.box 89 zW),(8002,.box 89 w.cells)],60⟩
section
variable (w:Work) (roots out:List Int) (i:Nat) (hw:WkOk w) (hr:0≤roots.getD i default∧roots.getD i default≤18446744073709551615) (hl:roots.length≤1048576) (ho:out.length≤1048576) (hi:i<roots.length)
include hw hr hl ho hi
theorem Zf9(e:(w.fwd (roots.getD i default)).2.2=0):CP (rndF Tryz.f47 0) (rtsL w roots out i).st .nrm (rtsL (w.fwd (roots.getD i default)).1 roots (out++[(w.fwd (roots.getD i default)).2.1]) (i+1)).st:=by
 let y0:=w.fwd (roots.getD i default);exact sF [(504036,16007)] [] (Fh 36 [.els (List.map wdv (out++[y0.snd.fst]))] (FN 14 15 22 wdv roots i (Fc 24 (@Z43 w (roots.getD i default) aa aa) (Ffb 29 (y0.snd.snd != 0) (Fs 35 (List.map wdv [y0.snd.fst]) (Fa (by(simp[*];omega):(List.map wdv out).length+(List.map wdv [y0.snd.fst]).length≤2^30) (Fa (ms:List.map wdv out++List.map wdv [y0.snd.fst]=List.map wdv (out++[y0.snd.fst])) (Fx 17 i Fz))))))))
theorem Zmn(e:¬ (w.fwd (roots.getD i default)).2.2=0):CP (rndF Tryz.f47 0) (rtsL w roots out i).st .ret (Tg.st ⟨tm 39 [(4,.pt 8004 0 0),(5,.d (.sl 0 [])),(6,int (w.fwd (roots.getD i default)).2.2)],[(8004,.box 89 zW)],60⟩):=by
 exact sF [] [] (FN 14 15 22 wdv roots i (Fc 24 (@Z43 w (roots.getD i default) aa aa) (Ftb 29 ((w.fwd (roots.getD i default)).snd.snd != 0) Fz)))
end
theorem ZpC(w:Work)(roots out:List Int):CP (rndF Tryz.f47 0) (rtsL w roots out roots.length).st (.ext 0) (Tg.st ⟨tm 39 [(2,.pt 8002 0 0),(4,.pt 8004 0 0),(7,.ow 16007)],[(16007,.arr 35 1 (out.map wdv)),(8004,.box 89 zW),(8002,.box 89 w.cells)],60⟩):=by
 exact sF [] [] (FO 14 15 wdv roots Fz)
theorem Z4h(w:Work)(roots:List Int):∀ k,(Z1u w roots k).2.length=k
 | 0=>rfl
 | k+1=>by simp[Z1u,Z4h w roots k]
theorem Z3m{w:Work}{roots:List Int}(hw:WkOk w):∀ k,(∀ j,j<k→Z2B w roots j=0)→WkOk (Z1u w roots k).1∧(∀ x∈(Z1u w roots k).2,0≤x∧x≤4294967296)∧(Z1u w roots k).1.D=w.D
 | 0,_=>⟨hw,by simp[Z1u],rfl⟩
 | k+1,h=>by
  have ih:=Z3m hw k (fun j hj=>h j oq);have hf:=fwd_ok ih.1 (roots.getD k default) (h k oq);refine⟨hf.1, ?_, ?_⟩
  ·intro x hx;simp only[Z1u,List.mem_append,List.mem_singleton]at hx;rcases hx with hx | rfl
   ·exact ih.2.1 x hx
   ·exact⟨hf.2.1,hf.2.2.1⟩
  ·show((Z1u w roots k).1.fwd (roots.getD k default)).1.D=w.D;rw[hf.2.2.2.2.1,ih.2.2]
section
variable (w:Work) (roots:List Int) (hw:WkOk w) (hr:ULe roots) (hl:roots.length≤1048575)
include hw hr hl
theorem Zn2(hb:(List.range roots.length).find? (fun k=>decide (Z2B w roots k≠0))=none):CP (blkF Tryz.f47 0) (Tg.st ⟨tm 39 [(1,Z01 roots),(2,.pt 8002 0 0),(4,.pt 8004 0 0),(5,.d (.sl 0 [])),(6,int 0),(7,.ow 16007),(8,int 0)],[(16007,.arr 35 1 []),(8004,.box 89 zW),(8002,.box 89 w.cells)],60⟩) .nrm (Tg.st ⟨tm 39 [(2,.pt 8002 0 0),(4,.pt 8004 0 0),(7,.ow 16007)],[(16007,.arr 35 1 ((Z1u w roots roots.length).2.map wdv)),(8004,.box 89 zW),(8002,.box 89 (Z1u w roots roots.length).1.cells)],60⟩):=by
 have h0:∀ j,j<roots.length→Z2B w roots j=0:=fun j hj=>by
  have:=List.find?_eq_none.1 hb j (List.mem_range.2 hj);simpa using this
 exact Z0a (S:=fun k=>(rtsL (Z1u w roots k).1 roots (Z1u w roots k).2 k).st) roots.length kr (fun k hk=>Zf9 _ roots _ k (Z3m hw k fun j hj=>h0 j oq).1 (Z5M hr k) oq (by rw[Z4h];omega) hk (h0 k hk)) (ZpC _ roots _)
theorem Zls(i:Nat)(hb:(List.range roots.length).find? (fun k=>decide (Z2B w roots k≠0))=some i):CP (blkF Tryz.f47 0) (Tg.st ⟨tm 39 [(1,Z01 roots),(2,.pt 8002 0 0),(4,.pt 8004 0 0),(5,.d (.sl 0 [])),(6,int 0),(7,.ow 16007),(8,int 0)],[(16007,.arr 35 1 []),(8004,.box 89 zW),(8002,.box 89 w.cells)],60⟩) .ret (Tg.st ⟨tm 39 [(4,.pt 8004 0 0),(5,.d (.sl 0 [])),(6,int (Z2B w roots i))],[(8004,.box 89 zW)],60⟩):=by
 obtain⟨h1,h2,h3⟩:=List.find?_range_eq_some.1 hb;have h2:=List.mem_range.1 h2;have h0:∀ j,j<i→Z2B w roots j=0:=fun j hj=>by simpa using h3 j hj
 exact Z0I (S:=fun k=>(rtsL (Z1u w roots k).1 roots (Z1u w roots k).2 k).st) i kr (fun k hk=>Zf9 _ roots _ k (Z3m hw k fun j hj=>h0 j oq).1 (Z5M hr k) oq (by rw[Z4h];omega) oq (h0 k hk)) (Zmn _ roots _ i (Z3m hw i h0).1 (Z5M hr i) oq (by rw[Z4h];omega) h2 (of_decide_eq_true h1))
theorem Z5C:GP 47 [w.av,Z01 roots] false (.tu [(rootsF w roots).1.av,Z01 (rootsF w roots).2.1,int (rootsF w roots).2.2]) []:=by
 cases hb:(List.range roots.length).find? (fun k=>decide (Z2B w roots k≠0))with
 | none =>
  have e7:rootsF w roots=((Z1u w roots roots.length).1,(Z1u w roots roots.length).2,0):=by rw[rootsF,hb]
  rw[e7];exact gF [] Tryz.func47 [] (Fh 7 [.own] (Fu (@Zn2 w roots aa aa aa aa) Fz))
 | some i =>
  have e7:rootsF w roots=(noWork,[],Z2B w roots i):=by rw[rootsF,hb]
  rw[e7];exact gF [] Tryz.func47 [] (Fh 7 [.own] (Fu (@Zls w roots aa aa aa i aa) (Fnl (Fnl (Fnl (Fnl (Fnl (Fnl Fz))))))))
end
def Z11(h:Header):Nat→List Int
 | 0=>[]
 | i+1=>if Z0f h (i:Int)=true then Z11 h i++[(i:Int)]else Z11 h i
theorem Z4e(h:Header):∀ i,(Z11 h i).length≤i
 | 0=>Nat.le_refl _
 | i+1=>by
  have:=Z4e h i;simp only[Z11];split<;>simp<;>omega
def Z09(h:Header):List Int:=if Z0g h=true then Z11 h h.length.toNat else []
def ZhD(h:Header)(i:Nat):Tg:=⟨tm 23 [(1,.pt 8001 0 0),(3,.ow 16003),(4,int i)],[(16003,.arr 3 1 ((Z11 h i).map idv)),(8001,.box 52 [int h.K,int h.length,u32 h.map])],60⟩
theorem Zkb(h:Header)(i:Nat)(hm:0≤h.map∧h.map≤4294967295)(hv:Z0g h=true)(hb:h.length≤255)(hi:i<h.length):CP (rndF Tryz.f99 0) (ZhD h i).st .nrm (ZhD h (i+1)).st:=by
 have hn:=Z4e h i;by_cases hp:Z0f h (i:Int)=true
 ·have e:Z11 h (i+1)=Z11 h i++[(i:Int)]:=by rw[Z11,if_pos hp]
  exact sF [(496021,16003)] (fO 5) (Fh 17 [.call true (Sx.bool (Z0f h (↑i:Int))) [],.br true] (Fh 21 [.els (List.map idv (Z11 h i++[(↑i:Int)]))] (FcG 11 (decide ((↑i:Int)<h.length)) (fun hg=>by(try simp only[bs]at hg);exact @Z2p h aa) (Ft 12 (by simp[*]:(decide ((↑i:Int)<h.length)&&Z0g h)=true) (Fa (@Z2j h ((↑i:Int)) aa) (Fa ‹Z0f h (↑i:Int)=true› (Fs 20 (List.map idv [(↑i:Int)]) (Fa (by(simp[*];omega):(List.map idv (Z11 h i)).length+(List.map idv [(↑i:Int)]).length≤2^30) (Fa (ms:List.map idv (Z11 h i)++List.map idv [(↑i:Int)]=List.map idv (Z11 h i++[(↑i:Int)])) (Fx 14 i (Fr (3:Int) (Fa (by refine congrArg _ ?_;rw[e]:List.map idv (Z11 h i++[(↑i:Int)])=List.map idv (Z11 h (i+1))) Fz))))))))))))
 ·have e:Z11 h (i+1)=Z11 h i:=by rw[Z11,if_neg hp]
  have hp':Z0f h (i:Int)=false:=by simpa using hp
  exact sF [] (fO 5) (Fh 17 [.call true (Sx.bool (Z0f h (↑i:Int))) [],.br false] (FcG 11 (decide ((↑i:Int)<h.length)) (fun hg=>by(try simp only[bs]at hg);exact @Z2p h aa) (Ft 12 (by simp[*]:(decide ((↑i:Int)<h.length)&&Z0g h)=true) (Fa (@Z2j h ((↑i:Int)) aa) (Fa ‹Z0f h (↑i:Int)=false› (Fx 14 i (Fr (3:Int) (Fa (by refine congrArg _ ?_;rw[e]:List.map idv (Z11 h i)=List.map idv (Z11 h (i+1))) Fz))))))))
theorem Zjs(h:Header)(i:Nat)(hm:0≤h.map∧h.map≤4294967295)(hi:h.length≤i∨Z0g h=false):CP (rndF Tryz.f99 0) (ZhD h i).st (.ext 0) (Tg.st ⟨tm 23 [(3,.ow 16003)],[(16003,.arr 3 1 ((Z11 h i).map idv))],60⟩):=by
 rcases hi with hi | hi
 ·exact sF [] [] (FcG 11 (decide ((↑i:Int)<h.length)) (fun hg=>by(try simp only[bs]at hg);exact @Z2p h aa) (Ffb 12 (decide ((↑i:Int)<h.length)&&Z0g h) Fz))
 ·exact sF [] [] (FcG 11 (decide ((↑i:Int)<h.length)) (fun hg=>by(try simp only[bs]at hg);exact @Z2p h aa) (Ff 12 (by simp[*]:(decide ((↑i:Int)<h.length)&&Z0g h)=false) Fz))
theorem ZkC(h:Header)(hm:0≤h.map∧h.map≤4294967295):CP (blkF Tryz.f99 0) (Tg.st ⟨tm 23 [(1,.pt 8001 0 0),(3,.ow 16003),(4,int 0)],[(16003,.arr 3 1 []),(8001,.box 52 [int h.K,int h.length,u32 h.map])],60⟩) .nrm (Tg.st ⟨tm 23 [(3,.ow 16003)],[(16003,.arr 3 1 ((Z09 h).map idv))],60⟩):=by
 unfold Z09;by_cases hv:Z0g h=true
 ·rw[if_pos hv];have hb:=validH_iff.1 hv;exact Z0a (S:=fun i=>(ZhD h i).st) h.length.toNat kr (fun i hi=>Zkb h i hm hv oq oq) (Zjs h _ hm (.inl oq))
 ·rw[if_neg hv];exact Z0a (S:=fun i=>(ZhD h i).st) 0 kr (fun i hi=>by omega) (Zjs h 0 hm (.inr (by simpa using hv)))
theorem Z7N(h:Header)(hm:0≤h.map∧h.map≤4294967295):GP 99 [h.av] true (.d (.sl 1 ((Z09 h).map idv))) []:=by
 exact gF [] Tryz.func99 [] (Fh 3 [.own] (Fu (@ZkC h aa) (Fa (by exact Z6C _:Z0S (List.map idv (Z09 h))) Fz)))
def Work.in1(w:Work)(a:Int):Work:=⟨⟨(w.fwd (loadA w.heap.W a).1).1.heap.C,(Z0J (w.fwd (loadA w.heap.W a).1).1.heap.W a (w.fwd (loadA w.heap.W a).1).2.1).1,(w.fwd (loadA w.heap.W a).1).1.heap.P,(w.fwd (loadA w.heap.W a).1).1.heap.S,(w.fwd (loadA w.heap.W a).1).1.heap.B⟩,(w.fwd (loadA w.heap.W a).1).1.old,(w.fwd (loadA w.heap.W a).1).1.T,(w.fwd (loadA w.heap.W a).1).1.Q,(w.fwd (loadA w.heap.W a).1).1.D,(w.fwd (loadA w.heap.W a).1).1.rep⟩
def innN(w:Work)(a:Int)(l:List Int):Nat→Work
 | 0=>w
 | k+1=>(innN w a l k).in1 (a+1+l.getD k default)
def innE(w:Work)(a:Int)(l:List Int)(k:Nat):Int:=((innN w a l k).fwd (loadA (innN w a l k).heap.W (a+1+l.getD k default)).1).2.2
def Z3s(w:Work):Int:=w.Q.getD w.D.toNat default
def Z1Q(w:Work):List Int:=Z09 (hdW w (Z3s w))
def ZeR(w:Work)(n:Int):Work:=⟨w.heap,w.old,w.T,w.Q,w.D+1,⟨w.rep.copied,w.rep.kept,w.rep.filled,w.rep.freed,w.rep.cleared,w.rep.steps+1+n⟩⟩
def Z0Q(w:Work):Work×Bool×Int :=
 if w.D<w.Q.length then
  match (List.range (Z1Q w).length).find? (fun k=>decide (innE w (Z3s w) (Z1Q w) k≠0))with
  | none=>(ZeR (innN w (Z3s w) (Z1Q w) (Z1Q w).length) (Z1Q w).length,true,0)
  | some k=>(noWork,false,innE w (Z3s w) (Z1Q w) k)
 else(w,false,0)
theorem ZpU{w:Work}(hw:WkOk w)(a:Int)(e:(w.fwd (loadA w.heap.W a).1).2.2=0):WkOk (w.in1 a)∧w.Q.length≤(w.in1 a).Q.length∧(w.in1 a).D=w.D∧(w.in1 a).rep.steps=w.rep.steps:=by
 have hf:=fwd_ok hw _ e;have hl:=Zdt (w.fwd (loadA w.heap.W a).1).1.heap.W a (w.fwd (loadA w.heap.W a).1).2.1;have hl2:=hf.1.wl;exact⟨hf.1.withWords (Z95 hf.1.W oq a) oq,hf.2.2.2.1,hf.2.2.2.2.1,hf.2.2.2.2.2⟩
theorem Z4z{w:Work}(hw:WkOk w)(a:Int)(l:List Int):∀ k,(∀ j,j<k→innE w a l j=0)→WkOk (innN w a l k)∧w.Q.length≤(innN w a l k).Q.length∧(innN w a l k).D=w.D∧(innN w a l k).rep.steps=w.rep.steps
 | 0,_=>⟨hw,Nat.le_refl _,rfl,rfl⟩
 | k+1,h=>by
  have ih:=Z4z hw a l k (fun j hj=>h j oq);have hi:=ZpU ih.1 (a+1+l.getD k default) (h k oq);exact⟨hi.1,Nat.le_trans ih.2.1 hi.2.1,hi.2.2.1.trans ih.2.2.1,hi.2.2.2.trans ih.2.2.2⟩
theorem Z5e(h:Header):∀ i,∀ x∈Z11 h i,0≤x∧x<i
 | 0,x,hx=>by simp[Z11]at hx
 | i+1,x,hx=>by
  have ih:=Z5e h i;simp only[Z11]at hx;split at hx
  ·rcases List.mem_append.1 hx with hx | hx
   ·have:=ih x hx;omega
   ·simp at hx;omega
  ·have:=ih x hx;omega
theorem Z56(h:Header):(Z09 h).length≤255∧∀ x∈Z09 h,0≤x∧x≤255:=by
 unfold Z09;split
 ·rename_i hv;have:=validH_iff.1 hv;have hl:=Z4e h h.length.toNat
  exact⟨by omega,fun x hx=>by have:=Z5e h _ x hx;omega⟩
 ·simp
theorem Zhd(w:Work)(hw:WkOk w)(hs:¬ w.D<w.Q.length):GP 50 [w.av] false (.tu [w.av,bool false,int 0]) []:=by
 have h3:=hw.mu;exact gF [] Tryz.func50 [] (Fl 18 wdv w.Q (Ftb 19 (decide ((↑w.Q.length:Int)≤w.D)) Fz))
def stpL(w:Work)(a:Int)(l:List Int)(k:Nat):Tg:=⟨tm 90 [(1,.pt 8001 0 0),(2,.pt 8002 0 0),(3,bool false),(4,int 0),(5,u64 a),(6,Z0q l),(7,int k)],[(8002,.box 89 zW),(8001,.box 89 w.cells)],60⟩
section
variable (w:Work) (a:Int) (l:List Int) (k:Nat) (hw:WkOk w) (ha:0≤a∧a≤16384) (hl:l.length≤255) (hr:0≤l.getD k default∧l.getD k default≤255) (hk:k<l.length)
include hw ha hl hr hk
theorem ZfN(e:(w.fwd (loadA w.heap.W (a+1+l.getD k default)).1).2.2=0):CP (rndF Tryz.f50 0) (stpL w a l k).st .nrm (stpL (w.in1 (a+1+l.getD k default)) a l (k+1)).st:=by
 have h1:=hw.wl;have h2:=Z0F hw.W (a+1+l.getD k default);have h3:=fwd_ok hw _ e;have h4:=h3.1.wl;let y0:=a+1+l.getD k default;let y1:=w.fwd (loadA w.heap.W y0).fst;exact sF [] [] (FM 33 34 idv l k (Fv 38 (a+1) (Fek 41 idv l (↑k) k (Fv 43 (l.getD k default) (Fv 44 y0 (Fc 50 (@Z1M w.heap.W y0 oq oq) (Fc 56 (@Z43 w ((loadA w.heap.W y0).fst) aa aa) (Ffb 61 (y1.snd.snd != 0) (Fc 71 (@Z9E (y1.fst.heap.W) y0 (y1.snd.fst) oq oq) (Fx 36 k Fz))))))))))
theorem ZkP(e:¬ (w.fwd (loadA w.heap.W (a+1+l.getD k default)).1).2.2=0):CP (rndF Tryz.f50 0) (stpL w a l k).st .ret (Tg.st ⟨tm 90 [(2,.pt 8002 0 0),(3,bool false),(4,int (w.fwd (loadA w.heap.W (a+1+l.getD k default)).1).2.2)],[(8002,.box 89 zW)],60⟩):=by
 have h1:=hw.wl;have h2:=Z0F hw.W (a+1+l.getD k default);let y0:=a+1+l.getD k default;exact sF [] [] (FM 33 34 idv l k (Fv 38 (a+1) (Fek 41 idv l (↑k) k (Fv 43 (l.getD k default) (Fv 44 y0 (Fc 50 (@Z1M w.heap.W y0 oq oq) (Fc 56 (@Z43 w ((loadA w.heap.W y0).fst) aa aa) (Ftb 61 ((w.fwd (loadA w.heap.W y0).fst).snd.snd != 0) Fz))))))))
end
theorem ZpF(w:Work)(a:Int)(l:List Int):CP (rndF Tryz.f50 0) (stpL w a l l.length).st (.ext 0) (Tg.st ⟨tm 90 [(1,.pt 8001 0 0),(2,.pt 8002 0 0),(6,Z0q l)],[(8002,.box 89 zW),(8001,.box 89 w.cells)],60⟩):=by
 exact sF [] [] (FO 33 34 idv l Fz)
section
variable (w:Work) (a:Int) (l:List Int) (hw:WkOk w) (ha:0≤a∧a≤16384) (hl:l.length≤255) (hr:∀ x∈l,0≤x∧x≤255)
include hw ha hl hr
theorem Zot(hb:(List.range l.length).find? (fun k=>decide (innE w a l k≠0))=none):CP (blkF Tryz.f50 0) (Tg.st ⟨tm 90 [(1,.pt 8001 0 0),(2,.pt 8002 0 0),(3,bool false),(4,int 0),(5,u64 a),(6,Z0q l),(7,int 0)],[(8002,.box 89 zW),(8001,.box 89 w.cells)],60⟩) .nrm (Tg.st ⟨tm 90 [(1,.pt 8001 0 0),(2,.pt 8002 0 0),(6,Z0q l)],[(8002,.box 89 zW),(8001,.box 89 (innN w a l l.length).cells)],60⟩):=by
 have h0:∀ j,j<l.length→innE w a l j=0:=fun j hj=>by
  have:=List.find?_eq_none.1 hb j (List.mem_range.2 hj);simpa using this
 exact Z0a (S:=fun k=>(stpL (innN w a l k) a l k).st) l.length kr (fun k hk=>ZfN _ a l k (Z4z hw a l k fun j hj=>h0 j oq).1 ha hl (hr _ (getD_mem_iff.2 ⟨k,hk,rfl⟩)) hk (h0 k hk)) (ZpF _ a l)
theorem ZkU(i:Nat)(hb:(List.range l.length).find? (fun k=>decide (innE w a l k≠0))=some i):CP (blkF Tryz.f50 0) (Tg.st ⟨tm 90 [(1,.pt 8001 0 0),(2,.pt 8002 0 0),(3,bool false),(4,int 0),(5,u64 a),(6,Z0q l),(7,int 0)],[(8002,.box 89 zW),(8001,.box 89 w.cells)],60⟩) .ret (Tg.st ⟨tm 90 [(2,.pt 8002 0 0),(3,bool false),(4,int (innE w a l i))],[(8002,.box 89 zW)],60⟩):=by
 obtain⟨h1,h2,h3⟩:=List.find?_range_eq_some.1 hb;have h2:=List.mem_range.1 h2;have h0:∀ j,j<i→innE w a l j=0:=fun j hj=>by simpa using h3 j hj
 exact Z0I (S:=fun k=>(stpL (innN w a l k) a l k).st) i kr (fun k hk=>ZfN _ a l k (Z4z hw a l k fun j hj=>h0 j oq).1 ha hl (hr _ (getD_mem_iff.2 ⟨k,by omega,rfl⟩)) oq (h0 k hk)) (ZkP _ a l i (Z4z hw a l i h0).1 ha hl (hr _ (getD_mem_iff.2 ⟨i,h2,rfl⟩)) h2 (of_decide_eq_true h1))
end
theorem Z9n(w:Work)(hw:WkOk w):GP 50 [w.av] false (.tu [(Z0Q w).1.av,bool (Z0Q w).2.1,int (Z0Q w).2.2]) []:=by
 by_cases hs:w.D<w.Q.length
 ·have h2:=hw.sc;have h1:=hw.q _ (getD_mem_iff.2 ⟨w.D.toNat,by omega,rfl⟩);have h3:=hw.mu;have h4:=Z1E (loadA w.heap.W (w.Q.getD w.D.toNat default)).1 (Z0F hw.W _).1;have h5:hdW w (w.Q.getD w.D.toNat default)=(decodeH (loadA w.heap.W (w.Q.getD w.D.toNat default)).1).1:=rfl;have h6:=Z56 (hdW w (w.Q.getD w.D.toNat default));rw[← h5]at h4;unfold Z0Q;rw[if_pos hs];cases hb:(List.range (Z1Q w).length).find? (fun k=>decide (innE w (Z3s w) (Z1Q w) k≠0))with
  | none =>
   have h0:∀ j,j<(Z1Q w).length→innE w (Z3s w) (Z1Q w) j=0:=fun j hj=>by
    have:=List.find?_eq_none.1 hb j (List.mem_range.2 hj);simpa using this
   have k1:=Z4z hw (Z3s w) (Z1Q w) (Z1Q w).length h0;have k2:=k1.1.rs;have k3:=k1.1.sc;have k4:=k1.1.mu;unfold Z1Q Z3s at *;let y0:=w.Q.getD w.D.toNat default;let y1:=Z09 (hdW w y0);let y2:=innN w y0 y1 y1.length;exact gF [] Tryz.func50 [] (Fl 18 wdv w.Q (Ffb 19 (decide ((↑w.Q.length:Int)≤w.D)) (Fe 25 wdv w.Q w.D (Fc 29 (@Zff w y0 aa oq) (Fc 30 (@Z7N (hdW w y0) aa) (Fu (@Zot w y0 y1 aa aa oq (by grind[ZeR]) aa) (Fi 78 (y2.D+1) (Fi 83 (y2.rep.steps+1) (Fl 85 idv y1 (Fi 86 (y2.rep.steps+1+(↑y1.length:Int)) Fz))))))))))
  | some k =>
   unfold Z1Q Z3s at *;let y3:=w.Q.getD w.D.toNat default;exact gF [] Tryz.func50 [] (Fl 18 wdv w.Q (Ffb 19 (decide ((↑w.Q.length:Int)≤w.D)) (Fe 25 wdv w.Q w.D (Fc 29 (@Zff w y3 aa oq) (Fc 30 (@Z7N (hdW w y3) aa) (Fu (@ZkU w y3 (Z09 (hdW w y3)) aa aa oq (by grind[noWork,noHeap]) k aa) (Fnl (Fnl (Fnl (Fnl (Fnl Fz)))))))))))
 ·have e:Z0Q w=(w,false,0):=by rw[Z0Q,if_neg hs]
  rw[e];exact Zhd w hw hs
theorem Zgr{w:Work}(hw:WkOk w)(e:(Z0Q w).2.2=0):WkOk (Z0Q w).1∧((Z0Q w).2.1=true→(Z0Q w).1.D=w.D+1):=by
 by_cases hs:w.D<w.Q.length
 ·unfold Z0Q at e ⊢;rw[if_pos hs]at e ⊢;cases hb:(List.range (Z1Q w).length).find? (fun k=>decide (innE w (Z3s w) (Z1Q w) k≠0))with
  | none =>
   have h0:∀ j,j<(Z1Q w).length→innE w (Z3s w) (Z1Q w) j=0:=fun j hj=>by
    have:=List.find?_eq_none.1 hb j (List.mem_range.2 hj);simpa using this
   have k1:=Z4z hw (Z3s w) (Z1Q w) (Z1Q w).length h0;have k2:=k1.1.rs;have k3:=k1.1.sc;have k5:=(Z56 (hdW w (Z3s w))).1;have k6:=hw.sc;simp only;refine⟨⟨k1.1.W,k1.1.wl,k1.1.C,k1.1.pl,k1.1.sp,k1.1.ol,k1.1.o,k1.1.tk,k1.1.tl,k1.1.q,k1.1.us,k1.1.mu, ?_,k1.1.rk, ?_,k1.1.r0⟩, ?_⟩
   ·simp only[ZeR];omega
   ·simp only[ZeR];unfold Z1Q at *;omega
   ·intro _;simp only[ZeR];omega
  | some k =>
   simp only[hb]at e;have:=(List.find?_range_eq_some.1 hb).1;simp[e]at this
 ·have e:Z0Q w=(w,false,0):=by rw[Z0Q,if_neg hs]
  rw[e];exact⟨hw,fun h=>by cases h⟩
def itW(w:Work):Nat→Work
 | 0=>w
 | k+1=>(Z0Q (itW w k)).1
def bndW(w:Work):Nat:=1000002+w.old.length
def Z3B(w:Work)(k:Nat):Bool:=decide ((Z0Q (itW w k)).2.2≠0∨(Z0Q (itW w k)).2.1=false)
def allF(w:Work):Work×Int:=match (List.range (bndW w)).find? (Z3B w)with
 | none=>(w,0)
 | some k=>if(Z0Q (itW w k)).2.2=0 then((Z0Q (itW w k)).1,0)else(noWork,(Z0Q (itW w k)).2.2)
theorem Z4d{w:Work}(hw:WkOk w):∀ k,(∀ j,j<k→Z3B w j=false)→WkOk (itW w k)∧(itW w k).D=w.D+k
 | 0,_=>⟨hw,by simp[itW]⟩
 | k+1,h=>by
  have ih:=Z4d hw k (fun j hj=>h j oq);have hk:=h k oq;simp only[Z3B,decide_eq_false_iff_not,not_or,Decidable.not_not]at hk;have hs:=Zgr ih.1 hk.1;refine⟨hs.1, ?_⟩;have:=hs.2 (by simpa using hk.2);simp only[itW];omega
theorem Z4T{w:Work}(hw:WkOk w):∃ k,(List.range (bndW w)).find? (Z3B w)=some k:=by
 cases hb:(List.range (bndW w)).find? (Z3B w)with
 | some k=>exact⟨k,rfl⟩
 | none =>
  exfalso;have h0:∀ j,j<1000001→Z3B w j=false:=fun j hj=>by
   have:=List.find?_eq_none.1 hb j (List.mem_range.2 (by unfold bndW;omega));simpa using this
  have k:=Z4d hw 1000001 h0;have h1:=k.1.sc;have h2:=k.1.mu;have h3:=hw.sc;omega
def allL(w:Work):Tg:=⟨tm 21 [(1,.pt 8001 0 0),(2,.pt 8002 0 0),(3,int 0)],[(8002,.box 89 zW),(8001,.box 89 w.cells)],60⟩
section
variable (w:Work) (hw:WkOk w)
include hw
theorem Zft(e:(Z0Q w).2.2=0)(m:(Z0Q w).2.1=true):CP (rndF Tryz.f53 0) (allL w).st .nrm (allL (Z0Q w).1).st:=by
 exact sF [] [] (Fc 9 (@Z9n w aa) (Ffb 14 ((Z0Q w).snd.snd != 0) (Ffb 19 (!(Z0Q w).snd.fst) Fz)))
theorem Zou(e:(Z0Q w).2.2=0)(m:(Z0Q w).2.1=false):CP (rndF Tryz.f53 0) (allL w).st .ret (Tg.st ⟨tm 21 [(2,.pt 8002 0 0),(3,int 0)],[(8002,.box 89 (Z0Q w).1.cells)],60⟩):=by
 exact sF [] [] (Fc 9 (@Z9n w aa) (Ffb 14 ((Z0Q w).snd.snd != 0) (Ftb 19 (!(Z0Q w).snd.fst) Fz)))
theorem ZoL(e:¬ (Z0Q w).2.2=0):CP (rndF Tryz.f53 0) (allL w).st .ret (Tg.st ⟨tm 21 [(2,.pt 8002 0 0),(3,int (Z0Q w).2.2)],[(8002,.box 89 zW)],60⟩):=by
 exact sF [] [] (Fc 9 (@Z9n w aa) (Ftb 14 ((Z0Q w).snd.snd != 0) Fz))
theorem Zo9(k:Nat)(hb:(List.range (bndW w)).find? (Z3B w)=some k)(e:(Z0Q (itW w k)).2.2=0):CP (blkF Tryz.f53 0) (Tg.st ⟨tm 21 [(1,.pt 8001 0 0),(2,.pt 8002 0 0),(3,int 0)],[(8002,.box 89 zW),(8001,.box 89 w.cells)],60⟩) .ret (Tg.st ⟨tm 21 [(2,.pt 8002 0 0),(3,int 0)],[(8002,.box 89 (Z0Q (itW w k)).1.cells)],60⟩):=by
 obtain⟨h1,h2,h3⟩:=List.find?_range_eq_some.1 hb;have h0:∀ j,j<k→Z3B w j=false:=fun j hj=>by simpa using h3 j hj
 have m:(Z0Q (itW w k)).2.1=false:=by
  simp only[Z3B,decide_eq_true_eq,e]at h1;simpa using h1
 exact Z0I (S:=fun k=>(allL (itW w k)).st) k kr (fun j hj=>by
  have hk:=h0 j hj;simp only[Z3B,decide_eq_false_iff_not,not_or,Decidable.not_not]at hk;exact Zft _ (Z4d hw j fun i hi=>h0 i oq).1 hk.1 (by simpa using hk.2)) (Zou _ (Z4d hw k h0).1 e m)
theorem Zl6(k:Nat)(hb:(List.range (bndW w)).find? (Z3B w)=some k)(e:¬ (Z0Q (itW w k)).2.2=0):CP (blkF Tryz.f53 0) (Tg.st ⟨tm 21 [(1,.pt 8001 0 0),(2,.pt 8002 0 0),(3,int 0)],[(8002,.box 89 zW),(8001,.box 89 w.cells)],60⟩) .ret (Tg.st ⟨tm 21 [(2,.pt 8002 0 0),(3,int (Z0Q (itW w k)).2.2)],[(8002,.box 89 zW)],60⟩):=by
 obtain⟨h1,h2,h3⟩:=List.find?_range_eq_some.1 hb;have h0:∀ j,j<k→Z3B w j=false:=fun j hj=>by simpa using h3 j hj
 exact Z0I (S:=fun k=>(allL (itW w k)).st) k kr (fun j hj=>by
  have hk:=h0 j hj;simp only[Z3B,decide_eq_false_iff_not,not_or,Decidable.not_not]at hk;exact Zft _ (Z4d hw j fun i hi=>h0 i oq).1 hk.1 (by simpa using hk.2)) (ZoL _ (Z4d hw k h0).1 e)
theorem ZbA:GP 53 [w.av] false (.tu [(allF w).1.av,int (allF w).2]) []:=by
 obtain⟨k,hb⟩:=Z4T hw;by_cases e:(Z0Q (itW w k)).2.2=0
 ·have e7:allF w=((Z0Q (itW w k)).1,0):=by rw[allF,hb];simp only[if_pos e]
  rw[e7];exact gF [] Tryz.func53 [] (Fu (@Zo9 w aa k aa aa) Fz)
 ·have e7:allF w=(noWork,(Z0Q (itW w k)).2.2):=by rw[allF,hb];simp only[if_neg e]
  rw[e7];exact gF [] Tryz.func53 [] (Fu (@Zl6 w aa k aa aa) (Fnl (Fnl (Fnl (Fnl (Fnl Fz))))))
omit hw in
theorem Zop(hw:WkOk w)(e:(allF w).2=0):WkOk (allF w).1:=by
 obtain⟨k,hb⟩:=Z4T hw;obtain⟨h1,h2,h3⟩:=List.find?_range_eq_some.1 hb;have h0:∀ j,j<k→Z3B w j=false:=fun j hj=>by simpa using h3 j hj
 unfold allF at e ⊢;rw[hb]at e ⊢;simp only at e ⊢;split at e
 ·rename_i c;rw[if_pos c];exact(Zgr (Z4d hw k h0).1 c).1
 ·rename_i c;exact absurd e c
end
def hlA(ws:List Int)(a:Int):Int:=(decodeH (loadA ws a).1).1.length
theorem Z0d(ws:List Int)(a:Int):0≤hlA ws a∧hlA ws a≤255:=by
 have:=validH_iff.1 (Z2s (loadA ws a).1);exact⟨this.2.2.1,this.2.2.2.1⟩
theorem Z26{ws l:List Int}{a b:Int}(h:4096≤a∧a-4096+l.length≤ws.length)(hb:b<a∨a+l.length≤b):loadA (Z0z ws a l).1 b=loadA ws b:=by
 unfold Z0z;rw[if_pos h];have hl:(spl ws (a-4096).toNat l).length=ws.length:=Z3P oq;unfold loadA;simp only[hl];split
 ·have:=Z8S (ws:=ws) (l:=l) (i:=(a-4096).toNat) (k:=l.length) oq (Nat.le_refl _) (b-4096).toNat
  rw[Zds]at this;rw[List.getD_eq_getElem?_getD,List.getD_eq_getElem?_getD,this];by_cases h1:(b-4096).toNat<(a-4096).toNat
  ·rw[if_pos h1]
  ·rw[if_neg h1,if_neg oq]
 ·rfl
theorem Z1I{ws l:List Int}{a b:Int}(h:4096≤a∧a-4096+l.length≤ws.length)(hb:a≤b∧b<a+l.length):loadA (Z0z ws a l).1 b=(l.getD (b-a).toNat 0,0):=by
 unfold Z0z;rw[if_pos h];have hl:(spl ws (a-4096).toNat l).length=ws.length:=Z3P oq;unfold loadA;simp only[hl];rw[if_pos oq];have:=Z8S (ws:=ws) (l:=l) (i:=(a-4096).toNat) (k:=l.length) oq (Nat.le_refl _) (b-4096).toNat
 rw[Zds]at this;rw[List.getD_eq_getElem?_getD,List.getD_eq_getElem?_getD,this,if_neg oq,if_pos oq,show(b-4096).toNat-(a-4096).toNat=(b-a).toNat by omega]
theorem Z2l{ws:List Int}{a v:Int}(h:4096≤a∧a<4096+ws.length):(Z0J ws a v).1.length=ws.length:=by
 unfold Z0J Z0z;rw[if_pos qo];exact Z3P qo
theorem Z0y{ws:List Int}{a b v:Int}(h:4096≤a∧a<4096+ws.length)(hb:b≠a):loadA (Z0J ws a v).1 b=loadA ws b :=
 Z26 qo qo
theorem Z1V{ws:List Int}{a v:Int}(h:4096≤a∧a<4096+ws.length):loadA (Z0J ws a v).1 a=(v,0):=by
 have:=Z1I (ws:=ws) (l:=[v]) (a:=a) (b:=a) qo qo;rw[Z0J,this];simp
theorem Z57{ws:List Int}{a b n:Int}(hn:1≤n)(ha:4096≤a∧a-4096+n≤ws.length)(hb:4096≤b∧b-4096+n≤ws.length) :
  (moveA ws a b n).1.length=ws.length∧loadA (moveA ws a b n).1 a=((loadA ws b).1,0)∧∀ x,x<a∨a+n≤x→loadA (moveA ws a b n).1 x=loadA ws x:=by
 have e1:Z1i ws b n=((ws.drop (b-4096).toNat).take n.toNat,0):=by rw[Z1i,if_neg oq,if_pos hb]
 have e2:moveA ws a b n=Z0z ws a ((ws.drop (b-4096).toNat).take n.toNat):=by rw[moveA,e1];simp
 have hl:((ws.drop (b-4096).toNat).take n.toNat).length=n.toNat:=by simp;omega
 rw[e2];refine⟨?_, ?_, ?_⟩
 ·unfold Z0z;rw[if_pos oq];exact Z3P oq
 ·rw[Z1I oq oq];congr 1;unfold loadA;rw[if_pos oq];simp only[List.getD_eq_getElem?_getD,Int.sub_self,Int.toNat_zero];rw[List.getElem?_take_of_lt oq,List.getElem?_drop];simp
 ·intro x hx;exact Z26 oq oq
theorem Zhn(a:Int):(decodeH (4*a+2)).1.length=0:=by
 unfold decodeH;rw[if_neg]
 ·rfl
 ·rintro⟨h1,h2⟩;unfold Z0c at h1 h2;split at h2
  ·simp only[Z32]at h2;omega
  ·simp only at h2;omega
def occP(p:Page):Int:=if p.K=0 then 0 else p.U
structure CIv (w:Work):Prop where
 L:(w.heap.W.length:Int)=w.heap.C.pw*w.heap.C.pg
 r:∀ a∈w.old++w.Q,4096≤a∧a+hlA w.heap.W a<4096+w.heap.W.length
 s:∀ a∈w.old++w.Q,∀ b∈w.old++w.Q,a<b→a+hlA w.heap.W a<b
 f:∀ i:Nat,i<w.heap.P.length→(w.heap.P.getD i default).K=0∨(i:Int)∈w.T→∀ a∈w.old++w.Q,a+hlA w.heap.W a<4096+i*w.heap.C.pw+occP (w.heap.P.getD i default)∨4096+i*w.heap.C.pw+w.heap.C.pw≤a
 z:∀ x∈w.old,(w.heap.P.getD (ofA w.heap.C x).1.toNat default).K=2∨hlA w.heap.W x+1≤w.heap.C.pw
theorem CIv.withWords{w:Work}(h:CIv w){l:List Int}(hl:l.length=w.heap.W.length)(hh:∀ a∈w.old++w.Q,hlA l a≤hlA w.heap.W a):CIv ⟨⟨w.heap.C,l,w.heap.P,w.heap.S,w.heap.B⟩,w.old,w.T,w.Q,w.D,w.rep⟩:=by
 refine⟨?_, ?_, ?_, ?_, ?_⟩
 ·simp only[hl];exact h.L
 ·intro a ha;have h1:=h.r a ha;have h2:=hh a ha;simp only[hl];omega
 ·intro a ha b hb hab;have h1:=h.s a ha b hb hab;have h2:=hh a ha;simp only;omega
 ·intro i hi hc a ha;have h1:=h.f i hi hc a ha;have h2:=hh a ha;simp only at *;omega
 ·intro x hx;have h1:=h.z x hx;have h2:=hh x (List.mem_append_left _ hx);simp only at *;omega
theorem CIv.keep{w:Work}(h:CIv w){r:Int}(hr:r∈w.old):CIv (w.keep r):=by
 have hm:∀ a,a∈w.old++(w.Q++[r])→a∈w.old++w.Q:=by
  intro a ha;simp only[List.mem_append,List.mem_singleton]at ha ⊢;rcases ha with ha | ha | rfl
  ·exact Or.inl ha
  ·exact Or.inr ha
  ·exact Or.inl hr
 exact⟨h.L,fun a ha=>h.r a (hm a ha),fun a ha b hb=>h.s a (hm a ha) b (hm b hb),fun i hi hc a ha=>h.f i hi hc a (hm a ha),h.z⟩
theorem CIv.flip{w:Work}(h:CIv w)(i:Nat):CIv (w.flip i):=by
 have hk:∀ j,((Z0n w.heap.P i (Z0h w.heap.P i) (1-w.heap.S)).getD j default).K=(w.heap.P.getD j default).K∧((Z0n w.heap.P i (Z0h w.heap.P i) (1-w.heap.S)).getD j default).U=(w.heap.P.getD j default).U:=by
  intro j;by_cases hj:j<w.heap.P.length
  ·rw[Z1o hj];split
   ·exact⟨rfl,rfl⟩
   ·exact⟨rfl,rfl⟩
  ·rw[List.getD_eq_getElem?_getD,List.getD_eq_getElem?_getD,List.getElem?_eq_none (by rw[Z1g];omega),List.getElem?_eq_none oq];exact⟨rfl,rfl⟩
 refine⟨h.L,h.r,h.s, ?_, ?_⟩
 ·intro j hj hc a ha;simp only[Work.flip,Z1g,occP,hk]at hj hc ha ⊢;exact h.f j hj hc a ha
 ·intro x hx;simp only[Work.flip,hk];exact h.z x hx
theorem Z5F{w:Work}{n:Int}(hw:WkOk w)(hn:1≤n∧n≤w.heap.C.pw)(h:(w.place n).2.2=true) :
  ∃ (i:Nat) (p:Page) (t:List Int),i<w.heap.P.length∧((w.heap.P.getD i default).K=0∨((i:Int)∈w.T∧(w.heap.P.getD i default).K=1))∧p.K=1∧p.U=occP (w.heap.P.getD i default)+n∧occP (w.heap.P.getD i default)+n≤w.heap.C.pw∧0≤occP (w.heap.P.getD i default)∧(∀ x∈t,x∈w.T∨x=(i:Int))∧(w.place n).2.1=4096+i*w.heap.C.pw+occP (w.heap.P.getD i default) ∧
  (w.place n).1=⟨⟨w.heap.C,w.heap.W,w.heap.P.set i p,w.heap.S,w.heap.B⟩,w.old,t,w.Q,w.D,w.rep⟩:=by
 have hb:=validB_iff.1 hw.C;have hpl:=hw.pl;by_cases hf:Z2u w n
 ·have e:w.place n=(⟨⟨w.heap.C,w.heap.W,Z1B w.heap.P (Z0k w).toNat n,w.heap.S,w.heap.B⟩,w.old,w.T,w.Q,w.D,w.rep⟩,4096+Z0k w*w.heap.C.pw+(w.heap.P.getD (Z0k w).toNat default).U,true):=by rw[Work.place,if_pos hf]
  unfold Z2u at hf;have hm:=hw.tk _ (Z17 hf.1);have hu:=hw.us (Z0k w).toNat oq
  have hk:=hm.2.2;have hup:occP (w.heap.P.getD (Z0k w).toNat default)=(w.heap.P.getD (Z0k w).toNat default).U:=by rw[occP,if_neg oq]
  have hc:(((Z0k w).toNat:Nat):Int)=Z0k w:=by omega
  refine⟨(Z0k w).toNat,⟨(w.heap.P.getD (Z0k w).toNat default).K,(w.heap.P.getD (Z0k w).toNat default).S,(w.heap.P.getD (Z0k w).toNat default).U+n,(w.heap.P.getD (Z0k w).toNat default).N⟩,w.T,by omega,Or.inr ⟨by rw[hc];exact Z17 hf.1,hk⟩,hk,by rw[hup],by rw[hup];omega,by rw[hup];omega,fun x hx=>Or.inl hx, ?_, ?_⟩
  ·rw[e,hup,hc]
  ·rw[e];rfl
 ·by_cases hg:0≤Z0e w
  ·have e:w.place n=(⟨⟨w.heap.C,w.heap.W,Z1B (Z1P w) (Z0e w).toNat n,w.heap.S,w.heap.B⟩,w.old,w.T++[Z0e w],w.Q,w.D,w.rep⟩,4096+Z0e w*w.heap.C.pw,true):=by rw[Work.place,if_neg hf,if_pos hg]
   obtain⟨f1,f2,f3,f4⟩:=Z2D (h:=⟨w.heap.C,w.heap.W,w.heap.P,1-w.heap.S,w.heap.B⟩) (by have:=hw.sp;simp only;omega) hg;obtain⟨g1,g2,g3⟩:=Z1j hg;simp only at f1 f2 f3 f4;have hi:(Z0e w).toNat<w.heap.P.length:=by unfold Z0e;omega
   have hk:(w.heap.P.getD (Z0e w).toNat default).K=0:=by
    have:=freeK_iff.1 g3 0 dd;simpa[Z0e]using this
   have hup:occP (w.heap.P.getD (Z0e w).toNat default)=0:=by rw[occP,if_pos hk]
   have hc:(((Z0e w).toNat:Nat):Int)=Z0e w:=by omega
   have hq:Z1B (Z1P w) (Z0e w).toNat n=w.heap.P.set (Z0e w).toNat ⟨1,1-w.heap.S,n,0⟩:=by
    unfold Z1B;have e4:(Z1P w).getD (Z0e w).toNat default=⟨1,1-w.heap.S,0,0⟩:=f4;rw[e4];have e1:Z1P w=w.heap.P.set (Z0e w).toNat ⟨1,1-w.heap.S,0,0⟩:=by
     have:Z1P w=tookP w.heap.P (Z0e w).toNat 1 ⟨1,1-w.heap.S,0,0⟩ ⟨0,0,0,0⟩:=f1;rw[this,Z90 hi]
    rw[e1,List.set_set];simp
   refine⟨(Z0e w).toNat,⟨1,1-w.heap.S,n,0⟩,w.T++[Z0e w],hi,Or.inl hk,rfl,by rw[hup];simp,by rw[hup];omega,by rw[hup];decide, ?_, ?_, ?_⟩
   ·intro x hx;simp only[List.mem_append,List.mem_singleton]at hx;rcases hx with hx | rfl
    ·exact Or.inl hx
    ·exact Or.inr hc.symm
   ·rw[e,hup,hc];simp
   ·rw[e,hq]
  ·rw[Work.place,if_neg hf,if_neg hg]at h;simp at h
theorem Z14{i j pw:Int}(h:i<j)(hp:0≤pw):i*pw+pw≤j*pw:=by
 have:=Int.mul_le_mul_of_nonneg_right (show i+1≤j by omega) hp;rw[Int.add_mul,Int.one_mul]at this;exact this
theorem CIv.copy{w:Work}(hw:WkOk w)(h:CIv w){r n:Int}(hr:r∈w.old)(hn:n=hlA w.heap.W r+1)(hp:n≤w.heap.C.pw)(hc:(w.place n).2.2=true):CIv ((w.place n).1.copy r (w.place n).2.1 n):=by
 have hlr:=Z0d w.heap.W r;obtain⟨i,p,t,h1,h2,h3,h4,h5,h6,h7,h8,e⟩:=Z5F hw ⟨by omega,hp⟩ hc;have hb:=validB_iff.1 hw.C;have hpl:=hw.pl;have hL:=h.L;have hio:(i:Int)*w.heap.C.pw+w.heap.C.pw≤w.heap.C.pw*w.heap.C.pg:=by
  have:=Z14 (i:=i) (j:=w.heap.C.pg) (pw:=w.heap.C.pw) oq oq;rw[Int.mul_comm w.heap.C.pw];exact this
 have hi0:0≤(i:Int)*w.heap.C.pw:=Int.mul_nonneg oq oq;rw[e,h8];generalize hu:occP (w.heap.P.getD i default)=u at *;generalize ha:4096+(i:Int)*w.heap.C.pw+u=at';have hrr:=h.r r (List.mem_append_left _ hr);have hf:=h.f i h1 (by rcases h2 with h2 | h2;exact Or.inl h2;exact Or.inr h2.1);rw[hu]at hf;obtain⟨m1,m2,m3⟩:=Z57 (ws:=w.heap.W) (a:=at') (b:=r) (n:=n) oq oq oq;have hfr:=hf r (List.mem_append_left _ hr);have hne:r≠at':=by omega
 have hsr:4096≤r∧r<4096+(moveA w.heap.W at' r n).1.length:=by omega
 have k1:∀ a∈w.old++w.Q,hlA (Z0J (moveA w.heap.W at' r n).1 r (4*at'+2)).1 a≤hlA w.heap.W a:=by
  intro a hA;have hfa:=hf a hA;have hla:=Z0d w.heap.W a;by_cases hk:a=r
  ·subst hk;have:hlA (Z0J (moveA w.heap.W at' a n).1 a (4*at'+2)).1 a=0:=by
    unfold hlA;rw[Z1V hsr];exact Zhn at'
   omega
  ·have:hlA (Z0J (moveA w.heap.W at' r n).1 r (4*at'+2)).1 a=hlA w.heap.W a:=by
    unfold hlA;rw[Z0y hsr hk,m3 a oq]
   omega
 have k2:hlA (Z0J (moveA w.heap.W at' r n).1 r (4*at'+2)).1 at'=n-1:=by
  have:hlA (Z0J (moveA w.heap.W at' r n).1 r (4*at'+2)).1 at'=hlA w.heap.W r:=by
   unfold hlA;rw[Z0y hsr (Ne.symm hne),m2]
  omega
 have hlen:(Z0J (moveA w.heap.W at' r n).1 r (4*at'+2)).1.length=w.heap.W.length:=by rw[Z2l hsr,m1]
 have hmem:∀ a,a∈w.old++(w.Q++[at'])→a∈w.old++w.Q∨a=at':=by
  intro a hA;simp only[List.mem_append,List.mem_singleton]at hA ⊢;rcases hA with hA | hA | hA
  ·exact Or.inl (Or.inl hA)
  ·exact Or.inl (Or.inr hA)
  ·exact Or.inr hA
 refine⟨?_, ?_, ?_, ?_, ?_⟩
 ·simp only[Work.copy,hlen];exact hL
 ·intro a hA;simp only[Work.copy,hlen]at hA ⊢;rcases hmem a hA with hA | rfl
  ·have q1:=h.r a hA;have q2:=k1 a hA;omega
  ·rw[k2];omega
 ·intro a hA b hB hab;simp only[Work.copy]at hA hB ⊢;rcases hmem a hA with hA' | e1<;>rcases hmem b hB with hB' | e2
  ·have q1:=h.s a hA' b hB' hab;have q2:=k1 a hA';omega
  ·have q1:=hf a hA';have q2:=k1 a hA';omega
  ·have q1:=hf b hB';have q2:=Z0d w.heap.W b;rw[e1,k2];omega
  ·omega
 ·intro j hj hcj a hA;simp only[Work.copy,List.length_set]at hj hcj hA ⊢;by_cases hij:i=j
  ·subst hij;rw[Z0p h1,if_pos rfl];have hup:occP p=u+n:=by rw[occP,if_neg oq,h4]
   rw[hup];rcases hmem a hA with hA | rfl
   ·have q1:=hf a hA;have q2:=k1 a hA;omega
   ·rw[k2];omega
  ·rw[Z0p h1,if_neg hij]at hcj ⊢;have hcj':(w.heap.P.getD j default).K=0∨(j:Int)∈w.T:=by
    rcases hcj with hcj | hcj
    ·exact Or.inl hcj
    ·rcases h7 _ hcj with q | q
     ·exact Or.inr q
     ·omega
   rcases hmem a hA with hA | rfl
   ·have q1:=h.f j hj hcj' a hA;have q2:=k1 a hA;omega
   ·rw[k2];have hus:0≤occP (w.heap.P.getD j default):=by
     have:=hw.us j hj;unfold occP;split<;>omega
    by_cases hlt:i<j
    ·have:=Z14 (i:=i) (j:=j) (pw:=w.heap.C.pw) oq oq;omega
    ·have:=Z14 (i:=j) (j:=i) (pw:=w.heap.C.pw) oq oq;omega
 ·intro x hx;simp only[Work.copy]at hx ⊢;have q1:=h.z x hx;have q2:=k1 x (List.mem_append_left _ hx);rw[Z0p h1];split
  ·rename_i hxi;rw[← hxi]at q1;rcases h2 with h2 | h2<;>omega
  ·omega
structure CEx (w v:Work):Prop where
 c:v.heap.C=w.heap.C
 o:v.old=w.old
 q:∀ x∈w.Q,x∈v.Q
 l:∀ x∈w.Q,hlA v.heap.W x=hlA w.heap.W x
theorem CEx.rfl'(w:Work):CEx w w:=⟨rfl,rfl,fun _ h=>h,fun _ _=>rfl⟩
theorem CEx.trans{u v w:Work}(h1:CEx u v)(h2:CEx v w):CEx u w :=
 ⟨h2.c.trans h1.c,h2.o.trans h1.o,fun x hx=>h2.q x (h1.q x hx),fun x hx=>(h2.l x (h1.q x hx)).trans (h1.l x hx)⟩
theorem Z1W(w:Work)(r:Int):sizeH (hdW w r)=hlA w.heap.W r+1:=by
 have hv:Z0g (hdW w r)=true:=Z2s _;rw[sizeH,if_pos hv];rfl
theorem ZlP{w:Work}(hw:WkOk w)(h:CIv w){r n:Int}(hr:r∈w.old)(hq:r∉w.Q)(hn:n=hlA w.heap.W r+1)(hp:n≤w.heap.C.pw)(hc:(w.place n).2.2=true):CEx w ((w.place n).1.copy r (w.place n).2.1 n):=by
 have hlr:=Z0d w.heap.W r;obtain⟨i,p,t,h1,h2,h3,h4,h5,h6,h7,h8,e⟩:=Z5F hw ⟨by omega,hp⟩ hc;have hb:=validB_iff.1 hw.C;have hpl:=hw.pl;have hL:=h.L;have hio:(i:Int)*w.heap.C.pw+w.heap.C.pw≤w.heap.C.pw*w.heap.C.pg:=by
  have:=Z14 (i:=i) (j:=w.heap.C.pg) (pw:=w.heap.C.pw) oq oq;rw[Int.mul_comm w.heap.C.pw];exact this
 have hi0:0≤(i:Int)*w.heap.C.pw:=Int.mul_nonneg oq oq;rw[e,h8];generalize hu:occP (w.heap.P.getD i default)=u at *;generalize ha:4096+(i:Int)*w.heap.C.pw+u=at';have hrr:=h.r r (List.mem_append_left _ hr);have hf:=h.f i h1 (by rcases h2 with h2 | h2;exact Or.inl h2;exact Or.inr h2.1);rw[hu]at hf;obtain⟨m1,m2,m3⟩:=Z57 (ws:=w.heap.W) (a:=at') (b:=r) (n:=n) oq oq oq;have hsr:4096≤r∧r<4096+(moveA w.heap.W at' r n).1.length:=by omega
 refine⟨rfl,rfl,fun x hx=>List.mem_append_left _ hx, ?_⟩;intro x hx;have hfx:=hf x (List.mem_append_right _ hx);have hlx:=Z0d w.heap.W x;simp only[Work.copy];unfold hlA at *;rw[Z0y hsr (fun q=>hq (q▸hx)),m3 x oq]
theorem Z5j{w:Work}(hw:WkOk w)(h:CIv w)(r:Int)(e:(w.fwd r).2.2=0):CIv (w.fwd r).1∧CEx w (w.fwd r).1:=by
 unfold Work.fwd at e ⊢;split at e
 ·rename_i c1;rw[if_pos c1];exact⟨h,CEx.rfl' w⟩
 ·rename_i c1;rw[if_neg c1];have c1':r∉w.Q:=fun h=>c1 (Or.inr h);split at e
  ·simp at e
  ·rename_i c2;rw[if_neg c2];have c2':r∈w.old:=Decidable.not_not.1 c2;split at e
   ·rename_i c3;rw[if_pos c3];exact⟨h,CEx.rfl' w⟩
   ·rename_i c3;rw[if_neg c3];split at e
    ·simp at e
    ·rename_i c4;rw[if_neg c4];split at e
     ·rename_i c5;rw[if_pos c5];exact⟨h.keep c2',⟨rfl,rfl,fun x hx=>List.mem_append_left _ hx,fun _ _=>rfl⟩⟩
     ·rename_i c5;rw[if_neg c5];split at e
      ·rename_i c6;rw[if_pos c6];exact⟨(h.flip _).keep c2',⟨rfl,rfl,fun x hx=>List.mem_append_left _ hx,fun _ _=>rfl⟩⟩
      ·rename_i c6;rw[if_neg c6];split at e
       ·simp at e
       ·rename_i c7;rw[if_neg c7];have c7':(w.place (sizeH (hdW w r))).2.2=true:=by simpa using c7
        have hz:=h.z r c2';have hp:sizeH (hdW w r)≤w.heap.C.pw:=by
         rw[Z1W];rcases hz with hz | hz
         ·exact absurd hz c6
         ·exact hz
        exact⟨h.copy hw c2' (Z1W w r) hp c7',ZlP hw h c2' c1' (Z1W w r) hp c7'⟩
theorem Zn9{w:Work}(hw:WkOk w)(h:CIv w){q j:Int}(hq:q∈w.Q)(hj:0≤j∧j<hlA w.heap.W q)(e:(w.fwd (loadA w.heap.W (q+1+j)).1).2.2=0):CIv (w.in1 (q+1+j))∧CEx w (w.in1 (q+1+j)):=by
 obtain⟨i1,x1⟩:=Z5j hw h _ e;have hq1:=x1.q q hq;have hl1:=x1.l q hq;have hr:=i1.r q (List.mem_append_right _ hq1);have hs:=i1.s q (List.mem_append_right _ hq1);have hin:4096≤q+1+j∧q+1+j<4096+(w.fwd (loadA w.heap.W (q+1+j)).1).1.heap.W.length:=by omega
 have hk:∀ a∈(w.fwd (loadA w.heap.W (q+1+j)).1).1.old++(w.fwd (loadA w.heap.W (q+1+j)).1).1.Q,hlA (Z0J (w.fwd (loadA w.heap.W (q+1+j)).1).1.heap.W (q+1+j) (w.fwd (loadA w.heap.W (q+1+j)).1).2.1).1 a=hlA (w.fwd (loadA w.heap.W (q+1+j)).1).1.heap.W a:=by
  intro a ha;unfold hlA;rw[Z0y hin];intro hc;have:=hs a ha oq;omega
 refine⟨i1.withWords (Z2l hin) (fun a ha=>Int.le_of_eq (hk a ha)),x1.trans ⟨rfl,rfl,fun _ h=>h,fun x hx=>hk x (List.mem_append_right _ hx)⟩⟩
theorem Z5i(h:Header):∀ x∈Z09 h,0≤x∧x<h.length:=by
 unfold Z09;split
 ·intro x hx;have:=Z5e h _ x hx;omega
 ·simp
theorem Z82{w:Work}(hw:WkOk w)(h:CIv w){q:Int}(hq:q∈w.Q){l:List Int}(hl:∀ x∈l,0≤x∧x<hlA w.heap.W q):∀ k,k≤l.length→(∀ j,j<k→innE w q l j=0)→CIv (innN w q l k)∧CEx w (innN w q l k)
 | 0,_,_=>⟨h,CEx.rfl' w⟩
 | k+1,hk,he=>by
  have ih:=Z82 hw h hq hl k oq (fun j hj=>he j oq);have ok:=(Z4z hw q l k (fun j hj=>he j oq)).1;have hx:=hl _ (getD_mem_iff.2 ⟨k,by omega,rfl⟩);have:=Zn9 ok ih.1 (ih.2.q q hq) (j:=l.getD k default) ⟨hx.1,by rw[ih.2.l q hq];exact hx.2⟩ (he k oq);exact⟨this.1,ih.2.trans this.2⟩
theorem Zcs{w:Work}(hw:WkOk w)(h:CIv w)(e:(Z0Q w).2.2=0):CIv (Z0Q w).1∧CEx w (Z0Q w).1:=by
 by_cases hs:w.D<w.Q.length
 ·have hsc:=hw.sc;have hq:Z3s w∈w.Q:=getD_mem_iff.2 ⟨w.D.toNat,by omega,rfl⟩;unfold Z0Q at e ⊢;rw[if_pos hs]at e ⊢;cases hb:(List.range (Z1Q w).length).find? (fun k=>decide (innE w (Z3s w) (Z1Q w) k≠0))with
  | none =>
   have h0:∀ j,j<(Z1Q w).length→innE w (Z3s w) (Z1Q w) j=0:=fun j hj=>by
    have:=List.find?_eq_none.1 hb j (List.mem_range.2 hj);simpa using this
   obtain⟨k1,k2⟩:=Z82 hw h hq (l:=Z1Q w) (Z5i (hdW w (Z3s w))) (Z1Q w).length (Nat.le_refl _) h0;exact⟨⟨k1.L,k1.r,k1.s,k1.f,k1.z⟩,⟨k2.c,k2.o,k2.q,k2.l⟩⟩
  | some k =>
   simp only[hb]at e;have:=(List.find?_range_eq_some.1 hb).1;simp[e]at this
 ·have e:Z0Q w=(w,false,0):=by rw[Z0Q,if_neg hs]
  rw[e];exact⟨h,CEx.rfl' w⟩
theorem Z7B{w:Work}(hw:WkOk w)(h:CIv w):∀ k,(∀ j,j<k→Z3B w j=false)→CIv (itW w k)∧CEx w (itW w k)
 | 0,_=>⟨h,CEx.rfl' w⟩
 | k+1,hh=>by
  have ih:=Z7B hw h k (fun j hj=>hh j oq);have ok:=(Z4d hw k (fun j hj=>hh j oq)).1;have hk:=hh k oq;simp only[Z3B,decide_eq_false_iff_not,not_or,Decidable.not_not]at hk;have:=Zcs ok ih.1 hk.1;exact⟨this.1,ih.2.trans this.2⟩
theorem Zge{w:Work}(hw:WkOk w)(h:CIv w)(e:(allF w).2=0):CIv (allF w).1∧CEx w (allF w).1:=by
 obtain⟨k,hb⟩:=Z4T hw;obtain⟨h1,h2,h3⟩:=List.find?_range_eq_some.1 hb;have h0:∀ j,j<k→Z3B w j=false:=fun j hj=>by simpa using h3 j hj
 unfold allF at e ⊢;rw[hb]at e ⊢;simp only at e ⊢;split at e
 ·rename_i c;rw[if_pos c];have i1:=Z7B hw h k h0;have i2:=Zcs (Z4d hw k h0).1 i1.1 c;exact⟨i2.1,i1.2.trans i2.2⟩
 ·rename_i c;exact absurd e c
theorem Z5r{w:Work}{roots:List Int}(hw:WkOk w)(h:CIv w):∀ k,(∀ j,j<k→Z2B w roots j=0)→CIv (Z1u w roots k).1∧CEx w (Z1u w roots k).1
 | 0,_=>⟨h,CEx.rfl' w⟩
 | k+1,hh=>by
  have ih:=Z5r hw h k (fun j hj=>hh j oq);have ok:=(Z3m (roots:=roots) hw k (fun j hj=>hh j oq)).1;have:=Z5j ok ih.1 (roots.getD k default) (hh k oq);exact⟨this.1,ih.2.trans this.2⟩
theorem Z3O{w:Work}{roots:List Int}(hw:WkOk w)(h:CIv w)(e:(rootsF w roots).2.2=0):WkOk (rootsF w roots).1∧CIv (rootsF w roots).1∧CEx w (rootsF w roots).1∧(∀ x∈(rootsF w roots).2.1,0≤x∧x≤4294967296)∧(rootsF w roots).2.1.length=roots.length:=by
 unfold rootsF at e ⊢;cases hb:(List.range roots.length).find? (fun k=>decide (Z2B w roots k≠0))with
 | none =>
  have h0:∀ j,j<roots.length→Z2B w roots j=0:=fun j hj=>by
   have:=List.find?_eq_none.1 hb j (List.mem_range.2 hj);simpa using this
  have k1:=Z3m (roots:=roots) hw roots.length h0;have k2:=Z5r (roots:=roots) hw h roots.length h0;exact⟨k1.1,k2.1,k2.2,k1.2.1,Z4h w roots _⟩
 | some k =>
  simp only[hb]at e;have:=(List.find?_range_eq_some.1 hb).1;simp[e]at this
theorem Z64(sp:Int):∀ (l:List Page) (m:Nat),m<Z1d sp l→m<l.length∧(l.getD m default).K=3∧(l.getD m default).S=sp
 | [],m,h=>by simp[Z1d]at h
 | p::l,m,h=>by
  unfold Z1d at h;split at h
  ·rename_i hp;cases m with
   | zero=>exact⟨by simp,hp⟩
   | succ m =>
    obtain⟨h1,h2⟩:=Z64 sp l m oq;exact⟨by simp;omega,by simpa using h2⟩
  ·omega
theorem Z59{c:Conf}{n:Int}(h:1≤need c n):n≤need c n*c.pw:=by
 unfold need at h ⊢;split at h
 ·rename_i hc;rw[if_pos hc];have hb:=validB_iff.1 hc.1;split at h
  ·omega
  ·rename_i hd;rw[if_neg hd];have e:=Int.mul_ediv_add_emod (n+c.pw-1) c.pw;have l:=Int.emod_lt_of_pos (n+c.pw-1) (b:=c.pw) oq;rw[Int.mul_comm]at e;omega
 ·omega
theorem Z7R{h:Heap}(hp:Z02 h=true){j:Nat}(hj:j<h.P.length)(hk:(h.P.getD j default).K=2) :
  1≤need h.C (h.P.getD j default).U∧∀ m:Nat,1≤m→(m:Int)<need h.C (h.P.getD j default).U→j+m<h.P.length∧(h.P.getD (j+m) default).K=3∧(h.P.getD (j+m) default).S=(h.P.getD j default).S:=by
 have hi:=properB_iff.1 hp;obtain⟨d,_,hc⟩:=ZjK oq hi.2.2.2.2.2 oq j oq hj;have ht:=hc.2.2.2.2.2.2.2.2.2.1 hk;refine⟨ht.1, ?_⟩;intro m h1 h2;obtain⟨g1,g2⟩:=Z64 (h.P.getD j default).S (h.P.drop (j+1)) (m-1) oq;have g3:j+m<h.P.length:=by simp at g1;omega
 refine⟨g3, ?_⟩;have:(h.P.drop (j+1)).getD (m-1) default=h.P.getD (j+m) default:=by
  rw[List.getD_eq_getElem?_getD,List.getD_eq_getElem?_getD,List.getElem?_drop,show j+1+(m-1)=j+m by omega]
 rw[this]at g2;exact g2
theorem ZbI{h:Heap}(hp:Z02 h=true){j:Nat}(hj:j<h.P.length)(hk:(h.P.getD j default).K=1∨(h.P.getD j default).K=2):(j:Int)*h.C.pw+(h.P.getD j default).U≤h.C.pw*h.C.pg:=by
 have po:=Z06 hp;have pp:=Z0D hp hj;rcases hk with hk | hk
 ·have:=Z14 (i:=j) (j:=h.C.pg) (pw:=h.C.pw) oq oq;rw[Int.mul_comm h.C.pg]at this;omega
 ·obtain⟨t1,t2⟩:=Z7R hp hj hk;have nu:=Z59 t1;have hl:(j:Int)+need h.C (h.P.getD j default).U≤h.C.pg:=by
   by_cases h1:need h.C (h.P.getD j default).U=1
   ·omega
   ·have:=(t2 (need h.C (h.P.getD j default).U-1).toNat oq oq).1;omega
  have:=Int.mul_le_mul_of_nonneg_right hl (show 0≤h.C.pw by omega);rw[Int.add_mul,Int.mul_comm h.C.pg]at this;omega
theorem Z4D{h:Heap}(hp:Z02 h=true){i j:Nat}(hij:i<j)(hj:j<h.P.length)(hk:(h.P.getD i default).K=1∨(h.P.getD i default).K=2)(hk':(h.P.getD j default).K≠3):(i:Int)*h.C.pw+(h.P.getD i default).U≤j*h.C.pw:=by
 have po:=Z06 hp;have pp:=Z0D hp (show i<h.P.length by omega);rcases hk with hk | hk
 ·have:=Z14 (i:=i) (j:=j) (pw:=h.C.pw) oq oq;omega
 ·obtain⟨t1,t2⟩:=Z7R hp (show i<h.P.length by omega) hk;have nu:=Z59 t1;have hl:(i:Int)+need h.C (h.P.getD i default).U≤j:=by
   by_cases h1:(i:Int)+need h.C (h.P.getD i default).U≤j
   ·exact h1
   ·have:=(t2 (j-i) oq oq).2;rw[show i+(j-i)=j by omega]at this;exact absurd this.1 hk'
  have:=Int.mul_le_mul_of_nonneg_right hl (show 0≤h.C.pw by omega);rw[Int.add_mul]at this;omega
theorem ZfV{c:Conf}{i o:Int}(hv:Z05 c=true)(h1:0≤i∧i<c.pg)(h2:0≤o∧o<c.pw):ofA c (4096+(i*c.pw+o))=(i,o,0):=by
 have hb:=validB_iff.1 hv;have hs:=Z14 (i:=i) (j:=c.pg) (pw:=c.pw) h1.2 oq;have h0:0≤i*c.pw:=Int.mul_nonneg h1.1 oq;rw[Int.mul_comm c.pg]at hs;unfold ofA;rw[if_pos hv,if_pos oq,show 4096+(i*c.pw+o)-4096=o+i*c.pw by omega,Int.add_mul_ediv_right _ _ oq,Int.add_mul_emod_self_right,Int.ediv_eq_zero_of_lt h2.1 h2.2,Int.emod_eq_of_lt h2.1 h2.2];simp
structure OnP (h:Heap) (j:Nat) (a:Int):Prop where
 k:(h.P.getD j default).K=1∨(h.P.getD j default).K=2
 lo:4096+j*h.C.pw≤a
 hi:a<4096+j*h.C.pw+h.C.pw
 of:(ofA h.C a).1=j
 e:a+hlA h.W a<4096+j*h.C.pw+(h.P.getD j default).U
 z:(h.P.getD j default).K=2∨hlA h.W a+1≤h.C.pw
 at':(atH h a).2=0
theorem ZfU{h:Heap}{j:Nat}(hp:Z02 h=true)(hj:j<h.P.length)(hk:(h.P.getD j default).K=1∨(h.P.getD j default).K=2):∀ (f:Nat) (o:Int) (l:List Int),0≤o→((h.P.getD j default).K=2→o=0)→Z3c h j f o=some l →
  (∀ a∈l,OnP h j a∧4096+j*h.C.pw+o≤a)∧l.Pairwise (fun a b=>a+hlA h.W a<b)
 | 0,o,l,_,_,e=>by simp[Z3c]at e;subst e;simp
 | f+1,o,l,h0,h2,e=>by
  have po:=Z06 hp;have pp:=Z0D hp hj;unfold Z3c at e;have hpg:pg h (j:Int)=h.P.getD j default:=by simp[pg]
  rw[hpg]at e;split at e
  ·rename_i ho;have hop:o<h.C.pw:=by
    rcases hk with hk | hk
    ·omega
    ·have:=h2 hk;omega
   have ea:adr h j o=4096+(j*h.C.pw+o):=by
    unfold adr address;rw[if_pos po.1,if_pos (inB_iff.2 ⟨by omega,by omega,h0,hop⟩)]
   have eo:=ZfV (c:=h.C) (i:=j) (o:=o) po.1 oq ⟨h0,hop⟩;split at e
   ·rename_i hat
    have hat':=hat
    rw[ea]at hat';have hsz:sizeH (decodeH (loadA h.W (4096+(j*h.C.pw+o))).1).1=hlA h.W (4096+(j*h.C.pw+o))+1:=by
     rw[sizeH,if_pos (Z2s _)];rfl
    have hle:=Z0d h.W (4096+(j*h.C.pw+o));have key:((h.P.getD j default).K=1→o+(hlA h.W (4096+(j*h.C.pw+o))+1)≤(h.P.getD j default).U)∧((h.P.getD j default).K=2→hlA h.W (4096+(j*h.C.pw+o))+1=(h.P.getD j default).U)∧sizeH (atH h (4096+(j*h.C.pw+o))).1=hlA h.W (4096+(j*h.C.pw+o))+1:=by
     unfold atH at hat' ⊢;rw[if_pos hp]at hat' ⊢;simp only[eo,hsz,if_true,Int.toNat_natCast]at hat' ⊢;split at hat'
     ·rename_i g1;split at hat'
      ·simp at hat'
      ·rename_i g2;rw[if_pos g1,if_neg g2];refine⟨fun hk1=>?_,fun hk2=>?_,hsz⟩
       ·omega
       ·omega
     ·simp at hat'
    have hon:OnP h j (adr h j o):=by
     refine⟨hk, ?_, ?_, ?_, ?_, ?_,hat⟩
     ·rw[ea];omega
     ·rw[ea];omega
     ·rw[ea,eo]
     ·rw[ea];rcases hk with hk | hk
      ·have:=key.1 hk;omega
      ·have:=key.2.1 hk;have:=h2 hk;omega
     ·rw[ea];rcases hk with hk | hk
      ·have:=key.1 hk;omega
      ·exact Or.inl hk
    split at e
    ·cases e;simp only[List.mem_singleton,List.pairwise_cons,List.not_mem_nil,List.Pairwise.nil];refine⟨?_,by simp⟩;rintro a rfl;exact⟨hon,by rw[ea];omega⟩
    ·rename_i hk2;rw[Option.map_eq_some_iff]at e;obtain⟨m,hm,rfl⟩:=e;rw[ea,key.2.2]at hm;obtain⟨i1,i2⟩:=ZfU hp hj hk f _ m oq (fun q=>absurd q hk2) hm;constructor
     ·intro a ha;rcases List.mem_cons.1 ha with rfl | ha
      ·exact⟨hon,by rw[ea];omega⟩
      ·have:=i1 a ha;exact⟨this.1,by omega⟩
     ·rw[List.pairwise_cons];refine⟨fun b hb=>?_,i2⟩;have:=(i1 b hb).2;rw[ea];omega
   ·cases e
  ·cases e;simp
theorem ZaF{h:Heap}(hp:Z02 h=true):∀ (f i:Nat),i+f=h.P.length→(Z0L h f i).1.Pairwise (fun a b=>a+hlA h.W a<b)∧∀ a∈(Z0L h f i).1,∃ j,i≤j∧j<h.P.length∧OnP h j a
 | 0,i,_=>by simp[Z0L]
 | f+1,i,hf=>by
  have ih:=ZaF hp f (i+1) oq;have hpg:(Z07 h i).1.Pairwise (fun a b=>a+hlA h.W a<b)∧∀ a∈(Z07 h i).1,OnP h i a:=by
   unfold Z07;rw[if_pos hp,if_pos oq];have hg:pg h (i:Int)=h.P.getD i default:=by simp[pg]
   rw[hg];split
   ·simp
   ·rename_i hk;cases hw:Z3c h i 256 0 with
    | none=>simp
    | some l =>
     have pp:=Z0D hp (show i<h.P.length by omega);obtain⟨w1,w2⟩:=ZfU hp (show i<h.P.length by omega) oq 256 0 l oq (fun _=>rfl) hw;exact⟨w2,fun a ha=>(w1 a ha).1⟩
  unfold Z0L;split
  ·split
   ·simp only;constructor
    ·rw[List.pairwise_append];refine⟨hpg.1,ih.1,fun a ha b hb=>?_⟩;have o1:=hpg.2 a ha;obtain⟨j,j1,j2,o2⟩:=ih.2 b hb;have:=Z4D hp (show i<j by omega) j2 o1.k (by have:=o2.k;omega);have:=o1.e;have:=o2.lo;omega
    ·intro a ha;rcases List.mem_append.1 ha with ha | ha
     ·exact⟨i,by omega,by omega,hpg.2 a ha⟩
     ·obtain⟨j,j1,j2,o2⟩:=ih.2 a ha;exact⟨j,by omega,j2,o2⟩
   ·simp
  ·simp
theorem Z92{h:Heap}(hp:Z02 h=true):(∀ a∈(Z03 h).1,∃ j,j<h.P.length∧OnP h j a)∧∀ a∈(Z03 h).1,∀ b∈(Z03 h).1,a<b→a+hlA h.W a<b:=by
 have hs:=ZaF hp h.P.length 0 oq;have e:Z0A h=Z0L h h.P.length 0:=by rw[Z0A,if_pos hp]
 rw[← e]at hs;have h1:∀ a∈(Z03 h).1,∃ j,j<h.P.length∧OnP h j a:=by
  intro a ha;obtain⟨j,_,j2,o⟩:=hs.2 a (List.mem_filter.1 ha).1;exact⟨j,j2,o⟩
 refine⟨h1, ?_⟩;have hpw:(Z03 h).1.Pairwise (fun a b=>a+hlA h.W a<b):=List.Pairwise.filter _ hs.1;intro a ha b hb hab;obtain⟨i,hi,ei⟩:=List.mem_iff_getElem.1 ha;obtain⟨k,hk,ek⟩:=List.mem_iff_getElem.1 hb;have hlb:=Z0d h.W b;rcases Nat.lt_trichotomy i k with q | q | q
 ·have:=List.pairwise_iff_getElem.1 hpw i k hi hk q;rw[ei,ek]at this;exact this
 ·subst q;omega
 ·have:=List.pairwise_iff_getElem.1 hpw k i hk hi q;rw[ei,ek]at this;omega
theorem Z3t{h:Heap}(hp:Z02 h=true):CIv (beginW h):=by
 have po:=Z06 hp;have hs:=Z92 hp;have hq:∀ j,((h.P.map (begQ (1-h.S))).getD j default).K=(h.P.getD j default).K∧((h.P.map (begQ (1-h.S))).getD j default).U=(h.P.getD j default).U:=by
  intro j;by_cases hj:j<h.P.length
  ·have:(h.P.map (begQ (1-h.S))).getD j default=begQ (1-h.S) (h.P.getD j default):=by simp[List.getD_eq_getElem?_getD,hj]
   rw[this,begQ];split
   ·exact⟨rfl,rfl⟩
   ·exact⟨rfl,rfl⟩
  ·rw[List.getD_eq_getElem?_getD,List.getD_eq_getElem?_getD,List.getElem?_eq_none qo,List.getElem?_eq_none oq];exact⟨rfl,rfl⟩
 refine⟨po.2.2.2.2.2.1, ?_, ?_, ?_, ?_⟩
 ·intro a ha;simp only[beginW,List.append_nil]at ha ⊢;obtain⟨j,j1,o⟩:=hs.1 a ha;have h1:=o.lo;have h2:=o.e;have h3:=ZbI hp j1 o.k;have h4:0≤(j:Int)*h.C.pw:=Int.mul_nonneg oq oq;have h5:=po.2.2.2.2.2.1;omega
 ·intro a ha b hb hab;simp only[beginW,List.append_nil]at ha hb ⊢;exact hs.2 a ha b hb hab
 ·intro i hi hc a ha;simp only[beginW,List.append_nil,List.length_map,List.not_mem_nil,or_false]at hi hc ha ⊢;rw[(hq i).1]at hc;have hoc:occP ((h.P.map (begQ (1-h.S))).getD i default)=0:=by rw[occP,(hq i).1,if_pos hc]
  rw[hoc];obtain⟨j,j1,o⟩:=hs.1 a ha;have hk:=o.k;have hne:i≠j:=by rintro rfl;omega
  by_cases hlt:i<j
  ·have:=Z14 (i:=i) (j:=j) (pw:=h.C.pw) oq oq;have:=o.lo;omega
  ·have:=Z4D hp (show j<i by omega) hi hk oq;have:=o.e;omega
 ·intro x hx;simp only[beginW]at hx ⊢;obtain⟨j,j1,o⟩:=hs.1 x hx;rw[o.of,Int.toNat_natCast,(hq j).1];exact o.z
theorem Z3j{h:Heap}(hw:WOk h.W)(hp:Z02 h=true):WkOk (beginW h):=by
 have po:=Z06 hp;have ho:=Z2f h;have hr:=Z3k h;have hus:∀ j,j<h.P.length→0≤((h.P.map (begQ (1-h.S))).getD j default).U∧((h.P.map (begQ (1-h.S))).getD j default).U≤1024:=by
  intro j hj;have pp:=Z0D hp hj;have:(h.P.map (begQ (1-h.S))).getD j default=begQ (1-h.S) (h.P.getD j default):=by simp[List.getD_eq_getElem?_getD,hj]
  rw[this,begQ];split
  ·simp only;omega
  ·omega
 refine⟨hw,po.2.2.2.2.2.2.1,po.1,by simp only[beginW,List.length_map];exact po.2.2.2.2.2.2.2.1,po.2.2.2.2.2.2.2.2,by simp only[beginW];omega,hr,by simp[beginW],by simp[beginW],by simp[beginW],by simpa only[beginW,List.length_map]using hus, ?_,by simp[beginW],by simp[beginW],by simp[beginW],by simp[beginW]⟩;simp only[beginW,muW,List.length_nil];have h1:Zd4 (Z03 h).1 []≤(Z03 h).1.length:=List.length_filter_le _ _;have h2:∀ l:List Page,(∀ p∈l,Zbw h.C.pw p≤64)→Z9v h.C.pw l≤64*l.length:=by
  intro l;induction l with
  | nil=>intro _;simp[Z9v]
  | cons p l ih =>
   intro hl;have:=ih fun q hq=>hl q (List.mem_cons_of_mem _ hq);have:=hl p (List.mem_cons_self);simp only[Z9v,List.map_cons,List.sum_cons,List.length_cons]at *;omega
 have h3:=h2 (h.P.map (begQ (1-h.S))) (by
  intro p hp';obtain⟨j,hj,e⟩:=List.mem_iff_getElem.1 hp';have:=hus j (by simpa using hj);rw[show(h.P.map (begQ (1-h.S))).getD j default=p by simp only[List.getD_eq_getElem?_getD,List.getElem?_eq_getElem hj,e];rfl]at this;unfold Zbw;split<;>omega)
 simp only[List.length_map]at h3;omega
structure PgOk (c:Conf) (p:Page):Prop where
 s:0≤p.S∧p.S≤1
 n:0≤p.N∧p.N≤2147483647
 k:0≤p.K∧p.K≤3
 k0:p.K=0→p.S=0∧p.U=0∧p.N=0
 k1:p.K=1→0≤p.U∧p.U≤c.pw
 k3:p.K=3→p.U=0∧p.N=0
structure PT (c:Conf) (l:List Page):Prop where
 b:∀ i,i<l.length→PgOk c (l.getD i default)
 lg:∀ i,i<l.length→(l.getD i default).K=2→1≤need c (l.getD i default).U∧∀ m:Nat,1≤m→(m:Int)<need c (l.getD i default).U→i+m<l.length∧(l.getD (i+m) default).K=3∧(l.getD (i+m) default).S=(l.getD i default).S
 tl:∀ i,i<l.length→(l.getD i default).K=3→∃ j,j<i∧(l.getD j default).K=2∧(i:Int)<j+need c (l.getD j default).U
def Z4S(c:Conf)(l:List Page):Nat→Int
 | 0=>0
 | i+1=>rdue c l i (Z4S c l i)
theorem Zj7{c:Conf}{l:List Page}:∀ {f i:Nat},l.length≤i+f→(rpB c l f i (Z4S c l i)=true↔∀ j,i≤j→j<l.length→rchk c l j (Z4S c l j))
 | 0,i,h=>by
  simp only[rpB,true_iff];intro j h1 h2;omega
 | f+1,i,h=>by
  unfold rpB;by_cases hi:i<l.length
  ·rw[if_pos hi,Bool.and_eq_true,decide_eq_true_eq,show rdue c l i (Z4S c l i)=Z4S c l (i+1)from rfl,Zj7 (f:=f) (i:=i+1) oq];constructor
   ·rintro⟨h1,h2⟩ j h3 h4;by_cases hj:j=i
    ·subst hj;exact h1
    ·exact h2 j oq h4
   ·intro hh;exact⟨hh i (Nat.le_refl _) hi,fun j h3 h4=>hh j oq h4⟩
  ·rw[if_neg hi];simp only[true_iff];intro j h1 h2;omega
theorem Z9o{c:Conf}{l:List Page}:∀ i,0≤Z4S c l i→0<Z4S c l i→∃ j,j<i∧(l.getD j default).K=2∧Z4S c l i=j+need c (l.getD j default).U-i
 | 0,_,h=>by simp[Z4S]at h
 | i+1,h0,h=>by
  simp only[Z4S,rdue]at h0 h ⊢;split at h
  ·rename_i hk;refine⟨i,by omega,hk, ?_⟩;rw[if_pos hk];omega
  ·rename_i hk;have h1:1<Z4S c l i:=by omega
   obtain⟨j,j1,j2,j3⟩:=Z9o (c:=c) (l:=l) i oq oq;refine⟨j,by omega,j2, ?_⟩;rw[if_neg hk];omega
theorem ZaK(sp:Int):∀ (l:List Page) (k:Nat),(∀ m,m<k→m<l.length∧(l.getD m default).K=3∧(l.getD m default).S=sp)→k≤Z1d sp l
 | _,0,_=>Nat.zero_le _
 | [],k+1,h=>by have:=(h 0 oq).1;simp at this
 | p::l,k+1,h=>by
  have h0:=(h 0 oq).2;simp only[List.getD_cons_zero]at h0;rw[Z1d,if_pos h0];have:=ZaK sp l k fun m hm=>by
   have:=h (m+1) oq;simpa using this
  omega
theorem PT.due{c:Conf}{l:List Page}(h:PT c l){i:Nat}(hi:i<l.length)(hk:(l.getD i default).K=2):∀ m:Nat,(m:Int)<need c (l.getD i default).U→Z4S c l (i+1+m)=need c (l.getD i default).U-1-m
 | 0,hm=>by
  show rdue c l i (Z4S c l i)=_;rw[rdue,if_pos hk];omega
 | m+1,hm=>by
  have ih:=h.due hi hk m oq;have ht:=((h.lg i hi hk).2 (m+1) oq hm).2.1;show rdue c l (i+1+m) (Z4S c l (i+1+m))=_;rw[rdue,show i+1+m=i+(m+1) by omega,if_neg (by rw[ht];decide),show i+(m+1)=i+1+m by omega,ih];omega
theorem Z7J{c:Conf}{l:List Page}(h:∀ i,i<l.length→(l.getD i default).K=2→1≤need c (l.getD i default).U):∀ i,i≤l.length→0≤Z4S c l i
 | 0,_=>Int.le_refl _
 | i+1,hi=>by
  have ih:=Z7J h i oq;simp only[Z4S,rdue];split
  ·rename_i hk;have:=h i oq hk;omega
  ·omega
theorem Zpc{c:Conf}{l:List Page}:rpB c l l.length 0 0=true↔PT c l:=by
 have e:=Zj7 (c:=c) (l:=l) (f:=l.length) (i:=0) oq;rw[show Z4S c l 0=0 from rfl]at e;rw[e];constructor
 ·intro h;have hb:∀ i,i<l.length→PgOk c (l.getD i default):=by
   intro i hi;have q:=h i oq hi;unfold rchk at q;exact⟨⟨q.2.1,q.2.2.1⟩,⟨q.2.2.2.1,q.2.2.2.2.1⟩,⟨q.2.2.2.2.2.1,q.2.2.2.2.2.2.1⟩,q.2.2.2.2.2.2.2.1,q.2.2.2.2.2.2.2.2.1,q.2.2.2.2.2.2.2.2.2.2⟩
  have hl:∀ i,i<l.length→(l.getD i default).K=2→1≤need c (l.getD i default).U∧∀ m:Nat,1≤m→(m:Int)<need c (l.getD i default).U→i+m<l.length∧(l.getD (i+m) default).K=3∧(l.getD (i+m) default).S=(l.getD i default).S:=by
   intro i hi hk;have q:=(h i oq hi).2.2.2.2.2.2.2.2.2.1 hk;refine⟨q.1, ?_⟩;intro m h1 h2;obtain⟨g1,g2⟩:=Z64 (l.getD i default).S (l.drop (i+1)) (m-1) oq;have g3:i+m<l.length:=by simp at g1;omega
   have:(l.drop (i+1)).getD (m-1) default=l.getD (i+m) default:=by
    rw[List.getD_eq_getElem?_getD,List.getD_eq_getElem?_getD,List.getElem?_drop,show i+1+(m-1)=i+m by omega]
   rw[this]at g2;exact⟨g3,g2⟩
  refine⟨hb,hl, ?_⟩;intro i hi hk;have q:=(h i oq hi).1.1 hk;obtain⟨j,j1,j2,j3⟩:=Z9o (c:=c) (l:=l) i oq q;exact⟨j,j1,j2,by omega⟩
 ·intro h j _ hj;have b:=h.b j hj;have hd:=Z7J (fun i hi hk=>(h.lg i hi hk).1) j oq;refine⟨⟨?_, ?_⟩,b.s.1,b.s.2,b.n.1,b.n.2,b.k.1,b.k.2,b.k0,b.k1, ?_,b.k3⟩
  ·intro hk;obtain⟨i,i1,i2,i3⟩:=h.tl j hj hk;have:=h.due (show i<l.length by omega) i2 (j-i-1) oq;rw[show i+1+(j-i-1)=j by omega]at this;omega
  ·intro hp;obtain⟨i,i1,i2,i3⟩:=Z9o j hd hp;have:=((h.lg i oq i2).2 (j-i) oq oq).2.1;rw[show i+(j-i)=j by omega]at this;exact this
  ·intro hk;have q:=h.lg j hj hk;refine⟨q.1, ?_⟩;have:=ZaK (l.getD j default).S (l.drop (j+1)) (need c (l.getD j default).U-1).toNat fun m hm=>by
    have r:=q.2 (m+1) oq oq;have e2:(l.drop (j+1)).getD m default=l.getD (j+(m+1)) default:=by
     rw[List.getD_eq_getElem?_getD,List.getD_eq_getElem?_getD,List.getElem?_drop,show j+1+m=j+(m+1) by omega]
    rw[e2];exact⟨by simp;omega,r.2⟩
   omega
theorem Z1F{h:Heap}:Z02 h=true↔Z05 h.C=true∧(h.W.length:Int)=h.C.pw*h.C.pg∧(h.P.length:Int)=h.C.pg∧(h.S=0∨h.S=1) ∧
  (h.B=-1∨(0≤h.B∧h.B<h.P.length∧(h.P.getD h.B.toNat default).K=1))∧PT h.C h.P:=by
 rw[properB_iff,Zpc]
theorem PT.setPage{c:Conf}{l:List Page}(h:PT c l){i:Nat}(hi:i<l.length)(hk:(l.getD i default).K=0∨(l.getD i default).K=1){p:Page}(hp:PgOk c p)(hpk:p.K=0∨p.K=1):PT c (l.set i p):=by
 refine⟨?_, ?_, ?_⟩
 ·intro j hj;rw[List.length_set]at hj;rw[Z0p hi];split
  ·exact hp
  ·exact h.b j hj
 ·intro j hj hk2;rw[List.length_set]at hj;rw[Z0p hi]at hk2 ⊢;by_cases hij:i=j
  ·rw[if_pos hij]at hk2;omega
  ·rw[if_neg hij]at hk2 ⊢;have q:=h.lg j hj hk2;refine⟨q.1,fun m h1 h2=>?_⟩;have r:=q.2 m h1 h2;rw[List.length_set,Z0p hi,if_neg (by rintro rfl;omega)];exact r
 ·intro j hj hk3;rw[List.length_set]at hj;rw[Z0p hi]at hk3;by_cases hij:i=j
  ·rw[if_pos hij]at hk3;omega
  ·rw[if_neg hij]at hk3;obtain⟨a,a1,a2,a3⟩:=h.tl j hj hk3;refine⟨a,a1, ?_⟩;rw[Z0p hi,if_neg (by rintro rfl;omega)];exact⟨a2,a3⟩
theorem PT.mapPages{c:Conf}{l:List Page}(h:PT c l)(f:Page→Page)(h1:∀ p,PgOk c p→PgOk c (f p))(h2:∀ p,PgOk c p→(f p).K=2→p.K=2∧(f p).U=p.U)
  (h3:∀ p,PgOk c p→(f p).K=3→p.K=3) (h4:∀ p q,PgOk c p→PgOk c q→p.K=2→q.K=3→q.S=p.S→((f p).K=2↔(f q).K=3)∧((f p).K=2→(f q).S=(f p).S)):PT c (l.map f):=by
 have hg:∀ j,j<l.length→(l.map f).getD j default=f (l.getD j default):=by
  intro j hj;simp[List.getD_eq_getElem?_getD,hj]
 refine⟨?_, ?_, ?_⟩
 ·intro j hj;rw[List.length_map]at hj;rw[hg j hj];exact h1 _ (h.b j hj)
 ·intro j hj hk;rw[List.length_map]at hj;rw[hg j hj]at hk ⊢;have q:=h2 _ (h.b j hj) hk;have r:=h.lg j hj q.1;rw[q.2];refine⟨r.1,fun m m1 m2=>?_⟩;have s:=r.2 m m1 m2;have t:=h4 _ _ (h.b j hj) (h.b (j+m) s.1) q.1 s.2.1 s.2.2;rw[List.length_map,hg _ s.1];exact⟨s.1,t.1.1 hk,t.2 hk⟩
 ·intro j hj hk;rw[List.length_map]at hj;rw[hg j hj]at hk;have q:=h3 _ (h.b j hj) hk;obtain⟨a,a1,a2,a3⟩:=h.tl j hj q;have ha:a<l.length:=by omega
  have s:=(h.lg a ha a2).2 (j-a) oq oq;rw[show a+(j-a)=j by omega]at s;have t:=h4 _ _ (h.b a ha) (h.b j hj) a2 s.2.1 s.2.2;have hk2:=t.1.2 hk;refine⟨a,a1, ?_⟩;rw[hg a ha];exact⟨hk2,by rw[(h2 _ (h.b a ha) hk2).2];exact a3⟩
theorem Z8V{l:List Page}{i k:Nat}{p q:Page}(hk:1≤k)(h:i+k≤l.length)(j:Nat):(tookP l i k p q).getD j default=if j=i then p else if i<j∧j<i+k then q else l.getD j default:=by
 have hl:(wr l (List.replicate k q) i k).length=l.length:=Z4l (by simpa using h) pq;unfold tookP;rw[List.getD_eq_getElem?_getD,List.getElem?_set];by_cases hj:j=i
 ·subst hj;rw[if_pos rfl,if_pos rfl,if_pos oq];rfl
 ·rw[if_neg (fun e=>hj e.symm),if_neg hj,Z8S (by simpa using h) pq];by_cases h1:j<i
  ·rw[if_pos h1,if_neg oq,List.getD_eq_getElem?_getD]
  ·rw[if_neg h1];by_cases h2:j<i+k
   ·rw[if_pos h2,if_pos oq];simp[show j-i<k by omega]
   ·rw[if_neg h2,if_neg oq,List.getD_eq_getElem?_getD]
theorem PT.took{c:Conf}{l:List Page}(h:PT c l){i k:Nat}{n sp:Int}(hk:1≤k)(hik:i+k≤l.length)(hf:∀ j,j<k→(l.getD (i+j) default).K=0)(hn:need c n=k)(hs:sp=0∨sp=1):PT c (tookP l i k ⟨2,sp,n,0⟩ ⟨3,sp,0,0⟩):=by
 have hg:=Z8V (p:=⟨2,sp,n,0⟩) (q:=⟨3,sp,0,0⟩) hk hik;have hl:(tookP l i k ⟨2,sp,n,0⟩ ⟨3,sp,0,0⟩).length=l.length:=Z6P hik;have hf':∀ j,i≤j→j<i+k→(l.getD j default).K=0:=fun j h1 h2=>by
  have:=hf (j-i) oq;rwa [show i+(j-i)=j by omega]at this
 refine⟨?_, ?_, ?_⟩
 ·intro j hj;rw[hl]at hj;rw[hg];split
  ·exact⟨by simp only;omega,by simp,by simp,by simp,by simp,by simp⟩
  ·split
   ·exact⟨by simp only;omega,by simp,by simp,by simp,by simp,by simp⟩
   ·exact h.b j hj
 ·intro j hj hk2;rw[hl]at hj ⊢;simp only[hg]at hk2 ⊢;by_cases hji:j=i
  ·subst hji;simp only[if_pos]at hk2 ⊢;rw[hn];refine⟨by omega,fun m h1 h2=>⟨by omega, ?_⟩⟩;rw[if_neg oq,if_pos oq];exact⟨rfl,rfl⟩
  ·rw[if_neg hji]at hk2 ⊢;by_cases hr:i<j∧j<i+k
   ·rw[if_pos hr]at hk2;simp at hk2
   ·rw[if_neg hr]at hk2 ⊢;have q:=h.lg j hj hk2;refine⟨q.1,fun m h1 h2=>?_⟩;have r:=q.2 m h1 h2;have hne:¬ (i≤j+m∧j+m<i+k):=fun hc=>by
     have:=hf' (j+m) hc.1 hc.2;omega
    rw[if_neg oq,if_neg oq];exact r
 ·intro j hj hk3;rw[hl]at hj;simp only[hg]at hk3 ⊢;by_cases hji:j=i
  ·rw[if_pos hji]at hk3;simp at hk3
  ·rw[if_neg hji]at hk3;by_cases hr:i<j∧j<i+k
   ·refine⟨i,hr.1, ?_⟩;simp only[if_pos];refine⟨trivial, ?_⟩;rw[hn];omega
   ·rw[if_neg hr]at hk3;obtain⟨a,a1,a2,a3⟩:=h.tl j hj hk3;have hne:¬ (i≤a∧a<i+k):=fun hc=>by
     have:=hf' a hc.1 hc.2;omega
    refine⟨a,a1, ?_⟩;rw[if_neg oq,if_neg oq];exact⟨a2,a3⟩
theorem Z3X{l:List Page}{i:Nat}{n:Int}:Z1B l i n=l.set i ⟨(l.getD i default).K,(l.getD i default).S,(l.getD i default).U+n,(l.getD i default).N⟩:=rfl
theorem Z34{h:Heap}(hs:h.S=0∨h.S=1)(hf:0≤first h.P 1)(n:Int):Z1B (Z3z h) (first h.P 1).toNat n=h.P.set (first h.P 1).toNat ⟨1,h.S,n,0⟩∧(h.P.getD (first h.P 1).toNat default).K=0∧(first h.P 1).toNat<h.P.length:=by
 obtain⟨f1,f2,f3,f4⟩:=Z2D hs hf;obtain⟨g1,g2,g3⟩:=Z1j hf;have hi:(first h.P 1).toNat<h.P.length:=by omega
 refine⟨?_, ?_,hi⟩
 ·rw[Z3X,f4,f1,Z90 hi,List.set_set];simp
 ·have:=freeK_iff.1 g3 0 dd;simpa using this
structure PutOk (h:Heap) (n:Int) (h':Heap) (a:Int):Prop where
 pr:Z02 h'=true
 c:h'.C=h.C
 w:h'.W=h.W
 l:h'.P.length=h.P.length
 sp:h'.S=h.S
 pin:∀ p∈h'.P,p.N=0∨∃ q∈h.P,p.N=q.N
 lo:4096≤a
 hi:a+n≤4096+h.W.length
theorem getD_in{l:List Page}{i:Nat}(h:i<l.length):l.getD i default∈l:=by
 rw[List.getD_eq_getElem?_getD,List.getElem?_eq_getElem h];exact List.getElem_mem h
theorem Zgx{h:Heap}{n:Int}(hp:Z02 h=true)(hn:1≤n∧n≤h.C.pw)(e:(Z0o h n).2.2=true):PutOk h n (Z0o h n).1 (Z0o h n).2.1:=by
 have hp':=hp;rw[Z1F]at hp;obtain⟨p1,p2,p3,p4,p5,p6⟩:=hp;have hb:=validB_iff.1 p1;by_cases hf:Z7X h n
 ·have e7:Z0o h n=(⟨h.C,h.W,Z1B h.P h.B.toNat n,h.S,h.B⟩,4096+h.B*h.C.pw+(h.P.getD h.B.toNat default).U,true):=by rw[Z0o,if_pos hf]
  unfold Z7X at hf;have hbi:h.B.toNat<h.P.length:=by omega
  have hk:(h.P.getD h.B.toNat default).K=1:=by omega
  have ok:=p6.b h.B.toNat hbi;have u:=ok.k1 hk;have ha:=Z2K p1 (i:=h.B) oq oq;have hio:=Z14 (i:=h.B) (j:=h.C.pg) (pw:=h.C.pw) oq oq;rw[Int.mul_comm h.C.pg]at hio;rw[e7];refine⟨?_,rfl,rfl,by simp[Z1B],rfl, ?_,by simp only;omega,by simp only;omega⟩
  ·rw[Z1F];refine⟨p1,p2,by simp[Z1B,p3],p4, ?_, ?_⟩
   ·refine Or.inr ⟨hf.1,by simp[Z1B];omega, ?_⟩;show((Z1B h.P h.B.toNat n).getD h.B.toNat default).K=1;rw[Z3X,Z0p hbi,if_pos rfl];exact hk
   ·exact p6.setPage hbi (Or.inr hk) ⟨ok.s,ok.n,ok.k,fun q=>by simp only at q;omega,fun _=>by simp only;omega,fun q=>by simp only at q;omega⟩ (Or.inr hk)
  ·intro p hp;rcases List.mem_or_eq_of_mem_set hp with hp | rfl
   ·exact Or.inr ⟨p,hp,rfl⟩
   ·exact Or.inr ⟨_,getD_in hbi,rfl⟩
 ·by_cases hg:0≤first h.P 1∧(Z1t h.P:Int)<Z2q h.C
  ·have e7:Z0o h n=(⟨h.C,h.W,Z1B (Z3z h) (first h.P 1).toNat n,h.S,first h.P 1⟩,4096+first h.P 1*h.C.pw+((Z3z h).getD (first h.P 1).toNat default).U,true):=by rw[Z0o,if_neg hf,if_pos hg]
   obtain⟨g1,g2,g3⟩:=Z34 p4 hg.1 n;have g4:=congrArg Page.U (Z2D p4 hg.1).2.2.2;simp only at g4;have ha:=Z2K p1 (i:=first h.P 1) oq oq;have hio:=Z14 (i:=first h.P 1) (j:=h.C.pg) (pw:=h.C.pw) oq oq;rw[Int.mul_comm h.C.pg]at hio;rw[e7,g1,g4];refine⟨?_,rfl,rfl,by simp,rfl, ?_,by simp only;omega,by simp only;omega⟩
   ·rw[Z1F];refine⟨p1,p2,by simp[p3],p4, ?_, ?_⟩
    ·refine Or.inr ⟨hg.1,by simp only[List.length_set];omega, ?_⟩;simp only;rw[Z0p g3,if_pos rfl]
    ·exact p6.setPage g3 (Or.inl g2) ⟨by simp only;omega,by simp,by simp,by simp,fun _=>by simp only;omega,by simp⟩ (Or.inr rfl)
   ·intro p hp;rcases List.mem_or_eq_of_mem_set hp with hp | rfl
    ·exact Or.inr ⟨p,hp,rfl⟩
    ·exact Or.inl rfl
  ·rw[Z0o,if_neg hf,if_neg hg]at e;simp at e
theorem ZgC{h:Heap}{n:Int}(hp:Z02 h=true)(hk:1≤need h.C n)(e:(Z0B h n (need h.C n)).2.2=true):PutOk h n (Z0B h n (need h.C n)).1 (Z0B h n (need h.C n)).2.1:=by
 have hp':=hp;rw[Z1F]at hp;obtain⟨p1,p2,p3,p4,p5,p6⟩:=hp;have hb:=validB_iff.1 p1;by_cases hg:0≤first h.P (need h.C n)∧Z1t h.P+need h.C n≤Z2q h.C
 ·obtain⟨g1,g2,g3⟩:=Z1j hg.1;have el:(Z2E h.C h.P (first h.P (need h.C n)) h.S n).1=tookP h.P (first h.P (need h.C n)).toNat (need h.C n).toNat ⟨2,h.S,n,0⟩ ⟨3,h.S,0,0⟩:=by
   rw[Z2E,if_pos ⟨hk,by omega⟩,Z2Z,if_pos oq,if_pos g3]
  have e7:Z0B h n (need h.C n)=(⟨h.C,h.W,tookP h.P (first h.P (need h.C n)).toNat (need h.C n).toNat ⟨2,h.S,n,0⟩ ⟨3,h.S,0,0⟩,h.S,h.B⟩,4096+first h.P (need h.C n)*h.C.pw,true):=by rw[Z0B,if_pos hg,el]
  have hf:∀ j,j<(need h.C n).toNat→(h.P.getD ((first h.P (need h.C n)).toNat+j) default).K=0:=freeK_iff.1 g3;have hlen:(tookP h.P (first h.P (need h.C n)).toNat (need h.C n).toNat ⟨2,h.S,n,0⟩ ⟨3,h.S,0,0⟩).length=h.P.length:=Z6P oq;have hu:=Z59 hk;have h0:0≤first h.P (need h.C n)*h.C.pw:=Int.mul_nonneg hg.1 oq
  have hio:=Int.mul_le_mul_of_nonneg_right (show first h.P (need h.C n)+need h.C n≤h.C.pg by omega) (show 0≤h.C.pw by omega);rw[Int.add_mul,Int.mul_comm h.C.pg]at hio;rw[e7];refine⟨?_,rfl,rfl,hlen,rfl, ?_,by simp only;omega,by simp only;omega⟩
  ·rw[Z1F];refine⟨p1,p2,by simp only[hlen];exact p3,p4, ?_, ?_⟩
   ·simp only[hlen];rcases p5 with p5 | p5
    ·exact Or.inl p5
    ·refine Or.inr ⟨p5.1,p5.2.1, ?_⟩;have hne:¬ ((first h.P (need h.C n)).toNat≤h.B.toNat∧h.B.toNat<(first h.P (need h.C n)).toNat+(need h.C n).toNat):=fun hc=>by
      have:=hf (h.B.toNat-(first h.P (need h.C n)).toNat) oq;rw[show(first h.P (need h.C n)).toNat+(h.B.toNat-(first h.P (need h.C n)).toNat)=h.B.toNat by omega]at this;omega
     rw[Z8V oq oq,if_neg oq,if_neg oq];exact p5.2.2
   ·exact p6.took oq oq hf oq p4
  ·intro p hp;rcases List.mem_or_eq_of_mem_set hp with hp | rfl
   ·simp only[wr,List.mem_append]at hp;rcases hp with(hp | hp) | hp
    ·exact Or.inr ⟨p,List.mem_of_mem_take hp,rfl⟩
    ·have:=List.eq_of_mem_replicate (List.mem_of_mem_take hp);subst this;exact Or.inl rfl
    ·exact Or.inr ⟨p,List.mem_of_mem_drop hp,rfl⟩
   ·exact Or.inl rfl
 ·rw[Z0B,if_neg hg]at e;simp at e
theorem Zja{hd:Header}(hv:Z0g hd=true)(hm:0≤hd.map∧hd.map≤4294967295):WOk (objW hd)∧((objW hd).length:Int)=sizeH hd:=by
 have hb:=Zc1 hv hm.1 hm.2;constructor
 ·intro x hx;simp only[objW,List.mem_cons,List.mem_replicate,Z0c,if_pos hv]at hx;rcases hx with rfl | ⟨_,rfl⟩<;>omega
 ·rw[sizeH,if_pos hv];simp[objW];omega
theorem ZdU{h:Heap}{hd:Header}(hw:WOk h.W)(hm:0≤hd.map∧hd.map≤4294967295)(e:(new7 h hd).2.2=0) :
  Z02 h=true∧Z3n h.C hd=true∧PutOk h (sizeH hd) (put7 h hd).1 (put7 h hd).2.1∧(put7 h hd).2.2=true∧(new7 h hd).2.1=(put7 h hd).2.1∧(new7 h hd).1 = { (put7 h hd).1 with W:=(Z0z h.W (put7 h hd).2.1 (objW hd)).1 }∧Z02 (new7 h hd).1=true∧WOk (new7 h hd).1.W:=by
 unfold new7 at e;split at e
 ·rename_i c1;split at e
  ·rename_i c2;obtain⟨a1,a2,a3,a4,a5⟩:=Z88 c1.2;have po:=Z06 c1.1;have hput:PutOk h (sizeH hd) (put7 h hd).1 (put7 h hd).2.1:=by
    by_cases hn:0<need h.C (sizeH hd)
    ·have e7:put7 h hd=Z0B h (sizeH hd) (need h.C (sizeH hd)):=by rw[put7,if_pos hn]
     rw[e7]at c2 ⊢;exact ZgC c1.1 oq c2
    ·have e7:put7 h hd=Z0o h (sizeH hd):=by rw[put7,if_neg hn]
     rw[e7]at c2 ⊢;refine Zgx c1.1 ⟨a2, ?_⟩ c2;unfold need at hn a4;split at a4
     ·rename_i hc;rw[if_pos hc]at hn;split at a4
      ·omega
      ·rename_i hd';rw[if_neg hd']at hn;have e:=Int.mul_ediv_add_emod (sizeH hd+h.C.pw-1) h.C.pw;have hz:(sizeH hd+h.C.pw-1)/h.C.pw=0:=by omega
       rw[hz]at e;have:=Int.emod_lt_of_pos (sizeH hd+h.C.pw-1) (b:=h.C.pw) oq;omega
     ·omega
   have ho:=Zja a1 hm;have hin:4096≤(put7 h hd).2.1∧(put7 h hd).2.1-4096+(objW hd).length≤h.W.length:=⟨hput.lo,by have:=hput.hi;omega⟩
   have e2:Z0z h.W (put7 h hd).2.1 (objW hd)=(spl h.W ((put7 h hd).2.1-4096).toNat (objW hd),0):=by rw[Z0z,if_pos hin]
   have hlen:(spl h.W ((put7 h hd).2.1-4096).toNat (objW hd)).length=h.W.length:=Z3P oq;have e3:(Z1p (put7 h hd).1 (put7 h hd).2.1 hd).1 = { (put7 h hd).1 with W:=(Z0z h.W (put7 h hd).2.1 (objW hd)).1 }:=by
    rw[Z1p,if_pos ⟨hput.pr,a1⟩,hput.w,e2];simp
   have e4:new7 h hd=((Z1p (put7 h hd).1 (put7 h hd).2.1 hd).1,(put7 h hd).2.1,0):=by rw[new7,if_pos c1,if_pos c2]
   refine⟨c1.1,c1.2,hput,c2,by rw[e4],by rw[e4];exact e3, ?_, ?_⟩
   ·rw[e4];simp only;rw[e3,e2];have q:=hput.pr;rw[Z1F]at q ⊢;refine⟨q.1, ?_,q.2.2.1,q.2.2.2.1,q.2.2.2.2.1,q.2.2.2.2.2⟩;simp only[hlen];have:=q.2.1;rw[hput.w]at this;exact this
   ·rw[e4];simp only;rw[e3];exact Z7d hw ho.1 _
  ·simp at e
 ·simp at e
theorem ZiR{h:Heap}{a:Int}(e:(atH h a).2=0):4096≤a∧a+(atH h a).1.length<4096+h.W.length:=by
 have k:=ZdI e;have po:=Z06 k.1;have o:=Z2C po.1 k.2.1;have hj:(ofA h.C a).1.toNat<h.P.length:=by omega
 have hk:(((ofA h.C a).1.toNat:Nat):Int)=(ofA h.C a).1:=by omega
 have h2:=e;unfold atH at h2 ⊢;rw[if_pos k.1,if_pos k.2.1]at h2 ⊢;split at h2
 ·rename_i g1;split at h2
  ·simp at h2
  ·rename_i g2;rw[if_pos g1,if_neg g2];have hv:Z0g (decodeH (loadA h.W a).1).1=true:=Z2s _;have hs:sizeH (decodeH (loadA h.W a).1).1=(decodeH (loadA h.W a).1).1.length+1:=by rw[sizeH,if_pos hv]
   have hvb:=(validH_iff.1 hv).2.2.1;have ue:=ZbI k.1 hj g1.1;rw[hk]at ue;have h0:0≤(ofA h.C a).1*h.C.pw:=Int.mul_nonneg o.1 oq;have hio:=Z14 (i:=(ofA h.C a).1) (j:=h.C.pg) (pw:=h.C.pw) o.2.1 oq;rw[Int.mul_comm h.C.pg]at hio;have hL:=po.2.2.2.2.2.1;refine⟨by omega, ?_⟩;simp only;rcases g1.1 with g | g<;>omega
 ·simp at h2
theorem Z6f{h:Heap}{a i v:Int}(hw:WOk h.W)(hv:0≤v∧v≤18446744073709551615)(e:(getH h a).2=0)(hi:0≤i∧i<(getH h a).1.length):Z0v h a i v=({ h with W:=(Z0J h.W (a+1+i) v).1 },0)∧Z02 (Z0v h a i v).1=true∧WOk (Z0v h a i v).1.W:=by
 have g:=Z47 e;have k:=ZiR g.2.1;rw[← g.1]at k;have hin:4096≤a+1+i∧a+1+i<4096+h.W.length:=by omega
 have hf:(Z1S h a i).2=0:=by
  unfold Z1S;rw[if_pos e,if_pos hi];unfold loadA;rw[if_pos hin]
 have e1:Z0v h a i v=({ h with W:=(Z0J h.W (a+1+i) v).1 },0):=by rw[Z0v,if_pos hf]
 refine⟨e1, ?_, ?_⟩
 ·rw[e1];have q:=g.2.2.1;rw[Z1F]at q ⊢;refine⟨q.1, ?_,q.2.2.1,q.2.2.2.1,q.2.2.2.2.1,q.2.2.2.2.2⟩;simp only[Z2l hin];exact q.2.1
 ·rw[e1];exact Z95 hw hv _
theorem Zks{l:List Page}{i k:Nat}{p q:Page}(hk:1≤k)(h:i+k≤l.length):spl l i (p::List.replicate (k-1) q)=tookP l i k p q:=by
 obtain⟨m,rfl⟩:∃ m,k=m+1:=⟨k-1,by omega⟩
 have hl:(List.take i l).length=i:=by simp;omega
 rw[tookP,wr,spl,List.take_of_length_le (l:=List.replicate (m+1) q) pq,List.append_assoc,List.append_assoc,List.set_append,if_neg oq,hl,Nat.sub_self];simp[List.replicate_succ]
theorem Z96{l:List Page}:∀ {i:Nat},(∀ j,j<i→(l.getD j default).K=0)→Z1A l i=0
 | 0,_=>rfl
 | i+1,h=>by
  have hp:Z1e l i=l.getD i default:=by rw[Z3K];simp
  rw[Z1A,Z96 (fun j hj=>h j oq),hp,if_pos (h i oq)]
theorem ZgR{l:List Page}{i k:Nat}(h:i+k≤l.length)(hf:Z6e l i k=true):Z1t ((l.drop i).take k)=0:=by
 refine Z96 fun j hj=>?_;simp only[List.length_take,List.length_drop]at hj;have:=freeK_iff.1 hf j oq;rw[List.getD_eq_getElem?_getD]at this ⊢;rwa [List.getElem?_take,if_pos oq,List.getElem?_drop]
theorem Z67(l:List Page)(hl:l.length≤1048576)(hne:l≠[]):GP 81 [Z0r l] true (.ow 0) [.arr 84 4 (l.map Page.dv)]:=by
 exact gF [24007] Tryz.func81 [] (Fa (by exact Zfg hne:List.map Page.dv l≠[]) (FA 5 7 Page.dv l (Fa (by exact Z2O _:Z0S (List.map Page.dv l)) Fz)))
theorem ZlX(ps l:List Page)(i:Int)(hl:ps.length≤1048576)(hll:l.length≤1048576)(hi:0≤i)(h1:i+l.length≤ps.length)(hf:Z6e ps i.toNat l.length=true)(hn:0<ps.length):GP 197 [Z0r ps,int i,Z0r l] true (.tu [.ow 0,int 0]) [.arr 84 4 ((spl ps i.toNat l).map Page.dv)]:=by
 have hne:ps≠[]:=Z8U hn;have e1:Z1t (List.take ((i+l.length).toNat-i.toNat) (List.drop i.toNat ps))=0:=by
  rw[show(i+l.length).toNat-i.toNat=l.length from by omega];exact ZgR oq hf
 have hs:Z0M (List.map Page.dv ps) i.toNat (List.map Page.dv l)=List.map Page.dv (spl ps i.toNat l):=by simp[Z0M,spl]
 exact gF [33030] Tryz.func197 [] (Fh 26 [.els (List.map Page.dv (List.take ((i+(↑l.length:Int)).toNat-i.toNat) (List.drop i.toNat ps)))] (Fh 35 [.els (List.map Page.dv (List.take i.toNat ps++l++List.drop (i.toNat+l.length) ps))] (FlG 14 (!decide (i<0)) Page.dv ps (FlG 16 (!decide (i<0)) Page.dv l (FiG 17 (!decide (i<0)) ((↑ps.length:Int)-(↑l.length:Int)) (Ffb 19 (decide (i<0)||decide ((↑ps.length:Int)-(↑l.length:Int)<i)) (Fl 24 Page.dv l (Fi 25 (i+(↑l.length:Int)) (Fa (by(simp only[List.length_map];omega):0≤i∧i≤i+(↑l.length:Int)∧i+(↑l.length:Int)≤(↑(List.map Page.dv ps).length:Int)) (Fa (by simp[e1,spl,List.map_take,List.map_drop,List.map_set,List.map_append,wdv,idv]:List.take ((i+(↑l.length:Int)).toNat-i.toNat) (List.drop i.toNat (List.map Page.dv ps))=List.map Page.dv (List.take ((i+(↑l.length:Int)).toNat-i.toNat) (List.drop i.toNat ps))) (Fc 27 (@Zk8 (List.take ((i+(↑l.length:Int)).toNat-i.toNat) (List.drop i.toNat ps)) (by(simp[e1,spl, *];omega))) (Ffb 28 (decide (0<(↑(Z1t (List.take ((i+(↑l.length:Int)).toNat-i.toNat) (List.drop i.toNat ps))):Int))) (Fc 30 (@Z67 ps aa aa) (Fa (by(simp only[List.length_map];omega):0≤i∧i≤(↑(List.map Page.dv ps).length:Int)) (Fa (by(simp only[List.length_map];omega):(List.map Page.dv l).length≤(↑(List.map Page.dv ps).length:Int).toNat-i.toNat) (Fa (by exact hs:Z0M (List.map Page.dv ps) i.toNat (List.map Page.dv l)=List.map Page.dv (List.take i.toNat ps++l++List.drop (i.toNat+l.length) ps)) (Fa (by exact Z2O _:Z0S (List.map Page.dv (List.take i.toNat ps++l++List.drop (i.toNat+l.length) ps))) Fz)))))))))))))))))
theorem Zqd{l:List Page}{i:Nat}{p q:Page}(h:i+1≤l.length):spl l i [p]=tookP l i 1 p q:=by
 have:=Zks (l:=l) (i:=i) (k:=1) (p:=p) (q:=q) (Nat.le_refl _) h;simpa using this
theorem Zad(l:List Page)(i sp:Int)(hl:l.length≤1048576)(hs:0≤sp∧sp≤1)(hi:0≤i∧i+1≤l.length)(hf:Z6e l i.toNat 1=true):GP 176 [Z0r l,int i,int sp] true (.tu [.ow 0,int 0]) [.arr 84 4 ((tookP l i.toNat 1 ⟨1,sp,0,0⟩ ⟨0,0,0,0⟩).map Page.dv)]:=by
 have e:=Zqd (l:=l) (i:=i.toNat) (p:=⟨1,sp,0,0⟩) (q:=⟨0,0,0,0⟩) oq;rw[← e];have e2:Z6e l i.toNat ([⟨1,sp,0,0⟩]:List Page).length=true:=hf;have e3:Z27 ⟨1,sp,0,0⟩=true:=by simp[Z27];omega
 exact gF [33018] Tryz.func176 [] (Fc 12 (@Z6a (Page.mk 1 sp 0 0)) (Ffb 13 (!Z27 (Page.mk 1 sp 0 0)) (Fs 17 (List.map Page.dv [Page.mk 1 sp 0 0]) (Fc 18 (@ZlX l ([Page.mk 1 sp 0 0]) i aa (by simp[*]) oq (by simp[*]) aa oq) (Fa (by exact Z2O _:Z0S (List.map Page.dv (spl l i.toNat [Page.mk 1 sp 0 0]))) Fz)))))
theorem Zpq{a v k:Nat}(ha:a<2^k)(hv:a+v*2^k<18446744073709551616):bits .or .u64 (a:Int) ((v*2^k:Nat):Int)=((a+v*2^k:Nat):Int):=by
 rw[bits_or_u64_nat a (v*2^k) oq oq,Nat.mul_comm v,Nat.or_comm,← Nat.two_pow_add_eq_or_of_lt ha,Nat.add_comm]
theorem ZeY{v n:Nat}(hn:n≤64)(hv:v<2^n):bits .andNot .u64 (v:Int) (2^n-1)=0:=by
 have h64:(2:Nat)^n≤2^64:=Nat.pow_le_pow_right dd hn;have hp:0<(2:Nat)^n:=Nat.two_pow_pos n;have e:((2:Int)^n-1)=((2^n-1:Nat):Int):=by
  have:((2^n:Nat):Int)=2^n:=by simp
  omega
 rw[e];have h1:(BitVec.ofInt 64 (v:Int)).toNat=v:=by
  rw[BitVec.ofInt_natCast,BitVec.toNat_ofNat];exact Nat.mod_eq_of_lt oq
 have h2:(BitVec.ofInt 64 ((2^n-1:Nat):Int)).toNat=2^n-1:=by
  rw[BitVec.ofInt_natCast,BitVec.toNat_ofNat];exact Nat.mod_eq_of_lt oq
 show IntKind.u64.wrap ((BitVec.ofInt 64 (v:Int) &&& ~~~ BitVec.ofInt 64 ((2^n-1:Nat):Int)).toNat:Int)=_;rw[BitVec.toNat_and,BitVec.toNat_not,h1,h2];have e2:2^64-1-(2^n-1)=2^n*(2^(64-n)-1):=by
  have:(2:Nat)^64=2^n*2^(64-n):=by rw[← Nat.pow_add];congr 1;omega
  rw[Nat.mul_sub,Nat.mul_one,← this];omega
 have e3:v &&& (2^64-1-(2^n-1))=0:=by
  rw[e2];apply Nat.eq_of_testBit_eq;intro i;rw[Nat.testBit_and,Nat.zero_testBit,Nat.testBit_two_pow_mul];by_cases hi:n≤i
  ·rw[Nat.testBit_lt_two_pow (Nat.lt_of_lt_of_le hv (Nat.pow_le_pow_right dd hi)),Bool.false_and]
  ·simp[hi]
 rw[e3];decide
theorem ZfP(v n:Int)(h0:0≤v)(hn:0≤n∧n≤64)(hv:v<2^n.toNat):GP 207 [u64 v,int n] true (bool true) []:=by
 have e:bits .andNot .u64 v (ones n)=0:=by
  obtain⟨a,rfl⟩:=Int.eq_ofNat_of_zero_le h0;rw[ones,Nat.min_eq_left oq];exact ZeY oq (by exact_mod_cast hv)
 exact gF [] Tryz.func207 [true] (Fc 7 (@Z3A n) (Fb ((bits BinOp.andNot IntKind.u64 v (ones n)==0)=true) Fz))
structure BField where
 width:Int
 value:Int
 deriving DecidableEq,Inhabited
def BField.dv(f:BField):List DV:=[.sc (.int .i64 f.width),.sc (.int .u64 f.value)]
theorem orI(n:Nat){p a v:Int}(hp:p=((2^n:Nat):Int))(ha:0≤a)(hv:0≤v)(h1:a<p)(h2:a+v*p<18446744073709551616):bits .or .u64 a (IntKind.u64.wrap (v*p))=a+v*p:=by
 obtain⟨x,rfl⟩:=Int.eq_ofNat_of_zero_le ha;obtain⟨y,rfl⟩:=Int.eq_ofNat_of_zero_le hv;have hm:(y:Int)*p=((y*2^n:Nat):Int):=by rw[hp,Int.natCast_mul]
 rw[hm]at h2 ⊢;rw[wrapU' oq oq];exact Zpq oq oq
end Go.Proofs.YtdhchmlalchgeaaGreat
namespace Go.Sx
def mvP(ids:List Nat)(post:List Blk)(n:Nat):List Blk:=(upto 0 n).map fun k=>match idxN k ids 0 with
 | some j=>Z4N ids (post.getD j .dead)
 | none=>.dead
def mvOk(m p n:Nat)(ids:List Nat):Bool:=Nat.beq ids.length p&&Nat.ble m p&&Nat.ble m n&&nodupB ids&&(upto 0 p).all (fun j=>Nat.ble (ids.getD j 0+1) n&&(Nat.beq (ids.getD j 0) j||Nat.ble m (ids.getD j 0)))&&(upto 0 n).all fun k=>match idxN k ids 0 with | some _=>true | none=>Nat.ble (k+1) m
theorem Z6L{P:Program}{f:Nat}{args:List AV}{pre:List Blk}{res:AV}{post:List Blk}(ids:List Nat)(n:Nat){res2:AV}{post2:List Blk}(h:BorSpec P f args pre res post)(ok:mvOk pre.length post.length n ids=true)(hr:mapT (renI ids) res=res2)(hp:mvP ids post n=post2):BorSpec P f args pre res2 post2:=by
 simp only[mvOk,Bool.and_eq_true,List.all_eq_true,Bool.or_eq_true]at ok;obtain⟨⟨⟨⟨⟨k1,k2⟩,k3⟩,k4⟩,k5⟩,k6⟩:=ok;have k1:=Nat.eq_of_beq_eq_true k1;have k2:=Nat.le_of_ble_eq_true k2;have k3:=Nat.le_of_ble_eq_true k3;have k4:=Z3Q k4;have mem:∀ {j p:Nat},j<p→j∈upto 0 p:=fun {j p} hj=>List.mem_of_getElem? (by rw[Z8e _ _ _ hj,Nat.zero_add]);have k5:∀ j,j<post.length→ids.getD j 0<n∧(ids.getD j 0=j∨pre.length≤ids.getD j 0):=fun j hj=>by
  have:=k5 j (mem hj);exact⟨Nat.le_of_ble_eq_true this.1,this.2.imp Nat.eq_of_beq_eq_true Nat.le_of_ble_eq_true⟩
 have k6:∀ k,k<n→idxN k ids 0=none→k<pre.length:=fun k hk e=>by
  have:=k6 k (mem hk);rw[e]at this;exact Nat.le_of_ble_eq_true this
 subst hr hp;have pl:(mvP ids post n).length=n:=by simp[mvP,Z81]
 have pg:∀ (k:Nat) (B:Blk),(mvP ids post n)[k]? = some B→k<n∧((∃ j,ids[j]? = some k∧j<post.length∧B=Z4N ids (post.getD j .dead))∨(k<pre.length∧B = .dead)):=fun k B hB=>by
  have hk:k<n:=by have:=(List.getElem?_eq_some_iff.1 hB).1;omega
  simp only[mvP,List.getElem?_map,Z8e _ _ _ hk,Nat.zero_add,Option.map_some,Option.some.injEq]at hB;refine⟨hk, ?_⟩;cases e:idxN k ids 0 with
  | none=>rw[e]at hB;exact .inr ⟨k6 k hk e,hB.symm⟩
  | some j =>
   rw[e]at hB;obtain⟨_,q⟩:=Z2g e;have q:ids[j]? = some k:=by simpa using q
   exact .inl ⟨j,q,by have:=(List.getElem?_eq_some_iff.1 q).1;omega,hB.symm⟩
 intro w Im ρ vs hIm hsz hρ hinj hbnd hpre hargs;refine(h w Im ρ vs hIm hsz hρ hinj hbnd hpre hargs).mono ?_;rintro e w' ⟨v,rfl,hk,ρ',Im',a1,a2,a3,a4,a5,a6,a7,a8,a9⟩;let ρ2:Rho:=fun k=>if k<pre.length then ρ' k else match idxN k ids 0 with | some j=>ρ' j | none=>none
 have hlow:∀ k,k<pre.length→ρ2 k=ρ' k:=fun k hk=>by simp only[ρ2,if_pos hk]
 have hat:∀ (j k:Nat),ids[j]? = some k→ρ2 k=ρ' j:=fun j k q=>by
  have hj:j<post.length:=by have:=(List.getElem?_eq_some_iff.1 q).1;omega
  have e:ids.getD j 0=k:=by rw[List.getD_eq_getElem?_getD,q];rfl
  have c:=k5 j hj;rw[e]at c;by_cases hkp:k<pre.length
  ·rw[hlow k hkp];rcases c.2 with c | c
   ·rw[c]
   ·omega
  ·simp only[ρ2,if_neg hkp];cases ex:idxN k ids 0 with
   | none=>exact absurd (List.mem_of_getElem? q) (Z4c ex)
   | some j2 =>
    obtain⟨_,q2⟩:=Z2g ex;rw[Z4B k4 q (by simpa using q2)]
 have hfrom:∀ k β,ρ2 k=some β→∃ j,ρ' j=some β∧k<n:=fun k β hb=>by
  by_cases hkp:k<pre.length
  ·rw[hlow k hkp]at hb;exact⟨k,hb,by omega⟩
  ·simp only[ρ2,if_neg hkp]at hb;split at hb
   ·rename_i j hj;obtain⟨_,q⟩:=Z2g hj;have q:ids[j]? = some k:=by simpa using q
    have hj:j<post.length:=by have:=(List.getElem?_eq_some_iff.1 q).1;omega
    have:=k5 j hj;rw[List.getD_eq_getElem?_getD,q]at this;exact⟨j,hb,this.1⟩
   ·cases hb
 have hren:∀ j β,ρ' j=some β→ρ2 (ids.getD j 0)=some β:=fun j β hb=>by
  have hj:=a2 j β hb;have q:ids[j]? = some (ids.getD j 0):=by rw[List.getD_eq_getElem?_getD,List.getElem?_eq_getElem oq];rfl
  rw[hat j _ q];exact hb
 have hlv:∀ k,live (hL (mvP ids post n)) k→∃ j,ids[j]? = some k∧live (hL post) j:=by
  rintro k ⟨B,hB,hd⟩;obtain⟨_,⟨j,q1,q2,q3⟩ | ⟨_,q⟩⟩:=pg k B hB
  ·refine⟨j,q1,post[j],List.getElem?_eq_getElem q2,fun e=>hd ?_⟩;rw[q3,List.getD_eq_getElem?_getD,List.getElem?_eq_getElem q2];simp only[Option.getD_some,e,Z4N]
  ·exact absurd q hd
 refine⟨v,rfl,hk,ρ2,Im',fun k β hb=>?_,fun k β hb=>?_,a3,a4,fun k β g hb=>?_,fun k β g hl hb=>?_,fun k k' β β' g hl hl' hb hb' hg hg'=>?_,fun k B hB=>?_, ?_⟩
 ·rw[hlow k (hρ k β hb)];exact a1 k β hb
 ·obtain⟨j,_,q⟩:=hfrom k β hb;rw[pl];exact q
 ·obtain⟨j,q,_⟩:=hfrom k β hb;exact a5 j β g q
 ·obtain⟨j,q1,q2⟩:=hlv k hl;rw[hat j k q1]at hb;exact a6 j β g q2 hb
 ·obtain⟨j,q1,q2⟩:=hlv k hl;obtain⟨j',q1',q2'⟩:=hlv k' hl';rw[hat j k q1]at hb;rw[hat j' k' q1']at hb';have:=a7 j j' β β' g q2 q2' hb hb' hg hg';subst this;rw[q1]at q1';exact Option.some.inj q1'
 ·obtain⟨_,⟨j,q1,q2,rfl⟩ | ⟨q,rfl⟩⟩:=pg k B hB
  ·obtain⟨β,m1,m2⟩:=a8 j _ (List.getElem?_eq_getElem q2);rw[List.getD_eq_getElem?_getD,List.getElem?_eq_getElem q2];exact⟨β,by rw[hat j k q1];exact m1,Z9f (fun _ h=>h) hren m2⟩
  ·obtain⟨β,m1,_⟩:=hpre k _ (List.getElem?_eq_getElem q);exact⟨β,by rw[hlow k q];exact a1 k β m1,trivial⟩
 ·obtain⟨q1,q2,q3⟩:=Z89 (w:=w') (Im:=Im') (Im':=Im') hren;exact Z8h (fun _ h=>h) q1 q2 q3 a9
end Go.Sx
namespace Go.Proofs.YtdhchmlalchgeaaGreat
open Go.Sx
def ufS(w:Int):Nat→Int
 | 0=>w
 | 1=>w/4
 | _=>w/17179869184
def ufO(w:Int):List Int:=[w%4,w/4%4294967296]
def uf1(w:Int)(i:Nat):Tg:=⟨tm 49 [(0,u64 w),(1,Z0q [2,32]),(4,.d (.sl 0 [])),(5,int 0),(6,int ([64,62,30].getD i 0)),(12,Z0q [2,32]),(13,int 2),(14,int i)],[],20⟩
theorem Zmf(w:Int)(i:Nat)(hi:i<2):CP (rndF Tryz.f174 0) (uf1 w i).st .nrm (uf1 w (i+1)).st:=by
 have h:i=0∨i=1:=by omega
 rcases h with rfl | rfl
 ·refine stretchE [((16:Nat),[Hint.el (idv (2:Int))])] [] [] [] (φ:=(0:Int)≤(↑(0:Nat):Int)∧(List.map idv [(2:Int),(32:Int)])[(↑(0:Nat):Int).toNat]? = some (idv (2:Int))) ?_ kr kr kr;exact(by simp[*])
 ·refine stretchE [((16:Nat),[Hint.el (idv (32:Int))])] [] [] [] (φ:=(0:Int)≤(↑(1:Nat):Int)∧(List.map idv [(2:Int),(32:Int)])[(↑(1:Nat):Int).toNat]? = some (idv (32:Int))) ?_ kr kr kr;exact(by simp[*])
theorem Zpv(w:Int):CP (rndF Tryz.f174 0) (uf1 w 2).st (.ext 0) (Tg.st ⟨tm 49 [(0,u64 w),(1,Z0q [2,32]),(4,.d (.sl 0 [])),(5,int 0)],[],60⟩):=by
 exact sF [] [] Fz
def ZjJ(w:Int)  := Z0a (S:=fun i=>(uf1 w i).st) 2 (by kernel_rfl) (fun i hi=>Zmf w i hi) (Zpv w)
def uf2(w:Int)(i:Nat):Tg:=⟨tm 49 [(0,u64 (ufS w i)),(4,.d (.sl 0 [])),(5,int 0),(9,.ow 480009),(29,Z0q [2,32]),(30,int 2),(31,int i)],[(480009,.arr 35 1 (((ufO w).take i).map wdv))],60⟩
theorem ZlU(w:Int)(i:Nat)(h0:0≤w)(h1:w≤18446744073709551615)(hi:i<2):CP (rndF Tryz.f174 2) (uf2 w i).st .nrm (uf2 w (i+1)).st:=by
 have o1:ones 2=3:=by decide
 have o3:ones 32=4294967295:=by decide
 have a0:bits .and .u64 w (ones 2)=w%4:=by rw[o1];exact Z3h 2 dd dd oq oq
 have a1:bits .and .u64 (w/4) (ones 32)=w/4%4294967296:=by rw[o3];exact Z3h 32 dd dd oq oq
 have f1:(w/4).fdiv 4294967296=w/17179869184:=by rw[Int.fdiv_eq_ediv_of_nonneg _ dd];omega
 have h:i=0∨i=1:=by omega
 rcases h with rfl | rfl
 ·exact sF [(496041,480009)] [] (Fh 33 [.el (idv 2)] (Fa (by simp[ufS,ufO, *]:0≤(↑(0:Nat):Int)∧(List.map idv [2,32])[(↑(0:Nat):Int).toNat]? = some (idv 2)) (Fc 38 (@Z3A (2)) (Fg 39 (by assumption:bits BinOp.and IntKind.u64 (ufS w 0) (ones (2:Int))=ufS w 0%4) (Fs 40 (List.map wdv [ufS w 0%4]) (Fa (by simp[ufS,ufO, *]:(List.map wdv (List.take 0 (ufO w))).length+(List.map wdv [ufS w 0%4]).length≤2^30) (Fs 41 (List.map wdv [ufS w 0%4]) (Fg 44 (by exact Z50 rfl dd:(ufS w 0).fdiv (2^min (Int.toNat 2) 64)=ufS w 0/4) (Fo ((0:Int)≤2) Fz)))))))))
 ·exact sF [(496041,480009)] [true] (Fh 33 [.el (idv 32)] (Fa (by simp[ufS,ufO, *]:0≤(↑(1:Nat):Int)∧(List.map idv [2,32])[(↑(1:Nat):Int).toNat]? = some (idv 32)) (Fc 38 (@Z3A (32)) (Fg 39 (by assumption:bits BinOp.and IntKind.u64 (ufS w 1) (ones (32:Int))=ufS w 1%4294967296) (Fs 40 (List.map wdv [ufS w 1%4294967296]) (Fa (by simp[ufS,ufO, *]:(List.map wdv (List.take 1 (ufO w))).length+(List.map wdv [ufS w 1%4294967296]).length≤2^30) (Fs 41 (List.map wdv [w%4,ufS w 1%4294967296]) (Fg 44 (by exact Z50 rfl dd:(ufS w 1).fdiv (2^min (Int.toNat 32) 64)=ufS w 1/4294967296) (Fo ((0:Int)≤32) (Fa (by(simp[ufS,ufO, *];omega):ufS w 1/4294967296=ufS w (1+1)) Fz))))))))))
theorem Zp0(w:Int):CP (rndF Tryz.f174 2) (uf2 w 2).st (.ext 2) (Tg.st ⟨tm 49 [(0,u64 (w/17179869184)),(4,.d (.sl 0 [])),(5,int 0),(9,.ow 480009)],[(480009,.arr 35 1 ((ufO w).map wdv))],60⟩):=by
 exact sF [] [] Fz
def Ziy(w:Int)(h0:0≤w)(h1:w≤18446744073709551615)  := Z0a (S:=fun i=>(uf2 w i).st) 2 (by kernel_rfl) (fun i hi=>ZlU w i h0 h1 hi) (Zp0 w)
theorem ZiD(w:Int)(h0:0≤w)(h1:w≤18446744073709551615)(h:w<17179869184):GP 174 [u64 w,Z0q [2,32]] true (.tu [Z01 (ufO w),int 0]) []:=by
 exact gF [] Tryz.func174 [] (Fh 9 [.own] (Fu (@ZjJ w) (Fu (@Ziy w aa aa) (Ffb 47 (w/(17179869184:Int) != 0) (Fa (by exact Z2I _:Z0S (List.map wdv (ufO w))) Fz)))))
theorem Zlp(w:Int)(h0:0≤w)(h1:w≤18446744073709551615)(h:¬ w<17179869184):GP 174 [u64 w,Z0q [2,32]] true (.tu [Z01 [],int 2]) []:=by
 exact gF [] Tryz.func174 [] (Fh 9 [.own] (Fu (@ZjJ w) (Fu (@Ziy w aa aa) (Ftb 47 (w/(17179869184:Int) != 0) (Fnl Fz)))))
theorem Z1K(w:Int)(h0:0≤w)(h1:w≤18446744073709551615):GP 137 [u64 w] true (.tu [u64 (Z08 w).1,bool (Z08 w).2]) []:=by
 have u0:(ufO w).getD 0 default=w%4:=rfl;have u1:(ufO w).getD 1 default=w/4%4294967296:=rfl;have uL:(ufO w).length=2:=rfl;by_cases h:w<17179869184
 ·rcases bb ((ufO w).getD 0 default != 2)with hc0 | hc0<;>have hc0p:=hc0<;>simp only[bs]at hc0p
  ·rw[show Z08 w=((0:Int),false)from by(simp[Z08, *];omega)];exact gF [] Tryz.func137 [] (Fh 16 [.el (wdv ((ufO w).getD 0 default))] (Fs 8 (List.map idv [2,32]) (Fc 9 (@ZiD w aa aa aa) (Fa (by intro hg;(try simp only[bs]at hg);exact elI oq oq oq:(!(0:Int) != 0)=true→(0:Int)≤0∧(List.map wdv (ufO w))[Int.toNat 0]? = some (wdv ((ufO w).getD 0 default))) (Ft 19 hc0 Fz)))))
  ·rw[show Z08 w=((ufO w).getD (1:Nat) default,true)from by grind[Z08]];refine gspec_ofE [((8:Nat),[Hint.els (List.map idv [(2:Int),(32:Int)])]),((9:Nat),[Hint.call true (AV.tu [Z01 (ufO w),int (0:Int)]) []]),((16:Nat),[Hint.el (wdv ((ufO w).getD (0:Nat) default))]),((19:Nat),[Hint.br false]),((21:Nat),[Hint.el (wdv ((ufO w).getD (1:Nat) default))])] [] [] dd Tryz.func137 [] (φ:=((List.replicate (2:Nat) [dint (0:Int)]).set ((0:Nat),Operand.const (Value.int IntKind.i64 (2:Int))).fst [dint (2:Int)]).set ((1:Nat),Operand.const (Value.int IntKind.i64 (32:Int))).fst [dint (32:Int)]=List.map idv [(2:Int),(32:Int)]∧GP 174 [u64 w,Z0q [(2:Int),(32:Int)]] true (AV.tu [Z01 (ufO w),int (0:Int)]) []∧((!(0:Int) != (0:Int))=true→(0:Int)≤(0:Int)∧(List.map wdv (ufO w))[Int.toNat (0:Int)]? = some (wdv ((ufO w).getD (0:Nat) default)))∧((ufO w).getD (0:Nat) default != (2:Int))=false∧false=false∧(0:Int)≤(1:Int)∧(List.map wdv (ufO w))[Int.toNat (1:Int)]? = some (wdv ((ufO w).getD (1:Nat) default))) ?_ kr kr;exact⟨rfl,(@ZiD (w) aa aa aa),(by intro hg;(try simp only[bs]at hg);exact elI oq oq oq),aa,rfl,(by exact elI oq oq oq)⟩
 ·rw[show Z08 w=((0:Int),false)from by(simp[Z08, *];omega)];exact gF [] Tryz.func137 [] (Fh 16 [.el (wdv ([].getD 0 default))] (Fs 8 (List.map idv [2,32]) (Fc 9 (@Zlp w aa aa aa) (Fa (by intro hg;(try simp only[bs]at hg);exact elI oq oq oq:(!(2:Int) != 0)=true→(0:Int)≤0∧(List.map wdv [])[Int.toNat 0]? = some (wdv ([].getD 0 default))) Fz))))
def Z0T(a:Int):List BField:=[⟨2,2⟩,⟨32,a⟩]
def pf1(a:Int)(i:Nat):Tg:=⟨tm 55 [(0,.d (.sl 2 ((Z0T a).map BField.dv))),(2,u64 0),(3,int 0),(4,int ([64,62,30].getD i 0)),(11,.d (.sl 2 ((Z0T a).map BField.dv))),(12,int (Z0T a).length),(13,int i)],[],4⟩
theorem ZlF(a:Int)(i:Nat)(hi:i<2):CP (rndF Tryz.f198 0) (pf1 a i).st .nrm (pf1 a (i+1)).st:=by
 have eL:(Z0T a).length=2:=rfl;have e0:(Z0T a).getD 0 default=⟨2,2⟩:=rfl;have e1:(Z0T a).getD 1 default=⟨32,a⟩:=rfl;have h:i=0∨i=1:=by omega
 rcases h with rfl | rfl
 ·exact sF [] [] (Fek 15 BField.dv (Z0T a) (↑(0:Nat):Int) 0 (Fg 29 (rfl:IntKind.i64.wrap ([64,62,30].getD 0 0-((Z0T a).getD 0 default).width)=64-((Z0T a).getD 0 default).width) Fz))
 ·exact sF [] [] (Fek 15 BField.dv (Z0T a) (↑(1:Nat):Int) 1 (Fg 29 (rfl:IntKind.i64.wrap ([64,62,30].getD 1 0-((Z0T a).getD 1 default).width)=62-((Z0T a).getD 1 default).width) Fz))
theorem Zp5(a:Int):CP (rndF Tryz.f198 0) (pf1 a 2).st (.ext 0) (Tg.st ⟨tm 55 [(0,.d (.sl 2 ((Z0T a).map BField.dv))),(2,u64 0),(3,int 0)],[],4⟩):=by
 have eL:(Z0T a).length=2:=rfl;exact sF [] [] Fz
def Zn0(a:Int)  := Z0a (S:=fun i=>(pf1 a i).st) 2 (by kernel_rfl) (fun i hi=>ZlF a i hi) (Zp5 a)
def pfW(a:Int)(i:Nat):Int:=[0,2,2+4*a].getD i 0
def pf2(a:Int)(i:Nat):Tg:=⟨tm 55 [(2,u64 0),(3,int 0),(7,u64 (pfW a i)),(8,int ([0,2,34].getD i 0)),(31,.d (.sl 2 ((Z0T a).map BField.dv))),(32,int (Z0T a).length),(33,int i)],[],6⟩
theorem ZkO(a:Int)(i:Nat)(h:0≤a∧a≤4294967295)(hi:i<2):CP (rndF Tryz.f198 2) (pf2 a i).st .nrm (pf2 a (i+1)).st:=by
 have eL:(Z0T a).length=2:=rfl;have e0:(Z0T a).getD 0 default=⟨2,2⟩:=rfl;have e1:(Z0T a).getD 1 default=⟨32,a⟩:=rfl;have f1:bits .or .u64 (pfW a 1) (IntKind.u64.wrap (((Z0T a).getD 1 default).value*4))=pfW a (1+1):=(orI 2 (a:=2) (v:=a) dd oq oq oq oq).trans (by show _=2+4*a;omega);have h:i=0∨i=1:=by omega
 rcases h with rfl | rfl
 ·refine stretchE [((35:Nat),[Hint.el ((Z0T a).getD (0:Nat) default).dv]),((41:Nat),[Hint.call true (Sx.bool true) []]),((47:Nat),[Hint.int (((Z0T a).getD (0:Nat) default).value*(1:Int))]),((52:Nat),[Hint.int ((0:Int)+((Z0T a).getD (0:Nat) default).width)])] [] [] [] (φ:=((0:Int)≤(↑(0:Nat):Int)∧(List.map BField.dv (Z0T a))[(↑(0:Nat):Int).toNat]? = some ((Z0T a).getD (0:Nat) default).dv)∧GP 207 [u64 ((Z0T a).getD (0:Nat) default).value,int ((Z0T a).getD (0:Nat) default).width] true (Sx.bool true) []∧IntKind.u64.wrap (((Z0T a).getD (0:Nat) default).value*(2:Int)^min ([(0:Int),(2:Int),(34:Int)].getD (0:Nat) (0:Int)).toNat (64:Nat))=((Z0T a).getD (0:Nat) default).value*(1:Int)∧(0:Int)≤[(0:Int),(2:Int),(34:Int)].getD (0:Nat) (0:Int)∧IntKind.i64.wrap ([(0:Int),(2:Int),(34:Int)].getD (0:Nat) (0:Int)+((Z0T a).getD (0:Nat) default).width)=(0:Int)+((Z0T a).getD (0:Nat) default).width) ?_ kr kr kr;exact⟨(by exact elI oq oq oq),(@ZfP (((Z0T a).getD (0:Nat) default).value) (((Z0T a).getD (0:Nat) default).width) (by grind[pfW]) (by grind[pfW]) (by grind[pfW])),rfl,(by simp[pfW, *]),rfl⟩
 ·refine stretchE [((35:Nat),[Hint.el ((Z0T a).getD (1:Nat) default).dv]),((41:Nat),[Hint.call true (Sx.bool true) []]),((48:Nat),[Hint.int (bits BinOp.or IntKind.u64 (pfW a (1:Nat)) (IntKind.u64.wrap (((Z0T a).getD (1:Nat) default).value*(4:Int))))]),((52:Nat),[Hint.int ((2:Int)+((Z0T a).getD (1:Nat) default).width)])] [] [] [false,false,true] (φ:=((0:Int)≤(↑(1:Nat):Int)∧(List.map BField.dv (Z0T a))[(↑(1:Nat):Int).toNat]? = some ((Z0T a).getD (1:Nat) default).dv)∧GP 207 [u64 ((Z0T a).getD (1:Nat) default).value,int ((Z0T a).getD (1:Nat) default).width] true (Sx.bool true) []∧(0:Int)≤[(0:Int),(2:Int),(34:Int)].getD (1:Nat) (0:Int)∧bits BinOp.or IntKind.u64 (pfW a (1:Nat)) (IntKind.u64.wrap (((Z0T a).getD (1:Nat) default).value*(2:Int)^min ([(0:Int),(2:Int),(34:Int)].getD (1:Nat) (0:Int)).toNat (64:Nat)))=bits BinOp.or IntKind.u64 (pfW a (1:Nat)) (IntKind.u64.wrap (((Z0T a).getD (1:Nat) default).value*(4:Int)))∧IntKind.i64.wrap ([(0:Int),(2:Int),(34:Int)].getD (1:Nat) (0:Int)+((Z0T a).getD (1:Nat) default).width)=(2:Int)+((Z0T a).getD (1:Nat) default).width∧bits BinOp.or IntKind.u64 (pfW a (1:Nat)) (IntKind.u64.wrap (((Z0T a).getD (1:Nat) default).value*(4:Int)))=pfW a ((1:Nat)+(1:Nat))) ?_ kr kr kr;exact⟨(by exact elI oq oq oq),(@ZfP (((Z0T a).getD (1:Nat) default).value) (((Z0T a).getD (1:Nat) default).width) (by simp only[bs, *,true_or,or_true,true_and,and_true,not_true_eq_false,not_false_eq_true,Bool.true_eq_false,Bool.false_eq_true]) (by grind[pfW]) (by grind[pfW])),(by simp[pfW, *]),rfl,rfl,aa⟩
theorem Zpr(a:Int):CP (rndF Tryz.f198 2) (pf2 a 2).st (.ext 2) (Tg.st ⟨tm 55 [(2,u64 0),(3,int 0),(7,u64 (2+4*a))],[],6⟩):=by
 have eL:(Z0T a).length=2:=rfl;have ew:pfW a 2=2+4*a:=rfl;exact sF [] [] Fz
def Zna(a:Int)(h:0≤a∧a≤4294967295)  := Z0a (S:=fun i=>(pf2 a i).st) 2 (by kernel_rfl) (fun i hi=>ZkO a i h hi) (Zpr a)
theorem ZhJ(a:Int)(h:0≤a∧a≤4294967295):GP 198 [.d (.sl 2 ((Z0T a).map BField.dv))] true (.tu [u64 (2+4*a),int 0]) []:=by
 exact gF [] Tryz.func198 [] (Fg 12 (rfl:(↑(List.map BField.dv (Z0T a)).length:Int)=(↑(Z0T a).length:Int)) (Fu (@Zn0 a) (Fg 32 (rfl:(↑(List.map BField.dv (Z0T a)).length:Int)=(↑(Z0T a).length:Int)) (Fu (@Zna a aa) Fz))))
theorem Zby(a:Int)(h:0≤a∧a≤4294967295):GP 178 [u64 a] true (.tu [u64 (4*a+2),int 0]) []:=by
 have o3:ones 32=4294967295:=by decide
 have e:2+4*a=4*a+2:=by omega
 exact gF [] Tryz.func178 [true] (Fc 5 (@Z3A (32)) (Ffb 6 (decide (ones (32:Int)<a)) (Fs 10 (List.map BField.dv [BField.mk 2 2,BField.mk 32 a]) (Fc 11 (@ZhJ a aa) (Fa ‹(2:Int)+4*a=4*a+2› (Fr (0:Int) Fz))))))
def Z2i(l:List Int)(v:Int):Nat:=(l.takeWhile fun x=>!(v==x)).length
theorem Z5l{l:List Int}{v:Int}{m:Nat}(h:m<Z2i l v):m<l.length∧(v==l.getD m default)=false:=by
 obtain⟨h1,h2⟩:=ZgS _ _ _ h;refine⟨h1, ?_⟩;rw[List.getD_eq_getElem?_getD,List.getElem?_eq_getElem h1];simpa using h2
theorem Z7w{l:List Int}{v:Int}(h:Z2i l v<l.length):(v==l.getD (Z2i l v) default)=true:=by
 have h2:=Zaq (fun x=>!(v==x)) l h;have h3:l.getD (Z2i l v) default=l[(l.takeWhile fun x=>!(v==x)).length]:=by
  rw[List.getD_eq_getElem?_getD,List.getElem?_eq_getElem h];rfl
 rw[h3];simpa using h2
theorem firstI_mem{l:List Int}{v:Int}:Z2i l v<l.length↔v∈l:=by
 constructor
 ·intro h;have:=Z7w h;exact getD_mem_iff.2 ⟨_,h,by simpa using (eq_of_beq this).symm⟩
 ·intro h;obtain⟨k,hk,e⟩:=getD_mem_iff.1 h;rcases Nat.lt_or_ge k (Z2i l v)with q | q
  ·have:=(Z5l q).2;rw[e]at this;simp at this
  ·omega
def idxI(l:List Int)(v:Int):Int:=if v∈l then Z2i l v else -1
def ixUL(l:List Int)(v:Int)(i:Nat):Tg:=⟨tm 19 [(0,Z01 l),(1,u64 v),(4,int 0),(7,int l.length),(8,int i)],[],3⟩
theorem Zgd(l:List Int)(v:Int)(i:Nat)(hl:l.length≤1048576)(hi:i<l.length)(e:(v==l.getD i default)=false):CP (rndF Tryz.f126 0) (ixUL l v i).st .nrm (ixUL l v (i+1)).st:=by
 exact sF [] [] (Ftb 9 (decide ((↑i:Int)<(↑l.length:Int))) (Fek 14 wdv l (↑i) i (Ff 16 ‹(v==l.getD i default)=false› (Fx 18 i Fz))))
theorem Zm1(l:List Int)(v:Int)(i:Nat)(hl:l.length≤1048576)(hi:i<l.length)(e:(v==l.getD i default)=true):CP (rndF Tryz.f126 0) (ixUL l v i).st .ret (Tg.st ⟨tm 19 [(4,int i)],[],60⟩):=by
 exact sF [] [] (Ftb 9 (decide ((↑i:Int)<(↑l.length:Int))) (Fek 14 wdv l (↑i) i (Ft 16 ‹(v==l.getD i default)=true› Fz)))
theorem ZoY(l:List Int)(v:Int):CP (rndF Tryz.f126 0) (ixUL l v l.length).st (.ext 0) (Tg.st ⟨tm 19 [(4,int 0)],[],60⟩):=by
 exact sF [] [] (Ffb 9 (decide ((↑l.length:Int)<(↑l.length:Int))) Fz)
def ZnA(l:List Int)(v:Int)(hl:l.length≤1048576)(h:¬ v∈l)  := Z0a (S:=fun j=>(ixUL l v j).st) l.length (by kernel_rfl) (fun j hj=>Zgd l v j hl hj (Z5l (by rcases Nat.lt_or_ge j (Z2i l v)with q | q;exact q;exact absurd (firstI_mem.1 (by omega)) h)).2) (ZoY l v)
theorem ZkJ(l:List Int)(v:Int)(hl:l.length≤1048576)(h:v∈l):CP (blkF Tryz.f126 0) (Tg.st ⟨tm 19 [(0,Z01 l),(1,u64 v),(4,int 0),(7,int l.length),(8,int 0)],[],3⟩) .ret (Tg.st ⟨tm 19 [(4,int (Z2i l v))],[],60⟩) :=
 have h1:Z2i l v<l.length:=firstI_mem.2 h
 Z0I (S:=fun j=>(ixUL l v j).st) (Z2i l v) kr (fun j hj=>Zgd l v j hl oq (Z5l hj).2) (Zm1 l v (Z2i l v) hl h1 (Z7w h1))
def ixIL(l:List Int)(v:Int)(i:Nat):Tg:=⟨tm 19 [(0,Z0q l),(1,int v),(4,int 0),(7,int l.length),(8,int i)],[],3⟩
theorem Zfr(l:List Int)(v:Int)(i:Nat)(hl:l.length≤1048576)(hi:i<l.length)(e:(v==l.getD i default)=false):CP (rndF Tryz.f181 0) (ixIL l v i).st .nrm (ixIL l v (i+1)).st:=by
 exact sF [] [] (Ftb 9 (decide ((↑i:Int)<(↑l.length:Int))) (Fek 14 idv l (↑i) i (Ff 16 ‹(v==l.getD i default)=false› (Fx 18 i Fz))))
theorem Zmp(l:List Int)(v:Int)(i:Nat)(hl:l.length≤1048576)(hi:i<l.length)(e:(v==l.getD i default)=true):CP (rndF Tryz.f181 0) (ixIL l v i).st .ret (Tg.st ⟨tm 19 [(4,int i)],[],60⟩):=by
 exact sF [] [] (Ftb 9 (decide ((↑i:Int)<(↑l.length:Int))) (Fek 14 idv l (↑i) i (Ft 16 ‹(v==l.getD i default)=true› Fz)))
theorem Zoy(l:List Int)(v:Int):CP (rndF Tryz.f181 0) (ixIL l v l.length).st (.ext 0) (Tg.st ⟨tm 19 [(4,int 0)],[],60⟩):=by
 exact sF [] [] (Ffb 9 (decide ((↑l.length:Int)<(↑l.length:Int))) Fz)
def Znu(l:List Int)(v:Int)(hl:l.length≤1048576)(h:¬ v∈l)  := Z0a (S:=fun j=>(ixIL l v j).st) l.length (by kernel_rfl) (fun j hj=>Zfr l v j hl hj (Z5l (by rcases Nat.lt_or_ge j (Z2i l v)with q | q;exact q;exact absurd (firstI_mem.1 (by omega)) h)).2) (Zoy l v)
theorem Zlj(l:List Int)(v:Int)(hl:l.length≤1048576)(h:v∈l):CP (blkF Tryz.f181 0) (Tg.st ⟨tm 19 [(0,Z0q l),(1,int v),(4,int 0),(7,int l.length),(8,int 0)],[],3⟩) .ret (Tg.st ⟨tm 19 [(4,int (Z2i l v))],[],60⟩) :=
 have h1:Z2i l v<l.length:=firstI_mem.2 h
 Z0I (S:=fun j=>(ixIL l v j).st) (Z2i l v) kr (fun j hj=>Zfr l v j hl oq (Z5l hj).2) (Zmp l v (Z2i l v) hl h1 (Z7w h1))
theorem ZoM(l:List Int)(v:Int)(hl:l.length≤1048576):GP 126 [Z01 l,u64 v] true (int (idxI l v)) []:=by
 by_cases h:v∈l
 ·have e7:idxI l v=Z2i l v:=if_pos h;rw[e7];exact gF [] Tryz.func126 [] (Fl 7 wdv l (Fu (@ZkJ l v aa aa) Fz))
 ·have e7:idxI l v=-1:=if_neg h;rw[e7];exact gF [] Tryz.func126 [] (Fl 7 wdv l (Fu (@ZnA l v aa aa) Fz))
theorem Zpp(l:List Int)(v:Int)(hl:l.length≤1048576):GP 181 [Z0q l,int v] true (int (idxI l v)) []:=by
 by_cases h:v∈l
 ·have e7:idxI l v=Z2i l v:=if_pos h;rw[e7];exact gF [] Tryz.func181 [] (Fl 7 idv l (Fu (@Zlj l v aa aa) Fz))
 ·have e7:idxI l v=-1:=if_neg h;rw[e7];exact gF [] Tryz.func181 [] (Fl 7 idv l (Fu (@Znu l v aa aa) Fz))
theorem Z0P(l:List Int)(v:Int)(hl:l.length≤1048576):GP 76 [Z01 l,u64 v] true (bool (decide (v∈l))) []:=by
 have h:(0≤idxI l v↔v∈l):=by unfold idxI;split<;>simp[*]
 exact gF [] Tryz.func76 [true] (Fc 7 (@ZoM l v aa) (Fbs (decide (0≤idxI l v)=decide (v∈l)) Fz))
theorem Zck(l:List Int)(v:Int)(hl:l.length≤1048576):GP 146 [Z0q l,int v] true (bool (decide (v∈l))) []:=by
 have h:(0≤idxI l v↔v∈l):=by unfold idxI;split<;>simp[*]
 exact gF [] Tryz.func146 [true] (Fc 7 (@Zpp l v aa) (Fbs (decide (0≤idxI l v)=decide (v∈l)) Fz))
theorem Zca(c:Nat):GP 80 [.d (.sc (.slice none 0 c))] true (.ow 0) [.arr 35 1 []] :=
 gspec_ofE [((2:Nat),[Hint.own])] [] [(24002:Nat)] dd Tryz.func80 [] (φ:=Z0S []) (fun _ h=>nomatch h) kr kr
theorem Za3(p:Addr)(c:Nat):GP 80 [.d (.sc (.slice (some p) 0 c))] true (.ow 0) [.arr 35 1 []]:=by
 exact gF [24007] Tryz.func80 [] (Fs 5 (List.map wdv []) (Fa (by simp[*]:(List.map wdv []).length+([]:List (List DV)).length≤2^30) (Fs 7 (List.map wdv []) (Fa (by exact Z2I _:Z0S (List.map wdv [])) Fz))))
theorem Zen(ws:List Int)(hw:ws.length≤1048576)(hne:ws≠[]):GP 80 [Z01 ws] true (.ow 0) [.arr 35 1 (ws.map wdv)]:=by
 exact gF [24007] Tryz.func80 [] (Fa (by exact Zfg hne:List.map wdv ws≠[]) (FA 5 7 wdv ws (Fa (by exact Z2I _:Z0S (List.map wdv ws)) Fz)))
theorem Z4E(ws:List Int)(hw:ws.length≤1048576):GP 80 [Z01 ws] true (.ow 0) [.arr 35 1 (ws.map wdv)]:=by
 by_cases hne:ws=[]
 ·subst hne;exact Z66 fun p c=>match p with | none=>Zca c | some p=>Za3 p c
 ·exact Zen ws hw hne
theorem Zd6(c:Nat):GP 135 [.d (.sc (.slice none 0 c))] true (.ow 0) [.arr 3 1 []] :=
 gspec_ofE [((2:Nat),[Hint.own])] [] [(24002:Nat)] dd Tryz.func135 [] (φ:=Z0S []) (fun _ h=>nomatch h) kr kr
theorem Zc4(p:Addr)(c:Nat):GP 135 [.d (.sc (.slice (some p) 0 c))] true (.ow 0) [.arr 3 1 []]:=by
 exact gF [24007] Tryz.func135 [] (Fs 5 (List.map idv []) (Fa (by simp[*]:(List.map idv []).length+([]:List (List DV)).length≤2^30) (Fs 7 (List.map idv []) (Fa (by exact Z6C _:Z0S (List.map idv [])) Fz))))
theorem Zhc(ws:List Int)(hw:ws.length≤1048576)(hne:ws≠[]):GP 135 [Z0q ws] true (.ow 0) [.arr 3 1 (ws.map idv)]:=by
 exact gF [24007] Tryz.func135 [] (Fa (by exact Zfg hne:List.map idv ws≠[]) (FA 5 7 idv ws (Fa (by exact Z6C _:Z0S (List.map idv ws)) Fz)))
theorem ZgB(ws:List Int)(hw:ws.length≤1048576):GP 135 [Z0q ws] true (.ow 0) [.arr 3 1 (ws.map idv)]:=by
 by_cases hne:ws=[]
 ·subst hne;exact Z66 fun p c=>match p with | none=>Zd6 c | some p=>Zc4 p c
 ·exact Zhc ws hw hne
theorem ZbR(c:Nat):GP 81 [.d (.sc (.slice none 0 c))] true (.ow 0) [.arr 84 4 []] :=
 gspec_ofE [((2:Nat),[Hint.own])] [] [(24002:Nat)] dd Tryz.func81 [] (φ:=Z0S []) (fun _ h=>nomatch h) kr kr
theorem Z9Z(p:Addr)(c:Nat):GP 81 [.d (.sc (.slice (some p) 0 c))] true (.ow 0) [.arr 84 4 []]:=by
 exact gF [24007] Tryz.func81 [] (Fs 5 (List.map Page.dv []) (Fa (by simp[*]:(List.map Page.dv []).length+([]:List (List DV)).length≤2^30) (Fs 7 (List.map Page.dv []) (Fa (by exact Z2O _:Z0S (List.map Page.dv [])) Fz))))
theorem ZeG(l:List Page)(hl:l.length≤1048576):GP 81 [Z0r l] true (.ow 0) [.arr 84 4 (l.map Page.dv)]:=by
 by_cases hne:l=[]
 ·subst hne;exact Z66 fun p c=>match p with | none=>ZbR c | some p=>Z9Z p c
 ·exact Z67 l hl hne
def Z1D(w:Work)(r:Int):Int:=if r∈w.Q then r else(Z08 (loadA w.heap.W r).1).1
theorem Zag(w:Work)(r:Int)(hw:WOk w.heap.W)(hl:w.heap.W.length≤4096)(hq:w.Q.length≤1048576)(h0:0≤r∧r≤18446744073709551615):GP 119 [w.av,u64 r] true (u64 (Z1D w r)) []:=by
 have h1:=Z0F hw r;rcases bb (decide (r∈w.Q))with hc0 | hc0<;>have hc0p:=hc0<;>simp only[bs]at hc0p
 ·exact gF [] Tryz.func119 [true] (Fh 12 [.call true (Sx.bool (decide (r∈w.Q))) [],.br true] (Fa (@Z12 w.Q r aa) (Fa hc0 (Fa (by simp[Z1D, *]:r=Z1D w r) Fz))))
 ·exact gF [] Tryz.func119 [true] (Fh 12 [.call true (Sx.bool (decide (r∈w.Q))) [],.br false] (Fa (@Z12 w.Q r aa) (Fa hc0 (Fc 19 (@Z1M w.heap.W r oq aa) (Fc 24 (@Z3e ((loadA w.heap.W r).fst) oq oq) (Fa (by simp[Z1D, *]:(Z08 (loadA w.heap.W r).fst).fst=Z1D w r) Fz))))))
theorem ZjI(w:Work)(a:Int)(hw:WOk w.heap.W)(h1:w.heap.W.length≤4096)(h0:0≤a∧a≤18446744073709551615):GP 100 [w.av,u64 a] true (hdW w a).av []:=by
 have h2:=Z0F hw a;exact gF [] Tryz.func100 [] (Fc 14 (@Z1M w.heap.W a oq aa) (Fc 19 (@Z35 ((loadA w.heap.W a).fst) oq oq) Fz))
def Z5R(w:Work)(x:Int):Work:=if Z0G w (ofA w.heap.C x).1=true∧x∉w.Q then⟨⟨w.heap.C,(Z0z w.heap.W x (objW ⟨0,(hdW w x).length,0⟩)).1,w.heap.P,w.heap.S,w.heap.B⟩,w.old,w.T,w.Q,w.D,⟨w.rep.copied,w.rep.kept,w.rep.filled+1,w.rep.freed,w.rep.cleared,w.rep.steps⟩⟩else w
def fillN(w:Work):Nat→Work
 | 0=>w
 | k+1=>Z5R (fillN w k) (w.old.getD k default)
def Zmi(w:Work)(i:Nat):Tg:=⟨tm 84 [(1,.pt 8001 0 0),(2,.pt 8002 0 0),(3,int i)],[(8002,.box 89 zW),(8001,.box 89 w.cells)],60⟩
structure FOk (w:Work):Prop where
 W:WOk w.heap.W
 wl:w.heap.W.length≤4096
 pl:w.heap.P.length≤64
 ol:w.old.length≤524288
 o:∀ x∈w.old,0≤x∧x≤8192
 tl:w.T.length≤1000000
 ql:w.Q.length≤1000000
theorem WkOk.fok{w:Work}(h:WkOk w):FOk w:=by
 have h1:=h.mu;have h2:=h.tl;have h3:=h.pl;have h4:=validB_iff.1 h.C;exact⟨h.W,h.wl,by omega,h.ol,h.o,by omega,by omega⟩
theorem Z5y{n:Int}(h:0≤n∧n≤255):Z0c ⟨0,n,0⟩=(1+16*n,0):=by
 have hv:Z0g ⟨0,n,0⟩=true:=validH_iff.2 ⟨by simp,by simp,h.1,h.2,by simp⟩;rw[Z0c,if_pos hv];simp
section
variable (w:Work) (i:Nat) (hw:FOk w) (hi:i<w.old.length) (hr:0≤w.rep.filled∧w.rep.filled≤1000000)
include hw hi hr
theorem Zk2:CP (rndF Tryz.f121 0) (Zmi w i).st .nrm (Zmi (Z5R w (w.old.getD i default)) (i+1)).st:=by
 have h1:=hw.W;have h2:=hw.wl;have h3:=hw.pl;have h4:=hw.ol;have h5:=hw.tl;have h6:=hw.ql;have hx:=hw.o _ (getD_mem_iff.2 ⟨i,hi,rfl⟩);have hm:=Z1E (loadA w.heap.W (w.old.getD i default)).1 (Z0F h1 _).1;have hh:0≤(hdW w (w.old.getD i default)).length∧(hdW w (w.old.getD i default)).length≤255:=Z0d w.heap.W (w.old.getD i default);have he:=Z5y hh;by_cases c1:Z0G w (ofA w.heap.C (w.old.getD i default)).1=true
 ·by_cases c2:w.old.getD i default∈w.Q
  ·have e7:Z5R w (w.old.getD i default)=w:=by rw[Z5R,if_neg (by rintro⟨_,q⟩;exact q c2)]
   rw[e7];exact sF [] [] (FN 13 14 24 wdv w.old i (Fc 26 (@Z4L w.heap.C (w.old.getD i default) oq oq) (Fc 32 (@Z1Z w ((ofA w.heap.C (w.old.getD i default)).fst) oq oq) (FeG 40 (!!Z0G w (ofA w.heap.C (w.old.getD i default)).fst) wdv w.old (↑i) i (FcG 42 (!!Z0G w (ofA w.heap.C (w.old.getD i default)).fst) (fun hg=>by(try simp only[bs]at hg);exact @Z12 w.Q (w.old.getD i default) oq) (Fts 43 (!Z0G w (ofA w.heap.C (w.old.getD i default)).fst||decide (w.old.getD i default∈w.Q)) (Fx 16 i Fz)))))))
  ·have e7:Z5R w (w.old.getD i default)=⟨⟨w.heap.C,(Z0z w.heap.W (w.old.getD i default) (objW ⟨0,(hdW w (w.old.getD i default)).length,0⟩)).1,w.heap.P,w.heap.S,w.heap.B⟩,w.old,w.T,w.Q,w.D,⟨w.rep.copied,w.rep.kept,w.rep.filled+1,w.rep.freed,w.rep.cleared,w.rep.steps⟩⟩:=by rw[Z5R,if_pos ⟨c1,c2⟩]
   rw[e7];exact sF [] [] (Fh 71 [.els (List.map wdv ([(Z0c (Header.mk 0 (hdW w (w.old.getD i default)).length 0)).fst]++List.replicate (hdW w (w.old.getD i default)).length.toNat 0))] (FN 13 14 24 wdv w.old i (Fc 26 (@Z4L w.heap.C (w.old.getD i default) oq oq) (Fc 32 (@Z1Z w ((ofA w.heap.C (w.old.getD i default)).fst) oq oq) (FeG 40 (!!Z0G w (ofA w.heap.C (w.old.getD i default)).fst) wdv w.old (↑i) i (FcG 42 (!!Z0G w (ofA w.heap.C (w.old.getD i default)).fst) (fun hg=>by(try simp only[bs]at hg);exact @Z12 w.Q (w.old.getD i default) oq) (Ffs 43 (!Z0G w (ofA w.heap.C (w.old.getD i default)).fst||decide (w.old.getD i default∈w.Q)) (Fek 48 wdv w.old (↑i) i (Fc 50 (@ZjI w (w.old.getD i default) aa aa oq) (Fc 55 (@Z3E (Header.mk 0 (hdW w (w.old.getD i default)).length 0) (by(simp only[bs];omega))) (Fek 65 wdv w.old (↑i) i (Fs 68 (List.map wdv [(Z0c (Header.mk 0 (hdW w (w.old.getD i default)).length 0)).fst]) (Fa (by grind[objW]:0≤(hdW w (w.old.getD i default)).length∧(↑(List.map wdv [(Z0c (Header.mk 0 (hdW w (w.old.getD i default)).length 0)).fst]).length:Int)+(hdW w (w.old.getD i default)).length≤2^30) (Fa (by simp[objW,List.map_take,List.map_drop,List.map_set,List.map_append,wdv,idv]:List.map wdv [(Z0c (Header.mk 0 (hdW w (w.old.getD i default)).length 0)).fst]++List.replicate (hdW w (w.old.getD i default)).length.toNat [du64 0]=List.map wdv ([(Z0c (Header.mk 0 (hdW w (w.old.getD i default)).length 0)).fst]++List.replicate (hdW w (w.old.getD i default)).length.toNat 0)) (Fc 72 (@Z58 w.heap.W ([(Z0c (Header.mk 0 (hdW w (w.old.getD i default)).length 0)).fst]++List.replicate (hdW w (w.old.getD i default)).length.toNat 0) (w.old.getD i default) oq oq (by grind[objW])) (Fi 80 (w.rep.filled+1) (Fx 16 i Fz)))))))))))))))))
 ·have e7:Z5R w (w.old.getD i default)=w:=by rw[Z5R,if_neg (by rintro⟨q,_⟩;exact c1 q)]
  rw[e7];exact sF [] [] (FN 13 14 24 wdv w.old i (Fc 26 (@Z4L w.heap.C (w.old.getD i default) oq oq) (Fc 32 (@Z1Z w ((ofA w.heap.C (w.old.getD i default)).fst) oq oq) (FeG 40 (!!Z0G w (ofA w.heap.C (w.old.getD i default)).fst) wdv w.old (↑i) i (FcG 42 (!!Z0G w (ofA w.heap.C (w.old.getD i default)).fst) (fun hg=>by(try simp only[bs]at hg);exact @Z12 w.Q (w.old.getD i default) oq) (Fts 43 (!Z0G w (ofA w.heap.C (w.old.getD i default)).fst||decide (w.old.getD i default∈w.Q)) (Fx 16 i Fz)))))))
end
theorem Znq(w:Work):CP (rndF Tryz.f121 0) (Zmi w w.old.length).st (.ext 0) (Tg.st ⟨tm 84 [(1,.pt 8001 0 0),(2,.pt 8002 0 0)],[(8002,.box 89 zW),(8001,.box 89 w.cells)],60⟩):=by
 exact sF [] [] (FO 13 14 wdv w.old Fz)
theorem Zmh(w:Work)(x:Int):∃ l n,Z5R w x=⟨⟨w.heap.C,l,w.heap.P,w.heap.S,w.heap.B⟩,w.old,w.T,w.Q,w.D,⟨w.rep.copied,w.rep.kept,n,w.rep.freed,w.rep.cleared,w.rep.steps⟩⟩∧l.length≤w.heap.W.length∧(WOk w.heap.W→WOk l)∧w.rep.filled≤n∧n≤w.rep.filled+1:=by
 unfold Z5R;split
 ·refine⟨_,_,rfl,Z9G _ _ _,fun h=>Z7d h ?_ _,by omega,by omega⟩;intro y hy;have hh:0≤(hdW w x).length∧(hdW w x).length≤255:=Z0d w.heap.W x;simp only[objW,List.mem_cons,List.mem_replicate,Z5y hh]at hy;rcases hy with rfl | ⟨_,rfl⟩<;>omega
 ·exact⟨w.heap.W,w.rep.filled,rfl,Nat.le_refl _,fun h=>h,by omega,by omega⟩
theorem Z5v(w:Work)(hw:FOk w):∀ k,FOk (fillN w k)∧(fillN w k).heap.C=w.heap.C∧(fillN w k).heap.P=w.heap.P∧(fillN w k).heap.S=w.heap.S∧(fillN w k).heap.B=w.heap.B∧(fillN w k).old=w.old∧(fillN w k).T=w.T∧(fillN w k).Q=w.Q∧(fillN w k).rep.freed=w.rep.freed∧(fillN w k).rep.cleared=w.rep.cleared∧w.rep.filled≤(fillN w k).rep.filled∧(fillN w k).rep.filled≤w.rep.filled+k
 | 0=>⟨hw,rfl,rfl,rfl,rfl,rfl,rfl,rfl,rfl,rfl,by simp[fillN],by simp[fillN]⟩
 | k+1=>by
  obtain⟨i0,i1,i2,i3,i4,i5,i6,i7,i8,i9,i10,i11⟩:=Z5v w hw k;obtain⟨l,n,e,e1,e2,e3,e4⟩:=Zmh (fillN w k) (w.old.getD k default);have:fillN w (k+1)=_:=e;rw[this];have hl:=i0.wl;exact⟨⟨e2 i0.W,by simp only;omega,i0.pl,i0.ol,i0.o,i0.tl,i0.ql⟩,i1,i2,i3,i4,i5,i6,i7,i8,i9,by simp only;omega,by simp only;omega⟩
section
variable (w:Work) (hw:FOk w) (hr:w.rep.filled=0)
include hw hr
theorem ZkX:CP (blkF Tryz.f121 0) (Tg.st ⟨tm 84 [(1,.pt 8001 0 0),(2,.pt 8002 0 0),(3,int 0)],[(8002,.box 89 zW),(8001,.box 89 w.cells)],60⟩) .nrm (Tg.st ⟨tm 84 [(1,.pt 8001 0 0),(2,.pt 8002 0 0)],[(8002,.box 89 zW),(8001,.box 89 (fillN w w.old.length).cells)],60⟩):=by
 have hol:=hw.ol;refine Z0a (S:=fun k=>(Zmi (fillN w k) k).st) w.old.length kr (fun k hk=>?_) ?_
 ·have h:=Z5v w hw k;have:=Zk2 (fillN w k) k h.1 (by rw[h.2.2.2.2.2.1];exact hk) oq;rw[h.2.2.2.2.2.1]at this;exact this
 ·have h:=Z5v w hw w.old.length;have:=Znq (fillN w w.old.length);rw[h.2.2.2.2.2.1]at this;exact this
theorem ZcU:GP 121 [w.av] false (fillN w w.old.length).av []:=by
 exact gF [] Tryz.func121 [] (Fu (@ZkX w aa aa) Fz)
end
end Go.Proofs.YtdhchmlalchgeaaGreat
