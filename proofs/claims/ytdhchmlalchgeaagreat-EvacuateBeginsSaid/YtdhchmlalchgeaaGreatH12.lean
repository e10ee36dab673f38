/-
 The statement EvacuateBegins: part 12.
 Conditions: none.
-/
import Derived.Test.YtdhchmlalchgeaaGreatH11
set_option maxRecDepth 100000
set_option maxHeartbeats 2000000
set_option linter.all false
namespace Go.Proofs.YtdhchmlalchgeaaGreat
open Go.Sx
def Work.put(w:Work)(i:Nat)(r a n:Int):Work:=⟨⟨w.heap.C,(Z1i (moveA w.heap.W a r n).1 r (4*a+2)).1,Z2b w.heap.P i n,w.heap.S,w.heap.B⟩,w.old,w.T,w.Q++[a],w.D,⟨w.rep.copied+1,w.rep.kept,w.rep.filled,w.rep.freed,w.rep.cleared,w.rep.steps⟩⟩
theorem ZmZ{ws:List Int}{i:Nat}{v:Int}(h:i<ws.length):spl ws i [v]=ws.set i v:=by
 rw[List.set_eq_take_append_cons_drop,if_pos h,spl];simp
theorem Zp7{ws:List Int}{a r:Int}{n:Nat}(hn:1≤n)(ha:4096≤a∧a-4096+n≤ws.length)(hr:4096≤r∧r-4096+n≤ws.length) :
  (ws.take (a-4096).toNat++(ws.drop (r-4096).toNat).take n++ws.drop ((a-4096).toNat+((ws.drop (r-4096).toNat).take n).length)).set (r-4096).toNat (4*a+2)=(Z1i (moveA ws a r n).1 r (4*a+2)).1:=by
 have e1:Z1p ws r n=((ws.drop (r-4096).toNat).take n,0):=by rw[Z1p,if_neg oq,if_pos hr];rfl
 have hl:((ws.drop (r-4096).toNat).take n).length=n:=by simp;omega
 have e2:(moveA ws a r n).1=spl ws (a-4096).toNat ((ws.drop (r-4096).toNat).take n):=by
  rw[moveA,e1];simp only[if_neg (show ¬ (0:Int)≠0 by simp)];rw[Z0E,if_pos oq]
 rw[e2];have hL:=Z4i (ws:=ws) (l:=(ws.drop (r-4096).toNat).take n) (i:=(a-4096).toNat) oq;rw[Z1i,Z0E,if_pos (by simp only[List.length_singleton];omega),ZmZ oq];rfl
section
variable (w:Work) (r i off:Int) (n:Nat) (hw:MemOk w) (hq:w.Q.length≤1000000) (rk:0≤w.rep.copied∧w.rep.copied≤1000000) (hu:0≤(w.heap.P.getD i.toNat default).U∧(w.heap.P.getD i.toNat default).U≤1024) (hr:4096≤r∧1≤n∧r-4096+n≤w.heap.W.length) (hi:0≤i∧i<w.heap.P.length) (ha:(address w.heap.C i off).2=0) (har:4096≤(address w.heap.C i off).1∧(address w.heap.C i off).1-4096+n≤w.heap.W.length)
include hw hq rk hu hr hi ha har
theorem ckTo:BP 143 [.ag [.pt 0 0 0,.os 1 (r-4096).toNat n],int i,int off] w.ckp (.tu [u64 (address w.heap.C i off).1,int 0]) (w.put i.toNat r (address w.heap.C i off).1 n).ckr:=by
 have wl:=hw.wl;have pl:=hw.pl;have hs:=Zp7 (ws:=w.heap.W) (a:=(address w.heap.C i off).1) (r:=r) (n:=n) hr.2.1 har oq;have hs2:List.map wdv ((w.heap.W.take ((address w.heap.C i off).1-4096).toNat++(w.heap.W.drop (r-4096).toNat).take n++w.heap.W.drop (((address w.heap.C i off).1-4096).toNat+((w.heap.W.drop (r-4096).toNat).take n).length)).set ((r-4096).toNat+Int.toNat 0) (4*(address w.heap.C i off).1+2))=List.map wdv (w.put i.toNat r (address w.heap.C i off).1 n).heap.W:=congrArg _ hs;have hn:=hr.2.1;have ei0:IntKind.i64.wrap ((w.heap.P.getD i.toNat default).U+n)=(w.heap.P.getD i.toNat default).U+n:=wrapI' oq oq;have ei1:IntKind.i64.wrap (w.rep.copied+1)=w.rep.copied+1:=wrapI' oq oq;exact borF [0,1,2,3,4,8005] [88082] Tryz.func143 (fO 4) (Fh 52 [.els (List.map wdv (List.take ((address w.heap.C i off).fst-4096).toNat w.heap.W++List.take n (List.drop (r-4096).toNat w.heap.W)++List.drop (((address w.heap.C i off).fst-4096).toNat+(List.take n (List.drop (r-4096).toNat w.heap.W)).length) w.heap.W))] (Fh 10056 [.els (List.map wdv ((List.take ((address w.heap.C i off).fst-4096).toNat w.heap.W++List.take n (List.drop (r-4096).toNat w.heap.W)++List.drop (((address w.heap.C i off).fst-4096).toNat+(List.take n (List.drop (r-4096).toNat w.heap.W)).length) w.heap.W).set ((r-4096).toNat+Int.toNat 0) (4*(address w.heap.C i off).fst+2)))] (Fh 82 [.els (List.map wdv (w.Q++[(address w.heap.C i off).fst]))] (Fc 22 (@Z3w w.heap.C i off) (Ffb 26 ((address w.heap.C i off).snd != 0) (Fbq 35 [0,1,2,3,4,8005] (@Z2g w ((address w.heap.C i off).fst) ((↑n:Int)) aa oq) (Fc 40 (@Zb6 ((address w.heap.C i off).fst) oq) (Fa (by(simp[ha,Work.put,Z2b, *];omega):(List.take n (List.drop (r-4096).toNat (List.map wdv w.heap.W))).length≤(↑n:Int).toNat) (Fa (by(simp[Z0G]):Z0G (List.map wdv w.heap.W) ((address w.heap.C i off).fst-4096).toNat (List.take n (List.drop (r-4096).toNat (List.map wdv w.heap.W)))=List.map wdv (List.take ((address w.heap.C i off).fst-4096).toNat w.heap.W++List.take n (List.drop (r-4096).toNat w.heap.W)++List.drop (((address w.heap.C i off).fst-4096).toNat+(List.take n (List.drop (r-4096).toNat w.heap.W)).length) w.heap.W)) (Fo ((0:Int)≤0∧Int.toNat 0<n) (Fa (by(simp[ha,Work.put,Z2b, *];omega):(r-4096).toNat+Int.toNat 0<(List.map wdv (List.take ((address w.heap.C i off).fst-4096).toNat w.heap.W++List.take n (List.drop (r-4096).toNat w.heap.W)++List.drop (((address w.heap.C i off).fst-4096).toNat+(List.take n (List.drop (r-4096).toNat w.heap.W)).length) w.heap.W)).length) (Fa (by simp[ha,Work.put,Z2b,List.map_take,List.map_drop,List.map_set,List.map_append,wdv,idv]:(List.map wdv (List.take ((address w.heap.C i off).fst-4096).toNat w.heap.W++List.take n (List.drop (r-4096).toNat w.heap.W)++List.drop (((address w.heap.C i off).fst-4096).toNat+(List.take n (List.drop (r-4096).toNat w.heap.W)).length) w.heap.W)).set ((r-4096).toNat+Int.toNat 0) [du64 (4*(address w.heap.C i off).fst+2)]=List.map wdv ((List.take ((address w.heap.C i off).fst-4096).toNat w.heap.W++List.take n (List.drop (r-4096).toNat w.heap.W)++List.drop (((address w.heap.C i off).fst-4096).toNat+(List.take n (List.drop (r-4096).toNat w.heap.W)).length) w.heap.W).set ((r-4096).toNat+Int.toNat 0) (4*(address w.heap.C i off).fst+2))) (Fmq 66 Page.dv w.heap.P i (Fi 70 ((w.heap.P.getD i.toNat default).U+(↑n:Int)) (Fm0q Page.dv w.heap.P i (FS 10072 Page.dv w.heap.P i.toNat (Page.mk (w.heap.P.getD i.toNat default).K (w.heap.P.getD i.toNat default).S ((w.heap.P.getD i.toNat default).U+(↑n:Int)) (w.heap.P.getD i.toNat default).N) ((w.heap.P.getD i.toNat default).dv) (Fs 81 (List.map wdv [(address w.heap.C i off).fst]) (Fa (by(simp[ha,Work.put,Z2b, *];omega):(List.map wdv w.Q).length+(List.map wdv [(address w.heap.C i off).fst]).length≤2^30) (Fa (by(simp[Z0G]):List.map wdv w.Q++List.map wdv [(address w.heap.C i off).fst]=List.map wdv (w.Q++[(address w.heap.C i off).fst])) (Fi 91 (w.rep.copied+1) (Fr (35:Int) (Fa (by refine congrArg _ ?_;assumption:List.map wdv ((List.take ((address w.heap.C i off).fst-4096).toNat w.heap.W++List.take n (List.drop (r-4096).toNat w.heap.W)++List.drop (((address w.heap.C i off).fst-4096).toNat+(List.take n (List.drop (r-4096).toNat w.heap.W)).length) w.heap.W).set ((r-4096).toNat+Int.toNat 0) (4*(address w.heap.C i off).fst+2))=List.map wdv (w.put i.toNat r (address w.heap.C i off).fst (↑n:Int)).heap.W) Fz))))))))))))))))))))))
end
def ckfB(w:Work)(l:List Page):List (Nat×Blk):=[(2,Z1S l),(0,w.ckB 1 2 3 4 8005),(1,Z0t w.heap.W),(3,Z0t w.old),(4,Z3d w.T),(8005,Z0t w.Q)]
def ckfL(w:Work)(r x:Int)(m:Nat):Tg:=⟨tm 180 [(0,.pt 0 0 0),(1,u64 r),(4,u64 0),(5,int 0),(6,.os 1 (r-4096).toNat 1),(7,bool true),(13,int (x+1+m))],ckfB w (Z0p w.heap.P x.toNat m (1-w.heap.S)),15⟩
theorem ZkA(w:Work)(r x:Int)(m:Nat)(hs:w.heap.S=0∨w.heap.S=1)(hl:w.heap.P.length≤1048576)(hx:0≤x)(hm:m<Z0k w.heap.P x.toNat):CP (rndF Tryz.f85 0) (ckfL w r x m).st .nrm (ckfL w r x (m+1)).st:=by
 have ht:=Zby hm;have ha:=Z7M (l:=w.heap.P) (i:=x.toNat) (m:=m) (1-w.heap.S);have hn:=Z1L w.heap.P x.toNat m (1-w.heap.S);have hq:=Za4 (1-w.heap.S) ht.1;unfold Zct at hq;rw[← ha]at hq ht;have eN:x.toNat+1+m=(x+1+(m:Int)).toNat:=by omega
 have eI:((x.toNat+1+m:Nat):Int)=x+1+(m:Int):=by omega
 rw[eN]at ha hq ht;let y1:=Z0p w.heap.P x.toNat m (1-w.heap.S);let y2:=x+1+(↑m:Int);let y0:=y1.getD y2.toNat default;let y3:=x+1+(↑m:Int)<(↑y1.length:Int);let y4:=Page.mk y0.K (1-w.heap.S) y0.U y0.N;exact sF [] (fP 16) (Fl 109 Page.dv (Z0p w.heap.P x.toNat m ((1:Int)-w.heap.S)) (FmGq 120 (decide y3) Page.dv y1 y2 (Ftb 122 (decide y3&&y0.K==3) (Fbq 132 [0,1,2,3,4,8005] (@Z8q w.heap.C.pw w.heap.C.pg w.heap.S w.heap.B w.D w.rep.copied w.rep.kept w.rep.filled w.rep.freed w.rep.cleared w.rep.steps w.heap.W w.old w.Q w.T y1 aa) (Fm0q Page.dv y1 y2 (FS 10134 Page.dv y1 (y2.toNat) y4 (y0.dv) (Fi 124 (x+1+(↑m:Int)+1) (Fo (x+1+(↑m:Int)+1=x+1+(↑(m+1):Int)) (Fr (84:Int) (Fa (by refine congrArg _ ?_;exact hq:List.map Page.dv (y1.set y2.toNat y4)=List.map Page.dv (Z0p w.heap.P x.toNat (m+1) (1-w.heap.S))) Fz))))))))))
theorem ZpC(w:Work)(r x:Int)(hl:w.heap.P.length≤1048576)(hx:0≤x):CP (rndF Tryz.f85 0) (ckfL w r x (Z0k w.heap.P x.toNat)).st (.ext 0) (Tg.st ⟨tm 180 [(0,.pt 0 0 0),(1,u64 r),(4,u64 0),(5,int 0),(6,.os 1 (r-4096).toNat 1),(7,bool true)],ckfB w (Z0p w.heap.P x.toNat (Z0k w.heap.P x.toNat) (1-w.heap.S)),15⟩):=by
 have ht:=fun h=>ZaO (l:=w.heap.P) (i:=x.toNat) h;have ha:=Z7M (l:=w.heap.P) (i:=x.toNat) (m:=Z0k w.heap.P x.toNat) (1-w.heap.S);have hn:=Z1L w.heap.P x.toNat (Z0k w.heap.P x.toNat) (1-w.heap.S)
 have eN:x.toNat+1+Z0k w.heap.P x.toNat=(x+1+(Z0k w.heap.P x.toNat:Int)).toNat:=by omega
 rw[← ha,eN]at ht;exact sF [] [] (Fl 109 Page.dv (Z0p w.heap.P x.toNat (Z0k w.heap.P x.toNat) ((1:Int)-w.heap.S)) (FmGq 120 (decide (x+1+(↑(Z0k w.heap.P x.toNat):Int)<(↑(Z0p w.heap.P x.toNat (Z0k w.heap.P x.toNat) (1-w.heap.S)).length:Int))) Page.dv (Z0p w.heap.P x.toNat (Z0k w.heap.P x.toNat) (1-w.heap.S)) (x+1+(↑(Z0k w.heap.P x.toNat):Int)) (Ffb 122 (decide (x+1+(↑(Z0k w.heap.P x.toNat):Int)<(↑(Z0p w.heap.P x.toNat (Z0k w.heap.P x.toNat) (1-w.heap.S)).length:Int))&&((Z0p w.heap.P x.toNat (Z0k w.heap.P x.toNat) (1-w.heap.S)).getD (x+1+(↑(Z0k w.heap.P x.toNat):Int)).toNat default).K==3) Fz)))
theorem Zom(w:Work)(r x:Int)(hs:w.heap.S=0∨w.heap.S=1)(hl:w.heap.P.length≤1048576)(hx:0≤x):CP (blkF Tryz.f85 0) (Tg.st ⟨tm 180 [(0,.pt 0 0 0),(1,u64 r),(4,u64 0),(5,int 0),(6,.os 1 (r-4096).toNat 1),(7,bool true),(13,int (x+1))],ckfB w (w.heap.P.set x.toNat ⟨(w.heap.P.getD x.toNat default).K,1-w.heap.S,(w.heap.P.getD x.toNat default).U,(w.heap.P.getD x.toNat default).N⟩),15⟩) .nrm (Tg.st ⟨tm 180 [(0,.pt 0 0 0),(1,u64 r),(4,u64 0),(5,int 0),(6,.os 1 (r-4096).toNat 1),(7,bool true)],ckfB w (Z0p w.heap.P x.toNat (Z0k w.heap.P x.toNat) (1-w.heap.S)),15⟩):=by
 have h:=Z07 (S:=fun k=>(ckfL w r x k).st) (Z0k w.heap.P x.toNat) kr (fun k hk=>ZkA w r x k hs hl hx hk) (ZpC w r x hl hx);have hz:=Za3 (l:=w.heap.P) (i:=x.toNat) (1-w.heap.S);simp only[ckfL,hz,Zct,Int.natCast_zero,Int.add_zero]at h;exact h
theorem FwOk.ld{w:Work}{r:Int}(f:FwOk w r)(c3:r∈w.old):(loadA w.heap.W r).1=w.heap.W.getD ((r-4096).toNat+Int.toNat 0) default:=by
 have h3:=f.ol c3;have lr:=Z0Q w.heap.W r;unfold loadA;rw[if_pos oq];rfl
theorem Zpb(w:Work)(r:Int)(h0:0≤r∧r≤18446744073709551615)(ln:LnOk w)(c1:r=0∨r∈w.Q):BP 85 [.pt 0 0 0,u64 r] w.ckp (.tu [u64 r,int 0]) w.ckp:=by
 obtain⟨h1,h2,h3,h4,h5⟩:=ln;exact borF [0,1,2,3,4,5] [] Tryz.func85 [] (FcG 27 (!r==0) (fun hg=>by(try simp only[bs]at hg);exact @Z0M w.Q r aa) (Ftb 28 (r==0||decide (r∈w.Q)) Fz))
theorem Zpp(w:Work)(r:Int)(h0:0≤r∧r≤18446744073709551615)(ln:LnOk w)(c1:r≠0)(c2:r∉w.Q)(c3:r∉w.old):BP 85 [.pt 0 0 0,u64 r] w.ckp (.tu [u64 0,int 19]) w.ckp:=by
 obtain⟨h1,h2,h3,h4,h5⟩:=ln;exact borF [0,1,2,3,4,5] [] Tryz.func85 [] (FcG 27 (!r==0) (fun hg=>by(try simp only[bs]at hg);exact @Z0M w.Q r aa) (Ffs 28 (r==0||decide (r∈w.Q)) (Fc 35 (@Z0M w.old r aa) (Ftb 36 (!decide (r∈w.old)) Fz))))
section
variable (w:Work) (r:Int) (f:FwOk w r)
include f
variable (c1:r≠0) (c2:r∉w.Q) (c3:r∈w.old)
include c1 c2 c3
theorem Zp3(c4:(Z0a (loadA w.heap.W r).1).2=true):BP 85 [.pt 0 0 0,u64 r] w.ckp (.tu [u64 (Z0a (loadA w.heap.W r).1).1,int 0]) w.ckp:=by
 have h0:=f.rg;have hk:=f.ck;have hmm:=hk.mem;have ok:=hk.ok;obtain⟨-,wl,-,pl,sp,ol,-,-,tl,-,-,mu,-,rk,-,-⟩:=id ok;have cf:=validB_iff.1 ok.C;have h3:=f.ol c3;have lr:=Z0Q w.heap.W r;have o:=Z2M ok.C h3.2.2.1;have eof:=h3.2.2.1;have el:=f.ld c3;have ld:=Z0C ok.W r;rw[el]at c4 ld ⊢;have Q0 {h_ c_ p_} (r_:Fq h_ c_ p_):=FcG 27 (!r==0) (fun hg=>by(try simp only[bs]at hg);exact @Z0M w.Q r oq) r_;rcases bb (r==0||decide (r∈w.Q))with hc0 | hc0<;>have hc0p:=hc0<;>simp only[bs]at hc0p
 ·exact borF [0,1,2,3,4,5] [] Tryz.func85 (fO 6) (Q0 (Ft 28 hc0 (Fa (by grind[]:r=(Z0a (w.heap.W.getD ((r-4096).toNat+Int.toNat 0) default)).fst) (Fr (0:Int) Fz))))
 ·obtain⟨hc0pa,hc0pb⟩:=hc0p;let y0:=w.heap.W.getD ((r-4096).toNat+Int.toNat 0) default;exact borF [0,1,2,3,4,5] [] Tryz.func85 [] (Fh 48 [.el (wdv y0)] (Fh 52 [.br true] (Q0 (Ff 28 hc0 (Fc 35 (@Z0M w.old r oq) (Ffb 36 (!decide (r∈w.old)) (Fbq 40 [0,1,2,3,4,5] (@Z2g w r (1) aa oq) (Fo ((0:Int)≤0∧Int.toNat 0<Int.toNat 1) (Fa (by exact Z0v oq:(List.map wdv w.heap.W)[(r-4096).toNat+Int.toNat 0]? = some (wdv y0)) (Fc 49 (@Z1A y0 oq oq) (Fa ‹(Z0a y0).snd=true› Fz)))))))))))
variable (c4:(Z0a (loadA w.heap.W r).1).2=false)
include c4
theorem ZoZ(c6:Z0B w (ofA w.heap.C r).1=true):BP 85 [.pt 0 0 0,u64 r] w.ckp (.tu [u64 r,int 0]) (w.keep r).ckr:=by
 have h0:=f.rg;have hk:=f.ck;have hmm:=hk.mem;have ok:=hk.ok;obtain⟨-,wl,-,pl,sp,ol,-,-,tl,-,-,mu,-,rk,-,-⟩:=id ok;have cf:=validB_iff.1 ok.C;have h3:=f.ol c3;have lr:=Z0Q w.heap.W r;have o:=Z2M ok.C h3.2.2.1;have eof:=h3.2.2.1;have el:=f.ld c3;have ld:=Z0C ok.W r;rw[el]at c4 ld;rcases bb (r==0||decide (r∈w.Q))with hc0 | hc0<;>have hc0p:=hc0<;>simp only[bs]at hc0p
 ·rw[show w.keep r=w from by exact absurd hc0p (by simp[c1,c2])];exact absurd hc0p (by simp[c1,c2])
 ·obtain⟨hc0pa,hc0pb⟩:=hc0p;let y0:=w.heap.W.getD ((r-4096).toNat+Int.toNat 0) default;let y1:=ofA w.heap.C r;exact borF [0,1,2,3,4,8005] [97078] Tryz.func85 [] (Fh 48 [.el (wdv y0)] (Fh 72 [.br false] (Fh 75 [.bor [0,1,2,3,4,8005] (Sx.bool (Z0B w y1.fst)) [],.br true] (FcG 27 (!r==0) (fun hg=>by(try simp only[bs]at hg);exact @Z0M w.Q r oq) (Ff 28 hc0 (Fc 35 (@Z0M w.old r oq) (Ffb 36 (!decide (r∈w.old)) (Fbq 40 [0,1,2,3,4,8005] (@Z2g w r (1) aa oq) (Fo ((0:Int)≤0∧Int.toNat 0<Int.toNat 1) (Fa (by exact Z0v oq:(List.map wdv w.heap.W)[(r-4096).toNat+Int.toNat 0]? = some (wdv y0)) (Fc 49 (@Z1A y0 oq oq) (Fa ‹(Z0a y0).snd=false› (Fc 61 (@Z29 w.heap.C r oq oq) (Fl 71 Page.dv w.heap.P (Ffb 52 (decide ((↑w.heap.P.length:Int)≤y1.fst)) (Fa (@Z2y w (y1.fst) aa) (Fa ‹Z0B w y1.fst=true› (Fbr 78 [0,1,2,3,4,8005] (@Zmy w.heap.C.pw w.heap.C.pg w.heap.S w.heap.B w.D w.rep.copied w.rep.kept w.rep.filled w.rep.freed w.rep.cleared w.rep.steps r w.heap.W w.old w.Q w.T w.heap.P oq oq) Fz))))))))))))))))))
theorem ZoK(c6:Z0B w (ofA w.heap.C r).1=false)(c7:(w.heap.P.getD (Z1x w r) default).K=2):BP 85 [.pt 0 0 0,u64 r] w.ckp (.tu [u64 r,int 0]) ((w.flip (Z1x w r)).keep r).ckr:=by
 have h0:=f.rg;have hk:=f.ck;have hmm:=hk.mem;have ok:=hk.ok;obtain⟨-,wl,-,pl,sp,ol,-,-,tl,-,-,mu,-,rk,-,-⟩:=id ok;have cf:=validB_iff.1 ok.C;have h3:=f.ol c3;have lr:=Z0Q w.heap.W r;have o:=Z2M ok.C h3.2.2.1;have eof:=h3.2.2.1;have el:=f.ld c3;have ld:=Z0C ok.W r;rw[el]at c4 ld;unfold Z1x at c7;rcases bb (r==0||decide (r∈w.Q))with hc0 | hc0<;>have hc0p:=hc0<;>simp only[bs]at hc0p
 ·rw[show(w.flip (Z1x w r)).keep r=w from by exact absurd hc0p (by simp[c1,c2])];exact absurd hc0p (by simp[c1,c2])
 ·obtain⟨hc0pa,hc0pb⟩:=hc0p;let y0:=ofA w.heap.C r;let y1:=w.heap.W.getD ((r-4096).toNat+Int.toNat 0) default;let y2:=w.heap.P.getD y0.fst.toNat default;exact borF [0,1,2,3,4,8005] [121137] Tryz.func85 [] (Fh 48 [.el (wdv y1)] (Fh 72 [.br false] (Fh 75 [.bor [0,1,2,3,4,8005] (Sx.bool (Z0B w y0.fst)) [],.br false] (FcG 27 (!r==0) (fun hg=>by(try simp only[bs]at hg);exact @Z0M w.Q r oq) (Ff 28 hc0 (Fc 35 (@Z0M w.old r oq) (Ffb 36 (!decide (r∈w.old)) (Fbq 40 [0,1,2,3,4,8005] (@Z2g w r (1) aa oq) (Fo ((0:Int)≤0∧Int.toNat 0<Int.toNat 1) (Fa (by exact Z0v oq:(List.map wdv w.heap.W)[(r-4096).toNat+Int.toNat 0]? = some (wdv y1)) (Fc 49 (@Z1A y1 oq oq) (Fa ‹(Z0a y1).snd=false› (Fc 61 (@Z29 w.heap.C r oq oq) (Fl 71 Page.dv w.heap.P (Ffb 52 (decide ((↑w.heap.P.length:Int)≤y0.fst)) (Fa (@Z2y w (y0.fst) aa) (Fa ‹Z0B w y0.fst=false› (Fmq 89 Page.dv w.heap.P (y0.fst) (Ftb 90 (y2.K==2) (Fbq 98 [0,1,2,3,4,8005] (@Z8q w.heap.C.pw w.heap.C.pg w.heap.S w.heap.B w.D w.rep.copied w.rep.kept w.rep.filled w.rep.freed w.rep.cleared w.rep.steps w.heap.W w.old w.Q w.T w.heap.P aa) (Fm0q Page.dv w.heap.P (y0.fst) (FS 10100 Page.dv w.heap.P (y0.fst.toNat) (Page.mk y2.K (1-w.heap.S) y2.U y2.N) (y2.dv) (Fi 102 (y0.fst+1) (Fu (@Zom w r (y0.fst) aa oq oq) (Fbr 137 [0,1,2,3,4,8005] (@Zmy w.heap.C.pw w.heap.C.pg w.heap.S w.heap.B w.D w.rep.copied w.rep.kept w.rep.filled w.rep.freed w.rep.cleared w.rep.steps r w.heap.W w.old w.Q w.T (Z0p w.heap.P y0.fst.toNat (Z0k w.heap.P y0.fst.toNat) (1-w.heap.S)) oq oq) Fz)))))))))))))))))))))))))
variable (c6:Z0B w (ofA w.heap.C r).1=false) (c7:¬ (w.heap.P.getD (Z1x w r) default).K=2)
include c6 c7
theorem Zp0(c8:¬ Z3f w (sizeH (hdW w r)))(c9:¬ 0≤Z0i w):BP 85 [.pt 0 0 0,u64 r] w.ckp (.tu [u64 0,int 3]) w.ckp:=by
 have h0:=f.rg;have hk:=f.ck;have hmm:=hk.mem;have ok:=hk.ok;obtain⟨-,wl,-,pl,sp,ol,-,-,tl,-,-,mu,-,rk,-,-⟩:=id ok;have cf:=validB_iff.1 ok.C;have h3:=f.ol c3;have lr:=Z0Q w.heap.W r;have o:=Z2M ok.C h3.2.2.1;have eof:=h3.2.2.1;have el:=f.ld c3;have ld:=Z0C ok.W r;have dc:=f.dc c3 c4;have sz:=Z39 w r;have hl:=Z4y w r;have dm:=Z1w (loadA w.heap.W r).1 ld.1;have ein:(((sizeH (hdW w r)).toNat:Nat):Int)=sizeH (hdW w r):=Int.toNat_of_nonneg oq;unfold Z1x at c7;unfold hdW at *;rw[el]at c4 c8 ld dc sz hl dm ein;rcases bb (r==0||decide (r∈w.Q))with hc0 | hc0<;>have hc0p:=hc0<;>simp only[bs]at hc0p
 ·exact absurd hc0p (by simp[c1,c2])
 ·obtain⟨hc0pa,hc0pb⟩:=hc0p;rcases bb (!(decodeH (w.heap.W.getD ((r-4096).toNat+Int.toNat 0) default)).snd||false)with hc1 | hc1<;>have hc1p:=hc1<;>simp only[bs]at hc1p
  ·exact absurd hc1p (by rw[dc];simp)
  ·obtain⟨hc1pa,hc1pb⟩:=hc1p;let y0:=w.heap.W.getD ((r-4096).toNat+Int.toNat 0) default;let y1:=ofA w.heap.C r;let y2:=sizeH (decodeH y0).fst;let y3:=(0:Int)≤0∧Int.toNat 0<Int.toNat 1;exact borF [0,1,2,3,4,5] [] Tryz.func85 [] (Fh 48 [.el (wdv y0)] (Fh 75 [.bor [0,1,2,3,4,5] (Sx.bool (Z0B w y1.fst)) [],.br false] (Fh 143 [.el (wdv y0)] (Fh 160 [.br false] (FcG 27 (!r==0) (fun hg=>by(try simp only[bs]at hg);exact @Z0M w.Q r oq) (Ff 28 hc0 (Fc 35 (@Z0M w.old r oq) (Ffb 36 (!decide (r∈w.old)) (Fbq 40 [0,1,2,3,4,5] (@Z2g w r (1) aa oq) (Fo y3 (Fa (by exact Z0v oq:(List.map wdv w.heap.W)[(r-4096).toNat+Int.toNat 0]? = some (wdv y0)) (Fc 49 (@Z1A y0 oq oq) (Fa ‹(Z0a y0).snd=false› (Fc 61 (@Z29 w.heap.C r oq oq) (Fl 71 Page.dv w.heap.P (Ffb 52 (decide ((↑w.heap.P.length:Int)≤y1.fst)) (Fa (@Z2y w (y1.fst) aa) (Fa ‹Z0B w y1.fst=false› (Fmq 89 Page.dv w.heap.P (y1.fst) (Ffb 72 ((w.heap.P.getD y1.fst.toNat default).K==2) (Fo y3 (Fa (by exact Z0v oq:(List.map wdv w.heap.W)[(r-4096).toNat+Int.toNat 0]? = some (wdv y0)) (Fc 144 (@Z0J y0 oq oq) (Fc 151 (@Z0L ((decodeH y0).fst) aa) (Fbq 152 [0,1,2,3,4,5] (@Z2g w r y2 aa oq) (Ff 90 hc1 (Fg 164 (by assumption:(↑y2.toNat:Int)=sizeH (decodeH y0).fst) (Fbq 165 [0,1,2,3,4,5] (@Zgg w y2 aa aa aa aa) Fz))))))))))))))))))))))))))))
theorem Zpf(c8:Z3f w (sizeH (hdW w r)))(ha:(address w.heap.C (Z0w w) (w.heap.P.getD (Z0w w).toNat default).U).2=0)(har:4096≤(address w.heap.C (Z0w w) (w.heap.P.getD (Z0w w).toNat default).U).1∧(address w.heap.C (Z0w w) (w.heap.P.getD (Z0w w).toNat default).U).1-4096+sizeH (hdW w r)≤w.heap.W.length):BP 85 [.pt 0 0 0,u64 r] w.ckp (.tu [u64 (address w.heap.C (Z0w w) (w.heap.P.getD (Z0w w).toNat default).U).1,int 0]) (w.put (Z0w w).toNat r (address w.heap.C (Z0w w) (w.heap.P.getD (Z0w w).toNat default).U).1 (sizeH (hdW w r)).toNat).ckr:=by
 have h0:=f.rg;have hk:=f.ck;have hmm:=hk.mem;have ok:=hk.ok;obtain⟨-,wl,-,pl,sp,ol,-,-,tl,-,-,mu,-,rk,-,-⟩:=id ok;have cf:=validB_iff.1 ok.C;have h3:=f.ol c3;have lr:=Z0Q w.heap.W r;have o:=Z2M ok.C h3.2.2.1;have eof:=h3.2.2.1;have el:=f.ld c3;have ld:=Z0C ok.W r;have dc:=f.dc c3 c4;have sz:=Z39 w r;have hl:=Z4y w r;have dm:=Z1w (loadA w.heap.W r).1 ld.1;have ein:(((sizeH (hdW w r)).toNat:Nat):Int)=sizeH (hdW w r):=Int.toNat_of_nonneg oq;unfold Z1x at c7;unfold hdW at *;rw[el]at c4 c8 har ld dc sz hl dm ein ⊢;have hm:=ok.tk _ (Z1C c8.1);have hu:=ok.us (Z0w w).toNat oq
 rcases bb (r==0||decide (r∈w.Q))with hc0 | hc0<;>have hc0p:=hc0<;>simp only[bs]at hc0p
 ·rw[show w.put (Z0w w).toNat r (address w.heap.C (Z0w w) (w.heap.P.getD (Z0w w).toNat default).U).fst (↑(sizeH (decodeH (w.heap.W.getD ((r-(4096:Int)).toNat+Int.toNat (0:Int)) default)).fst).toNat:Int)=w from by exact absurd hc0p (by simp[c1,c2])];exact absurd hc0p (by simp[c1,c2])
 ·obtain⟨hc0pa,hc0pb⟩:=hc0p;rcases bb (!(decodeH (w.heap.W.getD ((r-4096).toNat+Int.toNat 0) default)).snd||false)with hc1 | hc1<;>have hc1p:=hc1<;>simp only[bs]at hc1p
  ·rw[show w.put (Z0w w).toNat r (address w.heap.C (Z0w w) (w.heap.P.getD (Z0w w).toNat default).U).fst (↑(sizeH (decodeH (w.heap.W.getD ((r-(4096:Int)).toNat+Int.toNat (0:Int)) default)).fst).toNat:Int)=w from by exact absurd hc1p (by rw[dc];simp)];exact absurd hc1p (by rw[dc];simp)
  ·obtain⟨hc1pa,hc1pb⟩:=hc1p;let y0:=w.heap.W.getD ((r-4096).toNat+Int.toNat 0) default;let y1:=ofA w.heap.C r;let y2:=sizeH (decodeH y0).fst;let y3:=(0:Int)≤0∧Int.toNat 0<Int.toNat 1;exact borF [0,1,2,3,4,8005] [145177] Tryz.func85 [] (Fh 48 [.el (wdv y0)] (Fh 75 [.bor [0,1,2,3,4,8005] (Sx.bool (Z0B w y1.fst)) [],.br false] (Fh 143 [.el (wdv y0)] (Fh 160 [.br false] (FcG 27 (!r==0) (fun hg=>by(try simp only[bs]at hg);exact @Z0M w.Q r oq) (Ff 28 hc0 (Fc 35 (@Z0M w.old r oq) (Ffb 36 (!decide (r∈w.old)) (Fbq 40 [0,1,2,3,4,8005] (@Z2g w r (1) aa oq) (Fo y3 (Fa (by exact Z0v oq:(List.map wdv w.heap.W)[(r-4096).toNat+Int.toNat 0]? = some (wdv y0)) (Fc 49 (@Z1A y0 oq oq) (Fa ‹(Z0a y0).snd=false› (Fc 61 (@Z29 w.heap.C r oq oq) (Fl 71 Page.dv w.heap.P (Ffb 52 (decide ((↑w.heap.P.length:Int)≤y1.fst)) (Fa (@Z2y w (y1.fst) aa) (Fa ‹Z0B w y1.fst=false› (Fmq 89 Page.dv w.heap.P (y1.fst) (Ffb 72 ((w.heap.P.getD y1.fst.toNat default).K==2) (Fo y3 (Fa (by exact Z0v oq:(List.map wdv w.heap.W)[(r-4096).toNat+Int.toNat 0]? = some (wdv y0)) (Fc 144 (@Z0J y0 oq oq) (Fc 151 (@Z0L ((decodeH y0).fst) aa) (Fbq 152 [0,1,2,3,4,8005] (@Z2g w r y2 aa oq) (Ff 90 hc1 (Fg 164 (by assumption:(↑y2.toNat:Int)=sizeH (decodeH y0).fst) (Fbq 165 [0,1,2,3,4,8005] (@Zi4 w y2 aa aa aa) (Fbr 177 [0,1,2,3,4,8005] (@ckTo w r (Z0w w) ((w.heap.P.getD (Z0w w).toNat default).U) (y2.toNat) aa oq oq aa oq oq aa oq) Fz)))))))))))))))))))))))))))))
theorem ZoF(hk2:MemOk w.took)(hu2:0≤(w.took.heap.P.getD (Z0i w).toNat default).U∧(w.took.heap.P.getD (Z0i w).toNat default).U≤1024)(c8:¬ Z3f w (sizeH (hdW w r)))(c9:0≤Z0i w)(ha:(address w.heap.C (Z0i w) 0).2=0)(har:4096≤(address w.heap.C (Z0i w) 0).1∧(address w.heap.C (Z0i w) 0).1-4096+sizeH (hdW w r)≤w.heap.W.length):BP 85 [.pt 0 0 0,u64 r] w.ckp (.tu [u64 (address w.heap.C (Z0i w) 0).1,int 0]) (w.took.put (Z0i w).toNat r (address w.heap.C (Z0i w) 0).1 (sizeH (hdW w r)).toNat).ckq:=by
 have h0:=f.rg;have hk:=f.ck;have hmm:=hk.mem;have ok:=hk.ok;obtain⟨-,wl,-,pl,sp,ol,-,-,tl,-,-,mu,-,rk,-,-⟩:=id ok;have cf:=validB_iff.1 ok.C;have h3:=f.ol c3;have lr:=Z0Q w.heap.W r;have o:=Z2M ok.C h3.2.2.1;have eof:=h3.2.2.1;have el:=f.ld c3;have ld:=Z0C ok.W r;have dc:=f.dc c3 c4;have sz:=Z39 w r;have hl:=Z4y w r;have dm:=Z1w (loadA w.heap.W r).1 ld.1;have ein:(((sizeH (hdW w r)).toNat:Nat):Int)=sizeH (hdW w r):=Int.toNat_of_nonneg oq;unfold Z1x at c7;unfold hdW at *;rw[el]at c4 c8 har ld dc sz hl dm ein ⊢;have ff:=Z1u c9;have fl:Z0i w<w.heap.C.pg:=by unfold Z0i;omega
 have tw:w.took.heap.W.length=w.heap.W.length:=rfl;have tp:=hk2.pl;have tq:w.took.Q.length=w.Q.length:=rfl;have trk:w.took.rep.copied=w.rep.copied:=rfl;have tc:w.took.heap.C=w.heap.C:=rfl;rw[tc]at tp;have ha2:(address w.took.heap.C (Z0i w) 0).2=0:=ha;have har2:=har;rw[← tw,← tc]at har2;rcases bb (r==0||decide (r∈w.Q))with hc0 | hc0<;>have hc0p:=hc0<;>simp only[bs]at hc0p
 ·rw[show w.took.put (Z0i w).toNat r (address w.heap.C (Z0i w) (0:Int)).fst (↑(sizeH (decodeH (w.heap.W.getD ((r-(4096:Int)).toNat+Int.toNat (0:Int)) default)).fst).toNat:Int)=w from by exact absurd hc0p (by simp[c1,c2])];exact absurd hc0p (by simp[c1,c2])
 ·obtain⟨hc0pa,hc0pb⟩:=hc0p;rcases bb (!(decodeH (w.heap.W.getD ((r-4096).toNat+Int.toNat 0) default)).snd||false)with hc1 | hc1<;>have hc1p:=hc1<;>simp only[bs]at hc1p
  ·rw[show w.took.put (Z0i w).toNat r (address w.heap.C (Z0i w) (0:Int)).fst (↑(sizeH (decodeH (w.heap.W.getD ((r-(4096:Int)).toNat+Int.toNat (0:Int)) default)).fst).toNat:Int)=w from by exact absurd hc1p (by rw[dc];simp)];exact absurd hc1p (by rw[dc];simp)
  ·obtain⟨hc1pa,hc1pb⟩:=hc1p;let y0:=w.heap.W.getD ((r-4096).toNat+Int.toNat 0) default;let y1:=ofA w.heap.C r;let y2:=sizeH (decodeH y0).fst;let y3:=(0:Int)≤0∧Int.toNat 0<Int.toNat 1;exact borF [0,1,8002,3,8004,8005] [129165,130165,145177] Tryz.func85 [] (Fh 48 [.el (wdv y0)] (Fh 75 [.bor [0,1,8002,3,8004,8005] (Sx.bool (Z0B w y1.fst)) [],.br false] (Fh 143 [.el (wdv y0)] (Fh 160 [.br false] (FcG 27 (!r==0) (fun hg=>by(try simp only[bs]at hg);exact @Z0M w.Q r oq) (Ff 28 hc0 (Fc 35 (@Z0M w.old r oq) (Ffb 36 (!decide (r∈w.old)) (Fbq 40 [0,1,8002,3,8004,8005] (@Z2g w r (1) aa oq) (Fo y3 (Fa (by exact Z0v oq:(List.map wdv w.heap.W)[(r-4096).toNat+Int.toNat 0]? = some (wdv y0)) (Fc 49 (@Z1A y0 oq oq) (Fa ‹(Z0a y0).snd=false› (Fc 61 (@Z29 w.heap.C r oq oq) (Fl 71 Page.dv w.heap.P (Ffb 52 (decide ((↑w.heap.P.length:Int)≤y1.fst)) (Fa (@Z2y w (y1.fst) aa) (Fa ‹Z0B w y1.fst=false› (Fmq 89 Page.dv w.heap.P (y1.fst) (Ffb 72 ((w.heap.P.getD y1.fst.toNat default).K==2) (Fo y3 (Fa (by exact Z0v oq:(List.map wdv w.heap.W)[(r-4096).toNat+Int.toNat 0]? = some (wdv y0)) (Fc 144 (@Z0J y0 oq oq) (Fc 151 (@Z0L ((decodeH y0).fst) aa) (Fbq 152 [0,1,8002,3,8004,8005] (@Z2g w r y2 aa oq) (Ff 90 hc1 (Fg 164 (by assumption:(↑y2.toNat:Int)=sizeH (decodeH y0).fst) (Fbr 165 [0,1,8002,3,8004,8005] (@Zjq w y2 aa aa aa aa) (Fbr 177 [0,1,129165,3,130165,8005] (@ckTo w.took r (Z0i w) (0) (y2.toNat) aa oq oq aa oq oq aa oq) Fz)))))))))))))))))))))))))))))
end
theorem ZhL{c:Conf}{i o:Int}(hv:Z05 c=true)(h:0≤i∧i<c.pg∧0≤o∧o<c.pw):address c i o=(4096+(i*c.pw+o),0):=by
 unfold address;rw[if_pos hv,if_pos (inB_iff.2 h)]
theorem ZhG{w:Work}(k:MemOk w){i n o:Int}(hi:0≤i∧i<w.heap.P.length)(hn:1≤n)(ho:0≤o∧o+n≤w.heap.C.pw):(address w.heap.C i o).2=0∧(address w.heap.C i o).1=4096+i*w.heap.C.pw+o∧4096≤(address w.heap.C i o).1∧(address w.heap.C i o).1-4096+n≤w.heap.W.length:=by
 have pl:=k.pl;have L:=k.L;have cf:=validB_iff.1 k.C;have m:=Z21 (i:=i) (j:=w.heap.C.pg) (pw:=w.heap.C.pw) oq oq;rw[Int.mul_comm w.heap.C.pg]at m;have m0:0≤i*w.heap.C.pw:=Int.mul_nonneg hi.1 oq;rw[ZhL k.C oq];exact⟨rfl,by simp only;omega,by simp only;omega,by simp only;omega⟩
theorem Zks{w:Work}(k:CkOk w)(h:0≤Z0i w):MemOk w.took∧(w.took.heap.P.getD (Z0i w).toNat default).U=0:=by
 have sp:=k.ok.sp;obtain⟨f1,f2,f3,f4⟩:=Z2E (h:=⟨w.heap.C,w.heap.W,w.heap.P,1-w.heap.S,w.heap.B⟩) (by simp only;omega) h;have f2':(Z2e w).length=w.heap.P.length:=f2;have f4':(Z2e w).getD (Z0i w).toNat default=⟨1,1-w.heap.S,0,0⟩:=f4;refine⟨⟨k.ok.C,k.ok.wl, ?_,k.L⟩, ?_⟩
 ·show((Z2e w).length:Int)=_;rw[f2'];exact k.ok.pl
 ·show((Z2e w).getD (Z0i w).toNat default).U=0;rw[f4']
section
variable {w:Work} {r:Int} (f:FwOk w r)
include f
theorem Zn4(e:(w.fwd r).2.2=0):BP 85 [.pt 0 0 0,u64 r] w.ckp (.tu [u64 (w.fwd r).2.1,int 0]) (w.fwd r).1.ckq:=by
 unfold Work.fwd at e ⊢;by_cases c1:r=0∨r∈w.Q
 ·rw[if_pos c1];exact Z60 [0,1,6,3,7,8] 9 (Zpb w r f.rg f.ck.ln c1) (by rfl) rfl rfl
 rw[if_neg c1]at e ⊢;have c1':r≠0:=fun h=>c1 (Or.inl h);have c2:r∉w.Q:=fun h=>c1 (Or.inr h);by_cases c3:r∈w.old;rotate_left
 ·rw[if_pos c3]at e;cases e
 rw[if_neg (by simpa using c3)]at e ⊢;by_cases c4:(Z0a (loadA w.heap.W r).1).2=true
 ·rw[if_pos c4];exact Z60 [0,1,6,3,7,8] 9 (Zp3 w r f c1' c2 c3 c4) (by rfl) rfl rfl
 rw[if_neg c4]at e ⊢;have c4':(Z0a (loadA w.heap.W r).1).2=false:=by simpa using c4
 have h3:=f.ol c3;rw[if_neg (by rw[h3.2.2.1];simp)]at e ⊢;by_cases c6:Z0B w (ofA w.heap.C r).1=true
 ·rw[if_pos c6];exact Z60 [0,1,6,3,7,5,8] 9 (ZoZ w r f c1' c2 c3 c4' c6) (by rfl) rfl rfl
 rw[if_neg c6]at e ⊢;have c6':Z0B w (ofA w.heap.C r).1=false:=by simpa using c6
 by_cases c7:(w.heap.P.getD (Z1x w r) default).K=2
 ·rw[if_pos c7];exact Z60 [0,1,6,3,7,5,8] 9 (ZoK w r f c1' c2 c3 c4' c6' c7) (by rfl) rfl rfl
 rw[if_neg c7]at e ⊢;have sz:=Z39 w r;have hl:=Z4y w r;have en:(((sizeH (hdW w r)).toNat:Nat):Int)=sizeH (hdW w r):=Int.toNat_of_nonneg oq;have hpw:sizeH (hdW w r)≤w.heap.C.pw:=by
  rcases f.sz c3 with q | q
  ·exact absurd q c7
  ·omega
 have ok:=f.ck.ok;by_cases hf:Z3f w (sizeH (hdW w r))
 ·have ep:w.place (sizeH (hdW w r))=(⟨⟨w.heap.C,w.heap.W,Z2b w.heap.P (Z0w w).toNat (sizeH (hdW w r)),w.heap.S,w.heap.B⟩,w.old,w.T,w.Q,w.D,w.rep⟩,4096+Z0w w*w.heap.C.pw+(w.heap.P.getD (Z0w w).toNat default).U,true):=by rw[Work.place,if_pos hf]
  rw[ep];rw[if_neg pq];have hm:=ok.tk _ (Z1C hf.1);have hu:=ok.us (Z0w w).toNat oq
  have ri:=ZhG f.ck.mem (i:=Z0w w) (n:=sizeH (hdW w r)) (o:=(w.heap.P.getD (Z0w w).toNat default).U) ⟨hm.1,hm.2.1⟩ sz.1 ⟨hu.1,hf.2⟩;have b:=Zpf w r f c1' c2 c3 c4' c6' c7 hf ri.1 ri.2.2;rw[en,ri.2.1]at b;exact Z60 [0,1,6,3,7,5,8] 9 b (by rfl) rfl rfl
 ·by_cases hg:0≤Z0i w
  ·have ep:w.place (sizeH (hdW w r))=(⟨⟨w.heap.C,w.heap.W,Z2b (Z2e w) (Z0i w).toNat (sizeH (hdW w r)),w.heap.S,w.heap.B⟩,w.old,w.T++[Z0i w],w.Q,w.D,w.rep⟩,4096+Z0i w*w.heap.C.pw,true):=by rw[Work.place,if_neg hf,if_pos hg]
   rw[ep];rw[if_neg pq];obtain⟨t1,t2⟩:=Zks f.ck hg;have ff:=Z1u hg;have ri:=ZhG f.ck.mem (i:=Z0i w) (n:=sizeH (hdW w r)) (o:=0) ⟨hg,by unfold Z0i;omega⟩ sz.1 ⟨Int.le_refl _,by omega⟩;have b:=ZoF w r f c1' c2 c3 c4' c6' c7 t1 oq hf hg ri.1 ri.2.2;rw[en,ri.2.1,Int.add_zero]at b;exact b
  ·rw[Work.place,if_neg hf,if_neg hg]at e;simp at e
theorem Zln(e:¬ (w.fwd r).2.2=0):BP 85 [.pt 0 0 0,u64 r] w.ckp (.tu [u64 0,int (w.fwd r).2.2]) w.ckp:=by
 unfold Work.fwd at e ⊢;by_cases c1:r=0∨r∈w.Q
 ·rw[if_pos c1]at e;exact absurd rfl e
 rw[if_neg c1]at e ⊢;have c1':r≠0:=fun h=>c1 (Or.inl h);have c2:r∉w.Q:=fun h=>c1 (Or.inr h);by_cases c3:r∈w.old;rotate_left
 ·rw[if_pos c3];exact Zpp w r f.rg f.ck.ln c1' c2 c3
 rw[if_neg (by simpa using c3)]at e ⊢;by_cases c4:(Z0a (loadA w.heap.W r).1).2=true
 ·rw[if_pos c4]at e;exact absurd rfl e
 rw[if_neg c4]at e ⊢;have c4':(Z0a (loadA w.heap.W r).1).2=false:=by simpa using c4
 have h3:=f.ol c3;rw[if_neg (by rw[h3.2.2.1];simp)]at e ⊢;by_cases c6:Z0B w (ofA w.heap.C r).1=true
 ·rw[if_pos c6]at e;exact absurd rfl e
 rw[if_neg c6]at e ⊢;have c6':Z0B w (ofA w.heap.C r).1=false:=by simpa using c6
 by_cases c7:(w.heap.P.getD (Z1x w r) default).K=2
 ·rw[if_pos c7]at e;exact absurd rfl e
 rw[if_neg c7]at e ⊢;by_cases c8:(w.place (sizeH (hdW w r))).2.2=false
 ·rw[if_pos c8];by_cases hf:Z3f w (sizeH (hdW w r))
  ·rw[Work.place,if_pos hf]at c8;simp at c8
  ·by_cases hg:0≤Z0i w
   ·rw[Work.place,if_neg hf,if_pos hg]at c8;simp at c8
   ·exact Zp0 w r f c1' c2 c3 c4' c6' c7 hf hg
 ·rw[if_neg c8]at e;exact absurd rfl e
end
theorem Zjz{w:Work}{r:Int}(e:¬ (w.fwd r).2.2=0):(w.fwd r).1=noWork∧(w.fwd r).2.1=0:=by
 unfold Work.fwd at e ⊢;repeat' split at e
 all_goals first | (exact absurd rfl e) | skip
 all_goals (repeat' (first | rw[if_pos aa] | rw[if_neg aa]))
 all_goals exact⟨rfl,rfl⟩
theorem Zmz(w:Work)(hw:LnOk w):BP 84 [w.av] [] (.pt 0 0 0) w.ckp:=by
 obtain⟨h1,h2,h3,h4,h5⟩:=hw;exact borF [] [16001,25006,25010,33017,33020,33023] Tryz.func84 [] (Fc 6 (@Z4a w.heap.W aa) (Fc 10 (@Zew w.heap.P aa) (Fc 17 (@Z4a w.old aa) (Fc 20 (@Zhi w.T aa) (Fc 23 (@Z4a w.Q aa) Fz)))))
def Work.ckD(w:Work):Blk:=.box 140 w.cells
theorem Zkr(w:Work)(hs:w.heap.S=0∨w.heap.S=1):BP 140 [.pt 0 0 0] [w.ckD] (int (1-w.heap.S)) [w.ckD]:=by
 exact borF [0] [] Tryz.func140 [] (Fi 8 (1-w.heap.S) Fz)
structure PrOk (w:Work):Prop where
 tl:w.T.length≤1000000
 pl:w.heap.P.length≤1000000
 sp:w.heap.S=0∨w.heap.S=1
 so:SpOk w.heap.P
theorem Zex(w:Work)(i:Int)(hw:PrOk w):BP 89 [.pt 0 0 0,int i] [w.ckD] (bool (Z0B w i)) [w.ckD]:=by
 have pl:=hw.pl;have tl:=hw.tl;have sp:=hw.sp;have so:=fun h=>hw.so.at (i:=i.toNat) h;rcases bb (decide (i<0)||decide ((↑w.heap.P.length:Int)≤i))with hc0 | hc0<;>have hc0p:=hc0<;>simp only[bs]at hc0p
 ·exact borF [0] [] Tryz.func89 (fO 8) (FlG 15 (!decide (i<0)) Page.dv w.heap.P (Ft 17 hc0 (Fa (by(simp[Z0B, *];omega):false=Z0B w i) Fz)))
 ·obtain⟨hc0pa,hc0pb⟩:=hc0p;have Q0 {h_ c_ p_} (r_:Fq h_ c_ p_):=FlG 15 (!decide (i<0)) Page.dv w.heap.P (Ff 17 hc0 (Fe 24 Page.dv w.heap.P i r_));rcases bb ((w.heap.P.getD i.toNat default).K==1)with hc1 | hc1<;>have hc1p:=hc1<;>simp only[bs]at hc1p
  ·exact borF [0] [] Tryz.func89 (fO 19) (Fh 28 [.br true] (Q0 (Fa hc1 (Fbq 33 [0] (@Zkr w aa) (FcG 42 (true&&(w.heap.P.getD i.toNat default).S==1-w.heap.S) (fun hg=>by(try simp only[bs]at hg);exact @Z6a w.T i oq) (Fa (by grind[Z0B]:((w.heap.P.getD i.toNat default).S==1-w.heap.S&&!decide (i∈w.T))=Z0B w i) Fz))))))
  ·exact borF [0] [] Tryz.func89 (fO 19) (Fh 28 [.br false] (Fh 33 [.bor [0] (int (1-w.heap.S)) []] (Q0 (Fa hc1 (FcG 42 (false&&(w.heap.P.getD i.toNat default).S==1-w.heap.S) (fun hg=>by(try simp only[bs]at hg);exact @Z6a w.T i oq) (Fa (by(simp only[Z0B] ;exact sj):false=Z0B w i) Fz))))))
theorem Z9R(w:Work)(i:Int)(hw:PrOk w):GP 43 [w.av,int i] true (bool (Z0B w i)) []:=by
 have sp:=hw.sp;have so:=fun h=>hw.so.at (i:=i.toNat) h;exact gF [] Tryz.func43 [] (Fbq 8 [16005] (@Zex w i aa) Fz)
theorem ZdV(w:Work)(r:Int)(f:FwOk w r)(e:(w.fwd r).2.2=0):GP 36 [w.av,u64 r] true (.tu [(w.fwd r).1.av,u64 (w.fwd r).2.1,int 0]) []:=by
 have hk:=f.ck.ln;exact gF [] Tryz.func36 [] (Fbr 10 [] (@Zmz w aa) (Fbr 16 [17010,18010,19010,20010,21010,22010] (@Zn4 w r aa aa) (Fa (by exact Z2o _:Z0O (List.map wdv (w.fwd r).fst.heap.W)) (Fa (by exact Z2x _:Z0O (List.map Page.dv (w.fwd r).fst.heap.P)) (Fa (by exact Z2o _:Z0O (List.map wdv (w.fwd r).fst.old)) (Fa (by exact Z65 _:Z0O (List.map idv (w.fwd r).fst.T)) (Fa (by exact Z2o _:Z0O (List.map wdv (w.fwd r).fst.Q)) Fz)))))))
theorem Zdp(w:Work)(r:Int)(f:FwOk w r)(e:¬ (w.fwd r).2.2=0):GP 36 [w.av,u64 r] true (.tu [noWork.av,u64 0,int (w.fwd r).2.2]) []:=by
 have hk:=f.ck.ln;exact gF [] Tryz.func36 [] (Fbr 10 [] (@Zmz w aa) (Fbq 16 [17010,18010,19010,20010,21010,22010] (@Zln w r aa aa) (Ftb 21 ((w.fwd r).snd.snd != 0) (Fnl (Fnl (Fnl (Fnl (Fnl Fz))))))))
theorem ZcW(w:Work)(r:Int)(f:FwOk w r):GP 36 [w.av,u64 r] true (.tu [(w.fwd r).1.av,u64 (w.fwd r).2.1,int (w.fwd r).2.2]) []:=by
 by_cases e:(w.fwd r).2.2=0
 ·have:=ZdV w r f e;rw[e];exact this
 ·have:=Zdp w r f e;rw[(Zjz e).1,(Zjz e).2];exact this
def Zmo(a:List Int)(i:Nat):Tg:=⟨tm 26 [(0,Z0l a),(1,Z0l a),(4,bool false),(5,int i)],[],60⟩
theorem ZhU(a:List Int)(i:Nat)(ha:a.length≤1048576)(hi:i<a.length):CP (rndF Tryz.f73 0) (Zmo a i).st .nrm (Zmo a (i+1)).st:=by
 exact sF [] [] (FN 13 14 19 idv a i (Fek 23 idv a (↑i) i (Ffs 25 (a.getD i default != a.getD i default) (Fx 16 i Fz))))
theorem Zoc(a:List Int):CP (rndF Tryz.f73 0) (Zmo a a.length).st (.ext 0) (Tg.st ⟨tm 26 [],[],60⟩):=by
 exact sF [] [] (FO 13 14 idv a Fz)
def ZkS(a:List Int)(ha:a.length≤1048576)  := Z07 (S:=fun i=>(Zmo a i).st) a.length (by kernel_rfl) (fun i hi=>ZhU a i ha hi) (Zoc a)
theorem Zbh(a:List Int)(ha:a.length≤1048576):GP 73 [Z0l a,Z0l a] true (bool true) []:=by
 exact gF [] Tryz.func73 [] (Fl 7 idv a (Fl 9 idv a (Ffs 10 ((↑a.length:Int) != (↑a.length:Int)) (Fu (@ZkS a aa) Fz))))
theorem ZcG(w:Work)(h1:w.heap.W.length≤1048576)(h2:w.heap.P.length≤1048576)(h3:w.old.length≤1048576)(h4:w.T.length≤1048576)(h5:w.Q.length≤1048576):GP 42 [w.av,w.av] true (bool true) []:=by
 exact gF [] Tryz.func42 (fO 25) (Fc 9 (@ZnH w.heap w.heap oq oq) (FcG 15 (decide (w.heap=w.heap)) (fun hg=>by(try simp only[bs]at hg);exact @Zce w.old aa) (FcG 22 (decide (w.heap=w.heap)&&true) (fun hg=>by(try simp only[bs]at hg);exact @Zbh w.T aa) (FcG 29 (decide (w.heap=w.heap)&&true&&true) (fun hg=>by(try simp only[bs]at hg);exact @Zce w.Q aa) (Fbs ((decide (w.heap=w.heap)&&true&&true&&true&&w.D==w.D&&(w.rep.copied==w.rep.copied&&(w.rep.kept==w.rep.kept&&(w.rep.filled==w.rep.filled&&(w.rep.freed==w.rep.freed&&(w.rep.cleared==w.rep.cleared&&w.rep.steps==w.rep.steps))))))=true) Fz)))))
end Go.Proofs.YtdhchmlalchgeaaGreat
