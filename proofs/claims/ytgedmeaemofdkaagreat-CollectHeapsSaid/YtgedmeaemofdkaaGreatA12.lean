/-
 The statement CollectHeaps: part 12.
 Conditions: none.
-/
import Derived.Test.YtgedmeaemofdkaaGreatA11
set_option maxRecDepth 100000
set_option maxHeartbeats 2000000
set_option linter.all false
open Inhabited renaming default->X
open List renaming map->Y,drop->Lb,take->Lc,length_map->Lf,getD_eq_getElem?_getD->Lg,map_set->Li,ext_getElem->Lk,getElem?_eq_getElem->Ll,getElem_map->Lm,replicate->Ln,getElem?_eq_none->Lr,getElem?_map->Ls,getElem_range->Lt,getElem_set->Lu,length_set->Lv
open Decidable renaming decide->Z
open Int renaming toNat->M,toNat_of_nonneg->Lj,mul_comm->Lp,mul_nonneg->Lq
open Bool renaming false->O,true->La
open Option renaming some->Ld,map_eq_some_iff->Lo
open Go.IntKind renaming i64->Le
open Nat renaming beq->Lh,eq_of_beq_eq_true->Lw
open Go.Proofs.Tryz
namespace Go.Proofs.YtgedmeaemofdkaaGreat
open Go.Sx
def Z7.ckc(w:Z7)(a b c d e:Nat):List AV:=[nI w.j.C.pw,nI w.j.C.pg,.ow a,.ow b,nI w.j.S,nI w.j.B,.ow c,.ow d,.ow e,nI w.D,nI w.rep.copied,nI w.rep.kept,nI w.rep.filled,nI w.rep.freed,nI w.rep.cleared,nI w.rep.steps]
def Z7.ckB(w:Z7)(a b c d e:Nat):Z4:=.box 177 (w.ckc a b c d e)
def Bd(l:List Int):Z4:=.arr 35 1 (l.map wD)
def EK(l:List Int):Z4:=.arr 3 1 (l.map iD)
def EE(l:List Z0):Z4:=.arr 86 4 (l.map Z0.dv)
def Z7.ckp(w:Z7):List Z4:=[w.ckB 1 2 3 4 5,Bd w.j.W,EE w.j.P,Bd w.old,EK w.T,Bd w.Q]
def Z7.ckq(w:Z7):List Z4:=[w.ckB 1 6 3 7 8,Bd w.j.W,.dead,Bd w.old,.dead,.dead,EE w.j.P,EK w.T,Bd w.Q]
def Z7.ckr(w:Z7):List Z4:=[w.ckB 1 2 3 4 6,Bd w.j.W,EE w.j.P,Bd w.old,EK w.T,.dead,Bd w.Q]
def Z7.cks(w:Z7):List Z4:=[w.ckB 1 6 3 7 5,Bd w.j.W,.dead,Bd w.old,.dead,Bd w.Q,EE w.j.P,EK w.T]
structure R4 (w:Z7):Prop where
 wl:w.j.W.length<=1048576
 pl:w.j.P.length<=1048576
 ol:w.old.length<=1048576
 tl:w.T.length<=1048576
 ql:w.Q.length<=1048576
def HV.ln{w}(k:HV w):R4 w:=by have h1:=k.ok.mu;have h2:=k.ok.ol;have h3:=k.ok.wl;have h4:=k.ok.pl;have h5:=BF.1 k.ok.C;have h6:=k.ok.tl;exact⟨by omega,by omega,by omega,by omega,by omega⟩
def ZbG{c:B2}{a:Int}(b:Zq c=La)(h:4096<=a/\a-4096<c.pw*c.pg):(Z3 c a).2.2=0/\(Z3 c a).1*c.pw+(Z3 c a).2.1=a-4096/\0<=(Z3 c a).1*c.pw/\(Z3 c a).1*c.pw<=a-4096/\0<=(Z3 c a).2.1:=by
 have cf:=BF.1 b;have e:(Z3 c a).2.2=0:=by(unfold Z3;rw[if_pos b,if_pos oq])
 have o:=GX b e;have:=Lq o.1 (show 0<=c.pw by omega);omega
structure Di (w:Z7):Prop where
 C:Zq w.j.C=La
 wl:w.j.W.length<=4096
 pl:(w.j.P.length:Int)=w.j.C.pg
 L:(w.j.W.length:Int)=w.j.C.pw*w.j.C.pg
def HV.mem{w}(k:HV w):Di w:=⟨k.ok.C,k.ok.wl,k.ok.pl,k.L⟩
def GK(pw pg sp f sc r1 r2 r3 g h i:Int)(a b c d e:Nat):Z4:=.box 177 [nI pw,nI pg,.ow a,.ow b,nI sp,nI f,.ow c,.ow d,.ow e,nI sc,nI r1,nI r2,nI r3,nI g,nI h,nI i]
def MG(pw pg sp a sc r1 r2 r3 c d e:Int) ws ol q f b(hs:sp=0\/sp=1):BP 180 [.pt 0 0 0] [GK pw pg sp a sc r1 r2 r3 c d e 1 2 3 4 5,Bd ws,EE b,Bd ol,EK f,Bd q] (nI (1-sp)) [GK pw pg sp a sc r1 r2 r3 c d e 1 2 3 4 5,Bd ws,EE b,Bd ol,EK f,Bd q]:=by exact borF [0,1,2,3,4,5] [] func180 []<|Fi 8 (1-sp) Fz
def Sv w i(g:HV w):BP 178 [.pt 0 0 0,nI i] w.ckp (bL (ZJ w i)) w.ckp:=by have k:=g.ok;have mu:=k.mu;have pl:=k.pl;have cf:=BF.1 k.C;have tl:=k.tl;have sp:=k.sp;have so:=λh=>g.so.at (i:=i.toNat) h;rcases bb (Z (i<0)||Z ((w.j.P.length:Int)<=i))with hc0|hc0<;>have a:=hc0<;>simp only[bs]at a;exact borF [0,1,2,3,4,5] [] func178 (fO 8)<|FlG 15 (!decide (i<0)) Z0.dv w.j.P<|Ft 17 hc0<|Fa (by(simp[ZJ, *];omega):O=ZJ w i) Fz;obtain⟨c,d⟩:=a;have f {h_ c_ p_} (j:Fq h_ c_ p_):=FlG 15 (!decide (i<0)) Z0.dv w.j.P<|Ff 17 hc0<|Fmq 25 Z0.dv w.j.P i j;rcases bb ((w.j.P.getD i.toNat X).K==1)with hc1|hc1<;>have b:=hc1<;>simp only[bs]at b;exact borF [0,1,2,3,4,5] [] func178 (fO 19)<|Fh 28 [.br La] (f (Fa hc1<|Fbq 33 [0,1,2,3,4,5] (@MG w.j.C.pw w.j.C.pg w.j.S w.j.B w.D w.rep.copied w.rep.kept w.rep.filled w.rep.freed w.rep.cleared w.rep.steps w.j.W w.old w.Q w.T w.j.P aa)<|FcG 42 (La&&(w.j.P.getD i.toNat X).S==1-w.j.S) (λe=>by(try simp only[bs]at e);exact@Z0o w.T i oq)<|Fa (by grind[ZJ]:((w.j.P.getD i.toNat X).S==1-w.j.S&&!decide (i∈w.T))=ZJ w i) Fz));exact borF [0,1,2,3,4,5] [] func178 (fO 19)<|Fh 28 [.br O]<|Fh 33 [.bor [0,1,2,3,4,5] (nI (1-w.j.S)) []] (f (Fa hc1<|FcG 42 (O&&(w.j.P.getD i.toNat X).S==1-w.j.S) (λe=>by(try simp only[bs]at e);exact@Z0o w.T i oq)<|Fa (by(simp only[ZJ] ;exact sj):O=ZJ w i) Fz))
def GL w(a n:Int)(b:Di w)(h:4096<=a/\1<=n/\a-4096+n<=w.j.W.length):BP 176 [.pt 0 0 0,uU a,nI n] w.ckp (.tu [.os 1 (a-4096).toNat n.toNat,bL La]) w.ckp:=by
 have wl:=b.wl;have pl:=b.pl;have cf:=BF.1 b.C;have L:=b.L;have g:=b.C;have o:=ZbG (c:=w.j.C) (a:=a) g oq;have f:(Z3 w.j.C a).2.2=0:=o.1;have q:=o.2.1;have r1:=o.2.2;have d:Le.wrap ((Z3 w.j.C a).1*w.j.C.pw)=(Z3 w.j.C a).1*w.j.C.pw:=CR oq oq;have e:Le.wrap ((Z3 w.j.C a).1*w.j.C.pw+(Z3 w.j.C a).2.1)=a-4096:=by rw[q];exact CR oq oq
 exact borF [0,1,2,3,4,5] [] func176 (fO 10)<|Fc 19 (@Gb w.j.C a oq oq)<|Fi 30 ((Z3 w.j.C a).1*w.j.C.pw)<|Fi 32 ((Z3 w.j.C a).1*w.j.C.pw+(Z3 w.j.C a).2.1)<|FlG 42 (!(Z3 w.j.C a).2.2 != 0) wD w.j.W<|FiG 44 (!(Z3 w.j.C a).2.2 != 0) ((w.j.W.length:Int)-((Z3 w.j.C a).1*w.j.C.pw+(Z3 w.j.C a).2.1))<|Ffb 46 ((Z3 w.j.C a).2.2 != 0||Z ((w.j.W.length:Int)-((Z3 w.j.C a).1*w.j.C.pw+(Z3 w.j.C a).2.1)<n))<|Fi 55 ((Z3 w.j.C a).1*w.j.C.pw+(Z3 w.j.C a).2.1+n)<|Fa (by(simp only[Lf];omega):0<=(Z3 w.j.C a).1*w.j.C.pw+(Z3 w.j.C a).2.1/\(Z3 w.j.C a).1*w.j.C.pw+(Z3 w.j.C a).2.1<=(Z3 w.j.C a).1*w.j.C.pw+(Z3 w.j.C a).2.1+n/\(Z3 w.j.C a).1*w.j.C.pw+(Z3 w.j.C a).2.1+n<=(↑(Y wD w.j.W).length:Int))<|Fa (by(simp[f, *];omega):AV.os 1 ((Z3 w.j.C a).1*w.j.C.pw+(Z3 w.j.C a).2.1).toNat (((Z3 w.j.C a).1*w.j.C.pw+(Z3 w.j.C a).2.1+n).toNat-((Z3 w.j.C a).1*w.j.C.pw+(Z3 w.j.C a).2.1).toNat)=AV.os 1 (a-4096).toNat n.toNat)<|Ftt Fz
def Z7p(pw pg sp a sc r1 r2 r3 c d e r:Int)(ws ol q f:List Int) b(hq:q.length<=1000000)(hr:0<=r2/\r2<=1000000):BP 179 [.pt 0 0 0,uU r] [GK pw pg sp a sc r1 r2 r3 c d e 1 2 3 4 5,Bd ws,EE b,Bd ol,EK f,Bd q] (.tu [uU r,nI 0]) [GK pw pg sp a sc r1 (r2+1) r3 c d e 1 2 3 4 6,Bd ws,EE b,Bd ol,EK f,.dead,Bd (q++[r])]:=by have g:Le.wrap (r2+1)=r2+1:=CR oq oq;exact borF [0,1,2,3,4,8005] [24013] func179 []<|Fh 13 [.els (Y wD (q++[r]))]<|Fs 12 (Y wD [r])<|Fa (by(simp[*];omega):(Y wD q).length+(Y wD [r]).length<=2^30)<|Fa (ms:Y wD q++Y wD [r]=Y wD (q++[r]))<|Fi 21 (r2+1) Fz
def Zan w(n:Int)(j:HV w)(hn:1<=n/\n<=256)(h:E6 w n):BP 181 [.pt 0 0 0,nI n] w.ckp (.tu [nI (ZG w),nI (w.j.P.getD (ZG w).toNat X).U,nI 0]) w.ckp:=by
 have k:=j.ok;have mu:=k.mu;have pl:=k.pl;have cf:=BF.1 k.C;have tl:=k.tl;have hm:=k.tk _ (GT h.1);have i:=k.us (ZG w).toNat oq;have g:=h;unfold E6 at g;have e:Le.wrap ((w.T.length:Int)-1)=(w.T.length:Int)-1:=CR oq oq;have f:Le.wrap (w.j.C.pw-(w.j.P.getD (w.T.getD ((w.T.length:Int)-1).toNat X).toNat X).U)=w.j.C.pw-(w.j.P.getD (w.T.getD ((w.T.length:Int)-1).toNat X).toNat X).U:=by(unfold ZG at i;exact CR oq oq)
 unfold ZG at *;let a:=(w.T.length:Int)-1;let d:=w.j.P.getD (w.T.getD a.toNat X).toNat X;let b:=0<(w.T.length:Int);let c:=decide b&&Z (0<=w.T.getD a.toNat X);exact borF [0,1,2,3,4,5] [] func181 []<|Fl 17 iD w.T<|FiG 26 (decide b) a<|FmGq 28 (decide b) iD w.T a<|FiG 37 c a<|FmGq 39 c iD w.T a<|FlG 45 c Z0.dv w.j.P<|Ftb 47 (decide b&&Z (0<=w.T.getD a.toNat X)&&Z (w.T.getD a.toNat X<(w.j.P.length:Int)))<|Fi 53 a<|Fmq 55 iD w.T a<|Fmq 64 Z0.dv w.j.P (w.T.getD a.toNat X)<|Fi 73 (w.j.C.pw-d.U)<|Ftb 74 (Z (n<=w.j.C.pw-d.U)) Fz
def Zdj w(n:Int)(j:HV w)(hn:1<=n/\n<=256)(h:¬ E6 w n)(g:¬ 0<=ZP w):BP 181 [.pt 0 0 0,nI n] w.ckp (.tu [nI 0,nI 0,nI 3]) w.ckp:=by have k:=j.ok;have mu:=k.mu;have pl:=k.pl;have cf:=BF.1 k.C;have tl:=k.tl;have i:=λq=>k.us (ZG w).toNat q;unfold E6 at h;unfold ZG at h i;unfold ZP at g;have f:0<w.T.length->Le.wrap ((w.T.length:Int)-1)=(w.T.length:Int)-1:=λ_=>CR oq oq;have e {h_ c_ p_} (l:Fq h_ c_ p_):=Fl 17 iD w.T<|FiG 26 (Z (0<(w.T.length:Int))) ((w.T.length:Int)-1)<|FmGq 28 (Z (0<(w.T.length:Int))) iD w.T ((w.T.length:Int)-1)<|FiG 37 (Z (0<(w.T.length:Int))&&Z (0<=w.T.getD ((w.T.length:Int)-1).toNat X)) ((w.T.length:Int)-1)<|FmGq 39 (Z (0<(w.T.length:Int))&&Z (0<=w.T.getD ((w.T.length:Int)-1).toNat X)) iD w.T ((w.T.length:Int)-1)<|FlG 45 (Z (0<(w.T.length:Int))&&Z (0<=w.T.getD ((w.T.length:Int)-1).toNat X)) Z0.dv w.j.P l;rcases bb (Z (0<(w.T.length:Int))&&Z (0<=w.T.getD ((w.T.length:Int)-1).toNat X)&&Z (w.T.getD ((w.T.length:Int)-1).toNat X<(w.j.P.length:Int)))with hc0|hc0<;>have a:=hc0<;>simp only[bs]at a;obtain⟨⟨b,c⟩,d⟩:=a;exact borF [0,1,2,3,4,5] [] func181 [] (e (Ft 47 hc0<|Fi 53 ((w.T.length:Int)-1)<|Fmq 55 iD w.T ((w.T.length:Int)-1)<|Fmq 64 Z0.dv w.j.P (w.T.getD ((w.T.length:Int)-1).toNat X)<|Fi 73 (w.j.C.pw-(w.j.P.getD (w.T.getD ((w.T.length:Int)-1).toNat X).toNat X).U)<|Ffb 74 (Z (n<=w.j.C.pw-(w.j.P.getD (w.T.getD ((w.T.length:Int)-1).toNat X).toNat X).U))<|Fc 82 (@Z05 w.j.P (1) oq)<|Ftb 84 (Z (first w.j.P (1:Int)<0)) Fz));exact borF [0,1,2,3,4,5] [] func181 [] (e (Ff 47 hc0<|Fc 82 (@Z05 w.j.P (1) oq)<|Ftb 84 (Z (first w.j.P (1:Int)<0)) Fz))
def Z7.took(w:Z7):Z7:=⟨⟨w.j.C,w.j.W,ES w,w.j.S,w.j.B⟩,w.old,w.T++[ZP w],w.Q,w.D,w.rep⟩
def ZcW w(n:Int)(m:HV w)(hn:1<=n/\n<=256)(h:¬ E6 w n)(g:0<=ZP w):BP 181 [.pt 0 0 0,nI n] w.ckp (.tu [nI (ZP w),nI 0,nI 0]) w.took.cks:=by have k:=m.ok;have mu:=k.mu;have pl:=k.pl;have cf:=BF.1 k.C;have tl:=k.tl;have sp:=k.sp;have l:=λq=>k.us (ZG w).toNat q;unfold E6 at h;unfold ZG at h l;obtain⟨j,f2,f3,f4⟩:=RB (h:=⟨w.j.C,w.j.W,w.j.P,1-w.j.S,w.j.B⟩) (by simp only;omega) g;have d:ES w=ZQ w.j.P (ZP w).toNat 1 ⟨1,1-w.j.S,0,0⟩ ⟨0,0,0,0⟩:=j;have ff:=Ik g;have i:0<w.T.length->Le.wrap ((w.T.length:Int)-1)=(w.T.length:Int)-1:=λ_=>CR oq oq;unfold Z7.took;rw[d];unfold ZP at *;have f {h_ c_ p_} (o:Fq h_ c_ p_):=Fl 17 iD w.T<|FiG 26 (Z (0<(w.T.length:Int))) ((w.T.length:Int)-1)<|FmGq 28 (Z (0<(w.T.length:Int))) iD w.T ((w.T.length:Int)-1)<|FiG 37 (Z (0<(w.T.length:Int))&&Z (0<=w.T.getD ((w.T.length:Int)-1).toNat X)) ((w.T.length:Int)-1)<|FmGq 39 (Z (0<(w.T.length:Int))&&Z (0<=w.T.getD ((w.T.length:Int)-1).toNat X)) iD w.T ((w.T.length:Int)-1)<|FlG 45 (Z (0<(w.T.length:Int))&&Z (0<=w.T.getD ((w.T.length:Int)-1).toNat X)) Z0.dv w.j.P o;rcases bb (Z (0<(w.T.length:Int))&&Z (0<=w.T.getD ((w.T.length:Int)-1).toNat X)&&Z (w.T.getD ((w.T.length:Int)-1).toNat X<(w.j.P.length:Int)))with hc0|hc0<;>have a:=hc0<;>simp only[bs]at a;obtain⟨⟨b,c⟩,e⟩:=a;exact borF [0,1,8002,3,8004,5] [81094,96109] func181 []<|Fh 109 [.els (Y iD (w.T++[first w.j.P 1]))] (f (Ft 47 hc0<|Fi 53 ((w.T.length:Int)-1)<|Fmq 55 iD w.T ((w.T.length:Int)-1)<|Fmq 64 Z0.dv w.j.P (w.T.getD ((w.T.length:Int)-1).toNat X)<|Fi 73 (w.j.C.pw-(w.j.P.getD (w.T.getD ((w.T.length:Int)-1).toNat X).toNat X).U)<|Ffb 74 (Z (n<=w.j.C.pw-(w.j.P.getD (w.T.getD ((w.T.length:Int)-1).toNat X).toNat X).U))<|Fc 82 (@Z05 w.j.P (1) oq)<|Ffb 84 (Z (first w.j.P (1:Int)<0))<|Fbq 93 [0,1,8002,3,8004,5] (@MG w.j.C.pw w.j.C.pg w.j.S w.j.B w.D w.rep.copied w.rep.kept w.rep.filled w.rep.freed w.rep.cleared w.rep.steps w.j.W w.old w.Q w.T w.j.P aa)<|Fc 94 (@Z7B w.j.P (first w.j.P 1) (1-w.j.S) oq oq oq (by grind[]))<|Fs 108 (Y iD [first w.j.P 1])<|Fa (by(simp[*];omega):(Y iD w.T).length+(Y iD [first w.j.P 1]).length<=2^30)<|Fa (ms:Y iD w.T++Y iD [first w.j.P 1]=Y iD (w.T++[first w.j.P 1])) Fz));exact borF [0,1,8002,3,8004,5] [57094,72109] func181 []<|Fh 109 [.els (Y iD (w.T++[first w.j.P 1]))] (f (Ff 47 hc0<|Fc 82 (@Z05 w.j.P (1) oq)<|Ffb 84 (Z (first w.j.P (1:Int)<0))<|Fbq 93 [0,1,8002,3,8004,5] (@MG w.j.C.pw w.j.C.pg w.j.S w.j.B w.D w.rep.copied w.rep.kept w.rep.filled w.rep.freed w.rep.cleared w.rep.steps w.j.W w.old w.Q w.T w.j.P aa)<|Fc 94 (@Z7B w.j.P (first w.j.P 1) (1-w.j.S) oq oq oq (by grind[]))<|Fs 108 (Y iD [first w.j.P 1])<|Fa (by(simp[*];omega):(Y iD w.T).length+(Y iD [first w.j.P 1]).length<=2^30)<|Fa (ms:Y iD w.T++Y iD [first w.j.P 1]=Y iD (w.T++[first w.j.P 1])) Fz))
def Z7.put(w:Z7)(i:Nat)(r a n:Int):Z7:=⟨⟨w.j.C,(BY (moveA w.j.W a r n).1 r (4*a+2)).1,Cv w.j.P i n,w.j.S,w.j.B⟩,w.old,w.T,w.Q++[a],w.D,⟨w.rep.copied+1,w.rep.kept,w.rep.filled,w.rep.freed,w.rep.cleared,w.rep.steps⟩⟩
def Z4K{ws:List Int}{i:Nat}{v:Int}(h:i<ws.length):C6 ws i [v]=ws.set i v:=by rw[List.set_eq_take_append_cons_drop,if_pos h,C6];simp
def ZcO{ws:List Int}{a r:Int}{n:Nat}(hn:1<=n)(ha:4096<=a/\a-4096+n<=ws.length)(d:4096<=r/\r-4096+n<=ws.length) :(ws.take (a-4096).toNat++(ws.drop (r-4096).toNat).take n++ws.drop ((a-4096).toNat+((ws.drop (r-4096).toNat).take n).length)).set (r-4096).toNat (4*a+2)=(BY (moveA ws a r n).1 r (4*a+2)).1:=by
 have b:BU ws r n=((ws.drop (r-4096).toNat).take n,0):=by rw[BU,if_neg oq,if_pos d];rfl
 have hl:((ws.drop (r-4096).toNat).take n).length=n:=by simp;omega
 have c:(moveA ws a r n).1=C6 ws (a-4096).toNat ((ws.drop (r-4096).toNat).take n):=by(rw[moveA,b];simp only[if_neg (show¬ (0:Int)≠0 by simp)];rw[ZU,if_pos oq])
 rw[c];have hL:=Nf (ws:=ws) (l:=(ws.drop (r-4096).toNat).take n) (i:=(a-4096).toNat) oq;rw[BY,ZU,if_pos (by simp only[List.length_singleton];omega),Z4K oq];rfl
section
variable(w:Z7)(r i off:Int)(n:Nat)(e:Di w)(hq:w.Q.length<=1000000)(rk:0<=w.rep.copied/\w.rep.copied<=1000000)(hu:0<=(w.j.P.getD i.toNat X).U/\(w.j.P.getD i.toNat X).U<=1024)(d:4096<=r/\1<=n/\r-4096+n<=w.j.W.length)(hi:0<=i/\i<w.j.P.length)(b:(address w.j.C i off).2=0)(c:4096<=(address w.j.C i off).1/\(address w.j.C i off).1-4096+n<=w.j.W.length)
include e hq rk hu d hi b c
theorem Z5T:BP 182 [.ag [.pt 0 0 0,.os 1 (r-4096).toNat n],nI i,nI off] w.ckp (.tu [uU (address w.j.C i off).1,nI 0]) (w.put i.toNat r (address w.j.C i off).1 n).ckr:=by have wl:=e.wl;have pl:=e.pl;have h:=ZcO (ws:=w.j.W) (a:=(address w.j.C i off).1) (r:=r) (n:=n) d.2.1 c oq;have j:Y wD ((w.j.W.take ((address w.j.C i off).1-4096).toNat++(w.j.W.drop (r-4096).toNat).take n++w.j.W.drop (((address w.j.C i off).1-4096).toNat+((w.j.W.drop (r-4096).toNat).take n).length)).set ((r-4096).toNat+M 0) (4*(address w.j.C i off).1+2))=Y wD (w.put i.toNat r (address w.j.C i off).1 n).j.W:=congrArg _ h;have hn:=d.2.1;have f:Le.wrap ((w.j.P.getD i.toNat X).U+n)=(w.j.P.getD i.toNat X).U+n:=CR oq oq;have g:Le.wrap (w.rep.copied+1)=w.rep.copied+1:=CR oq oq;exact borF [0,1,2,3,4,8005] [88082] func182 (fO 4)<|Fh 52 [.els (Y wD (Lc ((address w.j.C i off).1-4096).toNat w.j.W++Lc n (Lb (r-4096).toNat w.j.W)++Lb (((address w.j.C i off).1-4096).toNat+(Lc n (Lb (r-4096).toNat w.j.W)).length) w.j.W))]<|Fh 10056 [.els (Y wD ((Lc ((address w.j.C i off).1-4096).toNat w.j.W++Lc n (Lb (r-4096).toNat w.j.W)++Lb (((address w.j.C i off).1-4096).toNat+(Lc n (Lb (r-4096).toNat w.j.W)).length) w.j.W).set ((r-4096).toNat+M 0) (4*(address w.j.C i off).1+2)))]<|Fh 82 [.els (Y wD (w.Q++[(address w.j.C i off).1]))]<|Fc 22 (@MQ w.j.C i off)<|Ffb 26 ((address w.j.C i off).2 != 0)<|Fbq 35 [0,1,2,3,4,8005] (@GL w ((address w.j.C i off).1) ((n:Int)) aa oq)<|Fc 40 (@Zhf ((address w.j.C i off).1) oq)<|Fa (by(simp[b,Z7.put,Cv, *];omega):(Lc n (Lb (r-4096).toNat (Y wD w.j.W))).length<=(n:Int).toNat)<|Fa (by(simp[C3]):C3 (Y wD w.j.W) ((address w.j.C i off).1-4096).toNat (Lc n (Lb (r-4096).toNat (Y wD w.j.W)))=Y wD (Lc ((address w.j.C i off).1-4096).toNat w.j.W++Lc n (Lb (r-4096).toNat w.j.W)++Lb (((address w.j.C i off).1-4096).toNat+(Lc n (Lb (r-4096).toNat w.j.W)).length) w.j.W))<|Fo ((0:Int)<=0/\M 0<n)<|Fa (by(simp[b,Z7.put,Cv, *];omega):(r-4096).toNat+M 0<(Y wD (Lc ((address w.j.C i off).1-4096).toNat w.j.W++Lc n (Lb (r-4096).toNat w.j.W)++Lb (((address w.j.C i off).1-4096).toNat+(Lc n (Lb (r-4096).toNat w.j.W)).length) w.j.W)).length)<|Fa (by simp[b,Z7.put,Cv,List.map_take,List.map_drop,Li,List.map_append,wD,iD]:(Y wD (Lc ((address w.j.C i off).1-4096).toNat w.j.W++Lc n (Lb (r-4096).toNat w.j.W)++Lb (((address w.j.C i off).1-4096).toNat+(Lc n (Lb (r-4096).toNat w.j.W)).length) w.j.W)).set ((r-4096).toNat+M 0) [ZD (4*(address w.j.C i off).1+2)]=Y wD ((Lc ((address w.j.C i off).1-4096).toNat w.j.W++Lc n (Lb (r-4096).toNat w.j.W)++Lb (((address w.j.C i off).1-4096).toNat+(Lc n (Lb (r-4096).toNat w.j.W)).length) w.j.W).set ((r-4096).toNat+M 0) (4*(address w.j.C i off).1+2)))<|Fmq 66 Z0.dv w.j.P i<|Fi 70 ((w.j.P.getD i.toNat X).U+(n:Int))<|Fm0q Z0.dv w.j.P i<|FS 10072 Z0.dv w.j.P i.toNat (Z0.mk (w.j.P.getD i.toNat X).K (w.j.P.getD i.toNat X).S ((w.j.P.getD i.toNat X).U+(n:Int)) (w.j.P.getD i.toNat X).N) ((w.j.P.getD i.toNat X).dv)<|Fs 81 (Y wD [(address w.j.C i off).1])<|Fa (by(simp[b,Z7.put,Cv, *];omega):(Y wD w.Q).length+(Y wD [(address w.j.C i off).1]).length<=2^30)<|Fa (by(simp[C3]):Y wD w.Q++Y wD [(address w.j.C i off).1]=Y wD (w.Q++[(address w.j.C i off).1]))<|Fi 91 (w.rep.copied+1)<|Fr (35:Int)<|Fa (by refine congrArg _ ?_;assumption:Y wD ((Lc ((address w.j.C i off).1-4096).toNat w.j.W++Lc n (Lb (r-4096).toNat w.j.W)++Lb (((address w.j.C i off).1-4096).toNat+(Lc n (Lb (r-4096).toNat w.j.W)).length) w.j.W).set ((r-4096).toNat+M 0) (4*(address w.j.C i off).1+2))=Y wD (w.put i.toNat r (address w.j.C i off).1 (n:Int)).j.W) Fz
end
def S8(w:Z7)(l:List Z0):List (Nat×Z4):=[(2,EE l),(0,w.ckB 1 2 3 4 8005),(1,Bd w.j.W),(3,Bd w.old),(4,EK w.T),(8005,Bd w.Q)]
def MD(w:Z7)(r x:Int)(m:Nat):Tg:=⟨tm 180 [(0,.pt 0 0 0),(1,uU r),(4,uU 0),(5,nI 0),(6,.os 1 (r-4096).toNat 1),(7,bL La),(13,nI (x+1+m))],S8 w (ZH w.j.P x.toNat m (1-w.j.S)),15⟩
def ZiG(w:Z7)(r x:Int)(m:Nat)(hs:w.j.S=0\/w.j.S=1)(hl:w.j.P.length<=1048576)(hx:0<=x)(j:m<ZA w.j.P x.toNat):CP (Zl f130 0) (MD w r x m).st .nrm (MD w r x (m+1)).st:=by
 have e:=Rw j;have f:=Z0b (l:=w.j.P) (i:=x.toNat) (m:=m) (1-w.j.S);have hn:=GY w.j.P x.toNat m (1-w.j.S);have d:=Z7E (1-w.j.S) e.1;unfold Nc at d;rw[<-f]at d e;have h:x.toNat+1+m=(x+1+(m:Int)).toNat:=by omega
 have eI:((x.toNat+1+m:Nat):Int)=x+1+(m:Int):=by omega
 rw[h]at f d e;let b:=ZH w.j.P x.toNat m (1-w.j.S);let c:=x+1+(m:Int);let a:=b.getD c.toNat X;let g:=x+1+(m:Int)<(b.length:Int);exact sF [] (fP 16)<|Fl 109 Z0.dv (ZH w.j.P x.toNat m ((1:Int)-w.j.S))<|FmGq 120 (decide g) Z0.dv b c<|Ftb 122 (decide g&&a.K==3)<|Fbq 132 [0,1,2,3,4,8005] (@MG w.j.C.pw w.j.C.pg w.j.S w.j.B w.D w.rep.copied w.rep.kept w.rep.filled w.rep.freed w.rep.cleared w.rep.steps w.j.W w.old w.Q w.T b aa)<|Fm0q Z0.dv b c<|FS 10134 Z0.dv b (c.toNat) (Z0.mk a.K (1-w.j.S) a.U a.N) (a.dv)<|Fi 124 (x+1+(m:Int)+1)<|Fo (x+1+(m:Int)+1=x+1+(↑(m+1):Int))<|Fr (86:Int)<|Fa (by refine congrArg _ ?_;exact d:Y Z0.dv (b.set c.toNat (Z0.mk a.K (1-w.j.S) a.U a.N))=Y Z0.dv (ZH w.j.P x.toNat (m+1) (1-w.j.S))) Fz
def Zi4(w:Z7)(r x:Int)(hl:w.j.P.length<=1048576)(hx:0<=x):CP (Zl f130 0) (MD w r x (ZA w.j.P x.toNat)).st (.ext 0) (Tg.st ⟨tm 180 [(0,.pt 0 0 0),(1,uU r),(4,uU 0),(5,nI 0),(6,.os 1 (r-4096).toNat 1),(7,bL La)],S8 w (ZH w.j.P x.toNat (ZA w.j.P x.toNat) (1-w.j.S)),15⟩):=by
 have c:=λh=>Ts (l:=w.j.P) (i:=x.toNat) h;have b:=Z0b (l:=w.j.P) (i:=x.toNat) (m:=ZA w.j.P x.toNat) (1-w.j.S);have hn:=GY w.j.P x.toNat (ZA w.j.P x.toNat) (1-w.j.S);have a:x.toNat+1+ZA w.j.P x.toNat=(x+1+(ZA w.j.P x.toNat:Int)).toNat:=by omega
 rw[<-b,a]at c;exact sF [] []<|Fl 109 Z0.dv (ZH w.j.P x.toNat (ZA w.j.P x.toNat) ((1:Int)-w.j.S))<|FmGq 120 (Z (x+1+(↑(ZA w.j.P x.toNat):Int)<(↑(ZH w.j.P x.toNat (ZA w.j.P x.toNat) (1-w.j.S)).length:Int))) Z0.dv (ZH w.j.P x.toNat (ZA w.j.P x.toNat) (1-w.j.S)) (x+1+(↑(ZA w.j.P x.toNat):Int))<|Ffb 122 (Z (x+1+(↑(ZA w.j.P x.toNat):Int)<(↑(ZH w.j.P x.toNat (ZA w.j.P x.toNat) (1-w.j.S)).length:Int))&&((ZH w.j.P x.toNat (ZA w.j.P x.toNat) (1-w.j.S)).getD (x+1+(↑(ZA w.j.P x.toNat):Int)).toNat X).K==3) Fz
def Zcn(w:Z7)(r x:Int)(hs:w.j.S=0\/w.j.S=1)(hl:w.j.P.length<=1048576)(hx:0<=x):CP (Zk f130 0) (Tg.st ⟨tm 180 [(0,.pt 0 0 0),(1,uU r),(4,uU 0),(5,nI 0),(6,.os 1 (r-4096).toNat 1),(7,bL La),(13,nI (x+1))],S8 w (w.j.P.set x.toNat ⟨(w.j.P.getD x.toNat X).K,1-w.j.S,(w.j.P.getD x.toNat X).U,(w.j.P.getD x.toNat X).N⟩),15⟩) .nrm (Tg.st ⟨tm 180 [(0,.pt 0 0 0),(1,uU r),(4,uU 0),(5,nI 0),(6,.os 1 (r-4096).toNat 1),(7,bL La)],S8 w (ZH w.j.P x.toNat (ZA w.j.P x.toNat) (1-w.j.S)),15⟩):=by have h:=Bp (S:=λk=>(MD w r x k).st) (ZA w.j.P x.toNat) kr (λk hk=>ZiG w r x k hs hl hx hk) (Zi4 w r x hl hx);have a:=Z6A (l:=w.j.P) (i:=x.toNat) (1-w.j.S);simp only[MD,a,Nc,Int.natCast_zero,Int.add_zero]at h;exact h
def FwOk.ld{w r}(f:FwOk w r)(c3:r∈w.old):(Z1 w.j.W r).1=w.j.W.getD ((r-4096).toNat+M 0) X:=by have h3:=f.ol c3;have lr:=BQ w.j.W r;unfold Z1;rw[if_pos oq];rfl
def ZbC w(r:Int)(h0:0<=r/\r<=18446744073709551615)(b:R4 w)(c1:r=0\/r∈w.Q):BP 130 [.pt 0 0 0,uU r] w.ckp (.tu [uU r,nI 0]) w.ckp:=by obtain⟨h1,h2,h3,h4,h5⟩:=b;exact borF [0,1,2,3,4,5] [] func130 []<|FcG 27 (!r==0) (λa=>by(try simp only[bs]at a);exact@Ei w.Q r aa)<|Ftb 28 (r==0||Z (r∈w.Q)) Fz
def Zal w(r:Int)(h0:0<=r/\r<=18446744073709551615)(b:R4 w)(c1:r≠0)(c2:r∉w.Q)(c3:r∉w.old):BP 130 [.pt 0 0 0,uU r] w.ckp (.tu [uU 0,nI 19]) w.ckp:=by obtain⟨h1,h2,h3,h4,h5⟩:=b;exact borF [0,1,2,3,4,5] [] func130 []<|FcG 27 (!r==0) (λa=>by(try simp only[bs]at a);exact@Ei w.Q r aa)<|Ffs 28 (r==0||Z (r∈w.Q))<|Fc 35 (@Ei w.old r aa)<|Ftb 36 (!decide (r∈w.old)) Fz
section
variable(w:Z7)(r:Int)(f:FwOk w r)
include f
variable(c1:r≠0)(c2:r∉w.Q)(c3:r∈w.old)
include c1 c2 c3
theorem Zdo(c4:(ZF (Z1 w.j.W r).1).2=La):BP 130 [.pt 0 0 0,uU r] w.ckp (.tu [uU (ZF (Z1 w.j.W r).1).1,nI 0]) w.ckp:=by have h0:=f.rg;have hk:=f.ck;have hmm:=hk.mem;have ok:=hk.ok;obtain⟨-,wl,-,pl,sp,ol,-,-,tl,-,-,mu,-,rk,-,-⟩:=id ok;have cf:=BF.1 ok.C;have h3:=f.ol c3;have lr:=BQ w.j.W r;have o:=GX ok.C h3.2.2.1;have eof:=h3.2.2.1;have el:=f.ld c3;have ld:=EM ok.W r;rw[el]at c4 ld⊢;have Q0 {h_ c_ p_} (r_:Fq h_ c_ p_):=FcG 27 (!r==0) (λhg=>by(try simp only[bs]at hg);exact@Ei w.Q r oq) r_;rcases bb (r==0||Z (r∈w.Q))with hc0|hc0<;>have hc0p:=hc0<;>simp only[bs]at hc0p;exact borF [0,1,2,3,4,5] [] func130 (fO 6) (Q0 (Ft 28 hc0<|Fa (by grind[]:r=(ZF (w.j.W.getD ((r-4096).toNat+M 0) X)).1)<|Fr (0:Int) Fz));obtain⟨hc0pa,hc0pb⟩:=hc0p;let y0:=w.j.W.getD ((r-4096).toNat+M 0) X;exact borF [0,1,2,3,4,5] [] func130 []<|Fh 48 [.el (wD y0)]<|Fh 52 [.br La] (Q0 (Ff 28 hc0<|Fc 35 (@Ei w.old r oq)<|Ffb 36 (!decide (r∈w.old))<|Fbq 40 [0,1,2,3,4,5] (@GL w r (1) aa oq)<|Fo ((0:Int)<=0/\M 0<M 1)<|Fa (ZR oq:(Y wD w.j.W)[(r-4096).toNat+M 0]?=Ld (wD y0))<|Fc 49 (@NY y0 oq oq)<|Fa ‹(ZF y0).2=La› Fz))
variable(c4:(ZF (Z1 w.j.W r).1).2=O)
include c4
theorem ZiL(c6:ZJ w (Z3 w.j.C r).1=La):BP 130 [.pt 0 0 0,uU r] w.ckp (.tu [uU r,nI 0]) (w.keep r).ckr:=by have h0:=f.rg;have hk:=f.ck;have hmm:=hk.mem;have ok:=hk.ok;obtain⟨-,wl,-,pl,sp,ol,-,-,tl,-,-,mu,-,rk,-,-⟩:=id ok;have cf:=BF.1 ok.C;have h3:=f.ol c3;have lr:=BQ w.j.W r;have o:=GX ok.C h3.2.2.1;have eof:=h3.2.2.1;have el:=f.ld c3;have ld:=EM ok.W r;rw[el]at c4 ld;rcases bb (r==0||Z (r∈w.Q))with hc0|hc0<;>have hc0p:=hc0<;>simp only[bs]at hc0p;rw[show w.keep r=w from by exact absurd hc0p (by simp[c1,c2])];exact absurd hc0p (by simp[c1,c2]);obtain⟨hc0pa,hc0pb⟩:=hc0p;let y0:=w.j.W.getD ((r-4096).toNat+M 0) X;exact borF [0,1,2,3,4,8005] [97078] func130 []<|Fh 48 [.el (wD y0)]<|Fh 72 [.br O]<|Fh 75 [.bor [0,1,2,3,4,8005] (bL (ZJ w (Z3 w.j.C r).1)) [],.br La]<|FcG 27 (!r==0) (λhg=>by(try simp only[bs]at hg);exact@Ei w.Q r oq)<|Ff 28 hc0<|Fc 35 (@Ei w.old r oq)<|Ffb 36 (!decide (r∈w.old))<|Fbq 40 [0,1,2,3,4,8005] (@GL w r (1) aa oq)<|Fo ((0:Int)<=0/\M 0<M 1)<|Fa (ZR oq:(Y wD w.j.W)[(r-4096).toNat+M 0]?=Ld (wD y0))<|Fc 49 (@NY y0 oq oq)<|Fa ‹(ZF y0).2=O›<|Fc 61 (@Gb w.j.C r oq oq)<|Fl 71 Z0.dv w.j.P<|Ffb 52 (Z ((w.j.P.length:Int)<=(Z3 w.j.C r).1))<|Fa (@Sv w ((Z3 w.j.C r).1) aa)<|Fa ‹ZJ w (Z3 w.j.C r).1=La›<|Fbr 78 [0,1,2,3,4,8005] (@Z7p w.j.C.pw w.j.C.pg w.j.S w.j.B w.D w.rep.copied w.rep.kept w.rep.filled w.rep.freed w.rep.cleared w.rep.steps r w.j.W w.old w.Q w.T w.j.P oq oq) Fz
theorem ZjF(c6:ZJ w (Z3 w.j.C r).1=O)(c7:(w.j.P.getD (Ct w r) X).K=2):BP 130 [.pt 0 0 0,uU r] w.ckp (.tu [uU r,nI 0]) ((w.flip (Ct w r)).keep r).ckr:=by have h0:=f.rg;have hk:=f.ck;have hmm:=hk.mem;have ok:=hk.ok;obtain⟨-,wl,-,pl,sp,ol,-,-,tl,-,-,mu,-,rk,-,-⟩:=id ok;have cf:=BF.1 ok.C;have h3:=f.ol c3;have lr:=BQ w.j.W r;have o:=GX ok.C h3.2.2.1;have eof:=h3.2.2.1;have el:=f.ld c3;have ld:=EM ok.W r;rw[el]at c4 ld;unfold Ct at c7;rcases bb (r==0||Z (r∈w.Q))with hc0|hc0<;>have hc0p:=hc0<;>simp only[bs]at hc0p;rw[show(w.flip (Ct w r)).keep r=w from by exact absurd hc0p (by simp[c1,c2])];exact absurd hc0p (by simp[c1,c2]);obtain⟨hc0pa,hc0pb⟩:=hc0p;let y0:=w.j.P.getD (Z3 w.j.C r).1.toNat X;let y1:=w.j.W.getD ((r-4096).toNat+M 0) X;let y2:=(Z3 w.j.C r).1;exact borF [0,1,2,3,4,8005] [121137] func130 []<|Fh 48 [.el (wD y1)]<|Fh 72 [.br O]<|Fh 75 [.bor [0,1,2,3,4,8005] (bL (ZJ w (Z3 w.j.C r).1)) [],.br O]<|FcG 27 (!r==0) (λhg=>by(try simp only[bs]at hg);exact@Ei w.Q r oq)<|Ff 28 hc0<|Fc 35 (@Ei w.old r oq)<|Ffb 36 (!decide (r∈w.old))<|Fbq 40 [0,1,2,3,4,8005] (@GL w r (1) aa oq)<|Fo ((0:Int)<=0/\M 0<M 1)<|Fa (ZR oq:(Y wD w.j.W)[(r-4096).toNat+M 0]?=Ld (wD y1))<|Fc 49 (@NY y1 oq oq)<|Fa ‹(ZF y1).2=O›<|Fc 61 (@Gb w.j.C r oq oq)<|Fl 71 Z0.dv w.j.P<|Ffb 52 (Z ((w.j.P.length:Int)<=(Z3 w.j.C r).1))<|Fa (@Sv w y2 aa)<|Fa ‹ZJ w (Z3 w.j.C r).1=O›<|Fmq 89 Z0.dv w.j.P y2<|Ftb 90 (y0.K==2)<|Fbq 98 [0,1,2,3,4,8005] (@MG w.j.C.pw w.j.C.pg w.j.S w.j.B w.D w.rep.copied w.rep.kept w.rep.filled w.rep.freed w.rep.cleared w.rep.steps w.j.W w.old w.Q w.T w.j.P aa)<|Fm0q Z0.dv w.j.P y2<|FS 10100 Z0.dv w.j.P ((Z3 w.j.C r).1.toNat) (Z0.mk y0.K (1-w.j.S) y0.U y0.N) (y0.dv)<|Fi 102 ((Z3 w.j.C r).1+1)<|Fu (@Zcn w r y2 aa oq oq)<|Fbr 137 [0,1,2,3,4,8005] (@Z7p w.j.C.pw w.j.C.pg w.j.S w.j.B w.D w.rep.copied w.rep.kept w.rep.filled w.rep.freed w.rep.cleared w.rep.steps r w.j.W w.old w.Q w.T (ZH w.j.P (Z3 w.j.C r).1.toNat (ZA w.j.P (Z3 w.j.C r).1.toNat) (1-w.j.S)) oq oq) Fz
variable(c6:ZJ w (Z3 w.j.C r).1=O)(c7:¬ (w.j.P.getD (Ct w r) X).K=2)
include c6 c7
theorem Zhy(c8:¬ E6 w (Z5 (Zv w r)))(c9:¬ 0<=ZP w):BP 130 [.pt 0 0 0,uU r] w.ckp (.tu [uU 0,nI 3]) w.ckp:=by have h0:=f.rg;have hk:=f.ck;have hmm:=hk.mem;have ok:=hk.ok;obtain⟨-,wl,-,pl,sp,ol,-,-,tl,-,-,mu,-,rk,-,-⟩:=id ok;have cf:=BF.1 ok.C;have h3:=f.ol c3;have lr:=BQ w.j.W r;have o:=GX ok.C h3.2.2.1;have eof:=h3.2.2.1;have el:=f.ld c3;have ld:=EM ok.W r;have dc:=f.dc c3 c4;have sz:=Nx w r;have hl:=GA w r;have dm:=Ij (Z1 w.j.W r).1 ld.1;have ein:(((Z5 (Zv w r)).toNat:Nat):Int)=Z5 (Zv w r):=Lj oq;unfold Ct at c7;unfold Zv at *;rw[el]at c4 c8 ld dc sz hl dm ein;rcases bb (r==0||Z (r∈w.Q))with hc0|hc0<;>have hc0p:=hc0<;>simp only[bs]at hc0p;exact absurd hc0p (by simp[c1,c2]);obtain⟨hc0pa,hc0pb⟩:=hc0p;rcases bb (!(Z6 (w.j.W.getD ((r-4096).toNat+M 0) X)).2||O)with hc1|hc1<;>have hc1p:=hc1<;>simp only[bs]at hc1p;exact absurd hc1p (by rw[dc];simp);obtain⟨hc1pa,hc1pb⟩:=hc1p;let y0:=w.j.W.getD ((r-4096).toNat+M 0) X;let y1:=(0:Int)<=0/\M 0<M 1;exact borF [0,1,2,3,4,5] [] func130 []<|Fh 48 [.el (wD y0)]<|Fh 75 [.bor [0,1,2,3,4,5] (bL (ZJ w (Z3 w.j.C r).1)) [],.br O]<|Fh 143 [.el (wD y0)]<|Fh 160 [.br O]<|FcG 27 (!r==0) (λhg=>by(try simp only[bs]at hg);exact@Ei w.Q r oq)<|Ff 28 hc0<|Fc 35 (@Ei w.old r oq)<|Ffb 36 (!decide (r∈w.old))<|Fbq 40 [0,1,2,3,4,5] (@GL w r (1) aa oq)<|Fo y1<|Fa (ZR oq:(Y wD w.j.W)[(r-4096).toNat+M 0]?=Ld (wD y0))<|Fc 49 (@NY y0 oq oq)<|Fa ‹(ZF y0).2=O›<|Fc 61 (@Gb w.j.C r oq oq)<|Fl 71 Z0.dv w.j.P<|Ffb 52 (Z ((w.j.P.length:Int)<=(Z3 w.j.C r).1))<|Fa (@Sv w ((Z3 w.j.C r).1) aa)<|Fa ‹ZJ w (Z3 w.j.C r).1=O›<|Fmq 89 Z0.dv w.j.P ((Z3 w.j.C r).1)<|Ffb 72 ((w.j.P.getD (Z3 w.j.C r).1.toNat X).K==2)<|Fo y1<|Fa (ZR oq:(Y wD w.j.W)[(r-4096).toNat+M 0]?=Ld (wD y0))<|Fc 144 (@GH y0 oq oq)<|Fc 151 (@EC ((Z6 y0).1) aa)<|Fbq 152 [0,1,2,3,4,5] (@GL w r (Z5 (Z6 y0).1) aa oq)<|Ff 90 hc1<|Fg 164 (by assumption:(↑(Z5 (Z6 y0).1).toNat:Int)=Z5 (Z6 y0).1)<|Fbq 165 [0,1,2,3,4,5] (@Zdj w (Z5 (Z6 y0).1) aa aa aa aa) Fz
theorem Ze5(c8:E6 w (Z5 (Zv w r)))(ha:(address w.j.C (ZG w) (w.j.P.getD (ZG w).toNat X).U).2=0)(har:4096<=(address w.j.C (ZG w) (w.j.P.getD (ZG w).toNat X).U).1/\(address w.j.C (ZG w) (w.j.P.getD (ZG w).toNat X).U).1-4096+Z5 (Zv w r)<=w.j.W.length):BP 130 [.pt 0 0 0,uU r] w.ckp (.tu [uU (address w.j.C (ZG w) (w.j.P.getD (ZG w).toNat X).U).1,nI 0]) (w.put (ZG w).toNat r (address w.j.C (ZG w) (w.j.P.getD (ZG w).toNat X).U).1 (Z5 (Zv w r)).toNat).ckr:=by have h0:=f.rg;have hk:=f.ck;have hmm:=hk.mem;have ok:=hk.ok;obtain⟨-,wl,-,pl,sp,ol,-,-,tl,-,-,mu,-,rk,-,-⟩:=id ok;have cf:=BF.1 ok.C;have h3:=f.ol c3;have lr:=BQ w.j.W r;have o:=GX ok.C h3.2.2.1;have eof:=h3.2.2.1;have el:=f.ld c3;have ld:=EM ok.W r;have dc:=f.dc c3 c4;have sz:=Nx w r;have hl:=GA w r;have dm:=Ij (Z1 w.j.W r).1 ld.1;have ein:(((Z5 (Zv w r)).toNat:Nat):Int)=Z5 (Zv w r):=Lj oq;unfold Ct at c7;unfold Zv at *;rw[el]at c4 c8 har ld dc sz hl dm ein⊢;have hm:=ok.tk _ (GT c8.1);have hu:=ok.us (ZG w).toNat oq;rcases bb (r==0||Z (r∈w.Q))with hc0|hc0<;>have hc0p:=hc0<;>simp only[bs]at hc0p;rw[show w.put (ZG w).toNat r (address w.j.C (ZG w) (w.j.P.getD (ZG w).toNat X).U).1 (↑(Z5 (Z6 (w.j.W.getD ((r-(4096:Int)).toNat+M (0:Int)) X)).1).toNat:Int)=w from by exact absurd hc0p (by simp[c1,c2])];exact absurd hc0p (by simp[c1,c2]);obtain⟨hc0pa,hc0pb⟩:=hc0p;rcases bb (!(Z6 (w.j.W.getD ((r-4096).toNat+M 0) X)).2||O)with hc1|hc1<;>have hc1p:=hc1<;>simp only[bs]at hc1p;rw[show w.put (ZG w).toNat r (address w.j.C (ZG w) (w.j.P.getD (ZG w).toNat X).U).1 (↑(Z5 (Z6 (w.j.W.getD ((r-(4096:Int)).toNat+M (0:Int)) X)).1).toNat:Int)=w from by exact absurd hc1p (by rw[dc];simp)];exact absurd hc1p (by rw[dc];simp);obtain⟨hc1pa,hc1pb⟩:=hc1p;let y0:=w.j.W.getD ((r-4096).toNat+M 0) X;let y1:=(0:Int)<=0/\M 0<M 1;let y2:=Z5 (Z6 y0).1;exact borF [0,1,2,3,4,8005] [145177] func130 []<|Fh 48 [.el (wD y0)]<|Fh 75 [.bor [0,1,2,3,4,8005] (bL (ZJ w (Z3 w.j.C r).1)) [],.br O]<|Fh 143 [.el (wD y0)]<|Fh 160 [.br O]<|FcG 27 (!r==0) (λhg=>by(try simp only[bs]at hg);exact@Ei w.Q r oq)<|Ff 28 hc0<|Fc 35 (@Ei w.old r oq)<|Ffb 36 (!decide (r∈w.old))<|Fbq 40 [0,1,2,3,4,8005] (@GL w r (1) aa oq)<|Fo y1<|Fa (ZR oq:(Y wD w.j.W)[(r-4096).toNat+M 0]?=Ld (wD y0))<|Fc 49 (@NY y0 oq oq)<|Fa ‹(ZF y0).2=O›<|Fc 61 (@Gb w.j.C r oq oq)<|Fl 71 Z0.dv w.j.P<|Ffb 52 (Z ((w.j.P.length:Int)<=(Z3 w.j.C r).1))<|Fa (@Sv w ((Z3 w.j.C r).1) aa)<|Fa ‹ZJ w (Z3 w.j.C r).1=O›<|Fmq 89 Z0.dv w.j.P ((Z3 w.j.C r).1)<|Ffb 72 ((w.j.P.getD (Z3 w.j.C r).1.toNat X).K==2)<|Fo y1<|Fa (ZR oq:(Y wD w.j.W)[(r-4096).toNat+M 0]?=Ld (wD y0))<|Fc 144 (@GH y0 oq oq)<|Fc 151 (@EC ((Z6 y0).1) aa)<|Fbq 152 [0,1,2,3,4,8005] (@GL w r y2 aa oq)<|Ff 90 hc1<|Fg 164 (by assumption:(y2.toNat:Int)=Z5 (Z6 y0).1)<|Fbq 165 [0,1,2,3,4,8005] (@Zan w y2 aa aa aa)<|Fbr 177 [0,1,2,3,4,8005] (@Z5T w r (ZG w) ((w.j.P.getD (ZG w).toNat X).U) (y2.toNat) aa oq oq aa oq oq aa oq) Fz
theorem ZdI(hk2:Di w.took)(hu2:0<=(w.took.j.P.getD (ZP w).toNat X).U/\(w.took.j.P.getD (ZP w).toNat X).U<=1024)(c8:¬ E6 w (Z5 (Zv w r)))(c9:0<=ZP w)(ha:(address w.j.C (ZP w) 0).2=0)(har:4096<=(address w.j.C (ZP w) 0).1/\(address w.j.C (ZP w) 0).1-4096+Z5 (Zv w r)<=w.j.W.length):BP 130 [.pt 0 0 0,uU r] w.ckp (.tu [uU (address w.j.C (ZP w) 0).1,nI 0]) (w.took.put (ZP w).toNat r (address w.j.C (ZP w) 0).1 (Z5 (Zv w r)).toNat).ckq:=by
 have h0:=f.rg;have hk:=f.ck;have hmm:=hk.mem;have ok:=hk.ok;obtain⟨-,wl,-,pl,sp,ol,-,-,tl,-,-,mu,-,rk,-,-⟩:=id ok;have cf:=BF.1 ok.C;have h3:=f.ol c3;have lr:=BQ w.j.W r;have o:=GX ok.C h3.2.2.1;have eof:=h3.2.2.1;have el:=f.ld c3;have ld:=EM ok.W r;have dc:=f.dc c3 c4;have sz:=Nx w r;have hl:=GA w r;have dm:=Ij (Z1 w.j.W r).1 ld.1;have ein:(((Z5 (Zv w r)).toNat:Nat):Int)=Z5 (Zv w r):=Lj oq;unfold Ct at c7;unfold Zv at *;rw[el]at c4 c8 har ld dc sz hl dm ein⊢;have ff:=Ik c9;have fl:ZP w<w.j.C.pg:=by unfold ZP;omega
 have tw:w.took.j.W.length=w.j.W.length:=rfl;have tp:=hk2.pl;have tq:w.took.Q.length=w.Q.length:=rfl;have trk:w.took.rep.copied=w.rep.copied:=rfl;have tc:w.took.j.C=w.j.C:=rfl;rw[tc]at tp;have ha2:(address w.took.j.C (ZP w) 0).2=0:=ha;have har2:=har;rw[<-tw,<-tc]at har2;rcases bb (r==0||Z (r∈w.Q))with hc0|hc0<;>have hc0p:=hc0<;>simp only[bs]at hc0p;rw[show w.took.put (ZP w).toNat r (address w.j.C (ZP w) (0:Int)).1 (↑(Z5 (Z6 (w.j.W.getD ((r-(4096:Int)).toNat+M (0:Int)) X)).1).toNat:Int)=w from by exact absurd hc0p (by simp[c1,c2])];exact absurd hc0p (by simp[c1,c2]);obtain⟨hc0pa,hc0pb⟩:=hc0p;rcases bb (!(Z6 (w.j.W.getD ((r-4096).toNat+M 0) X)).2||O)with hc1|hc1<;>have hc1p:=hc1<;>simp only[bs]at hc1p;rw[show w.took.put (ZP w).toNat r (address w.j.C (ZP w) (0:Int)).1 (↑(Z5 (Z6 (w.j.W.getD ((r-(4096:Int)).toNat+M (0:Int)) X)).1).toNat:Int)=w from by exact absurd hc1p (by rw[dc];simp)];exact absurd hc1p (by rw[dc];simp);obtain⟨hc1pa,hc1pb⟩:=hc1p;let y0:=w.j.W.getD ((r-4096).toNat+M 0) X;let y1:=(0:Int)<=0/\M 0<M 1;let y2:=Z5 (Z6 y0).1;exact borF [0,1,8002,3,8004,8005] [129165,130165,145177] func130 []<|Fh 48 [.el (wD y0)]<|Fh 75 [.bor [0,1,8002,3,8004,8005] (bL (ZJ w (Z3 w.j.C r).1)) [],.br O]<|Fh 143 [.el (wD y0)]<|Fh 160 [.br O]<|FcG 27 (!r==0) (λhg=>by(try simp only[bs]at hg);exact@Ei w.Q r oq)<|Ff 28 hc0<|Fc 35 (@Ei w.old r oq)<|Ffb 36 (!decide (r∈w.old))<|Fbq 40 [0,1,8002,3,8004,8005] (@GL w r (1) aa oq)<|Fo y1<|Fa (ZR oq:(Y wD w.j.W)[(r-4096).toNat+M 0]?=Ld (wD y0))<|Fc 49 (@NY y0 oq oq)<|Fa ‹(ZF y0).2=O›<|Fc 61 (@Gb w.j.C r oq oq)<|Fl 71 Z0.dv w.j.P<|Ffb 52 (Z ((w.j.P.length:Int)<=(Z3 w.j.C r).1))<|Fa (@Sv w ((Z3 w.j.C r).1) aa)<|Fa ‹ZJ w (Z3 w.j.C r).1=O›<|Fmq 89 Z0.dv w.j.P ((Z3 w.j.C r).1)<|Ffb 72 ((w.j.P.getD (Z3 w.j.C r).1.toNat X).K==2)<|Fo y1<|Fa (ZR oq:(Y wD w.j.W)[(r-4096).toNat+M 0]?=Ld (wD y0))<|Fc 144 (@GH y0 oq oq)<|Fc 151 (@EC ((Z6 y0).1) aa)<|Fbq 152 [0,1,8002,3,8004,8005] (@GL w r y2 aa oq)<|Ff 90 hc1<|Fg 164 (by assumption:(y2.toNat:Int)=Z5 (Z6 y0).1)<|Fbr 165 [0,1,8002,3,8004,8005] (@ZcW w y2 aa aa aa aa)<|Fbr 177 [0,1,129165,3,130165,8005] (@Z5T w.took r (ZP w) (0) (y2.toNat) aa oq oq aa oq oq aa oq) Fz
end
def Hw(e:Int)(h:e=0):GP 76 [nI e] La (.tu []) []:=by subst h;exact gF [] func76 [] Fz
def Zke{c a}(e:(Z3 c a).2.2=0):Zq c=La/\4096<=a/\a<4096+c.pw*c.pg/\0<=(Z3 c a).1/\(Z3 c a).1<c.pg/\0<=(Z3 c a).2.1/\(Z3 c a).2.1<c.pw/\(Z3 c a).1*c.pw+(Z3 c a).2.1=a-4096:=by unfold Z3 at e⊢;by_cases b:Zq c=La;rw[if_pos b]at e⊢;have hb:=BF.1 b;by_cases q:4096<=a/\a<4096+c.pw*c.pg;rw[if_pos q]at e⊢;have d:0<=(a-4096)/c.pw:=Int.ediv_nonneg oq oq;have d1:(a-4096)/c.pw<c.pg:=Int.ediv_lt_of_lt_mul oq (by rw[Lp];omega);refine⟨b,q.1,q.2,d,d1,Int.emod_nonneg _ oq,Int.emod_lt_of_pos _ oq, ?_⟩;simp only;rw[Lp];exact Int.mul_ediv_add_emod _ _;rw[if_neg q]at e;simp at e;rw[if_neg b]at e;simp at e
def Z6J(w:Z7) r(ww:Zy w.j.W)(wl:w.j.W.length<=4096)(ql:w.Q.length<=1048576)(hL:(w.j.W.length:Int)=w.j.C.pw*w.j.C.pg)(o:(Z3 w.j.C r).2.2=0):GP 132 [w.av,uU r] La (uU (C2 w r)) []:=by
 obtain⟨d,r1,r2,e,p2,p3,p4,f⟩:=Zke o;have b:Z1 w.j.W r=(w.j.W.getD ((Z3 w.j.C r).1*w.j.C.pw+(Z3 w.j.C r).2.1).toNat X,0):=by rw[Z1,if_pos oq,f];rfl
 have hb:=BF.1 d;have wr:=Z2x ww ((Z3 w.j.C r).1*w.j.C.pw+(Z3 w.j.C r).2.1).toNat
 have m0:0<=(Z3 w.j.C r).1*w.j.C.pw:=Lq e oq;unfold C2;by_cases c:r∈w.Q;rw[if_pos c];exact gF [] func132 []<|Fh 13 [.call La (bL (Z (r∈w.Q))) [],.br La]<|Fa (@Ei w.Q r aa)<|Fb (Z (r∈w.Q)=La) Fz;rw[if_neg c,b];let a:=(Z3 w.j.C r).1*w.j.C.pw+(Z3 w.j.C r).2.1;exact gF [] func132 []<|Fh 13 [.call La (bL (Z (r∈w.Q))) [],.br O]<|Fa (@Ei w.Q r aa)<|Fb (Z (r∈w.Q)=O)<|Fc 20 (@Gb w.j.C r oq oq)<|Fc 25 (@Hw ((Z3 w.j.C r).2.2) aa)<|Fi 35 ((Z3 w.j.C r).1*w.j.C.pw)<|Fi 37 a<|Fe 38 wD w.j.W a<|Fc 40 (@NY (w.j.W.getD a.toNat X) (by grind[]) (by grind[])) Fz
def Z7.evD(w:Z7):Z4:=.box 127 w.cells
def wkL(w:Z7)(k out:List Int)(i:Nat):Tg:=⟨tm 39 [(0,.pt 0 0 0),(4,.d (.sl 0 [])),(5,.ow 24005),(9,Z2 k),(10,nI k.length),(11,nI i)],[(24005,.arr 35 1 (out.map wD)),(0,w.evD)],5⟩
section
variable(w:Z7)(k out:List Int)(i:Nat)(ww:Zy w.j.W)(wl:w.j.W.length<=4096)(ql:w.Q.length<=1048576)(hL:(w.j.W.length:Int)=w.j.C.pw*w.j.C.pg)(hk:k.length<=1000)(ho:out.length<=1000)(hi:i<k.length)(hx:0<=k.getD i X/\k.getD i X<=18446744073709551615)(hc:0<=w.rep.cleared/\w.rep.cleared<=1048576)(o:k.getD i X=0\/(Z3 w.j.C (k.getD i X)).2.2=0)
include ww wl ql hL hk ho hi hx hc o
theorem Zfw:CP (Zl f79 0) (wkL w k out i).st .nrm (wkL (Hn w (k.getD i X)) k (out++[IM w (k.getD i X)]) (i+1)).st:=by
 by_cases d:k.getD i X=0;have e:IM w (k.getD i X)=0:=by rw[IM,if_pos d]
 have c:Hn w (k.getD i X)=w:=by rw[Hn,if_neg (by rintro⟨q,_⟩;exact q d)]
 rw[e,c];exact sF [(72036,24005)] []<|Fh 36 [.els (Y wD (out++[0]))]<|Ftb 12 (Z ((i:Int)<(k.length:Int)))<|Fek 13 wD k (↑i) i<|Ffb 16 (k.getD i X != 0)<|Fs 35 (Y wD [0])<|Fa (by(simp[*];omega):(Y wD out).length+(Y wD [0]).length<=2^30)<|Fa (ms:Y wD out++Y wD [0]=Y wD (out++[0]))<|Fx 37 i Fz;have e:IM w (k.getD i X)=C2 w (k.getD i X):=by rw[IM,if_neg d]
 have o2:(Z3 w.j.C (k.getD i X)).2.2=0:=o.resolve_left d;rw[e];by_cases f:C2 w (k.getD i X)=0;have c:Hn w (k.getD i X)=⟨w.j,w.old,w.T,w.Q,w.D,⟨w.rep.copied,w.rep.kept,w.rep.filled,w.rep.freed,w.rep.cleared+1,w.rep.steps⟩⟩:=by rw[Hn,if_pos ⟨d,f⟩]
 rw[c];let a:=k.getD i X;exact sF [(96036,24005)] []<|Fh 36 [.els (Y wD (out++[C2 w a]))]<|Ftb 12 (Z ((i:Int)<(k.length:Int)))<|Fek 13 wD k (↑i) i<|Ftb 16 (k.getD i X != 0)<|Fc 21 (@Z6J w a aa aa aa oq aa)<|Ftb 23 (C2 w a==0)<|Fi 29 (w.rep.cleared+1)<|Fs 35 (Y wD [C2 w a])<|Fa (by(simp[*];omega):(Y wD out).length+(Y wD [C2 w a]).length<=2^30)<|Fa (ms:Y wD out++Y wD [C2 w a]=Y wD (out++[C2 w a]))<|Fx 37 i Fz;have c:Hn w (k.getD i X)=w:=by rw[Hn,if_neg (by rintro⟨_,q⟩;exact f q)]
 rw[c];let b:=k.getD i X;exact sF [(88036,24005)] []<|Fh 36 [.els (Y wD (out++[C2 w b]))]<|Ftb 12 (Z ((i:Int)<(k.length:Int)))<|Fek 13 wD k (↑i) i<|Ftb 16 (k.getD i X != 0)<|Fc 21 (@Z6J w b aa aa aa oq aa)<|Ffb 23 (C2 w b==0)<|Fs 35 (Y wD [C2 w b])<|Fa (by(simp[*];omega):(Y wD out).length+(Y wD [C2 w b]).length<=2^30)<|Fa (ms:Y wD out++Y wD [C2 w b]=Y wD (out++[C2 w b]))<|Fx 37 i Fz
end
def ZbV w k out:CP (Zl f79 0) (wkL w k out k.length).st (.ext 0) (Tg.st ⟨tm 39 [(0,.pt 0 0 0),(4,.d (.sl 0 [])),(5,.ow 24005)],[(24005,.arr 35 1 (out.map wD)),(0,w.evD)],5⟩):=by exact sF [] []<|Ffb 12 (Z ((k.length:Int)<(k.length:Int))) Fz
structure Zcs (w:Z7) (k:List Int):Prop where
 ww:Zy w.j.W
 wl:w.j.W.length<=4096
 ql:w.Q.length<=1048576
 hL:(w.j.W.length:Int)=w.j.C.pw*w.j.C.pg
 hk:k.length<=1000
 hx:CI k
 hc:w.rep.cleared=0
 o:∀x∈k,x=0\/(Z3 w.j.C x).2.2=0
section
variable(w:Z7)(k:List Int)(c:Zcs w k)
include c
def Za7  := Bp (S:=λi=>(wkL (Es w k i) k (G5 w k i) i).st) k.length (by kernel_rfl) (λi b=>by
  obtain⟨a,h2,h3,d,h5,h6,h7,h8⟩:=Ao w k i;have mem:k.getD i X∈k:=BI.2 ⟨i,b,rfl⟩;have hc:=c.hc;have hk:=c.hk;exact Zfw (Es w k i) k (G5 w k i) i (by rw[a];exact c.ww) (by rw[a];exact c.wl) (by rw[d];exact c.ql) (by rw[a];exact c.hL) c.hk (by rw[Tx];omega) b (c.hx _ mem) (by omega) (by rw[a];exact c.o _ mem)) (ZbV (Es w k k.length) k (G5 w k k.length))
theorem Zga:BP 79 [.pt 0 0 0,Z2 k] [w.evD] (.ow 1) [(Es w k k.length).evD,Bd (G5 w k k.length)]:=by have hk:=c.hk;exact borF [0] [24005] func79 []<|Fh 5 [.own]<|Fl 10 wD k<|Fu (@Za7 w k aa) Fz
end
def BD(l:List Z0)(i m:Nat):List Z0:=(List.range l.length).map λj=>if i<=j/\j<=i+m then⟨0,0,0,0⟩else l.getD j X
def T8 l i m:(BD l i m).length=l.length:=by simp[BD]
def Z6C{l:List Z0}{i m j:Nat}(h:j<l.length):(BD l i m).getD j X=if i<=j/\j<=i+m then⟨0,0,0,0⟩else l.getD j X:=by rw[Lg,Ll (by rw[T8];exact h)];simp[BD]
def ZjR{l i}:BD l i 0=l.set i ⟨0,0,0,0⟩:=by
 refine Lk (by simp[BD]) λj h1 b=>?_;have h:j<l.length:=by simpa using b
 have e:l.getD j X=l[j]:=by simp[Lg,h]
 simp only[BD,Lm,Lt,Lu,e];by_cases a:i=j;subst a;rw[if_pos oq,if_pos rfl];rw[if_neg oq,if_neg a]
def ZjH{l:List Z0}{i m:Nat}(h:i+1+m<l.length):(BD l i m).set (i+1+m) ⟨0,0,0,0⟩=BD l i (m+1):=by
 refine Lk (by simp[BD]) λj h1 b=>?_;have h:j<l.length:=by simpa[BD]using b
 simp only[BD,Lm,Lt,Lu];by_cases a:i+1+m=j;subst a;rw[if_pos rfl,if_pos oq];rw[if_neg a];by_cases hk:i<=j/\j<=i+m;rw[if_pos hk,if_pos oq];rw[if_neg hk,if_neg oq]
def Z98{l i m}:(BD l i m).getD (i+1+m) X=l.getD (i+1+m) X:=by by_cases h:i+1+m<l.length;rw[Z6C h,if_neg oq];rw[Lg,Lg,Lr (by rw[T8];omega),Lr oq]
def ME(l:List Z0)(i:Int)(m:Nat):Tg:=⟨tm 59 [(4,.d (.sl 0 [])),(5,nI 0),(6,nI (l.getD i.toNat X).K),(7,.ow 41029),(8,nI (i+1+m))],[(41029,.arr 86 4 ((BD l i.toNat m).map Z0.dv))],60⟩
section
variable(l:List Z0)(i:Int)(hl:l.length<=1048576)(hi:0<=i/\i<l.length)(hk:(l.getD i.toNat X).K=2)
include hl hi hk
theorem Zla(m:Nat)(hm:m<ZA l i.toNat):CP (Zl f136 0) (ME l i m).st .nrm (ME l i (m+1)).st:=by
 obtain⟨t1,t2⟩:=Rw hm;have ha:=Z98 (l:=l) (i:=i.toNat) (m:=m);have hq:=ZjH (l:=l) (i:=i.toNat) (m:=m) t1;have hn:=T8 l i.toNat m;have eN:i.toNat+1+m=(i+1+(m:Int)).toNat:=by omega
 rw[eN]at ha hq t2;have t3:((BD l i.toNat m).getD (i+1+(m:Int)).toNat X).K=3:=by rw[ha];exact t2
 exact sF [] (fP 14)<|Fh 10057 [.els (Y Z0.dv ((BD l i.toNat m).set (i+1+(m:Int)).toNat (Z0.mk 0 0 0 0)))]<|FlG 41 ((l.getD i.toNat X).K==2) Z0.dv (BD l i.toNat m)<|FmGq 49 ((l.getD i.toNat X).K==2&&Z (i+1+(m:Int)<(↑(BD l i.toNat m).length:Int))) Z0.dv (BD l i.toNat m) (i+1+(m:Int))<|Ftb 51 ((l.getD i.toNat X).K==2&&Z (i+1+(m:Int)<(↑(BD l i.toNat m).length:Int))&&((BD l i.toNat m).getD (i+1+(m:Int)).toNat X).K==3)<|Fa (by(simp only[Lf];omega):0<=i+1+(m:Int)/\(i+1+(m:Int)).toNat<(Y Z0.dv (BD l i.toNat m)).length)<|Fa (by(simp only[Lf];omega):(i+1+(m:Int)).toNat<(Y Z0.dv (BD l i.toNat m)).length)<|Fa (by rw[Li];rfl:(Y Z0.dv (BD l i.toNat m)).set (i+1+(m:Int)).toNat [Zd 0,Zd 0,Zd 0,Zd 0]=Y Z0.dv ((BD l i.toNat m).set (i+1+(m:Int)).toNat (Z0.mk 0 0 0 0)))<|Fi 53 (i+1+(m:Int)+1)<|Fo (i+1+(m:Int)+1=i+1+(↑(m+1):Int))<|Fr (86:Int)<|Fa (by refine congrArg _ ?_;assumption:Y Z0.dv ((BD l i.toNat m).set (i+1+(m:Int)).toNat (Z0.mk 0 0 0 0))=Y Z0.dv (BD l i.toNat (m+1))) Fz
theorem Zi2:CP (Zl f136 0) (ME l i (ZA l i.toNat)).st (.ext 0) (Tg.st ⟨tm 59 [(4,.d (.sl 0 [])),(5,nI 0),(7,.ow 41029)],[(41029,.arr 86 4 ((BD l i.toNat (ZA l i.toNat)).map Z0.dv))],60⟩):=by
 have ha:=Z98 (l:=l) (i:=i.toNat) (m:=ZA l i.toNat);have hn:=T8 l i.toNat (ZA l i.toNat);have eN:i.toNat+1+ZA l i.toNat=(i+1+(ZA l i.toNat:Int)).toNat:=by omega
 have t3:(i+1+(ZA l i.toNat:Int))<l.length->¬ ((BD l i.toNat (ZA l i.toNat)).getD (i+1+(ZA l i.toNat:Int)).toNat X).K=3:=λh=>by(rw[<-eN,ha];exact Ts oq)
 by_cases h:(i+1+(ZA l i.toNat:Int))<l.length;have t4:=t3 h;exact sF [] []<|FlG 41 ((l.getD i.toNat X).K==2) Z0.dv (BD l i.toNat (ZA l i.toNat))<|FmGq 49 ((l.getD i.toNat X).K==2&&Z (i+1+(↑(ZA l i.toNat):Int)<(↑(BD l i.toNat (ZA l i.toNat)).length:Int))) Z0.dv (BD l i.toNat (ZA l i.toNat)) (i+1+(↑(ZA l i.toNat):Int))<|Ffb 51 ((l.getD i.toNat X).K==2&&Z (i+1+(↑(ZA l i.toNat):Int)<(↑(BD l i.toNat (ZA l i.toNat)).length:Int))&&((BD l i.toNat (ZA l i.toNat)).getD (i+1+(↑(ZA l i.toNat):Int)).toNat X).K==3) Fz;exact sF [] []<|FlG 41 ((l.getD i.toNat X).K==2) Z0.dv (BD l i.toNat (ZA l i.toNat))<|FmGq 49 ((l.getD i.toNat X).K==2&&Z (i+1+(↑(ZA l i.toNat):Int)<(↑(BD l i.toNat (ZA l i.toNat)).length:Int))) Z0.dv (BD l i.toNat (ZA l i.toNat)) (i+1+(↑(ZA l i.toNat):Int))<|Ffb 51 ((l.getD i.toNat X).K==2&&Z (i+1+(↑(ZA l i.toNat):Int)<(↑(BD l i.toNat (ZA l i.toNat)).length:Int))&&((BD l i.toNat (ZA l i.toNat)).getD (i+1+(↑(ZA l i.toNat):Int)).toNat X).K==3) Fz
theorem ZcQ:CP (Zk f136 0) (Tg.st ⟨tm 59 [(4,.d (.sl 0 [])),(5,nI 0),(6,nI (l.getD i.toNat X).K),(7,.ow 41029),(8,nI (i+1))],[(41029,.arr 86 4 ((l.set i.toNat ⟨0,0,0,0⟩).map Z0.dv))],60⟩) .nrm (Tg.st ⟨tm 59 [(4,.d (.sl 0 [])),(5,nI 0),(7,.ow 41029)],[(41029,.arr 86 4 ((BD l i.toNat (ZA l i.toNat)).map Z0.dv))],60⟩):=by have h:=Bp (S:=λj=>(ME l i j).st) (ZA l i.toNat) kr (λj a=>Zla l i hl hi hk j a) (Zi2 l i hl hi hk);simp only[ME,ZjR]at h;rw[show i+1+((0:Nat):Int)=i+1 from by omega]at h;exact h
end
def Z6R(l:List Z0)(i:Int):Tg:=⟨tm 59 [(4,.d (.sl 0 [])),(5,nI 0),(6,nI (l.getD i.toNat X).K),(7,.ow 41029),(8,nI (i+1))],[(41029,.arr 86 4 ((l.set i.toNat ⟨0,0,0,0⟩).map Z0.dv))],60⟩
def Zbr(l:List Z0)(i:Int)(hl:l.length<=1048576)(hi:0<=i/\i<l.length)(hk:(l.getD i.toNat X).K=1):CP (Zl f136 0) (Z6R l i).st (.ext 0) (Tg.st ⟨tm 59 [(4,.d (.sl 0 [])),(5,nI 0),(7,.ow 41029)],[(41029,.arr 86 4 ((l.set i.toNat ⟨0,0,0,0⟩).map Z0.dv))],60⟩):=by exact sF [] []<|Fh 41 [.int ↑l.length]<|Fa (by intro hg;(try simp only[bs]at hg);simp only[Lf,List.length_append,List.length_take,List.length_drop,Lv,List.length_replicate,List.length_nil,List.length_cons]:((l.getD i.toNat X).K==2)=La->(↑(Y Z0.dv (l.set i.toNat (Z0.mk 0 0 0 0))).length:Int)=(l.length:Int))<|FmGq 49 ((l.getD i.toNat X).K==2&&Z (i+1<(l.length:Int))) Z0.dv (l.set i.toNat (Z0.mk 0 0 0 0)) (i+1)<|Ffb 51 ((l.getD i.toNat X).K==2&&Z (i+1<(l.length:Int))&&((l.set i.toNat (Z0.mk 0 0 0 0)).getD (i+1).toNat X).K==3) Fz
def Ze4(l:List Z0)(i:Int)(hl:l.length<=1048576)(a:0<=i/\i<l.length)(hk:(l.getD i.toNat X).K=1)  := Bp (S:=λ_=>(Z6R l i).st) 0 (by kernel_rfl) (λj b=>absurd b (Nat.not_lt_zero j)) (Zbr l i hl a hk)
def Zf9(l:List Z0)(i:Int)(hl:l.length<=1048576)(hi:0<=i/\i<l.length)(hk:(l.getD i.toNat X).K=1):GP 136 [ZT l,nI i] La (.tu [ZT (l.set i.toNat ⟨0,0,0,0⟩),nI 0]) []:=by have hne:l≠[]:=SS oq;let y0:=l.set i.toNat (Z0.mk 0 0 0 0);exact gF [] func136 []<|Fh 10033 [.els (Y Z0.dv y0)]<|FlG 14 (!decide (i<0)) Z0.dv l<|Ffb 16 (Z (i<0)||Z ((l.length:Int)<=i))<|Fe 19 Z0.dv l i<|Ffb 27 ((l.getD i.toNat X).K != 1&&(l.getD i.toNat X).K != 2)<|Fc 29 (@Z2w l aa)<|Fa (by(simp only[Lf];omega):0<=i/\i.toNat<(Y Z0.dv l).length)<|Fa (by(simp only[Lf];omega):i.toNat<(Y Z0.dv l).length)<|Fa (by rw[Li];rfl:(Y Z0.dv l).set i.toNat [Zd 0,Zd 0,Zd 0,Zd 0]=Y Z0.dv y0)<|Fi 35 (i+1)<|Fu (@Ze4 l i aa aa aa)<|Fa (IL _:Cd (Y Z0.dv y0)) Fz
def ZdY(l:List Z0)(i:Int)(hl:l.length<=1048576)(hi:0<=i/\i<l.length)(hk:(l.getD i.toNat X).K=2):GP 136 [ZT l,nI i] La (.tu [ZT (BD l i.toNat (ZA l i.toNat)),nI 0]) []:=by have hne:l≠[]:=SS oq;exact gF [] func136 []<|Fh 10033 [.els (Y Z0.dv (l.set i.toNat (Z0.mk 0 0 0 0)))]<|FlG 14 (!decide (i<0)) Z0.dv l<|Ffb 16 (Z (i<0)||Z ((l.length:Int)<=i))<|Fe 19 Z0.dv l i<|Ffb 27 ((l.getD i.toNat X).K != 1&&(l.getD i.toNat X).K != 2)<|Fc 29 (@Z2w l aa)<|Fa (by(simp only[Lf];omega):0<=i/\i.toNat<(Y Z0.dv l).length)<|Fa (by(simp only[Lf];omega):i.toNat<(Y Z0.dv l).length)<|Fa (by rw[Li];rfl:(Y Z0.dv l).set i.toNat [Zd 0,Zd 0,Zd 0,Zd 0]=Y Z0.dv (l.set i.toNat (Z0.mk 0 0 0 0)))<|Fi 35 (i+1)<|Fu (@ZcQ l i aa aa aa)<|Fa (IL _:Cd (Y Z0.dv (BD l i.toNat (ZA l i.toNat)))) Fz
def frL(w:Z7)(a b:List Z0)(ws:List Int)(n:Int)(i:Nat):Tg:=⟨tm 88 [(0,.pt 0 0 0),(2,.pt 0 0 0),(21,ZT a),(22,nI a.length),(23,nI i)],[(0,.box 127 [nI w.j.C.pw,nI w.j.C.pg,.ow 25015,ZT b,nI w.j.S,nI w.j.B,Z2 w.old,ZE w.T,Z2 w.Q,nI w.D,nI w.rep.copied,nI w.rep.kept,nI w.rep.filled,nI n,nI w.rep.cleared,nI w.rep.steps]),(25015,.arr 35 1 (ws.map wD))],5⟩
section
variable(w:Z7)(qs ps:List Z0)(ws:List Int)(n:Int)(i:Nat)(hl:qs.length<=64)(hi:i<qs.length)
include hl hi
theorem ZkG(c:¬ Ez w.j.S (qs.getD i X)):CP (Zl f81 0) (frL w qs ps ws n i).st .nrm (frL w qs ps ws n (i+1)).st:=by unfold Ez at c;by_cases d:(qs.getD i X).K=0;exact sF [] []<|Ftb 24 (Z ((i:Int)<(qs.length:Int)))<|Fek 26 Z0.dv qs (↑i) i<|Ftb 39 ((qs.getD i X).K==0||(qs.getD i X).S != w.j.S)<|Fx 87 i Fz;have d2:¬ (qs.getD i X).S=w.j.S:=λq=>c ⟨d,q⟩;exact sF [] []<|Ftb 24 (Z ((i:Int)<(qs.length:Int)))<|Fek 26 Z0.dv qs (↑i) i<|Ftb 39 ((qs.getD i X).K==0||(qs.getD i X).S != w.j.S)<|Fx 87 i Fz
omit hl hi in
theorem Z1j a m:C3 (Y wD ws) a (Ln m [ZD 0])=Y wD (C6 ws a (Ln m 0)):=by simp[C3,wD,C6]
theorem Zkt(c:Ez w.j.S (qs.getD i default))(k3:(qs.getD i default).K=3)(hp:0≤w.j.C.pw∧w.j.C.pw≤64)(hw:i*w.j.C.pw.toNat+w.j.C.pw.toNat≤ws.length)(hw2:ws.length≤4096)(hn:0≤n∧n≤64):CSpec Tryz.prog (Zl Tryz.f81 0) (frL w qs ps ws n i).st .nrm (frL w qs ps (C6 ws (i*w.j.C.pw.toNat) (List.replicate w.j.C.pw.toNat 0)) (n+1) (i+1)).st:=by
 obtain⟨c1,c2⟩:=c
 have em:(i:Int)*w.j.C.pw=((i*w.j.C.pw.toNat:Nat):Int):=by rw[Int.natCast_mul,Int.toNat_of_nonneg hp.1]
 have em2:((i+1:Nat):Int)*w.j.C.pw=((i*w.j.C.pw.toNat+w.j.C.pw.toNat:Nat):Int):=by rw[Int.natCast_add,Int.add_mul,em];omega
 have t1:((i:Int)*w.j.C.pw).toNat=i*w.j.C.pw.toNat:=by omega
 have t2:(((i+1:Nat):Int)*w.j.C.pw).toNat-i*w.j.C.pw.toNat=w.j.C.pw.toNat:=by omega
 exact sF [] (fO 13)<|Fh 20000 [.els (List.map wD (List.take ((↑i:Int)*w.j.C.pw).toNat ws++List.replicate (((↑(i+1):Int)*w.j.C.pw).toNat-((↑i:Int)*w.j.C.pw).toNat) 0++List.drop (((↑i:Int)*w.j.C.pw).toNat+(List.replicate (((↑(i+1):Int)*w.j.C.pw).toNat-((↑i:Int)*w.j.C.pw).toNat) (0:Int)).length) ws))]<|Ftb 24 (decide ((↑i:Int)<(↑qs.length:Int)))<|Fek 26 Z0.dv qs (↑i) i<|Ffb 39 ((qs.getD i default).K==0||(qs.getD i default).S != w.j.S)<|Fi 50 ((↑i:Int)*w.j.C.pw)<|Fx 52 i<|Fi 58 ((↑(i+1):Int)*w.j.C.pw)<|Fa (by(simp only[List.length_map];omega):0≤(↑i:Int)*w.j.C.pw∧(↑i:Int)*w.j.C.pw≤(↑(i+1):Int)*w.j.C.pw∧(↑(i+1):Int)*w.j.C.pw≤(↑(List.map wD ws).length:Int))<|Fa (Z1j _ _ _:C3 (List.map wD ws) ((↑i:Int)*w.j.C.pw).toNat (List.replicate (((↑(i+1):Int)*w.j.C.pw).toNat-((↑i:Int)*w.j.C.pw).toNat) [ZD 0])=List.map wD (List.take ((↑i:Int)*w.j.C.pw).toNat ws++List.replicate (((↑(i+1):Int)*w.j.C.pw).toNat-((↑i:Int)*w.j.C.pw).toNat) 0++List.drop (((↑i:Int)*w.j.C.pw).toNat+(List.replicate (((↑(i+1):Int)*w.j.C.pw).toNat-((↑i:Int)*w.j.C.pw).toNat) (0:Int)).length) ws))<|Fi 65 (n+1)<|Ffb 71 ((qs.getD i default).K != 3)<|Fx 87 i<|Fr (35:Int)<|Fa (by refine congrArg _ ?_;rw[t1,t2];rfl:List.map wD (List.take ((↑i:Int)*w.j.C.pw).toNat ws++List.replicate (((↑(i+1):Int)*w.j.C.pw).toNat-((↑i:Int)*w.j.C.pw).toNat) 0++List.drop (((↑i:Int)*w.j.C.pw).toNat+(List.replicate (((↑(i+1):Int)*w.j.C.pw).toNat-((↑i:Int)*w.j.C.pw).toNat) (0:Int)).length) ws)=List.map wD (C6 ws (i*w.j.C.pw.toNat) (List.replicate w.j.C.pw.toNat 0))) Fz
theorem Zjs(c:Ez w.j.S (qs.getD i default))(k3:(qs.getD i default).K=1)(pl:ps.length≤64)(ip:i<ps.length)(kp:(ps.getD i default).K=1)(hp:0≤w.j.C.pw∧w.j.C.pw≤64)(hw:i*w.j.C.pw.toNat+w.j.C.pw.toNat≤ws.length)(hw2:ws.length≤4096)(hn:0≤n∧n≤64):CSpec Tryz.prog (Zl Tryz.f81 0) (frL w qs ps ws n i).st .nrm (frL w qs (ps.set i ⟨0,0,0,0⟩) (C6 ws (i*w.j.C.pw.toNat) (List.replicate w.j.C.pw.toNat 0)) (n+1) (i+1)).st:=by
 obtain⟨c1,c2⟩:=c
 have em:(i:Int)*w.j.C.pw=((i*w.j.C.pw.toNat:Nat):Int):=by rw[Int.natCast_mul,Int.toNat_of_nonneg hp.1]
 have em2:((i+1:Nat):Int)*w.j.C.pw=((i*w.j.C.pw.toNat+w.j.C.pw.toNat:Nat):Int):=by rw[Int.natCast_add,Int.add_mul,em];omega
 have t1:((i:Int)*w.j.C.pw).toNat=i*w.j.C.pw.toNat:=by omega
 have t2:(((i+1:Nat):Int)*w.j.C.pw).toNat-i*w.j.C.pw.toNat=w.j.C.pw.toNat:=by omega
 have kp2:(ps.getD (i:Int).toNat default).K=1:=kp
 exact sF [] (fO 13)<|Fh 20000 [.els (List.map wD (List.take ((↑i:Int)*w.j.C.pw).toNat ws++List.replicate (((↑(i+1):Int)*w.j.C.pw).toNat-((↑i:Int)*w.j.C.pw).toNat) 0++List.drop (((↑i:Int)*w.j.C.pw).toNat+(List.replicate (((↑(i+1):Int)*w.j.C.pw).toNat-((↑i:Int)*w.j.C.pw).toNat) (0:Int)).length) ws))]<|Ftb 24 (decide ((↑i:Int)<(↑qs.length:Int)))<|Fek 26 Z0.dv qs (↑i) i<|Ffb 39 ((qs.getD i default).K==0||(qs.getD i default).S != w.j.S)<|Fi 50 ((↑i:Int)*w.j.C.pw)<|Fx 52 i<|Fi 58 ((↑(i+1):Int)*w.j.C.pw)<|Fa (by(simp only[List.length_map];omega):0≤(↑i:Int)*w.j.C.pw∧(↑i:Int)*w.j.C.pw≤(↑(i+1):Int)*w.j.C.pw∧(↑(i+1):Int)*w.j.C.pw≤(↑(List.map wD ws).length:Int))<|Fa (Z1j _ _ _:C3 (List.map wD ws) ((↑i:Int)*w.j.C.pw).toNat (List.replicate (((↑(i+1):Int)*w.j.C.pw).toNat-((↑i:Int)*w.j.C.pw).toNat) [ZD 0])=List.map wD (List.take ((↑i:Int)*w.j.C.pw).toNat ws++List.replicate (((↑(i+1):Int)*w.j.C.pw).toNat-((↑i:Int)*w.j.C.pw).toNat) 0++List.drop (((↑i:Int)*w.j.C.pw).toNat+(List.replicate (((↑(i+1):Int)*w.j.C.pw).toNat-((↑i:Int)*w.j.C.pw).toNat) (0:Int)).length) ws))<|Fi 65 (n+1)<|Ftb 71 ((qs.getD i default).K != 3)<|Fc 78 (@Zf9 ps ((↑i:Int)) (by omega) (by omega) ‹_›)<|Fc 82 (@Hw (0) (by rfl))<|Fx 87 i<|Fr (35:Int)<|Fa (by refine congrArg _ ?_;rw[t1,t2];rfl:List.map wD (List.take ((↑i:Int)*w.j.C.pw).toNat ws++List.replicate (((↑(i+1):Int)*w.j.C.pw).toNat-((↑i:Int)*w.j.C.pw).toNat) 0++List.drop (((↑i:Int)*w.j.C.pw).toNat+(List.replicate (((↑(i+1):Int)*w.j.C.pw).toNat-((↑i:Int)*w.j.C.pw).toNat) (0:Int)).length) ws)=List.map wD (C6 ws (i*w.j.C.pw.toNat) (List.replicate w.j.C.pw.toNat 0))) Fz
theorem ZdO(c:Ez w.j.S (qs.getD i default))(k3:(qs.getD i default).K=2)(pl:ps.length≤64)(ip:i<ps.length)(kp:(ps.getD i default).K=2)(hp:0≤w.j.C.pw∧w.j.C.pw≤64)(hw:i*w.j.C.pw.toNat+w.j.C.pw.toNat≤ws.length)(hw2:ws.length≤4096)(hn:0≤n∧n≤64):CSpec Tryz.prog (Zl Tryz.f81 0) (frL w qs ps ws n i).st .nrm (frL w qs (BD ps i (ZA ps i)) (C6 ws (i*w.j.C.pw.toNat) (List.replicate w.j.C.pw.toNat 0)) (n+1) (i+1)).st:=by
 obtain⟨c1,c2⟩:=c
 have em:(i:Int)*w.j.C.pw=((i*w.j.C.pw.toNat:Nat):Int):=by rw[Int.natCast_mul,Int.toNat_of_nonneg hp.1]
 have em2:((i+1:Nat):Int)*w.j.C.pw=((i*w.j.C.pw.toNat+w.j.C.pw.toNat:Nat):Int):=by rw[Int.natCast_add,Int.add_mul,em];omega
 have t1:((i:Int)*w.j.C.pw).toNat=i*w.j.C.pw.toNat:=by omega
 have t2:(((i+1:Nat):Int)*w.j.C.pw).toNat-i*w.j.C.pw.toNat=w.j.C.pw.toNat:=by omega
 have kp2:(ps.getD (i:Int).toNat default).K=2:=kp
 exact sF [] (fO 13)<|Fh 20000 [.els (List.map wD (List.take ((↑i:Int)*w.j.C.pw).toNat ws++List.replicate (((↑(i+1):Int)*w.j.C.pw).toNat-((↑i:Int)*w.j.C.pw).toNat) 0++List.drop (((↑i:Int)*w.j.C.pw).toNat+(List.replicate (((↑(i+1):Int)*w.j.C.pw).toNat-((↑i:Int)*w.j.C.pw).toNat) (0:Int)).length) ws))]<|Ftb 24 (decide ((↑i:Int)<(↑qs.length:Int)))<|Fek 26 Z0.dv qs (↑i) i<|Ffb 39 ((qs.getD i default).K==0||(qs.getD i default).S != w.j.S)<|Fi 50 ((↑i:Int)*w.j.C.pw)<|Fx 52 i<|Fi 58 ((↑(i+1):Int)*w.j.C.pw)<|Fa (by(simp only[List.length_map];omega):0≤(↑i:Int)*w.j.C.pw∧(↑i:Int)*w.j.C.pw≤(↑(i+1):Int)*w.j.C.pw∧(↑(i+1):Int)*w.j.C.pw≤(↑(List.map wD ws).length:Int))<|Fa (Z1j _ _ _:C3 (List.map wD ws) ((↑i:Int)*w.j.C.pw).toNat (List.replicate (((↑(i+1):Int)*w.j.C.pw).toNat-((↑i:Int)*w.j.C.pw).toNat) [ZD 0])=List.map wD (List.take ((↑i:Int)*w.j.C.pw).toNat ws++List.replicate (((↑(i+1):Int)*w.j.C.pw).toNat-((↑i:Int)*w.j.C.pw).toNat) 0++List.drop (((↑i:Int)*w.j.C.pw).toNat+(List.replicate (((↑(i+1):Int)*w.j.C.pw).toNat-((↑i:Int)*w.j.C.pw).toNat) (0:Int)).length) ws))<|Fi 65 (n+1)<|Ftb 71 ((qs.getD i default).K != 3)<|Fc 78 (@ZdY ps ((↑i:Int)) (by omega) (by omega) ‹_›)<|Fc 82 (@Hw (0) (by rfl))<|Fx 87 i<|Fr (35:Int)<|Fa (by refine congrArg _ ?_;rw[t1,t2];rfl:List.map wD (List.take ((↑i:Int)*w.j.C.pw).toNat ws++List.replicate (((↑(i+1):Int)*w.j.C.pw).toNat-((↑i:Int)*w.j.C.pw).toNat) 0++List.drop (((↑i:Int)*w.j.C.pw).toNat+(List.replicate (((↑(i+1):Int)*w.j.C.pw).toNat-((↑i:Int)*w.j.C.pw).toNat) (0:Int)).length) ws)=List.map wD (C6 ws (i*w.j.C.pw.toNat) (List.replicate w.j.C.pw.toNat 0))) Fz
end
def Cb(s:Int)(a:List Z0):Nat->List Z0|0=>a|i+1=>if Ez s (a.getD i X)then(if(a.getD i X).K=1 then(Cb s a i).set i ⟨0,0,0,0⟩else if(a.getD i X).K=2 then BD (Cb s a i) i (ZA (Cb s a i) i)else Cb s a i)else Cb s a i
def Au s a:∀i,(Cb s a i).length=a.length
 |0=>rfl
 |i+1=>by
  have:=Au s a i;rw[Cb];split
  .split
   .rw[Lv];exact this
   .split
    .rw[T8];exact this
    .exact this
  .exact this
def Na(c:B2)(s:Int)(a:List Z0)(i j:Nat):Prop:=Ez s (a.getD j X)/\((a.getD j X).K=3->∃h,h<i/\h<j/\(a.getD h X).K=2/\(j:Int)<h+need c (a.getD h X).U)/\(¬ (a.getD j X).K=3->j<i)
section
variable{c:B2}{s:Int}{qs:List Z0}(P:PT c qs)
include P
theorem Z9q{h i:Nat}(hi:i<qs.length)(h1:h<i)(k1:(qs.getD h X).K=2)(a:¬ (qs.getD i X).K=3):(h:Int)+need c (qs.getD h X).U<=i:=by by_cases q:(h:Int)+need c (qs.getD h X).U<=i;exact q;have:=(P.lg h oq k1).2 (i-h) oq oq;rw[show h+(i-h)=i by omega]at this;exact absurd this.2.1 a
theorem Tf:∀i,i≤qs.length→∀j,j<qs.length→(Na c s qs i j→(Cb s qs i).getD j default=⟨0,0,0,0⟩)∧(¬ Na c s qs i j→(Cb s qs i).getD j default=qs.getD j default)
 |0,_,j,hj=>by
  refine⟨fun z=>?_,fun _=>rfl⟩
  by_cases k3:(qs.getD j default).K=3
  ·obtain⟨h,h0,_⟩:=z.2.1 k3;omega
  ·have:=z.2.2 k3;omega
 |i+1,hi,j,hj=>by
  obtain⟨h1,h2⟩:=Tf i (by omega) j hj
  have ln:=Au s qs i
  have same:(Na c s qs (i+1) j↔Na c s qs i j)→(Cb s qs (i+1)).getD j default=(Cb s qs i).getD j default→(Na c s qs (i+1) j→(Cb s qs (i+1)).getD j default=⟨0,0,0,0⟩)∧(¬ Na c s qs (i+1) j→(Cb s qs (i+1)).getD j default=qs.getD j default):=fun e1 e2=>by
   rw[e1,e2];exact⟨h1,h2⟩
  have up:Na c s qs i j→Na c s qs (i+1) j:=fun z=>⟨z.1,fun k=>by obtain⟨h,a,b⟩:=z.2.1 k;exact⟨h,by omega,b⟩,fun k=>by have:=z.2.2 k;omega⟩
  by_cases g:Ez s (qs.getD i default)
  rotate_left
  ·refine same ⟨fun z=>⟨z.1,fun k=>?_,fun k=>?_⟩,up⟩ (by rw[Cb,if_neg g])
   ·obtain⟨h,a,b,k2,d⟩:=z.2.1 k
    by_cases q:h=i
    ·subst q
     have t:=(P.lg h (by omega) k2).2 (j-h) (by omega) (by omega)
     rw[show h+(j-h)=j by omega]at t
     exact absurd ⟨by omega,by have:=z.1.2;have:=t.2.2;omega⟩ g
    ·exact⟨h,by omega,b,k2,d⟩
   ·have:=z.2.2 k
    by_cases q:j=i
    ·subst q;exact absurd z.1 g
    ·omega
  by_cases c1:(qs.getD i default).K=1
  ·have e:Cb s qs (i+1)=(Cb s qs i).set i ⟨0,0,0,0⟩:=by rw[Cb,if_pos g,if_pos c1]
   by_cases q:j=i
   ·subst q
    refine⟨fun _=>?_,fun z=>absurd ⟨g,fun k=>by omega,fun _=>by omega⟩ z⟩
    rw[e,List.getD_eq_getElem?_getD,List.getElem?_set_self (by omega)];rfl
   ·refine same ⟨fun z=>⟨z.1,fun k=>?_,fun k=>by have:=z.2.2 k;omega⟩,up⟩ (by rw[e,List.getD_eq_getElem?_getD,List.getElem?_set_ne (by omega),← List.getD_eq_getElem?_getD])
    obtain⟨h,a,b,k2,d⟩:=z.2.1 k
    have q:h<i:=by
     by_cases r:h=i
     ·subst r;omega
     ·omega
    exact⟨h,q,b,k2,d⟩
  by_cases c2:(qs.getD i default).K=2
  rotate_left
  ·have e:Cb s qs (i+1)=Cb s qs i:=by rw[Cb,if_pos g,if_neg c1,if_neg c2]
   have k3:(qs.getD i default).K=3:=by
    have:=(P.b i (by omega)).k
    have:=g.1
    omega
   refine same ⟨fun z=>⟨z.1,fun k=>?_,fun k=>?_⟩,up⟩ (by rw[e])
   ·obtain⟨h,a,b,k2,d⟩:=z.2.1 k
    have q:h<i:=by
     by_cases r:h=i
     ·subst r;omega
     ·omega
    exact⟨h,q,b,k2,d⟩
   ·have:=z.2.2 k
    by_cases q:j=i
    ·subst q;exact absurd k3 k
    ·omega
  ·have e:Cb s qs (i+1)=BD (Cb s qs i) i (ZA (Cb s qs i) i):=by rw[Cb,if_pos g,if_neg c1,if_pos c2]
   obtain⟨n1,nd⟩:=P.lg i (by omega) c2
   have mid:∀m:Nat,i<m→(m:Int)<i+need c (qs.getD i default).U→m<qs.length∧(qs.getD m default).K=3∧(qs.getD m default).S=s∧(Cb s qs i).getD m default=qs.getD m default:=fun m m1 m2=>by
    have t:=nd (m-i) (by omega) (by omega)
    rw[show i+(m-i)=m by omega]at t
    refine⟨t.1,t.2.1,t.2.2.trans g.2,(Tf i (by omega) m t.1).2 fun z=>?_⟩
    obtain⟨h,a,b,k2,d⟩:=z.2.1 t.2.1
    have:=Z9q P (by omega) a k2 (by omega)
    omega
   have T:((ZA (Cb s qs i) i:Nat):Int)+1=need c (qs.getD i default).U:=by
    by_cases q1:((ZA (Cb s qs i) i:Nat):Int)+1<need c (qs.getD i default).U
    ·obtain⟨m1,m2,_,m4⟩:=mid (i+1+ZA (Cb s qs i) i) (by omega) (by omega)
     have te:=Ts (l:=Cb s qs i) (i:=i) (by omega)
     rw[m4]at te
     exact absurd m2 te
    by_cases q2:need c (qs.getD i default).U<((ZA (Cb s qs i) i:Nat):Int)+1
    ·obtain⟨t1,t2⟩:=Rw (l:=Cb s qs i) (i:=i) (m:=(need c (qs.getD i default).U).toNat-1) (by omega)
     have eq:((i+1+((need c (qs.getD i default).U).toNat-1):Nat):Int)=i+need c (qs.getD i default).U:=by omega
     generalize i+1+((need c (qs.getD i default).U).toNat-1)=m at t1 t2 eq
     rw[ln]at t1
     have k3:(qs.getD m default).K=3:=by
      obtain⟨z1,z2⟩:=Tf i (by omega) m t1
      by_cases z:Na c s qs i m
      ·rw[z1 z]at t2;simp at t2
      ·rwa [z2 z]at t2
     obtain⟨h,a,k2,d⟩:=P.tl m t1 k3
     by_cases r1:h<i
     ·have:=Z9q P (by omega) r1 k2 (by omega);omega
     by_cases r2:h=i
     ·subst r2;omega
     ·have t:=nd (h-i) (by omega) (by omega)
      rw[show i+(h-i)=h by omega]at t
      omega
    ·omega
   rw[e,Z6C (by omega)]
   by_cases q:i≤j∧j≤i+ZA (Cb s qs i) i
   ·rw[if_pos q]
    refine⟨fun _=>rfl,fun z=>absurd ?_ z⟩
    by_cases q2:j=i
    ·subst q2;exact⟨g,fun k=>by omega,fun _=>by omega⟩
    ·obtain⟨m1,m2,m3,_⟩:=mid j (by omega) (by omega)
     exact⟨⟨by omega,m3⟩,fun _=>⟨i,by omega,by omega,c2,by omega⟩,fun k=>absurd m2 k⟩
   ·rw[if_neg q]
    have ez:Na c s qs (i+1) j↔Na c s qs i j:=⟨fun z=>⟨z.1,fun k=>by
     obtain⟨h,a,b,k2,d⟩:=z.2.1 k
     refine⟨h, ?_,b,k2,d⟩
     by_cases r:h=i
     ·subst r;omega
     ·omega,fun k=>by have:=z.2.2 k;omega⟩,up⟩
    rw[ez]
    exact⟨h1,h2⟩
theorem ZfW:Cb s qs qs.length=qs.map (E3 s):=by
 refine Lk (by rw[Au,Lf]) λj a b=>?_;rw[Au]at a;obtain⟨f,i⟩:=Tf P qs.length (Nat.le_refl _) j a;have d:(Cb s qs qs.length)[j]=(Cb s qs qs.length).getD j X:=by rw[Lg,Ll (by rw[Au];exact a)];rfl
 have e:qs[j]=qs.getD j X:=by rw[Lg,Ll a];rfl
 rw[Lm,d,e];unfold E3;by_cases g:Ez s (qs.getD j X);rw[if_pos g];exact f ⟨g,λk=>by obtain⟨h,x,y⟩:=P.tl j a k;exact⟨h,by omega,x,y⟩,λ_=>a⟩;rw[if_neg g];exact i λz=>g z.1
end
end Go.Proofs.YtgedmeaemofdkaaGreat
namespace Go.Sx
def Nt(b s:Nat)(els:List (List DV)):AV->AV|.ow k=>(match Lh k b with|La=>.d (.sl s els)|O=>.ow k)|.os k o n=>(match Lh k b with|La=>.any|O=>.os k o n)|.pt k i o=>(match Lh k b with|La=>.any|O=>.pt k i o)|x=>x
def MH(b s:Nat)(els:List (List DV)):Z4->Z4|.box ty cells=>.box ty (cells.map (HB (Nt b s els)))|B=>B
def NF(b s:Nat)(els:List (List DV)):List (Nat×Z4)->List (Nat×Z4)|[]=>[]|(k,B)::l=>match Lh k b with|true=>NF b s els l|false=>(k,MH b s els B)::NF b s els l
def Z2k(b:Nat)(t:Tg):Option Tg:=match Bn t.hl b,Nat.ble (b+1) (t.clk*8000)with|some (.arr _ s els),true=>Ld ⟨t.tmps.map (Ip (Nt b s els)),NF b s els t.hl,t.clk⟩|_,_=>none
def Z1l{b s els}:∀{l:List (Nat×Z4)} (k:Nat),Bn (NF b s els l) k=if k=b then none else(Bn l k).map (MH b s els)
 |[],k=>by simp[NF,Bn]
 |(j,B)::l,k=>by
  have a:=Z1l (b:=b) (s:=s) (els:=els) (l:=l) k;simp only[NF];cases hj:Lh j b with
  |true =>
   have e:=Lw hj;simp only[a,Bn];by_cases q:k=b
   .rw[if_pos q,if_pos q]
   .rw[if_neg q,if_neg q,if_neg oq]
  |false =>
   have e:=Nat.ne_of_beq_eq_false hj;simp only[Bn];by_cases q:k=j
   .rw[if_pos q,if_pos q,if_neg oq];rfl
   .rw[if_neg q,if_neg q,a]
def ZeD{b s els}{B:Z4}(h:MH b s els B≠.dead):B≠.dead:=by rintro rfl;exact h rfl
def Zhh{b}{t t':Tg}(h:Z2k b t=Ld t'){Ow Im0 w0 x w}(hS:Sys Ow Im0 w0 t.st.tmps t.st.H t.st.clk x w):Sys Ow Im0 w0 t'.st.tmps t'.st.H t'.st.clk x w:=by
 unfold Z2k at h;split at h;rotate_left;cases h;rename_i ty s els hb a0;cases h;have a0:=Nat.le_of_ble_eq_true a0;obtain⟨ρ,Im,I,T⟩:=hS;obtain⟨β,hρ,hs,hn,a8,a3,a1⟩:=I.blk b _ hb;let f:Nat->Prop:=λg=>Im g\/β.g=Ld g;have hi:∀g,Im g->f g:=λ_ h=>.inl h;have ow:∀{k:Nat} {v:Value},Zj ρ w Im (.ow k) v->Zj ρ w f (Nt b s els (.ow k)) v:=by
  intro k v hx;simp only[Nt];cases hk:Lh k b with
  |false=>cases hx with|ow d j m p=>exact .ow d j m p
  |true =>
   have e:=Lw hk;subst e;cases hx with
   |ow d j m p =>
    rw[hρ]at d;cases d;refine .d ?_;by_cases r:els=[];subst r;have:β.n=0:=by simpa using hn
    rw[this];exact .slNil _ _ _;have a9:0<els.length:=List.length_pos_iff.2 r;rcases p with p|⟨g,a,rfl,_⟩;omega;rcases a1 with⟨_,h5⟩|⟨g',cs,a2,hw,b1,hc⟩;exact absurd h5 r;rw[a]at a2;cases a2;have a5:∀(i:Nat) (e:List DV) (o:Nat) (y:DV),els[i]?=Ld e->e[o]?=Ld y->∃u,w.cell? ⟨g,0+(i*s+o),none⟩=Ld u/\Cz w Im y u:=by(intro i e o y r hy;obtain⟨u,k1,k2⟩:=hc i e o y r hy;exact⟨u,by simp[World.cell?,hw,k1],k2⟩)
    refine .sl s els ⟨g,0,none⟩ β.n _ (λi o=>(w.cell? ⟨g,0+(i*s+o),none⟩).getD undef) hn.symm j m a3 rfl (.inr a) ?_ ?_;intro i e o y r hy;obtain⟨u,k1,_⟩:=a5 i e o y r hy;rw[k1];rfl;intro i e o y r hy;obtain⟨u,k1,k2⟩:=a5 i e o y r hy;rw[k1];exact k2.mono (Ext.refl _ _) hi
 have os:∀{k o n:Nat} {v:Value},Zj ρ w Im (.os k o n) v->Zj ρ w f (Nt b s els (.os k o n)) v:=by(intro k o n v hx;simp only[Nt];split;exact .any _;cases hx with|os d j m p h5=>exact .os d j m p h5)
 have pt:∀{k i o:Nat} {v:Value},Zj ρ w Im (.pt k i o) v->Zj ρ w f (Nt b s els (.pt k i o)) v:=by(intro k i o v hx;simp only[Nt];split;exact .any _;obtain⟨g,s,n,d,rfl⟩:=NP hx;exact .pt d)
 have rB:∀{κ:Bi} {B:Z4},RelB ρ w Im κ B->RelB ρ w f κ (MH b s els B):=by
  intro κ B hB;cases B with|box ty cells =>obtain⟨h0,a6,g,cs,d,j,m,a7,p⟩:=hB;refine⟨by simpa using h0,a6,g,cs,d,j,by simpa using m,a7,λo x v hx hv=>?_⟩;simp only[Ls,Lo]at hx;obtain⟨y,hy,rfl⟩:=hx;exact DK hi (λ_ _ _ _ h=>pt h) (λ_ _ _ _ h=>os h) (λ_ _ h=>ow h) (p o y v hy hv)|arr ty s els=>exact RelB.arr_any (by rfl) hB hi|mp ks=>exact hB|dead=>trivial
 have hH:∀k B,Bn (NF b s els t.hl) k=Ld B->k≠b/\∃B',Bn t.hl k=Ld B'/\B=MH b s els B':=by(intro k B hk;rw[Z1l]at hk;by_cases q:k=b;rw[if_pos q]at hk;cases hk;rw[if_neg q]at hk;obtain⟨B',d,j⟩:=Lo.1 hk;exact⟨q,B',d,j.symm⟩)
 have c:∀k,live (Bn (NF b s els t.hl)) k->k≠b/\live t.st.H k:=by(rintro k ⟨B,d,j⟩;obtain⟨q,B',m,rfl⟩:=hH k B d;exact⟨q,B',m,ZeD j⟩)
 have lb:live t.st.H b:=⟨_,hb,by simp⟩;refine⟨ρ,f,⟨I.kept,λk k' β β' g l1 l2=>I.inj k k' β β' g (c k l1).2 (c k' l2).2,λk κ g l q q' a=>?_,I.bnd,I.own,λg a=>?_,λg a=>?_,λk B q=>?_,λk hk q=>?_,I.one⟩,⟨by rw[T.size];simp[Tg.st],λi y v hy hv=>?_,T.defers⟩⟩;obtain⟨ne,l⟩:=c k l;rcases a with a|a;exact I.notIm k κ g l q q' a;exact ne (I.inj k b κ β g l lb q hρ q' a);rcases a with a|a;exact I.imb g a;exact I.bnd b β g hρ a;rcases a with a|a;exact I.im0 g a;rcases I.own b β g hρ a with⟨h,_⟩|h;exact .inr (.inl h);exact .inr (.inr h);obtain⟨_,B',m,rfl⟩:=hH k B q;obtain⟨κ,p,h5⟩:=I.blk k B' m;exact⟨κ,p,rB h5⟩;rw[show({tmps:=t.tmps.map (Ip (Nt b s els)),hl:=NF b s els t.hl,clk:=t.clk:Tg}.st.H k)=Bn (NF b s els t.hl) k from rfl,Z1l]at q;have b0:t.clk*8000<=k:=hk;rw[if_neg oq]at q;exact I.fresh k hk (Option.map_eq_none_iff.1 q);have a4:(t.tmps.map (Ip (Nt b s els)))[i]?=Ld y:=hy;simp only[Ls,Lo]at a4;obtain⟨z,hz,rfl⟩:=a4;exact M8 hi (λ_ _ _ _ h=>pt h) (λ_ _ _ _ h=>os h) (λ_ _ h=>ow h) (T.tmp i z v hz hv)
def CSpec.frz{P c s e}{t t':Tg} b(h:CSpec P c s e t.st)(k:Z2k b t=Ld t'):CSpec P c s e t'.st:=
 λf d l a w j=>Code.wp_mono (λ_ _ _ ⟨g,i⟩=>⟨g,Zhh k i⟩) (h f d l a w j)
end Go.Sx
namespace Go.Proofs.YtgedmeaemofdkaaGreat
open Go.Sx
def Zaz w a b ws n:CP (Zl f81 0) (frL w a b ws n a.length).st (.ext 0) (Tg.st ⟨tm 88 [(0,.pt 0 0 0)],[(0,.box 127 [nI w.j.C.pw,nI w.j.C.pg,.ow 25015,ZT b,nI w.j.S,nI w.j.B,Z2 w.old,ZE w.T,Z2 w.Q,nI w.D,nI w.rep.copied,nI w.rep.kept,nI w.rep.filled,nI n,nI w.rep.cleared,nI w.rep.steps]),(25015,.arr 35 1 (ws.map wD))],5⟩):=by exact sF [] []<|Ffb 24 (Z ((a.length:Int)<(a.length:Int))) Fz
section
variable(w:Z7)(hl:w.j.P.length<=64)(a:0<=w.j.C.pw/\w.j.C.pw<=64)(hs:w.j.P.length*w.j.C.pw.toNat<=w.j.W.length)(hw:w.j.W.length<=4096)(hr:w.rep.freed=0)(P:PT w.j.C w.j.P)
include hl a hs hw hr P
theorem Zhk:CP (Zk f81 0) (Tg.st ⟨tm 88 [(0,.pt 0 0 0),(2,.pt 0 0 0),(21,ZT w.j.P),(22,nI w.j.P.length),(23,nI 0)],[(0,.box 127 [nI w.j.C.pw,nI w.j.C.pg,.ow 25015,ZT w.j.P,nI w.j.S,nI w.j.B,Z2 w.old,ZE w.T,Z2 w.Q,nI w.D,nI w.rep.copied,nI w.rep.kept,nI w.rep.filled,nI w.rep.freed,nI w.rep.cleared,nI w.rep.steps]),(25015,.arr 35 1 (w.j.W.map wD))],5⟩) .nrm (Tg.st ⟨tm 88 [(0,.pt 0 0 0)],[(0,(Hh w).evD)],5⟩):=by
 refine CSpec.frz 25015 (t:=⟨tm 88 [(0,.pt 0 0 0)],[(0,.box 127 [nI w.j.C.pw,nI w.j.C.pg,.ow 25015,ZT (w.j.P.map (E3 w.j.S)),nI w.j.S,nI w.j.B,Z2 w.old,ZE w.T,Z2 w.Q,nI w.D,nI w.rep.copied,nI w.rep.kept,nI w.rep.filled,nI (EQ w.rep.freed w.j.S w.j.P w.j.P.length),nI w.rep.cleared,nI w.rep.steps]),(25015,.arr 35 1 ((Ec w.j.C.pw w.j.S w.j.P w.j.W w.j.P.length).map wD))],5⟩) (Bp (S:=λk=>(frL w w.j.P (Cb w.j.S w.j.P k) (Ec w.j.C.pw w.j.S w.j.P w.j.W k) (EQ w.rep.freed w.j.S w.j.P k) k).st) w.j.P.length kr (λk hk=>?_) ?_) kr;have h1:=Au w.j.S w.j.P k;have h3:=TY (s:=w.j.S) hs k oq;have h4:=Z0n w.rep.freed w.j.S w.j.P k;have i:(k+1)*w.j.C.pw.toNat<=w.j.P.length*w.j.C.pw.toNat:=Nat.mul_le_mul_right _ hk;rw[Nat.add_mul,Nat.one_mul]at i;by_cases b:Ez w.j.S (w.j.P.getD k X);have f:Ec w.j.C.pw w.j.S w.j.P w.j.W (k+1)=C6 (Ec w.j.C.pw w.j.S w.j.P w.j.W k) (k*w.j.C.pw.toNat) (Ln w.j.C.pw.toNat 0):=by rw[Ec,if_pos b]
 have g:EQ w.rep.freed w.j.S w.j.P (k+1)=EQ w.rep.freed w.j.S w.j.P k+1:=by rw[EQ,if_pos b]
 have d:¬ (w.j.P.getD k X).K=3->(Cb w.j.S w.j.P k).getD k X=w.j.P.getD k X:=λq=>(Tf P k oq k hk).2 λz=>by have:=z.2.2 q;omega
 rw[f,g];by_cases k1:(w.j.P.getD k X).K=1;have c:Cb w.j.S w.j.P (k+1)=(Cb w.j.S w.j.P k).set k ⟨0,0,0,0⟩:=by rw[Cb,if_pos b,if_pos k1]
 rw[c];exact Zjs w _ _ _ _ k hl hk b k1 oq oq (by rw[d oq];exact k1) a oq oq oq;by_cases e:(w.j.P.getD k X).K=2;have c:Cb w.j.S w.j.P (k+1)=BD (Cb w.j.S w.j.P k) k (ZA (Cb w.j.S w.j.P k) k):=by rw[Cb,if_pos b,if_neg k1,if_pos e]
 rw[c];exact ZdO w _ _ _ _ k hl hk b e oq oq (by rw[d oq];exact e) a oq oq oq;have c:Cb w.j.S w.j.P (k+1)=Cb w.j.S w.j.P k:=by rw[Cb,if_pos b,if_neg k1,if_neg e]
 have kk:=(P.b k hk).k;have k0:=b.1;rw[c];exact Zkt w _ _ _ _ k hl hk b oq a oq oq oq;have c:Cb w.j.S w.j.P (k+1)=Cb w.j.S w.j.P k:=by rw[Cb,if_neg b]
 have f:Ec w.j.C.pw w.j.S w.j.P w.j.W (k+1)=Ec w.j.C.pw w.j.S w.j.P w.j.W k:=by rw[Ec,if_neg b]
 have g:EQ w.rep.freed w.j.S w.j.P (k+1)=EQ w.rep.freed w.j.S w.j.P k:=by rw[EQ,if_neg b]
 rw[c,f,g];exact ZkG w _ _ _ _ k hl hk b;have h:=Zaz w w.j.P (Cb w.j.S w.j.P w.j.P.length) (Ec w.j.C.pw w.j.S w.j.P w.j.W w.j.P.length) (EQ w.rep.freed w.j.S w.j.P w.j.P.length);simp only[ZfW P]at h⊢;exact h
theorem Ziv:BP 81 [.pt 0 0 0] [w.evD] (.tu []) [(Hh w).evD]:=by exact lF func81 []<|Fc 15 (@Mz w.j.W oq)<|Fl 22 Z0.dv w.j.P<|Fu (@Zhk w aa aa aa aa aa aa) Fz
end
end Go.Proofs.YtgedmeaemofdkaaGreat
