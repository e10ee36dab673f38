/-
 The statement GraphOrders: part 14.
 Conditions: none.
-/
import Derived.Test.YtgedmeaemofdkaaGreatN13
set_option maxRecDepth 100000
set_option maxHeartbeats 2000000
set_option linter.all false
open Inhabited renaming default->M
open List renaming map->La,length_map->Lf,length_cons->Lg,length_nil->Lh,drop->Li,map_drop->Lj,map_set->Lk,take->Ll,getD_eq_getElem?_getD->Lm,getElem?_eq_getElem->Ln,getElem_mem->Lo,length_set->Lp,map_append->Lq,map_take->Lr,mem_cons->Ls,not_mem_nil->Lt,replicate->Lu
open Bool renaming false->Lb,true->Lc
open Decidable renaming decide->Ld
open Go.IntKind renaming u64->Le
open Go.Proofs.Tryz
namespace Go.Proofs.YtgedmeaemofdkaaGreat
open Go.Sx
structure SOk (w:WorldM):Prop where
 W:WOk w.heap.W
 wl:1<=w.heap.W.length/\w.heap.W.length<=4096
 pl:1<=w.heap.P.length/\w.heap.P.length<=64
 cw:-1000<=w.heap.C.pw/\w.heap.C.pw<=1000
def MOk.so{w:WorldM}{n:Nat}(hm:MOk w n):SOk w:=by
 have a1:=area hm.hv;have a2:=validB_iff.1 hm.hv;have a3:=hm.L;have a4:=hm.pl;exact⟨hm.W,by omega,by omega,by omega⟩
def spT2(w:WorldM)(t:Tape):Tape:=(t.step (w.heap.W.length:Int)).step (w.heap.P.length:Int)
def spT3(w:WorldM)(t:Tape):Tape:=(spT2 w t).step 12
def spI(w:WorldM)(t:Tape):Nat:=(t.next (w.heap.W.length:Int)).toNat
def spP(w:WorldM)(t:Tape):Nat:=((t.step (w.heap.W.length:Int)).next (w.heap.P.length:Int)).toNat
def spPg(w:WorldM)(t:Tape):Page:=w.heap.P.getD (spP w t) M
def spList:List Int:=[0,1,5,21,4096,4097,4112,16386,1099511627776,61]
def pinQ(p:Page):Page:=if p.K=1 then⟨p.K,p.S,p.U,1⟩else p
def spV(w:WorldM)(t:Tape)(d:Int):Int:=if d<=1 then spList.getD ((spT3 w t).next 10).toNat M else bits .xor .u64 (w.heap.W.getD (spI w t) M) (Le.wrap (1*2^min ((spT3 w t).next 64).toNat 64))
def spQ(w:WorldM)(t:Tape)(d:Int):Page :=
 if d=3 then⟨(spT3 w t).next 5,(spPg w t).S,(spPg w t).U,(spPg w t).N⟩
 else if d=4 then⟨(spPg w t).K,(spT3 w t).next 3,(spPg w t).U,(spPg w t).N⟩
 else if d=5 then⟨(spPg w t).K,(spPg w t).S,(spPg w t).U+(spT3 w t).next 9-4,(spPg w t).N⟩
 else⟨(spPg w t).K,(spPg w t).S,(spPg w t).U,(spT3 w t).next 3-1⟩
def spH(w:WorldM)(t:Tape)(d:Int):Heap :=
 if d<=2 then⟨w.heap.C,w.heap.W.set (spI w t) (spV w t d),w.heap.P,w.heap.S,w.heap.B⟩
 else if d<=6 then⟨w.heap.C,w.heap.W,w.heap.P.set (spP w t) (spQ w t d),w.heap.S,w.heap.B⟩
 else if d=7 then⟨w.heap.C,w.heap.W,w.heap.P,(spT3 w t).next 3,w.heap.B⟩
 else if d=8 then⟨w.heap.C,w.heap.W,w.heap.P,w.heap.S,(spT3 w t).next ((w.heap.P.length+2:Nat):Int)-1⟩
 else if d=9 then⟨⟨w.heap.C.pw+4,w.heap.C.pg⟩,w.heap.W,w.heap.P,w.heap.S,w.heap.B⟩
 else if d=10 then⟨w.heap.C,w.heap.W,w.heap.P.drop 1,w.heap.S,w.heap.B⟩
 else⟨w.heap.C,w.heap.W,w.heap.P.map pinQ,w.heap.S,w.heap.B⟩
def spN(w:WorldM)(d:Int):Int:=if d<=1 then 10 else if d=2 then 64 else if d=3 then 5 else if d=4 then 3 else if d=5 then 9 else if d=6 then 3 else if d=7 then 3 else if d=8 then((w.heap.P.length+2:Nat):Int)else 0
def WorldM.spoil(w:WorldM)(t:Tape):WorldM:=⟨spH w t ((spT2 w t).next 12),w.G,w.E⟩
def WorldM.spoilT(w:WorldM)(t:Tape):Tape:=if(spT2 w t).next 12<=8 then(spT3 w t).step (spN w ((spT2 w t).next 12))else spT3 w t
def pinL(w:WorldM)(tp:Tape)(i:Nat):Tg:=⟨tm 156 [(2,.pt 16002 0 0),(4,.pt 16004 0 0),(5,.pt 24005 0 0),(8,int i)],[(0,tp.b),(24005,.box 28 [int w.heap.C.pw,int w.heap.C.pg,.ow 32014,.ow 32018,int w.heap.S,int w.heap.B]),(32018,.arr 86 4 ((preM pinQ w.heap.P i).map Page.dv)),(32014,.arr 35 1 (w.heap.W.map wdv)),(16004,.box 30 [int 0,int 0,.d (.sl 0 []),.d (.sl 0 []),int 0,int 0,.d (.sl 0 []),.d (.sl 0 [])]),(16002,.box 30 w.cells)],60⟩
def Zkf(w:WorldM)(tp:Tape)(i:Nat)(hl:w.heap.P.length<=64)(hi:i<w.heap.P.length):CP (rndF f33 1) (pinL w tp i).st .nrm (pinL w tp (i+1)).st:=by
 have ha:=Z7t pinQ w.heap.P (Nat.le_refl i) M;have hn:=Z3x pinQ w.heap.P i;by_cases hc:(w.heap.P.getD i M).K=1
 .have hq:=Z5Y pinQ w.heap.P hi M;rw[show pinQ (w.heap.P.getD i M)=⟨(w.heap.P.getD i M).K,(w.heap.P.getD i M).S,(w.heap.P.getD i M).U,1⟩ by rw[pinQ,if_pos hc],<- ha]at hq;rw[<- ha]at hc;rcases bb (((preM pinQ w.heap.P i).getD (i:Int).toNat M).K==1)with hc0 | hc0<;>have hc0p:=hc0<;>simp only[bs]at hc0p
  .let y1:=preM pinQ w.heap.P i;let y0:=y1.getD (i:Int).toNat M;exact sF [] (fO 6) (FM 137 138 Page.dv y1 i (Fmq 146 Page.dv y1 (↑i) (Ft 147 hc0 (Fm0q Page.dv y1 (↑i) (FS 10152 Page.dv y1 ((i:Int).toNat) (Page.mk y0.K y0.S y0.U 1) (y0.dv) (Fx 140 i (Fr (86:Int) (Fa (by refine congrArg _ ?_;exact hq:La Page.dv (y1.set (i:Int).toNat (Page.mk y0.K y0.S y0.U 1))=La Page.dv (preM pinQ w.heap.P (i+1))) Fz))))))))
  .contradiction
 .have hq:=Z7Q pinQ w.heap.P hi M (by rw[pinQ,if_neg hc]);rw[<- ha]at hc;rcases bb (((preM pinQ w.heap.P i).getD (i:Int).toNat M).K==1)with hc0 | hc0<;>have hc0p:=hc0<;>simp only[bs]at hc0p
  .contradiction
  .let y2:=preM pinQ w.heap.P i;exact sF [] (fO 6) (FM 137 138 Page.dv y2 i (Fmq 146 Page.dv y2 (↑i) (Ff 147 hc0 (Fx 140 i (Fr (86:Int) (Fa (by refine congrArg _ ?_;exact hq:La Page.dv y2=La Page.dv (preM pinQ w.heap.P (i+1))) Fz))))))
def ZoN(w:WorldM)(tp:Tape):CP (rndF f33 1) (pinL w tp w.heap.P.length).st (.ext 1) (Tg.st ⟨tm 156 [(2,.pt 16002 0 0),(4,.pt 16004 0 0),(5,.pt 24005 0 0)],[(0,tp.b),(24005,.box 28 [int w.heap.C.pw,int w.heap.C.pg,.ow 32014,.ow 32018,int w.heap.S,int w.heap.B]),(32018,.arr 86 4 ((w.heap.P.map pinQ).map Page.dv)),(32014,.arr 35 1 (w.heap.W.map wdv)),(16004,.box 30 [int 0,int 0,.d (.sl 0 []),.d (.sl 0 []),int 0,int 0,.d (.sl 0 []),.d (.sl 0 [])]),(16002,.box 30 w.cells)],60⟩):=by
 have hq:=Z7k pinQ w.heap.P;have hn:=Z3x pinQ w.heap.P w.heap.P.length;let y0:=preM pinQ w.heap.P w.heap.P.length;exact sF [] (fO 5) (Fl 137 Page.dv y0 (Ffb 138 (Ld ((w.heap.P.length:Int)<(y0.length:Int))) (Fr (86:Int) (Fa (by refine congrArg _ ?_;assumption:La Page.dv y0=La Page.dv (La pinQ w.heap.P)) Fz))))
def Zmz(w:WorldM)(tp:Tape)(hl:w.heap.P.length<=64):CP (blkF f33 1) (Tg.st ⟨tm 156 [(2,.pt 16002 0 0),(4,.pt 16004 0 0),(5,.pt 24005 0 0),(8,int 0)],[(0,tp.b),(24005,.box 28 [int w.heap.C.pw,int w.heap.C.pg,.ow 32014,.ow 32018,int w.heap.S,int w.heap.B]),(32018,.arr 86 4 (w.heap.P.map Page.dv)),(32014,.arr 35 1 (w.heap.W.map wdv)),(16004,.box 30 [int 0,int 0,.d (.sl 0 []),.d (.sl 0 []),int 0,int 0,.d (.sl 0 []),.d (.sl 0 [])]),(16002,.box 30 w.cells)],60⟩) .nrm (Tg.st ⟨tm 156 [(2,.pt 16002 0 0),(4,.pt 16004 0 0),(5,.pt 24005 0 0)],[(0,tp.b),(24005,.box 28 [int w.heap.C.pw,int w.heap.C.pg,.ow 32014,.ow 32018,int w.heap.S,int w.heap.B]),(32018,.arr 86 4 ((w.heap.P.map pinQ).map Page.dv)),(32014,.arr 35 1 (w.heap.W.map wdv)),(16004,.box 30 [int 0,int 0,.d (.sl 0 []),.d (.sl 0 []),int 0,int 0,.d (.sl 0 []),.d (.sl 0 [])]),(16002,.box 30 w.cells)],60⟩):=by
 have:=Z08 (S:=λk=>(pinL w tp k).st) w.heap.P.length kr (λk hk=>Zkf w tp k hl hk) (ZoN w tp);simp only[pinL,ZbK]at this;exact this
def ZbU(w:WorldM)(t:Tape)(hm:SOk w)(ht:TOk t)(ha:t.at'<=900000)(hus:∀ j,j<w.heap.P.length->-1099511627776<=(w.heap.P.getD j M).U/\(w.heap.P.getD j M).U<=1099511627776):LP 33 [w.av,.pt 0 0 0] [t.b] (w.spoil t).av [(w.spoilT t).b]:=by
 have s1:=Z2M (t:=t) (w.heap.W.length:Int);have s2:(t.step (w.heap.W.length:Int)).at'<=(spT2 w t).at'/\(spT2 w t).at'<=(t.step (w.heap.W.length:Int)).at'+1/\(spT2 w t).l=(t.step (w.heap.W.length:Int)).l:=Z2M _;have s3:(spT2 w t).at'<=(spT3 w t).at'/\(spT3 w t).at'<=(spT2 w t).at'+1/\(spT3 w t).l=(spT2 w t).l:=Z2M _;have k1:=Z3n ht s1.2.2 oq oq;have k2:TOk (spT2 w t):=Z3n k1 s2.2.2 oq oq;have k3:TOk (spT3 w t):=Z3n k2 s3.2.2 oq oq;have a1:=hm.wl;have a2:=hm.pl;have a3:=hm.cw;have hw:=hm.W;have n1:=Z0Q t (n:=(w.heap.W.length:Int)) oq;have n2:=Z0Q (t.step (w.heap.W.length:Int)) (n:=(w.heap.P.length:Int)) oq;have n:=Z0Q (spT2 w t) (n:=12) dd;have hd:(spT2 w t).next 12=0\/(spT2 w t).next 12=1\/(spT2 w t).next 12=2\/(spT2 w t).next 12=3\/(spT2 w t).next 12=4\/(spT2 w t).next 12=5\/(spT2 w t).next 12=6\/(spT2 w t).next 12=7\/(spT2 w t).next 12=8\/(spT2 w t).next 12=9\/(spT2 w t).next 12=10\/(spT2 w t).next 12=11:=by omega
 have n3:=λ(n:Int) (h:1<=n)=>Z0Q (spT3 w t) (n:=n) h;have pu:=hus (spP w t);have e7:w.spoil t=⟨spH w t ((spT2 w t).next 12),w.G,w.E⟩:=rfl;have e8:w.spoilT t=if(spT2 w t).next 12<=8 then(spT3 w t).step (spN w ((spT2 w t).next 12))else spT3 w t:=rfl
 have hq:Ll ((↑(La Page.dv w.heap.P).length:Int).toNat-Int.toNat 1) (Li (Int.toNat 1) (La Page.dv w.heap.P))=La Page.dv (w.heap.P.drop 1):=by
  show Ll _ (Li 1 (La Page.dv w.heap.P))=_;rw[<- Lj];exact List.take_of_length_le pq
 unfold spT3 spT2 spP at *;rcases hd with hd | hd | hd | hd | hd | hd | hd | hd | hd | hd | hd | hd<;>rw[e7,e8,hd]<;>simp only[spH,spN,spV,spQ,spPg,spI,spP,spT3,spT2,Int.reduceLE,Int.reduceEq,if_true,if_false,reduceIte]<;>clear e7 e8
 .have n3:=n3 10 oq;exact lF func33 [] (Fh 10044 [.els (La wdv (w.heap.W.set (t.next (w.heap.W.length:Int)).toNat ([0,1,5,21,4096,4097,4112,16386,1099511627776,61].getD ((((t.step (w.heap.W.length:Int)).step (w.heap.P.length:Int)).step 12).next 10).toNat M)))] (FA 11 14 wdv w.heap.W (FA 15 18 Page.dv w.heap.P (Fl 24 wdv w.heap.W (Fp 25 (@Z0d t ((w.heap.W.length:Int)) aa oq oq) (Fl 29 Page.dv w.heap.P (Fp 30 (@Z0d (t.step (w.heap.W.length:Int)) ((w.heap.P.length:Int)) aa oq oq) (Fp 32 (@Z0M ((t.step (w.heap.W.length:Int)).step (w.heap.P.length:Int)) (0) aa aa) (Fs 39 (La wdv [0,1,5,21,4096,4097,4112,16386,1099511627776,61]) (Fp 41 (@Z0d (((t.step (w.heap.W.length:Int)).step (w.heap.P.length:Int)).step 12) (10) aa oq oq) (Fmq 43 wdv [0,1,5,21,4096,4097,4112,16386,1099511627776,61] ((((t.step (w.heap.W.length:Int)).step (w.heap.P.length:Int)).step 12).next 10) (Fa (by(simp only[Lf,Lg,Lh];omega):0<=t.next (w.heap.W.length:Int)/\(t.next (w.heap.W.length:Int)).toNat<(La wdv w.heap.W).length) (Fa (by(simp only[Lf,Lg,Lh];omega):(t.next (w.heap.W.length:Int)).toNat<(La wdv w.heap.W).length) (Fa (by simp[spList,Lr,Lj,Lk,Lq,wdv,idv]:(La wdv w.heap.W).set (t.next (w.heap.W.length:Int)).toNat [du64 ([0,1,5,21,4096,4097,4112,16386,1099511627776,61].getD ((((t.step (w.heap.W.length:Int)).step (w.heap.P.length:Int)).step 12).next 10).toNat M)]=La wdv (w.heap.W.set (t.next (w.heap.W.length:Int)).toNat ([0,1,5,21,4096,4097,4112,16386,1099511627776,61].getD ((((t.step (w.heap.W.length:Int)).step (w.heap.P.length:Int)).step 12).next 10).toNat M))) Fz))))))))))))))
 .have n3:=n3 10 oq;exact lF func33 [] (Fh 10044 [.els (La wdv (w.heap.W.set (t.next (w.heap.W.length:Int)).toNat ([0,1,5,21,4096,4097,4112,16386,1099511627776,61].getD ((((t.step (w.heap.W.length:Int)).step (w.heap.P.length:Int)).step 12).next 10).toNat M)))] (FA 11 14 wdv w.heap.W (FA 15 18 Page.dv w.heap.P (Fl 24 wdv w.heap.W (Fp 25 (@Z0d t ((w.heap.W.length:Int)) aa oq oq) (Fl 29 Page.dv w.heap.P (Fp 30 (@Z0d (t.step (w.heap.W.length:Int)) ((w.heap.P.length:Int)) aa oq oq) (Fp 32 (@Z0M ((t.step (w.heap.W.length:Int)).step (w.heap.P.length:Int)) (1) aa aa) (Fs 39 (La wdv [0,1,5,21,4096,4097,4112,16386,1099511627776,61]) (Fp 41 (@Z0d (((t.step (w.heap.W.length:Int)).step (w.heap.P.length:Int)).step 12) (10) aa oq oq) (Fmq 43 wdv [0,1,5,21,4096,4097,4112,16386,1099511627776,61] ((((t.step (w.heap.W.length:Int)).step (w.heap.P.length:Int)).step 12).next 10) (Fa (by(simp only[Lf,Lg,Lh];omega):0<=t.next (w.heap.W.length:Int)/\(t.next (w.heap.W.length:Int)).toNat<(La wdv w.heap.W).length) (Fa (by(simp only[Lf,Lg,Lh];omega):(t.next (w.heap.W.length:Int)).toNat<(La wdv w.heap.W).length) (Fa (by simp[spList,Lr,Lj,Lk,Lq,wdv,idv]:(La wdv w.heap.W).set (t.next (w.heap.W.length:Int)).toNat [du64 ([0,1,5,21,4096,4097,4112,16386,1099511627776,61].getD ((((t.step (w.heap.W.length:Int)).step (w.heap.P.length:Int)).step 12).next 10).toNat M)]=La wdv (w.heap.W.set (t.next (w.heap.W.length:Int)).toNat ([0,1,5,21,4096,4097,4112,16386,1099511627776,61].getD ((((t.step (w.heap.W.length:Int)).step (w.heap.P.length:Int)).step 12).next 10).toNat M))) Fz))))))))))))))
 .have n3:=n3 64 oq;exact lF func33 [] (Fh 10057 [.els (La wdv (w.heap.W.set (t.next (w.heap.W.length:Int)).toNat (bits BinOp.xor Le (w.heap.W.getD (t.next (w.heap.W.length:Int)).toNat M) (Le.wrap ((1:Int)*2^min ((((t.step (w.heap.W.length:Int)).step (w.heap.P.length:Int)).step 12).next 64).toNat 64)))))] (FA 11 14 wdv w.heap.W (FA 15 18 Page.dv w.heap.P (Fl 24 wdv w.heap.W (Fp 25 (@Z0d t ((w.heap.W.length:Int)) aa oq oq) (Fl 29 Page.dv w.heap.P (Fp 30 (@Z0d (t.step (w.heap.W.length:Int)) ((w.heap.P.length:Int)) aa oq oq) (Fp 32 (@Z0M ((t.step (w.heap.W.length:Int)).step (w.heap.P.length:Int)) (2) aa aa) (Fmq 51 wdv w.heap.W (t.next (w.heap.W.length:Int)) (Fp 53 (@Z0d (((t.step (w.heap.W.length:Int)).step (w.heap.P.length:Int)).step 12) (64) aa oq oq) (Fv 54 ((((t.step (w.heap.W.length:Int)).step (w.heap.P.length:Int)).step 12).next 64) (Fo (0<=(((t.step (w.heap.W.length:Int)).step (w.heap.P.length:Int)).step 12).next 64) (Fa (by(simp only[Lf,Lg,Lh];omega):0<=t.next (w.heap.W.length:Int)/\(t.next (w.heap.W.length:Int)).toNat<(La wdv w.heap.W).length) (Fa (by(simp only[Lf,Lg,Lh];omega):(t.next (w.heap.W.length:Int)).toNat<(La wdv w.heap.W).length) (Fa (by rw[Lk];rfl:(La wdv w.heap.W).set (t.next (w.heap.W.length:Int)).toNat [du64 (bits BinOp.xor Le (w.heap.W.getD (t.next (w.heap.W.length:Int)).toNat M) (Le.wrap ((1:Int)*2^min ((((t.step (w.heap.W.length:Int)).step (w.heap.P.length:Int)).step 12).next 64).toNat Le.bits)))]=La wdv (w.heap.W.set (t.next (w.heap.W.length:Int)).toNat (bits BinOp.xor Le (w.heap.W.getD (t.next (w.heap.W.length:Int)).toNat M) (Le.wrap ((1:Int)*2^min ((((t.step (w.heap.W.length:Int)).step (w.heap.P.length:Int)).step 12).next 64).toNat 64))))) Fz)))))))))))))))
 .have n3:=n3 5 oq;exact lF func33 [] (FA 11 14 wdv w.heap.W (FA 15 18 Page.dv w.heap.P (Fl 24 wdv w.heap.W (Fp 25 (@Z0d t ((w.heap.W.length:Int)) aa oq oq) (Fl 29 Page.dv w.heap.P (Fp 30 (@Z0d (t.step (w.heap.W.length:Int)) ((w.heap.P.length:Int)) aa oq oq) (Fp 32 (@Z0M ((t.step (w.heap.W.length:Int)).step (w.heap.P.length:Int)) (3) aa aa) (Fp 64 (@Z0d (((t.step (w.heap.W.length:Int)).step (w.heap.P.length:Int)).step 12) (5) aa oq oq) (Fm0q Page.dv w.heap.P ((t.step (w.heap.W.length:Int)).next (w.heap.P.length:Int)) (FS 10066 Page.dv w.heap.P (((t.step (w.heap.W.length:Int)).next (w.heap.P.length:Int)).toNat) (Page.mk ((((t.step (w.heap.W.length:Int)).step (w.heap.P.length:Int)).step 12).next 5) (w.heap.P.getD ((t.step (w.heap.W.length:Int)).next (w.heap.P.length:Int)).toNat M).S (w.heap.P.getD ((t.step (w.heap.W.length:Int)).next (w.heap.P.length:Int)).toNat M).U (w.heap.P.getD ((t.step (w.heap.W.length:Int)).next (w.heap.P.length:Int)).toNat M).N) ((w.heap.P.getD ((t.step (w.heap.W.length:Int)).next (w.heap.P.length:Int)).toNat M).dv) Fz))))))))))
 .have n3:=n3 3 oq;exact lF func33 [] (FA 11 14 wdv w.heap.W (FA 15 18 Page.dv w.heap.P (Fl 24 wdv w.heap.W (Fp 25 (@Z0d t ((w.heap.W.length:Int)) aa oq oq) (Fl 29 Page.dv w.heap.P (Fp 30 (@Z0d (t.step (w.heap.W.length:Int)) ((w.heap.P.length:Int)) aa oq oq) (Fp 32 (@Z0M ((t.step (w.heap.W.length:Int)).step (w.heap.P.length:Int)) (4) aa aa) (Fp 73 (@Z0d (((t.step (w.heap.W.length:Int)).step (w.heap.P.length:Int)).step 12) (3) aa oq oq) (Fm0q Page.dv w.heap.P ((t.step (w.heap.W.length:Int)).next (w.heap.P.length:Int)) (FS 10075 Page.dv w.heap.P (((t.step (w.heap.W.length:Int)).next (w.heap.P.length:Int)).toNat) (Page.mk (w.heap.P.getD ((t.step (w.heap.W.length:Int)).next (w.heap.P.length:Int)).toNat M).K ((((t.step (w.heap.W.length:Int)).step (w.heap.P.length:Int)).step 12).next 3) (w.heap.P.getD ((t.step (w.heap.W.length:Int)).next (w.heap.P.length:Int)).toNat M).U (w.heap.P.getD ((t.step (w.heap.W.length:Int)).next (w.heap.P.length:Int)).toNat M).N) ((w.heap.P.getD ((t.step (w.heap.W.length:Int)).next (w.heap.P.length:Int)).toNat M).dv) Fz))))))))))
 .have n3:=n3 9 oq;exact lF func33 [] (FA 11 14 wdv w.heap.W (FA 15 18 Page.dv w.heap.P (Fl 24 wdv w.heap.W (Fp 25 (@Z0d t ((w.heap.W.length:Int)) aa oq oq) (Fl 29 Page.dv w.heap.P (Fp 30 (@Z0d (t.step (w.heap.W.length:Int)) ((w.heap.P.length:Int)) aa oq oq) (Fp 32 (@Z0M ((t.step (w.heap.W.length:Int)).step (w.heap.P.length:Int)) (5) aa aa) (Fmq 86 Page.dv w.heap.P ((t.step (w.heap.W.length:Int)).next (w.heap.P.length:Int)) (Fp 88 (@Z0d (((t.step (w.heap.W.length:Int)).step (w.heap.P.length:Int)).step 12) (9) aa oq oq) (Fi 89 ((w.heap.P.getD ((t.step (w.heap.W.length:Int)).next (w.heap.P.length:Int)).toNat M).U+(((t.step (w.heap.W.length:Int)).step (w.heap.P.length:Int)).step 12).next 9) (Fi 90 ((w.heap.P.getD ((t.step (w.heap.W.length:Int)).next (w.heap.P.length:Int)).toNat M).U+(((t.step (w.heap.W.length:Int)).step (w.heap.P.length:Int)).step 12).next (9:Int)-4) (Fm0q Page.dv w.heap.P ((t.step (w.heap.W.length:Int)).next (w.heap.P.length:Int)) (FS 10092 Page.dv w.heap.P (((t.step (w.heap.W.length:Int)).next (w.heap.P.length:Int)).toNat) (Page.mk (w.heap.P.getD ((t.step (w.heap.W.length:Int)).next (w.heap.P.length:Int)).toNat M).K (w.heap.P.getD ((t.step (w.heap.W.length:Int)).next (w.heap.P.length:Int)).toNat M).S ((w.heap.P.getD ((t.step (w.heap.W.length:Int)).next (w.heap.P.length:Int)).toNat M).U+(((t.step (w.heap.W.length:Int)).step (w.heap.P.length:Int)).step 12).next (9:Int)-4) (w.heap.P.getD ((t.step (w.heap.W.length:Int)).next (w.heap.P.length:Int)).toNat M).N) ((w.heap.P.getD ((t.step (w.heap.W.length:Int)).next (w.heap.P.length:Int)).toNat M).dv) Fz)))))))))))))
 .have n3:=n3 3 oq;exact lF func33 [] (FA 11 14 wdv w.heap.W (FA 15 18 Page.dv w.heap.P (Fl 24 wdv w.heap.W (Fp 25 (@Z0d t ((w.heap.W.length:Int)) aa oq oq) (Fl 29 Page.dv w.heap.P (Fp 30 (@Z0d (t.step (w.heap.W.length:Int)) ((w.heap.P.length:Int)) aa oq oq) (Fp 32 (@Z0M ((t.step (w.heap.W.length:Int)).step (w.heap.P.length:Int)) (6) aa aa) (Fp 99 (@Z0d (((t.step (w.heap.W.length:Int)).step (w.heap.P.length:Int)).step 12) (3) aa oq oq) (Fi 100 ((((t.step (w.heap.W.length:Int)).step (w.heap.P.length:Int)).step 12).next (3:Int)-1) (Fm0q Page.dv w.heap.P ((t.step (w.heap.W.length:Int)).next (w.heap.P.length:Int)) (FS 10102 Page.dv w.heap.P (((t.step (w.heap.W.length:Int)).next (w.heap.P.length:Int)).toNat) (Page.mk (w.heap.P.getD ((t.step (w.heap.W.length:Int)).next (w.heap.P.length:Int)).toNat M).K (w.heap.P.getD ((t.step (w.heap.W.length:Int)).next (w.heap.P.length:Int)).toNat M).S (w.heap.P.getD ((t.step (w.heap.W.length:Int)).next (w.heap.P.length:Int)).toNat M).U ((((t.step (w.heap.W.length:Int)).step (w.heap.P.length:Int)).step 12).next (3:Int)-1)) ((w.heap.P.getD ((t.step (w.heap.W.length:Int)).next (w.heap.P.length:Int)).toNat M).dv) Fz)))))))))))
 .have n3:=n3 3 oq;exact lF func33 [] (FA 11 14 wdv w.heap.W (FA 15 18 Page.dv w.heap.P (Fl 24 wdv w.heap.W (Fp 25 (@Z0d t ((w.heap.W.length:Int)) aa oq oq) (Fl 29 Page.dv w.heap.P (Fp 30 (@Z0d (t.step (w.heap.W.length:Int)) ((w.heap.P.length:Int)) aa oq oq) (Fp 32 (@Z0M ((t.step (w.heap.W.length:Int)).step (w.heap.P.length:Int)) (7) aa aa) (Fp 106 (@Z0d (((t.step (w.heap.W.length:Int)).step (w.heap.P.length:Int)).step 12) (3) aa oq oq) Fz))))))))
 .have n3:=n3 ((w.heap.P.length+2:Nat):Int) oq;exact lF func33 [] (FA 11 14 wdv w.heap.W (FA 15 18 Page.dv w.heap.P (Fl 24 wdv w.heap.W (Fp 25 (@Z0d t ((w.heap.W.length:Int)) aa oq oq) (Fl 29 Page.dv w.heap.P (Fp 30 (@Z0d (t.step (w.heap.W.length:Int)) ((w.heap.P.length:Int)) aa oq oq) (Fp 32 (@Z0M ((t.step (w.heap.W.length:Int)).step (w.heap.P.length:Int)) (8) aa aa) (Fl 113 Page.dv w.heap.P (Fw 114 ((w.heap.P.length:Int)+2) (↑(w.heap.P.length+2):Int) (Fp 115 (@Z0d (((t.step (w.heap.W.length:Int)).step (w.heap.P.length:Int)).step 12) ((↑(w.heap.P.length+2):Int)) aa oq oq) (Fi 116 ((((t.step (w.heap.W.length:Int)).step (w.heap.P.length:Int)).step 12).next (↑(w.heap.P.length+2):Int)-1) Fz)))))))))))
 .exact lF func33 [] (FA 11 14 wdv w.heap.W (FA 15 18 Page.dv w.heap.P (Fl 24 wdv w.heap.W (Fp 25 (@Z0d t ((w.heap.W.length:Int)) aa oq oq) (Fl 29 Page.dv w.heap.P (Fp 30 (@Z0d (t.step (w.heap.W.length:Int)) ((w.heap.P.length:Int)) aa oq oq) (Fp 32 (@Z0M ((t.step (w.heap.W.length:Int)).step (w.heap.P.length:Int)) (9) aa aa) (Fi 123 (w.heap.C.pw+4) Fz))))))))
 .exact lF func33 [Lc] (FA 11 14 wdv w.heap.W (FA 15 18 Page.dv w.heap.P (Fl 24 wdv w.heap.W (Fp 25 (@Z0d t ((w.heap.W.length:Int)) aa oq oq) (Fl 29 Page.dv w.heap.P (Fp 30 (@Z0d (t.step (w.heap.W.length:Int)) ((w.heap.P.length:Int)) aa oq oq) (Fp 32 (@Z0M ((t.step (w.heap.W.length:Int)).step (w.heap.P.length:Int)) (10) aa aa) (Fa (by(simp only[Lf,Lg,Lh];omega):(0:Int)<=(1:Int)/\1<=(↑(La Page.dv w.heap.P).length:Int)) (Fr w.heap.C.pw (Fr w.heap.C.pg (Fr (La wdv w.heap.W) (Fa (by exact hq:Ll ((↑(La Page.dv w.heap.P).length:Int).toNat-Int.toNat 1) (Li (Int.toNat 1) (La Page.dv w.heap.P))=La Page.dv (WorldM.mk (Heap.mk w.heap.C w.heap.W (Li 1 w.heap.P) w.heap.S w.heap.B) w.G w.E).heap.P) (Fr w.heap.S (Fr w.heap.B (Fr (La wdv w.G) (Fr (La wdv w.E) Fz))))))))))))))))
 .exact lF func33 [] (FA 11 14 wdv w.heap.W (FA 15 18 Page.dv w.heap.P (Fl 24 wdv w.heap.W (Fp 25 (@Z0d t ((w.heap.W.length:Int)) aa oq oq) (Fl 29 Page.dv w.heap.P (Fp 30 (@Z0d (t.step (w.heap.W.length:Int)) ((w.heap.P.length:Int)) aa oq oq) (Fp 32 (@Z0M ((t.step (w.heap.W.length:Int)).step (w.heap.P.length:Int)) (11) aa aa) (Fu (@Zmz w (((t.step (w.heap.W.length:Int)).step (w.heap.P.length:Int)).step 12) oq) Fz))))))))
def Z5u(h:Header):0<=sizeH h/\sizeH h<=256:=by
 unfold sizeH;split
 .rename_i v;have:=validH_iff.1 v;omega
 .omega
def wdsG(ns:List NodeG):Nat->Int
 | 0=>0
 | i+1=>wdsG ns i+sizeH (ns.getD i M).hd
def Z6J(ns:List NodeG):∀ i:Nat,0<=wdsG ns i/\wdsG ns i<=256*(i:Int)
 | 0=>by simp[wdsG]
 | i+1=>by
  have:=Z6J ns i;have:=Z5u (ns.getD i M).hd;unfold wdsG;omega
def ZbO(ns:List NodeG):Prop:=ns.length<=16384/\∀ n∈ns,(0<=n.hd.map/\n.hd.map<=4294967295)/\n.fs.length<=1048576
def gwL(ns:List NodeG)(i:Nat):Tg:=⟨tm 20 [(2,int 0),(3,int (wdsG ns i)),(7,.d (.sl 4 (ns.map NodeG.dv))),(8,int ns.length),(9,int i)],[],4⟩
def rwL(rs:List Int)(ns:List NodeG)(i:Nat):Tg:=⟨tm 22 [(1,.pt 8001 0 0),(2,int 0),(3,int (wdsG ns i)),(4,int i)],[(8001,.box 61 [Z0m rs,.d (.sl 4 (ns.map NodeG.dv))])],4⟩
def smL(rs:List Int)(ns:List NodeG)(i:Nat):Tg:=⟨tm 57 [(2,.pt 8002 0 0),(3,.pt 8003 0 0),(4,bool Lb),(5,int i)],[(8003,.box 61 [Z0m rs,.d (.sl 4 (ns.map NodeG.dv))]),(8002,.box 42 [Z0m rs,.d (.sl 4 (ns.map NodeG.dv))])],4⟩
section
variable (rs:List Int) (ns:List NodeG) (hn:ZbO ns)
include hn
omit hn in
theorem Zdy{i:Nat}(hn:ZbO ns)(hi:i<ns.length):(0<=(ns.getD i M).hd.map/\(ns.getD i M).hd.map<=4294967295)/\(ns.getD i M).fs.length<=1048576:=hn.2 _ (by rw[Lm,Ln hi];exact Lo hi)
theorem Zns(i:Nat)(hi:i<ns.length):CP (rndF f29 0) (gwL ns i).st .nrm (gwL ns (i+1)).st:=by
 obtain⟨n1,n2⟩:=Zdy ns hn hi;have n3:=hn.1;have w:=Z6J ns i;have z:=Z5u (ns.getD i M).hd;have e7:wdsG ns (i+1)=wdsG ns i+sizeH (ns.getD i M).hd:=rfl;unfold gwL;rw[e7];exact sF [] [] (Ftb 10 (Ld ((i:Int)<(ns.length:Int))) (Fek 11 NodeG.dv ns (↑i) i (Fc 16 (@Z18 ((ns.getD i M).hd) aa) (Fi 17 (wdsG ns i+sizeH (ns.getD i M).hd) (Fx 18 i Fz)))))
omit hn in
theorem Zpg:CP (rndF f29 0) (gwL ns ns.length).st (.ext 0) (Tg.st ⟨tm 20 [(2,int 0),(3,int (wdsG ns ns.length))],[],4⟩):=by
 exact sF [] [] (Ffb 10 (Ld ((ns.length:Int)<(ns.length:Int))) Fz)
def Zoo  := Z08 (S:=λi=>(gwL ns i).st) ns.length (by kernel_rfl) (λi hi=>Zns ns hn i hi) (Zpg ns)
theorem ZmM(i:Nat)(hi:i<ns.length):CP (rndF f30 0) (rwL rs ns i).st .nrm (rwL rs ns (i+1)).st:=by
 obtain⟨n1,n2⟩:=Zdy ns hn hi;have n3:=hn.1;have w:=Z6J ns i;have z:=Z5u (ns.getD i M).hd;have e7:wdsG ns (i+1)=wdsG ns i+sizeH (ns.getD i M).hd:=rfl;unfold rwL;rw[e7];exact sF [] [] (FN 8 9 16 NodeG.dv ns i (Fc 19 (@Z1I ((ns.getD i M).hd) aa) (Fi 20 (wdsG ns i+sizeH (ns.getD i M).hd) (Fx 11 i Fz))))
omit hn in
theorem Zpk:CP (rndF f30 0) (rwL rs ns ns.length).st (.ext 0) (Tg.st ⟨tm 22 [(2,int 0),(3,int (wdsG ns ns.length))],[],4⟩):=by
 exact sF [] [] (FO 8 9 NodeG.dv ns Fz)
def Zom  := Z08 (S:=λi=>(rwL rs ns i).st) ns.length (by kernel_rfl) (λi hi=>ZmM rs ns hn i hi) (Zpk rs ns)
theorem Znt(i:Nat)(hi:i<ns.length):CP (rndF f28 0) (smL rs ns i).st .nrm (smL rs ns (i+1)).st:=by
 obtain⟨n1,n2⟩:=Zdy ns hn hi;have n3:=hn.1;exact sF [] [] (FN 24 25 31 NodeG.dv ns i (Fek 37 NodeG.dv ns (↑i) i (FeG 45 (!!((ns.getD i M).hd.K==(ns.getD i M).hd.K&&((ns.getD i M).hd.length==(ns.getD i M).hd.length&&(ns.getD i M).hd.map==(ns.getD i M).hd.map))) NodeG.dv ns (↑i) i (FeG 51 (!!((ns.getD i M).hd.K==(ns.getD i M).hd.K&&((ns.getD i M).hd.length==(ns.getD i M).hd.length&&(ns.getD i M).hd.map==(ns.getD i M).hd.map))) NodeG.dv ns (↑i) i (FcG 54 (!!((ns.getD i M).hd.K==(ns.getD i M).hd.K&&((ns.getD i M).hd.length==(ns.getD i M).hd.length&&(ns.getD i M).hd.map==(ns.getD i M).hd.map))) (λhg=>by(try simp only[bs]at hg);exact @Zca ((ns.getD i M).fs) aa) (Ffs 56 (!((ns.getD i M).hd.K==(ns.getD i M).hd.K&&((ns.getD i M).hd.length==(ns.getD i M).hd.length&&(ns.getD i M).hd.map==(ns.getD i M).hd.map))||Lb) (Fx 27 i Fz)))))))
omit hn in
theorem Zp9:CP (rndF f28 0) (smL rs ns ns.length).st (.ext 0) (Tg.st ⟨tm 57 [(4,bool Lb)],[],4⟩):=by
 exact sF [] [] (FO 24 25 NodeG.dv ns Fz)
def ZoY  := Z08 (S:=λi=>(smL rs ns i).st) ns.length (by kernel_rfl) (λi hi=>Znt rs ns hn i hi) (Zp9 rs ns)
end
section
variable (rs:List Int) (ns:List NodeG) (hn:ZbO ns)
include hn
theorem ZgF:GP 29 [.ag [Z0m rs,.d (.sl 4 (ns.map NodeG.dv))]] Lc (int (wdsG ns ns.length)) []:=by
 exact gF [] func29 [] (Fl 8 NodeG.dv ns (Fu (@Zoo ns aa) Fz))
theorem Zil:GP 30 [.ag [Z0m rs,.d (.sl 4 (ns.map NodeG.dv))]] Lc (int (wdsG ns ns.length)) []:=by
 exact gF [] func30 [] (Fu (@Zom rs ns aa) Fz)
theorem ZkB(hr:rs.length<=1048576):GP 28 [.ag [Z0m rs,.d (.sl 4 (ns.map NodeG.dv))],.ag [Z0m rs,.d (.sl 4 (ns.map NodeG.dv))]] Lc (bool Lc) []:=by
 exact gF [] func28 [] (Fc 10 (@ZaT rs aa) (FlG 15 (!!true) NodeG.dv ns (FlG 18 (!!true) NodeG.dv ns (Ffs 20 ((ns.length:Int) != (ns.length:Int)) (Fu (@ZoY rs ns aa) Fz)))))
end
structure HOk (h:Heap):Prop where
 w:WOk h.W
 wl:h.W.length<=1048576
 pl:h.P.length<=1048576
def Zem(n:Int):0<=Le.wrap n/\Le.wrap n<=18446744073709551615:=by
 unfold IntKind.wrap;simp only[IntKind.signed,IntKind.bits,Bool.false_and,Bool.false_eq_true,if_false];omega
def ZgZ{w:WorldM}(hw:WOk w.heap.W)(t:Tape)(d:Int):0<=spV w t d/\spV w t d<=18446744073709551615:=by
 unfold spV;split
 .have h:∀ x∈spList,0<=x/\x<=18446744073709551615:=by
   intro x hx;simp only[spList,Ls,Lt,or_false]at hx;omega
  exact Z3T h _
 .exact Zem _
def ZjP{w:WorldM}(hm:MOk w 1000)(t:Tape):HOk (w.spoil t).heap:=by
 have a1:=area hm.hv;have a2:=validB_iff.1 hm.hv;have a3:=hm.L;have a4:=hm.pl;unfold WorldM.spoil spH;simp only;split
 .refine⟨λx hx=>?_,by simp only[Lp];omega,by simp only;omega⟩;rcases List.mem_or_eq_of_mem_set hx with hx | rfl
  .exact hm.W x hx
  .exact ZgZ hm.W _ _
 .split
  .exact⟨hm.W,by simp only;omega,by simp only[Lp];omega⟩
  .split
   .exact⟨hm.W,by simp only;omega,by simp only;omega⟩
   .split
    .exact⟨hm.W,by simp only;omega,by simp only;omega⟩
    .split
     .exact⟨hm.W,by simp only;omega,by simp only;omega⟩
     .split
      .exact⟨hm.W,by simp only;omega,by simp only[List.length_drop];omega⟩
      .exact⟨hm.W,by simp only;omega,by simp only[Lf];omega⟩
structure WZ where
 w:WorldM
 z:Nat
instance:Inhabited WZ:=⟨⟨default,1⟩⟩
def WZ.dv(x:WZ):List DV:=[dint x.w.heap.C.pw,dint x.w.heap.C.pg,.sl 1 (x.w.heap.W.map wdv),.sl 4 (x.w.heap.P.map Page.dv),dint x.w.heap.S,dint x.w.heap.B,.sl 1 (x.w.G.map wdv),.sl x.z (x.w.E.map wdv)]
def Z11(w:WorldM)(t:Tape)(roots:List Int):List WZ:=[⟨w,1⟩,⟨w.spoil t,1⟩,⟨⟨w.heap,roots,[]⟩,0⟩]
structure WzOk (x:WZ):Prop where
 hw:WOk x.w.heap.W
 wl:x.w.heap.W.length<=1048576
 pl:x.w.heap.P.length<=1048576
 sl:x.w.G.length<=1000
 su:ULe x.w.G
section
variable (raw:Heap) (roots tape odd:List Int) (h1:tape.length<=140737488355328) (h2:odd.length<=140737488355328)
include h1 h2
theorem Zdk(hl:¬ (raw.W.length<=5000/\raw.P.length<=100)):GP 24 [raw.av,Z01 roots,Z0m tape,Z0m odd] Lb (.d (.sl 8 ((Z11 (Z0K tape) ⟨odd,0⟩ roots).map WZ.dv))) []:=by
 have hm:=Z7l tape;have hso:=hm.so;have ht:TOk ⟨odd,0⟩:=by simp[TOk];omega
 have hus:∀ j,j<(Z0K tape).heap.P.length->-1099511627776<=((Z0K tape).heap.P.getD j M).U/\((Z0K tape).heap.P.getD j M).U<=1099511627776:=λj hj=>by
  have:=hm.us j hj;omega
 exact gF [] func24 [] (Fh 25 [.call Lc (Sx.bool (Ld (raw.W.length<=5000/\raw.P.length<=100))) [],.br Lb] (Fc 12 (@Zaw tape aa) (Fbr 18 [24017] (@ZbU (Z0K tape) (Tape.mk odd 0) aa aa (by(simp only[bs];omega)) aa) (Fa (@ZbX raw) (Fb (Ld (raw.W.length<=5000/\raw.P.length<=100)=Lb) Fz)))))
theorem ZdA(hl:raw.W.length<=5000/\raw.P.length<=100):GP 24 [raw.av,Z01 roots,Z0m tape,Z0m odd] Lb (.d (.sl 8 ((Z11 (Z0K tape) ⟨odd,0⟩ roots++[(⟨⟨raw,roots,[]⟩,0⟩:WZ)]).map WZ.dv))) []:=by
 have hm:=Z7l tape;have hso:=hm.so;have ht:TOk ⟨odd,0⟩:=by simp[TOk];omega
 have hus:∀ j,j<(Z0K tape).heap.P.length->-1099511627776<=((Z0K tape).heap.P.getD j M).U/\((Z0K tape).heap.P.getD j M).U<=1099511627776:=λj hj=>by
  have:=hm.us j hj;omega
 let y0:=(Z0K tape).spoil (Tape.mk odd 0);exact gF [] func24 [] (Fh 25 [.call Lc (Sx.bool (Ld (raw.W.length<=5000/\raw.P.length<=100))) [],.br Lc] (Fc 12 (@Zaw tape aa) (Fbr 18 [24017] (@ZbU (Z0K tape) (Tape.mk odd 0) aa aa (by(simp only[bs];omega)) aa) (Fa (@ZbX raw) (Fb (Ld (raw.W.length<=5000/\raw.P.length<=100)=Lc) (Fa (by simp[*]:((((Lu 3 [dint 0,dint 0,DV.sl 0 [],DV.sl 0 [],dint 0,dint 0,DV.sl 0 [],DV.sl 0 []]).set 0 [dint (Z0K tape).heap.C.pw,dint (Z0K tape).heap.C.pg,DV.sl 1 (La wdv (Z0K tape).heap.W),DV.sl 4 (La Page.dv (Z0K tape).heap.P),dint (Z0K tape).heap.S,dint (Z0K tape).heap.B,DV.sl 1 (La wdv (Z0K tape).G),DV.sl 1 (La wdv (Z0K tape).E)]).set 1 [dint y0.heap.C.pw,dint y0.heap.C.pg,DV.sl 1 (La wdv y0.heap.W),DV.sl 4 (La Page.dv y0.heap.P),dint y0.heap.S,dint y0.heap.B,DV.sl 1 (La wdv y0.G),DV.sl 1 (La wdv y0.E)]).set 2 [dint (Z0K tape).heap.C.pw,dint (Z0K tape).heap.C.pg,DV.sl 1 (La wdv (Z0K tape).heap.W),DV.sl 4 (La Page.dv (Z0K tape).heap.P),dint (Z0K tape).heap.S,dint (Z0K tape).heap.B,DV.sl 1 (La wdv roots),DV.sl 0 []]).length+((Lu 1 [dint 0,dint 0,DV.sl 0 [],DV.sl 0 [],dint 0,dint 0,DV.sl 0 [],DV.sl 0 []]).set 0 [dint raw.C.pw,dint raw.C.pg,DV.sl 1 (La wdv raw.W),DV.sl 4 (La Page.dv raw.P),dint raw.S,dint raw.B,DV.sl 1 (La wdv roots),DV.sl 0 []]).length<=2^30) Fz))))))
end
def ZgC(tape odd roots:List Int)(hr:ULe roots)(hl:roots.length<=50):∀ x∈Z11 (Z0K tape) ⟨odd,0⟩ roots,WzOk x:=by
 have hm:=Z7l tape;have a1:=area hm.hv;have a2:=validB_iff.1 hm.hv;have a3:=hm.L;have a4:=hm.pl;have g:=ZjP hm ⟨odd,0⟩;intro x hx;simp only[Z11,Ls,Lt,or_false]at hx;rcases hx with rfl | rfl | rfl
 .exact⟨hm.W,by simp only;omega,by simp only;omega,hm.sl,hm.G⟩
 .exact⟨g.w,g.wl,g.pl,hm.sl,hm.G⟩
 .exact⟨hm.W,by simp only;omega,by simp only;omega,by simp only;omega,hr⟩
def Zlh{h:Heap}{roots l:List Int}(O:OrdL h roots l)(hw:WOk h.W):ZbO (l.map (Z0X h l)):=by
 refine⟨by rw[Lf];exact O.len,λn hn=>?_⟩;obtain⟨a,ha,rfl⟩:=List.mem_map.1 hn;have f:=Z2R O.p (O.el a ha);refine⟨Z2C hw a, ?_⟩;show(numL l (fldG h a) (Z02 (atH h a).1) (Z02 (atH h a).1).length).length<=1048576;rw[Zbe];omega
section
variable (h:Heap) (roots:List Int) (hw:WOk h.W) (hl:roots.length<=1000) (hr:ULe roots)
include hw hl hr
theorem Zgt:GP 20 [h.av,Z01 roots] Lb (.tu [.ag [Z0m (ofF h roots).1.roots,.d (.sl 4 ((ofF h roots).1.nodes.map NodeG.dv))],int (ofF h roots).2]) []:=by
 unfold ofF;by_cases e:(Z09 h roots).2=0
 .rw[if_pos e];exact ZcC h roots hw hl hr e
 .rw[if_neg e];exact ZgD h roots hw hl hr e
theorem Zhd:GP 26 [h.av,Z01 roots] Lb (.tu [.ag [Z0m (ofF h roots).1.roots,.d (.sl 4 ((ofF h roots).1.nodes.map NodeG.dv))],int (ofF h roots).2]) []:=by
 unfold ofF;by_cases e:(Z09 h roots).2=0
 .rw[if_pos e];exact ZkT h roots hw hl hr e
 .rw[if_neg e];exact ZhM h roots hw hl hr e
theorem Zoy:ZbO (ofF h roots).1.nodes/\(ofF h roots).1.roots.length<=1000:=by
 unfold ofF;by_cases e:(Z09 h roots).2=0
 .rw[if_pos e];exact⟨Zlh (Z8E _ _ hw hl hr e) hw,by simpa[ZlS]using hl⟩
 .rw[if_neg e];exact⟨⟨Nat.zero_le _,by simp⟩,Nat.zero_le _⟩
end
def woL(l:List WZ)(a:Int)(i:Nat):Tg:=⟨tm 114 [(4,u64 a),(10,bool Lb),(29,.d (.sl 8 (l.map WZ.dv))),(30,int l.length),(31,int i)],[],4⟩
section
variable (l:List WZ) (a:Int) (hl:l.length<=4) (hx:∀ x∈l,WzOk x) (ha:0<=a/\a<=18446744073709551615)
include hl hx ha
theorem Zn0(i:Nat)(hi:i<l.length):CP (rndF f6 0) (woL l a i).st .nrm (woL l a (i+1)).st:=by
 obtain⟨hw,wl,pl,sl,su⟩:=hx (l.getD i M) (by rw[Lm,Ln hi];exact Lo hi);have ol:=Z6u _ _ hw sl su;obtain⟨nk,nr⟩:=Zoy _ _ hw sl su;let y0:=l.getD i M;let y1:=ofF y0.w.heap y0.w.G;let y2:=Z09 y0.w.heap y0.w.G;exact sF [] [] (Fh 17 [.gh 3 1,.int 0,.gh 54 4,.int 1] (Fh 19 [.gh 3 1,.int 0,.gh 120 4,.int 1] (Ftb 32 (Ld ((i:Int)<(l.length:Int))) (Fek 33 WZ.dv l (↑i) i (Fc 40 (@Z6F (y0.w.heap) (y0.w.G) aa aa aa) (Fc 48 (@Z4Q (y0.w.heap) (y0.w.G) aa aa aa) (Fc 56 (@Zgt (y0.w.heap) (y0.w.G) aa aa aa) (Fc 64 (@Zhd (y0.w.heap) (y0.w.G) aa aa aa) (Fg 68 (by exact Int.tmod_eq_emod_of_nonneg oq:a.tmod 400=a%400) (Fa (by decide:(400:Int)≠0) (Fv 69 (4096+a%400) (FcG 81 (!(y2.2 != y2.2||y1.2 != y1.2)) (λhg=>by(try simp only[bs]at hg);exact @Zca (y2.1) oq) (FcG 87 (!(y2.2 != y2.2||y1.2 != y1.2||!true)) (λhg=>by(try simp only[bs]at hg);exact @ZkB (y1.1.roots) (y1.1.nodes) aa oq) (FcG 92 (!(y2.2 != y2.2||y1.2 != y1.2||!true||!true)) (λhg=>by(try simp only[bs]at hg);exact @ZgF (y1.1.roots) (y1.1.nodes) aa) (FcG 94 (!(y2.2 != y2.2||y1.2 != y1.2||!true||!true)) (λhg=>by(try simp only[bs]at hg);exact @Zil (y1.1.roots) (y1.1.nodes) aa) (FcG 103 (!(y2.2 != y2.2||y1.2 != y1.2||!true||!true||wdsG y1.1.nodes y1.1.nodes.length != wdsG y1.1.nodes y1.1.nodes.length)) (λhg=>by(try simp only[bs]at hg);exact @ZcV (y0.w.heap) (y0.w.G) (4096+a%400) aa aa aa) (FcG 109 (!(y2.2 != y2.2||y1.2 != y1.2||!true||!true||wdsG y1.1.nodes y1.1.nodes.length != wdsG y1.1.nodes y1.1.nodes.length)) (λhg=>by(try simp only[bs]at hg);exact @Ze6 (y0.w.heap) (y0.w.G) (4096+a%400) aa aa aa) (Ffs 111 (y2.2 != y2.2||y1.2 != y1.2||Lb||Lb||wdsG y1.1.nodes y1.1.nodes.length != wdsG y1.1.nodes y1.1.nodes.length||!decide (4096+a%400∈y2.1)==Ld (4096+a%400∈y2.1)) (Fx 112 i Fz)))))))))))))))))))
omit hl hx ha in
theorem Zpf:CP (rndF f6 0) (woL l a l.length).st (.ext 0) (Tg.st ⟨tm 114 [(10,bool Lb)],[],4⟩):=by
 exact sF [] [] (Ffb 32 (Ld ((l.length:Int)<(l.length:Int))) Fz)
def ZlE  := Z08 (S:=λi=>(woL l a i).st) l.length (by kernel_rfl) (λi hi=>Zn0 l a hl hx ha i hi) (Zpf l a)
end
def ZiT(raw:Heap)(roots tape odd:List Int)(a:Int)(hw:WOk raw.W)(_:roots.length<=140737488355328)(hr:ULe roots)(h1:tape.length<=140737488355328)(h2:odd.length<=140737488355328)(ha:0<=a/\a<=18446744073709551615):GP 6 [raw.av,Z01 roots,Z0m tape,Z0m odd,u64 a] Lc (bool Lc) []:=by
 by_cases hl:roots.length<=50
 .have q1:=ZgC tape odd roots hr hl;by_cases c:raw.W.length<=5000/\raw.P.length<=100
  .have q2:∀ x∈Z11 (Z0K tape) ⟨odd,0⟩ roots++[(⟨⟨raw,roots,[]⟩,0⟩:WZ)],WzOk x:=by
    intro x hx;rcases List.mem_append.1 hx with hx | hx
    .exact q1 x hx
    .rw[List.mem_singleton.1 hx];exact⟨hw,by simp only;omega,by simp only;omega,by simp only;omega,hr⟩
   have q3:(Z11 (Z0K tape) ⟨odd,0⟩ roots++[(⟨⟨raw,roots,[]⟩,0⟩:WZ)]).length<=4:=by simp[Z11]
   exact gF [] func6 [] (Fl 23 wdv roots (Ffb 24 (Ld (50<(roots.length:Int))) (Fc 29 (@ZdA raw roots tape odd aa aa aa) (Fg 30 (rfl:(↑(La WZ.dv (Z11 (Z0K tape) (Tape.mk odd 0) roots++[WZ.mk (WorldM.mk raw roots []) 0])).length:Int)=(↑((Z11 (Z0K tape) (Tape.mk odd 0) roots).length+(0+1)):Int)) (Fu (@ZlE (Z11 (Z0K tape) (Tape.mk odd 0) roots++[WZ.mk (WorldM.mk raw roots []) 0]) a aa aa aa) (Fc 113 (@Zcf) Fz))))))
  .have q3:(Z11 (Z0K tape) ⟨odd,0⟩ roots).length<=4:=by simp[Z11]
   let y0:=Z11 (Z0K tape) (Tape.mk odd 0) roots;exact gF [] func6 [] (Fl 23 wdv roots (Ffb 24 (Ld (50<(roots.length:Int))) (Fc 29 (@Zdk raw roots tape odd aa aa aa) (Fg 30 (rfl:(↑(La WZ.dv y0).length:Int)=(y0.length:Int)) (Fu (@ZlE y0 a aa aa aa) (Fc 113 (@Zcf) Fz))))))
 .exact gF [] func6 [] (Fl 23 wdv roots (Ftb 24 (Ld (50<(roots.length:Int))) Fz))
end Go.Proofs.YtgedmeaemofdkaaGreat
namespace Go.Proofs.YtgedmeaemofdkaaGreat
open Go.Sx Go.RowKit
def Z5F(os:Os)(started:os.Started)(H:Type)(enc:TypeId×Value->H) :
  ReturnsInHanded {} Tryz.checked os 6 .any (Rows.graphOrdersSpec.pre6 enc prog f6 Rows.graphOrdersRow.domain Lb) (Rows.graphOrdersSpec.post enc prog f6 Lb Lc Lb Lb):=by
 refine Zcr (C:=Tryz.checked) (tb:=4) 5 own0 started kr func6
  (ChangeSpec.witness6 (enc:=enc) (C:=Tryz.checked) Lb ⟨#[],#[.agg #[.int .i64 0,.int .i64 0,.slice none 0 0,.slice none 0 0,.int .i64 0,.int .i64 0],.slice none 0 0,.slice none 0 0,.slice none 0 0,.int .u64 0],[]⟩ 8 kr kr kr kr)
  Zl0 kr kr kr kr rfl (λds hd=>?_) (λls hl h=>?_)
 .match ds,hd with
  | [a0,a1,a2,a3,a4],_=>rfl
 .match ls,hl with
  | [l0,l1,l2,l3,l4],_ =>
   obtain⟨raw,rfl,hraw⟩:=Zkl (n:=1) (h 0 28 l0 kr rfl);obtain⟨roots,rfl,hroots,kroots⟩:=Zcw (n:=3) (h 1 25 l1 kr rfl);obtain⟨tape,rfl,htape⟩:=ZfE (n:=3) (h 2 22 l2 kr rfl);obtain⟨odd,rfl,hodd⟩:=ZfE (n:=3) (h 3 22 l3 kr rfl);obtain⟨addr,rfl,haddr⟩:=Zjr (n:=4) (h 4 35 l4 kr rfl);have e:Zaj prog Tryz.f6.params.toList [ZnQ raw,[.sl 1 (roots.map wdv)],[.sl 1 (tape.map idv)],[.sl 1 (odd.map idv)],[du64 addr]]=[raw.av,Z01 roots,Z0m tape,Z0m odd,u64 addr]:=by kernel_rfl
   exact⟨Lc,e▸ZiT raw roots tape odd addr hraw hroots kroots htape hodd (range_u64 haddr)⟩
def Z91:(Rows.graphOrdersRow.inPlace==Tryz.prog.inPlace 6)=Lc:=by kernel_rfl
def Z9c:(Rows.graphOrdersRow.unfollowed==Tryz.prog.unfollowed 6)=Lc:=by kernel_rfl
def Z9e:(Rows.graphOrdersRow.recurses==Tryz.prog.recurses 6)=Lc:=by kernel_rfl
def Z9h:(Rows.graphOrdersRow.named==Tryz.prog.varsNamed 6)=Lc:=by kernel_rfl
def Z5V:joinedFacts prog 6 f6 Rows.graphOrdersSpec Rows.graphOrdersRow=Lc:=by
 unfold joinedFacts;rw[Z91,Z9c,Z9e,Z9h];kernel_rfl
theorem graphOrders_holds:Rows.GraphOrdersSaid :=
 OpenClaim.holds_of_wide 6 f6 rfl rfl rfl rfl rfl rfl rfl ⟨rfl,rfl,rfl,rfl,rfl⟩ rfl rfl rfl rfl rfl kr func6 Z5V
  (of_decide_eq_true kr) (by unfold Func.isWrapper;first | (rw[if_pos (by decide+kernel)];kernel_rfl) | (rw[if_neg (by decide+kernel)];exact⟨rfl,rfl⟩))
  (λos started H enc _=>Z5F os started H enc)
end Go.Proofs.YtgedmeaemofdkaaGreat
