/-
 The statement BoundMeasures: part 15.
 Conditions: none.
-/
import Derived.Test.YtgedmeaemofdkaaGreatS14
set_option maxRecDepth 100000
set_option maxHeartbeats 2000000
set_option linter.all false
open List renaming map->M,length_map->Lf,length_cons->Lg,length_nil->Lh,replicate->Li,drop->Lj,map_drop->Lk,map_set->Ll,take->Lm,getD_eq_getElem?_getD->Ln,getElem?_eq_getElem->Lo,getElem_mem->Lp,length_set->Lq,map_append->Lr,map_take->Ls,mem_cons->Lt,not_mem_nil->Lu
open Inhabited renaming default->La
open Bool renaming false->Lb,true->Lc
open Decidable renaming decide->Ld
open Go.IntKind renaming u64->Le
open Go.Proofs.Tryz
namespace Go.Proofs.YtgedmeaemofdkaaGreat
open Go.Sx
structure SOk (w:WorldM):Prop where
 W:WOk w.heap.W
 wl:1<=w.heap.W.length/\w.heap.W.length<=4096
 pl:1<=w.heap.P.length/\w.heap.P.length<=64
 cw:-1000<=w.heap.C.pw/\w.heap.C.pw<=1000
def MOk.so{w:WorldM}{n:Nat}(hm:MOk w n):SOk w:=by
 have a1:=area hm.hv;have a2:=validB_iff.1 hm.hv;have a3:=hm.L;have a4:=hm.pl;exact⟨hm.W,by omega,by omega,by omega⟩
def spT2(w:WorldM)(t:Tape):Tape:=(t.step (w.heap.W.length:Int)).step (w.heap.P.length:Int)
def spT3(w:WorldM)(t:Tape):Tape:=(spT2 w t).step 12
def spI(w:WorldM)(t:Tape):Nat:=(t.next (w.heap.W.length:Int)).toNat
def spP(w:WorldM)(t:Tape):Nat:=((t.step (w.heap.W.length:Int)).next (w.heap.P.length:Int)).toNat
def spPg(w:WorldM)(t:Tape):Page:=w.heap.P.getD (spP w t) La
def spList:List Int:=[0,1,5,21,4096,4097,4112,16386,1099511627776,61]
def pinQ(p:Page):Page:=if p.K=1 then⟨p.K,p.S,p.U,1⟩else p
def spV(w:WorldM)(t:Tape)(d:Int):Int:=if d<=1 then spList.getD ((spT3 w t).next 10).toNat La else bits .xor .u64 (w.heap.W.getD (spI w t) La) (Le.wrap (1*2^min ((spT3 w t).next 64).toNat 64))
def spQ(w:WorldM)(t:Tape)(d:Int):Page :=
 if d=3 then⟨(spT3 w t).next 5,(spPg w t).S,(spPg w t).U,(spPg w t).N⟩
 else if d=4 then⟨(spPg w t).K,(spT3 w t).next 3,(spPg w t).U,(spPg w t).N⟩
 else if d=5 then⟨(spPg w t).K,(spPg w t).S,(spPg w t).U+(spT3 w t).next 9-4,(spPg w t).N⟩
 else⟨(spPg w t).K,(spPg w t).S,(spPg w t).U,(spT3 w t).next 3-1⟩
def spH(w:WorldM)(t:Tape)(d:Int):Heap :=
 if d<=2 then⟨w.heap.C,w.heap.W.set (spI w t) (spV w t d),w.heap.P,w.heap.S,w.heap.B⟩
 else if d<=6 then⟨w.heap.C,w.heap.W,w.heap.P.set (spP w t) (spQ w t d),w.heap.S,w.heap.B⟩
 else if d=7 then⟨w.heap.C,w.heap.W,w.heap.P,(spT3 w t).next 3,w.heap.B⟩
 else if d=8 then⟨w.heap.C,w.heap.W,w.heap.P,w.heap.S,(spT3 w t).next ((w.heap.P.length+2:Nat):Int)-1⟩
 else if d=9 then⟨⟨w.heap.C.pw+4,w.heap.C.pg⟩,w.heap.W,w.heap.P,w.heap.S,w.heap.B⟩
 else if d=10 then⟨w.heap.C,w.heap.W,w.heap.P.drop 1,w.heap.S,w.heap.B⟩
 else⟨w.heap.C,w.heap.W,w.heap.P.map pinQ,w.heap.S,w.heap.B⟩
def spN(w:WorldM)(d:Int):Int:=if d<=1 then 10 else if d=2 then 64 else if d=3 then 5 else if d=4 then 3 else if d=5 then 9 else if d=6 then 3 else if d=7 then 3 else if d=8 then((w.heap.P.length+2:Nat):Int)else 0
def WorldM.spoil(w:WorldM)(t:Tape):WorldM:=⟨spH w t ((spT2 w t).next 12),w.G,w.E⟩
def WorldM.spoilT(w:WorldM)(t:Tape):Tape:=if(spT2 w t).next 12<=8 then(spT3 w t).step (spN w ((spT2 w t).next 12))else spT3 w t
def pinL(w:WorldM)(tp:Tape)(i:Nat):Tg:=⟨tm 156 [(2,.pt 16002 0 0),(4,.pt 16004 0 0),(5,.pt 24005 0 0),(8,int i)],[(0,tp.b),(24005,.box 28 [int w.heap.C.pw,int w.heap.C.pg,.ow 32014,.ow 32018,int w.heap.S,int w.heap.B]),(32018,.arr 86 4 ((preM pinQ w.heap.P i).map Page.dv)),(32014,.arr 35 1 (w.heap.W.map wdv)),(16004,.box 30 [int 0,int 0,.d (.sl 0 []),.d (.sl 0 []),int 0,int 0,.d (.sl 0 []),.d (.sl 0 [])]),(16002,.box 30 w.cells)],60⟩
def Zlo(w:WorldM)(tp:Tape)(i:Nat)(hl:w.heap.P.length<=64)(hi:i<w.heap.P.length):CP (rndF f33 1) (pinL w tp i).st .nrm (pinL w tp (i+1)).st:=by
 have ha:=Z7V pinQ w.heap.P (Nat.le_refl i) La;have hn:=Z3I pinQ w.heap.P i;by_cases hc:(w.heap.P.getD i La).K=1
 .have hq:=Z6r pinQ w.heap.P hi La;rw[show pinQ (w.heap.P.getD i La)=⟨(w.heap.P.getD i La).K,(w.heap.P.getD i La).S,(w.heap.P.getD i La).U,1⟩ by rw[pinQ,if_pos hc],<- ha]at hq;rw[<- ha]at hc;rcases bb (((preM pinQ w.heap.P i).getD (i:Int).toNat La).K==1)with hc0 | hc0<;>have hc0p:=hc0<;>simp only[bs]at hc0p
  .let y1:=preM pinQ w.heap.P i;let y0:=y1.getD (i:Int).toNat La;exact sF [] (fO 6) (FM 137 138 Page.dv y1 i (Fmq 146 Page.dv y1 (↑i) (Ft 147 hc0 (Fm0q Page.dv y1 (↑i) (FS 10152 Page.dv y1 ((i:Int).toNat) (Page.mk y0.K y0.S y0.U 1) (y0.dv) (Fx 140 i (Fr (86:Int) (Fa (by refine congrArg _ ?_;exact hq:M Page.dv (y1.set (i:Int).toNat (Page.mk y0.K y0.S y0.U 1))=M Page.dv (preM pinQ w.heap.P (i+1))) Fz))))))))
  .contradiction
 .have hq:=Z8E pinQ w.heap.P hi La (by rw[pinQ,if_neg hc]);rw[<- ha]at hc;rcases bb (((preM pinQ w.heap.P i).getD (i:Int).toNat La).K==1)with hc0 | hc0<;>have hc0p:=hc0<;>simp only[bs]at hc0p
  .contradiction
  .let y2:=preM pinQ w.heap.P i;exact sF [] (fO 6) (FM 137 138 Page.dv y2 i (Fmq 146 Page.dv y2 (↑i) (Ff 147 hc0 (Fx 140 i (Fr (86:Int) (Fa (by refine congrArg _ ?_;exact hq:M Page.dv y2=M Page.dv (preM pinQ w.heap.P (i+1))) Fz))))))
def ZpT(w:WorldM)(tp:Tape):CP (rndF f33 1) (pinL w tp w.heap.P.length).st (.ext 1) (Tg.st ⟨tm 156 [(2,.pt 16002 0 0),(4,.pt 16004 0 0),(5,.pt 24005 0 0)],[(0,tp.b),(24005,.box 28 [int w.heap.C.pw,int w.heap.C.pg,.ow 32014,.ow 32018,int w.heap.S,int w.heap.B]),(32018,.arr 86 4 ((w.heap.P.map pinQ).map Page.dv)),(32014,.arr 35 1 (w.heap.W.map wdv)),(16004,.box 30 [int 0,int 0,.d (.sl 0 []),.d (.sl 0 []),int 0,int 0,.d (.sl 0 []),.d (.sl 0 [])]),(16002,.box 30 w.cells)],60⟩):=by
 have hq:=Z7F pinQ w.heap.P;have hn:=Z3I pinQ w.heap.P w.heap.P.length;let y0:=preM pinQ w.heap.P w.heap.P.length;exact sF [] (fO 5) (Fl 137 Page.dv y0 (Ffb 138 (Ld ((w.heap.P.length:Int)<(y0.length:Int))) (Fr (86:Int) (Fa (by refine congrArg _ ?_;assumption:M Page.dv y0=M Page.dv (M pinQ w.heap.P)) Fz))))
def Zof(w:WorldM)(tp:Tape)(hl:w.heap.P.length<=64):CP (blkF f33 1) (Tg.st ⟨tm 156 [(2,.pt 16002 0 0),(4,.pt 16004 0 0),(5,.pt 24005 0 0),(8,int 0)],[(0,tp.b),(24005,.box 28 [int w.heap.C.pw,int w.heap.C.pg,.ow 32014,.ow 32018,int w.heap.S,int w.heap.B]),(32018,.arr 86 4 (w.heap.P.map Page.dv)),(32014,.arr 35 1 (w.heap.W.map wdv)),(16004,.box 30 [int 0,int 0,.d (.sl 0 []),.d (.sl 0 []),int 0,int 0,.d (.sl 0 []),.d (.sl 0 [])]),(16002,.box 30 w.cells)],60⟩) .nrm (Tg.st ⟨tm 156 [(2,.pt 16002 0 0),(4,.pt 16004 0 0),(5,.pt 24005 0 0)],[(0,tp.b),(24005,.box 28 [int w.heap.C.pw,int w.heap.C.pg,.ow 32014,.ow 32018,int w.heap.S,int w.heap.B]),(32018,.arr 86 4 ((w.heap.P.map pinQ).map Page.dv)),(32014,.arr 35 1 (w.heap.W.map wdv)),(16004,.box 30 [int 0,int 0,.d (.sl 0 []),.d (.sl 0 []),int 0,int 0,.d (.sl 0 []),.d (.sl 0 [])]),(16002,.box 30 w.cells)],60⟩):=by
 have:=Z08 (S:=λk=>(pinL w tp k).st) w.heap.P.length kr (λk hk=>Zlo w tp k hl hk) (ZpT w tp);simp only[pinL,ZcI]at this;exact this
def Zd8(w:WorldM)(t:Tape)(hm:SOk w)(ht:TOk t)(ha:t.at'<=900000)(hus:∀ j,j<w.heap.P.length->-1099511627776<=(w.heap.P.getD j La).U/\(w.heap.P.getD j La).U<=1099511627776):LP 33 [w.av,.pt 0 0 0] [t.b] (w.spoil t).av [(w.spoilT t).b]:=by
 have s1:=Z2V (t:=t) (w.heap.W.length:Int);have s2:(t.step (w.heap.W.length:Int)).at'<=(spT2 w t).at'/\(spT2 w t).at'<=(t.step (w.heap.W.length:Int)).at'+1/\(spT2 w t).l=(t.step (w.heap.W.length:Int)).l:=Z2V _;have s3:(spT2 w t).at'<=(spT3 w t).at'/\(spT3 w t).at'<=(spT2 w t).at'+1/\(spT3 w t).l=(spT2 w t).l:=Z2V _;have k1:=Z3O ht s1.2.2 oq oq;have k2:TOk (spT2 w t):=Z3O k1 s2.2.2 oq oq;have k3:TOk (spT3 w t):=Z3O k2 s3.2.2 oq oq;have a1:=hm.wl;have a2:=hm.pl;have a3:=hm.cw;have hw:=hm.W;have n1:=Z11 t (n:=(w.heap.W.length:Int)) oq;have n2:=Z11 (t.step (w.heap.W.length:Int)) (n:=(w.heap.P.length:Int)) oq;have n:=Z11 (spT2 w t) (n:=12) dd;have hd:(spT2 w t).next 12=0\/(spT2 w t).next 12=1\/(spT2 w t).next 12=2\/(spT2 w t).next 12=3\/(spT2 w t).next 12=4\/(spT2 w t).next 12=5\/(spT2 w t).next 12=6\/(spT2 w t).next 12=7\/(spT2 w t).next 12=8\/(spT2 w t).next 12=9\/(spT2 w t).next 12=10\/(spT2 w t).next 12=11:=by omega
 have n3:=λ(n:Int) (h:1<=n)=>Z11 (spT3 w t) (n:=n) h;have pu:=hus (spP w t);have e7:w.spoil t=⟨spH w t ((spT2 w t).next 12),w.G,w.E⟩:=rfl;have e8:w.spoilT t=if(spT2 w t).next 12<=8 then(spT3 w t).step (spN w ((spT2 w t).next 12))else spT3 w t:=rfl
 have hq:Lm ((↑(M Page.dv w.heap.P).length:Int).toNat-Int.toNat 1) (Lj (Int.toNat 1) (M Page.dv w.heap.P))=M Page.dv (w.heap.P.drop 1):=by
  show Lm _ (Lj 1 (M Page.dv w.heap.P))=_;rw[<- Lk];exact List.take_of_length_le pq
 unfold spT3 spT2 spP at *;rcases hd with hd | hd | hd | hd | hd | hd | hd | hd | hd | hd | hd | hd<;>rw[e7,e8,hd]<;>simp only[spH,spN,spV,spQ,spPg,spI,spP,spT3,spT2,Int.reduceLE,Int.reduceEq,if_true,if_false,reduceIte]<;>clear e7 e8
 .have n3:=n3 10 oq;exact lF func33 [] (Fh 10044 [.els (M wdv (w.heap.W.set (t.next (w.heap.W.length:Int)).toNat ([0,1,5,21,4096,4097,4112,16386,1099511627776,61].getD ((((t.step (w.heap.W.length:Int)).step (w.heap.P.length:Int)).step 12).next 10).toNat La)))] (FA 11 14 wdv w.heap.W (FA 15 18 Page.dv w.heap.P (Fl 24 wdv w.heap.W (Fp 25 (@Z0g t ((w.heap.W.length:Int)) aa oq oq) (Fl 29 Page.dv w.heap.P (Fp 30 (@Z0g (t.step (w.heap.W.length:Int)) ((w.heap.P.length:Int)) aa oq oq) (Fp 32 (@Z0V ((t.step (w.heap.W.length:Int)).step (w.heap.P.length:Int)) (0) aa aa) (Fs 39 (M wdv [0,1,5,21,4096,4097,4112,16386,1099511627776,61]) (Fp 41 (@Z0g (((t.step (w.heap.W.length:Int)).step (w.heap.P.length:Int)).step 12) (10) aa oq oq) (Fmq 43 wdv [0,1,5,21,4096,4097,4112,16386,1099511627776,61] ((((t.step (w.heap.W.length:Int)).step (w.heap.P.length:Int)).step 12).next 10) (Fa (by(simp only[Lf,Lg,Lh];omega):0<=t.next (w.heap.W.length:Int)/\(t.next (w.heap.W.length:Int)).toNat<(M wdv w.heap.W).length) (Fa (by(simp only[Lf,Lg,Lh];omega):(t.next (w.heap.W.length:Int)).toNat<(M wdv w.heap.W).length) (Fa (by simp[spList,Ls,Lk,Ll,Lr,wdv,idv]:(M wdv w.heap.W).set (t.next (w.heap.W.length:Int)).toNat [du64 ([0,1,5,21,4096,4097,4112,16386,1099511627776,61].getD ((((t.step (w.heap.W.length:Int)).step (w.heap.P.length:Int)).step 12).next 10).toNat La)]=M wdv (w.heap.W.set (t.next (w.heap.W.length:Int)).toNat ([0,1,5,21,4096,4097,4112,16386,1099511627776,61].getD ((((t.step (w.heap.W.length:Int)).step (w.heap.P.length:Int)).step 12).next 10).toNat La))) Fz))))))))))))))
 .have n3:=n3 10 oq;exact lF func33 [] (Fh 10044 [.els (M wdv (w.heap.W.set (t.next (w.heap.W.length:Int)).toNat ([0,1,5,21,4096,4097,4112,16386,1099511627776,61].getD ((((t.step (w.heap.W.length:Int)).step (w.heap.P.length:Int)).step 12).next 10).toNat La)))] (FA 11 14 wdv w.heap.W (FA 15 18 Page.dv w.heap.P (Fl 24 wdv w.heap.W (Fp 25 (@Z0g t ((w.heap.W.length:Int)) aa oq oq) (Fl 29 Page.dv w.heap.P (Fp 30 (@Z0g (t.step (w.heap.W.length:Int)) ((w.heap.P.length:Int)) aa oq oq) (Fp 32 (@Z0V ((t.step (w.heap.W.length:Int)).step (w.heap.P.length:Int)) (1) aa aa) (Fs 39 (M wdv [0,1,5,21,4096,4097,4112,16386,1099511627776,61]) (Fp 41 (@Z0g (((t.step (w.heap.W.length:Int)).step (w.heap.P.length:Int)).step 12) (10) aa oq oq) (Fmq 43 wdv [0,1,5,21,4096,4097,4112,16386,1099511627776,61] ((((t.step (w.heap.W.length:Int)).step (w.heap.P.length:Int)).step 12).next 10) (Fa (by(simp only[Lf,Lg,Lh];omega):0<=t.next (w.heap.W.length:Int)/\(t.next (w.heap.W.length:Int)).toNat<(M wdv w.heap.W).length) (Fa (by(simp only[Lf,Lg,Lh];omega):(t.next (w.heap.W.length:Int)).toNat<(M wdv w.heap.W).length) (Fa (by simp[spList,Ls,Lk,Ll,Lr,wdv,idv]:(M wdv w.heap.W).set (t.next (w.heap.W.length:Int)).toNat [du64 ([0,1,5,21,4096,4097,4112,16386,1099511627776,61].getD ((((t.step (w.heap.W.length:Int)).step (w.heap.P.length:Int)).step 12).next 10).toNat La)]=M wdv (w.heap.W.set (t.next (w.heap.W.length:Int)).toNat ([0,1,5,21,4096,4097,4112,16386,1099511627776,61].getD ((((t.step (w.heap.W.length:Int)).step (w.heap.P.length:Int)).step 12).next 10).toNat La))) Fz))))))))))))))
 .have n3:=n3 64 oq;exact lF func33 [] (Fh 10057 [.els (M wdv (w.heap.W.set (t.next (w.heap.W.length:Int)).toNat (bits BinOp.xor Le (w.heap.W.getD (t.next (w.heap.W.length:Int)).toNat La) (Le.wrap ((1:Int)*2^min ((((t.step (w.heap.W.length:Int)).step (w.heap.P.length:Int)).step 12).next 64).toNat 64)))))] (FA 11 14 wdv w.heap.W (FA 15 18 Page.dv w.heap.P (Fl 24 wdv w.heap.W (Fp 25 (@Z0g t ((w.heap.W.length:Int)) aa oq oq) (Fl 29 Page.dv w.heap.P (Fp 30 (@Z0g (t.step (w.heap.W.length:Int)) ((w.heap.P.length:Int)) aa oq oq) (Fp 32 (@Z0V ((t.step (w.heap.W.length:Int)).step (w.heap.P.length:Int)) (2) aa aa) (Fmq 51 wdv w.heap.W (t.next (w.heap.W.length:Int)) (Fp 53 (@Z0g (((t.step (w.heap.W.length:Int)).step (w.heap.P.length:Int)).step 12) (64) aa oq oq) (Fv 54 ((((t.step (w.heap.W.length:Int)).step (w.heap.P.length:Int)).step 12).next 64) (Fo (0<=(((t.step (w.heap.W.length:Int)).step (w.heap.P.length:Int)).step 12).next 64) (Fa (by(simp only[Lf,Lg,Lh];omega):0<=t.next (w.heap.W.length:Int)/\(t.next (w.heap.W.length:Int)).toNat<(M wdv w.heap.W).length) (Fa (by(simp only[Lf,Lg,Lh];omega):(t.next (w.heap.W.length:Int)).toNat<(M wdv w.heap.W).length) (Fa (by rw[Ll];rfl:(M wdv w.heap.W).set (t.next (w.heap.W.length:Int)).toNat [du64 (bits BinOp.xor Le (w.heap.W.getD (t.next (w.heap.W.length:Int)).toNat La) (Le.wrap ((1:Int)*2^min ((((t.step (w.heap.W.length:Int)).step (w.heap.P.length:Int)).step 12).next 64).toNat Le.bits)))]=M wdv (w.heap.W.set (t.next (w.heap.W.length:Int)).toNat (bits BinOp.xor Le (w.heap.W.getD (t.next (w.heap.W.length:Int)).toNat La) (Le.wrap ((1:Int)*2^min ((((t.step (w.heap.W.length:Int)).step (w.heap.P.length:Int)).step 12).next 64).toNat 64))))) Fz)))))))))))))))
 .have n3:=n3 5 oq;exact lF func33 [] (FA 11 14 wdv w.heap.W (FA 15 18 Page.dv w.heap.P (Fl 24 wdv w.heap.W (Fp 25 (@Z0g t ((w.heap.W.length:Int)) aa oq oq) (Fl 29 Page.dv w.heap.P (Fp 30 (@Z0g (t.step (w.heap.W.length:Int)) ((w.heap.P.length:Int)) aa oq oq) (Fp 32 (@Z0V ((t.step (w.heap.W.length:Int)).step (w.heap.P.length:Int)) (3) aa aa) (Fp 64 (@Z0g (((t.step (w.heap.W.length:Int)).step (w.heap.P.length:Int)).step 12) (5) aa oq oq) (Fm0q Page.dv w.heap.P ((t.step (w.heap.W.length:Int)).next (w.heap.P.length:Int)) (FS 10066 Page.dv w.heap.P (((t.step (w.heap.W.length:Int)).next (w.heap.P.length:Int)).toNat) (Page.mk ((((t.step (w.heap.W.length:Int)).step (w.heap.P.length:Int)).step 12).next 5) (w.heap.P.getD ((t.step (w.heap.W.length:Int)).next (w.heap.P.length:Int)).toNat La).S (w.heap.P.getD ((t.step (w.heap.W.length:Int)).next (w.heap.P.length:Int)).toNat La).U (w.heap.P.getD ((t.step (w.heap.W.length:Int)).next (w.heap.P.length:Int)).toNat La).N) ((w.heap.P.getD ((t.step (w.heap.W.length:Int)).next (w.heap.P.length:Int)).toNat La).dv) Fz))))))))))
 .have n3:=n3 3 oq;exact lF func33 [] (FA 11 14 wdv w.heap.W (FA 15 18 Page.dv w.heap.P (Fl 24 wdv w.heap.W (Fp 25 (@Z0g t ((w.heap.W.length:Int)) aa oq oq) (Fl 29 Page.dv w.heap.P (Fp 30 (@Z0g (t.step (w.heap.W.length:Int)) ((w.heap.P.length:Int)) aa oq oq) (Fp 32 (@Z0V ((t.step (w.heap.W.length:Int)).step (w.heap.P.length:Int)) (4) aa aa) (Fp 73 (@Z0g (((t.step (w.heap.W.length:Int)).step (w.heap.P.length:Int)).step 12) (3) aa oq oq) (Fm0q Page.dv w.heap.P ((t.step (w.heap.W.length:Int)).next (w.heap.P.length:Int)) (FS 10075 Page.dv w.heap.P (((t.step (w.heap.W.length:Int)).next (w.heap.P.length:Int)).toNat) (Page.mk (w.heap.P.getD ((t.step (w.heap.W.length:Int)).next (w.heap.P.length:Int)).toNat La).K ((((t.step (w.heap.W.length:Int)).step (w.heap.P.length:Int)).step 12).next 3) (w.heap.P.getD ((t.step (w.heap.W.length:Int)).next (w.heap.P.length:Int)).toNat La).U (w.heap.P.getD ((t.step (w.heap.W.length:Int)).next (w.heap.P.length:Int)).toNat La).N) ((w.heap.P.getD ((t.step (w.heap.W.length:Int)).next (w.heap.P.length:Int)).toNat La).dv) Fz))))))))))
 .have n3:=n3 9 oq;exact lF func33 [] (FA 11 14 wdv w.heap.W (FA 15 18 Page.dv w.heap.P (Fl 24 wdv w.heap.W (Fp 25 (@Z0g t ((w.heap.W.length:Int)) aa oq oq) (Fl 29 Page.dv w.heap.P (Fp 30 (@Z0g (t.step (w.heap.W.length:Int)) ((w.heap.P.length:Int)) aa oq oq) (Fp 32 (@Z0V ((t.step (w.heap.W.length:Int)).step (w.heap.P.length:Int)) (5) aa aa) (Fmq 86 Page.dv w.heap.P ((t.step (w.heap.W.length:Int)).next (w.heap.P.length:Int)) (Fp 88 (@Z0g (((t.step (w.heap.W.length:Int)).step (w.heap.P.length:Int)).step 12) (9) aa oq oq) (Fi 89 ((w.heap.P.getD ((t.step (w.heap.W.length:Int)).next (w.heap.P.length:Int)).toNat La).U+(((t.step (w.heap.W.length:Int)).step (w.heap.P.length:Int)).step 12).next 9) (Fi 90 ((w.heap.P.getD ((t.step (w.heap.W.length:Int)).next (w.heap.P.length:Int)).toNat La).U+(((t.step (w.heap.W.length:Int)).step (w.heap.P.length:Int)).step 12).next (9:Int)-4) (Fm0q Page.dv w.heap.P ((t.step (w.heap.W.length:Int)).next (w.heap.P.length:Int)) (FS 10092 Page.dv w.heap.P (((t.step (w.heap.W.length:Int)).next (w.heap.P.length:Int)).toNat) (Page.mk (w.heap.P.getD ((t.step (w.heap.W.length:Int)).next (w.heap.P.length:Int)).toNat La).K (w.heap.P.getD ((t.step (w.heap.W.length:Int)).next (w.heap.P.length:Int)).toNat La).S ((w.heap.P.getD ((t.step (w.heap.W.length:Int)).next (w.heap.P.length:Int)).toNat La).U+(((t.step (w.heap.W.length:Int)).step (w.heap.P.length:Int)).step 12).next (9:Int)-4) (w.heap.P.getD ((t.step (w.heap.W.length:Int)).next (w.heap.P.length:Int)).toNat La).N) ((w.heap.P.getD ((t.step (w.heap.W.length:Int)).next (w.heap.P.length:Int)).toNat La).dv) Fz)))))))))))))
 .have n3:=n3 3 oq;exact lF func33 [] (FA 11 14 wdv w.heap.W (FA 15 18 Page.dv w.heap.P (Fl 24 wdv w.heap.W (Fp 25 (@Z0g t ((w.heap.W.length:Int)) aa oq oq) (Fl 29 Page.dv w.heap.P (Fp 30 (@Z0g (t.step (w.heap.W.length:Int)) ((w.heap.P.length:Int)) aa oq oq) (Fp 32 (@Z0V ((t.step (w.heap.W.length:Int)).step (w.heap.P.length:Int)) (6) aa aa) (Fp 99 (@Z0g (((t.step (w.heap.W.length:Int)).step (w.heap.P.length:Int)).step 12) (3) aa oq oq) (Fi 100 ((((t.step (w.heap.W.length:Int)).step (w.heap.P.length:Int)).step 12).next (3:Int)-1) (Fm0q Page.dv w.heap.P ((t.step (w.heap.W.length:Int)).next (w.heap.P.length:Int)) (FS 10102 Page.dv w.heap.P (((t.step (w.heap.W.length:Int)).next (w.heap.P.length:Int)).toNat) (Page.mk (w.heap.P.getD ((t.step (w.heap.W.length:Int)).next (w.heap.P.length:Int)).toNat La).K (w.heap.P.getD ((t.step (w.heap.W.length:Int)).next (w.heap.P.length:Int)).toNat La).S (w.heap.P.getD ((t.step (w.heap.W.length:Int)).next (w.heap.P.length:Int)).toNat La).U ((((t.step (w.heap.W.length:Int)).step (w.heap.P.length:Int)).step 12).next (3:Int)-1)) ((w.heap.P.getD ((t.step (w.heap.W.length:Int)).next (w.heap.P.length:Int)).toNat La).dv) Fz)))))))))))
 .have n3:=n3 3 oq;exact lF func33 [] (FA 11 14 wdv w.heap.W (FA 15 18 Page.dv w.heap.P (Fl 24 wdv w.heap.W (Fp 25 (@Z0g t ((w.heap.W.length:Int)) aa oq oq) (Fl 29 Page.dv w.heap.P (Fp 30 (@Z0g (t.step (w.heap.W.length:Int)) ((w.heap.P.length:Int)) aa oq oq) (Fp 32 (@Z0V ((t.step (w.heap.W.length:Int)).step (w.heap.P.length:Int)) (7) aa aa) (Fp 106 (@Z0g (((t.step (w.heap.W.length:Int)).step (w.heap.P.length:Int)).step 12) (3) aa oq oq) Fz))))))))
 .have n3:=n3 ((w.heap.P.length+2:Nat):Int) oq;exact lF func33 [] (FA 11 14 wdv w.heap.W (FA 15 18 Page.dv w.heap.P (Fl 24 wdv w.heap.W (Fp 25 (@Z0g t ((w.heap.W.length:Int)) aa oq oq) (Fl 29 Page.dv w.heap.P (Fp 30 (@Z0g (t.step (w.heap.W.length:Int)) ((w.heap.P.length:Int)) aa oq oq) (Fp 32 (@Z0V ((t.step (w.heap.W.length:Int)).step (w.heap.P.length:Int)) (8) aa aa) (Fl 113 Page.dv w.heap.P (Fw 114 ((w.heap.P.length:Int)+2) (↑(w.heap.P.length+2):Int) (Fp 115 (@Z0g (((t.step (w.heap.W.length:Int)).step (w.heap.P.length:Int)).step 12) ((↑(w.heap.P.length+2):Int)) aa oq oq) (Fi 116 ((((t.step (w.heap.W.length:Int)).step (w.heap.P.length:Int)).step 12).next (↑(w.heap.P.length+2):Int)-1) Fz)))))))))))
 .exact lF func33 [] (FA 11 14 wdv w.heap.W (FA 15 18 Page.dv w.heap.P (Fl 24 wdv w.heap.W (Fp 25 (@Z0g t ((w.heap.W.length:Int)) aa oq oq) (Fl 29 Page.dv w.heap.P (Fp 30 (@Z0g (t.step (w.heap.W.length:Int)) ((w.heap.P.length:Int)) aa oq oq) (Fp 32 (@Z0V ((t.step (w.heap.W.length:Int)).step (w.heap.P.length:Int)) (9) aa aa) (Fi 123 (w.heap.C.pw+4) Fz))))))))
 .exact lF func33 [Lc] (FA 11 14 wdv w.heap.W (FA 15 18 Page.dv w.heap.P (Fl 24 wdv w.heap.W (Fp 25 (@Z0g t ((w.heap.W.length:Int)) aa oq oq) (Fl 29 Page.dv w.heap.P (Fp 30 (@Z0g (t.step (w.heap.W.length:Int)) ((w.heap.P.length:Int)) aa oq oq) (Fp 32 (@Z0V ((t.step (w.heap.W.length:Int)).step (w.heap.P.length:Int)) (10) aa aa) (Fa (by(simp only[Lf,Lg,Lh];omega):(0:Int)<=(1:Int)/\1<=(↑(M Page.dv w.heap.P).length:Int)) (Fr w.heap.C.pw (Fr w.heap.C.pg (Fr (M wdv w.heap.W) (Fa (by exact hq:Lm ((↑(M Page.dv w.heap.P).length:Int).toNat-Int.toNat 1) (Lj (Int.toNat 1) (M Page.dv w.heap.P))=M Page.dv (WorldM.mk (Heap.mk w.heap.C w.heap.W (Lj 1 w.heap.P) w.heap.S w.heap.B) w.G w.E).heap.P) (Fr w.heap.S (Fr w.heap.B (Fr (M wdv w.G) (Fr (M wdv w.E) Fz))))))))))))))))
 .exact lF func33 [] (FA 11 14 wdv w.heap.W (FA 15 18 Page.dv w.heap.P (Fl 24 wdv w.heap.W (Fp 25 (@Z0g t ((w.heap.W.length:Int)) aa oq oq) (Fl 29 Page.dv w.heap.P (Fp 30 (@Z0g (t.step (w.heap.W.length:Int)) ((w.heap.P.length:Int)) aa oq oq) (Fp 32 (@Z0V ((t.step (w.heap.W.length:Int)).step (w.heap.P.length:Int)) (11) aa aa) (Fu (@Zof w (((t.step (w.heap.W.length:Int)).step (w.heap.P.length:Int)).step 12) oq) Fz))))))))
structure HOk (h:Heap):Prop where
 w:WOk h.W
 wl:h.W.length<=1048576
 pl:h.P.length<=1048576
def Ze5(n:Int):0<=Le.wrap n/\Le.wrap n<=18446744073709551615:=by
 unfold IntKind.wrap;simp only[IntKind.signed,IntKind.bits,Bool.false_and,Bool.false_eq_true,if_false];omega
def Zin{w:WorldM}(hw:WOk w.heap.W)(t:Tape)(d:Int):0<=spV w t d/\spV w t d<=18446744073709551615:=by
 unfold spV;split
 .have h:∀ x∈spList,0<=x/\x<=18446744073709551615:=by
   intro x hx;simp only[spList,Lt,Lu,or_false]at hx;omega
  exact Z4f h _
 .exact Ze5 _
def ZkY{w:WorldM}(hm:MOk w 1000)(t:Tape):HOk (w.spoil t).heap:=by
 have a1:=area hm.hv;have a2:=validB_iff.1 hm.hv;have a3:=hm.L;have a4:=hm.pl;unfold WorldM.spoil spH;simp only;split
 .refine⟨λx hx=>?_,by simp only[Lq];omega,by simp only;omega⟩;rcases List.mem_or_eq_of_mem_set hx with hx | rfl
  .exact hm.W x hx
  .exact Zin hm.W _ _
 .split
  .exact⟨hm.W,by simp only;omega,by simp only[Lq];omega⟩
  .split
   .exact⟨hm.W,by simp only;omega,by simp only;omega⟩
   .split
    .exact⟨hm.W,by simp only;omega,by simp only;omega⟩
    .split
     .exact⟨hm.W,by simp only;omega,by simp only;omega⟩
     .split
      .exact⟨hm.W,by simp only;omega,by simp only[List.length_drop];omega⟩
      .exact⟨hm.W,by simp only;omega,by simp only[Lf];omega⟩
structure WZ where
 w:WorldM
 z:Nat
instance:Inhabited WZ:=⟨⟨default,1⟩⟩
def WZ.dv(x:WZ):List DV:=[dint x.w.heap.C.pw,dint x.w.heap.C.pg,.sl 1 (x.w.heap.W.map wdv),.sl 4 (x.w.heap.P.map Page.dv),dint x.w.heap.S,dint x.w.heap.B,.sl 1 (x.w.G.map wdv),.sl x.z (x.w.E.map wdv)]
def Z3h(w:WorldM)(t:Tape)(roots:List Int):List WZ:=[⟨w,1⟩,⟨w.spoil t,1⟩,⟨⟨w.heap,roots,[]⟩,0⟩]
structure WzOk (x:WZ):Prop where
 hw:WOk x.w.heap.W
 wl:x.w.heap.W.length<=1048576
 pl:x.w.heap.P.length<=1048576
 sl:x.w.G.length<=1000
 su:ULe x.w.G
def Z9V(tape odd roots:List Int)(hr:ULe roots)(hl:roots.length<=50):∀ x∈Z3h (Z0A tape) ⟨odd,0⟩ roots,WzOk x:=by
 have hm:=Zf0 tape;have a1:=area hm.hv;have a2:=validB_iff.1 hm.hv;have a3:=hm.L;have a4:=hm.pl;have g:=ZkY hm ⟨odd,0⟩;intro x hx;simp only[Z3h,Lt,Lu,or_false]at hx;rcases hx with rfl | rfl | rfl
 .exact⟨hm.W,by simp only;omega,by simp only;omega,hm.sl,hm.G⟩
 .exact⟨g.w,g.wl,g.pl,hm.sl,hm.G⟩
 .exact⟨hm.W,by simp only;omega,by simp only;omega,by simp only;omega,hr⟩
def mzAL(l:List WZ)(i:Nat):Tg:=⟨tm 74 [(8,bool Lb),(41,.ow 32032),(42,int l.length),(43,int i)],[(32032,.arr 30 8 (l.map WZ.dv))],7⟩
section
variable (l:List WZ) (hl:l.length<=4) (hx:∀ x∈l,WzOk x)
include hl hx
theorem Zmb(i:Nat)(hi:i<l.length):CP (rndF f14 0) (mzAL l i).st .nrm (mzAL l (i+1)).st:=by
 obtain⟨hw,wl,pl,sl,su⟩:=hx (l.getD i La) (by rw[Ln,Lo hi];exact Lp hi);let y1:=l.getD i La;let y0:=Z1c y1.w.heap y1.w.G;exact sF [] [] (Ftb 44 (Ld ((i:Int)<(l.length:Int))) (Fm 46 WZ.dv l (↑i) i (Fc 52 (@Z4L (y1.w.heap) (y1.w.G) aa aa aa) (Fc 60 (@Z55 (y1.w.heap) (y1.w.G) aa aa aa) (FcG 69 (!y0.2 != y0.2) (λhg=>by(try simp only[bs]at hg);exact @Z9Z (y0.1)) (Ffs 71 (y0.2 != y0.2||!(y0.1.objects==y0.1.objects&&(y0.1.W==y0.1.W&&(y0.1.small==y0.1.small&&(y0.1.large==y0.1.large&&y0.1.pinned==y0.1.pinned))))) (Fx 72 i Fz)))))))
omit hl hx in
theorem Zp2:CP (rndF f14 0) (mzAL l l.length).st (.ext 0) (Tg.st ⟨tm 74 [(8,bool Lb)],[],7⟩):=by
 exact sF [] [] (Ffb 44 (Ld ((l.length:Int)<(l.length:Int))) Fz)
def ZmM  := Z08 (S:=λi=>(mzAL l i).st) l.length (by kernel_rfl) (λi hi=>Zmb l hl hx i hi) (Zp2 l)
end
def mzBL(l:List WZ)(i:Nat):Tg:=⟨tm 74 [(8,bool Lb),(41,.ow 48040),(42,int l.length),(43,int i)],[(48040,.arr 30 8 (l.map WZ.dv))],8⟩
section
variable (l:List WZ) (hl:l.length<=4) (hx:∀ x∈l,WzOk x)
include hl hx
theorem Zm1(i:Nat)(hi:i<l.length):CP (rndF f14 0) (mzBL l i).st .nrm (mzBL l (i+1)).st:=by
 obtain⟨hw,wl,pl,sl,su⟩:=hx (l.getD i La) (by rw[Ln,Lo hi];exact Lp hi);let y1:=l.getD i La;let y0:=Z1c y1.w.heap y1.w.G;exact sF [] [] (Ftb 44 (Ld ((i:Int)<(l.length:Int))) (Fm 46 WZ.dv l (↑i) i (Fc 52 (@Z4L (y1.w.heap) (y1.w.G) aa aa aa) (Fc 60 (@Z55 (y1.w.heap) (y1.w.G) aa aa aa) (FcG 69 (!y0.2 != y0.2) (λhg=>by(try simp only[bs]at hg);exact @Z9Z (y0.1)) (Ffs 71 (y0.2 != y0.2||!(y0.1.objects==y0.1.objects&&(y0.1.W==y0.1.W&&(y0.1.small==y0.1.small&&(y0.1.large==y0.1.large&&y0.1.pinned==y0.1.pinned))))) (Fx 72 i Fz)))))))
omit hl hx in
theorem Zph:CP (rndF f14 0) (mzBL l l.length).st (.ext 0) (Tg.st ⟨tm 74 [(8,bool Lb)],[],8⟩):=by
 exact sF [] [] (Ffb 44 (Ld ((l.length:Int)<(l.length:Int))) Fz)
def Zov  := Z08 (S:=λi=>(mzBL l i).st) l.length (by kernel_rfl) (λi hi=>Zm1 l hl hx i hi) (Zph l)
end
def Zko(tape odd roots:List Int)(hr:ULe roots)(hl:roots.length<=50):CP (blkF f14 0) (Tg.st ⟨tm 74 [(8,bool Lb),(41,.ow 32032),(42,int 3),(43,int 0)],[(32032,.arr 30 8 ((Z3h (Z0A tape) ⟨odd,0⟩ roots).map WZ.dv))],7⟩) .nrm (Tg.st ⟨tm 74 [(8,bool Lb)],[],7⟩) :=
 ZmM (Z3h (Z0A tape) ⟨odd,0⟩ roots) (by simp[Z3h]) (Z9V tape odd roots hr hl)
def Zkj(raw:Heap)(tape odd roots:List Int)(hr:ULe roots)(hl:roots.length<=50)(hw:WOk raw.W)(c:raw.W.length<=5000/\raw.P.length<=100):CP (blkF f14 0) (Tg.st ⟨tm 74 [(8,bool Lb),(41,.ow 48040),(42,int 4),(43,int 0)],[(48040,.arr 30 8 ((Z3h (Z0A tape) ⟨odd,0⟩ roots++[(⟨⟨raw,roots,[]⟩,0⟩:WZ)]).map WZ.dv))],8⟩) .nrm (Tg.st ⟨tm 74 [(8,bool Lb)],[],8⟩) :=
 Zov (Z3h (Z0A tape) ⟨odd,0⟩ roots++[(⟨⟨raw,roots,[]⟩,0⟩:WZ)]) (by simp[Z3h]) λx hx=>by
  rcases List.mem_append.1 hx with hx | hx
  .exact Z9V tape odd roots hr hl x hx
  .rw[List.mem_singleton.1 hx];exact⟨hw,by simp only;omega,by simp only;omega,by simp only;omega,hr⟩
def ZeT(raw:Heap)(roots tape odd:List Int)(hw:WOk raw.W)(_:roots.length<=140737488355328)(hr:ULe roots)(h1:tape.length<=140737488355328)(h2:odd.length<=140737488355328):GP 14 [raw.av,Z01 roots,Z0K tape,Z0K odd] Lc (bool Lc) []:=by
 have hm:=Zf0 tape;have hso:=hm.so;have ht:TOk ⟨odd,0⟩:=by simp[TOk];omega
 have hus:∀ j,j<(Z0A tape).heap.P.length->-1099511627776<=((Z0A tape).heap.P.getD j La).U/\((Z0A tape).heap.P.getD j La).U<=1099511627776:=λj hj=>by
  have:=hm.us j hj;omega
 by_cases hl:roots.length<=50
 .by_cases c:raw.W.length<=5000/\raw.P.length<=100
  .exact gF [] func14 [] (Fh 34 [.call Lc (Sx.bool (Ld (raw.W.length<=5000/\raw.P.length<=100))) [],.br Lc] (Fh 42 [.int (↑(3+1):Int)] (Fl 18 wdv roots (Ffb 19 (Ld (50<(roots.length:Int))) (Fc 21 (@Zg0 tape aa) (Fbr 27 [32026] (@Zd8 (Z0A tape) (Tape.mk odd 0) aa aa (by(simp only[bs];omega)) aa) (Fa (@Zck raw) (Fb (Ld (raw.W.length<=5000/\raw.P.length<=100)=Lc) (Fa (by simp[*]:((((Li 3 [dint 0,dint 0,DV.sl 0 [],DV.sl 0 [],dint 0,dint 0,DV.sl 0 [],DV.sl 0 []]).set 0 [dint (Z0A tape).heap.C.pw,dint (Z0A tape).heap.C.pg,DV.sl 1 (M wdv (Z0A tape).heap.W),DV.sl 4 (M Page.dv (Z0A tape).heap.P),dint (Z0A tape).heap.S,dint (Z0A tape).heap.B,DV.sl 1 (M wdv (Z0A tape).G),DV.sl 1 (M wdv (Z0A tape).E)]).set 1 [dint ((Z0A tape).spoil (Tape.mk odd 0)).heap.C.pw,dint ((Z0A tape).spoil (Tape.mk odd 0)).heap.C.pg,DV.sl 1 (M wdv ((Z0A tape).spoil (Tape.mk odd 0)).heap.W),DV.sl 4 (M Page.dv ((Z0A tape).spoil (Tape.mk odd 0)).heap.P),dint ((Z0A tape).spoil (Tape.mk odd 0)).heap.S,dint ((Z0A tape).spoil (Tape.mk odd 0)).heap.B,DV.sl 1 (M wdv ((Z0A tape).spoil (Tape.mk odd 0)).G),DV.sl 1 (M wdv ((Z0A tape).spoil (Tape.mk odd 0)).E)]).set 2 [dint (Z0A tape).heap.C.pw,dint (Z0A tape).heap.C.pg,DV.sl 1 (M wdv (Z0A tape).heap.W),DV.sl 4 (M Page.dv (Z0A tape).heap.P),dint (Z0A tape).heap.S,dint (Z0A tape).heap.B,DV.sl 1 (M wdv roots),DV.sl 0 []]).length+((Li 1 [dint 0,dint 0,DV.sl 0 [],DV.sl 0 [],dint 0,dint 0,DV.sl 0 [],DV.sl 0 []]).set 0 [dint raw.C.pw,dint raw.C.pg,DV.sl 1 (M wdv raw.W),DV.sl 4 (M Page.dv raw.P),dint raw.S,dint raw.B,DV.sl 1 (M wdv roots),DV.sl 0 []]).length<=2^30) (Fr (↑((((Li (3:Nat) [dint (0:Int),dint (0:Int),DV.sl (0:Nat) [],DV.sl (0:Nat) [],dint (0:Int),dint (0:Int),DV.sl (0:Nat) [],DV.sl (0:Nat) []]).set (0:Nat) [dint (Z0A tape).heap.C.pw,dint (Z0A tape).heap.C.pg,DV.sl (1:Nat) (M wdv (Z0A tape).heap.W),DV.sl (4:Nat) (M Page.dv (Z0A tape).heap.P),dint (Z0A tape).heap.S,dint (Z0A tape).heap.B,DV.sl (1:Nat) (M wdv (Z0A tape).G),DV.sl (1:Nat) (M wdv (Z0A tape).E)]).set (1:Nat) [dint ((Z0A tape).spoil (Tape.mk odd (0:Int))).heap.C.pw,dint ((Z0A tape).spoil (Tape.mk odd (0:Int))).heap.C.pg,DV.sl (1:Nat) (M wdv ((Z0A tape).spoil (Tape.mk odd (0:Int))).heap.W),DV.sl (4:Nat) (M Page.dv ((Z0A tape).spoil (Tape.mk odd (0:Int))).heap.P),dint ((Z0A tape).spoil (Tape.mk odd (0:Int))).heap.S,dint ((Z0A tape).spoil (Tape.mk odd (0:Int))).heap.B,DV.sl (1:Nat) (M wdv ((Z0A tape).spoil (Tape.mk odd (0:Int))).G),DV.sl (1:Nat) (M wdv ((Z0A tape).spoil (Tape.mk odd (0:Int))).E)]).set (2:Nat) [dint (Z0A tape).heap.C.pw,dint (Z0A tape).heap.C.pg,DV.sl (1:Nat) (M wdv (Z0A tape).heap.W),DV.sl (4:Nat) (M Page.dv (Z0A tape).heap.P),dint (Z0A tape).heap.S,dint (Z0A tape).heap.B,DV.sl (1:Nat) (M wdv roots),DV.sl (0:Nat) []]++(Li (1:Nat) [dint (0:Int),dint (0:Int),DV.sl (0:Nat) [],DV.sl (0:Nat) [],dint (0:Int),dint (0:Int),DV.sl (0:Nat) [],DV.sl (0:Nat) []]).set (0:Nat) [dint raw.C.pw,dint raw.C.pg,DV.sl (1:Nat) (M wdv raw.W),DV.sl (4:Nat) (M Page.dv raw.P),dint raw.S,dint raw.B,DV.sl (1:Nat) (M wdv roots),DV.sl (0:Nat) []]).length:Int) (Fu (@Zkj raw tape odd roots aa aa aa aa) (Fc 73 (@Zar) Fz))))))))))))
  .exact gF [] func14 [] (Fh 34 [.call Lc (Sx.bool (Ld (raw.W.length<=5000/\raw.P.length<=100))) [],.br Lb] (Fh 42 [.int (↑(3:Nat):Int)] (Fl 18 wdv roots (Ffb 19 (Ld (50<(roots.length:Int))) (Fc 21 (@Zg0 tape aa) (Fbr 27 [32026] (@Zd8 (Z0A tape) (Tape.mk odd 0) aa aa (by(simp only[bs];omega)) aa) (Fa (@Zck raw) (Fb (Ld (raw.W.length<=5000/\raw.P.length<=100)=Lb) (Fr (↑((((Li (3:Nat) [dint (0:Int),dint (0:Int),DV.sl (0:Nat) [],DV.sl (0:Nat) [],dint (0:Int),dint (0:Int),DV.sl (0:Nat) [],DV.sl (0:Nat) []]).set (0:Nat) [dint (Z0A tape).heap.C.pw,dint (Z0A tape).heap.C.pg,DV.sl (1:Nat) (M wdv (Z0A tape).heap.W),DV.sl (4:Nat) (M Page.dv (Z0A tape).heap.P),dint (Z0A tape).heap.S,dint (Z0A tape).heap.B,DV.sl (1:Nat) (M wdv (Z0A tape).G),DV.sl (1:Nat) (M wdv (Z0A tape).E)]).set (1:Nat) [dint ((Z0A tape).spoil (Tape.mk odd (0:Int))).heap.C.pw,dint ((Z0A tape).spoil (Tape.mk odd (0:Int))).heap.C.pg,DV.sl (1:Nat) (M wdv ((Z0A tape).spoil (Tape.mk odd (0:Int))).heap.W),DV.sl (4:Nat) (M Page.dv ((Z0A tape).spoil (Tape.mk odd (0:Int))).heap.P),dint ((Z0A tape).spoil (Tape.mk odd (0:Int))).heap.S,dint ((Z0A tape).spoil (Tape.mk odd (0:Int))).heap.B,DV.sl (1:Nat) (M wdv ((Z0A tape).spoil (Tape.mk odd (0:Int))).G),DV.sl (1:Nat) (M wdv ((Z0A tape).spoil (Tape.mk odd (0:Int))).E)]).set (2:Nat) [dint (Z0A tape).heap.C.pw,dint (Z0A tape).heap.C.pg,DV.sl (1:Nat) (M wdv (Z0A tape).heap.W),DV.sl (4:Nat) (M Page.dv (Z0A tape).heap.P),dint (Z0A tape).heap.S,dint (Z0A tape).heap.B,DV.sl (1:Nat) (M wdv roots),DV.sl (0:Nat) []]).length:Int) (Fu (@Zko tape odd roots aa aa) (Fc 73 (@Zar) Fz)))))))))))
 .exact gF [] func14 [] (Fl 18 wdv roots (Ftb 19 (Ld (50<(roots.length:Int))) Fz))
end Go.Proofs.YtgedmeaemofdkaaGreat
namespace Go.Proofs.YtgedmeaemofdkaaGreat
open Go.Sx Go.RowKit
def Z5z(os:Os)(started:os.Started)(H:Type)(enc:TypeId×Value->H) :
  ReturnsInHanded {} Tryz.checked os 14 .any (Rows.boundMeasuresSpec.pre6 enc prog f14 Rows.boundMeasuresRow.domain Lb) (Rows.boundMeasuresSpec.post enc prog f14 Lb Lc Lb Lb):=by
 refine ZcT (C:=Tryz.checked) (tb:=4) 5 own0 started kr func14
  (ChangeSpec.witness6 (enc:=enc) (C:=Tryz.checked) Lb ⟨#[],#[.agg #[.int .i64 0,.int .i64 0,.slice none 0 0,.slice none 0 0,.int .i64 0,.int .i64 0],.slice none 0 0,.slice none 0 0,.slice none 0 0],[]⟩ 8 kr kr kr kr)
  Zl3 kr kr kr kr rfl (λds hd=>?_) (λls hl h=>?_)
 .match ds,hd with
  | [a0,a1,a2,a3],_=>rfl
 .match ls,hl with
  | [l0,l1,l2,l3],_ =>
   obtain⟨raw,rfl,hraw⟩:=Zm7 (n:=1) (h 0 28 l0 kr rfl);obtain⟨roots,rfl,hroots,kroots⟩:=Zd1 (n:=3) (h 1 25 l1 kr rfl);obtain⟨tape,rfl,htape⟩:=Zfs (n:=3) (h 2 22 l2 kr rfl);obtain⟨odd,rfl,hodd⟩:=Zfs (n:=3) (h 3 22 l3 kr rfl);have e:Zb5 prog Tryz.f14.params.toList [ZpM raw,[.sl 1 (roots.map wdv)],[.sl 1 (tape.map idv)],[.sl 1 (odd.map idv)]]=[raw.av,Z01 roots,Z0K tape,Z0K odd]:=by kernel_rfl
   exact⟨Lc,e▸ZeT raw roots tape odd hraw hroots kroots htape hodd⟩
def Z7y:(Rows.boundMeasuresRow.inPlace==Tryz.prog.inPlace 14)=Lc:=by kernel_rfl
def Z7v:(Rows.boundMeasuresRow.unfollowed==Tryz.prog.unfollowed 14)=Lc:=by kernel_rfl
def Z7u:(Rows.boundMeasuresRow.recurses==Tryz.prog.recurses 14)=Lc:=by kernel_rfl
def Z7s:(Rows.boundMeasuresRow.named==Tryz.prog.varsNamed 14)=Lc:=by kernel_rfl
def Z5y:joinedFacts prog 14 f14 Rows.boundMeasuresSpec Rows.boundMeasuresRow=Lc:=by
 unfold joinedFacts;rw[Z7y,Z7v,Z7u,Z7s];kernel_rfl
theorem boundMeasures_holds:Rows.BoundMeasuresSaid :=
 OpenClaim.holds_of_wide 14 f14 rfl rfl rfl rfl rfl rfl rfl ⟨rfl,rfl,rfl,rfl,rfl⟩ rfl rfl rfl rfl rfl kr func14 Z5y
  (of_decide_eq_true kr) (by unfold Func.isWrapper;first | (rw[if_pos (by decide+kernel)];kernel_rfl) | (rw[if_neg (by decide+kernel)];exact⟨rfl,rfl⟩))
  (λos started H enc _=>Z5z os started H enc)
end Go.Proofs.YtgedmeaemofdkaaGreat
