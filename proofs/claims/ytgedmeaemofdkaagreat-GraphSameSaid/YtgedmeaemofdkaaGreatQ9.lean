/-
 The statement GraphSame: part 9.
 Conditions: none.
-/
import Derived.Test.YtgedmeaemofdkaaGreatQ8
set_option maxRecDepth 100000
set_option maxHeartbeats 2000000
set_option linter.all false
open Inhabited renaming default->X
open List renaming map->Y,take->M,drop->L,length_map->Lb,range->Lc,mem_range->Le
open Bool renaming true->Z,false->La
open Decidable renaming decide->O,not_not->Ld
open Go.Proofs.Tryz
namespace Go.Proofs.YtgedmeaemofdkaaGreat
open Go.Sx
def Z0K(l:List Page):Nat->Nat
 | 0=>0
 | i+1=>Z0K l i+(if(l.getD i X).K=1/\0<(l.getD i X).N then 1 else 0)
def Z3W(l:List Page):∀ i,Z0K l i<=i
 | 0=>Nat.le_refl _
 | i+1=>by
  have:=Z3W l i;simp only[Z0K];split<;>omega
def crowd(l:List Page):Nat:=Z0K l l.length
def ZeG(h:Heap)(i:Nat):Tg:=⟨tm 31 [(1,.pt 8001 0 0),(3,int (Z0K h.P i)),(4,int i)],[(8001,.box 28 h.cells)],60⟩
def Zga(h:Heap)(hl:h.P.length<=1048576)(i:Nat)(hi:i<h.P.length):CP (rndF f155 0) (ZeG h i).st .nrm (ZeG h (i+1)).st:=by
 have hc:=Z3W h.P i;have Q0 {h_ c_ p_} (r_:Fq h_ c_ p_):=FN 8 9 15 Page.dv h.P i (FeG 23 ((h.P.getD i X).K==1) Page.dv h.P (↑i) i r_);rcases bb ((h.P.getD i X).K==1&&O (0<(h.P.getD i X).N))with hc0 | hc0<;>have hc0p:=hc0<;>simp only[bs]at hc0p
 .obtain⟨hc0pa,hc0pb⟩:=hc0p;exact sF [] (fO 8) (Q0 (Ft 27 hc0 (Fw 29 ((↑(Z0K h.P i):Int)+1) (↑(Z0K h.P i+1):Int) (Fx 11 i (Fa (by(simp only[Z0K] ;exact sj):(↑(Z0K h.P i+1):Int)=(↑(Z0K h.P (i+1)):Int)) Fz)))))
 .exact sF [] (fO 8) (Q0 (Ff 27 hc0 (Fx 11 i (Fa (by(simp only[Z0K] ;exact sj):(↑(Z0K h.P i):Int)=(↑(Z0K h.P (i+1)):Int)) Fz))))
def Zli(h:Heap):CP (rndF f155 0) (ZeG h h.P.length).st (.ext 0) (Tg.st ⟨tm 31 [(3,int (crowd h.P))],[],60⟩):=by
 exact sF [] [] (FO 8 9 Page.dv h.P Fz)
def ZhL(h:Heap)(hl:h.P.length<=1048576)  := Z0b (S:=λi=>(ZeG h i).st) h.P.length (by kernel_rfl) (λi hi=>Zga h hl i hi) (Zli h)
def Z7W(h:Heap)(hl:h.P.length<=1048576):GP 155 [h.av] Z (int (crowd h.P)) []:=by
 exact gF [] func155 [] (Fu (@ZhL h aa) Fz)
def Zk6(w:WorldM)(t:Tape):Int:=t.next (w.G.length:Int)
def WorldM.drop(w:WorldM)(t:Tape):WorldM :=
 if 0<w.G.length then⟨w.heap,w.G.take (Zk6 w t).toNat++w.G.drop ((Zk6 w t).toNat+1),if(t.step (w.G.length:Int)).next 3=0 then w.E++[w.G.getD (Zk6 w t).toNat X]else w.E⟩else w
def WorldM.dropT(w:WorldM)(t:Tape):Tape:=if 0<w.G.length then(t.step (w.G.length:Int)).step 3 else t
def Zc5(w:WorldM)(t:Tape)(hw:WMok w)(ht:TOk t)(ha:t.at'<=1040000):LP 105 [w.av,.pt 0 0 0] [t.b] (w.drop t).av [(w.dropT t).b]:=by
 have h1:=hw.sl;have h2:=hw.wl;have s1:=Z3J (t:=t) (w.G.length:Int);have k1:=Z4J ht s1.2.2 oq oq;have n1:=λh=>Z0P t (n:=(w.G.length:Int)) h;by_cases c1:0<w.G.length
 .have eT:w.dropT t=(t.step (w.G.length:Int)).step 3:=by rw[WorldM.dropT,if_pos c1]
  by_cases c2:(t.step (w.G.length:Int)).next 3=0
  .have eP:w.drop t=⟨w.heap,w.G.take (t.next (w.G.length:Int)).toNat++w.G.drop ((t.next (w.G.length:Int)).toNat+1),w.E++[w.G.getD (t.next (w.G.length:Int)).toNat X]⟩:=by rw[WorldM.drop,if_pos c1,if_pos c2];rfl
   rw[eP,eT];exact lF func105 [Z] (Fh 28 [.els (Y wdv (w.E++[w.G.getD (t.next (w.G.length:Int)).toNat X]))] (Fh 35 [.els (Y wdv (M (t.next (w.G.length:Int)).toNat w.G))] (Fh 40 [.els (Y wdv (L (t.next (w.G.length:Int)+1).toNat w.G))] (Fh 41 [.els (Y wdv (M (t.next (w.G.length:Int)).toNat w.G++L (t.next (w.G.length:Int)+1).toNat w.G))] (Fl 9 wdv w.G (Ftb 11 (O (0<(w.G.length:Int))) (Fp 14 (@Z0x t ((w.G.length:Int)) aa oq oq) (Fp 16 (@Z0x (t.step (w.G.length:Int)) (3) aa oq oq) (Ftb 17 ((t.step (w.G.length:Int)).next (3:Int)==0) (FA 18 21 wdv w.E (Fe 25 wdv w.G (t.next (w.G.length:Int)) (Fs 27 (Y wdv [w.G.getD (t.next (w.G.length:Int)).toNat X]) (Fa (by(simp[*];omega):(Y wdv w.E).length+(Y wdv [w.G.getD (t.next (w.G.length:Int)).toNat X]).length<=2^30) (Fa (ms:Y wdv w.E++Y wdv [w.G.getD (t.next (w.G.length:Int)).toNat X]=Y wdv (w.E++[w.G.getD (t.next (w.G.length:Int)).toNat X])) (Fs 30 (Y wdv []) (Fa (by(simp only[Lb];omega):0<=t.next (w.G.length:Int)/\t.next (w.G.length:Int)<=(↑(Y wdv w.G).length:Int)) (Fa (ms:M (t.next (w.G.length:Int)).toNat (Y wdv w.G)=Y wdv (M (t.next (w.G.length:Int)).toNat w.G)) (Fa (by(simp[*];omega):(Y wdv []).length+(Y wdv (M (t.next (w.G.length:Int)).toNat w.G)).length<=2^30) (Fs 34 (Y wdv (M (t.next (w.G.length:Int)).toNat w.G)) (Fi 39 (t.next (w.G.length:Int)+1) (Fa (by(simp only[Lb];omega):0<=t.next (w.G.length:Int)+1/\t.next (w.G.length:Int)+1<=(↑(Y wdv w.G).length:Int)) (Fa (ms:L (t.next (w.G.length:Int)+1).toNat (Y wdv w.G)=Y wdv (L (t.next (w.G.length:Int)+1).toNat w.G)) (Fa (by(simp[*];omega):(Y wdv (M (t.next (w.G.length:Int)).toNat w.G)).length+(Y wdv (L (t.next (w.G.length:Int)+1).toNat w.G)).length<=2^30) (Fa (ms:Y wdv (M (t.next (w.G.length:Int)).toNat w.G)++Y wdv (L (t.next (w.G.length:Int)+1).toNat w.G)=Y wdv (M (t.next (w.G.length:Int)).toNat w.G++L (t.next (w.G.length:Int)+1).toNat w.G)) (Fr w.heap.C.pw (Fr w.heap.C.pg (Fr (Y wdv w.heap.W) (Fr (Y Page.dv w.heap.P) (Fr w.heap.S (Fr w.heap.B (Fa (by refine congrArg _ ?_;(simp[*];omega):Y wdv (M (t.next (w.G.length:Int)).toNat w.G++L (t.next (w.G.length:Int)+1).toNat w.G)=Y wdv (WorldM.mk w.heap (M (t.next (w.G.length:Int)).toNat w.G++L ((t.next (w.G.length:Int)).toNat+1) w.G) (w.E++[w.G.getD (t.next (w.G.length:Int)).toNat X])).G) (Fr (Y wdv (w.E++[w.G.getD (t.next (w.G.length:Int)).toNat X])) Fz))))))))))))))))))))))))))))))))
  .have eP:w.drop t=⟨w.heap,w.G.take (t.next (w.G.length:Int)).toNat++w.G.drop ((t.next (w.G.length:Int)).toNat+1),w.E⟩:=by rw[WorldM.drop,if_pos c1,if_neg c2];rfl
   rw[eP,eT];exact lF func105 [Z] (Fh 35 [.els (Y wdv (M (t.next (w.G.length:Int)).toNat w.G))] (Fh 40 [.els (Y wdv (L (t.next (w.G.length:Int)+1).toNat w.G))] (Fh 41 [.els (Y wdv (M (t.next (w.G.length:Int)).toNat w.G++L (t.next (w.G.length:Int)+1).toNat w.G))] (Fl 9 wdv w.G (Ftb 11 (O (0<(w.G.length:Int))) (Fp 14 (@Z0x t ((w.G.length:Int)) aa oq oq) (Fp 16 (@Z0x (t.step (w.G.length:Int)) (3) aa oq oq) (Ffb 17 ((t.step (w.G.length:Int)).next (3:Int)==0) (Fs 30 (Y wdv []) (Fa (by(simp only[Lb];omega):0<=t.next (w.G.length:Int)/\t.next (w.G.length:Int)<=(↑(Y wdv w.G).length:Int)) (Fa (ms:M (t.next (w.G.length:Int)).toNat (Y wdv w.G)=Y wdv (M (t.next (w.G.length:Int)).toNat w.G)) (Fa (by(simp[*];omega):(Y wdv []).length+(Y wdv (M (t.next (w.G.length:Int)).toNat w.G)).length<=2^30) (Fs 34 (Y wdv (M (t.next (w.G.length:Int)).toNat w.G)) (Fi 39 (t.next (w.G.length:Int)+1) (Fa (by(simp only[Lb];omega):0<=t.next (w.G.length:Int)+1/\t.next (w.G.length:Int)+1<=(↑(Y wdv w.G).length:Int)) (Fa (ms:L (t.next (w.G.length:Int)+1).toNat (Y wdv w.G)=Y wdv (L (t.next (w.G.length:Int)+1).toNat w.G)) (Fa (by(simp[*];omega):(Y wdv (M (t.next (w.G.length:Int)).toNat w.G)).length+(Y wdv (L (t.next (w.G.length:Int)+1).toNat w.G)).length<=2^30) (Fa (ms:Y wdv (M (t.next (w.G.length:Int)).toNat w.G)++Y wdv (L (t.next (w.G.length:Int)+1).toNat w.G)=Y wdv (M (t.next (w.G.length:Int)).toNat w.G++L (t.next (w.G.length:Int)+1).toNat w.G)) (Fr w.heap.C.pw (Fr w.heap.C.pg (Fr (Y wdv w.heap.W) (Fr (Y Page.dv w.heap.P) (Fr w.heap.S (Fr w.heap.B (Fa (by refine congrArg _ ?_;(simp[*];omega):Y wdv (M (t.next (w.G.length:Int)).toNat w.G++L (t.next (w.G.length:Int)+1).toNat w.G)=Y wdv (WorldM.mk w.heap (M (t.next (w.G.length:Int)).toNat w.G++L ((t.next (w.G.length:Int)).toNat+1) w.G) w.E).G) (Fr (Y wdv w.E) Fz))))))))))))))))))))))))))
 .have eP:w.drop t=w:=by rw[WorldM.drop,if_neg c1]
  have eT:w.dropT t=t:=by rw[WorldM.dropT,if_neg c1]
  rw[eP,eT];exact lF func105 [] (Fl 9 wdv w.G (Ffb 11 (O (0<(w.G.length:Int))) Fz))
def crwL(h:Heap)(i:Nat):Tg:=⟨tm 65 [(1,.pt 8001 0 0),(2,.pt 8002 0 0),(6,int (Z0K h.P i)),(7,int i)],[(8002,.box 148 [int 0,int 0,u64 0]),(8001,.box 28 h.cells)],64⟩
def ZkX(h:Heap)(i:Nat)(hp:Z03 h=Z)(hi:i<h.P.length):CP (rndF f89 2) (crwL h i).st .nrm (crwL h (i+1)).st:=by
 have po:=Z08 hp;have:=Z3W h.P i;by_cases h1:(h.P.getD i X).K=1
 .by_cases h2:0<(h.P.getD i X).N
  .have e:Z0K h.P (i+1)=Z0K h.P i+1:=by rw[Z0K,if_pos ⟨h1,h2⟩]
   rw[crwL,crwL,e];exact sF [] [] (FN 35 36 42 Page.dv h.P i (FeG 50 ((h.P.getD i X).K==1) Page.dv h.P (↑i) i (Ftb 54 ((h.P.getD i X).K==1&&O (0<(h.P.getD i X).N)) (Fw 56 ((↑(Z0K h.P i):Int)+1) (↑(Z0K h.P i+1):Int) (Fx 38 i Fz)))))
  .have e:Z0K h.P (i+1)=Z0K h.P i:=by rw[Z0K,if_neg (λq=>h2 q.2)];rfl
   rw[crwL,crwL,e];exact sF [] [] (FN 35 36 42 Page.dv h.P i (FeG 50 ((h.P.getD i X).K==1) Page.dv h.P (↑i) i (Ffb 54 ((h.P.getD i X).K==1&&O (0<(h.P.getD i X).N)) (Fx 38 i Fz))))
 .have e:Z0K h.P (i+1)=Z0K h.P i:=by rw[Z0K,if_neg (λq=>h1 q.1)];rfl
  rw[crwL,crwL,e];exact sF [] [] (FN 35 36 42 Page.dv h.P i (FeG 50 ((h.P.getD i X).K==1) Page.dv h.P (↑i) i (Ffb 54 ((h.P.getD i X).K==1&&O (0<(h.P.getD i X).N)) (Fx 38 i Fz))))
def Zoe(h:Heap)(hp:Z03 h=Z):CP (rndF f89 2) (crwL h h.P.length).st (.ext 2) (Tg.st ⟨tm 65 [(1,.pt 8001 0 0),(2,.pt 8002 0 0),(6,int (Z0K h.P h.P.length))],[(8002,.box 148 [int 0,int 0,u64 0]),(8001,.box 28 h.cells)],64⟩):=by
 have po:=Z08 hp;exact sF [] [] (FO 35 36 Page.dv h.P Fz)
def Zic(h:Heap)(hp:Z03 h=Z)  := Z0b (S:=λk=>(crwL h k).st) h.P.length (by kernel_rfl) (λk hk=>ZkX h k hp hk) (Zoe h hp)
def Zgq(h:Heap)(hw:WOk h.W)(hp:Z03 h=Z)(hb:Z5w h=none)(hq:(Z0U h (Z04 h).1).fault=0)(hc:h.C.pg/4<(Z0K h.P h.P.length:Nat)):GP 89 [h.av] Z (Finding.mk 7 0 0).av []:=by
 have po:=Z08 hp;have:=Z3W h.P h.P.length;exact gF [] func89 [] (Fc 9 (@Z0h h) (Ffb 10 (!Z03 h) (Fu (@Zdu h aa aa aa) (Fc 27 (@Z4A h aa) (Ffb 30 ((Z0U h (Z04 h).1).fault != 0) (Fu (@Zic h aa) (Fg 61 (by rw[Int.tdiv_eq_ediv_of_nonneg oq,wrapI' oq oq]:IntKind.i64.wrap (h.C.pg.tdiv 4)=h.C.pg/4) (Fa (by decide:(4:Int)≠0) (Ftb 62 (O (h.C.pg/4<(↑(Z0K h.P h.P.length):Int))) Fz)))))))))
def Zia(h:Heap)(hw:WOk h.W)(hp:Z03 h=Z)(hb:Z5w h=none)(hq:(Z0U h (Z04 h).1).fault=0)(hc:¬ h.C.pg/4<(Z0K h.P h.P.length:Nat)):GP 89 [h.av] Z (Finding.mk 0 0 0).av []:=by
 have po:=Z08 hp;have:=Z3W h.P h.P.length;exact gF [] func89 [] (Fc 9 (@Z0h h) (Ffb 10 (!Z03 h) (Fu (@Zdu h aa aa aa) (Fc 27 (@Z4A h aa) (Ffb 30 ((Z0U h (Z04 h).1).fault != 0) (Fu (@Zic h aa) (Fg 61 (by rw[Int.tdiv_eq_ediv_of_nonneg oq,wrapI' oq oq]:IntKind.i64.wrap (h.C.pg.tdiv 4)=h.C.pg/4) (Fa (by decide:(4:Int)≠0) (Ffb 62 (O (h.C.pg/4<(↑(Z0K h.P h.P.length):Int))) Fz)))))))))
def Z0R(h:Heap):Finding :=
 if Z03 h=Z then
  match Z5w h with
  | some i=>pageF h i
  | none =>
   if(Z0U h (Z04 h).1).fault≠0 then Z0U h (Z04 h).1
   else if h.C.pg/4<(Z0K h.P h.P.length:Nat)then⟨7,0,0⟩else⟨0,0,0⟩
 else⟨1,0,0⟩
def Z6y(h:Heap)(hw:WOk h.W):GP 89 [h.av] Z (Z0R h).av []:=by
 unfold Z0R;by_cases hp:Z03 h=Z
 .rw[if_pos hp];cases hb:Z5w h with
  | some i=>exact Zjd h hw hp i hb
  | none =>
   by_cases hq:(Z0U h (Z04 h).1).fault=0
   .simp only[hq,ne_eq,not_true_eq_false,if_false];by_cases hc:h.C.pg/4<(Z0K h.P h.P.length:Nat)
    .rw[if_pos hc];exact Zgq h hw hp hb hq hc
    .rw[if_neg hc];exact Zia h hw hp hb hq hc
   .simp only[ne_eq,hq,not_false_eq_true,if_true];exact ZjX h hw hp hb hq
 .rw[if_neg hp];exact ZjU h hw (by simpa using hp)
def Z7B(h:Heap)(hw:WOk h.W):GP 41 [h.av] Z (bool (O (Z0R h=⟨0,0,0⟩))) []:=by
 by_cases h1:(Z0R h).fault=0
 .by_cases h2:(Z0R h).page=0
  .by_cases h3:(Z0R h).addr=0
   .have e:O (Z0R h=⟨0,0,0⟩)=Z:=by
     apply decide_eq_true;revert h1 h2 h3;cases Z0R h;simp+contextual
    rw[e];exact gF [] func41 [Z] (Fc 4 (@Z6y h aa) (Fb (((Z0R h).fault==0&&((Z0R h).page==0&&(Z0R h).addr==0))=Z) Fz))
   .have e:O (Z0R h=⟨0,0,0⟩)=La:=decide_eq_false (λq=>h3 (by rw[q]));rw[e];exact gF [] func41 [Z] (Fc 4 (@Z6y h aa) (Fb (((Z0R h).fault==0&&((Z0R h).page==0&&(Z0R h).addr==0))=La) Fz))
  .have e:O (Z0R h=⟨0,0,0⟩)=La:=decide_eq_false (λq=>h2 (by rw[q]));rw[e];exact gF [] func41 [Z] (Fc 4 (@Z6y h aa) (Fb (((Z0R h).fault==0&&((Z0R h).page==0&&(Z0R h).addr==0))=La) Fz))
 .have e:O (Z0R h=⟨0,0,0⟩)=La:=decide_eq_false (λq=>h1 (by rw[q]));rw[e];exact gF [] func41 [Z] (Fc 4 (@Z6y h aa) (Fb (((Z0R h).fault==0&&((Z0R h).page==0&&(Z0R h).addr==0))=La) Fz))
def ZbF(h:Heap)(refs:List Int)(hw:WOk h.W)(hg:Z0R h≠⟨0,0,0⟩):GP 42 [h.av,Z01 refs] Z (bool La) []:=by
 exact gF [] func42 [] (Fc 9 (@Z7B h aa) (Ftb 10 (!decide (Z0R h=Finding.mk 0 0 0)) Fz))
def rfsL(refs all:List Int)(i:Nat):Tg:=⟨tm 36 [(1,Z01 refs),(4,bool La),(5,Z01 all),(7,int i)],[],60⟩
def Zeu(refs all:List Int)(i:Nat)(hl:refs.length<=1048576)(ha:all.length<=1048576)(hi:i<refs.length)(hb:refs.getD i X=0\/refs.getD i X∈all):CP (rndF f42 0) (rfsL refs all i).st .nrm (rfsL refs all (i+1)).st:=by
 rcases hb with hb | hb
 .exact sF [] [] (FN 18 19 24 wdv refs i (FeG 31 (refs.getD i X != 0) wdv refs (↑i) i (FcG 33 (refs.getD i X != 0) (λhg=>by(try simp only[bs]at hg);exact @Z0W all (refs.getD i X) aa) (Ffb 35 (refs.getD i X != 0&&!decide (refs.getD i X∈all)) (Fx 21 i Fz)))))
 .by_cases h0:refs.getD i X=0
  .exact sF [] [] (FN 18 19 24 wdv refs i (FeG 31 (refs.getD i X != 0) wdv refs (↑i) i (FcG 33 (refs.getD i X != 0) (λhg=>by(try simp only[bs]at hg);exact @Z0W all (refs.getD i X) aa) (Ffb 35 (refs.getD i X != 0&&!decide (refs.getD i X∈all)) (Fx 21 i Fz)))))
  .exact sF [] [] (FN 18 19 24 wdv refs i (FeG 31 (refs.getD i X != 0) wdv refs (↑i) i (FcG 33 (refs.getD i X != 0) (λhg=>by(try simp only[bs]at hg);exact @Z0W all (refs.getD i X) aa) (Ffs 35 (refs.getD i X != 0&&!decide (refs.getD i X∈all)) (Fx 21 i Fz)))))
def Zkw(refs all:List Int)(i:Nat)(hl:refs.length<=1048576)(ha:all.length<=1048576)(hi:i<refs.length)(h0:refs.getD i X≠0)(hb:refs.getD i X∉all):CP (rndF f42 0) (rfsL refs all i).st .ret (Tg.st ⟨tm 36 [(4,bool La)],[],60⟩):=by
 exact sF [] [] (FN 18 19 24 wdv refs i (FeG 31 (refs.getD i X != 0) wdv refs (↑i) i (FcG 33 (refs.getD i X != 0) (λhg=>by(try simp only[bs]at hg);exact @Z0W all (refs.getD i X) aa) (Fts 35 (refs.getD i X != 0&&!decide (refs.getD i X∈all)) Fz))))
def ZnJ(refs all:List Int):CP (rndF f42 0) (rfsL refs all refs.length).st (.ext 0) (Tg.st ⟨tm 36 [(4,bool La)],[],60⟩):=by
 exact sF [] [] (FO 18 19 wdv refs Fz)
def rfsB(refs all:List Int)(i:Nat):Bool:=O (refs.getD i X≠0/\refs.getD i X∉all)
def Z0j(h:Heap)(refs:List Int):Bool:=O (Z0R h=⟨0,0,0⟩)&&((Lc refs.length).find? (rfsB refs (Z04 h).1)).isNone
section
variable (refs all:List Int) (hl:refs.length<=1048576) (ha:all.length<=1048576)
include hl ha
theorem Zmj(hb:(Lc refs.length).find? (rfsB refs all)=none):CP (blkF f42 0) (rfsL refs all 0).st .nrm (Tg.st ⟨tm 36 [(4,bool La)],[],60⟩):=by
 refine Z0b (S:=λk=>(rfsL refs all k).st) refs.length kr (λk hk=>Zeu refs all k hl ha hk ?_) (ZnJ refs all);have:=List.find?_eq_none.1 hb k (Le.2 hk);simp only[rfsB,decide_eq_true_eq,not_and,Ld]at this;by_cases h:refs.getD k X=0
 .exact Or.inl h
 .exact Or.inr (this h)
theorem ZkD(i:Nat)(hb:(Lc refs.length).find? (rfsB refs all)=some i):CP (blkF f42 0) (Tg.st ⟨tm 36 [(1,Z01 refs),(4,bool La),(5,Z01 all),(7,int 0)],[],60⟩) .ret (Tg.st ⟨tm 36 [(4,bool La)],[],60⟩):=by
 obtain⟨h1,h2,h3⟩:=List.find?_range_eq_some.1 hb;have h2:=Le.1 h2;simp only[rfsB,decide_eq_true_eq]at h1;refine Z0v (S:=λk=>(rfsL refs all k).st) i kr (λm hm'=>Zeu refs all m hl ha oq ?_) (Zkw refs all i hl ha h2 h1.1 h1.2);have:=h3 m hm';simp only[rfsB,Bool.not_eq_true',decide_eq_false_iff_not,not_and,Ld]at this;by_cases h:refs.getD m X=0
 .exact Or.inl h
 .exact Or.inr (this h)
end
def Z1L(h:Heap)(refs:List Int)(hw:WOk h.W)(hl:refs.length<=1048576):GP 42 [h.av,Z01 refs] Z (bool (Z0j h refs)) []:=by
 have ho:=Z15 h;by_cases hg:Z0R h=⟨0,0,0⟩
 .cases hb:(Lc refs.length).find? (rfsB refs (Z04 h).1)with
  | none =>
   have e:Z0j h refs=Z:=by simp[Z0j,hg,hb]
   rw[e];exact gF [] func42 [] (Fc 9 (@Z7B h aa) (Ffb 10 (!decide (Z0R h=Finding.mk 0 0 0)) (Fc 13 (@Z3m h aa) (Fu (@Zmj refs ((Z04 h).1) aa oq aa) Fz))))
  | some i =>
   have e:Z0j h refs=La:=by simp[Z0j,hg,hb]
   rw[e];exact gF [] func42 [] (Fc 9 (@Z7B h aa) (Ffb 10 (!decide (Z0R h=Finding.mk 0 0 0)) (Fc 13 (@Z3m h aa) (Fu (@ZkD refs ((Z04 h).1) aa oq i hb) Fz))))
 .have e:Z0j h refs=La:=by simp[Z0j,hg]
  rw[e];exact ZbF h refs hw hg
def Zfq(hd:Header)(fs:List Int):Nat->List Int
 | 0=>[]
 | i+1=>if Z0c hd (i:Int)=Z then Zfq hd fs i++[fs.getD i X]else Zfq hd fs i
def addO(out:List Int)(r:Int):List Int:=if r=0\/r∈out then out else out++[r]
def addN(out refs:List Int):Nat->List Int
 | 0=>out
 | i+1=>addO (addN out refs i) (refs.getD i X)
end Go.Proofs.YtgedmeaemofdkaaGreat
