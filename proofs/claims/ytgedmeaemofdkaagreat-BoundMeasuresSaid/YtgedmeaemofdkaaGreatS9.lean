/-
 The statement BoundMeasures: part 9.
 Conditions: none.
-/
import Derived.Test.YtgedmeaemofdkaaGreatS8
set_option maxRecDepth 100000
set_option maxHeartbeats 2000000
set_option linter.all false
open Inhabited renaming default->X
open List renaming map->Y,take->M,drop->O,range->Lb,length_map->Ld,length_append->Lf,mem_range->Lg,find?_eq_none->Lh,length_singleton->Li
open Bool renaming true->Z,false->L
open Decidable renaming decide->La,not_not->Le
open Nat renaming le_refl->Lc,le_trans->Lj
open Go.Proofs.Tryz
namespace Go.Proofs.YtgedmeaemofdkaaGreat
open Go.Sx
def Z0C(l:List Page):Nat->Nat
 | 0=>0
 | i+1=>Z0C l i+(if(l.getD i X).K=1/\0<(l.getD i X).N then 1 else 0)
def Z2G(l:List Page):∀ i,Z0C l i<=i
 | 0=>Lc _
 | i+1=>by
  have:=Z2G l i;simp only[Z0C];split<;>omega
def crowd(l:List Page):Nat:=Z0C l l.length
def Zfj(h:Heap)(i:Nat):Tg:=⟨tm 31 [(1,.pt 8001 0 0),(3,int (Z0C h.P i)),(4,int i)],[(8001,.box 28 h.cells)],60⟩
def Zgt(h:Heap)(hl:h.P.length<=1048576)(i:Nat)(hi:i<h.P.length):CP (rndF f155 0) (Zfj h i).st .nrm (Zfj h (i+1)).st:=by
 have hc:=Z2G h.P i;have Q0 {h_ c_ p_} (r_:Fq h_ c_ p_):=FN 8 9 15 Page.dv h.P i (FeG 23 ((h.P.getD i X).K==1) Page.dv h.P (↑i) i r_);rcases bb ((h.P.getD i X).K==1&&La (0<(h.P.getD i X).N))with hc0 | hc0<;>have hc0p:=hc0<;>simp only[bs]at hc0p
 .obtain⟨hc0pa,hc0pb⟩:=hc0p;exact sF [] (fO 8) (Q0 (Ft 27 hc0 (Fw 29 ((↑(Z0C h.P i):Int)+1) (↑(Z0C h.P i+1):Int) (Fx 11 i (Fa (by(simp only[Z0C] ;exact sj):(↑(Z0C h.P i+1):Int)=(↑(Z0C h.P (i+1)):Int)) Fz)))))
 .exact sF [] (fO 8) (Q0 (Ff 27 hc0 (Fx 11 i (Fa (by(simp only[Z0C] ;exact sj):(↑(Z0C h.P i):Int)=(↑(Z0C h.P (i+1)):Int)) Fz))))
def ZkE(h:Heap):CP (rndF f155 0) (Zfj h h.P.length).st (.ext 0) (Tg.st ⟨tm 31 [(3,int (crowd h.P))],[],60⟩):=by
 exact sF [] [] (FO 8 9 Page.dv h.P Fz)
def Zhz(h:Heap)(hl:h.P.length<=1048576)  := Z08 (S:=λi=>(Zfj h i).st) h.P.length (by kernel_rfl) (λi hi=>Zgt h hl i hi) (ZkE h)
def Z9g(h:Heap)(hl:h.P.length<=1048576):GP 155 [h.av] Z (int (crowd h.P)) []:=by
 exact gF [] func155 [] (Fu (@Zhz h aa) Fz)
def ZnV(w:WorldM)(t:Tape):Int:=t.next (w.G.length:Int)
def WorldM.drop(w:WorldM)(t:Tape):WorldM :=
 if 0<w.G.length then⟨w.heap,w.G.take (ZnV w t).toNat++w.G.drop ((ZnV w t).toNat+1),if(t.step (w.G.length:Int)).next 3=0 then w.E++[w.G.getD (ZnV w t).toNat X]else w.E⟩else w
def WorldM.dropT(w:WorldM)(t:Tape):Tape:=if 0<w.G.length then(t.step (w.G.length:Int)).step 3 else t
def ZdF(w:WorldM)(t:Tape)(hw:WMok w)(ht:TOk t)(ha:t.at'<=1040000):LP 105 [w.av,.pt 0 0 0] [t.b] (w.drop t).av [(w.dropT t).b]:=by
 have h1:=hw.sl;have h2:=hw.wl;have s1:=Z2V (t:=t) (w.G.length:Int);have k1:=Z3O ht s1.2.2 oq oq;have n1:=λh=>Z11 t (n:=(w.G.length:Int)) h;by_cases c1:0<w.G.length
 .have eT:w.dropT t=(t.step (w.G.length:Int)).step 3:=by rw[WorldM.dropT,if_pos c1]
  by_cases c2:(t.step (w.G.length:Int)).next 3=0
  .have eP:w.drop t=⟨w.heap,w.G.take (t.next (w.G.length:Int)).toNat++w.G.drop ((t.next (w.G.length:Int)).toNat+1),w.E++[w.G.getD (t.next (w.G.length:Int)).toNat X]⟩:=by rw[WorldM.drop,if_pos c1,if_pos c2];rfl
   rw[eP,eT];exact lF func105 [Z] (Fh 28 [.els (Y wdv (w.E++[w.G.getD (t.next (w.G.length:Int)).toNat X]))] (Fh 35 [.els (Y wdv (M (t.next (w.G.length:Int)).toNat w.G))] (Fh 40 [.els (Y wdv (O (t.next (w.G.length:Int)+1).toNat w.G))] (Fh 41 [.els (Y wdv (M (t.next (w.G.length:Int)).toNat w.G++O (t.next (w.G.length:Int)+1).toNat w.G))] (Fl 9 wdv w.G (Ftb 11 (La (0<(w.G.length:Int))) (Fp 14 (@Z0g t ((w.G.length:Int)) aa oq oq) (Fp 16 (@Z0g (t.step (w.G.length:Int)) (3) aa oq oq) (Ftb 17 ((t.step (w.G.length:Int)).next (3:Int)==0) (FA 18 21 wdv w.E (Fe 25 wdv w.G (t.next (w.G.length:Int)) (Fs 27 (Y wdv [w.G.getD (t.next (w.G.length:Int)).toNat X]) (Fa (by(simp[*];omega):(Y wdv w.E).length+(Y wdv [w.G.getD (t.next (w.G.length:Int)).toNat X]).length<=2^30) (Fa (ms:Y wdv w.E++Y wdv [w.G.getD (t.next (w.G.length:Int)).toNat X]=Y wdv (w.E++[w.G.getD (t.next (w.G.length:Int)).toNat X])) (Fs 30 (Y wdv []) (Fa (by(simp only[Ld];omega):0<=t.next (w.G.length:Int)/\t.next (w.G.length:Int)<=(↑(Y wdv w.G).length:Int)) (Fa (ms:M (t.next (w.G.length:Int)).toNat (Y wdv w.G)=Y wdv (M (t.next (w.G.length:Int)).toNat w.G)) (Fa (by(simp[*];omega):(Y wdv []).length+(Y wdv (M (t.next (w.G.length:Int)).toNat w.G)).length<=2^30) (Fs 34 (Y wdv (M (t.next (w.G.length:Int)).toNat w.G)) (Fi 39 (t.next (w.G.length:Int)+1) (Fa (by(simp only[Ld];omega):0<=t.next (w.G.length:Int)+1/\t.next (w.G.length:Int)+1<=(↑(Y wdv w.G).length:Int)) (Fa (ms:O (t.next (w.G.length:Int)+1).toNat (Y wdv w.G)=Y wdv (O (t.next (w.G.length:Int)+1).toNat w.G)) (Fa (by(simp[*];omega):(Y wdv (M (t.next (w.G.length:Int)).toNat w.G)).length+(Y wdv (O (t.next (w.G.length:Int)+1).toNat w.G)).length<=2^30) (Fa (ms:Y wdv (M (t.next (w.G.length:Int)).toNat w.G)++Y wdv (O (t.next (w.G.length:Int)+1).toNat w.G)=Y wdv (M (t.next (w.G.length:Int)).toNat w.G++O (t.next (w.G.length:Int)+1).toNat w.G)) (Fr w.heap.C.pw (Fr w.heap.C.pg (Fr (Y wdv w.heap.W) (Fr (Y Page.dv w.heap.P) (Fr w.heap.S (Fr w.heap.B (Fa (by refine congrArg _ ?_;(simp[*];omega):Y wdv (M (t.next (w.G.length:Int)).toNat w.G++O (t.next (w.G.length:Int)+1).toNat w.G)=Y wdv (WorldM.mk w.heap (M (t.next (w.G.length:Int)).toNat w.G++O ((t.next (w.G.length:Int)).toNat+1) w.G) (w.E++[w.G.getD (t.next (w.G.length:Int)).toNat X])).G) (Fr (Y wdv (w.E++[w.G.getD (t.next (w.G.length:Int)).toNat X])) Fz))))))))))))))))))))))))))))))))
  .have eP:w.drop t=⟨w.heap,w.G.take (t.next (w.G.length:Int)).toNat++w.G.drop ((t.next (w.G.length:Int)).toNat+1),w.E⟩:=by rw[WorldM.drop,if_pos c1,if_neg c2];rfl
   rw[eP,eT];exact lF func105 [Z] (Fh 35 [.els (Y wdv (M (t.next (w.G.length:Int)).toNat w.G))] (Fh 40 [.els (Y wdv (O (t.next (w.G.length:Int)+1).toNat w.G))] (Fh 41 [.els (Y wdv (M (t.next (w.G.length:Int)).toNat w.G++O (t.next (w.G.length:Int)+1).toNat w.G))] (Fl 9 wdv w.G (Ftb 11 (La (0<(w.G.length:Int))) (Fp 14 (@Z0g t ((w.G.length:Int)) aa oq oq) (Fp 16 (@Z0g (t.step (w.G.length:Int)) (3) aa oq oq) (Ffb 17 ((t.step (w.G.length:Int)).next (3:Int)==0) (Fs 30 (Y wdv []) (Fa (by(simp only[Ld];omega):0<=t.next (w.G.length:Int)/\t.next (w.G.length:Int)<=(↑(Y wdv w.G).length:Int)) (Fa (ms:M (t.next (w.G.length:Int)).toNat (Y wdv w.G)=Y wdv (M (t.next (w.G.length:Int)).toNat w.G)) (Fa (by(simp[*];omega):(Y wdv []).length+(Y wdv (M (t.next (w.G.length:Int)).toNat w.G)).length<=2^30) (Fs 34 (Y wdv (M (t.next (w.G.length:Int)).toNat w.G)) (Fi 39 (t.next (w.G.length:Int)+1) (Fa (by(simp only[Ld];omega):0<=t.next (w.G.length:Int)+1/\t.next (w.G.length:Int)+1<=(↑(Y wdv w.G).length:Int)) (Fa (ms:O (t.next (w.G.length:Int)+1).toNat (Y wdv w.G)=Y wdv (O (t.next (w.G.length:Int)+1).toNat w.G)) (Fa (by(simp[*];omega):(Y wdv (M (t.next (w.G.length:Int)).toNat w.G)).length+(Y wdv (O (t.next (w.G.length:Int)+1).toNat w.G)).length<=2^30) (Fa (ms:Y wdv (M (t.next (w.G.length:Int)).toNat w.G)++Y wdv (O (t.next (w.G.length:Int)+1).toNat w.G)=Y wdv (M (t.next (w.G.length:Int)).toNat w.G++O (t.next (w.G.length:Int)+1).toNat w.G)) (Fr w.heap.C.pw (Fr w.heap.C.pg (Fr (Y wdv w.heap.W) (Fr (Y Page.dv w.heap.P) (Fr w.heap.S (Fr w.heap.B (Fa (by refine congrArg _ ?_;(simp[*];omega):Y wdv (M (t.next (w.G.length:Int)).toNat w.G++O (t.next (w.G.length:Int)+1).toNat w.G)=Y wdv (WorldM.mk w.heap (M (t.next (w.G.length:Int)).toNat w.G++O ((t.next (w.G.length:Int)).toNat+1) w.G) w.E).G) (Fr (Y wdv w.E) Fz))))))))))))))))))))))))))
 .have eP:w.drop t=w:=by rw[WorldM.drop,if_neg c1]
  have eT:w.dropT t=t:=by rw[WorldM.dropT,if_neg c1]
  rw[eP,eT];exact lF func105 [] (Fl 9 wdv w.G (Ffb 11 (La (0<(w.G.length:Int))) Fz))
def crwL(h:Heap)(i:Nat):Tg:=⟨tm 65 [(1,.pt 8001 0 0),(2,.pt 8002 0 0),(6,int (Z0C h.P i)),(7,int i)],[(8002,.box 148 [int 0,int 0,u64 0]),(8001,.box 28 h.cells)],64⟩
def Zkc(h:Heap)(i:Nat)(hp:Z02 h=Z)(hi:i<h.P.length):CP (rndF f89 2) (crwL h i).st .nrm (crwL h (i+1)).st:=by
 have po:=Z0a hp;have:=Z2G h.P i;by_cases h1:(h.P.getD i X).K=1
 .by_cases h2:0<(h.P.getD i X).N
  .have e:Z0C h.P (i+1)=Z0C h.P i+1:=by rw[Z0C,if_pos ⟨h1,h2⟩]
   rw[crwL,crwL,e];exact sF [] [] (FN 35 36 42 Page.dv h.P i (FeG 50 ((h.P.getD i X).K==1) Page.dv h.P (↑i) i (Ftb 54 ((h.P.getD i X).K==1&&La (0<(h.P.getD i X).N)) (Fw 56 ((↑(Z0C h.P i):Int)+1) (↑(Z0C h.P i+1):Int) (Fx 38 i Fz)))))
  .have e:Z0C h.P (i+1)=Z0C h.P i:=by rw[Z0C,if_neg (λq=>h2 q.2)];rfl
   rw[crwL,crwL,e];exact sF [] [] (FN 35 36 42 Page.dv h.P i (FeG 50 ((h.P.getD i X).K==1) Page.dv h.P (↑i) i (Ffb 54 ((h.P.getD i X).K==1&&La (0<(h.P.getD i X).N)) (Fx 38 i Fz))))
 .have e:Z0C h.P (i+1)=Z0C h.P i:=by rw[Z0C,if_neg (λq=>h1 q.1)];rfl
  rw[crwL,crwL,e];exact sF [] [] (FN 35 36 42 Page.dv h.P i (FeG 50 ((h.P.getD i X).K==1) Page.dv h.P (↑i) i (Ffb 54 ((h.P.getD i X).K==1&&La (0<(h.P.getD i X).N)) (Fx 38 i Fz))))
def Zpr(h:Heap)(hp:Z02 h=Z):CP (rndF f89 2) (crwL h h.P.length).st (.ext 2) (Tg.st ⟨tm 65 [(1,.pt 8001 0 0),(2,.pt 8002 0 0),(6,int (Z0C h.P h.P.length))],[(8002,.box 148 [int 0,int 0,u64 0]),(8001,.box 28 h.cells)],64⟩):=by
 have po:=Z0a hp;exact sF [] [] (FO 35 36 Page.dv h.P Fz)
def Zif(h:Heap)(hp:Z02 h=Z)  := Z08 (S:=λk=>(crwL h k).st) h.P.length (by kernel_rfl) (λk hk=>Zkc h k hp hk) (Zpr h hp)
def Zho(h:Heap)(hw:WOk h.W)(hp:Z02 h=Z)(hb:Z2C h=none)(hq:(Z0J h (Z03 h).1).fault=0)(hc:h.C.pg/4<(Z0C h.P h.P.length:Nat)):GP 89 [h.av] Z (Finding.mk 7 0 0).av []:=by
 have po:=Z0a hp;have:=Z2G h.P h.P.length;exact gF [] func89 [] (Fc 9 (@Z0h h) (Ffb 10 (!Z02 h) (Fu (@ZdT h aa aa aa) (Fc 27 (@Z4Z h aa) (Ffb 30 ((Z0J h (Z03 h).1).fault != 0) (Fu (@Zif h aa) (Fg 61 (by rw[Int.tdiv_eq_ediv_of_nonneg oq,wrapI' oq oq]:IntKind.i64.wrap (h.C.pg.tdiv 4)=h.C.pg/4) (Fa (by decide:(4:Int)≠0) (Ftb 62 (La (h.C.pg/4<(↑(Z0C h.P h.P.length):Int))) Fz)))))))))
def ZjV(h:Heap)(hw:WOk h.W)(hp:Z02 h=Z)(hb:Z2C h=none)(hq:(Z0J h (Z03 h).1).fault=0)(hc:¬ h.C.pg/4<(Z0C h.P h.P.length:Nat)):GP 89 [h.av] Z (Finding.mk 0 0 0).av []:=by
 have po:=Z0a hp;have:=Z2G h.P h.P.length;exact gF [] func89 [] (Fc 9 (@Z0h h) (Ffb 10 (!Z02 h) (Fu (@ZdT h aa aa aa) (Fc 27 (@Z4Z h aa) (Ffb 30 ((Z0J h (Z03 h).1).fault != 0) (Fu (@Zif h aa) (Fg 61 (by rw[Int.tdiv_eq_ediv_of_nonneg oq,wrapI' oq oq]:IntKind.i64.wrap (h.C.pg.tdiv 4)=h.C.pg/4) (Fa (by decide:(4:Int)≠0) (Ffb 62 (La (h.C.pg/4<(↑(Z0C h.P h.P.length):Int))) Fz)))))))))
def Z0r(h:Heap):Finding :=
 if Z02 h=Z then
  match Z2C h with
  | some i=>pageF h i
  | none =>
   if(Z0J h (Z03 h).1).fault≠0 then Z0J h (Z03 h).1
   else if h.C.pg/4<(Z0C h.P h.P.length:Nat)then⟨7,0,0⟩else⟨0,0,0⟩
 else⟨1,0,0⟩
def Z6e(h:Heap)(hw:WOk h.W):GP 89 [h.av] Z (Z0r h).av []:=by
 unfold Z0r;by_cases hp:Z02 h=Z
 .rw[if_pos hp];cases hb:Z2C h with
  | some i=>exact Zk2 h hw hp i hb
  | none =>
   by_cases hq:(Z0J h (Z03 h).1).fault=0
   .simp only[hq,ne_eq,not_true_eq_false,if_false];by_cases hc:h.C.pg/4<(Z0C h.P h.P.length:Nat)
    .rw[if_pos hc];exact Zho h hw hp hb hq hc
    .rw[if_neg hc];exact ZjV h hw hp hb hq hc
   .simp only[ne_eq,hq,not_false_eq_true,if_true];exact Zkw h hw hp hb hq
 .rw[if_neg hp];exact ZkM h hw (by simpa using hp)
def Z7I(h:Heap)(hw:WOk h.W):GP 41 [h.av] Z (bool (La (Z0r h=⟨0,0,0⟩))) []:=by
 by_cases h1:(Z0r h).fault=0
 .by_cases h2:(Z0r h).page=0
  .by_cases h3:(Z0r h).addr=0
   .have e:La (Z0r h=⟨0,0,0⟩)=Z:=by
     apply decide_eq_true;revert h1 h2 h3;cases Z0r h;simp+contextual
    rw[e];exact gF [] func41 [Z] (Fc 4 (@Z6e h aa) (Fb (((Z0r h).fault==0&&((Z0r h).page==0&&(Z0r h).addr==0))=Z) Fz))
   .have e:La (Z0r h=⟨0,0,0⟩)=L:=decide_eq_false (λq=>h3 (by rw[q]));rw[e];exact gF [] func41 [Z] (Fc 4 (@Z6e h aa) (Fb (((Z0r h).fault==0&&((Z0r h).page==0&&(Z0r h).addr==0))=L) Fz))
  .have e:La (Z0r h=⟨0,0,0⟩)=L:=decide_eq_false (λq=>h2 (by rw[q]));rw[e];exact gF [] func41 [Z] (Fc 4 (@Z6e h aa) (Fb (((Z0r h).fault==0&&((Z0r h).page==0&&(Z0r h).addr==0))=L) Fz))
 .have e:La (Z0r h=⟨0,0,0⟩)=L:=decide_eq_false (λq=>h1 (by rw[q]));rw[e];exact gF [] func41 [Z] (Fc 4 (@Z6e h aa) (Fb (((Z0r h).fault==0&&((Z0r h).page==0&&(Z0r h).addr==0))=L) Fz))
def ZcD(h:Heap)(refs:List Int)(hw:WOk h.W)(hg:Z0r h≠⟨0,0,0⟩):GP 42 [h.av,Z01 refs] Z (bool L) []:=by
 exact gF [] func42 [] (Fc 9 (@Z7I h aa) (Ftb 10 (!decide (Z0r h=Finding.mk 0 0 0)) Fz))
def rfsL(refs all:List Int)(i:Nat):Tg:=⟨tm 36 [(1,Z01 refs),(4,bool L),(5,Z01 all),(7,int i)],[],60⟩
def ZfO(refs all:List Int)(i:Nat)(hl:refs.length<=1048576)(ha:all.length<=1048576)(hi:i<refs.length)(hb:refs.getD i X=0\/refs.getD i X∈all):CP (rndF f42 0) (rfsL refs all i).st .nrm (rfsL refs all (i+1)).st:=by
 rcases hb with hb | hb
 .exact sF [] [] (FN 18 19 24 wdv refs i (FeG 31 (refs.getD i X != 0) wdv refs (↑i) i (FcG 33 (refs.getD i X != 0) (λhg=>by(try simp only[bs]at hg);exact @Z0N all (refs.getD i X) aa) (Ffb 35 (refs.getD i X != 0&&!decide (refs.getD i X∈all)) (Fx 21 i Fz)))))
 .by_cases h0:refs.getD i X=0
  .exact sF [] [] (FN 18 19 24 wdv refs i (FeG 31 (refs.getD i X != 0) wdv refs (↑i) i (FcG 33 (refs.getD i X != 0) (λhg=>by(try simp only[bs]at hg);exact @Z0N all (refs.getD i X) aa) (Ffb 35 (refs.getD i X != 0&&!decide (refs.getD i X∈all)) (Fx 21 i Fz)))))
  .exact sF [] [] (FN 18 19 24 wdv refs i (FeG 31 (refs.getD i X != 0) wdv refs (↑i) i (FcG 33 (refs.getD i X != 0) (λhg=>by(try simp only[bs]at hg);exact @Z0N all (refs.getD i X) aa) (Ffs 35 (refs.getD i X != 0&&!decide (refs.getD i X∈all)) (Fx 21 i Fz)))))
def Zlf(refs all:List Int)(i:Nat)(hl:refs.length<=1048576)(ha:all.length<=1048576)(hi:i<refs.length)(h0:refs.getD i X≠0)(hb:refs.getD i X∉all):CP (rndF f42 0) (rfsL refs all i).st .ret (Tg.st ⟨tm 36 [(4,bool L)],[],60⟩):=by
 exact sF [] [] (FN 18 19 24 wdv refs i (FeG 31 (refs.getD i X != 0) wdv refs (↑i) i (FcG 33 (refs.getD i X != 0) (λhg=>by(try simp only[bs]at hg);exact @Z0N all (refs.getD i X) aa) (Fts 35 (refs.getD i X != 0&&!decide (refs.getD i X∈all)) Fz))))
def Zpf(refs all:List Int):CP (rndF f42 0) (rfsL refs all refs.length).st (.ext 0) (Tg.st ⟨tm 36 [(4,bool L)],[],60⟩):=by
 exact sF [] [] (FO 18 19 wdv refs Fz)
def rfsB(refs all:List Int)(i:Nat):Bool:=La (refs.getD i X≠0/\refs.getD i X∉all)
def Z0f(h:Heap)(refs:List Int):Bool:=La (Z0r h=⟨0,0,0⟩)&&((Lb refs.length).find? (rfsB refs (Z03 h).1)).isNone
section
variable (refs all:List Int) (hl:refs.length<=1048576) (ha:all.length<=1048576)
include hl ha
theorem Zoc(hb:(Lb refs.length).find? (rfsB refs all)=none):CP (blkF f42 0) (rfsL refs all 0).st .nrm (Tg.st ⟨tm 36 [(4,bool L)],[],60⟩):=by
 refine Z08 (S:=λk=>(rfsL refs all k).st) refs.length kr (λk hk=>ZfO refs all k hl ha hk ?_) (Zpf refs all);have:=Lh.1 hb k (Lg.2 hk);simp only[rfsB,decide_eq_true_eq,not_and,Le]at this;by_cases h:refs.getD k X=0
 .exact Or.inl h
 .exact Or.inr (this h)
theorem ZkD(i:Nat)(hb:(Lb refs.length).find? (rfsB refs all)=some i):CP (blkF f42 0) (Tg.st ⟨tm 36 [(1,Z01 refs),(4,bool L),(5,Z01 all),(7,int 0)],[],60⟩) .ret (Tg.st ⟨tm 36 [(4,bool L)],[],60⟩):=by
 obtain⟨h1,h2,h3⟩:=List.find?_range_eq_some.1 hb;have h2:=Lg.1 h2;simp only[rfsB,decide_eq_true_eq]at h1;refine Z0v (S:=λk=>(rfsL refs all k).st) i kr (λm hm'=>ZfO refs all m hl ha oq ?_) (Zlf refs all i hl ha h2 h1.1 h1.2);have:=h3 m hm';simp only[rfsB,Bool.not_eq_true',decide_eq_false_iff_not,not_and,Le]at this;by_cases h:refs.getD m X=0
 .exact Or.inl h
 .exact Or.inr (this h)
end
def Z1u(h:Heap)(refs:List Int)(hw:WOk h.W)(hl:refs.length<=1048576):GP 42 [h.av,Z01 refs] Z (bool (Z0f h refs)) []:=by
 have ho:=Z0F h;by_cases hg:Z0r h=⟨0,0,0⟩
 .cases hb:(Lb refs.length).find? (rfsB refs (Z03 h).1)with
  | none =>
   have e:Z0f h refs=Z:=by simp[Z0f,hg,hb]
   rw[e];exact gF [] func42 [] (Fc 9 (@Z7I h aa) (Ffb 10 (!decide (Z0r h=Finding.mk 0 0 0)) (Fc 13 (@Z1T h aa) (Fu (@Zoc refs ((Z03 h).1) aa oq aa) Fz))))
  | some i =>
   have e:Z0f h refs=L:=by simp[Z0f,hg,hb]
   rw[e];exact gF [] func42 [] (Fc 9 (@Z7I h aa) (Ffb 10 (!decide (Z0r h=Finding.mk 0 0 0)) (Fc 13 (@Z1T h aa) (Fu (@ZkD refs ((Z03 h).1) aa oq i hb) Fz))))
 .have e:Z0f h refs=L:=by simp[Z0f,hg]
  rw[e];exact ZcD h refs hw hg
def Z2i(hd:Header)(fs:List Int):Nat->List Int
 | 0=>[]
 | i+1=>if Z0e hd (i:Int)=Z then Z2i hd fs i++[fs.getD i X]else Z2i hd fs i
def Za2(hd:Header)(fs:List Int):∀ i,(Z2i hd fs i).length<=i
 | 0=>Lc _
 | i+1=>by
  have:=Za2 hd fs i;unfold Z2i;split
  .rw[Lf,Li];omega
  .omega
def Zop(h:Heap)(a:Int):List Int:=Z2i (getH h a).1 (Z0t h a).1 (Z0t h a).1.length
def addO(out:List Int)(r:Int):List Int:=if r=0\/r∈out then out else out++[r]
def addN(out refs:List Int):Nat->List Int
 | 0=>out
 | i+1=>addO (addN out refs i) (refs.getD i X)
def ZeX(out refs:List Int):∀ i,(addN out refs i).length<=out.length+i
 | 0=>Lc _
 | i+1=>by
  have:=ZeX out refs i;unfold addN addO;split
  .omega
  .rw[Lf,Li];omega
def Z9o(out refs:List Int){i:Nat}:∀ k,(addN out refs i).length<=(addN out refs (i+k)).length
 | 0=>Lc _
 | k+1=>by
  refine Lj (Z9o out refs k) ?_;show _<=(addO _ _).length;unfold addO;split
  .exact Lc _
  .rw[Lf];exact Nat.le_add_right _ _
def a8L(all out refs:List Int)(i:Nat):Tg:=⟨tm 42 [(0,Z01 all),(1,.ow 8000),(2,Z01 refs),(6,.d (.sl 0 [])),(7,bool L),(8,int i)],[(8000,.arr 35 1 ((addN out refs i).map wdv))],4⟩
section
variable (all out refs:List Int) (hl:refs.length<=1048576) (ha:all.length<=1048576) (ho:(addN out refs refs.length).length<=1048576) (hr:ULe refs)
include hl ha ho hr
theorem ZjC(i:Nat)(hi:i<refs.length)(hb:rfsB refs all i=L):CP (rndF f66 0) (a8L all out refs i).st .nrm (a8L all out refs (i+1)).st:=by
 have ln:=Lj (Z9o out refs (i:=i) (refs.length-i)) (by rw[show i+(refs.length-i)=refs.length by omega];exact ho);have r:=hr _ (getD_mem_iff.2 ⟨i,hi,rfl⟩);unfold rfsB at hb;have hb:=of_decide_eq_false hb;by_cases h0:refs.getD i X=0
 .have e7:addN out refs (i+1)=addN out refs i:=by rw[addN,addO,if_pos (.inl h0)]
  unfold a8L;rw[e7];exact sF [] [] (FN 11 12 17 wdv refs i (Ftb 19 (refs.getD i X==0) (Fx 14 i Fz)))
 .have hb:refs.getD i X∈all:=Le.1 λc=>hb ⟨h0,c⟩;by_cases h1:refs.getD i X∈addN out refs i
  .have e7:addN out refs (i+1)=addN out refs i:=by rw[addN,addO,if_pos (.inr h1)]
   unfold a8L;rw[e7];exact sF [] [] (FN 11 12 17 wdv refs i (Ffb 19 (refs.getD i X==0) (Fek 23 wdv refs (↑i) i (Fc 25 (@Z0N all (refs.getD i X) aa) (Ffb 26 (!decide (refs.getD i X∈all)) (Fek 30 wdv refs (↑i) i (Fc 32 (@Z0N (addN out refs i) (refs.getD i X) aa) (Ffb 33 (!decide (refs.getD i X∈addN out refs i)) (Fx 14 i Fz)))))))))
  .have e7:addN out refs (i+1)=addN out refs i++[refs.getD i X]:=by rw[addN,addO,if_neg (λc=>c.elim h0 h1)]
   unfold a8L;rw[e7];exact sF [(64040,8000)] [] (Fh 40 [.els (Y wdv (addN out refs i++[refs.getD i X]))] (FN 11 12 17 wdv refs i (Ffb 19 (refs.getD i X==0) (Fek 23 wdv refs (↑i) i (Fc 25 (@Z0N all (refs.getD i X) aa) (Ffb 26 (!decide (refs.getD i X∈all)) (Fek 30 wdv refs (↑i) i (Fc 32 (@Z0N (addN out refs i) (refs.getD i X) aa) (Ftb 33 (!decide (refs.getD i X∈addN out refs i)) (Fek 37 wdv refs (↑i) i (Fs 39 (Y wdv [refs.getD i X]) (Fa (by(simp[*];omega):(Y wdv (addN out refs i)).length+(Y wdv [refs.getD i X]).length<=2^30) (Fa (ms:Y wdv (addN out refs i)++Y wdv [refs.getD i X]=Y wdv (addN out refs i++[refs.getD i X])) (Fx 14 i Fz))))))))))))))
omit hl ha ho hr in
theorem Zq5:CP (rndF f66 0) (a8L all out refs refs.length).st (.ext 0) (Tg.st ⟨tm 42 [(1,.ow 8000),(6,.d (.sl 0 [])),(7,bool L)],[(8000,.arr 35 1 ((addN out refs refs.length).map wdv))],4⟩):=by
 exact sF [] [] (FO 11 12 wdv refs Fz)
def ZoI(hb:(Lb refs.length).find? (rfsB refs all)=none)  := Z08 (S:=λk=>(a8L all out refs k).st) refs.length (by kernel_rfl) (λk hk=>ZjC all out refs hl ha ho hr k hk (by
  have:=Lh.1 hb k (Lg.2 hk);simpa using this)) (Zq5 all out refs)
theorem Zje(hb:(Lb refs.length).find? (rfsB refs all)=none):BP 66 [Z01 all,.ow 0,Z01 refs] [.arr 35 1 (out.map wdv)] (.tu [.ow 1,bool Z]) [.dead,.arr 35 1 ((addN out refs refs.length).map wdv)]:=by
 have ln:=Z9o out refs (i:=0) refs.length;rw[Nat.zero_add]at ln;exact borF [8000] [8000] func66 [] (Fu (@ZoI all out refs aa aa aa aa aa) Fz)
end
def rfL(hd:Header)(fs:List Int)(i:Nat):Tg:=⟨tm 40 [(4,.d (.sl 0 [])),(5,.pt 16005 0 0),(7,Z01 fs),(9,.ow 32009),(10,int i)],[(32009,.arr 35 1 ((Z2i hd fs i).map wdv)),(16005,.box 52 [int hd.K,int hd.length,u32 hd.map])],6⟩
section
variable (hd:Header) (fs:List Int) (hm:0<=hd.map/\hd.map<=4294967295) (hf:fs.length<=1048576)
include hm hf
theorem ZnZ(i:Nat)(hi:i<fs.length):CP (rndF f18 0) (rfL hd fs i).st .nrm (rfL hd fs (i+1)).st:=by
 have ln:=Za2 hd fs i;by_cases c:Z0e hd (i:Int)=Z
 .have e7:Z2i hd fs (i+1)=Z2i hd fs i++[fs.getD i X]:=by rw[Z2i,if_pos c]
  unfold rfL;rw[e7];exact sF [(64038,32009)] [] (Fh 31 [.call Z (Sx.bool (Z0e hd (i:Int))) [],.br Z] (Fh 38 [.els (Y wdv (Z2i hd fs i++[fs.getD i X]))] (FM 25 26 wdv fs i (Fa (@Z1F hd ((i:Int)) aa) (Fa ‹Z0e hd (i:Int)=Z› (Fek 35 wdv fs (↑i) i (Fs 37 (Y wdv [fs.getD i X]) (Fa (by(simp[*];omega):(Y wdv (Z2i hd fs i)).length+(Y wdv [fs.getD i X]).length<=2^30) (Fa (ms:Y wdv (Z2i hd fs i)++Y wdv [fs.getD i X]=Y wdv (Z2i hd fs i++[fs.getD i X])) (Fx 28 i Fz))))))))))
 .have e7:Z2i hd fs (i+1)=Z2i hd fs i:=by rw[Z2i,if_neg c]
  unfold rfL;rw[e7];exact sF [] [] (Fh 31 [.call Z (Sx.bool (Z0e hd (i:Int))) [],.br L] (FM 25 26 wdv fs i (Fa (@Z1F hd ((i:Int)) aa) (Fbs (Z0e hd (i:Int)=L) (Fx 28 i Fz)))))
theorem Zqe:CP (rndF f18 0) (rfL hd fs fs.length).st (.ext 0) (Tg.st ⟨tm 40 [(4,.d (.sl 0 [])),(9,.ow 32009)],[(32009,.arr 35 1 ((Z2i hd fs fs.length).map wdv))],6⟩):=by
 exact sF [] [] (FO 25 26 wdv fs Fz)
def ZpH  := Z08 (S:=λk=>(rfL hd fs k).st) fs.length (by kernel_rfl) (λk hk=>ZnZ hd fs hm hf k hk) (Zqe hd fs hm hf)
end
def Zld(h:Heap)(a:Int)(hw:WOk h.W)(h0:0<=a/\a<=18446744073709551615):GP 18 [h.av,u64 a] L (Z01 (Zop h a)) []:=by
 have hm:=Z7M hw a;have hf:=Z5S h a;exact gF [] func18 [] (Fh 9 [.own] (Fc 14 (@Z3e h a aa aa) (Fc 20 (@Z72 h a aa aa) (Fu (@ZpH ((getH h a).1) ((Z0t h a).1) aa oq) Fz))))
end Go.Proofs.YtgedmeaemofdkaaGreat
