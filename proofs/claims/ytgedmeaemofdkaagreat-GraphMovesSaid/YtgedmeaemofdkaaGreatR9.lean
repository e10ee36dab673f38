/-
 The statement GraphMoves: part 9.
 Conditions: none.
-/
import Derived.Test.YtgedmeaemofdkaaGreatR8
set_option maxRecDepth 100000
set_option maxHeartbeats 2000000
set_option linter.all false
open Inhabited renaming default->X
open List renaming map->Y,take->O,drop->La,range->Lb,getD_eq_getElem?_getD->Lc,length_append->Ld,length_singleton->Le,mem_range->Lf,mem_append->Lh,find?_eq_none->Lk,length_map->Ll,find?_range_eq_some->Lm,getElem?_eq_none->Ln,mem_singleton->Lo,ext_getElem->Lq,getElem_map->Lr,getElem_range->Ls,length_set->Lt,map_append->Lu,takeWhile_cons->Lv,getElem_set->Ly,map_drop->Lz,map_set->LA,map_take->LB,mem_of_mem_drop->LC,mem_of_mem_take->LD,replicate->LF,set_set->LG
open Decidable renaming decide->Z,not_not->Lp
open Bool renaming false->M,true->L
open Nat renaming le_refl->Lg
open Or renaming inl->Li,inr->Lj
open Int renaming tdiv_eq_ediv_of_nonneg->Lw,toNat->Lx
open Go.Proofs.Tryz
namespace Go.Proofs.YtgedmeaemofdkaaGreat
open Go.Sx
def Z0I(l:List Page):Nat->Nat
 | 0=>0
 | i+1=>Z0I l i+(if(l.getD i X).K=1/\0<(l.getD i X).N then 1 else 0)
def Z41(l:List Page):∀ i,Z0I l i<=i
 | 0=>Lg _
 | i+1=>by
  have:=Z41 l i;simp only[Z0I];split<;>omega
def crowd(l:List Page):Nat:=Z0I l l.length
def Zfs(h:Heap)(i:Nat):Tg:=⟨tm 31 [(1,.pt 8001 0 0),(3,int (Z0I h.P i)),(4,int i)],[(8001,.box 28 h.cells)],60⟩
def Zh1(h:Heap)(hl:h.P.length<=1048576)(i:Nat)(hi:i<h.P.length):CP (rndF f155 0) (Zfs h i).st .nrm (Zfs h (i+1)).st:=by
 have hc:=Z41 h.P i;have Q0 {h_ c_ p_} (r_:Fq h_ c_ p_):=FN 8 9 15 Page.dv h.P i (FeG 23 ((h.P.getD i X).K==1) Page.dv h.P (↑i) i r_);rcases bb ((h.P.getD i X).K==1&&Z (0<(h.P.getD i X).N))with hc0 | hc0<;>have hc0p:=hc0<;>simp only[bs]at hc0p
 .obtain⟨hc0pa,hc0pb⟩:=hc0p;exact sF [] (fO 8) (Q0 (Ft 27 hc0 (Fw 29 ((↑(Z0I h.P i):Int)+1) (↑(Z0I h.P i+1):Int) (Fx 11 i (Fa (by(simp only[Z0I] ;exact sj):(↑(Z0I h.P i+1):Int)=(↑(Z0I h.P (i+1)):Int)) Fz)))))
 .exact sF [] (fO 8) (Q0 (Ff 27 hc0 (Fx 11 i (Fa (by(simp only[Z0I] ;exact sj):(↑(Z0I h.P i):Int)=(↑(Z0I h.P (i+1)):Int)) Fz))))
def Zkq(h:Heap):CP (rndF f155 0) (Zfs h h.P.length).st (.ext 0) (Tg.st ⟨tm 31 [(3,int (crowd h.P))],[],60⟩):=by
 exact sF [] [] (FO 8 9 Page.dv h.P Fz)
def ZiT(h:Heap)(hl:h.P.length<=1048576)  := Z0b (S:=λi=>(Zfs h i).st) h.P.length (by kernel_rfl) (λi hi=>Zh1 h hl i hi) (Zkq h)
def Z9w(h:Heap)(hl:h.P.length<=1048576):GP 155 [h.av] L (int (crowd h.P)) []:=by
 exact gF [] func155 [] (Fu (@ZiT h aa) Fz)
def Zm2(w:WorldM)(t:Tape):Int:=t.next (w.G.length:Int)
def WorldM.drop(w:WorldM)(t:Tape):WorldM :=
 if 0<w.G.length then⟨w.heap,w.G.take (Zm2 w t).toNat++w.G.drop ((Zm2 w t).toNat+1),if(t.step (w.G.length:Int)).next 3=0 then w.E++[w.G.getD (Zm2 w t).toNat X]else w.E⟩else w
def WorldM.dropT(w:WorldM)(t:Tape):Tape:=if 0<w.G.length then(t.step (w.G.length:Int)).step 3 else t
def ZcR(w:WorldM)(t:Tape)(hw:WMok w)(ht:TOk t)(ha:t.at'<=1040000):LP 105 [w.av,.pt 0 0 0] [t.b] (w.drop t).av [(w.dropT t).b]:=by
 have h1:=hw.sl;have h2:=hw.wl;have s1:=Z40 (t:=t) (w.G.length:Int);have k1:=Z50 ht s1.2.2 oq oq;have n1:=λh=>Z0M t (n:=(w.G.length:Int)) h;by_cases c1:0<w.G.length
 .have eT:w.dropT t=(t.step (w.G.length:Int)).step 3:=by rw[WorldM.dropT,if_pos c1]
  by_cases c2:(t.step (w.G.length:Int)).next 3=0
  .have eP:w.drop t=⟨w.heap,w.G.take (t.next (w.G.length:Int)).toNat++w.G.drop ((t.next (w.G.length:Int)).toNat+1),w.E++[w.G.getD (t.next (w.G.length:Int)).toNat X]⟩:=by rw[WorldM.drop,if_pos c1,if_pos c2];rfl
   rw[eP,eT];exact lF func105 [L] (Fh 28 [.els (Y wdv (w.E++[w.G.getD (t.next (w.G.length:Int)).toNat X]))] (Fh 35 [.els (Y wdv (O (t.next (w.G.length:Int)).toNat w.G))] (Fh 40 [.els (Y wdv (La (t.next (w.G.length:Int)+1).toNat w.G))] (Fh 41 [.els (Y wdv (O (t.next (w.G.length:Int)).toNat w.G++La (t.next (w.G.length:Int)+1).toNat w.G))] (Fl 9 wdv w.G (Ftb 11 (Z (0<(w.G.length:Int))) (Fp 14 (@Z0A t ((w.G.length:Int)) aa oq oq) (Fp 16 (@Z0A (t.step (w.G.length:Int)) (3) aa oq oq) (Ftb 17 ((t.step (w.G.length:Int)).next (3:Int)==0) (FA 18 21 wdv w.E (Fe 25 wdv w.G (t.next (w.G.length:Int)) (Fs 27 (Y wdv [w.G.getD (t.next (w.G.length:Int)).toNat X]) (Fa (by(simp[*];omega):(Y wdv w.E).length+(Y wdv [w.G.getD (t.next (w.G.length:Int)).toNat X]).length<=2^30) (Fa (ms:Y wdv w.E++Y wdv [w.G.getD (t.next (w.G.length:Int)).toNat X]=Y wdv (w.E++[w.G.getD (t.next (w.G.length:Int)).toNat X])) (Fs 30 (Y wdv []) (Fa (by(simp only[Ll];omega):0<=t.next (w.G.length:Int)/\t.next (w.G.length:Int)<=(↑(Y wdv w.G).length:Int)) (Fa (ms:O (t.next (w.G.length:Int)).toNat (Y wdv w.G)=Y wdv (O (t.next (w.G.length:Int)).toNat w.G)) (Fa (by(simp[*];omega):(Y wdv []).length+(Y wdv (O (t.next (w.G.length:Int)).toNat w.G)).length<=2^30) (Fs 34 (Y wdv (O (t.next (w.G.length:Int)).toNat w.G)) (Fi 39 (t.next (w.G.length:Int)+1) (Fa (by(simp only[Ll];omega):0<=t.next (w.G.length:Int)+1/\t.next (w.G.length:Int)+1<=(↑(Y wdv w.G).length:Int)) (Fa (ms:La (t.next (w.G.length:Int)+1).toNat (Y wdv w.G)=Y wdv (La (t.next (w.G.length:Int)+1).toNat w.G)) (Fa (by(simp[*];omega):(Y wdv (O (t.next (w.G.length:Int)).toNat w.G)).length+(Y wdv (La (t.next (w.G.length:Int)+1).toNat w.G)).length<=2^30) (Fa (ms:Y wdv (O (t.next (w.G.length:Int)).toNat w.G)++Y wdv (La (t.next (w.G.length:Int)+1).toNat w.G)=Y wdv (O (t.next (w.G.length:Int)).toNat w.G++La (t.next (w.G.length:Int)+1).toNat w.G)) (Fr w.heap.C.pw (Fr w.heap.C.pg (Fr (Y wdv w.heap.W) (Fr (Y Page.dv w.heap.P) (Fr w.heap.S (Fr w.heap.B (Fa (by refine congrArg _ ?_;(simp[*];omega):Y wdv (O (t.next (w.G.length:Int)).toNat w.G++La (t.next (w.G.length:Int)+1).toNat w.G)=Y wdv (WorldM.mk w.heap (O (t.next (w.G.length:Int)).toNat w.G++La ((t.next (w.G.length:Int)).toNat+1) w.G) (w.E++[w.G.getD (t.next (w.G.length:Int)).toNat X])).G) (Fr (Y wdv (w.E++[w.G.getD (t.next (w.G.length:Int)).toNat X])) Fz))))))))))))))))))))))))))))))))
  .have eP:w.drop t=⟨w.heap,w.G.take (t.next (w.G.length:Int)).toNat++w.G.drop ((t.next (w.G.length:Int)).toNat+1),w.E⟩:=by rw[WorldM.drop,if_pos c1,if_neg c2];rfl
   rw[eP,eT];exact lF func105 [L] (Fh 35 [.els (Y wdv (O (t.next (w.G.length:Int)).toNat w.G))] (Fh 40 [.els (Y wdv (La (t.next (w.G.length:Int)+1).toNat w.G))] (Fh 41 [.els (Y wdv (O (t.next (w.G.length:Int)).toNat w.G++La (t.next (w.G.length:Int)+1).toNat w.G))] (Fl 9 wdv w.G (Ftb 11 (Z (0<(w.G.length:Int))) (Fp 14 (@Z0A t ((w.G.length:Int)) aa oq oq) (Fp 16 (@Z0A (t.step (w.G.length:Int)) (3) aa oq oq) (Ffb 17 ((t.step (w.G.length:Int)).next (3:Int)==0) (Fs 30 (Y wdv []) (Fa (by(simp only[Ll];omega):0<=t.next (w.G.length:Int)/\t.next (w.G.length:Int)<=(↑(Y wdv w.G).length:Int)) (Fa (ms:O (t.next (w.G.length:Int)).toNat (Y wdv w.G)=Y wdv (O (t.next (w.G.length:Int)).toNat w.G)) (Fa (by(simp[*];omega):(Y wdv []).length+(Y wdv (O (t.next (w.G.length:Int)).toNat w.G)).length<=2^30) (Fs 34 (Y wdv (O (t.next (w.G.length:Int)).toNat w.G)) (Fi 39 (t.next (w.G.length:Int)+1) (Fa (by(simp only[Ll];omega):0<=t.next (w.G.length:Int)+1/\t.next (w.G.length:Int)+1<=(↑(Y wdv w.G).length:Int)) (Fa (ms:La (t.next (w.G.length:Int)+1).toNat (Y wdv w.G)=Y wdv (La (t.next (w.G.length:Int)+1).toNat w.G)) (Fa (by(simp[*];omega):(Y wdv (O (t.next (w.G.length:Int)).toNat w.G)).length+(Y wdv (La (t.next (w.G.length:Int)+1).toNat w.G)).length<=2^30) (Fa (ms:Y wdv (O (t.next (w.G.length:Int)).toNat w.G)++Y wdv (La (t.next (w.G.length:Int)+1).toNat w.G)=Y wdv (O (t.next (w.G.length:Int)).toNat w.G++La (t.next (w.G.length:Int)+1).toNat w.G)) (Fr w.heap.C.pw (Fr w.heap.C.pg (Fr (Y wdv w.heap.W) (Fr (Y Page.dv w.heap.P) (Fr w.heap.S (Fr w.heap.B (Fa (by refine congrArg _ ?_;(simp[*];omega):Y wdv (O (t.next (w.G.length:Int)).toNat w.G++La (t.next (w.G.length:Int)+1).toNat w.G)=Y wdv (WorldM.mk w.heap (O (t.next (w.G.length:Int)).toNat w.G++La ((t.next (w.G.length:Int)).toNat+1) w.G) w.E).G) (Fr (Y wdv w.E) Fz))))))))))))))))))))))))))
 .have eP:w.drop t=w:=by rw[WorldM.drop,if_neg c1]
  have eT:w.dropT t=t:=by rw[WorldM.dropT,if_neg c1]
  rw[eP,eT];exact lF func105 [] (Fl 9 wdv w.G (Ffb 11 (Z (0<(w.G.length:Int))) Fz))
def crwL(h:Heap)(i:Nat):Tg:=⟨tm 65 [(1,.pt 8001 0 0),(2,.pt 8002 0 0),(6,int (Z0I h.P i)),(7,int i)],[(8002,.box 148 [int 0,int 0,u64 0]),(8001,.box 28 h.cells)],64⟩
def Zkx(h:Heap)(i:Nat)(hp:Z03 h=L)(hi:i<h.P.length):CP (rndF f89 2) (crwL h i).st .nrm (crwL h (i+1)).st:=by
 have po:=Z07 hp;have:=Z41 h.P i;by_cases h1:(h.P.getD i X).K=1
 .by_cases h2:0<(h.P.getD i X).N
  .have e:Z0I h.P (i+1)=Z0I h.P i+1:=by rw[Z0I,if_pos ⟨h1,h2⟩]
   rw[crwL,crwL,e];exact sF [] [] (FN 35 36 42 Page.dv h.P i (FeG 50 ((h.P.getD i X).K==1) Page.dv h.P (↑i) i (Ftb 54 ((h.P.getD i X).K==1&&Z (0<(h.P.getD i X).N)) (Fw 56 ((↑(Z0I h.P i):Int)+1) (↑(Z0I h.P i+1):Int) (Fx 38 i Fz)))))
  .have e:Z0I h.P (i+1)=Z0I h.P i:=by rw[Z0I,if_neg (λq=>h2 q.2)];rfl
   rw[crwL,crwL,e];exact sF [] [] (FN 35 36 42 Page.dv h.P i (FeG 50 ((h.P.getD i X).K==1) Page.dv h.P (↑i) i (Ffb 54 ((h.P.getD i X).K==1&&Z (0<(h.P.getD i X).N)) (Fx 38 i Fz))))
 .have e:Z0I h.P (i+1)=Z0I h.P i:=by rw[Z0I,if_neg (λq=>h1 q.1)];rfl
  rw[crwL,crwL,e];exact sF [] [] (FN 35 36 42 Page.dv h.P i (FeG 50 ((h.P.getD i X).K==1) Page.dv h.P (↑i) i (Ffb 54 ((h.P.getD i X).K==1&&Z (0<(h.P.getD i X).N)) (Fx 38 i Fz))))
def ZoR(h:Heap)(hp:Z03 h=L):CP (rndF f89 2) (crwL h h.P.length).st (.ext 2) (Tg.st ⟨tm 65 [(1,.pt 8001 0 0),(2,.pt 8002 0 0),(6,int (Z0I h.P h.P.length))],[(8002,.box 148 [int 0,int 0,u64 0]),(8001,.box 28 h.cells)],64⟩):=by
 have po:=Z07 hp;exact sF [] [] (FO 35 36 Page.dv h.P Fz)
def ZhT(h:Heap)(hp:Z03 h=L)  := Z0b (S:=λk=>(crwL h k).st) h.P.length (by kernel_rfl) (λk hk=>Zkx h k hp hk) (ZoR h hp)
def Zhn(h:Heap)(hw:WOk h.W)(hp:Z03 h=L)(hb:Z5Q h=none)(hq:(Z0W h (Z04 h).1).fault=0)(hc:h.C.pg/4<(Z0I h.P h.P.length:Nat)):GP 89 [h.av] L (Finding.mk 7 0 0).av []:=by
 have po:=Z07 hp;have:=Z41 h.P h.P.length;exact gF [] func89 [] (Fc 9 (@Z0g h) (Ffb 10 (!Z03 h) (Fu (@Ze4 h aa aa aa) (Fc 27 (@Z5a h aa) (Ffb 30 ((Z0W h (Z04 h).1).fault != 0) (Fu (@ZhT h aa) (Fg 61 (by rw[Lw oq,wrapI' oq oq]:IntKind.i64.wrap (h.C.pg.tdiv 4)=h.C.pg/4) (Fa (by decide:(4:Int)≠0) (Ftb 62 (Z (h.C.pg/4<(↑(Z0I h.P h.P.length):Int))) Fz)))))))))
def Zi0(h:Heap)(hw:WOk h.W)(hp:Z03 h=L)(hb:Z5Q h=none)(hq:(Z0W h (Z04 h).1).fault=0)(hc:¬ h.C.pg/4<(Z0I h.P h.P.length:Nat)):GP 89 [h.av] L (Finding.mk 0 0 0).av []:=by
 have po:=Z07 hp;have:=Z41 h.P h.P.length;exact gF [] func89 [] (Fc 9 (@Z0g h) (Ffb 10 (!Z03 h) (Fu (@Ze4 h aa aa aa) (Fc 27 (@Z5a h aa) (Ffb 30 ((Z0W h (Z04 h).1).fault != 0) (Fu (@ZhT h aa) (Fg 61 (by rw[Lw oq,wrapI' oq oq]:IntKind.i64.wrap (h.C.pg.tdiv 4)=h.C.pg/4) (Fa (by decide:(4:Int)≠0) (Ffb 62 (Z (h.C.pg/4<(↑(Z0I h.P h.P.length):Int))) Fz)))))))))
def Z0R(h:Heap):Finding :=
 if Z03 h=L then
  match Z5Q h with
  | some i=>pageF h i
  | none =>
   if(Z0W h (Z04 h).1).fault≠0 then Z0W h (Z04 h).1
   else if h.C.pg/4<(Z0I h.P h.P.length:Nat)then⟨7,0,0⟩else⟨0,0,0⟩
 else⟨1,0,0⟩
def Z6i(h:Heap)(hw:WOk h.W):GP 89 [h.av] L (Z0R h).av []:=by
 unfold Z0R;by_cases hp:Z03 h=L
 .rw[if_pos hp];cases hb:Z5Q h with
  | some i=>exact Zi6 h hw hp i hb
  | none =>
   by_cases hq:(Z0W h (Z04 h).1).fault=0
   .simp only[hq,ne_eq,not_true_eq_false,if_false];by_cases hc:h.C.pg/4<(Z0I h.P h.P.length:Nat)
    .rw[if_pos hc];exact Zhn h hw hp hb hq hc
    .rw[if_neg hc];exact Zi0 h hw hp hb hq hc
   .simp only[ne_eq,hq,not_false_eq_true,if_true];exact Zlj h hw hp hb hq
 .rw[if_neg hp];exact ZlI h hw (by simpa using hp)
def Z83(h:Heap)(hw:WOk h.W):GP 41 [h.av] L (bool (Z (Z0R h=⟨0,0,0⟩))) []:=by
 by_cases h1:(Z0R h).fault=0
 .by_cases h2:(Z0R h).page=0
  .by_cases h3:(Z0R h).addr=0
   .have e:Z (Z0R h=⟨0,0,0⟩)=L:=by
     apply decide_eq_true;revert h1 h2 h3;cases Z0R h;simp+contextual
    rw[e];exact gF [] func41 [L] (Fc 4 (@Z6i h aa) (Fb (((Z0R h).fault==0&&((Z0R h).page==0&&(Z0R h).addr==0))=L) Fz))
   .have e:Z (Z0R h=⟨0,0,0⟩)=M:=decide_eq_false (λq=>h3 (by rw[q]));rw[e];exact gF [] func41 [L] (Fc 4 (@Z6i h aa) (Fb (((Z0R h).fault==0&&((Z0R h).page==0&&(Z0R h).addr==0))=M) Fz))
  .have e:Z (Z0R h=⟨0,0,0⟩)=M:=decide_eq_false (λq=>h2 (by rw[q]));rw[e];exact gF [] func41 [L] (Fc 4 (@Z6i h aa) (Fb (((Z0R h).fault==0&&((Z0R h).page==0&&(Z0R h).addr==0))=M) Fz))
 .have e:Z (Z0R h=⟨0,0,0⟩)=M:=decide_eq_false (λq=>h1 (by rw[q]));rw[e];exact gF [] func41 [L] (Fc 4 (@Z6i h aa) (Fb (((Z0R h).fault==0&&((Z0R h).page==0&&(Z0R h).addr==0))=M) Fz))
def Zch(h:Heap)(refs:List Int)(hw:WOk h.W)(hg:Z0R h≠⟨0,0,0⟩):GP 42 [h.av,Z02 refs] L (bool M) []:=by
 exact gF [] func42 [] (Fc 9 (@Z83 h aa) (Ftb 10 (!decide (Z0R h=Finding.mk 0 0 0)) Fz))
def rfsL(refs all:List Int)(i:Nat):Tg:=⟨tm 36 [(1,Z02 refs),(4,bool M),(5,Z02 all),(7,int i)],[],60⟩
def Zg1(refs all:List Int)(i:Nat)(hl:refs.length<=1048576)(ha:all.length<=1048576)(hi:i<refs.length)(hb:refs.getD i X=0\/refs.getD i X∈all):CP (rndF f42 0) (rfsL refs all i).st .nrm (rfsL refs all (i+1)).st:=by
 rcases hb with hb | hb
 .exact sF [] [] (FN 18 19 24 wdv refs i (FeG 31 (refs.getD i X != 0) wdv refs (↑i) i (FcG 33 (refs.getD i X != 0) (λhg=>by(try simp only[bs]at hg);exact @Z0X all (refs.getD i X) aa) (Ffb 35 (refs.getD i X != 0&&!decide (refs.getD i X∈all)) (Fx 21 i Fz)))))
 .by_cases h0:refs.getD i X=0
  .exact sF [] [] (FN 18 19 24 wdv refs i (FeG 31 (refs.getD i X != 0) wdv refs (↑i) i (FcG 33 (refs.getD i X != 0) (λhg=>by(try simp only[bs]at hg);exact @Z0X all (refs.getD i X) aa) (Ffb 35 (refs.getD i X != 0&&!decide (refs.getD i X∈all)) (Fx 21 i Fz)))))
  .exact sF [] [] (FN 18 19 24 wdv refs i (FeG 31 (refs.getD i X != 0) wdv refs (↑i) i (FcG 33 (refs.getD i X != 0) (λhg=>by(try simp only[bs]at hg);exact @Z0X all (refs.getD i X) aa) (Ffs 35 (refs.getD i X != 0&&!decide (refs.getD i X∈all)) (Fx 21 i Fz)))))
def Zkj(refs all:List Int)(i:Nat)(hl:refs.length<=1048576)(ha:all.length<=1048576)(hi:i<refs.length)(h0:refs.getD i X≠0)(hb:refs.getD i X∉all):CP (rndF f42 0) (rfsL refs all i).st .ret (Tg.st ⟨tm 36 [(4,bool M)],[],60⟩):=by
 exact sF [] [] (FN 18 19 24 wdv refs i (FeG 31 (refs.getD i X != 0) wdv refs (↑i) i (FcG 33 (refs.getD i X != 0) (λhg=>by(try simp only[bs]at hg);exact @Z0X all (refs.getD i X) aa) (Fts 35 (refs.getD i X != 0&&!decide (refs.getD i X∈all)) Fz))))
def Zon(refs all:List Int):CP (rndF f42 0) (rfsL refs all refs.length).st (.ext 0) (Tg.st ⟨tm 36 [(4,bool M)],[],60⟩):=by
 exact sF [] [] (FO 18 19 wdv refs Fz)
def rfsB(refs all:List Int)(i:Nat):Bool:=Z (refs.getD i X≠0/\refs.getD i X∉all)
def Z0i(h:Heap)(refs:List Int):Bool:=Z (Z0R h=⟨0,0,0⟩)&&((Lb refs.length).find? (rfsB refs (Z04 h).1)).isNone
section
variable (refs all:List Int) (hl:refs.length<=1048576) (ha:all.length<=1048576)
include hl ha
theorem Znj(hb:(Lb refs.length).find? (rfsB refs all)=none):CP (blkF f42 0) (rfsL refs all 0).st .nrm (Tg.st ⟨tm 36 [(4,bool M)],[],60⟩):=by
 refine Z0b (S:=λk=>(rfsL refs all k).st) refs.length kr (λk hk=>Zg1 refs all k hl ha hk ?_) (Zon refs all);have:=Lk.1 hb k (Lf.2 hk);simp only[rfsB,decide_eq_true_eq,not_and,Lp]at this;by_cases h:refs.getD k X=0
 .exact Li h
 .exact Lj (this h)
theorem Zlg(i:Nat)(hb:(Lb refs.length).find? (rfsB refs all)=some i):CP (blkF f42 0) (Tg.st ⟨tm 36 [(1,Z02 refs),(4,bool M),(5,Z02 all),(7,int 0)],[],60⟩) .ret (Tg.st ⟨tm 36 [(4,bool M)],[],60⟩):=by
 obtain⟨h1,h2,h3⟩:=Lm.1 hb;have h2:=Lf.1 h2;simp only[rfsB,decide_eq_true_eq]at h1;refine Z0y (S:=λk=>(rfsL refs all k).st) i kr (λm hm'=>Zg1 refs all m hl ha oq ?_) (Zkj refs all i hl ha h2 h1.1 h1.2);have:=h3 m hm';simp only[rfsB,Bool.not_eq_true',decide_eq_false_iff_not,not_and,Lp]at this;by_cases h:refs.getD m X=0
 .exact Li h
 .exact Lj (this h)
end
def Z1O(h:Heap)(refs:List Int)(hw:WOk h.W)(hl:refs.length<=1048576):GP 42 [h.av,Z02 refs] L (bool (Z0i h refs)) []:=by
 have ho:=Z19 h;by_cases hg:Z0R h=⟨0,0,0⟩
 .cases hb:(Lb refs.length).find? (rfsB refs (Z04 h).1)with
  | none =>
   have e:Z0i h refs=L:=by simp[Z0i,hg,hb]
   rw[e];exact gF [] func42 [] (Fc 9 (@Z83 h aa) (Ffb 10 (!decide (Z0R h=Finding.mk 0 0 0)) (Fc 13 (@Z3y h aa) (Fu (@Znj refs ((Z04 h).1) aa oq aa) Fz))))
  | some i =>
   have e:Z0i h refs=M:=by simp[Z0i,hg,hb]
   rw[e];exact gF [] func42 [] (Fc 9 (@Z83 h aa) (Ffb 10 (!decide (Z0R h=Finding.mk 0 0 0)) (Fc 13 (@Z3y h aa) (Fu (@Zlg refs ((Z04 h).1) aa oq i hb) Fz))))
 .have e:Z0i h refs=M:=by simp[Z0i,hg]
  rw[e];exact Zch h refs hw hg
structure Rep where
 copied:Int
 kept:Int
 filled:Int
 freed:Int
 cleared:Int
 steps:Int
 deriving Inhabited
def Rep.cells(r:Rep):List AV:=[int r.copied,int r.kept,int r.filled,int r.freed,int r.cleared,int r.steps]
structure Work where
 heap:Heap
 old:List Int
 T:List Int
 Q:List Int
 D:Int
 rep:Rep
 deriving Inhabited
def Work.cells(w:Work):List AV:=w.heap.cells++[Z02 w.old,Z0x w.T,Z02 w.Q,int w.D]++w.rep.cells
def Work.av(w:Work):AV:=.ag w.cells
def noWork:Work:=⟨noHeap,[],[],[],0,⟨0,0,0,0,0,0⟩⟩
def Z0e(w:Int):Int×Bool:=if w%4=2/\w/4<4294967296 then(w/4,L)else(0,M)
def Z33(w:Int)(h0:0<=w)(h1:w<=18446744073709551615):GP 140 [u64 w] L (.tu [u64 (Z0e w).1,bool (Z0e w).2]) []:=by
 have Q0 {h_ c_ p_} (r_:Fq h_ c_ p_):=Fg 5 (by exact Int.tmod_eq_emod_of_nonneg oq:w.tmod 4=w%4) (Fa (by decide:(4:Int)≠0) (Fa (by intro hg;(try simp only[bs]at hg);exact Z5U rfl dd:(!w%(4:Int) != 2)=L->w.fdiv (2^min (Lx 2) 64)=w/4) (Fa (by intro hg;(try simp only[bs]at hg);omega:(!w%(4:Int) != 2)=L->(0:Int)<=2) r_)));rcases bb (w%(4:Int) != 2||Z (4294967296<=w/4))with hc0 | hc0<;>have hc0p:=hc0<;>simp only[bs]at hc0p
 .rw[show Z0e w=((0:Int),M)from by(simp[Z0e, *];omega)];exact gF [] func140 [] (Fh 9 [.int (w/4)] (Q0 (Ft 11 hc0 Fz)))
 .obtain⟨hc0pa,hc0pb⟩:=hc0p;rw[show Z0e w=(w/(4:Int),L)from by simp[Z0e, *]];exact gF [] func140 [] (Fh 13 [.int (w/4)] (Q0 (Ff 11 hc0 (Fg 9 (by exact Z5U rfl dd:w.fdiv (2^min (Lx 2) 64)=w/4) (Fo ((0:Int)<=2) Fz)))))
def ZeK(a:Int)(h0:0<=a)(h1:a<4294967296):GP 188 [u64 a] L (.tu [u64 (4*a+2),int 0]) []:=by
 exact gF [] func188 [] (Ffb 5 (Z (4294967296<=a)) (Fv 7 (4*a) (Fv 8 (4*a+2) Fz)))
def Z13(w:Work)(i:Int):Bool:=Z (0<=i/\i<w.heap.P.length/\(w.heap.P.getD i.toNat X).K=1/\(w.heap.P.getD i.toNat X).S≠w.heap.S/\i∉w.T)
def Work.keep(w:Work)(r:Int):Work:=⟨w.heap,w.old,w.T,w.Q++[r],w.D,⟨w.rep.copied,w.rep.kept+1,w.rep.filled,w.rep.freed,w.rep.cleared,w.rep.steps⟩⟩
def Z0E(w:Work):Int:=w.T.getD ((w.T.length:Int)-1).toNat X
def Z3C(w:Work)(n:Int):Prop:=0<w.T.length/\(w.heap.P.getD (Z0E w).toNat X).U+n<=w.heap.C.pw
instance (w:Work) (n:Int):Decidable (Z3C w n):=by unfold Z3C;infer_instance
def Z0p(w:Work):Int:=first w.heap.P 1
def Z2u(w:Work):List Page:=Z3m ⟨w.heap.C,w.heap.W,w.heap.P,1-w.heap.S,w.heap.B⟩
def Work.place(w:Work)(n:Int):Work×Int×Bool :=
 if Z3C w n then(⟨⟨w.heap.C,w.heap.W,Z1R w.heap.P (Z0E w).toNat n,w.heap.S,w.heap.B⟩,w.old,w.T,w.Q,w.D,w.rep⟩,4096+Z0E w*w.heap.C.pw+(w.heap.P.getD (Z0E w).toNat X).U,L)
 else if 0<=Z0p w then(⟨⟨w.heap.C,w.heap.W,Z1R (Z2u w) (Z0p w).toNat n,w.heap.S,w.heap.B⟩,w.old,w.T++[Z0p w],w.Q,w.D,w.rep⟩,4096+Z0p w*w.heap.C.pw,L)
 else(noWork,0,M)
def Zb3(s:Int)(p:Page):Page:=⟨p.K,s,p.U,p.N⟩
def Z0H(l:List Page)(i m:Nat)(s:Int):List Page:=(Lb l.length).map λj=>if i<=j/\j<=i+m then Zb3 s (l.getD j X)else l.getD j X
def Z0z(l:List Page)(i:Nat):Nat:=((l.drop (i+1)).takeWhile λp=>p.K==3).length
def Work.flip(w:Work)(i:Nat):Work:=⟨⟨w.heap.C,w.heap.W,Z0H w.heap.P i (Z0z w.heap.P i) (1-w.heap.S),w.heap.S,w.heap.B⟩,w.old,w.T,w.Q,w.D,w.rep⟩
def Work.copy(w:Work)(r a n:Int):Work:=⟨⟨w.heap.C,(Z0B (moveA w.heap.W a r n).1 r (4*a+2)).1,w.heap.P,w.heap.S,w.heap.B⟩,w.old,w.T,w.Q++[a],w.D,⟨w.rep.copied+1,w.rep.kept,w.rep.filled,w.rep.freed,w.rep.cleared,w.rep.steps⟩⟩
def hdW(w:Work)(r:Int):Header:=(decodeH (loadA w.heap.W r).1).1
def Z1q(w:Work)(r:Int):Nat:=(ofA w.heap.C r).1.toNat
def Work.fwd(w:Work)(r:Int):Work×Int×Int :=
 if r=0\/r∈w.Q then(w,r,0)
 else if r∉w.old then(noWork,0,19)
 else if(Z0e (loadA w.heap.W r).1).2=L then(w,(Z0e (loadA w.heap.W r).1).1,0)
 else if(ofA w.heap.C r).2.2≠0 then(noWork,0,19)
 else if Z13 w (ofA w.heap.C r).1=L then(w.keep r,r,0)
 else if(w.heap.P.getD (Z1q w r) X).K=2 then((w.flip (Z1q w r)).keep r,r,0)
 else if(w.place (sizeH (hdW w r))).2.2=M then(noWork,0,3)
 else((w.place (sizeH (hdW w r))).1.copy r (w.place (sizeH (hdW w r))).2.1 (sizeH (hdW w r)),(w.place (sizeH (hdW w r))).2.1,0)
def Zby(pw:Int)(p:Page):Nat:=if p.K=0 then pw.toNat else(pw-p.U).toNat
def Z8X(pw:Int)(l:List Page):Nat:=(l.map (Zby pw)).sum
def Zc8(old q:List Int):Nat:=(old.filter λx=>Z (x∉q)).length
def muW(w:Work):Nat:=Zc8 w.old w.Q+Z8X w.heap.C.pw w.heap.P
structure WkOk (w:Work):Prop where
 W:WOk w.heap.W
 wl:w.heap.W.length<=4096
 C:Z06 w.heap.C=L
 pl:(w.heap.P.length:Int)=w.heap.C.pg
 sp:w.heap.S=0\/w.heap.S=1
 ol:w.old.length<=524288
 o:∀ x∈w.old,0<=x/\x<=8192
 tk:∀ x∈w.T,0<=x/\x<w.heap.P.length/\(w.heap.P.getD x.toNat X).K=1
 tl:w.T.length<=w.Q.length
 q:∀ x∈w.Q,0<=x/\x<=16384
 us:∀ j,j<w.heap.P.length->0<=(w.heap.P.getD j X).U/\(w.heap.P.getD j X).U<=1024
 mu:w.Q.length+muW w<=1000000
 sc:0<=w.D/\w.D<=w.Q.length
 rk:0<=w.rep.kept/\0<=w.rep.copied/\w.rep.kept+w.rep.copied<=w.Q.length
 rs:0<=w.rep.steps/\w.rep.steps<=1000*w.D
 r0:w.rep.filled=0/\w.rep.freed=0/\w.rep.cleared=0
def ZcA(pw:Int)(p:Page):∀ (l:List Page) (i:Nat),i<l.length->Z8X pw (l.set i p)+Zby pw (l.getD i X)=Z8X pw l+Zby pw p
 | [],i,h=>by simp at h
 | x::l,0,_=>by simp[Z8X];omega
 | x::l,i+1,h=>by
  have:=ZcA pw p l i (by simpa using h);simp only[Z8X,List.set_cons_succ,List.map_cons,List.sum_cons,List.getD_cons_succ]at this ⊢;omega
def Z8B(old q:List Int)(r:Int):(old.filter λx=>Z (x∉q++[r]))=(old.filter λx=>Z (x∉q)).filter λx=>Z (x≠r):=by
 rw[List.filter_filter];refine List.filter_congr λx _=>?_;by_cases h3:x∈q<;>by_cases h4:x=r<;>simp[h3,h4]
def Zl5(old q:List Int)(r:Int):Zc8 old (q++[r])<=Zc8 old q:=by
 unfold Zc8;rw[Z8B];exact List.length_filter_le _ _
def Zlz{old q:List Int}{r:Int}(h1:r∈old)(h2:r∉q):Zc8 old (q++[r])<Zc8 old q:=by
 unfold Zc8;rw[Z8B];exact List.length_filter_lt_length_iff_exists.2 ⟨r,List.mem_filter.2 ⟨h1,by simpa using h2⟩,by simp⟩
def Z8t{l:List Page}{i:Nat}{p q:Page}(h:i<l.length):tookP l i 1 p q=l.set i p:=by
 unfold tookP;have e:wr l (LF 1 q) i 1=l.set i q:=by
  have:=Z9c (ws:=l) (l:=LF 1 q) (i:=i) (k:=0) qo pq q;rw[Z76]at this;simpa using this.symm
 rw[e,LG]
def Z0k{l:List Page}{i j:Nat}{p:Page}(h:i<l.length):(l.set i p).getD j X=if i=j then p else l.getD j X:=by
 simp only[Lc,List.getElem?_set,h];split
 .rename_i e;subst e;simp
 .rfl
def Z1i(l:List Page)(i m:Nat)(s:Int):(Z0H l i m s).length=l.length:=by simp[Z0H]
def Z1h{l:List Page}{i m:Nat}{s:Int}{j:Nat}(h:j<l.length):(Z0H l i m s).getD j X=if i<=j/\j<=i+m then Zb3 s (l.getD j X)else l.getD j X:=by
 simp[Z0H,h,Lc]
def ZgF(pw:Int)(l:List Page)(i m:Nat)(s:Int):Z8X pw (Z0H l i m s)=Z8X pw l:=by
 unfold Z8X;congr 1;refine Lq (by simp[Z0H]) λj h1 h2=>?_;have h:j<l.length:=by simpa using h2
 simp only[Z0H,List.map_map,Lr,Ls,Function.comp];have e:l.getD j X=l[j]:=by simp[Lc,h]
 rw[e];split
 .rfl
 .rfl
abbrev sZ(w:Work)(r:Int):Int:=sizeH (decodeH (loadA w.heap.W r).1).1
abbrev lT(w:Work):Int:=w.T.getD ((w.T.length:Int)-1).toNat X
def ZcQ(w:Work)(r:Int)(hw:WkOk w):GP 185 [w.av,u64 r] M (w.keep r).av []:=by
 have h1:=hw.mu;have h2:=hw.rk;exact gF [] func185 [] (Fh 11 [.els (Y wdv (w.Q++[r]))] (FAx 5 8 wdv w.Q (by(simp[Work.keep, *];omega)) (Fs 10 (Y wdv [r]) (Fa (by(simp[Work.keep, *];omega):(Y wdv w.Q).length+(Y wdv [r]).length<=2^30) (Fa (by simp[Work.keep,LB,Lz,LA,Lu,wdv,idv]:Y wdv w.Q++Y wdv [r]=Y wdv (w.Q++[r])) (Fi 16 (w.rep.kept+1) Fz))))))
def tknL(w:Work)(x:Int)(i:Nat):Tg:=⟨tm 20 [(1,int x),(2,.pt 8002 0 0),(4,bool M),(5,int i)],[(8002,.box 138 w.cells)],60⟩
def ZfC(w:Work)(x:Int)(i:Nat)(hl:w.T.length<=1048576)(hi:i<w.T.length)(hv:¬ w.T.getD i X=x):CP (rndF f191 0) (tknL w x i).st .nrm (tknL w x (i+1)).st:=by
 exact sF [] [] (FN 9 10 16 idv w.T i (Ffb 19 (w.T.getD i X==x) (Fx 12 i Fz)))
def ZlD(w:Work)(x:Int)(i:Nat)(hl:w.T.length<=1048576)(hi:i<w.T.length)(hv:w.T.getD i X=x):CP (rndF f191 0) (tknL w x i).st .ret (Tg.st ⟨tm 20 [(4,bool L)],[],60⟩):=by
 exact sF [] [] (FN 9 10 16 idv w.T i (Ftb 19 (w.T.getD i X==x) Fz))
def ZoG(w:Work)(x:Int):CP (rndF f191 0) (tknL w x w.T.length).st (.ext 0) (Tg.st ⟨tm 20 [],[],60⟩):=by
 exact sF [] [] (FO 9 10 idv w.T Fz)
def Znl(w:Work)(x:Int)(hl:w.T.length<=1048576)(h:x∉w.T)  := Z0b (S:=λi=>(tknL w x i).st) w.T.length (by kernel_rfl) (λi hi=>ZfC w x i hl hi λe=>h (getD_mem_iff.2 ⟨i,hi,e⟩)) (ZoG w x)
def Zk3(w:Work)(x:Int)(hl:w.T.length<=1048576)(h:x∈w.T):CP (blkF f191 0) (Tg.st ⟨tm 20 [(1,int x),(2,.pt 8002 0 0),(4,bool M),(5,int 0)],[(8002,.box 138 w.cells)],60⟩) .ret (Tg.st ⟨tm 20 [(4,bool L)],[],60⟩):=by
 obtain⟨i,h1,h2⟩:=ZiO (getD_mem_iff.1 h);exact Z0y (S:=λi=>(tknL w x i).st) i kr (λj hj=>ZfC w x j hl oq λe=>by have:=h2 j ⟨by omega,e⟩;omega) (ZlD w x i hl h1.1 h1.2)
def ZgA(w:Work)(i:Int)(hl:w.T.length<=1048576):GP 191 [w.av,int i] L (bool (Z (i∈w.T))) []:=by
 by_cases h:i∈w.T
 .rw[decide_eq_true h];exact gF [] func191 [] (Fu (@Zk3 w i aa aa) Fz)
 .rw[decide_eq_false h];exact gF [] func191 [] (Fu (@Znl w i aa aa) Fz)
def Z1Z(w:Work)(i:Int)(hl:w.T.length<=1048576)(hp:w.heap.P.length<=1048576):GP 141 [w.av,int i] L (bool (Z13 w i)) []:=by
 rcases bb (Z (i<0)||Z ((w.heap.P.length:Int)<=i))with hc0 | hc0<;>have hc0p:=hc0<;>simp only[bs]at hc0p
 .exact gF [] func141 (fO 6) (FlG 13 (!decide (i<0)) Page.dv w.heap.P (Ft 15 hc0 (Fa (by(simp[Z13, *];omega):M=Z13 w i) Fz)))
 .obtain⟨hc0pa,hc0pb⟩:=hc0p;let y0:=w.heap.P.getD i.toNat X;exact gF [] func141 (fO 16) (FlG 13 (!decide (i<0)) Page.dv w.heap.P (Ff 15 hc0 (Fe 20 Page.dv w.heap.P i (FcG 36 (y0.K==1&&y0.S != w.heap.S) (λhg=>by(try simp only[bs]at hg);exact @ZgA w i aa) (Fa (by grind[Z13]:(y0.K==1&&y0.S != w.heap.S&&!decide (i∈w.T))=Z13 w i) Fz)))))
def Zf8(w:Work)(a:Int)(hw:WkOk w)(h0:0<=a/\a<=18446744073709551615):GP 142 [w.av,u64 a] L (hdW w a).av []:=by
 have h1:=hw.wl;have h2:=Z0J hw.W a;exact gF [] func142 [] (Fc 14 (@Z1N w.heap.W a oq aa) (Fc 19 (@Z2W ((loadA w.heap.W a).1) oq oq) Fz))
def Z6r{ws l:List Int}(h:WOk ws)(hl:WOk l)(a:Int):WOk (Z0t ws a l).1:=by
 unfold Z0t;split
 .intro x hx;simp only[spl,Lh]at hx;rcases hx with(hx | hx) | hx
  .exact h x (LD hx)
  .exact hl x hx
  .exact h x (LC hx)
 .exact Z7m
def Z8Q(ws l:List Int)(a:Int):(Z0t ws a l).1.length<=ws.length:=by
 unfold Z0t;split
 .simp only;rw[Z3V oq];exact Lg _
 .simp
def Z8C{ws:List Int}(h:WOk ws){v:Int}(hv:0<=v/\v<=18446744073709551615)(a:Int):WOk (Z0B ws a v).1:=Z6r h (by intro x hx;simp at hx;subst hx;exact hv) a
def Zd4(ws:List Int)(a v:Int):(Z0B ws a v).1.length<=ws.length:=Z8Q ws [v] a
def Zlq{ws:List Int}(h:WOk ws)(a n:Int):WOk (Z18 ws a n).1:=by
 unfold Z18;repeat' split
 .exact Z7m
 .intro x hx;exact h x (LC (LD hx))
 .exact Z7m
def Zlu{ws:List Int}(h:WOk ws)(a b n:Int):WOk (moveA ws a b n).1:=by
 unfold moveA;split
 .exact Z7m
 .exact Z6r h (Zlq h b n) a
def Zga(ws:List Int)(a b n:Int):(moveA ws a b n).1.length<=ws.length:=by
 unfold moveA;split
 .simp
 .exact Z8Q _ _ _
def WkOk.withWords{w:Work}(hw:WkOk w){l:List Int}(h:WOk l)(hl:l.length<=4096):WkOk ⟨⟨w.heap.C,l,w.heap.P,w.heap.S,w.heap.B⟩,w.old,w.T,w.Q,w.D,w.rep⟩ :=
 ⟨h,hl,hw.C,hw.pl,hw.sp,hw.ol,hw.o,hw.tk,hw.tl,hw.q,hw.us,hw.mu,hw.sc,hw.rk,hw.rs,hw.r0⟩
def Zjy{w:Work}(hw:WkOk w){r:Int}(h1:r∈w.old)(h2:r∉w.Q):WkOk (w.keep r):=by
 have hm:=hw.mu;have hl:=Zlz h1 h2;have ho:=hw.o r h1;have hs:=hw.sc;have hk:=hw.rk;have ht:=hw.tl;unfold muW at hm;refine⟨hw.W,hw.wl,hw.C,hw.pl,hw.sp,hw.ol,hw.o,hw.tk, ?_, ?_,hw.us, ?_, ?_, ?_,hw.rs,hw.r0⟩
 .simp only[Work.keep,Ld,Le];omega
 .intro x hx;simp only[Work.keep,Lh,Lo]at hx;rcases hx with hx | rfl
  .exact hw.q x hx
  .omega
 .simp only[muW,Work.keep,Ld,Le];omega
 .simp only[Work.keep,Ld,Le];omega
 .simp only[Work.keep,Ld,Le];omega
def Zit{w:Work}(hw:WkOk w)(i:Nat):WkOk (w.flip i):=by
 refine⟨hw.W,hw.wl,hw.C, ?_,hw.sp,hw.ol,hw.o, ?_,hw.tl,hw.q, ?_, ?_,hw.sc,hw.rk,hw.rs,hw.r0⟩
 .simp only[Work.flip,Z1i];exact hw.pl
 .intro x hx;have:=hw.tk x hx;simp only[Work.flip,Z1i];refine⟨this.1,this.2.1, ?_⟩;rw[Z1h oq];split
  .exact this.2.2
  .exact this.2.2
 .intro j hj;simp only[Work.flip,Z1i]at hj ⊢;have:=hw.us j hj;rw[Z1h hj];split
  .exact this
  .exact this
 .have:=hw.mu;simp only[muW,Work.flip,ZgF]at this ⊢;exact this
def Z1c{w:Work}(h:0<w.T.length):Z0E w∈w.T:=by
 unfold Z0E;exact getD_mem_iff.2 ⟨((w.T.length:Int)-1).toNat,by omega,rfl⟩
def Z6a{w:Work}{n:Int}(hw:WkOk w)(hn:1<=n)(h:(w.place n).2.2=L) :
  ∃ (i:Nat) (p:Page) (t:List Int),i<w.heap.P.length/\p.K=1/\0<=p.U/\p.U<=1024+n/\(p.U<=64\/p.U=n)/\Zby w.heap.C.pw p+1<=Zby w.heap.C.pw (w.heap.P.getD i X)/\t.length<=w.T.length+1/\(∀ x∈t,x∈w.T\/x=(i:Int))/\4096<=(w.place n).2.1/\(w.place n).2.1<=12288 /\
  (w.place n).1=⟨⟨w.heap.C,w.heap.W,w.heap.P.set i p,w.heap.S,w.heap.B⟩,w.old,t,w.Q,w.D,w.rep⟩:=by
 have hb:=validB_iff.1 hw.C;have hpl:=hw.pl;by_cases hf:Z3C w n
 .have e:w.place n=(⟨⟨w.heap.C,w.heap.W,Z1R w.heap.P (Z0E w).toNat n,w.heap.S,w.heap.B⟩,w.old,w.T,w.Q,w.D,w.rep⟩,4096+Z0E w*w.heap.C.pw+(w.heap.P.getD (Z0E w).toNat X).U,L):=by rw[Work.place,if_pos hf]
  unfold Z3C at hf;have hm:=hw.tk _ (Z1c hf.1);have hu:=hw.us (Z0E w).toNat oq
  have ha:=Z2R hw.C hm.1 oq;refine⟨(Z0E w).toNat,⟨(w.heap.P.getD (Z0E w).toNat X).K,(w.heap.P.getD (Z0E w).toNat X).S,(w.heap.P.getD (Z0E w).toNat X).U+n,(w.heap.P.getD (Z0E w).toNat X).N⟩,w.T,by omega,hm.2.2,by simp only;omega,by simp only;omega,Li (by simp only;omega), ?_,by omega,λx hx=>Li hx, ?_, ?_, ?_⟩
  .have hk:=hm.2.2;simp only[Zby,hk,if_neg (show ¬ (1:Int)=0 by decide)];omega
  .rw[e];simp only;omega
  .rw[e];simp only;omega
  .rw[e];rfl
 .by_cases hg:0<=Z0p w
  .have e:w.place n=(⟨⟨w.heap.C,w.heap.W,Z1R (Z2u w) (Z0p w).toNat n,w.heap.S,w.heap.B⟩,w.old,w.T++[Z0p w],w.Q,w.D,w.rep⟩,4096+Z0p w*w.heap.C.pw,L):=by rw[Work.place,if_neg hf,if_pos hg]
   obtain⟨f1,f2,f3,f4⟩:=Z3e (h:=⟨w.heap.C,w.heap.W,w.heap.P,1-w.heap.S,w.heap.B⟩) (by have:=hw.sp;simp only;omega) hg;obtain⟨g1,g2,g3⟩:=Z1F hg;simp only at f1 f2 f3 f4;have hi:(Z0p w).toNat<w.heap.P.length:=by unfold Z0p;omega
   have ha:=Z2R hw.C hg (by unfold Z0p;omega);have hk:(w.heap.P.getD (Z0p w).toNat X).K=0:=by
    have:=freeK_iff.1 g3 0 dd;simpa[Z0p]using this
   have hq:Z1R (Z2u w) (Z0p w).toNat n=w.heap.P.set (Z0p w).toNat ⟨1,1-w.heap.S,n,0⟩:=by
    unfold Z1R;have e4:(Z2u w).getD (Z0p w).toNat X=⟨1,1-w.heap.S,0,0⟩:=f4;rw[e4];have e1:Z2u w=w.heap.P.set (Z0p w).toNat ⟨1,1-w.heap.S,0,0⟩:=by
     have:Z2u w=tookP w.heap.P (Z0p w).toNat 1 ⟨1,1-w.heap.S,0,0⟩ ⟨0,0,0,0⟩:=f1;rw[this,Z8t hi]
    rw[e1,LG];simp
   refine⟨(Z0p w).toNat,⟨1,1-w.heap.S,n,0⟩,w.T++[Z0p w],hi,rfl,by simp only;omega,by simp only;omega,Lj rfl, ?_,by simp, ?_, ?_, ?_, ?_⟩
   .simp only[Zby,hk];simp;omega
   .intro x hx;simp only[Lh,Lo]at hx;rcases hx with hx | rfl
    .exact Li hx
    .exact Lj oq
   .rw[e];simp only;omega
   .rw[e];simp only;omega
   .rw[e,hq]
  .rw[Work.place,if_neg hf,if_neg hg]at h;simp at h
def Zno{w:Work}(hw:WkOk w){r n:Int}(hr:r∈w.old)(hq:r∉w.Q)(hn:1<=n/\n<=256)(h:(w.place n).2.2=L):WkOk ((w.place n).1.copy r (w.place n).2.1 n):=by
 obtain⟨i,p,t,h1,h2,h3,h4,h4',h5,h6,h7,h8,h9,e⟩:=Z6a hw hn.1 h;generalize (w.place n).2.1=a at h8 h9;rw[e];have hm:=hw.mu;have hs:=ZcA w.heap.C.pw p w.heap.P i h1;have hsc:=hw.sc;have hk:=hw.rk;have ht:=hw.tl;have hl:=Zl5 w.old w.Q a;unfold muW at hm;have w1:=Zlu hw.W a r n;have l1:=Zga w.heap.W a r n;have l2:=Zd4 (moveA w.heap.W a r n).1 r (4*a+2);have l0:=hw.wl;refine⟨Z8C w1 oq r, ?_,hw.C, ?_,hw.sp,hw.ol,hw.o, ?_, ?_, ?_, ?_, ?_, ?_, ?_,hw.rs,hw.r0⟩
 .simp only[Work.copy];omega
 .simp only[Work.copy,Lt];exact hw.pl
 .intro x hx;simp only[Work.copy,Lt]at hx ⊢;rcases h7 x hx with hx | hx
  .have:=hw.tk x hx;refine⟨this.1,this.2.1, ?_⟩;rw[Z0k h1];split
   .exact h2
   .exact this.2.2
  .subst hx;refine⟨by omega,by omega, ?_⟩;rw[Z0k h1,if_pos pq];exact h2
 .simp only[Work.copy,Ld,Le];omega
 .intro x hx;simp only[Work.copy,Lh,Lo]at hx;rcases hx with hx | rfl
  .exact hw.q x hx
  .omega
 .intro j hj;simp only[Work.copy,Lt]at hj ⊢;rw[Z0k h1];split
  .omega
  .exact hw.us j hj
 .simp only[muW,Work.copy,Ld,Le];omega
 .simp only[Work.copy,Ld,Le];omega
 .simp only[Work.copy,Ld,Le];omega
def Z6H{v:Int}(h:0<=v):0<=(Z0e v).1/\(Z0e v).1<=4294967295:=by
 unfold Z0e;split<;>simp only<;>omega
def Z22(v:Int):Z0d (decodeH v).1=L:=by
 cases e:(decodeH v).2 with
 | true=>exact Z71 e
 | false =>
  unfold decodeH at e ⊢;split
  .rename_i hc;rw[if_pos hc]at e;cases e
  .decide
def Z6z(w:Work)(r:Int):1<=sizeH (hdW w r)/\sizeH (hdW w r)<=256:=by
 have hv:Z0d (hdW w r)=L:=Z22 _;have:=validH_iff.1 hv;rw[sizeH,if_pos hv];omega
def fwd_ok{w:Work}(hw:WkOk w)(r:Int)(e:(w.fwd r).2.2=0):WkOk (w.fwd r).1/\0<=(w.fwd r).2.1/\(w.fwd r).2.1<=4294967296/\w.Q.length<=(w.fwd r).1.Q.length/\(w.fwd r).1.D=w.D/\(w.fwd r).1.rep.steps=w.rep.steps:=by
 have hv:=Z0J hw.W r;have ht:=Z6H hv.1;unfold Work.fwd at e ⊢;split at e
 .rename_i c1;rw[if_pos c1];refine⟨hw, ?_, ?_,Lg _,rfl,rfl⟩
  .rcases c1 with c1 | c1
   .simp only;omega
   .exact(hw.q r c1).1
  .rcases c1 with c1 | c1
   .simp only;omega
   .have:=hw.q r c1;simp only;omega
 .rename_i c1;rw[if_neg c1];have c1':r∉w.Q:=λh=>c1 (Lj h);split at e
  .simp at e
  .rename_i c2;rw[if_neg c2];have c2':r∈w.old:=Lp.1 c2;have ho:=hw.o r c2';split at e
   .rename_i c3;rw[if_pos c3];exact⟨hw,ht.1,by simp only;omega,Lg _,rfl,rfl⟩
   .rename_i c3;rw[if_neg c3];split at e
    .simp at e
    .rename_i c4;rw[if_neg c4];split at e
     .rename_i c5;rw[if_pos c5];exact⟨Zjy hw c2' c1',ho.1,by simp only;omega,by simp[Work.keep],rfl,rfl⟩
     .rename_i c5;rw[if_neg c5];split at e
      .rename_i c6;rw[if_pos c6];exact⟨Zjy (Zit hw _) c2' c1',ho.1,by simp only;omega,by simp[Work.keep,Work.flip],rfl,rfl⟩
      .rename_i c6;rw[if_neg c6];split at e
       .simp at e
       .rename_i c7;rw[if_neg c7];have c7':(w.place (sizeH (hdW w r))).2.2=L:=by simpa using c7
        have hz:=Z6z w r;obtain⟨i,p,t,h1,h2,h3,h4,h4',h5,h6,h7,h8,h9,ee⟩:=Z6a hw hz.1 c7';refine⟨Zno hw c2' c1' hz c7', ?_, ?_, ?_, ?_, ?_⟩
        .simp only;omega
        .simp only;omega
        .simp only[Work.copy];rw[ee];simp
        .simp only[Work.copy];rw[ee]
        .simp only[Work.copy];rw[ee]
def Zau(w:Work)(n:Int)(hw:WkOk w)(hn:1<=n/\n<=256):GP 186 [w.av,int n] M (.tu [(w.place n).1.av,u64 (w.place n).2.1,bool (w.place n).2.2]) []:=by
 have o1:=hw.C;have hb:=validB_iff.1 o1;have hpl:=hw.pl;have hmu:=hw.mu;have htl:=hw.tl;have hr:=Z68 w.heap.P 1;by_cases hf:Z3C w n
 .have e7:w.place n=(⟨⟨w.heap.C,w.heap.W,Z1R w.heap.P (Z0E w).toNat n,w.heap.S,w.heap.B⟩,w.old,w.T,w.Q,w.D,w.rep⟩,4096+Z0E w*w.heap.C.pw+(w.heap.P.getD (Z0E w).toNat X).U,L):=by rw[Work.place,if_pos hf]
  unfold Z3C at hf;have hm:=hw.tk _ (Z1c hf.1);have hu:=hw.us (Z0E w).toNat oq
  have ha:=Z2R hw.C hm.1 oq;unfold Z0E at hm hu ha hf e7;rw[show w.place n=(Work.mk (Heap.mk w.heap.C w.heap.W (w.heap.P.set (w.T.getD ((w.T.length:Int)-(1:Int)).toNat X).toNat (Page.mk (w.heap.P.getD (w.T.getD ((w.T.length:Int)-(1:Int)).toNat X).toNat X).K (w.heap.P.getD (w.T.getD ((w.T.length:Int)-(1:Int)).toNat X).toNat X).S ((w.heap.P.getD (w.T.getD ((w.T.length:Int)-(1:Int)).toNat X).toNat X).U+n) (w.heap.P.getD (w.T.getD ((w.T.length:Int)-(1:Int)).toNat X).toNat X).N)) w.heap.S w.heap.B) w.old w.T w.Q w.D w.rep,(4096:Int)+w.T.getD ((w.T.length:Int)-(1:Int)).toNat X*w.heap.C.pw+(w.heap.P.getD (w.T.getD ((w.T.length:Int)-(1:Int)).toNat X).toNat X).U,L)from by rw[e7];rfl];exact gF [] func186 [] (FA 10 14 Page.dv w.heap.P (Fl 19 idv w.T (FiG 29 (Z (0<(w.T.length:Int))) ((w.T.length:Int)-1) (FeGq 30 (Z (0<(w.T.length:Int))) idv w.T ((w.T.length:Int)-1) (FmGq 34 (Z (0<(w.T.length:Int))) Page.dv w.heap.P (w.T.getD ((w.T.length:Int)-1).toNat X) (FiG 36 (Z (0<(w.T.length:Int))) ((w.heap.P.getD (w.T.getD ((w.T.length:Int)-1).toNat X).toNat X).U+n) (Ftb 42 (Z (0<(w.T.length:Int))&&Z ((w.heap.P.getD (w.T.getD ((w.T.length:Int)-1).toNat X).toNat X).U+n<=w.heap.C.pw)) (Fi 46 ((w.T.length:Int)-1) (Fe 47 idv w.T ((w.T.length:Int)-1) (Fi 83 (w.T.getD ((w.T.length:Int)-1).toNat X*w.heap.C.pw) (Fi 84 (4096+w.T.getD ((w.T.length:Int)-1).toNat X*w.heap.C.pw) (Fmq 91 Page.dv w.heap.P (w.T.getD ((w.T.length:Int)-1).toNat X) (Fi 92 (4096+w.T.getD ((w.T.length:Int)-1).toNat X*w.heap.C.pw+(w.heap.P.getD (w.T.getD ((w.T.length:Int)-1).toNat X).toNat X).U) (Fv 93 (4096+w.T.getD ((w.T.length:Int)-1).toNat X*w.heap.C.pw+(w.heap.P.getD (w.T.getD ((w.T.length:Int)-1).toNat X).toNat X).U) (Fmq 104 Page.dv w.heap.P (w.T.getD ((w.T.length:Int)-1).toNat X) (Fi 106 ((w.heap.P.getD (w.T.getD ((w.T.length:Int)-1).toNat X).toNat X).U+n) (Fm0q Page.dv w.heap.P (w.T.getD ((w.T.length:Int)-1).toNat X) (FS 10108 Page.dv w.heap.P ((w.T.getD ((w.T.length:Int)-1).toNat X).toNat) (Page.mk (w.heap.P.getD (w.T.getD ((w.T.length:Int)-1).toNat X).toNat X).K (w.heap.P.getD (w.T.getD ((w.T.length:Int)-1).toNat X).toNat X).S ((w.heap.P.getD (w.T.getD ((w.T.length:Int)-1).toNat X).toNat X).U+n) (w.heap.P.getD (w.T.getD ((w.T.length:Int)-1).toNat X).toNat X).N) ((w.heap.P.getD (w.T.getD ((w.T.length:Int)-1).toNat X).toNat X).dv) Fz))))))))))))))))))
 .by_cases hg:0<=first w.heap.P 1
  .have e7:w.place n=(⟨⟨w.heap.C,w.heap.W,Z1R (Z2u w) (first w.heap.P 1).toNat n,w.heap.S,w.heap.B⟩,w.old,w.T++[first w.heap.P 1],w.Q,w.D,w.rep⟩,4096+first w.heap.P 1*w.heap.C.pw,L):=by rw[Work.place,if_neg hf,if_pos (show 0<=Z0p w from hg)];rfl
   obtain⟨q1,q2,q3,q4⟩:=Z3e (h:=⟨w.heap.C,w.heap.W,w.heap.P,1-w.heap.S,w.heap.B⟩) (by have:=hw.sp;simp only;omega) hg;obtain⟨r1,r2,r3⟩:=Z1F hg;simp only at q1 q2 q3 q4;rw[q1]at q2 q4;have e8:Z2u w=_:=q1;rw[e8]at e7;have r4:Z8w w.heap.P (first w.heap.P 1).toNat 1=L:=r3;have ha:=Z2R hw.C hg oq;have q6:=congrArg Page.U q4;simp only at q6;have hs:=hw.sp;have hm:0<w.T.length->0<=Z0E w/\Z0E w<w.heap.P.length:=λh=>⟨(hw.tk _ (Z1c h)).1,(hw.tk _ (Z1c h)).2.1⟩
   have hu:=λh=>hw.us (Z0E w).toNat h;unfold Z3C at hf;unfold Z0E at hf hm hu;exact gF [] func186 (fO 19) (Fh 76 [.els (Y idv (w.T++[first w.heap.P 1]))] (FA 10 14 Page.dv w.heap.P (Fl 19 idv w.T (FiG 29 (Z (0<(w.T.length:Int))) ((w.T.length:Int)-1) (FeGq 30 (Z (0<(w.T.length:Int))) idv w.T ((w.T.length:Int)-1) (FmGq 34 (Z (0<(w.T.length:Int))) Page.dv w.heap.P (w.T.getD ((w.T.length:Int)-1).toNat X) (FiG 36 (Z (0<(w.T.length:Int))) ((w.heap.P.getD (w.T.getD ((w.T.length:Int)-1).toNat X).toNat X).U+n) (Ffb 42 (Z (0<(w.T.length:Int))&&Z ((w.heap.P.getD (w.T.getD ((w.T.length:Int)-1).toNat X).toNat X).U+n<=w.heap.C.pw)) (Fc 52 (@Z5i w.heap.P (1) oq) (Ffb 54 (Z (first w.heap.P (1:Int)<0)) (Fi 64 (1-w.heap.S) (Fc 65 (@Zaw w.heap.P (first w.heap.P 1) (1-w.heap.S) oq oq oq aa) (FA 70 73 idv w.T (Fs 75 (Y idv [first w.heap.P 1]) (Fa (by(simp[*];omega):(Y idv w.T).length+(Y idv [first w.heap.P 1]).length<=2^30) (Fa (ms:Y idv w.T++Y idv [first w.heap.P 1]=Y idv (w.T++[first w.heap.P 1])) (Fi 83 (first w.heap.P 1*w.heap.C.pw) (Fi 84 (4096+first w.heap.P 1*w.heap.C.pw) (Fmq 91 Page.dv (tookP w.heap.P (first w.heap.P 1).toNat 1 (Page.mk 1 (1-w.heap.S) 0 0) (Page.mk 0 0 0 0)) (first w.heap.P 1) (Fi 92 (4096+first w.heap.P 1*w.heap.C.pw+((tookP w.heap.P (first w.heap.P 1).toNat 1 (Page.mk 1 (1-w.heap.S) 0 0) (Page.mk 0 0 0 0)).getD (first w.heap.P 1).toNat X).U) (Fv 93 (4096+first w.heap.P 1*w.heap.C.pw+((tookP w.heap.P (first w.heap.P 1).toNat 1 (Page.mk 1 (1-w.heap.S) 0 0) (Page.mk 0 0 0 0)).getD (first w.heap.P 1).toNat X).U) (Fmq 104 Page.dv (tookP w.heap.P (first w.heap.P 1).toNat 1 (Page.mk 1 (1-w.heap.S) 0 0) (Page.mk 0 0 0 0)) (first w.heap.P 1) (Fi 106 (((tookP w.heap.P (first w.heap.P 1).toNat 1 (Page.mk 1 (1-w.heap.S) 0 0) (Page.mk 0 0 0 0)).getD (first w.heap.P 1).toNat X).U+n) (Fm0q Page.dv (tookP w.heap.P (first w.heap.P 1).toNat 1 (Page.mk 1 (1-w.heap.S) 0 0) (Page.mk 0 0 0 0)) (first w.heap.P 1) (FS 10108 Page.dv (tookP w.heap.P (first w.heap.P 1).toNat 1 (Page.mk 1 (1-w.heap.S) 0 0) (Page.mk 0 0 0 0)) ((first w.heap.P 1).toNat) (Page.mk ((tookP w.heap.P (first w.heap.P 1).toNat 1 (Page.mk 1 (1-w.heap.S) 0 0) (Page.mk 0 0 0 0)).getD (first w.heap.P 1).toNat X).K ((tookP w.heap.P (first w.heap.P 1).toNat 1 (Page.mk 1 (1-w.heap.S) 0 0) (Page.mk 0 0 0 0)).getD (first w.heap.P 1).toNat X).S (((tookP w.heap.P (first w.heap.P 1).toNat 1 (Page.mk 1 (1-w.heap.S) 0 0) (Page.mk 0 0 0 0)).getD (first w.heap.P 1).toNat X).U+n) ((tookP w.heap.P (first w.heap.P 1).toNat 1 (Page.mk 1 (1-w.heap.S) 0 0) (Page.mk 0 0 0 0)).getD (first w.heap.P 1).toNat X).N) (((tookP w.heap.P (first w.heap.P 1).toNat 1 (Page.mk 1 (1-w.heap.S) 0 0) (Page.mk 0 0 0 0)).getD (first w.heap.P 1).toNat X).dv) (Fa (by rw[e7]:w.heap.C.pw=(w.place n).1.heap.C.pw) (Fa (by rw[e7]:w.heap.C.pg=(w.place n).1.heap.C.pg) (Fa (by refine congrArg _ ?_;rw[e7]:Y wdv w.heap.W=Y wdv (w.place n).1.heap.W) (Fa (by refine congrArg _ ?_;rw[e7];rfl:Y Page.dv ((tookP w.heap.P (first w.heap.P 1).toNat 1 (Page.mk 1 (1-w.heap.S) 0 0) (Page.mk 0 0 0 0)).set (first w.heap.P 1).toNat (Page.mk ((tookP w.heap.P (first w.heap.P 1).toNat 1 (Page.mk 1 (1-w.heap.S) 0 0) (Page.mk 0 0 0 0)).getD (first w.heap.P 1).toNat X).K ((tookP w.heap.P (first w.heap.P 1).toNat 1 (Page.mk 1 (1-w.heap.S) 0 0) (Page.mk 0 0 0 0)).getD (first w.heap.P 1).toNat X).S (((tookP w.heap.P (first w.heap.P 1).toNat 1 (Page.mk 1 (1-w.heap.S) 0 0) (Page.mk 0 0 0 0)).getD (first w.heap.P 1).toNat X).U+n) ((tookP w.heap.P (first w.heap.P 1).toNat 1 (Page.mk 1 (1-w.heap.S) 0 0) (Page.mk 0 0 0 0)).getD (first w.heap.P 1).toNat X).N))=Y Page.dv (w.place n).1.heap.P) (Fa (by rw[e7]:w.heap.S=(w.place n).1.heap.S) (Fa (by rw[e7]:w.heap.B=(w.place n).1.heap.B) (Fa (by refine congrArg _ ?_;rw[e7]:Y wdv w.old=Y wdv (w.place n).1.old) (Fa (by refine congrArg _ ?_;rw[e7]:Y idv (w.T++[first w.heap.P 1])=Y idv (w.place n).1.T) (Fa (by refine congrArg _ ?_;rw[e7]:Y wdv w.Q=Y wdv (w.place n).1.Q) (Fa (by rw[e7]:w.D=(w.place n).1.D) (Fa (by rw[e7]:w.rep.copied=(w.place n).1.rep.copied) (Fa (by rw[e7]:w.rep.kept=(w.place n).1.rep.kept) (Fa (by rw[e7]:w.rep.filled=(w.place n).1.rep.filled) (Fa (by rw[e7]:w.rep.freed=(w.place n).1.rep.freed) (Fa (by rw[e7]:w.rep.cleared=(w.place n).1.rep.cleared) (Fa (by rw[e7]:w.rep.steps=(w.place n).1.rep.steps) (Fa (by grind[]:4096+first w.heap.P 1*w.heap.C.pw+((tookP w.heap.P (first w.heap.P 1).toNat 1 (Page.mk 1 (1-w.heap.S) 0 0) (Page.mk 0 0 0 0)).getD (first w.heap.P 1).toNat X).U=(w.place n).2.1) (Fa (by rw[e7]:L=(w.place n).2.2) Fz)))))))))))))))))))))))))))))))))))))))))))
  .have e7:w.place n=(noWork,0,M):=by rw[Work.place,if_neg hf,if_neg (show ¬ 0<=Z0p w from hg)]
   have hm:0<w.T.length->0<=Z0E w/\Z0E w<w.heap.P.length:=λh=>⟨(hw.tk _ (Z1c h)).1,(hw.tk _ (Z1c h)).2.1⟩
   have hu:=λh=>hw.us (Z0E w).toNat h;unfold Z3C at hf;unfold Z0E at hf hm hu;rw[e7];exact gF [] func186 [] (FAx 10 14 Page.dv w.heap.P (by(simp[noWork,noHeap, *];omega)) (Fl 19 idv w.T (FiG 29 (Z (0<(w.T.length:Int))) ((w.T.length:Int)-1) (FeGq 30 (Z (0<(w.T.length:Int))) idv w.T ((w.T.length:Int)-1) (FmGq 34 (Z (0<(w.T.length:Int))) Page.dv w.heap.P (w.T.getD ((w.T.length:Int)-1).toNat X) (FiG 36 (Z (0<(w.T.length:Int))) ((w.heap.P.getD (w.T.getD ((w.T.length:Int)-1).toNat X).toNat X).U+n) (Ffb 42 (Z (0<(w.T.length:Int))&&Z ((w.heap.P.getD (w.T.getD ((w.T.length:Int)-1).toNat X).toNat X).U+n<=w.heap.C.pw)) (Fc 52 (@Z5i w.heap.P (1) oq) (Ftb 54 (Z (first w.heap.P (1:Int)<0)) (Fnl (Fnl (Fnl (Fnl (Fnl Fz))))))))))))))
def preM{α:Type}(f:α->α)(l:List α)(i:Nat):List α:=(l.take i).map f++l.drop i
def ZiJ{α:Type}(f:α->α)(l:List α):preM f l 0=l:=by simp[preM]
def Zbp{α:Type}(f:α->α)(l:List α):preM f l l.length=l.map f:=by simp[preM]
def Z5f{α:Type}(f:α->α)(l:List α)(i:Nat):(preM f l i).length=l.length:=by simp[preM];omega
def ZaX{α:Type}(f:α->α)(l:List α){i j:Nat}(h:i<=j)(d:α):(preM f l i).getD j d=l.getD j d:=by
 rw[Lc,Lc];congr 1;by_cases hi:i<=l.length
 .rw[preM,List.getElem?_append_right qo];simp only[Ll,List.length_take,List.getElem?_drop];congr 1;omega
 .rw[Ln (by rw[Z5f];omega),Ln oq]
def Z8s{α:Type}(f:α->α)(l:List α){i:Nat}(h:i<l.length)(d:α):(preM f l i).set i (f (l.getD i d))=preM f l (i+1):=by
 have e:l.getD i d=l[i]:=by simp[Lc,h]
 rw[e,preM,preM,List.take_succ_eq_append_getElem h,Lu,List.set_append_right i _ qo,List.append_assoc];congr 1;have:l.drop i=l[i]::l.drop (i+1):=List.drop_eq_getElem_cons h;rw[show i-(Y f (O i l)).length=0 by simp;omega,this];rfl
def ZcF{α:Type}(f:α->α)(l:List α){i:Nat}(h:i<l.length)(d:α)(hf:f (l.getD i d)=l.getD i d):preM f l i=preM f l (i+1):=by
 rw[<- Z8s f l h d,hf,<- ZaX f l (Lg i) d];have h':i<(preM f l i).length:=by rw[Z5f];exact h
 rw[show(preM f l i).getD i d=(preM f l i)[i] by simp[Lc,h'],List.set_getElem_self]
def begQ(s:Int)(p:Page):Page:=if p.K=1/\0<p.N then⟨p.K,s,p.U,p.N⟩else p
def begL(h:Heap)(all:List Int)(i:Nat):Tg:=⟨tm 61 [(1,.pt 8001 0 0),(2,.pt 8002 0 0),(3,int 0),(4,.pt 32004 0 0),(5,int i)],[(32004,.box 138 [int h.C.pw,int h.C.pg,Z02 h.W,.ow 48026,int h.S,int h.B,Z02 all,.d (.sl 0 []),.d (.sl 0 []),int 0,int 0,int 0,int 0,int 0,int 0,int 0]),(48026,.arr 86 4 ((preM (begQ (1-h.S)) h.P i).map Page.dv)),(8002,.box 138 zW),(8001,.box 28 h.cells)],60⟩
section
variable (h:Heap) (all:List Int) (hs:h.S=0\/h.S=1) (hl:h.P.length<=1048576)
include hs hl
theorem Zl3(i:Nat)(hi:i<h.P.length):CP (rndF f82 0) (begL h all i).st .nrm (begL h all (i+1)).st:=by
 have ha:=ZaX (begQ (1-h.S)) h.P (Lg i) X;have hn:=Z5f (begQ (1-h.S)) h.P i;by_cases hc:(h.P.getD i X).K=1/\0<(h.P.getD i X).N
 .have hq:=Z8s (begQ (1-h.S)) h.P hi X;rw[show begQ (1-h.S) (h.P.getD i X)=⟨(h.P.getD i X).K,1-h.S,(h.P.getD i X).U,(h.P.getD i X).N⟩ by rw[begQ,if_pos hc],<- ha]at hq;rw[<- ha]at hc;have Q0 {h_ c_ p_} (r_:Fq h_ c_ p_):=Fl 33 Page.dv (preM (begQ ((1:Int)-h.S)) h.P i) (Ftb 34 (Z ((i:Int)<(↑(preM (begQ (1-h.S)) h.P i).length:Int))) (Fmq 42 Page.dv (preM (begQ (1-h.S)) h.P i) (↑i) r_));rcases bb (((preM (begQ (1-h.S)) h.P i).getD (i:Int).toNat X).K==1&&Z (0<((preM (begQ (1-h.S)) h.P i).getD (i:Int).toNat X).N))with hc0 | hc0<;>have hc0p:=hc0<;>simp only[bs]at hc0p
  .obtain⟨hc0pa,hc0pb⟩:=hc0p;let y1:=preM (begQ (1-h.S)) h.P i;let y0:=y1.getD (i:Int).toNat X;exact sF [] (fO 9) (Q0 (Ft 50 hc0 (Fi 57 (1-h.S) (Fm0q Page.dv y1 (↑i) (FS 10059 Page.dv y1 ((i:Int).toNat) (Page.mk y0.K (1-h.S) y0.U y0.N) (y0.dv) (Fx 36 i (Fr (86:Int) (Fa (by refine congrArg _ ?_;exact hq:Y Page.dv (y1.set (i:Int).toNat (Page.mk y0.K (1-h.S) y0.U y0.N))=Y Page.dv (preM (begQ (1-h.S)) h.P (i+1))) Fz))))))))
  .exact sF [] (fO 9) (Q0 (Ff 50 hc0 (Fx 36 i (Fr (86:Int) (Fa (by refine congrArg _ ?_;grind[]:Y Page.dv (preM (begQ (1-h.S)) h.P i)=Y Page.dv (preM (begQ (1-h.S)) h.P (i+1))) Fz)))))
 .have hq:=ZcF (begQ (1-h.S)) h.P hi X (by rw[begQ,if_neg hc]);rw[<- ha]at hc;have Q1 {h_ c_ p_} (r_:Fq h_ c_ p_):=Fl 33 Page.dv (preM (begQ ((1:Int)-h.S)) h.P i) (Ftb 34 (Z ((i:Int)<(↑(preM (begQ (1-h.S)) h.P i).length:Int))) (Fmq 42 Page.dv (preM (begQ (1-h.S)) h.P i) (↑i) r_));rcases bb (((preM (begQ (1-h.S)) h.P i).getD (i:Int).toNat X).K==1&&Z (0<((preM (begQ (1-h.S)) h.P i).getD (i:Int).toNat X).N))with hc0 | hc0<;>have hc0p:=hc0<;>simp only[bs]at hc0p
  .obtain⟨hc0pa,hc0pb⟩:=hc0p;let y3:=preM (begQ (1-h.S)) h.P i;let y2:=y3.getD (i:Int).toNat X;exact sF [] (fO 9) (Q1 (Ft 50 hc0 (Fi 57 (1-h.S) (Fm0q Page.dv y3 (↑i) (FS 10059 Page.dv y3 ((i:Int).toNat) (Page.mk y2.K (1-h.S) y2.U y2.N) (y2.dv) (Fx 36 i (Fr (86:Int) (Fa (by refine congrArg _ ?_;grind[]:Y Page.dv (y3.set (i:Int).toNat (Page.mk y2.K (1-h.S) y2.U y2.N))=Y Page.dv (preM (begQ (1-h.S)) h.P (i+1))) Fz))))))))
  .exact sF [] (fO 9) (Q1 (Ff 50 hc0 (Fx 36 i (Fr (86:Int) (Fa (by refine congrArg _ ?_;exact hq:Y Page.dv (preM (begQ (1-h.S)) h.P i)=Y Page.dv (preM (begQ (1-h.S)) h.P (i+1))) Fz)))))
omit hs hl in
theorem Zol:CP (rndF f82 0) (begL h all h.P.length).st (.ext 0) (Tg.st ⟨tm 61 [(2,.pt 8002 0 0),(3,int 0),(4,.pt 32004 0 0)],[(32004,.box 138 [int h.C.pw,int h.C.pg,Z02 h.W,.ow 48026,int h.S,int h.B,Z02 all,.d (.sl 0 []),.d (.sl 0 []),int 0,int 0,int 0,int 0,int 0,int 0,int 0]),(48026,.arr 86 4 ((h.P.map (begQ (1-h.S))).map Page.dv)),(8002,.box 138 zW)],60⟩):=by
 have hq:=Zbp (begQ (1-h.S)) h.P;have hn:=Z5f (begQ (1-h.S)) h.P h.P.length;exact sF [] (fO 4) (Fl 33 Page.dv (preM (begQ ((1:Int)-h.S)) h.P h.P.length) (Ffb 34 (Z ((h.P.length:Int)<(↑(preM (begQ (1-h.S)) h.P h.P.length).length:Int))) (Fr (86:Int) (Fa (by refine congrArg _ ?_;assumption:Y Page.dv (preM (begQ (1-h.S)) h.P h.P.length)=Y Page.dv (Y (begQ (1-h.S)) h.P)) Fz))))
theorem Zny:CP (blkF f82 0) (Tg.st ⟨tm 61 [(1,.pt 8001 0 0),(2,.pt 8002 0 0),(3,int 0),(4,.pt 32004 0 0),(5,int 0)],[(32004,.box 138 [int h.C.pw,int h.C.pg,Z02 h.W,.ow 48026,int h.S,int h.B,Z02 all,.d (.sl 0 []),.d (.sl 0 []),int 0,int 0,int 0,int 0,int 0,int 0,int 0]),(48026,.arr 86 4 (h.P.map Page.dv)),(8002,.box 138 zW),(8001,.box 28 h.cells)],60⟩) .nrm (Tg.st ⟨tm 61 [(2,.pt 8002 0 0),(3,int 0),(4,.pt 32004 0 0)],[(32004,.box 138 [int h.C.pw,int h.C.pg,Z02 h.W,.ow 48026,int h.S,int h.B,Z02 all,.d (.sl 0 []),.d (.sl 0 []),int 0,int 0,int 0,int 0,int 0,int 0,int 0]),(48026,.arr 86 4 ((h.P.map (begQ (1-h.S))).map Page.dv)),(8002,.box 138 zW)],60⟩):=by
 have:=Z0b (S:=λk=>(begL h all k).st) h.P.length kr (λk hk=>Zl3 h all hs hl k hk) (Zol h all);simp only[begL,ZiJ]at this;exact this
end
def beginW(h:Heap):Work:=⟨⟨h.C,h.W,h.P.map (begQ (1-h.S)),h.S,h.B⟩,(Z04 h).1,[],[],0,⟨0,0,0,0,0,0⟩⟩
def Z4l(h:Heap)(hw:WOk h.W)(hp:Z03 h=L)(hg:Z0R h=⟨0,0,0⟩):GP 82 [h.av] M (.tu [(beginW h).av,int 0]) []:=by
 have po:=Z07 hp;have ho:=Z19 h;exact gF [] func82 [] (Fc 8 (@Z0g h) (Ffb 9 (!Z03 h) (Fc 12 (@Z83 h aa) (Ffb 13 (!decide (Z0R h=Finding.mk 0 0 0)) (Fc 19 (@Z3y h aa) (FAx 23 26 Page.dv h.P (by(simp[beginW, *];omega)) (Fu (@Zny h ((Z04 h).1) oq oq) (Fnl (Fnl Fz)))))))))
def ZjT(w:Work)(r:Int)(hw:WkOk w)(h0:0<=r/\r<=18446744073709551615)(hc:r=0\/r∈w.Q):GP 137 [w.av,u64 r] M (.tu [w.av,u64 r,int 0]) []:=by
 have h1:=hw.mu;rcases hc with hc | hc
 .exact gF [] func137 [] (FcG 29 (!r==0) (λhg=>by(try simp only[bs]at hg);exact @Z0X w.Q r oq) (Ftb 30 (r==0||Z (r∈w.Q)) Fz))
 .by_cases h0:r=0
  .exact gF [] func137 [] (FcG 29 (!r==0) (λhg=>by(try simp only[bs]at hg);exact @Z0X w.Q r oq) (Ftb 30 (r==0||Z (r∈w.Q)) Fz))
  .exact gF [] func137 [] (FcG 29 (!r==0) (λhg=>by(try simp only[bs]at hg);exact @Z0X w.Q r oq) (Fts 30 (r==0||Z (r∈w.Q)) Fz))
def Zhr(w:Work)(r:Int)(hw:WkOk w)(h0:0<=r/\r<=18446744073709551615)(c1:r≠0)(c2:r∉w.Q)(c3:r∉w.old):GP 137 [w.av,u64 r] M (.tu [noWork.av,u64 0,int 19]) []:=by
 have h1:=hw.mu;have h2:=hw.ol;exact gF [] func137 [] (FcG 29 (!r==0) (λhg=>by(try simp only[bs]at hg);exact @Z0X w.Q r oq) (Ffs 30 (r==0||Z (r∈w.Q)) (Fc 36 (@Z0X w.old r oq) (Ftb 37 (!decide (r∈w.old)) (Fnl (Fnl (Fnl (Fnl (Fnl Fz)))))))))
def ZjR(w:Work)(r:Int)(hw:WkOk w)(h0:0<=r/\r<=18446744073709551615)(c1:r≠0)(c2:r∉w.Q)(c3:r∈w.old)(c4:(Z0e (loadA w.heap.W r).1).2=L):GP 137 [w.av,u64 r] M (.tu [w.av,u64 (Z0e (loadA w.heap.W r).1).1,int 0]) []:=by
 have h1:=hw.mu;have h2:=hw.ol;have h3:=hw.wl;have h4:=Z0J hw.W r;exact gF [] func137 [] (Fh 52 [.br L] (FcG 29 (!r==0) (λhg=>by(try simp only[bs]at hg);exact @Z0X w.Q r oq) (Ffs 30 (r==0||Z (r∈w.Q)) (Fc 36 (@Z0X w.old r oq) (Ffb 37 (!decide (r∈w.old)) (Fc 44 (@Z1N w.heap.W r oq aa) (Fc 49 (@Z33 ((loadA w.heap.W r).1) oq oq) (Fa ‹(Z0e (loadA w.heap.W r).1).2=L› Fz))))))))
def ZhI(w:Work)(r:Int)(hw:WkOk w)(h0:0<=r/\r<=18446744073709551615)(c1:r≠0)(c2:r∉w.Q)(c3:r∈w.old)(c4:(Z0e (loadA w.heap.W r).1).2=M)(c5:(ofA w.heap.C r).2.2≠0):GP 137 [w.av,u64 r] M (.tu [noWork.av,u64 0,int 19]) []:=by
 have h1:=hw.mu;have h2:=hw.ol;have h3:=hw.wl;have h4:=Z0J hw.W r;exact gF [] func137 [] (Fh 52 [.br M] (FcG 29 (!r==0) (λhg=>by(try simp only[bs]at hg);exact @Z0X w.Q r oq) (Ffs 30 (r==0||Z (r∈w.Q)) (Fc 36 (@Z0X w.old r oq) (Ffb 37 (!decide (r∈w.old)) (Fc 44 (@Z1N w.heap.W r oq aa) (Fc 49 (@Z33 ((loadA w.heap.W r).1) oq oq) (Fa ‹(Z0e (loadA w.heap.W r).1).2=M› (Fc 60 (@Z4K w.heap.C r oq oq) (FlG 71 (!(ofA w.heap.C r).2.2 != 0) Page.dv w.heap.P (Ftb 73 ((ofA w.heap.C r).2.2 != 0||Z ((w.heap.P.length:Int)<=(ofA w.heap.C r).1)) (Fnl (Fnl (Fnl (Fnl (Fnl Fz))))))))))))))))
def Zky{α:Type}(p:α->Bool):∀ (l:List α) (m:Nat),m<(l.takeWhile p).length->∃ h:m<l.length,p l[m]=L
 | [],m,h=>by simp at h
 | x::l,m,h=>by
  rw[Lv]at h;split at h
  .rename_i hp;cases m with
   | zero=>exact⟨by simp,hp⟩
   | succ m =>
    obtain⟨h1,h2⟩:=Zky p l m (by simpa using h);exact⟨by simp;omega,by simpa using h2⟩
  .simp at h
def Zfz{α:Type}(p:α->Bool):∀ (l:List α) (h:(l.takeWhile p).length<l.length),p l[(l.takeWhile p).length]=M
 | [],h=>by simp at h
 | x::l,h=>by
  by_cases hp:p x=L
  .have e:((x::l).takeWhile p).length=(l.takeWhile p).length+1:=by rw[Lv,if_pos hp];rfl
   have:=Zfz p l (by simp only[e,List.length_cons]at h;omega);simp only[e,List.getElem_cons_succ];exact this
  .have e:((x::l).takeWhile p).length=0:=by rw[Lv,if_neg hp];rfl
   simp only[e,List.getElem_cons_zero];simpa using hp
def Z7h{l:List Page}{i m:Nat}(h:m<Z0z l i):i+1+m<l.length/\(l.getD (i+1+m) X).K=3:=by
 obtain⟨h1,h2⟩:=Zky _ _ _ h;have h3:i+1+m<l.length:=by simp at h1;omega
 refine⟨h3, ?_⟩;simpa[Lc,h3]using h2
def ZfF{l:List Page}{i:Nat}(h:i+1+Z0z l i<l.length):¬ (l.getD (i+1+Z0z l i) X).K=3:=by
 have h2:=Zfz (λp:Page=>p.K==3) (l.drop (i+1)) (by simp;unfold Z0z at h;omega);intro h3;have h4:(l.drop (i+1))[Z0z l i]' qo=l.getD (i+1+Z0z l i) X:=by simp[Lc,h]
 have h5:(((l.drop (i+1))[Z0z l i]' qo).K==3)=M:=h2;rw[h4,h3]at h5;simp at h5
def ZgY{l:List Page}{i:Nat}(s:Int):Z0H l i 0 s=l.set i (Zb3 s (l.getD i X)):=by
 refine Lq (by simp[Z0H]) λj h1 h2=>?_;have h:j<l.length:=by simpa using h2
 have e:l.getD j X=l[j]:=by simp[Lc,h]
 simp only[Z0H,Lr,Ls,Ly,e];by_cases hj:i=j
 .subst hj;rw[if_pos oq,if_pos rfl,e]
 .rw[if_neg oq,if_neg hj]
def ZgU{l:List Page}{i m:Nat}(s:Int)(h:i+1+m<l.length):(Z0H l i m s).set (i+1+m) (Zb3 s (l.getD (i+1+m) X))=Z0H l i (m+1) s:=by
 refine Lq (by simp[Z0H]) λj h1 h2=>?_;have h:j<l.length:=by simpa[Z0H]using h2
 have e:l.getD j X=l[j]:=by simp[Lc,h]
 simp only[Z0H,Lr,Ls,Ly,e];by_cases hj:i+1+m=j
 .subst hj;rw[if_pos rfl,if_pos oq,e]
 .rw[if_neg hj];by_cases hk:i<=j/\j<=i+m
  .rw[if_pos hk,if_pos oq]
  .rw[if_neg hk,if_neg oq]
def Zge{l:List Page}{i m:Nat}(s:Int):(Z0H l i m s).getD (i+1+m) X=l.getD (i+1+m) X:=by
 by_cases h:i+1+m<l.length
 .rw[Z1h h,if_neg oq]
 .rw[Lc,Lc,Ln (by rw[Z1i];omega),Ln oq]
def fwdL(w:Work)(r x:Int)(m:Nat):Tg:=⟨tm 202 [(1,u64 r),(2,.pt 8002 0 0),(4,.pt 8004 0 0),(5,u64 0),(6,int 0),(14,int (x+1+m))],[(88094,.arr 86 4 ((Z0H w.heap.P x.toNat m (1-w.heap.S)).map Page.dv)),(8002,.box 138 [int w.heap.C.pw,int w.heap.C.pg,Z02 w.heap.W,.ow 88094,int w.heap.S,int w.heap.B,Z02 w.old,Z0x w.T,Z02 w.Q,int w.D,int w.rep.copied,int w.rep.kept,int w.rep.filled,int w.rep.freed,int w.rep.cleared,int w.rep.steps]),(8004,.box 138 zW)],60⟩
def Zld(w:Work)(r x:Int)(m:Nat)(hs:w.heap.S=0\/w.heap.S=1)(hl:w.heap.P.length<=1048576)(hx:0<=x)(hm:m<Z0z w.heap.P x.toNat):CP (rndF f137 0) (fwdL w r x m).st .nrm (fwdL w r x (m+1)).st:=by
 have ht:=Z7h hm;have ha:=Zge (l:=w.heap.P) (i:=x.toNat) (m:=m) (1-w.heap.S);have hn:=Z1i w.heap.P x.toNat m (1-w.heap.S);have hq:=ZgU (1-w.heap.S) ht.1;unfold Zb3 at hq;rw[<- ha]at hq ht;have eN:x.toNat+1+m=(x+1+(m:Int)).toNat:=by omega
 have eI:((x.toNat+1+m:Nat):Int)=x+1+(m:Int):=by omega
 rw[eN]at ha hq ht;let y1:=Z0H w.heap.P x.toNat m (1-w.heap.S);let y2:=x+1+(m:Int);let y0:=y1.getD y2.toNat X;let y3:=x+1+(m:Int)<(y1.length:Int);let y4:=Page.mk y0.K (1-w.heap.S) y0.U y0.N;exact sF [] (fP 13) (Fl 113 Page.dv (Z0H w.heap.P x.toNat m ((1:Int)-w.heap.S)) (FmGq 122 (decide y3) Page.dv y1 y2 (Ftb 124 (decide y3&&y0.K==3) (Fi 134 (1-w.heap.S) (Fm0q Page.dv y1 y2 (FS 10136 Page.dv y1 (y2.toNat) y4 (y0.dv) (Fi 126 (x+1+(m:Int)+1) (Fo (x+1+(m:Int)+1=x+1+(↑(m+1):Int)) (Fr (86:Int) (Fa (by refine congrArg _ ?_;exact hq:Y Page.dv (y1.set y2.toNat y4)=Y Page.dv (Z0H w.heap.P x.toNat (m+1) (1-w.heap.S))) Fz))))))))))
def Zpk(w:Work)(r x:Int)(hl:w.heap.P.length<=1048576)(hx:0<=x):CP (rndF f137 0) (fwdL w r x (Z0z w.heap.P x.toNat)).st (.ext 0) (Tg.st ⟨tm 202 [(1,u64 r),(2,.pt 8002 0 0),(4,.pt 8004 0 0),(5,u64 0),(6,int 0)],[(88094,.arr 86 4 ((Z0H w.heap.P x.toNat (Z0z w.heap.P x.toNat) (1-w.heap.S)).map Page.dv)),(8002,.box 138 [int w.heap.C.pw,int w.heap.C.pg,Z02 w.heap.W,.ow 88094,int w.heap.S,int w.heap.B,Z02 w.old,Z0x w.T,Z02 w.Q,int w.D,int w.rep.copied,int w.rep.kept,int w.rep.filled,int w.rep.freed,int w.rep.cleared,int w.rep.steps]),(8004,.box 138 zW)],60⟩):=by
 have ht:=λh=>ZfF (l:=w.heap.P) (i:=x.toNat) h;have ha:=Zge (l:=w.heap.P) (i:=x.toNat) (m:=Z0z w.heap.P x.toNat) (1-w.heap.S);have hn:=Z1i w.heap.P x.toNat (Z0z w.heap.P x.toNat) (1-w.heap.S)
 have eN:x.toNat+1+Z0z w.heap.P x.toNat=(x+1+(Z0z w.heap.P x.toNat:Int)).toNat:=by omega
 rw[<- ha,eN]at ht;exact sF [] [] (Fl 113 Page.dv (Z0H w.heap.P x.toNat (Z0z w.heap.P x.toNat) ((1:Int)-w.heap.S)) (FmGq 122 (Z (x+1+(↑(Z0z w.heap.P x.toNat):Int)<(↑(Z0H w.heap.P x.toNat (Z0z w.heap.P x.toNat) (1-w.heap.S)).length:Int))) Page.dv (Z0H w.heap.P x.toNat (Z0z w.heap.P x.toNat) (1-w.heap.S)) (x+1+(↑(Z0z w.heap.P x.toNat):Int)) (Ffb 124 (Z (x+1+(↑(Z0z w.heap.P x.toNat):Int)<(↑(Z0H w.heap.P x.toNat (Z0z w.heap.P x.toNat) (1-w.heap.S)).length:Int))&&((Z0H w.heap.P x.toNat (Z0z w.heap.P x.toNat) (1-w.heap.S)).getD (x+1+(↑(Z0z w.heap.P x.toNat):Int)).toNat X).K==3) Fz)))
section
variable (w:Work) (r:Int) (hw:WkOk w) (h0:0<=r/\r<=18446744073709551615) (c1:r≠0) (c2:r∉w.Q) (c3:r∈w.old) (c4:(Z0e (loadA w.heap.W r).1).2=M) (c5:(ofA w.heap.C r).2.2=0)
include hw h0 c1 c2 c3 c4 c5
theorem Ziq(c6:Z13 w (ofA w.heap.C r).1=L):GP 137 [w.av,u64 r] M (.tu [(w.keep r).av,u64 r,int 0]) []:=by
 have h1:=hw.mu;have h2:=hw.ol;have h3:=hw.wl;have h4:=Z0J hw.W r;have h11:=Z2n (loadA w.heap.W r).1 h4.1;have h5:=hw.pl;have h6:=validB_iff.1 hw.C;have h7:=hw.tl;have h8:=Z3I hw.C c5;have Q0 {h_ c_ p_} (r_:Fq h_ c_ p_):=FcG 29 (!r==0) (λhg=>by(try simp only[bs]at hg);exact @Z0X w.Q r oq) r_;rcases bb (r==0||Z (r∈w.Q))with hc0 | hc0<;>have hc0p:=hc0<;>simp only[bs]at hc0p
 .rw[show w.keep r=w from by grind[]];exact gF [] func137 [] (Q0 (Ft 30 hc0 Fz))
 .obtain⟨hc0pa,hc0pb⟩:=hc0p;let y0:=ofA w.heap.C r;exact gF [] func137 [] (Fh 73 [.br M] (Fh 77 [.call L (Sx.bool (Z13 w y0.1)) [],.br L] (Q0 (Ff 30 hc0 (Fc 36 (@Z0X w.old r oq) (Ffb 37 (!decide (r∈w.old)) (Fc 44 (@Z1N w.heap.W r oq aa) (Fc 49 (@Z33 ((loadA w.heap.W r).1) oq oq) (Fa ‹(Z0e (loadA w.heap.W r).1).2=M› (Fc 60 (@Z4K w.heap.C r oq oq) (FlG 71 (!y0.2.2 != 0) Page.dv w.heap.P (Ffb 52 (y0.2.2 != 0||Z ((w.heap.P.length:Int)<=y0.1)) (Fa (@Z1Z w (y0.1) oq oq) (Fa ‹Z13 w y0.1=L› (Fc 80 (@ZcQ w r aa) Fz)))))))))))))))
theorem ZhD(c6:Z13 w (ofA w.heap.C r).1=M)(c7:¬ (w.heap.P.getD (Z1q w r) X).K=2)(c8:(w.place (sizeH (hdW w r))).2.2=M):GP 137 [w.av,u64 r] M (.tu [noWork.av,u64 0,int 3]) []:=by
 have h1:=hw.mu;have h2:=hw.ol;have h3:=hw.wl;have h4:=Z0J hw.W r;have h11:=Z2n (loadA w.heap.W r).1 h4.1;have h5:=hw.pl;have h6:=validB_iff.1 hw.C;have h7:=hw.tl;have h8:=Z3I hw.C c5;have h9:=Z6z w r;unfold Z1q at c7;unfold hdW at h9 c8;have Q0 {h_ c_ p_} (r_:Fq h_ c_ p_):=FcG 29 (!r==0) (λhg=>by(try simp only[bs]at hg);exact @Z0X w.Q r oq) r_;rcases bb (r==0||Z (r∈w.Q))with hc0 | hc0<;>have hc0p:=hc0<;>simp only[bs]at hc0p
 .rw[show noWork=w from by grind[noWork,noHeap]];exact gF [] func137 (fO 4) (Q0 (Ft 30 hc0 (Fr w.heap.C.pw (Fr w.heap.C.pg (Fr (Y wdv w.heap.W) (Fr (Y Page.dv w.heap.P) (Fr w.heap.S (Fr w.heap.B (Fr (Y wdv w.old) (Fr (Y idv w.T) (Fr (Y wdv w.Q) (Fr w.D (Fr w.rep.copied (Fr w.rep.kept (Fr w.rep.filled (Fr w.rep.freed (Fr w.rep.cleared (Fr w.rep.steps (Fa (by grind[noWork,noHeap]:r=0) (Fa (by grind[noWork,noHeap]:(0:Int)=3) Fz))))))))))))))))))))
 .obtain⟨hc0pa,hc0pb⟩:=hc0p;let y0:=ofA w.heap.C r;let y1:=loadA w.heap.W r;exact gF [] func137 [] (Fh 77 [.call L (Sx.bool (Z13 w y0.1)) [],.br M] (Fh 89 [.br M] (Q0 (Ff 30 hc0 (Fc 36 (@Z0X w.old r oq) (Ffb 37 (!decide (r∈w.old)) (Fc 44 (@Z1N w.heap.W r oq aa) (Fc 49 (@Z33 (y1.1) oq oq) (Fa ‹(Z0e y1.1).2=M› (Fc 60 (@Z4K w.heap.C r oq oq) (FlG 71 (!y0.2.2 != 0) Page.dv w.heap.P (Ffb 52 (y0.2.2 != 0||Z ((w.heap.P.length:Int)<=y0.1)) (Fa (@Z1Z w (y0.1) oq oq) (Fa ‹Z13 w y0.1=M› (Fe 86 Page.dv w.heap.P (y0.1) (Ffb 73 ((w.heap.P.getD y0.1.toNat X).K==2) (Fc 143 (@Z2W (y1.1) oq oq) (Fc 147 (@Z2g ((decodeH y1.1).1) aa) (Fc 151 (@Zau w (sizeH (decodeH y1.1).1) aa aa) (Ftb 156 (!(w.place (sizeH (decodeH y1.1).1)).2.2) (Fnl (Fnl (Fnl (Fnl (Fnl Fz)))))))))))))))))))))))))
theorem Zjb(c6:Z13 w (ofA w.heap.C r).1=M)(c7:¬ (w.heap.P.getD (Z1q w r) X).K=2)(c8:(w.place (sizeH (hdW w r))).2.2=L):GP 137 [w.av,u64 r] M (.tu [((w.place (sizeH (hdW w r))).1.copy r (w.place (sizeH (hdW w r))).2.1 (sizeH (hdW w r))).av,u64 (w.place (sizeH (hdW w r))).2.1,int 0]) []:=by
 have h1:=hw.mu;have h2:=hw.ol;have h3:=hw.wl;have h4:=Z0J hw.W r;have h11:=Z2n (loadA w.heap.W r).1 h4.1;have h5:=hw.pl;have h6:=validB_iff.1 hw.C;have h7:=hw.tl;have h8:=Z3I hw.C c5;have h9:=Z6z w r;have h10:=hw.rk;obtain⟨i,p,t,d1,d2,d3,d4,d4',d5,d6,d7,d8,d9,e⟩:=Z6a hw h9.1 c8;have e1:=congrArg (λw=>w.heap.W) e;have e2:=congrArg (λw=>w.Q) e;have e3:=congrArg (λw=>w.rep) e;have e3c:=congrArg (λw=>w.rep.copied) e;simp only at e1 e2 e3 e3c;have l1:=Zga w.heap.W (w.place (sizeH (hdW w r))).2.1 r (sizeH (hdW w r));unfold Z1q at c7;unfold hdW at *;have Q0 {h_ c_ p_} (r_:Fq h_ c_ p_):=FcG 29 (!r==0) (λhg=>by(try simp only[bs]at hg);exact @Z0X w.Q r oq) r_;rcases bb (r==0||Z (r∈w.Q))with hc0 | hc0<;>have hc0p:=hc0<;>simp only[bs]at hc0p
 .rw[show(w.place (sizeH (decodeH (loadA w.heap.W r).1).1)).1.copy r (w.place (sizeH (decodeH (loadA w.heap.W r).1).1)).2.1 (sizeH (decodeH (loadA w.heap.W r).1).1)=w from by grind[Work.copy]];exact gF [] func137 (fO 4) (Q0 (Ft 30 hc0 (Fr w.heap.C.pw (Fr w.heap.C.pg (Fr (Y wdv w.heap.W) (Fr (Y Page.dv w.heap.P) (Fr w.heap.S (Fr w.heap.B (Fr (Y wdv w.old) (Fr (Y idv w.T) (Fr (Y wdv w.Q) (Fr w.D (Fr w.rep.copied (Fr w.rep.kept (Fr w.rep.filled (Fr w.rep.freed (Fr w.rep.cleared (Fr w.rep.steps (Fa (by grind[Work.copy]:r=(w.place (sizeH (decodeH (loadA w.heap.W r).1).1)).2.1) (Fr (0:Int) Fz))))))))))))))))))))
 .obtain⟨hc0pa,hc0pb⟩:=hc0p;let y1:=ofA w.heap.C r;let y2:=loadA w.heap.W r;let y0:=w.place (sizeH (decodeH y2.1).1);let y3:=sizeH (decodeH y2.1).1;exact gF [] func137 [] (Fh 77 [.call L (Sx.bool (Z13 w y1.1)) [],.br M] (Fh 156 [.br M] (Fh 192 [.els (Y wdv (y0.1.Q++[y0.2.1]))] (Q0 (Ff 30 hc0 (Fc 36 (@Z0X w.old r oq) (Ffb 37 (!decide (r∈w.old)) (Fc 44 (@Z1N w.heap.W r oq aa) (Fc 49 (@Z33 (y2.1) oq oq) (Fa ‹(Z0e y2.1).2=M› (Fc 60 (@Z4K w.heap.C r oq oq) (FlG 71 (!y1.2.2 != 0) Page.dv w.heap.P (Ffb 52 (y1.2.2 != 0||Z ((w.heap.P.length:Int)<=y1.1)) (Fa (@Z1Z w (y1.1) oq oq) (Fa ‹Z13 w y1.1=M› (Fe 86 Page.dv w.heap.P (y1.1) (Ffb 73 ((w.heap.P.getD y1.1.toNat X).K==2) (Fc 143 (@Z2W (y2.1) oq oq) (Fc 147 (@Z2g ((decodeH y2.1).1) aa) (Fc 151 (@Zau w y3 aa aa) (Ffb 89 (!y0.2.2) (Fc 165 (@Zli (y0.1.heap.W) (y0.2.1) r y3 (by grind[Work.copy]) oq aa) (Fc 172 (@ZeK (y0.2.1) oq oq) (Fc 181 (@Z8F ((moveA y0.1.heap.W y0.2.1 r y3).1) r (4*y0.2.1+2) (by grind[Work.copy]) aa) (FAx 186 189 wdv y0.1.Q (by grind[Work.copy]) (Fs 191 (Y wdv [y0.2.1]) (Fa (by grind[Work.copy]:(Y wdv y0.1.Q).length+(Y wdv [y0.2.1]).length<=2^30) (Fa (by simp[Work.copy,LB,Lz,LA,Lu,wdv,idv]:Y wdv y0.1.Q++Y wdv [y0.2.1]=Y wdv (y0.1.Q++[y0.2.1])) (Fi 197 (y0.1.rep.copied+1) Fz)))))))))))))))))))))))))))))
end
def Znt(w:Work)(r x:Int)(hs:w.heap.S=0\/w.heap.S=1)(hl:w.heap.P.length<=1048576)(hx:0<=x):CP (blkF f137 0) (Tg.st ⟨tm 202 [(1,u64 r),(2,.pt 8002 0 0),(4,.pt 8004 0 0),(5,u64 0),(6,int 0),(14,int (x+1))],[(88094,.arr 86 4 ((w.heap.P.set x.toNat ⟨(w.heap.P.getD x.toNat X).K,1-w.heap.S,(w.heap.P.getD x.toNat X).U,(w.heap.P.getD x.toNat X).N⟩).map Page.dv)),(8002,.box 138 [int w.heap.C.pw,int w.heap.C.pg,Z02 w.heap.W,.ow 88094,int w.heap.S,int w.heap.B,Z02 w.old,Z0x w.T,Z02 w.Q,int w.D,int w.rep.copied,int w.rep.kept,int w.rep.filled,int w.rep.freed,int w.rep.cleared,int w.rep.steps]),(8004,.box 138 zW)],60⟩) .nrm (Tg.st ⟨tm 202 [(1,u64 r),(2,.pt 8002 0 0),(4,.pt 8004 0 0),(5,u64 0),(6,int 0)],[(88094,.arr 86 4 ((Z0H w.heap.P x.toNat (Z0z w.heap.P x.toNat) (1-w.heap.S)).map Page.dv)),(8002,.box 138 [int w.heap.C.pw,int w.heap.C.pg,Z02 w.heap.W,.ow 88094,int w.heap.S,int w.heap.B,Z02 w.old,Z0x w.T,Z02 w.Q,int w.D,int w.rep.copied,int w.rep.kept,int w.rep.filled,int w.rep.freed,int w.rep.cleared,int w.rep.steps]),(8004,.box 138 zW)],60⟩):=by
 have h:=Z0b (S:=λk=>(fwdL w r x k).st) (Z0z w.heap.P x.toNat) kr (λk hk=>Zld w r x k hs hl hx hk) (Zpk w r x hl hx);have hz:=ZgY (l:=w.heap.P) (i:=x.toNat) (1-w.heap.S);simp only[fwdL,hz,Zb3,Int.natCast_zero,Int.add_zero]at h;exact h
section
variable (w:Work) (r:Int) (hw:WkOk w) (h0:0<=r/\r<=18446744073709551615) (c1:r≠0) (c2:r∉w.Q) (c3:r∈w.old) (c4:(Z0e (loadA w.heap.W r).1).2=M) (c5:(ofA w.heap.C r).2.2=0)
include hw h0 c1 c2 c3 c4 c5
theorem ZhS(c6:Z13 w (ofA w.heap.C r).1=M)(c7:(w.heap.P.getD (Z1q w r) X).K=2):GP 137 [w.av,u64 r] M (.tu [((w.flip (Z1q w r)).keep r).av,u64 r,int 0]) []:=by
 have h1:=hw.mu;have h2:=hw.ol;have h3:=hw.wl;have h4:=Z0J hw.W r;have h5:=hw.pl;have h6:=validB_iff.1 hw.C;have h7:=hw.tl;have h8:=Z3I hw.C c5;have h9:=hw.sp;have h10:=Zit hw (Z1q w r);have h12:(⟨⟨w.heap.C,w.heap.W,Z0H w.heap.P (ofA w.heap.C r).1.toNat (Z0z w.heap.P (ofA w.heap.C r).1.toNat) (1-w.heap.S),w.heap.S,w.heap.B⟩,w.old,w.T,w.Q,w.D,w.rep⟩:Work)=w.flip (Z1q w r):=rfl;unfold Z1q at c7;have Q0 {h_ c_ p_} (r_:Fq h_ c_ p_):=FcG 29 (!r==0) (λhg=>by(try simp only[bs]at hg);exact @Z0X w.Q r oq) r_;rcases bb (r==0||Z (r∈w.Q))with hc0 | hc0<;>have hc0p:=hc0<;>simp only[bs]at hc0p
 .rw[show(w.flip (Z1q w r)).keep r=w from by grind[]];exact gF [] func137 [] (Q0 (Ft 30 hc0 Fz))
 .obtain⟨hc0pa,hc0pb⟩:=hc0p;let y0:=ofA w.heap.C r;let y1:=Work.mk (Heap.mk w.heap.C w.heap.W (Z0H w.heap.P y0.1.toNat (Z0z w.heap.P y0.1.toNat) (1-w.heap.S)) w.heap.S w.heap.B) w.old w.T w.Q w.D w.rep;let y2:=w.heap.P.getD y0.1.toNat X;exact gF [] func137 [] (Fh 73 [.br M] (Fh 77 [.call L (Sx.bool (Z13 w y0.1)) [],.br M] (Fh 139 [.kill (y1.keep r).av] (Q0 (Ff 30 hc0 (Fc 36 (@Z0X w.old r oq) (Ffb 37 (!decide (r∈w.old)) (Fc 44 (@Z1N w.heap.W r oq aa) (Fc 49 (@Z33 ((loadA w.heap.W r).1) oq oq) (Fa ‹(Z0e (loadA w.heap.W r).1).2=M› (Fc 60 (@Z4K w.heap.C r oq oq) (FlG 71 (!y0.2.2 != 0) Page.dv w.heap.P (Ffb 52 (y0.2.2 != 0||Z ((w.heap.P.length:Int)<=y0.1)) (Fa (@Z1Z w (y0.1) oq oq) (Fa ‹Z13 w y0.1=M› (Fe 86 Page.dv w.heap.P (y0.1) (Ftb 89 (y2.K==2) (FA 90 94 Page.dv w.heap.P (Fi 104 (1-w.heap.S) (Fm0q Page.dv w.heap.P (y0.1) (FS 10106 Page.dv w.heap.P (y0.1.toNat) (Page.mk y2.K (1-w.heap.S) y2.U y2.N) (y2.dv) (Fi 108 (y0.1+1) (Fu (@Znt w r (y0.1) aa oq oq) (Fa (@ZcQ y1 r aa) Fz))))))))))))))))))))))))
end
def Z3S(w:Work)(r:Int)(hw:WkOk w)(h0:0<=r/\r<=18446744073709551615):GP 137 [w.av,u64 r] M (.tu [(w.fwd r).1.av,u64 (w.fwd r).2.1,int (w.fwd r).2.2]) []:=by
 unfold Work.fwd;by_cases c1:r=0\/r∈w.Q
 .rw[if_pos c1];exact ZjT w r hw h0 c1
 .rw[if_neg c1];have c1':r≠0:=λh=>c1 (Li h);have c2':r∉w.Q:=λh=>c1 (Lj h);by_cases c3:r∈w.old
  .rw[if_neg (by simpa using c3)];by_cases c4:(Z0e (loadA w.heap.W r).1).2=L
   .rw[if_pos c4];exact ZjR w r hw h0 c1' c2' c3 c4
   .rw[if_neg c4];have c4':(Z0e (loadA w.heap.W r).1).2=M:=by simpa using c4
    by_cases c5:(ofA w.heap.C r).2.2=0
    .rw[if_neg (by simpa using c5)];by_cases c6:Z13 w (ofA w.heap.C r).1=L
     .rw[if_pos c6];exact Ziq w r hw h0 c1' c2' c3 c4' c5 c6
     .rw[if_neg c6];have c6':Z13 w (ofA w.heap.C r).1=M:=by simpa using c6
      by_cases c7:(w.heap.P.getD (Z1q w r) X).K=2
      .rw[if_pos c7];exact ZhS w r hw h0 c1' c2' c3 c4' c5 c6' c7
      .rw[if_neg c7];by_cases c8:(w.place (sizeH (hdW w r))).2.2=M
       .rw[if_pos c8];exact ZhD w r hw h0 c1' c2' c3 c4' c5 c6' c7 c8
       .rw[if_neg c8];exact Zjb w r hw h0 c1' c2' c3 c4' c5 c6' c7 (by simpa using c8)
    .rw[if_pos c5];exact ZhI w r hw h0 c1' c2' c3 c4' c5
  .rw[if_pos c3];exact Zhr w r hw h0 c1' c2' c3
def rootsN(w:Work)(roots:List Int):Nat->Work×List Int
 | 0=>(w,[])
 | k+1=>(((rootsN w roots k).1.fwd (roots.getD k X)).1,(rootsN w roots k).2++[((rootsN w roots k).1.fwd (roots.getD k X)).2.1])
def Z1W(w:Work)(roots:List Int)(k:Nat):Int:=((rootsN w roots k).1.fwd (roots.getD k X)).2.2
def rootsF(w:Work)(roots:List Int):Work×List Int×Int:=match (Lb roots.length).find? (λk=>Z (Z1W w roots k≠0))with
 | none=>((rootsN w roots roots.length).1,(rootsN w roots roots.length).2,0)
 | some k=>(noWork,[],Z1W w roots k)
def rtsL(w:Work)(roots out:List Int)(i:Nat):Tg:=⟨tm 39 [(1,Z02 roots),(2,.pt 8002 0 0),(4,.pt 8004 0 0),(5,.d (.sl 0 [])),(6,int 0),(7,.ow 16007),(8,int i)],[(16007,.arr 35 1 (out.map wdv)),(8004,.box 138 zW),(8002,.box 138 w.cells)],60⟩
section
variable (w:Work) (roots out:List Int) (i:Nat) (hw:WkOk w) (hr:0<=roots.getD i X/\roots.getD i X<=18446744073709551615) (hl:roots.length<=1048576) (ho:out.length<=1048576) (hi:i<roots.length)
include hw hr hl ho hi
theorem Zg3(e:(w.fwd (roots.getD i X)).2.2=0):CP (rndF f83 0) (rtsL w roots out i).st .nrm (rtsL (w.fwd (roots.getD i X)).1 roots (out++[(w.fwd (roots.getD i X)).2.1]) (i+1)).st:=by
 let y0:=w.fwd (roots.getD i X);exact sF [(504036,16007)] [] (Fh 36 [.els (Y wdv (out++[y0.2.1]))] (FN 14 15 22 wdv roots i (Fc 24 (@Z3S w (roots.getD i X) aa aa) (Ffb 29 (y0.2.2 != 0) (Fs 35 (Y wdv [y0.2.1]) (Fa (by(simp[*];omega):(Y wdv out).length+(Y wdv [y0.2.1]).length<=2^30) (Fa (ms:Y wdv out++Y wdv [y0.2.1]=Y wdv (out++[y0.2.1])) (Fx 17 i Fz))))))))
theorem Zl8(e:¬ (w.fwd (roots.getD i X)).2.2=0):CP (rndF f83 0) (rtsL w roots out i).st .ret (Tg.st ⟨tm 39 [(4,.pt 8004 0 0),(5,.d (.sl 0 [])),(6,int (w.fwd (roots.getD i X)).2.2)],[(8004,.box 138 zW)],60⟩):=by
 exact sF [] [] (FN 14 15 22 wdv roots i (Fc 24 (@Z3S w (roots.getD i X) aa aa) (Ftb 29 ((w.fwd (roots.getD i X)).2.2 != 0) Fz)))
end
def ZoD(w:Work)(roots out:List Int):CP (rndF f83 0) (rtsL w roots out roots.length).st (.ext 0) (Tg.st ⟨tm 39 [(2,.pt 8002 0 0),(4,.pt 8004 0 0),(7,.ow 16007)],[(16007,.arr 35 1 (out.map wdv)),(8004,.box 138 zW),(8002,.box 138 w.cells)],60⟩):=by
 exact sF [] [] (FO 14 15 wdv roots Fz)
def Z2F(w:Work)(roots:List Int):∀ k,(rootsN w roots k).2.length=k
 | 0=>rfl
 | k+1=>by simp[rootsN,Z2F w roots k]
def Z3h{w:Work}{roots:List Int}(hw:WkOk w):∀ k,(∀ j,j<k->Z1W w roots j=0)->WkOk (rootsN w roots k).1/\(∀ x∈(rootsN w roots k).2,0<=x/\x<=4294967296)/\(rootsN w roots k).1.D=w.D
 | 0,_=>⟨hw,by simp[rootsN],rfl⟩
 | k+1,h=>by
  have ih:=Z3h hw k (λj hj=>h j oq);have hf:=fwd_ok ih.1 (roots.getD k X) (h k oq);refine⟨hf.1, ?_, ?_⟩
  .intro x hx;simp only[rootsN,Lh,Lo]at hx;rcases hx with hx | rfl
   .exact ih.2.1 x hx
   .exact⟨hf.2.1,hf.2.2.1⟩
  .show((rootsN w roots k).1.fwd (roots.getD k X)).1.D=w.D;rw[hf.2.2.2.2.1,ih.2.2]
section
variable (w:Work) (roots:List Int) (hw:WkOk w) (hr:ULe roots) (hl:roots.length<=1048575)
include hw hr hl
theorem ZmT(hb:(Lb roots.length).find? (λk=>Z (Z1W w roots k≠0))=none):CP (blkF f83 0) (Tg.st ⟨tm 39 [(1,Z02 roots),(2,.pt 8002 0 0),(4,.pt 8004 0 0),(5,.d (.sl 0 [])),(6,int 0),(7,.ow 16007),(8,int 0)],[(16007,.arr 35 1 []),(8004,.box 138 zW),(8002,.box 138 w.cells)],60⟩) .nrm (Tg.st ⟨tm 39 [(2,.pt 8002 0 0),(4,.pt 8004 0 0),(7,.ow 16007)],[(16007,.arr 35 1 ((rootsN w roots roots.length).2.map wdv)),(8004,.box 138 zW),(8002,.box 138 (rootsN w roots roots.length).1.cells)],60⟩):=by
 have h0:∀ j,j<roots.length->Z1W w roots j=0:=λj hj=>by
  have:=Lk.1 hb j (Lf.2 hj);simpa using this
 exact Z0b (S:=λk=>(rtsL (rootsN w roots k).1 roots (rootsN w roots k).2 k).st) roots.length kr (λk hk=>Zg3 _ roots _ k (Z3h hw k λj hj=>h0 j oq).1 (Z5w hr k) oq (by rw[Z2F];omega) hk (h0 k hk)) (ZoD _ roots _)
theorem Zls(i:Nat)(hb:(Lb roots.length).find? (λk=>Z (Z1W w roots k≠0))=some i):CP (blkF f83 0) (Tg.st ⟨tm 39 [(1,Z02 roots),(2,.pt 8002 0 0),(4,.pt 8004 0 0),(5,.d (.sl 0 [])),(6,int 0),(7,.ow 16007),(8,int 0)],[(16007,.arr 35 1 []),(8004,.box 138 zW),(8002,.box 138 w.cells)],60⟩) .ret (Tg.st ⟨tm 39 [(4,.pt 8004 0 0),(5,.d (.sl 0 [])),(6,int (Z1W w roots i))],[(8004,.box 138 zW)],60⟩):=by
 obtain⟨h1,h2,h3⟩:=Lm.1 hb;have h2:=Lf.1 h2;have h0:∀ j,j<i->Z1W w roots j=0:=λj hj=>by simpa using h3 j hj
 exact Z0y (S:=λk=>(rtsL (rootsN w roots k).1 roots (rootsN w roots k).2 k).st) i kr (λk hk=>Zg3 _ roots _ k (Z3h hw k λj hj=>h0 j oq).1 (Z5w hr k) oq (by rw[Z2F];omega) oq (h0 k hk)) (Zl8 _ roots _ i (Z3h hw i h0).1 (Z5w hr i) oq (by rw[Z2F];omega) h2 (of_decide_eq_true h1))
theorem Z5x:GP 83 [w.av,Z02 roots] M (.tu [(rootsF w roots).1.av,Z02 (rootsF w roots).2.1,int (rootsF w roots).2.2]) []:=by
 cases hb:(Lb roots.length).find? (λk=>Z (Z1W w roots k≠0))with
 | none =>
  have e7:rootsF w roots=((rootsN w roots roots.length).1,(rootsN w roots roots.length).2,0):=by rw[rootsF,hb]
  rw[e7];exact gF [] func83 [] (Fh 7 [.own] (Fu (@ZmT w roots aa aa aa aa) Fz))
 | some i =>
  have e7:rootsF w roots=(noWork,[],Z1W w roots i):=by rw[rootsF,hb]
  rw[e7];exact gF [] func83 [] (Fh 7 [.own] (Fu (@Zls w roots aa aa aa i aa) (Fnl (Fnl (Fnl (Fnl (Fnl (Fnl Fz))))))))
end
def Z0G(h:Header):Nat->List Int
 | 0=>[]
 | i+1=>if Z0c h (i:Int)=L then Z0G h i++[(i:Int)]else Z0G h i
def Z5B(h:Header):∀ i,(Z0G h i).length<=i
 | 0=>Lg _
 | i+1=>by
  have:=Z5B h i;simp only[Z0G];split<;>simp<;>omega
def Z01(h:Header):List Int:=if Z0d h=L then Z0G h h.length.toNat else []
def Zjj(h:Header)(i:Nat):Tg:=⟨tm 23 [(1,.pt 8001 0 0),(3,.ow 16003),(4,int i)],[(16003,.arr 3 1 ((Z0G h i).map idv)),(8001,.box 52 [int h.K,int h.length,u32 h.map])],60⟩
def ZjO(h:Header)(i:Nat)(hm:0<=h.map/\h.map<=4294967295)(hv:Z0d h=L)(hb:h.length<=255)(hi:i<h.length):CP (rndF f189 0) (Zjj h i).st .nrm (Zjj h (i+1)).st:=by
 have hn:=Z5B h i;by_cases hp:Z0c h (i:Int)=L
 .have e:Z0G h (i+1)=Z0G h i++[(i:Int)]:=by rw[Z0G,if_pos hp]
  exact sF [(496021,16003)] (fO 5) (Fh 17 [.call L (Sx.bool (Z0c h (i:Int))) [],.br L] (Fh 21 [.els (Y idv (Z0G h i++[(i:Int)]))] (FcG 11 (Z ((i:Int)<h.length)) (λhg=>by(try simp only[bs]at hg);exact @Z2l h aa) (Ft 12 (by simp[*]:(Z ((i:Int)<h.length)&&Z0d h)=L) (Fa (@Z2k h ((i:Int)) aa) (Fa ‹Z0c h (i:Int)=L› (Fs 20 (Y idv [(i:Int)]) (Fa (by(simp[*];omega):(Y idv (Z0G h i)).length+(Y idv [(i:Int)]).length<=2^30) (Fa (ms:Y idv (Z0G h i)++Y idv [(i:Int)]=Y idv (Z0G h i++[(i:Int)])) (Fx 14 i (Fr (3:Int) (Fa (by refine congrArg _ ?_;rw[e]:Y idv (Z0G h i++[(i:Int)])=Y idv (Z0G h (i+1))) Fz))))))))))))
 .have e:Z0G h (i+1)=Z0G h i:=by rw[Z0G,if_neg hp]
  have hp':Z0c h (i:Int)=M:=by simpa using hp
  exact sF [] (fO 5) (Fh 17 [.call L (Sx.bool (Z0c h (i:Int))) [],.br M] (FcG 11 (Z ((i:Int)<h.length)) (λhg=>by(try simp only[bs]at hg);exact @Z2l h aa) (Ft 12 (by simp[*]:(Z ((i:Int)<h.length)&&Z0d h)=L) (Fa (@Z2k h ((i:Int)) aa) (Fa ‹Z0c h (i:Int)=M› (Fx 14 i (Fr (3:Int) (Fa (by refine congrArg _ ?_;rw[e]:Y idv (Z0G h i)=Y idv (Z0G h (i+1))) Fz))))))))
def Zir(h:Header)(i:Nat)(hm:0<=h.map/\h.map<=4294967295)(hi:h.length<=i\/Z0d h=M):CP (rndF f189 0) (Zjj h i).st (.ext 0) (Tg.st ⟨tm 23 [(3,.ow 16003)],[(16003,.arr 3 1 ((Z0G h i).map idv))],60⟩):=by
 rcases hi with hi | hi
 .exact sF [] [] (FcG 11 (Z ((i:Int)<h.length)) (λhg=>by(try simp only[bs]at hg);exact @Z2l h aa) (Ffb 12 (Z ((i:Int)<h.length)&&Z0d h) Fz))
 .exact sF [] [] (FcG 11 (Z ((i:Int)<h.length)) (λhg=>by(try simp only[bs]at hg);exact @Z2l h aa) (Ff 12 (by simp[*]:(Z ((i:Int)<h.length)&&Z0d h)=M) Fz))
def Zl7(h:Header)(hm:0<=h.map/\h.map<=4294967295):CP (blkF f189 0) (Tg.st ⟨tm 23 [(1,.pt 8001 0 0),(3,.ow 16003),(4,int 0)],[(16003,.arr 3 1 []),(8001,.box 52 [int h.K,int h.length,u32 h.map])],60⟩) .nrm (Tg.st ⟨tm 23 [(3,.ow 16003)],[(16003,.arr 3 1 ((Z01 h).map idv))],60⟩):=by
 unfold Z01;by_cases hv:Z0d h=L
 .rw[if_pos hv];have hb:=validH_iff.1 hv;exact Z0b (S:=λi=>(Zjj h i).st) h.length.toNat kr (λi hi=>ZjO h i hm hv oq oq) (Zir h _ hm (.inl oq))
 .rw[if_neg hv];exact Z0b (S:=λi=>(Zjj h i).st) 0 kr (λi hi=>by omega) (Zir h 0 hm (.inr (by simpa using hv)))
def Z7F(h:Header)(hm:0<=h.map/\h.map<=4294967295):GP 189 [h.av] L (.d (.sl 1 ((Z01 h).map idv))) []:=by
 exact gF [] func189 [] (Fh 3 [.own] (Fu (@Zl7 h aa) (Fa (by exact Zgk _:Z1p (Y idv (Z01 h))) Fz)))
def Work.in1(w:Work)(a:Int):Work:=⟨⟨(w.fwd (loadA w.heap.W a).1).1.heap.C,(Z0B (w.fwd (loadA w.heap.W a).1).1.heap.W a (w.fwd (loadA w.heap.W a).1).2.1).1,(w.fwd (loadA w.heap.W a).1).1.heap.P,(w.fwd (loadA w.heap.W a).1).1.heap.S,(w.fwd (loadA w.heap.W a).1).1.heap.B⟩,(w.fwd (loadA w.heap.W a).1).1.old,(w.fwd (loadA w.heap.W a).1).1.T,(w.fwd (loadA w.heap.W a).1).1.Q,(w.fwd (loadA w.heap.W a).1).1.D,(w.fwd (loadA w.heap.W a).1).1.rep⟩
def innN(w:Work)(a:Int)(l:List Int):Nat->Work
 | 0=>w
 | k+1=>(innN w a l k).in1 (a+1+l.getD k X)
def innE(w:Work)(a:Int)(l:List Int)(k:Nat):Int:=((innN w a l k).fwd (loadA (innN w a l k).heap.W (a+1+l.getD k X)).1).2.2
def Z1G(w:Work):Int:=w.Q.getD w.D.toNat X
def Z0T(w:Work):List Int:=Z01 (hdW w (Z1G w))
def Z7H(w:Work)(n:Int):Work:=⟨w.heap,w.old,w.T,w.Q,w.D+1,⟨w.rep.copied,w.rep.kept,w.rep.filled,w.rep.freed,w.rep.cleared,w.rep.steps+1+n⟩⟩
def Z0r(w:Work):Work×Bool×Int :=
 if w.D<w.Q.length then
  match (Lb (Z0T w).length).find? (λk=>Z (innE w (Z1G w) (Z0T w) k≠0))with
  | none=>(Z7H (innN w (Z1G w) (Z0T w) (Z0T w).length) (Z0T w).length,L,0)
  | some k=>(noWork,M,innE w (Z1G w) (Z0T w) k)
 else(w,M,0)
def Zmx{w:Work}(hw:WkOk w)(a:Int)(e:(w.fwd (loadA w.heap.W a).1).2.2=0):WkOk (w.in1 a)/\w.Q.length<=(w.in1 a).Q.length/\(w.in1 a).D=w.D/\(w.in1 a).rep.steps=w.rep.steps:=by
 have hf:=fwd_ok hw _ e;have hl:=Zd4 (w.fwd (loadA w.heap.W a).1).1.heap.W a (w.fwd (loadA w.heap.W a).1).2.1;have hl2:=hf.1.wl;exact⟨hf.1.withWords (Z8C hf.1.W oq a) oq,hf.2.2.2.1,hf.2.2.2.2.1,hf.2.2.2.2.2⟩
def Z4q{w:Work}(hw:WkOk w)(a:Int)(l:List Int):∀ k,(∀ j,j<k->innE w a l j=0)->WkOk (innN w a l k)/\w.Q.length<=(innN w a l k).Q.length/\(innN w a l k).D=w.D/\(innN w a l k).rep.steps=w.rep.steps
 | 0,_=>⟨hw,Lg _,rfl,rfl⟩
 | k+1,h=>by
  have ih:=Z4q hw a l k (λj hj=>h j oq);have hi:=Zmx ih.1 (a+1+l.getD k X) (h k oq);exact⟨hi.1,Nat.le_trans ih.2.1 hi.2.1,hi.2.2.1.trans ih.2.2.1,hi.2.2.2.trans ih.2.2.2⟩
def Z1V(h:Header):∀ i,∀ x∈Z0G h i,0<=x/\x<i
 | 0,x,hx=>by simp[Z0G]at hx
 | i+1,x,hx=>by
  have ih:=Z1V h i;simp only[Z0G]at hx;split at hx
  .rcases Lh.1 hx with hx | hx
   .have:=ih x hx;omega
   .simp at hx;omega
  .have:=ih x hx;omega
def Z1P(h:Header):(Z01 h).length<=255/\∀ x∈Z01 h,0<=x/\x<=255:=by
 unfold Z01;split
 .rename_i hv;have:=validH_iff.1 hv;have hl:=Z5B h h.length.toNat
  exact⟨by omega,λx hx=>by have:=Z1V h _ x hx;omega⟩
 .simp
def Zgy(w:Work)(hw:WkOk w)(hs:¬ w.D<w.Q.length):GP 138 [w.av] M (.tu [w.av,bool M,int 0]) []:=by
 have h3:=hw.mu;exact gF [] func138 [] (Fl 18 wdv w.Q (Ftb 19 (Z ((w.Q.length:Int)<=w.D)) Fz))
def stpL(w:Work)(a:Int)(l:List Int)(k:Nat):Tg:=⟨tm 90 [(1,.pt 8001 0 0),(2,.pt 8002 0 0),(3,bool M),(4,int 0),(5,u64 a),(6,Z0x l),(7,int k)],[(8002,.box 138 zW),(8001,.box 138 w.cells)],60⟩
section
variable (w:Work) (a:Int) (l:List Int) (k:Nat) (hw:WkOk w) (ha:0<=a/\a<=16384) (hl:l.length<=255) (hr:0<=l.getD k X/\l.getD k X<=255) (hk:k<l.length)
include hw ha hl hr hk
theorem ZeT(e:(w.fwd (loadA w.heap.W (a+1+l.getD k X)).1).2.2=0):CP (rndF f138 0) (stpL w a l k).st .nrm (stpL (w.in1 (a+1+l.getD k X)) a l (k+1)).st:=by
 have h1:=hw.wl;have h2:=Z0J hw.W (a+1+l.getD k X);have h3:=fwd_ok hw _ e;have h4:=h3.1.wl;let y0:=a+1+l.getD k X;let y1:=w.fwd (loadA w.heap.W y0).1;exact sF [] [] (FM 33 34 idv l k (Fv 38 (a+1) (Fek 41 idv l (↑k) k (Fv 43 (l.getD k X) (Fv 44 y0 (Fc 50 (@Z1N w.heap.W y0 oq oq) (Fc 56 (@Z3S w ((loadA w.heap.W y0).1) aa aa) (Ffb 61 (y1.2.2 != 0) (Fc 71 (@Z8F (y1.1.heap.W) y0 (y1.2.1) oq oq) (Fx 36 k Fz))))))))))
theorem ZlP(e:¬ (w.fwd (loadA w.heap.W (a+1+l.getD k X)).1).2.2=0):CP (rndF f138 0) (stpL w a l k).st .ret (Tg.st ⟨tm 90 [(2,.pt 8002 0 0),(3,bool M),(4,int (w.fwd (loadA w.heap.W (a+1+l.getD k X)).1).2.2)],[(8002,.box 138 zW)],60⟩):=by
 have h1:=hw.wl;have h2:=Z0J hw.W (a+1+l.getD k X);let y0:=a+1+l.getD k X;exact sF [] [] (FM 33 34 idv l k (Fv 38 (a+1) (Fek 41 idv l (↑k) k (Fv 43 (l.getD k X) (Fv 44 y0 (Fc 50 (@Z1N w.heap.W y0 oq oq) (Fc 56 (@Z3S w ((loadA w.heap.W y0).1) aa aa) (Ftb 61 ((w.fwd (loadA w.heap.W y0).1).2.2 != 0) Fz))))))))
end
def Zoh(w:Work)(a:Int)(l:List Int):CP (rndF f138 0) (stpL w a l l.length).st (.ext 0) (Tg.st ⟨tm 90 [(1,.pt 8001 0 0),(2,.pt 8002 0 0),(6,Z0x l)],[(8002,.box 138 zW),(8001,.box 138 w.cells)],60⟩):=by
 exact sF [] [] (FO 33 34 idv l Fz)
section
variable (w:Work) (a:Int) (l:List Int) (hw:WkOk w) (ha:0<=a/\a<=16384) (hl:l.length<=255) (hr:∀ x∈l,0<=x/\x<=255)
include hw ha hl hr
theorem Zoa(hb:(Lb l.length).find? (λk=>Z (innE w a l k≠0))=none):CP (blkF f138 0) (Tg.st ⟨tm 90 [(1,.pt 8001 0 0),(2,.pt 8002 0 0),(3,bool M),(4,int 0),(5,u64 a),(6,Z0x l),(7,int 0)],[(8002,.box 138 zW),(8001,.box 138 w.cells)],60⟩) .nrm (Tg.st ⟨tm 90 [(1,.pt 8001 0 0),(2,.pt 8002 0 0),(6,Z0x l)],[(8002,.box 138 zW),(8001,.box 138 (innN w a l l.length).cells)],60⟩):=by
 have h0:∀ j,j<l.length->innE w a l j=0:=λj hj=>by
  have:=Lk.1 hb j (Lf.2 hj);simpa using this
 exact Z0b (S:=λk=>(stpL (innN w a l k) a l k).st) l.length kr (λk hk=>ZeT _ a l k (Z4q hw a l k λj hj=>h0 j oq).1 ha hl (hr _ (getD_mem_iff.2 ⟨k,hk,rfl⟩)) hk (h0 k hk)) (Zoh _ a l)
theorem ZlB(i:Nat)(hb:(Lb l.length).find? (λk=>Z (innE w a l k≠0))=some i):CP (blkF f138 0) (Tg.st ⟨tm 90 [(1,.pt 8001 0 0),(2,.pt 8002 0 0),(3,bool M),(4,int 0),(5,u64 a),(6,Z0x l),(7,int 0)],[(8002,.box 138 zW),(8001,.box 138 w.cells)],60⟩) .ret (Tg.st ⟨tm 90 [(2,.pt 8002 0 0),(3,bool M),(4,int (innE w a l i))],[(8002,.box 138 zW)],60⟩):=by
 obtain⟨h1,h2,h3⟩:=Lm.1 hb;have h2:=Lf.1 h2;have h0:∀ j,j<i->innE w a l j=0:=λj hj=>by simpa using h3 j hj
 exact Z0y (S:=λk=>(stpL (innN w a l k) a l k).st) i kr (λk hk=>ZeT _ a l k (Z4q hw a l k λj hj=>h0 j oq).1 ha hl (hr _ (getD_mem_iff.2 ⟨k,by omega,rfl⟩)) oq (h0 k hk)) (ZlP _ a l i (Z4q hw a l i h0).1 ha hl (hr _ (getD_mem_iff.2 ⟨i,h2,rfl⟩)) h2 (of_decide_eq_true h1))
end
def Z9s(w:Work)(hw:WkOk w):GP 138 [w.av] M (.tu [(Z0r w).1.av,bool (Z0r w).2.1,int (Z0r w).2.2]) []:=by
 by_cases hs:w.D<w.Q.length
 .have h2:=hw.sc;have h1:=hw.q _ (getD_mem_iff.2 ⟨w.D.toNat,by omega,rfl⟩);have h3:=hw.mu;have h4:=Z2n (loadA w.heap.W (w.Q.getD w.D.toNat X)).1 (Z0J hw.W _).1;have h5:hdW w (w.Q.getD w.D.toNat X)=(decodeH (loadA w.heap.W (w.Q.getD w.D.toNat X)).1).1:=rfl;have h6:=Z1P (hdW w (w.Q.getD w.D.toNat X));rw[<- h5]at h4;unfold Z0r;rw[if_pos hs];cases hb:(Lb (Z0T w).length).find? (λk=>Z (innE w (Z1G w) (Z0T w) k≠0))with
  | none =>
   have h0:∀ j,j<(Z0T w).length->innE w (Z1G w) (Z0T w) j=0:=λj hj=>by
    have:=Lk.1 hb j (Lf.2 hj);simpa using this
   have k1:=Z4q hw (Z1G w) (Z0T w) (Z0T w).length h0;have k2:=k1.1.rs;have k3:=k1.1.sc;have k4:=k1.1.mu;unfold Z0T Z1G at *;let y0:=w.Q.getD w.D.toNat X;let y1:=Z01 (hdW w y0);let y2:=innN w y0 y1 y1.length;exact gF [] func138 [] (Fl 18 wdv w.Q (Ffb 19 (Z ((w.Q.length:Int)<=w.D)) (Fe 25 wdv w.Q w.D (Fc 29 (@Zf8 w y0 aa oq) (Fc 30 (@Z7F (hdW w y0) aa) (Fu (@Zoa w y0 y1 aa aa oq (by grind[Z7H]) aa) (Fi 78 (y2.D+1) (Fi 83 (y2.rep.steps+1) (Fl 85 idv y1 (Fi 86 (y2.rep.steps+1+(y1.length:Int)) Fz))))))))))
  | some k =>
   unfold Z0T Z1G at *;let y3:=w.Q.getD w.D.toNat X;exact gF [] func138 [] (Fl 18 wdv w.Q (Ffb 19 (Z ((w.Q.length:Int)<=w.D)) (Fe 25 wdv w.Q w.D (Fc 29 (@Zf8 w y3 aa oq) (Fc 30 (@Z7F (hdW w y3) aa) (Fu (@ZlB w y3 (Z01 (hdW w y3)) aa aa oq (by grind[noWork,noHeap]) k aa) (Fnl (Fnl (Fnl (Fnl (Fnl Fz)))))))))))
 .have e:Z0r w=(w,M,0):=by rw[Z0r,if_neg hs]
  rw[e];exact Zgy w hw hs
def Z7Y{w:Work}(hw:WkOk w)(e:(Z0r w).2.2=0):WkOk (Z0r w).1/\((Z0r w).2.1=L->(Z0r w).1.D=w.D+1):=by
 by_cases hs:w.D<w.Q.length
 .unfold Z0r at e ⊢;rw[if_pos hs]at e ⊢;cases hb:(Lb (Z0T w).length).find? (λk=>Z (innE w (Z1G w) (Z0T w) k≠0))with
  | none =>
   have h0:∀ j,j<(Z0T w).length->innE w (Z1G w) (Z0T w) j=0:=λj hj=>by
    have:=Lk.1 hb j (Lf.2 hj);simpa using this
   have k1:=Z4q hw (Z1G w) (Z0T w) (Z0T w).length h0;have k2:=k1.1.rs;have k3:=k1.1.sc;have k5:=(Z1P (hdW w (Z1G w))).1;have k6:=hw.sc;simp only;refine⟨⟨k1.1.W,k1.1.wl,k1.1.C,k1.1.pl,k1.1.sp,k1.1.ol,k1.1.o,k1.1.tk,k1.1.tl,k1.1.q,k1.1.us,k1.1.mu, ?_,k1.1.rk, ?_,k1.1.r0⟩, ?_⟩
   .simp only[Z7H];omega
   .simp only[Z7H];unfold Z0T at *;omega
   .intro _;simp only[Z7H];omega
  | some k =>
   simp only[hb]at e;have:=(Lm.1 hb).1;simp[e]at this
 .have e:Z0r w=(w,M,0):=by rw[Z0r,if_neg hs]
  rw[e];exact⟨hw,λh=>by cases h⟩
end Go.Proofs.YtgedmeaemofdkaaGreat
