/-
 The statement CollectRoom: part 9.
 Conditions: none.
-/
import Derived.Test.YtgedmeaemofdkaaGreatU8
set_option maxRecDepth 100000
set_option maxHeartbeats 2000000
set_option linter.all false
open Inhabited renaming default->X
open List renaming map->Y,take->O,drop->La,range->Lb,getD_eq_getElem?_getD->Lc,length_append->Ld,length_singleton->Le,mem_range->Lf,mem_append->Lh,find?_eq_none->Lk,length_map->Ll,find?_range_eq_some->Lm,getElem?_eq_none->Ln,mem_singleton->Lo,ext_getElem->Lq,getElem_map->Lr,getElem_range->Ls,length_set->Lt,map_append->Lu,takeWhile_cons->Lv,getElem_set->Ly,map_drop->Lz,map_set->LA,map_take->LB,mem_of_mem_drop->LC,mem_of_mem_take->LD,replicate->LF,set_set->LG
open Decidable renaming decide->Z,not_not->Lp
open Bool renaming false->M,true->L
open Nat renaming le_refl->Lg
open Or renaming inl->Li,inr->Lj
open Int renaming tdiv_eq_ediv_of_nonneg->Lw,toNat->Lx
open Go.Proofs.Tryz
namespace Go.Proofs.YtgedmeaemofdkaaGreat
open Go.Sx
def Bd(l:List Z0):Nat->Nat|0=>0|i+1=>Bd l i+(if(l.getD i X).K=1/\0<(l.getD i X).N then 1 else 0)
def Nl l:∀i,Bd l i<=i
 |0=>Lg _
 |i+1=>by
  have:=Nl l i;simp only[Bd];split<;>omega
def crowd(l:List Z0):Nat:=Bd l l.length
def OU(h:Heap)(i:Nat):Tg:=⟨tm 31 [(1,.pt 8001 0 0),(3,int (Bd h.P i)),(4,int i)],[(8001,.box 28 h.cells)],60⟩
def Zka(h:Heap)(hl:h.P.length<=1048576)(i:Nat)(hi:i<h.P.length):CP (Zo f155 0) (OU h i).st .nrm (OU h (i+1)).st:=by have hc:=Nl h.P i;have d {h_ c_ p_} (e:Fq h_ c_ p_):=FN 8 9 15 Z0.dv h.P i (FeG 23 ((h.P.getD i X).K==1) Z0.dv h.P (↑i) i e);rcases bb ((h.P.getD i X).K==1&&Z (0<(h.P.getD i X).N))with hc0|hc0<;>have a:=hc0<;>simp only[bs]at a;obtain⟨b,c⟩:=a;exact sF [] (fO 8) (d (Ft 27 hc0 (Fw 29 ((↑(Bd h.P i):Int)+1) (↑(Bd h.P i+1):Int) (Fx 11 i (Fa (by(simp only[Bd] ;exact sj):(↑(Bd h.P i+1):Int)=(↑(Bd h.P (i+1)):Int)) Fz)))));exact sF [] (fO 8) (d (Ff 27 hc0 (Fx 11 i (Fa (by(simp only[Bd] ;exact sj):(↑(Bd h.P i):Int)=(↑(Bd h.P (i+1)):Int)) Fz))))
def ZdK(h:Heap):CP (Zo f155 0) (OU h h.P.length).st (.ext 0) (Tg.st ⟨tm 31 [(3,int (crowd h.P))],[],60⟩):=by exact sF [] [] (FO 8 9 Z0.dv h.P Fz)
def ZeL(h:Heap)(hl:h.P.length<=1048576)  := Bw (S:=λi=>(OU h i).st) h.P.length (by kernel_rfl) (λi a=>Zka h hl i a) (ZdK h)
def Z1G(h:Heap)(hl:h.P.length<=1048576):GP 155 [h.av] L (int (crowd h.P)) []:=by exact gF [] func155 [] (Fu (@ZeL h aa) Fz)
def OT(w:Zj)(t:Tape):Int:=t.next (w.G.length:Int)
def Zj.drop(w:Zj)(t:Tape):Zj:=
 if 0<w.G.length then⟨w.heap,w.G.take (OT w t).toNat++w.G.drop ((OT w t).toNat+1),if(t.step (w.G.length:Int)).next 3=0 then w.E++[w.G.getD (OT w t).toNat X]else w.E⟩else w
def Zj.dropT(w:Zj)(t:Tape):Tape:=if 0<w.G.length then(t.step (w.G.length:Int)).step 3 else t
def Z9d w t(c:SA w)(d:Et t)(ha:t.at'<=1040000):LP 105 [w.av,.pt 0 0 0] [t.b] (w.drop t).av [(w.dropT t).b]:=by
 have h1:=c.sl;have h2:=c.wl;have s1:=Nt (t:=t) (w.G.length:Int);have k1:=Nj d s1.2.2 oq oq;have n1:=λh=>Gx t (n:=(w.G.length:Int)) h;by_cases c1:0<w.G.length
 .have b:w.dropT t=(t.step (w.G.length:Int)).step 3:=by rw[Zj.dropT,if_pos c1]
  by_cases c2:(t.step (w.G.length:Int)).next 3=0
  have a:w.drop t=⟨w.heap,w.G.take (t.next (w.G.length:Int)).toNat++w.G.drop ((t.next (w.G.length:Int)).toNat+1),w.E++[w.G.getD (t.next (w.G.length:Int)).toNat X]⟩:=by rw[Zj.drop,if_pos c1,if_pos c2];rfl
  rw[a,b];exact lF func105 [L] (Fh 28 [.els (Y wdv (w.E++[w.G.getD (t.next (w.G.length:Int)).toNat X]))] (Fh 35 [.els (Y wdv (O (t.next (w.G.length:Int)).toNat w.G))] (Fh 40 [.els (Y wdv (La (t.next (w.G.length:Int)+1).toNat w.G))] (Fh 41 [.els (Y wdv (O (t.next (w.G.length:Int)).toNat w.G++La (t.next (w.G.length:Int)+1).toNat w.G))] (Fl 9 wdv w.G (Ftb 11 (Z (0<(w.G.length:Int))) (Fp 14 (@E0 t ((w.G.length:Int)) aa oq oq) (Fp 16 (@E0 (t.step (w.G.length:Int)) (3) aa oq oq) (Ftb 17 ((t.step (w.G.length:Int)).next (3:Int)==0) (FA 18 21 wdv w.E (Fe 25 wdv w.G (t.next (w.G.length:Int)) (Fs 27 (Y wdv [w.G.getD (t.next (w.G.length:Int)).toNat X]) (Fa (by(simp[*];omega):(Y wdv w.E).length+(Y wdv [w.G.getD (t.next (w.G.length:Int)).toNat X]).length<=2^30) (Fa (ms:Y wdv w.E++Y wdv [w.G.getD (t.next (w.G.length:Int)).toNat X]=Y wdv (w.E++[w.G.getD (t.next (w.G.length:Int)).toNat X])) (Fs 30 (Y wdv []) (Fa (by(simp only[Ll];omega):0<=t.next (w.G.length:Int)/\t.next (w.G.length:Int)<=(↑(Y wdv w.G).length:Int)) (Fa (ms:O (t.next (w.G.length:Int)).toNat (Y wdv w.G)=Y wdv (O (t.next (w.G.length:Int)).toNat w.G)) (Fa (by(simp[*];omega):(Y wdv []).length+(Y wdv (O (t.next (w.G.length:Int)).toNat w.G)).length<=2^30) (Fs 34 (Y wdv (O (t.next (w.G.length:Int)).toNat w.G)) (Fi 39 (t.next (w.G.length:Int)+1) (Fa (by(simp only[Ll];omega):0<=t.next (w.G.length:Int)+1/\t.next (w.G.length:Int)+1<=(↑(Y wdv w.G).length:Int)) (Fa (ms:La (t.next (w.G.length:Int)+1).toNat (Y wdv w.G)=Y wdv (La (t.next (w.G.length:Int)+1).toNat w.G)) (Fa (by(simp[*];omega):(Y wdv (O (t.next (w.G.length:Int)).toNat w.G)).length+(Y wdv (La (t.next (w.G.length:Int)+1).toNat w.G)).length<=2^30) (Fa (ms:Y wdv (O (t.next (w.G.length:Int)).toNat w.G)++Y wdv (La (t.next (w.G.length:Int)+1).toNat w.G)=Y wdv (O (t.next (w.G.length:Int)).toNat w.G++La (t.next (w.G.length:Int)+1).toNat w.G)) (Fr w.heap.C.pw (Fr w.heap.C.pg (Fr (Y wdv w.heap.W) (Fr (Y Z0.dv w.heap.P) (Fr w.heap.S (Fr w.heap.B (Fa (by refine congrArg _ ?_;(simp[*];omega):Y wdv (O (t.next (w.G.length:Int)).toNat w.G++La (t.next (w.G.length:Int)+1).toNat w.G)=Y wdv (Zj.mk w.heap (O (t.next (w.G.length:Int)).toNat w.G++La ((t.next (w.G.length:Int)).toNat+1) w.G) (w.E++[w.G.getD (t.next (w.G.length:Int)).toNat X])).G) (Fr (Y wdv (w.E++[w.G.getD (t.next (w.G.length:Int)).toNat X])) Fz))))))))))))))))))))))))))))))));have a:w.drop t=⟨w.heap,w.G.take (t.next (w.G.length:Int)).toNat++w.G.drop ((t.next (w.G.length:Int)).toNat+1),w.E⟩:=by rw[Zj.drop,if_pos c1,if_neg c2];rfl
  rw[a,b];exact lF func105 [L] (Fh 35 [.els (Y wdv (O (t.next (w.G.length:Int)).toNat w.G))] (Fh 40 [.els (Y wdv (La (t.next (w.G.length:Int)+1).toNat w.G))] (Fh 41 [.els (Y wdv (O (t.next (w.G.length:Int)).toNat w.G++La (t.next (w.G.length:Int)+1).toNat w.G))] (Fl 9 wdv w.G (Ftb 11 (Z (0<(w.G.length:Int))) (Fp 14 (@E0 t ((w.G.length:Int)) aa oq oq) (Fp 16 (@E0 (t.step (w.G.length:Int)) (3) aa oq oq) (Ffb 17 ((t.step (w.G.length:Int)).next (3:Int)==0) (Fs 30 (Y wdv []) (Fa (by(simp only[Ll];omega):0<=t.next (w.G.length:Int)/\t.next (w.G.length:Int)<=(↑(Y wdv w.G).length:Int)) (Fa (ms:O (t.next (w.G.length:Int)).toNat (Y wdv w.G)=Y wdv (O (t.next (w.G.length:Int)).toNat w.G)) (Fa (by(simp[*];omega):(Y wdv []).length+(Y wdv (O (t.next (w.G.length:Int)).toNat w.G)).length<=2^30) (Fs 34 (Y wdv (O (t.next (w.G.length:Int)).toNat w.G)) (Fi 39 (t.next (w.G.length:Int)+1) (Fa (by(simp only[Ll];omega):0<=t.next (w.G.length:Int)+1/\t.next (w.G.length:Int)+1<=(↑(Y wdv w.G).length:Int)) (Fa (ms:La (t.next (w.G.length:Int)+1).toNat (Y wdv w.G)=Y wdv (La (t.next (w.G.length:Int)+1).toNat w.G)) (Fa (by(simp[*];omega):(Y wdv (O (t.next (w.G.length:Int)).toNat w.G)).length+(Y wdv (La (t.next (w.G.length:Int)+1).toNat w.G)).length<=2^30) (Fa (ms:Y wdv (O (t.next (w.G.length:Int)).toNat w.G)++Y wdv (La (t.next (w.G.length:Int)+1).toNat w.G)=Y wdv (O (t.next (w.G.length:Int)).toNat w.G++La (t.next (w.G.length:Int)+1).toNat w.G)) (Fr w.heap.C.pw (Fr w.heap.C.pg (Fr (Y wdv w.heap.W) (Fr (Y Z0.dv w.heap.P) (Fr w.heap.S (Fr w.heap.B (Fa (by refine congrArg _ ?_;(simp[*];omega):Y wdv (O (t.next (w.G.length:Int)).toNat w.G++La (t.next (w.G.length:Int)+1).toNat w.G)=Y wdv (Zj.mk w.heap (O (t.next (w.G.length:Int)).toNat w.G++La ((t.next (w.G.length:Int)).toNat+1) w.G) w.E).G) (Fr (Y wdv w.E) Fz))))))))))))))))))))))))))
 have a:w.drop t=w:=by rw[Zj.drop,if_neg c1]
 have b:w.dropT t=t:=by rw[Zj.dropT,if_neg c1]
 rw[a,b];exact lF func105 [] (Fl 9 wdv w.G (Ffb 11 (Z (0<(w.G.length:Int))) Fz))
def NF(h:Heap)(i:Nat):Tg:=⟨tm 65 [(1,.pt 8001 0 0),(2,.pt 8002 0 0),(6,int (Bd h.P i)),(7,int i)],[(8002,.box 148 [int 0,int 0,u64 0]),(8001,.box 28 h.cells)],64⟩
def ZkB(h:Heap)(i:Nat)(c:Z8 h=L)(hi:i<h.P.length):CP (Zo f89 2) (NF h i).st .nrm (NF h (i+1)).st:=by
 have po:=B1 c;have:=Nl h.P i;by_cases a:(h.P.getD i X).K=1;by_cases b:0<(h.P.getD i X).N;have e:Bd h.P (i+1)=Bd h.P i+1:=by rw[Bd,if_pos ⟨a,b⟩]
 rw[NF,NF,e];exact sF [] [] (FN 35 36 42 Z0.dv h.P i (FeG 50 ((h.P.getD i X).K==1) Z0.dv h.P (↑i) i (Ftb 54 ((h.P.getD i X).K==1&&Z (0<(h.P.getD i X).N)) (Fw 56 ((↑(Bd h.P i):Int)+1) (↑(Bd h.P i+1):Int) (Fx 38 i Fz)))));have e:Bd h.P (i+1)=Bd h.P i:=by rw[Bd,if_neg (λq=>b q.2)];rfl
 rw[NF,NF,e];exact sF [] [] (FN 35 36 42 Z0.dv h.P i (FeG 50 ((h.P.getD i X).K==1) Z0.dv h.P (↑i) i (Ffb 54 ((h.P.getD i X).K==1&&Z (0<(h.P.getD i X).N)) (Fx 38 i Fz))));have e:Bd h.P (i+1)=Bd h.P i:=by rw[Bd,if_neg (λq=>a q.1)];rfl
 rw[NF,NF,e];exact sF [] [] (FN 35 36 42 Z0.dv h.P i (FeG 50 ((h.P.getD i X).K==1) Z0.dv h.P (↑i) i (Ffb 54 ((h.P.getD i X).K==1&&Z (0<(h.P.getD i X).N)) (Fx 38 i Fz))))
def Zb9(h:Heap)(a:Z8 h=L):CP (Zo f89 2) (NF h h.P.length).st (.ext 2) (Tg.st ⟨tm 65 [(1,.pt 8001 0 0),(2,.pt 8002 0 0),(6,int (Bd h.P h.P.length))],[(8002,.box 148 [int 0,int 0,u64 0]),(8001,.box 28 h.cells)],64⟩):=by have po:=B1 a;exact sF [] [] (FO 35 36 Z0.dv h.P Fz)
def Z7T(h:Heap)(a:Z8 h=L)  := Bw (S:=λk=>(NF h k).st) h.P.length (by kernel_rfl) (λk b=>ZkB h k a b) (Zb9 h a)
def Zbf(h:Heap)(hw:Zx h.W)(a:Z8 h=L)(hb:Gu h=none)(hq:(ED h (Zg h).1).fault=0)(hc:h.C.pg/4<(Bd h.P h.P.length:Nat)):GP 89 [h.av] L (Ci.mk 7 0 0).av []:=by have po:=B1 a;have:=Nl h.P h.P.length;exact gF [] func89 [] (Fc 9 (@CL h) (Ffb 10 (!Z8 h) (Fu (@Z2v h aa aa aa) (Fc 27 (@Z2M h aa) (Ffb 30 ((ED h (Zg h).1).fault != 0) (Fu (@Z7T h aa) (Fg 61 (by rw[Lw oq,CY oq oq]:IntKind.i64.wrap (h.C.pg.tdiv 4)=h.C.pg/4) (Fa (by decide:(4:Int)≠0) (Ftb 62 (Z (h.C.pg/4<(↑(Bd h.P h.P.length):Int))) Fz)))))))))
def Za2(h:Heap)(hw:Zx h.W)(a:Z8 h=L)(hb:Gu h=none)(hq:(ED h (Zg h).1).fault=0)(hc:¬ h.C.pg/4<(Bd h.P h.P.length:Nat)):GP 89 [h.av] L (Ci.mk 0 0 0).av []:=by have po:=B1 a;have:=Nl h.P h.P.length;exact gF [] func89 [] (Fc 9 (@CL h) (Ffb 10 (!Z8 h) (Fu (@Z2v h aa aa aa) (Fc 27 (@Z2M h aa) (Ffb 30 ((ED h (Zg h).1).fault != 0) (Fu (@Z7T h aa) (Fg 61 (by rw[Lw oq,CY oq oq]:IntKind.i64.wrap (h.C.pg.tdiv 4)=h.C.pg/4) (Fa (by decide:(4:Int)≠0) (Ffb 62 (Z (h.C.pg/4<(↑(Bd h.P h.P.length):Int))) Fz)))))))))
def Bh(h:Heap):Ci:=
 if Z8 h=L then
  match Gu h with
  |some i=>pageF h i
  |none =>
   if(ED h (Zg h).1).fault≠0 then ED h (Zg h).1
   else if h.C.pg/4<(Bd h.P h.P.length:Nat)then⟨7,0,0⟩else⟨0,0,0⟩
 else⟨1,0,0⟩
def Px(h:Heap)(c:Zx h.W):GP 89 [h.av] L (Bh h).av []:=by
 unfold Bh;by_cases a:Z8 h=L;rw[if_pos a];cases hb:Gu h with|some i=>exact ZhK h c a i hb|none =>by_cases b:(ED h (Zg h).1).fault=0;simp only[b,ne_eq,not_true_eq_false,if_false];by_cases d:h.C.pg/4<(Bd h.P h.P.length:Nat);rw[if_pos d];exact Zbf h c a hb b d;rw[if_neg d];exact Za2 h c a hb b d;simp only[ne_eq,b,not_false_eq_true,if_true];exact ZeV h c a hb b
 rw[if_neg a];exact Zfl h c (by simpa using a)
def PP(h:Heap)(hw:Zx h.W):GP 41 [h.av] L (bool (Z (Bh h=⟨0,0,0⟩))) []:=by
 by_cases a:(Bh h).fault=0;by_cases b:(Bh h).page=0;by_cases c:(Bh h).addr=0;have e:Z (Bh h=⟨0,0,0⟩)=L:=by(apply decide_eq_true;revert a b c;cases Bh h;simp+contextual)
 rw[e];exact gF [] func41 [L] (Fc 4 (@Px h aa) (Fb (((Bh h).fault==0&&((Bh h).page==0&&(Bh h).addr==0))=L) Fz));have e:Z (Bh h=⟨0,0,0⟩)=M:=decide_eq_false (λq=>c (by rw[q]));rw[e];exact gF [] func41 [L] (Fc 4 (@Px h aa) (Fb (((Bh h).fault==0&&((Bh h).page==0&&(Bh h).addr==0))=M) Fz));have e:Z (Bh h=⟨0,0,0⟩)=M:=decide_eq_false (λq=>b (by rw[q]));rw[e];exact gF [] func41 [L] (Fc 4 (@Px h aa) (Fb (((Bh h).fault==0&&((Bh h).page==0&&(Bh h).addr==0))=M) Fz));have e:Z (Bh h=⟨0,0,0⟩)=M:=decide_eq_false (λq=>a (by rw[q]));rw[e];exact gF [] func41 [L] (Fc 4 (@Px h aa) (Fb (((Bh h).fault==0&&((Bh h).page==0&&(Bh h).addr==0))=M) Fz))
def Z75(h:Heap) refs(hw:Zx h.W)(hg:Bh h≠⟨0,0,0⟩):GP 42 [h.av,Z3 refs] L (bool M) []:=by exact gF [] func42 [] (Fc 9 (@PP h aa) (Ftb 10 (!decide (Bh h=Ci.mk 0 0 0)) Fz))
def M0(refs a:List Int)(i:Nat):Tg:=⟨tm 36 [(1,Z3 refs),(4,bool M),(5,Z3 a),(7,int i)],[],60⟩
def Z5t(refs a:List Int)(i:Nat)(hl:refs.length<=1048576)(ha:a.length<=1048576)(hi:i<refs.length)(c:refs.getD i X=0\/refs.getD i X∈a):CP (Zo f42 0) (M0 refs a i).st .nrm (M0 refs a (i+1)).st:=by rcases c with c|c;exact sF [] [] (FN 18 19 24 wdv refs i (FeG 31 (refs.getD i X != 0) wdv refs (↑i) i (FcG 33 (refs.getD i X != 0) (λb=>by(try simp only[bs]at b);exact@Ec a (refs.getD i X) aa) (Ffb 35 (refs.getD i X != 0&&!decide (refs.getD i X∈a)) (Fx 21 i Fz)))));by_cases h0:refs.getD i X=0;exact sF [] [] (FN 18 19 24 wdv refs i (FeG 31 (refs.getD i X != 0) wdv refs (↑i) i (FcG 33 (refs.getD i X != 0) (λb=>by(try simp only[bs]at b);exact@Ec a (refs.getD i X) aa) (Ffb 35 (refs.getD i X != 0&&!decide (refs.getD i X∈a)) (Fx 21 i Fz)))));exact sF [] [] (FN 18 19 24 wdv refs i (FeG 31 (refs.getD i X != 0) wdv refs (↑i) i (FcG 33 (refs.getD i X != 0) (λb=>by(try simp only[bs]at b);exact@Ec a (refs.getD i X) aa) (Ffs 35 (refs.getD i X != 0&&!decide (refs.getD i X∈a)) (Fx 21 i Fz)))))
def Zi0(refs a:List Int)(i:Nat)(hl:refs.length<=1048576)(ha:a.length<=1048576)(hi:i<refs.length)(h0:refs.getD i X≠0)(hb:refs.getD i X∉a):CP (Zo f42 0) (M0 refs a i).st .ret (Tg.st ⟨tm 36 [(4,bool M)],[],60⟩):=by exact sF [] [] (FN 18 19 24 wdv refs i (FeG 31 (refs.getD i X != 0) wdv refs (↑i) i (FcG 33 (refs.getD i X != 0) (λb=>by(try simp only[bs]at b);exact@Ec a (refs.getD i X) aa) (Fts 35 (refs.getD i X != 0&&!decide (refs.getD i X∈a)) Fz))))
def ZjT refs a:CP (Zo f42 0) (M0 refs a refs.length).st (.ext 0) (Tg.st ⟨tm 36 [(4,bool M)],[],60⟩):=by exact sF [] [] (FO 18 19 wdv refs Fz)
def Ih(refs a:List Int)(i:Nat):Bool:=Z (refs.getD i X≠0/\refs.getD i X∉a)
def BA(h:Heap)(refs:List Int):Bool:=Z (Bh h=⟨0,0,0⟩)&&((Lb refs.length).find? (Ih refs (Zg h).1)).isNone
section
variable (refs a:List Int) (hl:refs.length<=1048576) (b:a.length<=1048576)
include hl b
theorem ZaU(d:(Lb refs.length).find? (Ih refs a)=none):CP (Zk f42 0) (M0 refs a 0).st .nrm (Tg.st ⟨tm 36 [(4,bool M)],[],60⟩):=by refine Bw (S:=λk=>(M0 refs a k).st) refs.length kr (λk c=>Z5t refs a k hl b c ?_) (ZjT refs a);have:=Lk.1 d k (Lf.2 c);simp only[Ih,decide_eq_true_eq,not_and,Lp]at this;by_cases h:refs.getD k X=0;exact Li h;exact Lj (this h)
theorem Zgi(i:Nat)(g:(Lb refs.length).find? (Ih refs a)=some i):CP (Zk f42 0) (Tg.st ⟨tm 36 [(1,Z3 refs),(4,bool M),(5,Z3 a),(7,int 0)],[],60⟩) .ret (Tg.st ⟨tm 36 [(4,bool M)],[],60⟩):=by obtain⟨c,d,f⟩:=Lm.1 g;have d:=Lf.1 d;simp only[Ih,decide_eq_true_eq]at c;refine G5 (S:=λk=>(M0 refs a k).st) i kr (λm e=>Z5t refs a m hl b oq ?_) (Zi0 refs a i hl b d c.1 c.2);have:=f m e;simp only[Ih,Bool.not_eq_true',decide_eq_false_iff_not,not_and,Lp]at this;by_cases h:refs.getD m X=0;exact Li h;exact Lj (this h)
end
def N4(h:Heap)(refs:List Int)(b:Zx h.W)(hl:refs.length<=1048576):GP 42 [h.av,Z3 refs] L (bool (BA h refs)) []:=by
 have ho:=SF h;by_cases a:Bh h=⟨0,0,0⟩;cases hb:(Lb refs.length).find? (Ih refs (Zg h).1)with
 |none =>
  have e:BA h refs=L:=by simp[BA,a,hb]
  rw[e];exact gF [] func42 [] (Fc 9 (@PP h aa) (Ffb 10 (!decide (Bh h=Ci.mk 0 0 0)) (Fc 13 (@DN h aa) (Fu (@ZaU refs ((Zg h).1) aa oq aa) Fz))))
 |some i =>
  have e:BA h refs=M:=by simp[BA,a,hb]
  rw[e];exact gF [] func42 [] (Fc 9 (@PP h aa) (Ffb 10 (!decide (Bh h=Ci.mk 0 0 0)) (Fc 13 (@DN h aa) (Fu (@Zgi refs ((Zg h).1) aa oq i hb) Fz))))
 have e:BA h refs=M:=by simp[BA,a]
 rw[e];exact Z75 h refs b a
structure Rep where
 copied:Int
 kept:Int
 filled:Int
 freed:Int
 cleared:Int
 steps:Int
 deriving Inhabited
def Rep.cells(r:Rep):List AV:=[int r.copied,int r.kept,int r.filled,int r.freed,int r.cleared,int r.steps]
structure Z6 where
 heap:Heap
 old:List Int
 T:List Int
 Q:List Int
 D:Int
 rep:Rep
 deriving Inhabited
def Z6.cells(w:Z6):List AV:=w.heap.cells++[Z3 w.old,ZD w.T,Z3 w.Q,int w.D]++w.rep.cells
def Z6.av(w:Z6):AV:=.ag w.cells
def GQ:Z6:=⟨B6,[],[],[],0,⟨0,0,0,0,0,0⟩⟩
def ZE(w:Int):Int×Bool:=if w%4=2/\w/4<4294967296 then(w/4,L)else(0,M)
def Ao(w:Int)(h0:0<=w)(h1:w<=18446744073709551615):GP 140 [u64 w] L (.tu [u64 (ZE w).1,bool (ZE w).2]) []:=by have Q0 {h_ c_ p_} (r_:Fq h_ c_ p_):=Fg 5 (by exact Int.tmod_eq_emod_of_nonneg oq:w.tmod 4=w%4) (Fa (by decide:(4:Int)≠0) (Fa (by intro hg;(try simp only[bs]at hg);exact HA rfl dd:(!w%(4:Int) != 2)=L->w.fdiv (2^min (Lx 2) 64)=w/4) (Fa (by intro hg;(try simp only[bs]at hg);omega:(!w%(4:Int) != 2)=L->(0:Int)<=2) r_)));rcases bb (w%(4:Int) != 2||Z (4294967296<=w/4))with hc0|hc0<;>have hc0p:=hc0<;>simp only[bs]at hc0p;rw[show ZE w=((0:Int),M)from by(simp[ZE, *];omega)];exact gF [] func140 [] (Fh 9 [.int (w/4)] (Q0 (Ft 11 hc0 Fz)));obtain⟨hc0pa,hc0pb⟩:=hc0p;rw[show ZE w=(w/(4:Int),L)from by simp[ZE, *]];exact gF [] func140 [] (Fh 13 [.int (w/4)] (Q0 (Ff 11 hc0 (Fg 9 (by exact HA rfl dd:w.fdiv (2^min (Lx 2) 64)=w/4) (Fo ((0:Int)<=2) Fz)))))
def Zfs(a:Int)(h0:0<=a)(h1:a<4294967296):GP 188 [u64 a] L (.tu [u64 (4*a+2),int 0]) []:=by exact gF [] func188 [] (Ffb 5 (Z (4294967296<=a)) (Fv 7 (4*a) (Fv 8 (4*a+2) Fz)))
def ZH(w:Z6)(i:Int):Bool:=Z (0<=i/\i<w.heap.P.length/\(w.heap.P.getD i.toNat X).K=1/\(w.heap.P.getD i.toNat X).S≠w.heap.S/\i∉w.T)
def Z6.keep(w:Z6)(r:Int):Z6:=⟨w.heap,w.old,w.T,w.Q++[r],w.D,⟨w.rep.copied,w.rep.kept+1,w.rep.filled,w.rep.freed,w.rep.cleared,w.rep.steps⟩⟩
def ZG(w:Z6):Int:=w.T.getD ((w.T.length:Int)-1).toNat X
def E8(w:Z6)(n:Int):Prop:=0<w.T.length/\(w.heap.P.getD (ZG w).toNat X).U+n<=w.heap.C.pw
instance (w:Z6) (n:Int):Decidable (E8 w n):=by unfold E8;infer_instance
def ZN(w:Z6):Int:=first w.heap.P 1
def ER(w:Z6):List Z0:=HD ⟨w.heap.C,w.heap.W,w.heap.P,1-w.heap.S,w.heap.B⟩
def Z6.place(w:Z6)(n:Int):Z6×Int×Bool:=
 if E8 w n then(⟨⟨w.heap.C,w.heap.W,Cs w.heap.P (ZG w).toNat n,w.heap.S,w.heap.B⟩,w.old,w.T,w.Q,w.D,w.rep⟩,4096+ZG w*w.heap.C.pw+(w.heap.P.getD (ZG w).toNat X).U,L)
 else if 0<=ZN w then(⟨⟨w.heap.C,w.heap.W,Cs (ER w) (ZN w).toNat n,w.heap.S,w.heap.B⟩,w.old,w.T++[ZN w],w.Q,w.D,w.rep⟩,4096+ZN w*w.heap.C.pw,L)
 else(GQ,0,M)
def N8(s:Int)(p:Z0):Z0:=⟨p.K,s,p.U,p.N⟩
def ZF(l:List Z0)(i m:Nat)(s:Int):List Z0:=(Lb l.length).map λj=>if i<=j/\j<=i+m then N8 s (l.getD j X)else l.getD j X
def ZB(l:List Z0)(i:Nat):Nat:=((l.drop (i+1)).takeWhile λp=>p.K==3).length
def Z6.flip(w:Z6)(i:Nat):Z6:=⟨⟨w.heap.C,w.heap.W,ZF w.heap.P i (ZB w.heap.P i) (1-w.heap.S),w.heap.S,w.heap.B⟩,w.old,w.T,w.Q,w.D,w.rep⟩
def Z6.copy(w:Z6)(r a n:Int):Z6:=⟨⟨w.heap.C,(BQ (moveA w.heap.W a r n).1 r (4*a+2)).1,w.heap.P,w.heap.S,w.heap.B⟩,w.old,w.T,w.Q++[a],w.D,⟨w.rep.copied+1,w.rep.kept,w.rep.filled,w.rep.freed,w.rep.cleared,w.rep.steps⟩⟩
def Zu(w:Z6)(r:Int):Zy:=(Z7 (Z1 w.heap.W r).1).1
def Cx(w:Z6)(r:Int):Nat:=(Z2 w.heap.C r).1.toNat
def Z6.fwd(w:Z6)(r:Int):Z6×Int×Int:=
 if r=0\/r∈w.Q then(w,r,0)
 else if r∉w.old then(GQ,0,19)
 else if(ZE (Z1 w.heap.W r).1).2=L then(w,(ZE (Z1 w.heap.W r).1).1,0)
 else if(Z2 w.heap.C r).2.2≠0 then(GQ,0,19)
 else if ZH w (Z2 w.heap.C r).1=L then(w.keep r,r,0)
 else if(w.heap.P.getD (Cx w r) X).K=2 then((w.flip (Cx w r)).keep r,r,0)
 else if(w.place (Z5 (Zu w r))).2.2=M then(GQ,0,3)
 else((w.place (Z5 (Zu w r))).1.copy r (w.place (Z5 (Zu w r))).2.1 (Z5 (Zu w r)),(w.place (Z5 (Zu w r))).2.1,0)
def Ra(pw:Int)(p:Z0):Nat:=if p.K=0 then pw.toNat else(pw-p.U).toNat
def No(pw:Int)(l:List Z0):Nat:=(l.map (Ra pw)).sum
def Sq(old q:List Int):Nat:=(old.filter λx=>Z (x∉q)).length
def muW(w:Z6):Nat:=Sq w.old w.Q+No w.heap.C.pw w.heap.P
structure B7 (w:Z6):Prop where
 W:Zx w.heap.W
 wl:w.heap.W.length<=4096
 C:Zs w.heap.C=L
 pl:(w.heap.P.length:Int)=w.heap.C.pg
 sp:w.heap.S=0\/w.heap.S=1
 ol:w.old.length<=524288
 o:∀x∈w.old,0<=x/\x<=8192
 tk:∀x∈w.T,0<=x/\x<w.heap.P.length/\(w.heap.P.getD x.toNat X).K=1
 tl:w.T.length<=w.Q.length
 q:∀x∈w.Q,0<=x/\x<=16384
 us:∀j,j<w.heap.P.length->0<=(w.heap.P.getD j X).U/\(w.heap.P.getD j X).U<=1024
 mu:w.Q.length+muW w<=1000000
 sc:0<=w.D/\w.D<=w.Q.length
 rk:0<=w.rep.kept/\0<=w.rep.copied/\w.rep.kept+w.rep.copied<=w.Q.length
 rs:0<=w.rep.steps/\w.rep.steps<=1000*w.D
 r0:w.rep.filled=0/\w.rep.freed=0/\w.rep.cleared=0
def Z6o pw(p:Z0):∀(l:List Z0) (i:Nat),i<l.length->No pw (l.set i p)+Ra pw (l.getD i X)=No pw l+Ra pw p
 |[],i,h=>by simp at h
 |x::l,0,_=>by simp[No];omega
 |x::l,i+1,h=>by
  have:=Z6o pw p l i (by simpa using h);simp only[No,List.set_cons_succ,List.map_cons,List.sum_cons,List.getD_cons_succ]at this⊢;omega
def Z5C(old q:List Int)(r:Int):(old.filter λx=>Z (x∉q++[r]))=(old.filter λx=>Z (x∉q)).filter λx=>Z (x≠r):=by rw[List.filter_filter];refine List.filter_congr λx _=>?_;by_cases a:x∈q<;>by_cases b:x=r<;>simp[a,b]
def ZbK(old q:List Int)(r:Int):Sq old (q++[r])<=Sq old q:=by unfold Sq;rw[Z5C];exact List.length_filter_le _ _
def Zkj{old q:List Int}{r:Int}(a:r∈old)(b:r∉q):Sq old (q++[r])<Sq old q:=by unfold Sq;rw[Z5C];exact List.length_filter_lt_length_iff_exists.2 ⟨r,List.mem_filter.2 ⟨a,by simpa using b⟩,by simp⟩
def Z25{l:List Z0}{i:Nat}{p q:Z0}(h:i<l.length):ZK l i 1 p q=l.set i p:=by
 unfold ZK;have e:wr l (LF 1 q) i 1=l.set i q:=by(have:=TC (ws:=l) (l:=LF 1 q) (i:=i) (k:=0) qo pq q;rw[DK]at this;simpa using this.symm)
 rw[e,LG]
def Cn{l:List Z0}{i j:Nat}{p:Z0}(h:i<l.length):(l.set i p).getD j X=if i=j then p else l.getD j X:=by simp only[Lc,List.getElem?_set,h];split;rename_i e;subst e;simp;rfl
theorem H1 l i m s:(ZF l i m s).length=l.length:=by simp[ZF]
def Hb{l:List Z0}{i m s}{j:Nat}(h:j<l.length):(ZF l i m s).getD j X=if i<=j/\j<=i+m then N8 s (l.getD j X)else l.getD j X:=by simp[ZF,h,Lc]
def Zdq pw l i m s:No pw (ZF l i m s)=No pw l:=by
 unfold No;congr 1;refine Lq (by simp[ZF]) λj h1 a=>?_;have h:j<l.length:=by simpa using a
 simp only[ZF,List.map_map,Lr,Ls,Function.comp];have e:l.getD j X=l[j]:=by simp[Lc,h]
 rw[e];split;rfl;rfl
abbrev sZ(w:Z6)(r:Int):Int:=Z5 (Z7 (Z1 w.heap.W r).1).1
abbrev lT(w:Z6):Int:=w.T.getD ((w.T.length:Int)-1).toNat X
def Z8g w r(a:B7 w):GP 185 [w.av,u64 r] M (w.keep r).av []:=by have h1:=a.mu;have h2:=a.rk;exact gF [] func185 [] (Fh 11 [.els (Y wdv (w.Q++[r]))] (FAx 5 8 wdv w.Q (by(simp[Z6.keep, *];omega)) (Fs 10 (Y wdv [r]) (Fa (by(simp[Z6.keep, *];omega):(Y wdv w.Q).length+(Y wdv [r]).length<=2^30) (Fa (by simp[Z6.keep,LB,Lz,LA,Lu,wdv,idv]:Y wdv w.Q++Y wdv [r]=Y wdv (w.Q++[r])) (Fi 16 (w.rep.kept+1) Fz))))))
def M5(w:Z6)(x:Int)(i:Nat):Tg:=⟨tm 20 [(1,int x),(2,.pt 8002 0 0),(4,bool M),(5,int i)],[(8002,.box 138 w.cells)],60⟩
def Z76(w:Z6)(x:Int)(i:Nat)(hl:w.T.length<=1048576)(hi:i<w.T.length)(hv:¬ w.T.getD i X=x):CP (Zo f191 0) (M5 w x i).st .nrm (M5 w x (i+1)).st:=by exact sF [] [] (FN 9 10 16 idv w.T i (Ffb 19 (w.T.getD i X==x) (Fx 12 i Fz)))
def Ze6(w:Z6)(x:Int)(i:Nat)(hl:w.T.length<=1048576)(hi:i<w.T.length)(hv:w.T.getD i X=x):CP (Zo f191 0) (M5 w x i).st .ret (Tg.st ⟨tm 20 [(4,bool L)],[],60⟩):=by exact sF [] [] (FN 9 10 16 idv w.T i (Ftb 19 (w.T.getD i X==x) Fz))
def ZdB w x:CP (Zo f191 0) (M5 w x w.T.length).st (.ext 0) (Tg.st ⟨tm 20 [],[],60⟩):=by exact sF [] [] (FO 9 10 idv w.T Fz)
def Zik(w:Z6)(x:Int)(hl:w.T.length<=1048576)(h:x∉w.T)  := Bw (S:=λi=>(M5 w x i).st) w.T.length (by kernel_rfl) (λi a=>Z76 w x i hl a λe=>h (Bs.2 ⟨i,a,e⟩)) (ZdB w x)
def Zkd(w:Z6)(x:Int)(hl:w.T.length<=1048576)(h:x∈w.T):CP (Zk f191 0) (Tg.st ⟨tm 20 [(1,int x),(2,.pt 8002 0 0),(4,bool M),(5,int 0)],[(8002,.box 138 w.cells)],60⟩) .ret (Tg.st ⟨tm 20 [(4,bool L)],[],60⟩):=by obtain⟨i,a,b⟩:=Z1j (Bs.1 h);exact G5 (S:=λi=>(M5 w x i).st) i kr (λj hj=>Z76 w x j hl oq λe=>by have:=b j ⟨by omega,e⟩;omega) (Ze6 w x i hl a.1 a.2)
def ZkC(w:Z6) i(hl:w.T.length<=1048576):GP 191 [w.av,int i] L (bool (Z (i∈w.T))) []:=by by_cases h:i∈w.T;rw[decide_eq_true h];exact gF [] func191 [] (Fu (@Zkd w i aa aa) Fz);rw[decide_eq_false h];exact gF [] func191 [] (Fu (@Zik w i aa aa) Fz)
def SR(w:Z6) i(hl:w.T.length<=1048576)(hp:w.heap.P.length<=1048576):GP 141 [w.av,int i] L (bool (ZH w i)) []:=by rcases bb (Z (i<0)||Z ((w.heap.P.length:Int)<=i))with hc0|hc0<;>have a:=hc0<;>simp only[bs]at a;exact gF [] func141 (fO 6) (FlG 13 (!decide (i<0)) Z0.dv w.heap.P (Ft 15 hc0 (Fa (by(simp[ZH, *];omega):M=ZH w i) Fz)));obtain⟨c,d⟩:=a;let b:=w.heap.P.getD i.toNat X;exact gF [] func141 (fO 16) (FlG 13 (!decide (i<0)) Z0.dv w.heap.P (Ff 15 hc0 (Fe 20 Z0.dv w.heap.P i (FcG 36 (b.K==1&&b.S != w.heap.S) (λe=>by(try simp only[bs]at e);exact@ZkC w i aa) (Fa (by grind[ZH]:(b.K==1&&b.S != w.heap.S&&!decide (i∈w.T))=ZH w i) Fz)))))
def Z6d w(a:Int)(b:B7 w)(h0:0<=a/\a<=18446744073709551615):GP 142 [w.av,u64 a] L (Zu w a).av []:=by have h1:=b.wl;have h2:=G2 b.W a;exact gF [] func142 [] (Fc 14 (@HF w.heap.W a oq aa) (Fc 19 (@Al ((Z1 w.heap.W a).1) oq oq) Fz))
def Oj{ws l}(h:Zx ws)(hl:Zx l) a:Zx (ZS ws a l).1:=by unfold ZS;split;intro x b;simp only[Cg,Lh]at b;rcases b with(b|b)|b;exact h x (LD b);exact hl x b;exact h x (LC b);exact AQ
def Z2b ws l a:(ZS ws a l).1.length<=ws.length:=by unfold ZS;split;simp only;rw[N7 oq];exact Lg _;simp
def Z0V{ws}(h:Zx ws){v:Int}(c:0<=v/\v<=18446744073709551615) a:Zx (BQ ws a v).1:=Oj h (by intro x b;simp at b;subst b;exact c) a
def Z8a ws a v:(BQ ws a v).1.length<=ws.length:=Z2b ws [v] a
def ZdM{ws}(h:Zx ws) a n:Zx (BX ws a n).1:=by
 unfold BX;repeat' split
 exact AQ;intro x b;exact h x (LC (LD b));exact AQ
def Z9M{ws}(h:Zx ws) a b n:Zx (moveA ws a b n).1:=by unfold moveA;split;exact AQ;exact Oj h (ZdM h b n) a
def Z7M ws a b n:(moveA ws a b n).1.length<=ws.length:=by unfold moveA;split;simp;exact Z2b _ _ _
def B7.withWords{w}(a:B7 w){l}(h:Zx l)(hl:l.length<=4096):B7 ⟨⟨w.heap.C,l,w.heap.P,w.heap.S,w.heap.B⟩,w.old,w.T,w.Q,w.D,w.rep⟩:=
 ⟨h,hl,a.C,a.pl,a.sp,a.ol,a.o,a.tk,a.tl,a.q,a.us,a.mu,a.sc,a.rk,a.rs,a.r0⟩
def Z8S{w}(a:B7 w){r:Int}(c:r∈w.old)(d:r∉w.Q):B7 (w.keep r):=by have e:=a.mu;have hl:=Zkj c d;have ho:=a.o r c;have hs:=a.sc;have hk:=a.rk;have ht:=a.tl;unfold muW at e;refine⟨a.W,a.wl,a.C,a.pl,a.sp,a.ol,a.o,a.tk, ?_, ?_,a.us, ?_, ?_, ?_,a.rs,a.r0⟩;simp only[Z6.keep,Ld,Le];omega;intro x b;simp only[Z6.keep,Lh,Lo]at b;rcases b with b|rfl;exact a.q x b;omega;simp only[muW,Z6.keep,Ld,Le];omega;simp only[Z6.keep,Ld,Le];omega;simp only[Z6.keep,Ld,Le];omega
def Z5P{w}(a:B7 w) i:B7 (w.flip i):=by refine⟨a.W,a.wl,a.C, ?_,a.sp,a.ol,a.o, ?_,a.tl,a.q, ?_, ?_,a.sc,a.rk,a.rs,a.r0⟩;simp only[Z6.flip,H1];exact a.pl;intro x c;have:=a.tk x c;simp only[Z6.flip,H1];refine⟨this.1,this.2.1, ?_⟩;rw[Hb oq];split;exact this.2.2;exact this.2.2;intro j b;simp only[Z6.flip,H1]at b⊢;have:=a.us j b;rw[Hb b];split;exact this;exact this;have:=a.mu;simp only[muW,Z6.flip,Zdq]at this⊢;exact this
def GJ{w:Z6}(h:0<w.T.length):ZG w∈w.T:=by unfold ZG;exact Bs.2 ⟨((w.T.length:Int)-1).toNat,by omega,rfl⟩
def Z2Q{w}{n:Int}(a:B7 w)(hn:1<=n)(h:(w.place n).2.2=L) :∃(i:Nat) (p:Z0) (t:List Int),i<w.heap.P.length/\p.K=1/\0<=p.U/\p.U<=1024+n/\(p.U<=64\/p.U=n)/\Ra w.heap.C.pw p+1<=Ra w.heap.C.pw (w.heap.P.getD i X)/\t.length<=w.T.length+1/\(∀x∈t,x∈w.T\/x=(i:Int))/\4096<=(w.place n).2.1/\(w.place n).2.1<=12288 /\
  (w.place n).1=⟨⟨w.heap.C,w.heap.W,w.heap.P.set i p,w.heap.S,w.heap.B⟩,w.old,t,w.Q,w.D,w.rep⟩:=by
 have hb:=BD.1 a.C;have v:=a.pl;by_cases c:E8 w n;have e:w.place n=(⟨⟨w.heap.C,w.heap.W,Cs w.heap.P (ZG w).toNat n,w.heap.S,w.heap.B⟩,w.old,w.T,w.Q,w.D,w.rep⟩,4096+ZG w*w.heap.C.pw+(w.heap.P.getD (ZG w).toNat X).U,L):=by rw[Z6.place,if_pos c]
 unfold E8 at c;have g:=a.tk _ (GJ c.1);have hu:=a.us (ZG w).toNat oq;have u:=HY a.C g.1 oq;refine⟨(ZG w).toNat,⟨(w.heap.P.getD (ZG w).toNat X).K,(w.heap.P.getD (ZG w).toNat X).S,(w.heap.P.getD (ZG w).toNat X).U+n,(w.heap.P.getD (ZG w).toNat X).N⟩,w.T,by omega,g.2.2,by simp only;omega,by simp only;omega,Li (by simp only;omega), ?_,by omega,λx b=>Li b, ?_, ?_, ?_⟩;have f:=g.2.2;simp only[Ra,f,if_neg (show¬ (1:Int)=0 by decide)];omega;rw[e];simp only;omega;rw[e];simp only;omega;rw[e];rfl;by_cases d:0<=ZN w;have e:w.place n=(⟨⟨w.heap.C,w.heap.W,Cs (ER w) (ZN w).toNat n,w.heap.S,w.heap.B⟩,w.old,w.T++[ZN w],w.Q,w.D,w.rep⟩,4096+ZN w*w.heap.C.pw,L):=by rw[Z6.place,if_neg c,if_pos d]
 obtain⟨j,q,r,k⟩:=NT (h:=⟨w.heap.C,w.heap.W,w.heap.P,1-w.heap.S,w.heap.B⟩) (by have:=a.sp;simp only;omega) d;obtain⟨g1,g2,s⟩:=HS d;simp only at j q r k;have l:(ZN w).toNat<w.heap.P.length:=by unfold ZN;omega
 have u:=HY a.C d (by unfold ZN;omega);have f:(w.heap.P.getD (ZN w).toNat X).K=0:=by(have:=RQ.1 s 0 dd;simpa[ZN]using this)
 have y:Cs (ER w) (ZN w).toNat n=w.heap.P.set (ZN w).toNat ⟨1,1-w.heap.S,n,0⟩:=by
  unfold Cs;have o:(ER w).getD (ZN w).toNat X=⟨1,1-w.heap.S,0,0⟩:=k;rw[o];have m:ER w=w.heap.P.set (ZN w).toNat ⟨1,1-w.heap.S,0,0⟩:=by(have:ER w=ZK w.heap.P (ZN w).toNat 1 ⟨1,1-w.heap.S,0,0⟩ ⟨0,0,0,0⟩:=j;rw[this,Z25 l])
  rw[m,LG];simp
 refine⟨(ZN w).toNat,⟨1,1-w.heap.S,n,0⟩,w.T++[ZN w],l,rfl,by simp only;omega,by simp only;omega,Lj rfl, ?_,by simp, ?_, ?_, ?_, ?_⟩;simp only[Ra,f];simp;omega;intro x b;simp only[Lh,Lo]at b;rcases b with b|rfl;exact Li b;exact Lj oq;rw[e];simp only;omega;rw[e];simp only;omega;rw[e,y];rw[Z6.place,if_neg c,if_neg d]at h;simp at h
def Z9z{w}(b:B7 w){r n:Int}(hr:r∈w.old)(hq:r∉w.Q)(s:1<=n/\n<=256)(h:(w.place n).2.2=L):B7 ((w.place n).1.copy r (w.place n).2.1 n):=by obtain⟨i,p,t,d,f,h3,h4,k,h5,h6,l,m,o,e⟩:=Z2Q b s.1 h;generalize (w.place n).2.1=a at m o;rw[e];have q:=b.mu;have hs:=Z6o w.heap.C.pw p w.heap.P i d;have u:=b.sc;have hk:=b.rk;have ht:=b.tl;have hl:=ZbK w.old w.Q a;unfold muW at q;have w1:=Z9M b.W a r n;have l1:=Z7M w.heap.W a r n;have l2:=Z8a (moveA w.heap.W a r n).1 r (4*a+2);have l0:=b.wl;refine⟨Z0V w1 oq r, ?_,b.C, ?_,b.sp,b.ol,b.o, ?_, ?_, ?_, ?_, ?_, ?_, ?_,b.rs,b.r0⟩;simp only[Z6.copy];omega;simp only[Z6.copy,Lt];exact b.pl;intro x c;simp only[Z6.copy,Lt]at c⊢;rcases l x c with c|c;have:=b.tk x c;refine⟨this.1,this.2.1, ?_⟩;rw[Cn d];split;exact f;exact this.2.2;subst c;refine⟨by omega,by omega, ?_⟩;rw[Cn d,if_pos pq];exact f;simp only[Z6.copy,Ld,Le];omega;intro x c;simp only[Z6.copy,Lh,Lo]at c;rcases c with c|rfl;exact b.q x c;omega;intro j g;simp only[Z6.copy,Lt]at g⊢;rw[Cn d];split;omega;exact b.us j g;simp only[muW,Z6.copy,Ld,Le];omega;simp only[Z6.copy,Ld,Le];omega;simp only[Z6.copy,Ld,Le];omega
def Z5z{v:Int}(h:0<=v):0<=(ZE v).1/\(ZE v).1<=4294967295:=by unfold ZE;split<;>simp only<;>omega
def Aq v:ZR (Z7 v).1=L:=by
 cases e:(Z7 v).2 with|true=>exact Z2T e|false =>unfold Z7 at e⊢;split;rename_i a;rw[if_pos a]at e;cases e;decide
def Re w r:1<=Z5 (Zu w r)/\Z5 (Zu w r)<=256:=by have a:ZR (Zu w r)=L:=Aq _;have:=Gl.1 a;rw[Z5,if_pos a];omega
def DJ{w}(a:B7 w) r(e:(w.fwd r).2.2=0):B7 (w.fwd r).1/\0<=(w.fwd r).2.1/\(w.fwd r).2.1<=4294967296/\w.Q.length<=(w.fwd r).1.Q.length/\(w.fwd r).1.D=w.D/\(w.fwd r).1.rep.steps=w.rep.steps:=by
 have q:=G2 a.W r;have o:=Z5z q.1;unfold Z6.fwd at e⊢;split at e;rename_i c1;rw[if_pos c1];refine⟨a, ?_, ?_,Lg _,rfl,rfl⟩;rcases c1 with c1|c1;simp only;omega;exact(a.q r c1).1;rcases c1 with c1|c1;simp only;omega;have:=a.q r c1;simp only;omega;rename_i c1;rw[if_neg c1];have c:r∉w.Q:=λh=>c1 (Lj h);split at e;simp at e;rename_i c2;rw[if_neg c2];have b:r∈w.old:=Lp.1 c2;have l:=a.o r b;split at e;rename_i c3;rw[if_pos c3];exact⟨a,o.1,by simp only;omega,Lg _,rfl,rfl⟩;rename_i c3;rw[if_neg c3];split at e;simp at e;rename_i c4;rw[if_neg c4];split at e;rename_i f;rw[if_pos f];exact⟨Z8S a b c,l.1,by simp only;omega,by simp[Z6.keep],rfl,rfl⟩;rename_i f;rw[if_neg f];split at e;rename_i g;rw[if_pos g];exact⟨Z8S (Z5P a _) b c,l.1,by simp only;omega,by simp[Z6.keep,Z6.flip],rfl,rfl⟩;rename_i g;rw[if_neg g];split at e;simp at e;rename_i k;rw[if_neg k];have d:(w.place (Z5 (Zu w r))).2.2=L:=by simpa using k
 have m:=Re w r;obtain⟨i,p,t,h1,h2,h3,h4,n,h5,h6,h7,h8,h9,j⟩:=Z2Q a m.1 d;refine⟨Z9z a b c m d, ?_, ?_, ?_, ?_, ?_⟩;simp only;omega;simp only;omega;simp only[Z6.copy];rw[j];simp;simp only[Z6.copy];rw[j];simp only[Z6.copy];rw[j]
def Z8h w(n:Int)(b:B7 w)(hn:1<=n/\n<=256):GP 186 [w.av,int n] M (.tu [(w.place n).1.av,u64 (w.place n).2.1,bool (w.place n).2.2]) []:=by
 have q:=b.C;have hb:=BD.1 q;have o:=b.pl;have m:=b.mu;have p:=b.tl;have hr:=Z1t w.heap.P 1;by_cases c:E8 w n;have a:w.place n=(⟨⟨w.heap.C,w.heap.W,Cs w.heap.P (ZG w).toNat n,w.heap.S,w.heap.B⟩,w.old,w.T,w.Q,w.D,w.rep⟩,4096+ZG w*w.heap.C.pw+(w.heap.P.getD (ZG w).toNat X).U,L):=by rw[Z6.place,if_pos c]
 unfold E8 at c;have d:=b.tk _ (GJ c.1);have f:=b.us (ZG w).toNat oq;have j:=HY b.C d.1 oq;unfold ZG at d f j c a;rw[show w.place n=(Z6.mk (Heap.mk w.heap.C w.heap.W (w.heap.P.set (w.T.getD ((w.T.length:Int)-(1:Int)).toNat X).toNat (Z0.mk (w.heap.P.getD (w.T.getD ((w.T.length:Int)-(1:Int)).toNat X).toNat X).K (w.heap.P.getD (w.T.getD ((w.T.length:Int)-(1:Int)).toNat X).toNat X).S ((w.heap.P.getD (w.T.getD ((w.T.length:Int)-(1:Int)).toNat X).toNat X).U+n) (w.heap.P.getD (w.T.getD ((w.T.length:Int)-(1:Int)).toNat X).toNat X).N)) w.heap.S w.heap.B) w.old w.T w.Q w.D w.rep,(4096:Int)+w.T.getD ((w.T.length:Int)-(1:Int)).toNat X*w.heap.C.pw+(w.heap.P.getD (w.T.getD ((w.T.length:Int)-(1:Int)).toNat X).toNat X).U,L)from by rw[a];rfl];exact gF [] func186 [] (FA 10 14 Z0.dv w.heap.P (Fl 19 idv w.T (FiG 29 (Z (0<(w.T.length:Int))) ((w.T.length:Int)-1) (FeGq 30 (Z (0<(w.T.length:Int))) idv w.T ((w.T.length:Int)-1) (FmGq 34 (Z (0<(w.T.length:Int))) Z0.dv w.heap.P (w.T.getD ((w.T.length:Int)-1).toNat X) (FiG 36 (Z (0<(w.T.length:Int))) ((w.heap.P.getD (w.T.getD ((w.T.length:Int)-1).toNat X).toNat X).U+n) (Ftb 42 (Z (0<(w.T.length:Int))&&Z ((w.heap.P.getD (w.T.getD ((w.T.length:Int)-1).toNat X).toNat X).U+n<=w.heap.C.pw)) (Fi 46 ((w.T.length:Int)-1) (Fe 47 idv w.T ((w.T.length:Int)-1) (Fi 83 (w.T.getD ((w.T.length:Int)-1).toNat X*w.heap.C.pw) (Fi 84 (4096+w.T.getD ((w.T.length:Int)-1).toNat X*w.heap.C.pw) (Fmq 91 Z0.dv w.heap.P (w.T.getD ((w.T.length:Int)-1).toNat X) (Fi 92 (4096+w.T.getD ((w.T.length:Int)-1).toNat X*w.heap.C.pw+(w.heap.P.getD (w.T.getD ((w.T.length:Int)-1).toNat X).toNat X).U) (Fv 93 (4096+w.T.getD ((w.T.length:Int)-1).toNat X*w.heap.C.pw+(w.heap.P.getD (w.T.getD ((w.T.length:Int)-1).toNat X).toNat X).U) (Fmq 104 Z0.dv w.heap.P (w.T.getD ((w.T.length:Int)-1).toNat X) (Fi 106 ((w.heap.P.getD (w.T.getD ((w.T.length:Int)-1).toNat X).toNat X).U+n) (Fm0q Z0.dv w.heap.P (w.T.getD ((w.T.length:Int)-1).toNat X) (FS 10108 Z0.dv w.heap.P ((w.T.getD ((w.T.length:Int)-1).toNat X).toNat) (Z0.mk (w.heap.P.getD (w.T.getD ((w.T.length:Int)-1).toNat X).toNat X).K (w.heap.P.getD (w.T.getD ((w.T.length:Int)-1).toNat X).toNat X).S ((w.heap.P.getD (w.T.getD ((w.T.length:Int)-1).toNat X).toNat X).U+n) (w.heap.P.getD (w.T.getD ((w.T.length:Int)-1).toNat X).toNat X).N) ((w.heap.P.getD (w.T.getD ((w.T.length:Int)-1).toNat X).toNat X).dv) Fz))))))))))))))))));by_cases e:0<=first w.heap.P 1
 have a:w.place n=(⟨⟨w.heap.C,w.heap.W,Cs (ER w) (first w.heap.P 1).toNat n,w.heap.S,w.heap.B⟩,w.old,w.T++[first w.heap.P 1],w.Q,w.D,w.rep⟩,4096+first w.heap.P 1*w.heap.C.pw,L):=by rw[Z6.place,if_neg c,if_pos (show 0<=ZN w from e)];rfl
 obtain⟨g,k,r,i⟩:=NT (h:=⟨w.heap.C,w.heap.W,w.heap.P,1-w.heap.S,w.heap.B⟩) (by have:=b.sp;simp only;omega) e;obtain⟨r1,r2,r3⟩:=HS e;simp only at g k r i;rw[g]at k i;have l:ER w=_:=g;rw[l]at a;have r4:HW w.heap.P (first w.heap.P 1).toNat 1=L:=r3;have j:=HY b.C e oq;have s:=congrArg Z0.U i;simp only at s;have hs:=b.sp;have d:0<w.T.length->0<=ZG w/\ZG w<w.heap.P.length:=λh=>⟨(b.tk _ (GJ h)).1,(b.tk _ (GJ h)).2.1⟩;have f:=λh=>b.us (ZG w).toNat h;unfold E8 at c;unfold ZG at c d f;exact gF [] func186 (fO 19) (Fh 76 [.els (Y idv (w.T++[first w.heap.P 1]))] (FA 10 14 Z0.dv w.heap.P (Fl 19 idv w.T (FiG 29 (Z (0<(w.T.length:Int))) ((w.T.length:Int)-1) (FeGq 30 (Z (0<(w.T.length:Int))) idv w.T ((w.T.length:Int)-1) (FmGq 34 (Z (0<(w.T.length:Int))) Z0.dv w.heap.P (w.T.getD ((w.T.length:Int)-1).toNat X) (FiG 36 (Z (0<(w.T.length:Int))) ((w.heap.P.getD (w.T.getD ((w.T.length:Int)-1).toNat X).toNat X).U+n) (Ffb 42 (Z (0<(w.T.length:Int))&&Z ((w.heap.P.getD (w.T.getD ((w.T.length:Int)-1).toNat X).toNat X).U+n<=w.heap.C.pw)) (Fc 52 (@D2 w.heap.P (1) oq) (Ffb 54 (Z (first w.heap.P (1:Int)<0)) (Fi 64 (1-w.heap.S) (Fc 65 (@Z6X w.heap.P (first w.heap.P 1) (1-w.heap.S) oq oq oq aa) (FA 70 73 idv w.T (Fs 75 (Y idv [first w.heap.P 1]) (Fa (by(simp[*];omega):(Y idv w.T).length+(Y idv [first w.heap.P 1]).length<=2^30) (Fa (ms:Y idv w.T++Y idv [first w.heap.P 1]=Y idv (w.T++[first w.heap.P 1])) (Fi 83 (first w.heap.P 1*w.heap.C.pw) (Fi 84 (4096+first w.heap.P 1*w.heap.C.pw) (Fmq 91 Z0.dv (ZK w.heap.P (first w.heap.P 1).toNat 1 (Z0.mk 1 (1-w.heap.S) 0 0) (Z0.mk 0 0 0 0)) (first w.heap.P 1) (Fi 92 (4096+first w.heap.P 1*w.heap.C.pw+((ZK w.heap.P (first w.heap.P 1).toNat 1 (Z0.mk 1 (1-w.heap.S) 0 0) (Z0.mk 0 0 0 0)).getD (first w.heap.P 1).toNat X).U) (Fv 93 (4096+first w.heap.P 1*w.heap.C.pw+((ZK w.heap.P (first w.heap.P 1).toNat 1 (Z0.mk 1 (1-w.heap.S) 0 0) (Z0.mk 0 0 0 0)).getD (first w.heap.P 1).toNat X).U) (Fmq 104 Z0.dv (ZK w.heap.P (first w.heap.P 1).toNat 1 (Z0.mk 1 (1-w.heap.S) 0 0) (Z0.mk 0 0 0 0)) (first w.heap.P 1) (Fi 106 (((ZK w.heap.P (first w.heap.P 1).toNat 1 (Z0.mk 1 (1-w.heap.S) 0 0) (Z0.mk 0 0 0 0)).getD (first w.heap.P 1).toNat X).U+n) (Fm0q Z0.dv (ZK w.heap.P (first w.heap.P 1).toNat 1 (Z0.mk 1 (1-w.heap.S) 0 0) (Z0.mk 0 0 0 0)) (first w.heap.P 1) (FS 10108 Z0.dv (ZK w.heap.P (first w.heap.P 1).toNat 1 (Z0.mk 1 (1-w.heap.S) 0 0) (Z0.mk 0 0 0 0)) ((first w.heap.P 1).toNat) (Z0.mk ((ZK w.heap.P (first w.heap.P 1).toNat 1 (Z0.mk 1 (1-w.heap.S) 0 0) (Z0.mk 0 0 0 0)).getD (first w.heap.P 1).toNat X).K ((ZK w.heap.P (first w.heap.P 1).toNat 1 (Z0.mk 1 (1-w.heap.S) 0 0) (Z0.mk 0 0 0 0)).getD (first w.heap.P 1).toNat X).S (((ZK w.heap.P (first w.heap.P 1).toNat 1 (Z0.mk 1 (1-w.heap.S) 0 0) (Z0.mk 0 0 0 0)).getD (first w.heap.P 1).toNat X).U+n) ((ZK w.heap.P (first w.heap.P 1).toNat 1 (Z0.mk 1 (1-w.heap.S) 0 0) (Z0.mk 0 0 0 0)).getD (first w.heap.P 1).toNat X).N) (((ZK w.heap.P (first w.heap.P 1).toNat 1 (Z0.mk 1 (1-w.heap.S) 0 0) (Z0.mk 0 0 0 0)).getD (first w.heap.P 1).toNat X).dv) (Fa (by rw[a]:w.heap.C.pw=(w.place n).1.heap.C.pw) (Fa (by rw[a]:w.heap.C.pg=(w.place n).1.heap.C.pg) (Fa (by refine congrArg _ ?_;rw[a]:Y wdv w.heap.W=Y wdv (w.place n).1.heap.W) (Fa (by refine congrArg _ ?_;rw[a];rfl:Y Z0.dv ((ZK w.heap.P (first w.heap.P 1).toNat 1 (Z0.mk 1 (1-w.heap.S) 0 0) (Z0.mk 0 0 0 0)).set (first w.heap.P 1).toNat (Z0.mk ((ZK w.heap.P (first w.heap.P 1).toNat 1 (Z0.mk 1 (1-w.heap.S) 0 0) (Z0.mk 0 0 0 0)).getD (first w.heap.P 1).toNat X).K ((ZK w.heap.P (first w.heap.P 1).toNat 1 (Z0.mk 1 (1-w.heap.S) 0 0) (Z0.mk 0 0 0 0)).getD (first w.heap.P 1).toNat X).S (((ZK w.heap.P (first w.heap.P 1).toNat 1 (Z0.mk 1 (1-w.heap.S) 0 0) (Z0.mk 0 0 0 0)).getD (first w.heap.P 1).toNat X).U+n) ((ZK w.heap.P (first w.heap.P 1).toNat 1 (Z0.mk 1 (1-w.heap.S) 0 0) (Z0.mk 0 0 0 0)).getD (first w.heap.P 1).toNat X).N))=Y Z0.dv (w.place n).1.heap.P) (Fa (by rw[a]:w.heap.S=(w.place n).1.heap.S) (Fa (by rw[a]:w.heap.B=(w.place n).1.heap.B) (Fa (by refine congrArg _ ?_;rw[a]:Y wdv w.old=Y wdv (w.place n).1.old) (Fa (by refine congrArg _ ?_;rw[a]:Y idv (w.T++[first w.heap.P 1])=Y idv (w.place n).1.T) (Fa (by refine congrArg _ ?_;rw[a]:Y wdv w.Q=Y wdv (w.place n).1.Q) (Fa (by rw[a]:w.D=(w.place n).1.D) (Fa (by rw[a]:w.rep.copied=(w.place n).1.rep.copied) (Fa (by rw[a]:w.rep.kept=(w.place n).1.rep.kept) (Fa (by rw[a]:w.rep.filled=(w.place n).1.rep.filled) (Fa (by rw[a]:w.rep.freed=(w.place n).1.rep.freed) (Fa (by rw[a]:w.rep.cleared=(w.place n).1.rep.cleared) (Fa (by rw[a]:w.rep.steps=(w.place n).1.rep.steps) (Fa (by grind[]:4096+first w.heap.P 1*w.heap.C.pw+((ZK w.heap.P (first w.heap.P 1).toNat 1 (Z0.mk 1 (1-w.heap.S) 0 0) (Z0.mk 0 0 0 0)).getD (first w.heap.P 1).toNat X).U=(w.place n).2.1) (Fa (by rw[a]:L=(w.place n).2.2) Fz)))))))))))))))))))))))))))))))))))))))))));have a:w.place n=(GQ,0,M):=by rw[Z6.place,if_neg c,if_neg (show¬ 0<=ZN w from e)]
 have d:0<w.T.length->0<=ZG w/\ZG w<w.heap.P.length:=λh=>⟨(b.tk _ (GJ h)).1,(b.tk _ (GJ h)).2.1⟩;have f:=λh=>b.us (ZG w).toNat h;unfold E8 at c;unfold ZG at c d f;rw[a];exact gF [] func186 [] (FAx 10 14 Z0.dv w.heap.P (by(simp[GQ,B6, *];omega)) (Fl 19 idv w.T (FiG 29 (Z (0<(w.T.length:Int))) ((w.T.length:Int)-1) (FeGq 30 (Z (0<(w.T.length:Int))) idv w.T ((w.T.length:Int)-1) (FmGq 34 (Z (0<(w.T.length:Int))) Z0.dv w.heap.P (w.T.getD ((w.T.length:Int)-1).toNat X) (FiG 36 (Z (0<(w.T.length:Int))) ((w.heap.P.getD (w.T.getD ((w.T.length:Int)-1).toNat X).toNat X).U+n) (Ffb 42 (Z (0<(w.T.length:Int))&&Z ((w.heap.P.getD (w.T.getD ((w.T.length:Int)-1).toNat X).toNat X).U+n<=w.heap.C.pw)) (Fc 52 (@D2 w.heap.P (1) oq) (Ftb 54 (Z (first w.heap.P (1:Int)<0)) (Fnl (Fnl (Fnl (Fnl (Fnl Fz))))))))))))))
def Zv{α:Type}(f:α->α)(l:List α)(i:Nat):List α:=(l.take i).map f++l.drop i
def Z89{α:Type}(f:α->α)(l:List α):Zv f l 0=l:=by simp[Zv]
def Z0j{α:Type}(f:α->α)(l:List α):Zv f l l.length=l.map f:=by simp[Zv]
def SC{α:Type}(f:α->α)(l:List α)(i:Nat):(Zv f l i).length=l.length:=by simp[Zv];omega
def OR{α:Type}(f:α->α)(l:List α){i j:Nat}(h:i<=j)(d:α):(Zv f l i).getD j d=l.getD j d:=by
 rw[Lc,Lc];congr 1;by_cases hi:i<=l.length
 .rw[Zv,List.getElem?_append_right qo];simp only[Ll,List.length_take,List.getElem?_drop];congr 1;omega
 .rw[Ln (by rw[SC];omega),Ln oq]
def Ps{α:Type} f(l:List α){i:Nat}(h:i<l.length)(d:α):(Zv f l i).set i (f (l.getD i d))=Zv f l (i+1):=by
 have e:l.getD i d=l[i]:=by simp[Lc,h]
 rw[e,Zv,Zv,List.take_succ_eq_append_getElem h,Lu,List.set_append_right i _ qo,List.append_assoc];congr 1;have:l.drop i=l[i]::l.drop (i+1):=List.drop_eq_getElem_cons h;rw[show i-(Y f (O i l)).length=0 by simp;omega,this];rfl
def Z1m{α:Type}(f:α->α)(l:List α){i:Nat}(h:i<l.length)(d:α)(b:f (l.getD i d)=l.getD i d):Zv f l i=Zv f l (i+1):=by
 rw[<-Ps f l h d,b,<-OR f l (Lg i) d];have a:i<(Zv f l i).length:=by rw[SC];exact h
 rw[show(Zv f l i).getD i d=(Zv f l i)[i] by simp[Lc,a],List.set_getElem_self]
def Zq(s:Int)(p:Z0):Z0:=if p.K=1/\0<p.N then⟨p.K,s,p.U,p.N⟩else p
def Tf(h:Heap)(a:List Int)(i:Nat):Tg:=⟨tm 61 [(1,.pt 8001 0 0),(2,.pt 8002 0 0),(3,int 0),(4,.pt 32004 0 0),(5,int i)],[(32004,.box 138 [int h.C.pw,int h.C.pg,Z3 h.W,.ow 48026,int h.S,int h.B,Z3 a,.d (.sl 0 []),.d (.sl 0 []),int 0,int 0,int 0,int 0,int 0,int 0,int 0]),(48026,.arr 86 4 ((Zv (Zq (1-h.S)) h.P i).map Z0.dv)),(8002,.box 138 zW),(8001,.box 28 h.cells)],60⟩
section
variable (h:Heap) (a:List Int) (hs:h.S=0\/h.S=1) (hl:h.P.length<=1048576)
include hs hl
theorem Zjo(i:Nat)(q:i<h.P.length):CP (Zo f82 0) (Tf h a i).st .nrm (Tf h a (i+1)).st:=by
 have m:=OR (Zq (1-h.S)) h.P (Lg i) X;have hn:=SC (Zq (1-h.S)) h.P i;by_cases g:(h.P.getD i X).K=1/\0<(h.P.getD i X).N
 .have j:=Ps (Zq (1-h.S)) h.P q X;rw[show Zq (1-h.S) (h.P.getD i X)=⟨(h.P.getD i X).K,1-h.S,(h.P.getD i X).U,(h.P.getD i X).N⟩ by rw[Zq,if_pos g],<-m]at j;rw[<-m]at g;have o {h_ c_ p_} (n:Fq h_ c_ p_):=Fl 33 Z0.dv (Zv (Zq ((1:Int)-h.S)) h.P i) (Ftb 34 (Z ((i:Int)<(↑(Zv (Zq (1-h.S)) h.P i).length:Int))) (Fmq 42 Z0.dv (Zv (Zq (1-h.S)) h.P i) (↑i) n));rcases bb (((Zv (Zq (1-h.S)) h.P i).getD (i:Int).toNat X).K==1&&Z (0<((Zv (Zq (1-h.S)) h.P i).getD (i:Int).toNat X).N))with hc0|hc0<;>have b:=hc0<;>simp only[bs]at b
  .obtain⟨c,d⟩:=b;let k:=Zv (Zq (1-h.S)) h.P i;let e:=k.getD (i:Int).toNat X;exact sF [] (fO 9) (o (Ft 50 hc0 (Fi 57 (1-h.S) (Fm0q Z0.dv k (↑i) (FS 10059 Z0.dv k ((i:Int).toNat) (Z0.mk e.K (1-h.S) e.U e.N) (e.dv) (Fx 36 i (Fr (86:Int) (Fa (by refine congrArg _ ?_;exact j:Y Z0.dv (k.set (i:Int).toNat (Z0.mk e.K (1-h.S) e.U e.N))=Y Z0.dv (Zv (Zq (1-h.S)) h.P (i+1))) Fz))))))))
  .exact sF [] (fO 9) (o (Ff 50 hc0 (Fx 36 i (Fr (86:Int) (Fa (by refine congrArg _ ?_;grind[]:Y Z0.dv (Zv (Zq (1-h.S)) h.P i)=Y Z0.dv (Zv (Zq (1-h.S)) h.P (i+1))) Fz)))))
 .have j:=Z1m (Zq (1-h.S)) h.P q X (by rw[Zq,if_neg g]);rw[<-m]at g;have p {h_ c_ p_} (n:Fq h_ c_ p_):=Fl 33 Z0.dv (Zv (Zq ((1:Int)-h.S)) h.P i) (Ftb 34 (Z ((i:Int)<(↑(Zv (Zq (1-h.S)) h.P i).length:Int))) (Fmq 42 Z0.dv (Zv (Zq (1-h.S)) h.P i) (↑i) n));rcases bb (((Zv (Zq (1-h.S)) h.P i).getD (i:Int).toNat X).K==1&&Z (0<((Zv (Zq (1-h.S)) h.P i).getD (i:Int).toNat X).N))with hc0|hc0<;>have b:=hc0<;>simp only[bs]at b
  .obtain⟨c,d⟩:=b;let l:=Zv (Zq (1-h.S)) h.P i;let f:=l.getD (i:Int).toNat X;exact sF [] (fO 9) (p (Ft 50 hc0 (Fi 57 (1-h.S) (Fm0q Z0.dv l (↑i) (FS 10059 Z0.dv l ((i:Int).toNat) (Z0.mk f.K (1-h.S) f.U f.N) (f.dv) (Fx 36 i (Fr (86:Int) (Fa (by refine congrArg _ ?_;grind[]:Y Z0.dv (l.set (i:Int).toNat (Z0.mk f.K (1-h.S) f.U f.N))=Y Z0.dv (Zv (Zq (1-h.S)) h.P (i+1))) Fz))))))))
  .exact sF [] (fO 9) (p (Ff 50 hc0 (Fx 36 i (Fr (86:Int) (Fa (by refine congrArg _ ?_;exact j:Y Z0.dv (Zv (Zq (1-h.S)) h.P i)=Y Z0.dv (Zv (Zq (1-h.S)) h.P (i+1))) Fz)))))
omit hs hl in
theorem Zi4:CP (Zo f82 0) (Tf h a h.P.length).st (.ext 0) (Tg.st ⟨tm 61 [(2,.pt 8002 0 0),(3,int 0),(4,.pt 32004 0 0)],[(32004,.box 138 [int h.C.pw,int h.C.pg,Z3 h.W,.ow 48026,int h.S,int h.B,Z3 a,.d (.sl 0 []),.d (.sl 0 []),int 0,int 0,int 0,int 0,int 0,int 0,int 0]),(48026,.arr 86 4 ((h.P.map (Zq (1-h.S))).map Z0.dv)),(8002,.box 138 zW)],60⟩):=by
 have hq:=Z0j (Zq (1-h.S)) h.P;have hn:=SC (Zq (1-h.S)) h.P h.P.length;exact sF [] (fO 4) (Fl 33 Z0.dv (Zv (Zq ((1:Int)-h.S)) h.P h.P.length) (Ffb 34 (Z ((h.P.length:Int)<(↑(Zv (Zq (1-h.S)) h.P h.P.length).length:Int))) (Fr (86:Int) (Fa (by refine congrArg _ ?_;assumption:Y Z0.dv (Zv (Zq (1-h.S)) h.P h.P.length)=Y Z0.dv (Y (Zq (1-h.S)) h.P)) Fz))))
theorem ZaQ:CP (Zk f82 0) (Tg.st ⟨tm 61 [(1,.pt 8001 0 0),(2,.pt 8002 0 0),(3,int 0),(4,.pt 32004 0 0),(5,int 0)],[(32004,.box 138 [int h.C.pw,int h.C.pg,Z3 h.W,.ow 48026,int h.S,int h.B,Z3 a,.d (.sl 0 []),.d (.sl 0 []),int 0,int 0,int 0,int 0,int 0,int 0,int 0]),(48026,.arr 86 4 (h.P.map Z0.dv)),(8002,.box 138 zW),(8001,.box 28 h.cells)],60⟩) .nrm (Tg.st ⟨tm 61 [(2,.pt 8002 0 0),(3,int 0),(4,.pt 32004 0 0)],[(32004,.box 138 [int h.C.pw,int h.C.pg,Z3 h.W,.ow 48026,int h.S,int h.B,Z3 a,.d (.sl 0 []),.d (.sl 0 []),int 0,int 0,int 0,int 0,int 0,int 0,int 0]),(48026,.arr 86 4 ((h.P.map (Zq (1-h.S))).map Z0.dv)),(8002,.box 138 zW)],60⟩):=by
 have:=Bw (S:=λk=>(Tf h a k).st) h.P.length kr (λk b=>Zjo h a hs hl k b) (Zi4 h a);simp only[Tf,Z89]at this;exact this
end
def Zr(h:Heap):Z6:=⟨⟨h.C,h.W,h.P.map (Zq (1-h.S)),h.S,h.B⟩,(Zg h).1,[],[],0,⟨0,0,0,0,0,0⟩⟩
def PI(h:Heap)(hw:Zx h.W)(a:Z8 h=L)(hg:Bh h=⟨0,0,0⟩):GP 82 [h.av] M (.tu [(Zr h).av,int 0]) []:=by have po:=B1 a;have ho:=SF h;exact gF [] func82 [] (Fc 8 (@CL h) (Ffb 9 (!Z8 h) (Fc 12 (@PP h aa) (Ffb 13 (!decide (Bh h=Ci.mk 0 0 0)) (Fc 19 (@DN h aa) (FAx 23 26 Z0.dv h.P (by(simp[Zr, *];omega)) (Fu (@ZaQ h ((Zg h).1) oq oq) (Fnl (Fnl Fz)))))))))
def Zhs w(r:Int)(d:B7 w)(c:0<=r/\r<=18446744073709551615)(b:r=0\/r∈w.Q):GP 137 [w.av,u64 r] M (.tu [w.av,u64 r,int 0]) []:=by have h1:=d.mu;rcases b with b|b;exact gF [] func137 [] (FcG 29 (!r==0) (λa=>by(try simp only[bs]at a);exact@Ec w.Q r oq) (Ftb 30 (r==0||Z (r∈w.Q)) Fz));by_cases c:r=0;exact gF [] func137 [] (FcG 29 (!r==0) (λa=>by(try simp only[bs]at a);exact@Ec w.Q r oq) (Ftb 30 (r==0||Z (r∈w.Q)) Fz));exact gF [] func137 [] (FcG 29 (!r==0) (λa=>by(try simp only[bs]at a);exact@Ec w.Q r oq) (Fts 30 (r==0||Z (r∈w.Q)) Fz))
def Zkb w(r:Int)(a:B7 w)(h0:0<=r/\r<=18446744073709551615)(c1:r≠0)(c2:r∉w.Q)(c3:r∉w.old):GP 137 [w.av,u64 r] M (.tu [GQ.av,u64 0,int 19]) []:=by have h1:=a.mu;have h2:=a.ol;exact gF [] func137 [] (FcG 29 (!r==0) (λb=>by(try simp only[bs]at b);exact@Ec w.Q r oq) (Ffs 30 (r==0||Z (r∈w.Q)) (Fc 36 (@Ec w.old r oq) (Ftb 37 (!decide (r∈w.old)) (Fnl (Fnl (Fnl (Fnl (Fnl Fz)))))))))
def Zfu w(r:Int)(a:B7 w)(h0:0<=r/\r<=18446744073709551615)(c1:r≠0)(c2:r∉w.Q)(c3:r∈w.old)(c4:(ZE (Z1 w.heap.W r).1).2=L):GP 137 [w.av,u64 r] M (.tu [w.av,u64 (ZE (Z1 w.heap.W r).1).1,int 0]) []:=by have h1:=a.mu;have h2:=a.ol;have h3:=a.wl;have h4:=G2 a.W r;exact gF [] func137 [] (Fh 52 [.br L] (FcG 29 (!r==0) (λb=>by(try simp only[bs]at b);exact@Ec w.Q r oq) (Ffs 30 (r==0||Z (r∈w.Q)) (Fc 36 (@Ec w.old r oq) (Ffb 37 (!decide (r∈w.old)) (Fc 44 (@HF w.heap.W r oq aa) (Fc 49 (@Ao ((Z1 w.heap.W r).1) oq oq) (Fa ‹(ZE (Z1 w.heap.W r).1).2=L› Fz))))))))
def Zby w(r:Int)(a:B7 w)(h0:0<=r/\r<=18446744073709551615)(c1:r≠0)(c2:r∉w.Q)(c3:r∈w.old)(c4:(ZE (Z1 w.heap.W r).1).2=M)(c5:(Z2 w.heap.C r).2.2≠0):GP 137 [w.av,u64 r] M (.tu [GQ.av,u64 0,int 19]) []:=by have h1:=a.mu;have h2:=a.ol;have h3:=a.wl;have h4:=G2 a.W r;exact gF [] func137 [] (Fh 52 [.br M] (FcG 29 (!r==0) (λb=>by(try simp only[bs]at b);exact@Ec w.Q r oq) (Ffs 30 (r==0||Z (r∈w.Q)) (Fc 36 (@Ec w.old r oq) (Ffb 37 (!decide (r∈w.old)) (Fc 44 (@HF w.heap.W r oq aa) (Fc 49 (@Ao ((Z1 w.heap.W r).1) oq oq) (Fa ‹(ZE (Z1 w.heap.W r).1).2=M› (Fc 60 (@GG w.heap.C r oq oq) (FlG 71 (!(Z2 w.heap.C r).2.2 != 0) Z0.dv w.heap.P (Ftb 73 ((Z2 w.heap.C r).2.2 != 0||Z ((w.heap.P.length:Int)<=(Z2 w.heap.C r).1)) (Fnl (Fnl (Fnl (Fnl (Fnl Fz))))))))))))))))
def Af{α:Type} p:∀(l:List α) (m:Nat),m<(l.takeWhile p).length->∃h:m<l.length,p l[m]=L
 |[],m,h=>by simp at h
 |x::l,m,h=>by
  rw[Lv]at h;split at h
  .rename_i b;cases m with
   |zero=>exact⟨by simp,b⟩
   |succ m =>
    obtain⟨h1,a⟩:=Af p l m (by simpa using h);exact⟨by simp;omega,by simpa using a⟩
  .simp at h
def AA{α:Type} p:∀(l:List α) (h:(l.takeWhile p).length<l.length),p l[(l.takeWhile p).length]=M
 |[],h=>by simp at h
 |x::l,h=>by
  by_cases a:p x=L
  .have e:((x::l).takeWhile p).length=(l.takeWhile p).length+1:=by rw[Lv,if_pos a];rfl
   have:=AA p l (by simp only[e,List.length_cons]at h;omega);simp only[e,List.getElem_cons_succ];exact this
  .have e:((x::l).takeWhile p).length=0:=by rw[Lv,if_neg a];rfl
   simp only[e,List.getElem_cons_zero];simpa using a
def RD{l}{i m:Nat}(h:m<ZB l i):i+1+m<l.length/\(l.getD (i+1+m) X).K=3:=by
 obtain⟨b,c⟩:=Af _ _ _ h;have a:i+1+m<l.length:=by simp at b;omega
 refine⟨a, ?_⟩;simpa[Lc,a]using c
def Mo{l}{i:Nat}(h:i+1+ZB l i<l.length):¬ (l.getD (i+1+ZB l i) X).K=3:=by
 have b:=AA (λp:Z0=>p.K==3) (l.drop (i+1)) (by simp;unfold ZB at h;omega);intro c;have d:(l.drop (i+1))[ZB l i]' qo=l.getD (i+1+ZB l i) X:=by simp[Lc,h]
 have a:(((l.drop (i+1))[ZB l i]' qo).K==3)=M:=b;rw[d,c]at a;simp at a
def Z4E{l i}(s:Int):ZF l i 0 s=l.set i (N8 s (l.getD i X)):=by
 refine Lq (by simp[ZF]) λj h1 b=>?_;have h:j<l.length:=by simpa using b
 have e:l.getD j X=l[j]:=by simp[Lc,h]
 simp only[ZF,Lr,Ls,Ly,e];by_cases a:i=j;subst a;rw[if_pos oq,if_pos rfl,e];rw[if_neg oq,if_neg a]
def Z4y{l:List Z0}{i m:Nat} s(h:i+1+m<l.length):(ZF l i m s).set (i+1+m) (N8 s (l.getD (i+1+m) X))=ZF l i (m+1) s:=by
 refine Lq (by simp[ZF]) λj h1 c=>?_;have h:j<l.length:=by simpa[ZF]using c
 have e:l.getD j X=l[j]:=by simp[Lc,h]
 simp only[ZF,Lr,Ls,Ly,e];by_cases a:i+1+m=j;subst a;rw[if_pos rfl,if_pos oq,e];rw[if_neg a];by_cases b:i<=j/\j<=i+m;rw[if_pos b,if_pos oq];rw[if_neg b,if_neg oq]
def Pb{l i m} s:(ZF l i m s).getD (i+1+m) X=l.getD (i+1+m) X:=by by_cases h:i+1+m<l.length;rw[Hb h,if_neg oq];rw[Lc,Lc,Ln (by rw[H1];omega),Ln oq]
def Mg(w:Z6)(r x:Int)(m:Nat):Tg:=⟨tm 202 [(1,u64 r),(2,.pt 8002 0 0),(4,.pt 8004 0 0),(5,u64 0),(6,int 0),(14,int (x+1+m))],[(88094,.arr 86 4 ((ZF w.heap.P x.toNat m (1-w.heap.S)).map Z0.dv)),(8002,.box 138 [int w.heap.C.pw,int w.heap.C.pg,Z3 w.heap.W,.ow 88094,int w.heap.S,int w.heap.B,Z3 w.old,ZD w.T,Z3 w.Q,int w.D,int w.rep.copied,int w.rep.kept,int w.rep.filled,int w.rep.freed,int w.rep.cleared,int w.rep.steps]),(8004,.box 138 zW)],60⟩
def Zir(w:Z6)(r x:Int)(m:Nat)(hs:w.heap.S=0\/w.heap.S=1)(hl:w.heap.P.length<=1048576)(hx:0<=x)(j:m<ZB w.heap.P x.toNat):CP (Zo f137 0) (Mg w r x m).st .nrm (Mg w r x (m+1)).st:=by
 have e:=RD j;have f:=Pb (l:=w.heap.P) (i:=x.toNat) (m:=m) (1-w.heap.S);have hn:=H1 w.heap.P x.toNat m (1-w.heap.S);have d:=Z4y (1-w.heap.S) e.1;unfold N8 at d;rw[<-f]at d e;have h:x.toNat+1+m=(x+1+(m:Int)).toNat:=by omega
 have eI:((x.toNat+1+m:Nat):Int)=x+1+(m:Int):=by omega
 rw[h]at f d e;let b:=ZF w.heap.P x.toNat m (1-w.heap.S);let c:=x+1+(m:Int);let a:=b.getD c.toNat X;let g:=x+1+(m:Int)<(b.length:Int);exact sF [] (fP 13) (Fl 113 Z0.dv (ZF w.heap.P x.toNat m ((1:Int)-w.heap.S)) (FmGq 122 (decide g) Z0.dv b c (Ftb 124 (decide g&&a.K==3) (Fi 134 (1-w.heap.S) (Fm0q Z0.dv b c (FS 10136 Z0.dv b (c.toNat) (Z0.mk a.K (1-w.heap.S) a.U a.N) (a.dv) (Fi 126 (x+1+(m:Int)+1) (Fo (x+1+(m:Int)+1=x+1+(↑(m+1):Int)) (Fr (86:Int) (Fa (by refine congrArg _ ?_;exact d:Y Z0.dv (b.set c.toNat (Z0.mk a.K (1-w.heap.S) a.U a.N))=Y Z0.dv (ZF w.heap.P x.toNat (m+1) (1-w.heap.S))) Fz))))))))))
def Zbr(w:Z6)(r x:Int)(hl:w.heap.P.length<=1048576)(hx:0<=x):CP (Zo f137 0) (Mg w r x (ZB w.heap.P x.toNat)).st (.ext 0) (Tg.st ⟨tm 202 [(1,u64 r),(2,.pt 8002 0 0),(4,.pt 8004 0 0),(5,u64 0),(6,int 0)],[(88094,.arr 86 4 ((ZF w.heap.P x.toNat (ZB w.heap.P x.toNat) (1-w.heap.S)).map Z0.dv)),(8002,.box 138 [int w.heap.C.pw,int w.heap.C.pg,Z3 w.heap.W,.ow 88094,int w.heap.S,int w.heap.B,Z3 w.old,ZD w.T,Z3 w.Q,int w.D,int w.rep.copied,int w.rep.kept,int w.rep.filled,int w.rep.freed,int w.rep.cleared,int w.rep.steps]),(8004,.box 138 zW)],60⟩):=by
 have c:=λh=>Mo (l:=w.heap.P) (i:=x.toNat) h;have b:=Pb (l:=w.heap.P) (i:=x.toNat) (m:=ZB w.heap.P x.toNat) (1-w.heap.S);have hn:=H1 w.heap.P x.toNat (ZB w.heap.P x.toNat) (1-w.heap.S);have a:x.toNat+1+ZB w.heap.P x.toNat=(x+1+(ZB w.heap.P x.toNat:Int)).toNat:=by omega
 rw[<-b,a]at c;exact sF [] [] (Fl 113 Z0.dv (ZF w.heap.P x.toNat (ZB w.heap.P x.toNat) ((1:Int)-w.heap.S)) (FmGq 122 (Z (x+1+(↑(ZB w.heap.P x.toNat):Int)<(↑(ZF w.heap.P x.toNat (ZB w.heap.P x.toNat) (1-w.heap.S)).length:Int))) Z0.dv (ZF w.heap.P x.toNat (ZB w.heap.P x.toNat) (1-w.heap.S)) (x+1+(↑(ZB w.heap.P x.toNat):Int)) (Ffb 124 (Z (x+1+(↑(ZB w.heap.P x.toNat):Int)<(↑(ZF w.heap.P x.toNat (ZB w.heap.P x.toNat) (1-w.heap.S)).length:Int))&&((ZF w.heap.P x.toNat (ZB w.heap.P x.toNat) (1-w.heap.S)).getD (x+1+(↑(ZB w.heap.P x.toNat):Int)).toNat X).K==3) Fz)))
section
variable (w:Z6) (r:Int) (hw:B7 w) (h0:0<=r/\r<=18446744073709551615) (c1:r≠0) (c2:r∉w.Q) (c3:r∈w.old) (c4:(ZE (Z1 w.heap.W r).1).2=M) (c5:(Z2 w.heap.C r).2.2=0)
include hw h0 c1 c2 c3 c4 c5
theorem ZjH(c6:ZH w (Z2 w.heap.C r).1=L):GP 137 [w.av,u64 r] M (.tu [(w.keep r).av,u64 r,int 0]) []:=by have h1:=hw.mu;have h2:=hw.ol;have h3:=hw.wl;have h4:=G2 hw.W r;have h11:=IZ (Z1 w.heap.W r).1 h4.1;have h5:=hw.pl;have h6:=BD.1 hw.C;have h7:=hw.tl;have h8:=GM hw.C c5;have Q0 {h_ c_ p_} (r_:Fq h_ c_ p_):=FcG 29 (!r==0) (λhg=>by(try simp only[bs]at hg);exact@Ec w.Q r oq) r_;rcases bb (r==0||Z (r∈w.Q))with hc0|hc0<;>have hc0p:=hc0<;>simp only[bs]at hc0p;rw[show w.keep r=w from by grind[]];exact gF [] func137 [] (Q0 (Ft 30 hc0 Fz));obtain⟨hc0pa,hc0pb⟩:=hc0p;exact gF [] func137 [] (Fh 73 [.br M] (Fh 77 [.call L (Sx.bool (ZH w (Z2 w.heap.C r).1)) [],.br L] (Q0 (Ff 30 hc0 (Fc 36 (@Ec w.old r oq) (Ffb 37 (!decide (r∈w.old)) (Fc 44 (@HF w.heap.W r oq aa) (Fc 49 (@Ao ((Z1 w.heap.W r).1) oq oq) (Fa ‹(ZE (Z1 w.heap.W r).1).2=M› (Fc 60 (@GG w.heap.C r oq oq) (FlG 71 (!(Z2 w.heap.C r).2.2 != 0) Z0.dv w.heap.P (Ffb 52 ((Z2 w.heap.C r).2.2 != 0||Z ((w.heap.P.length:Int)<=(Z2 w.heap.C r).1)) (Fa (@SR w ((Z2 w.heap.C r).1) oq oq) (Fa ‹ZH w (Z2 w.heap.C r).1=L› (Fc 80 (@Z8g w r aa) Fz)))))))))))))))
theorem Zf5(c6:ZH w (Z2 w.heap.C r).1=M)(c7:¬ (w.heap.P.getD (Cx w r) X).K=2)(c8:(w.place (Z5 (Zu w r))).2.2=M):GP 137 [w.av,u64 r] M (.tu [GQ.av,u64 0,int 3]) []:=by have h1:=hw.mu;have h2:=hw.ol;have h3:=hw.wl;have h4:=G2 hw.W r;have h11:=IZ (Z1 w.heap.W r).1 h4.1;have h5:=hw.pl;have h6:=BD.1 hw.C;have h7:=hw.tl;have h8:=GM hw.C c5;have h9:=Re w r;unfold Cx at c7;unfold Zu at h9 c8;have Q0 {h_ c_ p_} (r_:Fq h_ c_ p_):=FcG 29 (!r==0) (λhg=>by(try simp only[bs]at hg);exact@Ec w.Q r oq) r_;rcases bb (r==0||Z (r∈w.Q))with hc0|hc0<;>have hc0p:=hc0<;>simp only[bs]at hc0p;rw[show GQ=w from by grind[GQ,B6]];exact gF [] func137 (fO 4) (Q0 (Ft 30 hc0 (Fr w.heap.C.pw (Fr w.heap.C.pg (Fr (Y wdv w.heap.W) (Fr (Y Z0.dv w.heap.P) (Fr w.heap.S (Fr w.heap.B (Fr (Y wdv w.old) (Fr (Y idv w.T) (Fr (Y wdv w.Q) (Fr w.D (Fr w.rep.copied (Fr w.rep.kept (Fr w.rep.filled (Fr w.rep.freed (Fr w.rep.cleared (Fr w.rep.steps (Fa (by grind[GQ,B6]:r=0) (Fa (by grind[GQ,B6]:(0:Int)=3) Fz))))))))))))))))))));obtain⟨hc0pa,hc0pb⟩:=hc0p;let y0:=Z7 (Z1 w.heap.W r).1;exact gF [] func137 [] (Fh 77 [.call L (Sx.bool (ZH w (Z2 w.heap.C r).1)) [],.br M] (Fh 89 [.br M] (Q0 (Ff 30 hc0 (Fc 36 (@Ec w.old r oq) (Ffb 37 (!decide (r∈w.old)) (Fc 44 (@HF w.heap.W r oq aa) (Fc 49 (@Ao ((Z1 w.heap.W r).1) oq oq) (Fa ‹(ZE (Z1 w.heap.W r).1).2=M› (Fc 60 (@GG w.heap.C r oq oq) (FlG 71 (!(Z2 w.heap.C r).2.2 != 0) Z0.dv w.heap.P (Ffb 52 ((Z2 w.heap.C r).2.2 != 0||Z ((w.heap.P.length:Int)<=(Z2 w.heap.C r).1)) (Fa (@SR w ((Z2 w.heap.C r).1) oq oq) (Fa ‹ZH w (Z2 w.heap.C r).1=M› (Fe 86 Z0.dv w.heap.P ((Z2 w.heap.C r).1) (Ffb 73 ((w.heap.P.getD (Z2 w.heap.C r).1.toNat X).K==2) (Fc 143 (@Al ((Z1 w.heap.W r).1) oq oq) (Fc 147 (@I8 (y0.1) aa) (Fc 151 (@Z8h w (Z5 y0.1) aa aa) (Ftb 156 (!(w.place (Z5 y0.1)).2.2) (Fnl (Fnl (Fnl (Fnl (Fnl Fz)))))))))))))))))))))))))
theorem ZcH(c6:ZH w (Z2 w.heap.C r).1=M)(c7:¬ (w.heap.P.getD (Cx w r) X).K=2)(c8:(w.place (Z5 (Zu w r))).2.2=L):GP 137 [w.av,u64 r] M (.tu [((w.place (Z5 (Zu w r))).1.copy r (w.place (Z5 (Zu w r))).2.1 (Z5 (Zu w r))).av,u64 (w.place (Z5 (Zu w r))).2.1,int 0]) []:=by have h1:=hw.mu;have h2:=hw.ol;have h3:=hw.wl;have h4:=G2 hw.W r;have h11:=IZ (Z1 w.heap.W r).1 h4.1;have h5:=hw.pl;have h6:=BD.1 hw.C;have h7:=hw.tl;have h8:=GM hw.C c5;have h9:=Re w r;have h10:=hw.rk;obtain⟨i,p,t,d1,d2,d3,d4,d4',d5,d6,d7,d8,d9,e⟩:=Z2Q hw h9.1 c8;have e1:=congrArg (λw=>w.heap.W) e;have e2:=congrArg (λw=>w.Q) e;have e3:=congrArg (λw=>w.rep) e;have e3c:=congrArg (λw=>w.rep.copied) e;simp only at e1 e2 e3 e3c;have l1:=Z7M w.heap.W (w.place (Z5 (Zu w r))).2.1 r (Z5 (Zu w r));unfold Cx at c7;unfold Zu at *;have Q0 {h_ c_ p_} (r_:Fq h_ c_ p_):=FcG 29 (!r==0) (λhg=>by(try simp only[bs]at hg);exact@Ec w.Q r oq) r_;rcases bb (r==0||Z (r∈w.Q))with hc0|hc0<;>have hc0p:=hc0<;>simp only[bs]at hc0p;rw[show(w.place (Z5 (Z7 (Z1 w.heap.W r).1).1)).1.copy r (w.place (Z5 (Z7 (Z1 w.heap.W r).1).1)).2.1 (Z5 (Z7 (Z1 w.heap.W r).1).1)=w from by grind[Z6.copy]];exact gF [] func137 (fO 4) (Q0 (Ft 30 hc0 (Fr w.heap.C.pw (Fr w.heap.C.pg (Fr (Y wdv w.heap.W) (Fr (Y Z0.dv w.heap.P) (Fr w.heap.S (Fr w.heap.B (Fr (Y wdv w.old) (Fr (Y idv w.T) (Fr (Y wdv w.Q) (Fr w.D (Fr w.rep.copied (Fr w.rep.kept (Fr w.rep.filled (Fr w.rep.freed (Fr w.rep.cleared (Fr w.rep.steps (Fa (by grind[Z6.copy]:r=(w.place (Z5 (Z7 (Z1 w.heap.W r).1).1)).2.1) (Fr (0:Int) Fz))))))))))))))))))));obtain⟨hc0pa,hc0pb⟩:=hc0p;let y1:=Z7 (Z1 w.heap.W r).1;let y0:=w.place (Z5 y1.1);exact gF [] func137 [] (Fh 77 [.call L (Sx.bool (ZH w (Z2 w.heap.C r).1)) [],.br M] (Fh 156 [.br M] (Fh 192 [.els (Y wdv (y0.1.Q++[y0.2.1]))] (Q0 (Ff 30 hc0 (Fc 36 (@Ec w.old r oq) (Ffb 37 (!decide (r∈w.old)) (Fc 44 (@HF w.heap.W r oq aa) (Fc 49 (@Ao ((Z1 w.heap.W r).1) oq oq) (Fa ‹(ZE (Z1 w.heap.W r).1).2=M› (Fc 60 (@GG w.heap.C r oq oq) (FlG 71 (!(Z2 w.heap.C r).2.2 != 0) Z0.dv w.heap.P (Ffb 52 ((Z2 w.heap.C r).2.2 != 0||Z ((w.heap.P.length:Int)<=(Z2 w.heap.C r).1)) (Fa (@SR w ((Z2 w.heap.C r).1) oq oq) (Fa ‹ZH w (Z2 w.heap.C r).1=M› (Fe 86 Z0.dv w.heap.P ((Z2 w.heap.C r).1) (Ffb 73 ((w.heap.P.getD (Z2 w.heap.C r).1.toNat X).K==2) (Fc 143 (@Al ((Z1 w.heap.W r).1) oq oq) (Fc 147 (@I8 (y1.1) aa) (Fc 151 (@Z8h w (Z5 y1.1) aa aa) (Ffb 89 (!y0.2.2) (Fc 165 (@Zjg (y0.1.heap.W) (y0.2.1) r (Z5 y1.1) (by grind[Z6.copy]) oq aa) (Fc 172 (@Zfs (y0.2.1) oq oq) (Fc 181 (@Z1H ((moveA y0.1.heap.W y0.2.1 r (Z5 y1.1)).1) r (4*y0.2.1+2) (by grind[Z6.copy]) aa) (FAx 186 189 wdv y0.1.Q (by grind[Z6.copy]) (Fs 191 (Y wdv [y0.2.1]) (Fa (by grind[Z6.copy]:(Y wdv y0.1.Q).length+(Y wdv [y0.2.1]).length<=2^30) (Fa (by simp[Z6.copy,LB,Lz,LA,Lu,wdv,idv]:Y wdv y0.1.Q++Y wdv [y0.2.1]=Y wdv (y0.1.Q++[y0.2.1])) (Fi 197 (y0.1.rep.copied+1) Fz)))))))))))))))))))))))))))))
end
def ZjL(w:Z6)(r x:Int)(hs:w.heap.S=0\/w.heap.S=1)(hl:w.heap.P.length<=1048576)(a:0<=x):CP (Zk f137 0) (Tg.st ⟨tm 202 [(1,u64 r),(2,.pt 8002 0 0),(4,.pt 8004 0 0),(5,u64 0),(6,int 0),(14,int (x+1))],[(88094,.arr 86 4 ((w.heap.P.set x.toNat ⟨(w.heap.P.getD x.toNat X).K,1-w.heap.S,(w.heap.P.getD x.toNat X).U,(w.heap.P.getD x.toNat X).N⟩).map Z0.dv)),(8002,.box 138 [int w.heap.C.pw,int w.heap.C.pg,Z3 w.heap.W,.ow 88094,int w.heap.S,int w.heap.B,Z3 w.old,ZD w.T,Z3 w.Q,int w.D,int w.rep.copied,int w.rep.kept,int w.rep.filled,int w.rep.freed,int w.rep.cleared,int w.rep.steps]),(8004,.box 138 zW)],60⟩) .nrm (Tg.st ⟨tm 202 [(1,u64 r),(2,.pt 8002 0 0),(4,.pt 8004 0 0),(5,u64 0),(6,int 0)],[(88094,.arr 86 4 ((ZF w.heap.P x.toNat (ZB w.heap.P x.toNat) (1-w.heap.S)).map Z0.dv)),(8002,.box 138 [int w.heap.C.pw,int w.heap.C.pg,Z3 w.heap.W,.ow 88094,int w.heap.S,int w.heap.B,Z3 w.old,ZD w.T,Z3 w.Q,int w.D,int w.rep.copied,int w.rep.kept,int w.rep.filled,int w.rep.freed,int w.rep.cleared,int w.rep.steps]),(8004,.box 138 zW)],60⟩):=by have h:=Bw (S:=λk=>(Mg w r x k).st) (ZB w.heap.P x.toNat) kr (λk b=>Zir w r x k hs hl a b) (Zbr w r x hl a);have c:=Z4E (l:=w.heap.P) (i:=x.toNat) (1-w.heap.S);simp only[Mg,c,N8,Int.natCast_zero,Int.add_zero]at h;exact h
section
variable (w:Z6) (r:Int) (hw:B7 w) (h0:0<=r/\r<=18446744073709551615) (c1:r≠0) (c2:r∉w.Q) (c3:r∈w.old) (c4:(ZE (Z1 w.heap.W r).1).2=M) (c5:(Z2 w.heap.C r).2.2=0)
include hw h0 c1 c2 c3 c4 c5
theorem Zfd(c6:ZH w (Z2 w.heap.C r).1=M)(c7:(w.heap.P.getD (Cx w r) X).K=2):GP 137 [w.av,u64 r] M (.tu [((w.flip (Cx w r)).keep r).av,u64 r,int 0]) []:=by have h1:=hw.mu;have h2:=hw.ol;have h3:=hw.wl;have h4:=G2 hw.W r;have h5:=hw.pl;have h6:=BD.1 hw.C;have h7:=hw.tl;have h8:=GM hw.C c5;have h9:=hw.sp;have h10:=Z5P hw (Cx w r);have h12:(⟨⟨w.heap.C,w.heap.W,ZF w.heap.P (Z2 w.heap.C r).1.toNat (ZB w.heap.P (Z2 w.heap.C r).1.toNat) (1-w.heap.S),w.heap.S,w.heap.B⟩,w.old,w.T,w.Q,w.D,w.rep⟩:Z6)=w.flip (Cx w r):=rfl;unfold Cx at c7;have Q0 {h_ c_ p_} (r_:Fq h_ c_ p_):=FcG 29 (!r==0) (λhg=>by(try simp only[bs]at hg);exact@Ec w.Q r oq) r_;rcases bb (r==0||Z (r∈w.Q))with hc0|hc0<;>have hc0p:=hc0<;>simp only[bs]at hc0p;rw[show(w.flip (Cx w r)).keep r=w from by grind[]];exact gF [] func137 [] (Q0 (Ft 30 hc0 Fz));obtain⟨hc0pa,hc0pb⟩:=hc0p;let y0:=w.heap.P.getD (Z2 w.heap.C r).1.toNat X;let y1:=Z6.mk (Heap.mk w.heap.C w.heap.W (ZF w.heap.P (Z2 w.heap.C r).1.toNat (ZB w.heap.P (Z2 w.heap.C r).1.toNat) (1-w.heap.S)) w.heap.S w.heap.B) w.old w.T w.Q w.D w.rep;let y2:=(Z2 w.heap.C r).1;exact gF [] func137 [] (Fh 73 [.br M] (Fh 77 [.call L (Sx.bool (ZH w (Z2 w.heap.C r).1)) [],.br M] (Fh 139 [.kill (y1.keep r).av] (Q0 (Ff 30 hc0 (Fc 36 (@Ec w.old r oq) (Ffb 37 (!decide (r∈w.old)) (Fc 44 (@HF w.heap.W r oq aa) (Fc 49 (@Ao ((Z1 w.heap.W r).1) oq oq) (Fa ‹(ZE (Z1 w.heap.W r).1).2=M› (Fc 60 (@GG w.heap.C r oq oq) (FlG 71 (!(Z2 w.heap.C r).2.2 != 0) Z0.dv w.heap.P (Ffb 52 ((Z2 w.heap.C r).2.2 != 0||Z ((w.heap.P.length:Int)<=(Z2 w.heap.C r).1)) (Fa (@SR w y2 oq oq) (Fa ‹ZH w (Z2 w.heap.C r).1=M› (Fe 86 Z0.dv w.heap.P y2 (Ftb 89 (y0.K==2) (FA 90 94 Z0.dv w.heap.P (Fi 104 (1-w.heap.S) (Fm0q Z0.dv w.heap.P y2 (FS 10106 Z0.dv w.heap.P ((Z2 w.heap.C r).1.toNat) (Z0.mk y0.K (1-w.heap.S) y0.U y0.N) (y0.dv) (Fi 108 ((Z2 w.heap.C r).1+1) (Fu (@ZjL w r y2 aa oq oq) (Fa (@Z8g y1 r aa) Fz))))))))))))))))))))))))
end
def O6 w(r:Int)(e:B7 w)(d:0<=r/\r<=18446744073709551615):GP 137 [w.av,u64 r] M (.tu [(w.fwd r).1.av,u64 (w.fwd r).2.1,int (w.fwd r).2.2]) []:=by
 unfold Z6.fwd;by_cases c1:r=0\/r∈w.Q;rw[if_pos c1];exact Zhs w r e d c1;rw[if_neg c1];have a:r≠0:=λh=>c1 (Li h);have b:r∉w.Q:=λh=>c1 (Lj h);by_cases c3:r∈w.old;rw[if_neg (by simpa using c3)];by_cases c4:(ZE (Z1 w.heap.W r).1).2=L;rw[if_pos c4];exact Zfu w r e d a b c3 c4;rw[if_neg c4];have c:(ZE (Z1 w.heap.W r).1).2=M:=by simpa using c4
 by_cases f:(Z2 w.heap.C r).2.2=0;rw[if_neg (by simpa using f)];by_cases j:ZH w (Z2 w.heap.C r).1=L;rw[if_pos j];exact ZjH w r e d a b c3 c f j;rw[if_neg j];have g:ZH w (Z2 w.heap.C r).1=M:=by simpa using j
 by_cases i:(w.heap.P.getD (Cx w r) X).K=2;rw[if_pos i];exact Zfd w r e d a b c3 c f g i;rw[if_neg i];by_cases k:(w.place (Z5 (Zu w r))).2.2=M;rw[if_pos k];exact Zf5 w r e d a b c3 c f g i k;rw[if_neg k];exact ZcH w r e d a b c3 c f g i (by simpa using k);rw[if_pos f];exact Zby w r e d a b c3 c f;rw[if_pos c3];exact Zkb w r e d a b c3
def rootsN(w:Z6)(roots:List Int):Nat->Z6×List Int|0=>(w,[])|k+1=>(((rootsN w roots k).1.fwd (roots.getD k X)).1,(rootsN w roots k).2++[((rootsN w roots k).1.fwd (roots.getD k X)).2.1])
def CV(w:Z6)(roots:List Int)(k:Nat):Int:=((rootsN w roots k).1.fwd (roots.getD k X)).2.2
def rootsF(w:Z6)(roots:List Int):Z6×List Int×Int:=match (Lb roots.length).find? (λk=>Z (CV w roots k≠0))with|none=>((rootsN w roots roots.length).1,(rootsN w roots roots.length).2,0)|some k=>(GQ,[],CV w roots k)
def Dv(w:Z6)(roots out:List Int)(i:Nat):Tg:=⟨tm 39 [(1,Z3 roots),(2,.pt 8002 0 0),(4,.pt 8004 0 0),(5,.d (.sl 0 [])),(6,int 0),(7,.ow 16007),(8,int i)],[(16007,.arr 35 1 (out.map wdv)),(8004,.box 138 zW),(8002,.box 138 w.cells)],60⟩
section
variable (w:Z6) (roots out:List Int) (i:Nat) (hw:B7 w) (hr:0<=roots.getD i X/\roots.getD i X<=18446744073709551615) (hl:roots.length<=1048576) (ho:out.length<=1048576) (hi:i<roots.length)
include hw hr hl ho hi
theorem Z79(e:(w.fwd (roots.getD i X)).2.2=0):CP (Zo f83 0) (Dv w roots out i).st .nrm (Dv (w.fwd (roots.getD i X)).1 roots (out++[(w.fwd (roots.getD i X)).2.1]) (i+1)).st:=by let a:=w.fwd (roots.getD i X);exact sF [(504036,16007)] [] (Fh 36 [.els (Y wdv (out++[a.2.1]))] (FN 14 15 22 wdv roots i (Fc 24 (@O6 w (roots.getD i X) aa aa) (Ffb 29 (a.2.2 != 0) (Fs 35 (Y wdv [a.2.1]) (Fa (by(simp[*];omega):(Y wdv out).length+(Y wdv [a.2.1]).length<=2^30) (Fa (ms:Y wdv out++Y wdv [a.2.1]=Y wdv (out++[a.2.1])) (Fx 17 i Fz))))))))
theorem Zcy(e:¬ (w.fwd (roots.getD i X)).2.2=0):CP (Zo f83 0) (Dv w roots out i).st .ret (Tg.st ⟨tm 39 [(4,.pt 8004 0 0),(5,.d (.sl 0 [])),(6,int (w.fwd (roots.getD i X)).2.2)],[(8004,.box 138 zW)],60⟩):=by exact sF [] [] (FN 14 15 22 wdv roots i (Fc 24 (@O6 w (roots.getD i X) aa aa) (Ftb 29 ((w.fwd (roots.getD i X)).2.2 != 0) Fz)))
end
def Zf4 w roots out:CP (Zo f83 0) (Dv w roots out roots.length).st (.ext 0) (Tg.st ⟨tm 39 [(2,.pt 8002 0 0),(4,.pt 8004 0 0),(7,.ow 16007)],[(16007,.arr 35 1 (out.map wdv)),(8004,.box 138 zW),(8002,.box 138 w.cells)],60⟩):=by exact sF [] [] (FO 14 15 wdv roots Fz)
def NM w roots:∀k,(rootsN w roots k).2.length=k|0=>rfl|k+1=>by simp[rootsN,NM w roots k]
def RY{w roots}(d:B7 w):∀k,(∀j,j<k->CV w roots j=0)->B7 (rootsN w roots k).1/\(∀x∈(rootsN w roots k).2,0<=x/\x<=4294967296)/\(rootsN w roots k).1.D=w.D
 |0,_=>⟨d,by simp[rootsN],rfl⟩
 |k+1,h=>by
  have c:=RY d k (λj hj=>h j oq);have a:=DJ c.1 (roots.getD k X) (h k oq);refine⟨a.1, ?_, ?_⟩
  .intro x b;simp only[rootsN,Lh,Lo]at b;rcases b with b|rfl
   .exact c.2.1 x b
   .exact⟨a.2.1,a.2.2.1⟩
  .show((rootsN w roots k).1.fwd (roots.getD k X)).1.D=w.D;rw[a.2.2.2.2.1,c.2.2]
section
variable (w:Z6) (roots:List Int) (b:B7 w) (a:Gk roots) (hl:roots.length<=1048575)
include b a hl
theorem ZdN(f:(Lb roots.length).find? (λk=>Z (CV w roots k≠0))=none):CP (Zk f83 0) (Tg.st ⟨tm 39 [(1,Z3 roots),(2,.pt 8002 0 0),(4,.pt 8004 0 0),(5,.d (.sl 0 [])),(6,int 0),(7,.ow 16007),(8,int 0)],[(16007,.arr 35 1 []),(8004,.box 138 zW),(8002,.box 138 w.cells)],60⟩) .nrm (Tg.st ⟨tm 39 [(2,.pt 8002 0 0),(4,.pt 8004 0 0),(7,.ow 16007)],[(16007,.arr 35 1 ((rootsN w roots roots.length).2.map wdv)),(8004,.box 138 zW),(8002,.box 138 (rootsN w roots roots.length).1.cells)],60⟩):=by
 have c:∀j,j<roots.length->CV w roots j=0:=λj d=>by(have:=Lk.1 f j (Lf.2 d);simpa using this)
 exact Bw (S:=λk=>(Dv (rootsN w roots k).1 roots (rootsN w roots k).2 k).st) roots.length kr (λk e=>Z79 _ roots _ k (RY b k λj d=>c j oq).1 (De a k) oq (by rw[NM];omega) e (c k e)) (Zf4 _ roots _)
theorem ZbL(i:Nat)(h:(Lb roots.length).find? (λk=>Z (CV w roots k≠0))=some i):CP (Zk f83 0) (Tg.st ⟨tm 39 [(1,Z3 roots),(2,.pt 8002 0 0),(4,.pt 8004 0 0),(5,.d (.sl 0 [])),(6,int 0),(7,.ow 16007),(8,int 0)],[(16007,.arr 35 1 []),(8004,.box 138 zW),(8002,.box 138 w.cells)],60⟩) .ret (Tg.st ⟨tm 39 [(4,.pt 8004 0 0),(5,.d (.sl 0 [])),(6,int (CV w roots i))],[(8004,.box 138 zW)],60⟩):=by
 obtain⟨f,d,g⟩:=Lm.1 h;have d:=Lf.1 d;have c:∀j,j<i->CV w roots j=0:=λj e=>by simpa using g j e
 exact G5 (S:=λk=>(Dv (rootsN w roots k).1 roots (rootsN w roots k).2 k).st) i kr (λk l=>Z79 _ roots _ k (RY b k λj e=>c j oq).1 (De a k) oq (by rw[NM];omega) oq (c k l)) (Zcy _ roots _ i (RY b i c).1 (De a i) oq (by rw[NM];omega) d (of_decide_eq_true f))
theorem O3:GP 83 [w.av,Z3 roots] M (.tu [(rootsF w roots).1.av,Z3 (rootsF w roots).2.1,int (rootsF w roots).2.2]) []:=by
 cases hb:(Lb roots.length).find? (λk=>Z (CV w roots k≠0))with
 |none =>
  have c:rootsF w roots=((rootsN w roots roots.length).1,(rootsN w roots roots.length).2,0):=by rw[rootsF,hb]
  rw[c];exact gF [] func83 [] (Fh 7 [.own] (Fu (@ZdN w roots aa aa aa aa) Fz))
 |some i =>
  have c:rootsF w roots=(GQ,[],CV w roots i):=by rw[rootsF,hb]
  rw[c];exact gF [] func83 [] (Fh 7 [.own] (Fu (@ZbL w roots aa aa aa i aa) (Fnl (Fnl (Fnl (Fnl (Fnl (Fnl Fz))))))))
end
def C6(h:Zy):Nat->List Int|0=>[]|i+1=>if Bo h (i:Int)=L then C6 h i++[(i:Int)]else C6 h i
def T9(h:Zy):∀i,(C6 h i).length<=i
 |0=>Lg _
 |i+1=>by
  have:=T9 h i;simp only[C6];split<;>simp<;>omega
def ZC(h:Zy):List Int:=if ZR h=L then C6 h h.length.toNat else []
def Tl(h:Zy)(i:Nat):Tg:=⟨tm 23 [(1,.pt 8001 0 0),(3,.ow 16003),(4,int i)],[(16003,.arr 3 1 ((C6 h i).map idv)),(8001,.box 52 [int h.K,int h.length,u32 h.map])],60⟩
def Zdj(h:Zy)(i:Nat)(hm:0<=h.map/\h.map<=4294967295)(hv:ZR h=L)(hb:h.length<=255)(hi:i<h.length):CP (Zo f189 0) (Tl h i).st .nrm (Tl h (i+1)).st:=by
 have hn:=T9 h i;by_cases b:Bo h (i:Int)=L;have e:C6 h (i+1)=C6 h i++[(i:Int)]:=by rw[C6,if_pos b]
 exact sF [(496021,16003)] (fO 5) (Fh 17 [.call L (Sx.bool (Bo h (i:Int))) [],.br L] (Fh 21 [.els (Y idv (C6 h i++[(i:Int)]))] (FcG 11 (Z ((i:Int)<h.length)) (λa=>by(try simp only[bs]at a);exact@N6 h aa) (Ft 12 (by simp[*]:(Z ((i:Int)<h.length)&&ZR h)=L) (Fa (@Sf h ((i:Int)) aa) (Fa ‹Bo h (i:Int)=L› (Fs 20 (Y idv [(i:Int)]) (Fa (by(simp[*];omega):(Y idv (C6 h i)).length+(Y idv [(i:Int)]).length<=2^30) (Fa (ms:Y idv (C6 h i)++Y idv [(i:Int)]=Y idv (C6 h i++[(i:Int)])) (Fx 14 i (Fr (3:Int) (Fa (by refine congrArg _ ?_;rw[e]:Y idv (C6 h i++[(i:Int)])=Y idv (C6 h (i+1))) Fz))))))))))));have e:C6 h (i+1)=C6 h i:=by rw[C6,if_neg b]
 have c:Bo h (i:Int)=M:=by simpa using b
 exact sF [] (fO 5) (Fh 17 [.call L (Sx.bool (Bo h (i:Int))) [],.br M] (FcG 11 (Z ((i:Int)<h.length)) (λa=>by(try simp only[bs]at a);exact@N6 h aa) (Ft 12 (by simp[*]:(Z ((i:Int)<h.length)&&ZR h)=L) (Fa (@Sf h ((i:Int)) aa) (Fa ‹Bo h (i:Int)=M› (Fx 14 i (Fr (3:Int) (Fa (by refine congrArg _ ?_;rw[e]:Y idv (C6 h i)=Y idv (C6 h (i+1))) Fz))))))))
def Z7j(h:Zy)(i:Nat)(hm:0<=h.map/\h.map<=4294967295)(b:h.length<=i\/ZR h=M):CP (Zo f189 0) (Tl h i).st (.ext 0) (Tg.st ⟨tm 23 [(3,.ow 16003)],[(16003,.arr 3 1 ((C6 h i).map idv))],60⟩):=by rcases b with b|b;exact sF [] [] (FcG 11 (Z ((i:Int)<h.length)) (λa=>by(try simp only[bs]at a);exact@N6 h aa) (Ffb 12 (Z ((i:Int)<h.length)&&ZR h) Fz));exact sF [] [] (FcG 11 (Z ((i:Int)<h.length)) (λa=>by(try simp only[bs]at a);exact@N6 h aa) (Ff 12 (by simp[*]:(Z ((i:Int)<h.length)&&ZR h)=M) Fz))
def ZhC(h:Zy)(b:0<=h.map/\h.map<=4294967295):CP (Zk f189 0) (Tg.st ⟨tm 23 [(1,.pt 8001 0 0),(3,.ow 16003),(4,int 0)],[(16003,.arr 3 1 []),(8001,.box 52 [int h.K,int h.length,u32 h.map])],60⟩) .nrm (Tg.st ⟨tm 23 [(3,.ow 16003)],[(16003,.arr 3 1 ((ZC h).map idv))],60⟩):=by unfold ZC;by_cases a:ZR h=L;rw[if_pos a];have hb:=Gl.1 a;exact Bw (S:=λi=>(Tl h i).st) h.length.toNat kr (λi c=>Zdj h i b a oq oq) (Z7j h _ b (.inl oq));rw[if_neg a];exact Bw (S:=λi=>(Tl h i).st) 0 kr (λi c=>by omega) (Z7j h 0 b (.inr (by simpa using a)))
def Z4K(h:Zy)(hm:0<=h.map/\h.map<=4294967295):GP 189 [h.av] L (.d (.sl 1 ((ZC h).map idv))) []:=by exact gF [] func189 [] (Fh 3 [.own] (Fu (@ZhC h aa) (Fa (by exact Dp _:Ck (Y idv (ZC h))) Fz)))
def Z6.in1(w:Z6)(a:Int):Z6:=⟨⟨(w.fwd (Z1 w.heap.W a).1).1.heap.C,(BQ (w.fwd (Z1 w.heap.W a).1).1.heap.W a (w.fwd (Z1 w.heap.W a).1).2.1).1,(w.fwd (Z1 w.heap.W a).1).1.heap.P,(w.fwd (Z1 w.heap.W a).1).1.heap.S,(w.fwd (Z1 w.heap.W a).1).1.heap.B⟩,(w.fwd (Z1 w.heap.W a).1).1.old,(w.fwd (Z1 w.heap.W a).1).1.T,(w.fwd (Z1 w.heap.W a).1).1.Q,(w.fwd (Z1 w.heap.W a).1).1.D,(w.fwd (Z1 w.heap.W a).1).1.rep⟩
def Br(w:Z6)(a:Int)(l:List Int):Nat->Z6|0=>w|k+1=>(Br w a l k).in1 (a+1+l.getD k X)
def CH(w:Z6)(a:Int)(l:List Int)(k:Nat):Int:=((Br w a l k).fwd (Z1 (Br w a l k).heap.W (a+1+l.getD k X)).1).2.2
def Cb(w:Z6):Int:=w.Q.getD w.D.toNat X
def Bl(w:Z6):List Int:=ZC (Zu w (Cb w))
def Hz(w:Z6)(n:Int):Z6:=⟨w.heap,w.old,w.T,w.Q,w.D+1,⟨w.rep.copied,w.rep.kept,w.rep.filled,w.rep.freed,w.rep.cleared,w.rep.steps+1+n⟩⟩
def ZZ(w:Z6):Z6×Bool×Int:=
 if w.D<w.Q.length then
  match (Lb (Bl w).length).find? (λk=>Z (CH w (Cb w) (Bl w) k≠0))with|none=>(Hz (Br w (Cb w) (Bl w) (Bl w).length) (Bl w).length,L,0)|some k=>(GQ,M,CH w (Cb w) (Bl w) k)
 else(w,M,0)
def Z4X{w}(d:B7 w) a(e:(w.fwd (Z1 w.heap.W a).1).2.2=0):B7 (w.in1 a)/\w.Q.length<=(w.in1 a).Q.length/\(w.in1 a).D=w.D/\(w.in1 a).rep.steps=w.rep.steps:=by have b:=DJ d _ e;have hl:=Z8a (w.fwd (Z1 w.heap.W a).1).1.heap.W a (w.fwd (Z1 w.heap.W a).1).2.1;have c:=b.1.wl;exact⟨b.1.withWords (Z0V b.1.W oq a) oq,b.2.2.2.1,b.2.2.2.2.1,b.2.2.2.2.2⟩
def Nf{w}(d:B7 w) a l:∀k,(∀j,j<k->CH w a l j=0)->B7 (Br w a l k)/\w.Q.length<=(Br w a l k).Q.length/\(Br w a l k).D=w.D/\(Br w a l k).rep.steps=w.rep.steps
 |0,_=>⟨d,Lg _,rfl,rfl⟩
 |k+1,h=>by
  have c:=Nf d a l k (λj hj=>h j oq);have b:=Z4X c.1 (a+1+l.getD k X) (h k oq);exact⟨b.1,Nat.le_trans c.2.1 b.2.1,b.2.2.1.trans c.2.2.1,b.2.2.2.trans c.2.2.2⟩
def Ph(h:Zy):∀i,∀x∈C6 h i,0<=x/\x<i
 |0,x,hx=>by simp[C6]at hx
 |i+1,x,hx=>by
  have a:=Ph h i;simp only[C6]at hx;split at hx
  .rcases Lh.1 hx with hx|hx
   .have:=a x hx;omega
   .simp at hx;omega
  .have:=a x hx;omega
def Z1a(h:Zy):(ZC h).length<=255/\∀x∈ZC h,0<=x/\x<=255:=by
 unfold ZC;split;rename_i a;have:=Gl.1 a;have hl:=T9 h h.length.toNat
 exact⟨by omega,λx b=>by have:=Ph h _ x b;omega⟩;simp
def ZgB w(a:B7 w)(hs:¬ w.D<w.Q.length):GP 138 [w.av] M (.tu [w.av,bool M,int 0]) []:=by have h3:=a.mu;exact gF [] func138 [] (Fl 18 wdv w.Q (Ftb 19 (Z ((w.Q.length:Int)<=w.D)) Fz))
def Dz(w:Z6)(a:Int)(l:List Int)(k:Nat):Tg:=⟨tm 90 [(1,.pt 8001 0 0),(2,.pt 8002 0 0),(3,bool M),(4,int 0),(5,u64 a),(6,ZD l),(7,int k)],[(8002,.box 138 zW),(8001,.box 138 w.cells)],60⟩
section
variable (w:Z6) (a:Int) (l:List Int) (k:Nat) (b:B7 w) (ha:0<=a/\a<=16384) (hl:l.length<=255) (hr:0<=l.getD k X/\l.getD k X<=255) (hk:k<l.length)
include b ha hl hr hk
theorem Z94(e:(w.fwd (Z1 w.heap.W (a+1+l.getD k X)).1).2.2=0):CP (Zo f138 0) (Dz w a l k).st .nrm (Dz (w.in1 (a+1+l.getD k X)) a l (k+1)).st:=by have h1:=b.wl;have h2:=G2 b.W (a+1+l.getD k X);have f:=DJ b _ e;have h4:=f.1.wl;let c:=a+1+l.getD k X;let d:=w.fwd (Z1 w.heap.W c).1;exact sF [] [] (FM 33 34 idv l k (Fv 38 (a+1) (Fek 41 idv l (↑k) k (Fv 43 (l.getD k X) (Fv 44 c (Fc 50 (@HF w.heap.W c oq oq) (Fc 56 (@O6 w ((Z1 w.heap.W c).1) aa aa) (Ffb 61 (d.2.2 != 0) (Fc 71 (@Z1H (d.1.heap.W) c (d.2.1) oq oq) (Fx 36 k Fz))))))))))
theorem ZjZ(e:¬ (w.fwd (Z1 w.heap.W (a+1+l.getD k X)).1).2.2=0):CP (Zo f138 0) (Dz w a l k).st .ret (Tg.st ⟨tm 90 [(2,.pt 8002 0 0),(3,bool M),(4,int (w.fwd (Z1 w.heap.W (a+1+l.getD k X)).1).2.2)],[(8002,.box 138 zW)],60⟩):=by have h1:=b.wl;have h2:=G2 b.W (a+1+l.getD k X);let c:=a+1+l.getD k X;exact sF [] [] (FM 33 34 idv l k (Fv 38 (a+1) (Fek 41 idv l (↑k) k (Fv 43 (l.getD k X) (Fv 44 c (Fc 50 (@HF w.heap.W c oq oq) (Fc 56 (@O6 w ((Z1 w.heap.W c).1) aa aa) (Ftb 61 ((w.fwd (Z1 w.heap.W c).1).2.2 != 0) Fz))))))))
end
def ZgV w a l:CP (Zo f138 0) (Dz w a l l.length).st (.ext 0) (Tg.st ⟨tm 90 [(1,.pt 8001 0 0),(2,.pt 8002 0 0),(6,ZD l)],[(8002,.box 138 zW),(8001,.box 138 w.cells)],60⟩):=by exact sF [] [] (FO 33 34 idv l Fz)
section
variable (w:Z6) (a:Int) (l:List Int) (d:B7 w) (b:0<=a/\a<=16384) (hl:l.length<=255) (c:∀x∈l,0<=x/\x<=255)
include d b hl c
theorem ZiW(h:(Lb l.length).find? (λk=>Z (CH w a l k≠0))=none):CP (Zk f138 0) (Tg.st ⟨tm 90 [(1,.pt 8001 0 0),(2,.pt 8002 0 0),(3,bool M),(4,int 0),(5,u64 a),(6,ZD l),(7,int 0)],[(8002,.box 138 zW),(8001,.box 138 w.cells)],60⟩) .nrm (Tg.st ⟨tm 90 [(1,.pt 8001 0 0),(2,.pt 8002 0 0),(6,ZD l)],[(8002,.box 138 zW),(8001,.box 138 (Br w a l l.length).cells)],60⟩):=by
 have f:∀j,j<l.length->CH w a l j=0:=λj g=>by(have:=Lk.1 h j (Lf.2 g);simpa using this)
 exact Bw (S:=λk=>(Dz (Br w a l k) a l k).st) l.length kr (λk e=>Z94 _ a l k (Nf d a l k λj g=>f j oq).1 b hl (c _ (Bs.2 ⟨k,e,rfl⟩)) e (f k e)) (ZgV _ a l)
theorem Zdc(i:Nat)(n:(Lb l.length).find? (λk=>Z (CH w a l k≠0))=some i):CP (Zk f138 0) (Tg.st ⟨tm 90 [(1,.pt 8001 0 0),(2,.pt 8002 0 0),(3,bool M),(4,int 0),(5,u64 a),(6,ZD l),(7,int 0)],[(8002,.box 138 zW),(8001,.box 138 w.cells)],60⟩) .ret (Tg.st ⟨tm 90 [(2,.pt 8002 0 0),(3,bool M),(4,int (CH w a l i))],[(8002,.box 138 zW)],60⟩):=by
 obtain⟨h,e,m⟩:=Lm.1 n;have e:=Lf.1 e;have f:∀j,j<i->CH w a l j=0:=λj g=>by simpa using m j g
 exact G5 (S:=λk=>(Dz (Br w a l k) a l k).st) i kr (λk o=>Z94 _ a l k (Nf d a l k λj g=>f j oq).1 b hl (c _ (Bs.2 ⟨k,by omega,rfl⟩)) oq (f k o)) (ZjZ _ a l i (Nf d a l i f).1 b hl (c _ (Bs.2 ⟨i,e,rfl⟩)) e (of_decide_eq_true h))
end
def Z1X w(b:B7 w):GP 138 [w.av] M (.tu [(ZZ w).1.av,bool (ZZ w).2.1,int (ZZ w).2.2]) []:=by
 by_cases d:w.D<w.Q.length;have h2:=b.sc;have h1:=b.q _ (Bs.2 ⟨w.D.toNat,by omega,rfl⟩);have h3:=b.mu;have h:=IZ (Z1 w.heap.W (w.Q.getD w.D.toNat X)).1 (G2 b.W _).1;have i:Zu w (w.Q.getD w.D.toNat X)=(Z7 (Z1 w.heap.W (w.Q.getD w.D.toNat X)).1).1:=rfl;have h6:=Z1a (Zu w (w.Q.getD w.D.toNat X));rw[<-i]at h;unfold ZZ;rw[if_pos d];cases hb:(Lb (Bl w).length).find? (λk=>Z (CH w (Cb w) (Bl w) k≠0))with
 |none =>
  have g:∀j,j<(Bl w).length->CH w (Cb w) (Bl w) j=0:=λj l=>by(have:=Lk.1 hb j (Lf.2 l);simpa using this)
  have k1:=Nf b (Cb w) (Bl w) (Bl w).length g;have k2:=k1.1.rs;have k3:=k1.1.sc;have k4:=k1.1.mu;unfold Bl Cb at *;let a:=w.Q.getD w.D.toNat X;let f:=Br w a (ZC (Zu w a)) (ZC (Zu w a)).length;exact gF [] func138 [] (Fl 18 wdv w.Q (Ffb 19 (Z ((w.Q.length:Int)<=w.D)) (Fe 25 wdv w.Q w.D (Fc 29 (@Z6d w a aa oq) (Fc 30 (@Z4K (Zu w a) aa) (Fu (@ZiW w a (ZC (Zu w a)) aa aa oq (by grind[Hz]) aa) (Fi 78 (f.D+1) (Fi 83 (f.rep.steps+1) (Fl 85 idv (ZC (Zu w a)) (Fi 86 (f.rep.steps+1+(↑(ZC (Zu w a)).length:Int)) Fz))))))))))
 |some k =>unfold Bl Cb at *;let c:=w.Q.getD w.D.toNat X;exact gF [] func138 [] (Fl 18 wdv w.Q (Ffb 19 (Z ((w.Q.length:Int)<=w.D)) (Fe 25 wdv w.Q w.D (Fc 29 (@Z6d w c aa oq) (Fc 30 (@Z4K (Zu w c) aa) (Fu (@Zdc w c (ZC (Zu w c)) aa aa oq (by grind[GQ,B6]) k aa) (Fnl (Fnl (Fnl (Fnl (Fnl Fz)))))))))))
 have e:ZZ w=(w,M,0):=by rw[ZZ,if_neg d]
 rw[e];exact ZgB w b d
def PU{w}(a:B7 w)(e:(ZZ w).2.2=0):B7 (ZZ w).1/\((ZZ w).2.1=L->(ZZ w).1.D=w.D+1):=by
 by_cases b:w.D<w.Q.length;unfold ZZ at e⊢;rw[if_pos b]at e⊢;cases hb:(Lb (Bl w).length).find? (λk=>Z (CH w (Cb w) (Bl w) k≠0))with
 |none =>
  have c:∀j,j<(Bl w).length->CH w (Cb w) (Bl w) j=0:=λj d=>by(have:=Lk.1 hb j (Lf.2 d);simpa using this)
  have k1:=Nf a (Cb w) (Bl w) (Bl w).length c;have k2:=k1.1.rs;have k3:=k1.1.sc;have k5:=(Z1a (Zu w (Cb w))).1;have k6:=a.sc;simp only;refine⟨⟨k1.1.W,k1.1.wl,k1.1.C,k1.1.pl,k1.1.sp,k1.1.ol,k1.1.o,k1.1.tk,k1.1.tl,k1.1.q,k1.1.us,k1.1.mu, ?_,k1.1.rk, ?_,k1.1.r0⟩, ?_⟩;simp only[Hz];omega;simp only[Hz];unfold Bl at *;omega;intro _;simp only[Hz];omega
 |some k =>simp only[hb]at e;have:=(Lm.1 hb).1;simp[e]at this
 have e:ZZ w=(w,M,0):=by rw[ZZ,if_neg b]
 rw[e];exact⟨a,λh=>by cases h⟩
end Go.Proofs.YtgedmeaemofdkaaGreat
