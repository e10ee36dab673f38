/-
 The statement CollectRoom: part 14.
 Conditions: none.
-/
import Derived.Test.YtgedmeaemofdkaaGreatU13
set_option maxRecDepth 100000
set_option maxHeartbeats 2000000
set_option linter.all false
open Inhabited renaming default->M
open List renaming map->O,replicate->Le,getD_eq_getElem?_getD->Lf,range->Lg,length_map->Lj,mem_append_right->Lk,mem_range->Ll,getElem?_eq_getElem->Ln,map_append->Lo,append_assoc->Lp,mem_append_left->Lq,find?_eq_none->Lr,map_set->Lu,filter_append->Lw,length_append->Lx,sum_append->Ly,take->Lz,drop->LF,mem_filter->LG,find?_range_eq_some->LI,getElem?_map->LL,map_cons->LM,map_drop->LN,map_nil->LO,map_take->LQ,mem_append->LR,sum_cons->LS,sum_nil->LU,take_append_drop->LV,drop_eq_getElem_cons->LW,ext_getElem->LY,getElem?_append_left->LZ,getElem_map->L0,mem_singleton->L1,range_succ->L2,filter_cons->L7,getElem?_eq_none->L8,getElem_range->L9,getElem_set->Xa,length_cons->Xb,length_nil->Xc,length_set->Xd,length_singleton->Xe,nodup_nil->Xf,pairwise_append->Xg,take_length->Xh
open Bool renaming true->La,false->Ld
open Decidable renaming decide->Lb,not_not->LH
open Int renaming toNat->Lc,add_zero->Lt,toNat_natCast->Lv,add_assoc->LB,mul_comm->LC,mul_nonneg->LD,le_refl->L6
open Nat renaming le_refl->Lh,not_lt_zero->Ls,beq->LA,le_trans->L3,eq_of_beq_eq_true->Xi,zero_le->Xj
open Option renaming some->Li,none->Lm,getD_some->L4,map_eq_some_iff->L5
open Go.Proofs.Tryz
namespace Go.Proofs.YtgedmeaemofdkaaGreat
open Go.Sx
def Zde{c:ZY}{i o:Int}(a:Zs c=La)(h:0<=i/\i<c.pg/\0<=o/\o<c.pw):address c i o=(4096+(i*c.pw+o),0):=by unfold address;rw[if_pos a,if_pos (HU.2 h)]
def Z3N{w}(k:M3 w){i n o:Int}(a:0<=i/\i<w.heap.P.length)(hn:1<=n)(ho:0<=o/\o+n<=w.heap.C.pw):(address w.heap.C i o).2=0/\(address w.heap.C i o).1=4096+i*w.heap.C.pw+o/\4096<=(address w.heap.C i o).1/\(address w.heap.C i o).1-4096+n<=w.heap.W.length:=by have pl:=k.pl;have L:=k.L;have cf:=BD.1 k.C;have m:=EF (i:=i) (j:=w.heap.C.pg) (pw:=w.heap.C.pw) oq oq;rw[LC w.heap.C.pg]at m;have m0:0<=i*w.heap.C.pw:=LD a.1 oq;rw[Zde k.C oq];exact⟨rfl,by simp only;omega,by simp only;omega,by simp only;omega⟩
def ZaL{w}(k:Ir w)(h:0<=ZN w):M3 w.took/\(w.took.heap.P.getD (ZN w).toNat M).U=0:=by have sp:=k.ok.sp;obtain⟨f1,f2,f3,f4⟩:=NT (h:=⟨w.heap.C,w.heap.W,w.heap.P,1-w.heap.S,w.heap.B⟩) (by simp only;omega) h;have f2':(ER w).length=w.heap.P.length:=f2;have f4':(ER w).getD (ZN w).toNat M=⟨1,1-w.heap.S,0,0⟩:=f4;refine⟨⟨k.ok.C,k.ok.wl, ?_,k.L⟩, ?_⟩;show((ER w).length:Int)=_;rw[f2'];exact k.ok.pl;show((ER w).getD (ZN w).toNat M).U=0;rw[f4']
section
variable {w:Z6} {r:Int} (f:FwOk w r)
include f
theorem Z5c(e:(w.fwd r).2.2=0):BP 130 [.pt 0 0 0,u64 r] w.ckp (.tu [u64 (w.fwd r).2.1,int 0]) (w.fwd r).1.ckq:=by
 unfold Z6.fwd at e⊢;by_cases c1:r=0\/r∈w.Q;rw[if_pos c1];exact ME [0,1,6,3,7,8] 9 (Zh0 w r f.rg f.ck.ln c1) (by rfl) rfl rfl;rw[if_neg c1]at e⊢;have c1':r≠0:=λh=>c1 (Or.inl h);have c2:r∉w.Q:=λh=>c1 (Or.inr h);by_cases c3:r∈w.old;rotate_left;rw[if_pos c3]at e;cases e;rw[if_neg (by simpa using c3)]at e⊢;by_cases c4:(ZE (Z1 w.heap.W r).1).2=La;rw[if_pos c4];exact ME [0,1,6,3,7,8] 9 (Zbq w r f c1' c2 c3 c4) (by rfl) rfl rfl;rw[if_neg c4]at e⊢;have c4':(ZE (Z1 w.heap.W r).1).2=Ld:=by simpa using c4
 have h3:=f.ol c3;rw[if_neg (by rw[h3.2.2.1];simp)]at e⊢;by_cases c6:ZH w (Z2 w.heap.C r).1=La;rw[if_pos c6];exact ME [0,1,6,3,7,5,8] 9 (Zar w r f c1' c2 c3 c4' c6) (by rfl) rfl rfl;rw[if_neg c6]at e⊢;have c6':ZH w (Z2 w.heap.C r).1=Ld:=by simpa using c6
 by_cases c7:(w.heap.P.getD (Cx w r) M).K=2;rw[if_pos c7];exact ME [0,1,6,3,7,5,8] 9 (Zie w r f c1' c2 c3 c4' c6' c7) (by rfl) rfl rfl;rw[if_neg c7]at e⊢;have sz:=Re w r;have hl:=Gz w r;have en:(((Z5 (Zu w r)).toNat:Nat):Int)=Z5 (Zu w r):=Int.toNat_of_nonneg oq;have hpw:Z5 (Zu w r)<=w.heap.C.pw:=by(rcases f.sz c3 with q|q;exact absurd q c7;omega)
 have ok:=f.ck.ok;by_cases hf:E8 w (Z5 (Zu w r));have ep:w.place (Z5 (Zu w r))=(⟨⟨w.heap.C,w.heap.W,Cs w.heap.P (ZG w).toNat (Z5 (Zu w r)),w.heap.S,w.heap.B⟩,w.old,w.T,w.Q,w.D,w.rep⟩,4096+ZG w*w.heap.C.pw+(w.heap.P.getD (ZG w).toNat M).U,La):=by rw[Z6.place,if_pos hf]
 rw[ep];rw[if_neg pq];have hm:=ok.tk _ (GJ hf.1);have hu:=ok.us (ZG w).toNat oq;have ri:=Z3N f.ck.mem (i:=ZG w) (n:=Z5 (Zu w r)) (o:=(w.heap.P.getD (ZG w).toNat M).U) ⟨hm.1,hm.2.1⟩ sz.1 ⟨hu.1,hf.2⟩;have b:=Zh9 w r f c1' c2 c3 c4' c6' c7 hf ri.1 ri.2.2;rw[en,ri.2.1]at b;exact ME [0,1,6,3,7,5,8] 9 b (by rfl) rfl rfl;by_cases hg:0<=ZN w;have ep:w.place (Z5 (Zu w r))=(⟨⟨w.heap.C,w.heap.W,Cs (ER w) (ZN w).toNat (Z5 (Zu w r)),w.heap.S,w.heap.B⟩,w.old,w.T++[ZN w],w.Q,w.D,w.rep⟩,4096+ZN w*w.heap.C.pw,La):=by rw[Z6.place,if_neg hf,if_pos hg]
 rw[ep];rw[if_neg pq];obtain⟨t1,t2⟩:=ZaL f.ck hg;have ff:=HS hg;have ri:=Z3N f.ck.mem (i:=ZN w) (n:=Z5 (Zu w r)) (o:=0) ⟨hg,by unfold ZN;omega⟩ sz.1 ⟨L6 _,by omega⟩;have b:=Zfg w r f c1' c2 c3 c4' c6' c7 t1 oq hf hg ri.1 ri.2.2;rw[en,ri.2.1,Lt]at b;exact b;rw[Z6.place,if_neg hf,if_neg hg]at e;simp at e
theorem ZbE(e:¬ (w.fwd r).2.2=0):BP 130 [.pt 0 0 0,u64 r] w.ckp (.tu [u64 0,int (w.fwd r).2.2]) w.ckp:=by
 unfold Z6.fwd at e⊢;by_cases c1:r=0\/r∈w.Q;rw[if_pos c1]at e;exact absurd rfl e;rw[if_neg c1]at e⊢;have b:r≠0:=λh=>c1 (Or.inl h);have c2:r∉w.Q:=λh=>c1 (Or.inr h);by_cases c3:r∈w.old;rotate_left;rw[if_pos c3];exact Zg8 w r f.rg f.ck.ln b c2 c3;rw[if_neg (by simpa using c3)]at e⊢;by_cases c4:(ZE (Z1 w.heap.W r).1).2=La;rw[if_pos c4]at e;exact absurd rfl e;rw[if_neg c4]at e⊢;have c:(ZE (Z1 w.heap.W r).1).2=Ld:=by simpa using c4
 have l:=f.ol c3;rw[if_neg (by rw[l.2.2.1];simp)]at e⊢;by_cases d:ZH w (Z2 w.heap.C r).1=La;rw[if_pos d]at e;exact absurd rfl e;rw[if_neg d]at e⊢;have g:ZH w (Z2 w.heap.C r).1=Ld:=by simpa using d
 by_cases i:(w.heap.P.getD (Cx w r) M).K=2;rw[if_pos i]at e;exact absurd rfl e;rw[if_neg i]at e⊢;by_cases a:(w.place (Z5 (Zu w r))).2.2=Ld;rw[if_pos a];by_cases j:E8 w (Z5 (Zu w r));rw[Z6.place,if_pos j]at a;simp at a;by_cases k:0<=ZN w;rw[Z6.place,if_neg j,if_pos k]at a;simp at a;exact ZeD w r f b c2 c3 c g i j k;rw[if_neg a]at e;exact absurd rfl e
end
def Z3l w(a:Sz w):BP 129 [w.av] [] (.pt 0 0 0) w.ckp:=by obtain⟨h1,h2,h3,h4,h5⟩:=a;exact borF [] [16001,25006,25010,33017,33020,33023] func129 [] (Fc 6 (@TR w.heap.W aa) (Fc 10 (@Z0G w.heap.P aa) (Fc 17 (@TR w.old aa) (Fc 20 (@Zic w.T aa) (Fc 23 (@TR w.Q aa) Fz)))))
def Z6.ckD(w:Z6):Z4:=.box 177 w.cells
def Zab(w:Z6)(hs:w.heap.S=0\/w.heap.S=1):BP 180 [.pt 0 0 0] [w.ckD] (int (1-w.heap.S)) [w.ckD]:=by exact lF func180 [] (Fi 8 (1-w.heap.S) Fz)
structure Z37 (w:Z6):Prop where
 tl:w.T.length<=1000000
 pl:w.heap.P.length<=1000000
 sp:w.heap.S=0\/w.heap.S=1
 so:GX w.heap.P
def Ze9 w i(c:Z37 w):BP 178 [.pt 0 0 0,int i] [w.ckD] (bool (ZH w i)) [w.ckD]:=by have pl:=c.pl;have tl:=c.tl;have sp:=c.sp;have so:=λh=>c.so.at (i:=i.toNat) h;rcases bb (Lb (i<0)||Lb ((w.heap.P.length:Int)<=i))with hc0|hc0<;>have a:=hc0<;>simp only[bs]at a;exact lF func178 (fO 8) (FlG 15 (!decide (i<0)) Z0.dv w.heap.P (Ft 17 hc0 (Fa (by(simp[ZH, *];omega):Ld=ZH w i) Fz)));obtain⟨d,e⟩:=a;have g {h_ c_ p_} (j:Fq h_ c_ p_):=FlG 15 (!decide (i<0)) Z0.dv w.heap.P (Ff 17 hc0 (Fe 24 Z0.dv w.heap.P i j));rcases bb ((w.heap.P.getD i.toNat M).K==1)with hc1|hc1<;>have b:=hc1<;>simp only[bs]at b;exact lF func178 (fO 19) (Fh 28 [.br La] (g (Fa hc1 (Fbq 33 [0] (@Zab w aa) (FcG 42 (La&&(w.heap.P.getD i.toNat M).S==1-w.heap.S) (λf=>by(try simp only[bs]at f);exact@Z01 w.T i oq) (Fa (by grind[ZH]:((w.heap.P.getD i.toNat M).S==1-w.heap.S&&!decide (i∈w.T))=ZH w i) Fz))))));exact lF func178 (fO 19) (Fh 28 [.br Ld] (Fh 33 [.bor [0] (int (1-w.heap.S)) []] (g (Fa hc1 (FcG 42 (Ld&&(w.heap.P.getD i.toNat M).S==1-w.heap.S) (λf=>by(try simp only[bs]at f);exact@Z01 w.T i oq) (Fa (by(simp only[ZH] ;exact sj):Ld=ZH w i) Fz))))))
def Z7e w i(a:Z37 w):GP 133 [w.av,int i] La (bool (ZH w i)) []:=by have sp:=a.sp;have so:=λh=>a.so.at (i:=i.toNat) h;exact gF [] func133 [] (Fbq 8 [16005] (@Ze9 w i aa) Fz)
def Nn(w:Z6):List (Nat×Z4):=[(22014,Bc w.Q),(21014,EQ w.T),(20014,Bc w.old),(19014,EM w.heap.P),(18014,Bc w.heap.W),(17014,w.ckB 18014 19014 20014 21014 22014)]
def M2(w:Z6)(roots out:List Int)(i:Nat):Tg:=⟨tm 40 [(4,.pt 8004 0 0),(5,.d (.sl 0 [])),(6,int 0),(7,.pt 17014 0 0),(8,.ow 24008),(15,Z3 roots),(16,int roots.length),(17,int i)],(24008,.arr 35 1 (out.map wdv))::(8004,.box 127 zW)::Nn w,5⟩
section
variable (w:Z6) (roots out:List Int) (i:Nat) (f:FwOk w (roots.getD i M)) (hl:roots.length<=1048576) (ho:out.length<=1048576) (hi:i<roots.length)
include f hl ho hi
theorem Z7p(e:(w.fwd (roots.getD i M)).2.2=0):CP (Zo f77 0) (M2 w roots out i).st .nrm (M2 (w.fwd (roots.getD i M)).1 roots (out++[(w.fwd (roots.getD i M)).2.1]) (i+1)).st:=by let a:=w.fwd (roots.getD i M);exact sF [(72034,24008),(57024,19014),(58024,21014),(59024,22014)] [] (Fh 34 [.els (O wdv (out++[a.2.1]))] (Ftb 18 (Lb ((i:Int)<(roots.length:Int))) (Fek 19 wdv roots (↑i) i (Fbr 24 [17014,18014,19014,20014,21014,22014] (@Z5c w (roots.getD i M) aa aa) (Fs 33 (O wdv [a.2.1]) (Fa (by(simp[*];omega):(O wdv out).length+(O wdv [a.2.1]).length<=2^30) (Fa (ms:O wdv out++O wdv [a.2.1]=O wdv (out++[a.2.1])) (Fx 35 i Fz))))))))
theorem Zdi(e:¬ (w.fwd (roots.getD i M)).2.2=0):CP (Zo f77 0) (M2 w roots out i).st .ret (Tg.st ⟨tm 40 [(4,.pt 8004 0 0),(5,.d (.sl 0 [])),(6,int (w.fwd (roots.getD i M)).2.2)],[(8004,.box 127 zW)],60⟩):=by exact sF [] [] (Ftb 18 (Lb ((i:Int)<(roots.length:Int))) (Fek 19 wdv roots (↑i) i (Fbq 24 [17014,18014,19014,20014,21014,22014] (@ZbE w (roots.getD i M) aa aa) (Ftb 28 ((w.fwd (roots.getD i M)).2.2 != 0) Fz))))
end
def ZkI w roots out:CP (Zo f77 0) (M2 w roots out roots.length).st (.ext 0) (Tg.st ⟨tm 40 [(4,.pt 8004 0 0),(7,.pt 17014 0 0),(8,.ow 24008)],(24008,.arr 35 1 (out.map wdv))::(8004,.box 127 zW)::Nn w,5⟩):=by exact sF [] [] (Ffb 18 (Lb ((roots.length:Int)<(roots.length:Int))) Fz)
def Z1J(w:Z6)(roots:List Int):Prop:=∀k,k<roots.length->(∀j,j<k->CV w roots j=0)->FwOk (rootsN w roots k).1 (roots.getD k M)
section
variable (w:Z6) (roots:List Int) (hN:Z1J w roots) (hl:roots.length<=1048576)
include hN hl
theorem ZjP(c:(Lg roots.length).find? (λk=>Lb (CV w roots k≠0))=Lm):CP (Zk f77 0) (Tg.st ⟨tm 40 [(4,.pt 8004 0 0),(5,.d (.sl 0 [])),(6,int 0),(7,.pt 17014 0 0),(8,.ow 24008),(15,Z3 roots),(16,int roots.length),(17,int 0)],(24008,.arr 35 1 [])::(8004,.box 127 zW)::Nn w,5⟩) .nrm (Tg.st ⟨tm 40 [(4,.pt 8004 0 0),(7,.pt 17014 0 0),(8,.ow 24008)],(24008,.arr 35 1 ((rootsN w roots roots.length).2.map wdv))::(8004,.box 127 zW)::Nn (rootsN w roots roots.length).1,5⟩):=by
 have a:∀j,j<roots.length->CV w roots j=0:=λj b=>by(have:=Lr.1 c j (Ll.2 b);simpa using this)
 exact Bw (S:=λk=>(M2 (rootsN w roots k).1 roots (rootsN w roots k).2 k).st) roots.length kr (λk hk=>Z7p _ roots _ k (hN k hk λj b=>a j oq) hl (by rw[NM];omega) hk (a k hk)) (ZkI _ roots _)
theorem ZgF i(f:(Lg roots.length).find? (λk=>Lb (CV w roots k≠0))=Li i):CP (Zk f77 0) (Tg.st ⟨tm 40 [(4,.pt 8004 0 0),(5,.d (.sl 0 [])),(6,int 0),(7,.pt 17014 0 0),(8,.ow 24008),(15,Z3 roots),(16,int roots.length),(17,int 0)],(24008,.arr 35 1 [])::(8004,.box 127 zW)::Nn w,5⟩) .ret (Tg.st ⟨tm 40 [(4,.pt 8004 0 0),(5,.d (.sl 0 [])),(6,int (CV w roots i))],[(8004,.box 127 zW)],60⟩):=by
 obtain⟨d,a,e⟩:=LI.1 f;have a:=Ll.1 a;have b:∀j,j<i->CV w roots j=0:=λj c=>by simpa using e j c
 exact G5 (S:=λk=>(M2 (rootsN w roots k).1 roots (rootsN w roots k).2 k).st) i kr (λk hk=>Z7p _ roots _ k (hN k oq λj c=>b j oq) hl (by rw[NM];omega) oq (b k hk)) (Zdi _ roots _ i (hN i a b) hl (by rw[NM];omega) a (by simpa[CV]using d))
theorem ZdV(ln:Sz w):GP 77 [w.av,Z3 roots] La (.tu [(rootsF w roots).1.av,Z3 (rootsF w roots).2.1,int (rootsF w roots).2.2]) []:=by
 cases hb:(Lg roots.length).find? (λk=>Lb (CV w roots k≠0))with
 |none =>
  have e7:rootsF w roots=((rootsN w roots roots.length).1,(rootsN w roots roots.length).2,0):=by unfold rootsF;rw[hb]
  rw[e7];let y0:=rootsN w roots roots.length;exact gF [] func77 [] (Fh 8 [.own] (Fbr 14 [] (@Z3l w aa) (Fl 16 wdv roots (Fu (@ZjP w roots aa aa aa) (Fa (by exact Hh _:Ck (O wdv y0.1.heap.W)) (Fa (by exact IX _:Ck (O Z0.dv y0.1.heap.P)) (Fa (by exact Hh _:Ck (O wdv y0.1.old)) (Fa (by exact Dp _:Ck (O idv y0.1.T)) (Fa (by exact Hh _:Ck (O wdv y0.1.Q)) (Fa (by exact Hh _:Ck (O wdv y0.2)) Fz))))))))))
 |some i =>
  have e7:rootsF w roots=(GQ,[],CV w roots i):=by unfold rootsF;rw[hb]
  rw[e7];exact gF [] func77 [] (Fh 8 [.own] (Fbr 14 [] (@Z3l w aa) (Fl 16 wdv roots (Fu (@ZgF w roots aa aa i aa) (Fnl (Fnl (Fnl (Fnl (Fnl (Fnl Fz))))))))))
end
def Z5O(h:Zy)(i:Int)(hm:0<=h.map/\h.map<=4294967295):GP 162 [h.av,int i] La (bool (Bo h i)) []:=by
 rcases bb (!ZR h||Lb (i<0)||Lb (h.length<=i))with hc0|hc0<;>have hc0p:=hc0<;>simp only[bs]at hc0p
 .exact gF [] func162 (fO 6) (Fc 6 (@SH h aa) (Ft 17 hc0 (Fa (by grind[Bo]:Ld=Bo h i) Fz)))
 .obtain⟨⟨hc0paa,hc0pab⟩,hc0pb⟩:=hc0p;have hf3:=Gl.1 hc0paa;obtain⟨hf3a,⟨hf3ba,⟨hf3bba,⟨hf3bbba,hf3bbbb⟩⟩⟩⟩:=hf3;exact gF [] func162 (fO 17) (Fc 6 (@SH h aa) (Ff 17 hc0 (Fa (by intro hg;(try simp only[bs]at hg);omega:(!h.K==2&&h.K==1)=La->0<=i) (Fa (by exact Z7y h i hm aa oq oq:(h.K==2||h.K==1&&bits BinOp.and IntKind.u32 (h.map.fdiv (2^min i.toNat 32)) (1:Int)==1)=Bo h i) Fz))))
def Ou(h:Zy)(i:Nat):Tg:=⟨tm 19 [(1,.pt 8001 0 0),(2,.d (.sl 0 [])),(3,.ow 16003),(6,int (Z5 h)),(7,int i)],[(16003,.arr 3 1 ((C6 h i).map idv)),(8001,.box 52 [int h.K,int h.length,u32 h.map])],60⟩
def ZhU(h:Zy)(i:Nat)(hm:0<=h.map/\h.map<=4294967295)(hi:(i:Int)<Z5 h):CP (Zo f110 0) (Ou h i).st .nrm (Ou h (i+1)).st:=by
 have hn:=T9 h i;have hs:=Ic h;by_cases a:Bo h (i:Int)=La;have e:C6 h (i+1)=C6 h i++[(i:Int)]:=by rw[C6,if_pos a]
 exact sF [(504016,16003)] (fO 5) (Fh 12 [.call La (Sx.bool (Bo h (i:Int))) [],.br La] (Fh 16 [.els (O idv (C6 h i++[(i:Int)]))] (Ftb 8 (Lb ((i:Int)<Z5 h)) (Fa (@Z5O h ((i:Int)) aa) (Fa ‹Bo h (i:Int)=La› (Fs 15 (O idv [(i:Int)]) (Fa (by(simp[*];omega):(O idv (C6 h i)).length+(O idv [(i:Int)]).length<=2^30) (Fa (ms:O idv (C6 h i)++O idv [(i:Int)]=O idv (C6 h i++[(i:Int)])) (Fx 17 i (Fr (3:Int) (Fa (by refine congrArg _ ?_;rw[e]:O idv (C6 h i++[(i:Int)])=O idv (C6 h (i+1))) Fz)))))))))));have e:C6 h (i+1)=C6 h i:=by rw[C6,if_neg a]
 have b:Bo h (i:Int)=Ld:=by simpa using a
 exact sF [] (fO 5) (Fh 12 [.call La (Sx.bool (Bo h (i:Int))) [],.br Ld] (Ftb 8 (Lb ((i:Int)<Z5 h)) (Fa (@Z5O h ((i:Int)) aa) (Fa ‹Bo h (i:Int)=Ld› (Fx 17 i (Fr (3:Int) (Fa (by refine congrArg _ ?_;rw[e]:O idv (C6 h i)=O idv (C6 h (i+1))) Fz)))))))
def ZgE(h:Zy)(i:Nat)(hi:(i:Int)=Z5 h):CP (Zo f110 0) (Ou h i).st (.ext 0) (Tg.st ⟨tm 19 [(2,.d (.sl 0 [])),(3,.ow 16003)],[(16003,.arr 3 1 ((C6 h i).map idv))],60⟩):=by exact sF [] [] (Ffb 8 (Lb ((i:Int)<Z5 h)) Fz)
def Z7r(h:Zy):C6 h (Z5 h).toNat=ZC h:=by unfold ZC Z5;by_cases a:ZR h=La;rw[if_pos a,if_pos a];have hb:=Gl.1 a;rw[show(h.length+1).toNat=h.length.toNat+1 from by omega,C6,if_neg];unfold Bo;simp;omega;rw[if_neg a,if_neg a];rfl
def ZfT(h:Zy)(a:0<=h.map/\h.map<=4294967295):CP (Zk f110 0) (Tg.st ⟨tm 19 [(1,.pt 8001 0 0),(2,.d (.sl 0 [])),(3,.ow 16003),(6,int (Z5 h)),(7,int 0)],[(16003,.arr 3 1 []),(8001,.box 52 [int h.K,int h.length,u32 h.map])],60⟩) .nrm (Tg.st ⟨tm 19 [(2,.d (.sl 0 [])),(3,.ow 16003)],[(16003,.arr 3 1 ((ZC h).map idv))],60⟩):=by have hs:=Ic h;rw[<-Z7r];exact Bw (S:=λi=>(Ou h i).st) (Z5 h).toNat kr (λi hi=>ZhU h i a oq) (ZgE h _ oq)
def Z3j(h:Zy)(hm:0<=h.map/\h.map<=4294967295):GP 110 [h.av] La (.d (.sl 1 ((ZC h).map idv))) []:=by exact gF [] func110 [] (Fh 3 [.own] (Fc 6 (@EN h aa) (Fu (@ZfT h aa) (Fa (by exact Dp _:Ck (O idv (ZC h))) Fz))))
def SY(h:Heap)(i:Nat):Tg:=⟨tm 19 [(1,int i),(2,.pt 8002 0 0),(4,int 0)],[(8002,.box 28 h.cells)],60⟩
def ZdD(h:Heap)(i:Nat)(hi:i+1<h.P.length)(hl:h.P.length<=1048576)(hk:(h.P.getD (i+1) M).K=3):CP (Zo f247 0) (SY h (i+1)).st .nrm (SY h i).st:=by
 have ei:((i+1:Nat):Int)-1=(i:Int):=by omega
 exact sF [] [] (FeG 11 (Lb (0<(↑(i+1):Int))) Z0.dv h.P (↑(i+1):Int) (i+1) (Ftb 15 (Lb (0<(↑(i+1):Int))&&(h.P.getD (i+1) M).K==3) (Fg 17 (by rw[CY oq oq];omega:IntKind.i64.wrap ((↑(i+1):Int)-1)=(i:Int)) Fz)))
def Z84(h:Heap)(i:Nat)(hi:i<h.P.length)(hl:h.P.length<=1048576)(hk:¬ (h.P.getD i M).K=3):CP (Zo f247 0) (SY h i).st (.ext 0) (Tg.st ⟨tm 19 [(1,int i),(4,int 0)],[],60⟩):=by exact sF [] [] (FeG 11 (Lb (0<(i:Int))) Z0.dv h.P (↑i) i (Ffb 15 (Lb (0<(i:Int))&&(h.P.getD i M).K==3) Fz))
def Z9f(h:Heap)(a:Z8 h=La)(hl:h.P.length<=1048576):∀i,i<h.P.length->Ga prog f247 0 (SY h i).st (.ext 0) (Tg.st ⟨tm 19 [(1,int (ZX h.P i)),(4,int 0)],[],60⟩)
 |0,hi=>.endx (Z84 h 0 hi hl (Z7A a))
 |i+1,hi=>by
  unfold ZX;by_cases hk:(h.P.getD (i+1) M).K=3
  .rw[if_pos hk];exact .next (ZdD h i hi hl hk) (Z9f h a hl i oq)
  .rw[if_neg hk];exact .endx (Z84 h (i+1) hi hl hk)
def ZaX(h:Heap)(i:Nat)(b:Z8 h=La)(a:i<h.P.length)(hl:h.P.length<=1048576):CP (Zk f247 0) (SY h i).st .nrm (Tg.st ⟨tm 19 [(1,int (ZX h.P i)),(4,int 0)],[],60⟩):=
 (Z9f h b hl i a).ext kr
def Zfo(h:Heap)(i:Nat)(a:Z8 h=La)(hi:i<h.P.length):GP 247 [h.av,int i] La (int (ZX h.P i)) []:=by have po:=B1 a;exact gF [] func247 [] (Fu (@ZaX h i aa aa oq) Fz)
def AX(h:Heap)(i:Int)(l:List Int)(n:Nat):Tg:=⟨tm 58 [(1,int i),(3,.pt 8003 0 0),(6,u64 0),(7,bool Ld),(13,Z3 l),(14,int l.length),(15,int n)],[(8003,.box 28 h.cells)],60⟩
section
variable (h:Heap) (i:Int) (l:List Int) (n:Nat) (a:Zx h.W) (hl:l.length<=1048576) (b:0<=i/\i<h.P.length) (c:h.P.length<=1048576) (hr:∀x∈l,0<=x/\x<=8192)
include a hl b c hr
theorem Z3Z(g:n<l.length)(f:Gp h i (l.getD n M)=Ld):CP (Zo f228 0) (AX h i l n).st .nrm (AX h i l (n+1)).st:=by have hx:=hr (l.getD n M) (Bs.2 ⟨n,g,rfl⟩);have hm:=IC a (l.getD n M);simp only[Gp,bs]at f;let d:=Z9 h (l.getD n M);let e:=h.P.getD i.toNat M;exact sF [] [] (Ftb 16 (Lb ((n:Int)<(l.length:Int))) (Fek 17 wdv l (↑n) n (Fc 22 (@Nk h (l.getD n M) aa oq) (Fc 26 (@EN (d.1) aa) (Fc 29 (@Oi h.C) (Fe 34 Z0.dv h.P i (FeGq 46 (!(e.K==1&&!decide (Z5 d.1<=Zb h.C))) Z0.dv h.P i (Ffb 55 (e.K==1&&!decide (Z5 d.1<=Zb h.C)||e.K==2&&d.1.K==0) (Fx 57 n Fz)))))))))
theorem Zhp(g:n<l.length)(f:Gp h i (l.getD n M)=La):CP (Zo f228 0) (AX h i l n).st .ret (Tg.st ⟨tm 58 [(6,u64 (l.getD n M)),(7,bool La)],[],60⟩):=by have hx:=hr (l.getD n M) (Bs.2 ⟨n,g,rfl⟩);have hm:=IC a (l.getD n M);simp only[Gp,bs]at f;let d:=Z9 h (l.getD n M);let e:=h.P.getD i.toNat M;exact sF [] [] (Ftb 16 (Lb ((n:Int)<(l.length:Int))) (Fek 17 wdv l (↑n) n (Fc 22 (@Nk h (l.getD n M) aa oq) (Fc 26 (@EN (d.1) aa) (Fc 29 (@Oi h.C) (Fe 34 Z0.dv h.P i (FeGq 46 (!(e.K==1&&!decide (Z5 d.1<=Zb h.C))) Z0.dv h.P i (Ftb 55 (e.K==1&&!decide (Z5 d.1<=Zb h.C)||e.K==2&&d.1.K==0) Fz))))))))
omit a hl b c hr in
theorem Zh3:CP (Zo f228 0) (AX h i l l.length).st (.ext 0) (Tg.st ⟨tm 58 [(6,u64 0),(7,bool Ld)],[],60⟩):=by exact sF [] [] (Ffb 16 (Lb ((l.length:Int)<(l.length:Int))) Fz)
end
def Zfx(h:Heap)(i:Int)(l:List Int)(e:Zx h.W)(hl:l.length<=1048576)(c:0<=i/\i<h.P.length)(d:h.P.length<=1048576)(hr:∀x∈l,0<=x/\x<=8192)(b:l.find? (Gp h i)=Lm) :CP (Zk f228 0) (Tg.st ⟨tm 58 [(1,int i),(3,.pt 8003 0 0),(6,u64 0),(7,bool Ld),(13,Z3 l),(14,int l.length),(15,int 0)],[(8003,.box 28 h.cells)],60⟩) .nrm (Tg.st ⟨tm 58 [(6,u64 0),(7,bool Ld)],[],60⟩):=
 Bw (S:=λn=>(AX h i l n).st) l.length kr (λn a=>Z3Z h i l n e hl c d hr a (Z0c b n a)) (Zh3 h i l)
def ZdI(h:Heap)(i:Int)(l:List Int)(x:Int)(c:Zx h.W)(hl:l.length<=1048576)(a:0<=i/\i<h.P.length)(b:h.P.length<=1048576)(hr:∀x∈l,0<=x/\x<=8192)(j:l.find? (Gp h i)=Li x) :CP (Zk f228 0) (Tg.st ⟨tm 58 [(1,int i),(3,.pt 8003 0 0),(6,u64 0),(7,bool Ld),(13,Z3 l),(14,int l.length),(15,int 0)],[(8003,.box 28 h.cells)],60⟩) .ret (Tg.st ⟨tm 58 [(6,u64 x),(7,bool La)],[],60⟩):=by obtain⟨n,d,e,f,g⟩:=Aw j;subst e;exact G5 (S:=λn=>(AX h i l n).st) n kr (λm k=>Z3Z h i l m c hl a b hr oq (g m k)) (Zhp h i l n c hl a b hr d f)
def G6(h:Heap)(i:Int)(l:List Int):Bool:=(l.find? (Gp h i)).isSome
def Du(h:Heap)(i:Int)(l:List Int)(hw:Zx h.W)(hl:l.length<=1048576)(hp:h.P.length<=1048576)(hi:0<=i/\i<h.P.length)(hr:∀x∈l,0<=x/\x<=8192):GP 228 [h.av,int i,Z3 l] La (.tu [u64 (Cq h i l),bool (G6 h i l)]) []:=by
 cases hf:l.find? (Gp h i)with
 |none =>
  have a:Cq h i l=0:=by rw[Cq,hf];rfl
  have b:G6 h i l=Ld:=by rw[G6,hf];rfl
  rw[a,b];exact gF [] func228 [] (Fl 14 wdv l (Fu (@Zfx h i l aa aa aa aa aa aa) Fz))
 |some x =>
  have a:Cq h i l=x:=by rw[Cq,hf];rfl
  have b:G6 h i l=La:=by rw[G6,hf];rfl
  rw[a,b];exact gF [] func228 [] (Fl 14 wdv l (Fu (@ZdI h i l x aa aa aa aa aa aa) Fz))
def Zhe w(a:Sz w)(sc:0<=w.D)(hs:¬ w.D<w.Q.length):BP 131 [.pt 0 0 0] w.ckp (.tu [bool Ld,int 0]) w.ckp:=by obtain⟨h1,h2,h3,h4,h5⟩:=a;exact borF [0,1,2,3,4,5] [] func131 [] (FlG 28 (!decide (w.D<0)) wdv w.Q (Ftb 30 (Lb (w.D<0)||Lb ((w.Q.length:Int)<=w.D)) Fz))
def Zag{ws:List Int}{a v:Int}(h:4096<=a/\a<4096+ws.length):(BQ ws a v).1=ws.set (a-4096).toNat v:=by unfold BQ ZS;rw[if_pos (by simp only[Xb,Xc];omega)];exact Z6Q oq
def RN(w:Z6):List (Nat×Z4):=[(0,w.ckB 1 8002 3 8004 8005),(1,Bc w.heap.W),(8002,EM w.heap.P),(3,Bc w.old),(8004,EQ w.T),(8005,Bc w.Q)]
def Pu(w:Z6)(a n:Int)(l:List Int)(k:Nat):Tg:=⟨tm 116 [(0,.pt 0 0 0),(2,bool Ld),(3,int 0),(5,.os 1 (a-4096).toNat n.toNat),(9,ZD l),(72,ZD l),(73,int l.length),(74,int k)],RN w,12⟩
section
variable (w:Z6) (a n:Int) (l:List Int) (k:Nat) (hk:k<l.length) (b:l.length<=255) (hx:0<=l.getD k M/\l.getD k M+1<n) (hn:n<=256) (ha:4096<=a/\a-4096+n<=w.heap.W.length) (f:FwOk w (Z1 w.heap.W (a+1+l.getD k M)).1)
include hk b hx hn ha f
theorem ZfK(e:(w.fwd (Z1 w.heap.W (a+1+l.getD k M)).1).2.2=0)(c:(w.fwd (Z1 w.heap.W (a+1+l.getD k M)).1).1.heap.W.length=w.heap.W.length):CP (Zo f131 0) (Pu w a n l k).st .nrm (Pu (w.in1 (a+1+l.getD k M)) a n l (k+1)).st:=by
 have d:(Z1 w.heap.W (a+1+l.getD k M)).1=w.heap.W.getD ((a-4096).toNat+(1+l.getD k M).toNat) M:=by(unfold Z1;rw[if_pos oq,show(a-4096).toNat+(1+l.getD k M).toNat=(a+1+l.getD k M-4096).toNat by omega];rfl)
 have wl:=f.ck.ok.wl;have g:(w.in1 (a+1+l.getD k M))=⟨⟨(w.fwd (Z1 w.heap.W (a+1+l.getD k M)).1).1.heap.C,(w.fwd (Z1 w.heap.W (a+1+l.getD k M)).1).1.heap.W.set ((a-4096).toNat+(1+l.getD k M).toNat) (w.fwd (Z1 w.heap.W (a+1+l.getD k M)).1).2.1,(w.fwd (Z1 w.heap.W (a+1+l.getD k M)).1).1.heap.P,(w.fwd (Z1 w.heap.W (a+1+l.getD k M)).1).1.heap.S,(w.fwd (Z1 w.heap.W (a+1+l.getD k M)).1).1.heap.B⟩,(w.fwd (Z1 w.heap.W (a+1+l.getD k M)).1).1.old,(w.fwd (Z1 w.heap.W (a+1+l.getD k M)).1).1.T,(w.fwd (Z1 w.heap.W (a+1+l.getD k M)).1).1.Q,(w.fwd (Z1 w.heap.W (a+1+l.getD k M)).1).1.D,(w.fwd (Z1 w.heap.W (a+1+l.getD k M)).1).1.rep⟩:=by(unfold Z6.in1;rw[Zag oq,show(a-4096).toNat+(1+l.getD k M).toNat=(a+1+l.getD k M-4096).toNat by omega])
 rw[g];rw[d]at e c f⊢;exact sF [(113085,8002),(114085,8004),(115085,8005)] [] (Fh 84 [.el (wdv (w.heap.W.getD ((a-4096).toNat+(1+l.getD k M).toNat) M))] (Fh 10095 [.els (O wdv ((w.fwd (w.heap.W.getD ((a-4096).toNat+(1+l.getD k M).toNat) M)).1.heap.W.set ((a-4096).toNat+(1+l.getD k M).toNat) (w.fwd (w.heap.W.getD ((a-4096).toNat+(1+l.getD k M).toNat) M)).2.1))] (Ftb 75 (Lb ((k:Int)<(l.length:Int))) (Fek 76 idv l (↑k) k (Fi 82 (1+l.getD k M) (Fo ((0:Int)<=1+l.getD k M/\(1+l.getD k M).toNat<n.toNat) (Fa (by exact B4 oq:(O wdv w.heap.W)[(a-4096).toNat+(1+l.getD k M).toNat]?=Li (wdv (w.heap.W.getD ((a-4096).toNat+(1+l.getD k M).toNat) M))) (Fbr 85 [0,1,8002,3,8004,8005] (@Z5c w (w.heap.W.getD ((a-4096).toNat+(1+l.getD k M).toNat) M) aa aa) (Fi 93 (1+l.getD k M) (Fo ((0:Int)<=1+l.getD k M/\(1+l.getD k M).toNat<n.toNat) (Fa (by(simp only[Lj];omega):(a-4096).toNat+(1+l.getD k M).toNat<(O wdv (w.fwd (w.heap.W.getD ((a-4096).toNat+(1+l.getD k M).toNat) M)).1.heap.W).length) (Fa (ms:(O wdv (w.fwd (w.heap.W.getD ((a-4096).toNat+(1+l.getD k M).toNat) M)).1.heap.W).set ((a-4096).toNat+(1+l.getD k M).toNat) [B2 (w.fwd (w.heap.W.getD ((a-4096).toNat+(1+l.getD k M).toNat) M)).2.1]=O wdv ((w.fwd (w.heap.W.getD ((a-4096).toNat+(1+l.getD k M).toNat) M)).1.heap.W.set ((a-4096).toNat+(1+l.getD k M).toNat) (w.fwd (w.heap.W.getD ((a-4096).toNat+(1+l.getD k M).toNat) M)).2.1)) (Fx 96 k Fz)))))))))))))
end
def Zeh w a n l:CP (Zo f131 0) (Pu w a n l l.length).st (.ext 0) (Tg.st ⟨tm 116 [(0,.pt 0 0 0),(9,ZD l)],RN w,12⟩):=by exact sF [] [] (Ffb 75 (Lb ((l.length:Int)<(l.length:Int))) Fz)
structure Z1v (w:Z6) (a:Int) (l:List Int):Prop where
 f:∀k,k<l.length->(∀j,j<k->CH w a l j=0)->FwOk (Br w a l k) (Z1 (Br w a l k).heap.W (a+1+l.getD k M)).1
 h:∀k,k<=l.length->(∀j,j<k->CH w a l j=0)->(Br w a l k).heap.W.length=w.heap.W.length
 m:∀k,k<l.length->(∀j,j<k->CH w a l j=0)->((Br w a l k).fwd (Z1 (Br w a l k).heap.W (a+1+l.getD k M)).1).2.2=0->((Br w a l k).fwd (Z1 (Br w a l k).heap.W (a+1+l.getD k M)).1).1.heap.W.length=w.heap.W.length
section
variable (w:Z6) (a n:Int) (l:List Int) (hN:Z1v w a l) (b:l.length<=255) (hr:∀x∈l,0<=x/\x+1<n) (d:n<=256) (c:4096<=a/\a-4096+n<=w.heap.W.length)
include hN b hr d c
theorem Zih(i:(Lg l.length).find? (λk=>Lb (CH w a l k≠0))=Lm):CP (Zk f131 0) (Tg.st ⟨tm 116 [(0,.pt 0 0 0),(2,bool Ld),(3,int 0),(5,.os 1 (a-4096).toNat n.toNat),(9,ZD l),(72,ZD l),(73,int l.length),(74,int 0)],RN w,12⟩) .nrm (Tg.st ⟨tm 116 [(0,.pt 0 0 0),(9,ZD l)],RN (Br w a l l.length),12⟩):=by
 have f:∀j,j<l.length->CH w a l j=0:=λj h=>by(have:=Lr.1 i j (Ll.2 h);simpa using this)
 have m:∀k,k<l.length->0<=l.getD k M/\l.getD k M+1<n:=λk hk=>hr _ (Bs.2 ⟨k,hk,rfl⟩);exact Bw (S:=λk=>(Pu (Br w a l k) a n l k).st) l.length kr (λk hk=>by
  have e:∀j,j<k->CH w a l j=0:=λj h=>f j oq;have g:=hN.h k oq e;exact ZfK _ a n l k hk b (m k hk) d (by rw[g];exact c) (hN.f k hk e) (f k hk) ((hN.m k hk e (f k hk)).trans g.symm)) (Zeh _ a n l)
end
def Zft w(k:Ir w)(hs:w.D<w.Q.length)(sc:0<=w.D)(hr:4096<=w.Q.getD w.D.toNat M/\w.Q.getD w.D.toNat M+Zl w.heap.W (w.Q.getD w.D.toNat M)<4096+w.heap.W.length)(hd:(Z7 (Z1 w.heap.W (w.Q.getD w.D.toNat M)).1).2=La)(hN:Z1v w (Cb w) (Bl w))(a:∀j,j<(Bl w).length->CH w (Cb w) (Bl w) j=0):BP 131 [.pt 0 0 0] w.ckp (.tu [bool La,int 0]) (Hz (Br w (Cb w) (Bl w) (Bl w).length) (Bl w).length).ckq:=by
 have c:(Lg (Bl w).length).find? (λk=>Lb (CH w (Cb w) (Bl w) k≠0))=Lm:=Lr.2 λj d=>by simp[a j (Ll.1 d)]
 have f:=k.mem;obtain⟨h1,h2,h3,h4,h5⟩:=k.ln;have ok:=k.ok;have k1:=Nf ok (Cb w) (Bl w) (Bl w).length a;have g:=k1.1.rs;have h:=k1.1.sc;have i:=k1.1.mu;have pr:=(Z1a (Zu w (Cb w)));have pl:∀x∈Bl w,0<=x/\x+1<Zl w.heap.W (Cb w)+1:=λx hx=>by(have:=SL (Zu w (Cb w)) x hx;unfold Zu at this;unfold Zl;omega)
 have lr:=Bm w.heap.W (w.Q.getD w.D.toNat M);have cf:=BD.1 ok.C;have ld:=G2 ok.W (w.Q.getD w.D.toNat M);have b:=Gz w (w.Q.getD w.D.toNat M);have l:=Re w (w.Q.getD w.D.toNat M);have e:=IZ (Z1 w.heap.W (w.Q.getD w.D.toNat M)).1 ld.1;have el:(Z1 w.heap.W (w.Q.getD w.D.toNat M)).1=w.heap.W.getD ((w.Q.getD w.D.toNat M-4096).toNat+Lc 0) M:=by(unfold Z1;rw[if_pos oq];rfl)
 unfold Bl Cb Zu at *;rw[el]at hd ld b l e hN a c k1 g h i pr⊢;try rw[el]at pl
 rw[show Hz (Br w (w.Q.getD w.D.toNat M) (ZC (Z7 (w.heap.W.getD ((w.Q.getD w.D.toNat M-(4096:Int)).toNat+Lc (0:Int)) M)).1) (ZC (Z7 (w.heap.W.getD ((w.Q.getD w.D.toNat M-(4096:Int)).toNat+Lc (0:Int)) M)).1).length) (↑(ZC (Z7 (w.heap.W.getD ((w.Q.getD w.D.toNat M-(4096:Int)).toNat+Lc (0:Int)) M)).1).length:Int)=Z6.mk (Br w (w.Q.getD w.D.toNat M) (ZC (Z7 (w.heap.W.getD ((w.Q.getD w.D.toNat M-(4096:Int)).toNat+Lc (0:Int)) M)).1) (ZC (Z7 (w.heap.W.getD ((w.Q.getD w.D.toNat M-(4096:Int)).toNat+Lc (0:Int)) M)).1).length).heap (Br w (w.Q.getD w.D.toNat M) (ZC (Z7 (w.heap.W.getD ((w.Q.getD w.D.toNat M-(4096:Int)).toNat+Lc (0:Int)) M)).1) (ZC (Z7 (w.heap.W.getD ((w.Q.getD w.D.toNat M-(4096:Int)).toNat+Lc (0:Int)) M)).1).length).old (Br w (w.Q.getD w.D.toNat M) (ZC (Z7 (w.heap.W.getD ((w.Q.getD w.D.toNat M-(4096:Int)).toNat+Lc (0:Int)) M)).1) (ZC (Z7 (w.heap.W.getD ((w.Q.getD w.D.toNat M-(4096:Int)).toNat+Lc (0:Int)) M)).1).length).T (Br w (w.Q.getD w.D.toNat M) (ZC (Z7 (w.heap.W.getD ((w.Q.getD w.D.toNat M-(4096:Int)).toNat+Lc (0:Int)) M)).1) (ZC (Z7 (w.heap.W.getD ((w.Q.getD w.D.toNat M-(4096:Int)).toNat+Lc (0:Int)) M)).1).length).Q ((Br w (w.Q.getD w.D.toNat M) (ZC (Z7 (w.heap.W.getD ((w.Q.getD w.D.toNat M-(4096:Int)).toNat+Lc (0:Int)) M)).1) (ZC (Z7 (w.heap.W.getD ((w.Q.getD w.D.toNat M-(4096:Int)).toNat+Lc (0:Int)) M)).1).length).D+(1:Int)) (Rep.mk (Br w (w.Q.getD w.D.toNat M) (ZC (Z7 (w.heap.W.getD ((w.Q.getD w.D.toNat M-(4096:Int)).toNat+Lc (0:Int)) M)).1) (ZC (Z7 (w.heap.W.getD ((w.Q.getD w.D.toNat M-(4096:Int)).toNat+Lc (0:Int)) M)).1).length).rep.copied (Br w (w.Q.getD w.D.toNat M) (ZC (Z7 (w.heap.W.getD ((w.Q.getD w.D.toNat M-(4096:Int)).toNat+Lc (0:Int)) M)).1) (ZC (Z7 (w.heap.W.getD ((w.Q.getD w.D.toNat M-(4096:Int)).toNat+Lc (0:Int)) M)).1).length).rep.kept (Br w (w.Q.getD w.D.toNat M) (ZC (Z7 (w.heap.W.getD ((w.Q.getD w.D.toNat M-(4096:Int)).toNat+Lc (0:Int)) M)).1) (ZC (Z7 (w.heap.W.getD ((w.Q.getD w.D.toNat M-(4096:Int)).toNat+Lc (0:Int)) M)).1).length).rep.filled (Br w (w.Q.getD w.D.toNat M) (ZC (Z7 (w.heap.W.getD ((w.Q.getD w.D.toNat M-(4096:Int)).toNat+Lc (0:Int)) M)).1) (ZC (Z7 (w.heap.W.getD ((w.Q.getD w.D.toNat M-(4096:Int)).toNat+Lc (0:Int)) M)).1).length).rep.freed (Br w (w.Q.getD w.D.toNat M) (ZC (Z7 (w.heap.W.getD ((w.Q.getD w.D.toNat M-(4096:Int)).toNat+Lc (0:Int)) M)).1) (ZC (Z7 (w.heap.W.getD ((w.Q.getD w.D.toNat M-(4096:Int)).toNat+Lc (0:Int)) M)).1).length).rep.cleared ((Br w (w.Q.getD w.D.toNat M) (ZC (Z7 (w.heap.W.getD ((w.Q.getD w.D.toNat M-(4096:Int)).toNat+Lc (0:Int)) M)).1) (ZC (Z7 (w.heap.W.getD ((w.Q.getD w.D.toNat M-(4096:Int)).toNat+Lc (0:Int)) M)).1).length).rep.steps+((1:Int)+(↑(ZC (Z7 (w.heap.W.getD ((w.Q.getD w.D.toNat M-(4096:Int)).toNat+Lc (0:Int)) M)).1).length:Int))))from by(simp[Hz, *];omega)];exact borF [0,1,8002,3,8004,8005] [8002,8004,8005] func131 [] (Fh 52 [.el (wdv (w.heap.W.getD ((w.Q.getD w.D.toNat M-4096).toNat+Lc 0) M))] (FlG 28 (!decide (w.D<0)) wdv w.Q (Ffb 30 (Lb (w.D<0)||Lb ((w.Q.length:Int)<=w.D)) (Fmq 40 wdv w.Q w.D (Fbq 44 [0,1,8002,3,8004,8005] (@Hd w (w.Q.getD w.D.toNat M) (1) aa oq) (Fo ((0:Int)<=0/\Lc 0<Lc 1) (Fa (by exact B4 oq:(O wdv w.heap.W)[(w.Q.getD w.D.toNat M-4096).toNat+Lc 0]?=Li (wdv (w.heap.W.getD ((w.Q.getD w.D.toNat M-4096).toNat+Lc 0) M))) (Fc 53 (@H2 (w.heap.W.getD ((w.Q.getD w.D.toNat M-4096).toNat+Lc 0) M) oq oq) (Fc 60 (@EN ((Z7 (w.heap.W.getD ((w.Q.getD w.D.toNat M-4096).toNat+Lc 0) M)).1) aa) (Fbq 61 [0,1,8002,3,8004,8005] (@Hd w (w.Q.getD w.D.toNat M) (Z5 (Z7 (w.heap.W.getD ((w.Q.getD w.D.toNat M-4096).toNat+Lc 0) M)).1) aa oq) (Ffs 69 (!(Z7 (w.heap.W.getD ((w.Q.getD w.D.toNat M-4096).toNat+Lc 0) M)).2||Ld) (Fc 71 (@Z3j ((Z7 (w.heap.W.getD ((w.Q.getD w.D.toNat M-4096).toNat+Lc 0) M)).1) aa) (Fl 73 idv (ZC (Z7 (w.heap.W.getD ((w.Q.getD w.D.toNat M-(4096:Int)).toNat+Lc (0:Int)) M)).1) (Fu (@Zih w (w.Q.getD w.D.toNat M) (Z5 (Z7 (w.heap.W.getD ((w.Q.getD w.D.toNat M-4096).toNat+Lc 0) M)).1) (ZC (Z7 (w.heap.W.getD ((w.Q.getD w.D.toNat M-4096).toNat+Lc 0) M)).1) aa oq (by grind[Hz]) oq oq aa) (Fi 101 ((Br w (w.Q.getD w.D.toNat M) (ZC (Z7 (w.heap.W.getD ((w.Q.getD w.D.toNat M-4096).toNat+Lc 0) M)).1) (ZC (Z7 (w.heap.W.getD ((w.Q.getD w.D.toNat M-4096).toNat+Lc 0) M)).1).length).D+1) (Fl 110 idv (ZC (Z7 (w.heap.W.getD ((w.Q.getD w.D.toNat M-(4096:Int)).toNat+Lc (0:Int)) M)).1) (Fi 111 (1+(↑(ZC (Z7 (w.heap.W.getD ((w.Q.getD w.D.toNat M-4096).toNat+Lc 0) M)).1).length:Int)) (Fi 112 ((Br w (w.Q.getD w.D.toNat M) (ZC (Z7 (w.heap.W.getD ((w.Q.getD w.D.toNat M-4096).toNat+Lc 0) M)).1) (ZC (Z7 (w.heap.W.getD ((w.Q.getD w.D.toNat M-4096).toNat+Lc 0) M)).1).length).rep.steps+(1+(↑(ZC (Z7 (w.heap.W.getD ((w.Q.getD w.D.toNat M-4096).toNat+Lc 0) M)).1).length:Int))) Fz))))))))))))))))))
structure Ib (w:Z6):Prop where
 k:Ir w
 sc:0<=w.D
 hr:w.D<w.Q.length->4096<=w.Q.getD w.D.toNat M/\w.Q.getD w.D.toNat M+Zl w.heap.W (w.Q.getD w.D.toNat M)<4096+w.heap.W.length
 hd:w.D<w.Q.length->(Z7 (Z1 w.heap.W (w.Q.getD w.D.toNat M)).1).2=La
 hN:w.D<w.Q.length->Z1v w (Cb w) (Bl w)
def KI.sd{h T}:∀w n,(∃a,KI h T a w)->∃a,KI h T a (Hz w n):=
 λw n ⟨a,k⟩=>⟨a,k.c,k.sp,k.old,k.pl,k.wl,k.pg,k.tk,k.tk0,k.q,k.hd,k.dt,k.lg⟩
section
variable {h:Heap} {T:Nat->List Int} {w:Z6} (c:EZ h T w) (g:Gd h T)
include c g
theorem EZ.dec{q:Int}(b:q∈w.Q):(Z7 (Z1 w.heap.W q).1).2=La:=by obtain⟨tq,k⟩:=c.k;rcases k.q q b with⟨i,nt,a,hk,d⟩|⟨i,f,a⟩;rcases k.hd i q a with e|e;rw[e];exact(g.on a).2.2.2.2.2.1;exact absurd e.2.2 d;exact(GV (k.tk i f).2.2.2.2.2.1 a).1
theorem EZ.in1{q j:Int}(d:q∈w.Q)(a:0<=j)(b:j<Zl w.heap.W q)(e:(w.fwd (Z1 w.heap.W (q+1+j)).1).2.2=0):EZ h T (w.in1 (q+1+j)):=by obtain⟨tq,k⟩:=c.k;exact⟨k.in1 g c.ok c.inv d ⟨a,b⟩ e,(Z4X c.ok _ e).1,(Z6J c.ok c.inv d ⟨a,b⟩ e).1,c.so.fwd c.ok _ e⟩
theorem EZ.inn{q:Int}(a:q∈w.Q){l:List Int}(hl:∀x∈l,0<=x/\x<Zl w.heap.W q)(k:Nat)(hk:k<=l.length)(b:∀j,j<k->CH w q l j=0):EZ h T (Br w q l k):=
 ⟨TS (λw=>∃n,KI h T n w) (λw q j d m ⟨_,k⟩ a f i e=>k.in1 g d m a ⟨f,i⟩ e) c.ok c.inv c.k a hl k hk b,(Nf c.ok q l k b).1,(Tk c.ok c.inv a hl k hk b).1,TS (λw=>GX w.heap.P) (λw q j d m p a f i e=>p.fwd d _ e) c.ok c.inv c.so a hl k hk b⟩
theorem EZ.step(e:(ZZ w).2.2=0):EZ h T (ZZ w).1:=
 ⟨Z0b (λw=>∃l,KI h T l w) (λw q j a f ⟨_,k⟩ i b d e=>k.in1 g a f i ⟨b,d⟩ e) KI.sd c.ok c.inv c.k e,(PU c.ok e).1,(Z0J c.ok c.inv e).1,Z0b (λw=>GX w.heap.P) (λw q j a f p i b d e=>p.fwd a _ e) (λ_ _ p=>p) c.ok c.inv c.so e⟩
theorem EZ.stp:Ib w:=by have sc:=c.ok.sc;have f:w.D<w.Q.length->Cb w∈w.Q:=λb=>Bs.2 ⟨w.D.toNat,by omega,rfl⟩;refine⟨c.ck,sc.1,λb=>c.inv.r _ (Lk _ (f b)),λb=>c.dec g (f b),λb=>?_⟩;obtain⟨tq,j⟩:=c.k;have m:=SL (Zu w (Cb w));have d:=λk hk a=>c.inn g (f b) (l:=Bl w) m k hk a;refine⟨λk hk a=>(d k oq a).fw g (G2 (d k oq a).ok.W _),λk hk a=>?_,λk hk a e=>?_⟩;obtain⟨_,i⟩:=(d k hk a).k;exact i.wl.trans j.wl.symm;obtain⟨_,i⟩:=((d k oq a).fwd g e).k;exact i.wl.trans j.wl.symm
theorem EZ.roots{roots}(k:Nat)(a:∀j,j<k->CV w roots j=0):EZ h T (rootsN w roots k).1:=by
 induction k with|zero=>exact c|succ k b=>exact(b λj hj=>a j oq).fwd g (a k oq)
theorem EZ.rts{roots}(hr:Zx roots):Z1J w roots:=λk hk a=>(c.roots g k a).fw g (Z2e hr k)
theorem EZ.rootsF{roots}(e:(rootsF w roots).2.2=0):EZ h T (rootsF w roots).1:=by
 cases hb:(Lg roots.length).find? (λk=>Lb (CV w roots k≠0))with
 |none =>
  have b:∀j,j<roots.length->CV w roots j=0:=λj d=>by(have:=Lr.1 hb j (Ll.2 d);simpa using this)
  have a:Go.Proofs.YtgedmeaemofdkaaGreat.rootsF w roots=((rootsN w roots roots.length).1,(rootsN w roots roots.length).2,0):=by unfold Go.Proofs.YtgedmeaemofdkaaGreat.rootsF;rw[hb]
  rw[a];exact c.roots g _ b
 |some i =>
  have a:Go.Proofs.YtgedmeaemofdkaaGreat.rootsF w roots=(GQ,[],CV w roots i):=by unfold Go.Proofs.YtgedmeaemofdkaaGreat.rootsF;rw[hb]
  rw[a]at e;have:=of_decide_eq_true (LI.1 hb).1;exact absurd e this
end
def AF(w:Z6):Prop:=∀x∈w.old++w.Q,(ZE (Z1 w.heap.W x).1).2=Ld->∀j,0<=j->j<Zl w.heap.W x->Bo (Bg w.heap.W x) j=La->(Z1 w.heap.W (x+1+j)).1=0\/(Z1 w.heap.W (x+1+j)).1∈w.old++w.Q
structure SW (h:Heap) (T:Nat->List Int) (w:Z6):Prop where
 o:OnW h T w
 a:AF w
def SW.begin{h T}(g:Gd h T)(m:Zx h.W):SW h T (Zr h):=by
 refine⟨OnW.begin g m,λx hx ht j b c l=>?_⟩;have a:x∈(Zr h).old:=by simpa[Zr]using hx
 obtain⟨i,f,hk⟩:=((KI.begin g).old x).1 a;refine(g.q i x j f hk b c l).imp id λ⟨k,d,e⟩=>?_;exact Lq _ (((KI.begin g).old _).2 ⟨k,d,e⟩)
section
variable {h:Heap} {T:Nat->List Int} {w:Z6} (s:SW h T w) (g:Gd h T) (d:MV h)
include s g d
theorem SW.fwd{r:Int}(hr:r=0\/r∈w.Q\/r∈w.old):(w.fwd r).2.2=0/\SW h T (w.fwd r).1/\NK (w.fwd r).1 (w.fwd r).2.1:=by
 by_cases c1:r=0\/r∈w.Q;rw[Z6.fwd,if_pos c1];exact⟨rfl,s,c1⟩;have hr:r∈w.old:=(hr.resolve_left λq=>c1 (.inl q)).resolve_left λq=>c1 (.inr q);by_cases n:Ef w r=0;obtain⟨i0,hx,e,N⟩:=s.o.new g d hr n;refine⟨e,⟨s.o.fwd g d hr, ?_⟩,Or.inr (by rw[N.q];simp)⟩;obtain⟨tq,k⟩:=s.o.c.k;have z:=s.o.z r hr n;have a:=(SG s.o.c.ok s.o.c.inv r e).2.2;have he:(Z1 w.heap.W r).1=(Z1 h.W r).1:=by(rcases k.hd i0 r hx with q|q;exact q;rw[q.1]at z;cases z.2)
 have a0:Zl w.heap.W r=Zl h.W r:=(E6 he).2.1;intro x u o j y l m;rw[N.o,N.q]at u⊢;have more:∀v,v∈w.old++w.Q->v∈w.old++(w.Q++[(w.fwd r).2.1]):=λv hv=>by(rw[<-Lp];exact Lq _ hv)
 by_cases p:x=(w.fwd r).2.1;have c:=N.x 0 oq (Bm _ _).1;simp only[Lt]at c;have i:Bg (w.fwd r).1.heap.W x=Bg w.heap.W r:=by rw[Bg,p,c];rfl
 have el:Zl (w.fwd r).1.heap.W x=Zl w.heap.W r:=congrArg Zy.length i;rw[i]at m;rw[el]at l;have f:=N.x (1+j) oq oq;rw[<-LB,<-LB,<-p]at f;rw[f];exact(s.a r (Lq _ hr) z.2 j y l m).imp id (more _);have b:x∈w.old++w.Q:=by(simp only[LR,L1]at u⊢;rcases u with q|q|q;exact .inl q;exact .inr q;exact absurd q p)
 by_cases t:x=r;exfalso;have:=N.c λq=>p (t.trans q.symm);rw[t,this]at o;cases o;have c:=a x b (.inr t) 0 oq (Bm _ _).1;rw[Lt]at c;have i:Bg (w.fwd r).1.heap.W x=Bg w.heap.W x:=by rw[Bg,Bg,c]
 have el:Zl (w.fwd r).1.heap.W x=Zl w.heap.W x:=congrArg Zy.length i;rw[i]at m;rw[el]at l;rw[c]at o;have f:=a x b (.inr t) (1+j) oq oq;rw[<-LB]at f;rw[f];exact(s.a x b o j y l m).imp id (more _);rw[s.o.same g d hr n];exact⟨rfl,s,Or.inr (s.o.q r hr n)⟩
omit g d in
theorem SW.dec(g:Gd h T){q:Int}(a:q∈w.Q):(ZE (Z1 w.heap.W q).1).2=Ld:=Z7F (s.o.c.dec g a)
omit s g d in
theorem Zhh{w:Z6}{r}(e:(w.fwd r).2.2=0):r=0\/r∈w.Q\/r∈w.old:=by unfold Z6.fwd at e;split at e;rename_i c;exact c.imp id .inl;split at e;simp at e;rename_i c;exact .inr (.inr (LH.1 c))
theorem SW.in1{q j:Int}(r:q∈w.Q)(h0:0<=j)(h1:j<Zl w.heap.W q)(e:(w.fwd (Z1 w.heap.W (q+1+j)).1).2.2=0):SW h T (w.in1 (q+1+j))/\∀x∈w.Q,x∈(w.in1 (q+1+j)).Q/\Bg (w.in1 (q+1+j)).heap.W x=Bg w.heap.W x:=by
 obtain⟨_,s1,to⟩:=s.fwd g d (Zhh e);have v:=s.o.c.ok;have iv:=s.o.c.inv;obtain⟨tq,k⟩:=s.o.c.k;obtain⟨z,x1⟩:=R2 v iv _ e;have m:=Td v iv _ e;have l:=x1.q q r;have a0:=x1.l q r;have hr:=z.r q (Lk _ l);have f:4096<=q+1+j/\q+1+j<4096+(w.fwd (Z1 w.heap.W (q+1+j)).1).1.heap.W.length:=by omega
 have u:∀x∈(w.fwd (Z1 w.heap.W (q+1+j)).1).1.old++(w.fwd (Z1 w.heap.W (q+1+j)).1).1.Q,∀i,0<=i->i<=Zl (w.fwd (Z1 w.heap.W (q+1+j)).1).1.heap.W x->x+i=q+1+j->x=q:=by(intro x hx i a b c;have l1:=z.s q (Lk _ l) x hx;have l2:=z.s x hx q (Lk _ l);omega)
 have o:∀x∈(w.fwd (Z1 w.heap.W (q+1+j)).1).1.old++(w.fwd (Z1 w.heap.W (q+1+j)).1).1.Q,Z1 (w.in1 (q+1+j)).heap.W x=Z1 (w.fwd (Z1 w.heap.W (q+1+j)).1).1.heap.W x:=by(intro x hx;simp only[Z6.in1];rw[Gg f λc=>?_];have:=u x hx 0 oq (Bm _ _).1 oq;omega)
 refine⟨⟨⟨s.o.c.in1 g r h0 h1 e,s.o.m.in1 g k d v iv r ⟨h0,h1⟩ e,λy n p=>?_,λy n hz=>?_,s1.o.n⟩, ?_⟩,λx hx=>⟨m.mem hx, ?_⟩⟩;have t:Ef (w.in1 (q+1+j)) y=Ef (w.fwd (Z1 w.heap.W (q+1+j)).1).1 y:=by(unfold Ef;rw[o y (Lq _ n)];rfl)
 rw[t]at p⊢;exact s1.o.q y n p;have t:Ef (w.in1 (q+1+j)) y=Ef (w.fwd (Z1 w.heap.W (q+1+j)).1).1 y:=by(unfold Ef;rw[o y (Lq _ n)];rfl)
 rw[t]at hz;rw[o y (Lq _ n)];exact s1.o.z y n hz;intro x hx ht i a b hp;have hx:x∈(w.fwd (Z1 w.heap.W (q+1+j)).1).1.old++(w.fwd (Z1 w.heap.W (q+1+j)).1).1.Q:=hx;show _\/_∈(w.fwd (Z1 w.heap.W (q+1+j)).1).1.old++(w.fwd (Z1 w.heap.W (q+1+j)).1).1.Q;have e0:=o x hx;have eh:Bg (w.in1 (q+1+j)).heap.W x=Bg (w.fwd (Z1 w.heap.W (q+1+j)).1).1.heap.W x:=by rw[Bg,Bg,e0]
 have el:Zl (w.in1 (q+1+j)).heap.W x=Zl (w.fwd (Z1 w.heap.W (q+1+j)).1).1.heap.W x:=congrArg Zy.length eh;rw[eh]at hp;rw[el]at b;rw[e0]at ht;by_cases c:x+1+i=q+1+j;have:(Z1 (w.in1 (q+1+j)).heap.W (x+1+i)).1=(w.fwd (Z1 w.heap.W (q+1+j)).1).2.1:=by(rw[c];simp only[Z6.in1];rw[RV f])
 rw[this];exact to.imp id (Lk _);have:Z1 (w.in1 (q+1+j)).heap.W (x+1+i)=Z1 (w.fwd (Z1 w.heap.W (q+1+j)).1).1.heap.W (x+1+i):=by(simp only[Z6.in1];rw[Gg f c])
 rw[this];exact s1.a x hx ht i a b hp;rw[Bg,o x (Lk _ (m.mem hx))];exact m.h x hx
omit s g d in
theorem Z2q(h:Zy):∀n:Nat,∀x∈C6 h n,Bo h x=La
 |0,x,hx=>by cases hx
 |n+1,x,hx=>by
  unfold C6 at hx;split at hx
  .rename_i c;rcases LR.1 hx with q|q
   .exact Z2q h n x q
   .rw[L1.1 q];exact c
  .exact Z2q h n x hx
omit s g d in
theorem Z6m(h:Zy):∀x∈ZC h,Bo h x=La:=by unfold ZC;split;exact Z2q h _;intro x hx;cases hx
theorem SW.inn{q:Int}(m:q∈w.Q){l:List Int}(hl:∀x∈l,(0<=x/\x<Zl w.heap.W q)/\Bo (Bg w.heap.W q) x=La):∀k,k<=l.length->(∀j,j<k->CH w q l j=0)/\SW h T (Br w q l k)/\q∈(Br w q l k).Q/\Bg (Br w q l k).heap.W q=Bg w.heap.W q
 |0,_=>⟨λj i=>absurd i (Ls j),s,m,rfl⟩
 |k+1,hk=>by
  obtain⟨p,b,a,f⟩:=SW.inn m hl k oq;have hx:=hl _ (Bs.2 ⟨k,by omega,rfl⟩);have el:Zl (Br w q l k).heap.W q=Zl w.heap.W q:=congrArg Zy.length f;have o:=b.a q (Lk _ a) (b.dec g a) (l.getD k M) hx.1.1 (by rw[el];exact hx.1.2) (by rw[f];exact hx.2);have e:CH w q l k=0:=(b.fwd g d (o.imp id λc=>(LR.1 c).symm)).1;have n:=b.in1 g d a hx.1.1 (by rw[el];exact hx.1.2) e;refine⟨λj i=>?_,n.1,(n.2 q a).1,(n.2 q a).2.trans f⟩;by_cases c:j=k
  .rw[c];exact e
  .exact p j oq
theorem SW.step:(ZZ w).2.2=0/\SW h T (ZZ w).1:=by
 by_cases e:w.D<w.Q.length;have n:=s.o.c.ok.sc;have m:Cb w∈w.Q:=Bs.2 ⟨w.D.toNat,by omega,rfl⟩;obtain⟨o,a,_,_⟩:=s.inn g d m (l:=Bl w) (λx hx=>⟨SL (Zu w (Cb w)) x hx,Z6m (Zu w (Cb w)) x hx⟩) (Bl w).length (Lh _);have f:(Lg (Bl w).length).find? (λk=>Lb (CH w (Cb w) (Bl w) k≠0))=Lm:=Lr.2 λj i=>by simp[o j (Ll.1 i)]
 have b:ZZ w=(Hz (Br w (Cb w) (Bl w) (Bl w).length) (Bl w).length,La,0):=by unfold ZZ;rw[if_pos e,f]
 have c:=s.o.c.step g (by rw[b]);rw[b]at c⊢;exact⟨rfl,⟨c,⟨a.o.m.m0,a.o.m.m1,a.o.m.m2,a.o.m.m3,a.o.m.m4,a.o.m.m5⟩,a.o.q,a.o.z,a.o.n⟩,a.a⟩;have b:ZZ w=(w,Ld,0):=by rw[ZZ,if_neg e]
 rw[b];exact⟨rfl,s⟩
theorem SW.it:∀k,SW h T (Cy w k)|0=>s|k+1=>(SW.step (SW.it k) g d).2
theorem SW.all:(Bu w).2=0/\SW h T (Bu w).1:=by
 obtain⟨k,b⟩:=Ay s.o.c.ok;have e:=(s.it g d k).step g d;have a:Bu w=((ZZ (Cy w k)).1,0):=by rw[Bu,b];simp only[if_pos e.1]
 rw[a];exact⟨rfl,e.2⟩
end
def TY(hd:Zy)(a:List Int):Nat->List Int|0=>[]|i+1=>if Bo hd (i:Int)=La then TY hd a i++[a.getD i M]else TY hd a i
def Pk(h:Heap)(a:Int):List Int:=TY (Zp h a).1 (Ct h a).1 (Ct h a).1.length
def HJ(out:List Int)(r:Int):List Int:=if r=0\/r∈out then out else out++[r]
def addN(out refs:List Int):Nat->List Int|0=>out|i+1=>HJ (addN out refs i) (refs.getD i M)
theorem Z87(hd:Zy):∀n:Nat,(C6 hd n).Nodup
 |0=>Xf
 |n+1=>by
  have c:=Z87 hd n;unfold C6;split
  .rw[List.nodup_append];refine⟨c,by simp,λa d b hb=>?_⟩;have:=(Ph hd n a d).2;grind
  .exact c
def Zja(hd:Zy):(ZC hd).Nodup:=by grind[ZC,Z87]
def Z8C(hd:Zy)(a:List Int)(f:Int->Int):∀n:Nat,(∀k:Nat,k<n->a.getD k M=f k)->TY hd a n=(C6 hd n).map f
 |0,_=>rfl
 |n+1,h=>by
  unfold TY C6;rw[Z8C hd a f n (λk hk=>h k oq),h n oq];grind
def Gd.refs{h T}(g:Gd h T){i}{x:Int}(hx:x∈T i)(hk:Cr h.W x≠0):Pk h x=(ZC (Bg h.W x)).map λj=>(Z1 h.W (x+1+j)).1:=by obtain⟨e,l,f⟩:=g.fields hx hk;unfold Pk;rw[e,Z8C _ _ (λj=>(Z1 h.W (x+1+j)).1) _ (λk hk=>f k oq),show(Ct h x).1.length=(Zl h.W x).toNat by omega];unfold ZC;rw[if_pos (show ZR (Bg h.W x)=La from Aq _)];rfl
theorem Za9{w}(g:B7 w)(h:Bt w){n:Int}(d:1<=n)(f:n<=w.heap.C.pw)(hc:(w.place n).2.2=La):(w.place n).2.1∉w.Q:=by obtain⟨i,p,t,a,h2,h3,h4,h5,h6,h7,h8,e⟩:=TP g ⟨d,f⟩ hc;have b:=h.f i a (by grind);intro c;have q:=b _ (Lk _ c);have:=Bm w.heap.W (w.place n).2.1;omega
def Z7R{l:List Int}{a:Int}(h:l.Nodup)(ha:a∉l):(l++[a]).Nodup:=by grind
def Zi1{w}(n:B7 w)(h:Bt w){r}(e:(w.fwd r).2.2=0)(nd:w.Q.Nodup):(w.fwd r).1.Q.Nodup:=by
 unfold Z6.fwd at e⊢;split at e;grind;rename_i c1;rw[if_neg c1];have a:r∉w.Q:=λq=>c1 (.inr q);split at e;simp at e;rename_i c2;rw[if_neg c2];have d:r∈w.old:=LH.1 c2;split at e;grind;rename_i c3;rw[if_neg c3];split at e;simp at e;rename_i c4;rw[if_neg c4];split at e;rename_i f;rw[if_pos f];exact Z7R nd a;rename_i f;rw[if_neg f];split at e;rename_i b;rw[if_pos b];exact Z7R nd a;rename_i b;rw[if_neg b];split at e;simp at e;rename_i j;rw[if_neg j];have g:(w.place (Z5 (Zu w r))).2.2=La:=by grind
 have c:=h.z r d;have l:=Bm w.heap.W r;have hd:=Gz w r;have m:Z5 (Zu w r)<=w.heap.C.pw:=by(rcases c with c|c;exact absurd c b;omega)
 obtain⟨i,p,t,p1,p2,p3,p4,p5,p6,p7,k⟩:=Dm n ⟨by omega,m⟩ g;have hq:(w.place (Z5 (Zu w r))).1.Q=w.Q:=by rw[k]
 show((w.place (Z5 (Zu w r))).1.Q++[_]).Nodup;grind[Za9]
structure RO (h:Heap) (T:Nat->List Int) (w:Z6) (out:List Int) (n:Nat):Prop where
 b:SW h T w
 nd:w.Q.Nodup
 l:w.Q.length=out.length
 i:∀i,i<out.length->out.getD i M∈w.old/\Ef w (out.getD i M)=w.Q.getD i M
 s:∀y∈w.old,Ef w y≠0->y∈out
 un:∀y∈w.old,Ef w y=0->∀m,0<=m->m<=Zl h.W y->(Z1 w.heap.W (y+m)).1=(Z1 h.W (y+m)).1
 uq:∀i,n<=i->i<out.length->∀m,0<=m->m<=Zl h.W (out.getD i M)->(Z1 w.heap.W (w.Q.getD i M+m)).1=(Z1 h.W (out.getD i M+m)).1
def RO.begin{h T}(g:Gd h T)(c:Zx h.W):RO h T (Zr h) [] 0:=
 ⟨SW.begin g c,Xf,rfl,λi a=>absurd a (Ls i),λy b q=>absurd (Z2s g b).1 q,λy b _ m _ _=>rfl,λi _ a=>absurd a (Ls i)⟩
def Mt{l:List Int}{a:Int}{k:Nat}:(l++[a]).getD k M=if k<l.length then l.getD k M else if k=l.length then a else M:=by grind
section
variable {h:Heap} {T:Nat->List Int} {w:Z6} {out:List Int} {n:Nat} (o:RO h T w out n) (g:Gd h T) (d:MV h)
include o g d
theorem RO.fwd{r:Int}(hr:r=0\/r∈w.old):(w.fwd r).2.2=0/\RO h T (w.fwd r).1 (HJ out r) n/\(w.fwd r).2.1=(if r=0 then 0 else Ef (w.fwd r).1 r):=by
 rcases hr with rfl|hr;grind[Z6.fwd,HJ];obtain⟨tq,k⟩:=o.b.o.c.k;obtain⟨i0,s,a1⟩:=(k.old r).1 hr;have r0:r≠0:=by have:=g.inw s;omega
 rw[if_neg r0];by_cases l:Ef w r=0;obtain⟨i0,hx,e,N⟩:=o.b.o.new g d hr l;obtain⟨s1,v,x,z,s5⟩:=o.b.o.seen g d hr;have a0:=(SG o.b.o.c.ok o.b.o.c.inv r e).2.2;have no:r∉out:=λc=>by(obtain⟨j,f,ej⟩:=Bs.1 c;have q:=(o.i j f).2;rw[ej,l]at q;have:=o.b.o.c.inv.r 0 (Lk _ (Bs.2 ⟨j,by rw[o.l];exact f,q.symm⟩));omega)
 have ea:HJ out r=out++[r]:=by grind[HJ]
 rw[ea];have hl:=o.l;refine⟨e,⟨(o.b.fwd g d (.inr (.inr hr))).2.1,Zi1 o.b.o.c.ok o.b.o.c.inv e o.nd,by grind,λj f=>?_,λy b a=>?_,λy b a m t i=>?_,λj f p m t i=>?_⟩,v.symm⟩;rw[N.o,N.q,Mt,Mt,hl];rw[Lx,Xe]at f;by_cases q:j<out.length;rw[if_pos q,if_pos q];have:=o.i j q;grind;grind;rw[z]at b;by_cases q:y=r;rw[q];simp;rw[x y b q]at a;exact Lq _ (o.s y b a);rw[z]at b;have q:y≠r:=λq=>s1 (v.symm.trans (q▸a));rw[x y b q]at a;have u:=o.un y b a;have ey:=(E6 (by have:=u 0 oq (Bm _ _).1;omega)).2.1;grind;rw[Lx,Xe]at p;rw[Mt]at i⊢;rw[N.q,Mt,hl];by_cases q:j<out.length;rw[if_pos q]at i⊢;rw[if_pos q];have u:=o.uq j f q;have hq:w.Q.getD j M∈w.Q:=Bs.2 ⟨j,by omega,rfl⟩;have ey:Zl w.heap.W (w.Q.getD j M)=Zl h.W (out.getD j M):=by(have:=u 0 oq (Bm _ _).1;simp only[Lt]at this;grind[Zl])
 grind;have:j=out.length:=by omega
 rw[if_neg q,if_pos this]at i⊢;rw[if_neg q,if_pos this];rw[N.x m t i];exact o.un r hr l m t i;rw[o.b.o.same g d hr l,HJ,if_pos (.inr (o.s r hr l))];grind
omit d in
theorem RO.old{x j:Int}(hx:x∈w.old)(f:j∈ZC (Bg h.W x)):(Z1 h.W (x+1+j)).1=0\/(Z1 h.W (x+1+j)).1∈w.old:=by obtain⟨tq,k⟩:=o.b.o.c.k;obtain⟨m,e,c⟩:=(k.old x).1 hx;have b:=SL _ j f;refine(g.q m x j e c b.1 b.2 (Z6m _ j f)).imp id λ⟨a,i,l⟩=>(k.old _).2 ⟨a,i,l⟩
theorem RO.in1{a:Nat}(ha:a<n)(hn:a<out.length){j:Int}(hj:0<=j/\j<Zl h.W (out.getD a M))(hq:Bg w.heap.W (w.Q.getD a M)=Bg h.W (out.getD a M))(hv:(Z1 w.heap.W (w.Q.getD a M+1+j)).1=0\/(Z1 w.heap.W (w.Q.getD a M+1+j)).1∈w.old) :(w.fwd (Z1 w.heap.W (w.Q.getD a M+1+j)).1).2.2=0/\RO h T (w.in1 (w.Q.getD a M+1+j)) (HJ out (Z1 w.heap.W (w.Q.getD a M+1+j)).1) n/\(w.in1 (w.Q.getD a M+1+j)).Q.getD a M=w.Q.getD a M /\
  Bg (w.in1 (w.Q.getD a M+1+j)).heap.W (w.Q.getD a M)=Bg h.W (out.getD a M)/\(∀m,0<=m->m<Zl h.W (out.getD a M)->m≠j->Z1 (w.in1 (w.Q.getD a M+1+j)).heap.W (w.Q.getD a M+1+m)=Z1 w.heap.W (w.Q.getD a M+1+m)):=by
 obtain⟨e,f,_⟩:=o.fwd g d hv;have l:w.Q.getD a M∈w.Q:=Bs.2 ⟨a,by have:=o.l;omega,rfl⟩;generalize a3:w.Q.getD a M=q at *;have hl:Zl w.heap.W q=Zl h.W (out.getD a M):=congrArg Zy.length hq;have hw:=o.b.o.c.ok;have iv:=o.b.o.c.inv;have S:=o.b.in1 g d l hj.1 oq e;obtain⟨tq,k⟩:=o.b.o.c.k;obtain⟨i1,x1⟩:=R2 hw iv _ e;have sm:=Td hw iv _ e;have fs:=(SG hw iv _ e).2.2;have s:=x1.q q l;have a5:=x1.l q l;have hr:=i1.r q (Lk _ s);generalize a7:(Z1 w.heap.W (q+1+j)).1=v at *;have a4:4096<=q+1+j/\q+1+j<4096+(w.fwd v).1.heap.W.length:=by omega
 have a1:∀x∈(w.fwd v).1.old++(w.fwd v).1.Q,∀i,0<=i->i<=Zl (w.fwd v).1.heap.W x->x+i=q+1+j->x=q:=by(intro x hx i y0 b c;have l1:=i1.s q (Lk _ s) x hx;have l2:=i1.s x hx q (Lk _ s);omega)
 have wd:∀z,z≠q+1+j->Z1 (w.in1 (q+1+j)).heap.W z=Z1 (w.fwd v).1.heap.W z:=λz hz=>by(grind[Z6.in1,Gg])
 have hh:∀x∈(w.fwd v).1.old++(w.fwd v).1.Q,Z1 (w.in1 (q+1+j)).heap.W x=Z1 (w.fwd v).1.heap.W x:=λx hx=>wd x λc=>by(have:=a1 x hx 0 oq (Bm _ _).1 oq;omega)
 have a0:(w.in1 (q+1+j)).Q=(w.fwd v).1.Q:=by grind[Z6.in1]
 have t:(w.in1 (q+1+j)).old=(w.fwd v).1.old:=by grind[Z6.in1]
 have se:∀y∈(w.fwd v).1.old,Ef (w.in1 (q+1+j)) y=Ef (w.fwd v).1 y:=λy r=>by(grind[Ef])
 have fl:=f.l;have ln:=o.l;have gq:(w.fwd v).1.Q.getD a M=q:=by rw[sm.get oq];exact a3
 have ao:a<(HJ out v).length:=by grind[HJ]
 refine⟨e,⟨S.1,by rw[a0];exact f.nd,by grind,λi hi=>?_,λy r p=>?_,λy r p m m0 m1=>?_,λi hi a2 m m0 m1=>?_⟩,by grind,(S.2 q l).2.trans hq,λm m0 m1 hm=>?_⟩;grind[i];rw[t]at r;rw[se y r]at p;exact f.s y r p;rw[t]at r;rw[se y r]at p;have u:=f.un y r p;have ey:=(E6 (by have:=u 0 oq (Bm _ _).1;omega)).2.1;grind[Ef];rw[a0];have u:=f.uq i hi a2;have a6:(w.fwd v).1.Q.getD i M∈(w.fwd v).1.Q:=Bs.2 ⟨i,by omega,rfl⟩;have ey:Zl (w.fwd v).1.heap.W ((w.fwd v).1.Q.getD i M)=Zl h.W ((HJ out v).getD i M):=by(have:=u 0 oq (Bm _ _).1;simp only[Lt]at this;grind[Zl])
 grind[nd,List.getElem?_inj];rw[wd _ oq,show q+1+m=q+(1+m) by omega,fs q (Lk _ l) (.inl l) (1+m) oq oq]
theorem RO.inn{q x:Int}{l:List Int}(r:n<out.length)(hq:w.Q.getD n M=q)(hx:out.getD n M=x)(hl:ZC (Bg h.W x)=l):∀k,k<=l.length->RO h T (Br w q l k) (addN out (l.map λj=>(Z1 h.W (x+1+j)).1) k) (n+1)/\(∀j,j<k->CH w q l j=0)/\(Br w q l k).Q.getD n M=q/\Bg (Br w q l k).heap.W q=Bg h.W x /\ (addN out (l.map λj=>(Z1 h.W (x+1+j)).1) k).getD n M=x/\n<(addN out (l.map λj=>(Z1 h.W (x+1+j)).1) k).length/\∀m,0<=m->m<Zl h.W x->(∀i,i<k->l.getD i M≠m)->(Z1 (Br w q l k).heap.W (q+1+m)).1=(Z1 h.W (x+1+m)).1
 |0,_=>by
  subst hq;subst hx;have u:=o.uq n (Lh _) r;refine⟨⟨o.b,o.nd,o.l,o.i,o.s,o.un,λi hi=>o.uq i oq⟩,λj e=>absurd e (Ls j),rfl, ?_,rfl,r,λm z m1 _=>?_⟩
  .have:=u 0 oq (Bm _ _).1;simp only[Lt]at this;show Bg w.heap.W _=_;rw[Bg,Bg,this]
  .have:=u (1+m) oq oq;rw[<-LB,<-LB]at this;exact this
 |k+1,hk=>by
  obtain⟨t,i2,v,i4,b,f,i7⟩:=RO.inn r hq hx hl k oq;have e:l.getD k M∈ZC (Bg h.W x):=by rw[hl];exact Bs.2 ⟨k,by omega,rfl⟩
  have y:=SL _ _ e;have nd:=Zja (Bg h.W x);rw[hl]at nd;have s:∀i,i<k->l.getD i M≠l.getD k M:=λi hi c=>by
   simp only[Lf]at c;rw[Ln oq,Ln oq]at c;have:=(List.getElem_inj nd).1 c;omega
  have ev:=i7 (l.getD k M) y.1 y.2 s;have xo:x∈(Br w q l k).old:=by
   have:=(t.i n f).1;rw[b]at this;exact this
  have ov:=t.old g xo e;rw[<-ev]at ov;obtain⟨c1,c2,c3,c4,p⟩:=t.in1 g d (a:=n) oq f (j:=l.getD k M) (by rw[b];exact y) (by rw[v,b];exact i4) (by rw[v];exact ov);rw[v]at c1 c2 c3 c4 p;rw[b]at c4 p;rw[ev]at c2;have em:(l.map λj=>(Z1 h.W (x+1+j)).1).getD k M=(Z1 h.W (x+1+l.getD k M)).1:=by
   simp only[Lf,LL,Ln (show k<l.length by omega),Option.map_some,L4]
  have e2:addN out (l.map λj=>(Z1 h.W (x+1+j)).1) (k+1)=HJ (addN out (l.map λj=>(Z1 h.W (x+1+j)).1) k) (Z1 h.W (x+1+l.getD k M)).1:=by rw[addN,em]
  rw[e2];refine⟨c2,λj e=>?_,c3,c4, ?_, ?_,λm z m1 hm=>?_⟩
  .by_cases c:j=k
   .rw[c];exact c1
   .exact i2 j oq
  .unfold HJ;split
   .exact b
   .rw[Mt,if_pos f];exact b
  .unfold HJ;split
   .exact f
   .rw[Lx];omega
  .show(Z1 ((Br w q l k).in1 (q+1+l.getD k M)).heap.W (q+1+m)).1=_;rw[p m z m1 (λc=>hm k oq c.symm)];exact i7 m z m1 λi hi=>hm i oq
theorem RO.step(f:n<out.length)(hs:w.D=n):RO h T (ZZ w).1 (addN out (Pk h (out.getD n M)) (Pk h (out.getD n M)).length) (n+1)/\(ZZ w).2.1=La/\(ZZ w).1.D=(n+1:Nat):=by
 have hx:=(o.i n f).1;obtain⟨tq,k⟩:=o.b.o.c.k;obtain⟨i0,i,e⟩:=(k.old _).1 hx;have m:=g.refs i e;have p:Bg w.heap.W (w.Q.getD n M)=Bg h.W (out.getD n M):=by(have:=o.uq n (Lh _) f 0 oq (Bm _ _).1;simp only[Lt]at this;grind[Bg])
 have l:Cb w=w.Q.getD n M:=by grind[Cb]
 have r:Bl w=ZC (Bg h.W (out.getD n M)):=by unfold Bl Zu;rw[l];exact congrArg ZC p
 obtain⟨a,i2,_⟩:=o.inn g d f rfl rfl rfl _ (Lh _);have q:w.D<w.Q.length:=by rw[hs,o.l];omega
 have hb:(Lg (Bl w).length).find? (λk=>Lb (CH w (Cb w) (Bl w) k≠0))=Lm:=Lr.2 λj hj=>by(grind)
 have c:ZZ w=(Hz (Br w (Cb w) (Bl w) (Bl w).length) (Bl w).length,La,0):=by grind[ZZ]
 have b:=o.b.step g d;have so:=(PU o.b.o.c.ok b.1).2 (by rw[c]);refine⟨?_,by rw[c],by omega⟩;have b:=b.2;rw[c]at b⊢;rw[l,r]at b⊢;rw[m,Lj];exact⟨b,a.nd,a.l,a.i,a.s,a.un,a.uq⟩
end
def Sp(w:Z6):List (Nat×Z4):=[(22009,Bc w.Q),(21009,EQ w.T),(20009,Bc w.old),(19009,EM w.heap.P),(18009,Bc w.heap.W)]
def OM(w:Z6):Tg:=⟨tm 26 [(2,.pt 8002 0 0),(3,int 0),(4,.pt 17009 0 0),(5,.fm 131 (.pt 17009 0 0))],(8002,.box 127 zW)::(17009,w.ckB 18009 19009 20009 21009 22009)::Sp w,4⟩
def Zap{w}(m:(ZZ w).2.1=La):w.D<w.Q.length/\(∀j,j<(Bl w).length->CH w (Cb w) (Bl w) j=0)/\(ZZ w).1=Hz (Br w (Cb w) (Bl w) (Bl w).length) (Bl w).length:=by
 unfold ZZ at m⊢;split at m;rename_i a;rw[if_pos a];cases hb:(Lg (Bl w).length).find? (λk=>Lb (CH w (Cb w) (Bl w) k≠0))with|none =>refine⟨a,λj b=>?_,rfl⟩;have:=Lr.1 hb j (Ll.2 b);simpa using this|some i=>rw[hb]at m;cases m
 cases m
def step_end{w}(e:(ZZ w).2.2=0)(m:(ZZ w).2.1=Ld):¬ w.D<w.Q.length/\(ZZ w).1=w:=by
 unfold ZZ at e m⊢;split at m;rename_i a;rw[if_pos a]at e;cases hb:(Lg (Bl w).length).find? (λk=>Lb (CH w (Cb w) (Bl w) k≠0))with|none=>rw[hb]at m;cases m|some i =>rw[hb]at e;exact absurd e (of_decide_eq_true (LI.1 hb).1)
 rename_i a;rw[if_neg a];exact⟨a,rfl⟩
def Zb3 w(k:Ib w)(m:(ZZ w).2.1=La):CP (Zo f78 0) (OM w).st .nrm (OM (ZZ w).1).st:=by obtain⟨a,h0,e⟩:=Zap m;rw[e];obtain⟨kk,sc,hr,hd,hN⟩:=k;have hr:=hr a;have hd:=hd a;have hN:=hN a;exact sF [(33014,19009),(34014,21009),(35014,22009)] [] (Fbr 14 [17009,18009,19009,20009,21009,22009] (@Zft w aa aa aa aa aa aa aa) Fz)
def ZaW w(k:Ib w)(hs:¬ w.D<w.Q.length):CP (Zo f78 0) (OM w).st .ret (Tg.st ⟨tm 26 [(2,.pt 8002 0 0),(3,int 0)],(8002,.box 127 (w.ckc 18009 19009 20009 21009 22009))::Sp w,60⟩):=by have ln:=k.k.ln;have sc:=k.sc;exact sF [] [] (Fbq 14 [17009,18009,19009,20009,21009,22009] (@Zhe w aa aa aa) Fz)
def Z1z(w:Z6):Prop:=∀k,(∀j,j<k->Ew w j=Ld)->Ib (Cy w k)/\(ZZ (Cy w k)).2.2=0
def ZeE{w}{j:Nat}(h:Ew w j=Ld):(ZZ (Cy w j)).2.1=La:=by simp only[Ew,decide_eq_false_iff_not,not_or,LH]at h;simpa using h.2
def ZdS w(R:Z1z w) k(d:(Lg (RG w)).find? (Ew w)=Li k):CP (Zk f78 0) (Tg.st ⟨tm 26 [(2,.pt 8002 0 0),(3,int 0),(4,.pt 17009 0 0),(5,.fm 131 (.pt 17009 0 0))],(8002,.box 127 zW)::(17009,w.ckB 18009 19009 20009 21009 22009)::Sp w,4⟩) .ret (Tg.st ⟨tm 26 [(2,.pt 8002 0 0),(3,int 0)],(8002,.box 127 ((Bu w).1.ckc 18009 19009 20009 21009 22009))::Sp (Bu w).1,60⟩):=by
 obtain⟨c,h2,l⟩:=LI.1 d;have a:∀j,j<k->Ew w j=Ld:=λj b=>by simpa using l j b
 obtain⟨f,e⟩:=R k a;have m:(ZZ (Cy w k)).2.1=Ld:=by(simp only[Ew,decide_eq_true_eq,e]at c;simpa using c)
 obtain⟨n,g⟩:=step_end e m;have h:Bu w=(Cy w k,0):=by rw[Bu,d];simp only[if_pos e];rw[g]
 rw[h];exact G5 (S:=λk=>(OM (Cy w k)).st) k kr (λj b=>Zb3 _ (R j λi hi=>a i oq).1 (ZeE (a j b))) (ZaW _ f n)
def Zh1(w:Z6)(hw:B7 w)(R:Z1z w):GP 78 [w.av] La (.tu [(Bu w).1.av,int 0]) []:=by
 obtain⟨k,hb⟩:=Ay hw;have ln:=(R 0 λj hj=>absurd hj (Ls j)).1.k.ln;have ln:Sz w:=ln;exact gF [] func78 [] (Fbr 9 [] (@Z3l w aa) (Fu (@ZdS w aa k hb) (Fa (by exact Hh _:Ck (O wdv (Bu w).1.heap.W)) (Fa (by exact IX _:Ck (O Z0.dv (Bu w).1.heap.P)) (Fa (by exact Hh _:Ck (O wdv (Bu w).1.old)) (Fa (by exact Dp _:Ck (O idv (Bu w).1.T)) (Fa (by exact Hh _:Ck (O wdv (Bu w).1.Q)) Fz)))))))
section
variable {h:Heap} {T:Nat->List Int} (g:Gd h T) (a:MV h) {s:List Int} (hs:∀r∈s,r=0\/Ob h T r)
include g a hs
theorem SW.rootsN(n:Zx h.W):∀k,k<=s.length->(∀j,j<k->CV (Zr h) s j=0)/\SW h T (Go.Proofs.YtgedmeaemofdkaaGreat.rootsN (Zr h) s k).1/\∀i,i<k->NK (Go.Proofs.YtgedmeaemofdkaaGreat.rootsN (Zr h) s k).1 ((Go.Proofs.YtgedmeaemofdkaaGreat.rootsN (Zr h) s k).2.getD i M)/\((Go.Proofs.YtgedmeaemofdkaaGreat.rootsN (Zr h) s k).2.getD i M=0↔s.getD i M=0)
 |0,_=>⟨λj m=>absurd m (Ls j),SW.begin g n,λi l=>absurd l (Ls i)⟩
 |k+1,hk=>by
  obtain⟨t,d,u⟩:=SW.rootsN n k oq;have hr:=hs _ (Bs.2 ⟨k,by omega,rfl⟩);obtain⟨tq,o⟩:=d.o.c.k;have b:s.getD k M=0\/s.getD k M∈(Go.Proofs.YtgedmeaemofdkaaGreat.rootsN (Zr h) s k).1.Q\/s.getD k M∈(Go.Proofs.YtgedmeaemofdkaaGreat.rootsN (Zr h) s k).1.old:=hr.imp id λq=>.inr ((o.old _).2 q);obtain⟨e,p,f⟩:=d.fwd g a b;have v:=Td d.o.c.ok d.o.c.inv _ e;have r:=NM (Zr h) s k;refine⟨λj m=>?_,p,λi l=>?_⟩
  .by_cases q:j=k
   .rw[q];exact e
   .exact t j oq
  .simp only[Go.Proofs.YtgedmeaemofdkaaGreat.rootsN,Lf];by_cases q:i=k
   .subst q;rw[List.getElem?_append_right oq,r];simp only[Nat.sub_self,List.getElem?_cons_zero,L4];simp only[Lf]at hr b f;refine⟨f,λc=>?_,λc=>?_⟩
    .rcases hr with q|q
     .exact q
     .have:=(d.o.seen g a ((o.old _).2 q)).1;exact absurd c this
    .rw[c,Z6.fwd,if_pos (.inl rfl)]
   .rw[LZ oq];have:=u i oq;simp only[Lf]at this;exact⟨v.to this.1,this.2⟩
theorem SW.roots(c:Zx h.W):rootsF (Zr h) s=((Go.Proofs.YtgedmeaemofdkaaGreat.rootsN (Zr h) s s.length).1,(Go.Proofs.YtgedmeaemofdkaaGreat.rootsN (Zr h) s s.length).2,0)/\SW h T (rootsF (Zr h) s).1:=by
 obtain⟨d,f,i3⟩:=SW.rootsN g a hs c s.length (Lh _);have e:rootsF (Zr h) s=((Go.Proofs.YtgedmeaemofdkaaGreat.rootsN (Zr h) s s.length).1,(Go.Proofs.YtgedmeaemofdkaaGreat.rootsN (Zr h) s s.length).2,0):=by(unfold rootsF;rw[Lr.2 λj b=>by simp[d j (Ll.1 b)]])
 rw[e];exact⟨rfl,f⟩
end
section
variable {h:Heap} {T:Nat->List Int} (g:Gd h T) (b:MV h) {s:List Int} (hs:∀r∈s,r=0\/Ob h T r) (a:Zx h.W)
include g b hs a
theorem RO.roots:∀k,k<=s.length->RO h T (rootsN (Zr h) s k).1 (addN [] s k) 0/\(rootsN (Zr h) s k).1.D=0
 |0,_=>⟨RO.begin g a,rfl⟩
 |k+1,hk=>by
  obtain⟨c,d⟩:=RO.roots k oq;obtain⟨tq,e⟩:=c.b.o.c.k;have hr:=(hs _ (Bs.2 ⟨k,by omega,rfl⟩)).imp id λq=>(e.old _).2 q;have f:=c.fwd g b hr;exact⟨f.2.1,(SG c.b.o.c.ok c.b.o.c.inv _ f.1).2.1.trans d⟩
end
def Gd.get{h T}(g:Gd h T){i}{x:Int}(hx:x∈T i)(hk:Cr h.W x≠0):Zp h x=(Bg h.W x,0):=by
 have b:=g.on hx;have a:=g.at' hx;have h0:0<=(i:Int)*h.C.pw:=LD oq (by have:=B1 g.p;omega);have c:x≠0:=by unfold Zz at b;omega
 rw[Zp,if_pos g.p,if_neg c,a,if_neg (λq=>hk q.2)]
section
variable {B:Int} (hB:0<=B) {h:Heap} {T:Nat->List Int} (g:Gd h T) (mv:MV h) {s k0:List Int} (hw:Zx h.W) (hb:∀p∈h.P,p.N<=B) (gs:GN h T s) (gk:GN h T k0) (e:(collectF h s k0).2.2.2.2=0)
include hB g mv hw hb gs gk e
theorem Z5s:∃tq l5,CE h T tq (ZA h s) (C4 h s k0).heap.W l5/\OnW h T (ZA h s)/\(collectF h s k0).1=⟨(ZA h s).heap.C,l5,(ZA h s).heap.P.map (Bv (ZA h s).heap.S),1-(ZA h s).heap.S,(collectF h s k0).1.B⟩/\Gd (collectF h s k0).1 (tE T tq (ZA h s))/\(collectF h s k0).2.1=(rootsF (Zr h) s).2.1/\(collectF h s k0).2.2.1=Eg (ZA h s) k0 k0.length/\(collectF h s k0).2.2.2.1=(Bz h s k0).rep:=by
 obtain⟨er,sw⟩:=SW.roots g mv gs hw;have e1:(rootsF (Zr h) s).2.2=0:=by rw[er]
 have e2:=(sw.all g mv).1;have pr1:=(Z28 hB hw hb e).p1;obtain⟨tq,ce,eh⟩:=Tr hB g hw hb e1 e2 (k:=k0);have e7:collectF h s k0=(Eo (Bz h s k0),(rootsF (Zr h) s).2.1,Eg (ZA h s) k0 k0.length,(Bz h s k0).rep,0):=by rw[collectF,if_pos g.p,if_pos ⟨g.refers gs,g.refers gk⟩,if_pos e1,if_pos e2]
 rw[e7]at pr1⊢;refine⟨tq,_,ce,(sw.all g mv).2.o,eh, ?_,rfl,rfl,rfl⟩;simp only at pr1⊢;rw[eh]at pr1⊢;exact ce.good pr1
end
def I9(e:Int)(h:e=0):GP 76 [int e] La (.tu []) []:=by subst h;exact gF [] func76 [] Fz
def ZfO{c a}(e:(Z2 c a).2.2=0):Zs c=La/\4096<=a/\a<4096+c.pw*c.pg/\0<=(Z2 c a).1/\(Z2 c a).1<c.pg/\0<=(Z2 c a).2.1/\(Z2 c a).2.1<c.pw/\(Z2 c a).1*c.pw+(Z2 c a).2.1=a-4096:=by unfold Z2 at e⊢;by_cases b:Zs c=La;rw[if_pos b]at e⊢;have hb:=BD.1 b;by_cases q:4096<=a/\a<4096+c.pw*c.pg;rw[if_pos q]at e⊢;have d:0<=(a-4096)/c.pw:=Int.ediv_nonneg oq oq;have d1:(a-4096)/c.pw<c.pg:=Int.ediv_lt_of_lt_mul oq (by rw[LC];omega);refine⟨b,q.1,q.2,d,d1,Int.emod_nonneg _ oq,Int.emod_lt_of_pos _ oq, ?_⟩;simp only;rw[LC];exact Int.mul_ediv_add_emod _ _;rw[if_neg q]at e;simp at e;rw[if_neg b]at e;simp at e
def Z3L(w:Z6) r(ww:Zx w.heap.W)(wl:w.heap.W.length<=4096)(ql:w.Q.length<=1048576)(hL:(w.heap.W.length:Int)=w.heap.C.pw*w.heap.C.pg)(o:(Z2 w.heap.C r).2.2=0):GP 132 [w.av,u64 r] La (u64 (C7 w r)) []:=by
 obtain⟨d,r1,r2,e,p2,p3,p4,f⟩:=ZfO o;have b:Z1 w.heap.W r=(w.heap.W.getD ((Z2 w.heap.C r).1*w.heap.C.pw+(Z2 w.heap.C r).2.1).toNat M,0):=by rw[Z1,if_pos oq,f];rfl
 have hb:=BD.1 d;have wr:=Z2e ww ((Z2 w.heap.C r).1*w.heap.C.pw+(Z2 w.heap.C r).2.1).toNat
 have m0:0<=(Z2 w.heap.C r).1*w.heap.C.pw:=LD e oq;unfold C7;by_cases c:r∈w.Q;rw[if_pos c];exact gF [] func132 [] (Fh 13 [.call La (Sx.bool (Lb (r∈w.Q))) [],.br La] (Fa (@Ep w.Q r aa) (Fb (Lb (r∈w.Q)=La) Fz)));rw[if_neg c,b];let a:=(Z2 w.heap.C r).1*w.heap.C.pw+(Z2 w.heap.C r).2.1;exact gF [] func132 [] (Fh 13 [.call La (Sx.bool (Lb (r∈w.Q))) [],.br Ld] (Fa (@Ep w.Q r aa) (Fb (Lb (r∈w.Q)=Ld) (Fc 20 (@Gn w.heap.C r oq oq) (Fc 25 (@I9 ((Z2 w.heap.C r).2.2) aa) (Fi 35 ((Z2 w.heap.C r).1*w.heap.C.pw) (Fi 37 a (Fe 38 wdv w.heap.W a (Fc 40 (@NA (w.heap.W.getD a.toNat M) (by grind[]) (by grind[])) Fz)))))))))
def Z6.evD(w:Z6):Z4:=.box 127 w.cells
def wkL(w:Z6)(k out:List Int)(i:Nat):Tg:=⟨tm 39 [(0,.pt 0 0 0),(4,.d (.sl 0 [])),(5,.ow 24005),(9,Z3 k),(10,int k.length),(11,int i)],[(24005,.arr 35 1 (out.map wdv)),(0,w.evD)],5⟩
section
variable (w:Z6) (k out:List Int) (i:Nat) (ww:Zx w.heap.W) (wl:w.heap.W.length<=4096) (ql:w.Q.length<=1048576) (hL:(w.heap.W.length:Int)=w.heap.C.pw*w.heap.C.pg) (hk:k.length<=1000) (ho:out.length<=1000) (hi:i<k.length) (hx:0<=k.getD i M/\k.getD i M<=18446744073709551615) (hc:0<=w.rep.cleared/\w.rep.cleared<=1048576) (o:k.getD i M=0\/(Z2 w.heap.C (k.getD i M)).2.2=0)
include ww wl ql hL hk ho hi hx hc o
theorem ZfW:CP (Zo f79 0) (wkL w k out i).st .nrm (wkL (Hs w (k.getD i M)) k (out++[Ip w (k.getD i M)]) (i+1)).st:=by
 by_cases d:k.getD i M=0;have e:Ip w (k.getD i M)=0:=by rw[Ip,if_pos d]
 have c:Hs w (k.getD i M)=w:=by rw[Hs,if_neg (by rintro⟨q,_⟩;exact q d)]
 rw[e,c];exact sF [(72036,24005)] [] (Fh 36 [.els (O wdv (out++[0]))] (Ftb 12 (Lb ((i:Int)<(k.length:Int))) (Fek 13 wdv k (↑i) i (Ffb 16 (k.getD i M != 0) (Fs 35 (O wdv [0]) (Fa (by(simp[*];omega):(O wdv out).length+(O wdv [0]).length<=2^30) (Fa (ms:O wdv out++O wdv [0]=O wdv (out++[0])) (Fx 37 i Fz))))))));have e:Ip w (k.getD i M)=C7 w (k.getD i M):=by rw[Ip,if_neg d]
 have o2:(Z2 w.heap.C (k.getD i M)).2.2=0:=o.resolve_left d;rw[e];by_cases f:C7 w (k.getD i M)=0;have c:Hs w (k.getD i M)=⟨w.heap,w.old,w.T,w.Q,w.D,⟨w.rep.copied,w.rep.kept,w.rep.filled,w.rep.freed,w.rep.cleared+1,w.rep.steps⟩⟩:=by rw[Hs,if_pos ⟨d,f⟩]
 rw[c];let a:=k.getD i M;exact sF [(96036,24005)] [] (Fh 36 [.els (O wdv (out++[C7 w a]))] (Ftb 12 (Lb ((i:Int)<(k.length:Int))) (Fek 13 wdv k (↑i) i (Ftb 16 (k.getD i M != 0) (Fc 21 (@Z3L w a aa aa aa oq aa) (Ftb 23 (C7 w a==0) (Fi 29 (w.rep.cleared+1) (Fs 35 (O wdv [C7 w a]) (Fa (by(simp[*];omega):(O wdv out).length+(O wdv [C7 w a]).length<=2^30) (Fa (ms:O wdv out++O wdv [C7 w a]=O wdv (out++[C7 w a])) (Fx 37 i Fz)))))))))));have c:Hs w (k.getD i M)=w:=by rw[Hs,if_neg (by rintro⟨_,q⟩;exact f q)]
 rw[c];let b:=k.getD i M;exact sF [(88036,24005)] [] (Fh 36 [.els (O wdv (out++[C7 w b]))] (Ftb 12 (Lb ((i:Int)<(k.length:Int))) (Fek 13 wdv k (↑i) i (Ftb 16 (k.getD i M != 0) (Fc 21 (@Z3L w b aa aa aa oq aa) (Ffb 23 (C7 w b==0) (Fs 35 (O wdv [C7 w b]) (Fa (by(simp[*];omega):(O wdv out).length+(O wdv [C7 w b]).length<=2^30) (Fa (ms:O wdv out++O wdv [C7 w b]=O wdv (out++[C7 w b])) (Fx 37 i Fz))))))))))
end
def ZaK w k out:CP (Zo f79 0) (wkL w k out k.length).st (.ext 0) (Tg.st ⟨tm 39 [(0,.pt 0 0 0),(4,.d (.sl 0 [])),(5,.ow 24005)],[(24005,.arr 35 1 (out.map wdv)),(0,w.evD)],5⟩):=by exact sF [] [] (Ffb 12 (Lb ((k.length:Int)<(k.length:Int))) Fz)
structure ZiC (w:Z6) (k:List Int):Prop where
 ww:Zx w.heap.W
 wl:w.heap.W.length<=4096
 ql:w.Q.length<=1048576
 hL:(w.heap.W.length:Int)=w.heap.C.pw*w.heap.C.pg
 hk:k.length<=1000
 hx:Gk k
 hc:w.rep.cleared=0
 o:∀x∈k,x=0\/(Z2 w.heap.C x).2.2=0
section
variable (w:Z6) (k:List Int) (c:ZiC w k)
include c
def Zbs  := Bw (S:=λi=>(wkL (EC w k i) k (Eg w k i) i).st) k.length (by kernel_rfl) (λi b=>by
  obtain⟨a,h2,h3,d,h5,h6,h7,h8⟩:=Sc w k i;have mem:k.getD i M∈k:=Bs.2 ⟨i,b,rfl⟩;have hc:=c.hc;have hk:=c.hk;exact ZfW (EC w k i) k (Eg w k i) i (by rw[a];exact c.ww) (by rw[a];exact c.wl) (by rw[d];exact c.ql) (by rw[a];exact c.hL) c.hk (by rw[MR];omega) b (c.hx _ mem) (by omega) (by rw[a];exact c.o _ mem)) (ZaK (EC w k k.length) k (Eg w k k.length))
theorem ZaY:BP 79 [.pt 0 0 0,Z3 k] [w.evD] (.ow 1) [(EC w k k.length).evD,Bc (Eg w k k.length)]:=by have hk:=c.hk;exact borF [0] [24005] func79 [] (Fh 5 [.own] (Fl 10 wdv k (Fu (@Zbs w k aa) Fz)))
end
def Z1K(ws l:List Int)(a:Int)(hw:ws.length<=1048576)(hl:l.length<=1048576)(h0:0<=a/\a<=18446744073709551615)(hn:0<l.length):GP 216 [Z3 ws,u64 a,Z3 l] La (.tu [Z3 (ZS ws a l).1,int (ZS ws a l).2]) []:=by
 by_cases h:4096<=a/\a-4096+l.length<=ws.length;have e7:ZS ws a l=(Cg ws (a-4096).toNat l,0):=by rw[ZS,if_pos h]
 have e1:Zw ws a (l.length:Int)=(a-4096,La):=by(rw[Zw,if_pos oq];simp;omega)
 have e2:=congrArg (λx=>x.1) e1;have e3:=congrArg (λx=>x.2) e1;simp only at e2 e3;have hne:ws≠[]:=Ae oq;have hs:Ca (O wdv ws) (Zw ws a l.length).1.toNat (O wdv l)=O wdv (Lz (Zw ws a l.length).1.toNat ws++l++LF ((Zw ws a l.length).1.toNat+l.length) ws):=by simp[Ca]
 rw[e7];exact gF [] func216 [La] (Fh 27 [.els (O wdv (Lz (Zw ws a (l.length:Int)).1.toNat ws++l++LF ((Zw ws a (l.length:Int)).1.toNat+l.length) ws))] (Fl 15 wdv l (Fc 16 (@TW ws a ((l.length:Int)) aa aa) (Ffb 20 (!(Zw ws a (l.length:Int)).2) (Fc 22 (@Z9t ws aa aa) (Fa (by(simp only[Lj];omega):0<=(Zw ws a (l.length:Int)).1/\(Zw ws a (l.length:Int)).1<=(↑(O wdv ws).length:Int)) (Fa (by(simp only[Lj];omega):(O wdv l).length<=(↑(O wdv ws).length:Int).toNat-(Zw ws a (l.length:Int)).1.toNat) (Fa (by exact hs:Ca (O wdv ws) (Zw ws a (l.length:Int)).1.toNat (O wdv l)=O wdv (Lz (Zw ws a (l.length:Int)).1.toNat ws++l++LF ((Zw ws a (l.length:Int)).1.toNat+l.length) ws)) (Fa (by exact Hh _:Ck (O wdv (Lz (Zw ws a (l.length:Int)).1.toNat ws++l++LF ((Zw ws a (l.length:Int)).1.toNat+l.length) ws))) (Fa (by refine congrArg _ ?_;simp[Cg, *]:O wdv (Lz (Zw ws a (l.length:Int)).1.toNat ws++l++LF ((Zw ws a (l.length:Int)).1.toNat+l.length) ws)=O wdv (Cg ws (a-4096).toNat l,0).1) (Fr (0:Int) Fz)))))))))));have e7:ZS ws a l=([],2):=by rw[ZS,if_neg h]
 have e3:(Zw ws a (l.length:Int)).2=Ld:=by(unfold Zw;split;simp;omega;rfl)
 rw[e7];exact gF [] func216 [] (Fl 15 wdv l (Fc 16 (@TW ws a ((l.length:Int)) aa aa) (Ftb 20 (!(Zw ws a (l.length:Int)).2) (Fnl Fz))))
def Ze2(h:Heap) ws(e:Int)(hp:h.P.length<=1048576)(he:e=0)(a:h.P≠[]):GP 217 [h.av,Z3 ws,int e] Ld (.tu [Heap.av ⟨h.C,ws,h.P,h.S,h.B⟩,int 0]) []:=by exact gF [] func217 [] (Ffb 9 (e != 0) (Fc 15 (@Zif h.P aa aa) Fz))
def Z7I(h:Heap) ws(e:Int)(he:¬ e=0):GP 217 [h.av,Z3 ws,int e] Ld (.tu [B6.av,int e]) []:=by exact gF [] func217 [] (Ftb 9 (e != 0) (Fnl (Fnl Fz)))
def Og(h:Zy)(hm:0<=h.map/\h.map<=4294967295):GP 215 [h.av] La (.tu [u64 (Zt h).1,int (Zt h).2]) []:=by rcases bb (!ZR h)with hc0|hc0<;>have a:=hc0<;>simp only[bs]at a;rw[show Zt h=((0:Int),(1:Int))from by simp[Zt, *]];exact gF [] func215 [] (Fc 5 (@SH h aa) (Ft 6 hc0 Fz));have e:=Gl.1 a;obtain⟨g,⟨f,⟨d,⟨b,c⟩⟩⟩⟩:=e;rw[show Zt h=((1:Int)+(4:Int)*h.K+(16:Int)*h.length+(65536:Int)*h.map,(0:Int))from by simp[Zt, *]];exact gF [] func215 [] (Fc 5 (@SH h aa) (Ff 6 hc0 (Fv 10 h.K (Fv 14 h.length (Fv 18 h.map (Fs 20 (O BB.dv [BB.mk 2 1,BB.mk 2 h.K,BB.mk 12 h.length,BB.mk 32 h.map]) (Fc 21 (@Z9Q h.K h.length h.map oq oq aa) Fz)))))))
def ZeO(h:Heap)(a:Int)(hd:Zy)(hw:Zx h.W)(h0:0<=a/\a<=18446744073709551615)(hm:0<=hd.map/\hd.map<=4294967295):GP 184 [h.av,u64 a,hd.av] Ld (.tu [(BN h a hd).1.av,int (BN h a hd).2]) []:=by
 by_cases hp:Z8 h=La/\(Zt hd).2=0;have ok:=Z6R hp.2;have hz:Z5 hd=hd.length+1:=by rw[Z5,if_pos ok.1]
 have po:=B1 hp.1;have hp1:=hp.1;have hp2:=hp.2;have es:(Le (Z5 hd).toNat 0).set 0 (Zt hd).1=BI hd:=by(rw[hz,BI,show(hd.length+1).toNat=hd.length.toNat+1 from by omega,List.replicate_succ,List.set_cons_zero])
 have el:((Le (Z5 hd).toNat 0).set 0 (Zt hd).1).length=hd.length.toNat+1:=by rw[es];simp[BI]
 have hne:h.P≠[]:=Ae oq;by_cases e:(ZS h.W a ((Le (Z5 hd).toNat 0).set 0 (Zt hd).1)).2=0;have e7:BN h a hd=({h with W:=(ZS h.W a ((Le (Z5 hd).toNat 0).set 0 (Zt hd).1)).1},0):=by(rw[es]at e⊢;rw[BN,if_pos ⟨hp.1,ok.1⟩,if_pos e])
 rw[e7];exact gF [] func184 [] (Fh 27 [.els (O wdv (Le (Z5 hd).toNat 0))] (Fh 10030 [.els (O wdv ((Le (Z5 hd).toNat 0).set 0 (Zt hd).1))] (Fc 14 (@Og hd aa) (FcG 21 (!(Zt hd).2 != 0) (λhg=>by(try simp only[bs]at hg);exact@Es h) (Ffs 23 ((Zt hd).2 != 0||!Z8 h) (Fc 26 (@EN hd aa) (Fb (0<=Z5 hd/\Z5 hd<=Z5 hd/\Z5 hd*((↑(nat_lit 7):Int)+1)<=2^48) (Fa (ms:Le (Z5 hd).toNat [B2 0]=O wdv (Le (Z5 hd).toNat 0)) (Fa (by(simp[*];omega):(0:Int)<=0/\Lc 0<(O wdv (Le (Z5 hd).toNat 0)).length) (Fa (by(simp[*];omega):Lc 0<(O wdv (Le (Z5 hd).toNat 0)).length) (Fa (ms:(O wdv (Le (Z5 hd).toNat 0)).set (Lc 0) [B2 (Zt hd).1]=O wdv ((Le (Z5 hd).toNat 0).set 0 (Zt hd).1)) (Fc 36 (@Z1K h.W ((Le (Z5 hd).toNat 0).set 0 (Zt hd).1) a oq oq aa oq) (Fc 42 (@Ze2 h ((ZS h.W a ((Le (Z5 hd).toNat 0).set 0 (Zt hd).1)).1) ((ZS h.W a ((Le (Z5 hd).toNat 0).set 0 (Zt hd).1)).2) oq aa aa) Fz)))))))))))));have e7:BN h a hd=(B6,(ZS h.W a ((Le (Z5 hd).toNat 0).set 0 (Zt hd).1)).2):=by(rw[es]at e⊢;rw[BN,if_pos ⟨hp.1,ok.1⟩,if_neg e])
 rw[e7];exact gF [] func184 [] (Fh 27 [.els (O wdv (Le (Z5 hd).toNat 0))] (Fh 10030 [.els (O wdv ((Le (Z5 hd).toNat 0).set 0 (Zt hd).1))] (Fc 14 (@Og hd aa) (FcG 21 (!(Zt hd).2 != 0) (λhg=>by(try simp only[bs]at hg);exact@Es h) (Ffs 23 ((Zt hd).2 != 0||!Z8 h) (Fc 26 (@EN hd aa) (Fb (0<=Z5 hd/\Z5 hd<=Z5 hd/\Z5 hd*((↑(nat_lit 7):Int)+1)<=2^48) (Fa (by simp[B6,LQ,LN,Lu,Lo,wdv,idv]:Le (Z5 hd).toNat [B2 0]=O wdv (Le (Z5 hd).toNat 0)) (Fa (by(simp[B6, *];omega):(0:Int)<=0/\Lc 0<(O wdv (Le (Z5 hd).toNat 0)).length) (Fa (by(simp[B6, *];omega):Lc 0<(O wdv (Le (Z5 hd).toNat 0)).length) (Fa (by simp[B6,LQ,LN,Lu,Lo,wdv,idv]:(O wdv (Le (Z5 hd).toNat 0)).set (Lc 0) [B2 (Zt hd).1]=O wdv ((Le (Z5 hd).toNat 0).set 0 (Zt hd).1)) (Fc 36 (@Z1K h.W ((Le (Z5 hd).toNat 0).set 0 (Zt hd).1) a oq oq aa oq) (Fc 42 (@Z7I h ((ZS h.W a ((Le (Z5 hd).toNat 0).set 0 (Zt hd).1)).1) ((ZS h.W a ((Le (Z5 hd).toNat 0).set 0 (Zt hd).1)).2) aa) Fz)))))))))))));have e7:BN h a hd=(B6,1):=Z4Z (by
  by_cases q:Z8 h=La;exact .inr λq2=>hp ⟨q,q2⟩;exact .inl (by simpa using q))
 rw[e7];have Q0 {h_ c_ p_} (r_:Fq h_ c_ p_):=Fc 14 (@Og hd aa) (FcG 21 (!(Zt hd).2 != 0) (λhg=>by(try simp only[bs]at hg);exact@Es h) r_);rcases bb ((Zt hd).2 != 0||!Z8 h)with hc0|hc0<;>have hc0p:=hc0<;>simp only[bs]at hc0p;exact gF [] func184 [] (Q0 (Ft 23 hc0 (Fnl (Fnl Fz))));obtain⟨hc0pa,hc0pb⟩:=hc0p;exact gF [] func184 (fO 3) (Fh 27 [.els (O wdv (Le (Z5 hd).toNat 0))] (Fh 10030 [.els (O wdv ((Le (Z5 hd).toNat 0).set 0 (Zt hd).1))] (Q0 (Ff 23 hc0 (Fc 26 (@EN hd aa) (Fa (by(simp only[B6] ;exact sj):0<=Z5 hd/\Z5 hd<=Z5 hd/\Z5 hd*((↑(nat_lit 7):Int)+1)<=2^48) (Fa (by simp[B6,LQ,LN,Lu,Lo,wdv,idv]:Le (Z5 hd).toNat [B2 0]=O wdv (Le (Z5 hd).toNat 0)) (Fa (by grind[B6]:(0:Int)<=0/\Lc 0<(O wdv (Le (Z5 hd).toNat 0)).length) (Fa (by grind[B6]:Lc 0<(O wdv (Le (Z5 hd).toNat 0)).length) (Fa (by simp[B6,LQ,LN,Lu,Lo,wdv,idv]:(O wdv (Le (Z5 hd).toNat 0)).set (Lc 0) [B2 (Zt hd).1]=O wdv ((Le (Z5 hd).toNat 0).set 0 (Zt hd).1)) (Fc 36 (@Z1K h.W ((Le (Z5 hd).toNat 0).set 0 (Zt hd).1) a (by grind[B6]) (by grind[B6]) aa (by grind[B6])) (Fc 42 (@Z7I h ((ZS h.W a ((Le (Z5 hd).toNat 0).set 0 (Zt hd).1)).1) ((ZS h.W a ((Le (Z5 hd).toNat 0).set 0 (Zt hd).1)).2) (by grind[B6])) (Fr (0:Int) (Fr (0:Int) (Fr (O wdv B6.W) (Fr (O Z0.dv B6.P) (Fr (0:Int) (Fr (0:Int) (Fa (by grind[B6]:(ZS h.W a ((Le (Z5 hd).toNat 0).set 0 (Zt hd).1)).2=1) Fz)))))))))))))))))))
def GH(h:Heap)(a n:Int):Heap×Int:=if Z8 h=La/\1<=n/\n<=256 then BN h a ⟨0,n-1,0⟩else(B6,1)
def Zk4{h}{a n:Int}(e:¬ (1<=n/\n<=256)):GH h a n=(B6,1):=if_neg (λq=>e q.2)
def ZhB{h}{a n:Int}(e:1<=n/\n<=256):GH h a n=BN h a ⟨0,n-1,0⟩:=by unfold GH;by_cases b:Z8 h=La;rw[if_pos ⟨b,e⟩];rw[if_neg (λq=>b q.1),BN,if_neg (λq=>b q.1)]
def Za5(h:Heap)(a n:Int)(hw:Zx h.W)(h0:0<=a/\a<=18446744073709551615)(hn:-9223372036854775808<=n/\n<=9223372036854775807):GP 135 [h.av,u64 a,int n] Ld (.tu [(GH h a n).1.av,int (GH h a n).2]) []:=by by_cases e:1<=n/\n<=256;have b:=ZhB (h:=h) (a:=a) e;rw[b];exact gF [] func135 [] (Ffb 13 (Lb (n<1)||Lb (256<n)) (Fi 18 (n-1) (Fc 20 (@ZeO h a (Zy.mk 0 (n-1) 0) aa aa (by(simp only[bs];omega))) Fz)));have b:=Zk4 (h:=h) (a:=a) e;rw[b];exact gF [] func135 [] (Ftb 13 (Lb (n<1)||Lb (256<n)) (Fnl (Fnl Fz)))
def AB(w:Z6)(a:Int):Z6:=if(Z9 w.heap a).1.K=0\/a∈w.Q then w else⟨(GH w.heap a (Z5 (Z9 w.heap a).1)).1,w.old,w.T,w.Q,w.D,⟨w.rep.copied,w.rep.kept,w.rep.filled+1,w.rep.freed,w.rep.cleared,w.rep.steps⟩⟩
def Ek(w:Z6)(l:List Int):Nat->Z6|0=>w|j+1=>AB (Ek w l j) (l.getD j M)
def fpg(w:Z6)(i:Int):Z6:=if ZH w i=La then Ek w (Zd w.heap i).1 (Zd w.heap i).1.length else w
def EW(w:Z6):Nat->Z6|0=>w|i+1=>fpg (EW w i) i
def fiL(w:Z6)(i:Nat):Tg:=⟨tm 90 [(0,.pt 0 0 0),(14,int w.heap.P.length),(15,int i)],[(0,w.evD)],3⟩
structure FilOk (w:Z6):Prop where
 ww:Zx w.heap.W
 wl:w.heap.W.length<=4096
 pl:w.heap.P.length<=64
 ql:w.Q.length<=1048576
 pr:Z37 w
 fi:0<=w.rep.filled/\w.rep.filled<=1048576
def Zf8 w(i:Nat)(k:FilOk w)(hi:i<w.heap.P.length)(c:ZH w i=Ld):CP (Zo f80 0) (fiL w i).st .nrm (fiL w (i+1)).st:=by have pl:=k.pl;have pr:=k.pr;exact sF [] [] (Ftb 16 (Lb ((i:Int)<(w.heap.P.length:Int))) (Fc 22 (@Z7e w ((i:Int)) aa) (Ftb 23 (!ZH w (i:Int)) (Fx 89 i Fz))))
def fjL(w:Z6)(l:List Int)(i j:Nat):Tg:=⟨tm 90 [(0,.pt 0 0 0),(14,int w.heap.P.length),(15,int i),(35,Z3 l),(36,int l.length),(37,int j)],[(0,w.evD)],9⟩
def ZiI w(l:List Int)(i j:Nat)(k:FilOk w)(hl:l.length<=4096)(hj:j<l.length)(ha:0<=l.getD j M/\l.getD j M<=16384)(o:(Z9 w.heap (l.getD j M)).2=0)(c:(Z9 w.heap (l.getD j M)).1.K=0\/l.getD j M∈w.Q):CP (Zo f80 2) (fjL w l i j).st .nrm (fjL w l i (j+1)).st:=by have ql:=k.ql;have ww:=k.ww;by_cases d:(Z9 w.heap (l.getD j M)).1.K=0;let a:=l.getD j M;exact sF [] [] (Ftb 38 (Lb ((j:Int)<(l.length:Int))) (Fek 39 wdv l (↑j) j (Fc 47 (@Nk w.heap a aa oq) (Fc 51 (@I9 ((Z9 w.heap a).2) aa) (FcG 61 (!(Z9 w.heap a).1.K==0) (λe=>by(try simp only[bs]at e);exact@Ep w.Q a aa) (Ftb 62 ((Z9 w.heap a).1.K==0||Lb (l.getD j M∈w.Q)) (Fx 88 j Fz)))))));have d2:=c.resolve_left d;let b:=l.getD j M;exact sF [] [] (Ftb 38 (Lb ((j:Int)<(l.length:Int))) (Fek 39 wdv l (↑j) j (Fc 47 (@Nk w.heap b aa oq) (Fc 51 (@I9 ((Z9 w.heap b).2) aa) (FcG 61 (!(Z9 w.heap b).1.K==0) (λe=>by(try simp only[bs]at e);exact@Ep w.Q b aa) (Ftb 62 ((Z9 w.heap b).1.K==0||Lb (l.getD j M∈w.Q)) (Fx 88 j Fz)))))))
def ZbR w(l:List Int)(i j:Nat)(k:FilOk w)(hl:l.length<=4096)(hj:j<l.length)(ha:0<=l.getD j M/\l.getD j M<=16384)(o:(Z9 w.heap (l.getD j M)).2=0)(c:¬ ((Z9 w.heap (l.getD j M)).1.K=0\/l.getD j M∈w.Q))(e:(GH w.heap (l.getD j M) (Z5 (Z9 w.heap (l.getD j M)).1)).2=0)(pl:(GH w.heap (l.getD j M) (Z5 (Z9 w.heap (l.getD j M)).1)).1.P=w.heap.P):CP (Zo f80 2) (fjL w l i j).st .nrm (fjL (AB w (l.getD j M)) l i (j+1)).st:=by
 have ql:=k.ql;have ww:=k.ww;have fi:=k.fi;have c1:¬ (Z9 w.heap (l.getD j M)).1.K=0:=λq=>c (.inl q);have c2:l.getD j M∉w.Q:=λq=>c (.inr q);have sb:=Ic (Z9 w.heap (l.getD j M)).1;have mp:=IC ww (l.getD j M);have e7:AB w (l.getD j M)=⟨(GH w.heap (l.getD j M) (Z5 (Z9 w.heap (l.getD j M)).1)).1,w.old,w.T,w.Q,w.D,⟨w.rep.copied,w.rep.kept,w.rep.filled+1,w.rep.freed,w.rep.cleared,w.rep.steps⟩⟩:=by rw[AB,if_neg c]
 unfold fjL;rw[e7];simp only;rw[pl];exact sF [] [] (Ftb 38 (Lb ((j:Int)<(l.length:Int))) (Fek 39 wdv l (↑j) j (Fc 47 (@Nk w.heap (l.getD j M) aa oq) (Fc 51 (@I9 ((Z9 w.heap (l.getD j M)).2) aa) (FcG 61 (!(Z9 w.heap (l.getD j M)).1.K==0) (λhg=>by(try simp only[bs]at hg);exact@Ep w.Q (l.getD j M) aa) (Ffs 62 ((Z9 w.heap (l.getD j M)).1.K==0||Lb (l.getD j M∈w.Q)) (Fc 71 (@EN ((Z9 w.heap (l.getD j M)).1) aa) (Fc 72 (@Za5 w.heap (l.getD j M) (Z5 (Z9 w.heap (l.getD j M)).1) aa oq oq) (Fc 78 (@I9 ((GH w.heap (l.getD j M) (Z5 (Z9 w.heap (l.getD j M)).1)).2) aa) (Fi 84 (w.rep.filled+1) (Fx 88 j Fz)))))))))))
def Zcf w l i:CP (Zo f80 2) (fjL w l i l.length).st (.ext 2) (Tg.st ⟨tm 90 [(0,.pt 0 0 0),(14,int w.heap.P.length),(15,int i)],[(0,w.evD)],9⟩):=by exact sF [] [] (Ffb 38 (Lb ((l.length:Int)<(l.length:Int))) Fz)
structure FjOk (w:Z6) (l:List Int):Prop where
 k:∀j,j<=l.length->FilOk (Ek w l j)
 hl:l.length<=4096
 a:∀j,j<l.length->0<=l.getD j M/\l.getD j M<=16384
 o:∀j,j<l.length->(Z9 (Ek w l j).heap (l.getD j M)).2=0
 f:∀j,j<l.length->¬ ((Z9 (Ek w l j).heap (l.getD j M)).1.K=0\/l.getD j M∈(Ek w l j).Q)->(GH (Ek w l j).heap (l.getD j M) (Z5 (Z9 (Ek w l j).heap (l.getD j M)).1)).2=0/\(GH (Ek w l j).heap (l.getD j M) (Z5 (Z9 (Ek w l j).heap (l.getD j M)).1)).1.P=(Ek w l j).heap.P
 pg:(Ek w l l.length).heap.P.length=w.heap.P.length
def Ze3 w l(i:Nat)(c:FjOk w l)  := Bw (S:=λj=>(fjL (Ek w l j) l i j).st) l.length (by kernel_rfl) (λj a=>by
  by_cases q:(Z9 (Ek w l j).heap (l.getD j M)).1.K=0\/l.getD j M∈(Ek w l j).Q
  .have e:Ek w l (j+1)=Ek w l j:=by rw[Ek,AB,if_pos q]
   rw[e];exact ZiI _ l i j (c.k j (by omega)) c.hl a (c.a j a) (c.o j a) q
  .obtain⟨b,d⟩:=c.f j a q;exact ZbR _ l i j (c.k j (by omega)) c.hl a (c.a j a) (c.o j a) q b d) (Zcf (Ek w l l.length) l i)
def Zj8 w(i:Nat)(k:FilOk w)(hi:i<w.heap.P.length)(c:ZH w i=La)(e:(Zd w.heap i).2=0)(f:FjOk w (Zd w.heap i).1):CP (Zo f80 0) (fiL w i).st .nrm (fiL (Ek w (Zd w.heap i).1 (Zd w.heap i).1.length) (i+1)).st:=by have pl:=k.pl;have pr:=k.pr;have ww:=k.ww;have hl:=f.hl;have pg:=f.pg;unfold fiL;rw[pg];let a:=Zd w.heap (i:Int);exact sF [] (fO 8) (Ftb 16 (Lb ((i:Int)<(w.heap.P.length:Int))) (Fc 22 (@Z7e w ((i:Int)) aa) (Ffb 23 (!ZH w (i:Int)) (Fc 30 (@Ns w.heap ((i:Int)) aa oq) (Fc 34 (@I9 (a.2) aa) (Fl 36 wdv a.1 (Fu (@Ze3 w (a.1) i aa) (Fx 89 i (Fo ((↑(Ek w a.1 a.1.length).heap.P.length:Int)=(w.heap.P.length:Int)) Fz)))))))))
def Z9O w:CP (Zo f80 0) (fiL w w.heap.P.length).st (.ext 0) (Tg.st ⟨tm 90 [(0,.pt 0 0 0)],[(0,w.evD)],3⟩):=by exact sF [] [] (Ffb 16 (Lb ((w.heap.P.length:Int)<(w.heap.P.length:Int))) Fz)
structure FiOk (w:Z6):Prop where
 k:∀i,i<=w.heap.P.length->FilOk (EW w i)
 pg:∀i,i<=w.heap.P.length->(EW w i).heap.P.length=w.heap.P.length
 e:∀i:Nat,i<w.heap.P.length->ZH (EW w i) i=La->(Zd (EW w i).heap i).2=0/\FjOk (EW w i) (Zd (EW w i).heap i).1
section
variable (w:Z6) (c:FiOk w)
include c
def Zd7  := Bw (S:=λi=>(fiL (EW w i) i).st) w.heap.P.length (by kernel_rfl) (λi d=>by
  have k:=c.k i (by omega);have pg:=c.pg i (by omega);by_cases q:ZH (EW w i) i=La
  .obtain⟨a,b⟩:=c.e i d q;have e:EW w (i+1)=Ek (EW w i) (Zd (EW w i).heap i).1 (Zd (EW w i).heap i).1.length:=by rw[EW,fpg,if_pos q]
   rw[e];exact Zj8 _ i k (by omega) q a b
  .have e:EW w (i+1)=EW w i:=by rw[EW,fpg,if_neg q]
   rw[e];exact Zf8 _ i k (by omega) (by simpa using q)) (by
  have:=Z9O (EW w w.heap.P.length);rw[c.pg _ (Lh _)]at this;exact this)
theorem Zdr:BP 80 [.pt 0 0 0] [w.evD] (.tu []) [(EW w w.heap.P.length).evD]:=by have pl:=(c.k 0 (Xj _)).pl;have pl:w.heap.P.length<=64:=pl;exact lF func80 [] (Fl 14 Z0.dv w.heap.P (Fu (@Zd7 w aa) Fz))
end
def Cd(T:Nat->List Int):Nat->List Int|0=>[]|i+1=>Cd T i++T i
def Ol T{i:Nat}:∀{n:Nat},i<=n->∃R,Cd T n=Cd T i++R
 |0,h=>⟨[],by rw[show i=0 by omega];rfl⟩
 |n+1,h=>by
  by_cases q:i=n+1
  .subst q;exact⟨[],by simp⟩
  .obtain⟨R,e⟩:=Ol T (i:=i) (n:=n) oq;exact⟨R++T n,by rw[Cd,e,Lp]⟩
def Z2i{h T}(g:Gt h T):∀f i,i+f=h.P.length->Cd T i++(Co h f i).1=Cd T h.P.length
 |0,i,e=>by rw[<-e];simp[Co]
 |f+1,i,e=>by
  have a:=Z2i g f (i+1) oq;have s:=(g.starts f (i+1) oq).1;unfold Co;rw[g.page (show i<h.P.length by omega),if_pos rfl,if_pos s,<-a,Cd,Lp]
structure FV (h:Heap) (T:Nat->List Int) (v:Z6):Prop where
 g:Gd h T
 fo:FOk v
 iv:Bt v
 pr:Z8 v.heap=La
 c:v.heap.C=h.C
 pl:v.heap.P.length=h.P.length
 ol:v.old=(Zg h).1
 so:GX v.heap.P
 r:v.rep.filled=0
 pm:∀i:Nat,ZH v i=La->(h.P.getD i M).K=1/\(v.heap.P.getD i M).U=(h.P.getD i M).U/\∀x∈T i,(Z1 v.heap.W x).1=(Z1 h.W x).1
def wq(h:Heap)(v:Z6)(Q:List Int):Z6:=Cl v (Q.filter (Cz h)).length
def Z3o{v}(d:FOk v)(b:Bt v){a:Int}:∀k,k<=v.old.length->(∀j,j<k->IH v (v.old.getD j M)->a<v.old.getD j M\/v.old.getD j M+Zl v.heap.W (v.old.getD j M)<a)->Z1 (Cl v k).heap.W a=Z1 v.heap.W a
 |0,_,_=>rfl
 |k+1,hk,hh=>by
  have q:=Z3o d b k oq λj hj=>hh j oq;have f:=Ta d b k oq;obtain⟨i0,h,m,n,i4,i5,o,p,i8,i9,i,l⟩:=HP v d k;have g:v.old.getD k M∈v.old:=Bs.2 ⟨k,by omega,rfl⟩;have hr:=b.r _ (Lq _ g);have hn:=Bm v.heap.W (v.old.getD k M);have hx:=hh k oq;have fl:=f.l;rw[<-q];show Z1 (GK (Cl v k) (v.old.getD k M)).heap.W a=_;unfold GK;split
  .rename_i c;have hx:=hx (by unfold IH ZH at *;rw[h,m,n,o,p]at c;exact c);have e:(Zu (Cl v k) (v.old.getD k M)).length=Zl v.heap.W (v.old.getD k M):=f.h _ g;have ho:(BI ⟨0,Zl v.heap.W (v.old.getD k M),0⟩).length=(Zl v.heap.W (v.old.getD k M)).toNat+1:=by simp[BI]
   simp only[e];exact Ag oq oq
  .rfl
section
variable {h:Heap} {T:Nat->List Int} {v:Z6} (f:FV h T v)
include f
theorem FV.all:(CC h).1=Cd T h.P.length:=by
 have e:CC h=Co h h.P.length 0:=by rw[CC,if_pos f.g.p]
 rw[e,<-Z2i f.g.gt h.P.length 0 oq];simp[Cd]
theorem FV.old:v.old=(Cd T h.P.length).filter (Cz h):=by rw[f.ol,Zg,f.all]
theorem FV.is{Q R:List Int}(e:Cd T h.P.length=Q++R):(Q.filter (Cz h)).length<=v.old.length:=by rw[f.old,e,Lw,Lx];omega
theorem FV.proper{Q R:List Int}(e:Cd T h.P.length=Q++R):Z8 (wq h v Q).heap=La:=by have l:=(Ta f.fo f.iv _ (f.is e)).l;obtain⟨i0,a,d,g,i,i5,i6,i7,i8,i9,b,c⟩:=HP v f.fo (Q.filter (Cz h)).length;have p:=Gh.1 f.pr;refine Gh.2 ?_;unfold wq;rw[a,d,g,i,l];exact p
theorem FV.prom{Q}(i:Int):ZH (wq h v Q) i=ZH v i:=by obtain⟨i0,i1,c,d,i4,i5,e,i7,i8,i9,a,b⟩:=HP v f.fo (Q.filter (Cz h)).length;unfold ZH wq;rw[c,d,e]
theorem FV.filOk{Q R:List Int}(e:Cd T h.P.length=Q++R):FilOk (wq h v Q):=by obtain⟨a,i1,d,g,i4,i5,i6,i7,i8,i9,b,c⟩:=HP v f.fo (Q.filter (Cz h)).length;have q:=f.is e;have ol:=f.fo.ol;have r:=f.r;have p:=Gh.1 f.pr;refine⟨a.W,a.wl,a.pl, ?_,⟨a.tl, ?_, ?_, ?_⟩, ?_⟩;exact L3 a.ql dd;exact L3 a.pl dd;unfold wq;rw[g];exact p.2.2.2.1;unfold wq;rw[d];exact f.so;unfold wq;omega
section
variable {Q R:List Int} {y:Int} {i:Nat} (e:Cd T h.P.length=Q++y::R) (hy:y∈T i)
include e hy
theorem FV.nxt:wq h v (Q++[y])=if Cr h.W y=0 then wq h v Q else GK (wq h v Q) y:=by
 have o:Cz h y=Lb (Cr h.W y≠0):=by rw[Cz,f.g.at' hy];rfl
 unfold wq;rw[Lw,Lx];by_cases c:Cr h.W y=0;rw[if_pos c];simp[o,c];rw[if_neg c];have a:([y].filter (Cz h)).length=1:=by simp[o,c]
 have b:v.old.getD (Q.filter (Cz h)).length M=y:=by(rw[f.old,e];simp[Lw,L7,o,c])
 rw[a,Cl,b]
theorem FV.skip(d:ZH v i=Ld):wq h v (Q++[y])=wq h v Q:=by rw[f.nxt e hy];split;rfl;have a:=(HP v f.fo (Q.filter (Cz h)).length).2.1;rw[GK,if_neg];rintro⟨c,_⟩;have b:(wq h v Q).heap.C=h.C:=a.trans f.c;rw[b,f.g.ofx hy,f.prom]at c;rw[d]at c;cases c
theorem FV.hd(pm:ZH v i=La):Z1 (wq h v Q).heap.W y=Z1 v.heap.W y:=by
 refine Z3o f.fo f.iv _ (f.is e) λj d m=>?_;have b:=Z0d h;rw[f.all,e,Xg]at b;have l:v.old.getD j M∈Q:=by(rw[f.old,e,Lw,Lf,LZ d,<-Lf];exact(LG.1 (Bs.2 ⟨j,d,rfl⟩)).1)
 have lt:=b.2.2 _ l y pq;have k:v.old.getD j M∈(Zg h).1:=by(rw[<-f.ol];exact Bs.2 ⟨j,by have:=f.is e;omega,rfl⟩)
 obtain⟨g,a,_⟩:=(f.g.objs.2 _).1 k;have c:=m.1;rw[f.c,f.g.ofx a]at c;have:=f.g.sep a hy lt;rw[(E6 ((f.pm g c).2.2 _ a)).2.1];exact .inr this
theorem FV.step(pm:ZH v i=La):Z9 (wq h v Q).heap y=(Bg h.W y,0)/\wq h v (Q++[y])=AB (wq h v Q) y/\(GH (wq h v Q).heap y (Z5 (Bg h.W y))).2=0/\(GH (wq h v Q).heap y (Z5 (Bg h.W y))).1.P=(wq h v Q).heap.P:=by
 obtain⟨i0,i1,i2,i3,i4,i5,i6,i7,i8,i9,i10,i11⟩:=HP v f.fo (Q.filter (Cz h)).length;have p:=f.pm i pm;have on:=f.g.on hy;have hd:=f.hd e hy pm;have e0:(Z1 (wq h v Q).heap.W y).1=(Z1 h.W y).1:=by rw[hd];exact p.2.2 y hy
 obtain⟨o1,o2,o3,o4,o5⟩:=E6 e0;have pr:=f.proper e;have ec:(wq h v Q).heap.C=h.C:=i1.trans f.c;have ep:(wq h v Q).heap.P=v.heap.P:=i2;have b:Zz (wq h v Q).heap i=Zz h i:=by rw[Zz,ec];rfl
 have k:=pm;unfold ZH at k;simp only[decide_eq_true_eq,Lv]at k;have at1:Z9 (wq h v Q).heap y=(Bg h.W y,0):=by(rw[<-o4];exact at_one pr (i:=i) (by rw[ep];omega) (by rw[ep];exact k.2.2.1) (by rw[b];exact on.2.2.1) (by rw[b,o2,ep,p.2.1];exact on.2.2.2.2.1) (o1 on.2.2.2.2.2.1))
 have hr:=Bm h.W y;have sz:=NC h.W y;have l:(wq h v Q).heap.W.length=v.heap.W.length:=(Ta f.fo f.iv _ (f.is e)).l;have po:=B1 f.g.p;have pv:=B1 f.pr;have on4:=on.2.2.2.1;have pp:=Ea f.g.p on.1;have hv:ZR ⟨0,Zl h.W y,0⟩=La:=Gl.2 ⟨by simp,by simp,by simp;omega,by simp;omega,by simp⟩;have wo:(ZS (wq h v Q).heap.W y (BI ⟨0,Zl h.W y,0⟩)).2=0:=by
  unfold ZS;rw[if_pos];have ho:(BI ⟨0,Zl h.W y,0⟩).length=(Zl h.W y).toNat+1:=by simp[BI]
  have ms:=EF (i:=i) (j:=h.P.length) (pw:=h.C.pw) (by have:=on.1;omega) oq;have h0:0<=(i:Int)*h.C.pw:=LD oq oq;have cm:=LC (h.P.length:Int) h.C.pw;have L:=f.iv.L;rw[f.c]at L;have pp1:=pp.1;have on5:=on.2.2.2.2.1;have on3:=on.2.2.1;have e8:(h.P.length:Int)=h.C.pg:=po.2.2.2.2.2.2.2.1;rw[e8]at ms cm;unfold Zz at on3 on4 on5;omega
 have fh:GH (wq h v Q).heap y (Z5 (Bg h.W y))=({ (wq h v Q).heap with W:=(ZS (wq h v Q).heap.W y (BI ⟨0,Zl h.W y,0⟩)).1},0):=by(rw[GH,sz,if_pos ⟨pr,by omega,by omega⟩,show Zl h.W y+1-1=Zl h.W y by omega,BN,if_pos ⟨pr,hv⟩,if_pos wo])
 refine⟨at1, ?_,by rw[fh],by rw[fh]⟩;rw[f.nxt e hy,AB,at1,fh];simp only;by_cases c:Cr h.W y=0;rw[if_pos c,if_pos (.inl c)];rw[if_neg c,GK,ec,f.g.ofx hy,f.prom,pm];have c':¬ (Bg h.W y).K=0:=c;have hw:(Zu (wq h v Q) y).length=Zl h.W y:=o2;by_cases d:y∈(wq h v Q).Q;rw[if_neg (λq=>q.2 d),if_pos (.inr d)];rw[if_pos ⟨rfl,d⟩,if_neg (λq=>q.elim c' d),hw]
end
theorem FV.page{i:Nat}{R:List Int}(pm:ZH v i=La):∀j,j<=(T i).length->Cd T h.P.length=Cd T i++T i++R->Ek (wq h v (Cd T i)) (T i) j=wq h v (Cd T i++(T i).take j)
 |0,_,_=>by simp[Ek]
 |j+1,hj,e=>by
  have b:=FV.page pm j oq e;have m:(T i).getD j M∈T i:=Bs.2 ⟨j,by omega,rfl⟩;have s:T i=(T i).take j++(T i).getD j M::(T i).drop (j+1):=by
   have:=LV j (T i);rw[LW oq]at this;rw[Lf,Ln oq];exact this.symm
  have a:Cd T h.P.length=(Cd T i++(T i).take j)++(T i).getD j M::((T i).drop (j+1)++R):=by
   rw[e];conv=>lhs;rw[s]
   simp
  rw[Ek,b,M1 oq,<-Lp,(f.step a m pm).2.1]
theorem FV.pass{i:Nat}{R:List Int}(a:ZH v i=Ld):∀j,j<=(T i).length->Cd T h.P.length=Cd T i++T i++R->wq h v (Cd T i++(T i).take j)=wq h v (Cd T i)
 |0,_,_=>by simp
 |j+1,hj,e=>by
  have c:=FV.pass a j oq e;have m:(T i).getD j M∈T i:=Bs.2 ⟨j,by omega,rfl⟩;have s:T i=(T i).take j++(T i).getD j M::(T i).drop (j+1):=by
   have:=LV j (T i);rw[LW oq]at this;rw[Lf,Ln oq];exact this.symm
  have b:Cd T h.P.length=(Cd T i++(T i).take j)++(T i).getD j M::((T i).drop (j+1)++R):=by
   rw[e];conv=>lhs;rw[s]
   simp
  rw[M1 oq,<-Lp,f.skip b m a,c]
theorem FV.tl{i:Nat}{R:List Int}(m:i<h.P.length)(e:Cd T h.P.length=Cd T i++T i++R)(pm:ZH v i=La):Zd (wq h v (Cd T i)).heap i=(T i,0):=by
 obtain⟨i0,s,y,i3,i4,i5,i6,i7,i8,i9,u,w⟩:=HP v f.fo ((Cd T i).filter (Cz h)).length;have p:=f.pm i pm;have k:=pm;unfold ZH at k;simp only[decide_eq_true_eq,Lv]at k;have t:=(f.g.t1 i m p.1).1;have l:(wq h v (Cd T i)).heap.P=v.heap.P:=y;have b:Zz (wq h v (Cd T i)).heap i=Zz h i:=by rw[Zz,show(wq h v (Cd T i)).heap.C=h.C from s.trans f.c];rfl
 have d:Cd T h.P.length=Cd T i++(T i++R):=by rw[e,Lp]
 refine Zjz (f.proper d) (by rw[l,f.pl];exact m) (by rw[l];exact k.2.2.1) ?_;rw[b,l,p.2.1];refine NJ t λx hx=>?_;obtain⟨j,j1,j2⟩:=Bs.1 hx;have c:=Z0d h;have q:Z1 (wq h v (Cd T i)).heap.W x=Z1 v.heap.W x:=by
  refine Z3o f.fo f.iv _ (f.is d) λj n tf=>?_;have c:=Z0d h;rw[f.all,d,Xg]at c;have mq:v.old.getD j M∈Cd T i:=by(rw[f.old,d,Lw,Lf,LZ n,<-Lf];exact(LG.1 (Bs.2 ⟨j,n,rfl⟩)).1)
  have lt:=c.2.2 _ mq x (Lq _ hx);have z:v.old.getD j M∈(Zg h).1:=by(rw[<-f.ol];exact Bs.2 ⟨j,by have:=f.is d;omega,rfl⟩)
  obtain⟨r,a,_⟩:=(f.g.objs.2 _).1 z;have g:=tf.1;rw[f.c,f.g.ofx a]at g;rw[(E6 ((f.pm r g).2.2 _ a)).2.1];exact .inr (f.g.sep a hx lt)
 have o:=E6 (show(Z1 (wq h v (Cd T i)).heap.W x).1=(Z1 h.W x).1 by rw[q];exact p.2.2 x hx);exact⟨o.1 (GV t hx).1,o.2.1⟩
theorem FV.P:∀i,i<=h.P.length->EW v i=wq h v (Cd T i)
 |0,_=>rfl
 |i+1,hi=>by
  have b:=FV.P i oq;obtain⟨R,e⟩:=Ol T hi;have a:Cd T h.P.length=Cd T i++T i++R:=e;rw[EW,b,fpg,f.prom];by_cases pm:ZH v i=La
  .rw[if_pos pm,f.tl oq a pm];have:=f.page pm (T i).length (Lh _) a;rw[Xh]at this;exact this
  .rw[if_neg pm];have:=f.pass (by simpa using pm) (T i).length (Lh _) a;rw[Xh]at this;exact this.symm
theorem FV.fin:EW v v.heap.P.length=Cl v v.old.length:=by rw[f.pl,f.P _ (Lh _),wq,<-f.old]
theorem FV.fiOk:FiOk v:=by
 have pl:=f.pl;have o:∀i,i<=h.P.length->(EW v i).heap.P=v.heap.P:=λi c=>by(rw[f.P i c];exact(HP v f.fo ((Cd T i).filter (Cz h)).length).2.2.1)
 refine⟨λi c=>?_,λi c=>by rw[o i oq],λi c pm=>?_⟩;obtain⟨R,e⟩:=Ol T (show i<=h.P.length by omega);rw[f.P i oq];exact f.filOk e;obtain⟨R,e⟩:=Ol T (show i+1<=h.P.length by omega);have b:Cd T h.P.length=Cd T i++T i++R:=e;have m:=o i oq;rw[f.P i oq]at pm m⊢;rw[f.prom]at pm;rw[f.tl oq b pm];have p:∀j,j<(T i).length->Cd T h.P.length=(Cd T i++(T i).take j)++(T i).getD j M::((T i).drop (j+1)++R):=λj a=>by
  have s:T i=(T i).take j++(T i).getD j M::(T i).drop (j+1):=by(have:=LV j (T i);rw[LW oq]at this;rw[Lf,Ln oq];exact this.symm)
  rw[b];conv=>lhs;rw[s]
  simp
 have mem:∀j,j<(T i).length->(T i).getD j M∈T i:=λj a=>Bs.2 ⟨j,a,rfl⟩;have g:∀j,j<=(T i).length->Ek (wq h v (Cd T i)) (T i) j=wq h v (Cd T i++(T i).take j):=λj a=>f.page pm j a b;have t:(T i).length<=4096:=by(have:=f.g.page (show i<h.P.length by omega);have n:=Nw h i;rw[this]at n;exact L3 n dd)
 show _=(0:Int)/\FjOk _ (T i);refine⟨rfl,λj a=>?_,t,λj a=>?_,λj a=>?_,λj a _=>?_, ?_⟩;rw[g j a];exact f.filOk (R:=(T i).drop j++R) (by rw[b,Lp,Lp,<-Lp (Lz j (T i)),LV]);have d:=f.g.on (mem j a);have pp:=Ea f.g.p d.1;have u:=B1 f.g.p;have h0:0<=(i:Int)*h.C.pw:=LD oq oq;have ms:=EF (i:=i) (j:=h.P.length) (pw:=h.C.pw) (by have:=d.1;omega) oq;have q:=LC (h.P.length:Int) h.C.pw;have r:(h.P.length:Int)=h.C.pg:=u.2.2.2.2.2.2.2.1;rw[r]at ms q;have k:=d.2.2.1;have l:=d.2.2.2.1;unfold Zz at k l;have wl:=f.fo.wl;have L:=f.iv.L;rw[f.c]at L;omega;rw[g j oq,(f.step (p j a) (mem j a) pm).1];have s:=f.step (p j a) (mem j a) pm;rw[g j oq,s.1];exact s.2.2;rw[g _ (Lh _)];rw[show(wq h v (Cd T i++(T i).take (T i).length)).heap.P=v.heap.P from(HP v f.fo _).2.2.1,m]
end
def TkU(w:Z6):Prop:=∀x∈w.T,0<(w.heap.P.getD x.toNat M).U
def TkU.fwd{w r}(g:B7 w)(iv:Bt w)(t:TkU w)(e:(w.fwd r).2.2=0):TkU (w.fwd r).1:=by
 unfold Z6.fwd at e⊢;split at e;rename_i c;rw[if_pos c];exact t;rename_i c1;rw[if_neg c1];split at e;cases e;rename_i c2;rw[if_neg c2];split at e;rename_i c3;rw[if_pos c3];exact t;rename_i c3;rw[if_neg c3];split at e;cases e;rename_i c4;rw[if_neg c4];split at e;rename_i b;rw[if_pos b];exact t;rename_i b;rw[if_neg b];split at e;rename_i a;rw[if_pos a];intro x hx;have f:=t x hx;have h2:=g.tk x hx;show 0<((ZF w.heap.P (Cx w r) (ZB w.heap.P (Cx w r)) (1-w.heap.S)).getD x.toNat M).U;rw[Hb oq];split;exact f;exact f;rename_i a;rw[if_neg a];split at e;cases e;rename_i d;rw[if_neg d];have k:r∈w.old:=LH.1 c2;have z:=(iv.z r k).resolve_left (by unfold Cx at a;exact a);have sz:Z5 (Zu w r)=Zl w.heap.W r+1:=Gz w r;have hr:=Bm w.heap.W r;obtain⟨i,p,tk,i1,h,i3,i4,i5,i6,i7,i8⟩:=Dm g (n:=Z5 (Zu w r)) oq (by simpa using d);intro x hx;show 0<((w.place (Z5 (Zu w r))).1.heap.P.getD x.toNat M).U;have hx:x∈(w.place (Z5 (Zu w r))).1.T:=hx;rw[i8]at hx⊢;simp only[Lf,List.getElem?_set]at hx⊢;by_cases q:i=x.toNat
 rw[if_pos q,if_pos oq];simp only[L4];omega;rw[if_neg q];rw[<-Lf];refine t x ?_;rcases h with⟨_,j,_⟩|⟨_,_,j,_⟩;rw[j]at hx;rcases LR.1 hx with hx|hx;exact hx;have:=L1.1 hx;omega;rw[j]at hx;exact hx
def lgH(c:ZY)(p:Z0):Int:=if p.K=2 then need c p.U else 0
def Zh7{c l}(P:PT c l):B8 EE l<=B8 (lgH c) l:=by
 have e:∀n,n<=l.length->((Lg n).map λi=>EE (l.getD i M)).sum+Gy c l n=((Lg n).map λi=>lgH c (l.getD i M)).sum:=by
  intro n;induction n with
  |zero=>intro _;simp[Gy]
  |succ n g =>
   intro m;have g:=g oq;have h:=((Z1x (c:=c) (l:=l) (f:=l.length) (i:=0) oq).1 (Z3E.2 P)) n (Xj _) m;have c3:=h.1;rw[L2,Lo,Ly,Lo,Ly];simp only[LM,LO,LS,LU];rw[Gy,El];have j:=PK (λi b hk=>(P.lg i b hk).1) n oq;unfold EE lgH at *;by_cases a:(l.getD n M).K=2;rw[if_pos a,if_pos (.inl a),if_pos a];have:¬ 0<Gy c l n:=λq=>by have:=c3.2 q;omega
   omega;rw[if_neg a,if_neg a];by_cases d:(l.getD n M).K=3;have:=c3.1 d;rw[if_pos (.inr d)];omega;have:¬ 0<Gy c l n:=λq=>d (c3.2 q);rw[if_neg oq];omega
 have k:=e l.length (Lh _);have j:=PK (λi b hk=>(P.lg i b hk).1) l.length (Lh _);rw[EY,EY];omega
def C1(h:Heap)(a:Int):Int:=if(h.P.getD (Z2 h.C a).1.toNat M).K=2 then 0 else if(h.P.getD (Z2 h.C a).1.toNat M).N=0 then(Zp h a).1.length+1 else 0
def CR(h:Heap)(a:Int):Int:=if(h.P.getD (Z2 h.C a).1.toNat M).K=2 then need h.C ((Zp h a).1.length+1)else 0
def Z8q{h T}(g:Gd h T){f:Int->Int}{q:Z0->Int}(d:∀i,i<h.P.length->q (h.P.getD i M)<=(((T i).filter (Cz h)).map f).sum):B8 q h.P<=((Zg h).1.map f).sum:=by
 have a:∀n,n<=h.P.length->((Lg n).map λi=>q (h.P.getD i M)).sum<=(((Cd T n).filter (Cz h)).map f).sum:=by
  intro n;induction n with|zero=>intro _;simp[Cd]|succ n b =>intro c;have b:=b oq;have:=d n c;rw[L2,Lo,Ly,Cd,Lw,Lo,Ly];simp only[LM,LO,LS,LU];omega
 have e:(Zg h).1=(Cd T h.P.length).filter (Cz h):=by(have:=Z2i g.gt h.P.length 0 oq;rw[Zg,CC,if_pos g.p,<-this];rfl)
 rw[e,EY];exact a _ (Lh _)
section
variable {B:Int} (hB:0<=B) {h:Heap} {T:Nat->List Int} (g:Gd h T) (o:MV h) {s k:List Int} (l:Zx h.W) (hb:∀p∈h.P,p.N<=B) (y:GN h T s) (gk:GN h T k) (e:(collectF h s k).2.2.2.2=0)
include hB g o l hb y gk e
theorem Zal:(Bj (collectF h s k).1.P:Int)<=crowd (collectF h s k).1.P+((Zg (collectF h s k).1).1.map (CR (collectF h s k).1)).sum+(4*((Zg (collectF h s k).1).1.map (C1 (collectF h s k).1)).sum+3*h.C.pw-1)/(3*h.C.pw)/\0<=((Zg (collectF h s k).1).1.map (C1 (collectF h s k).1)).sum /\ (Bj h.P:Int)-(collectF h s k).2.2.2.1.freed<=Bj (collectF h s k).1.P:=by
 obtain⟨tq,l5,ce,on,eh,gd,es,ew,er⟩:=Z5s hB g o l hb y gk e;obtain⟨a8,sw⟩:=SW.roots g o y l;have e1:(rootsF (Zr h) s).2.2=0:=by rw[a8]
 have e2:=(sw.all g o).1;have tu:TkU (ZA h s):=AW TkU (λw r a b c d=>TkU.fwd a b c d) (λw q j a b c _ _ _ d=>TkU.fwd a b c d) (λ_ _ c=>c) l g.p (λx hx=>by simp[Zr]at hx) e1 e2;have ck:=cOk h s k l g.p e1 e2;have ki:=ce.k;have m:=on.m;have wk:=on.c.ok;have po:=B1 g.p;have hl:=ki.pl;have sp:=ce.s;generalize hH:(collectF h s k).1=H at *;have Hp:H.P=(ZA h s).heap.P.map (Bv (ZA h s).heap.S):=by rw[eh]
 have Hc:H.C=h.C:=by rw[eh];exact ki.c
 have Hw:H.W=l5:=by rw[eh]
 have Hl:H.P.length=h.P.length:=by rw[Hp,Lj,hl]
 have Hg:∀i,i<h.P.length->H.P.getD i M=Bv (ZA h s).heap.S ((ZA h s).heap.P.getD i M):=λi hi=>by(rw[Hp];simp only[Lf,LL];rw[Ln oq];rfl)
 have a5:∀i,i<h.P.length->((i:Int)∈(ZA h s).T/\(h.P.getD i M).K=0/\((ZA h s).heap.P.getD i M).K=1/\((ZA h s).heap.P.getD i M).S=1-(ZA h s).heap.S/\((ZA h s).heap.P.getD i M).N=0)\/(((ZA h s).heap.P.getD i M).K=(h.P.getD i M).K/\((ZA h s).heap.P.getD i M).U=(h.P.getD i M).U/\((ZA h s).heap.P.getD i M).N=(h.P.getD i M).N/\((h.P.getD i M).K=1->(((ZA h s).heap.P.getD i M).S=(ZA h s).heap.S↔¬ 0<(h.P.getD i M).N))):=by(intro i hi;by_cases c:(i:Int)∈(ZA h s).T;have t:=ki.tk i c;have:=ce.ts _ c;rw[Lv]at this;exact .inl ⟨c,t.2.1,t.2.2.1,this,t.2.2.2.1⟩;have q:=ki.pg i c;exact .inr ⟨q.1,q.2.1,q.2.2,m.m5 i hi⟩)
 have a6:∀i,i<h.P.length->0<=((ZA h s).heap.P.getD i M).U/\0<=(h.P.getD i M).U/\0<=(h.P.getD i M).K/\(h.P.getD i M).K<=3/\0<=(h.P.getD i M).N:=λi hi=>by(have a:=wk.us i oq;have b:=Ea g.p hi;omega)
 have q0:(⟨0,0,0,0⟩:Z0).K=0:=rfl;have a1:B8 BF H.P+B8 BF h.P<=B8 BF (ZA h s).heap.P+(B8 EE H.P+B8 crP H.P):=by
  rw[EY BF H.P,EY BF h.P,EY BF,EY EE,EY crP,Hl,hl,<-Nx,<-Nx,<-Nx];refine HZ λi hi=>?_;have hi:=Ll.1 hi;have p:=a5 i hi;have u:=a6 i hi;rw[Hg i hi];by_cases gq:C8 (ZA h s).heap.S ((ZA h s).heap.P.getD i M)
  .rw[Bv,if_pos gq];unfold C8 at gq;unfold BF EE crP;repeat' split
   all_goals (try simp only at *)
   all_goals omega
  .rw[Bv,if_neg gq];unfold C8 at gq;unfold BF EE crP;repeat' split
   all_goals omega
 have a2:B8 BZ (ZA h s).heap.P<=B8 unP H.P+B8 BZ h.P:=by
  rw[EY BZ,EY unP,EY BZ h.P,Hl,hl,<-Nx];refine HZ λi hi=>?_;have hi:=Ll.1 hi;have p:=a5 i hi;have u:=a6 i hi;rw[Hg i hi];by_cases gq:C8 (ZA h s).heap.S ((ZA h s).heap.P.getD i M)
  .rw[Bv,if_pos gq];unfold C8 at gq;unfold BZ unP;repeat' split
   all_goals (try simp only at *)
   all_goals omega
  .rw[Bv,if_neg gq];unfold C8 at gq;unfold BZ unP;repeat' split
   all_goals omega
 have fr:(collectF h s k).2.2.2.1.freed=Ed 0 (ZA h s).heap.S (ZA h s).heap.P (ZA h s).heap.P.length:=by(rw[er];show Ed (C4 h s k).rep.freed (C4 h s k).heap.S (C4 h s k).heap.P (C4 h s k).heap.P.length=_;rw[ck.h4.2.2.2.2,ck.h4.2.1,ck.h4.2.2.1])
 have a3:B8 BF (ZA h s).heap.P<=B8 BF H.P+(collectF h s k).2.2.2.1.freed:=by
  rw[fr,EY BF,EY BF,Hl,hl];have a9:∀n,n<=h.P.length->((Lg n).map λi=>BF ((ZA h s).heap.P.getD i M)).sum<=((Lg n).map λi=>BF (H.P.getD i M)).sum+Ed 0 (ZA h s).heap.S (ZA h s).heap.P n:=by
   intro n;induction n with
   |zero=>intro _;simp[Ed]
   |succ n ih =>
    intro hn;have ih:=ih oq;rw[L2,Lo,Ly,Lo,Ly,Ed];simp only[LM,LO,LS,LU];rw[Hg n oq];have z:BF ((ZA h s).heap.P.getD n M)<=1/\0<=BF (Bv (ZA h s).heap.S ((ZA h s).heap.P.getD n M)):=by unfold BF;split<;>split<;>omega
    by_cases gq:C8 (ZA h s).heap.S ((ZA h s).heap.P.getD n M);rw[if_pos gq];omega;rw[if_neg gq,Bv,if_neg gq];omega
  exact a9 _ (Lh _)
 have a0:∀i x,x∈tE T tq (ZA h s) i->Cz H x=Lb (Cr l5 x≠0)/\(Z2 H.C x).1=(i:Int)/\(Cr l5 x≠0->(Zp H x).1.length=Zl l5 x):=λi x hx=>by(refine⟨by rw[Cz,gd.at' hx,Hw];rfl,by rw[gd.ofx hx],λq=>?_⟩;rw[gd.get hx (by rw[Hw];exact q),Hw];rfl)
 have b1:B8 unP H.P<=((Zg H).1.map (C1 H)).sum:=by
  refine Z8q gd λi hi=>?_;have n0:0<=((((tE T tq (ZA h s) i).filter (Cz H))).map (C1 H)).sum:=Nh λx hx=>by(have:=Bm l5 x;have f:=a0 i x (LG.1 hx).1;have q:=(LG.1 hx).2;rw[f.1]at q;have:=f.2.2 (of_decide_eq_true q);unfold C1;split;omega;split<;>omega)
  unfold unP;by_cases c:(H.P.getD i M).K=1/\¬ 0<(H.P.getD i M).N;rw[if_pos c];have pi:=a5 i oq;have u:=a6 i oq;have a4:=Hg i oq;have ng:¬ C8 (ZA h s).heap.S ((ZA h s).heap.P.getD i M):=λq=>by(rw[a4,Bv,if_pos q]at c;exact absurd c.1 dd)
  rw[Bv,if_neg ng]at a4;have tk:(i:Int)∈(ZA h s).T:=by(unfold C8 at ng;rw[a4]at c;rcases pi with p|p;exact p.1;exfalso;have:=p.2.2.2 oq;omega)
  have t:=ki.tk i tk;have te:tE T tq (ZA h s) i=tq i:=by rw[tE,if_pos tk]
  have a7:(tq i).filter (Cz H)=tq i:=List.filter_eq_self.2 λx hx=>by
   have xt:x∈tE T tq (ZA h s) i:=by rw[te];exact hx
   rw[(a0 i x xt).1];exact decide_eq_true ((ce.start xt).2.2 (t.2.2.2.2.2.2 x hx).1)
  have ts:=Z22 t.2.2.2.2.2.1;have eq:(tq i).map (C1 H)=(tq i).map λx=>Zl (ZA h s).heap.W x+1:=List.map_congr_left λx hx=>by
   have xt:x∈tE T tq (ZA h s) i:=by rw[te];exact hx
   have f:=a0 i x xt;have xq:=(t.2.2.2.2.2.2 x hx).1;have z:=f.2.2 ((ce.start xt).2.2 xq);have sn:=congrArg Prod.fst (ce.seen xq (L6 _) (by have:=Bm (ZA h s).heap.W x;omega));unfold C1;rw[f.2.1,Lv,if_neg oq,if_pos (by rw[a4];exact t.2.2.2.1),z,(E6 sn).2.1]
  rw[te,a7,eq,ts,a4];omega;rw[if_neg c];exact n0
 have b2:B8 (lgH H.C) H.P<=((Zg H).1.map (CR H)).sum:=by
  refine Z8q gd λi hi=>?_;unfold lgH;by_cases c:(H.P.getD i M).K=2;rw[if_pos c];have t:=gd.t2 i hi c;have xt:Zz H i∈tE T tq (ZA h s) i:=by rw[t.1];simp
  have f:=a0 i _ xt;have kk:Cr l5 (Zz H i)≠0:=by have:=t.2.2.2;rwa [Hw]at this
  have z:=f.2.2 kk;have u:=t.2.2.1;rw[Hw]at u;rw[t.1,L7,if_pos (by rw[f.1];exact decide_eq_true kk)];simp only[List.filter_nil,LM,LO,LS,LU];unfold CR;rw[f.2.1,Lv,if_pos c,z,u];omega;rw[if_neg c];refine Nh λx hx=>?_;have f:=a0 i x (LG.1 hx).1;unfold CR;rw[f.2.1,Lv,if_neg c];omega
 have b3:=Zh7 (Gh.1 gd.p).2.2.2.2.2;have m4:=m.m4;rw[IM,IM]at a1;rw[IM H.P]at a3;rw[IM h.P]at m4;rw[<-Z7u];have b0:0<=B8 unP H.P:=by
  rw[EY];refine Nh λi hi=>?_;have hi:=Ll.1 hi;have u:=a6 i oq;rw[Hg i oq];unfold unP Bv;repeat' split
  all_goals (try simp only at *)
  all_goals omega
 have pw:0<3*h.C.pw:=by omega
 have tn:((ZA h s).T.length:Int)<=(4*((Zg H).1.map (C1 H)).sum+3*h.C.pw-1)/(3*h.C.pw):=by
  refine Int.le_ediv_of_mul_le pw ?_;by_cases z:0<(ZA h s).T.length;have m2:=m.m2 z;have lt:=tu _ (GJ z);have v4:h.C.pw/4*4=h.C.pw:=by(have v:=BD.1 (Gh.1 g.p).1;have v3:=v.2.2.1;rw[Int.tmod_eq_emod_of_nonneg oq]at v3;omega)
  generalize hq:h.C.pw/4=q at *;have e3:((ZA h s).T.length:Int)*(3*h.C.pw)=12*(((ZA h s).T.length:Int)*q):=by rw[<-v4];grind
  have e4:(((ZA h s).T.length:Int)-1)*(q*3+1)=3*(((ZA h s).T.length:Int)*q)-3*q+(ZA h s).T.length-1:=by grind
  omega;have:(ZA h s).T.length=0:=by omega
  rw[this];omega
 refine⟨by omega,by omega,by omega⟩
end
def BK(l:List Z0)(i m:Nat):List Z0:=(Lg l.length).map λj=>if i<=j/\j<=i+m then⟨0,0,0,0⟩else l.getD j M
def TF l i m:(BK l i m).length=l.length:=by simp[BK]
def Z6P{l:List Z0}{i m j:Nat}(h:j<l.length):(BK l i m).getD j M=if i<=j/\j<=i+m then⟨0,0,0,0⟩else l.getD j M:=by rw[Lf,Ln (by rw[TF];exact h)];simp[BK]
def Zew{l i}:BK l i 0=l.set i ⟨0,0,0,0⟩:=by
 refine LY (by simp[BK]) λj h1 b=>?_;have h:j<l.length:=by simpa using b
 have e:l.getD j M=l[j]:=by simp[Lf,h]
 simp only[BK,L0,L9,Xa,e];by_cases a:i=j;subst a;rw[if_pos oq,if_pos rfl];rw[if_neg oq,if_neg a]
def ZeK{l:List Z0}{i m:Nat}(h:i+1+m<l.length):(BK l i m).set (i+1+m) ⟨0,0,0,0⟩=BK l i (m+1):=by
 refine LY (by simp[BK]) λj h1 b=>?_;have h:j<l.length:=by simpa[BK]using b
 simp only[BK,L0,L9,Xa];by_cases a:i+1+m=j;subst a;rw[if_pos rfl,if_pos oq];rw[if_neg a];by_cases hk:i<=j/\j<=i+m;rw[if_pos hk,if_pos oq];rw[if_neg hk,if_neg oq]
def Z4Y{l i m}:(BK l i m).getD (i+1+m) M=l.getD (i+1+m) M:=by by_cases h:i+1+m<l.length;rw[Z6P h,if_neg oq];rw[Lf,Lf,L8 (by rw[TF];omega),L8 oq]
def Ml(l:List Z0)(i:Int)(m:Nat):Tg:=⟨tm 59 [(4,.d (.sl 0 [])),(5,int 0),(6,int (l.getD i.toNat M).K),(7,.ow 41029),(8,int (i+1+m))],[(41029,.arr 86 4 ((BK l i.toNat m).map Z0.dv))],60⟩
section
variable (l:List Z0) (i:Int) (hl:l.length<=1048576) (hi:0<=i/\i<l.length) (hk:(l.getD i.toNat M).K=2)
include hl hi hk
theorem ZaZ(m:Nat)(hm:m<ZB l i.toNat):CP (Zo f136 0) (Ml l i m).st .nrm (Ml l i (m+1)).st:=by
 obtain⟨t1,t2⟩:=RD hm;have ha:=Z4Y (l:=l) (i:=i.toNat) (m:=m);have hq:=ZeK (l:=l) (i:=i.toNat) (m:=m) t1;have hn:=TF l i.toNat m;have eN:i.toNat+1+m=(i+1+(m:Int)).toNat:=by omega
 rw[eN]at ha hq t2;have t3:((BK l i.toNat m).getD (i+1+(m:Int)).toNat M).K=3:=by rw[ha];exact t2
 exact sF [] (fP 14) (Fh 10057 [.els (O Z0.dv ((BK l i.toNat m).set (i+1+(m:Int)).toNat (Z0.mk 0 0 0 0)))] (FlG 41 ((l.getD i.toNat M).K==2) Z0.dv (BK l i.toNat m) (FmGq 49 ((l.getD i.toNat M).K==2&&Lb (i+1+(m:Int)<(↑(BK l i.toNat m).length:Int))) Z0.dv (BK l i.toNat m) (i+1+(m:Int)) (Ftb 51 ((l.getD i.toNat M).K==2&&Lb (i+1+(m:Int)<(↑(BK l i.toNat m).length:Int))&&((BK l i.toNat m).getD (i+1+(m:Int)).toNat M).K==3) (Fa (by(simp only[Lj];omega):0<=i+1+(m:Int)/\(i+1+(m:Int)).toNat<(O Z0.dv (BK l i.toNat m)).length) (Fa (by(simp only[Lj];omega):(i+1+(m:Int)).toNat<(O Z0.dv (BK l i.toNat m)).length) (Fa (by rw[Lu];rfl:(O Z0.dv (BK l i.toNat m)).set (i+1+(m:Int)).toNat [Zn 0,Zn 0,Zn 0,Zn 0]=O Z0.dv ((BK l i.toNat m).set (i+1+(m:Int)).toNat (Z0.mk 0 0 0 0))) (Fi 53 (i+1+(m:Int)+1) (Fo (i+1+(m:Int)+1=i+1+(↑(m+1):Int)) (Fr (86:Int) (Fa (by refine congrArg _ ?_;assumption:O Z0.dv ((BK l i.toNat m).set (i+1+(m:Int)).toNat (Z0.mk 0 0 0 0))=O Z0.dv (BK l i.toNat (m+1))) Fz)))))))))))
theorem Zjj:CP (Zo f136 0) (Ml l i (ZB l i.toNat)).st (.ext 0) (Tg.st ⟨tm 59 [(4,.d (.sl 0 [])),(5,int 0),(7,.ow 41029)],[(41029,.arr 86 4 ((BK l i.toNat (ZB l i.toNat)).map Z0.dv))],60⟩):=by
 have ha:=Z4Y (l:=l) (i:=i.toNat) (m:=ZB l i.toNat);have hn:=TF l i.toNat (ZB l i.toNat);have eN:i.toNat+1+ZB l i.toNat=(i+1+(ZB l i.toNat:Int)).toNat:=by omega
 have t3:(i+1+(ZB l i.toNat:Int))<l.length->¬ ((BK l i.toNat (ZB l i.toNat)).getD (i+1+(ZB l i.toNat:Int)).toNat M).K=3:=λh=>by(rw[<-eN,ha];exact Mo oq)
 by_cases h:(i+1+(ZB l i.toNat:Int))<l.length;have t4:=t3 h;exact sF [] [] (FlG 41 ((l.getD i.toNat M).K==2) Z0.dv (BK l i.toNat (ZB l i.toNat)) (FmGq 49 ((l.getD i.toNat M).K==2&&Lb (i+1+(↑(ZB l i.toNat):Int)<(↑(BK l i.toNat (ZB l i.toNat)).length:Int))) Z0.dv (BK l i.toNat (ZB l i.toNat)) (i+1+(↑(ZB l i.toNat):Int)) (Ffb 51 ((l.getD i.toNat M).K==2&&Lb (i+1+(↑(ZB l i.toNat):Int)<(↑(BK l i.toNat (ZB l i.toNat)).length:Int))&&((BK l i.toNat (ZB l i.toNat)).getD (i+1+(↑(ZB l i.toNat):Int)).toNat M).K==3) Fz)));exact sF [] [] (FlG 41 ((l.getD i.toNat M).K==2) Z0.dv (BK l i.toNat (ZB l i.toNat)) (FmGq 49 ((l.getD i.toNat M).K==2&&Lb (i+1+(↑(ZB l i.toNat):Int)<(↑(BK l i.toNat (ZB l i.toNat)).length:Int))) Z0.dv (BK l i.toNat (ZB l i.toNat)) (i+1+(↑(ZB l i.toNat):Int)) (Ffb 51 ((l.getD i.toNat M).K==2&&Lb (i+1+(↑(ZB l i.toNat):Int)<(↑(BK l i.toNat (ZB l i.toNat)).length:Int))&&((BK l i.toNat (ZB l i.toNat)).getD (i+1+(↑(ZB l i.toNat):Int)).toNat M).K==3) Fz)))
theorem Zg4:CP (Zk f136 0) (Tg.st ⟨tm 59 [(4,.d (.sl 0 [])),(5,int 0),(6,int (l.getD i.toNat M).K),(7,.ow 41029),(8,int (i+1))],[(41029,.arr 86 4 ((l.set i.toNat ⟨0,0,0,0⟩).map Z0.dv))],60⟩) .nrm (Tg.st ⟨tm 59 [(4,.d (.sl 0 [])),(5,int 0),(7,.ow 41029)],[(41029,.arr 86 4 ((BK l i.toNat (ZB l i.toNat)).map Z0.dv))],60⟩):=by have h:=Bw (S:=λj=>(Ml l i j).st) (ZB l i.toNat) kr (λj a=>ZaZ l i hl hi hk j a) (Zjj l i hl hi hk);simp only[Ml,Zew]at h;rw[show i+1+((0:Nat):Int)=i+1 from by omega]at h;exact h
end
def Z46(l:List Z0)(i:Int):Tg:=⟨tm 59 [(4,.d (.sl 0 [])),(5,int 0),(6,int (l.getD i.toNat M).K),(7,.ow 41029),(8,int (i+1))],[(41029,.arr 86 4 ((l.set i.toNat ⟨0,0,0,0⟩).map Z0.dv))],60⟩
def Zkx(l:List Z0)(i:Int)(hl:l.length<=1048576)(hi:0<=i/\i<l.length)(hk:(l.getD i.toNat M).K=1):CP (Zo f136 0) (Z46 l i).st (.ext 0) (Tg.st ⟨tm 59 [(4,.d (.sl 0 [])),(5,int 0),(7,.ow 41029)],[(41029,.arr 86 4 ((l.set i.toNat ⟨0,0,0,0⟩).map Z0.dv))],60⟩):=by exact sF [] [] (Fh 41 [.int ↑l.length] (Fa (by intro hg;(try simp only[bs]at hg);simp only[Lj,Lx,List.length_take,List.length_drop,Xd,List.length_replicate,Xc,Xb]:((l.getD i.toNat M).K==2)=La->(↑(O Z0.dv (l.set i.toNat (Z0.mk 0 0 0 0))).length:Int)=(l.length:Int)) (FmGq 49 ((l.getD i.toNat M).K==2&&Lb (i+1<(l.length:Int))) Z0.dv (l.set i.toNat (Z0.mk 0 0 0 0)) (i+1) (Ffb 51 ((l.getD i.toNat M).K==2&&Lb (i+1<(l.length:Int))&&((l.set i.toNat (Z0.mk 0 0 0 0)).getD (i+1).toNat M).K==3) Fz))))
def Zf1(l:List Z0)(i:Int)(hl:l.length<=1048576)(a:0<=i/\i<l.length)(hk:(l.getD i.toNat M).K=1)  := Bw (S:=λ_=>(Z46 l i).st) 0 (by kernel_rfl) (λj b=>absurd b (Ls j)) (Zkx l i hl a hk)
def ZeZ(l:List Z0)(i:Int)(hl:l.length<=1048576)(hi:0<=i/\i<l.length)(hk:(l.getD i.toNat M).K=1):GP 136 [ZU l,int i] La (.tu [ZU (l.set i.toNat ⟨0,0,0,0⟩),int 0]) []:=by have hne:l≠[]:=Ae oq;let y0:=l.set i.toNat (Z0.mk 0 0 0 0);exact gF [] func136 [] (Fh 10033 [.els (O Z0.dv y0)] (FlG 14 (!decide (i<0)) Z0.dv l (Ffb 16 (Lb (i<0)||Lb ((l.length:Int)<=i)) (Fe 19 Z0.dv l i (Ffb 27 ((l.getD i.toNat M).K != 1&&(l.getD i.toNat M).K != 2) (Fc 29 (@Z0G l aa) (Fa (by(simp only[Lj];omega):0<=i/\i.toNat<(O Z0.dv l).length) (Fa (by(simp only[Lj];omega):i.toNat<(O Z0.dv l).length) (Fa (by rw[Lu];rfl:(O Z0.dv l).set i.toNat [Zn 0,Zn 0,Zn 0,Zn 0]=O Z0.dv y0) (Fi 35 (i+1) (Fu (@Zf1 l i aa aa aa) (Fa (by exact IX _:Ck (O Z0.dv y0)) Fz))))))))))))
def Zh2(l:List Z0)(i:Int)(hl:l.length<=1048576)(hi:0<=i/\i<l.length)(hk:(l.getD i.toNat M).K=2):GP 136 [ZU l,int i] La (.tu [ZU (BK l i.toNat (ZB l i.toNat)),int 0]) []:=by have hne:l≠[]:=Ae oq;exact gF [] func136 [] (Fh 10033 [.els (O Z0.dv (l.set i.toNat (Z0.mk 0 0 0 0)))] (FlG 14 (!decide (i<0)) Z0.dv l (Ffb 16 (Lb (i<0)||Lb ((l.length:Int)<=i)) (Fe 19 Z0.dv l i (Ffb 27 ((l.getD i.toNat M).K != 1&&(l.getD i.toNat M).K != 2) (Fc 29 (@Z0G l aa) (Fa (by(simp only[Lj];omega):0<=i/\i.toNat<(O Z0.dv l).length) (Fa (by(simp only[Lj];omega):i.toNat<(O Z0.dv l).length) (Fa (by rw[Lu];rfl:(O Z0.dv l).set i.toNat [Zn 0,Zn 0,Zn 0,Zn 0]=O Z0.dv (l.set i.toNat (Z0.mk 0 0 0 0))) (Fi 35 (i+1) (Fu (@Zg4 l i aa aa aa) (Fa (by exact IX _:Ck (O Z0.dv (BK l i.toNat (ZB l i.toNat)))) Fz))))))))))))
def frL(w:Z6)(a b:List Z0)(ws:List Int)(n:Int)(i:Nat):Tg:=⟨tm 88 [(0,.pt 0 0 0),(2,.pt 0 0 0),(21,ZU a),(22,int a.length),(23,int i)],[(0,.box 127 [int w.heap.C.pw,int w.heap.C.pg,.ow 25015,ZU b,int w.heap.S,int w.heap.B,Z3 w.old,ZD w.T,Z3 w.Q,int w.D,int w.rep.copied,int w.rep.kept,int w.rep.filled,int n,int w.rep.cleared,int w.rep.steps]),(25015,.arr 35 1 (ws.map wdv))],5⟩
section
variable (w:Z6) (qs ps:List Z0) (ws:List Int) (n:Int) (i:Nat) (hl:qs.length<=64) (hi:i<qs.length)
include hl hi
theorem ZiR(c:¬ C8 w.heap.S (qs.getD i M)):CP (Zo f81 0) (frL w qs ps ws n i).st .nrm (frL w qs ps ws n (i+1)).st:=by unfold C8 at c;by_cases d:(qs.getD i M).K=0;exact sF [] [] (Ftb 24 (Lb ((i:Int)<(qs.length:Int))) (Fek 26 Z0.dv qs (↑i) i (Ftb 39 ((qs.getD i M).K==0||(qs.getD i M).S != w.heap.S) (Fx 87 i Fz))));have d2:¬ (qs.getD i M).S=w.heap.S:=λq=>c ⟨d,q⟩;exact sF [] [] (Ftb 24 (Lb ((i:Int)<(qs.length:Int))) (Fek 26 Z0.dv qs (↑i) i (Ftb 39 ((qs.getD i M).K==0||(qs.getD i M).S != w.heap.S) (Fx 87 i Fz))))
omit hl hi in
theorem Z2p a m:Ca (O wdv ws) a (Le m [B2 0])=O wdv (Cg ws a (Le m 0)):=by simp[Ca,wdv,Cg]
theorem ZiX(c:C8 w.heap.S (qs.getD i default))(k3:(qs.getD i default).K=3)(hp:0≤w.heap.C.pw∧w.heap.C.pw≤64)(hw:i*w.heap.C.pw.toNat+w.heap.C.pw.toNat≤ws.length)(hw2:ws.length≤4096)(hn:0≤n∧n≤64):CSpec Tryz.prog (Zo Tryz.f81 0) (frL w qs ps ws n i).st .nrm (frL w qs ps (Cg ws (i*w.heap.C.pw.toNat) (List.replicate w.heap.C.pw.toNat 0)) (n+1) (i+1)).st:=by
 obtain⟨c1,c2⟩:=c
 have em:(i:Int)*w.heap.C.pw=((i*w.heap.C.pw.toNat:Nat):Int):=by rw[Int.natCast_mul,Int.toNat_of_nonneg hp.1]
 have em2:((i+1:Nat):Int)*w.heap.C.pw=((i*w.heap.C.pw.toNat+w.heap.C.pw.toNat:Nat):Int):=by rw[Int.natCast_add,Int.add_mul,em];omega
 have t1:((i:Int)*w.heap.C.pw).toNat=i*w.heap.C.pw.toNat:=by omega
 have t2:(((i+1:Nat):Int)*w.heap.C.pw).toNat-i*w.heap.C.pw.toNat=w.heap.C.pw.toNat:=by omega
 exact sF [] (fO 13) (Fh 20000 [.els (List.map wdv (List.take ((↑i:Int)*w.heap.C.pw).toNat ws++List.replicate (((↑(i+1):Int)*w.heap.C.pw).toNat-((↑i:Int)*w.heap.C.pw).toNat) 0++List.drop (((↑i:Int)*w.heap.C.pw).toNat+(List.replicate (((↑(i+1):Int)*w.heap.C.pw).toNat-((↑i:Int)*w.heap.C.pw).toNat) (0:Int)).length) ws))] (Ftb 24 (decide ((↑i:Int)<(↑qs.length:Int))) (Fek 26 Z0.dv qs (↑i) i (Ffb 39 ((qs.getD i default).K==0||(qs.getD i default).S != w.heap.S) (Fi 50 ((↑i:Int)*w.heap.C.pw) (Fx 52 i (Fi 58 ((↑(i+1):Int)*w.heap.C.pw) (Fa (by(simp only[List.length_map];omega):0≤(↑i:Int)*w.heap.C.pw∧(↑i:Int)*w.heap.C.pw≤(↑(i+1):Int)*w.heap.C.pw∧(↑(i+1):Int)*w.heap.C.pw≤(↑(List.map wdv ws).length:Int)) (Fa (by exact Z2p _ _ _:Ca (List.map wdv ws) ((↑i:Int)*w.heap.C.pw).toNat (List.replicate (((↑(i+1):Int)*w.heap.C.pw).toNat-((↑i:Int)*w.heap.C.pw).toNat) [B2 0])=List.map wdv (List.take ((↑i:Int)*w.heap.C.pw).toNat ws++List.replicate (((↑(i+1):Int)*w.heap.C.pw).toNat-((↑i:Int)*w.heap.C.pw).toNat) 0++List.drop (((↑i:Int)*w.heap.C.pw).toNat+(List.replicate (((↑(i+1):Int)*w.heap.C.pw).toNat-((↑i:Int)*w.heap.C.pw).toNat) (0:Int)).length) ws)) (Fi 65 (n+1) (Ffb 71 ((qs.getD i default).K != 3) (Fx 87 i (Fr (35:Int) (Fa (by refine congrArg _ ?_;rw[t1,t2];rfl:List.map wdv (List.take ((↑i:Int)*w.heap.C.pw).toNat ws++List.replicate (((↑(i+1):Int)*w.heap.C.pw).toNat-((↑i:Int)*w.heap.C.pw).toNat) 0++List.drop (((↑i:Int)*w.heap.C.pw).toNat+(List.replicate (((↑(i+1):Int)*w.heap.C.pw).toNat-((↑i:Int)*w.heap.C.pw).toNat) (0:Int)).length) ws)=List.map wdv (Cg ws (i*w.heap.C.pw.toNat) (List.replicate w.heap.C.pw.toNat 0))) Fz))))))))))))))
theorem Zfp(c:C8 w.heap.S (qs.getD i default))(k3:(qs.getD i default).K=1)(pl:ps.length≤64)(ip:i<ps.length)(kp:(ps.getD i default).K=1)(hp:0≤w.heap.C.pw∧w.heap.C.pw≤64)(hw:i*w.heap.C.pw.toNat+w.heap.C.pw.toNat≤ws.length)(hw2:ws.length≤4096)(hn:0≤n∧n≤64):CSpec Tryz.prog (Zo Tryz.f81 0) (frL w qs ps ws n i).st .nrm (frL w qs (ps.set i ⟨0,0,0,0⟩) (Cg ws (i*w.heap.C.pw.toNat) (List.replicate w.heap.C.pw.toNat 0)) (n+1) (i+1)).st:=by
 obtain⟨c1,c2⟩:=c
 have em:(i:Int)*w.heap.C.pw=((i*w.heap.C.pw.toNat:Nat):Int):=by rw[Int.natCast_mul,Int.toNat_of_nonneg hp.1]
 have em2:((i+1:Nat):Int)*w.heap.C.pw=((i*w.heap.C.pw.toNat+w.heap.C.pw.toNat:Nat):Int):=by rw[Int.natCast_add,Int.add_mul,em];omega
 have t1:((i:Int)*w.heap.C.pw).toNat=i*w.heap.C.pw.toNat:=by omega
 have t2:(((i+1:Nat):Int)*w.heap.C.pw).toNat-i*w.heap.C.pw.toNat=w.heap.C.pw.toNat:=by omega
 have kp2:(ps.getD (i:Int).toNat default).K=1:=kp
 exact sF [] (fO 13) (Fh 20000 [.els (List.map wdv (List.take ((↑i:Int)*w.heap.C.pw).toNat ws++List.replicate (((↑(i+1):Int)*w.heap.C.pw).toNat-((↑i:Int)*w.heap.C.pw).toNat) 0++List.drop (((↑i:Int)*w.heap.C.pw).toNat+(List.replicate (((↑(i+1):Int)*w.heap.C.pw).toNat-((↑i:Int)*w.heap.C.pw).toNat) (0:Int)).length) ws))] (Ftb 24 (decide ((↑i:Int)<(↑qs.length:Int))) (Fek 26 Z0.dv qs (↑i) i (Ffb 39 ((qs.getD i default).K==0||(qs.getD i default).S != w.heap.S) (Fi 50 ((↑i:Int)*w.heap.C.pw) (Fx 52 i (Fi 58 ((↑(i+1):Int)*w.heap.C.pw) (Fa (by(simp only[List.length_map];omega):0≤(↑i:Int)*w.heap.C.pw∧(↑i:Int)*w.heap.C.pw≤(↑(i+1):Int)*w.heap.C.pw∧(↑(i+1):Int)*w.heap.C.pw≤(↑(List.map wdv ws).length:Int)) (Fa (by exact Z2p _ _ _:Ca (List.map wdv ws) ((↑i:Int)*w.heap.C.pw).toNat (List.replicate (((↑(i+1):Int)*w.heap.C.pw).toNat-((↑i:Int)*w.heap.C.pw).toNat) [B2 0])=List.map wdv (List.take ((↑i:Int)*w.heap.C.pw).toNat ws++List.replicate (((↑(i+1):Int)*w.heap.C.pw).toNat-((↑i:Int)*w.heap.C.pw).toNat) 0++List.drop (((↑i:Int)*w.heap.C.pw).toNat+(List.replicate (((↑(i+1):Int)*w.heap.C.pw).toNat-((↑i:Int)*w.heap.C.pw).toNat) (0:Int)).length) ws)) (Fi 65 (n+1) (Ftb 71 ((qs.getD i default).K != 3) (Fc 78 (@ZeZ ps ((↑i:Int)) (by omega) (by omega) ‹_›) (Fc 82 (@I9 (0) (by rfl)) (Fx 87 i (Fr (35:Int) (Fa (by refine congrArg _ ?_;rw[t1,t2];rfl:List.map wdv (List.take ((↑i:Int)*w.heap.C.pw).toNat ws++List.replicate (((↑(i+1):Int)*w.heap.C.pw).toNat-((↑i:Int)*w.heap.C.pw).toNat) 0++List.drop (((↑i:Int)*w.heap.C.pw).toNat+(List.replicate (((↑(i+1):Int)*w.heap.C.pw).toNat-((↑i:Int)*w.heap.C.pw).toNat) (0:Int)).length) ws)=List.map wdv (Cg ws (i*w.heap.C.pw.toNat) (List.replicate w.heap.C.pw.toNat 0))) Fz))))))))))))))))
theorem Z9A(c:C8 w.heap.S (qs.getD i default))(k3:(qs.getD i default).K=2)(pl:ps.length≤64)(ip:i<ps.length)(kp:(ps.getD i default).K=2)(hp:0≤w.heap.C.pw∧w.heap.C.pw≤64)(hw:i*w.heap.C.pw.toNat+w.heap.C.pw.toNat≤ws.length)(hw2:ws.length≤4096)(hn:0≤n∧n≤64):CSpec Tryz.prog (Zo Tryz.f81 0) (frL w qs ps ws n i).st .nrm (frL w qs (BK ps i (ZB ps i)) (Cg ws (i*w.heap.C.pw.toNat) (List.replicate w.heap.C.pw.toNat 0)) (n+1) (i+1)).st:=by
 obtain⟨c1,c2⟩:=c
 have em:(i:Int)*w.heap.C.pw=((i*w.heap.C.pw.toNat:Nat):Int):=by rw[Int.natCast_mul,Int.toNat_of_nonneg hp.1]
 have em2:((i+1:Nat):Int)*w.heap.C.pw=((i*w.heap.C.pw.toNat+w.heap.C.pw.toNat:Nat):Int):=by rw[Int.natCast_add,Int.add_mul,em];omega
 have t1:((i:Int)*w.heap.C.pw).toNat=i*w.heap.C.pw.toNat:=by omega
 have t2:(((i+1:Nat):Int)*w.heap.C.pw).toNat-i*w.heap.C.pw.toNat=w.heap.C.pw.toNat:=by omega
 have kp2:(ps.getD (i:Int).toNat default).K=2:=kp
 exact sF [] (fO 13) (Fh 20000 [.els (List.map wdv (List.take ((↑i:Int)*w.heap.C.pw).toNat ws++List.replicate (((↑(i+1):Int)*w.heap.C.pw).toNat-((↑i:Int)*w.heap.C.pw).toNat) 0++List.drop (((↑i:Int)*w.heap.C.pw).toNat+(List.replicate (((↑(i+1):Int)*w.heap.C.pw).toNat-((↑i:Int)*w.heap.C.pw).toNat) (0:Int)).length) ws))] (Ftb 24 (decide ((↑i:Int)<(↑qs.length:Int))) (Fek 26 Z0.dv qs (↑i) i (Ffb 39 ((qs.getD i default).K==0||(qs.getD i default).S != w.heap.S) (Fi 50 ((↑i:Int)*w.heap.C.pw) (Fx 52 i (Fi 58 ((↑(i+1):Int)*w.heap.C.pw) (Fa (by(simp only[List.length_map];omega):0≤(↑i:Int)*w.heap.C.pw∧(↑i:Int)*w.heap.C.pw≤(↑(i+1):Int)*w.heap.C.pw∧(↑(i+1):Int)*w.heap.C.pw≤(↑(List.map wdv ws).length:Int)) (Fa (by exact Z2p _ _ _:Ca (List.map wdv ws) ((↑i:Int)*w.heap.C.pw).toNat (List.replicate (((↑(i+1):Int)*w.heap.C.pw).toNat-((↑i:Int)*w.heap.C.pw).toNat) [B2 0])=List.map wdv (List.take ((↑i:Int)*w.heap.C.pw).toNat ws++List.replicate (((↑(i+1):Int)*w.heap.C.pw).toNat-((↑i:Int)*w.heap.C.pw).toNat) 0++List.drop (((↑i:Int)*w.heap.C.pw).toNat+(List.replicate (((↑(i+1):Int)*w.heap.C.pw).toNat-((↑i:Int)*w.heap.C.pw).toNat) (0:Int)).length) ws)) (Fi 65 (n+1) (Ftb 71 ((qs.getD i default).K != 3) (Fc 78 (@Zh2 ps ((↑i:Int)) (by omega) (by omega) ‹_›) (Fc 82 (@I9 (0) (by rfl)) (Fx 87 i (Fr (35:Int) (Fa (by refine congrArg _ ?_;rw[t1,t2];rfl:List.map wdv (List.take ((↑i:Int)*w.heap.C.pw).toNat ws++List.replicate (((↑(i+1):Int)*w.heap.C.pw).toNat-((↑i:Int)*w.heap.C.pw).toNat) 0++List.drop (((↑i:Int)*w.heap.C.pw).toNat+(List.replicate (((↑(i+1):Int)*w.heap.C.pw).toNat-((↑i:Int)*w.heap.C.pw).toNat) (0:Int)).length) ws)=List.map wdv (Cg ws (i*w.heap.C.pw.toNat) (List.replicate w.heap.C.pw.toNat 0))) Fz))))))))))))))))
end
def Cj(s:Int)(a:List Z0):Nat->List Z0|0=>a|i+1=>if C8 s (a.getD i M)then(if(a.getD i M).K=1 then(Cj s a i).set i ⟨0,0,0,0⟩else if(a.getD i M).K=2 then BK (Cj s a i) i (ZB (Cj s a i) i)else Cj s a i)else Cj s a i
def Dy s a:∀i,(Cj s a i).length=a.length
 |0=>rfl
 |i+1=>by
  have:=Dy s a i;rw[Cj];split
  .split
   .rw[Xd];exact this
   .split
    .rw[TF];exact this
    .exact this
  .exact this
def Nc(c:ZY)(s:Int)(a:List Z0)(i j:Nat):Prop:=C8 s (a.getD j M)/\((a.getD j M).K=3->∃h,h<i/\h<j/\(a.getD h M).K=2/\(j:Int)<h+need c (a.getD h M).U)/\(¬ (a.getD j M).K=3->j<i)
section
variable {c:ZY} {s:Int} {qs:List Z0} (P:PT c qs)
include P
theorem Z4x{h i:Nat}(hi:i<qs.length)(h1:h<i)(k1:(qs.getD h M).K=2)(a:¬ (qs.getD i M).K=3):(h:Int)+need c (qs.getD h M).U<=i:=by by_cases q:(h:Int)+need c (qs.getD h M).U<=i;exact q;have:=(P.lg h oq k1).2 (i-h) oq oq;rw[show h+(i-h)=i by omega]at this;exact absurd this.2.1 a
theorem Mq:∀i,i≤qs.length→∀j,j<qs.length→(Nc c s qs i j→(Cj s qs i).getD j default=⟨0,0,0,0⟩)∧(¬ Nc c s qs i j→(Cj s qs i).getD j default=qs.getD j default)
 |0,_,j,hj=>by
  refine⟨fun z=>?_,fun _=>rfl⟩
  by_cases k3:(qs.getD j default).K=3
  ·obtain⟨h,h0,_⟩:=z.2.1 k3;omega
  ·have:=z.2.2 k3;omega
 |i+1,hi,j,hj=>by
  obtain⟨h1,h2⟩:=Mq i (by omega) j hj
  have ln:=Dy s qs i
  have same:(Nc c s qs (i+1) j↔Nc c s qs i j)→(Cj s qs (i+1)).getD j default=(Cj s qs i).getD j default→(Nc c s qs (i+1) j→(Cj s qs (i+1)).getD j default=⟨0,0,0,0⟩)∧(¬ Nc c s qs (i+1) j→(Cj s qs (i+1)).getD j default=qs.getD j default):=fun e1 e2=>by
   rw[e1,e2];exact⟨h1,h2⟩
  have up:Nc c s qs i j→Nc c s qs (i+1) j:=fun z=>⟨z.1,fun k=>by obtain⟨h,a,b⟩:=z.2.1 k;exact⟨h,by omega,b⟩,fun k=>by have:=z.2.2 k;omega⟩
  by_cases g:C8 s (qs.getD i default)
  rotate_left
  ·refine same ⟨fun z=>⟨z.1,fun k=>?_,fun k=>?_⟩,up⟩ (by rw[Cj,if_neg g])
   ·obtain⟨h,a,b,k2,d⟩:=z.2.1 k
    by_cases q:h=i
    ·subst q
     have t:=(P.lg h (by omega) k2).2 (j-h) (by omega) (by omega)
     rw[show h+(j-h)=j by omega]at t
     exact absurd ⟨by omega,by have:=z.1.2;have:=t.2.2;omega⟩ g
    ·exact⟨h,by omega,b,k2,d⟩
   ·have:=z.2.2 k
    by_cases q:j=i
    ·subst q;exact absurd z.1 g
    ·omega
  by_cases c1:(qs.getD i default).K=1
  ·have e:Cj s qs (i+1)=(Cj s qs i).set i ⟨0,0,0,0⟩:=by rw[Cj,if_pos g,if_pos c1]
   by_cases q:j=i
   ·subst q
    refine⟨fun _=>?_,fun z=>absurd ⟨g,fun k=>by omega,fun _=>by omega⟩ z⟩
    rw[e,List.getD_eq_getElem?_getD,List.getElem?_set_self (by omega)];rfl
   ·refine same ⟨fun z=>⟨z.1,fun k=>?_,fun k=>by have:=z.2.2 k;omega⟩,up⟩ (by rw[e,List.getD_eq_getElem?_getD,List.getElem?_set_ne (by omega),← List.getD_eq_getElem?_getD])
    obtain⟨h,a,b,k2,d⟩:=z.2.1 k
    have q:h<i:=by
     by_cases r:h=i
     ·subst r;omega
     ·omega
    exact⟨h,q,b,k2,d⟩
  by_cases c2:(qs.getD i default).K=2
  rotate_left
  ·have e:Cj s qs (i+1)=Cj s qs i:=by rw[Cj,if_pos g,if_neg c1,if_neg c2]
   have k3:(qs.getD i default).K=3:=by
    have:=(P.b i (by omega)).k
    have:=g.1
    omega
   refine same ⟨fun z=>⟨z.1,fun k=>?_,fun k=>?_⟩,up⟩ (by rw[e])
   ·obtain⟨h,a,b,k2,d⟩:=z.2.1 k
    have q:h<i:=by
     by_cases r:h=i
     ·subst r;omega
     ·omega
    exact⟨h,q,b,k2,d⟩
   ·have:=z.2.2 k
    by_cases q:j=i
    ·subst q;exact absurd k3 k
    ·omega
  ·have e:Cj s qs (i+1)=BK (Cj s qs i) i (ZB (Cj s qs i) i):=by rw[Cj,if_pos g,if_neg c1,if_pos c2]
   obtain⟨n1,nd⟩:=P.lg i (by omega) c2
   have mid:∀m:Nat,i<m→(m:Int)<i+need c (qs.getD i default).U→m<qs.length∧(qs.getD m default).K=3∧(qs.getD m default).S=s∧(Cj s qs i).getD m default=qs.getD m default:=fun m m1 m2=>by
    have t:=nd (m-i) (by omega) (by omega)
    rw[show i+(m-i)=m by omega]at t
    refine⟨t.1,t.2.1,t.2.2.trans g.2,(Mq i (by omega) m t.1).2 fun z=>?_⟩
    obtain⟨h,a,b,k2,d⟩:=z.2.1 t.2.1
    have:=Z4x P (by omega) a k2 (by omega)
    omega
   have T:((ZB (Cj s qs i) i:Nat):Int)+1=need c (qs.getD i default).U:=by
    by_cases q1:((ZB (Cj s qs i) i:Nat):Int)+1<need c (qs.getD i default).U
    ·obtain⟨m1,m2,_,m4⟩:=mid (i+1+ZB (Cj s qs i) i) (by omega) (by omega)
     have te:=Mo (l:=Cj s qs i) (i:=i) (by omega)
     rw[m4]at te
     exact absurd m2 te
    by_cases q2:need c (qs.getD i default).U<((ZB (Cj s qs i) i:Nat):Int)+1
    ·obtain⟨t1,t2⟩:=RD (l:=Cj s qs i) (i:=i) (m:=(need c (qs.getD i default).U).toNat-1) (by omega)
     have eq:((i+1+((need c (qs.getD i default).U).toNat-1):Nat):Int)=i+need c (qs.getD i default).U:=by omega
     generalize i+1+((need c (qs.getD i default).U).toNat-1)=m at t1 t2 eq
     rw[ln]at t1
     have k3:(qs.getD m default).K=3:=by
      obtain⟨z1,z2⟩:=Mq i (by omega) m t1
      by_cases z:Nc c s qs i m
      ·rw[z1 z]at t2;simp at t2
      ·rwa [z2 z]at t2
     obtain⟨h,a,k2,d⟩:=P.tl m t1 k3
     by_cases r1:h<i
     ·have:=Z4x P (by omega) r1 k2 (by omega);omega
     by_cases r2:h=i
     ·subst r2;omega
     ·have t:=nd (h-i) (by omega) (by omega)
      rw[show i+(h-i)=h by omega]at t
      omega
    ·omega
   rw[e,Z6P (by omega)]
   by_cases q:i≤j∧j≤i+ZB (Cj s qs i) i
   ·rw[if_pos q]
    refine⟨fun _=>rfl,fun z=>absurd ?_ z⟩
    by_cases q2:j=i
    ·subst q2;exact⟨g,fun k=>by omega,fun _=>by omega⟩
    ·obtain⟨m1,m2,m3,_⟩:=mid j (by omega) (by omega)
     exact⟨⟨by omega,m3⟩,fun _=>⟨i,by omega,by omega,c2,by omega⟩,fun k=>absurd m2 k⟩
   ·rw[if_neg q]
    have ez:Nc c s qs (i+1) j↔Nc c s qs i j:=⟨fun z=>⟨z.1,fun k=>by
     obtain⟨h,a,b,k2,d⟩:=z.2.1 k
     refine⟨h, ?_,b,k2,d⟩
     by_cases r:h=i
     ·subst r;omega
     ·omega,fun k=>by have:=z.2.2 k;omega⟩,up⟩
    rw[ez]
    exact⟨h1,h2⟩
theorem ZhT:Cj s qs qs.length=qs.map (Bv s):=by
 refine LY (by rw[Dy,Lj]) λj a b=>?_;rw[Dy]at a;obtain⟨f,i⟩:=Mq P qs.length (Lh _) j a;have d:(Cj s qs qs.length)[j]=(Cj s qs qs.length).getD j M:=by rw[Lf,Ln (by rw[Dy];exact a)];rfl
 have e:qs[j]=qs.getD j M:=by rw[Lf,Ln a];rfl
 rw[L0,d,e];unfold Bv;by_cases g:C8 s (qs.getD j M);rw[if_pos g];exact f ⟨g,λk=>by obtain⟨h,x,y⟩:=P.tl j a k;exact⟨h,by omega,x,y⟩,λ_=>a⟩;rw[if_neg g];exact i λz=>g z.1
end
end Go.Proofs.YtgedmeaemofdkaaGreat
namespace Go.Sx
def ND(b s:Nat)(els:List (List DV)):AV->AV|.ow k=>(match LA k b with|La=>.d (.sl s els)|Ld=>.ow k)|.os k o n=>(match LA k b with|La=>.any|Ld=>.os k o n)|.pt k i o=>(match LA k b with|La=>.any|Ld=>.pt k i o)|x=>x
def Tz(b s:Nat)(els:List (List DV)):Z4->Z4|.box ty cells=>.box ty (cells.map (HE (ND b s els)))|B=>B
def NV(b s:Nat)(els:List (List DV)):List (Nat×Z4)->List (Nat×Z4)|[]=>[]|(k,B)::l=>match LA k b with|true=>NV b s els l|false=>(k,Tz b s els B)::NV b s els l
def Z2W(b:Nat)(t:Tg):Option Tg:=match BW t.hl b,Nat.ble (b+1) (t.clk*8000)with|some (.arr _ s els),true=>Li ⟨t.tmps.map (IG (ND b s els)),NV b s els t.hl,t.clk⟩|_,_=>Lm
def Z23{b s els}:∀{l:List (Nat×Z4)} (k:Nat),BW (NV b s els l) k=if k=b then Lm else(BW l k).map (Tz b s els)
 |[],k=>by simp[NV,BW]
 |(j,B)::l,k=>by
  have a:=Z23 (b:=b) (s:=s) (els:=els) (l:=l) k;simp only[NV];cases hj:LA j b with
  |true =>
   have e:=Xi hj;simp only[a,BW];by_cases q:k=b
   .rw[if_pos q,if_pos q]
   .rw[if_neg q,if_neg q,if_neg oq]
  |false =>
   have e:=Nat.ne_of_beq_eq_false hj;simp only[BW];by_cases q:k=j
   .rw[if_pos q,if_pos q,if_neg oq];rfl
   .rw[if_neg q,if_neg q,a]
def Zjb{b s els}{B:Z4}(h:Tz b s els B≠.dead):B≠.dead:=by rintro rfl;exact h rfl
def ZgG{b}{t t':Tg}(h:Z2W b t=Li t'){Ow Im0 w0 x w}(hS:Sys Ow Im0 w0 t.st.tmps t.st.H t.st.clk x w):Sys Ow Im0 w0 t'.st.tmps t'.st.H t'.st.clk x w:=by
 unfold Z2W at h;split at h;rotate_left;cases h;rename_i ty s els hb a0;cases h;have a0:=Nat.le_of_ble_eq_true a0;obtain⟨ρ,Im,I,T⟩:=hS;obtain⟨β,hρ,hs,hn,a8,a3,a1⟩:=I.blk b _ hb;let f:Nat->Prop:=λg=>Im g\/β.g=Li g;have hi:∀g,Im g->f g:=λ_ h=>.inl h;have ow:∀{k:Nat} {v:Value},Zi ρ w Im (.ow k) v->Zi ρ w f (ND b s els (.ow k)) v:=by
  intro k v hx;simp only[ND];cases hk:LA k b with
  |false=>cases hx with|ow d j m p=>exact .ow d j m p
  |true =>
   have e:=Xi hk;subst e;cases hx with
   |ow d j m p =>
    rw[hρ]at d;cases d;refine .d ?_;by_cases r:els=[];subst r;have:β.n=0:=by simpa using hn
    rw[this];exact .slNil _ _ _;have a9:0<els.length:=List.length_pos_iff.2 r;rcases p with p|⟨g,a,rfl,_⟩;omega;rcases a1 with⟨_,h5⟩|⟨g',cs,a2,hw,b1,hc⟩;exact absurd h5 r;rw[a]at a2;cases a2;have a5:∀(i:Nat) (e:List DV) (o:Nat) (y:DV),els[i]?=Li e->e[o]?=Li y->∃u,w.cell? ⟨g,0+(i*s+o),Lm⟩=Li u/\CK w Im y u:=by(intro i e o y r hy;obtain⟨u,k1,k2⟩:=hc i e o y r hy;exact⟨u,by simp[World.cell?,hw,k1],k2⟩)
    refine .sl s els ⟨g,0,Lm⟩ β.n _ (λi o=>(w.cell? ⟨g,0+(i*s+o),Lm⟩).getD undef) hn.symm j m a3 rfl (.inr a) ?_ ?_;intro i e o y r hy;obtain⟨u,k1,_⟩:=a5 i e o y r hy;rw[k1];rfl;intro i e o y r hy;obtain⟨u,k1,k2⟩:=a5 i e o y r hy;rw[k1];exact k2.mono (Ext.refl _ _) hi
 have os:∀{k o n:Nat} {v:Value},Zi ρ w Im (.os k o n) v->Zi ρ w f (ND b s els (.os k o n)) v:=by(intro k o n v hx;simp only[ND];split;exact .any _;cases hx with|os d j m p h5=>exact .os d j m p h5)
 have pt:∀{k i o:Nat} {v:Value},Zi ρ w Im (.pt k i o) v->Zi ρ w f (ND b s els (.pt k i o)) v:=by(intro k i o v hx;simp only[ND];split;exact .any _;obtain⟨g,s,n,d,rfl⟩:=NE hx;exact .pt d)
 have rB:∀{κ:Bi} {B:Z4},RelB ρ w Im κ B->RelB ρ w f κ (Tz b s els B):=by
  intro κ B hB;cases B with|box ty cells =>obtain⟨h0,a6,g,cs,d,j,m,a7,p⟩:=hB;refine⟨by simpa using h0,a6,g,cs,d,j,by simpa using m,a7,λo x v hx hv=>?_⟩;simp only[LL,L5]at hx;obtain⟨y,hy,rfl⟩:=hx;exact AJ hi (λ_ _ _ _ h=>pt h) (λ_ _ _ _ h=>os h) (λ_ _ h=>ow h) (p o y v hy hv)|arr ty s els=>exact RelB.arr_any (by rfl) hB hi|mp ks=>exact hB|dead=>trivial
 have hH:∀k B,BW (NV b s els t.hl) k=Li B->k≠b/\∃B',BW t.hl k=Li B'/\B=Tz b s els B':=by(intro k B hk;rw[Z23]at hk;by_cases q:k=b;rw[if_pos q]at hk;cases hk;rw[if_neg q]at hk;obtain⟨B',d,j⟩:=L5.1 hk;exact⟨q,B',d,j.symm⟩)
 have c:∀k,live (BW (NV b s els t.hl)) k->k≠b/\live t.st.H k:=by(rintro k ⟨B,d,j⟩;obtain⟨q,B',m,rfl⟩:=hH k B d;exact⟨q,B',m,Zjb j⟩)
 have lb:live t.st.H b:=⟨_,hb,by simp⟩;refine⟨ρ,f,⟨I.kept,λk k' β β' g l1 l2=>I.inj k k' β β' g (c k l1).2 (c k' l2).2,λk κ g l q q' a=>?_,I.bnd,I.own,λg a=>?_,λg a=>?_,λk B q=>?_,λk hk q=>?_,I.one⟩,⟨by rw[T.size];simp[Tg.st],λi y v hy hv=>?_,T.defers⟩⟩;obtain⟨ne,l⟩:=c k l;rcases a with a|a;exact I.notIm k κ g l q q' a;exact ne (I.inj k b κ β g l lb q hρ q' a);rcases a with a|a;exact I.imb g a;exact I.bnd b β g hρ a;rcases a with a|a;exact I.im0 g a;rcases I.own b β g hρ a with⟨h,_⟩|h;exact .inr (.inl h);exact .inr (.inr h);obtain⟨_,B',m,rfl⟩:=hH k B q;obtain⟨κ,p,h5⟩:=I.blk k B' m;exact⟨κ,p,rB h5⟩;rw[show({tmps:=t.tmps.map (IG (ND b s els)),hl:=NV b s els t.hl,clk:=t.clk:Tg}.st.H k)=BW (NV b s els t.hl) k from rfl,Z23]at q;have b0:t.clk*8000<=k:=hk;rw[if_neg oq]at q;exact I.fresh k hk (Option.map_eq_none_iff.1 q);have a4:(t.tmps.map (IG (ND b s els)))[i]?=Li y:=hy;simp only[LL,L5]at a4;obtain⟨z,hz,rfl⟩:=a4;exact Mp hi (λ_ _ _ _ h=>pt h) (λ_ _ _ _ h=>os h) (λ_ _ h=>ow h) (T.tmp i z v hz hv)
def CSpec.frz{P c s e}{t t':Tg} b(h:CSpec P c s e t.st)(k:Z2W b t=Li t'):CSpec P c s e t'.st:=
 λf d l a w j=>Code.wp_mono (λ_ _ _ ⟨g,i⟩=>⟨g,ZgG k i⟩) (h f d l a w j)
end Go.Sx
