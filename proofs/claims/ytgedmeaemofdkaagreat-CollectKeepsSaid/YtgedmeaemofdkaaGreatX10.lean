/-
 The statement CollectKeeps: part 10.
 Conditions: none.
-/
import Derived.Test.YtgedmeaemofdkaaGreatX9
set_option maxRecDepth 100000
set_option maxHeartbeats 2000000
set_option linter.all false
open Inhabited renaming default->X
open Bool renaming true->Y,false->M,false_eq_true->LF,true_eq_false->LG,and_eq_true->LX
open List renaming map->Z,getD_eq_getElem?_getD->Lc,range->Lg,take->Li,length_map->Lk,getElem?_eq_getElem->Lm,drop->Ln,find?_range_eq_some->Lo,mem_range->Lp,mem_append_left->Lq,find?_eq_none->Lr,mem_append->Ls,getElem?_eq_none->Lw,length_set->Lx,getElem?_drop->Lz,mem_singleton->LA,getElem?_eq_some_iff->LJ,mem_append_right->LK,replicate->LL,append_nil->LN,mem_iff_getElem->LO,mem_or_eq_of_mem_set->LQ,takeWhile_cons->LR,append_assoc->L1,ext_getElem->L2,getElem_map->L3,getElem_range->L4,getElem_set->L5,length_cons->L6,map_append->L7,map_drop->L8,map_set->L9,map_take->Xa,mem_cons->Xb,mem_of_getElem?->Xc,mem_of_mem_take->Xd,not_mem_nil->Xe,pairwise_cons->Xf,pairwise_iff_getElem->Xg,set_set->Xh
open Decidable renaming decide->O,not_not->Ly
open Go.IntKind renaming u64->La,i64->Lh
open Option renaming some->Lb,none->Lj
open Or renaming inr->Ld,inl->Le
open Go.BinOp renaming or->Lf,and->LU
open Int renaming mul_comm->Ll,mul_nonneg->Lu,toNat->Lv,add_mul->LH,mul_le_mul_of_nonneg_right->LI,eq_ofNat_of_zero_le->LM,emod_lt_of_pos->LY,mul_ediv_add_emod->LZ,toNat_natCast->L0
open Nat renaming le_refl->Lt,ble->LB,le_of_ble_eq_true->LC,lt_or_ge->LS,beq->Xi,eq_of_beq_eq_true->Xj,mod_eq_of_lt->Xk,pow_le_pow_right->Xl,zero_add->Xm
open BitVec renaming ofInt->LD,ofInt_natCast->LV,toNat_ofNat->LW
open Go.Proofs.Tryz
namespace Go.Proofs.YtgedmeaemofdkaaGreat
open Go.Sx
def Au{α:Type} p:∀(l:List α) (m:Nat),m<(l.takeWhile p).length->∃h:m<l.length,p l[m]=Y
 |[],m,h=>by simp at h
 |x::l,m,h=>by
  rw[LR]at h;split at h
  .rename_i b;cases m with
   |zero=>exact⟨by simp,b⟩
   |succ m =>
    obtain⟨h1,a⟩:=Au p l m (by simpa using h);exact⟨by simp;omega,by simpa using a⟩
  .simp at h
def Ao{α:Type} p:∀(l:List α) (h:(l.takeWhile p).length<l.length),p l[(l.takeWhile p).length]=M
 |[],h=>by simp at h
 |x::l,h=>by
  by_cases a:p x=Y
  .have e:((x::l).takeWhile p).length=(l.takeWhile p).length+1:=by rw[LR,if_pos a];rfl
   have:=Ao p l (by simp only[e,L6]at h;omega);simp only[e,List.getElem_cons_succ];exact this
  .have e:((x::l).takeWhile p).length=0:=by rw[LR,if_neg a];rfl
   simp only[e,List.getElem_cons_zero];simpa using a
def Sg{l}{i m:Nat}(h:m<ZE l i):i+1+m<l.length/\(l.getD (i+1+m) X).K=3:=by
 obtain⟨b,c⟩:=Au _ _ _ h;have a:i+1+m<l.length:=by simp at b;omega
 refine⟨a, ?_⟩;simpa[Lc,a]using c
def P5{l}{i:Nat}(h:i+1+ZE l i<l.length):¬ (l.getD (i+1+ZE l i) X).K=3:=by
 have b:=Ao (λp:Z0=>p.K==3) (l.drop (i+1)) (by simp;unfold ZE at h;omega);intro c;have d:(l.drop (i+1))[ZE l i]' qo=l.getD (i+1+ZE l i) X:=by simp[Lc,h]
 have a:(((l.drop (i+1))[ZE l i]' qo).K==3)=M:=b;rw[d,c]at a;simp at a
def Z7u{l i}(s:Int):ZI l i 0 s=l.set i (Ny s (l.getD i X)):=by
 refine L2 (by simp[ZI]) λj h1 b=>?_;have h:j<l.length:=by simpa using b
 have e:l.getD j X=l[j]:=by simp[Lc,h]
 simp only[ZI,L3,L4,L5,e];by_cases a:i=j;subst a;rw[if_pos oq,if_pos rfl,e];rw[if_neg oq,if_neg a]
def Z4v{l:List Z0}{i m:Nat} s(h:i+1+m<l.length):(ZI l i m s).set (i+1+m) (Ny s (l.getD (i+1+m) X))=ZI l i (m+1) s:=by
 refine L2 (by simp[ZI]) λj h1 c=>?_;have h:j<l.length:=by simpa[ZI]using c
 have e:l.getD j X=l[j]:=by simp[Lc,h]
 simp only[ZI,L3,L4,L5,e];by_cases a:i+1+m=j;subst a;rw[if_pos rfl,if_pos oq,e];rw[if_neg a];by_cases b:i<=j/\j<=i+m;rw[if_pos b,if_pos oq];rw[if_neg b,if_neg oq]
def Om{l i m} s:(ZI l i m s).getD (i+1+m) X=l.getD (i+1+m) X:=by by_cases h:i+1+m<l.length;rw[HG h,if_neg oq];rw[Lc,Lc,Lw (by rw[Ho];omega),Lw oq]
def TJ(w:Z7)(r x:Int)(m:Nat):Tg:=⟨tm 202 [(1,uU r),(2,.pt 8002 0 0),(4,.pt 8004 0 0),(5,uU 0),(6,nI 0),(14,nI (x+1+m))],[(88094,.arr 86 4 ((ZI w.j.P x.toNat m (1-w.j.S)).map Z0.dv)),(8002,.box 138 [nI w.j.C.pw,nI w.j.C.pg,Z2 w.j.W,.ow 88094,nI w.j.S,nI w.j.B,Z2 w.old,ZC w.T,Z2 w.Q,nI w.D,nI w.rep.copied,nI w.rep.kept,nI w.rep.filled,nI w.rep.freed,nI w.rep.cleared,nI w.rep.steps]),(8004,.box 138 zW)],60⟩
def Zf0(w:Z7)(r x:Int)(m:Nat)(hs:w.j.S=0\/w.j.S=1)(hl:w.j.P.length<=1048576)(hx:0<=x)(j:m<ZE w.j.P x.toNat):CP (Zm f137 0) (TJ w r x m).st .nrm (TJ w r x (m+1)).st:=by
 have e:=Sg j;have f:=Om (l:=w.j.P) (i:=x.toNat) (m:=m) (1-w.j.S);have hn:=Ho w.j.P x.toNat m (1-w.j.S);have d:=Z4v (1-w.j.S) e.1;unfold Ny at d;rw[<-f]at d e;have h:x.toNat+1+m=(x+1+(m:Int)).toNat:=by omega
 have eI:((x.toNat+1+m:Nat):Int)=x+1+(m:Int):=by omega
 rw[h]at f d e;let b:=ZI w.j.P x.toNat m (1-w.j.S);let c:=x+1+(m:Int);let a:=b.getD c.toNat X;let g:=x+1+(m:Int)<(b.length:Int);exact sF [] (fP 13)<|Fl 113 Z0.dv (ZI w.j.P x.toNat m ((1:Int)-w.j.S))<|FmGq 122 (decide g) Z0.dv b c<|Ftb 124 (decide g&&a.K==3)<|Fi 134 (1-w.j.S)<|Fm0q Z0.dv b c<|FS 10136 Z0.dv b (c.toNat) (Z0.mk a.K (1-w.j.S) a.U a.N) (a.dv)<|Fi 126 (x+1+(m:Int)+1)<|Fo (x+1+(m:Int)+1=x+1+(↑(m+1):Int))<|Fr (86:Int)<|Fa (by refine congrArg _ ?_;exact d:Z Z0.dv (b.set c.toNat (Z0.mk a.K (1-w.j.S) a.U a.N))=Z Z0.dv (ZI w.j.P x.toNat (m+1) (1-w.j.S))) Fz
def ZcH(w:Z7)(r x:Int)(hl:w.j.P.length<=1048576)(hx:0<=x):CP (Zm f137 0) (TJ w r x (ZE w.j.P x.toNat)).st (.ext 0) (Tg.st ⟨tm 202 [(1,uU r),(2,.pt 8002 0 0),(4,.pt 8004 0 0),(5,uU 0),(6,nI 0)],[(88094,.arr 86 4 ((ZI w.j.P x.toNat (ZE w.j.P x.toNat) (1-w.j.S)).map Z0.dv)),(8002,.box 138 [nI w.j.C.pw,nI w.j.C.pg,Z2 w.j.W,.ow 88094,nI w.j.S,nI w.j.B,Z2 w.old,ZC w.T,Z2 w.Q,nI w.D,nI w.rep.copied,nI w.rep.kept,nI w.rep.filled,nI w.rep.freed,nI w.rep.cleared,nI w.rep.steps]),(8004,.box 138 zW)],60⟩):=by
 have c:=λh=>P5 (l:=w.j.P) (i:=x.toNat) h;have b:=Om (l:=w.j.P) (i:=x.toNat) (m:=ZE w.j.P x.toNat) (1-w.j.S);have hn:=Ho w.j.P x.toNat (ZE w.j.P x.toNat) (1-w.j.S);have a:x.toNat+1+ZE w.j.P x.toNat=(x+1+(ZE w.j.P x.toNat:Int)).toNat:=by omega
 rw[<-b,a]at c;exact sF [] []<|Fl 113 Z0.dv (ZI w.j.P x.toNat (ZE w.j.P x.toNat) ((1:Int)-w.j.S))<|FmGq 122 (O (x+1+(↑(ZE w.j.P x.toNat):Int)<(↑(ZI w.j.P x.toNat (ZE w.j.P x.toNat) (1-w.j.S)).length:Int))) Z0.dv (ZI w.j.P x.toNat (ZE w.j.P x.toNat) (1-w.j.S)) (x+1+(↑(ZE w.j.P x.toNat):Int))<|Ffb 124 (O (x+1+(↑(ZE w.j.P x.toNat):Int)<(↑(ZI w.j.P x.toNat (ZE w.j.P x.toNat) (1-w.j.S)).length:Int))&&((ZI w.j.P x.toNat (ZE w.j.P x.toNat) (1-w.j.S)).getD (x+1+(↑(ZE w.j.P x.toNat):Int)).toNat X).K==3) Fz
section
variable(w:Z7)(r:Int)(hw:Bb w)(h0:0<=r/\r<=18446744073709551615)(c1:r≠0)(c2:r∉w.Q)(c3:r∈w.old)(c4:(ZG (Z1 w.j.W r).1).2=M)(c5:(Z4 w.j.C r).2.2=0)
include hw h0 c1 c2 c3 c4 c5
theorem Zev(c6:ZJ w (Z4 w.j.C r).1=Y):GP 137 [w.av,uU r] M (.tu [(w.keep r).av,uU r,nI 0]) []:=by have h1:=hw.mu;have h2:=hw.ol;have h3:=hw.wl;have h4:=EP hw.W r;have h11:=Nk (Z1 w.j.W r).1 h4.1;have h5:=hw.pl;have h6:=BI.1 hw.C;have h7:=hw.tl;have h8:=H4 hw.C c5;have Q0 {h_ c_ p_} (r_:Fq h_ c_ p_):=FcG 29 (!r==0) (λhg=>by(try simp only[bs]at hg);exact@CY w.Q r oq) r_;rcases bb (r==0||O (r∈w.Q))with hc0|hc0<;>have hc0p:=hc0<;>simp only[bs]at hc0p;rw[show w.keep r=w from by grind[]];exact gF [] func137 [] (Q0 (Ft 30 hc0 Fz));obtain⟨hc0pa,hc0pb⟩:=hc0p;exact gF [] func137 []<|Fh 73 [.br M]<|Fh 77 [.call Y (bL (ZJ w (Z4 w.j.C r).1)) [],.br Y] (Q0 (Ff 30 hc0<|Fc 36 (@CY w.old r oq)<|Ffb 37 (!decide (r∈w.old))<|Fc 44 (@HW w.j.W r oq aa)<|Fc 49 (@Ak ((Z1 w.j.W r).1) oq oq)<|Fa ‹(ZG (Z1 w.j.W r).1).2=M›<|Fc 60 (@Hr w.j.C r oq oq)<|FlG 71 (!(Z4 w.j.C r).2.2 != 0) Z0.dv w.j.P<|Ffb 52 ((Z4 w.j.C r).2.2 != 0||O ((w.j.P.length:Int)<=(Z4 w.j.C r).1))<|Fa (@D6 w ((Z4 w.j.C r).1) oq oq)<|Fa ‹ZJ w (Z4 w.j.C r).1=Y›<|Fc 80 (@Z4r w r aa) Fz))
theorem ZjZ(c6:ZJ w (Z4 w.j.C r).1=M)(c7:¬ (w.j.P.getD (CK w r) X).K=2)(c8:(w.place (Z5 (ZB w r))).2.2=M):GP 137 [w.av,uU r] M (.tu [H3.av,uU 0,nI 3]) []:=by have h1:=hw.mu;have h2:=hw.ol;have h3:=hw.wl;have h4:=EP hw.W r;have h11:=Nk (Z1 w.j.W r).1 h4.1;have h5:=hw.pl;have h6:=BI.1 hw.C;have h7:=hw.tl;have h8:=H4 hw.C c5;have h9:=RZ w r;unfold CK at c7;unfold ZB at h9 c8;have Q0 {h_ c_ p_} (r_:Fq h_ c_ p_):=FcG 29 (!r==0) (λhg=>by(try simp only[bs]at hg);exact@CY w.Q r oq) r_;rcases bb (r==0||O (r∈w.Q))with hc0|hc0<;>have hc0p:=hc0<;>simp only[bs]at hc0p;rw[show H3=w from by grind[H3,B9]];exact gF [] func137 (fO 4) (Q0 (Ft 30 hc0<|Fr w.j.C.pw<|Fr w.j.C.pg<|Fr (Z wD w.j.W)<|Fr (Z Z0.dv w.j.P)<|Fr w.j.S<|Fr w.j.B<|Fr (Z wD w.old)<|Fr (Z iD w.T)<|Fr (Z wD w.Q)<|Fr w.D<|Fr w.rep.copied<|Fr w.rep.kept<|Fr w.rep.filled<|Fr w.rep.freed<|Fr w.rep.cleared<|Fr w.rep.steps<|Fa (by grind[H3,B9]:r=0)<|Fa (by grind[H3,B9]:(0:Int)=3) Fz));obtain⟨hc0pa,hc0pb⟩:=hc0p;let y0:=Z8 (Z1 w.j.W r).1;exact gF [] func137 []<|Fh 77 [.call Y (bL (ZJ w (Z4 w.j.C r).1)) [],.br M]<|Fh 89 [.br M] (Q0 (Ff 30 hc0<|Fc 36 (@CY w.old r oq)<|Ffb 37 (!decide (r∈w.old))<|Fc 44 (@HW w.j.W r oq aa)<|Fc 49 (@Ak ((Z1 w.j.W r).1) oq oq)<|Fa ‹(ZG (Z1 w.j.W r).1).2=M›<|Fc 60 (@Hr w.j.C r oq oq)<|FlG 71 (!(Z4 w.j.C r).2.2 != 0) Z0.dv w.j.P<|Ffb 52 ((Z4 w.j.C r).2.2 != 0||O ((w.j.P.length:Int)<=(Z4 w.j.C r).1))<|Fa (@D6 w ((Z4 w.j.C r).1) oq oq)<|Fa ‹ZJ w (Z4 w.j.C r).1=M›<|Fe 86 Z0.dv w.j.P ((Z4 w.j.C r).1)<|Ffb 73 ((w.j.P.getD (Z4 w.j.C r).1.toNat X).K==2)<|Fc 143 (@AJ ((Z1 w.j.W r).1) oq oq)<|Fc 147 (@Iu (y0.1) aa)<|Fc 151 (@Z8q w (Z5 y0.1) aa aa)<|Ftb 156 (!(w.place (Z5 y0.1)).2.2)<|Fnl (Fnl (Fnl (Fnl (Fnl Fz))))))
theorem ZdR(c6:ZJ w (Z4 w.j.C r).1=M)(c7:¬ (w.j.P.getD (CK w r) X).K=2)(c8:(w.place (Z5 (ZB w r))).2.2=Y):GP 137 [w.av,uU r] M (.tu [((w.place (Z5 (ZB w r))).1.copy r (w.place (Z5 (ZB w r))).2.1 (Z5 (ZB w r))).av,uU (w.place (Z5 (ZB w r))).2.1,nI 0]) []:=by have h1:=hw.mu;have h2:=hw.ol;have h3:=hw.wl;have h4:=EP hw.W r;have h11:=Nk (Z1 w.j.W r).1 h4.1;have h5:=hw.pl;have h6:=BI.1 hw.C;have h7:=hw.tl;have h8:=H4 hw.C c5;have h9:=RZ w r;have h10:=hw.rk;obtain⟨i,p,t,d1,d2,d3,d4,d4',d5,d6,d7,d8,d9,e⟩:=Z46 hw h9.1 c8;have e1:=congrArg (λw=>w.j.W) e;have e2:=congrArg (λw=>w.Q) e;have e3:=congrArg (λw=>w.rep) e;have e3c:=congrArg (λw=>w.rep.copied) e;simp only at e1 e2 e3 e3c;have l1:=ZaI w.j.W (w.place (Z5 (ZB w r))).2.1 r (Z5 (ZB w r));unfold CK at c7;unfold ZB at *;have Q0 {h_ c_ p_} (r_:Fq h_ c_ p_):=FcG 29 (!r==0) (λhg=>by(try simp only[bs]at hg);exact@CY w.Q r oq) r_;rcases bb (r==0||O (r∈w.Q))with hc0|hc0<;>have hc0p:=hc0<;>simp only[bs]at hc0p;rw[show(w.place (Z5 (Z8 (Z1 w.j.W r).1).1)).1.copy r (w.place (Z5 (Z8 (Z1 w.j.W r).1).1)).2.1 (Z5 (Z8 (Z1 w.j.W r).1).1)=w from by grind[Z7.copy]];exact gF [] func137 (fO 4) (Q0 (Ft 30 hc0<|Fr w.j.C.pw<|Fr w.j.C.pg<|Fr (Z wD w.j.W)<|Fr (Z Z0.dv w.j.P)<|Fr w.j.S<|Fr w.j.B<|Fr (Z wD w.old)<|Fr (Z iD w.T)<|Fr (Z wD w.Q)<|Fr w.D<|Fr w.rep.copied<|Fr w.rep.kept<|Fr w.rep.filled<|Fr w.rep.freed<|Fr w.rep.cleared<|Fr w.rep.steps<|Fa (by grind[Z7.copy]:r=(w.place (Z5 (Z8 (Z1 w.j.W r).1).1)).2.1)<|Fr (0:Int) Fz));obtain⟨hc0pa,hc0pb⟩:=hc0p;let y1:=Z8 (Z1 w.j.W r).1;let y0:=w.place (Z5 y1.1);exact gF [] func137 []<|Fh 77 [.call Y (bL (ZJ w (Z4 w.j.C r).1)) [],.br M]<|Fh 156 [.br M]<|Fh 192 [.els (Z wD (y0.1.Q++[y0.2.1]))] (Q0 (Ff 30 hc0<|Fc 36 (@CY w.old r oq)<|Ffb 37 (!decide (r∈w.old))<|Fc 44 (@HW w.j.W r oq aa)<|Fc 49 (@Ak ((Z1 w.j.W r).1) oq oq)<|Fa ‹(ZG (Z1 w.j.W r).1).2=M›<|Fc 60 (@Hr w.j.C r oq oq)<|FlG 71 (!(Z4 w.j.C r).2.2 != 0) Z0.dv w.j.P<|Ffb 52 ((Z4 w.j.C r).2.2 != 0||O ((w.j.P.length:Int)<=(Z4 w.j.C r).1))<|Fa (@D6 w ((Z4 w.j.C r).1) oq oq)<|Fa ‹ZJ w (Z4 w.j.C r).1=M›<|Fe 86 Z0.dv w.j.P ((Z4 w.j.C r).1)<|Ffb 73 ((w.j.P.getD (Z4 w.j.C r).1.toNat X).K==2)<|Fc 143 (@AJ ((Z1 w.j.W r).1) oq oq)<|Fc 147 (@Iu (y1.1) aa)<|Fc 151 (@Z8q w (Z5 y1.1) aa aa)<|Ffb 89 (!y0.2.2)<|Fc 165 (@ZkG (y0.1.j.W) (y0.2.1) r (Z5 y1.1) (by grind[Z7.copy]) oq aa)<|Fc 172 (@ZhZ (y0.2.1) oq oq)<|Fc 181 (@Z4a ((moveA y0.1.j.W y0.2.1 r (Z5 y1.1)).1) r (4*y0.2.1+2) (by grind[Z7.copy]) aa)<|FAx 186 189 wD y0.1.Q (by grind[Z7.copy])<|Fs 191 (Z wD [y0.2.1])<|Fa (by grind[Z7.copy]:(Z wD y0.1.Q).length+(Z wD [y0.2.1]).length<=2^30)<|Fa (by simp[Z7.copy,Xa,L8,L9,L7,wD,iD]:Z wD y0.1.Q++Z wD [y0.2.1]=Z wD (y0.1.Q++[y0.2.1]))<|Fi 197 (y0.1.rep.copied+1) Fz))
end
def ZkD(w:Z7)(r x:Int)(hs:w.j.S=0\/w.j.S=1)(hl:w.j.P.length<=1048576)(a:0<=x):CP (Zi f137 0) (Tg.st ⟨tm 202 [(1,uU r),(2,.pt 8002 0 0),(4,.pt 8004 0 0),(5,uU 0),(6,nI 0),(14,nI (x+1))],[(88094,.arr 86 4 ((w.j.P.set x.toNat ⟨(w.j.P.getD x.toNat X).K,1-w.j.S,(w.j.P.getD x.toNat X).U,(w.j.P.getD x.toNat X).N⟩).map Z0.dv)),(8002,.box 138 [nI w.j.C.pw,nI w.j.C.pg,Z2 w.j.W,.ow 88094,nI w.j.S,nI w.j.B,Z2 w.old,ZC w.T,Z2 w.Q,nI w.D,nI w.rep.copied,nI w.rep.kept,nI w.rep.filled,nI w.rep.freed,nI w.rep.cleared,nI w.rep.steps]),(8004,.box 138 zW)],60⟩) .nrm (Tg.st ⟨tm 202 [(1,uU r),(2,.pt 8002 0 0),(4,.pt 8004 0 0),(5,uU 0),(6,nI 0)],[(88094,.arr 86 4 ((ZI w.j.P x.toNat (ZE w.j.P x.toNat) (1-w.j.S)).map Z0.dv)),(8002,.box 138 [nI w.j.C.pw,nI w.j.C.pg,Z2 w.j.W,.ow 88094,nI w.j.S,nI w.j.B,Z2 w.old,ZC w.T,Z2 w.Q,nI w.D,nI w.rep.copied,nI w.rep.kept,nI w.rep.filled,nI w.rep.freed,nI w.rep.cleared,nI w.rep.steps]),(8004,.box 138 zW)],60⟩):=by have h:=Bp (S:=λk=>(TJ w r x k).st) (ZE w.j.P x.toNat) kr (λk b=>Zf0 w r x k hs hl a b) (ZcH w r x hl a);have c:=Z7u (l:=w.j.P) (i:=x.toNat) (1-w.j.S);simp only[TJ,c,Ny,Int.natCast_zero,Int.add_zero]at h;exact h
section
variable(w:Z7)(r:Int)(hw:Bb w)(h0:0<=r/\r<=18446744073709551615)(c1:r≠0)(c2:r∉w.Q)(c3:r∈w.old)(c4:(ZG (Z1 w.j.W r).1).2=M)(c5:(Z4 w.j.C r).2.2=0)
include hw h0 c1 c2 c3 c4 c5
theorem ZiS(c6:ZJ w (Z4 w.j.C r).1=M)(c7:(w.j.P.getD (CK w r) X).K=2):GP 137 [w.av,uU r] M (.tu [((w.flip (CK w r)).keep r).av,uU r,nI 0]) []:=by have h1:=hw.mu;have h2:=hw.ol;have h3:=hw.wl;have h4:=EP hw.W r;have h5:=hw.pl;have h6:=BI.1 hw.C;have h7:=hw.tl;have h8:=H4 hw.C c5;have h9:=hw.sp;have h10:=Z72 hw (CK w r);have h12:(⟨⟨w.j.C,w.j.W,ZI w.j.P (Z4 w.j.C r).1.toNat (ZE w.j.P (Z4 w.j.C r).1.toNat) (1-w.j.S),w.j.S,w.j.B⟩,w.old,w.T,w.Q,w.D,w.rep⟩:Z7)=w.flip (CK w r):=rfl;unfold CK at c7;have Q0 {h_ c_ p_} (r_:Fq h_ c_ p_):=FcG 29 (!r==0) (λhg=>by(try simp only[bs]at hg);exact@CY w.Q r oq) r_;rcases bb (r==0||O (r∈w.Q))with hc0|hc0<;>have hc0p:=hc0<;>simp only[bs]at hc0p;rw[show(w.flip (CK w r)).keep r=w from by grind[]];exact gF [] func137 [] (Q0 (Ft 30 hc0 Fz));obtain⟨hc0pa,hc0pb⟩:=hc0p;let y0:=w.j.P.getD (Z4 w.j.C r).1.toNat X;let y1:=Z7.mk (Heap.mk w.j.C w.j.W (ZI w.j.P (Z4 w.j.C r).1.toNat (ZE w.j.P (Z4 w.j.C r).1.toNat) (1-w.j.S)) w.j.S w.j.B) w.old w.T w.Q w.D w.rep;let y2:=(Z4 w.j.C r).1;exact gF [] func137 []<|Fh 73 [.br M]<|Fh 77 [.call Y (bL (ZJ w (Z4 w.j.C r).1)) [],.br M]<|Fh 139 [.kill (y1.keep r).av] (Q0 (Ff 30 hc0<|Fc 36 (@CY w.old r oq)<|Ffb 37 (!decide (r∈w.old))<|Fc 44 (@HW w.j.W r oq aa)<|Fc 49 (@Ak ((Z1 w.j.W r).1) oq oq)<|Fa ‹(ZG (Z1 w.j.W r).1).2=M›<|Fc 60 (@Hr w.j.C r oq oq)<|FlG 71 (!(Z4 w.j.C r).2.2 != 0) Z0.dv w.j.P<|Ffb 52 ((Z4 w.j.C r).2.2 != 0||O ((w.j.P.length:Int)<=(Z4 w.j.C r).1))<|Fa (@D6 w y2 oq oq)<|Fa ‹ZJ w (Z4 w.j.C r).1=M›<|Fe 86 Z0.dv w.j.P y2<|Ftb 89 (y0.K==2)<|FA 90 94 Z0.dv w.j.P<|Fi 104 (1-w.j.S)<|Fm0q Z0.dv w.j.P y2<|FS 10106 Z0.dv w.j.P ((Z4 w.j.C r).1.toNat) (Z0.mk y0.K (1-w.j.S) y0.U y0.N) (y0.dv)<|Fi 108 ((Z4 w.j.C r).1+1)<|Fu (@ZkD w r y2 aa oq oq)<|Fa (@Z4r y1 r aa) Fz))
end
def Z0K w(r:Int)(e:Bb w)(d:0<=r/\r<=18446744073709551615):GP 137 [w.av,uU r] M (.tu [(w.fwd r).1.av,uU (w.fwd r).2.1,nI (w.fwd r).2.2]) []:=by
 unfold Z7.fwd;by_cases c1:r=0\/r∈w.Q;rw[if_pos c1];exact ZcP w r e d c1;rw[if_neg c1];have a:r≠0:=λh=>c1 (Le h);have b:r∉w.Q:=λh=>c1 (Ld h);by_cases c3:r∈w.old;rw[if_neg (by simpa using c3)];by_cases c4:(ZG (Z1 w.j.W r).1).2=Y;rw[if_pos c4];exact Zgf w r e d a b c3 c4;rw[if_neg c4];have c:(ZG (Z1 w.j.W r).1).2=M:=by simpa using c4
 by_cases f:(Z4 w.j.C r).2.2=0;rw[if_neg (by simpa using f)];by_cases j:ZJ w (Z4 w.j.C r).1=Y;rw[if_pos j];exact Zev w r e d a b c3 c f j;rw[if_neg j];have g:ZJ w (Z4 w.j.C r).1=M:=by simpa using j
 by_cases i:(w.j.P.getD (CK w r) X).K=2;rw[if_pos i];exact ZiS w r e d a b c3 c f g i;rw[if_neg i];by_cases k:(w.place (Z5 (ZB w r))).2.2=M;rw[if_pos k];exact ZjZ w r e d a b c3 c f g i k;rw[if_neg k];exact ZdR w r e d a b c3 c f g i (by simpa using k);rw[if_pos f];exact ZkM w r e d a b c3 c f;rw[if_pos c3];exact ZgU w r e d a b c3
def rootsN(w:Z7)(roots:List Int):Nat->Z7×List Int|0=>(w,[])|k+1=>(((rootsN w roots k).1.fwd (roots.getD k X)).1,(rootsN w roots k).2++[((rootsN w roots k).1.fwd (roots.getD k X)).2.1])
def E8(w:Z7)(roots:List Int)(k:Nat):Int:=((rootsN w roots k).1.fwd (roots.getD k X)).2.2
def rootsF(w:Z7)(roots:List Int):Z7×List Int×Int:=match (Lg roots.length).find? (λk=>O (E8 w roots k≠0))with|none=>((rootsN w roots roots.length).1,(rootsN w roots roots.length).2,0)|some k=>(H3,[],E8 w roots k)
def Mx(w:Z7)(roots out:List Int)(i:Nat):Tg:=⟨tm 39 [(1,Z2 roots),(2,.pt 8002 0 0),(4,.pt 8004 0 0),(5,.d (.sl 0 [])),(6,nI 0),(7,.ow 16007),(8,nI i)],[(16007,.arr 35 1 (out.map wD)),(8004,.box 138 zW),(8002,.box 138 w.cells)],60⟩
section
variable(w:Z7)(roots out:List Int)(i:Nat)(hw:Bb w)(hr:0<=roots.getD i X/\roots.getD i X<=18446744073709551615)(hl:roots.length<=1048576)(ho:out.length<=1048576)(hi:i<roots.length)
include hw hr hl ho hi
theorem Z73(e:(w.fwd (roots.getD i X)).2.2=0):CP (Zm f83 0) (Mx w roots out i).st .nrm (Mx (w.fwd (roots.getD i X)).1 roots (out++[(w.fwd (roots.getD i X)).2.1]) (i+1)).st:=by let a:=w.fwd (roots.getD i X);exact sF [(504036,16007)] []<|Fh 36 [.els (Z wD (out++[a.2.1]))]<|FN 14 15 22 wD roots i<|Fc 24 (@Z0K w (roots.getD i X) aa aa)<|Ffb 29 (a.2.2 != 0)<|Fs 35 (Z wD [a.2.1])<|Fa (by(simp[*];omega):(Z wD out).length+(Z wD [a.2.1]).length<=2^30)<|Fa (ms:Z wD out++Z wD [a.2.1]=Z wD (out++[a.2.1]))<|Fx 17 i Fz
theorem ZfQ(e:¬ (w.fwd (roots.getD i X)).2.2=0):CP (Zm f83 0) (Mx w roots out i).st .ret (Tg.st ⟨tm 39 [(4,.pt 8004 0 0),(5,.d (.sl 0 [])),(6,nI (w.fwd (roots.getD i X)).2.2)],[(8004,.box 138 zW)],60⟩):=by exact sF [] []<|FN 14 15 22 wD roots i<|Fc 24 (@Z0K w (roots.getD i X) aa aa)<|Ftb 29 ((w.fwd (roots.getD i X)).2.2 != 0) Fz
end
def Zlp w roots out:CP (Zm f83 0) (Mx w roots out roots.length).st (.ext 0) (Tg.st ⟨tm 39 [(2,.pt 8002 0 0),(4,.pt 8004 0 0),(7,.ow 16007)],[(16007,.arr 35 1 (out.map wD)),(8004,.box 138 zW),(8002,.box 138 w.cells)],60⟩):=by exact sF [] []<|FO 14 15 wD roots Fz
def N0 w roots:∀k,(rootsN w roots k).2.length=k|0=>rfl|k+1=>by simp[rootsN,N0 w roots k]
def Ah{w roots}(d:Bb w):∀k,(∀j,j<k->E8 w roots j=0)->Bb (rootsN w roots k).1/\(∀x∈(rootsN w roots k).2,0<=x/\x<=4294967296)/\(rootsN w roots k).1.D=w.D
 |0,_=>⟨d,by simp[rootsN],rfl⟩
 |k+1,h=>by
  have c:=Ah d k (λj hj=>h j oq);have a:=MQ c.1 (roots.getD k X) (h k oq);refine⟨a.1, ?_, ?_⟩
  .intro x b;simp only[rootsN,Ls,LA]at b;rcases b with b|rfl
   .exact c.2.1 x b
   .exact⟨a.2.1,a.2.2.1⟩
  .show((rootsN w roots k).1.fwd (roots.getD k X)).1.D=w.D;rw[a.2.2.2.2.1,c.2.2]
section
variable(w:Z7)(roots:List Int)(b:Bb w)(a:CQ roots)(hl:roots.length<=1048575)
include b a hl
theorem Zha(f:(Lg roots.length).find? (λk=>O (E8 w roots k≠0))=Lj):CP (Zi f83 0) (Tg.st ⟨tm 39 [(1,Z2 roots),(2,.pt 8002 0 0),(4,.pt 8004 0 0),(5,.d (.sl 0 [])),(6,nI 0),(7,.ow 16007),(8,nI 0)],[(16007,.arr 35 1 []),(8004,.box 138 zW),(8002,.box 138 w.cells)],60⟩) .nrm (Tg.st ⟨tm 39 [(2,.pt 8002 0 0),(4,.pt 8004 0 0),(7,.ow 16007)],[(16007,.arr 35 1 ((rootsN w roots roots.length).2.map wD)),(8004,.box 138 zW),(8002,.box 138 (rootsN w roots roots.length).1.cells)],60⟩):=by
 have c:∀j,j<roots.length->E8 w roots j=0:=λj d=>by(have:=Lr.1 f j (Lp.2 d);simpa using this)
 exact Bp (S:=λk=>(Mx (rootsN w roots k).1 roots (rootsN w roots k).2 k).st) roots.length kr (λk e=>Z73 _ roots _ k (Ah b k λj d=>c j oq).1 (Da a k) oq (by rw[N0];omega) e (c k e)) (Zlp _ roots _)
theorem Zfj i(h:(Lg roots.length).find? (λk=>O (E8 w roots k≠0))=Lb i):CP (Zi f83 0) (Tg.st ⟨tm 39 [(1,Z2 roots),(2,.pt 8002 0 0),(4,.pt 8004 0 0),(5,.d (.sl 0 [])),(6,nI 0),(7,.ow 16007),(8,nI 0)],[(16007,.arr 35 1 []),(8004,.box 138 zW),(8002,.box 138 w.cells)],60⟩) .ret (Tg.st ⟨tm 39 [(4,.pt 8004 0 0),(5,.d (.sl 0 [])),(6,nI (E8 w roots i))],[(8004,.box 138 zW)],60⟩):=by
 obtain⟨f,d,g⟩:=Lo.1 h;have d:=Lp.1 d;have c:∀j,j<i->E8 w roots j=0:=λj e=>by simpa using g j e
 exact EJ (S:=λk=>(Mx (rootsN w roots k).1 roots (rootsN w roots k).2 k).st) i kr (λk l=>Z73 _ roots _ k (Ah b k λj e=>c j oq).1 (Da a k) oq (by rw[N0];omega) oq (c k l)) (ZfQ _ roots _ i (Ah b i c).1 (Da a i) oq (by rw[N0];omega) d (of_decide_eq_true f))
theorem OH:GP 83 [w.av,Z2 roots] M (.tu [(rootsF w roots).1.av,Z2 (rootsF w roots).2.1,nI (rootsF w roots).2.2]) []:=by
 cases hb:(Lg roots.length).find? (λk=>O (E8 w roots k≠0))with
 |none =>
  have c:rootsF w roots=((rootsN w roots roots.length).1,(rootsN w roots roots.length).2,0):=by rw[rootsF,hb]
  rw[c];exact gF [] func83 []<|Fh 7 [.own]<|Fu (@Zha w roots aa aa aa aa) Fz
 |some i =>
  have c:rootsF w roots=(H3,[],E8 w roots i):=by rw[rootsF,hb]
  rw[c];exact gF [] func83 []<|Fh 7 [.own]<|Fu (@Zfj w roots aa aa aa i aa)<|Fnl (Fnl (Fnl (Fnl (Fnl (Fnl Fz)))))
end
def BQ(h:Zz):Nat->List Int|0=>[]|i+1=>if Ba h (i:Int)=Y then BQ h i++[(i:Int)]else BQ h i
def Pr(h:Zz):∀i,(BQ h i).length<=i
 |0=>Lt _
 |i+1=>by
  have:=Pr h i;simp only[BQ];split<;>simp<;>omega
def Zk(h:Zz):List Int:=if ZU h=Y then BQ h h.length.toNat else []
def Tz(h:Zz)(i:Nat):Tg:=⟨tm 23 [(1,.pt 8001 0 0),(3,.ow 16003),(4,nI i)],[(16003,.arr 3 1 ((BQ h i).map iD)),(8001,.box 52 [nI h.K,nI h.length,u32 h.map])],60⟩
def Zh7(h:Zz)(i:Nat)(hm:0<=h.map/\h.map<=4294967295)(hv:ZU h=Y)(hb:h.length<=255)(hi:i<h.length):CP (Zm f189 0) (Tz h i).st .nrm (Tz h (i+1)).st:=by
 have hn:=Pr h i;by_cases b:Ba h (i:Int)=Y;have e:BQ h (i+1)=BQ h i++[(i:Int)]:=by rw[BQ,if_pos b]
 exact sF [(496021,16003)] (fO 5)<|Fh 17 [.call Y (bL (Ba h (i:Int))) [],.br Y]<|Fh 21 [.els (Z iD (BQ h i++[(i:Int)]))]<|FcG 11 (O ((i:Int)<h.length)) (λa=>by(try simp only[bs]at a);exact@NH h aa)<|Ft 12 (by simp[*]:(O ((i:Int)<h.length)&&ZU h)=Y)<|Fa (@Nh h ((i:Int)) aa)<|Fa ‹Ba h (i:Int)=Y›<|Fs 20 (Z iD [(i:Int)])<|Fa (by(simp[*];omega):(Z iD (BQ h i)).length+(Z iD [(i:Int)]).length<=2^30)<|Fa (ms:Z iD (BQ h i)++Z iD [(i:Int)]=Z iD (BQ h i++[(i:Int)]))<|Fx 14 i<|Fr (3:Int)<|Fa (by refine congrArg _ ?_;rw[e]:Z iD (BQ h i++[(i:Int)])=Z iD (BQ h (i+1))) Fz;have e:BQ h (i+1)=BQ h i:=by rw[BQ,if_neg b]
 have c:Ba h (i:Int)=M:=by simpa using b
 exact sF [] (fO 5)<|Fh 17 [.call Y (bL (Ba h (i:Int))) [],.br M]<|FcG 11 (O ((i:Int)<h.length)) (λa=>by(try simp only[bs]at a);exact@NH h aa)<|Ft 12 (by simp[*]:(O ((i:Int)<h.length)&&ZU h)=Y)<|Fa (@Nh h ((i:Int)) aa)<|Fa ‹Ba h (i:Int)=M›<|Fx 14 i<|Fr (3:Int)<|Fa (by refine congrArg _ ?_;rw[e]:Z iD (BQ h i)=Z iD (BQ h (i+1))) Fz
def Z9Q(h:Zz)(i:Nat)(hm:0<=h.map/\h.map<=4294967295)(hi:h.length<=i\/ZU h=M):CP (Zm f189 0) (Tz h i).st (.ext 0) (Tg.st ⟨tm 23 [(3,.ow 16003)],[(16003,.arr 3 1 ((BQ h i).map iD))],60⟩):=by rcases hi with hi|hi;exact sF [] []<|FcG 11 (O ((i:Int)<h.length)) (λa=>by(try simp only[bs]at a);exact@NH h aa)<|Ffb 12 (O ((i:Int)<h.length)&&ZU h) Fz;exact sF [] []<|FcG 11 (O ((i:Int)<h.length)) (λa=>by(try simp only[bs]at a);exact@NH h aa)<|Ff 12 (by simp[*]:(O ((i:Int)<h.length)&&ZU h)=M) Fz
def ZaV(h:Zz)(b:0<=h.map/\h.map<=4294967295):CP (Zi f189 0) (Tg.st ⟨tm 23 [(1,.pt 8001 0 0),(3,.ow 16003),(4,nI 0)],[(16003,.arr 3 1 []),(8001,.box 52 [nI h.K,nI h.length,u32 h.map])],60⟩) .nrm (Tg.st ⟨tm 23 [(3,.ow 16003)],[(16003,.arr 3 1 ((Zk h).map iD))],60⟩):=by unfold Zk;by_cases a:ZU h=Y;rw[if_pos a];have hb:=Gx.1 a;exact Bp (S:=λi=>(Tz h i).st) h.length.toNat kr (λi hi=>Zh7 h i b a oq oq) (Z9Q h _ b (.inl oq));rw[if_neg a];exact Bp (S:=λi=>(Tz h i).st) 0 kr (λi hi=>by omega) (Z9Q h 0 b (.inr (by simpa using a)))
def Z9F(h:Zz)(hm:0<=h.map/\h.map<=4294967295):GP 189 [h.av] Y (.d (.sl 1 ((Zk h).map iD))) []:=by exact gF [] func189 []<|Fh 3 [.own]<|Fu (@ZaV h aa)<|Fa (Dd _:Ce (Z iD (Zk h))) Fz
def Z7.in1(w:Z7)(a:Int):Z7:=⟨⟨(w.fwd (Z1 w.j.W a).1).1.j.C,(BR (w.fwd (Z1 w.j.W a).1).1.j.W a (w.fwd (Z1 w.j.W a).1).2.1).1,(w.fwd (Z1 w.j.W a).1).1.j.P,(w.fwd (Z1 w.j.W a).1).1.j.S,(w.fwd (Z1 w.j.W a).1).1.j.B⟩,(w.fwd (Z1 w.j.W a).1).1.old,(w.fwd (Z1 w.j.W a).1).1.T,(w.fwd (Z1 w.j.W a).1).1.Q,(w.fwd (Z1 w.j.W a).1).1.D,(w.fwd (Z1 w.j.W a).1).1.rep⟩
def Bg(w:Z7)(a:Int)(l:List Int):Nat->Z7|0=>w|k+1=>(Bg w a l k).in1 (a+1+l.getD k X)
def CL(w:Z7)(a:Int)(l:List Int)(k:Nat):Int:=((Bg w a l k).fwd (Z1 (Bg w a l k).j.W (a+1+l.getD k X)).1).2.2
def C4(w:Z7):Int:=w.Q.getD w.D.toNat X
def Bj(w:Z7):List Int:=Zk (ZB w (C4 w))
def HC(w:Z7)(n:Int):Z7:=⟨w.j,w.old,w.T,w.Q,w.D+1,⟨w.rep.copied,w.rep.kept,w.rep.filled,w.rep.freed,w.rep.cleared,w.rep.steps+1+n⟩⟩
def B1(w:Z7):Z7×Bool×Int:=
 if w.D<w.Q.length then
  match (Lg (Bj w).length).find? (λk=>O (CL w (C4 w) (Bj w) k≠0))with|none=>(HC (Bg w (C4 w) (Bj w) (Bj w).length) (Bj w).length,Y,0)|some k=>(H3,M,CL w (C4 w) (Bj w) k)
 else(w,M,0)
def Z4o{w}(d:Bb w) a(e:(w.fwd (Z1 w.j.W a).1).2.2=0):Bb (w.in1 a)/\w.Q.length<=(w.in1 a).Q.length/\(w.in1 a).D=w.D/\(w.in1 a).rep.steps=w.rep.steps:=by have b:=MQ d _ e;have hl:=Z60 (w.fwd (Z1 w.j.W a).1).1.j.W a (w.fwd (Z1 w.j.W a).1).2.1;have c:=b.1.wl;exact⟨b.1.withWords (Z2c b.1.W oq a) oq,b.2.2.2.1,b.2.2.2.2.1,b.2.2.2.2.2⟩
def NC{w}(c:Bb w) a l:∀k,(∀j,j<k->CL w a l j=0)->Bb (Bg w a l k)/\w.Q.length<=(Bg w a l k).Q.length/\(Bg w a l k).D=w.D/\(Bg w a l k).rep.steps=w.rep.steps
 |0,_=>⟨c,Lt _,rfl,rfl⟩
 |k+1,h=>by
  have b:=NC c a l k (λj hj=>h j oq);have hi:=Z4o b.1 (a+1+l.getD k X) (h k oq);exact⟨hi.1,Nat.le_trans b.2.1 hi.2.1,hi.2.2.1.trans b.2.2.1,hi.2.2.2.trans b.2.2.2⟩
def Ac(h:Zz):∀i,∀x∈BQ h i,0<=x/\x<i
 |0,x,hx=>by simp[BQ]at hx
 |i+1,x,hx=>by
  have a:=Ac h i;simp only[BQ]at hx;split at hx
  .rcases Ls.1 hx with hx|hx
   .have:=a x hx;omega
   .simp at hx;omega
  .have:=a x hx;omega
def Al(h:Zz):(Zk h).length<=255/\∀x∈Zk h,0<=x/\x<=255:=by
 unfold Zk;split;rename_i a;have:=Gx.1 a;have hl:=Pr h h.length.toNat
 exact⟨by omega,λx b=>by have:=Ac h _ x b;omega⟩;simp
def ZdW w(a:Bb w)(hs:¬ w.D<w.Q.length):GP 138 [w.av] M (.tu [w.av,bL M,nI 0]) []:=by have h3:=a.mu;exact gF [] func138 []<|Fl 18 wD w.Q<|Ftb 19 (O ((w.Q.length:Int)<=w.D)) Fz
def DJ(w:Z7)(a:Int)(l:List Int)(k:Nat):Tg:=⟨tm 90 [(1,.pt 8001 0 0),(2,.pt 8002 0 0),(3,bL M),(4,nI 0),(5,uU a),(6,ZC l),(7,nI k)],[(8002,.box 138 zW),(8001,.box 138 w.cells)],60⟩
section
variable(w:Z7)(a:Int)(l:List Int)(k:Nat)(b:Bb w)(ha:0<=a/\a<=16384)(hl:l.length<=255)(hr:0<=l.getD k X/\l.getD k X<=255)(hk:k<l.length)
include b ha hl hr hk
theorem Z8K(e:(w.fwd (Z1 w.j.W (a+1+l.getD k X)).1).2.2=0):CP (Zm f138 0) (DJ w a l k).st .nrm (DJ (w.in1 (a+1+l.getD k X)) a l (k+1)).st:=by have h1:=b.wl;have h2:=EP b.W (a+1+l.getD k X);have f:=MQ b _ e;have h4:=f.1.wl;let c:=a+1+l.getD k X;let d:=w.fwd (Z1 w.j.W c).1;exact sF [] []<|FM 33 34 iD l k<|Fv 38 (a+1)<|Fek 41 iD l (↑k) k<|Fv 43 (l.getD k X)<|Fv 44 c<|Fc 50 (@HW w.j.W c oq oq)<|Fc 56 (@Z0K w ((Z1 w.j.W c).1) aa aa)<|Ffb 61 (d.2.2 != 0)<|Fc 71 (@Z4a (d.1.j.W) c (d.2.1) oq oq)<|Fx 36 k Fz
theorem ZgM(e:¬ (w.fwd (Z1 w.j.W (a+1+l.getD k X)).1).2.2=0):CP (Zm f138 0) (DJ w a l k).st .ret (Tg.st ⟨tm 90 [(2,.pt 8002 0 0),(3,bL M),(4,nI (w.fwd (Z1 w.j.W (a+1+l.getD k X)).1).2.2)],[(8002,.box 138 zW)],60⟩):=by have h1:=b.wl;have h2:=EP b.W (a+1+l.getD k X);let c:=a+1+l.getD k X;exact sF [] []<|FM 33 34 iD l k<|Fv 38 (a+1)<|Fek 41 iD l (↑k) k<|Fv 43 (l.getD k X)<|Fv 44 c<|Fc 50 (@HW w.j.W c oq oq)<|Fc 56 (@Z0K w ((Z1 w.j.W c).1) aa aa)<|Ftb 61 ((w.fwd (Z1 w.j.W c).1).2.2 != 0) Fz
end
def Zi7 w a l:CP (Zm f138 0) (DJ w a l l.length).st (.ext 0) (Tg.st ⟨tm 90 [(1,.pt 8001 0 0),(2,.pt 8002 0 0),(6,ZC l)],[(8002,.box 138 zW),(8001,.box 138 w.cells)],60⟩):=by exact sF [] []<|FO 33 34 iD l Fz
section
variable(w:Z7)(a:Int)(l:List Int)(d:Bb w)(b:0<=a/\a<=16384)(hl:l.length<=255)(c:∀x∈l,0<=x/\x<=255)
include d b hl c
theorem ZdK(h:(Lg l.length).find? (λk=>O (CL w a l k≠0))=Lj):CP (Zi f138 0) (Tg.st ⟨tm 90 [(1,.pt 8001 0 0),(2,.pt 8002 0 0),(3,bL M),(4,nI 0),(5,uU a),(6,ZC l),(7,nI 0)],[(8002,.box 138 zW),(8001,.box 138 w.cells)],60⟩) .nrm (Tg.st ⟨tm 90 [(1,.pt 8001 0 0),(2,.pt 8002 0 0),(6,ZC l)],[(8002,.box 138 zW),(8001,.box 138 (Bg w a l l.length).cells)],60⟩):=by
 have f:∀j,j<l.length->CL w a l j=0:=λj g=>by(have:=Lr.1 h j (Lp.2 g);simpa using this)
 exact Bp (S:=λk=>(DJ (Bg w a l k) a l k).st) l.length kr (λk e=>Z8K _ a l k (NC d a l k λj g=>f j oq).1 b hl (c _ (ZT.2 ⟨k,e,rfl⟩)) e (f k e)) (Zi7 _ a l)
theorem Zlj i(n:(Lg l.length).find? (λk=>O (CL w a l k≠0))=Lb i):CP (Zi f138 0) (Tg.st ⟨tm 90 [(1,.pt 8001 0 0),(2,.pt 8002 0 0),(3,bL M),(4,nI 0),(5,uU a),(6,ZC l),(7,nI 0)],[(8002,.box 138 zW),(8001,.box 138 w.cells)],60⟩) .ret (Tg.st ⟨tm 90 [(2,.pt 8002 0 0),(3,bL M),(4,nI (CL w a l i))],[(8002,.box 138 zW)],60⟩):=by
 obtain⟨h,e,m⟩:=Lo.1 n;have e:=Lp.1 e;have f:∀j,j<i->CL w a l j=0:=λj g=>by simpa using m j g
 exact EJ (S:=λk=>(DJ (Bg w a l k) a l k).st) i kr (λk o=>Z8K _ a l k (NC d a l k λj g=>f j oq).1 b hl (c _ (ZT.2 ⟨k,by omega,rfl⟩)) oq (f k o)) (ZgM _ a l i (NC d a l i f).1 b hl (c _ (ZT.2 ⟨i,e,rfl⟩)) e (of_decide_eq_true h))
end
def Z33 w(b:Bb w):GP 138 [w.av] M (.tu [(B1 w).1.av,bL (B1 w).2.1,nI (B1 w).2.2]) []:=by
 by_cases d:w.D<w.Q.length;have h2:=b.sc;have h1:=b.q _ (ZT.2 ⟨w.D.toNat,by omega,rfl⟩);have h3:=b.mu;have h:=Nk (Z1 w.j.W (w.Q.getD w.D.toNat X)).1 (EP b.W _).1;have i:ZB w (w.Q.getD w.D.toNat X)=(Z8 (Z1 w.j.W (w.Q.getD w.D.toNat X)).1).1:=rfl;have h6:=Al (ZB w (w.Q.getD w.D.toNat X));rw[<-i]at h;unfold B1;rw[if_pos d];cases hb:(Lg (Bj w).length).find? (λk=>O (CL w (C4 w) (Bj w) k≠0))with
 |none =>
  have g:∀j,j<(Bj w).length->CL w (C4 w) (Bj w) j=0:=λj l=>by(have:=Lr.1 hb j (Lp.2 l);simpa using this)
  have k1:=NC b (C4 w) (Bj w) (Bj w).length g;have k2:=k1.1.rs;have k3:=k1.1.sc;have k4:=k1.1.mu;unfold Bj C4 at *;let a:=w.Q.getD w.D.toNat X;let f:=Bg w a (Zk (ZB w a)) (Zk (ZB w a)).length;exact gF [] func138 []<|Fl 18 wD w.Q<|Ffb 19 (O ((w.Q.length:Int)<=w.D))<|Fe 25 wD w.Q w.D<|Fc 29 (@Z51 w a aa oq)<|Fc 30 (@Z9F (ZB w a) aa)<|Fu (@ZdK w a (Zk (ZB w a)) aa aa oq (by grind[HC]) aa)<|Fi 78 (f.D+1)<|Fi 83 (f.rep.steps+1)<|Fl 85 iD (Zk (ZB w a))<|Fi 86 (f.rep.steps+1+(↑(Zk (ZB w a)).length:Int)) Fz
 |some k =>unfold Bj C4 at *;let c:=w.Q.getD w.D.toNat X;exact gF [] func138 []<|Fl 18 wD w.Q<|Ffb 19 (O ((w.Q.length:Int)<=w.D))<|Fe 25 wD w.Q w.D<|Fc 29 (@Z51 w c aa oq)<|Fc 30 (@Z9F (ZB w c) aa)<|Fu (@Zlj w c (Zk (ZB w c)) aa aa oq (by grind[H3,B9]) k aa)<|Fnl (Fnl (Fnl (Fnl (Fnl Fz))))
 have e:B1 w=(w,M,0):=by rw[B1,if_neg d]
 rw[e];exact ZdW w b d
def PN{w}(a:Bb w)(e:(B1 w).2.2=0):Bb (B1 w).1/\((B1 w).2.1=Y->(B1 w).1.D=w.D+1):=by
 by_cases b:w.D<w.Q.length;unfold B1 at e⊢;rw[if_pos b]at e⊢;cases hb:(Lg (Bj w).length).find? (λk=>O (CL w (C4 w) (Bj w) k≠0))with
 |none =>
  have c:∀j,j<(Bj w).length->CL w (C4 w) (Bj w) j=0:=λj d=>by(have:=Lr.1 hb j (Lp.2 d);simpa using this)
  have k1:=NC a (C4 w) (Bj w) (Bj w).length c;have k2:=k1.1.rs;have k3:=k1.1.sc;have k5:=(Al (ZB w (C4 w))).1;have k6:=a.sc;simp only;refine⟨⟨k1.1.W,k1.1.wl,k1.1.C,k1.1.pl,k1.1.sp,k1.1.ol,k1.1.o,k1.1.tk,k1.1.tl,k1.1.q,k1.1.us,k1.1.mu, ?_,k1.1.rk, ?_,k1.1.r0⟩, ?_⟩;simp only[HC];omega;simp only[HC];unfold Bj at *;omega;intro _;simp only[HC];omega
 |some k =>simp only[hb]at e;have:=(Lo.1 hb).1;simp[e]at this
 have e:B1 w=(w,M,0):=by rw[B1,if_neg b]
 rw[e];exact⟨a,λh=>by cases h⟩
def Cc(w:Z7):Nat->Z7|0=>w|k+1=>(B1 (Cc w k)).1
def RD(w:Z7):Nat:=1000002+w.old.length
def Ep(w:Z7)(k:Nat):Bool:=O ((B1 (Cc w k)).2.2≠0\/(B1 (Cc w k)).2.1=M)
def Bz(w:Z7):Z7×Int:=match (Lg (RD w)).find? (Ep w)with|none=>(w,0)|some k=>if(B1 (Cc w k)).2.2=0 then((B1 (Cc w k)).1,0)else(H3,(B1 (Cc w k)).2.2)
def IW{w}(c:Bb w):∀k,(∀j,j<k->Ep w j=M)->Bb (Cc w k)/\(Cc w k).D=w.D+k
 |0,_=>⟨c,by simp[Cc]⟩
 |k+1,h=>by
  have d:=IW c k (λj hj=>h j oq);have a:=h k oq;simp only[Ep,decide_eq_false_iff_not,not_or,Ly]at a;have b:=PN d.1 a.1;refine⟨b.1, ?_⟩;have:=b.2 (by simpa using a.2);simp only[Cc];omega
def SC{w}(a:Bb w):∃k,(Lg (RD w)).find? (Ep w)=Lb k:=by
 cases hb:(Lg (RD w)).find? (Ep w)with
 |some k=>exact⟨k,rfl⟩
 |none =>
  exfalso;have b:∀j,j<1000001->Ep w j=M:=λj hj=>by(have:=Lr.1 hb j (Lp.2 (by unfold RD;omega));simpa using this)
  have k:=IW a 1000001 b;have h1:=k.1.sc;have h2:=k.1.mu;have h3:=a.sc;omega
def Dc(w:Z7):Tg:=⟨tm 21 [(1,.pt 8001 0 0),(2,.pt 8002 0 0),(3,nI 0)],[(8002,.box 138 zW),(8001,.box 138 w.cells)],60⟩
section
variable(w:Z7)(a:Bb w)
include a
theorem Za4(e:(B1 w).2.2=0)(m:(B1 w).2.1=Y):CP (Zm f84 0) (Dc w).st .nrm (Dc (B1 w).1).st:=by exact sF [] []<|Fc 9 (@Z33 w aa)<|Ffb 14 ((B1 w).2.2 != 0)<|Ffb 19 (!(B1 w).2.1) Fz
theorem ZbW(e:(B1 w).2.2=0)(m:(B1 w).2.1=M):CP (Zm f84 0) (Dc w).st .ret (Tg.st ⟨tm 21 [(2,.pt 8002 0 0),(3,nI 0)],[(8002,.box 138 (B1 w).1.cells)],60⟩):=by exact sF [] []<|Fc 9 (@Z33 w aa)<|Ffb 14 ((B1 w).2.2 != 0)<|Ftb 19 (!(B1 w).2.1) Fz
theorem ZcZ(e:¬ (B1 w).2.2=0):CP (Zm f84 0) (Dc w).st .ret (Tg.st ⟨tm 21 [(2,.pt 8002 0 0),(3,nI (B1 w).2.2)],[(8002,.box 138 zW)],60⟩):=by exact sF [] []<|Fc 9 (@Z33 w aa)<|Ftb 14 ((B1 w).2.2 != 0) Fz
theorem Zbn k(h:(Lg (RD w)).find? (Ep w)=Lb k)(e:(B1 (Cc w k)).2.2=0):CP (Zi f84 0) (Tg.st ⟨tm 21 [(1,.pt 8001 0 0),(2,.pt 8002 0 0),(3,nI 0)],[(8002,.box 138 zW),(8001,.box 138 w.cells)],60⟩) .ret (Tg.st ⟨tm 21 [(2,.pt 8002 0 0),(3,nI 0)],[(8002,.box 138 (B1 (Cc w k)).1.cells)],60⟩):=by
 obtain⟨f,h2,g⟩:=Lo.1 h;have b:∀j,j<k->Ep w j=M:=λj c=>by simpa using g j c
 have m:(B1 (Cc w k)).2.1=M:=by(simp only[Ep,decide_eq_true_eq,e]at f;simpa using f)
 exact EJ (S:=λk=>(Dc (Cc w k)).st) k kr (λj c=>by
  have d:=b j c;simp only[Ep,decide_eq_false_iff_not,not_or,Ly]at d;exact Za4 _ (IW a j λi hi=>b i oq).1 d.1 (by simpa using d.2)) (ZbW _ (IW a k b).1 e m)
theorem Zkq k(g:(Lg (RD w)).find? (Ep w)=Lb k)(e:¬ (B1 (Cc w k)).2.2=0):CP (Zi f84 0) (Tg.st ⟨tm 21 [(1,.pt 8001 0 0),(2,.pt 8002 0 0),(3,nI 0)],[(8002,.box 138 zW),(8001,.box 138 w.cells)],60⟩) .ret (Tg.st ⟨tm 21 [(2,.pt 8002 0 0),(3,nI (B1 (Cc w k)).2.2)],[(8002,.box 138 zW)],60⟩):=by
 obtain⟨h1,h2,f⟩:=Lo.1 g;have b:∀j,j<k->Ep w j=M:=λj c=>by simpa using f j c
 exact EJ (S:=λk=>(Dc (Cc w k)).st) k kr (λj c=>by
  have d:=b j c;simp only[Ep,decide_eq_false_iff_not,not_or,Ly]at d;exact Za4 _ (IW a j λi hi=>b i oq).1 d.1 (by simpa using d.2)) (ZcZ _ (IW a k b).1 e)
theorem Z3n:GP 84 [w.av] M (.tu [(Bz w).1.av,nI (Bz w).2]) []:=by
 obtain⟨k,c⟩:=SC a;by_cases e:(B1 (Cc w k)).2.2=0;have b:Bz w=((B1 (Cc w k)).1,0):=by rw[Bz,c];simp only[if_pos e]
 rw[b];exact gF [] func84 []<|Fu (@Zbn w aa k aa aa) Fz;have b:Bz w=(H3,(B1 (Cc w k)).2.2):=by rw[Bz,c];simp only[if_neg e]
 rw[b];exact gF [] func84 []<|Fu (@Zkq w aa k aa aa)<|Fnl (Fnl (Fnl (Fnl (Fnl Fz))))
omit a in
theorem Zfx(a:Bb w)(e:(Bz w).2=0):Bb (Bz w).1:=by
 obtain⟨k,b⟩:=SC a;obtain⟨h1,h2,f⟩:=Lo.1 b;have d:∀j,j<k->Ep w j=M:=λj g=>by simpa using f j g
 unfold Bz at e⊢;rw[b]at e⊢;simp only at e⊢;split at e;rename_i c;rw[if_pos c];exact(PN (IW a k d).1 c).1;rename_i c;exact absurd e c
end
def Zl(ws:List Int)(a:Int):Int:=(Z8 (Z1 ws a).1).1.length
def Bq ws(a:Int):0<=Zl ws a/\Zl ws a<=255:=by have:=Gx.1 (AY (Z1 ws a).1);exact⟨this.2.2.1,this.2.2.2.1⟩
def Ap{ws l:List Int}{a b:Int}(h:4096<=a/\a-4096+l.length<=ws.length)(hb:b<a\/a+l.length<=b):Z1 (ZX ws a l).1 b=Z1 ws b:=by
 unfold ZX;rw[if_pos h];have d:(Ck ws (a-4096).toNat l).length=ws.length:=NI oq;unfold Z1;simp only[d];split;have:=AR (ws:=ws) (l:=l) (i:=(a-4096).toNat) (k:=l.length) oq (Lt _) (b-4096).toNat
 rw[Pg]at this;rw[Lc,Lc,this];by_cases c:(b-4096).toNat<(a-4096).toNat
 rw[if_pos c];rw[if_neg c,if_neg oq];rfl
def SH{ws l:List Int}{a b:Int}(h:4096<=a/\a-4096+l.length<=ws.length)(hb:a<=b/\b<a+l.length):Z1 (ZX ws a l).1 b=(l.getD (b-a).toNat 0,0):=by
 unfold ZX;rw[if_pos h];have c:(Ck ws (a-4096).toNat l).length=ws.length:=NI oq;unfold Z1;simp only[c];rw[if_pos oq];have:=AR (ws:=ws) (l:=l) (i:=(a-4096).toNat) (k:=l.length) oq (Lt _) (b-4096).toNat
 rw[Pg]at this;rw[Lc,Lc,this,if_neg oq,if_pos oq,show(b-4096).toNat-(a-4096).toNat=(b-a).toNat by omega]
def AN{ws:List Int}{a v:Int}(h:4096<=a/\a<4096+ws.length):(BR ws a v).1.length=ws.length:=by unfold BR ZX;rw[if_pos qo];exact NI qo
theorem Gj{ws:List Int}{a b v:Int}(h:4096<=a/\a<4096+ws.length)(hb:b≠a):Z1 (BR ws a v).1 b=Z1 ws b:=
 Ap qo qo
theorem RH{ws:List Int}{a v:Int}(h:4096<=a/\a<4096+ws.length):Z1 (BR ws a v).1 a=(v,0):=by have:=SH (ws:=ws) (l:=[v]) (a:=a) (b:=a) qo qo;rw[BR,this];simp
theorem Sj{ws:List Int}{a b n:Int}(hn:1<=n)(ha:4096<=a/\a-4096+n<=ws.length)(e:4096<=b/\b-4096+n<=ws.length) :(moveA ws a b n).1.length=ws.length/\Z1 (moveA ws a b n).1 a=((Z1 ws b).1,0)/\∀x,x<a\/a+n<=x->Z1 (moveA ws a b n).1 x=Z1 ws x:=by
 have c:BS ws b n=((ws.drop (b-4096).toNat).take n.toNat,0):=by rw[BS,if_neg oq,if_pos e]
 have d:moveA ws a b n=ZX ws a ((ws.drop (b-4096).toNat).take n.toNat):=by rw[moveA,c];simp
 have hl:((ws.drop (b-4096).toNat).take n.toNat).length=n.toNat:=by simp;omega
 rw[d];refine⟨?_, ?_, ?_⟩;unfold ZX;rw[if_pos oq];exact NI oq;rw[SH oq oq];congr 1;unfold Z1;rw[if_pos oq];simp only[Lc,Int.sub_self,Int.toNat_zero];rw[List.getElem?_take_of_lt oq,Lz];simp;intro x hx;exact Ap oq oq
def Zlb(a:Int):(Z8 (4*a+2)).1.length=0:=by unfold Z8;rw[if_neg];rfl;rintro⟨c,b⟩;unfold Zy at c b;split at b;simp only[G0]at b;omega;simp only at b;omega
def C2(p:Z0):Int:=if p.K=0 then 0 else p.U
structure BA (w:Z7):Prop where
 L:(w.j.W.length:Int)=w.j.C.pw*w.j.C.pg
 r:∀a∈w.old++w.Q,4096<=a/\a+Zl w.j.W a<4096+w.j.W.length
 s:∀a∈w.old++w.Q,∀b∈w.old++w.Q,a<b->a+Zl w.j.W a<b
 f:∀i:Nat,i<w.j.P.length->(w.j.P.getD i X).K=0\/(i:Int)∈w.T->∀a∈w.old++w.Q,a+Zl w.j.W a<4096+i*w.j.C.pw+C2 (w.j.P.getD i X)\/4096+i*w.j.C.pw+w.j.C.pw<=a
 z:∀x∈w.old,(w.j.P.getD (Z4 w.j.C x).1.toNat X).K=2\/Zl w.j.W x+1<=w.j.C.pw
def BA.withWords{w}(h:BA w){l:List Int}(hl:l.length=w.j.W.length)(d:∀a∈w.old++w.Q,Zl l a<=Zl w.j.W a):BA ⟨⟨w.j.C,l,w.j.P,w.j.S,w.j.B⟩,w.old,w.T,w.Q,w.D,w.rep⟩:=by refine⟨?_, ?_, ?_, ?_, ?_⟩;simp only[hl];exact h.L;intro a c;have e:=h.r a c;have f:=d a c;simp only[hl];omega;intro a c b k g;have e:=h.s a c b k g;have f:=d a c;simp only;omega;intro i hi m a c;have e:=h.f i hi m a c;have f:=d a c;simp only at *;omega;intro x j;have e:=h.z x j;have f:=d x (Lq _ j);simp only at *;omega
def BA.keep{w}(h:BA w){r:Int}(g:r∈w.old):BA (w.keep r):=by
 have d:∀a,a∈w.old++(w.Q++[r])->a∈w.old++w.Q:=by(intro a c;simp only[Ls,LA]at c⊢;rcases c with c|c|rfl;exact Le c;exact Ld c;exact Le g)
 exact⟨h.L,λa c=>h.r a (d a c),λa c b e=>h.s a (d a c) b (d b e),λi hi f a c=>h.f i hi f a (d a c),h.z⟩
def BA.flip{w}(h:BA w) i:BA (w.flip i):=by
 have e:∀j,((ZI w.j.P i (ZE w.j.P i) (1-w.j.S)).getD j X).K=(w.j.P.getD j X).K/\((ZI w.j.P i (ZE w.j.P i) (1-w.j.S)).getD j X).U=(w.j.P.getD j X).U:=by(intro j;by_cases b:j<w.j.P.length;rw[HG b];split;exact⟨rfl,rfl⟩;exact⟨rfl,rfl⟩;rw[Lc,Lc,Lw (by rw[Ho];omega),Lw oq];exact⟨rfl,rfl⟩)
 refine⟨h.L,h.r,h.s, ?_, ?_⟩;intro j b d a c;simp only[Z7.flip,Ho,C2,e]at b d c⊢;exact h.f j b d a c;intro x f;simp only[Z7.flip,e];exact h.z x f
def P3{w}{n:Int}(hw:Bb w)(hn:1<=n/\n<=w.j.C.pw)(h:(w.place n).2.2=Y) :∃(i:Nat) (p:Z0) (t:List Int),i<w.j.P.length/\((w.j.P.getD i X).K=0\/((i:Int)∈w.T/\(w.j.P.getD i X).K=1))/\p.K=1/\p.U=C2 (w.j.P.getD i X)+n/\C2 (w.j.P.getD i X)+n<=w.j.C.pw/\0<=C2 (w.j.P.getD i X)/\(∀x∈t,x∈w.T\/x=(i:Int))/\(w.place n).2.1=4096+i*w.j.C.pw+C2 (w.j.P.getD i X) /\
  (w.place n).1=⟨⟨w.j.C,w.j.W,w.j.P.set i p,w.j.S,w.j.B⟩,w.old,t,w.Q,w.D,w.rep⟩:=by
 have hb:=BI.1 hw.C;have hpl:=hw.pl;by_cases hf:Em w n;have e:w.place n=(⟨⟨w.j.C,w.j.W,Cw w.j.P (ZH w).toNat n,w.j.S,w.j.B⟩,w.old,w.T,w.Q,w.D,w.rep⟩,4096+ZH w*w.j.C.pw+(w.j.P.getD (ZH w).toNat X).U,Y):=by rw[Z7.place,if_pos hf]
 unfold Em at hf;have hm:=hw.tk _ (Hc hf.1);have hu:=hw.us (ZH w).toNat oq;have hk:=hm.2.2;have hup:C2 (w.j.P.getD (ZH w).toNat X)=(w.j.P.getD (ZH w).toNat X).U:=by rw[C2,if_neg oq]
 have hc:(((ZH w).toNat:Nat):Int)=ZH w:=by omega
 refine⟨(ZH w).toNat,⟨(w.j.P.getD (ZH w).toNat X).K,(w.j.P.getD (ZH w).toNat X).S,(w.j.P.getD (ZH w).toNat X).U+n,(w.j.P.getD (ZH w).toNat X).N⟩,w.T,by omega,Ld ⟨by rw[hc];exact Hc hf.1,hk⟩,hk,by rw[hup],by rw[hup];omega,by rw[hup];omega,λx hx=>Le hx, ?_, ?_⟩;rw[e,hup,hc];rw[e];rfl;by_cases hg:0<=ZR w;have e:w.place n=(⟨⟨w.j.C,w.j.W,Cw (G4 w) (ZR w).toNat n,w.j.S,w.j.B⟩,w.old,w.T++[ZR w],w.Q,w.D,w.rep⟩,4096+ZR w*w.j.C.pw,Y):=by rw[Z7.place,if_neg hf,if_pos hg]
 obtain⟨f1,f2,f3,f4⟩:=R5 (h:=⟨w.j.C,w.j.W,w.j.P,1-w.j.S,w.j.B⟩) (by have:=hw.sp;simp only;omega) hg;obtain⟨g1,g2,g3⟩:=I8 hg;simp only at f1 f2 f3 f4;have hi:(ZR w).toNat<w.j.P.length:=by unfold ZR;omega
 have hk:(w.j.P.getD (ZR w).toNat X).K=0:=by(have:=Si.1 g3 0 dd;simpa[ZR]using this)
 have hup:C2 (w.j.P.getD (ZR w).toNat X)=0:=by rw[C2,if_pos hk]
 have hc:(((ZR w).toNat:Nat):Int)=ZR w:=by omega
 have hq:Cw (G4 w) (ZR w).toNat n=w.j.P.set (ZR w).toNat ⟨1,1-w.j.S,n,0⟩:=by
  unfold Cw;have e4:(G4 w).getD (ZR w).toNat X=⟨1,1-w.j.S,0,0⟩:=f4;rw[e4];have e1:G4 w=w.j.P.set (ZR w).toNat ⟨1,1-w.j.S,0,0⟩:=by(have:G4 w=ZN w.j.P (ZR w).toNat 1 ⟨1,1-w.j.S,0,0⟩ ⟨0,0,0,0⟩:=f1;rw[this,Z1s hi])
  rw[e1,Xh];simp
 refine⟨(ZR w).toNat,⟨1,1-w.j.S,n,0⟩,w.T++[ZR w],hi,Le hk,rfl,by rw[hup];simp,by rw[hup];omega,by rw[hup];decide, ?_, ?_, ?_⟩;intro x hx;simp only[Ls,LA]at hx;rcases hx with hx|rfl;exact Le hx;exact Ld hc.symm;rw[e,hup,hc];simp;rw[e,hq];rw[Z7.place,if_neg hf,if_neg hg]at h;simp at h
def EU{i j pw:Int}(h:i<j)(a:0<=pw):i*pw+pw<=j*pw:=by have:=LI (show i+1<=j by omega) a;rw[LH,Int.one_mul]at this;exact this
def BA.copy{w}(hw:Bb w)(h:BA w){r n:Int}(hr:r∈w.old)(hn:n=Zl w.j.W r+1)(hp:n<=w.j.C.pw)(hc:(w.place n).2.2=Y):BA ((w.place n).1.copy r (w.place n).2.1 n):=by
 have a9:=Bq w.j.W r;obtain⟨i,p,t,z,k,h3,h4,h5,h6,h7,h8,e⟩:=P3 hw ⟨by omega,hp⟩ hc;have hb:=BI.1 hw.C;have b1:=hw.pl;have hL:=h.L;have a7:(i:Int)*w.j.C.pw+w.j.C.pw<=w.j.C.pw*w.j.C.pg:=by(have:=EU (i:=i) (j:=w.j.C.pg) (pw:=w.j.C.pw) oq oq;rw[Ll w.j.C.pw];exact this)
 have a6:0<=(i:Int)*w.j.C.pw:=Lu oq oq;rw[e,h8];generalize hu:C2 (w.j.P.getD i X)=u at *;generalize ha:4096+(i:Int)*w.j.C.pw+u=at';have b2:=h.r r (Lq _ hr);have o:=h.f i z (by rcases k with k|k;exact Le k;exact Ld k.1);rw[hu]at o;obtain⟨m1,m2,m3⟩:=Sj (ws:=w.j.W) (a:=at') (b:=r) (n:=n) oq oq oq;have a5:=o r (Lq _ hr);have a1:r≠at':=by omega
 have g:4096<=r/\r<4096+(moveA w.j.W at' r n).1.length:=by omega
 have k1:∀a∈w.old++w.Q,Zl (BR (moveA w.j.W at' r n).1 r (4*at'+2)).1 a<=Zl w.j.W a:=by
  intro a c;have a4:=o a c;have a8:=Bq w.j.W a;by_cases hk:a=r;subst hk;have:Zl (BR (moveA w.j.W at' a n).1 a (4*at'+2)).1 a=0:=by(unfold Zl;rw[RH g];exact Zlb at')
  omega;have:Zl (BR (moveA w.j.W at' r n).1 r (4*at'+2)).1 a=Zl w.j.W a:=by(unfold Zl;rw[Gj g hk,m3 a oq])
  omega
 have k2:Zl (BR (moveA w.j.W at' r n).1 r (4*at'+2)).1 at'=n-1:=by
  have:Zl (BR (moveA w.j.W at' r n).1 r (4*at'+2)).1 at'=Zl w.j.W r:=by(unfold Zl;rw[Gj g (Ne.symm a1),m2])
  omega
 have l:(BR (moveA w.j.W at' r n).1 r (4*at'+2)).1.length=w.j.W.length:=by rw[AN g,m1]
 have d:∀a,a∈w.old++(w.Q++[at'])->a∈w.old++w.Q\/a=at':=by(intro a c;simp only[Ls,LA]at c⊢;rcases c with c|c|c;exact Le (Le c);exact Le (Ld c);exact Ld c)
 refine⟨?_, ?_, ?_, ?_, ?_⟩;simp only[Z7.copy,l];exact hL;intro a c;simp only[Z7.copy,l]at c⊢;rcases d a c with c|rfl;have m:=h.r a c;have s:=k1 a c;omega;rw[k2];omega;intro a c b hB a0;simp only[Z7.copy]at c hB⊢;rcases d a c with hA'|e1<;>rcases d b hB with hB'|e2;have m:=h.s a hA' b hB' a0;have s:=k1 a hA';omega;have m:=o a hA';have s:=k1 a hA';omega;have m:=o b hB';have s:=Bq w.j.W b;rw[e1,k2];omega;omega;intro j hj f a c;simp only[Z7.copy,Lx]at hj f c⊢;by_cases y:i=j;subst y;rw[Cq z,if_pos rfl];have a2:C2 p=u+n:=by rw[C2,if_neg oq,h4]
 rw[a2];rcases d a c with c|rfl;have m:=o a c;have s:=k1 a c;omega;rw[k2];omega;rw[Cq z,if_neg y]at f⊢;have v:(w.j.P.getD j X).K=0\/(j:Int)∈w.T:=by(rcases f with f|f;exact Le f;rcases h7 _ f with q|q;exact Ld q;omega)
 rcases d a c with c|rfl;have m:=h.f j hj v a c;have s:=k1 a c;omega;rw[k2];have b3:0<=C2 (w.j.P.getD j X):=by(have:=hw.us j hj;unfold C2;split<;>omega)
 by_cases b0:i<j;have:=EU (i:=i) (j:=j) (pw:=w.j.C.pw) oq oq;omega;have:=EU (i:=j) (j:=i) (pw:=w.j.C.pw) oq oq;omega;intro x hx;simp only[Z7.copy]at hx⊢;have m:=h.z x hx;have s:=k1 x (Lq _ hx);rw[Cq z];split;rename_i a3;rw[<-a3]at m;rcases k with k|k<;>omega;omega
structure GB (w v:Z7):Prop where
 c:v.j.C=w.j.C
 o:v.old=w.old
 q:∀x∈w.Q,x∈v.Q
 l:∀x∈w.Q,Zl v.j.W x=Zl w.j.W x
def GB.rfl' w:GB w w:=⟨rfl,rfl,λ_ h=>h,λ_ _=>rfl⟩
def GB.trans{u v w}(a:GB u v)(b:GB v w):GB u w:=
 ⟨b.c.trans a.c,b.o.trans a.o,λx c=>b.q x (a.q x c),λx c=>(b.l x (a.q x c)).trans (a.l x c)⟩
def GX w r:Z5 (ZB w r)=Zl w.j.W r+1:=by have a:ZU (ZB w r)=Y:=AY _;rw[Z5,if_pos a];rfl
def Zbz{w}(g:Bb w)(h:BA w){r n:Int}(hr:r∈w.old)(hq:r∉w.Q)(hn:n=Zl w.j.W r+1)(hp:n<=w.j.C.pw)(o:(w.place n).2.2=Y):GB w ((w.place n).1.copy r (w.place n).2.1 n):=by
 have z:=Bq w.j.W r;obtain⟨i,p,t,l,c,h3,h4,h5,h6,h7,m,e⟩:=P3 g ⟨by omega,hp⟩ o;have hb:=BI.1 g.C;have a1:=g.pl;have hL:=h.L;have y:(i:Int)*w.j.C.pw+w.j.C.pw<=w.j.C.pw*w.j.C.pg:=by(have:=EU (i:=i) (j:=w.j.C.pg) (pw:=w.j.C.pw) oq oq;rw[Ll w.j.C.pw];exact this)
 have v:0<=(i:Int)*w.j.C.pw:=Lu oq oq;rw[e,m];generalize hu:C2 (w.j.P.getD i X)=u at *;generalize ha:4096+(i:Int)*w.j.C.pw+u=at';have a2:=h.r r (Lq _ hr);have k:=h.f i l (by rcases c with c|c;exact Le c;exact Ld c.1);rw[hu]at k;obtain⟨m1,m2,m3⟩:=Sj (ws:=w.j.W) (a:=at') (b:=r) (n:=n) oq oq oq;have f:4096<=r/\r<4096+(moveA w.j.W at' r n).1.length:=by omega
 refine⟨rfl,rfl,λx d=>Lq _ d, ?_⟩;intro x d;have s:=k x (LK _ d);have a0:=Bq w.j.W x;simp only[Z7.copy];unfold Zl at *;rw[Gj f (λq=>hq (q▸d)),m3 x oq]
def NE{w}(l:Bb w)(h:BA w) r(e:(w.fwd r).2.2=0):BA (w.fwd r).1/\GB w (w.fwd r).1:=by
 unfold Z7.fwd at e⊢;split at e;rename_i c1;rw[if_pos c1];exact⟨h,GB.rfl' w⟩;rename_i c1;rw[if_neg c1];have f:r∉w.Q:=λh=>c1 (Ld h);split at e;simp at e;rename_i c2;rw[if_neg c2];have a:r∈w.old:=Ly.1 c2;split at e;rename_i c3;rw[if_pos c3];exact⟨h,GB.rfl' w⟩;rename_i c3;rw[if_neg c3];split at e;simp at e;rename_i c4;rw[if_neg c4];split at e;rename_i g;rw[if_pos g];exact⟨h.keep a,⟨rfl,rfl,λx i=>Lq _ i,λ_ _=>rfl⟩⟩;rename_i g;rw[if_neg g];split at e;rename_i d;rw[if_pos d];exact⟨(h.flip _).keep a,⟨rfl,rfl,λx i=>Lq _ i,λ_ _=>rfl⟩⟩;rename_i d;rw[if_neg d];split at e;simp at e;rename_i j;rw[if_neg j];have b:(w.place (Z5 (ZB w r))).2.2=Y:=by simpa using j
 have c:=h.z r a;have k:Z5 (ZB w r)<=w.j.C.pw:=by(rw[GX];rcases c with c|c;exact absurd c d;exact c)
 exact⟨h.copy l a (GX w r) k b,Zbz l h a f (GX w r) k b⟩
def Z53{w}(n:Bb w)(h:BA w){q j:Int}(k:q∈w.Q)(hj:0<=j/\j<Zl w.j.W q)(e:(w.fwd (Z1 w.j.W (q+1+j)).1).2.2=0):BA (w.in1 (q+1+j))/\GB w (w.in1 (q+1+j)):=by
 obtain⟨f,g⟩:=NE n h _ e;have c:=g.q q k;have l:=g.l q k;have hr:=f.r q (LK _ c);have m:=f.s q (LK _ c);have b:4096<=q+1+j/\q+1+j<4096+(w.fwd (Z1 w.j.W (q+1+j)).1).1.j.W.length:=by omega
 have i:∀a∈(w.fwd (Z1 w.j.W (q+1+j)).1).1.old++(w.fwd (Z1 w.j.W (q+1+j)).1).1.Q,Zl (BR (w.fwd (Z1 w.j.W (q+1+j)).1).1.j.W (q+1+j) (w.fwd (Z1 w.j.W (q+1+j)).1).2.1).1 a=Zl (w.fwd (Z1 w.j.W (q+1+j)).1).1.j.W a:=by(intro a d;unfold Zl;rw[Gj b];intro hc;have:=m a d oq;omega)
 refine⟨f.withWords (AN b) (λa d=>Int.le_of_eq (i a d)),g.trans ⟨rfl,rfl,λ_ h=>h,λx o=>i x (LK _ o)⟩⟩
def NZ(h:Zz):∀x∈Zk h,0<=x/\x<h.length:=by unfold Zk;split;intro x a;have:=Ac h _ x a;omega;simp
def Td{w}(c:Bb w)(h:BA w){q:Int}(b:q∈w.Q){l:List Int}(hl:∀x∈l,0<=x/\x<Zl w.j.W q):∀k,k<=l.length->(∀j,j<k->CL w q l j=0)->BA (Bg w q l k)/\GB w (Bg w q l k)
 |0,_,_=>⟨h,GB.rfl' w⟩
 |k+1,hk,he=>by
  have a:=Td c h b hl k oq (λj e=>he j oq);have ok:=(NC c q l k (λj e=>he j oq)).1;have d:=hl _ (ZT.2 ⟨k,by omega,rfl⟩);have:=Z53 ok a.1 (a.2.q q b) (j:=l.getD k X) ⟨d.1,by rw[a.2.l q b];exact d.2⟩ (he k oq);exact⟨this.1,a.2.trans this.2⟩
def Z1r{w}(c:Bb w)(h:BA w)(e:(B1 w).2.2=0):BA (B1 w).1/\GB w (B1 w).1:=by
 by_cases b:w.D<w.Q.length;have i:=c.sc;have g:C4 w∈w.Q:=ZT.2 ⟨w.D.toNat,by omega,rfl⟩;unfold B1 at e⊢;rw[if_pos b]at e⊢;cases hb:(Lg (Bj w).length).find? (λk=>O (CL w (C4 w) (Bj w) k≠0))with
 |none =>
  have d:∀j,j<(Bj w).length->CL w (C4 w) (Bj w) j=0:=λj f=>by(have:=Lr.1 hb j (Lp.2 f);simpa using this)
  obtain⟨k1,a⟩:=Td c h g (l:=Bj w) (NZ (ZB w (C4 w))) (Bj w).length (Lt _) d;exact⟨⟨k1.L,k1.r,k1.s,k1.f,k1.z⟩,⟨a.c,a.o,a.q,a.l⟩⟩
 |some k =>simp only[hb]at e;have:=(Lo.1 hb).1;simp[e]at this
 have e:B1 w=(w,M,0):=by rw[B1,if_neg b]
 rw[e];exact⟨h,GB.rfl' w⟩
def DD{w}(b:Bb w)(h:BA w):∀k,(∀j,j<k->Ep w j=M)->BA (Cc w k)/\GB w (Cc w k)
 |0,_=>⟨h,GB.rfl' w⟩
 |k+1,hh=>by
  have c:=DD b h k (λj d=>hh j oq);have ok:=(IW b k (λj d=>hh j oq)).1;have a:=hh k oq;simp only[Ep,decide_eq_false_iff_not,not_or,Ly]at a;have:=Z1r ok c.1 a.1;exact⟨this.1,c.2.trans this.2⟩
def ZaO{w}(a:Bb w)(h:BA w)(e:(Bz w).2=0):BA (Bz w).1/\GB w (Bz w).1:=by
 obtain⟨k,d⟩:=SC a;obtain⟨h1,h2,i⟩:=Lo.1 d;have b:∀j,j<k->Ep w j=M:=λj l=>by simpa using i j l
 unfold Bz at e⊢;rw[d]at e⊢;simp only at e⊢;split at e;rename_i c;rw[if_pos c];have f:=DD a h k b;have g:=Z1r (IW a k b).1 f.1 c;exact⟨g.1,f.2.trans g.2⟩;rename_i c;exact absurd e c
def PL{w roots}(a:Bb w)(h:BA w):∀k,(∀j,j<k->E8 w roots j=0)->BA (rootsN w roots k).1/\GB w (rootsN w roots k).1
 |0,_=>⟨h,GB.rfl' w⟩
 |k+1,hh=>by
  have b:=PL a h k (λj c=>hh j oq);have ok:=(Ah (roots:=roots) a k (λj c=>hh j oq)).1;have:=NE ok b.1 (roots.getD k X) (hh k oq);exact⟨this.1,b.2.trans this.2⟩
def Sq{w roots}(b:Bb w)(h:BA w)(e:(rootsF w roots).2.2=0):Bb (rootsF w roots).1/\BA (rootsF w roots).1/\GB w (rootsF w roots).1/\(∀x∈(rootsF w roots).2.1,0<=x/\x<=4294967296)/\(rootsF w roots).2.1.length=roots.length:=by
 unfold rootsF at e⊢;cases hb:(Lg roots.length).find? (λk=>O (E8 w roots k≠0))with
 |none =>
  have a:∀j,j<roots.length->E8 w roots j=0:=λj d=>by(have:=Lr.1 hb j (Lp.2 d);simpa using this)
  have k1:=Ah (roots:=roots) b roots.length a;have c:=PL (roots:=roots) b h roots.length a;exact⟨k1.1,c.1,c.2,k1.2.1,N0 w roots _⟩
 |some k =>simp only[hb]at e;have:=(Lo.1 hb).1;simp[e]at this
def Z2p sp:∀(l:List Z0) (m:Nat),m<EN sp l->m<l.length/\(l.getD m X).K=3/\(l.getD m X).S=sp
 |[],m,h=>by simp[EN]at h
 |p::l,m,h=>by
  unfold EN at h;split at h
  .rename_i b;cases m with
   |zero=>exact⟨by simp,b⟩
   |succ m =>
    obtain⟨h1,a⟩:=Z2p sp l m oq;exact⟨by simp;omega,by simpa using a⟩
  .omega
def Pb{c n}(h:1<=need c n):n<=need c n*c.pw:=by unfold need at h⊢;split at h;rename_i a;rw[if_pos a];have hb:=BI.1 a.1;split at h;omega;rename_i d;rw[if_neg d];have e:=LZ (n+c.pw-1) c.pw;have l:=LY (n+c.pw-1) (b:=c.pw) oq;rw[Ll]at e;omega;omega
def Z8r{h:Heap}(i:Z9 h=Y){j:Nat}(f:j<h.P.length)(g:(h.P.getD j X).K=2) :1<=need h.C (h.P.getD j X).U/\∀m:Nat,1<=m->(m:Int)<need h.C (h.P.getD j X).U->j+m<h.P.length/\(h.P.getD (j+m) X).K=3/\(h.P.getD (j+m) X).S=(h.P.getD j X).S:=by
 have hi:=Iw.1 i;obtain⟨d,_,e⟩:=Z6s oq hi.2.2.2.2.2 oq j oq f;have k:=e.2.2.2.2.2.2.2.2.2.1 g;refine⟨k.1, ?_⟩;intro m h1 h2;obtain⟨b,a⟩:=Z2p (h.P.getD j X).S (h.P.drop (j+1)) (m-1) oq;have c:j+m<h.P.length:=by simp at b;omega
 refine⟨c, ?_⟩;have:(h.P.drop (j+1)).getD (m-1) X=h.P.getD (j+m) X:=by(rw[Lc,Lc,Lz,show j+1+(m-1)=j+m by omega])
 rw[this]at a;exact a
def Z18{h:Heap}(b:Z9 h=Y){j:Nat}(c:j<h.P.length)(a:(h.P.getD j X).K=1\/(h.P.getD j X).K=2):(j:Int)*h.C.pw+(h.P.getD j X).U<=h.C.pw*h.C.pg:=by
 have po:=B6 b;have pp:=En b c;rcases a with a|a;have:=EU (i:=j) (j:=h.C.pg) (pw:=h.C.pw) oq oq;rw[Ll h.C.pg]at this;omega;obtain⟨t1,t2⟩:=Z8r b c a;have nu:=Pb t1;have d:(j:Int)+need h.C (h.P.getD j X).U<=h.C.pg:=by(by_cases h1:need h.C (h.P.getD j X).U=1;omega;have:=(t2 (need h.C (h.P.getD j X).U-1).toNat oq oq).1;omega)
 have:=LI d (show 0<=h.C.pw by omega);rw[LH,Ll h.C.pg]at this;omega
def D2{h:Heap}(c:Z9 h=Y){i j:Nat}(e:i<j)(hj:j<h.P.length)(a:(h.P.getD i X).K=1\/(h.P.getD i X).K=2)(b:(h.P.getD j X).K≠3):(i:Int)*h.C.pw+(h.P.getD i X).U<=j*h.C.pw:=by
 have po:=B6 c;have pp:=En c (show i<h.P.length by omega);rcases a with a|a;have:=EU (i:=i) (j:=j) (pw:=h.C.pw) oq oq;omega;obtain⟨t1,t2⟩:=Z8r c (show i<h.P.length by omega) a;have nu:=Pb t1;have f:(i:Int)+need h.C (h.P.getD i X).U<=j:=by(by_cases d:(i:Int)+need h.C (h.P.getD i X).U<=j;exact d;have:=(t2 (j-i) oq oq).2;rw[show i+(j-i)=j by omega]at this;exact absurd this.1 b)
 have:=LI f (show 0<=h.C.pw by omega);rw[LH]at this;omega
def Dz{c:B7}{i o:Int}(d:Zv c=Y)(b:0<=i/\i<c.pg)(a:0<=o/\o<c.pw):Z4 c (4096+(i*c.pw+o))=(i,o,0):=by have hb:=BI.1 d;have e:=EU (i:=i) (j:=c.pg) (pw:=c.pw) b.2 oq;have h0:0<=i*c.pw:=Lu b.1 oq;rw[Ll c.pg]at e;unfold Z4;rw[if_pos d,if_pos oq,show 4096+(i*c.pw+o)-4096=o+i*c.pw by omega,Int.add_mul_ediv_right _ _ oq,Int.add_mul_emod_self_right,Int.ediv_eq_zero_of_lt a.1 a.2,Int.emod_eq_of_lt a.1 a.2];simp
structure OnP (h:Heap) (j:Nat) (a:Int):Prop where
 k:(h.P.getD j X).K=1\/(h.P.getD j X).K=2
 lo:4096+j*h.C.pw<=a
 hi:a<4096+j*h.C.pw+h.C.pw
 of:(Z4 h.C a).1=j
 e:a+Zl h.W a<4096+j*h.C.pw+(h.P.getD j X).U
 z:(h.P.getD j X).K=2\/Zl h.W a+1<=h.C.pw
 at':(Z6 h a).2=0
def Z76{h:Heap}{j:Nat}(v:Z9 h=Y)(hj:j<h.P.length)(g:(h.P.getD j X).K=1\/(h.P.getD j X).K=2):∀(f:Nat) (o:Int) (l:List Int),0<=o->((h.P.getD j X).K=2->o=0)->Ew h j f o=Lb l -> (∀a∈l,OnP h j a/\4096+j*h.C.pw+o<=a)/\l.Pairwise (λa b=>a+Zl h.W a<b)
 |0,o,l,_,_,e=>by simp[Ew]at e;subst e;simp
 |f+1,o,l,z,h2,e=>by
  have po:=B6 v;have pp:=En v hj;unfold Ew at e;have x:pg h (j:Int)=h.P.getD j X:=by simp[pg]
  rw[x]at e;split at e
  .rename_i ho;have t:o<h.C.pw:=by
    rcases g with g|g
    .omega
    .have:=h2 g;omega
   have k:Bf h j o=4096+(j*h.C.pw+o):=by
    unfold Bf address;rw[if_pos po.1,if_pos (Ie.2 ⟨by omega,by omega,z,t⟩)]
   have y:=Dz (c:=h.C) (i:=j) (o:=o) po.1 oq ⟨z,t⟩;split at e
   .rename_i p
    have d:=p
    rw[k]at d;have u:Z5 (Z8 (Z1 h.W (4096+(j*h.C.pw+o))).1).1=Zl h.W (4096+(j*h.C.pw+o))+1:=by
     rw[Z5,if_pos (AY _)];rfl
    have a1:=Bq h.W (4096+(j*h.C.pw+o));have n:((h.P.getD j X).K=1->o+(Zl h.W (4096+(j*h.C.pw+o))+1)<=(h.P.getD j X).U)/\((h.P.getD j X).K=2->Zl h.W (4096+(j*h.C.pw+o))+1=(h.P.getD j X).U)/\Z5 (Z6 h (4096+(j*h.C.pw+o))).1=Zl h.W (4096+(j*h.C.pw+o))+1:=by
     unfold Z6 at d⊢;rw[if_pos v]at d⊢;simp only[y,u,if_true,L0]at d⊢;split at d
     .rename_i g1;split at d
      .simp at d
      .rename_i g2;rw[if_pos g1,if_neg g2];refine⟨λa0=>?_,λr=>?_,u⟩
       .omega
       .omega
     .simp at d
    have s:OnP h j (Bf h j o):=by
     refine⟨g, ?_, ?_, ?_, ?_, ?_,p⟩
     .rw[k];omega
     .rw[k];omega
     .rw[k,y]
     .rw[k];rcases g with g|g
      .have:=n.1 g;omega
      .have:=n.2.1 g;have:=h2 g;omega
     .rw[k];rcases g with g|g
      .have:=n.1 g;omega
      .exact Le g
    split at e
    .cases e;simp only[LA,Xf,Xe,List.Pairwise.nil];refine⟨?_,by simp⟩;rintro a rfl;exact⟨s,by rw[k];omega⟩
    .rename_i r;rw[Option.map_eq_some_iff]at e;obtain⟨m,hm,rfl⟩:=e;rw[k,n.2.2]at hm;obtain⟨i1,i2⟩:=Z76 v hj g f _ m oq (λq=>absurd q r) hm;constructor
     .intro a w;rcases Xb.1 w with rfl|w
      .exact⟨s,by rw[k];omega⟩
      .have:=i1 a w;exact⟨this.1,by omega⟩
     .rw[Xf];refine⟨λb hb=>?_,i2⟩;have:=(i1 b hb).2;rw[k];omega
   .cases e
  .cases e;simp
def Z7F{h:Heap}(e:Z9 h=Y):∀(f i:Nat),i+f=h.P.length->(Cp h f i).1.Pairwise (λa b=>a+Zl h.W a<b)/\∀a∈(Cp h f i).1,∃j,i<=j/\j<h.P.length/\OnP h j a
 |0,i,_=>by simp[Cp]
 |f+1,i,hf=>by
  have k:=Z7F e f (i+1) oq;have d:(Ze h i).1.Pairwise (λa b=>a+Zl h.W a<b)/\∀a∈(Ze h i).1,OnP h i a:=by
   unfold Ze;rw[if_pos e,if_pos oq];have p:pg h (i:Int)=h.P.getD i X:=by simp[pg]
   rw[p];split
   .simp
   .rename_i hk;cases hw:Ew h i 256 0 with
    |none=>simp
    |some l =>
     have pp:=En e (show i<h.P.length by omega);obtain⟨w1,w2⟩:=Z76 e (show i<h.P.length by omega) oq 256 0 l oq (λ_=>rfl) hw;exact⟨w2,λa c=>(w1 a c).1⟩
  unfold Cp;split
  .split
   .simp only;constructor
    .rw[List.pairwise_append];refine⟨d.1,k.1,λa c b o=>?_⟩;have n:=d.2 a c;obtain⟨j,q,m,g⟩:=k.2 b o;have:=D2 e (show i<j by omega) m n.k (by have:=g.k;omega);have:=n.e;have:=g.lo;omega
    .intro a c;rcases Ls.1 c with c|c
     .exact⟨i,by omega,by omega,d.2 a c⟩
     .obtain⟨j,q,m,g⟩:=k.2 a c;exact⟨j,by omega,m,g⟩
   .simp
  .simp
def Z8v{h:Heap}(n:Z9 h=Y):(∀a∈(Zb h).1,∃j,j<h.P.length/\OnP h j a)/\∀a∈(Zb h).1,∀b∈(Zb h).1,a<b->a+Zl h.W a<b:=by
 have f:=Z7F n h.P.length 0 oq;have e:CN h=Cp h h.P.length 0:=by rw[CN,if_pos n]
 rw[<-e]at f;have p:∀a∈(Zb h).1,∃j,j<h.P.length/\OnP h j a:=by(intro a d;obtain⟨j,_,u,o⟩:=f.2 a (List.mem_filter.1 d).1;exact⟨j,u,o⟩)
 refine⟨p, ?_⟩;have c:(Zb h).1.Pairwise (λa b=>a+Zl h.W a<b):=List.Pairwise.filter _ f.1;intro a d b s r;obtain⟨i,hi,g⟩:=LO.1 d;obtain⟨k,m,l⟩:=LO.1 s;have t:=Bq h.W b;rcases Nat.lt_trichotomy i k with q|q|q;have:=Xg.1 c i k hi m q;rw[g,l]at this;exact this;subst q;omega;have:=Xg.1 c k i m hi q;rw[g,l]at this;omega
def Se{h:Heap}(d:Z9 h=Y):BA (Zr h):=by
 have q:=B6 d;have e:=Z8v d;have l:∀j,((h.P.map (Zs (1-h.S))).getD j X).K=(h.P.getD j X).K/\((h.P.map (Zs (1-h.S))).getD j X).U=(h.P.getD j X).U:=by
  intro j;by_cases r:j<h.P.length;have:(h.P.map (Zs (1-h.S))).getD j X=Zs (1-h.S) (h.P.getD j X):=by simp[Lc,r]
  rw[this,Zs];split;exact⟨rfl,rfl⟩;exact⟨rfl,rfl⟩;rw[Lc,Lc,Lw qo,Lw oq];exact⟨rfl,rfl⟩
 refine⟨q.2.2.2.2.2.1, ?_, ?_, ?_, ?_⟩;intro a c;simp only[Zr,LN]at c⊢;obtain⟨j,m,o⟩:=e.1 a c;have h1:=o.lo;have h2:=o.e;have h3:=Z18 d m o.k;have h4:0<=(j:Int)*h.C.pw:=Lu oq oq;have h5:=q.2.2.2.2.2.1;omega;intro a c b n f;simp only[Zr,LN]at c n⊢;exact e.2 a c b n f;intro i hi g a c;simp only[Zr,LN,Lk,Xe,or_false]at hi g c⊢;rw[(l i).1]at g;have k:C2 ((h.P.map (Zs (1-h.S))).getD i X)=0:=by rw[C2,(l i).1,if_pos g]
 rw[k];obtain⟨j,m,o⟩:=e.1 a c;have s:=o.k;have u:i≠j:=by rintro rfl;omega
 by_cases t:i<j;have:=EU (i:=i) (j:=j) (pw:=h.C.pw) oq oq;have:=o.lo;omega;have:=D2 d (show j<i by omega) hi s oq;have:=o.e;omega;intro x p;simp only[Zr]at p⊢;obtain⟨j,m,o⟩:=e.1 x p;rw[o.of,L0,(l j).1];exact o.z
def R1{h:Heap}(o:Zx h.W)(g:Z9 h=Y):Bb (Zr h):=by
 have c:=B6 g;have ho:=H6 h;have n:=Iq h;have b:∀j,j<h.P.length->0<=((h.P.map (Zs (1-h.S))).getD j X).U/\((h.P.map (Zs (1-h.S))).getD j X).U<=1024:=by
  intro j a;have pp:=En g a;have:(h.P.map (Zs (1-h.S))).getD j X=Zs (1-h.S) (h.P.getD j X):=by simp[Lc,a]
  rw[this,Zs];split;simp only;omega;omega
 refine⟨o,c.2.2.2.2.2.2.1,c.1,by simp only[Zr,Lk];exact c.2.2.2.2.2.2.2.1,c.2.2.2.2.2.2.2.2,by simp only[Zr];omega,n,by simp[Zr],by simp[Zr],by simp[Zr],by simpa only[Zr,Lk]using b, ?_,by simp[Zr],by simp[Zr],by simp[Zr],by simp[Zr]⟩;simp only[Zr,muW,List.length_nil];have h1:SI (Zb h).1 []<=(Zb h).1.length:=List.length_filter_le _ _;have i:∀l:List Z0,(∀p∈l,Sd h.C.pw p<=64)->NB h.C.pw l<=64*l.length:=by
  intro l;induction l with|nil=>intro _;simp[NB]|cons p l r =>intro f;have:=r λq m=>f q (List.mem_cons_of_mem _ m);have:=f p (List.mem_cons_self);simp only[NB,List.map_cons,List.sum_cons,L6]at *;omega
 have k:=i (h.P.map (Zs (1-h.S))) (by
  intro p d;obtain⟨j,a,e⟩:=LO.1 d;have:=b j (by simpa using a);rw[show(h.P.map (Zs (1-h.S))).getD j X=p by simp only[Lc,Lm a,e];rfl]at this;unfold Sd;split<;>omega)
 simp only[Lk]at k;omega
structure Sb (c:B7) (p:Z0):Prop where
 s:0<=p.S/\p.S<=1
 n:0<=p.N/\p.N<=2147483647
 k:0<=p.K/\p.K<=3
 k0:p.K=0->p.S=0/\p.U=0/\p.N=0
 k1:p.K=1->0<=p.U/\p.U<=c.pw
 k3:p.K=3->p.U=0/\p.N=0
structure PT (c:B7) (l:List Z0):Prop where
 b:∀i,i<l.length->Sb c (l.getD i X)
 lg:∀i,i<l.length->(l.getD i X).K=2->1<=need c (l.getD i X).U/\∀m:Nat,1<=m->(m:Int)<need c (l.getD i X).U->i+m<l.length/\(l.getD (i+m) X).K=3/\(l.getD (i+m) X).S=(l.getD i X).S
 tl:∀i,i<l.length->(l.getD i X).K=3->∃j,j<i/\(l.getD j X).K=2/\(i:Int)<j+need c (l.getD j X).U
def HS(c:B7)(l:List Z0):Nat->Int|0=>0|i+1=>EG c l i (HS c l i)
def Z9H{c}{l:List Z0}:∀{f i:Nat},l.length<=i+f->(Gr c l f i (HS c l i)=Y↔∀j,i<=j->j<l.length->Gp c l j (HS c l j))
 |0,i,h=>by
  simp only[Gr,true_iff];intro j a b;omega
 |f+1,i,h=>by
  unfold Gr;by_cases hi:i<l.length
  .rw[if_pos hi,LX,decide_eq_true_eq,show EG c l i (HS c l i)=HS c l (i+1)from rfl,Z9H (f:=f) (i:=i+1) oq];constructor
   .rintro⟨a,b⟩ j g d;by_cases k:j=i
    .subst k;exact a
    .exact b j oq d
   .intro e;exact⟨e i (Lt _) hi,λj g d=>e j oq d⟩
  .rw[if_neg hi];simp only[true_iff];intro j a b;omega
def Z2D{c l}:∀i,0<=HS c l i->0<HS c l i->∃j,j<i/\(l.getD j X).K=2/\HS c l i=j+need c (l.getD j X).U-i
 |0,_,h=>by simp[HS]at h
 |i+1,h0,h=>by
  simp only[HS,EG]at h0 h⊢;split at h
  .rename_i a;refine⟨i,by omega,a, ?_⟩;rw[if_pos a];omega
  .rename_i a;have h1:1<HS c l i:=by omega
   obtain⟨j,j1,b,j3⟩:=Z2D (c:=c) (l:=l) i oq oq;refine⟨j,by omega,b, ?_⟩;rw[if_neg a];omega
def ZaF(sp:Int):∀(l:List Z0) (k:Nat),(∀m,m<k->m<l.length/\(l.getD m X).K=3/\(l.getD m X).S=sp)->k<=EN sp l
 |_,0,_=>Nat.zero_le _
 |[],k+1,h=>by have:=(h 0 oq).1;simp at this
 |p::l,k+1,h=>by
  have a:=(h 0 oq).2;simp only[List.getD_cons_zero]at a;rw[EN,if_pos a];have:=ZaF sp l k λm hm=>by
   have:=h (m+1) oq;simpa using this
  omega
def PT.due{c l}(h:PT c l){i:Nat}(hi:i<l.length)(a:(l.getD i X).K=2):∀m:Nat,(m:Int)<need c (l.getD i X).U->HS c l (i+1+m)=need c (l.getD i X).U-1-m
 |0,hm=>by
  show EG c l i (HS c l i)=_;rw[EG,if_pos a];omega
 |m+1,hm=>by
  have d:=h.due hi a m oq;have b:=((h.lg i hi a).2 (m+1) oq hm).2.1;show EG c l (i+1+m) (HS c l (i+1+m))=_;rw[EG,show i+1+m=i+(m+1) by omega,if_neg (by rw[b];decide),show i+(m+1)=i+1+m by omega,d];omega
def Z6R{c}{l:List Z0}(h:∀i,i<l.length->(l.getD i X).K=2->1<=need c (l.getD i X).U):∀i,i<=l.length->0<=HS c l i
 |0,_=>Int.le_refl _
 |i+1,hi=>by
  have ih:=Z6R h i oq;simp only[HS,EG];split
  .rename_i a;have:=h i oq a;omega
  .omega
def Zmc{c l}:Gr c l l.length 0 0=Y↔PT c l:=by
 have e:=Z9H (c:=c) (l:=l) (f:=l.length) (i:=0) oq;rw[show HS c l 0=0 from rfl]at e;rw[e];constructor;intro h;have s:∀i,i<l.length->Sb c (l.getD i X):=by(intro i hi;have q:=h i oq hi;unfold Gp at q;exact⟨⟨q.2.1,q.2.2.1⟩,⟨q.2.2.2.1,q.2.2.2.2.1⟩,⟨q.2.2.2.2.2.1,q.2.2.2.2.2.2.1⟩,q.2.2.2.2.2.2.2.1,q.2.2.2.2.2.2.2.2.1,q.2.2.2.2.2.2.2.2.2.2⟩)
 have u:∀i,i<l.length->(l.getD i X).K=2->1<=need c (l.getD i X).U/\∀m:Nat,1<=m->(m:Int)<need c (l.getD i X).U->i+m<l.length/\(l.getD (i+m) X).K=3/\(l.getD (i+m) X).S=(l.getD i X).S:=by
  intro i hi a;have q:=(h i oq hi).2.2.2.2.2.2.2.2.2.1 a;refine⟨q.1, ?_⟩;intro m h1 h2;obtain⟨o,k⟩:=Z2p (l.getD i X).S (l.drop (i+1)) (m-1) oq;have p:i+m<l.length:=by simp at o;omega
  have:(l.drop (i+1)).getD (m-1) X=l.getD (i+m) X:=by(rw[Lc,Lc,Lz,show i+1+(m-1)=i+m by omega])
  rw[this]at k;exact⟨p,k⟩
 refine⟨s,u, ?_⟩;intro i hi a;have q:=(h i oq hi).1.1 a;obtain⟨j,y,z,j3⟩:=Z2D (c:=c) (l:=l) i oq q;exact⟨j,y,z,by omega⟩;intro h j _ d;have b:=h.b j d;have t:=Z6R (λi hi a=>(h.lg i hi a).1) j oq;refine⟨⟨?_, ?_⟩,b.s.1,b.s.2,b.n.1,b.n.2,b.k.1,b.k.2,b.k0,b.k1, ?_,b.k3⟩;intro a;obtain⟨i,w,g,x⟩:=h.tl j d a;have:=h.due (show i<l.length by omega) g (j-i-1) oq;rw[show i+1+(j-i-1)=j by omega]at this;omega;intro v;obtain⟨i,w,g,x⟩:=Z2D j t v;have:=((h.lg i oq g).2 (j-i) oq oq).2.1;rw[show i+(j-i)=j by omega]at this;exact this;intro a;have q:=h.lg j d a;refine⟨q.1, ?_⟩;have:=ZaF (l.getD j X).S (l.drop (j+1)) (need c (l.getD j X).U-1).toNat λm hm=>by
  have r:=q.2 (m+1) oq oq;have n:(l.drop (j+1)).getD m X=l.getD (j+(m+1)) X:=by(rw[Lc,Lc,Lz,show j+1+m=j+(m+1) by omega])
  rw[n];exact⟨by simp;omega,r.2⟩
 omega
def GU{h:Heap}:Z9 h=Y↔Zv h.C=Y/\(h.W.length:Int)=h.C.pw*h.C.pg/\(h.P.length:Int)=h.C.pg/\(h.S=0\/h.S=1) /\ (h.B=-1\/(0<=h.B/\h.B<h.P.length/\(h.P.getD h.B.toNat X).K=1))/\PT h.C h.P:=by rw[Iw,Zmc]
def PT.setPage{c l}(h:PT c l){i:Nat}(hi:i<l.length)(hk:(l.getD i X).K=0\/(l.getD i X).K=1){p}(s:Sb c p)(t:p.K=0\/p.K=1):PT c (l.set i p):=by refine⟨?_, ?_, ?_⟩;intro j f;rw[Lx]at f;rw[Cq hi];split;exact s;exact h.b j f;intro j f d;rw[Lx]at f;rw[Cq hi]at d⊢;by_cases b:i=j;rw[if_pos b]at d;omega;rw[if_neg b]at d⊢;have q:=h.lg j f d;refine⟨q.1,λm n o=>?_⟩;have r:=q.2 m n o;rw[Lx,Cq hi,if_neg (by rintro rfl;omega)];exact r;intro j f e;rw[Lx]at f;rw[Cq hi]at e;by_cases b:i=j;rw[if_pos b]at e;omega;rw[if_neg b]at e;obtain⟨a,a1,g,k⟩:=h.tl j f e;refine⟨a,a1, ?_⟩;rw[Cq hi,if_neg (by rintro rfl;omega)];exact⟨g,k⟩
def PT.mapPages{c l}(h:PT c l)(f:Z0->Z0)(v:∀p,Sb c p->Sb c (f p))(n:∀p,Sb c p->(f p).K=2->p.K=2/\(f p).U=p.U)(w:∀p,Sb c p->(f p).K=3->p.K=3)(o:∀p q,Sb c p->Sb c q->p.K=2->q.K=3->q.S=p.S->((f p).K=2↔(f q).K=3)/\((f p).K=2->(f q).S=(f p).S)):PT c (l.map f):=by
 have e:∀j,j<l.length->(l.map f).getD j X=f (l.getD j X):=by(intro j b;simp[Lc,b])
 refine⟨?_, ?_, ?_⟩;intro j b;rw[Lk]at b;rw[e j b];exact v _ (h.b j b);intro j b d;rw[Lk]at b;rw[e j b]at d⊢;have q:=n _ (h.b j b) d;have r:=h.lg j b q.1;rw[q.2];refine⟨r.1,λm x y=>?_⟩;have s:=r.2 m x y;have t:=o _ _ (h.b j b) (h.b (j+m) s.1) q.1 s.2.1 s.2.2;rw[Lk,e _ s.1];exact⟨s.1,t.1.1 d,t.2 d⟩;intro j b d;rw[Lk]at b;rw[e j b]at d;have q:=w _ (h.b j b) d;obtain⟨a,a1,k,u⟩:=h.tl j b q;have i:a<l.length:=by omega
 have s:=(h.lg a i k).2 (j-a) oq oq;rw[show a+(j-a)=j by omega]at s;have t:=o _ _ (h.b a i) (h.b j b) k s.2.1 s.2.2;have g:=t.1.2 d;refine⟨a,a1, ?_⟩;rw[e a i];exact⟨g,by rw[(n _ (h.b a i) g).2];exact u⟩
def Z3O{l:List Z0}{i k:Nat}{p q}(hk:1<=k)(h:i+k<=l.length)(j:Nat):(ZN l i k p q).getD j X=if j=i then p else if i<j/\j<i+k then q else l.getD j X:=by have hl:(wr l (LL k q) i k).length=l.length:=II (by simpa using h) pq;unfold ZN;rw[Lc,List.getElem?_set];by_cases a:j=i;subst a;rw[if_pos rfl,if_pos rfl,if_pos oq];rfl;rw[if_neg (λe=>a e.symm),if_neg a,AR (by simpa using h) pq];by_cases b:j<i;rw[if_pos b,if_neg oq,Lc];rw[if_neg b];by_cases c:j<i+k;rw[if_pos c,if_pos oq];simp[show j-i<k by omega];rw[if_neg c,if_neg oq,Lc]
def PT.took{c l}(h:PT c l){i k:Nat}{n sp:Int}(hk:1<=k)(hik:i+k<=l.length)(hf:∀j,j<k->(l.getD (i+j) X).K=0)(hn:need c n=k)(hs:sp=0\/sp=1):PT c (ZN l i k ⟨2,sp,n,0⟩ ⟨3,sp,0,0⟩):=by
 have hg:=Z3O (p:=⟨2,sp,n,0⟩) (q:=⟨3,sp,0,0⟩) hk hik;have hl:(ZN l i k ⟨2,sp,n,0⟩ ⟨3,sp,0,0⟩).length=l.length:=Z0x hik;have hf':∀j,i<=j->j<i+k->(l.getD j X).K=0:=λj h1 h2=>by(have:=hf (j-i) oq;rwa [show i+(j-i)=j by omega]at this)
 refine⟨?_, ?_, ?_⟩;intro j hj;rw[hl]at hj;rw[hg];split;exact⟨by simp only;omega,by simp,by simp,by simp,by simp,by simp⟩;split;exact⟨by simp only;omega,by simp,by simp,by simp,by simp,by simp⟩;exact h.b j hj;intro j hj hk2;rw[hl]at hj⊢;simp only[hg]at hk2⊢;by_cases hji:j=i;subst hji;simp only[if_pos]at hk2⊢;rw[hn];refine⟨by omega,λm h1 h2=>⟨by omega, ?_⟩⟩;rw[if_neg oq,if_pos oq];exact⟨rfl,rfl⟩;rw[if_neg hji]at hk2⊢;by_cases hr:i<j/\j<i+k;rw[if_pos hr]at hk2;simp at hk2;rw[if_neg hr]at hk2⊢;have q:=h.lg j hj hk2;refine⟨q.1,λm h1 h2=>?_⟩;have r:=q.2 m h1 h2;have hne:¬ (i<=j+m/\j+m<i+k):=λhc=>by(have:=hf' (j+m) hc.1 hc.2;omega)
 rw[if_neg oq,if_neg oq];exact r;intro j hj hk3;rw[hl]at hj;simp only[hg]at hk3⊢;by_cases hji:j=i;rw[if_pos hji]at hk3;simp at hk3;rw[if_neg hji]at hk3;by_cases hr:i<j/\j<i+k;refine⟨i,hr.1, ?_⟩;simp only[if_pos];refine⟨trivial, ?_⟩;rw[hn];omega;rw[if_neg hr]at hk3;obtain⟨a,a1,a2,a3⟩:=h.tl j hj hk3;have hne:¬ (i<=a/\a<i+k):=λhc=>by(have:=hf' a hc.1 hc.2;omega)
 refine⟨a,a1, ?_⟩;rw[if_neg oq,if_neg oq];exact⟨a2,a3⟩
def SL{l i}{n:Int}:Cw l i n=l.set i ⟨(l.getD i X).K,(l.getD i X).S,(l.getD i X).U+n,(l.getD i X).N⟩:=rfl
def AX{h:Heap}(hs:h.S=0\/h.S=1)(a:0<=first h.P 1)(n:Int):Cw (HU h) (first h.P 1).toNat n=h.P.set (first h.P 1).toNat ⟨1,h.S,n,0⟩/\(h.P.getD (first h.P 1).toNat X).K=0/\(first h.P 1).toNat<h.P.length:=by
 obtain⟨b,f2,f3,c⟩:=R5 hs a;obtain⟨g1,g2,d⟩:=I8 a;have hi:(first h.P 1).toNat<h.P.length:=by omega
 refine⟨?_, ?_,hi⟩;rw[SL,c,b,Z1s hi,Xh];simp;have:=Si.1 d 0 dd;simpa using this
structure Z0R (h:Heap) (n:Int) (h':Heap) (a:Int):Prop where
 pr:Z9 h'=Y
 c:h'.C=h.C
 w:h'.W=h.W
 l:h'.P.length=h.P.length
 sp:h'.S=h.S
 pin:∀p∈h'.P,p.N=0\/∃q∈h.P,p.N=q.N
 lo:4096<=a
 hi:a+n<=4096+h.W.length
def getD_in{l:List Z0}{i:Nat}(h:i<l.length):l.getD i X∈l:=by rw[Lc,Lm h];exact List.getElem_mem h
def ZmH{h:Heap}{n:Int}(hp:Z9 h=Y)(hn:1<=n/\n<=h.C.pw)(e:(Bm h n).2.2=Y):Z0R h n (Bm h n).1 (Bm h n).2.1:=by
 have hp':=hp;rw[GU]at hp;obtain⟨p1,p2,p3,p4,p5,p6⟩:=hp;have hb:=BI.1 p1;by_cases hf:N7 h n;have e7:Bm h n=(⟨h.C,h.W,Cw h.P h.B.toNat n,h.S,h.B⟩,4096+h.B*h.C.pw+(h.P.getD h.B.toNat X).U,Y):=by rw[Bm,if_pos hf]
 unfold N7 at hf;have hbi:h.B.toNat<h.P.length:=by omega
 have hk:(h.P.getD h.B.toNat X).K=1:=by omega
 have ok:=p6.b h.B.toNat hbi;have u:=ok.k1 hk;have ha:=Ii p1 (i:=h.B) oq oq;have hio:=EU (i:=h.B) (j:=h.C.pg) (pw:=h.C.pw) oq oq;rw[Ll h.C.pg]at hio;rw[e7];refine⟨?_,rfl,rfl,by simp[Cw],rfl, ?_,by simp only;omega,by simp only;omega⟩;rw[GU];refine⟨p1,p2,by simp[Cw,p3],p4, ?_, ?_⟩;refine Ld ⟨hf.1,by simp[Cw];omega, ?_⟩;show((Cw h.P h.B.toNat n).getD h.B.toNat X).K=1;rw[SL,Cq hbi,if_pos rfl];exact hk;exact p6.setPage hbi (Ld hk) ⟨ok.s,ok.n,ok.k,λq=>by simp only at q;omega,λ_=>by simp only;omega,λq=>by simp only at q;omega⟩ (Ld hk);intro p hp;rcases LQ hp with hp|rfl;exact Ld ⟨p,hp,rfl⟩;exact Ld ⟨_,getD_in hbi,rfl⟩;by_cases hg:0<=first h.P 1/\(Cr h.P:Int)<Ea h.C
 have e7:Bm h n=(⟨h.C,h.W,Cw (HU h) (first h.P 1).toNat n,h.S,first h.P 1⟩,4096+first h.P 1*h.C.pw+((HU h).getD (first h.P 1).toNat X).U,Y):=by rw[Bm,if_neg hf,if_pos hg]
 obtain⟨g1,g2,g3⟩:=AX p4 hg.1 n;have g4:=congrArg Z0.U (R5 p4 hg.1).2.2.2;simp only at g4;have ha:=Ii p1 (i:=first h.P 1) oq oq;have hio:=EU (i:=first h.P 1) (j:=h.C.pg) (pw:=h.C.pw) oq oq;rw[Ll h.C.pg]at hio;rw[e7,g1,g4];refine⟨?_,rfl,rfl,by simp,rfl, ?_,by simp only;omega,by simp only;omega⟩;rw[GU];refine⟨p1,p2,by simp[p3],p4, ?_, ?_⟩;refine Ld ⟨hg.1,by simp only[Lx];omega, ?_⟩;simp only;rw[Cq g3,if_pos rfl];exact p6.setPage g3 (Le g2) ⟨by simp only;omega,by simp,by simp,by simp,λ_=>by simp only;omega,by simp⟩ (Ld rfl);intro p hp;rcases LQ hp with hp|rfl;exact Ld ⟨p,hp,rfl⟩;exact Le rfl;rw[Bm,if_neg hf,if_neg hg]at e;simp at e
def ZjS{h:Heap}{n}(a:Z9 h=Y)(k:1<=need h.C n)(e:(BH h n (need h.C n)).2.2=Y):Z0R h n (BH h n (need h.C n)).1 (BH h n (need h.C n)).2.1:=by
 have q:=a;rw[GU]at a;obtain⟨l,p2,p3,p4,c,r⟩:=a;have hb:=BI.1 l;by_cases d:0<=first h.P (need h.C n)/\Cr h.P+need h.C n<=Ea h.C
 obtain⟨g1,g2,g⟩:=I8 d.1;have el:(H5 h.C h.P (first h.P (need h.C n)) h.S n).1=ZN h.P (first h.P (need h.C n)).toNat (need h.C n).toNat ⟨2,h.S,n,0⟩ ⟨3,h.S,0,0⟩:=by(rw[H5,if_pos ⟨k,by omega⟩,ER,if_pos oq,if_pos g])
 have m:BH h n (need h.C n)=(⟨h.C,h.W,ZN h.P (first h.P (need h.C n)).toNat (need h.C n).toNat ⟨2,h.S,n,0⟩ ⟨3,h.S,0,0⟩,h.S,h.B⟩,4096+first h.P (need h.C n)*h.C.pw,Y):=by rw[BH,if_pos d,el]
 have i:∀j,j<(need h.C n).toNat->(h.P.getD ((first h.P (need h.C n)).toNat+j) X).K=0:=Si.1 g;have b:(ZN h.P (first h.P (need h.C n)).toNat (need h.C n).toNat ⟨2,h.S,n,0⟩ ⟨3,h.S,0,0⟩).length=h.P.length:=Z0x oq;have hu:=Pb k;have h0:0<=first h.P (need h.C n)*h.C.pw:=Lu d.1 oq
 have f:=LI (show first h.P (need h.C n)+need h.C n<=h.C.pg by omega) (show 0<=h.C.pw by omega);rw[LH,Ll h.C.pg]at f;rw[m];refine⟨?_,rfl,rfl,b,rfl, ?_,by simp only;omega,by simp only;omega⟩;rw[GU];refine⟨l,p2,by simp only[b];exact p3,p4, ?_, ?_⟩;simp only[b];rcases c with c|c;exact Le c;refine Ld ⟨c.1,c.2.1, ?_⟩;have o:¬ ((first h.P (need h.C n)).toNat<=h.B.toNat/\h.B.toNat<(first h.P (need h.C n)).toNat+(need h.C n).toNat):=λhc=>by(have:=i (h.B.toNat-(first h.P (need h.C n)).toNat) oq;rw[show(first h.P (need h.C n)).toNat+(h.B.toNat-(first h.P (need h.C n)).toNat)=h.B.toNat by omega]at this;omega)
 rw[Z3O oq oq,if_neg oq,if_neg oq];exact c.2.2;exact r.took oq oq i oq p4;intro p a;rcases LQ a with a|rfl;simp only[wr,Ls]at a;rcases a with(a|a)|a;exact Ld ⟨p,Xd a,rfl⟩;have:=List.eq_of_mem_replicate (Xd a);subst this;exact Le rfl;exact Ld ⟨p,List.mem_of_mem_drop a,rfl⟩;exact Le rfl;rw[BH,if_neg d]at e;simp at e
def Z9V{a:Zz}(b:ZU a=Y)(c:0<=a.map/\a.map<=4294967295):Zx (BE a)/\((BE a).length:Int)=Z5 a:=by have hb:=Zfz b c.1 c.2;constructor;intro x d;simp only[BE,Xb,List.mem_replicate,Zy,if_pos b]at d;rcases d with rfl|⟨_,rfl⟩<;>omega;rw[Z5,if_pos b];simp[BE];omega
def Z42{h:Heap}{a:Zz}(t:Zx h.W)(r:0<=a.map/\a.map<=4294967295)(e:(B2 h a).2.2=0) :Z9 h=Y/\G7 h.C a=Y/\Z0R h (Z5 a) (Cv h a).1 (Cv h a).2.1/\(Cv h a).2.2=Y/\(B2 h a).2.1=(Cv h a).2.1/\(B2 h a).1={ (Cv h a).1 with W:=(ZX h.W (Cv h a).2.1 (BE a)).1}/\Z9 (B2 h a).1=Y/\Zx (B2 h a).1.W:=by
 unfold B2 at e;split at e;rename_i c1;split at e;rename_i c2;obtain⟨a1,o,a3,i,a5⟩:=Tk c1.2;have po:=B6 c1.1;have c:Z0R h (Z5 a) (Cv h a).1 (Cv h a).2.1:=by
  by_cases f:0<need h.C (Z5 a);have k:Cv h a=BH h (Z5 a) (need h.C (Z5 a)):=by rw[Cv,if_pos f]
  rw[k]at c2⊢;exact ZjS c1.1 oq c2;have k:Cv h a=Bm h (Z5 a):=by rw[Cv,if_neg f]
  rw[k]at c2⊢;refine ZmH c1.1 ⟨o, ?_⟩ c2;unfold need at f i;split at i;rename_i p;rw[if_pos p]at f;split at i;omega;rename_i l;rw[if_neg l]at f;have e:=LZ (Z5 a+h.C.pw-1) h.C.pw;have u:(Z5 a+h.C.pw-1)/h.C.pw=0:=by omega
  rw[u]at e;have:=LY (Z5 a+h.C.pw-1) (b:=h.C.pw) oq;omega;omega
 have s:=Z9V a1 r;have m:4096<=(Cv h a).2.1/\(Cv h a).2.1-4096+(BE a).length<=h.W.length:=⟨c.lo,by have:=c.hi;omega⟩;have n:ZX h.W (Cv h a).2.1 (BE a)=(Ck h.W ((Cv h a).2.1-4096).toNat (BE a),0):=by rw[ZX,if_pos m]
 have d:(Ck h.W ((Cv h a).2.1-4096).toNat (BE a)).length=h.W.length:=NI oq;have j:(BK (Cv h a).1 (Cv h a).2.1 a).1={ (Cv h a).1 with W:=(ZX h.W (Cv h a).2.1 (BE a)).1}:=by(rw[BK,if_pos ⟨c.pr,a1⟩,c.w,n];simp)
 have g:B2 h a=((BK (Cv h a).1 (Cv h a).2.1 a).1,(Cv h a).2.1,0):=by rw[B2,if_pos c1,if_pos c2]
 refine⟨c1.1,c1.2,c,c2,by rw[g],by rw[g];exact j, ?_, ?_⟩;rw[g];simp only;rw[j,n];have q:=c.pr;rw[GU]at q⊢;refine⟨q.1, ?_,q.2.2.1,q.2.2.2.1,q.2.2.2.2.1,q.2.2.2.2.2⟩;simp only[d];have:=q.2.1;rw[c.w]at this;exact this;rw[g];simp only;rw[j];exact OC t s.1 _;simp at e;simp at e
def Dn{h a}(e:(Z6 h a).2=0):4096<=a/\a+(Z6 h a).1.length<4096+h.W.length:=by
 have k:=Pj e;have l:=B6 k.1;have o:=H4 l.1 k.2.1;have n:(Z4 h.C a).1.toNat<h.P.length:=by omega
 have p:(((Z4 h.C a).1.toNat:Nat):Int)=(Z4 h.C a).1:=by omega
 have b:=e;unfold Z6 at b⊢;rw[if_pos k.1,if_pos k.2.1]at b⊢;split at b;rename_i c;split at b;simp at b;rename_i m;rw[if_pos c,if_neg m];have f:ZU (Z8 (Z1 h.W a).1).1=Y:=AY _;have hs:Z5 (Z8 (Z1 h.W a).1).1=(Z8 (Z1 h.W a).1).1.length+1:=by rw[Z5,if_pos f]
 have q:=(Gx.1 f).2.2.1;have ue:=Z18 k.1 n c.1;rw[p]at ue;have h0:0<=(Z4 h.C a).1*h.C.pw:=Lu o.1 oq;have d:=EU (i:=(Z4 h.C a).1) (j:=h.C.pg) (pw:=h.C.pw) o.2.1 oq;rw[Ll h.C.pg]at d;have hL:=l.2.2.2.2.2.1;refine⟨by omega, ?_⟩;simp only;rcases c.1 with g|g<;>omega;simp at b
def Z3r{h:Heap}{a i v:Int}(j:Zx h.W)(f:0<=v/\v<=18446744073709551615)(e:(Zw h a).2=0)(hi:0<=i/\i<(Zw h a).1.length):Eb h a i v=({h with W:=(BR h.W (a+1+i) v).1},0)/\Z9 (Eb h a i v).1=Y/\Zx (Eb h a i v).1.W:=by
 have g:=It e;have k:=Dn g.2.1;rw[<-g.1]at k;have b:4096<=a+1+i/\a+1+i<4096+h.W.length:=by omega
 have d:(Gb h a i).2=0:=by(unfold Gb;rw[if_pos e,if_pos hi];unfold Z1;rw[if_pos b])
 have c:Eb h a i v=({h with W:=(BR h.W (a+1+i) v).1},0):=by rw[Eb,if_pos d]
 refine⟨c, ?_, ?_⟩;rw[c];have q:=g.2.2.1;rw[GU]at q⊢;refine⟨q.1, ?_,q.2.2.1,q.2.2.2.1,q.2.2.2.2.1,q.2.2.2.2.2⟩;simp only[AN b];exact q.2.1;rw[c];exact Z2c j f _
def Z19(a:List Int)(i:Nat):Tg:=⟨tm 26 [(0,Z2 a),(1,Z2 a),(4,bL M),(5,nI i)],[],60⟩
def Zgw(a:List Int)(i:Nat)(ha:a.length<=1048576)(hi:i<a.length):CP (Zm f27 0) (Z19 a i).st .nrm (Z19 a (i+1)).st:=by exact sF [] []<|FN 13 14 19 wD a i<|Fek 23 wD a (↑i) i<|Ffs 25 (a.getD i X != a.getD i X)<|Fx 16 i Fz
def Zel a:CP (Zm f27 0) (Z19 a a.length).st (.ext 0) (Tg.st ⟨tm 26 [],[],60⟩):=by exact sF [] []<|FO 13 14 wD a Fz
def Zfv(a:List Int)(b:a.length<=1048576)  := Bp (S:=λi=>(Z19 a i).st) a.length (by kernel_rfl) (λi hi=>Zgw a i b hi) (Zel a)
def ZgI(a:List Int)(ha:a.length<=1048576):GP 27 [Z2 a,Z2 a] Y (bL Y) []:=by exact gF [] func27 []<|Fl 7 wD a<|Fl 9 wD a<|Ffs 10 ((a.length:Int) != (a.length:Int))<|Fu (@Zfv a aa) Fz
def ZbL{l:List Z0}{i k:Nat}{p q:Z0}(hk:1<=k)(h:i+k<=l.length):Ck l i (p::LL (k-1) q)=ZN l i k p q:=by
 obtain⟨m,rfl⟩:∃m,k=m+1:=⟨k-1,by omega⟩;have a:(Li i l).length=i:=by simp;omega
 rw[ZN,wr,Ck,List.take_of_length_le (l:=LL (m+1) q) pq,L1,L1,List.set_append,if_neg oq,a,Nat.sub_self];simp[List.replicate_succ]
def Za6{l:List Z0}:∀{i:Nat},(∀j,j<i->(l.getD j X).K=0)->EE l i=0
 |0,_=>rfl
 |i+1,h=>by
  have a:E7 l i=l.getD i X:=by rw[Te];simp
  rw[EE,Za6 (λj hj=>h j oq),a,if_pos (h i oq)]
def ZgK{l:List Z0}{i k:Nat}(h:i+k<=l.length)(a:Ia l i k=Y):Cr ((l.drop i).take k)=0:=by refine Za6 λj b=>?_;simp only[List.length_take,List.length_drop]at b;have:=Si.1 a j oq;rw[Lc]at this⊢;rwa [List.getElem?_take,if_pos oq,Lz]
def Z3U(l:List Z0)(hl:l.length<=1048576)(hne:l≠[]):GP 124 [B5 l] Y (.ow 0) [.arr 86 4 (l.map Z0.dv)]:=by exact gF [24007] func124 []<|Fa (TW hne:Z Z0.dv l≠[])<|FA 5 7 Z0.dv l<|Fa (N8 _:Ce (Z Z0.dv l)) Fz
def Zdz(ps l:List Z0)(i:Int)(hl:ps.length<=1048576)(hll:l.length<=1048576)(hi:0<=i)(h1:i+l.length<=ps.length)(hf:Ia ps i.toNat l.length=Y)(hn:0<ps.length):GP 232 [B5 ps,nI i,B5 l] Y (.tu [.ow 0,nI 0]) [.arr 86 4 ((Ck ps i.toNat l).map Z0.dv)]:=by
 have hne:ps≠[]:=AB hn;have e1:Cr (Li ((i+l.length).toNat-i.toNat) (Ln i.toNat ps))=0:=by(rw[show(i+l.length).toNat-i.toNat=l.length from by omega];exact ZgK oq hf)
 have hs:Cf (Z Z0.dv ps) i.toNat (Z Z0.dv l)=Z Z0.dv (Ck ps i.toNat l):=by simp[Cf,Ck]
 exact gF [33030] func232 []<|Fh 26 [.els (Z Z0.dv (Li ((i+(l.length:Int)).toNat-i.toNat) (Ln i.toNat ps)))]<|Fh 35 [.els (Z Z0.dv (Li i.toNat ps++l++Ln (i.toNat+l.length) ps))]<|FlG 14 (!decide (i<0)) Z0.dv ps<|FlG 16 (!decide (i<0)) Z0.dv l<|FiG 17 (!decide (i<0)) ((ps.length:Int)-(l.length:Int))<|Ffb 19 (O (i<0)||O ((ps.length:Int)-(l.length:Int)<i))<|Fl 24 Z0.dv l<|Fi 25 (i+(l.length:Int))<|Fa (by(simp only[Lk];omega):0<=i/\i<=i+(l.length:Int)/\i+(l.length:Int)<=(↑(Z Z0.dv ps).length:Int))<|Fa (by simp[e1,Ck,Xa,L8,L9,L7,wD,iD]:Li ((i+(l.length:Int)).toNat-i.toNat) (Ln i.toNat (Z Z0.dv ps))=Z Z0.dv (Li ((i+(l.length:Int)).toNat-i.toNat) (Ln i.toNat ps)))<|Fc 27 (@ZjU (Li ((i+(l.length:Int)).toNat-i.toNat) (Ln i.toNat ps)) (by(simp[e1,Ck, *];omega)))<|Ffb 28 (O (0<(↑(Cr (Li ((i+(l.length:Int)).toNat-i.toNat) (Ln i.toNat ps))):Int)))<|Fc 30 (@Z3U ps aa aa)<|Fa (by(simp only[Lk];omega):0<=i/\i<=(↑(Z Z0.dv ps).length:Int))<|Fa (by(simp only[Lk];omega):(Z Z0.dv l).length<=(↑(Z Z0.dv ps).length:Int).toNat-i.toNat)<|Fa (hs:Cf (Z Z0.dv ps) i.toNat (Z Z0.dv l)=Z Z0.dv (Li i.toNat ps++l++Ln (i.toNat+l.length) ps))<|Fa (N8 _:Ce (Z Z0.dv (Li i.toNat ps++l++Ln (i.toNat+l.length) ps))) Fz
def Zi5{l:List Z0}{i:Nat}{p q:Z0}(h:i+1<=l.length):Ck l i [p]=ZN l i 1 p q:=by have:=ZbL (l:=l) (i:=i) (k:=1) (p:=p) (q:=q) (Lt _) h;simpa using this
def Z65(l:List Z0)(i sp:Int)(hl:l.length<=1048576)(hs:0<=sp/\sp<=1)(hi:0<=i/\i+1<=l.length)(hf:Ia l i.toNat 1=Y):GP 211 [B5 l,nI i,nI sp] Y (.tu [.ow 0,nI 0]) [.arr 86 4 ((ZN l i.toNat 1 ⟨1,sp,0,0⟩ ⟨0,0,0,0⟩).map Z0.dv)]:=by
 have e:=Zi5 (l:=l) (i:=i.toNat) (p:=⟨1,sp,0,0⟩) (q:=⟨0,0,0,0⟩) oq;rw[<-e];have e2:Ia l i.toNat ([⟨1,sp,0,0⟩]:List Z0).length=Y:=hf;have e3:Hs ⟨1,sp,0,0⟩=Y:=by simp[Hs];omega
 exact gF [33018] func211 []<|Fc 12 (@Z39 (Z0.mk 1 sp 0 0))<|Ffb 13 (!Hs (Z0.mk 1 sp 0 0))<|Fs 17 (Z Z0.dv [Z0.mk 1 sp 0 0])<|Fc 18 (@Zdz l ([Z0.mk 1 sp 0 0]) i aa (by simp[*]) oq (by simp[*]) aa oq)<|Fa (N8 _:Ce (Z Z0.dv (Ck l i.toNat [Z0.mk 1 sp 0 0]))) Fz
def ZlL{a v k:Nat}(b:a<2^k)(hv:a+v*2^k<18446744073709551616):bits .or .u64 (a:Int) ((v*2^k:Nat):Int)=((a+v*2^k:Nat):Int):=by rw[bits_or_u64_nat a (v*2^k) oq oq,Nat.mul_comm v,Nat.or_comm,<-Nat.two_pow_add_eq_or_of_lt b,Nat.add_comm]
def Zmx{v n:Nat}(g:n<=64)(h:v<2^n):bits .andNot .u64 (v:Int) (2^n-1)=0:=by
 have f:(2:Nat)^n<=2^64:=Xl dd g;have hp:0<(2:Nat)^n:=Nat.two_pow_pos n;have e:((2:Int)^n-1)=((2^n-1:Nat):Int):=by
  have:((2^n:Nat):Int)=2^n:=by simp
  omega
 rw[e];have c:(LD 64 (v:Int)).toNat=v:=by(rw[LV,LW];exact Xk oq)
 have d:(LD 64 ((2^n-1:Nat):Int)).toNat=2^n-1:=by(rw[LV,LW];exact Xk oq)
 show La.wrap ((LD 64 (v:Int) &&& ~~~ LD 64 ((2^n-1:Nat):Int)).toNat:Int)=_;rw[BitVec.toNat_and,BitVec.toNat_not,c,d];have a:2^64-1-(2^n-1)=2^n*(2^(64-n)-1):=by
  have:(2:Nat)^64=2^n*2^(64-n):=by rw[<-Nat.pow_add];congr 1;omega
  rw[Nat.mul_sub,Nat.mul_one,<-this];omega
 have b:v &&& (2^64-1-(2^n-1))=0:=by(rw[a];apply Nat.eq_of_testBit_eq;intro i;rw[Nat.testBit_and,Nat.zero_testBit,Nat.testBit_two_pow_mul];by_cases hi:n<=i;rw[Nat.testBit_lt_two_pow (Nat.lt_of_lt_of_le h (Xl dd hi)),Bool.false_and];simp[hi])
 rw[b];decide
def De(v n:Int)(b:0<=v)(hn:0<=n/\n<=64)(c:v<2^n.toNat):GP 250 [uU v,nI n] Y (bL Y) []:=by
 have e:bits .andNot .u64 v (ones n)=0:=by(obtain⟨a,rfl⟩:=LM b;rw[ones,Nat.min_eq_left oq];exact Zmx oq (by exact_mod_cast c))
 exact gF [] func250 [Y]<|Fc 7 (@S8 n)<|Fb ((bits BinOp.andNot La v (ones n)==0)=Y) Fz
structure BC where
 width:Int
 value:Int
 deriving DecidableEq,Inhabited
def BC.dv(f:BC):List DV:=[.sc (.int .i64 f.width),.sc (.int .u64 f.value)]
def ZP(k l m:Int):List BC:=[⟨2,1⟩,⟨2,k⟩,⟨12,l⟩,⟨32,m⟩]
def pk1(k l m:Int)(i:Nat):Tg:=⟨tm 55 [(0,.d (.sl 2 ((ZP k l m).map BC.dv))),(2,uU 0),(3,nI 0),(4,nI ([64,62,60,48,16].getD i 0)),(11,.d (.sl 2 ((ZP k l m).map BC.dv))),(12,nI (ZP k l m).length),(13,nI i)],[],4⟩
def Zld k l m(i:Nat)(hi:i<4):CP (Zm f233 0) (pk1 k l m i).st .nrm (pk1 k l m (i+1)).st:=by
 have eL:(ZP k l m).length=4:=rfl;have e0:(ZP k l m).getD 0 X=⟨2,1⟩:=rfl;have e1:(ZP k l m).getD 1 X=⟨2,k⟩:=rfl;have e2:(ZP k l m).getD 2 X=⟨12,l⟩:=rfl;have e3:(ZP k l m).getD 3 X=⟨32,m⟩:=rfl;have h:i=0\/i=1\/i=2\/i=3:=by omega
 rcases h with rfl|rfl|rfl|rfl;refine Zg [((15:Nat),[Hint.el ((ZP k l m).getD (0:Nat) X).dv]),((29:Nat),[Hint.int ((64:Int)-((ZP k l m).getD (0:Nat) X).width)])] [] [] [] (φ:=((0:Int)<=(↑(0:Nat):Int)/\(Z BC.dv (ZP k l m))[(↑(0:Nat):Int).toNat]?=Lb ((ZP k l m).getD (0:Nat) X).dv)/\Lh.wrap ([(64:Int),(62:Int),(60:Int),(48:Int),(16:Int)].getD (0:Nat) (0:Int)-((ZP k l m).getD (0:Nat) X).width)=(64:Int)-((ZP k l m).getD (0:Nat) X).width) ?_ kr kr kr;exact⟨(by exact Zn oq oq oq),rfl⟩;refine Zg [((15:Nat),[Hint.el ((ZP k l m).getD (1:Nat) X).dv]),((29:Nat),[Hint.int ((62:Int)-((ZP k l m).getD (1:Nat) X).width)])] [] [] [] (φ:=((0:Int)<=(↑(1:Nat):Int)/\(Z BC.dv (ZP k l m))[(↑(1:Nat):Int).toNat]?=Lb ((ZP k l m).getD (1:Nat) X).dv)/\Lh.wrap ([(64:Int),(62:Int),(60:Int),(48:Int),(16:Int)].getD (1:Nat) (0:Int)-((ZP k l m).getD (1:Nat) X).width)=(62:Int)-((ZP k l m).getD (1:Nat) X).width) ?_ kr kr kr;exact⟨(by exact Zn oq oq oq),rfl⟩;refine Zg [((15:Nat),[Hint.el ((ZP k l m).getD (2:Nat) X).dv]),((29:Nat),[Hint.int ((60:Int)-((ZP k l m).getD (2:Nat) X).width)])] [] [] [] (φ:=((0:Int)<=(↑(2:Nat):Int)/\(Z BC.dv (ZP k l m))[(↑(2:Nat):Int).toNat]?=Lb ((ZP k l m).getD (2:Nat) X).dv)/\Lh.wrap ([(64:Int),(62:Int),(60:Int),(48:Int),(16:Int)].getD (2:Nat) (0:Int)-((ZP k l m).getD (2:Nat) X).width)=(60:Int)-((ZP k l m).getD (2:Nat) X).width) ?_ kr kr kr;exact⟨(by exact Zn oq oq oq),rfl⟩;refine Zg [((15:Nat),[Hint.el ((ZP k l m).getD (3:Nat) X).dv]),((29:Nat),[Hint.int ((48:Int)-((ZP k l m).getD (3:Nat) X).width)])] [] [] [] (φ:=((0:Int)<=(↑(3:Nat):Int)/\(Z BC.dv (ZP k l m))[(↑(3:Nat):Int).toNat]?=Lb ((ZP k l m).getD (3:Nat) X).dv)/\Lh.wrap ([(64:Int),(62:Int),(60:Int),(48:Int),(16:Int)].getD (3:Nat) (0:Int)-((ZP k l m).getD (3:Nat) X).width)=(48:Int)-((ZP k l m).getD (3:Nat) X).width) ?_ kr kr kr;exact⟨(by exact Zn oq oq oq),rfl⟩
def ZmF k l m:CP (Zm f233 0) (pk1 k l m 4).st (.ext 0) (Tg.st ⟨tm 55 [(0,.d (.sl 2 ((ZP k l m).map BC.dv))),(2,uU 0),(3,nI 0)],[],4⟩):=by have eL:(ZP k l m).length=4:=rfl;refine Zg [] [] [] [] (φ:=True) ?_ kr kr kr;exact trivial
def Zma(k l m:Int)  := Bp (S:=λi=>(pk1 k l m i).st) 4 (by kernel_rfl) (λi hi=>Zld k l m i hi) (ZmF k l m)
def Eh(k l m:Int)(i:Nat):Int:=[0,1,1+4*k,1+4*k+16*l,1+4*k+16*l+65536*m].getD i 0
def pk2(k l m:Int)(i:Nat):Tg:=⟨tm 55 [(2,uU 0),(3,nI 0),(7,uU (Eh k l m i)),(8,nI ([0,2,4,16,48].getD i 0)),(31,.d (.sl 2 ((ZP k l m).map BC.dv))),(32,nI (ZP k l m).length),(33,nI i)],[],6⟩
def orI(n:Nat){p a v:Int}(e:p=((2^n:Nat):Int))(c:0<=a)(f:0<=v)(h1:a<p)(b:a+v*p<18446744073709551616):bits .or .u64 a (La.wrap (v*p))=a+v*p:=by
 obtain⟨x,rfl⟩:=LM c;obtain⟨y,rfl⟩:=LM f;have d:(y:Int)*p=((y*2^n:Nat):Int):=by rw[e,Int.natCast_mul]
 rw[d]at b⊢;rw[Po oq oq];exact ZlL oq oq
def Zey(k l m:Int)(i:Nat)(h1:0<=k/\k<=3)(h2:0<=l/\l<=255)(h3:0<=m/\m<=4294967295)(hi:i<4):CP (Zm f233 2) (pk2 k l m i).st .nrm (pk2 k l m (i+1)).st:=by
 have eL:(ZP k l m).length=4:=rfl;have e0:(ZP k l m).getD 0 X=⟨2,1⟩:=rfl;have e1:(ZP k l m).getD 1 X=⟨2,k⟩:=rfl;have e2:(ZP k l m).getD 2 X=⟨12,l⟩:=rfl;have e3:(ZP k l m).getD 3 X=⟨32,m⟩:=rfl;have h:i=0\/i=1\/i=2\/i=3:=by omega
 have f1:bits .or .u64 (Eh k l m 1) (La.wrap (((ZP k l m).getD 1 X).value*4))=Eh k l m (1+1):=(orI 2 (a:=1) (v:=k) dd oq oq oq oq).trans (by show _=1+4*k;omega);have f2:bits .or .u64 (Eh k l m 2) (La.wrap (((ZP k l m).getD 2 X).value*16))=Eh k l m (2+1):=(orI 4 (a:=1+4*k) (v:=l) dd oq oq oq oq).trans (by show _=1+4*k+16*l;omega);have f3:bits .or .u64 (Eh k l m 3) (La.wrap (((ZP k l m).getD 3 X).value*65536))=Eh k l m (3+1):=(orI 16 (a:=1+4*k+16*l) (v:=m) dd oq oq oq oq).trans (by show _=1+4*k+16*l+65536*m;omega);rcases h with rfl|rfl|rfl|rfl;refine Zg [((35:Nat),[Hint.el ((ZP k l m).getD (0:Nat) X).dv]),((41:Nat),[Hint.call Y (bL Y) []]),((47:Nat),[Hint.int (((ZP k l m).getD (0:Nat) X).value*(1:Int))]),((52:Nat),[Hint.int ((0:Int)+((ZP k l m).getD (0:Nat) X).width)])] [] [] [] (φ:=((0:Int)<=(↑(0:Nat):Int)/\(Z BC.dv (ZP k l m))[(↑(0:Nat):Int).toNat]?=Lb ((ZP k l m).getD (0:Nat) X).dv)/\GP 250 [uU ((ZP k l m).getD (0:Nat) X).value,nI ((ZP k l m).getD (0:Nat) X).width] Y (bL Y) []/\La.wrap (((ZP k l m).getD (0:Nat) X).value*(2:Int)^min ([(0:Int),(2:Int),(4:Int),(16:Int),(48:Int)].getD (0:Nat) (0:Int)).toNat (64:Nat))=((ZP k l m).getD (0:Nat) X).value*(1:Int)/\(0:Int)<=[(0:Int),(2:Int),(4:Int),(16:Int),(48:Int)].getD (0:Nat) (0:Int)/\Lh.wrap ([(0:Int),(2:Int),(4:Int),(16:Int),(48:Int)].getD (0:Nat) (0:Int)+((ZP k l m).getD (0:Nat) X).width)=(0:Int)+((ZP k l m).getD (0:Nat) X).width) ?_ kr kr kr;exact⟨(by exact Zn oq oq oq),(@De (((ZP k l m).getD (0:Nat) X).value) (((ZP k l m).getD (0:Nat) X).width) (by grind[Eh]) (by grind[Eh]) (by grind[Eh])),rfl,(by simp[Eh, *]),rfl⟩;refine Zg [((35:Nat),[Hint.el ((ZP k l m).getD (1:Nat) X).dv]),((41:Nat),[Hint.call Y (bL Y) []]),((48:Nat),[Hint.int (bits Lf La (Eh k l m (1:Nat)) (La.wrap (((ZP k l m).getD (1:Nat) X).value*(4:Int))))]),((52:Nat),[Hint.int ((2:Int)+((ZP k l m).getD (1:Nat) X).width)])] [] [] [M,M,Y] (φ:=((0:Int)<=(↑(1:Nat):Int)/\(Z BC.dv (ZP k l m))[(↑(1:Nat):Int).toNat]?=Lb ((ZP k l m).getD (1:Nat) X).dv)/\GP 250 [uU ((ZP k l m).getD (1:Nat) X).value,nI ((ZP k l m).getD (1:Nat) X).width] Y (bL Y) []/\(0:Int)<=[(0:Int),(2:Int),(4:Int),(16:Int),(48:Int)].getD (1:Nat) (0:Int)/\bits Lf La (Eh k l m (1:Nat)) (La.wrap (((ZP k l m).getD (1:Nat) X).value*(2:Int)^min ([(0:Int),(2:Int),(4:Int),(16:Int),(48:Int)].getD (1:Nat) (0:Int)).toNat (64:Nat)))=bits Lf La (Eh k l m (1:Nat)) (La.wrap (((ZP k l m).getD (1:Nat) X).value*(4:Int)))/\Lh.wrap ([(0:Int),(2:Int),(4:Int),(16:Int),(48:Int)].getD (1:Nat) (0:Int)+((ZP k l m).getD (1:Nat) X).width)=(2:Int)+((ZP k l m).getD (1:Nat) X).width/\bits Lf La (Eh k l m (1:Nat)) (La.wrap (((ZP k l m).getD (1:Nat) X).value*(4:Int)))=Eh k l m ((1:Nat)+(1:Nat))) ?_ kr kr kr;exact⟨(by exact Zn oq oq oq),(@De (((ZP k l m).getD (1:Nat) X).value) (((ZP k l m).getD (1:Nat) X).width) (by simp only[bs, *,true_or,or_true,true_and,and_true,not_true_eq_false,not_false_eq_true,LG,LF]) (by grind[Eh]) (by grind[Eh])),(by simp[Eh, *]),rfl,rfl,aa⟩;refine Zg [((35:Nat),[Hint.el ((ZP k l m).getD (2:Nat) X).dv]),((41:Nat),[Hint.call Y (bL Y) []]),((48:Nat),[Hint.int (bits Lf La (Eh k l m (2:Nat)) (La.wrap (((ZP k l m).getD (2:Nat) X).value*(16:Int))))]),((52:Nat),[Hint.int ((4:Int)+((ZP k l m).getD (2:Nat) X).width)])] [] [] [M,M,Y] (φ:=((0:Int)<=(↑(2:Nat):Int)/\(Z BC.dv (ZP k l m))[(↑(2:Nat):Int).toNat]?=Lb ((ZP k l m).getD (2:Nat) X).dv)/\GP 250 [uU ((ZP k l m).getD (2:Nat) X).value,nI ((ZP k l m).getD (2:Nat) X).width] Y (bL Y) []/\(0:Int)<=[(0:Int),(2:Int),(4:Int),(16:Int),(48:Int)].getD (2:Nat) (0:Int)/\bits Lf La (Eh k l m (2:Nat)) (La.wrap (((ZP k l m).getD (2:Nat) X).value*(2:Int)^min ([(0:Int),(2:Int),(4:Int),(16:Int),(48:Int)].getD (2:Nat) (0:Int)).toNat (64:Nat)))=bits Lf La (Eh k l m (2:Nat)) (La.wrap (((ZP k l m).getD (2:Nat) X).value*(16:Int)))/\Lh.wrap ([(0:Int),(2:Int),(4:Int),(16:Int),(48:Int)].getD (2:Nat) (0:Int)+((ZP k l m).getD (2:Nat) X).width)=(4:Int)+((ZP k l m).getD (2:Nat) X).width/\bits Lf La (Eh k l m (2:Nat)) (La.wrap (((ZP k l m).getD (2:Nat) X).value*(16:Int)))=Eh k l m ((2:Nat)+(1:Nat))) ?_ kr kr kr;exact⟨(by exact Zn oq oq oq),(@De (((ZP k l m).getD (2:Nat) X).value) (((ZP k l m).getD (2:Nat) X).width) (by simp only[bs, *,true_or,or_true,true_and,and_true,not_true_eq_false,not_false_eq_true,LG,LF]) (by grind[Eh]) (by grind[Eh])),(by simp[Eh, *]),rfl,rfl,aa⟩;refine Zg [((35:Nat),[Hint.el ((ZP k l m).getD (3:Nat) X).dv]),((41:Nat),[Hint.call Y (bL Y) []]),((48:Nat),[Hint.int (bits Lf La (Eh k l m (3:Nat)) (La.wrap (((ZP k l m).getD (3:Nat) X).value*(65536:Int))))]),((52:Nat),[Hint.int ((16:Int)+((ZP k l m).getD (3:Nat) X).width)])] [] [] [M,M,Y] (φ:=((0:Int)<=(↑(3:Nat):Int)/\(Z BC.dv (ZP k l m))[(↑(3:Nat):Int).toNat]?=Lb ((ZP k l m).getD (3:Nat) X).dv)/\GP 250 [uU ((ZP k l m).getD (3:Nat) X).value,nI ((ZP k l m).getD (3:Nat) X).width] Y (bL Y) []/\(0:Int)<=[(0:Int),(2:Int),(4:Int),(16:Int),(48:Int)].getD (3:Nat) (0:Int)/\bits Lf La (Eh k l m (3:Nat)) (La.wrap (((ZP k l m).getD (3:Nat) X).value*(2:Int)^min ([(0:Int),(2:Int),(4:Int),(16:Int),(48:Int)].getD (3:Nat) (0:Int)).toNat (64:Nat)))=bits Lf La (Eh k l m (3:Nat)) (La.wrap (((ZP k l m).getD (3:Nat) X).value*(65536:Int)))/\Lh.wrap ([(0:Int),(2:Int),(4:Int),(16:Int),(48:Int)].getD (3:Nat) (0:Int)+((ZP k l m).getD (3:Nat) X).width)=(16:Int)+((ZP k l m).getD (3:Nat) X).width/\bits Lf La (Eh k l m (3:Nat)) (La.wrap (((ZP k l m).getD (3:Nat) X).value*(65536:Int)))=Eh k l m ((3:Nat)+(1:Nat))) ?_ kr kr kr;exact⟨(by exact Zn oq oq oq),(@De (((ZP k l m).getD (3:Nat) X).value) (((ZP k l m).getD (3:Nat) X).width) (by simp only[bs, *,true_or,or_true,true_and,and_true,not_true_eq_false,not_false_eq_true,LG,LF]) (by grind[Eh]) (by grind[Eh])),(by simp[Eh, *]),rfl,rfl,aa⟩
def Zko k l m:CP (Zm f233 2) (pk2 k l m 4).st (.ext 2) (Tg.st ⟨tm 55 [(2,uU 0),(3,nI 0),(7,uU (1+4*k+16*l+65536*m))],[],6⟩):=by have eL:(ZP k l m).length=4:=rfl;have ew:Eh k l m 4=1+4*k+16*l+65536*m:=rfl;refine Zg [] [] [] [] (φ:=True) ?_ kr kr kr;exact trivial
def ZeO(k l m:Int)(a:0<=k/\k<=3)(b:0<=l/\l<=255)(c:0<=m/\m<=4294967295)  := Bp (S:=λi=>(pk2 k l m i).st) 4 (by kernel_rfl) (λi hi=>Zey k l m i a b c hi) (Zko k l m)
def ZhM(k l m:Int)(h1:0<=k/\k<=3)(h2:0<=l/\l<=255)(h3:0<=m/\m<=4294967295):GP 233 [.d (.sl 2 ((ZP k l m).map BC.dv))] Y (.tu [uU (1+4*k+16*l+65536*m),nI 0]) []:=by exact gF [] func233 []<|Fg 12 (rfl:(↑(Z BC.dv (ZP k l m)).length:Int)=(↑(ZP k l m).length:Int))<|Fu (@Zma k l m)<|Fg 32 (rfl:(↑(Z BC.dv (ZP k l m)).length:Int)=(↑(ZP k l m).length:Int))<|Fu (@ZeO k l m aa aa aa) Fz
end Go.Proofs.YtgedmeaemofdkaaGreat
namespace Go.Sx
def mvP(ids:List Nat)(post:List Z3)(n:Nat):List Z3:=(upto 0 n).map λk=>match E4 k ids 0 with|some j=>GI ids (post.getD j .dead)|none=>.dead
def Z7C(m p n:Nat)(ids:List Nat):Bool:=Xi ids.length p&&LB m p&&LB m n&&nodupB ids&&(upto 0 p).all (λj=>LB (ids.getD j 0+1) n&&(Xi (ids.getD j 0) j||LB m (ids.getD j 0)))&&(upto 0 n).all λk=>match E4 k ids 0 with|Lb _=>Y|Lj=>LB (k+1) m
def Ml{P f args pre res post}(ids:List Nat) n{res2:AV}{post2:List Z3}(h:BorSpec P f args pre res post)(ok:Z7C pre.length post.length n ids=Y)(hr:IQ (Iv ids) res=res2)(hp:mvP ids post n=post2):BorSpec P f args pre res2 post2:=by
 simp only[Z7C,LX,List.all_eq_true,Bool.or_eq_true]at ok;obtain⟨⟨⟨⟨⟨k1,k2⟩,k3⟩,k4⟩,k5⟩,k6⟩:=ok;have k1:=Xj k1;have k2:=LC k2;have k3:=LC k3;have k4:=Ds k4;have mem:∀{j p:Nat},j<p->j∈upto 0 p:=λ{j p} hj=>Xc (by rw[Z0X _ _ _ hj,Xm]);have k5:∀j,j<post.length->ids.getD j 0<n/\(ids.getD j 0=j\/pre.length<=ids.getD j 0):=λj hj=>by(have:=k5 j (mem hj);exact⟨LC this.1,this.2.imp Xj LC⟩)
 have k6:∀k,k<n->E4 k ids 0=Lj->k<pre.length:=λk hk e=>by(have:=k6 k (mem hk);rw[e]at this;exact LC this)
 subst hr hp;have pl:(mvP ids post n).length=n:=by simp[mvP,Z2y]
 have pg:∀(k:Nat) (B:Z3),(mvP ids post n)[k]?=Lb B->k<n/\((∃j,ids[j]?=Lb k/\j<post.length/\B=GI ids (post.getD j .dead))\/(k<pre.length/\B=.dead)):=λk B hB=>by
  have hk:k<n:=by have:=(LJ.1 hB).1;omega
  simp only[mvP,List.getElem?_map,Z0X _ _ _ hk,Xm,Option.map_some,Option.some.injEq]at hB;refine⟨hk, ?_⟩;cases e:E4 k ids 0 with
  |none=>rw[e]at hB;exact .inr ⟨k6 k hk e,hB.symm⟩
  |some j =>
   rw[e]at hB;obtain⟨_,q⟩:=IJ e;have q:ids[j]?=Lb k:=by simpa using q
   exact .inl ⟨j,q,by have:=(LJ.1 q).1;omega,hB.symm⟩
 intro w Im ρ vs hIm hsz hρ hinj hbnd hpre hargs;refine(h w Im ρ vs hIm hsz hρ hinj hbnd hpre hargs).mono ?_;rintro e w' ⟨v,rfl,hk,ρ',Im',a1,a2,a3,a4,a5,a6,a7,a8,a9⟩;let ρ2:ZQ:=λk=>if k<pre.length then ρ' k else match E4 k ids 0 with|Lb j=>ρ' j|Lj=>Lj
 have hlow:∀k,k<pre.length->ρ2 k=ρ' k:=λk hk=>by simp only[ρ2,if_pos hk]
 have hat:∀(j k:Nat),ids[j]?=Lb k->ρ2 k=ρ' j:=λj k q=>by
  have hj:j<post.length:=by have:=(LJ.1 q).1;omega
  have e:ids.getD j 0=k:=by rw[Lc,q];rfl
  have c:=k5 j hj;rw[e]at c;by_cases hkp:k<pre.length;rw[hlow k hkp];rcases c.2 with c|c;rw[c];omega;simp only[ρ2,if_neg hkp];cases ex:E4 k ids 0 with|none=>exact absurd (Xc q) (Mw ex)|some j2 =>obtain⟨_,q2⟩:=IJ ex;rw[Ax k4 q (by simpa using q2)]
 have hfrom:∀k β,ρ2 k=Lb β->∃j,ρ' j=Lb β/\k<n:=λk β hb=>by
  by_cases hkp:k<pre.length;rw[hlow k hkp]at hb;exact⟨k,hb,by omega⟩;simp only[ρ2,if_neg hkp]at hb;split at hb;rename_i j hj;obtain⟨_,q⟩:=IJ hj;have q:ids[j]?=Lb k:=by simpa using q
  have hj:j<post.length:=by have:=(LJ.1 q).1;omega
  have:=k5 j hj;rw[Lc,q]at this;exact⟨j,hb,this.1⟩;cases hb
 have hren:∀j β,ρ' j=Lb β->ρ2 (ids.getD j 0)=Lb β:=λj β hb=>by
  have hj:=a2 j β hb;have q:ids[j]?=Lb (ids.getD j 0):=by rw[Lc,Lm oq];rfl
  rw[hat j _ q];exact hb
 have hlv:∀k,live (hL (mvP ids post n)) k->∃j,ids[j]?=Lb k/\live (hL post) j:=by(rintro k ⟨B,hB,hd⟩;obtain⟨_,⟨j,q1,q2,q3⟩|⟨_,q⟩⟩:=pg k B hB;refine⟨j,q1,post[j],Lm q2,λe=>hd ?_⟩;rw[q3,Lc,Lm q2];simp only[Option.getD_some,e,GI];exact absurd q hd)
 refine⟨v,rfl,hk,ρ2,Im',λk β hb=>?_,λk β hb=>?_,a3,a4,λk β g hb=>?_,λk β g hl hb=>?_,λk k' β β' g hl hl' hb hb' hg hg'=>?_,λk B hB=>?_, ?_⟩;rw[hlow k (hρ k β hb)];exact a1 k β hb;obtain⟨j,_,q⟩:=hfrom k β hb;rw[pl];exact q;obtain⟨j,q,_⟩:=hfrom k β hb;exact a5 j β g q;obtain⟨j,q1,q2⟩:=hlv k hl;rw[hat j k q1]at hb;exact a6 j β g q2 hb;obtain⟨j,q1,q2⟩:=hlv k hl;obtain⟨j',q1',q2'⟩:=hlv k' hl';rw[hat j k q1]at hb;rw[hat j' k' q1']at hb';have:=a7 j j' β β' g q2 q2' hb hb' hg hg';subst this;rw[q1]at q1';exact Option.some.inj q1';obtain⟨_,⟨j,q1,q2,rfl⟩|⟨q,rfl⟩⟩:=pg k B hB;obtain⟨β,m1,m2⟩:=a8 j _ (Lm q2);rw[Lc,Lm q2];exact⟨β,by rw[hat j k q1];exact m1,Z2C (λ_ h=>h) hren m2⟩;obtain⟨β,m1,_⟩:=hpre k _ (Lm q);exact⟨β,by rw[hlow k q];exact a1 k β m1,trivial⟩;obtain⟨q1,q2,q3⟩:=OW (w:=w') (Im:=Im') (Im':=Im') hren;exact P9 (λ_ h=>h) q1 q2 q3 a9
end Go.Sx
namespace Go.Proofs.YtgedmeaemofdkaaGreat
open Go.Sx
def El(w:Int):Nat->Int|0=>w|1=>w/4|_=>w/17179869184
def E5(w:Int):List Int:=[w%4,w/4%4294967296]
def uf1(w:Int)(i:Nat):Tg:=⟨tm 49 [(0,uU w),(1,ZC [2,32]),(4,.d (.sl 0 [])),(5,nI 0),(6,nI ([64,62,30].getD i 0)),(12,ZC [2,32]),(13,nI 2),(14,nI i)],[],20⟩
def ZgV w(i:Nat)(hi:i<2):CP (Zm f201 0) (uf1 w i).st .nrm (uf1 w (i+1)).st:=by
 have h:i=0\/i=1:=by omega
 rcases h with rfl|rfl;refine Zg [((16:Nat),[Hint.el (iD (2:Int))])] [] [] [] (φ:=(0:Int)<=(↑(0:Nat):Int)/\(Z iD [(2:Int),(32:Int)])[(↑(0:Nat):Int).toNat]?=Lb (iD (2:Int))) ?_ kr kr kr;exact(by simp[*]);refine Zg [((16:Nat),[Hint.el (iD (32:Int))])] [] [] [] (φ:=(0:Int)<=(↑(1:Nat):Int)/\(Z iD [(2:Int),(32:Int)])[(↑(1:Nat):Int).toNat]?=Lb (iD (32:Int))) ?_ kr kr kr;exact(by simp[*])
def Zmh w:CP (Zm f201 0) (uf1 w 2).st (.ext 0) (Tg.st ⟨tm 49 [(0,uU w),(1,ZC [2,32]),(4,.d (.sl 0 [])),(5,nI 0)],[],60⟩):=by exact sF [] [] Fz
def Z4F(w:Int)  := Bp (S:=λi=>(uf1 w i).st) 2 (by kernel_rfl) (λi hi=>ZgV w i hi) (Zmh w)
def uf2(w:Int)(i:Nat):Tg:=⟨tm 49 [(0,uU (El w i)),(4,.d (.sl 0 [])),(5,nI 0),(9,.ow 480009),(29,ZC [2,32]),(30,nI 2),(31,nI i)],[(480009,.arr 35 1 (((E5 w).take i).map wD))],60⟩
def ZlA(w:Int)(i:Nat)(h0:0<=w)(h1:w<=18446744073709551615)(hi:i<2):CP (Zm f201 2) (uf2 w i).st .nrm (uf2 w (i+1)).st:=by
 have o1:ones 2=3:=by decide
 have o3:ones 32=4294967295:=by decide
 have a0:bits .and .u64 w (ones 2)=w%4:=by rw[o1];exact NU 2 dd dd oq oq
 have a1:bits .and .u64 (w/4) (ones 32)=w/4%4294967296:=by rw[o3];exact NU 32 dd dd oq oq
 have f1:(w/4).fdiv 4294967296=w/17179869184:=by rw[Int.fdiv_eq_ediv_of_nonneg _ dd];omega
 have h:i=0\/i=1:=by omega
 rcases h with rfl|rfl;exact sF [(496041,480009)] []<|Fh 33 [.el (iD 2)]<|Fa (by simp[El,E5, *]:0<=(↑(0:Nat):Int)/\(Z iD [2,32])[(↑(0:Nat):Int).toNat]?=Lb (iD 2))<|Fc 38 (@S8 (2))<|Fg 39 (by assumption:bits LU La (El w 0) (ones (2:Int))=El w 0%4)<|Fs 40 (Z wD [El w 0%4])<|Fa (by simp[El,E5, *]:(Z wD (Li 0 (E5 w))).length+(Z wD [El w 0%4]).length<=2^30)<|Fs 41 (Z wD [El w 0%4])<|Fg 44 (HI rfl dd:(El w 0).fdiv (2^min (Lv 2) 64)=El w 0/4)<|Fo ((0:Int)<=2) Fz;exact sF [(496041,480009)] [Y]<|Fh 33 [.el (iD 32)]<|Fa (by simp[El,E5, *]:0<=(↑(1:Nat):Int)/\(Z iD [2,32])[(↑(1:Nat):Int).toNat]?=Lb (iD 32))<|Fc 38 (@S8 (32))<|Fg 39 (by assumption:bits LU La (El w 1) (ones (32:Int))=El w 1%4294967296)<|Fs 40 (Z wD [El w 1%4294967296])<|Fa (by simp[El,E5, *]:(Z wD (Li 1 (E5 w))).length+(Z wD [El w 1%4294967296]).length<=2^30)<|Fs 41 (Z wD [w%4,El w 1%4294967296])<|Fg 44 (HI rfl dd:(El w 1).fdiv (2^min (Lv 32) 64)=El w 1/4294967296)<|Fo ((0:Int)<=32)<|Fa (by(simp[El,E5, *];omega):El w 1/4294967296=El w (1+1)) Fz
def Zf5 w:CP (Zm f201 2) (uf2 w 2).st (.ext 2) (Tg.st ⟨tm 49 [(0,uU (w/17179869184)),(4,.d (.sl 0 [])),(5,nI 0),(9,.ow 480009)],[(480009,.arr 35 1 ((E5 w).map wD))],60⟩):=by exact sF [] [] Fz
def Z9P(w:Int)(a:0<=w)(b:w<=18446744073709551615)  := Bp (S:=λi=>(uf2 w i).st) 2 (by kernel_rfl) (λi hi=>ZlA w i a b hi) (Zf5 w)
def Z6b(w:Int)(h0:0<=w)(h1:w<=18446744073709551615)(h:w<17179869184):GP 201 [uU w,ZC [2,32]] Y (.tu [Z2 (E5 w),nI 0]) []:=by exact gF [] func201 []<|Fh 9 [.own]<|Fu (@Z4F w)<|Fu (@Z9P w aa aa)<|Ffb 47 (w/(17179869184:Int) != 0)<|Fa (Hd _:Ce (Z wD (E5 w))) Fz
def Zgk(w:Int)(h0:0<=w)(h1:w<=18446744073709551615)(h:¬ w<17179869184):GP 201 [uU w,ZC [2,32]] Y (.tu [Z2 [],nI 2]) []:=by exact gF [] func201 []<|Fh 9 [.own]<|Fu (@Z4F w)<|Fu (@Z9P w aa aa)<|Ftb 47 (w/(17179869184:Int) != 0)<|Fnl Fz
def Rh(w:Int)(h0:0<=w)(h1:w<=18446744073709551615):GP 177 [uU w] Y (.tu [uU (ZG w).1,bL (ZG w).2]) []:=by have u0:(E5 w).getD 0 X=w%4:=rfl;have u1:(E5 w).getD 1 X=w/4%4294967296:=rfl;have uL:(E5 w).length=2:=rfl;by_cases h:w<17179869184;rcases bb ((E5 w).getD 0 X != 2)with hc0|hc0<;>have a:=hc0<;>simp only[bs]at a;rw[show ZG w=((0:Int),M)from by(simp[ZG, *];omega)];exact gF [] func177 []<|Fh 16 [.el (wD ((E5 w).getD 0 X))]<|Fs 8 (Z iD [2,32])<|Fc 9 (@Z6b w aa aa aa)<|Fa (by intro b;(try simp only[bs]at b);exact Zn oq oq oq:(!(0:Int) != 0)=Y->(0:Int)<=0/\(Z wD (E5 w))[Lv 0]?=Lb (wD ((E5 w).getD 0 X)))<|Ft 19 hc0 Fz;rw[show ZG w=((E5 w).getD (1:Nat) X,Y)from by grind[ZG]];refine Zc [((8:Nat),[Hint.els (Z iD [(2:Int),(32:Int)])]),((9:Nat),[Hint.call Y (AV.tu [Z2 (E5 w),nI (0:Int)]) []]),((16:Nat),[Hint.el (wD ((E5 w).getD (0:Nat) X))]),((19:Nat),[Hint.br M]),((21:Nat),[Hint.el (wD ((E5 w).getD (1:Nat) X))])] [] [] dd func177 [] (φ:=((LL (2:Nat) [Zq (0:Int)]).set ((0:Nat),Operand.const (Value.int Lh (2:Int))).1 [Zq (2:Int)]).set ((1:Nat),Operand.const (Value.int Lh (32:Int))).1 [Zq (32:Int)]=Z iD [(2:Int),(32:Int)]/\GP 201 [uU w,ZC [(2:Int),(32:Int)]] Y (AV.tu [Z2 (E5 w),nI (0:Int)]) []/\((!(0:Int) != (0:Int))=Y->(0:Int)<=(0:Int)/\(Z wD (E5 w))[Lv (0:Int)]?=Lb (wD ((E5 w).getD (0:Nat) X)))/\((E5 w).getD (0:Nat) X != (2:Int))=M/\M=M/\(0:Int)<=(1:Int)/\(Z wD (E5 w))[Lv (1:Int)]?=Lb (wD ((E5 w).getD (1:Nat) X))) ?_ kr kr;exact⟨rfl,(@Z6b (w) aa aa aa),(by intro b;(try simp only[bs]at b);exact Zn oq oq oq),aa,rfl,(by exact Zn oq oq oq)⟩;rw[show ZG w=((0:Int),M)from by(simp[ZG, *];omega)];exact gF [] func177 []<|Fh 16 [.el (wD ([].getD 0 X))]<|Fs 8 (Z iD [2,32])<|Fc 9 (@Zgk w aa aa aa)<|Fa (by intro b;(try simp only[bs]at b);exact Zn oq oq oq:(!(2:Int) != 0)=Y->(0:Int)<=0/\(Z wD [])[Lv 0]?=Lb (wD ([].getD 0 X))) Fz
def Bt(a:Int):List BC:=[⟨2,2⟩,⟨32,a⟩]
def pf1(a:Int)(i:Nat):Tg:=⟨tm 55 [(0,.d (.sl 2 ((Bt a).map BC.dv))),(2,uU 0),(3,nI 0),(4,nI ([64,62,30].getD i 0)),(11,.d (.sl 2 ((Bt a).map BC.dv))),(12,nI (Bt a).length),(13,nI i)],[],4⟩
def Zbl a(i:Nat)(hi:i<2):CP (Zm f233 0) (pf1 a i).st .nrm (pf1 a (i+1)).st:=by
 have eL:(Bt a).length=2:=rfl;have e0:(Bt a).getD 0 X=⟨2,2⟩:=rfl;have e1:(Bt a).getD 1 X=⟨32,a⟩:=rfl;have h:i=0\/i=1:=by omega
 rcases h with rfl|rfl;exact sF [] []<|Fek 15 BC.dv (Bt a) (↑(0:Nat):Int) 0<|Fg 29 (rfl:Lh.wrap ([64,62,30].getD 0 0-((Bt a).getD 0 X).width)=64-((Bt a).getD 0 X).width) Fz;exact sF [] []<|Fek 15 BC.dv (Bt a) (↑(1:Nat):Int) 1<|Fg 29 (rfl:Lh.wrap ([64,62,30].getD 1 0-((Bt a).getD 1 X).width)=62-((Bt a).getD 1 X).width) Fz
def ZcN a:CP (Zm f233 0) (pf1 a 2).st (.ext 0) (Tg.st ⟨tm 55 [(0,.d (.sl 2 ((Bt a).map BC.dv))),(2,uU 0),(3,nI 0)],[],4⟩):=by have eL:(Bt a).length=2:=rfl;exact sF [] [] Fz
def ZdD(a:Int)  := Bp (S:=λi=>(pf1 a i).st) 2 (by kernel_rfl) (λi hi=>Zbl a i hi) (ZcN a)
def pfW(a:Int)(i:Nat):Int:=[0,2,2+4*a].getD i 0
def pf2(a:Int)(i:Nat):Tg:=⟨tm 55 [(2,uU 0),(3,nI 0),(7,uU (pfW a i)),(8,nI ([0,2,34].getD i 0)),(31,.d (.sl 2 ((Bt a).map BC.dv))),(32,nI (Bt a).length),(33,nI i)],[],6⟩
def Zhl(a:Int)(i:Nat)(h:0<=a/\a<=4294967295)(hi:i<2):CP (Zm f233 2) (pf2 a i).st .nrm (pf2 a (i+1)).st:=by
 have eL:(Bt a).length=2:=rfl;have e0:(Bt a).getD 0 X=⟨2,2⟩:=rfl;have e1:(Bt a).getD 1 X=⟨32,a⟩:=rfl;have f1:bits .or .u64 (pfW a 1) (La.wrap (((Bt a).getD 1 X).value*4))=pfW a (1+1):=(orI 2 (a:=2) (v:=a) dd oq oq oq oq).trans (by show _=2+4*a;omega);have h:i=0\/i=1:=by omega
 rcases h with rfl|rfl;refine Zg [((35:Nat),[Hint.el ((Bt a).getD (0:Nat) X).dv]),((41:Nat),[Hint.call Y (bL Y) []]),((47:Nat),[Hint.int (((Bt a).getD (0:Nat) X).value*(1:Int))]),((52:Nat),[Hint.int ((0:Int)+((Bt a).getD (0:Nat) X).width)])] [] [] [] (φ:=((0:Int)<=(↑(0:Nat):Int)/\(Z BC.dv (Bt a))[(↑(0:Nat):Int).toNat]?=Lb ((Bt a).getD (0:Nat) X).dv)/\GP 250 [uU ((Bt a).getD (0:Nat) X).value,nI ((Bt a).getD (0:Nat) X).width] Y (bL Y) []/\La.wrap (((Bt a).getD (0:Nat) X).value*(2:Int)^min ([(0:Int),(2:Int),(34:Int)].getD (0:Nat) (0:Int)).toNat (64:Nat))=((Bt a).getD (0:Nat) X).value*(1:Int)/\(0:Int)<=[(0:Int),(2:Int),(34:Int)].getD (0:Nat) (0:Int)/\Lh.wrap ([(0:Int),(2:Int),(34:Int)].getD (0:Nat) (0:Int)+((Bt a).getD (0:Nat) X).width)=(0:Int)+((Bt a).getD (0:Nat) X).width) ?_ kr kr kr;exact⟨(by exact Zn oq oq oq),(@De (((Bt a).getD (0:Nat) X).value) (((Bt a).getD (0:Nat) X).width) (by grind[pfW]) (by grind[pfW]) (by grind[pfW])),rfl,(by simp[pfW, *]),rfl⟩;refine Zg [((35:Nat),[Hint.el ((Bt a).getD (1:Nat) X).dv]),((41:Nat),[Hint.call Y (bL Y) []]),((48:Nat),[Hint.int (bits Lf La (pfW a (1:Nat)) (La.wrap (((Bt a).getD (1:Nat) X).value*(4:Int))))]),((52:Nat),[Hint.int ((2:Int)+((Bt a).getD (1:Nat) X).width)])] [] [] [M,M,Y] (φ:=((0:Int)<=(↑(1:Nat):Int)/\(Z BC.dv (Bt a))[(↑(1:Nat):Int).toNat]?=Lb ((Bt a).getD (1:Nat) X).dv)/\GP 250 [uU ((Bt a).getD (1:Nat) X).value,nI ((Bt a).getD (1:Nat) X).width] Y (bL Y) []/\(0:Int)<=[(0:Int),(2:Int),(34:Int)].getD (1:Nat) (0:Int)/\bits Lf La (pfW a (1:Nat)) (La.wrap (((Bt a).getD (1:Nat) X).value*(2:Int)^min ([(0:Int),(2:Int),(34:Int)].getD (1:Nat) (0:Int)).toNat (64:Nat)))=bits Lf La (pfW a (1:Nat)) (La.wrap (((Bt a).getD (1:Nat) X).value*(4:Int)))/\Lh.wrap ([(0:Int),(2:Int),(34:Int)].getD (1:Nat) (0:Int)+((Bt a).getD (1:Nat) X).width)=(2:Int)+((Bt a).getD (1:Nat) X).width/\bits Lf La (pfW a (1:Nat)) (La.wrap (((Bt a).getD (1:Nat) X).value*(4:Int)))=pfW a ((1:Nat)+(1:Nat))) ?_ kr kr kr;exact⟨(by exact Zn oq oq oq),(@De (((Bt a).getD (1:Nat) X).value) (((Bt a).getD (1:Nat) X).width) (by simp only[bs, *,true_or,or_true,true_and,and_true,not_true_eq_false,not_false_eq_true,LG,LF]) (by grind[pfW]) (by grind[pfW])),(by simp[pfW, *]),rfl,rfl,aa⟩
def ZkF a:CP (Zm f233 2) (pf2 a 2).st (.ext 2) (Tg.st ⟨tm 55 [(2,uU 0),(3,nI 0),(7,uU (2+4*a))],[],6⟩):=by have eL:(Bt a).length=2:=rfl;have ew:pfW a 2=2+4*a:=rfl;exact sF [] [] Fz
def Zmo(a:Int)(h:0<=a/\a<=4294967295)  := Bp (S:=λi=>(pf2 a i).st) 2 (by kernel_rfl) (λi hi=>Zhl a i h hi) (ZkF a)
def Zii(a:Int)(h:0<=a/\a<=4294967295):GP 233 [.d (.sl 2 ((Bt a).map BC.dv))] Y (.tu [uU (2+4*a),nI 0]) []:=by exact gF [] func233 []<|Fg 12 (rfl:(↑(Z BC.dv (Bt a)).length:Int)=(↑(Bt a).length:Int))<|Fu (@ZdD a)<|Fg 32 (rfl:(↑(Z BC.dv (Bt a)).length:Int)=(↑(Bt a).length:Int))<|Fu (@Zmo a aa) Fz
def Ziu(a:Int)(h:0<=a/\a<=4294967295):GP 213 [uU a] Y (.tu [uU (4*a+2),nI 0]) []:=by
 have o3:ones 32=4294967295:=by decide
 have e:2+4*a=4*a+2:=by omega
 exact gF [] func213 [Y]<|Fc 5 (@S8 (32))<|Ffb 6 (O (ones (32:Int)<a))<|Fs 10 (Z BC.dv [BC.mk 2 2,BC.mk 32 a])<|Fc 11 (@Zii a aa)<|Fa ‹(2:Int)+4*a=4*a+2›<|Fr (0:Int) Fz
def GF(l:List Int)(v:Int):Nat:=(l.takeWhile λx=>!(v==x)).length
def Tp{l v}{m:Nat}(h:m<GF l v):m<l.length/\(v==l.getD m X)=M:=by obtain⟨a,b⟩:=Au _ _ _ h;refine⟨a, ?_⟩;rw[Lc,Lm a];simpa using b
def Z3M{l}{v:Int}(h:GF l v<l.length):(v==l.getD (GF l v) X)=Y:=by
 have a:=Ao (λx=>!(v==x)) l h;have b:l.getD (GF l v) X=l[(l.takeWhile λx=>!(v==x)).length]:=by(rw[Lc,Lm h];rfl)
 rw[b];simpa using a
def Z0J{l}{v:Int}:GF l v<l.length↔v∈l:=by constructor;intro h;have:=Z3M h;exact ZT.2 ⟨_,h,by simpa using (eq_of_beq this).symm⟩;intro h;obtain⟨k,hk,e⟩:=ZT.1 h;rcases LS k (GF l v)with q|q;have:=(Tp q).2;rw[e]at this;simp at this;omega
def HY(l:List Int)(v:Int):Int:=if v∈l then GF l v else -1
def M3(l:List Int)(v:Int)(i:Nat):Tg:=⟨tm 19 [(0,Z2 l),(1,uU v),(4,nI 0),(7,nI l.length),(8,nI i)],[],3⟩
def Z8a(l:List Int)(v:Int)(i:Nat)(hl:l.length<=1048576)(hi:i<l.length)(e:(v==l.getD i X)=M):CP (Zm f121 0) (M3 l v i).st .nrm (M3 l v (i+1)).st:=by exact sF [] []<|Ftb 9 (O ((i:Int)<(l.length:Int)))<|Fek 14 wD l (↑i) i<|Ff 16 ‹(v==l.getD i X)=M›<|Fx 18 i Fz
def Zgs(l:List Int)(v:Int)(i:Nat)(hl:l.length<=1048576)(hi:i<l.length)(e:(v==l.getD i X)=Y):CP (Zm f121 0) (M3 l v i).st .ret (Tg.st ⟨tm 19 [(4,nI i)],[],60⟩):=by exact sF [] []<|Ftb 9 (O ((i:Int)<(l.length:Int)))<|Fek 14 wD l (↑i) i<|Ft 16 ‹(v==l.getD i X)=Y› Fz
def Zbk l v:CP (Zm f121 0) (M3 l v l.length).st (.ext 0) (Tg.st ⟨tm 19 [(4,nI 0)],[],60⟩):=by exact sF [] []<|Ffb 9 (O ((l.length:Int)<(l.length:Int))) Fz
def Zga(l:List Int)(v:Int)(hl:l.length<=1048576)(h:¬ v∈l)  := Bp (S:=λj=>(M3 l v j).st) l.length (by kernel_rfl) (λj a=>Z8a l v j hl a (Tp (by rcases LS j (GF l v)with q|q;exact q;exact absurd (Z0J.1 (by omega)) h)).2) (Zbk l v)
def ZjN(l:List Int)(v:Int)(hl:l.length<=1048576)(h:v∈l):CP (Zi f121 0) (Tg.st ⟨tm 19 [(0,Z2 l),(1,uU v),(4,nI 0),(7,nI l.length),(8,nI 0)],[],3⟩) .ret (Tg.st ⟨tm 19 [(4,nI (GF l v))],[],60⟩):=
 have a:GF l v<l.length:=Z0J.2 h
 EJ (S:=λj=>(M3 l v j).st) (GF l v) kr (λj b=>Z8a l v j hl oq (Tp b).2) (Zgs l v (GF l v) hl a (Z3M a))
def Mm(l:List Int)(v:Int)(i:Nat):Tg:=⟨tm 19 [(0,ZC l),(1,nI v),(4,nI 0),(7,nI l.length),(8,nI i)],[],3⟩
def Z5g(l:List Int)(v:Int)(i:Nat)(hl:l.length<=1048576)(hi:i<l.length)(e:(v==l.getD i X)=M):CP (Zm f230 0) (Mm l v i).st .nrm (Mm l v (i+1)).st:=by exact sF [] []<|Ftb 9 (O ((i:Int)<(l.length:Int)))<|Fek 14 iD l (↑i) i<|Ff 16 ‹(v==l.getD i X)=M›<|Fx 18 i Fz
def Zex(l:List Int)(v:Int)(i:Nat)(hl:l.length<=1048576)(hi:i<l.length)(e:(v==l.getD i X)=Y):CP (Zm f230 0) (Mm l v i).st .ret (Tg.st ⟨tm 19 [(4,nI i)],[],60⟩):=by exact sF [] []<|Ftb 9 (O ((i:Int)<(l.length:Int)))<|Fek 14 iD l (↑i) i<|Ft 16 ‹(v==l.getD i X)=Y› Fz
def ZlV l v:CP (Zm f230 0) (Mm l v l.length).st (.ext 0) (Tg.st ⟨tm 19 [(4,nI 0)],[],60⟩):=by exact sF [] []<|Ffb 9 (O ((l.length:Int)<(l.length:Int))) Fz
def Zh1(l:List Int)(v:Int)(hl:l.length<=1048576)(h:¬ v∈l)  := Bp (S:=λj=>(Mm l v j).st) l.length (by kernel_rfl) (λj a=>Z5g l v j hl a (Tp (by rcases LS j (GF l v)with q|q;exact q;exact absurd (Z0J.1 (by omega)) h)).2) (ZlV l v)
def Zkr(l:List Int)(v:Int)(hl:l.length<=1048576)(h:v∈l):CP (Zi f230 0) (Tg.st ⟨tm 19 [(0,ZC l),(1,nI v),(4,nI 0),(7,nI l.length),(8,nI 0)],[],3⟩) .ret (Tg.st ⟨tm 19 [(4,nI (GF l v))],[],60⟩):=
 have a:GF l v<l.length:=Z0J.2 h
 EJ (S:=λj=>(Mm l v j).st) (GF l v) kr (λj b=>Z5g l v j hl oq (Tp b).2) (Zex l v (GF l v) hl a (Z3M a))
def Zl8(l:List Int) v(hl:l.length<=1048576):GP 121 [Z2 l,uU v] Y (nI (HY l v)) []:=by by_cases h:v∈l;have a:HY l v=GF l v:=if_pos h;rw[a];exact gF [] func121 []<|Fl 7 wD l<|Fu (@ZjN l v aa aa) Fz;have a:HY l v=-1:=if_neg h;rw[a];exact gF [] func121 []<|Fl 7 wD l<|Fu (@Zga l v aa aa) Fz
def Zlc(l:List Int) v(hl:l.length<=1048576):GP 230 [ZC l,nI v] Y (nI (HY l v)) []:=by by_cases h:v∈l;have a:HY l v=GF l v:=if_pos h;rw[a];exact gF [] func230 []<|Fl 7 iD l<|Fu (@Zkr l v aa aa) Fz;have a:HY l v=-1:=if_neg h;rw[a];exact gF [] func230 []<|Fl 7 iD l<|Fu (@Zh1 l v aa aa) Fz
def Ey(l:List Int) v(hl:l.length<=1048576):GP 71 [Z2 l,uU v] Y (bL (O (v∈l))) []:=by
 have h:(0<=HY l v↔v∈l):=by unfold HY;split<;>simp[*]
 exact gF [] func71 [Y]<|Fc 7 (@Zl8 l v aa)<|Fbs (O (0<=HY l v)=O (v∈l)) Fz
def OZ(l:List Int) v(hl:l.length<=1048576):GP 209 [ZC l,nI v] Y (bL (O (v∈l))) []:=by
 have h:(0<=HY l v↔v∈l):=by unfold HY;split<;>simp[*]
 exact gF [] func209 [Y]<|Fc 7 (@Zlc l v aa)<|Fbs (O (0<=HY l v)=O (v∈l)) Fz
def Zkk(c:Nat):GP 123 [.d (.sc (.slice Lj 0 c))] Y (.ow 0) [.arr 35 1 []]:=
 Zc [((2:Nat),[Hint.own])] [] [(24002:Nat)] dd func123 [] (φ:=Ce []) (λ_ h=>nomatch h) kr kr
def Zh8 p(c:Nat):GP 123 [.d (.sc (.slice (Lb p) 0 c))] Y (.ow 0) [.arr 35 1 []]:=by exact gF [24007] func123 []<|Fs 5 (Z wD [])<|Fa (by simp[*]:(Z wD []).length+([]:List (List DV)).length<=2^30)<|Fs 7 (Z wD [])<|Fa (Hd _:Ce (Z wD [])) Fz
def Zer(ws:List Int)(hw:ws.length<=1048576)(hne:ws≠[]):GP 123 [Z2 ws] Y (.ow 0) [.arr 35 1 (ws.map wD)]:=by exact gF [24007] func123 []<|Fa (TW hne:Z wD ws≠[])<|FA 5 7 wD ws<|Fa (Hd _:Ce (Z wD ws)) Fz
def ML(ws:List Int)(b:ws.length<=1048576):GP 123 [Z2 ws] Y (.ow 0) [.arr 35 1 (ws.map wD)]:=by
 by_cases a:ws=[];subst a;exact Z35 λp c=>match p with|Lj=>Zkk c|Lb p=>Zh8 p c
 exact Zer ws b a
def Zkh(c:Nat):GP 175 [.d (.sc (.slice Lj 0 c))] Y (.ow 0) [.arr 3 1 []]:=
 Zc [((2:Nat),[Hint.own])] [] [(24002:Nat)] dd func175 [] (φ:=Ce []) (λ_ h=>nomatch h) kr kr
def ZiV p(c:Nat):GP 175 [.d (.sc (.slice (Lb p) 0 c))] Y (.ow 0) [.arr 3 1 []]:=by exact gF [24007] func175 []<|Fs 5 (Z iD [])<|Fa (by simp[*]:(Z iD []).length+([]:List (List DV)).length<=2^30)<|Fs 7 (Z iD [])<|Fa (Dd _:Ce (Z iD [])) Fz
def Zi8(ws:List Int)(hw:ws.length<=1048576)(hne:ws≠[]):GP 175 [ZC ws] Y (.ow 0) [.arr 3 1 (ws.map iD)]:=by exact gF [24007] func175 []<|Fa (TW hne:Z iD ws≠[])<|FA 5 7 iD ws<|Fa (Dd _:Ce (Z iD ws)) Fz
def Zlx(ws:List Int)(b:ws.length<=1048576):GP 175 [ZC ws] Y (.ow 0) [.arr 3 1 (ws.map iD)]:=by
 by_cases a:ws=[];subst a;exact Z35 λp c=>match p with|Lj=>Zkh c|Lb p=>ZiV p c
 exact Zi8 ws b a
def ZfP(c:Nat):GP 124 [.d (.sc (.slice Lj 0 c))] Y (.ow 0) [.arr 86 4 []]:=
 Zc [((2:Nat),[Hint.own])] [] [(24002:Nat)] dd func124 [] (φ:=Ce []) (λ_ h=>nomatch h) kr kr
def Ze9 p(c:Nat):GP 124 [.d (.sc (.slice (Lb p) 0 c))] Y (.ow 0) [.arr 86 4 []]:=by exact gF [24007] func124 []<|Fs 5 (Z Z0.dv [])<|Fa (by simp[*]:(Z Z0.dv []).length+([]:List (List DV)).length<=2^30)<|Fs 7 (Z Z0.dv [])<|Fa (N8 _:Ce (Z Z0.dv [])) Fz
def Z43(l:List Z0)(hl:l.length<=1048576):GP 124 [B5 l] Y (.ow 0) [.arr 86 4 (l.map Z0.dv)]:=by
 by_cases a:l=[];subst a;exact Z35 λp c=>match p with|Lj=>ZfP c|Lb p=>Ze9 p c
 exact Z3U l hl a
end Go.Proofs.YtgedmeaemofdkaaGreat
