/-
 The statement CollectHeaps: part 10.
 Conditions: none.
-/
import Derived.Test.YtgedmeaemofdkaaGreatA9
set_option maxRecDepth 100000
set_option maxHeartbeats 2000000
set_option linter.all false
open Inhabited renaming default->X
open Bool renaming true->Y,false->M,false_eq_true->LF,true_eq_false->LG,and_eq_true->LX
open List renaming map->Z,getD_eq_getElem?_getD->Lc,range->Lg,take->Li,length_map->Lk,getElem?_eq_getElem->Lm,drop->Ln,find?_range_eq_some->Lo,mem_range->Lp,mem_append_left->Lq,find?_eq_none->Lr,mem_append->Ls,getElem?_eq_none->Lw,length_set->Lx,getElem?_drop->Lz,mem_singleton->LA,getElem?_eq_some_iff->LJ,mem_append_right->LK,replicate->LL,append_nil->LN,mem_iff_getElem->LO,mem_or_eq_of_mem_set->LQ,takeWhile_cons->LR,append_assoc->L1,ext_getElem->L2,getElem_map->L3,getElem_range->L4,getElem_set->L5,length_cons->L6,map_append->L7,map_drop->L8,map_set->L9,map_take->Xa,mem_cons->Xb,mem_of_getElem?->Xc,mem_of_mem_take->Xd,not_mem_nil->Xe,pairwise_cons->Xf,pairwise_iff_getElem->Xg,set_set->Xh
open Decidable renaming decide->O,not_not->Ly
open Go.IntKind renaming u64->La,i64->Lh
open Option renaming some->Lb,none->Lj
open Or renaming inr->Ld,inl->Le
open Go.BinOp renaming or->Lf,and->LU
open Int renaming mul_comm->Ll,mul_nonneg->Lu,toNat->Lv,add_mul->LH,mul_le_mul_of_nonneg_right->LI,eq_ofNat_of_zero_le->LM,emod_lt_of_pos->LY,mul_ediv_add_emod->LZ,toNat_natCast->L0
open Nat renaming le_refl->Lt,ble->LB,le_of_ble_eq_true->LC,lt_or_ge->LS,beq->Xi,eq_of_beq_eq_true->Xj,mod_eq_of_lt->Xk,pow_le_pow_right->Xl,zero_add->Xm
open BitVec renaming ofInt->LD,ofInt_natCast->LV,toNat_ofNat->LW
open Go.Proofs.Tryz
namespace Go.Proofs.YtgedmeaemofdkaaGreat
open Go.Sx
def SR{α:Type} p:∀(l:List α) (m:Nat),m<(l.takeWhile p).length->∃h:m<l.length,p l[m]=Y
 |[],m,h=>by simp at h
 |x::l,m,h=>by
  rw[LR]at h;split at h
  .rename_i b;cases m with
   |zero=>exact⟨by simp,b⟩
   |succ m =>
    obtain⟨h1,a⟩:=SR p l m (by simpa using h);exact⟨by simp;omega,by simpa using a⟩
  .simp at h
def SY{α:Type} p:∀(l:List α) (h:(l.takeWhile p).length<l.length),p l[(l.takeWhile p).length]=M
 |[],h=>by simp at h
 |x::l,h=>by
  by_cases a:p x=Y
  .have e:((x::l).takeWhile p).length=(l.takeWhile p).length+1:=by rw[LR,if_pos a];rfl
   have:=SY p l (by simp only[e,L6]at h;omega);simp only[e,List.getElem_cons_succ];exact this
  .have e:((x::l).takeWhile p).length=0:=by rw[LR,if_neg a];rfl
   simp only[e,List.getElem_cons_zero];simpa using a
def Rw{l}{i m:Nat}(h:m<ZA l i):i+1+m<l.length/\(l.getD (i+1+m) X).K=3:=by
 obtain⟨b,c⟩:=SR _ _ _ h;have a:i+1+m<l.length:=by simp at b;omega
 refine⟨a, ?_⟩;simpa[Lc,a]using c
def Ts{l}{i:Nat}(h:i+1+ZA l i<l.length):¬ (l.getD (i+1+ZA l i) X).K=3:=by
 have b:=SY (λp:Z0=>p.K==3) (l.drop (i+1)) (by simp;unfold ZA at h;omega);intro c;have d:(l.drop (i+1))[ZA l i]' qo=l.getD (i+1+ZA l i) X:=by simp[Lc,h]
 have a:(((l.drop (i+1))[ZA l i]' qo).K==3)=M:=b;rw[d,c]at a;simp at a
def Z6A{l i}(s:Int):ZH l i 0 s=l.set i (Nc s (l.getD i X)):=by
 refine L2 (by simp[ZH]) λj h1 b=>?_;have h:j<l.length:=by simpa using b
 have e:l.getD j X=l[j]:=by simp[Lc,h]
 simp only[ZH,L3,L4,L5,e];by_cases a:i=j;subst a;rw[if_pos oq,if_pos rfl,e];rw[if_neg oq,if_neg a]
def Z7E{l:List Z0}{i m:Nat} s(h:i+1+m<l.length):(ZH l i m s).set (i+1+m) (Nc s (l.getD (i+1+m) X))=ZH l i (m+1) s:=by
 refine L2 (by simp[ZH]) λj h1 c=>?_;have h:j<l.length:=by simpa[ZH]using c
 have e:l.getD j X=l[j]:=by simp[Lc,h]
 simp only[ZH,L3,L4,L5,e];by_cases a:i+1+m=j;subst a;rw[if_pos rfl,if_pos oq,e];rw[if_neg a];by_cases b:i<=j/\j<=i+m;rw[if_pos b,if_pos oq];rw[if_neg b,if_neg oq]
def Z0b{l i m} s:(ZH l i m s).getD (i+1+m) X=l.getD (i+1+m) X:=by by_cases h:i+1+m<l.length;rw[Ht h,if_neg oq];rw[Lc,Lc,Lw (by rw[GY];omega),Lw oq]
def Mf(w:Z7)(r x:Int)(m:Nat):Tg:=⟨tm 202 [(1,uU r),(2,.pt 8002 0 0),(4,.pt 8004 0 0),(5,uU 0),(6,nI 0),(14,nI (x+1+m))],[(88094,.arr 86 4 ((ZH w.j.P x.toNat m (1-w.j.S)).map Z0.dv)),(8002,.box 138 [nI w.j.C.pw,nI w.j.C.pg,Z2 w.j.W,.ow 88094,nI w.j.S,nI w.j.B,Z2 w.old,ZE w.T,Z2 w.Q,nI w.D,nI w.rep.copied,nI w.rep.kept,nI w.rep.filled,nI w.rep.freed,nI w.rep.cleared,nI w.rep.steps]),(8004,.box 138 zW)],60⟩
def ZiI(w:Z7)(r x:Int)(m:Nat)(hs:w.j.S=0\/w.j.S=1)(hl:w.j.P.length<=1048576)(hx:0<=x)(j:m<ZA w.j.P x.toNat):CP (Zl f137 0) (Mf w r x m).st .nrm (Mf w r x (m+1)).st:=by
 have e:=Rw j;have f:=Z0b (l:=w.j.P) (i:=x.toNat) (m:=m) (1-w.j.S);have hn:=GY w.j.P x.toNat m (1-w.j.S);have d:=Z7E (1-w.j.S) e.1;unfold Nc at d;rw[<-f]at d e;have h:x.toNat+1+m=(x+1+(m:Int)).toNat:=by omega
 have eI:((x.toNat+1+m:Nat):Int)=x+1+(m:Int):=by omega
 rw[h]at f d e;let b:=ZH w.j.P x.toNat m (1-w.j.S);let c:=x+1+(m:Int);let a:=b.getD c.toNat X;let g:=x+1+(m:Int)<(b.length:Int);exact sF [] (fP 13)<|Fl 113 Z0.dv (ZH w.j.P x.toNat m ((1:Int)-w.j.S))<|FmGq 122 (decide g) Z0.dv b c<|Ftb 124 (decide g&&a.K==3)<|Fi 134 (1-w.j.S)<|Fm0q Z0.dv b c<|FS 10136 Z0.dv b (c.toNat) (Z0.mk a.K (1-w.j.S) a.U a.N) (a.dv)<|Fi 126 (x+1+(m:Int)+1)<|Fo (x+1+(m:Int)+1=x+1+(↑(m+1):Int))<|Fr (86:Int)<|Fa (by refine congrArg _ ?_;exact d:Z Z0.dv (b.set c.toNat (Z0.mk a.K (1-w.j.S) a.U a.N))=Z Z0.dv (ZH w.j.P x.toNat (m+1) (1-w.j.S))) Fz
def ZjO(w:Z7)(r x:Int)(hl:w.j.P.length<=1048576)(hx:0<=x):CP (Zl f137 0) (Mf w r x (ZA w.j.P x.toNat)).st (.ext 0) (Tg.st ⟨tm 202 [(1,uU r),(2,.pt 8002 0 0),(4,.pt 8004 0 0),(5,uU 0),(6,nI 0)],[(88094,.arr 86 4 ((ZH w.j.P x.toNat (ZA w.j.P x.toNat) (1-w.j.S)).map Z0.dv)),(8002,.box 138 [nI w.j.C.pw,nI w.j.C.pg,Z2 w.j.W,.ow 88094,nI w.j.S,nI w.j.B,Z2 w.old,ZE w.T,Z2 w.Q,nI w.D,nI w.rep.copied,nI w.rep.kept,nI w.rep.filled,nI w.rep.freed,nI w.rep.cleared,nI w.rep.steps]),(8004,.box 138 zW)],60⟩):=by
 have c:=λh=>Ts (l:=w.j.P) (i:=x.toNat) h;have b:=Z0b (l:=w.j.P) (i:=x.toNat) (m:=ZA w.j.P x.toNat) (1-w.j.S);have hn:=GY w.j.P x.toNat (ZA w.j.P x.toNat) (1-w.j.S);have a:x.toNat+1+ZA w.j.P x.toNat=(x+1+(ZA w.j.P x.toNat:Int)).toNat:=by omega
 rw[<-b,a]at c;exact sF [] []<|Fl 113 Z0.dv (ZH w.j.P x.toNat (ZA w.j.P x.toNat) ((1:Int)-w.j.S))<|FmGq 122 (O (x+1+(↑(ZA w.j.P x.toNat):Int)<(↑(ZH w.j.P x.toNat (ZA w.j.P x.toNat) (1-w.j.S)).length:Int))) Z0.dv (ZH w.j.P x.toNat (ZA w.j.P x.toNat) (1-w.j.S)) (x+1+(↑(ZA w.j.P x.toNat):Int))<|Ffb 124 (O (x+1+(↑(ZA w.j.P x.toNat):Int)<(↑(ZH w.j.P x.toNat (ZA w.j.P x.toNat) (1-w.j.S)).length:Int))&&((ZH w.j.P x.toNat (ZA w.j.P x.toNat) (1-w.j.S)).getD (x+1+(↑(ZA w.j.P x.toNat):Int)).toNat X).K==3) Fz
section
variable(w:Z7)(r:Int)(hw:Ba w)(h0:0<=r/\r<=18446744073709551615)(c1:r≠0)(c2:r∉w.Q)(c3:r∈w.old)(c4:(ZF (Z1 w.j.W r).1).2=M)(c5:(Z3 w.j.C r).2.2=0)
include hw h0 c1 c2 c3 c4 c5
theorem ZiZ(c6:ZJ w (Z3 w.j.C r).1=Y):GP 137 [w.av,uU r] M (.tu [(w.keep r).av,uU r,nI 0]) []:=by have h1:=hw.mu;have h2:=hw.ol;have h3:=hw.wl;have h4:=EM hw.W r;have h11:=Ij (Z1 w.j.W r).1 h4.1;have h5:=hw.pl;have h6:=BF.1 hw.C;have h7:=hw.tl;have h8:=GX hw.C c5;have Q0 {h_ c_ p_} (r_:Fq h_ c_ p_):=FcG 29 (!r==0) (λhg=>by(try simp only[bs]at hg);exact@E5 w.Q r oq) r_;rcases bb (r==0||O (r∈w.Q))with hc0|hc0<;>have hc0p:=hc0<;>simp only[bs]at hc0p;rw[show w.keep r=w from by grind[]];exact gF [] func137 [] (Q0 (Ft 30 hc0 Fz));obtain⟨hc0pa,hc0pb⟩:=hc0p;exact gF [] func137 []<|Fh 73 [.br M]<|Fh 77 [.call Y (bL (ZJ w (Z3 w.j.C r).1)) [],.br Y] (Q0 (Ff 30 hc0<|Fc 36 (@E5 w.old r oq)<|Ffb 37 (!decide (r∈w.old))<|Fc 44 (@Hx w.j.W r oq aa)<|Fc 49 (@A7 ((Z1 w.j.W r).1) oq oq)<|Fa ‹(ZF (Z1 w.j.W r).1).2=M›<|Fc 60 (@H5 w.j.C r oq oq)<|FlG 71 (!(Z3 w.j.C r).2.2 != 0) Z0.dv w.j.P<|Ffb 52 ((Z3 w.j.C r).2.2 != 0||O ((w.j.P.length:Int)<=(Z3 w.j.C r).1))<|Fa (@Sz w ((Z3 w.j.C r).1) oq oq)<|Fa ‹ZJ w (Z3 w.j.C r).1=Y›<|Fc 80 (@Z57 w r aa) Fz))
theorem Zac(c6:ZJ w (Z3 w.j.C r).1=M)(c7:¬ (w.j.P.getD (Ct w r) X).K=2)(c8:(w.place (Z5 (Zv w r))).2.2=M):GP 137 [w.av,uU r] M (.tu [EF.av,uU 0,nI 3]) []:=by have h1:=hw.mu;have h2:=hw.ol;have h3:=hw.wl;have h4:=EM hw.W r;have h11:=Ij (Z1 w.j.W r).1 h4.1;have h5:=hw.pl;have h6:=BF.1 hw.C;have h7:=hw.tl;have h8:=GX hw.C c5;have h9:=Nx w r;unfold Ct at c7;unfold Zv at h9 c8;have Q0 {h_ c_ p_} (r_:Fq h_ c_ p_):=FcG 29 (!r==0) (λhg=>by(try simp only[bs]at hg);exact@E5 w.Q r oq) r_;rcases bb (r==0||O (r∈w.Q))with hc0|hc0<;>have hc0p:=hc0<;>simp only[bs]at hc0p;rw[show EF=w from by grind[EF,ZY]];exact gF [] func137 (fO 4) (Q0 (Ft 30 hc0<|Fr w.j.C.pw<|Fr w.j.C.pg<|Fr (Z wD w.j.W)<|Fr (Z Z0.dv w.j.P)<|Fr w.j.S<|Fr w.j.B<|Fr (Z wD w.old)<|Fr (Z iD w.T)<|Fr (Z wD w.Q)<|Fr w.D<|Fr w.rep.copied<|Fr w.rep.kept<|Fr w.rep.filled<|Fr w.rep.freed<|Fr w.rep.cleared<|Fr w.rep.steps<|Fa (by grind[EF,ZY]:r=0)<|Fa (by grind[EF,ZY]:(0:Int)=3) Fz));obtain⟨hc0pa,hc0pb⟩:=hc0p;let y0:=Z6 (Z1 w.j.W r).1;exact gF [] func137 []<|Fh 77 [.call Y (bL (ZJ w (Z3 w.j.C r).1)) [],.br M]<|Fh 89 [.br M] (Q0 (Ff 30 hc0<|Fc 36 (@E5 w.old r oq)<|Ffb 37 (!decide (r∈w.old))<|Fc 44 (@Hx w.j.W r oq aa)<|Fc 49 (@A7 ((Z1 w.j.W r).1) oq oq)<|Fa ‹(ZF (Z1 w.j.W r).1).2=M›<|Fc 60 (@H5 w.j.C r oq oq)<|FlG 71 (!(Z3 w.j.C r).2.2 != 0) Z0.dv w.j.P<|Ffb 52 ((Z3 w.j.C r).2.2 != 0||O ((w.j.P.length:Int)<=(Z3 w.j.C r).1))<|Fa (@Sz w ((Z3 w.j.C r).1) oq oq)<|Fa ‹ZJ w (Z3 w.j.C r).1=M›<|Fe 86 Z0.dv w.j.P ((Z3 w.j.C r).1)<|Ffb 73 ((w.j.P.getD (Z3 w.j.C r).1.toNat X).K==2)<|Fc 143 (@A6 ((Z1 w.j.W r).1) oq oq)<|Fc 147 (@Ia (y0.1) aa)<|Fc 151 (@Z4M w (Z5 y0.1) aa aa)<|Ftb 156 (!(w.place (Z5 y0.1)).2.2)<|Fnl (Fnl (Fnl (Fnl (Fnl Fz))))))
theorem Zi6(c6:ZJ w (Z3 w.j.C r).1=M)(c7:¬ (w.j.P.getD (Ct w r) X).K=2)(c8:(w.place (Z5 (Zv w r))).2.2=Y):GP 137 [w.av,uU r] M (.tu [((w.place (Z5 (Zv w r))).1.copy r (w.place (Z5 (Zv w r))).2.1 (Z5 (Zv w r))).av,uU (w.place (Z5 (Zv w r))).2.1,nI 0]) []:=by have h1:=hw.mu;have h2:=hw.ol;have h3:=hw.wl;have h4:=EM hw.W r;have h11:=Ij (Z1 w.j.W r).1 h4.1;have h5:=hw.pl;have h6:=BF.1 hw.C;have h7:=hw.tl;have h8:=GX hw.C c5;have h9:=Nx w r;have h10:=hw.rk;obtain⟨i,p,t,d1,d2,d3,d4,d4',d5,d6,d7,d8,d9,e⟩:=Z3A hw h9.1 c8;have e1:=congrArg (λw=>w.j.W) e;have e2:=congrArg (λw=>w.Q) e;have e3:=congrArg (λw=>w.rep) e;have e3c:=congrArg (λw=>w.rep.copied) e;simp only at e1 e2 e3 e3c;have l1:=Z4F w.j.W (w.place (Z5 (Zv w r))).2.1 r (Z5 (Zv w r));unfold Ct at c7;unfold Zv at *;have Q0 {h_ c_ p_} (r_:Fq h_ c_ p_):=FcG 29 (!r==0) (λhg=>by(try simp only[bs]at hg);exact@E5 w.Q r oq) r_;rcases bb (r==0||O (r∈w.Q))with hc0|hc0<;>have hc0p:=hc0<;>simp only[bs]at hc0p;rw[show(w.place (Z5 (Z6 (Z1 w.j.W r).1).1)).1.copy r (w.place (Z5 (Z6 (Z1 w.j.W r).1).1)).2.1 (Z5 (Z6 (Z1 w.j.W r).1).1)=w from by grind[Z7.copy]];exact gF [] func137 (fO 4) (Q0 (Ft 30 hc0<|Fr w.j.C.pw<|Fr w.j.C.pg<|Fr (Z wD w.j.W)<|Fr (Z Z0.dv w.j.P)<|Fr w.j.S<|Fr w.j.B<|Fr (Z wD w.old)<|Fr (Z iD w.T)<|Fr (Z wD w.Q)<|Fr w.D<|Fr w.rep.copied<|Fr w.rep.kept<|Fr w.rep.filled<|Fr w.rep.freed<|Fr w.rep.cleared<|Fr w.rep.steps<|Fa (by grind[Z7.copy]:r=(w.place (Z5 (Z6 (Z1 w.j.W r).1).1)).2.1)<|Fr (0:Int) Fz));obtain⟨hc0pa,hc0pb⟩:=hc0p;let y1:=Z6 (Z1 w.j.W r).1;let y0:=w.place (Z5 y1.1);exact gF [] func137 []<|Fh 77 [.call Y (bL (ZJ w (Z3 w.j.C r).1)) [],.br M]<|Fh 156 [.br M]<|Fh 192 [.els (Z wD (y0.1.Q++[y0.2.1]))] (Q0 (Ff 30 hc0<|Fc 36 (@E5 w.old r oq)<|Ffb 37 (!decide (r∈w.old))<|Fc 44 (@Hx w.j.W r oq aa)<|Fc 49 (@A7 ((Z1 w.j.W r).1) oq oq)<|Fa ‹(ZF (Z1 w.j.W r).1).2=M›<|Fc 60 (@H5 w.j.C r oq oq)<|FlG 71 (!(Z3 w.j.C r).2.2 != 0) Z0.dv w.j.P<|Ffb 52 ((Z3 w.j.C r).2.2 != 0||O ((w.j.P.length:Int)<=(Z3 w.j.C r).1))<|Fa (@Sz w ((Z3 w.j.C r).1) oq oq)<|Fa ‹ZJ w (Z3 w.j.C r).1=M›<|Fe 86 Z0.dv w.j.P ((Z3 w.j.C r).1)<|Ffb 73 ((w.j.P.getD (Z3 w.j.C r).1.toNat X).K==2)<|Fc 143 (@A6 ((Z1 w.j.W r).1) oq oq)<|Fc 147 (@Ia (y1.1) aa)<|Fc 151 (@Z4M w (Z5 y1.1) aa aa)<|Ffb 89 (!y0.2.2)<|Fc 165 (@Zba (y0.1.j.W) (y0.2.1) r (Z5 y1.1) (by grind[Z7.copy]) oq aa)<|Fc 172 (@Zil (y0.2.1) oq oq)<|Fc 181 (@Z1P ((moveA y0.1.j.W y0.2.1 r (Z5 y1.1)).1) r (4*y0.2.1+2) (by grind[Z7.copy]) aa)<|FAx 186 189 wD y0.1.Q (by grind[Z7.copy])<|Fs 191 (Z wD [y0.2.1])<|Fa (by grind[Z7.copy]:(Z wD y0.1.Q).length+(Z wD [y0.2.1]).length<=2^30)<|Fa (by simp[Z7.copy,Xa,L8,L9,L7,wD,iD]:Z wD y0.1.Q++Z wD [y0.2.1]=Z wD (y0.1.Q++[y0.2.1]))<|Fi 197 (y0.1.rep.copied+1) Fz))
end
def ZgG(w:Z7)(r x:Int)(hs:w.j.S=0\/w.j.S=1)(hl:w.j.P.length<=1048576)(a:0<=x):CP (Zk f137 0) (Tg.st ⟨tm 202 [(1,uU r),(2,.pt 8002 0 0),(4,.pt 8004 0 0),(5,uU 0),(6,nI 0),(14,nI (x+1))],[(88094,.arr 86 4 ((w.j.P.set x.toNat ⟨(w.j.P.getD x.toNat X).K,1-w.j.S,(w.j.P.getD x.toNat X).U,(w.j.P.getD x.toNat X).N⟩).map Z0.dv)),(8002,.box 138 [nI w.j.C.pw,nI w.j.C.pg,Z2 w.j.W,.ow 88094,nI w.j.S,nI w.j.B,Z2 w.old,ZE w.T,Z2 w.Q,nI w.D,nI w.rep.copied,nI w.rep.kept,nI w.rep.filled,nI w.rep.freed,nI w.rep.cleared,nI w.rep.steps]),(8004,.box 138 zW)],60⟩) .nrm (Tg.st ⟨tm 202 [(1,uU r),(2,.pt 8002 0 0),(4,.pt 8004 0 0),(5,uU 0),(6,nI 0)],[(88094,.arr 86 4 ((ZH w.j.P x.toNat (ZA w.j.P x.toNat) (1-w.j.S)).map Z0.dv)),(8002,.box 138 [nI w.j.C.pw,nI w.j.C.pg,Z2 w.j.W,.ow 88094,nI w.j.S,nI w.j.B,Z2 w.old,ZE w.T,Z2 w.Q,nI w.D,nI w.rep.copied,nI w.rep.kept,nI w.rep.filled,nI w.rep.freed,nI w.rep.cleared,nI w.rep.steps]),(8004,.box 138 zW)],60⟩):=by have h:=Bp (S:=λk=>(Mf w r x k).st) (ZA w.j.P x.toNat) kr (λk b=>ZiI w r x k hs hl a b) (ZjO w r x hl a);have c:=Z6A (l:=w.j.P) (i:=x.toNat) (1-w.j.S);simp only[Mf,c,Nc,Int.natCast_zero,Int.add_zero]at h;exact h
section
variable(w:Z7)(r:Int)(hw:Ba w)(h0:0<=r/\r<=18446744073709551615)(c1:r≠0)(c2:r∉w.Q)(c3:r∈w.old)(c4:(ZF (Z1 w.j.W r).1).2=M)(c5:(Z3 w.j.C r).2.2=0)
include hw h0 c1 c2 c3 c4 c5
theorem Zk1(c6:ZJ w (Z3 w.j.C r).1=M)(c7:(w.j.P.getD (Ct w r) X).K=2):GP 137 [w.av,uU r] M (.tu [((w.flip (Ct w r)).keep r).av,uU r,nI 0]) []:=by have h1:=hw.mu;have h2:=hw.ol;have h3:=hw.wl;have h4:=EM hw.W r;have h5:=hw.pl;have h6:=BF.1 hw.C;have h7:=hw.tl;have h8:=GX hw.C c5;have h9:=hw.sp;have h10:=Z4Q hw (Ct w r);have h12:(⟨⟨w.j.C,w.j.W,ZH w.j.P (Z3 w.j.C r).1.toNat (ZA w.j.P (Z3 w.j.C r).1.toNat) (1-w.j.S),w.j.S,w.j.B⟩,w.old,w.T,w.Q,w.D,w.rep⟩:Z7)=w.flip (Ct w r):=rfl;unfold Ct at c7;have Q0 {h_ c_ p_} (r_:Fq h_ c_ p_):=FcG 29 (!r==0) (λhg=>by(try simp only[bs]at hg);exact@E5 w.Q r oq) r_;rcases bb (r==0||O (r∈w.Q))with hc0|hc0<;>have hc0p:=hc0<;>simp only[bs]at hc0p;rw[show(w.flip (Ct w r)).keep r=w from by grind[]];exact gF [] func137 [] (Q0 (Ft 30 hc0 Fz));obtain⟨hc0pa,hc0pb⟩:=hc0p;let y0:=w.j.P.getD (Z3 w.j.C r).1.toNat X;let y1:=Z7.mk (Heap.mk w.j.C w.j.W (ZH w.j.P (Z3 w.j.C r).1.toNat (ZA w.j.P (Z3 w.j.C r).1.toNat) (1-w.j.S)) w.j.S w.j.B) w.old w.T w.Q w.D w.rep;let y2:=(Z3 w.j.C r).1;exact gF [] func137 []<|Fh 73 [.br M]<|Fh 77 [.call Y (bL (ZJ w (Z3 w.j.C r).1)) [],.br M]<|Fh 139 [.kill (y1.keep r).av] (Q0 (Ff 30 hc0<|Fc 36 (@E5 w.old r oq)<|Ffb 37 (!decide (r∈w.old))<|Fc 44 (@Hx w.j.W r oq aa)<|Fc 49 (@A7 ((Z1 w.j.W r).1) oq oq)<|Fa ‹(ZF (Z1 w.j.W r).1).2=M›<|Fc 60 (@H5 w.j.C r oq oq)<|FlG 71 (!(Z3 w.j.C r).2.2 != 0) Z0.dv w.j.P<|Ffb 52 ((Z3 w.j.C r).2.2 != 0||O ((w.j.P.length:Int)<=(Z3 w.j.C r).1))<|Fa (@Sz w y2 oq oq)<|Fa ‹ZJ w (Z3 w.j.C r).1=M›<|Fe 86 Z0.dv w.j.P y2<|Ftb 89 (y0.K==2)<|FA 90 94 Z0.dv w.j.P<|Fi 104 (1-w.j.S)<|Fm0q Z0.dv w.j.P y2<|FS 10106 Z0.dv w.j.P ((Z3 w.j.C r).1.toNat) (Z0.mk y0.K (1-w.j.S) y0.U y0.N) (y0.dv)<|Fi 108 ((Z3 w.j.C r).1+1)<|Fu (@ZgG w r y2 aa oq oq)<|Fa (@Z57 y1 r aa) Fz))
end
def Z0l w(r:Int)(e:Ba w)(d:0<=r/\r<=18446744073709551615):GP 137 [w.av,uU r] M (.tu [(w.fwd r).1.av,uU (w.fwd r).2.1,nI (w.fwd r).2.2]) []:=by
 unfold Z7.fwd;by_cases c1:r=0\/r∈w.Q;rw[if_pos c1];exact Zhv w r e d c1;rw[if_neg c1];have a:r≠0:=λh=>c1 (Le h);have b:r∉w.Q:=λh=>c1 (Ld h);by_cases c3:r∈w.old;rw[if_neg (by simpa using c3)];by_cases c4:(ZF (Z1 w.j.W r).1).2=Y;rw[if_pos c4];exact ZiN w r e d a b c3 c4;rw[if_neg c4];have c:(ZF (Z1 w.j.W r).1).2=M:=by simpa using c4
 by_cases f:(Z3 w.j.C r).2.2=0;rw[if_neg (by simpa using f)];by_cases j:ZJ w (Z3 w.j.C r).1=Y;rw[if_pos j];exact ZiZ w r e d a b c3 c f j;rw[if_neg j];have g:ZJ w (Z3 w.j.C r).1=M:=by simpa using j
 by_cases i:(w.j.P.getD (Ct w r) X).K=2;rw[if_pos i];exact Zk1 w r e d a b c3 c f g i;rw[if_neg i];by_cases k:(w.place (Z5 (Zv w r))).2.2=M;rw[if_pos k];exact Zac w r e d a b c3 c f g i k;rw[if_neg k];exact Zi6 w r e d a b c3 c f g i (by simpa using k);rw[if_pos f];exact Zlq w r e d a b c3 c f;rw[if_pos c3];exact ZiJ w r e d a b c3
def rootsN(w:Z7)(roots:List Int):Nat->Z7×List Int|0=>(w,[])|k+1=>(((rootsN w roots k).1.fwd (roots.getD k X)).1,(rootsN w roots k).2++[((rootsN w roots k).1.fwd (roots.getD k X)).2.1])
def E9(w:Z7)(roots:List Int)(k:Nat):Int:=((rootsN w roots k).1.fwd (roots.getD k X)).2.2
def rootsF(w:Z7)(roots:List Int):Z7×List Int×Int:=match (Lg roots.length).find? (λk=>O (E9 w roots k≠0))with|none=>((rootsN w roots roots.length).1,(rootsN w roots roots.length).2,0)|some k=>(EF,[],E9 w roots k)
def Dd(w:Z7)(roots out:List Int)(i:Nat):Tg:=⟨tm 39 [(1,Z2 roots),(2,.pt 8002 0 0),(4,.pt 8004 0 0),(5,.d (.sl 0 [])),(6,nI 0),(7,.ow 16007),(8,nI i)],[(16007,.arr 35 1 (out.map wD)),(8004,.box 138 zW),(8002,.box 138 w.cells)],60⟩
section
variable(w:Z7)(roots out:List Int)(i:Nat)(hw:Ba w)(hr:0<=roots.getD i X/\roots.getD i X<=18446744073709551615)(hl:roots.length<=1048576)(ho:out.length<=1048576)(hi:i<roots.length)
include hw hr hl ho hi
theorem Z7Y(e:(w.fwd (roots.getD i X)).2.2=0):CP (Zl f83 0) (Dd w roots out i).st .nrm (Dd (w.fwd (roots.getD i X)).1 roots (out++[(w.fwd (roots.getD i X)).2.1]) (i+1)).st:=by let a:=w.fwd (roots.getD i X);exact sF [(504036,16007)] []<|Fh 36 [.els (Z wD (out++[a.2.1]))]<|FN 14 15 22 wD roots i<|Fc 24 (@Z0l w (roots.getD i X) aa aa)<|Ffb 29 (a.2.2 != 0)<|Fs 35 (Z wD [a.2.1])<|Fa (by(simp[*];omega):(Z wD out).length+(Z wD [a.2.1]).length<=2^30)<|Fa (ms:Z wD out++Z wD [a.2.1]=Z wD (out++[a.2.1]))<|Fx 17 i Fz
theorem Zcb(e:¬ (w.fwd (roots.getD i X)).2.2=0):CP (Zl f83 0) (Dd w roots out i).st .ret (Tg.st ⟨tm 39 [(4,.pt 8004 0 0),(5,.d (.sl 0 [])),(6,nI (w.fwd (roots.getD i X)).2.2)],[(8004,.box 138 zW)],60⟩):=by exact sF [] []<|FN 14 15 22 wD roots i<|Fc 24 (@Z0l w (roots.getD i X) aa aa)<|Ftb 29 ((w.fwd (roots.getD i X)).2.2 != 0) Fz
end
def ZjG w roots out:CP (Zl f83 0) (Dd w roots out roots.length).st (.ext 0) (Tg.st ⟨tm 39 [(2,.pt 8002 0 0),(4,.pt 8004 0 0),(7,.ow 16007)],[(16007,.arr 35 1 (out.map wD)),(8004,.box 138 zW),(8002,.box 138 w.cells)],60⟩):=by exact sF [] []<|FO 14 15 wD roots Fz
def Nv w roots:∀k,(rootsN w roots k).2.length=k|0=>rfl|k+1=>by simp[rootsN,Nv w roots k]
def Ak{w roots}(d:Ba w):∀k,(∀j,j<k->E9 w roots j=0)->Ba (rootsN w roots k).1/\(∀x∈(rootsN w roots k).2,0<=x/\x<=4294967296)/\(rootsN w roots k).1.D=w.D
 |0,_=>⟨d,by simp[rootsN],rfl⟩
 |k+1,h=>by
  have c:=Ak d k (λj hj=>h j oq);have a:=Tc c.1 (roots.getD k X) (h k oq);refine⟨a.1, ?_, ?_⟩
  .intro x b;simp only[rootsN,Ls,LA]at b;rcases b with b|rfl
   .exact c.2.1 x b
   .exact⟨a.2.1,a.2.2.1⟩
  .show((rootsN w roots k).1.fwd (roots.getD k X)).1.D=w.D;rw[a.2.2.2.2.1,c.2.2]
section
variable(w:Z7)(roots:List Int)(b:Ba w)(a:CI roots)(hl:roots.length<=1048575)
include b a hl
theorem ZjM(f:(Lg roots.length).find? (λk=>O (E9 w roots k≠0))=Lj):CP (Zk f83 0) (Tg.st ⟨tm 39 [(1,Z2 roots),(2,.pt 8002 0 0),(4,.pt 8004 0 0),(5,.d (.sl 0 [])),(6,nI 0),(7,.ow 16007),(8,nI 0)],[(16007,.arr 35 1 []),(8004,.box 138 zW),(8002,.box 138 w.cells)],60⟩) .nrm (Tg.st ⟨tm 39 [(2,.pt 8002 0 0),(4,.pt 8004 0 0),(7,.ow 16007)],[(16007,.arr 35 1 ((rootsN w roots roots.length).2.map wD)),(8004,.box 138 zW),(8002,.box 138 (rootsN w roots roots.length).1.cells)],60⟩):=by
 have c:∀j,j<roots.length->E9 w roots j=0:=λj d=>by(have:=Lr.1 f j (Lp.2 d);simpa using this)
 exact Bp (S:=λk=>(Dd (rootsN w roots k).1 roots (rootsN w roots k).2 k).st) roots.length kr (λk e=>Z7Y _ roots _ k (Ak b k λj d=>c j oq).1 (Af a k) oq (by rw[Nv];omega) e (c k e)) (ZjG _ roots _)
theorem Zin i(h:(Lg roots.length).find? (λk=>O (E9 w roots k≠0))=Lb i):CP (Zk f83 0) (Tg.st ⟨tm 39 [(1,Z2 roots),(2,.pt 8002 0 0),(4,.pt 8004 0 0),(5,.d (.sl 0 [])),(6,nI 0),(7,.ow 16007),(8,nI 0)],[(16007,.arr 35 1 []),(8004,.box 138 zW),(8002,.box 138 w.cells)],60⟩) .ret (Tg.st ⟨tm 39 [(4,.pt 8004 0 0),(5,.d (.sl 0 [])),(6,nI (E9 w roots i))],[(8004,.box 138 zW)],60⟩):=by
 obtain⟨f,d,g⟩:=Lo.1 h;have d:=Lp.1 d;have c:∀j,j<i->E9 w roots j=0:=λj e=>by simpa using g j e
 exact Ev (S:=λk=>(Dd (rootsN w roots k).1 roots (rootsN w roots k).2 k).st) i kr (λk l=>Z7Y _ roots _ k (Ak b k λj e=>c j oq).1 (Af a k) oq (by rw[Nv];omega) oq (c k l)) (Zcb _ roots _ i (Ak b i c).1 (Af a i) oq (by rw[Nv];omega) d (of_decide_eq_true f))
theorem Pq:GP 83 [w.av,Z2 roots] M (.tu [(rootsF w roots).1.av,Z2 (rootsF w roots).2.1,nI (rootsF w roots).2.2]) []:=by
 cases hb:(Lg roots.length).find? (λk=>O (E9 w roots k≠0))with
 |none =>
  have c:rootsF w roots=((rootsN w roots roots.length).1,(rootsN w roots roots.length).2,0):=by rw[rootsF,hb]
  rw[c];exact gF [] func83 []<|Fh 7 [.own]<|Fu (@ZjM w roots aa aa aa aa) Fz
 |some i =>
  have c:rootsF w roots=(EF,[],E9 w roots i):=by rw[rootsF,hb]
  rw[c];exact gF [] func83 []<|Fh 7 [.own]<|Fu (@Zin w roots aa aa aa i aa)<|Fnl (Fnl (Fnl (Fnl (Fnl (Fnl Fz)))))
end
def Ch(h:ZB):Nat->List Int|0=>[]|i+1=>if Bt h (i:Int)=Y then Ch h i++[(i:Int)]else Ch h i
def Ml(h:ZB):∀i,(Ch h i).length<=i
 |0=>Lt _
 |i+1=>by
  have:=Ml h i;simp only[Ch];split<;>simp<;>omega
def Zz(h:ZB):List Int:=if ZV h=Y then Ch h h.length.toNat else []
def M9(h:ZB)(i:Nat):Tg:=⟨tm 23 [(1,.pt 8001 0 0),(3,.ow 16003),(4,nI i)],[(16003,.arr 3 1 ((Ch h i).map iD)),(8001,.box 52 [nI h.K,nI h.length,u32 h.map])],60⟩
def ZaP(h:ZB)(i:Nat)(hm:0<=h.map/\h.map<=4294967295)(hv:ZV h=Y)(hb:h.length<=255)(hi:i<h.length):CP (Zl f189 0) (M9 h i).st .nrm (M9 h (i+1)).st:=by
 have hn:=Ml h i;by_cases b:Bt h (i:Int)=Y;have e:Ch h (i+1)=Ch h i++[(i:Int)]:=by rw[Ch,if_pos b]
 exact sF [(496021,16003)] (fO 5)<|Fh 17 [.call Y (bL (Bt h (i:Int))) [],.br Y]<|Fh 21 [.els (Z iD (Ch h i++[(i:Int)]))]<|FcG 11 (O ((i:Int)<h.length)) (λa=>by(try simp only[bs]at a);exact@Nk h aa)<|Ft 12 (by simp[*]:(O ((i:Int)<h.length)&&ZV h)=Y)<|Fa (@RN h ((i:Int)) aa)<|Fa ‹Bt h (i:Int)=Y›<|Fs 20 (Z iD [(i:Int)])<|Fa (by(simp[*];omega):(Z iD (Ch h i)).length+(Z iD [(i:Int)]).length<=2^30)<|Fa (ms:Z iD (Ch h i)++Z iD [(i:Int)]=Z iD (Ch h i++[(i:Int)]))<|Fx 14 i<|Fr (3:Int)<|Fa (by refine congrArg _ ?_;rw[e]:Z iD (Ch h i++[(i:Int)])=Z iD (Ch h (i+1))) Fz;have e:Ch h (i+1)=Ch h i:=by rw[Ch,if_neg b]
 have c:Bt h (i:Int)=M:=by simpa using b
 exact sF [] (fO 5)<|Fh 17 [.call Y (bL (Bt h (i:Int))) [],.br M]<|FcG 11 (O ((i:Int)<h.length)) (λa=>by(try simp only[bs]at a);exact@Nk h aa)<|Ft 12 (by simp[*]:(O ((i:Int)<h.length)&&ZV h)=Y)<|Fa (@RN h ((i:Int)) aa)<|Fa ‹Bt h (i:Int)=M›<|Fx 14 i<|Fr (3:Int)<|Fa (by refine congrArg _ ?_;rw[e]:Z iD (Ch h i)=Z iD (Ch h (i+1))) Fz
def Z5A(h:ZB)(i:Nat)(hm:0<=h.map/\h.map<=4294967295)(hi:h.length<=i\/ZV h=M):CP (Zl f189 0) (M9 h i).st (.ext 0) (Tg.st ⟨tm 23 [(3,.ow 16003)],[(16003,.arr 3 1 ((Ch h i).map iD))],60⟩):=by rcases hi with hi|hi;exact sF [] []<|FcG 11 (O ((i:Int)<h.length)) (λa=>by(try simp only[bs]at a);exact@Nk h aa)<|Ffb 12 (O ((i:Int)<h.length)&&ZV h) Fz;exact sF [] []<|FcG 11 (O ((i:Int)<h.length)) (λa=>by(try simp only[bs]at a);exact@Nk h aa)<|Ff 12 (by simp[*]:(O ((i:Int)<h.length)&&ZV h)=M) Fz
def Zft(h:ZB)(b:0<=h.map/\h.map<=4294967295):CP (Zk f189 0) (Tg.st ⟨tm 23 [(1,.pt 8001 0 0),(3,.ow 16003),(4,nI 0)],[(16003,.arr 3 1 []),(8001,.box 52 [nI h.K,nI h.length,u32 h.map])],60⟩) .nrm (Tg.st ⟨tm 23 [(3,.ow 16003)],[(16003,.arr 3 1 ((Zz h).map iD))],60⟩):=by unfold Zz;by_cases a:ZV h=Y;rw[if_pos a];have hb:=Gq.1 a;exact Bp (S:=λi=>(M9 h i).st) h.length.toNat kr (λi hi=>ZaP h i b a oq oq) (Z5A h _ b (.inl oq));rw[if_neg a];exact Bp (S:=λi=>(M9 h i).st) 0 kr (λi hi=>by omega) (Z5A h 0 b (.inr (by simpa using a)))
def Z48(h:ZB)(hm:0<=h.map/\h.map<=4294967295):GP 189 [h.av] Y (.d (.sl 1 ((Zz h).map iD))) []:=by exact gF [] func189 []<|Fh 3 [.own]<|Fu (@Zft h aa)<|Fa (AN _:Cd (Z iD (Zz h))) Fz
def Z7.in1(w:Z7)(a:Int):Z7:=⟨⟨(w.fwd (Z1 w.j.W a).1).1.j.C,(BY (w.fwd (Z1 w.j.W a).1).1.j.W a (w.fwd (Z1 w.j.W a).1).2.1).1,(w.fwd (Z1 w.j.W a).1).1.j.P,(w.fwd (Z1 w.j.W a).1).1.j.S,(w.fwd (Z1 w.j.W a).1).1.j.B⟩,(w.fwd (Z1 w.j.W a).1).1.old,(w.fwd (Z1 w.j.W a).1).1.T,(w.fwd (Z1 w.j.W a).1).1.Q,(w.fwd (Z1 w.j.W a).1).1.D,(w.fwd (Z1 w.j.W a).1).1.rep⟩
def Bq(w:Z7)(a:Int)(l:List Int):Nat->Z7|0=>w|k+1=>(Bq w a l k).in1 (a+1+l.getD k X)
def BW(w:Z7)(a:Int)(l:List Int)(k:Nat):Int:=((Bq w a l k).fwd (Z1 (Bq w a l k).j.W (a+1+l.getD k X)).1).2.2
def Bz(w:Z7):Int:=w.Q.getD w.D.toNat X
def B4(w:Z7):List Int:=Zz (Zv w (Bz w))
def HE(w:Z7)(n:Int):Z7:=⟨w.j,w.old,w.T,w.Q,w.D+1,⟨w.rep.copied,w.rep.kept,w.rep.filled,w.rep.freed,w.rep.cleared,w.rep.steps+1+n⟩⟩
def ZZ(w:Z7):Z7×Bool×Int:=
 if w.D<w.Q.length then
  match (Lg (B4 w).length).find? (λk=>O (BW w (Bz w) (B4 w) k≠0))with|none=>(HE (Bq w (Bz w) (B4 w) (B4 w).length) (B4 w).length,Y,0)|some k=>(EF,M,BW w (Bz w) (B4 w) k)
 else(w,M,0)
def Z7w{w}(d:Ba w) a(e:(w.fwd (Z1 w.j.W a).1).2.2=0):Ba (w.in1 a)/\w.Q.length<=(w.in1 a).Q.length/\(w.in1 a).D=w.D/\(w.in1 a).rep.steps=w.rep.steps:=by have b:=Tc d _ e;have hl:=Z9t (w.fwd (Z1 w.j.W a).1).1.j.W a (w.fwd (Z1 w.j.W a).1).2.1;have c:=b.1.wl;exact⟨b.1.withWords (Z3N b.1.W oq a) oq,b.2.2.2.1,b.2.2.2.2.1,b.2.2.2.2.2⟩
def Nh{w}(c:Ba w) a l:∀k,(∀j,j<k->BW w a l j=0)->Ba (Bq w a l k)/\w.Q.length<=(Bq w a l k).Q.length/\(Bq w a l k).D=w.D/\(Bq w a l k).rep.steps=w.rep.steps
 |0,_=>⟨c,Lt _,rfl,rfl⟩
 |k+1,h=>by
  have b:=Nh c a l k (λj hj=>h j oq);have hi:=Z7w b.1 (a+1+l.getD k X) (h k oq);exact⟨hi.1,Nat.le_trans b.2.1 hi.2.1,hi.2.2.1.trans b.2.2.1,hi.2.2.2.trans b.2.2.2⟩
def Z35(h:ZB):∀i,∀x∈Ch h i,0<=x/\x<i
 |0,x,hx=>by simp[Ch]at hx
 |i+1,x,hx=>by
  have a:=Z35 h i;simp only[Ch]at hx;split at hx
  .rcases Ls.1 hx with hx|hx
   .have:=a x hx;omega
   .simp at hx;omega
  .have:=a x hx;omega
def OV(h:ZB):(Zz h).length<=255/\∀x∈Zz h,0<=x/\x<=255:=by
 unfold Zz;split;rename_i a;have:=Gq.1 a;have hl:=Ml h h.length.toNat
 exact⟨by omega,λx b=>by have:=Z35 h _ x b;omega⟩;simp
def ZjV w(a:Ba w)(hs:¬ w.D<w.Q.length):GP 138 [w.av] M (.tu [w.av,bL M,nI 0]) []:=by have h3:=a.mu;exact gF [] func138 []<|Fl 18 wD w.Q<|Ftb 19 (O ((w.Q.length:Int)<=w.D)) Fz
def Aw(w:Z7)(a:Int)(l:List Int)(k:Nat):Tg:=⟨tm 90 [(1,.pt 8001 0 0),(2,.pt 8002 0 0),(3,bL M),(4,nI 0),(5,uU a),(6,ZE l),(7,nI k)],[(8002,.box 138 zW),(8001,.box 138 w.cells)],60⟩
section
variable(w:Z7)(a:Int)(l:List Int)(k:Nat)(b:Ba w)(ha:0<=a/\a<=16384)(hl:l.length<=255)(hr:0<=l.getD k X/\l.getD k X<=255)(hk:k<l.length)
include b ha hl hr hk
theorem Z8I(e:(w.fwd (Z1 w.j.W (a+1+l.getD k X)).1).2.2=0):CP (Zl f138 0) (Aw w a l k).st .nrm (Aw (w.in1 (a+1+l.getD k X)) a l (k+1)).st:=by have h1:=b.wl;have h2:=EM b.W (a+1+l.getD k X);have f:=Tc b _ e;have h4:=f.1.wl;let c:=a+1+l.getD k X;let d:=w.fwd (Z1 w.j.W c).1;exact sF [] []<|FM 33 34 iD l k<|Fv 38 (a+1)<|Fek 41 iD l (↑k) k<|Fv 43 (l.getD k X)<|Fv 44 c<|Fc 50 (@Hx w.j.W c oq oq)<|Fc 56 (@Z0l w ((Z1 w.j.W c).1) aa aa)<|Ffb 61 (d.2.2 != 0)<|Fc 71 (@Z1P (d.1.j.W) c (d.2.1) oq oq)<|Fx 36 k Fz
theorem Zjk(e:¬ (w.fwd (Z1 w.j.W (a+1+l.getD k X)).1).2.2=0):CP (Zl f138 0) (Aw w a l k).st .ret (Tg.st ⟨tm 90 [(2,.pt 8002 0 0),(3,bL M),(4,nI (w.fwd (Z1 w.j.W (a+1+l.getD k X)).1).2.2)],[(8002,.box 138 zW)],60⟩):=by have h1:=b.wl;have h2:=EM b.W (a+1+l.getD k X);let c:=a+1+l.getD k X;exact sF [] []<|FM 33 34 iD l k<|Fv 38 (a+1)<|Fek 41 iD l (↑k) k<|Fv 43 (l.getD k X)<|Fv 44 c<|Fc 50 (@Hx w.j.W c oq oq)<|Fc 56 (@Z0l w ((Z1 w.j.W c).1) aa aa)<|Ftb 61 ((w.fwd (Z1 w.j.W c).1).2.2 != 0) Fz
end
def Zf0 w a l:CP (Zl f138 0) (Aw w a l l.length).st (.ext 0) (Tg.st ⟨tm 90 [(1,.pt 8001 0 0),(2,.pt 8002 0 0),(6,ZE l)],[(8002,.box 138 zW),(8001,.box 138 w.cells)],60⟩):=by exact sF [] []<|FO 33 34 iD l Fz
section
variable(w:Z7)(a:Int)(l:List Int)(d:Ba w)(b:0<=a/\a<=16384)(hl:l.length<=255)(c:∀x∈l,0<=x/\x<=255)
include d b hl c
theorem ZcL(h:(Lg l.length).find? (λk=>O (BW w a l k≠0))=Lj):CP (Zk f138 0) (Tg.st ⟨tm 90 [(1,.pt 8001 0 0),(2,.pt 8002 0 0),(3,bL M),(4,nI 0),(5,uU a),(6,ZE l),(7,nI 0)],[(8002,.box 138 zW),(8001,.box 138 w.cells)],60⟩) .nrm (Tg.st ⟨tm 90 [(1,.pt 8001 0 0),(2,.pt 8002 0 0),(6,ZE l)],[(8002,.box 138 zW),(8001,.box 138 (Bq w a l l.length).cells)],60⟩):=by
 have f:∀j,j<l.length->BW w a l j=0:=λj g=>by(have:=Lr.1 h j (Lp.2 g);simpa using this)
 exact Bp (S:=λk=>(Aw (Bq w a l k) a l k).st) l.length kr (λk e=>Z8I _ a l k (Nh d a l k λj g=>f j oq).1 b hl (c _ (BI.2 ⟨k,e,rfl⟩)) e (f k e)) (Zf0 _ a l)
theorem Zdk i(n:(Lg l.length).find? (λk=>O (BW w a l k≠0))=Lb i):CP (Zk f138 0) (Tg.st ⟨tm 90 [(1,.pt 8001 0 0),(2,.pt 8002 0 0),(3,bL M),(4,nI 0),(5,uU a),(6,ZE l),(7,nI 0)],[(8002,.box 138 zW),(8001,.box 138 w.cells)],60⟩) .ret (Tg.st ⟨tm 90 [(2,.pt 8002 0 0),(3,bL M),(4,nI (BW w a l i))],[(8002,.box 138 zW)],60⟩):=by
 obtain⟨h,e,m⟩:=Lo.1 n;have e:=Lp.1 e;have f:∀j,j<i->BW w a l j=0:=λj g=>by simpa using m j g
 exact Ev (S:=λk=>(Aw (Bq w a l k) a l k).st) i kr (λk o=>Z8I _ a l k (Nh d a l k λj g=>f j oq).1 b hl (c _ (BI.2 ⟨k,by omega,rfl⟩)) oq (f k o)) (Zjk _ a l i (Nh d a l i f).1 b hl (c _ (BI.2 ⟨i,e,rfl⟩)) e (of_decide_eq_true h))
end
def Z3k w(b:Ba w):GP 138 [w.av] M (.tu [(ZZ w).1.av,bL (ZZ w).2.1,nI (ZZ w).2.2]) []:=by
 by_cases d:w.D<w.Q.length;have h2:=b.sc;have h1:=b.q _ (BI.2 ⟨w.D.toNat,by omega,rfl⟩);have h3:=b.mu;have h:=Ij (Z1 w.j.W (w.Q.getD w.D.toNat X)).1 (EM b.W _).1;have i:Zv w (w.Q.getD w.D.toNat X)=(Z6 (Z1 w.j.W (w.Q.getD w.D.toNat X)).1).1:=rfl;have h6:=OV (Zv w (w.Q.getD w.D.toNat X));rw[<-i]at h;unfold ZZ;rw[if_pos d];cases hb:(Lg (B4 w).length).find? (λk=>O (BW w (Bz w) (B4 w) k≠0))with
 |none =>
  have g:∀j,j<(B4 w).length->BW w (Bz w) (B4 w) j=0:=λj l=>by(have:=Lr.1 hb j (Lp.2 l);simpa using this)
  have k1:=Nh b (Bz w) (B4 w) (B4 w).length g;have k2:=k1.1.rs;have k3:=k1.1.sc;have k4:=k1.1.mu;unfold B4 Bz at *;let a:=w.Q.getD w.D.toNat X;let f:=Bq w a (Zz (Zv w a)) (Zz (Zv w a)).length;exact gF [] func138 []<|Fl 18 wD w.Q<|Ffb 19 (O ((w.Q.length:Int)<=w.D))<|Fe 25 wD w.Q w.D<|Fc 29 (@Z97 w a aa oq)<|Fc 30 (@Z48 (Zv w a) aa)<|Fu (@ZcL w a (Zz (Zv w a)) aa aa oq (by grind[HE]) aa)<|Fi 78 (f.D+1)<|Fi 83 (f.rep.steps+1)<|Fl 85 iD (Zz (Zv w a))<|Fi 86 (f.rep.steps+1+(↑(Zz (Zv w a)).length:Int)) Fz
 |some k =>unfold B4 Bz at *;let c:=w.Q.getD w.D.toNat X;exact gF [] func138 []<|Fl 18 wD w.Q<|Ffb 19 (O ((w.Q.length:Int)<=w.D))<|Fe 25 wD w.Q w.D<|Fc 29 (@Z97 w c aa oq)<|Fc 30 (@Z48 (Zv w c) aa)<|Fu (@Zdk w c (Zz (Zv w c)) aa aa oq (by grind[EF,ZY]) k aa)<|Fnl (Fnl (Fnl (Fnl (Fnl Fz))))
 have e:ZZ w=(w,M,0):=by rw[ZZ,if_neg d]
 rw[e];exact ZjV w b d
def Z2B{w}(a:Ba w)(e:(ZZ w).2.2=0):Ba (ZZ w).1/\((ZZ w).2.1=Y->(ZZ w).1.D=w.D+1):=by
 by_cases b:w.D<w.Q.length;unfold ZZ at e⊢;rw[if_pos b]at e⊢;cases hb:(Lg (B4 w).length).find? (λk=>O (BW w (Bz w) (B4 w) k≠0))with
 |none =>
  have c:∀j,j<(B4 w).length->BW w (Bz w) (B4 w) j=0:=λj d=>by(have:=Lr.1 hb j (Lp.2 d);simpa using this)
  have k1:=Nh a (Bz w) (B4 w) (B4 w).length c;have k2:=k1.1.rs;have k3:=k1.1.sc;have k5:=(OV (Zv w (Bz w))).1;have k6:=a.sc;simp only;refine⟨⟨k1.1.W,k1.1.wl,k1.1.C,k1.1.pl,k1.1.sp,k1.1.ol,k1.1.o,k1.1.tk,k1.1.tl,k1.1.q,k1.1.us,k1.1.mu, ?_,k1.1.rk, ?_,k1.1.r0⟩, ?_⟩;simp only[HE];omega;simp only[HE];unfold B4 at *;omega;intro _;simp only[HE];omega
 |some k =>simp only[hb]at e;have:=(Lo.1 hb).1;simp[e]at this
 have e:ZZ w=(w,M,0):=by rw[ZZ,if_neg b]
 rw[e];exact⟨a,λh=>by cases h⟩
def Cc(w:Z7):Nat->Z7|0=>w|k+1=>(ZZ (Cc w k)).1
def NV(w:Z7):Nat:=1000002+w.old.length
def CN(w:Z7)(k:Nat):Bool:=O ((ZZ (Cc w k)).2.2≠0\/(ZZ (Cc w k)).2.1=M)
def Bh(w:Z7):Z7×Int:=match (Lg (NV w)).find? (CN w)with|none=>(w,0)|some k=>if(ZZ (Cc w k)).2.2=0 then((ZZ (Cc w k)).1,0)else(EF,(ZZ (Cc w k)).2.2)
def Io{w}(c:Ba w):∀k,(∀j,j<k->CN w j=M)->Ba (Cc w k)/\(Cc w k).D=w.D+k
 |0,_=>⟨c,by simp[Cc]⟩
 |k+1,h=>by
  have d:=Io c k (λj hj=>h j oq);have a:=h k oq;simp only[CN,decide_eq_false_iff_not,not_or,Ly]at a;have b:=Z2B d.1 a.1;refine⟨b.1, ?_⟩;have:=b.2 (by simpa using a.2);simp only[Cc];omega
def R7{w}(a:Ba w):∃k,(Lg (NV w)).find? (CN w)=Lb k:=by
 cases hb:(Lg (NV w)).find? (CN w)with
 |some k=>exact⟨k,rfl⟩
 |none =>
  exfalso;have b:∀j,j<1000001->CN w j=M:=λj hj=>by(have:=Lr.1 hb j (Lp.2 (by unfold NV;omega));simpa using this)
  have k:=Io a 1000001 b;have h1:=k.1.sc;have h2:=k.1.mu;have h3:=a.sc;omega
def Ar(w:Z7):Tg:=⟨tm 21 [(1,.pt 8001 0 0),(2,.pt 8002 0 0),(3,nI 0)],[(8002,.box 138 zW),(8001,.box 138 w.cells)],60⟩
section
variable(w:Z7)(a:Ba w)
include a
theorem Z46(e:(ZZ w).2.2=0)(m:(ZZ w).2.1=Y):CP (Zl f84 0) (Ar w).st .nrm (Ar (ZZ w).1).st:=by exact sF [] []<|Fc 9 (@Z3k w aa)<|Ffb 14 ((ZZ w).2.2 != 0)<|Ffb 19 (!(ZZ w).2.1) Fz
theorem Zig(e:(ZZ w).2.2=0)(m:(ZZ w).2.1=M):CP (Zl f84 0) (Ar w).st .ret (Tg.st ⟨tm 21 [(2,.pt 8002 0 0),(3,nI 0)],[(8002,.box 138 (ZZ w).1.cells)],60⟩):=by exact sF [] []<|Fc 9 (@Z3k w aa)<|Ffb 14 ((ZZ w).2.2 != 0)<|Ftb 19 (!(ZZ w).2.1) Fz
theorem ZgY(e:¬ (ZZ w).2.2=0):CP (Zl f84 0) (Ar w).st .ret (Tg.st ⟨tm 21 [(2,.pt 8002 0 0),(3,nI (ZZ w).2.2)],[(8002,.box 138 zW)],60⟩):=by exact sF [] []<|Fc 9 (@Z3k w aa)<|Ftb 14 ((ZZ w).2.2 != 0) Fz
theorem ZhG k(h:(Lg (NV w)).find? (CN w)=Lb k)(e:(ZZ (Cc w k)).2.2=0):CP (Zk f84 0) (Tg.st ⟨tm 21 [(1,.pt 8001 0 0),(2,.pt 8002 0 0),(3,nI 0)],[(8002,.box 138 zW),(8001,.box 138 w.cells)],60⟩) .ret (Tg.st ⟨tm 21 [(2,.pt 8002 0 0),(3,nI 0)],[(8002,.box 138 (ZZ (Cc w k)).1.cells)],60⟩):=by
 obtain⟨f,h2,g⟩:=Lo.1 h;have b:∀j,j<k->CN w j=M:=λj c=>by simpa using g j c
 have m:(ZZ (Cc w k)).2.1=M:=by(simp only[CN,decide_eq_true_eq,e]at f;simpa using f)
 exact Ev (S:=λk=>(Ar (Cc w k)).st) k kr (λj c=>by
  have d:=b j c;simp only[CN,decide_eq_false_iff_not,not_or,Ly]at d;exact Z46 _ (Io a j λi hi=>b i oq).1 d.1 (by simpa using d.2)) (Zig _ (Io a k b).1 e m)
theorem Zeb k(g:(Lg (NV w)).find? (CN w)=Lb k)(e:¬ (ZZ (Cc w k)).2.2=0):CP (Zk f84 0) (Tg.st ⟨tm 21 [(1,.pt 8001 0 0),(2,.pt 8002 0 0),(3,nI 0)],[(8002,.box 138 zW),(8001,.box 138 w.cells)],60⟩) .ret (Tg.st ⟨tm 21 [(2,.pt 8002 0 0),(3,nI (ZZ (Cc w k)).2.2)],[(8002,.box 138 zW)],60⟩):=by
 obtain⟨h1,h2,f⟩:=Lo.1 g;have b:∀j,j<k->CN w j=M:=λj c=>by simpa using f j c
 exact Ev (S:=λk=>(Ar (Cc w k)).st) k kr (λj c=>by
  have d:=b j c;simp only[CN,decide_eq_false_iff_not,not_or,Ly]at d;exact Z46 _ (Io a j λi hi=>b i oq).1 d.1 (by simpa using d.2)) (ZgY _ (Io a k b).1 e)
theorem Z31:GP 84 [w.av] M (.tu [(Bh w).1.av,nI (Bh w).2]) []:=by
 obtain⟨k,c⟩:=R7 a;by_cases e:(ZZ (Cc w k)).2.2=0;have b:Bh w=((ZZ (Cc w k)).1,0):=by rw[Bh,c];simp only[if_pos e]
 rw[b];exact gF [] func84 []<|Fu (@ZhG w aa k aa aa) Fz;have b:Bh w=(EF,(ZZ (Cc w k)).2.2):=by rw[Bh,c];simp only[if_neg e]
 rw[b];exact gF [] func84 []<|Fu (@Zeb w aa k aa aa)<|Fnl (Fnl (Fnl (Fnl (Fnl Fz))))
omit a in
theorem Zae(a:Ba w)(e:(Bh w).2=0):Ba (Bh w).1:=by
 obtain⟨k,b⟩:=R7 a;obtain⟨h1,h2,f⟩:=Lo.1 b;have d:∀j,j<k->CN w j=M:=λj g=>by simpa using f j g
 unfold Bh at e⊢;rw[b]at e⊢;simp only at e⊢;split at e;rename_i c;rw[if_pos c];exact(Z2B (Io a k d).1 c).1;rename_i c;exact absurd e c
end
def Zr(ws:List Int)(a:Int):Int:=(Z6 (Z1 ws a).1).1.length
def BQ ws(a:Int):0<=Zr ws a/\Zr ws a<=255:=by have:=Gq.1 (DZ (Z1 ws a).1);exact⟨this.2.2.1,this.2.2.2.1⟩
def AW{ws l:List Int}{a b:Int}(h:4096<=a/\a-4096+l.length<=ws.length)(hb:b<a\/a+l.length<=b):Z1 (ZU ws a l).1 b=Z1 ws b:=by
 unfold ZU;rw[if_pos h];have d:(C6 ws (a-4096).toNat l).length=ws.length:=Nf oq;unfold Z1;simp only[d];split;have:=DL (ws:=ws) (l:=l) (i:=(a-4096).toNat) (k:=l.length) oq (Lt _) (b-4096).toNat
 rw[Mi]at this;rw[Lc,Lc,this];by_cases c:(b-4096).toNat<(a-4096).toNat
 rw[if_pos c];rw[if_neg c,if_neg oq];rfl
def Dc{ws l:List Int}{a b:Int}(h:4096<=a/\a-4096+l.length<=ws.length)(hb:a<=b/\b<a+l.length):Z1 (ZU ws a l).1 b=(l.getD (b-a).toNat 0,0):=by
 unfold ZU;rw[if_pos h];have c:(C6 ws (a-4096).toNat l).length=ws.length:=Nf oq;unfold Z1;simp only[c];rw[if_pos oq];have:=DL (ws:=ws) (l:=l) (i:=(a-4096).toNat) (k:=l.length) oq (Lt _) (b-4096).toNat
 rw[Mi]at this;rw[Lc,Lc,this,if_neg oq,if_pos oq,show(b-4096).toNat-(a-4096).toNat=(b-a).toNat by omega]
def DU{ws:List Int}{a v:Int}(h:4096<=a/\a<4096+ws.length):(BY ws a v).1.length=ws.length:=by unfold BY ZU;rw[if_pos qo];exact Nf qo
theorem GJ{ws:List Int}{a b v:Int}(h:4096<=a/\a<4096+ws.length)(hb:b≠a):Z1 (BY ws a v).1 b=Z1 ws b:=
 AW qo qo
theorem Ab{ws:List Int}{a v:Int}(h:4096<=a/\a<4096+ws.length):Z1 (BY ws a v).1 a=(v,0):=by have:=Dc (ws:=ws) (l:=[v]) (a:=a) (b:=a) qo qo;rw[BY,this];simp
theorem Sl{ws:List Int}{a b n:Int}(hn:1<=n)(ha:4096<=a/\a-4096+n<=ws.length)(e:4096<=b/\b-4096+n<=ws.length) :(moveA ws a b n).1.length=ws.length/\Z1 (moveA ws a b n).1 a=((Z1 ws b).1,0)/\∀x,x<a\/a+n<=x->Z1 (moveA ws a b n).1 x=Z1 ws x:=by
 have c:BU ws b n=((ws.drop (b-4096).toNat).take n.toNat,0):=by rw[BU,if_neg oq,if_pos e]
 have d:moveA ws a b n=ZU ws a ((ws.drop (b-4096).toNat).take n.toNat):=by rw[moveA,c];simp
 have hl:((ws.drop (b-4096).toNat).take n.toNat).length=n.toNat:=by simp;omega
 rw[d];refine⟨?_, ?_, ?_⟩;unfold ZU;rw[if_pos oq];exact Nf oq;rw[Dc oq oq];congr 1;unfold Z1;rw[if_pos oq];simp only[Lc,Int.sub_self,Int.toNat_zero];rw[List.getElem?_take_of_lt oq,Lz];simp;intro x hx;exact AW oq oq
def Zl7(a:Int):(Z6 (4*a+2)).1.length=0:=by unfold Z6;rw[if_neg];rfl;rintro⟨c,b⟩;unfold Zu at c b;split at b;simp only[EI]at b;omega;simp only at b;omega
def Cg(p:Z0):Int:=if p.K=0 then 0 else p.U
structure Bw (w:Z7):Prop where
 L:(w.j.W.length:Int)=w.j.C.pw*w.j.C.pg
 r:∀a∈w.old++w.Q,4096<=a/\a+Zr w.j.W a<4096+w.j.W.length
 s:∀a∈w.old++w.Q,∀b∈w.old++w.Q,a<b->a+Zr w.j.W a<b
 f:∀i:Nat,i<w.j.P.length->(w.j.P.getD i X).K=0\/(i:Int)∈w.T->∀a∈w.old++w.Q,a+Zr w.j.W a<4096+i*w.j.C.pw+Cg (w.j.P.getD i X)\/4096+i*w.j.C.pw+w.j.C.pw<=a
 z:∀x∈w.old,(w.j.P.getD (Z3 w.j.C x).1.toNat X).K=2\/Zr w.j.W x+1<=w.j.C.pw
def Bw.withWords{w}(h:Bw w){l:List Int}(hl:l.length=w.j.W.length)(d:∀a∈w.old++w.Q,Zr l a<=Zr w.j.W a):Bw ⟨⟨w.j.C,l,w.j.P,w.j.S,w.j.B⟩,w.old,w.T,w.Q,w.D,w.rep⟩:=by refine⟨?_, ?_, ?_, ?_, ?_⟩;simp only[hl];exact h.L;intro a c;have e:=h.r a c;have f:=d a c;simp only[hl];omega;intro a c b k g;have e:=h.s a c b k g;have f:=d a c;simp only;omega;intro i hi m a c;have e:=h.f i hi m a c;have f:=d a c;simp only at *;omega;intro x j;have e:=h.z x j;have f:=d x (Lq _ j);simp only at *;omega
def Bw.keep{w}(h:Bw w){r:Int}(g:r∈w.old):Bw (w.keep r):=by
 have d:∀a,a∈w.old++(w.Q++[r])->a∈w.old++w.Q:=by(intro a c;simp only[Ls,LA]at c⊢;rcases c with c|c|rfl;exact Le c;exact Ld c;exact Le g)
 exact⟨h.L,λa c=>h.r a (d a c),λa c b e=>h.s a (d a c) b (d b e),λi hi f a c=>h.f i hi f a (d a c),h.z⟩
def Bw.flip{w}(h:Bw w) i:Bw (w.flip i):=by
 have e:∀j,((ZH w.j.P i (ZA w.j.P i) (1-w.j.S)).getD j X).K=(w.j.P.getD j X).K/\((ZH w.j.P i (ZA w.j.P i) (1-w.j.S)).getD j X).U=(w.j.P.getD j X).U:=by(intro j;by_cases b:j<w.j.P.length;rw[Ht b];split;exact⟨rfl,rfl⟩;exact⟨rfl,rfl⟩;rw[Lc,Lc,Lw (by rw[GY];omega),Lw oq];exact⟨rfl,rfl⟩)
 refine⟨h.L,h.r,h.s, ?_, ?_⟩;intro j b d a c;simp only[Z7.flip,GY,Cg,e]at b d c⊢;exact h.f j b d a c;intro x f;simp only[Z7.flip,e];exact h.z x f
def Oa{w}{n:Int}(hw:Ba w)(hn:1<=n/\n<=w.j.C.pw)(h:(w.place n).2.2=Y) :∃(i:Nat) (p:Z0) (t:List Int),i<w.j.P.length/\((w.j.P.getD i X).K=0\/((i:Int)∈w.T/\(w.j.P.getD i X).K=1))/\p.K=1/\p.U=Cg (w.j.P.getD i X)+n/\Cg (w.j.P.getD i X)+n<=w.j.C.pw/\0<=Cg (w.j.P.getD i X)/\(∀x∈t,x∈w.T\/x=(i:Int))/\(w.place n).2.1=4096+i*w.j.C.pw+Cg (w.j.P.getD i X) /\
  (w.place n).1=⟨⟨w.j.C,w.j.W,w.j.P.set i p,w.j.S,w.j.B⟩,w.old,t,w.Q,w.D,w.rep⟩:=by
 have hb:=BF.1 hw.C;have hpl:=hw.pl;by_cases hf:E6 w n;have e:w.place n=(⟨⟨w.j.C,w.j.W,Cv w.j.P (ZG w).toNat n,w.j.S,w.j.B⟩,w.old,w.T,w.Q,w.D,w.rep⟩,4096+ZG w*w.j.C.pw+(w.j.P.getD (ZG w).toNat X).U,Y):=by rw[Z7.place,if_pos hf]
 unfold E6 at hf;have hm:=hw.tk _ (GT hf.1);have hu:=hw.us (ZG w).toNat oq;have hk:=hm.2.2;have hup:Cg (w.j.P.getD (ZG w).toNat X)=(w.j.P.getD (ZG w).toNat X).U:=by rw[Cg,if_neg oq]
 have hc:(((ZG w).toNat:Nat):Int)=ZG w:=by omega
 refine⟨(ZG w).toNat,⟨(w.j.P.getD (ZG w).toNat X).K,(w.j.P.getD (ZG w).toNat X).S,(w.j.P.getD (ZG w).toNat X).U+n,(w.j.P.getD (ZG w).toNat X).N⟩,w.T,by omega,Ld ⟨by rw[hc];exact GT hf.1,hk⟩,hk,by rw[hup],by rw[hup];omega,by rw[hup];omega,λx hx=>Le hx, ?_, ?_⟩;rw[e,hup,hc];rw[e];rfl;by_cases hg:0<=ZP w;have e:w.place n=(⟨⟨w.j.C,w.j.W,Cv (ES w) (ZP w).toNat n,w.j.S,w.j.B⟩,w.old,w.T++[ZP w],w.Q,w.D,w.rep⟩,4096+ZP w*w.j.C.pw,Y):=by rw[Z7.place,if_neg hf,if_pos hg]
 obtain⟨f1,f2,f3,f4⟩:=RB (h:=⟨w.j.C,w.j.W,w.j.P,1-w.j.S,w.j.B⟩) (by have:=hw.sp;simp only;omega) hg;obtain⟨g1,g2,g3⟩:=Ik hg;simp only at f1 f2 f3 f4;have hi:(ZP w).toNat<w.j.P.length:=by unfold ZP;omega
 have hk:(w.j.P.getD (ZP w).toNat X).K=0:=by(have:=SL.1 g3 0 dd;simpa[ZP]using this)
 have hup:Cg (w.j.P.getD (ZP w).toNat X)=0:=by rw[Cg,if_pos hk]
 have hc:(((ZP w).toNat:Nat):Int)=ZP w:=by omega
 have hq:Cv (ES w) (ZP w).toNat n=w.j.P.set (ZP w).toNat ⟨1,1-w.j.S,n,0⟩:=by
  unfold Cv;have e4:(ES w).getD (ZP w).toNat X=⟨1,1-w.j.S,0,0⟩:=f4;rw[e4];have e1:ES w=w.j.P.set (ZP w).toNat ⟨1,1-w.j.S,0,0⟩:=by(have:ES w=ZQ w.j.P (ZP w).toNat 1 ⟨1,1-w.j.S,0,0⟩ ⟨0,0,0,0⟩:=f1;rw[this,Z3J hi])
  rw[e1,Xh];simp
 refine⟨(ZP w).toNat,⟨1,1-w.j.S,n,0⟩,w.T++[ZP w],hi,Le hk,rfl,by rw[hup];simp,by rw[hup];omega,by rw[hup];decide, ?_, ?_, ?_⟩;intro x hx;simp only[Ls,LA]at hx;rcases hx with hx|rfl;exact Le hx;exact Ld hc.symm;rw[e,hup,hc];simp;rw[e,hq];rw[Z7.place,if_neg hf,if_neg hg]at h;simp at h
def ED{i j pw:Int}(h:i<j)(a:0<=pw):i*pw+pw<=j*pw:=by have:=LI (show i+1<=j by omega) a;rw[LH,Int.one_mul]at this;exact this
def Bw.copy{w}(hw:Ba w)(h:Bw w){r n:Int}(hr:r∈w.old)(hn:n=Zr w.j.W r+1)(hp:n<=w.j.C.pw)(hc:(w.place n).2.2=Y):Bw ((w.place n).1.copy r (w.place n).2.1 n):=by
 have a9:=BQ w.j.W r;obtain⟨i,p,t,z,k,h3,h4,h5,h6,h7,h8,e⟩:=Oa hw ⟨by omega,hp⟩ hc;have hb:=BF.1 hw.C;have b1:=hw.pl;have hL:=h.L;have a7:(i:Int)*w.j.C.pw+w.j.C.pw<=w.j.C.pw*w.j.C.pg:=by(have:=ED (i:=i) (j:=w.j.C.pg) (pw:=w.j.C.pw) oq oq;rw[Ll w.j.C.pw];exact this)
 have a6:0<=(i:Int)*w.j.C.pw:=Lu oq oq;rw[e,h8];generalize hu:Cg (w.j.P.getD i X)=u at *;generalize ha:4096+(i:Int)*w.j.C.pw+u=at';have b2:=h.r r (Lq _ hr);have o:=h.f i z (by rcases k with k|k;exact Le k;exact Ld k.1);rw[hu]at o;obtain⟨m1,m2,m3⟩:=Sl (ws:=w.j.W) (a:=at') (b:=r) (n:=n) oq oq oq;have a5:=o r (Lq _ hr);have a1:r≠at':=by omega
 have g:4096<=r/\r<4096+(moveA w.j.W at' r n).1.length:=by omega
 have k1:∀a∈w.old++w.Q,Zr (BY (moveA w.j.W at' r n).1 r (4*at'+2)).1 a<=Zr w.j.W a:=by
  intro a c;have a4:=o a c;have a8:=BQ w.j.W a;by_cases hk:a=r;subst hk;have:Zr (BY (moveA w.j.W at' a n).1 a (4*at'+2)).1 a=0:=by(unfold Zr;rw[Ab g];exact Zl7 at')
  omega;have:Zr (BY (moveA w.j.W at' r n).1 r (4*at'+2)).1 a=Zr w.j.W a:=by(unfold Zr;rw[GJ g hk,m3 a oq])
  omega
 have k2:Zr (BY (moveA w.j.W at' r n).1 r (4*at'+2)).1 at'=n-1:=by
  have:Zr (BY (moveA w.j.W at' r n).1 r (4*at'+2)).1 at'=Zr w.j.W r:=by(unfold Zr;rw[GJ g (Ne.symm a1),m2])
  omega
 have l:(BY (moveA w.j.W at' r n).1 r (4*at'+2)).1.length=w.j.W.length:=by rw[DU g,m1]
 have d:∀a,a∈w.old++(w.Q++[at'])->a∈w.old++w.Q\/a=at':=by(intro a c;simp only[Ls,LA]at c⊢;rcases c with c|c|c;exact Le (Le c);exact Le (Ld c);exact Ld c)
 refine⟨?_, ?_, ?_, ?_, ?_⟩;simp only[Z7.copy,l];exact hL;intro a c;simp only[Z7.copy,l]at c⊢;rcases d a c with c|rfl;have m:=h.r a c;have s:=k1 a c;omega;rw[k2];omega;intro a c b hB a0;simp only[Z7.copy]at c hB⊢;rcases d a c with hA'|e1<;>rcases d b hB with hB'|e2;have m:=h.s a hA' b hB' a0;have s:=k1 a hA';omega;have m:=o a hA';have s:=k1 a hA';omega;have m:=o b hB';have s:=BQ w.j.W b;rw[e1,k2];omega;omega;intro j hj f a c;simp only[Z7.copy,Lx]at hj f c⊢;by_cases y:i=j;subst y;rw[CV z,if_pos rfl];have a2:Cg p=u+n:=by rw[Cg,if_neg oq,h4]
 rw[a2];rcases d a c with c|rfl;have m:=o a c;have s:=k1 a c;omega;rw[k2];omega;rw[CV z,if_neg y]at f⊢;have v:(w.j.P.getD j X).K=0\/(j:Int)∈w.T:=by(rcases f with f|f;exact Le f;rcases h7 _ f with q|q;exact Ld q;omega)
 rcases d a c with c|rfl;have m:=h.f j hj v a c;have s:=k1 a c;omega;rw[k2];have b3:0<=Cg (w.j.P.getD j X):=by(have:=hw.us j hj;unfold Cg;split<;>omega)
 by_cases b0:i<j;have:=ED (i:=i) (j:=j) (pw:=w.j.C.pw) oq oq;omega;have:=ED (i:=j) (j:=i) (pw:=w.j.C.pw) oq oq;omega;intro x hx;simp only[Z7.copy]at hx⊢;have m:=h.z x hx;have s:=k1 x (Lq _ hx);rw[CV z];split;rename_i a3;rw[<-a3]at m;rcases k with k|k<;>omega;omega
structure Gn (w v:Z7):Prop where
 c:v.j.C=w.j.C
 o:v.old=w.old
 q:∀x∈w.Q,x∈v.Q
 l:∀x∈w.Q,Zr v.j.W x=Zr w.j.W x
def Gn.rfl' w:Gn w w:=⟨rfl,rfl,λ_ h=>h,λ_ _=>rfl⟩
def Gn.trans{u v w}(a:Gn u v)(b:Gn v w):Gn u w:=
 ⟨b.c.trans a.c,b.o.trans a.o,λx c=>b.q x (a.q x c),λx c=>(b.l x (a.q x c)).trans (a.l x c)⟩
def GA w r:Z5 (Zv w r)=Zr w.j.W r+1:=by have a:ZV (Zv w r)=Y:=DZ _;rw[Z5,if_pos a];rfl
def Zcy{w}(g:Ba w)(h:Bw w){r n:Int}(hr:r∈w.old)(hq:r∉w.Q)(hn:n=Zr w.j.W r+1)(hp:n<=w.j.C.pw)(o:(w.place n).2.2=Y):Gn w ((w.place n).1.copy r (w.place n).2.1 n):=by
 have z:=BQ w.j.W r;obtain⟨i,p,t,l,c,h3,h4,h5,h6,h7,m,e⟩:=Oa g ⟨by omega,hp⟩ o;have hb:=BF.1 g.C;have a1:=g.pl;have hL:=h.L;have y:(i:Int)*w.j.C.pw+w.j.C.pw<=w.j.C.pw*w.j.C.pg:=by(have:=ED (i:=i) (j:=w.j.C.pg) (pw:=w.j.C.pw) oq oq;rw[Ll w.j.C.pw];exact this)
 have v:0<=(i:Int)*w.j.C.pw:=Lu oq oq;rw[e,m];generalize hu:Cg (w.j.P.getD i X)=u at *;generalize ha:4096+(i:Int)*w.j.C.pw+u=at';have a2:=h.r r (Lq _ hr);have k:=h.f i l (by rcases c with c|c;exact Le c;exact Ld c.1);rw[hu]at k;obtain⟨m1,m2,m3⟩:=Sl (ws:=w.j.W) (a:=at') (b:=r) (n:=n) oq oq oq;have f:4096<=r/\r<4096+(moveA w.j.W at' r n).1.length:=by omega
 refine⟨rfl,rfl,λx d=>Lq _ d, ?_⟩;intro x d;have s:=k x (LK _ d);have a0:=BQ w.j.W x;simp only[Z7.copy];unfold Zr at *;rw[GJ f (λq=>hq (q▸d)),m3 x oq]
def RQ{w}(l:Ba w)(h:Bw w) r(e:(w.fwd r).2.2=0):Bw (w.fwd r).1/\Gn w (w.fwd r).1:=by
 unfold Z7.fwd at e⊢;split at e;rename_i c1;rw[if_pos c1];exact⟨h,Gn.rfl' w⟩;rename_i c1;rw[if_neg c1];have f:r∉w.Q:=λh=>c1 (Ld h);split at e;simp at e;rename_i c2;rw[if_neg c2];have a:r∈w.old:=Ly.1 c2;split at e;rename_i c3;rw[if_pos c3];exact⟨h,Gn.rfl' w⟩;rename_i c3;rw[if_neg c3];split at e;simp at e;rename_i c4;rw[if_neg c4];split at e;rename_i g;rw[if_pos g];exact⟨h.keep a,⟨rfl,rfl,λx i=>Lq _ i,λ_ _=>rfl⟩⟩;rename_i g;rw[if_neg g];split at e;rename_i d;rw[if_pos d];exact⟨(h.flip _).keep a,⟨rfl,rfl,λx i=>Lq _ i,λ_ _=>rfl⟩⟩;rename_i d;rw[if_neg d];split at e;simp at e;rename_i j;rw[if_neg j];have b:(w.place (Z5 (Zv w r))).2.2=Y:=by simpa using j
 have c:=h.z r a;have k:Z5 (Zv w r)<=w.j.C.pw:=by(rw[GA];rcases c with c|c;exact absurd c d;exact c)
 exact⟨h.copy l a (GA w r) k b,Zcy l h a f (GA w r) k b⟩
def Z6L{w}(n:Ba w)(h:Bw w){q j:Int}(k:q∈w.Q)(hj:0<=j/\j<Zr w.j.W q)(e:(w.fwd (Z1 w.j.W (q+1+j)).1).2.2=0):Bw (w.in1 (q+1+j))/\Gn w (w.in1 (q+1+j)):=by
 obtain⟨f,g⟩:=RQ n h _ e;have c:=g.q q k;have l:=g.l q k;have hr:=f.r q (LK _ c);have m:=f.s q (LK _ c);have b:4096<=q+1+j/\q+1+j<4096+(w.fwd (Z1 w.j.W (q+1+j)).1).1.j.W.length:=by omega
 have i:∀a∈(w.fwd (Z1 w.j.W (q+1+j)).1).1.old++(w.fwd (Z1 w.j.W (q+1+j)).1).1.Q,Zr (BY (w.fwd (Z1 w.j.W (q+1+j)).1).1.j.W (q+1+j) (w.fwd (Z1 w.j.W (q+1+j)).1).2.1).1 a=Zr (w.fwd (Z1 w.j.W (q+1+j)).1).1.j.W a:=by(intro a d;unfold Zr;rw[GJ b];intro hc;have:=m a d oq;omega)
 refine⟨f.withWords (DU b) (λa d=>Int.le_of_eq (i a d)),g.trans ⟨rfl,rfl,λ_ h=>h,λx o=>i x (LK _ o)⟩⟩
def Ad(h:ZB):∀x∈Zz h,0<=x/\x<h.length:=by unfold Zz;split;intro x a;have:=Z35 h _ x a;omega;simp
def Me{w}(c:Ba w)(h:Bw w){q:Int}(b:q∈w.Q){l:List Int}(hl:∀x∈l,0<=x/\x<Zr w.j.W q):∀k,k<=l.length->(∀j,j<k->BW w q l j=0)->Bw (Bq w q l k)/\Gn w (Bq w q l k)
 |0,_,_=>⟨h,Gn.rfl' w⟩
 |k+1,hk,he=>by
  have a:=Me c h b hl k oq (λj e=>he j oq);have ok:=(Nh c q l k (λj e=>he j oq)).1;have d:=hl _ (BI.2 ⟨k,by omega,rfl⟩);have:=Z6L ok a.1 (a.2.q q b) (j:=l.getD k X) ⟨d.1,by rw[a.2.l q b];exact d.2⟩ (he k oq);exact⟨this.1,a.2.trans this.2⟩
def Z3D{w}(c:Ba w)(h:Bw w)(e:(ZZ w).2.2=0):Bw (ZZ w).1/\Gn w (ZZ w).1:=by
 by_cases b:w.D<w.Q.length;have i:=c.sc;have g:Bz w∈w.Q:=BI.2 ⟨w.D.toNat,by omega,rfl⟩;unfold ZZ at e⊢;rw[if_pos b]at e⊢;cases hb:(Lg (B4 w).length).find? (λk=>O (BW w (Bz w) (B4 w) k≠0))with
 |none =>
  have d:∀j,j<(B4 w).length->BW w (Bz w) (B4 w) j=0:=λj f=>by(have:=Lr.1 hb j (Lp.2 f);simpa using this)
  obtain⟨k1,a⟩:=Me c h g (l:=B4 w) (Ad (Zv w (Bz w))) (B4 w).length (Lt _) d;exact⟨⟨k1.L,k1.r,k1.s,k1.f,k1.z⟩,⟨a.c,a.o,a.q,a.l⟩⟩
 |some k =>simp only[hb]at e;have:=(Lo.1 hb).1;simp[e]at this
 have e:ZZ w=(w,M,0):=by rw[ZZ,if_neg b]
 rw[e];exact⟨h,Gn.rfl' w⟩
def AY{w}(b:Ba w)(h:Bw w):∀k,(∀j,j<k->CN w j=M)->Bw (Cc w k)/\Gn w (Cc w k)
 |0,_=>⟨h,Gn.rfl' w⟩
 |k+1,hh=>by
  have c:=AY b h k (λj d=>hh j oq);have ok:=(Io b k (λj d=>hh j oq)).1;have a:=hh k oq;simp only[CN,decide_eq_false_iff_not,not_or,Ly]at a;have:=Z3D ok c.1 a.1;exact⟨this.1,c.2.trans this.2⟩
def Zi9{w}(a:Ba w)(h:Bw w)(e:(Bh w).2=0):Bw (Bh w).1/\Gn w (Bh w).1:=by
 obtain⟨k,d⟩:=R7 a;obtain⟨h1,h2,i⟩:=Lo.1 d;have b:∀j,j<k->CN w j=M:=λj l=>by simpa using i j l
 unfold Bh at e⊢;rw[d]at e⊢;simp only at e⊢;split at e;rename_i c;rw[if_pos c];have f:=AY a h k b;have g:=Z3D (Io a k b).1 f.1 c;exact⟨g.1,f.2.trans g.2⟩;rename_i c;exact absurd e c
def Z3t{w roots}(a:Ba w)(h:Bw w):∀k,(∀j,j<k->E9 w roots j=0)->Bw (rootsN w roots k).1/\Gn w (rootsN w roots k).1
 |0,_=>⟨h,Gn.rfl' w⟩
 |k+1,hh=>by
  have b:=Z3t a h k (λj c=>hh j oq);have ok:=(Ak (roots:=roots) a k (λj c=>hh j oq)).1;have:=RQ ok b.1 (roots.getD k X) (hh k oq);exact⟨this.1,b.2.trans this.2⟩
def Aj{w roots}(b:Ba w)(h:Bw w)(e:(rootsF w roots).2.2=0):Ba (rootsF w roots).1/\Bw (rootsF w roots).1/\Gn w (rootsF w roots).1/\(∀x∈(rootsF w roots).2.1,0<=x/\x<=4294967296)/\(rootsF w roots).2.1.length=roots.length:=by
 unfold rootsF at e⊢;cases hb:(Lg roots.length).find? (λk=>O (E9 w roots k≠0))with
 |none =>
  have a:∀j,j<roots.length->E9 w roots j=0:=λj d=>by(have:=Lr.1 hb j (Lp.2 d);simpa using this)
  have k1:=Ak (roots:=roots) b roots.length a;have c:=Z3t (roots:=roots) b h roots.length a;exact⟨k1.1,c.1,c.2,k1.2.1,Nv w roots _⟩
 |some k =>simp only[hb]at e;have:=(Lo.1 hb).1;simp[e]at this
def Z3K sp:∀(l:List Z0) (m:Nat),m<EA sp l->m<l.length/\(l.getD m X).K=3/\(l.getD m X).S=sp
 |[],m,h=>by simp[EA]at h
 |p::l,m,h=>by
  unfold EA at h;split at h
  .rename_i b;cases m with
   |zero=>exact⟨by simp,b⟩
   |succ m =>
    obtain⟨h1,a⟩:=Z3K sp l m oq;exact⟨by simp;omega,by simpa using a⟩
  .omega
def Z1F{c n}(h:1<=need c n):n<=need c n*c.pw:=by unfold need at h⊢;split at h;rename_i a;rw[if_pos a];have hb:=BF.1 a.1;split at h;omega;rename_i d;rw[if_neg d];have e:=LZ (n+c.pw-1) c.pw;have l:=LY (n+c.pw-1) (b:=c.pw) oq;rw[Ll]at e;omega;omega
def Z73{h:Heap}(i:Z8 h=Y){j:Nat}(f:j<h.P.length)(g:(h.P.getD j X).K=2) :1<=need h.C (h.P.getD j X).U/\∀m:Nat,1<=m->(m:Int)<need h.C (h.P.getD j X).U->j+m<h.P.length/\(h.P.getD (j+m) X).K=3/\(h.P.getD (j+m) X).S=(h.P.getD j X).S:=by
 have hi:=Ig.1 i;obtain⟨d,_,e⟩:=Z3V oq hi.2.2.2.2.2 oq j oq f;have k:=e.2.2.2.2.2.2.2.2.2.1 g;refine⟨k.1, ?_⟩;intro m h1 h2;obtain⟨b,a⟩:=Z3K (h.P.getD j X).S (h.P.drop (j+1)) (m-1) oq;have c:j+m<h.P.length:=by simp at b;omega
 refine⟨c, ?_⟩;have:(h.P.drop (j+1)).getD (m-1) X=h.P.getD (j+m) X:=by(rw[Lc,Lc,Lz,show j+1+(m-1)=j+m by omega])
 rw[this]at a;exact a
def Oe{h:Heap}(b:Z8 h=Y){j:Nat}(c:j<h.P.length)(a:(h.P.getD j X).K=1\/(h.P.getD j X).K=2):(j:Int)*h.C.pw+(h.P.getD j X).U<=h.C.pw*h.C.pg:=by
 have po:=B5 b;have pp:=EL b c;rcases a with a|a;have:=ED (i:=j) (j:=h.C.pg) (pw:=h.C.pw) oq oq;rw[Ll h.C.pg]at this;omega;obtain⟨t1,t2⟩:=Z73 b c a;have nu:=Z1F t1;have d:(j:Int)+need h.C (h.P.getD j X).U<=h.C.pg:=by(by_cases h1:need h.C (h.P.getD j X).U=1;omega;have:=(t2 (need h.C (h.P.getD j X).U-1).toNat oq oq).1;omega)
 have:=LI d (show 0<=h.C.pw by omega);rw[LH,Ll h.C.pg]at this;omega
def Db{h:Heap}(c:Z8 h=Y){i j:Nat}(e:i<j)(hj:j<h.P.length)(a:(h.P.getD i X).K=1\/(h.P.getD i X).K=2)(b:(h.P.getD j X).K≠3):(i:Int)*h.C.pw+(h.P.getD i X).U<=j*h.C.pw:=by
 have po:=B5 c;have pp:=EL c (show i<h.P.length by omega);rcases a with a|a;have:=ED (i:=i) (j:=j) (pw:=h.C.pw) oq oq;omega;obtain⟨t1,t2⟩:=Z73 c (show i<h.P.length by omega) a;have nu:=Z1F t1;have f:(i:Int)+need h.C (h.P.getD i X).U<=j:=by(by_cases d:(i:Int)+need h.C (h.P.getD i X).U<=j;exact d;have:=(t2 (j-i) oq oq).2;rw[show i+(j-i)=j by omega]at this;exact absurd this.1 b)
 have:=LI f (show 0<=h.C.pw by omega);rw[LH]at this;omega
def Da{c:B2}{i o:Int}(d:Zq c=Y)(b:0<=i/\i<c.pg)(a:0<=o/\o<c.pw):Z3 c (4096+(i*c.pw+o))=(i,o,0):=by have hb:=BF.1 d;have e:=ED (i:=i) (j:=c.pg) (pw:=c.pw) b.2 oq;have h0:0<=i*c.pw:=Lu b.1 oq;rw[Ll c.pg]at e;unfold Z3;rw[if_pos d,if_pos oq,show 4096+(i*c.pw+o)-4096=o+i*c.pw by omega,Int.add_mul_ediv_right _ _ oq,Int.add_mul_emod_self_right,Int.ediv_eq_zero_of_lt a.1 a.2,Int.emod_eq_of_lt a.1 a.2];simp
structure OnP (h:Heap) (j:Nat) (a:Int):Prop where
 k:(h.P.getD j X).K=1\/(h.P.getD j X).K=2
 lo:4096+j*h.C.pw<=a
 hi:a<4096+j*h.C.pw+h.C.pw
 of:(Z3 h.C a).1=j
 e:a+Zr h.W a<4096+j*h.C.pw+(h.P.getD j X).U
 z:(h.P.getD j X).K=2\/Zr h.W a+1<=h.C.pw
 at':(Z9 h a).2=0
def Z8a{h:Heap}{j:Nat}(v:Z8 h=Y)(hj:j<h.P.length)(g:(h.P.getD j X).K=1\/(h.P.getD j X).K=2):∀(f:Nat) (o:Int) (l:List Int),0<=o->((h.P.getD j X).K=2->o=0)->Ej h j f o=Lb l -> (∀a∈l,OnP h j a/\4096+j*h.C.pw+o<=a)/\l.Pairwise (λa b=>a+Zr h.W a<b)
 |0,o,l,_,_,e=>by simp[Ej]at e;subst e;simp
 |f+1,o,l,z,h2,e=>by
  have po:=B5 v;have pp:=EL v hj;unfold Ej at e;have x:pg h (j:Int)=h.P.getD j X:=by simp[pg]
  rw[x]at e;split at e
  .rename_i ho;have t:o<h.C.pw:=by
    rcases g with g|g
    .omega
    .have:=h2 g;omega
   have k:B8 h j o=4096+(j*h.C.pw+o):=by
    unfold B8 address;rw[if_pos po.1,if_pos (HM.2 ⟨by omega,by omega,z,t⟩)]
   have y:=Da (c:=h.C) (i:=j) (o:=o) po.1 oq ⟨z,t⟩;split at e
   .rename_i p
    have d:=p
    rw[k]at d;have u:Z5 (Z6 (Z1 h.W (4096+(j*h.C.pw+o))).1).1=Zr h.W (4096+(j*h.C.pw+o))+1:=by
     rw[Z5,if_pos (DZ _)];rfl
    have a1:=BQ h.W (4096+(j*h.C.pw+o));have n:((h.P.getD j X).K=1->o+(Zr h.W (4096+(j*h.C.pw+o))+1)<=(h.P.getD j X).U)/\((h.P.getD j X).K=2->Zr h.W (4096+(j*h.C.pw+o))+1=(h.P.getD j X).U)/\Z5 (Z9 h (4096+(j*h.C.pw+o))).1=Zr h.W (4096+(j*h.C.pw+o))+1:=by
     unfold Z9 at d⊢;rw[if_pos v]at d⊢;simp only[y,u,if_true,L0]at d⊢;split at d
     .rename_i g1;split at d
      .simp at d
      .rename_i g2;rw[if_pos g1,if_neg g2];refine⟨λa0=>?_,λr=>?_,u⟩
       .omega
       .omega
     .simp at d
    have s:OnP h j (B8 h j o):=by
     refine⟨g, ?_, ?_, ?_, ?_, ?_,p⟩
     .rw[k];omega
     .rw[k];omega
     .rw[k,y]
     .rw[k];rcases g with g|g
      .have:=n.1 g;omega
      .have:=n.2.1 g;have:=h2 g;omega
     .rw[k];rcases g with g|g
      .have:=n.1 g;omega
      .exact Le g
    split at e
    .cases e;simp only[LA,Xf,Xe,List.Pairwise.nil];refine⟨?_,by simp⟩;rintro a rfl;exact⟨s,by rw[k];omega⟩
    .rename_i r;rw[Option.map_eq_some_iff]at e;obtain⟨m,hm,rfl⟩:=e;rw[k,n.2.2]at hm;obtain⟨i1,i2⟩:=Z8a v hj g f _ m oq (λq=>absurd q r) hm;constructor
     .intro a w;rcases Xb.1 w with rfl|w
      .exact⟨s,by rw[k];omega⟩
      .have:=i1 a w;exact⟨this.1,by omega⟩
     .rw[Xf];refine⟨λb hb=>?_,i2⟩;have:=(i1 b hb).2;rw[k];omega
   .cases e
  .cases e;simp
def Z6G{h:Heap}(e:Z8 h=Y):∀(f i:Nat),i+f=h.P.length->(Ce h f i).1.Pairwise (λa b=>a+Zr h.W a<b)/\∀a∈(Ce h f i).1,∃j,i<=j/\j<h.P.length/\OnP h j a
 |0,i,_=>by simp[Ce]
 |f+1,i,hf=>by
  have k:=Z6G e f (i+1) oq;have d:(Ze h i).1.Pairwise (λa b=>a+Zr h.W a<b)/\∀a∈(Ze h i).1,OnP h i a:=by
   unfold Ze;rw[if_pos e,if_pos oq];have p:pg h (i:Int)=h.P.getD i X:=by simp[pg]
   rw[p];split
   .simp
   .rename_i hk;cases hw:Ej h i 256 0 with
    |none=>simp
    |some l =>
     have pp:=EL e (show i<h.P.length by omega);obtain⟨w1,w2⟩:=Z8a e (show i<h.P.length by omega) oq 256 0 l oq (λ_=>rfl) hw;exact⟨w2,λa c=>(w1 a c).1⟩
  unfold Ce;split
  .split
   .simp only;constructor
    .rw[List.pairwise_append];refine⟨d.1,k.1,λa c b o=>?_⟩;have n:=d.2 a c;obtain⟨j,q,m,g⟩:=k.2 b o;have:=Db e (show i<j by omega) m n.k (by have:=g.k;omega);have:=n.e;have:=g.lo;omega
    .intro a c;rcases Ls.1 c with c|c
     .exact⟨i,by omega,by omega,d.2 a c⟩
     .obtain⟨j,q,m,g⟩:=k.2 a c;exact⟨j,by omega,m,g⟩
   .simp
  .simp
def Z9y{h:Heap}(n:Z8 h=Y):(∀a∈(Zt h).1,∃j,j<h.P.length/\OnP h j a)/\∀a∈(Zt h).1,∀b∈(Zt h).1,a<b->a+Zr h.W a<b:=by
 have f:=Z6G n h.P.length 0 oq;have e:Cx h=Ce h h.P.length 0:=by rw[Cx,if_pos n]
 rw[<-e]at f;have p:∀a∈(Zt h).1,∃j,j<h.P.length/\OnP h j a:=by(intro a d;obtain⟨j,_,u,o⟩:=f.2 a (List.mem_filter.1 d).1;exact⟨j,u,o⟩)
 refine⟨p, ?_⟩;have c:(Zt h).1.Pairwise (λa b=>a+Zr h.W a<b):=List.Pairwise.filter _ f.1;intro a d b s r;obtain⟨i,hi,g⟩:=LO.1 d;obtain⟨k,m,l⟩:=LO.1 s;have t:=BQ h.W b;rcases Nat.lt_trichotomy i k with q|q|q;have:=Xg.1 c i k hi m q;rw[g,l]at this;exact this;subst q;omega;have:=Xg.1 c k i m hi q;rw[g,l]at this;omega
def RZ{h:Heap}(d:Z8 h=Y):Bw (Zs h):=by
 have q:=B5 d;have e:=Z9y d;have l:∀j,((h.P.map (Zo (1-h.S))).getD j X).K=(h.P.getD j X).K/\((h.P.map (Zo (1-h.S))).getD j X).U=(h.P.getD j X).U:=by
  intro j;by_cases r:j<h.P.length;have:(h.P.map (Zo (1-h.S))).getD j X=Zo (1-h.S) (h.P.getD j X):=by simp[Lc,r]
  rw[this,Zo];split;exact⟨rfl,rfl⟩;exact⟨rfl,rfl⟩;rw[Lc,Lc,Lw qo,Lw oq];exact⟨rfl,rfl⟩
 refine⟨q.2.2.2.2.2.1, ?_, ?_, ?_, ?_⟩;intro a c;simp only[Zs,LN]at c⊢;obtain⟨j,m,o⟩:=e.1 a c;have h1:=o.lo;have h2:=o.e;have h3:=Oe d m o.k;have h4:0<=(j:Int)*h.C.pw:=Lu oq oq;have h5:=q.2.2.2.2.2.1;omega;intro a c b n f;simp only[Zs,LN]at c n⊢;exact e.2 a c b n f;intro i hi g a c;simp only[Zs,LN,Lk,Xe,or_false]at hi g c⊢;rw[(l i).1]at g;have k:Cg ((h.P.map (Zo (1-h.S))).getD i X)=0:=by rw[Cg,(l i).1,if_pos g]
 rw[k];obtain⟨j,m,o⟩:=e.1 a c;have s:=o.k;have u:i≠j:=by rintro rfl;omega
 by_cases t:i<j;have:=ED (i:=i) (j:=j) (pw:=h.C.pw) oq oq;have:=o.lo;omega;have:=Db d (show j<i by omega) hi s oq;have:=o.e;omega;intro x p;simp only[Zs]at p⊢;obtain⟨j,m,o⟩:=e.1 x p;rw[o.of,L0,(l j).1];exact o.z
def R8{h:Heap}(o:Zy h.W)(g:Z8 h=Y):Ba (Zs h):=by
 have c:=B5 g;have ho:=SI h;have n:=Z2a h;have b:∀j,j<h.P.length->0<=((h.P.map (Zo (1-h.S))).getD j X).U/\((h.P.map (Zo (1-h.S))).getD j X).U<=1024:=by
  intro j a;have pp:=EL g a;have:(h.P.map (Zo (1-h.S))).getD j X=Zo (1-h.S) (h.P.getD j X):=by simp[Lc,a]
  rw[this,Zo];split;simp only;omega;omega
 refine⟨o,c.2.2.2.2.2.2.1,c.1,by simp only[Zs,Lk];exact c.2.2.2.2.2.2.2.1,c.2.2.2.2.2.2.2.2,by simp only[Zs];omega,n,by simp[Zs],by simp[Zs],by simp[Zs],by simpa only[Zs,Lk]using b, ?_,by simp[Zs],by simp[Zs],by simp[Zs],by simp[Zs]⟩;simp only[Zs,muW,List.length_nil];have h1:Sf (Zt h).1 []<=(Zt h).1.length:=List.length_filter_le _ _;have i:∀l:List Z0,(∀p∈l,Ry h.C.pw p<=64)->Nb h.C.pw l<=64*l.length:=by
  intro l;induction l with|nil=>intro _;simp[Nb]|cons p l r =>intro f;have:=r λq m=>f q (List.mem_cons_of_mem _ m);have:=f p (List.mem_cons_self);simp only[Nb,List.map_cons,List.sum_cons,L6]at *;omega
 have k:=i (h.P.map (Zo (1-h.S))) (by
  intro p d;obtain⟨j,a,e⟩:=LO.1 d;have:=b j (by simpa using a);rw[show(h.P.map (Zo (1-h.S))).getD j X=p by simp only[Lc,Lm a,e];rfl]at this;unfold Ry;split<;>omega)
 simp only[Lk]at k;omega
structure Rz (c:B2) (p:Z0):Prop where
 s:0<=p.S/\p.S<=1
 n:0<=p.N/\p.N<=2147483647
 k:0<=p.K/\p.K<=3
 k0:p.K=0->p.S=0/\p.U=0/\p.N=0
 k1:p.K=1->0<=p.U/\p.U<=c.pw
 k3:p.K=3->p.U=0/\p.N=0
structure PT (c:B2) (l:List Z0):Prop where
 b:∀i,i<l.length->Rz c (l.getD i X)
 lg:∀i,i<l.length->(l.getD i X).K=2->1<=need c (l.getD i X).U/\∀m:Nat,1<=m->(m:Int)<need c (l.getD i X).U->i+m<l.length/\(l.getD (i+m) X).K=3/\(l.getD (i+m) X).S=(l.getD i X).S
 tl:∀i,i<l.length->(l.getD i X).K=3->∃j,j<i/\(l.getD j X).K=2/\(i:Int)<j+need c (l.getD j X).U
def Hj(c:B2)(l:List Z0):Nat->Int|0=>0|i+1=>Er c l i (Hj c l i)
def Z5U{c}{l:List Z0}:∀{f i:Nat},l.length<=i+f->(G6 c l f i (Hj c l i)=Y↔∀j,i<=j->j<l.length->G3 c l j (Hj c l j))
 |0,i,h=>by
  simp only[G6,true_iff];intro j a b;omega
 |f+1,i,h=>by
  unfold G6;by_cases hi:i<l.length
  .rw[if_pos hi,LX,decide_eq_true_eq,show Er c l i (Hj c l i)=Hj c l (i+1)from rfl,Z5U (f:=f) (i:=i+1) oq];constructor
   .rintro⟨a,b⟩ j g d;by_cases k:j=i
    .subst k;exact a
    .exact b j oq d
   .intro e;exact⟨e i (Lt _) hi,λj g d=>e j oq d⟩
  .rw[if_neg hi];simp only[true_iff];intro j a b;omega
def Z3g{c l}:∀i,0<=Hj c l i->0<Hj c l i->∃j,j<i/\(l.getD j X).K=2/\Hj c l i=j+need c (l.getD j X).U-i
 |0,_,h=>by simp[Hj]at h
 |i+1,h0,h=>by
  simp only[Hj,Er]at h0 h⊢;split at h
  .rename_i a;refine⟨i,by omega,a, ?_⟩;rw[if_pos a];omega
  .rename_i a;have h1:1<Hj c l i:=by omega
   obtain⟨j,j1,b,j3⟩:=Z3g (c:=c) (l:=l) i oq oq;refine⟨j,by omega,b, ?_⟩;rw[if_neg a];omega
def Z4x(sp:Int):∀(l:List Z0) (k:Nat),(∀m,m<k->m<l.length/\(l.getD m X).K=3/\(l.getD m X).S=sp)->k<=EA sp l
 |_,0,_=>Nat.zero_le _
 |[],k+1,h=>by have:=(h 0 oq).1;simp at this
 |p::l,k+1,h=>by
  have a:=(h 0 oq).2;simp only[List.getD_cons_zero]at a;rw[EA,if_pos a];have:=Z4x sp l k λm hm=>by
   have:=h (m+1) oq;simpa using this
  omega
def PT.due{c l}(h:PT c l){i:Nat}(hi:i<l.length)(a:(l.getD i X).K=2):∀m:Nat,(m:Int)<need c (l.getD i X).U->Hj c l (i+1+m)=need c (l.getD i X).U-1-m
 |0,hm=>by
  show Er c l i (Hj c l i)=_;rw[Er,if_pos a];omega
 |m+1,hm=>by
  have d:=h.due hi a m oq;have b:=((h.lg i hi a).2 (m+1) oq hm).2.1;show Er c l (i+1+m) (Hj c l (i+1+m))=_;rw[Er,show i+1+m=i+(m+1) by omega,if_neg (by rw[b];decide),show i+(m+1)=i+1+m by omega,d];omega
def Z66{c}{l:List Z0}(h:∀i,i<l.length->(l.getD i X).K=2->1<=need c (l.getD i X).U):∀i,i<=l.length->0<=Hj c l i
 |0,_=>Int.le_refl _
 |i+1,hi=>by
  have ih:=Z66 h i oq;simp only[Hj,Er];split
  .rename_i a;have:=h i oq a;omega
  .omega
def ZeS{c l}:G6 c l l.length 0 0=Y↔PT c l:=by
 have e:=Z5U (c:=c) (l:=l) (f:=l.length) (i:=0) oq;rw[show Hj c l 0=0 from rfl]at e;rw[e];constructor;intro h;have s:∀i,i<l.length->Rz c (l.getD i X):=by(intro i hi;have q:=h i oq hi;unfold G3 at q;exact⟨⟨q.2.1,q.2.2.1⟩,⟨q.2.2.2.1,q.2.2.2.2.1⟩,⟨q.2.2.2.2.2.1,q.2.2.2.2.2.2.1⟩,q.2.2.2.2.2.2.2.1,q.2.2.2.2.2.2.2.2.1,q.2.2.2.2.2.2.2.2.2.2⟩)
 have u:∀i,i<l.length->(l.getD i X).K=2->1<=need c (l.getD i X).U/\∀m:Nat,1<=m->(m:Int)<need c (l.getD i X).U->i+m<l.length/\(l.getD (i+m) X).K=3/\(l.getD (i+m) X).S=(l.getD i X).S:=by
  intro i hi a;have q:=(h i oq hi).2.2.2.2.2.2.2.2.2.1 a;refine⟨q.1, ?_⟩;intro m h1 h2;obtain⟨o,k⟩:=Z3K (l.getD i X).S (l.drop (i+1)) (m-1) oq;have p:i+m<l.length:=by simp at o;omega
  have:(l.drop (i+1)).getD (m-1) X=l.getD (i+m) X:=by(rw[Lc,Lc,Lz,show i+1+(m-1)=i+m by omega])
  rw[this]at k;exact⟨p,k⟩
 refine⟨s,u, ?_⟩;intro i hi a;have q:=(h i oq hi).1.1 a;obtain⟨j,y,z,j3⟩:=Z3g (c:=c) (l:=l) i oq q;exact⟨j,y,z,by omega⟩;intro h j _ d;have b:=h.b j d;have t:=Z66 (λi hi a=>(h.lg i hi a).1) j oq;refine⟨⟨?_, ?_⟩,b.s.1,b.s.2,b.n.1,b.n.2,b.k.1,b.k.2,b.k0,b.k1, ?_,b.k3⟩;intro a;obtain⟨i,w,g,x⟩:=h.tl j d a;have:=h.due (show i<l.length by omega) g (j-i-1) oq;rw[show i+1+(j-i-1)=j by omega]at this;omega;intro v;obtain⟨i,w,g,x⟩:=Z3g j t v;have:=((h.lg i oq g).2 (j-i) oq oq).2.1;rw[show i+(j-i)=j by omega]at this;exact this;intro a;have q:=h.lg j d a;refine⟨q.1, ?_⟩;have:=Z4x (l.getD j X).S (l.drop (j+1)) (need c (l.getD j X).U-1).toNat λm hm=>by
  have r:=q.2 (m+1) oq oq;have n:(l.drop (j+1)).getD m X=l.getD (j+(m+1)) X:=by(rw[Lc,Lc,Lz,show j+1+m=j+(m+1) by omega])
  rw[n];exact⟨by simp;omega,r.2⟩
 omega
def HD{h:Heap}:Z8 h=Y↔Zq h.C=Y/\(h.W.length:Int)=h.C.pw*h.C.pg/\(h.P.length:Int)=h.C.pg/\(h.S=0\/h.S=1) /\ (h.B=-1\/(0<=h.B/\h.B<h.P.length/\(h.P.getD h.B.toNat X).K=1))/\PT h.C h.P:=by rw[Ig,ZeS]
def PT.setPage{c l}(h:PT c l){i:Nat}(hi:i<l.length)(hk:(l.getD i X).K=0\/(l.getD i X).K=1){p}(s:Rz c p)(t:p.K=0\/p.K=1):PT c (l.set i p):=by refine⟨?_, ?_, ?_⟩;intro j f;rw[Lx]at f;rw[CV hi];split;exact s;exact h.b j f;intro j f d;rw[Lx]at f;rw[CV hi]at d⊢;by_cases b:i=j;rw[if_pos b]at d;omega;rw[if_neg b]at d⊢;have q:=h.lg j f d;refine⟨q.1,λm n o=>?_⟩;have r:=q.2 m n o;rw[Lx,CV hi,if_neg (by rintro rfl;omega)];exact r;intro j f e;rw[Lx]at f;rw[CV hi]at e;by_cases b:i=j;rw[if_pos b]at e;omega;rw[if_neg b]at e;obtain⟨a,a1,g,k⟩:=h.tl j f e;refine⟨a,a1, ?_⟩;rw[CV hi,if_neg (by rintro rfl;omega)];exact⟨g,k⟩
def PT.mapPages{c l}(h:PT c l)(f:Z0->Z0)(v:∀p,Rz c p->Rz c (f p))(n:∀p,Rz c p->(f p).K=2->p.K=2/\(f p).U=p.U)(w:∀p,Rz c p->(f p).K=3->p.K=3)(o:∀p q,Rz c p->Rz c q->p.K=2->q.K=3->q.S=p.S->((f p).K=2↔(f q).K=3)/\((f p).K=2->(f q).S=(f p).S)):PT c (l.map f):=by
 have e:∀j,j<l.length->(l.map f).getD j X=f (l.getD j X):=by(intro j b;simp[Lc,b])
 refine⟨?_, ?_, ?_⟩;intro j b;rw[Lk]at b;rw[e j b];exact v _ (h.b j b);intro j b d;rw[Lk]at b;rw[e j b]at d⊢;have q:=n _ (h.b j b) d;have r:=h.lg j b q.1;rw[q.2];refine⟨r.1,λm x y=>?_⟩;have s:=r.2 m x y;have t:=o _ _ (h.b j b) (h.b (j+m) s.1) q.1 s.2.1 s.2.2;rw[Lk,e _ s.1];exact⟨s.1,t.1.1 d,t.2 d⟩;intro j b d;rw[Lk]at b;rw[e j b]at d;have q:=w _ (h.b j b) d;obtain⟨a,a1,k,u⟩:=h.tl j b q;have i:a<l.length:=by omega
 have s:=(h.lg a i k).2 (j-a) oq oq;rw[show a+(j-a)=j by omega]at s;have t:=o _ _ (h.b a i) (h.b j b) k s.2.1 s.2.2;have g:=t.1.2 d;refine⟨a,a1, ?_⟩;rw[e a i];exact⟨g,by rw[(n _ (h.b a i) g).2];exact u⟩
def Z9J{l:List Z0}{i k:Nat}{p q}(hk:1<=k)(h:i+k<=l.length)(j:Nat):(ZQ l i k p q).getD j X=if j=i then p else if i<j/\j<i+k then q else l.getD j X:=by have hl:(wr l (LL k q) i k).length=l.length:=N9 (by simpa using h) pq;unfold ZQ;rw[Lc,List.getElem?_set];by_cases a:j=i;subst a;rw[if_pos rfl,if_pos rfl,if_pos oq];rfl;rw[if_neg (λe=>a e.symm),if_neg a,DL (by simpa using h) pq];by_cases b:j<i;rw[if_pos b,if_neg oq,Lc];rw[if_neg b];by_cases c:j<i+k;rw[if_pos c,if_pos oq];simp[show j-i<k by omega];rw[if_neg c,if_neg oq,Lc]
def PT.took{c l}(h:PT c l){i k:Nat}{n sp:Int}(hk:1<=k)(hik:i+k<=l.length)(hf:∀j,j<k->(l.getD (i+j) X).K=0)(hn:need c n=k)(hs:sp=0\/sp=1):PT c (ZQ l i k ⟨2,sp,n,0⟩ ⟨3,sp,0,0⟩):=by
 have hg:=Z9J (p:=⟨2,sp,n,0⟩) (q:=⟨3,sp,0,0⟩) hk hik;have hl:(ZQ l i k ⟨2,sp,n,0⟩ ⟨3,sp,0,0⟩).length=l.length:=Z29 hik;have hf':∀j,i<=j->j<i+k->(l.getD j X).K=0:=λj h1 h2=>by(have:=hf (j-i) oq;rwa [show i+(j-i)=j by omega]at this)
 refine⟨?_, ?_, ?_⟩;intro j hj;rw[hl]at hj;rw[hg];split;exact⟨by simp only;omega,by simp,by simp,by simp,by simp,by simp⟩;split;exact⟨by simp only;omega,by simp,by simp,by simp,by simp,by simp⟩;exact h.b j hj;intro j hj hk2;rw[hl]at hj⊢;simp only[hg]at hk2⊢;by_cases hji:j=i;subst hji;simp only[if_pos]at hk2⊢;rw[hn];refine⟨by omega,λm h1 h2=>⟨by omega, ?_⟩⟩;rw[if_neg oq,if_pos oq];exact⟨rfl,rfl⟩;rw[if_neg hji]at hk2⊢;by_cases hr:i<j/\j<i+k;rw[if_pos hr]at hk2;simp at hk2;rw[if_neg hr]at hk2⊢;have q:=h.lg j hj hk2;refine⟨q.1,λm h1 h2=>?_⟩;have r:=q.2 m h1 h2;have hne:¬ (i<=j+m/\j+m<i+k):=λhc=>by(have:=hf' (j+m) hc.1 hc.2;omega)
 rw[if_neg oq,if_neg oq];exact r;intro j hj hk3;rw[hl]at hj;simp only[hg]at hk3⊢;by_cases hji:j=i;rw[if_pos hji]at hk3;simp at hk3;rw[if_neg hji]at hk3;by_cases hr:i<j/\j<i+k;refine⟨i,hr.1, ?_⟩;simp only[if_pos];refine⟨trivial, ?_⟩;rw[hn];omega;rw[if_neg hr]at hk3;obtain⟨a,a1,a2,a3⟩:=h.tl j hj hk3;have hne:¬ (i<=a/\a<i+k):=λhc=>by(have:=hf' a hc.1 hc.2;omega)
 refine⟨a,a1, ?_⟩;rw[if_neg oq,if_neg oq];exact⟨a2,a3⟩
def M0{l i}{n:Int}:Cv l i n=l.set i ⟨(l.getD i X).K,(l.getD i X).S,(l.getD i X).U+n,(l.getD i X).N⟩:=rfl
def T9{h:Heap}(hs:h.S=0\/h.S=1)(a:0<=first h.P 1)(n:Int):Cv (HZ h) (first h.P 1).toNat n=h.P.set (first h.P 1).toNat ⟨1,h.S,n,0⟩/\(h.P.getD (first h.P 1).toNat X).K=0/\(first h.P 1).toNat<h.P.length:=by
 obtain⟨b,f2,f3,c⟩:=RB hs a;obtain⟨g1,g2,d⟩:=Ik a;have hi:(first h.P 1).toNat<h.P.length:=by omega
 refine⟨?_, ?_,hi⟩;rw[M0,c,b,Z3J hi,Xh];simp;have:=SL.1 d 0 dd;simpa using this
structure Oc (h:Heap) (n:Int) (h':Heap) (a:Int):Prop where
 pr:Z8 h'=Y
 c:h'.C=h.C
 w:h'.W=h.W
 l:h'.P.length=h.P.length
 sp:h'.S=h.S
 pin:∀p∈h'.P,p.N=0\/∃q∈h.P,p.N=q.N
 lo:4096<=a
 hi:a+n<=4096+h.W.length
def getD_in{l:List Z0}{i:Nat}(h:i<l.length):l.getD i X∈l:=by rw[Lc,Lm h];exact List.getElem_mem h
def Zhx{h:Heap}{n:Int}(hp:Z8 h=Y)(hn:1<=n/\n<=h.C.pw)(e:(Bm h n).2.2=Y):Oc h n (Bm h n).1 (Bm h n).2.1:=by
 have hp':=hp;rw[HD]at hp;obtain⟨p1,p2,p3,p4,p5,p6⟩:=hp;have hb:=BF.1 p1;by_cases hf:R3 h n;have e7:Bm h n=(⟨h.C,h.W,Cv h.P h.B.toNat n,h.S,h.B⟩,4096+h.B*h.C.pw+(h.P.getD h.B.toNat X).U,Y):=by rw[Bm,if_pos hf]
 unfold R3 at hf;have hbi:h.B.toNat<h.P.length:=by omega
 have hk:(h.P.getD h.B.toNat X).K=1:=by omega
 have ok:=p6.b h.B.toNat hbi;have u:=ok.k1 hk;have ha:=HR p1 (i:=h.B) oq oq;have hio:=ED (i:=h.B) (j:=h.C.pg) (pw:=h.C.pw) oq oq;rw[Ll h.C.pg]at hio;rw[e7];refine⟨?_,rfl,rfl,by simp[Cv],rfl, ?_,by simp only;omega,by simp only;omega⟩;rw[HD];refine⟨p1,p2,by simp[Cv,p3],p4, ?_, ?_⟩;refine Ld ⟨hf.1,by simp[Cv];omega, ?_⟩;show((Cv h.P h.B.toNat n).getD h.B.toNat X).K=1;rw[M0,CV hbi,if_pos rfl];exact hk;exact p6.setPage hbi (Ld hk) ⟨ok.s,ok.n,ok.k,λq=>by simp only at q;omega,λ_=>by simp only;omega,λq=>by simp only at q;omega⟩ (Ld hk);intro p hp;rcases LQ hp with hp|rfl;exact Ld ⟨p,hp,rfl⟩;exact Ld ⟨_,getD_in hbi,rfl⟩;by_cases hg:0<=first h.P 1/\(Cs h.P:Int)<Ed h.C
 have e7:Bm h n=(⟨h.C,h.W,Cv (HZ h) (first h.P 1).toNat n,h.S,first h.P 1⟩,4096+first h.P 1*h.C.pw+((HZ h).getD (first h.P 1).toNat X).U,Y):=by rw[Bm,if_neg hf,if_pos hg]
 obtain⟨g1,g2,g3⟩:=T9 p4 hg.1 n;have g4:=congrArg Z0.U (RB p4 hg.1).2.2.2;simp only at g4;have ha:=HR p1 (i:=first h.P 1) oq oq;have hio:=ED (i:=first h.P 1) (j:=h.C.pg) (pw:=h.C.pw) oq oq;rw[Ll h.C.pg]at hio;rw[e7,g1,g4];refine⟨?_,rfl,rfl,by simp,rfl, ?_,by simp only;omega,by simp only;omega⟩;rw[HD];refine⟨p1,p2,by simp[p3],p4, ?_, ?_⟩;refine Ld ⟨hg.1,by simp only[Lx];omega, ?_⟩;simp only;rw[CV g3,if_pos rfl];exact p6.setPage g3 (Le g2) ⟨by simp only;omega,by simp,by simp,by simp,λ_=>by simp only;omega,by simp⟩ (Ld rfl);intro p hp;rcases LQ hp with hp|rfl;exact Ld ⟨p,hp,rfl⟩;exact Le rfl;rw[Bm,if_neg hf,if_neg hg]at e;simp at e
def Zg3{h:Heap}{n}(a:Z8 h=Y)(k:1<=need h.C n)(e:(BG h n (need h.C n)).2.2=Y):Oc h n (BG h n (need h.C n)).1 (BG h n (need h.C n)).2.1:=by
 have q:=a;rw[HD]at a;obtain⟨l,p2,p3,p4,c,r⟩:=a;have hb:=BF.1 l;by_cases d:0<=first h.P (need h.C n)/\Cs h.P+need h.C n<=Ed h.C
 obtain⟨g1,g2,g⟩:=Ik d.1;have el:(Hv h.C h.P (first h.P (need h.C n)) h.S n).1=ZQ h.P (first h.P (need h.C n)).toNat (need h.C n).toNat ⟨2,h.S,n,0⟩ ⟨3,h.S,0,0⟩:=by(rw[Hv,if_pos ⟨k,by omega⟩,EN,if_pos oq,if_pos g])
 have m:BG h n (need h.C n)=(⟨h.C,h.W,ZQ h.P (first h.P (need h.C n)).toNat (need h.C n).toNat ⟨2,h.S,n,0⟩ ⟨3,h.S,0,0⟩,h.S,h.B⟩,4096+first h.P (need h.C n)*h.C.pw,Y):=by rw[BG,if_pos d,el]
 have i:∀j,j<(need h.C n).toNat->(h.P.getD ((first h.P (need h.C n)).toNat+j) X).K=0:=SL.1 g;have b:(ZQ h.P (first h.P (need h.C n)).toNat (need h.C n).toNat ⟨2,h.S,n,0⟩ ⟨3,h.S,0,0⟩).length=h.P.length:=Z29 oq;have hu:=Z1F k;have h0:0<=first h.P (need h.C n)*h.C.pw:=Lu d.1 oq
 have f:=LI (show first h.P (need h.C n)+need h.C n<=h.C.pg by omega) (show 0<=h.C.pw by omega);rw[LH,Ll h.C.pg]at f;rw[m];refine⟨?_,rfl,rfl,b,rfl, ?_,by simp only;omega,by simp only;omega⟩;rw[HD];refine⟨l,p2,by simp only[b];exact p3,p4, ?_, ?_⟩;simp only[b];rcases c with c|c;exact Le c;refine Ld ⟨c.1,c.2.1, ?_⟩;have o:¬ ((first h.P (need h.C n)).toNat<=h.B.toNat/\h.B.toNat<(first h.P (need h.C n)).toNat+(need h.C n).toNat):=λhc=>by(have:=i (h.B.toNat-(first h.P (need h.C n)).toNat) oq;rw[show(first h.P (need h.C n)).toNat+(h.B.toNat-(first h.P (need h.C n)).toNat)=h.B.toNat by omega]at this;omega)
 rw[Z9J oq oq,if_neg oq,if_neg oq];exact c.2.2;exact r.took oq oq i oq p4;intro p a;rcases LQ a with a|rfl;simp only[wr,Ls]at a;rcases a with(a|a)|a;exact Ld ⟨p,Xd a,rfl⟩;have:=List.eq_of_mem_replicate (Xd a);subst this;exact Le rfl;exact Ld ⟨p,List.mem_of_mem_drop a,rfl⟩;exact Le rfl;rw[BG,if_neg d]at e;simp at e
def Zh1{a:ZB}(b:ZV a=Y)(c:0<=a.map/\a.map<=4294967295):Zy (BH a)/\((BH a).length:Int)=Z5 a:=by have hb:=ZbT b c.1 c.2;constructor;intro x d;simp only[BH,Xb,List.mem_replicate,Zu,if_pos b]at d;rcases d with rfl|⟨_,rfl⟩<;>omega;rw[Z5,if_pos b];simp[BH];omega
def ZgO{h:Heap}{a:ZB}(t:Zy h.W)(r:0<=a.map/\a.map<=4294967295)(e:(Bb h a).2.2=0) :Z8 h=Y/\G0 h.C a=Y/\Oc h (Z5 a) (Eg h a).1 (Eg h a).2.1/\(Eg h a).2.2=Y/\(Bb h a).2.1=(Eg h a).2.1/\(Bb h a).1={ (Eg h a).1 with W:=(ZU h.W (Eg h a).2.1 (BH a)).1}/\Z8 (Bb h a).1=Y/\Zy (Bb h a).1.W:=by
 unfold Bb at e;split at e;rename_i c1;split at e;rename_i c2;obtain⟨a1,o,a3,i,a5⟩:=Z3G c1.2;have po:=B5 c1.1;have c:Oc h (Z5 a) (Eg h a).1 (Eg h a).2.1:=by
  by_cases f:0<need h.C (Z5 a);have k:Eg h a=BG h (Z5 a) (need h.C (Z5 a)):=by rw[Eg,if_pos f]
  rw[k]at c2⊢;exact Zg3 c1.1 oq c2;have k:Eg h a=Bm h (Z5 a):=by rw[Eg,if_neg f]
  rw[k]at c2⊢;refine Zhx c1.1 ⟨o, ?_⟩ c2;unfold need at f i;split at i;rename_i p;rw[if_pos p]at f;split at i;omega;rename_i l;rw[if_neg l]at f;have e:=LZ (Z5 a+h.C.pw-1) h.C.pw;have u:(Z5 a+h.C.pw-1)/h.C.pw=0:=by omega
  rw[u]at e;have:=LY (Z5 a+h.C.pw-1) (b:=h.C.pw) oq;omega;omega
 have s:=Zh1 a1 r;have m:4096<=(Eg h a).2.1/\(Eg h a).2.1-4096+(BH a).length<=h.W.length:=⟨c.lo,by have:=c.hi;omega⟩;have n:ZU h.W (Eg h a).2.1 (BH a)=(C6 h.W ((Eg h a).2.1-4096).toNat (BH a),0):=by rw[ZU,if_pos m]
 have d:(C6 h.W ((Eg h a).2.1-4096).toNat (BH a)).length=h.W.length:=Nf oq;have j:(BC (Eg h a).1 (Eg h a).2.1 a).1={ (Eg h a).1 with W:=(ZU h.W (Eg h a).2.1 (BH a)).1}:=by(rw[BC,if_pos ⟨c.pr,a1⟩,c.w,n];simp)
 have g:Bb h a=((BC (Eg h a).1 (Eg h a).2.1 a).1,(Eg h a).2.1,0):=by rw[Bb,if_pos c1,if_pos c2]
 refine⟨c1.1,c1.2,c,c2,by rw[g],by rw[g];exact j, ?_, ?_⟩;rw[g];simp only;rw[j,n];have q:=c.pr;rw[HD]at q⊢;refine⟨q.1, ?_,q.2.2.1,q.2.2.2.1,q.2.2.2.2.1,q.2.2.2.2.2⟩;simp only[d];have:=q.2.1;rw[c.w]at this;exact this;rw[g];simp only;rw[j];exact P9 t s.1 _;simp at e;simp at e
def Z1V{h a}(e:(Z9 h a).2=0):4096<=a/\a+(Z9 h a).1.length<4096+h.W.length:=by
 have k:=TL e;have l:=B5 k.1;have o:=GX l.1 k.2.1;have n:(Z3 h.C a).1.toNat<h.P.length:=by omega
 have p:(((Z3 h.C a).1.toNat:Nat):Int)=(Z3 h.C a).1:=by omega
 have b:=e;unfold Z9 at b⊢;rw[if_pos k.1,if_pos k.2.1]at b⊢;split at b;rename_i c;split at b;simp at b;rename_i m;rw[if_pos c,if_neg m];have f:ZV (Z6 (Z1 h.W a).1).1=Y:=DZ _;have hs:Z5 (Z6 (Z1 h.W a).1).1=(Z6 (Z1 h.W a).1).1.length+1:=by rw[Z5,if_pos f]
 have q:=(Gq.1 f).2.2.1;have ue:=Oe k.1 n c.1;rw[p]at ue;have h0:0<=(Z3 h.C a).1*h.C.pw:=Lu o.1 oq;have d:=ED (i:=(Z3 h.C a).1) (j:=h.C.pg) (pw:=h.C.pw) o.2.1 oq;rw[Ll h.C.pg]at d;have hL:=l.2.2.2.2.2.1;refine⟨by omega, ?_⟩;simp only;rcases c.1 with g|g<;>omega;simp at b
def ZiT{h:Heap}{a i v:Int}(j:Zy h.W)(f:0<=v/\v<=18446744073709551615)(e:(Zx h a).2=0)(hi:0<=i/\i<(Zx h a).1.length):E4 h a i v=({h with W:=(BY h.W (a+1+i) v).1},0)/\Z8 (E4 h a i v).1=Y/\Zy (E4 h a i v).1.W:=by
 have g:=Sq e;have k:=Z1V g.2.1;rw[<-g.1]at k;have b:4096<=a+1+i/\a+1+i<4096+h.W.length:=by omega
 have d:(EX h a i).2=0:=by(unfold EX;rw[if_pos e,if_pos hi];unfold Z1;rw[if_pos b])
 have c:E4 h a i v=({h with W:=(BY h.W (a+1+i) v).1},0):=by rw[E4,if_pos d]
 refine⟨c, ?_, ?_⟩;rw[c];have q:=g.2.2.1;rw[HD]at q⊢;refine⟨q.1, ?_,q.2.2.1,q.2.2.2.1,q.2.2.2.2.1,q.2.2.2.2.2⟩;simp only[DU b];exact q.2.1;rw[c];exact Z3N j f _
def Z0c(a:List Int)(i:Nat):Tg:=⟨tm 26 [(0,Z2 a),(1,Z2 a),(4,bL M),(5,nI i)],[],60⟩
def ZdS(a:List Int)(i:Nat)(ha:a.length<=1048576)(hi:i<a.length):CP (Zl f27 0) (Z0c a i).st .nrm (Z0c a (i+1)).st:=by exact sF [] []<|FN 13 14 19 wD a i<|Fek 23 wD a (↑i) i<|Ffs 25 (a.getD i X != a.getD i X)<|Fx 16 i Fz
def Zev a:CP (Zl f27 0) (Z0c a a.length).st (.ext 0) (Tg.st ⟨tm 26 [],[],60⟩):=by exact sF [] []<|FO 13 14 wD a Fz
def Zam(a:List Int)(b:a.length<=1048576)  := Bp (S:=λi=>(Z0c a i).st) a.length (by kernel_rfl) (λi hi=>ZdS a i b hi) (Zev a)
def Ox(a:List Int)(ha:a.length<=1048576):GP 27 [Z2 a,Z2 a] Y (bL Y) []:=by exact gF [] func27 []<|Fl 7 wD a<|Fl 9 wD a<|Ffs 10 ((a.length:Int) != (a.length:Int))<|Fu (@Zam a aa) Fz
def ZeW{l:List Z0}{i k:Nat}{p q:Z0}(hk:1<=k)(h:i+k<=l.length):C6 l i (p::LL (k-1) q)=ZQ l i k p q:=by
 obtain⟨m,rfl⟩:∃m,k=m+1:=⟨k-1,by omega⟩;have a:(Li i l).length=i:=by simp;omega
 rw[ZQ,wr,C6,List.take_of_length_le (l:=LL (m+1) q) pq,L1,L1,List.set_append,if_neg oq,a,Nat.sub_self];simp[List.replicate_succ]
def Z4T{l:List Z0}:∀{i:Nat},(∀j,j<i->(l.getD j X).K=0)->EJ l i=0
 |0,_=>rfl
 |i+1,h=>by
  have a:CL l i=l.getD i X:=by rw[Z0v];simp
  rw[EJ,Z4T (λj hj=>h j oq),a,if_pos (h i oq)]
def Zjd{l:List Z0}{i k:Nat}(h:i+k<=l.length)(a:HP l i k=Y):Cs ((l.drop i).take k)=0:=by refine Z4T λj b=>?_;simp only[List.length_take,List.length_drop]at b;have:=SL.1 a j oq;rw[Lc]at this⊢;rwa [List.getElem?_take,if_pos oq,Lz]
def Z0T(l:List Z0)(hl:l.length<=1048576)(hne:l≠[]):GP 124 [ZT l] Y (.ow 0) [.arr 86 4 (l.map Z0.dv)]:=by exact gF [24007] func124 []<|Fa (TG hne:Z Z0.dv l≠[])<|FA 5 7 Z0.dv l<|Fa (IL _:Cd (Z Z0.dv l)) Fz
def Zcd(ps l:List Z0)(i:Int)(hl:ps.length<=1048576)(hll:l.length<=1048576)(hi:0<=i)(h1:i+l.length<=ps.length)(hf:HP ps i.toNat l.length=Y)(hn:0<ps.length):GP 232 [ZT ps,nI i,ZT l] Y (.tu [.ow 0,nI 0]) [.arr 86 4 ((C6 ps i.toNat l).map Z0.dv)]:=by
 have hne:ps≠[]:=SS hn;have e1:Cs (Li ((i+l.length).toNat-i.toNat) (Ln i.toNat ps))=0:=by(rw[show(i+l.length).toNat-i.toNat=l.length from by omega];exact Zjd oq hf)
 have hs:C3 (Z Z0.dv ps) i.toNat (Z Z0.dv l)=Z Z0.dv (C6 ps i.toNat l):=by simp[C3,C6]
 exact gF [33030] func232 []<|Fh 26 [.els (Z Z0.dv (Li ((i+(l.length:Int)).toNat-i.toNat) (Ln i.toNat ps)))]<|Fh 35 [.els (Z Z0.dv (Li i.toNat ps++l++Ln (i.toNat+l.length) ps))]<|FlG 14 (!decide (i<0)) Z0.dv ps<|FlG 16 (!decide (i<0)) Z0.dv l<|FiG 17 (!decide (i<0)) ((ps.length:Int)-(l.length:Int))<|Ffb 19 (O (i<0)||O ((ps.length:Int)-(l.length:Int)<i))<|Fl 24 Z0.dv l<|Fi 25 (i+(l.length:Int))<|Fa (by(simp only[Lk];omega):0<=i/\i<=i+(l.length:Int)/\i+(l.length:Int)<=(↑(Z Z0.dv ps).length:Int))<|Fa (by simp[e1,C6,Xa,L8,L9,L7,wD,iD]:Li ((i+(l.length:Int)).toNat-i.toNat) (Ln i.toNat (Z Z0.dv ps))=Z Z0.dv (Li ((i+(l.length:Int)).toNat-i.toNat) (Ln i.toNat ps)))<|Fc 27 (@ZcV (Li ((i+(l.length:Int)).toNat-i.toNat) (Ln i.toNat ps)) (by(simp[e1,C6, *];omega)))<|Ffb 28 (O (0<(↑(Cs (Li ((i+(l.length:Int)).toNat-i.toNat) (Ln i.toNat ps))):Int)))<|Fc 30 (@Z0T ps aa aa)<|Fa (by(simp only[Lk];omega):0<=i/\i<=(↑(Z Z0.dv ps).length:Int))<|Fa (by(simp only[Lk];omega):(Z Z0.dv l).length<=(↑(Z Z0.dv ps).length:Int).toNat-i.toNat)<|Fa (hs:C3 (Z Z0.dv ps) i.toNat (Z Z0.dv l)=Z Z0.dv (Li i.toNat ps++l++Ln (i.toNat+l.length) ps))<|Fa (IL _:Cd (Z Z0.dv (Li i.toNat ps++l++Ln (i.toNat+l.length) ps))) Fz
def ZbY{l:List Z0}{i:Nat}{p q:Z0}(h:i+1<=l.length):C6 l i [p]=ZQ l i 1 p q:=by have:=ZeW (l:=l) (i:=i) (k:=1) (p:=p) (q:=q) (Lt _) h;simpa using this
def Z7B(l:List Z0)(i sp:Int)(hl:l.length<=1048576)(hs:0<=sp/\sp<=1)(hi:0<=i/\i+1<=l.length)(hf:HP l i.toNat 1=Y):GP 211 [ZT l,nI i,nI sp] Y (.tu [.ow 0,nI 0]) [.arr 86 4 ((ZQ l i.toNat 1 ⟨1,sp,0,0⟩ ⟨0,0,0,0⟩).map Z0.dv)]:=by
 have e:=ZbY (l:=l) (i:=i.toNat) (p:=⟨1,sp,0,0⟩) (q:=⟨0,0,0,0⟩) oq;rw[<-e];have e2:HP l i.toNat ([⟨1,sp,0,0⟩]:List Z0).length=Y:=hf;have e3:H6 ⟨1,sp,0,0⟩=Y:=by simp[H6];omega
 exact gF [33018] func211 []<|Fc 12 (@Z1J (Z0.mk 1 sp 0 0))<|Ffb 13 (!H6 (Z0.mk 1 sp 0 0))<|Fs 17 (Z Z0.dv [Z0.mk 1 sp 0 0])<|Fc 18 (@Zcd l ([Z0.mk 1 sp 0 0]) i aa (by simp[*]) oq (by simp[*]) aa oq)<|Fa (IL _:Cd (Z Z0.dv (C6 l i.toNat [Z0.mk 1 sp 0 0]))) Fz
def Zaf{a v k:Nat}(b:a<2^k)(hv:a+v*2^k<18446744073709551616):bits .or .u64 (a:Int) ((v*2^k:Nat):Int)=((a+v*2^k:Nat):Int):=by rw[bits_or_u64_nat a (v*2^k) oq oq,Nat.mul_comm v,Nat.or_comm,<-Nat.two_pow_add_eq_or_of_lt b,Nat.add_comm]
def Zeh{v n:Nat}(g:n<=64)(h:v<2^n):bits .andNot .u64 (v:Int) (2^n-1)=0:=by
 have f:(2:Nat)^n<=2^64:=Xl dd g;have hp:0<(2:Nat)^n:=Nat.two_pow_pos n;have e:((2:Int)^n-1)=((2^n-1:Nat):Int):=by
  have:((2^n:Nat):Int)=2^n:=by simp
  omega
 rw[e];have c:(LD 64 (v:Int)).toNat=v:=by(rw[LV,LW];exact Xk oq)
 have d:(LD 64 ((2^n-1:Nat):Int)).toNat=2^n-1:=by(rw[LV,LW];exact Xk oq)
 show La.wrap ((LD 64 (v:Int) &&& ~~~ LD 64 ((2^n-1:Nat):Int)).toNat:Int)=_;rw[BitVec.toNat_and,BitVec.toNat_not,c,d];have a:2^64-1-(2^n-1)=2^n*(2^(64-n)-1):=by
  have:(2:Nat)^64=2^n*2^(64-n):=by rw[<-Nat.pow_add];congr 1;omega
  rw[Nat.mul_sub,Nat.mul_one,<-this];omega
 have b:v &&& (2^64-1-(2^n-1))=0:=by(rw[a];apply Nat.eq_of_testBit_eq;intro i;rw[Nat.testBit_and,Nat.zero_testBit,Nat.testBit_two_pow_mul];by_cases hi:n<=i;rw[Nat.testBit_lt_two_pow (Nat.lt_of_lt_of_le h (Xl dd hi)),Bool.false_and];simp[hi])
 rw[b];decide
def AI(v n:Int)(b:0<=v)(hn:0<=n/\n<=64)(c:v<2^n.toNat):GP 250 [uU v,nI n] Y (bL Y) []:=by
 have e:bits .andNot .u64 v (ones n)=0:=by(obtain⟨a,rfl⟩:=LM b;rw[ones,Nat.min_eq_left oq];exact Zeh oq (by exact_mod_cast c))
 exact gF [] func250 [Y]<|Fc 7 (@Rm n)<|Fb ((bits BinOp.andNot La v (ones n)==0)=Y) Fz
structure Bu where
 width:Int
 value:Int
 deriving DecidableEq,Inhabited
def Bu.dv(f:Bu):List DV:=[.sc (.int .i64 f.width),.sc (.int .u64 f.value)]
def ZM(k l m:Int):List Bu:=[⟨2,1⟩,⟨2,k⟩,⟨12,l⟩,⟨32,m⟩]
def pk1(k l m:Int)(i:Nat):Tg:=⟨tm 55 [(0,.d (.sl 2 ((ZM k l m).map Bu.dv))),(2,uU 0),(3,nI 0),(4,nI ([64,62,60,48,16].getD i 0)),(11,.d (.sl 2 ((ZM k l m).map Bu.dv))),(12,nI (ZM k l m).length),(13,nI i)],[],4⟩
def Zd6 k l m(i:Nat)(hi:i<4):CP (Zl f233 0) (pk1 k l m i).st .nrm (pk1 k l m (i+1)).st:=by
 have eL:(ZM k l m).length=4:=rfl;have e0:(ZM k l m).getD 0 X=⟨2,1⟩:=rfl;have e1:(ZM k l m).getD 1 X=⟨2,k⟩:=rfl;have e2:(ZM k l m).getD 2 X=⟨12,l⟩:=rfl;have e3:(ZM k l m).getD 3 X=⟨32,m⟩:=rfl;have h:i=0\/i=1\/i=2\/i=3:=by omega
 rcases h with rfl|rfl|rfl|rfl;refine Zh [((15:Nat),[Hint.el ((ZM k l m).getD (0:Nat) X).dv]),((29:Nat),[Hint.int ((64:Int)-((ZM k l m).getD (0:Nat) X).width)])] [] [] [] (φ:=((0:Int)<=(↑(0:Nat):Int)/\(Z Bu.dv (ZM k l m))[(↑(0:Nat):Int).toNat]?=Lb ((ZM k l m).getD (0:Nat) X).dv)/\Lh.wrap ([(64:Int),(62:Int),(60:Int),(48:Int),(16:Int)].getD (0:Nat) (0:Int)-((ZM k l m).getD (0:Nat) X).width)=(64:Int)-((ZM k l m).getD (0:Nat) X).width) ?_ kr kr kr;exact⟨(by exact Zm oq oq oq),rfl⟩;refine Zh [((15:Nat),[Hint.el ((ZM k l m).getD (1:Nat) X).dv]),((29:Nat),[Hint.int ((62:Int)-((ZM k l m).getD (1:Nat) X).width)])] [] [] [] (φ:=((0:Int)<=(↑(1:Nat):Int)/\(Z Bu.dv (ZM k l m))[(↑(1:Nat):Int).toNat]?=Lb ((ZM k l m).getD (1:Nat) X).dv)/\Lh.wrap ([(64:Int),(62:Int),(60:Int),(48:Int),(16:Int)].getD (1:Nat) (0:Int)-((ZM k l m).getD (1:Nat) X).width)=(62:Int)-((ZM k l m).getD (1:Nat) X).width) ?_ kr kr kr;exact⟨(by exact Zm oq oq oq),rfl⟩;refine Zh [((15:Nat),[Hint.el ((ZM k l m).getD (2:Nat) X).dv]),((29:Nat),[Hint.int ((60:Int)-((ZM k l m).getD (2:Nat) X).width)])] [] [] [] (φ:=((0:Int)<=(↑(2:Nat):Int)/\(Z Bu.dv (ZM k l m))[(↑(2:Nat):Int).toNat]?=Lb ((ZM k l m).getD (2:Nat) X).dv)/\Lh.wrap ([(64:Int),(62:Int),(60:Int),(48:Int),(16:Int)].getD (2:Nat) (0:Int)-((ZM k l m).getD (2:Nat) X).width)=(60:Int)-((ZM k l m).getD (2:Nat) X).width) ?_ kr kr kr;exact⟨(by exact Zm oq oq oq),rfl⟩;refine Zh [((15:Nat),[Hint.el ((ZM k l m).getD (3:Nat) X).dv]),((29:Nat),[Hint.int ((48:Int)-((ZM k l m).getD (3:Nat) X).width)])] [] [] [] (φ:=((0:Int)<=(↑(3:Nat):Int)/\(Z Bu.dv (ZM k l m))[(↑(3:Nat):Int).toNat]?=Lb ((ZM k l m).getD (3:Nat) X).dv)/\Lh.wrap ([(64:Int),(62:Int),(60:Int),(48:Int),(16:Int)].getD (3:Nat) (0:Int)-((ZM k l m).getD (3:Nat) X).width)=(48:Int)-((ZM k l m).getD (3:Nat) X).width) ?_ kr kr kr;exact⟨(by exact Zm oq oq oq),rfl⟩
def ZaJ k l m:CP (Zl f233 0) (pk1 k l m 4).st (.ext 0) (Tg.st ⟨tm 55 [(0,.d (.sl 2 ((ZM k l m).map Bu.dv))),(2,uU 0),(3,nI 0)],[],4⟩):=by have eL:(ZM k l m).length=4:=rfl;refine Zh [] [] [] [] (φ:=True) ?_ kr kr kr;exact trivial
def Zk7(k l m:Int)  := Bp (S:=λi=>(pk1 k l m i).st) 4 (by kernel_rfl) (λi hi=>Zd6 k l m i hi) (ZaJ k l m)
def CS(k l m:Int)(i:Nat):Int:=[0,1,1+4*k,1+4*k+16*l,1+4*k+16*l+65536*m].getD i 0
def pk2(k l m:Int)(i:Nat):Tg:=⟨tm 55 [(2,uU 0),(3,nI 0),(7,uU (CS k l m i)),(8,nI ([0,2,4,16,48].getD i 0)),(31,.d (.sl 2 ((ZM k l m).map Bu.dv))),(32,nI (ZM k l m).length),(33,nI i)],[],6⟩
def orI(n:Nat){p a v:Int}(e:p=((2^n:Nat):Int))(c:0<=a)(f:0<=v)(h1:a<p)(b:a+v*p<18446744073709551616):bits .or .u64 a (La.wrap (v*p))=a+v*p:=by
 obtain⟨x,rfl⟩:=LM c;obtain⟨y,rfl⟩:=LM f;have d:(y:Int)*p=((y*2^n:Nat):Int):=by rw[e,Int.natCast_mul]
 rw[d]at b⊢;rw[TS oq oq];exact Zaf oq oq
def Zcm(k l m:Int)(i:Nat)(h1:0<=k/\k<=3)(h2:0<=l/\l<=255)(h3:0<=m/\m<=4294967295)(hi:i<4):CP (Zl f233 2) (pk2 k l m i).st .nrm (pk2 k l m (i+1)).st:=by
 have eL:(ZM k l m).length=4:=rfl;have e0:(ZM k l m).getD 0 X=⟨2,1⟩:=rfl;have e1:(ZM k l m).getD 1 X=⟨2,k⟩:=rfl;have e2:(ZM k l m).getD 2 X=⟨12,l⟩:=rfl;have e3:(ZM k l m).getD 3 X=⟨32,m⟩:=rfl;have h:i=0\/i=1\/i=2\/i=3:=by omega
 have f1:bits .or .u64 (CS k l m 1) (La.wrap (((ZM k l m).getD 1 X).value*4))=CS k l m (1+1):=(orI 2 (a:=1) (v:=k) dd oq oq oq oq).trans (by show _=1+4*k;omega);have f2:bits .or .u64 (CS k l m 2) (La.wrap (((ZM k l m).getD 2 X).value*16))=CS k l m (2+1):=(orI 4 (a:=1+4*k) (v:=l) dd oq oq oq oq).trans (by show _=1+4*k+16*l;omega);have f3:bits .or .u64 (CS k l m 3) (La.wrap (((ZM k l m).getD 3 X).value*65536))=CS k l m (3+1):=(orI 16 (a:=1+4*k+16*l) (v:=m) dd oq oq oq oq).trans (by show _=1+4*k+16*l+65536*m;omega);rcases h with rfl|rfl|rfl|rfl;refine Zh [((35:Nat),[Hint.el ((ZM k l m).getD (0:Nat) X).dv]),((41:Nat),[Hint.call Y (bL Y) []]),((47:Nat),[Hint.int (((ZM k l m).getD (0:Nat) X).value*(1:Int))]),((52:Nat),[Hint.int ((0:Int)+((ZM k l m).getD (0:Nat) X).width)])] [] [] [] (φ:=((0:Int)<=(↑(0:Nat):Int)/\(Z Bu.dv (ZM k l m))[(↑(0:Nat):Int).toNat]?=Lb ((ZM k l m).getD (0:Nat) X).dv)/\GP 250 [uU ((ZM k l m).getD (0:Nat) X).value,nI ((ZM k l m).getD (0:Nat) X).width] Y (bL Y) []/\La.wrap (((ZM k l m).getD (0:Nat) X).value*(2:Int)^min ([(0:Int),(2:Int),(4:Int),(16:Int),(48:Int)].getD (0:Nat) (0:Int)).toNat (64:Nat))=((ZM k l m).getD (0:Nat) X).value*(1:Int)/\(0:Int)<=[(0:Int),(2:Int),(4:Int),(16:Int),(48:Int)].getD (0:Nat) (0:Int)/\Lh.wrap ([(0:Int),(2:Int),(4:Int),(16:Int),(48:Int)].getD (0:Nat) (0:Int)+((ZM k l m).getD (0:Nat) X).width)=(0:Int)+((ZM k l m).getD (0:Nat) X).width) ?_ kr kr kr;exact⟨(by exact Zm oq oq oq),(@AI (((ZM k l m).getD (0:Nat) X).value) (((ZM k l m).getD (0:Nat) X).width) (by grind[CS]) (by grind[CS]) (by grind[CS])),rfl,(by simp[CS, *]),rfl⟩;refine Zh [((35:Nat),[Hint.el ((ZM k l m).getD (1:Nat) X).dv]),((41:Nat),[Hint.call Y (bL Y) []]),((48:Nat),[Hint.int (bits Lf La (CS k l m (1:Nat)) (La.wrap (((ZM k l m).getD (1:Nat) X).value*(4:Int))))]),((52:Nat),[Hint.int ((2:Int)+((ZM k l m).getD (1:Nat) X).width)])] [] [] [M,M,Y] (φ:=((0:Int)<=(↑(1:Nat):Int)/\(Z Bu.dv (ZM k l m))[(↑(1:Nat):Int).toNat]?=Lb ((ZM k l m).getD (1:Nat) X).dv)/\GP 250 [uU ((ZM k l m).getD (1:Nat) X).value,nI ((ZM k l m).getD (1:Nat) X).width] Y (bL Y) []/\(0:Int)<=[(0:Int),(2:Int),(4:Int),(16:Int),(48:Int)].getD (1:Nat) (0:Int)/\bits Lf La (CS k l m (1:Nat)) (La.wrap (((ZM k l m).getD (1:Nat) X).value*(2:Int)^min ([(0:Int),(2:Int),(4:Int),(16:Int),(48:Int)].getD (1:Nat) (0:Int)).toNat (64:Nat)))=bits Lf La (CS k l m (1:Nat)) (La.wrap (((ZM k l m).getD (1:Nat) X).value*(4:Int)))/\Lh.wrap ([(0:Int),(2:Int),(4:Int),(16:Int),(48:Int)].getD (1:Nat) (0:Int)+((ZM k l m).getD (1:Nat) X).width)=(2:Int)+((ZM k l m).getD (1:Nat) X).width/\bits Lf La (CS k l m (1:Nat)) (La.wrap (((ZM k l m).getD (1:Nat) X).value*(4:Int)))=CS k l m ((1:Nat)+(1:Nat))) ?_ kr kr kr;exact⟨(by exact Zm oq oq oq),(@AI (((ZM k l m).getD (1:Nat) X).value) (((ZM k l m).getD (1:Nat) X).width) (by simp only[bs, *,true_or,or_true,true_and,and_true,not_true_eq_false,not_false_eq_true,LG,LF]) (by grind[CS]) (by grind[CS])),(by simp[CS, *]),rfl,rfl,aa⟩;refine Zh [((35:Nat),[Hint.el ((ZM k l m).getD (2:Nat) X).dv]),((41:Nat),[Hint.call Y (bL Y) []]),((48:Nat),[Hint.int (bits Lf La (CS k l m (2:Nat)) (La.wrap (((ZM k l m).getD (2:Nat) X).value*(16:Int))))]),((52:Nat),[Hint.int ((4:Int)+((ZM k l m).getD (2:Nat) X).width)])] [] [] [M,M,Y] (φ:=((0:Int)<=(↑(2:Nat):Int)/\(Z Bu.dv (ZM k l m))[(↑(2:Nat):Int).toNat]?=Lb ((ZM k l m).getD (2:Nat) X).dv)/\GP 250 [uU ((ZM k l m).getD (2:Nat) X).value,nI ((ZM k l m).getD (2:Nat) X).width] Y (bL Y) []/\(0:Int)<=[(0:Int),(2:Int),(4:Int),(16:Int),(48:Int)].getD (2:Nat) (0:Int)/\bits Lf La (CS k l m (2:Nat)) (La.wrap (((ZM k l m).getD (2:Nat) X).value*(2:Int)^min ([(0:Int),(2:Int),(4:Int),(16:Int),(48:Int)].getD (2:Nat) (0:Int)).toNat (64:Nat)))=bits Lf La (CS k l m (2:Nat)) (La.wrap (((ZM k l m).getD (2:Nat) X).value*(16:Int)))/\Lh.wrap ([(0:Int),(2:Int),(4:Int),(16:Int),(48:Int)].getD (2:Nat) (0:Int)+((ZM k l m).getD (2:Nat) X).width)=(4:Int)+((ZM k l m).getD (2:Nat) X).width/\bits Lf La (CS k l m (2:Nat)) (La.wrap (((ZM k l m).getD (2:Nat) X).value*(16:Int)))=CS k l m ((2:Nat)+(1:Nat))) ?_ kr kr kr;exact⟨(by exact Zm oq oq oq),(@AI (((ZM k l m).getD (2:Nat) X).value) (((ZM k l m).getD (2:Nat) X).width) (by simp only[bs, *,true_or,or_true,true_and,and_true,not_true_eq_false,not_false_eq_true,LG,LF]) (by grind[CS]) (by grind[CS])),(by simp[CS, *]),rfl,rfl,aa⟩;refine Zh [((35:Nat),[Hint.el ((ZM k l m).getD (3:Nat) X).dv]),((41:Nat),[Hint.call Y (bL Y) []]),((48:Nat),[Hint.int (bits Lf La (CS k l m (3:Nat)) (La.wrap (((ZM k l m).getD (3:Nat) X).value*(65536:Int))))]),((52:Nat),[Hint.int ((16:Int)+((ZM k l m).getD (3:Nat) X).width)])] [] [] [M,M,Y] (φ:=((0:Int)<=(↑(3:Nat):Int)/\(Z Bu.dv (ZM k l m))[(↑(3:Nat):Int).toNat]?=Lb ((ZM k l m).getD (3:Nat) X).dv)/\GP 250 [uU ((ZM k l m).getD (3:Nat) X).value,nI ((ZM k l m).getD (3:Nat) X).width] Y (bL Y) []/\(0:Int)<=[(0:Int),(2:Int),(4:Int),(16:Int),(48:Int)].getD (3:Nat) (0:Int)/\bits Lf La (CS k l m (3:Nat)) (La.wrap (((ZM k l m).getD (3:Nat) X).value*(2:Int)^min ([(0:Int),(2:Int),(4:Int),(16:Int),(48:Int)].getD (3:Nat) (0:Int)).toNat (64:Nat)))=bits Lf La (CS k l m (3:Nat)) (La.wrap (((ZM k l m).getD (3:Nat) X).value*(65536:Int)))/\Lh.wrap ([(0:Int),(2:Int),(4:Int),(16:Int),(48:Int)].getD (3:Nat) (0:Int)+((ZM k l m).getD (3:Nat) X).width)=(16:Int)+((ZM k l m).getD (3:Nat) X).width/\bits Lf La (CS k l m (3:Nat)) (La.wrap (((ZM k l m).getD (3:Nat) X).value*(65536:Int)))=CS k l m ((3:Nat)+(1:Nat))) ?_ kr kr kr;exact⟨(by exact Zm oq oq oq),(@AI (((ZM k l m).getD (3:Nat) X).value) (((ZM k l m).getD (3:Nat) X).width) (by simp only[bs, *,true_or,or_true,true_and,and_true,not_true_eq_false,not_false_eq_true,LG,LF]) (by grind[CS]) (by grind[CS])),(by simp[CS, *]),rfl,rfl,aa⟩
def Zel k l m:CP (Zl f233 2) (pk2 k l m 4).st (.ext 2) (Tg.st ⟨tm 55 [(2,uU 0),(3,nI 0),(7,uU (1+4*k+16*l+65536*m))],[],6⟩):=by have eL:(ZM k l m).length=4:=rfl;have ew:CS k l m 4=1+4*k+16*l+65536*m:=rfl;refine Zh [] [] [] [] (φ:=True) ?_ kr kr kr;exact trivial
def ZeY(k l m:Int)(a:0<=k/\k<=3)(b:0<=l/\l<=255)(c:0<=m/\m<=4294967295)  := Bp (S:=λi=>(pk2 k l m i).st) 4 (by kernel_rfl) (λi hi=>Zcm k l m i a b c hi) (Zel k l m)
def ZfE(k l m:Int)(h1:0<=k/\k<=3)(h2:0<=l/\l<=255)(h3:0<=m/\m<=4294967295):GP 233 [.d (.sl 2 ((ZM k l m).map Bu.dv))] Y (.tu [uU (1+4*k+16*l+65536*m),nI 0]) []:=by exact gF [] func233 []<|Fg 12 (rfl:(↑(Z Bu.dv (ZM k l m)).length:Int)=(↑(ZM k l m).length:Int))<|Fu (@Zk7 k l m)<|Fg 32 (rfl:(↑(Z Bu.dv (ZM k l m)).length:Int)=(↑(ZM k l m).length:Int))<|Fu (@ZeY k l m aa aa aa) Fz
end Go.Proofs.YtgedmeaemofdkaaGreat
namespace Go.Sx
def mvP(ids:List Nat)(post:List Z4)(n:Nat):List Z4:=(upto 0 n).map λk=>match CK k ids 0 with|some j=>Gr ids (post.getD j .dead)|none=>.dead
def Z4W(m p n:Nat)(ids:List Nat):Bool:=Xi ids.length p&&LB m p&&LB m n&&nodupB ids&&(upto 0 p).all (λj=>LB (ids.getD j 0+1) n&&(Xi (ids.getD j 0) j||LB m (ids.getD j 0)))&&(upto 0 n).all λk=>match CK k ids 0 with|Lb _=>Y|Lj=>LB (k+1) m
def MX{P f args pre res post}(ids:List Nat) n{res2:AV}{post2:List Z4}(h:BorSpec P f args pre res post)(ok:Z4W pre.length post.length n ids=Y)(hr:Ip (HY ids) res=res2)(hp:mvP ids post n=post2):BorSpec P f args pre res2 post2:=by
 simp only[Z4W,LX,List.all_eq_true,Bool.or_eq_true]at ok;obtain⟨⟨⟨⟨⟨k1,k2⟩,k3⟩,k4⟩,k5⟩,k6⟩:=ok;have k1:=Xj k1;have k2:=LC k2;have k3:=LC k3;have k4:=Dm k4;have mem:∀{j p:Nat},j<p->j∈upto 0 p:=λ{j p} hj=>Xc (by rw[MA _ _ _ hj,Xm]);have k5:∀j,j<post.length->ids.getD j 0<n/\(ids.getD j 0=j\/pre.length<=ids.getD j 0):=λj hj=>by(have:=k5 j (mem hj);exact⟨LC this.1,this.2.imp Xj LC⟩)
 have k6:∀k,k<n->CK k ids 0=Lj->k<pre.length:=λk hk e=>by(have:=k6 k (mem hk);rw[e]at this;exact LC this)
 subst hr hp;have pl:(mvP ids post n).length=n:=by simp[mvP,Z0a]
 have pg:∀(k:Nat) (B:Z4),(mvP ids post n)[k]?=Lb B->k<n/\((∃j,ids[j]?=Lb k/\j<post.length/\B=Gr ids (post.getD j .dead))\/(k<pre.length/\B=.dead)):=λk B hB=>by
  have hk:k<n:=by have:=(LJ.1 hB).1;omega
  simp only[mvP,List.getElem?_map,MA _ _ _ hk,Xm,Option.map_some,Option.some.injEq]at hB;refine⟨hk, ?_⟩;cases e:CK k ids 0 with
  |none=>rw[e]at hB;exact .inr ⟨k6 k hk e,hB.symm⟩
  |some j =>
   rw[e]at hB;obtain⟨_,q⟩:=Il e;have q:ids[j]?=Lb k:=by simpa using q
   exact .inl ⟨j,q,by have:=(LJ.1 q).1;omega,hB.symm⟩
 intro w Im ρ vs hIm hsz hρ hinj hbnd hpre hargs;refine(h w Im ρ vs hIm hsz hρ hinj hbnd hpre hargs).mono ?_;rintro e w' ⟨v,rfl,hk,ρ',Im',a1,a2,a3,a4,a5,a6,a7,a8,a9⟩;let ρ2:ZK:=λk=>if k<pre.length then ρ' k else match CK k ids 0 with|Lb j=>ρ' j|Lj=>Lj
 have hlow:∀k,k<pre.length->ρ2 k=ρ' k:=λk hk=>by simp only[ρ2,if_pos hk]
 have hat:∀(j k:Nat),ids[j]?=Lb k->ρ2 k=ρ' j:=λj k q=>by
  have hj:j<post.length:=by have:=(LJ.1 q).1;omega
  have e:ids.getD j 0=k:=by rw[Lc,q];rfl
  have c:=k5 j hj;rw[e]at c;by_cases hkp:k<pre.length;rw[hlow k hkp];rcases c.2 with c|c;rw[c];omega;simp only[ρ2,if_neg hkp];cases ex:CK k ids 0 with|none=>exact absurd (Xc q) (AD ex)|some j2 =>obtain⟨_,q2⟩:=Il ex;rw[SK k4 q (by simpa using q2)]
 have hfrom:∀k β,ρ2 k=Lb β->∃j,ρ' j=Lb β/\k<n:=λk β hb=>by
  by_cases hkp:k<pre.length;rw[hlow k hkp]at hb;exact⟨k,hb,by omega⟩;simp only[ρ2,if_neg hkp]at hb;split at hb;rename_i j hj;obtain⟨_,q⟩:=Il hj;have q:ids[j]?=Lb k:=by simpa using q
  have hj:j<post.length:=by have:=(LJ.1 q).1;omega
  have:=k5 j hj;rw[Lc,q]at this;exact⟨j,hb,this.1⟩;cases hb
 have hren:∀j β,ρ' j=Lb β->ρ2 (ids.getD j 0)=Lb β:=λj β hb=>by
  have hj:=a2 j β hb;have q:ids[j]?=Lb (ids.getD j 0):=by rw[Lc,Lm oq];rfl
  rw[hat j _ q];exact hb
 have hlv:∀k,live (hL (mvP ids post n)) k->∃j,ids[j]?=Lb k/\live (hL post) j:=by(rintro k ⟨B,hB,hd⟩;obtain⟨_,⟨j,q1,q2,q3⟩|⟨_,q⟩⟩:=pg k B hB;refine⟨j,q1,post[j],Lm q2,λe=>hd ?_⟩;rw[q3,Lc,Lm q2];simp only[Option.getD_some,e,Gr];exact absurd q hd)
 refine⟨v,rfl,hk,ρ2,Im',λk β hb=>?_,λk β hb=>?_,a3,a4,λk β g hb=>?_,λk β g hl hb=>?_,λk k' β β' g hl hl' hb hb' hg hg'=>?_,λk B hB=>?_, ?_⟩;rw[hlow k (hρ k β hb)];exact a1 k β hb;obtain⟨j,_,q⟩:=hfrom k β hb;rw[pl];exact q;obtain⟨j,q,_⟩:=hfrom k β hb;exact a5 j β g q;obtain⟨j,q1,q2⟩:=hlv k hl;rw[hat j k q1]at hb;exact a6 j β g q2 hb;obtain⟨j,q1,q2⟩:=hlv k hl;obtain⟨j',q1',q2'⟩:=hlv k' hl';rw[hat j k q1]at hb;rw[hat j' k' q1']at hb';have:=a7 j j' β β' g q2 q2' hb hb' hg hg';subst this;rw[q1]at q1';exact Option.some.inj q1';obtain⟨_,⟨j,q1,q2,rfl⟩|⟨q,rfl⟩⟩:=pg k B hB;obtain⟨β,m1,m2⟩:=a8 j _ (Lm q2);rw[Lc,Lm q2];exact⟨β,by rw[hat j k q1];exact m1,Z1L (λ_ h=>h) hren m2⟩;obtain⟨β,m1,_⟩:=hpre k _ (Lm q);exact⟨β,by rw[hlow k q];exact a1 k β m1,trivial⟩;obtain⟨q1,q2,q3⟩:=OZ (w:=w') (Im:=Im') (Im':=Im') hren;exact M8 (λ_ h=>h) q1 q2 q3 a9
end Go.Sx
namespace Go.Proofs.YtgedmeaemofdkaaGreat
open Go.Sx
def E7(w:Int):Nat->Int|0=>w|1=>w/4|_=>w/17179869184
def CH(w:Int):List Int:=[w%4,w/4%4294967296]
def uf1(w:Int)(i:Nat):Tg:=⟨tm 49 [(0,uU w),(1,ZE [2,32]),(4,.d (.sl 0 [])),(5,nI 0),(6,nI ([64,62,30].getD i 0)),(12,ZE [2,32]),(13,nI 2),(14,nI i)],[],20⟩
def ZjW w(i:Nat)(hi:i<2):CP (Zl f201 0) (uf1 w i).st .nrm (uf1 w (i+1)).st:=by
 have h:i=0\/i=1:=by omega
 rcases h with rfl|rfl;refine Zh [((16:Nat),[Hint.el (iD (2:Int))])] [] [] [] (φ:=(0:Int)<=(↑(0:Nat):Int)/\(Z iD [(2:Int),(32:Int)])[(↑(0:Nat):Int).toNat]?=Lb (iD (2:Int))) ?_ kr kr kr;exact(by simp[*]);refine Zh [((16:Nat),[Hint.el (iD (32:Int))])] [] [] [] (φ:=(0:Int)<=(↑(1:Nat):Int)/\(Z iD [(2:Int),(32:Int)])[(↑(1:Nat):Int).toNat]?=Lb (iD (32:Int))) ?_ kr kr kr;exact(by simp[*])
def Zh9 w:CP (Zl f201 0) (uf1 w 2).st (.ext 0) (Tg.st ⟨tm 49 [(0,uU w),(1,ZE [2,32]),(4,.d (.sl 0 [])),(5,nI 0)],[],60⟩):=by exact sF [] [] Fz
def Z8z(w:Int)  := Bp (S:=λi=>(uf1 w i).st) 2 (by kernel_rfl) (λi hi=>ZjW w i hi) (Zh9 w)
def uf2(w:Int)(i:Nat):Tg:=⟨tm 49 [(0,uU (E7 w i)),(4,.d (.sl 0 [])),(5,nI 0),(9,.ow 480009),(29,ZE [2,32]),(30,nI 2),(31,nI i)],[(480009,.arr 35 1 (((CH w).take i).map wD))],60⟩
def Zg5(w:Int)(i:Nat)(h0:0<=w)(h1:w<=18446744073709551615)(hi:i<2):CP (Zl f201 2) (uf2 w i).st .nrm (uf2 w (i+1)).st:=by
 have o1:ones 2=3:=by decide
 have o3:ones 32=4294967295:=by decide
 have a0:bits .and .u64 w (ones 2)=w%4:=by rw[o1];exact R0 2 dd dd oq oq
 have a1:bits .and .u64 (w/4) (ones 32)=w/4%4294967296:=by rw[o3];exact R0 32 dd dd oq oq
 have f1:(w/4).fdiv 4294967296=w/17179869184:=by rw[Int.fdiv_eq_ediv_of_nonneg _ dd];omega
 have h:i=0\/i=1:=by omega
 rcases h with rfl|rfl;exact sF [(496041,480009)] []<|Fh 33 [.el (iD 2)]<|Fa (by simp[E7,CH, *]:0<=(↑(0:Nat):Int)/\(Z iD [2,32])[(↑(0:Nat):Int).toNat]?=Lb (iD 2))<|Fc 38 (@Rm (2))<|Fg 39 (by assumption:bits LU La (E7 w 0) (ones (2:Int))=E7 w 0%4)<|Fs 40 (Z wD [E7 w 0%4])<|Fa (by simp[E7,CH, *]:(Z wD (Li 0 (CH w))).length+(Z wD [E7 w 0%4]).length<=2^30)<|Fs 41 (Z wD [E7 w 0%4])<|Fg 44 (Hs rfl dd:(E7 w 0).fdiv (2^min (Lv 2) 64)=E7 w 0/4)<|Fo ((0:Int)<=2) Fz;exact sF [(496041,480009)] [Y]<|Fh 33 [.el (iD 32)]<|Fa (by simp[E7,CH, *]:0<=(↑(1:Nat):Int)/\(Z iD [2,32])[(↑(1:Nat):Int).toNat]?=Lb (iD 32))<|Fc 38 (@Rm (32))<|Fg 39 (by assumption:bits LU La (E7 w 1) (ones (32:Int))=E7 w 1%4294967296)<|Fs 40 (Z wD [E7 w 1%4294967296])<|Fa (by simp[E7,CH, *]:(Z wD (Li 1 (CH w))).length+(Z wD [E7 w 1%4294967296]).length<=2^30)<|Fs 41 (Z wD [w%4,E7 w 1%4294967296])<|Fg 44 (Hs rfl dd:(E7 w 1).fdiv (2^min (Lv 32) 64)=E7 w 1/4294967296)<|Fo ((0:Int)<=32)<|Fa (by(simp[E7,CH, *];omega):E7 w 1/4294967296=E7 w (1+1)) Fz
def Zl4 w:CP (Zl f201 2) (uf2 w 2).st (.ext 2) (Tg.st ⟨tm 49 [(0,uU (w/17179869184)),(4,.d (.sl 0 [])),(5,nI 0),(9,.ow 480009)],[(480009,.arr 35 1 ((CH w).map wD))],60⟩):=by exact sF [] [] Fz
def Z5v(w:Int)(a:0<=w)(b:w<=18446744073709551615)  := Bp (S:=λi=>(uf2 w i).st) 2 (by kernel_rfl) (λi hi=>Zg5 w i a b hi) (Zl4 w)
def Z4g(w:Int)(h0:0<=w)(h1:w<=18446744073709551615)(h:w<17179869184):GP 201 [uU w,ZE [2,32]] Y (.tu [Z2 (CH w),nI 0]) []:=by exact gF [] func201 []<|Fh 9 [.own]<|Fu (@Z8z w)<|Fu (@Z5v w aa aa)<|Ffb 47 (w/(17179869184:Int) != 0)<|Fa (H7 _:Cd (Z wD (CH w))) Fz
def Zku(w:Int)(h0:0<=w)(h1:w<=18446744073709551615)(h:¬ w<17179869184):GP 201 [uU w,ZE [2,32]] Y (.tu [Z2 [],nI 2]) []:=by exact gF [] func201 []<|Fh 9 [.own]<|Fu (@Z8z w)<|Fu (@Z5v w aa aa)<|Ftb 47 (w/(17179869184:Int) != 0)<|Fnl Fz
def NY(w:Int)(h0:0<=w)(h1:w<=18446744073709551615):GP 177 [uU w] Y (.tu [uU (ZF w).1,bL (ZF w).2]) []:=by have u0:(CH w).getD 0 X=w%4:=rfl;have u1:(CH w).getD 1 X=w/4%4294967296:=rfl;have uL:(CH w).length=2:=rfl;by_cases h:w<17179869184;rcases bb ((CH w).getD 0 X != 2)with hc0|hc0<;>have a:=hc0<;>simp only[bs]at a;rw[show ZF w=((0:Int),M)from by(simp[ZF, *];omega)];exact gF [] func177 []<|Fh 16 [.el (wD ((CH w).getD 0 X))]<|Fs 8 (Z iD [2,32])<|Fc 9 (@Z4g w aa aa aa)<|Fa (by intro b;(try simp only[bs]at b);exact Zm oq oq oq:(!(0:Int) != 0)=Y->(0:Int)<=0/\(Z wD (CH w))[Lv 0]?=Lb (wD ((CH w).getD 0 X)))<|Ft 19 hc0 Fz;rw[show ZF w=((CH w).getD (1:Nat) X,Y)from by grind[ZF]];refine Zb [((8:Nat),[Hint.els (Z iD [(2:Int),(32:Int)])]),((9:Nat),[Hint.call Y (AV.tu [Z2 (CH w),nI (0:Int)]) []]),((16:Nat),[Hint.el (wD ((CH w).getD (0:Nat) X))]),((19:Nat),[Hint.br M]),((21:Nat),[Hint.el (wD ((CH w).getD (1:Nat) X))])] [] [] dd func177 [] (φ:=((LL (2:Nat) [Zd (0:Int)]).set ((0:Nat),Operand.const (Value.int Lh (2:Int))).1 [Zd (2:Int)]).set ((1:Nat),Operand.const (Value.int Lh (32:Int))).1 [Zd (32:Int)]=Z iD [(2:Int),(32:Int)]/\GP 201 [uU w,ZE [(2:Int),(32:Int)]] Y (AV.tu [Z2 (CH w),nI (0:Int)]) []/\((!(0:Int) != (0:Int))=Y->(0:Int)<=(0:Int)/\(Z wD (CH w))[Lv (0:Int)]?=Lb (wD ((CH w).getD (0:Nat) X)))/\((CH w).getD (0:Nat) X != (2:Int))=M/\M=M/\(0:Int)<=(1:Int)/\(Z wD (CH w))[Lv (1:Int)]?=Lb (wD ((CH w).getD (1:Nat) X))) ?_ kr kr;exact⟨rfl,(@Z4g (w) aa aa aa),(by intro b;(try simp only[bs]at b);exact Zm oq oq oq),aa,rfl,(by exact Zm oq oq oq)⟩;rw[show ZF w=((0:Int),M)from by(simp[ZF, *];omega)];exact gF [] func177 []<|Fh 16 [.el (wD ([].getD 0 X))]<|Fs 8 (Z iD [2,32])<|Fc 9 (@Zku w aa aa aa)<|Fa (by intro b;(try simp only[bs]at b);exact Zm oq oq oq:(!(2:Int) != 0)=Y->(0:Int)<=0/\(Z wD [])[Lv 0]?=Lb (wD ([].getD 0 X))) Fz
def Bo(a:Int):List Bu:=[⟨2,2⟩,⟨32,a⟩]
def pf1(a:Int)(i:Nat):Tg:=⟨tm 55 [(0,.d (.sl 2 ((Bo a).map Bu.dv))),(2,uU 0),(3,nI 0),(4,nI ([64,62,30].getD i 0)),(11,.d (.sl 2 ((Bo a).map Bu.dv))),(12,nI (Bo a).length),(13,nI i)],[],4⟩
def Zax a(i:Nat)(hi:i<2):CP (Zl f233 0) (pf1 a i).st .nrm (pf1 a (i+1)).st:=by
 have eL:(Bo a).length=2:=rfl;have e0:(Bo a).getD 0 X=⟨2,2⟩:=rfl;have e1:(Bo a).getD 1 X=⟨32,a⟩:=rfl;have h:i=0\/i=1:=by omega
 rcases h with rfl|rfl;exact sF [] []<|Fek 15 Bu.dv (Bo a) (↑(0:Nat):Int) 0<|Fg 29 (rfl:Lh.wrap ([64,62,30].getD 0 0-((Bo a).getD 0 X).width)=64-((Bo a).getD 0 X).width) Fz;exact sF [] []<|Fek 15 Bu.dv (Bo a) (↑(1:Nat):Int) 1<|Fg 29 (rfl:Lh.wrap ([64,62,30].getD 1 0-((Bo a).getD 1 X).width)=62-((Bo a).getD 1 X).width) Fz
def Zab a:CP (Zl f233 0) (pf1 a 2).st (.ext 0) (Tg.st ⟨tm 55 [(0,.d (.sl 2 ((Bo a).map Bu.dv))),(2,uU 0),(3,nI 0)],[],4⟩):=by have eL:(Bo a).length=2:=rfl;exact sF [] [] Fz
def Zcr(a:Int)  := Bp (S:=λi=>(pf1 a i).st) 2 (by kernel_rfl) (λi hi=>Zax a i hi) (Zab a)
def pfW(a:Int)(i:Nat):Int:=[0,2,2+4*a].getD i 0
def pf2(a:Int)(i:Nat):Tg:=⟨tm 55 [(2,uU 0),(3,nI 0),(7,uU (pfW a i)),(8,nI ([0,2,34].getD i 0)),(31,.d (.sl 2 ((Bo a).map Bu.dv))),(32,nI (Bo a).length),(33,nI i)],[],6⟩
def Zld(a:Int)(i:Nat)(h:0<=a/\a<=4294967295)(hi:i<2):CP (Zl f233 2) (pf2 a i).st .nrm (pf2 a (i+1)).st:=by
 have eL:(Bo a).length=2:=rfl;have e0:(Bo a).getD 0 X=⟨2,2⟩:=rfl;have e1:(Bo a).getD 1 X=⟨32,a⟩:=rfl;have f1:bits .or .u64 (pfW a 1) (La.wrap (((Bo a).getD 1 X).value*4))=pfW a (1+1):=(orI 2 (a:=2) (v:=a) dd oq oq oq oq).trans (by show _=2+4*a;omega);have h:i=0\/i=1:=by omega
 rcases h with rfl|rfl;refine Zh [((35:Nat),[Hint.el ((Bo a).getD (0:Nat) X).dv]),((41:Nat),[Hint.call Y (bL Y) []]),((47:Nat),[Hint.int (((Bo a).getD (0:Nat) X).value*(1:Int))]),((52:Nat),[Hint.int ((0:Int)+((Bo a).getD (0:Nat) X).width)])] [] [] [] (φ:=((0:Int)<=(↑(0:Nat):Int)/\(Z Bu.dv (Bo a))[(↑(0:Nat):Int).toNat]?=Lb ((Bo a).getD (0:Nat) X).dv)/\GP 250 [uU ((Bo a).getD (0:Nat) X).value,nI ((Bo a).getD (0:Nat) X).width] Y (bL Y) []/\La.wrap (((Bo a).getD (0:Nat) X).value*(2:Int)^min ([(0:Int),(2:Int),(34:Int)].getD (0:Nat) (0:Int)).toNat (64:Nat))=((Bo a).getD (0:Nat) X).value*(1:Int)/\(0:Int)<=[(0:Int),(2:Int),(34:Int)].getD (0:Nat) (0:Int)/\Lh.wrap ([(0:Int),(2:Int),(34:Int)].getD (0:Nat) (0:Int)+((Bo a).getD (0:Nat) X).width)=(0:Int)+((Bo a).getD (0:Nat) X).width) ?_ kr kr kr;exact⟨(by exact Zm oq oq oq),(@AI (((Bo a).getD (0:Nat) X).value) (((Bo a).getD (0:Nat) X).width) (by grind[pfW]) (by grind[pfW]) (by grind[pfW])),rfl,(by simp[pfW, *]),rfl⟩;refine Zh [((35:Nat),[Hint.el ((Bo a).getD (1:Nat) X).dv]),((41:Nat),[Hint.call Y (bL Y) []]),((48:Nat),[Hint.int (bits Lf La (pfW a (1:Nat)) (La.wrap (((Bo a).getD (1:Nat) X).value*(4:Int))))]),((52:Nat),[Hint.int ((2:Int)+((Bo a).getD (1:Nat) X).width)])] [] [] [M,M,Y] (φ:=((0:Int)<=(↑(1:Nat):Int)/\(Z Bu.dv (Bo a))[(↑(1:Nat):Int).toNat]?=Lb ((Bo a).getD (1:Nat) X).dv)/\GP 250 [uU ((Bo a).getD (1:Nat) X).value,nI ((Bo a).getD (1:Nat) X).width] Y (bL Y) []/\(0:Int)<=[(0:Int),(2:Int),(34:Int)].getD (1:Nat) (0:Int)/\bits Lf La (pfW a (1:Nat)) (La.wrap (((Bo a).getD (1:Nat) X).value*(2:Int)^min ([(0:Int),(2:Int),(34:Int)].getD (1:Nat) (0:Int)).toNat (64:Nat)))=bits Lf La (pfW a (1:Nat)) (La.wrap (((Bo a).getD (1:Nat) X).value*(4:Int)))/\Lh.wrap ([(0:Int),(2:Int),(34:Int)].getD (1:Nat) (0:Int)+((Bo a).getD (1:Nat) X).width)=(2:Int)+((Bo a).getD (1:Nat) X).width/\bits Lf La (pfW a (1:Nat)) (La.wrap (((Bo a).getD (1:Nat) X).value*(4:Int)))=pfW a ((1:Nat)+(1:Nat))) ?_ kr kr kr;exact⟨(by exact Zm oq oq oq),(@AI (((Bo a).getD (1:Nat) X).value) (((Bo a).getD (1:Nat) X).width) (by simp only[bs, *,true_or,or_true,true_and,and_true,not_true_eq_false,not_false_eq_true,LG,LF]) (by grind[pfW]) (by grind[pfW])),(by simp[pfW, *]),rfl,rfl,aa⟩
def Zav a:CP (Zl f233 2) (pf2 a 2).st (.ext 2) (Tg.st ⟨tm 55 [(2,uU 0),(3,nI 0),(7,uU (2+4*a))],[],6⟩):=by have eL:(Bo a).length=2:=rfl;have ew:pfW a 2=2+4*a:=rfl;exact sF [] [] Fz
def ZeA(a:Int)(h:0<=a/\a<=4294967295)  := Bp (S:=λi=>(pf2 a i).st) 2 (by kernel_rfl) (λi hi=>Zld a i h hi) (Zav a)
def ZkN(a:Int)(h:0<=a/\a<=4294967295):GP 233 [.d (.sl 2 ((Bo a).map Bu.dv))] Y (.tu [uU (2+4*a),nI 0]) []:=by exact gF [] func233 []<|Fg 12 (rfl:(↑(Z Bu.dv (Bo a)).length:Int)=(↑(Bo a).length:Int))<|Fu (@Zcr a)<|Fg 32 (rfl:(↑(Z Bu.dv (Bo a)).length:Int)=(↑(Bo a).length:Int))<|Fu (@ZeA a aa) Fz
def Zhf(a:Int)(h:0<=a/\a<=4294967295):GP 213 [uU a] Y (.tu [uU (4*a+2),nI 0]) []:=by
 have o3:ones 32=4294967295:=by decide
 have e:2+4*a=4*a+2:=by omega
 exact gF [] func213 [Y]<|Fc 5 (@Rm (32))<|Ffb 6 (O (ones (32:Int)<a))<|Fs 10 (Z Bu.dv [Bu.mk 2 2,Bu.mk 32 a])<|Fc 11 (@ZkN a aa)<|Fa ‹(2:Int)+4*a=4*a+2›<|Fr (0:Int) Fz
def Gm(l:List Int)(v:Int):Nat:=(l.takeWhile λx=>!(v==x)).length
def TE{l v}{m:Nat}(h:m<Gm l v):m<l.length/\(v==l.getD m X)=M:=by obtain⟨a,b⟩:=SR _ _ _ h;refine⟨a, ?_⟩;rw[Lc,Lm a];simpa using b
def Z1k{l}{v:Int}(h:Gm l v<l.length):(v==l.getD (Gm l v) X)=Y:=by
 have a:=SY (λx=>!(v==x)) l h;have b:l.getD (Gm l v) X=l[(l.takeWhile λx=>!(v==x)).length]:=by(rw[Lc,Lm h];rfl)
 rw[b];simpa using a
def Z0u{l}{v:Int}:Gm l v<l.length↔v∈l:=by constructor;intro h;have:=Z1k h;exact BI.2 ⟨_,h,by simpa using (eq_of_beq this).symm⟩;intro h;obtain⟨k,hk,e⟩:=BI.1 h;rcases LS k (Gm l v)with q|q;have:=(TE q).2;rw[e]at this;simp at this;omega
def Hy(l:List Int)(v:Int):Int:=if v∈l then Gm l v else -1
def De(l:List Int)(v:Int)(i:Nat):Tg:=⟨tm 19 [(0,Z2 l),(1,uU v),(4,nI 0),(7,nI l.length),(8,nI i)],[],3⟩
def Z7b(l:List Int)(v:Int)(i:Nat)(hl:l.length<=1048576)(hi:i<l.length)(e:(v==l.getD i X)=M):CP (Zl f121 0) (De l v i).st .nrm (De l v (i+1)).st:=by exact sF [] []<|Ftb 9 (O ((i:Int)<(l.length:Int)))<|Fek 14 wD l (↑i) i<|Ff 16 ‹(v==l.getD i X)=M›<|Fx 18 i Fz
def ZcF(l:List Int)(v:Int)(i:Nat)(hl:l.length<=1048576)(hi:i<l.length)(e:(v==l.getD i X)=Y):CP (Zl f121 0) (De l v i).st .ret (Tg.st ⟨tm 19 [(4,nI i)],[],60⟩):=by exact sF [] []<|Ftb 9 (O ((i:Int)<(l.length:Int)))<|Fek 14 wD l (↑i) i<|Ft 16 ‹(v==l.getD i X)=Y› Fz
def ZbK l v:CP (Zl f121 0) (De l v l.length).st (.ext 0) (Tg.st ⟨tm 19 [(4,nI 0)],[],60⟩):=by exact sF [] []<|Ffb 9 (O ((l.length:Int)<(l.length:Int))) Fz
def Zk0(l:List Int)(v:Int)(hl:l.length<=1048576)(h:¬ v∈l)  := Bp (S:=λj=>(De l v j).st) l.length (by kernel_rfl) (λj a=>Z7b l v j hl a (TE (by rcases LS j (Gm l v)with q|q;exact q;exact absurd (Z0u.1 (by omega)) h)).2) (ZbK l v)
def ZbW(l:List Int)(v:Int)(hl:l.length<=1048576)(h:v∈l):CP (Zk f121 0) (Tg.st ⟨tm 19 [(0,Z2 l),(1,uU v),(4,nI 0),(7,nI l.length),(8,nI 0)],[],3⟩) .ret (Tg.st ⟨tm 19 [(4,nI (Gm l v))],[],60⟩):=
 have a:Gm l v<l.length:=Z0u.2 h
 Ev (S:=λj=>(De l v j).st) (Gm l v) kr (λj b=>Z7b l v j hl oq (TE b).2) (ZcF l v (Gm l v) hl a (Z1k a))
def AZ(l:List Int)(v:Int)(i:Nat):Tg:=⟨tm 19 [(0,ZE l),(1,nI v),(4,nI 0),(7,nI l.length),(8,nI i)],[],3⟩
def Z7I(l:List Int)(v:Int)(i:Nat)(hl:l.length<=1048576)(hi:i<l.length)(e:(v==l.getD i X)=M):CP (Zl f230 0) (AZ l v i).st .nrm (AZ l v (i+1)).st:=by exact sF [] []<|Ftb 9 (O ((i:Int)<(l.length:Int)))<|Fek 14 iD l (↑i) i<|Ff 16 ‹(v==l.getD i X)=M›<|Fx 18 i Fz
def Zjq(l:List Int)(v:Int)(i:Nat)(hl:l.length<=1048576)(hi:i<l.length)(e:(v==l.getD i X)=Y):CP (Zl f230 0) (AZ l v i).st .ret (Tg.st ⟨tm 19 [(4,nI i)],[],60⟩):=by exact sF [] []<|Ftb 9 (O ((i:Int)<(l.length:Int)))<|Fek 14 iD l (↑i) i<|Ft 16 ‹(v==l.getD i X)=Y› Fz
def Zkv l v:CP (Zl f230 0) (AZ l v l.length).st (.ext 0) (Tg.st ⟨tm 19 [(4,nI 0)],[],60⟩):=by exact sF [] []<|Ffb 9 (O ((l.length:Int)<(l.length:Int))) Fz
def Zl0(l:List Int)(v:Int)(hl:l.length<=1048576)(h:¬ v∈l)  := Bp (S:=λj=>(AZ l v j).st) l.length (by kernel_rfl) (λj a=>Z7I l v j hl a (TE (by rcases LS j (Gm l v)with q|q;exact q;exact absurd (Z0u.1 (by omega)) h)).2) (Zkv l v)
def Zbx(l:List Int)(v:Int)(hl:l.length<=1048576)(h:v∈l):CP (Zk f230 0) (Tg.st ⟨tm 19 [(0,ZE l),(1,nI v),(4,nI 0),(7,nI l.length),(8,nI 0)],[],3⟩) .ret (Tg.st ⟨tm 19 [(4,nI (Gm l v))],[],60⟩):=
 have a:Gm l v<l.length:=Z0u.2 h
 Ev (S:=λj=>(AZ l v j).st) (Gm l v) kr (λj b=>Z7I l v j hl oq (TE b).2) (Zjq l v (Gm l v) hl a (Z1k a))
def ZeI(l:List Int) v(hl:l.length<=1048576):GP 121 [Z2 l,uU v] Y (nI (Hy l v)) []:=by by_cases h:v∈l;have a:Hy l v=Gm l v:=if_pos h;rw[a];exact gF [] func121 []<|Fl 7 wD l<|Fu (@ZbW l v aa aa) Fz;have a:Hy l v=-1:=if_neg h;rw[a];exact gF [] func121 []<|Fl 7 wD l<|Fu (@Zk0 l v aa aa) Fz
def ZeQ(l:List Int) v(hl:l.length<=1048576):GP 230 [ZE l,nI v] Y (nI (Hy l v)) []:=by by_cases h:v∈l;have a:Hy l v=Gm l v:=if_pos h;rw[a];exact gF [] func230 []<|Fl 7 iD l<|Fu (@Zbx l v aa aa) Fz;have a:Hy l v=-1:=if_neg h;rw[a];exact gF [] func230 []<|Fl 7 iD l<|Fu (@Zl0 l v aa aa) Fz
def Ei(l:List Int) v(hl:l.length<=1048576):GP 71 [Z2 l,uU v] Y (bL (O (v∈l))) []:=by
 have h:(0<=Hy l v↔v∈l):=by unfold Hy;split<;>simp[*]
 exact gF [] func71 [Y]<|Fc 7 (@ZeI l v aa)<|Fbs (O (0<=Hy l v)=O (v∈l)) Fz
def Z0o(l:List Int) v(hl:l.length<=1048576):GP 209 [ZE l,nI v] Y (bL (O (v∈l))) []:=by
 have h:(0<=Hy l v↔v∈l):=by unfold Hy;split<;>simp[*]
 exact gF [] func209 [Y]<|Fc 7 (@ZeQ l v aa)<|Fbs (O (0<=Hy l v)=O (v∈l)) Fz
def Zaq(c:Nat):GP 123 [.d (.sc (.slice Lj 0 c))] Y (.ow 0) [.arr 35 1 []]:=
 Zb [((2:Nat),[Hint.own])] [] [(24002:Nat)] dd func123 [] (φ:=Cd []) (λ_ h=>nomatch h) kr kr
def ZfO p(c:Nat):GP 123 [.d (.sc (.slice (Lb p) 0 c))] Y (.ow 0) [.arr 35 1 []]:=by exact gF [24007] func123 []<|Fs 5 (Z wD [])<|Fa (by simp[*]:(Z wD []).length+([]:List (List DV)).length<=2^30)<|Fs 7 (Z wD [])<|Fa (H7 _:Cd (Z wD [])) Fz
def ZcA(ws:List Int)(hw:ws.length<=1048576)(hne:ws≠[]):GP 123 [Z2 ws] Y (.ow 0) [.arr 35 1 (ws.map wD)]:=by exact gF [24007] func123 []<|Fa (TG hne:Z wD ws≠[])<|FA 5 7 wD ws<|Fa (H7 _:Cd (Z wD ws)) Fz
def Mz(ws:List Int)(b:ws.length<=1048576):GP 123 [Z2 ws] Y (.ow 0) [.arr 35 1 (ws.map wD)]:=by
 by_cases a:ws=[];subst a;exact Z1y λp c=>match p with|Lj=>Zaq c|Lb p=>ZfO p c
 exact ZcA ws b a
def ZcH(c:Nat):GP 175 [.d (.sc (.slice Lj 0 c))] Y (.ow 0) [.arr 3 1 []]:=
 Zb [((2:Nat),[Hint.own])] [] [(24002:Nat)] dd func175 [] (φ:=Cd []) (λ_ h=>nomatch h) kr kr
def Zit p(c:Nat):GP 175 [.d (.sc (.slice (Lb p) 0 c))] Y (.ow 0) [.arr 3 1 []]:=by exact gF [24007] func175 []<|Fs 5 (Z iD [])<|Fa (by simp[*]:(Z iD []).length+([]:List (List DV)).length<=2^30)<|Fs 7 (Z iD [])<|Fa (AN _:Cd (Z iD [])) Fz
def Zj3(ws:List Int)(hw:ws.length<=1048576)(hne:ws≠[]):GP 175 [ZE ws] Y (.ow 0) [.arr 3 1 (ws.map iD)]:=by exact gF [24007] func175 []<|Fa (TG hne:Z iD ws≠[])<|FA 5 7 iD ws<|Fa (AN _:Cd (Z iD ws)) Fz
def Ze9(ws:List Int)(b:ws.length<=1048576):GP 175 [ZE ws] Y (.ow 0) [.arr 3 1 (ws.map iD)]:=by
 by_cases a:ws=[];subst a;exact Z1y λp c=>match p with|Lj=>ZcH c|Lb p=>Zit p c
 exact Zj3 ws b a
def ZaN(c:Nat):GP 124 [.d (.sc (.slice Lj 0 c))] Y (.ow 0) [.arr 86 4 []]:=
 Zb [((2:Nat),[Hint.own])] [] [(24002:Nat)] dd func124 [] (φ:=Cd []) (λ_ h=>nomatch h) kr kr
def Zd3 p(c:Nat):GP 124 [.d (.sc (.slice (Lb p) 0 c))] Y (.ow 0) [.arr 86 4 []]:=by exact gF [24007] func124 []<|Fs 5 (Z Z0.dv [])<|Fa (by simp[*]:(Z Z0.dv []).length+([]:List (List DV)).length<=2^30)<|Fs 7 (Z Z0.dv [])<|Fa (IL _:Cd (Z Z0.dv [])) Fz
def Z2w(l:List Z0)(hl:l.length<=1048576):GP 124 [ZT l] Y (.ow 0) [.arr 86 4 (l.map Z0.dv)]:=by
 by_cases a:l=[];subst a;exact Z1y λp c=>match p with|Lj=>ZaN c|Lb p=>Zd3 p c
 exact Z0T l hl a
end Go.Proofs.YtgedmeaemofdkaaGreat
