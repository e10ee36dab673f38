/-
 The statement BoundRequests: part 10.
 Conditions: none.
-/
import Derived.Test.YtkmnngahjnkdmaaGreatE9
set_option maxRecDepth 100000
set_option maxHeartbeats 2000000
set_option linter.all false
open Inhabited renaming default->X
open Bool renaming true->Y,false->M,and_eq_true->LA
open List renaming map->Z,replicate->La,range->Ld,getD_eq_getElem?_getD->Lf,mem_append_left->Lg,find?_range_eq_some->Lj,mem_range->Lk,mem_append->Ln,find?_eq_none->Lp,length_map->Lq,length_set->Ls,mem_append_right->Lt,mem_or_eq_of_mem_set->Lu,mem_singleton->Lv,getElem?_drop->Lw,map_set->Lx,mem_iff_getElem->Ly,append_nil->LH,getElem?_eq_none->LI,length->LJ,set_set->LK
open Decidable renaming decide->O,not_not->Li
open Option renaming some->Lb
open Or renaming inr->Lc,inl->Le
open Nat renaming le_refl->Lh,le_trans->Lz,mul_le_mul_right->LL
open Int renaming mul_comm->Ll,mul_nonneg->Lo,mul_le_mul_of_nonneg_right->Lr,add_mul->LB,emod_lt_of_pos->LC,mul_ediv_add_emod->LD,sub_self->LF,tdiv_eq_ediv_of_nonneg->LG
open Go.IntKind renaming i64->Lm
open Go.Proofs.Tryz
namespace Go.Proofs.YtkmnngahjnkdmaaGreat
open Go.Sx
def Ck(w:Z8)(roots:List Int):Nat->Z8×List Int|0=>(w,[])|k+1=>(((Ck w roots k).1.fwd (roots.getD k X)).1,(Ck w roots k).2++[((Ck w roots k).1.fwd (roots.getD k X)).2.1])
def Ev(w:Z8)(roots:List Int)(k:Nat):Int:=((Ck w roots k).1.fwd (roots.getD k X)).2.2
def rootsF(w:Z8)(roots:List Int):Z8×List Int×Int:=match (Ld roots.length).find? (λk=>O (Ev w roots k≠0))with|none=>((Ck w roots roots.length).1,(Ck w roots roots.length).2,0)|some k=>(ES,[],Ev w roots k)
def Mc(w:Z8)(roots out:List Int)(i:Nat):Tg:=⟨tm 39 [(1,Z2 roots),(2,.pt 8002 0 0),(4,.pt 8004 0 0),(5,.d (.sl 0 [])),(6,nI 0),(7,.ow 16007),(8,nI i)],[(16007,.arr 44 1 (out.map wD)),(8004,.box 142 zW),(8002,.box 142 w.cells)],60⟩
section
variable(w:Z8)(roots out:List Int)(i:Nat)(hw:Bh w)(hr:0<=roots.getD i X/\roots.getD i X<=18446744073709551615)(hl:roots.length<=1048576)(ho:out.length<=1048576)(hi:i<roots.length)
include hw hr hl ho hi
theorem Z5I(e:(w.fwd (roots.getD i X)).2.2=0):CP (Zn f91 0) (Mc w roots out i).st .nrm (Mc (w.fwd (roots.getD i X)).1 roots (out++[(w.fwd (roots.getD i X)).2.1]) (i+1)).st:=by let a:=w.fwd (roots.getD i X);exact sF [(504036,16007)] []<|Fh 36 [.els (Z wD (out++[a.2.1]))]<|FN 14 15 22 wD roots i<|Fc 24 (@Oy w (roots.getD i X) aa aa)<|Ffb 29 (a.2.2 != 0)<|Fs 35 (Z wD [a.2.1])<|Fa (by(simp[*];omega):(Z wD out).length+(Z wD [a.2.1]).length<=2^30)<|Fa (ms:Z wD out++Z wD [a.2.1]=Z wD (out++[a.2.1]))<|Fx 17 i Fz
theorem Zcm(e:¬ (w.fwd (roots.getD i X)).2.2=0):CP (Zn f91 0) (Mc w roots out i).st .ret (Tg.st ⟨tm 39 [(4,.pt 8004 0 0),(5,.d (.sl 0 [])),(6,nI (w.fwd (roots.getD i X)).2.2)],[(8004,.box 142 zW)],60⟩):=by exact sF [] []<|FN 14 15 22 wD roots i<|Fc 24 (@Oy w (roots.getD i X) aa aa)<|Ftb 29 ((w.fwd (roots.getD i X)).2.2 != 0) Fz
end
def Zev w roots out:CP (Zn f91 0) (Mc w roots out roots.length).st (.ext 0) (Tg.st ⟨tm 39 [(2,.pt 8002 0 0),(4,.pt 8004 0 0),(7,.ow 16007)],[(16007,.arr 44 1 (out.map wD)),(8004,.box 142 zW),(8002,.box 142 w.cells)],60⟩):=by exact sF [] []<|FO 14 15 wD roots Fz
theorem SI w roots:∀k,(Ck w roots k).2.length=k|0=>rfl|k+1=>by simp[Ck,SI w roots k]
theorem Aj{w roots}(d:Bh w):∀k,(∀j,j<k->Ev w roots j=0)->Bh (Ck w roots k).1/\(∀x∈(Ck w roots k).2,0<=x/\x<=4294967296)/\(Ck w roots k).1.D=w.D
 |0,_=>⟨d,by simp[Ck],rfl⟩
 |k+1,h=>by
  have c:=Aj d k (λj hj=>h j oq);have a:=Z0i c.1 (roots.getD k X) (h k oq);refine⟨a.1, ?_, ?_⟩
  .intro x b;simp only[Ck,Ln,Lv]at b;rcases b with b|rfl
   .exact c.2.1 x b
   .exact⟨a.2.1,a.2.2.1⟩
  .show((Ck w roots k).1.fwd (roots.getD k X)).1.D=w.D;rw[a.2.2.2.2.1,c.2.2]
section
variable(w:Z8)(roots:List Int)(b:Bh w)(a:CR roots)(hl:roots.length<=1048575)
include b a hl
theorem ZhT(f:(Ld roots.length).find? (λk=>O (Ev w roots k≠0))=none):CP (Zl f91 0) (Tg.st ⟨tm 39 [(1,Z2 roots),(2,.pt 8002 0 0),(4,.pt 8004 0 0),(5,.d (.sl 0 [])),(6,nI 0),(7,.ow 16007),(8,nI 0)],[(16007,.arr 44 1 []),(8004,.box 142 zW),(8002,.box 142 w.cells)],60⟩) .nrm (Tg.st ⟨tm 39 [(2,.pt 8002 0 0),(4,.pt 8004 0 0),(7,.ow 16007)],[(16007,.arr 44 1 ((Ck w roots roots.length).2.map wD)),(8004,.box 142 zW),(8002,.box 142 (Ck w roots roots.length).1.cells)],60⟩):=by
 have c:∀j,j<roots.length->Ev w roots j=0:=λj d=>by(have:=Lp.1 f j (Lk.2 d);simpa using this)
 exact Bs (S:=λk=>(Mc (Ck w roots k).1 roots (Ck w roots k).2 k).st) roots.length kr (λk e=>Z5I _ roots _ k (Aj b k λj d=>c j oq).1 (Af a k) oq (by rw[SI];omega) e (c k e)) (Zev _ roots _)
theorem Zdj i(h:(Ld roots.length).find? (λk=>O (Ev w roots k≠0))=Lb i):CP (Zl f91 0) (Tg.st ⟨tm 39 [(1,Z2 roots),(2,.pt 8002 0 0),(4,.pt 8004 0 0),(5,.d (.sl 0 [])),(6,nI 0),(7,.ow 16007),(8,nI 0)],[(16007,.arr 44 1 []),(8004,.box 142 zW),(8002,.box 142 w.cells)],60⟩) .ret (Tg.st ⟨tm 39 [(4,.pt 8004 0 0),(5,.d (.sl 0 [])),(6,nI (Ev w roots i))],[(8004,.box 142 zW)],60⟩):=by
 obtain⟨f,d,g⟩:=Lj.1 h;have d:=Lk.1 d;have c:∀j,j<i->Ev w roots j=0:=λj e=>by simpa using g j e
 exact EF (S:=λk=>(Mc (Ck w roots k).1 roots (Ck w roots k).2 k).st) i kr (λk l=>Z5I _ roots _ k (Aj b k λj e=>c j oq).1 (Af a k) oq (by rw[SI];omega) oq (c k l)) (Zcm _ roots _ i (Aj b i c).1 (Af a i) oq (by rw[SI];omega) d (of_decide_eq_true f))
theorem Oj:GP 91 [w.av,Z2 roots] M (.tu [(rootsF w roots).1.av,Z2 (rootsF w roots).2.1,nI (rootsF w roots).2.2]) []:=by
 cases hb:(Ld roots.length).find? (λk=>O (Ev w roots k≠0))with
 |none =>
  have c:rootsF w roots=((Ck w roots roots.length).1,(Ck w roots roots.length).2,0):=by rw[rootsF,hb]
  rw[c];exact gF [] func91 []<|Fh 7 [.own]<|Fu (@ZhT w roots aa aa aa aa) Fz
 |some i =>
  have c:rootsF w roots=(ES,[],Ev w roots i):=by rw[rootsF,hb]
  rw[c];exact gF [] func91 []<|Fh 7 [.own]<|Fu (@Zdj w roots aa aa aa i aa)<|Fnl (Fnl (Fnl (Fnl (Fnl (Fnl Fz)))))
end
def Cr(h:Zo):Nat->List Int|0=>[]|i+1=>if BI h (i:Int)=Y then Cr h i++[(i:Int)]else Cr h i
def Mz(h:Zo):∀i,(Cr h i).length<=i
 |0=>Lh _
 |i+1=>by
  have:=Mz h i;simp only[Cr];split<;>simp<;>omega
def ZA(h:Zo):List Int:=if ZV h=Y then Cr h h.length.toNat else []
def Mm(h:Zo)(i:Nat):Tg:=⟨tm 23 [(1,.pt 8001 0 0),(3,.ow 16003),(4,nI i)],[(16003,.arr 3 1 ((Cr h i).map iD)),(8001,.box 31 [nI h.K,nI h.length,u32 h.map])],60⟩
def ZeY(h:Zo)(i:Nat)(hm:0<=h.map/\h.map<=4294967295)(hv:ZV h=Y)(hb:h.length<=255)(hi:i<h.length):CP (Zn f197 0) (Mm h i).st .nrm (Mm h (i+1)).st:=by
 have hn:=Mz h i;by_cases b:BI h (i:Int)=Y;have e:Cr h (i+1)=Cr h i++[(i:Int)]:=by rw[Cr,if_pos b]
 exact sF [(496021,16003)] (fO 5)<|Fh 17 [.call Y (bL (BI h (i:Int))) [],.br Y]<|Fh 21 [.els (Z iD (Cr h i++[(i:Int)]))]<|FcG 11 (O ((i:Int)<h.length)) (λa=>by(try simp only[bs]at a);exact@Nv h aa)<|Ft 12 (by simp[*]:(O ((i:Int)<h.length)&&ZV h)=Y)<|Fa (@SK h ((i:Int)) aa)<|Fa ‹BI h (i:Int)=Y›<|Fs 20 (Z iD [(i:Int)])<|Fa (by(simp[*];omega):(Z iD (Cr h i)).length+(Z iD [(i:Int)]).length<=2^30)<|Fa (ms:Z iD (Cr h i)++Z iD [(i:Int)]=Z iD (Cr h i++[(i:Int)]))<|Fx 14 i<|Fr (3:Int)<|Fa (by refine congrArg _ ?_;rw[e]:Z iD (Cr h i++[(i:Int)])=Z iD (Cr h (i+1))) Fz;have e:Cr h (i+1)=Cr h i:=by rw[Cr,if_neg b]
 have c:BI h (i:Int)=M:=by simpa using b
 exact sF [] (fO 5)<|Fh 17 [.call Y (bL (BI h (i:Int))) [],.br M]<|FcG 11 (O ((i:Int)<h.length)) (λa=>by(try simp only[bs]at a);exact@Nv h aa)<|Ft 12 (by simp[*]:(O ((i:Int)<h.length)&&ZV h)=Y)<|Fa (@SK h ((i:Int)) aa)<|Fa ‹BI h (i:Int)=M›<|Fx 14 i<|Fr (3:Int)<|Fa (by refine congrArg _ ?_;rw[e]:Z iD (Cr h i)=Z iD (Cr h (i+1))) Fz
def Z54(h:Zo)(i:Nat)(hm:0<=h.map/\h.map<=4294967295)(hi:h.length<=i\/ZV h=M):CP (Zn f197 0) (Mm h i).st (.ext 0) (Tg.st ⟨tm 23 [(3,.ow 16003)],[(16003,.arr 3 1 ((Cr h i).map iD))],60⟩):=by rcases hi with hi|hi;exact sF [] []<|FcG 11 (O ((i:Int)<h.length)) (λa=>by(try simp only[bs]at a);exact@Nv h aa)<|Ffb 12 (O ((i:Int)<h.length)&&ZV h) Fz;exact sF [] []<|FcG 11 (O ((i:Int)<h.length)) (λa=>by(try simp only[bs]at a);exact@Nv h aa)<|Ff 12 (by simp[*]:(O ((i:Int)<h.length)&&ZV h)=M) Fz
def ZlH(h:Zo)(a:0<=h.map/\h.map<=4294967295):CP (Zl f197 0) (Tg.st ⟨tm 23 [(1,.pt 8001 0 0),(3,.ow 16003),(4,nI 0)],[(16003,.arr 3 1 []),(8001,.box 31 [nI h.K,nI h.length,u32 h.map])],60⟩) .nrm (Tg.st ⟨tm 23 [(3,.ow 16003)],[(16003,.arr 3 1 ((ZA h).map iD))],60⟩):=by unfold ZA;by_cases hv:ZV h=Y;rw[if_pos hv];have hb:=GC.1 hv;exact Bs (S:=λi=>(Mm h i).st) h.length.toNat kr (λi hi=>ZeY h i a hv oq oq) (Z54 h _ a (.inl oq));rw[if_neg hv];exact Bs (S:=λi=>(Mm h i).st) 0 kr (λi hi=>by omega) (Z54 h 0 a (.inr (by simpa using hv)))
def Z8v(h:Zo)(hm:0<=h.map/\h.map<=4294967295):GP 197 [h.av] Y (.d (.sl 1 ((ZA h).map iD))) []:=by exact gF [] func197 []<|Fh 3 [.own]<|Fu (@ZlH h aa)<|Fa (Ma _:Ca (Z iD (ZA h))) Fz
def Z8.in1(w:Z8)(a:Int):Z8:=⟨⟨(w.fwd (Z5 w.j.W a).1).1.j.C,(Cj (w.fwd (Z5 w.j.W a).1).1.j.W a (w.fwd (Z5 w.j.W a).1).2.1).1,(w.fwd (Z5 w.j.W a).1).1.j.P,(w.fwd (Z5 w.j.W a).1).1.j.S,(w.fwd (Z5 w.j.W a).1).1.j.B⟩,(w.fwd (Z5 w.j.W a).1).1.old,(w.fwd (Z5 w.j.W a).1).1.T,(w.fwd (Z5 w.j.W a).1).1.Q,(w.fwd (Z5 w.j.W a).1).1.D,(w.fwd (Z5 w.j.W a).1).1.rep⟩
def BH(w:Z8)(a:Int)(l:List Int):Nat->Z8|0=>w|k+1=>(BH w a l k).in1 (a+1+l.getD k X)
def Ce(w:Z8)(a:Int)(l:List Int)(k:Nat):Int:=((BH w a l k).fwd (Z5 (BH w a l k).j.W (a+1+l.getD k X)).1).2.2
def BU(w:Z8):Int:=w.Q.getD w.D.toNat X
def Bg(w:Z8):List Int:=ZA (Zx w (BU w))
def Ii(w:Z8)(n:Int):Z8:=⟨w.j,w.old,w.T,w.Q,w.D+1,⟨w.rep.copied,w.rep.kept,w.rep.filled,w.rep.freed,w.rep.cleared,w.rep.steps+1+n⟩⟩
def Ba(w:Z8):Z8×Bool×Int:=
 if w.D<w.Q.length then
  match (Ld (Bg w).length).find? (λk=>O (Ce w (BU w) (Bg w) k≠0))with|none=>(Ii (BH w (BU w) (Bg w) (Bg w).length) (Bg w).length,Y,0)|some k=>(ES,M,Ce w (BU w) (Bg w) k)
 else(w,M,0)
def Zbc{w}(d:Bh w) a(e:(w.fwd (Z5 w.j.W a).1).2.2=0):Bh (w.in1 a)/\w.Q.length<=(w.in1 a).Q.length/\(w.in1 a).D=w.D/\(w.in1 a).rep.steps=w.rep.steps:=by have b:=Z0i d _ e;have hl:=Z6s (w.fwd (Z5 w.j.W a).1).1.j.W a (w.fwd (Z5 w.j.W a).1).2.1;have c:=b.1.wl;exact⟨b.1.withWords (Z0Z b.1.W oq a) oq,b.2.2.2.1,b.2.2.2.2.1,b.2.2.2.2.2⟩
def Nj{w}(c:Bh w) a l:∀k,(∀j,j<k->Ce w a l j=0)->Bh (BH w a l k)/\w.Q.length<=(BH w a l k).Q.length/\(BH w a l k).D=w.D/\(BH w a l k).rep.steps=w.rep.steps
 |0,_=>⟨c,Lh _,rfl,rfl⟩
 |k+1,h=>by
  have b:=Nj c a l k (λj hj=>h j oq);have hi:=Zbc b.1 (a+1+l.getD k X) (h k oq);exact⟨hi.1,Lz b.2.1 hi.2.1,hi.2.2.1.trans b.2.2.1,hi.2.2.2.trans b.2.2.2⟩
def Z3o(h:Zo):∀i,∀x∈Cr h i,0<=x/\x<i
 |0,x,hx=>by simp[Cr]at hx
 |i+1,x,hx=>by
  have a:=Z3o h i;simp only[Cr]at hx;split at hx
  .rcases Ln.1 hx with hx|hx
   .have:=a x hx;omega
   .simp at hx;omega
  .have:=a x hx;omega
def Z0j(h:Zo):(ZA h).length<=255/\∀x∈ZA h,0<=x/\x<=255:=by
 unfold ZA;split;rename_i hv;have:=GC.1 hv;have hl:=Mz h h.length.toNat
 exact⟨by omega,λx a=>by have:=Z3o h _ x a;omega⟩;simp
def Zad w(a:Bh w)(hs:¬ w.D<w.Q.length):GP 148 [w.av] M (.tu [w.av,bL M,nI 0]) []:=by have h3:=a.mu;exact gF [] func148 []<|Fl 18 wD w.Q<|Ftb 19 (O ((w.Q.length:Int)<=w.D)) Fz
def Dz(w:Z8)(a:Int)(l:List Int)(k:Nat):Tg:=⟨tm 90 [(1,.pt 8001 0 0),(2,.pt 8002 0 0),(3,bL M),(4,nI 0),(5,uU a),(6,ZG l),(7,nI k)],[(8002,.box 142 zW),(8001,.box 142 w.cells)],60⟩
section
variable(w:Z8)(a:Int)(l:List Int)(k:Nat)(b:Bh w)(ha:0<=a/\a<=16384)(hl:l.length<=255)(hr:0<=l.getD k X/\l.getD k X<=255)(hk:k<l.length)
include b ha hl hr hk
theorem Z8E(e:(w.fwd (Z5 w.j.W (a+1+l.getD k X)).1).2.2=0):CP (Zn f148 0) (Dz w a l k).st .nrm (Dz (w.in1 (a+1+l.getD k X)) a l (k+1)).st:=by have h1:=b.wl;have h2:=EW b.W (a+1+l.getD k X);have f:=Z0i b _ e;have h4:=f.1.wl;let c:=a+1+l.getD k X;let d:=w.fwd (Z5 w.j.W c).1;exact sF [] []<|FM 33 34 iD l k<|Fv 38 (a+1)<|Fek 41 iD l (↑k) k<|Fv 43 (l.getD k X)<|Fv 44 c<|Fc 50 (@HV w.j.W c oq oq)<|Fc 56 (@Oy w ((Z5 w.j.W c).1) aa aa)<|Ffb 61 (d.2.2 != 0)<|Fc 71 (@Z3j (d.1.j.W) c (d.2.1) oq oq)<|Fx 36 k Fz
theorem ZhY(e:¬ (w.fwd (Z5 w.j.W (a+1+l.getD k X)).1).2.2=0):CP (Zn f148 0) (Dz w a l k).st .ret (Tg.st ⟨tm 90 [(2,.pt 8002 0 0),(3,bL M),(4,nI (w.fwd (Z5 w.j.W (a+1+l.getD k X)).1).2.2)],[(8002,.box 142 zW)],60⟩):=by have h1:=b.wl;have h2:=EW b.W (a+1+l.getD k X);let c:=a+1+l.getD k X;exact sF [] []<|FM 33 34 iD l k<|Fv 38 (a+1)<|Fek 41 iD l (↑k) k<|Fv 43 (l.getD k X)<|Fv 44 c<|Fc 50 (@HV w.j.W c oq oq)<|Fc 56 (@Oy w ((Z5 w.j.W c).1) aa aa)<|Ftb 61 ((w.fwd (Z5 w.j.W c).1).2.2 != 0) Fz
end
def Zgv w a l:CP (Zn f148 0) (Dz w a l l.length).st (.ext 0) (Tg.st ⟨tm 90 [(1,.pt 8001 0 0),(2,.pt 8002 0 0),(6,ZG l)],[(8002,.box 142 zW),(8001,.box 142 w.cells)],60⟩):=by exact sF [] []<|FO 33 34 iD l Fz
section
variable(w:Z8)(a:Int)(l:List Int)(d:Bh w)(b:0<=a/\a<=16384)(hl:l.length<=255)(c:∀x∈l,0<=x/\x<=255)
include d b hl c
theorem ZaJ(h:(Ld l.length).find? (λk=>O (Ce w a l k≠0))=none):CP (Zl f148 0) (Tg.st ⟨tm 90 [(1,.pt 8001 0 0),(2,.pt 8002 0 0),(3,bL M),(4,nI 0),(5,uU a),(6,ZG l),(7,nI 0)],[(8002,.box 142 zW),(8001,.box 142 w.cells)],60⟩) .nrm (Tg.st ⟨tm 90 [(1,.pt 8001 0 0),(2,.pt 8002 0 0),(6,ZG l)],[(8002,.box 142 zW),(8001,.box 142 (BH w a l l.length).cells)],60⟩):=by
 have f:∀j,j<l.length->Ce w a l j=0:=λj g=>by(have:=Lp.1 h j (Lk.2 g);simpa using this)
 exact Bs (S:=λk=>(Dz (BH w a l k) a l k).st) l.length kr (λk e=>Z8E _ a l k (Nj d a l k λj g=>f j oq).1 b hl (c _ (C1.2 ⟨k,e,rfl⟩)) e (f k e)) (Zgv _ a l)
theorem ZcD i(n:(Ld l.length).find? (λk=>O (Ce w a l k≠0))=Lb i):CP (Zl f148 0) (Tg.st ⟨tm 90 [(1,.pt 8001 0 0),(2,.pt 8002 0 0),(3,bL M),(4,nI 0),(5,uU a),(6,ZG l),(7,nI 0)],[(8002,.box 142 zW),(8001,.box 142 w.cells)],60⟩) .ret (Tg.st ⟨tm 90 [(2,.pt 8002 0 0),(3,bL M),(4,nI (Ce w a l i))],[(8002,.box 142 zW)],60⟩):=by
 obtain⟨h,e,m⟩:=Lj.1 n;have e:=Lk.1 e;have f:∀j,j<i->Ce w a l j=0:=λj g=>by simpa using m j g
 exact EF (S:=λk=>(Dz (BH w a l k) a l k).st) i kr (λk o=>Z8E _ a l k (Nj d a l k λj g=>f j oq).1 b hl (c _ (C1.2 ⟨k,by omega,rfl⟩)) oq (f k o)) (ZhY _ a l i (Nj d a l i f).1 b hl (c _ (C1.2 ⟨i,e,rfl⟩)) e (of_decide_eq_true h))
end
def Z1z w(b:Bh w):GP 148 [w.av] M (.tu [(Ba w).1.av,bL (Ba w).2.1,nI (Ba w).2.2]) []:=by
 by_cases d:w.D<w.Q.length;have h2:=b.sc;have h1:=b.q _ (C1.2 ⟨w.D.toNat,by omega,rfl⟩);have h3:=b.mu;have h4:=IT (Z5 w.j.W (w.Q.getD w.D.toNat X)).1 (EW b.W _).1;have h:Zx w (w.Q.getD w.D.toNat X)=(Z7 (Z5 w.j.W (w.Q.getD w.D.toNat X)).1).1:=rfl;have h6:=Z0j (Zx w (w.Q.getD w.D.toNat X));rw[<-h]at h4;unfold Ba;rw[if_pos d];cases hb:(Ld (Bg w).length).find? (λk=>O (Ce w (BU w) (Bg w) k≠0))with
 |none =>
  have g:∀j,j<(Bg w).length->Ce w (BU w) (Bg w) j=0:=λj i=>by(have:=Lp.1 hb j (Lk.2 i);simpa using this)
  have k1:=Nj b (BU w) (Bg w) (Bg w).length g;have k2:=k1.1.rs;have k3:=k1.1.sc;have k4:=k1.1.mu;unfold Bg BU at *;let a:=w.Q.getD w.D.toNat X;let f:=BH w a (ZA (Zx w a)) (ZA (Zx w a)).length;exact gF [] func148 []<|Fl 18 wD w.Q<|Ffb 19 (O ((w.Q.length:Int)<=w.D))<|Fe 25 wD w.Q w.D<|Fc 29 (@Z89 w a aa oq)<|Fc 30 (@Z8v (Zx w a) aa)<|Fu (@ZaJ w a (ZA (Zx w a)) aa aa oq (by grind[Ii]) aa)<|Fi 78 (f.D+1)<|Fi 83 (f.rep.steps+1)<|Fl 85 iD (ZA (Zx w a))<|Fi 86 (f.rep.steps+1+(↑(ZA (Zx w a)).length:Int)) Fz
 |some k =>unfold Bg BU at *;let c:=w.Q.getD w.D.toNat X;exact gF [] func148 []<|Fl 18 wD w.Q<|Ffb 19 (O ((w.Q.length:Int)<=w.D))<|Fe 25 wD w.Q w.D<|Fc 29 (@Z89 w c aa oq)<|Fc 30 (@Z8v (Zx w c) aa)<|Fu (@ZcD w c (ZA (Zx w c)) aa aa oq (by grind[ES,ZH]) k aa)<|Fnl (Fnl (Fnl (Fnl (Fnl Fz))))
 have e:Ba w=(w,M,0):=by rw[Ba,if_neg d]
 rw[e];exact Zad w b d
def Z1v{w}(a:Bh w)(e:(Ba w).2.2=0):Bh (Ba w).1/\((Ba w).2.1=Y->(Ba w).1.D=w.D+1):=by
 by_cases b:w.D<w.Q.length;unfold Ba at e⊢;rw[if_pos b]at e⊢;cases hb:(Ld (Bg w).length).find? (λk=>O (Ce w (BU w) (Bg w) k≠0))with
 |none =>
  have c:∀j,j<(Bg w).length->Ce w (BU w) (Bg w) j=0:=λj d=>by(have:=Lp.1 hb j (Lk.2 d);simpa using this)
  have k1:=Nj a (BU w) (Bg w) (Bg w).length c;have k2:=k1.1.rs;have k3:=k1.1.sc;have k5:=(Z0j (Zx w (BU w))).1;have k6:=a.sc;simp only;refine⟨⟨k1.1.W,k1.1.wl,k1.1.C,k1.1.pl,k1.1.sp,k1.1.ol,k1.1.o,k1.1.tk,k1.1.tl,k1.1.q,k1.1.us,k1.1.mu, ?_,k1.1.rk, ?_,k1.1.r0⟩, ?_⟩;simp only[Ii];omega;simp only[Ii];unfold Bg at *;omega;intro _;simp only[Ii];omega
 |some k =>simp only[hb]at e;have:=(Lj.1 hb).1;simp[e]at this
 have e:Ba w=(w,M,0):=by rw[Ba,if_neg b]
 rw[e];exact⟨a,λh=>by cases h⟩
def CN(w:Z8):Nat->Z8|0=>w|k+1=>(Ba (CN w k)).1
def Sc(w:Z8):Nat:=1000002+w.old.length
def Eb(w:Z8)(k:Nat):Bool:=O ((Ba (CN w k)).2.2≠0\/(Ba (CN w k)).2.1=M)
def Bz(w:Z8):Z8×Int:=match (Ld (Sc w)).find? (Eb w)with|none=>(w,0)|some k=>if(Ba (CN w k)).2.2=0 then((Ba (CN w k)).1,0)else(ES,(Ba (CN w k)).2.2)
def IB{w}(c:Bh w):∀k,(∀j,j<k->Eb w j=M)->Bh (CN w k)/\(CN w k).D=w.D+k
 |0,_=>⟨c,by simp[CN]⟩
 |k+1,h=>by
  have d:=IB c k (λj hj=>h j oq);have a:=h k oq;simp only[Eb,decide_eq_false_iff_not,not_or,Li]at a;have b:=Z1v d.1 a.1;refine⟨b.1, ?_⟩;have:=b.2 (by simpa using a.2);simp only[CN];omega
def SV{w}(a:Bh w):∃k,(Ld (Sc w)).find? (Eb w)=Lb k:=by
 cases hb:(Ld (Sc w)).find? (Eb w)with
 |some k=>exact⟨k,rfl⟩
 |none =>
  exfalso;have b:∀j,j<1000001->Eb w j=M:=λj hj=>by(have:=Lp.1 hb j (Lk.2 (by unfold Sc;omega));simpa using this)
  have k:=IB a 1000001 b;have h1:=k.1.sc;have h2:=k.1.mu;have h3:=a.sc;omega
def AL(w:Z8):Tg:=⟨tm 21 [(1,.pt 8001 0 0),(2,.pt 8002 0 0),(3,nI 0)],[(8002,.box 142 zW),(8001,.box 142 w.cells)],60⟩
section
variable(w:Z8)(a:Bh w)
include a
theorem Z7K(e:(Ba w).2.2=0)(m:(Ba w).2.1=Y):CP (Zn f92 0) (AL w).st .nrm (AL (Ba w).1).st:=by exact sF [] []<|Fc 9 (@Z1z w aa)<|Ffb 14 ((Ba w).2.2 != 0)<|Ffb 19 (!(Ba w).2.1) Fz
theorem Zjl(e:(Ba w).2.2=0)(m:(Ba w).2.1=M):CP (Zn f92 0) (AL w).st .ret (Tg.st ⟨tm 21 [(2,.pt 8002 0 0),(3,nI 0)],[(8002,.box 142 (Ba w).1.cells)],60⟩):=by exact sF [] []<|Fc 9 (@Z1z w aa)<|Ffb 14 ((Ba w).2.2 != 0)<|Ftb 19 (!(Ba w).2.1) Fz
theorem Zgt(e:¬ (Ba w).2.2=0):CP (Zn f92 0) (AL w).st .ret (Tg.st ⟨tm 21 [(2,.pt 8002 0 0),(3,nI (Ba w).2.2)],[(8002,.box 142 zW)],60⟩):=by exact sF [] []<|Fc 9 (@Z1z w aa)<|Ftb 14 ((Ba w).2.2 != 0) Fz
theorem Zh8 k(h:(Ld (Sc w)).find? (Eb w)=Lb k)(e:(Ba (CN w k)).2.2=0):CP (Zl f92 0) (Tg.st ⟨tm 21 [(1,.pt 8001 0 0),(2,.pt 8002 0 0),(3,nI 0)],[(8002,.box 142 zW),(8001,.box 142 w.cells)],60⟩) .ret (Tg.st ⟨tm 21 [(2,.pt 8002 0 0),(3,nI 0)],[(8002,.box 142 (Ba (CN w k)).1.cells)],60⟩):=by
 obtain⟨f,h2,g⟩:=Lj.1 h;have b:∀j,j<k->Eb w j=M:=λj c=>by simpa using g j c
 have m:(Ba (CN w k)).2.1=M:=by(simp only[Eb,decide_eq_true_eq,e]at f;simpa using f)
 exact EF (S:=λk=>(AL (CN w k)).st) k kr (λj c=>by
  have d:=b j c;simp only[Eb,decide_eq_false_iff_not,not_or,Li]at d;exact Z7K _ (IB a j λi hi=>b i oq).1 d.1 (by simpa using d.2)) (Zjl _ (IB a k b).1 e m)
theorem ZeU k(g:(Ld (Sc w)).find? (Eb w)=Lb k)(e:¬ (Ba (CN w k)).2.2=0):CP (Zl f92 0) (Tg.st ⟨tm 21 [(1,.pt 8001 0 0),(2,.pt 8002 0 0),(3,nI 0)],[(8002,.box 142 zW),(8001,.box 142 w.cells)],60⟩) .ret (Tg.st ⟨tm 21 [(2,.pt 8002 0 0),(3,nI (Ba (CN w k)).2.2)],[(8002,.box 142 zW)],60⟩):=by
 obtain⟨h1,h2,f⟩:=Lj.1 g;have b:∀j,j<k->Eb w j=M:=λj c=>by simpa using f j c
 exact EF (S:=λk=>(AL (CN w k)).st) k kr (λj c=>by
  have d:=b j c;simp only[Eb,decide_eq_false_iff_not,not_or,Li]at d;exact Z7K _ (IB a j λi hi=>b i oq).1 d.1 (by simpa using d.2)) (Zgt _ (IB a k b).1 e)
theorem Z38:GP 92 [w.av] M (.tu [(Bz w).1.av,nI (Bz w).2]) []:=by
 obtain⟨k,c⟩:=SV a;by_cases e:(Ba (CN w k)).2.2=0;have b:Bz w=((Ba (CN w k)).1,0):=by rw[Bz,c];simp only[if_pos e]
 rw[b];exact gF [] func92 []<|Fu (@Zh8 w aa k aa aa) Fz;have b:Bz w=(ES,(Ba (CN w k)).2.2):=by rw[Bz,c];simp only[if_neg e]
 rw[b];exact gF [] func92 []<|Fu (@ZeU w aa k aa aa)<|Fnl (Fnl (Fnl (Fnl (Fnl Fz))))
omit a in
theorem ZbR(a:Bh w)(e:(Bz w).2=0):Bh (Bz w).1:=by
 obtain⟨k,b⟩:=SV a;obtain⟨h1,h2,f⟩:=Lj.1 b;have d:∀j,j<k->Eb w j=M:=λj g=>by simpa using f j g
 unfold Bz at e⊢;rw[b]at e⊢;simp only at e⊢;split at e;rename_i c;rw[if_pos c];exact(Z1v (IB a k d).1 c).1;rename_i c;exact absurd e c
end
def ZE(ws:List Int)(a:Int):Int:=(Z7 (Z5 ws a).1).1.length
def Ch ws(a:Int):0<=ZE ws a/\ZE ws a<=255:=by have:=GC.1 (Mg (Z5 ws a).1);exact⟨this.2.2.1,this.2.2.2.1⟩
theorem AW{ws l:List Int}{a b:Int}(h:4096<=a/\a-4096+l.length<=ws.length)(hb:b<a\/a+l.length<=b):Z5 (ZZ ws a l).1 b=Z5 ws b:=by
 unfold ZZ;rw[if_pos h];have d:(C6 ws (a-4096).toNat l).length=ws.length:=Nx oq;unfold Z5;simp only[d];split;have:=M7 (ws:=ws) (l:=l) (i:=(a-4096).toNat) (k:=l.length) oq (Lh _) (b-4096).toNat
 rw[TS]at this;rw[Lf,Lf,this];by_cases c:(b-4096).toNat<(a-4096).toNat
 rw[if_pos c];rw[if_neg c,if_neg oq];rfl
theorem P3{ws l:List Int}{a b:Int}(h:4096<=a/\a-4096+l.length<=ws.length)(hb:a<=b/\b<a+l.length):Z5 (ZZ ws a l).1 b=(l.getD (b-a).toNat 0,0):=by
 unfold ZZ;rw[if_pos h];have c:(C6 ws (a-4096).toNat l).length=ws.length:=Nx oq;unfold Z5;simp only[c];rw[if_pos oq];have:=M7 (ws:=ws) (l:=l) (i:=(a-4096).toNat) (k:=l.length) oq (Lh _) (b-4096).toNat
 rw[TS]at this;rw[Lf,Lf,this,if_neg oq,if_pos oq,show(b-4096).toNat-(a-4096).toNat=(b-a).toNat by omega]
theorem Ts{ws:List Int}{a v:Int}(h:4096<=a/\a<4096+ws.length):(Cj ws a v).1.length=ws.length:=by unfold Cj ZZ;rw[if_pos qo];exact Nx qo
theorem Nf{ws:List Int}{a b v:Int}(h:4096<=a/\a<4096+ws.length)(hb:b≠a):Z5 (Cj ws a v).1 b=Z5 ws b:=
 AW qo qo
theorem Pn{ws:List Int}{a v:Int}(h:4096<=a/\a<4096+ws.length):Z5 (Cj ws a v).1 a=(v,0):=by have:=P3 (ws:=ws) (l:=[v]) (a:=a) (b:=a) qo qo;rw[Cj,this];simp
def MR{ws:List Int}{a b n:Int}(hn:1<=n)(ha:4096<=a/\a-4096+n<=ws.length)(e:4096<=b/\b-4096+n<=ws.length) :(moveA ws a b n).1.length=ws.length/\Z5 (moveA ws a b n).1 a=((Z5 ws b).1,0)/\∀x,x<a\/a+n<=x->Z5 (moveA ws a b n).1 x=Z5 ws x:=by
 have c:C4 ws b n=((ws.drop (b-4096).toNat).take n.toNat,0):=by rw[C4,if_neg oq,if_pos e]
 have d:moveA ws a b n=ZZ ws a ((ws.drop (b-4096).toNat).take n.toNat):=by rw[moveA,c];simp
 have hl:((ws.drop (b-4096).toNat).take n.toNat).length=n.toNat:=by simp;omega
 rw[d];refine⟨?_, ?_, ?_⟩;unfold ZZ;rw[if_pos oq];exact Nx oq;rw[P3 oq oq];congr 1;unfold Z5;rw[if_pos oq];simp only[Lf,LF,Int.toNat_zero];rw[List.getElem?_take_of_lt oq,Lw];simp;intro x hx;exact AW oq oq
def Zhd(a:Int):(Z7 (4*a+2)).1.length=0:=by unfold Z7;rw[if_neg];rfl;rintro⟨c,b⟩;unfold Zu at c b;split at b;simp only[EM]at b;omega;simp only at b;omega
def CX(p:Z0):Int:=if p.K=0 then 0 else p.U
structure BM (w:Z8):Prop where
 L:(w.j.W.length:Int)=w.j.C.pw*w.j.C.pg
 r:∀a∈w.old++w.Q,4096<=a/\a+ZE w.j.W a<4096+w.j.W.length
 s:∀a∈w.old++w.Q,∀b∈w.old++w.Q,a<b->a+ZE w.j.W a<b
 f:∀i:Nat,i<w.j.P.length->(w.j.P.getD i X).K=0\/(i:Int)∈w.T->∀a∈w.old++w.Q,a+ZE w.j.W a<4096+i*w.j.C.pw+CX (w.j.P.getD i X)\/4096+i*w.j.C.pw+w.j.C.pw<=a
 z:∀x∈w.old,(w.j.P.getD (Z4 w.j.C x).1.toNat X).K=2\/ZE w.j.W x+1<=w.j.C.pw
def BM.withWords{w}(h:BM w){l:List Int}(hl:l.length=w.j.W.length)(d:∀a∈w.old++w.Q,ZE l a<=ZE w.j.W a):BM ⟨⟨w.j.C,l,w.j.P,w.j.S,w.j.B⟩,w.old,w.T,w.Q,w.D,w.rep⟩:=by refine⟨?_, ?_, ?_, ?_, ?_⟩;simp only[hl];exact h.L;intro a c;have e:=h.r a c;have f:=d a c;simp only[hl];omega;intro a c b k g;have e:=h.s a c b k g;have f:=d a c;simp only;omega;intro i hi m a c;have e:=h.f i hi m a c;have f:=d a c;simp only at *;omega;intro x j;have e:=h.z x j;have f:=d x (Lg _ j);simp only at *;omega
def BM.keep{w}(h:BM w){r:Int}(g:r∈w.old):BM (w.keep r):=by
 have d:∀a,a∈w.old++(w.Q++[r])->a∈w.old++w.Q:=by(intro a c;simp only[Ln,Lv]at c⊢;rcases c with c|c|rfl;exact Le c;exact Lc c;exact Le g)
 exact⟨h.L,λa c=>h.r a (d a c),λa c b e=>h.s a (d a c) b (d b e),λi hi f a c=>h.f i hi f a (d a c),h.z⟩
def BM.flip{w}(h:BM w) i:BM (w.flip i):=by
 have e:∀j,((ZK w.j.P i (ZC w.j.P i) (1-w.j.S)).getD j X).K=(w.j.P.getD j X).K/\((ZK w.j.P i (ZC w.j.P i) (1-w.j.S)).getD j X).U=(w.j.P.getD j X).U:=by(intro j;by_cases b:j<w.j.P.length;rw[Ia b];split;exact⟨rfl,rfl⟩;exact⟨rfl,rfl⟩;rw[Lf,Lf,LI (by rw[HK];omega),LI oq];exact⟨rfl,rfl⟩)
 refine⟨h.L,h.r,h.s, ?_, ?_⟩;intro j b d a c;simp only[Z8.flip,HK,CX,e]at b d c⊢;exact h.f j b d a c;intro x f;simp only[Z8.flip,e];exact h.z x f
def Ov{w}{n:Int}(hw:Bh w)(hn:1<=n/\n<=w.j.C.pw)(h:(w.place n).2.2=Y) :∃(i:Nat) (p:Z0) (t:List Int),i<w.j.P.length/\((w.j.P.getD i X).K=0\/((i:Int)∈w.T/\(w.j.P.getD i X).K=1))/\p.K=1/\p.U=CX (w.j.P.getD i X)+n/\CX (w.j.P.getD i X)+n<=w.j.C.pw/\0<=CX (w.j.P.getD i X)/\(∀x∈t,x∈w.T\/x=(i:Int))/\(w.place n).2.1=4096+i*w.j.C.pw+CX (w.j.P.getD i X) /\
  (w.place n).1=⟨⟨w.j.C,w.j.W,w.j.P.set i p,w.j.S,w.j.B⟩,w.old,t,w.Q,w.D,w.rep⟩:=by
 have hb:=BR.1 hw.C;have hpl:=hw.pl;by_cases hf:EC w n;have e:w.place n=(⟨⟨w.j.C,w.j.W,Cw w.j.P (ZS w).toNat n,w.j.S,w.j.B⟩,w.old,w.T,w.Q,w.D,w.rep⟩,4096+ZS w*w.j.C.pw+(w.j.P.getD (ZS w).toNat X).U,Y):=by rw[Z8.place,if_pos hf]
 unfold EC at hf;have hm:=hw.tk _ (Hh hf.1);have hu:=hw.us (ZS w).toNat oq;have hk:=hm.2.2;have hup:CX (w.j.P.getD (ZS w).toNat X)=(w.j.P.getD (ZS w).toNat X).U:=by rw[CX,if_neg oq]
 have hc:(((ZS w).toNat:Nat):Int)=ZS w:=by omega
 refine⟨(ZS w).toNat,⟨(w.j.P.getD (ZS w).toNat X).K,(w.j.P.getD (ZS w).toNat X).S,(w.j.P.getD (ZS w).toNat X).U+n,(w.j.P.getD (ZS w).toNat X).N⟩,w.T,by omega,Lc ⟨by rw[hc];exact Hh hf.1,hk⟩,hk,by rw[hup],by rw[hup];omega,by rw[hup];omega,λx hx=>Le hx, ?_, ?_⟩;rw[e,hup,hc];rw[e];rfl;by_cases hg:0<=B3 w;have e:w.place n=(⟨⟨w.j.C,w.j.W,Cw (G2 w) (B3 w).toNat n,w.j.S,w.j.B⟩,w.old,w.T++[B3 w],w.Q,w.D,w.rep⟩,4096+B3 w*w.j.C.pw,Y):=by rw[Z8.place,if_neg hf,if_pos hg]
 obtain⟨f1,f2,f3,f4⟩:=Nm (h:=⟨w.j.C,w.j.W,w.j.P,1-w.j.S,w.j.B⟩) (by have:=hw.sp;simp only;omega) hg;obtain⟨g1,g2,g3⟩:=HU hg;simp only at f1 f2 f3 f4;have hi:(B3 w).toNat<w.j.P.length:=by unfold B3;omega
 have hk:(w.j.P.getD (B3 w).toNat X).K=0:=by(have:=Al.1 g3 0 dd;simpa[B3]using this)
 have hup:CX (w.j.P.getD (B3 w).toNat X)=0:=by rw[CX,if_pos hk]
 have hc:(((B3 w).toNat:Nat):Int)=B3 w:=by omega
 have hq:Cw (G2 w) (B3 w).toNat n=w.j.P.set (B3 w).toNat ⟨1,1-w.j.S,n,0⟩:=by
  unfold Cw;have e4:(G2 w).getD (B3 w).toNat X=⟨1,1-w.j.S,0,0⟩:=f4;rw[e4];have e1:G2 w=w.j.P.set (B3 w).toNat ⟨1,1-w.j.S,0,0⟩:=by(have:G2 w=ZF w.j.P (B3 w).toNat 1 ⟨1,1-w.j.S,0,0⟩ ⟨0,0,0,0⟩:=f1;rw[this,Z0V hi])
  rw[e1,LK];simp
 refine⟨(B3 w).toNat,⟨1,1-w.j.S,n,0⟩,w.T++[B3 w],hi,Le hk,rfl,by rw[hup];simp,by rw[hup];omega,by rw[hup];decide, ?_, ?_, ?_⟩;intro x hx;simp only[Ln,Lv]at hx;rcases hx with hx|rfl;exact Le hx;exact Lc hc.symm;rw[e,hup,hc];simp;rw[e,hq];rw[Z8.place,if_neg hf,if_neg hg]at h;simp at h
def Gb{i j pw:Int}(h:i<j)(a:0<=pw):i*pw+pw<=j*pw:=by have:=Lr (show i+1<=j by omega) a;rw[LB,Int.one_mul]at this;exact this
def BM.copy{w}(hw:Bh w)(h:BM w){r n:Int}(hr:r∈w.old)(hn:n=ZE w.j.W r+1)(hp:n<=w.j.C.pw)(hc:(w.place n).2.2=Y):BM ((w.place n).1.copy r (w.place n).2.1 n):=by
 have a9:=Ch w.j.W r;obtain⟨i,p,t,z,k,h3,h4,h5,h6,h7,h8,e⟩:=Ov hw ⟨by omega,hp⟩ hc;have hb:=BR.1 hw.C;have b1:=hw.pl;have hL:=h.L;have a7:(i:Int)*w.j.C.pw+w.j.C.pw<=w.j.C.pw*w.j.C.pg:=by(have:=Gb (i:=i) (j:=w.j.C.pg) (pw:=w.j.C.pw) oq oq;rw[Ll w.j.C.pw];exact this)
 have a6:0<=(i:Int)*w.j.C.pw:=Lo oq oq;rw[e,h8];generalize hu:CX (w.j.P.getD i X)=u at *;generalize ha:4096+(i:Int)*w.j.C.pw+u=at';have b2:=h.r r (Lg _ hr);have o:=h.f i z (by rcases k with k|k;exact Le k;exact Lc k.1);rw[hu]at o;obtain⟨m1,m2,m3⟩:=MR (ws:=w.j.W) (a:=at') (b:=r) (n:=n) oq oq oq;have a5:=o r (Lg _ hr);have a1:r≠at':=by omega
 have g:4096<=r/\r<4096+(moveA w.j.W at' r n).1.length:=by omega
 have k1:∀a∈w.old++w.Q,ZE (Cj (moveA w.j.W at' r n).1 r (4*at'+2)).1 a<=ZE w.j.W a:=by
  intro a c;have a4:=o a c;have a8:=Ch w.j.W a;by_cases hk:a=r;subst hk;have:ZE (Cj (moveA w.j.W at' a n).1 a (4*at'+2)).1 a=0:=by(unfold ZE;rw[Pn g];exact Zhd at')
  omega;have:ZE (Cj (moveA w.j.W at' r n).1 r (4*at'+2)).1 a=ZE w.j.W a:=by(unfold ZE;rw[Nf g hk,m3 a oq])
  omega
 have k2:ZE (Cj (moveA w.j.W at' r n).1 r (4*at'+2)).1 at'=n-1:=by
  have:ZE (Cj (moveA w.j.W at' r n).1 r (4*at'+2)).1 at'=ZE w.j.W r:=by(unfold ZE;rw[Nf g (Ne.symm a1),m2])
  omega
 have l:(Cj (moveA w.j.W at' r n).1 r (4*at'+2)).1.length=w.j.W.length:=by rw[Ts g,m1]
 have d:∀a,a∈w.old++(w.Q++[at'])->a∈w.old++w.Q\/a=at':=by(intro a c;simp only[Ln,Lv]at c⊢;rcases c with c|c|c;exact Le (Le c);exact Le (Lc c);exact Lc c)
 refine⟨?_, ?_, ?_, ?_, ?_⟩;simp only[Z8.copy,l];exact hL;intro a c;simp only[Z8.copy,l]at c⊢;rcases d a c with c|rfl;have m:=h.r a c;have s:=k1 a c;omega;rw[k2];omega;intro a c b hB a0;simp only[Z8.copy]at c hB⊢;rcases d a c with hA'|e1<;>rcases d b hB with hB'|e2;have m:=h.s a hA' b hB' a0;have s:=k1 a hA';omega;have m:=o a hA';have s:=k1 a hA';omega;have m:=o b hB';have s:=Ch w.j.W b;rw[e1,k2];omega;omega;intro j hj f a c;simp only[Z8.copy,Ls]at hj f c⊢;by_cases y:i=j;subst y;rw[EH z,if_pos rfl];have a2:CX p=u+n:=by rw[CX,if_neg oq,h4]
 rw[a2];rcases d a c with c|rfl;have m:=o a c;have s:=k1 a c;omega;rw[k2];omega;rw[EH z,if_neg y]at f⊢;have v:(w.j.P.getD j X).K=0\/(j:Int)∈w.T:=by(rcases f with f|f;exact Le f;rcases h7 _ f with q|q;exact Lc q;omega)
 rcases d a c with c|rfl;have m:=h.f j hj v a c;have s:=k1 a c;omega;rw[k2];have b3:0<=CX (w.j.P.getD j X):=by(have:=hw.us j hj;unfold CX;split<;>omega)
 by_cases b0:i<j;have:=Gb (i:=i) (j:=j) (pw:=w.j.C.pw) oq oq;omega;have:=Gb (i:=j) (j:=i) (pw:=w.j.C.pw) oq oq;omega;intro x hx;simp only[Z8.copy]at hx⊢;have m:=h.z x hx;have s:=k1 x (Lg _ hx);rw[EH z];split;rename_i a3;rw[<-a3]at m;rcases k with k|k<;>omega;omega
structure GD (w v:Z8):Prop where
 c:v.j.C=w.j.C
 o:v.old=w.old
 q:∀x∈w.Q,x∈v.Q
 l:∀x∈w.Q,ZE v.j.W x=ZE w.j.W x
theorem GD.rfl' w:GD w w:=⟨rfl,rfl,λ_ h=>h,λ_ _=>rfl⟩
def GD.trans{u v w}(a:GD u v)(b:GD v w):GD u w:=
 ⟨b.c.trans a.c,b.o.trans a.o,λx c=>b.q x (a.q x c),λx c=>(b.l x (a.q x c)).trans (a.l x c)⟩
theorem HC w r:Z1 (Zx w r)=ZE w.j.W r+1:=by have hv:ZV (Zx w r)=Y:=Mg _;rw[Z1,if_pos hv];rfl
def Zim{w}(g:Bh w)(h:BM w){r n:Int}(hr:r∈w.old)(hq:r∉w.Q)(hn:n=ZE w.j.W r+1)(hp:n<=w.j.C.pw)(o:(w.place n).2.2=Y):GD w ((w.place n).1.copy r (w.place n).2.1 n):=by
 have z:=Ch w.j.W r;obtain⟨i,p,t,l,c,h3,h4,h5,h6,h7,m,e⟩:=Ov g ⟨by omega,hp⟩ o;have hb:=BR.1 g.C;have a1:=g.pl;have hL:=h.L;have y:(i:Int)*w.j.C.pw+w.j.C.pw<=w.j.C.pw*w.j.C.pg:=by(have:=Gb (i:=i) (j:=w.j.C.pg) (pw:=w.j.C.pw) oq oq;rw[Ll w.j.C.pw];exact this)
 have v:0<=(i:Int)*w.j.C.pw:=Lo oq oq;rw[e,m];generalize hu:CX (w.j.P.getD i X)=u at *;generalize ha:4096+(i:Int)*w.j.C.pw+u=at';have a2:=h.r r (Lg _ hr);have k:=h.f i l (by rcases c with c|c;exact Le c;exact Lc c.1);rw[hu]at k;obtain⟨m1,m2,m3⟩:=MR (ws:=w.j.W) (a:=at') (b:=r) (n:=n) oq oq oq;have f:4096<=r/\r<4096+(moveA w.j.W at' r n).1.length:=by omega
 refine⟨rfl,rfl,λx d=>Lg _ d, ?_⟩;intro x d;have s:=k x (Lt _ d);have a0:=Ch w.j.W x;simp only[Z8.copy];unfold ZE at *;rw[Nf f (λq=>hq (q▸d)),m3 x oq]
def AZ{w}(k:Bh w)(h:BM w) r(e:(w.fwd r).2.2=0):BM (w.fwd r).1/\GD w (w.fwd r).1:=by
 unfold Z8.fwd at e⊢;split at e;grind[GD.rfl'];rename_i c1;rw[if_neg c1];have f:r∉w.Q:=λh=>c1 (Lc h);split at e;simp at e;rename_i c2;rw[if_neg c2];have a:r∈w.old:=Li.1 c2;split at e;grind[GD.rfl'];rename_i c3;rw[if_neg c3];split at e;simp at e;rename_i c4;rw[if_neg c4];split at e;rename_i g;rw[if_pos g];exact⟨h.keep a,⟨rfl,rfl,λx i=>Lg _ i,λ_ _=>rfl⟩⟩;rename_i g;rw[if_neg g];split at e;rename_i d;rw[if_pos d];exact⟨(h.flip _).keep a,⟨rfl,rfl,λx i=>Lg _ i,λ_ _=>rfl⟩⟩;rename_i d;rw[if_neg d];split at e;simp at e;rename_i l;rw[if_neg l];have b:(w.place (Z1 (Zx w r))).2.2=Y:=by grind
 have c:=h.z r a;have j:Z1 (Zx w r)<=w.j.C.pw:=by(rw[HC];rcases c with c|c;exact absurd c d;exact c)
 exact⟨h.copy k a (HC w r) j b,Zim k h a f (HC w r) j b⟩
def ZgY{w}(m:Bh w)(h:BM w){q j:Int}(i:q∈w.Q)(hj:0<=j/\j<ZE w.j.W q)(e:(w.fwd (Z5 w.j.W (q+1+j)).1).2.2=0):BM (w.in1 (q+1+j))/\GD w (w.in1 (q+1+j)):=by
 obtain⟨d,f⟩:=AZ m h _ e;have b:=f.q q i;have l:=f.l q i;have hr:=d.r q (Lt _ b);have hs:=d.s q (Lt _ b);have c:4096<=q+1+j/\q+1+j<4096+(w.fwd (Z5 w.j.W (q+1+j)).1).1.j.W.length:=by omega
 have g:∀a∈(w.fwd (Z5 w.j.W (q+1+j)).1).1.old++(w.fwd (Z5 w.j.W (q+1+j)).1).1.Q,ZE (Cj (w.fwd (Z5 w.j.W (q+1+j)).1).1.j.W (q+1+j) (w.fwd (Z5 w.j.W (q+1+j)).1).2.1).1 a=ZE (w.fwd (Z5 w.j.W (q+1+j)).1).1.j.W a:=by grind[ZE,Nf]
 refine⟨d.withWords (Ts c) (λa k=>Int.le_of_eq (g a k)),f.trans ⟨rfl,rfl,λ_ h=>h,λx n=>g x (Lt _ n)⟩⟩
def AY(h:Zo):∀x∈ZA h,0<=x/\x<h.length:=by unfold ZA;split;intro x a;have:=Z3o h _ x a;omega;simp
def Tl{w}(c:Bh w)(h:BM w){q:Int}(b:q∈w.Q){l:List Int}(hl:∀x∈l,0<=x/\x<ZE w.j.W q):∀k,k<=l.length->(∀j,j<k->Ce w q l j=0)->BM (BH w q l k)/\GD w (BH w q l k)
 |0,_,_=>⟨h,GD.rfl' w⟩
 |k+1,hk,he=>by
  have a:=Tl c h b hl k oq (λj e=>he j oq);have ok:=(Nj c q l k (λj e=>he j oq)).1;have d:=hl _ (C1.2 ⟨k,by omega,rfl⟩);have:=ZgY ok a.1 (a.2.q q b) (j:=l.getD k X) ⟨d.1,by rw[a.2.l q b];exact d.2⟩ (he k oq);exact⟨this.1,a.2.trans this.2⟩
def Z1N{w}(b:Bh w)(h:BM w)(e:(Ba w).2.2=0):BM (Ba w).1/\GD w (Ba w).1:=by
 by_cases f:w.D<w.Q.length;have g:=b.sc;have d:BU w∈w.Q:=C1.2 ⟨w.D.toNat,by omega,rfl⟩;unfold Ba at e⊢;rw[if_pos f]at e⊢;cases hb:(Ld (Bg w).length).find? (λk=>O (Ce w (BU w) (Bg w) k≠0))with
 |none =>
  have c:∀j,j<(Bg w).length->Ce w (BU w) (Bg w) j=0:=λj hj=>by(grind)
  obtain⟨k1,a⟩:=Tl b h d (l:=Bg w) (AY (Zx w (BU w))) (Bg w).length (Lh _) c;exact⟨⟨k1.L,k1.r,k1.s,k1.f,k1.z⟩,⟨a.c,a.o,a.q,a.l⟩⟩
 |some k =>grind
 grind[Ba,GD.rfl']
def Dv{w}(b:Bh w)(h:BM w):∀k,(∀j,j<k->Eb w j=M)->BM (CN w k)/\GD w (CN w k)
 |0,_=>⟨h,GD.rfl' w⟩
 |k+1,hh=>by
  have c:=Dv b h k (λj d=>hh j oq);have ok:=(IB b k (λj d=>hh j oq)).1;have a:=hh k oq;simp only[Eb,decide_eq_false_iff_not,not_or,Li]at a;have:=Z1N ok c.1 a.1;exact⟨this.1,c.2.trans this.2⟩
def ZlC{w}(a:Bh w)(h:BM w)(e:(Bz w).2=0):BM (Bz w).1/\GD w (Bz w).1:=by
 obtain⟨k,d⟩:=SV a;obtain⟨h1,h2,h3⟩:=Lj.1 d;have b:∀j,j<k->Eb w j=M:=λj hj=>by grind
 unfold Bz at e⊢;rw[d]at e⊢;simp only at e⊢;split at e;rename_i c;rw[if_pos c];have f:=Dv a h k b;have i2:=Z1N (IB a k b).1 f.1 c;exact⟨i2.1,f.2.trans i2.2⟩;omega
theorem Z1G{w roots}(a:Bh w)(h:BM w):∀k,(∀j,j<k->Ev w roots j=0)->BM (Ck w roots k).1/\GD w (Ck w roots k).1
 |0,_=>⟨h,GD.rfl' w⟩
 |k+1,hh=>by
  have b:=Z1G a h k (λj c=>hh j oq);have ok:=(Aj (roots:=roots) a k (λj c=>hh j oq)).1;have:=AZ ok b.1 (roots.getD k X) (hh k oq);exact⟨this.1,b.2.trans this.2⟩
def A5{w roots}(hw:Bh w)(h:BM w)(e:(rootsF w roots).2.2=0):Bh (rootsF w roots).1/\BM (rootsF w roots).1/\GD w (rootsF w roots).1/\(∀x∈(rootsF w roots).2.1,0<=x/\x<=4294967296)/\(rootsF w roots).2.1.length=roots.length:=by grind[rootsF,Aj,Z1G,SI]
def Z0U sp:∀(l:List Z0) (m:Nat),m<EK sp l->m<l.length/\(l.getD m X).K=3/\(l.getD m X).S=sp
 |[],m,h=>by grind[EK]
 |p::l,m,h=>by
  unfold EK at h;split at h
  .rename_i hp;cases m with
   |zero=>grind
   |succ m =>
    obtain⟨h1,h2⟩:=Z0U sp l m oq;grind
  .omega
def Z3O{c n}(h:1<=need c n):n<=need c n*c.pw:=by unfold need at h⊢;split at h;rename_i a;rw[if_pos a];have hb:=BR.1 a.1;split at h;omega;rename_i d;rw[if_neg d];have e:=LD (n+c.pw-1) c.pw;have l:=LC (n+c.pw-1) (b:=c.pw) oq;grind;omega
def Z5s{h:Heap}(e:Z9 h=Y){j:Nat}(b:j<h.P.length)(c:(h.P.getD j X).K=2) :1<=need h.C (h.P.getD j X).U/\∀m:Nat,1<=m->(m:Int)<need h.C (h.P.getD j X).U->j+m<h.P.length/\(h.P.getD (j+m) X).K=3/\(h.P.getD (j+m) X).S=(h.P.getD j X).S:=by have hi:=Hl.1 e;obtain⟨d,_,a⟩:=Z6V oq hi.2.2.2.2.2 oq j oq b;have f:=a.2.2.2.2.2.2.2.2.2.1 c;refine⟨f.1, ?_⟩;intro m h1 h2;obtain⟨g1,g2⟩:=Z0U (h.P.getD j X).S (h.P.drop (j+1)) (m-1) oq;grind
def Oq{h:Heap}(b:Z9 h=Y){j:Nat}(c:j<h.P.length)(a:(h.P.getD j X).K=1\/(h.P.getD j X).K=2):(j:Int)*h.C.pw+(h.P.getD j X).U<=h.C.pw*h.C.pg:=by
 have po:=B7 b;have pp:=Ew b c;rcases a with a|a;have:=Gb (i:=j) (j:=h.C.pg) (pw:=h.C.pw) oq oq;grind;obtain⟨t1,t2⟩:=Z5s b c a;have nu:=Z3O t1;have d:(j:Int)+need h.C (h.P.getD j X).U<=h.C.pg:=by(by_cases h1:need h.C (h.P.getD j X).U=1;omega;have:=(t2 (need h.C (h.P.getD j X).U-1).toNat oq oq).1;omega)
 have:=Lr d (show 0<=h.C.pw by omega);grind
def Di{h:Heap}(b:Z9 h=Y){i j:Nat}(d:i<j)(hj:j<h.P.length)(a:(h.P.getD i X).K=1\/(h.P.getD i X).K=2)(e:(h.P.getD j X).K≠3):(i:Int)*h.C.pw+(h.P.getD i X).U<=j*h.C.pw:=by
 have po:=B7 b;have pp:=Ew b (show i<h.P.length by omega);rcases a with a|a;have:=Gb (i:=i) (j:=j) (pw:=h.C.pw) oq oq;omega;obtain⟨t1,t2⟩:=Z5s b (show i<h.P.length by omega) a;have nu:=Z3O t1;have f:(i:Int)+need h.C (h.P.getD i X).U<=j:=by(by_cases c:(i:Int)+need h.C (h.P.getD i X).U<=j;exact c;have:=(t2 (j-i) oq oq).2;rw[show i+(j-i)=j by omega]at this;omega)
 have:=Lr f (show 0<=h.C.pw by omega);grind
def Dn{c:ZU}{i o:Int}(hv:Zm c=Y)(b:0<=i/\i<c.pg)(a:0<=o/\o<c.pw):Z4 c (4096+(i*c.pw+o))=(i,o,0):=by have hb:=BR.1 hv;have d:=Gb (i:=i) (j:=c.pg) (pw:=c.pw) b.2 oq;have h0:0<=i*c.pw:=Lo b.1 oq;rw[Ll c.pg]at d;unfold Z4;rw[if_pos hv,if_pos oq,show 4096+(i*c.pw+o)-4096=o+i*c.pw by omega,Int.add_mul_ediv_right _ _ oq,Int.add_mul_emod_self_right,Int.ediv_eq_zero_of_lt a.1 a.2,Int.emod_eq_of_lt a.1 a.2];simp
structure OnP (h:Heap) (j:Nat) (a:Int):Prop where
 k:(h.P.getD j X).K=1\/(h.P.getD j X).K=2
 lo:4096+j*h.C.pw<=a
 hi:a<4096+j*h.C.pw+h.C.pw
 of:(Z4 h.C a).1=j
 e:a+ZE h.W a<4096+j*h.C.pw+(h.P.getD j X).U
 z:(h.P.getD j X).K=2\/ZE h.W a+1<=h.C.pw
 at':(Zc h a).2=0
def Z84{h:Heap}{j:Nat}(r:Z9 h=Y)(u:j<h.P.length)(v:(h.P.getD j X).K=1\/(h.P.getD j X).K=2):∀(f:Nat) (o:Int) (l:List Int),0<=o->((h.P.getD j X).K=2->o=0)->Ep h j f o=Lb l -> (∀a∈l,OnP h j a/\4096+j*h.C.pw+o<=a)/\l.Pairwise (λa b=>a+ZE h.W a<b)
 |0,o,l,_,_,e=>by simp[Ep]at e;subst e;simp
 |f+1,o,l,y,h2,e=>by
  have po:=B7 r;have pp:=Ew r u;unfold Ep at e;have s:pg h (j:Int)=h.P.getD j X:=by simp[pg]
  rw[s]at e;split at e
  .rename_i ho;have p:o<h.C.pw:=by omega
   have d:Bf h j o=4096+(j*h.C.pw+o):=by grind[Bf,address,HT]
   have x:=Dn (c:=h.C) (i:=j) (o:=o) po.1 oq ⟨y,p⟩;split at e
   .rename_i g
    have k:=g
    rw[d]at k;have a1:Z1 (Z7 (Z5 h.W (4096+(j*h.C.pw+o))).1).1=ZE h.W (4096+(j*h.C.pw+o))+1:=by
     rw[Z1,if_pos (Mg _)];rfl
    have z:=Ch h.W (4096+(j*h.C.pw+o));have t:((h.P.getD j X).K=1->o+(ZE h.W (4096+(j*h.C.pw+o))+1)<=(h.P.getD j X).U)/\((h.P.getD j X).K=2->ZE h.W (4096+(j*h.C.pw+o))+1=(h.P.getD j X).U)/\Z1 (Zc h (4096+(j*h.C.pw+o))).1=ZE h.W (4096+(j*h.C.pw+o))+1:=by grind[Zc]
    have a0:OnP h j (Bf h j o):=by
     refine⟨v, ?_, ?_, ?_, ?_, ?_,g⟩
     .rw[d];omega
     .rw[d];omega
     .rw[d,x]
     .grind
     .grind
    split at e
    .grind
    .rename_i n;rw[Option.map_eq_some_iff]at e;obtain⟨m,w,rfl⟩:=e;rw[d,t.2.2]at w;obtain⟨i1,i2⟩:=Z84 r u v f _ m oq (λq=>absurd q n) w;grind[List.pairwise_cons]
   .cases e
  simp_all
def Z4E{h:Heap}(c:Z9 h=Y):∀(f i:Nat),i+f=h.P.length->(Cn h f i).1.Pairwise (λa b=>a+ZE h.W a<b)/\∀a∈(Cn h f i).1,∃j,i<=j/\j<h.P.length/\OnP h j a
 |0,i,_=>by simp[Cn]
 |f+1,i,hf=>by
  have e:=Z4E c f (i+1) oq;have d:(Zh h i).1.Pairwise (λa b=>a+ZE h.W a<b)/\∀a∈(Zh h i).1,OnP h i a:=by
   unfold Zh;rw[if_pos c,if_pos oq];have o:pg h (i:Int)=h.P.getD i X:=by simp[pg]
   rw[o];split
   .simp
   .rename_i hk;cases hw:Ep h i 256 0 with
    |none=>simp
    |some l =>
     have pp:=Ew c (show i<h.P.length by omega);obtain⟨w1,w2⟩:=Z84 c (show i<h.P.length by omega) oq 256 0 l oq (λ_=>rfl) hw;grind
  unfold Cn;split
  .split
   .simp only;constructor
    .rw[List.pairwise_append];refine⟨d.1,e.1,λa m b n=>?_⟩;have g:=d.2 a m;obtain⟨j,j1,p,k⟩:=e.2 b n;have:=Di c (show i<j by omega) p g.k (by have:=k.k;omega);have:=g.e;have:=k.lo;omega
    grind
   .simp
  .simp
def Z4g{h:Heap}(n:Z9 h=Y):(∀a∈(Zt h).1,∃j,j<h.P.length/\OnP h j a)/\∀a∈(Zt h).1,∀b∈(Zt h).1,a<b->a+ZE h.W a<b:=by
 have d:=Z4E n h.P.length 0 oq;have e:CH h=Cn h h.P.length 0:=by grind[CH]
 rw[<-e]at d;have f:∀a∈(Zt h).1,∃j,j<h.P.length/\OnP h j a:=by(intro a c;obtain⟨j,_,q,o⟩:=d.2 a (List.mem_filter.1 c).1;exact⟨j,q,o⟩)
 refine⟨f, ?_⟩;have p:(Zt h).1.Pairwise (λa b=>a+ZE h.W a<b):=List.Pairwise.filter _ d.1;intro a c b l g;obtain⟨i,hi,ei⟩:=Ly.1 c;obtain⟨k,hk,ek⟩:=Ly.1 l;have m:=Ch h.W b;grind[List.pairwise_iff_getElem]
def SE{h:Heap}(c:Z9 h=Y):BM (Zv h):=by
 have q:=B7 c;have e:=Z4g c;have k:∀j,((h.P.map (Zs (1-h.S))).getD j X).K=(h.P.getD j X).K/\((h.P.map (Zs (1-h.S))).getD j X).U=(h.P.getD j X).U:=by grind[Zs]
 refine⟨q.2.2.2.2.2.1, ?_, ?_, ?_, ?_⟩;intro a b;simp only[Zv,LH]at b⊢;obtain⟨j,f,o⟩:=e.1 a b;have h1:=o.lo;have h2:=o.e;have h3:=Oq c f o.k;have h4:0<=(j:Int)*h.C.pw:=Lo oq oq;omega;grind[Zv];intro i hi g a b;simp only[Zv,LH,Lq,List.not_mem_nil,or_false]at hi g b⊢;rw[(k i).1]at g;have d:CX ((h.P.map (Zs (1-h.S))).getD i X)=0:=by grind[CX]
 rw[d];obtain⟨j,f,o⟩:=e.1 a b;have m:=o.k;have p:i≠j:=by grind
 by_cases n:i<j;have:=Gb (i:=i) (j:=j) (pw:=h.C.pw) oq oq;have:=o.lo;omega;have:=Di c (show j<i by omega) hi m oq;have:=o.e;omega;intro x l;simp only[Zv]at l⊢;obtain⟨j,f,o⟩:=e.1 x l;rw[o.of,Int.toNat_natCast,(k j).1];exact o.z
def RG{h:Heap}(f:Zz h.W)(b:Z9 h=Y):Bh (Zv h):=by
 have a:=B7 b;have ho:=AI h;have d:=Z3U h;have e:∀j,j<h.P.length->0<=((h.P.map (Zs (1-h.S))).getD j X).U/\((h.P.map (Zs (1-h.S))).getD j X).U<=1024:=by
  intro j c;have pp:=Ew b c;have:(h.P.map (Zs (1-h.S))).getD j X=Zs (1-h.S) (h.P.getD j X):=by grind
  rw[this,Zs];split;grind;omega
 refine⟨f,a.2.2.2.2.2.2.1,a.1,by grind[Zv],a.2.2.2.2.2.2.2.2,by grind[Zv],d,by simp[Zv],by simp[Zv],by simp[Zv],by grind[Zv], ?_,by simp[Zv],by simp[Zv],by simp[Zv],by simp[Zv]⟩;simp only[Zv,muW,List.length_nil];have h1:SA (Zt h).1 []<=(Zt h).1.length:=List.length_filter_le _ _;have h2:∀l:List Z0,(∀p∈l,Rz h.C.pw p<=64)->Nq h.C.pw l<=64*l.length:=by
  intro l;induction l with|nil=>grind[Nq]|cons p l ih =>grind[Nq]
 grind[Ly,Rz]
structure RH (c:ZU) (p:Z0):Prop where
 s:0<=p.S/\p.S<=1
 n:0<=p.N/\p.N<=2147483647
 k:0<=p.K/\p.K<=3
 k0:p.K=0->p.S=0/\p.U=0/\p.N=0
 k1:p.K=1->0<=p.U/\p.U<=c.pw
 k3:p.K=3->p.U=0/\p.N=0
structure PT (c:ZU) (l:List Z0):Prop where
 b:∀i,i<l.length->RH c (l.getD i X)
 lg:∀i,i<l.length->(l.getD i X).K=2->1<=need c (l.getD i X).U/\∀m:Nat,1<=m->(m:Int)<need c (l.getD i X).U->i+m<l.length/\(l.getD (i+m) X).K=3/\(l.getD (i+m) X).S=(l.getD i X).S
 tl:∀i,i<l.length->(l.getD i X).K=3->∃j,j<i/\(l.getD j X).K=2/\(i:Int)<j+need c (l.getD j X).U
def HD(c:ZU)(l:List Z0):Nat->Int|0=>0|i+1=>EI c l i (HD c l i)
def Z5O{c}{l:List Z0}:∀{f i:Nat},l.length<=i+f->(Gj c l f i (HD c l i)=Y↔∀j,i<=j->j<l.length->Gi c l j (HD c l j))
 |0,i,h=>by
  grind[Gj]
 |f+1,i,h=>by
  unfold Gj;by_cases hi:i<l.length
  .rw[if_pos hi,LA,decide_eq_true_eq,show EI c l i (HD c l i)=HD c l (i+1)from rfl,Z5O (f:=f) (i:=i+1) oq];grind
  grind
def Z18{c l}:∀i,0<=HD c l i->0<HD c l i->∃j,j<i/\(l.getD j X).K=2/\HD c l i=j+need c (l.getD j X).U-i
 |0,_,h=>by grind[HD]
 |i+1,h0,h=>by
  simp only[HD,EI]at h0 h⊢;split at h
  .grind
  .rename_i hk;have h1:1<HD c l i:=by omega
   obtain⟨j,j1,j2,j3⟩:=Z18 (c:=c) (l:=l) i oq oq;grind
def Z4X(sp:Int):∀(l:List Z0) (k:Nat),(∀m,m<k->m<l.length/\(l.getD m X).K=3/\(l.getD m X).S=sp)->k<=EK sp l
 |_,0,_=>Nat.zero_le _
 |[],k+1,h=>by grind
 |p::l,k+1,h=>by
  have a:=(h 0 oq).2;simp only[List.getD_cons_zero]at a;rw[EK,if_pos a];have:=Z4X sp l k λm hm=>by
   grind
  omega
def PT.due{c l}(h:PT c l){i:Nat}(hi:i<l.length)(a:(l.getD i X).K=2):∀m:Nat,(m:Int)<need c (l.getD i X).U->HD c l (i+1+m)=need c (l.getD i X).U-1-m
 |0,hm=>by
  grind[EI,HD]
 |m+1,hm=>by
  have ih:=h.due hi a m oq;have ht:=((h.lg i hi a).2 (m+1) oq hm).2.1;grind[EI,HD]
def Zex{c}{l:List Z0}(h:∀i,i<l.length->(l.getD i X).K=2->1<=need c (l.getD i X).U):∀i,i<=l.length->0<=HD c l i
 |0,_=>Int.le_refl _
 |i+1,hi=>by
  grind[HD,EI]
def Zbg{c l}:Gj c l l.length 0 0=Y↔PT c l:=by
 have e:=Z5O (c:=c) (l:=l) (f:=l.length) (i:=0) oq;rw[show HD c l 0=0 from rfl]at e;rw[e];constructor;intro h;have p:∀i,i<l.length->RH c (l.getD i X):=by(intro i hi;have q:=h i oq hi;unfold Gi at q;exact⟨⟨q.2.1,q.2.2.1⟩,⟨q.2.2.2.1,q.2.2.2.2.1⟩,⟨q.2.2.2.2.2.1,q.2.2.2.2.2.2.1⟩,q.2.2.2.2.2.2.2.1,q.2.2.2.2.2.2.2.2.1,q.2.2.2.2.2.2.2.2.2.2⟩)
 have t:∀i,i<l.length->(l.getD i X).K=2->1<=need c (l.getD i X).U/\∀m:Nat,1<=m->(m:Int)<need c (l.getD i X).U->i+m<l.length/\(l.getD (i+m) X).K=3/\(l.getD (i+m) X).S=(l.getD i X).S:=by
  intro i hi a;have q:=(h i oq hi).2.2.2.2.2.2.2.2.2.1 a;refine⟨q.1, ?_⟩;intro m h1 h2;obtain⟨n,g⟩:=Z0U (l.getD i X).S (l.drop (i+1)) (m-1) oq;have o:i+m<l.length:=by simp at n;omega
  have:(l.drop (i+1)).getD (m-1) X=l.getD (i+m) X:=by(rw[Lf,Lf,Lw,show i+1+(m-1)=i+m by omega])
  rw[this]at g;exact⟨o,g⟩
 refine⟨p,t, ?_⟩;intro i hi a;have q:=(h i oq hi).1.1 a;obtain⟨j,w,x,j3⟩:=Z18 (c:=c) (l:=l) i oq q;exact⟨j,w,x,by omega⟩;intro h j _ d;have b:=h.b j d;have s:=Zex (λi hi a=>(h.lg i hi a).1) j oq;refine⟨⟨?_, ?_⟩,b.s.1,b.s.2,b.n.1,b.n.2,b.k.1,b.k.2,b.k0,b.k1, ?_,b.k3⟩;intro a;obtain⟨i,v,i2,i3⟩:=h.tl j d a;have:=h.due (show i<l.length by omega) i2 (j-i-1) oq;rw[show i+1+(j-i-1)=j by omega]at this;omega;intro u;obtain⟨i,v,i2,i3⟩:=Z18 j s u;have:=((h.lg i oq i2).2 (j-i) oq oq).2.1;rw[show i+(j-i)=j by omega]at this;exact this;intro a;have q:=h.lg j d a;refine⟨q.1, ?_⟩;have:=Z4X (l.getD j X).S (l.drop (j+1)) (need c (l.getD j X).U-1).toNat λm hm=>by
  have r:=q.2 (m+1) oq oq;have k:(l.drop (j+1)).getD m X=l.getD (j+(m+1)) X:=by(rw[Lf,Lf,Lw,show j+1+m=j+(m+1) by omega])
  rw[k];exact⟨by simp;omega,r.2⟩
 omega
theorem HS{h:Heap}:Z9 h=Y↔Zm h.C=Y/\(h.W.length:Int)=h.C.pw*h.C.pg/\(h.P.length:Int)=h.C.pg/\(h.S=0\/h.S=1) /\ (h.B=-1\/(0<=h.B/\h.B<h.P.length/\(h.P.getD h.B.toNat X).K=1))/\PT h.C h.P:=by rw[Hl,Zbg]
def PT.setPage{c l}(h:PT c l){i:Nat}(hi:i<l.length)(hk:(l.getD i X).K=0\/(l.getD i X).K=1){p}(g:RH c p)(k:p.K=0\/p.K=1):PT c (l.set i p):=by refine⟨?_, ?_, ?_⟩;intro j b;rw[Ls]at b;rw[EH hi];split;exact g;exact h.b j b;intro j b e;rw[Ls]at b;rw[EH hi]at e⊢;by_cases d:i=j;grind;rw[if_neg d]at e⊢;have q:=h.lg j b e;grind;intro j b f;rw[Ls]at b;rw[EH hi]at f;by_cases d:i=j;grind;rw[if_neg d]at f;obtain⟨a,a1,a2,a3⟩:=h.tl j b f;grind
def PT.mapPages{c l}(h:PT c l)(f:Z0->Z0)(u:∀p,RH c p->RH c (f p))(n:∀p,RH c p->(f p).K=2->p.K=2/\(f p).U=p.U)(v:∀p,RH c p->(f p).K=3->p.K=3)(h4:∀p q,RH c p->RH c q->p.K=2->q.K=3->q.S=p.S->((f p).K=2↔(f q).K=3)/\((f p).K=2->(f q).S=(f p).S)):PT c (l.map f):=by
 have i:∀j,j<l.length->(l.map f).getD j X=f (l.getD j X):=by grind
 refine⟨?_, ?_, ?_⟩;intro j b;rw[Lq]at b;rw[i j b];exact u _ (h.b j b);intro j b d;rw[Lq]at b;rw[i j b]at d⊢;have q:=n _ (h.b j b) d;have r:=h.lg j b q.1;rw[q.2];refine⟨r.1,λm w x=>?_⟩;have s:=r.2 m w x;have t:=h4 _ _ (h.b j b) (h.b (j+m) s.1) q.1 s.2.1 s.2.2;grind;intro j b d;rw[Lq]at b;rw[i j b]at d;have q:=v _ (h.b j b) d;obtain⟨a,a1,k,o⟩:=h.tl j b q;have g:a<l.length:=by omega
 have s:=(h.lg a g k).2 (j-a) oq oq;rw[show a+(j-a)=j by omega]at s;have t:=h4 _ _ (h.b a g) (h.b j b) k s.2.1 s.2.2;have e:=t.1.2 d;refine⟨a,a1, ?_⟩;rw[i a g];exact⟨e,by rw[(n _ (h.b a g) e).2];exact o⟩
theorem Z6w{l:List Z0}{i k:Nat}{p q}(hk:1<=k)(h:i+k<=l.length)(j:Nat):(ZF l i k p q).getD j X=if j=i then p else if i<j/\j<i+k then q else l.getD j X:=by grind[Ni,ZF,M7]
def PT.took{c l}(h:PT c l){i k:Nat}{n sp:Int}(hk:1<=k)(hik:i+k<=l.length)(hf:∀j,j<k->(l.getD (i+j) X).K=0)(hn:need c n=k)(hs:sp=0\/sp=1):PT c (ZF l i k ⟨2,sp,n,0⟩ ⟨3,sp,0,0⟩):=by
 have hg:=Z6w (p:=⟨2,sp,n,0⟩) (q:=⟨3,sp,0,0⟩) hk hik;have hl:(ZF l i k ⟨2,sp,n,0⟩ ⟨3,sp,0,0⟩).length=l.length:=Z3E hik;have hf':∀j,i<=j->j<i+k->(l.getD j X).K=0:=λj h1 h2=>by(have:=hf (j-i) oq;grind)
 refine⟨?_, ?_, ?_⟩;intro j hj;rw[hl]at hj;rw[hg];split;exact⟨by grind,by simp,by simp,by simp,by simp,by simp⟩;split;exact⟨by grind,by simp,by simp,by simp,by simp,by simp⟩;exact h.b j hj;intro j hj hk2;rw[hl]at hj⊢;simp only[hg]at hk2⊢;by_cases hji:j=i;grind;rw[if_neg hji]at hk2⊢;by_cases hr:i<j/\j<i+k;grind;rw[if_neg hr]at hk2⊢;have q:=h.lg j hj hk2;refine⟨q.1,λm h1 h2=>?_⟩;have r:=q.2 m h1 h2;have hne:¬ (i<=j+m/\j+m<i+k):=λhc=>by(grind)
 rw[if_neg oq,if_neg oq];exact r;intro j hj hk3;rw[hl]at hj;simp only[hg]at hk3⊢;by_cases hji:j=i;grind;rw[if_neg hji]at hk3;by_cases hr:i<j/\j<i+k;grind;rw[if_neg hr]at hk3;obtain⟨a,a1,a2,a3⟩:=h.tl j hj hk3;have hne:¬ (i<=a/\a<i+k):=λhc=>by(grind)
 refine⟨a,a1, ?_⟩;grind
theorem M1{l i}{n:Int}:Cw l i n=l.set i ⟨(l.getD i X).K,(l.getD i X).S,(l.getD i X).U+n,(l.getD i X).N⟩:=rfl
def TF{h:Heap}(hs:h.S=0\/h.S=1)(a:0<=first h.P 1)(n:Int):Cw (Ib h) (first h.P 1).toNat n=h.P.set (first h.P 1).toNat ⟨1,h.S,n,0⟩/\(h.P.getD (first h.P 1).toNat X).K=0/\(first h.P 1).toNat<h.P.length:=by obtain⟨f1,f2,f3,f4⟩:=Nm hs a;obtain⟨g1,g2,g3⟩:=HU a;grind[M1,Z0V,LK,Al]
structure Z02 (h:Heap) (n:Int) (h':Heap) (a:Int):Prop where
 pr:Z9 h'=Y
 c:h'.C=h.C
 w:h'.W=h.W
 l:h'.P.length=h.P.length
 sp:h'.S=h.S
 pin:∀p∈h'.P,p.N=0\/∃q∈h.P,p.N=q.N
 lo:4096<=a
 hi:a+n<=4096+h.W.length
def getD_in{l:List Z0}{i:Nat}(h:i<l.length):l.getD i X∈l:=by grind
def ZcI{h:Heap}{n:Int}(hp:Z9 h=Y)(hn:1<=n/\n<=h.C.pw)(e:(Bo h n).2.2=Y):Z02 h n (Bo h n).1 (Bo h n).2.1:=by
 have hp':=hp;rw[HS]at hp;obtain⟨p1,p2,p3,p4,p5,p6⟩:=hp;have hb:=BR.1 p1;by_cases hf:GH h n;have e7:Bo h n=(⟨h.C,h.W,Cw h.P h.B.toNat n,h.S,h.B⟩,4096+h.B*h.C.pw+(h.P.getD h.B.toNat X).U,Y):=by grind[Bo]
 unfold GH at hf;have hbi:h.B.toNat<h.P.length:=by omega
 have hk:(h.P.getD h.B.toNat X).K=1:=by omega
 have ok:=p6.b h.B.toNat hbi;have u:=ok.k1 hk;have ha:=Il p1 (i:=h.B) oq oq;have hio:=Gb (i:=h.B) (j:=h.C.pg) (pw:=h.C.pw) oq oq;rw[Ll h.C.pg]at hio;rw[e7];refine⟨?_,rfl,rfl,by simp[Cw],rfl, ?_,by grind,by grind⟩;rw[HS];refine⟨p1,p2,by simp[Cw,p3],p4, ?_, ?_⟩;grind[M1];exact p6.setPage hbi (Lc hk) ⟨ok.s,ok.n,ok.k,λq=>by grind,λ_=>by grind,λq=>by grind⟩ (Lc hk)
 .intro p hp;rcases Lu hp with hp|rfl;all_goals grind
 by_cases hg:0<=first h.P 1/\(Bw h.P:Int)<ZY h.C
 have e7:Bo h n=(⟨h.C,h.W,Cw (Ib h) (first h.P 1).toNat n,h.S,first h.P 1⟩,4096+first h.P 1*h.C.pw+((Ib h).getD (first h.P 1).toNat X).U,Y):=by grind[Bo]
 obtain⟨g1,g2,g3⟩:=TF p4 hg.1 n;have g4:=congrArg Z0.U (Nm p4 hg.1).2.2.2;simp only at g4;have ha:=Il p1 (i:=first h.P 1) oq oq;have hio:=Gb (i:=first h.P 1) (j:=h.C.pg) (pw:=h.C.pw) oq oq;rw[Ll h.C.pg]at hio;rw[e7,g1,g4];refine⟨?_,rfl,rfl,by simp,rfl, ?_,by grind,by grind⟩;rw[HS];refine⟨p1,p2,by simp[p3],p4, ?_, ?_⟩;grind;exact p6.setPage g3 (Le g2) ⟨by grind,by simp,by simp,by simp,λ_=>by grind,by simp⟩ (Lc rfl);grind;grind[Bo]
theorem ZdW{h:Heap}{n}(b:Z9 h=Y)(m:1<=need h.C n)(e:(BL h n (need h.C n)).2.2=Y):Z02 h n (BL h n (need h.C n)).1 (BL h n (need h.C n)).2.1:=by
 have q:=b;rw[HS]at b;obtain⟨i,p2,p3,p4,c,r⟩:=b;have hb:=BR.1 i;by_cases g:0<=first h.P (need h.C n)/\Bw h.P+need h.C n<=ZY h.C
 obtain⟨g1,g2,l⟩:=HU g.1;have el:(H7 h.C h.P (first h.P (need h.C n)) h.S n).1=ZF h.P (first h.P (need h.C n)).toNat (need h.C n).toNat ⟨2,h.S,n,0⟩ ⟨3,h.S,0,0⟩:=by grind[H7,EQ]
 have k:BL h n (need h.C n)=(⟨h.C,h.W,ZF h.P (first h.P (need h.C n)).toNat (need h.C n).toNat ⟨2,h.S,n,0⟩ ⟨3,h.S,0,0⟩,h.S,h.B⟩,4096+first h.P (need h.C n)*h.C.pw,Y):=by grind[BL]
 have f:∀j,j<(need h.C n).toNat->(h.P.getD ((first h.P (need h.C n)).toNat+j) X).K=0:=Al.1 l;have a:(ZF h.P (first h.P (need h.C n)).toNat (need h.C n).toNat ⟨2,h.S,n,0⟩ ⟨3,h.S,0,0⟩).length=h.P.length:=Z3E oq;have hu:=Z3O m;have h0:0<=first h.P (need h.C n)*h.C.pw:=Lo g.1 oq
 have d:=Lr (show first h.P (need h.C n)+need h.C n<=h.C.pg by omega) (show 0<=h.C.pw by omega);rw[LB,Ll h.C.pg]at d;rw[k];refine⟨?_,rfl,rfl,a,rfl, ?_,by grind,by grind⟩;rw[HS];refine⟨i,p2,by grind,p4, ?_, ?_⟩;simp only[a];rcases c with c|c;omega;refine Lc ⟨c.1,c.2.1, ?_⟩;have o:¬ ((first h.P (need h.C n)).toNat<=h.B.toNat/\h.B.toNat<(first h.P (need h.C n)).toNat+(need h.C n).toNat):=λhc=>by(have:=f (h.B.toNat-(first h.P (need h.C n)).toNat) oq;grind)
 grind[Z6w];exact r.took oq oq f oq p4
 .intro p b;rcases Lu b with b|rfl;all_goals grind[wr]
 grind[BL]
def Z9e{hd:Zo}(hv:ZV hd=Y)(a:0<=hd.map/\hd.map<=4294967295):Zz (BY hd)/\((BY hd).length:Int)=Z1 hd:=by have hb:=Zgm hv a.1 a.2;constructor;intro x hx;grind[BY,Zu];grind[Z1,BY]
def Z2l{h:Heap}{hd:Zo}(hw:Zz h.W)(p:0<=hd.map/\hd.map<=4294967295)(e:(Zd h hd).2.2=0) :Z9 h=Y/\BB h.C hd=Y/\Z02 h (Z1 hd) (El h hd).1 (El h hd).2.1/\(El h hd).2.2=Y/\(Zd h hd).2.1=(El h hd).2.1/\(Zd h hd).1={ (El h hd).1 with W:=(ZZ h.W (El h hd).2.1 (BY hd)).1}/\Z9 (Zd h hd).1=Y/\Zz (Zd h hd).1.W:=by
 unfold Zd at e;split at e;rename_i c1;split at e;rename_i c2;obtain⟨a1,k,a3,d,a5⟩:=TT c1.2;have po:=B7 c1.1;have a:Z02 h (Z1 hd) (El h hd).1 (El h hd).2.1:=by
  by_cases g:0<need h.C (Z1 hd);grind[El,ZdW];have m:El h hd=Bo h (Z1 hd):=by grind[El]
  rw[m]at c2⊢;refine ZcI c1.1 ⟨k, ?_⟩ c2;unfold need at g d;split at d;rename_i n;rw[if_pos n]at g;split at d;omega;rename_i f;rw[if_neg f]at g;have e:=LD (Z1 hd+h.C.pw-1) h.C.pw;have r:(Z1 hd+h.C.pw-1)/h.C.pw=0:=by omega
  rw[r]at e;have:=LC (Z1 hd+h.C.pw-1) (b:=h.C.pw) oq;omega;omega
 have ho:=Z9e a1 p;have o:4096<=(El h hd).2.1/\(El h hd).2.1-4096+(BY hd).length<=h.W.length:=⟨a.lo,by have:=a.hi;omega⟩;have i:ZZ h.W (El h hd).2.1 (BY hd)=(C6 h.W ((El h hd).2.1-4096).toNat (BY hd),0):=by grind[ZZ]
 have c:(C6 h.W ((El h hd).2.1-4096).toNat (BY hd)).length=h.W.length:=Nx oq;have l:(B8 (El h hd).1 (El h hd).2.1 hd).1={ (El h hd).1 with W:=(ZZ h.W (El h hd).2.1 (BY hd)).1}:=by(rw[B8,if_pos ⟨a.pr,a1⟩,a.w,i];simp)
 have j:Zd h hd=((B8 (El h hd).1 (El h hd).2.1 hd).1,(El h hd).2.1,0):=by grind[Zd]
 refine⟨c1.1,c1.2,a,c2,by rw[j],by grind, ?_, ?_⟩;rw[j];simp only;rw[l,i];have q:=a.pr;rw[HS]at q⊢;refine⟨q.1, ?_,q.2.2.1,q.2.2.2.1,q.2.2.2.2.1,q.2.2.2.2.2⟩;simp only[c];have:=q.2.1;rw[a.w]at this;exact this;grind[OX];simp at e;simp at e
def Z1K{h a}(e:(Zc h a).2=0):4096<=a/\a+(Zc h a).1.length<4096+h.W.length:=by
 have k:=MN e;have i:=B7 k.1;have o:=Hg i.1 k.2.1;have f:(Z4 h.C a).1.toNat<h.P.length:=by omega
 have hk:(((Z4 h.C a).1.toNat:Nat):Int)=(Z4 h.C a).1:=by omega
 have b:=e;unfold Zc at b⊢;rw[if_pos k.1,if_pos k.2.1]at b⊢;split at b;rename_i c;split at b;simp at b;rename_i d;rw[if_pos c,if_neg d];have hv:ZV (Z7 (Z5 h.W a).1).1=Y:=Mg _;have hs:Z1 (Z7 (Z5 h.W a).1).1=(Z7 (Z5 h.W a).1).1.length+1:=by grind[Z1]
 have g:=(GC.1 hv).2.2.1;have ue:=Oq k.1 f c.1;grind;simp at b
def Zdz{h:Heap}{a i v:Int}(hw:Zz h.W)(hv:0<=v/\v<=18446744073709551615)(e:(Zy h a).2=0)(hi:0<=i/\i<(Zy h a).1.length):Ek h a i v=({h with W:=(Cj h.W (a+1+i) v).1},0)/\Z9 (Ek h a i v).1=Y/\Zz (Ek h a i v).1.W:=by have g:=Su e;have k:=Z1K g.2.1;grind[Gg,Z5,Ek,HS,Ts,Z0Z]
def Cb(w:Z8)(r:Int):Int:=if r∈w.Q then r else(ZQ (Z5 w.j.W r).1).1
def Z4d(w:Z8)(r:Int)(b:Zz w.j.W)(hl:w.j.W.length<=4096)(hq:w.Q.length<=1048576)(h0:0<=r/\r<=18446744073709551615):GP 93 [w.av,uU r] Y (uU (Cb w r)) []:=by have h1:=EW b r;rcases bb (O (r∈w.Q))with hc0|hc0<;>have a:=hc0<;>simp only[bs]at a;refine Zb [((12:Nat),[Hint.call Y (bL (O (r∈w.Q))) [],Hint.br Y])] [] [] dd func93 [Y] (φ:=GP 44 [Z2 w.Q,uU r] Y (bL (O (r∈w.Q))) []/\O (r∈w.Q)=Y/\r=Cb w r) ?_ kr kr;grind[Ei,Cb];refine Zb [((12:Nat),[Hint.call Y (bL (O (r∈w.Q))) [],Hint.br M]),((19:Nat),[Hint.call Y (AV.tu [uU (Z5 w.j.W r).1,nI (Z5 w.j.W r).2]) []]),((24:Nat),[Hint.call Y (AV.tu [uU (ZQ (Z5 w.j.W r).1).1,bL (ZQ (Z5 w.j.W r).1).2]) []])] [] [] dd func93 [Y] (φ:=GP 44 [Z2 w.Q,uU r] Y (bL (O (r∈w.Q))) []/\O (r∈w.Q)=M/\GP 110 [Z2 w.j.W,uU r] Y (AV.tu [uU (Z5 w.j.W r).1,nI (Z5 w.j.W r).2]) []/\GP 149 [uU (Z5 w.j.W r).1] Y (AV.tu [uU (ZQ (Z5 w.j.W r).1).1,bL (ZQ (Z5 w.j.W r).1).2]) []/\(ZQ (Z5 w.j.W r).1).1=Cb w r) ?_ kr kr;grind[Ei,HV,AG,Cb]
def Zkk(w:Z8)(a:Int)(b:Zz w.j.W)(h1:w.j.W.length<=4096)(h0:0<=a/\a<=18446744073709551615):GP 151 [w.av,uU a] Y (Zx w a).av []:=by have h2:=EW b a;refine Zb [((14:Nat),[Hint.call Y (AV.tu [uU (Z5 w.j.W a).1,nI (Z5 w.j.W a).2]) []]),((19:Nat),[Hint.call Y (AV.tu [(Z7 (Z5 w.j.W a).1).1.av,bL (Z7 (Z5 w.j.W a).1).2]) []])] [] [] dd func151 [] (φ:=GP 110 [Z2 w.j.W,uU a] Y (AV.tu [uU (Z5 w.j.W a).1,nI (Z5 w.j.W a).2]) []/\GP 111 [uU (Z5 w.j.W a).1] Y (AV.tu [(Z7 (Z5 w.j.W a).1).1.av,bL (Z7 (Z5 w.j.W a).1).2]) []) ?_ kr kr;grind[HV,Aw]
def GQ(w:Z8)(x:Int):Z8:=if ZR w (Z4 w.j.C x).1=Y/\x∉w.Q then⟨⟨w.j.C,(ZZ w.j.W x (BY ⟨0,(Zx w x).length,0⟩)).1,w.j.P,w.j.S,w.j.B⟩,w.old,w.T,w.Q,w.D,⟨w.rep.copied,w.rep.kept,w.rep.filled+1,w.rep.freed,w.rep.cleared,w.rep.steps⟩⟩else w
def Co(w:Z8):Nat->Z8|0=>w|k+1=>GQ (Co w k) (w.old.getD k X)
def PH(w:Z8)(i:Nat):Tg:=⟨tm 84 [(1,.pt 8001 0 0),(2,.pt 8002 0 0),(3,nI i)],[(8002,.box 142 zW),(8001,.box 142 w.cells)],60⟩
structure FOk (w:Z8):Prop where
 W:Zz w.j.W
 wl:w.j.W.length<=4096
 pl:w.j.P.length<=64
 ol:w.old.length<=524288
 o:∀x∈w.old,0<=x/\x<=8192
 tl:w.T.length<=1000000
 ql:w.Q.length<=1000000
def Bh.fok{w}(h:Bh w):FOk w:=by have h1:=h.mu;have h2:=h.tl;have h3:=h.pl;have h4:=BR.1 h.C;exact⟨h.W,h.wl,by omega,h.ol,h.o,by omega,by omega⟩
theorem Dl{n:Int}(h:0<=n/\n<=255):Zu ⟨0,n,0⟩=(1+16*n,0):=by grind[GC,Zu]
section
variable(w:Z8)(i:Nat)(hw:FOk w)(hi:i<w.old.length)(hr:0<=w.rep.filled/\w.rep.filled<=1000000)
include hw hi hr
theorem Zle:CP (Zn Tryz.f95 0) (PH w i).st .nrm (PH (GQ w (w.old.getD i default)) (i+1)).st:=by
 have h1:=hw.W;have h2:=hw.wl;have h3:=hw.pl;have h4:=hw.ol;have h5:=hw.tl;have h6:=hw.ql;have hx:=hw.o _ (C1.2 ⟨i,hi,rfl⟩);have hm:=IT (Z5 w.j.W (w.old.getD i default)).1 (EW h1 _).1;have hh:0≤(Zx w (w.old.getD i default)).length∧(Zx w (w.old.getD i default)).length≤255:=Ch w.j.W (w.old.getD i default);have he:=Dl hh;by_cases c1:ZR w (Z4 w.j.C (w.old.getD i default)).1=true
 ·by_cases c2:w.old.getD i default∈w.Q
  ·have e7:GQ w (w.old.getD i default)=w:=by grind[GQ]
   rw[e7];refine Zi [((13:Nat),[Hint.int (↑w.old.length:Int)]),((14:Nat),[Hint.br true]),((24:Nat),[Hint.el (wD (w.old.getD i default))]),((26:Nat),[Hint.call true (Bc w.j.C (w.old.getD i default)) []]),((32:Nat),[Hint.call true (bL (ZR w (Z4 w.j.C (w.old.getD i default)).fst)) []]),((40:Nat),[Hint.el (wD (w.old.getD i default))]),((42:Nat),[Hint.call true (bL (decide (w.old.getD i default∈w.Q))) []]),((43:Nat),[Hint.br true]),((16:Nat),[Hint.int (↑(i+(1:Nat)):Int)])] [] [] [] (φ:=(↑(List.map wD w.old).length:Int)=(↑w.old.length:Int)∧decide ((↑i:Int)<(↑w.old.length:Int))=true∧true=true∧((0:Int)≤(↑i:Int)∧(List.map wD w.old)[(↑i:Int).toNat]?=some (wD (w.old.getD i default)))∧GP 109 [w.j.C.av,uU (w.old.getD i default)] true (Bc w.j.C (w.old.getD i default)) []∧GP 150 [w.av,nI (Z4 w.j.C (w.old.getD i default)).fst] true (bL (ZR w (Z4 w.j.C (w.old.getD i default)).fst)) []∧((!!ZR w (Z4 w.j.C (w.old.getD i default)).fst)=true→(0:Int)≤(↑i:Int)∧(List.map wD w.old)[(↑i:Int).toNat]?=some (wD (w.old.getD i default)))∧((!!ZR w (Z4 w.j.C (w.old.getD i default)).fst)=true→GP 44 [Z2 w.Q,uU (w.old.getD i default)] true (bL (decide (w.old.getD i default∈w.Q))) [])∧(!ZR w (Z4 w.j.C (w.old.getD i default)).fst||decide (w.old.getD i default∈w.Q))=true∧true=true∧IntKind.i64.wrap ((↑i:Int)+(1:Int))=(↑(i+(1:Nat)):Int)) ?_ kr kr kr;exact⟨(by grind),(by grind),rfl,(by grind),(@Hn (w.j.C) (w.old.getD i default) oq oq),(@Ap (w) ((Z4 w.j.C (w.old.getD i default)).fst) oq oq),(by grind),(fun hg=>by(try simp only[bs]at hg);exact@Ei (w.Q) (w.old.getD i default) oq),(by grind),rfl,(by exact Zf rfl oq oq)⟩
  ·have e7:GQ w (w.old.getD i default)=⟨⟨w.j.C,(ZZ w.j.W (w.old.getD i default) (BY ⟨0,(Zx w (w.old.getD i default)).length,0⟩)).1,w.j.P,w.j.S,w.j.B⟩,w.old,w.T,w.Q,w.D,⟨w.rep.copied,w.rep.kept,w.rep.filled+1,w.rep.freed,w.rep.cleared,w.rep.steps⟩⟩:=by grind[GQ]
   rw[e7];refine Zi [((13:Nat),[Hint.int (↑w.old.length:Int)]),((14:Nat),[Hint.br true]),((24:Nat),[Hint.el (wD (w.old.getD i default))]),((26:Nat),[Hint.call true (Bc w.j.C (w.old.getD i default)) []]),((32:Nat),[Hint.call true (bL (ZR w (Z4 w.j.C (w.old.getD i default)).fst)) []]),((40:Nat),[Hint.el (wD (w.old.getD i default))]),((42:Nat),[Hint.call true (bL (decide (w.old.getD i default∈w.Q))) []]),((43:Nat),[Hint.br false]),((48:Nat),[Hint.el (wD (w.old.getD i default))]),((50:Nat),[Hint.call true (Zx w (w.old.getD i default)).av []]),((55:Nat),[Hint.call true (AV.tu [uU (Zu (Zo.mk (0:Int) (Zx w (w.old.getD i default)).length (0:Int))).fst,nI (Zu (Zo.mk (0:Int) (Zx w (w.old.getD i default)).length (0:Int))).snd]) []]),((65:Nat),[Hint.el (wD (w.old.getD i default))]),((68:Nat),[Hint.els (List.map wD [(Zu (Zo.mk (0:Int) (Zx w (w.old.getD i default)).length (0:Int))).fst])]),((71:Nat),[Hint.els (List.map wD ([(Zu (Zo.mk (0:Int) (Zx w (w.old.getD i default)).length (0:Int))).fst]++List.replicate (Zx w (w.old.getD i default)).length.toNat (0:Int)))]),((72:Nat),[Hint.call true (AV.tu [Z2 (ZZ w.j.W (w.old.getD i default) ([(Zu (Zo.mk (0:Int) (Zx w (w.old.getD i default)).length (0:Int))).fst]++List.replicate (Zx w (w.old.getD i default)).length.toNat (0:Int))).fst,nI (ZZ w.j.W (w.old.getD i default) ([(Zu (Zo.mk (0:Int) (Zx w (w.old.getD i default)).length (0:Int))).fst]++List.replicate (Zx w (w.old.getD i default)).length.toNat (0:Int))).snd]) []]),((80:Nat),[Hint.int (w.rep.filled+(1:Int))]),((16:Nat),[Hint.int (↑(i+(1:Nat)):Int)])] [] [] [] (φ:=(↑(List.map wD w.old).length:Int)=(↑w.old.length:Int)∧decide ((↑i:Int)<(↑w.old.length:Int))=true∧true=true∧((0:Int)≤(↑i:Int)∧(List.map wD w.old)[(↑i:Int).toNat]?=some (wD (w.old.getD i default)))∧GP 109 [w.j.C.av,uU (w.old.getD i default)] true (Bc w.j.C (w.old.getD i default)) []∧GP 150 [w.av,nI (Z4 w.j.C (w.old.getD i default)).fst] true (bL (ZR w (Z4 w.j.C (w.old.getD i default)).fst)) []∧((!!ZR w (Z4 w.j.C (w.old.getD i default)).fst)=true→(0:Int)≤(↑i:Int)∧(List.map wD w.old)[(↑i:Int).toNat]?=some (wD (w.old.getD i default)))∧((!!ZR w (Z4 w.j.C (w.old.getD i default)).fst)=true→GP 44 [Z2 w.Q,uU (w.old.getD i default)] true (bL (decide (w.old.getD i default∈w.Q))) [])∧(!ZR w (Z4 w.j.C (w.old.getD i default)).fst||decide (w.old.getD i default∈w.Q))=false∧false=false∧((0:Int)≤(↑i:Int)∧(List.map wD w.old)[(↑i:Int).toNat]?=some (wD (w.old.getD i default)))∧GP 151 [w.av,uU (w.old.getD i default)] true (Zx w (w.old.getD i default)).av []∧GP 144 [(Zo.mk (0:Int) (Zx w (w.old.getD i default)).length (0:Int)).av] true (AV.tu [uU (Zu (Zo.mk (0:Int) (Zx w (w.old.getD i default)).length (0:Int))).fst,nI (Zu (Zo.mk (0:Int) (Zx w (w.old.getD i default)).length (0:Int))).snd]) []∧((0:Int)≤(↑i:Int)∧(List.map wD w.old)[(↑i:Int).toNat]?=some (wD (w.old.getD i default)))∧(List.replicate (1:Nat) [ZD (0:Int)]).set ((0:Nat),Operand.tmp (67:Nat)).fst [ZD (Zu (Zo.mk (0:Int) (Zx w (w.old.getD i default)).length (0:Int))).fst]=List.map wD [(Zu (Zo.mk (0:Int) (Zx w (w.old.getD i default)).length (0:Int))).fst]∧((0:Int)≤(Zx w (w.old.getD i default)).length∧(↑(List.map wD [(Zu (Zo.mk (0:Int) (Zx w (w.old.getD i default)).length (0:Int))).fst]).length:Int)+(Zx w (w.old.getD i default)).length≤(2:Int)^(30:Nat))∧List.map wD [(Zu (Zo.mk (0:Int) (Zx w (w.old.getD i default)).length (0:Int))).fst]++List.replicate (Zx w (w.old.getD i default)).length.toNat [ZD (0:Int)]=List.map wD ([(Zu (Zo.mk (0:Int) (Zx w (w.old.getD i default)).length (0:Int))).fst]++List.replicate (Zx w (w.old.getD i default)).length.toNat (0:Int))∧GP 145 [Z2 w.j.W,uU (w.old.getD i default),Z2 ([(Zu (Zo.mk (0:Int) (Zx w (w.old.getD i default)).length (0:Int))).fst]++List.replicate (Zx w (w.old.getD i default)).length.toNat (0:Int))] true (AV.tu [Z2 (ZZ w.j.W (w.old.getD i default) ([(Zu (Zo.mk (0:Int) (Zx w (w.old.getD i default)).length (0:Int))).fst]++List.replicate (Zx w (w.old.getD i default)).length.toNat (0:Int))).fst,nI (ZZ w.j.W (w.old.getD i default) ([(Zu (Zo.mk (0:Int) (Zx w (w.old.getD i default)).length (0:Int))).fst]++List.replicate (Zx w (w.old.getD i default)).length.toNat (0:Int))).snd]) []∧IntKind.i64.wrap (w.rep.filled+(1:Int))=w.rep.filled+(1:Int)∧IntKind.i64.wrap ((↑i:Int)+(1:Int))=(↑(i+(1:Nat)):Int)) ?_ kr kr kr;exact⟨(by grind),(by grind),rfl,(by grind),(@Hn (w.j.C) (w.old.getD i default) oq oq),(@Ap (w) ((Z4 w.j.C (w.old.getD i default)).fst) oq oq),(by grind),(fun hg=>by(try simp only[bs]at hg);exact@Ei (w.Q) (w.old.getD i default) oq),(by grind),rfl,(by grind),(@Zkk (w) (w.old.getD i default) aa aa oq),(@DL (Zo.mk (0:Int) (Zx w (w.old.getD i default)).length (0:Int)) (by grind)),(by grind),rfl,(by grind[BY]),(by simp[BY,List.map_take,List.map_drop,List.map_set,List.map_append,wD,iD]),(@Tq (w.j.W) ([(Zu (Zo.mk (0:Int) (Zx w (w.old.getD i default)).length (0:Int))).fst]++List.replicate (Zx w (w.old.getD i default)).length.toNat (0:Int)) (w.old.getD i default) oq oq (by grind[BY])),(by exact Zf rfl oq oq),(by exact Zf rfl oq oq)⟩
 ·have e7:GQ w (w.old.getD i default)=w:=by grind[GQ]
  rw[e7];refine Zi [((13:Nat),[Hint.int (↑w.old.length:Int)]),((14:Nat),[Hint.br true]),((24:Nat),[Hint.el (wD (w.old.getD i default))]),((26:Nat),[Hint.call true (Bc w.j.C (w.old.getD i default)) []]),((32:Nat),[Hint.call true (bL (ZR w (Z4 w.j.C (w.old.getD i default)).fst)) []]),((40:Nat),[Hint.el (wD (w.old.getD i default))]),((42:Nat),[Hint.call true (bL (decide (w.old.getD i default∈w.Q))) []]),((43:Nat),[Hint.br true]),((16:Nat),[Hint.int (↑(i+(1:Nat)):Int)])] [] [] [] (φ:=(↑(List.map wD w.old).length:Int)=(↑w.old.length:Int)∧decide ((↑i:Int)<(↑w.old.length:Int))=true∧true=true∧((0:Int)≤(↑i:Int)∧(List.map wD w.old)[(↑i:Int).toNat]?=some (wD (w.old.getD i default)))∧GP 109 [w.j.C.av,uU (w.old.getD i default)] true (Bc w.j.C (w.old.getD i default)) []∧GP 150 [w.av,nI (Z4 w.j.C (w.old.getD i default)).fst] true (bL (ZR w (Z4 w.j.C (w.old.getD i default)).fst)) []∧((!!ZR w (Z4 w.j.C (w.old.getD i default)).fst)=true→(0:Int)≤(↑i:Int)∧(List.map wD w.old)[(↑i:Int).toNat]?=some (wD (w.old.getD i default)))∧((!!ZR w (Z4 w.j.C (w.old.getD i default)).fst)=true→GP 44 [Z2 w.Q,uU (w.old.getD i default)] true (bL (decide (w.old.getD i default∈w.Q))) [])∧(!ZR w (Z4 w.j.C (w.old.getD i default)).fst||decide (w.old.getD i default∈w.Q))=true∧true=true∧IntKind.i64.wrap ((↑i:Int)+(1:Int))=(↑(i+(1:Nat)):Int)) ?_ kr kr kr;exact⟨(by grind),(by grind),rfl,(by grind),(@Hn (w.j.C) (w.old.getD i default) oq oq),(@Ap (w) ((Z4 w.j.C (w.old.getD i default)).fst) oq oq),(by grind),(fun hg=>by grind),(by grind),rfl,(by exact Zf rfl oq oq)⟩
end
theorem Zha w:CP (Zn f95 0) (PH w w.old.length).st (.ext 0) (Tg.st ⟨tm 84 [(1,.pt 8001 0 0),(2,.pt 8002 0 0)],[(8002,.box 142 zW),(8001,.box 142 w.cells)],60⟩):=by refine Zi [((13:Nat),[Hint.int (w.old.length:Int)]),((14:Nat),[Hint.br M])] [] [] [] (φ:=(↑(Z wD w.old).length:Int)=(w.old.length:Int)/\O ((w.old.length:Int)<(w.old.length:Int))=M/\M=M) ?_ kr kr kr;grind
def ZdM w(x:Int):∃l n,GQ w x=⟨⟨w.j.C,l,w.j.P,w.j.S,w.j.B⟩,w.old,w.T,w.Q,w.D,⟨w.rep.copied,w.rep.kept,n,w.rep.freed,w.rep.cleared,w.rep.steps⟩⟩/\l.length<=w.j.W.length/\(Zz w.j.W->Zz l)/\w.rep.filled<=n/\n<=w.rep.filled+1:=by unfold GQ;split;refine⟨_,_,rfl,Z39 _ _ _,λh=>OX h ?_ _,by omega,by omega⟩;intro y hy;have hh:0<=(Zx w x).length/\(Zx w x).length<=255:=Ch w.j.W x;grind[BY,Dl];grind
def I8 w(b:FOk w):∀k,FOk (Co w k)/\(Co w k).j.C=w.j.C/\(Co w k).j.P=w.j.P/\(Co w k).j.S=w.j.S/\(Co w k).j.B=w.j.B/\(Co w k).old=w.old/\(Co w k).T=w.T/\(Co w k).Q=w.Q/\(Co w k).rep.freed=w.rep.freed/\(Co w k).rep.cleared=w.rep.cleared/\w.rep.filled<=(Co w k).rep.filled/\(Co w k).rep.filled<=w.rep.filled+k
 |0=>⟨b,rfl,rfl,rfl,rfl,rfl,rfl,rfl,rfl,rfl,by simp[Co],by simp[Co]⟩
 |k+1=>by
  obtain⟨a,d,i2,i3,i4,h,i,j,i8,m,f,g⟩:=I8 w b k;obtain⟨l,n,e,e1,c,e3,e4⟩:=ZdM (Co w k) (w.old.getD k X);have:Co w (k+1)=_:=e;rw[this];have hl:=a.wl;exact⟨⟨c a.W,by grind,a.pl,a.ol,a.o,a.tl,a.ql⟩,d,i2,i3,i4,h,i,j,i8,m,by grind,by grind⟩
section
variable(w:Z8)(a:FOk w)(hr:w.rep.filled=0)
include a hr
theorem ZhX:CP (Zl f95 0) (Tg.st ⟨tm 84 [(1,.pt 8001 0 0),(2,.pt 8002 0 0),(3,nI 0)],[(8002,.box 142 zW),(8001,.box 142 w.cells)],60⟩) .nrm (Tg.st ⟨tm 84 [(1,.pt 8001 0 0),(2,.pt 8002 0 0)],[(8002,.box 142 zW),(8001,.box 142 (Co w w.old.length).cells)],60⟩):=by have b:=a.ol;refine Bs (S:=λk=>(PH (Co w k) k).st) w.old.length kr (λk hk=>?_) ?_;have h:=I8 w a k;grind[Zle,Co];have h:=I8 w a w.old.length;grind[Zha]
theorem Z5B:GP 95 [w.av] M (Co w w.old.length).av []:=by exact gF [] func95 []<|Fu (@ZhX w aa aa) Fz
end
def Ga(s:Int)(p:Z0):Prop:=p.K≠0/\p.S=s
instance (s:Int) (p:Z0):Decidable (Ga s p):=by unfold Ga;infer_instance
def Gu(s:Int)(p:Z0):Z0:=if Ga s p then⟨0,0,0,0⟩else p
def EA(pw s:Int)(l:List Z0)(ws:List Int):Nat->List Int|0=>ws|i+1=>if Ga s (l.getD i X)then C6 (EA pw s l ws i) (i*pw.toNat) (La pw.toNat 0)else EA pw s l ws i
def Ge(n s:Int)(l:List Z0):Nat->Int|0=>n|i+1=>if Ga s (l.getD i X)then Ge n s l i+1 else Ge n s l i
def Da(w:Z8)(a:List Z0)(ws:List Int)(n:Int)(i:Nat):Tg:=⟨tm 78 [(1,.pt 8001 0 0),(2,.pt 8002 0 0),(3,nI i)],[(8001,.box 142 [nI w.j.C.pw,nI w.j.C.pg,.ow 24017,.ow 16010,nI w.j.S,nI w.j.B,Z2 w.old,ZG w.T,Z2 w.Q,nI w.D,nI w.rep.copied,nI w.rep.kept,nI w.rep.filled,nI n,nI w.rep.cleared,nI w.rep.steps]),(24017,.arr 44 1 (ws.map wD)),(16010,.arr 79 4 (a.map Z0.dv)),(8002,.box 142 zW)],60⟩
theorem ZlA(w:Z8)(a:List Z0) ws n(i:Nat)(hl:a.length<=64)(hi:i<a.length)(c:¬ Ga w.j.S (a.getD i X)):CP (Zn f94 0) (Da w a ws n i).st .nrm (Da w a ws n (i+1)).st:=by unfold Ga at c;have d:¬ ((a.getD (i:Int).toNat X).K≠0/\(a.getD (i:Int).toNat X).S=w.j.S):=c;let b:=a.getD (i:Int).toNat X;exact sF [] []<|Fh 33 [.el b.dv]<|Fg 24 (by grind:(↑(Z Z0.dv a).length:Int)=(a.length:Int))<|Ft 25 (by grind:O ((i:Int)<(a.length:Int))=Y)<|Fa (by grind:0<=(i:Int)/\(i:Int).toNat<(Z Z0.dv a).length)<|Fa (by grind:(Z Z0.dv a)[(i:Int).toNat]?=Lb b.dv)<|Ft 44 (by grind:(b.K==0||b.S != w.j.S)=Y)<|Fx 27 i Fz
def TR(w:Z8)(a:List Z0)(ws:List Int)(n:Int)(i k:Nat):Tg:=⟨tm 78 [(1,.pt 8001 0 0),(2,.pt 8002 0 0),(3,nI i),(5,nI k)],[(8001,.box 142 [nI w.j.C.pw,nI w.j.C.pg,.ow 24017,.ow 16010,nI w.j.S,nI w.j.B,Z2 w.old,ZG w.T,Z2 w.Q,nI w.D,nI w.rep.copied,nI w.rep.kept,nI w.rep.filled,nI n,nI w.rep.cleared,nI w.rep.steps]),(16010,.arr 79 4 (a.map Z0.dv)),(24017,.arr 44 1 ((wr ws (La w.j.C.pw.toNat 0) (i*w.j.C.pw.toNat) k).map wD)),(8002,.box 142 zW)],64⟩
section
variable(w:Z8)(a:List Z0)(ws:List Int)(n:Int)(i k:Nat)(b:0<=w.j.C.pw/\w.j.C.pw<=64)(hi:i<=64)(hl:i*w.j.C.pw.toNat+w.j.C.pw.toNat<=ws.length)(c:ws.length<=4096)
include b hi hl c
theorem ZaQ(d:k<w.j.C.pw.toNat):CP (Zn f94 2) (TR w a ws n i k).st .nrm (TR w a ws n i (k+1)).st:=by
 have e:=Z01 (ws:=ws) (l:=La w.j.C.pw.toNat 0) (i:=i*w.j.C.pw.toNat) (k:=k) (by simpa using hl) (by simpa using d) (0:Int);rw[show(La w.j.C.pw.toNat (0:Int)).getD k 0=0 by grind]at e;have hn:=Ni (ws:=ws) (l:=La w.j.C.pw.toNat (0:Int)) (i:=i*w.j.C.pw.toNat) (k:=k) (by simpa using hl) qo;have em:(i:Int)*w.j.C.pw=((i*w.j.C.pw.toNat:Nat):Int):=by grind
 have ei:(i:Int)*w.j.C.pw+k=((i*w.j.C.pw.toNat+k:Nat):Int):=by omega
 exact sF [] (fO 6)<|Fh 10076 [.els (Z wD ((wr ws (La w.j.C.pw.toNat 0) (i*w.j.C.pw.toNat) k).set (↑(i*w.j.C.pw.toNat+k):Int).toNat 0))]<|Ft 62 (by grind:O ((k:Int)<w.j.C.pw)=Y)<|Fi 73 ((i:Int)*w.j.C.pw)<|Fg 75 (by grind[E6]:Lm.wrap ((i:Int)*w.j.C.pw+(k:Int))=(↑(i*w.j.C.pw.toNat+k):Int))<|Fa (by grind:0<=(↑(i*w.j.C.pw.toNat+k):Int)/\(↑(i*w.j.C.pw.toNat+k):Int).toNat<(Z wD (wr ws (La w.j.C.pw.toNat 0) (i*w.j.C.pw.toNat) k)).length)<|Fa (by grind:(↑(i*w.j.C.pw.toNat+k):Int).toNat<(Z wD (wr ws (La w.j.C.pw.toNat 0) (i*w.j.C.pw.toNat) k)).length)<|Fa (by grind[Lx,wD]:(Z wD (wr ws (La w.j.C.pw.toNat 0) (i*w.j.C.pw.toNat) k)).set (↑(i*w.j.C.pw.toNat+k):Int).toNat [ZD 0]=Z wD ((wr ws (La w.j.C.pw.toNat 0) (i*w.j.C.pw.toNat) k).set (↑(i*w.j.C.pw.toNat+k):Int).toNat 0))<|Fx 64 k<|Fr (44:Int)<|Fa (by grind:Z wD ((wr ws (La w.j.C.pw.toNat 0) (i*w.j.C.pw.toNat) k).set (↑(i*w.j.C.pw.toNat+k):Int).toNat 0)=Z wD (wr ws (La w.j.C.pw.toNat 0) (i*w.j.C.pw.toNat) (k+1))) Fz
theorem ZcZ:CP (Zn f94 2) (TR w a ws n i w.j.C.pw.toNat).st (.ext 2) (Tg.st ⟨tm 78 [(1,.pt 8001 0 0),(2,.pt 8002 0 0),(3,nI i)],[(8001,.box 142 [nI w.j.C.pw,nI w.j.C.pg,.ow 24017,.ow 16010,nI w.j.S,nI w.j.B,Z2 w.old,ZG w.T,Z2 w.Q,nI w.D,nI w.rep.copied,nI w.rep.kept,nI w.rep.filled,nI n,nI w.rep.cleared,nI w.rep.steps]),(16010,.arr 79 4 (a.map Z0.dv)),(24017,.arr 44 1 ((C6 ws (i*w.j.C.pw.toNat) (La w.j.C.pw.toNat 0)).map wD)),(8002,.box 142 zW)],64⟩):=by have d:=TS ws (La w.j.C.pw.toNat (0:Int)) (i*w.j.C.pw.toNat);rw[List.length_replicate]at d;refine Zi [((62:Nat),[Hint.br M])] [] [] [M,M,M,M,M,Y] (φ:=O ((w.j.C.pw.toNat:Int)<w.j.C.pw)=M/\M=M/\(44:Int)=(44:Int)/\Z wD (wr ws (La w.j.C.pw.toNat (0:Int)) (i*w.j.C.pw.toNat) w.j.C.pw.toNat)=Z wD (C6 ws (i*w.j.C.pw.toNat) (La w.j.C.pw.toNat (0:Int)))) ?_ kr kr kr;grind
theorem ZkQ:CP (Zl f94 2) (Tg.st ⟨tm 78 [(1,.pt 8001 0 0),(2,.pt 8002 0 0),(3,nI i),(5,nI 0)],[(8001,.box 142 [nI w.j.C.pw,nI w.j.C.pg,.ow 24017,.ow 16010,nI w.j.S,nI w.j.B,Z2 w.old,ZG w.T,Z2 w.Q,nI w.D,nI w.rep.copied,nI w.rep.kept,nI w.rep.filled,nI n,nI w.rep.cleared,nI w.rep.steps]),(16010,.arr 79 4 (a.map Z0.dv)),(24017,.arr 44 1 (ws.map wD)),(8002,.box 142 zW)],64⟩) .nrm (Tg.st ⟨tm 78 [(1,.pt 8001 0 0),(2,.pt 8002 0 0),(3,nI i)],[(8001,.box 142 [nI w.j.C.pw,nI w.j.C.pg,.ow 24017,.ow 16010,nI w.j.S,nI w.j.B,Z2 w.old,ZG w.T,Z2 w.Q,nI w.D,nI w.rep.copied,nI w.rep.kept,nI w.rep.filled,nI n,nI w.rep.cleared,nI w.rep.steps]),(16010,.arr 79 4 (a.map Z0.dv)),(24017,.arr 44 1 ((C6 ws (i*w.j.C.pw.toNat) (La w.j.C.pw.toNat 0)).map wD)),(8002,.box 142 zW)],64⟩):=by have:=Bs (S:=λk=>(TR w a ws n i k).st) w.j.C.pw.toNat kr (λk d=>ZaQ w a ws n i k b hi hl c d) (ZcZ w a ws n i b hi hl c);grind[TR,Tc]
end
theorem Zlp(w:Z8)(a:List Z0)(ws:List Int)(n:Int)(i:Nat)(hl:a.length<=64)(hi:i<a.length)(b:Ga w.j.S (a.getD i X))(hp:0<=w.j.C.pw/\w.j.C.pw<=64)(hs:i*w.j.C.pw.toNat+w.j.C.pw.toNat<=ws.length)(hw:ws.length<=4096)(hn:0<=n/\n<=64):CP (Zn f94 0) (Da w a ws n i).st .nrm (Da w (a.set i ⟨0,0,0,0⟩) (C6 ws (i*w.j.C.pw.toNat) (La w.j.C.pw.toNat 0)) (n+1) (i+1)).st:=by unfold Ga at b;have c:(a.getD (i:Int).toNat X).K≠0/\(a.getD (i:Int).toNat X).S=w.j.S:=b;exact sF [] []<|Fh 33 [.el (a.getD (i:Int).toNat X).dv]<|Fh 10050 [.els (Z Z0.dv (a.set (i:Int).toNat (Z0.mk 0 0 0 0)))]<|Fg 24 (by grind:(↑(Z Z0.dv a).length:Int)=(a.length:Int))<|Ft 25 (by grind:O ((i:Int)<(a.length:Int))=Y)<|Fa (by grind:0<=(i:Int)/\(i:Int).toNat<(Z Z0.dv a).length)<|Fa (by grind:(Z Z0.dv a)[(i:Int).toNat]?=Lb (a.getD (i:Int).toNat X).dv)<|Ff 44 (by grind:((a.getD (i:Int).toNat X).K==0||(a.getD (i:Int).toNat X).S != w.j.S)=M)<|Fa (by grind:0<=(i:Int)/\(i:Int).toNat<(Z Z0.dv a).length)<|Fa (by grind:(i:Int).toNat<(Z Z0.dv a).length)<|Fa (by rw[Lx];rfl:(Z Z0.dv a).set (i:Int).toNat [Ze 0,Ze 0,Ze 0,Ze 0]=Z Z0.dv (a.set (i:Int).toNat (Z0.mk 0 0 0 0)))<|Fi 54 (n+1)<|Fu (@ZkQ w (a.set (i:Int).toNat (Z0.mk 0 0 0 0)) ws (n+1) i aa oq aa aa)<|Fx 27 i Fz
def TU{pw s:Int}{l:List Z0}{ws:List Int}(h:l.length*pw.toNat<=ws.length):∀i,i<=l.length->(EA pw s l ws i).length=ws.length
 |0,_=>rfl
 |i+1,hi=>by
  have ih:=TU (s:=s) h i oq;have hm:(i+1)*pw.toNat<=l.length*pw.toNat:=LL _ hi;grind[EA,Nx]
def Z0L(n s:Int) l:∀i:Nat,n<=Ge n s l i/\Ge n s l i<=n+i
 |0=>by simp[Ge]
 |i+1=>by
  have ih:=Z0L n s l i;grind[Ge]
def HZ(w:Z8):Z8:=⟨⟨w.j.C,EA w.j.C.pw w.j.S w.j.P w.j.W w.j.P.length,w.j.P.map (Gu w.j.S),w.j.S,w.j.B⟩,w.old,w.T,w.Q,w.D,⟨w.rep.copied,w.rep.kept,w.rep.filled,Ge w.rep.freed w.j.S w.j.P w.j.P.length,w.rep.cleared,w.rep.steps⟩⟩
def Zes w a ws n:CP (Zn f94 0) (Da w a ws n a.length).st (.ext 0) (Tg.st ⟨tm 78 [(1,.pt 8001 0 0),(2,.pt 8002 0 0)],[(8001,.box 142 [nI w.j.C.pw,nI w.j.C.pg,.ow 24017,.ow 16010,nI w.j.S,nI w.j.B,Z2 w.old,ZG w.T,Z2 w.Q,nI w.D,nI w.rep.copied,nI w.rep.kept,nI w.rep.filled,nI n,nI w.rep.cleared,nI w.rep.steps]),(24017,.arr 44 1 (ws.map wD)),(16010,.arr 79 4 (a.map Z0.dv)),(8002,.box 142 zW)],60⟩):=by refine Zi [((24:Nat),[Hint.int (a.length:Int)]),((25:Nat),[Hint.br M])] [] [] [] (φ:=(↑(Z Z0.dv a).length:Int)=(a.length:Int)/\O ((a.length:Int)<(a.length:Int))=M/\M=M) ?_ kr kr kr;grind
section
variable(w:Z8)(hl:w.j.P.length<=64)(hp:0<=w.j.C.pw/\w.j.C.pw<=64)(hs:w.j.P.length*w.j.C.pw.toNat<=w.j.W.length)(hw:w.j.W.length<=4096)(hr:w.rep.freed=0)
include hl hp hs hw hr
theorem Zaf:CP (Zl f94 0) (Tg.st ⟨tm 78 [(1,.pt 8001 0 0),(2,.pt 8002 0 0),(3,nI 0)],[(8001,.box 142 [nI w.j.C.pw,nI w.j.C.pg,.ow 24017,.ow 16010,nI w.j.S,nI w.j.B,Z2 w.old,ZG w.T,Z2 w.Q,nI w.D,nI w.rep.copied,nI w.rep.kept,nI w.rep.filled,nI w.rep.freed,nI w.rep.cleared,nI w.rep.steps]),(24017,.arr 44 1 (w.j.W.map wD)),(16010,.arr 79 4 (w.j.P.map Z0.dv)),(8002,.box 142 zW)],60⟩) .nrm (Tg.st ⟨tm 78 [(1,.pt 8001 0 0),(2,.pt 8002 0 0)],[(8001,.box 142 [nI w.j.C.pw,nI w.j.C.pg,.ow 24017,.ow 16010,nI w.j.S,nI w.j.B,Z2 w.old,ZG w.T,Z2 w.Q,nI w.D,nI w.rep.copied,nI w.rep.kept,nI w.rep.filled,nI (Ge w.rep.freed w.j.S w.j.P w.j.P.length),nI w.rep.cleared,nI w.rep.steps]),(24017,.arr 44 1 ((EA w.j.C.pw w.j.S w.j.P w.j.W w.j.P.length).map wD)),(16010,.arr 79 4 ((w.j.P.map (Gu w.j.S)).map Z0.dv)),(8002,.box 142 zW)],60⟩):=by
 refine Bs (S:=λk=>(Da w (Zq (Gu w.j.S) w.j.P k) (EA w.j.C.pw w.j.S w.j.P w.j.W k) (Ge w.rep.freed w.j.S w.j.P k) k).st) w.j.P.length kr (λk b=>?_) ?_;have h1:=Ry (Gu w.j.S) w.j.P k;have h2:=Tw (Gu w.j.S) w.j.P (Lh k) X;have h3:=TU (s:=w.j.S) hs k oq;have h4:=Z0L w.rep.freed w.j.S w.j.P k;by_cases e:Ga w.j.S (w.j.P.getD k X);have a:=Tn (Gu w.j.S) w.j.P b X;have c:EA w.j.C.pw w.j.S w.j.P w.j.W (k+1)=C6 (EA w.j.C.pw w.j.S w.j.P w.j.W k) (k*w.j.C.pw.toNat) (La w.j.C.pw.toNat 0):=by grind[EA]
 have d:Ge w.rep.freed w.j.S w.j.P (k+1)=Ge w.rep.freed w.j.S w.j.P k+1:=by grind[Ge]
 rw[Gu,if_pos e]at a;rw[<-a,c,d];have hm:(k+1)*w.j.C.pw.toNat<=w.j.P.length*w.j.C.pw.toNat:=LL _ b;grind[Zlp];grind[PK,Gu,EA,Ge,ZlA];have h:=Zes w (Zq (Gu w.j.S) w.j.P w.j.P.length) (EA w.j.C.pw w.j.S w.j.P w.j.W w.j.P.length) (Ge w.rep.freed w.j.S w.j.P w.j.P.length);grind[Oe]
theorem Z8F:GP 94 [w.av] M (HZ w).av []:=by have h1:=TU (s:=w.j.S) hs w.j.P.length (Lh _);have h2:=Z0L w.rep.freed w.j.S w.j.P w.j.P.length;refine Zb [((6:Nat),[Hint.els (Z Z0.dv [])]),((10:Nat),[Hint.els (Z Z0.dv w.j.P)]),((13:Nat),[Hint.els (Z wD [])]),((17:Nat),[Hint.els (Z wD w.j.W)])] [((0:Nat),Tg.mk (tm (78:Nat) [((1:Nat),AV.pt (8001:Nat) (0:Nat) (0:Nat)),((2:Nat),AV.pt (8002:Nat) (0:Nat) (0:Nat)),((3:Nat),nI (0:Int))]) [((8001:Nat),Z3.box 142 [nI w.j.C.pw,nI w.j.C.pg,AV.ow (24017:Nat),AV.ow (16010:Nat),nI w.j.S,nI w.j.B,Z2 w.old,ZG w.T,Z2 w.Q,nI w.D,nI w.rep.copied,nI w.rep.kept,nI w.rep.filled,nI w.rep.freed,nI w.rep.cleared,nI w.rep.steps]),((24017:Nat),Z3.arr 44 (1:Nat) (Z wD w.j.W)),((16010:Nat),Z3.arr 79 (4:Nat) (Z Z0.dv w.j.P)),((8002:Nat),Z3.box 142 [nI (0:Int),nI (0:Int),AV.d (DV.sl (0:Nat) []),AV.d (DV.sl (0:Nat) []),nI (0:Int),nI (0:Int),AV.d (DV.sl (0:Nat) []),AV.d (DV.sl (0:Nat) []),AV.d (DV.sl (0:Nat) []),nI (0:Int),nI (0:Int),nI (0:Int),nI (0:Int),nI (0:Int),nI (0:Int),nI (0:Int)])] (60:Nat),Ex.nrm,Tg.mk (tm (78:Nat) [((1:Nat),AV.pt (8001:Nat) (0:Nat) (0:Nat)),((2:Nat),AV.pt (8002:Nat) (0:Nat) (0:Nat))]) [((8001:Nat),Z3.box 142 [nI w.j.C.pw,nI w.j.C.pg,AV.ow (24017:Nat),AV.ow (16010:Nat),nI w.j.S,nI w.j.B,Z2 w.old,ZG w.T,Z2 w.Q,nI w.D,nI w.rep.copied,nI w.rep.kept,nI w.rep.filled,nI (Ge w.rep.freed w.j.S w.j.P w.j.P.length),nI w.rep.cleared,nI w.rep.steps]),((24017:Nat),Z3.arr 44 (1:Nat) (Z wD (EA w.j.C.pw w.j.S w.j.P w.j.W w.j.P.length))),((16010:Nat),Z3.arr 79 (4:Nat) (Z Z0.dv (Z (Gu w.j.S) w.j.P))),((8002:Nat),Z3.box 142 [nI (0:Int),nI (0:Int),AV.d (DV.sl (0:Nat) []),AV.d (DV.sl (0:Nat) []),nI (0:Int),nI (0:Int),AV.d (DV.sl (0:Nat) []),AV.d (DV.sl (0:Nat) []),AV.d (DV.sl (0:Nat) []),nI (0:Int),nI (0:Int),nI (0:Int),nI (0:Int),nI (0:Int),nI (0:Int),nI (0:Int)])] (60:Nat))] [] dd func94 [] (φ:=La (0:Nat) [Ze (0:Int),Ze (0:Int),Ze (0:Int),Ze (0:Int)]=Z Z0.dv []/\(Z Z0.dv []).length+(Z Z0.dv w.j.P).length<=(2:Nat)^(30:Nat)/\Z Z0.dv []++Z Z0.dv w.j.P=Z Z0.dv w.j.P/\La (0:Nat) [ZD (0:Int)]=Z wD []/\(Z wD []).length+(Z wD w.j.W).length<=(2:Nat)^(30:Nat)/\Z wD []++Z wD w.j.W=Z wD w.j.W/\CP (Zl f94 (0:Nat)) (Tg.mk (tm (78:Nat) [((1:Nat),AV.pt (8001:Nat) (0:Nat) (0:Nat)),((2:Nat),AV.pt (8002:Nat) (0:Nat) (0:Nat)),((3:Nat),nI (0:Int))]) [((8001:Nat),Z3.box 142 [nI w.j.C.pw,nI w.j.C.pg,AV.ow (24017:Nat),AV.ow (16010:Nat),nI w.j.S,nI w.j.B,Z2 w.old,ZG w.T,Z2 w.Q,nI w.D,nI w.rep.copied,nI w.rep.kept,nI w.rep.filled,nI w.rep.freed,nI w.rep.cleared,nI w.rep.steps]),((24017:Nat),Z3.arr 44 (1:Nat) (Z wD w.j.W)),((16010:Nat),Z3.arr 79 (4:Nat) (Z Z0.dv w.j.P)),((8002:Nat),Z3.box 142 [nI (0:Int),nI (0:Int),AV.d (DV.sl (0:Nat) []),AV.d (DV.sl (0:Nat) []),nI (0:Int),nI (0:Int),AV.d (DV.sl (0:Nat) []),AV.d (DV.sl (0:Nat) []),AV.d (DV.sl (0:Nat) []),nI (0:Int),nI (0:Int),nI (0:Int),nI (0:Int),nI (0:Int),nI (0:Int),nI (0:Int)])] (60:Nat)).st Ex.nrm (Tg.mk (tm (78:Nat) [((1:Nat),AV.pt (8001:Nat) (0:Nat) (0:Nat)),((2:Nat),AV.pt (8002:Nat) (0:Nat) (0:Nat))]) [((8001:Nat),Z3.box 142 [nI w.j.C.pw,nI w.j.C.pg,AV.ow (24017:Nat),AV.ow (16010:Nat),nI w.j.S,nI w.j.B,Z2 w.old,ZG w.T,Z2 w.Q,nI w.D,nI w.rep.copied,nI w.rep.kept,nI w.rep.filled,nI (Ge w.rep.freed w.j.S w.j.P w.j.P.length),nI w.rep.cleared,nI w.rep.steps]),((24017:Nat),Z3.arr 44 (1:Nat) (Z wD (EA w.j.C.pw w.j.S w.j.P w.j.W w.j.P.length))),((16010:Nat),Z3.arr 79 (4:Nat) (Z Z0.dv (Z (Gu w.j.S) w.j.P))),((8002:Nat),Z3.box 142 [nI (0:Int),nI (0:Int),AV.d (DV.sl (0:Nat) []),AV.d (DV.sl (0:Nat) []),nI (0:Int),nI (0:Int),AV.d (DV.sl (0:Nat) []),AV.d (DV.sl (0:Nat) []),AV.d (DV.sl (0:Nat) []),nI (0:Int),nI (0:Int),nI (0:Int),nI (0:Int),nI (0:Int),nI (0:Int),nI (0:Int)])] (60:Nat)).st) ?_ kr kr;grind[Zaf]
end
def Hb:GB:=⟨0,0,0,0,0,0⟩
def Z3J{h}{l:List Int}(e:ZB h l=Y):Bl h=⟨0,0,0⟩:=by simp only[ZB,LA,decide_eq_true_eq]at e;exact e.1
section
variable(h:Heap)(s k:List Int)(c:Zz h.W)(hs:s.length<=1048575)(hk:k.length<=1048575)(b:CR s)(a:CR k)
include c hs hk b a
theorem Zdv(hp:Z9 h=M):GP 37 [h.av,Z2 s,Z2 k] M (.tu [ZH.av,Z2 [],Z2 [],.ag Hb.cells,nI 1]) []:=by exact gF [] func37 []<|Fc 20 (@CS h)<|Ftb 21 (!Z9 h)<|Fnl (Fnl (Fnl (Fnl Fz)))
theorem Ze4(hp:Z9 h=Y)(d:ZB h s=M\/ZB h k=M):GP 37 [h.av,Z2 s,Z2 k] M (.tu [ZH.av,Z2 [],Z2 [],.ag Hb.cells,nI 19]) []:=by
 by_cases f:ZB h s=M;exact gF [] func37 []<|Fc 20 (@CS h)<|Ffb 21 (!Z9 h)<|Fc 26 (@G4 h s aa oq)<|FcG 31 (!!ZB h s) (λe=>by(try simp only[bs]at e);exact@Z4s h k aa (by(try simp only[bs]at e);grind[ZH,Hb]))<|Fts 33 (!ZB h s||Y)<|Fnl (Fnl (Fnl (Fnl Fz)));have h2:ZB h k=M:=by(rcases d with d|d;exact absurd d f;exact d)
 exact gF [] func37 []<|Fc 20 (@CS h)<|Ffb 21 (!Z9 h)<|Fc 26 (@G4 h s aa oq)<|FcG 31 (!!ZB h s) (λe=>by(try simp only[bs]at e);exact@G4 h k aa oq)<|Ftb 33 (!ZB h s||!ZB h k)<|Fnl (Fnl (Fnl (Fnl Fz)))
theorem ZfQ(f:Z9 h=Y)(g:ZB h s=Y)(i:ZB h k=Y)(e:¬ (rootsF (Zv h) s).2.2=0):GP 37 [h.av,Z2 s,Z2 k] M (.tu [ZH.av,Z2 [],Z2 [],.ag Hb.cells,nI (rootsF (Zv h) s).2.2]) []:=by have hb:=RG c f;have d:=Z3J g;exact gF [] func37 []<|Fc 20 (@CS h)<|Ffb 21 (!Z9 h)<|Fc 26 (@G4 h s aa oq)<|FcG 31 (!!ZB h s) (λd=>by(try simp only[bs]at d);exact@G4 h k aa oq)<|Ffs 33 (!ZB h s||!ZB h k)<|Fc 38 (@Pq h aa aa aa)<|Fc 44 (@Oj (Zv h) s aa aa aa)<|Ftb 49 ((rootsF (Zv h) s).2.2 != 0)<|Fnl (Fnl (Fnl (Fnl Fz)))
theorem Zf2(f:Z9 h=Y)(l:ZB h s=Y)(m:ZB h k=Y)(e:(rootsF (Zv h) s).2.2=0)(e2:¬ (Bz (rootsF (Zv h) s).1).2=0):GP 37 [h.av,Z2 s,Z2 k] M (.tu [ZH.av,Z2 [],Z2 [],.ag Hb.cells,nI (Bz (rootsF (Zv h) s).1).2]) []:=by have g:=RG c f;have hi:=SE f;have d:=Z3J l;have i:=A5 (roots:=s) g hi e;have j:=i.1;exact gF [] func37 []<|Fc 20 (@CS h)<|Ffb 21 (!Z9 h)<|Fc 26 (@G4 h s aa oq)<|FcG 31 (!!ZB h s) (λd=>by(try simp only[bs]at d);exact@G4 h k aa oq)<|Ffs 33 (!ZB h s||!ZB h k)<|Fc 38 (@Pq h aa aa aa)<|Fc 44 (@Oj (Zv h) s aa aa aa)<|Ffb 49 ((rootsF (Zv h) s).2.2 != 0)<|Fc 55 (@Z38 ((rootsF (Zv h) s).1) aa)<|Ftb 59 ((Bz (rootsF (Zv h) s).1).2 != 0)<|Fnl (Fnl (Fnl (Fnl Fz)))
end
def N0(w:Z8)(x:Int):Int:=if x=0 then 0 else Cb w x
def Hw(w:Z8)(x:Int):Z8:=⟨w.j,w.old,w.T,w.Q,w.D,⟨w.rep.copied,w.rep.kept,w.rep.filled,w.rep.freed,if x≠0/\Cb w x=0 then w.rep.cleared+1 else w.rep.cleared,w.rep.steps⟩⟩
def EG(w:Z8)(k:List Int):Nat->Z8|0=>w|i+1=>Hw (EG w k i) (k.getD i X)
def Cy(w:Z8)(k:List Int):Nat->List Int|0=>[]|i+1=>Cy w k i++[N0 (EG w k i) (k.getD i X)]
def Ae w k:∀i,(EG w k i).j=w.j/\(EG w k i).old=w.old/\(EG w k i).T=w.T/\(EG w k i).Q=w.Q/\(EG w k i).rep.filled=w.rep.filled/\(EG w k i).rep.freed=w.rep.freed/\w.rep.cleared<=(EG w k i).rep.cleared/\(EG w k i).rep.cleared<=w.rep.cleared+i
 |0=>⟨rfl,rfl,rfl,rfl,rfl,rfl,by simp[EG],by simp[EG]⟩
 |i+1=>by
  obtain⟨a,b,c,h4,d,e,h7,h8⟩:=Ae w k i;refine⟨a,b,c,h4,d,e, ?_, ?_⟩
  .simp only[EG,Hw];split<;>omega
  .simp only[EG,Hw];split<;>omega
theorem Z0A w k:∀i,(Cy w k i).length=i|0=>rfl|i+1=>by simp[Cy,Z0A w k i]
def Od(w:Z8)(k roots out:List Int)(i:Nat):Tg:=⟨tm 122 [(2,Z2 k),(6,.pt 8006 0 0),(7,.d (.sl 0 [])),(8,.d (.sl 0 [])),(9,.pt 8009 0 0),(10,nI 0),(11,.pt 32011 0 0),(13,Z2 roots),(15,.ow 72015),(16,nI i)],[(72015,.arr 44 1 (out.map wD)),(32011,.box 142 w.cells),(8009,.box 46 [nI 0,nI 0,nI 0,nI 0,nI 0,nI 0]),(8006,.box 27 [nI 0,nI 0,.d (.sl 0 []),.d (.sl 0 []),nI 0,nI 0])],60⟩
section
variable(w:Z8)(k roots out:List Int)(i:Nat)(hw:Zz w.j.W)(hl:w.j.W.length<=4096)(hq:w.Q.length<=1048576)(hk:k.length<=1048575)(hx:0<=k.getD i X/\k.getD i X<=18446744073709551615)(ho:out.length<=1048576)(hi:i<k.length)(hc:0<=w.rep.cleared/\w.rep.cleared<=2097152)
include hw hl hq hk hx ho hi hc
theorem ZgN:CP (Zn f37 0) (Od w k roots out i).st .nrm (Od (Hw w (k.getD i X)) k roots (out++[N0 w (k.getD i X)]) (i+1)).st:=by
 by_cases d:k.getD i X=0;have e:N0 w (k.getD i X)=0:=by rw[N0,if_pos d]
 have c:Hw w (k.getD i X)=w:=by rw[Hw,if_neg (by rintro⟨q,_⟩;exact q d)]
 rw[e,c];exact sF [(504091,72015)] []<|Fh 91 [.els (Z wD (out++[0]))]<|FN 65 66 71 wD k i<|Ffb 73 (k.getD i X != 0)<|Fs 90 (Z wD [0])<|Fa (by(simp[*];omega):(Z wD out).length+(Z wD [0]).length<=2^30)<|Fa (ms:Z wD out++Z wD [0]=Z wD (out++[0]))<|Fx 68 i Fz;have e:N0 w (k.getD i X)=Cb w (k.getD i X):=by rw[N0,if_neg d]
 rw[e];by_cases f:Cb w (k.getD i X)=0;have c:Hw w (k.getD i X)=⟨w.j,w.old,w.T,w.Q,w.D,⟨w.rep.copied,w.rep.kept,w.rep.filled,w.rep.freed,w.rep.cleared+1,w.rep.steps⟩⟩:=by rw[Hw,if_pos ⟨d,f⟩]
 rw[c];let a:=k.getD i X;exact sF [(528091,72015)] []<|Fh 91 [.els (Z wD (out++[Cb w a]))]<|FN 65 66 71 wD k i<|Ftb 73 (k.getD i X != 0)<|Fek 77 wD k (↑i) i<|Fc 79 (@Z4d w a aa aa aa aa)<|Ftb 81 (Cb w a==0)<|Fi 85 (w.rep.cleared+1)<|Fs 90 (Z wD [Cb w a])<|Fa (by(simp[*];omega):(Z wD out).length+(Z wD [Cb w a]).length<=2^30)<|Fa (ms:Z wD out++Z wD [Cb w a]=Z wD (out++[Cb w a]))<|Fx 68 i Fz;have c:Hw w (k.getD i X)=w:=by rw[Hw,if_neg (by rintro⟨_,q⟩;exact f q)]
 rw[c];let b:=k.getD i X;exact sF [(520091,72015)] []<|Fh 91 [.els (Z wD (out++[Cb w b]))]<|FN 65 66 71 wD k i<|Ftb 73 (k.getD i X != 0)<|Fek 77 wD k (↑i) i<|Fc 79 (@Z4d w b aa aa aa aa)<|Ffb 81 (Cb w b==0)<|Fs 90 (Z wD [Cb w b])<|Fa (by(simp[*];omega):(Z wD out).length+(Z wD [Cb w b]).length<=2^30)<|Fa (ms:Z wD out++Z wD [Cb w b]=Z wD (out++[Cb w b]))<|Fx 68 i Fz
end
def ZkL w k roots out:CP (Zn f37 0) (Od w k roots out k.length).st (.ext 0) (Tg.st ⟨tm 122 [(6,.pt 8006 0 0),(7,.d (.sl 0 [])),(8,.d (.sl 0 [])),(9,.pt 8009 0 0),(10,nI 0),(11,.pt 32011 0 0),(13,Z2 roots),(15,.ow 72015)],[(72015,.arr 44 1 (out.map wD)),(32011,.box 142 w.cells),(8009,.box 46 [nI 0,nI 0,nI 0,nI 0,nI 0,nI 0]),(8006,.box 27 [nI 0,nI 0,.d (.sl 0 []),.d (.sl 0 []),nI 0,nI 0])],60⟩):=by exact sF [] []<|FO 65 66 wD k Fz
def Z42(w:Z8)(k roots:List Int)(c:Zz w.j.W)(hl:w.j.W.length<=4096)(b:w.Q.length<=1048576)(a:k.length<=1048575)(d:CR k)(hc:w.rep.cleared=0):CP (Zl f37 0) (Od (EG w k 0) k roots (Cy w k 0) 0).st .nrm (Tg.st ⟨tm 122 [(6,.pt 8006 0 0),(7,.d (.sl 0 [])),(8,.d (.sl 0 [])),(9,.pt 8009 0 0),(10,nI 0),(11,.pt 32011 0 0),(13,Z2 roots),(15,.ow 72015)],[(72015,.arr 44 1 ((Cy w k k.length).map wD)),(32011,.box 142 (EG w k k.length).cells),(8009,.box 46 [nI 0,nI 0,nI 0,nI 0,nI 0,nI 0]),(8006,.box 27 [nI 0,nI 0,.d (.sl 0 []),.d (.sl 0 []),nI 0,nI 0])],60⟩):=by refine Bs (S:=λi=>(Od (EG w k i) k roots (Cy w k i) i).st) k.length kr (λi hi=>?_) (ZkL _ k roots _);have h:=Ae w k i;exact ZgN _ k roots _ i (by rw[h.1];exact c) (by rw[h.1];exact hl) (by rw[h.2.2.2.1];exact b) a (Af d i) (by rw[Z0A];omega) hi oq
abbrev cB(h:Heap)(s k:List Int):Z8:=EG (Bz (rootsF (Zv h) s).1).1 k k.length
abbrev cA(h:Heap)(s k:List Int):Z8:=Co (cB h s k) (cB h s k).old.length
def ZdB{n:Int}(h:0<=n/\n<=255):(Z7 (1+16*n)).1.length=n:=by
 have e:EM (1+16*n)=⟨0,n,0⟩:=by(simp only[EM,Zo.mk.injEq];omega)
 have a:=Dl h;unfold Z7;rw[e,a];simp
def ZdL{w:Z8}(h:BM w){x:Int}(hx:x∈w.old):BM (GQ w x):=by
 unfold GQ;split
 .rename_i hc;have hr:=h.r x (Lg _ hx);have hh:=Ch w.j.W x;have hl:(BY ⟨0,(Zx w x).length,0⟩).length=(ZE w.j.W x+1).toNat:=by
   show(BY ⟨0,ZE w.j.W x,0⟩).length=_;simp[BY];omega
  have hin:4096<=x/\x-4096+(BY ⟨0,(Zx w x).length,0⟩).length<=w.j.W.length:=by omega
  have hlen:(ZZ w.j.W x (BY ⟨0,(Zx w x).length,0⟩)).1.length=w.j.W.length:=by
   unfold ZZ;rw[if_pos hin];exact Nx oq
  have:=h.withWords hlen (λa ha=>?_)
  .exact⟨this.L,this.r,this.s,this.f,this.z⟩
  .by_cases he:a=x
   .subst he;have:ZE (ZZ w.j.W a (BY ⟨0,(Zx w a).length,0⟩)).1 a=ZE w.j.W a:=by
     have e1:=P3 (b:=a) hin oq;unfold ZE at *;rw[e1];have e2:(BY ⟨0,(Zx w a).length,0⟩).getD (a-a).toNat 0=1+16*(Z7 (Z5 w.j.W a).1).1.length:=by
      rw[LF];show(Zu ⟨0,(Zx w a).length,0⟩).1=_;rw[Dl (show 0<=(Zx w a).length/\(Zx w a).length<=255 from hh)];rfl
     rw[e2];exact ZdB hh
    omega
   .have s1:=h.s a ha x (Lg _ hx);have s2:=h.s x (Lg _ hx) a ha;have ha0:=Ch w.j.W a;have:ZE (ZZ w.j.W x (BY ⟨0,(Zx w x).length,0⟩)).1 a=ZE w.j.W a:=by
     have e1:=AW (b:=a) hin (by
      rcases Int.lt_or_lt_of_ne he with q|q
      .exact Le q
      .have:=s2 q;exact Lc oq)
     unfold ZE;rw[e1]
    omega
 .exact h
def Z7z{w}(a:FOk w)(h:BM w):∀k,k<=w.old.length->BM (Co w k)|0,_=>h|k+1,hk=>ZdL (Z7z a h k oq) (by rw[(I8 w a k).2.2.2.2.2.1];exact C1.2 ⟨k,by omega,rfl⟩)
def Z5m{w}(h:BM w) k:∀i,BM (EG w k i)
 |0=>h
 |i+1=>by
  have a:=Z5m h k i;exact⟨a.L,a.r,a.s,a.f,a.z⟩
def Z5E{w}(h:FOk w) k:∀i,FOk (EG w k i)
 |0=>h
 |i+1=>by
  have a:=Z5E h k i;exact⟨a.W,a.wl,a.pl,a.ol,a.o,a.tl,a.ql⟩
def B6(h:Heap)(s:List Int):Z8:=(Bz (rootsF (Zv h) s).1).1
def Cz(h:Heap)(s k:List Int):Z8:=EG (B6 h s) k k.length
def CI(h:Heap)(s k:List Int):Z8:=Co (Cz h s k) (Cz h s k).old.length
def ZI(h:Heap)(s k:List Int):Z8:=HZ (CI h s k)
def Bn(w:Z8):Heap:=⟨w.j.C,w.j.W,w.j.P,1-w.j.S,if 0<w.T.length then ZS w else -1⟩
structure COk (h:Heap) (s k:List Int):Prop where
 w2:Bh (B6 h s)
 i2:BM (B6 h s)
 x2:GD (Zv h) (B6 h s)
 f3:FOk (Cz h s k)
 i3:BM (Cz h s k)
 r3:(Cz h s k).rep.filled=0/\(Cz h s k).rep.freed=0
 f4:FOk (CI h s k)
 i4:BM (CI h s k)
 h4:(CI h s k).j.C=h.C/\(CI h s k).j.P=(B6 h s).j.P/\(CI h s k).j.S=(B6 h s).j.S/\(CI h s k).T=(B6 h s).T/\(CI h s k).rep.freed=0
section
variable(h:Heap)(s k:List Int)(d:Zz h.W)(a:Z9 h=Y)(e:(rootsF (Zv h) s).2.2=0)(b:(Bz (rootsF (Zv h) s).1).2=0)
include d a e b
theorem cOk:COk h s k:=by have u:=RG d a;have hi:=SE a;have f:=A5 (roots:=s) u hi e;have w2:Bh (B6 h s):=ZbR _ f.1 b;have i2:=ZlC f.1 f.2.1 b;have x2:GD (Zv h) (B6 h s):=f.2.2.1.trans i2.2;have f3:FOk (Cz h s k):=Z5E w2.fok k _;have i3:BM (Cz h s k):=Z5m i2.1 k _;obtain⟨a1,a2,g,a4,i,j,a7,a8⟩:=Ae (B6 h s) k k.length;have c:=w2.r0;have r3:(Cz h s k).rep.filled=0/\(Cz h s k).rep.freed=0:=⟨i.trans c.1,j.trans c.2.1⟩;obtain⟨l,m,p,q,b4,b5,r,b7,t,b9,n,o⟩:=I8 (Cz h s k) f3 (Cz h s k).old.length;refine⟨w2,i2.1,x2,f3,i3,r3,l,Z7z f3 i3 _ (Lh _), ?_, ?_, ?_, ?_, ?_⟩;show(Co (Cz h s k) (Cz h s k).old.length).j.C=_;rw[m];show(EG (B6 h s) k k.length).j.C=_;rw[a1];exact x2.c;show(Co (Cz h s k) (Cz h s k).old.length).j.P=_;rw[p];show(EG (B6 h s) k k.length).j.P=_;rw[a1];show(Co (Cz h s k) (Cz h s k).old.length).j.S=_;rw[q];show(EG (B6 h s) k k.length).j.S=_;rw[a1];show(Co (Cz h s k) (Cz h s k).old.length).T=_;rw[r];exact g;show(Co (Cz h s k) (Cz h s k).old.length).rep.freed=_;rw[t];exact r3.2
theorem Z3i:(CI h s k).j.P.length<=64/\0<=(CI h s k).j.C.pw/\(CI h s k).j.C.pw<=64/\(CI h s k).j.P.length*(CI h s k).j.C.pw.toNat<=(CI h s k).j.W.length/\(CI h s k).j.W.length<=4096:=by
 have c:=cOk h s k d a e b;have po:=B7 a;have hL:=c.i4.L;have f:=c.w2.pl;have g:=c.x2.c;have j:(B6 h s).j.C=h.C:=g;rw[j]at f;rw[c.h4.1]at hL;have i:=c.f4.wl;rw[c.h4.1,c.h4.2.1];refine⟨by omega,by omega,by omega, ?_,i⟩;have:(((B6 h s).j.P.length*h.C.pw.toNat:Nat):Int)=h.C.pw*h.C.pg:=by(rw[Int.natCast_mul,Int.toNat_of_nonneg oq,f,Ll])
 omega
end
def Zr(h:Heap)(s k:List Int):Heap×List Int×List Int×GB×Int:=
 if Z9 h=Y then
  (if ZB h s=Y/\ZB h k=Y then
   (if(rootsF (Zv h) s).2.2=0 then
    (if(Bz (rootsF (Zv h) s).1).2=0 then(Bn (ZI h s k),(rootsF (Zv h) s).2.1,Cy (B6 h s) k k.length,(ZI h s k).rep,0)
    else(ZH,[],[],Hb,(Bz (rootsF (Zv h) s).1).2))
   else(ZH,[],[],Hb,(rootsF (Zv h) s).2.2))
  else(ZH,[],[],Hb,19))
 else(ZH,[],[],Hb,1)
section
variable(h:Heap)(s k:List Int)(hw:Zz h.W)(hs:s.length<=1048575)(hk:k.length<=1048575)(hs2:CR s)(hk2:CR k)
include hw hs hk hs2 hk2
theorem Z2i(hp:Z9 h=Y)(hr:ZB h s=Y)(hr':ZB h k=Y)(e:(rootsF (Zv h) s).2.2=0)(e2:(Bz (rootsF (Zv h) s).1).2=0):GP 37 [h.av,Z2 s,Z2 k] M (.tu [(Bn (ZI h s k)).av,Z2 (rootsF (Zv h) s).2.1,Z2 (Cy (B6 h s) k k.length),.ag (ZI h s k).rep.cells,nI 0]) []:=by have hb:=RG hw hp;have hi:=SE hp;have hg:=Z3J hr;have ho:=A5 (roots:=s) hb hi e;have ho1:=ho.1;have ho4:=ho.2.2.2.2;have c:=cOk h s k hw hp e e2;obtain⟨q1,q2,q3,q4,q5⟩:=Z3i h s k hw hp e e2;have w2:=c.w2;have f3:=c.f3;have r3:=c.r3.1;obtain⟨g1,g2,g3,g4,g5⟩:=c.h4;have v1:=w2.W;have v2:=w2.wl;have v3:=w2.mu;have v4:=w2.tl;have v5:=w2.sp;have v6:=w2.r0.2.2;have v7:=congrArg LJ g4;have z1:(ZI h s k).T=(CI h s k).T:=rfl;have v8:=congrArg LJ z1;have z2:(ZI h s k).j.S=(CI h s k).j.S:=rfl;clear c;rcases bb (O (0<(↑(ZI h s k).T.length:Int)))with hc0|hc0<;>have hc0p:=hc0<;>simp only[bs]at hc0p;rw[show Bn (ZI h s k)=Heap.mk (ZI h s k).j.C (ZI h s k).j.W (ZI h s k).j.P ((1:Int)-(ZI h s k).j.S) ((ZI h s k).T.getD ((↑(ZI h s k).T.length:Int)-(1:Int)).toNat X)from by(simp only[Bn,ZS] ;exact sj)];refine Zb [((20:Nat),[Hint.call Y (bL (Z9 h)) []]),((21:Nat),[Hint.br M]),((26:Nat),[Hint.call Y (bL (ZB h s)) []]),((31:Nat),[Hint.call Y (bL (ZB h k)) []]),((33:Nat),[Hint.br M]),((38:Nat),[Hint.call M (AV.tu [(Zv h).av,nI (0:Int)]) []]),((44:Nat),[Hint.call M (AV.tu [(rootsF (Zv h) s).1.av,Z2 (rootsF (Zv h) s).2.1,nI (rootsF (Zv h) s).2.2]) []]),((49:Nat),[Hint.br M]),((55:Nat),[Hint.call M (AV.tu [(B6 h s).av,nI (Bz (rootsF (Zv h) s).1).2]) []]),((59:Nat),[Hint.br M]),((15:Nat),[Hint.own]),((93:Nat),[Hint.call M (CI h s k).av []]),((94:Nat),[Hint.call M (ZI h s k).av []]),((98:Nat),[Hint.int ((1:Int)-(ZI h s k).j.S)]),((105:Nat),[Hint.int (↑(ZI h s k).T.length:Int)]),((107:Nat),[Hint.br Y]),((111:Nat),[Hint.int ((↑(ZI h s k).T.length:Int)-(1:Int))]),((112:Nat),[Hint.el (iD ((ZI h s k).T.getD ((↑(ZI h s k).T.length:Int)-(1:Int)).toNat X))])] [((0:Nat),Tg.mk (tm (122:Nat) [((2:Nat),Z2 k),((6:Nat),AV.pt (8006:Nat) (0:Nat) (0:Nat)),((7:Nat),AV.d (DV.sl (0:Nat) [])),((8:Nat),AV.d (DV.sl (0:Nat) [])),((9:Nat),AV.pt (8009:Nat) (0:Nat) (0:Nat)),((10:Nat),nI (0:Int)),((11:Nat),AV.pt (32011:Nat) (0:Nat) (0:Nat)),((13:Nat),Z2 (rootsF (Zv h) s).2.1),((15:Nat),AV.ow (72015:Nat)),((16:Nat),nI (0:Int))]) [((72015:Nat),Z3.arr 44 (1:Nat) []),((32011:Nat),Z3.box 142 (B6 h s).cells),((8009:Nat),Z3.box 46 [nI (0:Int),nI (0:Int),nI (0:Int),nI (0:Int),nI (0:Int),nI (0:Int)]),((8006:Nat),Z3.box 27 [nI (0:Int),nI (0:Int),AV.d (DV.sl (0:Nat) []),AV.d (DV.sl (0:Nat) []),nI (0:Int),nI (0:Int)])] (60:Nat),Ex.nrm,Tg.mk (tm (122:Nat) [((6:Nat),AV.pt (8006:Nat) (0:Nat) (0:Nat)),((7:Nat),AV.d (DV.sl (0:Nat) [])),((8:Nat),AV.d (DV.sl (0:Nat) [])),((9:Nat),AV.pt (8009:Nat) (0:Nat) (0:Nat)),((10:Nat),nI (0:Int)),((11:Nat),AV.pt (32011:Nat) (0:Nat) (0:Nat)),((13:Nat),Z2 (rootsF (Zv h) s).2.1),((15:Nat),AV.ow (72015:Nat))]) [((72015:Nat),Z3.arr 44 (1:Nat) (Z wD (Cy (B6 h s) k k.length))),((32011:Nat),Z3.box 142 (Cz h s k).cells),((8009:Nat),Z3.box 46 [nI (0:Int),nI (0:Int),nI (0:Int),nI (0:Int),nI (0:Int),nI (0:Int)]),((8006:Nat),Z3.box 27 [nI (0:Int),nI (0:Int),AV.d (DV.sl (0:Nat) []),AV.d (DV.sl (0:Nat) []),nI (0:Int),nI (0:Int)])] (60:Nat))] [] dd func37 [] (φ:=GP 55 [h.av] Y (bL (Z9 h)) []/\(!Z9 h)=M/\M=M/\GP 36 [h.av,Z2 s] Y (bL (ZB h s)) []/\((!!ZB h s)=Y->GP 36 [h.av,Z2 k] Y (bL (ZB h k)) [])/\(!ZB h s||!ZB h k)=M/\M=M/\GP 90 [h.av] M (AV.tu [(Zv h).av,nI (0:Int)]) []/\GP 91 [(Zv h).av,Z2 s] M (AV.tu [(rootsF (Zv h) s).1.av,Z2 (rootsF (Zv h) s).2.1,nI (rootsF (Zv h) s).2.2]) []/\((rootsF (Zv h) s).2.2 != (0:Int))=M/\M=M/\GP 92 [(rootsF (Zv h) s).1.av] M (AV.tu [(B6 h s).av,nI (Bz (rootsF (Zv h) s).1).2]) []/\((Bz (rootsF (Zv h) s).1).2 != (0:Int))=M/\M=M/\CP (Zl f37 (0:Nat)) (Tg.mk (tm (122:Nat) [((2:Nat),Z2 k),((6:Nat),AV.pt (8006:Nat) (0:Nat) (0:Nat)),((7:Nat),AV.d (DV.sl (0:Nat) [])),((8:Nat),AV.d (DV.sl (0:Nat) [])),((9:Nat),AV.pt (8009:Nat) (0:Nat) (0:Nat)),((10:Nat),nI (0:Int)),((11:Nat),AV.pt (32011:Nat) (0:Nat) (0:Nat)),((13:Nat),Z2 (rootsF (Zv h) s).2.1),((15:Nat),AV.ow (72015:Nat)),((16:Nat),nI (0:Int))]) [((72015:Nat),Z3.arr 44 (1:Nat) []),((32011:Nat),Z3.box 142 (B6 h s).cells),((8009:Nat),Z3.box 46 [nI (0:Int),nI (0:Int),nI (0:Int),nI (0:Int),nI (0:Int),nI (0:Int)]),((8006:Nat),Z3.box 27 [nI (0:Int),nI (0:Int),AV.d (DV.sl (0:Nat) []),AV.d (DV.sl (0:Nat) []),nI (0:Int),nI (0:Int)])] (60:Nat)).st Ex.nrm (Tg.mk (tm (122:Nat) [((6:Nat),AV.pt (8006:Nat) (0:Nat) (0:Nat)),((7:Nat),AV.d (DV.sl (0:Nat) [])),((8:Nat),AV.d (DV.sl (0:Nat) [])),((9:Nat),AV.pt (8009:Nat) (0:Nat) (0:Nat)),((10:Nat),nI (0:Int)),((11:Nat),AV.pt (32011:Nat) (0:Nat) (0:Nat)),((13:Nat),Z2 (rootsF (Zv h) s).2.1),((15:Nat),AV.ow (72015:Nat))]) [((72015:Nat),Z3.arr 44 (1:Nat) (Z wD (Cy (B6 h s) k k.length))),((32011:Nat),Z3.box 142 (Cz h s k).cells),((8009:Nat),Z3.box 46 [nI (0:Int),nI (0:Int),nI (0:Int),nI (0:Int),nI (0:Int),nI (0:Int)]),((8006:Nat),Z3.box 27 [nI (0:Int),nI (0:Int),AV.d (DV.sl (0:Nat) []),AV.d (DV.sl (0:Nat) []),nI (0:Int),nI (0:Int)])] (60:Nat)).st/\GP 95 [(Cz h s k).av] M (CI h s k).av []/\GP 94 [(CI h s k).av] M (ZI h s k).av []/\Lm.wrap ((1:Int)-(ZI h s k).j.S)=(1:Int)-(ZI h s k).j.S/\(↑(Z iD (ZI h s k).T).length:Int)=(↑(ZI h s k).T.length:Int)/\O ((0:Int)<(↑(ZI h s k).T.length:Int))=Y/\Y=Y/\Lm.wrap ((↑(ZI h s k).T.length:Int)-(1:Int))=(↑(ZI h s k).T.length:Int)-(1:Int)/\(0:Int)<=(↑(ZI h s k).T.length:Int)-(1:Int)/\(Z iD (ZI h s k).T)[((↑(ZI h s k).T.length:Int)-(1:Int)).toNat]?=Lb (iD ((ZI h s k).T.getD ((↑(ZI h s k).T.length:Int)-(1:Int)).toNat X))) ?_ kr kr;exact⟨(@CS (h)),(by(simp only[bs];omega)),rfl,(@G4 (h) (s) aa oq),(λhg=>by(try simp only[bs]at hg);exact@G4 (h) (k) (by(try simp only[bs]at hg);assumption) (by(try simp only[bs]at hg);omega)),(by simp only[bs, *,true_or,or_true,true_and,and_true,not_true_eq_false,not_false_eq_true,Bool.true_eq_false,Bool.false_eq_true]),rfl,(@Pq (h) aa aa aa),(@Oj (Zv h) (s) aa aa aa),(by(simp only[bs];omega)),rfl,(@Z38 ((rootsF (Zv h) s).1) aa),(by(simp only[bs];omega)),rfl,(@Z42 (B6 h s) (k) ((rootsF (Zv h) s).2.1) aa aa oq aa aa aa),(@Z5B (Cz h s k) aa aa),(@Z8F (CI h s k) aa oq aa aa aa),(by exact Zf rfl oq oq),(by simp only[Lq]),aa,rfl,(by exact Zf rfl oq oq),(by exact Zp oq oq oq)⟩;rw[show Bn (ZI h s k)=Heap.mk (ZI h s k).j.C (ZI h s k).j.W (ZI h s k).j.P ((1:Int)-(ZI h s k).j.S) (-1:Int)from by rw[Bn,if_neg oq]];let y0:=rootsF (Zv h) s;exact gF [] func37 []<|Fh 15 [.own]<|Fc 20 (@CS h)<|Ffb 21 (!Z9 h)<|Fc 26 (@G4 h s aa oq)<|FcG 31 (!!ZB h s) (λhg=>by(try simp only[bs]at hg);exact@G4 h k aa oq)<|Ffs 33 (!ZB h s||!ZB h k)<|Fc 38 (@Pq h aa aa aa)<|Fc 44 (@Oj (Zv h) s aa aa aa)<|Ffb 49 (y0.2.2 != 0)<|Fc 55 (@Z38 (y0.1) aa)<|Ffb 59 ((Bz y0.1).2 != 0)<|Fu (@Z42 (B6 h s) k (y0.2.1) aa aa oq aa aa aa)<|Fc 93 (@Z5B (Cz h s k) aa aa)<|Fc 94 (@Z8F (CI h s k) aa oq aa aa aa)<|Fi 98 (1-(ZI h s k).j.S)<|Fl 105 iD (ZI h s k).T<|Ff 107 hc0 Fz
end
def Ss(w:Zg)(i:Nat)(n:Int):Zg:=⟨⟨w.j.C,w.j.W,w.j.P.set i ⟨(w.j.P.getD i X).K,(w.j.P.getD i X).S,(w.j.P.getD i X).U,(w.j.P.getD i X).N+n⟩,w.j.S,w.j.B⟩,w.G,w.E⟩
def Rb(w:Zg)(t:Tape):Nat:=(Z4 w.j.C (w.pick t)).1.toNat
def Zg.pin(w:Zg)(t:Tape):Zg:=
  if(Z4 w.j.C (w.pick t)).2.2=0 then
    (if 0<(w.j.P.getD (Rb w t) X).N/\(w.pickT t).next 2=0 then Ss w (Rb w t) (-1)
     else if 0<(w.j.P.getD (Rb w t) X).N\/(w.j.P.getD (Rb w t) X).K=2\/(crowd w.j.P:Int)<w.j.C.pg/4 then Ss w (Rb w t) 1 else w)else w
def Zg.pinT(w:Zg)(t:Tape):Tape:=if(Z4 w.j.C (w.pick t)).2.2=0/\0<(w.j.P.getD (Rb w t) X).N then(w.pickT t).step 2 else w.pickT t
def Zb1 w t(hw:SS w)(ht:C9 t)(ha:t.at'<=1000000)(hv:Zm w.j.C=Y)(hp:(w.j.P.length:Int)=w.j.C.pg)(hpn:∀j,j<w.j.P.length->-1048576<=(w.j.P.getD j X).N/\(w.j.P.getD j X).N<=4294967296):LP 63 [w.av,.pt 0 0 0] [t.b] (w.pin t).av [(w.pinT t).b]:=by
 have hb:=BR.1 hv;have s1:=Z2m w t;have k1:=G0 ht s1.2.2 oq oq;have p1:=Mx hw t;have q1:=hpn (Rb w t);have hcr:=Rr w.j.P w.j.P.length;unfold Rb at q1;have o1:=λe=>Hg (a:=w.pick t) hv e;by_cases e:(Z4 w.j.C (w.pick t)).2.2=0;have o2:=o1 e;by_cases c1:0<(w.j.P.getD (Z4 w.j.C (w.pick t)).1.toNat X).N
 .have eT:w.pinT t=(w.pickT t).step 2:=by rw[Zg.pinT,if_pos ⟨e,c1⟩]
  by_cases c2:(w.pickT t).next 2=0
  have eP:w.pin t=⟨⟨w.j.C,w.j.W,w.j.P.set (Z4 w.j.C (w.pick t)).1.toNat ⟨(w.j.P.getD (Z4 w.j.C (w.pick t)).1.toNat X).K,(w.j.P.getD (Z4 w.j.C (w.pick t)).1.toNat X).S,(w.j.P.getD (Z4 w.j.C (w.pick t)).1.toNat X).U,(w.j.P.getD (Z4 w.j.C (w.pick t)).1.toNat X).N-1⟩,w.j.S,w.j.B⟩,w.G,w.E⟩:=by rw[Zg.pin,if_pos e,if_pos ⟨c1,c2⟩];rfl
  rw[eP,eT];exact lF func63 []<|Fh 42 [.br Y]<|Fh 37 [.br Y]<|Fh 51 [.el (w.j.P.getD (Z4 w.j.C (w.pick t)).1.toNat X).dv]<|Fp 12 (@N2 w t aa aa oq)<|Fc 18 (@Hn w.j.C (w.pick t) oq oq)<|Ffb 23 ((Z4 w.j.C (w.pick t)).2.2 != 0)<|FA 25 29 Z0.dv w.j.P<|Fmq 41 Z0.dv w.j.P ((Z4 w.j.C (w.pick t)).1)<|Fb (O (0<(w.j.P.getD (Z4 w.j.C (w.pick t)).1.toNat X).N)=Y)<|Fp 45 (@BJ (w.pickT t) (2) aa oq oq)<|Fb (((w.pickT t).next (2:Int)==0)=Y)<|Fa (ZT oq:(Z Z0.dv w.j.P)[(Z4 w.j.C (w.pick t)).1.toNat]?=Lb (w.j.P.getD (Z4 w.j.C (w.pick t)).1.toNat X).dv)<|Fi 52 ((w.j.P.getD (Z4 w.j.C (w.pick t)).1.toNat X).N-1)<|Fa (ZT oq:(Z Z0.dv w.j.P)[(Z4 w.j.C (w.pick t)).1.toNat]?=Lb (w.j.P.getD (Z4 w.j.C (w.pick t)).1.toNat X).dv)<|FS 10054 Z0.dv w.j.P ((Z4 w.j.C (w.pick t)).1.toNat) (Z0.mk (w.j.P.getD (Z4 w.j.C (w.pick t)).1.toNat X).K (w.j.P.getD (Z4 w.j.C (w.pick t)).1.toNat X).S (w.j.P.getD (Z4 w.j.C (w.pick t)).1.toNat X).U ((w.j.P.getD (Z4 w.j.C (w.pick t)).1.toNat X).N-1)) ((w.j.P.getD (Z4 w.j.C (w.pick t)).1.toNat X).dv) Fz;have eP:w.pin t=⟨⟨w.j.C,w.j.W,w.j.P.set (Z4 w.j.C (w.pick t)).1.toNat ⟨(w.j.P.getD (Z4 w.j.C (w.pick t)).1.toNat X).K,(w.j.P.getD (Z4 w.j.C (w.pick t)).1.toNat X).S,(w.j.P.getD (Z4 w.j.C (w.pick t)).1.toNat X).U,(w.j.P.getD (Z4 w.j.C (w.pick t)).1.toNat X).N+1⟩,w.j.S,w.j.B⟩,w.G,w.E⟩:=by rw[Zg.pin,if_pos e,if_neg (λq=>c2 q.2),if_pos (.inl c1)];rfl
  rw[eP,eT];exact lF func63 []<|Fh 42 [.br Y]<|Fh 37 [.br M]<|Fh 59 [.el (w.j.P.getD (Z4 w.j.C (w.pick t)).1.toNat X).dv]<|Fh 65 [.el (w.j.P.getD (Z4 w.j.C (w.pick t)).1.toNat X).dv]<|Fh 76 [.int (w.j.C.pg/4)]<|Fh 55 [.br Y]<|Fh 82 [.el (w.j.P.getD (Z4 w.j.C (w.pick t)).1.toNat X).dv]<|Fp 12 (@N2 w t aa aa oq)<|Fc 18 (@Hn w.j.C (w.pick t) oq oq)<|Ffb 23 ((Z4 w.j.C (w.pick t)).2.2 != 0)<|FA 25 29 Z0.dv w.j.P<|Fmq 41 Z0.dv w.j.P ((Z4 w.j.C (w.pick t)).1)<|Fb (O (0<(w.j.P.getD (Z4 w.j.C (w.pick t)).1.toNat X).N)=Y)<|Fp 45 (@BJ (w.pickT t) (2) aa oq oq)<|Fb (((w.pickT t).next (2:Int)==0)=M)<|Fa (ZT oq:(Z Z0.dv w.j.P)[(Z4 w.j.C (w.pick t)).1.toNat]?=Lb (w.j.P.getD (Z4 w.j.C (w.pick t)).1.toNat X).dv)<|Fa (by intro hg;(try simp only[bs]at hg);exact ZT oq:(!decide (0<(w.j.P.getD (Z4 w.j.C (w.pick t)).1.toNat X).N))=Y->(Z Z0.dv w.j.P)[(Z4 w.j.C (w.pick t)).1.toNat]?=Lb (w.j.P.getD (Z4 w.j.C (w.pick t)).1.toNat X).dv)<|FcG 71 (!(O (0<(w.j.P.getD (Z4 w.j.C (w.pick t)).1.toNat X).N)||(w.j.P.getD (Z4 w.j.C (w.pick t)).1.toNat X).K==2)) (λhg=>by(try simp only[bs]at hg);exact@Z1J w.j oq)<|Fa (by intro hg;(try simp only[bs]at hg);rw[E6 oq oq];omega:(!(O (0<(w.j.P.getD (Z4 w.j.C (w.pick t)).1.toNat X).N)||(w.j.P.getD (Z4 w.j.C (w.pick t)).1.toNat X).K==2))=Y->Lm.wrap (w.j.C.pg.tdiv 4)=w.j.C.pg/4)<|Fa (by intro hg;(try simp only[bs]at hg);omega:(!(O (0<(w.j.P.getD (Z4 w.j.C (w.pick t)).1.toNat X).N)||(w.j.P.getD (Z4 w.j.C (w.pick t)).1.toNat X).K==2))=Y->(4:Int)=0->False)<|Fb ((O (0<(w.j.P.getD (Z4 w.j.C (w.pick t)).1.toNat X).N)||(w.j.P.getD (Z4 w.j.C (w.pick t)).1.toNat X).K==2||O ((↑(crowd w.j.P):Int)<w.j.C.pg/4))=Y)<|Fa (ZT oq:(Z Z0.dv w.j.P)[(Z4 w.j.C (w.pick t)).1.toNat]?=Lb (w.j.P.getD (Z4 w.j.C (w.pick t)).1.toNat X).dv)<|Fi 83 ((w.j.P.getD (Z4 w.j.C (w.pick t)).1.toNat X).N+1)<|Fa (ZT oq:(Z Z0.dv w.j.P)[(Z4 w.j.C (w.pick t)).1.toNat]?=Lb (w.j.P.getD (Z4 w.j.C (w.pick t)).1.toNat X).dv)<|FS 10085 Z0.dv w.j.P ((Z4 w.j.C (w.pick t)).1.toNat) (Z0.mk (w.j.P.getD (Z4 w.j.C (w.pick t)).1.toNat X).K (w.j.P.getD (Z4 w.j.C (w.pick t)).1.toNat X).S (w.j.P.getD (Z4 w.j.C (w.pick t)).1.toNat X).U ((w.j.P.getD (Z4 w.j.C (w.pick t)).1.toNat X).N+1)) ((w.j.P.getD (Z4 w.j.C (w.pick t)).1.toNat X).dv) Fz
 have eT:w.pinT t=w.pickT t:=by rw[Zg.pinT,if_neg (λq=>c1 q.2)]
 by_cases c3:(w.j.P.getD (Z4 w.j.C (w.pick t)).1.toNat X).K=2\/(crowd w.j.P:Int)<w.j.C.pg/4;have eP:w.pin t=⟨⟨w.j.C,w.j.W,w.j.P.set (Z4 w.j.C (w.pick t)).1.toNat ⟨(w.j.P.getD (Z4 w.j.C (w.pick t)).1.toNat X).K,(w.j.P.getD (Z4 w.j.C (w.pick t)).1.toNat X).S,(w.j.P.getD (Z4 w.j.C (w.pick t)).1.toNat X).U,(w.j.P.getD (Z4 w.j.C (w.pick t)).1.toNat X).N+1⟩,w.j.S,w.j.B⟩,w.G,w.E⟩:=by rw[Zg.pin,if_pos e,if_neg (λq=>c1 q.1),if_pos (.inr c3)];rfl
 rw[eP,eT];exact lF func63 []<|Fh 42 [.br M]<|Fh 45 [.bor [0] (nI ((w.pickT t).next 2)) [((w.pickT t).step 2).b]]<|Fh 59 [.el (w.j.P.getD (Z4 w.j.C (w.pick t)).1.toNat X).dv]<|Fh 65 [.el (w.j.P.getD (Z4 w.j.C (w.pick t)).1.toNat X).dv]<|Fh 76 [.int (w.j.C.pg/4)]<|Fh 55 [.br Y]<|Fh 82 [.el (w.j.P.getD (Z4 w.j.C (w.pick t)).1.toNat X).dv]<|Fp 12 (@N2 w t aa aa oq)<|Fc 18 (@Hn w.j.C (w.pick t) oq oq)<|Ffb 23 ((Z4 w.j.C (w.pick t)).2.2 != 0)<|FA 25 29 Z0.dv w.j.P<|Fmq 41 Z0.dv w.j.P ((Z4 w.j.C (w.pick t)).1)<|Fb (O (0<(w.j.P.getD (Z4 w.j.C (w.pick t)).1.toNat X).N)=M)<|Fa (ZT oq:(Z Z0.dv w.j.P)[(Z4 w.j.C (w.pick t)).1.toNat]?=Lb (w.j.P.getD (Z4 w.j.C (w.pick t)).1.toNat X).dv)<|Fa (by intro hg;(try simp only[bs]at hg);exact ZT oq:(!decide (0<(w.j.P.getD (Z4 w.j.C (w.pick t)).1.toNat X).N))=Y->(Z Z0.dv w.j.P)[(Z4 w.j.C (w.pick t)).1.toNat]?=Lb (w.j.P.getD (Z4 w.j.C (w.pick t)).1.toNat X).dv)<|FcG 71 (!(O (0<(w.j.P.getD (Z4 w.j.C (w.pick t)).1.toNat X).N)||(w.j.P.getD (Z4 w.j.C (w.pick t)).1.toNat X).K==2)) (λhg=>by(try simp only[bs]at hg);exact@Z1J w.j oq)<|Fa (by intro hg;(try simp only[bs]at hg);rw[LG oq,E6 oq oq]:(!(O (0<(w.j.P.getD (Z4 w.j.C (w.pick t)).1.toNat X).N)||(w.j.P.getD (Z4 w.j.C (w.pick t)).1.toNat X).K==2))=Y->Lm.wrap (w.j.C.pg.tdiv 4)=w.j.C.pg/4)<|Fa (by intro hg;(try simp only[bs]at hg);omega:(!(O (0<(w.j.P.getD (Z4 w.j.C (w.pick t)).1.toNat X).N)||(w.j.P.getD (Z4 w.j.C (w.pick t)).1.toNat X).K==2))=Y->(4:Int)=0->False)<|Fb ((O (0<(w.j.P.getD (Z4 w.j.C (w.pick t)).1.toNat X).N)||(w.j.P.getD (Z4 w.j.C (w.pick t)).1.toNat X).K==2||O ((↑(crowd w.j.P):Int)<w.j.C.pg/4))=Y)<|Fa (ZT oq:(Z Z0.dv w.j.P)[(Z4 w.j.C (w.pick t)).1.toNat]?=Lb (w.j.P.getD (Z4 w.j.C (w.pick t)).1.toNat X).dv)<|Fi 83 ((w.j.P.getD (Z4 w.j.C (w.pick t)).1.toNat X).N+1)<|Fa (ZT oq:(Z Z0.dv w.j.P)[(Z4 w.j.C (w.pick t)).1.toNat]?=Lb (w.j.P.getD (Z4 w.j.C (w.pick t)).1.toNat X).dv)<|FS 10085 Z0.dv w.j.P ((Z4 w.j.C (w.pick t)).1.toNat) (Z0.mk (w.j.P.getD (Z4 w.j.C (w.pick t)).1.toNat X).K (w.j.P.getD (Z4 w.j.C (w.pick t)).1.toNat X).S (w.j.P.getD (Z4 w.j.C (w.pick t)).1.toNat X).U ((w.j.P.getD (Z4 w.j.C (w.pick t)).1.toNat X).N+1)) ((w.j.P.getD (Z4 w.j.C (w.pick t)).1.toNat X).dv) Fz;have eP:w.pin t=w:=by rw[Zg.pin,if_pos e,if_neg (λq=>c1 q.1),if_neg (λq=>q.elim c1 c3)]
 rw[eP,eT];exact lF func63 []<|Fh 42 [.br M]<|Fh 45 [.bor [0] (nI ((w.pickT t).next 2)) [((w.pickT t).step 2).b]]<|Fh 59 [.el (w.j.P.getD (Z4 w.j.C (w.pick t)).1.toNat X).dv]<|Fh 65 [.el (w.j.P.getD (Z4 w.j.C (w.pick t)).1.toNat X).dv]<|Fh 76 [.int (w.j.C.pg/4)]<|Fh 55 [.br M]<|Fp 12 (@N2 w t aa aa oq)<|Fc 18 (@Hn w.j.C (w.pick t) oq oq)<|Ffb 23 ((Z4 w.j.C (w.pick t)).2.2 != 0)<|FA 25 29 Z0.dv w.j.P<|Fmq 41 Z0.dv w.j.P ((Z4 w.j.C (w.pick t)).1)<|Fb (O (0<(w.j.P.getD (Z4 w.j.C (w.pick t)).1.toNat X).N)=M)<|Fa (ZT oq:(Z Z0.dv w.j.P)[(Z4 w.j.C (w.pick t)).1.toNat]?=Lb (w.j.P.getD (Z4 w.j.C (w.pick t)).1.toNat X).dv)<|Fa (by intro hg;(try simp only[bs]at hg);exact ZT oq:(!decide (0<(w.j.P.getD (Z4 w.j.C (w.pick t)).1.toNat X).N))=Y->(Z Z0.dv w.j.P)[(Z4 w.j.C (w.pick t)).1.toNat]?=Lb (w.j.P.getD (Z4 w.j.C (w.pick t)).1.toNat X).dv)<|FcG 71 (!(O (0<(w.j.P.getD (Z4 w.j.C (w.pick t)).1.toNat X).N)||(w.j.P.getD (Z4 w.j.C (w.pick t)).1.toNat X).K==2)) (λhg=>by(try simp only[bs]at hg);exact@Z1J w.j oq)<|Fa (by intro hg;(try simp only[bs]at hg);rw[LG oq,E6 oq oq]:(!(O (0<(w.j.P.getD (Z4 w.j.C (w.pick t)).1.toNat X).N)||(w.j.P.getD (Z4 w.j.C (w.pick t)).1.toNat X).K==2))=Y->Lm.wrap (w.j.C.pg.tdiv 4)=w.j.C.pg/4)<|Fa (by intro hg;(try simp only[bs]at hg);omega:(!(O (0<(w.j.P.getD (Z4 w.j.C (w.pick t)).1.toNat X).N)||(w.j.P.getD (Z4 w.j.C (w.pick t)).1.toNat X).K==2))=Y->(4:Int)=0->False)<|Fb ((O (0<(w.j.P.getD (Z4 w.j.C (w.pick t)).1.toNat X).N)||(w.j.P.getD (Z4 w.j.C (w.pick t)).1.toNat X).K==2||O ((↑(crowd w.j.P):Int)<w.j.C.pg/4))=M) Fz;have eP:w.pin t=w:=by rw[Zg.pin,if_neg e]
 have eT:w.pinT t=w.pickT t:=by rw[Zg.pinT,if_neg (λq=>e q.1)]
 rw[eP,eT];exact lF func63 []<|Fp 12 (@N2 w t aa aa oq)<|Fc 18 (@Hn w.j.C (w.pick t) oq oq)<|Ftb 23 ((Z4 w.j.C (w.pick t)).2.2 != 0) Fz
def Mp(h:Heap)(s k:List Int)(g:Zz h.W)(hs:s.length<=1048575)(f:k.length<=1048575)(b:CR s)(a:CR k):GP 37 [h.av,Z2 s,Z2 k] M (.tu [(Zr h s k).1.av,Z2 (Zr h s k).2.1,Z2 (Zr h s k).2.2.1,.ag (Zr h s k).2.2.2.1.cells,nI (Zr h s k).2.2.2.2]) []:=by unfold Zr;by_cases d:Z9 h=Y;rw[if_pos d];by_cases c:ZB h s=Y/\ZB h k=Y;rw[if_pos c];by_cases e:(rootsF (Zv h) s).2.2=0;rw[if_pos e];by_cases i:(Bz (rootsF (Zv h) s).1).2=0;rw[if_pos i];exact Z2i h s k g hs f b a d c.1 c.2 e i;rw[if_neg i];exact Zf2 h s k g hs f b a d c.1 c.2 e i;rw[if_neg e];exact ZfQ h s k g hs f b a d c.1 c.2 e;rw[if_neg c];refine Ze4 h s k g hs f b a d ?_;by_cases q:ZB h s=Y;refine Lc ?_;have:¬ ZB h k=Y:=λj=>c ⟨q,j⟩;simpa using this;exact Le (by simpa using q);rw[if_neg d];exact Zdv h s k g hs f b a (by simpa using d)
def Zg.collect(w:Zg):Zg:=if(Zr w.j w.G w.E).2.2.2.2=0 then⟨(Zr w.j w.G w.E).1,(Zr w.j w.G w.E).2.1,(Zr w.j w.G w.E).2.2.1⟩else w
def Zgc(w:Zg)(hw:Zz w.j.W)(hs:w.G.length<=1048575)(hk:w.E.length<=1048575)(c:CR w.G)(b:CR w.E):GP 65 [w.av] M w.collect.av []:=by
 by_cases e:(Zr w.j w.G w.E).2.2.2.2=0;have a:w.collect=⟨(Zr w.j w.G w.E).1,(Zr w.j w.G w.E).2.1,(Zr w.j w.G w.E).2.2.1⟩:=by rw[Zg.collect,if_pos e]
 rw[a];exact gF [] func65 []<|Fc 15 (@Mp w.j w.G w.E aa aa aa aa aa)<|Ftb 22 ((Zr w.j w.G w.E).2.2.2.2==0) Fz;have a:w.collect=w:=by rw[Zg.collect,if_neg e]
 rw[a];exact gF [] func65 []<|Fc 15 (@Mp w.j w.G w.E aa aa aa aa aa)<|Ffb 22 ((Zr w.j w.G w.E).2.2.2.2==0) Fz
section
variable(P:Z8->Prop)(d:∀w r,Bh w->BM w->P w->(w.fwd r).2.2=0->P (w.fwd r).1)(a:∀w q j,Bh w->BM w->P w->q∈w.Q->0<=j->j<ZE w.j.W q->(w.fwd (Z5 w.j.W (q+1+j)).1).2.2=0->P (w.in1 (q+1+j)))(b:∀w n,P w->P (Ii w n))
include a in
theorem Mj{w}(e:Bh w)(h:BM w)(i:P w){q:Int}(c:q∈w.Q){l:List Int}(hl:∀x∈l,0<=x/\x<ZE w.j.W q):∀k,k<=l.length->(∀j,j<k->Ce w q l j=0)->P (BH w q l k)
 |0,_,_=>i
 |k+1,hk,he=>by
  have n:=Mj e h i c hl k oq (λj g=>he j oq);have ok:=(Nj e q l k (λj g=>he j oq)).1;have f:=Tl e h c hl k oq (λj g=>he j oq);have m:=hl _ (C1.2 ⟨k,by omega,rfl⟩);exact a _ q (l.getD k X) ok f.1 n (f.2.q q c) m.1 (by rw[f.2.l q c];exact m.2) (he k oq)
include a b in
theorem Z0H{w}(c:Bh w)(h:BM w)(g:P w)(e:(Ba w).2.2=0):P (Ba w).1:=by
 by_cases m:w.D<w.Q.length;have n:=c.sc;have i:BU w∈w.Q:=C1.2 ⟨w.D.toNat,by omega,rfl⟩;unfold Ba at e⊢;rw[if_pos m]at e⊢;cases hb:(Ld (Bg w).length).find? (λk=>O (Ce w (BU w) (Bg w) k≠0))with
 |none =>
  have f:∀j,j<(Bg w).length->Ce w (BU w) (Bg w) j=0:=λj hj=>by(grind)
  exact b _ _ (Mj P a c h g i (l:=Bg w) (AY (Zx w (BU w))) (Bg w).length (Lh _) f)
 |some k =>grind
 grind[Ba]
include a b in
theorem Oz{w}(c:Bh w)(h:BM w)(g:P w):∀k,(∀j,j<k->Eb w j=M)->P (CN w k)
 |0,_=>g
 |k+1,hh=>by
  have i:=Oz c h g k (λj e=>hh j oq);have ok:=(IB c k (λj e=>hh j oq)).1;have l:=(Dv c h k (λj e=>hh j oq)).1;have f:=hh k oq;simp only[Eb,decide_eq_false_iff_not,not_or,Li]at f;exact Z0H P a b ok l i f.1
include a b in
theorem Zak{w}(f:Bh w)(h:BM w)(l:P w)(e:(Bz w).2=0):P (Bz w).1:=by
 obtain⟨k,i⟩:=SV f;obtain⟨h1,h2,h3⟩:=Lj.1 i;have g:∀j,j<k->Eb w j=M:=λj hj=>by grind
 unfold Bz at e⊢;rw[i]at e⊢;simp only at e⊢;split at e;rename_i c;rw[if_pos c];exact Z0H P a b (IB f k g).1 (Dv f h k g).1 (Oz P a b f h l k g) c;omega
include d in
theorem Z5P{w roots}(c:Bh w)(h:BM w)(f:P w):∀k,(∀j,j<k->Ev w roots j=0)->P (Ck w roots k).1
 |0,_=>f
 |k+1,hh=>by
  have g:=Z5P c h f k (λj e=>hh j oq);have ok:=(Aj (roots:=roots) c k (λj e=>hh j oq)).1;have i:=(Z1G (roots:=roots) c h k (λj e=>hh j oq)).1;exact d _ _ ok i g (hh k oq)
include d in
theorem Z35{w roots}(g:Bh w)(h:BM w)(f:P w)(e:(rootsF w roots).2.2=0):P (rootsF w roots).1:=by
 unfold rootsF at e⊢;cases hb:(Ld roots.length).find? (λk=>O (Ev w roots k≠0))with
 |none =>
  have c:∀j,j<roots.length->Ev w roots j=0:=λj hj=>by(grind)
  exact Z5P P d g h f roots.length c
 |some k =>grind
include d a b in
theorem Z03{h:Heap}{s}(k:Zz h.W)(g:Z9 h=Y)(j:P (Zv h))(e:(rootsF (Zv h) s).2.2=0)(i:(Bz (rootsF (Zv h) s).1).2=0):P (B6 h s):=by have c:=RG k g;have hi:=SE g;have f:=A5 (roots:=s) c hi e;exact Zak P a b f.1 f.2.1 (Z35 P d c hi j e) i
end
def ZkE{l:List Z0}{i k:Nat}(h:∀m,m<k->i+1+m<l.length/\(l.getD (i+1+m) X).K=3):k<=ZC l i:=by grind[Mv]
def PT.flip{c l}(h:PT c l){i:Nat}(hi:i<l.length)(hk:(l.getD i X).K=2){s:Int}(hs:0<=s/\s<=1):PT c (ZK l i (ZC l i) s):=by
 have x:∀j,i<j->j<=i+ZC l i->(l.getD j X).K=3:=λj t u=>by(have:=(Sd (l:=l) (i:=i) (m:=j-i-1) oq).2;grind)
 have k:∀j,j<l.length->((ZK l i (ZC l i) s).getD j X).K=(l.getD j X).K/\((ZK l i (ZC l i) s).getD j X).U=(l.getD j X).U/\((ZK l i (ZC l i) s).getD j X).N=(l.getD j X).N:=λj d=>by(rw[Ia d];split;exact⟨rfl,rfl,rfl⟩;omega)
 refine⟨?_, ?_, ?_⟩;intro j d;rw[HK]at d;have b:=h.b j d;rw[Ia d];split;rename_i g;refine⟨hs,b.n,b.k,λq=>?_,b.k1,b.k3⟩;exfalso;have q':(l.getD j X).K=0:=q;grind;exact b;intro j d e;rw[HK]at d⊢;rw[(k j d).1]at e;rw[(k j d).2.1];have q:=h.lg j d e;refine⟨q.1,λm t u=>?_⟩;have r:=q.2 m t u;refine⟨r.1,by grind, ?_⟩;rw[Ia r.1,Ia d];by_cases n:j=i;subst n;have hT:(need c (l.getD j X).U-1).toNat<=ZC l j:=ZkE λy w=>by(have:=q.2 (y+1) oq oq;grind)
 rw[if_pos oq,if_pos oq];rfl;have o:¬ (i<=j/\j<=i+ZC l i):=λg=>by(have:=x j oq g.2;omega)
 have p:¬ (i<=j+m/\j+m<=i+ZC l i):=λg=>by(by_cases v:j<i;by_cases he:j+m=i;grind;have:=(q.2 (i-j) oq oq).2.1;rw[show j+(i-j)=i by omega]at this;omega;omega)
 rw[if_neg o,if_neg p];exact r.2.2;intro j d f;rw[HK]at d;rw[(k j d).1]at f;obtain⟨a,a1,a2,a3⟩:=h.tl j d f;grind
structure Tab (B:Int) (w:Z8):Prop where
 pt:PT w.j.C w.j.P
 tk:∀x∈w.T,(w.j.P.getD x.toNat X).S=1-w.j.S
 pin:∀p∈w.j.P,p.N<=B
def Tab.withWords{B w}(h:Tab B w)(l:List Int):Tab B ⟨⟨w.j.C,l,w.j.P,w.j.S,w.j.B⟩,w.old,w.T,w.Q,w.D,w.rep⟩:=⟨h.pt,h.tk,h.pin⟩
def Tab.place{B:Int}(o:0<=B){w}(j:Bh w)(h:Tab B w){n:Int}(hn:1<=n/\n<=w.j.C.pw)(hc:(w.place n).2.2=Y):PT (w.place n).1.j.C (w.place n).1.j.P/\(∀x∈(w.place n).1.T,((w.place n).1.j.P.getD x.toNat X).S=1-(w.place n).1.j.S)/\∀p∈(w.place n).1.j.P,p.N<=B:=by
 have t:=j.sp;by_cases g:EC w n;have e:w.place n=(⟨⟨w.j.C,w.j.W,Cw w.j.P (ZS w).toNat n,w.j.S,w.j.B⟩,w.old,w.T,w.Q,w.D,w.rep⟩,4096+ZS w*w.j.C.pw+(w.j.P.getD (ZS w).toNat X).U,Y):=by grind[Z8.place]
 unfold EC at g;have i:=j.tk _ (Hh g.1);have hi:(ZS w).toNat<w.j.P.length:=by omega
 have ok:=h.pt.b _ hi;have u:=ok.k1 i.2.2;rw[e];refine⟨h.pt.setPage hi (Lc i.2.2) ⟨ok.s,ok.n,ok.k,λq=>by grind,λ_=>by grind,λq=>by grind⟩ (Lc i.2.2), ?_, ?_⟩;intro x b;simp only;rw[M1,EH hi];split;rename_i q;have:=h.tk _ (Hh g.1);omega;exact h.tk x b;intro p a;rcases Lu a with a|rfl;exact h.pin p a;exact h.pin (w.j.P.getD (ZS w).toNat X) (getD_in hi);by_cases r:0<=B3 w;have e:w.place n=(⟨⟨w.j.C,w.j.W,Cw (G2 w) (B3 w).toNat n,w.j.S,w.j.B⟩,w.old,w.T++[B3 w],w.Q,w.D,w.rep⟩,4096+B3 w*w.j.C.pw,Y):=by grind[Z8.place]
 obtain⟨k,l,m⟩:=TF (h:=⟨w.j.C,w.j.W,w.j.P,1-w.j.S,w.j.B⟩) (by grind) r n;have d:Cw (G2 w) (B3 w).toNat n=w.j.P.set (B3 w).toNat ⟨1,1-w.j.S,n,0⟩:=k;have f:(w.j.P.getD (B3 w).toNat X).K=0:=l;have c:(B3 w).toNat<w.j.P.length:=m;rw[e,d];refine⟨h.pt.setPage c (Le f) ⟨by grind,by simp,by simp,by simp,λ_=>by grind,by simp⟩ (Lc rfl), ?_, ?_⟩;intro x b;simp only at b⊢;rw[EH c];split;rfl;rename_i s;rcases Ln.1 b with b|b;exact h.tk x b;grind;intro p a;rcases Lu a with a|rfl;exact h.pin p a;exact o;grind[Z8.place]
def Tab.fwd{B:Int}(u:0<=B) w r(b:Bh w)(hi:BM w)(h:Tab B w)(e:(w.fwd r).2.2=0):Tab B (w.fwd r).1:=by
 unfold Z8.fwd at e⊢;split at e;grind;rename_i c1;rw[if_neg c1];split at e;simp at e;rename_i c2;rw[if_neg c2];have f:r∈w.old:=Li.1 c2;split at e;grind;rename_i c3;rw[if_neg c3];split at e;simp at e;rename_i c4;rw[if_neg c4];split at e;rename_i g;rw[if_pos g];exact⟨h.pt,h.tk,h.pin⟩;rename_i g;rw[if_neg g];split at e;rename_i a;rw[if_pos a];have a0:=b.sp;have o:=Hg b.C (Li.1 c4);have y:=b.pl;have v:ED w r<w.j.P.length:=by grind[ED]
 refine⟨h.pt.flip v a oq, ?_, ?_⟩;intro x q;have t:=b.tk x q;simp only[Z8.keep,Z8.flip];rw[Ia oq];split;rename_i hc;exfalso;by_cases a1:x.toNat=ED w r;grind;have:=(Sd (l:=w.j.P) (i:=ED w r) (m:=x.toNat-ED w r-1) oq).2;grind;exact h.tk x q;intro p d;simp only[Z8.keep,Z8.flip,ZK,List.mem_map,Lk]at d;obtain⟨j,n,rfl⟩:=d;split;exact h.pin (w.j.P.getD j X) (getD_in n);exact h.pin (w.j.P.getD j X) (getD_in n);rename_i a;rw[if_neg a];split at e;simp at e;rename_i s;rw[if_neg s];have k:(w.place (Z1 (Zx w r))).2.2=Y:=by grind
 have c:=hi.z r f;have z:=NE w r;have d:Z1 (Zx w r)<=w.j.C.pw:=by(rw[HC];rcases c with c|c;exact absurd c a;exact c)
 obtain⟨q1,q2,q3⟩:=h.place u b ⟨z.1,d⟩ k;exact⟨q1,q2,q3⟩
def Z0Y{B:Int}{h:Heap}(hp:Z9 h=Y)(hb:∀p∈h.P,p.N<=B):Tab B (Zv h):=by
 have hp':=hp;rw[HS]at hp';have hs:=hp'.2.2.2.1;refine⟨?_,by simp[Zv], ?_⟩
 .refine hp'.2.2.2.2.2.mapPages _ ?_ ?_ ?_ ?_
  .intro p hp;unfold Zs;split
   .rename_i hc;exact⟨by grind,hp.n,hp.k,λq=>by grind,hp.k1,λq=>by grind⟩
   .exact hp
  all_goals grind[Zs]
 grind[Zv,Zs]
def Zgf{B:Int}(b:0<=B){h:Heap}{s}(a:Zz h.W)(c:Z9 h=Y)(f:∀p∈h.P,p.N<=B)(e:(rootsF (Zv h) s).2.2=0)(d:(Bz (rootsF (Zv h) s).1).2=0):Tab B (B6 h s):=
 Z03 (Tab B) (λw r a hi h e=>h.fwd b w r a hi e) (λw q j a hi h hq h0 h1 e=>(Tab.fwd b w _ a hi h e).withWords _) (λw n h=>⟨h.pt,h.tk,h.pin⟩) a c (Z0Y c f) e d
structure Cu (w:Zg) (n:Nat):Prop where
 W:Zz w.j.W
 hv:Zm w.j.C=Y
 pl:(w.j.P.length:Int)=w.j.C.pg
 L:(w.j.W.length:Int)=w.j.C.pw*w.j.C.pg
 N:∀j,j<w.j.P.length->0<=(w.j.P.getD j X).N/\(w.j.P.getD j X).N<=n
 us:∀j,j<w.j.P.length->0<=(w.j.P.getD j X).U/\(w.j.P.getD j X).U<=256
 G:CR w.G
 E:CR w.E
 sl:w.G.length<=n
 wl:w.E.length<=n
def Cu.wm{w n}(h:Cu w n)(hn:n<=1000000):SS w:=⟨h.W,h.G,h.E,Lz h.sl oq,Lz h.wl oq⟩
def Zg.dup(w:Zg)(t:Tape):Zg:=⟨w.j,w.G++[w.pick t],w.E⟩
def Zg.step(w:Zg)(t:Tape):Zg:=
 if t.next 12<=3 then w.put ((t.step 12).header w.j.C)
 else if t.next 12<=6 then w.link (t.step 12)
 else if t.next 12<=7 then w.pin (t.step 12)
 else if t.next 12<=9 then w.drop (t.step 12)
 else if t.next 12<=10 then w.collect
 else w.dup (t.step 12)
def Zg.stepT(w:Zg)(t:Tape):Tape:=
 if t.next 12<=3 then(t.step 12).headerT w.j.C
 else if t.next 12<=6 then w.linkT (t.step 12)
 else if t.next 12<=7 then w.pinT (t.step 12)
 else if t.next 12<=9 then w.dropT (t.step 12)
 else if t.next 12<=10 then t.step 12
 else w.pickT (t.step 12)
def Z8s(t:Tape) c:0<=(t.header c).map/\(t.header c).map<=4294967295:=by
 have h:∀n:Int,0<=((Gk t c).step 4).next (2^(min (min n 32) 12).toNat)/\((Gk t c).step 4).next (2^(min (min n 32) 12).toNat)<=4294967295:=by(intro n;have p:=Z3k (n:=min (min n 32) 12) oq;have r:=H8 ((Gk t c).step 4) (n:=2^(min (min n 32) 12).toNat) p.1;omega)
 unfold Tape.header;split;simp;split;simp;exact h _
def Gp(t:Tape)(d:Int)(hd:t.next 12=d)(a:C9 t):LP 11 [.pt 0 0 0,nI 12] [t.b] (nI d) [(t.step 12).b]:=by rw[<-hd];exact BJ t 12 a dd dd
section
variable(w:Zg)(t:Tape)(n:Nat)(a:Cu w n)(b:n<=1000000)(c:C9 t)(ha:t.at'<=900000)
include a b c ha
theorem ZjS:LP 28 [w.av,.pt 0 0 0] [t.b] (w.step t).av [(w.stepT t).b]:=by
 have hw:=a.wm b;have h1:=a.W;have h2:=a.G;have h3:=a.E;have h4:=a.sl;have h5:=a.wl;have s1:=EN (t:=t) 12;have k1:=G0 c s1.2.2 oq oq;have n1:=H8 t (n:=12) dd;have g:=Z8s (t.step 12) w.j.C;have hv:=a.hv;have i:=a.pl;have k:∀j,j<w.j.P.length->-1048576<=(w.j.P.getD j X).N/\(w.j.P.getD j X).N<=4294967296:=λj h=>by(have:=a.N j h;omega)
 have d:t.next 12=0\/t.next 12=1\/t.next 12=2\/t.next 12=3\/t.next 12=4\/t.next 12=5\/t.next 12=6\/t.next 12=7\/t.next 12=8\/t.next 12=9\/t.next 12=10\/t.next 12=11:=by omega
 rcases d with d|d|d|d|d|d|d|d|d|d|d|d;have e:w.step t=w.put ((t.step 12).header w.j.C):=by simp[Zg.step,d]
 have f:w.stepT t=(t.step 12).headerT w.j.C:=by simp[Zg.stepT,d]
 rw[e,f];exact lF func28 []<|Fp 6 (@Gp t (0) aa aa)<|Fp 17 (@Pp (t.step 12) w.j.C aa oq aa)<|Fc 18 (@Z0h w ((t.step 12).header w.j.C) aa aa) Fz;have e:w.step t=w.put ((t.step 12).header w.j.C):=by simp[Zg.step,d]
 have f:w.stepT t=(t.step 12).headerT w.j.C:=by simp[Zg.stepT,d]
 rw[e,f];exact lF func28 []<|Fp 6 (@Gp t (1) aa aa)<|Fp 17 (@Pp (t.step 12) w.j.C aa oq aa)<|Fc 18 (@Z0h w ((t.step 12).header w.j.C) aa aa) Fz;have e:w.step t=w.put ((t.step 12).header w.j.C):=by simp[Zg.step,d]
 have f:w.stepT t=(t.step 12).headerT w.j.C:=by simp[Zg.stepT,d]
 rw[e,f];exact lF func28 []<|Fp 6 (@Gp t (2) aa aa)<|Fp 17 (@Pp (t.step 12) w.j.C aa oq aa)<|Fc 18 (@Z0h w ((t.step 12).header w.j.C) aa aa) Fz;have e:w.step t=w.put ((t.step 12).header w.j.C):=by simp[Zg.step,d]
 have f:w.stepT t=(t.step 12).headerT w.j.C:=by simp[Zg.stepT,d]
 rw[e,f];exact lF func28 []<|Fp 6 (@Gp t (3) aa aa)<|Fp 17 (@Pp (t.step 12) w.j.C aa oq aa)<|Fc 18 (@Z0h w ((t.step 12).header w.j.C) aa aa) Fz;have e:w.step t=w.link (t.step 12):=by simp[Zg.step,d]
 have f:w.stepT t=w.linkT (t.step 12):=by simp[Zg.stepT,d]
 rw[e,f];exact lF func28 []<|Fp 6 (@Gp t (4) aa aa)<|Fp 25 (@Z3s w (t.step 12) aa aa oq) Fz;have e:w.step t=w.link (t.step 12):=by simp[Zg.step,d]
 have f:w.stepT t=w.linkT (t.step 12):=by simp[Zg.stepT,d]
 rw[e,f];exact lF func28 []<|Fp 6 (@Gp t (5) aa aa)<|Fp 25 (@Z3s w (t.step 12) aa aa oq) Fz;have e:w.step t=w.link (t.step 12):=by simp[Zg.step,d]
 have f:w.stepT t=w.linkT (t.step 12):=by simp[Zg.stepT,d]
 rw[e,f];exact lF func28 []<|Fp 6 (@Gp t (6) aa aa)<|Fp 25 (@Z3s w (t.step 12) aa aa oq) Fz;have e:w.step t=w.pin (t.step 12):=by simp[Zg.step,d]
 have f:w.stepT t=w.pinT (t.step 12):=by simp[Zg.stepT,d]
 rw[e,f];exact lF func28 []<|Fp 6 (@Gp t (7) aa aa)<|Fp 30 (@Zb1 w (t.step 12) aa aa oq aa oq aa) Fz;have e:w.step t=w.drop (t.step 12):=by simp[Zg.step,d]
 have f:w.stepT t=w.dropT (t.step 12):=by simp[Zg.stepT,d]
 rw[e,f];exact lF func28 []<|Fp 6 (@Gp t (8) aa aa)<|Fp 36 (@Z88 w (t.step 12) aa aa oq) Fz;have e:w.step t=w.drop (t.step 12):=by simp[Zg.step,d]
 have f:w.stepT t=w.dropT (t.step 12):=by simp[Zg.stepT,d]
 rw[e,f];exact lF func28 []<|Fp 6 (@Gp t (9) aa aa)<|Fp 36 (@Z88 w (t.step 12) aa aa oq) Fz;have e:w.step t=w.collect:=by simp[Zg.step,d]
 have f:w.stepT t=t.step 12:=by simp[Zg.stepT,d]
 rw[e,f];exact lF func28 []<|Fp 6 (@Gp t (10) aa aa)<|Fc 40 (@Zgc w aa oq oq aa aa) Fz;have e:w.step t=w.dup (t.step 12):=by simp[Zg.step,d]
 have f:w.stepT t=w.pickT (t.step 12):=by simp[Zg.stepT,d]
 rw[e,f];exact lF func28 []<|Fh 49 [.els (Z wD (w.G++[w.pick (t.step 12)]))]<|Fp 6 (@Gp t (11) aa aa)<|FAx 41 44 wD w.G (by(simp[Zg.dup, *];omega))<|Fp 47 (@N2 w (t.step 12) aa aa oq)<|Fs 48 (Z wD [w.pick (t.step 12)])<|Fa (by(simp[Zg.dup, *];omega):(Z wD w.G).length+(Z wD [w.pick (t.step 12)]).length<=2^30)<|Fa (by simp[Zg.dup,List.map_take,List.map_drop,Lx,List.map_append,wD,iD]:Z wD w.G++Z wD [w.pick (t.step 12)]=Z wD (w.G++[w.pick (t.step 12)])) Fz
end
end Go.Proofs.YtkmnngahjnkdmaaGreat
