/-
 The statement BoundRequests: part 9.
 Conditions: none.
-/
import Derived.Test.YtkmnngahjnkdmaaGreatE8
set_option maxRecDepth 100000
set_option maxHeartbeats 2000000
set_option linter.all false
open Inhabited renaming default->X
open List renaming map->Y,take->O,drop->La,getD_eq_getElem?_getD->Lb,length_append->Lc,length_singleton->Ld,length_map->Le,range->Lf,map_append->Lj,mem_append->Lk,getElem?_eq_none->Lm,length_set->Ln,map_drop->Lo,map_set->Lp,map_take->Lq,ext_getElem->Ls,getElem_map->Lt,getElem_range->Lu,mem_range->Lv,mem_singleton->Lw,takeWhile_cons->Lx,getElem_set->LC,length_cons->LD,length_take->LF,mem_of_mem_drop->LG,mem_of_mem_take->LH,replicate->LI,set_set->LJ
open Bool renaming true->Z,false->M
open Decidable renaming decide->L,not_not->Lr
open Nat renaming le_refl->Lg
open Or renaming inl->Lh,inr->Li
open Go.IntKind renaming i64->Ll,u32->LB
open Int renaming tdiv_eq_ediv_of_nonneg->Ly,tmod_eq_emod_of_nonneg->Lz,toNat->LA
open Go.Proofs.Tryz
namespace Go.Proofs.YtkmnngahjnkdmaaGreat
open Go.Sx
structure Zg where
 j:Heap
 G:List Int
 E:List Int
 deriving Inhabited
def Zg.cells(w:Zg):List AV:=w.j.cells++[Z2 w.G,Z2 w.E]
def Zg.av(w:Zg):AV:=.ag w.cells
def Z9c(t:Tape):Zm t.C=Z:=by
 have c:=H8 t (n:=4) dd;have d:=H8 (t.step 4) (n:=5) dd;unfold Tape.C;generalize t.next 4=a at c
 generalize (t.step 4).next 5=b at d
 have e:a=0\/a=1\/a=2\/a=3:=by omega
 have f:b=0\/b=1\/b=2\/b=3\/b=4:=by omega
 rcases e with rfl|rfl|rfl|rfl<;>rcases f with rfl|rfl|rfl|rfl|rfl<;>decide
def EN{t:Tape} n:t.at'<=(t.step n).at'/\(t.step n).at'<=t.at'+1/\(t.step n).l=t.l:=by unfold Tape.step;split;exact⟨by omega,by omega,rfl⟩;exact⟨by simp only;omega,by simp only;omega,rfl⟩
def G0{t u:Tape}(a:C9 t)(hl:u.l=t.l)(h1:t.at'<=u.at')(h2:u.at'<=1048576):C9 u:=by unfold C9 at a⊢;rw[hl];omega
def Tape.empty(t:Tape):Zg:=⟨RA t.C,[],[]⟩
def Z9G t(ht:C9 t)(ha:t.at'<=1000000):LP 26 [.pt 0 0 0] [t.b] (t.empty.av) [((t.step 4).step 5).b]:=by have hv:=Z9c t;exact lF func26 []<|Fp 7 (@Zh2 t aa aa)<|Fc 8 (@Zco t.C aa)<|Fnl (Fnl Fz)
def H0(t:Tape)(c:ZU):Int:=if(t.step (Z6 c)).next 12=0 then Z6 c+((t.step (Z6 c)).step 12).next c.pw else t.next (Z6 c)
def Gk(t:Tape)(c:ZU):Tape:=if(t.step (Z6 c)).next 12=0 then((t.step (Z6 c)).step 12).step c.pw else(t.step (Z6 c)).step 12
def Tape.header(t:Tape)(c:ZU):Zo:=if(Gk t c).next 4=0 then⟨2,H0 t c,0⟩else if(Gk t c).next 4=1 then⟨3,H0 t c,0⟩else⟨1,min (H0 t c) 32,((Gk t c).step 4).next (2^(min (min (H0 t c) 32) 12).toNat)⟩
def Tape.headerT(t:Tape)(c:ZU):Tape:=if(Gk t c).next 4=0 then(Gk t c).step 4 else if(Gk t c).next 4=1 then(Gk t c).step 4 else((Gk t c).step 4).step (2^(min (min (H0 t c) 32) 12).toNat)
def Z3k{n:Int}(h:n<=12):(1:Int)<=2^n.toNat/\(2:Int)^n.toNat<=4096:=by
 have:n.toNat<=12:=by omega
 generalize n.toNat=k at this;have hk:k∈Lf 13:=Lv.2 oq;revert k;decide+kernel
def Z9V{n:Int}(h:0<=n):1*2^min (min (min n 32) 12).toNat 64=(2:Int)^(min (min n 32) 12).toNat:=by rw[Nat.min_eq_left oq,Int.one_mul]
def Pp t(c:ZU)(ht:C9 t)(ha:t.at'<=1000000)(hv:Zm c=Z):LP 10 [.pt 0 0 0,c.av] [t.b] ((t.header c).av) [(t.headerT c).b]:=by
 have hb:=BR.1 hv;have hs:=DJ hv;have s1:=EN (t:=t) (Z6 c);have s2:=EN (t:=t.step (Z6 c)) 12;have s3:=EN (t:=(t.step (Z6 c)).step 12) c.pw;have k1:=G0 ht s1.2.2 oq oq;have k2:=G0 k1 s2.2.2 oq oq;have k3:=G0 k2 s3.2.2 oq oq;have n1:=H8 t (n:=Z6 c) oq;have n2:=H8 ((t.step (Z6 c)).step 12) (n:=c.pw) oq;have h1:0<=H0 t c/\H0 t c<=80:=by unfold H0;split<;>omega
 have s4:=EN (t:=((t.step (Z6 c)).step 12).step c.pw) 4;have s5:=EN (t:=(t.step (Z6 c)).step 12) 4;have k4:=G0 k3 s4.2.2 oq oq;have k5:=G0 k2 s5.2.2 oq oq;have ei1:=Z9V (n:=Z6 c+((t.step (Z6 c)).step 12).next c.pw) oq;have ei2:=Z9V (n:=t.next (Z6 c)) oq;have p1:=Z3k (n:=min (min (Z6 c+((t.step (Z6 c)).step 12).next c.pw) 32) 12) oq;have p2:=Z3k (n:=min (min (t.next (Z6 c)) 32) 12) oq;have r1:=H8 ((((t.step (Z6 c)).step 12).step c.pw).step 4) (n:=2^(min (min (Z6 c+((t.step (Z6 c)).step 12).next c.pw) 32) 12).toNat) oq;have r2:=H8 (((t.step (Z6 c)).step 12).step 4) (n:=2^(min (min (t.next (Z6 c)) 32) 12).toNat) oq;have Q0 {h_ c_ p_} (r_:Fq h_ c_ p_):=Fc 8 (@HB c)<|Fp 11 (@BJ t (Z6 c) aa oq oq)<|Fp 13 (@BJ (t.step (Z6 c)) (12) aa oq oq) r_;rcases bb ((t.step (Z6 c)).next (12:Int)==0)with hc0|hc0<;>have hc0p:=hc0<;>simp only[bs]at hc0p;let y0:=(t.step (Z6 c)).step 12;have Q1 {h_ c_ p_} (r_:Fq h_ c_ p_):=Q0<|Ft 14 hc0<|Fp 19 (@BJ y0 c.pw aa oq oq)<|Fi 20 (Z6 c+y0.next c.pw)<|Fp 22 (@BJ (y0.step c.pw) (4) aa oq oq) r_;rcases bb ((((t.step (Z6 c)).step 12).step c.pw).next (4:Int)==0)with hc1|hc1<;>have hc1p:=hc1<;>simp only[bs]at hc1p;rw[show t.header c=Zo.mk (2:Int) (Z6 c+((t.step (Z6 c)).step (12:Int)).next c.pw) (0:Int)from by(simp only[Tape.header,Tape.headerT,H0,Gk] ;exact sj)];rw[show t.headerT c=(((t.step (Z6 c)).step (12:Int)).step c.pw).step (4:Int)from by(simp only[Tape.header,Tape.headerT,H0,Gk] ;exact sj)];exact lF func10 []<|Fh 23 [.br Z] (Q1 (Fa hc1 Fz));rcases bb ((((t.step (Z6 c)).step 12).step c.pw).next (4:Int)==1)with hc2|hc2<;>have hc2p:=hc2<;>simp only[bs]at hc2p;rw[show t.header c=Zo.mk (3:Int) (Z6 c+((t.step (Z6 c)).step (12:Int)).next c.pw) (0:Int)from by(simp only[Tape.header,Tape.headerT,H0,Gk] ;exact sj)];rw[show t.headerT c=(((t.step (Z6 c)).step (12:Int)).step c.pw).step (4:Int)from by(simp only[Tape.header,Tape.headerT,H0,Gk] ;exact sj)];exact lF func10 []<|Fh 23 [.br M]<|Fh 27 [.br Z] (Q1 (Fa hc1<|Fa hc2 Fz))
 .rw[show t.header c=Zo.mk (1:Int) (min (Z6 c+((t.step (Z6 c)).step (12:Int)).next c.pw) (32:Int)) (((((t.step (Z6 c)).step (12:Int)).step c.pw).step (4:Int)).next ((2:Int)^(min (min (Z6 c+((t.step (Z6 c)).step (12:Int)).next c.pw) (32:Int)) (12:Int)).toNat))from by(simp only[Tape.header,Tape.headerT,H0,Gk] ;exact sj)];rw[show t.headerT c=((((t.step (Z6 c)).step (12:Int)).step c.pw).step (4:Int)).step ((2:Int)^(min (min (Z6 c+((t.step (Z6 c)).step (12:Int)).next c.pw) (32:Int)) (12:Int)).toNat)from by(simp only[Tape.header,Tape.headerT,H0,Gk] ;exact sj)];let y3:=(t.step (Z6 c)).step 12;let y1:=Z6 c+y3.next c.pw
  let y2:=min (min y1 32) 12;let y4:=(y3.step c.pw).step 4;exact lF func10 []<|Fh 23 [.br M]<|Fh 27 [.br M] (Q1 (Fa hc1<|Fa hc2<|Fgo 32 (if 32<Z6 c+y3.next c.pw then 32 else Z6 c+y3.next c.pw) (min y1 32)<|Fgo 36 (if 12<min y1 32 then 12 else min y1 32) y2<|Fv 37 y2<|Fg 38 (by rw[E6 oq oq];omega:Ll.wrap ((1:Int)*2^min y2.toNat 64)=2^y2.toNat)<|Fo (0<=min (min y1 32) 12)<|Fp 39 (@BJ y4 (2^y2.toNat) aa oq oq)<|Fg 40 (PL oq oq:LB.wrap (y4.next (2^y2.toNat))=y4.next (2^y2.toNat)) Fz))
 have Q2 {h_ c_ p_} (r_:Fq h_ c_ p_):=Q0 (Ff 14 hc0<|Fp 22 (@BJ ((t.step (Z6 c)).step 12) (4) aa oq oq) r_);rcases bb (((t.step (Z6 c)).step 12).next (4:Int)==0)with hc3|hc3<;>have hc3p:=hc3<;>simp only[bs]at hc3p;rw[show t.header c=Zo.mk (2:Int) (t.next (Z6 c)) (0:Int)from by(simp only[Tape.header,Tape.headerT,H0,Gk] ;exact sj)];rw[show t.headerT c=((t.step (Z6 c)).step (12:Int)).step (4:Int)from by(simp only[Tape.header,Tape.headerT,H0,Gk] ;exact sj)];exact lF func10 []<|Fh 23 [.br Z] (Q2 (Fa hc3 Fz));rcases bb (((t.step (Z6 c)).step 12).next (4:Int)==1)with hc4|hc4<;>have hc4p:=hc4<;>simp only[bs]at hc4p;rw[show t.header c=Zo.mk (3:Int) (t.next (Z6 c)) (0:Int)from by(simp only[Tape.header,Tape.headerT,H0,Gk] ;exact sj)];rw[show t.headerT c=((t.step (Z6 c)).step (12:Int)).step (4:Int)from by(simp only[Tape.header,Tape.headerT,H0,Gk] ;exact sj)];exact lF func10 []<|Fh 23 [.br M]<|Fh 27 [.br Z] (Q2 (Fa hc3<|Fa hc4 Fz));rw[show t.header c=Zo.mk (1:Int) (min (t.next (Z6 c)) (32:Int)) ((((t.step (Z6 c)).step (12:Int)).step (4:Int)).next ((2:Int)^(min (min (t.next (Z6 c)) (32:Int)) (12:Int)).toNat))from by(simp only[Tape.header,Tape.headerT,H0,Gk] ;exact sj)];rw[show t.headerT c=(((t.step (Z6 c)).step (12:Int)).step (4:Int)).step ((2:Int)^(min (min (t.next (Z6 c)) (32:Int)) (12:Int)).toNat)from by(simp only[Tape.header,Tape.headerT,H0,Gk] ;exact sj)];let y5:=min (min (t.next (Z6 c)) 32) 12;let y6:=((t.step (Z6 c)).step 12).step 4;exact lF func10 []<|Fh 23 [.br M]<|Fh 27 [.br M] (Q2 (Fa hc3<|Fa hc4<|Fgo 32 (if 32<t.next (Z6 c)then 32 else t.next (Z6 c)) (min (t.next (Z6 c)) 32)<|Fgo 36 (if 12<min (t.next (Z6 c)) 32 then 12 else min (t.next (Z6 c)) 32) y5<|Fv 37 y5<|Fg 38 (by rw[E6 oq oq];omega:Ll.wrap ((1:Int)*2^min y5.toNat 64)=2^y5.toNat)<|Fo (0<=min (min (t.next (Z6 c)) 32) 12)<|Fp 39 (@BJ y6 (2^y5.toNat) aa oq oq)<|Fg 40 (PL oq oq:LB.wrap (y6.next (2^y5.toNat))=y6.next (2^y5.toNat)) Fz))
abbrev sA(w:Zg)(t:Tape):Tape:=(t.step (w.j.W.length:Int)).step (w.j.P.length:Int)
abbrev sC(w:Zg)(t:Tape):Int:=(t.step (w.j.W.length:Int)).next (w.j.P.length:Int)
def CR(l:List Int):Prop:=∀x∈l,0<=x/\x<=18446744073709551615
structure SS (w:Zg):Prop where
 W:Zz w.j.W
 G:CR w.G
 E:CR w.E
 sl:w.G.length<=1048576
 wl:w.E.length<=1048576
def Zg.refs(w:Zg):List Int:=0::(w.G++w.E)
def Zg.pick(w:Zg)(t:Tape):Int:=w.refs.getD (t.next (w.refs.length:Int)).toNat X
def Zg.pickT(w:Zg)(t:Tape):Tape:=t.step (w.refs.length:Int)
def N2 w t(a:SS w)(ht:C9 t)(ha:t.at'<=1040000):LP 66 [w.av,.pt 0 0 0] [t.b] (uU (w.pick t)) [(w.pickT t).b]:=by
 have h1:=a.sl;have h2:=a.wl;have hl:w.refs.length=w.G.length+w.E.length+1:=by simp[Zg.refs]
 have hn:=H8 t (n:=(w.refs.length:Int)) oq;rw[show w.pickT t=t.step (↑((0:Nat)+(1:Nat)+w.G.length+w.E.length):Int)from by grind[Zg.pick,Zg.refs,Zg.pickT]];exact lF func66 [Z]<|Fh 12 [.els (Y wD ([0]++w.G++w.E))]<|Fh 19 [.el (wD (([0]++w.G++w.E).getD (t.next (↑(0+1+w.G.length+w.E.length):Int)).toNat X))]<|Fs 6 (Y wD [0])<|Fa (by(simp[Zg.pick,Zg.refs,Zg.pickT, *];omega):(Y wD [0]).length+(Y wD w.G).length<=2^30)<|Fs 9 (Y wD ([0]++w.G))<|Fa (by(simp[Zg.pick,Zg.refs,Zg.pickT, *];omega):(Y wD ([0]++w.G)).length+(Y wD w.E).length<=2^30)<|Fa (by simp[Zg.pick,Zg.refs,Zg.pickT,Lq,Lo,Lp,Lj,wD,iD]:Y wD ([0]++w.G)++Y wD w.E=Y wD ([0]++w.G++w.E))<|Fg 16 (by simp only[Le,Lc,LF,List.length_drop,Ln,List.length_replicate,List.length_nil,LD]:(↑(Y wD ([0]++w.G++w.E)).length:Int)=(↑(0+1+w.G.length+w.E.length):Int))<|Fp 17 (@BJ t ((↑(0+1+w.G.length+w.E.length):Int)) aa oq oq)<|Fa (by grind[Zg.pick,Zg.refs,Zg.pickT]:0<=t.next (↑(0+1+w.G.length+w.E.length):Int)/\(t.next (↑(0+1+w.G.length+w.E.length):Int)).toNat<(Y wD ([0]++w.G++w.E)).length)<|Fa (by grind[Zg.pick,Zg.refs,Zg.pickT]:(Y wD ([0]++w.G++w.E))[(t.next (↑(0+1+w.G.length+w.E.length):Int)).toNat]?=some (wD (([0]++w.G++w.E).getD (t.next (↑(0+1+w.G.length+w.E.length):Int)).toNat X)))<|Fa (by grind[Zg.pick,Zg.refs,Zg.pickT]:([0]++w.G++w.E).getD (t.next (↑(0+1+w.G.length+w.E.length):Int)).toNat X=w.pick t) Fz
def Zg.put(w:Zg)(hd:Zo):Zg:=if(Zd w.j hd).2.2=0 then⟨(Zd w.j hd).1,w.G++[(Zd w.j hd).2.1],w.E⟩else w
def Z0h w(hd:Zo)(c:SS w)(hm:0<=hd.map/\hd.map<=4294967295):GP 61 [w.av,hd.av] M (w.put hd).av []:=by have h0:=c.W;have h1:=c.sl;have b {h_ c_ p_} (d:Fq h_ c_ p_):=Fc 12 (@Ic w.j hd aa aa) d;rcases bb ((Zd w.j hd).2.2==0)with hc0|hc0<;>have a:=hc0<;>simp only[bs]at a;rw[show w.put hd=Zg.mk (Zd w.j hd).1 (w.G++[(Zd w.j hd).2.1]) w.E from by simp[Zg.put, *]];exact gF [] func61 []<|Fh 25 [.els (Y wD (w.G++[(Zd w.j hd).2.1]))] (b (Ft 17 hc0<|FAx 19 22 wD w.G (by(simp[Zg.put, *];omega))<|Fs 24 (Y wD [(Zd w.j hd).2.1])<|Fa (by(simp[Zg.put, *];omega):(Y wD w.G).length+(Y wD [(Zd w.j hd).2.1]).length<=2^30)<|Fa (by simp[Zg.put,Lq,Lo,Lp,Lj,wD,iD]:Y wD w.G++Y wD [(Zd w.j hd).2.1]=Y wD (w.G++[(Zd w.j hd).2.1])) Fz));rw[show w.put hd=w from by simp[Zg.put, *]];exact gF [] func61 [] (b (Ff 17 hc0 Fz))
abbrev pA(w:Zg)(t:Tape):Z0:=w.j.P.getD (Z4 w.j.C (w.pick t)).1.toNat X
def Af{l}(h:CR l)(i:Nat):0<=l.getD i X/\l.getD i X<=18446744073709551615:=by
 rw[Lb];cases e:l[i]? with|none=>simp|some x=>exact h x (List.mem_of_getElem? e)
def Zhf{w}(b:SS w):CR w.refs:=by intro x a;simp only[Zg.refs,List.mem_cons,Lk]at a;rcases a with rfl|a|a;omega;exact b.G x a;exact b.E x a
def Mx{w}(a:SS w)(t:Tape):0<=w.pick t/\w.pick t<=18446744073709551615:=Af (Zhf a) _
def Z2m(w:Zg)(t:Tape):t.at'<=(w.pickT t).at'/\(w.pickT t).at'<=t.at'+1/\(w.pickT t).l=t.l:=EN _
def IX(w:Zg)(t:Tape):Int:=((w.pickT (w.pickT t)).next 8).tmod (Zy w.j (w.pick t)).1.length
def NK(w:Zg)(t:Tape):Int:=if BI (Zy w.j (w.pick t)).1 (IX w t)=Z then w.pick (w.pickT t)else((w.pickT (w.pickT t)).step 8).next 1048576
def Zg.link(w:Zg)(t:Tape):Zg:=if(Zy w.j (w.pick t)).2=0/\(Zy w.j (w.pick t)).1.length≠0 then⟨(Ek w.j (w.pick t) (IX w t) (NK w t)).1,w.G,w.E⟩else w
def Zg.linkT(w:Zg)(t:Tape):Tape:=if(Zy w.j (w.pick t)).2=0/\(Zy w.j (w.pick t)).1.length≠0/\BI (Zy w.j (w.pick t)).1 (IX w t)=M then((w.pickT (w.pickT t)).step 8).step 1048576 else(w.pickT (w.pickT t)).step 8
def Z3s w t(p:SS w)(z:C9 t)(ha:t.at'<=1000000):LP 62 [w.av,.pt 0 0 0] [t.b] (w.link t).av [(w.linkT t).b]:=by have h0:=p.W;have s1:=Z2m w t;have s2:=Z2m w (w.pickT t);have s3:=EN (t:=w.pickT (w.pickT t)) 8;have k1:=G0 z s1.2.2 oq oq;have k2:=G0 k1 s2.2.2 oq oq;have k3:=G0 k2 s3.2.2 oq oq;have p1:=Mx p t;have p2:=Mx p (w.pickT t);have n1:=H8 (w.pickT (w.pickT t)) (n:=8) dd;have n2:=H8 ((w.pickT (w.pickT t)).step 8) (n:=1048576) dd;have m1:=Z3d p.W (w.pick t);have v {h_ c_ p_} (u:Fq h_ c_ p_):=Fp 12 (@N2 w t aa aa oq)<|Fp 15 (@N2 w (w.pickT t) aa aa oq)<|Fp 17 (@BJ (w.pickT (w.pickT t)) (8) aa oq oq)<|Fc 22 (@NN w.j (w.pick t) aa aa) u;rcases bb ((Zy w.j (w.pick t)).2 != 0||(Zy w.j (w.pick t)).1.length==0)with hc0|hc0<;>have e:=hc0<;>simp only[bs]at e;rw[show w.link t=w from by(simp[Zg.link,Zg.linkT,IX,NK, *];omega)];rw[show w.linkT t=(w.pickT (w.pickT t)).step (8:Int)from by grind[Zg.link,Zg.linkT,IX,NK]];exact lF func62 [] (v (Ft 31 hc0 Fz));obtain⟨g,q⟩:=e;have r:=Su g;obtain⟨y,⟨s,⟨o,⟨m,⟨j,⟨h,⟨f,⟨d,⟨c,⟨a,b⟩⟩⟩⟩⟩⟩⟩⟩⟩⟩:=r;let k:=Zy w.j (w.pick t);let i:=w.pickT (w.pickT t);have x {h_ c_ p_} (u:Fq h_ c_ p_):=v<|Ff 31 hc0<|Fg 36 (Lz oq:(i.next 8).tmod k.1.length=i.next 8%k.1.length)<|Fo (k.1.length≠0)<|Fc 39 (@SK (k.1) (i.next 8%k.1.length) aa) u;rcases bb (!BI (Zy w.j (w.pick t)).1 ((w.pickT (w.pickT t)).next 8%(Zy w.j (w.pick t)).1.length))with hc6|hc6<;>have l:=hc6<;>simp only[bs]at l;rw[show w.link t=Zg.mk (Ek w.j (w.pick t) ((w.pickT (w.pickT t)).next (8:Int)%(Zy w.j (w.pick t)).1.length) (((w.pickT (w.pickT t)).step (8:Int)).next (1048576:Int))).1 w.G w.E from by grind[Zg.link,Zg.linkT,IX,NK]];rw[show w.linkT t=((w.pickT (w.pickT t)).step (8:Int)).step (1048576:Int)from by grind[Zg.link,Zg.linkT,IX,NK]];exact lF func62 [] (x (Ft 40 hc6<|Fp 42 (@BJ (i.step 8) (1048576) aa oq oq)<|Fv 43 ((i.step 8).next 1048576)<|Fc 50 (@Z68 w.j (w.pick t) (i.next 8%k.1.length) ((i.step 8).next 1048576) aa aa) Fz));rw[show w.link t=Zg.mk (Ek w.j (w.pick t) ((w.pickT (w.pickT t)).next (8:Int)%(Zy w.j (w.pick t)).1.length) (w.pick (w.pickT t))).1 w.G w.E from by grind[Zg.link,Zg.linkT,IX,NK]];rw[show w.linkT t=(w.pickT (w.pickT t)).step (8:Int)from by grind[Zg.link,Zg.linkT,IX,NK]];exact lF func62 [] (x (Ff 40 hc6<|Fc 50 (@Z68 w.j (w.pick t) ((w.pickT (w.pickT t)).next 8%(Zy w.j (w.pick t)).1.length) (w.pick (w.pickT t)) aa aa) Fz))
def BW(l:List Z0):Nat->Nat|0=>0|i+1=>BW l i+(if(l.getD i X).K=1/\0<(l.getD i X).N then 1 else 0)
def Rr l:∀i,BW l i<=i
 |0=>Lg _
 |i+1=>by
  have:=Rr l i;simp only[BW];split<;>omega
def crowd(l:List Z0):Nat:=BW l l.length
def OH(h:Heap)(i:Nat):Tg:=⟨tm 31 [(1,.pt 8001 0 0),(3,nI (BW h.P i)),(4,nI i)],[(8001,.box 27 h.cells)],60⟩
def Zbt(h:Heap)(hl:h.P.length<=1048576)(i:Nat)(hi:i<h.P.length):CP (Zn f115 0) (OH h i).st .nrm (OH h (i+1)).st:=by have hc:=Rr h.P i;have d {h_ c_ p_} (e:Fq h_ c_ p_):=FN 8 9 15 Z0.dv h.P i<|FeG 23 ((h.P.getD i X).K==1) Z0.dv h.P (↑i) i e;rcases bb ((h.P.getD i X).K==1&&L (0<(h.P.getD i X).N))with hc0|hc0<;>have a:=hc0<;>simp only[bs]at a;obtain⟨b,c⟩:=a;exact sF [] (fO 8) (d (Ft 27 hc0<|Fw 29 ((↑(BW h.P i):Int)+1) (↑(BW h.P i+1):Int)<|Fx 11 i<|Fa (by(simp only[BW] ;exact sj):(↑(BW h.P i+1):Int)=(↑(BW h.P (i+1)):Int)) Fz));exact sF [] (fO 8) (d (Ff 27 hc0<|Fx 11 i<|Fa (by(simp only[BW] ;exact sj):(↑(BW h.P i):Int)=(↑(BW h.P (i+1)):Int)) Fz))
def Zli(h:Heap):CP (Zn f115 0) (OH h h.P.length).st (.ext 0) (Tg.st ⟨tm 31 [(3,nI (crowd h.P))],[],60⟩):=by exact sF [] []<|FO 8 9 Z0.dv h.P Fz
def ZiJ(h:Heap)(hl:h.P.length<=1048576)  := Bs (S:=λi=>(OH h i).st) h.P.length (by kernel_rfl) (λi a=>Zbt h hl i a) (Zli h)
def Z1J(h:Heap)(hl:h.P.length<=1048576):GP 115 [h.av] Z (nI (crowd h.P)) []:=by exact gF [] func115 []<|Fu (@ZiJ h aa) Fz
def Z15(w:Zg)(t:Tape):Int:=t.next (w.G.length:Int)
def Zg.drop(w:Zg)(t:Tape):Zg:=
 if 0<w.G.length then⟨w.j,w.G.take (Z15 w t).toNat++w.G.drop ((Z15 w t).toNat+1),if(t.step (w.G.length:Int)).next 3=0 then w.E++[w.G.getD (Z15 w t).toNat X]else w.E⟩else w
def Zg.dropT(w:Zg)(t:Tape):Tape:=if 0<w.G.length then(t.step (w.G.length:Int)).step 3 else t
def Z88 w t(c:SS w)(d:C9 t)(ha:t.at'<=1040000):LP 64 [w.av,.pt 0 0 0] [t.b] (w.drop t).av [(w.dropT t).b]:=by
 have h1:=c.sl;have h2:=c.wl;have s1:=EN (t:=t) (w.G.length:Int);have k1:=G0 d s1.2.2 oq oq;have n1:=λh=>H8 t (n:=(w.G.length:Int)) h;by_cases c1:0<w.G.length
 .have b:w.dropT t=(t.step (w.G.length:Int)).step 3:=by rw[Zg.dropT,if_pos c1]
  by_cases c2:(t.step (w.G.length:Int)).next 3=0
  have a:w.drop t=⟨w.j,w.G.take (t.next (w.G.length:Int)).toNat++w.G.drop ((t.next (w.G.length:Int)).toNat+1),w.E++[w.G.getD (t.next (w.G.length:Int)).toNat X]⟩:=by rw[Zg.drop,if_pos c1,if_pos c2];rfl
  rw[a,b];exact lF func64 [Z]<|Fh 28 [.els (Y wD (w.E++[w.G.getD (t.next (w.G.length:Int)).toNat X]))]<|Fh 35 [.els (Y wD (O (t.next (w.G.length:Int)).toNat w.G))]<|Fh 40 [.els (Y wD (La (t.next (w.G.length:Int)+1).toNat w.G))]<|Fh 41 [.els (Y wD (O (t.next (w.G.length:Int)).toNat w.G++La (t.next (w.G.length:Int)+1).toNat w.G))]<|Fl 9 wD w.G<|Ftb 11 (L (0<(w.G.length:Int)))<|Fp 14 (@BJ t ((w.G.length:Int)) aa oq oq)<|Fp 16 (@BJ (t.step (w.G.length:Int)) (3) aa oq oq)<|Ftb 17 ((t.step (w.G.length:Int)).next (3:Int)==0)<|FA 18 21 wD w.E<|Fe 25 wD w.G (t.next (w.G.length:Int))<|Fs 27 (Y wD [w.G.getD (t.next (w.G.length:Int)).toNat X])<|Fa (by(simp[*];omega):(Y wD w.E).length+(Y wD [w.G.getD (t.next (w.G.length:Int)).toNat X]).length<=2^30)<|Fa (ms:Y wD w.E++Y wD [w.G.getD (t.next (w.G.length:Int)).toNat X]=Y wD (w.E++[w.G.getD (t.next (w.G.length:Int)).toNat X]))<|Fs 30 (Y wD [])<|Fa (by(simp only[Le];omega):0<=t.next (w.G.length:Int)/\t.next (w.G.length:Int)<=(↑(Y wD w.G).length:Int))<|Fa (ms:O (t.next (w.G.length:Int)).toNat (Y wD w.G)=Y wD (O (t.next (w.G.length:Int)).toNat w.G))<|Fa (by(simp[*];omega):(Y wD []).length+(Y wD (O (t.next (w.G.length:Int)).toNat w.G)).length<=2^30)<|Fs 34 (Y wD (O (t.next (w.G.length:Int)).toNat w.G))<|Fi 39 (t.next (w.G.length:Int)+1)<|Fa (by(simp only[Le];omega):0<=t.next (w.G.length:Int)+1/\t.next (w.G.length:Int)+1<=(↑(Y wD w.G).length:Int))<|Fa (ms:La (t.next (w.G.length:Int)+1).toNat (Y wD w.G)=Y wD (La (t.next (w.G.length:Int)+1).toNat w.G))<|Fa (by(simp[*];omega):(Y wD (O (t.next (w.G.length:Int)).toNat w.G)).length+(Y wD (La (t.next (w.G.length:Int)+1).toNat w.G)).length<=2^30)<|Fa (ms:Y wD (O (t.next (w.G.length:Int)).toNat w.G)++Y wD (La (t.next (w.G.length:Int)+1).toNat w.G)=Y wD (O (t.next (w.G.length:Int)).toNat w.G++La (t.next (w.G.length:Int)+1).toNat w.G))<|Fr w.j.C.pw<|Fr w.j.C.pg<|Fr (Y wD w.j.W)<|Fr (Y Z0.dv w.j.P)<|Fr w.j.S<|Fr w.j.B<|Fa (by refine congrArg _ ?_;(simp[*];omega):Y wD (O (t.next (w.G.length:Int)).toNat w.G++La (t.next (w.G.length:Int)+1).toNat w.G)=Y wD (Zg.mk w.j (O (t.next (w.G.length:Int)).toNat w.G++La ((t.next (w.G.length:Int)).toNat+1) w.G) (w.E++[w.G.getD (t.next (w.G.length:Int)).toNat X])).G)<|Fr (Y wD (w.E++[w.G.getD (t.next (w.G.length:Int)).toNat X])) Fz;have a:w.drop t=⟨w.j,w.G.take (t.next (w.G.length:Int)).toNat++w.G.drop ((t.next (w.G.length:Int)).toNat+1),w.E⟩:=by rw[Zg.drop,if_pos c1,if_neg c2];rfl
  rw[a,b];exact lF func64 [Z]<|Fh 35 [.els (Y wD (O (t.next (w.G.length:Int)).toNat w.G))]<|Fh 40 [.els (Y wD (La (t.next (w.G.length:Int)+1).toNat w.G))]<|Fh 41 [.els (Y wD (O (t.next (w.G.length:Int)).toNat w.G++La (t.next (w.G.length:Int)+1).toNat w.G))]<|Fl 9 wD w.G<|Ftb 11 (L (0<(w.G.length:Int)))<|Fp 14 (@BJ t ((w.G.length:Int)) aa oq oq)<|Fp 16 (@BJ (t.step (w.G.length:Int)) (3) aa oq oq)<|Ffb 17 ((t.step (w.G.length:Int)).next (3:Int)==0)<|Fs 30 (Y wD [])<|Fa (by(simp only[Le];omega):0<=t.next (w.G.length:Int)/\t.next (w.G.length:Int)<=(↑(Y wD w.G).length:Int))<|Fa (ms:O (t.next (w.G.length:Int)).toNat (Y wD w.G)=Y wD (O (t.next (w.G.length:Int)).toNat w.G))<|Fa (by(simp[*];omega):(Y wD []).length+(Y wD (O (t.next (w.G.length:Int)).toNat w.G)).length<=2^30)<|Fs 34 (Y wD (O (t.next (w.G.length:Int)).toNat w.G))<|Fi 39 (t.next (w.G.length:Int)+1)<|Fa (by(simp only[Le];omega):0<=t.next (w.G.length:Int)+1/\t.next (w.G.length:Int)+1<=(↑(Y wD w.G).length:Int))<|Fa (ms:La (t.next (w.G.length:Int)+1).toNat (Y wD w.G)=Y wD (La (t.next (w.G.length:Int)+1).toNat w.G))<|Fa (by(simp[*];omega):(Y wD (O (t.next (w.G.length:Int)).toNat w.G)).length+(Y wD (La (t.next (w.G.length:Int)+1).toNat w.G)).length<=2^30)<|Fa (ms:Y wD (O (t.next (w.G.length:Int)).toNat w.G)++Y wD (La (t.next (w.G.length:Int)+1).toNat w.G)=Y wD (O (t.next (w.G.length:Int)).toNat w.G++La (t.next (w.G.length:Int)+1).toNat w.G))<|Fr w.j.C.pw<|Fr w.j.C.pg<|Fr (Y wD w.j.W)<|Fr (Y Z0.dv w.j.P)<|Fr w.j.S<|Fr w.j.B<|Fa (by refine congrArg _ ?_;(simp[*];omega):Y wD (O (t.next (w.G.length:Int)).toNat w.G++La (t.next (w.G.length:Int)+1).toNat w.G)=Y wD (Zg.mk w.j (O (t.next (w.G.length:Int)).toNat w.G++La ((t.next (w.G.length:Int)).toNat+1) w.G) w.E).G)<|Fr (Y wD w.E) Fz
 have a:w.drop t=w:=by rw[Zg.drop,if_neg c1]
 have b:w.dropT t=t:=by rw[Zg.dropT,if_neg c1]
 rw[a,b];exact lF func64 []<|Fl 9 wD w.G<|Ffb 11 (L (0<(w.G.length:Int))) Fz
def Re(h:Heap)(i:Nat):Tg:=⟨tm 65 [(1,.pt 8001 0 0),(2,.pt 8002 0 0),(6,nI (BW h.P i)),(7,nI i)],[(8002,.box 104 [nI 0,nI 0,uU 0]),(8001,.box 27 h.cells)],64⟩
def Zdl(h:Heap)(i:Nat)(c:Z9 h=Z)(hi:i<h.P.length):CP (Zn f57 2) (Re h i).st .nrm (Re h (i+1)).st:=by
 have po:=B7 c;have:=Rr h.P i;by_cases a:(h.P.getD i X).K=1;by_cases b:0<(h.P.getD i X).N;have e:BW h.P (i+1)=BW h.P i+1:=by rw[BW,if_pos ⟨a,b⟩]
 rw[Re,Re,e];exact sF [] []<|FN 35 36 42 Z0.dv h.P i<|FeG 50 ((h.P.getD i X).K==1) Z0.dv h.P (↑i) i<|Ftb 54 ((h.P.getD i X).K==1&&L (0<(h.P.getD i X).N))<|Fw 56 ((↑(BW h.P i):Int)+1) (↑(BW h.P i+1):Int)<|Fx 38 i Fz;have e:BW h.P (i+1)=BW h.P i:=by rw[BW,if_neg (λq=>b q.2)];rfl
 rw[Re,Re,e];exact sF [] []<|FN 35 36 42 Z0.dv h.P i<|FeG 50 ((h.P.getD i X).K==1) Z0.dv h.P (↑i) i<|Ffb 54 ((h.P.getD i X).K==1&&L (0<(h.P.getD i X).N))<|Fx 38 i Fz;have e:BW h.P (i+1)=BW h.P i:=by rw[BW,if_neg (λq=>a q.1)];rfl
 rw[Re,Re,e];exact sF [] []<|FN 35 36 42 Z0.dv h.P i<|FeG 50 ((h.P.getD i X).K==1) Z0.dv h.P (↑i) i<|Ffb 54 ((h.P.getD i X).K==1&&L (0<(h.P.getD i X).N))<|Fx 38 i Fz
def ZiD(h:Heap)(a:Z9 h=Z):CP (Zn f57 2) (Re h h.P.length).st (.ext 2) (Tg.st ⟨tm 65 [(1,.pt 8001 0 0),(2,.pt 8002 0 0),(6,nI (BW h.P h.P.length))],[(8002,.box 104 [nI 0,nI 0,uU 0]),(8001,.box 27 h.cells)],64⟩):=by have po:=B7 a;exact sF [] []<|FO 35 36 Z0.dv h.P Fz
def Z4G(h:Heap)(a:Z9 h=Z)  := Bs (S:=λk=>(Re h k).st) h.P.length (by kernel_rfl) (λk b=>Zdl h k a b) (ZiD h a)
def Zd7(h:Heap)(hw:Zz h.W)(a:Z9 h=Z)(hb:GA h=none)(hq:(ER h (Zt h).1).fault=0)(hc:h.C.pg/4<(BW h.P h.P.length:Nat)):GP 57 [h.av] Z (C8.mk 7 0 0).av []:=by have po:=B7 a;have:=Rr h.P h.P.length;exact gF [] func57 []<|Fc 9 (@CS h)<|Ffb 10 (!Z9 h)<|Fu (@Z3r h aa aa aa)<|Fc 27 (@Z2O h aa)<|Ffb 30 ((ER h (Zt h).1).fault != 0)<|Fu (@Z4G h aa)<|Fg 61 (by rw[Ly oq,E6 oq oq]:Ll.wrap (h.C.pg.tdiv 4)=h.C.pg/4)<|Fa (by decide:(4:Int)≠0)<|Ftb 62 (L (h.C.pg/4<(↑(BW h.P h.P.length):Int))) Fz
def ZdU(h:Heap)(hw:Zz h.W)(a:Z9 h=Z)(hb:GA h=none)(hq:(ER h (Zt h).1).fault=0)(hc:¬ h.C.pg/4<(BW h.P h.P.length:Nat)):GP 57 [h.av] Z (C8.mk 0 0 0).av []:=by have po:=B7 a;have:=Rr h.P h.P.length;exact gF [] func57 []<|Fc 9 (@CS h)<|Ffb 10 (!Z9 h)<|Fu (@Z3r h aa aa aa)<|Fc 27 (@Z2O h aa)<|Ffb 30 ((ER h (Zt h).1).fault != 0)<|Fu (@Z4G h aa)<|Fg 61 (by rw[Ly oq,E6 oq oq]:Ll.wrap (h.C.pg.tdiv 4)=h.C.pg/4)<|Fa (by decide:(4:Int)≠0)<|Ffb 62 (L (h.C.pg/4<(↑(BW h.P h.P.length):Int))) Fz
def Bl(h:Heap):C8:=
 if Z9 h=Z then
  match GA h with
  |some i=>pageF h i
  |none =>
   if(ER h (Zt h).1).fault≠0 then ER h (Zt h).1
   else if h.C.pg/4<(BW h.P h.P.length:Nat)then⟨7,0,0⟩else⟨0,0,0⟩
 else⟨1,0,0⟩
def O9(h:Heap)(c:Zz h.W):GP 57 [h.av] Z (Bl h).av []:=by
 unfold Bl;by_cases a:Z9 h=Z;rw[if_pos a];cases hb:GA h with|some i=>exact ZbP h c a i hb|none =>by_cases b:(ER h (Zt h).1).fault=0;simp only[b,ne_eq,not_true_eq_false,if_false];by_cases d:h.C.pg/4<(BW h.P h.P.length:Nat);rw[if_pos d];exact Zd7 h c a hb b d;rw[if_neg d];exact ZdU h c a hb b d;simp only[ne_eq,b,not_false_eq_true,if_true];exact Zd3 h c a hb b
 rw[if_neg a];exact Zi3 h c (by simpa using a)
def Z0s(h:Heap)(hw:Zz h.W):GP 22 [h.av] Z (bL (L (Bl h=⟨0,0,0⟩))) []:=by
 by_cases a:(Bl h).fault=0;by_cases b:(Bl h).page=0;by_cases c:(Bl h).addr=0;have e:L (Bl h=⟨0,0,0⟩)=Z:=by(apply decide_eq_true;revert a b c;cases Bl h;simp+contextual)
 rw[e];exact gF [] func22 [Z]<|Fc 4 (@O9 h aa)<|Fb (((Bl h).fault==0&&((Bl h).page==0&&(Bl h).addr==0))=Z) Fz;have e:L (Bl h=⟨0,0,0⟩)=M:=decide_eq_false (λq=>c (by rw[q]));rw[e];exact gF [] func22 [Z]<|Fc 4 (@O9 h aa)<|Fb (((Bl h).fault==0&&((Bl h).page==0&&(Bl h).addr==0))=M) Fz;have e:L (Bl h=⟨0,0,0⟩)=M:=decide_eq_false (λq=>b (by rw[q]));rw[e];exact gF [] func22 [Z]<|Fc 4 (@O9 h aa)<|Fb (((Bl h).fault==0&&((Bl h).page==0&&(Bl h).addr==0))=M) Fz;have e:L (Bl h=⟨0,0,0⟩)=M:=decide_eq_false (λq=>a (by rw[q]));rw[e];exact gF [] func22 [Z]<|Fc 4 (@O9 h aa)<|Fb (((Bl h).fault==0&&((Bl h).page==0&&(Bl h).addr==0))=M) Fz
def Z4s(h:Heap) refs(hw:Zz h.W)(hg:Bl h≠⟨0,0,0⟩):GP 36 [h.av,Z2 refs] Z (bL M) []:=by exact gF [] func36 []<|Fc 9 (@Z0s h aa)<|Ftb 10 (!decide (Bl h=C8.mk 0 0 0)) Fz
def DF(refs a:List Int)(i:Nat):Tg:=⟨tm 36 [(1,Z2 refs),(4,bL M),(5,Z2 a),(7,nI i)],[],60⟩
def Z9u(refs a:List Int)(i:Nat)(hl:refs.length<=1048576)(ha:a.length<=1048576)(hi:i<refs.length)(c:refs.getD i X=0\/refs.getD i X∈a):CP (Zn f36 0) (DF refs a i).st .nrm (DF refs a (i+1)).st:=by rcases c with c|c;exact sF [] []<|FN 18 19 24 wD refs i<|FeG 31 (refs.getD i X != 0) wD refs (↑i) i<|FcG 33 (refs.getD i X != 0) (λb=>by(try simp only[bs]at b);exact@Ei a (refs.getD i X) aa)<|Ffb 35 (refs.getD i X != 0&&!decide (refs.getD i X∈a))<|Fx 21 i Fz;by_cases h0:refs.getD i X=0;exact sF [] []<|FN 18 19 24 wD refs i<|FeG 31 (refs.getD i X != 0) wD refs (↑i) i<|FcG 33 (refs.getD i X != 0) (λb=>by(try simp only[bs]at b);exact@Ei a (refs.getD i X) aa)<|Ffb 35 (refs.getD i X != 0&&!decide (refs.getD i X∈a))<|Fx 21 i Fz;exact sF [] []<|FN 18 19 24 wD refs i<|FeG 31 (refs.getD i X != 0) wD refs (↑i) i<|FcG 33 (refs.getD i X != 0) (λb=>by(try simp only[bs]at b);exact@Ei a (refs.getD i X) aa)<|Ffs 35 (refs.getD i X != 0&&!decide (refs.getD i X∈a))<|Fx 21 i Fz
def Zfq(refs a:List Int)(i:Nat)(hl:refs.length<=1048576)(ha:a.length<=1048576)(hi:i<refs.length)(h0:refs.getD i X≠0)(hb:refs.getD i X∉a):CP (Zn f36 0) (DF refs a i).st .ret (Tg.st ⟨tm 36 [(4,bL M)],[],60⟩):=by exact sF [] []<|FN 18 19 24 wD refs i<|FeG 31 (refs.getD i X != 0) wD refs (↑i) i<|FcG 33 (refs.getD i X != 0) (λb=>by(try simp only[bs]at b);exact@Ei a (refs.getD i X) aa)<|Fts 35 (refs.getD i X != 0&&!decide (refs.getD i X∈a)) Fz
def Zi7 refs a:CP (Zn f36 0) (DF refs a refs.length).st (.ext 0) (Tg.st ⟨tm 36 [(4,bL M)],[],60⟩):=by exact sF [] []<|FO 18 19 wD refs Fz
def HF(refs a:List Int)(i:Nat):Bool:=L (refs.getD i X≠0/\refs.getD i X∉a)
def ZB(h:Heap)(refs:List Int):Bool:=L (Bl h=⟨0,0,0⟩)&&((Lf refs.length).find? (HF refs (Zt h).1)).isNone
section
variable(refs a:List Int)(hl:refs.length<=1048576)(b:a.length<=1048576)
include hl b
theorem ZhA(d:(Lf refs.length).find? (HF refs a)=none):CP (Zl f36 0) (DF refs a 0).st .nrm (Tg.st ⟨tm 36 [(4,bL M)],[],60⟩):=by refine Bs (S:=λk=>(DF refs a k).st) refs.length kr (λk c=>Z9u refs a k hl b c ?_) (Zi7 refs a);have:=List.find?_eq_none.1 d k (Lv.2 c);simp only[HF,decide_eq_true_eq,not_and,Lr]at this;by_cases h:refs.getD k X=0;exact Lh h;exact Li (this h)
theorem Zhr(i:Nat)(g:(Lf refs.length).find? (HF refs a)=some i):CP (Zl f36 0) (Tg.st ⟨tm 36 [(1,Z2 refs),(4,bL M),(5,Z2 a),(7,nI 0)],[],60⟩) .ret (Tg.st ⟨tm 36 [(4,bL M)],[],60⟩):=by obtain⟨c,d,f⟩:=List.find?_range_eq_some.1 g;have d:=Lv.1 d;simp only[HF,decide_eq_true_eq]at c;refine EF (S:=λk=>(DF refs a k).st) i kr (λm e=>Z9u refs a m hl b oq ?_) (Zfq refs a i hl b d c.1 c.2);have:=f m e;simp only[HF,Bool.not_eq_true',decide_eq_false_iff_not,not_and,Lr]at this;by_cases h:refs.getD m X=0;exact Lh h;exact Li (this h)
end
def G4(h:Heap)(refs:List Int)(b:Zz h.W)(hl:refs.length<=1048576):GP 36 [h.av,Z2 refs] Z (bL (ZB h refs)) []:=by
 have ho:=AI h;by_cases a:Bl h=⟨0,0,0⟩;cases hb:(Lf refs.length).find? (HF refs (Zt h).1)with
 |none =>
  have e:ZB h refs=Z:=by simp[ZB,a,hb]
  rw[e];exact gF [] func36 []<|Fc 9 (@Z0s h aa)<|Ffb 10 (!decide (Bl h=C8.mk 0 0 0))<|Fc 13 (@Mu h aa)<|Fu (@ZhA refs ((Zt h).1) aa oq aa) Fz
 |some i =>
  have e:ZB h refs=M:=by simp[ZB,a,hb]
  rw[e];exact gF [] func36 []<|Fc 9 (@Z0s h aa)<|Ffb 10 (!decide (Bl h=C8.mk 0 0 0))<|Fc 13 (@Mu h aa)<|Fu (@Zhr refs ((Zt h).1) aa oq i hb) Fz
 have e:ZB h refs=M:=by simp[ZB,a]
 rw[e];exact Z4s h refs b a
structure GB where
 copied:Int
 kept:Int
 filled:Int
 freed:Int
 cleared:Int
 steps:Int
 deriving Inhabited
def GB.cells(r:GB):List AV:=[nI r.copied,nI r.kept,nI r.filled,nI r.freed,nI r.cleared,nI r.steps]
structure Z8 where
 j:Heap
 old:List Int
 T:List Int
 Q:List Int
 D:Int
 rep:GB
 deriving Inhabited
def Z8.cells(w:Z8):List AV:=w.j.cells++[Z2 w.old,ZG w.T,Z2 w.Q,nI w.D]++w.rep.cells
def Z8.av(w:Z8):AV:=.ag w.cells
def ES:Z8:=⟨ZH,[],[],[],0,⟨0,0,0,0,0,0⟩⟩
def ZQ(w:Int):Int×Bool:=if w%4=2/\w/4<4294967296 then(w/4,Z)else(0,M)
theorem AG(w:Int)(h0:0<=w)(h1:w<=18446744073709551615):GP 149 [uU w] Z (.tu [uU (ZQ w).1,bL (ZQ w).2]) []:=by have Q0 {h_ c_ p_} (r_:Fq h_ c_ p_):=Fg 5 (Lz oq:w.tmod 4=w%4)<|Fa (by decide:(4:Int)≠0)<|Fa (by intro hg;(try simp only[bs]at hg);exact HE rfl dd:(!w%(4:Int) != 2)=Z->w.fdiv (2^min (LA 2) 64)=w/4)<|Fa (by intro hg;(try simp only[bs]at hg);omega:(!w%(4:Int) != 2)=Z->(0:Int)<=2) r_;rcases bb (w%(4:Int) != 2||L (4294967296<=w/4))with hc0|hc0<;>have hc0p:=hc0<;>simp only[bs]at hc0p;rw[show ZQ w=((0:Int),M)from by(simp[ZQ, *];omega)];exact gF [] func149 []<|Fh 9 [.int (w/4)] (Q0 (Ft 11 hc0 Fz));obtain⟨hc0pa,hc0pb⟩:=hc0p;rw[show ZQ w=(w/(4:Int),Z)from by simp[ZQ, *]];exact gF [] func149 []<|Fh 13 [.int (w/4)] (Q0 (Ff 11 hc0<|Fg 9 (HE rfl dd:w.fdiv (2^min (LA 2) 64)=w/4)<|Fo ((0:Int)<=2) Fz))
def ZjE(a:Int)(h0:0<=a)(h1:a<4294967296):GP 196 [uU a] Z (.tu [uU (4*a+2),nI 0]) []:=by exact gF [] func196 []<|Ffb 5 (L (4294967296<=a))<|Fv 7 (4*a)<|Fv 8 (4*a+2) Fz
def ZR(w:Z8)(i:Int):Bool:=L (0<=i/\i<w.j.P.length/\(w.j.P.getD i.toNat X).K=1/\(w.j.P.getD i.toNat X).S≠w.j.S/\i∉w.T)
def Z8.keep(w:Z8)(r:Int):Z8:=⟨w.j,w.old,w.T,w.Q++[r],w.D,⟨w.rep.copied,w.rep.kept+1,w.rep.filled,w.rep.freed,w.rep.cleared,w.rep.steps⟩⟩
def ZS(w:Z8):Int:=w.T.getD ((w.T.length:Int)-1).toNat X
def EC(w:Z8)(n:Int):Prop:=0<w.T.length/\(w.j.P.getD (ZS w).toNat X).U+n<=w.j.C.pw
instance (w:Z8) (n:Int):Decidable (EC w n):=by unfold EC;infer_instance
def B3(w:Z8):Int:=first w.j.P 1
def G2(w:Z8):List Z0:=Ib ⟨w.j.C,w.j.W,w.j.P,1-w.j.S,w.j.B⟩
def Z8.place(w:Z8)(n:Int):Z8×Int×Bool:=
 if EC w n then(⟨⟨w.j.C,w.j.W,Cw w.j.P (ZS w).toNat n,w.j.S,w.j.B⟩,w.old,w.T,w.Q,w.D,w.rep⟩,4096+ZS w*w.j.C.pw+(w.j.P.getD (ZS w).toNat X).U,Z)
 else if 0<=B3 w then(⟨⟨w.j.C,w.j.W,Cw (G2 w) (B3 w).toNat n,w.j.S,w.j.B⟩,w.old,w.T++[B3 w],w.Q,w.D,w.rep⟩,4096+B3 w*w.j.C.pw,Z)
 else(ES,0,M)
def Nz(s:Int)(p:Z0):Z0:=⟨p.K,s,p.U,p.N⟩
def ZK(l:List Z0)(i m:Nat)(s:Int):List Z0:=(Lf l.length).map λj=>if i<=j/\j<=i+m then Nz s (l.getD j X)else l.getD j X
def ZC(l:List Z0)(i:Nat):Nat:=((l.drop (i+1)).takeWhile λp=>p.K==3).length
def Z8.flip(w:Z8)(i:Nat):Z8:=⟨⟨w.j.C,w.j.W,ZK w.j.P i (ZC w.j.P i) (1-w.j.S),w.j.S,w.j.B⟩,w.old,w.T,w.Q,w.D,w.rep⟩
def Z8.copy(w:Z8)(r a n:Int):Z8:=⟨⟨w.j.C,(Cj (moveA w.j.W a r n).1 r (4*a+2)).1,w.j.P,w.j.S,w.j.B⟩,w.old,w.T,w.Q++[a],w.D,⟨w.rep.copied+1,w.rep.kept,w.rep.filled,w.rep.freed,w.rep.cleared,w.rep.steps⟩⟩
def Zx(w:Z8)(r:Int):Zo:=(Z7 (Z5 w.j.W r).1).1
def ED(w:Z8)(r:Int):Nat:=(Z4 w.j.C r).1.toNat
def Z8.fwd(w:Z8)(r:Int):Z8×Int×Int:=
 if r=0\/r∈w.Q then(w,r,0)
 else if r∉w.old then(ES,0,19)
 else if(ZQ (Z5 w.j.W r).1).2=Z then(w,(ZQ (Z5 w.j.W r).1).1,0)
 else if(Z4 w.j.C r).2.2≠0 then(ES,0,19)
 else if ZR w (Z4 w.j.C r).1=Z then(w.keep r,r,0)
 else if(w.j.P.getD (ED w r) X).K=2 then((w.flip (ED w r)).keep r,r,0)
 else if(w.place (Z1 (Zx w r))).2.2=M then(ES,0,3)
 else((w.place (Z1 (Zx w r))).1.copy r (w.place (Z1 (Zx w r))).2.1 (Z1 (Zx w r)),(w.place (Z1 (Zx w r))).2.1,0)
def Rz(pw:Int)(p:Z0):Nat:=if p.K=0 then pw.toNat else(pw-p.U).toNat
def Nq(pw:Int)(l:List Z0):Nat:=(l.map (Rz pw)).sum
def SA(old q:List Int):Nat:=(old.filter λx=>L (x∉q)).length
def muW(w:Z8):Nat:=SA w.old w.Q+Nq w.j.C.pw w.j.P
structure Bh (w:Z8):Prop where
 W:Zz w.j.W
 wl:w.j.W.length<=4096
 C:Zm w.j.C=Z
 pl:(w.j.P.length:Int)=w.j.C.pg
 sp:w.j.S=0\/w.j.S=1
 ol:w.old.length<=524288
 o:∀x∈w.old,0<=x/\x<=8192
 tk:∀x∈w.T,0<=x/\x<w.j.P.length/\(w.j.P.getD x.toNat X).K=1
 tl:w.T.length<=w.Q.length
 q:∀x∈w.Q,0<=x/\x<=16384
 us:∀j,j<w.j.P.length->0<=(w.j.P.getD j X).U/\(w.j.P.getD j X).U<=1024
 mu:w.Q.length+muW w<=1000000
 sc:0<=w.D/\w.D<=w.Q.length
 rk:0<=w.rep.kept/\0<=w.rep.copied/\w.rep.kept+w.rep.copied<=w.Q.length
 rs:0<=w.rep.steps/\w.rep.steps<=1000*w.D
 r0:w.rep.filled=0/\w.rep.freed=0/\w.rep.cleared=0
def Z59 pw(p:Z0):∀(l:List Z0) (i:Nat),i<l.length->Nq pw (l.set i p)+Rz pw (l.getD i X)=Nq pw l+Rz pw p
 |[],i,h=>by simp at h
 |x::l,0,_=>by simp[Nq];omega
 |x::l,i+1,h=>by
  have:=Z59 pw p l i (by simpa using h);simp only[Nq,List.set_cons_succ,List.map_cons,List.sum_cons,List.getD_cons_succ]at this⊢;omega
def Z7U(old q:List Int)(r:Int):(old.filter λx=>L (x∉q++[r]))=(old.filter λx=>L (x∉q)).filter λx=>L (x≠r):=by rw[List.filter_filter];refine List.filter_congr λx _=>?_;by_cases a:x∈q<;>by_cases b:x=r<;>simp[a,b]
def Zft(old q:List Int)(r:Int):SA old (q++[r])<=SA old q:=by unfold SA;rw[Z7U];exact List.length_filter_le _ _
def ZkD{old q:List Int}{r:Int}(a:r∈old)(b:r∉q):SA old (q++[r])<SA old q:=by unfold SA;rw[Z7U];exact List.length_filter_lt_length_iff_exists.2 ⟨r,List.mem_filter.2 ⟨a,by simpa using b⟩,by simp⟩
theorem Z0V{l:List Z0}{i:Nat}{p q:Z0}(h:i<l.length):ZF l i 1 p q=l.set i p:=by
 unfold ZF;have e:wr l (LI 1 q) i 1=l.set i q:=by(have:=Z01 (ws:=l) (l:=LI 1 q) (i:=i) (k:=0) qo pq q;rw[Tc]at this;simpa using this.symm)
 rw[e,LJ]
def EH{l:List Z0}{i j:Nat}{p:Z0}(h:i<l.length):(l.set i p).getD j X=if i=j then p else l.getD j X:=by simp only[Lb,List.getElem?_set,h];split;rename_i e;subst e;simp;rfl
theorem HK l i m s:(ZK l i m s).length=l.length:=by simp[ZK]
theorem Ia{l:List Z0}{i m s}{j:Nat}(h:j<l.length):(ZK l i m s).getD j X=if i<=j/\j<=i+m then Nz s (l.getD j X)else l.getD j X:=by simp[ZK,h,Lb]
def Zaw pw l i m s:Nq pw (ZK l i m s)=Nq pw l:=by
 unfold Nq;congr 1;refine Ls (by simp[ZK]) λj h1 a=>?_;have h:j<l.length:=by simpa using a
 simp only[ZK,List.map_map,Lt,Lu,Function.comp];have e:l.getD j X=l[j]:=by simp[Lb,h]
 rw[e];split;rfl;rfl
abbrev sZ(w:Z8)(r:Int):Int:=Z1 (Z7 (Z5 w.j.W r).1).1
abbrev lT(w:Z8):Int:=w.T.getD ((w.T.length:Int)-1).toNat X
def Z6z w r(a:Bh w):GP 193 [w.av,uU r] M (w.keep r).av []:=by have h1:=a.mu;have h2:=a.rk;exact gF [] func193 []<|Fh 11 [.els (Y wD (w.Q++[r]))]<|FAx 5 8 wD w.Q (by(simp[Z8.keep, *];omega))<|Fs 10 (Y wD [r])<|Fa (by(simp[Z8.keep, *];omega):(Y wD w.Q).length+(Y wD [r]).length<=2^30)<|Fa (by simp[Z8.keep,Lq,Lo,Lp,Lj,wD,iD]:Y wD w.Q++Y wD [r]=Y wD (w.Q++[r]))<|Fi 16 (w.rep.kept+1) Fz
def DN(w:Z8)(x:Int)(i:Nat):Tg:=⟨tm 20 [(1,nI x),(2,.pt 8002 0 0),(4,bL M),(5,nI i)],[(8002,.box 142 w.cells)],60⟩
def Z8w(w:Z8)(x:Int)(i:Nat)(hl:w.T.length<=1048576)(hi:i<w.T.length)(hv:¬ w.T.getD i X=x):CP (Zn f198 0) (DN w x i).st .nrm (DN w x (i+1)).st:=by exact sF [] []<|FN 9 10 16 iD w.T i<|Ffb 19 (w.T.getD i X==x)<|Fx 12 i Fz
def ZdY(w:Z8)(x:Int)(i:Nat)(hl:w.T.length<=1048576)(hi:i<w.T.length)(hv:w.T.getD i X=x):CP (Zn f198 0) (DN w x i).st .ret (Tg.st ⟨tm 20 [(4,bL Z)],[],60⟩):=by exact sF [] []<|FN 9 10 16 iD w.T i<|Ftb 19 (w.T.getD i X==x) Fz
def ZcR w x:CP (Zn f198 0) (DN w x w.T.length).st (.ext 0) (Tg.st ⟨tm 20 [],[],60⟩):=by exact sF [] []<|FO 9 10 iD w.T Fz
def ZlM(w:Z8)(x:Int)(hl:w.T.length<=1048576)(h:x∉w.T)  := Bs (S:=λi=>(DN w x i).st) w.T.length (by kernel_rfl) (λi a=>Z8w w x i hl a λe=>h (C1.2 ⟨i,a,e⟩)) (ZcR w x)
def Zfm(w:Z8)(x:Int)(hl:w.T.length<=1048576)(h:x∈w.T):CP (Zl f198 0) (Tg.st ⟨tm 20 [(1,nI x),(2,.pt 8002 0 0),(4,bL M),(5,nI 0)],[(8002,.box 142 w.cells)],60⟩) .ret (Tg.st ⟨tm 20 [(4,bL Z)],[],60⟩):=by obtain⟨i,a,b⟩:=Z2y (C1.1 h);exact EF (S:=λi=>(DN w x i).st) i kr (λj hj=>Z8w w x j hl oq λe=>by have:=b j ⟨by omega,e⟩;omega) (ZdY w x i hl a.1 a.2)
def Zjh(w:Z8) i(hl:w.T.length<=1048576):GP 198 [w.av,nI i] Z (bL (L (i∈w.T))) []:=by by_cases h:i∈w.T;rw[decide_eq_true h];exact gF [] func198 []<|Fu (@Zfm w i aa aa) Fz;rw[decide_eq_false h];exact gF [] func198 []<|Fu (@ZlM w i aa aa) Fz
def Ap(w:Z8) i(hl:w.T.length<=1048576)(hp:w.j.P.length<=1048576):GP 150 [w.av,nI i] Z (bL (ZR w i)) []:=by rcases bb (L (i<0)||L ((w.j.P.length:Int)<=i))with hc0|hc0<;>have a:=hc0<;>simp only[bs]at a;exact gF [] func150 (fO 6)<|FlG 13 (!decide (i<0)) Z0.dv w.j.P<|Ft 15 hc0<|Fa (by(simp[ZR, *];omega):M=ZR w i) Fz;obtain⟨c,d⟩:=a;let b:=w.j.P.getD i.toNat X;exact gF [] func150 (fO 16)<|FlG 13 (!decide (i<0)) Z0.dv w.j.P<|Ff 15 hc0<|Fe 20 Z0.dv w.j.P i<|FcG 36 (b.K==1&&b.S != w.j.S) (λe=>by(try simp only[bs]at e);exact@Zjh w i aa)<|Fa (by grind[ZR]:(b.K==1&&b.S != w.j.S&&!decide (i∈w.T))=ZR w i) Fz
def Z89 w(a:Int)(b:Bh w)(h0:0<=a/\a<=18446744073709551615):GP 151 [w.av,uU a] Z (Zx w a).av []:=by have h1:=b.wl;have h2:=EW b.W a;exact gF [] func151 []<|Fc 14 (@HV w.j.W a oq aa)<|Fc 19 (@Aw ((Z5 w.j.W a).1) oq oq) Fz
theorem OX{ws l}(h:Zz ws)(hl:Zz l) a:Zz (ZZ ws a l).1:=by unfold ZZ;split;intro x b;simp only[C6,Lk]at b;rcases b with(b|b)|b;exact h x (LH b);exact hl x b;exact h x (LG b);exact Ai
def Z39 ws l a:(ZZ ws a l).1.length<=ws.length:=by unfold ZZ;split;simp only;rw[Nx oq];exact Lg _;simp
theorem Z0Z{ws}(h:Zz ws){v:Int}(c:0<=v/\v<=18446744073709551615) a:Zz (Cj ws a v).1:=OX h (by intro x b;simp at b;subst b;exact c) a
def Z6s ws a v:(Cj ws a v).1.length<=ws.length:=Z39 ws [v] a
def Zdp{ws}(h:Zz ws) a n:Zz (C4 ws a n).1:=by
 unfold C4;repeat' split
 exact Ai;intro x b;exact h x (LG (LH b));exact Ai
def Zla{ws}(h:Zz ws) a b n:Zz (moveA ws a b n).1:=by unfold moveA;split;exact Ai;exact OX h (Zdp h b n) a
def Z8V ws a b n:(moveA ws a b n).1.length<=ws.length:=by unfold moveA;split;simp;exact Z39 _ _ _
def Bh.withWords{w}(a:Bh w){l}(h:Zz l)(hl:l.length<=4096):Bh ⟨⟨w.j.C,l,w.j.P,w.j.S,w.j.B⟩,w.old,w.T,w.Q,w.D,w.rep⟩:=
 ⟨h,hl,a.C,a.pl,a.sp,a.ol,a.o,a.tk,a.tl,a.q,a.us,a.mu,a.sc,a.rk,a.rs,a.r0⟩
def Za1{w}(a:Bh w){r:Int}(c:r∈w.old)(d:r∉w.Q):Bh (w.keep r):=by have e:=a.mu;have hl:=ZkD c d;have ho:=a.o r c;have hs:=a.sc;have hk:=a.rk;have ht:=a.tl;unfold muW at e;refine⟨a.W,a.wl,a.C,a.pl,a.sp,a.ol,a.o,a.tk, ?_, ?_,a.us, ?_, ?_, ?_,a.rs,a.r0⟩;simp only[Z8.keep,Lc,Ld];omega;intro x b;simp only[Z8.keep,Lk,Lw]at b;rcases b with b|rfl;exact a.q x b;omega;simp only[muW,Z8.keep,Lc,Ld];omega;simp only[Z8.keep,Lc,Ld];omega;simp only[Z8.keep,Lc,Ld];omega
def Z76{w}(a:Bh w) i:Bh (w.flip i):=by refine⟨a.W,a.wl,a.C, ?_,a.sp,a.ol,a.o, ?_,a.tl,a.q, ?_, ?_,a.sc,a.rk,a.rs,a.r0⟩;simp only[Z8.flip,HK];exact a.pl;intro x c;have:=a.tk x c;simp only[Z8.flip,HK];refine⟨this.1,this.2.1, ?_⟩;rw[Ia oq];split;exact this.2.2;exact this.2.2;intro j b;simp only[Z8.flip,HK]at b⊢;have:=a.us j b;rw[Ia b];split;exact this;exact this;have:=a.mu;simp only[muW,Z8.flip,Zaw]at this⊢;exact this
theorem Hh{w:Z8}(h:0<w.T.length):ZS w∈w.T:=by unfold ZS;exact C1.2 ⟨((w.T.length:Int)-1).toNat,by omega,rfl⟩
def Z2z{w}{n:Int}(a:Bh w)(hn:1<=n)(h:(w.place n).2.2=Z) :∃(i:Nat) (p:Z0) (t:List Int),i<w.j.P.length/\p.K=1/\0<=p.U/\p.U<=1024+n/\(p.U<=64\/p.U=n)/\Rz w.j.C.pw p+1<=Rz w.j.C.pw (w.j.P.getD i X)/\t.length<=w.T.length+1/\(∀x∈t,x∈w.T\/x=(i:Int))/\4096<=(w.place n).2.1/\(w.place n).2.1<=12288 /\
  (w.place n).1=⟨⟨w.j.C,w.j.W,w.j.P.set i p,w.j.S,w.j.B⟩,w.old,t,w.Q,w.D,w.rep⟩:=by
 have hb:=BR.1 a.C;have v:=a.pl;by_cases c:EC w n;have e:w.place n=(⟨⟨w.j.C,w.j.W,Cw w.j.P (ZS w).toNat n,w.j.S,w.j.B⟩,w.old,w.T,w.Q,w.D,w.rep⟩,4096+ZS w*w.j.C.pw+(w.j.P.getD (ZS w).toNat X).U,Z):=by rw[Z8.place,if_pos c]
 unfold EC at c;have g:=a.tk _ (Hh c.1);have hu:=a.us (ZS w).toNat oq;have u:=Il a.C g.1 oq;refine⟨(ZS w).toNat,⟨(w.j.P.getD (ZS w).toNat X).K,(w.j.P.getD (ZS w).toNat X).S,(w.j.P.getD (ZS w).toNat X).U+n,(w.j.P.getD (ZS w).toNat X).N⟩,w.T,by omega,g.2.2,by simp only;omega,by simp only;omega,Lh (by simp only;omega), ?_,by omega,λx b=>Lh b, ?_, ?_, ?_⟩;have f:=g.2.2;simp only[Rz,f,if_neg (show¬ (1:Int)=0 by decide)];omega;rw[e];simp only;omega;rw[e];simp only;omega;rw[e];rfl;by_cases d:0<=B3 w;have e:w.place n=(⟨⟨w.j.C,w.j.W,Cw (G2 w) (B3 w).toNat n,w.j.S,w.j.B⟩,w.old,w.T++[B3 w],w.Q,w.D,w.rep⟩,4096+B3 w*w.j.C.pw,Z):=by rw[Z8.place,if_neg c,if_pos d]
 obtain⟨j,q,r,k⟩:=Nm (h:=⟨w.j.C,w.j.W,w.j.P,1-w.j.S,w.j.B⟩) (by have:=a.sp;simp only;omega) d;obtain⟨g1,g2,s⟩:=HU d;simp only at j q r k;have l:(B3 w).toNat<w.j.P.length:=by unfold B3;omega
 have u:=Il a.C d (by unfold B3;omega);have f:(w.j.P.getD (B3 w).toNat X).K=0:=by(have:=Al.1 s 0 dd;simpa[B3]using this)
 have y:Cw (G2 w) (B3 w).toNat n=w.j.P.set (B3 w).toNat ⟨1,1-w.j.S,n,0⟩:=by
  unfold Cw;have o:(G2 w).getD (B3 w).toNat X=⟨1,1-w.j.S,0,0⟩:=k;rw[o];have m:G2 w=w.j.P.set (B3 w).toNat ⟨1,1-w.j.S,0,0⟩:=by(have:G2 w=ZF w.j.P (B3 w).toNat 1 ⟨1,1-w.j.S,0,0⟩ ⟨0,0,0,0⟩:=j;rw[this,Z0V l])
  rw[m,LJ];simp
 refine⟨(B3 w).toNat,⟨1,1-w.j.S,n,0⟩,w.T++[B3 w],l,rfl,by simp only;omega,by simp only;omega,Li rfl, ?_,by simp, ?_, ?_, ?_, ?_⟩;simp only[Rz,f];simp;omega;intro x b;simp only[Lk,Lw]at b;rcases b with b|rfl;exact Lh b;exact Li oq;rw[e];simp only;omega;rw[e];simp only;omega;rw[e,y];rw[Z8.place,if_neg c,if_neg d]at h;simp at h
def ZbY{w}(b:Bh w){r n:Int}(hr:r∈w.old)(hq:r∉w.Q)(s:1<=n/\n<=256)(h:(w.place n).2.2=Z):Bh ((w.place n).1.copy r (w.place n).2.1 n):=by obtain⟨i,p,t,d,f,h3,h4,k,h5,h6,l,m,o,e⟩:=Z2z b s.1 h;generalize (w.place n).2.1=a at m o;rw[e];have q:=b.mu;have hs:=Z59 w.j.C.pw p w.j.P i d;have u:=b.sc;have hk:=b.rk;have ht:=b.tl;have hl:=Zft w.old w.Q a;unfold muW at q;have w1:=Zla b.W a r n;have l1:=Z8V w.j.W a r n;have l2:=Z6s (moveA w.j.W a r n).1 r (4*a+2);have l0:=b.wl;refine⟨Z0Z w1 oq r, ?_,b.C, ?_,b.sp,b.ol,b.o, ?_, ?_, ?_, ?_, ?_, ?_, ?_,b.rs,b.r0⟩;simp only[Z8.copy];omega;simp only[Z8.copy,Ln];exact b.pl;intro x c;simp only[Z8.copy,Ln]at c⊢;rcases l x c with c|c;have:=b.tk x c;refine⟨this.1,this.2.1, ?_⟩;rw[EH d];split;exact f;exact this.2.2;subst c;refine⟨by omega,by omega, ?_⟩;rw[EH d,if_pos pq];exact f;simp only[Z8.copy,Lc,Ld];omega;intro x c;simp only[Z8.copy,Lk,Lw]at c;rcases c with c|rfl;exact b.q x c;omega;intro j g;simp only[Z8.copy,Ln]at g⊢;rw[EH d];split;omega;exact b.us j g;simp only[muW,Z8.copy,Lc,Ld];omega;simp only[Z8.copy,Lc,Ld];omega;simp only[Z8.copy,Lc,Ld];omega
def Z6l{v:Int}(h:0<=v):0<=(ZQ v).1/\(ZQ v).1<=4294967295:=by unfold ZQ;split<;>simp only<;>omega
def Mg v:ZV (Z7 v).1=Z:=by
 cases e:(Z7 v).2 with|true=>exact Z2G e|false =>unfold Z7 at e⊢;split;rename_i a;rw[if_pos a]at e;cases e;decide
def NE w r:1<=Z1 (Zx w r)/\Z1 (Zx w r)<=256:=by have a:ZV (Zx w r)=Z:=Mg _;have:=GC.1 a;rw[Z1,if_pos a];omega
def Z0i{w}(a:Bh w) r(e:(w.fwd r).2.2=0):Bh (w.fwd r).1/\0<=(w.fwd r).2.1/\(w.fwd r).2.1<=4294967296/\w.Q.length<=(w.fwd r).1.Q.length/\(w.fwd r).1.D=w.D/\(w.fwd r).1.rep.steps=w.rep.steps:=by
 have q:=EW a.W r;have o:=Z6l q.1;unfold Z8.fwd at e⊢;split at e;rename_i c1;rw[if_pos c1];refine⟨a, ?_, ?_,Lg _,rfl,rfl⟩;rcases c1 with c1|c1;simp only;omega;exact(a.q r c1).1;rcases c1 with c1|c1;simp only;omega;have:=a.q r c1;simp only;omega;rename_i c1;rw[if_neg c1];have c:r∉w.Q:=λh=>c1 (Li h);split at e;simp at e;rename_i c2;rw[if_neg c2];have b:r∈w.old:=Lr.1 c2;have l:=a.o r b;split at e;rename_i c3;rw[if_pos c3];exact⟨a,o.1,by simp only;omega,Lg _,rfl,rfl⟩;rename_i c3;rw[if_neg c3];split at e;simp at e;rename_i c4;rw[if_neg c4];split at e;rename_i f;rw[if_pos f];exact⟨Za1 a b c,l.1,by simp only;omega,by simp[Z8.keep],rfl,rfl⟩;rename_i f;rw[if_neg f];split at e;rename_i g;rw[if_pos g];exact⟨Za1 (Z76 a _) b c,l.1,by simp only;omega,by simp[Z8.keep,Z8.flip],rfl,rfl⟩;rename_i g;rw[if_neg g];split at e;simp at e;rename_i k;rw[if_neg k];have d:(w.place (Z1 (Zx w r))).2.2=Z:=by simpa using k
 have m:=NE w r;obtain⟨i,p,t,h1,h2,h3,h4,n,h5,h6,h7,h8,h9,j⟩:=Z2z a m.1 d;refine⟨ZbY a b c m d, ?_, ?_, ?_, ?_, ?_⟩;simp only;omega;simp only;omega;simp only[Z8.copy];rw[j];simp;simp only[Z8.copy];rw[j];simp only[Z8.copy];rw[j]
def Z5w w(n:Int)(b:Bh w)(hn:1<=n/\n<=256):GP 194 [w.av,nI n] M (.tu [(w.place n).1.av,uU (w.place n).2.1,bL (w.place n).2.2]) []:=by
 have q:=b.C;have hb:=BR.1 q;have o:=b.pl;have m:=b.mu;have p:=b.tl;have hr:=Z1M w.j.P 1;by_cases c:EC w n;have a:w.place n=(⟨⟨w.j.C,w.j.W,Cw w.j.P (ZS w).toNat n,w.j.S,w.j.B⟩,w.old,w.T,w.Q,w.D,w.rep⟩,4096+ZS w*w.j.C.pw+(w.j.P.getD (ZS w).toNat X).U,Z):=by rw[Z8.place,if_pos c]
 unfold EC at c;have d:=b.tk _ (Hh c.1);have f:=b.us (ZS w).toNat oq;have j:=Il b.C d.1 oq;unfold ZS at d f j c a;rw[show w.place n=(Z8.mk (Heap.mk w.j.C w.j.W (w.j.P.set (w.T.getD ((w.T.length:Int)-(1:Int)).toNat X).toNat (Z0.mk (w.j.P.getD (w.T.getD ((w.T.length:Int)-(1:Int)).toNat X).toNat X).K (w.j.P.getD (w.T.getD ((w.T.length:Int)-(1:Int)).toNat X).toNat X).S ((w.j.P.getD (w.T.getD ((w.T.length:Int)-(1:Int)).toNat X).toNat X).U+n) (w.j.P.getD (w.T.getD ((w.T.length:Int)-(1:Int)).toNat X).toNat X).N)) w.j.S w.j.B) w.old w.T w.Q w.D w.rep,(4096:Int)+w.T.getD ((w.T.length:Int)-(1:Int)).toNat X*w.j.C.pw+(w.j.P.getD (w.T.getD ((w.T.length:Int)-(1:Int)).toNat X).toNat X).U,Z)from by rw[a];rfl];exact gF [] func194 []<|FA 10 14 Z0.dv w.j.P<|Fl 19 iD w.T<|FiG 29 (L (0<(w.T.length:Int))) ((w.T.length:Int)-1)<|FeGq 30 (L (0<(w.T.length:Int))) iD w.T ((w.T.length:Int)-1)<|FmGq 34 (L (0<(w.T.length:Int))) Z0.dv w.j.P (w.T.getD ((w.T.length:Int)-1).toNat X)<|FiG 36 (L (0<(w.T.length:Int))) ((w.j.P.getD (w.T.getD ((w.T.length:Int)-1).toNat X).toNat X).U+n)<|Ftb 42 (L (0<(w.T.length:Int))&&L ((w.j.P.getD (w.T.getD ((w.T.length:Int)-1).toNat X).toNat X).U+n<=w.j.C.pw))<|Fi 46 ((w.T.length:Int)-1)<|Fe 47 iD w.T ((w.T.length:Int)-1)<|Fi 83 (w.T.getD ((w.T.length:Int)-1).toNat X*w.j.C.pw)<|Fi 84 (4096+w.T.getD ((w.T.length:Int)-1).toNat X*w.j.C.pw)<|Fmq 91 Z0.dv w.j.P (w.T.getD ((w.T.length:Int)-1).toNat X)<|Fi 92 (4096+w.T.getD ((w.T.length:Int)-1).toNat X*w.j.C.pw+(w.j.P.getD (w.T.getD ((w.T.length:Int)-1).toNat X).toNat X).U)<|Fv 93 (4096+w.T.getD ((w.T.length:Int)-1).toNat X*w.j.C.pw+(w.j.P.getD (w.T.getD ((w.T.length:Int)-1).toNat X).toNat X).U)<|Fmq 104 Z0.dv w.j.P (w.T.getD ((w.T.length:Int)-1).toNat X)<|Fi 106 ((w.j.P.getD (w.T.getD ((w.T.length:Int)-1).toNat X).toNat X).U+n)<|Fm0q Z0.dv w.j.P (w.T.getD ((w.T.length:Int)-1).toNat X)<|FS 10108 Z0.dv w.j.P ((w.T.getD ((w.T.length:Int)-1).toNat X).toNat) (Z0.mk (w.j.P.getD (w.T.getD ((w.T.length:Int)-1).toNat X).toNat X).K (w.j.P.getD (w.T.getD ((w.T.length:Int)-1).toNat X).toNat X).S ((w.j.P.getD (w.T.getD ((w.T.length:Int)-1).toNat X).toNat X).U+n) (w.j.P.getD (w.T.getD ((w.T.length:Int)-1).toNat X).toNat X).N) ((w.j.P.getD (w.T.getD ((w.T.length:Int)-1).toNat X).toNat X).dv) Fz;by_cases e:0<=first w.j.P 1
 have a:w.place n=(⟨⟨w.j.C,w.j.W,Cw (G2 w) (first w.j.P 1).toNat n,w.j.S,w.j.B⟩,w.old,w.T++[first w.j.P 1],w.Q,w.D,w.rep⟩,4096+first w.j.P 1*w.j.C.pw,Z):=by rw[Z8.place,if_neg c,if_pos (show 0<=B3 w from e)];rfl
 obtain⟨g,k,r,i⟩:=Nm (h:=⟨w.j.C,w.j.W,w.j.P,1-w.j.S,w.j.B⟩) (by have:=b.sp;simp only;omega) e;obtain⟨r1,r2,r3⟩:=HU e;simp only at g k r i;rw[g]at k i;have l:G2 w=_:=g;rw[l]at a;have r4:HJ w.j.P (first w.j.P 1).toNat 1=Z:=r3;have j:=Il b.C e oq;have s:=congrArg Z0.U i;simp only at s;have hs:=b.sp;have d:0<w.T.length->0<=ZS w/\ZS w<w.j.P.length:=λh=>⟨(b.tk _ (Hh h)).1,(b.tk _ (Hh h)).2.1⟩;have f:=λh=>b.us (ZS w).toNat h;unfold EC at c;unfold ZS at c d f;exact gF [] func194 (fO 19)<|Fh 76 [.els (Y iD (w.T++[first w.j.P 1]))]<|FA 10 14 Z0.dv w.j.P<|Fl 19 iD w.T<|FiG 29 (L (0<(w.T.length:Int))) ((w.T.length:Int)-1)<|FeGq 30 (L (0<(w.T.length:Int))) iD w.T ((w.T.length:Int)-1)<|FmGq 34 (L (0<(w.T.length:Int))) Z0.dv w.j.P (w.T.getD ((w.T.length:Int)-1).toNat X)<|FiG 36 (L (0<(w.T.length:Int))) ((w.j.P.getD (w.T.getD ((w.T.length:Int)-1).toNat X).toNat X).U+n)<|Ffb 42 (L (0<(w.T.length:Int))&&L ((w.j.P.getD (w.T.getD ((w.T.length:Int)-1).toNat X).toNat X).U+n<=w.j.C.pw))<|Fc 52 (@Dr w.j.P (1) oq)<|Ffb 54 (L (first w.j.P (1:Int)<0))<|Fi 64 (1-w.j.S)<|Fc 65 (@Z9n w.j.P (first w.j.P 1) (1-w.j.S) oq oq oq aa)<|FA 70 73 iD w.T<|Fs 75 (Y iD [first w.j.P 1])<|Fa (by(simp[*];omega):(Y iD w.T).length+(Y iD [first w.j.P 1]).length<=2^30)<|Fa (ms:Y iD w.T++Y iD [first w.j.P 1]=Y iD (w.T++[first w.j.P 1]))<|Fi 83 (first w.j.P 1*w.j.C.pw)<|Fi 84 (4096+first w.j.P 1*w.j.C.pw)<|Fmq 91 Z0.dv (ZF w.j.P (first w.j.P 1).toNat 1 (Z0.mk 1 (1-w.j.S) 0 0) (Z0.mk 0 0 0 0)) (first w.j.P 1)<|Fi 92 (4096+first w.j.P 1*w.j.C.pw+((ZF w.j.P (first w.j.P 1).toNat 1 (Z0.mk 1 (1-w.j.S) 0 0) (Z0.mk 0 0 0 0)).getD (first w.j.P 1).toNat X).U)<|Fv 93 (4096+first w.j.P 1*w.j.C.pw+((ZF w.j.P (first w.j.P 1).toNat 1 (Z0.mk 1 (1-w.j.S) 0 0) (Z0.mk 0 0 0 0)).getD (first w.j.P 1).toNat X).U)<|Fmq 104 Z0.dv (ZF w.j.P (first w.j.P 1).toNat 1 (Z0.mk 1 (1-w.j.S) 0 0) (Z0.mk 0 0 0 0)) (first w.j.P 1)<|Fi 106 (((ZF w.j.P (first w.j.P 1).toNat 1 (Z0.mk 1 (1-w.j.S) 0 0) (Z0.mk 0 0 0 0)).getD (first w.j.P 1).toNat X).U+n)<|Fm0q Z0.dv (ZF w.j.P (first w.j.P 1).toNat 1 (Z0.mk 1 (1-w.j.S) 0 0) (Z0.mk 0 0 0 0)) (first w.j.P 1)<|FS 10108 Z0.dv (ZF w.j.P (first w.j.P 1).toNat 1 (Z0.mk 1 (1-w.j.S) 0 0) (Z0.mk 0 0 0 0)) ((first w.j.P 1).toNat) (Z0.mk ((ZF w.j.P (first w.j.P 1).toNat 1 (Z0.mk 1 (1-w.j.S) 0 0) (Z0.mk 0 0 0 0)).getD (first w.j.P 1).toNat X).K ((ZF w.j.P (first w.j.P 1).toNat 1 (Z0.mk 1 (1-w.j.S) 0 0) (Z0.mk 0 0 0 0)).getD (first w.j.P 1).toNat X).S (((ZF w.j.P (first w.j.P 1).toNat 1 (Z0.mk 1 (1-w.j.S) 0 0) (Z0.mk 0 0 0 0)).getD (first w.j.P 1).toNat X).U+n) ((ZF w.j.P (first w.j.P 1).toNat 1 (Z0.mk 1 (1-w.j.S) 0 0) (Z0.mk 0 0 0 0)).getD (first w.j.P 1).toNat X).N) (((ZF w.j.P (first w.j.P 1).toNat 1 (Z0.mk 1 (1-w.j.S) 0 0) (Z0.mk 0 0 0 0)).getD (first w.j.P 1).toNat X).dv)<|Fa (by rw[a]:w.j.C.pw=(w.place n).1.j.C.pw)<|Fa (by rw[a]:w.j.C.pg=(w.place n).1.j.C.pg)<|Fa (by refine congrArg _ ?_;rw[a]:Y wD w.j.W=Y wD (w.place n).1.j.W)<|Fa (by refine congrArg _ ?_;rw[a];rfl:Y Z0.dv ((ZF w.j.P (first w.j.P 1).toNat 1 (Z0.mk 1 (1-w.j.S) 0 0) (Z0.mk 0 0 0 0)).set (first w.j.P 1).toNat (Z0.mk ((ZF w.j.P (first w.j.P 1).toNat 1 (Z0.mk 1 (1-w.j.S) 0 0) (Z0.mk 0 0 0 0)).getD (first w.j.P 1).toNat X).K ((ZF w.j.P (first w.j.P 1).toNat 1 (Z0.mk 1 (1-w.j.S) 0 0) (Z0.mk 0 0 0 0)).getD (first w.j.P 1).toNat X).S (((ZF w.j.P (first w.j.P 1).toNat 1 (Z0.mk 1 (1-w.j.S) 0 0) (Z0.mk 0 0 0 0)).getD (first w.j.P 1).toNat X).U+n) ((ZF w.j.P (first w.j.P 1).toNat 1 (Z0.mk 1 (1-w.j.S) 0 0) (Z0.mk 0 0 0 0)).getD (first w.j.P 1).toNat X).N))=Y Z0.dv (w.place n).1.j.P)<|Fa (by rw[a]:w.j.S=(w.place n).1.j.S)<|Fa (by rw[a]:w.j.B=(w.place n).1.j.B)<|Fa (by refine congrArg _ ?_;rw[a]:Y wD w.old=Y wD (w.place n).1.old)<|Fa (by refine congrArg _ ?_;rw[a]:Y iD (w.T++[first w.j.P 1])=Y iD (w.place n).1.T)<|Fa (by refine congrArg _ ?_;rw[a]:Y wD w.Q=Y wD (w.place n).1.Q)<|Fa (by rw[a]:w.D=(w.place n).1.D)<|Fa (by rw[a]:w.rep.copied=(w.place n).1.rep.copied)<|Fa (by rw[a]:w.rep.kept=(w.place n).1.rep.kept)<|Fa (by rw[a]:w.rep.filled=(w.place n).1.rep.filled)<|Fa (by rw[a]:w.rep.freed=(w.place n).1.rep.freed)<|Fa (by rw[a]:w.rep.cleared=(w.place n).1.rep.cleared)<|Fa (by rw[a]:w.rep.steps=(w.place n).1.rep.steps)<|Fa (by grind[]:4096+first w.j.P 1*w.j.C.pw+((ZF w.j.P (first w.j.P 1).toNat 1 (Z0.mk 1 (1-w.j.S) 0 0) (Z0.mk 0 0 0 0)).getD (first w.j.P 1).toNat X).U=(w.place n).2.1)<|Fa (by rw[a]:Z=(w.place n).2.2) Fz;have a:w.place n=(ES,0,M):=by rw[Z8.place,if_neg c,if_neg (show¬ 0<=B3 w from e)]
 have d:0<w.T.length->0<=ZS w/\ZS w<w.j.P.length:=λh=>⟨(b.tk _ (Hh h)).1,(b.tk _ (Hh h)).2.1⟩;have f:=λh=>b.us (ZS w).toNat h;unfold EC at c;unfold ZS at c d f;rw[a];exact gF [] func194 []<|FAx 10 14 Z0.dv w.j.P (by(simp[ES,ZH, *];omega))<|Fl 19 iD w.T<|FiG 29 (L (0<(w.T.length:Int))) ((w.T.length:Int)-1)<|FeGq 30 (L (0<(w.T.length:Int))) iD w.T ((w.T.length:Int)-1)<|FmGq 34 (L (0<(w.T.length:Int))) Z0.dv w.j.P (w.T.getD ((w.T.length:Int)-1).toNat X)<|FiG 36 (L (0<(w.T.length:Int))) ((w.j.P.getD (w.T.getD ((w.T.length:Int)-1).toNat X).toNat X).U+n)<|Ffb 42 (L (0<(w.T.length:Int))&&L ((w.j.P.getD (w.T.getD ((w.T.length:Int)-1).toNat X).toNat X).U+n<=w.j.C.pw))<|Fc 52 (@Dr w.j.P (1) oq)<|Ftb 54 (L (first w.j.P (1:Int)<0))<|Fnl (Fnl (Fnl (Fnl (Fnl Fz))))
def Zq{α:Type}(f:α->α)(l:List α)(i:Nat):List α:=(l.take i).map f++l.drop i
def Z2c{α:Type}(f:α->α)(l:List α):Zq f l 0=l:=by simp[Zq]
theorem Oe{α:Type}(f:α->α)(l:List α):Zq f l l.length=l.map f:=by simp[Zq]
def Ry{α:Type}(f:α->α)(l:List α)(i:Nat):(Zq f l i).length=l.length:=by simp[Zq];omega
def Tw{α:Type}(f:α->α)(l:List α){i j:Nat}(h:i<=j)(d:α):(Zq f l i).getD j d=l.getD j d:=by
 rw[Lb,Lb];congr 1;by_cases hi:i<=l.length
 .rw[Zq,List.getElem?_append_right qo];simp only[Le,LF,List.getElem?_drop];congr 1;omega
 .rw[Lm (by rw[Ry];omega),Lm oq]
def Tn{α:Type} f(l:List α){i:Nat}(h:i<l.length)(d:α):(Zq f l i).set i (f (l.getD i d))=Zq f l (i+1):=by
 have e:l.getD i d=l[i]:=by simp[Lb,h]
 rw[e,Zq,Zq,List.take_succ_eq_append_getElem h,Lj,List.set_append_right i _ qo,List.append_assoc];congr 1;have:l.drop i=l[i]::l.drop (i+1):=List.drop_eq_getElem_cons h;rw[show i-(Y f (O i l)).length=0 by simp;omega,this];rfl
theorem PK{α:Type}(f:α->α)(l:List α){i:Nat}(h:i<l.length)(d:α)(b:f (l.getD i d)=l.getD i d):Zq f l i=Zq f l (i+1):=by
 rw[<-Tn f l h d,b,<-Tw f l (Lg i) d];have a:i<(Zq f l i).length:=by rw[Ry];exact h
 rw[show(Zq f l i).getD i d=(Zq f l i)[i] by simp[Lb,a],List.set_getElem_self]
def Zs(s:Int)(p:Z0):Z0:=if p.K=1/\0<p.N then⟨p.K,s,p.U,p.N⟩else p
def MU(h:Heap)(a:List Int)(i:Nat):Tg:=⟨tm 61 [(1,.pt 8001 0 0),(2,.pt 8002 0 0),(3,nI 0),(4,.pt 32004 0 0),(5,nI i)],[(32004,.box 142 [nI h.C.pw,nI h.C.pg,Z2 h.W,.ow 48026,nI h.S,nI h.B,Z2 a,.d (.sl 0 []),.d (.sl 0 []),nI 0,nI 0,nI 0,nI 0,nI 0,nI 0,nI 0]),(48026,.arr 79 4 ((Zq (Zs (1-h.S)) h.P i).map Z0.dv)),(8002,.box 142 zW),(8001,.box 27 h.cells)],60⟩
section
variable(h:Heap)(a:List Int)(hs:h.S=0\/h.S=1)(hl:h.P.length<=1048576)
include hs hl
theorem ZeK(i:Nat)(q:i<h.P.length):CP (Zn f90 0) (MU h a i).st .nrm (MU h a (i+1)).st:=by
 have m:=Tw (Zs (1-h.S)) h.P (Lg i) X;have hn:=Ry (Zs (1-h.S)) h.P i;by_cases g:(h.P.getD i X).K=1/\0<(h.P.getD i X).N
 .have j:=Tn (Zs (1-h.S)) h.P q X;rw[show Zs (1-h.S) (h.P.getD i X)=⟨(h.P.getD i X).K,1-h.S,(h.P.getD i X).U,(h.P.getD i X).N⟩ by rw[Zs,if_pos g],<-m]at j;rw[<-m]at g;have o {h_ c_ p_} (n:Fq h_ c_ p_):=Fl 33 Z0.dv (Zq (Zs ((1:Int)-h.S)) h.P i)<|Ftb 34 (L ((i:Int)<(↑(Zq (Zs (1-h.S)) h.P i).length:Int)))<|Fmq 42 Z0.dv (Zq (Zs (1-h.S)) h.P i) (↑i) n;rcases bb (((Zq (Zs (1-h.S)) h.P i).getD (i:Int).toNat X).K==1&&L (0<((Zq (Zs (1-h.S)) h.P i).getD (i:Int).toNat X).N))with hc0|hc0<;>have b:=hc0<;>simp only[bs]at b
  .obtain⟨c,d⟩:=b;let k:=Zq (Zs (1-h.S)) h.P i;let e:=k.getD (i:Int).toNat X;exact sF [] (fO 9) (o (Ft 50 hc0<|Fi 57 (1-h.S)<|Fm0q Z0.dv k (↑i)<|FS 10059 Z0.dv k ((i:Int).toNat) (Z0.mk e.K (1-h.S) e.U e.N) (e.dv)<|Fx 36 i<|Fr (79:Int)<|Fa (by refine congrArg _ ?_;exact j:Y Z0.dv (k.set (i:Int).toNat (Z0.mk e.K (1-h.S) e.U e.N))=Y Z0.dv (Zq (Zs (1-h.S)) h.P (i+1))) Fz))
  .exact sF [] (fO 9) (o (Ff 50 hc0<|Fx 36 i<|Fr (79:Int)<|Fa (by refine congrArg _ ?_;grind[]:Y Z0.dv (Zq (Zs (1-h.S)) h.P i)=Y Z0.dv (Zq (Zs (1-h.S)) h.P (i+1))) Fz))
 .have j:=PK (Zs (1-h.S)) h.P q X (by rw[Zs,if_neg g]);rw[<-m]at g;have p {h_ c_ p_} (n:Fq h_ c_ p_):=Fl 33 Z0.dv (Zq (Zs ((1:Int)-h.S)) h.P i)<|Ftb 34 (L ((i:Int)<(↑(Zq (Zs (1-h.S)) h.P i).length:Int)))<|Fmq 42 Z0.dv (Zq (Zs (1-h.S)) h.P i) (↑i) n;rcases bb (((Zq (Zs (1-h.S)) h.P i).getD (i:Int).toNat X).K==1&&L (0<((Zq (Zs (1-h.S)) h.P i).getD (i:Int).toNat X).N))with hc0|hc0<;>have b:=hc0<;>simp only[bs]at b
  .obtain⟨c,d⟩:=b;let l:=Zq (Zs (1-h.S)) h.P i;let f:=l.getD (i:Int).toNat X;exact sF [] (fO 9) (p (Ft 50 hc0<|Fi 57 (1-h.S)<|Fm0q Z0.dv l (↑i)<|FS 10059 Z0.dv l ((i:Int).toNat) (Z0.mk f.K (1-h.S) f.U f.N) (f.dv)<|Fx 36 i<|Fr (79:Int)<|Fa (by refine congrArg _ ?_;grind[]:Y Z0.dv (l.set (i:Int).toNat (Z0.mk f.K (1-h.S) f.U f.N))=Y Z0.dv (Zq (Zs (1-h.S)) h.P (i+1))) Fz))
  .exact sF [] (fO 9) (p (Ff 50 hc0<|Fx 36 i<|Fr (79:Int)<|Fa (by refine congrArg _ ?_;exact j:Y Z0.dv (Zq (Zs (1-h.S)) h.P i)=Y Z0.dv (Zq (Zs (1-h.S)) h.P (i+1))) Fz))
omit hs hl in
theorem ZfJ:CP (Zn f90 0) (MU h a h.P.length).st (.ext 0) (Tg.st ⟨tm 61 [(2,.pt 8002 0 0),(3,nI 0),(4,.pt 32004 0 0)],[(32004,.box 142 [nI h.C.pw,nI h.C.pg,Z2 h.W,.ow 48026,nI h.S,nI h.B,Z2 a,.d (.sl 0 []),.d (.sl 0 []),nI 0,nI 0,nI 0,nI 0,nI 0,nI 0,nI 0]),(48026,.arr 79 4 ((h.P.map (Zs (1-h.S))).map Z0.dv)),(8002,.box 142 zW)],60⟩):=by
 have hq:=Oe (Zs (1-h.S)) h.P;have hn:=Ry (Zs (1-h.S)) h.P h.P.length;exact sF [] (fO 4)<|Fl 33 Z0.dv (Zq (Zs ((1:Int)-h.S)) h.P h.P.length)<|Ffb 34 (L ((h.P.length:Int)<(↑(Zq (Zs (1-h.S)) h.P h.P.length).length:Int)))<|Fr (79:Int)<|Fa (by refine congrArg _ ?_;assumption:Y Z0.dv (Zq (Zs (1-h.S)) h.P h.P.length)=Y Z0.dv (Y (Zs (1-h.S)) h.P)) Fz
theorem ZeA:CP (Zl f90 0) (Tg.st ⟨tm 61 [(1,.pt 8001 0 0),(2,.pt 8002 0 0),(3,nI 0),(4,.pt 32004 0 0),(5,nI 0)],[(32004,.box 142 [nI h.C.pw,nI h.C.pg,Z2 h.W,.ow 48026,nI h.S,nI h.B,Z2 a,.d (.sl 0 []),.d (.sl 0 []),nI 0,nI 0,nI 0,nI 0,nI 0,nI 0,nI 0]),(48026,.arr 79 4 (h.P.map Z0.dv)),(8002,.box 142 zW),(8001,.box 27 h.cells)],60⟩) .nrm (Tg.st ⟨tm 61 [(2,.pt 8002 0 0),(3,nI 0),(4,.pt 32004 0 0)],[(32004,.box 142 [nI h.C.pw,nI h.C.pg,Z2 h.W,.ow 48026,nI h.S,nI h.B,Z2 a,.d (.sl 0 []),.d (.sl 0 []),nI 0,nI 0,nI 0,nI 0,nI 0,nI 0,nI 0]),(48026,.arr 79 4 ((h.P.map (Zs (1-h.S))).map Z0.dv)),(8002,.box 142 zW)],60⟩):=by
 have:=Bs (S:=λk=>(MU h a k).st) h.P.length kr (λk b=>ZeK h a hs hl k b) (ZfJ h a);simp only[MU,Z2c]at this;exact this
end
def Zv(h:Heap):Z8:=⟨⟨h.C,h.W,h.P.map (Zs (1-h.S)),h.S,h.B⟩,(Zt h).1,[],[],0,⟨0,0,0,0,0,0⟩⟩
def Pq(h:Heap)(hw:Zz h.W)(a:Z9 h=Z)(hg:Bl h=⟨0,0,0⟩):GP 90 [h.av] M (.tu [(Zv h).av,nI 0]) []:=by have po:=B7 a;have ho:=AI h;exact gF [] func90 []<|Fc 8 (@CS h)<|Ffb 9 (!Z9 h)<|Fc 12 (@Z0s h aa)<|Ffb 13 (!decide (Bl h=C8.mk 0 0 0))<|Fc 19 (@Mu h aa)<|FAx 23 26 Z0.dv h.P (by(simp[Zv, *];omega))<|Fu (@ZeA h ((Zt h).1) oq oq)<|Fnl (Fnl Fz)
def Zix w(r:Int)(d:Bh w)(c:0<=r/\r<=18446744073709551615)(b:r=0\/r∈w.Q):GP 147 [w.av,uU r] M (.tu [w.av,uU r,nI 0]) []:=by have h1:=d.mu;rcases b with b|b;exact gF [] func147 []<|FcG 29 (!r==0) (λa=>by(try simp only[bs]at a);exact@Ei w.Q r oq)<|Ftb 30 (r==0||L (r∈w.Q)) Fz;by_cases c:r=0;exact gF [] func147 []<|FcG 29 (!r==0) (λa=>by(try simp only[bs]at a);exact@Ei w.Q r oq)<|Ftb 30 (r==0||L (r∈w.Q)) Fz;exact gF [] func147 []<|FcG 29 (!r==0) (λa=>by(try simp only[bs]at a);exact@Ei w.Q r oq)<|Fts 30 (r==0||L (r∈w.Q)) Fz
def Zfe w(r:Int)(a:Bh w)(h0:0<=r/\r<=18446744073709551615)(c1:r≠0)(c2:r∉w.Q)(c3:r∉w.old):GP 147 [w.av,uU r] M (.tu [ES.av,uU 0,nI 19]) []:=by have h1:=a.mu;have h2:=a.ol;exact gF [] func147 []<|FcG 29 (!r==0) (λb=>by(try simp only[bs]at b);exact@Ei w.Q r oq)<|Ffs 30 (r==0||L (r∈w.Q))<|Fc 36 (@Ei w.old r oq)<|Ftb 37 (!decide (r∈w.old))<|Fnl (Fnl (Fnl (Fnl (Fnl Fz))))
def ZhH w(r:Int)(a:Bh w)(h0:0<=r/\r<=18446744073709551615)(c1:r≠0)(c2:r∉w.Q)(c3:r∈w.old)(c4:(ZQ (Z5 w.j.W r).1).2=Z):GP 147 [w.av,uU r] M (.tu [w.av,uU (ZQ (Z5 w.j.W r).1).1,nI 0]) []:=by have h1:=a.mu;have h2:=a.ol;have h3:=a.wl;have h4:=EW a.W r;exact gF [] func147 []<|Fh 52 [.br Z]<|FcG 29 (!r==0) (λb=>by(try simp only[bs]at b);exact@Ei w.Q r oq)<|Ffs 30 (r==0||L (r∈w.Q))<|Fc 36 (@Ei w.old r oq)<|Ffb 37 (!decide (r∈w.old))<|Fc 44 (@HV w.j.W r oq aa)<|Fc 49 (@AG ((Z5 w.j.W r).1) oq oq)<|Fa ‹(ZQ (Z5 w.j.W r).1).2=Z› Fz
def ZfN w(r:Int)(a:Bh w)(h0:0<=r/\r<=18446744073709551615)(c1:r≠0)(c2:r∉w.Q)(c3:r∈w.old)(c4:(ZQ (Z5 w.j.W r).1).2=M)(c5:(Z4 w.j.C r).2.2≠0):GP 147 [w.av,uU r] M (.tu [ES.av,uU 0,nI 19]) []:=by have h1:=a.mu;have h2:=a.ol;have h3:=a.wl;have h4:=EW a.W r;exact gF [] func147 []<|Fh 52 [.br M]<|FcG 29 (!r==0) (λb=>by(try simp only[bs]at b);exact@Ei w.Q r oq)<|Ffs 30 (r==0||L (r∈w.Q))<|Fc 36 (@Ei w.old r oq)<|Ffb 37 (!decide (r∈w.old))<|Fc 44 (@HV w.j.W r oq aa)<|Fc 49 (@AG ((Z5 w.j.W r).1) oq oq)<|Fa ‹(ZQ (Z5 w.j.W r).1).2=M›<|Fc 60 (@Hn w.j.C r oq oq)<|FlG 71 (!(Z4 w.j.C r).2.2 != 0) Z0.dv w.j.P<|Ftb 73 ((Z4 w.j.C r).2.2 != 0||L ((w.j.P.length:Int)<=(Z4 w.j.C r).1))<|Fnl (Fnl (Fnl (Fnl (Fnl Fz))))
def AK{α:Type} p:∀(l:List α) (m:Nat),m<(l.takeWhile p).length->∃h:m<l.length,p l[m]=Z
 |[],m,h=>by simp at h
 |x::l,m,h=>by
  rw[Lx]at h;split at h
  .rename_i b;cases m with
   |zero=>exact⟨by simp,b⟩
   |succ m =>
    obtain⟨h1,a⟩:=AK p l m (by simpa using h);exact⟨by simp;omega,by simpa using a⟩
  .simp at h
def Ar{α:Type} p:∀(l:List α) (h:(l.takeWhile p).length<l.length),p l[(l.takeWhile p).length]=M
 |[],h=>by simp at h
 |x::l,h=>by
  by_cases a:p x=Z
  .have e:((x::l).takeWhile p).length=(l.takeWhile p).length+1:=by rw[Lx,if_pos a];rfl
   have:=Ar p l (by simp only[e,LD]at h;omega);simp only[e,List.getElem_cons_succ];exact this
  .have e:((x::l).takeWhile p).length=0:=by rw[Lx,if_neg a];rfl
   simp only[e,List.getElem_cons_zero];simpa using a
def Sd{l}{i m:Nat}(h:m<ZC l i):i+1+m<l.length/\(l.getD (i+1+m) X).K=3:=by
 obtain⟨b,c⟩:=AK _ _ _ h;have a:i+1+m<l.length:=by simp at b;omega
 refine⟨a, ?_⟩;simpa[Lb,a]using c
theorem Mv{l}{i:Nat}(h:i+1+ZC l i<l.length):¬ (l.getD (i+1+ZC l i) X).K=3:=by
 have b:=Ar (λp:Z0=>p.K==3) (l.drop (i+1)) (by simp;unfold ZC at h;omega);intro c;have d:(l.drop (i+1))[ZC l i]' qo=l.getD (i+1+ZC l i) X:=by simp[Lb,h]
 have a:(((l.drop (i+1))[ZC l i]' qo).K==3)=M:=b;rw[d,c]at a;simp at a
def Z6i{l i}(s:Int):ZK l i 0 s=l.set i (Nz s (l.getD i X)):=by
 refine Ls (by simp[ZK]) λj h1 b=>?_;have h:j<l.length:=by simpa using b
 have e:l.getD j X=l[j]:=by simp[Lb,h]
 simp only[ZK,Lt,Lu,LC,e];by_cases a:i=j;subst a;rw[if_pos oq,if_pos rfl,e];rw[if_neg oq,if_neg a]
def Z57{l:List Z0}{i m:Nat} s(h:i+1+m<l.length):(ZK l i m s).set (i+1+m) (Nz s (l.getD (i+1+m) X))=ZK l i (m+1) s:=by
 refine Ls (by simp[ZK]) λj h1 c=>?_;have h:j<l.length:=by simpa[ZK]using c
 have e:l.getD j X=l[j]:=by simp[Lb,h]
 simp only[ZK,Lt,Lu,LC,e];by_cases a:i+1+m=j;subst a;rw[if_pos rfl,if_pos oq,e];rw[if_neg a];by_cases b:i<=j/\j<=i+m;rw[if_pos b,if_pos oq];rw[if_neg b,if_neg oq]
def Z0o{l i m} s:(ZK l i m s).getD (i+1+m) X=l.getD (i+1+m) X:=by by_cases h:i+1+m<l.length;rw[Ia h,if_neg oq];rw[Lb,Lb,Lm (by rw[HK];omega),Lm oq]
def P0(w:Z8)(r x:Int)(m:Nat):Tg:=⟨tm 202 [(1,uU r),(2,.pt 8002 0 0),(4,.pt 8004 0 0),(5,uU 0),(6,nI 0),(14,nI (x+1+m))],[(88094,.arr 79 4 ((ZK w.j.P x.toNat m (1-w.j.S)).map Z0.dv)),(8002,.box 142 [nI w.j.C.pw,nI w.j.C.pg,Z2 w.j.W,.ow 88094,nI w.j.S,nI w.j.B,Z2 w.old,ZG w.T,Z2 w.Q,nI w.D,nI w.rep.copied,nI w.rep.kept,nI w.rep.filled,nI w.rep.freed,nI w.rep.cleared,nI w.rep.steps]),(8004,.box 142 zW)],60⟩
def ZaD(w:Z8)(r x:Int)(m:Nat)(hs:w.j.S=0\/w.j.S=1)(hl:w.j.P.length<=1048576)(hx:0<=x)(j:m<ZC w.j.P x.toNat):CP (Zn f147 0) (P0 w r x m).st .nrm (P0 w r x (m+1)).st:=by
 have e:=Sd j;have f:=Z0o (l:=w.j.P) (i:=x.toNat) (m:=m) (1-w.j.S);have hn:=HK w.j.P x.toNat m (1-w.j.S);have d:=Z57 (1-w.j.S) e.1;unfold Nz at d;rw[<-f]at d e;have h:x.toNat+1+m=(x+1+(m:Int)).toNat:=by omega
 have eI:((x.toNat+1+m:Nat):Int)=x+1+(m:Int):=by omega
 rw[h]at f d e;let b:=ZK w.j.P x.toNat m (1-w.j.S);let c:=x+1+(m:Int);let a:=b.getD c.toNat X;let g:=x+1+(m:Int)<(b.length:Int);exact sF [] (fP 13)<|Fl 113 Z0.dv (ZK w.j.P x.toNat m ((1:Int)-w.j.S))<|FmGq 122 (decide g) Z0.dv b c<|Ftb 124 (decide g&&a.K==3)<|Fi 134 (1-w.j.S)<|Fm0q Z0.dv b c<|FS 10136 Z0.dv b (c.toNat) (Z0.mk a.K (1-w.j.S) a.U a.N) (a.dv)<|Fi 126 (x+1+(m:Int)+1)<|Fo (x+1+(m:Int)+1=x+1+(↑(m+1):Int))<|Fr (79:Int)<|Fa (by refine congrArg _ ?_;exact d:Y Z0.dv (b.set c.toNat (Z0.mk a.K (1-w.j.S) a.U a.N))=Y Z0.dv (ZK w.j.P x.toNat (m+1) (1-w.j.S))) Fz
def Zjw(w:Z8)(r x:Int)(hl:w.j.P.length<=1048576)(hx:0<=x):CP (Zn f147 0) (P0 w r x (ZC w.j.P x.toNat)).st (.ext 0) (Tg.st ⟨tm 202 [(1,uU r),(2,.pt 8002 0 0),(4,.pt 8004 0 0),(5,uU 0),(6,nI 0)],[(88094,.arr 79 4 ((ZK w.j.P x.toNat (ZC w.j.P x.toNat) (1-w.j.S)).map Z0.dv)),(8002,.box 142 [nI w.j.C.pw,nI w.j.C.pg,Z2 w.j.W,.ow 88094,nI w.j.S,nI w.j.B,Z2 w.old,ZG w.T,Z2 w.Q,nI w.D,nI w.rep.copied,nI w.rep.kept,nI w.rep.filled,nI w.rep.freed,nI w.rep.cleared,nI w.rep.steps]),(8004,.box 142 zW)],60⟩):=by
 have c:=λh=>Mv (l:=w.j.P) (i:=x.toNat) h;have b:=Z0o (l:=w.j.P) (i:=x.toNat) (m:=ZC w.j.P x.toNat) (1-w.j.S);have hn:=HK w.j.P x.toNat (ZC w.j.P x.toNat) (1-w.j.S);have a:x.toNat+1+ZC w.j.P x.toNat=(x+1+(ZC w.j.P x.toNat:Int)).toNat:=by omega
 rw[<-b,a]at c;exact sF [] []<|Fl 113 Z0.dv (ZK w.j.P x.toNat (ZC w.j.P x.toNat) ((1:Int)-w.j.S))<|FmGq 122 (L (x+1+(↑(ZC w.j.P x.toNat):Int)<(↑(ZK w.j.P x.toNat (ZC w.j.P x.toNat) (1-w.j.S)).length:Int))) Z0.dv (ZK w.j.P x.toNat (ZC w.j.P x.toNat) (1-w.j.S)) (x+1+(↑(ZC w.j.P x.toNat):Int))<|Ffb 124 (L (x+1+(↑(ZC w.j.P x.toNat):Int)<(↑(ZK w.j.P x.toNat (ZC w.j.P x.toNat) (1-w.j.S)).length:Int))&&((ZK w.j.P x.toNat (ZC w.j.P x.toNat) (1-w.j.S)).getD (x+1+(↑(ZC w.j.P x.toNat):Int)).toNat X).K==3) Fz
section
variable(w:Z8)(r:Int)(hw:Bh w)(h0:0<=r/\r<=18446744073709551615)(c1:r≠0)(c2:r∉w.Q)(c3:r∈w.old)(c4:(ZQ (Z5 w.j.W r).1).2=M)(c5:(Z4 w.j.C r).2.2=0)
include hw h0 c1 c2 c3 c4 c5
theorem ZbT(c6:ZR w (Z4 w.j.C r).1=Z):GP 147 [w.av,uU r] M (.tu [(w.keep r).av,uU r,nI 0]) []:=by have h1:=hw.mu;have h2:=hw.ol;have h3:=hw.wl;have h4:=EW hw.W r;have h11:=IT (Z5 w.j.W r).1 h4.1;have h5:=hw.pl;have h6:=BR.1 hw.C;have h7:=hw.tl;have h8:=Hg hw.C c5;have Q0 {h_ c_ p_} (r_:Fq h_ c_ p_):=FcG 29 (!r==0) (λhg=>by(try simp only[bs]at hg);exact@Ei w.Q r oq) r_;rcases bb (r==0||L (r∈w.Q))with hc0|hc0<;>have hc0p:=hc0<;>simp only[bs]at hc0p;rw[show w.keep r=w from by grind[]];exact gF [] func147 [] (Q0 (Ft 30 hc0 Fz));obtain⟨hc0pa,hc0pb⟩:=hc0p;exact gF [] func147 []<|Fh 73 [.br M]<|Fh 77 [.call Z (bL (ZR w (Z4 w.j.C r).1)) [],.br Z] (Q0 (Ff 30 hc0<|Fc 36 (@Ei w.old r oq)<|Ffb 37 (!decide (r∈w.old))<|Fc 44 (@HV w.j.W r oq aa)<|Fc 49 (@AG ((Z5 w.j.W r).1) oq oq)<|Fa ‹(ZQ (Z5 w.j.W r).1).2=M›<|Fc 60 (@Hn w.j.C r oq oq)<|FlG 71 (!(Z4 w.j.C r).2.2 != 0) Z0.dv w.j.P<|Ffb 52 ((Z4 w.j.C r).2.2 != 0||L ((w.j.P.length:Int)<=(Z4 w.j.C r).1))<|Fa (@Ap w ((Z4 w.j.C r).1) oq oq)<|Fa ‹ZR w (Z4 w.j.C r).1=Z›<|Fc 80 (@Z6z w r aa) Fz))
theorem Zkj(c6:ZR w (Z4 w.j.C r).1=M)(c7:¬ (w.j.P.getD (ED w r) X).K=2)(c8:(w.place (Z1 (Zx w r))).2.2=M):GP 147 [w.av,uU r] M (.tu [ES.av,uU 0,nI 3]) []:=by have h1:=hw.mu;have h2:=hw.ol;have h3:=hw.wl;have h4:=EW hw.W r;have h11:=IT (Z5 w.j.W r).1 h4.1;have h5:=hw.pl;have h6:=BR.1 hw.C;have h7:=hw.tl;have h8:=Hg hw.C c5;have h9:=NE w r;unfold ED at c7;unfold Zx at h9 c8;have Q0 {h_ c_ p_} (r_:Fq h_ c_ p_):=FcG 29 (!r==0) (λhg=>by(try simp only[bs]at hg);exact@Ei w.Q r oq) r_;rcases bb (r==0||L (r∈w.Q))with hc0|hc0<;>have hc0p:=hc0<;>simp only[bs]at hc0p;rw[show ES=w from by grind[ES,ZH]];exact gF [] func147 (fO 4) (Q0 (Ft 30 hc0<|Fr w.j.C.pw<|Fr w.j.C.pg<|Fr (Y wD w.j.W)<|Fr (Y Z0.dv w.j.P)<|Fr w.j.S<|Fr w.j.B<|Fr (Y wD w.old)<|Fr (Y iD w.T)<|Fr (Y wD w.Q)<|Fr w.D<|Fr w.rep.copied<|Fr w.rep.kept<|Fr w.rep.filled<|Fr w.rep.freed<|Fr w.rep.cleared<|Fr w.rep.steps<|Fa (by grind[ES,ZH]:r=0)<|Fa (by grind[ES,ZH]:(0:Int)=3) Fz));obtain⟨hc0pa,hc0pb⟩:=hc0p;let y0:=Z7 (Z5 w.j.W r).1;exact gF [] func147 []<|Fh 77 [.call Z (bL (ZR w (Z4 w.j.C r).1)) [],.br M]<|Fh 89 [.br M] (Q0 (Ff 30 hc0<|Fc 36 (@Ei w.old r oq)<|Ffb 37 (!decide (r∈w.old))<|Fc 44 (@HV w.j.W r oq aa)<|Fc 49 (@AG ((Z5 w.j.W r).1) oq oq)<|Fa ‹(ZQ (Z5 w.j.W r).1).2=M›<|Fc 60 (@Hn w.j.C r oq oq)<|FlG 71 (!(Z4 w.j.C r).2.2 != 0) Z0.dv w.j.P<|Ffb 52 ((Z4 w.j.C r).2.2 != 0||L ((w.j.P.length:Int)<=(Z4 w.j.C r).1))<|Fa (@Ap w ((Z4 w.j.C r).1) oq oq)<|Fa ‹ZR w (Z4 w.j.C r).1=M›<|Fe 86 Z0.dv w.j.P ((Z4 w.j.C r).1)<|Ffb 73 ((w.j.P.getD (Z4 w.j.C r).1.toNat X).K==2)<|Fc 143 (@Aw ((Z5 w.j.W r).1) oq oq)<|Fc 147 (@Ix (y0.1) aa)<|Fc 151 (@Z5w w (Z1 y0.1) aa aa)<|Ftb 156 (!(w.place (Z1 y0.1)).2.2)<|Fnl (Fnl (Fnl (Fnl (Fnl Fz))))))
theorem Zis(c6:ZR w (Z4 w.j.C r).1=M)(c7:¬ (w.j.P.getD (ED w r) X).K=2)(c8:(w.place (Z1 (Zx w r))).2.2=Z):GP 147 [w.av,uU r] M (.tu [((w.place (Z1 (Zx w r))).1.copy r (w.place (Z1 (Zx w r))).2.1 (Z1 (Zx w r))).av,uU (w.place (Z1 (Zx w r))).2.1,nI 0]) []:=by have h1:=hw.mu;have h2:=hw.ol;have h3:=hw.wl;have h4:=EW hw.W r;have h11:=IT (Z5 w.j.W r).1 h4.1;have h5:=hw.pl;have h6:=BR.1 hw.C;have h7:=hw.tl;have h8:=Hg hw.C c5;have h9:=NE w r;have h10:=hw.rk;obtain⟨i,p,t,d1,d2,d3,d4,d4',d5,d6,d7,d8,d9,e⟩:=Z2z hw h9.1 c8;have e1:=congrArg (λw=>w.j.W) e;have e2:=congrArg (λw=>w.Q) e;have e3:=congrArg (λw=>w.rep) e;have e3c:=congrArg (λw=>w.rep.copied) e;simp only at e1 e2 e3 e3c;have l1:=Z8V w.j.W (w.place (Z1 (Zx w r))).2.1 r (Z1 (Zx w r));unfold ED at c7;unfold Zx at *;have Q0 {h_ c_ p_} (r_:Fq h_ c_ p_):=FcG 29 (!r==0) (λhg=>by(try simp only[bs]at hg);exact@Ei w.Q r oq) r_;rcases bb (r==0||L (r∈w.Q))with hc0|hc0<;>have hc0p:=hc0<;>simp only[bs]at hc0p;rw[show(w.place (Z1 (Z7 (Z5 w.j.W r).1).1)).1.copy r (w.place (Z1 (Z7 (Z5 w.j.W r).1).1)).2.1 (Z1 (Z7 (Z5 w.j.W r).1).1)=w from by grind[Z8.copy]];exact gF [] func147 (fO 4) (Q0 (Ft 30 hc0<|Fr w.j.C.pw<|Fr w.j.C.pg<|Fr (Y wD w.j.W)<|Fr (Y Z0.dv w.j.P)<|Fr w.j.S<|Fr w.j.B<|Fr (Y wD w.old)<|Fr (Y iD w.T)<|Fr (Y wD w.Q)<|Fr w.D<|Fr w.rep.copied<|Fr w.rep.kept<|Fr w.rep.filled<|Fr w.rep.freed<|Fr w.rep.cleared<|Fr w.rep.steps<|Fa (by grind[Z8.copy]:r=(w.place (Z1 (Z7 (Z5 w.j.W r).1).1)).2.1)<|Fr (0:Int) Fz));obtain⟨hc0pa,hc0pb⟩:=hc0p;let y1:=Z7 (Z5 w.j.W r).1;let y0:=w.place (Z1 y1.1);exact gF [] func147 []<|Fh 77 [.call Z (bL (ZR w (Z4 w.j.C r).1)) [],.br M]<|Fh 156 [.br M]<|Fh 192 [.els (Y wD (y0.1.Q++[y0.2.1]))] (Q0 (Ff 30 hc0<|Fc 36 (@Ei w.old r oq)<|Ffb 37 (!decide (r∈w.old))<|Fc 44 (@HV w.j.W r oq aa)<|Fc 49 (@AG ((Z5 w.j.W r).1) oq oq)<|Fa ‹(ZQ (Z5 w.j.W r).1).2=M›<|Fc 60 (@Hn w.j.C r oq oq)<|FlG 71 (!(Z4 w.j.C r).2.2 != 0) Z0.dv w.j.P<|Ffb 52 ((Z4 w.j.C r).2.2 != 0||L ((w.j.P.length:Int)<=(Z4 w.j.C r).1))<|Fa (@Ap w ((Z4 w.j.C r).1) oq oq)<|Fa ‹ZR w (Z4 w.j.C r).1=M›<|Fe 86 Z0.dv w.j.P ((Z4 w.j.C r).1)<|Ffb 73 ((w.j.P.getD (Z4 w.j.C r).1.toNat X).K==2)<|Fc 143 (@Aw ((Z5 w.j.W r).1) oq oq)<|Fc 147 (@Ix (y1.1) aa)<|Fc 151 (@Z5w w (Z1 y1.1) aa aa)<|Ffb 89 (!y0.2.2)<|Fc 165 (@ZhJ (y0.1.j.W) (y0.2.1) r (Z1 y1.1) (by grind[Z8.copy]) oq aa)<|Fc 172 (@ZjE (y0.2.1) oq oq)<|Fc 181 (@Z3j ((moveA y0.1.j.W y0.2.1 r (Z1 y1.1)).1) r (4*y0.2.1+2) (by grind[Z8.copy]) aa)<|FAx 186 189 wD y0.1.Q (by grind[Z8.copy])<|Fs 191 (Y wD [y0.2.1])<|Fa (by grind[Z8.copy]:(Y wD y0.1.Q).length+(Y wD [y0.2.1]).length<=2^30)<|Fa (by simp[Z8.copy,Lq,Lo,Lp,Lj,wD,iD]:Y wD y0.1.Q++Y wD [y0.2.1]=Y wD (y0.1.Q++[y0.2.1]))<|Fi 197 (y0.1.rep.copied+1) Fz))
end
def ZkJ(w:Z8)(r x:Int)(hs:w.j.S=0\/w.j.S=1)(hl:w.j.P.length<=1048576)(a:0<=x):CP (Zl f147 0) (Tg.st ⟨tm 202 [(1,uU r),(2,.pt 8002 0 0),(4,.pt 8004 0 0),(5,uU 0),(6,nI 0),(14,nI (x+1))],[(88094,.arr 79 4 ((w.j.P.set x.toNat ⟨(w.j.P.getD x.toNat X).K,1-w.j.S,(w.j.P.getD x.toNat X).U,(w.j.P.getD x.toNat X).N⟩).map Z0.dv)),(8002,.box 142 [nI w.j.C.pw,nI w.j.C.pg,Z2 w.j.W,.ow 88094,nI w.j.S,nI w.j.B,Z2 w.old,ZG w.T,Z2 w.Q,nI w.D,nI w.rep.copied,nI w.rep.kept,nI w.rep.filled,nI w.rep.freed,nI w.rep.cleared,nI w.rep.steps]),(8004,.box 142 zW)],60⟩) .nrm (Tg.st ⟨tm 202 [(1,uU r),(2,.pt 8002 0 0),(4,.pt 8004 0 0),(5,uU 0),(6,nI 0)],[(88094,.arr 79 4 ((ZK w.j.P x.toNat (ZC w.j.P x.toNat) (1-w.j.S)).map Z0.dv)),(8002,.box 142 [nI w.j.C.pw,nI w.j.C.pg,Z2 w.j.W,.ow 88094,nI w.j.S,nI w.j.B,Z2 w.old,ZG w.T,Z2 w.Q,nI w.D,nI w.rep.copied,nI w.rep.kept,nI w.rep.filled,nI w.rep.freed,nI w.rep.cleared,nI w.rep.steps]),(8004,.box 142 zW)],60⟩):=by have h:=Bs (S:=λk=>(P0 w r x k).st) (ZC w.j.P x.toNat) kr (λk b=>ZaD w r x k hs hl a b) (Zjw w r x hl a);have c:=Z6i (l:=w.j.P) (i:=x.toNat) (1-w.j.S);simp only[P0,c,Nz,Int.natCast_zero,Int.add_zero]at h;exact h
section
variable(w:Z8)(r:Int)(hw:Bh w)(h0:0<=r/\r<=18446744073709551615)(c1:r≠0)(c2:r∉w.Q)(c3:r∈w.old)(c4:(ZQ (Z5 w.j.W r).1).2=M)(c5:(Z4 w.j.C r).2.2=0)
include hw h0 c1 c2 c3 c4 c5
theorem Zl8(c6:ZR w (Z4 w.j.C r).1=M)(c7:(w.j.P.getD (ED w r) X).K=2):GP 147 [w.av,uU r] M (.tu [((w.flip (ED w r)).keep r).av,uU r,nI 0]) []:=by have h1:=hw.mu;have h2:=hw.ol;have h3:=hw.wl;have h4:=EW hw.W r;have h5:=hw.pl;have h6:=BR.1 hw.C;have h7:=hw.tl;have h8:=Hg hw.C c5;have h9:=hw.sp;have h10:=Z76 hw (ED w r);have h12:(⟨⟨w.j.C,w.j.W,ZK w.j.P (Z4 w.j.C r).1.toNat (ZC w.j.P (Z4 w.j.C r).1.toNat) (1-w.j.S),w.j.S,w.j.B⟩,w.old,w.T,w.Q,w.D,w.rep⟩:Z8)=w.flip (ED w r):=rfl;unfold ED at c7;have Q0 {h_ c_ p_} (r_:Fq h_ c_ p_):=FcG 29 (!r==0) (λhg=>by(try simp only[bs]at hg);exact@Ei w.Q r oq) r_;rcases bb (r==0||L (r∈w.Q))with hc0|hc0<;>have hc0p:=hc0<;>simp only[bs]at hc0p;rw[show(w.flip (ED w r)).keep r=w from by grind[]];exact gF [] func147 [] (Q0 (Ft 30 hc0 Fz));obtain⟨hc0pa,hc0pb⟩:=hc0p;let y0:=w.j.P.getD (Z4 w.j.C r).1.toNat X;let y1:=Z8.mk (Heap.mk w.j.C w.j.W (ZK w.j.P (Z4 w.j.C r).1.toNat (ZC w.j.P (Z4 w.j.C r).1.toNat) (1-w.j.S)) w.j.S w.j.B) w.old w.T w.Q w.D w.rep;let y2:=(Z4 w.j.C r).1;exact gF [] func147 []<|Fh 73 [.br M]<|Fh 77 [.call Z (bL (ZR w (Z4 w.j.C r).1)) [],.br M]<|Fh 139 [.kill (y1.keep r).av] (Q0 (Ff 30 hc0<|Fc 36 (@Ei w.old r oq)<|Ffb 37 (!decide (r∈w.old))<|Fc 44 (@HV w.j.W r oq aa)<|Fc 49 (@AG ((Z5 w.j.W r).1) oq oq)<|Fa ‹(ZQ (Z5 w.j.W r).1).2=M›<|Fc 60 (@Hn w.j.C r oq oq)<|FlG 71 (!(Z4 w.j.C r).2.2 != 0) Z0.dv w.j.P<|Ffb 52 ((Z4 w.j.C r).2.2 != 0||L ((w.j.P.length:Int)<=(Z4 w.j.C r).1))<|Fa (@Ap w y2 oq oq)<|Fa ‹ZR w (Z4 w.j.C r).1=M›<|Fe 86 Z0.dv w.j.P y2<|Ftb 89 (y0.K==2)<|FA 90 94 Z0.dv w.j.P<|Fi 104 (1-w.j.S)<|Fm0q Z0.dv w.j.P y2<|FS 10106 Z0.dv w.j.P ((Z4 w.j.C r).1.toNat) (Z0.mk y0.K (1-w.j.S) y0.U y0.N) (y0.dv)<|Fi 108 ((Z4 w.j.C r).1+1)<|Fu (@ZkJ w r y2 aa oq oq)<|Fa (@Z6z y1 r aa) Fz))
end
def Oy w(r:Int)(e:Bh w)(d:0<=r/\r<=18446744073709551615):GP 147 [w.av,uU r] M (.tu [(w.fwd r).1.av,uU (w.fwd r).2.1,nI (w.fwd r).2.2]) []:=by
 unfold Z8.fwd;by_cases c1:r=0\/r∈w.Q;rw[if_pos c1];exact Zix w r e d c1;rw[if_neg c1];have a:r≠0:=λh=>c1 (Lh h);have b:r∉w.Q:=λh=>c1 (Li h);by_cases c3:r∈w.old;rw[if_neg (by simpa using c3)];by_cases c4:(ZQ (Z5 w.j.W r).1).2=Z;rw[if_pos c4];exact ZhH w r e d a b c3 c4;rw[if_neg c4];have c:(ZQ (Z5 w.j.W r).1).2=M:=by simpa using c4
 by_cases f:(Z4 w.j.C r).2.2=0;rw[if_neg (by simpa using f)];by_cases j:ZR w (Z4 w.j.C r).1=Z;rw[if_pos j];exact ZbT w r e d a b c3 c f j;rw[if_neg j];have g:ZR w (Z4 w.j.C r).1=M:=by simpa using j
 by_cases i:(w.j.P.getD (ED w r) X).K=2;rw[if_pos i];exact Zl8 w r e d a b c3 c f g i;rw[if_neg i];by_cases k:(w.place (Z1 (Zx w r))).2.2=M;rw[if_pos k];exact Zkj w r e d a b c3 c f g i k;rw[if_neg k];exact Zis w r e d a b c3 c f g i (by simpa using k);rw[if_pos f];exact ZfN w r e d a b c3 c f;rw[if_pos c3];exact Zfe w r e d a b c3
end Go.Proofs.YtkmnngahjnkdmaaGreat
