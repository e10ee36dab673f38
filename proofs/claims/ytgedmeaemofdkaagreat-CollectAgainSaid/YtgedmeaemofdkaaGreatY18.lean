/-
 The statement CollectAgain: part 18.
 Conditions: none.
-/
import Derived.Test.YtgedmeaemofdkaaGreatY17
set_option maxRecDepth 100000
set_option maxHeartbeats 2000000
set_option linter.all false
open Inhabited renaming default->La
open List renaming map->Lb,take->Le,drop->Lf,length_map->Lg,getD_eq_getElem?_getD->Li,getElem_map->Lj,length_take->Lk,take_length->Ll
open Bool renaming true->Lc,false->Ld
open Nat renaming le_refl->Lh,zero_le->Lm
open Go.Proofs.Tryz
namespace Go.Proofs.YtgedmeaemofdkaaGreat
open Go.Sx
def Z3I(h:Heap) s k:(Bs h s k).rep.copied=(ZA h s).rep.copied/\(Bs h s k).rep.kept=(ZA h s).rep.kept/\(Bs h s k).rep.steps=(ZA h s).rep.steps:=by
 have f:∀(w:Z7) n,(C3 w n).rep.copied=w.rep.copied/\(C3 w n).rep.kept=w.rep.kept/\(C3 w n).rep.steps=w.rep.steps:=λw n=>by
  induction n with|zero=>exact⟨rfl,rfl,rfl⟩|succ n c =>obtain⟨l,m,e,_⟩:=Zaj (C3 w n) (w.old.getD n La);rw[C3,e];exact c
 have g:∀n,(Eo (ZA h s) k n).rep.copied=(ZA h s).rep.copied/\(Eo (ZA h s) k n).rep.kept=(ZA h s).rep.kept/\(Eo (ZA h s) k n).rep.steps=(ZA h s).rep.steps:=λn=>by
  induction n with|zero=>exact⟨rfl,rfl,rfl⟩|succ n c =>rw[Eo,Ht];split;exact c;exact c
 have a:=f (Ca h s k) (Ca h s k).old.length;have b:=g k.length;exact⟨a.1.trans b.1,a.2.1.trans b.2.1,a.2.2.trans b.2.2⟩
def ZbV{L M:List Int}(nl:L.Nodup)(d:M.Nodup)(h:∀x,x∈L↔x∈M):L.length=M.length:=by have a:=Z03 (f:=λ_=>1) nl λx c=>(h x).1 c;have b:=Z03 (f:=λ_=>1) d λx c=>(h x).2 c;simp only[List.map_const',List.sum_replicate_nat,Nat.mul_one]at a b;omega
structure Zcp (w x:Zn) (r:Rep):Prop where
 o:(BE x.j x.G).2=0
 n:(Zb x.j).2=0
 l:(Zb x.j).1.length=(BE x.j x.G).1.length
 m:∀a∈(Zb x.j).1,a∈(BE x.j x.G).1
 c:r.copied+r.kept=(BE x.j x.G).1.length
 s1:((BE x.j x.G).1.length:Int)<=r.steps
 s2:r.steps<=w.j.W.length
 wl:w.j.W.length<=1048576
 k0:0<=r.copied/\0<=r.kept
def Zht b:Zcp (Zz b) (Zz b).collect (Ef (Zz b)):=by
 have c:=Sd b;obtain⟨T,g,f,r⟩:=M9 b;have i:=Tb b;obtain⟨e,n,_⟩:=Mm b;have s:∀p∈(Zz b).j.P,p.N<=1000:=λp y=>(c.pin_mem p y).2;have K:=Z1s (B:=1000) oq g i c.W s f r e;obtain⟨tq,z,m,on,v,gd,es,ew,w⟩:=PU (B:=1000) oq g i c.W s f r e;obtain⟨c1,c2,c3,c4,o⟩:=Z4u g i f c.W;obtain⟨t1,t2⟩:=Zgv g i f c.W;obtain⟨r1,r2,r3⟩:=Z3I (Zz b).j (Zz b).G (Zz b).E;have k:Ef (Zz b)=(Bs (Zz b).j (Zz b).G (Zz b).E).rep:=w;have d:BE (Zz b).collect.j (Zz b).collect.G=((ZA (Zz b).j (Zz b).G).Q,0):=by rw[n];exact K.o'
 have mem:∀a,a∈(Zb (Zz b).collect.j).1↔a∈(ZA (Zz b).j (Zz b).G).Q:=λa=>by
  rw[n,gd.objs.2];have u:(collectF (Zz b).j (Zz b).G (Zz b).E).1.W=z:=by rw[v]
  refine⟨λ⟨j,l,t⟩=>?_,λq=>?_⟩;rw[u]at t;exact(m.start l).2.1 t;obtain⟨j,l⟩:=m.where' q;exact⟨j,l,by rw[u];exact(m.start l).2.2 q⟩
 have qn:(ZA (Zz b).j (Zz b).G).Q.Nodup:=(Z6r g i f c.W).choose_spec.2.1.nd;have wk:=on.c.ok;refine⟨by rw[d],by rw[n];exact gd.objs.1, ?_,λa x=>?_, ?_, ?_, ?_, ?_, ?_⟩;rw[d];exact ZbV ((SY _).imp λh=>by omega) qn mem;rw[d];exact(mem a).1 x;rw[d,k,r1,r2,c2,o];rw[d,k,r3,<-o];exact t1;rw[k,r3];exact t2;have:=I7 c.hv;have:=c.L;omega;rw[k,r1,r2];have:=wk.rk;omega
def Zj8(ws:List Int)(a n:Int)(hw:ws.length<=1048576)(h0:4096<=a/\0<=n/\n<=1000/\a-4096+n<=ws.length):GP 112 [Z2 ws,uU a,nI n] Lc (.tu [.ow 0,nI 0]) [.arr 35 1 (((ws.drop (a-4096).toNat).take n.toNat).map wD)]:=by
 have c:(Zt ws a n).1=a-4096:=by rw[Zt,if_pos oq]
 have b:(Zt ws a n).2=Lc:=by rw[Zt,if_pos oq];simp;omega
 exact gF [40028] func112 [Ld,Lc]<|Fh 28 [.els (Lb wD (Le (((Zt ws a n).1+n).toNat-(Zt ws a n).1.toNat) (Lf (Zt ws a n).1.toNat ws)))]<|Ffb 11 (decide (n<0))<|Fc 16 (@D5 ws a n aa oq)<|Ffb 20 (!(Zt ws a n).2)<|Fs 21 (Lb wD [])<|Fi 26 ((Zt ws a n).1+n)<|Fa (by(simp only[Lg];omega):0<=(Zt ws a n).1/\(Zt ws a n).1<=(Zt ws a n).1+n/\(Zt ws a n).1+n<=(↑(Lb wD ws).length:Int))<|Fa (by simp[b,List.map_take,List.map_drop,List.map_set,List.map_append,wD,iD]:Le (((Zt ws a n).1+n).toNat-(Zt ws a n).1.toNat) (Lf (Zt ws a n).1.toNat (Lb wD ws))=Lb wD (Le (((Zt ws a n).1+n).toNat-(Zt ws a n).1.toNat) (Lf (Zt ws a n).1.toNat ws)))<|Fa (by(simp[b, *];omega):(Lb wD []).length+(Lb wD (Le (((Zt ws a n).1+n).toNat-(Zt ws a n).1.toNat) (Lf (Zt ws a n).1.toNat ws))).length<=2^30)<|Fs 27 (Lb wD (Le (((Zt ws a n).1+n).toNat-(Zt ws a n).1.toNat) (Lf (Zt ws a n).1.toNat ws)))<|Fa (H9 _:Cf (Lb wD (Le (((Zt ws a n).1+n).toNat-(Zt ws a n).1.toNat) (Lf (Zt ws a n).1.toNat ws))))<|Fr (35:Int)<|Fa (by refine congrArg _ ?_;(simp[b, *];omega):Lb wD (Le (((Zt ws a n).1+n).toNat-(Zt ws a n).1.toNat) (Lf (Zt ws a n).1.toNat ws))=Lb wD (Le n.toNat (Lf (a-4096).toNat ws))) Fz
def ZaK(h:Heap)(a:Int)(d:Zw h.W)(c:Z9 h=Lc)(b:a∈(Zb h).1):GP 45 [h.av,uU a] Lc (.tu [(Z6 h a).1.av,nI 0]) []:=by have g:=(SS c b).1;have e:=(Iu g).1;have ox:=IG h a b;have:=Nc h a d oq;rw[g,e]at this;exact this
def ZdN(h:Heap)(a:Int)(f:Zw h.W)(b:Z9 h=Lc)(e:a∈(Zb h).1):GP 56 [h.av,uU a] Lc (.tu [.ow 0,nI 0]) [.arr 35 1 ((BQ h a).map wD)]:=by obtain⟨f1,f2,f3,f4,f5,f6,f7,d,f9,c⟩:=RG b e;have po:=B5 b;have gm:=Hv f a;rw[d];exact gF [33023] func56 []<|Fc 11 (@ZaK h a aa aa aa)<|Fv 20 (a+1)<|Fc 23 (@Zj8 h.W (a+1) ((Z6 h a).1.length) oq oq)<|Fa (H9 _:Cf (Lb wD (Le (Z6 h a).1.length.toNat (Lf (a+(1:Int)-4096).toNat h.W)))) Fz
def CI(l a:List Int)(b:Zy):Nat->List Int|0=>a|k+1=>if Ba b (k:Int)=Lc then(CI l a b k).set k (E6 l (a.getD k La))else CI l a b k
def Z5x(l b a c:List Int):∀j,j<=a.length->HJ l b (a++c) j=HJ l b a j
 |0,_=>rfl
 |j+1,h=>by
  have e:(a++c).getD j La=a.getD j La:=by
   simp only[Li];rw[List.getElem?_append_left oq]
  rw[HJ,HJ,e,Z5x l b a c j oq]
def Z26 l b a:∀n:Nat,CI l b a n=HJ l b (BK a n) (BK a n).length
 |0=>rfl
 |n+1=>by
  unfold CI BK;split
  .rw[List.length_append,List.length_singleton,HJ,Z5x _ _ _ _ _ (Lh _),Z26 l b a n];have e:(BK a n++[(n:Int)]).getD (BK a n).length La=(n:Int):=by
    simp[Li]
   rw[e];rfl
  .exact Z26 l b a n
def Z41 l a c(i:Nat):∀k,k<=i->(CI l a c k).length=a.length/\(CI l a c k).getD i La=a.getD i La
 |0,_=>⟨rfl,rfl⟩
 |k+1,h=>by
  obtain⟨d,b⟩:=Z41 l a c i k oq;unfold CI;split
  .refine⟨by rw[List.length_set];exact d, ?_⟩;simp only[Li]at b⊢;rw[List.getElem?_set_ne oq];exact b
  .exact⟨d,b⟩
def Zbq{h:Heap} l{a:Int}(c:Z9 h=Lc)(b:a∈(Zb h).1):CI l (BQ h a) (Z6 h a).1 (BQ h a).length=(CX h l a).fs:=by
 obtain⟨f1,f2,f3,f4,f5,f6,f7,f8,f9,f⟩:=RG c b;have v:=Iu (SS c b).1;have e:(BQ h a).length=(Z6 h a).1.length.toNat:=by omega
 rw[Z26,e];unfold CX Zj;have d:=v.2.2.2.2.2.2.1;rw[v.1]at d;rw[if_pos d]
def GG(h:Heap)(a:List Int)(ns:List BI):List (Nat×Z3):=[(32008,.box 61 [.ow 33008,.ow 34008]),(34008,.arr 120 4 (ns.map BI.dv)),(33008,.arr 3 1 (a.map iD)),(8004,.box 61 [.ow 9004,.ow 10004]),(10004,.arr 120 4 []),(9004,.arr 3 1 []),(8002,.box 28 [nI h.C.pw,nI h.C.pg,.d (.sl 1 (h.W.map wD)),.d (.sl 4 (h.P.map Z0.dv)),nI h.S,nI h.B])]
def qgL(h:Heap)(l roots:List Int)(i:Nat):Tg:=⟨tm 96 [(1,Z2 roots),(2,.pt 8002 0 0),(4,.pt 8004 0 0),(5,nI 0),(6,Z2 l),(8,.pt 32008 0 0),(9,nI i)],GG h ((roots.take i).map (EX l)) [],6⟩
def qiL(h:Heap)(l b:List Int)(ns:List BI)(k:Nat)(a:Int)(j:Nat):Tg:=⟨tm 96 [(2,.pt 8002 0 0),(4,.pt 8004 0 0),(5,nI 0),(6,Z2 l),(8,.pt 32008 0 0),(10,nI k),(11,.pt 64011 0 0),(13,.ow 73065),(15,nI j)],(73065,.arr 35 1 ((CI l (BQ h a) (Z6 h a).1 j).map wD))::(64011,.box 52 [nI (Z6 h a).1.K,nI (Z6 h a).1.length,u32 (Z6 h a).1.map])::GG h b ns,11⟩
section
variable(h:Heap)(l b:List Int)(ns:List BI)(k:Nat)(a:Int)(g:Zw h.W)(f:Z9 h=Lc)(d:a∈(Zb h).1)(hl:l.length<=16384)
include g f d hl
theorem ZmY(j:Nat)(hj:j<(BQ h a).length):CP (Zm f26 4) (qiL h l b ns k a j).st .nrm (qiL h l b ns k a (j+1)).st:=by
 obtain⟨f1,f2,f3,f4,f5,f6,f7,f8,f9,i⟩:=RG f d;have gm:=Hv g a;obtain⟨nl,m⟩:=Z41 l (BQ h a) (Z6 h a).1 j j (Lh j);have nr:=Z90 l ((CI l (BQ h a) (Z6 h a).1 j).getD j La);by_cases c:Ba (Z6 h a).1 (j:Int)=Lc;have e:CI l (BQ h a) (Z6 h a).1 (j+1)=(CI l (BQ h a) (Z6 h a).1 j).set j (E6 l ((CI l (BQ h a) (Z6 h a).1 j).getD j La)):=by rw[CI,if_pos c,m]
 unfold qiL GG;rw[e];exact sF [] []<|Fh 76 [.call Lc (bL (Ba (Z6 h a).1 (j:Int))) [],.br Lc]<|Fh 10086 [.els (Lb wD ((CI l (BQ h a) (Z6 h a).1 j).set (j:Int).toNat (E6 l ((CI l (BQ h a) (Z6 h a).1 j).getD j La))))]<|FM 70 71 wD (CI l (BQ h a) (Z6 h a).1 j) j<|Fa (@Nh ((Z6 h a).1) ((j:Int)) aa)<|Fa ‹Ba (Z6 h a).1 (j:Int)=Lc›<|Fm 83 wD (CI l (BQ h a) (Z6 h a).1 j) (↑j) j<|Fc 84 (@ZaS l ((CI l (BQ h a) (Z6 h a).1 j).getD j La) oq)<|Fv 85 (E6 l ((CI l (BQ h a) (Z6 h a).1 j).getD j La))<|Fa (by(simp only[Lg];omega):0<=(j:Int)/\(j:Int).toNat<(Lb wD (CI l (BQ h a) (Z6 h a).1 j)).length)<|Fa (by(simp only[Lg];omega):(j:Int).toNat<(Lb wD (CI l (BQ h a) (Z6 h a).1 j)).length)<|Fa (ms:(Lb wD (CI l (BQ h a) (Z6 h a).1 j)).set (j:Int).toNat [ZZ (E6 l ((CI l (BQ h a) (Z6 h a).1 j).getD j La))]=Lb wD ((CI l (BQ h a) (Z6 h a).1 j).set (j:Int).toNat (E6 l ((CI l (BQ h a) (Z6 h a).1 j).getD j La))))<|Fx 73 j Fz;have e:CI l (BQ h a) (Z6 h a).1 (j+1)=CI l (BQ h a) (Z6 h a).1 j:=by rw[CI,if_neg c]
 unfold qiL GG;rw[e];exact sF [] []<|Fh 76 [.call Lc (bL (Ba (Z6 h a).1 (j:Int))) [],.br Ld]<|FM 70 71 wD (CI l (BQ h a) (Z6 h a).1 j) j<|Fa (@Nh ((Z6 h a).1) ((j:Int)) aa)<|Fbs (Ba (Z6 h a).1 (j:Int)=Ld)<|Fx 73 j Fz
theorem ZkB:CP (Zm f26 4) (qiL h l b ns k a (BQ h a).length).st (.ext 4) (Tg.st ⟨tm 96 [(2,.pt 8002 0 0),(4,.pt 8004 0 0),(5,nI 0),(6,Z2 l),(8,.pt 32008 0 0),(10,nI k),(11,.pt 64011 0 0),(13,.ow 73065)],(73065,.arr 35 1 ((CX h l a).fs.map wD))::(64011,.box 52 [nI (Z6 h a).1.K,nI (Z6 h a).1.length,u32 (Z6 h a).1.map])::GG h b ns,11⟩):=by have e:=Zbq l f d;obtain⟨nl,_⟩:=Z41 l (BQ h a) (Z6 h a).1 (BQ h a).length (BQ h a).length (Lh _);obtain⟨f1,f2,f3,f4,f5,f6,f7,f8,f9,c⟩:=RG f d;unfold qiL GG;rw[e]at nl⊢;exact sF [] []<|Fl 70 wD (CX h l a).fs<|Ffb 71 (decide ((↑(BQ h a).length:Int)<(↑(CX h l a).fs.length:Int))) Fz
theorem ZeY:CP (Zi f26 4) (Tg.st ⟨tm 96 [(2,.pt 8002 0 0),(4,.pt 8004 0 0),(5,nI 0),(6,Z2 l),(8,.pt 32008 0 0),(10,nI k),(11,.pt 64011 0 0),(13,.ow 73065),(15,nI 0)],[(73065,.arr 35 1 ((BQ h a).map wD)),(64011,.box 52 [nI (Z6 h a).1.K,nI (Z6 h a).1.length,u32 (Z6 h a).1.map]),(32008,.box 61 [.ow 33008,.ow 34008]),(34008,.arr 120 4 (ns.map BI.dv)),(33008,.arr 3 1 (b.map iD)),(8004,.box 61 [.ow 9004,.ow 10004]),(10004,.arr 120 4 []),(9004,.arr 3 1 []),(8002,.box 28 [nI h.C.pw,nI h.C.pg,.d (.sl 1 (h.W.map wD)),.d (.sl 4 (h.P.map Z0.dv)),nI h.S,nI h.B])],11⟩) .nrm (Tg.st ⟨tm 96 [(2,.pt 8002 0 0),(4,.pt 8004 0 0),(5,nI 0),(6,Z2 l),(8,.pt 32008 0 0),(10,nI k),(11,.pt 64011 0 0),(13,Z2 (CX h l a).fs)],(64011,.box 52 [nI (Z6 h a).1.K,nI (Z6 h a).1.length,u32 (Z6 h a).1.map])::GG h b ns,11⟩):=
 CSpec.frz 73065 (t:=(⟨tm 96 [(2,.pt 8002 0 0),(4,.pt 8004 0 0),(5,nI 0),(6,Z2 l),(8,.pt 32008 0 0),(10,nI k),(11,.pt 64011 0 0),(13,.ow 73065)],(73065,.arr 35 1 ((CX h l a).fs.map wD))::(64011,.box 52 [nI (Z6 h a).1.K,nI (Z6 h a).1.length,u32 (Z6 h a).1.map])::GG h b ns,11⟩)) (Bo (S:=λj=>(qiL h l b ns k a j).st) (BQ h a).length kr (λj c=>ZmY h l b ns k a g f d hl j c) (ZkB h l b ns k a g f d hl)) kr
end
def qnL(h:Heap)(l roots:List Int)(k:Nat):Tg:=⟨tm 96 [(2,.pt 8002 0 0),(4,.pt 8004 0 0),(5,nI 0),(6,Z2 l),(8,.pt 32008 0 0),(10,nI k)],GG h (roots.map (EX l)) ((l.take k).map (CX h l)),7⟩
section
variable(h:Heap)(l roots:List Int)(O:Ax h roots l)(a:Zw h.W)(hl:roots.length<=1000)
include O a hl
omit a in
theorem Zjq(i:Nat)(hi:i<roots.length):CP (Zm f26 0) (qgL h l roots i).st .nrm (qgL h l roots (i+1)).st:=by
 have ll:=O.len;have e0:(roots.take i).length=i:=by rw[Lk];omega
 have nr:=Z90 l (roots.getD i La);have b:=Zb3 (EX l) hi;have c:EX l (roots.getD i La)=E6 l (roots.getD i La)-1:=rfl;unfold qgL GG;rw[b,c];exact sF [(56042,33008)] []<|Fh 42 [.els (Lb iD (Lb (EX l) (Le i roots)++[E6 l (roots.getD i La)-1]))]<|FN 28 29 37 wD roots i<|Fc 39 (@ZaS l (roots.getD i La) oq)<|Fi 40 (E6 l (roots.getD i La)-1)<|Fs 41 (Lb iD [E6 l (roots.getD i La)-1])<|Fa (by(simp[*];omega):(Lb iD (Lb (EX l) (Le i roots))).length+(Lb iD [E6 l (roots.getD i La)-1]).length<=2^30)<|Fa (ms:Lb iD (Lb (EX l) (Le i roots))++Lb iD [E6 l (roots.getD i La)-1]=Lb iD (Lb (EX l) (Le i roots)++[E6 l (roots.getD i La)-1]))<|Fx 31 i Fz
omit O a hl in
theorem Zd3:CP (Zm f26 0) (qgL h l roots roots.length).st (.ext 0) (Tg.st ⟨tm 96 [(2,.pt 8002 0 0),(4,.pt 8004 0 0),(5,nI 0),(6,Z2 l),(8,.pt 32008 0 0)],GG h (roots.map (EX l)) [],6⟩):=by have e:roots.take roots.length=roots:=Ll;unfold qgL GG;rw[e];exact sF [] []<|FO 28 29 wD roots Fz
theorem Zfc:CP (Zi f26 0) (Tg.st ⟨tm 96 [(1,Z2 roots),(2,.pt 8002 0 0),(4,.pt 8004 0 0),(5,nI 0),(6,Z2 l),(8,.pt 32008 0 0),(9,nI 0)],[(32008,.box 61 [.ow 33008,.ow 34008]),(34008,.arr 120 4 []),(33008,.arr 3 1 []),(8004,.box 61 [.ow 9004,.ow 10004]),(10004,.arr 120 4 []),(9004,.arr 3 1 []),(8002,.box 28 [nI h.C.pw,nI h.C.pg,.d (.sl 1 (h.W.map wD)),.d (.sl 4 (h.P.map Z0.dv)),nI h.S,nI h.B])],6⟩) .nrm (Tg.st ⟨tm 96 [(2,.pt 8002 0 0),(4,.pt 8004 0 0),(5,nI 0),(6,Z2 l),(8,.pt 32008 0 0)],GG h (roots.map (EX l)) [],6⟩):=
 Bo (S:=λi=>(qgL h l roots i).st) roots.length kr (λi b=>Zjq h l roots O hl i b) (Zd3 h l roots)
theorem Zmb(k:Nat)(c:k<l.length):CP (Zm f26 2) (qnL h l roots k).st .nrm (qnL h l roots (k+1)).st:=by
 have ll:=O.len;have hp:=O.p;have n0:=O.n0;have b:=ZT.2 ⟨k,c,rfl⟩;have e:=O.el _ b;have cl:=O.cl _ b;have ox:=IG h _ e;have e0:(l.take k).length=k:=by rw[Lk];omega
 have d:=Zb3 (CX h l) c;unfold qnL GG;rw[d];exact sF [(88093,34008)] []<|Fh 93 [.els (Lb BI.dv (Lb (CX h l) (Le k l)++[BI.mk (Z6 h (l.getD k La)).1 (CX h l (l.getD k La)).fs]))]<|FN 46 47 54 wD l k<|Fc 56 (@ZaK h (l.getD k La) aa aa aa)<|Fek 63 wD l (↑k) k<|Fc 65 (@ZdN h (l.getD k La) aa aa aa)<|Fu (@ZeY h l (Lb (EX l) roots) (Lb (CX h l) (Le k l)) k (l.getD k La) aa aa aa aa)<|Fs 92 (Lb BI.dv [BI.mk (Z6 h (l.getD k La)).1 (CX h l (l.getD k La)).fs])<|Fa (by(simp[*];omega):(Lb BI.dv (Lb (CX h l) (Le k l))).length+(Lb BI.dv [BI.mk (Z6 h (l.getD k La)).1 (CX h l (l.getD k La)).fs]).length<=2^30)<|Fa (ms:Lb BI.dv (Lb (CX h l) (Le k l))++Lb BI.dv [BI.mk (Z6 h (l.getD k La)).1 (CX h l (l.getD k La)).fs]=Lb BI.dv (Lb (CX h l) (Le k l)++[BI.mk (Z6 h (l.getD k La)).1 (CX h l (l.getD k La)).fs]))<|Fx 49 k Fz
omit O a hl in
theorem Zgh:CP (Zm f26 2) (qnL h l roots l.length).st (.ext 2) (Tg.st ⟨tm 96 [(4,.pt 8004 0 0),(5,nI 0),(8,.pt 32008 0 0)],GG h (roots.map (EX l)) (l.map (CX h l)),7⟩):=by have e:l.take l.length=l:=Ll;unfold qnL GG;rw[e];exact sF [] []<|FO 46 47 wD l Fz
def ZbB  := Bo (S:=λk=>(qnL h l roots k).st) l.length (by kernel_rfl) (λk b=>Zmb h l roots O a hl k b) (Zgh h l roots)
end
section
variable(h:Heap)(roots:List Int)(b:Zw h.W)(hl:roots.length<=1000)(a:CJ roots)
include b hl a
theorem Zjv(e:(BE h roots).2≠0):GP 26 [h.av,Z2 roots] Ld (.tu [.ag [ZD [],.d (.sl 4 (([]:List BI).map BI.dv))],nI (BE h roots).2]) []:=by exact gF [] func26 []<|Fh 4 [.gh 3 1,.int 0,.gh 120 4,.int 1]<|Fc 19 (@Z6v h roots aa aa aa)<|Ftb 23 ((BE h roots).2 != 0)<|Fnl (Fnl Fz)
theorem ZiI(e:(BE h roots).2=0):GP 26 [h.av,Z2 roots] Ld (.tu [.ag [ZD (roots.map (EX (BE h roots).1)),.d (.sl 4 (((BE h roots).1.map (CX h (BE h roots).1)).map BI.dv))],nI 0]) []:=by have ol:=Z79 h roots b hl a e;exact gF [] func26 []<|Fh 4 [.gh 3 1,.int 0,.gh 120 4,.int 1]<|Fh 8 [.gh 3 1,.int 0,.gh 120 4,.int 1]<|Fc 19 (@Z6v h roots aa aa aa)<|Ffb 23 ((BE h roots).2 != 0)<|Fu (@Zfc h ((BE h roots).1) roots aa aa aa)<|Fu (@ZbB h ((BE h roots).1) roots aa aa aa) Fz
end
def Z5A(ns:List BI):Prop:=ns.length<=16384/\∀n∈ns,(0<=n.hd.map/\n.hd.map<=4294967295)/\n.fs.length<=1048576
def Zkk{h roots l}(O:Ax h roots l)(d:Zw h.W):Z5A (l.map (CX h l)):=by refine⟨by rw[Lg];exact O.len,λn c=>?_⟩;obtain⟨a,b,rfl⟩:=List.mem_map.1 c;have f:=RG O.p (O.el a b);refine⟨Hv d a, ?_⟩;show(HJ l (BQ h a) (Zj (Z6 h a).1) (Zj (Z6 h a).1).length).length<=1048576;rw[MH];omega
section
variable(h:Heap)(roots:List Int)(a:Zw h.W)(hl:roots.length<=1000)(b:CJ roots)
include a hl b
theorem Z9E:GP 26 [h.av,Z2 roots] Ld (.tu [.ag [ZD (CK h roots).1.roots,.d (.sl 4 ((CK h roots).1.nodes.map BI.dv))],nI (CK h roots).2]) []:=by unfold CK;by_cases e:(BE h roots).2=0;rw[if_pos e];exact ZiI h roots a hl b e;rw[if_neg e];exact Zjv h roots a hl b e
theorem Zdj:Z5A (CK h roots).1.nodes/\(CK h roots).1.roots.length<=1000:=by unfold CK;by_cases e:(BE h roots).2=0;rw[if_pos e];exact⟨Zkk (Z79 _ _ a hl b e) a,by simpa[Z3H]using hl⟩;rw[if_neg e];exact⟨⟨Lm _,by simp⟩,Lm _⟩
end
structure Gp8 (a:Ah):Prop where
 r:a.roots.length<=1048576
 n:a.nodes.length<=1048576
 f:∀x∈a.nodes,x.fs.length<=1048576
def gsC(a:Ah):List AV:=[ZD a.roots,.d (.sl 4 (a.nodes.map BI.dv))]
def gsA(a:Ah)(i:Nat):Tg:=⟨tm 77 [(2,.pt 8002 0 0),(3,.pt 8003 0 0),(4,bL Ld),(5,nI i)],[(8003,.box 61 (gsC a)),(8002,.box 61 (gsC a))],5⟩
def gsB(a:Ah)(i:Nat):Tg:=⟨tm 77 [(2,.pt 8002 0 0),(3,.pt 8003 0 0),(4,bL Ld),(6,nI i)],[(8003,.box 61 (gsC a)),(8002,.box 61 (gsC a))],8⟩
section
variable(a:Ah)(g:Gp8 a)
include g
theorem ZjG(i:Nat)(hi:i<a.roots.length):CP (Zm f40 0) (gsA a i).st .nrm (gsA a (i+1)).st:=by obtain⟨g1,g2,g3⟩:=g;exact sF [] []<|FN 26 27 33 iD a.roots i<|Fek 38 iD a.roots (↑i) i<|Ffs 40 (a.roots.getD i La != a.roots.getD i La)<|Fx 29 i Fz
theorem ZbQ:CP (Zm f40 0) (gsA a a.roots.length).st (.ext 0) (Tg.st ⟨tm 77 [(2,.pt 8002 0 0),(3,.pt 8003 0 0),(4,bL Ld)],[(8003,.box 61 (gsC a)),(8002,.box 61 (gsC a))],60⟩):=by exact sF [] []<|FO 26 27 iD a.roots Fz
def ZdI  := Bo (S:=λi=>(gsA a i).st) a.roots.length (by kernel_rfl) (λi b=>ZjG a g i b) (ZbQ a g)
theorem Zha(i:Nat)(hi:i<a.nodes.length):CP (Zm f40 2) (gsB a i).st .nrm (gsB a (i+1)).st:=by
 obtain⟨g1,g2,b⟩:=g;have f:(a.nodes.getD i La).fs.length<=1048576:=b _ (by rw[Li,List.getElem?_eq_getElem hi];exact List.getElem_mem hi);have hz:(!((a.nodes.getD i La).hd.K==(a.nodes.getD i La).hd.K&&((a.nodes.getD i La).hd.length==(a.nodes.getD i La).hd.length&&(a.nodes.getD i La).hd.map==(a.nodes.getD i La).hd.map)))=Ld:=by simp
 exact sF [] [] (FN 44 45 51 BI.dv a.nodes i (Fek 57 BI.dv a.nodes (↑i) i (FeG 65 (!!((a.nodes.getD i La).hd.K==(a.nodes.getD i La).hd.K&&((a.nodes.getD i La).hd.length==(a.nodes.getD i La).hd.length&&(a.nodes.getD i La).hd.map==(a.nodes.getD i La).hd.map))) BI.dv a.nodes (↑i) i (FeG 71 (!!((a.nodes.getD i La).hd.K==(a.nodes.getD i La).hd.K&&((a.nodes.getD i La).hd.length==(a.nodes.getD i La).hd.length&&(a.nodes.getD i La).hd.map==(a.nodes.getD i La).hd.map))) BI.dv a.nodes (↑i) i (FcG 74 (!!((a.nodes.getD i La).hd.K==(a.nodes.getD i La).hd.K&&((a.nodes.getD i La).hd.length==(a.nodes.getD i La).hd.length&&(a.nodes.getD i La).hd.map==(a.nodes.getD i La).hd.map))) (λc=>by(try simp only[bs]at c);exact@Zeg ((a.nodes.getD i La).fs) aa) (Ffs 76 (!((a.nodes.getD i La).hd.K==(a.nodes.getD i La).hd.K&&((a.nodes.getD i La).hd.length==(a.nodes.getD i La).hd.length&&(a.nodes.getD i La).hd.map==(a.nodes.getD i La).hd.map))||Ld) (Fx 47 i Fz)))))))
theorem Zg7:CP (Zm f40 2) (gsB a a.nodes.length).st (.ext 2) (Tg.st ⟨tm 77 [(4,bL Ld)],[],60⟩):=by exact sF [] []<|FO 44 45 BI.dv a.nodes Fz
def ZeF  := Bo (S:=λi=>(gsB a i).st) a.nodes.length (by kernel_rfl) (λi b=>Zha a g i b) (Zg7 a g)
theorem Zft:GP 40 [.ag [ZD a.roots,.d (.sl 4 (a.nodes.map BI.dv))],.ag [ZD a.roots,.d (.sl 4 (a.nodes.map BI.dv))]] Lc (bL Lc) []:=by have g1:=g.r;have g2:=g.n;let b:=!(a.roots.length:Int) != (a.roots.length:Int);exact gF [] func40 []<|Fl 9 iD a.roots<|Fl 12 iD a.roots<|FlG 17 b BI.dv a.nodes<|FlG 20 b BI.dv a.nodes<|Ffs 22 ((a.roots.length:Int) != (a.roots.length:Int)||(a.nodes.length:Int) != (a.nodes.length:Int))<|Fu (@ZdI a aa)<|Fu (@ZeF a aa) Fz
end
def ZeZ(a b:Ah)(g:Gp8 a)(e:b=a):GP 40 [.ag [ZD a.roots,.d (.sl 4 (a.nodes.map BI.dv))],.ag [ZD b.roots,.d (.sl 4 (b.nodes.map BI.dv))]] Lc (bL Lc) []:=e▸Zft a g
def ZbP a:MQ (Zz a).j (Zz a).collect.j (Zz a).G (Zz a).collect.G (BE (Zz a).j (Zz a).G).1 (ZA (Zz a).j (Zz a).G).Q:=by have b:=Sd a;obtain⟨T,g,d,f⟩:=M9 a;obtain⟨e,c,_⟩:=Mm a;rw[c];exact Z1s (B:=1000) oq g (Tb a) b.W (λp h=>(b.pin_mem p h).2) d f e
def ZaX{w:Z7}(h:∀x∈w.old,¬ IB w x):∀n,n<=w.old.length->C3 w n=w
 |0,_=>rfl
 |n+1,a=>by
  have b:=h _ (ZT.2 ⟨n,a,rfl⟩);rw[C3,ZaX h n oq,GU];exact if_neg b
section
variable{B:Int}(l:0<=B){h:Heap}{T:Nat->List Int}(g:Gd h T)(f:MV h){s k0:List Int}(d:Zw h.W)(m:∀p∈h.P,p.N<=B)(b:Gr h T s)(j:Gr h T k0)(e:(collectF h s k0).2.2.2.2=0)
include l g f d m b j e
theorem Z4M:(collectF h s k0).2.2.2.1.steps=(((BE h s).1.map λa=>1+(Zj (Z6 h a).1).length).sum:Nat)/\(collectF h s k0).2.2.2.1.copied+(collectF h s k0).2.2.2.1.kept=(BE h s).1.length /\ ((∀x∈(Zb h).1,x∈(BE h s).1)->(collectF h s k0).2.2.2.1.filled=0):=by
 obtain⟨k,E,ro,sc,ln⟩:=Z6r g f b d;obtain⟨v,I⟩:=Za2 g b E k (Lh k);obtain⟨tq,l5,y,on,eh,gd,es,ew,er⟩:=PU l g f d m b j e;obtain⟨c1,c2,c3,c4,c5⟩:=Z4u g f b d;obtain⟨r1,r2,r3⟩:=Z3I h s k0;have u:∀r∈s,r=0\/r∈(Zb h).1:=λr hr=>(b r hr).imp id (g.objs.2 r).2;have ol:BE h s=(Zp h s k,0):=Z4g g.p g.objs.1 (g.noBad u) I (by rw[<-v];omega);rw[Zax E,v]at c1 c2 c4;rw[ol,er,r1,r2,r3,c1,c2];refine⟨?_,rfl,λal=>?_⟩;congr 2;refine List.map_congr_left λa ha=>?_;obtain⟨i,p,_⟩:=c4 a ha;rw[stA,g.at' p];have w:=y.k;have wf:=on.c.ok.fok;have o:=Sb (ZA h s) k0 k0.length;have a1:(Ca h s k0).j=(ZA h s).j:=o.1;have a2:(Ca h s k0).old=(ZA h s).old:=o.2.1;have a3:(Ca h s k0).T=(ZA h s).T:=o.2.2.1;have a4:(Ca h s k0).Q=(ZA h s).Q:=o.2.2.2.1;have nf:∀x∈(Ca h s k0).old,¬ IB (Ca h s k0) x:=λx z=>by(rw[a2]at z;obtain⟨i0,n,t⟩:=(w.old x).1 z;have mo:=al x ((g.objs.2 x).2 ⟨i0,n,t⟩);rw[<-v]at mo;obtain⟨i,p,rfl⟩:=ZT.1 mo;have xs:=(ro.i i p).2;have q:=y.i.r _ (List.mem_append_right _ (ZT.2 ⟨i,by rw[ro.l];exact p,rfl⟩));rintro⟨t1,t2⟩;unfold ZJ at t1;rw[a1,a3,w.c,g.ofx n]at t1;simp only[decide_eq_true_eq,Int.toNat_natCast]at t1;rw[a4]at t2;have hd:=(w.hd i0 _ n).resolve_right λc=>t1.2.2.2.1 c.2.2;rw[CY,if_neg t2,hd,if_neg (by rw[Z3O (g.on n).2.2.2.2.2.1];simp)]at xs;omega)
 show(C3 (Ca h s k0) (Ca h s k0).old.length).rep.filled=0;rw[ZaX nf _ (Lh _)];exact o.2.2.2.2.1.trans on.c.ok.r0.1
end
def Z6J a:(collectF (Zz a).collect.j (Zz a).collect.G (Zz a).collect.E).2.2.2.2=0/\(Zz a).collect.collect=⟨(collectF (Zz a).collect.j (Zz a).collect.G (Zz a).collect.E).1,(collectF (Zz a).collect.j (Zz a).collect.G (Zz a).collect.E).2.1,(collectF (Zz a).collect.j (Zz a).collect.G (Zz a).collect.E).2.2.1⟩/\(Zz a).collect.collect.G.length=(Zz a).collect.G.length/\(Zz a).collect.collect.E.length=(Zz a).collect.E.length /\
  GP 35 [(Zz a).collect.j.av,Z2 (Zz a).collect.G,Z2 (Zz a).collect.E] Ld (.tu [(Zz a).collect.collect.j.av,Z2 (Zz a).collect.collect.G,Z2 (Zz a).collect.collect.E,.ag (Ef (Zz a).collect).cells,nI 0]) []:=by have b:=Sd a;have sl:=b.sl;have wl:=b.wl;obtain⟨e,e7,l1,l2,_⟩:=Mm a;exact Z9f (WG.collect (M9 a) b) (C6.collect b) (MV.collect (Tb a) (M9 a) b) oq oq
def ZiX a:GP 35 [(Zz a).collect.j.av,Z2 (Zz a).collect.G,Z2 (Zz a).collect.E] Ld (.tu [(Zz a).collect.collect.j.av,Z2 (Zz a).collect.collect.G,Z2 (Zz a).collect.collect.E,.ag (Ef (Zz a).collect).cells,nI 0]) []:=(Z6J a).2.2.2.2
structure Z4S (x y:Zn) (r q:Rep):Prop where
 xw:Zw x.j.W
 yw:Zw y.j.W
 xs:CJ x.G
 ys:CJ y.G
 xl:x.G.length<=1000
 yl:y.G.length<=1000
 xo:(CK x.j x.G).2=0
 yo:(CK y.j y.G).2=0
 gx:Gp8 (CK x.j x.G).1
 gr:(CK y.j y.G).1=(CK x.j x.G).1
 cp:q.copied+q.kept=r.copied+r.kept
 fl:q.filled=0
 st:q.steps=r.steps
 k0:0<=r.copied/\0<=r.kept
 k1:0<=q.copied/\0<=q.kept
 k2:r.copied+r.kept<=1048576
def Zia(tape:List Int):Z4S (Zz tape).collect (Zz tape).collect.collect (Ef (Zz tape)) (Ef (Zz tape).collect):=by
 have hm:=Sd tape;have hv:=C6.collect hm;have G:=M9 tape;have mv:=Tb tape;obtain⟨e,e7,l1,l2,_⟩:=Mm tape;obtain⟨e',e7',l1',l2',_⟩:=Z6J tape;have K:=ZbP tape;have rc:=Zht tape;generalize Zz tape=w at *;have sl:=hm.sl;have wl:=hm.wl;have G':=WG.collect G hm;have mv':=MV.collect mv G hm;obtain⟨T,g,g1,g2⟩:=G;obtain⟨T2,g',g1',g2'⟩:=G';have hb:∀p∈w.j.P,p.N<=1000:=λp hp=>(hm.pin_mem p hp).2;have hb':∀p∈w.collect.j.P,p.N<=1001:=λp hp=>(hv.pin_mem p hp).2;have K':=Z1s (B:=1001) oq g' mv' hv.W hb' g1' g2' e';rw[show(collectF w.collect.j w.collect.G w.collect.E).1=w.collect.collect.j by rw[e7'],show(collectF w.collect.j w.collect.G w.collect.E).2.1=w.collect.collect.G by rw[e7']]at K';obtain⟨c1,c2,_⟩:=Z4M (B:=1000) oq g mv hm.W hb g1 g2 e;obtain⟨d1,d2,d3⟩:=Z4M (B:=1001) oq g' mv' hv.W hb' g1' g2' e';have d3:=d3 rc.m;have ko:(BE w.collect.j w.collect.G).1=(ZA w.j w.G).Q:=by rw[K.o']
 have st:(Ef w.collect).steps=(Ef w).steps:=by
  unfold Ef;rw[c1,d1,ko];refine congrArg (λl:List Nat=>((l.sum:Nat):Int)) ?_;refine List.ext_getElem (by rw[Lg,Lg];exact K.len.symm) λi a b=>?_;rw[Lg]at a b;rw[Lj,Lj,<-getD_lt a,<-getD_lt b,K.hd i b]
 have cp:(Ef w.collect).copied+(Ef w.collect).kept=(Ef w).copied+(Ef w).kept:=by
  unfold Ef;rw[c2,d2,ko,K.len]
 have fl:(Ef w.collect).filled=0:=by unfold Ef;exact d3
 have hv2:=C6.collect hv;have v1:=hv.W;have v3:=hv.G;have u1:=hv2.W;have u3:=hv2.G;have gr:=congrArg (λx=>x.1) K'.graph;have ey:=congrArg (λx=>x.2) K'.graph;have er:=g'.order g1';obtain⟨n1,n2⟩:=Zdj _ _ v1 (by omega:w.collect.G.length<=1000) v3;have ex:(CK w.collect.j w.collect.G).2=0:=by rw[CK,if_pos er]
 have n3:=n1.1;have gx:Gp8 (CK w.collect.j w.collect.G).1:=⟨by omega,by omega,λn hn=>by have:=(n1.2 n hn).2;omega⟩
 have rc1:=rc.k0;refine⟨v1,u1,v3,u3,by omega,by omega,ex,by rw[ey,ex],gx,gr,cp,fl,st,rc1, ?_, ?_⟩
 .have:=(PU (B:=1001) oq g' mv' hv.W hb' g1' g2' e').choose_spec.choose_spec.2.1.c.ok.rk;obtain⟨r1,r2,r3⟩:=Z3I w.collect.j w.collect.G w.collect.E;have ee:Ef w.collect=(Bs w.collect.j w.collect.G w.collect.E).rep:=by rw[Ef];exact(PU (B:=1001) oq g' mv' hv.W hb' g1' g2' e').choose_spec.choose_spec.2.2.2.2.2.2
  rw[ee,r1,r2];omega
 .have c:=rc.c;have l:=rc.l;have:=H3 w.collect.j;omega
structure AgC (tape:List Int) (w x y:Zn) (r q:Rep):Prop where
 d:GP 39 [ZD tape] Ld (.tu [w.av,x.av,.ag r.cells,bL Lc]) []
 c:GP 35 [x.j.av,Z2 x.G,Z2 x.E] Ld (.tu [y.j.av,Z2 y.G,Z2 y.E,.ag q.cells,nI 0]) []
 o:Z4S x y r q
section
variable{b:List Int}{w x y:Zn}{r q:Rep}(a:AgC b w x y r q)
include a
theorem Zjr:GP 39 [ZD b] Ld (.tu [w.av,x.av,.ag r.cells,bL Lc]) []:=a.d
theorem Zdm:GP 35 [x.j.av,Z2 x.G,Z2 x.E] Ld (.tu [y.j.av,Z2 y.G,Z2 y.E,.ag q.cells,nI 0]) []:=a.c
theorem again:GP 12 [ZD b] Lc (bL Lc) []:=by obtain⟨xw,yw,xs,ys,xl,yl,xo,yo,gx,gr,cp,fl,st,k0,k1,k2⟩:=a.o;let c:=Lc&&(0:Int)==0&&(CK x.j x.G).2==0&&(CK y.j y.G).2==0&&Lc;exact gF [] func12 (fO 28)<|Fh 12 [.gh 3 1,.int 0,.gh 120 4,.int 1]<|Fh 14 [.gh 3 1,.int 0,.gh 120 4,.int 1]<|Fc 18 (@Zjr b w x y r q aa)<|Fc 32 (@Zdm b w x y r q aa)<|Fc 43 (@Z9E x.j x.G aa aa aa)<|Fc 49 (@Z9E y.j y.G aa aa aa)<|Fc 52 (@Zc5)<|FcG 68 (Lc&&(0:Int)==0&&(CK x.j x.G).2==0&&(CK y.j y.G).2==0) (λd=>by(try simp only[bs]at d);exact@ZeZ ((CK x.j x.G).1) ((CK y.j y.G).1) aa aa)<|FiG 75 c (q.copied+q.kept)<|FiG 80 c (r.copied+r.kept)<|Fbs (((CK x.j x.G).2==0&&(CK y.j y.G).2==0&&Lc&&q.copied+q.kept==r.copied+r.kept&&q.filled==0&&q.steps==r.steps)=Lc) Fz
end
def ZmS(tape:List Int)(h1:tape.length<=140737488355328):GP 12 [ZD tape] Lc (bL Lc) []:=again ⟨ZkZ tape h1,ZiX tape,Zia tape⟩
end Go.Proofs.YtgedmeaemofdkaaGreat
namespace Go.Proofs.YtgedmeaemofdkaaGreat
open Go.Sx Go.RowKit
def Zde(os:Os)(a:os.Started)(H:Type)(enc:TypeId×Value->H) :ReturnsInHanded {} Tryz.checked os 12 .any (Rows.collectAgainSpec.pre6 enc prog f12 Rows.collectAgainRow.domain Ld) (Rows.collectAgainSpec.post enc prog f12 Ld Lc Ld Ld):=by
 refine ZmO (C:=Tryz.checked) (tb:=4) 5 Zei a kr func12
  (ChangeSpec.witness6 (enc:=enc) (C:=Tryz.checked) Ld ⟨#[],#[.slice none 0 0],[]⟩ 8 kr kr kr kr)
  Zmk kr kr kr kr rfl (λd f=>?_) (λi g h=>?_)
 .match d,f with
  |[a0],_=>rfl
 .match i,g with
  |[l0],_ =>
   obtain⟨b,rfl,c⟩:=Zd5 (n:=3) (h 0 22 l0 kr rfl);have e:Sf prog Tryz.f12.params.toList [[.sl 1 (b.map iD)]]=[ZD b]:=by kernel_rfl
   exact⟨Lc,e▸ZmS b c⟩
def Zl7:(Rows.collectAgainRow.inPlace==Tryz.prog.inPlace 12)=Lc:=by kernel_rfl
def ZhY:(Rows.collectAgainRow.unfollowed==Tryz.prog.unfollowed 12)=Lc:=by kernel_rfl
def Zho:(Rows.collectAgainRow.recurses==Tryz.prog.recurses 12)=Lc:=by kernel_rfl
def ZdY:(Rows.collectAgainRow.named==Tryz.prog.varsNamed 12)=Lc:=by kernel_rfl
def Zdk:joinedFacts prog 12 f12 Rows.collectAgainSpec Rows.collectAgainRow=Lc:=by
 unfold joinedFacts;rw[Zl7,ZhY,Zho,ZdY];kernel_rfl
theorem collectAgain_holds:Rows.CollectAgainSaid:=
 OpenClaim.holds_of_wide 12 f12 rfl rfl rfl rfl rfl rfl rfl ⟨rfl,rfl,rfl,rfl,rfl⟩ rfl rfl rfl rfl rfl kr func12 Zdk
  (of_decide_eq_true kr) (by unfold Func.isWrapper;first|(rw[if_pos (by decide+kernel)];kernel_rfl)|(rw[if_neg (by decide+kernel)];exact⟨rfl,rfl⟩))
  (λos a H b _=>Zde os a H b)
end Go.Proofs.YtgedmeaemofdkaaGreat
