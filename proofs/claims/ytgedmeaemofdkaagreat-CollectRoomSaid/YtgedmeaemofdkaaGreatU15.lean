/-
 The statement CollectRoom: part 15.
 Conditions: none.
-/
import Derived.Test.YtgedmeaemofdkaaGreatU14
set_option maxRecDepth 100000
set_option maxHeartbeats 2000000
set_option linter.all false
namespace Go.Proofs.YtgedmeaemofdkaaGreat
open Go.Sx
def Zkl w a b ws n:CP (Zo Tryz.f81 0) (frL w a b ws n a.length).st (.ext 0) (Tg.st ⟨tm 88 [(0,.pt 0 0 0)],[(0,.box 127 [int w.heap.C.pw,int w.heap.C.pg,.ow 25015,ZU b,int w.heap.S,int w.heap.B,Z3 w.old,ZD w.T,Z3 w.Q,int w.D,int w.rep.copied,int w.rep.kept,int w.rep.filled,int n,int w.rep.cleared,int w.rep.steps]),(25015,.arr 35 1 (ws.map wdv))],5⟩):=by exact sF [] [] (Ffb 24 (decide ((a.length:Int)<(a.length:Int))) Fz)
section
variable (w:Z6) (hl:w.heap.P.length<=64) (a:0<=w.heap.C.pw/\w.heap.C.pw<=64) (hs:w.heap.P.length*w.heap.C.pw.toNat<=w.heap.W.length) (hw:w.heap.W.length<=4096) (hr:w.rep.freed=0) (P:PT w.heap.C w.heap.P)
include hl a hs hw hr P
theorem Z9J:CP (Zk Tryz.f81 0) (Tg.st ⟨tm 88 [(0,.pt 0 0 0),(2,.pt 0 0 0),(21,ZU w.heap.P),(22,int w.heap.P.length),(23,int 0)],[(0,.box 127 [int w.heap.C.pw,int w.heap.C.pg,.ow 25015,ZU w.heap.P,int w.heap.S,int w.heap.B,Z3 w.old,ZD w.T,Z3 w.Q,int w.D,int w.rep.copied,int w.rep.kept,int w.rep.filled,int w.rep.freed,int w.rep.cleared,int w.rep.steps]),(25015,.arr 35 1 (w.heap.W.map wdv))],5⟩) .nrm (Tg.st ⟨tm 88 [(0,.pt 0 0 0)],[(0,(H6 w).evD)],5⟩):=by
 refine CSpec.frz 25015 (t:=⟨tm 88 [(0,.pt 0 0 0)],[(0,.box 127 [int w.heap.C.pw,int w.heap.C.pg,.ow 25015,ZU (w.heap.P.map (Bv w.heap.S)),int w.heap.S,int w.heap.B,Z3 w.old,ZD w.T,Z3 w.Q,int w.D,int w.rep.copied,int w.rep.kept,int w.rep.filled,int (Ed w.rep.freed w.heap.S w.heap.P w.heap.P.length),int w.rep.cleared,int w.rep.steps]),(25015,.arr 35 1 ((Ee w.heap.C.pw w.heap.S w.heap.P w.heap.W w.heap.P.length).map wdv))],5⟩) (Bw (S:=λk=>(frL w w.heap.P (Cj w.heap.S w.heap.P k) (Ee w.heap.C.pw w.heap.S w.heap.P w.heap.W k) (Ed w.rep.freed w.heap.S w.heap.P k) k).st) w.heap.P.length kr (λk d=>?_) ?_) kr;have h1:=Dy w.heap.S w.heap.P k;have h3:=Mh (s:=w.heap.S) hs k oq;have h4:=To w.rep.freed w.heap.S w.heap.P k;have j:(k+1)*w.heap.C.pw.toNat<=w.heap.P.length*w.heap.C.pw.toNat:=Nat.mul_le_mul_right _ d;rw[Nat.add_mul,Nat.one_mul]at j;by_cases b:C8 w.heap.S (w.heap.P.getD k default);have g:Ee w.heap.C.pw w.heap.S w.heap.P w.heap.W (k+1)=Cg (Ee w.heap.C.pw w.heap.S w.heap.P w.heap.W k) (k*w.heap.C.pw.toNat) (List.replicate w.heap.C.pw.toNat 0):=by rw[Ee,if_pos b]
 have i:Ed w.rep.freed w.heap.S w.heap.P (k+1)=Ed w.rep.freed w.heap.S w.heap.P k+1:=by rw[Ed,if_pos b]
 have e:¬ (w.heap.P.getD k default).K=3->(Cj w.heap.S w.heap.P k).getD k default=w.heap.P.getD k default:=λq=>(Mq P k oq k d).2 λz=>by have:=z.2.2 q;omega
 rw[g,i];by_cases k1:(w.heap.P.getD k default).K=1;have c:Cj w.heap.S w.heap.P (k+1)=(Cj w.heap.S w.heap.P k).set k ⟨0,0,0,0⟩:=by rw[Cj,if_pos b,if_pos k1]
 rw[c];exact Zfp w _ _ _ _ k hl d b k1 oq oq (by rw[e oq];exact k1) a oq oq oq;by_cases f:(w.heap.P.getD k default).K=2;have c:Cj w.heap.S w.heap.P (k+1)=BK (Cj w.heap.S w.heap.P k) k (ZB (Cj w.heap.S w.heap.P k) k):=by rw[Cj,if_pos b,if_neg k1,if_pos f]
 rw[c];exact Z9A w _ _ _ _ k hl d b f oq oq (by rw[e oq];exact f) a oq oq oq;have c:Cj w.heap.S w.heap.P (k+1)=Cj w.heap.S w.heap.P k:=by rw[Cj,if_pos b,if_neg k1,if_neg f]
 have kk:=(P.b k d).k;have k0:=b.1;rw[c];exact ZiX w _ _ _ _ k hl d b oq a oq oq oq;have c:Cj w.heap.S w.heap.P (k+1)=Cj w.heap.S w.heap.P k:=by rw[Cj,if_neg b]
 have g:Ee w.heap.C.pw w.heap.S w.heap.P w.heap.W (k+1)=Ee w.heap.C.pw w.heap.S w.heap.P w.heap.W k:=by rw[Ee,if_neg b]
 have i:Ed w.rep.freed w.heap.S w.heap.P (k+1)=Ed w.rep.freed w.heap.S w.heap.P k:=by rw[Ed,if_neg b]
 rw[c,g,i];exact ZiR w _ _ _ _ k hl d b;have h:=Zkl w w.heap.P (Cj w.heap.S w.heap.P w.heap.P.length) (Ee w.heap.C.pw w.heap.S w.heap.P w.heap.W w.heap.P.length) (Ed w.rep.freed w.heap.S w.heap.P w.heap.P.length);simp only[ZhT P]at h⊢;exact h
theorem Zhd:BP 81 [.pt 0 0 0] [w.evD] (.tu []) [(H6 w).evD]:=by exact lF Tryz.func81 [] (Fc 15 (@TR w.heap.W oq) (Fl 22 Z0.dv w.heap.P (Fu (@Z9J w aa aa aa aa aa aa) Fz)))
end
def Z5B{w:Z6}{r}(e:(w.fwd r).2.2=0):(w.fwd r).1.heap.B=w.heap.B:=by
 unfold Z6.fwd Z6.place at e⊢;repeat' split
 all_goals first|rfl|simp_all
def ZeQ{h:Heap}{s}(c:Zx h.W)(b:Z8 h=true)(e:(rootsF (Zr h) s).2.2=0)(a:(Bu (rootsF (Zr h) s).1).2=0):(ZA h s).heap.B=h.B:=
 AW (λw=>w.heap.B=h.B) (λ_ _ _ _ q e=>(Z5B e).trans q) (λ_ _ _ _ _ q _ _ _ e=>(Z5B e).trans q) (λ_ _ q=>q) c b rfl e a
section
variable {B:Int} (c:0<=B) {h:Heap} {T:Nat->List Int} (g:Gd h T) {s:List Int} (k:List Int) (b:Zx h.W) (d:∀p∈h.P,p.N<=B) (e1:(rootsF (Zr h) s).2.2=0) (a:(Bu (rootsF (Zr h) s).1).2=0)
include c g b d e1 a
theorem Z62:FV h T (Cv h s k):=by have j:=cOk h s k b g.p e1 a;obtain⟨tq,l,_⟩:=Tr c g b d e1 a (k:=k);obtain⟨a1,r,m,a4,a5,a6,a7,a8⟩:=Sc (ZA h s) k k.length;have a1:(Cv h s k).heap=(ZA h s).heap:=a1;have m:(Cv h s k).T=(ZA h s).T:=m;have n:=Gh.1 g.p;have e:=l.k;have w:=ZeQ b g.p e1 a;refine⟨g,j.f3,j.i3, ?_,by rw[a1];exact e.c,by rw[a1];exact e.pl, ?_, ?_,j.r3.1,λi f=>?_⟩;rw[a1,Gh];have L:=j.i2.L;refine⟨e.c▸n.1,L,by rw[e.pl,e.c];exact n.2.2.1,l.s, ?_,l.pt⟩;rw[w];refine n.2.2.2.2.1.imp id λ⟨t,u,v⟩=>⟨t,by rw[e.pl];exact u, ?_⟩;by_cases q:((h.B.toNat:Nat):Int)∈(ZA h s).T;exact(e.tk _ q).2.2.1;rw[(e.pg _ q).1];exact v;exact r.trans j.x2.o;rw[a1];intro p y;obtain⟨i,o,rfl⟩:=List.getElem_of_mem y;have:=(l.pt.b i o).s;rw[List.getD_eq_getElem?_getD,List.getElem?_eq_getElem o,Option.getD_some]at this;omega;unfold ZH at f;rw[a1,m]at f;simp only[decide_eq_true_eq,Int.toNat_natCast]at f;obtain⟨p1,p2,p3⟩:=e.pg i f.2.2.2.2;rw[a1];refine⟨by rw[<-p1];exact f.2.2.1,p2,λx z=>?_⟩;exact(e.hd i x z).resolve_right λq=>f.2.2.2.1 q.2.2
theorem Zay:EW (Cv h s k) (Cv h s k).heap.P.length=C4 h s k:=(Z62 c g k b d e1 a).fin
theorem ZcS:PT (C4 h s k).heap.C (C4 h s k).heap.P:=by have f:=cOk h s k b g.p e1 a;obtain⟨tq,e,_⟩:=Tr c g b d e1 a (k:=k);rw[f.h4.1,f.h4.2.1,<-e.k.c];exact e.pt
end
end Go.Proofs.YtgedmeaemofdkaaGreat
