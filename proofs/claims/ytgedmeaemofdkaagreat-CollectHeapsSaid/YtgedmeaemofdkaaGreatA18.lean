/-
 The statement CollectHeaps: part 18.
 Conditions: none.
-/
import Derived.Test.YtgedmeaemofdkaaGreatA17
set_option maxRecDepth 100000
set_option maxHeartbeats 2000000
set_option linter.all false
open Inhabited renaming default->M
open Bool renaming false->O,true->Lb
open Decidable renaming decide->La
open List renaming map->Lc,getD_eq_getElem?_getD->Ld,getElem?_eq_getElem->Le,getElem_mem->Lf
open Go.Proofs.Tryz
namespace Go.Proofs.YtgedmeaemofdkaaGreat
open Go.Sx
def Zg.dv(x:Zg):List DV:=[Zd x.j.C.pw,Zd x.j.C.pg,.sl 1 (x.j.W.map wD),.sl 4 (x.j.P.map Z0.dv),Zd x.j.S,Zd x.j.B,.sl 1 (x.G.map wD),.sl 1 (x.E.map wD)]
def IK(w:Zg)(t:Tape)(a b:List Int):List Zg:=[w,w.spoil t,⟨w.j,a,w.E⟩,⟨w.j,w.G,b⟩]
structure Z3z (x:Zg):Prop where
 hw:Zy x.j.W
 wl:x.j.W.length<=1048576
 pl:x.j.P.length<=1048576
 sl:x.G.length<=1000
 kl:x.E.length<=1000
 su:CI x.G
 ku:CI x.E
def Oz(l:List Zg)(i:Nat):Tg:=⟨tm 125 [(10,bL O),(65,.ow 40055),(66,nI l.length),(67,nI i)],[(40055,.arr 30 8 (l.map Zg.dv))],8⟩
section
variable(l:List Zg)(hl:l.length<=5)(a:∀x∈l,Z3z x)
include hl a
theorem ZiE(i:Nat)(c:i<l.length):CP (Zl f7 0) (Oz l i).st .nrm (Oz l (i+1)).st:=by obtain⟨hw,wl,pl,sl,kl,su,ku⟩:=a (l.getD i M) (by rw[Ld,Le c];exact Lf c);obtain⟨cw,cl,cp,cs,ck⟩:=Z51 (h:=(l.getD i M).j) hw sl kl;exact sF [] [] (Ftb 68 (La ((i:Int)<(l.length:Int))) (Fm 70 Zg.dv l (↑i) i (Fc 78 (@Z92 ((l.getD i M).j) ((l.getD i M).G) ((l.getD i M).E) aa aa aa aa aa) (Fc 91 (@OP ((l.getD i M).j) ((l.getD i M).G) ((l.getD i M).E) aa oq oq aa aa) (FcG 103 (!(Zp (l.getD i M).j (l.getD i M).G (l.getD i M).E).2.2.2.2 != (Zp (l.getD i M).j (l.getD i M).G (l.getD i M).E).2.2.2.2) (λb=>by(try simp only[bs]at b);exact@Z4Y ((Zp (l.getD i M).j (l.getD i M).G (l.getD i M).E).1) ((Zp (l.getD i M).j (l.getD i M).G (l.getD i M).E).1) oq oq) (FcG 109 (!((Zp (l.getD i M).j (l.getD i M).G (l.getD i M).E).2.2.2.2 != (Zp (l.getD i M).j (l.getD i M).G (l.getD i M).E).2.2.2.2||!decide ((Zp (l.getD i M).j (l.getD i M).G (l.getD i M).E).1=(Zp (l.getD i M).j (l.getD i M).G (l.getD i M).E).1))) (λb=>by(try simp only[bs]at b);exact@Ox ((Zp (l.getD i M).j (l.getD i M).G (l.getD i M).E).2.1) aa) (FcG 115 (!((Zp (l.getD i M).j (l.getD i M).G (l.getD i M).E).2.2.2.2 != (Zp (l.getD i M).j (l.getD i M).G (l.getD i M).E).2.2.2.2||!decide ((Zp (l.getD i M).j (l.getD i M).G (l.getD i M).E).1=(Zp (l.getD i M).j (l.getD i M).G (l.getD i M).E).1)||!true)) (λb=>by(try simp only[bs]at b);exact@Ox ((Zp (l.getD i M).j (l.getD i M).G (l.getD i M).E).2.2.1) aa) (Ffs 122 ((Zp (l.getD i M).j (l.getD i M).G (l.getD i M).E).2.2.2.2 != (Zp (l.getD i M).j (l.getD i M).G (l.getD i M).E).2.2.2.2||!decide ((Zp (l.getD i M).j (l.getD i M).G (l.getD i M).E).1=(Zp (l.getD i M).j (l.getD i M).G (l.getD i M).E).1)||O||O||!((Zp (l.getD i M).j (l.getD i M).G (l.getD i M).E).2.2.2.1.copied==(Zp (l.getD i M).j (l.getD i M).G (l.getD i M).E).2.2.2.1.copied&&((Zp (l.getD i M).j (l.getD i M).G (l.getD i M).E).2.2.2.1.kept==(Zp (l.getD i M).j (l.getD i M).G (l.getD i M).E).2.2.2.1.kept&&((Zp (l.getD i M).j (l.getD i M).G (l.getD i M).E).2.2.2.1.filled==(Zp (l.getD i M).j (l.getD i M).G (l.getD i M).E).2.2.2.1.filled&&((Zp (l.getD i M).j (l.getD i M).G (l.getD i M).E).2.2.2.1.freed==(Zp (l.getD i M).j (l.getD i M).G (l.getD i M).E).2.2.2.1.freed&&((Zp (l.getD i M).j (l.getD i M).G (l.getD i M).E).2.2.2.1.cleared==(Zp (l.getD i M).j (l.getD i M).G (l.getD i M).E).2.2.2.1.cleared&&(Zp (l.getD i M).j (l.getD i M).G (l.getD i M).E).2.2.2.1.steps==(Zp (l.getD i M).j (l.getD i M).G (l.getD i M).E).2.2.2.1.steps)))))) (Fx 123 i Fz)))))))))
omit hl a in
theorem Zha:CP (Zl f7 0) (Oz l l.length).st (.ext 0) (Tg.st ⟨tm 125 [(10,bL O)],[],8⟩):=by exact sF [] []<|Ffb 68 (La ((l.length:Int)<(l.length:Int))) Fz
def ZjJ  := Bp (S:=λi=>(Oz l i).st) l.length (by kernel_rfl) (λi b=>ZiE l hl a i b) (Zha l)
end
def Z0x(l:List Zg)(i:Nat):Tg:=⟨tm 125 [(10,bL O),(65,.ow 56064),(66,nI l.length),(67,nI i)],[(56064,.arr 30 8 (l.map Zg.dv))],9⟩
section
variable(l:List Zg)(hl:l.length<=5)(a:∀x∈l,Z3z x)
include hl a
theorem Zjw(i:Nat)(c:i<l.length):CP (Zl f7 0) (Z0x l i).st .nrm (Z0x l (i+1)).st:=by obtain⟨hw,wl,pl,sl,kl,su,ku⟩:=a (l.getD i M) (by rw[Ld,Le c];exact Lf c);obtain⟨cw,cl,cp,cs,ck⟩:=Z51 (h:=(l.getD i M).j) hw sl kl;exact sF [] [] (Ftb 68 (La ((i:Int)<(l.length:Int))) (Fm 70 Zg.dv l (↑i) i (Fc 78 (@Z92 ((l.getD i M).j) ((l.getD i M).G) ((l.getD i M).E) aa aa aa aa aa) (Fc 91 (@OP ((l.getD i M).j) ((l.getD i M).G) ((l.getD i M).E) aa oq oq aa aa) (FcG 103 (!(Zp (l.getD i M).j (l.getD i M).G (l.getD i M).E).2.2.2.2 != (Zp (l.getD i M).j (l.getD i M).G (l.getD i M).E).2.2.2.2) (λb=>by(try simp only[bs]at b);exact@Z4Y ((Zp (l.getD i M).j (l.getD i M).G (l.getD i M).E).1) ((Zp (l.getD i M).j (l.getD i M).G (l.getD i M).E).1) oq oq) (FcG 109 (!((Zp (l.getD i M).j (l.getD i M).G (l.getD i M).E).2.2.2.2 != (Zp (l.getD i M).j (l.getD i M).G (l.getD i M).E).2.2.2.2||!decide ((Zp (l.getD i M).j (l.getD i M).G (l.getD i M).E).1=(Zp (l.getD i M).j (l.getD i M).G (l.getD i M).E).1))) (λb=>by(try simp only[bs]at b);exact@Ox ((Zp (l.getD i M).j (l.getD i M).G (l.getD i M).E).2.1) aa) (FcG 115 (!((Zp (l.getD i M).j (l.getD i M).G (l.getD i M).E).2.2.2.2 != (Zp (l.getD i M).j (l.getD i M).G (l.getD i M).E).2.2.2.2||!decide ((Zp (l.getD i M).j (l.getD i M).G (l.getD i M).E).1=(Zp (l.getD i M).j (l.getD i M).G (l.getD i M).E).1)||!true)) (λb=>by(try simp only[bs]at b);exact@Ox ((Zp (l.getD i M).j (l.getD i M).G (l.getD i M).E).2.2.1) aa) (Ffs 122 ((Zp (l.getD i M).j (l.getD i M).G (l.getD i M).E).2.2.2.2 != (Zp (l.getD i M).j (l.getD i M).G (l.getD i M).E).2.2.2.2||!decide ((Zp (l.getD i M).j (l.getD i M).G (l.getD i M).E).1=(Zp (l.getD i M).j (l.getD i M).G (l.getD i M).E).1)||O||O||!((Zp (l.getD i M).j (l.getD i M).G (l.getD i M).E).2.2.2.1.copied==(Zp (l.getD i M).j (l.getD i M).G (l.getD i M).E).2.2.2.1.copied&&((Zp (l.getD i M).j (l.getD i M).G (l.getD i M).E).2.2.2.1.kept==(Zp (l.getD i M).j (l.getD i M).G (l.getD i M).E).2.2.2.1.kept&&((Zp (l.getD i M).j (l.getD i M).G (l.getD i M).E).2.2.2.1.filled==(Zp (l.getD i M).j (l.getD i M).G (l.getD i M).E).2.2.2.1.filled&&((Zp (l.getD i M).j (l.getD i M).G (l.getD i M).E).2.2.2.1.freed==(Zp (l.getD i M).j (l.getD i M).G (l.getD i M).E).2.2.2.1.freed&&((Zp (l.getD i M).j (l.getD i M).G (l.getD i M).E).2.2.2.1.cleared==(Zp (l.getD i M).j (l.getD i M).G (l.getD i M).E).2.2.2.1.cleared&&(Zp (l.getD i M).j (l.getD i M).G (l.getD i M).E).2.2.2.1.steps==(Zp (l.getD i M).j (l.getD i M).G (l.getD i M).E).2.2.2.1.steps)))))) (Fx 123 i Fz)))))))))
omit hl a in
theorem Zg0:CP (Zl f7 0) (Z0x l l.length).st (.ext 0) (Tg.st ⟨tm 125 [(10,bL O)],[],9⟩):=by exact sF [] []<|Ffb 68 (La ((l.length:Int)<(l.length:Int))) Fz
def ZkL  := Bp (S:=λi=>(Z0x l i).st) l.length (by kernel_rfl) (λi b=>Zjw l hl a i b) (Zg0 l)
end
def Z6g(d odd b c:List Int)(hs:CI b)(sl:b.length<=50)(f:CI c)(kl:c.length<=50):∀x∈IK (ZC d) ⟨odd,0⟩ b c,Z3z x:=by have a:=Z30 d;have a1:=Hl a.hv;have a2:=BF.1 a.hv;have a3:=a.L;have a4:=a.pl;have g:=Zhu a ⟨odd,0⟩;intro x e;simp only[IK,List.mem_cons,List.not_mem_nil,or_false]at e;rcases e with rfl|rfl|rfl|rfl;exact⟨a.W,by omega,by omega,a.sl,a.wl,a.G,a.E⟩;exact⟨g.w,g.wl,g.pl,a.sl,a.wl,a.G,a.E⟩;exact⟨a.W,by simp only;omega,by simp only;omega,by simp only;omega,a.wl,hs,a.E⟩;exact⟨a.W,by simp only;omega,by simp only;omega,a.sl,by simp only;omega,a.G,f⟩
def Zgb(c odd a b:List Int)(hs:CI a)(sl:a.length<=50)(d:CI b)(kl:b.length<=50):CP (Zk f7 0) (Tg.st ⟨tm 125 [(10,bL O),(65,.ow 40055),(66,nI 4),(67,nI 0)],[(40055,.arr 30 8 ((IK (ZC c) ⟨odd,0⟩ a b).map Zg.dv))],8⟩) .nrm (Tg.st ⟨tm 125 [(10,bL O)],[],8⟩):=
 ZjJ (IK (ZC c) ⟨odd,0⟩ a b) (by simp[IK]) (Z6g c odd a b hs sl d kl)
def Z9W(d:Heap)(e odd a b:List Int)(hs:CI a)(sl:a.length<=50)(g:CI b)(kl:b.length<=50)(hw:Zy d.W)(c:d.W.length<=5000/\d.P.length<=100):CP (Zk f7 0) (Tg.st ⟨tm 125 [(10,bL O),(65,.ow 56064),(66,nI 5),(67,nI 0)],[(56064,.arr 30 8 ((IK (ZC e) ⟨odd,0⟩ a b++[(⟨d,a,b⟩:Zg)]).map Zg.dv))],9⟩) .nrm (Tg.st ⟨tm 125 [(10,bL O)],[],9⟩):=
 ZkL (IK (ZC e) ⟨odd,0⟩ a b++[(⟨d,a,b⟩:Zg)]) (by simp[IK]) λx f=>by
  rcases List.mem_append.1 f with f|f
  .exact Z6g e odd a b hs sl g kl x f
  .rw[List.mem_singleton.1 f];exact⟨hw,by simp only;omega,by simp only;omega,by simp only;omega,by simp only;omega,hs,g⟩
def Zgs(e:Heap)(b d a odd:List Int)(hw:Zy e.W)(_:b.length<=140737488355328)(hr:CI b)(_:d.length<=140737488355328)(h:CI d)(h1:a.length<=140737488355328)(h2:odd.length<=140737488355328):GP 7 [e.av,Z2 b,Z2 d,ZE a,ZE odd] Lb (bL Lb) []:=by
 have f:=Z30 a;have i:=f.so;have ht:CY ⟨odd,0⟩:=by simp[CY];omega
 have k:∀j,j<(ZC a).j.P.length->-1099511627776<=((ZC a).j.P.getD j M).U/\((ZC a).j.P.getD j M).U<=1099511627776:=λj g=>by(have:=f.us j g;omega)
 by_cases hl:b.length<=50;by_cases hk:d.length<=50;by_cases c:e.W.length<=5000/\e.P.length<=100;exact gF [] func7 []<|Fh 57 [.call Lb (bL (La (e.W.length<=5000/\e.P.length<=100))) [],.br Lb]<|Fh 66 [.int (↑(0+1+1+1+1+1):Int)]<|Fl 27 wD b<|FlG 31 (!decide (50<(b.length:Int))) wD d<|Ffb 33 (La (50<(b.length:Int))||La (50<(d.length:Int)))<|Fc 35 (@Z2G a aa)<|Fbr 40 [32039] (@Z8t (ZC a) (Tape.mk odd 0) aa aa (by(simp only[bs];omega)) aa)<|Fs 55 (Lc Zg.dv [ZC a,(ZC a).spoil (Tape.mk odd 0),Zg.mk (ZC a).j b (ZC a).E,Zg.mk (ZC a).j (ZC a).G d])<|Fa (@Z8K e)<|Fb (La (e.W.length<=5000/\e.P.length<=100)=Lb)<|Fs 63 (Lc Zg.dv [Zg.mk e b d])<|Fa (by simp[*]:(Lc Zg.dv [ZC a,(ZC a).spoil (Tape.mk odd 0),Zg.mk (ZC a).j b (ZC a).E,Zg.mk (ZC a).j (ZC a).G d]).length+(Lc Zg.dv [Zg.mk e b d]).length<=2^30)<|Fs 64 (Lc Zg.dv [ZC a,(ZC a).spoil (Tape.mk odd 0),Zg.mk (ZC a).j b (ZC a).E,Zg.mk (ZC a).j (ZC a).G d,Zg.mk e b d])<|Fr (↑(Lc Zg.dv [ZC a,(ZC a).spoil (Tape.mk odd (0:Int)),Zg.mk (ZC a).j b (ZC a).E,Zg.mk (ZC a).j (ZC a).G d,Zg.mk e b d]).length:Int)<|Fu (@Z9W e a odd b d aa aa aa aa aa aa)<|Fc 124 (@Z4L) Fz;exact gF [] func7 []<|Fh 57 [.call Lb (bL (La (e.W.length<=5000/\e.P.length<=100))) [],.br O]<|Fh 66 [.int (↑(0+1+1+1+1):Int)]<|Fl 27 wD b<|FlG 31 (!decide (50<(b.length:Int))) wD d<|Ffb 33 (La (50<(b.length:Int))||La (50<(d.length:Int)))<|Fc 35 (@Z2G a aa)<|Fbr 40 [32039] (@Z8t (ZC a) (Tape.mk odd 0) aa aa (by(simp only[bs];omega)) aa)<|Fs 55 (Lc Zg.dv [ZC a,(ZC a).spoil (Tape.mk odd 0),Zg.mk (ZC a).j b (ZC a).E,Zg.mk (ZC a).j (ZC a).G d])<|Fa (@Z8K e)<|Fb (La (e.W.length<=5000/\e.P.length<=100)=O)<|Fr (↑(Lc Zg.dv [ZC a,(ZC a).spoil (Tape.mk odd (0:Int)),Zg.mk (ZC a).j b (ZC a).E,Zg.mk (ZC a).j (ZC a).G d]).length:Int)<|Fu (@Zgb a odd b d aa aa aa aa)<|Fc 124 (@Z4L) Fz;exact gF [] func7 []<|Fl 27 wD b<|FlG 31 (!decide (50<(b.length:Int))) wD d<|Ftb 33 (La (50<(b.length:Int))||La (50<(d.length:Int))) Fz;exact gF [] func7 []<|Fl 27 wD b<|FlG 31 (!decide (50<(b.length:Int))) wD d<|Ftb 33 (La (50<(b.length:Int))||La (50<(d.length:Int))) Fz
end Go.Proofs.YtgedmeaemofdkaaGreat
namespace Go.Proofs.YtgedmeaemofdkaaGreat
open Go.Sx Go.RowKit
def Zau(os:Os)(d:os.Started)(H:Type)(enc:TypeId×Value->H) :ReturnsInHanded {} Tryz.checked os 7 .any (Rows.collectHeapsSpec.pre6 enc prog f7 Rows.collectHeapsRow.domain O) (Rows.collectHeapsSpec.post enc prog f7 O Lb O O):=by
 refine Zkd (C:=Tryz.checked) (tb:=4) 5 ZfH d kr func7
  (ChangeSpec.witness6 (enc:=enc) (C:=Tryz.checked) O ⟨#[],#[.agg #[.int .i64 0,.int .i64 0,.slice none 0 0,.slice none 0 0,.int .i64 0,.int .i64 0],.slice none 0 0,.slice none 0 0,.slice none 0 0,.slice none 0 0],[]⟩ 8 kr kr kr kr)
  ZfB kr kr kr kr rfl (λp q=>?_) (λs r h=>?_)
 .match p,q with
  |[a0,a1,a2,a3,a4],_=>rfl
 .match s,r with
  |[l0,l1,l2,l3,l4],_ =>
   obtain⟨l,rfl,o⟩:=Zfp (n:=1) (h 0 28 l0 kr rfl);obtain⟨a,rfl,b,c⟩:=Z16 (n:=3) (h 1 25 l1 kr rfl);obtain⟨g,rfl,j,k⟩:=Z16 (n:=3) (h 2 25 l2 kr rfl);obtain⟨f,rfl,i⟩:=Z4B (n:=3) (h 3 22 l3 kr rfl);obtain⟨odd,rfl,m⟩:=Z4B (n:=3) (h 4 22 l4 kr rfl);have e:RE prog Tryz.f7.params.toList [Z6F l,[.sl 1 (a.map wD)],[.sl 1 (g.map wD)],[.sl 1 (f.map iD)],[.sl 1 (odd.map iD)]]=[l.av,Z2 a,Z2 g,ZE f,ZE odd]:=by kernel_rfl
   exact⟨Lb,e▸Zgs l a g f odd o b c j k i m⟩
def Zim:(Rows.collectHeapsRow.inPlace==Tryz.prog.inPlace 7)=Lb:=by kernel_rfl
def Zbj:(Rows.collectHeapsRow.unfollowed==Tryz.prog.unfollowed 7)=Lb:=by kernel_rfl
def Zg1:(Rows.collectHeapsRow.recurses==Tryz.prog.recurses 7)=Lb:=by kernel_rfl
def Zj9:(Rows.collectHeapsRow.named==Tryz.prog.varsNamed 7)=Lb:=by kernel_rfl
def Zkk:joinedFacts prog 7 f7 Rows.collectHeapsSpec Rows.collectHeapsRow=Lb:=by unfold joinedFacts;rw[Zim,Zbj,Zg1,Zj9];kernel_rfl
theorem collectHeaps_holds:Rows.CollectHeapsSaid:=
 OpenClaim.holds_of_wide 7 f7 rfl rfl rfl rfl rfl rfl rfl ⟨rfl,rfl,rfl,rfl,rfl⟩ rfl rfl rfl rfl rfl kr func7 Zkk
  (of_decide_eq_true kr) (by unfold Func.isWrapper;first|(rw[if_pos (by decide+kernel)];kernel_rfl)|(rw[if_neg (by decide+kernel)];exact⟨rfl,rfl⟩))
  (λos a H b _=>Zau os a H b)
end Go.Proofs.YtgedmeaemofdkaaGreat
