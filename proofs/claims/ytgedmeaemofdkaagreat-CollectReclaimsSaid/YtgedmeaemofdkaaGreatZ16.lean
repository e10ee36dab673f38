/-
 The statement CollectReclaims: part 16.
 Conditions: none.
-/
import Derived.Defers
import Derived.WalkKit
import Derived.Test.YtgedmeaemofdkaaGreatZ15
set_option maxRecDepth 100000
set_option maxHeartbeats 2000000
set_option linter.all false
open Inhabited renaming default->M
open Bool renaming true->O,false->Lc,not_eq_true'->Lx,and_eq_true->LG,or_false->LH
open List renaming map->La,range->Lg,replicate->Lh,mem_range->Li,drop->Lj,take->Lk,find?_eq_none->Ll,find?_range_eq_some->Lm,getD_eq_getElem?_getD->Lo,length_map->Lp,length_take->Lr,getElem?_eq_getElem->Ls,length_replicate->Lt,map_append->Lu,getElem?_drop->Ly,getElem?_take->Lz,length_drop->LA,map_drop->LB,map_take->LC,find?_cons->LQ,getElem?_append->LR,getElem?_append_left->LS,getElem?_append_right->LU,map_replicate->LV,mem_map->LW,mem_of_find?_eq_some->LY,mem_of_getElem?->LZ,mem_replicate->L0,nodup_nil->L1
open Decidable renaming decide->Lb,not_not->L4
open Int renaming toNat->Ld,add_mul->LI,mul_comm->LL,mul_le_mul_of_nonneg_right->LM,one_mul->LN,tdiv_eq_ediv_of_nonneg->LO
open Option renaming some->Le,none->Lf,getD_some->LD,isSome_iff_exists->L2,map_some->L3
open Classical renaming not_not->Ln
open Go.IntKind renaming i64->Lq
open Nat renaming le_refl->Lv
open Array renaming replicate->Lw,getElem?_append->LF
open Go.Proofs.Tryz
namespace Go.Sx
def CSpec.seq{P c d s t u e}(h:CSpec P c s .nrm t)(k:CSpec P d t e u):CSpec P (.seq c d) s e u:=by intro f b g a w S;refine wp_seq (wp_mono (h f b g a w S) ?_);rintro e' j l ⟨rfl,i⟩;exact k f b g j l i
def Ziu{P:Program}{f:Nat}{fn c}{args l:List AV}{fr}{res x:AV}{ns:List Z4}{p qq:List Prop}{st}{kp:List Nat}(b:kp.Nodup)(s:P.funcs[f]?=Le fn)(r:fn.body=Le c)(h:CSpec P c ⟨args++Lh (fn.ntmps-args.length) .any,λ_=>Lf,1⟩ .ret st)(hl:Rw P st.tmps st.H fn.results.toList=Le l)(t:TF kp st.H fr (Ss l)=Le (x,p))(g:B6 p)(d:B6 (HP x res).2)(n:(HP x res).1=res)(k:An kp st.H fr=Le (ns,qq))(i:B6 qq):GSpec P f args fr res ns:=by intro w Im vs j m a;refine calls_of_wp s r (wp_mono (h _ _ _ _ _ (Z3w j m a)) ?_);rintro e a' w' ⟨rfl,S⟩;obtain⟨v,o,q⟩:=Z3B b S hl t g d n k i;obtain⟨_,_,_,T⟩:=S;exact⟨T.defers,v,o,v,rfl,q⟩
def Sys.defer{Ow Im0 w0 w tmps H clk a}(S:Sys Ow Im0 w0 tmps H clk a w)(D:List Deferred):Sys ⟨Ow.p,D⟩ Im0 w0 tmps H clk {a with defers:=D} w:=by obtain⟨ρ,b,I,T⟩:=S;exact⟨ρ,b,⟨I.kept,I.inj,I.notIm,I.bnd,I.own,I.imb,I.im0,I.blk,I.fresh,I.one⟩,⟨T.size,T.tmp,rfl⟩⟩
def Tb{P}{i:Nat}{l}{ops:Array Oper}{Q o a w}(c:ops[i]?=Le o)(b:o.guard=Lf)(h:o.wp P a w (wpOps P ops Q l) Q):wpOps P ops Q (i::l) a w:=by rw[wpOps];simp only[c];rw[if_pos (by simp[Region.wanted,b])];exact .inl h
def ZbC:Code->Code|.seq _ y=>y|c=>c
def Zd7:Code->Code|.seq x _=>x|c=>c
def Z8L:Nat->Code->Code|0,c=>c|n+1,c=>Z8L n (ZbC c)
def tlF(fn:Func)(n:Nat):Code:=match fn.body with|some c=>Z8L n c|none=>.skip
def Ry(fn:Func)(n:Nat):Code:=Zd7 (tlF fn n)
end Go.Sx
namespace Go.Proofs.YtgedmeaemofdkaaGreat
open Go.Sx Go.RowKit
def EB(s k:List Int):AV:=.d (.sl 1 [[.sl 1 (s.map wD)],[.sl 1 (k.map wD)]])
def ccA(s k:List Int)(n:Int)(i:Nat):Tg:=⟨tm 36 [(0,EB s k),(2,.d (.sl 0 [])),(3,nI n),(9,EB s k),(10,nI 2),(11,nI i)],[],4⟩
section
variable(s k:List Int)(hs:s.length<=1048575)(hk:k.length<=1048575)
include hs hk
theorem ZfF:CP (Zn f75 0) (ccA s k 0 0).st .nrm (ccA s k s.length 1).st:=by exact sF [] (fO 2)<|Fh 13 [.el [DV.sl 1 (La wD s)]]<|Fa (by simp[*]:0<=(↑(0:Nat):Int)/\[[DV.sl 1 (La wD s)],[DV.sl 1 (La wD k)]][(↑(0:Nat):Int).toNat]?=Le [DV.sl 1 (La wD s)])<|Fl 17 wD s<|Fi 18 (0+(s.length:Int))<|Fo (0+(s.length:Int)=(s.length:Int)) Fz
theorem Zi7:CP (Zn f75 0) (ccA s k s.length 1).st .nrm (ccA s k (s.length+k.length) 2).st:=by exact sF [] []<|Fh 13 [.el [DV.sl 1 (La wD k)]]<|Fa (by simp[*]:0<=(↑(1:Nat):Int)/\[[DV.sl 1 (La wD s)],[DV.sl 1 (La wD k)]][(↑(1:Nat):Int).toNat]?=Le [DV.sl 1 (La wD k)])<|Fl 17 wD k<|Fi 18 ((s.length:Int)+(k.length:Int)) Fz
theorem Zi8:CP (Zn f75 0) (ccA s k (s.length+k.length) 2).st (.ext 0) (Tg.st ⟨tm 36 [(0,EB s k),(2,.d (.sl 0 [])),(3,nI (s.length+k.length))],[],4⟩):=by exact sF [] [] Fz
def Zdn  := Bt (S:=λi=>(ccA s k (if i=0 then 0 else if i=1 then s.length else s.length+k.length) i).st) 2 (by kernel_rfl) (λi hi=>by
  have:i=0\/i=1:=by omega
  rcases this with rfl|rfl
  .exact ZfF s k hs hk
  .exact Zi7 s k hs hk) (Zi8 s k hs hk)
theorem Zbd:CP (Ry f75 0) (Tg.st ⟨tm 36 [(0,EB s k)],[],1⟩) .nrm (Tg.st ⟨tm 36 [(0,EB s k),(2,.d (.sl 0 []))],[],2⟩):=by exact sF [] [] Fz
theorem Zc2:CP (Ry f75 1) (Tg.st ⟨tm 36 [(0,EB s k),(2,.d (.sl 0 []))],[],2⟩) .nrm (Tg.st ⟨tm 36 [(0,EB s k),(2,.d (.sl 0 [])),(3,nI 0)],[],3⟩):=by exact sF [] [] Fz
theorem ZcP:CP (Ry f75 2) (Tg.st ⟨tm 36 [(0,EB s k),(2,.d (.sl 0 [])),(3,nI 0)],[],3⟩) .nrm (Tg.st ⟨tm 36 [(0,EB s k),(3,nI (s.length+k.length))],[],5⟩):=by exact sF [] []<|Fh 10 [.int (↑(0+1+1):Int)]<|Fr (↑[[DV.sl (1:Nat) (La wD s)],[DV.sl (1:Nat) (La wD k)]].length:Int)<|Fu (@Zdn s k aa aa) Fz
def ccD(s k:List Int)(l:List Int)(i:Nat):Tg:=⟨tm 36 [(6,.ow 41024),(25,EB s k),(26,nI 2),(27,nI i)],[(41024,.arr 35 1 (l.map wD))],7⟩
theorem Zij:CP (Zn f75 2) (ccD s k [] 0).st .nrm (ccD s k s 1).st:=by
 exact sF [(72033,41024)] []<|Fh 29 [.el [DV.sl 1 (La wD s)]]<|Fa (by simp[*]:0<=(↑(0:Nat):Int)/\[[DV.sl 1 (La wD s)],[DV.sl 1 (La wD k)]][(↑(0:Nat):Int).toNat]?=Le [DV.sl 1 (La wD s)])<|Fa (by(simp[*];omega):(La wD []).length+(La wD s).length<=2^30)<|Fs 33 (La wD s) Fz
theorem Zex:CP (Zn f75 2) (ccD s k s 1).st .nrm (ccD s k (s++k) 2).st:=by
 exact sF [(72033,41024)] []<|Fh 29 [.el [DV.sl 1 (La wD k)]]<|Fh 33 [.els (La wD (s++k))]<|Fa (by simp[*]:0<=(↑(1:Nat):Int)/\[[DV.sl 1 (La wD s)],[DV.sl 1 (La wD k)]][(↑(1:Nat):Int).toNat]?=Le [DV.sl 1 (La wD k)])<|Fa (by(simp only[Lp];omega):(La wD s).length+(La wD k).length<=2^30)<|Fa (ms:La wD s++La wD k=La wD (s++k)) Fz
theorem Zlj:CP (Zn f75 2) (ccD s k (s++k) 2).st (.ext 2) (Tg.st ⟨tm 36 [(6,.ow 41024)],[(41024,.arr 35 1 ((s++k).map wD))],7⟩):=by exact sF [] [] Fz
def ZfG  := Bt (S:=λi=>(ccD s k (if i=0 then []else if i=1 then s else s++k) i).st) 2 (by kernel_rfl) (λi hi=>by
  have:i=0\/i=1:=by omega
  rcases this with rfl|rfl
  .exact Zij s k hs hk
  .exact Zex s k hs hk) (Zlj s k hs hk)
theorem ZhZ:CP (tlF f75 4) (Tg.st ⟨tm 36 [(0,EB s k),(6,.ow 41024)],[(41024,.arr 35 1 [])],6⟩) .ret (Tg.st ⟨tm 36 [(2,.ow 41024)],[(41024,.arr 35 1 ((s++k).map wD))],8⟩):=by exact sF [] []<|Fh 26 [.int (↑(0+1+1):Int)]<|Fr (↑[[DV.sl (1:Nat) (La wD s)],[DV.sl (1:Nat) (La wD k)]].length:Int)<|Fu (@ZfG s k aa aa) Fz
end
def ZbL s k(n:Int)(h:0<=n/\n<=2097152):CP (Ry f75 3) (Tg.st ⟨tm 36 [(0,EB s k),(3,nI n)],[],5⟩) .nrm (Tg.st ⟨tm 36 [(0,EB s k),(6,.ow 41024)],[(41024,.arr 35 1 [])],6⟩):=by
 rintro Ow m w0 a w ⟨ρ,Im,I,T⟩;rw[show Ry f75 3=.region 9 (BJ f75 9) Lc from by kernel_rfl];refine wp_region ?_;rw[show Lg (BJ f75 9).size=[0,1,2]from by kernel_rfl];have j:=T.put 23 (Eb T (.tmp 3));refine Tb (o:=(BJ f75 9).getD 0 M) kr kr (SP (Z9Q (x:=.tmp 3) kr) ?_);show wpOps prog (BJ f75 9) _ [1,2] (a.put (Le 23) (a.eval (.tmp 3))) w;refine Tb (o:=(BJ f75 9).getD 1 M) kr kr (Z7J (c:=⟨.value (.func 128),#[.const (.slice Lf 0 0),.tmp 23],#[25,3]⟩) (f:=.func 128) (cs:=#[]) (d:=24) (ImC:=λ_=>False) kr rfl kr kr kr (Zf5 n h) I j rfl pq (λ_ q=>q.elim) (λq=>by cases q) (λi x v e b=>?_) λρ2 g v w' J T2 r=>?_);match i,e,b with|0,e,b =>cases e;simp at b;rw[<-b];exact .d (.sc _ rfl)|1,e,b =>cases e;simp only[List.map_toArray,List.map_cons,List.map_nil,Array.append_empty,List.getElem?_toArray,List.getElem?_cons_succ,List.getElem?_cons_zero,Option.some.injEq]at b;have r1:(a.put (Le 23) (a.eval (.tmp 3))).eval (.tmp 23)=.int .i64 n:=C1 (Eb j (.tmp 23));rw[<-b,r1];exact .d (.sc _ rfl)
 have l:=T2.put 24 r;have p:=l.put 6 (Eb l (.tmp 24));refine Tb (o:=(BJ f75 9).getD 2 M) kr kr (SP (Z2e (x:=.tmp 24) kr) ?_);refine⟨rfl,Ov (s:=⟨_,_,6⟩) kr kr (Sys.clk ⟨ρ2,g,J,p⟩ (Nat.le_succ 5))⟩
def Z8v(s k:List Int)(hs:s.length<=1048575)(a:k.length<=1048575):GP 75 [EB s k] O (Z2 (s++k)) []:=by have c:=(Zbd s k hs a).seq ((Zc2 s k hs a).seq ((ZcP s k hs a).seq ((ZbL s k (s.length+k.length) oq).seq (ZhZ s k hs a))));rw[show Tg.st ⟨tm 36 [(0,EB s k)],[],1⟩=⟨[EB s k]++Lh (Tryz.f75.ntmps - [EB s k].length) .any,λ_=>Lf,1⟩from by kernel_rfl]at c;exact Ziu (kp:=[]) (l:=[.ow 41024]) (x:=Z2 (s++k)) (qq:=[]) (p:=[Ci ((s++k).map wD)]) L1 func75 kr c kr kr (Hn _) trivial kr kr trivial
end Go.Proofs.YtgedmeaemofdkaaGreat
namespace Go.Proofs.YtgedmeaemofdkaaGreat
open Go.Sx Go.RowKit
def ZkU(a b c d e:Value) w :CallsD prog 72 #[a,b,c,d,e] .returning w λg i w'=>g=.returned (.tuple #[])/\i=.returning/\w'=w:=by refine callsD_of_wpS func72 rfl λf cs h=>?_;apply wpS_seq;apply wpS_region;simp[wpOpsS,go_sem,recoverD,h,Tryz.ntmps72,Exit.thenS];apply wpS_seq;apply wpS_region;simp[wpOpsS,go_sem,Tryz.ntmps72,Exit.thenS];refine wpS_cond (t:=Lc) (by simp[Act.eval,go_sem,Lw]) ?_;simp only[Bool.false_eq_true,if_false];refine wpS_of_wp (wp_skip ?_);cases f;simp_all[bodyPostS,results,Tryz.results72]
end Go.Proofs.YtgedmeaemofdkaaGreat
namespace Go.Proofs.YtgedmeaemofdkaaGreat
open Go.Sx Go.RowKit
structure Z4h (h:Heap) (s k:List Int) (w0 w1 w2 w3 w4 w5:Z6) (l o:List Int):Prop where
 b:GP 73 [h.av] Lc (.tu [w0.av,nI 0]) []
 r:GP 74 [h.av,Z2 (s++k)] O (bL O) []
 t:GP 77 [w0.av,Z2 s] O (.tu [w1.av,Z2 l,nI 0]) []
 a:GP 78 [w1.av] O (.tu [w2.av,nI 0]) []
 w:BP 79 [.pt 0 0 0,Z2 k] [w2.evD] (.ow 1) [w3.evD,Bh o]
 f:BP 80 [.pt 0 0 0] [w3.evD] (.tu []) [w4.evD]
 g:BP 81 [.pt 0 0 0] [w4.evD] (.tu []) [w5.evD]
 sl:s.length<=1000
 kl:k.length<=1000
 tl:w5.T.length<=1000000
 sp:w5.j.S=0\/w5.j.S=1
def ZaX{P:Program}{o:Oper}{a:Act}{w:World}{f:Nat}{l:Array Operand}(b:o.op=.makeFunc (.func f) #[] l):(execOp a.eval o).run P w=.ok (.value (.func (.func f) #[] (l.map a.eval))) w:=by simp[execOp,b,Instr.makeFunc]
def Zee{P}{o:Oper}{a:Act}{w}{c:Call}{x:Operand}{f:Nat}{l:Array Value}{next:Act->World->Prop}{Q}(d:o.op=.defer c)(b:c=⟨.value x,#[],#[]⟩)(e:a.eval x=.func (.func f) #[] l)(h:next ({a with defers:=⟨.fn (.func f) l,#[]⟩::a.defers}.put o.dst undef) w):o.wp P a w next Q:=by
 subst b;have:(execOp a.eval o).run P w=.ok (.defer ⟨.fn (.func f) l,#[]⟩) w:=by simp[execOp,d,resolve,e,Deferred.ofValue]
 unfold Oper.wp;rw[this];exact h
def clS(h:Heap)(s k:List Int):Tg:=⟨tm 79 [(1,Z2 s),(2,Z2 k),(3,.pt 8003 0 0),(6,.pt 8006 0 0),(7,.pt 8007 0 0),(8,.pt 8008 0 0),(9,.pt 8009 0 0),(10,.pt 8010 0 0)],[(8003,.box 28 h.cells),(8006,.box 28 [nI 0,nI 0,.d (.sl 0 []),.d (.sl 0 []),nI 0,nI 0]),(8007,.box 25 [.d (.sl 0 [])]),(8008,.box 25 [.d (.sl 0 [])]),(8009,.box 73 [nI 0,nI 0,nI 0,nI 0,nI 0,nI 0]),(8010,.box 32 [nI 0])],2⟩
section
variable{h:Heap}{s k:List Int}{w0 w1 w2 w3 w4 a:Z6}{l o:List Int}(c:Z4h h s k w0 w1 w2 w3 w4 a l o)
include c
theorem Z8u:GP 73 [h.av] Lc (.tu [w0.av,nI 0]) []:=c.b
theorem Z56:GP 74 [h.av,Z2 (s++k)] O (bL O) []:=c.r
theorem Z7d:GP 77 [w0.av,Z2 s] O (.tu [w1.av,Z2 l,nI 0]) []:=c.t
theorem Z8w:GP 78 [w1.av] O (.tu [w2.av,nI 0]) []:=c.a
theorem Z9D:BP 79 [.pt 0 0 0,Z2 k] [w2.evD] (.ow 1) [w3.evD,Bh o]:=c.w
theorem Z7s:BP 80 [.pt 0 0 0] [w3.evD] (.tu []) [w4.evD]:=c.f
theorem Z8D:BP 81 [.pt 0 0 0] [w4.evD] (.tu []) [a.evD]:=c.g
omit c in
theorem Zju(h:Heap) s k:CP (Ry f35 0) (Tg.st ⟨tm 79 [(0,h.av),(1,Z2 s),(2,Z2 k)],[],1⟩) .nrm (clS h s k).st:=by exact sF [] [] Fz
theorem ZcW:CP (tlF f35 2) (clS h s k).st .ret (Tg.st ⟨tm 79 [(6,.pt 8006 0 0),(7,.pt 8007 0 0),(8,.pt 8008 0 0),(9,.pt 8009 0 0),(10,.pt 8010 0 0)],[(8006,.box 28 (Eg a).cells),(8007,.box 25 [Z2 l]),(8008,.box 25 [.ow 24049]),(24049,.arr 35 1 (o.map wD)),(8009,.box 73 a.rep.cells),(8010,.box 32 [nI 0])],60⟩):=by
 have sl:=c.sl;have kl:=c.kl;have tl:=c.tl;have sp:=c.sp;by_cases e:0<a.T.length;have d:Eg a=⟨a.j.C,a.j.W,a.j.P,1-a.j.S,ZH a⟩:=by rw[Eg,if_pos e]
 rw[d];refine Zg [((16:Nat),[Hint.call Lc (AV.tu [w0.av,nI (0:Int)]) []]),((26:Nat),[Hint.call O (Z2 (s++k)) []]),((27:Nat),[Hint.call O (bL O) []]),((31:Nat),[Hint.call O (AV.tu []) []]),((35:Nat),[Hint.call O (AV.tu [w1.av,Z2 l,nI (0:Int)]) []]),((40:Nat),[Hint.call O (AV.tu []) []]),((43:Nat),[Hint.call O (AV.tu [w2.av,nI (0:Int)]) []]),((47:Nat),[Hint.call O (AV.tu []) []]),((49:Nat),[Hint.bor [(16011:Nat)] (AV.ow (1:Nat)) [w3.evD,Bh o]]),((50:Nat),[Hint.bor [(16011:Nat)] (AV.tu []) [w4.evD]]),((51:Nat),[Hint.bor [(16011:Nat)] (AV.tu []) [a.evD]]),((55:Nat),[Hint.int ((1:Int)-a.j.S)]),((62:Nat),[Hint.int (a.T.length:Int)]),((64:Nat),[Hint.br O]),((68:Nat),[Hint.int ((a.T.length:Int)-(1:Int))]),((69:Nat),[Hint.el (iD (a.T.getD ((a.T.length:Int)-(1:Int)).toNat M))])] [] [((73049:Nat),(24049:Nat))] [] (φ:=GP 73 [h.av] Lc (AV.tu [w0.av,nI (0:Int)]) []/\(((0:Int)==(0:Int))=O->GP 75 [EB s k] O (Z2 (s++k)) [])/\(((0:Int)==(0:Int))=O->GP 74 [h.av,Z2 (s++k)] O (bL O) [])/\GP 76 [nI (0:Int)] O (AV.tu []) []/\GP 77 [w0.av,Z2 s] O (AV.tu [w1.av,Z2 l,nI (0:Int)]) []/\GP 76 [nI (0:Int)] O (AV.tu []) []/\GP 78 [w1.av] O (AV.tu [w2.av,nI (0:Int)]) []/\GP 76 [nI (0:Int)] O (AV.tu []) []/\BP 79 [AV.pt (0:Nat) (0:Nat) (0:Nat),Z2 k] [w2.evD] (AV.ow (1:Nat)) [w3.evD,Bh o]/\BP 80 [AV.pt (0:Nat) (0:Nat) (0:Nat)] [w3.evD] (AV.tu []) [w4.evD]/\BP 81 [AV.pt (0:Nat) (0:Nat) (0:Nat)] [w4.evD] (AV.tu []) [a.evD]/\Lq.wrap ((1:Int)-a.j.S)=(1:Int)-a.j.S/\(↑(La iD a.T).length:Int)=(a.T.length:Int)/\Lb ((0:Int)<(a.T.length:Int))=O/\O=O/\Lq.wrap ((a.T.length:Int)-(1:Int))=(a.T.length:Int)-(1:Int)/\(0:Int)<=(a.T.length:Int)-(1:Int)/\(La iD a.T)[((a.T.length:Int)-(1:Int)).toNat]?=Le (iD (a.T.getD ((a.T.length:Int)-(1:Int)).toNat M))) ?_ kr kr kr;exact⟨(@Z8u (h) (s) (k) (w0) (w1) (w2) (w3) (w4) (a) (l) (o) aa),(λb=>by(try simp only[bs]at b);exact@Z8v (s) (k) (by(try simp only[bs]at b);omega) (by(try simp only[bs]at b);omega)),(λb=>by(try simp only[bs]at b);exact@Z56 (h) (s) (k) (w0) (w1) (w2) (w3) (w4) (a) (l) (o) aa),(@Ia ((0:Int)) (by rfl)),(@Z7d (h) (s) (k) (w0) (w1) (w2) (w3) (w4) (a) (l) (o) aa),(@Ia ((0:Int)) (by rfl)),(@Z8w (h) (s) (k) (w0) (w1) (w2) (w3) (w4) (a) (l) (o) aa),(@Ia ((0:Int)) (by rfl)),(@Z9D (h) (s) (k) (w0) (w1) (w2) (w3) (w4) (a) (l) (o) aa),(@Z7s (h) (s) (k) (w0) (w1) (w2) (w3) (w4) (a) (l) (o) aa),(@Z8D (h) (s) (k) (w0) (w1) (w2) (w3) (w4) (a) (l) (o) aa),(by exact Ze rfl oq oq),(by simp only[Lp]),(by(simp only[bs];omega)),rfl,(by exact Ze rfl oq oq),(by exact Zo oq oq oq)⟩;have d:Eg a=⟨a.j.C,a.j.W,a.j.P,1-a.j.S,-1⟩:=by rw[Eg,if_neg e]
 rw[d];exact sF [(73049,24049)] []<|Fc 16 (@Z8u h s k w0 w1 w2 w3 w4 a l o aa)<|FcG 26 ((0:Int)==0) (λb=>by(try simp only[bs]at b);exact@Z8v s k oq oq)<|FcG 27 ((0:Int)==0) (λb=>by(try simp only[bs]at b);exact@Z56 h s k w0 w1 w2 w3 w4 a l o aa)<|Fc 31 (@Ia (0) (by rfl))<|Fc 35 (@Z7d h s k w0 w1 w2 w3 w4 a l o aa)<|Fc 40 (@Ia (0) (by rfl))<|Fc 43 (@Z8w h s k w0 w1 w2 w3 w4 a l o aa)<|Fc 47 (@Ia (0) (by rfl))<|Fbr 49 [16011] (@Z9D h s k w0 w1 w2 w3 w4 a l o aa)<|Fbr 50 [16011] (@Z7s h s k w0 w1 w2 w3 w4 a l o aa)<|Fbr 51 [16011] (@Z8D h s k w0 w1 w2 w3 w4 a l o aa)<|Fi 55 (1-a.j.S)<|Fl 62 iD a.T<|Ffb 64 (Lb (0<(a.T.length:Int))) Fz
def clT(a:Z6)(l o:List Int):Tg:=⟨tm 79 [(6,.pt 8006 0 0),(7,.pt 8007 0 0),(8,.pt 8008 0 0),(9,.pt 8009 0 0),(10,.pt 8010 0 0)],[(8006,.box 28 (Eg a).cells),(8007,.box 25 [Z2 l]),(8008,.box 25 [Z2 o]),(8009,.box 73 a.rep.cells),(8010,.box 32 [nI 0])],60⟩
theorem Zkh:CP (tlF f35 2) (clS h s k).st .ret (clT a l o).st:=
 CSpec.frz 24049 (ZcW c) kr
theorem ZeN:GP 35 [h.av,Z2 s,Z2 k] Lc (.tu [(Eg a).av,Z2 l,Z2 o,.ag a.rep.cells,nI 0]) []:=by
 intro w y vs q r g;refine calls_of_wp_defers func35 (c:=.seq (Ry f35 0) (.seq (Ry f35 1) (tlF f35 2))) kr ?_;have S0:=Z3w (n:=79) q r g;rw[show [h.av,Z2 s,Z2 k]++Lh (79 - [h.av,Z2 s,Z2 k].length) .any=tm 79 [(0,h.av),(1,Z2 s),(2,Z2 k)]from by kernel_rfl]at S0;refine wp_seq (wp_mono (Zju h s k _ _ _ _ _ S0) ?_);rintro e a1 w1 ⟨rfl,S1⟩;refine wp_seq ?_;rw[show Ry f35 1=.region 1 (BJ f35 1) Lc from by kernel_rfl];refine wp_region ?_;rw[show Lg (BJ f35 1).size=[0,1]from by kernel_rfl];refine Tb (o:=(BJ f35 1).getD 0 M) kr kr (SP (ZaX (f:=72) (l:=#[.tmp 6,.tmp 7,.tmp 8,.tmp 9,.tmp 10]) kr) ?_);rw[show Array.map a1.eval #[.tmp 6,.tmp 7,.tmp 8,.tmp 9,.tmp 10]=#[a1.eval (.tmp 6),a1.eval (.tmp 7),a1.eval (.tmp 8),a1.eval (.tmp 9),a1.eval (.tmp 10)]from by simp];show wpOps prog (BJ f35 1) _ [1] (a1.put (Le 13) (.func (.func 72) #[] #[a1.eval (.tmp 6),a1.eval (.tmp 7),a1.eval (.tmp 8),a1.eval (.tmp 9),a1.eval (.tmp 10)])) w1;generalize a1.eval (.tmp 6)=v6,a1.eval (.tmp 7)=v7,a1.eval (.tmp 8)=v8,a1.eval (.tmp 9)=v9,a1.eval (.tmp 10)=v10;have j:Sx.Sys Gc y w ((clS h s k).st.tmps.set 13 .any) (clS h s k).st.H 2 (a1.put (Le 13) (.func (.func 72) #[] #[v6,v7,v8,v9,v10])) w1:=by(obtain⟨ρ,b,I,T⟩:=S1;exact⟨ρ,b,I,T.put 13 (.any _)⟩)
 have d:(a1.put (Le 13) (.func (.func 72) #[] #[v6,v7,v8,v9,v10])).eval (.tmp 13)=.func (.func 72) #[] #[v6,v7,v8,v9,v10]:=by
  obtain⟨ρ,b,I,T⟩:=S1;have:=T.size;have z:13<a1.tmps.size:=by rw[this,show(clS h s k).st.tmps.length=79 from by kernel_rfl];decide
  simp[Act.put,Act.eval,z]
 generalize a1.put (Le 13) (.func (.func 72) #[] #[v6,v7,v8,v9,v10])=a2 at j d⊢;refine Tb (o:=(BJ f35 1).getD 1 M) kr kr (Zee (c:=⟨.value (.tmp 13),#[],#[]⟩) (x:=.tmp 13) kr rfl d ?_);have S3:=j.defer [⟨.fn (.func 72) #[v6,v7,v8,v9,v10],#[]⟩];have hd:a2.defers=[]:=by(obtain⟨_,_,_,T⟩:=j;exact T.defers)
 rw[hd];show Code.wp prog (tlF f35 2) _ {tmps:=a2.tmps,defers:=[⟨.fn (.func 72) #[v6,v7,v8,v9,v10],#[]⟩]} w1;have S6:=Ov (s:=⟨(clS h s k).st.tmps.set 13 .any,(clS h s k).st.H,2⟩) (t:=clS h s k) kr kr S3;refine wp_mono (Zkh c _ _ _ _ _ S6) ?_;rintro e m i ⟨rfl,S4⟩;obtain⟨ρ,b,I,T⟩:=S4;show Leaves _ _ m.tmps _ m.defers .returning i;rw[T.defers];refine leaves_cons (f:=72) (args:=#[v6,v7,v8,v9,v10]) pq (RZ kr _ _) ?_;refine(ZkU v6 v7 v8 v9 v10 i).mono ?_;rintro e u' u ⟨rfl,rfl,rfl⟩;have S5:Sx.Sys Gc y w (clT a l o).st.tmps (clT a l o).st.H 60 {m with defers:=[]} u:=⟨ρ,b,⟨I.kept,I.inj,I.notIm,I.bnd,I.own,I.imb,I.im0,I.blk,I.fresh,I.one⟩,⟨T.size,T.tmp,rfl⟩⟩;obtain⟨v,r1,r2⟩:=Z3B (P:=prog) (fn:=f35) (fr:=Lc) (ns:=[]) (l:=[(Eg a).av,Z2 l,Z2 o,.ag a.rep.cells,nI 0]) (res:=.tu [(Eg a).av,Z2 l,Z2 o,.ag a.rep.cells,nI 0]) (x:=.tu [(Eg a).av,Z2 l,Z2 o,.ag a.rep.cells,nI 0]) (p:=[]) (qq:=[]) (st:=(clT a l o).st) (L1 (α:=Nat)) S5 kr kr trivial trivial kr kr trivial;exact⟨v,r1,v,rfl,r2⟩
end
end Go.Proofs.YtgedmeaemofdkaaGreat
namespace Go.Proofs.YtgedmeaemofdkaaGreat
open Go.Sx
def Z5R(h:Zv)(i:Int)(hm:0<=h.map/\h.map<=4294967295):GP 162 [h.av,nI i] O (bL (Bg h i)) []:=by
 rcases bb (!ZT h||Lb (i<0)||Lb (h.length<=i))with hc0|hc0<;>have hc0p:=hc0<;>simp only[bs]at hc0p
 .exact gF [] func162 (fO 6)<|Fc 6 (@SE h aa)<|Ft 17 hc0<|Fa (by grind[Bg]:Lc=Bg h i) Fz
 .obtain⟨⟨hc0paa,hc0pab⟩,hc0pb⟩:=hc0p;have hf3:=Gq.1 hc0paa;obtain⟨hf3a,⟨hf3ba,⟨hf3bba,⟨hf3bbba,hf3bbbb⟩⟩⟩⟩:=hf3;exact gF [] func162 (fO 17)<|Fc 6 (@SE h aa)<|Ff 17 hc0<|Fa (by intro hg;(try simp only[bs]at hg);omega:(!h.K==2&&h.K==1)=O->0<=i)<|Fa (Z90 h i hm aa oq oq:(h.K==2||h.K==1&&bits BinOp.and IntKind.u32 (h.map.fdiv (2^min i.toNat 32)) (1:Int)==1)=Bg h i) Fz
def Z0Q(h:Zv)(i:Nat):Tg:=⟨tm 19 [(1,.pt 8001 0 0),(2,.d (.sl 0 [])),(3,.ow 16003),(6,nI (Z5 h)),(7,nI i)],[(16003,.arr 3 1 ((BQ h i).map iD)),(8001,.box 52 [nI h.K,nI h.length,u32 h.map])],60⟩
def Zi5(h:Zv)(i:Nat)(hm:0<=h.map/\h.map<=4294967295)(hi:(i:Int)<Z5 h):CP (Zn f110 0) (Z0Q h i).st .nrm (Z0Q h (i+1)).st:=by
 have hn:=TX h i;have hs:=Ib h;by_cases a:Bg h (i:Int)=O;have e:BQ h (i+1)=BQ h i++[(i:Int)]:=by rw[BQ,if_pos a]
 exact sF [(504016,16003)] (fO 5)<|Fh 12 [.call O (bL (Bg h (i:Int))) [],.br O]<|Fh 16 [.els (La iD (BQ h i++[(i:Int)]))]<|Ftb 8 (Lb ((i:Int)<Z5 h))<|Fa (@Z5R h ((i:Int)) aa)<|Fa ‹Bg h (i:Int)=O›<|Fs 15 (La iD [(i:Int)])<|Fa (by(simp[*];omega):(La iD (BQ h i)).length+(La iD [(i:Int)]).length<=2^30)<|Fa (ms:La iD (BQ h i)++La iD [(i:Int)]=La iD (BQ h i++[(i:Int)]))<|Fx 17 i<|Fr (3:Int)<|Fa (by refine congrArg _ ?_;rw[e]:La iD (BQ h i++[(i:Int)])=La iD (BQ h (i+1))) Fz;have e:BQ h (i+1)=BQ h i:=by rw[BQ,if_neg a]
 have b:Bg h (i:Int)=Lc:=by simpa using a
 exact sF [] (fO 5)<|Fh 12 [.call O (bL (Bg h (i:Int))) [],.br Lc]<|Ftb 8 (Lb ((i:Int)<Z5 h))<|Fa (@Z5R h ((i:Int)) aa)<|Fa ‹Bg h (i:Int)=Lc›<|Fx 17 i<|Fr (3:Int)<|Fa (by refine congrArg _ ?_;rw[e]:La iD (BQ h i)=La iD (BQ h (i+1))) Fz
def ZlX(h:Zv)(i:Nat)(hi:(i:Int)=Z5 h):CP (Zn f110 0) (Z0Q h i).st (.ext 0) (Tg.st ⟨tm 19 [(2,.d (.sl 0 [])),(3,.ow 16003)],[(16003,.arr 3 1 ((BQ h i).map iD))],60⟩):=by exact sF [] []<|Ffb 8 (Lb ((i:Int)<Z5 h)) Fz
def Z4B(h:Zv):BQ h (Z5 h).toNat=Zw h:=by unfold Zw Z5;by_cases a:ZT h=O;rw[if_pos a,if_pos a];have hb:=Gq.1 a;rw[show(h.length+1).toNat=h.length.toNat+1 from by omega,BQ,if_neg];unfold Bg;simp;omega;rw[if_neg a,if_neg a];rfl
def Zfs(h:Zv)(a:0<=h.map/\h.map<=4294967295):CP (Zj f110 0) (Tg.st ⟨tm 19 [(1,.pt 8001 0 0),(2,.d (.sl 0 [])),(3,.ow 16003),(6,nI (Z5 h)),(7,nI 0)],[(16003,.arr 3 1 []),(8001,.box 52 [nI h.K,nI h.length,u32 h.map])],60⟩) .nrm (Tg.st ⟨tm 19 [(2,.d (.sl 0 [])),(3,.ow 16003)],[(16003,.arr 3 1 ((Zw h).map iD))],60⟩):=by have hs:=Ib h;rw[<-Z4B];exact Bt (S:=λi=>(Z0Q h i).st) (Z5 h).toNat kr (λi hi=>Zi5 h i a oq) (ZlX h _ oq)
def Z36(h:Zv)(hm:0<=h.map/\h.map<=4294967295):GP 110 [h.av] O (.d (.sl 1 ((Zw h).map iD))) []:=by exact gF [] func110 []<|Fh 3 [.own]<|Fc 6 (@ET h aa)<|Fu (@Zfs h aa)<|Fa (AY _:Ci (La iD (Zw h))) Fz
def Ah(h:Heap)(i:Nat):Tg:=⟨tm 19 [(1,nI i),(2,.pt 8002 0 0),(4,nI 0)],[(8002,.box 28 h.cells)],60⟩
def Zes(h:Heap)(i:Nat)(hi:i+1<h.P.length)(hl:h.P.length<=1048576)(hk:(h.P.getD (i+1) M).K=3):CP (Zn f247 0) (Ah h (i+1)).st .nrm (Ah h i).st:=by
 have ei:((i+1:Nat):Int)-1=(i:Int):=by omega
 exact sF [] []<|FeG 11 (Lb (0<(↑(i+1):Int))) Z0.dv h.P (↑(i+1):Int) (i+1)<|Ftb 15 (Lb (0<(↑(i+1):Int))&&(h.P.getD (i+1) M).K==3)<|Fg 17 (by rw[Ea oq oq];omega:Lq.wrap ((↑(i+1):Int)-1)=(i:Int)) Fz
def Z4p(h:Heap)(i:Nat)(hi:i<h.P.length)(hl:h.P.length<=1048576)(hk:¬ (h.P.getD i M).K=3):CP (Zn f247 0) (Ah h i).st (.ext 0) (Tg.st ⟨tm 19 [(1,nI i),(4,nI 0)],[],60⟩):=by exact sF [] []<|FeG 11 (Lb (0<(i:Int))) Z0.dv h.P (↑i) i<|Ffb 15 (Lb (0<(i:Int))&&(h.P.getD i M).K==3) Fz
def Z9J(h:Heap)(b:Z8 h=O)(hl:h.P.length<=1048576):∀i,i<h.P.length->Gk prog f247 0 (Ah h i).st (.ext 0) (Tg.st ⟨tm 19 [(1,nI (B1 h.P i)),(4,nI 0)],[],60⟩)
 |0,hi=>.endx (Z4p h 0 hi hl (Z8g b))
 |i+1,hi=>by
  unfold B1;by_cases a:(h.P.getD (i+1) M).K=3
  .rw[if_pos a];exact .next (Zes h i hi hl a) (Z9J h b hl i oq)
  .rw[if_neg a];exact .endx (Z4p h (i+1) hi hl a)
def Zb7(h:Heap)(i:Nat)(a:Z8 h=O)(hi:i<h.P.length)(hl:h.P.length<=1048576):CP (Zj f247 0) (Ah h i).st .nrm (Tg.st ⟨tm 19 [(1,nI (B1 h.P i)),(4,nI 0)],[],60⟩):=
 (Z9J h a hl i hi).ext kr
def Zha(h:Heap)(i:Nat)(a:Z8 h=O)(hi:i<h.P.length):GP 247 [h.av,nI i] O (nI (B1 h.P i)) []:=by have po:=B4 a;exact gF [] func247 []<|Fu (@Zb7 h i aa aa oq) Fz
def DG(h:Heap)(i:Int)(l:List Int)(n:Nat):Tg:=⟨tm 58 [(1,nI i),(3,.pt 8003 0 0),(6,uU 0),(7,bL Lc),(13,Z2 l),(14,nI l.length),(15,nI n)],[(8003,.box 28 h.cells)],60⟩
section
variable(h:Heap)(i:Int)(l:List Int)(n:Nat)(a:Zz h.W)(hl:l.length<=1048576)(hi:0<=i/\i<h.P.length)(b:h.P.length<=1048576)(hr:∀x∈l,0<=x/\x<=8192)
include a hl hi b hr
theorem Z9c(f:n<l.length)(e:Gs h i (l.getD n M)=Lc):CP (Zn f228 0) (DG h i l n).st .nrm (DG h i l (n+1)).st:=by have hx:=hr (l.getD n M) (B7.2 ⟨n,f,rfl⟩);have hm:=Iv a (l.getD n M);simp only[Gs,bs]at e;let c:=Z9 h (l.getD n M);let d:=h.P.getD i.toNat M;exact sF [] []<|Ftb 16 (Lb ((n:Int)<(l.length:Int)))<|Fek 17 wD l (↑n) n<|Fc 22 (@Ns h (l.getD n M) aa oq)<|Fc 26 (@ET (c.1) aa)<|Fc 29 (@PF h.C)<|Fe 34 Z0.dv h.P i<|FeGq 46 (!(d.K==1&&!decide (Z5 c.1<=Zc h.C))) Z0.dv h.P i<|Ffb 55 (d.K==1&&!decide (Z5 c.1<=Zc h.C)||d.K==2&&c.1.K==0)<|Fx 57 n Fz
theorem ZgX(f:n<l.length)(e:Gs h i (l.getD n M)=O):CP (Zn f228 0) (DG h i l n).st .ret (Tg.st ⟨tm 58 [(6,uU (l.getD n M)),(7,bL O)],[],60⟩):=by have hx:=hr (l.getD n M) (B7.2 ⟨n,f,rfl⟩);have hm:=Iv a (l.getD n M);simp only[Gs,bs]at e;let c:=Z9 h (l.getD n M);let d:=h.P.getD i.toNat M;exact sF [] []<|Ftb 16 (Lb ((n:Int)<(l.length:Int)))<|Fek 17 wD l (↑n) n<|Fc 22 (@Ns h (l.getD n M) aa oq)<|Fc 26 (@ET (c.1) aa)<|Fc 29 (@PF h.C)<|Fe 34 Z0.dv h.P i<|FeGq 46 (!(d.K==1&&!decide (Z5 c.1<=Zc h.C))) Z0.dv h.P i<|Ftb 55 (d.K==1&&!decide (Z5 c.1<=Zc h.C)||d.K==2&&c.1.K==0) Fz
omit a hl hi b hr in
theorem Zlf:CP (Zn f228 0) (DG h i l l.length).st (.ext 0) (Tg.st ⟨tm 58 [(6,uU 0),(7,bL Lc)],[],60⟩):=by exact sF [] []<|Ffb 16 (Lb ((l.length:Int)<(l.length:Int))) Fz
end
def Zf8(h:Heap)(i:Int)(l:List Int)(d:Zz h.W)(hl:l.length<=1048576)(hi:0<=i/\i<h.P.length)(c:h.P.length<=1048576)(hr:∀x∈l,0<=x/\x<=8192)(b:l.find? (Gs h i)=Lf) :CP (Zj f228 0) (Tg.st ⟨tm 58 [(1,nI i),(3,.pt 8003 0 0),(6,uU 0),(7,bL Lc),(13,Z2 l),(14,nI l.length),(15,nI 0)],[(8003,.box 28 h.cells)],60⟩) .nrm (Tg.st ⟨tm 58 [(6,uU 0),(7,bL Lc)],[],60⟩):=
 Bt (S:=λn=>(DG h i l n).st) l.length kr (λn a=>Z9c h i l n d hl hi c hr a (Pk b n a)) (Zlf h i l)
def ZjK(h:Heap)(i:Int)(l:List Int)(x:Int)(b:Zz h.W)(hl:l.length<=1048576)(hi:0<=i/\i<h.P.length)(a:h.P.length<=1048576)(hr:∀x∈l,0<=x/\x<=8192)(g:l.find? (Gs h i)=Le x) :CP (Zj f228 0) (Tg.st ⟨tm 58 [(1,nI i),(3,.pt 8003 0 0),(6,uU 0),(7,bL Lc),(13,Z2 l),(14,nI l.length),(15,nI 0)],[(8003,.box 28 h.cells)],60⟩) .ret (Tg.st ⟨tm 58 [(6,uU x),(7,bL O)],[],60⟩):=by obtain⟨n,c,d,e,f⟩:=A6 g;subst d;exact G0 (S:=λn=>(DG h i l n).st) n kr (λm j=>Z9c h i l m b hl hi a hr oq (f m j)) (ZgX h i l n b hl hi a hr c e)
def G6(h:Heap)(i:Int)(l:List Int):Bool:=(l.find? (Gs h i)).isSome
def M0(h:Heap)(i:Int)(l:List Int)(hw:Zz h.W)(hl:l.length<=1048576)(hp:h.P.length<=1048576)(hi:0<=i/\i<h.P.length)(hr:∀x∈l,0<=x/\x<=8192):GP 228 [h.av,nI i,Z2 l] O (.tu [uU (Cr h i l),bL (G6 h i l)]) []:=by
 cases hf:l.find? (Gs h i)with
 |none =>
  have a:Cr h i l=0:=by rw[Cr,hf];rfl
  have b:G6 h i l=Lc:=by rw[G6,hf];rfl
  rw[a,b];exact gF [] func228 []<|Fl 14 wD l<|Fu (@Zf8 h i l aa aa aa aa aa aa) Fz
 |some x =>
  have a:Cr h i l=x:=by rw[Cr,hf];rfl
  have b:G6 h i l=O:=by rw[G6,hf];rfl
  rw[a,b];exact gF [] func228 []<|Fl 14 wD l<|Fu (@ZjK h i l x aa aa aa aa aa aa) Fz
def ZjZ(ws:List Int)(a n:Int)(hw:ws.length<=1048576)(h0:4096<=a/\1<=n/\n<=1000/\a-4096+n<=ws.length):GP 117 [Z2 ws,uU a,nI n] O (.tu [.ow 0,nI 0]) [.arr 35 1 (((ws.drop (a-4096).toNat).take n.toNat).map wD)]:=by
 have c:(ZA ws a n).1=a-4096:=by rw[ZA,if_pos oq]
 have b:(ZA ws a n).2=O:=by rw[ZA,if_pos oq];simp;omega
 have d:(ws.drop (a-4096).toNat).take n.toNat≠[]:=AH (by rw[Lr,LA];omega);exact gF [41027] func117 [Lc,O]<|Fh 26 [.els (La wD (Lk (((ZA ws a n).1+n).toNat-(ZA ws a n).1.toNat) (Lj (ZA ws a n).1.toNat ws)))]<|Ffb 11 (Lb (n<0))<|Fc 16 (@Ti ws a n aa oq)<|Ffb 20 (!(ZA ws a n).2)<|Fi 25 ((ZA ws a n).1+n)<|Fa (by(simp only[Lp];omega):0<=(ZA ws a n).1/\(ZA ws a n).1<=(ZA ws a n).1+n/\(ZA ws a n).1+n<=(↑(La wD ws).length:Int))<|Fa (by simp[b,LC,LB,List.map_set,Lu,wD,iD]:Lk (((ZA ws a n).1+n).toNat-(ZA ws a n).1.toNat) (Lj (ZA ws a n).1.toNat (La wD ws))=La wD (Lk (((ZA ws a n).1+n).toNat-(ZA ws a n).1.toNat) (Lj (ZA ws a n).1.toNat ws)))<|Fc 27 (@Z8F (Lk (((ZA ws a n).1+n).toNat-(ZA ws a n).1.toNat) (Lj (ZA ws a n).1.toNat ws)) (by(simp[b, *];omega)) (by(simp[b, *];omega)))<|Fa (Hn _:Ci (La wD (Lk (((ZA ws a n).1+n).toNat-(ZA ws a n).1.toNat) (Lj (ZA ws a n).1.toNat ws))))<|Fr (35:Int)<|Fa (by refine congrArg _ ?_;(simp[b, *];omega):La wD (Lk (((ZA ws a n).1+n).toNat-(ZA ws a n).1.toNat) (Lj (ZA ws a n).1.toNat ws))=La wD (Lk n.toNat (Lj (a-4096).toNat ws))) Fz
def Gu(l:List Int):Nat:=(l.takeWhile λx=>x==0).length
def PX{l}{m:Nat}(h:m<Gu l):m<l.length/\l.getD m M=0:=by obtain⟨a,b⟩:=Ao _ _ _ h;refine⟨a, ?_⟩;rw[Lo,Ls a];simpa using b
def Z7C{l:List Int}(h:Gu l<l.length):¬ l.getD (Gu l) M=0:=by
 have a:=Ae (λx:Int=>x==0) l h;have b:l.getD (Gu l) M=l[(l.takeWhile λx=>x==0).length]:=by(rw[Lo,Ls h];rfl)
 rw[b];simpa using a
def C6(l:List Int):Int:=if Gu l<l.length then Gu l else -1
def Z8z x:GP 248 [uU x] O (bL (x != 0)) []:=by exact gF [] func248 [] Fz
def Dt(l:List Int)(i:Nat):Tg:=⟨tm 19 [(0,Z2 l),(1,.fn 248 []),(4,nI 0),(7,nI l.length),(8,nI i)],[],60⟩
def Z4W(l:List Int)(i:Nat)(hl:l.length<=1048576)(hi:i<l.length)(e:l.getD i M=0):CP (Zn f172 0) (Dt l i).st .nrm (Dt l (i+1)).st:=by exact sF [] []<|Fh 16 [.call O (bL (l.getD i M != 0)) [],.br Lc]<|Ftb 9 (Lb ((i:Int)<(l.length:Int)))<|Fek 14 wD l (↑i) i<|Fa (@Z8z (l.getD i M))<|Fb ((l.getD i M != 0)=Lc)<|Fx 18 i Fz
def Zko(l:List Int)(i:Nat)(hl:l.length<=1048576)(hi:i<l.length)(e:¬ l.getD i M=0):CP (Zn f172 0) (Dt l i).st .ret (Tg.st ⟨tm 19 [(4,nI i)],[],60⟩):=by exact sF [] []<|Fh 16 [.call O (bL (l.getD i M != 0)) [],.br O]<|Ftb 9 (Lb ((i:Int)<(l.length:Int)))<|Fek 14 wD l (↑i) i<|Fa (@Z8z (l.getD i M))<|Fb ((l.getD i M != 0)=O) Fz
def ZjJ l:CP (Zn f172 0) (Dt l l.length).st (.ext 0) (Tg.st ⟨tm 19 [(4,nI 0)],[],60⟩):=by exact sF [] []<|Ffb 9 (Lb ((l.length:Int)<(l.length:Int))) Fz
def Zh9(l:List Int)(hl:l.length<=1048576)(h:¬ Gu l<l.length)  := Bt (S:=λj=>(Dt l j).st) l.length (by kernel_rfl) (λj a=>Z4W l j hl a (PX (by omega)).2) (ZjJ l)
def Zfb(l:List Int)(hl:l.length<=1048576)(h:Gu l<l.length)  := G0 (S:=λj=>(Dt l j).st) (Gu l) (by kernel_rfl) (λj a=>Z4W l j hl (by omega) (PX a).2) (Zko l (Gu l) hl h (Z7C h))
def Zlg(l:List Int)(hl:l.length<=1048576):GP 172 [Z2 l,.fn 248 []] O (nI (C6 l)) []:=by by_cases h:Gu l<l.length;have a:C6 l=Gu l:=if_pos h;rw[a];exact gF [] func172 []<|Fl 7 wD l<|Fu (@Zfb l aa aa) Fz;have a:C6 l=-1:=if_neg h;rw[a];exact gF [] func172 []<|Fl 7 wD l<|Fu (@Zh9 l aa aa) Fz
def Gf(c:List Int)(x:Int):Nat:=(min (max x 0) (c.length:Int)).toNat
def RJ(c:List Int)(x k:Int):List Int:=c.take (Gf c x)++Lh (Gf c (x+k)-Gf c x) 0++c.drop (Gf c x+(Gf c (x+k)-Gf c x))
def ZL(h:Heap)(F:Int)(l c:List Int):Nat->List Int|0=>c|n+1=>RJ (ZL h F l c n) (l.getD n M-F) (GA h (l.getD n M))
def Z0i c(x:Int):Gf c x<=c.length:=by unfold Gf;omega
def Z5Q c(x:Int){k:Int}(hk:0<=k):Gf c x<=Gf c (x+k):=by unfold Gf;omega
def Z4r(h:Heap)(a:Int):0<=GA h a/\GA h a<=256:=by have:=Ib (Z9 h a).1;unfold GA;split<;>omega
def Ze7 c x{k:Int}(a:0<=k):(RJ c x k).length=c.length:=by have h1:=Z0i c x;have h2:=Z0i c (x+k);have h3:=Z5Q c x a;simp[RJ];omega
def Mp(h:Heap) F l c:∀n,(ZL h F l c n).length=c.length|0=>rfl|n+1=>by rw[ZL,Ze7 _ _ (Z4r h _).1,Mp h F l c n]
def adL(h:Heap)(F:Int)(l c:List Int)(n:Nat):Tg:=⟨tm 90 [(2,.pt 8002 0 0),(4,uU 0),(5,bL Lc),(6,uU F),(8,.ow 25033),(44,Z2 l),(45,nI l.length),(46,nI n)],[(25033,.arr 35 1 ((ZL h F l c n).map wD)),(8002,.box 28 h.cells)],60⟩
def Zap(h:Heap)(F:Int)(l c:List Int)(n:Nat)(g:Zz h.W)(hF:0<=F/\F<=8192)(hl:l.length<=1048576)(hc:c.length<=64)(hr:∀x∈l,0<=x/\x<=8192)(f:n<l.length):CP (Zn f229 0) (adL h F l c n).st .nrm (adL h F l c (n+1)).st:=by
 have hx:=hr (l.getD n M) (B7.2 ⟨n,f,rfl⟩);have hm:=Iv g (l.getD n M);have e:=Mp h F l c n;have hs:=Ib (Z9 h (l.getD n M)).1;by_cases d:(Z9 h (l.getD n M)).1.K=0;have b:GA h (l.getD n M)=1:=if_pos d;have a:ZL h F l c (n+1)=RJ (ZL h F l c n) (l.getD n M-F) 1:=by rw[ZL,b]
 exact sF [] (fO 8)<|Fh 20000 [.els (La wD (Lk (min (max (l.getD n M-F) 0) (↑(ZL h F l c n).length:Int)).toNat (ZL h F l c n)++Lh ((min (max (l.getD n M-F+1) 0) (↑(ZL h F l c n).length:Int)).toNat-(min (max (l.getD n M-F) 0) (↑(ZL h F l c n).length:Int)).toNat) 0++Lj ((min (max (l.getD n M-F) 0) (↑(ZL h F l c n).length:Int)).toNat+(Lh ((min (max (l.getD n M-F+1) 0) (↑(ZL h F l c n).length:Int)).toNat-(min (max (l.getD n M-F) 0) (↑(ZL h F l c n).length:Int)).toNat) (0:Int)).length) (ZL h F l c n)))]<|Ftb 47 (Lb ((n:Int)<(l.length:Int)))<|Fek 48 wD l (↑n) n<|Fc 53 (@Ns h (l.getD n M) aa oq)<|Ffb 58 ((Z9 h (l.getD n M)).1.K != 0)<|Fi 62 (l.getD n M)<|Fi 64 F<|Fi 65 (l.getD n M-F)<|Fgo 68 (if 0 > l.getD n M-F then 0 else l.getD n M-F) (max (l.getD n M-F) 0)<|Fl 70 wD (ZL h F l c n)<|Fgo 71 (if(↑(ZL h F l c n).length:Int)<max (l.getD n M-F) 0 then(↑(ZL h F l c n).length:Int)else max (l.getD n M-F) 0) (min (max (l.getD n M-F) 0) (↑(ZL h F l c n).length:Int))<|Fi 74 (l.getD n M-F+1)<|Fgo 75 (if 0 > l.getD n M-F+1 then 0 else l.getD n M-F+1) (max (l.getD n M-F+1) 0)<|Fl 77 wD (ZL h F l c n)<|Fgo 78 (if(↑(ZL h F l c n).length:Int)<max (l.getD n M-F+1) 0 then(↑(ZL h F l c n).length:Int)else max (l.getD n M-F+1) 0) (min (max (l.getD n M-F+1) 0) (↑(ZL h F l c n).length:Int))<|Fa (by(simp only[Lp];omega):0<=min (max (l.getD n M-F) 0) (↑(ZL h F l c n).length:Int)/\min (max (l.getD n M-F) 0) (↑(ZL h F l c n).length:Int)<=min (max (l.getD n M-F+1) 0) (↑(ZL h F l c n).length:Int)/\min (max (l.getD n M-F+1) 0) (↑(ZL h F l c n).length:Int)<=(↑(La wD (ZL h F l c n)).length:Int))<|Fa (by simp only[C9,Lu,LC,LB,LV,Lt];rfl:C9 (La wD (ZL h F l c n)) (min (max (l.getD n M-F) 0) (↑(ZL h F l c n).length:Int)).toNat (Lh ((min (max (l.getD n M-F+1) 0) (↑(ZL h F l c n).length:Int)).toNat-(min (max (l.getD n M-F) 0) (↑(ZL h F l c n).length:Int)).toNat) [B2 0])=La wD (Lk (min (max (l.getD n M-F) 0) (↑(ZL h F l c n).length:Int)).toNat (ZL h F l c n)++Lh ((min (max (l.getD n M-F+1) 0) (↑(ZL h F l c n).length:Int)).toNat-(min (max (l.getD n M-F) 0) (↑(ZL h F l c n).length:Int)).toNat) 0++Lj ((min (max (l.getD n M-F) 0) (↑(ZL h F l c n).length:Int)).toNat+(Lh ((min (max (l.getD n M-F+1) 0) (↑(ZL h F l c n).length:Int)).toNat-(min (max (l.getD n M-F) 0) (↑(ZL h F l c n).length:Int)).toNat) (0:Int)).length) (ZL h F l c n)))<|Fx 80 n<|Fr (35:Int)<|Fa (by refine congrArg _ ?_;rw[a];simp only[RJ,Gf,Lt]:La wD (Lk (min (max (l.getD n M-F) 0) (↑(ZL h F l c n).length:Int)).toNat (ZL h F l c n)++Lh ((min (max (l.getD n M-F+1) 0) (↑(ZL h F l c n).length:Int)).toNat-(min (max (l.getD n M-F) 0) (↑(ZL h F l c n).length:Int)).toNat) 0++Lj ((min (max (l.getD n M-F) 0) (↑(ZL h F l c n).length:Int)).toNat+(Lh ((min (max (l.getD n M-F+1) 0) (↑(ZL h F l c n).length:Int)).toNat-(min (max (l.getD n M-F) 0) (↑(ZL h F l c n).length:Int)).toNat) (0:Int)).length) (ZL h F l c n))=La wD (ZL h F l c (n+1))) Fz;have b:GA h (l.getD n M)=Z5 (Z9 h (l.getD n M)).1:=if_neg d;have a:ZL h F l c (n+1)=RJ (ZL h F l c n) (l.getD n M-F) (Z5 (Z9 h (l.getD n M)).1):=by rw[ZL,b]
 exact sF [] (fO 8)<|Fh 20000 [.els (La wD (Lk (min (max (l.getD n M-F) 0) (↑(ZL h F l c n).length:Int)).toNat (ZL h F l c n)++Lh ((min (max (l.getD n M-F+Z5 (Z9 h (l.getD n M)).1) 0) (↑(ZL h F l c n).length:Int)).toNat-(min (max (l.getD n M-F) 0) (↑(ZL h F l c n).length:Int)).toNat) 0++Lj ((min (max (l.getD n M-F) 0) (↑(ZL h F l c n).length:Int)).toNat+(Lh ((min (max (l.getD n M-F+Z5 (Z9 h (l.getD n M)).1) 0) (↑(ZL h F l c n).length:Int)).toNat-(min (max (l.getD n M-F) 0) (↑(ZL h F l c n).length:Int)).toNat) (0:Int)).length) (ZL h F l c n)))]<|Ftb 47 (Lb ((n:Int)<(l.length:Int)))<|Fek 48 wD l (↑n) n<|Fc 53 (@Ns h (l.getD n M) aa oq)<|Ftb 58 ((Z9 h (l.getD n M)).1.K != 0)<|Fc 60 (@ET ((Z9 h (l.getD n M)).1) aa)<|Fi 62 (l.getD n M)<|Fi 64 F<|Fi 65 (l.getD n M-F)<|Fgo 68 (if 0 > l.getD n M-F then 0 else l.getD n M-F) (max (l.getD n M-F) 0)<|Fl 70 wD (ZL h F l c n)<|Fgo 71 (if(↑(ZL h F l c n).length:Int)<max (l.getD n M-F) 0 then(↑(ZL h F l c n).length:Int)else max (l.getD n M-F) 0) (min (max (l.getD n M-F) 0) (↑(ZL h F l c n).length:Int))<|Fi 74 (l.getD n M-F+Z5 (Z9 h (l.getD n M)).1)<|Fgo 75 (if 0 > l.getD n M-F+Z5 (Z9 h (l.getD n M)).1 then 0 else l.getD n M-F+Z5 (Z9 h (l.getD n M)).1) (max (l.getD n M-F+Z5 (Z9 h (l.getD n M)).1) 0)<|Fl 77 wD (ZL h F l c n)<|Fgo 78 (if(↑(ZL h F l c n).length:Int)<max (l.getD n M-F+Z5 (Z9 h (l.getD n M)).1) 0 then(↑(ZL h F l c n).length:Int)else max (l.getD n M-F+Z5 (Z9 h (l.getD n M)).1) 0) (min (max (l.getD n M-F+Z5 (Z9 h (l.getD n M)).1) 0) (↑(ZL h F l c n).length:Int))<|Fa (by(simp only[Lp];omega):0<=min (max (l.getD n M-F) 0) (↑(ZL h F l c n).length:Int)/\min (max (l.getD n M-F) 0) (↑(ZL h F l c n).length:Int)<=min (max (l.getD n M-F+Z5 (Z9 h (l.getD n M)).1) 0) (↑(ZL h F l c n).length:Int)/\min (max (l.getD n M-F+Z5 (Z9 h (l.getD n M)).1) 0) (↑(ZL h F l c n).length:Int)<=(↑(La wD (ZL h F l c n)).length:Int))<|Fa (by simp only[C9,Lu,LC,LB,LV,Lt];rfl:C9 (La wD (ZL h F l c n)) (min (max (l.getD n M-F) 0) (↑(ZL h F l c n).length:Int)).toNat (Lh ((min (max (l.getD n M-F+Z5 (Z9 h (l.getD n M)).1) 0) (↑(ZL h F l c n).length:Int)).toNat-(min (max (l.getD n M-F) 0) (↑(ZL h F l c n).length:Int)).toNat) [B2 0])=La wD (Lk (min (max (l.getD n M-F) 0) (↑(ZL h F l c n).length:Int)).toNat (ZL h F l c n)++Lh ((min (max (l.getD n M-F+Z5 (Z9 h (l.getD n M)).1) 0) (↑(ZL h F l c n).length:Int)).toNat-(min (max (l.getD n M-F) 0) (↑(ZL h F l c n).length:Int)).toNat) 0++Lj ((min (max (l.getD n M-F) 0) (↑(ZL h F l c n).length:Int)).toNat+(Lh ((min (max (l.getD n M-F+Z5 (Z9 h (l.getD n M)).1) 0) (↑(ZL h F l c n).length:Int)).toNat-(min (max (l.getD n M-F) 0) (↑(ZL h F l c n).length:Int)).toNat) (0:Int)).length) (ZL h F l c n)))<|Fx 80 n<|Fr (35:Int)<|Fa (by refine congrArg _ ?_;rw[a];simp only[RJ,Gf,Lt]:La wD (Lk (min (max (l.getD n M-F) 0) (↑(ZL h F l c n).length:Int)).toNat (ZL h F l c n)++Lh ((min (max (l.getD n M-F+Z5 (Z9 h (l.getD n M)).1) 0) (↑(ZL h F l c n).length:Int)).toNat-(min (max (l.getD n M-F) 0) (↑(ZL h F l c n).length:Int)).toNat) 0++Lj ((min (max (l.getD n M-F) 0) (↑(ZL h F l c n).length:Int)).toNat+(Lh ((min (max (l.getD n M-F+Z5 (Z9 h (l.getD n M)).1) 0) (↑(ZL h F l c n).length:Int)).toNat-(min (max (l.getD n M-F) 0) (↑(ZL h F l c n).length:Int)).toNat) (0:Int)).length) (ZL h F l c n))=La wD (ZL h F l c (n+1))) Fz
def Zh0(h:Heap) F l c:CP (Zn f229 0) (adL h F l c l.length).st (.ext 0) (Tg.st ⟨tm 90 [(4,uU 0),(5,bL Lc),(6,uU F),(8,.ow 25033)],[(25033,.arr 35 1 ((ZL h F l c l.length).map wD))],60⟩):=by exact sF [] []<|Ffb 47 (Lb ((l.length:Int)<(l.length:Int))) Fz
def Zjt(h:Heap)(F:Int)(l c:List Int)(e:Zz h.W)(a:0<=F/\F<=8192)(hl:l.length<=1048576)(b:c.length<=64)(hr:∀x∈l,0<=x/\x<=8192):CP (Zj f229 0) (Tg.st ⟨tm 90 [(2,.pt 8002 0 0),(4,uU 0),(5,bL Lc),(6,uU F),(8,.ow 25033),(44,Z2 l),(45,nI l.length),(46,nI 0)],[(25033,.arr 35 1 (c.map wD)),(8002,.box 28 h.cells)],60⟩) .nrm (Tg.st ⟨tm 90 [(4,uU 0),(5,bL Lc),(6,uU F),(8,.ow 25033)],[(25033,.arr 35 1 ((ZL h F l c l.length).map wD))],60⟩):=
 Bt (S:=λn=>(adL h F l c n).st) l.length kr (λn d=>Zap h F l c n e a hl b hr d) (Zh0 h F l c)
def RP(h:Heap)(i:Nat):List Int:=(h.W.drop ((address h.C i 0).1-4096).toNat).take h.C.pw.toNat
def BU(h:Heap)(i:Nat):List Int:=ZL h (address h.C i 0).1 (Zd h (B1 h.P i:Nat)).1 (RP h i) (Zd h (B1 h.P i:Nat)).1.length
def OL(h:Heap)(i:Nat)(hw:Zz h.W)(d:Z8 h=O)(hi:i<h.P.length):GP 229 [h.av,nI i] O (.tu [uU ((address h.C i 0).1+max (C6 (BU h i)) 0),bL (Lb (0<=C6 (BU h i)))]) []:=by
 have e:=B4 d;have ea:(address h.C i 0).1=4096+i*h.C.pw:=by(unfold address;rw[if_pos e.1,if_pos (HT.2 oq)];simp only;omega)
 have ap:=HW e.1 (i:=i) oq oq;have hh:=Z21 h.P i;have hx:(i:Int)*h.C.pw+h.C.pw<=h.W.length:=by
  have h1:((i:Int)+1)*h.C.pw<=h.C.pg*h.C.pw:=LM oq oq;have h2:((i:Int)+1)*h.C.pw=i*h.C.pw+h.C.pw:=by rw[LI,LN]
  have h3:h.C.pg*h.C.pw=h.C.pw*h.C.pg:=LL _ _;omega
 have hr:=Al d (B1 h.P i:Nat);have hn:=NN h (B1 h.P i:Nat);have c:(BU h i).length<=64:=by(rw[BU,Mp,RP,Lr];omega)
 have f:C6 (BU h i)<=64/\-1<=C6 (BU h i):=by(have:Gu (BU h i)<=(BU h i).length:=(List.takeWhile_sublist _).length_le;unfold C6;split<;>omega)
 have g:(RP h i).length<=64:=by rw[RP,Lr];omega
 unfold BU RP at *;let b:=address h.C (i:Int) 0;let a:=ZL h b.1 (Zd h (↑(B1 h.P i):Int)).1 (Lk h.C.pw.toNat (Lj (b.1-4096).toNat h.W)) (Zd h (↑(B1 h.P i):Int)).1.length;exact gF [] func229 []<|Fc 23 (@TQ h.C ((i:Int)) (0))<|Fc 33 (@ZjZ h.W (b.1) h.C.pw oq oq)<|Fc 40 (@Zha h i aa aa)<|Fc 41 (@Rb h ((↑(B1 h.P i):Int)) aa oq)<|Fl 45 wD (Zd h (↑(B1 h.P i):Int)).1<|Fu (@Zjt h (b.1) ((Zd h (↑(B1 h.P i):Int)).1) (Lk h.C.pw.toNat (Lj (b.1-4096).toNat h.W)) aa oq oq aa aa)<|Fc 82 (@Zlg a oq)<|Fgo 85 (if 0 > C6 a then 0 else C6 a) (max (C6 a) 0)<|Fv 86 (max (C6 a) 0)<|Fv 87 (b.1+max (C6 a) 0) Fz
def unS(fn:Func):Func:=match fn.body with|some (.seq x (.scope c)) => {fn with body:=Le (.seq x c)}|_=>fn
def Z7m(fn:Func):Code:=match fn.body with|some (.seq x _)=>x|_=>.skip
def Z9p(fn:Func):Code:=match fn.body with|some (.seq _ c)=>c|_=>.skip
def Ze9{P c}{n m:Nat}{s t}(f:m≠n)(h:CSpec P c s (.ext m) t):CSpec P (.block n c) s (.ext m) t:=by intro g b j a w i;refine wp_block (wp_mono (h g b j a w i) ?_);rintro e a' w' ⟨rfl,d⟩;show(if m=n then _ else _);rw[if_neg f];exact⟨rfl,d⟩
def ZiC{P fn}{b m:Nat}{S:Nat->St}{t}(n:Nat)(a:RG b (Zj fn b)=O)(c:m≠b)(h:∀i,i<n->CSpec P (Zn fn b) (S i) .nrm (S (i+1)))(d:CSpec P (Zn fn b) (S n) (.ext m) t):CSpec P (Zj fn b) (S 0) (.ext m) t:=by rw[Z0M a];exact Ze9 c (Z2q (Z2H n h (λh=>nomatch h) d))
def fdV(h:Heap)(a k:Int):Int:=(Z1 h.W (a+1+k)).1
def NX(h:Heap)(b:List Int)(a k:Int):Bool:=(fdV h a k != 0)&&!decide (fdV h a k∈b)
def ZlN{h b}{a k:Int}:NX h b a k=O↔¬ fdV h a k=0/\¬ fdV h a k∈b:=by simp[NX]
def Zfl{h b}{a k:Int}:NX h b a k=Lc↔fdV h a k=0\/fdV h a k∈b:=by by_cases c:fdV h a k=0<;>by_cases d:fdV h a k∈b<;>simp[NX,c,d]
def yJ(a:Int)(P:List Int):Nat->Int|0=>0|j+1=>a+1+P.getD j M
def apI(h:Heap)(b:List Int)(i:Nat)(a:Int)(P:List Int)(j:Nat):Tg:=⟨tm 83 [(1,.pt 8001 0 0),(2,.pt 8002 0 0),(3,Z2 b),(5,uU (yJ a P j)),(7,uU a),(24,Z2 b),(25,nI b.length),(26,nI i),(37,ZF P),(38,nI P.length),(39,nI j)],[(8002,.box 223 [nI 0,nI 0,uU 0]),(8001,.box 28 h.cells)],64⟩
section
variable(h:Heap)(b:List Int)(i:Nat)(a:Int)(P:List Int)(j:Nat)(hw:Zz h.W)(c:h.W.length<=1048576)(hl:b.length<=1048576)(hs:b.Pairwise (· < ·))(ha:0<=a/\a<=8192)(hP:P.length<=256)(hk:0<=P.getD j M/\P.getD j M<=256)(hj:j<P.length)
include hw c hl hs ha hP hk hj
theorem Z7r(e:NX h b a (P.getD j M)=Lc):CP (Zn (unS f207) 2) (apI h b i a P j).st .nrm (apI h b i a P (j+1)).st:=by have f:yJ a P (j+1)=a+1+P.getD j M:=rfl;have d:=Zfl.1 e;unfold fdV at d;clear e;generalize g:yJ a P (j+1)=y1 at f;unfold apI;rw[g];rcases d with e|e;exact sF [] (fO 5)<|Ftb 40 (Lb ((j:Int)<(P.length:Int)))<|Fek 41 iD P (↑j) j<|Fv 44 (a+1)<|Fv 46 (P.getD j M)<|Fv 47 (a+1+P.getD j M)<|Fc 52 (@OK h.W (a+1+P.getD j M) aa oq)<|Fc 58 (@bsearch b ((Z1 h.W (a+1+P.getD j M)).1) aa aa)<|Ffb 66 ((Z1 h.W (a+1+P.getD j M)).1 != 0&&!decide ((Z1 h.W (a+1+P.getD j M)).1∈b))<|Fx 67 j<|Fa ‹a+1+P.getD j M=y1› Fz;exact sF [] (fO 5)<|Ftb 40 (Lb ((j:Int)<(P.length:Int)))<|Fek 41 iD P (↑j) j<|Fv 44 (a+1)<|Fv 46 (P.getD j M)<|Fv 47 (a+1+P.getD j M)<|Fc 52 (@OK h.W (a+1+P.getD j M) aa oq)<|Fc 58 (@bsearch b ((Z1 h.W (a+1+P.getD j M)).1) aa aa)<|Ffs 66 ((Z1 h.W (a+1+P.getD j M)).1 != 0&&!decide ((Z1 h.W (a+1+P.getD j M)).1∈b))<|Fx 67 j<|Fa ‹a+1+P.getD j M=y1› Fz
theorem Zcw(f:NX h b a (P.getD j M)=O):CP (Zn (unS f207) 2) (apI h b i a P j).st (.ext 0) (Tg.st ⟨tm 83 [(1,.pt 8001 0 0),(2,.pt 8002 0 0),(5,uU (a+1+P.getD j M))],[(8002,.box 223 [nI 0,nI 0,uU 0]),(8001,.box 28 h.cells)],68⟩):=by obtain⟨d,e⟩:=ZlN.1 f;unfold fdV at d e;clear f;exact sF [] []<|Ftb 40 (Lb ((j:Int)<(P.length:Int)))<|Fek 41 iD P (↑j) j<|Fv 44 (a+1)<|Fv 46 (P.getD j M)<|Fv 47 (a+1+P.getD j M)<|Fc 52 (@OK h.W (a+1+P.getD j M) aa oq)<|Fc 58 (@bsearch b ((Z1 h.W (a+1+P.getD j M)).1) aa aa)<|Fts 66 ((Z1 h.W (a+1+P.getD j M)).1 != 0&&!decide ((Z1 h.W (a+1+P.getD j M)).1∈b)) Fz
end
def ZiQ(h:Heap) b i a P:CP (Zn (unS f207) 2) (apI h b i a P P.length).st (.ext 2) (Tg.st ⟨tm 83 [(1,.pt 8001 0 0),(2,.pt 8002 0 0),(3,Z2 b),(24,Z2 b),(25,nI b.length),(26,nI i)],[(8002,.box 223 [nI 0,nI 0,uU 0]),(8001,.box 28 h.cells)],68⟩):=by exact sF [] []<|Ffb 40 (Lb ((P.length:Int)<(P.length:Int))) Fz
def ZhJ(h:Heap)(b:List Int)(i:Nat)(a:Int)(P:List Int)(m:Zz h.W)(d:h.W.length<=1048576)(hl:b.length<=1048576)(hs:b.Pairwise (· < ·))(f:0<=a/\a<=8192)(e:P.length<=256)(l:∀k∈P,0<=k/\k<=256)(g:P.find? (NX h b a)=Lf) :CP (Zj (unS f207) 2) (Tg.st ⟨tm 83 [(1,.pt 8001 0 0),(2,.pt 8002 0 0),(3,Z2 b),(5,uU 0),(7,uU a),(24,Z2 b),(25,nI b.length),(26,nI i),(37,ZF P),(38,nI P.length),(39,nI 0)],[(8002,.box 223 [nI 0,nI 0,uU 0]),(8001,.box 28 h.cells)],64⟩) .nrm (Tg.st ⟨tm 83 [(1,.pt 8001 0 0),(2,.pt 8002 0 0),(3,Z2 b),(24,Z2 b),(25,nI b.length),(26,nI i)],[(8002,.box 223 [nI 0,nI 0,uU 0]),(8001,.box 28 h.cells)],68⟩):=
 Bt (S:=λj=>(apI h b i a P j).st) P.length kr (λj c=>Z7r h b i a P j m d hl hs f e (l _ (B7.2 ⟨j,c,rfl⟩)) c (Pk g j c)) (ZiQ h b i a P)
def ZkC(h:Heap)(b:List Int)(i:Nat)(a:Int)(P:List Int)(x:Int)(l:Zz h.W)(c:h.W.length<=1048576)(hl:b.length<=1048576)(hs:b.Pairwise (· < ·))(f:0<=a/\a<=8192)(e:P.length<=256)(g:∀k∈P,0<=k/\k<=256)(q:P.find? (NX h b a)=Le x) :CP (Zj (unS f207) 2) (Tg.st ⟨tm 83 [(1,.pt 8001 0 0),(2,.pt 8002 0 0),(3,Z2 b),(5,uU 0),(7,uU a),(24,Z2 b),(25,nI b.length),(26,nI i),(37,ZF P),(38,nI P.length),(39,nI 0)],[(8002,.box 223 [nI 0,nI 0,uU 0]),(8001,.box 28 h.cells)],64⟩) (.ext 0) (Tg.st ⟨tm 83 [(1,.pt 8001 0 0),(2,.pt 8002 0 0),(5,uU (a+1+x))],[(8002,.box 223 [nI 0,nI 0,uU 0]),(8001,.box 28 h.cells)],68⟩):=by
 obtain⟨n,d,m,o,p⟩:=A6 q;subst m;exact ZiC (S:=λj=>(apI h b i a P j).st) n kr dd (λj r=>Z7r h b i a P j l c hl hs f e (g _ (B7.2 ⟨j,by omega,rfl⟩)) oq (p j r)) (Zcw h b i a P n l c hl hs f e (g _ (B7.2 ⟨n,d,rfl⟩)) d o)
def apF(h:Heap)(b:List Int)(a:Int):Option Int:=(Zw (Z9 h a).1).find? (NX h b a)
def apL(h:Heap)(a:List Int)(i:Nat):Tg:=⟨tm 83 [(1,.pt 8001 0 0),(2,.pt 8002 0 0),(3,Z2 a),(5,uU 0),(24,Z2 a),(25,nI a.length),(26,nI i)],[(8002,.box 223 [nI 0,nI 0,uU 0]),(8001,.box 28 h.cells)],60⟩
def Z1E(h:Zv):∀n:Nat,∀k∈BQ h n,0<=k/\k<n
 |0,k,hk=>by simp[BQ]at hk
 |n+1,k,hk=>by
  unfold BQ at hk;split at hk
  .rcases List.mem_append.1 hk with hk|hk
   .have:=Z1E h n k hk;omega
   .simp only[List.mem_cons,List.not_mem_nil,or_false]at hk;omega
  .have:=Z1E h n k hk;omega
def Z2O(h:Zv):(Zw h).length<=256/\∀k∈Zw h,0<=k/\k<=256:=by
 rw[<-Z4B];have hs:=Ib h;have h1:=TX h (Z5 h).toNat
 exact⟨by omega,λk a=>by have:=Z1E h _ k a;omega⟩
section
variable(h:Heap)(a:List Int)(i:Nat)(b:Zz h.W)(c:h.W.length<=1048576)(hl:a.length<=1048576)(hs:a.Pairwise (· < ·))(hr:∀x∈a,0<=x/\x<=8192)(hi:i<a.length)
include b c hl hs hr hi
theorem Z5f(g:apF h a (a.getD i M)=Lf):CP (Zn (unS f207) 0) (apL h a i).st .nrm (apL h a (i+1)).st:=by have hx:=hr (a.getD i M) (B7.2 ⟨i,hi,rfl⟩);have hm:=Iv b (a.getD i M);have f:=Z2O (Z9 h (a.getD i M)).1;have j:=f.1;have k:=f.2;unfold apF at g;let d:=a.getD i M;let e:=Zw (Z9 h d).1;exact sF [] []<|Fk (2,Tg.mk (tm 83 [(1,AV.pt 8001 0 0),(2,AV.pt 8002 0 0),(3,Z2 a),(5,uU 0),(7,uU d),(24,Z2 a),(25,nI ↑a.length),(26,nI ↑i),(37,ZF e),(38,nI (e.length:Int)),(39,nI 0)]) [(8002,Z4.box 223 [nI 0,nI 0,uU 0]),(8001,Z4.box 28 h.cells)] 64,Ex.nrm,Tg.mk (tm 83 [(1,AV.pt 8001 0 0),(2,AV.pt 8002 0 0),(3,Z2 a),(24,Z2 a),(25,nI ↑a.length),(26,nI ↑i)]) [(8002,Z4.box 223 [nI 0,nI 0,uU 0]),(8001,Z4.box 28 h.cells)] 68)<|Ftb 27 (Lb ((i:Int)<(a.length:Int)))<|Fek 28 wD a (↑i) i<|Fc 33 (@Ns h d aa oq)<|Fc 37 (@Z36 ((Z9 h d).1) aa)<|Fl 38 iD e<|Fa (@ZhJ h a i d e aa aa aa aa aa aa aa aa)<|Fx 68 i Fz
theorem Zb1 x(g:apF h a (a.getD i M)=Le x):CP (Zn (unS f207) 0) (apL h a i).st (.ext 0) (Tg.st ⟨tm 83 [(1,.pt 8001 0 0),(2,.pt 8002 0 0),(5,uU (a.getD i M+1+x))],[(8002,.box 223 [nI 0,nI 0,uU 0]),(8001,.box 28 h.cells)],72⟩):=by have hx:=hr (a.getD i M) (B7.2 ⟨i,hi,rfl⟩);have hm:=Iv b (a.getD i M);have f:=Z2O (Z9 h (a.getD i M)).1;have j:=f.1;have k:=f.2;unfold apF at g;let d:=a.getD i M;let e:=Zw (Z9 h d).1;exact sF [] []<|Fk (2,Tg.mk (tm 83 [(1,AV.pt 8001 0 0),(2,AV.pt 8002 0 0),(3,Z2 a),(5,uU 0),(7,uU d),(24,Z2 a),(25,nI ↑a.length),(26,nI ↑i),(37,ZF e),(38,nI (e.length:Int)),(39,nI 0)]) [(8002,Z4.box 223 [nI 0,nI 0,uU 0]),(8001,Z4.box 28 h.cells)] 64,Ex.ext 0,Tg.mk (tm 83 [(1,AV.pt 8001 0 0),(2,AV.pt 8002 0 0),(5,uU (a.getD i M+1+x))]) [(8002,Z4.box 223 [nI 0,nI 0,uU 0]),(8001,Z4.box 28 h.cells)] 68)<|Ftb 27 (Lb ((i:Int)<(a.length:Int)))<|Fek 28 wD a (↑i) i<|Fc 33 (@Ns h d aa oq)<|Fc 37 (@Z36 ((Z9 h d).1) aa)<|Fl 38 iD e<|Fa (@ZkC h a i d e x aa aa aa aa aa aa aa aa) Fz
end
def ZlM(h:Heap) a:CP (Zn (unS f207) 0) (apL h a a.length).st (.ext 0) (Tg.st ⟨tm 83 [(1,.pt 8001 0 0),(2,.pt 8002 0 0),(5,uU 0)],[(8002,.box 223 [nI 0,nI 0,uU 0]),(8001,.box 28 h.cells)],72⟩):=by exact sF [] []<|Ffb 27 (Lb ((a.length:Int)<(a.length:Int))) Fz
def Zgt(h:Heap)(b:List Int)(f:Zz h.W)(c:h.W.length<=1048576)(hl:b.length<=1048576)(hs:b.Pairwise (· < ·))(hr:∀x∈b,0<=x/\x<=8192)(e:b.find? (λa=>(apF h b a).isSome)=Lf)  := Bt (S:=λi=>(apL h b i).st) b.length (by kernel_rfl) (λi d=>Z5f h b i f c hl hs hr d (by simpa using Pk e i d)) (ZlM h b)
def ZjE(h:Heap)(b:List Int)(a x:Int)(d:Zz h.W)(c:h.W.length<=1048576)(hl:b.length<=1048576)(hs:b.Pairwise (· < ·))(hr:∀x∈b,0<=x/\x<=8192)(j:b.find? (λa=>(apF h b a).isSome)=Le a)(l:apF h b a=Le x):CP (Zj (unS f207) 0) (Tg.st ⟨tm 83 [(1,.pt 8001 0 0),(2,.pt 8002 0 0),(3,Z2 b),(5,uU 0),(24,Z2 b),(25,nI b.length),(26,nI 0)],[(8002,.box 223 [nI 0,nI 0,uU 0]),(8001,.box 28 h.cells)],60⟩) .nrm (Tg.st ⟨tm 83 [(1,.pt 8001 0 0),(2,.pt 8002 0 0),(5,uU (a+1+x))],[(8002,.box 223 [nI 0,nI 0,uU 0]),(8001,.box 28 h.cells)],72⟩):=by obtain⟨n,e,f,h3,g⟩:=A6 j;subst f;exact Bt (S:=λi=>(apL h b i).st) n kr (λi k=>Z5f h b i d c hl hs hr oq (by simpa using g i k)) (Zb1 h b n d c hl hs hr e x l)
def ZiP(h:Heap):CP (Z7m (unS f207)) (Tg.st ⟨tm 83 [(0,h.av)],[],1⟩) .nrm (Tg.st ⟨tm 83 [(1,.pt 8001 0 0),(2,.pt 8002 0 0)],[(8002,.box 223 [nI 0,nI 0,uU 0]),(8001,.box 28 h.cells)],20⟩):=by exact sF [] [] Fz
def Sq(h:Heap):Int:=match (Zh h).1.find? (λa=>(apF h (Zh h).1 a).isSome)with|some a=>a+1+(apF h (Zh h).1 a).getD 0|none=>0
def CM(h:Heap):Cf:=if Sq h=0 then⟨0,0,0⟩else⟨6,(Z3 h.C (Sq h)).1,Sq h⟩
def Zfm(h:Heap)(hw:Zz h.W)(i:h.W.length<=1048576):CP (Z9p (unS f207)) (Tg.st ⟨tm 83 [(1,.pt 8001 0 0),(2,.pt 8002 0 0)],[(8002,.box 223 [nI 0,nI 0,uU 0]),(8001,.box 28 h.cells)],20⟩) .ret (Tg.st ⟨tm 83 [(2,.pt 8002 0 0)],[(8002,.box 223 [nI (CM h).fault,nI (CM h).page,uU (CM h).addr])],90⟩):=by
 have hl:=Ic h;have hs:=PK h;have hr:=RU h;cases hf:(Zh h).1.find? (λa=>(apF h (Zh h).1 a).isSome)with
 |none =>
  have b:Sq h=0:=by simp only[Sq,hf]
  have c:CM h=⟨0,0,0⟩:=if_pos b;rw[c];exact sF [] []<|Fk (0,Tg.mk (tm 83 [(1,AV.pt 8001 0 0),(2,AV.pt 8002 0 0),(3,Z2 (Zh h).1),(5,uU 0),(24,Z2 (Zh h).1),(25,nI (↑(Zh h).1.length:Int)),(26,nI 0)]) [(8002,Z4.box 223 [nI 0,nI 0,uU 0]),(8001,Z4.box 28 h.cells)] 60,Ex.nrm,Tg.mk (tm 83 [(1,AV.pt 8001 0 0),(2,AV.pt 8002 0 0),(5,uU 0)]) [(8002,Z4.box 223 [nI 0,nI 0,uU 0]),(8001,Z4.box 28 h.cells)] 72)<|Fc 21 (@PI h aa)<|Fl 25 wD (Zh h).1<|Fa (@Zgt h ((Zh h).1) aa aa oq aa aa aa) Fz
 |some a =>
  obtain⟨n,e,f,g,h4⟩:=A6 hf;obtain⟨x,d⟩:=L2.1 g;have ha:=hr a (B7.2 ⟨n,e,f⟩);have j:=(Z2O (Z9 h a).1).2 x (LY d);have b:Sq h=a+1+x:=by simp only[Sq,hf,d,LD]
  have c:CM h=⟨6,(Z3 h.C (a+1+x)).1,a+1+x⟩:=by rw[CM,b,if_neg oq]
  rw[c];exact sF [] []<|Fk (0,Tg.mk (tm 83 [(1,AV.pt 8001 0 0),(2,AV.pt 8002 0 0),(3,Z2 (Zh h).1),(5,uU 0),(24,Z2 (Zh h).1),(25,nI (↑(Zh h).1.length:Int)),(26,nI 0)]) [(8002,Z4.box 223 [nI 0,nI 0,uU 0]),(8001,Z4.box 28 h.cells)] 60,Ex.nrm,Tg.mk (tm 83 [(1,AV.pt 8001 0 0),(2,AV.pt 8002 0 0),(5,uU (a+1+x))]) [(8002,Z4.box 223 [nI 0,nI 0,uU 0]),(8001,Z4.box 28 h.cells)] 72)<|Fc 21 (@PI h aa)<|Fl 25 wD (Zh h).1<|Fa (@ZjE h ((Zh h).1) a x aa aa oq aa aa aa aa)<|Ffb 70 (a+1+x==0)<|Fc 76 (@Gp h.C (a+1+x) oq oq) Fz
end Go.Proofs.YtgedmeaemofdkaaGreat
namespace Go.Proofs.YtgedmeaemofdkaaGreat
open Go.Sx Go.RowKit
def Cf.val(f:Cf):Value:=.agg #[.int .i64 f.fault,.int .i64 f.page,.int .u64 f.addr]
def ZfY ρ w Im(f:Cf):Zi ρ w Im f.av f.val:=by refine .ag _ _ rfl (λi v h=>?_) (λi a v b c=>?_);rcases i with _|_|_|i<;>simp at h<;>subst h<;>rfl;rcases i with _|_|_|i<;>simp at b c<;>subst b<;>subst c<;>exact .d (.sc _ rfl)
def Zjc{ρ w Im}{f:Cf}{v}(h:Zi ρ w Im f.av v):v=f.val:=by obtain⟨b,c,d,h3,e⟩:=Hx h;rw[c];have g:∀(k:Nat) (a:k<b.size) (v:Value),[nI f.fault,nI f.page,uU f.addr][k]?=Le (.d (.sc v))->b[k]=v:=λk a v j=>C1 (e k _ b[k] j (Array.getElem?_eq_getElem a));have i:b.size=3:=d;simp only[Cf.val];congr 1;apply Array.ext;simp[i];intro k a _;rcases k with _|_|_|k;exact g 0 a _ rfl;exact g 1 a _ rfl;exact g 2 a _ rfl;omega
def noGoto_ret{Q:Exit->Act->World->Prop}{a w}(h:Q .ret a w):Exit.noGoto Q Ex.ret.exit a w:=h
def Z1z(h:Heap)(hw:Zz h.W)(p:h.W.length<=1048576):GP 207 [h.av] O (CM h).av []:=by
 intro f t r j d a;have c:r.size=1:=d;have b:Tryz.f207.body=Le (.seq (Z7m (unS f207)) (.scope (Z9p (unS f207)))):=by kernel_rfl
 refine calls_of_wp func207 b ?_;have w:Sx.Sys Gc t f (tm 83 [(0,h.av)]) (BX []) 1 {tmps:=r++Lw (Tryz.f207.ntmps-r.size) undef,defers:=[]} f:=by(refine⟨_,t,Sx.Inv.empty j (Lv 1),⟨by rw[c];simp[c];kernel_rfl,λk y v g m=>?_,rfl⟩⟩;rw[show tm 83 [(0,h.av)]=[h.av]++Lh 82 .any from by kernel_rfl,LR]at g;rw[LF]at m;split at g;rename_i z;rw[if_pos (by rw[d];exact z)]at m;exact a k y v g m;have:=LZ g;rw[(L0.1 this).2];exact .any _)
 refine wp_seq (wp_mono (ZiP h _ _ _ _ _ w) ?_);rintro e a1 w1 ⟨rfl,x⟩;refine wp_scope_straight (wp_mono (Zfm h hw p _ _ _ _ _ x) ?_);rintro e a2 w2 ⟨rfl,ρ2,i,s,u⟩;obtain⟨v,n,o⟩:=Z1x (P:=prog) (fn:=f207) (l:=[(CM h).av]) s u kr;refine noGoto_ret (bodyPost_ret n u.defers ⟨v,rfl,s.kept.no,λ_=>Lf,λ_=>False,λ_ q=>q.elim,λ_ q=>q.elim,λ_ _ _ q=>(by cases q),λ_ _ _ _ _ q=>(by cases q),λ_ _ q=>(by cases q),λk B q=>by simp at q, ?_⟩);rw[Zjc (show Zi ρ2 w2 i (CM h).av v from o)];exact ZfY _ _ _ _
end Go.Proofs.YtgedmeaemofdkaaGreat
namespace Go.Proofs.YtgedmeaemofdkaaGreat
open Go.Sx
def Zed{c:List Int}{x k:Int}(f:0<=k){o:Nat}(ho:o<c.length):(RJ c x k).getD o 0=if x<=o/\(o:Int)<x+k then 0 else c.getD o 0:=by
 have h1:Gf c x<=c.length:=Z0i c x;have h2:Gf c (x+k)<=c.length:=Z0i c (x+k);have h3:=Z5Q c x f;have e:Gf c x+(Gf c (x+k)-Gf c x)=Gf c (x+k):=by omega
 have a1:o<Gf c x↔(o:Int)<x:=by unfold Gf;omega
 have a:o<Gf c (x+k)↔(o:Int)<x+k:=by unfold Gf;omega
 unfold RJ;rw[e];simp only[Lo];by_cases b:o<Gf c x;rw[List.append_assoc,LS qo,Lz,if_pos b,if_neg (by have:=a1.1 b;omega)];by_cases d:o<Gf c (x+k);rw[LS qo,LU qo,if_pos (by have:=a.1 d;omega)];rw[List.getElem?_replicate,if_pos qo];rfl;rw[LU qo,Ly,if_neg (λq=>d (a.2 q.2))];congr 2;simp;omega
def Z5X{h F}{l c:List Int}{o:Nat}(e:o<c.length):∀n:Nat,n<=l.length->(ZL h F l c n).getD o 0=if(l.take n).any (λa=>Lb (a-F<=o)&&Lb ((o:Int)<a-F+GA h a))=O then 0 else c.getD o 0
 |0,_=>by simp[ZL]
 |n+1,hn=>by
  have hl:=Mp h F l c n;rw[ZL,Zed (Z4r h _).1 oq,Z5X e n oq,Sn oq,List.any_append];generalize l.getD n M=a;generalize (l.take n).any _=b;by_cases d:a-F<=o/\(o:Int)<a-F+GA h a
  .rw[if_pos d,if_pos (by simp[d])]
  .rw[if_neg d];have:([a].any λa=>Lb (a-F<=(o:Int))&&Lb ((o:Int)<a-F+GA h a))=Lc:=by
    simp only[List.any_cons,List.any_nil,LH,Bool.and_eq_false_iff,decide_eq_false_iff_not];omega
   rw[this,LH]
def OR{h:Heap}(a:Z8 h=O){i:Nat}(hi:i<h.P.length){o:Int}(ho:0<=o/\o<h.C.pw):(address h.C i o).1=4096+(i*h.C.pw+o):=by have b:=B4 a;unfold address;rw[if_pos b.1,if_pos (HT.2 oq)]
def Z1a{h:Heap}(a:Z8 h=O){i:Nat}(hi:i<h.P.length):0<=(i:Int)*h.C.pw/\(i:Int)*h.C.pw+h.C.pw<=h.W.length:=by
 have po:=B4 a;have h1:((i:Int)+1)*h.C.pw<=h.C.pg*h.C.pw:=LM oq oq;have h2:((i:Int)+1)*h.C.pw=i*h.C.pw+h.C.pw:=by rw[LI,LN]
 have h3:h.C.pg*h.C.pw=h.C.pw*h.C.pg:=LL _ _;have h4:(0:Int)<=i*h.C.pw:=Int.mul_nonneg oq oq;omega
def Zl3{h:Heap}(a:Z8 h=O){i:Nat}(hi:i<h.P.length):(RP h i).length=h.C.pw.toNat/\∀o:Nat,o<h.C.pw.toNat->(RP h i).getD o 0=Gw h i o:=by have po:=B4 a;have pi:=Z1a a hi;have b:=OR a hi (o:=0) oq;constructor;simp only[RP,Lr,LA];omega;intro o d;have c:=OR a hi (o:=o) oq;unfold Gw Z1;rw[c];rw[if_pos oq];simp only[RP,Lo,Lz,Ly,if_pos d];rw[b,show(4096+((i:Int)*h.C.pw+0)-4096).toNat+o=(4096+((i:Int)*h.C.pw+(o:Int))-4096).toNat from by omega]
def Z3C{h:Heap}(b:Z8 h=O){i:Nat}(hi:i<h.P.length):(BU h i).length=h.C.pw.toNat/\∀o:Nat,o<h.C.pw.toNat->(BU h i).getD o 0=if(CN h i).getD o M=O then 0 else Gw h i o:=by
 have po:=B4 b;obtain⟨r1,r2⟩:=Zl3 b hi;constructor;rw[BU,Mp,r1];intro o c;rw[BU,Z5X oq _ (Lv _),List.take_length,r2 o c];have d:=OR b hi (o:=0) oq;have e:(CN h i).getD o M=(Zd h (B1 h.P i:Nat)).1.any (λa=>Lb (a-(address h.C i 0).1<=(o:Int))&&Lb ((o:Int)<a-(address h.C i 0).1+GA h a)):=by(unfold CN Cv;rw[Lo,List.getElem?_map,List.getElem?_range c];simp only[L3,LD];congr 1;funext a;unfold De;rw[d,show a-(4096+((i:Int)*h.C.pw+0))=a-4096-i*h.C.pw from by omega])
 rw[e]
def Z7e{h:Heap}(hp:Z8 h=O){i:Nat}(hi:i<h.P.length)(e:Gu (BU h i)<(BU h i).length):Ew h i (CN h i)=4096+i*h.C.pw+Gu (BU h i):=by
 obtain⟨c1,c2⟩:=Z3C hp hi;have hu:=TG h i;have hf:(Lg (CN h i).length).find? (Hu h i (CN h i))=Le (Gu (BU h i)):=by
  rw[Lm];refine⟨?_,Li.2 oq,λj hj=>?_⟩
  .have h1:=Z7C e;rw[show(M:Int)=0 from rfl,c2 _ oq]at h1;split at h1
   .exact absurd rfl h1
   .rename_i h2;simp only[Hu,LG,Lx,decide_eq_true_eq];exact⟨by simpa using h2,h1⟩
  .have h1:=(PX hj).2;rw[show(M:Int)=0 from rfl,c2 _ oq]at h1;simp only[Hu,Bool.not_and,Bool.not_not,Bool.or_eq_true,Lx,decide_eq_false_iff_not];split at h1
   .rename_i h2;exact .inl h2
   .exact .inr (λq=>q h1)
 unfold Ew;rw[hf]
def Zec{h:Heap}(hp:Z8 h=O){i:Nat}(hi:i<h.P.length)(e:¬ Gu (BU h i)<(BU h i).length):Ew h i (CN h i)=0:=by
 obtain⟨c1,c2⟩:=Z3C hp hi;have hu:=TG h i;have hf:(Lg (CN h i).length).find? (Hu h i (CN h i))=Lf:=by
  rw[Ll];intro j hj;have hj:=Li.1 hj;have h1:=(PX (l:=BU h i) (m:=j) oq).2;rw[show(M:Int)=0 from rfl,c2 _ oq]at h1;simp only[Hu,LG,Lx,decide_eq_true_eq,not_and];intro h2 h3;rw[if_neg (by rw[h2];simp)]at h1;exact h3 h1
 unfold Ew;rw[hf]
def Z2f{h:Heap}(a:Z8 h=O){i:Nat}(hi:i<h.P.length):G6 h i (Zd h i).1=Lb (Cr h i (Zd h i).1≠0):=by
 unfold Cr G6;cases hf:(Zd h i).1.find? (Gs h i)with
 |none=>simp
 |some x =>
  have b:=LY hf;have e:=Z2m a (i:=i) oq;rw[e]at b;obtain⟨y,c,rfl⟩:=LW.1 b;have h1:=(Z1u y c).1;have h2:=(Z1a a hi).1;have:y.addr≠0:=by omega
  simp[this]
def find_congr{α:Type}{p q:α->Bool}:∀{l:List α},(∀x∈l,p x=q x)->l.find? p=l.find? q
 |[],_=>rfl
 |a::l,h=>by
  rw[LQ,LQ,h a pq,find_congr (l:=l) (λx b=>h x (by simp[b]))]
def find_range{l:List Int}{p:Int->Bool}:match (Lg l.length).find? (λi=>p (l.getD i M))with|Lf=>l.find? p=Lf|Le i=>l.find? p=Le (l.getD i M):=by
 split;rename_i a;rw[Ll]at a⊢;intro x j;obtain⟨i,g,e⟩:=B7.1 j;have:=a i (Li.2 g);rwa [e]at this;rename_i i a;obtain⟨c,b,f⟩:=Lm.1 a;have b:=Li.1 b;cases hf:l.find? p with
 |none =>have:=Ll.1 hf (l.getD i M) (B7.2 ⟨i,b,rfl⟩);exact absurd c this
 |some x =>
  obtain⟨n,k1,d,k,m⟩:=A6 hf;have h:n=i:=by(rcases Nat.lt_trichotomy n i with q|q|q;have:=f n q;rw[d,k]at this;cases this;exact q;have:=m i q;rw[c]at this;cases this)
  subst h;rw[d]
def TE{h}{a:Int}(b:a∈(Zh h).1):(Z9 h a).2=0/\(Z9 h a).1.K≠0:=by by_cases e:(CC h).2=0;rw[Z5w h e]at b;obtain⟨x,i,rfl⟩:=LW.1 b;obtain⟨c,d⟩:=List.mem_filter.1 i;obtain⟨f,g⟩:=Z2x x c;refine⟨g, ?_⟩;rw[<-f];simpa[Et]using d;rw[Z8b h e]at b;simp at b
def Z60(hd:Zv):∀n:Nat,BQ hd n=((Lg n).filter (λk:Nat=>Bg hd k)).map (λk:Nat=>(k:Int))
 |0=>rfl
 |n+1=>by
  rw[BQ,List.range_succ,List.filter_append,Lu,<-Z60 hd n];by_cases h:Bg hd (n:Int)=O
  .rw[if_pos h];simp[h]
  .rw[if_neg h];simp[h]
def TB(h:Heap)(b:List Int)(a:Int):Option Nat:=(Lg (BV h a).1.length).find? (II (Zt h a).1 (BV h a).1 b)
def Z4D{h a}(e:(Z9 h a).2=0)(b:(Z9 h a).1.K≠0) c:apF h c a=(TB h c a).map (λk:Nat=>(k:Int)):=by
 have i1:=MZ e;have m:=(TU e).1;have d:Zt h a=Z9 h a:=by(unfold Zt;rw[if_pos m,if_neg oq,if_neg (λq=>b q.2)])
 have f:=N6 (h:=h) (a:=a) (by rw[d];exact e);rw[d]at f;have l:=f.2.2.2.2.2.2.1;have hl:=f.2.2.2.2.2.2.2.2.2;have g:(BV h a).1=(h.W.drop (a+1-4096).toNat).take (Z9 h a).1.length.toNat:=by(unfold BV;rw[d,if_pos e,BN,if_neg oq,if_pos oq])
 have j:(BV h a).1.length=(Z9 h a).1.length.toNat:=by(rw[g,Lr,LA];omega)
 have i:∀k:Nat,k<(Z9 h a).1.length.toNat->(BV h a).1.getD k M=fdV h a k:=by(intro k b;unfold fdV Z1;rw[if_pos oq,g];simp only[Lo,Lz,Ly,if_pos b];rw[show(a+1-4096).toNat+k=(a+1+(k:Int)-4096).toNat from by omega];rfl)
 unfold apF TB Zw;rw[if_pos l,Z60,List.find?_map,List.find?_filter,j,d];congr 1;refine find_congr λk b=>?_;have b:=Li.1 b;rw[II,i k b];simp only[Function.comp,NX];cases Bg (Z9 h a).1 (k:Int)<;>simp
def Zgr(h:Heap):CM h=EI h (Zh h).1:=by
 have hr:=find_range (l:=(Zh h).1) (p:=λa=>(TB h (Zh h).1 a).isSome);have j:(Zh h).1.find? (λa=>(apF h (Zh h).1 a).isSome)=(Zh h).1.find? (λa=>(TB h (Zh h).1 a).isSome):=find_congr λa f=>by(rw[Z4D (TE f).1 (TE f).2,Option.isSome_map])
 unfold CM Sq EI;rw[j];change match (Lg (Zh h).1.length).find? (λi=>(Hw h (Zh h).1 i).isSome)with|Lf=>_|Le i=>_ at hr
 split at hr;rename_i b;rw[hr,b];rfl;rename_i i b;have e:=(Lm.1 b);have d:(Zh h).1.getD i M∈(Zh h).1:=B7.2 ⟨i,Li.1 e.2.1,rfl⟩;obtain⟨k,g⟩:=L2.1 e.1;have c:TB h (Zh h).1 ((Zh h).1.getD i M)=Le k:=g;have i1:=MZ (TE d).1;rw[hr,b];simp only[g,Z4D (TE d).1 (TE d).2,c,L3,LD];rw[if_neg oq]
def NV(h:Heap)(i:Nat):Tg:=⟨tm 64 [(1,.pt 8001 0 0),(2,.pt 8002 0 0),(12,ZZ h.P),(13,nI h.P.length),(14,nI i)],[(8002,.box 223 [nI 0,nI 0,uU 0]),(8001,.box 28 h.cells)],60⟩
def Ds(f:Cf):Tg:=⟨tm 64 [(2,.pt 8002 0 0)],[(8002,.box 223 [nI f.fault,nI f.page,uU f.addr])],64⟩
section
variable(h:Heap)(i:Nat)(b:Zz h.W)(a:Z8 h=O)(hi:i<h.P.length)
include b a hi
theorem ZlA(e:Ew h i (CN h i)=0):C6 (BU h i)=-1:=by by_cases c:Gu (BU h i)<(BU h i).length;have h1:=Z7e a hi c;have h2:=(Z1a a hi).1;omega;exact if_neg c
theorem Zc8(e:¬ Ew h i (CN h i)=0):0<=C6 (BU h i)/\C6 (BU h i)<=64/\Ew h i (CN h i)=(address h.C i 0).1+C6 (BU h i):=by have po:=B4 a;by_cases c:Gu (BU h i)<(BU h i).length;have d:=Z7e a hi c;have f:C6 (BU h i)=Gu (BU h i):=if_pos c;have g:=OR a hi (o:=0) oq;have h4:=(Z3C a hi).1;rw[d,f,g];omega;exact absurd (Zec a hi c) e
theorem Zaj(c:(h.P.getD i M).K=0\/(h.P.getD i M).S=h.S)(n2:(Zd h (i:Int)).2=0)(e:Cr h (i:Int) (Zd h (i:Int)).1=0)(f:Ew h i (CN h i)=0):CP (Zn f206 0) (NV h i).st .nrm (NV h (i+1)).st:=by have po:=B4 a;have hn:=NN h (i:Int);have hr:=Al a (i:Int);have d:=Z2f a hi;rw[e]at d;have q4:=ZlA h i b a hi f;simp only[ne_eq,not_true_eq_false,decide_false]at d;rcases c with c|c;exact sF [] []<|Fh 48 [.br Lc]<|Fh 58 [.br Lc]<|Ftb 15 (Lb ((i:Int)<(h.P.length:Int)))<|Fek 17 Z0.dv h.P (↑i) i<|Ffb 28 ((h.P.getD i M).K != 0&&(h.P.getD i M).S != h.S)<|Fc 34 (@Rb h ((i:Int)) aa oq)<|Ffb 38 ((Zd h (i:Int)).2 != 0)<|Fc 45 (@M0 h ((i:Int)) ((Zd h (i:Int)).1) aa oq oq oq aa)<|Fa ‹G6 h (i:Int) (Zd h (i:Int)).1=Lc›<|Fc 55 (@OL h i aa aa aa)<|Fb (Lb (0<=C6 (BU h i))=Lc)<|Fx 62 i Fz;exact sF [] []<|Fh 48 [.br Lc]<|Fh 58 [.br Lc]<|Ftb 15 (Lb ((i:Int)<(h.P.length:Int)))<|Fek 17 Z0.dv h.P (↑i) i<|Ffb 28 ((h.P.getD i M).K != 0&&(h.P.getD i M).S != h.S)<|Fc 34 (@Rb h ((i:Int)) aa oq)<|Ffb 38 ((Zd h (i:Int)).2 != 0)<|Fc 45 (@M0 h ((i:Int)) ((Zd h (i:Int)).1) aa oq oq oq aa)<|Fa ‹G6 h (i:Int) (Zd h (i:Int)).1=Lc›<|Fc 55 (@OL h i aa aa aa)<|Fb (Lb (0<=C6 (BU h i))=Lc)<|Fx 62 i Fz
theorem Zlp(c:¬ (h.P.getD i M).K=0/\¬ (h.P.getD i M).S=h.S):CP (Zn f206 0) (NV h i).st .ret (Ds ⟨2,i,0⟩).st:=by have po:=B4 a;obtain⟨c,n2⟩:=c;exact sF [] []<|Ftb 15 (Lb ((i:Int)<(h.P.length:Int)))<|Fek 17 Z0.dv h.P (↑i) i<|Ftb 28 ((h.P.getD i M).K != 0&&(h.P.getD i M).S != h.S) Fz
theorem Zhd(c:(h.P.getD i M).K=0\/(h.P.getD i M).S=h.S)(n2:¬ (Zd h (i:Int)).2=0):CP (Zn f206 0) (NV h i).st .ret (Ds ⟨3,i,0⟩).st:=by have po:=B4 a;rcases c with c|c;exact sF [] []<|Ftb 15 (Lb ((i:Int)<(h.P.length:Int)))<|Fek 17 Z0.dv h.P (↑i) i<|Ffb 28 ((h.P.getD i M).K != 0&&(h.P.getD i M).S != h.S)<|Fc 34 (@Rb h ((i:Int)) aa oq)<|Ftb 38 ((Zd h (i:Int)).2 != 0) Fz;exact sF [] []<|Ftb 15 (Lb ((i:Int)<(h.P.length:Int)))<|Fek 17 Z0.dv h.P (↑i) i<|Ffb 28 ((h.P.getD i M).K != 0&&(h.P.getD i M).S != h.S)<|Fc 34 (@Rb h ((i:Int)) aa oq)<|Ftb 38 ((Zd h (i:Int)).2 != 0) Fz
theorem Zcm(c:(h.P.getD i M).K=0\/(h.P.getD i M).S=h.S)(n2:(Zd h (i:Int)).2=0)(d:¬ Cr h (i:Int) (Zd h (i:Int)).1=0):CP (Zn f206 0) (NV h i).st .ret (Ds ⟨5,i,Cr h (i:Int) (Zd h (i:Int)).1⟩).st:=by
 have po:=B4 a;have hn:=NN h (i:Int);have hr:=Al a (i:Int);have q3:G6 h i (Zd h i).1=O:=by rw[Z2f a hi];simpa using d
 rcases c with c|c;exact sF [] []<|Fh 48 [.br O]<|Ftb 15 (Lb ((i:Int)<(h.P.length:Int)))<|Fek 17 Z0.dv h.P (↑i) i<|Ffb 28 ((h.P.getD i M).K != 0&&(h.P.getD i M).S != h.S)<|Fc 34 (@Rb h ((i:Int)) aa oq)<|Ffb 38 ((Zd h (i:Int)).2 != 0)<|Fc 45 (@M0 h ((i:Int)) ((Zd h (i:Int)).1) aa oq oq oq aa)<|Fa ‹G6 h (i:Int) (Zd h (i:Int)).1=O› Fz;exact sF [] []<|Fh 48 [.br O]<|Ftb 15 (Lb ((i:Int)<(h.P.length:Int)))<|Fek 17 Z0.dv h.P (↑i) i<|Ffb 28 ((h.P.getD i M).K != 0&&(h.P.getD i M).S != h.S)<|Fc 34 (@Rb h ((i:Int)) aa oq)<|Ffb 38 ((Zd h (i:Int)).2 != 0)<|Fc 45 (@M0 h ((i:Int)) ((Zd h (i:Int)).1) aa oq oq oq aa)<|Fa ‹G6 h (i:Int) (Zd h (i:Int)).1=O› Fz
theorem ZlI(c:(h.P.getD i M).K=0\/(h.P.getD i M).S=h.S)(n2:(Zd h (i:Int)).2=0)(f:Cr h (i:Int) (Zd h (i:Int)).1=0)(g:¬ Ew h i (CN h i)=0):CP (Zn f206 0) (NV h i).st .ret (Ds ⟨4,i,Ew h i (CN h i)⟩).st:=by
 have po:=B4 a;have hn:=NN h (i:Int);have hr:=Al a (i:Int);have d:=Z2f a hi;rw[f]at d;simp only[ne_eq,not_true_eq_false,decide_false]at d;obtain⟨q4,q5,j⟩:=Zc8 h i b a hi g;have e:max (C6 (BU h i)) 0=C6 (BU h i):=by omega
 rw[j];rcases c with c|c;exact sF [] (fO 6)<|Fh 48 [.br Lc]<|Fh 58 [.br O]<|Ftb 15 (Lb ((i:Int)<(h.P.length:Int)))<|Fek 17 Z0.dv h.P (↑i) i<|Ffb 28 ((h.P.getD i M).K != 0&&(h.P.getD i M).S != h.S)<|Fc 34 (@Rb h ((i:Int)) aa oq)<|Ffb 38 ((Zd h (i:Int)).2 != 0)<|Fc 45 (@M0 h ((i:Int)) ((Zd h (i:Int)).1) aa oq oq oq aa)<|Fa ‹G6 h (i:Int) (Zd h (i:Int)).1=Lc›<|Fc 55 (@OL h i aa aa aa)<|Fb (Lb (0<=C6 (BU h i))=O)<|Fr (223:Int)<|Fr (4:Int)<|Fr (i:Int)<|Fa (by rw[e]:(address h.C (i:Int) 0).1+max (C6 (BU h i)) 0=(Cf.mk 4 (i:Int) ((address h.C (i:Int) 0).1+C6 (BU h i))).addr) Fz;exact sF [] (fO 6)<|Fh 48 [.br Lc]<|Fh 58 [.br O]<|Ftb 15 (Lb ((i:Int)<(h.P.length:Int)))<|Fek 17 Z0.dv h.P (↑i) i<|Ffb 28 ((h.P.getD i M).K != 0&&(h.P.getD i M).S != h.S)<|Fc 34 (@Rb h ((i:Int)) aa oq)<|Ffb 38 ((Zd h (i:Int)).2 != 0)<|Fc 45 (@M0 h ((i:Int)) ((Zd h (i:Int)).1) aa oq oq oq aa)<|Fa ‹G6 h (i:Int) (Zd h (i:Int)).1=Lc›<|Fc 55 (@OL h i aa aa aa)<|Fb (Lb (0<=C6 (BU h i))=O)<|Fr (223:Int)<|Fr (4:Int)<|Fr (i:Int)<|Fa (by rw[e]:(address h.C (i:Int) 0).1+max (C6 (BU h i)) 0=(Cf.mk 4 (i:Int) ((address h.C (i:Int) 0).1+C6 (BU h i))).addr) Fz
end
def Zlw(h:Heap):CP (Zn f206 0) (NV h h.P.length).st (.ext 0) (Ds ⟨0,0,0⟩).st:=by exact sF [] []<|Ffb 15 (Lb ((h.P.length:Int)<(h.P.length:Int))) Fz
def CJ(h:Heap):Cf:=match Gz h with|Le i=>pageF h i|Lf=>⟨0,0,0⟩
def Z7Z{h i}(e:(pageF h i).fault=0):((h.P.getD i M).K=0\/(h.P.getD i M).S=h.S)/\(Zd h (i:Int)).2=0/\Cr h (i:Int) (Zd h (i:Int)).1=0/\Ew h i (CN h i)=0:=by unfold pageF at e;split at e;simp at e;rename_i a;split at e;simp at e;rename_i b;split at e;simp at e;rename_i c;split at e;simp at e;rename_i d;refine⟨?_,Ln.1 b,Ln.1 c,Ln.1 d⟩;by_cases q:(h.P.getD i M).K=0;exact .inl q;refine .inr (Ln.1 λf=>a ⟨q,f⟩)
def Zbg(h:Heap)(i:Nat)(f:Zz h.W)(d:Z8 h=O)(hi:i<h.P.length)(e:(pageF h i).fault≠0):CP (Zn f206 0) (NV h i).st .ret (Ds (pageF h i)).st:=by
 unfold pageF at e⊢;split;rename_i b;exact Zlp h i f d hi b;rename_i b;have j:(h.P.getD i M).K=0\/(h.P.getD i M).S=h.S:=by(by_cases q:(h.P.getD i M).K=0;exact .inl q;exact .inr (Ln.1 λk=>b ⟨q,k⟩))
 split;rename_i a;exact Zhd h i f d hi j a;rename_i a;split;rename_i c;exact Zcm h i f d hi j (Ln.1 a) c;rename_i c;split;rename_i g;exact ZlI h i f d hi j (Ln.1 a) (Ln.1 c) g;rename_i g;rw[if_neg b,if_neg a,if_neg c,if_neg g]at e;exact absurd rfl e
def Zax(h:Heap)(d:Zz h.W)(c:Z8 h=O)(b:Gz h=Lf):CP (Zj f206 0) (NV h 0).st .nrm (Tg.st ⟨tm 64 [(2,.pt 8002 0 0)],[(8002,.box 223 [nI 0,nI 0,uU 0])],64⟩):=by refine Bt (S:=λk=>(NV h k).st) h.P.length kr (λk a=>?_) (Zlw h);have e:=Ll.1 b k (Li.2 a);obtain⟨f,g,j,l⟩:=Z7Z (h:=h) (i:=k) (by simpa using e);exact Zaj h k d c a f g j l
def Zfr(h:Heap) i(c:Zz h.W)(b:Z8 h=O)(g:Gz h=Le i):CP (Zj f206 0) (Tg.st ⟨tm 64 [(1,.pt 8001 0 0),(2,.pt 8002 0 0),(12,ZZ h.P),(13,nI h.P.length),(14,nI 0)],[(8002,.box 223 [nI 0,nI 0,uU 0]),(8001,.box 28 h.cells)],60⟩) .ret (Tg.st ⟨tm 64 [(2,.pt 8002 0 0)],[(8002,.box 223 [nI (pageF h i).fault,nI (pageF h i).page,uU (pageF h i).addr])],64⟩):=by obtain⟨d,a,f⟩:=Lm.1 g;have a:=Li.1 a;refine G0 (S:=λk=>(NV h k).st) i kr (λk j=>?_) (Zbg h i c b a (by simpa using d));have e:=f k j;obtain⟨l,m,n,o⟩:=Z7Z (h:=h) (i:=k) (by simpa using e);exact Zaj h k c b oq l m n o
def Oa(h:Heap)(hw:Zz h.W)(b:Z8 h=O):GP 206 [h.av] O (CJ h).av []:=by
 have po:=B4 b;cases hf:Gz h with
 |none =>
  have a:CJ h=⟨0,0,0⟩:=by simp only[CJ,hf]
  rw[a];exact gF [] func206 []<|Fl 13 Z0.dv h.P<|Fu (@Zax h aa aa aa) Fz
 |some i =>
  have a:CJ h=pageF h i:=by simp only[CJ,hf]
  rw[a];exact gF [] func206 []<|Fl 13 Z0.dv h.P<|Fu (@Zfr h i aa aa aa) Fz
def Zcq(h:Heap)(hw:Zz h.W)(hp:Z8 h=Lc):GP 171 [h.av] O (Cf.av ⟨1,0,0⟩) []:=by exact gF [] func171 []<|Fc 9 (@EF h)<|Ftb 10 (!Z8 h) Fz
def ZgD(h:Heap)(hw:Zz h.W)(d:Z8 h=O) i(a:Gz h=Le i):GP 171 [h.av] O (pageF h i).av []:=by
 have po:=B4 d;have b:CJ h=pageF h i:=by simp only[CJ,a]
 have c:¬ (pageF h i).fault=0:=by simpa using (Lm.1 a).1
 rw[<-b]at c⊢;exact gF [] func171 []<|Fc 9 (@EF h)<|Ffb 10 (!Z8 h)<|Fc 13 (@Oa h aa aa)<|Ftb 16 (!((CJ h).fault==0&&((CJ h).page==0&&(CJ h).addr==0))) Fz
def ZgZ(h:Heap)(hw:Zz h.W)(c:Z8 h=O)(b:Gz h=Lf)(hq:¬ (CM h).fault=0):GP 171 [h.av] O (CM h).av []:=by
 have po:=B4 c;have a:CJ h=⟨0,0,0⟩:=by simp only[CJ,b]
 have q1:(CJ h).fault=0:=by rw[a]
 have q2:(CJ h).page=0:=by rw[a]
 have q3:(CJ h).addr=0:=by rw[a]
 exact gF [] func171 []<|Fc 9 (@EF h)<|Ffb 10 (!Z8 h)<|Fc 13 (@Oa h aa aa)<|Ffb 16 (!((CJ h).fault==0&&((CJ h).page==0&&(CJ h).addr==0)))<|Fc 19 (@Z1z h aa oq)<|Ftb 22 (!((CM h).fault==0&&((CM h).page==0&&(CM h).addr==0))) Fz
def NU(h:Heap)(i:Nat):Tg:=⟨tm 50 [(1,.pt 8001 0 0),(2,.pt 8002 0 0),(5,nI (Br h.P i)),(25,ZZ h.P),(26,nI h.P.length),(27,nI i)],[(8002,.box 223 [nI 0,nI 0,uU 0]),(8001,.box 28 h.cells)],60⟩
def Zez(h:Heap)(i:Nat)(c:Z8 h=O)(hi:i<h.P.length):CP (Zn f171 0) (NU h i).st .nrm (NU h (i+1)).st:=by
 have po:=B4 c;have:=Rs h.P i;by_cases a:(h.P.getD i M).K=1;by_cases b:0<(h.P.getD i M).N;have e:Br h.P (i+1)=Br h.P i+1:=by rw[Br,if_pos ⟨a,b⟩]
 rw[NU,NU,e];exact sF [] []<|Ftb 28 (Lb ((i:Int)<(h.P.length:Int)))<|Fek 29 Z0.dv h.P (↑i) i<|Ftb 38 ((h.P.getD i M).K==1&&Lb (0<(h.P.getD i M).N))<|Fw 40 ((↑(Br h.P i):Int)+1) (↑(Br h.P i+1):Int)<|Fx 41 i Fz;have e:Br h.P (i+1)=Br h.P i:=by rw[Br,if_neg (λq=>b q.2)];rfl
 rw[NU,NU,e];exact sF [] []<|Ftb 28 (Lb ((i:Int)<(h.P.length:Int)))<|Fek 29 Z0.dv h.P (↑i) i<|Ffb 38 ((h.P.getD i M).K==1&&Lb (0<(h.P.getD i M).N))<|Fx 41 i Fz;have e:Br h.P (i+1)=Br h.P i:=by rw[Br,if_neg (λq=>a q.1)];rfl
 rw[NU,NU,e];exact sF [] []<|Ftb 28 (Lb ((i:Int)<(h.P.length:Int)))<|Fek 29 Z0.dv h.P (↑i) i<|Ffb 38 ((h.P.getD i M).K==1&&Lb (0<(h.P.getD i M).N))<|Fx 41 i Fz
def Zar(h:Heap):CP (Zn f171 0) (NU h h.P.length).st (.ext 0) (Tg.st ⟨tm 50 [(1,.pt 8001 0 0),(2,.pt 8002 0 0),(5,nI (Br h.P h.P.length))],[(8002,.box 223 [nI 0,nI 0,uU 0]),(8001,.box 28 h.cells)],64⟩):=by exact sF [] []<|Ffb 28 (Lb ((h.P.length:Int)<(h.P.length:Int))) Fz
def Z4P(h:Heap)(b:Z8 h=O)  := Bt (S:=λi=>(NU h i).st) h.P.length (by kernel_rfl) (λi a=>Zez h i b a) (Zar h)
def Zci(h:Heap)(hw:Zz h.W)(f:Z8 h=O)(e:Gz h=Lf)(c:(CM h).fault=0)(hc:h.C.pg/4<(Br h.P h.P.length:Nat)):GP 171 [h.av] O (Cf.av ⟨7,0,0⟩) []:=by
 have po:=B4 f;have cl:=Rs h.P h.P.length;have a:CJ h=⟨0,0,0⟩:=by simp only[CJ,e]
 have q1:(CJ h).fault=0:=by rw[a]
 have q2:(CJ h).page=0:=by rw[a]
 have q3:(CJ h).addr=0:=by rw[a]
 have b:CM h=⟨0,0,0⟩:=by(unfold CM at c⊢;split at c;rename_i d;rw[if_pos d];simp at c)
 have q4:(CM h).fault=0:=by rw[b]
 have q5:(CM h).page=0:=by rw[b]
 have q6:(CM h).addr=0:=by rw[b]
 exact gF [] func171 []<|Fc 9 (@EF h)<|Ffb 10 (!Z8 h)<|Fc 13 (@Oa h aa aa)<|Ffb 16 (!((CJ h).fault==0&&((CJ h).page==0&&(CJ h).addr==0)))<|Fc 19 (@Z1z h aa oq)<|Ffb 22 (!((CM h).fault==0&&((CM h).page==0&&(CM h).addr==0)))<|Fl 26 Z0.dv h.P<|Fu (@Z4P h aa)<|Fg 46 (by rw[LO oq,Ea oq oq]:Lq.wrap (h.C.pg.tdiv 4)=h.C.pg/4)<|Fa (by decide:(4:Int)≠0)<|Ftb 47 (Lb (h.C.pg/4<(↑(Br h.P h.P.length):Int))) Fz
def Zdg(h:Heap)(hw:Zz h.W)(f:Z8 h=O)(e:Gz h=Lf)(c:(CM h).fault=0)(hc:¬ h.C.pg/4<(Br h.P h.P.length:Nat)):GP 171 [h.av] O (Cf.av ⟨0,0,0⟩) []:=by
 have po:=B4 f;have cl:=Rs h.P h.P.length;have a:CJ h=⟨0,0,0⟩:=by simp only[CJ,e]
 have q1:(CJ h).fault=0:=by rw[a]
 have q2:(CJ h).page=0:=by rw[a]
 have q3:(CJ h).addr=0:=by rw[a]
 have b:CM h=⟨0,0,0⟩:=by(unfold CM at c⊢;split at c;rename_i d;rw[if_pos d];simp at c)
 have q4:(CM h).fault=0:=by rw[b]
 have q5:(CM h).page=0:=by rw[b]
 have q6:(CM h).addr=0:=by rw[b]
 exact gF [] func171 []<|Fc 9 (@EF h)<|Ffb 10 (!Z8 h)<|Fc 13 (@Oa h aa aa)<|Ffb 16 (!((CJ h).fault==0&&((CJ h).page==0&&(CJ h).addr==0)))<|Fc 19 (@Z1z h aa oq)<|Ffb 22 (!((CM h).fault==0&&((CM h).page==0&&(CM h).addr==0)))<|Fl 26 Z0.dv h.P<|Fu (@Z4P h aa)<|Fg 46 (by rw[LO oq,Ea oq oq]:Lq.wrap (h.C.pg.tdiv 4)=h.C.pg/4)<|Fa (by decide:(4:Int)≠0)<|Ffb 47 (Lb (h.C.pg/4<(↑(Br h.P h.P.length):Int))) Fz
def ZjL(h:Heap)(c:Zz h.W):GP 171 [h.av] O (Bm h).av []:=by
 have e:=Zgr h;unfold Bm;rw[<-e];by_cases a:Z8 h=O;rw[if_pos a];cases hb:Gz h with|some i=>exact ZgD h c a i hb|none =>by_cases b:(CM h).fault=0;simp only[b,ne_eq,not_true_eq_false,if_false];by_cases d:h.C.pg/4<(Br h.P h.P.length:Nat);rw[if_pos d];exact Zci h c a hb b d;rw[if_neg d];exact Zdg h c a hb b d;simp only[ne_eq,b,not_false_eq_true,if_true];exact ZgZ h c a hb b
 rw[if_neg a];exact Zcq h c (by simpa using a)
def Zjk(h:Heap):((Bm h).fault==0&&((Bm h).page==0&&(Bm h).addr==0))=Lb (Bm h=⟨0,0,0⟩):=by
 cases Bm h with|mk a b c=>by_cases d:a=0<;>by_cases e:b=0<;>by_cases f:c=0<;>simp[d,e,f]
def Z1H(h:Heap)(hw:Zz h.W):GP 122 [h.av] O (bL (Lb (Bm h=⟨0,0,0⟩))) []:=by have a:=Zjk h;exact gF [] func122 [O]<|Fc 4 (@ZjL h aa)<|Fa (a:((Bm h).fault==0&&((Bm h).page==0&&(Bm h).addr==0))=Lb (Bm h=Cf.mk 0 0 0)) Fz
def GF(a:List Int)(r:Int):Bool:=(r != 0)&&!decide (r∈a)
def PZ(a:List Int):AV:=.fn 126 [.rp [.sl 1 (a.map wD)] 0]
def Z5H(a:List Int) r(ha:a.length<=1048576)(hs:a.Pairwise (· < ·)):GP 126 [uU r,.rp [.sl 1 (a.map wD)] 0] O (bL (GF a r)) []:=by
 by_cases b:r=0;have e:GF a r=Lc:=by simp[GF,b]
 rw[e];exact gF [] func126 (fO 2)<|Fc 9 (@bsearch a r aa aa)<|Fa ‹(r != 0&&!decide (r∈a))=Lc› Fz;by_cases c:r∈a;have e:GF a r=Lc:=by simp[GF,c]
 rw[e];exact gF [] func126 (fO 2)<|Fc 9 (@bsearch a r aa aa)<|Fa ‹(r != 0&&!decide (r∈a))=Lc› Fz;have e:GF a r=O:=by simp[GF,b,c]
 rw[e];exact gF [] func126 (fO 2)<|Fc 9 (@bsearch a r aa aa)<|Fa ‹(r != 0&&!decide (r∈a))=O› Fz
def Hp(a l:List Int):Nat:=(l.takeWhile λr=>!GF a r).length
def Z0n{a l}{m:Nat}(h:m<Hp a l):m<l.length/\GF a (l.getD m M)=Lc:=by obtain⟨b,c⟩:=Ao _ _ _ h;refine⟨b, ?_⟩;rw[Lo,Ls b];simpa using c
def Z8m{a l:List Int}(h:Hp a l<l.length):GF a (l.getD (Hp a l) M)=O:=by
 have b:=Ae (λr=>!GF a r) l h;have c:l.getD (Hp a l) M=l[(l.takeWhile λr=>!GF a r).length]:=by(rw[Lo,Ls h];rfl)
 rw[c];simpa using b
def IH(a l:List Int):Int:=if Hp a l<l.length then Hp a l else -1
def RA(a l:List Int)(i:Nat):Tg:=⟨tm 19 [(0,Z2 l),(1,PZ a),(4,nI 0),(7,nI l.length),(8,nI i)],[],60⟩
section
variable(a l:List Int)(i:Nat)(hl:l.length<=1048576)(ha:a.length<=1048576)(hs:a.Pairwise (· < ·))(hi:i<l.length)
include hl ha hs hi
theorem Z4o(e:GF a (l.getD i M)=Lc):CP (Zn f172 0) (RA a l i).st .nrm (RA a l (i+1)).st:=by unfold RA PZ;exact sF [] []<|Fh 16 [.call O (bL (GF a (l.getD i M))) [],.br Lc]<|Ftb 9 (Lb ((i:Int)<(l.length:Int)))<|Fek 14 wD l (↑i) i<|Fa (@Z5H a (l.getD i M) aa aa)<|Fa ‹GF a (l.getD i M)=Lc›<|Fx 18 i Fz
theorem Zir(e:GF a (l.getD i M)=O):CP (Zn f172 0) (RA a l i).st .ret (Tg.st ⟨tm 19 [(4,nI i)],[],60⟩):=by unfold RA PZ;exact sF [] []<|Fh 16 [.call O (bL (GF a (l.getD i M))) [],.br O]<|Ftb 9 (Lb ((i:Int)<(l.length:Int)))<|Fek 14 wD l (↑i) i<|Fa (@Z5H a (l.getD i M) aa aa)<|Fa ‹GF a (l.getD i M)=O› Fz
end
def Zg3 a l:CP (Zn f172 0) (RA a l l.length).st (.ext 0) (Tg.st ⟨tm 19 [(4,nI 0)],[],60⟩):=by unfold RA PZ;exact sF [] []<|Ffb 9 (Lb ((l.length:Int)<(l.length:Int))) Fz
def ZaR(a l:List Int)(hl:l.length<=1048576)(b:a.length<=1048576)(hs:a.Pairwise (· < ·))(h:¬ Hp a l<l.length)  := Bt (S:=λj=>(RA a l j).st) l.length (by kernel_rfl) (λj c=>Z4o a l j hl b hs c (Z0n (by omega)).2) (Zg3 a l)
def ZbF(a l:List Int)(hl:l.length<=1048576)(b:a.length<=1048576)(hs:a.Pairwise (· < ·))(h:Hp a l<l.length)  := G0 (S:=λj=>(RA a l j).st) (Hp a l) (by kernel_rfl) (λj c=>Z4o a l j hl b hs (by omega) (Z0n c).2) (Zir a l (Hp a l) hl b hs h (Z8m h))
def ZbY(a l:List Int)(hl:l.length<=1048576)(ha:a.length<=1048576)(hs:a.Pairwise (· < ·)):GP 172 [Z2 l,.fn 126 [.rp [.sl 1 (a.map wD)] 0]] O (nI (IH a l)) []:=by by_cases h:Hp a l<l.length;have b:IH a l=Hp a l:=if_pos h;rw[b];exact gF [] func172 []<|Fl 7 wD l<|Fu (@ZbF a l aa aa aa aa) Fz;have b:IH a l=-1:=if_neg h;rw[b];exact gF [] func172 []<|Fl 7 wD l<|Fu (@ZaR a l aa aa aa aa) Fz
def ZcA(a l:List Int)(hl:l.length<=1048576)(ha:a.length<=1048576)(hs:a.Pairwise (· < ·)):GP 125 [Z2 l,.fn 126 [.rp [.sl 1 (a.map wD)] 0]] O (bL (Lb (0<=IH a l))) []:=by exact gF [] func125 []<|Fc 7 (@ZbY a l aa aa aa) Fz
def Zjh(h:Heap) refs(hw:Zz h.W)(hg:¬ Bm h=⟨0,0,0⟩):GP 74 [h.av,Z2 refs] O (bL Lc) []:=by exact gF [] func74 []<|Fc 8 (@Z1H h aa)<|Ftb 9 (!decide (Bm h=Cf.mk 0 0 0)) Fz
def Zbb(h:Heap) refs(hw:Zz h.W)(hg:Bm h=⟨0,0,0⟩):SZ prog 4 (Hf f74) (Tg.st ⟨tm 19 [(0,h.av),(1,Z2 refs)],[],1⟩) (Tg.st ⟨tm 19 [(1,Z2 refs),(5,.pt 24005 0 0)],[(24005,.box 25 [Z2 (Zh h).1])],20⟩):=by refine Ar [((8:Nat),[Hint.call O (bL (Lb (Bm h=Cf.mk (0:Int) (0:Int) (0:Int)))) []]),((9:Nat),[Hint.br Lc]),((12:Nat),[Hint.call O (AV.tu [Z2 (Zh h).1,nI (Zh h).2]) []])] [] [] (φ:=GP 122 [h.av] O (bL (Lb (Bm h=Cf.mk (0:Int) (0:Int) (0:Int)))) []/\(!decide (Bm h=Cf.mk (0:Int) (0:Int) (0:Int)))=Lc/\Lc=Lc/\GP 107 [h.av] O (AV.tu [Z2 (Zh h).1,nI (Zh h).2]) []) ?_ kr kr kr kr;exact⟨(@Z1H (h) aa),(by(simp only[bs];omega)),rfl,(@PI (h) aa)⟩
def ZhI(h:Heap)(refs:List Int):((Lg refs.length).find? (CZ refs (Zh h).1)).isNone = !decide (0<=IH (Zh h).1 refs):=by
 have e:∀i,CZ refs (Zh h).1 i=GF (Zh h).1 (refs.getD i M):=by(intro i;unfold CZ GF;generalize refs.getD i M=r;by_cases f:r=0<;>by_cases g:r∈(Zh h).1<;>simp[f,g])
 by_cases a:Hp (Zh h).1 refs<refs.length;have c:IH (Zh h).1 refs=Hp (Zh h).1 refs:=if_pos a;have d:(Lg refs.length).find? (CZ refs (Zh h).1)=Le (Hp (Zh h).1 refs):=by(rw[Lm];refine⟨by rw[e];exact Z8m a,Li.2 a,λj b=>?_⟩;rw[e,(Z0n b).2];rfl)
 rw[c,d];simp;have c:IH (Zh h).1 refs=-1:=if_neg a;have d:(Lg refs.length).find? (CZ refs (Zh h).1)=Lf:=by(rw[Ll];intro j b;have b:=Li.1 b;rw[e,(Z0n (l:=refs) (m:=j) oq).2];simp)
 rw[c,d];rfl
end Go.Proofs.YtgedmeaemofdkaaGreat
namespace Go.Proofs.YtgedmeaemofdkaaGreat
open Go.Sx Go.RowKit
def ZgH(h:Heap)(refs:List Int)(hw:Zz h.W)(hl:refs.length<=1048576)(l:Bm h=⟨0,0,0⟩):GP 74 [h.av,Z2 refs] O (bL (!decide (0<=IH (Zh h).1 refs))) []:=by
 intro f u vs w r d;rw[<-callsIn_wide (n:=10)];refine callsIn_of_wp func74 (c:=Hf f74) kr trivial ?_ rfl;have o:vs.size=2:=r;have S0:Sx.Sys Gc u f (tm 19 [(0,h.av),(1,Z2 refs)]) (BX []) 1 {tmps:=vs++Lw (Tryz.f74.ntmps-vs.size) undef,defers:=[]} f:=by(refine⟨_,u,Sx.Inv.empty w (Lv 1),⟨by rw[o];simp[o];kernel_rfl,λk y v s i=>?_,rfl⟩⟩;rw[show tm 19 [(0,h.av),(1,Z2 refs)]=[h.av,Z2 refs]++Lh 17 .any from by kernel_rfl,LR]at s;rw[LF]at i;split at s;rename_i hk;rw[if_pos (by rw[r];exact hk)]at i;exact d k y v s i;have:=LZ s;rw[(L0.1 this).2];exact .any _)
 generalize hR:(λe w'=>∃v,e=Ending.returned v/\RV f u O (bL (!decide (0<=IH (Zh h).1 refs))) [] v w')=R;generalize hQ:bodyPost prog f74 R=Q;refine Zbb h refs hw l 10 Q _ _ _ _ _ S0 ?_;rintro a1 w1 ⟨ρ1,a,j,T1⟩;obtain⟨v5,t5,r5⟩:=T1.at (t:=5) (x:=.pt 24005 0 0) rfl;obtain⟨β,m,n⟩:=j.blk 24005 _ rfl;have z:Zi (λ_=>Lf) w1 (λg=>a g\/β.g=Le g) (.rp [.sl 1 ((Zh h).1.map wD)] 0) v5:=Tu m n r5 (λ_ h=>.inl h) (λ_ h=>.inr h);have er:rest prog 10 4 (Hf f74) Q a1 w1=(Code.region 4 (BJ f74 4) Lc).wpIn Fence.wide 10 prog (Exit.then (Code.ret.wpIn Fence.wide 10 prog Q) Q) a1 w1:=by kernel_rfl
 rw[er];refine wpIn_region ?_;rw[show Lg (BJ f74 4).size=[0,1,2,3,4]from by kernel_rfl];have T2:Cu [] (λ_=>Lf) w1 (λg=>a g\/β.g=Le g) (tm 19 [(1,Z2 refs),(5,.rp [.sl 1 ((Zh h).1.map wD)] 0)]) a1:=by(have A1:Cu [] ρ1 w1 (λg=>a g\/β.g=Le g) _ a1:=T1.mono (Sx.Ext.refl _ _) (λ_ h=>.inl h) (λ_ _ h=>h) j.bnd;have A2:=(A1.reSet 5 .any (λv _=>.any v)).pure kr;exact A2.reSet 5 (.rp [.sl 1 ((Zh h).1.map wD)] 0) (λv i=>by rw[t5]at i;cases i;exact z))
 have S2:Sx.Sys Gc (λg=>a g\/β.g=Le g) w1 (tm 19 [(1,Z2 refs),(5,.rp [.sl 1 ((Zh h).1.map wD)] 0)]) (BX []) 20 a1 w1:=by(refine⟨_,_,Sx.Inv.empty ?_ dd,T2⟩;rintro g (l|l);exact j.imb g l;exact j.bnd _ _ g m l)
 generalize hb:Lb (0<=IH (Zh h).1 refs)=b at hR;have hc:=ZcA (Zh h).1 refs hl (by have:=Ic h;omega) (PK h);rw[hb]at hc;refine TV (ro:=Lf) (hints:=[(17,[Hint.call O (bL b) []])]) (out:=⟨((((tm 19 [(1,Z2 refs),(5,.rp [.sl 1 ((Zh h).1.map wD)] 0)]).set 15 (Z2 refs)).set 16 (.fn 126 [.rp [.sl 1 ((Zh h).1.map wD)] 0])).set 17 (bL b)).set 18 (bL (!b)) |>.set 4 (bL (!b)),BX [],[GP 125 [Z2 refs,.fn 126 [.rp [.sl 1 ((Zh h).1.map wD)] 0]] O (bL b) []],[]⟩) kr S2 hc (λp hp=>by simp at hp) ?_;rintro a3 w3 ⟨ρ3,a0,I3,T3⟩;refine wpIn_ret ?_;show Q .ret a3 w3;rw[<-hQ];refine bodyPost_ret (results_tmp rfl _ _ _) T3.defers ?_;rw[<-hR];have r4:a3.tmps.getD 4 undef=.bool (!b):=C1 (Eb T3 (.tmp 4));rw[r4];exact⟨_,rfl,RS j.kept.no I3.kept (λ_ h=>(Sx.OwA.no h).elim),λ_=>Lf,λ_=>False,λ_ q=>q.elim,λ_ q=>q.elim,λ_ _ _ q=>(by cases q),λ_ _ _ _ _ q=>(by cases q),λ_ _ q=>(by cases q),λk B q=>by simp at q,.d (.sc _ rfl)⟩
def Zje(h:Heap)(refs:List Int)(b:Zz h.W)(hl:refs.length<=1048576):GP 74 [h.av,Z2 refs] O (bL (Bz h refs)) []:=by
 by_cases a:Bm h=⟨0,0,0⟩;have e:Bz h refs = !decide (0<=IH (Zh h).1 refs):=by(unfold Bz;rw[ZhI,a];simp)
 rw[e];exact ZgH h refs b hl a;have e:Bz h refs=Lc:=by simp[Bz,a]
 rw[e];exact Zjh h refs b a
end Go.Proofs.YtgedmeaemofdkaaGreat
namespace Go.Proofs.YtgedmeaemofdkaaGreat
open Go.Sx
def Z4J{h:Heap}(a:∀i:Nat,i<h.P.length->(Zd h (i:Int)).2=0):∀(f i:Nat),i+f=h.P.length->(Cj h f i).2=0
 |0,_,_=>rfl
 |f+1,i,hf=>by
  have b:=Z4J a f (i+1) oq;unfold Cj;rw[a i oq,b];rfl
def Zii{h:Heap}(a:Bm h=⟨0,0,0⟩):(Zh h).2=0:=by
 have e:Z8 h=O:=by(by_cases q:Z8 h=O;exact q;rw[Bm,if_neg q]at a;cases a)
 rw[Bm,if_pos e]at a;have c:∀i,i<h.P.length->(pageF h i).fault=0:=by
  intro i b;cases hb:Gz h with|some j =>rw[hb]at a;simp only at a;have:=List.find?_some hb;rw[a]at this;simp at this|none =>have:=Ll.1 hb i (Li.2 b);simpa using this
 have d:∀i:Nat,i<h.P.length->(Zd h (i:Int)).2=0:=by(intro i b;have q:=c i b;unfold pageF at q;split at q;simp at q;split at q;simp at q;rename_i c2;simpa using c2)
 unfold Zh;rw[CK,if_pos e];exact Z4J d h.P.length 0 oq
def SH(h:Heap)(l:List Z0):List (Nat×Z4):=[(8001,.box 28 [nI h.C.pw,nI h.C.pg,.ow 49027,.ow 49030,nI h.S,nI h.B]),(49030,.arr 86 4 (l.map Z0.dv)),(49027,.arr 35 1 (h.W.map wD)),(8002,.box 127 zW)]
def P1(h:Heap)(a:List Int)(i:Nat):Tg:=⟨tm 61 [(1,.pt 8001 0 0),(2,.pt 8002 0 0),(3,nI 0),(4,Z2 a),(34,.ow 49030),(35,nI h.P.length),(36,nI i)],SH h (Zy (Zr (1-h.S)) h.P i),8⟩
section
variable(h:Heap)(a:List Int)(hs:h.S=0\/h.S=1)(hl:h.P.length<=1048576)
include hs hl
theorem Zgc(i:Nat)(hi:i<h.P.length):CP (Zn f73 0) (P1 h a i).st .nrm (P1 h a (i+1)).st:=by have m:=O1 (Zr (1-h.S)) h.P (Lv i) M;have hn:=Sp (Zr (1-h.S)) h.P i;by_cases g:(h.P.getD i M).K=1/\0<(h.P.getD i M).N;have j:=Z0j (Zr (1-h.S)) h.P hi M;rw[show Zr (1-h.S) (h.P.getD i M)=⟨(h.P.getD i M).K,1-h.S,(h.P.getD i M).U,(h.P.getD i M).N⟩ by rw[Zr,if_pos g],<-m]at j;rw[<-m]at g;have o {h_ c_ p_} (n:Fq h_ c_ p_):=Ftb 37 (Lb ((i:Int)<(h.P.length:Int)))<|Fmq 40 Z0.dv (Zy (Zr (1-h.S)) h.P i) (↑i) n;rcases bb (((Zy (Zr (1-h.S)) h.P i).getD (i:Int).toNat M).K==1&&Lb (0<((Zy (Zr (1-h.S)) h.P i).getD (i:Int).toNat M).N))with hc0|hc0<;>have b:=hc0<;>simp only[bs]at b;obtain⟨c,d⟩:=b;let k:=Zy (Zr (1-h.S)) h.P i;let e:=k.getD (i:Int).toNat M;exact sF [] (fO 11) (o (Ft 48 hc0<|Fi 54 (1-h.S)<|Fm0q Z0.dv k (↑i)<|FS 10056 Z0.dv k ((i:Int).toNat) (Z0.mk e.K (1-h.S) e.U e.N) (e.dv)<|Fx 57 i<|Fr (86:Int)<|Fa (by refine congrArg _ ?_;exact j:La Z0.dv (k.set (i:Int).toNat (Z0.mk e.K (1-h.S) e.U e.N))=La Z0.dv (Zy (Zr (1-h.S)) h.P (i+1))) Fz));exact sF [] (fO 11) (o (Ff 48 hc0<|Fx 57 i<|Fr (86:Int)<|Fa (by refine congrArg _ ?_;grind[]:La Z0.dv (Zy (Zr (1-h.S)) h.P i)=La Z0.dv (Zy (Zr (1-h.S)) h.P (i+1))) Fz));have j:=Z3D (Zr (1-h.S)) h.P hi M (by rw[Zr,if_neg g]);rw[<-m]at g;have p {h_ c_ p_} (n:Fq h_ c_ p_):=Ftb 37 (Lb ((i:Int)<(h.P.length:Int)))<|Fmq 40 Z0.dv (Zy (Zr (1-h.S)) h.P i) (↑i) n;rcases bb (((Zy (Zr (1-h.S)) h.P i).getD (i:Int).toNat M).K==1&&Lb (0<((Zy (Zr (1-h.S)) h.P i).getD (i:Int).toNat M).N))with hc0|hc0<;>have b:=hc0<;>simp only[bs]at b;obtain⟨c,d⟩:=b;let l:=Zy (Zr (1-h.S)) h.P i;let f:=l.getD (i:Int).toNat M;exact sF [] (fO 11) (p (Ft 48 hc0<|Fi 54 (1-h.S)<|Fm0q Z0.dv l (↑i)<|FS 10056 Z0.dv l ((i:Int).toNat) (Z0.mk f.K (1-h.S) f.U f.N) (f.dv)<|Fx 57 i<|Fr (86:Int)<|Fa (by refine congrArg _ ?_;grind[]:La Z0.dv (l.set (i:Int).toNat (Z0.mk f.K (1-h.S) f.U f.N))=La Z0.dv (Zy (Zr (1-h.S)) h.P (i+1))) Fz));exact sF [] (fO 11) (p (Ff 48 hc0<|Fx 57 i<|Fr (86:Int)<|Fa (by refine congrArg _ ?_;exact j:La Z0.dv (Zy (Zr (1-h.S)) h.P i)=La Z0.dv (Zy (Zr (1-h.S)) h.P (i+1))) Fz))
omit hs hl in
theorem ZaA:CP (Zn f73 0) (P1 h a h.P.length).st (.ext 0) (Tg.st ⟨tm 61 [(1,.pt 8001 0 0),(2,.pt 8002 0 0),(3,nI 0),(4,Z2 a)],SH h (h.P.map (Zr (1-h.S))),8⟩):=by have hq:=PU (Zr (1-h.S)) h.P;have hn:=Sp (Zr (1-h.S)) h.P h.P.length;exact sF [] (fO 5)<|Ffb 37 (Lb ((h.P.length:Int)<(h.P.length:Int)))<|Fr (86:Int)<|Fa (by refine congrArg _ ?_;assumption:La Z0.dv (Zy (Zr (1-h.S)) h.P h.P.length)=La Z0.dv (La (Zr (1-h.S)) h.P)) Fz
theorem Zf1:CP (Zj f73 0) (Tg.st ⟨tm 61 [(1,.pt 8001 0 0),(2,.pt 8002 0 0),(3,nI 0),(4,Z2 a),(34,.ow 49030),(35,nI h.P.length),(36,nI 0)],SH h h.P,8⟩) .nrm (Tg.st ⟨tm 61 [(1,.pt 8001 0 0),(2,.pt 8002 0 0),(3,nI 0),(4,Z2 a)],SH h (h.P.map (Zr (1-h.S))),8⟩):=by have:=Bt (S:=λk=>(P1 h a k).st) h.P.length kr (λk b=>Zgc h a hs hl k b) (ZaA h a);simp only[P1,Z5t]at this;exact this
end
def Zlc(h:Heap)(hw:Zz h.W)(c:Z8 h=O)(a:Bm h=⟨0,0,0⟩):GP 73 [h.av] Lc (.tu [(Zp h).av,nI 0]) []:=by have po:=B4 c;have ho:=Ic h;have g:=Zii a;have b:h.P≠[]:=AH oq;exact gF [] func73 []<|Fc 9 (@EF h)<|Ffb 10 (!Z8 h)<|Fc 13 (@Z1H h aa)<|Ffb 14 (!decide (Bm h=Cf.mk 0 0 0))<|Fc 18 (@PI h aa)<|Ffb 22 ((Zh h).2 != 0)<|Fc 27 (@Tv h.W oq)<|Fc 30 (@Z1G h.P oq aa)<|Fl 35 Z0.dv h.P<|Fu (@Zf1 h ((Zh h).1) oq oq)<|Fnl (Fnl Fz)
def Nu(w:Z6):List (Nat×Z4):=[(22014,Bh w.Q),(21014,EQ w.T),(20014,Bh w.old),(19014,ES w.j.P),(18014,Bh w.j.W),(17014,w.ckB 18014 19014 20014 21014 22014)]
def DX(w:Z6)(roots out:List Int)(i:Nat):Tg:=⟨tm 40 [(4,.pt 8004 0 0),(5,.d (.sl 0 [])),(6,nI 0),(7,.pt 17014 0 0),(8,.ow 24008),(15,Z2 roots),(16,nI roots.length),(17,nI i)],(24008,.arr 35 1 (out.map wD))::(8004,.box 127 zW)::Nu w,5⟩
section
variable(w:Z6)(roots out:List Int)(i:Nat)(f:FwOk w (roots.getD i M))(hl:roots.length<=1048576)(ho:out.length<=1048576)(hi:i<roots.length)
include f hl ho hi
theorem Z4g(e:(w.fwd (roots.getD i M)).2.2=0):CP (Zn f77 0) (DX w roots out i).st .nrm (DX (w.fwd (roots.getD i M)).1 roots (out++[(w.fwd (roots.getD i M)).2.1]) (i+1)).st:=by let a:=w.fwd (roots.getD i M);exact sF [(72034,24008),(57024,19014),(58024,21014),(59024,22014)] []<|Fh 34 [.els (La wD (out++[a.2.1]))]<|Ftb 18 (Lb ((i:Int)<(roots.length:Int)))<|Fek 19 wD roots (↑i) i<|Fbr 24 [17014,18014,19014,20014,21014,22014] (@Z4l w (roots.getD i M) aa aa)<|Fs 33 (La wD [a.2.1])<|Fa (by(simp[*];omega):(La wD out).length+(La wD [a.2.1]).length<=2^30)<|Fa (ms:La wD out++La wD [a.2.1]=La wD (out++[a.2.1]))<|Fx 35 i Fz
theorem Zhj(e:¬ (w.fwd (roots.getD i M)).2.2=0):CP (Zn f77 0) (DX w roots out i).st .ret (Tg.st ⟨tm 40 [(4,.pt 8004 0 0),(5,.d (.sl 0 [])),(6,nI (w.fwd (roots.getD i M)).2.2)],[(8004,.box 127 zW)],60⟩):=by exact sF [] []<|Ftb 18 (Lb ((i:Int)<(roots.length:Int)))<|Fek 19 wD roots (↑i) i<|Fbq 24 [17014,18014,19014,20014,21014,22014] (@Zei w (roots.getD i M) aa aa)<|Ftb 28 ((w.fwd (roots.getD i M)).2.2 != 0) Fz
end
def ZlS w roots out:CP (Zn f77 0) (DX w roots out roots.length).st (.ext 0) (Tg.st ⟨tm 40 [(4,.pt 8004 0 0),(7,.pt 17014 0 0),(8,.ow 24008)],(24008,.arr 35 1 (out.map wD))::(8004,.box 127 zW)::Nu w,5⟩):=by exact sF [] []<|Ffb 18 (Lb ((roots.length:Int)<(roots.length:Int))) Fz
def Z3H(w:Z6)(roots:List Int):Prop:=∀k,k<roots.length->(∀j,j<k->E5 w roots j=0)->FwOk (rootsN w roots k).1 (roots.getD k M)
section
variable(w:Z6)(roots:List Int)(hN:Z3H w roots)(hl:roots.length<=1048576)
include hN hl
theorem Zbh(d:(Lg roots.length).find? (λk=>Lb (E5 w roots k≠0))=Lf):CP (Zj f77 0) (Tg.st ⟨tm 40 [(4,.pt 8004 0 0),(5,.d (.sl 0 [])),(6,nI 0),(7,.pt 17014 0 0),(8,.ow 24008),(15,Z2 roots),(16,nI roots.length),(17,nI 0)],(24008,.arr 35 1 [])::(8004,.box 127 zW)::Nu w,5⟩) .nrm (Tg.st ⟨tm 40 [(4,.pt 8004 0 0),(7,.pt 17014 0 0),(8,.ow 24008)],(24008,.arr 35 1 ((rootsN w roots roots.length).2.map wD))::(8004,.box 127 zW)::Nu (rootsN w roots roots.length).1,5⟩):=by
 have b:∀j,j<roots.length->E5 w roots j=0:=λj c=>by(have:=Ll.1 d j (Li.2 c);simpa using this)
 exact Bt (S:=λk=>(DX (rootsN w roots k).1 roots (rootsN w roots k).2 k).st) roots.length kr (λk a=>Z4g _ roots _ k (hN k a λj c=>b j oq) hl (by rw[IL];omega) a (b k a)) (ZlS _ roots _)
theorem Zkl i(f:(Lg roots.length).find? (λk=>Lb (E5 w roots k≠0))=Le i):CP (Zj f77 0) (Tg.st ⟨tm 40 [(4,.pt 8004 0 0),(5,.d (.sl 0 [])),(6,nI 0),(7,.pt 17014 0 0),(8,.ow 24008),(15,Z2 roots),(16,nI roots.length),(17,nI 0)],(24008,.arr 35 1 [])::(8004,.box 127 zW)::Nu w,5⟩) .ret (Tg.st ⟨tm 40 [(4,.pt 8004 0 0),(5,.d (.sl 0 [])),(6,nI (E5 w roots i))],[(8004,.box 127 zW)],60⟩):=by
 obtain⟨d,a,e⟩:=Lm.1 f;have a:=Li.1 a;have b:∀j,j<i->E5 w roots j=0:=λj c=>by simpa using e j c
 exact G0 (S:=λk=>(DX (rootsN w roots k).1 roots (rootsN w roots k).2 k).st) i kr (λk g=>Z4g _ roots _ k (hN k oq λj c=>b j oq) hl (by rw[IL];omega) oq (b k g)) (Zhj _ roots _ i (hN i a b) hl (by rw[IL];omega) a (by simpa[E5]using d))
theorem Zdk(ln:Sl w):GP 77 [w.av,Z2 roots] O (.tu [(rootsF w roots).1.av,Z2 (rootsF w roots).2.1,nI (rootsF w roots).2.2]) []:=by
 cases hb:(Lg roots.length).find? (λk=>Lb (E5 w roots k≠0))with
 |none =>
  have e7:rootsF w roots=((rootsN w roots roots.length).1,(rootsN w roots roots.length).2,0):=by unfold rootsF;rw[hb]
  rw[e7];let y0:=rootsN w roots roots.length;exact gF [] func77 []<|Fh 8 [.own]<|Fbr 14 [] (@Z2T w aa)<|Fl 16 wD roots<|Fu (@Zbh w roots aa aa aa)<|Fa (Hn _:Ci (La wD y0.1.j.W))<|Fa (IY _:Ci (La Z0.dv y0.1.j.P))<|Fa (Hn _:Ci (La wD y0.1.old))<|Fa (AY _:Ci (La iD y0.1.T))<|Fa (Hn _:Ci (La wD y0.1.Q))<|Fa (Hn _:Ci (La wD y0.2)) Fz
 |some i =>
  have e7:rootsF w roots=(GU,[],E5 w roots i):=by unfold rootsF;rw[hb]
  rw[e7];exact gF [] func77 []<|Fh 8 [.own]<|Fbr 14 [] (@Z2T w aa)<|Fl 16 wD roots<|Fu (@Zkl w roots aa aa i aa)<|Fnl (Fnl (Fnl (Fnl (Fnl (Fnl Fz)))))
end
def ZeW w(a:Sl w)(sc:0<=w.D)(hs:¬ w.D<w.Q.length):BP 131 [.pt 0 0 0] w.ckp (.tu [bL Lc,nI 0]) w.ckp:=by obtain⟨h1,h2,h3,h4,h5⟩:=a;exact borF [0,1,2,3,4,5] [] func131 []<|FlG 28 (!decide (w.D<0)) wD w.Q<|Ftb 30 (Lb (w.D<0)||Lb ((w.Q.length:Int)<=w.D)) Fz
def ZdW{ws:List Int}{a v:Int}(h:4096<=a/\a<4096+ws.length):(BL ws a v).1=ws.set (a-4096).toNat v:=by unfold BL ZU;rw[if_pos (by simp only[List.length_cons,List.length_nil];omega)];exact Z4Q oq
def SS(w:Z6):List (Nat×Z4):=[(0,w.ckB 1 8002 3 8004 8005),(1,Bh w.j.W),(8002,ES w.j.P),(3,Bh w.old),(8004,EQ w.T),(8005,Bh w.Q)]
def Z05(w:Z6)(a n:Int)(l:List Int)(k:Nat):Tg:=⟨tm 116 [(0,.pt 0 0 0),(2,bL Lc),(3,nI 0),(5,.os 1 (a-4096).toNat n.toNat),(9,ZF l),(72,ZF l),(73,nI l.length),(74,nI k)],SS w,12⟩
section
variable(w:Z6)(a n:Int)(l:List Int)(k:Nat)(hk:k<l.length)(b:l.length<=255)(hx:0<=l.getD k M/\l.getD k M+1<n)(hn:n<=256)(ha:4096<=a/\a-4096+n<=w.j.W.length)(f:FwOk w (Z1 w.j.W (a+1+l.getD k M)).1)
include hk b hx hn ha f
theorem ZfT(e:(w.fwd (Z1 w.j.W (a+1+l.getD k M)).1).2.2=0)(c:(w.fwd (Z1 w.j.W (a+1+l.getD k M)).1).1.j.W.length=w.j.W.length):CP (Zn f131 0) (Z05 w a n l k).st .nrm (Z05 (w.in1 (a+1+l.getD k M)) a n l (k+1)).st:=by
 have d:(Z1 w.j.W (a+1+l.getD k M)).1=w.j.W.getD ((a-4096).toNat+(1+l.getD k M).toNat) M:=by(unfold Z1;rw[if_pos oq,show(a-4096).toNat+(1+l.getD k M).toNat=(a+1+l.getD k M-4096).toNat by omega];rfl)
 have wl:=f.ck.ok.wl;have g:(w.in1 (a+1+l.getD k M))=⟨⟨(w.fwd (Z1 w.j.W (a+1+l.getD k M)).1).1.j.C,(w.fwd (Z1 w.j.W (a+1+l.getD k M)).1).1.j.W.set ((a-4096).toNat+(1+l.getD k M).toNat) (w.fwd (Z1 w.j.W (a+1+l.getD k M)).1).2.1,(w.fwd (Z1 w.j.W (a+1+l.getD k M)).1).1.j.P,(w.fwd (Z1 w.j.W (a+1+l.getD k M)).1).1.j.S,(w.fwd (Z1 w.j.W (a+1+l.getD k M)).1).1.j.B⟩,(w.fwd (Z1 w.j.W (a+1+l.getD k M)).1).1.old,(w.fwd (Z1 w.j.W (a+1+l.getD k M)).1).1.T,(w.fwd (Z1 w.j.W (a+1+l.getD k M)).1).1.Q,(w.fwd (Z1 w.j.W (a+1+l.getD k M)).1).1.D,(w.fwd (Z1 w.j.W (a+1+l.getD k M)).1).1.rep⟩:=by(unfold Z6.in1;rw[ZdW oq,show(a-4096).toNat+(1+l.getD k M).toNat=(a+1+l.getD k M-4096).toNat by omega])
 rw[g];rw[d]at e c f⊢;exact sF [(113085,8002),(114085,8004),(115085,8005)] []<|Fh 84 [.el (wD (w.j.W.getD ((a-4096).toNat+(1+l.getD k M).toNat) M))]<|Fh 10095 [.els (La wD ((w.fwd (w.j.W.getD ((a-4096).toNat+(1+l.getD k M).toNat) M)).1.j.W.set ((a-4096).toNat+(1+l.getD k M).toNat) (w.fwd (w.j.W.getD ((a-4096).toNat+(1+l.getD k M).toNat) M)).2.1))]<|Ftb 75 (Lb ((k:Int)<(l.length:Int)))<|Fek 76 iD l (↑k) k<|Fi 82 (1+l.getD k M)<|Fo ((0:Int)<=1+l.getD k M/\(1+l.getD k M).toNat<n.toNat)<|Fa (B5 oq:(La wD w.j.W)[(a-4096).toNat+(1+l.getD k M).toNat]?=Le (wD (w.j.W.getD ((a-4096).toNat+(1+l.getD k M).toNat) M)))<|Fbr 85 [0,1,8002,3,8004,8005] (@Z4l w (w.j.W.getD ((a-4096).toNat+(1+l.getD k M).toNat) M) aa aa)<|Fi 93 (1+l.getD k M)<|Fo ((0:Int)<=1+l.getD k M/\(1+l.getD k M).toNat<n.toNat)<|Fa (by(simp only[Lp];omega):(a-4096).toNat+(1+l.getD k M).toNat<(La wD (w.fwd (w.j.W.getD ((a-4096).toNat+(1+l.getD k M).toNat) M)).1.j.W).length)<|Fa (ms:(La wD (w.fwd (w.j.W.getD ((a-4096).toNat+(1+l.getD k M).toNat) M)).1.j.W).set ((a-4096).toNat+(1+l.getD k M).toNat) [B2 (w.fwd (w.j.W.getD ((a-4096).toNat+(1+l.getD k M).toNat) M)).2.1]=La wD ((w.fwd (w.j.W.getD ((a-4096).toNat+(1+l.getD k M).toNat) M)).1.j.W.set ((a-4096).toNat+(1+l.getD k M).toNat) (w.fwd (w.j.W.getD ((a-4096).toNat+(1+l.getD k M).toNat) M)).2.1))<|Fx 96 k Fz
end
def Zlo w a n l:CP (Zn f131 0) (Z05 w a n l l.length).st (.ext 0) (Tg.st ⟨tm 116 [(0,.pt 0 0 0),(9,ZF l)],SS w,12⟩):=by exact sF [] []<|Ffb 75 (Lb ((l.length:Int)<(l.length:Int))) Fz
structure Z0S (w:Z6) (a:Int) (l:List Int):Prop where
 f:∀k,k<l.length->(∀j,j<k->CI w a l j=0)->FwOk (Be w a l k) (Z1 (Be w a l k).j.W (a+1+l.getD k M)).1
 h:∀k,k<=l.length->(∀j,j<k->CI w a l j=0)->(Be w a l k).j.W.length=w.j.W.length
 m:∀k,k<l.length->(∀j,j<k->CI w a l j=0)->((Be w a l k).fwd (Z1 (Be w a l k).j.W (a+1+l.getD k M)).1).2.2=0->((Be w a l k).fwd (Z1 (Be w a l k).j.W (a+1+l.getD k M)).1).1.j.W.length=w.j.W.length
section
variable(w:Z6)(a n:Int)(l:List Int)(hN:Z0S w a l)(b:l.length<=255)(hr:∀x∈l,0<=x/\x+1<n)(d:n<=256)(c:4096<=a/\a-4096+n<=w.j.W.length)
include hN b hr d c
theorem Zg9(m:(Lg l.length).find? (λk=>Lb (CI w a l k≠0))=Lf):CP (Zj f131 0) (Tg.st ⟨tm 116 [(0,.pt 0 0 0),(2,bL Lc),(3,nI 0),(5,.os 1 (a-4096).toNat n.toNat),(9,ZF l),(72,ZF l),(73,nI l.length),(74,nI 0)],SS w,12⟩) .nrm (Tg.st ⟨tm 116 [(0,.pt 0 0 0),(9,ZF l)],SS (Be w a l l.length),12⟩):=by
 have g:∀j,j<l.length->CI w a l j=0:=λj i=>by(have:=Ll.1 m j (Li.2 i);simpa using this)
 have o:∀k,k<l.length->0<=l.getD k M/\l.getD k M+1<n:=λk e=>hr _ (B7.2 ⟨k,e,rfl⟩);exact Bt (S:=λk=>(Z05 (Be w a l k) a n l k).st) l.length kr (λk e=>by
  have f:∀j,j<k->CI w a l j=0:=λj i=>g j oq;have h:=hN.h k oq f;exact ZfT _ a n l k e b (o k e) d (by rw[h];exact c) (hN.f k e f) (g k e) ((hN.m k e f (g k e)).trans h.symm)) (Zlo _ a n l)
end
def Zgd w(k:Ip w)(hs:w.D<w.Q.length)(sc:0<=w.D)(hr:4096<=w.Q.getD w.D.toNat M/\w.Q.getD w.D.toNat M+Zk w.j.W (w.Q.getD w.D.toNat M)<4096+w.j.W.length)(hd:(Z7 (Z1 w.j.W (w.Q.getD w.D.toNat M)).1).2=O)(hN:Z0S w (C0 w) (Bf w))(a:∀j,j<(Bf w).length->CI w (C0 w) (Bf w) j=0):BP 131 [.pt 0 0 0] w.ckp (.tu [bL O,nI 0]) (Ha (Be w (C0 w) (Bf w) (Bf w).length) (Bf w).length).ckq:=by
 have c:(Lg (Bf w).length).find? (λk=>Lb (CI w (C0 w) (Bf w) k≠0))=Lf:=Ll.2 λj d=>by simp[a j (Li.1 d)]
 have f:=k.mem;obtain⟨h1,h2,h3,h4,h5⟩:=k.ln;have ok:=k.ok;have k1:=IW ok (C0 w) (Bf w) (Bf w).length a;have h:=k1.1.rs;have i:=k1.1.sc;have l:=k1.1.mu;have n:=(Z0K (Zx w (C0 w)));have m:∀x∈Bf w,0<=x/\x+1<Zk w.j.W (C0 w)+1:=λx g=>by(have:=R5 (Zx w (C0 w)) x g;unfold Zx at this;unfold Zk;omega)
 have lr:=Bn w.j.W (w.Q.getD w.D.toNat M);have cf:=BG.1 ok.C;have ld:=EW ok.W (w.Q.getD w.D.toNat M);have b:=GI w (w.Q.getD w.D.toNat M);have o:=RD w (w.Q.getD w.D.toNat M);have e:=IK (Z1 w.j.W (w.Q.getD w.D.toNat M)).1 ld.1;have el:(Z1 w.j.W (w.Q.getD w.D.toNat M)).1=w.j.W.getD ((w.Q.getD w.D.toNat M-4096).toNat+Ld 0) M:=by(unfold Z1;rw[if_pos oq];rfl)
 unfold Bf C0 Zx at *;rw[el]at hd ld b o e hN a c k1 h i l n⊢;try rw[el]at m
 rw[show Ha (Be w (w.Q.getD w.D.toNat M) (Zw (Z7 (w.j.W.getD ((w.Q.getD w.D.toNat M-(4096:Int)).toNat+Ld (0:Int)) M)).1) (Zw (Z7 (w.j.W.getD ((w.Q.getD w.D.toNat M-(4096:Int)).toNat+Ld (0:Int)) M)).1).length) (↑(Zw (Z7 (w.j.W.getD ((w.Q.getD w.D.toNat M-(4096:Int)).toNat+Ld (0:Int)) M)).1).length:Int)=Z6.mk (Be w (w.Q.getD w.D.toNat M) (Zw (Z7 (w.j.W.getD ((w.Q.getD w.D.toNat M-(4096:Int)).toNat+Ld (0:Int)) M)).1) (Zw (Z7 (w.j.W.getD ((w.Q.getD w.D.toNat M-(4096:Int)).toNat+Ld (0:Int)) M)).1).length).j (Be w (w.Q.getD w.D.toNat M) (Zw (Z7 (w.j.W.getD ((w.Q.getD w.D.toNat M-(4096:Int)).toNat+Ld (0:Int)) M)).1) (Zw (Z7 (w.j.W.getD ((w.Q.getD w.D.toNat M-(4096:Int)).toNat+Ld (0:Int)) M)).1).length).old (Be w (w.Q.getD w.D.toNat M) (Zw (Z7 (w.j.W.getD ((w.Q.getD w.D.toNat M-(4096:Int)).toNat+Ld (0:Int)) M)).1) (Zw (Z7 (w.j.W.getD ((w.Q.getD w.D.toNat M-(4096:Int)).toNat+Ld (0:Int)) M)).1).length).T (Be w (w.Q.getD w.D.toNat M) (Zw (Z7 (w.j.W.getD ((w.Q.getD w.D.toNat M-(4096:Int)).toNat+Ld (0:Int)) M)).1) (Zw (Z7 (w.j.W.getD ((w.Q.getD w.D.toNat M-(4096:Int)).toNat+Ld (0:Int)) M)).1).length).Q ((Be w (w.Q.getD w.D.toNat M) (Zw (Z7 (w.j.W.getD ((w.Q.getD w.D.toNat M-(4096:Int)).toNat+Ld (0:Int)) M)).1) (Zw (Z7 (w.j.W.getD ((w.Q.getD w.D.toNat M-(4096:Int)).toNat+Ld (0:Int)) M)).1).length).D+(1:Int)) (Rep.mk (Be w (w.Q.getD w.D.toNat M) (Zw (Z7 (w.j.W.getD ((w.Q.getD w.D.toNat M-(4096:Int)).toNat+Ld (0:Int)) M)).1) (Zw (Z7 (w.j.W.getD ((w.Q.getD w.D.toNat M-(4096:Int)).toNat+Ld (0:Int)) M)).1).length).rep.copied (Be w (w.Q.getD w.D.toNat M) (Zw (Z7 (w.j.W.getD ((w.Q.getD w.D.toNat M-(4096:Int)).toNat+Ld (0:Int)) M)).1) (Zw (Z7 (w.j.W.getD ((w.Q.getD w.D.toNat M-(4096:Int)).toNat+Ld (0:Int)) M)).1).length).rep.kept (Be w (w.Q.getD w.D.toNat M) (Zw (Z7 (w.j.W.getD ((w.Q.getD w.D.toNat M-(4096:Int)).toNat+Ld (0:Int)) M)).1) (Zw (Z7 (w.j.W.getD ((w.Q.getD w.D.toNat M-(4096:Int)).toNat+Ld (0:Int)) M)).1).length).rep.filled (Be w (w.Q.getD w.D.toNat M) (Zw (Z7 (w.j.W.getD ((w.Q.getD w.D.toNat M-(4096:Int)).toNat+Ld (0:Int)) M)).1) (Zw (Z7 (w.j.W.getD ((w.Q.getD w.D.toNat M-(4096:Int)).toNat+Ld (0:Int)) M)).1).length).rep.freed (Be w (w.Q.getD w.D.toNat M) (Zw (Z7 (w.j.W.getD ((w.Q.getD w.D.toNat M-(4096:Int)).toNat+Ld (0:Int)) M)).1) (Zw (Z7 (w.j.W.getD ((w.Q.getD w.D.toNat M-(4096:Int)).toNat+Ld (0:Int)) M)).1).length).rep.cleared ((Be w (w.Q.getD w.D.toNat M) (Zw (Z7 (w.j.W.getD ((w.Q.getD w.D.toNat M-(4096:Int)).toNat+Ld (0:Int)) M)).1) (Zw (Z7 (w.j.W.getD ((w.Q.getD w.D.toNat M-(4096:Int)).toNat+Ld (0:Int)) M)).1).length).rep.steps+((1:Int)+(↑(Zw (Z7 (w.j.W.getD ((w.Q.getD w.D.toNat M-(4096:Int)).toNat+Ld (0:Int)) M)).1).length:Int))))from by(simp[Ha, *];omega)];exact borF [0,1,8002,3,8004,8005] [8002,8004,8005] func131 []<|Fh 52 [.el (wD (w.j.W.getD ((w.Q.getD w.D.toNat M-4096).toNat+Ld 0) M))]<|FlG 28 (!decide (w.D<0)) wD w.Q<|Ffb 30 (Lb (w.D<0)||Lb ((w.Q.length:Int)<=w.D))<|Fmq 40 wD w.Q w.D<|Fbq 44 [0,1,8002,3,8004,8005] (@Hm w (w.Q.getD w.D.toNat M) (1) aa oq)<|Fo ((0:Int)<=0/\Ld 0<Ld 1)<|Fa (B5 oq:(La wD w.j.W)[(w.Q.getD w.D.toNat M-4096).toNat+Ld 0]?=Le (wD (w.j.W.getD ((w.Q.getD w.D.toNat M-4096).toNat+Ld 0) M)))<|Fc 53 (@H8 (w.j.W.getD ((w.Q.getD w.D.toNat M-4096).toNat+Ld 0) M) oq oq)<|Fc 60 (@ET ((Z7 (w.j.W.getD ((w.Q.getD w.D.toNat M-4096).toNat+Ld 0) M)).1) aa)<|Fbq 61 [0,1,8002,3,8004,8005] (@Hm w (w.Q.getD w.D.toNat M) (Z5 (Z7 (w.j.W.getD ((w.Q.getD w.D.toNat M-4096).toNat+Ld 0) M)).1) aa oq)<|Ffs 69 (!(Z7 (w.j.W.getD ((w.Q.getD w.D.toNat M-4096).toNat+Ld 0) M)).2||Lc)<|Fc 71 (@Z36 ((Z7 (w.j.W.getD ((w.Q.getD w.D.toNat M-4096).toNat+Ld 0) M)).1) aa)<|Fl 73 iD (Zw (Z7 (w.j.W.getD ((w.Q.getD w.D.toNat M-(4096:Int)).toNat+Ld (0:Int)) M)).1)<|Fu (@Zg9 w (w.Q.getD w.D.toNat M) (Z5 (Z7 (w.j.W.getD ((w.Q.getD w.D.toNat M-4096).toNat+Ld 0) M)).1) (Zw (Z7 (w.j.W.getD ((w.Q.getD w.D.toNat M-4096).toNat+Ld 0) M)).1) aa oq (by grind[Ha]) oq oq aa)<|Fi 101 ((Be w (w.Q.getD w.D.toNat M) (Zw (Z7 (w.j.W.getD ((w.Q.getD w.D.toNat M-4096).toNat+Ld 0) M)).1) (Zw (Z7 (w.j.W.getD ((w.Q.getD w.D.toNat M-4096).toNat+Ld 0) M)).1).length).D+1)<|Fl 110 iD (Zw (Z7 (w.j.W.getD ((w.Q.getD w.D.toNat M-(4096:Int)).toNat+Ld (0:Int)) M)).1)<|Fi 111 (1+(↑(Zw (Z7 (w.j.W.getD ((w.Q.getD w.D.toNat M-4096).toNat+Ld 0) M)).1).length:Int))<|Fi 112 ((Be w (w.Q.getD w.D.toNat M) (Zw (Z7 (w.j.W.getD ((w.Q.getD w.D.toNat M-4096).toNat+Ld 0) M)).1) (Zw (Z7 (w.j.W.getD ((w.Q.getD w.D.toNat M-4096).toNat+Ld 0) M)).1).length).rep.steps+(1+(↑(Zw (Z7 (w.j.W.getD ((w.Q.getD w.D.toNat M-4096).toNat+Ld 0) M)).1).length:Int))) Fz
structure Ij (w:Z6):Prop where
 k:Ip w
 sc:0<=w.D
 hr:w.D<w.Q.length->4096<=w.Q.getD w.D.toNat M/\w.Q.getD w.D.toNat M+Zk w.j.W (w.Q.getD w.D.toNat M)<4096+w.j.W.length
 hd:w.D<w.Q.length->(Z7 (Z1 w.j.W (w.Q.getD w.D.toNat M)).1).2=O
 hN:w.D<w.Q.length->Z0S w (C0 w) (Bf w)
def KI.sd{h T}:∀w n,(∃a,KI h T a w)->∃a,KI h T a (Ha w n):=
 λw n ⟨a,k⟩=>⟨a,k.c,k.sp,k.old,k.pl,k.wl,k.pg,k.tk,k.tk0,k.q,k.hd,k.dt,k.lg⟩
section
variable{h:Heap}{T:Nat->List Int}{w:Z6}(c:G9 h T w)(g:Gd h T)
include c g
theorem G9.dec{q:Int}(b:q∈w.Q):(Z7 (Z1 w.j.W q).1).2=O:=by obtain⟨tq,k⟩:=c.k;rcases k.q q b with⟨i,nt,a,hk,d⟩|⟨i,f,a⟩;rcases k.hd i q a with e|e;rw[e];exact(g.on a).2.2.2.2.2.1;exact absurd e.2.2 d;exact(GW (k.tk i f).2.2.2.2.2.1 a).1
theorem G9.in1{q j:Int}(d:q∈w.Q)(a:0<=j)(b:j<Zk w.j.W q)(e:(w.fwd (Z1 w.j.W (q+1+j)).1).2.2=0):G9 h T (w.in1 (q+1+j)):=by obtain⟨tq,k⟩:=c.k;exact⟨k.in1 g c.ok c.inv d ⟨a,b⟩ e,(Z49 c.ok _ e).1,(Z51 c.ok c.inv d ⟨a,b⟩ e).1,c.so.fwd c.ok _ e⟩
theorem G9.inn{q:Int}(a:q∈w.Q){l:List Int}(hl:∀x∈l,0<=x/\x<Zk w.j.W q)(k:Nat)(d:k<=l.length)(b:∀j,j<k->CI w q l j=0):G9 h T (Be w q l k):=
 ⟨MX (λw=>∃o,KI h T o w) (λw q j f n ⟨_,k⟩ a i m e=>k.in1 g f n a ⟨i,m⟩ e) c.ok c.inv c.k a hl k d b,(IW c.ok q l k b).1,(MA c.ok c.inv a hl k d b).1,MX (λw=>GX w.j.P) (λw q j f n p a i m e=>p.fwd f _ e) c.ok c.inv c.so a hl k d b⟩
theorem G9.step(e:(ZV w).2.2=0):G9 h T (ZV w).1:=
 ⟨OA (λw=>∃l,KI h T l w) (λw q j a f ⟨_,k⟩ i b d e=>k.in1 g a f i ⟨b,d⟩ e) KI.sd c.ok c.inv c.k e,(O7 c.ok e).1,(Z3t c.ok c.inv e).1,OA (λw=>GX w.j.P) (λw q j a f p i b d e=>p.fwd a _ e) (λ_ _ p=>p) c.ok c.inv c.so e⟩
theorem G9.stp:Ij w:=by have sc:=c.ok.sc;have i:w.D<w.Q.length->C0 w∈w.Q:=λb=>B7.2 ⟨w.D.toNat,by omega,rfl⟩;refine⟨c.ck,sc.1,λb=>c.inv.r _ (List.mem_append_right _ (i b)),λb=>c.dec g (i b),λb=>?_⟩;obtain⟨tq,m⟩:=c.k;have n:=R5 (Zx w (C0 w));have f:=λk d a=>c.inn g (i b) (l:=Bf w) n k d a;refine⟨λk d a=>(f k oq a).fw g (EW (f k oq a).ok.W _),λk d a=>?_,λk d a e=>?_⟩;obtain⟨_,j⟩:=(f k d a).k;exact j.wl.trans m.wl.symm;obtain⟨_,j⟩:=((f k oq a).fwd g e).k;exact j.wl.trans m.wl.symm
theorem G9.roots{roots}(k:Nat)(a:∀j,j<k->E5 w roots j=0):G9 h T (rootsN w roots k).1:=by
 induction k with|zero=>exact c|succ k b=>exact(b λj hj=>a j oq).fwd g (a k oq)
theorem G9.rts{roots}(hr:Zz roots):Z3H w roots:=λk hk a=>(c.roots g k a).fw g (Z1w hr k)
theorem G9.rootsF{roots}(e:(rootsF w roots).2.2=0):G9 h T (rootsF w roots).1:=by
 cases hb:(Lg roots.length).find? (λk=>Lb (E5 w roots k≠0))with
 |none =>
  have b:∀j,j<roots.length->E5 w roots j=0:=λj d=>by(have:=Ll.1 hb j (Li.2 d);simpa using this)
  have a:Go.Proofs.YtgedmeaemofdkaaGreat.rootsF w roots=((rootsN w roots roots.length).1,(rootsN w roots roots.length).2,0):=by unfold Go.Proofs.YtgedmeaemofdkaaGreat.rootsF;rw[hb]
  rw[a];exact c.roots g _ b
 |some i =>
  have a:Go.Proofs.YtgedmeaemofdkaaGreat.rootsF w roots=(GU,[],E5 w roots i):=by unfold Go.Proofs.YtgedmeaemofdkaaGreat.rootsF;rw[hb]
  rw[a]at e;have:=of_decide_eq_true (Lm.1 hb).1;exact absurd e this
end
def Sg(w:Z6):List (Nat×Z4):=[(22009,Bh w.Q),(21009,EQ w.T),(20009,Bh w.old),(19009,ES w.j.P),(18009,Bh w.j.W)]
def PC(w:Z6):Tg:=⟨tm 26 [(2,.pt 8002 0 0),(3,nI 0),(4,.pt 17009 0 0),(5,.fm 131 (.pt 17009 0 0))],(8002,.box 127 zW)::(17009,w.ckB 18009 19009 20009 21009 22009)::Sg w,4⟩
def Z2k{w}(m:(ZV w).2.1=O):w.D<w.Q.length/\(∀j,j<(Bf w).length->CI w (C0 w) (Bf w) j=0)/\(ZV w).1=Ha (Be w (C0 w) (Bf w) (Bf w).length) (Bf w).length:=by
 unfold ZV at m⊢;split at m;rename_i a;rw[if_pos a];cases hb:(Lg (Bf w).length).find? (λk=>Lb (CI w (C0 w) (Bf w) k≠0))with|none =>refine⟨a,λj b=>?_,rfl⟩;have:=Ll.1 hb j (Li.2 b);simpa using this|some i=>rw[hb]at m;cases m
 cases m
def step_end{w}(e:(ZV w).2.2=0)(m:(ZV w).2.1=Lc):¬ w.D<w.Q.length/\(ZV w).1=w:=by
 unfold ZV at e m⊢;split at m;rename_i a;rw[if_pos a]at e;cases hb:(Lg (Bf w).length).find? (λk=>Lb (CI w (C0 w) (Bf w) k≠0))with|none=>rw[hb]at m;cases m|some i =>rw[hb]at e;exact absurd e (of_decide_eq_true (Lm.1 hb).1)
 rename_i a;rw[if_neg a];exact⟨a,rfl⟩
def Zc7 w(k:Ij w)(m:(ZV w).2.1=O):CP (Zn f78 0) (PC w).st .nrm (PC (ZV w).1).st:=by obtain⟨a,h0,e⟩:=Z2k m;rw[e];obtain⟨kk,sc,hr,hd,hN⟩:=k;have hr:=hr a;have hd:=hd a;have hN:=hN a;exact sF [(33014,19009),(34014,21009),(35014,22009)] []<|Fbr 14 [17009,18009,19009,20009,21009,22009] (@Zgd w aa aa aa aa aa aa aa) Fz
def Zgn w(k:Ij w)(hs:¬ w.D<w.Q.length):CP (Zn f78 0) (PC w).st .ret (Tg.st ⟨tm 26 [(2,.pt 8002 0 0),(3,nI 0)],(8002,.box 127 (w.ckc 18009 19009 20009 21009 22009))::Sg w,60⟩):=by have ln:=k.k.ln;have sc:=k.sc;exact sF [] []<|Fbq 14 [17009,18009,19009,20009,21009,22009] (@ZeW w aa aa aa) Fz
def Z23(w:Z6):Prop:=∀k,(∀j,j<k->El w j=Lc)->Ij (BY w k)/\(ZV (BY w k)).2.2=0
def Z6H{w}{j:Nat}(h:El w j=Lc):(ZV (BY w j)).2.1=O:=by simp only[El,decide_eq_false_iff_not,not_or,L4]at h;simpa using h.2
def Zep w(R:Z23 w) k(d:(Lg (Rh w)).find? (El w)=Le k):CP (Zj f78 0) (Tg.st ⟨tm 26 [(2,.pt 8002 0 0),(3,nI 0),(4,.pt 17009 0 0),(5,.fm 131 (.pt 17009 0 0))],(8002,.box 127 zW)::(17009,w.ckB 18009 19009 20009 21009 22009)::Sg w,4⟩) .ret (Tg.st ⟨tm 26 [(2,.pt 8002 0 0),(3,nI 0)],(8002,.box 127 ((Bv w).1.ckc 18009 19009 20009 21009 22009))::Sg (Bv w).1,60⟩):=by
 obtain⟨c,h2,l⟩:=Lm.1 d;have a:∀j,j<k->El w j=Lc:=λj b=>by simpa using l j b
 obtain⟨f,e⟩:=R k a;have m:(ZV (BY w k)).2.1=Lc:=by(simp only[El,decide_eq_true_eq,e]at c;simpa using c)
 obtain⟨n,g⟩:=step_end e m;have h:Bv w=(BY w k,0):=by rw[Bv,d];simp only[if_pos e];rw[g]
 rw[h];exact G0 (S:=λk=>(PC (BY w k)).st) k kr (λj b=>Zc7 _ (R j λi hi=>a i oq).1 (Z6H (a j b))) (Zgn _ f n)
def ZcI(w:Z6)(hw:B9 w)(R:Z23 w):GP 78 [w.av] O (.tu [(Bv w).1.av,nI 0]) []:=by
 obtain⟨k,hb⟩:=Sb hw;have ln:=(R 0 λj hj=>absurd hj (Nat.not_lt_zero j)).1.k.ln;have ln:Sl w:=ln;exact gF [] func78 []<|Fbr 9 [] (@Z2T w aa)<|Fu (@Zep w aa k hb)<|Fa (Hn _:Ci (La wD (Bv w).1.j.W))<|Fa (IY _:Ci (La Z0.dv (Bv w).1.j.P))<|Fa (Hn _:Ci (La wD (Bv w).1.old))<|Fa (AY _:Ci (La iD (Bv w).1.T))<|Fa (Hn _:Ci (La wD (Bv w).1.Q)) Fz
end Go.Proofs.YtgedmeaemofdkaaGreat
