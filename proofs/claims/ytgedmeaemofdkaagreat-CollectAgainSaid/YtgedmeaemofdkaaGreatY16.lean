/-
 The statement CollectAgain: part 16.
 Conditions: none.
-/
import Derived.Defers
import Derived.WalkKit
import Derived.Test.YtgedmeaemofdkaaGreatY15
set_option maxRecDepth 100000
set_option maxHeartbeats 2000000
set_option linter.all false
open Inhabited renaming default->M
open Bool renaming true->O,false->Lc,not_eq_true'->Lx,and_eq_true->LG,or_false->LH
open List renaming map->La,range->Lg,replicate->Lh,mem_range->Li,drop->Lj,take->Lk,find?_eq_none->Ll,find?_range_eq_some->Lm,getD_eq_getElem?_getD->Lo,length_map->Lp,length_take->Lr,getElem?_eq_getElem->Ls,length_replicate->Lt,map_append->Lu,getElem?_drop->Ly,getElem?_take->Lz,length_drop->LA,map_drop->LB,map_take->LC,find?_cons->LQ,getElem?_append->LR,getElem?_append_left->LS,getElem?_append_right->LU,map_replicate->LV,mem_map->LW,mem_of_find?_eq_some->LY,mem_of_getElem?->LZ,mem_replicate->L0,nodup_nil->L1
open Decidable renaming decide->Lb,not_not->L4
open Int renaming toNat->Ld,add_mul->LI,mul_comm->LL,mul_le_mul_of_nonneg_right->LM,one_mul->LN,tdiv_eq_ediv_of_nonneg->LO
open Option renaming some->Le,none->Lf,getD_some->LD,isSome_iff_exists->L2,map_some->L3
open Classical renaming not_not->Ln
open Go.IntKind renaming i64->Lq
open Nat renaming le_refl->Lv
open Array renaming replicate->Lw,getElem?_append->LF
open Go.Proofs.Tryz
namespace Go.Sx
def CSpec.seq{P c d s t u e}(h:CSpec P c s .nrm t)(k:CSpec P d t e u):CSpec P (.seq c d) s e u:=by intro f b g a w S;refine wp_seq (wp_mono (h f b g a w S) ?_);rintro e' j l ⟨rfl,i⟩;exact k f b g j l i
def Zmt{P:Program}{f:Nat}{fn c}{args l:List AV}{fr}{res x:AV}{ns:List Z3}{p qq:List Prop}{st}{kp:List Nat}(b:kp.Nodup)(s:P.funcs[f]?=Le fn)(r:fn.body=Le c)(h:CSpec P c ⟨args++Lh (fn.ntmps-args.length) .any,λ_=>Lf,1⟩ .ret st)(hl:Sc P st.tmps st.H fn.results.toList=Le l)(t:TR kp st.H fr (A9 l)=Le (x,p))(g:B8 p)(d:B8 (Ic x res).2)(n:(Ic x res).1=res)(k:AH kp st.H fr=Le (ns,qq))(i:B8 qq):GSpec P f args fr res ns:=by intro w Im vs j m a;refine calls_of_wp s r (wp_mono (h _ _ _ _ _ (Z4c j m a)) ?_);rintro e a' w' ⟨rfl,S⟩;obtain⟨v,o,q⟩:=Z2n b S hl t g d n k i;obtain⟨_,_,_,T⟩:=S;exact⟨T.defers,v,o,v,rfl,q⟩
def Sys.defer{Ow Im0 w0 w tmps H clk a}(S:Sys Ow Im0 w0 tmps H clk a w)(D:List Deferred):Sys ⟨Ow.p,D⟩ Im0 w0 tmps H clk {a with defers:=D} w:=by obtain⟨ρ,b,I,T⟩:=S;exact⟨ρ,b,⟨I.kept,I.inj,I.notIm,I.bnd,I.own,I.imb,I.im0,I.blk,I.fresh,I.one⟩,⟨T.size,T.tmp,rfl⟩⟩
def Pz{P}{i:Nat}{l}{ops:Array Oper}{Q o a w}(c:ops[i]?=Le o)(b:o.guard=Lf)(h:o.wp P a w (wpOps P ops Q l) Q):wpOps P ops Q (i::l) a w:=by rw[wpOps];simp only[c];rw[if_pos (by simp[Region.wanted,b])];exact .inl h
def Zg0:Code->Code|.seq _ y=>y|c=>c
def Zim:Code->Code|.seq x _=>x|c=>c
def Z5y:Nat->Code->Code|0,c=>c|n+1,c=>Z5y n (Zg0 c)
def tlF(fn:Func)(n:Nat):Code:=match fn.body with|some c=>Z5y n c|none=>.skip
def Ry(fn:Func)(n:Nat):Code:=Zim (tlF fn n)
end Go.Sx
namespace Go.Proofs.YtgedmeaemofdkaaGreat
open Go.Sx Go.RowKit
def EJ(s k:List Int):AV:=.d (.sl 1 [[.sl 1 (s.map wD)],[.sl 1 (k.map wD)]])
def ccA(s k:List Int)(n:Int)(i:Nat):Tg:=⟨tm 36 [(0,EJ s k),(2,.d (.sl 0 [])),(3,nI n),(9,EJ s k),(10,nI 2),(11,nI i)],[],4⟩
section
variable(s k:List Int)(hs:s.length<=1048575)(hk:k.length<=1048575)
include hs hk
theorem ZjW:CP (Zm f75 0) (ccA s k 0 0).st .nrm (ccA s k s.length 1).st:=by exact sF [] (fO 2)<|Fh 13 [.el [DV.sl 1 (La wD s)]]<|Fa (by simp[*]:0<=(↑(0:Nat):Int)/\[[DV.sl 1 (La wD s)],[DV.sl 1 (La wD k)]][(↑(0:Nat):Int).toNat]?=Le [DV.sl 1 (La wD s)])<|Fl 17 wD s<|Fi 18 (0+(s.length:Int))<|Fo (0+(s.length:Int)=(s.length:Int)) Fz
theorem Zgb:CP (Zm f75 0) (ccA s k s.length 1).st .nrm (ccA s k (s.length+k.length) 2).st:=by exact sF [] []<|Fh 13 [.el [DV.sl 1 (La wD k)]]<|Fa (by simp[*]:0<=(↑(1:Nat):Int)/\[[DV.sl 1 (La wD s)],[DV.sl 1 (La wD k)]][(↑(1:Nat):Int).toNat]?=Le [DV.sl 1 (La wD k)])<|Fl 17 wD k<|Fi 18 ((s.length:Int)+(k.length:Int)) Fz
theorem ZeN:CP (Zm f75 0) (ccA s k (s.length+k.length) 2).st (.ext 0) (Tg.st ⟨tm 36 [(0,EJ s k),(2,.d (.sl 0 [])),(3,nI (s.length+k.length))],[],4⟩):=by exact sF [] [] Fz
def Zka  := Bo (S:=λi=>(ccA s k (if i=0 then 0 else if i=1 then s.length else s.length+k.length) i).st) 2 (by kernel_rfl) (λi hi=>by
  have:i=0\/i=1:=by omega
  rcases this with rfl|rfl
  .exact ZjW s k hs hk
  .exact Zgb s k hs hk) (ZeN s k hs hk)
theorem Zie:CP (Ry f75 0) (Tg.st ⟨tm 36 [(0,EJ s k)],[],1⟩) .nrm (Tg.st ⟨tm 36 [(0,EJ s k),(2,.d (.sl 0 []))],[],2⟩):=by exact sF [] [] Fz
theorem ZcI:CP (Ry f75 1) (Tg.st ⟨tm 36 [(0,EJ s k),(2,.d (.sl 0 []))],[],2⟩) .nrm (Tg.st ⟨tm 36 [(0,EJ s k),(2,.d (.sl 0 [])),(3,nI 0)],[],3⟩):=by exact sF [] [] Fz
theorem ZbM:CP (Ry f75 2) (Tg.st ⟨tm 36 [(0,EJ s k),(2,.d (.sl 0 [])),(3,nI 0)],[],3⟩) .nrm (Tg.st ⟨tm 36 [(0,EJ s k),(3,nI (s.length+k.length))],[],5⟩):=by exact sF [] []<|Fh 10 [.int (↑(0+1+1):Int)]<|Fr (↑[[DV.sl (1:Nat) (La wD s)],[DV.sl (1:Nat) (La wD k)]].length:Int)<|Fu (@Zka s k aa aa) Fz
def ccD(s k:List Int)(l:List Int)(i:Nat):Tg:=⟨tm 36 [(6,.ow 41024),(25,EJ s k),(26,nI 2),(27,nI i)],[(41024,.arr 35 1 (l.map wD))],7⟩
theorem ZgC:CP (Zm f75 2) (ccD s k [] 0).st .nrm (ccD s k s 1).st:=by
 exact sF [(72033,41024)] []<|Fh 29 [.el [DV.sl 1 (La wD s)]]<|Fa (by simp[*]:0<=(↑(0:Nat):Int)/\[[DV.sl 1 (La wD s)],[DV.sl 1 (La wD k)]][(↑(0:Nat):Int).toNat]?=Le [DV.sl 1 (La wD s)])<|Fa (by(simp[*];omega):(La wD []).length+(La wD s).length<=2^30)<|Fs 33 (La wD s) Fz
theorem Zdf:CP (Zm f75 2) (ccD s k s 1).st .nrm (ccD s k (s++k) 2).st:=by
 exact sF [(72033,41024)] []<|Fh 29 [.el [DV.sl 1 (La wD k)]]<|Fh 33 [.els (La wD (s++k))]<|Fa (by simp[*]:0<=(↑(1:Nat):Int)/\[[DV.sl 1 (La wD s)],[DV.sl 1 (La wD k)]][(↑(1:Nat):Int).toNat]?=Le [DV.sl 1 (La wD k)])<|Fa (by(simp only[Lp];omega):(La wD s).length+(La wD k).length<=2^30)<|Fa (ms:La wD s++La wD k=La wD (s++k)) Fz
theorem Zk8:CP (Zm f75 2) (ccD s k (s++k) 2).st (.ext 2) (Tg.st ⟨tm 36 [(6,.ow 41024)],[(41024,.arr 35 1 ((s++k).map wD))],7⟩):=by exact sF [] [] Fz
def Zco  := Bo (S:=λi=>(ccD s k (if i=0 then []else if i=1 then s else s++k) i).st) 2 (by kernel_rfl) (λi hi=>by
  have:i=0\/i=1:=by omega
  rcases this with rfl|rfl
  .exact ZgC s k hs hk
  .exact Zdf s k hs hk) (Zk8 s k hs hk)
theorem Zcf:CP (tlF f75 4) (Tg.st ⟨tm 36 [(0,EJ s k),(6,.ow 41024)],[(41024,.arr 35 1 [])],6⟩) .ret (Tg.st ⟨tm 36 [(2,.ow 41024)],[(41024,.arr 35 1 ((s++k).map wD))],8⟩):=by exact sF [] []<|Fh 26 [.int (↑(0+1+1):Int)]<|Fr (↑[[DV.sl (1:Nat) (La wD s)],[DV.sl (1:Nat) (La wD k)]].length:Int)<|Fu (@Zco s k aa aa) Fz
end
def ZeW s k(n:Int)(h:0<=n/\n<=2097152):CP (Ry f75 3) (Tg.st ⟨tm 36 [(0,EJ s k),(3,nI n)],[],5⟩) .nrm (Tg.st ⟨tm 36 [(0,EJ s k),(6,.ow 41024)],[(41024,.arr 35 1 [])],6⟩):=by
 rintro Ow m w0 a w ⟨ρ,Im,I,T⟩;rw[show Ry f75 3=.region 9 (BM f75 9) Lc from by kernel_rfl];refine wp_region ?_;rw[show Lg (BM f75 9).size=[0,1,2]from by kernel_rfl];have j:=T.put 23 (Ee T (.tmp 3));refine Pz (o:=(BM f75 9).getD 0 M) kr kr (Sp (Z7a (x:=.tmp 3) kr) ?_);show wpOps prog (BM f75 9) _ [1,2] (a.put (Le 23) (a.eval (.tmp 3))) w;refine Pz (o:=(BM f75 9).getD 1 M) kr kr (Z8l (c:=⟨.value (.func 128),#[.const (.slice Lf 0 0),.tmp 23],#[25,3]⟩) (f:=.func 128) (cs:=#[]) (d:=24) (ImC:=λ_=>False) kr rfl kr kr kr (Zit n h) I j rfl pq (λ_ q=>q.elim) (λq=>by cases q) (λi x v e b=>?_) λρ2 g v w' J T2 r=>?_);match i,e,b with|0,e,b =>cases e;simp at b;rw[<-b];exact .d (.sc _ rfl)|1,e,b =>cases e;simp only[List.map_toArray,List.map_cons,List.map_nil,Array.append_empty,List.getElem?_toArray,List.getElem?_cons_succ,List.getElem?_cons_zero,Option.some.injEq]at b;have r1:(a.put (Le 23) (a.eval (.tmp 3))).eval (.tmp 23)=.int .i64 n:=C7 (Ee j (.tmp 23));rw[<-b,r1];exact .d (.sc _ rfl)
 have l:=T2.put 24 r;have p:=l.put 6 (Ee l (.tmp 24));refine Pz (o:=(BM f75 9).getD 2 M) kr kr (Sp (Z3F (x:=.tmp 24) kr) ?_);refine⟨rfl,Z00 (s:=⟨_,_,6⟩) kr kr (Sys.clk ⟨ρ2,g,J,p⟩ (Nat.le_succ 5))⟩
def Z88(s k:List Int)(hs:s.length<=1048575)(a:k.length<=1048575):GP 75 [EJ s k] O (Z2 (s++k)) []:=by have c:=(Zie s k hs a).seq ((ZcI s k hs a).seq ((ZbM s k hs a).seq ((ZeW s k (s.length+k.length) oq).seq (Zcf s k hs a))));rw[show Tg.st ⟨tm 36 [(0,EJ s k)],[],1⟩=⟨[EJ s k]++Lh (Tryz.f75.ntmps - [EJ s k].length) .any,λ_=>Lf,1⟩from by kernel_rfl]at c;exact Zmt (kp:=[]) (l:=[.ow 41024]) (x:=Z2 (s++k)) (qq:=[]) (p:=[Cf ((s++k).map wD)]) L1 func75 kr c kr kr (H9 _) trivial kr kr trivial
end Go.Proofs.YtgedmeaemofdkaaGreat
namespace Go.Proofs.YtgedmeaemofdkaaGreat
open Go.Sx Go.RowKit
def ZkY(a b c d e:Value) w :CallsD prog 72 #[a,b,c,d,e] .returning w λg i w'=>g=.returned (.tuple #[])/\i=.returning/\w'=w:=by refine callsD_of_wpS func72 rfl λf cs h=>?_;apply wpS_seq;apply wpS_region;simp[wpOpsS,go_sem,recoverD,h,Tryz.ntmps72,Exit.thenS];apply wpS_seq;apply wpS_region;simp[wpOpsS,go_sem,Tryz.ntmps72,Exit.thenS];refine wpS_cond (t:=Lc) (by simp[Act.eval,go_sem,Lw]) ?_;simp only[Bool.false_eq_true,if_false];refine wpS_of_wp (wp_skip ?_);cases f;simp_all[bodyPostS,results,Tryz.results72]
end Go.Proofs.YtgedmeaemofdkaaGreat
namespace Go.Proofs.YtgedmeaemofdkaaGreat
open Go.Sx Go.RowKit
structure Z9r (h:Heap) (s k:List Int) (w0 w1 w2 w3 w4 w5:Z7) (l o:List Int):Prop where
 b:GP 73 [h.av] Lc (.tu [w0.av,nI 0]) []
 r:GP 74 [h.av,Z2 (s++k)] O (bL O) []
 t:GP 77 [w0.av,Z2 s] O (.tu [w1.av,Z2 l,nI 0]) []
 a:GP 78 [w1.av] O (.tu [w2.av,nI 0]) []
 w:BP 79 [.pt 0 0 0,Z2 k] [w2.evD] (.ow 1) [w3.evD,Bj o]
 f:BP 80 [.pt 0 0 0] [w3.evD] (.tu []) [w4.evD]
 g:BP 81 [.pt 0 0 0] [w4.evD] (.tu []) [w5.evD]
 sl:s.length<=1000
 kl:k.length<=1000
 tl:w5.T.length<=1000000
 sp:w5.j.S=0\/w5.j.S=1
def Zl9{P:Program}{o:Oper}{a:Act}{w:World}{f:Nat}{l:Array Operand}(b:o.op=.makeFunc (.func f) #[] l):(execOp a.eval o).run P w=.ok (.value (.func (.func f) #[] (l.map a.eval))) w:=by simp[execOp,b,Instr.makeFunc]
def Zhh{P}{o:Oper}{a:Act}{w}{c:Call}{x:Operand}{f:Nat}{l:Array Value}{next:Act->World->Prop}{Q}(d:o.op=.defer c)(b:c=⟨.value x,#[],#[]⟩)(e:a.eval x=.func (.func f) #[] l)(h:next ({a with defers:=⟨.fn (.func f) l,#[]⟩::a.defers}.put o.dst undef) w):o.wp P a w next Q:=by
 subst b;have:(execOp a.eval o).run P w=.ok (.defer ⟨.fn (.func f) l,#[]⟩) w:=by simp[execOp,d,resolve,e,Deferred.ofValue]
 unfold Oper.wp;rw[this];exact h
def clS(h:Heap)(s k:List Int):Tg:=⟨tm 79 [(1,Z2 s),(2,Z2 k),(3,.pt 8003 0 0),(6,.pt 8006 0 0),(7,.pt 8007 0 0),(8,.pt 8008 0 0),(9,.pt 8009 0 0),(10,.pt 8010 0 0)],[(8003,.box 28 h.cells),(8006,.box 28 [nI 0,nI 0,.d (.sl 0 []),.d (.sl 0 []),nI 0,nI 0]),(8007,.box 25 [.d (.sl 0 [])]),(8008,.box 25 [.d (.sl 0 [])]),(8009,.box 73 [nI 0,nI 0,nI 0,nI 0,nI 0,nI 0]),(8010,.box 32 [nI 0])],2⟩
section
variable{h:Heap}{s k:List Int}{w0 w1 w2 w3 w4 a:Z7}{l o:List Int}(c:Z9r h s k w0 w1 w2 w3 w4 a l o)
include c
theorem Z53:GP 73 [h.av] Lc (.tu [w0.av,nI 0]) []:=c.b
theorem Z6Q:GP 74 [h.av,Z2 (s++k)] O (bL O) []:=c.r
theorem Z5J:GP 77 [w0.av,Z2 s] O (.tu [w1.av,Z2 l,nI 0]) []:=c.t
theorem Z5a:GP 78 [w1.av] O (.tu [w2.av,nI 0]) []:=c.a
theorem Z94:BP 79 [.pt 0 0 0,Z2 k] [w2.evD] (.ow 1) [w3.evD,Bj o]:=c.w
theorem Z6N:BP 80 [.pt 0 0 0] [w3.evD] (.tu []) [w4.evD]:=c.f
theorem Z8u:BP 81 [.pt 0 0 0] [w4.evD] (.tu []) [a.evD]:=c.g
omit c in
theorem ZjQ(h:Heap) s k:CP (Ry f35 0) (Tg.st ⟨tm 79 [(0,h.av),(1,Z2 s),(2,Z2 k)],[],1⟩) .nrm (clS h s k).st:=by exact sF [] [] Fz
theorem Znm:CP (tlF f35 2) (clS h s k).st .ret (Tg.st ⟨tm 79 [(6,.pt 8006 0 0),(7,.pt 8007 0 0),(8,.pt 8008 0 0),(9,.pt 8009 0 0),(10,.pt 8010 0 0)],[(8006,.box 28 (Em a).cells),(8007,.box 25 [Z2 l]),(8008,.box 25 [.ow 24049]),(24049,.arr 35 1 (o.map wD)),(8009,.box 73 a.rep.cells),(8010,.box 32 [nI 0])],60⟩):=by
 have sl:=c.sl;have kl:=c.kl;have tl:=c.tl;have sp:=c.sp;by_cases e:0<a.T.length;have d:Em a=⟨a.j.C,a.j.W,a.j.P,1-a.j.S,ZH a⟩:=by rw[Em,if_pos e]
 rw[d];refine Zg [((16:Nat),[Hint.call Lc (AV.tu [w0.av,nI (0:Int)]) []]),((26:Nat),[Hint.call O (Z2 (s++k)) []]),((27:Nat),[Hint.call O (bL O) []]),((31:Nat),[Hint.call O (AV.tu []) []]),((35:Nat),[Hint.call O (AV.tu [w1.av,Z2 l,nI (0:Int)]) []]),((40:Nat),[Hint.call O (AV.tu []) []]),((43:Nat),[Hint.call O (AV.tu [w2.av,nI (0:Int)]) []]),((47:Nat),[Hint.call O (AV.tu []) []]),((49:Nat),[Hint.bor [(16011:Nat)] (AV.ow (1:Nat)) [w3.evD,Bj o]]),((50:Nat),[Hint.bor [(16011:Nat)] (AV.tu []) [w4.evD]]),((51:Nat),[Hint.bor [(16011:Nat)] (AV.tu []) [a.evD]]),((55:Nat),[Hint.int ((1:Int)-a.j.S)]),((62:Nat),[Hint.int (a.T.length:Int)]),((64:Nat),[Hint.br O]),((68:Nat),[Hint.int ((a.T.length:Int)-(1:Int))]),((69:Nat),[Hint.el (iD (a.T.getD ((a.T.length:Int)-(1:Int)).toNat M))])] [] [((73049:Nat),(24049:Nat))] [] (φ:=GP 73 [h.av] Lc (AV.tu [w0.av,nI (0:Int)]) []/\(((0:Int)==(0:Int))=O->GP 75 [EJ s k] O (Z2 (s++k)) [])/\(((0:Int)==(0:Int))=O->GP 74 [h.av,Z2 (s++k)] O (bL O) [])/\GP 76 [nI (0:Int)] O (AV.tu []) []/\GP 77 [w0.av,Z2 s] O (AV.tu [w1.av,Z2 l,nI (0:Int)]) []/\GP 76 [nI (0:Int)] O (AV.tu []) []/\GP 78 [w1.av] O (AV.tu [w2.av,nI (0:Int)]) []/\GP 76 [nI (0:Int)] O (AV.tu []) []/\BP 79 [AV.pt (0:Nat) (0:Nat) (0:Nat),Z2 k] [w2.evD] (AV.ow (1:Nat)) [w3.evD,Bj o]/\BP 80 [AV.pt (0:Nat) (0:Nat) (0:Nat)] [w3.evD] (AV.tu []) [w4.evD]/\BP 81 [AV.pt (0:Nat) (0:Nat) (0:Nat)] [w4.evD] (AV.tu []) [a.evD]/\Lq.wrap ((1:Int)-a.j.S)=(1:Int)-a.j.S/\(↑(La iD a.T).length:Int)=(a.T.length:Int)/\Lb ((0:Int)<(a.T.length:Int))=O/\O=O/\Lq.wrap ((a.T.length:Int)-(1:Int))=(a.T.length:Int)-(1:Int)/\(0:Int)<=(a.T.length:Int)-(1:Int)/\(La iD a.T)[((a.T.length:Int)-(1:Int)).toNat]?=Le (iD (a.T.getD ((a.T.length:Int)-(1:Int)).toNat M))) ?_ kr kr kr;exact⟨(@Z53 (h) (s) (k) (w0) (w1) (w2) (w3) (w4) (a) (l) (o) aa),(λb=>by(try simp only[bs]at b);exact@Z88 (s) (k) (by(try simp only[bs]at b);omega) (by(try simp only[bs]at b);omega)),(λb=>by(try simp only[bs]at b);exact@Z6Q (h) (s) (k) (w0) (w1) (w2) (w3) (w4) (a) (l) (o) aa),(@It ((0:Int)) (by rfl)),(@Z5J (h) (s) (k) (w0) (w1) (w2) (w3) (w4) (a) (l) (o) aa),(@It ((0:Int)) (by rfl)),(@Z5a (h) (s) (k) (w0) (w1) (w2) (w3) (w4) (a) (l) (o) aa),(@It ((0:Int)) (by rfl)),(@Z94 (h) (s) (k) (w0) (w1) (w2) (w3) (w4) (a) (l) (o) aa),(@Z6N (h) (s) (k) (w0) (w1) (w2) (w3) (w4) (a) (l) (o) aa),(@Z8u (h) (s) (k) (w0) (w1) (w2) (w3) (w4) (a) (l) (o) aa),(by exact Zf rfl oq oq),(by simp only[Lp]),(by(simp only[bs];omega)),rfl,(by exact Zf rfl oq oq),(by exact Zo oq oq oq)⟩;have d:Em a=⟨a.j.C,a.j.W,a.j.P,1-a.j.S,-1⟩:=by rw[Em,if_neg e]
 rw[d];exact sF [(73049,24049)] []<|Fc 16 (@Z53 h s k w0 w1 w2 w3 w4 a l o aa)<|FcG 26 ((0:Int)==0) (λb=>by(try simp only[bs]at b);exact@Z88 s k oq oq)<|FcG 27 ((0:Int)==0) (λb=>by(try simp only[bs]at b);exact@Z6Q h s k w0 w1 w2 w3 w4 a l o aa)<|Fc 31 (@It (0) (by rfl))<|Fc 35 (@Z5J h s k w0 w1 w2 w3 w4 a l o aa)<|Fc 40 (@It (0) (by rfl))<|Fc 43 (@Z5a h s k w0 w1 w2 w3 w4 a l o aa)<|Fc 47 (@It (0) (by rfl))<|Fbr 49 [16011] (@Z94 h s k w0 w1 w2 w3 w4 a l o aa)<|Fbr 50 [16011] (@Z6N h s k w0 w1 w2 w3 w4 a l o aa)<|Fbr 51 [16011] (@Z8u h s k w0 w1 w2 w3 w4 a l o aa)<|Fi 55 (1-a.j.S)<|Fl 62 iD a.T<|Ffb 64 (Lb (0<(a.T.length:Int))) Fz
def clT(a:Z7)(l o:List Int):Tg:=⟨tm 79 [(6,.pt 8006 0 0),(7,.pt 8007 0 0),(8,.pt 8008 0 0),(9,.pt 8009 0 0),(10,.pt 8010 0 0)],[(8006,.box 28 (Em a).cells),(8007,.box 25 [Z2 l]),(8008,.box 25 [Z2 o]),(8009,.box 73 a.rep.cells),(8010,.box 32 [nI 0])],60⟩
theorem Zdn:CP (tlF f35 2) (clS h s k).st .ret (clT a l o).st:=
 CSpec.frz 24049 (Znm c) kr
theorem Zbh:GP 35 [h.av,Z2 s,Z2 k] Lc (.tu [(Em a).av,Z2 l,Z2 o,.ag a.rep.cells,nI 0]) []:=by
 intro w y vs q r g;refine calls_of_wp_defers func35 (c:=.seq (Ry f35 0) (.seq (Ry f35 1) (tlF f35 2))) kr ?_;have S0:=Z4c (n:=79) q r g;rw[show [h.av,Z2 s,Z2 k]++Lh (79 - [h.av,Z2 s,Z2 k].length) .any=tm 79 [(0,h.av),(1,Z2 s),(2,Z2 k)]from by kernel_rfl]at S0;refine wp_seq (wp_mono (ZjQ h s k _ _ _ _ _ S0) ?_);rintro e a1 w1 ⟨rfl,S1⟩;refine wp_seq ?_;rw[show Ry f35 1=.region 1 (BM f35 1) Lc from by kernel_rfl];refine wp_region ?_;rw[show Lg (BM f35 1).size=[0,1]from by kernel_rfl];refine Pz (o:=(BM f35 1).getD 0 M) kr kr (Sp (Zl9 (f:=72) (l:=#[.tmp 6,.tmp 7,.tmp 8,.tmp 9,.tmp 10]) kr) ?_);rw[show Array.map a1.eval #[.tmp 6,.tmp 7,.tmp 8,.tmp 9,.tmp 10]=#[a1.eval (.tmp 6),a1.eval (.tmp 7),a1.eval (.tmp 8),a1.eval (.tmp 9),a1.eval (.tmp 10)]from by simp];show wpOps prog (BM f35 1) _ [1] (a1.put (Le 13) (.func (.func 72) #[] #[a1.eval (.tmp 6),a1.eval (.tmp 7),a1.eval (.tmp 8),a1.eval (.tmp 9),a1.eval (.tmp 10)])) w1;generalize a1.eval (.tmp 6)=v6,a1.eval (.tmp 7)=v7,a1.eval (.tmp 8)=v8,a1.eval (.tmp 9)=v9,a1.eval (.tmp 10)=v10;have j:Sx.Sys Gp y w ((clS h s k).st.tmps.set 13 .any) (clS h s k).st.H 2 (a1.put (Le 13) (.func (.func 72) #[] #[v6,v7,v8,v9,v10])) w1:=by(obtain⟨ρ,b,I,T⟩:=S1;exact⟨ρ,b,I,T.put 13 (.any _)⟩)
 have d:(a1.put (Le 13) (.func (.func 72) #[] #[v6,v7,v8,v9,v10])).eval (.tmp 13)=.func (.func 72) #[] #[v6,v7,v8,v9,v10]:=by
  obtain⟨ρ,b,I,T⟩:=S1;have:=T.size;have z:13<a1.tmps.size:=by rw[this,show(clS h s k).st.tmps.length=79 from by kernel_rfl];decide
  simp[Act.put,Act.eval,z]
 generalize a1.put (Le 13) (.func (.func 72) #[] #[v6,v7,v8,v9,v10])=a2 at j d⊢;refine Pz (o:=(BM f35 1).getD 1 M) kr kr (Zhh (c:=⟨.value (.tmp 13),#[],#[]⟩) (x:=.tmp 13) kr rfl d ?_);have S3:=j.defer [⟨.fn (.func 72) #[v6,v7,v8,v9,v10],#[]⟩];have hd:a2.defers=[]:=by(obtain⟨_,_,_,T⟩:=j;exact T.defers)
 rw[hd];show Code.wp prog (tlF f35 2) _ {tmps:=a2.tmps,defers:=[⟨.fn (.func 72) #[v6,v7,v8,v9,v10],#[]⟩]} w1;have S6:=Z00 (s:=⟨(clS h s k).st.tmps.set 13 .any,(clS h s k).st.H,2⟩) (t:=clS h s k) kr kr S3;refine wp_mono (Zdn c _ _ _ _ _ S6) ?_;rintro e m i ⟨rfl,S4⟩;obtain⟨ρ,b,I,T⟩:=S4;show Leaves _ _ m.tmps _ m.defers .returning i;rw[T.defers];refine leaves_cons (f:=72) (args:=#[v6,v7,v8,v9,v10]) pq (Rx kr _ _) ?_;refine(ZkY v6 v7 v8 v9 v10 i).mono ?_;rintro e u' u ⟨rfl,rfl,rfl⟩;have S5:Sx.Sys Gp y w (clT a l o).st.tmps (clT a l o).st.H 60 {m with defers:=[]} u:=⟨ρ,b,⟨I.kept,I.inj,I.notIm,I.bnd,I.own,I.imb,I.im0,I.blk,I.fresh,I.one⟩,⟨T.size,T.tmp,rfl⟩⟩;obtain⟨v,r1,r2⟩:=Z2n (P:=prog) (fn:=f35) (fr:=Lc) (ns:=[]) (l:=[(Em a).av,Z2 l,Z2 o,.ag a.rep.cells,nI 0]) (res:=.tu [(Em a).av,Z2 l,Z2 o,.ag a.rep.cells,nI 0]) (x:=.tu [(Em a).av,Z2 l,Z2 o,.ag a.rep.cells,nI 0]) (p:=[]) (qq:=[]) (st:=(clT a l o).st) (L1 (α:=Nat)) S5 kr kr trivial trivial kr kr trivial;exact⟨v,r1,v,rfl,r2⟩
end
end Go.Proofs.YtgedmeaemofdkaaGreat
namespace Go.Proofs.YtgedmeaemofdkaaGreat
open Go.Sx
def Z80(h:Zy)(i:Int)(hm:0<=h.map/\h.map<=4294967295):GP 162 [h.av,nI i] O (bL (Ba h i)) []:=by
 rcases bb (!ZX h||Lb (i<0)||Lb (h.length<=i))with hc0|hc0<;>have hc0p:=hc0<;>simp only[bs]at hc0p
 .exact gF [] func162 (fO 6)<|Fc 6 (@SL h aa)<|Ft 17 hc0<|Fa (by grind[Ba]:Lc=Ba h i) Fz
 .obtain⟨⟨hc0paa,hc0pab⟩,hc0pb⟩:=hc0p;have hf3:=GB.1 hc0paa;obtain⟨hf3a,⟨hf3ba,⟨hf3bba,⟨hf3bbba,hf3bbbb⟩⟩⟩⟩:=hf3;exact gF [] func162 (fO 17)<|Fc 6 (@SL h aa)<|Ff 17 hc0<|Fa (by intro hg;(try simp only[bs]at hg);omega:(!h.K==2&&h.K==1)=O->0<=i)<|Fa (Z7P h i hm aa oq oq:(h.K==2||h.K==1&&bits BinOp.and IntKind.u32 (h.map.fdiv (2^min i.toNat 32)) (1:Int)==1)=Ba h i) Fz
def OC(h:Zy)(i:Nat):Tg:=⟨tm 19 [(1,.pt 8001 0 0),(2,.d (.sl 0 [])),(3,.ow 16003),(6,nI (Z5 h)),(7,nI i)],[(16003,.arr 3 1 ((BK h i).map iD)),(8001,.box 52 [nI h.K,nI h.length,u32 h.map])],60⟩
def Zdz(h:Zy)(i:Nat)(hm:0<=h.map/\h.map<=4294967295)(hi:(i:Int)<Z5 h):CP (Zm f110 0) (OC h i).st .nrm (OC h (i+1)).st:=by
 have hn:=Ps h i;have hs:=Ip h;by_cases a:Ba h (i:Int)=O;have e:BK h (i+1)=BK h i++[(i:Int)]:=by rw[BK,if_pos a]
 exact sF [(504016,16003)] (fO 5)<|Fh 12 [.call O (bL (Ba h (i:Int))) [],.br O]<|Fh 16 [.els (La iD (BK h i++[(i:Int)]))]<|Ftb 8 (Lb ((i:Int)<Z5 h))<|Fa (@Z80 h ((i:Int)) aa)<|Fa ‹Ba h (i:Int)=O›<|Fs 15 (La iD [(i:Int)])<|Fa (by(simp[*];omega):(La iD (BK h i)).length+(La iD [(i:Int)]).length<=2^30)<|Fa (ms:La iD (BK h i)++La iD [(i:Int)]=La iD (BK h i++[(i:Int)]))<|Fx 17 i<|Fr (3:Int)<|Fa (by refine congrArg _ ?_;rw[e]:La iD (BK h i++[(i:Int)])=La iD (BK h (i+1))) Fz;have e:BK h (i+1)=BK h i:=by rw[BK,if_neg a]
 have b:Ba h (i:Int)=Lc:=by simpa using a
 exact sF [] (fO 5)<|Fh 12 [.call O (bL (Ba h (i:Int))) [],.br Lc]<|Ftb 8 (Lb ((i:Int)<Z5 h))<|Fa (@Z80 h ((i:Int)) aa)<|Fa ‹Ba h (i:Int)=Lc›<|Fx 17 i<|Fr (3:Int)<|Fa (by refine congrArg _ ?_;rw[e]:La iD (BK h i)=La iD (BK h (i+1))) Fz
def ZjJ(h:Zy)(i:Nat)(hi:(i:Int)=Z5 h):CP (Zm f110 0) (OC h i).st (.ext 0) (Tg.st ⟨tm 19 [(2,.d (.sl 0 [])),(3,.ow 16003)],[(16003,.arr 3 1 ((BK h i).map iD))],60⟩):=by exact sF [] []<|Ffb 8 (Lb ((i:Int)<Z5 h)) Fz
def Z7S(h:Zy):BK h (Z5 h).toNat=Zj h:=by unfold Zj Z5;by_cases a:ZX h=O;rw[if_pos a,if_pos a];have hb:=GB.1 a;rw[show(h.length+1).toNat=h.length.toNat+1 from by omega,BK,if_neg];unfold Ba;simp;omega;rw[if_neg a,if_neg a];rfl
def Zg1(h:Zy)(a:0<=h.map/\h.map<=4294967295):CP (Zi f110 0) (Tg.st ⟨tm 19 [(1,.pt 8001 0 0),(2,.d (.sl 0 [])),(3,.ow 16003),(6,nI (Z5 h)),(7,nI 0)],[(16003,.arr 3 1 []),(8001,.box 52 [nI h.K,nI h.length,u32 h.map])],60⟩) .nrm (Tg.st ⟨tm 19 [(2,.d (.sl 0 [])),(3,.ow 16003)],[(16003,.arr 3 1 ((Zj h).map iD))],60⟩):=by have hs:=Ip h;rw[<-Z7S];exact Bo (S:=λi=>(OC h i).st) (Z5 h).toNat kr (λi hi=>Zdz h i a oq) (ZjJ h _ oq)
def Pb(h:Zy)(hm:0<=h.map/\h.map<=4294967295):GP 110 [h.av] O (.d (.sl 1 ((Zj h).map iD))) []:=by exact gF [] func110 []<|Fh 3 [.own]<|Fc 6 (@EZ h aa)<|Fu (@Zg1 h aa)<|Fa (M2 _:Cf (La iD (Zj h))) Fz
def Ap(h:Heap)(i:Nat):Tg:=⟨tm 19 [(1,nI i),(2,.pt 8002 0 0),(4,nI 0)],[(8002,.box 28 h.cells)],60⟩
def Zln(h:Heap)(i:Nat)(hi:i+1<h.P.length)(hl:h.P.length<=1048576)(hk:(h.P.getD (i+1) M).K=3):CP (Zm f247 0) (Ap h (i+1)).st .nrm (Ap h i).st:=by
 have ei:((i+1:Nat):Int)-1=(i:Int):=by omega
 exact sF [] []<|FeG 11 (Lb (0<(↑(i+1):Int))) Z0.dv h.P (↑(i+1):Int) (i+1)<|Ftb 15 (Lb (0<(↑(i+1):Int))&&(h.P.getD (i+1) M).K==3)<|Fg 17 (by rw[Eg oq oq];omega:Lq.wrap ((↑(i+1):Int)-1)=(i:Int)) Fz
def Z9k(h:Heap)(i:Nat)(hi:i<h.P.length)(hl:h.P.length<=1048576)(hk:¬ (h.P.getD i M).K=3):CP (Zm f247 0) (Ap h i).st (.ext 0) (Tg.st ⟨tm 19 [(1,nI i),(4,nI 0)],[],60⟩):=by exact sF [] []<|FeG 11 (Lb (0<(i:Int))) Z0.dv h.P (↑i) i<|Ffb 15 (Lb (0<(i:Int))&&(h.P.getD i M).K==3) Fz
def Z4K(h:Heap)(b:Z9 h=O)(hl:h.P.length<=1048576):∀i,i<h.P.length->Gl prog f247 0 (Ap h i).st (.ext 0) (Tg.st ⟨tm 19 [(1,nI (B4 h.P i)),(4,nI 0)],[],60⟩)
 |0,hi=>.endx (Z9k h 0 hi hl (Z8d b))
 |i+1,hi=>by
  unfold B4;by_cases a:(h.P.getD (i+1) M).K=3
  .rw[if_pos a];exact .next (Zln h i hi hl a) (Z4K h b hl i oq)
  .rw[if_neg a];exact .endx (Z9k h (i+1) hi hl a)
def Zgw(h:Heap)(i:Nat)(a:Z9 h=O)(hi:i<h.P.length)(hl:h.P.length<=1048576):CP (Zi f247 0) (Ap h i).st .nrm (Tg.st ⟨tm 19 [(1,nI (B4 h.P i)),(4,nI 0)],[],60⟩):=
 (Z4K h a hl i hi).ext kr
def Zif(h:Heap)(i:Nat)(a:Z9 h=O)(hi:i<h.P.length):GP 247 [h.av,nI i] O (nI (B4 h.P i)) []:=by have po:=B5 a;exact gF [] func247 []<|Fu (@Zgw h i aa aa oq) Fz
def Mh(h:Heap)(i:Int)(l:List Int)(n:Nat):Tg:=⟨tm 58 [(1,nI i),(3,.pt 8003 0 0),(6,uU 0),(7,bL Lc),(13,Z2 l),(14,nI l.length),(15,nI n)],[(8003,.box 28 h.cells)],60⟩
section
variable(h:Heap)(i:Int)(l:List Int)(n:Nat)(a:Zw h.W)(hl:l.length<=1048576)(hi:0<=i/\i<h.P.length)(b:h.P.length<=1048576)(hr:∀x∈l,0<=x/\x<=8192)
include a hl hi b hr
theorem Z7u(f:n<l.length)(e:Gw h i (l.getD n M)=Lc):CP (Zm f228 0) (Mh h i l n).st .nrm (Mh h i l (n+1)).st:=by have hx:=hr (l.getD n M) (ZT.2 ⟨n,f,rfl⟩);have hm:=Hv a (l.getD n M);simp only[Gw,bs]at e;let c:=Z6 h (l.getD n M);let d:=h.P.getD i.toNat M;exact sF [] []<|Ftb 16 (Lb ((n:Int)<(l.length:Int)))<|Fek 17 wD l (↑n) n<|Fc 22 (@IJ h (l.getD n M) aa oq)<|Fc 26 (@EZ (c.1) aa)<|Fc 29 (@Z0x h.C)<|Fe 34 Z0.dv h.P i<|FeGq 46 (!(d.K==1&&!decide (Z5 c.1<=Zd h.C))) Z0.dv h.P i<|Ffb 55 (d.K==1&&!decide (Z5 c.1<=Zd h.C)||d.K==2&&c.1.K==0)<|Fx 57 n Fz
theorem Zfp(f:n<l.length)(e:Gw h i (l.getD n M)=O):CP (Zm f228 0) (Mh h i l n).st .ret (Tg.st ⟨tm 58 [(6,uU (l.getD n M)),(7,bL O)],[],60⟩):=by have hx:=hr (l.getD n M) (ZT.2 ⟨n,f,rfl⟩);have hm:=Hv a (l.getD n M);simp only[Gw,bs]at e;let c:=Z6 h (l.getD n M);let d:=h.P.getD i.toNat M;exact sF [] []<|Ftb 16 (Lb ((n:Int)<(l.length:Int)))<|Fek 17 wD l (↑n) n<|Fc 22 (@IJ h (l.getD n M) aa oq)<|Fc 26 (@EZ (c.1) aa)<|Fc 29 (@Z0x h.C)<|Fe 34 Z0.dv h.P i<|FeGq 46 (!(d.K==1&&!decide (Z5 c.1<=Zd h.C))) Z0.dv h.P i<|Ftb 55 (d.K==1&&!decide (Z5 c.1<=Zd h.C)||d.K==2&&c.1.K==0) Fz
omit a hl hi b hr in
theorem Zky:CP (Zm f228 0) (Mh h i l l.length).st (.ext 0) (Tg.st ⟨tm 58 [(6,uU 0),(7,bL Lc)],[],60⟩):=by exact sF [] []<|Ffb 16 (Lb ((l.length:Int)<(l.length:Int))) Fz
end
def Zkx(h:Heap)(i:Int)(l:List Int)(d:Zw h.W)(hl:l.length<=1048576)(hi:0<=i/\i<h.P.length)(c:h.P.length<=1048576)(hr:∀x∈l,0<=x/\x<=8192)(b:l.find? (Gw h i)=Lf) :CP (Zi f228 0) (Tg.st ⟨tm 58 [(1,nI i),(3,.pt 8003 0 0),(6,uU 0),(7,bL Lc),(13,Z2 l),(14,nI l.length),(15,nI 0)],[(8003,.box 28 h.cells)],60⟩) .nrm (Tg.st ⟨tm 58 [(6,uU 0),(7,bL Lc)],[],60⟩):=
 Bo (S:=λn=>(Mh h i l n).st) l.length kr (λn a=>Z7u h i l n d hl hi c hr a (OM b n a)) (Zky h i l)
def Zlw(h:Heap)(i:Int)(l:List Int)(x:Int)(b:Zw h.W)(hl:l.length<=1048576)(hi:0<=i/\i<h.P.length)(a:h.P.length<=1048576)(hr:∀x∈l,0<=x/\x<=8192)(g:l.find? (Gw h i)=Le x) :CP (Zi f228 0) (Tg.st ⟨tm 58 [(1,nI i),(3,.pt 8003 0 0),(6,uU 0),(7,bL Lc),(13,Z2 l),(14,nI l.length),(15,nI 0)],[(8003,.box 28 h.cells)],60⟩) .ret (Tg.st ⟨tm 58 [(6,uU x),(7,bL O)],[],60⟩):=by obtain⟨n,c,d,e,f⟩:=D6 g;subst d;exact EM (S:=λn=>(Mh h i l n).st) n kr (λm j=>Z7u h i l m b hl hi a hr oq (f m j)) (Zfp h i l n b hl hi a hr c e)
def Gf(h:Heap)(i:Int)(l:List Int):Bool:=(l.find? (Gw h i)).isSome
def DI(h:Heap)(i:Int)(l:List Int)(hw:Zw h.W)(hl:l.length<=1048576)(hp:h.P.length<=1048576)(hi:0<=i/\i<h.P.length)(hr:∀x∈l,0<=x/\x<=8192):GP 228 [h.av,nI i,Z2 l] O (.tu [uU (Cv h i l),bL (Gf h i l)]) []:=by
 cases hf:l.find? (Gw h i)with
 |none =>
  have a:Cv h i l=0:=by rw[Cv,hf];rfl
  have b:Gf h i l=Lc:=by rw[Gf,hf];rfl
  rw[a,b];exact gF [] func228 []<|Fl 14 wD l<|Fu (@Zkx h i l aa aa aa aa aa aa) Fz
 |some x =>
  have a:Cv h i l=x:=by rw[Cv,hf];rfl
  have b:Gf h i l=O:=by rw[Gf,hf];rfl
  rw[a,b];exact gF [] func228 []<|Fl 14 wD l<|Fu (@Zlw h i l x aa aa aa aa aa aa) Fz
def Zbl(ws:List Int)(a n:Int)(hw:ws.length<=1048576)(h0:4096<=a/\1<=n/\n<=1000/\a-4096+n<=ws.length):GP 117 [Z2 ws,uU a,nI n] O (.tu [.ow 0,nI 0]) [.arr 35 1 (((ws.drop (a-4096).toNat).take n.toNat).map wD)]:=by
 have c:(Zt ws a n).1=a-4096:=by rw[Zt,if_pos oq]
 have b:(Zt ws a n).2=O:=by rw[Zt,if_pos oq];simp;omega
 have d:(ws.drop (a-4096).toNat).take n.toNat≠[]:=Da (by rw[Lr,LA];omega);exact gF [41027] func117 [Lc,O]<|Fh 26 [.els (La wD (Lk (((Zt ws a n).1+n).toNat-(Zt ws a n).1.toNat) (Lj (Zt ws a n).1.toNat ws)))]<|Ffb 11 (Lb (n<0))<|Fc 16 (@P0 ws a n aa oq)<|Ffb 20 (!(Zt ws a n).2)<|Fi 25 ((Zt ws a n).1+n)<|Fa (by(simp only[Lp];omega):0<=(Zt ws a n).1/\(Zt ws a n).1<=(Zt ws a n).1+n/\(Zt ws a n).1+n<=(↑(La wD ws).length:Int))<|Fa (by simp[b,LC,LB,List.map_set,Lu,wD,iD]:Lk (((Zt ws a n).1+n).toNat-(Zt ws a n).1.toNat) (Lj (Zt ws a n).1.toNat (La wD ws))=La wD (Lk (((Zt ws a n).1+n).toNat-(Zt ws a n).1.toNat) (Lj (Zt ws a n).1.toNat ws)))<|Fc 27 (@Z4G (Lk (((Zt ws a n).1+n).toNat-(Zt ws a n).1.toNat) (Lj (Zt ws a n).1.toNat ws)) (by(simp[b, *];omega)) (by(simp[b, *];omega)))<|Fa (H9 _:Cf (La wD (Lk (((Zt ws a n).1+n).toNat-(Zt ws a n).1.toNat) (Lj (Zt ws a n).1.toNat ws))))<|Fr (35:Int)<|Fa (by refine congrArg _ ?_;(simp[b, *];omega):La wD (Lk (((Zt ws a n).1+n).toNat-(Zt ws a n).1.toNat) (Lj (Zt ws a n).1.toNat ws))=La wD (Lk n.toNat (Lj (a-4096).toNat ws))) Fz
def GD(l:List Int):Nat:=(l.takeWhile λx=>x==0).length
def Z0n{l}{m:Nat}(h:m<GD l):m<l.length/\l.getD m M=0:=by obtain⟨a,b⟩:=AN _ _ _ h;refine⟨a, ?_⟩;rw[Lo,Ls a];simpa using b
def Z5I{l:List Int}(h:GD l<l.length):¬ l.getD (GD l) M=0:=by
 have a:=D4 (λx:Int=>x==0) l h;have b:l.getD (GD l) M=l[(l.takeWhile λx=>x==0).length]:=by(rw[Lo,Ls h];rfl)
 rw[b];simpa using a
def Cb(l:List Int):Int:=if GD l<l.length then GD l else -1
def Z72 x:GP 248 [uU x] O (bL (x != 0)) []:=by exact gF [] func248 [] Fz
def DN(l:List Int)(i:Nat):Tg:=⟨tm 19 [(0,Z2 l),(1,.fn 248 []),(4,nI 0),(7,nI l.length),(8,nI i)],[],60⟩
def Z5i(l:List Int)(i:Nat)(hl:l.length<=1048576)(hi:i<l.length)(e:l.getD i M=0):CP (Zm f172 0) (DN l i).st .nrm (DN l (i+1)).st:=by exact sF [] []<|Fh 16 [.call O (bL (l.getD i M != 0)) [],.br Lc]<|Ftb 9 (Lb ((i:Int)<(l.length:Int)))<|Fek 14 wD l (↑i) i<|Fa (@Z72 (l.getD i M))<|Fb ((l.getD i M != 0)=Lc)<|Fx 18 i Fz
def Zbz(l:List Int)(i:Nat)(hl:l.length<=1048576)(hi:i<l.length)(e:¬ l.getD i M=0):CP (Zm f172 0) (DN l i).st .ret (Tg.st ⟨tm 19 [(4,nI i)],[],60⟩):=by exact sF [] []<|Fh 16 [.call O (bL (l.getD i M != 0)) [],.br O]<|Ftb 9 (Lb ((i:Int)<(l.length:Int)))<|Fek 14 wD l (↑i) i<|Fa (@Z72 (l.getD i M))<|Fb ((l.getD i M != 0)=O) Fz
def Zn5 l:CP (Zm f172 0) (DN l l.length).st (.ext 0) (Tg.st ⟨tm 19 [(4,nI 0)],[],60⟩):=by exact sF [] []<|Ffb 9 (Lb ((l.length:Int)<(l.length:Int))) Fz
def Zf3(l:List Int)(hl:l.length<=1048576)(h:¬ GD l<l.length)  := Bo (S:=λj=>(DN l j).st) l.length (by kernel_rfl) (λj a=>Z5i l j hl a (Z0n (by omega)).2) (Zn5 l)
def ZfM(l:List Int)(hl:l.length<=1048576)(h:GD l<l.length)  := EM (S:=λj=>(DN l j).st) (GD l) (by kernel_rfl) (λj a=>Z5i l j hl (by omega) (Z0n a).2) (Zbz l (GD l) hl h (Z5I h))
def Zjt(l:List Int)(hl:l.length<=1048576):GP 172 [Z2 l,.fn 248 []] O (nI (Cb l)) []:=by by_cases h:GD l<l.length;have a:Cb l=GD l:=if_pos h;rw[a];exact gF [] func172 []<|Fl 7 wD l<|Fu (@ZfM l aa aa) Fz;have a:Cb l=-1:=if_neg h;rw[a];exact gF [] func172 []<|Fl 7 wD l<|Fu (@Zf3 l aa aa) Fz
def Gm(c:List Int)(x:Int):Nat:=(min (max x 0) (c.length:Int)).toNat
def RH(c:List Int)(x k:Int):List Int:=c.take (Gm c x)++Lh (Gm c (x+k)-Gm c x) 0++c.drop (Gm c x+(Gm c (x+k)-Gm c x))
def ZM(h:Heap)(F:Int)(l c:List Int):Nat->List Int|0=>c|n+1=>RH (ZM h F l c n) (l.getD n M-F) (GJ h (l.getD n M))
def PZ c(x:Int):Gm c x<=c.length:=by unfold Gm;omega
def Z7t c(x:Int){k:Int}(hk:0<=k):Gm c x<=Gm c (x+k):=by unfold Gm;omega
def Z6V(h:Heap)(a:Int):0<=GJ h a/\GJ h a<=256:=by have:=Ip (Z6 h a).1;unfold GJ;split<;>omega
def ZeQ c x{k:Int}(a:0<=k):(RH c x k).length=c.length:=by have h1:=PZ c x;have h2:=PZ c (x+k);have h3:=Z7t c x a;simp[RH];omega
def TG(h:Heap) F l c:∀n,(ZM h F l c n).length=c.length|0=>rfl|n+1=>by rw[ZM,ZeQ _ _ (Z6V h _).1,TG h F l c n]
def adL(h:Heap)(F:Int)(l c:List Int)(n:Nat):Tg:=⟨tm 90 [(2,.pt 8002 0 0),(4,uU 0),(5,bL Lc),(6,uU F),(8,.ow 25033),(44,Z2 l),(45,nI l.length),(46,nI n)],[(25033,.arr 35 1 ((ZM h F l c n).map wD)),(8002,.box 28 h.cells)],60⟩
def Zlz(h:Heap)(F:Int)(l c:List Int)(n:Nat)(g:Zw h.W)(hF:0<=F/\F<=8192)(hl:l.length<=1048576)(hc:c.length<=64)(hr:∀x∈l,0<=x/\x<=8192)(f:n<l.length):CP (Zm f229 0) (adL h F l c n).st .nrm (adL h F l c (n+1)).st:=by
 have hx:=hr (l.getD n M) (ZT.2 ⟨n,f,rfl⟩);have hm:=Hv g (l.getD n M);have e:=TG h F l c n;have hs:=Ip (Z6 h (l.getD n M)).1;by_cases d:(Z6 h (l.getD n M)).1.K=0;have b:GJ h (l.getD n M)=1:=if_pos d;have a:ZM h F l c (n+1)=RH (ZM h F l c n) (l.getD n M-F) 1:=by rw[ZM,b]
 exact sF [] (fO 8)<|Fh 20000 [.els (La wD (Lk (min (max (l.getD n M-F) 0) (↑(ZM h F l c n).length:Int)).toNat (ZM h F l c n)++Lh ((min (max (l.getD n M-F+1) 0) (↑(ZM h F l c n).length:Int)).toNat-(min (max (l.getD n M-F) 0) (↑(ZM h F l c n).length:Int)).toNat) 0++Lj ((min (max (l.getD n M-F) 0) (↑(ZM h F l c n).length:Int)).toNat+(Lh ((min (max (l.getD n M-F+1) 0) (↑(ZM h F l c n).length:Int)).toNat-(min (max (l.getD n M-F) 0) (↑(ZM h F l c n).length:Int)).toNat) (0:Int)).length) (ZM h F l c n)))]<|Ftb 47 (Lb ((n:Int)<(l.length:Int)))<|Fek 48 wD l (↑n) n<|Fc 53 (@IJ h (l.getD n M) aa oq)<|Ffb 58 ((Z6 h (l.getD n M)).1.K != 0)<|Fi 62 (l.getD n M)<|Fi 64 F<|Fi 65 (l.getD n M-F)<|Fgo 68 (if 0 > l.getD n M-F then 0 else l.getD n M-F) (max (l.getD n M-F) 0)<|Fl 70 wD (ZM h F l c n)<|Fgo 71 (if(↑(ZM h F l c n).length:Int)<max (l.getD n M-F) 0 then(↑(ZM h F l c n).length:Int)else max (l.getD n M-F) 0) (min (max (l.getD n M-F) 0) (↑(ZM h F l c n).length:Int))<|Fi 74 (l.getD n M-F+1)<|Fgo 75 (if 0 > l.getD n M-F+1 then 0 else l.getD n M-F+1) (max (l.getD n M-F+1) 0)<|Fl 77 wD (ZM h F l c n)<|Fgo 78 (if(↑(ZM h F l c n).length:Int)<max (l.getD n M-F+1) 0 then(↑(ZM h F l c n).length:Int)else max (l.getD n M-F+1) 0) (min (max (l.getD n M-F+1) 0) (↑(ZM h F l c n).length:Int))<|Fa (by(simp only[Lp];omega):0<=min (max (l.getD n M-F) 0) (↑(ZM h F l c n).length:Int)/\min (max (l.getD n M-F) 0) (↑(ZM h F l c n).length:Int)<=min (max (l.getD n M-F+1) 0) (↑(ZM h F l c n).length:Int)/\min (max (l.getD n M-F+1) 0) (↑(ZM h F l c n).length:Int)<=(↑(La wD (ZM h F l c n)).length:Int))<|Fa (by simp only[Cg,Lu,LC,LB,LV,Lt];rfl:Cg (La wD (ZM h F l c n)) (min (max (l.getD n M-F) 0) (↑(ZM h F l c n).length:Int)).toNat (Lh ((min (max (l.getD n M-F+1) 0) (↑(ZM h F l c n).length:Int)).toNat-(min (max (l.getD n M-F) 0) (↑(ZM h F l c n).length:Int)).toNat) [ZZ 0])=La wD (Lk (min (max (l.getD n M-F) 0) (↑(ZM h F l c n).length:Int)).toNat (ZM h F l c n)++Lh ((min (max (l.getD n M-F+1) 0) (↑(ZM h F l c n).length:Int)).toNat-(min (max (l.getD n M-F) 0) (↑(ZM h F l c n).length:Int)).toNat) 0++Lj ((min (max (l.getD n M-F) 0) (↑(ZM h F l c n).length:Int)).toNat+(Lh ((min (max (l.getD n M-F+1) 0) (↑(ZM h F l c n).length:Int)).toNat-(min (max (l.getD n M-F) 0) (↑(ZM h F l c n).length:Int)).toNat) (0:Int)).length) (ZM h F l c n)))<|Fx 80 n<|Fr (35:Int)<|Fa (by refine congrArg _ ?_;rw[a];simp only[RH,Gm,Lt]:La wD (Lk (min (max (l.getD n M-F) 0) (↑(ZM h F l c n).length:Int)).toNat (ZM h F l c n)++Lh ((min (max (l.getD n M-F+1) 0) (↑(ZM h F l c n).length:Int)).toNat-(min (max (l.getD n M-F) 0) (↑(ZM h F l c n).length:Int)).toNat) 0++Lj ((min (max (l.getD n M-F) 0) (↑(ZM h F l c n).length:Int)).toNat+(Lh ((min (max (l.getD n M-F+1) 0) (↑(ZM h F l c n).length:Int)).toNat-(min (max (l.getD n M-F) 0) (↑(ZM h F l c n).length:Int)).toNat) (0:Int)).length) (ZM h F l c n))=La wD (ZM h F l c (n+1))) Fz;have b:GJ h (l.getD n M)=Z5 (Z6 h (l.getD n M)).1:=if_neg d;have a:ZM h F l c (n+1)=RH (ZM h F l c n) (l.getD n M-F) (Z5 (Z6 h (l.getD n M)).1):=by rw[ZM,b]
 exact sF [] (fO 8)<|Fh 20000 [.els (La wD (Lk (min (max (l.getD n M-F) 0) (↑(ZM h F l c n).length:Int)).toNat (ZM h F l c n)++Lh ((min (max (l.getD n M-F+Z5 (Z6 h (l.getD n M)).1) 0) (↑(ZM h F l c n).length:Int)).toNat-(min (max (l.getD n M-F) 0) (↑(ZM h F l c n).length:Int)).toNat) 0++Lj ((min (max (l.getD n M-F) 0) (↑(ZM h F l c n).length:Int)).toNat+(Lh ((min (max (l.getD n M-F+Z5 (Z6 h (l.getD n M)).1) 0) (↑(ZM h F l c n).length:Int)).toNat-(min (max (l.getD n M-F) 0) (↑(ZM h F l c n).length:Int)).toNat) (0:Int)).length) (ZM h F l c n)))]<|Ftb 47 (Lb ((n:Int)<(l.length:Int)))<|Fek 48 wD l (↑n) n<|Fc 53 (@IJ h (l.getD n M) aa oq)<|Ftb 58 ((Z6 h (l.getD n M)).1.K != 0)<|Fc 60 (@EZ ((Z6 h (l.getD n M)).1) aa)<|Fi 62 (l.getD n M)<|Fi 64 F<|Fi 65 (l.getD n M-F)<|Fgo 68 (if 0 > l.getD n M-F then 0 else l.getD n M-F) (max (l.getD n M-F) 0)<|Fl 70 wD (ZM h F l c n)<|Fgo 71 (if(↑(ZM h F l c n).length:Int)<max (l.getD n M-F) 0 then(↑(ZM h F l c n).length:Int)else max (l.getD n M-F) 0) (min (max (l.getD n M-F) 0) (↑(ZM h F l c n).length:Int))<|Fi 74 (l.getD n M-F+Z5 (Z6 h (l.getD n M)).1)<|Fgo 75 (if 0 > l.getD n M-F+Z5 (Z6 h (l.getD n M)).1 then 0 else l.getD n M-F+Z5 (Z6 h (l.getD n M)).1) (max (l.getD n M-F+Z5 (Z6 h (l.getD n M)).1) 0)<|Fl 77 wD (ZM h F l c n)<|Fgo 78 (if(↑(ZM h F l c n).length:Int)<max (l.getD n M-F+Z5 (Z6 h (l.getD n M)).1) 0 then(↑(ZM h F l c n).length:Int)else max (l.getD n M-F+Z5 (Z6 h (l.getD n M)).1) 0) (min (max (l.getD n M-F+Z5 (Z6 h (l.getD n M)).1) 0) (↑(ZM h F l c n).length:Int))<|Fa (by(simp only[Lp];omega):0<=min (max (l.getD n M-F) 0) (↑(ZM h F l c n).length:Int)/\min (max (l.getD n M-F) 0) (↑(ZM h F l c n).length:Int)<=min (max (l.getD n M-F+Z5 (Z6 h (l.getD n M)).1) 0) (↑(ZM h F l c n).length:Int)/\min (max (l.getD n M-F+Z5 (Z6 h (l.getD n M)).1) 0) (↑(ZM h F l c n).length:Int)<=(↑(La wD (ZM h F l c n)).length:Int))<|Fa (by simp only[Cg,Lu,LC,LB,LV,Lt];rfl:Cg (La wD (ZM h F l c n)) (min (max (l.getD n M-F) 0) (↑(ZM h F l c n).length:Int)).toNat (Lh ((min (max (l.getD n M-F+Z5 (Z6 h (l.getD n M)).1) 0) (↑(ZM h F l c n).length:Int)).toNat-(min (max (l.getD n M-F) 0) (↑(ZM h F l c n).length:Int)).toNat) [ZZ 0])=La wD (Lk (min (max (l.getD n M-F) 0) (↑(ZM h F l c n).length:Int)).toNat (ZM h F l c n)++Lh ((min (max (l.getD n M-F+Z5 (Z6 h (l.getD n M)).1) 0) (↑(ZM h F l c n).length:Int)).toNat-(min (max (l.getD n M-F) 0) (↑(ZM h F l c n).length:Int)).toNat) 0++Lj ((min (max (l.getD n M-F) 0) (↑(ZM h F l c n).length:Int)).toNat+(Lh ((min (max (l.getD n M-F+Z5 (Z6 h (l.getD n M)).1) 0) (↑(ZM h F l c n).length:Int)).toNat-(min (max (l.getD n M-F) 0) (↑(ZM h F l c n).length:Int)).toNat) (0:Int)).length) (ZM h F l c n)))<|Fx 80 n<|Fr (35:Int)<|Fa (by refine congrArg _ ?_;rw[a];simp only[RH,Gm,Lt]:La wD (Lk (min (max (l.getD n M-F) 0) (↑(ZM h F l c n).length:Int)).toNat (ZM h F l c n)++Lh ((min (max (l.getD n M-F+Z5 (Z6 h (l.getD n M)).1) 0) (↑(ZM h F l c n).length:Int)).toNat-(min (max (l.getD n M-F) 0) (↑(ZM h F l c n).length:Int)).toNat) 0++Lj ((min (max (l.getD n M-F) 0) (↑(ZM h F l c n).length:Int)).toNat+(Lh ((min (max (l.getD n M-F+Z5 (Z6 h (l.getD n M)).1) 0) (↑(ZM h F l c n).length:Int)).toNat-(min (max (l.getD n M-F) 0) (↑(ZM h F l c n).length:Int)).toNat) (0:Int)).length) (ZM h F l c n))=La wD (ZM h F l c (n+1))) Fz
def ZdP(h:Heap) F l c:CP (Zm f229 0) (adL h F l c l.length).st (.ext 0) (Tg.st ⟨tm 90 [(4,uU 0),(5,bL Lc),(6,uU F),(8,.ow 25033)],[(25033,.arr 35 1 ((ZM h F l c l.length).map wD))],60⟩):=by exact sF [] []<|Ffb 47 (Lb ((l.length:Int)<(l.length:Int))) Fz
def Zjj(h:Heap)(F:Int)(l c:List Int)(e:Zw h.W)(a:0<=F/\F<=8192)(hl:l.length<=1048576)(b:c.length<=64)(hr:∀x∈l,0<=x/\x<=8192):CP (Zi f229 0) (Tg.st ⟨tm 90 [(2,.pt 8002 0 0),(4,uU 0),(5,bL Lc),(6,uU F),(8,.ow 25033),(44,Z2 l),(45,nI l.length),(46,nI 0)],[(25033,.arr 35 1 (c.map wD)),(8002,.box 28 h.cells)],60⟩) .nrm (Tg.st ⟨tm 90 [(4,uU 0),(5,bL Lc),(6,uU F),(8,.ow 25033)],[(25033,.arr 35 1 ((ZM h F l c l.length).map wD))],60⟩):=
 Bo (S:=λn=>(adL h F l c n).st) l.length kr (λn d=>Zlz h F l c n e a hl b hr d) (ZdP h F l c)
def RI(h:Heap)(i:Nat):List Int:=(h.W.drop ((address h.C i 0).1-4096).toNat).take h.C.pw.toNat
def BY(h:Heap)(i:Nat):List Int:=ZM h (address h.C i 0).1 (Ze h (B4 h.P i:Nat)).1 (RI h i) (Ze h (B4 h.P i:Nat)).1.length
def Z0z(h:Heap)(i:Nat)(hw:Zw h.W)(d:Z9 h=O)(hi:i<h.P.length):GP 229 [h.av,nI i] O (.tu [uU ((address h.C i 0).1+max (Cb (BY h i)) 0),bL (Lb (0<=Cb (BY h i)))]) []:=by
 have e:=B5 d;have ea:(address h.C i 0).1=4096+i*h.C.pw:=by(unfold address;rw[if_pos e.1,if_pos (Il.2 oq)];simp only;omega)
 have ap:=Ih e.1 (i:=i) oq oq;have hh:=Z2v h.P i;have hx:(i:Int)*h.C.pw+h.C.pw<=h.W.length:=by
  have h1:((i:Int)+1)*h.C.pw<=h.C.pg*h.C.pw:=LM oq oq;have h2:((i:Int)+1)*h.C.pw=i*h.C.pw+h.C.pw:=by rw[LI,LN]
  have h3:h.C.pg*h.C.pw=h.C.pw*h.C.pg:=LL _ _;omega
 have hr:=AU d (B4 h.P i:Nat);have hn:=Re h (B4 h.P i:Nat);have c:(BY h i).length<=64:=by(rw[BY,TG,RI,Lr];omega)
 have f:Cb (BY h i)<=64/\-1<=Cb (BY h i):=by(have:GD (BY h i)<=(BY h i).length:=(List.takeWhile_sublist _).length_le;unfold Cb;split<;>omega)
 have g:(RI h i).length<=64:=by rw[RI,Lr];omega
 unfold BY RI at *;let b:=address h.C (i:Int) 0;let a:=ZM h b.1 (Ze h (↑(B4 h.P i):Int)).1 (Lk h.C.pw.toNat (Lj (b.1-4096).toNat h.W)) (Ze h (↑(B4 h.P i):Int)).1.length;exact gF [] func229 []<|Fc 23 (@TH h.C ((i:Int)) (0))<|Fc 33 (@Zbl h.W (b.1) h.C.pw oq oq)<|Fc 40 (@Zif h i aa aa)<|Fc 41 (@NR h ((↑(B4 h.P i):Int)) aa oq)<|Fl 45 wD (Ze h (↑(B4 h.P i):Int)).1<|Fu (@Zjj h (b.1) ((Ze h (↑(B4 h.P i):Int)).1) (Lk h.C.pw.toNat (Lj (b.1-4096).toNat h.W)) aa oq oq aa aa)<|Fc 82 (@Zjt a oq)<|Fgo 85 (if 0 > Cb a then 0 else Cb a) (max (Cb a) 0)<|Fv 86 (max (Cb a) 0)<|Fv 87 (b.1+max (Cb a) 0) Fz
def unS(fn:Func):Func:=match fn.body with|some (.seq x (.scope c)) => {fn with body:=Le (.seq x c)}|_=>fn
def Z5P(fn:Func):Code:=match fn.body with|some (.seq x _)=>x|_=>.skip
def Z8C(fn:Func):Code:=match fn.body with|some (.seq _ c)=>c|_=>.skip
def Zcw{P c}{n m:Nat}{s t}(f:m≠n)(h:CSpec P c s (.ext m) t):CSpec P (.block n c) s (.ext m) t:=by intro g b j a w i;refine wp_block (wp_mono (h g b j a w i) ?_);rintro e a' w' ⟨rfl,d⟩;show(if m=n then _ else _);rw[if_neg f];exact⟨rfl,d⟩
def ZgP{P fn}{b m:Nat}{S:Nat->St}{t}(n:Nat)(a:RN b (Zi fn b)=O)(c:m≠b)(h:∀i,i<n->CSpec P (Zm fn b) (S i) .nrm (S (i+1)))(d:CSpec P (Zm fn b) (S n) (.ext m) t):CSpec P (Zi fn b) (S 0) (.ext m) t:=by rw[O4 a];exact Zcw c (Z3r (Z1I n h (λh=>nomatch h) d))
def fdV(h:Heap)(a k:Int):Int:=(Z1 h.W (a+1+k)).1
def Ro(h:Heap)(all:List Int)(a k:Int):Bool:=(fdV h a k != 0)&&!decide (fdV h a k∈all)
def ZfZ{h all}{a k:Int}:Ro h all a k=O↔¬ fdV h a k=0/\¬ fdV h a k∈all:=by simp[Ro]
def Zm0{h all}{a k:Int}:Ro h all a k=Lc↔fdV h a k=0\/fdV h a k∈all:=by by_cases b:fdV h a k=0<;>by_cases c:fdV h a k∈all<;>simp[Ro,b,c]
def yJ(a:Int)(P:List Int):Nat->Int|0=>0|j+1=>a+1+P.getD j M
def apI(h:Heap)(all:List Int)(i:Nat)(a:Int)(P:List Int)(j:Nat):Tg:=⟨tm 83 [(1,.pt 8001 0 0),(2,.pt 8002 0 0),(3,Z2 all),(5,uU (yJ a P j)),(7,uU a),(24,Z2 all),(25,nI all.length),(26,nI i),(37,ZD P),(38,nI P.length),(39,nI j)],[(8002,.box 223 [nI 0,nI 0,uU 0]),(8001,.box 28 h.cells)],64⟩
section
variable(h:Heap)(all:List Int)(i:Nat)(a:Int)(P:List Int)(j:Nat)(hw:Zw h.W)(b:h.W.length<=1048576)(hl:all.length<=1048576)(hs:all.Pairwise (· < ·))(ha:0<=a/\a<=8192)(hP:P.length<=256)(hk:0<=P.getD j M/\P.getD j M<=256)(hj:j<P.length)
include hw b hl hs ha hP hk hj
theorem Zb7(d:Ro h all a (P.getD j M)=Lc):CP (Zm (unS f207) 2) (apI h all i a P j).st .nrm (apI h all i a P (j+1)).st:=by have e:yJ a P (j+1)=a+1+P.getD j M:=rfl;have c:=Zm0.1 d;unfold fdV at c;clear d;generalize f:yJ a P (j+1)=y1 at e;unfold apI;rw[f];rcases c with d|d;exact sF [] (fO 5)<|Ftb 40 (Lb ((j:Int)<(P.length:Int)))<|Fek 41 iD P (↑j) j<|Fv 44 (a+1)<|Fv 46 (P.getD j M)<|Fv 47 (a+1+P.getD j M)<|Fc 52 (@Ml h.W (a+1+P.getD j M) aa oq)<|Fc 58 (@bsearch all ((Z1 h.W (a+1+P.getD j M)).1) aa aa)<|Ffb 66 ((Z1 h.W (a+1+P.getD j M)).1 != 0&&!decide ((Z1 h.W (a+1+P.getD j M)).1∈all))<|Fx 67 j<|Fa ‹a+1+P.getD j M=y1› Fz;exact sF [] (fO 5)<|Ftb 40 (Lb ((j:Int)<(P.length:Int)))<|Fek 41 iD P (↑j) j<|Fv 44 (a+1)<|Fv 46 (P.getD j M)<|Fv 47 (a+1+P.getD j M)<|Fc 52 (@Ml h.W (a+1+P.getD j M) aa oq)<|Fc 58 (@bsearch all ((Z1 h.W (a+1+P.getD j M)).1) aa aa)<|Ffs 66 ((Z1 h.W (a+1+P.getD j M)).1 != 0&&!decide ((Z1 h.W (a+1+P.getD j M)).1∈all))<|Fx 67 j<|Fa ‹a+1+P.getD j M=y1› Fz
theorem ZfV(e:Ro h all a (P.getD j M)=O):CP (Zm (unS f207) 2) (apI h all i a P j).st (.ext 0) (Tg.st ⟨tm 83 [(1,.pt 8001 0 0),(2,.pt 8002 0 0),(5,uU (a+1+P.getD j M))],[(8002,.box 223 [nI 0,nI 0,uU 0]),(8001,.box 28 h.cells)],68⟩):=by obtain⟨c,d⟩:=ZfZ.1 e;unfold fdV at c d;clear e;exact sF [] []<|Ftb 40 (Lb ((j:Int)<(P.length:Int)))<|Fek 41 iD P (↑j) j<|Fv 44 (a+1)<|Fv 46 (P.getD j M)<|Fv 47 (a+1+P.getD j M)<|Fc 52 (@Ml h.W (a+1+P.getD j M) aa oq)<|Fc 58 (@bsearch all ((Z1 h.W (a+1+P.getD j M)).1) aa aa)<|Fts 66 ((Z1 h.W (a+1+P.getD j M)).1 != 0&&!decide ((Z1 h.W (a+1+P.getD j M)).1∈all)) Fz
end
def ZcC(h:Heap) all i a P:CP (Zm (unS f207) 2) (apI h all i a P P.length).st (.ext 2) (Tg.st ⟨tm 83 [(1,.pt 8001 0 0),(2,.pt 8002 0 0),(3,Z2 all),(24,Z2 all),(25,nI all.length),(26,nI i)],[(8002,.box 223 [nI 0,nI 0,uU 0]),(8001,.box 28 h.cells)],68⟩):=by exact sF [] []<|Ffb 40 (Lb ((P.length:Int)<(P.length:Int))) Fz
def Zd6(h:Heap)(all:List Int)(i:Nat)(a:Int)(P:List Int)(l:Zw h.W)(c:h.W.length<=1048576)(hl:all.length<=1048576)(hs:all.Pairwise (· < ·))(e:0<=a/\a<=8192)(d:P.length<=256)(g:∀k∈P,0<=k/\k<=256)(f:P.find? (Ro h all a)=Lf) :CP (Zi (unS f207) 2) (Tg.st ⟨tm 83 [(1,.pt 8001 0 0),(2,.pt 8002 0 0),(3,Z2 all),(5,uU 0),(7,uU a),(24,Z2 all),(25,nI all.length),(26,nI i),(37,ZD P),(38,nI P.length),(39,nI 0)],[(8002,.box 223 [nI 0,nI 0,uU 0]),(8001,.box 28 h.cells)],64⟩) .nrm (Tg.st ⟨tm 83 [(1,.pt 8001 0 0),(2,.pt 8002 0 0),(3,Z2 all),(24,Z2 all),(25,nI all.length),(26,nI i)],[(8002,.box 223 [nI 0,nI 0,uU 0]),(8001,.box 28 h.cells)],68⟩):=
 Bo (S:=λj=>(apI h all i a P j).st) P.length kr (λj b=>Zb7 h all i a P j l c hl hs e d (g _ (ZT.2 ⟨j,b,rfl⟩)) b (OM f j b)) (ZcC h all i a P)
def Zh0(h:Heap)(all:List Int)(i:Nat)(a:Int)(P:List Int)(x:Int)(g:Zw h.W)(b:h.W.length<=1048576)(hl:all.length<=1048576)(hs:all.Pairwise (· < ·))(e:0<=a/\a<=8192)(d:P.length<=256)(f:∀k∈P,0<=k/\k<=256)(p:P.find? (Ro h all a)=Le x) :CP (Zi (unS f207) 2) (Tg.st ⟨tm 83 [(1,.pt 8001 0 0),(2,.pt 8002 0 0),(3,Z2 all),(5,uU 0),(7,uU a),(24,Z2 all),(25,nI all.length),(26,nI i),(37,ZD P),(38,nI P.length),(39,nI 0)],[(8002,.box 223 [nI 0,nI 0,uU 0]),(8001,.box 28 h.cells)],64⟩) (.ext 0) (Tg.st ⟨tm 83 [(1,.pt 8001 0 0),(2,.pt 8002 0 0),(5,uU (a+1+x))],[(8002,.box 223 [nI 0,nI 0,uU 0]),(8001,.box 28 h.cells)],68⟩):=by
 obtain⟨n,c,l,m,o⟩:=D6 p;subst l;exact ZgP (S:=λj=>(apI h all i a P j).st) n kr dd (λj q=>Zb7 h all i a P j g b hl hs e d (f _ (ZT.2 ⟨j,by omega,rfl⟩)) oq (o j q)) (ZfV h all i a P n g b hl hs e d (f _ (ZT.2 ⟨n,c,rfl⟩)) c m)
def apF(h:Heap)(all:List Int)(a:Int):Option Int:=(Zj (Z6 h a).1).find? (Ro h all a)
def apL(h:Heap)(all:List Int)(i:Nat):Tg:=⟨tm 83 [(1,.pt 8001 0 0),(2,.pt 8002 0 0),(3,Z2 all),(5,uU 0),(24,Z2 all),(25,nI all.length),(26,nI i)],[(8002,.box 223 [nI 0,nI 0,uU 0]),(8001,.box 28 h.cells)],60⟩
def Z3g(h:Zy):∀n:Nat,∀k∈BK h n,0<=k/\k<n
 |0,k,hk=>by simp[BK]at hk
 |n+1,k,hk=>by
  unfold BK at hk;split at hk
  .rcases List.mem_append.1 hk with hk|hk
   .have:=Z3g h n k hk;omega
   .simp only[List.mem_cons,List.not_mem_nil,or_false]at hk;omega
  .have:=Z3g h n k hk;omega
def Z4v(h:Zy):(Zj h).length<=256/\∀k∈Zj h,0<=k/\k<=256:=by
 rw[<-Z7S];have hs:=Ip h;have h1:=Ps h (Z5 h).toNat
 exact⟨by omega,λk a=>by have:=Z3g h _ k a;omega⟩
section
variable(h:Heap)(all:List Int)(i:Nat)(a:Zw h.W)(b:h.W.length<=1048576)(hl:all.length<=1048576)(hs:all.Pairwise (· < ·))(hr:∀x∈all,0<=x/\x<=8192)(hi:i<all.length)
include a b hl hs hr hi
theorem Z9M(f:apF h all (all.getD i M)=Lf):CP (Zm (unS f207) 0) (apL h all i).st .nrm (apL h all (i+1)).st:=by have hx:=hr (all.getD i M) (ZT.2 ⟨i,hi,rfl⟩);have hm:=Hv a (all.getD i M);have e:=Z4v (Z6 h (all.getD i M)).1;have g:=e.1;have j:=e.2;unfold apF at f;let c:=all.getD i M;let d:=Zj (Z6 h c).1;exact sF [] []<|Fk (2,Tg.mk (tm 83 [(1,AV.pt 8001 0 0),(2,AV.pt 8002 0 0),(3,Z2 all),(5,uU 0),(7,uU c),(24,Z2 all),(25,nI ↑all.length),(26,nI ↑i),(37,ZD d),(38,nI (d.length:Int)),(39,nI 0)]) [(8002,Z3.box 223 [nI 0,nI 0,uU 0]),(8001,Z3.box 28 h.cells)] 64,Ex.nrm,Tg.mk (tm 83 [(1,AV.pt 8001 0 0),(2,AV.pt 8002 0 0),(3,Z2 all),(24,Z2 all),(25,nI ↑all.length),(26,nI ↑i)]) [(8002,Z3.box 223 [nI 0,nI 0,uU 0]),(8001,Z3.box 28 h.cells)] 68)<|Ftb 27 (Lb ((i:Int)<(all.length:Int)))<|Fek 28 wD all (↑i) i<|Fc 33 (@IJ h c aa oq)<|Fc 37 (@Pb ((Z6 h c).1) aa)<|Fl 38 iD d<|Fa (@Zd6 h all i c d aa aa aa aa aa aa aa aa)<|Fx 68 i Fz
theorem ZmL x(f:apF h all (all.getD i M)=Le x):CP (Zm (unS f207) 0) (apL h all i).st (.ext 0) (Tg.st ⟨tm 83 [(1,.pt 8001 0 0),(2,.pt 8002 0 0),(5,uU (all.getD i M+1+x))],[(8002,.box 223 [nI 0,nI 0,uU 0]),(8001,.box 28 h.cells)],72⟩):=by have hx:=hr (all.getD i M) (ZT.2 ⟨i,hi,rfl⟩);have hm:=Hv a (all.getD i M);have e:=Z4v (Z6 h (all.getD i M)).1;have g:=e.1;have j:=e.2;unfold apF at f;let c:=all.getD i M;let d:=Zj (Z6 h c).1;exact sF [] []<|Fk (2,Tg.mk (tm 83 [(1,AV.pt 8001 0 0),(2,AV.pt 8002 0 0),(3,Z2 all),(5,uU 0),(7,uU c),(24,Z2 all),(25,nI ↑all.length),(26,nI ↑i),(37,ZD d),(38,nI (d.length:Int)),(39,nI 0)]) [(8002,Z3.box 223 [nI 0,nI 0,uU 0]),(8001,Z3.box 28 h.cells)] 64,Ex.ext 0,Tg.mk (tm 83 [(1,AV.pt 8001 0 0),(2,AV.pt 8002 0 0),(5,uU (all.getD i M+1+x))]) [(8002,Z3.box 223 [nI 0,nI 0,uU 0]),(8001,Z3.box 28 h.cells)] 68)<|Ftb 27 (Lb ((i:Int)<(all.length:Int)))<|Fek 28 wD all (↑i) i<|Fc 33 (@IJ h c aa oq)<|Fc 37 (@Pb ((Z6 h c).1) aa)<|Fl 38 iD d<|Fa (@Zh0 h all i c d x aa aa aa aa aa aa aa aa) Fz
end
def Zik(h:Heap) all:CP (Zm (unS f207) 0) (apL h all all.length).st (.ext 0) (Tg.st ⟨tm 83 [(1,.pt 8001 0 0),(2,.pt 8002 0 0),(5,uU 0)],[(8002,.box 223 [nI 0,nI 0,uU 0]),(8001,.box 28 h.cells)],72⟩):=by exact sF [] []<|Ffb 27 (Lb ((all.length:Int)<(all.length:Int))) Fz
def Zc8(h:Heap)(all:List Int)(e:Zw h.W)(b:h.W.length<=1048576)(hl:all.length<=1048576)(hs:all.Pairwise (· < ·))(hr:∀x∈all,0<=x/\x<=8192)(d:all.find? (λa=>(apF h all a).isSome)=Lf)  := Bo (S:=λi=>(apL h all i).st) all.length (by kernel_rfl) (λi c=>Z9M h all i e b hl hs hr c (by simpa using OM d i c)) (Zik h all)
def ZmH(h:Heap)(all:List Int)(a x:Int)(c:Zw h.W)(b:h.W.length<=1048576)(hl:all.length<=1048576)(hs:all.Pairwise (· < ·))(hr:∀x∈all,0<=x/\x<=8192)(g:all.find? (λa=>(apF h all a).isSome)=Le a)(k:apF h all a=Le x):CP (Zi (unS f207) 0) (Tg.st ⟨tm 83 [(1,.pt 8001 0 0),(2,.pt 8002 0 0),(3,Z2 all),(5,uU 0),(24,Z2 all),(25,nI all.length),(26,nI 0)],[(8002,.box 223 [nI 0,nI 0,uU 0]),(8001,.box 28 h.cells)],60⟩) .nrm (Tg.st ⟨tm 83 [(1,.pt 8001 0 0),(2,.pt 8002 0 0),(5,uU (a+1+x))],[(8002,.box 223 [nI 0,nI 0,uU 0]),(8001,.box 28 h.cells)],72⟩):=by obtain⟨n,d,e,h3,f⟩:=D6 g;subst e;exact Bo (S:=λi=>(apL h all i).st) n kr (λi j=>Z9M h all i c b hl hs hr oq (by simpa using f i j)) (ZmL h all n c b hl hs hr d x k)
def Zns(h:Heap):CP (Z5P (unS f207)) (Tg.st ⟨tm 83 [(0,h.av)],[],1⟩) .nrm (Tg.st ⟨tm 83 [(1,.pt 8001 0 0),(2,.pt 8002 0 0)],[(8002,.box 223 [nI 0,nI 0,uU 0]),(8001,.box 28 h.cells)],20⟩):=by exact sF [] [] Fz
def SA(h:Heap):Int:=match (Zb h).1.find? (λa=>(apF h (Zb h).1 a).isSome)with|some a=>a+1+(apF h (Zb h).1 a).getD 0|none=>0
def CU(h:Heap):Ck:=if SA h=0 then⟨0,0,0⟩else⟨6,(Z4 h.C (SA h)).1,SA h⟩
def ZeB(h:Heap)(hw:Zw h.W)(i:h.W.length<=1048576):CP (Z8C (unS f207)) (Tg.st ⟨tm 83 [(1,.pt 8001 0 0),(2,.pt 8002 0 0)],[(8002,.box 223 [nI 0,nI 0,uU 0]),(8001,.box 28 h.cells)],20⟩) .ret (Tg.st ⟨tm 83 [(2,.pt 8002 0 0)],[(8002,.box 223 [nI (CU h).fault,nI (CU h).page,uU (CU h).addr])],90⟩):=by
 have hl:=H3 h;have hs:=SY h;have hr:=IG h;cases hf:(Zb h).1.find? (λa=>(apF h (Zb h).1 a).isSome)with
 |none =>
  have b:SA h=0:=by simp only[SA,hf]
  have c:CU h=⟨0,0,0⟩:=if_pos b;rw[c];exact sF [] []<|Fk (0,Tg.mk (tm 83 [(1,AV.pt 8001 0 0),(2,AV.pt 8002 0 0),(3,Z2 (Zb h).1),(5,uU 0),(24,Z2 (Zb h).1),(25,nI (↑(Zb h).1.length:Int)),(26,nI 0)]) [(8002,Z3.box 223 [nI 0,nI 0,uU 0]),(8001,Z3.box 28 h.cells)] 60,Ex.nrm,Tg.mk (tm 83 [(1,AV.pt 8001 0 0),(2,AV.pt 8002 0 0),(5,uU 0)]) [(8002,Z3.box 223 [nI 0,nI 0,uU 0]),(8001,Z3.box 28 h.cells)] 72)<|Fc 21 (@SC h aa)<|Fl 25 wD (Zb h).1<|Fa (@Zc8 h ((Zb h).1) aa aa oq aa aa aa) Fz
 |some a =>
  obtain⟨n,e,f,g,h4⟩:=D6 hf;obtain⟨x,d⟩:=L2.1 g;have ha:=hr a (ZT.2 ⟨n,e,f⟩);have j:=(Z4v (Z6 h a).1).2 x (LY d);have b:SA h=a+1+x:=by simp only[SA,hf,d,LD]
  have c:CU h=⟨6,(Z4 h.C (a+1+x)).1,a+1+x⟩:=by rw[CU,b,if_neg oq]
  rw[c];exact sF [] []<|Fk (0,Tg.mk (tm 83 [(1,AV.pt 8001 0 0),(2,AV.pt 8002 0 0),(3,Z2 (Zb h).1),(5,uU 0),(24,Z2 (Zb h).1),(25,nI (↑(Zb h).1.length:Int)),(26,nI 0)]) [(8002,Z3.box 223 [nI 0,nI 0,uU 0]),(8001,Z3.box 28 h.cells)] 60,Ex.nrm,Tg.mk (tm 83 [(1,AV.pt 8001 0 0),(2,AV.pt 8002 0 0),(5,uU (a+1+x))]) [(8002,Z3.box 223 [nI 0,nI 0,uU 0]),(8001,Z3.box 28 h.cells)] 72)<|Fc 21 (@SC h aa)<|Fl 25 wD (Zb h).1<|Fa (@ZmH h ((Zb h).1) a x aa aa oq aa aa aa aa)<|Ffb 70 (a+1+x==0)<|Fc 76 (@GA h.C (a+1+x) oq oq) Fz
end Go.Proofs.YtgedmeaemofdkaaGreat
namespace Go.Proofs.YtgedmeaemofdkaaGreat
open Go.Sx Go.RowKit
def Ck.val(f:Ck):Value:=.agg #[.int .i64 f.fault,.int .i64 f.page,.int .u64 f.addr]
def ZmW ρ w Im(f:Ck):Zk ρ w Im f.av f.val:=by refine .ag _ _ rfl (λi v h=>?_) (λi a v b c=>?_);rcases i with _|_|_|i<;>simp at h<;>subst h<;>rfl;rcases i with _|_|_|i<;>simp at b c<;>subst b<;>subst c<;>exact .d (.sc _ rfl)
def Zd2{ρ w Im}{f:Ck}{v}(h:Zk ρ w Im f.av v):v=f.val:=by obtain⟨b,c,d,h3,e⟩:=HI h;rw[c];have g:∀(k:Nat) (a:k<b.size) (v:Value),[nI f.fault,nI f.page,uU f.addr][k]?=Le (.d (.sc v))->b[k]=v:=λk a v j=>C7 (e k _ b[k] j (Array.getElem?_eq_getElem a));have i:b.size=3:=d;simp only[Ck.val];congr 1;apply Array.ext;simp[i];intro k a _;rcases k with _|_|_|k;exact g 0 a _ rfl;exact g 1 a _ rfl;exact g 2 a _ rfl;omega
def noGoto_ret{Q:Exit->Act->World->Prop}{a w}(h:Q .ret a w):Exit.noGoto Q Ex.ret.exit a w:=h
def Z36(h:Heap)(hw:Zw h.W)(p:h.W.length<=1048576):GP 207 [h.av] O (CU h).av []:=by
 intro f t r j d a;have c:r.size=1:=d;have b:Tryz.f207.body=Le (.seq (Z5P (unS f207)) (.scope (Z8C (unS f207)))):=by kernel_rfl
 refine calls_of_wp func207 b ?_;have w:Sx.Sys Gp t f (tm 83 [(0,h.av)]) (C2 []) 1 {tmps:=r++Lw (Tryz.f207.ntmps-r.size) undef,defers:=[]} f:=by(refine⟨_,t,Sx.Inv.empty j (Lv 1),⟨by rw[c];simp[c];kernel_rfl,λk y v g m=>?_,rfl⟩⟩;rw[show tm 83 [(0,h.av)]=[h.av]++Lh 82 .any from by kernel_rfl,LR]at g;rw[LF]at m;split at g;rename_i z;rw[if_pos (by rw[d];exact z)]at m;exact a k y v g m;have:=LZ g;rw[(L0.1 this).2];exact .any _)
 refine wp_seq (wp_mono (Zns h _ _ _ _ _ w) ?_);rintro e a1 w1 ⟨rfl,x⟩;refine wp_scope_straight (wp_mono (ZeB h hw p _ _ _ _ _ x) ?_);rintro e a2 w2 ⟨rfl,ρ2,i,s,u⟩;obtain⟨v,n,o⟩:=Z2t (P:=prog) (fn:=f207) (l:=[(CU h).av]) s u kr;refine noGoto_ret (bodyPost_ret n u.defers ⟨v,rfl,s.kept.no,λ_=>Lf,λ_=>False,λ_ q=>q.elim,λ_ q=>q.elim,λ_ _ _ q=>(by cases q),λ_ _ _ _ _ q=>(by cases q),λ_ _ q=>(by cases q),λk B q=>by simp at q, ?_⟩);rw[Zd2 (show Zk ρ2 w2 i (CU h).av v from o)];exact ZmW _ _ _ _
end Go.Proofs.YtgedmeaemofdkaaGreat
namespace Go.Proofs.YtgedmeaemofdkaaGreat
open Go.Sx
def Zdo{c:List Int}{x k:Int}(f:0<=k){o:Nat}(ho:o<c.length):(RH c x k).getD o 0=if x<=o/\(o:Int)<x+k then 0 else c.getD o 0:=by
 have h1:Gm c x<=c.length:=PZ c x;have h2:Gm c (x+k)<=c.length:=PZ c (x+k);have h3:=Z7t c x f;have e:Gm c x+(Gm c (x+k)-Gm c x)=Gm c (x+k):=by omega
 have a1:o<Gm c x↔(o:Int)<x:=by unfold Gm;omega
 have a:o<Gm c (x+k)↔(o:Int)<x+k:=by unfold Gm;omega
 unfold RH;rw[e];simp only[Lo];by_cases b:o<Gm c x;rw[List.append_assoc,LS qo,Lz,if_pos b,if_neg (by have:=a1.1 b;omega)];by_cases d:o<Gm c (x+k);rw[LS qo,LU qo,if_pos (by have:=a.1 d;omega)];rw[List.getElem?_replicate,if_pos qo];rfl;rw[LU qo,Ly,if_neg (λq=>d (a.2 q.2))];congr 2;simp;omega
def ZaC{h F}{l c:List Int}{o:Nat}(e:o<c.length):∀n:Nat,n<=l.length->(ZM h F l c n).getD o 0=if(l.take n).any (λa=>Lb (a-F<=o)&&Lb ((o:Int)<a-F+GJ h a))=O then 0 else c.getD o 0
 |0,_=>by simp[ZM]
 |n+1,hn=>by
  have hl:=TG h F l c n;rw[ZM,Zdo (Z6V h _).1 oq,ZaC e n oq,RX oq,List.any_append];generalize l.getD n M=a;generalize (l.take n).any _=b;by_cases d:a-F<=o/\(o:Int)<a-F+GJ h a
  .rw[if_pos d,if_pos (by simp[d])]
  .rw[if_neg d];have:([a].any λa=>Lb (a-F<=(o:Int))&&Lb ((o:Int)<a-F+GJ h a))=Lc:=by
    simp only[List.any_cons,List.any_nil,LH,Bool.and_eq_false_iff,decide_eq_false_iff_not];omega
   rw[this,LH]
def O8{h:Heap}(a:Z9 h=O){i:Nat}(hi:i<h.P.length){o:Int}(ho:0<=o/\o<h.C.pw):(address h.C i o).1=4096+(i*h.C.pw+o):=by have b:=B5 a;unfold address;rw[if_pos b.1,if_pos (Il.2 oq)]
def Z2e{h:Heap}(a:Z9 h=O){i:Nat}(hi:i<h.P.length):0<=(i:Int)*h.C.pw/\(i:Int)*h.C.pw+h.C.pw<=h.W.length:=by
 have po:=B5 a;have h1:((i:Int)+1)*h.C.pw<=h.C.pg*h.C.pw:=LM oq oq;have h2:((i:Int)+1)*h.C.pw=i*h.C.pw+h.C.pw:=by rw[LI,LN]
 have h3:h.C.pg*h.C.pw=h.C.pw*h.C.pg:=LL _ _;have h4:(0:Int)<=i*h.C.pw:=Int.mul_nonneg oq oq;omega
def Zg6{h:Heap}(a:Z9 h=O){i:Nat}(hi:i<h.P.length):(RI h i).length=h.C.pw.toNat/\∀o:Nat,o<h.C.pw.toNat->(RI h i).getD o 0=GF h i o:=by have po:=B5 a;have pi:=Z2e a hi;have b:=O8 a hi (o:=0) oq;constructor;simp only[RI,Lr,LA];omega;intro o d;have c:=O8 a hi (o:=o) oq;unfold GF Z1;rw[c];rw[if_pos oq];simp only[RI,Lo,Lz,Ly,if_pos d];rw[b,show(4096+((i:Int)*h.C.pw+0)-4096).toNat+o=(4096+((i:Int)*h.C.pw+(o:Int))-4096).toNat from by omega]
def Z2a{h:Heap}(b:Z9 h=O){i:Nat}(hi:i<h.P.length):(BY h i).length=h.C.pw.toNat/\∀o:Nat,o<h.C.pw.toNat->(BY h i).getD o 0=if(CW h i).getD o M=O then 0 else GF h i o:=by
 have po:=B5 b;obtain⟨r1,r2⟩:=Zg6 b hi;constructor;rw[BY,TG,r1];intro o c;rw[BY,ZaC oq _ (Lv _),List.take_length,r2 o c];have d:=O8 b hi (o:=0) oq;have e:(CW h i).getD o M=(Ze h (B4 h.P i:Nat)).1.any (λa=>Lb (a-(address h.C i 0).1<=(o:Int))&&Lb ((o:Int)<a-(address h.C i 0).1+GJ h a)):=by(unfold CW Cz;rw[Lo,List.getElem?_map,List.getElem?_range c];simp only[L3,LD];congr 1;funext a;unfold DL;rw[d,show a-(4096+((i:Int)*h.C.pw+0))=a-4096-i*h.C.pw from by omega])
 rw[e]
def Z9K{h:Heap}(hp:Z9 h=O){i:Nat}(hi:i<h.P.length)(e:GD (BY h i)<(BY h i).length):EC h i (CW h i)=4096+i*h.C.pw+GD (BY h i):=by
 obtain⟨c1,c2⟩:=Z2a hp hi;have hu:=PF h i;have hf:(Lg (CW h i).length).find? (HM h i (CW h i))=Le (GD (BY h i)):=by
  rw[Lm];refine⟨?_,Li.2 oq,λj hj=>?_⟩
  .have h1:=Z5I e;rw[show(M:Int)=0 from rfl,c2 _ oq]at h1;split at h1
   .exact absurd rfl h1
   .rename_i h2;simp only[HM,LG,Lx,decide_eq_true_eq];exact⟨by simpa using h2,h1⟩
  .have h1:=(Z0n hj).2;rw[show(M:Int)=0 from rfl,c2 _ oq]at h1;simp only[HM,Bool.not_and,Bool.not_not,Bool.or_eq_true,Lx,decide_eq_false_iff_not];split at h1
   .rename_i h2;exact .inl h2
   .exact .inr (λq=>q h1)
 unfold EC;rw[hf]
def ZcO{h:Heap}(hp:Z9 h=O){i:Nat}(hi:i<h.P.length)(e:¬ GD (BY h i)<(BY h i).length):EC h i (CW h i)=0:=by
 obtain⟨c1,c2⟩:=Z2a hp hi;have hu:=PF h i;have hf:(Lg (CW h i).length).find? (HM h i (CW h i))=Lf:=by
  rw[Ll];intro j hj;have hj:=Li.1 hj;have h1:=(Z0n (l:=BY h i) (m:=j) oq).2;rw[show(M:Int)=0 from rfl,c2 _ oq]at h1;simp only[HM,LG,Lx,decide_eq_true_eq,not_and];intro h2 h3;rw[if_neg (by rw[h2];simp)]at h1;exact h3 h1
 unfold EC;rw[hf]
def Z21{h:Heap}(a:Z9 h=O){i:Nat}(hi:i<h.P.length):Gf h i (Ze h i).1=Lb (Cv h i (Ze h i).1≠0):=by
 unfold Cv Gf;cases hf:(Ze h i).1.find? (Gw h i)with
 |none=>simp
 |some x =>
  have b:=LY hf;have e:=Z2y a (i:=i) oq;rw[e]at b;obtain⟨y,c,rfl⟩:=LW.1 b;have h1:=(Z2M y c).1;have h2:=(Z2e a hi).1;have:y.addr≠0:=by omega
  simp[this]
def find_congr{α:Type}{p q:α->Bool}:∀{l:List α},(∀x∈l,p x=q x)->l.find? p=l.find? q
 |[],_=>rfl
 |a::l,h=>by
  rw[LQ,LQ,h a pq,find_congr (l:=l) (λx b=>h x (by simp[b]))]
def find_range{l:List Int}{p:Int->Bool}:match (Lg l.length).find? (λi=>p (l.getD i M))with|Lf=>l.find? p=Lf|Le i=>l.find? p=Le (l.getD i M):=by
 split;rename_i a;rw[Ll]at a⊢;intro x j;obtain⟨i,g,e⟩:=ZT.1 j;have:=a i (Li.2 g);rwa [e]at this;rename_i i a;obtain⟨c,b,f⟩:=Lm.1 a;have b:=Li.1 b;cases hf:l.find? p with
 |none =>have:=Ll.1 hf (l.getD i M) (ZT.2 ⟨i,b,rfl⟩);exact absurd c this
 |some x =>
  obtain⟨n,k1,d,k,m⟩:=D6 hf;have h:n=i:=by(rcases Nat.lt_trichotomy n i with q|q|q;have:=f n q;rw[d,k]at this;cases this;exact q;have:=m i q;rw[c]at this;cases this)
  subst h;rw[d]
def P8{h}{a:Int}(b:a∈(Zb h).1):(Z6 h a).2=0/\(Z6 h a).1.K≠0:=by by_cases e:(CL h).2=0;rw[Zak h e]at b;obtain⟨x,i,rfl⟩:=LW.1 b;obtain⟨c,d⟩:=List.mem_filter.1 i;obtain⟨f,g⟩:=Z2h x c;refine⟨g, ?_⟩;rw[<-f];simpa[EB]using d;rw[Z6I h e]at b;simp at b
def Z6M(hd:Zy):∀n:Nat,BK hd n=((Lg n).filter (λk:Nat=>Ba hd k)).map (λk:Nat=>(k:Int))
 |0=>rfl
 |n+1=>by
  rw[BK,List.range_succ,List.filter_append,Lu,<-Z6M hd n];by_cases h:Ba hd (n:Int)=O
  .rw[if_pos h];simp[h]
  .rw[if_neg h];simp[h]
def Pm(h:Heap)(all:List Int)(a:Int):Option Nat:=(Lg (C0 h a).1.length).find? (N7 (Zv h a).1 (C0 h a).1 all)
def Z8t{h a}(e:(Z6 h a).2=0)(b:(Z6 h a).1.K≠0) all:apF h all a=(Pm h all a).map (λk:Nat=>(k:Int)):=by
 have i1:=Dr e;have l:=(Ty e).1;have c:Zv h a=Z6 h a:=by(unfold Zv;rw[if_pos l,if_neg oq,if_neg (λq=>b q.2)])
 have d:=Iu (h:=h) (a:=a) (by rw[c];exact e);rw[c]at d;have j:=d.2.2.2.2.2.2.1;have hl:=d.2.2.2.2.2.2.2.2.2;have f:(C0 h a).1=(h.W.drop (a+1-4096).toNat).take (Z6 h a).1.length.toNat:=by(unfold C0;rw[c,if_pos e,BV,if_neg oq,if_pos oq])
 have i:(C0 h a).1.length=(Z6 h a).1.length.toNat:=by(rw[f,Lr,LA];omega)
 have g:∀k:Nat,k<(Z6 h a).1.length.toNat->(C0 h a).1.getD k M=fdV h a k:=by(intro k b;unfold fdV Z1;rw[if_pos oq,f];simp only[Lo,Lz,Ly,if_pos b];rw[show(a+1-4096).toNat+k=(a+1+(k:Int)-4096).toNat from by omega];rfl)
 unfold apF Pm Zj;rw[if_pos j,Z6M,List.find?_map,List.find?_filter,i,c];congr 1;refine find_congr λk b=>?_;have b:=Li.1 b;rw[N7,g k b];simp only[Function.comp,Ro];cases Ba (Z6 h a).1 (k:Int)<;>simp
def Zjo(h:Heap):CU h=EW h (Zb h).1:=by
 have hr:=find_range (l:=(Zb h).1) (p:=λa=>(Pm h (Zb h).1 a).isSome);have j:(Zb h).1.find? (λa=>(apF h (Zb h).1 a).isSome)=(Zb h).1.find? (λa=>(Pm h (Zb h).1 a).isSome):=find_congr λa f=>by(rw[Z8t (P8 f).1 (P8 f).2,Option.isSome_map])
 unfold CU SA EW;rw[j];change match (Lg (Zb h).1.length).find? (λi=>(HH h (Zb h).1 i).isSome)with|Lf=>_|Le i=>_ at hr
 split at hr;rename_i b;rw[hr,b];rfl;rename_i i b;have e:=(Lm.1 b);have d:(Zb h).1.getD i M∈(Zb h).1:=ZT.2 ⟨i,Li.1 e.2.1,rfl⟩;obtain⟨k,g⟩:=L2.1 e.1;have c:Pm h (Zb h).1 ((Zb h).1.getD i M)=Le k:=g;have i1:=Dr (P8 d).1;rw[hr,b];simp only[g,Z8t (P8 d).1 (P8 d).2,c,L3,LD];rw[if_neg oq]
def R0(h:Heap)(i:Nat):Tg:=⟨tm 64 [(1,.pt 8001 0 0),(2,.pt 8002 0 0),(12,B3 h.P),(13,nI h.P.length),(14,nI i)],[(8002,.box 223 [nI 0,nI 0,uU 0]),(8001,.box 28 h.cells)],60⟩
def Md(f:Ck):Tg:=⟨tm 64 [(2,.pt 8002 0 0)],[(8002,.box 223 [nI f.fault,nI f.page,uU f.addr])],64⟩
section
variable(h:Heap)(i:Nat)(b:Zw h.W)(a:Z9 h=O)(hi:i<h.P.length)
include b a hi
theorem Zlr(e:EC h i (CW h i)=0):Cb (BY h i)=-1:=by by_cases c:GD (BY h i)<(BY h i).length;have h1:=Z9K a hi c;have h2:=(Z2e a hi).1;omega;exact if_neg c
theorem ZeU(e:¬ EC h i (CW h i)=0):0<=Cb (BY h i)/\Cb (BY h i)<=64/\EC h i (CW h i)=(address h.C i 0).1+Cb (BY h i):=by have po:=B5 a;by_cases c:GD (BY h i)<(BY h i).length;have d:=Z9K a hi c;have f:Cb (BY h i)=GD (BY h i):=if_pos c;have g:=O8 a hi (o:=0) oq;have h4:=(Z2a a hi).1;rw[d,f,g];omega;exact absurd (ZcO a hi c) e
theorem ZaN(c:(h.P.getD i M).K=0\/(h.P.getD i M).S=h.S)(n2:(Ze h (i:Int)).2=0)(e:Cv h (i:Int) (Ze h (i:Int)).1=0)(f:EC h i (CW h i)=0):CP (Zm f206 0) (R0 h i).st .nrm (R0 h (i+1)).st:=by have po:=B5 a;have hn:=Re h (i:Int);have hr:=AU a (i:Int);have d:=Z21 a hi;rw[e]at d;have q4:=Zlr h i b a hi f;simp only[ne_eq,not_true_eq_false,decide_false]at d;rcases c with c|c;exact sF [] []<|Fh 48 [.br Lc]<|Fh 58 [.br Lc]<|Ftb 15 (Lb ((i:Int)<(h.P.length:Int)))<|Fek 17 Z0.dv h.P (↑i) i<|Ffb 28 ((h.P.getD i M).K != 0&&(h.P.getD i M).S != h.S)<|Fc 34 (@NR h ((i:Int)) aa oq)<|Ffb 38 ((Ze h (i:Int)).2 != 0)<|Fc 45 (@DI h ((i:Int)) ((Ze h (i:Int)).1) aa oq oq oq aa)<|Fa ‹Gf h (i:Int) (Ze h (i:Int)).1=Lc›<|Fc 55 (@Z0z h i aa aa aa)<|Fb (Lb (0<=Cb (BY h i))=Lc)<|Fx 62 i Fz;exact sF [] []<|Fh 48 [.br Lc]<|Fh 58 [.br Lc]<|Ftb 15 (Lb ((i:Int)<(h.P.length:Int)))<|Fek 17 Z0.dv h.P (↑i) i<|Ffb 28 ((h.P.getD i M).K != 0&&(h.P.getD i M).S != h.S)<|Fc 34 (@NR h ((i:Int)) aa oq)<|Ffb 38 ((Ze h (i:Int)).2 != 0)<|Fc 45 (@DI h ((i:Int)) ((Ze h (i:Int)).1) aa oq oq oq aa)<|Fa ‹Gf h (i:Int) (Ze h (i:Int)).1=Lc›<|Fc 55 (@Z0z h i aa aa aa)<|Fb (Lb (0<=Cb (BY h i))=Lc)<|Fx 62 i Fz
theorem Znt(c:¬ (h.P.getD i M).K=0/\¬ (h.P.getD i M).S=h.S):CP (Zm f206 0) (R0 h i).st .ret (Md ⟨2,i,0⟩).st:=by have po:=B5 a;obtain⟨c,n2⟩:=c;exact sF [] []<|Ftb 15 (Lb ((i:Int)<(h.P.length:Int)))<|Fek 17 Z0.dv h.P (↑i) i<|Ftb 28 ((h.P.getD i M).K != 0&&(h.P.getD i M).S != h.S) Fz
theorem ZfC(c:(h.P.getD i M).K=0\/(h.P.getD i M).S=h.S)(n2:¬ (Ze h (i:Int)).2=0):CP (Zm f206 0) (R0 h i).st .ret (Md ⟨3,i,0⟩).st:=by have po:=B5 a;rcases c with c|c;exact sF [] []<|Ftb 15 (Lb ((i:Int)<(h.P.length:Int)))<|Fek 17 Z0.dv h.P (↑i) i<|Ffb 28 ((h.P.getD i M).K != 0&&(h.P.getD i M).S != h.S)<|Fc 34 (@NR h ((i:Int)) aa oq)<|Ftb 38 ((Ze h (i:Int)).2 != 0) Fz;exact sF [] []<|Ftb 15 (Lb ((i:Int)<(h.P.length:Int)))<|Fek 17 Z0.dv h.P (↑i) i<|Ffb 28 ((h.P.getD i M).K != 0&&(h.P.getD i M).S != h.S)<|Fc 34 (@NR h ((i:Int)) aa oq)<|Ftb 38 ((Ze h (i:Int)).2 != 0) Fz
theorem ZjU(c:(h.P.getD i M).K=0\/(h.P.getD i M).S=h.S)(n2:(Ze h (i:Int)).2=0)(d:¬ Cv h (i:Int) (Ze h (i:Int)).1=0):CP (Zm f206 0) (R0 h i).st .ret (Md ⟨5,i,Cv h (i:Int) (Ze h (i:Int)).1⟩).st:=by
 have po:=B5 a;have hn:=Re h (i:Int);have hr:=AU a (i:Int);have q3:Gf h i (Ze h i).1=O:=by rw[Z21 a hi];simpa using d
 rcases c with c|c;exact sF [] []<|Fh 48 [.br O]<|Ftb 15 (Lb ((i:Int)<(h.P.length:Int)))<|Fek 17 Z0.dv h.P (↑i) i<|Ffb 28 ((h.P.getD i M).K != 0&&(h.P.getD i M).S != h.S)<|Fc 34 (@NR h ((i:Int)) aa oq)<|Ffb 38 ((Ze h (i:Int)).2 != 0)<|Fc 45 (@DI h ((i:Int)) ((Ze h (i:Int)).1) aa oq oq oq aa)<|Fa ‹Gf h (i:Int) (Ze h (i:Int)).1=O› Fz;exact sF [] []<|Fh 48 [.br O]<|Ftb 15 (Lb ((i:Int)<(h.P.length:Int)))<|Fek 17 Z0.dv h.P (↑i) i<|Ffb 28 ((h.P.getD i M).K != 0&&(h.P.getD i M).S != h.S)<|Fc 34 (@NR h ((i:Int)) aa oq)<|Ffb 38 ((Ze h (i:Int)).2 != 0)<|Fc 45 (@DI h ((i:Int)) ((Ze h (i:Int)).1) aa oq oq oq aa)<|Fa ‹Gf h (i:Int) (Ze h (i:Int)).1=O› Fz
theorem Zij(c:(h.P.getD i M).K=0\/(h.P.getD i M).S=h.S)(n2:(Ze h (i:Int)).2=0)(f:Cv h (i:Int) (Ze h (i:Int)).1=0)(g:¬ EC h i (CW h i)=0):CP (Zm f206 0) (R0 h i).st .ret (Md ⟨4,i,EC h i (CW h i)⟩).st:=by
 have po:=B5 a;have hn:=Re h (i:Int);have hr:=AU a (i:Int);have d:=Z21 a hi;rw[f]at d;simp only[ne_eq,not_true_eq_false,decide_false]at d;obtain⟨q4,q5,j⟩:=ZeU h i b a hi g;have e:max (Cb (BY h i)) 0=Cb (BY h i):=by omega
 rw[j];rcases c with c|c;exact sF [] (fO 6)<|Fh 48 [.br Lc]<|Fh 58 [.br O]<|Ftb 15 (Lb ((i:Int)<(h.P.length:Int)))<|Fek 17 Z0.dv h.P (↑i) i<|Ffb 28 ((h.P.getD i M).K != 0&&(h.P.getD i M).S != h.S)<|Fc 34 (@NR h ((i:Int)) aa oq)<|Ffb 38 ((Ze h (i:Int)).2 != 0)<|Fc 45 (@DI h ((i:Int)) ((Ze h (i:Int)).1) aa oq oq oq aa)<|Fa ‹Gf h (i:Int) (Ze h (i:Int)).1=Lc›<|Fc 55 (@Z0z h i aa aa aa)<|Fb (Lb (0<=Cb (BY h i))=O)<|Fr (223:Int)<|Fr (4:Int)<|Fr (i:Int)<|Fa (by rw[e]:(address h.C (i:Int) 0).1+max (Cb (BY h i)) 0=(Ck.mk 4 (i:Int) ((address h.C (i:Int) 0).1+Cb (BY h i))).addr) Fz;exact sF [] (fO 6)<|Fh 48 [.br Lc]<|Fh 58 [.br O]<|Ftb 15 (Lb ((i:Int)<(h.P.length:Int)))<|Fek 17 Z0.dv h.P (↑i) i<|Ffb 28 ((h.P.getD i M).K != 0&&(h.P.getD i M).S != h.S)<|Fc 34 (@NR h ((i:Int)) aa oq)<|Ffb 38 ((Ze h (i:Int)).2 != 0)<|Fc 45 (@DI h ((i:Int)) ((Ze h (i:Int)).1) aa oq oq oq aa)<|Fa ‹Gf h (i:Int) (Ze h (i:Int)).1=Lc›<|Fc 55 (@Z0z h i aa aa aa)<|Fb (Lb (0<=Cb (BY h i))=O)<|Fr (223:Int)<|Fr (4:Int)<|Fr (i:Int)<|Fa (by rw[e]:(address h.C (i:Int) 0).1+max (Cb (BY h i)) 0=(Ck.mk 4 (i:Int) ((address h.C (i:Int) 0).1+Cb (BY h i))).addr) Fz
end
def ZmC(h:Heap):CP (Zm f206 0) (R0 h h.P.length).st (.ext 0) (Md ⟨0,0,0⟩).st:=by exact sF [] []<|Ffb 15 (Lb ((h.P.length:Int)<(h.P.length:Int))) Fz
def CS(h:Heap):Ck:=match GI h with|Le i=>pageF h i|Lf=>⟨0,0,0⟩
def Z7Q{h i}(e:(pageF h i).fault=0):((h.P.getD i M).K=0\/(h.P.getD i M).S=h.S)/\(Ze h (i:Int)).2=0/\Cv h (i:Int) (Ze h (i:Int)).1=0/\EC h i (CW h i)=0:=by unfold pageF at e;split at e;simp at e;rename_i a;split at e;simp at e;rename_i b;split at e;simp at e;rename_i c;split at e;simp at e;rename_i d;refine⟨?_,Ln.1 b,Ln.1 c,Ln.1 d⟩;by_cases q:(h.P.getD i M).K=0;exact .inl q;refine .inr (Ln.1 λf=>a ⟨q,f⟩)
def ZcE(h:Heap)(i:Nat)(f:Zw h.W)(d:Z9 h=O)(hi:i<h.P.length)(e:(pageF h i).fault≠0):CP (Zm f206 0) (R0 h i).st .ret (Md (pageF h i)).st:=by
 unfold pageF at e⊢;split;rename_i b;exact Znt h i f d hi b;rename_i b;have j:(h.P.getD i M).K=0\/(h.P.getD i M).S=h.S:=by(by_cases q:(h.P.getD i M).K=0;exact .inl q;exact .inr (Ln.1 λk=>b ⟨q,k⟩))
 split;rename_i a;exact ZfC h i f d hi j a;rename_i a;split;rename_i c;exact ZjU h i f d hi j (Ln.1 a) c;rename_i c;split;rename_i g;exact Zij h i f d hi j (Ln.1 a) (Ln.1 c) g;rename_i g;rw[if_neg b,if_neg a,if_neg c,if_neg g]at e;exact absurd rfl e
def ZbA(h:Heap)(d:Zw h.W)(c:Z9 h=O)(b:GI h=Lf):CP (Zi f206 0) (R0 h 0).st .nrm (Tg.st ⟨tm 64 [(2,.pt 8002 0 0)],[(8002,.box 223 [nI 0,nI 0,uU 0])],64⟩):=by refine Bo (S:=λk=>(R0 h k).st) h.P.length kr (λk a=>?_) (ZmC h);have e:=Ll.1 b k (Li.2 a);obtain⟨f,g,j,l⟩:=Z7Q (h:=h) (i:=k) (by simpa using e);exact ZaN h k d c a f g j l
def ZgM(h:Heap) i(c:Zw h.W)(b:Z9 h=O)(g:GI h=Le i):CP (Zi f206 0) (Tg.st ⟨tm 64 [(1,.pt 8001 0 0),(2,.pt 8002 0 0),(12,B3 h.P),(13,nI h.P.length),(14,nI 0)],[(8002,.box 223 [nI 0,nI 0,uU 0]),(8001,.box 28 h.cells)],60⟩) .ret (Tg.st ⟨tm 64 [(2,.pt 8002 0 0)],[(8002,.box 223 [nI (pageF h i).fault,nI (pageF h i).page,uU (pageF h i).addr])],64⟩):=by obtain⟨d,a,f⟩:=Lm.1 g;have a:=Li.1 a;refine EM (S:=λk=>(R0 h k).st) i kr (λk j=>?_) (ZcE h i c b a (by simpa using d));have e:=f k j;obtain⟨l,m,n,o⟩:=Z7Q (h:=h) (i:=k) (by simpa using e);exact ZaN h k c b oq l m n o
def Z0w(h:Heap)(hw:Zw h.W)(b:Z9 h=O):GP 206 [h.av] O (CS h).av []:=by
 have po:=B5 b;cases hf:GI h with
 |none =>
  have a:CS h=⟨0,0,0⟩:=by simp only[CS,hf]
  rw[a];exact gF [] func206 []<|Fl 13 Z0.dv h.P<|Fu (@ZbA h aa aa aa) Fz
 |some i =>
  have a:CS h=pageF h i:=by simp only[CS,hf]
  rw[a];exact gF [] func206 []<|Fl 13 Z0.dv h.P<|Fu (@ZgM h i aa aa aa) Fz
def Zby(h:Heap)(hw:Zw h.W)(hp:Z9 h=Lc):GP 171 [h.av] O (Ck.av ⟨1,0,0⟩) []:=by exact gF [] func171 []<|Fc 9 (@Ei h)<|Ftb 10 (!Z9 h) Fz
def Zjk(h:Heap)(hw:Zw h.W)(d:Z9 h=O) i(a:GI h=Le i):GP 171 [h.av] O (pageF h i).av []:=by
 have po:=B5 d;have b:CS h=pageF h i:=by simp only[CS,a]
 have c:¬ (pageF h i).fault=0:=by simpa using (Lm.1 a).1
 rw[<-b]at c⊢;exact gF [] func171 []<|Fc 9 (@Ei h)<|Ffb 10 (!Z9 h)<|Fc 13 (@Z0w h aa aa)<|Ftb 16 (!((CS h).fault==0&&((CS h).page==0&&(CS h).addr==0))) Fz
def Zc6(h:Heap)(hw:Zw h.W)(c:Z9 h=O)(b:GI h=Lf)(hq:¬ (CU h).fault=0):GP 171 [h.av] O (CU h).av []:=by
 have po:=B5 c;have a:CS h=⟨0,0,0⟩:=by simp only[CS,b]
 have q1:(CS h).fault=0:=by rw[a]
 have q2:(CS h).page=0:=by rw[a]
 have q3:(CS h).addr=0:=by rw[a]
 exact gF [] func171 []<|Fc 9 (@Ei h)<|Ffb 10 (!Z9 h)<|Fc 13 (@Z0w h aa aa)<|Ffb 16 (!((CS h).fault==0&&((CS h).page==0&&(CS h).addr==0)))<|Fc 19 (@Z36 h aa oq)<|Ftb 22 (!((CU h).fault==0&&((CU h).page==0&&(CU h).addr==0))) Fz
def Rl(h:Heap)(i:Nat):Tg:=⟨tm 50 [(1,.pt 8001 0 0),(2,.pt 8002 0 0),(5,nI (Bu h.P i)),(25,B3 h.P),(26,nI h.P.length),(27,nI i)],[(8002,.box 223 [nI 0,nI 0,uU 0]),(8001,.box 28 h.cells)],60⟩
def ZkD(h:Heap)(i:Nat)(c:Z9 h=O)(hi:i<h.P.length):CP (Zm f171 0) (Rl h i).st .nrm (Rl h (i+1)).st:=by
 have po:=B5 c;have:=RA h.P i;by_cases a:(h.P.getD i M).K=1;by_cases b:0<(h.P.getD i M).N;have e:Bu h.P (i+1)=Bu h.P i+1:=by rw[Bu,if_pos ⟨a,b⟩]
 rw[Rl,Rl,e];exact sF [] []<|Ftb 28 (Lb ((i:Int)<(h.P.length:Int)))<|Fek 29 Z0.dv h.P (↑i) i<|Ftb 38 ((h.P.getD i M).K==1&&Lb (0<(h.P.getD i M).N))<|Fw 40 ((↑(Bu h.P i):Int)+1) (↑(Bu h.P i+1):Int)<|Fx 41 i Fz;have e:Bu h.P (i+1)=Bu h.P i:=by rw[Bu,if_neg (λq=>b q.2)];rfl
 rw[Rl,Rl,e];exact sF [] []<|Ftb 28 (Lb ((i:Int)<(h.P.length:Int)))<|Fek 29 Z0.dv h.P (↑i) i<|Ffb 38 ((h.P.getD i M).K==1&&Lb (0<(h.P.getD i M).N))<|Fx 41 i Fz;have e:Bu h.P (i+1)=Bu h.P i:=by rw[Bu,if_neg (λq=>a q.1)];rfl
 rw[Rl,Rl,e];exact sF [] []<|Ftb 28 (Lb ((i:Int)<(h.P.length:Int)))<|Fek 29 Z0.dv h.P (↑i) i<|Ffb 38 ((h.P.getD i M).K==1&&Lb (0<(h.P.getD i M).N))<|Fx 41 i Fz
def ZhJ(h:Heap):CP (Zm f171 0) (Rl h h.P.length).st (.ext 0) (Tg.st ⟨tm 50 [(1,.pt 8001 0 0),(2,.pt 8002 0 0),(5,nI (Bu h.P h.P.length))],[(8002,.box 223 [nI 0,nI 0,uU 0]),(8001,.box 28 h.cells)],64⟩):=by exact sF [] []<|Ffb 28 (Lb ((h.P.length:Int)<(h.P.length:Int))) Fz
def Z89(h:Heap)(b:Z9 h=O)  := Bo (S:=λi=>(Rl h i).st) h.P.length (by kernel_rfl) (λi a=>ZkD h i b a) (ZhJ h)
def ZhT(h:Heap)(hw:Zw h.W)(f:Z9 h=O)(e:GI h=Lf)(c:(CU h).fault=0)(hc:h.C.pg/4<(Bu h.P h.P.length:Nat)):GP 171 [h.av] O (Ck.av ⟨7,0,0⟩) []:=by
 have po:=B5 f;have cl:=RA h.P h.P.length;have a:CS h=⟨0,0,0⟩:=by simp only[CS,e]
 have q1:(CS h).fault=0:=by rw[a]
 have q2:(CS h).page=0:=by rw[a]
 have q3:(CS h).addr=0:=by rw[a]
 have b:CU h=⟨0,0,0⟩:=by(unfold CU at c⊢;split at c;rename_i d;rw[if_pos d];simp at c)
 have q4:(CU h).fault=0:=by rw[b]
 have q5:(CU h).page=0:=by rw[b]
 have q6:(CU h).addr=0:=by rw[b]
 exact gF [] func171 []<|Fc 9 (@Ei h)<|Ffb 10 (!Z9 h)<|Fc 13 (@Z0w h aa aa)<|Ffb 16 (!((CS h).fault==0&&((CS h).page==0&&(CS h).addr==0)))<|Fc 19 (@Z36 h aa oq)<|Ffb 22 (!((CU h).fault==0&&((CU h).page==0&&(CU h).addr==0)))<|Fl 26 Z0.dv h.P<|Fu (@Z89 h aa)<|Fg 46 (by rw[LO oq,Eg oq oq]:Lq.wrap (h.C.pg.tdiv 4)=h.C.pg/4)<|Fa (by decide:(4:Int)≠0)<|Ftb 47 (Lb (h.C.pg/4<(↑(Bu h.P h.P.length):Int))) Fz
def Zer(h:Heap)(hw:Zw h.W)(f:Z9 h=O)(e:GI h=Lf)(c:(CU h).fault=0)(hc:¬ h.C.pg/4<(Bu h.P h.P.length:Nat)):GP 171 [h.av] O (Ck.av ⟨0,0,0⟩) []:=by
 have po:=B5 f;have cl:=RA h.P h.P.length;have a:CS h=⟨0,0,0⟩:=by simp only[CS,e]
 have q1:(CS h).fault=0:=by rw[a]
 have q2:(CS h).page=0:=by rw[a]
 have q3:(CS h).addr=0:=by rw[a]
 have b:CU h=⟨0,0,0⟩:=by(unfold CU at c⊢;split at c;rename_i d;rw[if_pos d];simp at c)
 have q4:(CU h).fault=0:=by rw[b]
 have q5:(CU h).page=0:=by rw[b]
 have q6:(CU h).addr=0:=by rw[b]
 exact gF [] func171 []<|Fc 9 (@Ei h)<|Ffb 10 (!Z9 h)<|Fc 13 (@Z0w h aa aa)<|Ffb 16 (!((CS h).fault==0&&((CS h).page==0&&(CS h).addr==0)))<|Fc 19 (@Z36 h aa oq)<|Ffb 22 (!((CU h).fault==0&&((CU h).page==0&&(CU h).addr==0)))<|Fl 26 Z0.dv h.P<|Fu (@Z89 h aa)<|Fg 46 (by rw[LO oq,Eg oq oq]:Lq.wrap (h.C.pg.tdiv 4)=h.C.pg/4)<|Fa (by decide:(4:Int)≠0)<|Ffb 47 (Lb (h.C.pg/4<(↑(Bu h.P h.P.length):Int))) Fz
def ZkN(h:Heap)(c:Zw h.W):GP 171 [h.av] O (Bp h).av []:=by
 have e:=Zjo h;unfold Bp;rw[<-e];by_cases a:Z9 h=O;rw[if_pos a];cases hb:GI h with|some i=>exact Zjk h c a i hb|none =>by_cases b:(CU h).fault=0;simp only[b,ne_eq,not_true_eq_false,if_false];by_cases d:h.C.pg/4<(Bu h.P h.P.length:Nat);rw[if_pos d];exact ZhT h c a hb b d;rw[if_neg d];exact Zer h c a hb b d;simp only[ne_eq,b,not_false_eq_true,if_true];exact Zc6 h c a hb b
 rw[if_neg a];exact Zby h c (by simpa using a)
def ZmK(h:Heap):((Bp h).fault==0&&((Bp h).page==0&&(Bp h).addr==0))=Lb (Bp h=⟨0,0,0⟩):=by
 cases Bp h with|mk a b c=>by_cases d:a=0<;>by_cases e:b=0<;>by_cases f:c=0<;>simp[d,e,f]
def Z3o(h:Heap)(hw:Zw h.W):GP 122 [h.av] O (bL (Lb (Bp h=⟨0,0,0⟩))) []:=by have a:=ZmK h;exact gF [] func122 [O]<|Fc 4 (@ZkN h aa)<|Fa (a:((Bp h).fault==0&&((Bp h).page==0&&(Bp h).addr==0))=Lb (Bp h=Ck.mk 0 0 0)) Fz
def GK(all:List Int)(r:Int):Bool:=(r != 0)&&!decide (r∈all)
def Z0M(all:List Int):AV:=.fn 126 [.rp [.sl 1 (all.map wD)] 0]
def Z5F(all:List Int) r(ha:all.length<=1048576)(hs:all.Pairwise (· < ·)):GP 126 [uU r,.rp [.sl 1 (all.map wD)] 0] O (bL (GK all r)) []:=by
 by_cases a:r=0;have e:GK all r=Lc:=by simp[GK,a]
 rw[e];exact gF [] func126 (fO 2)<|Fc 9 (@bsearch all r aa aa)<|Fa ‹(r != 0&&!decide (r∈all))=Lc› Fz;by_cases b:r∈all;have e:GK all r=Lc:=by simp[GK,b]
 rw[e];exact gF [] func126 (fO 2)<|Fc 9 (@bsearch all r aa aa)<|Fa ‹(r != 0&&!decide (r∈all))=Lc› Fz;have e:GK all r=O:=by simp[GK,a,b]
 rw[e];exact gF [] func126 (fO 2)<|Fc 9 (@bsearch all r aa aa)<|Fa ‹(r != 0&&!decide (r∈all))=O› Fz
def HC(all l:List Int):Nat:=(l.takeWhile λr=>!GK all r).length
def Z0f{all l}{m:Nat}(h:m<HC all l):m<l.length/\GK all (l.getD m M)=Lc:=by obtain⟨a,b⟩:=AN _ _ _ h;refine⟨a, ?_⟩;rw[Lo,Ls a];simpa using b
def Z61{all l:List Int}(h:HC all l<l.length):GK all (l.getD (HC all l) M)=O:=by
 have a:=D4 (λr=>!GK all r) l h;have b:l.getD (HC all l) M=l[(l.takeWhile λr=>!GK all r).length]:=by(rw[Lo,Ls h];rfl)
 rw[b];simpa using a
def IT(all l:List Int):Int:=if HC all l<l.length then HC all l else -1
def Sg(all l:List Int)(i:Nat):Tg:=⟨tm 19 [(0,Z2 l),(1,Z0M all),(4,nI 0),(7,nI l.length),(8,nI i)],[],60⟩
section
variable(all l:List Int)(i:Nat)(hl:l.length<=1048576)(ha:all.length<=1048576)(hs:all.Pairwise (· < ·))(hi:i<l.length)
include hl ha hs hi
theorem Z7A(e:GK all (l.getD i M)=Lc):CP (Zm f172 0) (Sg all l i).st .nrm (Sg all l (i+1)).st:=by unfold Sg Z0M;exact sF [] []<|Fh 16 [.call O (bL (GK all (l.getD i M))) [],.br Lc]<|Ftb 9 (Lb ((i:Int)<(l.length:Int)))<|Fek 14 wD l (↑i) i<|Fa (@Z5F all (l.getD i M) aa aa)<|Fa ‹GK all (l.getD i M)=Lc›<|Fx 18 i Fz
theorem ZeK(e:GK all (l.getD i M)=O):CP (Zm f172 0) (Sg all l i).st .ret (Tg.st ⟨tm 19 [(4,nI i)],[],60⟩):=by unfold Sg Z0M;exact sF [] []<|Fh 16 [.call O (bL (GK all (l.getD i M))) [],.br O]<|Ftb 9 (Lb ((i:Int)<(l.length:Int)))<|Fek 14 wD l (↑i) i<|Fa (@Z5F all (l.getD i M) aa aa)<|Fa ‹GK all (l.getD i M)=O› Fz
end
def ZkT all l:CP (Zm f172 0) (Sg all l l.length).st (.ext 0) (Tg.st ⟨tm 19 [(4,nI 0)],[],60⟩):=by unfold Sg Z0M;exact sF [] []<|Ffb 9 (Lb ((l.length:Int)<(l.length:Int))) Fz
def Zck(all l:List Int)(hl:l.length<=1048576)(a:all.length<=1048576)(hs:all.Pairwise (· < ·))(h:¬ HC all l<l.length)  := Bo (S:=λj=>(Sg all l j).st) l.length (by kernel_rfl) (λj b=>Z7A all l j hl a hs b (Z0f (by omega)).2) (ZkT all l)
def ZmR(all l:List Int)(hl:l.length<=1048576)(a:all.length<=1048576)(hs:all.Pairwise (· < ·))(h:HC all l<l.length)  := EM (S:=λj=>(Sg all l j).st) (HC all l) (by kernel_rfl) (λj b=>Z7A all l j hl a hs (by omega) (Z0f b).2) (ZeK all l (HC all l) hl a hs h (Z61 h))
def ZcT(all l:List Int)(hl:l.length<=1048576)(ha:all.length<=1048576)(hs:all.Pairwise (· < ·)):GP 172 [Z2 l,.fn 126 [.rp [.sl 1 (all.map wD)] 0]] O (nI (IT all l)) []:=by by_cases h:HC all l<l.length;have a:IT all l=HC all l:=if_pos h;rw[a];exact gF [] func172 []<|Fl 7 wD l<|Fu (@ZmR all l aa aa aa aa) Fz;have a:IT all l=-1:=if_neg h;rw[a];exact gF [] func172 []<|Fl 7 wD l<|Fu (@Zck all l aa aa aa aa) Fz
def Zid(all l:List Int)(hl:l.length<=1048576)(ha:all.length<=1048576)(hs:all.Pairwise (· < ·)):GP 125 [Z2 l,.fn 126 [.rp [.sl 1 (all.map wD)] 0]] O (bL (Lb (0<=IT all l))) []:=by exact gF [] func125 []<|Fc 7 (@ZcT all l aa aa aa) Fz
def Zjn(h:Heap) refs(hw:Zw h.W)(hg:¬ Bp h=⟨0,0,0⟩):GP 74 [h.av,Z2 refs] O (bL Lc) []:=by exact gF [] func74 []<|Fc 8 (@Z3o h aa)<|Ftb 9 (!decide (Bp h=Ck.mk 0 0 0)) Fz
def Zmg(h:Heap) refs(hw:Zw h.W)(hg:Bp h=⟨0,0,0⟩):Af prog 4 (HE f74) (Tg.st ⟨tm 19 [(0,h.av),(1,Z2 refs)],[],1⟩) (Tg.st ⟨tm 19 [(1,Z2 refs),(5,.pt 24005 0 0)],[(24005,.box 25 [Z2 (Zb h).1])],20⟩):=by refine AI [((8:Nat),[Hint.call O (bL (Lb (Bp h=Ck.mk (0:Int) (0:Int) (0:Int)))) []]),((9:Nat),[Hint.br Lc]),((12:Nat),[Hint.call O (AV.tu [Z2 (Zb h).1,nI (Zb h).2]) []])] [] [] (φ:=GP 122 [h.av] O (bL (Lb (Bp h=Ck.mk (0:Int) (0:Int) (0:Int)))) []/\(!decide (Bp h=Ck.mk (0:Int) (0:Int) (0:Int)))=Lc/\Lc=Lc/\GP 107 [h.av] O (AV.tu [Z2 (Zb h).1,nI (Zb h).2]) []) ?_ kr kr kr kr;exact⟨(@Z3o (h) aa),(by(simp only[bs];omega)),rfl,(@SC (h) aa)⟩
def ZkR(h:Heap)(refs:List Int):((Lg refs.length).find? (Ci refs (Zb h).1)).isNone = !decide (0<=IT (Zb h).1 refs):=by
 have e:∀i,Ci refs (Zb h).1 i=GK (Zb h).1 (refs.getD i M):=by(intro i;unfold Ci GK;generalize refs.getD i M=r;by_cases f:r=0<;>by_cases g:r∈(Zb h).1<;>simp[f,g])
 by_cases a:HC (Zb h).1 refs<refs.length;have c:IT (Zb h).1 refs=HC (Zb h).1 refs:=if_pos a;have d:(Lg refs.length).find? (Ci refs (Zb h).1)=Le (HC (Zb h).1 refs):=by(rw[Lm];refine⟨by rw[e];exact Z61 a,Li.2 a,λj b=>?_⟩;rw[e,(Z0f b).2];rfl)
 rw[c,d];simp;have c:IT (Zb h).1 refs=-1:=if_neg a;have d:(Lg refs.length).find? (Ci refs (Zb h).1)=Lf:=by(rw[Ll];intro j b;have b:=Li.1 b;rw[e,(Z0f (l:=refs) (m:=j) oq).2];simp)
 rw[c,d];rfl
end Go.Proofs.YtgedmeaemofdkaaGreat
namespace Go.Proofs.YtgedmeaemofdkaaGreat
open Go.Sx Go.RowKit
def Ziu(h:Heap)(refs:List Int)(hw:Zw h.W)(hl:refs.length<=1048576)(l:Bp h=⟨0,0,0⟩):GP 74 [h.av,Z2 refs] O (bL (!decide (0<=IT (Zb h).1 refs))) []:=by
 intro f u vs w r d;rw[<-callsIn_wide (n:=10)];refine callsIn_of_wp func74 (c:=HE f74) kr trivial ?_ rfl;have o:vs.size=2:=r;have S0:Sx.Sys Gp u f (tm 19 [(0,h.av),(1,Z2 refs)]) (C2 []) 1 {tmps:=vs++Lw (Tryz.f74.ntmps-vs.size) undef,defers:=[]} f:=by(refine⟨_,u,Sx.Inv.empty w (Lv 1),⟨by rw[o];simp[o];kernel_rfl,λk y v s i=>?_,rfl⟩⟩;rw[show tm 19 [(0,h.av),(1,Z2 refs)]=[h.av,Z2 refs]++Lh 17 .any from by kernel_rfl,LR]at s;rw[LF]at i;split at s;rename_i hk;rw[if_pos (by rw[r];exact hk)]at i;exact d k y v s i;have:=LZ s;rw[(L0.1 this).2];exact .any _)
 generalize hR:(λe w'=>∃v,e=Ending.returned v/\Rv f u O (bL (!decide (0<=IT (Zb h).1 refs))) [] v w')=R;generalize hQ:bodyPost prog f74 R=Q;refine Zmg h refs hw l 10 Q _ _ _ _ _ S0 ?_;rintro a1 w1 ⟨ρ1,a,j,T1⟩;obtain⟨v5,t5,r5⟩:=T1.at (t:=5) (x:=.pt 24005 0 0) rfl;obtain⟨β,m,n⟩:=j.blk 24005 _ rfl;have z:Zk (λ_=>Lf) w1 (λg=>a g\/β.g=Le g) (.rp [.sl 1 ((Zb h).1.map wD)] 0) v5:=P5 m n r5 (λ_ h=>.inl h) (λ_ h=>.inr h);have er:rest prog 10 4 (HE f74) Q a1 w1=(Code.region 4 (BM f74 4) Lc).wpIn Fence.wide 10 prog (Exit.then (Code.ret.wpIn Fence.wide 10 prog Q) Q) a1 w1:=by kernel_rfl
 rw[er];refine wpIn_region ?_;rw[show Lg (BM f74 4).size=[0,1,2,3,4]from by kernel_rfl];have T2:CB [] (λ_=>Lf) w1 (λg=>a g\/β.g=Le g) (tm 19 [(1,Z2 refs),(5,.rp [.sl 1 ((Zb h).1.map wD)] 0)]) a1:=by(have A1:CB [] ρ1 w1 (λg=>a g\/β.g=Le g) _ a1:=T1.mono (Sx.Ext.refl _ _) (λ_ h=>.inl h) (λ_ _ h=>h) j.bnd;have A2:=(A1.reSet 5 .any (λv _=>.any v)).pure kr;exact A2.reSet 5 (.rp [.sl 1 ((Zb h).1.map wD)] 0) (λv i=>by rw[t5]at i;cases i;exact z))
 have S2:Sx.Sys Gp (λg=>a g\/β.g=Le g) w1 (tm 19 [(1,Z2 refs),(5,.rp [.sl 1 ((Zb h).1.map wD)] 0)]) (C2 []) 20 a1 w1:=by(refine⟨_,_,Sx.Inv.empty ?_ dd,T2⟩;rintro g (l|l);exact j.imb g l;exact j.bnd _ _ g m l)
 generalize hb:Lb (0<=IT (Zb h).1 refs)=b at hR;have hc:=Zid (Zb h).1 refs hl (by have:=H3 h;omega) (SY h);rw[hb]at hc;refine MU (ro:=Lf) (hints:=[(17,[Hint.call O (bL b) []])]) (out:=⟨((((tm 19 [(1,Z2 refs),(5,.rp [.sl 1 ((Zb h).1.map wD)] 0)]).set 15 (Z2 refs)).set 16 (.fn 126 [.rp [.sl 1 ((Zb h).1.map wD)] 0])).set 17 (bL b)).set 18 (bL (!b)) |>.set 4 (bL (!b)),C2 [],[GP 125 [Z2 refs,.fn 126 [.rp [.sl 1 ((Zb h).1.map wD)] 0]] O (bL b) []],[]⟩) kr S2 hc (λp hp=>by simp at hp) ?_;rintro a3 w3 ⟨ρ3,a0,I3,T3⟩;refine wpIn_ret ?_;show Q .ret a3 w3;rw[<-hQ];refine bodyPost_ret (results_tmp rfl _ _ _) T3.defers ?_;rw[<-hR];have r4:a3.tmps.getD 4 undef=.bool (!b):=C7 (Ee T3 (.tmp 4));rw[r4];exact⟨_,rfl,RF j.kept.no I3.kept (λ_ h=>(Sx.OwA.no h).elim),λ_=>Lf,λ_=>False,λ_ q=>q.elim,λ_ q=>q.elim,λ_ _ _ q=>(by cases q),λ_ _ _ _ _ q=>(by cases q),λ_ _ q=>(by cases q),λk B q=>by simp at q,.d (.sc _ rfl)⟩
def ZeL(h:Heap)(refs:List Int)(b:Zw h.W)(hl:refs.length<=1048576):GP 74 [h.av,Z2 refs] O (bL (BB h refs)) []:=by
 by_cases a:Bp h=⟨0,0,0⟩;have e:BB h refs = !decide (0<=IT (Zb h).1 refs):=by(unfold BB;rw[ZkR,a];simp)
 rw[e];exact Ziu h refs b hl a;have e:BB h refs=Lc:=by simp[BB,a]
 rw[e];exact Zjn h refs b a
end Go.Proofs.YtgedmeaemofdkaaGreat
namespace Go.Proofs.YtgedmeaemofdkaaGreat
open Go.Sx
def Z5z{h:Heap}(a:∀i:Nat,i<h.P.length->(Ze h (i:Int)).2=0):∀(f i:Nat),i+f=h.P.length->(Cs h f i).2=0
 |0,_,_=>rfl
 |f+1,i,hf=>by
  have b:=Z5z a f (i+1) oq;unfold Cs;rw[a i oq,b];rfl
def ZmM{h:Heap}(a:Bp h=⟨0,0,0⟩):(Zb h).2=0:=by
 have e:Z9 h=O:=by(by_cases q:Z9 h=O;exact q;rw[Bp,if_neg q]at a;cases a)
 rw[Bp,if_pos e]at a;have c:∀i,i<h.P.length->(pageF h i).fault=0:=by
  intro i b;cases hb:GI h with|some j =>rw[hb]at a;simp only at a;have:=List.find?_some hb;rw[a]at this;simp at this|none =>have:=Ll.1 hb i (Li.2 b);simpa using this
 have d:∀i:Nat,i<h.P.length->(Ze h (i:Int)).2=0:=by(intro i b;have q:=c i b;unfold pageF at q;split at q;simp at q;split at q;simp at q;rename_i c2;simpa using c2)
 unfold Zb;rw[CR,if_pos e];exact Z5z d h.P.length 0 oq
def SK(h:Heap)(l:List Z0):List (Nat×Z3):=[(8001,.box 28 [nI h.C.pw,nI h.C.pg,.ow 49027,.ow 49030,nI h.S,nI h.B]),(49030,.arr 86 4 (l.map Z0.dv)),(49027,.arr 35 1 (h.W.map wD)),(8002,.box 127 zW)]
def Tm(h:Heap)(all:List Int)(i:Nat):Tg:=⟨tm 61 [(1,.pt 8001 0 0),(2,.pt 8002 0 0),(3,nI 0),(4,Z2 all),(34,.ow 49030),(35,nI h.P.length),(36,nI i)],SK h (ZC (Zs (1-h.S)) h.P i),8⟩
section
variable(h:Heap)(all:List Int)(hs:h.S=0\/h.S=1)(hl:h.P.length<=1048576)
include hs hl
theorem ZfD(i:Nat)(hi:i<h.P.length):CP (Zm f73 0) (Tm h all i).st .nrm (Tm h all (i+1)).st:=by have l:=OU (Zs (1-h.S)) h.P (Lv i) M;have hn:=Ac (Zs (1-h.S)) h.P i;by_cases f:(h.P.getD i M).K=1/\0<(h.P.getD i M).N;have g:=Ou (Zs (1-h.S)) h.P hi M;rw[show Zs (1-h.S) (h.P.getD i M)=⟨(h.P.getD i M).K,1-h.S,(h.P.getD i M).U,(h.P.getD i M).N⟩ by rw[Zs,if_pos f],<-l]at g;rw[<-l]at f;have n {h_ c_ p_} (m:Fq h_ c_ p_):=Ftb 37 (Lb ((i:Int)<(h.P.length:Int)))<|Fmq 40 Z0.dv (ZC (Zs (1-h.S)) h.P i) (↑i) m;rcases bb (((ZC (Zs (1-h.S)) h.P i).getD (i:Int).toNat M).K==1&&Lb (0<((ZC (Zs (1-h.S)) h.P i).getD (i:Int).toNat M).N))with hc0|hc0<;>have a:=hc0<;>simp only[bs]at a;obtain⟨b,c⟩:=a;let j:=ZC (Zs (1-h.S)) h.P i;let d:=j.getD (i:Int).toNat M;exact sF [] (fO 11) (n (Ft 48 hc0<|Fi 54 (1-h.S)<|Fm0q Z0.dv j (↑i)<|FS 10056 Z0.dv j ((i:Int).toNat) (Z0.mk d.K (1-h.S) d.U d.N) (d.dv)<|Fx 57 i<|Fr (86:Int)<|Fa (by refine congrArg _ ?_;exact g:La Z0.dv (j.set (i:Int).toNat (Z0.mk d.K (1-h.S) d.U d.N))=La Z0.dv (ZC (Zs (1-h.S)) h.P (i+1))) Fz));exact sF [] (fO 11) (n (Ff 48 hc0<|Fx 57 i<|Fr (86:Int)<|Fa (by refine congrArg _ ?_;grind[]:La Z0.dv (ZC (Zs (1-h.S)) h.P i)=La Z0.dv (ZC (Zs (1-h.S)) h.P (i+1))) Fz));have g:=Z3w (Zs (1-h.S)) h.P hi M (by rw[Zs,if_neg f]);rw[<-l]at f;have o {h_ c_ p_} (m:Fq h_ c_ p_):=Ftb 37 (Lb ((i:Int)<(h.P.length:Int)))<|Fmq 40 Z0.dv (ZC (Zs (1-h.S)) h.P i) (↑i) m;rcases bb (((ZC (Zs (1-h.S)) h.P i).getD (i:Int).toNat M).K==1&&Lb (0<((ZC (Zs (1-h.S)) h.P i).getD (i:Int).toNat M).N))with hc0|hc0<;>have a:=hc0<;>simp only[bs]at a;obtain⟨b,c⟩:=a;let k:=ZC (Zs (1-h.S)) h.P i;let e:=k.getD (i:Int).toNat M;exact sF [] (fO 11) (o (Ft 48 hc0<|Fi 54 (1-h.S)<|Fm0q Z0.dv k (↑i)<|FS 10056 Z0.dv k ((i:Int).toNat) (Z0.mk e.K (1-h.S) e.U e.N) (e.dv)<|Fx 57 i<|Fr (86:Int)<|Fa (by refine congrArg _ ?_;grind[]:La Z0.dv (k.set (i:Int).toNat (Z0.mk e.K (1-h.S) e.U e.N))=La Z0.dv (ZC (Zs (1-h.S)) h.P (i+1))) Fz));exact sF [] (fO 11) (o (Ff 48 hc0<|Fx 57 i<|Fr (86:Int)<|Fa (by refine congrArg _ ?_;exact g:La Z0.dv (ZC (Zs (1-h.S)) h.P i)=La Z0.dv (ZC (Zs (1-h.S)) h.P (i+1))) Fz))
omit hs hl in
theorem Zfu:CP (Zm f73 0) (Tm h all h.P.length).st (.ext 0) (Tg.st ⟨tm 61 [(1,.pt 8001 0 0),(2,.pt 8002 0 0),(3,nI 0),(4,Z2 all)],SK h (h.P.map (Zs (1-h.S))),8⟩):=by have hq:=Z1c (Zs (1-h.S)) h.P;have hn:=Ac (Zs (1-h.S)) h.P h.P.length;exact sF [] (fO 5)<|Ffb 37 (Lb ((h.P.length:Int)<(h.P.length:Int)))<|Fr (86:Int)<|Fa (by refine congrArg _ ?_;assumption:La Z0.dv (ZC (Zs (1-h.S)) h.P h.P.length)=La Z0.dv (La (Zs (1-h.S)) h.P)) Fz
theorem Zjp:CP (Zi f73 0) (Tg.st ⟨tm 61 [(1,.pt 8001 0 0),(2,.pt 8002 0 0),(3,nI 0),(4,Z2 all),(34,.ow 49030),(35,nI h.P.length),(36,nI 0)],SK h h.P,8⟩) .nrm (Tg.st ⟨tm 61 [(1,.pt 8001 0 0),(2,.pt 8002 0 0),(3,nI 0),(4,Z2 all)],SK h (h.P.map (Zs (1-h.S))),8⟩):=by have:=Bo (S:=λk=>(Tm h all k).st) h.P.length kr (λk a=>ZfD h all hs hl k a) (Zfu h all);simp only[Tm,Z5w]at this;exact this
end
def Zmx(h:Heap)(hw:Zw h.W)(c:Z9 h=O)(a:Bp h=⟨0,0,0⟩):GP 73 [h.av] Lc (.tu [(Zr h).av,nI 0]) []:=by have po:=B5 c;have ho:=H3 h;have g:=ZmM a;have b:h.P≠[]:=Da oq;exact gF [] func73 []<|Fc 9 (@Ei h)<|Ffb 10 (!Z9 h)<|Fc 13 (@Z3o h aa)<|Ffb 14 (!decide (Bp h=Ck.mk 0 0 0))<|Fc 18 (@SC h aa)<|Ffb 22 ((Zb h).2 != 0)<|Fc 27 (@Tx h.W oq)<|Fc 30 (@Z3n h.P oq aa)<|Fl 35 Z0.dv h.P<|Fu (@Zjp h ((Zb h).1) oq oq)<|Fnl (Fnl Fz)
def Nu(w:Z7):List (Nat×Z3):=[(22014,Bj w.Q),(21014,G0 w.T),(20014,Bj w.old),(19014,G2 w.j.P),(18014,Bj w.j.W),(17014,w.ckB 18014 19014 20014 21014 22014)]
def MD(w:Z7)(roots out:List Int)(i:Nat):Tg:=⟨tm 40 [(4,.pt 8004 0 0),(5,.d (.sl 0 [])),(6,nI 0),(7,.pt 17014 0 0),(8,.ow 24008),(15,Z2 roots),(16,nI roots.length),(17,nI i)],(24008,.arr 35 1 (out.map wD))::(8004,.box 127 zW)::Nu w,5⟩
section
variable(w:Z7)(roots out:List Int)(i:Nat)(f:FwOk w (roots.getD i M))(hl:roots.length<=1048576)(ho:out.length<=1048576)(hi:i<roots.length)
include f hl ho hi
theorem Z7X(e:(w.fwd (roots.getD i M)).2.2=0):CP (Zm f77 0) (MD w roots out i).st .nrm (MD (w.fwd (roots.getD i M)).1 roots (out++[(w.fwd (roots.getD i M)).2.1]) (i+1)).st:=by let a:=w.fwd (roots.getD i M);exact sF [(72034,24008),(57024,19014),(58024,21014),(59024,22014)] []<|Fh 34 [.els (La wD (out++[a.2.1]))]<|Ftb 18 (Lb ((i:Int)<(roots.length:Int)))<|Fek 19 wD roots (↑i) i<|Fbr 24 [17014,18014,19014,20014,21014,22014] (@Z9b w (roots.getD i M) aa aa)<|Fs 33 (La wD [a.2.1])<|Fa (by(simp[*];omega):(La wD out).length+(La wD [a.2.1]).length<=2^30)<|Fa (ms:La wD out++La wD [a.2.1]=La wD (out++[a.2.1]))<|Fx 35 i Fz
theorem Zlx(e:¬ (w.fwd (roots.getD i M)).2.2=0):CP (Zm f77 0) (MD w roots out i).st .ret (Tg.st ⟨tm 40 [(4,.pt 8004 0 0),(5,.d (.sl 0 [])),(6,nI (w.fwd (roots.getD i M)).2.2)],[(8004,.box 127 zW)],60⟩):=by exact sF [] []<|Ftb 18 (Lb ((i:Int)<(roots.length:Int)))<|Fek 19 wD roots (↑i) i<|Fbq 24 [17014,18014,19014,20014,21014,22014] (@Zh1 w (roots.getD i M) aa aa)<|Ftb 28 ((w.fwd (roots.getD i M)).2.2 != 0) Fz
end
def ZhA w roots out:CP (Zm f77 0) (MD w roots out roots.length).st (.ext 0) (Tg.st ⟨tm 40 [(4,.pt 8004 0 0),(7,.pt 17014 0 0),(8,.ow 24008)],(24008,.arr 35 1 (out.map wD))::(8004,.box 127 zW)::Nu w,5⟩):=by exact sF [] []<|Ffb 18 (Lb ((roots.length:Int)<(roots.length:Int))) Fz
def Z4b(w:Z7)(roots:List Int):Prop:=∀k,k<roots.length->(∀j,j<k->Ea w roots j=0)->FwOk (rootsN w roots k).1 (roots.getD k M)
section
variable(w:Z7)(roots:List Int)(hN:Z4b w roots)(hl:roots.length<=1048576)
include hN hl
theorem ZmZ(d:(Lg roots.length).find? (λk=>Lb (Ea w roots k≠0))=Lf):CP (Zi f77 0) (Tg.st ⟨tm 40 [(4,.pt 8004 0 0),(5,.d (.sl 0 [])),(6,nI 0),(7,.pt 17014 0 0),(8,.ow 24008),(15,Z2 roots),(16,nI roots.length),(17,nI 0)],(24008,.arr 35 1 [])::(8004,.box 127 zW)::Nu w,5⟩) .nrm (Tg.st ⟨tm 40 [(4,.pt 8004 0 0),(7,.pt 17014 0 0),(8,.ow 24008)],(24008,.arr 35 1 ((rootsN w roots roots.length).2.map wD))::(8004,.box 127 zW)::Nu (rootsN w roots roots.length).1,5⟩):=by
 have b:∀j,j<roots.length->Ea w roots j=0:=λj c=>by(have:=Ll.1 d j (Li.2 c);simpa using this)
 exact Bo (S:=λk=>(MD (rootsN w roots k).1 roots (rootsN w roots k).2 k).st) roots.length kr (λk a=>Z7X _ roots _ k (hN k a λj c=>b j oq) hl (by rw[Na];omega) a (b k a)) (ZhA _ roots _)
theorem Zds i(f:(Lg roots.length).find? (λk=>Lb (Ea w roots k≠0))=Le i):CP (Zi f77 0) (Tg.st ⟨tm 40 [(4,.pt 8004 0 0),(5,.d (.sl 0 [])),(6,nI 0),(7,.pt 17014 0 0),(8,.ow 24008),(15,Z2 roots),(16,nI roots.length),(17,nI 0)],(24008,.arr 35 1 [])::(8004,.box 127 zW)::Nu w,5⟩) .ret (Tg.st ⟨tm 40 [(4,.pt 8004 0 0),(5,.d (.sl 0 [])),(6,nI (Ea w roots i))],[(8004,.box 127 zW)],60⟩):=by
 obtain⟨d,a,e⟩:=Lm.1 f;have a:=Li.1 a;have b:∀j,j<i->Ea w roots j=0:=λj c=>by simpa using e j c
 exact EM (S:=λk=>(MD (rootsN w roots k).1 roots (rootsN w roots k).2 k).st) i kr (λk g=>Z7X _ roots _ k (hN k oq λj c=>b j oq) hl (by rw[Na];omega) oq (b k g)) (Zlx _ roots _ i (hN i a b) hl (by rw[Na];omega) a (by simpa[Ea]using d))
theorem ZgU(ln:Aj w):GP 77 [w.av,Z2 roots] O (.tu [(rootsF w roots).1.av,Z2 (rootsF w roots).2.1,nI (rootsF w roots).2.2]) []:=by
 cases hb:(Lg roots.length).find? (λk=>Lb (Ea w roots k≠0))with
 |none =>
  have e7:rootsF w roots=((rootsN w roots roots.length).1,(rootsN w roots roots.length).2,0):=by unfold rootsF;rw[hb]
  rw[e7];let y0:=rootsN w roots roots.length;exact gF [] func77 []<|Fh 8 [.own]<|Fbr 14 [] (@Z1W w aa)<|Fl 16 wD roots<|Fu (@ZmZ w roots aa aa aa)<|Fa (H9 _:Cf (La wD y0.1.j.W))<|Fa (Nn _:Cf (La Z0.dv y0.1.j.P))<|Fa (H9 _:Cf (La wD y0.1.old))<|Fa (M2 _:Cf (La iD y0.1.T))<|Fa (H9 _:Cf (La wD y0.1.Q))<|Fa (H9 _:Cf (La wD y0.2)) Fz
 |some i =>
  have e7:rootsF w roots=(GX,[],Ea w roots i):=by unfold rootsF;rw[hb]
  rw[e7];exact gF [] func77 []<|Fh 8 [.own]<|Fbr 14 [] (@Z1W w aa)<|Fl 16 wD roots<|Fu (@Zds w roots aa aa i aa)<|Fnl (Fnl (Fnl (Fnl (Fnl (Fnl Fz)))))
end
def Zc7 w(a:Aj w)(sc:0<=w.D)(hs:¬ w.D<w.Q.length):BP 131 [.pt 0 0 0] w.ckp (.tu [bL Lc,nI 0]) w.ckp:=by obtain⟨h1,h2,h3,h4,h5⟩:=a;exact borF [0,1,2,3,4,5] [] func131 []<|FlG 28 (!decide (w.D<0)) wD w.Q<|Ftb 30 (Lb (w.D<0)||Lb ((w.Q.length:Int)<=w.D)) Fz
def ZeT{ws:List Int}{a v:Int}(h:4096<=a/\a<4096+ws.length):(BS ws a v).1=ws.set (a-4096).toNat v:=by unfold BS ZY;rw[if_pos (by simp only[List.length_cons,List.length_nil];omega)];exact Zam oq
def SR(w:Z7):List (Nat×Z3):=[(0,w.ckB 1 8002 3 8004 8005),(1,Bj w.j.W),(8002,G2 w.j.P),(3,Bj w.old),(8004,G0 w.T),(8005,Bj w.Q)]
def PY(w:Z7)(a n:Int)(l:List Int)(k:Nat):Tg:=⟨tm 116 [(0,.pt 0 0 0),(2,bL Lc),(3,nI 0),(5,.os 1 (a-4096).toNat n.toNat),(9,ZD l),(72,ZD l),(73,nI l.length),(74,nI k)],SR w,12⟩
section
variable(w:Z7)(a n:Int)(l:List Int)(k:Nat)(hk:k<l.length)(b:l.length<=255)(hx:0<=l.getD k M/\l.getD k M+1<n)(hn:n<=256)(ha:4096<=a/\a-4096+n<=w.j.W.length)(f:FwOk w (Z1 w.j.W (a+1+l.getD k M)).1)
include hk b hx hn ha f
theorem Zlp(e:(w.fwd (Z1 w.j.W (a+1+l.getD k M)).1).2.2=0)(c:(w.fwd (Z1 w.j.W (a+1+l.getD k M)).1).1.j.W.length=w.j.W.length):CP (Zm f131 0) (PY w a n l k).st .nrm (PY (w.in1 (a+1+l.getD k M)) a n l (k+1)).st:=by
 have d:(Z1 w.j.W (a+1+l.getD k M)).1=w.j.W.getD ((a-4096).toNat+(1+l.getD k M).toNat) M:=by(unfold Z1;rw[if_pos oq,show(a-4096).toNat+(1+l.getD k M).toNat=(a+1+l.getD k M-4096).toNat by omega];rfl)
 have wl:=f.ck.ok.wl;have g:(w.in1 (a+1+l.getD k M))=⟨⟨(w.fwd (Z1 w.j.W (a+1+l.getD k M)).1).1.j.C,(w.fwd (Z1 w.j.W (a+1+l.getD k M)).1).1.j.W.set ((a-4096).toNat+(1+l.getD k M).toNat) (w.fwd (Z1 w.j.W (a+1+l.getD k M)).1).2.1,(w.fwd (Z1 w.j.W (a+1+l.getD k M)).1).1.j.P,(w.fwd (Z1 w.j.W (a+1+l.getD k M)).1).1.j.S,(w.fwd (Z1 w.j.W (a+1+l.getD k M)).1).1.j.B⟩,(w.fwd (Z1 w.j.W (a+1+l.getD k M)).1).1.old,(w.fwd (Z1 w.j.W (a+1+l.getD k M)).1).1.T,(w.fwd (Z1 w.j.W (a+1+l.getD k M)).1).1.Q,(w.fwd (Z1 w.j.W (a+1+l.getD k M)).1).1.D,(w.fwd (Z1 w.j.W (a+1+l.getD k M)).1).1.rep⟩:=by(unfold Z7.in1;rw[ZeT oq,show(a-4096).toNat+(1+l.getD k M).toNat=(a+1+l.getD k M-4096).toNat by omega])
 rw[g];rw[d]at e c f⊢;exact sF [(113085,8002),(114085,8004),(115085,8005)] []<|Fh 84 [.el (wD (w.j.W.getD ((a-4096).toNat+(1+l.getD k M).toNat) M))]<|Fh 10095 [.els (La wD ((w.fwd (w.j.W.getD ((a-4096).toNat+(1+l.getD k M).toNat) M)).1.j.W.set ((a-4096).toNat+(1+l.getD k M).toNat) (w.fwd (w.j.W.getD ((a-4096).toNat+(1+l.getD k M).toNat) M)).2.1))]<|Ftb 75 (Lb ((k:Int)<(l.length:Int)))<|Fek 76 iD l (↑k) k<|Fi 82 (1+l.getD k M)<|Fo ((0:Int)<=1+l.getD k M/\(1+l.getD k M).toNat<n.toNat)<|Fa (B6 oq:(La wD w.j.W)[(a-4096).toNat+(1+l.getD k M).toNat]?=Le (wD (w.j.W.getD ((a-4096).toNat+(1+l.getD k M).toNat) M)))<|Fbr 85 [0,1,8002,3,8004,8005] (@Z9b w (w.j.W.getD ((a-4096).toNat+(1+l.getD k M).toNat) M) aa aa)<|Fi 93 (1+l.getD k M)<|Fo ((0:Int)<=1+l.getD k M/\(1+l.getD k M).toNat<n.toNat)<|Fa (by(simp only[Lp];omega):(a-4096).toNat+(1+l.getD k M).toNat<(La wD (w.fwd (w.j.W.getD ((a-4096).toNat+(1+l.getD k M).toNat) M)).1.j.W).length)<|Fa (ms:(La wD (w.fwd (w.j.W.getD ((a-4096).toNat+(1+l.getD k M).toNat) M)).1.j.W).set ((a-4096).toNat+(1+l.getD k M).toNat) [ZZ (w.fwd (w.j.W.getD ((a-4096).toNat+(1+l.getD k M).toNat) M)).2.1]=La wD ((w.fwd (w.j.W.getD ((a-4096).toNat+(1+l.getD k M).toNat) M)).1.j.W.set ((a-4096).toNat+(1+l.getD k M).toNat) (w.fwd (w.j.W.getD ((a-4096).toNat+(1+l.getD k M).toNat) M)).2.1))<|Fx 96 k Fz
end
def Zmj w a n l:CP (Zm f131 0) (PY w a n l l.length).st (.ext 0) (Tg.st ⟨tm 116 [(0,.pt 0 0 0),(9,ZD l)],SR w,12⟩):=by exact sF [] []<|Ffb 75 (Lb ((l.length:Int)<(l.length:Int))) Fz
structure Z3L (w:Z7) (a:Int) (l:List Int):Prop where
 f:∀k,k<l.length->(∀j,j<k->CQ w a l j=0)->FwOk (Bg w a l k) (Z1 (Bg w a l k).j.W (a+1+l.getD k M)).1
 h:∀k,k<=l.length->(∀j,j<k->CQ w a l j=0)->(Bg w a l k).j.W.length=w.j.W.length
 m:∀k,k<l.length->(∀j,j<k->CQ w a l j=0)->((Bg w a l k).fwd (Z1 (Bg w a l k).j.W (a+1+l.getD k M)).1).2.2=0->((Bg w a l k).fwd (Z1 (Bg w a l k).j.W (a+1+l.getD k M)).1).1.j.W.length=w.j.W.length
section
variable(w:Z7)(a n:Int)(l:List Int)(hN:Z3L w a l)(b:l.length<=255)(hr:∀x∈l,0<=x/\x+1<n)(d:n<=256)(c:4096<=a/\a-4096+n<=w.j.W.length)
include hN b hr d c
theorem Zch(m:(Lg l.length).find? (λk=>Lb (CQ w a l k≠0))=Lf):CP (Zi f131 0) (Tg.st ⟨tm 116 [(0,.pt 0 0 0),(2,bL Lc),(3,nI 0),(5,.os 1 (a-4096).toNat n.toNat),(9,ZD l),(72,ZD l),(73,nI l.length),(74,nI 0)],SR w,12⟩) .nrm (Tg.st ⟨tm 116 [(0,.pt 0 0 0),(9,ZD l)],SR (Bg w a l l.length),12⟩):=by
 have g:∀j,j<l.length->CQ w a l j=0:=λj i=>by(have:=Ll.1 m j (Li.2 i);simpa using this)
 have o:∀k,k<l.length->0<=l.getD k M/\l.getD k M+1<n:=λk e=>hr _ (ZT.2 ⟨k,e,rfl⟩);exact Bo (S:=λk=>(PY (Bg w a l k) a n l k).st) l.length kr (λk e=>by
  have f:∀j,j<k->CQ w a l j=0:=λj i=>g j oq;have h:=hN.h k oq f;exact Zlp _ a n l k e b (o k e) d (by rw[h];exact c) (hN.f k e f) (g k e) ((hN.m k e f (g k e)).trans h.symm)) (Zmj _ a n l)
end
def Zci w(k:N0 w)(hs:w.D<w.Q.length)(sc:0<=w.D)(hr:4096<=w.Q.getD w.D.toNat M/\w.Q.getD w.D.toNat M+Zl w.j.W (w.Q.getD w.D.toNat M)<4096+w.j.W.length)(hd:(Z8 (Z1 w.j.W (w.Q.getD w.D.toNat M)).1).2=O)(hN:Z3L w (C4 w) (Bh w))(a:∀j,j<(Bh w).length->CQ w (C4 w) (Bh w) j=0):BP 131 [.pt 0 0 0] w.ckp (.tu [bL O,nI 0]) (Hk (Bg w (C4 w) (Bh w) (Bh w).length) (Bh w).length).ckq:=by
 have c:(Lg (Bh w).length).find? (λk=>Lb (CQ w (C4 w) (Bh w) k≠0))=Lf:=Ll.2 λj d=>by simp[a j (Li.1 d)]
 have f:=k.mem;obtain⟨h1,h2,h3,h4,h5⟩:=k.ln;have ok:=k.ok;have k1:=N9 ok (C4 w) (Bh w) (Bh w).length a;have h:=k1.1.rs;have i:=k1.1.sc;have l:=k1.1.mu;have n:=(Au (ZB w (C4 w)));have m:∀x∈Bh w,0<=x/\x+1<Zl w.j.W (C4 w)+1:=λx g=>by(have:=R5 (ZB w (C4 w)) x g;unfold ZB at this;unfold Zl;omega)
 have lr:=Bq w.j.W (w.Q.getD w.D.toNat M);have cf:=BJ.1 ok.C;have ld:=ES ok.W (w.Q.getD w.D.toNat M);have b:=H7 w (w.Q.getD w.D.toNat M);have o:=RB w (w.Q.getD w.D.toNat M);have e:=Nb (Z1 w.j.W (w.Q.getD w.D.toNat M)).1 ld.1;have el:(Z1 w.j.W (w.Q.getD w.D.toNat M)).1=w.j.W.getD ((w.Q.getD w.D.toNat M-4096).toNat+Ld 0) M:=by(unfold Z1;rw[if_pos oq];rfl)
 unfold Bh C4 ZB at *;rw[el]at hd ld b o e hN a c k1 h i l n⊢;try rw[el]at m
 rw[show Hk (Bg w (w.Q.getD w.D.toNat M) (Zj (Z8 (w.j.W.getD ((w.Q.getD w.D.toNat M-(4096:Int)).toNat+Ld (0:Int)) M)).1) (Zj (Z8 (w.j.W.getD ((w.Q.getD w.D.toNat M-(4096:Int)).toNat+Ld (0:Int)) M)).1).length) (↑(Zj (Z8 (w.j.W.getD ((w.Q.getD w.D.toNat M-(4096:Int)).toNat+Ld (0:Int)) M)).1).length:Int)=Z7.mk (Bg w (w.Q.getD w.D.toNat M) (Zj (Z8 (w.j.W.getD ((w.Q.getD w.D.toNat M-(4096:Int)).toNat+Ld (0:Int)) M)).1) (Zj (Z8 (w.j.W.getD ((w.Q.getD w.D.toNat M-(4096:Int)).toNat+Ld (0:Int)) M)).1).length).j (Bg w (w.Q.getD w.D.toNat M) (Zj (Z8 (w.j.W.getD ((w.Q.getD w.D.toNat M-(4096:Int)).toNat+Ld (0:Int)) M)).1) (Zj (Z8 (w.j.W.getD ((w.Q.getD w.D.toNat M-(4096:Int)).toNat+Ld (0:Int)) M)).1).length).old (Bg w (w.Q.getD w.D.toNat M) (Zj (Z8 (w.j.W.getD ((w.Q.getD w.D.toNat M-(4096:Int)).toNat+Ld (0:Int)) M)).1) (Zj (Z8 (w.j.W.getD ((w.Q.getD w.D.toNat M-(4096:Int)).toNat+Ld (0:Int)) M)).1).length).T (Bg w (w.Q.getD w.D.toNat M) (Zj (Z8 (w.j.W.getD ((w.Q.getD w.D.toNat M-(4096:Int)).toNat+Ld (0:Int)) M)).1) (Zj (Z8 (w.j.W.getD ((w.Q.getD w.D.toNat M-(4096:Int)).toNat+Ld (0:Int)) M)).1).length).Q ((Bg w (w.Q.getD w.D.toNat M) (Zj (Z8 (w.j.W.getD ((w.Q.getD w.D.toNat M-(4096:Int)).toNat+Ld (0:Int)) M)).1) (Zj (Z8 (w.j.W.getD ((w.Q.getD w.D.toNat M-(4096:Int)).toNat+Ld (0:Int)) M)).1).length).D+(1:Int)) (Rep.mk (Bg w (w.Q.getD w.D.toNat M) (Zj (Z8 (w.j.W.getD ((w.Q.getD w.D.toNat M-(4096:Int)).toNat+Ld (0:Int)) M)).1) (Zj (Z8 (w.j.W.getD ((w.Q.getD w.D.toNat M-(4096:Int)).toNat+Ld (0:Int)) M)).1).length).rep.copied (Bg w (w.Q.getD w.D.toNat M) (Zj (Z8 (w.j.W.getD ((w.Q.getD w.D.toNat M-(4096:Int)).toNat+Ld (0:Int)) M)).1) (Zj (Z8 (w.j.W.getD ((w.Q.getD w.D.toNat M-(4096:Int)).toNat+Ld (0:Int)) M)).1).length).rep.kept (Bg w (w.Q.getD w.D.toNat M) (Zj (Z8 (w.j.W.getD ((w.Q.getD w.D.toNat M-(4096:Int)).toNat+Ld (0:Int)) M)).1) (Zj (Z8 (w.j.W.getD ((w.Q.getD w.D.toNat M-(4096:Int)).toNat+Ld (0:Int)) M)).1).length).rep.filled (Bg w (w.Q.getD w.D.toNat M) (Zj (Z8 (w.j.W.getD ((w.Q.getD w.D.toNat M-(4096:Int)).toNat+Ld (0:Int)) M)).1) (Zj (Z8 (w.j.W.getD ((w.Q.getD w.D.toNat M-(4096:Int)).toNat+Ld (0:Int)) M)).1).length).rep.freed (Bg w (w.Q.getD w.D.toNat M) (Zj (Z8 (w.j.W.getD ((w.Q.getD w.D.toNat M-(4096:Int)).toNat+Ld (0:Int)) M)).1) (Zj (Z8 (w.j.W.getD ((w.Q.getD w.D.toNat M-(4096:Int)).toNat+Ld (0:Int)) M)).1).length).rep.cleared ((Bg w (w.Q.getD w.D.toNat M) (Zj (Z8 (w.j.W.getD ((w.Q.getD w.D.toNat M-(4096:Int)).toNat+Ld (0:Int)) M)).1) (Zj (Z8 (w.j.W.getD ((w.Q.getD w.D.toNat M-(4096:Int)).toNat+Ld (0:Int)) M)).1).length).rep.steps+((1:Int)+(↑(Zj (Z8 (w.j.W.getD ((w.Q.getD w.D.toNat M-(4096:Int)).toNat+Ld (0:Int)) M)).1).length:Int))))from by(simp[Hk, *];omega)];exact borF [0,1,8002,3,8004,8005] [8002,8004,8005] func131 []<|Fh 52 [.el (wD (w.j.W.getD ((w.Q.getD w.D.toNat M-4096).toNat+Ld 0) M))]<|FlG 28 (!decide (w.D<0)) wD w.Q<|Ffb 30 (Lb (w.D<0)||Lb ((w.Q.length:Int)<=w.D))<|Fmq 40 wD w.Q w.D<|Fbq 44 [0,1,8002,3,8004,8005] (@HD w (w.Q.getD w.D.toNat M) (1) aa oq)<|Fo ((0:Int)<=0/\Ld 0<Ld 1)<|Fa (B6 oq:(La wD w.j.W)[(w.Q.getD w.D.toNat M-4096).toNat+Ld 0]?=Le (wD (w.j.W.getD ((w.Q.getD w.D.toNat M-4096).toNat+Ld 0) M)))<|Fc 53 (@Hm (w.j.W.getD ((w.Q.getD w.D.toNat M-4096).toNat+Ld 0) M) oq oq)<|Fc 60 (@EZ ((Z8 (w.j.W.getD ((w.Q.getD w.D.toNat M-4096).toNat+Ld 0) M)).1) aa)<|Fbq 61 [0,1,8002,3,8004,8005] (@HD w (w.Q.getD w.D.toNat M) (Z5 (Z8 (w.j.W.getD ((w.Q.getD w.D.toNat M-4096).toNat+Ld 0) M)).1) aa oq)<|Ffs 69 (!(Z8 (w.j.W.getD ((w.Q.getD w.D.toNat M-4096).toNat+Ld 0) M)).2||Lc)<|Fc 71 (@Pb ((Z8 (w.j.W.getD ((w.Q.getD w.D.toNat M-4096).toNat+Ld 0) M)).1) aa)<|Fl 73 iD (Zj (Z8 (w.j.W.getD ((w.Q.getD w.D.toNat M-(4096:Int)).toNat+Ld (0:Int)) M)).1)<|Fu (@Zch w (w.Q.getD w.D.toNat M) (Z5 (Z8 (w.j.W.getD ((w.Q.getD w.D.toNat M-4096).toNat+Ld 0) M)).1) (Zj (Z8 (w.j.W.getD ((w.Q.getD w.D.toNat M-4096).toNat+Ld 0) M)).1) aa oq (by grind[Hk]) oq oq aa)<|Fi 101 ((Bg w (w.Q.getD w.D.toNat M) (Zj (Z8 (w.j.W.getD ((w.Q.getD w.D.toNat M-4096).toNat+Ld 0) M)).1) (Zj (Z8 (w.j.W.getD ((w.Q.getD w.D.toNat M-4096).toNat+Ld 0) M)).1).length).D+1)<|Fl 110 iD (Zj (Z8 (w.j.W.getD ((w.Q.getD w.D.toNat M-(4096:Int)).toNat+Ld (0:Int)) M)).1)<|Fi 111 (1+(↑(Zj (Z8 (w.j.W.getD ((w.Q.getD w.D.toNat M-4096).toNat+Ld 0) M)).1).length:Int))<|Fi 112 ((Bg w (w.Q.getD w.D.toNat M) (Zj (Z8 (w.j.W.getD ((w.Q.getD w.D.toNat M-4096).toNat+Ld 0) M)).1) (Zj (Z8 (w.j.W.getD ((w.Q.getD w.D.toNat M-4096).toNat+Ld 0) M)).1).length).rep.steps+(1+(↑(Zj (Z8 (w.j.W.getD ((w.Q.getD w.D.toNat M-4096).toNat+Ld 0) M)).1).length:Int))) Fz
structure IA (w:Z7):Prop where
 k:N0 w
 sc:0<=w.D
 hr:w.D<w.Q.length->4096<=w.Q.getD w.D.toNat M/\w.Q.getD w.D.toNat M+Zl w.j.W (w.Q.getD w.D.toNat M)<4096+w.j.W.length
 hd:w.D<w.Q.length->(Z8 (Z1 w.j.W (w.Q.getD w.D.toNat M)).1).2=O
 hN:w.D<w.Q.length->Z3L w (C4 w) (Bh w)
def KI.sd{h T}:∀w n,(∃a,KI h T a w)->∃a,KI h T a (Hk w n):=
 λw n ⟨a,k⟩=>⟨a,k.c,k.sp,k.old,k.pl,k.wl,k.pg,k.tk,k.tk0,k.q,k.hd,k.dt,k.lg⟩
section
variable{h:Heap}{T:Nat->List Int}{w:Z7}(c:Gg h T w)(g:Gd h T)
include c g
theorem Gg.dec{q:Int}(b:q∈w.Q):(Z8 (Z1 w.j.W q).1).2=O:=by obtain⟨tq,k⟩:=c.k;rcases k.q q b with⟨i,nt,a,hk,d⟩|⟨i,f,a⟩;rcases k.hd i q a with e|e;rw[e];exact(g.on a).2.2.2.2.2.1;exact absurd e.2.2 d;exact(Hf (k.tk i f).2.2.2.2.2.1 a).1
theorem Gg.in1{q j:Int}(d:q∈w.Q)(a:0<=j)(b:j<Zl w.j.W q)(e:(w.fwd (Z1 w.j.W (q+1+j)).1).2.2=0):Gg h T (w.in1 (q+1+j)):=by obtain⟨tq,k⟩:=c.k;exact⟨k.in1 g c.ok c.inv d ⟨a,b⟩ e,(Z7C c.ok _ e).1,(Z5M c.ok c.inv d ⟨a,b⟩ e).1,c.so.fwd c.ok _ e⟩
theorem Gg.inn{q:Int}(a:q∈w.Q){l:List Int}(hl:∀x∈l,0<=x/\x<Zl w.j.W q)(k:Nat)(d:k<=l.length)(b:∀j,j<k->CQ w q l j=0):Gg h T (Bg w q l k):=
 ⟨TB (λw=>∃o,KI h T o w) (λw q j f n ⟨_,k⟩ a i m e=>k.in1 g f n a ⟨i,m⟩ e) c.ok c.inv c.k a hl k d b,(N9 c.ok q l k b).1,(MP c.ok c.inv a hl k d b).1,TB (λw=>Hc w.j.P) (λw q j f n p a i m e=>p.fwd f _ e) c.ok c.inv c.so a hl k d b⟩
theorem Gg.step(e:(B1 w).2.2=0):Gg h T (B1 w).1:=
 ⟨Z0e (λw=>∃l,KI h T l w) (λw q j a f ⟨_,k⟩ i b d e=>k.in1 g a f i ⟨b,d⟩ e) KI.sd c.ok c.inv c.k e,(Oy c.ok e).1,(Z2H c.ok c.inv e).1,Z0e (λw=>Hc w.j.P) (λw q j a f p i b d e=>p.fwd a _ e) (λ_ _ p=>p) c.ok c.inv c.so e⟩
theorem Gg.stp:IA w:=by have sc:=c.ok.sc;have i:w.D<w.Q.length->C4 w∈w.Q:=λb=>ZT.2 ⟨w.D.toNat,by omega,rfl⟩;refine⟨c.ck,sc.1,λb=>c.inv.r _ (List.mem_append_right _ (i b)),λb=>c.dec g (i b),λb=>?_⟩;obtain⟨tq,m⟩:=c.k;have n:=R5 (ZB w (C4 w));have f:=λk d a=>c.inn g (i b) (l:=Bh w) n k d a;refine⟨λk d a=>(f k oq a).fw g (ES (f k oq a).ok.W _),λk d a=>?_,λk d a e=>?_⟩;obtain⟨_,j⟩:=(f k d a).k;exact j.wl.trans m.wl.symm;obtain⟨_,j⟩:=((f k oq a).fwd g e).k;exact j.wl.trans m.wl.symm
theorem Gg.roots{roots}(k:Nat)(a:∀j,j<k->Ea w roots j=0):Gg h T (rootsN w roots k).1:=by
 induction k with|zero=>exact c|succ k b=>exact(b λj hj=>a j oq).fwd g (a k oq)
theorem Gg.rts{roots}(hr:Zw roots):Z4b w roots:=λk hk a=>(c.roots g k a).fw g (Z1n hr k)
theorem Gg.rootsF{roots}(e:(rootsF w roots).2.2=0):Gg h T (rootsF w roots).1:=by
 cases hb:(Lg roots.length).find? (λk=>Lb (Ea w roots k≠0))with
 |none =>
  have b:∀j,j<roots.length->Ea w roots j=0:=λj d=>by(have:=Ll.1 hb j (Li.2 d);simpa using this)
  have a:Go.Proofs.YtgedmeaemofdkaaGreat.rootsF w roots=((rootsN w roots roots.length).1,(rootsN w roots roots.length).2,0):=by unfold Go.Proofs.YtgedmeaemofdkaaGreat.rootsF;rw[hb]
  rw[a];exact c.roots g _ b
 |some i =>
  have a:Go.Proofs.YtgedmeaemofdkaaGreat.rootsF w roots=(GX,[],Ea w roots i):=by unfold Go.Proofs.YtgedmeaemofdkaaGreat.rootsF;rw[hb]
  rw[a]at e;have:=of_decide_eq_true (Lm.1 hb).1;exact absurd e this
end
def Sq(w:Z7):List (Nat×Z3):=[(22009,Bj w.Q),(21009,G0 w.T),(20009,Bj w.old),(19009,G2 w.j.P),(18009,Bj w.j.W)]
def Z0L(w:Z7):Tg:=⟨tm 26 [(2,.pt 8002 0 0),(3,nI 0),(4,.pt 17009 0 0),(5,.fm 131 (.pt 17009 0 0))],(8002,.box 127 zW)::(17009,w.ckB 18009 19009 20009 21009 22009)::Sq w,4⟩
def Z2R{w}(m:(B1 w).2.1=O):w.D<w.Q.length/\(∀j,j<(Bh w).length->CQ w (C4 w) (Bh w) j=0)/\(B1 w).1=Hk (Bg w (C4 w) (Bh w) (Bh w).length) (Bh w).length:=by
 unfold B1 at m⊢;split at m;rename_i a;rw[if_pos a];cases hb:(Lg (Bh w).length).find? (λk=>Lb (CQ w (C4 w) (Bh w) k≠0))with|none =>refine⟨a,λj b=>?_,rfl⟩;have:=Ll.1 hb j (Li.2 b);simpa using this|some i=>rw[hb]at m;cases m
 cases m
def step_end{w}(e:(B1 w).2.2=0)(m:(B1 w).2.1=Lc):¬ w.D<w.Q.length/\(B1 w).1=w:=by
 unfold B1 at e m⊢;split at m;rename_i a;rw[if_pos a]at e;cases hb:(Lg (Bh w).length).find? (λk=>Lb (CQ w (C4 w) (Bh w) k≠0))with|none=>rw[hb]at m;cases m|some i =>rw[hb]at e;exact absurd e (of_decide_eq_true (Lm.1 hb).1)
 rename_i a;rw[if_neg a];exact⟨a,rfl⟩
def ZcW w(k:IA w)(m:(B1 w).2.1=O):CP (Zm f78 0) (Z0L w).st .nrm (Z0L (B1 w).1).st:=by obtain⟨a,h0,e⟩:=Z2R m;rw[e];obtain⟨kk,sc,hr,hd,hN⟩:=k;have hr:=hr a;have hd:=hd a;have hN:=hN a;exact sF [(33014,19009),(34014,21009),(35014,22009)] []<|Fbr 14 [17009,18009,19009,20009,21009,22009] (@Zci w aa aa aa aa aa aa aa) Fz
def Zdp w(k:IA w)(hs:¬ w.D<w.Q.length):CP (Zm f78 0) (Z0L w).st .ret (Tg.st ⟨tm 26 [(2,.pt 8002 0 0),(3,nI 0)],(8002,.box 127 (w.ckc 18009 19009 20009 21009 22009))::Sq w,60⟩):=by have ln:=k.k.ln;have sc:=k.sc;exact sF [] []<|Fbq 14 [17009,18009,19009,20009,21009,22009] (@Zc7 w aa aa aa) Fz
def Z2w(w:Z7):Prop:=∀k,(∀j,j<k->Eu w j=Lc)->IA (BZ w k)/\(B1 (BZ w k)).2.2=0
def Z9S{w}{j:Nat}(h:Eu w j=Lc):(B1 (BZ w j)).2.1=O:=by simp only[Eu,decide_eq_false_iff_not,not_or,L4]at h;simpa using h.2
def ZgB w(R:Z2w w) k(d:(Lg (S9 w)).find? (Eu w)=Le k):CP (Zi f78 0) (Tg.st ⟨tm 26 [(2,.pt 8002 0 0),(3,nI 0),(4,.pt 17009 0 0),(5,.fm 131 (.pt 17009 0 0))],(8002,.box 127 zW)::(17009,w.ckB 18009 19009 20009 21009 22009)::Sq w,4⟩) .ret (Tg.st ⟨tm 26 [(2,.pt 8002 0 0),(3,nI 0)],(8002,.box 127 ((Bz w).1.ckc 18009 19009 20009 21009 22009))::Sq (Bz w).1,60⟩):=by
 obtain⟨c,h2,l⟩:=Lm.1 d;have a:∀j,j<k->Eu w j=Lc:=λj b=>by simpa using l j b
 obtain⟨f,e⟩:=R k a;have m:(B1 (BZ w k)).2.1=Lc:=by(simp only[Eu,decide_eq_true_eq,e]at c;simpa using c)
 obtain⟨n,g⟩:=step_end e m;have h:Bz w=(BZ w k,0):=by rw[Bz,d];simp only[if_pos e];rw[g]
 rw[h];exact EM (S:=λk=>(Z0L (BZ w k)).st) k kr (λj b=>ZcW _ (R j λi hi=>a i oq).1 (Z9S (a j b))) (Zdp _ f n)
def ZdQ(w:Z7)(hw:Bb w)(R:Z2w w):GP 78 [w.av] O (.tu [(Bz w).1.av,nI 0]) []:=by
 obtain⟨k,hb⟩:=SE hw;have ln:=(R 0 λj hj=>absurd hj (Nat.not_lt_zero j)).1.k.ln;have ln:Aj w:=ln;exact gF [] func78 []<|Fbr 9 [] (@Z1W w aa)<|Fu (@ZgB w aa k hb)<|Fa (H9 _:Cf (La wD (Bz w).1.j.W))<|Fa (Nn _:Cf (La Z0.dv (Bz w).1.j.P))<|Fa (H9 _:Cf (La wD (Bz w).1.old))<|Fa (M2 _:Cf (La iD (Bz w).1.T))<|Fa (H9 _:Cf (La wD (Bz w).1.Q)) Fz
end Go.Proofs.YtgedmeaemofdkaaGreat
