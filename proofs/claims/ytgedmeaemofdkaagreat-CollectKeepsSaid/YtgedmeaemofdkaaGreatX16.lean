/-
 The statement CollectKeeps: part 16.
 Conditions: none.
-/
import Derived.Defers
import Derived.WalkKit
import Derived.Test.YtgedmeaemofdkaaGreatX15
set_option maxRecDepth 100000
set_option maxHeartbeats 2000000
set_option linter.all false
open Inhabited renaming default->M
open Bool renaming true->O,false->Lc,not_eq_true'->Lx,and_eq_true->LG,or_false->LH
open List renaming map->La,range->Lg,replicate->Lh,mem_range->Li,drop->Lj,take->Lk,find?_eq_none->Ll,find?_range_eq_some->Lm,getD_eq_getElem?_getD->Lo,length_map->Lp,length_take->Lr,getElem?_eq_getElem->Ls,length_replicate->Lt,map_append->Lu,getElem?_drop->Ly,getElem?_take->Lz,length_drop->LA,map_drop->LB,map_take->LC,find?_cons->LQ,getElem?_append->LR,getElem?_append_left->LS,getElem?_append_right->LU,map_replicate->LV,mem_map->LW,mem_of_find?_eq_some->LY,mem_of_getElem?->LZ,mem_replicate->L0,nodup_nil->L1
open Decidable renaming decide->Lb,not_not->L4
open Int renaming toNat->Ld,add_mul->LI,mul_comm->LL,mul_le_mul_of_nonneg_right->LM,one_mul->LN,tdiv_eq_ediv_of_nonneg->LO
open Option renaming some->Le,none->Lf,getD_some->LD,isSome_iff_exists->L2,map_some->L3
open Classical renaming not_not->Ln
open Go.IntKind renaming i64->Lq
open Nat renaming le_refl->Lv
open Array renaming replicate->Lw,getElem?_append->LF
open Go.Proofs.Tryz
namespace Go.Sx
def CSpec.seq{P c d s t u e}(h:CSpec P c s .nrm t)(k:CSpec P d t e u):CSpec P (.seq c d) s e u:=by intro f b g a w S;refine wp_seq (wp_mono (h f b g a w S) ?_);rintro e' j l ⟨rfl,i⟩;exact k f b g j l i
def ZkH{P:Program}{f:Nat}{fn c}{args l:List AV}{fr}{res x:AV}{ns:List Z3}{p qq:List Prop}{st}{kp:List Nat}(b:kp.Nodup)(s:P.funcs[f]?=Le fn)(r:fn.body=Le c)(h:CSpec P c ⟨args++Lh (fn.ntmps-args.length) .any,λ_=>Lf,1⟩ .ret st)(hl:Rw P st.tmps st.H fn.results.toList=Le l)(t:TL kp st.H fr (A9 l)=Le (x,p))(g:B8 p)(d:B8 (Ic x res).2)(n:(Ic x res).1=res)(k:AI kp st.H fr=Le (ns,qq))(i:B8 qq):GSpec P f args fr res ns:=by intro w Im vs j m a;refine calls_of_wp s r (wp_mono (h _ _ _ _ _ (Z34 j m a)) ?_);rintro e a' w' ⟨rfl,S⟩;obtain⟨v,o,q⟩:=Z2W b S hl t g d n k i;obtain⟨_,_,_,T⟩:=S;exact⟨T.defers,v,o,v,rfl,q⟩
def Sys.defer{Ow Im0 w0 w tmps H clk a}(S:Sys Ow Im0 w0 tmps H clk a w)(D:List Deferred):Sys ⟨Ow.p,D⟩ Im0 w0 tmps H clk {a with defers:=D} w:=by obtain⟨ρ,b,I,T⟩:=S;exact⟨ρ,b,⟨I.kept,I.inj,I.notIm,I.bnd,I.own,I.imb,I.im0,I.blk,I.fresh,I.one⟩,⟨T.size,T.tmp,rfl⟩⟩
def Ps{P}{i:Nat}{l}{ops:Array Oper}{Q o a w}(c:ops[i]?=Le o)(b:o.guard=Lf)(h:o.wp P a w (wpOps P ops Q l) Q):wpOps P ops Q (i::l) a w:=by rw[wpOps];simp only[c];rw[if_pos (by simp[Region.wanted,b])];exact .inl h
def ZjF:Code->Code|.seq _ y=>y|c=>c
def ZjG:Code->Code|.seq x _=>x|c=>c
def Z5M:Nat->Code->Code|0,c=>c|n+1,c=>Z5M n (ZjF c)
def tlF(fn:Func)(n:Nat):Code:=match fn.body with|some c=>Z5M n c|none=>.skip
def RF(fn:Func)(n:Nat):Code:=ZjG (tlF fn n)
end Go.Sx
namespace Go.Proofs.YtgedmeaemofdkaaGreat
open Go.Sx Go.RowKit
def ED(s k:List Int):AV:=.d (.sl 1 [[.sl 1 (s.map wD)],[.sl 1 (k.map wD)]])
def ccA(s k:List Int)(n:Int)(i:Nat):Tg:=⟨tm 36 [(0,ED s k),(2,.d (.sl 0 [])),(3,nI n),(9,ED s k),(10,nI 2),(11,nI i)],[],4⟩
section
variable(s k:List Int)(hs:s.length<=1048575)(hk:k.length<=1048575)
include hs hk
theorem ZhL:CP (Zm f75 0) (ccA s k 0 0).st .nrm (ccA s k s.length 1).st:=by exact sF [] (fO 2)<|Fh 13 [.el [DV.sl 1 (La wD s)]]<|Fa (by simp[*]:0<=(↑(0:Nat):Int)/\[[DV.sl 1 (La wD s)],[DV.sl 1 (La wD k)]][(↑(0:Nat):Int).toNat]?=Le [DV.sl 1 (La wD s)])<|Fl 17 wD s<|Fi 18 (0+(s.length:Int))<|Fo (0+(s.length:Int)=(s.length:Int)) Fz
theorem ZcJ:CP (Zm f75 0) (ccA s k s.length 1).st .nrm (ccA s k (s.length+k.length) 2).st:=by exact sF [] []<|Fh 13 [.el [DV.sl 1 (La wD k)]]<|Fa (by simp[*]:0<=(↑(1:Nat):Int)/\[[DV.sl 1 (La wD s)],[DV.sl 1 (La wD k)]][(↑(1:Nat):Int).toNat]?=Le [DV.sl 1 (La wD k)])<|Fl 17 wD k<|Fi 18 ((s.length:Int)+(k.length:Int)) Fz
theorem Zks:CP (Zm f75 0) (ccA s k (s.length+k.length) 2).st (.ext 0) (Tg.st ⟨tm 36 [(0,ED s k),(2,.d (.sl 0 [])),(3,nI (s.length+k.length))],[],4⟩):=by exact sF [] [] Fz
def ZbT  := Bp (S:=λi=>(ccA s k (if i=0 then 0 else if i=1 then s.length else s.length+k.length) i).st) 2 (by kernel_rfl) (λi hi=>by
  have:i=0\/i=1:=by omega
  rcases this with rfl|rfl
  .exact ZhL s k hs hk
  .exact ZcJ s k hs hk) (Zks s k hs hk)
theorem ZgC:CP (RF f75 0) (Tg.st ⟨tm 36 [(0,ED s k)],[],1⟩) .nrm (Tg.st ⟨tm 36 [(0,ED s k),(2,.d (.sl 0 []))],[],2⟩):=by exact sF [] [] Fz
theorem Zd3:CP (RF f75 1) (Tg.st ⟨tm 36 [(0,ED s k),(2,.d (.sl 0 []))],[],2⟩) .nrm (Tg.st ⟨tm 36 [(0,ED s k),(2,.d (.sl 0 [])),(3,nI 0)],[],3⟩):=by exact sF [] [] Fz
theorem ZfZ:CP (RF f75 2) (Tg.st ⟨tm 36 [(0,ED s k),(2,.d (.sl 0 [])),(3,nI 0)],[],3⟩) .nrm (Tg.st ⟨tm 36 [(0,ED s k),(3,nI (s.length+k.length))],[],5⟩):=by exact sF [] []<|Fh 10 [.int (↑(0+1+1):Int)]<|Fr (↑[[DV.sl (1:Nat) (La wD s)],[DV.sl (1:Nat) (La wD k)]].length:Int)<|Fu (@ZbT s k aa aa) Fz
def ccD(s k:List Int)(l:List Int)(i:Nat):Tg:=⟨tm 36 [(6,.ow 41024),(25,ED s k),(26,nI 2),(27,nI i)],[(41024,.arr 35 1 (l.map wD))],7⟩
theorem ZfU:CP (Zm f75 2) (ccD s k [] 0).st .nrm (ccD s k s 1).st:=by
 exact sF [(72033,41024)] []<|Fh 29 [.el [DV.sl 1 (La wD s)]]<|Fa (by simp[*]:0<=(↑(0:Nat):Int)/\[[DV.sl 1 (La wD s)],[DV.sl 1 (La wD k)]][(↑(0:Nat):Int).toNat]?=Le [DV.sl 1 (La wD s)])<|Fa (by(simp[*];omega):(La wD []).length+(La wD s).length<=2^30)<|Fs 33 (La wD s) Fz
theorem ZiG:CP (Zm f75 2) (ccD s k s 1).st .nrm (ccD s k (s++k) 2).st:=by
 exact sF [(72033,41024)] []<|Fh 29 [.el [DV.sl 1 (La wD k)]]<|Fh 33 [.els (La wD (s++k))]<|Fa (by simp[*]:0<=(↑(1:Nat):Int)/\[[DV.sl 1 (La wD s)],[DV.sl 1 (La wD k)]][(↑(1:Nat):Int).toNat]?=Le [DV.sl 1 (La wD k)])<|Fa (by(simp only[Lp];omega):(La wD s).length+(La wD k).length<=2^30)<|Fa (ms:La wD s++La wD k=La wD (s++k)) Fz
theorem Zl7:CP (Zm f75 2) (ccD s k (s++k) 2).st (.ext 2) (Tg.st ⟨tm 36 [(6,.ow 41024)],[(41024,.arr 35 1 ((s++k).map wD))],7⟩):=by exact sF [] [] Fz
def Zmz  := Bp (S:=λi=>(ccD s k (if i=0 then []else if i=1 then s else s++k) i).st) 2 (by kernel_rfl) (λi hi=>by
  have:i=0\/i=1:=by omega
  rcases this with rfl|rfl
  .exact ZfU s k hs hk
  .exact ZiG s k hs hk) (Zl7 s k hs hk)
theorem ZhO:CP (tlF f75 4) (Tg.st ⟨tm 36 [(0,ED s k),(6,.ow 41024)],[(41024,.arr 35 1 [])],6⟩) .ret (Tg.st ⟨tm 36 [(2,.ow 41024)],[(41024,.arr 35 1 ((s++k).map wD))],8⟩):=by exact sF [] []<|Fh 26 [.int (↑(0+1+1):Int)]<|Fr (↑[[DV.sl (1:Nat) (La wD s)],[DV.sl (1:Nat) (La wD k)]].length:Int)<|Fu (@Zmz s k aa aa) Fz
end
def ZbH s k(n:Int)(h:0<=n/\n<=2097152):CP (RF f75 3) (Tg.st ⟨tm 36 [(0,ED s k),(3,nI n)],[],5⟩) .nrm (Tg.st ⟨tm 36 [(0,ED s k),(6,.ow 41024)],[(41024,.arr 35 1 [])],6⟩):=by
 rintro Ow m w0 a w ⟨ρ,Im,I,T⟩;rw[show RF f75 3=.region 9 (BM f75 9) Lc from by kernel_rfl];refine wp_region ?_;rw[show Lg (BM f75 9).size=[0,1,2]from by kernel_rfl];have j:=T.put 23 (Ed T (.tmp 3));refine Ps (o:=(BM f75 9).getD 0 M) kr kr (Sn (Z4Z (x:=.tmp 3) kr) ?_);show wpOps prog (BM f75 9) _ [1,2] (a.put (Le 23) (a.eval (.tmp 3))) w;refine Ps (o:=(BM f75 9).getD 1 M) kr kr (ZaD (c:=⟨.value (.func 128),#[.const (.slice Lf 0 0),.tmp 23],#[25,3]⟩) (f:=.func 128) (cs:=#[]) (d:=24) (ImC:=λ_=>False) kr rfl kr kr kr (ZfI n h) I j rfl pq (λ_ q=>q.elim) (λq=>by cases q) (λi x v e b=>?_) λρ2 g v w' J T2 r=>?_);match i,e,b with|0,e,b =>cases e;simp at b;rw[<-b];exact .d (.sc _ rfl)|1,e,b =>cases e;simp only[List.map_toArray,List.map_cons,List.map_nil,Array.append_empty,List.getElem?_toArray,List.getElem?_cons_succ,List.getElem?_cons_zero,Option.some.injEq]at b;have r1:(a.put (Le 23) (a.eval (.tmp 3))).eval (.tmp 23)=.int .i64 n:=C3 (Ed j (.tmp 23));rw[<-b,r1];exact .d (.sc _ rfl)
 have l:=T2.put 24 r;have p:=l.put 6 (Ed l (.tmp 24));refine Ps (o:=(BM f75 9).getD 2 M) kr kr (Sn (Z1D (x:=.tmp 24) kr) ?_);refine⟨rfl,Z0v (s:=⟨_,_,6⟩) kr kr (Sys.clk ⟨ρ2,g,J,p⟩ (Nat.le_succ 5))⟩
def Z7A(s k:List Int)(hs:s.length<=1048575)(a:k.length<=1048575):GP 75 [ED s k] O (Z2 (s++k)) []:=by have c:=(ZgC s k hs a).seq ((Zd3 s k hs a).seq ((ZfZ s k hs a).seq ((ZbH s k (s.length+k.length) oq).seq (ZhO s k hs a))));rw[show Tg.st ⟨tm 36 [(0,ED s k)],[],1⟩=⟨[ED s k]++Lh (Tryz.f75.ntmps - [ED s k].length) .any,λ_=>Lf,1⟩from by kernel_rfl]at c;exact ZkH (kp:=[]) (l:=[.ow 41024]) (x:=Z2 (s++k)) (qq:=[]) (p:=[Ce ((s++k).map wD)]) L1 func75 kr c kr kr (Hd _) trivial kr kr trivial
end Go.Proofs.YtgedmeaemofdkaaGreat
namespace Go.Proofs.YtgedmeaemofdkaaGreat
open Go.Sx Go.RowKit
def Zgi(a b c d e:Value) w :CallsD prog 72 #[a,b,c,d,e] .returning w λg i w'=>g=.returned (.tuple #[])/\i=.returning/\w'=w:=by refine callsD_of_wpS func72 rfl λf cs h=>?_;apply wpS_seq;apply wpS_region;simp[wpOpsS,go_sem,recoverD,h,Tryz.ntmps72,Exit.thenS];apply wpS_seq;apply wpS_region;simp[wpOpsS,go_sem,Tryz.ntmps72,Exit.thenS];refine wpS_cond (t:=Lc) (by simp[Act.eval,go_sem,Lw]) ?_;simp only[Bool.false_eq_true,if_false];refine wpS_of_wp (wp_skip ?_);cases f;simp_all[bodyPostS,results,Tryz.results72]
end Go.Proofs.YtgedmeaemofdkaaGreat
namespace Go.Proofs.YtgedmeaemofdkaaGreat
open Go.Sx Go.RowKit
structure Z93 (h:Heap) (s k:List Int) (w0 w1 w2 w3 w4 w5:Z7) (l o:List Int):Prop where
 b:GP 73 [h.av] Lc (.tu [w0.av,nI 0]) []
 r:GP 74 [h.av,Z2 (s++k)] O (bL O) []
 t:GP 77 [w0.av,Z2 s] O (.tu [w1.av,Z2 l,nI 0]) []
 a:GP 78 [w1.av] O (.tu [w2.av,nI 0]) []
 w:BP 79 [.pt 0 0 0,Z2 k] [w2.evD] (.ow 1) [w3.evD,Bh o]
 f:BP 80 [.pt 0 0 0] [w3.evD] (.tu []) [w4.evD]
 g:BP 81 [.pt 0 0 0] [w4.evD] (.tu []) [w5.evD]
 sl:s.length<=1000
 kl:k.length<=1000
 tl:w5.T.length<=1000000
 sp:w5.j.S=0\/w5.j.S=1
def Zbh{P:Program}{o:Oper}{a:Act}{w:World}{f:Nat}{l:Array Operand}(b:o.op=.makeFunc (.func f) #[] l):(execOp a.eval o).run P w=.ok (.value (.func (.func f) #[] (l.map a.eval))) w:=by simp[execOp,b,Instr.makeFunc]
def Zjm{P}{o:Oper}{a:Act}{w}{c:Call}{x:Operand}{f:Nat}{l:Array Value}{next:Act->World->Prop}{Q}(d:o.op=.defer c)(b:c=⟨.value x,#[],#[]⟩)(e:a.eval x=.func (.func f) #[] l)(h:next ({a with defers:=⟨.fn (.func f) l,#[]⟩::a.defers}.put o.dst undef) w):o.wp P a w next Q:=by
 subst b;have:(execOp a.eval o).run P w=.ok (.defer ⟨.fn (.func f) l,#[]⟩) w:=by simp[execOp,d,resolve,e,Deferred.ofValue]
 unfold Oper.wp;rw[this];exact h
def clS(h:Heap)(s k:List Int):Tg:=⟨tm 79 [(1,Z2 s),(2,Z2 k),(3,.pt 8003 0 0),(6,.pt 8006 0 0),(7,.pt 8007 0 0),(8,.pt 8008 0 0),(9,.pt 8009 0 0),(10,.pt 8010 0 0)],[(8003,.box 28 h.cells),(8006,.box 28 [nI 0,nI 0,.d (.sl 0 []),.d (.sl 0 []),nI 0,nI 0]),(8007,.box 25 [.d (.sl 0 [])]),(8008,.box 25 [.d (.sl 0 [])]),(8009,.box 73 [nI 0,nI 0,nI 0,nI 0,nI 0,nI 0]),(8010,.box 32 [nI 0])],2⟩
section
variable{h:Heap}{s k:List Int}{w0 w1 w2 w3 w4 a:Z7}{l o:List Int}(c:Z93 h s k w0 w1 w2 w3 w4 a l o)
include c
theorem Z77:GP 73 [h.av] Lc (.tu [w0.av,nI 0]) []:=c.b
theorem Z63:GP 74 [h.av,Z2 (s++k)] O (bL O) []:=c.r
theorem Z8i:GP 77 [w0.av,Z2 s] O (.tu [w1.av,Z2 l,nI 0]) []:=c.t
theorem Z6Y:GP 78 [w1.av] O (.tu [w2.av,nI 0]) []:=c.a
theorem Z9f:BP 79 [.pt 0 0 0,Z2 k] [w2.evD] (.ow 1) [w3.evD,Bh o]:=c.w
theorem Z8A:BP 80 [.pt 0 0 0] [w3.evD] (.tu []) [w4.evD]:=c.f
theorem Z8Y:BP 81 [.pt 0 0 0] [w4.evD] (.tu []) [a.evD]:=c.g
omit c in
theorem ZkY(h:Heap) s k:CP (RF f35 0) (Tg.st ⟨tm 79 [(0,h.av),(1,Z2 s),(2,Z2 k)],[],1⟩) .nrm (clS h s k).st:=by exact sF [] [] Fz
theorem ZgQ:CP (tlF f35 2) (clS h s k).st .ret (Tg.st ⟨tm 79 [(6,.pt 8006 0 0),(7,.pt 8007 0 0),(8,.pt 8008 0 0),(9,.pt 8009 0 0),(10,.pt 8010 0 0)],[(8006,.box 28 (Eo a).cells),(8007,.box 25 [Z2 l]),(8008,.box 25 [.ow 24049]),(24049,.arr 35 1 (o.map wD)),(8009,.box 73 a.rep.cells),(8010,.box 32 [nI 0])],60⟩):=by
 have sl:=c.sl;have kl:=c.kl;have tl:=c.tl;have sp:=c.sp;by_cases e:0<a.T.length;have d:Eo a=⟨a.j.C,a.j.W,a.j.P,1-a.j.S,ZH a⟩:=by rw[Eo,if_pos e]
 rw[d];refine Zg [((16:Nat),[Hint.call Lc (AV.tu [w0.av,nI (0:Int)]) []]),((26:Nat),[Hint.call O (Z2 (s++k)) []]),((27:Nat),[Hint.call O (bL O) []]),((31:Nat),[Hint.call O (AV.tu []) []]),((35:Nat),[Hint.call O (AV.tu [w1.av,Z2 l,nI (0:Int)]) []]),((40:Nat),[Hint.call O (AV.tu []) []]),((43:Nat),[Hint.call O (AV.tu [w2.av,nI (0:Int)]) []]),((47:Nat),[Hint.call O (AV.tu []) []]),((49:Nat),[Hint.bor [(16011:Nat)] (AV.ow (1:Nat)) [w3.evD,Bh o]]),((50:Nat),[Hint.bor [(16011:Nat)] (AV.tu []) [w4.evD]]),((51:Nat),[Hint.bor [(16011:Nat)] (AV.tu []) [a.evD]]),((55:Nat),[Hint.int ((1:Int)-a.j.S)]),((62:Nat),[Hint.int (a.T.length:Int)]),((64:Nat),[Hint.br O]),((68:Nat),[Hint.int ((a.T.length:Int)-(1:Int))]),((69:Nat),[Hint.el (iD (a.T.getD ((a.T.length:Int)-(1:Int)).toNat M))])] [] [((73049:Nat),(24049:Nat))] [] (φ:=GP 73 [h.av] Lc (AV.tu [w0.av,nI (0:Int)]) []/\(((0:Int)==(0:Int))=O->GP 75 [ED s k] O (Z2 (s++k)) [])/\(((0:Int)==(0:Int))=O->GP 74 [h.av,Z2 (s++k)] O (bL O) [])/\GP 76 [nI (0:Int)] O (AV.tu []) []/\GP 77 [w0.av,Z2 s] O (AV.tu [w1.av,Z2 l,nI (0:Int)]) []/\GP 76 [nI (0:Int)] O (AV.tu []) []/\GP 78 [w1.av] O (AV.tu [w2.av,nI (0:Int)]) []/\GP 76 [nI (0:Int)] O (AV.tu []) []/\BP 79 [AV.pt (0:Nat) (0:Nat) (0:Nat),Z2 k] [w2.evD] (AV.ow (1:Nat)) [w3.evD,Bh o]/\BP 80 [AV.pt (0:Nat) (0:Nat) (0:Nat)] [w3.evD] (AV.tu []) [w4.evD]/\BP 81 [AV.pt (0:Nat) (0:Nat) (0:Nat)] [w4.evD] (AV.tu []) [a.evD]/\Lq.wrap ((1:Int)-a.j.S)=(1:Int)-a.j.S/\(↑(La iD a.T).length:Int)=(a.T.length:Int)/\Lb ((0:Int)<(a.T.length:Int))=O/\O=O/\Lq.wrap ((a.T.length:Int)-(1:Int))=(a.T.length:Int)-(1:Int)/\(0:Int)<=(a.T.length:Int)-(1:Int)/\(La iD a.T)[((a.T.length:Int)-(1:Int)).toNat]?=Le (iD (a.T.getD ((a.T.length:Int)-(1:Int)).toNat M))) ?_ kr kr kr;exact⟨(@Z77 (h) (s) (k) (w0) (w1) (w2) (w3) (w4) (a) (l) (o) aa),(λb=>by(try simp only[bs]at b);exact@Z7A (s) (k) (by(try simp only[bs]at b);omega) (by(try simp only[bs]at b);omega)),(λb=>by(try simp only[bs]at b);exact@Z63 (h) (s) (k) (w0) (w1) (w2) (w3) (w4) (a) (l) (o) aa),(@IB ((0:Int)) (by rfl)),(@Z8i (h) (s) (k) (w0) (w1) (w2) (w3) (w4) (a) (l) (o) aa),(@IB ((0:Int)) (by rfl)),(@Z6Y (h) (s) (k) (w0) (w1) (w2) (w3) (w4) (a) (l) (o) aa),(@IB ((0:Int)) (by rfl)),(@Z9f (h) (s) (k) (w0) (w1) (w2) (w3) (w4) (a) (l) (o) aa),(@Z8A (h) (s) (k) (w0) (w1) (w2) (w3) (w4) (a) (l) (o) aa),(@Z8Y (h) (s) (k) (w0) (w1) (w2) (w3) (w4) (a) (l) (o) aa),(by exact Zf rfl oq oq),(by simp only[Lp]),(by(simp only[bs];omega)),rfl,(by exact Zf rfl oq oq),(by exact Zn oq oq oq)⟩;have d:Eo a=⟨a.j.C,a.j.W,a.j.P,1-a.j.S,-1⟩:=by rw[Eo,if_neg e]
 rw[d];exact sF [(73049,24049)] []<|Fc 16 (@Z77 h s k w0 w1 w2 w3 w4 a l o aa)<|FcG 26 ((0:Int)==0) (λb=>by(try simp only[bs]at b);exact@Z7A s k oq oq)<|FcG 27 ((0:Int)==0) (λb=>by(try simp only[bs]at b);exact@Z63 h s k w0 w1 w2 w3 w4 a l o aa)<|Fc 31 (@IB (0) (by rfl))<|Fc 35 (@Z8i h s k w0 w1 w2 w3 w4 a l o aa)<|Fc 40 (@IB (0) (by rfl))<|Fc 43 (@Z6Y h s k w0 w1 w2 w3 w4 a l o aa)<|Fc 47 (@IB (0) (by rfl))<|Fbr 49 [16011] (@Z9f h s k w0 w1 w2 w3 w4 a l o aa)<|Fbr 50 [16011] (@Z8A h s k w0 w1 w2 w3 w4 a l o aa)<|Fbr 51 [16011] (@Z8Y h s k w0 w1 w2 w3 w4 a l o aa)<|Fi 55 (1-a.j.S)<|Fl 62 iD a.T<|Ffb 64 (Lb (0<(a.T.length:Int))) Fz
def clT(a:Z7)(l o:List Int):Tg:=⟨tm 79 [(6,.pt 8006 0 0),(7,.pt 8007 0 0),(8,.pt 8008 0 0),(9,.pt 8009 0 0),(10,.pt 8010 0 0)],[(8006,.box 28 (Eo a).cells),(8007,.box 25 [Z2 l]),(8008,.box 25 [Z2 o]),(8009,.box 73 a.rep.cells),(8010,.box 32 [nI 0])],60⟩
theorem Zdp:CP (tlF f35 2) (clS h s k).st .ret (clT a l o).st:=
 CSpec.frz 24049 (ZgQ c) kr
theorem ZgD:GP 35 [h.av,Z2 s,Z2 k] Lc (.tu [(Eo a).av,Z2 l,Z2 o,.ag a.rep.cells,nI 0]) []:=by
 intro w y vs q r g;refine calls_of_wp_defers func35 (c:=.seq (RF f35 0) (.seq (RF f35 1) (tlF f35 2))) kr ?_;have S0:=Z34 (n:=79) q r g;rw[show [h.av,Z2 s,Z2 k]++Lh (79 - [h.av,Z2 s,Z2 k].length) .any=tm 79 [(0,h.av),(1,Z2 s),(2,Z2 k)]from by kernel_rfl]at S0;refine wp_seq (wp_mono (ZkY h s k _ _ _ _ _ S0) ?_);rintro e a1 w1 ⟨rfl,S1⟩;refine wp_seq ?_;rw[show RF f35 1=.region 1 (BM f35 1) Lc from by kernel_rfl];refine wp_region ?_;rw[show Lg (BM f35 1).size=[0,1]from by kernel_rfl];refine Ps (o:=(BM f35 1).getD 0 M) kr kr (Sn (Zbh (f:=72) (l:=#[.tmp 6,.tmp 7,.tmp 8,.tmp 9,.tmp 10]) kr) ?_);rw[show Array.map a1.eval #[.tmp 6,.tmp 7,.tmp 8,.tmp 9,.tmp 10]=#[a1.eval (.tmp 6),a1.eval (.tmp 7),a1.eval (.tmp 8),a1.eval (.tmp 9),a1.eval (.tmp 10)]from by simp];show wpOps prog (BM f35 1) _ [1] (a1.put (Le 13) (.func (.func 72) #[] #[a1.eval (.tmp 6),a1.eval (.tmp 7),a1.eval (.tmp 8),a1.eval (.tmp 9),a1.eval (.tmp 10)])) w1;generalize a1.eval (.tmp 6)=v6,a1.eval (.tmp 7)=v7,a1.eval (.tmp 8)=v8,a1.eval (.tmp 9)=v9,a1.eval (.tmp 10)=v10;have j:Sx.Sys Gl y w ((clS h s k).st.tmps.set 13 .any) (clS h s k).st.H 2 (a1.put (Le 13) (.func (.func 72) #[] #[v6,v7,v8,v9,v10])) w1:=by(obtain⟨ρ,b,I,T⟩:=S1;exact⟨ρ,b,I,T.put 13 (.any _)⟩)
 have d:(a1.put (Le 13) (.func (.func 72) #[] #[v6,v7,v8,v9,v10])).eval (.tmp 13)=.func (.func 72) #[] #[v6,v7,v8,v9,v10]:=by
  obtain⟨ρ,b,I,T⟩:=S1;have:=T.size;have z:13<a1.tmps.size:=by rw[this,show(clS h s k).st.tmps.length=79 from by kernel_rfl];decide
  simp[Act.put,Act.eval,z]
 generalize a1.put (Le 13) (.func (.func 72) #[] #[v6,v7,v8,v9,v10])=a2 at j d⊢;refine Ps (o:=(BM f35 1).getD 1 M) kr kr (Zjm (c:=⟨.value (.tmp 13),#[],#[]⟩) (x:=.tmp 13) kr rfl d ?_);have S3:=j.defer [⟨.fn (.func 72) #[v6,v7,v8,v9,v10],#[]⟩];have hd:a2.defers=[]:=by(obtain⟨_,_,_,T⟩:=j;exact T.defers)
 rw[hd];show Code.wp prog (tlF f35 2) _ {tmps:=a2.tmps,defers:=[⟨.fn (.func 72) #[v6,v7,v8,v9,v10],#[]⟩]} w1;have S6:=Z0v (s:=⟨(clS h s k).st.tmps.set 13 .any,(clS h s k).st.H,2⟩) (t:=clS h s k) kr kr S3;refine wp_mono (Zdp c _ _ _ _ _ S6) ?_;rintro e m i ⟨rfl,S4⟩;obtain⟨ρ,b,I,T⟩:=S4;show Leaves _ _ m.tmps _ m.defers .returning i;rw[T.defers];refine leaves_cons (f:=72) (args:=#[v6,v7,v8,v9,v10]) pq (RY kr _ _) ?_;refine(Zgi v6 v7 v8 v9 v10 i).mono ?_;rintro e u' u ⟨rfl,rfl,rfl⟩;have S5:Sx.Sys Gl y w (clT a l o).st.tmps (clT a l o).st.H 60 {m with defers:=[]} u:=⟨ρ,b,⟨I.kept,I.inj,I.notIm,I.bnd,I.own,I.imb,I.im0,I.blk,I.fresh,I.one⟩,⟨T.size,T.tmp,rfl⟩⟩;obtain⟨v,r1,r2⟩:=Z2W (P:=prog) (fn:=f35) (fr:=Lc) (ns:=[]) (l:=[(Eo a).av,Z2 l,Z2 o,.ag a.rep.cells,nI 0]) (res:=.tu [(Eo a).av,Z2 l,Z2 o,.ag a.rep.cells,nI 0]) (x:=.tu [(Eo a).av,Z2 l,Z2 o,.ag a.rep.cells,nI 0]) (p:=[]) (qq:=[]) (st:=(clT a l o).st) (L1 (α:=Nat)) S5 kr kr trivial trivial kr kr trivial;exact⟨v,r1,v,rfl,r2⟩
end
end Go.Proofs.YtgedmeaemofdkaaGreat
namespace Go.Proofs.YtgedmeaemofdkaaGreat
open Go.Sx
def Z85(h:Zz)(i:Int)(hm:0<=h.map/\h.map<=4294967295):GP 162 [h.av,nI i] O (bL (Ba h i)) []:=by
 rcases bb (!ZU h||Lb (i<0)||Lb (h.length<=i))with hc0|hc0<;>have hc0p:=hc0<;>simp only[bs]at hc0p
 .exact gF [] func162 (fO 6)<|Fc 6 (@A8 h aa)<|Ft 17 hc0<|Fa (by grind[Ba]:Lc=Ba h i) Fz
 .obtain⟨⟨hc0paa,hc0pab⟩,hc0pb⟩:=hc0p;have hf3:=Gx.1 hc0paa;obtain⟨hf3a,⟨hf3ba,⟨hf3bba,⟨hf3bbba,hf3bbbb⟩⟩⟩⟩:=hf3;exact gF [] func162 (fO 17)<|Fc 6 (@A8 h aa)<|Ff 17 hc0<|Fa (by intro hg;(try simp only[bs]at hg);omega:(!h.K==2&&h.K==1)=O->0<=i)<|Fa (Z6i h i hm aa oq oq:(h.K==2||h.K==1&&bits BinOp.and IntKind.u32 (h.map.fdiv (2^min i.toNat 32)) (1:Int)==1)=Ba h i) Fz
def Z0n(h:Zz)(i:Nat):Tg:=⟨tm 19 [(1,.pt 8001 0 0),(2,.d (.sl 0 [])),(3,.ow 16003),(6,nI (Z5 h)),(7,nI i)],[(16003,.arr 3 1 ((BQ h i).map iD)),(8001,.box 52 [nI h.K,nI h.length,u32 h.map])],60⟩
def Ziq(h:Zz)(i:Nat)(hm:0<=h.map/\h.map<=4294967295)(hi:(i:Int)<Z5 h):CP (Zm f110 0) (Z0n h i).st .nrm (Z0n h (i+1)).st:=by
 have hn:=Pr h i;have hs:=Ip h;by_cases a:Ba h (i:Int)=O;have e:BQ h (i+1)=BQ h i++[(i:Int)]:=by rw[BQ,if_pos a]
 exact sF [(504016,16003)] (fO 5)<|Fh 12 [.call O (bL (Ba h (i:Int))) [],.br O]<|Fh 16 [.els (La iD (BQ h i++[(i:Int)]))]<|Ftb 8 (Lb ((i:Int)<Z5 h))<|Fa (@Z85 h ((i:Int)) aa)<|Fa ‹Ba h (i:Int)=O›<|Fs 15 (La iD [(i:Int)])<|Fa (by(simp[*];omega):(La iD (BQ h i)).length+(La iD [(i:Int)]).length<=2^30)<|Fa (ms:La iD (BQ h i)++La iD [(i:Int)]=La iD (BQ h i++[(i:Int)]))<|Fx 17 i<|Fr (3:Int)<|Fa (by refine congrArg _ ?_;rw[e]:La iD (BQ h i++[(i:Int)])=La iD (BQ h (i+1))) Fz;have e:BQ h (i+1)=BQ h i:=by rw[BQ,if_neg a]
 have b:Ba h (i:Int)=Lc:=by simpa using a
 exact sF [] (fO 5)<|Fh 12 [.call O (bL (Ba h (i:Int))) [],.br Lc]<|Ftb 8 (Lb ((i:Int)<Z5 h))<|Fa (@Z85 h ((i:Int)) aa)<|Fa ‹Ba h (i:Int)=Lc›<|Fx 17 i<|Fr (3:Int)<|Fa (by refine congrArg _ ?_;rw[e]:La iD (BQ h i)=La iD (BQ h (i+1))) Fz
def Zjd(h:Zz)(i:Nat)(hi:(i:Int)=Z5 h):CP (Zm f110 0) (Z0n h i).st (.ext 0) (Tg.st ⟨tm 19 [(2,.d (.sl 0 [])),(3,.ow 16003)],[(16003,.arr 3 1 ((BQ h i).map iD))],60⟩):=by exact sF [] []<|Ffb 8 (Lb ((i:Int)<Z5 h)) Fz
def Zaz(h:Zz):BQ h (Z5 h).toNat=Zk h:=by unfold Zk Z5;by_cases a:ZU h=O;rw[if_pos a,if_pos a];have hb:=Gx.1 a;rw[show(h.length+1).toNat=h.length.toNat+1 from by omega,BQ,if_neg];unfold Ba;simp;omega;rw[if_neg a,if_neg a];rfl
def Zlw(h:Zz)(a:0<=h.map/\h.map<=4294967295):CP (Zi f110 0) (Tg.st ⟨tm 19 [(1,.pt 8001 0 0),(2,.d (.sl 0 [])),(3,.ow 16003),(6,nI (Z5 h)),(7,nI 0)],[(16003,.arr 3 1 []),(8001,.box 52 [nI h.K,nI h.length,u32 h.map])],60⟩) .nrm (Tg.st ⟨tm 19 [(2,.d (.sl 0 [])),(3,.ow 16003)],[(16003,.arr 3 1 ((Zk h).map iD))],60⟩):=by have hs:=Ip h;rw[<-Zaz];exact Bp (S:=λi=>(Z0n h i).st) (Z5 h).toNat kr (λi hi=>Ziq h i a oq) (Zjd h _ oq)
def TQ(h:Zz)(hm:0<=h.map/\h.map<=4294967295):GP 110 [h.av] O (.d (.sl 1 ((Zk h).map iD))) []:=by exact gF [] func110 []<|Fh 3 [.own]<|Fc 6 (@EX h aa)<|Fu (@Zlw h aa)<|Fa (Dd _:Ce (La iD (Zk h))) Fz
def AQ(h:Heap)(i:Nat):Tg:=⟨tm 19 [(1,nI i),(2,.pt 8002 0 0),(4,nI 0)],[(8002,.box 28 h.cells)],60⟩
def Zij(h:Heap)(i:Nat)(hi:i+1<h.P.length)(hl:h.P.length<=1048576)(hk:(h.P.getD (i+1) M).K=3):CP (Zm f247 0) (AQ h (i+1)).st .nrm (AQ h i).st:=by
 have ei:((i+1:Nat):Int)-1=(i:Int):=by omega
 exact sF [] []<|FeG 11 (Lb (0<(↑(i+1):Int))) Z0.dv h.P (↑(i+1):Int) (i+1)<|Ftb 15 (Lb (0<(↑(i+1):Int))&&(h.P.getD (i+1) M).K==3)<|Fg 17 (by rw[Ef oq oq];omega:Lq.wrap ((↑(i+1):Int)-1)=(i:Int)) Fz
def Z6J(h:Heap)(i:Nat)(hi:i<h.P.length)(hl:h.P.length<=1048576)(hk:¬ (h.P.getD i M).K=3):CP (Zm f247 0) (AQ h i).st (.ext 0) (Tg.st ⟨tm 19 [(1,nI i),(4,nI 0)],[],60⟩):=by exact sF [] []<|FeG 11 (Lb (0<(i:Int))) Z0.dv h.P (↑i) i<|Ffb 15 (Lb (0<(i:Int))&&(h.P.getD i M).K==3) Fz
def Z8s(h:Heap)(b:Z9 h=O)(hl:h.P.length<=1048576):∀i,i<h.P.length->Gm prog f247 0 (AQ h i).st (.ext 0) (Tg.st ⟨tm 19 [(1,nI (B4 h.P i)),(4,nI 0)],[],60⟩)
 |0,hi=>.endx (Z6J h 0 hi hl (Z4M b))
 |i+1,hi=>by
  unfold B4;by_cases a:(h.P.getD (i+1) M).K=3
  .rw[if_pos a];exact .next (Zij h i hi hl a) (Z8s h b hl i oq)
  .rw[if_neg a];exact .endx (Z6J h (i+1) hi hl a)
def ZfK(h:Heap)(i:Nat)(b:Z9 h=O)(a:i<h.P.length)(hl:h.P.length<=1048576):CP (Zi f247 0) (AQ h i).st .nrm (Tg.st ⟨tm 19 [(1,nI (B4 h.P i)),(4,nI 0)],[],60⟩):=
 (Z8s h b hl i a).ext kr
def Zl4(h:Heap)(i:Nat)(a:Z9 h=O)(hi:i<h.P.length):GP 247 [h.av,nI i] O (nI (B4 h.P i)) []:=by have po:=B6 a;exact gF [] func247 []<|Fu (@ZfK h i aa aa oq) Fz
def Dm(h:Heap)(i:Int)(l:List Int)(n:Nat):Tg:=⟨tm 58 [(1,nI i),(3,.pt 8003 0 0),(6,uU 0),(7,bL Lc),(13,Z2 l),(14,nI l.length),(15,nI n)],[(8003,.box 28 h.cells)],60⟩
section
variable(h:Heap)(i:Int)(l:List Int)(n:Nat)(a:Zx h.W)(hl:l.length<=1048576)(b:0<=i/\i<h.P.length)(c:h.P.length<=1048576)(hr:∀x∈l,0<=x/\x<=8192)
include a hl b c hr
theorem Zal(g:n<l.length)(f:Gv h i (l.getD n M)=Lc):CP (Zm f228 0) (Dm h i l n).st .nrm (Dm h i l (n+1)).st:=by have hx:=hr (l.getD n M) (ZT.2 ⟨n,g,rfl⟩);have hm:=Hy a (l.getD n M);simp only[Gv,bs]at f;let d:=Z6 h (l.getD n M);let e:=h.P.getD i.toNat M;exact sF [] []<|Ftb 16 (Lb ((n:Int)<(l.length:Int)))<|Fek 17 wD l (↑n) n<|Fc 22 (@IT h (l.getD n M) aa oq)<|Fc 26 (@EX (d.1) aa)<|Fc 29 (@O8 h.C)<|Fe 34 Z0.dv h.P i<|FeGq 46 (!(e.K==1&&!decide (Z5 d.1<=Zd h.C))) Z0.dv h.P i<|Ffb 55 (e.K==1&&!decide (Z5 d.1<=Zd h.C)||e.K==2&&d.1.K==0)<|Fx 57 n Fz
theorem Zli(g:n<l.length)(f:Gv h i (l.getD n M)=O):CP (Zm f228 0) (Dm h i l n).st .ret (Tg.st ⟨tm 58 [(6,uU (l.getD n M)),(7,bL O)],[],60⟩):=by have hx:=hr (l.getD n M) (ZT.2 ⟨n,g,rfl⟩);have hm:=Hy a (l.getD n M);simp only[Gv,bs]at f;let d:=Z6 h (l.getD n M);let e:=h.P.getD i.toNat M;exact sF [] []<|Ftb 16 (Lb ((n:Int)<(l.length:Int)))<|Fek 17 wD l (↑n) n<|Fc 22 (@IT h (l.getD n M) aa oq)<|Fc 26 (@EX (d.1) aa)<|Fc 29 (@O8 h.C)<|Fe 34 Z0.dv h.P i<|FeGq 46 (!(e.K==1&&!decide (Z5 d.1<=Zd h.C))) Z0.dv h.P i<|Ftb 55 (e.K==1&&!decide (Z5 d.1<=Zd h.C)||e.K==2&&d.1.K==0) Fz
omit a hl b c hr in
theorem ZiR:CP (Zm f228 0) (Dm h i l l.length).st (.ext 0) (Tg.st ⟨tm 58 [(6,uU 0),(7,bL Lc)],[],60⟩):=by exact sF [] []<|Ffb 16 (Lb ((l.length:Int)<(l.length:Int))) Fz
end
def ZkA(h:Heap)(i:Int)(l:List Int)(e:Zx h.W)(hl:l.length<=1048576)(c:0<=i/\i<h.P.length)(d:h.P.length<=1048576)(hr:∀x∈l,0<=x/\x<=8192)(b:l.find? (Gv h i)=Lf) :CP (Zi f228 0) (Tg.st ⟨tm 58 [(1,nI i),(3,.pt 8003 0 0),(6,uU 0),(7,bL Lc),(13,Z2 l),(14,nI l.length),(15,nI 0)],[(8003,.box 28 h.cells)],60⟩) .nrm (Tg.st ⟨tm 58 [(6,uU 0),(7,bL Lc)],[],60⟩):=
 Bp (S:=λn=>(Dm h i l n).st) l.length kr (λn a=>Zal h i l n e hl c d hr a (OB b n a)) (ZiR h i l)
def Zka(h:Heap)(i:Int)(l:List Int)(x:Int)(c:Zx h.W)(hl:l.length<=1048576)(a:0<=i/\i<h.P.length)(b:h.P.length<=1048576)(hr:∀x∈l,0<=x/\x<=8192)(j:l.find? (Gv h i)=Le x) :CP (Zi f228 0) (Tg.st ⟨tm 58 [(1,nI i),(3,.pt 8003 0 0),(6,uU 0),(7,bL Lc),(13,Z2 l),(14,nI l.length),(15,nI 0)],[(8003,.box 28 h.cells)],60⟩) .ret (Tg.st ⟨tm 58 [(6,uU x),(7,bL O)],[],60⟩):=by obtain⟨n,d,e,f,g⟩:=AC j;subst e;exact EJ (S:=λn=>(Dm h i l n).st) n kr (λm k=>Zal h i l m c hl a b hr oq (g m k)) (Zli h i l n c hl a b hr d f)
def Gf(h:Heap)(i:Int)(l:List Int):Bool:=(l.find? (Gv h i)).isSome
def Db(h:Heap)(i:Int)(l:List Int)(hw:Zx h.W)(hl:l.length<=1048576)(hp:h.P.length<=1048576)(hi:0<=i/\i<h.P.length)(hr:∀x∈l,0<=x/\x<=8192):GP 228 [h.av,nI i,Z2 l] O (.tu [uU (Cu h i l),bL (Gf h i l)]) []:=by
 cases hf:l.find? (Gv h i)with
 |none =>
  have a:Cu h i l=0:=by rw[Cu,hf];rfl
  have b:Gf h i l=Lc:=by rw[Gf,hf];rfl
  rw[a,b];exact gF [] func228 []<|Fl 14 wD l<|Fu (@ZkA h i l aa aa aa aa aa aa) Fz
 |some x =>
  have a:Cu h i l=x:=by rw[Cu,hf];rfl
  have b:Gf h i l=O:=by rw[Gf,hf];rfl
  rw[a,b];exact gF [] func228 []<|Fl 14 wD l<|Fu (@Zka h i l x aa aa aa aa aa aa) Fz
def Ziy(ws:List Int)(a n:Int)(hw:ws.length<=1048576)(h0:4096<=a/\1<=n/\n<=1000/\a-4096+n<=ws.length):GP 117 [Z2 ws,uU a,nI n] O (.tu [.ow 0,nI 0]) [.arr 35 1 (((ws.drop (a-4096).toNat).take n.toNat).map wD)]:=by
 have c:(Zt ws a n).1=a-4096:=by rw[Zt,if_pos oq]
 have b:(Zt ws a n).2=O:=by rw[Zt,if_pos oq];simp;omega
 have d:(ws.drop (a-4096).toNat).take n.toNat≠[]:=AB (by rw[Lr,LA];omega);exact gF [41027] func117 [Lc,O]<|Fh 26 [.els (La wD (Lk (((Zt ws a n).1+n).toNat-(Zt ws a n).1.toNat) (Lj (Zt ws a n).1.toNat ws)))]<|Ffb 11 (Lb (n<0))<|Fc 16 (@Py ws a n aa oq)<|Ffb 20 (!(Zt ws a n).2)<|Fi 25 ((Zt ws a n).1+n)<|Fa (by(simp only[Lp];omega):0<=(Zt ws a n).1/\(Zt ws a n).1<=(Zt ws a n).1+n/\(Zt ws a n).1+n<=(↑(La wD ws).length:Int))<|Fa (by simp[b,LC,LB,List.map_set,Lu,wD,iD]:Lk (((Zt ws a n).1+n).toNat-(Zt ws a n).1.toNat) (Lj (Zt ws a n).1.toNat (La wD ws))=La wD (Lk (((Zt ws a n).1+n).toNat-(Zt ws a n).1.toNat) (Lj (Zt ws a n).1.toNat ws)))<|Fc 27 (@Z7Q (Lk (((Zt ws a n).1+n).toNat-(Zt ws a n).1.toNat) (Lj (Zt ws a n).1.toNat ws)) (by(simp[b, *];omega)) (by(simp[b, *];omega)))<|Fa (Hd _:Ce (La wD (Lk (((Zt ws a n).1+n).toNat-(Zt ws a n).1.toNat) (Lj (Zt ws a n).1.toNat ws))))<|Fr (35:Int)<|Fa (by refine congrArg _ ?_;(simp[b, *];omega):La wD (Lk (((Zt ws a n).1+n).toNat-(Zt ws a n).1.toNat) (Lj (Zt ws a n).1.toNat ws))=La wD (Lk n.toNat (Lj (a-4096).toNat ws))) Fz
def GE(l:List Int):Nat:=(l.takeWhile λx=>x==0).length
def OD{l}{m:Nat}(h:m<GE l):m<l.length/\l.getD m M=0:=by obtain⟨a,b⟩:=Au _ _ _ h;refine⟨a, ?_⟩;rw[Lo,Ls a];simpa using b
def Z7V{l:List Int}(h:GE l<l.length):¬ l.getD (GE l) M=0:=by
 have a:=Ao (λx:Int=>x==0) l h;have b:l.getD (GE l) M=l[(l.takeWhile λx=>x==0).length]:=by(rw[Lo,Ls h];rfl)
 rw[b];simpa using a
def C9(l:List Int):Int:=if GE l<l.length then GE l else -1
def Z9Z x:GP 248 [uU x] O (bL (x != 0)) []:=by exact gF [] func248 [] Fz
def DL(l:List Int)(i:Nat):Tg:=⟨tm 19 [(0,Z2 l),(1,.fn 248 []),(4,nI 0),(7,nI l.length),(8,nI i)],[],60⟩
def Z6N(l:List Int)(i:Nat)(hl:l.length<=1048576)(hi:i<l.length)(e:l.getD i M=0):CP (Zm f172 0) (DL l i).st .nrm (DL l (i+1)).st:=by exact sF [] []<|Fh 16 [.call O (bL (l.getD i M != 0)) [],.br Lc]<|Ftb 9 (Lb ((i:Int)<(l.length:Int)))<|Fek 14 wD l (↑i) i<|Fa (@Z9Z (l.getD i M))<|Fb ((l.getD i M != 0)=Lc)<|Fx 18 i Fz
def Zfr(l:List Int)(i:Nat)(hl:l.length<=1048576)(hi:i<l.length)(e:¬ l.getD i M=0):CP (Zm f172 0) (DL l i).st .ret (Tg.st ⟨tm 19 [(4,nI i)],[],60⟩):=by exact sF [] []<|Fh 16 [.call O (bL (l.getD i M != 0)) [],.br O]<|Ftb 9 (Lb ((i:Int)<(l.length:Int)))<|Fek 14 wD l (↑i) i<|Fa (@Z9Z (l.getD i M))<|Fb ((l.getD i M != 0)=O) Fz
def ZcW l:CP (Zm f172 0) (DL l l.length).st (.ext 0) (Tg.st ⟨tm 19 [(4,nI 0)],[],60⟩):=by exact sF [] []<|Ffb 9 (Lb ((l.length:Int)<(l.length:Int))) Fz
def ZiK(l:List Int)(hl:l.length<=1048576)(h:¬ GE l<l.length)  := Bp (S:=λj=>(DL l j).st) l.length (by kernel_rfl) (λj a=>Z6N l j hl a (OD (by omega)).2) (ZcW l)
def ZeI(l:List Int)(hl:l.length<=1048576)(h:GE l<l.length)  := EJ (S:=λj=>(DL l j).st) (GE l) (by kernel_rfl) (λj a=>Z6N l j hl (by omega) (OD a).2) (Zfr l (GE l) hl h (Z7V h))
def ZiW(l:List Int)(hl:l.length<=1048576):GP 172 [Z2 l,.fn 248 []] O (nI (C9 l)) []:=by by_cases h:GE l<l.length;have a:C9 l=GE l:=if_pos h;rw[a];exact gF [] func172 []<|Fl 7 wD l<|Fu (@ZeI l aa aa) Fz;have a:C9 l=-1:=if_neg h;rw[a];exact gF [] func172 []<|Fl 7 wD l<|Fu (@ZiK l aa aa) Fz
def Gk(c:List Int)(x:Int):Nat:=(min (max x 0) (c.length:Int)).toNat
def S9(c:List Int)(x k:Int):List Int:=c.take (Gk c x)++Lh (Gk c (x+k)-Gk c x) 0++c.drop (Gk c x+(Gk c (x+k)-Gk c x))
def ZM(h:Heap)(F:Int)(l c:List Int):Nat->List Int|0=>c|n+1=>S9 (ZM h F l c n) (l.getD n M-F) (GL h (l.getD n M))
def PQ c(x:Int):Gk c x<=c.length:=by unfold Gk;omega
def Z9M c(x:Int){k:Int}(hk:0<=k):Gk c x<=Gk c (x+k):=by unfold Gk;omega
def Z5p(h:Heap)(a:Int):0<=GL h a/\GL h a<=256:=by have:=Ip (Z6 h a).1;unfold GL;split<;>omega
def Zh2 c x{k:Int}(a:0<=k):(S9 c x k).length=c.length:=by have h1:=PQ c x;have h2:=PQ c (x+k);have h3:=Z9M c x a;simp[S9];omega
def MF(h:Heap) F l c:∀n,(ZM h F l c n).length=c.length|0=>rfl|n+1=>by rw[ZM,Zh2 _ _ (Z5p h _).1,MF h F l c n]
def adL(h:Heap)(F:Int)(l c:List Int)(n:Nat):Tg:=⟨tm 90 [(2,.pt 8002 0 0),(4,uU 0),(5,bL Lc),(6,uU F),(8,.ow 25033),(44,Z2 l),(45,nI l.length),(46,nI n)],[(25033,.arr 35 1 ((ZM h F l c n).map wD)),(8002,.box 28 h.cells)],60⟩
def Zk8(h:Heap)(F:Int)(l c:List Int)(n:Nat)(g:Zx h.W)(hF:0<=F/\F<=8192)(hl:l.length<=1048576)(hc:c.length<=64)(hr:∀x∈l,0<=x/\x<=8192)(f:n<l.length):CP (Zm f229 0) (adL h F l c n).st .nrm (adL h F l c (n+1)).st:=by
 have hx:=hr (l.getD n M) (ZT.2 ⟨n,f,rfl⟩);have hm:=Hy g (l.getD n M);have e:=MF h F l c n;have hs:=Ip (Z6 h (l.getD n M)).1;by_cases d:(Z6 h (l.getD n M)).1.K=0;have b:GL h (l.getD n M)=1:=if_pos d;have a:ZM h F l c (n+1)=S9 (ZM h F l c n) (l.getD n M-F) 1:=by rw[ZM,b]
 exact sF [] (fO 8)<|Fh 20000 [.els (La wD (Lk (min (max (l.getD n M-F) 0) (↑(ZM h F l c n).length:Int)).toNat (ZM h F l c n)++Lh ((min (max (l.getD n M-F+1) 0) (↑(ZM h F l c n).length:Int)).toNat-(min (max (l.getD n M-F) 0) (↑(ZM h F l c n).length:Int)).toNat) 0++Lj ((min (max (l.getD n M-F) 0) (↑(ZM h F l c n).length:Int)).toNat+(Lh ((min (max (l.getD n M-F+1) 0) (↑(ZM h F l c n).length:Int)).toNat-(min (max (l.getD n M-F) 0) (↑(ZM h F l c n).length:Int)).toNat) (0:Int)).length) (ZM h F l c n)))]<|Ftb 47 (Lb ((n:Int)<(l.length:Int)))<|Fek 48 wD l (↑n) n<|Fc 53 (@IT h (l.getD n M) aa oq)<|Ffb 58 ((Z6 h (l.getD n M)).1.K != 0)<|Fi 62 (l.getD n M)<|Fi 64 F<|Fi 65 (l.getD n M-F)<|Fgo 68 (if 0 > l.getD n M-F then 0 else l.getD n M-F) (max (l.getD n M-F) 0)<|Fl 70 wD (ZM h F l c n)<|Fgo 71 (if(↑(ZM h F l c n).length:Int)<max (l.getD n M-F) 0 then(↑(ZM h F l c n).length:Int)else max (l.getD n M-F) 0) (min (max (l.getD n M-F) 0) (↑(ZM h F l c n).length:Int))<|Fi 74 (l.getD n M-F+1)<|Fgo 75 (if 0 > l.getD n M-F+1 then 0 else l.getD n M-F+1) (max (l.getD n M-F+1) 0)<|Fl 77 wD (ZM h F l c n)<|Fgo 78 (if(↑(ZM h F l c n).length:Int)<max (l.getD n M-F+1) 0 then(↑(ZM h F l c n).length:Int)else max (l.getD n M-F+1) 0) (min (max (l.getD n M-F+1) 0) (↑(ZM h F l c n).length:Int))<|Fa (by(simp only[Lp];omega):0<=min (max (l.getD n M-F) 0) (↑(ZM h F l c n).length:Int)/\min (max (l.getD n M-F) 0) (↑(ZM h F l c n).length:Int)<=min (max (l.getD n M-F+1) 0) (↑(ZM h F l c n).length:Int)/\min (max (l.getD n M-F+1) 0) (↑(ZM h F l c n).length:Int)<=(↑(La wD (ZM h F l c n)).length:Int))<|Fa (by simp only[Cf,Lu,LC,LB,LV,Lt];rfl:Cf (La wD (ZM h F l c n)) (min (max (l.getD n M-F) 0) (↑(ZM h F l c n).length:Int)).toNat (Lh ((min (max (l.getD n M-F+1) 0) (↑(ZM h F l c n).length:Int)).toNat-(min (max (l.getD n M-F) 0) (↑(ZM h F l c n).length:Int)).toNat) [ZZ 0])=La wD (Lk (min (max (l.getD n M-F) 0) (↑(ZM h F l c n).length:Int)).toNat (ZM h F l c n)++Lh ((min (max (l.getD n M-F+1) 0) (↑(ZM h F l c n).length:Int)).toNat-(min (max (l.getD n M-F) 0) (↑(ZM h F l c n).length:Int)).toNat) 0++Lj ((min (max (l.getD n M-F) 0) (↑(ZM h F l c n).length:Int)).toNat+(Lh ((min (max (l.getD n M-F+1) 0) (↑(ZM h F l c n).length:Int)).toNat-(min (max (l.getD n M-F) 0) (↑(ZM h F l c n).length:Int)).toNat) (0:Int)).length) (ZM h F l c n)))<|Fx 80 n<|Fr (35:Int)<|Fa (by refine congrArg _ ?_;rw[a];simp only[S9,Gk,Lt]:La wD (Lk (min (max (l.getD n M-F) 0) (↑(ZM h F l c n).length:Int)).toNat (ZM h F l c n)++Lh ((min (max (l.getD n M-F+1) 0) (↑(ZM h F l c n).length:Int)).toNat-(min (max (l.getD n M-F) 0) (↑(ZM h F l c n).length:Int)).toNat) 0++Lj ((min (max (l.getD n M-F) 0) (↑(ZM h F l c n).length:Int)).toNat+(Lh ((min (max (l.getD n M-F+1) 0) (↑(ZM h F l c n).length:Int)).toNat-(min (max (l.getD n M-F) 0) (↑(ZM h F l c n).length:Int)).toNat) (0:Int)).length) (ZM h F l c n))=La wD (ZM h F l c (n+1))) Fz;have b:GL h (l.getD n M)=Z5 (Z6 h (l.getD n M)).1:=if_neg d;have a:ZM h F l c (n+1)=S9 (ZM h F l c n) (l.getD n M-F) (Z5 (Z6 h (l.getD n M)).1):=by rw[ZM,b]
 exact sF [] (fO 8)<|Fh 20000 [.els (La wD (Lk (min (max (l.getD n M-F) 0) (↑(ZM h F l c n).length:Int)).toNat (ZM h F l c n)++Lh ((min (max (l.getD n M-F+Z5 (Z6 h (l.getD n M)).1) 0) (↑(ZM h F l c n).length:Int)).toNat-(min (max (l.getD n M-F) 0) (↑(ZM h F l c n).length:Int)).toNat) 0++Lj ((min (max (l.getD n M-F) 0) (↑(ZM h F l c n).length:Int)).toNat+(Lh ((min (max (l.getD n M-F+Z5 (Z6 h (l.getD n M)).1) 0) (↑(ZM h F l c n).length:Int)).toNat-(min (max (l.getD n M-F) 0) (↑(ZM h F l c n).length:Int)).toNat) (0:Int)).length) (ZM h F l c n)))]<|Ftb 47 (Lb ((n:Int)<(l.length:Int)))<|Fek 48 wD l (↑n) n<|Fc 53 (@IT h (l.getD n M) aa oq)<|Ftb 58 ((Z6 h (l.getD n M)).1.K != 0)<|Fc 60 (@EX ((Z6 h (l.getD n M)).1) aa)<|Fi 62 (l.getD n M)<|Fi 64 F<|Fi 65 (l.getD n M-F)<|Fgo 68 (if 0 > l.getD n M-F then 0 else l.getD n M-F) (max (l.getD n M-F) 0)<|Fl 70 wD (ZM h F l c n)<|Fgo 71 (if(↑(ZM h F l c n).length:Int)<max (l.getD n M-F) 0 then(↑(ZM h F l c n).length:Int)else max (l.getD n M-F) 0) (min (max (l.getD n M-F) 0) (↑(ZM h F l c n).length:Int))<|Fi 74 (l.getD n M-F+Z5 (Z6 h (l.getD n M)).1)<|Fgo 75 (if 0 > l.getD n M-F+Z5 (Z6 h (l.getD n M)).1 then 0 else l.getD n M-F+Z5 (Z6 h (l.getD n M)).1) (max (l.getD n M-F+Z5 (Z6 h (l.getD n M)).1) 0)<|Fl 77 wD (ZM h F l c n)<|Fgo 78 (if(↑(ZM h F l c n).length:Int)<max (l.getD n M-F+Z5 (Z6 h (l.getD n M)).1) 0 then(↑(ZM h F l c n).length:Int)else max (l.getD n M-F+Z5 (Z6 h (l.getD n M)).1) 0) (min (max (l.getD n M-F+Z5 (Z6 h (l.getD n M)).1) 0) (↑(ZM h F l c n).length:Int))<|Fa (by(simp only[Lp];omega):0<=min (max (l.getD n M-F) 0) (↑(ZM h F l c n).length:Int)/\min (max (l.getD n M-F) 0) (↑(ZM h F l c n).length:Int)<=min (max (l.getD n M-F+Z5 (Z6 h (l.getD n M)).1) 0) (↑(ZM h F l c n).length:Int)/\min (max (l.getD n M-F+Z5 (Z6 h (l.getD n M)).1) 0) (↑(ZM h F l c n).length:Int)<=(↑(La wD (ZM h F l c n)).length:Int))<|Fa (by simp only[Cf,Lu,LC,LB,LV,Lt];rfl:Cf (La wD (ZM h F l c n)) (min (max (l.getD n M-F) 0) (↑(ZM h F l c n).length:Int)).toNat (Lh ((min (max (l.getD n M-F+Z5 (Z6 h (l.getD n M)).1) 0) (↑(ZM h F l c n).length:Int)).toNat-(min (max (l.getD n M-F) 0) (↑(ZM h F l c n).length:Int)).toNat) [ZZ 0])=La wD (Lk (min (max (l.getD n M-F) 0) (↑(ZM h F l c n).length:Int)).toNat (ZM h F l c n)++Lh ((min (max (l.getD n M-F+Z5 (Z6 h (l.getD n M)).1) 0) (↑(ZM h F l c n).length:Int)).toNat-(min (max (l.getD n M-F) 0) (↑(ZM h F l c n).length:Int)).toNat) 0++Lj ((min (max (l.getD n M-F) 0) (↑(ZM h F l c n).length:Int)).toNat+(Lh ((min (max (l.getD n M-F+Z5 (Z6 h (l.getD n M)).1) 0) (↑(ZM h F l c n).length:Int)).toNat-(min (max (l.getD n M-F) 0) (↑(ZM h F l c n).length:Int)).toNat) (0:Int)).length) (ZM h F l c n)))<|Fx 80 n<|Fr (35:Int)<|Fa (by refine congrArg _ ?_;rw[a];simp only[S9,Gk,Lt]:La wD (Lk (min (max (l.getD n M-F) 0) (↑(ZM h F l c n).length:Int)).toNat (ZM h F l c n)++Lh ((min (max (l.getD n M-F+Z5 (Z6 h (l.getD n M)).1) 0) (↑(ZM h F l c n).length:Int)).toNat-(min (max (l.getD n M-F) 0) (↑(ZM h F l c n).length:Int)).toNat) 0++Lj ((min (max (l.getD n M-F) 0) (↑(ZM h F l c n).length:Int)).toNat+(Lh ((min (max (l.getD n M-F+Z5 (Z6 h (l.getD n M)).1) 0) (↑(ZM h F l c n).length:Int)).toNat-(min (max (l.getD n M-F) 0) (↑(ZM h F l c n).length:Int)).toNat) (0:Int)).length) (ZM h F l c n))=La wD (ZM h F l c (n+1))) Fz
def ZdC(h:Heap) F l c:CP (Zm f229 0) (adL h F l c l.length).st (.ext 0) (Tg.st ⟨tm 90 [(4,uU 0),(5,bL Lc),(6,uU F),(8,.ow 25033)],[(25033,.arr 35 1 ((ZM h F l c l.length).map wD))],60⟩):=by exact sF [] []<|Ffb 47 (Lb ((l.length:Int)<(l.length:Int))) Fz
def Zbg(h:Heap)(F:Int)(l c:List Int)(e:Zx h.W)(a:0<=F/\F<=8192)(hl:l.length<=1048576)(b:c.length<=64)(hr:∀x∈l,0<=x/\x<=8192):CP (Zi f229 0) (Tg.st ⟨tm 90 [(2,.pt 8002 0 0),(4,uU 0),(5,bL Lc),(6,uU F),(8,.ow 25033),(44,Z2 l),(45,nI l.length),(46,nI 0)],[(25033,.arr 35 1 (c.map wD)),(8002,.box 28 h.cells)],60⟩) .nrm (Tg.st ⟨tm 90 [(4,uU 0),(5,bL Lc),(6,uU F),(8,.ow 25033)],[(25033,.arr 35 1 ((ZM h F l c l.length).map wD))],60⟩):=
 Bp (S:=λn=>(adL h F l c n).st) l.length kr (λn d=>Zk8 h F l c n e a hl b hr d) (ZdC h F l c)
def RP(h:Heap)(i:Nat):List Int:=(h.W.drop ((address h.C i 0).1-4096).toNat).take h.C.pw.toNat
def BY(h:Heap)(i:Nat):List Int:=ZM h (address h.C i 0).1 (Ze h (B4 h.P i:Nat)).1 (RP h i) (Ze h (B4 h.P i:Nat)).1.length
def OS(h:Heap)(i:Nat)(hw:Zx h.W)(d:Z9 h=O)(hi:i<h.P.length):GP 229 [h.av,nI i] O (.tu [uU ((address h.C i 0).1+max (C9 (BY h i)) 0),bL (Lb (0<=C9 (BY h i)))]) []:=by
 have e:=B6 d;have ea:(address h.C i 0).1=4096+i*h.C.pw:=by(unfold address;rw[if_pos e.1,if_pos (Ie.2 oq)];simp only;omega)
 have ap:=Ii e.1 (i:=i) oq oq;have hh:=Z2F h.P i;have hx:(i:Int)*h.C.pw+h.C.pw<=h.W.length:=by
  have h1:((i:Int)+1)*h.C.pw<=h.C.pg*h.C.pw:=LM oq oq;have h2:((i:Int)+1)*h.C.pw=i*h.C.pw+h.C.pw:=by rw[LI,LN]
  have h3:h.C.pg*h.C.pw=h.C.pw*h.C.pg:=LL _ _;omega
 have hr:=AU d (B4 h.P i:Nat);have hn:=R0 h (B4 h.P i:Nat);have c:(BY h i).length<=64:=by(rw[BY,MF,RP,Lr];omega)
 have f:C9 (BY h i)<=64/\-1<=C9 (BY h i):=by(have:GE (BY h i)<=(BY h i).length:=(List.takeWhile_sublist _).length_le;unfold C9;split<;>omega)
 have g:(RP h i).length<=64:=by rw[RP,Lr];omega
 unfold BY RP at *;let b:=address h.C (i:Int) 0;let a:=ZM h b.1 (Ze h (↑(B4 h.P i):Int)).1 (Lk h.C.pw.toNat (Lj (b.1-4096).toNat h.W)) (Ze h (↑(B4 h.P i):Int)).1.length;exact gF [] func229 []<|Fc 23 (@Tv h.C ((i:Int)) (0))<|Fc 33 (@Ziy h.W (b.1) h.C.pw oq oq)<|Fc 40 (@Zl4 h i aa aa)<|Fc 41 (@R4 h ((↑(B4 h.P i):Int)) aa oq)<|Fl 45 wD (Ze h (↑(B4 h.P i):Int)).1<|Fu (@Zbg h (b.1) ((Ze h (↑(B4 h.P i):Int)).1) (Lk h.C.pw.toNat (Lj (b.1-4096).toNat h.W)) aa oq oq aa aa)<|Fc 82 (@ZiW a oq)<|Fgo 85 (if 0 > C9 a then 0 else C9 a) (max (C9 a) 0)<|Fv 86 (max (C9 a) 0)<|Fv 87 (b.1+max (C9 a) 0) Fz
def unS(fn:Func):Func:=match fn.body with|some (.seq x (.scope c)) => {fn with body:=Le (.seq x c)}|_=>fn
def Z6q(fn:Func):Code:=match fn.body with|some (.seq x _)=>x|_=>.skip
def Z6p(fn:Func):Code:=match fn.body with|some (.seq _ c)=>c|_=>.skip
def ZdM{P c}{n m:Nat}{s t}(f:m≠n)(h:CSpec P c s (.ext m) t):CSpec P (.block n c) s (.ext m) t:=by intro g b j a w i;refine wp_block (wp_mono (h g b j a w i) ?_);rintro e a' w' ⟨rfl,d⟩;show(if m=n then _ else _);rw[if_neg f];exact⟨rfl,d⟩
def Zd6{P fn}{b m:Nat}{S:Nat->St}{t}(n:Nat)(a:Rs b (Zi fn b)=O)(c:m≠b)(h:∀i,i<n->CSpec P (Zm fn b) (S i) .nrm (S (i+1)))(d:CSpec P (Zm fn b) (S n) (.ext m) t):CSpec P (Zi fn b) (S 0) (.ext m) t:=by rw[O3 a];exact ZdM c (Z1y (Z3i n h (λh=>nomatch h) d))
def fdV(h:Heap)(a k:Int):Int:=(Z1 h.W (a+1+k)).1
def R8(h:Heap)(all:List Int)(a k:Int):Bool:=(fdV h a k != 0)&&!decide (fdV h a k∈all)
def Zf6{h all}{a k:Int}:R8 h all a k=O↔¬ fdV h a k=0/\¬ fdV h a k∈all:=by simp[R8]
def Zky{h all}{a k:Int}:R8 h all a k=Lc↔fdV h a k=0\/fdV h a k∈all:=by by_cases b:fdV h a k=0<;>by_cases c:fdV h a k∈all<;>simp[R8,b,c]
def yJ(a:Int)(P:List Int):Nat->Int|0=>0|j+1=>a+1+P.getD j M
def apI(h:Heap)(all:List Int)(i:Nat)(a:Int)(P:List Int)(j:Nat):Tg:=⟨tm 83 [(1,.pt 8001 0 0),(2,.pt 8002 0 0),(3,Z2 all),(5,uU (yJ a P j)),(7,uU a),(24,Z2 all),(25,nI all.length),(26,nI i),(37,ZC P),(38,nI P.length),(39,nI j)],[(8002,.box 223 [nI 0,nI 0,uU 0]),(8001,.box 28 h.cells)],64⟩
section
variable(h:Heap)(all:List Int)(i:Nat)(a:Int)(P:List Int)(j:Nat)(hw:Zx h.W)(b:h.W.length<=1048576)(hl:all.length<=1048576)(hs:all.Pairwise (· < ·))(ha:0<=a/\a<=8192)(hP:P.length<=256)(hk:0<=P.getD j M/\P.getD j M<=256)(hj:j<P.length)
include hw b hl hs ha hP hk hj
theorem Z8y(d:R8 h all a (P.getD j M)=Lc):CP (Zm (unS f207) 2) (apI h all i a P j).st .nrm (apI h all i a P (j+1)).st:=by have e:yJ a P (j+1)=a+1+P.getD j M:=rfl;have c:=Zky.1 d;unfold fdV at c;clear d;generalize f:yJ a P (j+1)=y1 at e;unfold apI;rw[f];rcases c with d|d;exact sF [] (fO 5)<|Ftb 40 (Lb ((j:Int)<(P.length:Int)))<|Fek 41 iD P (↑j) j<|Fv 44 (a+1)<|Fv 46 (P.getD j M)<|Fv 47 (a+1+P.getD j M)<|Fc 52 (@Dx h.W (a+1+P.getD j M) aa oq)<|Fc 58 (@bsearch all ((Z1 h.W (a+1+P.getD j M)).1) aa aa)<|Ffb 66 ((Z1 h.W (a+1+P.getD j M)).1 != 0&&!decide ((Z1 h.W (a+1+P.getD j M)).1∈all))<|Fx 67 j<|Fa ‹a+1+P.getD j M=y1› Fz;exact sF [] (fO 5)<|Ftb 40 (Lb ((j:Int)<(P.length:Int)))<|Fek 41 iD P (↑j) j<|Fv 44 (a+1)<|Fv 46 (P.getD j M)<|Fv 47 (a+1+P.getD j M)<|Fc 52 (@Dx h.W (a+1+P.getD j M) aa oq)<|Fc 58 (@bsearch all ((Z1 h.W (a+1+P.getD j M)).1) aa aa)<|Ffs 66 ((Z1 h.W (a+1+P.getD j M)).1 != 0&&!decide ((Z1 h.W (a+1+P.getD j M)).1∈all))<|Fx 67 j<|Fa ‹a+1+P.getD j M=y1› Fz
theorem Zfa(e:R8 h all a (P.getD j M)=O):CP (Zm (unS f207) 2) (apI h all i a P j).st (.ext 0) (Tg.st ⟨tm 83 [(1,.pt 8001 0 0),(2,.pt 8002 0 0),(5,uU (a+1+P.getD j M))],[(8002,.box 223 [nI 0,nI 0,uU 0]),(8001,.box 28 h.cells)],68⟩):=by obtain⟨c,d⟩:=Zf6.1 e;unfold fdV at c d;clear e;exact sF [] []<|Ftb 40 (Lb ((j:Int)<(P.length:Int)))<|Fek 41 iD P (↑j) j<|Fv 44 (a+1)<|Fv 46 (P.getD j M)<|Fv 47 (a+1+P.getD j M)<|Fc 52 (@Dx h.W (a+1+P.getD j M) aa oq)<|Fc 58 (@bsearch all ((Z1 h.W (a+1+P.getD j M)).1) aa aa)<|Fts 66 ((Z1 h.W (a+1+P.getD j M)).1 != 0&&!decide ((Z1 h.W (a+1+P.getD j M)).1∈all)) Fz
end
def ZeA(h:Heap) all i a P:CP (Zm (unS f207) 2) (apI h all i a P P.length).st (.ext 2) (Tg.st ⟨tm 83 [(1,.pt 8001 0 0),(2,.pt 8002 0 0),(3,Z2 all),(24,Z2 all),(25,nI all.length),(26,nI i)],[(8002,.box 223 [nI 0,nI 0,uU 0]),(8001,.box 28 h.cells)],68⟩):=by exact sF [] []<|Ffb 40 (Lb ((P.length:Int)<(P.length:Int))) Fz
def Zlt(h:Heap)(all:List Int)(i:Nat)(a:Int)(P:List Int)(l:Zx h.W)(c:h.W.length<=1048576)(hl:all.length<=1048576)(hs:all.Pairwise (· < ·))(e:0<=a/\a<=8192)(d:P.length<=256)(g:∀k∈P,0<=k/\k<=256)(f:P.find? (R8 h all a)=Lf) :CP (Zi (unS f207) 2) (Tg.st ⟨tm 83 [(1,.pt 8001 0 0),(2,.pt 8002 0 0),(3,Z2 all),(5,uU 0),(7,uU a),(24,Z2 all),(25,nI all.length),(26,nI i),(37,ZC P),(38,nI P.length),(39,nI 0)],[(8002,.box 223 [nI 0,nI 0,uU 0]),(8001,.box 28 h.cells)],64⟩) .nrm (Tg.st ⟨tm 83 [(1,.pt 8001 0 0),(2,.pt 8002 0 0),(3,Z2 all),(24,Z2 all),(25,nI all.length),(26,nI i)],[(8002,.box 223 [nI 0,nI 0,uU 0]),(8001,.box 28 h.cells)],68⟩):=
 Bp (S:=λj=>(apI h all i a P j).st) P.length kr (λj b=>Z8y h all i a P j l c hl hs e d (g _ (ZT.2 ⟨j,b,rfl⟩)) b (OB f j b)) (ZeA h all i a P)
def Zlh(h:Heap)(all:List Int)(i:Nat)(a:Int)(P:List Int)(x:Int)(g:Zx h.W)(b:h.W.length<=1048576)(hl:all.length<=1048576)(hs:all.Pairwise (· < ·))(e:0<=a/\a<=8192)(d:P.length<=256)(f:∀k∈P,0<=k/\k<=256)(p:P.find? (R8 h all a)=Le x) :CP (Zi (unS f207) 2) (Tg.st ⟨tm 83 [(1,.pt 8001 0 0),(2,.pt 8002 0 0),(3,Z2 all),(5,uU 0),(7,uU a),(24,Z2 all),(25,nI all.length),(26,nI i),(37,ZC P),(38,nI P.length),(39,nI 0)],[(8002,.box 223 [nI 0,nI 0,uU 0]),(8001,.box 28 h.cells)],64⟩) (.ext 0) (Tg.st ⟨tm 83 [(1,.pt 8001 0 0),(2,.pt 8002 0 0),(5,uU (a+1+x))],[(8002,.box 223 [nI 0,nI 0,uU 0]),(8001,.box 28 h.cells)],68⟩):=by
 obtain⟨n,c,l,m,o⟩:=AC p;subst l;exact Zd6 (S:=λj=>(apI h all i a P j).st) n kr dd (λj q=>Z8y h all i a P j g b hl hs e d (f _ (ZT.2 ⟨j,by omega,rfl⟩)) oq (o j q)) (Zfa h all i a P n g b hl hs e d (f _ (ZT.2 ⟨n,c,rfl⟩)) c m)
def apF(h:Heap)(all:List Int)(a:Int):Option Int:=(Zk (Z6 h a).1).find? (R8 h all a)
def apL(h:Heap)(all:List Int)(i:Nat):Tg:=⟨tm 83 [(1,.pt 8001 0 0),(2,.pt 8002 0 0),(3,Z2 all),(5,uU 0),(24,Z2 all),(25,nI all.length),(26,nI i)],[(8002,.box 223 [nI 0,nI 0,uU 0]),(8001,.box 28 h.cells)],60⟩
def Z2X(h:Zz):∀n:Nat,∀k∈BQ h n,0<=k/\k<n
 |0,k,hk=>by simp[BQ]at hk
 |n+1,k,hk=>by
  unfold BQ at hk;split at hk
  .rcases List.mem_append.1 hk with hk|hk
   .have:=Z2X h n k hk;omega
   .simp only[List.mem_cons,List.not_mem_nil,or_false]at hk;omega
  .have:=Z2X h n k hk;omega
def Z1L(h:Zz):(Zk h).length<=256/\∀k∈Zk h,0<=k/\k<=256:=by
 rw[<-Zaz];have hs:=Ip h;have h1:=Pr h (Z5 h).toNat
 exact⟨by omega,λk a=>by have:=Z2X h _ k a;omega⟩
section
variable(h:Heap)(all:List Int)(i:Nat)(b:Zx h.W)(c:h.W.length<=1048576)(hl:all.length<=1048576)(hs:all.Pairwise (· < ·))(hr:∀x∈all,0<=x/\x<=8192)(a:i<all.length)
include b c hl hs hr a
theorem Z8O(g:apF h all (all.getD i M)=Lf):CP (Zm (unS f207) 0) (apL h all i).st .nrm (apL h all (i+1)).st:=by have hx:=hr (all.getD i M) (ZT.2 ⟨i,a,rfl⟩);have hm:=Hy b (all.getD i M);have f:=Z1L (Z6 h (all.getD i M)).1;have j:=f.1;have k:=f.2;unfold apF at g;let d:=all.getD i M;let e:=Zk (Z6 h d).1;exact sF [] []<|Fk (2,Tg.mk (tm 83 [(1,AV.pt 8001 0 0),(2,AV.pt 8002 0 0),(3,Z2 all),(5,uU 0),(7,uU d),(24,Z2 all),(25,nI ↑all.length),(26,nI ↑i),(37,ZC e),(38,nI (e.length:Int)),(39,nI 0)]) [(8002,Z3.box 223 [nI 0,nI 0,uU 0]),(8001,Z3.box 28 h.cells)] 64,Ex.nrm,Tg.mk (tm 83 [(1,AV.pt 8001 0 0),(2,AV.pt 8002 0 0),(3,Z2 all),(24,Z2 all),(25,nI ↑all.length),(26,nI ↑i)]) [(8002,Z3.box 223 [nI 0,nI 0,uU 0]),(8001,Z3.box 28 h.cells)] 68)<|Ftb 27 (Lb ((i:Int)<(all.length:Int)))<|Fek 28 wD all (↑i) i<|Fc 33 (@IT h d aa oq)<|Fc 37 (@TQ ((Z6 h d).1) aa)<|Fl 38 iD e<|Fa (@Zlt h all i d e aa aa aa aa aa aa aa aa)<|Fx 68 i Fz
theorem ZcU x(g:apF h all (all.getD i M)=Le x):CP (Zm (unS f207) 0) (apL h all i).st (.ext 0) (Tg.st ⟨tm 83 [(1,.pt 8001 0 0),(2,.pt 8002 0 0),(5,uU (all.getD i M+1+x))],[(8002,.box 223 [nI 0,nI 0,uU 0]),(8001,.box 28 h.cells)],72⟩):=by have hx:=hr (all.getD i M) (ZT.2 ⟨i,a,rfl⟩);have hm:=Hy b (all.getD i M);have f:=Z1L (Z6 h (all.getD i M)).1;have j:=f.1;have k:=f.2;unfold apF at g;let d:=all.getD i M;let e:=Zk (Z6 h d).1;exact sF [] []<|Fk (2,Tg.mk (tm 83 [(1,AV.pt 8001 0 0),(2,AV.pt 8002 0 0),(3,Z2 all),(5,uU 0),(7,uU d),(24,Z2 all),(25,nI ↑all.length),(26,nI ↑i),(37,ZC e),(38,nI (e.length:Int)),(39,nI 0)]) [(8002,Z3.box 223 [nI 0,nI 0,uU 0]),(8001,Z3.box 28 h.cells)] 64,Ex.ext 0,Tg.mk (tm 83 [(1,AV.pt 8001 0 0),(2,AV.pt 8002 0 0),(5,uU (all.getD i M+1+x))]) [(8002,Z3.box 223 [nI 0,nI 0,uU 0]),(8001,Z3.box 28 h.cells)] 68)<|Ftb 27 (Lb ((i:Int)<(all.length:Int)))<|Fek 28 wD all (↑i) i<|Fc 33 (@IT h d aa oq)<|Fc 37 (@TQ ((Z6 h d).1) aa)<|Fl 38 iD e<|Fa (@Zlh h all i d e x aa aa aa aa aa aa aa aa) Fz
end
def Zm4(h:Heap) all:CP (Zm (unS f207) 0) (apL h all all.length).st (.ext 0) (Tg.st ⟨tm 83 [(1,.pt 8001 0 0),(2,.pt 8002 0 0),(5,uU 0)],[(8002,.box 223 [nI 0,nI 0,uU 0]),(8001,.box 28 h.cells)],72⟩):=by exact sF [] []<|Ffb 27 (Lb ((all.length:Int)<(all.length:Int))) Fz
def Zhg(h:Heap)(all:List Int)(e:Zx h.W)(b:h.W.length<=1048576)(hl:all.length<=1048576)(hs:all.Pairwise (· < ·))(hr:∀x∈all,0<=x/\x<=8192)(d:all.find? (λa=>(apF h all a).isSome)=Lf)  := Bp (S:=λi=>(apL h all i).st) all.length (by kernel_rfl) (λi c=>Z8O h all i e b hl hs hr c (by simpa using OB d i c)) (Zm4 h all)
def ZlZ(h:Heap)(all:List Int)(a x:Int)(c:Zx h.W)(b:h.W.length<=1048576)(hl:all.length<=1048576)(hs:all.Pairwise (· < ·))(hr:∀x∈all,0<=x/\x<=8192)(g:all.find? (λa=>(apF h all a).isSome)=Le a)(k:apF h all a=Le x):CP (Zi (unS f207) 0) (Tg.st ⟨tm 83 [(1,.pt 8001 0 0),(2,.pt 8002 0 0),(3,Z2 all),(5,uU 0),(24,Z2 all),(25,nI all.length),(26,nI 0)],[(8002,.box 223 [nI 0,nI 0,uU 0]),(8001,.box 28 h.cells)],60⟩) .nrm (Tg.st ⟨tm 83 [(1,.pt 8001 0 0),(2,.pt 8002 0 0),(5,uU (a+1+x))],[(8002,.box 223 [nI 0,nI 0,uU 0]),(8001,.box 28 h.cells)],72⟩):=by obtain⟨n,d,e,h3,f⟩:=AC g;subst e;exact Bp (S:=λi=>(apL h all i).st) n kr (λi j=>Z8O h all i c b hl hs hr oq (by simpa using f i j)) (ZcU h all n c b hl hs hr d x k)
def Zbc(h:Heap):CP (Z6q (unS f207)) (Tg.st ⟨tm 83 [(0,h.av)],[],1⟩) .nrm (Tg.st ⟨tm 83 [(1,.pt 8001 0 0),(2,.pt 8002 0 0)],[(8002,.box 223 [nI 0,nI 0,uU 0]),(8001,.box 28 h.cells)],20⟩):=by exact sF [] [] Fz
def SB(h:Heap):Int:=match (Zb h).1.find? (λa=>(apF h (Zb h).1 a).isSome)with|some a=>a+1+(apF h (Zb h).1 a).getD 0|none=>0
def CS(h:Heap):C8:=if SB h=0 then⟨0,0,0⟩else⟨6,(Z4 h.C (SB h)).1,SB h⟩
def ZkP(h:Heap)(hw:Zx h.W)(i:h.W.length<=1048576):CP (Z6p (unS f207)) (Tg.st ⟨tm 83 [(1,.pt 8001 0 0),(2,.pt 8002 0 0)],[(8002,.box 223 [nI 0,nI 0,uU 0]),(8001,.box 28 h.cells)],20⟩) .ret (Tg.st ⟨tm 83 [(2,.pt 8002 0 0)],[(8002,.box 223 [nI (CS h).fault,nI (CS h).page,uU (CS h).addr])],90⟩):=by
 have hl:=H6 h;have hs:=Mk h;have hr:=Iq h;cases hf:(Zb h).1.find? (λa=>(apF h (Zb h).1 a).isSome)with
 |none =>
  have b:SB h=0:=by simp only[SB,hf]
  have c:CS h=⟨0,0,0⟩:=if_pos b;rw[c];exact sF [] []<|Fk (0,Tg.mk (tm 83 [(1,AV.pt 8001 0 0),(2,AV.pt 8002 0 0),(3,Z2 (Zb h).1),(5,uU 0),(24,Z2 (Zb h).1),(25,nI (↑(Zb h).1.length:Int)),(26,nI 0)]) [(8002,Z3.box 223 [nI 0,nI 0,uU 0]),(8001,Z3.box 28 h.cells)] 60,Ex.nrm,Tg.mk (tm 83 [(1,AV.pt 8001 0 0),(2,AV.pt 8002 0 0),(5,uU 0)]) [(8002,Z3.box 223 [nI 0,nI 0,uU 0]),(8001,Z3.box 28 h.cells)] 72)<|Fc 21 (@SQ h aa)<|Fl 25 wD (Zb h).1<|Fa (@Zhg h ((Zb h).1) aa aa oq aa aa aa) Fz
 |some a =>
  obtain⟨n,e,f,g,h4⟩:=AC hf;obtain⟨x,d⟩:=L2.1 g;have ha:=hr a (ZT.2 ⟨n,e,f⟩);have j:=(Z1L (Z6 h a).1).2 x (LY d);have b:SB h=a+1+x:=by simp only[SB,hf,d,LD]
  have c:CS h=⟨6,(Z4 h.C (a+1+x)).1,a+1+x⟩:=by rw[CS,b,if_neg oq]
  rw[c];exact sF [] []<|Fk (0,Tg.mk (tm 83 [(1,AV.pt 8001 0 0),(2,AV.pt 8002 0 0),(3,Z2 (Zb h).1),(5,uU 0),(24,Z2 (Zb h).1),(25,nI (↑(Zb h).1.length:Int)),(26,nI 0)]) [(8002,Z3.box 223 [nI 0,nI 0,uU 0]),(8001,Z3.box 28 h.cells)] 60,Ex.nrm,Tg.mk (tm 83 [(1,AV.pt 8001 0 0),(2,AV.pt 8002 0 0),(5,uU (a+1+x))]) [(8002,Z3.box 223 [nI 0,nI 0,uU 0]),(8001,Z3.box 28 h.cells)] 72)<|Fc 21 (@SQ h aa)<|Fl 25 wD (Zb h).1<|Fa (@ZlZ h ((Zb h).1) a x aa aa oq aa aa aa aa)<|Ffb 70 (a+1+x==0)<|Fc 76 (@Gu h.C (a+1+x) oq oq) Fz
end Go.Proofs.YtgedmeaemofdkaaGreat
namespace Go.Proofs.YtgedmeaemofdkaaGreat
open Go.Sx Go.RowKit
def C8.val(f:C8):Value:=.agg #[.int .i64 f.fault,.int .i64 f.page,.int .u64 f.addr]
def ZeR ρ w Im(f:C8):Zj ρ w Im f.av f.val:=by refine .ag _ _ rfl (λi v h=>?_) (λi a v b c=>?_);rcases i with _|_|_|i<;>simp at h<;>subst h<;>rfl;rcases i with _|_|_|i<;>simp at b c<;>subst b<;>subst c<;>exact .d (.sc _ rfl)
def ZiC{ρ w Im}{f:C8}{v}(h:Zj ρ w Im f.av v):v=f.val:=by obtain⟨b,c,d,h3,e⟩:=HK h;rw[c];have g:∀(k:Nat) (a:k<b.size) (v:Value),[nI f.fault,nI f.page,uU f.addr][k]?=Le (.d (.sc v))->b[k]=v:=λk a v j=>C3 (e k _ b[k] j (Array.getElem?_eq_getElem a));have i:b.size=3:=d;simp only[C8.val];congr 1;apply Array.ext;simp[i];intro k a _;rcases k with _|_|_|k;exact g 0 a _ rfl;exact g 1 a _ rfl;exact g 2 a _ rfl;omega
def noGoto_ret{Q:Exit->Act->World->Prop}{a w}(h:Q .ret a w):Exit.noGoto Q Ex.ret.exit a w:=h
def Z3Q(h:Heap)(hw:Zx h.W)(p:h.W.length<=1048576):GP 207 [h.av] O (CS h).av []:=by
 intro f t r j d a;have c:r.size=1:=d;have b:Tryz.f207.body=Le (.seq (Z6q (unS f207)) (.scope (Z6p (unS f207)))):=by kernel_rfl
 refine calls_of_wp func207 b ?_;have w:Sx.Sys Gl t f (tm 83 [(0,h.av)]) (C1 []) 1 {tmps:=r++Lw (Tryz.f207.ntmps-r.size) undef,defers:=[]} f:=by(refine⟨_,t,Sx.Inv.empty j (Lv 1),⟨by rw[c];simp[c];kernel_rfl,λk y v g m=>?_,rfl⟩⟩;rw[show tm 83 [(0,h.av)]=[h.av]++Lh 82 .any from by kernel_rfl,LR]at g;rw[LF]at m;split at g;rename_i z;rw[if_pos (by rw[d];exact z)]at m;exact a k y v g m;have:=LZ g;rw[(L0.1 this).2];exact .any _)
 refine wp_seq (wp_mono (Zbc h _ _ _ _ _ w) ?_);rintro e a1 w1 ⟨rfl,x⟩;refine wp_scope_straight (wp_mono (ZkP h hw p _ _ _ _ _ x) ?_);rintro e a2 w2 ⟨rfl,ρ2,i,s,u⟩;obtain⟨v,n,o⟩:=Z4d (P:=prog) (fn:=f207) (l:=[(CS h).av]) s u kr;refine noGoto_ret (bodyPost_ret n u.defers ⟨v,rfl,s.kept.no,λ_=>Lf,λ_=>False,λ_ q=>q.elim,λ_ q=>q.elim,λ_ _ _ q=>(by cases q),λ_ _ _ _ _ q=>(by cases q),λ_ _ q=>(by cases q),λk B q=>by simp at q, ?_⟩);rw[ZiC (show Zj ρ2 w2 i (CS h).av v from o)];exact ZeR _ _ _ _
end Go.Proofs.YtgedmeaemofdkaaGreat
namespace Go.Proofs.YtgedmeaemofdkaaGreat
open Go.Sx
def Zl9{c:List Int}{x k:Int}(f:0<=k){o:Nat}(ho:o<c.length):(S9 c x k).getD o 0=if x<=o/\(o:Int)<x+k then 0 else c.getD o 0:=by
 have h1:Gk c x<=c.length:=PQ c x;have h2:Gk c (x+k)<=c.length:=PQ c (x+k);have h3:=Z9M c x f;have e:Gk c x+(Gk c (x+k)-Gk c x)=Gk c (x+k):=by omega
 have a1:o<Gk c x↔(o:Int)<x:=by unfold Gk;omega
 have a:o<Gk c (x+k)↔(o:Int)<x+k:=by unfold Gk;omega
 unfold S9;rw[e];simp only[Lo];by_cases b:o<Gk c x;rw[List.append_assoc,LS qo,Lz,if_pos b,if_neg (by have:=a1.1 b;omega)];by_cases d:o<Gk c (x+k);rw[LS qo,LU qo,if_pos (by have:=a.1 d;omega)];rw[List.getElem?_replicate,if_pos qo];rfl;rw[LU qo,Ly,if_neg (λq=>d (a.2 q.2))];congr 2;simp;omega
def Z8F{h F}{l c:List Int}{o:Nat}(e:o<c.length):∀n:Nat,n<=l.length->(ZM h F l c n).getD o 0=if(l.take n).any (λa=>Lb (a-F<=o)&&Lb ((o:Int)<a-F+GL h a))=O then 0 else c.getD o 0
 |0,_=>by simp[ZM]
 |n+1,hn=>by
  have hl:=MF h F l c n;rw[ZM,Zl9 (Z5p h _).1 oq,Z8F e n oq,Ae oq,List.any_append];generalize l.getD n M=a;generalize (l.take n).any _=b;by_cases d:a-F<=o/\(o:Int)<a-F+GL h a
  .rw[if_pos d,if_pos (by simp[d])]
  .rw[if_neg d];have:([a].any λa=>Lb (a-F<=(o:Int))&&Lb ((o:Int)<a-F+GL h a))=Lc:=by
    simp only[List.any_cons,List.any_nil,LH,Bool.and_eq_false_iff,decide_eq_false_iff_not];omega
   rw[this,LH]
def Z0b{h:Heap}(a:Z9 h=O){i:Nat}(hi:i<h.P.length){o:Int}(ho:0<=o/\o<h.C.pw):(address h.C i o).1=4096+(i*h.C.pw+o):=by have b:=B6 a;unfold address;rw[if_pos b.1,if_pos (Ie.2 oq)]
def Z3N{h:Heap}(a:Z9 h=O){i:Nat}(hi:i<h.P.length):0<=(i:Int)*h.C.pw/\(i:Int)*h.C.pw+h.C.pw<=h.W.length:=by
 have po:=B6 a;have h1:((i:Int)+1)*h.C.pw<=h.C.pg*h.C.pw:=LM oq oq;have h2:((i:Int)+1)*h.C.pw=i*h.C.pw+h.C.pw:=by rw[LI,LN]
 have h3:h.C.pg*h.C.pw=h.C.pw*h.C.pg:=LL _ _;have h4:(0:Int)<=i*h.C.pw:=Int.mul_nonneg oq oq;omega
def Zdq{h:Heap}(a:Z9 h=O){i:Nat}(b:i<h.P.length):(RP h i).length=h.C.pw.toNat/\∀o:Nat,o<h.C.pw.toNat->(RP h i).getD o 0=GG h i o:=by have po:=B6 a;have pi:=Z3N a b;have c:=Z0b a b (o:=0) oq;constructor;simp only[RP,Lr,LA];omega;intro o e;have d:=Z0b a b (o:=o) oq;unfold GG Z1;rw[d];rw[if_pos oq];simp only[RP,Lo,Lz,Ly,if_pos e];rw[c,show(4096+((i:Int)*h.C.pw+0)-4096).toNat+o=(4096+((i:Int)*h.C.pw+(o:Int))-4096).toNat from by omega]
def Z2x{h:Heap}(b:Z9 h=O){i:Nat}(c:i<h.P.length):(BY h i).length=h.C.pw.toNat/\∀o:Nat,o<h.C.pw.toNat->(BY h i).getD o 0=if(CV h i).getD o M=O then 0 else GG h i o:=by
 have po:=B6 b;obtain⟨r1,r2⟩:=Zdq b c;constructor;rw[BY,MF,r1];intro o d;rw[BY,Z8F oq _ (Lv _),List.take_length,r2 o d];have f:=Z0b b c (o:=0) oq;have e:(CV h i).getD o M=(Ze h (B4 h.P i:Nat)).1.any (λa=>Lb (a-(address h.C i 0).1<=(o:Int))&&Lb ((o:Int)<a-(address h.C i 0).1+GL h a)):=by(unfold CV Cx;rw[Lo,List.getElem?_map,List.getElem?_range d];simp only[L3,LD];congr 1;funext a;unfold Mg;rw[f,show a-(4096+((i:Int)*h.C.pw+0))=a-4096-i*h.C.pw from by omega])
 rw[e]
def Z61{h:Heap}(hp:Z9 h=O){i:Nat}(hi:i<h.P.length)(e:GE (BY h i)<(BY h i).length):Ez h i (CV h i)=4096+i*h.C.pw+GE (BY h i):=by
 obtain⟨c1,c2⟩:=Z2x hp hi;have hu:=Ph h i;have hf:(Lg (CV h i).length).find? (HL h i (CV h i))=Le (GE (BY h i)):=by
  rw[Lm];refine⟨?_,Li.2 oq,λj hj=>?_⟩
  .have h1:=Z7V e;rw[show(M:Int)=0 from rfl,c2 _ oq]at h1;split at h1
   .exact absurd rfl h1
   .rename_i h2;simp only[HL,LG,Lx,decide_eq_true_eq];exact⟨by simpa using h2,h1⟩
  .have h1:=(OD hj).2;rw[show(M:Int)=0 from rfl,c2 _ oq]at h1;simp only[HL,Bool.not_and,Bool.not_not,Bool.or_eq_true,Lx,decide_eq_false_iff_not];split at h1
   .rename_i h2;exact .inl h2
   .exact .inr (λq=>q h1)
 unfold Ez;rw[hf]
def ZbJ{h:Heap}(hp:Z9 h=O){i:Nat}(hi:i<h.P.length)(e:¬ GE (BY h i)<(BY h i).length):Ez h i (CV h i)=0:=by
 obtain⟨c1,c2⟩:=Z2x hp hi;have hu:=Ph h i;have hf:(Lg (CV h i).length).find? (HL h i (CV h i))=Lf:=by
  rw[Ll];intro j hj;have hj:=Li.1 hj;have h1:=(OD (l:=BY h i) (m:=j) oq).2;rw[show(M:Int)=0 from rfl,c2 _ oq]at h1;simp only[HL,LG,Lx,decide_eq_true_eq,not_and];intro h2 h3;rw[if_neg (by rw[h2];simp)]at h1;exact h3 h1
 unfold Ez;rw[hf]
def Z3l{h:Heap}(a:Z9 h=O){i:Nat}(c:i<h.P.length):Gf h i (Ze h i).1=Lb (Cu h i (Ze h i).1≠0):=by
 unfold Cu Gf;cases hf:(Ze h i).1.find? (Gv h i)with
 |none=>simp
 |some x =>
  have b:=LY hf;have e:=Z41 a (i:=i) oq;rw[e]at b;obtain⟨y,d,rfl⟩:=LW.1 b;have h1:=(Z3p y d).1;have h2:=(Z3N a c).1;have:y.addr≠0:=by omega
  simp[this]
def find_congr{α:Type}{p q:α->Bool}:∀{l:List α},(∀x∈l,p x=q x)->l.find? p=l.find? q
 |[],_=>rfl
 |a::l,h=>by
  rw[LQ,LQ,h a pq,find_congr (l:=l) (λx b=>h x (by simp[b]))]
def find_range{l:List Int}{p:Int->Bool}:match (Lg l.length).find? (λi=>p (l.getD i M))with|Lf=>l.find? p=Lf|Le i=>l.find? p=Le (l.getD i M):=by
 split;rename_i a;rw[Ll]at a⊢;intro x j;obtain⟨i,g,e⟩:=ZT.1 j;have:=a i (Li.2 g);rwa [e]at this;rename_i i a;obtain⟨c,b,f⟩:=Lm.1 a;have b:=Li.1 b;cases hf:l.find? p with
 |none =>have:=Ll.1 hf (l.getD i M) (ZT.2 ⟨i,b,rfl⟩);exact absurd c this
 |some x =>
  obtain⟨n,k1,d,k,m⟩:=AC hf;have h:n=i:=by(rcases Nat.lt_trichotomy n i with q|q|q;have:=f n q;rw[d,k]at this;cases this;exact q;have:=m i q;rw[c]at this;cases this)
  subst h;rw[d]
def TU{h}{a:Int}(b:a∈(Zb h).1):(Z6 h a).2=0/\(Z6 h a).1.K≠0:=by by_cases e:(CH h).2=0;rw[Z8n h e]at b;obtain⟨x,i,rfl⟩:=LW.1 b;obtain⟨c,d⟩:=List.mem_filter.1 i;obtain⟨f,g⟩:=Z37 x c;refine⟨g, ?_⟩;rw[<-f];simpa[Ev]using d;rw[Z7q h e]at b;simp at b
def Z7J(hd:Zz):∀n:Nat,BQ hd n=((Lg n).filter (λk:Nat=>Ba hd k)).map (λk:Nat=>(k:Int))
 |0=>rfl
 |n+1=>by
  rw[BQ,List.range_succ,List.filter_append,Lu,<-Z7J hd n];by_cases h:Ba hd (n:Int)=O
  .rw[if_pos h];simp[h]
  .rw[if_neg h];simp[h]
def TV(h:Heap)(all:List Int)(a:Int):Option Nat:=(Lg (C0 h a).1.length).find? (Ng (Zw h a).1 (C0 h a).1 all)
def Zay{h a}(e:(Z6 h a).2=0)(b:(Z6 h a).1.K≠0) all:apF h all a=(TV h all a).map (λk:Nat=>(k:Int)):=by
 have i1:=Dn e;have l:=(Pj e).1;have c:Zw h a=Z6 h a:=by(unfold Zw;rw[if_pos l,if_neg oq,if_neg (λq=>b q.2)])
 have d:=It (h:=h) (a:=a) (by rw[c];exact e);rw[c]at d;have j:=d.2.2.2.2.2.2.1;have hl:=d.2.2.2.2.2.2.2.2.2;have f:(C0 h a).1=(h.W.drop (a+1-4096).toNat).take (Z6 h a).1.length.toNat:=by(unfold C0;rw[c,if_pos e,BS,if_neg oq,if_pos oq])
 have i:(C0 h a).1.length=(Z6 h a).1.length.toNat:=by(rw[f,Lr,LA];omega)
 have g:∀k:Nat,k<(Z6 h a).1.length.toNat->(C0 h a).1.getD k M=fdV h a k:=by(intro k b;unfold fdV Z1;rw[if_pos oq,f];simp only[Lo,Lz,Ly,if_pos b];rw[show(a+1-4096).toNat+k=(a+1+(k:Int)-4096).toNat from by omega];rfl)
 unfold apF TV Zk;rw[if_pos j,Z7J,List.find?_map,List.find?_filter,i,c];congr 1;refine find_congr λk b=>?_;have b:=Li.1 b;rw[Ng,g k b];simp only[Function.comp,R8];cases Ba (Z6 h a).1 (k:Int)<;>simp
def ZhK(h:Heap):CS h=EQ h (Zb h).1:=by
 have hr:=find_range (l:=(Zb h).1) (p:=λa=>(TV h (Zb h).1 a).isSome);have j:(Zb h).1.find? (λa=>(apF h (Zb h).1 a).isSome)=(Zb h).1.find? (λa=>(TV h (Zb h).1 a).isSome):=find_congr λa f=>by(rw[Zay (TU f).1 (TU f).2,Option.isSome_map])
 unfold CS SB EQ;rw[j];change match (Lg (Zb h).1.length).find? (λi=>(HM h (Zb h).1 i).isSome)with|Lf=>_|Le i=>_ at hr
 split at hr;rename_i b;rw[hr,b];rfl;rename_i i b;have e:=(Lm.1 b);have d:(Zb h).1.getD i M∈(Zb h).1:=ZT.2 ⟨i,Li.1 e.2.1,rfl⟩;obtain⟨k,g⟩:=L2.1 e.1;have c:TV h (Zb h).1 ((Zb h).1.getD i M)=Le k:=g;have i1:=Dn (TU d).1;rw[hr,b];simp only[g,Zay (TU d).1 (TU d).2,c,L3,LD];rw[if_neg oq]
def Rp(h:Heap)(i:Nat):Tg:=⟨tm 64 [(1,.pt 8001 0 0),(2,.pt 8002 0 0),(12,B5 h.P),(13,nI h.P.length),(14,nI i)],[(8002,.box 223 [nI 0,nI 0,uU 0]),(8001,.box 28 h.cells)],60⟩
def Md(f:C8):Tg:=⟨tm 64 [(2,.pt 8002 0 0)],[(8002,.box 223 [nI f.fault,nI f.page,uU f.addr])],64⟩
section
variable(h:Heap)(i:Nat)(c:Zx h.W)(a:Z9 h=O)(b:i<h.P.length)
include c a b
theorem ZgJ(e:Ez h i (CV h i)=0):C9 (BY h i)=-1:=by by_cases d:GE (BY h i)<(BY h i).length;have h1:=Z61 a b d;have h2:=(Z3N a b).1;omega;exact if_neg d
theorem ZeV(e:¬ Ez h i (CV h i)=0):0<=C9 (BY h i)/\C9 (BY h i)<=64/\Ez h i (CV h i)=(address h.C i 0).1+C9 (BY h i):=by have po:=B6 a;by_cases d:GE (BY h i)<(BY h i).length;have f:=Z61 a b d;have g:C9 (BY h i)=GE (BY h i):=if_pos d;have j:=Z0b a b (o:=0) oq;have h4:=(Z2x a b).1;rw[f,g,j];omega;exact absurd (ZbJ a b d) e
theorem Z7m(d:(h.P.getD i M).K=0\/(h.P.getD i M).S=h.S)(n2:(Ze h (i:Int)).2=0)(f:Cu h (i:Int) (Ze h (i:Int)).1=0)(g:Ez h i (CV h i)=0):CP (Zm f206 0) (Rp h i).st .nrm (Rp h (i+1)).st:=by have po:=B6 a;have hn:=R0 h (i:Int);have hr:=AU a (i:Int);have e:=Z3l a b;rw[f]at e;have q4:=ZgJ h i c a b g;simp only[ne_eq,not_true_eq_false,decide_false]at e;rcases d with d|d;exact sF [] []<|Fh 48 [.br Lc]<|Fh 58 [.br Lc]<|Ftb 15 (Lb ((i:Int)<(h.P.length:Int)))<|Fek 17 Z0.dv h.P (↑i) i<|Ffb 28 ((h.P.getD i M).K != 0&&(h.P.getD i M).S != h.S)<|Fc 34 (@R4 h ((i:Int)) aa oq)<|Ffb 38 ((Ze h (i:Int)).2 != 0)<|Fc 45 (@Db h ((i:Int)) ((Ze h (i:Int)).1) aa oq oq oq aa)<|Fa ‹Gf h (i:Int) (Ze h (i:Int)).1=Lc›<|Fc 55 (@OS h i aa aa aa)<|Fb (Lb (0<=C9 (BY h i))=Lc)<|Fx 62 i Fz;exact sF [] []<|Fh 48 [.br Lc]<|Fh 58 [.br Lc]<|Ftb 15 (Lb ((i:Int)<(h.P.length:Int)))<|Fek 17 Z0.dv h.P (↑i) i<|Ffb 28 ((h.P.getD i M).K != 0&&(h.P.getD i M).S != h.S)<|Fc 34 (@R4 h ((i:Int)) aa oq)<|Ffb 38 ((Ze h (i:Int)).2 != 0)<|Fc 45 (@Db h ((i:Int)) ((Ze h (i:Int)).1) aa oq oq oq aa)<|Fa ‹Gf h (i:Int) (Ze h (i:Int)).1=Lc›<|Fc 55 (@OS h i aa aa aa)<|Fb (Lb (0<=C9 (BY h i))=Lc)<|Fx 62 i Fz
theorem ZgO(d:¬ (h.P.getD i M).K=0/\¬ (h.P.getD i M).S=h.S):CP (Zm f206 0) (Rp h i).st .ret (Md ⟨2,i,0⟩).st:=by have po:=B6 a;obtain⟨d,n2⟩:=d;exact sF [] []<|Ftb 15 (Lb ((i:Int)<(h.P.length:Int)))<|Fek 17 Z0.dv h.P (↑i) i<|Ftb 28 ((h.P.getD i M).K != 0&&(h.P.getD i M).S != h.S) Fz
theorem Zdv(d:(h.P.getD i M).K=0\/(h.P.getD i M).S=h.S)(n2:¬ (Ze h (i:Int)).2=0):CP (Zm f206 0) (Rp h i).st .ret (Md ⟨3,i,0⟩).st:=by have po:=B6 a;rcases d with d|d;exact sF [] []<|Ftb 15 (Lb ((i:Int)<(h.P.length:Int)))<|Fek 17 Z0.dv h.P (↑i) i<|Ffb 28 ((h.P.getD i M).K != 0&&(h.P.getD i M).S != h.S)<|Fc 34 (@R4 h ((i:Int)) aa oq)<|Ftb 38 ((Ze h (i:Int)).2 != 0) Fz;exact sF [] []<|Ftb 15 (Lb ((i:Int)<(h.P.length:Int)))<|Fek 17 Z0.dv h.P (↑i) i<|Ffb 28 ((h.P.getD i M).K != 0&&(h.P.getD i M).S != h.S)<|Fc 34 (@R4 h ((i:Int)) aa oq)<|Ftb 38 ((Ze h (i:Int)).2 != 0) Fz
theorem Zec(d:(h.P.getD i M).K=0\/(h.P.getD i M).S=h.S)(n2:(Ze h (i:Int)).2=0)(e:¬ Cu h (i:Int) (Ze h (i:Int)).1=0):CP (Zm f206 0) (Rp h i).st .ret (Md ⟨5,i,Cu h (i:Int) (Ze h (i:Int)).1⟩).st:=by
 have po:=B6 a;have hn:=R0 h (i:Int);have hr:=AU a (i:Int);have q3:Gf h i (Ze h i).1=O:=by rw[Z3l a b];simpa using e
 rcases d with d|d;exact sF [] []<|Fh 48 [.br O]<|Ftb 15 (Lb ((i:Int)<(h.P.length:Int)))<|Fek 17 Z0.dv h.P (↑i) i<|Ffb 28 ((h.P.getD i M).K != 0&&(h.P.getD i M).S != h.S)<|Fc 34 (@R4 h ((i:Int)) aa oq)<|Ffb 38 ((Ze h (i:Int)).2 != 0)<|Fc 45 (@Db h ((i:Int)) ((Ze h (i:Int)).1) aa oq oq oq aa)<|Fa ‹Gf h (i:Int) (Ze h (i:Int)).1=O› Fz;exact sF [] []<|Fh 48 [.br O]<|Ftb 15 (Lb ((i:Int)<(h.P.length:Int)))<|Fek 17 Z0.dv h.P (↑i) i<|Ffb 28 ((h.P.getD i M).K != 0&&(h.P.getD i M).S != h.S)<|Fc 34 (@R4 h ((i:Int)) aa oq)<|Ffb 38 ((Ze h (i:Int)).2 != 0)<|Fc 45 (@Db h ((i:Int)) ((Ze h (i:Int)).1) aa oq oq oq aa)<|Fa ‹Gf h (i:Int) (Ze h (i:Int)).1=O› Fz
theorem Zcl(d:(h.P.getD i M).K=0\/(h.P.getD i M).S=h.S)(n2:(Ze h (i:Int)).2=0)(g:Cu h (i:Int) (Ze h (i:Int)).1=0)(j:¬ Ez h i (CV h i)=0):CP (Zm f206 0) (Rp h i).st .ret (Md ⟨4,i,Ez h i (CV h i)⟩).st:=by
 have po:=B6 a;have hn:=R0 h (i:Int);have hr:=AU a (i:Int);have e:=Z3l a b;rw[g]at e;simp only[ne_eq,not_true_eq_false,decide_false]at e;obtain⟨q4,q5,k⟩:=ZeV h i c a b j;have f:max (C9 (BY h i)) 0=C9 (BY h i):=by omega
 rw[k];rcases d with d|d;exact sF [] (fO 6)<|Fh 48 [.br Lc]<|Fh 58 [.br O]<|Ftb 15 (Lb ((i:Int)<(h.P.length:Int)))<|Fek 17 Z0.dv h.P (↑i) i<|Ffb 28 ((h.P.getD i M).K != 0&&(h.P.getD i M).S != h.S)<|Fc 34 (@R4 h ((i:Int)) aa oq)<|Ffb 38 ((Ze h (i:Int)).2 != 0)<|Fc 45 (@Db h ((i:Int)) ((Ze h (i:Int)).1) aa oq oq oq aa)<|Fa ‹Gf h (i:Int) (Ze h (i:Int)).1=Lc›<|Fc 55 (@OS h i aa aa aa)<|Fb (Lb (0<=C9 (BY h i))=O)<|Fr (223:Int)<|Fr (4:Int)<|Fr (i:Int)<|Fa (by rw[f]:(address h.C (i:Int) 0).1+max (C9 (BY h i)) 0=(C8.mk 4 (i:Int) ((address h.C (i:Int) 0).1+C9 (BY h i))).addr) Fz;exact sF [] (fO 6)<|Fh 48 [.br Lc]<|Fh 58 [.br O]<|Ftb 15 (Lb ((i:Int)<(h.P.length:Int)))<|Fek 17 Z0.dv h.P (↑i) i<|Ffb 28 ((h.P.getD i M).K != 0&&(h.P.getD i M).S != h.S)<|Fc 34 (@R4 h ((i:Int)) aa oq)<|Ffb 38 ((Ze h (i:Int)).2 != 0)<|Fc 45 (@Db h ((i:Int)) ((Ze h (i:Int)).1) aa oq oq oq aa)<|Fa ‹Gf h (i:Int) (Ze h (i:Int)).1=Lc›<|Fc 55 (@OS h i aa aa aa)<|Fb (Lb (0<=C9 (BY h i))=O)<|Fr (223:Int)<|Fr (4:Int)<|Fr (i:Int)<|Fa (by rw[f]:(address h.C (i:Int) 0).1+max (C9 (BY h i)) 0=(C8.mk 4 (i:Int) ((address h.C (i:Int) 0).1+C9 (BY h i))).addr) Fz
end
def Zmy(h:Heap):CP (Zm f206 0) (Rp h h.P.length).st (.ext 0) (Md ⟨0,0,0⟩).st:=by exact sF [] []<|Ffb 15 (Lb ((h.P.length:Int)<(h.P.length:Int))) Fz
def CM(h:Heap):C8:=match GC h with|Le i=>pageF h i|Lf=>⟨0,0,0⟩
def Z4R{h i}(e:(pageF h i).fault=0):((h.P.getD i M).K=0\/(h.P.getD i M).S=h.S)/\(Ze h (i:Int)).2=0/\Cu h (i:Int) (Ze h (i:Int)).1=0/\Ez h i (CV h i)=0:=by unfold pageF at e;split at e;simp at e;rename_i a;split at e;simp at e;rename_i b;split at e;simp at e;rename_i c;split at e;simp at e;rename_i d;refine⟨?_,Ln.1 b,Ln.1 c,Ln.1 d⟩;by_cases q:(h.P.getD i M).K=0;exact .inl q;refine .inr (Ln.1 λf=>a ⟨q,f⟩)
def Zbe(h:Heap)(i:Nat)(g:Zx h.W)(f:Z9 h=O)(d:i<h.P.length)(e:(pageF h i).fault≠0):CP (Zm f206 0) (Rp h i).st .ret (Md (pageF h i)).st:=by
 unfold pageF at e⊢;split;rename_i b;exact ZgO h i g f d b;rename_i b;have k:(h.P.getD i M).K=0\/(h.P.getD i M).S=h.S:=by(by_cases q:(h.P.getD i M).K=0;exact .inl q;exact .inr (Ln.1 λl=>b ⟨q,l⟩))
 split;rename_i a;exact Zdv h i g f d k a;rename_i a;split;rename_i c;exact Zec h i g f d k (Ln.1 a) c;rename_i c;split;rename_i j;exact Zcl h i g f d k (Ln.1 a) (Ln.1 c) j;rename_i j;rw[if_neg b,if_neg a,if_neg c,if_neg j]at e;exact absurd rfl e
def Zm7(h:Heap)(d:Zx h.W)(c:Z9 h=O)(b:GC h=Lf):CP (Zi f206 0) (Rp h 0).st .nrm (Tg.st ⟨tm 64 [(2,.pt 8002 0 0)],[(8002,.box 223 [nI 0,nI 0,uU 0])],64⟩):=by refine Bp (S:=λk=>(Rp h k).st) h.P.length kr (λk a=>?_) (Zmy h);have e:=Ll.1 b k (Li.2 a);obtain⟨f,g,j,l⟩:=Z4R (h:=h) (i:=k) (by simpa using e);exact Z7m h k d c a f g j l
def ZmO(h:Heap) i(c:Zx h.W)(b:Z9 h=O)(g:GC h=Le i):CP (Zi f206 0) (Tg.st ⟨tm 64 [(1,.pt 8001 0 0),(2,.pt 8002 0 0),(12,B5 h.P),(13,nI h.P.length),(14,nI 0)],[(8002,.box 223 [nI 0,nI 0,uU 0]),(8001,.box 28 h.cells)],60⟩) .ret (Tg.st ⟨tm 64 [(2,.pt 8002 0 0)],[(8002,.box 223 [nI (pageF h i).fault,nI (pageF h i).page,uU (pageF h i).addr])],64⟩):=by obtain⟨d,a,f⟩:=Lm.1 g;have a:=Li.1 a;refine EJ (S:=λk=>(Rp h k).st) i kr (λk j=>?_) (Zbe h i c b a (by simpa using d));have e:=f k j;obtain⟨l,m,n,o⟩:=Z4R (h:=h) (i:=k) (by simpa using e);exact Z7m h k c b oq l m n o
def Z0p(h:Heap)(hw:Zx h.W)(b:Z9 h=O):GP 206 [h.av] O (CM h).av []:=by
 have po:=B6 b;cases hf:GC h with
 |none =>
  have a:CM h=⟨0,0,0⟩:=by simp only[CM,hf]
  rw[a];exact gF [] func206 []<|Fl 13 Z0.dv h.P<|Fu (@Zm7 h aa aa aa) Fz
 |some i =>
  have a:CM h=pageF h i:=by simp only[CM,hf]
  rw[a];exact gF [] func206 []<|Fl 13 Z0.dv h.P<|Fu (@ZmO h i aa aa aa) Fz
def Zlz(h:Heap)(hw:Zx h.W)(hp:Z9 h=Lc):GP 171 [h.av] O (C8.av ⟨1,0,0⟩) []:=by exact gF [] func171 []<|Fc 9 (@Eg h)<|Ftb 10 (!Z9 h) Fz
def Zch(h:Heap)(hw:Zx h.W)(d:Z9 h=O) i(a:GC h=Le i):GP 171 [h.av] O (pageF h i).av []:=by
 have po:=B6 d;have b:CM h=pageF h i:=by simp only[CM,a]
 have c:¬ (pageF h i).fault=0:=by simpa using (Lm.1 a).1
 rw[<-b]at c⊢;exact gF [] func171 []<|Fc 9 (@Eg h)<|Ffb 10 (!Z9 h)<|Fc 13 (@Z0p h aa aa)<|Ftb 16 (!((CM h).fault==0&&((CM h).page==0&&(CM h).addr==0))) Fz
def Zn4(h:Heap)(hw:Zx h.W)(c:Z9 h=O)(b:GC h=Lf)(hq:¬ (CS h).fault=0):GP 171 [h.av] O (CS h).av []:=by
 have po:=B6 c;have a:CM h=⟨0,0,0⟩:=by simp only[CM,b]
 have q1:(CM h).fault=0:=by rw[a]
 have q2:(CM h).page=0:=by rw[a]
 have q3:(CM h).addr=0:=by rw[a]
 exact gF [] func171 []<|Fc 9 (@Eg h)<|Ffb 10 (!Z9 h)<|Fc 13 (@Z0p h aa aa)<|Ffb 16 (!((CM h).fault==0&&((CM h).page==0&&(CM h).addr==0)))<|Fc 19 (@Z3Q h aa oq)<|Ftb 22 (!((CS h).fault==0&&((CS h).page==0&&(CS h).addr==0))) Fz
def NN(h:Heap)(i:Nat):Tg:=⟨tm 50 [(1,.pt 8001 0 0),(2,.pt 8002 0 0),(5,nI (Bu h.P i)),(25,B5 h.P),(26,nI h.P.length),(27,nI i)],[(8002,.box 223 [nI 0,nI 0,uU 0]),(8001,.box 28 h.cells)],60⟩
def ZiH(h:Heap)(i:Nat)(c:Z9 h=O)(hi:i<h.P.length):CP (Zm f171 0) (NN h i).st .nrm (NN h (i+1)).st:=by
 have po:=B6 c;have:=RV h.P i;by_cases a:(h.P.getD i M).K=1;by_cases b:0<(h.P.getD i M).N;have e:Bu h.P (i+1)=Bu h.P i+1:=by rw[Bu,if_pos ⟨a,b⟩]
 rw[NN,NN,e];exact sF [] []<|Ftb 28 (Lb ((i:Int)<(h.P.length:Int)))<|Fek 29 Z0.dv h.P (↑i) i<|Ftb 38 ((h.P.getD i M).K==1&&Lb (0<(h.P.getD i M).N))<|Fw 40 ((↑(Bu h.P i):Int)+1) (↑(Bu h.P i+1):Int)<|Fx 41 i Fz;have e:Bu h.P (i+1)=Bu h.P i:=by rw[Bu,if_neg (λq=>b q.2)];rfl
 rw[NN,NN,e];exact sF [] []<|Ftb 28 (Lb ((i:Int)<(h.P.length:Int)))<|Fek 29 Z0.dv h.P (↑i) i<|Ffb 38 ((h.P.getD i M).K==1&&Lb (0<(h.P.getD i M).N))<|Fx 41 i Fz;have e:Bu h.P (i+1)=Bu h.P i:=by rw[Bu,if_neg (λq=>a q.1)];rfl
 rw[NN,NN,e];exact sF [] []<|Ftb 28 (Lb ((i:Int)<(h.P.length:Int)))<|Fek 29 Z0.dv h.P (↑i) i<|Ffb 38 ((h.P.getD i M).K==1&&Lb (0<(h.P.getD i M).N))<|Fx 41 i Fz
def Zix(h:Heap):CP (Zm f171 0) (NN h h.P.length).st (.ext 0) (Tg.st ⟨tm 50 [(1,.pt 8001 0 0),(2,.pt 8002 0 0),(5,nI (Bu h.P h.P.length))],[(8002,.box 223 [nI 0,nI 0,uU 0]),(8001,.box 28 h.cells)],64⟩):=by exact sF [] []<|Ffb 28 (Lb ((h.P.length:Int)<(h.P.length:Int))) Fz
def Z4s(h:Heap)(b:Z9 h=O)  := Bp (S:=λi=>(NN h i).st) h.P.length (by kernel_rfl) (λi a=>ZiH h i b a) (Zix h)
def ZeM(h:Heap)(hw:Zx h.W)(f:Z9 h=O)(e:GC h=Lf)(c:(CS h).fault=0)(hc:h.C.pg/4<(Bu h.P h.P.length:Nat)):GP 171 [h.av] O (C8.av ⟨7,0,0⟩) []:=by
 have po:=B6 f;have cl:=RV h.P h.P.length;have a:CM h=⟨0,0,0⟩:=by simp only[CM,e]
 have q1:(CM h).fault=0:=by rw[a]
 have q2:(CM h).page=0:=by rw[a]
 have q3:(CM h).addr=0:=by rw[a]
 have b:CS h=⟨0,0,0⟩:=by(unfold CS at c⊢;split at c;rename_i d;rw[if_pos d];simp at c)
 have q4:(CS h).fault=0:=by rw[b]
 have q5:(CS h).page=0:=by rw[b]
 have q6:(CS h).addr=0:=by rw[b]
 exact gF [] func171 []<|Fc 9 (@Eg h)<|Ffb 10 (!Z9 h)<|Fc 13 (@Z0p h aa aa)<|Ffb 16 (!((CM h).fault==0&&((CM h).page==0&&(CM h).addr==0)))<|Fc 19 (@Z3Q h aa oq)<|Ffb 22 (!((CS h).fault==0&&((CS h).page==0&&(CS h).addr==0)))<|Fl 26 Z0.dv h.P<|Fu (@Z4s h aa)<|Fg 46 (by rw[LO oq,Ef oq oq]:Lq.wrap (h.C.pg.tdiv 4)=h.C.pg/4)<|Fa (by decide:(4:Int)≠0)<|Ftb 47 (Lb (h.C.pg/4<(↑(Bu h.P h.P.length):Int))) Fz
def ZlR(h:Heap)(hw:Zx h.W)(f:Z9 h=O)(e:GC h=Lf)(c:(CS h).fault=0)(hc:¬ h.C.pg/4<(Bu h.P h.P.length:Nat)):GP 171 [h.av] O (C8.av ⟨0,0,0⟩) []:=by
 have po:=B6 f;have cl:=RV h.P h.P.length;have a:CM h=⟨0,0,0⟩:=by simp only[CM,e]
 have q1:(CM h).fault=0:=by rw[a]
 have q2:(CM h).page=0:=by rw[a]
 have q3:(CM h).addr=0:=by rw[a]
 have b:CS h=⟨0,0,0⟩:=by(unfold CS at c⊢;split at c;rename_i d;rw[if_pos d];simp at c)
 have q4:(CS h).fault=0:=by rw[b]
 have q5:(CS h).page=0:=by rw[b]
 have q6:(CS h).addr=0:=by rw[b]
 exact gF [] func171 []<|Fc 9 (@Eg h)<|Ffb 10 (!Z9 h)<|Fc 13 (@Z0p h aa aa)<|Ffb 16 (!((CM h).fault==0&&((CM h).page==0&&(CM h).addr==0)))<|Fc 19 (@Z3Q h aa oq)<|Ffb 22 (!((CS h).fault==0&&((CS h).page==0&&(CS h).addr==0)))<|Fl 26 Z0.dv h.P<|Fu (@Z4s h aa)<|Fg 46 (by rw[LO oq,Ef oq oq]:Lq.wrap (h.C.pg.tdiv 4)=h.C.pg/4)<|Fa (by decide:(4:Int)≠0)<|Ffb 47 (Lb (h.C.pg/4<(↑(Bu h.P h.P.length):Int))) Fz
def Zmg(h:Heap)(c:Zx h.W):GP 171 [h.av] O (Bn h).av []:=by
 have e:=ZhK h;unfold Bn;rw[<-e];by_cases a:Z9 h=O;rw[if_pos a];cases hb:GC h with|some i=>exact Zch h c a i hb|none =>by_cases b:(CS h).fault=0;simp only[b,ne_eq,not_true_eq_false,if_false];by_cases d:h.C.pg/4<(Bu h.P h.P.length:Nat);rw[if_pos d];exact ZeM h c a hb b d;rw[if_neg d];exact ZlR h c a hb b d;simp only[ne_eq,b,not_false_eq_true,if_true];exact Zn4 h c a hb b
 rw[if_neg a];exact Zlz h c (by simpa using a)
def ZdB(h:Heap):((Bn h).fault==0&&((Bn h).page==0&&(Bn h).addr==0))=Lb (Bn h=⟨0,0,0⟩):=by
 cases Bn h with|mk a b c=>by_cases d:a=0<;>by_cases e:b=0<;>by_cases f:c=0<;>simp[d,e,f]
def Z4l(h:Heap)(hw:Zx h.W):GP 122 [h.av] O (bL (Lb (Bn h=⟨0,0,0⟩))) []:=by have a:=ZdB h;exact gF [] func122 [O]<|Fc 4 (@Zmg h aa)<|Fa (a:((Bn h).fault==0&&((Bn h).page==0&&(Bn h).addr==0))=Lb (Bn h=C8.mk 0 0 0)) Fz
def GQ(all:List Int)(r:Int):Bool:=(r != 0)&&!decide (r∈all)
def Z0C(all:List Int):AV:=.fn 126 [.rp [.sl 1 (all.map wD)] 0]
def ZaB(all:List Int) r(ha:all.length<=1048576)(hs:all.Pairwise (· < ·)):GP 126 [uU r,.rp [.sl 1 (all.map wD)] 0] O (bL (GQ all r)) []:=by
 by_cases a:r=0;have e:GQ all r=Lc:=by simp[GQ,a]
 rw[e];exact gF [] func126 (fO 2)<|Fc 9 (@bsearch all r aa aa)<|Fa ‹(r != 0&&!decide (r∈all))=Lc› Fz;by_cases b:r∈all;have e:GQ all r=Lc:=by simp[GQ,b]
 rw[e];exact gF [] func126 (fO 2)<|Fc 9 (@bsearch all r aa aa)<|Fa ‹(r != 0&&!decide (r∈all))=Lc› Fz;have e:GQ all r=O:=by simp[GQ,a,b]
 rw[e];exact gF [] func126 (fO 2)<|Fc 9 (@bsearch all r aa aa)<|Fa ‹(r != 0&&!decide (r∈all))=O› Fz
def HB(all l:List Int):Nat:=(l.takeWhile λr=>!GQ all r).length
def Z09{all l}{m:Nat}(h:m<HB all l):m<l.length/\GQ all (l.getD m M)=Lc:=by obtain⟨a,b⟩:=Au _ _ _ h;refine⟨a, ?_⟩;rw[Lo,Ls a];simpa using b
def Z5Z{all l:List Int}(h:HB all l<l.length):GQ all (l.getD (HB all l) M)=O:=by
 have a:=Ao (λr=>!GQ all r) l h;have b:l.getD (HB all l) M=l[(l.takeWhile λr=>!GQ all r).length]:=by(rw[Lo,Ls h];rfl)
 rw[b];simpa using a
def IM(all l:List Int):Int:=if HB all l<l.length then HB all l else -1
def RX(all l:List Int)(i:Nat):Tg:=⟨tm 19 [(0,Z2 l),(1,Z0C all),(4,nI 0),(7,nI l.length),(8,nI i)],[],60⟩
section
variable(all l:List Int)(i:Nat)(hl:l.length<=1048576)(ha:all.length<=1048576)(hs:all.Pairwise (· < ·))(hi:i<l.length)
include hl ha hs hi
theorem Z8o(e:GQ all (l.getD i M)=Lc):CP (Zm f172 0) (RX all l i).st .nrm (RX all l (i+1)).st:=by unfold RX Z0C;exact sF [] []<|Fh 16 [.call O (bL (GQ all (l.getD i M))) [],.br Lc]<|Ftb 9 (Lb ((i:Int)<(l.length:Int)))<|Fek 14 wD l (↑i) i<|Fa (@ZaB all (l.getD i M) aa aa)<|Fa ‹GQ all (l.getD i M)=Lc›<|Fx 18 i Fz
theorem Zf7(e:GQ all (l.getD i M)=O):CP (Zm f172 0) (RX all l i).st .ret (Tg.st ⟨tm 19 [(4,nI i)],[],60⟩):=by unfold RX Z0C;exact sF [] []<|Fh 16 [.call O (bL (GQ all (l.getD i M))) [],.br O]<|Ftb 9 (Lb ((i:Int)<(l.length:Int)))<|Fek 14 wD l (↑i) i<|Fa (@ZaB all (l.getD i M) aa aa)<|Fa ‹GQ all (l.getD i M)=O› Fz
end
def ZfM all l:CP (Zm f172 0) (RX all l l.length).st (.ext 0) (Tg.st ⟨tm 19 [(4,nI 0)],[],60⟩):=by unfold RX Z0C;exact sF [] []<|Ffb 9 (Lb ((l.length:Int)<(l.length:Int))) Fz
def ZgS(all l:List Int)(hl:l.length<=1048576)(a:all.length<=1048576)(hs:all.Pairwise (· < ·))(h:¬ HB all l<l.length)  := Bp (S:=λj=>(RX all l j).st) l.length (by kernel_rfl) (λj b=>Z8o all l j hl a hs b (Z09 (by omega)).2) (ZfM all l)
def Zcj(all l:List Int)(hl:l.length<=1048576)(a:all.length<=1048576)(hs:all.Pairwise (· < ·))(h:HB all l<l.length)  := EJ (S:=λj=>(RX all l j).st) (HB all l) (by kernel_rfl) (λj b=>Z8o all l j hl a hs (by omega) (Z09 b).2) (Zf7 all l (HB all l) hl a hs h (Z5Z h))
def Zh6(all l:List Int)(hl:l.length<=1048576)(ha:all.length<=1048576)(hs:all.Pairwise (· < ·)):GP 172 [Z2 l,.fn 126 [.rp [.sl 1 (all.map wD)] 0]] O (nI (IM all l)) []:=by by_cases h:HB all l<l.length;have a:IM all l=HB all l:=if_pos h;rw[a];exact gF [] func172 []<|Fl 7 wD l<|Fu (@Zcj all l aa aa aa aa) Fz;have a:IM all l=-1:=if_neg h;rw[a];exact gF [] func172 []<|Fl 7 wD l<|Fu (@ZgS all l aa aa aa aa) Fz
def Zed(all l:List Int)(hl:l.length<=1048576)(ha:all.length<=1048576)(hs:all.Pairwise (· < ·)):GP 125 [Z2 l,.fn 126 [.rp [.sl 1 (all.map wD)] 0]] O (bL (Lb (0<=IM all l))) []:=by exact gF [] func125 []<|Fc 7 (@Zh6 all l aa aa aa) Fz
def Zlr(h:Heap) refs(hw:Zx h.W)(hg:¬ Bn h=⟨0,0,0⟩):GP 74 [h.av,Z2 refs] O (bL Lc) []:=by exact gF [] func74 []<|Fc 8 (@Z4l h aa)<|Ftb 9 (!decide (Bn h=C8.mk 0 0 0)) Fz
def Zml(h:Heap) refs(hw:Zx h.W)(hg:Bn h=⟨0,0,0⟩):Ad prog 4 (HD f74) (Tg.st ⟨tm 19 [(0,h.av),(1,Z2 refs)],[],1⟩) (Tg.st ⟨tm 19 [(1,Z2 refs),(5,.pt 24005 0 0)],[(24005,.box 25 [Z2 (Zb h).1])],20⟩):=by refine D1 [((8:Nat),[Hint.call O (bL (Lb (Bn h=C8.mk (0:Int) (0:Int) (0:Int)))) []]),((9:Nat),[Hint.br Lc]),((12:Nat),[Hint.call O (AV.tu [Z2 (Zb h).1,nI (Zb h).2]) []])] [] [] (φ:=GP 122 [h.av] O (bL (Lb (Bn h=C8.mk (0:Int) (0:Int) (0:Int)))) []/\(!decide (Bn h=C8.mk (0:Int) (0:Int) (0:Int)))=Lc/\Lc=Lc/\GP 107 [h.av] O (AV.tu [Z2 (Zb h).1,nI (Zb h).2]) []) ?_ kr kr kr kr;exact⟨(@Z4l (h) aa),(by(simp only[bs];omega)),rfl,(@SQ (h) aa)⟩
def ZdX(h:Heap)(refs:List Int):((Lg refs.length).find? (Cj refs (Zb h).1)).isNone = !decide (0<=IM (Zb h).1 refs):=by
 have e:∀i,Cj refs (Zb h).1 i=GQ (Zb h).1 (refs.getD i M):=by(intro i;unfold Cj GQ;generalize refs.getD i M=r;by_cases f:r=0<;>by_cases g:r∈(Zb h).1<;>simp[f,g])
 by_cases a:HB (Zb h).1 refs<refs.length;have c:IM (Zb h).1 refs=HB (Zb h).1 refs:=if_pos a;have d:(Lg refs.length).find? (Cj refs (Zb h).1)=Le (HB (Zb h).1 refs):=by(rw[Lm];refine⟨by rw[e];exact Z5Z a,Li.2 a,λj b=>?_⟩;rw[e,(Z09 b).2];rfl)
 rw[c,d];simp;have c:IM (Zb h).1 refs=-1:=if_neg a;have d:(Lg refs.length).find? (Cj refs (Zb h).1)=Lf:=by(rw[Ll];intro j b;have b:=Li.1 b;rw[e,(Z09 (l:=refs) (m:=j) oq).2];simp)
 rw[c,d];rfl
end Go.Proofs.YtgedmeaemofdkaaGreat
namespace Go.Proofs.YtgedmeaemofdkaaGreat
open Go.Sx Go.RowKit
def Zb2(h:Heap)(refs:List Int)(hw:Zx h.W)(hl:refs.length<=1048576)(l:Bn h=⟨0,0,0⟩):GP 74 [h.av,Z2 refs] O (bL (!decide (0<=IM (Zb h).1 refs))) []:=by
 intro f u vs w r d;rw[<-callsIn_wide (n:=10)];refine callsIn_of_wp func74 (c:=HD f74) kr trivial ?_ rfl;have o:vs.size=2:=r;have S0:Sx.Sys Gl u f (tm 19 [(0,h.av),(1,Z2 refs)]) (C1 []) 1 {tmps:=vs++Lw (Tryz.f74.ntmps-vs.size) undef,defers:=[]} f:=by(refine⟨_,u,Sx.Inv.empty w (Lv 1),⟨by rw[o];simp[o];kernel_rfl,λk y v s i=>?_,rfl⟩⟩;rw[show tm 19 [(0,h.av),(1,Z2 refs)]=[h.av,Z2 refs]++Lh 17 .any from by kernel_rfl,LR]at s;rw[LF]at i;split at s;rename_i hk;rw[if_pos (by rw[r];exact hk)]at i;exact d k y v s i;have:=LZ s;rw[(L0.1 this).2];exact .any _)
 generalize hR:(λe w'=>∃v,e=Ending.returned v/\RG f u O (bL (!decide (0<=IM (Zb h).1 refs))) [] v w')=R;generalize hQ:bodyPost prog f74 R=Q;refine Zml h refs hw l 10 Q _ _ _ _ _ S0 ?_;rintro a1 w1 ⟨ρ1,a,j,T1⟩;obtain⟨v5,t5,r5⟩:=T1.at (t:=5) (x:=.pt 24005 0 0) rfl;obtain⟨β,m,n⟩:=j.blk 24005 _ rfl;have z:Zj (λ_=>Lf) w1 (λg=>a g\/β.g=Le g) (.rp [.sl 1 ((Zb h).1.map wD)] 0) v5:=TR m n r5 (λ_ h=>.inl h) (λ_ h=>.inr h);have er:rest prog 10 4 (HD f74) Q a1 w1=(Code.region 4 (BM f74 4) Lc).wpIn Fence.wide 10 prog (Exit.then (Code.ret.wpIn Fence.wide 10 prog Q) Q) a1 w1:=by kernel_rfl
 rw[er];refine wpIn_region ?_;rw[show Lg (BM f74 4).size=[0,1,2,3,4]from by kernel_rfl];have T2:Cy [] (λ_=>Lf) w1 (λg=>a g\/β.g=Le g) (tm 19 [(1,Z2 refs),(5,.rp [.sl 1 ((Zb h).1.map wD)] 0)]) a1:=by(have A1:Cy [] ρ1 w1 (λg=>a g\/β.g=Le g) _ a1:=T1.mono (Sx.Ext.refl _ _) (λ_ h=>.inl h) (λ_ _ h=>h) j.bnd;have A2:=(A1.reSet 5 .any (λv _=>.any v)).pure kr;exact A2.reSet 5 (.rp [.sl 1 ((Zb h).1.map wD)] 0) (λv i=>by rw[t5]at i;cases i;exact z))
 have S2:Sx.Sys Gl (λg=>a g\/β.g=Le g) w1 (tm 19 [(1,Z2 refs),(5,.rp [.sl 1 ((Zb h).1.map wD)] 0)]) (C1 []) 20 a1 w1:=by(refine⟨_,_,Sx.Inv.empty ?_ dd,T2⟩;rintro g (l|l);exact j.imb g l;exact j.bnd _ _ g m l)
 generalize hb:Lb (0<=IM (Zb h).1 refs)=b at hR;have hc:=Zed (Zb h).1 refs hl (by have:=H6 h;omega) (Mk h);rw[hb]at hc;refine Pp (ro:=Lf) (hints:=[(17,[Hint.call O (bL b) []])]) (out:=⟨((((tm 19 [(1,Z2 refs),(5,.rp [.sl 1 ((Zb h).1.map wD)] 0)]).set 15 (Z2 refs)).set 16 (.fn 126 [.rp [.sl 1 ((Zb h).1.map wD)] 0])).set 17 (bL b)).set 18 (bL (!b)) |>.set 4 (bL (!b)),C1 [],[GP 125 [Z2 refs,.fn 126 [.rp [.sl 1 ((Zb h).1.map wD)] 0]] O (bL b) []],[]⟩) kr S2 hc (λp hp=>by simp at hp) ?_;rintro a3 w3 ⟨ρ3,a0,I3,T3⟩;refine wpIn_ret ?_;show Q .ret a3 w3;rw[<-hQ];refine bodyPost_ret (results_tmp rfl _ _ _) T3.defers ?_;rw[<-hR];have r4:a3.tmps.getD 4 undef=.bool (!b):=C3 (Ed T3 (.tmp 4));rw[r4];exact⟨_,rfl,RN j.kept.no I3.kept (λ_ h=>(Sx.OwA.no h).elim),λ_=>Lf,λ_=>False,λ_ q=>q.elim,λ_ q=>q.elim,λ_ _ _ q=>(by cases q),λ_ _ _ _ _ q=>(by cases q),λ_ _ q=>(by cases q),λk B q=>by simp at q,.d (.sc _ rfl)⟩
def Zgc(h:Heap)(refs:List Int)(b:Zx h.W)(hl:refs.length<=1048576):GP 74 [h.av,Z2 refs] O (bL (Bw h refs)) []:=by
 by_cases a:Bn h=⟨0,0,0⟩;have e:Bw h refs = !decide (0<=IM (Zb h).1 refs):=by(unfold Bw;rw[ZdX,a];simp)
 rw[e];exact Zb2 h refs b hl a;have e:Bw h refs=Lc:=by simp[Bw,a]
 rw[e];exact Zlr h refs b a
end Go.Proofs.YtgedmeaemofdkaaGreat
namespace Go.Proofs.YtgedmeaemofdkaaGreat
open Go.Sx
def Z86{h:Heap}(a:∀i:Nat,i<h.P.length->(Ze h (i:Int)).2=0):∀(f i:Nat),i+f=h.P.length->(Cp h f i).2=0
 |0,_,_=>rfl
 |f+1,i,hf=>by
  have b:=Z86 a f (i+1) oq;unfold Cp;rw[a i oq,b];rfl
def ZlG{h:Heap}(a:Bn h=⟨0,0,0⟩):(Zb h).2=0:=by
 have e:Z9 h=O:=by(by_cases q:Z9 h=O;exact q;rw[Bn,if_neg q]at a;cases a)
 rw[Bn,if_pos e]at a;have c:∀i,i<h.P.length->(pageF h i).fault=0:=by
  intro i b;cases hb:GC h with|some j =>rw[hb]at a;simp only at a;have:=List.find?_some hb;rw[a]at this;simp at this|none =>have:=Ll.1 hb i (Li.2 b);simpa using this
 have d:∀i:Nat,i<h.P.length->(Ze h (i:Int)).2=0:=by(intro i b;have q:=c i b;unfold pageF at q;split at q;simp at q;split at q;simp at q;rename_i c2;simpa using c2)
 unfold Zb;rw[CN,if_pos e];exact Z86 d h.P.length 0 oq
def SE(h:Heap)(l:List Z0):List (Nat×Z3):=[(8001,.box 28 [nI h.C.pw,nI h.C.pg,.ow 49027,.ow 49030,nI h.S,nI h.B]),(49030,.arr 86 4 (l.map Z0.dv)),(49027,.arr 35 1 (h.W.map wD)),(8002,.box 127 zW)]
def Pt(h:Heap)(all:List Int)(i:Nat):Tg:=⟨tm 61 [(1,.pt 8001 0 0),(2,.pt 8002 0 0),(3,nI 0),(4,Z2 all),(34,.ow 49030),(35,nI h.P.length),(36,nI i)],SE h (ZA (Zs (1-h.S)) h.P i),8⟩
section
variable(h:Heap)(all:List Int)(hs:h.S=0\/h.S=1)(hl:h.P.length<=1048576)
include hs hl
theorem ZkL(i:Nat)(p:i<h.P.length):CP (Zm f73 0) (Pt h all i).st .nrm (Pt h all (i+1)).st:=by have l:=Z0o (Zs (1-h.S)) h.P (Lv i) M;have hn:=SP (Zs (1-h.S)) h.P i;by_cases f:(h.P.getD i M).K=1/\0<(h.P.getD i M).N;have g:=Z0U (Zs (1-h.S)) h.P p M;rw[show Zs (1-h.S) (h.P.getD i M)=⟨(h.P.getD i M).K,1-h.S,(h.P.getD i M).U,(h.P.getD i M).N⟩ by rw[Zs,if_pos f],<-l]at g;rw[<-l]at f;have n {h_ c_ p_} (m:Fq h_ c_ p_):=Ftb 37 (Lb ((i:Int)<(h.P.length:Int)))<|Fmq 40 Z0.dv (ZA (Zs (1-h.S)) h.P i) (↑i) m;rcases bb (((ZA (Zs (1-h.S)) h.P i).getD (i:Int).toNat M).K==1&&Lb (0<((ZA (Zs (1-h.S)) h.P i).getD (i:Int).toNat M).N))with hc0|hc0<;>have a:=hc0<;>simp only[bs]at a;obtain⟨b,c⟩:=a;let j:=ZA (Zs (1-h.S)) h.P i;let d:=j.getD (i:Int).toNat M;exact sF [] (fO 11) (n (Ft 48 hc0<|Fi 54 (1-h.S)<|Fm0q Z0.dv j (↑i)<|FS 10056 Z0.dv j ((i:Int).toNat) (Z0.mk d.K (1-h.S) d.U d.N) (d.dv)<|Fx 57 i<|Fr (86:Int)<|Fa (by refine congrArg _ ?_;exact g:La Z0.dv (j.set (i:Int).toNat (Z0.mk d.K (1-h.S) d.U d.N))=La Z0.dv (ZA (Zs (1-h.S)) h.P (i+1))) Fz));exact sF [] (fO 11) (n (Ff 48 hc0<|Fx 57 i<|Fr (86:Int)<|Fa (by refine congrArg _ ?_;grind[]:La Z0.dv (ZA (Zs (1-h.S)) h.P i)=La Z0.dv (ZA (Zs (1-h.S)) h.P (i+1))) Fz));have g:=Z3D (Zs (1-h.S)) h.P p M (by rw[Zs,if_neg f]);rw[<-l]at f;have o {h_ c_ p_} (m:Fq h_ c_ p_):=Ftb 37 (Lb ((i:Int)<(h.P.length:Int)))<|Fmq 40 Z0.dv (ZA (Zs (1-h.S)) h.P i) (↑i) m;rcases bb (((ZA (Zs (1-h.S)) h.P i).getD (i:Int).toNat M).K==1&&Lb (0<((ZA (Zs (1-h.S)) h.P i).getD (i:Int).toNat M).N))with hc0|hc0<;>have a:=hc0<;>simp only[bs]at a;obtain⟨b,c⟩:=a;let k:=ZA (Zs (1-h.S)) h.P i;let e:=k.getD (i:Int).toNat M;exact sF [] (fO 11) (o (Ft 48 hc0<|Fi 54 (1-h.S)<|Fm0q Z0.dv k (↑i)<|FS 10056 Z0.dv k ((i:Int).toNat) (Z0.mk e.K (1-h.S) e.U e.N) (e.dv)<|Fx 57 i<|Fr (86:Int)<|Fa (by refine congrArg _ ?_;grind[]:La Z0.dv (k.set (i:Int).toNat (Z0.mk e.K (1-h.S) e.U e.N))=La Z0.dv (ZA (Zs (1-h.S)) h.P (i+1))) Fz));exact sF [] (fO 11) (o (Ff 48 hc0<|Fx 57 i<|Fr (86:Int)<|Fa (by refine congrArg _ ?_;exact g:La Z0.dv (ZA (Zs (1-h.S)) h.P i)=La Z0.dv (ZA (Zs (1-h.S)) h.P (i+1))) Fz))
omit hs hl in
theorem ZeY:CP (Zm f73 0) (Pt h all h.P.length).st (.ext 0) (Tg.st ⟨tm 61 [(1,.pt 8001 0 0),(2,.pt 8002 0 0),(3,nI 0),(4,Z2 all)],SE h (h.P.map (Zs (1-h.S))),8⟩):=by have hq:=Z0W (Zs (1-h.S)) h.P;have hn:=SP (Zs (1-h.S)) h.P h.P.length;exact sF [] (fO 5)<|Ffb 37 (Lb ((h.P.length:Int)<(h.P.length:Int)))<|Fr (86:Int)<|Fa (by refine congrArg _ ?_;assumption:La Z0.dv (ZA (Zs (1-h.S)) h.P h.P.length)=La Z0.dv (La (Zs (1-h.S)) h.P)) Fz
theorem Zbu:CP (Zi f73 0) (Tg.st ⟨tm 61 [(1,.pt 8001 0 0),(2,.pt 8002 0 0),(3,nI 0),(4,Z2 all),(34,.ow 49030),(35,nI h.P.length),(36,nI 0)],SE h h.P,8⟩) .nrm (Tg.st ⟨tm 61 [(1,.pt 8001 0 0),(2,.pt 8002 0 0),(3,nI 0),(4,Z2 all)],SE h (h.P.map (Zs (1-h.S))),8⟩):=by have:=Bp (S:=λk=>(Pt h all k).st) h.P.length kr (λk a=>ZkL h all hs hl k a) (ZeY h all);simp only[Pt,Za0]at this;exact this
end
def ZhF(h:Heap)(hw:Zx h.W)(c:Z9 h=O)(a:Bn h=⟨0,0,0⟩):GP 73 [h.av] Lc (.tu [(Zr h).av,nI 0]) []:=by have po:=B6 c;have ho:=H6 h;have g:=ZlG a;have b:h.P≠[]:=AB oq;exact gF [] func73 []<|Fc 9 (@Eg h)<|Ffb 10 (!Z9 h)<|Fc 13 (@Z4l h aa)<|Ffb 14 (!decide (Bn h=C8.mk 0 0 0))<|Fc 18 (@SQ h aa)<|Ffb 22 ((Zb h).2 != 0)<|Fc 27 (@ML h.W oq)<|Fc 30 (@Z3U h.P oq aa)<|Fl 35 Z0.dv h.P<|Fu (@Zbu h ((Zb h).1) oq oq)<|Fnl (Fnl Fz)
def Nu(w:Z7):List (Nat×Z3):=[(22014,Bh w.Q),(21014,EZ w.T),(20014,Bh w.old),(19014,G1 w.j.P),(18014,Bh w.j.W),(17014,w.ckB 18014 19014 20014 21014 22014)]
def Dk(w:Z7)(roots out:List Int)(i:Nat):Tg:=⟨tm 40 [(4,.pt 8004 0 0),(5,.d (.sl 0 [])),(6,nI 0),(7,.pt 17014 0 0),(8,.ow 24008),(15,Z2 roots),(16,nI roots.length),(17,nI i)],(24008,.arr 35 1 (out.map wD))::(8004,.box 127 zW)::Nu w,5⟩
section
variable(w:Z7)(roots out:List Int)(i:Nat)(f:FwOk w (roots.getD i M))(hl:roots.length<=1048576)(ho:out.length<=1048576)(hi:i<roots.length)
include f hl ho hi
theorem Z87(e:(w.fwd (roots.getD i M)).2.2=0):CP (Zm f77 0) (Dk w roots out i).st .nrm (Dk (w.fwd (roots.getD i M)).1 roots (out++[(w.fwd (roots.getD i M)).2.1]) (i+1)).st:=by let a:=w.fwd (roots.getD i M);exact sF [(72034,24008),(57024,19014),(58024,21014),(59024,22014)] []<|Fh 34 [.els (La wD (out++[a.2.1]))]<|Ftb 18 (Lb ((i:Int)<(roots.length:Int)))<|Fek 19 wD roots (↑i) i<|Fbr 24 [17014,18014,19014,20014,21014,22014] (@Zav w (roots.getD i M) aa aa)<|Fs 33 (La wD [a.2.1])<|Fa (by(simp[*];omega):(La wD out).length+(La wD [a.2.1]).length<=2^30)<|Fa (ms:La wD out++La wD [a.2.1]=La wD (out++[a.2.1]))<|Fx 35 i Fz
theorem ZkQ(e:¬ (w.fwd (roots.getD i M)).2.2=0):CP (Zm f77 0) (Dk w roots out i).st .ret (Tg.st ⟨tm 40 [(4,.pt 8004 0 0),(5,.d (.sl 0 [])),(6,nI (w.fwd (roots.getD i M)).2.2)],[(8004,.box 127 zW)],60⟩):=by exact sF [] []<|Ftb 18 (Lb ((i:Int)<(roots.length:Int)))<|Fek 19 wD roots (↑i) i<|Fbq 24 [17014,18014,19014,20014,21014,22014] (@Zb0 w (roots.getD i M) aa aa)<|Ftb 28 ((w.fwd (roots.getD i M)).2.2 != 0) Fz
end
def Zeh w roots out:CP (Zm f77 0) (Dk w roots out roots.length).st (.ext 0) (Tg.st ⟨tm 40 [(4,.pt 8004 0 0),(7,.pt 17014 0 0),(8,.ow 24008)],(24008,.arr 35 1 (out.map wD))::(8004,.box 127 zW)::Nu w,5⟩):=by exact sF [] []<|Ffb 18 (Lb ((roots.length:Int)<(roots.length:Int))) Fz
def Z1W(w:Z7)(roots:List Int):Prop:=∀k,k<roots.length->(∀j,j<k->E8 w roots j=0)->FwOk (rootsN w roots k).1 (roots.getD k M)
section
variable(w:Z7)(roots:List Int)(hN:Z1W w roots)(hl:roots.length<=1048576)
include hN hl
theorem ZjP(d:(Lg roots.length).find? (λk=>Lb (E8 w roots k≠0))=Lf):CP (Zi f77 0) (Tg.st ⟨tm 40 [(4,.pt 8004 0 0),(5,.d (.sl 0 [])),(6,nI 0),(7,.pt 17014 0 0),(8,.ow 24008),(15,Z2 roots),(16,nI roots.length),(17,nI 0)],(24008,.arr 35 1 [])::(8004,.box 127 zW)::Nu w,5⟩) .nrm (Tg.st ⟨tm 40 [(4,.pt 8004 0 0),(7,.pt 17014 0 0),(8,.ow 24008)],(24008,.arr 35 1 ((rootsN w roots roots.length).2.map wD))::(8004,.box 127 zW)::Nu (rootsN w roots roots.length).1,5⟩):=by
 have b:∀j,j<roots.length->E8 w roots j=0:=λj c=>by(have:=Ll.1 d j (Li.2 c);simpa using this)
 exact Bp (S:=λk=>(Dk (rootsN w roots k).1 roots (rootsN w roots k).2 k).st) roots.length kr (λk a=>Z87 _ roots _ k (hN k a λj c=>b j oq) hl (by rw[N0];omega) a (b k a)) (Zeh _ roots _)
theorem Zcw i(f:(Lg roots.length).find? (λk=>Lb (E8 w roots k≠0))=Le i):CP (Zi f77 0) (Tg.st ⟨tm 40 [(4,.pt 8004 0 0),(5,.d (.sl 0 [])),(6,nI 0),(7,.pt 17014 0 0),(8,.ow 24008),(15,Z2 roots),(16,nI roots.length),(17,nI 0)],(24008,.arr 35 1 [])::(8004,.box 127 zW)::Nu w,5⟩) .ret (Tg.st ⟨tm 40 [(4,.pt 8004 0 0),(5,.d (.sl 0 [])),(6,nI (E8 w roots i))],[(8004,.box 127 zW)],60⟩):=by
 obtain⟨d,a,e⟩:=Lm.1 f;have a:=Li.1 a;have b:∀j,j<i->E8 w roots j=0:=λj c=>by simpa using e j c
 exact EJ (S:=λk=>(Dk (rootsN w roots k).1 roots (rootsN w roots k).2 k).st) i kr (λk g=>Z87 _ roots _ k (hN k oq λj c=>b j oq) hl (by rw[N0];omega) oq (b k g)) (ZkQ _ roots _ i (hN i a b) hl (by rw[N0];omega) a (by simpa[E8]using d))
theorem ZlO(ln:Sv w):GP 77 [w.av,Z2 roots] O (.tu [(rootsF w roots).1.av,Z2 (rootsF w roots).2.1,nI (rootsF w roots).2.2]) []:=by
 cases hb:(Lg roots.length).find? (λk=>Lb (E8 w roots k≠0))with
 |none =>
  have e7:rootsF w roots=((rootsN w roots roots.length).1,(rootsN w roots roots.length).2,0):=by unfold rootsF;rw[hb]
  rw[e7];let y0:=rootsN w roots roots.length;exact gF [] func77 []<|Fh 8 [.own]<|Fbr 14 [] (@Z2I w aa)<|Fl 16 wD roots<|Fu (@ZjP w roots aa aa aa)<|Fa (Hd _:Ce (La wD y0.1.j.W))<|Fa (N8 _:Ce (La Z0.dv y0.1.j.P))<|Fa (Hd _:Ce (La wD y0.1.old))<|Fa (Dd _:Ce (La iD y0.1.T))<|Fa (Hd _:Ce (La wD y0.1.Q))<|Fa (Hd _:Ce (La wD y0.2)) Fz
 |some i =>
  have e7:rootsF w roots=(H3,[],E8 w roots i):=by unfold rootsF;rw[hb]
  rw[e7];exact gF [] func77 []<|Fh 8 [.own]<|Fbr 14 [] (@Z2I w aa)<|Fl 16 wD roots<|Fu (@Zcw w roots aa aa i aa)<|Fnl (Fnl (Fnl (Fnl (Fnl (Fnl Fz)))))
end
def ZcD w(a:Sv w)(sc:0<=w.D)(hs:¬ w.D<w.Q.length):BP 131 [.pt 0 0 0] w.ckp (.tu [bL Lc,nI 0]) w.ckp:=by obtain⟨h1,h2,h3,h4,h5⟩:=a;exact borF [0,1,2,3,4,5] [] func131 []<|FlG 28 (!decide (w.D<0)) wD w.Q<|Ftb 30 (Lb (w.D<0)||Lb ((w.Q.length:Int)<=w.D)) Fz
def Zj6{ws:List Int}{a v:Int}(h:4096<=a/\a<4096+ws.length):(BR ws a v).1=ws.set (a-4096).toNat v:=by unfold BR ZX;rw[if_pos (by simp only[List.length_cons,List.length_nil];omega)];exact Z7e oq
def SK(w:Z7):List (Nat×Z3):=[(0,w.ckB 1 8002 3 8004 8005),(1,Bh w.j.W),(8002,G1 w.j.P),(3,Bh w.old),(8004,EZ w.T),(8005,Bh w.Q)]
def OE(w:Z7)(a n:Int)(l:List Int)(k:Nat):Tg:=⟨tm 116 [(0,.pt 0 0 0),(2,bL Lc),(3,nI 0),(5,.os 1 (a-4096).toNat n.toNat),(9,ZC l),(72,ZC l),(73,nI l.length),(74,nI k)],SK w,12⟩
section
variable(w:Z7)(a n:Int)(l:List Int)(k:Nat)(hk:k<l.length)(b:l.length<=255)(hx:0<=l.getD k M/\l.getD k M+1<n)(hn:n<=256)(ha:4096<=a/\a-4096+n<=w.j.W.length)(f:FwOk w (Z1 w.j.W (a+1+l.getD k M)).1)
include hk b hx hn ha f
theorem Zg8(e:(w.fwd (Z1 w.j.W (a+1+l.getD k M)).1).2.2=0)(c:(w.fwd (Z1 w.j.W (a+1+l.getD k M)).1).1.j.W.length=w.j.W.length):CP (Zm f131 0) (OE w a n l k).st .nrm (OE (w.in1 (a+1+l.getD k M)) a n l (k+1)).st:=by
 have d:(Z1 w.j.W (a+1+l.getD k M)).1=w.j.W.getD ((a-4096).toNat+(1+l.getD k M).toNat) M:=by(unfold Z1;rw[if_pos oq,show(a-4096).toNat+(1+l.getD k M).toNat=(a+1+l.getD k M-4096).toNat by omega];rfl)
 have wl:=f.ck.ok.wl;have g:(w.in1 (a+1+l.getD k M))=⟨⟨(w.fwd (Z1 w.j.W (a+1+l.getD k M)).1).1.j.C,(w.fwd (Z1 w.j.W (a+1+l.getD k M)).1).1.j.W.set ((a-4096).toNat+(1+l.getD k M).toNat) (w.fwd (Z1 w.j.W (a+1+l.getD k M)).1).2.1,(w.fwd (Z1 w.j.W (a+1+l.getD k M)).1).1.j.P,(w.fwd (Z1 w.j.W (a+1+l.getD k M)).1).1.j.S,(w.fwd (Z1 w.j.W (a+1+l.getD k M)).1).1.j.B⟩,(w.fwd (Z1 w.j.W (a+1+l.getD k M)).1).1.old,(w.fwd (Z1 w.j.W (a+1+l.getD k M)).1).1.T,(w.fwd (Z1 w.j.W (a+1+l.getD k M)).1).1.Q,(w.fwd (Z1 w.j.W (a+1+l.getD k M)).1).1.D,(w.fwd (Z1 w.j.W (a+1+l.getD k M)).1).1.rep⟩:=by(unfold Z7.in1;rw[Zj6 oq,show(a-4096).toNat+(1+l.getD k M).toNat=(a+1+l.getD k M-4096).toNat by omega])
 rw[g];rw[d]at e c f⊢;exact sF [(113085,8002),(114085,8004),(115085,8005)] []<|Fh 84 [.el (wD (w.j.W.getD ((a-4096).toNat+(1+l.getD k M).toNat) M))]<|Fh 10095 [.els (La wD ((w.fwd (w.j.W.getD ((a-4096).toNat+(1+l.getD k M).toNat) M)).1.j.W.set ((a-4096).toNat+(1+l.getD k M).toNat) (w.fwd (w.j.W.getD ((a-4096).toNat+(1+l.getD k M).toNat) M)).2.1))]<|Ftb 75 (Lb ((k:Int)<(l.length:Int)))<|Fek 76 iD l (↑k) k<|Fi 82 (1+l.getD k M)<|Fo ((0:Int)<=1+l.getD k M/\(1+l.getD k M).toNat<n.toNat)<|Fa (B3 oq:(La wD w.j.W)[(a-4096).toNat+(1+l.getD k M).toNat]?=Le (wD (w.j.W.getD ((a-4096).toNat+(1+l.getD k M).toNat) M)))<|Fbr 85 [0,1,8002,3,8004,8005] (@Zav w (w.j.W.getD ((a-4096).toNat+(1+l.getD k M).toNat) M) aa aa)<|Fi 93 (1+l.getD k M)<|Fo ((0:Int)<=1+l.getD k M/\(1+l.getD k M).toNat<n.toNat)<|Fa (by(simp only[Lp];omega):(a-4096).toNat+(1+l.getD k M).toNat<(La wD (w.fwd (w.j.W.getD ((a-4096).toNat+(1+l.getD k M).toNat) M)).1.j.W).length)<|Fa (ms:(La wD (w.fwd (w.j.W.getD ((a-4096).toNat+(1+l.getD k M).toNat) M)).1.j.W).set ((a-4096).toNat+(1+l.getD k M).toNat) [ZZ (w.fwd (w.j.W.getD ((a-4096).toNat+(1+l.getD k M).toNat) M)).2.1]=La wD ((w.fwd (w.j.W.getD ((a-4096).toNat+(1+l.getD k M).toNat) M)).1.j.W.set ((a-4096).toNat+(1+l.getD k M).toNat) (w.fwd (w.j.W.getD ((a-4096).toNat+(1+l.getD k M).toNat) M)).2.1))<|Fx 96 k Fz
end
def Zds w a n l:CP (Zm f131 0) (OE w a n l l.length).st (.ext 0) (Tg.st ⟨tm 116 [(0,.pt 0 0 0),(9,ZC l)],SK w,12⟩):=by exact sF [] []<|Ffb 75 (Lb ((l.length:Int)<(l.length:Int))) Fz
structure Z2w (w:Z7) (a:Int) (l:List Int):Prop where
 f:∀k,k<l.length->(∀j,j<k->CL w a l j=0)->FwOk (Bg w a l k) (Z1 (Bg w a l k).j.W (a+1+l.getD k M)).1
 h:∀k,k<=l.length->(∀j,j<k->CL w a l j=0)->(Bg w a l k).j.W.length=w.j.W.length
 m:∀k,k<l.length->(∀j,j<k->CL w a l j=0)->((Bg w a l k).fwd (Z1 (Bg w a l k).j.W (a+1+l.getD k M)).1).2.2=0->((Bg w a l k).fwd (Z1 (Bg w a l k).j.W (a+1+l.getD k M)).1).1.j.W.length=w.j.W.length
section
variable(w:Z7)(a n:Int)(l:List Int)(hN:Z2w w a l)(b:l.length<=255)(hr:∀x∈l,0<=x/\x+1<n)(d:n<=256)(c:4096<=a/\a-4096+n<=w.j.W.length)
include hN b hr d c
theorem Zle(m:(Lg l.length).find? (λk=>Lb (CL w a l k≠0))=Lf):CP (Zi f131 0) (Tg.st ⟨tm 116 [(0,.pt 0 0 0),(2,bL Lc),(3,nI 0),(5,.os 1 (a-4096).toNat n.toNat),(9,ZC l),(72,ZC l),(73,nI l.length),(74,nI 0)],SK w,12⟩) .nrm (Tg.st ⟨tm 116 [(0,.pt 0 0 0),(9,ZC l)],SK (Bg w a l l.length),12⟩):=by
 have g:∀j,j<l.length->CL w a l j=0:=λj i=>by(have:=Ll.1 m j (Li.2 i);simpa using this)
 have o:∀k,k<l.length->0<=l.getD k M/\l.getD k M+1<n:=λk e=>hr _ (ZT.2 ⟨k,e,rfl⟩);exact Bp (S:=λk=>(OE (Bg w a l k) a n l k).st) l.length kr (λk e=>by
  have f:∀j,j<k->CL w a l j=0:=λj i=>g j oq;have h:=hN.h k oq f;exact Zg8 _ a n l k e b (o k e) d (by rw[h];exact c) (hN.f k e f) (g k e) ((hN.m k e f (g k e)).trans h.symm)) (Zds _ a n l)
end
def Zhi w(k:IK w)(hs:w.D<w.Q.length)(sc:0<=w.D)(hr:4096<=w.Q.getD w.D.toNat M/\w.Q.getD w.D.toNat M+Zl w.j.W (w.Q.getD w.D.toNat M)<4096+w.j.W.length)(hd:(Z8 (Z1 w.j.W (w.Q.getD w.D.toNat M)).1).2=O)(hN:Z2w w (C4 w) (Bj w))(a:∀j,j<(Bj w).length->CL w (C4 w) (Bj w) j=0):BP 131 [.pt 0 0 0] w.ckp (.tu [bL O,nI 0]) (HC (Bg w (C4 w) (Bj w) (Bj w).length) (Bj w).length).ckq:=by
 have c:(Lg (Bj w).length).find? (λk=>Lb (CL w (C4 w) (Bj w) k≠0))=Lf:=Ll.2 λj d=>by simp[a j (Li.1 d)]
 have f:=k.mem;obtain⟨h1,h2,h3,h4,h5⟩:=k.ln;have ok:=k.ok;have k1:=NC ok (C4 w) (Bj w) (Bj w).length a;have h:=k1.1.rs;have i:=k1.1.sc;have l:=k1.1.mu;have n:=(Al (ZB w (C4 w)));have m:∀x∈Bj w,0<=x/\x+1<Zl w.j.W (C4 w)+1:=λx g=>by(have:=NZ (ZB w (C4 w)) x g;unfold ZB at this;unfold Zl;omega)
 have lr:=Bq w.j.W (w.Q.getD w.D.toNat M);have cf:=BI.1 ok.C;have ld:=EP ok.W (w.Q.getD w.D.toNat M);have b:=GX w (w.Q.getD w.D.toNat M);have o:=RZ w (w.Q.getD w.D.toNat M);have e:=Nk (Z1 w.j.W (w.Q.getD w.D.toNat M)).1 ld.1;have el:(Z1 w.j.W (w.Q.getD w.D.toNat M)).1=w.j.W.getD ((w.Q.getD w.D.toNat M-4096).toNat+Ld 0) M:=by(unfold Z1;rw[if_pos oq];rfl)
 unfold Bj C4 ZB at *;rw[el]at hd ld b o e hN a c k1 h i l n⊢;try rw[el]at m
 rw[show HC (Bg w (w.Q.getD w.D.toNat M) (Zk (Z8 (w.j.W.getD ((w.Q.getD w.D.toNat M-(4096:Int)).toNat+Ld (0:Int)) M)).1) (Zk (Z8 (w.j.W.getD ((w.Q.getD w.D.toNat M-(4096:Int)).toNat+Ld (0:Int)) M)).1).length) (↑(Zk (Z8 (w.j.W.getD ((w.Q.getD w.D.toNat M-(4096:Int)).toNat+Ld (0:Int)) M)).1).length:Int)=Z7.mk (Bg w (w.Q.getD w.D.toNat M) (Zk (Z8 (w.j.W.getD ((w.Q.getD w.D.toNat M-(4096:Int)).toNat+Ld (0:Int)) M)).1) (Zk (Z8 (w.j.W.getD ((w.Q.getD w.D.toNat M-(4096:Int)).toNat+Ld (0:Int)) M)).1).length).j (Bg w (w.Q.getD w.D.toNat M) (Zk (Z8 (w.j.W.getD ((w.Q.getD w.D.toNat M-(4096:Int)).toNat+Ld (0:Int)) M)).1) (Zk (Z8 (w.j.W.getD ((w.Q.getD w.D.toNat M-(4096:Int)).toNat+Ld (0:Int)) M)).1).length).old (Bg w (w.Q.getD w.D.toNat M) (Zk (Z8 (w.j.W.getD ((w.Q.getD w.D.toNat M-(4096:Int)).toNat+Ld (0:Int)) M)).1) (Zk (Z8 (w.j.W.getD ((w.Q.getD w.D.toNat M-(4096:Int)).toNat+Ld (0:Int)) M)).1).length).T (Bg w (w.Q.getD w.D.toNat M) (Zk (Z8 (w.j.W.getD ((w.Q.getD w.D.toNat M-(4096:Int)).toNat+Ld (0:Int)) M)).1) (Zk (Z8 (w.j.W.getD ((w.Q.getD w.D.toNat M-(4096:Int)).toNat+Ld (0:Int)) M)).1).length).Q ((Bg w (w.Q.getD w.D.toNat M) (Zk (Z8 (w.j.W.getD ((w.Q.getD w.D.toNat M-(4096:Int)).toNat+Ld (0:Int)) M)).1) (Zk (Z8 (w.j.W.getD ((w.Q.getD w.D.toNat M-(4096:Int)).toNat+Ld (0:Int)) M)).1).length).D+(1:Int)) (Rep.mk (Bg w (w.Q.getD w.D.toNat M) (Zk (Z8 (w.j.W.getD ((w.Q.getD w.D.toNat M-(4096:Int)).toNat+Ld (0:Int)) M)).1) (Zk (Z8 (w.j.W.getD ((w.Q.getD w.D.toNat M-(4096:Int)).toNat+Ld (0:Int)) M)).1).length).rep.copied (Bg w (w.Q.getD w.D.toNat M) (Zk (Z8 (w.j.W.getD ((w.Q.getD w.D.toNat M-(4096:Int)).toNat+Ld (0:Int)) M)).1) (Zk (Z8 (w.j.W.getD ((w.Q.getD w.D.toNat M-(4096:Int)).toNat+Ld (0:Int)) M)).1).length).rep.kept (Bg w (w.Q.getD w.D.toNat M) (Zk (Z8 (w.j.W.getD ((w.Q.getD w.D.toNat M-(4096:Int)).toNat+Ld (0:Int)) M)).1) (Zk (Z8 (w.j.W.getD ((w.Q.getD w.D.toNat M-(4096:Int)).toNat+Ld (0:Int)) M)).1).length).rep.filled (Bg w (w.Q.getD w.D.toNat M) (Zk (Z8 (w.j.W.getD ((w.Q.getD w.D.toNat M-(4096:Int)).toNat+Ld (0:Int)) M)).1) (Zk (Z8 (w.j.W.getD ((w.Q.getD w.D.toNat M-(4096:Int)).toNat+Ld (0:Int)) M)).1).length).rep.freed (Bg w (w.Q.getD w.D.toNat M) (Zk (Z8 (w.j.W.getD ((w.Q.getD w.D.toNat M-(4096:Int)).toNat+Ld (0:Int)) M)).1) (Zk (Z8 (w.j.W.getD ((w.Q.getD w.D.toNat M-(4096:Int)).toNat+Ld (0:Int)) M)).1).length).rep.cleared ((Bg w (w.Q.getD w.D.toNat M) (Zk (Z8 (w.j.W.getD ((w.Q.getD w.D.toNat M-(4096:Int)).toNat+Ld (0:Int)) M)).1) (Zk (Z8 (w.j.W.getD ((w.Q.getD w.D.toNat M-(4096:Int)).toNat+Ld (0:Int)) M)).1).length).rep.steps+((1:Int)+(↑(Zk (Z8 (w.j.W.getD ((w.Q.getD w.D.toNat M-(4096:Int)).toNat+Ld (0:Int)) M)).1).length:Int))))from by(simp[HC, *];omega)];exact borF [0,1,8002,3,8004,8005] [8002,8004,8005] func131 []<|Fh 52 [.el (wD (w.j.W.getD ((w.Q.getD w.D.toNat M-4096).toNat+Ld 0) M))]<|FlG 28 (!decide (w.D<0)) wD w.Q<|Ffb 30 (Lb (w.D<0)||Lb ((w.Q.length:Int)<=w.D))<|Fmq 40 wD w.Q w.D<|Fbq 44 [0,1,8002,3,8004,8005] (@HE w (w.Q.getD w.D.toNat M) (1) aa oq)<|Fo ((0:Int)<=0/\Ld 0<Ld 1)<|Fa (B3 oq:(La wD w.j.W)[(w.Q.getD w.D.toNat M-4096).toNat+Ld 0]?=Le (wD (w.j.W.getD ((w.Q.getD w.D.toNat M-4096).toNat+Ld 0) M)))<|Fc 53 (@Hm (w.j.W.getD ((w.Q.getD w.D.toNat M-4096).toNat+Ld 0) M) oq oq)<|Fc 60 (@EX ((Z8 (w.j.W.getD ((w.Q.getD w.D.toNat M-4096).toNat+Ld 0) M)).1) aa)<|Fbq 61 [0,1,8002,3,8004,8005] (@HE w (w.Q.getD w.D.toNat M) (Z5 (Z8 (w.j.W.getD ((w.Q.getD w.D.toNat M-4096).toNat+Ld 0) M)).1) aa oq)<|Ffs 69 (!(Z8 (w.j.W.getD ((w.Q.getD w.D.toNat M-4096).toNat+Ld 0) M)).2||Lc)<|Fc 71 (@TQ ((Z8 (w.j.W.getD ((w.Q.getD w.D.toNat M-4096).toNat+Ld 0) M)).1) aa)<|Fl 73 iD (Zk (Z8 (w.j.W.getD ((w.Q.getD w.D.toNat M-(4096:Int)).toNat+Ld (0:Int)) M)).1)<|Fu (@Zle w (w.Q.getD w.D.toNat M) (Z5 (Z8 (w.j.W.getD ((w.Q.getD w.D.toNat M-4096).toNat+Ld 0) M)).1) (Zk (Z8 (w.j.W.getD ((w.Q.getD w.D.toNat M-4096).toNat+Ld 0) M)).1) aa oq (by grind[HC]) oq oq aa)<|Fi 101 ((Bg w (w.Q.getD w.D.toNat M) (Zk (Z8 (w.j.W.getD ((w.Q.getD w.D.toNat M-4096).toNat+Ld 0) M)).1) (Zk (Z8 (w.j.W.getD ((w.Q.getD w.D.toNat M-4096).toNat+Ld 0) M)).1).length).D+1)<|Fl 110 iD (Zk (Z8 (w.j.W.getD ((w.Q.getD w.D.toNat M-(4096:Int)).toNat+Ld (0:Int)) M)).1)<|Fi 111 (1+(↑(Zk (Z8 (w.j.W.getD ((w.Q.getD w.D.toNat M-4096).toNat+Ld 0) M)).1).length:Int))<|Fi 112 ((Bg w (w.Q.getD w.D.toNat M) (Zk (Z8 (w.j.W.getD ((w.Q.getD w.D.toNat M-4096).toNat+Ld 0) M)).1) (Zk (Z8 (w.j.W.getD ((w.Q.getD w.D.toNat M-4096).toNat+Ld 0) M)).1).length).rep.steps+(1+(↑(Zk (Z8 (w.j.W.getD ((w.Q.getD w.D.toNat M-4096).toNat+Ld 0) M)).1).length:Int))) Fz
structure Ix (w:Z7):Prop where
 k:IK w
 sc:0<=w.D
 hr:w.D<w.Q.length->4096<=w.Q.getD w.D.toNat M/\w.Q.getD w.D.toNat M+Zl w.j.W (w.Q.getD w.D.toNat M)<4096+w.j.W.length
 hd:w.D<w.Q.length->(Z8 (Z1 w.j.W (w.Q.getD w.D.toNat M)).1).2=O
 hN:w.D<w.Q.length->Z2w w (C4 w) (Bj w)
def KI.sd{h T}:∀w n,(∃a,KI h T a w)->∃a,KI h T a (HC w n):=
 λw n ⟨a,k⟩=>⟨a,k.c,k.sp,k.old,k.pl,k.wl,k.pg,k.tk,k.tk0,k.q,k.hd,k.dt,k.lg⟩
section
variable{h:Heap}{T:Nat->List Int}{w:Z7}(c:Ga h T w)(g:Gd h T)
include c g
theorem Ga.dec{q:Int}(b:q∈w.Q):(Z8 (Z1 w.j.W q).1).2=O:=by obtain⟨tq,k⟩:=c.k;rcases k.q q b with⟨i,nt,a,hk,d⟩|⟨i,f,a⟩;rcases k.hd i q a with e|e;rw[e];exact(g.on a).2.2.2.2.2.1;exact absurd e.2.2 d;exact(H9 (k.tk i f).2.2.2.2.2.1 a).1
theorem Ga.in1{q j:Int}(d:q∈w.Q)(a:0<=j)(b:j<Zl w.j.W q)(e:(w.fwd (Z1 w.j.W (q+1+j)).1).2.2=0):Ga h T (w.in1 (q+1+j)):=by obtain⟨tq,k⟩:=c.k;exact⟨k.in1 g c.ok c.inv d ⟨a,b⟩ e,(Z4o c.ok _ e).1,(Z53 c.ok c.inv d ⟨a,b⟩ e).1,c.so.fwd c.ok _ e⟩
theorem Ga.inn{q:Int}(a:q∈w.Q){l:List Int}(hl:∀x∈l,0<=x/\x<Zl w.j.W q)(k:Nat)(d:k<=l.length)(b:∀j,j<k->CL w q l j=0):Ga h T (Bg w q l k):=
 ⟨PF (λw=>∃o,KI h T o w) (λw q j f n ⟨_,k⟩ a i m e=>k.in1 g f n a ⟨i,m⟩ e) c.ok c.inv c.k a hl k d b,(NC c.ok q l k b).1,(Td c.ok c.inv a hl k d b).1,PF (λw=>Hb w.j.P) (λw q j f n p a i m e=>p.fwd f _ e) c.ok c.inv c.so a hl k d b⟩
theorem Ga.step(e:(B1 w).2.2=0):Ga h T (B1 w).1:=
 ⟨Z0O (λw=>∃l,KI h T l w) (λw q j a f ⟨_,k⟩ i b d e=>k.in1 g a f i ⟨b,d⟩ e) KI.sd c.ok c.inv c.k e,(PN c.ok e).1,(Z1r c.ok c.inv e).1,Z0O (λw=>Hb w.j.P) (λw q j a f p i b d e=>p.fwd a _ e) (λ_ _ p=>p) c.ok c.inv c.so e⟩
theorem Ga.stp:Ix w:=by have sc:=c.ok.sc;have i:w.D<w.Q.length->C4 w∈w.Q:=λb=>ZT.2 ⟨w.D.toNat,by omega,rfl⟩;refine⟨c.ck,sc.1,λb=>c.inv.r _ (List.mem_append_right _ (i b)),λb=>c.dec g (i b),λb=>?_⟩;obtain⟨tq,m⟩:=c.k;have n:=NZ (ZB w (C4 w));have f:=λk d a=>c.inn g (i b) (l:=Bj w) n k d a;refine⟨λk d a=>(f k oq a).fw g (EP (f k oq a).ok.W _),λk d a=>?_,λk d a e=>?_⟩;obtain⟨_,j⟩:=(f k d a).k;exact j.wl.trans m.wl.symm;obtain⟨_,j⟩:=((f k oq a).fwd g e).k;exact j.wl.trans m.wl.symm
theorem Ga.roots{roots}(k:Nat)(a:∀j,j<k->E8 w roots j=0):Ga h T (rootsN w roots k).1:=by
 induction k with|zero=>exact c|succ k b=>exact(b λj hj=>a j oq).fwd g (a k oq)
theorem Ga.rts{roots}(hr:Zx roots):Z1W w roots:=λk hk a=>(c.roots g k a).fw g (Z3L hr k)
theorem Ga.rootsF{roots}(e:(rootsF w roots).2.2=0):Ga h T (rootsF w roots).1:=by
 cases hb:(Lg roots.length).find? (λk=>Lb (E8 w roots k≠0))with
 |none =>
  have b:∀j,j<roots.length->E8 w roots j=0:=λj d=>by(have:=Ll.1 hb j (Li.2 d);simpa using this)
  have a:Go.Proofs.YtgedmeaemofdkaaGreat.rootsF w roots=((rootsN w roots roots.length).1,(rootsN w roots roots.length).2,0):=by unfold Go.Proofs.YtgedmeaemofdkaaGreat.rootsF;rw[hb]
  rw[a];exact c.roots g _ b
 |some i =>
  have a:Go.Proofs.YtgedmeaemofdkaaGreat.rootsF w roots=(H3,[],E8 w roots i):=by unfold Go.Proofs.YtgedmeaemofdkaaGreat.rootsF;rw[hb]
  rw[a]at e;have:=of_decide_eq_true (Lm.1 hb).1;exact absurd e this
end
def Af(w:Z7):List (Nat×Z3):=[(22009,Bh w.Q),(21009,EZ w.T),(20009,Bh w.old),(19009,G1 w.j.P),(18009,Bh w.j.W)]
def Oc(w:Z7):Tg:=⟨tm 26 [(2,.pt 8002 0 0),(3,nI 0),(4,.pt 17009 0 0),(5,.fm 131 (.pt 17009 0 0))],(8002,.box 127 zW)::(17009,w.ckB 18009 19009 20009 21009 22009)::Af w,4⟩
def Z4t{w}(m:(B1 w).2.1=O):w.D<w.Q.length/\(∀j,j<(Bj w).length->CL w (C4 w) (Bj w) j=0)/\(B1 w).1=HC (Bg w (C4 w) (Bj w) (Bj w).length) (Bj w).length:=by
 unfold B1 at m⊢;split at m;rename_i a;rw[if_pos a];cases hb:(Lg (Bj w).length).find? (λk=>Lb (CL w (C4 w) (Bj w) k≠0))with|none =>refine⟨a,λj b=>?_,rfl⟩;have:=Ll.1 hb j (Li.2 b);simpa using this|some i=>rw[hb]at m;cases m
 cases m
def step_end{w}(e:(B1 w).2.2=0)(m:(B1 w).2.1=Lc):¬ w.D<w.Q.length/\(B1 w).1=w:=by
 unfold B1 at e m⊢;split at m;rename_i a;rw[if_pos a]at e;cases hb:(Lg (Bj w).length).find? (λk=>Lb (CL w (C4 w) (Bj w) k≠0))with|none=>rw[hb]at m;cases m|some i =>rw[hb]at e;exact absurd e (of_decide_eq_true (Lm.1 hb).1)
 rename_i a;rw[if_neg a];exact⟨a,rfl⟩
def Zes w(k:Ix w)(m:(B1 w).2.1=O):CP (Zm f78 0) (Oc w).st .nrm (Oc (B1 w).1).st:=by obtain⟨a,h0,e⟩:=Z4t m;rw[e];obtain⟨kk,sc,hr,hd,hN⟩:=k;have hr:=hr a;have hd:=hd a;have hN:=hN a;exact sF [(33014,19009),(34014,21009),(35014,22009)] []<|Fbr 14 [17009,18009,19009,20009,21009,22009] (@Zhi w aa aa aa aa aa aa aa) Fz
def Zkg w(k:Ix w)(hs:¬ w.D<w.Q.length):CP (Zm f78 0) (Oc w).st .ret (Tg.st ⟨tm 26 [(2,.pt 8002 0 0),(3,nI 0)],(8002,.box 127 (w.ckc 18009 19009 20009 21009 22009))::Af w,60⟩):=by have ln:=k.k.ln;have sc:=k.sc;exact sF [] []<|Fbq 14 [17009,18009,19009,20009,21009,22009] (@ZcD w aa aa aa) Fz
def Z1p(w:Z7):Prop:=∀k,(∀j,j<k->Ep w j=Lc)->Ix (Cc w k)/\(B1 (Cc w k)).2.2=0
def Z8E{w}{j:Nat}(h:Ep w j=Lc):(B1 (Cc w j)).2.1=O:=by simp only[Ep,decide_eq_false_iff_not,not_or,L4]at h;simpa using h.2
def Zmj w(R:Z1p w) k(d:(Lg (RD w)).find? (Ep w)=Le k):CP (Zi f78 0) (Tg.st ⟨tm 26 [(2,.pt 8002 0 0),(3,nI 0),(4,.pt 17009 0 0),(5,.fm 131 (.pt 17009 0 0))],(8002,.box 127 zW)::(17009,w.ckB 18009 19009 20009 21009 22009)::Af w,4⟩) .ret (Tg.st ⟨tm 26 [(2,.pt 8002 0 0),(3,nI 0)],(8002,.box 127 ((Bz w).1.ckc 18009 19009 20009 21009 22009))::Af (Bz w).1,60⟩):=by
 obtain⟨c,h2,l⟩:=Lm.1 d;have a:∀j,j<k->Ep w j=Lc:=λj b=>by simpa using l j b
 obtain⟨f,e⟩:=R k a;have m:(B1 (Cc w k)).2.1=Lc:=by(simp only[Ep,decide_eq_true_eq,e]at c;simpa using c)
 obtain⟨n,g⟩:=step_end e m;have h:Bz w=(Cc w k,0):=by rw[Bz,d];simp only[if_pos e];rw[g]
 rw[h];exact EJ (S:=λk=>(Oc (Cc w k)).st) k kr (λj b=>Zes _ (R j λi hi=>a i oq).1 (Z8E (a j b))) (Zkg _ f n)
def Zg5(w:Z7)(hw:Bb w)(R:Z1p w):GP 78 [w.av] O (.tu [(Bz w).1.av,nI 0]) []:=by
 obtain⟨k,hb⟩:=SC hw;have ln:=(R 0 λj hj=>absurd hj (Nat.not_lt_zero j)).1.k.ln;have ln:Sv w:=ln;exact gF [] func78 []<|Fbr 9 [] (@Z2I w aa)<|Fu (@Zmj w aa k hb)<|Fa (Hd _:Ce (La wD (Bz w).1.j.W))<|Fa (N8 _:Ce (La Z0.dv (Bz w).1.j.P))<|Fa (Hd _:Ce (La wD (Bz w).1.old))<|Fa (Dd _:Ce (La iD (Bz w).1.T))<|Fa (Hd _:Ce (La wD (Bz w).1.Q)) Fz
end Go.Proofs.YtgedmeaemofdkaaGreat
