/-
 The statement CollectStays: part 16.
 Conditions: none.
-/
import Derived.Defers
import Derived.WalkKit
import Derived.Test.YtgedmeaemofdkaaGreatT15
set_option maxRecDepth 100000
set_option maxHeartbeats 2000000
set_option linter.all false
open Inhabited renaming default->M
open Bool renaming true->O,false->Lc,not_eq_true'->Lx,and_eq_true->LG,or_false->LH
open List renaming map->La,range->Lg,replicate->Lh,mem_range->Li,drop->Lj,take->Lk,find?_eq_none->Ll,find?_range_eq_some->Lm,getD_eq_getElem?_getD->Lo,length_map->Lp,length_take->Lr,getElem?_eq_getElem->Ls,length_replicate->Lt,map_append->Lu,getElem?_drop->Ly,getElem?_take->Lz,length_drop->LA,map_drop->LB,map_take->LC,find?_cons->LQ,getElem?_append->LR,getElem?_append_left->LS,getElem?_append_right->LU,map_replicate->LV,mem_map->LW,mem_of_find?_eq_some->LY,mem_of_getElem?->LZ,mem_replicate->L0,nodup_nil->L1
open Decidable renaming decide->Lb,not_not->L4
open Int renaming toNat->Ld,add_mul->LI,mul_comm->LL,mul_le_mul_of_nonneg_right->LM,one_mul->LN,tdiv_eq_ediv_of_nonneg->LO
open Option renaming some->Le,none->Lf,getD_some->LD,isSome_iff_exists->L2,map_some->L3
open Classical renaming not_not->Ln
open Go.IntKind renaming i64->Lq
open Nat renaming le_refl->Lv
open Array renaming replicate->Lw,getElem?_append->LF
open Go.Proofs.Tryz
namespace Go.Sx
def CSpec.seq{P c d s t u e}(h:CSpec P c s .nrm t)(k:CSpec P d t e u):CSpec P (.seq c d) s e u:=by intro f b g a w S;refine wp_seq (wp_mono (h f b g a w S) ?_);rintro e' j l ⟨rfl,i⟩;exact k f b g j l i
def ZfA{P:Program}{f:Nat}{fn c}{args l:List AV}{fr}{res x:AV}{ns:List Z4}{p qq:List Prop}{st}{kp:List Nat}(b:kp.Nodup)(s:P.funcs[f]?=Le fn)(r:fn.body=Le c)(h:CSpec P c ⟨args++Lh (fn.ntmps-args.length) .any,λ_=>Lf,1⟩ .ret st)(hl:Rm P st.tmps st.H fn.results.toList=Le l)(t:Mp kp st.H fr (RS l)=Le (x,p))(g:B3 p)(d:B3 (HQ x res).2)(n:(HQ x res).1=res)(k:Ar kp st.H fr=Le (ns,qq))(i:B3 qq):GSpec P f args fr res ns:=by intro w Im vs j m a;refine calls_of_wp s r (wp_mono (h _ _ _ _ _ (Z3q j m a)) ?_);rintro e a' w' ⟨rfl,S⟩;obtain⟨v,o,q⟩:=Z3z b S hl t g d n k i;obtain⟨_,_,_,T⟩:=S;exact⟨T.defers,v,o,v,rfl,q⟩
def Sys.defer{Ow Im0 w0 w tmps H clk a}(S:Sys Ow Im0 w0 tmps H clk a w)(D:List Deferred):Sys ⟨Ow.p,D⟩ Im0 w0 tmps H clk {a with defers:=D} w:=by obtain⟨ρ,b,I,T⟩:=S;exact⟨ρ,b,⟨I.kept,I.inj,I.notIm,I.bnd,I.own,I.imb,I.im0,I.blk,I.fresh,I.one⟩,⟨T.size,T.tmp,rfl⟩⟩
def MD{P}{i:Nat}{l}{ops:Array Oper}{Q o a w}(c:ops[i]?=Le o)(b:o.guard=Lf)(h:o.wp P a w (wpOps P ops Q l) Q):wpOps P ops Q (i::l) a w:=by rw[wpOps];simp only[c];rw[if_pos (by simp[Region.wanted,b])];exact .inl h
def ZiP:Code->Code|.seq _ y=>y|c=>c
def Zj8:Code->Code|.seq x _=>x|c=>c
def Z41:Nat->Code->Code|0,c=>c|n+1,c=>Z41 n (ZiP c)
def tlF(fn:Func)(n:Nat):Code:=match fn.body with|some c=>Z41 n c|none=>.skip
def Ro(fn:Func)(n:Nat):Code:=Zj8 (tlF fn n)
end Go.Sx
namespace Go.Proofs.YtgedmeaemofdkaaGreat
open Go.Sx Go.RowKit
def Eo(s k:List Int):AV:=.d (.sl 1 [[.sl 1 (s.map wdv)],[.sl 1 (k.map wdv)]])
def ccA(s k:List Int)(n:Int)(i:Nat):Tg:=⟨tm 36 [(0,Eo s k),(2,.d (.sl 0 [])),(3,int n),(9,Eo s k),(10,int 2),(11,int i)],[],4⟩
section
variable (s k:List Int) (hs:s.length<=1048575) (hk:k.length<=1048575)
include hs hk
theorem Ze7:CP (Zm f75 0) (ccA s k 0 0).st .nrm (ccA s k s.length 1).st:=by exact sF [] (fO 2) (Fh 13 [.el [DV.sl 1 (La wdv s)]] (Fa (by simp[*]:0<=(↑(0:Nat):Int)/\[[DV.sl 1 (La wdv s)],[DV.sl 1 (La wdv k)]][(↑(0:Nat):Int).toNat]?=Le [DV.sl 1 (La wdv s)]) (Fl 17 wdv s (Fi 18 (0+(s.length:Int)) (Fo (0+(s.length:Int)=(s.length:Int)) Fz)))))
theorem Zhg:CP (Zm f75 0) (ccA s k s.length 1).st .nrm (ccA s k (s.length+k.length) 2).st:=by exact sF [] [] (Fh 13 [.el [DV.sl 1 (La wdv k)]] (Fa (by simp[*]:0<=(↑(1:Nat):Int)/\[[DV.sl 1 (La wdv s)],[DV.sl 1 (La wdv k)]][(↑(1:Nat):Int).toNat]?=Le [DV.sl 1 (La wdv k)]) (Fl 17 wdv k (Fi 18 ((s.length:Int)+(k.length:Int)) Fz))))
theorem Zfg:CP (Zm f75 0) (ccA s k (s.length+k.length) 2).st (.ext 0) (Tg.st ⟨tm 36 [(0,Eo s k),(2,.d (.sl 0 [])),(3,int (s.length+k.length))],[],4⟩):=by exact sF [] [] Fz
def Zhi  := Br (S:=λi=>(ccA s k (if i=0 then 0 else if i=1 then s.length else s.length+k.length) i).st) 2 (by kernel_rfl) (λi hi=>by
  have:i=0\/i=1:=by omega
  rcases this with rfl|rfl
  .exact Ze7 s k hs hk
  .exact Zhg s k hs hk) (Zfg s k hs hk)
theorem Zbj:CP (Ro f75 0) (Tg.st ⟨tm 36 [(0,Eo s k)],[],1⟩) .nrm (Tg.st ⟨tm 36 [(0,Eo s k),(2,.d (.sl 0 []))],[],2⟩):=by exact sF [] [] Fz
theorem Zg3:CP (Ro f75 1) (Tg.st ⟨tm 36 [(0,Eo s k),(2,.d (.sl 0 []))],[],2⟩) .nrm (Tg.st ⟨tm 36 [(0,Eo s k),(2,.d (.sl 0 [])),(3,int 0)],[],3⟩):=by exact sF [] [] Fz
theorem Zj7:CP (Ro f75 2) (Tg.st ⟨tm 36 [(0,Eo s k),(2,.d (.sl 0 [])),(3,int 0)],[],3⟩) .nrm (Tg.st ⟨tm 36 [(0,Eo s k),(3,int (s.length+k.length))],[],5⟩):=by exact sF [] [] (Fh 10 [.int (↑(0+1+1):Int)] (Fr (↑[[DV.sl (1:Nat) (La wdv s)],[DV.sl (1:Nat) (La wdv k)]].length:Int) (Fu (@Zhi s k aa aa) Fz)))
def ccD(s k:List Int)(l:List Int)(i:Nat):Tg:=⟨tm 36 [(6,.ow 41024),(25,Eo s k),(26,int 2),(27,int i)],[(41024,.arr 35 1 (l.map wdv))],7⟩
theorem Zca:CP (Zm f75 2) (ccD s k [] 0).st .nrm (ccD s k s 1).st:=by
 exact sF [(72033,41024)] [] (Fh 29 [.el [DV.sl 1 (La wdv s)]] (Fa (by simp[*]:0<=(↑(0:Nat):Int)/\[[DV.sl 1 (La wdv s)],[DV.sl 1 (La wdv k)]][(↑(0:Nat):Int).toNat]?=Le [DV.sl 1 (La wdv s)]) (Fa (by(simp[*];omega):(La wdv []).length+(La wdv s).length<=2^30) (Fs 33 (La wdv s) Fz))))
theorem ZaF:CP (Zm f75 2) (ccD s k s 1).st .nrm (ccD s k (s++k) 2).st:=by
 exact sF [(72033,41024)] [] (Fh 29 [.el [DV.sl 1 (La wdv k)]] (Fh 33 [.els (La wdv (s++k))] (Fa (by simp[*]:0<=(↑(1:Nat):Int)/\[[DV.sl 1 (La wdv s)],[DV.sl 1 (La wdv k)]][(↑(1:Nat):Int).toNat]?=Le [DV.sl 1 (La wdv k)]) (Fa (by(simp only[Lp];omega):(La wdv s).length+(La wdv k).length<=2^30) (Fa (ms:La wdv s++La wdv k=La wdv (s++k)) Fz)))))
theorem Zie:CP (Zm f75 2) (ccD s k (s++k) 2).st (.ext 2) (Tg.st ⟨tm 36 [(6,.ow 41024)],[(41024,.arr 35 1 ((s++k).map wdv))],7⟩):=by exact sF [] [] Fz
def Zis  := Br (S:=λi=>(ccD s k (if i=0 then []else if i=1 then s else s++k) i).st) 2 (by kernel_rfl) (λi hi=>by
  have:i=0\/i=1:=by omega
  rcases this with rfl|rfl
  .exact Zca s k hs hk
  .exact ZaF s k hs hk) (Zie s k hs hk)
theorem Zki:CP (tlF f75 4) (Tg.st ⟨tm 36 [(0,Eo s k),(6,.ow 41024)],[(41024,.arr 35 1 [])],6⟩) .ret (Tg.st ⟨tm 36 [(2,.ow 41024)],[(41024,.arr 35 1 ((s++k).map wdv))],8⟩):=by exact sF [] [] (Fh 26 [.int (↑(0+1+1):Int)] (Fr (↑[[DV.sl (1:Nat) (La wdv s)],[DV.sl (1:Nat) (La wdv k)]].length:Int) (Fu (@Zis s k aa aa) Fz)))
end
def Zce s k(n:Int)(h:0<=n/\n<=2097152):CP (Ro f75 3) (Tg.st ⟨tm 36 [(0,Eo s k),(3,int n)],[],5⟩) .nrm (Tg.st ⟨tm 36 [(0,Eo s k),(6,.ow 41024)],[(41024,.arr 35 1 [])],6⟩):=by
 rintro Ow m w0 a w ⟨ρ,Im,I,T⟩;rw[show Ro f75 3=.region 9 (BJ f75 9) Lc from by kernel_rfl];refine wp_region ?_;rw[show Lg (BJ f75 9).size=[0,1,2]from by kernel_rfl];have j:=T.put 23 (CZ T (.tmp 3));refine MD (o:=(BJ f75 9).getD 0 M) kr kr (S9 (Z7L (x:=.tmp 3) kr) ?_);show wpOps prog (BJ f75 9) _ [1,2] (a.put (Le 23) (a.eval (.tmp 3))) w;refine MD (o:=(BJ f75 9).getD 1 M) kr kr (Z8u (c:=⟨.value (.func 128),#[.const (.slice Lf 0 0),.tmp 23],#[25,3]⟩) (f:=.func 128) (cs:=#[]) (d:=24) (ImC:=λ_=>False) kr rfl kr kr kr (Zay n h) I j rfl pq (λ_ q=>q.elim) (λq=>by cases q) (λi x v e b=>?_) λρ2 g v w' J T2 r=>?_);match i,e,b with|0,e,b =>cases e;simp at b;rw[<-b];exact .d (.sc _ rfl)|1,e,b =>cases e;simp only[List.map_toArray,List.map_cons,List.map_nil,Array.append_empty,List.getElem?_toArray,List.getElem?_cons_succ,List.getElem?_cons_zero,Option.some.injEq]at b;have r1:(a.put (Le 23) (a.eval (.tmp 3))).eval (.tmp 23)=.int .i64 n:=BZ (CZ j (.tmp 23));rw[<-b,r1];exact .d (.sc _ rfl)
 have l:=T2.put 24 r;have p:=l.put 6 (CZ l (.tmp 24));refine MD (o:=(BJ f75 9).getD 2 M) kr kr (S9 (Z2U (x:=.tmp 24) kr) ?_);refine⟨rfl,Z0h (s:=⟨_,_,6⟩) kr kr (Sys.clk ⟨ρ2,g,J,p⟩ (Nat.le_succ 5))⟩
def Z6q(s k:List Int)(hs:s.length<=1048575)(a:k.length<=1048575):GP 75 [Eo s k] O (Z3 (s++k)) []:=by have c:=(Zbj s k hs a).seq ((Zg3 s k hs a).seq ((Zj7 s k hs a).seq ((Zce s k (s.length+k.length) oq).seq (Zki s k hs a))));rw[show Tg.st ⟨tm 36 [(0,Eo s k)],[],1⟩=⟨[Eo s k]++Lh (Tryz.f75.ntmps - [Eo s k].length) .any,λ_=>Lf,1⟩from by kernel_rfl]at c;exact ZfA (kp:=[]) (l:=[.ow 41024]) (x:=Z3 (s++k)) (qq:=[]) (p:=[Ci ((s++k).map wdv)]) L1 func75 kr c kr kr (Hd _) trivial kr kr trivial
end Go.Proofs.YtgedmeaemofdkaaGreat
namespace Go.Proofs.YtgedmeaemofdkaaGreat
open Go.Sx Go.RowKit
def Ziu(a b c d e:Value) w :CallsD prog 72 #[a,b,c,d,e] .returning w λg i w'=>g=.returned (.tuple #[])/\i=.returning/\w'=w:=by refine callsD_of_wpS func72 rfl λf cs h=>?_;apply wpS_seq;apply wpS_region;simp[wpOpsS,go_sem,recoverD,h,Tryz.ntmps72,Exit.thenS];apply wpS_seq;apply wpS_region;simp[wpOpsS,go_sem,Tryz.ntmps72,Exit.thenS];refine wpS_cond (t:=Lc) (by simp[Act.eval,go_sem,Lw]) ?_;simp only[Bool.false_eq_true,if_false];refine wpS_of_wp (wp_skip ?_);cases f;simp_all[bodyPostS,results,Tryz.results72]
end Go.Proofs.YtgedmeaemofdkaaGreat
namespace Go.Proofs.YtgedmeaemofdkaaGreat
open Go.Sx Go.RowKit
structure Z6s (h:Heap) (s k:List Int) (w0 w1 w2 w3 w4 w5:Z7) (l o:List Int):Prop where
 b:GP 73 [h.av] Lc (.tu [w0.av,int 0]) []
 r:GP 74 [h.av,Z3 (s++k)] O (bool O) []
 t:GP 77 [w0.av,Z3 s] O (.tu [w1.av,Z3 l,int 0]) []
 a:GP 78 [w1.av] O (.tu [w2.av,int 0]) []
 w:BP 79 [.pt 0 0 0,Z3 k] [w2.evD] (.ow 1) [w3.evD,Bc o]
 f:BP 80 [.pt 0 0 0] [w3.evD] (.tu []) [w4.evD]
 g:BP 81 [.pt 0 0 0] [w4.evD] (.tu []) [w5.evD]
 sl:s.length<=1000
 kl:k.length<=1000
 tl:w5.T.length<=1000000
 sp:w5.heap.S=0\/w5.heap.S=1
def ZgP{P:Program}{o:Oper}{a:Act}{w:World}{f:Nat}{l:Array Operand}(b:o.op=.makeFunc (.func f) #[] l):(execOp a.eval o).run P w=.ok (.value (.func (.func f) #[] (l.map a.eval))) w:=by simp[execOp,b,Instr.makeFunc]
def Zhm{P}{o:Oper}{a:Act}{w}{c:Call}{x:Operand}{f:Nat}{l:Array Value}{next:Act->World->Prop}{Q}(d:o.op=.defer c)(b:c=⟨.value x,#[],#[]⟩)(e:a.eval x=.func (.func f) #[] l)(h:next ({a with defers:=⟨.fn (.func f) l,#[]⟩::a.defers}.put o.dst undef) w):o.wp P a w next Q:=by
 subst b;have:(execOp a.eval o).run P w=.ok (.defer ⟨.fn (.func f) l,#[]⟩) w:=by simp[execOp,d,resolve,e,Deferred.ofValue]
 unfold Oper.wp;rw[this];exact h
def clS(h:Heap)(s k:List Int):Tg:=⟨tm 79 [(1,Z3 s),(2,Z3 k),(3,.pt 8003 0 0),(6,.pt 8006 0 0),(7,.pt 8007 0 0),(8,.pt 8008 0 0),(9,.pt 8009 0 0),(10,.pt 8010 0 0)],[(8003,.box 28 h.cells),(8006,.box 28 [int 0,int 0,.d (.sl 0 []),.d (.sl 0 []),int 0,int 0]),(8007,.box 25 [.d (.sl 0 [])]),(8008,.box 25 [.d (.sl 0 [])]),(8009,.box 73 [int 0,int 0,int 0,int 0,int 0,int 0]),(8010,.box 32 [int 0])],2⟩
section
variable {h:Heap} {s k:List Int} {w0 w1 w2 w3 w4 a:Z7} {l o:List Int} (c:Z6s h s k w0 w1 w2 w3 w4 a l o)
include c
theorem Z44:GP 73 [h.av] Lc (.tu [w0.av,int 0]) []:=c.b
theorem Z4g:GP 74 [h.av,Z3 (s++k)] O (bool O) []:=c.r
theorem Z5N:GP 77 [w0.av,Z3 s] O (.tu [w1.av,Z3 l,int 0]) []:=c.t
theorem Z5D:GP 78 [w1.av] O (.tu [w2.av,int 0]) []:=c.a
theorem Z6M:BP 79 [.pt 0 0 0,Z3 k] [w2.evD] (.ow 1) [w3.evD,Bc o]:=c.w
theorem Z77:BP 80 [.pt 0 0 0] [w3.evD] (.tu []) [w4.evD]:=c.f
theorem Z4C:BP 81 [.pt 0 0 0] [w4.evD] (.tu []) [a.evD]:=c.g
omit c in
theorem Zgt(h:Heap) s k:CP (Ro f35 0) (Tg.st ⟨tm 79 [(0,h.av),(1,Z3 s),(2,Z3 k)],[],1⟩) .nrm (clS h s k).st:=by exact sF [] [] Fz
theorem Zi8:CP (tlF f35 2) (clS h s k).st .ret (Tg.st ⟨tm 79 [(6,.pt 8006 0 0),(7,.pt 8007 0 0),(8,.pt 8008 0 0),(9,.pt 8009 0 0),(10,.pt 8010 0 0)],[(8006,.box 28 (Eh a).cells),(8007,.box 25 [Z3 l]),(8008,.box 25 [.ow 24049]),(24049,.arr 35 1 (o.map wdv)),(8009,.box 73 a.rep.cells),(8010,.box 32 [int 0])],60⟩):=by
 have sl:=c.sl;have kl:=c.kl;have tl:=c.tl;have sp:=c.sp;by_cases e:0<a.T.length;have d:Eh a=⟨a.heap.C,a.heap.W,a.heap.P,1-a.heap.S,ZF a⟩:=by rw[Eh,if_pos e]
 rw[d];refine Zg [((16:Nat),[Hint.call Lc (AV.tu [w0.av,int (0:Int)]) []]),((26:Nat),[Hint.call O (Z3 (s++k)) []]),((27:Nat),[Hint.call O (Sx.bool O) []]),((31:Nat),[Hint.call O (AV.tu []) []]),((35:Nat),[Hint.call O (AV.tu [w1.av,Z3 l,int (0:Int)]) []]),((40:Nat),[Hint.call O (AV.tu []) []]),((43:Nat),[Hint.call O (AV.tu [w2.av,int (0:Int)]) []]),((47:Nat),[Hint.call O (AV.tu []) []]),((49:Nat),[Hint.bor [(16011:Nat)] (AV.ow (1:Nat)) [w3.evD,Bc o]]),((50:Nat),[Hint.bor [(16011:Nat)] (AV.tu []) [w4.evD]]),((51:Nat),[Hint.bor [(16011:Nat)] (AV.tu []) [a.evD]]),((55:Nat),[Hint.int ((1:Int)-a.heap.S)]),((62:Nat),[Hint.int (a.T.length:Int)]),((64:Nat),[Hint.br O]),((68:Nat),[Hint.int ((a.T.length:Int)-(1:Int))]),((69:Nat),[Hint.el (idv (a.T.getD ((a.T.length:Int)-(1:Int)).toNat M))])] [] [((73049:Nat),(24049:Nat))] [] (φ:=GP 73 [h.av] Lc (AV.tu [w0.av,int (0:Int)]) []/\(((0:Int)==(0:Int))=O->GP 75 [Eo s k] O (Z3 (s++k)) [])/\(((0:Int)==(0:Int))=O->GP 74 [h.av,Z3 (s++k)] O (Sx.bool O) [])/\GP 76 [int (0:Int)] O (AV.tu []) []/\GP 77 [w0.av,Z3 s] O (AV.tu [w1.av,Z3 l,int (0:Int)]) []/\GP 76 [int (0:Int)] O (AV.tu []) []/\GP 78 [w1.av] O (AV.tu [w2.av,int (0:Int)]) []/\GP 76 [int (0:Int)] O (AV.tu []) []/\BP 79 [AV.pt (0:Nat) (0:Nat) (0:Nat),Z3 k] [w2.evD] (AV.ow (1:Nat)) [w3.evD,Bc o]/\BP 80 [AV.pt (0:Nat) (0:Nat) (0:Nat)] [w3.evD] (AV.tu []) [w4.evD]/\BP 81 [AV.pt (0:Nat) (0:Nat) (0:Nat)] [w4.evD] (AV.tu []) [a.evD]/\Lq.wrap ((1:Int)-a.heap.S)=(1:Int)-a.heap.S/\(↑(La idv a.T).length:Int)=(a.T.length:Int)/\Lb ((0:Int)<(a.T.length:Int))=O/\O=O/\Lq.wrap ((a.T.length:Int)-(1:Int))=(a.T.length:Int)-(1:Int)/\(0:Int)<=(a.T.length:Int)-(1:Int)/\(La idv a.T)[((a.T.length:Int)-(1:Int)).toNat]?=Le (idv (a.T.getD ((a.T.length:Int)-(1:Int)).toNat M))) ?_ kr kr kr;exact⟨(@Z44 (h) (s) (k) (w0) (w1) (w2) (w3) (w4) (a) (l) (o) aa),(λb=>by(try simp only[bs]at b);exact@Z6q (s) (k) (by(try simp only[bs]at b);omega) (by(try simp only[bs]at b);omega)),(λb=>by(try simp only[bs]at b);exact@Z4g (h) (s) (k) (w0) (w1) (w2) (w3) (w4) (a) (l) (o) aa),(@Ia ((0:Int)) (by rfl)),(@Z5N (h) (s) (k) (w0) (w1) (w2) (w3) (w4) (a) (l) (o) aa),(@Ia ((0:Int)) (by rfl)),(@Z5D (h) (s) (k) (w0) (w1) (w2) (w3) (w4) (a) (l) (o) aa),(@Ia ((0:Int)) (by rfl)),(@Z6M (h) (s) (k) (w0) (w1) (w2) (w3) (w4) (a) (l) (o) aa),(@Z77 (h) (s) (k) (w0) (w1) (w2) (w3) (w4) (a) (l) (o) aa),(@Z4C (h) (s) (k) (w0) (w1) (w2) (w3) (w4) (a) (l) (o) aa),(by exact Ze rfl oq oq),(by simp only[Lp]),(by(simp only[bs];omega)),rfl,(by exact Ze rfl oq oq),(by exact Zk oq oq oq)⟩;have d:Eh a=⟨a.heap.C,a.heap.W,a.heap.P,1-a.heap.S,-1⟩:=by rw[Eh,if_neg e]
 rw[d];exact sF [(73049,24049)] [] (Fc 16 (@Z44 h s k w0 w1 w2 w3 w4 a l o aa) (FcG 26 ((0:Int)==0) (λb=>by(try simp only[bs]at b);exact@Z6q s k oq oq) (FcG 27 ((0:Int)==0) (λb=>by(try simp only[bs]at b);exact@Z4g h s k w0 w1 w2 w3 w4 a l o aa) (Fc 31 (@Ia (0) (by rfl)) (Fc 35 (@Z5N h s k w0 w1 w2 w3 w4 a l o aa) (Fc 40 (@Ia (0) (by rfl)) (Fc 43 (@Z5D h s k w0 w1 w2 w3 w4 a l o aa) (Fc 47 (@Ia (0) (by rfl)) (Fbr 49 [16011] (@Z6M h s k w0 w1 w2 w3 w4 a l o aa) (Fbr 50 [16011] (@Z77 h s k w0 w1 w2 w3 w4 a l o aa) (Fbr 51 [16011] (@Z4C h s k w0 w1 w2 w3 w4 a l o aa) (Fi 55 (1-a.heap.S) (Fl 62 idv a.T (Ffb 64 (Lb (0<(a.T.length:Int))) Fz))))))))))))))
def clT(a:Z7)(l o:List Int):Tg:=⟨tm 79 [(6,.pt 8006 0 0),(7,.pt 8007 0 0),(8,.pt 8008 0 0),(9,.pt 8009 0 0),(10,.pt 8010 0 0)],[(8006,.box 28 (Eh a).cells),(8007,.box 25 [Z3 l]),(8008,.box 25 [Z3 o]),(8009,.box 73 a.rep.cells),(8010,.box 32 [int 0])],60⟩
theorem ZhR:CP (tlF f35 2) (clS h s k).st .ret (clT a l o).st:=
 CSpec.frz 24049 (Zi8 c) kr
theorem ZkD:GP 35 [h.av,Z3 s,Z3 k] Lc (.tu [(Eh a).av,Z3 l,Z3 o,.ag a.rep.cells,int 0]) []:=by
 intro w y vs q r g;refine calls_of_wp_defers func35 (c:=.seq (Ro f35 0) (.seq (Ro f35 1) (tlF f35 2))) kr ?_;have S0:=Z3q (n:=79) q r g;rw[show [h.av,Z3 s,Z3 k]++Lh (79 - [h.av,Z3 s,Z3 k].length) .any=tm 79 [(0,h.av),(1,Z3 s),(2,Z3 k)]from by kernel_rfl]at S0;refine wp_seq (wp_mono (Zgt h s k _ _ _ _ _ S0) ?_);rintro e a1 w1 ⟨rfl,S1⟩;refine wp_seq ?_;rw[show Ro f35 1=.region 1 (BJ f35 1) Lc from by kernel_rfl];refine wp_region ?_;rw[show Lg (BJ f35 1).size=[0,1]from by kernel_rfl];refine MD (o:=(BJ f35 1).getD 0 M) kr kr (S9 (ZgP (f:=72) (l:=#[.tmp 6,.tmp 7,.tmp 8,.tmp 9,.tmp 10]) kr) ?_);rw[show Array.map a1.eval #[.tmp 6,.tmp 7,.tmp 8,.tmp 9,.tmp 10]=#[a1.eval (.tmp 6),a1.eval (.tmp 7),a1.eval (.tmp 8),a1.eval (.tmp 9),a1.eval (.tmp 10)]from by simp];show wpOps prog (BJ f35 1) _ [1] (a1.put (Le 13) (.func (.func 72) #[] #[a1.eval (.tmp 6),a1.eval (.tmp 7),a1.eval (.tmp 8),a1.eval (.tmp 9),a1.eval (.tmp 10)])) w1;generalize a1.eval (.tmp 6)=v6,a1.eval (.tmp 7)=v7,a1.eval (.tmp 8)=v8,a1.eval (.tmp 9)=v9,a1.eval (.tmp 10)=v10;have j:Sx.Sys G5 y w ((clS h s k).st.tmps.set 13 .any) (clS h s k).st.H 2 (a1.put (Le 13) (.func (.func 72) #[] #[v6,v7,v8,v9,v10])) w1:=by(obtain⟨ρ,b,I,T⟩:=S1;exact⟨ρ,b,I,T.put 13 (.any _)⟩)
 have d:(a1.put (Le 13) (.func (.func 72) #[] #[v6,v7,v8,v9,v10])).eval (.tmp 13)=.func (.func 72) #[] #[v6,v7,v8,v9,v10]:=by
  obtain⟨ρ,b,I,T⟩:=S1;have:=T.size;have z:13<a1.tmps.size:=by rw[this,show(clS h s k).st.tmps.length=79 from by kernel_rfl];decide
  simp[Act.put,Act.eval,z]
 generalize a1.put (Le 13) (.func (.func 72) #[] #[v6,v7,v8,v9,v10])=a2 at j d⊢;refine MD (o:=(BJ f35 1).getD 1 M) kr kr (Zhm (c:=⟨.value (.tmp 13),#[],#[]⟩) (x:=.tmp 13) kr rfl d ?_);have S3:=j.defer [⟨.fn (.func 72) #[v6,v7,v8,v9,v10],#[]⟩];have hd:a2.defers=[]:=by(obtain⟨_,_,_,T⟩:=j;exact T.defers)
 rw[hd];show Code.wp prog (tlF f35 2) _ {tmps:=a2.tmps,defers:=[⟨.fn (.func 72) #[v6,v7,v8,v9,v10],#[]⟩]} w1;have S6:=Z0h (s:=⟨(clS h s k).st.tmps.set 13 .any,(clS h s k).st.H,2⟩) (t:=clS h s k) kr kr S3;refine wp_mono (ZhR c _ _ _ _ _ S6) ?_;rintro e m i ⟨rfl,S4⟩;obtain⟨ρ,b,I,T⟩:=S4;show Leaves _ _ m.tmps _ m.defers .returning i;rw[T.defers];refine leaves_cons (f:=72) (args:=#[v6,v7,v8,v9,v10]) pq (Rb kr _ _) ?_;refine(Ziu v6 v7 v8 v9 v10 i).mono ?_;rintro e u' u ⟨rfl,rfl,rfl⟩;have S5:Sx.Sys G5 y w (clT a l o).st.tmps (clT a l o).st.H 60 {m with defers:=[]} u:=⟨ρ,b,⟨I.kept,I.inj,I.notIm,I.bnd,I.own,I.imb,I.im0,I.blk,I.fresh,I.one⟩,⟨T.size,T.tmp,rfl⟩⟩;obtain⟨v,r1,r2⟩:=Z3z (P:=prog) (fn:=f35) (fr:=Lc) (ns:=[]) (l:=[(Eh a).av,Z3 l,Z3 o,.ag a.rep.cells,int 0]) (res:=.tu [(Eh a).av,Z3 l,Z3 o,.ag a.rep.cells,int 0]) (x:=.tu [(Eh a).av,Z3 l,Z3 o,.ag a.rep.cells,int 0]) (p:=[]) (qq:=[]) (st:=(clT a l o).st) (L1 (α:=Nat)) S5 kr kr trivial trivial kr kr trivial;exact⟨v,r1,v,rfl,r2⟩
end
end Go.Proofs.YtgedmeaemofdkaaGreat
namespace Go.Proofs.YtgedmeaemofdkaaGreat
open Go.Sx
def Z66(h:Zy)(i:Int)(hm:0<=h.map/\h.map<=4294967295):GP 162 [h.av,int i] O (bool (Bf h i)) []:=by
 rcases bb (!ZR h||Lb (i<0)||Lb (h.length<=i))with hc0|hc0<;>have hc0p:=hc0<;>simp only[bs]at hc0p
 .exact gF [] func162 (fO 6) (Fc 6 (@Sc h aa) (Ft 17 hc0 (Fa (by grind[Bf]:Lc=Bf h i) Fz)))
 .obtain⟨⟨hc0paa,hc0pab⟩,hc0pb⟩:=hc0p;have hf3:=Gf.1 hc0paa;obtain⟨hf3a,⟨hf3ba,⟨hf3bba,⟨hf3bbba,hf3bbbb⟩⟩⟩⟩:=hf3;exact gF [] func162 (fO 17) (Fc 6 (@Sc h aa) (Ff 17 hc0 (Fa (by intro hg;(try simp only[bs]at hg);omega:(!h.K==2&&h.K==1)=O->0<=i) (Fa (by exact Z63 h i hm aa oq oq:(h.K==2||h.K==1&&bits BinOp.and IntKind.u32 (h.map.fdiv (2^min i.toNat 32)) (1:Int)==1)=Bf h i) Fz))))
def PW(h:Zy)(i:Nat):Tg:=⟨tm 19 [(1,.pt 8001 0 0),(2,.d (.sl 0 [])),(3,.ow 16003),(6,int (Z5 h)),(7,int i)],[(16003,.arr 3 1 ((C1 h i).map idv)),(8001,.box 52 [int h.K,int h.length,u32 h.map])],60⟩
def ZhP(h:Zy)(i:Nat)(hm:0<=h.map/\h.map<=4294967295)(hi:(i:Int)<Z5 h):CP (Zm f110 0) (PW h i).st .nrm (PW h (i+1)).st:=by
 have hn:=TG h i;have hs:=HY h;by_cases a:Bf h (i:Int)=O;have e:C1 h (i+1)=C1 h i++[(i:Int)]:=by rw[C1,if_pos a]
 exact sF [(504016,16003)] (fO 5) (Fh 12 [.call O (Sx.bool (Bf h (i:Int))) [],.br O] (Fh 16 [.els (La idv (C1 h i++[(i:Int)]))] (Ftb 8 (Lb ((i:Int)<Z5 h)) (Fa (@Z66 h ((i:Int)) aa) (Fa ‹Bf h (i:Int)=O› (Fs 15 (La idv [(i:Int)]) (Fa (by(simp[*];omega):(La idv (C1 h i)).length+(La idv [(i:Int)]).length<=2^30) (Fa (ms:La idv (C1 h i)++La idv [(i:Int)]=La idv (C1 h i++[(i:Int)])) (Fx 17 i (Fr (3:Int) (Fa (by refine congrArg _ ?_;rw[e]:La idv (C1 h i++[(i:Int)])=La idv (C1 h (i+1))) Fz)))))))))));have e:C1 h (i+1)=C1 h i:=by rw[C1,if_neg a]
 have b:Bf h (i:Int)=Lc:=by simpa using a
 exact sF [] (fO 5) (Fh 12 [.call O (Sx.bool (Bf h (i:Int))) [],.br Lc] (Ftb 8 (Lb ((i:Int)<Z5 h)) (Fa (@Z66 h ((i:Int)) aa) (Fa ‹Bf h (i:Int)=Lc› (Fx 17 i (Fr (3:Int) (Fa (by refine congrArg _ ?_;rw[e]:La idv (C1 h i)=La idv (C1 h (i+1))) Fz)))))))
def Zgx(h:Zy)(i:Nat)(hi:(i:Int)=Z5 h):CP (Zm f110 0) (PW h i).st (.ext 0) (Tg.st ⟨tm 19 [(2,.d (.sl 0 [])),(3,.ow 16003)],[(16003,.arr 3 1 ((C1 h i).map idv))],60⟩):=by exact sF [] [] (Ffb 8 (Lb ((i:Int)<Z5 h)) Fz)
def Z7u(h:Zy):C1 h (Z5 h).toNat=ZC h:=by unfold ZC Z5;by_cases a:ZR h=O;rw[if_pos a,if_pos a];have hb:=Gf.1 a;rw[show(h.length+1).toNat=h.length.toNat+1 from by omega,C1,if_neg];unfold Bf;simp;omega;rw[if_neg a,if_neg a];rfl
def Ze4(h:Zy)(a:0<=h.map/\h.map<=4294967295):CP (Zj f110 0) (Tg.st ⟨tm 19 [(1,.pt 8001 0 0),(2,.d (.sl 0 [])),(3,.ow 16003),(6,int (Z5 h)),(7,int 0)],[(16003,.arr 3 1 []),(8001,.box 52 [int h.K,int h.length,u32 h.map])],60⟩) .nrm (Tg.st ⟨tm 19 [(2,.d (.sl 0 [])),(3,.ow 16003)],[(16003,.arr 3 1 ((ZC h).map idv))],60⟩):=by have hs:=HY h;rw[<-Z7u];exact Br (S:=λi=>(PW h i).st) (Z5 h).toNat kr (λi hi=>ZhP h i a oq) (Zgx h _ oq)
def Z1H(h:Zy)(hm:0<=h.map/\h.map<=4294967295):GP 110 [h.av] O (.d (.sl 1 ((ZC h).map idv))) []:=by exact gF [] func110 [] (Fh 3 [.own] (Fc 6 (@EK h aa) (Fu (@Ze4 h aa) (Fa (by exact AG _:Ci (La idv (ZC h))) Fz))))
def Ax(h:Heap)(i:Nat):Tg:=⟨tm 19 [(1,int i),(2,.pt 8002 0 0),(4,int 0)],[(8002,.box 28 h.cells)],60⟩
def ZdJ(h:Heap)(i:Nat)(hi:i+1<h.P.length)(hl:h.P.length<=1048576)(hk:(h.P.getD (i+1) M).K=3):CP (Zm f247 0) (Ax h (i+1)).st .nrm (Ax h i).st:=by
 have ei:((i+1:Nat):Int)-1=(i:Int):=by omega
 exact sF [] [] (FeG 11 (Lb (0<(↑(i+1):Int))) Z0.dv h.P (↑(i+1):Int) (i+1) (Ftb 15 (Lb (0<(↑(i+1):Int))&&(h.P.getD (i+1) M).K==3) (Fg 17 (by rw[E4 oq oq];omega:Lq.wrap ((↑(i+1):Int)-1)=(i:Int)) Fz)))
def Z4c(h:Heap)(i:Nat)(hi:i<h.P.length)(hl:h.P.length<=1048576)(hk:¬ (h.P.getD i M).K=3):CP (Zm f247 0) (Ax h i).st (.ext 0) (Tg.st ⟨tm 19 [(1,int i),(4,int 0)],[],60⟩):=by exact sF [] [] (FeG 11 (Lb (0<(i:Int))) Z0.dv h.P (↑i) i (Ffb 15 (Lb (0<(i:Int))&&(h.P.getD i M).K==3) Fz))
def Z73(h:Heap)(b:Z8 h=O)(hl:h.P.length<=1048576):∀i,i<h.P.length->Ga prog f247 0 (Ax h i).st (.ext 0) (Tg.st ⟨tm 19 [(1,int (ZV h.P i)),(4,int 0)],[],60⟩)
 |0,hi=>.endx (Z4c h 0 hi hl (Z6z b))
 |i+1,hi=>by
  unfold ZV;by_cases a:(h.P.getD (i+1) M).K=3
  .rw[if_pos a];exact .next (ZdJ h i hi hl a) (Z73 h b hl i oq)
  .rw[if_neg a];exact .endx (Z4c h (i+1) hi hl a)
def Zjh(h:Heap)(i:Nat)(b:Z8 h=O)(a:i<h.P.length)(hl:h.P.length<=1048576):CP (Zj f247 0) (Ax h i).st .nrm (Tg.st ⟨tm 19 [(1,int (ZV h.P i)),(4,int 0)],[],60⟩):=
 (Z73 h b hl i a).ext kr
def ZeH(h:Heap)(i:Nat)(a:Z8 h=O)(hi:i<h.P.length):GP 247 [h.av,int i] O (int (ZV h.P i)) []:=by have po:=B1 a;exact gF [] func247 [] (Fu (@Zjh h i aa aa oq) Fz)
def D4(h:Heap)(i:Int)(l:List Int)(n:Nat):Tg:=⟨tm 58 [(1,int i),(3,.pt 8003 0 0),(6,u64 0),(7,bool Lc),(13,Z3 l),(14,int l.length),(15,int n)],[(8003,.box 28 h.cells)],60⟩
section
variable (h:Heap) (i:Int) (l:List Int) (n:Nat) (a:Zx h.W) (hl:l.length<=1048576) (b:0<=i/\i<h.P.length) (c:h.P.length<=1048576) (hr:∀x∈l,0<=x/\x<=8192)
include a hl b c hr
theorem Z4S(g:n<l.length)(f:Gg h i (l.getD n M)=Lc):CP (Zm f228 0) (D4 h i l n).st .nrm (D4 h i l (n+1)).st:=by have hx:=hr (l.getD n M) (Bm.2 ⟨n,g,rfl⟩);have hm:=Ir a (l.getD n M);simp only[Gg,bs]at f;let d:=Z9 h (l.getD n M);let e:=h.P.getD i.toNat M;exact sF [] [] (Ftb 16 (Lb ((n:Int)<(l.length:Int))) (Fek 17 wdv l (↑n) n (Fc 22 (@Nf h (l.getD n M) aa oq) (Fc 26 (@EK (d.1) aa) (Fc 29 (@Z0i h.C) (Fe 34 Z0.dv h.P i (FeGq 46 (!(e.K==1&&!decide (Z5 d.1<=Zb h.C))) Z0.dv h.P i (Ffb 55 (e.K==1&&!decide (Z5 d.1<=Zb h.C)||e.K==2&&d.1.K==0) (Fx 57 n Fz)))))))))
theorem Z9T(g:n<l.length)(f:Gg h i (l.getD n M)=O):CP (Zm f228 0) (D4 h i l n).st .ret (Tg.st ⟨tm 58 [(6,u64 (l.getD n M)),(7,bool O)],[],60⟩):=by have hx:=hr (l.getD n M) (Bm.2 ⟨n,g,rfl⟩);have hm:=Ir a (l.getD n M);simp only[Gg,bs]at f;let d:=Z9 h (l.getD n M);let e:=h.P.getD i.toNat M;exact sF [] [] (Ftb 16 (Lb ((n:Int)<(l.length:Int))) (Fek 17 wdv l (↑n) n (Fc 22 (@Nf h (l.getD n M) aa oq) (Fc 26 (@EK (d.1) aa) (Fc 29 (@Z0i h.C) (Fe 34 Z0.dv h.P i (FeGq 46 (!(e.K==1&&!decide (Z5 d.1<=Zb h.C))) Z0.dv h.P i (Ftb 55 (e.K==1&&!decide (Z5 d.1<=Zb h.C)||e.K==2&&d.1.K==0) Fz))))))))
omit a hl b c hr in
theorem ZgM:CP (Zm f228 0) (D4 h i l l.length).st (.ext 0) (Tg.st ⟨tm 58 [(6,u64 0),(7,bool Lc)],[],60⟩):=by exact sF [] [] (Ffb 16 (Lb ((l.length:Int)<(l.length:Int))) Fz)
end
def Z9Z(h:Heap)(i:Int)(l:List Int)(e:Zx h.W)(hl:l.length<=1048576)(c:0<=i/\i<h.P.length)(d:h.P.length<=1048576)(hr:∀x∈l,0<=x/\x<=8192)(b:l.find? (Gg h i)=Lf) :CP (Zj f228 0) (Tg.st ⟨tm 58 [(1,int i),(3,.pt 8003 0 0),(6,u64 0),(7,bool Lc),(13,Z3 l),(14,int l.length),(15,int 0)],[(8003,.box 28 h.cells)],60⟩) .nrm (Tg.st ⟨tm 58 [(6,u64 0),(7,bool Lc)],[],60⟩):=
 Br (S:=λn=>(D4 h i l n).st) l.length kr (λn a=>Z4S h i l n e hl c d hr a (Z02 b n a)) (ZgM h i l)
def Zkg(h:Heap)(i:Int)(l:List Int)(x:Int)(c:Zx h.W)(hl:l.length<=1048576)(a:0<=i/\i<h.P.length)(b:h.P.length<=1048576)(hr:∀x∈l,0<=x/\x<=8192)(j:l.find? (Gg h i)=Le x) :CP (Zj f228 0) (Tg.st ⟨tm 58 [(1,int i),(3,.pt 8003 0 0),(6,u64 0),(7,bool Lc),(13,Z3 l),(14,int l.length),(15,int 0)],[(8003,.box 28 h.cells)],60⟩) .ret (Tg.st ⟨tm 58 [(6,u64 x),(7,bool O)],[],60⟩):=by obtain⟨n,d,e,f,g⟩:=SS j;subst e;exact EY (S:=λn=>(D4 h i l n).st) n kr (λm k=>Z4S h i l m c hl a b hr oq (g m k)) (Z9T h i l n c hl a b hr d f)
def G1(h:Heap)(i:Int)(l:List Int):Bool:=(l.find? (Gg h i)).isSome
def DF(h:Heap)(i:Int)(l:List Int)(hw:Zx h.W)(hl:l.length<=1048576)(hp:h.P.length<=1048576)(hi:0<=i/\i<h.P.length)(hr:∀x∈l,0<=x/\x<=8192):GP 228 [h.av,int i,Z3 l] O (.tu [u64 (Cp h i l),bool (G1 h i l)]) []:=by
 cases hf:l.find? (Gg h i)with
 |none =>
  have a:Cp h i l=0:=by rw[Cp,hf];rfl
  have b:G1 h i l=Lc:=by rw[G1,hf];rfl
  rw[a,b];exact gF [] func228 [] (Fl 14 wdv l (Fu (@Z9Z h i l aa aa aa aa aa aa) Fz))
 |some x =>
  have a:Cp h i l=x:=by rw[Cp,hf];rfl
  have b:G1 h i l=O:=by rw[G1,hf];rfl
  rw[a,b];exact gF [] func228 [] (Fl 14 wdv l (Fu (@Zkg h i l x aa aa aa aa aa aa) Fz))
def Zd1(ws:List Int)(a n:Int)(hw:ws.length<=1048576)(h0:4096<=a/\1<=n/\n<=1000/\a-4096+n<=ws.length):GP 117 [Z3 ws,u64 a,int n] O (.tu [.ow 0,int 0]) [.arr 35 1 (((ws.drop (a-4096).toNat).take n.toNat).map wdv)]:=by
 have c:(Zw ws a n).1=a-4096:=by rw[Zw,if_pos oq]
 have b:(Zw ws a n).2=O:=by rw[Zw,if_pos oq];simp;omega
 have d:(ws.drop (a-4096).toNat).take n.toNat≠[]:=A5 (by rw[Lr,LA];omega);exact gF [41027] func117 [Lc,O] (Fh 26 [.els (La wdv (Lk (((Zw ws a n).1+n).toNat-(Zw ws a n).1.toNat) (Lj (Zw ws a n).1.toNat ws)))] (Ffb 11 (Lb (n<0)) (Fc 16 (@To ws a n aa oq) (Ffb 20 (!(Zw ws a n).2) (Fi 25 ((Zw ws a n).1+n) (Fa (by(simp only[Lp];omega):0<=(Zw ws a n).1/\(Zw ws a n).1<=(Zw ws a n).1+n/\(Zw ws a n).1+n<=(↑(La wdv ws).length:Int)) (Fa (by simp[b,LC,LB,List.map_set,Lu,wdv,idv]:Lk (((Zw ws a n).1+n).toNat-(Zw ws a n).1.toNat) (Lj (Zw ws a n).1.toNat (La wdv ws))=La wdv (Lk (((Zw ws a n).1+n).toNat-(Zw ws a n).1.toNat) (Lj (Zw ws a n).1.toNat ws))) (Fc 27 (@Z7F (Lk (((Zw ws a n).1+n).toNat-(Zw ws a n).1.toNat) (Lj (Zw ws a n).1.toNat ws)) (by(simp[b, *];omega)) (by(simp[b, *];omega))) (Fa (by exact Hd _:Ci (La wdv (Lk (((Zw ws a n).1+n).toNat-(Zw ws a n).1.toNat) (Lj (Zw ws a n).1.toNat ws)))) (Fr (35:Int) (Fa (by refine congrArg _ ?_;(simp[b, *];omega):La wdv (Lk (((Zw ws a n).1+n).toNat-(Zw ws a n).1.toNat) (Lj (Zw ws a n).1.toNat ws))=La wdv (Lk n.toNat (Lj (a-4096).toNat ws))) Fz)))))))))))
def Gr(l:List Int):Nat:=(l.takeWhile λx=>x==0).length
def Z09{l}{m:Nat}(h:m<Gr l):m<l.length/\l.getD m M=0:=by obtain⟨a,b⟩:=SQ _ _ _ h;refine⟨a, ?_⟩;rw[Lo,Ls a];simpa using b
def Z4F{l:List Int}(h:Gr l<l.length):¬ l.getD (Gr l) M=0:=by
 have a:=Ai (λx:Int=>x==0) l h;have b:l.getD (Gr l) M=l[(l.takeWhile λx=>x==0).length]:=by(rw[Lo,Ls h];rfl)
 rw[b];simpa using a
def C2(l:List Int):Int:=if Gr l<l.length then Gr l else -1
def Z71 x:GP 248 [u64 x] O (bool (x != 0)) []:=by exact gF [] func248 [] Fz
def D2(l:List Int)(i:Nat):Tg:=⟨tm 19 [(0,Z3 l),(1,.fn 248 []),(4,int 0),(7,int l.length),(8,int i)],[],60⟩
def Z4h(l:List Int)(i:Nat)(hl:l.length<=1048576)(hi:i<l.length)(e:l.getD i M=0):CP (Zm f172 0) (D2 l i).st .nrm (D2 l (i+1)).st:=by exact sF [] [] (Fh 16 [.call O (Sx.bool (l.getD i M != 0)) [],.br Lc] (Ftb 9 (Lb ((i:Int)<(l.length:Int))) (Fek 14 wdv l (↑i) i (Fa (@Z71 (l.getD i M)) (Fb ((l.getD i M != 0)=Lc) (Fx 18 i Fz))))))
def Ziw(l:List Int)(i:Nat)(hl:l.length<=1048576)(hi:i<l.length)(e:¬ l.getD i M=0):CP (Zm f172 0) (D2 l i).st .ret (Tg.st ⟨tm 19 [(4,int i)],[],60⟩):=by exact sF [] [] (Fh 16 [.call O (Sx.bool (l.getD i M != 0)) [],.br O] (Ftb 9 (Lb ((i:Int)<(l.length:Int))) (Fek 14 wdv l (↑i) i (Fa (@Z71 (l.getD i M)) (Fb ((l.getD i M != 0)=O) Fz)))))
def Zkj l:CP (Zm f172 0) (D2 l l.length).st (.ext 0) (Tg.st ⟨tm 19 [(4,int 0)],[],60⟩):=by exact sF [] [] (Ffb 9 (Lb ((l.length:Int)<(l.length:Int))) Fz)
def ZiK(l:List Int)(hl:l.length<=1048576)(h:¬ Gr l<l.length)  := Br (S:=λj=>(D2 l j).st) l.length (by kernel_rfl) (λj a=>Z4h l j hl a (Z09 (by omega)).2) (Zkj l)
def ZgQ(l:List Int)(hl:l.length<=1048576)(h:Gr l<l.length)  := EY (S:=λj=>(D2 l j).st) (Gr l) (by kernel_rfl) (λj a=>Z4h l j hl (by omega) (Z09 a).2) (Ziw l (Gr l) hl h (Z4F h))
def ZjO(l:List Int)(hl:l.length<=1048576):GP 172 [Z3 l,.fn 248 []] O (int (C2 l)) []:=by by_cases h:Gr l<l.length;have a:C2 l=Gr l:=if_pos h;rw[a];exact gF [] func172 [] (Fl 7 wdv l (Fu (@ZgQ l aa aa) Fz));have a:C2 l=-1:=if_neg h;rw[a];exact gF [] func172 [] (Fl 7 wdv l (Fu (@ZiK l aa aa) Fz))
def G6(c:List Int)(x:Int):Nat:=(min (max x 0) (c.length:Int)).toNat
def R5(c:List Int)(x k:Int):List Int:=c.take (G6 c x)++Lh (G6 c (x+k)-G6 c x) 0++c.drop (G6 c x+(G6 c (x+k)-G6 c x))
def ZK(h:Heap)(F:Int)(l c:List Int):Nat->List Int|0=>c|n+1=>R5 (ZK h F l c n) (l.getD n M-F) (Gs h (l.getD n M))
def Z07 c(x:Int):G6 c x<=c.length:=by unfold G6;omega
def Z6r c(x:Int){k:Int}(hk:0<=k):G6 c x<=G6 c (x+k):=by unfold G6;omega
def Z9s(h:Heap)(a:Int):0<=Gs h a/\Gs h a<=256:=by have:=HY (Z9 h a).1;unfold Gs;split<;>omega
def Zbw c x{k:Int}(a:0<=k):(R5 c x k).length=c.length:=by have h1:=Z07 c x;have h2:=Z07 c (x+k);have h3:=Z6r c x a;simp[R5];omega
def MX(h:Heap) F l c:∀n,(ZK h F l c n).length=c.length|0=>rfl|n+1=>by rw[ZK,Zbw _ _ (Z9s h _).1,MX h F l c n]
def adL(h:Heap)(F:Int)(l c:List Int)(n:Nat):Tg:=⟨tm 90 [(2,.pt 8002 0 0),(4,u64 0),(5,bool Lc),(6,u64 F),(8,.ow 25033),(44,Z3 l),(45,int l.length),(46,int n)],[(25033,.arr 35 1 ((ZK h F l c n).map wdv)),(8002,.box 28 h.cells)],60⟩
def Zkq(h:Heap)(F:Int)(l c:List Int)(n:Nat)(g:Zx h.W)(hF:0<=F/\F<=8192)(hl:l.length<=1048576)(hc:c.length<=64)(hr:∀x∈l,0<=x/\x<=8192)(f:n<l.length):CP (Zm f229 0) (adL h F l c n).st .nrm (adL h F l c (n+1)).st:=by
 have hx:=hr (l.getD n M) (Bm.2 ⟨n,f,rfl⟩);have hm:=Ir g (l.getD n M);have e:=MX h F l c n;have hs:=HY (Z9 h (l.getD n M)).1;by_cases d:(Z9 h (l.getD n M)).1.K=0;have b:Gs h (l.getD n M)=1:=if_pos d;have a:ZK h F l c (n+1)=R5 (ZK h F l c n) (l.getD n M-F) 1:=by rw[ZK,b]
 exact sF [] (fO 8) (Fh 20000 [.els (La wdv (Lk (min (max (l.getD n M-F) 0) (↑(ZK h F l c n).length:Int)).toNat (ZK h F l c n)++Lh ((min (max (l.getD n M-F+1) 0) (↑(ZK h F l c n).length:Int)).toNat-(min (max (l.getD n M-F) 0) (↑(ZK h F l c n).length:Int)).toNat) 0++Lj ((min (max (l.getD n M-F) 0) (↑(ZK h F l c n).length:Int)).toNat+(Lh ((min (max (l.getD n M-F+1) 0) (↑(ZK h F l c n).length:Int)).toNat-(min (max (l.getD n M-F) 0) (↑(ZK h F l c n).length:Int)).toNat) (0:Int)).length) (ZK h F l c n)))] (Ftb 47 (Lb ((n:Int)<(l.length:Int))) (Fek 48 wdv l (↑n) n (Fc 53 (@Nf h (l.getD n M) aa oq) (Ffb 58 ((Z9 h (l.getD n M)).1.K != 0) (Fi 62 (l.getD n M) (Fi 64 F (Fi 65 (l.getD n M-F) (Fgo 68 (if 0 > l.getD n M-F then 0 else l.getD n M-F) (max (l.getD n M-F) 0) (Fl 70 wdv (ZK h F l c n) (Fgo 71 (if(↑(ZK h F l c n).length:Int)<max (l.getD n M-F) 0 then(↑(ZK h F l c n).length:Int)else max (l.getD n M-F) 0) (min (max (l.getD n M-F) 0) (↑(ZK h F l c n).length:Int)) (Fi 74 (l.getD n M-F+1) (Fgo 75 (if 0 > l.getD n M-F+1 then 0 else l.getD n M-F+1) (max (l.getD n M-F+1) 0) (Fl 77 wdv (ZK h F l c n) (Fgo 78 (if(↑(ZK h F l c n).length:Int)<max (l.getD n M-F+1) 0 then(↑(ZK h F l c n).length:Int)else max (l.getD n M-F+1) 0) (min (max (l.getD n M-F+1) 0) (↑(ZK h F l c n).length:Int)) (Fa (by(simp only[Lp];omega):0<=min (max (l.getD n M-F) 0) (↑(ZK h F l c n).length:Int)/\min (max (l.getD n M-F) 0) (↑(ZK h F l c n).length:Int)<=min (max (l.getD n M-F+1) 0) (↑(ZK h F l c n).length:Int)/\min (max (l.getD n M-F+1) 0) (↑(ZK h F l c n).length:Int)<=(↑(La wdv (ZK h F l c n)).length:Int)) (Fa (by simp only[C5,Lu,LC,LB,LV,Lt];rfl:C5 (La wdv (ZK h F l c n)) (min (max (l.getD n M-F) 0) (↑(ZK h F l c n).length:Int)).toNat (Lh ((min (max (l.getD n M-F+1) 0) (↑(ZK h F l c n).length:Int)).toNat-(min (max (l.getD n M-F) 0) (↑(ZK h F l c n).length:Int)).toNat) [ZY 0])=La wdv (Lk (min (max (l.getD n M-F) 0) (↑(ZK h F l c n).length:Int)).toNat (ZK h F l c n)++Lh ((min (max (l.getD n M-F+1) 0) (↑(ZK h F l c n).length:Int)).toNat-(min (max (l.getD n M-F) 0) (↑(ZK h F l c n).length:Int)).toNat) 0++Lj ((min (max (l.getD n M-F) 0) (↑(ZK h F l c n).length:Int)).toNat+(Lh ((min (max (l.getD n M-F+1) 0) (↑(ZK h F l c n).length:Int)).toNat-(min (max (l.getD n M-F) 0) (↑(ZK h F l c n).length:Int)).toNat) (0:Int)).length) (ZK h F l c n))) (Fx 80 n (Fr (35:Int) (Fa (by refine congrArg _ ?_;rw[a];simp only[R5,G6,Lt]:La wdv (Lk (min (max (l.getD n M-F) 0) (↑(ZK h F l c n).length:Int)).toNat (ZK h F l c n)++Lh ((min (max (l.getD n M-F+1) 0) (↑(ZK h F l c n).length:Int)).toNat-(min (max (l.getD n M-F) 0) (↑(ZK h F l c n).length:Int)).toNat) 0++Lj ((min (max (l.getD n M-F) 0) (↑(ZK h F l c n).length:Int)).toNat+(Lh ((min (max (l.getD n M-F+1) 0) (↑(ZK h F l c n).length:Int)).toNat-(min (max (l.getD n M-F) 0) (↑(ZK h F l c n).length:Int)).toNat) (0:Int)).length) (ZK h F l c n))=La wdv (ZK h F l c (n+1))) Fz))))))))))))))))))));have b:Gs h (l.getD n M)=Z5 (Z9 h (l.getD n M)).1:=if_neg d;have a:ZK h F l c (n+1)=R5 (ZK h F l c n) (l.getD n M-F) (Z5 (Z9 h (l.getD n M)).1):=by rw[ZK,b]
 exact sF [] (fO 8) (Fh 20000 [.els (La wdv (Lk (min (max (l.getD n M-F) 0) (↑(ZK h F l c n).length:Int)).toNat (ZK h F l c n)++Lh ((min (max (l.getD n M-F+Z5 (Z9 h (l.getD n M)).1) 0) (↑(ZK h F l c n).length:Int)).toNat-(min (max (l.getD n M-F) 0) (↑(ZK h F l c n).length:Int)).toNat) 0++Lj ((min (max (l.getD n M-F) 0) (↑(ZK h F l c n).length:Int)).toNat+(Lh ((min (max (l.getD n M-F+Z5 (Z9 h (l.getD n M)).1) 0) (↑(ZK h F l c n).length:Int)).toNat-(min (max (l.getD n M-F) 0) (↑(ZK h F l c n).length:Int)).toNat) (0:Int)).length) (ZK h F l c n)))] (Ftb 47 (Lb ((n:Int)<(l.length:Int))) (Fek 48 wdv l (↑n) n (Fc 53 (@Nf h (l.getD n M) aa oq) (Ftb 58 ((Z9 h (l.getD n M)).1.K != 0) (Fc 60 (@EK ((Z9 h (l.getD n M)).1) aa) (Fi 62 (l.getD n M) (Fi 64 F (Fi 65 (l.getD n M-F) (Fgo 68 (if 0 > l.getD n M-F then 0 else l.getD n M-F) (max (l.getD n M-F) 0) (Fl 70 wdv (ZK h F l c n) (Fgo 71 (if(↑(ZK h F l c n).length:Int)<max (l.getD n M-F) 0 then(↑(ZK h F l c n).length:Int)else max (l.getD n M-F) 0) (min (max (l.getD n M-F) 0) (↑(ZK h F l c n).length:Int)) (Fi 74 (l.getD n M-F+Z5 (Z9 h (l.getD n M)).1) (Fgo 75 (if 0 > l.getD n M-F+Z5 (Z9 h (l.getD n M)).1 then 0 else l.getD n M-F+Z5 (Z9 h (l.getD n M)).1) (max (l.getD n M-F+Z5 (Z9 h (l.getD n M)).1) 0) (Fl 77 wdv (ZK h F l c n) (Fgo 78 (if(↑(ZK h F l c n).length:Int)<max (l.getD n M-F+Z5 (Z9 h (l.getD n M)).1) 0 then(↑(ZK h F l c n).length:Int)else max (l.getD n M-F+Z5 (Z9 h (l.getD n M)).1) 0) (min (max (l.getD n M-F+Z5 (Z9 h (l.getD n M)).1) 0) (↑(ZK h F l c n).length:Int)) (Fa (by(simp only[Lp];omega):0<=min (max (l.getD n M-F) 0) (↑(ZK h F l c n).length:Int)/\min (max (l.getD n M-F) 0) (↑(ZK h F l c n).length:Int)<=min (max (l.getD n M-F+Z5 (Z9 h (l.getD n M)).1) 0) (↑(ZK h F l c n).length:Int)/\min (max (l.getD n M-F+Z5 (Z9 h (l.getD n M)).1) 0) (↑(ZK h F l c n).length:Int)<=(↑(La wdv (ZK h F l c n)).length:Int)) (Fa (by simp only[C5,Lu,LC,LB,LV,Lt];rfl:C5 (La wdv (ZK h F l c n)) (min (max (l.getD n M-F) 0) (↑(ZK h F l c n).length:Int)).toNat (Lh ((min (max (l.getD n M-F+Z5 (Z9 h (l.getD n M)).1) 0) (↑(ZK h F l c n).length:Int)).toNat-(min (max (l.getD n M-F) 0) (↑(ZK h F l c n).length:Int)).toNat) [ZY 0])=La wdv (Lk (min (max (l.getD n M-F) 0) (↑(ZK h F l c n).length:Int)).toNat (ZK h F l c n)++Lh ((min (max (l.getD n M-F+Z5 (Z9 h (l.getD n M)).1) 0) (↑(ZK h F l c n).length:Int)).toNat-(min (max (l.getD n M-F) 0) (↑(ZK h F l c n).length:Int)).toNat) 0++Lj ((min (max (l.getD n M-F) 0) (↑(ZK h F l c n).length:Int)).toNat+(Lh ((min (max (l.getD n M-F+Z5 (Z9 h (l.getD n M)).1) 0) (↑(ZK h F l c n).length:Int)).toNat-(min (max (l.getD n M-F) 0) (↑(ZK h F l c n).length:Int)).toNat) (0:Int)).length) (ZK h F l c n))) (Fx 80 n (Fr (35:Int) (Fa (by refine congrArg _ ?_;rw[a];simp only[R5,G6,Lt]:La wdv (Lk (min (max (l.getD n M-F) 0) (↑(ZK h F l c n).length:Int)).toNat (ZK h F l c n)++Lh ((min (max (l.getD n M-F+Z5 (Z9 h (l.getD n M)).1) 0) (↑(ZK h F l c n).length:Int)).toNat-(min (max (l.getD n M-F) 0) (↑(ZK h F l c n).length:Int)).toNat) 0++Lj ((min (max (l.getD n M-F) 0) (↑(ZK h F l c n).length:Int)).toNat+(Lh ((min (max (l.getD n M-F+Z5 (Z9 h (l.getD n M)).1) 0) (↑(ZK h F l c n).length:Int)).toNat-(min (max (l.getD n M-F) 0) (↑(ZK h F l c n).length:Int)).toNat) (0:Int)).length) (ZK h F l c n))=La wdv (ZK h F l c (n+1))) Fz)))))))))))))))))))))
def Zg8(h:Heap) F l c:CP (Zm f229 0) (adL h F l c l.length).st (.ext 0) (Tg.st ⟨tm 90 [(4,u64 0),(5,bool Lc),(6,u64 F),(8,.ow 25033)],[(25033,.arr 35 1 ((ZK h F l c l.length).map wdv))],60⟩):=by exact sF [] [] (Ffb 47 (Lb ((l.length:Int)<(l.length:Int))) Fz)
def Zbs(h:Heap)(F:Int)(l c:List Int)(e:Zx h.W)(a:0<=F/\F<=8192)(hl:l.length<=1048576)(b:c.length<=64)(hr:∀x∈l,0<=x/\x<=8192):CP (Zj f229 0) (Tg.st ⟨tm 90 [(2,.pt 8002 0 0),(4,u64 0),(5,bool Lc),(6,u64 F),(8,.ow 25033),(44,Z3 l),(45,int l.length),(46,int 0)],[(25033,.arr 35 1 (c.map wdv)),(8002,.box 28 h.cells)],60⟩) .nrm (Tg.st ⟨tm 90 [(4,u64 0),(5,bool Lc),(6,u64 F),(8,.ow 25033)],[(25033,.arr 35 1 ((ZK h F l c l.length).map wdv))],60⟩):=
 Br (S:=λn=>(adL h F l c n).st) l.length kr (λn d=>Zkq h F l c n e a hl b hr d) (Zg8 h F l c)
def R4(h:Heap)(i:Nat):List Int:=(h.W.drop ((address h.C i 0).1-4096).toNat).take h.C.pw.toNat
def BU(h:Heap)(i:Nat):List Int:=ZK h (address h.C i 0).1 (Zd h (ZV h.P i:Nat)).1 (R4 h i) (Zd h (ZV h.P i:Nat)).1.length
def O8(h:Heap)(i:Nat)(hw:Zx h.W)(d:Z8 h=O)(hi:i<h.P.length):GP 229 [h.av,int i] O (.tu [u64 ((address h.C i 0).1+max (C2 (BU h i)) 0),bool (Lb (0<=C2 (BU h i)))]) []:=by
 have e:=B1 d;have ea:(address h.C i 0).1=4096+i*h.C.pw:=by(unfold address;rw[if_pos e.1,if_pos (HH.2 oq)];simp only;omega)
 have ap:=HI e.1 (i:=i) oq oq;have hh:=Z2X h.P i;have hx:(i:Int)*h.C.pw+h.C.pw<=h.W.length:=by
  have h1:((i:Int)+1)*h.C.pw<=h.C.pg*h.C.pw:=LM oq oq;have h2:((i:Int)+1)*h.C.pw=i*h.C.pw+h.C.pw:=by rw[LI,LN]
  have h3:h.C.pg*h.C.pw=h.C.pw*h.C.pg:=LL _ _;omega
 have hr:=Af d (ZV h.P i:Nat);have hn:=Np h (ZV h.P i:Nat);have c:(BU h i).length<=64:=by(rw[BU,MX,R4,Lr];omega)
 have f:C2 (BU h i)<=64/\-1<=C2 (BU h i):=by(have:Gr (BU h i)<=(BU h i).length:=(List.takeWhile_sublist _).length_le;unfold C2;split<;>omega)
 have g:(R4 h i).length<=64:=by rw[R4,Lr];omega
 unfold BU R4 at *;let b:=address h.C (i:Int) 0;let a:=ZK h b.1 (Zd h (↑(ZV h.P i):Int)).1 (Lk h.C.pw.toNat (Lj (b.1-4096).toNat h.W)) (Zd h (↑(ZV h.P i):Int)).1.length;exact gF [] func229 [] (Fc 23 (@Mu h.C ((i:Int)) (0)) (Fc 33 (@Zd1 h.W (b.1) h.C.pw oq oq) (Fc 40 (@ZeH h i aa aa) (Fc 41 (@Nw h ((↑(ZV h.P i):Int)) aa oq) (Fl 45 wdv (Zd h (↑(ZV h.P i):Int)).1 (Fu (@Zbs h (b.1) ((Zd h (↑(ZV h.P i):Int)).1) (Lk h.C.pw.toNat (Lj (b.1-4096).toNat h.W)) aa oq oq aa aa) (Fc 82 (@ZjO a oq) (Fgo 85 (if 0 > C2 a then 0 else C2 a) (max (C2 a) 0) (Fv 86 (max (C2 a) 0) (Fv 87 (b.1+max (C2 a) 0) Fz))))))))))
def unS(fn:Func):Func:=match fn.body with|some (.seq x (.scope c)) => {fn with body:=Le (.seq x c)}|_=>fn
def Z94(fn:Func):Code:=match fn.body with|some (.seq x _)=>x|_=>.skip
def Z9a(fn:Func):Code:=match fn.body with|some (.seq _ c)=>c|_=>.skip
def ZgN{P c}{n m:Nat}{s t}(f:m≠n)(h:CSpec P c s (.ext m) t):CSpec P (.block n c) s (.ext m) t:=by intro g b j a w i;refine wp_block (wp_mono (h g b j a w i) ?_);rintro e a' w' ⟨rfl,d⟩;show(if m=n then _ else _);rw[if_neg f];exact⟨rfl,d⟩
def Zhb{P fn}{b m:Nat}{S:Nat->St}{t}(n:Nat)(a:Rq b (Zj fn b)=O)(c:m≠b)(h:∀i,i<n->CSpec P (Zm fn b) (S i) .nrm (S (i+1)))(d:CSpec P (Zm fn b) (S n) (.ext m) t):CSpec P (Zj fn b) (S 0) (.ext m) t:=by rw[OB a];exact ZgN c (Z2Q (Z1y n h (λh=>nomatch h) d))
def fdV(h:Heap)(a k:Int):Int:=(Z1 h.W (a+1+k)).1
def Nu(h:Heap)(b:List Int)(a k:Int):Bool:=(fdV h a k != 0)&&!decide (fdV h a k∈b)
def ZeC{h b}{a k:Int}:Nu h b a k=O↔¬ fdV h a k=0/\¬ fdV h a k∈b:=by simp[Nu]
def ZjQ{h b}{a k:Int}:Nu h b a k=Lc↔fdV h a k=0\/fdV h a k∈b:=by by_cases c:fdV h a k=0<;>by_cases d:fdV h a k∈b<;>simp[Nu,c,d]
def yJ(a:Int)(P:List Int):Nat->Int|0=>0|j+1=>a+1+P.getD j M
def apI(h:Heap)(b:List Int)(i:Nat)(a:Int)(P:List Int)(j:Nat):Tg:=⟨tm 83 [(1,.pt 8001 0 0),(2,.pt 8002 0 0),(3,Z3 b),(5,u64 (yJ a P j)),(7,u64 a),(24,Z3 b),(25,int b.length),(26,int i),(37,ZE P),(38,int P.length),(39,int j)],[(8002,.box 223 [int 0,int 0,u64 0]),(8001,.box 28 h.cells)],64⟩
section
variable (h:Heap) (b:List Int) (i:Nat) (a:Int) (P:List Int) (j:Nat) (hw:Zx h.W) (c:h.W.length<=1048576) (hl:b.length<=1048576) (hs:b.Pairwise (· < ·)) (ha:0<=a/\a<=8192) (hP:P.length<=256) (hk:0<=P.getD j M/\P.getD j M<=256) (hj:j<P.length)
include hw c hl hs ha hP hk hj
theorem Z4G(e:Nu h b a (P.getD j M)=Lc):CP (Zm (unS f207) 2) (apI h b i a P j).st .nrm (apI h b i a P (j+1)).st:=by have f:yJ a P (j+1)=a+1+P.getD j M:=rfl;have d:=ZjQ.1 e;unfold fdV at d;clear e;generalize g:yJ a P (j+1)=y1 at f;unfold apI;rw[g];rcases d with e|e;exact sF [] (fO 5) (Ftb 40 (Lb ((j:Int)<(P.length:Int))) (Fek 41 idv P (↑j) j (Fv 44 (a+1) (Fv 46 (P.getD j M) (Fv 47 (a+1+P.getD j M) (Fc 52 (@Pp h.W (a+1+P.getD j M) aa oq) (Fc 58 (@bsearch b ((Z1 h.W (a+1+P.getD j M)).1) aa aa) (Ffb 66 ((Z1 h.W (a+1+P.getD j M)).1 != 0&&!decide ((Z1 h.W (a+1+P.getD j M)).1∈b)) (Fx 67 j (Fa ‹a+1+P.getD j M=y1› Fz))))))))));exact sF [] (fO 5) (Ftb 40 (Lb ((j:Int)<(P.length:Int))) (Fek 41 idv P (↑j) j (Fv 44 (a+1) (Fv 46 (P.getD j M) (Fv 47 (a+1+P.getD j M) (Fc 52 (@Pp h.W (a+1+P.getD j M) aa oq) (Fc 58 (@bsearch b ((Z1 h.W (a+1+P.getD j M)).1) aa aa) (Ffs 66 ((Z1 h.W (a+1+P.getD j M)).1 != 0&&!decide ((Z1 h.W (a+1+P.getD j M)).1∈b)) (Fx 67 j (Fa ‹a+1+P.getD j M=y1› Fz))))))))))
theorem Zad(f:Nu h b a (P.getD j M)=O):CP (Zm (unS f207) 2) (apI h b i a P j).st (.ext 0) (Tg.st ⟨tm 83 [(1,.pt 8001 0 0),(2,.pt 8002 0 0),(5,u64 (a+1+P.getD j M))],[(8002,.box 223 [int 0,int 0,u64 0]),(8001,.box 28 h.cells)],68⟩):=by obtain⟨d,e⟩:=ZeC.1 f;unfold fdV at d e;clear f;exact sF [] [] (Ftb 40 (Lb ((j:Int)<(P.length:Int))) (Fek 41 idv P (↑j) j (Fv 44 (a+1) (Fv 46 (P.getD j M) (Fv 47 (a+1+P.getD j M) (Fc 52 (@Pp h.W (a+1+P.getD j M) aa oq) (Fc 58 (@bsearch b ((Z1 h.W (a+1+P.getD j M)).1) aa aa) (Fts 66 ((Z1 h.W (a+1+P.getD j M)).1 != 0&&!decide ((Z1 h.W (a+1+P.getD j M)).1∈b)) Fz))))))))
end
def ZfQ(h:Heap) b i a P:CP (Zm (unS f207) 2) (apI h b i a P P.length).st (.ext 2) (Tg.st ⟨tm 83 [(1,.pt 8001 0 0),(2,.pt 8002 0 0),(3,Z3 b),(24,Z3 b),(25,int b.length),(26,int i)],[(8002,.box 223 [int 0,int 0,u64 0]),(8001,.box 28 h.cells)],68⟩):=by exact sF [] [] (Ffb 40 (Lb ((P.length:Int)<(P.length:Int))) Fz)
def ZjB(h:Heap)(b:List Int)(i:Nat)(a:Int)(P:List Int)(m:Zx h.W)(d:h.W.length<=1048576)(hl:b.length<=1048576)(hs:b.Pairwise (· < ·))(f:0<=a/\a<=8192)(e:P.length<=256)(l:∀k∈P,0<=k/\k<=256)(g:P.find? (Nu h b a)=Lf) :CP (Zj (unS f207) 2) (Tg.st ⟨tm 83 [(1,.pt 8001 0 0),(2,.pt 8002 0 0),(3,Z3 b),(5,u64 0),(7,u64 a),(24,Z3 b),(25,int b.length),(26,int i),(37,ZE P),(38,int P.length),(39,int 0)],[(8002,.box 223 [int 0,int 0,u64 0]),(8001,.box 28 h.cells)],64⟩) .nrm (Tg.st ⟨tm 83 [(1,.pt 8001 0 0),(2,.pt 8002 0 0),(3,Z3 b),(24,Z3 b),(25,int b.length),(26,int i)],[(8002,.box 223 [int 0,int 0,u64 0]),(8001,.box 28 h.cells)],68⟩):=
 Br (S:=λj=>(apI h b i a P j).st) P.length kr (λj c=>Z4G h b i a P j m d hl hs f e (l _ (Bm.2 ⟨j,c,rfl⟩)) c (Z02 g j c)) (ZfQ h b i a P)
def Zen(h:Heap)(b:List Int)(i:Nat)(a:Int)(P:List Int)(x:Int)(l:Zx h.W)(c:h.W.length<=1048576)(hl:b.length<=1048576)(hs:b.Pairwise (· < ·))(f:0<=a/\a<=8192)(e:P.length<=256)(g:∀k∈P,0<=k/\k<=256)(q:P.find? (Nu h b a)=Le x) :CP (Zj (unS f207) 2) (Tg.st ⟨tm 83 [(1,.pt 8001 0 0),(2,.pt 8002 0 0),(3,Z3 b),(5,u64 0),(7,u64 a),(24,Z3 b),(25,int b.length),(26,int i),(37,ZE P),(38,int P.length),(39,int 0)],[(8002,.box 223 [int 0,int 0,u64 0]),(8001,.box 28 h.cells)],64⟩) (.ext 0) (Tg.st ⟨tm 83 [(1,.pt 8001 0 0),(2,.pt 8002 0 0),(5,u64 (a+1+x))],[(8002,.box 223 [int 0,int 0,u64 0]),(8001,.box 28 h.cells)],68⟩):=by
 obtain⟨n,d,m,o,p⟩:=SS q;subst m;exact Zhb (S:=λj=>(apI h b i a P j).st) n kr dd (λj r=>Z4G h b i a P j l c hl hs f e (g _ (Bm.2 ⟨j,by omega,rfl⟩)) oq (p j r)) (Zad h b i a P n l c hl hs f e (g _ (Bm.2 ⟨n,d,rfl⟩)) d o)
def apF(h:Heap)(b:List Int)(a:Int):Option Int:=(ZC (Z9 h a).1).find? (Nu h b a)
def apL(h:Heap)(a:List Int)(i:Nat):Tg:=⟨tm 83 [(1,.pt 8001 0 0),(2,.pt 8002 0 0),(3,Z3 a),(5,u64 0),(24,Z3 a),(25,int a.length),(26,int i)],[(8002,.box 223 [int 0,int 0,u64 0]),(8001,.box 28 h.cells)],60⟩
def Z2A(h:Zy):∀n:Nat,∀k∈C1 h n,0<=k/\k<n
 |0,k,hk=>by simp[C1]at hk
 |n+1,k,hk=>by
  unfold C1 at hk;split at hk
  .rcases List.mem_append.1 hk with hk|hk
   .have:=Z2A h n k hk;omega
   .simp only[List.mem_cons,List.not_mem_nil,or_false]at hk;omega
  .have:=Z2A h n k hk;omega
def Z0V(h:Zy):(ZC h).length<=256/\∀k∈ZC h,0<=k/\k<=256:=by
 rw[<-Z7u];have hs:=HY h;have h1:=TG h (Z5 h).toNat
 exact⟨by omega,λk a=>by have:=Z2A h _ k a;omega⟩
section
variable (h:Heap) (a:List Int) (i:Nat) (c:Zx h.W) (d:h.W.length<=1048576) (hl:a.length<=1048576) (hs:a.Pairwise (· < ·)) (hr:∀x∈a,0<=x/\x<=8192) (b:i<a.length)
include c d hl hs hr b
theorem Z5T(j:apF h a (a.getD i M)=Lf):CP (Zm (unS f207) 0) (apL h a i).st .nrm (apL h a (i+1)).st:=by have hx:=hr (a.getD i M) (Bm.2 ⟨i,b,rfl⟩);have hm:=Ir c (a.getD i M);have g:=Z0V (Z9 h (a.getD i M)).1;have k:=g.1;have l:=g.2;unfold apF at j;let e:=a.getD i M;let f:=ZC (Z9 h e).1;exact sF [] [] (Fk (2,Tg.mk (tm 83 [(1,AV.pt 8001 0 0),(2,AV.pt 8002 0 0),(3,Z3 a),(5,u64 0),(7,u64 e),(24,Z3 a),(25,int ↑a.length),(26,int ↑i),(37,ZE f),(38,int (f.length:Int)),(39,int 0)]) [(8002,Z4.box 223 [int 0,int 0,u64 0]),(8001,Z4.box 28 h.cells)] 64,Ex.nrm,Tg.mk (tm 83 [(1,AV.pt 8001 0 0),(2,AV.pt 8002 0 0),(3,Z3 a),(24,Z3 a),(25,int ↑a.length),(26,int ↑i)]) [(8002,Z4.box 223 [int 0,int 0,u64 0]),(8001,Z4.box 28 h.cells)] 68) (Ftb 27 (Lb ((i:Int)<(a.length:Int))) (Fek 28 wdv a (↑i) i (Fc 33 (@Nf h e aa oq) (Fc 37 (@Z1H ((Z9 h e).1) aa) (Fl 38 idv f (Fa (@ZjB h a i e f aa aa aa aa aa aa aa aa) (Fx 68 i Fz))))))))
theorem ZcB x(j:apF h a (a.getD i M)=Le x):CP (Zm (unS f207) 0) (apL h a i).st (.ext 0) (Tg.st ⟨tm 83 [(1,.pt 8001 0 0),(2,.pt 8002 0 0),(5,u64 (a.getD i M+1+x))],[(8002,.box 223 [int 0,int 0,u64 0]),(8001,.box 28 h.cells)],72⟩):=by have hx:=hr (a.getD i M) (Bm.2 ⟨i,b,rfl⟩);have hm:=Ir c (a.getD i M);have g:=Z0V (Z9 h (a.getD i M)).1;have k:=g.1;have l:=g.2;unfold apF at j;let e:=a.getD i M;let f:=ZC (Z9 h e).1;exact sF [] [] (Fk (2,Tg.mk (tm 83 [(1,AV.pt 8001 0 0),(2,AV.pt 8002 0 0),(3,Z3 a),(5,u64 0),(7,u64 e),(24,Z3 a),(25,int ↑a.length),(26,int ↑i),(37,ZE f),(38,int (f.length:Int)),(39,int 0)]) [(8002,Z4.box 223 [int 0,int 0,u64 0]),(8001,Z4.box 28 h.cells)] 64,Ex.ext 0,Tg.mk (tm 83 [(1,AV.pt 8001 0 0),(2,AV.pt 8002 0 0),(5,u64 (a.getD i M+1+x))]) [(8002,Z4.box 223 [int 0,int 0,u64 0]),(8001,Z4.box 28 h.cells)] 68) (Ftb 27 (Lb ((i:Int)<(a.length:Int))) (Fek 28 wdv a (↑i) i (Fc 33 (@Nf h e aa oq) (Fc 37 (@Z1H ((Z9 h e).1) aa) (Fl 38 idv f (Fa (@Zen h a i e f x aa aa aa aa aa aa aa aa) Fz)))))))
end
def Zh9(h:Heap) a:CP (Zm (unS f207) 0) (apL h a a.length).st (.ext 0) (Tg.st ⟨tm 83 [(1,.pt 8001 0 0),(2,.pt 8002 0 0),(5,u64 0)],[(8002,.box 223 [int 0,int 0,u64 0]),(8001,.box 28 h.cells)],72⟩):=by exact sF [] [] (Ffb 27 (Lb ((a.length:Int)<(a.length:Int))) Fz)
def ZjA(h:Heap)(b:List Int)(f:Zx h.W)(c:h.W.length<=1048576)(hl:b.length<=1048576)(hs:b.Pairwise (· < ·))(hr:∀x∈b,0<=x/\x<=8192)(e:b.find? (λa=>(apF h b a).isSome)=Lf)  := Br (S:=λi=>(apL h b i).st) b.length (by kernel_rfl) (λi d=>Z5T h b i f c hl hs hr d (by simpa using Z02 e i d)) (Zh9 h b)
def Ziq(h:Heap)(b:List Int)(a x:Int)(d:Zx h.W)(c:h.W.length<=1048576)(hl:b.length<=1048576)(hs:b.Pairwise (· < ·))(hr:∀x∈b,0<=x/\x<=8192)(j:b.find? (λa=>(apF h b a).isSome)=Le a)(l:apF h b a=Le x):CP (Zj (unS f207) 0) (Tg.st ⟨tm 83 [(1,.pt 8001 0 0),(2,.pt 8002 0 0),(3,Z3 b),(5,u64 0),(24,Z3 b),(25,int b.length),(26,int 0)],[(8002,.box 223 [int 0,int 0,u64 0]),(8001,.box 28 h.cells)],60⟩) .nrm (Tg.st ⟨tm 83 [(1,.pt 8001 0 0),(2,.pt 8002 0 0),(5,u64 (a+1+x))],[(8002,.box 223 [int 0,int 0,u64 0]),(8001,.box 28 h.cells)],72⟩):=by obtain⟨n,e,f,h3,g⟩:=SS j;subst f;exact Br (S:=λi=>(apL h b i).st) n kr (λi k=>Z5T h b i d c hl hs hr oq (by simpa using g i k)) (ZcB h b n d c hl hs hr e x l)
def ZhC(h:Heap):CP (Z94 (unS f207)) (Tg.st ⟨tm 83 [(0,h.av)],[],1⟩) .nrm (Tg.st ⟨tm 83 [(1,.pt 8001 0 0),(2,.pt 8002 0 0)],[(8002,.box 223 [int 0,int 0,u64 0]),(8001,.box 28 h.cells)],20⟩):=by exact sF [] [] Fz
def Sb(h:Heap):Int:=match (Zr h).1.find? (λa=>(apF h (Zr h).1 a).isSome)with|some a=>a+1+(apF h (Zr h).1 a).getD 0|none=>0
def CC(h:Heap):Ce:=if Sb h=0 then⟨0,0,0⟩else⟨6,(Z2 h.C (Sb h)).1,Sb h⟩
def Zhz(h:Heap)(hw:Zx h.W)(i:h.W.length<=1048576):CP (Z9a (unS f207)) (Tg.st ⟨tm 83 [(1,.pt 8001 0 0),(2,.pt 8002 0 0)],[(8002,.box 223 [int 0,int 0,u64 0]),(8001,.box 28 h.cells)],20⟩) .ret (Tg.st ⟨tm 83 [(2,.pt 8002 0 0)],[(8002,.box 223 [int (CC h).fault,int (CC h).page,u64 (CC h).addr])],90⟩):=by
 have hl:=Rx h;have hs:=Z3R h;have hr:=De h;cases hf:(Zr h).1.find? (λa=>(apF h (Zr h).1 a).isSome)with
 |none =>
  have b:Sb h=0:=by simp only[Sb,hf]
  have c:CC h=⟨0,0,0⟩:=if_pos b;rw[c];exact sF [] [] (Fk (0,Tg.mk (tm 83 [(1,AV.pt 8001 0 0),(2,AV.pt 8002 0 0),(3,Z3 (Zr h).1),(5,u64 0),(24,Z3 (Zr h).1),(25,int (↑(Zr h).1.length:Int)),(26,int 0)]) [(8002,Z4.box 223 [int 0,int 0,u64 0]),(8001,Z4.box 28 h.cells)] 60,Ex.nrm,Tg.mk (tm 83 [(1,AV.pt 8001 0 0),(2,AV.pt 8002 0 0),(5,u64 0)]) [(8002,Z4.box 223 [int 0,int 0,u64 0]),(8001,Z4.box 28 h.cells)] 72) (Fc 21 (@PU h aa) (Fl 25 wdv (Zr h).1 (Fa (@ZjA h ((Zr h).1) aa aa oq aa aa aa) Fz))))
 |some a =>
  obtain⟨n,e,f,g,h4⟩:=SS hf;obtain⟨x,d⟩:=L2.1 g;have ha:=hr a (Bm.2 ⟨n,e,f⟩);have j:=(Z0V (Z9 h a).1).2 x (LY d);have b:Sb h=a+1+x:=by simp only[Sb,hf,d,LD]
  have c:CC h=⟨6,(Z2 h.C (a+1+x)).1,a+1+x⟩:=by rw[CC,b,if_neg oq]
  rw[c];exact sF [] [] (Fk (0,Tg.mk (tm 83 [(1,AV.pt 8001 0 0),(2,AV.pt 8002 0 0),(3,Z3 (Zr h).1),(5,u64 0),(24,Z3 (Zr h).1),(25,int (↑(Zr h).1.length:Int)),(26,int 0)]) [(8002,Z4.box 223 [int 0,int 0,u64 0]),(8001,Z4.box 28 h.cells)] 60,Ex.nrm,Tg.mk (tm 83 [(1,AV.pt 8001 0 0),(2,AV.pt 8002 0 0),(5,u64 (a+1+x))]) [(8002,Z4.box 223 [int 0,int 0,u64 0]),(8001,Z4.box 28 h.cells)] 72) (Fc 21 (@PU h aa) (Fl 25 wdv (Zr h).1 (Fa (@Ziq h ((Zr h).1) a x aa aa oq aa aa aa aa) (Ffb 70 (a+1+x==0) (Fc 76 (@Gh h.C (a+1+x) oq oq) Fz))))))
end Go.Proofs.YtgedmeaemofdkaaGreat
namespace Go.Proofs.YtgedmeaemofdkaaGreat
open Go.Sx Go.RowKit
def Ce.val(f:Ce):Value:=.agg #[.int .i64 f.fault,.int .i64 f.page,.int .u64 f.addr]
def Zjw ρ w Im(f:Ce):Zh ρ w Im f.av f.val:=by refine .ag _ _ rfl (λi v h=>?_) (λi a v b c=>?_);rcases i with _|_|_|i<;>simp at h<;>subst h<;>rfl;rcases i with _|_|_|i<;>simp at b c<;>subst b<;>subst c<;>exact .d (.sc _ rfl)
def Zil{ρ w Im}{f:Ce}{v}(h:Zh ρ w Im f.av v):v=f.val:=by obtain⟨b,c,d,h3,e⟩:=Hx h;rw[c];have g:∀(k:Nat) (a:k<b.size) (v:Value),[int f.fault,int f.page,u64 f.addr][k]?=Le (.d (.sc v))->b[k]=v:=λk a v j=>BZ (e k _ b[k] j (Array.getElem?_eq_getElem a));have i:b.size=3:=d;simp only[Ce.val];congr 1;apply Array.ext;simp[i];intro k a _;rcases k with _|_|_|k;exact g 0 a _ rfl;exact g 1 a _ rfl;exact g 2 a _ rfl;omega
def noGoto_ret{Q:Exit->Act->World->Prop}{a w}(h:Q .ret a w):Exit.noGoto Q Ex.ret.exit a w:=h
def Z1z(h:Heap)(hw:Zx h.W)(p:h.W.length<=1048576):GP 207 [h.av] O (CC h).av []:=by
 intro f t r j d a;have c:r.size=1:=d;have b:Tryz.f207.body=Le (.seq (Z94 (unS f207)) (.scope (Z9a (unS f207)))):=by kernel_rfl
 refine calls_of_wp func207 b ?_;have w:Sx.Sys G5 t f (tm 83 [(0,h.av)]) (BV []) 1 {tmps:=r++Lw (Tryz.f207.ntmps-r.size) undef,defers:=[]} f:=by(refine⟨_,t,Sx.Inv.empty j (Lv 1),⟨by rw[c];simp[c];kernel_rfl,λk y v g m=>?_,rfl⟩⟩;rw[show tm 83 [(0,h.av)]=[h.av]++Lh 82 .any from by kernel_rfl,LR]at g;rw[LF]at m;split at g;rename_i z;rw[if_pos (by rw[d];exact z)]at m;exact a k y v g m;have:=LZ g;rw[(L0.1 this).2];exact .any _)
 refine wp_seq (wp_mono (ZhC h _ _ _ _ _ w) ?_);rintro e a1 w1 ⟨rfl,x⟩;refine wp_scope_straight (wp_mono (Zhz h hw p _ _ _ _ _ x) ?_);rintro e a2 w2 ⟨rfl,ρ2,i,s,u⟩;obtain⟨v,n,o⟩:=Z3m (P:=prog) (fn:=f207) (l:=[(CC h).av]) s u kr;refine noGoto_ret (bodyPost_ret n u.defers ⟨v,rfl,s.kept.no,λ_=>Lf,λ_=>False,λ_ q=>q.elim,λ_ q=>q.elim,λ_ _ _ q=>(by cases q),λ_ _ _ _ _ q=>(by cases q),λ_ _ q=>(by cases q),λk B q=>by simp at q, ?_⟩);rw[Zil (show Zh ρ2 w2 i (CC h).av v from o)];exact Zjw _ _ _ _
end Go.Proofs.YtgedmeaemofdkaaGreat
namespace Go.Proofs.YtgedmeaemofdkaaGreat
open Go.Sx
def ZkG{c:List Int}{x k:Int}(f:0<=k){o:Nat}(ho:o<c.length):(R5 c x k).getD o 0=if x<=o/\(o:Int)<x+k then 0 else c.getD o 0:=by
 have h1:G6 c x<=c.length:=Z07 c x;have h2:G6 c (x+k)<=c.length:=Z07 c (x+k);have h3:=Z6r c x f;have e:G6 c x+(G6 c (x+k)-G6 c x)=G6 c (x+k):=by omega
 have a1:o<G6 c x↔(o:Int)<x:=by unfold G6;omega
 have a:o<G6 c (x+k)↔(o:Int)<x+k:=by unfold G6;omega
 unfold R5;rw[e];simp only[Lo];by_cases b:o<G6 c x;rw[List.append_assoc,LS qo,Lz,if_pos b,if_neg (by have:=a1.1 b;omega)];by_cases d:o<G6 c (x+k);rw[LS qo,LU qo,if_pos (by have:=a.1 d;omega)];rw[List.getElem?_replicate,if_pos qo];rfl;rw[LU qo,Ly,if_neg (λq=>d (a.2 q.2))];congr 2;simp;omega
def Z8p{h F}{l c:List Int}{o:Nat}(e:o<c.length):∀n:Nat,n<=l.length->(ZK h F l c n).getD o 0=if(l.take n).any (λa=>Lb (a-F<=o)&&Lb ((o:Int)<a-F+Gs h a))=O then 0 else c.getD o 0
 |0,_=>by simp[ZK]
 |n+1,hn=>by
  have hl:=MX h F l c n;rw[ZK,ZkG (Z9s h _).1 oq,Z8p e n oq,MG oq,List.any_append];generalize l.getD n M=a;generalize (l.take n).any _=b;by_cases d:a-F<=o/\(o:Int)<a-F+Gs h a
  .rw[if_pos d,if_pos (by simp[d])]
  .rw[if_neg d];have:([a].any λa=>Lb (a-F<=(o:Int))&&Lb ((o:Int)<a-F+Gs h a))=Lc:=by
    simp only[List.any_cons,List.any_nil,LH,Bool.and_eq_false_iff,decide_eq_false_iff_not];omega
   rw[this,LH]
def OE{h:Heap}(a:Z8 h=O){i:Nat}(hi:i<h.P.length){o:Int}(ho:0<=o/\o<h.C.pw):(address h.C i o).1=4096+(i*h.C.pw+o):=by have b:=B1 a;unfold address;rw[if_pos b.1,if_pos (HH.2 oq)]
def Z1G{h:Heap}(a:Z8 h=O){i:Nat}(hi:i<h.P.length):0<=(i:Int)*h.C.pw/\(i:Int)*h.C.pw+h.C.pw<=h.W.length:=by
 have po:=B1 a;have h1:((i:Int)+1)*h.C.pw<=h.C.pg*h.C.pw:=LM oq oq;have h2:((i:Int)+1)*h.C.pw=i*h.C.pw+h.C.pw:=by rw[LI,LN]
 have h3:h.C.pg*h.C.pw=h.C.pw*h.C.pg:=LL _ _;have h4:(0:Int)<=i*h.C.pw:=Int.mul_nonneg oq oq;omega
def Zj9{h:Heap}(a:Z8 h=O){i:Nat}(b:i<h.P.length):(R4 h i).length=h.C.pw.toNat/\∀o:Nat,o<h.C.pw.toNat->(R4 h i).getD o 0=Gq h i o:=by have po:=B1 a;have pi:=Z1G a b;have c:=OE a b (o:=0) oq;constructor;simp only[R4,Lr,LA];omega;intro o e;have d:=OE a b (o:=o) oq;unfold Gq Z1;rw[d];rw[if_pos oq];simp only[R4,Lo,Lz,Ly,if_pos e];rw[c,show(4096+((i:Int)*h.C.pw+0)-4096).toNat+o=(4096+((i:Int)*h.C.pw+(o:Int))-4096).toNat from by omega]
def Z0X{h:Heap}(b:Z8 h=O){i:Nat}(c:i<h.P.length):(BU h i).length=h.C.pw.toNat/\∀o:Nat,o<h.C.pw.toNat->(BU h i).getD o 0=if(CG h i).getD o M=O then 0 else Gq h i o:=by
 have po:=B1 b;obtain⟨r1,r2⟩:=Zj9 b c;constructor;rw[BU,MX,r1];intro o d;rw[BU,Z8p oq _ (Lv _),List.take_length,r2 o d];have f:=OE b c (o:=0) oq;have e:(CG h i).getD o M=(Zd h (ZV h.P i:Nat)).1.any (λa=>Lb (a-(address h.C i 0).1<=(o:Int))&&Lb ((o:Int)<a-(address h.C i 0).1+Gs h a)):=by(unfold CG Ct;rw[Lo,List.getElem?_map,List.getElem?_range d];simp only[L3,LD];congr 1;funext a;unfold AS;rw[f,show a-(4096+((i:Int)*h.C.pw+0))=a-4096-i*h.C.pw from by omega])
 rw[e]
def Z7b{h:Heap}(hp:Z8 h=O){i:Nat}(hi:i<h.P.length)(e:Gr (BU h i)<(BU h i).length):El h i (CG h i)=4096+i*h.C.pw+Gr (BU h i):=by
 obtain⟨c1,c2⟩:=Z0X hp hi;have hu:=TK h i;have hf:(Lg (CG h i).length).find? (Hs h i (CG h i))=Le (Gr (BU h i)):=by
  rw[Lm];refine⟨?_,Li.2 oq,λj hj=>?_⟩
  .have h1:=Z4F e;rw[show(M:Int)=0 from rfl,c2 _ oq]at h1;split at h1
   .exact absurd rfl h1
   .rename_i h2;simp only[Hs,LG,Lx,decide_eq_true_eq];exact⟨by simpa using h2,h1⟩
  .have h1:=(Z09 hj).2;rw[show(M:Int)=0 from rfl,c2 _ oq]at h1;simp only[Hs,Bool.not_and,Bool.not_not,Bool.or_eq_true,Lx,decide_eq_false_iff_not];split at h1
   .rename_i h2;exact .inl h2
   .exact .inr (λq=>q h1)
 unfold El;rw[hf]
def ZaO{h:Heap}(hp:Z8 h=O){i:Nat}(hi:i<h.P.length)(e:¬ Gr (BU h i)<(BU h i).length):El h i (CG h i)=0:=by
 obtain⟨c1,c2⟩:=Z0X hp hi;have hu:=TK h i;have hf:(Lg (CG h i).length).find? (Hs h i (CG h i))=Lf:=by
  rw[Ll];intro j hj;have hj:=Li.1 hj;have h1:=(Z09 (l:=BU h i) (m:=j) oq).2;rw[show(M:Int)=0 from rfl,c2 _ oq]at h1;simp only[Hs,LG,Lx,decide_eq_true_eq,not_and];intro h2 h3;rw[if_neg (by rw[h2];simp)]at h1;exact h3 h1
 unfold El;rw[hf]
def Z2h{h:Heap}(a:Z8 h=O){i:Nat}(c:i<h.P.length):G1 h i (Zd h i).1=Lb (Cp h i (Zd h i).1≠0):=by
 unfold Cp G1;cases hf:(Zd h i).1.find? (Gg h i)with
 |none=>simp
 |some x =>
  have b:=LY hf;have e:=Z2F a (i:=i) oq;rw[e]at b;obtain⟨y,d,rfl⟩:=LW.1 b;have h1:=(Z0G y d).1;have h2:=(Z1G a c).1;have:y.addr≠0:=by omega
  simp[this]
def find_congr{α:Type}{p q:α->Bool}:∀{l:List α},(∀x∈l,p x=q x)->l.find? p=l.find? q
 |[],_=>rfl
 |a::l,h=>by
  rw[LQ,LQ,h a pq,find_congr (l:=l) (λx b=>h x (by simp[b]))]
def find_range{l:List Int}{p:Int->Bool}:match (Lg l.length).find? (λi=>p (l.getD i M))with|Lf=>l.find? p=Lf|Le i=>l.find? p=Le (l.getD i M):=by
 split;rename_i a;rw[Ll]at a⊢;intro x j;obtain⟨i,g,e⟩:=Bm.1 j;have:=a i (Li.2 g);rwa [e]at this;rename_i i a;obtain⟨c,b,f⟩:=Lm.1 a;have b:=Li.1 b;cases hf:l.find? p with
 |none =>have:=Ll.1 hf (l.getD i M) (Bm.2 ⟨i,b,rfl⟩);exact absurd c this
 |some x =>
  obtain⟨n,k1,d,k,m⟩:=SS hf;have h:n=i:=by(rcases Nat.lt_trichotomy n i with q|q|q;have:=f n q;rw[d,k]at this;cases this;exact q;have:=m i q;rw[c]at this;cases this)
  subst h;rw[d]
def MW{h}{a:Int}(b:a∈(Zr h).1):(Z9 h a).2=0/\(Z9 h a).1.K≠0:=by by_cases e:(Cx h).2=0;rw[Z8z h e]at b;obtain⟨x,i,rfl⟩:=LW.1 b;obtain⟨c,d⟩:=List.mem_filter.1 i;obtain⟨f,g⟩:=Z8v x c;refine⟨g, ?_⟩;rw[<-f];simpa[Ei]using d;rw[Z5c h e]at b;simp at b
def Z5H(hd:Zy):∀n:Nat,C1 hd n=((Lg n).filter (λk:Nat=>Bf hd k)).map (λk:Nat=>(k:Int))
 |0=>rfl
 |n+1=>by
  rw[C1,List.range_succ,List.filter_append,Lu,<-Z5H hd n];by_cases h:Bf hd (n:Int)=O
  .rw[if_pos h];simp[h]
  .rw[if_neg h];simp[h]
def Tl(h:Heap)(b:List Int)(a:Int):Option Nat:=(Lg (BR h a).1.length).find? (IE (Zo h a).1 (BR h a).1 b)
def Z9q{h a}(e:(Z9 h a).2=0)(b:(Z9 h a).1.K≠0) c:apF h c a=(Tl h c a).map (λk:Nat=>(k:Int)):=by
 have i1:=Z18 e;have m:=(M8 e).1;have d:Zo h a=Z9 h a:=by(unfold Zo;rw[if_pos m,if_neg oq,if_neg (λq=>b q.2)])
 have f:=Nt (h:=h) (a:=a) (by rw[d];exact e);rw[d]at f;have l:=f.2.2.2.2.2.2.1;have hl:=f.2.2.2.2.2.2.2.2.2;have g:(BR h a).1=(h.W.drop (a+1-4096).toNat).take (Z9 h a).1.length.toNat:=by(unfold BR;rw[d,if_pos e,BX,if_neg oq,if_pos oq])
 have j:(BR h a).1.length=(Z9 h a).1.length.toNat:=by(rw[g,Lr,LA];omega)
 have i:∀k:Nat,k<(Z9 h a).1.length.toNat->(BR h a).1.getD k M=fdV h a k:=by(intro k b;unfold fdV Z1;rw[if_pos oq,g];simp only[Lo,Lz,Ly,if_pos b];rw[show(a+1-4096).toNat+k=(a+1+(k:Int)-4096).toNat from by omega];rfl)
 unfold apF Tl ZC;rw[if_pos l,Z5H,List.find?_map,List.find?_filter,j,d];congr 1;refine find_congr λk b=>?_;have b:=Li.1 b;rw[IE,i k b];simp only[Function.comp,Nu];cases Bf (Z9 h a).1 (k:Int)<;>simp
def Z9O(h:Heap):CC h=ED h (Zr h).1:=by
 have hr:=find_range (l:=(Zr h).1) (p:=λa=>(Tl h (Zr h).1 a).isSome);have j:(Zr h).1.find? (λa=>(apF h (Zr h).1 a).isSome)=(Zr h).1.find? (λa=>(Tl h (Zr h).1 a).isSome):=find_congr λa f=>by(rw[Z9q (MW f).1 (MW f).2,Option.isSome_map])
 unfold CC Sb ED;rw[j];change match (Lg (Zr h).1.length).find? (λi=>(Hw h (Zr h).1 i).isSome)with|Lf=>_|Le i=>_ at hr
 split at hr;rename_i b;rw[hr,b];rfl;rename_i i b;have e:=(Lm.1 b);have d:(Zr h).1.getD i M∈(Zr h).1:=Bm.2 ⟨i,Li.1 e.2.1,rfl⟩;obtain⟨k,g⟩:=L2.1 e.1;have c:Tl h (Zr h).1 ((Zr h).1.getD i M)=Le k:=g;have i1:=Z18 (MW d).1;rw[hr,b];simp only[g,Z9q (MW d).1 (MW d).2,c,L3,LD];rw[if_neg oq]
def NT(h:Heap)(i:Nat):Tg:=⟨tm 64 [(1,.pt 8001 0 0),(2,.pt 8002 0 0),(12,ZX h.P),(13,int h.P.length),(14,int i)],[(8002,.box 223 [int 0,int 0,u64 0]),(8001,.box 28 h.cells)],60⟩
def Dk(f:Ce):Tg:=⟨tm 64 [(2,.pt 8002 0 0)],[(8002,.box 223 [int f.fault,int f.page,u64 f.addr])],64⟩
section
variable (h:Heap) (i:Nat) (c:Zx h.W) (a:Z8 h=O) (b:i<h.P.length)
include c a b
theorem ZhE(e:El h i (CG h i)=0):C2 (BU h i)=-1:=by by_cases d:Gr (BU h i)<(BU h i).length;have h1:=Z7b a b d;have h2:=(Z1G a b).1;omega;exact if_neg d
theorem Zel(e:¬ El h i (CG h i)=0):0<=C2 (BU h i)/\C2 (BU h i)<=64/\El h i (CG h i)=(address h.C i 0).1+C2 (BU h i):=by have po:=B1 a;by_cases d:Gr (BU h i)<(BU h i).length;have f:=Z7b a b d;have g:C2 (BU h i)=Gr (BU h i):=if_pos d;have j:=OE a b (o:=0) oq;have h4:=(Z0X a b).1;rw[f,g,j];omega;exact absurd (ZaO a b d) e
theorem Z4o(d:(h.P.getD i M).K=0\/(h.P.getD i M).S=h.S)(n2:(Zd h (i:Int)).2=0)(f:Cp h (i:Int) (Zd h (i:Int)).1=0)(g:El h i (CG h i)=0):CP (Zm f206 0) (NT h i).st .nrm (NT h (i+1)).st:=by have po:=B1 a;have hn:=Np h (i:Int);have hr:=Af a (i:Int);have e:=Z2h a b;rw[f]at e;have q4:=ZhE h i c a b g;simp only[ne_eq,not_true_eq_false,decide_false]at e;rcases d with d|d;exact sF [] [] (Fh 48 [.br Lc] (Fh 58 [.br Lc] (Ftb 15 (Lb ((i:Int)<(h.P.length:Int))) (Fek 17 Z0.dv h.P (↑i) i (Ffb 28 ((h.P.getD i M).K != 0&&(h.P.getD i M).S != h.S) (Fc 34 (@Nw h ((i:Int)) aa oq) (Ffb 38 ((Zd h (i:Int)).2 != 0) (Fc 45 (@DF h ((i:Int)) ((Zd h (i:Int)).1) aa oq oq oq aa) (Fa ‹G1 h (i:Int) (Zd h (i:Int)).1=Lc› (Fc 55 (@O8 h i aa aa aa) (Fb (Lb (0<=C2 (BU h i))=Lc) (Fx 62 i Fz))))))))))));exact sF [] [] (Fh 48 [.br Lc] (Fh 58 [.br Lc] (Ftb 15 (Lb ((i:Int)<(h.P.length:Int))) (Fek 17 Z0.dv h.P (↑i) i (Ffb 28 ((h.P.getD i M).K != 0&&(h.P.getD i M).S != h.S) (Fc 34 (@Nw h ((i:Int)) aa oq) (Ffb 38 ((Zd h (i:Int)).2 != 0) (Fc 45 (@DF h ((i:Int)) ((Zd h (i:Int)).1) aa oq oq oq aa) (Fa ‹G1 h (i:Int) (Zd h (i:Int)).1=Lc› (Fc 55 (@O8 h i aa aa aa) (Fb (Lb (0<=C2 (BU h i))=Lc) (Fx 62 i Fz))))))))))))
theorem ZdO(d:¬ (h.P.getD i M).K=0/\¬ (h.P.getD i M).S=h.S):CP (Zm f206 0) (NT h i).st .ret (Dk ⟨2,i,0⟩).st:=by have po:=B1 a;obtain⟨d,n2⟩:=d;exact sF [] [] (Ftb 15 (Lb ((i:Int)<(h.P.length:Int))) (Fek 17 Z0.dv h.P (↑i) i (Ftb 28 ((h.P.getD i M).K != 0&&(h.P.getD i M).S != h.S) Fz)))
theorem Zam(d:(h.P.getD i M).K=0\/(h.P.getD i M).S=h.S)(n2:¬ (Zd h (i:Int)).2=0):CP (Zm f206 0) (NT h i).st .ret (Dk ⟨3,i,0⟩).st:=by have po:=B1 a;rcases d with d|d;exact sF [] [] (Ftb 15 (Lb ((i:Int)<(h.P.length:Int))) (Fek 17 Z0.dv h.P (↑i) i (Ffb 28 ((h.P.getD i M).K != 0&&(h.P.getD i M).S != h.S) (Fc 34 (@Nw h ((i:Int)) aa oq) (Ftb 38 ((Zd h (i:Int)).2 != 0) Fz)))));exact sF [] [] (Ftb 15 (Lb ((i:Int)<(h.P.length:Int))) (Fek 17 Z0.dv h.P (↑i) i (Ffb 28 ((h.P.getD i M).K != 0&&(h.P.getD i M).S != h.S) (Fc 34 (@Nw h ((i:Int)) aa oq) (Ftb 38 ((Zd h (i:Int)).2 != 0) Fz)))))
theorem Z9D(d:(h.P.getD i M).K=0\/(h.P.getD i M).S=h.S)(n2:(Zd h (i:Int)).2=0)(e:¬ Cp h (i:Int) (Zd h (i:Int)).1=0):CP (Zm f206 0) (NT h i).st .ret (Dk ⟨5,i,Cp h (i:Int) (Zd h (i:Int)).1⟩).st:=by
 have po:=B1 a;have hn:=Np h (i:Int);have hr:=Af a (i:Int);have q3:G1 h i (Zd h i).1=O:=by rw[Z2h a b];simpa using e
 rcases d with d|d;exact sF [] [] (Fh 48 [.br O] (Ftb 15 (Lb ((i:Int)<(h.P.length:Int))) (Fek 17 Z0.dv h.P (↑i) i (Ffb 28 ((h.P.getD i M).K != 0&&(h.P.getD i M).S != h.S) (Fc 34 (@Nw h ((i:Int)) aa oq) (Ffb 38 ((Zd h (i:Int)).2 != 0) (Fc 45 (@DF h ((i:Int)) ((Zd h (i:Int)).1) aa oq oq oq aa) (Fa ‹G1 h (i:Int) (Zd h (i:Int)).1=O› Fz))))))));exact sF [] [] (Fh 48 [.br O] (Ftb 15 (Lb ((i:Int)<(h.P.length:Int))) (Fek 17 Z0.dv h.P (↑i) i (Ffb 28 ((h.P.getD i M).K != 0&&(h.P.getD i M).S != h.S) (Fc 34 (@Nw h ((i:Int)) aa oq) (Ffb 38 ((Zd h (i:Int)).2 != 0) (Fc 45 (@DF h ((i:Int)) ((Zd h (i:Int)).1) aa oq oq oq aa) (Fa ‹G1 h (i:Int) (Zd h (i:Int)).1=O› Fz))))))))
theorem ZcI(d:(h.P.getD i M).K=0\/(h.P.getD i M).S=h.S)(n2:(Zd h (i:Int)).2=0)(g:Cp h (i:Int) (Zd h (i:Int)).1=0)(j:¬ El h i (CG h i)=0):CP (Zm f206 0) (NT h i).st .ret (Dk ⟨4,i,El h i (CG h i)⟩).st:=by
 have po:=B1 a;have hn:=Np h (i:Int);have hr:=Af a (i:Int);have e:=Z2h a b;rw[g]at e;simp only[ne_eq,not_true_eq_false,decide_false]at e;obtain⟨q4,q5,k⟩:=Zel h i c a b j;have f:max (C2 (BU h i)) 0=C2 (BU h i):=by omega
 rw[k];rcases d with d|d;exact sF [] (fO 6) (Fh 48 [.br Lc] (Fh 58 [.br O] (Ftb 15 (Lb ((i:Int)<(h.P.length:Int))) (Fek 17 Z0.dv h.P (↑i) i (Ffb 28 ((h.P.getD i M).K != 0&&(h.P.getD i M).S != h.S) (Fc 34 (@Nw h ((i:Int)) aa oq) (Ffb 38 ((Zd h (i:Int)).2 != 0) (Fc 45 (@DF h ((i:Int)) ((Zd h (i:Int)).1) aa oq oq oq aa) (Fa ‹G1 h (i:Int) (Zd h (i:Int)).1=Lc› (Fc 55 (@O8 h i aa aa aa) (Fb (Lb (0<=C2 (BU h i))=O) (Fr (223:Int) (Fr (4:Int) (Fr (i:Int) (Fa (by rw[f]:(address h.C (i:Int) 0).1+max (C2 (BU h i)) 0=(Ce.mk 4 (i:Int) ((address h.C (i:Int) 0).1+C2 (BU h i))).addr) Fz)))))))))))))));exact sF [] (fO 6) (Fh 48 [.br Lc] (Fh 58 [.br O] (Ftb 15 (Lb ((i:Int)<(h.P.length:Int))) (Fek 17 Z0.dv h.P (↑i) i (Ffb 28 ((h.P.getD i M).K != 0&&(h.P.getD i M).S != h.S) (Fc 34 (@Nw h ((i:Int)) aa oq) (Ffb 38 ((Zd h (i:Int)).2 != 0) (Fc 45 (@DF h ((i:Int)) ((Zd h (i:Int)).1) aa oq oq oq aa) (Fa ‹G1 h (i:Int) (Zd h (i:Int)).1=Lc› (Fc 55 (@O8 h i aa aa aa) (Fb (Lb (0<=C2 (BU h i))=O) (Fr (223:Int) (Fr (4:Int) (Fr (i:Int) (Fa (by rw[f]:(address h.C (i:Int) 0).1+max (C2 (BU h i)) 0=(Ce.mk 4 (i:Int) ((address h.C (i:Int) 0).1+C2 (BU h i))).addr) Fz)))))))))))))))
end
def Z9C(h:Heap):CP (Zm f206 0) (NT h h.P.length).st (.ext 0) (Dk ⟨0,0,0⟩).st:=by exact sF [] [] (Ffb 15 (Lb ((h.P.length:Int)<(h.P.length:Int))) Fz)
def Cz(h:Heap):Ce:=match Gm h with|Le i=>pageF h i|Lf=>⟨0,0,0⟩
def Z4Q{h i}(e:(pageF h i).fault=0):((h.P.getD i M).K=0\/(h.P.getD i M).S=h.S)/\(Zd h (i:Int)).2=0/\Cp h (i:Int) (Zd h (i:Int)).1=0/\El h i (CG h i)=0:=by unfold pageF at e;split at e;simp at e;rename_i a;split at e;simp at e;rename_i b;split at e;simp at e;rename_i c;split at e;simp at e;rename_i d;refine⟨?_,Ln.1 b,Ln.1 c,Ln.1 d⟩;by_cases q:(h.P.getD i M).K=0;exact .inl q;refine .inr (Ln.1 λf=>a ⟨q,f⟩)
def ZaM(h:Heap)(i:Nat)(g:Zx h.W)(f:Z8 h=O)(d:i<h.P.length)(e:(pageF h i).fault≠0):CP (Zm f206 0) (NT h i).st .ret (Dk (pageF h i)).st:=by
 unfold pageF at e⊢;split;rename_i b;exact ZdO h i g f d b;rename_i b;have k:(h.P.getD i M).K=0\/(h.P.getD i M).S=h.S:=by(by_cases q:(h.P.getD i M).K=0;exact .inl q;exact .inr (Ln.1 λl=>b ⟨q,l⟩))
 split;rename_i a;exact Zam h i g f d k a;rename_i a;split;rename_i c;exact Z9D h i g f d k (Ln.1 a) c;rename_i c;split;rename_i j;exact ZcI h i g f d k (Ln.1 a) (Ln.1 c) j;rename_i j;rw[if_neg b,if_neg a,if_neg c,if_neg j]at e;exact absurd rfl e
def ZhA(h:Heap)(d:Zx h.W)(c:Z8 h=O)(b:Gm h=Lf):CP (Zj f206 0) (NT h 0).st .nrm (Tg.st ⟨tm 64 [(2,.pt 8002 0 0)],[(8002,.box 223 [int 0,int 0,u64 0])],64⟩):=by refine Br (S:=λk=>(NT h k).st) h.P.length kr (λk a=>?_) (Z9C h);have e:=Ll.1 b k (Li.2 a);obtain⟨f,g,j,l⟩:=Z4Q (h:=h) (i:=k) (by simpa using e);exact Z4o h k d c a f g j l
def Zcx(h:Heap) i(c:Zx h.W)(b:Z8 h=O)(g:Gm h=Le i):CP (Zj f206 0) (Tg.st ⟨tm 64 [(1,.pt 8001 0 0),(2,.pt 8002 0 0),(12,ZX h.P),(13,int h.P.length),(14,int 0)],[(8002,.box 223 [int 0,int 0,u64 0]),(8001,.box 28 h.cells)],60⟩) .ret (Tg.st ⟨tm 64 [(2,.pt 8002 0 0)],[(8002,.box 223 [int (pageF h i).fault,int (pageF h i).page,u64 (pageF h i).addr])],64⟩):=by obtain⟨d,a,f⟩:=Lm.1 g;have a:=Li.1 a;refine EY (S:=λk=>(NT h k).st) i kr (λk j=>?_) (ZaM h i c b a (by simpa using d));have e:=f k j;obtain⟨l,m,n,o⟩:=Z4Q (h:=h) (i:=k) (by simpa using e);exact Z4o h k c b oq l m n o
def Oz(h:Heap)(hw:Zx h.W)(b:Z8 h=O):GP 206 [h.av] O (Cz h).av []:=by
 have po:=B1 b;cases hf:Gm h with
 |none =>
  have a:Cz h=⟨0,0,0⟩:=by simp only[Cz,hf]
  rw[a];exact gF [] func206 [] (Fl 13 Z0.dv h.P (Fu (@ZhA h aa aa aa) Fz))
 |some i =>
  have a:Cz h=pageF h i:=by simp only[Cz,hf]
  rw[a];exact gF [] func206 [] (Fl 13 Z0.dv h.P (Fu (@Zcx h i aa aa aa) Fz))
def Zaf(h:Heap)(hw:Zx h.W)(hp:Z8 h=Lc):GP 171 [h.av] O (Ce.av ⟨1,0,0⟩) []:=by exact gF [] func171 [] (Fc 9 (@Ey h) (Ftb 10 (!Z8 h) Fz))
def ZiX(h:Heap)(hw:Zx h.W)(d:Z8 h=O) i(a:Gm h=Le i):GP 171 [h.av] O (pageF h i).av []:=by
 have po:=B1 d;have b:Cz h=pageF h i:=by simp only[Cz,a]
 have c:¬ (pageF h i).fault=0:=by simpa using (Lm.1 a).1
 rw[<-b]at c⊢;exact gF [] func171 [] (Fc 9 (@Ey h) (Ffb 10 (!Z8 h) (Fc 13 (@Oz h aa aa) (Ftb 16 (!((Cz h).fault==0&&((Cz h).page==0&&(Cz h).addr==0))) Fz))))
def Zgn(h:Heap)(hw:Zx h.W)(c:Z8 h=O)(b:Gm h=Lf)(hq:¬ (CC h).fault=0):GP 171 [h.av] O (CC h).av []:=by
 have po:=B1 c;have a:Cz h=⟨0,0,0⟩:=by simp only[Cz,b]
 have q1:(Cz h).fault=0:=by rw[a]
 have q2:(Cz h).page=0:=by rw[a]
 have q3:(Cz h).addr=0:=by rw[a]
 exact gF [] func171 [] (Fc 9 (@Ey h) (Ffb 10 (!Z8 h) (Fc 13 (@Oz h aa aa) (Ffb 16 (!((Cz h).fault==0&&((Cz h).page==0&&(Cz h).addr==0))) (Fc 19 (@Z1z h aa oq) (Ftb 22 (!((CC h).fault==0&&((CC h).page==0&&(CC h).addr==0))) Fz))))))
def NG(h:Heap)(i:Nat):Tg:=⟨tm 50 [(1,.pt 8001 0 0),(2,.pt 8002 0 0),(5,int (Bn h.P i)),(25,ZX h.P),(26,int h.P.length),(27,int i)],[(8002,.box 223 [int 0,int 0,u64 0]),(8001,.box 28 h.cells)],60⟩
def Zfq(h:Heap)(i:Nat)(c:Z8 h=O)(hi:i<h.P.length):CP (Zm f171 0) (NG h i).st .nrm (NG h (i+1)).st:=by
 have po:=B1 c;have:=RA h.P i;by_cases a:(h.P.getD i M).K=1;by_cases b:0<(h.P.getD i M).N;have e:Bn h.P (i+1)=Bn h.P i+1:=by rw[Bn,if_pos ⟨a,b⟩]
 rw[NG,NG,e];exact sF [] [] (Ftb 28 (Lb ((i:Int)<(h.P.length:Int))) (Fek 29 Z0.dv h.P (↑i) i (Ftb 38 ((h.P.getD i M).K==1&&Lb (0<(h.P.getD i M).N)) (Fw 40 ((↑(Bn h.P i):Int)+1) (↑(Bn h.P i+1):Int) (Fx 41 i Fz)))));have e:Bn h.P (i+1)=Bn h.P i:=by rw[Bn,if_neg (λq=>b q.2)];rfl
 rw[NG,NG,e];exact sF [] [] (Ftb 28 (Lb ((i:Int)<(h.P.length:Int))) (Fek 29 Z0.dv h.P (↑i) i (Ffb 38 ((h.P.getD i M).K==1&&Lb (0<(h.P.getD i M).N)) (Fx 41 i Fz))));have e:Bn h.P (i+1)=Bn h.P i:=by rw[Bn,if_neg (λq=>a q.1)];rfl
 rw[NG,NG,e];exact sF [] [] (Ftb 28 (Lb ((i:Int)<(h.P.length:Int))) (Fek 29 Z0.dv h.P (↑i) i (Ffb 38 ((h.P.getD i M).K==1&&Lb (0<(h.P.getD i M).N)) (Fx 41 i Fz))))
def Zbx(h:Heap):CP (Zm f171 0) (NG h h.P.length).st (.ext 0) (Tg.st ⟨tm 50 [(1,.pt 8001 0 0),(2,.pt 8002 0 0),(5,int (Bn h.P h.P.length))],[(8002,.box 223 [int 0,int 0,u64 0]),(8001,.box 28 h.cells)],64⟩):=by exact sF [] [] (Ffb 28 (Lb ((h.P.length:Int)<(h.P.length:Int))) Fz)
def Z9l(h:Heap)(b:Z8 h=O)  := Br (S:=λi=>(NG h i).st) h.P.length (by kernel_rfl) (λi a=>Zfq h i b a) (Zbx h)
def Z9B(h:Heap)(hw:Zx h.W)(f:Z8 h=O)(e:Gm h=Lf)(c:(CC h).fault=0)(hc:h.C.pg/4<(Bn h.P h.P.length:Nat)):GP 171 [h.av] O (Ce.av ⟨7,0,0⟩) []:=by
 have po:=B1 f;have cl:=RA h.P h.P.length;have a:Cz h=⟨0,0,0⟩:=by simp only[Cz,e]
 have q1:(Cz h).fault=0:=by rw[a]
 have q2:(Cz h).page=0:=by rw[a]
 have q3:(Cz h).addr=0:=by rw[a]
 have b:CC h=⟨0,0,0⟩:=by(unfold CC at c⊢;split at c;rename_i d;rw[if_pos d];simp at c)
 have q4:(CC h).fault=0:=by rw[b]
 have q5:(CC h).page=0:=by rw[b]
 have q6:(CC h).addr=0:=by rw[b]
 exact gF [] func171 [] (Fc 9 (@Ey h) (Ffb 10 (!Z8 h) (Fc 13 (@Oz h aa aa) (Ffb 16 (!((Cz h).fault==0&&((Cz h).page==0&&(Cz h).addr==0))) (Fc 19 (@Z1z h aa oq) (Ffb 22 (!((CC h).fault==0&&((CC h).page==0&&(CC h).addr==0))) (Fl 26 Z0.dv h.P (Fu (@Z9l h aa) (Fg 46 (by rw[LO oq,E4 oq oq]:Lq.wrap (h.C.pg.tdiv 4)=h.C.pg/4) (Fa (by decide:(4:Int)≠0) (Ftb 47 (Lb (h.C.pg/4<(↑(Bn h.P h.P.length):Int))) Fz)))))))))))
def Zeu(h:Heap)(hw:Zx h.W)(f:Z8 h=O)(e:Gm h=Lf)(c:(CC h).fault=0)(hc:¬ h.C.pg/4<(Bn h.P h.P.length:Nat)):GP 171 [h.av] O (Ce.av ⟨0,0,0⟩) []:=by
 have po:=B1 f;have cl:=RA h.P h.P.length;have a:Cz h=⟨0,0,0⟩:=by simp only[Cz,e]
 have q1:(Cz h).fault=0:=by rw[a]
 have q2:(Cz h).page=0:=by rw[a]
 have q3:(Cz h).addr=0:=by rw[a]
 have b:CC h=⟨0,0,0⟩:=by(unfold CC at c⊢;split at c;rename_i d;rw[if_pos d];simp at c)
 have q4:(CC h).fault=0:=by rw[b]
 have q5:(CC h).page=0:=by rw[b]
 have q6:(CC h).addr=0:=by rw[b]
 exact gF [] func171 [] (Fc 9 (@Ey h) (Ffb 10 (!Z8 h) (Fc 13 (@Oz h aa aa) (Ffb 16 (!((Cz h).fault==0&&((Cz h).page==0&&(Cz h).addr==0))) (Fc 19 (@Z1z h aa oq) (Ffb 22 (!((CC h).fault==0&&((CC h).page==0&&(CC h).addr==0))) (Fl 26 Z0.dv h.P (Fu (@Z9l h aa) (Fg 46 (by rw[LO oq,E4 oq oq]:Lq.wrap (h.C.pg.tdiv 4)=h.C.pg/4) (Fa (by decide:(4:Int)≠0) (Ffb 47 (Lb (h.C.pg/4<(↑(Bn h.P h.P.length):Int))) Fz)))))))))))
def Zfr(h:Heap)(c:Zx h.W):GP 171 [h.av] O (Bg h).av []:=by
 have e:=Z9O h;unfold Bg;rw[<-e];by_cases a:Z8 h=O;rw[if_pos a];cases hb:Gm h with|some i=>exact ZiX h c a i hb|none =>by_cases b:(CC h).fault=0;simp only[b,ne_eq,not_true_eq_false,if_false];by_cases d:h.C.pg/4<(Bn h.P h.P.length:Nat);rw[if_pos d];exact Z9B h c a hb b d;rw[if_neg d];exact Zeu h c a hb b d;simp only[ne_eq,b,not_false_eq_true,if_true];exact Zgn h c a hb b
 rw[if_neg a];exact Zaf h c (by simpa using a)
def Zj1(h:Heap):((Bg h).fault==0&&((Bg h).page==0&&(Bg h).addr==0))=Lb (Bg h=⟨0,0,0⟩):=by
 cases Bg h with|mk a b c=>by_cases d:a=0<;>by_cases e:b=0<;>by_cases f:c=0<;>simp[d,e,f]
def Z1R(h:Heap)(hw:Zx h.W):GP 122 [h.av] O (bool (Lb (Bg h=⟨0,0,0⟩))) []:=by have a:=Zj1 h;exact gF [] func122 [O] (Fc 4 (@Zfr h aa) (Fa (by exact a:((Bg h).fault==0&&((Bg h).page==0&&(Bg h).addr==0))=Lb (Bg h=Ce.mk 0 0 0)) Fz))
def Gu(a:List Int)(r:Int):Bool:=(r != 0)&&!decide (r∈a)
def Pn(a:List Int):AV:=.fn 126 [.rp [.sl 1 (a.map wdv)] 0]
def Z6H(a:List Int) r(ha:a.length<=1048576)(hs:a.Pairwise (· < ·)):GP 126 [u64 r,.rp [.sl 1 (a.map wdv)] 0] O (bool (Gu a r)) []:=by
 by_cases b:r=0;have e:Gu a r=Lc:=by simp[Gu,b]
 rw[e];exact gF [] func126 (fO 2) (Fc 9 (@bsearch a r aa aa) (Fa ‹(r != 0&&!decide (r∈a))=Lc› Fz));by_cases c:r∈a;have e:Gu a r=Lc:=by simp[Gu,c]
 rw[e];exact gF [] func126 (fO 2) (Fc 9 (@bsearch a r aa aa) (Fa ‹(r != 0&&!decide (r∈a))=Lc› Fz));have e:Gu a r=O:=by simp[Gu,b,c]
 rw[e];exact gF [] func126 (fO 2) (Fc 9 (@bsearch a r aa aa) (Fa ‹(r != 0&&!decide (r∈a))=O› Fz))
def Hk(a l:List Int):Nat:=(l.takeWhile λr=>!Gu a r).length
def Z06{a l}{m:Nat}(h:m<Hk a l):m<l.length/\Gu a (l.getD m M)=Lc:=by obtain⟨b,c⟩:=SQ _ _ _ h;refine⟨b, ?_⟩;rw[Lo,Ls b];simpa using c
def Z9p{a l:List Int}(h:Hk a l<l.length):Gu a (l.getD (Hk a l) M)=O:=by
 have b:=Ai (λr=>!Gu a r) l h;have c:l.getD (Hk a l) M=l[(l.takeWhile λr=>!Gu a r).length]:=by(rw[Lo,Ls h];rfl)
 rw[c];simpa using b
def Ih(a l:List Int):Int:=if Hk a l<l.length then Hk a l else -1
def Rp(a l:List Int)(i:Nat):Tg:=⟨tm 19 [(0,Z3 l),(1,Pn a),(4,int 0),(7,int l.length),(8,int i)],[],60⟩
section
variable (a l:List Int) (i:Nat) (hl:l.length<=1048576) (ha:a.length<=1048576) (hs:a.Pairwise (· < ·)) (hi:i<l.length)
include hl ha hs hi
theorem Z6p(e:Gu a (l.getD i M)=Lc):CP (Zm f172 0) (Rp a l i).st .nrm (Rp a l (i+1)).st:=by unfold Rp Pn;exact sF [] [] (Fh 16 [.call O (Sx.bool (Gu a (l.getD i M))) [],.br Lc] (Ftb 9 (Lb ((i:Int)<(l.length:Int))) (Fek 14 wdv l (↑i) i (Fa (@Z6H a (l.getD i M) aa aa) (Fa ‹Gu a (l.getD i M)=Lc› (Fx 18 i Fz))))))
theorem Zfw(e:Gu a (l.getD i M)=O):CP (Zm f172 0) (Rp a l i).st .ret (Tg.st ⟨tm 19 [(4,int i)],[],60⟩):=by unfold Rp Pn;exact sF [] [] (Fh 16 [.call O (Sx.bool (Gu a (l.getD i M))) [],.br O] (Ftb 9 (Lb ((i:Int)<(l.length:Int))) (Fek 14 wdv l (↑i) i (Fa (@Z6H a (l.getD i M) aa aa) (Fa ‹Gu a (l.getD i M)=O› Fz)))))
end
def Zdi a l:CP (Zm f172 0) (Rp a l l.length).st (.ext 0) (Tg.st ⟨tm 19 [(4,int 0)],[],60⟩):=by unfold Rp Pn;exact sF [] [] (Ffb 9 (Lb ((l.length:Int)<(l.length:Int))) Fz)
def Zix(a l:List Int)(hl:l.length<=1048576)(b:a.length<=1048576)(hs:a.Pairwise (· < ·))(h:¬ Hk a l<l.length)  := Br (S:=λj=>(Rp a l j).st) l.length (by kernel_rfl) (λj c=>Z6p a l j hl b hs c (Z06 (by omega)).2) (Zdi a l)
def Z9V(a l:List Int)(hl:l.length<=1048576)(b:a.length<=1048576)(hs:a.Pairwise (· < ·))(h:Hk a l<l.length)  := EY (S:=λj=>(Rp a l j).st) (Hk a l) (by kernel_rfl) (λj c=>Z6p a l j hl b hs (by omega) (Z06 c).2) (Zfw a l (Hk a l) hl b hs h (Z9p h))
def ZdH(a l:List Int)(hl:l.length<=1048576)(ha:a.length<=1048576)(hs:a.Pairwise (· < ·)):GP 172 [Z3 l,.fn 126 [.rp [.sl 1 (a.map wdv)] 0]] O (int (Ih a l)) []:=by by_cases h:Hk a l<l.length;have b:Ih a l=Hk a l:=if_pos h;rw[b];exact gF [] func172 [] (Fl 7 wdv l (Fu (@Z9V a l aa aa aa aa) Fz));have b:Ih a l=-1:=if_neg h;rw[b];exact gF [] func172 [] (Fl 7 wdv l (Fu (@Zix a l aa aa aa aa) Fz))
def ZhV(a l:List Int)(hl:l.length<=1048576)(ha:a.length<=1048576)(hs:a.Pairwise (· < ·)):GP 125 [Z3 l,.fn 126 [.rp [.sl 1 (a.map wdv)] 0]] O (bool (Lb (0<=Ih a l))) []:=by exact gF [] func125 [] (Fc 7 (@ZdH a l aa aa aa) Fz)
def Za4(h:Heap) refs(hw:Zx h.W)(hg:¬ Bg h=⟨0,0,0⟩):GP 74 [h.av,Z3 refs] O (bool Lc) []:=by exact gF [] func74 [] (Fc 8 (@Z1R h aa) (Ftb 9 (!decide (Bg h=Ce.mk 0 0 0)) Fz))
def Zan(h:Heap) refs(hw:Zx h.W)(hg:Bg h=⟨0,0,0⟩):S8 prog 4 (Hh f74) (Tg.st ⟨tm 19 [(0,h.av),(1,Z3 refs)],[],1⟩) (Tg.st ⟨tm 19 [(1,Z3 refs),(5,.pt 24005 0 0)],[(24005,.box 25 [Z3 (Zr h).1])],20⟩):=by refine Av [((8:Nat),[Hint.call O (Sx.bool (Lb (Bg h=Ce.mk (0:Int) (0:Int) (0:Int)))) []]),((9:Nat),[Hint.br Lc]),((12:Nat),[Hint.call O (AV.tu [Z3 (Zr h).1,int (Zr h).2]) []])] [] [] (φ:=GP 122 [h.av] O (Sx.bool (Lb (Bg h=Ce.mk (0:Int) (0:Int) (0:Int)))) []/\(!decide (Bg h=Ce.mk (0:Int) (0:Int) (0:Int)))=Lc/\Lc=Lc/\GP 107 [h.av] O (AV.tu [Z3 (Zr h).1,int (Zr h).2]) []) ?_ kr kr kr kr;exact⟨(@Z1R (h) aa),(by(simp only[bs];omega)),rfl,(@PU (h) aa)⟩
def ZjL(h:Heap)(refs:List Int):((Lg refs.length).find? (Gn refs (Zr h).1)).isNone = !decide (0<=Ih (Zr h).1 refs):=by
 have e:∀i,Gn refs (Zr h).1 i=Gu (Zr h).1 (refs.getD i M):=by(intro i;unfold Gn Gu;generalize refs.getD i M=r;by_cases f:r=0<;>by_cases g:r∈(Zr h).1<;>simp[f,g])
 by_cases a:Hk (Zr h).1 refs<refs.length;have c:Ih (Zr h).1 refs=Hk (Zr h).1 refs:=if_pos a;have d:(Lg refs.length).find? (Gn refs (Zr h).1)=Le (Hk (Zr h).1 refs):=by(rw[Lm];refine⟨by rw[e];exact Z9p a,Li.2 a,λj b=>?_⟩;rw[e,(Z06 b).2];rfl)
 rw[c,d];simp;have c:Ih (Zr h).1 refs=-1:=if_neg a;have d:(Lg refs.length).find? (Gn refs (Zr h).1)=Lf:=by(rw[Ll];intro j b;have b:=Li.1 b;rw[e,(Z06 (l:=refs) (m:=j) oq).2];simp)
 rw[c,d];rfl
end Go.Proofs.YtgedmeaemofdkaaGreat
namespace Go.Proofs.YtgedmeaemofdkaaGreat
open Go.Sx Go.RowKit
def ZbS(h:Heap)(refs:List Int)(hw:Zx h.W)(hl:refs.length<=1048576)(l:Bg h=⟨0,0,0⟩):GP 74 [h.av,Z3 refs] O (bool (!decide (0<=Ih (Zr h).1 refs))) []:=by
 intro f u vs w r d;rw[<-callsIn_wide (n:=10)];refine callsIn_of_wp func74 (c:=Hh f74) kr trivial ?_ rfl;have o:vs.size=2:=r;have S0:Sx.Sys G5 u f (tm 19 [(0,h.av),(1,Z3 refs)]) (BV []) 1 {tmps:=vs++Lw (Tryz.f74.ntmps-vs.size) undef,defers:=[]} f:=by(refine⟨_,u,Sx.Inv.empty w (Lv 1),⟨by rw[o];simp[o];kernel_rfl,λk y v s i=>?_,rfl⟩⟩;rw[show tm 19 [(0,h.av),(1,Z3 refs)]=[h.av,Z3 refs]++Lh 17 .any from by kernel_rfl,LR]at s;rw[LF]at i;split at s;rename_i hk;rw[if_pos (by rw[r];exact hk)]at i;exact d k y v s i;have:=LZ s;rw[(L0.1 this).2];exact .any _)
 generalize hR:(λe w'=>∃v,e=Ending.returned v/\Ra f u O (Sx.bool (!decide (0<=Ih (Zr h).1 refs))) [] v w')=R;generalize hQ:bodyPost prog f74 R=Q;refine Zan h refs hw l 10 Q _ _ _ _ _ S0 ?_;rintro a1 w1 ⟨ρ1,a,j,T1⟩;obtain⟨v5,t5,r5⟩:=T1.at (t:=5) (x:=.pt 24005 0 0) rfl;obtain⟨β,m,n⟩:=j.blk 24005 _ rfl;have z:Zh (λ_=>Lf) w1 (λg=>a g\/β.g=Le g) (.rp [.sl 1 ((Zr h).1.map wdv)] 0) v5:=Te m n r5 (λ_ h=>.inl h) (λ_ h=>.inr h);have er:rest prog 10 4 (Hh f74) Q a1 w1=(Code.region 4 (BJ f74 4) Lc).wpIn Fence.wide 10 prog (Exit.then (Code.ret.wpIn Fence.wide 10 prog Q) Q) a1 w1:=by kernel_rfl
 rw[er];refine wpIn_region ?_;rw[show Lg (BJ f74 4).size=[0,1,2,3,4]from by kernel_rfl];have T2:Cr [] (λ_=>Lf) w1 (λg=>a g\/β.g=Le g) (tm 19 [(1,Z3 refs),(5,.rp [.sl 1 ((Zr h).1.map wdv)] 0)]) a1:=by(have A1:Cr [] ρ1 w1 (λg=>a g\/β.g=Le g) _ a1:=T1.mono (Sx.Ext.refl _ _) (λ_ h=>.inl h) (λ_ _ h=>h) j.bnd;have A2:=(A1.reSet 5 .any (λv _=>.any v)).pure kr;exact A2.reSet 5 (.rp [.sl 1 ((Zr h).1.map wdv)] 0) (λv i=>by rw[t5]at i;cases i;exact z))
 have S2:Sx.Sys G5 (λg=>a g\/β.g=Le g) w1 (tm 19 [(1,Z3 refs),(5,.rp [.sl 1 ((Zr h).1.map wdv)] 0)]) (BV []) 20 a1 w1:=by(refine⟨_,_,Sx.Inv.empty ?_ dd,T2⟩;rintro g (l|l);exact j.imb g l;exact j.bnd _ _ g m l)
 generalize hb:Lb (0<=Ih (Zr h).1 refs)=b at hR;have hc:=ZhV (Zr h).1 refs hl (by have:=Rx h;omega) (Z3R h);rw[hb]at hc;refine TV (ro:=Lf) (hints:=[(17,[Hint.call O (Sx.bool b) []])]) (out:=⟨((((tm 19 [(1,Z3 refs),(5,.rp [.sl 1 ((Zr h).1.map wdv)] 0)]).set 15 (Z3 refs)).set 16 (.fn 126 [.rp [.sl 1 ((Zr h).1.map wdv)] 0])).set 17 (Sx.bool b)).set 18 (Sx.bool (!b)) |>.set 4 (Sx.bool (!b)),BV [],[GP 125 [Z3 refs,.fn 126 [.rp [.sl 1 ((Zr h).1.map wdv)] 0]] O (Sx.bool b) []],[]⟩) kr S2 hc (λp hp=>by simp at hp) ?_;rintro a3 w3 ⟨ρ3,a0,I3,T3⟩;refine wpIn_ret ?_;show Q .ret a3 w3;rw[<-hQ];refine bodyPost_ret (results_tmp rfl _ _ _) T3.defers ?_;rw[<-hR];have r4:a3.tmps.getD 4 undef=.bool (!b):=BZ (CZ T3 (.tmp 4));rw[r4];exact⟨_,rfl,R9 j.kept.no I3.kept (λ_ h=>(Sx.OwA.no h).elim),λ_=>Lf,λ_=>False,λ_ q=>q.elim,λ_ q=>q.elim,λ_ _ _ q=>(by cases q),λ_ _ _ _ _ q=>(by cases q),λ_ _ q=>(by cases q),λk B q=>by simp at q,.d (.sc _ rfl)⟩
def Z9w(h:Heap)(refs:List Int)(b:Zx h.W)(hl:refs.length<=1048576):GP 74 [h.av,Z3 refs] O (bool (Bw h refs)) []:=by
 by_cases a:Bg h=⟨0,0,0⟩;have e:Bw h refs = !decide (0<=Ih (Zr h).1 refs):=by(unfold Bw;rw[ZjL,a];simp)
 rw[e];exact ZbS h refs b hl a;have e:Bw h refs=Lc:=by simp[Bw,a]
 rw[e];exact Za4 h refs b a
end Go.Proofs.YtgedmeaemofdkaaGreat
namespace Go.Proofs.YtgedmeaemofdkaaGreat
open Go.Sx
def Z9n{h:Heap}(a:∀i:Nat,i<h.P.length->(Zd h (i:Int)).2=0):∀(f i:Nat),i+f=h.P.length->(Cl h f i).2=0
 |0,_,_=>rfl
 |f+1,i,hf=>by
  have b:=Z9n a f (i+1) oq;unfold Cl;rw[a i oq,b];rfl
def ZfY{h:Heap}(a:Bg h=⟨0,0,0⟩):(Zr h).2=0:=by
 have e:Z8 h=O:=by(by_cases q:Z8 h=O;exact q;rw[Bg,if_neg q]at a;cases a)
 rw[Bg,if_pos e]at a;have c:∀i,i<h.P.length->(pageF h i).fault=0:=by
  intro i b;cases hb:Gm h with|some j =>rw[hb]at a;simp only at a;have:=List.find?_some hb;rw[a]at this;simp at this|none =>have:=Ll.1 hb i (Li.2 b);simpa using this
 have d:∀i:Nat,i<h.P.length->(Zd h (i:Int)).2=0:=by(intro i b;have q:=c i b;unfold pageF at q;split at q;simp at q;split at q;simp at q;rename_i c2;simpa using c2)
 unfold Zr;rw[CB,if_pos e];exact Z9n d h.P.length 0 oq
def Sp(h:Heap)(l:List Z0):List (Nat×Z4):=[(8001,.box 28 [int h.C.pw,int h.C.pg,.ow 49027,.ow 49030,int h.S,int h.B]),(49030,.arr 86 4 (l.map Z0.dv)),(49027,.arr 35 1 (h.W.map wdv)),(8002,.box 127 zW)]
def Mf(h:Heap)(a:List Int)(i:Nat):Tg:=⟨tm 61 [(1,.pt 8001 0 0),(2,.pt 8002 0 0),(3,int 0),(4,Z3 a),(34,.ow 49030),(35,int h.P.length),(36,int i)],Sp h (Zu (Zp (1-h.S)) h.P i),8⟩
section
variable (h:Heap) (a:List Int) (hs:h.S=0\/h.S=1) (hl:h.P.length<=1048576)
include hs hl
theorem ZfK(i:Nat)(q:i<h.P.length):CP (Zm f73 0) (Mf h a i).st .nrm (Mf h a (i+1)).st:=by have m:=PL (Zp (1-h.S)) h.P (Lv i) M;have hn:=RN (Zp (1-h.S)) h.P i;by_cases g:(h.P.getD i M).K=1/\0<(h.P.getD i M).N;have j:=PQ (Zp (1-h.S)) h.P q M;rw[show Zp (1-h.S) (h.P.getD i M)=⟨(h.P.getD i M).K,1-h.S,(h.P.getD i M).U,(h.P.getD i M).N⟩ by rw[Zp,if_pos g],<-m]at j;rw[<-m]at g;have o {h_ c_ p_} (n:Fq h_ c_ p_):=Ftb 37 (Lb ((i:Int)<(h.P.length:Int))) (Fmq 40 Z0.dv (Zu (Zp (1-h.S)) h.P i) (↑i) n);rcases bb (((Zu (Zp (1-h.S)) h.P i).getD (i:Int).toNat M).K==1&&Lb (0<((Zu (Zp (1-h.S)) h.P i).getD (i:Int).toNat M).N))with hc0|hc0<;>have b:=hc0<;>simp only[bs]at b;obtain⟨c,d⟩:=b;let k:=Zu (Zp (1-h.S)) h.P i;let e:=k.getD (i:Int).toNat M;exact sF [] (fO 11) (o (Ft 48 hc0 (Fi 54 (1-h.S) (Fm0q Z0.dv k (↑i) (FS 10056 Z0.dv k ((i:Int).toNat) (Z0.mk e.K (1-h.S) e.U e.N) (e.dv) (Fx 57 i (Fr (86:Int) (Fa (by refine congrArg _ ?_;exact j:La Z0.dv (k.set (i:Int).toNat (Z0.mk e.K (1-h.S) e.U e.N))=La Z0.dv (Zu (Zp (1-h.S)) h.P (i+1))) Fz))))))));exact sF [] (fO 11) (o (Ff 48 hc0 (Fx 57 i (Fr (86:Int) (Fa (by refine congrArg _ ?_;grind[]:La Z0.dv (Zu (Zp (1-h.S)) h.P i)=La Z0.dv (Zu (Zp (1-h.S)) h.P (i+1))) Fz)))));have j:=Z3r (Zp (1-h.S)) h.P q M (by rw[Zp,if_neg g]);rw[<-m]at g;have p {h_ c_ p_} (n:Fq h_ c_ p_):=Ftb 37 (Lb ((i:Int)<(h.P.length:Int))) (Fmq 40 Z0.dv (Zu (Zp (1-h.S)) h.P i) (↑i) n);rcases bb (((Zu (Zp (1-h.S)) h.P i).getD (i:Int).toNat M).K==1&&Lb (0<((Zu (Zp (1-h.S)) h.P i).getD (i:Int).toNat M).N))with hc0|hc0<;>have b:=hc0<;>simp only[bs]at b;obtain⟨c,d⟩:=b;let l:=Zu (Zp (1-h.S)) h.P i;let f:=l.getD (i:Int).toNat M;exact sF [] (fO 11) (p (Ft 48 hc0 (Fi 54 (1-h.S) (Fm0q Z0.dv l (↑i) (FS 10056 Z0.dv l ((i:Int).toNat) (Z0.mk f.K (1-h.S) f.U f.N) (f.dv) (Fx 57 i (Fr (86:Int) (Fa (by refine congrArg _ ?_;grind[]:La Z0.dv (l.set (i:Int).toNat (Z0.mk f.K (1-h.S) f.U f.N))=La Z0.dv (Zu (Zp (1-h.S)) h.P (i+1))) Fz))))))));exact sF [] (fO 11) (p (Ff 48 hc0 (Fx 57 i (Fr (86:Int) (Fa (by refine congrArg _ ?_;exact j:La Z0.dv (Zu (Zp (1-h.S)) h.P i)=La Z0.dv (Zu (Zp (1-h.S)) h.P (i+1))) Fz)))))
omit hs hl in
theorem ZaX:CP (Zm f73 0) (Mf h a h.P.length).st (.ext 0) (Tg.st ⟨tm 61 [(1,.pt 8001 0 0),(2,.pt 8002 0 0),(3,int 0),(4,Z3 a)],Sp h (h.P.map (Zp (1-h.S))),8⟩):=by have hq:=Z0l (Zp (1-h.S)) h.P;have hn:=RN (Zp (1-h.S)) h.P h.P.length;exact sF [] (fO 5) (Ffb 37 (Lb ((h.P.length:Int)<(h.P.length:Int))) (Fr (86:Int) (Fa (by refine congrArg _ ?_;assumption:La Z0.dv (Zu (Zp (1-h.S)) h.P h.P.length)=La Z0.dv (La (Zp (1-h.S)) h.P)) Fz)))
theorem ZdM:CP (Zj f73 0) (Tg.st ⟨tm 61 [(1,.pt 8001 0 0),(2,.pt 8002 0 0),(3,int 0),(4,Z3 a),(34,.ow 49030),(35,int h.P.length),(36,int 0)],Sp h h.P,8⟩) .nrm (Tg.st ⟨tm 61 [(1,.pt 8001 0 0),(2,.pt 8002 0 0),(3,int 0),(4,Z3 a)],Sp h (h.P.map (Zp (1-h.S))),8⟩):=by have:=Br (S:=λk=>(Mf h a k).st) h.P.length kr (λk b=>ZfK h a hs hl k b) (ZaX h a);simp only[Mf,Z8C]at this;exact this
end
def Zbf(h:Heap)(hw:Zx h.W)(c:Z8 h=O)(a:Bg h=⟨0,0,0⟩):GP 73 [h.av] Lc (.tu [(Zq h).av,int 0]) []:=by have po:=B1 c;have ho:=Rx h;have g:=ZfY a;have b:h.P≠[]:=A5 oq;exact gF [] func73 [] (Fc 9 (@Ey h) (Ffb 10 (!Z8 h) (Fc 13 (@Z1R h aa) (Ffb 14 (!decide (Bg h=Ce.mk 0 0 0)) (Fc 18 (@PU h aa) (Ffb 22 ((Zr h).2 != 0) (Fc 27 (@Ty h.W oq) (Fc 30 (@Z2O h.P oq aa) (Fl 35 Z0.dv h.P (Fu (@ZdM h ((Zr h).1) oq oq) (Fnl (Fnl Fz))))))))))))
def Nj(w:Z7):List (Nat×Z4):=[(22014,Bc w.Q),(21014,EM w.T),(20014,Bc w.old),(19014,EN w.heap.P),(18014,Bc w.heap.W),(17014,w.ckB 18014 19014 20014 21014 22014)]
def D8(w:Z7)(roots out:List Int)(i:Nat):Tg:=⟨tm 40 [(4,.pt 8004 0 0),(5,.d (.sl 0 [])),(6,int 0),(7,.pt 17014 0 0),(8,.ow 24008),(15,Z3 roots),(16,int roots.length),(17,int i)],(24008,.arr 35 1 (out.map wdv))::(8004,.box 127 zW)::Nj w,5⟩
section
variable (w:Z7) (roots out:List Int) (i:Nat) (f:FwOk w (roots.getD i M)) (hl:roots.length<=1048576) (ho:out.length<=1048576) (hi:i<roots.length)
include f hl ho hi
theorem Z4u(e:(w.fwd (roots.getD i M)).2.2=0):CP (Zm f77 0) (D8 w roots out i).st .nrm (D8 (w.fwd (roots.getD i M)).1 roots (out++[(w.fwd (roots.getD i M)).2.1]) (i+1)).st:=by let a:=w.fwd (roots.getD i M);exact sF [(72034,24008),(57024,19014),(58024,21014),(59024,22014)] [] (Fh 34 [.els (La wdv (out++[a.2.1]))] (Ftb 18 (Lb ((i:Int)<(roots.length:Int))) (Fek 19 wdv roots (↑i) i (Fbr 24 [17014,18014,19014,20014,21014,22014] (@Z4X w (roots.getD i M) aa aa) (Fs 33 (La wdv [a.2.1]) (Fa (by(simp[*];omega):(La wdv out).length+(La wdv [a.2.1]).length<=2^30) (Fa (ms:La wdv out++La wdv [a.2.1]=La wdv (out++[a.2.1])) (Fx 35 i Fz))))))))
theorem ZiG(e:¬ (w.fwd (roots.getD i M)).2.2=0):CP (Zm f77 0) (D8 w roots out i).st .ret (Tg.st ⟨tm 40 [(4,.pt 8004 0 0),(5,.d (.sl 0 [])),(6,int (w.fwd (roots.getD i M)).2.2)],[(8004,.box 127 zW)],60⟩):=by exact sF [] [] (Ftb 18 (Lb ((i:Int)<(roots.length:Int))) (Fek 19 wdv roots (↑i) i (Fbq 24 [17014,18014,19014,20014,21014,22014] (@ZjY w (roots.getD i M) aa aa) (Ftb 28 ((w.fwd (roots.getD i M)).2.2 != 0) Fz))))
end
def ZjD w roots out:CP (Zm f77 0) (D8 w roots out roots.length).st (.ext 0) (Tg.st ⟨tm 40 [(4,.pt 8004 0 0),(7,.pt 17014 0 0),(8,.ow 24008)],(24008,.arr 35 1 (out.map wdv))::(8004,.box 127 zW)::Nj w,5⟩):=by exact sF [] [] (Ffb 18 (Lb ((roots.length:Int)<(roots.length:Int))) Fz)
def Z2n(w:Z7)(roots:List Int):Prop:=∀k,k<roots.length->(∀j,j<k->CW w roots j=0)->FwOk (rootsN w roots k).1 (roots.getD k M)
section
variable (w:Z7) (roots:List Int) (hN:Z2n w roots) (hl:roots.length<=1048576)
include hN hl
theorem Zat(d:(Lg roots.length).find? (λk=>Lb (CW w roots k≠0))=Lf):CP (Zj f77 0) (Tg.st ⟨tm 40 [(4,.pt 8004 0 0),(5,.d (.sl 0 [])),(6,int 0),(7,.pt 17014 0 0),(8,.ow 24008),(15,Z3 roots),(16,int roots.length),(17,int 0)],(24008,.arr 35 1 [])::(8004,.box 127 zW)::Nj w,5⟩) .nrm (Tg.st ⟨tm 40 [(4,.pt 8004 0 0),(7,.pt 17014 0 0),(8,.ow 24008)],(24008,.arr 35 1 ((rootsN w roots roots.length).2.map wdv))::(8004,.box 127 zW)::Nj (rootsN w roots roots.length).1,5⟩):=by
 have b:∀j,j<roots.length->CW w roots j=0:=λj c=>by(have:=Ll.1 d j (Li.2 c);simpa using this)
 exact Br (S:=λk=>(D8 (rootsN w roots k).1 roots (rootsN w roots k).2 k).st) roots.length kr (λk a=>Z4u _ roots _ k (hN k a λj c=>b j oq) hl (by rw[NU];omega) a (b k a)) (ZjD _ roots _)
theorem Zf9 i(f:(Lg roots.length).find? (λk=>Lb (CW w roots k≠0))=Le i):CP (Zj f77 0) (Tg.st ⟨tm 40 [(4,.pt 8004 0 0),(5,.d (.sl 0 [])),(6,int 0),(7,.pt 17014 0 0),(8,.ow 24008),(15,Z3 roots),(16,int roots.length),(17,int 0)],(24008,.arr 35 1 [])::(8004,.box 127 zW)::Nj w,5⟩) .ret (Tg.st ⟨tm 40 [(4,.pt 8004 0 0),(5,.d (.sl 0 [])),(6,int (CW w roots i))],[(8004,.box 127 zW)],60⟩):=by
 obtain⟨d,a,e⟩:=Lm.1 f;have a:=Li.1 a;have b:∀j,j<i->CW w roots j=0:=λj c=>by simpa using e j c
 exact EY (S:=λk=>(D8 (rootsN w roots k).1 roots (rootsN w roots k).2 k).st) i kr (λk g=>Z4u _ roots _ k (hN k oq λj c=>b j oq) hl (by rw[NU];omega) oq (b k g)) (ZiG _ roots _ i (hN i a b) hl (by rw[NU];omega) a (by simpa[CW]using d))
theorem ZcF(ln:Sz w):GP 77 [w.av,Z3 roots] O (.tu [(rootsF w roots).1.av,Z3 (rootsF w roots).2.1,int (rootsF w roots).2.2]) []:=by
 cases hb:(Lg roots.length).find? (λk=>Lb (CW w roots k≠0))with
 |none =>
  have e7:rootsF w roots=((rootsN w roots roots.length).1,(rootsN w roots roots.length).2,0):=by unfold rootsF;rw[hb]
  rw[e7];let y0:=rootsN w roots roots.length;exact gF [] func77 [] (Fh 8 [.own] (Fbr 14 [] (@Z16 w aa) (Fl 16 wdv roots (Fu (@Zat w roots aa aa aa) (Fa (by exact Hd _:Ci (La wdv y0.1.heap.W)) (Fa (by exact IC _:Ci (La Z0.dv y0.1.heap.P)) (Fa (by exact Hd _:Ci (La wdv y0.1.old)) (Fa (by exact AG _:Ci (La idv y0.1.T)) (Fa (by exact Hd _:Ci (La wdv y0.1.Q)) (Fa (by exact Hd _:Ci (La wdv y0.2)) Fz))))))))))
 |some i =>
  have e7:rootsF w roots=(GL,[],CW w roots i):=by unfold rootsF;rw[hb]
  rw[e7];exact gF [] func77 [] (Fh 8 [.own] (Fbr 14 [] (@Z16 w aa) (Fl 16 wdv roots (Fu (@Zf9 w roots aa aa i aa) (Fnl (Fnl (Fnl (Fnl (Fnl (Fnl Fz))))))))))
end
def Zfb w(a:Sz w)(sc:0<=w.D)(hs:¬ w.D<w.Q.length):BP 131 [.pt 0 0 0] w.ckp (.tu [bool Lc,int 0]) w.ckp:=by obtain⟨h1,h2,h3,h4,h5⟩:=a;exact borF [0,1,2,3,4,5] [] func131 [] (FlG 28 (!decide (w.D<0)) wdv w.Q (Ftb 30 (Lb (w.D<0)||Lb ((w.Q.length:Int)<=w.D)) Fz))
def Zef{ws:List Int}{a v:Int}(h:4096<=a/\a<4096+ws.length):(BL ws a v).1=ws.set (a-4096).toNat v:=by unfold BL ZS;rw[if_pos (by simp only[List.length_cons,List.length_nil];omega)];exact Z3M oq
def RY(w:Z7):List (Nat×Z4):=[(0,w.ckB 1 8002 3 8004 8005),(1,Bc w.heap.W),(8002,EN w.heap.P),(3,Bc w.old),(8004,EM w.T),(8005,Bc w.Q)]
def Pf(w:Z7)(a n:Int)(l:List Int)(k:Nat):Tg:=⟨tm 116 [(0,.pt 0 0 0),(2,bool Lc),(3,int 0),(5,.os 1 (a-4096).toNat n.toNat),(9,ZE l),(72,ZE l),(73,int l.length),(74,int k)],RY w,12⟩
section
variable (w:Z7) (a n:Int) (l:List Int) (k:Nat) (hk:k<l.length) (b:l.length<=255) (hx:0<=l.getD k M/\l.getD k M+1<n) (hn:n<=256) (ha:4096<=a/\a-4096+n<=w.heap.W.length) (f:FwOk w (Z1 w.heap.W (a+1+l.getD k M)).1)
include hk b hx hn ha f
theorem ZdL(e:(w.fwd (Z1 w.heap.W (a+1+l.getD k M)).1).2.2=0)(c:(w.fwd (Z1 w.heap.W (a+1+l.getD k M)).1).1.heap.W.length=w.heap.W.length):CP (Zm f131 0) (Pf w a n l k).st .nrm (Pf (w.in1 (a+1+l.getD k M)) a n l (k+1)).st:=by
 have d:(Z1 w.heap.W (a+1+l.getD k M)).1=w.heap.W.getD ((a-4096).toNat+(1+l.getD k M).toNat) M:=by(unfold Z1;rw[if_pos oq,show(a-4096).toNat+(1+l.getD k M).toNat=(a+1+l.getD k M-4096).toNat by omega];rfl)
 have wl:=f.ck.ok.wl;have g:(w.in1 (a+1+l.getD k M))=⟨⟨(w.fwd (Z1 w.heap.W (a+1+l.getD k M)).1).1.heap.C,(w.fwd (Z1 w.heap.W (a+1+l.getD k M)).1).1.heap.W.set ((a-4096).toNat+(1+l.getD k M).toNat) (w.fwd (Z1 w.heap.W (a+1+l.getD k M)).1).2.1,(w.fwd (Z1 w.heap.W (a+1+l.getD k M)).1).1.heap.P,(w.fwd (Z1 w.heap.W (a+1+l.getD k M)).1).1.heap.S,(w.fwd (Z1 w.heap.W (a+1+l.getD k M)).1).1.heap.B⟩,(w.fwd (Z1 w.heap.W (a+1+l.getD k M)).1).1.old,(w.fwd (Z1 w.heap.W (a+1+l.getD k M)).1).1.T,(w.fwd (Z1 w.heap.W (a+1+l.getD k M)).1).1.Q,(w.fwd (Z1 w.heap.W (a+1+l.getD k M)).1).1.D,(w.fwd (Z1 w.heap.W (a+1+l.getD k M)).1).1.rep⟩:=by(unfold Z7.in1;rw[Zef oq,show(a-4096).toNat+(1+l.getD k M).toNat=(a+1+l.getD k M-4096).toNat by omega])
 rw[g];rw[d]at e c f⊢;exact sF [(113085,8002),(114085,8004),(115085,8005)] [] (Fh 84 [.el (wdv (w.heap.W.getD ((a-4096).toNat+(1+l.getD k M).toNat) M))] (Fh 10095 [.els (La wdv ((w.fwd (w.heap.W.getD ((a-4096).toNat+(1+l.getD k M).toNat) M)).1.heap.W.set ((a-4096).toNat+(1+l.getD k M).toNat) (w.fwd (w.heap.W.getD ((a-4096).toNat+(1+l.getD k M).toNat) M)).2.1))] (Ftb 75 (Lb ((k:Int)<(l.length:Int))) (Fek 76 idv l (↑k) k (Fi 82 (1+l.getD k M) (Fo ((0:Int)<=1+l.getD k M/\(1+l.getD k M).toNat<n.toNat) (Fa (by exact B4 oq:(La wdv w.heap.W)[(a-4096).toNat+(1+l.getD k M).toNat]?=Le (wdv (w.heap.W.getD ((a-4096).toNat+(1+l.getD k M).toNat) M))) (Fbr 85 [0,1,8002,3,8004,8005] (@Z4X w (w.heap.W.getD ((a-4096).toNat+(1+l.getD k M).toNat) M) aa aa) (Fi 93 (1+l.getD k M) (Fo ((0:Int)<=1+l.getD k M/\(1+l.getD k M).toNat<n.toNat) (Fa (by(simp only[Lp];omega):(a-4096).toNat+(1+l.getD k M).toNat<(La wdv (w.fwd (w.heap.W.getD ((a-4096).toNat+(1+l.getD k M).toNat) M)).1.heap.W).length) (Fa (ms:(La wdv (w.fwd (w.heap.W.getD ((a-4096).toNat+(1+l.getD k M).toNat) M)).1.heap.W).set ((a-4096).toNat+(1+l.getD k M).toNat) [ZY (w.fwd (w.heap.W.getD ((a-4096).toNat+(1+l.getD k M).toNat) M)).2.1]=La wdv ((w.fwd (w.heap.W.getD ((a-4096).toNat+(1+l.getD k M).toNat) M)).1.heap.W.set ((a-4096).toNat+(1+l.getD k M).toNat) (w.fwd (w.heap.W.getD ((a-4096).toNat+(1+l.getD k M).toNat) M)).2.1)) (Fx 96 k Fz)))))))))))))
end
def Ze0 w a n l:CP (Zm f131 0) (Pf w a n l l.length).st (.ext 0) (Tg.st ⟨tm 116 [(0,.pt 0 0 0),(9,ZE l)],RY w,12⟩):=by exact sF [] [] (Ffb 75 (Lb ((l.length:Int)<(l.length:Int))) Fz)
structure Z2z (w:Z7) (a:Int) (l:List Int):Prop where
 f:∀k,k<l.length->(∀j,j<k->CI w a l j=0)->FwOk (Bt w a l k) (Z1 (Bt w a l k).heap.W (a+1+l.getD k M)).1
 h:∀k,k<=l.length->(∀j,j<k->CI w a l j=0)->(Bt w a l k).heap.W.length=w.heap.W.length
 m:∀k,k<l.length->(∀j,j<k->CI w a l j=0)->((Bt w a l k).fwd (Z1 (Bt w a l k).heap.W (a+1+l.getD k M)).1).2.2=0->((Bt w a l k).fwd (Z1 (Bt w a l k).heap.W (a+1+l.getD k M)).1).1.heap.W.length=w.heap.W.length
section
variable (w:Z7) (a n:Int) (l:List Int) (hN:Z2z w a l) (b:l.length<=255) (hr:∀x∈l,0<=x/\x+1<n) (d:n<=256) (c:4096<=a/\a-4096+n<=w.heap.W.length)
include hN b hr d c
theorem ZkA(m:(Lg l.length).find? (λk=>Lb (CI w a l k≠0))=Lf):CP (Zj f131 0) (Tg.st ⟨tm 116 [(0,.pt 0 0 0),(2,bool Lc),(3,int 0),(5,.os 1 (a-4096).toNat n.toNat),(9,ZE l),(72,ZE l),(73,int l.length),(74,int 0)],RY w,12⟩) .nrm (Tg.st ⟨tm 116 [(0,.pt 0 0 0),(9,ZE l)],RY (Bt w a l l.length),12⟩):=by
 have g:∀j,j<l.length->CI w a l j=0:=λj i=>by(have:=Ll.1 m j (Li.2 i);simpa using this)
 have o:∀k,k<l.length->0<=l.getD k M/\l.getD k M+1<n:=λk e=>hr _ (Bm.2 ⟨k,e,rfl⟩);exact Br (S:=λk=>(Pf (Bt w a l k) a n l k).st) l.length kr (λk e=>by
  have f:∀j,j<k->CI w a l j=0:=λj i=>g j oq;have h:=hN.h k oq f;exact ZdL _ a n l k e b (o k e) d (by rw[h];exact c) (hN.f k e f) (g k e) ((hN.m k e f (g k e)).trans h.symm)) (Ze0 _ a n l)
end
def Zfd w(k:IA w)(hs:w.D<w.Q.length)(sc:0<=w.D)(hr:4096<=w.Q.getD w.D.toNat M/\w.Q.getD w.D.toNat M+Zl w.heap.W (w.Q.getD w.D.toNat M)<4096+w.heap.W.length)(hd:(Z6 (Z1 w.heap.W (w.Q.getD w.D.toNat M)).1).2=O)(hN:Z2z w (C8 w) (Bh w))(a:∀j,j<(Bh w).length->CI w (C8 w) (Bh w) j=0):BP 131 [.pt 0 0 0] w.ckp (.tu [bool O,int 0]) (Hn (Bt w (C8 w) (Bh w) (Bh w).length) (Bh w).length).ckq:=by
 have c:(Lg (Bh w).length).find? (λk=>Lb (CI w (C8 w) (Bh w) k≠0))=Lf:=Ll.2 λj d=>by simp[a j (Li.1 d)]
 have f:=k.mem;obtain⟨h1,h2,h3,h4,h5⟩:=k.ln;have ok:=k.ok;have k1:=Nb ok (C8 w) (Bh w) (Bh w).length a;have h:=k1.1.rs;have i:=k1.1.sc;have l:=k1.1.mu;have n:=(Z0A (Zv w (C8 w)));have m:∀x∈Bh w,0<=x/\x+1<Zl w.heap.W (C8 w)+1:=λx g=>by(have:=SA (Zv w (C8 w)) x g;unfold Zv at this;unfold Zl;omega)
 have lr:=Bo w.heap.W (w.Q.getD w.D.toNat M);have cf:=BG.1 ok.C;have ld:=G4 ok.W (w.Q.getD w.D.toNat M);have b:=GD w (w.Q.getD w.D.toNat M);have o:=Rj w (w.Q.getD w.D.toNat M);have e:=IH (Z1 w.heap.W (w.Q.getD w.D.toNat M)).1 ld.1;have el:(Z1 w.heap.W (w.Q.getD w.D.toNat M)).1=w.heap.W.getD ((w.Q.getD w.D.toNat M-4096).toNat+Ld 0) M:=by(unfold Z1;rw[if_pos oq];rfl)
 unfold Bh C8 Zv at *;rw[el]at hd ld b o e hN a c k1 h i l n⊢;try rw[el]at m
 rw[show Hn (Bt w (w.Q.getD w.D.toNat M) (ZC (Z6 (w.heap.W.getD ((w.Q.getD w.D.toNat M-(4096:Int)).toNat+Ld (0:Int)) M)).1) (ZC (Z6 (w.heap.W.getD ((w.Q.getD w.D.toNat M-(4096:Int)).toNat+Ld (0:Int)) M)).1).length) (↑(ZC (Z6 (w.heap.W.getD ((w.Q.getD w.D.toNat M-(4096:Int)).toNat+Ld (0:Int)) M)).1).length:Int)=Z7.mk (Bt w (w.Q.getD w.D.toNat M) (ZC (Z6 (w.heap.W.getD ((w.Q.getD w.D.toNat M-(4096:Int)).toNat+Ld (0:Int)) M)).1) (ZC (Z6 (w.heap.W.getD ((w.Q.getD w.D.toNat M-(4096:Int)).toNat+Ld (0:Int)) M)).1).length).heap (Bt w (w.Q.getD w.D.toNat M) (ZC (Z6 (w.heap.W.getD ((w.Q.getD w.D.toNat M-(4096:Int)).toNat+Ld (0:Int)) M)).1) (ZC (Z6 (w.heap.W.getD ((w.Q.getD w.D.toNat M-(4096:Int)).toNat+Ld (0:Int)) M)).1).length).old (Bt w (w.Q.getD w.D.toNat M) (ZC (Z6 (w.heap.W.getD ((w.Q.getD w.D.toNat M-(4096:Int)).toNat+Ld (0:Int)) M)).1) (ZC (Z6 (w.heap.W.getD ((w.Q.getD w.D.toNat M-(4096:Int)).toNat+Ld (0:Int)) M)).1).length).T (Bt w (w.Q.getD w.D.toNat M) (ZC (Z6 (w.heap.W.getD ((w.Q.getD w.D.toNat M-(4096:Int)).toNat+Ld (0:Int)) M)).1) (ZC (Z6 (w.heap.W.getD ((w.Q.getD w.D.toNat M-(4096:Int)).toNat+Ld (0:Int)) M)).1).length).Q ((Bt w (w.Q.getD w.D.toNat M) (ZC (Z6 (w.heap.W.getD ((w.Q.getD w.D.toNat M-(4096:Int)).toNat+Ld (0:Int)) M)).1) (ZC (Z6 (w.heap.W.getD ((w.Q.getD w.D.toNat M-(4096:Int)).toNat+Ld (0:Int)) M)).1).length).D+(1:Int)) (Rep.mk (Bt w (w.Q.getD w.D.toNat M) (ZC (Z6 (w.heap.W.getD ((w.Q.getD w.D.toNat M-(4096:Int)).toNat+Ld (0:Int)) M)).1) (ZC (Z6 (w.heap.W.getD ((w.Q.getD w.D.toNat M-(4096:Int)).toNat+Ld (0:Int)) M)).1).length).rep.copied (Bt w (w.Q.getD w.D.toNat M) (ZC (Z6 (w.heap.W.getD ((w.Q.getD w.D.toNat M-(4096:Int)).toNat+Ld (0:Int)) M)).1) (ZC (Z6 (w.heap.W.getD ((w.Q.getD w.D.toNat M-(4096:Int)).toNat+Ld (0:Int)) M)).1).length).rep.kept (Bt w (w.Q.getD w.D.toNat M) (ZC (Z6 (w.heap.W.getD ((w.Q.getD w.D.toNat M-(4096:Int)).toNat+Ld (0:Int)) M)).1) (ZC (Z6 (w.heap.W.getD ((w.Q.getD w.D.toNat M-(4096:Int)).toNat+Ld (0:Int)) M)).1).length).rep.filled (Bt w (w.Q.getD w.D.toNat M) (ZC (Z6 (w.heap.W.getD ((w.Q.getD w.D.toNat M-(4096:Int)).toNat+Ld (0:Int)) M)).1) (ZC (Z6 (w.heap.W.getD ((w.Q.getD w.D.toNat M-(4096:Int)).toNat+Ld (0:Int)) M)).1).length).rep.freed (Bt w (w.Q.getD w.D.toNat M) (ZC (Z6 (w.heap.W.getD ((w.Q.getD w.D.toNat M-(4096:Int)).toNat+Ld (0:Int)) M)).1) (ZC (Z6 (w.heap.W.getD ((w.Q.getD w.D.toNat M-(4096:Int)).toNat+Ld (0:Int)) M)).1).length).rep.cleared ((Bt w (w.Q.getD w.D.toNat M) (ZC (Z6 (w.heap.W.getD ((w.Q.getD w.D.toNat M-(4096:Int)).toNat+Ld (0:Int)) M)).1) (ZC (Z6 (w.heap.W.getD ((w.Q.getD w.D.toNat M-(4096:Int)).toNat+Ld (0:Int)) M)).1).length).rep.steps+((1:Int)+(↑(ZC (Z6 (w.heap.W.getD ((w.Q.getD w.D.toNat M-(4096:Int)).toNat+Ld (0:Int)) M)).1).length:Int))))from by(simp[Hn, *];omega)];exact borF [0,1,8002,3,8004,8005] [8002,8004,8005] func131 [] (Fh 52 [.el (wdv (w.heap.W.getD ((w.Q.getD w.D.toNat M-4096).toNat+Ld 0) M))] (FlG 28 (!decide (w.D<0)) wdv w.Q (Ffb 30 (Lb (w.D<0)||Lb ((w.Q.length:Int)<=w.D)) (Fmq 40 wdv w.Q w.D (Fbq 44 [0,1,8002,3,8004,8005] (@Hj w (w.Q.getD w.D.toNat M) (1) aa oq) (Fo ((0:Int)<=0/\Ld 0<Ld 1) (Fa (by exact B4 oq:(La wdv w.heap.W)[(w.Q.getD w.D.toNat M-4096).toNat+Ld 0]?=Le (wdv (w.heap.W.getD ((w.Q.getD w.D.toNat M-4096).toNat+Ld 0) M))) (Fc 53 (@H7 (w.heap.W.getD ((w.Q.getD w.D.toNat M-4096).toNat+Ld 0) M) oq oq) (Fc 60 (@EK ((Z6 (w.heap.W.getD ((w.Q.getD w.D.toNat M-4096).toNat+Ld 0) M)).1) aa) (Fbq 61 [0,1,8002,3,8004,8005] (@Hj w (w.Q.getD w.D.toNat M) (Z5 (Z6 (w.heap.W.getD ((w.Q.getD w.D.toNat M-4096).toNat+Ld 0) M)).1) aa oq) (Ffs 69 (!(Z6 (w.heap.W.getD ((w.Q.getD w.D.toNat M-4096).toNat+Ld 0) M)).2||Lc) (Fc 71 (@Z1H ((Z6 (w.heap.W.getD ((w.Q.getD w.D.toNat M-4096).toNat+Ld 0) M)).1) aa) (Fl 73 idv (ZC (Z6 (w.heap.W.getD ((w.Q.getD w.D.toNat M-(4096:Int)).toNat+Ld (0:Int)) M)).1) (Fu (@ZkA w (w.Q.getD w.D.toNat M) (Z5 (Z6 (w.heap.W.getD ((w.Q.getD w.D.toNat M-4096).toNat+Ld 0) M)).1) (ZC (Z6 (w.heap.W.getD ((w.Q.getD w.D.toNat M-4096).toNat+Ld 0) M)).1) aa oq (by grind[Hn]) oq oq aa) (Fi 101 ((Bt w (w.Q.getD w.D.toNat M) (ZC (Z6 (w.heap.W.getD ((w.Q.getD w.D.toNat M-4096).toNat+Ld 0) M)).1) (ZC (Z6 (w.heap.W.getD ((w.Q.getD w.D.toNat M-4096).toNat+Ld 0) M)).1).length).D+1) (Fl 110 idv (ZC (Z6 (w.heap.W.getD ((w.Q.getD w.D.toNat M-(4096:Int)).toNat+Ld (0:Int)) M)).1) (Fi 111 (1+(↑(ZC (Z6 (w.heap.W.getD ((w.Q.getD w.D.toNat M-4096).toNat+Ld 0) M)).1).length:Int)) (Fi 112 ((Bt w (w.Q.getD w.D.toNat M) (ZC (Z6 (w.heap.W.getD ((w.Q.getD w.D.toNat M-4096).toNat+Ld 0) M)).1) (ZC (Z6 (w.heap.W.getD ((w.Q.getD w.D.toNat M-4096).toNat+Ld 0) M)).1).length).rep.steps+(1+(↑(ZC (Z6 (w.heap.W.getD ((w.Q.getD w.D.toNat M-4096).toNat+Ld 0) M)).1).length:Int))) Fz))))))))))))))))))
structure HV (w:Z7):Prop where
 k:IA w
 sc:0<=w.D
 hr:w.D<w.Q.length->4096<=w.Q.getD w.D.toNat M/\w.Q.getD w.D.toNat M+Zl w.heap.W (w.Q.getD w.D.toNat M)<4096+w.heap.W.length
 hd:w.D<w.Q.length->(Z6 (Z1 w.heap.W (w.Q.getD w.D.toNat M)).1).2=O
 hN:w.D<w.Q.length->Z2z w (C8 w) (Bh w)
def KI.sd{h T}:∀w n,(∃a,KI h T a w)->∃a,KI h T a (Hn w n):=
 λw n ⟨a,k⟩=>⟨a,k.c,k.sp,k.old,k.pl,k.wl,k.pg,k.tk,k.tk0,k.q,k.hd,k.dt,k.lg⟩
section
variable {h:Heap} {T:Nat->List Int} {w:Z7} (c:G2 h T w) (g:Gd h T)
include c g
theorem G2.dec{q:Int}(b:q∈w.Q):(Z6 (Z1 w.heap.W q).1).2=O:=by obtain⟨tq,k⟩:=c.k;rcases k.q q b with⟨i,nt,a,hk,d⟩|⟨i,f,a⟩;rcases k.hd i q a with e|e;rw[e];exact(g.on a).2.2.2.2.2.1;exact absurd e.2.2 d;exact(GE (k.tk i f).2.2.2.2.2.1 a).1
theorem G2.in1{q j:Int}(d:q∈w.Q)(a:0<=j)(b:j<Zl w.heap.W q)(e:(w.fwd (Z1 w.heap.W (q+1+j)).1).2.2=0):G2 h T (w.in1 (q+1+j)):=by obtain⟨tq,k⟩:=c.k;exact⟨k.in1 g c.ok c.inv d ⟨a,b⟩ e,(Z4r c.ok _ e).1,(Z6n c.ok c.inv d ⟨a,b⟩ e).1,c.so.fwd c.ok _ e⟩
theorem G2.inn{q:Int}(a:q∈w.Q){l:List Int}(hl:∀x∈l,0<=x/\x<Zl w.heap.W q)(k:Nat)(d:k<=l.length)(b:∀j,j<k->CI w q l j=0):G2 h T (Bt w q l k):=
 ⟨Me (λw=>∃o,KI h T o w) (λw q j f n ⟨_,k⟩ a i m e=>k.in1 g f n a ⟨i,m⟩ e) c.ok c.inv c.k a hl k d b,(Nb c.ok q l k b).1,(Tv c.ok c.inv a hl k d b).1,Me (λw=>GW w.heap.P) (λw q j f n p a i m e=>p.fwd f _ e) c.ok c.inv c.so a hl k d b⟩
theorem G2.step(e:(ZZ w).2.2=0):G2 h T (ZZ w).1:=
 ⟨OM (λw=>∃l,KI h T l w) (λw q j a f ⟨_,k⟩ i b d e=>k.in1 g a f i ⟨b,d⟩ e) KI.sd c.ok c.inv c.k e,(Z0j c.ok e).1,(Z0P c.ok c.inv e).1,OM (λw=>GW w.heap.P) (λw q j a f p i b d e=>p.fwd a _ e) (λ_ _ p=>p) c.ok c.inv c.so e⟩
theorem G2.stp:HV w:=by have sc:=c.ok.sc;have i:w.D<w.Q.length->C8 w∈w.Q:=λb=>Bm.2 ⟨w.D.toNat,by omega,rfl⟩;refine⟨c.ck,sc.1,λb=>c.inv.r _ (List.mem_append_right _ (i b)),λb=>c.dec g (i b),λb=>?_⟩;obtain⟨tq,m⟩:=c.k;have n:=SA (Zv w (C8 w));have f:=λk d a=>c.inn g (i b) (l:=Bh w) n k d a;refine⟨λk d a=>(f k oq a).fw g (G4 (f k oq a).ok.W _),λk d a=>?_,λk d a e=>?_⟩;obtain⟨_,j⟩:=(f k d a).k;exact j.wl.trans m.wl.symm;obtain⟨_,j⟩:=((f k oq a).fwd g e).k;exact j.wl.trans m.wl.symm
theorem G2.roots{roots}(k:Nat)(a:∀j,j<k->CW w roots j=0):G2 h T (rootsN w roots k).1:=by
 induction k with|zero=>exact c|succ k b=>exact(b λj hj=>a j oq).fwd g (a k oq)
theorem G2.rts{roots}(hr:Zx roots):Z2n w roots:=λk hk a=>(c.roots g k a).fw g (Z2s hr k)
theorem G2.rootsF{roots}(e:(rootsF w roots).2.2=0):G2 h T (rootsF w roots).1:=by
 cases hb:(Lg roots.length).find? (λk=>Lb (CW w roots k≠0))with
 |none =>
  have b:∀j,j<roots.length->CW w roots j=0:=λj d=>by(have:=Ll.1 hb j (Li.2 d);simpa using this)
  have a:Go.Proofs.YtgedmeaemofdkaaGreat.rootsF w roots=((rootsN w roots roots.length).1,(rootsN w roots roots.length).2,0):=by unfold Go.Proofs.YtgedmeaemofdkaaGreat.rootsF;rw[hb]
  rw[a];exact c.roots g _ b
 |some i =>
  have a:Go.Proofs.YtgedmeaemofdkaaGreat.rootsF w roots=(GL,[],CW w roots i):=by unfold Go.Proofs.YtgedmeaemofdkaaGreat.rootsF;rw[hb]
  rw[a]at e;have:=of_decide_eq_true (Lm.1 hb).1;exact absurd e this
end
def Sj(w:Z7):List (Nat×Z4):=[(22009,Bc w.Q),(21009,EM w.T),(20009,Bc w.old),(19009,EN w.heap.P),(18009,Bc w.heap.W)]
def Z05(w:Z7):Tg:=⟨tm 26 [(2,.pt 8002 0 0),(3,int 0),(4,.pt 17009 0 0),(5,.fm 131 (.pt 17009 0 0))],(8002,.box 127 zW)::(17009,w.ckB 18009 19009 20009 21009 22009)::Sj w,4⟩
def Z3D{w}(m:(ZZ w).2.1=O):w.D<w.Q.length/\(∀j,j<(Bh w).length->CI w (C8 w) (Bh w) j=0)/\(ZZ w).1=Hn (Bt w (C8 w) (Bh w) (Bh w).length) (Bh w).length:=by
 unfold ZZ at m⊢;split at m;rename_i a;rw[if_pos a];cases hb:(Lg (Bh w).length).find? (λk=>Lb (CI w (C8 w) (Bh w) k≠0))with|none =>refine⟨a,λj b=>?_,rfl⟩;have:=Ll.1 hb j (Li.2 b);simpa using this|some i=>rw[hb]at m;cases m
 cases m
def step_end{w}(e:(ZZ w).2.2=0)(m:(ZZ w).2.1=Lc):¬ w.D<w.Q.length/\(ZZ w).1=w:=by
 unfold ZZ at e m⊢;split at m;rename_i a;rw[if_pos a]at e;cases hb:(Lg (Bh w).length).find? (λk=>Lb (CI w (C8 w) (Bh w) k≠0))with|none=>rw[hb]at m;cases m|some i =>rw[hb]at e;exact absurd e (of_decide_eq_true (Lm.1 hb).1)
 rename_i a;rw[if_neg a];exact⟨a,rfl⟩
def Zco w(k:HV w)(m:(ZZ w).2.1=O):CP (Zm f78 0) (Z05 w).st .nrm (Z05 (ZZ w).1).st:=by obtain⟨a,h0,e⟩:=Z3D m;rw[e];obtain⟨kk,sc,hr,hd,hN⟩:=k;have hr:=hr a;have hd:=hd a;have hN:=hN a;exact sF [(33014,19009),(34014,21009),(35014,22009)] [] (Fbr 14 [17009,18009,19009,20009,21009,22009] (@Zfd w aa aa aa aa aa aa aa) Fz)
def ZdU w(k:HV w)(hs:¬ w.D<w.Q.length):CP (Zm f78 0) (Z05 w).st .ret (Tg.st ⟨tm 26 [(2,.pt 8002 0 0),(3,int 0)],(8002,.box 127 (w.ckc 18009 19009 20009 21009 22009))::Sj w,60⟩):=by have ln:=k.k.ln;have sc:=k.sc;exact sF [] [] (Fbq 14 [17009,18009,19009,20009,21009,22009] (@Zfb w aa aa aa) Fz)
def Z0D(w:Z7):Prop:=∀k,(∀j,j<k->Ec w j=Lc)->HV (Cg w k)/\(ZZ (Cg w k)).2.2=0
def Z67{w}{j:Nat}(h:Ec w j=Lc):(ZZ (Cg w j)).2.1=O:=by simp only[Ec,decide_eq_false_iff_not,not_or,L4]at h;simpa using h.2
def Zb3 w(R:Z0D w) k(d:(Lg (RE w)).find? (Ec w)=Le k):CP (Zj f78 0) (Tg.st ⟨tm 26 [(2,.pt 8002 0 0),(3,int 0),(4,.pt 17009 0 0),(5,.fm 131 (.pt 17009 0 0))],(8002,.box 127 zW)::(17009,w.ckB 18009 19009 20009 21009 22009)::Sj w,4⟩) .ret (Tg.st ⟨tm 26 [(2,.pt 8002 0 0),(3,int 0)],(8002,.box 127 ((Bs w).1.ckc 18009 19009 20009 21009 22009))::Sj (Bs w).1,60⟩):=by
 obtain⟨c,h2,l⟩:=Lm.1 d;have a:∀j,j<k->Ec w j=Lc:=λj b=>by simpa using l j b
 obtain⟨f,e⟩:=R k a;have m:(ZZ (Cg w k)).2.1=Lc:=by(simp only[Ec,decide_eq_true_eq,e]at c;simpa using c)
 obtain⟨n,g⟩:=step_end e m;have h:Bs w=(Cg w k,0):=by rw[Bs,d];simp only[if_pos e];rw[g]
 rw[h];exact EY (S:=λk=>(Z05 (Cg w k)).st) k kr (λj b=>Zco _ (R j λi hi=>a i oq).1 (Z67 (a j b))) (ZdU _ f n)
def Zjm(w:Z7)(hw:B7 w)(R:Z0D w):GP 78 [w.av] O (.tu [(Bs w).1.av,int 0]) []:=by
 obtain⟨k,hb⟩:=RQ hw;have ln:=(R 0 λj hj=>absurd hj (Nat.not_lt_zero j)).1.k.ln;have ln:Sz w:=ln;exact gF [] func78 [] (Fbr 9 [] (@Z16 w aa) (Fu (@Zb3 w aa k hb) (Fa (by exact Hd _:Ci (La wdv (Bs w).1.heap.W)) (Fa (by exact IC _:Ci (La Z0.dv (Bs w).1.heap.P)) (Fa (by exact Hd _:Ci (La wdv (Bs w).1.old)) (Fa (by exact AG _:Ci (La idv (Bs w).1.T)) (Fa (by exact Hd _:Ci (La wdv (Bs w).1.Q)) Fz)))))))
end Go.Proofs.YtgedmeaemofdkaaGreat
