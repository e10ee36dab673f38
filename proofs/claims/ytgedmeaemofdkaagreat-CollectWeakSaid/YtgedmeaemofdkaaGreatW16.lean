/-
 The statement CollectWeak: part 16.
 Conditions: none.
-/
import Derived.Defers
import Derived.WalkKit
import Derived.Test.YtgedmeaemofdkaaGreatW15
set_option maxRecDepth 100000
set_option maxHeartbeats 2000000
set_option linter.all false
open Inhabited renaming default->M
open Bool renaming true->O,false->Lc,not_eq_true'->Lx,and_eq_true->LG,or_false->LH
open List renaming map->La,range->Lg,replicate->Lh,mem_range->Li,drop->Lj,take->Lk,find?_eq_none->Ll,find?_range_eq_some->Lm,getD_eq_getElem?_getD->Lo,length_map->Lp,length_take->Lr,getElem?_eq_getElem->Ls,length_replicate->Lt,map_append->Lu,getElem?_drop->Ly,getElem?_take->Lz,length_drop->LA,map_drop->LB,map_take->LC,find?_cons->LQ,getElem?_append->LR,getElem?_append_left->LS,getElem?_append_right->LU,map_replicate->LV,mem_map->LW,mem_of_find?_eq_some->LY,mem_of_getElem?->LZ,mem_replicate->L0,nodup_nil->L1
open Decidable renaming decide->Lb,not_not->L4
open Int renaming toNat->Ld,add_mul->LI,mul_comm->LL,mul_le_mul_of_nonneg_right->LM,one_mul->LN,tdiv_eq_ediv_of_nonneg->LO
open Option renaming some->Le,none->Lf,getD_some->LD,isSome_iff_exists->L2,map_some->L3
open Classical renaming not_not->Ln
open Go.IntKind renaming i64->Lq
open Nat renaming le_refl->Lv
open Array renaming replicate->Lw,getElem?_append->LF
open Go.Proofs.Tryz
namespace Go.Sx
def CSpec.seq{P c d s t u e}(h:CSpec P c s .nrm t)(k:CSpec P d t e u):CSpec P (.seq c d) s e u:=by intro f b g a w S;refine wp_seq (wp_mono (h f b g a w S) ?_);rintro e' j l ⟨rfl,i⟩;exact k f b g j l i
def ZkR{P:Program}{f:Nat}{fn c}{args l:List AV}{fr}{res x:AV}{ns:List Z4}{p qq:List Prop}{st}{kp:List Nat}(b:kp.Nodup)(s:P.funcs[f]?=Le fn)(r:fn.body=Le c)(h:CSpec P c ⟨args++Lh (fn.ntmps-args.length) .any,λ_=>Lf,1⟩ .ret st)(hl:Rm P st.tmps st.H fn.results.toList=Le l)(t:Td kp st.H fr (Si l)=Le (x,p))(g:B5 p)(d:B5 (HT x res).2)(n:(HT x res).1=res)(k:SX kp st.H fr=Le (ns,qq))(i:B5 qq):GSpec P f args fr res ns:=by intro w Im vs j m a;refine calls_of_wp s r (wp_mono (h _ _ _ _ _ (Z0Y j m a)) ?_);rintro e a' w' ⟨rfl,S⟩;obtain⟨v,o,q⟩:=Z1X b S hl t g d n k i;obtain⟨_,_,_,T⟩:=S;exact⟨T.defers,v,o,v,rfl,q⟩
def Sys.defer{Ow Im0 w0 w tmps H clk a}(S:Sys Ow Im0 w0 tmps H clk a w)(D:List Deferred):Sys ⟨Ow.p,D⟩ Im0 w0 tmps H clk {a with defers:=D} w:=by obtain⟨ρ,b,I,T⟩:=S;exact⟨ρ,b,⟨I.kept,I.inj,I.notIm,I.bnd,I.own,I.imb,I.im0,I.blk,I.fresh,I.one⟩,⟨T.size,T.tmp,rfl⟩⟩
def Ta{P}{i:Nat}{l}{ops:Array Oper}{Q o a w}(c:ops[i]?=Le o)(b:o.guard=Lf)(h:o.wp P a w (wpOps P ops Q l) Q):wpOps P ops Q (i::l) a w:=by rw[wpOps];simp only[c];rw[if_pos (by simp[Region.wanted,b])];exact .inl h
def Zc0:Code->Code|.seq _ y=>y|c=>c
def ZaU:Code->Code|.seq x _=>x|c=>c
def Z9a:Nat->Code->Code|0,c=>c|n+1,c=>Z9a n (Zc0 c)
def tlF(fn:Func)(n:Nat):Code:=match fn.body with|some c=>Z9a n c|none=>.skip
def RN(fn:Func)(n:Nat):Code:=ZaU (tlF fn n)
end Go.Sx
namespace Go.Proofs.YtgedmeaemofdkaaGreat
open Go.Sx Go.RowKit
def EA(s k:List Int):AV:=.d (.sl 1 [[.sl 1 (s.map wdv)],[.sl 1 (k.map wdv)]])
def ccA(s k:List Int)(n:Int)(i:Nat):Tg:=⟨tm 36 [(0,EA s k),(2,.d (.sl 0 [])),(3,int n),(9,EA s k),(10,int 2),(11,int i)],[],4⟩
section
variable (s k:List Int) (hs:s.length<=1048575) (hk:k.length<=1048575)
include hs hk
theorem Zcg:CP (Zm f75 0) (ccA s k 0 0).st .nrm (ccA s k s.length 1).st:=by exact sF [] (fO 2) (Fh 13 [.el [DV.sl 1 (La wdv s)]] (Fa (by simp[*]:0<=(↑(0:Nat):Int)/\[[DV.sl 1 (La wdv s)],[DV.sl 1 (La wdv k)]][(↑(0:Nat):Int).toNat]?=Le [DV.sl 1 (La wdv s)]) (Fl 17 wdv s (Fi 18 (0+(s.length:Int)) (Fo (0+(s.length:Int)=(s.length:Int)) Fz)))))
theorem ZdE:CP (Zm f75 0) (ccA s k s.length 1).st .nrm (ccA s k (s.length+k.length) 2).st:=by exact sF [] [] (Fh 13 [.el [DV.sl 1 (La wdv k)]] (Fa (by simp[*]:0<=(↑(1:Nat):Int)/\[[DV.sl 1 (La wdv s)],[DV.sl 1 (La wdv k)]][(↑(1:Nat):Int).toNat]?=Le [DV.sl 1 (La wdv k)]) (Fl 17 wdv k (Fi 18 ((s.length:Int)+(k.length:Int)) Fz))))
theorem ZdS:CP (Zm f75 0) (ccA s k (s.length+k.length) 2).st (.ext 0) (Tg.st ⟨tm 36 [(0,EA s k),(2,.d (.sl 0 [])),(3,int (s.length+k.length))],[],4⟩):=by exact sF [] [] Fz
def ZiE  := Bs (S:=λi=>(ccA s k (if i=0 then 0 else if i=1 then s.length else s.length+k.length) i).st) 2 (by kernel_rfl) (λi hi=>by
  have:i=0\/i=1:=by omega
  rcases this with rfl|rfl
  .exact Zcg s k hs hk
  .exact ZdE s k hs hk) (ZdS s k hs hk)
theorem ZdZ:CP (RN f75 0) (Tg.st ⟨tm 36 [(0,EA s k)],[],1⟩) .nrm (Tg.st ⟨tm 36 [(0,EA s k),(2,.d (.sl 0 []))],[],2⟩):=by exact sF [] [] Fz
theorem Zak:CP (RN f75 1) (Tg.st ⟨tm 36 [(0,EA s k),(2,.d (.sl 0 []))],[],2⟩) .nrm (Tg.st ⟨tm 36 [(0,EA s k),(2,.d (.sl 0 [])),(3,int 0)],[],3⟩):=by exact sF [] [] Fz
theorem Zfz:CP (RN f75 2) (Tg.st ⟨tm 36 [(0,EA s k),(2,.d (.sl 0 [])),(3,int 0)],[],3⟩) .nrm (Tg.st ⟨tm 36 [(0,EA s k),(3,int (s.length+k.length))],[],5⟩):=by exact sF [] [] (Fh 10 [.int (↑(0+1+1):Int)] (Fr (↑[[DV.sl (1:Nat) (La wdv s)],[DV.sl (1:Nat) (La wdv k)]].length:Int) (Fu (@ZiE s k aa aa) Fz)))
def ccD(s k:List Int)(l:List Int)(i:Nat):Tg:=⟨tm 36 [(6,.ow 41024),(25,EA s k),(26,int 2),(27,int i)],[(41024,.arr 35 1 (l.map wdv))],7⟩
theorem Za3:CP (Zm f75 2) (ccD s k [] 0).st .nrm (ccD s k s 1).st:=by
 exact sF [(72033,41024)] [] (Fh 29 [.el [DV.sl 1 (La wdv s)]] (Fa (by simp[*]:0<=(↑(0:Nat):Int)/\[[DV.sl 1 (La wdv s)],[DV.sl 1 (La wdv k)]][(↑(0:Nat):Int).toNat]?=Le [DV.sl 1 (La wdv s)]) (Fa (by(simp[*];omega):(La wdv []).length+(La wdv s).length<=2^30) (Fs 33 (La wdv s) Fz))))
theorem Zds:CP (Zm f75 2) (ccD s k s 1).st .nrm (ccD s k (s++k) 2).st:=by
 exact sF [(72033,41024)] [] (Fh 29 [.el [DV.sl 1 (La wdv k)]] (Fh 33 [.els (La wdv (s++k))] (Fa (by simp[*]:0<=(↑(1:Nat):Int)/\[[DV.sl 1 (La wdv s)],[DV.sl 1 (La wdv k)]][(↑(1:Nat):Int).toNat]?=Le [DV.sl 1 (La wdv k)]) (Fa (by(simp only[Lp];omega):(La wdv s).length+(La wdv k).length<=2^30) (Fa (ms:La wdv s++La wdv k=La wdv (s++k)) Fz)))))
theorem ZhL:CP (Zm f75 2) (ccD s k (s++k) 2).st (.ext 2) (Tg.st ⟨tm 36 [(6,.ow 41024)],[(41024,.arr 35 1 ((s++k).map wdv))],7⟩):=by exact sF [] [] Fz
def Zi1  := Bs (S:=λi=>(ccD s k (if i=0 then []else if i=1 then s else s++k) i).st) 2 (by kernel_rfl) (λi hi=>by
  have:i=0\/i=1:=by omega
  rcases this with rfl|rfl
  .exact Za3 s k hs hk
  .exact Zds s k hs hk) (ZhL s k hs hk)
theorem Zce:CP (tlF f75 4) (Tg.st ⟨tm 36 [(0,EA s k),(6,.ow 41024)],[(41024,.arr 35 1 [])],6⟩) .ret (Tg.st ⟨tm 36 [(2,.ow 41024)],[(41024,.arr 35 1 ((s++k).map wdv))],8⟩):=by exact sF [] [] (Fh 26 [.int (↑(0+1+1):Int)] (Fr (↑[[DV.sl (1:Nat) (La wdv s)],[DV.sl (1:Nat) (La wdv k)]].length:Int) (Fu (@Zi1 s k aa aa) Fz)))
end
def Zc1 s k(n:Int)(h:0<=n/\n<=2097152):CP (RN f75 3) (Tg.st ⟨tm 36 [(0,EA s k),(3,int n)],[],5⟩) .nrm (Tg.st ⟨tm 36 [(0,EA s k),(6,.ow 41024)],[(41024,.arr 35 1 [])],6⟩):=by
 rintro Ow m w0 a w ⟨ρ,Im,I,T⟩;rw[show RN f75 3=.region 9 (BJ f75 9) Lc from by kernel_rfl];refine wp_region ?_;rw[show Lg (BJ f75 9).size=[0,1,2]from by kernel_rfl];have j:=T.put 23 (E4 T (.tmp 3));refine Ta (o:=(BJ f75 9).getD 0 M) kr kr (SI (Z67 (x:=.tmp 3) kr) ?_);show wpOps prog (BJ f75 9) _ [1,2] (a.put (Le 23) (a.eval (.tmp 3))) w;refine Ta (o:=(BJ f75 9).getD 1 M) kr kr (Z9y (c:=⟨.value (.func 128),#[.const (.slice Lf 0 0),.tmp 23],#[25,3]⟩) (f:=.func 128) (cs:=#[]) (d:=24) (ImC:=λ_=>False) kr rfl kr kr kr (ZcT n h) I j rfl pq (λ_ q=>q.elim) (λq=>by cases q) (λi x v e b=>?_) λρ2 g v w' J T2 r=>?_);match i,e,b with|0,e,b =>cases e;simp at b;rw[<-b];exact .d (.sc _ rfl)|1,e,b =>cases e;simp only[List.map_toArray,List.map_cons,List.map_nil,Array.append_empty,List.getElem?_toArray,List.getElem?_cons_succ,List.getElem?_cons_zero,Option.some.injEq]at b;have r1:(a.put (Le 23) (a.eval (.tmp 3))).eval (.tmp 23)=.int .i64 n:=C0 (E4 j (.tmp 23));rw[<-b,r1];exact .d (.sc _ rfl)
 have l:=T2.put 24 r;have p:=l.put 6 (E4 l (.tmp 24));refine Ta (o:=(BJ f75 9).getD 2 M) kr kr (SI (Z33 (x:=.tmp 24) kr) ?_);refine⟨rfl,Z0A (s:=⟨_,_,6⟩) kr kr (Sys.clk ⟨ρ2,g,J,p⟩ (Nat.le_succ 5))⟩
def Z51(s k:List Int)(hs:s.length<=1048575)(a:k.length<=1048575):GP 75 [EA s k] O (Z3 (s++k)) []:=by have c:=(ZdZ s k hs a).seq ((Zak s k hs a).seq ((Zfz s k hs a).seq ((Zc1 s k (s.length+k.length) oq).seq (Zce s k hs a))));rw[show Tg.st ⟨tm 36 [(0,EA s k)],[],1⟩=⟨[EA s k]++Lh (Tryz.f75.ntmps - [EA s k].length) .any,λ_=>Lf,1⟩from by kernel_rfl]at c;exact ZkR (kp:=[]) (l:=[.ow 41024]) (x:=Z3 (s++k)) (qq:=[]) (p:=[Ci ((s++k).map wdv)]) L1 func75 kr c kr kr (Hr _) trivial kr kr trivial
end Go.Proofs.YtgedmeaemofdkaaGreat
namespace Go.Proofs.YtgedmeaemofdkaaGreat
open Go.Sx Go.RowKit
def Za9(a b c d e:Value) w :CallsD prog 72 #[a,b,c,d,e] .returning w λg i w'=>g=.returned (.tuple #[])/\i=.returning/\w'=w:=by refine callsD_of_wpS func72 rfl λf cs h=>?_;apply wpS_seq;apply wpS_region;simp[wpOpsS,go_sem,recoverD,h,Tryz.ntmps72,Exit.thenS];apply wpS_seq;apply wpS_region;simp[wpOpsS,go_sem,Tryz.ntmps72,Exit.thenS];refine wpS_cond (t:=Lc) (by simp[Act.eval,go_sem,Lw]) ?_;simp only[Bool.false_eq_true,if_false];refine wpS_of_wp (wp_skip ?_);cases f;simp_all[bodyPostS,results,Tryz.results72]
end Go.Proofs.YtgedmeaemofdkaaGreat
namespace Go.Proofs.YtgedmeaemofdkaaGreat
open Go.Sx Go.RowKit
structure Z5N (h:Heap) (s k:List Int) (w0 w1 w2 w3 w4 w5:Z6) (l o:List Int):Prop where
 b:GP 73 [h.av] Lc (.tu [w0.av,int 0]) []
 r:GP 74 [h.av,Z3 (s++k)] O (bool O) []
 t:GP 77 [w0.av,Z3 s] O (.tu [w1.av,Z3 l,int 0]) []
 a:GP 78 [w1.av] O (.tu [w2.av,int 0]) []
 w:BP 79 [.pt 0 0 0,Z3 k] [w2.evD] (.ow 1) [w3.evD,Bg o]
 f:BP 80 [.pt 0 0 0] [w3.evD] (.tu []) [w4.evD]
 g:BP 81 [.pt 0 0 0] [w4.evD] (.tu []) [w5.evD]
 sl:s.length<=1000
 kl:k.length<=1000
 tl:w5.T.length<=1000000
 sp:w5.heap.S=0\/w5.heap.S=1
def Zjr{P:Program}{o:Oper}{a:Act}{w:World}{f:Nat}{l:Array Operand}(b:o.op=.makeFunc (.func f) #[] l):(execOp a.eval o).run P w=.ok (.value (.func (.func f) #[] (l.map a.eval))) w:=by simp[execOp,b,Instr.makeFunc]
def ZgM{P}{o:Oper}{a:Act}{w}{c:Call}{x:Operand}{f:Nat}{l:Array Value}{next:Act->World->Prop}{Q}(d:o.op=.defer c)(b:c=⟨.value x,#[],#[]⟩)(e:a.eval x=.func (.func f) #[] l)(h:next ({a with defers:=⟨.fn (.func f) l,#[]⟩::a.defers}.put o.dst undef) w):o.wp P a w next Q:=by
 subst b;have:(execOp a.eval o).run P w=.ok (.defer ⟨.fn (.func f) l,#[]⟩) w:=by simp[execOp,d,resolve,e,Deferred.ofValue]
 unfold Oper.wp;rw[this];exact h
def clS(h:Heap)(s k:List Int):Tg:=⟨tm 79 [(1,Z3 s),(2,Z3 k),(3,.pt 8003 0 0),(6,.pt 8006 0 0),(7,.pt 8007 0 0),(8,.pt 8008 0 0),(9,.pt 8009 0 0),(10,.pt 8010 0 0)],[(8003,.box 28 h.cells),(8006,.box 28 [int 0,int 0,.d (.sl 0 []),.d (.sl 0 []),int 0,int 0]),(8007,.box 25 [.d (.sl 0 [])]),(8008,.box 25 [.d (.sl 0 [])]),(8009,.box 73 [int 0,int 0,int 0,int 0,int 0,int 0]),(8010,.box 32 [int 0])],2⟩
section
variable {h:Heap} {s k:List Int} {w0 w1 w2 w3 w4 a:Z6} {l o:List Int} (c:Z5N h s k w0 w1 w2 w3 w4 a l o)
include c
theorem Z6C:GP 73 [h.av] Lc (.tu [w0.av,int 0]) []:=c.b
theorem Z7j:GP 74 [h.av,Z3 (s++k)] O (bool O) []:=c.r
theorem Z66:GP 77 [w0.av,Z3 s] O (.tu [w1.av,Z3 l,int 0]) []:=c.t
theorem Z3L:GP 78 [w1.av] O (.tu [w2.av,int 0]) []:=c.a
theorem Z6f:BP 79 [.pt 0 0 0,Z3 k] [w2.evD] (.ow 1) [w3.evD,Bg o]:=c.w
theorem Z8G:BP 80 [.pt 0 0 0] [w3.evD] (.tu []) [w4.evD]:=c.f
theorem Z83:BP 81 [.pt 0 0 0] [w4.evD] (.tu []) [a.evD]:=c.g
omit c in
theorem ZcJ(h:Heap) s k:CP (RN f35 0) (Tg.st ⟨tm 79 [(0,h.av),(1,Z3 s),(2,Z3 k)],[],1⟩) .nrm (clS h s k).st:=by exact sF [] [] Fz
theorem Za8:CP (tlF f35 2) (clS h s k).st .ret (Tg.st ⟨tm 79 [(6,.pt 8006 0 0),(7,.pt 8007 0 0),(8,.pt 8008 0 0),(9,.pt 8009 0 0),(10,.pt 8010 0 0)],[(8006,.box 28 (Eo a).cells),(8007,.box 25 [Z3 l]),(8008,.box 25 [.ow 24049]),(24049,.arr 35 1 (o.map wdv)),(8009,.box 73 a.rep.cells),(8010,.box 32 [int 0])],60⟩):=by
 have sl:=c.sl;have kl:=c.kl;have tl:=c.tl;have sp:=c.sp;by_cases e:0<a.T.length;have d:Eo a=⟨a.heap.C,a.heap.W,a.heap.P,1-a.heap.S,ZG a⟩:=by rw[Eo,if_pos e]
 rw[d];refine Zg [((16:Nat),[Hint.call Lc (AV.tu [w0.av,int (0:Int)]) []]),((26:Nat),[Hint.call O (Z3 (s++k)) []]),((27:Nat),[Hint.call O (Sx.bool O) []]),((31:Nat),[Hint.call O (AV.tu []) []]),((35:Nat),[Hint.call O (AV.tu [w1.av,Z3 l,int (0:Int)]) []]),((40:Nat),[Hint.call O (AV.tu []) []]),((43:Nat),[Hint.call O (AV.tu [w2.av,int (0:Int)]) []]),((47:Nat),[Hint.call O (AV.tu []) []]),((49:Nat),[Hint.bor [(16011:Nat)] (AV.ow (1:Nat)) [w3.evD,Bg o]]),((50:Nat),[Hint.bor [(16011:Nat)] (AV.tu []) [w4.evD]]),((51:Nat),[Hint.bor [(16011:Nat)] (AV.tu []) [a.evD]]),((55:Nat),[Hint.int ((1:Int)-a.heap.S)]),((62:Nat),[Hint.int (a.T.length:Int)]),((64:Nat),[Hint.br O]),((68:Nat),[Hint.int ((a.T.length:Int)-(1:Int))]),((69:Nat),[Hint.el (idv (a.T.getD ((a.T.length:Int)-(1:Int)).toNat M))])] [] [((73049:Nat),(24049:Nat))] [] (φ:=GP 73 [h.av] Lc (AV.tu [w0.av,int (0:Int)]) []/\(((0:Int)==(0:Int))=O->GP 75 [EA s k] O (Z3 (s++k)) [])/\(((0:Int)==(0:Int))=O->GP 74 [h.av,Z3 (s++k)] O (Sx.bool O) [])/\GP 76 [int (0:Int)] O (AV.tu []) []/\GP 77 [w0.av,Z3 s] O (AV.tu [w1.av,Z3 l,int (0:Int)]) []/\GP 76 [int (0:Int)] O (AV.tu []) []/\GP 78 [w1.av] O (AV.tu [w2.av,int (0:Int)]) []/\GP 76 [int (0:Int)] O (AV.tu []) []/\BP 79 [AV.pt (0:Nat) (0:Nat) (0:Nat),Z3 k] [w2.evD] (AV.ow (1:Nat)) [w3.evD,Bg o]/\BP 80 [AV.pt (0:Nat) (0:Nat) (0:Nat)] [w3.evD] (AV.tu []) [w4.evD]/\BP 81 [AV.pt (0:Nat) (0:Nat) (0:Nat)] [w4.evD] (AV.tu []) [a.evD]/\Lq.wrap ((1:Int)-a.heap.S)=(1:Int)-a.heap.S/\(↑(La idv a.T).length:Int)=(a.T.length:Int)/\Lb ((0:Int)<(a.T.length:Int))=O/\O=O/\Lq.wrap ((a.T.length:Int)-(1:Int))=(a.T.length:Int)-(1:Int)/\(0:Int)<=(a.T.length:Int)-(1:Int)/\(La idv a.T)[((a.T.length:Int)-(1:Int)).toNat]?=Le (idv (a.T.getD ((a.T.length:Int)-(1:Int)).toNat M))) ?_ kr kr kr;exact⟨(@Z6C (h) (s) (k) (w0) (w1) (w2) (w3) (w4) (a) (l) (o) aa),(λb=>by(try simp only[bs]at b);exact@Z51 (s) (k) (by(try simp only[bs]at b);omega) (by(try simp only[bs]at b);omega)),(λb=>by(try simp only[bs]at b);exact@Z7j (h) (s) (k) (w0) (w1) (w2) (w3) (w4) (a) (l) (o) aa),(@Ig ((0:Int)) (by rfl)),(@Z66 (h) (s) (k) (w0) (w1) (w2) (w3) (w4) (a) (l) (o) aa),(@Ig ((0:Int)) (by rfl)),(@Z3L (h) (s) (k) (w0) (w1) (w2) (w3) (w4) (a) (l) (o) aa),(@Ig ((0:Int)) (by rfl)),(@Z6f (h) (s) (k) (w0) (w1) (w2) (w3) (w4) (a) (l) (o) aa),(@Z8G (h) (s) (k) (w0) (w1) (w2) (w3) (w4) (a) (l) (o) aa),(@Z83 (h) (s) (k) (w0) (w1) (w2) (w3) (w4) (a) (l) (o) aa),(by exact Ze rfl oq oq),(by simp only[Lp]),(by(simp only[bs];omega)),rfl,(by exact Ze rfl oq oq),(by exact Zl oq oq oq)⟩;have d:Eo a=⟨a.heap.C,a.heap.W,a.heap.P,1-a.heap.S,-1⟩:=by rw[Eo,if_neg e]
 rw[d];exact sF [(73049,24049)] [] (Fc 16 (@Z6C h s k w0 w1 w2 w3 w4 a l o aa) (FcG 26 ((0:Int)==0) (λb=>by(try simp only[bs]at b);exact@Z51 s k oq oq) (FcG 27 ((0:Int)==0) (λb=>by(try simp only[bs]at b);exact@Z7j h s k w0 w1 w2 w3 w4 a l o aa) (Fc 31 (@Ig (0) (by rfl)) (Fc 35 (@Z66 h s k w0 w1 w2 w3 w4 a l o aa) (Fc 40 (@Ig (0) (by rfl)) (Fc 43 (@Z3L h s k w0 w1 w2 w3 w4 a l o aa) (Fc 47 (@Ig (0) (by rfl)) (Fbr 49 [16011] (@Z6f h s k w0 w1 w2 w3 w4 a l o aa) (Fbr 50 [16011] (@Z8G h s k w0 w1 w2 w3 w4 a l o aa) (Fbr 51 [16011] (@Z83 h s k w0 w1 w2 w3 w4 a l o aa) (Fi 55 (1-a.heap.S) (Fl 62 idv a.T (Ffb 64 (Lb (0<(a.T.length:Int))) Fz))))))))))))))
def clT(a:Z6)(l o:List Int):Tg:=⟨tm 79 [(6,.pt 8006 0 0),(7,.pt 8007 0 0),(8,.pt 8008 0 0),(9,.pt 8009 0 0),(10,.pt 8010 0 0)],[(8006,.box 28 (Eo a).cells),(8007,.box 25 [Z3 l]),(8008,.box 25 [Z3 o]),(8009,.box 73 a.rep.cells),(8010,.box 32 [int 0])],60⟩
theorem Zam:CP (tlF f35 2) (clS h s k).st .ret (clT a l o).st:=
 CSpec.frz 24049 (Za8 c) kr
theorem Zbf:GP 35 [h.av,Z3 s,Z3 k] Lc (.tu [(Eo a).av,Z3 l,Z3 o,.ag a.rep.cells,int 0]) []:=by
 intro w y vs q r g;refine calls_of_wp_defers func35 (c:=.seq (RN f35 0) (.seq (RN f35 1) (tlF f35 2))) kr ?_;have S0:=Z0Y (n:=79) q r g;rw[show [h.av,Z3 s,Z3 k]++Lh (79 - [h.av,Z3 s,Z3 k].length) .any=tm 79 [(0,h.av),(1,Z3 s),(2,Z3 k)]from by kernel_rfl]at S0;refine wp_seq (wp_mono (ZcJ h s k _ _ _ _ _ S0) ?_);rintro e a1 w1 ⟨rfl,S1⟩;refine wp_seq ?_;rw[show RN f35 1=.region 1 (BJ f35 1) Lc from by kernel_rfl];refine wp_region ?_;rw[show Lg (BJ f35 1).size=[0,1]from by kernel_rfl];refine Ta (o:=(BJ f35 1).getD 0 M) kr kr (SI (Zjr (f:=72) (l:=#[.tmp 6,.tmp 7,.tmp 8,.tmp 9,.tmp 10]) kr) ?_);rw[show Array.map a1.eval #[.tmp 6,.tmp 7,.tmp 8,.tmp 9,.tmp 10]=#[a1.eval (.tmp 6),a1.eval (.tmp 7),a1.eval (.tmp 8),a1.eval (.tmp 9),a1.eval (.tmp 10)]from by simp];show wpOps prog (BJ f35 1) _ [1] (a1.put (Le 13) (.func (.func 72) #[] #[a1.eval (.tmp 6),a1.eval (.tmp 7),a1.eval (.tmp 8),a1.eval (.tmp 9),a1.eval (.tmp 10)])) w1;generalize a1.eval (.tmp 6)=v6,a1.eval (.tmp 7)=v7,a1.eval (.tmp 8)=v8,a1.eval (.tmp 9)=v9,a1.eval (.tmp 10)=v10;have j:Sx.Sys Ga y w ((clS h s k).st.tmps.set 13 .any) (clS h s k).st.H 2 (a1.put (Le 13) (.func (.func 72) #[] #[v6,v7,v8,v9,v10])) w1:=by(obtain⟨ρ,b,I,T⟩:=S1;exact⟨ρ,b,I,T.put 13 (.any _)⟩)
 have d:(a1.put (Le 13) (.func (.func 72) #[] #[v6,v7,v8,v9,v10])).eval (.tmp 13)=.func (.func 72) #[] #[v6,v7,v8,v9,v10]:=by
  obtain⟨ρ,b,I,T⟩:=S1;have:=T.size;have z:13<a1.tmps.size:=by rw[this,show(clS h s k).st.tmps.length=79 from by kernel_rfl];decide
  simp[Act.put,Act.eval,z]
 generalize a1.put (Le 13) (.func (.func 72) #[] #[v6,v7,v8,v9,v10])=a2 at j d⊢;refine Ta (o:=(BJ f35 1).getD 1 M) kr kr (ZgM (c:=⟨.value (.tmp 13),#[],#[]⟩) (x:=.tmp 13) kr rfl d ?_);have S3:=j.defer [⟨.fn (.func 72) #[v6,v7,v8,v9,v10],#[]⟩];have hd:a2.defers=[]:=by(obtain⟨_,_,_,T⟩:=j;exact T.defers)
 rw[hd];show Code.wp prog (tlF f35 2) _ {tmps:=a2.tmps,defers:=[⟨.fn (.func 72) #[v6,v7,v8,v9,v10],#[]⟩]} w1;have S6:=Z0A (s:=⟨(clS h s k).st.tmps.set 13 .any,(clS h s k).st.H,2⟩) (t:=clS h s k) kr kr S3;refine wp_mono (Zam c _ _ _ _ _ S6) ?_;rintro e m i ⟨rfl,S4⟩;obtain⟨ρ,b,I,T⟩:=S4;show Leaves _ _ m.tmps _ m.defers .returning i;rw[T.defers];refine leaves_cons (f:=72) (args:=#[v6,v7,v8,v9,v10]) pq (Rn kr _ _) ?_;refine(Za9 v6 v7 v8 v9 v10 i).mono ?_;rintro e u' u ⟨rfl,rfl,rfl⟩;have S5:Sx.Sys Ga y w (clT a l o).st.tmps (clT a l o).st.H 60 {m with defers:=[]} u:=⟨ρ,b,⟨I.kept,I.inj,I.notIm,I.bnd,I.own,I.imb,I.im0,I.blk,I.fresh,I.one⟩,⟨T.size,T.tmp,rfl⟩⟩;obtain⟨v,r1,r2⟩:=Z1X (P:=prog) (fn:=f35) (fr:=Lc) (ns:=[]) (l:=[(Eo a).av,Z3 l,Z3 o,.ag a.rep.cells,int 0]) (res:=.tu [(Eo a).av,Z3 l,Z3 o,.ag a.rep.cells,int 0]) (x:=.tu [(Eo a).av,Z3 l,Z3 o,.ag a.rep.cells,int 0]) (p:=[]) (qq:=[]) (st:=(clT a l o).st) (L1 (α:=Nat)) S5 kr kr trivial trivial kr kr trivial;exact⟨v,r1,v,rfl,r2⟩
end
end Go.Proofs.YtgedmeaemofdkaaGreat
namespace Go.Proofs.YtgedmeaemofdkaaGreat
open Go.Sx
def Z9G(h:Zw)(i:Int)(hm:0<=h.map/\h.map<=4294967295):GP 162 [h.av,int i] O (bool (Bl h i)) []:=by
 rcases bb (!ZR h||Lb (i<0)||Lb (h.length<=i))with hc0|hc0<;>have hc0p:=hc0<;>simp only[bs]at hc0p
 .exact gF [] func162 (fO 6) (Fc 6 (@SL h aa) (Ft 17 hc0 (Fa (by grind[Bl]:Lc=Bl h i) Fz)))
 .obtain⟨⟨hc0paa,hc0pab⟩,hc0pb⟩:=hc0p;have hf3:=Gl.1 hc0paa;obtain⟨hf3a,⟨hf3ba,⟨hf3bba,⟨hf3bbba,hf3bbbb⟩⟩⟩⟩:=hf3;exact gF [] func162 (fO 17) (Fc 6 (@SL h aa) (Ff 17 hc0 (Fa (by intro hg;(try simp only[bs]at hg);omega:(!h.K==2&&h.K==1)=O->0<=i) (Fa (by exact Z3X h i hm aa oq oq:(h.K==2||h.K==1&&bits BinOp.and IntKind.u32 (h.map.fdiv (2^min i.toNat 32)) (1:Int)==1)=Bl h i) Fz))))
def Z0B(h:Zw)(i:Nat):Tg:=⟨tm 19 [(1,.pt 8001 0 0),(2,.d (.sl 0 [])),(3,.ow 16003),(6,int (Z5 h)),(7,int i)],[(16003,.arr 3 1 ((C4 h i).map idv)),(8001,.box 52 [int h.K,int h.length,u32 h.map])],60⟩
def Zkh(h:Zw)(i:Nat)(hm:0<=h.map/\h.map<=4294967295)(hi:(i:Int)<Z5 h):CP (Zm f110 0) (Z0B h i).st .nrm (Z0B h (i+1)).st:=by
 have hn:=MK h i;have hs:=HZ h;by_cases a:Bl h (i:Int)=O;have e:C4 h (i+1)=C4 h i++[(i:Int)]:=by rw[C4,if_pos a]
 exact sF [(504016,16003)] (fO 5) (Fh 12 [.call O (Sx.bool (Bl h (i:Int))) [],.br O] (Fh 16 [.els (La idv (C4 h i++[(i:Int)]))] (Ftb 8 (Lb ((i:Int)<Z5 h)) (Fa (@Z9G h ((i:Int)) aa) (Fa ‹Bl h (i:Int)=O› (Fs 15 (La idv [(i:Int)]) (Fa (by(simp[*];omega):(La idv (C4 h i)).length+(La idv [(i:Int)]).length<=2^30) (Fa (ms:La idv (C4 h i)++La idv [(i:Int)]=La idv (C4 h i++[(i:Int)])) (Fx 17 i (Fr (3:Int) (Fa (by refine congrArg _ ?_;rw[e]:La idv (C4 h i++[(i:Int)])=La idv (C4 h (i+1))) Fz)))))))))));have e:C4 h (i+1)=C4 h i:=by rw[C4,if_neg a]
 have b:Bl h (i:Int)=Lc:=by simpa using a
 exact sF [] (fO 5) (Fh 12 [.call O (Sx.bool (Bl h (i:Int))) [],.br Lc] (Ftb 8 (Lb ((i:Int)<Z5 h)) (Fa (@Z9G h ((i:Int)) aa) (Fa ‹Bl h (i:Int)=Lc› (Fx 17 i (Fr (3:Int) (Fa (by refine congrArg _ ?_;rw[e]:La idv (C4 h i)=La idv (C4 h (i+1))) Fz)))))))
def Zkf(h:Zw)(i:Nat)(hi:(i:Int)=Z5 h):CP (Zm f110 0) (Z0B h i).st (.ext 0) (Tg.st ⟨tm 19 [(2,.d (.sl 0 [])),(3,.ow 16003)],[(16003,.arr 3 1 ((C4 h i).map idv))],60⟩):=by exact sF [] [] (Ffb 8 (Lb ((i:Int)<Z5 h)) Fz)
def Z7n(h:Zw):C4 h (Z5 h).toNat=Zz h:=by unfold Zz Z5;by_cases a:ZR h=O;rw[if_pos a,if_pos a];have hb:=Gl.1 a;rw[show(h.length+1).toNat=h.length.toNat+1 from by omega,C4,if_neg];unfold Bl;simp;omega;rw[if_neg a,if_neg a];rfl
def Zb0(h:Zw)(a:0<=h.map/\h.map<=4294967295):CP (Zi f110 0) (Tg.st ⟨tm 19 [(1,.pt 8001 0 0),(2,.d (.sl 0 [])),(3,.ow 16003),(6,int (Z5 h)),(7,int 0)],[(16003,.arr 3 1 []),(8001,.box 52 [int h.K,int h.length,u32 h.map])],60⟩) .nrm (Tg.st ⟨tm 19 [(2,.d (.sl 0 [])),(3,.ow 16003)],[(16003,.arr 3 1 ((Zz h).map idv))],60⟩):=by have hs:=HZ h;rw[<-Z7n];exact Bs (S:=λi=>(Z0B h i).st) (Z5 h).toNat kr (λi hi=>Zkh h i a oq) (Zkf h _ oq)
def Z1v(h:Zw)(hm:0<=h.map/\h.map<=4294967295):GP 110 [h.av] O (.d (.sl 1 ((Zz h).map idv))) []:=by exact gF [] func110 [] (Fh 3 [.own] (Fc 6 (@EN h aa) (Fu (@Zb0 h aa) (Fa (by exact Ds _:Ci (La idv (Zz h))) Fz))))
def Ai(h:Heap)(i:Nat):Tg:=⟨tm 19 [(1,int i),(2,.pt 8002 0 0),(4,int 0)],[(8002,.box 28 h.cells)],60⟩
def Zd1(h:Heap)(i:Nat)(hi:i+1<h.P.length)(hl:h.P.length<=1048576)(hk:(h.P.getD (i+1) M).K=3):CP (Zm f247 0) (Ai h (i+1)).st .nrm (Ai h i).st:=by
 have ei:((i+1:Nat):Int)-1=(i:Int):=by omega
 exact sF [] [] (FeG 11 (Lb (0<(↑(i+1):Int))) Z0.dv h.P (↑(i+1):Int) (i+1) (Ftb 15 (Lb (0<(↑(i+1):Int))&&(h.P.getD (i+1) M).K==3) (Fg 17 (by rw[E6 oq oq];omega:Lq.wrap ((↑(i+1):Int)-1)=(i:Int)) Fz)))
def Z79(h:Heap)(i:Nat)(hi:i<h.P.length)(hl:h.P.length<=1048576)(hk:¬ (h.P.getD i M).K=3):CP (Zm f247 0) (Ai h i).st (.ext 0) (Tg.st ⟨tm 19 [(1,int i),(4,int 0)],[],60⟩):=by exact sF [] [] (FeG 11 (Lb (0<(i:Int))) Z0.dv h.P (↑i) i (Ffb 15 (Lb (0<(i:Int))&&(h.P.getD i M).K==3) Fz))
def Z7h(h:Heap)(b:Z8 h=O)(hl:h.P.length<=1048576):∀i,i<h.P.length->Gg prog f247 0 (Ai h i).st (.ext 0) (Tg.st ⟨tm 19 [(1,int (ZY h.P i)),(4,int 0)],[],60⟩)
 |0,hi=>.endx (Z79 h 0 hi hl (Z3O b))
 |i+1,hi=>by
  unfold ZY;by_cases a:(h.P.getD (i+1) M).K=3
  .rw[if_pos a];exact .next (Zd1 h i hi hl a) (Z7h h b hl i oq)
  .rw[if_neg a];exact .endx (Z79 h (i+1) hi hl a)
def ZhW(h:Heap)(i:Nat)(b:Z8 h=O)(a:i<h.P.length)(hl:h.P.length<=1048576):CP (Zi f247 0) (Ai h i).st .nrm (Tg.st ⟨tm 19 [(1,int (ZY h.P i)),(4,int 0)],[],60⟩):=
 (Z7h h b hl i a).ext kr
def Zl7(h:Heap)(i:Nat)(a:Z8 h=O)(hi:i<h.P.length):GP 247 [h.av,int i] O (int (ZY h.P i)) []:=by have po:=B4 a;exact gF [] func247 [] (Fu (@ZhW h i aa aa oq) Fz)
def AU(h:Heap)(i:Int)(l:List Int)(n:Nat):Tg:=⟨tm 58 [(1,int i),(3,.pt 8003 0 0),(6,u64 0),(7,bool Lc),(13,Z3 l),(14,int l.length),(15,int n)],[(8003,.box 28 h.cells)],60⟩
section
variable (h:Heap) (i:Int) (l:List Int) (n:Nat) (a:Zy h.W) (hl:l.length<=1048576) (b:0<=i/\i<h.P.length) (c:h.P.length<=1048576) (hr:∀x∈l,0<=x/\x<=8192)
include a hl b c hr
theorem Z4n(g:n<l.length)(f:Gk h i (l.getD n M)=Lc):CP (Zm f228 0) (AU h i l n).st .nrm (AU h i l (n+1)).st:=by have hx:=hr (l.getD n M) (Be.2 ⟨n,g,rfl⟩);have hm:=IB a (l.getD n M);simp only[Gk,bs]at f;let d:=Z9 h (l.getD n M);let e:=h.P.getD i.toNat M;exact sF [] [] (Ftb 16 (Lb ((n:Int)<(l.length:Int))) (Fek 17 wdv l (↑n) n (Fc 22 (@N9 h (l.getD n M) aa oq) (Fc 26 (@EN (d.1) aa) (Fc 29 (@Z0s h.C) (Fe 34 Z0.dv h.P i (FeGq 46 (!(e.K==1&&!decide (Z5 d.1<=Zb h.C))) Z0.dv h.P i (Ffb 55 (e.K==1&&!decide (Z5 d.1<=Zb h.C)||e.K==2&&d.1.K==0) (Fx 57 n Fz)))))))))
theorem ZaK(g:n<l.length)(f:Gk h i (l.getD n M)=O):CP (Zm f228 0) (AU h i l n).st .ret (Tg.st ⟨tm 58 [(6,u64 (l.getD n M)),(7,bool O)],[],60⟩):=by have hx:=hr (l.getD n M) (Be.2 ⟨n,g,rfl⟩);have hm:=IB a (l.getD n M);simp only[Gk,bs]at f;let d:=Z9 h (l.getD n M);let e:=h.P.getD i.toNat M;exact sF [] [] (Ftb 16 (Lb ((n:Int)<(l.length:Int))) (Fek 17 wdv l (↑n) n (Fc 22 (@N9 h (l.getD n M) aa oq) (Fc 26 (@EN (d.1) aa) (Fc 29 (@Z0s h.C) (Fe 34 Z0.dv h.P i (FeGq 46 (!(e.K==1&&!decide (Z5 d.1<=Zb h.C))) Z0.dv h.P i (Ftb 55 (e.K==1&&!decide (Z5 d.1<=Zb h.C)||e.K==2&&d.1.K==0) Fz))))))))
omit a hl b c hr in
theorem Zl9:CP (Zm f228 0) (AU h i l l.length).st (.ext 0) (Tg.st ⟨tm 58 [(6,u64 0),(7,bool Lc)],[],60⟩):=by exact sF [] [] (Ffb 16 (Lb ((l.length:Int)<(l.length:Int))) Fz)
end
def ZdF(h:Heap)(i:Int)(l:List Int)(e:Zy h.W)(hl:l.length<=1048576)(c:0<=i/\i<h.P.length)(d:h.P.length<=1048576)(hr:∀x∈l,0<=x/\x<=8192)(b:l.find? (Gk h i)=Lf) :CP (Zi f228 0) (Tg.st ⟨tm 58 [(1,int i),(3,.pt 8003 0 0),(6,u64 0),(7,bool Lc),(13,Z3 l),(14,int l.length),(15,int 0)],[(8003,.box 28 h.cells)],60⟩) .nrm (Tg.st ⟨tm 58 [(6,u64 0),(7,bool Lc)],[],60⟩):=
 Bs (S:=λn=>(AU h i l n).st) l.length kr (λn a=>Z4n h i l n e hl c d hr a (Oa b n a)) (Zl9 h i l)
def ZgR(h:Heap)(i:Int)(l:List Int)(x:Int)(c:Zy h.W)(hl:l.length<=1048576)(a:0<=i/\i<h.P.length)(b:h.P.length<=1048576)(hr:∀x∈l,0<=x/\x<=8192)(j:l.find? (Gk h i)=Le x) :CP (Zi f228 0) (Tg.st ⟨tm 58 [(1,int i),(3,.pt 8003 0 0),(6,u64 0),(7,bool Lc),(13,Z3 l),(14,int l.length),(15,int 0)],[(8003,.box 28 h.cells)],60⟩) .ret (Tg.st ⟨tm 58 [(6,u64 x),(7,bool O)],[],60⟩):=by obtain⟨n,d,e,f,g⟩:=Ap j;subst e;exact G5 (S:=λn=>(AU h i l n).st) n kr (λm k=>Z4n h i l m c hl a b hr oq (g m k)) (ZaK h i l n c hl a b hr d f)
def G6(h:Heap)(i:Int)(l:List Int):Bool:=(l.find? (Gk h i)).isSome
def Da(h:Heap)(i:Int)(l:List Int)(hw:Zy h.W)(hl:l.length<=1048576)(hp:h.P.length<=1048576)(hi:0<=i/\i<h.P.length)(hr:∀x∈l,0<=x/\x<=8192):GP 228 [h.av,int i,Z3 l] O (.tu [u64 (Cq h i l),bool (G6 h i l)]) []:=by
 cases hf:l.find? (Gk h i)with
 |none =>
  have a:Cq h i l=0:=by rw[Cq,hf];rfl
  have b:G6 h i l=Lc:=by rw[G6,hf];rfl
  rw[a,b];exact gF [] func228 [] (Fl 14 wdv l (Fu (@ZdF h i l aa aa aa aa aa aa) Fz))
 |some x =>
  have a:Cq h i l=x:=by rw[Cq,hf];rfl
  have b:G6 h i l=O:=by rw[G6,hf];rfl
  rw[a,b];exact gF [] func228 [] (Fl 14 wdv l (Fu (@ZgR h i l x aa aa aa aa aa aa) Fz))
def Zfs(ws:List Int)(a n:Int)(hw:ws.length<=1048576)(h0:4096<=a/\1<=n/\n<=1000/\a-4096+n<=ws.length):GP 117 [Z3 ws,u64 a,int n] O (.tu [.ow 0,int 0]) [.arr 35 1 (((ws.drop (a-4096).toNat).take n.toNat).map wdv)]:=by
 have c:(Zx ws a n).1=a-4096:=by rw[Zx,if_pos oq]
 have b:(Zx ws a n).2=O:=by rw[Zx,if_pos oq];simp;omega
 have d:(ws.drop (a-4096).toNat).take n.toNat≠[]:=A7 (by rw[Lr,LA];omega);exact gF [41027] func117 [Lc,O] (Fh 26 [.els (La wdv (Lk (((Zx ws a n).1+n).toNat-(Zx ws a n).1.toNat) (Lj (Zx ws a n).1.toNat ws)))] (Ffb 11 (Lb (n<0)) (Fc 16 (@TC ws a n aa oq) (Ffb 20 (!(Zx ws a n).2) (Fi 25 ((Zx ws a n).1+n) (Fa (by(simp only[Lp];omega):0<=(Zx ws a n).1/\(Zx ws a n).1<=(Zx ws a n).1+n/\(Zx ws a n).1+n<=(↑(La wdv ws).length:Int)) (Fa (by simp[b,LC,LB,List.map_set,Lu,wdv,idv]:Lk (((Zx ws a n).1+n).toNat-(Zx ws a n).1.toNat) (Lj (Zx ws a n).1.toNat (La wdv ws))=La wdv (Lk (((Zx ws a n).1+n).toNat-(Zx ws a n).1.toNat) (Lj (Zx ws a n).1.toNat ws))) (Fc 27 (@Z6I (Lk (((Zx ws a n).1+n).toNat-(Zx ws a n).1.toNat) (Lj (Zx ws a n).1.toNat ws)) (by(simp[b, *];omega)) (by(simp[b, *];omega))) (Fa (by exact Hr _:Ci (La wdv (Lk (((Zx ws a n).1+n).toNat-(Zx ws a n).1.toNat) (Lj (Zx ws a n).1.toNat ws)))) (Fr (35:Int) (Fa (by refine congrArg _ ?_;(simp[b, *];omega):La wdv (Lk (((Zx ws a n).1+n).toNat-(Zx ws a n).1.toNat) (Lj (Zx ws a n).1.toNat ws))=La wdv (Lk n.toNat (Lj (a-4096).toNat ws))) Fz)))))))))))
def Gx(l:List Int):Nat:=(l.takeWhile λx=>x==0).length
def OP{l}{m:Nat}(h:m<Gx l):m<l.length/\l.getD m M=0:=by obtain⟨a,b⟩:=Aw _ _ _ h;refine⟨a, ?_⟩;rw[Lo,Ls a];simpa using b
def Z9g{l:List Int}(h:Gx l<l.length):¬ l.getD (Gx l) M=0:=by
 have a:=AA (λx:Int=>x==0) l h;have b:l.getD (Gx l) M=l[(l.takeWhile λx=>x==0).length]:=by(rw[Lo,Ls h];rfl)
 rw[b];simpa using a
def C5(l:List Int):Int:=if Gx l<l.length then Gx l else -1
def Z9q x:GP 248 [u64 x] O (bool (x != 0)) []:=by exact gF [] func248 [] Fz
def AD(l:List Int)(i:Nat):Tg:=⟨tm 19 [(0,Z3 l),(1,.fn 248 []),(4,int 0),(7,int l.length),(8,int i)],[],60⟩
def Z5p(l:List Int)(i:Nat)(hl:l.length<=1048576)(hi:i<l.length)(e:l.getD i M=0):CP (Zm f172 0) (AD l i).st .nrm (AD l (i+1)).st:=by exact sF [] [] (Fh 16 [.call O (Sx.bool (l.getD i M != 0)) [],.br Lc] (Ftb 9 (Lb ((i:Int)<(l.length:Int))) (Fek 14 wdv l (↑i) i (Fa (@Z9q (l.getD i M)) (Fb ((l.getD i M != 0)=Lc) (Fx 18 i Fz))))))
def Zi4(l:List Int)(i:Nat)(hl:l.length<=1048576)(hi:i<l.length)(e:¬ l.getD i M=0):CP (Zm f172 0) (AD l i).st .ret (Tg.st ⟨tm 19 [(4,int i)],[],60⟩):=by exact sF [] [] (Fh 16 [.call O (Sx.bool (l.getD i M != 0)) [],.br O] (Ftb 9 (Lb ((i:Int)<(l.length:Int))) (Fek 14 wdv l (↑i) i (Fa (@Z9q (l.getD i M)) (Fb ((l.getD i M != 0)=O) Fz)))))
def ZbW l:CP (Zm f172 0) (AD l l.length).st (.ext 0) (Tg.st ⟨tm 19 [(4,int 0)],[],60⟩):=by exact sF [] [] (Ffb 9 (Lb ((l.length:Int)<(l.length:Int))) Fz)
def Zb8(l:List Int)(hl:l.length<=1048576)(h:¬ Gx l<l.length)  := Bs (S:=λj=>(AD l j).st) l.length (by kernel_rfl) (λj a=>Z5p l j hl a (OP (by omega)).2) (ZbW l)
def Zjm(l:List Int)(hl:l.length<=1048576)(h:Gx l<l.length)  := G5 (S:=λj=>(AD l j).st) (Gx l) (by kernel_rfl) (λj a=>Z5p l j hl (by omega) (OP a).2) (Zi4 l (Gx l) hl h (Z9g h))
def ZaO(l:List Int)(hl:l.length<=1048576):GP 172 [Z3 l,.fn 248 []] O (int (C5 l)) []:=by by_cases h:Gx l<l.length;have a:C5 l=Gx l:=if_pos h;rw[a];exact gF [] func172 [] (Fl 7 wdv l (Fu (@Zjm l aa aa) Fz));have a:C5 l=-1:=if_neg h;rw[a];exact gF [] func172 [] (Fl 7 wdv l (Fu (@Zb8 l aa aa) Fz))
def Gb(c:List Int)(x:Int):Nat:=(min (max x 0) (c.length:Int)).toNat
def Rj(c:List Int)(x k:Int):List Int:=c.take (Gb c x)++Lh (Gb c (x+k)-Gb c x) 0++c.drop (Gb c x+(Gb c (x+k)-Gb c x))
def ZK(h:Heap)(F:Int)(l c:List Int):Nat->List Int|0=>c|n+1=>Rj (ZK h F l c n) (l.getD n M-F) (GC h (l.getD n M))
def OD c(x:Int):Gb c x<=c.length:=by unfold Gb;omega
def Z41 c(x:Int){k:Int}(hk:0<=k):Gb c x<=Gb c (x+k):=by unfold Gb;omega
def Z81(h:Heap)(a:Int):0<=GC h a/\GC h a<=256:=by have:=HZ (Z9 h a).1;unfold GC;split<;>omega
def ZhZ c x{k:Int}(a:0<=k):(Rj c x k).length=c.length:=by have h1:=OD c x;have h2:=OD c (x+k);have h3:=Z41 c x a;simp[Rj];omega
def Mj(h:Heap) F l c:∀n,(ZK h F l c n).length=c.length|0=>rfl|n+1=>by rw[ZK,ZhZ _ _ (Z81 h _).1,Mj h F l c n]
def adL(h:Heap)(F:Int)(l c:List Int)(n:Nat):Tg:=⟨tm 90 [(2,.pt 8002 0 0),(4,u64 0),(5,bool Lc),(6,u64 F),(8,.ow 25033),(44,Z3 l),(45,int l.length),(46,int n)],[(25033,.arr 35 1 ((ZK h F l c n).map wdv)),(8002,.box 28 h.cells)],60⟩
def ZdT(h:Heap)(F:Int)(l c:List Int)(n:Nat)(g:Zy h.W)(hF:0<=F/\F<=8192)(hl:l.length<=1048576)(hc:c.length<=64)(hr:∀x∈l,0<=x/\x<=8192)(f:n<l.length):CP (Zm f229 0) (adL h F l c n).st .nrm (adL h F l c (n+1)).st:=by
 have hx:=hr (l.getD n M) (Be.2 ⟨n,f,rfl⟩);have hm:=IB g (l.getD n M);have e:=Mj h F l c n;have hs:=HZ (Z9 h (l.getD n M)).1;by_cases d:(Z9 h (l.getD n M)).1.K=0;have b:GC h (l.getD n M)=1:=if_pos d;have a:ZK h F l c (n+1)=Rj (ZK h F l c n) (l.getD n M-F) 1:=by rw[ZK,b]
 exact sF [] (fO 8) (Fh 20000 [.els (La wdv (Lk (min (max (l.getD n M-F) 0) (↑(ZK h F l c n).length:Int)).toNat (ZK h F l c n)++Lh ((min (max (l.getD n M-F+1) 0) (↑(ZK h F l c n).length:Int)).toNat-(min (max (l.getD n M-F) 0) (↑(ZK h F l c n).length:Int)).toNat) 0++Lj ((min (max (l.getD n M-F) 0) (↑(ZK h F l c n).length:Int)).toNat+(Lh ((min (max (l.getD n M-F+1) 0) (↑(ZK h F l c n).length:Int)).toNat-(min (max (l.getD n M-F) 0) (↑(ZK h F l c n).length:Int)).toNat) (0:Int)).length) (ZK h F l c n)))] (Ftb 47 (Lb ((n:Int)<(l.length:Int))) (Fek 48 wdv l (↑n) n (Fc 53 (@N9 h (l.getD n M) aa oq) (Ffb 58 ((Z9 h (l.getD n M)).1.K != 0) (Fi 62 (l.getD n M) (Fi 64 F (Fi 65 (l.getD n M-F) (Fgo 68 (if 0 > l.getD n M-F then 0 else l.getD n M-F) (max (l.getD n M-F) 0) (Fl 70 wdv (ZK h F l c n) (Fgo 71 (if(↑(ZK h F l c n).length:Int)<max (l.getD n M-F) 0 then(↑(ZK h F l c n).length:Int)else max (l.getD n M-F) 0) (min (max (l.getD n M-F) 0) (↑(ZK h F l c n).length:Int)) (Fi 74 (l.getD n M-F+1) (Fgo 75 (if 0 > l.getD n M-F+1 then 0 else l.getD n M-F+1) (max (l.getD n M-F+1) 0) (Fl 77 wdv (ZK h F l c n) (Fgo 78 (if(↑(ZK h F l c n).length:Int)<max (l.getD n M-F+1) 0 then(↑(ZK h F l c n).length:Int)else max (l.getD n M-F+1) 0) (min (max (l.getD n M-F+1) 0) (↑(ZK h F l c n).length:Int)) (Fa (by(simp only[Lp];omega):0<=min (max (l.getD n M-F) 0) (↑(ZK h F l c n).length:Int)/\min (max (l.getD n M-F) 0) (↑(ZK h F l c n).length:Int)<=min (max (l.getD n M-F+1) 0) (↑(ZK h F l c n).length:Int)/\min (max (l.getD n M-F+1) 0) (↑(ZK h F l c n).length:Int)<=(↑(La wdv (ZK h F l c n)).length:Int)) (Fa (by simp only[C8,Lu,LC,LB,LV,Lt];rfl:C8 (La wdv (ZK h F l c n)) (min (max (l.getD n M-F) 0) (↑(ZK h F l c n).length:Int)).toNat (Lh ((min (max (l.getD n M-F+1) 0) (↑(ZK h F l c n).length:Int)).toNat-(min (max (l.getD n M-F) 0) (↑(ZK h F l c n).length:Int)).toNat) [B1 0])=La wdv (Lk (min (max (l.getD n M-F) 0) (↑(ZK h F l c n).length:Int)).toNat (ZK h F l c n)++Lh ((min (max (l.getD n M-F+1) 0) (↑(ZK h F l c n).length:Int)).toNat-(min (max (l.getD n M-F) 0) (↑(ZK h F l c n).length:Int)).toNat) 0++Lj ((min (max (l.getD n M-F) 0) (↑(ZK h F l c n).length:Int)).toNat+(Lh ((min (max (l.getD n M-F+1) 0) (↑(ZK h F l c n).length:Int)).toNat-(min (max (l.getD n M-F) 0) (↑(ZK h F l c n).length:Int)).toNat) (0:Int)).length) (ZK h F l c n))) (Fx 80 n (Fr (35:Int) (Fa (by refine congrArg _ ?_;rw[a];simp only[Rj,Gb,Lt]:La wdv (Lk (min (max (l.getD n M-F) 0) (↑(ZK h F l c n).length:Int)).toNat (ZK h F l c n)++Lh ((min (max (l.getD n M-F+1) 0) (↑(ZK h F l c n).length:Int)).toNat-(min (max (l.getD n M-F) 0) (↑(ZK h F l c n).length:Int)).toNat) 0++Lj ((min (max (l.getD n M-F) 0) (↑(ZK h F l c n).length:Int)).toNat+(Lh ((min (max (l.getD n M-F+1) 0) (↑(ZK h F l c n).length:Int)).toNat-(min (max (l.getD n M-F) 0) (↑(ZK h F l c n).length:Int)).toNat) (0:Int)).length) (ZK h F l c n))=La wdv (ZK h F l c (n+1))) Fz))))))))))))))))))));have b:GC h (l.getD n M)=Z5 (Z9 h (l.getD n M)).1:=if_neg d;have a:ZK h F l c (n+1)=Rj (ZK h F l c n) (l.getD n M-F) (Z5 (Z9 h (l.getD n M)).1):=by rw[ZK,b]
 exact sF [] (fO 8) (Fh 20000 [.els (La wdv (Lk (min (max (l.getD n M-F) 0) (↑(ZK h F l c n).length:Int)).toNat (ZK h F l c n)++Lh ((min (max (l.getD n M-F+Z5 (Z9 h (l.getD n M)).1) 0) (↑(ZK h F l c n).length:Int)).toNat-(min (max (l.getD n M-F) 0) (↑(ZK h F l c n).length:Int)).toNat) 0++Lj ((min (max (l.getD n M-F) 0) (↑(ZK h F l c n).length:Int)).toNat+(Lh ((min (max (l.getD n M-F+Z5 (Z9 h (l.getD n M)).1) 0) (↑(ZK h F l c n).length:Int)).toNat-(min (max (l.getD n M-F) 0) (↑(ZK h F l c n).length:Int)).toNat) (0:Int)).length) (ZK h F l c n)))] (Ftb 47 (Lb ((n:Int)<(l.length:Int))) (Fek 48 wdv l (↑n) n (Fc 53 (@N9 h (l.getD n M) aa oq) (Ftb 58 ((Z9 h (l.getD n M)).1.K != 0) (Fc 60 (@EN ((Z9 h (l.getD n M)).1) aa) (Fi 62 (l.getD n M) (Fi 64 F (Fi 65 (l.getD n M-F) (Fgo 68 (if 0 > l.getD n M-F then 0 else l.getD n M-F) (max (l.getD n M-F) 0) (Fl 70 wdv (ZK h F l c n) (Fgo 71 (if(↑(ZK h F l c n).length:Int)<max (l.getD n M-F) 0 then(↑(ZK h F l c n).length:Int)else max (l.getD n M-F) 0) (min (max (l.getD n M-F) 0) (↑(ZK h F l c n).length:Int)) (Fi 74 (l.getD n M-F+Z5 (Z9 h (l.getD n M)).1) (Fgo 75 (if 0 > l.getD n M-F+Z5 (Z9 h (l.getD n M)).1 then 0 else l.getD n M-F+Z5 (Z9 h (l.getD n M)).1) (max (l.getD n M-F+Z5 (Z9 h (l.getD n M)).1) 0) (Fl 77 wdv (ZK h F l c n) (Fgo 78 (if(↑(ZK h F l c n).length:Int)<max (l.getD n M-F+Z5 (Z9 h (l.getD n M)).1) 0 then(↑(ZK h F l c n).length:Int)else max (l.getD n M-F+Z5 (Z9 h (l.getD n M)).1) 0) (min (max (l.getD n M-F+Z5 (Z9 h (l.getD n M)).1) 0) (↑(ZK h F l c n).length:Int)) (Fa (by(simp only[Lp];omega):0<=min (max (l.getD n M-F) 0) (↑(ZK h F l c n).length:Int)/\min (max (l.getD n M-F) 0) (↑(ZK h F l c n).length:Int)<=min (max (l.getD n M-F+Z5 (Z9 h (l.getD n M)).1) 0) (↑(ZK h F l c n).length:Int)/\min (max (l.getD n M-F+Z5 (Z9 h (l.getD n M)).1) 0) (↑(ZK h F l c n).length:Int)<=(↑(La wdv (ZK h F l c n)).length:Int)) (Fa (by simp only[C8,Lu,LC,LB,LV,Lt];rfl:C8 (La wdv (ZK h F l c n)) (min (max (l.getD n M-F) 0) (↑(ZK h F l c n).length:Int)).toNat (Lh ((min (max (l.getD n M-F+Z5 (Z9 h (l.getD n M)).1) 0) (↑(ZK h F l c n).length:Int)).toNat-(min (max (l.getD n M-F) 0) (↑(ZK h F l c n).length:Int)).toNat) [B1 0])=La wdv (Lk (min (max (l.getD n M-F) 0) (↑(ZK h F l c n).length:Int)).toNat (ZK h F l c n)++Lh ((min (max (l.getD n M-F+Z5 (Z9 h (l.getD n M)).1) 0) (↑(ZK h F l c n).length:Int)).toNat-(min (max (l.getD n M-F) 0) (↑(ZK h F l c n).length:Int)).toNat) 0++Lj ((min (max (l.getD n M-F) 0) (↑(ZK h F l c n).length:Int)).toNat+(Lh ((min (max (l.getD n M-F+Z5 (Z9 h (l.getD n M)).1) 0) (↑(ZK h F l c n).length:Int)).toNat-(min (max (l.getD n M-F) 0) (↑(ZK h F l c n).length:Int)).toNat) (0:Int)).length) (ZK h F l c n))) (Fx 80 n (Fr (35:Int) (Fa (by refine congrArg _ ?_;rw[a];simp only[Rj,Gb,Lt]:La wdv (Lk (min (max (l.getD n M-F) 0) (↑(ZK h F l c n).length:Int)).toNat (ZK h F l c n)++Lh ((min (max (l.getD n M-F+Z5 (Z9 h (l.getD n M)).1) 0) (↑(ZK h F l c n).length:Int)).toNat-(min (max (l.getD n M-F) 0) (↑(ZK h F l c n).length:Int)).toNat) 0++Lj ((min (max (l.getD n M-F) 0) (↑(ZK h F l c n).length:Int)).toNat+(Lh ((min (max (l.getD n M-F+Z5 (Z9 h (l.getD n M)).1) 0) (↑(ZK h F l c n).length:Int)).toNat-(min (max (l.getD n M-F) 0) (↑(ZK h F l c n).length:Int)).toNat) (0:Int)).length) (ZK h F l c n))=La wdv (ZK h F l c (n+1))) Fz)))))))))))))))))))))
def Zja(h:Heap) F l c:CP (Zm f229 0) (adL h F l c l.length).st (.ext 0) (Tg.st ⟨tm 90 [(4,u64 0),(5,bool Lc),(6,u64 F),(8,.ow 25033)],[(25033,.arr 35 1 ((ZK h F l c l.length).map wdv))],60⟩):=by exact sF [] [] (Ffb 47 (Lb ((l.length:Int)<(l.length:Int))) Fz)
def Za0(h:Heap)(F:Int)(l c:List Int)(e:Zy h.W)(a:0<=F/\F<=8192)(hl:l.length<=1048576)(b:c.length<=64)(hr:∀x∈l,0<=x/\x<=8192):CP (Zi f229 0) (Tg.st ⟨tm 90 [(2,.pt 8002 0 0),(4,u64 0),(5,bool Lc),(6,u64 F),(8,.ow 25033),(44,Z3 l),(45,int l.length),(46,int 0)],[(25033,.arr 35 1 (c.map wdv)),(8002,.box 28 h.cells)],60⟩) .nrm (Tg.st ⟨tm 90 [(4,u64 0),(5,bool Lc),(6,u64 F),(8,.ow 25033)],[(25033,.arr 35 1 ((ZK h F l c l.length).map wdv))],60⟩):=
 Bs (S:=λn=>(adL h F l c n).st) l.length kr (λn d=>ZdT h F l c n e a hl b hr d) (Zja h F l c)
def Ry(h:Heap)(i:Nat):List Int:=(h.W.drop ((address h.C i 0).1-4096).toNat).take h.C.pw.toNat
def BX(h:Heap)(i:Nat):List Int:=ZK h (address h.C i 0).1 (Zd h (ZY h.P i:Nat)).1 (Ry h i) (Zd h (ZY h.P i:Nat)).1.length
def Pp(h:Heap)(i:Nat)(hw:Zy h.W)(d:Z8 h=O)(hi:i<h.P.length):GP 229 [h.av,int i] O (.tu [u64 ((address h.C i 0).1+max (C5 (BX h i)) 0),bool (Lb (0<=C5 (BX h i)))]) []:=by
 have e:=B4 d;have ea:(address h.C i 0).1=4096+i*h.C.pw:=by(unfold address;rw[if_pos e.1,if_pos (HQ.2 oq)];simp only;omega)
 have ap:=HV e.1 (i:=i) oq oq;have hh:=Z2t h.P i;have hx:(i:Int)*h.C.pw+h.C.pw<=h.W.length:=by
  have h1:((i:Int)+1)*h.C.pw<=h.C.pg*h.C.pw:=LM oq oq;have h2:((i:Int)+1)*h.C.pw=i*h.C.pw+h.C.pw:=by rw[LI,LN]
  have h3:h.C.pg*h.C.pw=h.C.pw*h.C.pg:=LL _ _;omega
 have hr:=Ao d (ZY h.P i:Nat);have hn:=R2 h (ZY h.P i:Nat);have c:(BX h i).length<=64:=by(rw[BX,Mj,Ry,Lr];omega)
 have f:C5 (BX h i)<=64/\-1<=C5 (BX h i):=by(have:Gx (BX h i)<=(BX h i).length:=(List.takeWhile_sublist _).length_le;unfold C5;split<;>omega)
 have g:(Ry h i).length<=64:=by rw[Ry,Lr];omega
 unfold BX Ry at *;let b:=address h.C (i:Int) 0;let a:=ZK h b.1 (Zd h (↑(ZY h.P i):Int)).1 (Lk h.C.pw.toNat (Lj (b.1-4096).toNat h.W)) (Zd h (↑(ZY h.P i):Int)).1.length;exact gF [] func229 [] (Fc 23 (@Me h.C ((i:Int)) (0)) (Fc 33 (@Zfs h.W (b.1) h.C.pw oq oq) (Fc 40 (@Zl7 h i aa aa) (Fc 41 (@Nx h ((↑(ZY h.P i):Int)) aa oq) (Fl 45 wdv (Zd h (↑(ZY h.P i):Int)).1 (Fu (@Za0 h (b.1) ((Zd h (↑(ZY h.P i):Int)).1) (Lk h.C.pw.toNat (Lj (b.1-4096).toNat h.W)) aa oq oq aa aa) (Fc 82 (@ZaO a oq) (Fgo 85 (if 0 > C5 a then 0 else C5 a) (max (C5 a) 0) (Fv 86 (max (C5 a) 0) (Fv 87 (b.1+max (C5 a) 0) Fz))))))))))
def unS(fn:Func):Func:=match fn.body with|some (.seq x (.scope c)) => {fn with body:=Le (.seq x c)}|_=>fn
def Z8E(fn:Func):Code:=match fn.body with|some (.seq x _)=>x|_=>.skip
def Z40(fn:Func):Code:=match fn.body with|some (.seq _ c)=>c|_=>.skip
def ZhR{P c}{n m:Nat}{s t}(f:m≠n)(h:CSpec P c s (.ext m) t):CSpec P (.block n c) s (.ext m) t:=by intro g b j a w i;refine wp_block (wp_mono (h g b j a w i) ?_);rintro e a' w' ⟨rfl,d⟩;show(if m=n then _ else _);rw[if_neg f];exact⟨rfl,d⟩
def Zjj{P fn}{b m:Nat}{S:Nat->St}{t}(n:Nat)(a:R6 b (Zi fn b)=O)(c:m≠b)(h:∀i,i<n->CSpec P (Zm fn b) (S i) .nrm (S (i+1)))(d:CSpec P (Zm fn b) (S n) (.ext m) t):CSpec P (Zi fn b) (S 0) (.ext m) t:=by rw[Z07 a];exact ZhR c (Z2u (Z13 n h (λh=>nomatch h) d))
def fdV(h:Heap)(a k:Int):Int:=(Z1 h.W (a+1+k)).1
def NP(h:Heap)(b:List Int)(a k:Int):Bool:=(fdV h a k != 0)&&!decide (fdV h a k∈b)
def Zkk{h b}{a k:Int}:NP h b a k=O↔¬ fdV h a k=0/\¬ fdV h a k∈b:=by simp[NP]
def Zkn{h b}{a k:Int}:NP h b a k=Lc↔fdV h a k=0\/fdV h a k∈b:=by by_cases c:fdV h a k=0<;>by_cases d:fdV h a k∈b<;>simp[NP,c,d]
def yJ(a:Int)(P:List Int):Nat->Int|0=>0|j+1=>a+1+P.getD j M
def apI(h:Heap)(b:List Int)(i:Nat)(a:Int)(P:List Int)(j:Nat):Tg:=⟨tm 83 [(1,.pt 8001 0 0),(2,.pt 8002 0 0),(3,Z3 b),(5,u64 (yJ a P j)),(7,u64 a),(24,Z3 b),(25,int b.length),(26,int i),(37,ZE P),(38,int P.length),(39,int j)],[(8002,.box 223 [int 0,int 0,u64 0]),(8001,.box 28 h.cells)],64⟩
section
variable (h:Heap) (b:List Int) (i:Nat) (a:Int) (P:List Int) (j:Nat) (hw:Zy h.W) (c:h.W.length<=1048576) (hl:b.length<=1048576) (hs:b.Pairwise (· < ·)) (ha:0<=a/\a<=8192) (hP:P.length<=256) (hk:0<=P.getD j M/\P.getD j M<=256) (hj:j<P.length)
include hw c hl hs ha hP hk hj
theorem Z9u(e:NP h b a (P.getD j M)=Lc):CP (Zm (unS f207) 2) (apI h b i a P j).st .nrm (apI h b i a P (j+1)).st:=by have f:yJ a P (j+1)=a+1+P.getD j M:=rfl;have d:=Zkn.1 e;unfold fdV at d;clear e;generalize g:yJ a P (j+1)=y1 at f;unfold apI;rw[g];rcases d with e|e;exact sF [] (fO 5) (Ftb 40 (Lb ((j:Int)<(P.length:Int))) (Fek 41 idv P (↑j) j (Fv 44 (a+1) (Fv 46 (P.getD j M) (Fv 47 (a+1+P.getD j M) (Fc 52 (@Z04 h.W (a+1+P.getD j M) aa oq) (Fc 58 (@bsearch b ((Z1 h.W (a+1+P.getD j M)).1) aa aa) (Ffb 66 ((Z1 h.W (a+1+P.getD j M)).1 != 0&&!decide ((Z1 h.W (a+1+P.getD j M)).1∈b)) (Fx 67 j (Fa ‹a+1+P.getD j M=y1› Fz))))))))));exact sF [] (fO 5) (Ftb 40 (Lb ((j:Int)<(P.length:Int))) (Fek 41 idv P (↑j) j (Fv 44 (a+1) (Fv 46 (P.getD j M) (Fv 47 (a+1+P.getD j M) (Fc 52 (@Z04 h.W (a+1+P.getD j M) aa oq) (Fc 58 (@bsearch b ((Z1 h.W (a+1+P.getD j M)).1) aa aa) (Ffs 66 ((Z1 h.W (a+1+P.getD j M)).1 != 0&&!decide ((Z1 h.W (a+1+P.getD j M)).1∈b)) (Fx 67 j (Fa ‹a+1+P.getD j M=y1› Fz))))))))))
theorem ZkK(f:NP h b a (P.getD j M)=O):CP (Zm (unS f207) 2) (apI h b i a P j).st (.ext 0) (Tg.st ⟨tm 83 [(1,.pt 8001 0 0),(2,.pt 8002 0 0),(5,u64 (a+1+P.getD j M))],[(8002,.box 223 [int 0,int 0,u64 0]),(8001,.box 28 h.cells)],68⟩):=by obtain⟨d,e⟩:=Zkk.1 f;unfold fdV at d e;clear f;exact sF [] [] (Ftb 40 (Lb ((j:Int)<(P.length:Int))) (Fek 41 idv P (↑j) j (Fv 44 (a+1) (Fv 46 (P.getD j M) (Fv 47 (a+1+P.getD j M) (Fc 52 (@Z04 h.W (a+1+P.getD j M) aa oq) (Fc 58 (@bsearch b ((Z1 h.W (a+1+P.getD j M)).1) aa aa) (Fts 66 ((Z1 h.W (a+1+P.getD j M)).1 != 0&&!decide ((Z1 h.W (a+1+P.getD j M)).1∈b)) Fz))))))))
end
def ZbC(h:Heap) b i a P:CP (Zm (unS f207) 2) (apI h b i a P P.length).st (.ext 2) (Tg.st ⟨tm 83 [(1,.pt 8001 0 0),(2,.pt 8002 0 0),(3,Z3 b),(24,Z3 b),(25,int b.length),(26,int i)],[(8002,.box 223 [int 0,int 0,u64 0]),(8001,.box 28 h.cells)],68⟩):=by exact sF [] [] (Ffb 40 (Lb ((P.length:Int)<(P.length:Int))) Fz)
def Zcv(h:Heap)(b:List Int)(i:Nat)(a:Int)(P:List Int)(m:Zy h.W)(d:h.W.length<=1048576)(hl:b.length<=1048576)(hs:b.Pairwise (· < ·))(f:0<=a/\a<=8192)(e:P.length<=256)(l:∀k∈P,0<=k/\k<=256)(g:P.find? (NP h b a)=Lf) :CP (Zi (unS f207) 2) (Tg.st ⟨tm 83 [(1,.pt 8001 0 0),(2,.pt 8002 0 0),(3,Z3 b),(5,u64 0),(7,u64 a),(24,Z3 b),(25,int b.length),(26,int i),(37,ZE P),(38,int P.length),(39,int 0)],[(8002,.box 223 [int 0,int 0,u64 0]),(8001,.box 28 h.cells)],64⟩) .nrm (Tg.st ⟨tm 83 [(1,.pt 8001 0 0),(2,.pt 8002 0 0),(3,Z3 b),(24,Z3 b),(25,int b.length),(26,int i)],[(8002,.box 223 [int 0,int 0,u64 0]),(8001,.box 28 h.cells)],68⟩):=
 Bs (S:=λj=>(apI h b i a P j).st) P.length kr (λj c=>Z9u h b i a P j m d hl hs f e (l _ (Be.2 ⟨j,c,rfl⟩)) c (Oa g j c)) (ZbC h b i a P)
def ZeK(h:Heap)(b:List Int)(i:Nat)(a:Int)(P:List Int)(x:Int)(l:Zy h.W)(c:h.W.length<=1048576)(hl:b.length<=1048576)(hs:b.Pairwise (· < ·))(f:0<=a/\a<=8192)(e:P.length<=256)(g:∀k∈P,0<=k/\k<=256)(q:P.find? (NP h b a)=Le x) :CP (Zi (unS f207) 2) (Tg.st ⟨tm 83 [(1,.pt 8001 0 0),(2,.pt 8002 0 0),(3,Z3 b),(5,u64 0),(7,u64 a),(24,Z3 b),(25,int b.length),(26,int i),(37,ZE P),(38,int P.length),(39,int 0)],[(8002,.box 223 [int 0,int 0,u64 0]),(8001,.box 28 h.cells)],64⟩) (.ext 0) (Tg.st ⟨tm 83 [(1,.pt 8001 0 0),(2,.pt 8002 0 0),(5,u64 (a+1+x))],[(8002,.box 223 [int 0,int 0,u64 0]),(8001,.box 28 h.cells)],68⟩):=by
 obtain⟨n,d,m,o,p⟩:=Ap q;subst m;exact Zjj (S:=λj=>(apI h b i a P j).st) n kr dd (λj r=>Z9u h b i a P j l c hl hs f e (g _ (Be.2 ⟨j,by omega,rfl⟩)) oq (p j r)) (ZkK h b i a P n l c hl hs f e (g _ (Be.2 ⟨n,d,rfl⟩)) d o)
def apF(h:Heap)(b:List Int)(a:Int):Option Int:=(Zz (Z9 h a).1).find? (NP h b a)
def apL(h:Heap)(a:List Int)(i:Nat):Tg:=⟨tm 83 [(1,.pt 8001 0 0),(2,.pt 8002 0 0),(3,Z3 a),(5,u64 0),(24,Z3 a),(25,int a.length),(26,int i)],[(8002,.box 223 [int 0,int 0,u64 0]),(8001,.box 28 h.cells)],60⟩
def Z2E(h:Zw):∀n:Nat,∀k∈C4 h n,0<=k/\k<n
 |0,k,hk=>by simp[C4]at hk
 |n+1,k,hk=>by
  unfold C4 at hk;split at hk
  .rcases List.mem_append.1 hk with hk|hk
   .have:=Z2E h n k hk;omega
   .simp only[List.mem_cons,List.not_mem_nil,or_false]at hk;omega
  .have:=Z2E h n k hk;omega
def Z0J(h:Zw):(Zz h).length<=256/\∀k∈Zz h,0<=k/\k<=256:=by
 rw[<-Z7n];have hs:=HZ h;have h1:=MK h (Z5 h).toNat
 exact⟨by omega,λk a=>by have:=Z2E h _ k a;omega⟩
section
variable (h:Heap) (a:List Int) (i:Nat) (c:Zy h.W) (d:h.W.length<=1048576) (hl:a.length<=1048576) (hs:a.Pairwise (· < ·)) (hr:∀x∈a,0<=x/\x<=8192) (b:i<a.length)
include c d hl hs hr b
theorem Z9v(j:apF h a (a.getD i M)=Lf):CP (Zm (unS f207) 0) (apL h a i).st .nrm (apL h a (i+1)).st:=by have hx:=hr (a.getD i M) (Be.2 ⟨i,b,rfl⟩);have hm:=IB c (a.getD i M);have g:=Z0J (Z9 h (a.getD i M)).1;have k:=g.1;have l:=g.2;unfold apF at j;let e:=a.getD i M;let f:=Zz (Z9 h e).1;exact sF [] [] (Fk (2,Tg.mk (tm 83 [(1,AV.pt 8001 0 0),(2,AV.pt 8002 0 0),(3,Z3 a),(5,u64 0),(7,u64 e),(24,Z3 a),(25,int ↑a.length),(26,int ↑i),(37,ZE f),(38,int (f.length:Int)),(39,int 0)]) [(8002,Z4.box 223 [int 0,int 0,u64 0]),(8001,Z4.box 28 h.cells)] 64,Ex.nrm,Tg.mk (tm 83 [(1,AV.pt 8001 0 0),(2,AV.pt 8002 0 0),(3,Z3 a),(24,Z3 a),(25,int ↑a.length),(26,int ↑i)]) [(8002,Z4.box 223 [int 0,int 0,u64 0]),(8001,Z4.box 28 h.cells)] 68) (Ftb 27 (Lb ((i:Int)<(a.length:Int))) (Fek 28 wdv a (↑i) i (Fc 33 (@N9 h e aa oq) (Fc 37 (@Z1v ((Z9 h e).1) aa) (Fl 38 idv f (Fa (@Zcv h a i e f aa aa aa aa aa aa aa aa) (Fx 68 i Fz))))))))
theorem ZiN x(j:apF h a (a.getD i M)=Le x):CP (Zm (unS f207) 0) (apL h a i).st (.ext 0) (Tg.st ⟨tm 83 [(1,.pt 8001 0 0),(2,.pt 8002 0 0),(5,u64 (a.getD i M+1+x))],[(8002,.box 223 [int 0,int 0,u64 0]),(8001,.box 28 h.cells)],72⟩):=by have hx:=hr (a.getD i M) (Be.2 ⟨i,b,rfl⟩);have hm:=IB c (a.getD i M);have g:=Z0J (Z9 h (a.getD i M)).1;have k:=g.1;have l:=g.2;unfold apF at j;let e:=a.getD i M;let f:=Zz (Z9 h e).1;exact sF [] [] (Fk (2,Tg.mk (tm 83 [(1,AV.pt 8001 0 0),(2,AV.pt 8002 0 0),(3,Z3 a),(5,u64 0),(7,u64 e),(24,Z3 a),(25,int ↑a.length),(26,int ↑i),(37,ZE f),(38,int (f.length:Int)),(39,int 0)]) [(8002,Z4.box 223 [int 0,int 0,u64 0]),(8001,Z4.box 28 h.cells)] 64,Ex.ext 0,Tg.mk (tm 83 [(1,AV.pt 8001 0 0),(2,AV.pt 8002 0 0),(5,u64 (a.getD i M+1+x))]) [(8002,Z4.box 223 [int 0,int 0,u64 0]),(8001,Z4.box 28 h.cells)] 68) (Ftb 27 (Lb ((i:Int)<(a.length:Int))) (Fek 28 wdv a (↑i) i (Fc 33 (@N9 h e aa oq) (Fc 37 (@Z1v ((Z9 h e).1) aa) (Fl 38 idv f (Fa (@ZeK h a i e f x aa aa aa aa aa aa aa aa) Fz)))))))
end
def ZcA(h:Heap) a:CP (Zm (unS f207) 0) (apL h a a.length).st (.ext 0) (Tg.st ⟨tm 83 [(1,.pt 8001 0 0),(2,.pt 8002 0 0),(5,u64 0)],[(8002,.box 223 [int 0,int 0,u64 0]),(8001,.box 28 h.cells)],72⟩):=by exact sF [] [] (Ffb 27 (Lb ((a.length:Int)<(a.length:Int))) Fz)
def ZgN(h:Heap)(b:List Int)(f:Zy h.W)(c:h.W.length<=1048576)(hl:b.length<=1048576)(hs:b.Pairwise (· < ·))(hr:∀x∈b,0<=x/\x<=8192)(e:b.find? (λa=>(apF h b a).isSome)=Lf)  := Bs (S:=λi=>(apL h b i).st) b.length (by kernel_rfl) (λi d=>Z9v h b i f c hl hs hr d (by simpa using Oa e i d)) (ZcA h b)
def Zht(h:Heap)(b:List Int)(a x:Int)(d:Zy h.W)(c:h.W.length<=1048576)(hl:b.length<=1048576)(hs:b.Pairwise (· < ·))(hr:∀x∈b,0<=x/\x<=8192)(j:b.find? (λa=>(apF h b a).isSome)=Le a)(l:apF h b a=Le x):CP (Zi (unS f207) 0) (Tg.st ⟨tm 83 [(1,.pt 8001 0 0),(2,.pt 8002 0 0),(3,Z3 b),(5,u64 0),(24,Z3 b),(25,int b.length),(26,int 0)],[(8002,.box 223 [int 0,int 0,u64 0]),(8001,.box 28 h.cells)],60⟩) .nrm (Tg.st ⟨tm 83 [(1,.pt 8001 0 0),(2,.pt 8002 0 0),(5,u64 (a+1+x))],[(8002,.box 223 [int 0,int 0,u64 0]),(8001,.box 28 h.cells)],72⟩):=by obtain⟨n,e,f,h3,g⟩:=Ap j;subst f;exact Bs (S:=λi=>(apL h b i).st) n kr (λi k=>Z9v h b i d c hl hs hr oq (by simpa using g i k)) (ZiN h b n d c hl hs hr e x l)
def Z9T(h:Heap):CP (Z8E (unS f207)) (Tg.st ⟨tm 83 [(0,h.av)],[],1⟩) .nrm (Tg.st ⟨tm 83 [(1,.pt 8001 0 0),(2,.pt 8002 0 0)],[(8002,.box 223 [int 0,int 0,u64 0]),(8001,.box 28 h.cells)],20⟩):=by exact sF [] [] Fz
def Sa(h:Heap):Int:=match (Zq h).1.find? (λa=>(apF h (Zq h).1 a).isSome)with|some a=>a+1+(apF h (Zq h).1 a).getD 0|none=>0
def CI(h:Heap):Cc:=if Sa h=0 then⟨0,0,0⟩else⟨6,(Z2 h.C (Sa h)).1,Sa h⟩
def ZhA(h:Heap)(hw:Zy h.W)(i:h.W.length<=1048576):CP (Z40 (unS f207)) (Tg.st ⟨tm 83 [(1,.pt 8001 0 0),(2,.pt 8002 0 0)],[(8002,.box 223 [int 0,int 0,u64 0]),(8001,.box 28 h.cells)],20⟩) .ret (Tg.st ⟨tm 83 [(2,.pt 8002 0 0)],[(8002,.box 223 [int (CI h).fault,int (CI h).page,u64 (CI h).addr])],90⟩):=by
 have hl:=RA h;have hs:=Z5Y h;have hr:=Ma h;cases hf:(Zq h).1.find? (λa=>(apF h (Zq h).1 a).isSome)with
 |none =>
  have b:Sa h=0:=by simp only[Sa,hf]
  have c:CI h=⟨0,0,0⟩:=if_pos b;rw[c];exact sF [] [] (Fk (0,Tg.mk (tm 83 [(1,AV.pt 8001 0 0),(2,AV.pt 8002 0 0),(3,Z3 (Zq h).1),(5,u64 0),(24,Z3 (Zq h).1),(25,int (↑(Zq h).1.length:Int)),(26,int 0)]) [(8002,Z4.box 223 [int 0,int 0,u64 0]),(8001,Z4.box 28 h.cells)] 60,Ex.nrm,Tg.mk (tm 83 [(1,AV.pt 8001 0 0),(2,AV.pt 8002 0 0),(5,u64 0)]) [(8002,Z4.box 223 [int 0,int 0,u64 0]),(8001,Z4.box 28 h.cells)] 72) (Fc 21 (@PX h aa) (Fl 25 wdv (Zq h).1 (Fa (@ZgN h ((Zq h).1) aa aa oq aa aa aa) Fz))))
 |some a =>
  obtain⟨n,e,f,g,h4⟩:=Ap hf;obtain⟨x,d⟩:=L2.1 g;have ha:=hr a (Be.2 ⟨n,e,f⟩);have j:=(Z0J (Z9 h a).1).2 x (LY d);have b:Sa h=a+1+x:=by simp only[Sa,hf,d,LD]
  have c:CI h=⟨6,(Z2 h.C (a+1+x)).1,a+1+x⟩:=by rw[CI,b,if_neg oq]
  rw[c];exact sF [] [] (Fk (0,Tg.mk (tm 83 [(1,AV.pt 8001 0 0),(2,AV.pt 8002 0 0),(3,Z3 (Zq h).1),(5,u64 0),(24,Z3 (Zq h).1),(25,int (↑(Zq h).1.length:Int)),(26,int 0)]) [(8002,Z4.box 223 [int 0,int 0,u64 0]),(8001,Z4.box 28 h.cells)] 60,Ex.nrm,Tg.mk (tm 83 [(1,AV.pt 8001 0 0),(2,AV.pt 8002 0 0),(5,u64 (a+1+x))]) [(8002,Z4.box 223 [int 0,int 0,u64 0]),(8001,Z4.box 28 h.cells)] 72) (Fc 21 (@PX h aa) (Fl 25 wdv (Zq h).1 (Fa (@Zht h ((Zq h).1) a x aa aa oq aa aa aa aa) (Ffb 70 (a+1+x==0) (Fc 76 (@Gq h.C (a+1+x) oq oq) Fz))))))
end Go.Proofs.YtgedmeaemofdkaaGreat
namespace Go.Proofs.YtgedmeaemofdkaaGreat
open Go.Sx Go.RowKit
def Cc.val(f:Cc):Value:=.agg #[.int .i64 f.fault,.int .i64 f.page,.int .u64 f.addr]
def Zcx ρ w Im(f:Cc):Zh ρ w Im f.av f.val:=by refine .ag _ _ rfl (λi v h=>?_) (λi a v b c=>?_);rcases i with _|_|_|i<;>simp at h<;>subst h<;>rfl;rcases i with _|_|_|i<;>simp at b c<;>subst b<;>subst c<;>exact .d (.sc _ rfl)
def ZbA{ρ w Im}{f:Cc}{v}(h:Zh ρ w Im f.av v):v=f.val:=by obtain⟨b,c,d,h3,e⟩:=Hz h;rw[c];have g:∀(k:Nat) (a:k<b.size) (v:Value),[int f.fault,int f.page,u64 f.addr][k]?=Le (.d (.sc v))->b[k]=v:=λk a v j=>C0 (e k _ b[k] j (Array.getElem?_eq_getElem a));have i:b.size=3:=d;simp only[Cc.val];congr 1;apply Array.ext;simp[i];intro k a _;rcases k with _|_|_|k;exact g 0 a _ rfl;exact g 1 a _ rfl;exact g 2 a _ rfl;omega
def noGoto_ret{Q:Exit->Act->World->Prop}{a w}(h:Q .ret a w):Exit.noGoto Q Ex.ret.exit a w:=h
def Z0Q(h:Heap)(hw:Zy h.W)(p:h.W.length<=1048576):GP 207 [h.av] O (CI h).av []:=by
 intro f t r j d a;have c:r.size=1:=d;have b:Tryz.f207.body=Le (.seq (Z8E (unS f207)) (.scope (Z40 (unS f207)))):=by kernel_rfl
 refine calls_of_wp func207 b ?_;have w:Sx.Sys Ga t f (tm 83 [(0,h.av)]) (BU []) 1 {tmps:=r++Lw (Tryz.f207.ntmps-r.size) undef,defers:=[]} f:=by(refine⟨_,t,Sx.Inv.empty j (Lv 1),⟨by rw[c];simp[c];kernel_rfl,λk y v g m=>?_,rfl⟩⟩;rw[show tm 83 [(0,h.av)]=[h.av]++Lh 82 .any from by kernel_rfl,LR]at g;rw[LF]at m;split at g;rename_i z;rw[if_pos (by rw[d];exact z)]at m;exact a k y v g m;have:=LZ g;rw[(L0.1 this).2];exact .any _)
 refine wp_seq (wp_mono (Z9T h _ _ _ _ _ w) ?_);rintro e a1 w1 ⟨rfl,x⟩;refine wp_scope_straight (wp_mono (ZhA h hw p _ _ _ _ _ x) ?_);rintro e a2 w2 ⟨rfl,ρ2,i,s,u⟩;obtain⟨v,n,o⟩:=Z3v (P:=prog) (fn:=f207) (l:=[(CI h).av]) s u kr;refine noGoto_ret (bodyPost_ret n u.defers ⟨v,rfl,s.kept.no,λ_=>Lf,λ_=>False,λ_ q=>q.elim,λ_ q=>q.elim,λ_ _ _ q=>(by cases q),λ_ _ _ _ _ q=>(by cases q),λ_ _ q=>(by cases q),λk B q=>by simp at q, ?_⟩);rw[ZbA (show Zh ρ2 w2 i (CI h).av v from o)];exact Zcx _ _ _ _
end Go.Proofs.YtgedmeaemofdkaaGreat
namespace Go.Proofs.YtgedmeaemofdkaaGreat
open Go.Sx
def Zc4{c:List Int}{x k:Int}(f:0<=k){o:Nat}(ho:o<c.length):(Rj c x k).getD o 0=if x<=o/\(o:Int)<x+k then 0 else c.getD o 0:=by
 have h1:Gb c x<=c.length:=OD c x;have h2:Gb c (x+k)<=c.length:=OD c (x+k);have h3:=Z41 c x f;have e:Gb c x+(Gb c (x+k)-Gb c x)=Gb c (x+k):=by omega
 have a1:o<Gb c x↔(o:Int)<x:=by unfold Gb;omega
 have a:o<Gb c (x+k)↔(o:Int)<x+k:=by unfold Gb;omega
 unfold Rj;rw[e];simp only[Lo];by_cases b:o<Gb c x;rw[List.append_assoc,LS qo,Lz,if_pos b,if_neg (by have:=a1.1 b;omega)];by_cases d:o<Gb c (x+k);rw[LS qo,LU qo,if_pos (by have:=a.1 d;omega)];rw[List.getElem?_replicate,if_pos qo];rfl;rw[LU qo,Ly,if_neg (λq=>d (a.2 q.2))];congr 2;simp;omega
def Z9f{h F}{l c:List Int}{o:Nat}(e:o<c.length):∀n:Nat,n<=l.length->(ZK h F l c n).getD o 0=if(l.take n).any (λa=>Lb (a-F<=o)&&Lb ((o:Int)<a-F+GC h a))=O then 0 else c.getD o 0
 |0,_=>by simp[ZK]
 |n+1,hn=>by
  have hl:=Mj h F l c n;rw[ZK,Zc4 (Z81 h _).1 oq,Z9f e n oq,TY oq,List.any_append];generalize l.getD n M=a;generalize (l.take n).any _=b;by_cases d:a-F<=o/\(o:Int)<a-F+GC h a
  .rw[if_pos d,if_pos (by simp[d])]
  .rw[if_neg d];have:([a].any λa=>Lb (a-F<=(o:Int))&&Lb ((o:Int)<a-F+GC h a))=Lc:=by
    simp only[List.any_cons,List.any_nil,LH,Bool.and_eq_false_iff,decide_eq_false_iff_not];omega
   rw[this,LH]
def OB{h:Heap}(a:Z8 h=O){i:Nat}(hi:i<h.P.length){o:Int}(ho:0<=o/\o<h.C.pw):(address h.C i o).1=4096+(i*h.C.pw+o):=by have b:=B4 a;unfold address;rw[if_pos b.1,if_pos (HQ.2 oq)]
def Z3s{h:Heap}(a:Z8 h=O){i:Nat}(hi:i<h.P.length):0<=(i:Int)*h.C.pw/\(i:Int)*h.C.pw+h.C.pw<=h.W.length:=by
 have po:=B4 a;have h1:((i:Int)+1)*h.C.pw<=h.C.pg*h.C.pw:=LM oq oq;have h2:((i:Int)+1)*h.C.pw=i*h.C.pw+h.C.pw:=by rw[LI,LN]
 have h3:h.C.pg*h.C.pw=h.C.pw*h.C.pg:=LL _ _;have h4:(0:Int)<=i*h.C.pw:=Int.mul_nonneg oq oq;omega
def ZgP{h:Heap}(a:Z8 h=O){i:Nat}(b:i<h.P.length):(Ry h i).length=h.C.pw.toNat/\∀o:Nat,o<h.C.pw.toNat->(Ry h i).getD o 0=Gs h i o:=by have po:=B4 a;have pi:=Z3s a b;have c:=OB a b (o:=0) oq;constructor;simp only[Ry,Lr,LA];omega;intro o e;have d:=OB a b (o:=o) oq;unfold Gs Z1;rw[d];rw[if_pos oq];simp only[Ry,Lo,Lz,Ly,if_pos e];rw[c,show(4096+((i:Int)*h.C.pw+0)-4096).toNat+o=(4096+((i:Int)*h.C.pw+(o:Int))-4096).toNat from by omega]
def Z2x{h:Heap}(b:Z8 h=O){i:Nat}(c:i<h.P.length):(BX h i).length=h.C.pw.toNat/\∀o:Nat,o<h.C.pw.toNat->(BX h i).getD o 0=if(CL h i).getD o M=O then 0 else Gs h i o:=by
 have po:=B4 b;obtain⟨r1,r2⟩:=ZgP b c;constructor;rw[BX,Mj,r1];intro o d;rw[BX,Z9f oq _ (Lv _),List.take_length,r2 o d];have f:=OB b c (o:=0) oq;have e:(CL h i).getD o M=(Zd h (ZY h.P i:Nat)).1.any (λa=>Lb (a-(address h.C i 0).1<=(o:Int))&&Lb ((o:Int)<a-(address h.C i 0).1+GC h a)):=by(unfold CL Cu;rw[Lo,List.getElem?_map,List.getElem?_range d];simp only[L3,LD];congr 1;funext a;unfold Dl;rw[f,show a-(4096+((i:Int)*h.C.pw+0))=a-4096-i*h.C.pw from by omega])
 rw[e]
def Z7X{h:Heap}(hp:Z8 h=O){i:Nat}(hi:i<h.P.length)(e:Gx (BX h i)<(BX h i).length):Es h i (CL h i)=4096+i*h.C.pw+Gx (BX h i):=by
 obtain⟨c1,c2⟩:=Z2x hp hi;have hu:=Tt h i;have hf:(Lg (CL h i).length).find? (Hw h i (CL h i))=Le (Gx (BX h i)):=by
  rw[Lm];refine⟨?_,Li.2 oq,λj hj=>?_⟩
  .have h1:=Z9g e;rw[show(M:Int)=0 from rfl,c2 _ oq]at h1;split at h1
   .exact absurd rfl h1
   .rename_i h2;simp only[Hw,LG,Lx,decide_eq_true_eq];exact⟨by simpa using h2,h1⟩
  .have h1:=(OP hj).2;rw[show(M:Int)=0 from rfl,c2 _ oq]at h1;simp only[Hw,Bool.not_and,Bool.not_not,Bool.or_eq_true,Lx,decide_eq_false_iff_not];split at h1
   .rename_i h2;exact .inl h2
   .exact .inr (λq=>q h1)
 unfold Es;rw[hf]
def ZhK{h:Heap}(hp:Z8 h=O){i:Nat}(hi:i<h.P.length)(e:¬ Gx (BX h i)<(BX h i).length):Es h i (CL h i)=0:=by
 obtain⟨c1,c2⟩:=Z2x hp hi;have hu:=Tt h i;have hf:(Lg (CL h i).length).find? (Hw h i (CL h i))=Lf:=by
  rw[Ll];intro j hj;have hj:=Li.1 hj;have h1:=(OP (l:=BX h i) (m:=j) oq).2;rw[show(M:Int)=0 from rfl,c2 _ oq]at h1;simp only[Hw,LG,Lx,decide_eq_true_eq,not_and];intro h2 h3;rw[if_neg (by rw[h2];simp)]at h1;exact h3 h1
 unfold Es;rw[hf]
def Z1y{h:Heap}(a:Z8 h=O){i:Nat}(c:i<h.P.length):G6 h i (Zd h i).1=Lb (Cq h i (Zd h i).1≠0):=by
 unfold Cq G6;cases hf:(Zd h i).1.find? (Gk h i)with
 |none=>simp
 |some x =>
  have b:=LY hf;have e:=Z2D a (i:=i) oq;rw[e]at b;obtain⟨y,d,rfl⟩:=LW.1 b;have h1:=(Z3k y d).1;have h2:=(Z3s a c).1;have:y.addr≠0:=by omega
  simp[this]
def find_congr{α:Type}{p q:α->Bool}:∀{l:List α},(∀x∈l,p x=q x)->l.find? p=l.find? q
 |[],_=>rfl
 |a::l,h=>by
  rw[LQ,LQ,h a pq,find_congr (l:=l) (λx b=>h x (by simp[b]))]
def find_range{l:List Int}{p:Int->Bool}:match (Lg l.length).find? (λi=>p (l.getD i M))with|Lf=>l.find? p=Lf|Le i=>l.find? p=Le (l.getD i M):=by
 split;rename_i a;rw[Ll]at a⊢;intro x j;obtain⟨i,g,e⟩:=Be.1 j;have:=a i (Li.2 g);rwa [e]at this;rename_i i a;obtain⟨c,b,f⟩:=Lm.1 a;have b:=Li.1 b;cases hf:l.find? p with
 |none =>have:=Ll.1 hf (l.getD i M) (Be.2 ⟨i,b,rfl⟩);exact absurd c this
 |some x =>
  obtain⟨n,k1,d,k,m⟩:=Ap hf;have h:n=i:=by(rcases Nat.lt_trichotomy n i with q|q|q;have:=f n q;rw[d,k]at this;cases this;exact q;have:=m i q;rw[c]at this;cases this)
  subst h;rw[d]
def P0{h}{a:Int}(b:a∈(Zq h).1):(Z9 h a).2=0/\(Z9 h a).1.K≠0:=by by_cases e:(Cx h).2=0;rw[Z52 h e]at b;obtain⟨x,i,rfl⟩:=LW.1 b;obtain⟨c,d⟩:=List.mem_filter.1 i;obtain⟨f,g⟩:=Z98 x c;refine⟨g, ?_⟩;rw[<-f];simpa[El]using d;rw[Z75 h e]at b;simp at b
def Z5i(hd:Zw):∀n:Nat,C4 hd n=((Lg n).filter (λk:Nat=>Bl hd k)).map (λk:Nat=>(k:Int))
 |0=>rfl
 |n+1=>by
  rw[C4,List.range_succ,List.filter_append,Lu,<-Z5i hd n];by_cases h:Bl hd (n:Int)=O
  .rw[if_pos h];simp[h]
  .rw[if_neg h];simp[h]
def Mk(h:Heap)(b:List Int)(a:Int):Option Nat:=(Lg (BW h a).1.length).find? (IW (Zs h a).1 (BW h a).1 b)
def Z4S{h a}(e:(Z9 h a).2=0)(b:(Z9 h a).1.K≠0) c:apF h c a=(Mk h c a).map (λk:Nat=>(k:Int)):=by
 have i1:=Z2s e;have m:=(TU e).1;have d:Zs h a=Z9 h a:=by(unfold Zs;rw[if_pos m,if_neg oq,if_neg (λq=>b q.2)])
 have f:=NA (h:=h) (a:=a) (by rw[d];exact e);rw[d]at f;have l:=f.2.2.2.2.2.2.1;have hl:=f.2.2.2.2.2.2.2.2.2;have g:(BW h a).1=(h.W.drop (a+1-4096).toNat).take (Z9 h a).1.length.toNat:=by(unfold BW;rw[d,if_pos e,BY,if_neg oq,if_pos oq])
 have j:(BW h a).1.length=(Z9 h a).1.length.toNat:=by(rw[g,Lr,LA];omega)
 have i:∀k:Nat,k<(Z9 h a).1.length.toNat->(BW h a).1.getD k M=fdV h a k:=by(intro k b;unfold fdV Z1;rw[if_pos oq,g];simp only[Lo,Lz,Ly,if_pos b];rw[show(a+1-4096).toNat+k=(a+1+(k:Int)-4096).toNat from by omega];rfl)
 unfold apF Mk Zz;rw[if_pos l,Z5i,List.find?_map,List.find?_filter,j,d];congr 1;refine find_congr λk b=>?_;have b:=Li.1 b;rw[IW,i k b];simp only[Function.comp,NP];cases Bl (Z9 h a).1 (k:Int)<;>simp
def ZjA(h:Heap):CI h=EG h (Zq h).1:=by
 have hr:=find_range (l:=(Zq h).1) (p:=λa=>(Mk h (Zq h).1 a).isSome);have j:(Zq h).1.find? (λa=>(apF h (Zq h).1 a).isSome)=(Zq h).1.find? (λa=>(Mk h (Zq h).1 a).isSome):=find_congr λa f=>by(rw[Z4S (P0 f).1 (P0 f).2,Option.isSome_map])
 unfold CI Sa EG;rw[j];change match (Lg (Zq h).1.length).find? (λi=>(HA h (Zq h).1 i).isSome)with|Lf=>_|Le i=>_ at hr
 split at hr;rename_i b;rw[hr,b];rfl;rename_i i b;have e:=(Lm.1 b);have d:(Zq h).1.getD i M∈(Zq h).1:=Be.2 ⟨i,Li.1 e.2.1,rfl⟩;obtain⟨k,g⟩:=L2.1 e.1;have c:Mk h (Zq h).1 ((Zq h).1.getD i M)=Le k:=g;have i1:=Z2s (P0 d).1;rw[hr,b];simp only[g,Z4S (P0 d).1 (P0 d).2,c,L3,LD];rw[if_neg oq]
def NJ(h:Heap)(i:Nat):Tg:=⟨tm 64 [(1,.pt 8001 0 0),(2,.pt 8002 0 0),(12,ZZ h.P),(13,int h.P.length),(14,int i)],[(8002,.box 223 [int 0,int 0,u64 0]),(8001,.box 28 h.cells)],60⟩
def De(f:Cc):Tg:=⟨tm 64 [(2,.pt 8002 0 0)],[(8002,.box 223 [int f.fault,int f.page,u64 f.addr])],64⟩
section
variable (h:Heap) (i:Nat) (c:Zy h.W) (a:Z8 h=O) (b:i<h.P.length)
include c a b
theorem Zik(e:Es h i (CL h i)=0):C5 (BX h i)=-1:=by by_cases d:Gx (BX h i)<(BX h i).length;have h1:=Z7X a b d;have h2:=(Z3s a b).1;omega;exact if_neg d
theorem Z9K(e:¬ Es h i (CL h i)=0):0<=C5 (BX h i)/\C5 (BX h i)<=64/\Es h i (CL h i)=(address h.C i 0).1+C5 (BX h i):=by have po:=B4 a;by_cases d:Gx (BX h i)<(BX h i).length;have f:=Z7X a b d;have g:C5 (BX h i)=Gx (BX h i):=if_pos d;have j:=OB a b (o:=0) oq;have h4:=(Z2x a b).1;rw[f,g,j];omega;exact absurd (ZhK a b d) e
theorem Z6M(d:(h.P.getD i M).K=0\/(h.P.getD i M).S=h.S)(n2:(Zd h (i:Int)).2=0)(f:Cq h (i:Int) (Zd h (i:Int)).1=0)(g:Es h i (CL h i)=0):CP (Zm f206 0) (NJ h i).st .nrm (NJ h (i+1)).st:=by have po:=B4 a;have hn:=R2 h (i:Int);have hr:=Ao a (i:Int);have e:=Z1y a b;rw[f]at e;have q4:=Zik h i c a b g;simp only[ne_eq,not_true_eq_false,decide_false]at e;rcases d with d|d;exact sF [] [] (Fh 48 [.br Lc] (Fh 58 [.br Lc] (Ftb 15 (Lb ((i:Int)<(h.P.length:Int))) (Fek 17 Z0.dv h.P (↑i) i (Ffb 28 ((h.P.getD i M).K != 0&&(h.P.getD i M).S != h.S) (Fc 34 (@Nx h ((i:Int)) aa oq) (Ffb 38 ((Zd h (i:Int)).2 != 0) (Fc 45 (@Da h ((i:Int)) ((Zd h (i:Int)).1) aa oq oq oq aa) (Fa ‹G6 h (i:Int) (Zd h (i:Int)).1=Lc› (Fc 55 (@Pp h i aa aa aa) (Fb (Lb (0<=C5 (BX h i))=Lc) (Fx 62 i Fz))))))))))));exact sF [] [] (Fh 48 [.br Lc] (Fh 58 [.br Lc] (Ftb 15 (Lb ((i:Int)<(h.P.length:Int))) (Fek 17 Z0.dv h.P (↑i) i (Ffb 28 ((h.P.getD i M).K != 0&&(h.P.getD i M).S != h.S) (Fc 34 (@Nx h ((i:Int)) aa oq) (Ffb 38 ((Zd h (i:Int)).2 != 0) (Fc 45 (@Da h ((i:Int)) ((Zd h (i:Int)).1) aa oq oq oq aa) (Fa ‹G6 h (i:Int) (Zd h (i:Int)).1=Lc› (Fc 55 (@Pp h i aa aa aa) (Fb (Lb (0<=C5 (BX h i))=Lc) (Fx 62 i Fz))))))))))))
theorem Zkv(d:¬ (h.P.getD i M).K=0/\¬ (h.P.getD i M).S=h.S):CP (Zm f206 0) (NJ h i).st .ret (De ⟨2,i,0⟩).st:=by have po:=B4 a;obtain⟨d,n2⟩:=d;exact sF [] [] (Ftb 15 (Lb ((i:Int)<(h.P.length:Int))) (Fek 17 Z0.dv h.P (↑i) i (Ftb 28 ((h.P.getD i M).K != 0&&(h.P.getD i M).S != h.S) Fz)))
theorem ZfM(d:(h.P.getD i M).K=0\/(h.P.getD i M).S=h.S)(n2:¬ (Zd h (i:Int)).2=0):CP (Zm f206 0) (NJ h i).st .ret (De ⟨3,i,0⟩).st:=by have po:=B4 a;rcases d with d|d;exact sF [] [] (Ftb 15 (Lb ((i:Int)<(h.P.length:Int))) (Fek 17 Z0.dv h.P (↑i) i (Ffb 28 ((h.P.getD i M).K != 0&&(h.P.getD i M).S != h.S) (Fc 34 (@Nx h ((i:Int)) aa oq) (Ftb 38 ((Zd h (i:Int)).2 != 0) Fz)))));exact sF [] [] (Ftb 15 (Lb ((i:Int)<(h.P.length:Int))) (Fek 17 Z0.dv h.P (↑i) i (Ffb 28 ((h.P.getD i M).K != 0&&(h.P.getD i M).S != h.S) (Fc 34 (@Nx h ((i:Int)) aa oq) (Ftb 38 ((Zd h (i:Int)).2 != 0) Fz)))))
theorem Zcu(d:(h.P.getD i M).K=0\/(h.P.getD i M).S=h.S)(n2:(Zd h (i:Int)).2=0)(e:¬ Cq h (i:Int) (Zd h (i:Int)).1=0):CP (Zm f206 0) (NJ h i).st .ret (De ⟨5,i,Cq h (i:Int) (Zd h (i:Int)).1⟩).st:=by
 have po:=B4 a;have hn:=R2 h (i:Int);have hr:=Ao a (i:Int);have q3:G6 h i (Zd h i).1=O:=by rw[Z1y a b];simpa using e
 rcases d with d|d;exact sF [] [] (Fh 48 [.br O] (Ftb 15 (Lb ((i:Int)<(h.P.length:Int))) (Fek 17 Z0.dv h.P (↑i) i (Ffb 28 ((h.P.getD i M).K != 0&&(h.P.getD i M).S != h.S) (Fc 34 (@Nx h ((i:Int)) aa oq) (Ffb 38 ((Zd h (i:Int)).2 != 0) (Fc 45 (@Da h ((i:Int)) ((Zd h (i:Int)).1) aa oq oq oq aa) (Fa ‹G6 h (i:Int) (Zd h (i:Int)).1=O› Fz))))))));exact sF [] [] (Fh 48 [.br O] (Ftb 15 (Lb ((i:Int)<(h.P.length:Int))) (Fek 17 Z0.dv h.P (↑i) i (Ffb 28 ((h.P.getD i M).K != 0&&(h.P.getD i M).S != h.S) (Fc 34 (@Nx h ((i:Int)) aa oq) (Ffb 38 ((Zd h (i:Int)).2 != 0) (Fc 45 (@Da h ((i:Int)) ((Zd h (i:Int)).1) aa oq oq oq aa) (Fa ‹G6 h (i:Int) (Zd h (i:Int)).1=O› Fz))))))))
theorem ZjT(d:(h.P.getD i M).K=0\/(h.P.getD i M).S=h.S)(n2:(Zd h (i:Int)).2=0)(g:Cq h (i:Int) (Zd h (i:Int)).1=0)(j:¬ Es h i (CL h i)=0):CP (Zm f206 0) (NJ h i).st .ret (De ⟨4,i,Es h i (CL h i)⟩).st:=by
 have po:=B4 a;have hn:=R2 h (i:Int);have hr:=Ao a (i:Int);have e:=Z1y a b;rw[g]at e;simp only[ne_eq,not_true_eq_false,decide_false]at e;obtain⟨q4,q5,k⟩:=Z9K h i c a b j;have f:max (C5 (BX h i)) 0=C5 (BX h i):=by omega
 rw[k];rcases d with d|d;exact sF [] (fO 6) (Fh 48 [.br Lc] (Fh 58 [.br O] (Ftb 15 (Lb ((i:Int)<(h.P.length:Int))) (Fek 17 Z0.dv h.P (↑i) i (Ffb 28 ((h.P.getD i M).K != 0&&(h.P.getD i M).S != h.S) (Fc 34 (@Nx h ((i:Int)) aa oq) (Ffb 38 ((Zd h (i:Int)).2 != 0) (Fc 45 (@Da h ((i:Int)) ((Zd h (i:Int)).1) aa oq oq oq aa) (Fa ‹G6 h (i:Int) (Zd h (i:Int)).1=Lc› (Fc 55 (@Pp h i aa aa aa) (Fb (Lb (0<=C5 (BX h i))=O) (Fr (223:Int) (Fr (4:Int) (Fr (i:Int) (Fa (by rw[f]:(address h.C (i:Int) 0).1+max (C5 (BX h i)) 0=(Cc.mk 4 (i:Int) ((address h.C (i:Int) 0).1+C5 (BX h i))).addr) Fz)))))))))))))));exact sF [] (fO 6) (Fh 48 [.br Lc] (Fh 58 [.br O] (Ftb 15 (Lb ((i:Int)<(h.P.length:Int))) (Fek 17 Z0.dv h.P (↑i) i (Ffb 28 ((h.P.getD i M).K != 0&&(h.P.getD i M).S != h.S) (Fc 34 (@Nx h ((i:Int)) aa oq) (Ffb 38 ((Zd h (i:Int)).2 != 0) (Fc 45 (@Da h ((i:Int)) ((Zd h (i:Int)).1) aa oq oq oq aa) (Fa ‹G6 h (i:Int) (Zd h (i:Int)).1=Lc› (Fc 55 (@Pp h i aa aa aa) (Fb (Lb (0<=C5 (BX h i))=O) (Fr (223:Int) (Fr (4:Int) (Fr (i:Int) (Fa (by rw[f]:(address h.C (i:Int) 0).1+max (C5 (BX h i)) 0=(Cc.mk 4 (i:Int) ((address h.C (i:Int) 0).1+C5 (BX h i))).addr) Fz)))))))))))))))
end
def Zc5(h:Heap):CP (Zm f206 0) (NJ h h.P.length).st (.ext 0) (De ⟨0,0,0⟩).st:=by exact sF [] [] (Ffb 15 (Lb ((h.P.length:Int)<(h.P.length:Int))) Fz)
def CB(h:Heap):Cc:=match Gv h with|Le i=>pageF h i|Lf=>⟨0,0,0⟩
def Z5O{h i}(e:(pageF h i).fault=0):((h.P.getD i M).K=0\/(h.P.getD i M).S=h.S)/\(Zd h (i:Int)).2=0/\Cq h (i:Int) (Zd h (i:Int)).1=0/\Es h i (CL h i)=0:=by unfold pageF at e;split at e;simp at e;rename_i a;split at e;simp at e;rename_i b;split at e;simp at e;rename_i c;split at e;simp at e;rename_i d;refine⟨?_,Ln.1 b,Ln.1 c,Ln.1 d⟩;by_cases q:(h.P.getD i M).K=0;exact .inl q;refine .inr (Ln.1 λf=>a ⟨q,f⟩)
def Zhr(h:Heap)(i:Nat)(g:Zy h.W)(f:Z8 h=O)(d:i<h.P.length)(e:(pageF h i).fault≠0):CP (Zm f206 0) (NJ h i).st .ret (De (pageF h i)).st:=by
 unfold pageF at e⊢;split;rename_i b;exact Zkv h i g f d b;rename_i b;have k:(h.P.getD i M).K=0\/(h.P.getD i M).S=h.S:=by(by_cases q:(h.P.getD i M).K=0;exact .inl q;exact .inr (Ln.1 λl=>b ⟨q,l⟩))
 split;rename_i a;exact ZfM h i g f d k a;rename_i a;split;rename_i c;exact Zcu h i g f d k (Ln.1 a) c;rename_i c;split;rename_i j;exact ZjT h i g f d k (Ln.1 a) (Ln.1 c) j;rename_i j;rw[if_neg b,if_neg a,if_neg c,if_neg j]at e;exact absurd rfl e
def Zbo(h:Heap)(d:Zy h.W)(c:Z8 h=O)(b:Gv h=Lf):CP (Zi f206 0) (NJ h 0).st .nrm (Tg.st ⟨tm 64 [(2,.pt 8002 0 0)],[(8002,.box 223 [int 0,int 0,u64 0])],64⟩):=by refine Bs (S:=λk=>(NJ h k).st) h.P.length kr (λk a=>?_) (Zc5 h);have e:=Ll.1 b k (Li.2 a);obtain⟨f,g,j,l⟩:=Z5O (h:=h) (i:=k) (by simpa using e);exact Z6M h k d c a f g j l
def Zgy(h:Heap) i(c:Zy h.W)(b:Z8 h=O)(g:Gv h=Le i):CP (Zi f206 0) (Tg.st ⟨tm 64 [(1,.pt 8001 0 0),(2,.pt 8002 0 0),(12,ZZ h.P),(13,int h.P.length),(14,int 0)],[(8002,.box 223 [int 0,int 0,u64 0]),(8001,.box 28 h.cells)],60⟩) .ret (Tg.st ⟨tm 64 [(2,.pt 8002 0 0)],[(8002,.box 223 [int (pageF h i).fault,int (pageF h i).page,u64 (pageF h i).addr])],64⟩):=by obtain⟨d,a,f⟩:=Lm.1 g;have a:=Li.1 a;refine G5 (S:=λk=>(NJ h k).st) i kr (λk j=>?_) (Zhr h i c b a (by simpa using d));have e:=f k j;obtain⟨l,m,n,o⟩:=Z5O (h:=h) (i:=k) (by simpa using e);exact Z6M h k c b oq l m n o
def PF(h:Heap)(hw:Zy h.W)(b:Z8 h=O):GP 206 [h.av] O (CB h).av []:=by
 have po:=B4 b;cases hf:Gv h with
 |none =>
  have a:CB h=⟨0,0,0⟩:=by simp only[CB,hf]
  rw[a];exact gF [] func206 [] (Fl 13 Z0.dv h.P (Fu (@Zbo h aa aa aa) Fz))
 |some i =>
  have a:CB h=pageF h i:=by simp only[CB,hf]
  rw[a];exact gF [] func206 [] (Fl 13 Z0.dv h.P (Fu (@Zgy h i aa aa aa) Fz))
def ZgT(h:Heap)(hw:Zy h.W)(hp:Z8 h=Lc):GP 171 [h.av] O (Cc.av ⟨1,0,0⟩) []:=by exact gF [] func171 [] (Fc 9 (@Ey h) (Ftb 10 (!Z8 h) Fz))
def ZbQ(h:Heap)(hw:Zy h.W)(d:Z8 h=O) i(a:Gv h=Le i):GP 171 [h.av] O (pageF h i).av []:=by
 have po:=B4 d;have b:CB h=pageF h i:=by simp only[CB,a]
 have c:¬ (pageF h i).fault=0:=by simpa using (Lm.1 a).1
 rw[<-b]at c⊢;exact gF [] func171 [] (Fc 9 (@Ey h) (Ffb 10 (!Z8 h) (Fc 13 (@PF h aa aa) (Ftb 16 (!((CB h).fault==0&&((CB h).page==0&&(CB h).addr==0))) Fz))))
def ZbP(h:Heap)(hw:Zy h.W)(c:Z8 h=O)(b:Gv h=Lf)(hq:¬ (CI h).fault=0):GP 171 [h.av] O (CI h).av []:=by
 have po:=B4 c;have a:CB h=⟨0,0,0⟩:=by simp only[CB,b]
 have q1:(CB h).fault=0:=by rw[a]
 have q2:(CB h).page=0:=by rw[a]
 have q3:(CB h).addr=0:=by rw[a]
 exact gF [] func171 [] (Fc 9 (@Ey h) (Ffb 10 (!Z8 h) (Fc 13 (@PF h aa aa) (Ffb 16 (!((CB h).fault==0&&((CB h).page==0&&(CB h).addr==0))) (Fc 19 (@Z0Q h aa oq) (Ftb 22 (!((CI h).fault==0&&((CI h).page==0&&(CI h).addr==0))) Fz))))))
def NZ(h:Heap)(i:Nat):Tg:=⟨tm 50 [(1,.pt 8001 0 0),(2,.pt 8002 0 0),(5,int (Bp h.P i)),(25,ZZ h.P),(26,int h.P.length),(27,int i)],[(8002,.box 223 [int 0,int 0,u64 0]),(8001,.box 28 h.cells)],60⟩
def ZfH(h:Heap)(i:Nat)(c:Z8 h=O)(hi:i<h.P.length):CP (Zm f171 0) (NZ h i).st .nrm (NZ h (i+1)).st:=by
 have po:=B4 c;have:=Rb h.P i;by_cases a:(h.P.getD i M).K=1;by_cases b:0<(h.P.getD i M).N;have e:Bp h.P (i+1)=Bp h.P i+1:=by rw[Bp,if_pos ⟨a,b⟩]
 rw[NZ,NZ,e];exact sF [] [] (Ftb 28 (Lb ((i:Int)<(h.P.length:Int))) (Fek 29 Z0.dv h.P (↑i) i (Ftb 38 ((h.P.getD i M).K==1&&Lb (0<(h.P.getD i M).N)) (Fw 40 ((↑(Bp h.P i):Int)+1) (↑(Bp h.P i+1):Int) (Fx 41 i Fz)))));have e:Bp h.P (i+1)=Bp h.P i:=by rw[Bp,if_neg (λq=>b q.2)];rfl
 rw[NZ,NZ,e];exact sF [] [] (Ftb 28 (Lb ((i:Int)<(h.P.length:Int))) (Fek 29 Z0.dv h.P (↑i) i (Ffb 38 ((h.P.getD i M).K==1&&Lb (0<(h.P.getD i M).N)) (Fx 41 i Fz))));have e:Bp h.P (i+1)=Bp h.P i:=by rw[Bp,if_neg (λq=>a q.1)];rfl
 rw[NZ,NZ,e];exact sF [] [] (Ftb 28 (Lb ((i:Int)<(h.P.length:Int))) (Fek 29 Z0.dv h.P (↑i) i (Ffb 38 ((h.P.getD i M).K==1&&Lb (0<(h.P.getD i M).N)) (Fx 41 i Fz))))
def ZhO(h:Heap):CP (Zm f171 0) (NZ h h.P.length).st (.ext 0) (Tg.st ⟨tm 50 [(1,.pt 8001 0 0),(2,.pt 8002 0 0),(5,int (Bp h.P h.P.length))],[(8002,.box 223 [int 0,int 0,u64 0]),(8001,.box 28 h.cells)],64⟩):=by exact sF [] [] (Ffb 28 (Lb ((h.P.length:Int)<(h.P.length:Int))) Fz)
def Z7m(h:Heap)(b:Z8 h=O)  := Bs (S:=λi=>(NZ h i).st) h.P.length (by kernel_rfl) (λi a=>ZfH h i b a) (ZhO h)
def Zfw(h:Heap)(hw:Zy h.W)(f:Z8 h=O)(e:Gv h=Lf)(c:(CI h).fault=0)(hc:h.C.pg/4<(Bp h.P h.P.length:Nat)):GP 171 [h.av] O (Cc.av ⟨7,0,0⟩) []:=by
 have po:=B4 f;have cl:=Rb h.P h.P.length;have a:CB h=⟨0,0,0⟩:=by simp only[CB,e]
 have q1:(CB h).fault=0:=by rw[a]
 have q2:(CB h).page=0:=by rw[a]
 have q3:(CB h).addr=0:=by rw[a]
 have b:CI h=⟨0,0,0⟩:=by(unfold CI at c⊢;split at c;rename_i d;rw[if_pos d];simp at c)
 have q4:(CI h).fault=0:=by rw[b]
 have q5:(CI h).page=0:=by rw[b]
 have q6:(CI h).addr=0:=by rw[b]
 exact gF [] func171 [] (Fc 9 (@Ey h) (Ffb 10 (!Z8 h) (Fc 13 (@PF h aa aa) (Ffb 16 (!((CB h).fault==0&&((CB h).page==0&&(CB h).addr==0))) (Fc 19 (@Z0Q h aa oq) (Ffb 22 (!((CI h).fault==0&&((CI h).page==0&&(CI h).addr==0))) (Fl 26 Z0.dv h.P (Fu (@Z7m h aa) (Fg 46 (by rw[LO oq,E6 oq oq]:Lq.wrap (h.C.pg.tdiv 4)=h.C.pg/4) (Fa (by decide:(4:Int)≠0) (Ftb 47 (Lb (h.C.pg/4<(↑(Bp h.P h.P.length):Int))) Fz)))))))))))
def Zif(h:Heap)(hw:Zy h.W)(f:Z8 h=O)(e:Gv h=Lf)(c:(CI h).fault=0)(hc:¬ h.C.pg/4<(Bp h.P h.P.length:Nat)):GP 171 [h.av] O (Cc.av ⟨0,0,0⟩) []:=by
 have po:=B4 f;have cl:=Rb h.P h.P.length;have a:CB h=⟨0,0,0⟩:=by simp only[CB,e]
 have q1:(CB h).fault=0:=by rw[a]
 have q2:(CB h).page=0:=by rw[a]
 have q3:(CB h).addr=0:=by rw[a]
 have b:CI h=⟨0,0,0⟩:=by(unfold CI at c⊢;split at c;rename_i d;rw[if_pos d];simp at c)
 have q4:(CI h).fault=0:=by rw[b]
 have q5:(CI h).page=0:=by rw[b]
 have q6:(CI h).addr=0:=by rw[b]
 exact gF [] func171 [] (Fc 9 (@Ey h) (Ffb 10 (!Z8 h) (Fc 13 (@PF h aa aa) (Ffb 16 (!((CB h).fault==0&&((CB h).page==0&&(CB h).addr==0))) (Fc 19 (@Z0Q h aa oq) (Ffb 22 (!((CI h).fault==0&&((CI h).page==0&&(CI h).addr==0))) (Fl 26 Z0.dv h.P (Fu (@Z7m h aa) (Fg 46 (by rw[LO oq,E6 oq oq]:Lq.wrap (h.C.pg.tdiv 4)=h.C.pg/4) (Fa (by decide:(4:Int)≠0) (Ffb 47 (Lb (h.C.pg/4<(↑(Bp h.P h.P.length):Int))) Fz)))))))))))
def ZiU(h:Heap)(c:Zy h.W):GP 171 [h.av] O (Bm h).av []:=by
 have e:=ZjA h;unfold Bm;rw[<-e];by_cases a:Z8 h=O;rw[if_pos a];cases hb:Gv h with|some i=>exact ZbQ h c a i hb|none =>by_cases b:(CI h).fault=0;simp only[b,ne_eq,not_true_eq_false,if_false];by_cases d:h.C.pg/4<(Bp h.P h.P.length:Nat);rw[if_pos d];exact Zfw h c a hb b d;rw[if_neg d];exact Zif h c a hb b d;simp only[ne_eq,b,not_false_eq_true,if_true];exact ZbP h c a hb b
 rw[if_neg a];exact ZgT h c (by simpa using a)
def Zdz(h:Heap):((Bm h).fault==0&&((Bm h).page==0&&(Bm h).addr==0))=Lb (Bm h=⟨0,0,0⟩):=by
 cases Bm h with|mk a b c=>by_cases d:a=0<;>by_cases e:b=0<;>by_cases f:c=0<;>simp[d,e,f]
def Z2i(h:Heap)(hw:Zy h.W):GP 122 [h.av] O (bool (Lb (Bm h=⟨0,0,0⟩))) []:=by have a:=Zdz h;exact gF [] func122 [O] (Fc 4 (@ZiU h aa) (Fa (by exact a:((Bm h).fault==0&&((Bm h).page==0&&(Bm h).addr==0))=Lb (Bm h=Cc.mk 0 0 0)) Fz))
def GF(a:List Int)(r:Int):Bool:=(r != 0)&&!decide (r∈a)
def OS(a:List Int):AV:=.fn 126 [.rp [.sl 1 (a.map wdv)] 0]
def Z7B(a:List Int) r(ha:a.length<=1048576)(hs:a.Pairwise (· < ·)):GP 126 [u64 r,.rp [.sl 1 (a.map wdv)] 0] O (bool (GF a r)) []:=by
 by_cases b:r=0;have e:GF a r=Lc:=by simp[GF,b]
 rw[e];exact gF [] func126 (fO 2) (Fc 9 (@bsearch a r aa aa) (Fa ‹(r != 0&&!decide (r∈a))=Lc› Fz));by_cases c:r∈a;have e:GF a r=Lc:=by simp[GF,c]
 rw[e];exact gF [] func126 (fO 2) (Fc 9 (@bsearch a r aa aa) (Fa ‹(r != 0&&!decide (r∈a))=Lc› Fz));have e:GF a r=O:=by simp[GF,b,c]
 rw[e];exact gF [] func126 (fO 2) (Fc 9 (@bsearch a r aa aa) (Fa ‹(r != 0&&!decide (r∈a))=O› Fz))
def Hk(a l:List Int):Nat:=(l.takeWhile λr=>!GF a r).length
def Px{a l}{m:Nat}(h:m<Hk a l):m<l.length/\GF a (l.getD m M)=Lc:=by obtain⟨b,c⟩:=Aw _ _ _ h;refine⟨b, ?_⟩;rw[Lo,Ls b];simpa using c
def Z4g{a l:List Int}(h:Hk a l<l.length):GF a (l.getD (Hk a l) M)=O:=by
 have b:=AA (λr=>!GF a r) l h;have c:l.getD (Hk a l) M=l[(l.takeWhile λr=>!GF a r).length]:=by(rw[Lo,Ls h];rfl)
 rw[c];simpa using b
def Iu(a l:List Int):Int:=if Hk a l<l.length then Hk a l else -1
def RG(a l:List Int)(i:Nat):Tg:=⟨tm 19 [(0,Z3 l),(1,OS a),(4,int 0),(7,int l.length),(8,int i)],[],60⟩
section
variable (a l:List Int) (i:Nat) (hl:l.length<=1048576) (ha:a.length<=1048576) (hs:a.Pairwise (· < ·)) (hi:i<l.length)
include hl ha hs hi
theorem Z7K(e:GF a (l.getD i M)=Lc):CP (Zm f172 0) (RG a l i).st .nrm (RG a l (i+1)).st:=by unfold RG OS;exact sF [] [] (Fh 16 [.call O (Sx.bool (GF a (l.getD i M))) [],.br Lc] (Ftb 9 (Lb ((i:Int)<(l.length:Int))) (Fek 14 wdv l (↑i) i (Fa (@Z7B a (l.getD i M) aa aa) (Fa ‹GF a (l.getD i M)=Lc› (Fx 18 i Fz))))))
theorem ZcK(e:GF a (l.getD i M)=O):CP (Zm f172 0) (RG a l i).st .ret (Tg.st ⟨tm 19 [(4,int i)],[],60⟩):=by unfold RG OS;exact sF [] [] (Fh 16 [.call O (Sx.bool (GF a (l.getD i M))) [],.br O] (Ftb 9 (Lb ((i:Int)<(l.length:Int))) (Fek 14 wdv l (↑i) i (Fa (@Z7B a (l.getD i M) aa aa) (Fa ‹GF a (l.getD i M)=O› Fz)))))
end
def Zjv a l:CP (Zm f172 0) (RG a l l.length).st (.ext 0) (Tg.st ⟨tm 19 [(4,int 0)],[],60⟩):=by unfold RG OS;exact sF [] [] (Ffb 9 (Lb ((l.length:Int)<(l.length:Int))) Fz)
def ZcF(a l:List Int)(hl:l.length<=1048576)(b:a.length<=1048576)(hs:a.Pairwise (· < ·))(h:¬ Hk a l<l.length)  := Bs (S:=λj=>(RG a l j).st) l.length (by kernel_rfl) (λj c=>Z7K a l j hl b hs c (Px (by omega)).2) (Zjv a l)
def Zh9(a l:List Int)(hl:l.length<=1048576)(b:a.length<=1048576)(hs:a.Pairwise (· < ·))(h:Hk a l<l.length)  := G5 (S:=λj=>(RG a l j).st) (Hk a l) (by kernel_rfl) (λj c=>Z7K a l j hl b hs (by omega) (Px c).2) (ZcK a l (Hk a l) hl b hs h (Z4g h))
def Zbr(a l:List Int)(hl:l.length<=1048576)(ha:a.length<=1048576)(hs:a.Pairwise (· < ·)):GP 172 [Z3 l,.fn 126 [.rp [.sl 1 (a.map wdv)] 0]] O (int (Iu a l)) []:=by by_cases h:Hk a l<l.length;have b:Iu a l=Hk a l:=if_pos h;rw[b];exact gF [] func172 [] (Fl 7 wdv l (Fu (@Zh9 a l aa aa aa aa) Fz));have b:Iu a l=-1:=if_neg h;rw[b];exact gF [] func172 [] (Fl 7 wdv l (Fu (@ZcF a l aa aa aa aa) Fz))
def Zid(a l:List Int)(hl:l.length<=1048576)(ha:a.length<=1048576)(hs:a.Pairwise (· < ·)):GP 125 [Z3 l,.fn 126 [.rp [.sl 1 (a.map wdv)] 0]] O (bool (Lb (0<=Iu a l))) []:=by exact gF [] func125 [] (Fc 7 (@Zbr a l aa aa aa) Fz)
def ZiW(h:Heap) refs(hw:Zy h.W)(hg:¬ Bm h=⟨0,0,0⟩):GP 74 [h.av,Z3 refs] O (bool Lc) []:=by exact gF [] func74 [] (Fc 8 (@Z2i h aa) (Ftb 9 (!decide (Bm h=Cc.mk 0 0 0)) Fz))
def Ze1(h:Heap) refs(hw:Zy h.W)(hg:Bm h=⟨0,0,0⟩):RX prog 4 (Hf f74) (Tg.st ⟨tm 19 [(0,h.av),(1,Z3 refs)],[],1⟩) (Tg.st ⟨tm 19 [(1,Z3 refs),(5,.pt 24005 0 0)],[(24005,.box 25 [Z3 (Zq h).1])],20⟩):=by refine Ak [((8:Nat),[Hint.call O (Sx.bool (Lb (Bm h=Cc.mk (0:Int) (0:Int) (0:Int)))) []]),((9:Nat),[Hint.br Lc]),((12:Nat),[Hint.call O (AV.tu [Z3 (Zq h).1,int (Zq h).2]) []])] [] [] (φ:=GP 122 [h.av] O (Sx.bool (Lb (Bm h=Cc.mk (0:Int) (0:Int) (0:Int)))) []/\(!decide (Bm h=Cc.mk (0:Int) (0:Int) (0:Int)))=Lc/\Lc=Lc/\GP 107 [h.av] O (AV.tu [Z3 (Zq h).1,int (Zq h).2]) []) ?_ kr kr kr kr;exact⟨(@Z2i (h) aa),(by(simp only[bs];omega)),rfl,(@PX (h) aa)⟩
def ZbJ(h:Heap)(refs:List Int):((Lg refs.length).find? (EM refs (Zq h).1)).isNone = !decide (0<=Iu (Zq h).1 refs):=by
 have e:∀i,EM refs (Zq h).1 i=GF (Zq h).1 (refs.getD i M):=by(intro i;unfold EM GF;generalize refs.getD i M=r;by_cases f:r=0<;>by_cases g:r∈(Zq h).1<;>simp[f,g])
 by_cases a:Hk (Zq h).1 refs<refs.length;have c:Iu (Zq h).1 refs=Hk (Zq h).1 refs:=if_pos a;have d:(Lg refs.length).find? (EM refs (Zq h).1)=Le (Hk (Zq h).1 refs):=by(rw[Lm];refine⟨by rw[e];exact Z4g a,Li.2 a,λj b=>?_⟩;rw[e,(Px b).2];rfl)
 rw[c,d];simp;have c:Iu (Zq h).1 refs=-1:=if_neg a;have d:(Lg refs.length).find? (EM refs (Zq h).1)=Lf:=by(rw[Ll];intro j b;have b:=Li.1 b;rw[e,(Px (l:=refs) (m:=j) oq).2];simp)
 rw[c,d];rfl
end Go.Proofs.YtgedmeaemofdkaaGreat
namespace Go.Proofs.YtgedmeaemofdkaaGreat
open Go.Sx Go.RowKit
def Ze4(h:Heap)(refs:List Int)(hw:Zy h.W)(hl:refs.length<=1048576)(l:Bm h=⟨0,0,0⟩):GP 74 [h.av,Z3 refs] O (bool (!decide (0<=Iu (Zq h).1 refs))) []:=by
 intro f u vs w r d;rw[<-callsIn_wide (n:=10)];refine callsIn_of_wp func74 (c:=Hf f74) kr trivial ?_ rfl;have o:vs.size=2:=r;have S0:Sx.Sys Ga u f (tm 19 [(0,h.av),(1,Z3 refs)]) (BU []) 1 {tmps:=vs++Lw (Tryz.f74.ntmps-vs.size) undef,defers:=[]} f:=by(refine⟨_,u,Sx.Inv.empty w (Lv 1),⟨by rw[o];simp[o];kernel_rfl,λk y v s i=>?_,rfl⟩⟩;rw[show tm 19 [(0,h.av),(1,Z3 refs)]=[h.av,Z3 refs]++Lh 17 .any from by kernel_rfl,LR]at s;rw[LF]at i;split at s;rename_i hk;rw[if_pos (by rw[r];exact hk)]at i;exact d k y v s i;have:=LZ s;rw[(L0.1 this).2];exact .any _)
 generalize hR:(λe w'=>∃v,e=Ending.returned v/\RD f u O (Sx.bool (!decide (0<=Iu (Zq h).1 refs))) [] v w')=R;generalize hQ:bodyPost prog f74 R=Q;refine Ze1 h refs hw l 10 Q _ _ _ _ _ S0 ?_;rintro a1 w1 ⟨ρ1,a,j,T1⟩;obtain⟨v5,t5,r5⟩:=T1.at (t:=5) (x:=.pt 24005 0 0) rfl;obtain⟨β,m,n⟩:=j.blk 24005 _ rfl;have z:Zh (λ_=>Lf) w1 (λg=>a g\/β.g=Le g) (.rp [.sl 1 ((Zq h).1.map wdv)] 0) v5:=Ml m n r5 (λ_ h=>.inl h) (λ_ h=>.inr h);have er:rest prog 10 4 (Hf f74) Q a1 w1=(Code.region 4 (BJ f74 4) Lc).wpIn Fence.wide 10 prog (Exit.then (Code.ret.wpIn Fence.wide 10 prog Q) Q) a1 w1:=by kernel_rfl
 rw[er];refine wpIn_region ?_;rw[show Lg (BJ f74 4).size=[0,1,2,3,4]from by kernel_rfl];have T2:Ct [] (λ_=>Lf) w1 (λg=>a g\/β.g=Le g) (tm 19 [(1,Z3 refs),(5,.rp [.sl 1 ((Zq h).1.map wdv)] 0)]) a1:=by(have A1:Ct [] ρ1 w1 (λg=>a g\/β.g=Le g) _ a1:=T1.mono (Sx.Ext.refl _ _) (λ_ h=>.inl h) (λ_ _ h=>h) j.bnd;have A2:=(A1.reSet 5 .any (λv _=>.any v)).pure kr;exact A2.reSet 5 (.rp [.sl 1 ((Zq h).1.map wdv)] 0) (λv i=>by rw[t5]at i;cases i;exact z))
 have S2:Sx.Sys Ga (λg=>a g\/β.g=Le g) w1 (tm 19 [(1,Z3 refs),(5,.rp [.sl 1 ((Zq h).1.map wdv)] 0)]) (BU []) 20 a1 w1:=by(refine⟨_,_,Sx.Inv.empty ?_ dd,T2⟩;rintro g (l|l);exact j.imb g l;exact j.bnd _ _ g m l)
 generalize hb:Lb (0<=Iu (Zq h).1 refs)=b at hR;have hc:=Zid (Zq h).1 refs hl (by have:=RA h;omega) (Z5Y h);rw[hb]at hc;refine Tz (ro:=Lf) (hints:=[(17,[Hint.call O (Sx.bool b) []])]) (out:=⟨((((tm 19 [(1,Z3 refs),(5,.rp [.sl 1 ((Zq h).1.map wdv)] 0)]).set 15 (Z3 refs)).set 16 (.fn 126 [.rp [.sl 1 ((Zq h).1.map wdv)] 0])).set 17 (Sx.bool b)).set 18 (Sx.bool (!b)) |>.set 4 (Sx.bool (!b)),BU [],[GP 125 [Z3 refs,.fn 126 [.rp [.sl 1 ((Zq h).1.map wdv)] 0]] O (Sx.bool b) []],[]⟩) kr S2 hc (λp hp=>by simp at hp) ?_;rintro a3 w3 ⟨ρ3,a0,I3,T3⟩;refine wpIn_ret ?_;show Q .ret a3 w3;rw[<-hQ];refine bodyPost_ret (results_tmp rfl _ _ _) T3.defers ?_;rw[<-hR];have r4:a3.tmps.getD 4 undef=.bool (!b):=C0 (E4 T3 (.tmp 4));rw[r4];exact⟨_,rfl,R9 j.kept.no I3.kept (λ_ h=>(Sx.OwA.no h).elim),λ_=>Lf,λ_=>False,λ_ q=>q.elim,λ_ q=>q.elim,λ_ _ _ q=>(by cases q),λ_ _ _ _ _ q=>(by cases q),λ_ _ q=>(by cases q),λk B q=>by simp at q,.d (.sc _ rfl)⟩
def Zab(h:Heap)(refs:List Int)(b:Zy h.W)(hl:refs.length<=1048576):GP 74 [h.av,Z3 refs] O (bool (Bw h refs)) []:=by
 by_cases a:Bm h=⟨0,0,0⟩;have e:Bw h refs = !decide (0<=Iu (Zq h).1 refs):=by(unfold Bw;rw[ZbJ,a];simp)
 rw[e];exact Ze4 h refs b hl a;have e:Bw h refs=Lc:=by simp[Bw,a]
 rw[e];exact ZiW h refs b a
end Go.Proofs.YtgedmeaemofdkaaGreat
namespace Go.Proofs.YtgedmeaemofdkaaGreat
open Go.Sx
def Z5E{h:Heap}(a:∀i:Nat,i<h.P.length->(Zd h (i:Int)).2=0):∀(f i:Nat),i+f=h.P.length->(Cn h f i).2=0
 |0,_,_=>rfl
 |f+1,i,hf=>by
  have b:=Z5E a f (i+1) oq;unfold Cn;rw[a i oq,b];rfl
def ZdD{h:Heap}(a:Bm h=⟨0,0,0⟩):(Zq h).2=0:=by
 have e:Z8 h=O:=by(by_cases q:Z8 h=O;exact q;rw[Bm,if_neg q]at a;cases a)
 rw[Bm,if_pos e]at a;have c:∀i,i<h.P.length->(pageF h i).fault=0:=by
  intro i b;cases hb:Gv h with|some j =>rw[hb]at a;simp only at a;have:=List.find?_some hb;rw[a]at this;simp at this|none =>have:=Ll.1 hb i (Li.2 b);simpa using this
 have d:∀i:Nat,i<h.P.length->(Zd h (i:Int)).2=0:=by(intro i b;have q:=c i b;unfold pageF at q;split at q;simp at q;split at q;simp at q;rename_i c2;simpa using c2)
 unfold Zq;rw[CG,if_pos e];exact Z5E d h.P.length 0 oq
def SF(h:Heap)(l:List Z0):List (Nat×Z4):=[(8001,.box 28 [int h.C.pw,int h.C.pg,.ow 49027,.ow 49030,int h.S,int h.B]),(49030,.arr 86 4 (l.map Z0.dv)),(49027,.arr 35 1 (h.W.map wdv)),(8002,.box 127 zW)]
def Tb(h:Heap)(a:List Int)(i:Nat):Tg:=⟨tm 61 [(1,.pt 8001 0 0),(2,.pt 8002 0 0),(3,int 0),(4,Z3 a),(34,.ow 49030),(35,int h.P.length),(36,int i)],SF h (Zu (Zp (1-h.S)) h.P i),8⟩
section
variable (h:Heap) (a:List Int) (hs:h.S=0\/h.S=1) (hl:h.P.length<=1048576)
include hs hl
theorem ZdP(i:Nat)(q:i<h.P.length):CP (Zm f73 0) (Tb h a i).st .nrm (Tb h a (i+1)).st:=by have m:=Od (Zp (1-h.S)) h.P (Lv i) M;have hn:=Sd (Zp (1-h.S)) h.P i;by_cases g:(h.P.getD i M).K=1/\0<(h.P.getD i M).N;have j:=P7 (Zp (1-h.S)) h.P q M;rw[show Zp (1-h.S) (h.P.getD i M)=⟨(h.P.getD i M).K,1-h.S,(h.P.getD i M).U,(h.P.getD i M).N⟩ by rw[Zp,if_pos g],<-m]at j;rw[<-m]at g;have o {h_ c_ p_} (n:Fq h_ c_ p_):=Ftb 37 (Lb ((i:Int)<(h.P.length:Int))) (Fmq 40 Z0.dv (Zu (Zp (1-h.S)) h.P i) (↑i) n);rcases bb (((Zu (Zp (1-h.S)) h.P i).getD (i:Int).toNat M).K==1&&Lb (0<((Zu (Zp (1-h.S)) h.P i).getD (i:Int).toNat M).N))with hc0|hc0<;>have b:=hc0<;>simp only[bs]at b;obtain⟨c,d⟩:=b;let k:=Zu (Zp (1-h.S)) h.P i;let e:=k.getD (i:Int).toNat M;exact sF [] (fO 11) (o (Ft 48 hc0 (Fi 54 (1-h.S) (Fm0q Z0.dv k (↑i) (FS 10056 Z0.dv k ((i:Int).toNat) (Z0.mk e.K (1-h.S) e.U e.N) (e.dv) (Fx 57 i (Fr (86:Int) (Fa (by refine congrArg _ ?_;exact j:La Z0.dv (k.set (i:Int).toNat (Z0.mk e.K (1-h.S) e.U e.N))=La Z0.dv (Zu (Zp (1-h.S)) h.P (i+1))) Fz))))))));exact sF [] (fO 11) (o (Ff 48 hc0 (Fx 57 i (Fr (86:Int) (Fa (by refine congrArg _ ?_;grind[]:La Z0.dv (Zu (Zp (1-h.S)) h.P i)=La Z0.dv (Zu (Zp (1-h.S)) h.P (i+1))) Fz)))));have j:=Z3z (Zp (1-h.S)) h.P q M (by rw[Zp,if_neg g]);rw[<-m]at g;have p {h_ c_ p_} (n:Fq h_ c_ p_):=Ftb 37 (Lb ((i:Int)<(h.P.length:Int))) (Fmq 40 Z0.dv (Zu (Zp (1-h.S)) h.P i) (↑i) n);rcases bb (((Zu (Zp (1-h.S)) h.P i).getD (i:Int).toNat M).K==1&&Lb (0<((Zu (Zp (1-h.S)) h.P i).getD (i:Int).toNat M).N))with hc0|hc0<;>have b:=hc0<;>simp only[bs]at b;obtain⟨c,d⟩:=b;let l:=Zu (Zp (1-h.S)) h.P i;let f:=l.getD (i:Int).toNat M;exact sF [] (fO 11) (p (Ft 48 hc0 (Fi 54 (1-h.S) (Fm0q Z0.dv l (↑i) (FS 10056 Z0.dv l ((i:Int).toNat) (Z0.mk f.K (1-h.S) f.U f.N) (f.dv) (Fx 57 i (Fr (86:Int) (Fa (by refine congrArg _ ?_;grind[]:La Z0.dv (l.set (i:Int).toNat (Z0.mk f.K (1-h.S) f.U f.N))=La Z0.dv (Zu (Zp (1-h.S)) h.P (i+1))) Fz))))))));exact sF [] (fO 11) (p (Ff 48 hc0 (Fx 57 i (Fr (86:Int) (Fa (by refine congrArg _ ?_;exact j:La Z0.dv (Zu (Zp (1-h.S)) h.P i)=La Z0.dv (Zu (Zp (1-h.S)) h.P (i+1))) Fz)))))
omit hs hl in
theorem Z9Q:CP (Zm f73 0) (Tb h a h.P.length).st (.ext 0) (Tg.st ⟨tm 61 [(1,.pt 8001 0 0),(2,.pt 8002 0 0),(3,int 0),(4,Z3 a)],SF h (h.P.map (Zp (1-h.S))),8⟩):=by have hq:=Z0t (Zp (1-h.S)) h.P;have hn:=Sd (Zp (1-h.S)) h.P h.P.length;exact sF [] (fO 5) (Ffb 37 (Lb ((h.P.length:Int)<(h.P.length:Int))) (Fr (86:Int) (Fa (by refine congrArg _ ?_;assumption:La Z0.dv (Zu (Zp (1-h.S)) h.P h.P.length)=La Z0.dv (La (Zp (1-h.S)) h.P)) Fz)))
theorem Zcm:CP (Zi f73 0) (Tg.st ⟨tm 61 [(1,.pt 8001 0 0),(2,.pt 8002 0 0),(3,int 0),(4,Z3 a),(34,.ow 49030),(35,int h.P.length),(36,int 0)],SF h h.P,8⟩) .nrm (Tg.st ⟨tm 61 [(1,.pt 8001 0 0),(2,.pt 8002 0 0),(3,int 0),(4,Z3 a)],SF h (h.P.map (Zp (1-h.S))),8⟩):=by have:=Bs (S:=λk=>(Tb h a k).st) h.P.length kr (λk b=>ZdP h a hs hl k b) (Z9Q h a);simp only[Tb,Z6y]at this;exact this
end
def Zes(h:Heap)(hw:Zy h.W)(c:Z8 h=O)(a:Bm h=⟨0,0,0⟩):GP 73 [h.av] Lc (.tu [(Zo h).av,int 0]) []:=by have po:=B4 c;have ho:=RA h;have g:=ZdD a;have b:h.P≠[]:=A7 oq;exact gF [] func73 [] (Fc 9 (@Ey h) (Ffb 10 (!Z8 h) (Fc 13 (@Z2i h aa) (Ffb 14 (!decide (Bm h=Cc.mk 0 0 0)) (Fc 18 (@PX h aa) (Ffb 22 ((Zq h).2 != 0) (Fc 27 (@TI h.W oq) (Fc 30 (@Z29 h.P oq aa) (Fl 35 Z0.dv h.P (Fu (@Zcm h ((Zq h).1) oq oq) (Fnl (Fnl Fz))))))))))))
def Nk(w:Z6):List (Nat×Z4):=[(22014,Bg w.Q),(21014,ER w.T),(20014,Bg w.old),(19014,EP w.heap.P),(18014,Bg w.heap.W),(17014,w.ckB 18014 19014 20014 21014 22014)]
def DW(w:Z6)(roots out:List Int)(i:Nat):Tg:=⟨tm 40 [(4,.pt 8004 0 0),(5,.d (.sl 0 [])),(6,int 0),(7,.pt 17014 0 0),(8,.ow 24008),(15,Z3 roots),(16,int roots.length),(17,int i)],(24008,.arr 35 1 (out.map wdv))::(8004,.box 127 zW)::Nk w,5⟩
section
variable (w:Z6) (roots out:List Int) (i:Nat) (f:FwOk w (roots.getD i M)) (hl:roots.length<=1048576) (ho:out.length<=1048576) (hi:i<roots.length)
include f hl ho hi
theorem Z7Y(e:(w.fwd (roots.getD i M)).2.2=0):CP (Zm f77 0) (DW w roots out i).st .nrm (DW (w.fwd (roots.getD i M)).1 roots (out++[(w.fwd (roots.getD i M)).2.1]) (i+1)).st:=by let a:=w.fwd (roots.getD i M);exact sF [(72034,24008),(57024,19014),(58024,21014),(59024,22014)] [] (Fh 34 [.els (La wdv (out++[a.2.1]))] (Ftb 18 (Lb ((i:Int)<(roots.length:Int))) (Fek 19 wdv roots (↑i) i (Fbr 24 [17014,18014,19014,20014,21014,22014] (@Z9F w (roots.getD i M) aa aa) (Fs 33 (La wdv [a.2.1]) (Fa (by(simp[*];omega):(La wdv out).length+(La wdv [a.2.1]).length<=2^30) (Fa (ms:La wdv out++La wdv [a.2.1]=La wdv (out++[a.2.1])) (Fx 35 i Fz))))))))
theorem Zjt(e:¬ (w.fwd (roots.getD i M)).2.2=0):CP (Zm f77 0) (DW w roots out i).st .ret (Tg.st ⟨tm 40 [(4,.pt 8004 0 0),(5,.d (.sl 0 [])),(6,int (w.fwd (roots.getD i M)).2.2)],[(8004,.box 127 zW)],60⟩):=by exact sF [] [] (Ftb 18 (Lb ((i:Int)<(roots.length:Int))) (Fek 19 wdv roots (↑i) i (Fbq 24 [17014,18014,19014,20014,21014,22014] (@Zdc w (roots.getD i M) aa aa) (Ftb 28 ((w.fwd (roots.getD i M)).2.2 != 0) Fz))))
end
def Zia w roots out:CP (Zm f77 0) (DW w roots out roots.length).st (.ext 0) (Tg.st ⟨tm 40 [(4,.pt 8004 0 0),(7,.pt 17014 0 0),(8,.ow 24008)],(24008,.arr 35 1 (out.map wdv))::(8004,.box 127 zW)::Nk w,5⟩):=by exact sF [] [] (Ffb 18 (Lb ((roots.length:Int)<(roots.length:Int))) Fz)
def Z3o(w:Z6)(roots:List Int):Prop:=∀k,k<roots.length->(∀j,j<k->E0 w roots j=0)->FwOk (rootsN w roots k).1 (roots.getD k M)
section
variable (w:Z6) (roots:List Int) (hN:Z3o w roots) (hl:roots.length<=1048576)
include hN hl
theorem ZkJ(d:(Lg roots.length).find? (λk=>Lb (E0 w roots k≠0))=Lf):CP (Zi f77 0) (Tg.st ⟨tm 40 [(4,.pt 8004 0 0),(5,.d (.sl 0 [])),(6,int 0),(7,.pt 17014 0 0),(8,.ow 24008),(15,Z3 roots),(16,int roots.length),(17,int 0)],(24008,.arr 35 1 [])::(8004,.box 127 zW)::Nk w,5⟩) .nrm (Tg.st ⟨tm 40 [(4,.pt 8004 0 0),(7,.pt 17014 0 0),(8,.ow 24008)],(24008,.arr 35 1 ((rootsN w roots roots.length).2.map wdv))::(8004,.box 127 zW)::Nk (rootsN w roots roots.length).1,5⟩):=by
 have b:∀j,j<roots.length->E0 w roots j=0:=λj c=>by(have:=Ll.1 d j (Li.2 c);simpa using this)
 exact Bs (S:=λk=>(DW (rootsN w roots k).1 roots (rootsN w roots k).2 k).st) roots.length kr (λk a=>Z7Y _ roots _ k (hN k a λj c=>b j oq) hl (by rw[Ni];omega) a (b k a)) (Zia _ roots _)
theorem ZjN i(f:(Lg roots.length).find? (λk=>Lb (E0 w roots k≠0))=Le i):CP (Zi f77 0) (Tg.st ⟨tm 40 [(4,.pt 8004 0 0),(5,.d (.sl 0 [])),(6,int 0),(7,.pt 17014 0 0),(8,.ow 24008),(15,Z3 roots),(16,int roots.length),(17,int 0)],(24008,.arr 35 1 [])::(8004,.box 127 zW)::Nk w,5⟩) .ret (Tg.st ⟨tm 40 [(4,.pt 8004 0 0),(5,.d (.sl 0 [])),(6,int (E0 w roots i))],[(8004,.box 127 zW)],60⟩):=by
 obtain⟨d,a,e⟩:=Lm.1 f;have a:=Li.1 a;have b:∀j,j<i->E0 w roots j=0:=λj c=>by simpa using e j c
 exact G5 (S:=λk=>(DW (rootsN w roots k).1 roots (rootsN w roots k).2 k).st) i kr (λk g=>Z7Y _ roots _ k (hN k oq λj c=>b j oq) hl (by rw[Ni];omega) oq (b k g)) (Zjt _ roots _ i (hN i a b) hl (by rw[Ni];omega) a (by simpa[E0]using d))
theorem Zdb(ln:SG w):GP 77 [w.av,Z3 roots] O (.tu [(rootsF w roots).1.av,Z3 (rootsF w roots).2.1,int (rootsF w roots).2.2]) []:=by
 cases hb:(Lg roots.length).find? (λk=>Lb (E0 w roots k≠0))with
 |none =>
  have e7:rootsF w roots=((rootsN w roots roots.length).1,(rootsN w roots roots.length).2,0):=by unfold rootsF;rw[hb]
  rw[e7];let y0:=rootsN w roots roots.length;exact gF [] func77 [] (Fh 8 [.own] (Fbr 14 [] (@Z2T w aa) (Fl 16 wdv roots (Fu (@ZkJ w roots aa aa aa) (Fa (by exact Hr _:Ci (La wdv y0.1.heap.W)) (Fa (by exact IC _:Ci (La Z0.dv y0.1.heap.P)) (Fa (by exact Hr _:Ci (La wdv y0.1.old)) (Fa (by exact Ds _:Ci (La idv y0.1.T)) (Fa (by exact Hr _:Ci (La wdv y0.1.Q)) (Fa (by exact Hr _:Ci (La wdv y0.2)) Fz))))))))))
 |some i =>
  have e7:rootsF w roots=(GT,[],E0 w roots i):=by unfold rootsF;rw[hb]
  rw[e7];exact gF [] func77 [] (Fh 8 [.own] (Fbr 14 [] (@Z2T w aa) (Fl 16 wdv roots (Fu (@ZjN w roots aa aa i aa) (Fnl (Fnl (Fnl (Fnl (Fnl (Fnl Fz))))))))))
end
def ZdO w(a:SG w)(sc:0<=w.D)(hs:¬ w.D<w.Q.length):BP 131 [.pt 0 0 0] w.ckp (.tu [bool Lc,int 0]) w.ckp:=by obtain⟨h1,h2,h3,h4,h5⟩:=a;exact borF [0,1,2,3,4,5] [] func131 [] (FlG 28 (!decide (w.D<0)) wdv w.Q (Ftb 30 (Lb (w.D<0)||Lb ((w.Q.length:Int)<=w.D)) Fz))
def ZhS{ws:List Int}{a v:Int}(h:4096<=a/\a<4096+ws.length):(BL ws a v).1=ws.set (a-4096).toNat v:=by unfold BL ZT;rw[if_pos (by simp only[List.length_cons,List.length_nil];omega)];exact Z4r oq
def Sr(w:Z6):List (Nat×Z4):=[(0,w.ckB 1 8002 3 8004 8005),(1,Bg w.heap.W),(8002,EP w.heap.P),(3,Bg w.old),(8004,ER w.T),(8005,Bg w.Q)]
def Ot(w:Z6)(a n:Int)(l:List Int)(k:Nat):Tg:=⟨tm 116 [(0,.pt 0 0 0),(2,bool Lc),(3,int 0),(5,.os 1 (a-4096).toNat n.toNat),(9,ZE l),(72,ZE l),(73,int l.length),(74,int k)],Sr w,12⟩
section
variable (w:Z6) (a n:Int) (l:List Int) (k:Nat) (hk:k<l.length) (b:l.length<=255) (hx:0<=l.getD k M/\l.getD k M+1<n) (hn:n<=256) (ha:4096<=a/\a-4096+n<=w.heap.W.length) (f:FwOk w (Z1 w.heap.W (a+1+l.getD k M)).1)
include hk b hx hn ha f
theorem Zei(e:(w.fwd (Z1 w.heap.W (a+1+l.getD k M)).1).2.2=0)(c:(w.fwd (Z1 w.heap.W (a+1+l.getD k M)).1).1.heap.W.length=w.heap.W.length):CP (Zm f131 0) (Ot w a n l k).st .nrm (Ot (w.in1 (a+1+l.getD k M)) a n l (k+1)).st:=by
 have d:(Z1 w.heap.W (a+1+l.getD k M)).1=w.heap.W.getD ((a-4096).toNat+(1+l.getD k M).toNat) M:=by(unfold Z1;rw[if_pos oq,show(a-4096).toNat+(1+l.getD k M).toNat=(a+1+l.getD k M-4096).toNat by omega];rfl)
 have wl:=f.ck.ok.wl;have g:(w.in1 (a+1+l.getD k M))=⟨⟨(w.fwd (Z1 w.heap.W (a+1+l.getD k M)).1).1.heap.C,(w.fwd (Z1 w.heap.W (a+1+l.getD k M)).1).1.heap.W.set ((a-4096).toNat+(1+l.getD k M).toNat) (w.fwd (Z1 w.heap.W (a+1+l.getD k M)).1).2.1,(w.fwd (Z1 w.heap.W (a+1+l.getD k M)).1).1.heap.P,(w.fwd (Z1 w.heap.W (a+1+l.getD k M)).1).1.heap.S,(w.fwd (Z1 w.heap.W (a+1+l.getD k M)).1).1.heap.B⟩,(w.fwd (Z1 w.heap.W (a+1+l.getD k M)).1).1.old,(w.fwd (Z1 w.heap.W (a+1+l.getD k M)).1).1.T,(w.fwd (Z1 w.heap.W (a+1+l.getD k M)).1).1.Q,(w.fwd (Z1 w.heap.W (a+1+l.getD k M)).1).1.D,(w.fwd (Z1 w.heap.W (a+1+l.getD k M)).1).1.rep⟩:=by(unfold Z6.in1;rw[ZhS oq,show(a-4096).toNat+(1+l.getD k M).toNat=(a+1+l.getD k M-4096).toNat by omega])
 rw[g];rw[d]at e c f⊢;exact sF [(113085,8002),(114085,8004),(115085,8005)] [] (Fh 84 [.el (wdv (w.heap.W.getD ((a-4096).toNat+(1+l.getD k M).toNat) M))] (Fh 10095 [.els (La wdv ((w.fwd (w.heap.W.getD ((a-4096).toNat+(1+l.getD k M).toNat) M)).1.heap.W.set ((a-4096).toNat+(1+l.getD k M).toNat) (w.fwd (w.heap.W.getD ((a-4096).toNat+(1+l.getD k M).toNat) M)).2.1))] (Ftb 75 (Lb ((k:Int)<(l.length:Int))) (Fek 76 idv l (↑k) k (Fi 82 (1+l.getD k M) (Fo ((0:Int)<=1+l.getD k M/\(1+l.getD k M).toNat<n.toNat) (Fa (by exact B6 oq:(La wdv w.heap.W)[(a-4096).toNat+(1+l.getD k M).toNat]?=Le (wdv (w.heap.W.getD ((a-4096).toNat+(1+l.getD k M).toNat) M))) (Fbr 85 [0,1,8002,3,8004,8005] (@Z9F w (w.heap.W.getD ((a-4096).toNat+(1+l.getD k M).toNat) M) aa aa) (Fi 93 (1+l.getD k M) (Fo ((0:Int)<=1+l.getD k M/\(1+l.getD k M).toNat<n.toNat) (Fa (by(simp only[Lp];omega):(a-4096).toNat+(1+l.getD k M).toNat<(La wdv (w.fwd (w.heap.W.getD ((a-4096).toNat+(1+l.getD k M).toNat) M)).1.heap.W).length) (Fa (ms:(La wdv (w.fwd (w.heap.W.getD ((a-4096).toNat+(1+l.getD k M).toNat) M)).1.heap.W).set ((a-4096).toNat+(1+l.getD k M).toNat) [B1 (w.fwd (w.heap.W.getD ((a-4096).toNat+(1+l.getD k M).toNat) M)).2.1]=La wdv ((w.fwd (w.heap.W.getD ((a-4096).toNat+(1+l.getD k M).toNat) M)).1.heap.W.set ((a-4096).toNat+(1+l.getD k M).toNat) (w.fwd (w.heap.W.getD ((a-4096).toNat+(1+l.getD k M).toNat) M)).2.1)) (Fx 96 k Fz)))))))))))))
end
def Zj7 w a n l:CP (Zm f131 0) (Ot w a n l l.length).st (.ext 0) (Tg.st ⟨tm 116 [(0,.pt 0 0 0),(9,ZE l)],Sr w,12⟩):=by exact sF [] [] (Ffb 75 (Lb ((l.length:Int)<(l.length:Int))) Fz)
structure Z3q (w:Z6) (a:Int) (l:List Int):Prop where
 f:∀k,k<l.length->(∀j,j<k->CC w a l j=0)->FwOk (Bd w a l k) (Z1 (Bd w a l k).heap.W (a+1+l.getD k M)).1
 h:∀k,k<=l.length->(∀j,j<k->CC w a l j=0)->(Bd w a l k).heap.W.length=w.heap.W.length
 m:∀k,k<l.length->(∀j,j<k->CC w a l j=0)->((Bd w a l k).fwd (Z1 (Bd w a l k).heap.W (a+1+l.getD k M)).1).2.2=0->((Bd w a l k).fwd (Z1 (Bd w a l k).heap.W (a+1+l.getD k M)).1).1.heap.W.length=w.heap.W.length
section
variable (w:Z6) (a n:Int) (l:List Int) (hN:Z3q w a l) (b:l.length<=255) (hr:∀x∈l,0<=x/\x+1<n) (d:n<=256) (c:4096<=a/\a-4096+n<=w.heap.W.length)
include hN b hr d c
theorem Zd9(m:(Lg l.length).find? (λk=>Lb (CC w a l k≠0))=Lf):CP (Zi f131 0) (Tg.st ⟨tm 116 [(0,.pt 0 0 0),(2,bool Lc),(3,int 0),(5,.os 1 (a-4096).toNat n.toNat),(9,ZE l),(72,ZE l),(73,int l.length),(74,int 0)],Sr w,12⟩) .nrm (Tg.st ⟨tm 116 [(0,.pt 0 0 0),(9,ZE l)],Sr (Bd w a l l.length),12⟩):=by
 have g:∀j,j<l.length->CC w a l j=0:=λj i=>by(have:=Ll.1 m j (Li.2 i);simpa using this)
 have o:∀k,k<l.length->0<=l.getD k M/\l.getD k M+1<n:=λk e=>hr _ (Be.2 ⟨k,e,rfl⟩);exact Bs (S:=λk=>(Ot (Bd w a l k) a n l k).st) l.length kr (λk e=>by
  have f:∀j,j<k->CC w a l j=0:=λj i=>g j oq;have h:=hN.h k oq f;exact Zei _ a n l k e b (o k e) d (by rw[h];exact c) (hN.f k e f) (g k e) ((hN.m k e f (g k e)).trans h.symm)) (Zj7 _ a n l)
end
def ZdH w(k:Ip w)(hs:w.D<w.Q.length)(sc:0<=w.D)(hr:4096<=w.Q.getD w.D.toNat M/\w.Q.getD w.D.toNat M+Zk w.heap.W (w.Q.getD w.D.toNat M)<4096+w.heap.W.length)(hd:(Z7 (Z1 w.heap.W (w.Q.getD w.D.toNat M)).1).2=O)(hN:Z3q w (C2 w) (Bf w))(a:∀j,j<(Bf w).length->CC w (C2 w) (Bf w) j=0):BP 131 [.pt 0 0 0] w.ckp (.tu [bool O,int 0]) (He (Bd w (C2 w) (Bf w) (Bf w).length) (Bf w).length).ckq:=by
 have c:(Lg (Bf w).length).find? (λk=>Lb (CC w (C2 w) (Bf w) k≠0))=Lf:=Ll.2 λj d=>by simp[a j (Li.1 d)]
 have f:=k.mem;obtain⟨h1,h2,h3,h4,h5⟩:=k.ln;have ok:=k.ok;have k1:=N7 ok (C2 w) (Bf w) (Bf w).length a;have h:=k1.1.rs;have i:=k1.1.sc;have l:=k1.1.mu;have n:=(Z1c (Zv w (C2 w)));have m:∀x∈Bf w,0<=x/\x+1<Zk w.heap.W (C2 w)+1:=λx g=>by(have:=NG (Zv w (C2 w)) x g;unfold Zv at this;unfold Zk;omega)
 have lr:=Bo w.heap.W (w.Q.getD w.D.toNat M);have cf:=BG.1 ok.C;have ld:=G3 ok.W (w.Q.getD w.D.toNat M);have b:=GH w (w.Q.getD w.D.toNat M);have o:=Rw w (w.Q.getD w.D.toNat M);have e:=IP (Z1 w.heap.W (w.Q.getD w.D.toNat M)).1 ld.1;have el:(Z1 w.heap.W (w.Q.getD w.D.toNat M)).1=w.heap.W.getD ((w.Q.getD w.D.toNat M-4096).toNat+Ld 0) M:=by(unfold Z1;rw[if_pos oq];rfl)
 unfold Bf C2 Zv at *;rw[el]at hd ld b o e hN a c k1 h i l n⊢;try rw[el]at m
 rw[show He (Bd w (w.Q.getD w.D.toNat M) (Zz (Z7 (w.heap.W.getD ((w.Q.getD w.D.toNat M-(4096:Int)).toNat+Ld (0:Int)) M)).1) (Zz (Z7 (w.heap.W.getD ((w.Q.getD w.D.toNat M-(4096:Int)).toNat+Ld (0:Int)) M)).1).length) (↑(Zz (Z7 (w.heap.W.getD ((w.Q.getD w.D.toNat M-(4096:Int)).toNat+Ld (0:Int)) M)).1).length:Int)=Z6.mk (Bd w (w.Q.getD w.D.toNat M) (Zz (Z7 (w.heap.W.getD ((w.Q.getD w.D.toNat M-(4096:Int)).toNat+Ld (0:Int)) M)).1) (Zz (Z7 (w.heap.W.getD ((w.Q.getD w.D.toNat M-(4096:Int)).toNat+Ld (0:Int)) M)).1).length).heap (Bd w (w.Q.getD w.D.toNat M) (Zz (Z7 (w.heap.W.getD ((w.Q.getD w.D.toNat M-(4096:Int)).toNat+Ld (0:Int)) M)).1) (Zz (Z7 (w.heap.W.getD ((w.Q.getD w.D.toNat M-(4096:Int)).toNat+Ld (0:Int)) M)).1).length).old (Bd w (w.Q.getD w.D.toNat M) (Zz (Z7 (w.heap.W.getD ((w.Q.getD w.D.toNat M-(4096:Int)).toNat+Ld (0:Int)) M)).1) (Zz (Z7 (w.heap.W.getD ((w.Q.getD w.D.toNat M-(4096:Int)).toNat+Ld (0:Int)) M)).1).length).T (Bd w (w.Q.getD w.D.toNat M) (Zz (Z7 (w.heap.W.getD ((w.Q.getD w.D.toNat M-(4096:Int)).toNat+Ld (0:Int)) M)).1) (Zz (Z7 (w.heap.W.getD ((w.Q.getD w.D.toNat M-(4096:Int)).toNat+Ld (0:Int)) M)).1).length).Q ((Bd w (w.Q.getD w.D.toNat M) (Zz (Z7 (w.heap.W.getD ((w.Q.getD w.D.toNat M-(4096:Int)).toNat+Ld (0:Int)) M)).1) (Zz (Z7 (w.heap.W.getD ((w.Q.getD w.D.toNat M-(4096:Int)).toNat+Ld (0:Int)) M)).1).length).D+(1:Int)) (Rep.mk (Bd w (w.Q.getD w.D.toNat M) (Zz (Z7 (w.heap.W.getD ((w.Q.getD w.D.toNat M-(4096:Int)).toNat+Ld (0:Int)) M)).1) (Zz (Z7 (w.heap.W.getD ((w.Q.getD w.D.toNat M-(4096:Int)).toNat+Ld (0:Int)) M)).1).length).rep.copied (Bd w (w.Q.getD w.D.toNat M) (Zz (Z7 (w.heap.W.getD ((w.Q.getD w.D.toNat M-(4096:Int)).toNat+Ld (0:Int)) M)).1) (Zz (Z7 (w.heap.W.getD ((w.Q.getD w.D.toNat M-(4096:Int)).toNat+Ld (0:Int)) M)).1).length).rep.kept (Bd w (w.Q.getD w.D.toNat M) (Zz (Z7 (w.heap.W.getD ((w.Q.getD w.D.toNat M-(4096:Int)).toNat+Ld (0:Int)) M)).1) (Zz (Z7 (w.heap.W.getD ((w.Q.getD w.D.toNat M-(4096:Int)).toNat+Ld (0:Int)) M)).1).length).rep.filled (Bd w (w.Q.getD w.D.toNat M) (Zz (Z7 (w.heap.W.getD ((w.Q.getD w.D.toNat M-(4096:Int)).toNat+Ld (0:Int)) M)).1) (Zz (Z7 (w.heap.W.getD ((w.Q.getD w.D.toNat M-(4096:Int)).toNat+Ld (0:Int)) M)).1).length).rep.freed (Bd w (w.Q.getD w.D.toNat M) (Zz (Z7 (w.heap.W.getD ((w.Q.getD w.D.toNat M-(4096:Int)).toNat+Ld (0:Int)) M)).1) (Zz (Z7 (w.heap.W.getD ((w.Q.getD w.D.toNat M-(4096:Int)).toNat+Ld (0:Int)) M)).1).length).rep.cleared ((Bd w (w.Q.getD w.D.toNat M) (Zz (Z7 (w.heap.W.getD ((w.Q.getD w.D.toNat M-(4096:Int)).toNat+Ld (0:Int)) M)).1) (Zz (Z7 (w.heap.W.getD ((w.Q.getD w.D.toNat M-(4096:Int)).toNat+Ld (0:Int)) M)).1).length).rep.steps+((1:Int)+(↑(Zz (Z7 (w.heap.W.getD ((w.Q.getD w.D.toNat M-(4096:Int)).toNat+Ld (0:Int)) M)).1).length:Int))))from by(simp[He, *];omega)];exact borF [0,1,8002,3,8004,8005] [8002,8004,8005] func131 [] (Fh 52 [.el (wdv (w.heap.W.getD ((w.Q.getD w.D.toNat M-4096).toNat+Ld 0) M))] (FlG 28 (!decide (w.D<0)) wdv w.Q (Ffb 30 (Lb (w.D<0)||Lb ((w.Q.length:Int)<=w.D)) (Fmq 40 wdv w.Q w.D (Fbq 44 [0,1,8002,3,8004,8005] (@Hg w (w.Q.getD w.D.toNat M) (1) aa oq) (Fo ((0:Int)<=0/\Ld 0<Ld 1) (Fa (by exact B6 oq:(La wdv w.heap.W)[(w.Q.getD w.D.toNat M-4096).toNat+Ld 0]?=Le (wdv (w.heap.W.getD ((w.Q.getD w.D.toNat M-4096).toNat+Ld 0) M))) (Fc 53 (@Hc (w.heap.W.getD ((w.Q.getD w.D.toNat M-4096).toNat+Ld 0) M) oq oq) (Fc 60 (@EN ((Z7 (w.heap.W.getD ((w.Q.getD w.D.toNat M-4096).toNat+Ld 0) M)).1) aa) (Fbq 61 [0,1,8002,3,8004,8005] (@Hg w (w.Q.getD w.D.toNat M) (Z5 (Z7 (w.heap.W.getD ((w.Q.getD w.D.toNat M-4096).toNat+Ld 0) M)).1) aa oq) (Ffs 69 (!(Z7 (w.heap.W.getD ((w.Q.getD w.D.toNat M-4096).toNat+Ld 0) M)).2||Lc) (Fc 71 (@Z1v ((Z7 (w.heap.W.getD ((w.Q.getD w.D.toNat M-4096).toNat+Ld 0) M)).1) aa) (Fl 73 idv (Zz (Z7 (w.heap.W.getD ((w.Q.getD w.D.toNat M-(4096:Int)).toNat+Ld (0:Int)) M)).1) (Fu (@Zd9 w (w.Q.getD w.D.toNat M) (Z5 (Z7 (w.heap.W.getD ((w.Q.getD w.D.toNat M-4096).toNat+Ld 0) M)).1) (Zz (Z7 (w.heap.W.getD ((w.Q.getD w.D.toNat M-4096).toNat+Ld 0) M)).1) aa oq (by grind[He]) oq oq aa) (Fi 101 ((Bd w (w.Q.getD w.D.toNat M) (Zz (Z7 (w.heap.W.getD ((w.Q.getD w.D.toNat M-4096).toNat+Ld 0) M)).1) (Zz (Z7 (w.heap.W.getD ((w.Q.getD w.D.toNat M-4096).toNat+Ld 0) M)).1).length).D+1) (Fl 110 idv (Zz (Z7 (w.heap.W.getD ((w.Q.getD w.D.toNat M-(4096:Int)).toNat+Ld (0:Int)) M)).1) (Fi 111 (1+(↑(Zz (Z7 (w.heap.W.getD ((w.Q.getD w.D.toNat M-4096).toNat+Ld 0) M)).1).length:Int)) (Fi 112 ((Bd w (w.Q.getD w.D.toNat M) (Zz (Z7 (w.heap.W.getD ((w.Q.getD w.D.toNat M-4096).toNat+Ld 0) M)).1) (Zz (Z7 (w.heap.W.getD ((w.Q.getD w.D.toNat M-4096).toNat+Ld 0) M)).1).length).rep.steps+(1+(↑(Zz (Z7 (w.heap.W.getD ((w.Q.getD w.D.toNat M-4096).toNat+Ld 0) M)).1).length:Int))) Fz))))))))))))))))))
structure Ih (w:Z6):Prop where
 k:Ip w
 sc:0<=w.D
 hr:w.D<w.Q.length->4096<=w.Q.getD w.D.toNat M/\w.Q.getD w.D.toNat M+Zk w.heap.W (w.Q.getD w.D.toNat M)<4096+w.heap.W.length
 hd:w.D<w.Q.length->(Z7 (Z1 w.heap.W (w.Q.getD w.D.toNat M)).1).2=O
 hN:w.D<w.Q.length->Z3q w (C2 w) (Bf w)
def KI.sd{h T}:∀w n,(∃a,KI h T a w)->∃a,KI h T a (He w n):=
 λw n ⟨a,k⟩=>⟨a,k.c,k.sp,k.old,k.pl,k.wl,k.pg,k.tk,k.tk0,k.q,k.hd,k.dt,k.lg⟩
section
variable {h:Heap} {T:Nat->List Int} {w:Z6} (c:G4 h T w) (g:Gd h T)
include c g
theorem G4.dec{q:Int}(b:q∈w.Q):(Z7 (Z1 w.heap.W q).1).2=O:=by obtain⟨tq,k⟩:=c.k;rcases k.q q b with⟨i,nt,a,hk,d⟩|⟨i,f,a⟩;rcases k.hd i q a with e|e;rw[e];exact(g.on a).2.2.2.2.2.1;exact absurd e.2.2 d;exact(GW (k.tk i f).2.2.2.2.2.1 a).1
theorem G4.in1{q j:Int}(d:q∈w.Q)(a:0<=j)(b:j<Zk w.heap.W q)(e:(w.fwd (Z1 w.heap.W (q+1+j)).1).2.2=0):G4 h T (w.in1 (q+1+j)):=by obtain⟨tq,k⟩:=c.k;exact⟨k.in1 g c.ok c.inv d ⟨a,b⟩ e,(Z7c c.ok _ e).1,(Z7F c.ok c.inv d ⟨a,b⟩ e).1,c.so.fwd c.ok _ e⟩
theorem G4.inn{q:Int}(a:q∈w.Q){l:List Int}(hl:∀x∈l,0<=x/\x<Zk w.heap.W q)(k:Nat)(d:k<=l.length)(b:∀j,j<k->CC w q l j=0):G4 h T (Bd w q l k):=
 ⟨Ti (λw=>∃o,KI h T o w) (λw q j f n ⟨_,k⟩ a i m e=>k.in1 g f n a ⟨i,m⟩ e) c.ok c.inv c.k a hl k d b,(N7 c.ok q l k b).1,(TP c.ok c.inv a hl k d b).1,Ti (λw=>GY w.heap.P) (λw q j f n p a i m e=>p.fwd f _ e) c.ok c.inv c.so a hl k d b⟩
theorem G4.step(e:(ZX w).2.2=0):G4 h T (ZX w).1:=
 ⟨Oi (λw=>∃l,KI h T l w) (λw q j a f ⟨_,k⟩ i b d e=>k.in1 g a f i ⟨b,d⟩ e) KI.sd c.ok c.inv c.k e,(PV c.ok e).1,(Z3G c.ok c.inv e).1,Oi (λw=>GY w.heap.P) (λw q j a f p i b d e=>p.fwd a _ e) (λ_ _ p=>p) c.ok c.inv c.so e⟩
theorem G4.stp:Ih w:=by have sc:=c.ok.sc;have i:w.D<w.Q.length->C2 w∈w.Q:=λb=>Be.2 ⟨w.D.toNat,by omega,rfl⟩;refine⟨c.ck,sc.1,λb=>c.inv.r _ (List.mem_append_right _ (i b)),λb=>c.dec g (i b),λb=>?_⟩;obtain⟨tq,m⟩:=c.k;have n:=NG (Zv w (C2 w));have f:=λk d a=>c.inn g (i b) (l:=Bf w) n k d a;refine⟨λk d a=>(f k oq a).fw g (G3 (f k oq a).ok.W _),λk d a=>?_,λk d a e=>?_⟩;obtain⟨_,j⟩:=(f k d a).k;exact j.wl.trans m.wl.symm;obtain⟨_,j⟩:=((f k oq a).fwd g e).k;exact j.wl.trans m.wl.symm
theorem G4.roots{roots}(k:Nat)(a:∀j,j<k->E0 w roots j=0):G4 h T (rootsN w roots k).1:=by
 induction k with|zero=>exact c|succ k b=>exact(b λj hj=>a j oq).fwd g (a k oq)
theorem G4.rts{roots}(hr:Zy roots):Z3o w roots:=λk hk a=>(c.roots g k a).fw g (Z32 hr k)
theorem G4.rootsF{roots}(e:(rootsF w roots).2.2=0):G4 h T (rootsF w roots).1:=by
 cases hb:(Lg roots.length).find? (λk=>Lb (E0 w roots k≠0))with
 |none =>
  have b:∀j,j<roots.length->E0 w roots j=0:=λj d=>by(have:=Ll.1 hb j (Li.2 d);simpa using this)
  have a:Go.Proofs.YtgedmeaemofdkaaGreat.rootsF w roots=((rootsN w roots roots.length).1,(rootsN w roots roots.length).2,0):=by unfold Go.Proofs.YtgedmeaemofdkaaGreat.rootsF;rw[hb]
  rw[a];exact c.roots g _ b
 |some i =>
  have a:Go.Proofs.YtgedmeaemofdkaaGreat.rootsF w roots=(GT,[],E0 w roots i):=by unfold Go.Proofs.YtgedmeaemofdkaaGreat.rootsF;rw[hb]
  rw[a]at e;have:=of_decide_eq_true (Lm.1 hb).1;exact absurd e this
end
def S8(w:Z6):List (Nat×Z4):=[(22009,Bg w.Q),(21009,ER w.T),(20009,Bg w.old),(19009,EP w.heap.P),(18009,Bg w.heap.W)]
def PL(w:Z6):Tg:=⟨tm 26 [(2,.pt 8002 0 0),(3,int 0),(4,.pt 17009 0 0),(5,.fm 131 (.pt 17009 0 0))],(8002,.box 127 zW)::(17009,w.ckB 18009 19009 20009 21009 22009)::S8 w,4⟩
def Z8a{w}(m:(ZX w).2.1=O):w.D<w.Q.length/\(∀j,j<(Bf w).length->CC w (C2 w) (Bf w) j=0)/\(ZX w).1=He (Bd w (C2 w) (Bf w) (Bf w).length) (Bf w).length:=by
 unfold ZX at m⊢;split at m;rename_i a;rw[if_pos a];cases hb:(Lg (Bf w).length).find? (λk=>Lb (CC w (C2 w) (Bf w) k≠0))with|none =>refine⟨a,λj b=>?_,rfl⟩;have:=Ll.1 hb j (Li.2 b);simpa using this|some i=>rw[hb]at m;cases m
 cases m
def step_end{w}(e:(ZX w).2.2=0)(m:(ZX w).2.1=Lc):¬ w.D<w.Q.length/\(ZX w).1=w:=by
 unfold ZX at e m⊢;split at m;rename_i a;rw[if_pos a]at e;cases hb:(Lg (Bf w).length).find? (λk=>Lb (CC w (C2 w) (Bf w) k≠0))with|none=>rw[hb]at m;cases m|some i =>rw[hb]at e;exact absurd e (of_decide_eq_true (Lm.1 hb).1)
 rename_i a;rw[if_neg a];exact⟨a,rfl⟩
def Zjk w(k:Ih w)(m:(ZX w).2.1=O):CP (Zm f78 0) (PL w).st .nrm (PL (ZX w).1).st:=by obtain⟨a,h0,e⟩:=Z8a m;rw[e];obtain⟨kk,sc,hr,hd,hN⟩:=k;have hr:=hr a;have hd:=hd a;have hN:=hN a;exact sF [(33014,19009),(34014,21009),(35014,22009)] [] (Fbr 14 [17009,18009,19009,20009,21009,22009] (@ZdH w aa aa aa aa aa aa aa) Fz)
def ZkO w(k:Ih w)(hs:¬ w.D<w.Q.length):CP (Zm f78 0) (PL w).st .ret (Tg.st ⟨tm 26 [(2,.pt 8002 0 0),(3,int 0)],(8002,.box 127 (w.ckc 18009 19009 20009 21009 22009))::S8 w,60⟩):=by have ln:=k.k.ln;have sc:=k.sc;exact sF [] [] (Fbq 14 [17009,18009,19009,20009,21009,22009] (@ZdO w aa aa aa) Fz)
def Z37(w:Z6):Prop:=∀k,(∀j,j<k->Eg w j=Lc)->Ih (C7 w k)/\(ZX (C7 w k)).2.2=0
def Z6s{w}{j:Nat}(h:Eg w j=Lc):(ZX (C7 w j)).2.1=O:=by simp only[Eg,decide_eq_false_iff_not,not_or,L4]at h;simpa using h.2
def ZaX w(R:Z37 w) k(d:(Lg (Re w)).find? (Eg w)=Le k):CP (Zi f78 0) (Tg.st ⟨tm 26 [(2,.pt 8002 0 0),(3,int 0),(4,.pt 17009 0 0),(5,.fm 131 (.pt 17009 0 0))],(8002,.box 127 zW)::(17009,w.ckB 18009 19009 20009 21009 22009)::S8 w,4⟩) .ret (Tg.st ⟨tm 26 [(2,.pt 8002 0 0),(3,int 0)],(8002,.box 127 ((Bu w).1.ckc 18009 19009 20009 21009 22009))::S8 (Bu w).1,60⟩):=by
 obtain⟨c,h2,l⟩:=Lm.1 d;have a:∀j,j<k->Eg w j=Lc:=λj b=>by simpa using l j b
 obtain⟨f,e⟩:=R k a;have m:(ZX (C7 w k)).2.1=Lc:=by(simp only[Eg,decide_eq_true_eq,e]at c;simpa using c)
 obtain⟨n,g⟩:=step_end e m;have h:Bu w=(C7 w k,0):=by rw[Bu,d];simp only[if_pos e];rw[g]
 rw[h];exact G5 (S:=λk=>(PL (C7 w k)).st) k kr (λj b=>Zjk _ (R j λi hi=>a i oq).1 (Z6s (a j b))) (ZkO _ f n)
def Zk5(w:Z6)(hw:B8 w)(R:Z37 w):GP 78 [w.av] O (.tu [(Bu w).1.av,int 0]) []:=by
 obtain⟨k,hb⟩:=Sz hw;have ln:=(R 0 λj hj=>absurd hj (Nat.not_lt_zero j)).1.k.ln;have ln:SG w:=ln;exact gF [] func78 [] (Fbr 9 [] (@Z2T w aa) (Fu (@ZaX w aa k hb) (Fa (by exact Hr _:Ci (La wdv (Bu w).1.heap.W)) (Fa (by exact IC _:Ci (La Z0.dv (Bu w).1.heap.P)) (Fa (by exact Hr _:Ci (La wdv (Bu w).1.old)) (Fa (by exact Ds _:Ci (La idv (Bu w).1.T)) (Fa (by exact Hr _:Ci (La wdv (Bu w).1.Q)) Fz)))))))
end Go.Proofs.YtgedmeaemofdkaaGreat
