/-
 The statement CollectRoom: part 17.
 Conditions: none.
-/
import Derived.Defers
import Derived.WalkKit
import Derived.Test.YtgedmeaemofdkaaGreatU16
set_option maxRecDepth 100000
set_option maxHeartbeats 2000000
set_option linter.all false
open Inhabited renaming default->M
open Bool renaming true->O,false->Lb,not_eq_true'->Lx,and_eq_true->LH,or_false->LI
open List renaming map->La,replicate->Le,drop->Lg,take->Lh,range->Li,mem_range->Lj,getD_eq_getElem?_getD->Ll,find?_range_eq_some->Lm,find?_eq_none->Ln,length_map->Lq,length_take->Lr,map_append->Ls,getElem?_eq_getElem->Lu,length_replicate->Lv,getElem?_drop->Lz,getElem?_take->LA,length_drop->LB,map_drop->LC,map_take->LD,find?_cons->LQ,getElem?_append->LR,getElem?_append_left->LS,getElem?_append_right->LU,map_replicate->LV,mem_append->LW,mem_map->LY,mem_of_find?_eq_some->LZ,mem_of_getElem?->L0,mem_replicate->L1,nodup_nil->L2,take_length->L3
open Decidable renaming decide->Lc
open Option renaming some->Ld,none->Lf,getD_some->LF,isSome_iff_exists->L5,map_some->L6
open Classical renaming not_not->Lk
open Nat renaming le_refl->Lo,zero_le->L4
open Go.IntKind renaming i64->Lp
open Int renaming add_zero->Lt,tdiv_eq_ediv_of_nonneg->Ly,add_mul->LL,mul_comm->LM,mul_le_mul_of_nonneg_right->LN,one_mul->LO
open Array renaming replicate->Lw,getElem?_append->LG
open Go.Proofs.Tryz
namespace Go.Sx
def CSpec.seq{P c d s t u e}(h:CSpec P c s .nrm t)(k:CSpec P d t e u):CSpec P (.seq c d) s e u:=by intro f b g a w S;refine wp_seq (wp_mono (h f b g a w S) ?_);rintro e' j l ⟨rfl,i⟩;exact k f b g j l i
def ZcN{P:Program}{f:Nat}{fn c}{args l:List AV}{fr}{res x:AV}{ns:List Z4}{p qq:List Prop}{st}{kp:List Nat}(b:kp.Nodup)(s:P.funcs[f]?=Ld fn)(r:fn.body=Ld c)(h:CSpec P c ⟨args++Le (fn.ntmps-args.length) .any,λ_=>Lf,1⟩ .ret st)(hl:Rr P st.tmps st.H fn.results.toList=Ld l)(t:MA kp st.H fr (RX l)=Ld (x,p))(g:B3 p)(d:B3 (HR x res).2)(n:(HR x res).1=res)(k:Ab kp st.H fr=Ld (ns,qq))(i:B3 qq):GSpec P f args fr res ns:=by intro w Im vs j m a;refine calls_of_wp s r (wp_mono (h _ _ _ _ _ (Z0P j m a)) ?_);rintro e a' w' ⟨rfl,S⟩;obtain⟨v,o,q⟩:=Z2y b S hl t g d n k i;obtain⟨_,_,_,T⟩:=S;exact⟨T.defers,v,o,v,rfl,q⟩
def Sys.defer{Ow Im0 w0 w tmps H clk a}(S:Sys Ow Im0 w0 tmps H clk a w)(D:List Deferred):Sys ⟨Ow.p,D⟩ Im0 w0 tmps H clk {a with defers:=D} w:=by obtain⟨ρ,b,I,T⟩:=S;exact⟨ρ,b,⟨I.kept,I.inj,I.notIm,I.bnd,I.own,I.imb,I.im0,I.blk,I.fresh,I.one⟩,⟨T.size,T.tmp,rfl⟩⟩
def Tj{P}{i:Nat}{l}{ops:Array Oper}{Q o a w}(c:ops[i]?=Ld o)(b:o.guard=Lf)(h:o.wp P a w (wpOps P ops Q l) Q):wpOps P ops Q (i::l) a w:=by rw[wpOps];simp only[c];rw[if_pos (by simp[Region.wanted,b])];exact .inl h
def ZjI:Code->Code|.seq _ y=>y|c=>c
def Z9Z:Code->Code|.seq x _=>x|c=>c
def Z6p:Nat->Code->Code|0,c=>c|n+1,c=>Z6p n (ZjI c)
def tlF(fn:Func)(n:Nat):Code:=match fn.body with|some c=>Z6p n c|none=>.skip
def Rp(fn:Func)(n:Nat):Code:=Z9Z (tlF fn n)
end Go.Sx
namespace Go.Proofs.YtgedmeaemofdkaaGreat
open Go.Sx Go.RowKit
def Ev(s k:List Int):AV:=.d (.sl 1 [[.sl 1 (s.map wdv)],[.sl 1 (k.map wdv)]])
def ccA(s k:List Int)(n:Int)(i:Nat):Tg:=⟨tm 36 [(0,Ev s k),(2,.d (.sl 0 [])),(3,int n),(9,Ev s k),(10,int 2),(11,int i)],[],4⟩
section
variable (s k:List Int) (hs:s.length<=1048575) (hk:k.length<=1048575)
include hs hk
theorem ZeG:CP (Zo f75 0) (ccA s k 0 0).st .nrm (ccA s k s.length 1).st:=by exact sF [] (fO 2) (Fh 13 [.el [DV.sl 1 (La wdv s)]] (Fa (by simp[*]:0<=(↑(0:Nat):Int)/\[[DV.sl 1 (La wdv s)],[DV.sl 1 (La wdv k)]][(↑(0:Nat):Int).toNat]?=Ld [DV.sl 1 (La wdv s)]) (Fl 17 wdv s (Fi 18 (0+(s.length:Int)) (Fo (0+(s.length:Int)=(s.length:Int)) Fz)))))
theorem Zgy:CP (Zo f75 0) (ccA s k s.length 1).st .nrm (ccA s k (s.length+k.length) 2).st:=by exact sF [] [] (Fh 13 [.el [DV.sl 1 (La wdv k)]] (Fa (by simp[*]:0<=(↑(1:Nat):Int)/\[[DV.sl 1 (La wdv s)],[DV.sl 1 (La wdv k)]][(↑(1:Nat):Int).toNat]?=Ld [DV.sl 1 (La wdv k)]) (Fl 17 wdv k (Fi 18 ((s.length:Int)+(k.length:Int)) Fz))))
theorem ZgW:CP (Zo f75 0) (ccA s k (s.length+k.length) 2).st (.ext 0) (Tg.st ⟨tm 36 [(0,Ev s k),(2,.d (.sl 0 [])),(3,int (s.length+k.length))],[],4⟩):=by exact sF [] [] Fz
def ZjW  := Bw (S:=λi=>(ccA s k (if i=0 then 0 else if i=1 then s.length else s.length+k.length) i).st) 2 (by kernel_rfl) (λi hi=>by
  have:i=0\/i=1:=by omega
  rcases this with rfl|rfl
  .exact ZeG s k hs hk
  .exact Zgy s k hs hk) (ZgW s k hs hk)
theorem Zgz:CP (Rp f75 0) (Tg.st ⟨tm 36 [(0,Ev s k)],[],1⟩) .nrm (Tg.st ⟨tm 36 [(0,Ev s k),(2,.d (.sl 0 []))],[],2⟩):=by exact sF [] [] Fz
theorem ZgJ:CP (Rp f75 1) (Tg.st ⟨tm 36 [(0,Ev s k),(2,.d (.sl 0 []))],[],2⟩) .nrm (Tg.st ⟨tm 36 [(0,Ev s k),(2,.d (.sl 0 [])),(3,int 0)],[],3⟩):=by exact sF [] [] Fz
theorem Zhv:CP (Rp f75 2) (Tg.st ⟨tm 36 [(0,Ev s k),(2,.d (.sl 0 [])),(3,int 0)],[],3⟩) .nrm (Tg.st ⟨tm 36 [(0,Ev s k),(3,int (s.length+k.length))],[],5⟩):=by exact sF [] [] (Fh 10 [.int (↑(0+1+1):Int)] (Fr (↑[[DV.sl (1:Nat) (La wdv s)],[DV.sl (1:Nat) (La wdv k)]].length:Int) (Fu (@ZjW s k aa aa) Fz)))
def ccD(s k:List Int)(l:List Int)(i:Nat):Tg:=⟨tm 36 [(6,.ow 41024),(25,Ev s k),(26,int 2),(27,int i)],[(41024,.arr 35 1 (l.map wdv))],7⟩
theorem Zc6:CP (Zo f75 2) (ccD s k [] 0).st .nrm (ccD s k s 1).st:=by
 exact sF [(72033,41024)] [] (Fh 29 [.el [DV.sl 1 (La wdv s)]] (Fa (by simp[*]:0<=(↑(0:Nat):Int)/\[[DV.sl 1 (La wdv s)],[DV.sl 1 (La wdv k)]][(↑(0:Nat):Int).toNat]?=Ld [DV.sl 1 (La wdv s)]) (Fa (by(simp[*];omega):(La wdv []).length+(La wdv s).length<=2^30) (Fs 33 (La wdv s) Fz))))
theorem Zb1:CP (Zo f75 2) (ccD s k s 1).st .nrm (ccD s k (s++k) 2).st:=by
 exact sF [(72033,41024)] [] (Fh 29 [.el [DV.sl 1 (La wdv k)]] (Fh 33 [.els (La wdv (s++k))] (Fa (by simp[*]:0<=(↑(1:Nat):Int)/\[[DV.sl 1 (La wdv s)],[DV.sl 1 (La wdv k)]][(↑(1:Nat):Int).toNat]?=Ld [DV.sl 1 (La wdv k)]) (Fa (by(simp only[Lq];omega):(La wdv s).length+(La wdv k).length<=2^30) (Fa (ms:La wdv s++La wdv k=La wdv (s++k)) Fz)))))
theorem ZdL:CP (Zo f75 2) (ccD s k (s++k) 2).st (.ext 2) (Tg.st ⟨tm 36 [(6,.ow 41024)],[(41024,.arr 35 1 ((s++k).map wdv))],7⟩):=by exact sF [] [] Fz
def Zkt  := Bw (S:=λi=>(ccD s k (if i=0 then []else if i=1 then s else s++k) i).st) 2 (by kernel_rfl) (λi hi=>by
  have:i=0\/i=1:=by omega
  rcases this with rfl|rfl
  .exact Zc6 s k hs hk
  .exact Zb1 s k hs hk) (ZdL s k hs hk)
theorem ZhN:CP (tlF f75 4) (Tg.st ⟨tm 36 [(0,Ev s k),(6,.ow 41024)],[(41024,.arr 35 1 [])],6⟩) .ret (Tg.st ⟨tm 36 [(2,.ow 41024)],[(41024,.arr 35 1 ((s++k).map wdv))],8⟩):=by exact sF [] [] (Fh 26 [.int (↑(0+1+1):Int)] (Fr (↑[[DV.sl (1:Nat) (La wdv s)],[DV.sl (1:Nat) (La wdv k)]].length:Int) (Fu (@Zkt s k aa aa) Fz)))
end
def ZfS s k(n:Int)(h:0<=n/\n<=2097152):CP (Rp f75 3) (Tg.st ⟨tm 36 [(0,Ev s k),(3,int n)],[],5⟩) .nrm (Tg.st ⟨tm 36 [(0,Ev s k),(6,.ow 41024)],[(41024,.arr 35 1 [])],6⟩):=by
 rintro Ow m w0 a w ⟨ρ,Im,I,T⟩;rw[show Rp f75 3=.region 9 (BL f75 9) Lb from by kernel_rfl];refine wp_region ?_;rw[show Li (BL f75 9).size=[0,1,2]from by kernel_rfl];have j:=T.put 23 (E4 T (.tmp 3));refine Tj (o:=(BL f75 9).getD 0 M) kr kr (Sn (Z68 (x:=.tmp 3) kr) ?_);show wpOps prog (BL f75 9) _ [1,2] (a.put (Ld 23) (a.eval (.tmp 3))) w;refine Tj (o:=(BL f75 9).getD 1 M) kr kr (Z5S (c:=⟨.value (.func 128),#[.const (.slice Lf 0 0),.tmp 23],#[25,3]⟩) (f:=.func 128) (cs:=#[]) (d:=24) (ImC:=λ_=>False) kr rfl kr kr kr (Ze8 n h) I j rfl pq (λ_ q=>q.elim) (λq=>by cases q) (λi x v e b=>?_) λρ2 g v w' J T2 r=>?_);match i,e,b with|0,e,b =>cases e;simp at b;rw[<-b];exact .d (.sc _ rfl)|1,e,b =>cases e;simp only[List.map_toArray,List.map_cons,List.map_nil,Array.append_empty,List.getElem?_toArray,List.getElem?_cons_succ,List.getElem?_cons_zero,Option.some.injEq]at b;have r1:(a.put (Ld 23) (a.eval (.tmp 3))).eval (.tmp 23)=.int .i64 n:=C0 (E4 j (.tmp 23));rw[<-b,r1];exact .d (.sc _ rfl)
 have l:=T2.put 24 r;have p:=l.put 6 (E4 l (.tmp 24));refine Tj (o:=(BL f75 9).getD 2 M) kr kr (Sn (Z1Y (x:=.tmp 24) kr) ?_);refine⟨rfl,Z0v (s:=⟨_,_,6⟩) kr kr (Sys.clk ⟨ρ2,g,J,p⟩ (Nat.le_succ 5))⟩
def Z5f(s k:List Int)(hs:s.length<=1048575)(a:k.length<=1048575):GP 75 [Ev s k] O (Z3 (s++k)) []:=by have c:=(Zgz s k hs a).seq ((ZgJ s k hs a).seq ((Zhv s k hs a).seq ((ZfS s k (s.length+k.length) oq).seq (ZhN s k hs a))));rw[show Tg.st ⟨tm 36 [(0,Ev s k)],[],1⟩=⟨[Ev s k]++Le (Tryz.f75.ntmps - [Ev s k].length) .any,λ_=>Lf,1⟩from by kernel_rfl]at c;exact ZcN (kp:=[]) (l:=[.ow 41024]) (x:=Z3 (s++k)) (qq:=[]) (p:=[Ck ((s++k).map wdv)]) L2 func75 kr c kr kr (Hh _) trivial kr kr trivial
end Go.Proofs.YtgedmeaemofdkaaGreat
namespace Go.Proofs.YtgedmeaemofdkaaGreat
open Go.Sx Go.RowKit
def Z9K(a b c d e:Value) w :CallsD prog 72 #[a,b,c,d,e] .returning w λg i w'=>g=.returned (.tuple #[])/\i=.returning/\w'=w:=by refine callsD_of_wpS func72 rfl λf cs h=>?_;apply wpS_seq;apply wpS_region;simp[wpOpsS,go_sem,recoverD,h,Tryz.ntmps72,Exit.thenS];apply wpS_seq;apply wpS_region;simp[wpOpsS,go_sem,Tryz.ntmps72,Exit.thenS];refine wpS_cond (t:=Lb) (by simp[Act.eval,go_sem,Lw]) ?_;simp only[Bool.false_eq_true,if_false];refine wpS_of_wp (wp_skip ?_);cases f;simp_all[bodyPostS,results,Tryz.results72]
end Go.Proofs.YtgedmeaemofdkaaGreat
namespace Go.Proofs.YtgedmeaemofdkaaGreat
open Go.Sx Go.RowKit
structure Z7W (h:Heap) (s k:List Int) (w0 w1 w2 w3 w4 w5:Z6) (l o:List Int):Prop where
 b:GP 73 [h.av] Lb (.tu [w0.av,int 0]) []
 r:GP 74 [h.av,Z3 (s++k)] O (bool O) []
 t:GP 77 [w0.av,Z3 s] O (.tu [w1.av,Z3 l,int 0]) []
 a:GP 78 [w1.av] O (.tu [w2.av,int 0]) []
 w:BP 79 [.pt 0 0 0,Z3 k] [w2.evD] (.ow 1) [w3.evD,Bc o]
 f:BP 80 [.pt 0 0 0] [w3.evD] (.tu []) [w4.evD]
 g:BP 81 [.pt 0 0 0] [w4.evD] (.tu []) [w5.evD]
 sl:s.length<=1000
 kl:k.length<=1000
 tl:w5.T.length<=1000000
 sp:w5.heap.S=0\/w5.heap.S=1
def Zdt{P:Program}{o:Oper}{a:Act}{w:World}{f:Nat}{l:Array Operand}(b:o.op=.makeFunc (.func f) #[] l):(execOp a.eval o).run P w=.ok (.value (.func (.func f) #[] (l.map a.eval))) w:=by simp[execOp,b,Instr.makeFunc]
def ZaF{P}{o:Oper}{a:Act}{w}{c:Call}{x:Operand}{f:Nat}{l:Array Value}{next:Act->World->Prop}{Q}(d:o.op=.defer c)(b:c=⟨.value x,#[],#[]⟩)(e:a.eval x=.func (.func f) #[] l)(h:next ({a with defers:=⟨.fn (.func f) l,#[]⟩::a.defers}.put o.dst undef) w):o.wp P a w next Q:=by
 subst b;have:(execOp a.eval o).run P w=.ok (.defer ⟨.fn (.func f) l,#[]⟩) w:=by simp[execOp,d,resolve,e,Deferred.ofValue]
 unfold Oper.wp;rw[this];exact h
def clS(h:Heap)(s k:List Int):Tg:=⟨tm 79 [(1,Z3 s),(2,Z3 k),(3,.pt 8003 0 0),(6,.pt 8006 0 0),(7,.pt 8007 0 0),(8,.pt 8008 0 0),(9,.pt 8009 0 0),(10,.pt 8010 0 0)],[(8003,.box 28 h.cells),(8006,.box 28 [int 0,int 0,.d (.sl 0 []),.d (.sl 0 []),int 0,int 0]),(8007,.box 25 [.d (.sl 0 [])]),(8008,.box 25 [.d (.sl 0 [])]),(8009,.box 73 [int 0,int 0,int 0,int 0,int 0,int 0]),(8010,.box 32 [int 0])],2⟩
section
variable {h:Heap} {s k:List Int} {w0 w1 w2 w3 w4 a:Z6} {l o:List Int} (c:Z7W h s k w0 w1 w2 w3 w4 a l o)
include c
theorem Z5L:GP 73 [h.av] Lb (.tu [w0.av,int 0]) []:=c.b
theorem Z5R:GP 74 [h.av,Z3 (s++k)] O (bool O) []:=c.r
theorem Z5U:GP 77 [w0.av,Z3 s] O (.tu [w1.av,Z3 l,int 0]) []:=c.t
theorem Z48:GP 78 [w1.av] O (.tu [w2.av,int 0]) []:=c.a
theorem Z6e:BP 79 [.pt 0 0 0,Z3 k] [w2.evD] (.ow 1) [w3.evD,Bc o]:=c.w
theorem Z82:BP 80 [.pt 0 0 0] [w3.evD] (.tu []) [w4.evD]:=c.f
theorem Z5v:BP 81 [.pt 0 0 0] [w4.evD] (.tu []) [a.evD]:=c.g
omit c in
theorem ZfJ(h:Heap) s k:CP (Rp f35 0) (Tg.st ⟨tm 79 [(0,h.av),(1,Z3 s),(2,Z3 k)],[],1⟩) .nrm (clS h s k).st:=by exact sF [] [] Fz
theorem ZhJ:CP (tlF f35 2) (clS h s k).st .ret (Tg.st ⟨tm 79 [(6,.pt 8006 0 0),(7,.pt 8007 0 0),(8,.pt 8008 0 0),(9,.pt 8009 0 0),(10,.pt 8010 0 0)],[(8006,.box 28 (Eo a).cells),(8007,.box 25 [Z3 l]),(8008,.box 25 [.ow 24049]),(24049,.arr 35 1 (o.map wdv)),(8009,.box 73 a.rep.cells),(8010,.box 32 [int 0])],60⟩):=by
 have sl:=c.sl;have kl:=c.kl;have tl:=c.tl;have sp:=c.sp;by_cases e:0<a.T.length;have d:Eo a=⟨a.heap.C,a.heap.W,a.heap.P,1-a.heap.S,ZG a⟩:=by rw[Eo,if_pos e]
 rw[d];refine Zh [((16:Nat),[Hint.call Lb (AV.tu [w0.av,int (0:Int)]) []]),((26:Nat),[Hint.call O (Z3 (s++k)) []]),((27:Nat),[Hint.call O (Sx.bool O) []]),((31:Nat),[Hint.call O (AV.tu []) []]),((35:Nat),[Hint.call O (AV.tu [w1.av,Z3 l,int (0:Int)]) []]),((40:Nat),[Hint.call O (AV.tu []) []]),((43:Nat),[Hint.call O (AV.tu [w2.av,int (0:Int)]) []]),((47:Nat),[Hint.call O (AV.tu []) []]),((49:Nat),[Hint.bor [(16011:Nat)] (AV.ow (1:Nat)) [w3.evD,Bc o]]),((50:Nat),[Hint.bor [(16011:Nat)] (AV.tu []) [w4.evD]]),((51:Nat),[Hint.bor [(16011:Nat)] (AV.tu []) [a.evD]]),((55:Nat),[Hint.int ((1:Int)-a.heap.S)]),((62:Nat),[Hint.int (a.T.length:Int)]),((64:Nat),[Hint.br O]),((68:Nat),[Hint.int ((a.T.length:Int)-(1:Int))]),((69:Nat),[Hint.el (idv (a.T.getD ((a.T.length:Int)-(1:Int)).toNat M))])] [] [((73049:Nat),(24049:Nat))] [] (φ:=GP 73 [h.av] Lb (AV.tu [w0.av,int (0:Int)]) []/\(((0:Int)==(0:Int))=O->GP 75 [Ev s k] O (Z3 (s++k)) [])/\(((0:Int)==(0:Int))=O->GP 74 [h.av,Z3 (s++k)] O (Sx.bool O) [])/\GP 76 [int (0:Int)] O (AV.tu []) []/\GP 77 [w0.av,Z3 s] O (AV.tu [w1.av,Z3 l,int (0:Int)]) []/\GP 76 [int (0:Int)] O (AV.tu []) []/\GP 78 [w1.av] O (AV.tu [w2.av,int (0:Int)]) []/\GP 76 [int (0:Int)] O (AV.tu []) []/\BP 79 [AV.pt (0:Nat) (0:Nat) (0:Nat),Z3 k] [w2.evD] (AV.ow (1:Nat)) [w3.evD,Bc o]/\BP 80 [AV.pt (0:Nat) (0:Nat) (0:Nat)] [w3.evD] (AV.tu []) [w4.evD]/\BP 81 [AV.pt (0:Nat) (0:Nat) (0:Nat)] [w4.evD] (AV.tu []) [a.evD]/\Lp.wrap ((1:Int)-a.heap.S)=(1:Int)-a.heap.S/\(↑(La idv a.T).length:Int)=(a.T.length:Int)/\Lc ((0:Int)<(a.T.length:Int))=O/\O=O/\Lp.wrap ((a.T.length:Int)-(1:Int))=(a.T.length:Int)-(1:Int)/\(0:Int)<=(a.T.length:Int)-(1:Int)/\(La idv a.T)[((a.T.length:Int)-(1:Int)).toNat]?=Ld (idv (a.T.getD ((a.T.length:Int)-(1:Int)).toNat M))) ?_ kr kr kr;exact⟨(@Z5L (h) (s) (k) (w0) (w1) (w2) (w3) (w4) (a) (l) (o) aa),(λb=>by(try simp only[bs]at b);exact@Z5f (s) (k) (by(try simp only[bs]at b);omega) (by(try simp only[bs]at b);omega)),(λb=>by(try simp only[bs]at b);exact@Z5R (h) (s) (k) (w0) (w1) (w2) (w3) (w4) (a) (l) (o) aa),(@I9 ((0:Int)) (by rfl)),(@Z5U (h) (s) (k) (w0) (w1) (w2) (w3) (w4) (a) (l) (o) aa),(@I9 ((0:Int)) (by rfl)),(@Z48 (h) (s) (k) (w0) (w1) (w2) (w3) (w4) (a) (l) (o) aa),(@I9 ((0:Int)) (by rfl)),(@Z6e (h) (s) (k) (w0) (w1) (w2) (w3) (w4) (a) (l) (o) aa),(@Z82 (h) (s) (k) (w0) (w1) (w2) (w3) (w4) (a) (l) (o) aa),(@Z5v (h) (s) (k) (w0) (w1) (w2) (w3) (w4) (a) (l) (o) aa),(by exact Ze rfl oq oq),(by simp only[Lq]),(by(simp only[bs];omega)),rfl,(by exact Ze rfl oq oq),(by exact Zm oq oq oq)⟩;have d:Eo a=⟨a.heap.C,a.heap.W,a.heap.P,1-a.heap.S,-1⟩:=by rw[Eo,if_neg e]
 rw[d];exact sF [(73049,24049)] [] (Fc 16 (@Z5L h s k w0 w1 w2 w3 w4 a l o aa) (FcG 26 ((0:Int)==0) (λb=>by(try simp only[bs]at b);exact@Z5f s k oq oq) (FcG 27 ((0:Int)==0) (λb=>by(try simp only[bs]at b);exact@Z5R h s k w0 w1 w2 w3 w4 a l o aa) (Fc 31 (@I9 (0) (by rfl)) (Fc 35 (@Z5U h s k w0 w1 w2 w3 w4 a l o aa) (Fc 40 (@I9 (0) (by rfl)) (Fc 43 (@Z48 h s k w0 w1 w2 w3 w4 a l o aa) (Fc 47 (@I9 (0) (by rfl)) (Fbr 49 [16011] (@Z6e h s k w0 w1 w2 w3 w4 a l o aa) (Fbr 50 [16011] (@Z82 h s k w0 w1 w2 w3 w4 a l o aa) (Fbr 51 [16011] (@Z5v h s k w0 w1 w2 w3 w4 a l o aa) (Fi 55 (1-a.heap.S) (Fl 62 idv a.T (Ffb 64 (Lc (0<(a.T.length:Int))) Fz))))))))))))))
def clT(a:Z6)(l o:List Int):Tg:=⟨tm 79 [(6,.pt 8006 0 0),(7,.pt 8007 0 0),(8,.pt 8008 0 0),(9,.pt 8009 0 0),(10,.pt 8010 0 0)],[(8006,.box 28 (Eo a).cells),(8007,.box 25 [Z3 l]),(8008,.box 25 [Z3 o]),(8009,.box 73 a.rep.cells),(8010,.box 32 [int 0])],60⟩
theorem ZdC:CP (tlF f35 2) (clS h s k).st .ret (clT a l o).st:=
 CSpec.frz 24049 (ZhJ c) kr
theorem Zc5:GP 35 [h.av,Z3 s,Z3 k] Lb (.tu [(Eo a).av,Z3 l,Z3 o,.ag a.rep.cells,int 0]) []:=by
 intro w y vs q r g;refine calls_of_wp_defers func35 (c:=.seq (Rp f35 0) (.seq (Rp f35 1) (tlF f35 2))) kr ?_;have S0:=Z0P (n:=79) q r g;rw[show [h.av,Z3 s,Z3 k]++Le (79 - [h.av,Z3 s,Z3 k].length) .any=tm 79 [(0,h.av),(1,Z3 s),(2,Z3 k)]from by kernel_rfl]at S0;refine wp_seq (wp_mono (ZfJ h s k _ _ _ _ _ S0) ?_);rintro e a1 w1 ⟨rfl,S1⟩;refine wp_seq ?_;rw[show Rp f35 1=.region 1 (BL f35 1) Lb from by kernel_rfl];refine wp_region ?_;rw[show Li (BL f35 1).size=[0,1]from by kernel_rfl];refine Tj (o:=(BL f35 1).getD 0 M) kr kr (Sn (Zdt (f:=72) (l:=#[.tmp 6,.tmp 7,.tmp 8,.tmp 9,.tmp 10]) kr) ?_);rw[show Array.map a1.eval #[.tmp 6,.tmp 7,.tmp 8,.tmp 9,.tmp 10]=#[a1.eval (.tmp 6),a1.eval (.tmp 7),a1.eval (.tmp 8),a1.eval (.tmp 9),a1.eval (.tmp 10)]from by simp];show wpOps prog (BL f35 1) _ [1] (a1.put (Ld 13) (.func (.func 72) #[] #[a1.eval (.tmp 6),a1.eval (.tmp 7),a1.eval (.tmp 8),a1.eval (.tmp 9),a1.eval (.tmp 10)])) w1;generalize a1.eval (.tmp 6)=v6,a1.eval (.tmp 7)=v7,a1.eval (.tmp 8)=v8,a1.eval (.tmp 9)=v9,a1.eval (.tmp 10)=v10;have j:Sx.Sys G7 y w ((clS h s k).st.tmps.set 13 .any) (clS h s k).st.H 2 (a1.put (Ld 13) (.func (.func 72) #[] #[v6,v7,v8,v9,v10])) w1:=by(obtain⟨ρ,b,I,T⟩:=S1;exact⟨ρ,b,I,T.put 13 (.any _)⟩)
 have d:(a1.put (Ld 13) (.func (.func 72) #[] #[v6,v7,v8,v9,v10])).eval (.tmp 13)=.func (.func 72) #[] #[v6,v7,v8,v9,v10]:=by
  obtain⟨ρ,b,I,T⟩:=S1;have:=T.size;have z:13<a1.tmps.size:=by rw[this,show(clS h s k).st.tmps.length=79 from by kernel_rfl];decide
  simp[Act.put,Act.eval,z]
 generalize a1.put (Ld 13) (.func (.func 72) #[] #[v6,v7,v8,v9,v10])=a2 at j d⊢;refine Tj (o:=(BL f35 1).getD 1 M) kr kr (ZaF (c:=⟨.value (.tmp 13),#[],#[]⟩) (x:=.tmp 13) kr rfl d ?_);have S3:=j.defer [⟨.fn (.func 72) #[v6,v7,v8,v9,v10],#[]⟩];have hd:a2.defers=[]:=by(obtain⟨_,_,_,T⟩:=j;exact T.defers)
 rw[hd];show Code.wp prog (tlF f35 2) _ {tmps:=a2.tmps,defers:=[⟨.fn (.func 72) #[v6,v7,v8,v9,v10],#[]⟩]} w1;have S6:=Z0v (s:=⟨(clS h s k).st.tmps.set 13 .any,(clS h s k).st.H,2⟩) (t:=clS h s k) kr kr S3;refine wp_mono (ZdC c _ _ _ _ _ S6) ?_;rintro e m i ⟨rfl,S4⟩;obtain⟨ρ,b,I,T⟩:=S4;show Leaves _ _ m.tmps _ m.defers .returning i;rw[T.defers];refine leaves_cons (f:=72) (args:=#[v6,v7,v8,v9,v10]) pq (RE kr _ _) ?_;refine(Z9K v6 v7 v8 v9 v10 i).mono ?_;rintro e u' u ⟨rfl,rfl,rfl⟩;have S5:Sx.Sys G7 y w (clT a l o).st.tmps (clT a l o).st.H 60 {m with defers:=[]} u:=⟨ρ,b,⟨I.kept,I.inj,I.notIm,I.bnd,I.own,I.imb,I.im0,I.blk,I.fresh,I.one⟩,⟨T.size,T.tmp,rfl⟩⟩;obtain⟨v,r1,r2⟩:=Z2y (P:=prog) (fn:=f35) (fr:=Lb) (ns:=[]) (l:=[(Eo a).av,Z3 l,Z3 o,.ag a.rep.cells,int 0]) (res:=.tu [(Eo a).av,Z3 l,Z3 o,.ag a.rep.cells,int 0]) (x:=.tu [(Eo a).av,Z3 l,Z3 o,.ag a.rep.cells,int 0]) (p:=[]) (qq:=[]) (st:=(clT a l o).st) (L2 (α:=Nat)) S5 kr kr trivial trivial kr kr trivial;exact⟨v,r1,v,rfl,r2⟩
end
end Go.Proofs.YtgedmeaemofdkaaGreat
namespace Go.Proofs.YtgedmeaemofdkaaGreat
open Go.Sx
def Zjc(ws:List Int)(a n:Int)(hw:ws.length<=1048576)(h0:4096<=a/\1<=n/\n<=1000/\a-4096+n<=ws.length):GP 117 [Z3 ws,u64 a,int n] O (.tu [.ow 0,int 0]) [.arr 35 1 (((ws.drop (a-4096).toNat).take n.toNat).map wdv)]:=by
 have c:(Zw ws a n).1=a-4096:=by rw[Zw,if_pos oq]
 have b:(Zw ws a n).2=O:=by rw[Zw,if_pos oq];simp;omega
 have d:(ws.drop (a-4096).toNat).take n.toNat≠[]:=Ae (by rw[Lr,LB];omega);exact gF [41027] func117 [Lb,O] (Fh 26 [.els (La wdv (Lh (((Zw ws a n).1+n).toNat-(Zw ws a n).1.toNat) (Lg (Zw ws a n).1.toNat ws)))] (Ffb 11 (Lc (n<0)) (Fc 16 (@TW ws a n aa oq) (Ffb 20 (!(Zw ws a n).2) (Fi 25 ((Zw ws a n).1+n) (Fa (by(simp only[Lq];omega):0<=(Zw ws a n).1/\(Zw ws a n).1<=(Zw ws a n).1+n/\(Zw ws a n).1+n<=(↑(La wdv ws).length:Int)) (Fa (by simp[b,LD,LC,List.map_set,Ls,wdv,idv]:Lh (((Zw ws a n).1+n).toNat-(Zw ws a n).1.toNat) (Lg (Zw ws a n).1.toNat (La wdv ws))=La wdv (Lh (((Zw ws a n).1+n).toNat-(Zw ws a n).1.toNat) (Lg (Zw ws a n).1.toNat ws))) (Fc 27 (@Z9t (Lh (((Zw ws a n).1+n).toNat-(Zw ws a n).1.toNat) (Lg (Zw ws a n).1.toNat ws)) (by(simp[b, *];omega)) (by(simp[b, *];omega))) (Fa (by exact Hh _:Ck (La wdv (Lh (((Zw ws a n).1+n).toNat-(Zw ws a n).1.toNat) (Lg (Zw ws a n).1.toNat ws)))) (Fr (35:Int) (Fa (by refine congrArg _ ?_;(simp[b, *];omega):La wdv (Lh (((Zw ws a n).1+n).toNat-(Zw ws a n).1.toNat) (Lg (Zw ws a n).1.toNat ws))=La wdv (Lh n.toNat (Lg (a-4096).toNat ws))) Fz)))))))))))
def Gq(l:List Int):Nat:=(l.takeWhile λx=>x==0).length
def OX{l}{m:Nat}(h:m<Gq l):m<l.length/\l.getD m M=0:=by obtain⟨a,b⟩:=Af _ _ _ h;refine⟨a, ?_⟩;rw[Ll,Lu a];simpa using b
def Z7L{l:List Int}(h:Gq l<l.length):¬ l.getD (Gq l) M=0:=by
 have a:=AA (λx:Int=>x==0) l h;have b:l.getD (Gq l) M=l[(l.takeWhile λx=>x==0).length]:=by(rw[Ll,Lu h];rfl)
 rw[b];simpa using a
def C5(l:List Int):Int:=if Gq l<l.length then Gq l else -1
def Z5m x:GP 248 [u64 x] O (bool (x != 0)) []:=by exact gF [] func248 [] Fz
def Dg(l:List Int)(i:Nat):Tg:=⟨tm 19 [(0,Z3 l),(1,.fn 248 []),(4,int 0),(7,int l.length),(8,int i)],[],60⟩
def Z5e(l:List Int)(i:Nat)(hl:l.length<=1048576)(hi:i<l.length)(e:l.getD i M=0):CP (Zo f172 0) (Dg l i).st .nrm (Dg l (i+1)).st:=by exact sF [] [] (Fh 16 [.call O (Sx.bool (l.getD i M != 0)) [],.br Lb] (Ftb 9 (Lc ((i:Int)<(l.length:Int))) (Fek 14 wdv l (↑i) i (Fa (@Z5m (l.getD i M)) (Fb ((l.getD i M != 0)=Lb) (Fx 18 i Fz))))))
def ZdW(l:List Int)(i:Nat)(hl:l.length<=1048576)(hi:i<l.length)(e:¬ l.getD i M=0):CP (Zo f172 0) (Dg l i).st .ret (Tg.st ⟨tm 19 [(4,int i)],[],60⟩):=by exact sF [] [] (Fh 16 [.call O (Sx.bool (l.getD i M != 0)) [],.br O] (Ftb 9 (Lc ((i:Int)<(l.length:Int))) (Fek 14 wdv l (↑i) i (Fa (@Z5m (l.getD i M)) (Fb ((l.getD i M != 0)=O) Fz)))))
def Zkw l:CP (Zo f172 0) (Dg l l.length).st (.ext 0) (Tg.st ⟨tm 19 [(4,int 0)],[],60⟩):=by exact sF [] [] (Ffb 9 (Lc ((l.length:Int)<(l.length:Int))) Fz)
def Zk1(l:List Int)(hl:l.length<=1048576)(h:¬ Gq l<l.length)  := Bw (S:=λj=>(Dg l j).st) l.length (by kernel_rfl) (λj a=>Z5e l j hl a (OX (by omega)).2) (Zkw l)
def Zk0(l:List Int)(hl:l.length<=1048576)(h:Gq l<l.length)  := G5 (S:=λj=>(Dg l j).st) (Gq l) (by kernel_rfl) (λj a=>Z5e l j hl (by omega) (OX a).2) (ZdW l (Gq l) hl h (Z7L h))
def Za6(l:List Int)(hl:l.length<=1048576):GP 172 [Z3 l,.fn 248 []] O (int (C5 l)) []:=by by_cases h:Gq l<l.length;have a:C5 l=Gq l:=if_pos h;rw[a];exact gF [] func172 [] (Fl 7 wdv l (Fu (@Zk0 l aa aa) Fz));have a:C5 l=-1:=if_neg h;rw[a];exact gF [] func172 [] (Fl 7 wdv l (Fu (@Zk1 l aa aa) Fz))
def Ge(c:List Int)(x:Int):Nat:=(min (max x 0) (c.length:Int)).toNat
def R8(c:List Int)(x k:Int):List Int:=c.take (Ge c x)++Le (Ge c (x+k)-Ge c x) 0++c.drop (Ge c x+(Ge c (x+k)-Ge c x))
def ZJ(h:Heap)(F:Int)(l c:List Int):Nat->List Int|0=>c|n+1=>R8 (ZJ h F l c n) (l.getD n M-F) (GB h (l.getD n M))
def OK c(x:Int):Ge c x<=c.length:=by unfold Ge;omega
def Z4v c(x:Int){k:Int}(hk:0<=k):Ge c x<=Ge c (x+k):=by unfold Ge;omega
def Z6l(h:Heap)(a:Int):0<=GB h a/\GB h a<=256:=by have:=Ic (Z9 h a).1;unfold GB;split<;>omega
def Ziw c x{k:Int}(a:0<=k):(R8 c x k).length=c.length:=by have h1:=OK c x;have h2:=OK c (x+k);have h3:=Z4v c x a;simp[R8];omega
def Tu(h:Heap) F l c:∀n,(ZJ h F l c n).length=c.length|0=>rfl|n+1=>by rw[ZJ,Ziw _ _ (Z6l h _).1,Tu h F l c n]
def adL(h:Heap)(F:Int)(l c:List Int)(n:Nat):Tg:=⟨tm 90 [(2,.pt 8002 0 0),(4,u64 0),(5,bool Lb),(6,u64 F),(8,.ow 25033),(44,Z3 l),(45,int l.length),(46,int n)],[(25033,.arr 35 1 ((ZJ h F l c n).map wdv)),(8002,.box 28 h.cells)],60⟩
def Zhk(h:Heap)(F:Int)(l c:List Int)(n:Nat)(hw:Zx h.W)(hF:0<=F/\F<=8192)(hl:l.length<=1048576)(hc:c.length<=64)(g:∀x∈l,0<=x/\x<=8192)(f:n<l.length):CP (Zo f229 0) (adL h F l c n).st .nrm (adL h F l c (n+1)).st:=by
 have hx:=g (l.getD n M) (Bs.2 ⟨n,f,rfl⟩);have hm:=IC hw (l.getD n M);have e:=Tu h F l c n;have hs:=Ic (Z9 h (l.getD n M)).1;by_cases d:(Z9 h (l.getD n M)).1.K=0;have b:GB h (l.getD n M)=1:=if_pos d;have a:ZJ h F l c (n+1)=R8 (ZJ h F l c n) (l.getD n M-F) 1:=by rw[ZJ,b]
 exact sF [] (fO 8) (Fh 20000 [.els (La wdv (Lh (min (max (l.getD n M-F) 0) (↑(ZJ h F l c n).length:Int)).toNat (ZJ h F l c n)++Le ((min (max (l.getD n M-F+1) 0) (↑(ZJ h F l c n).length:Int)).toNat-(min (max (l.getD n M-F) 0) (↑(ZJ h F l c n).length:Int)).toNat) 0++Lg ((min (max (l.getD n M-F) 0) (↑(ZJ h F l c n).length:Int)).toNat+(Le ((min (max (l.getD n M-F+1) 0) (↑(ZJ h F l c n).length:Int)).toNat-(min (max (l.getD n M-F) 0) (↑(ZJ h F l c n).length:Int)).toNat) (0:Int)).length) (ZJ h F l c n)))] (Ftb 47 (Lc ((n:Int)<(l.length:Int))) (Fek 48 wdv l (↑n) n (Fc 53 (@Nk h (l.getD n M) aa oq) (Ffb 58 ((Z9 h (l.getD n M)).1.K != 0) (Fi 62 (l.getD n M) (Fi 64 F (Fi 65 (l.getD n M-F) (Fgo 68 (if 0 > l.getD n M-F then 0 else l.getD n M-F) (max (l.getD n M-F) 0) (Fl 70 wdv (ZJ h F l c n) (Fgo 71 (if(↑(ZJ h F l c n).length:Int)<max (l.getD n M-F) 0 then(↑(ZJ h F l c n).length:Int)else max (l.getD n M-F) 0) (min (max (l.getD n M-F) 0) (↑(ZJ h F l c n).length:Int)) (Fi 74 (l.getD n M-F+1) (Fgo 75 (if 0 > l.getD n M-F+1 then 0 else l.getD n M-F+1) (max (l.getD n M-F+1) 0) (Fl 77 wdv (ZJ h F l c n) (Fgo 78 (if(↑(ZJ h F l c n).length:Int)<max (l.getD n M-F+1) 0 then(↑(ZJ h F l c n).length:Int)else max (l.getD n M-F+1) 0) (min (max (l.getD n M-F+1) 0) (↑(ZJ h F l c n).length:Int)) (Fa (by(simp only[Lq];omega):0<=min (max (l.getD n M-F) 0) (↑(ZJ h F l c n).length:Int)/\min (max (l.getD n M-F) 0) (↑(ZJ h F l c n).length:Int)<=min (max (l.getD n M-F+1) 0) (↑(ZJ h F l c n).length:Int)/\min (max (l.getD n M-F+1) 0) (↑(ZJ h F l c n).length:Int)<=(↑(La wdv (ZJ h F l c n)).length:Int)) (Fa (by simp only[Ca,Ls,LD,LC,LV,Lv];rfl:Ca (La wdv (ZJ h F l c n)) (min (max (l.getD n M-F) 0) (↑(ZJ h F l c n).length:Int)).toNat (Le ((min (max (l.getD n M-F+1) 0) (↑(ZJ h F l c n).length:Int)).toNat-(min (max (l.getD n M-F) 0) (↑(ZJ h F l c n).length:Int)).toNat) [B2 0])=La wdv (Lh (min (max (l.getD n M-F) 0) (↑(ZJ h F l c n).length:Int)).toNat (ZJ h F l c n)++Le ((min (max (l.getD n M-F+1) 0) (↑(ZJ h F l c n).length:Int)).toNat-(min (max (l.getD n M-F) 0) (↑(ZJ h F l c n).length:Int)).toNat) 0++Lg ((min (max (l.getD n M-F) 0) (↑(ZJ h F l c n).length:Int)).toNat+(Le ((min (max (l.getD n M-F+1) 0) (↑(ZJ h F l c n).length:Int)).toNat-(min (max (l.getD n M-F) 0) (↑(ZJ h F l c n).length:Int)).toNat) (0:Int)).length) (ZJ h F l c n))) (Fx 80 n (Fr (35:Int) (Fa (by refine congrArg _ ?_;rw[a];simp only[R8,Ge,Lv]:La wdv (Lh (min (max (l.getD n M-F) 0) (↑(ZJ h F l c n).length:Int)).toNat (ZJ h F l c n)++Le ((min (max (l.getD n M-F+1) 0) (↑(ZJ h F l c n).length:Int)).toNat-(min (max (l.getD n M-F) 0) (↑(ZJ h F l c n).length:Int)).toNat) 0++Lg ((min (max (l.getD n M-F) 0) (↑(ZJ h F l c n).length:Int)).toNat+(Le ((min (max (l.getD n M-F+1) 0) (↑(ZJ h F l c n).length:Int)).toNat-(min (max (l.getD n M-F) 0) (↑(ZJ h F l c n).length:Int)).toNat) (0:Int)).length) (ZJ h F l c n))=La wdv (ZJ h F l c (n+1))) Fz))))))))))))))))))));have b:GB h (l.getD n M)=Z5 (Z9 h (l.getD n M)).1:=if_neg d;have a:ZJ h F l c (n+1)=R8 (ZJ h F l c n) (l.getD n M-F) (Z5 (Z9 h (l.getD n M)).1):=by rw[ZJ,b]
 exact sF [] (fO 8) (Fh 20000 [.els (La wdv (Lh (min (max (l.getD n M-F) 0) (↑(ZJ h F l c n).length:Int)).toNat (ZJ h F l c n)++Le ((min (max (l.getD n M-F+Z5 (Z9 h (l.getD n M)).1) 0) (↑(ZJ h F l c n).length:Int)).toNat-(min (max (l.getD n M-F) 0) (↑(ZJ h F l c n).length:Int)).toNat) 0++Lg ((min (max (l.getD n M-F) 0) (↑(ZJ h F l c n).length:Int)).toNat+(Le ((min (max (l.getD n M-F+Z5 (Z9 h (l.getD n M)).1) 0) (↑(ZJ h F l c n).length:Int)).toNat-(min (max (l.getD n M-F) 0) (↑(ZJ h F l c n).length:Int)).toNat) (0:Int)).length) (ZJ h F l c n)))] (Ftb 47 (Lc ((n:Int)<(l.length:Int))) (Fek 48 wdv l (↑n) n (Fc 53 (@Nk h (l.getD n M) aa oq) (Ftb 58 ((Z9 h (l.getD n M)).1.K != 0) (Fc 60 (@EN ((Z9 h (l.getD n M)).1) aa) (Fi 62 (l.getD n M) (Fi 64 F (Fi 65 (l.getD n M-F) (Fgo 68 (if 0 > l.getD n M-F then 0 else l.getD n M-F) (max (l.getD n M-F) 0) (Fl 70 wdv (ZJ h F l c n) (Fgo 71 (if(↑(ZJ h F l c n).length:Int)<max (l.getD n M-F) 0 then(↑(ZJ h F l c n).length:Int)else max (l.getD n M-F) 0) (min (max (l.getD n M-F) 0) (↑(ZJ h F l c n).length:Int)) (Fi 74 (l.getD n M-F+Z5 (Z9 h (l.getD n M)).1) (Fgo 75 (if 0 > l.getD n M-F+Z5 (Z9 h (l.getD n M)).1 then 0 else l.getD n M-F+Z5 (Z9 h (l.getD n M)).1) (max (l.getD n M-F+Z5 (Z9 h (l.getD n M)).1) 0) (Fl 77 wdv (ZJ h F l c n) (Fgo 78 (if(↑(ZJ h F l c n).length:Int)<max (l.getD n M-F+Z5 (Z9 h (l.getD n M)).1) 0 then(↑(ZJ h F l c n).length:Int)else max (l.getD n M-F+Z5 (Z9 h (l.getD n M)).1) 0) (min (max (l.getD n M-F+Z5 (Z9 h (l.getD n M)).1) 0) (↑(ZJ h F l c n).length:Int)) (Fa (by(simp only[Lq];omega):0<=min (max (l.getD n M-F) 0) (↑(ZJ h F l c n).length:Int)/\min (max (l.getD n M-F) 0) (↑(ZJ h F l c n).length:Int)<=min (max (l.getD n M-F+Z5 (Z9 h (l.getD n M)).1) 0) (↑(ZJ h F l c n).length:Int)/\min (max (l.getD n M-F+Z5 (Z9 h (l.getD n M)).1) 0) (↑(ZJ h F l c n).length:Int)<=(↑(La wdv (ZJ h F l c n)).length:Int)) (Fa (by simp only[Ca,Ls,LD,LC,LV,Lv];rfl:Ca (La wdv (ZJ h F l c n)) (min (max (l.getD n M-F) 0) (↑(ZJ h F l c n).length:Int)).toNat (Le ((min (max (l.getD n M-F+Z5 (Z9 h (l.getD n M)).1) 0) (↑(ZJ h F l c n).length:Int)).toNat-(min (max (l.getD n M-F) 0) (↑(ZJ h F l c n).length:Int)).toNat) [B2 0])=La wdv (Lh (min (max (l.getD n M-F) 0) (↑(ZJ h F l c n).length:Int)).toNat (ZJ h F l c n)++Le ((min (max (l.getD n M-F+Z5 (Z9 h (l.getD n M)).1) 0) (↑(ZJ h F l c n).length:Int)).toNat-(min (max (l.getD n M-F) 0) (↑(ZJ h F l c n).length:Int)).toNat) 0++Lg ((min (max (l.getD n M-F) 0) (↑(ZJ h F l c n).length:Int)).toNat+(Le ((min (max (l.getD n M-F+Z5 (Z9 h (l.getD n M)).1) 0) (↑(ZJ h F l c n).length:Int)).toNat-(min (max (l.getD n M-F) 0) (↑(ZJ h F l c n).length:Int)).toNat) (0:Int)).length) (ZJ h F l c n))) (Fx 80 n (Fr (35:Int) (Fa (by refine congrArg _ ?_;rw[a];simp only[R8,Ge,Lv]:La wdv (Lh (min (max (l.getD n M-F) 0) (↑(ZJ h F l c n).length:Int)).toNat (ZJ h F l c n)++Le ((min (max (l.getD n M-F+Z5 (Z9 h (l.getD n M)).1) 0) (↑(ZJ h F l c n).length:Int)).toNat-(min (max (l.getD n M-F) 0) (↑(ZJ h F l c n).length:Int)).toNat) 0++Lg ((min (max (l.getD n M-F) 0) (↑(ZJ h F l c n).length:Int)).toNat+(Le ((min (max (l.getD n M-F+Z5 (Z9 h (l.getD n M)).1) 0) (↑(ZJ h F l c n).length:Int)).toNat-(min (max (l.getD n M-F) 0) (↑(ZJ h F l c n).length:Int)).toNat) (0:Int)).length) (ZJ h F l c n))=La wdv (ZJ h F l c (n+1))) Fz)))))))))))))))))))))
def Zhg(h:Heap) F l c:CP (Zo f229 0) (adL h F l c l.length).st (.ext 0) (Tg.st ⟨tm 90 [(4,u64 0),(5,bool Lb),(6,u64 F),(8,.ow 25033)],[(25033,.arr 35 1 ((ZJ h F l c l.length).map wdv))],60⟩):=by exact sF [] [] (Ffb 47 (Lc ((l.length:Int)<(l.length:Int))) Fz)
def ZhX(h:Heap)(F:Int)(l c:List Int)(hw:Zx h.W)(a:0<=F/\F<=8192)(hl:l.length<=1048576)(b:c.length<=64)(e:∀x∈l,0<=x/\x<=8192):CP (Zk f229 0) (Tg.st ⟨tm 90 [(2,.pt 8002 0 0),(4,u64 0),(5,bool Lb),(6,u64 F),(8,.ow 25033),(44,Z3 l),(45,int l.length),(46,int 0)],[(25033,.arr 35 1 (c.map wdv)),(8002,.box 28 h.cells)],60⟩) .nrm (Tg.st ⟨tm 90 [(4,u64 0),(5,bool Lb),(6,u64 F),(8,.ow 25033)],[(25033,.arr 35 1 ((ZJ h F l c l.length).map wdv))],60⟩):=
 Bw (S:=λn=>(adL h F l c n).st) l.length kr (λn d=>Zhk h F l c n hw a hl b e d) (Zhg h F l c)
def Ru(h:Heap)(i:Nat):List Int:=(h.W.drop ((address h.C i 0).1-4096).toNat).take h.C.pw.toNat
def BV(h:Heap)(i:Nat):List Int:=ZJ h (address h.C i 0).1 (Zd h (ZX h.P i:Nat)).1 (Ru h i) (Zd h (ZX h.P i:Nat)).1.length
def Z0q(h:Heap)(i:Nat)(hw:Zx h.W)(d:Z8 h=O)(hi:i<h.P.length):GP 229 [h.av,int i] O (.tu [u64 ((address h.C i 0).1+max (C5 (BV h i)) 0),bool (Lc (0<=C5 (BV h i)))]) []:=by
 have e:=B1 d;have ea:(address h.C i 0).1=4096+i*h.C.pw:=by(unfold address;rw[if_pos e.1,if_pos (HU.2 oq)];simp only;omega)
 have ap:=HY e.1 (i:=i) oq oq;have hh:=Z1n h.P i;have hx:(i:Int)*h.C.pw+h.C.pw<=h.W.length:=by
  have h1:((i:Int)+1)*h.C.pw<=h.C.pg*h.C.pw:=LN oq oq;have h2:((i:Int)+1)*h.C.pw=i*h.C.pw+h.C.pw:=by rw[LL,LO]
  have h3:h.C.pg*h.C.pw=h.C.pw*h.C.pg:=LM _ _;omega
 have hr:=Az d (ZX h.P i:Nat);have hn:=Nw h (ZX h.P i:Nat);have c:(BV h i).length<=64:=by(rw[BV,Tu,Ru,Lr];omega)
 have f:C5 (BV h i)<=64/\-1<=C5 (BV h i):=by(have:Gq (BV h i)<=(BV h i).length:=(List.takeWhile_sublist _).length_le;unfold C5;split<;>omega)
 have g:(Ru h i).length<=64:=by rw[Ru,Lr];omega
 unfold BV Ru at *;let b:=address h.C (i:Int) 0;let a:=ZJ h b.1 (Zd h (↑(ZX h.P i):Int)).1 (Lh h.C.pw.toNat (Lg (b.1-4096).toNat h.W)) (Zd h (↑(ZX h.P i):Int)).1.length;exact gF [] func229 [] (Fc 23 (@MB h.C ((i:Int)) (0)) (Fc 33 (@Zjc h.W (b.1) h.C.pw oq oq) (Fc 40 (@Zfo h i aa aa) (Fc 41 (@Ns h ((↑(ZX h.P i):Int)) aa oq) (Fl 45 wdv (Zd h (↑(ZX h.P i):Int)).1 (Fu (@ZhX h (b.1) ((Zd h (↑(ZX h.P i):Int)).1) (Lh h.C.pw.toNat (Lg (b.1-4096).toNat h.W)) aa oq oq aa aa) (Fc 82 (@Za6 a oq) (Fgo 85 (if 0 > C5 a then 0 else C5 a) (max (C5 a) 0) (Fv 86 (max (C5 a) 0) (Fv 87 (b.1+max (C5 a) 0) Fz))))))))))
def unS(fn:Func):Func:=match fn.body with|some (.seq x (.scope c)) => {fn with body:=Ld (.seq x c)}|_=>fn
def Z58(fn:Func):Code:=match fn.body with|some (.seq x _)=>x|_=>.skip
def Z4C(fn:Func):Code:=match fn.body with|some (.seq _ c)=>c|_=>.skip
def Zg7{P c}{n m:Nat}{s t}(f:m≠n)(h:CSpec P c s (.ext m) t):CSpec P (.block n c) s (.ext m) t:=by intro g b j a w i;refine wp_block (wp_mono (h g b j a w i) ?_);rintro e a' w' ⟨rfl,d⟩;show(if m=n then _ else _);rw[if_neg f];exact⟨rfl,d⟩
def Z9W{P fn}{b m:Nat}{S:Nat->St}{t}(n:Nat)(a:RF b (Zk fn b)=O)(c:m≠b)(h:∀i,i<n->CSpec P (Zo fn b) (S i) .nrm (S (i+1)))(d:CSpec P (Zo fn b) (S n) (.ext m) t):CSpec P (Zk fn b) (S 0) (.ext m) t:=by rw[Oz a];exact Zg7 c (Z2G (Z2o n h (λh=>nomatch h) d))
def fdV(h:Heap)(a k:Int):Int:=(Z1 h.W (a+1+k)).1
def Nv(h:Heap)(b:List Int)(a k:Int):Bool:=(fdV h a k != 0)&&!decide (fdV h a k∈b)
def Zkn{h b}{a k:Int}:Nv h b a k=O↔¬ fdV h a k=0/\¬ fdV h a k∈b:=by simp[Nv]
def Zhr{h b}{a k:Int}:Nv h b a k=Lb↔fdV h a k=0\/fdV h a k∈b:=by by_cases c:fdV h a k=0<;>by_cases d:fdV h a k∈b<;>simp[Nv,c,d]
def yJ(a:Int)(P:List Int):Nat->Int|0=>0|j+1=>a+1+P.getD j M
def apI(h:Heap)(b:List Int)(i:Nat)(a:Int)(P:List Int)(j:Nat):Tg:=⟨tm 83 [(1,.pt 8001 0 0),(2,.pt 8002 0 0),(3,Z3 b),(5,u64 (yJ a P j)),(7,u64 a),(24,Z3 b),(25,int b.length),(26,int i),(37,ZD P),(38,int P.length),(39,int j)],[(8002,.box 223 [int 0,int 0,u64 0]),(8001,.box 28 h.cells)],64⟩
section
variable (h:Heap) (b:List Int) (i:Nat) (a:Int) (P:List Int) (j:Nat) (hw:Zx h.W) (c:h.W.length<=1048576) (hl:b.length<=1048576) (hs:b.Pairwise (· < ·)) (ha:0<=a/\a<=8192) (hP:P.length<=256) (hk:0<=P.getD j M/\P.getD j M<=256) (hj:j<P.length)
include hw c hl hs ha hP hk hj
theorem Z67(e:Nv h b a (P.getD j M)=Lb):CP (Zo (unS f207) 2) (apI h b i a P j).st .nrm (apI h b i a P (j+1)).st:=by have f:yJ a P (j+1)=a+1+P.getD j M:=rfl;have d:=Zhr.1 e;unfold fdV at d;clear e;generalize g:yJ a P (j+1)=y1 at f;unfold apI;rw[g];rcases d with e|e;exact sF [] (fO 5) (Ftb 40 (Lc ((j:Int)<(P.length:Int))) (Fek 41 idv P (↑j) j (Fv 44 (a+1) (Fv 46 (P.getD j M) (Fv 47 (a+1+P.getD j M) (Fc 52 (@Z0g h.W (a+1+P.getD j M) aa oq) (Fc 58 (@bsearch b ((Z1 h.W (a+1+P.getD j M)).1) aa aa) (Ffb 66 ((Z1 h.W (a+1+P.getD j M)).1 != 0&&!decide ((Z1 h.W (a+1+P.getD j M)).1∈b)) (Fx 67 j (Fa ‹a+1+P.getD j M=y1› Fz))))))))));exact sF [] (fO 5) (Ftb 40 (Lc ((j:Int)<(P.length:Int))) (Fek 41 idv P (↑j) j (Fv 44 (a+1) (Fv 46 (P.getD j M) (Fv 47 (a+1+P.getD j M) (Fc 52 (@Z0g h.W (a+1+P.getD j M) aa oq) (Fc 58 (@bsearch b ((Z1 h.W (a+1+P.getD j M)).1) aa aa) (Ffs 66 ((Z1 h.W (a+1+P.getD j M)).1 != 0&&!decide ((Z1 h.W (a+1+P.getD j M)).1∈b)) (Fx 67 j (Fa ‹a+1+P.getD j M=y1› Fz))))))))))
theorem Zbb(f:Nv h b a (P.getD j M)=O):CP (Zo (unS f207) 2) (apI h b i a P j).st (.ext 0) (Tg.st ⟨tm 83 [(1,.pt 8001 0 0),(2,.pt 8002 0 0),(5,u64 (a+1+P.getD j M))],[(8002,.box 223 [int 0,int 0,u64 0]),(8001,.box 28 h.cells)],68⟩):=by obtain⟨d,e⟩:=Zkn.1 f;unfold fdV at d e;clear f;exact sF [] [] (Ftb 40 (Lc ((j:Int)<(P.length:Int))) (Fek 41 idv P (↑j) j (Fv 44 (a+1) (Fv 46 (P.getD j M) (Fv 47 (a+1+P.getD j M) (Fc 52 (@Z0g h.W (a+1+P.getD j M) aa oq) (Fc 58 (@bsearch b ((Z1 h.W (a+1+P.getD j M)).1) aa aa) (Fts 66 ((Z1 h.W (a+1+P.getD j M)).1 != 0&&!decide ((Z1 h.W (a+1+P.getD j M)).1∈b)) Fz))))))))
end
def Zk9(h:Heap) b i a P:CP (Zo (unS f207) 2) (apI h b i a P P.length).st (.ext 2) (Tg.st ⟨tm 83 [(1,.pt 8001 0 0),(2,.pt 8002 0 0),(3,Z3 b),(24,Z3 b),(25,int b.length),(26,int i)],[(8002,.box 223 [int 0,int 0,u64 0]),(8001,.box 28 h.cells)],68⟩):=by exact sF [] [] (Ffb 40 (Lc ((P.length:Int)<(P.length:Int))) Fz)
def Za3(h:Heap)(b:List Int)(i:Nat)(a:Int)(P:List Int)(hw:Zx h.W)(d:h.W.length<=1048576)(hl:b.length<=1048576)(hs:b.Pairwise (· < ·))(f:0<=a/\a<=8192)(e:P.length<=256)(l:∀k∈P,0<=k/\k<=256)(g:P.find? (Nv h b a)=Lf) :CP (Zk (unS f207) 2) (Tg.st ⟨tm 83 [(1,.pt 8001 0 0),(2,.pt 8002 0 0),(3,Z3 b),(5,u64 0),(7,u64 a),(24,Z3 b),(25,int b.length),(26,int i),(37,ZD P),(38,int P.length),(39,int 0)],[(8002,.box 223 [int 0,int 0,u64 0]),(8001,.box 28 h.cells)],64⟩) .nrm (Tg.st ⟨tm 83 [(1,.pt 8001 0 0),(2,.pt 8002 0 0),(3,Z3 b),(24,Z3 b),(25,int b.length),(26,int i)],[(8002,.box 223 [int 0,int 0,u64 0]),(8001,.box 28 h.cells)],68⟩):=
 Bw (S:=λj=>(apI h b i a P j).st) P.length kr (λj c=>Z67 h b i a P j hw d hl hs f e (l _ (Bs.2 ⟨j,c,rfl⟩)) c (Z0c g j c)) (Zk9 h b i a P)
def ZfX(h:Heap)(b:List Int)(i:Nat)(a:Int)(P:List Int)(x:Int)(hw:Zx h.W)(c:h.W.length<=1048576)(hl:b.length<=1048576)(hs:b.Pairwise (· < ·))(f:0<=a/\a<=8192)(e:P.length<=256)(g:∀k∈P,0<=k/\k<=256)(p:P.find? (Nv h b a)=Ld x) :CP (Zk (unS f207) 2) (Tg.st ⟨tm 83 [(1,.pt 8001 0 0),(2,.pt 8002 0 0),(3,Z3 b),(5,u64 0),(7,u64 a),(24,Z3 b),(25,int b.length),(26,int i),(37,ZD P),(38,int P.length),(39,int 0)],[(8002,.box 223 [int 0,int 0,u64 0]),(8001,.box 28 h.cells)],64⟩) (.ext 0) (Tg.st ⟨tm 83 [(1,.pt 8001 0 0),(2,.pt 8002 0 0),(5,u64 (a+1+x))],[(8002,.box 223 [int 0,int 0,u64 0]),(8001,.box 28 h.cells)],68⟩):=by
 obtain⟨n,d,l,m,o⟩:=Aw p;subst l;exact Z9W (S:=λj=>(apI h b i a P j).st) n kr dd (λj q=>Z67 h b i a P j hw c hl hs f e (g _ (Bs.2 ⟨j,by omega,rfl⟩)) oq (o j q)) (Zbb h b i a P n hw c hl hs f e (g _ (Bs.2 ⟨n,d,rfl⟩)) d m)
def apF(h:Heap)(b:List Int)(a:Int):Option Int:=(ZC (Z9 h a).1).find? (Nv h b a)
def apL(h:Heap)(a:List Int)(i:Nat):Tg:=⟨tm 83 [(1,.pt 8001 0 0),(2,.pt 8002 0 0),(3,Z3 a),(5,u64 0),(24,Z3 a),(25,int a.length),(26,int i)],[(8002,.box 223 [int 0,int 0,u64 0]),(8001,.box 28 h.cells)],60⟩
def Z1W(h:Zy):∀n:Nat,∀k∈C6 h n,0<=k/\k<n
 |0,k,hk=>by simp[C6]at hk
 |n+1,k,hk=>by
  unfold C6 at hk;split at hk
  .rcases LW.1 hk with hk|hk
   .have:=Z1W h n k hk;omega
   .simp only[List.mem_cons,List.not_mem_nil,or_false]at hk;omega
  .have:=Z1W h n k hk;omega
def Z2f(h:Zy):(ZC h).length<=256/\∀k∈ZC h,0<=k/\k<=256:=by
 rw[<-Z7r];have hs:=Ic h;have h1:=T9 h (Z5 h).toNat
 exact⟨by omega,λk a=>by have:=Z1W h _ k a;omega⟩
section
variable (h:Heap) (a:List Int) (i:Nat) (hw:Zx h.W) (d:h.W.length<=1048576) (hl:a.length<=1048576) (hs:a.Pairwise (· < ·)) (c:∀x∈a,0<=x/\x<=8192) (b:i<a.length)
include hw d hl hs c b
theorem Z5D(j:apF h a (a.getD i M)=Lf):CP (Zo (unS f207) 0) (apL h a i).st .nrm (apL h a (i+1)).st:=by have hx:=c (a.getD i M) (Bs.2 ⟨i,b,rfl⟩);have hm:=IC hw (a.getD i M);have g:=Z2f (Z9 h (a.getD i M)).1;have k:=g.1;have l:=g.2;unfold apF at j;let e:=a.getD i M;let f:=ZC (Z9 h e).1;exact sF [] [] (Fk (2,Tg.mk (tm 83 [(1,AV.pt 8001 0 0),(2,AV.pt 8002 0 0),(3,Z3 a),(5,u64 0),(7,u64 e),(24,Z3 a),(25,int ↑a.length),(26,int ↑i),(37,ZD f),(38,int (f.length:Int)),(39,int 0)]) [(8002,Z4.box 223 [int 0,int 0,u64 0]),(8001,Z4.box 28 h.cells)] 64,Ex.nrm,Tg.mk (tm 83 [(1,AV.pt 8001 0 0),(2,AV.pt 8002 0 0),(3,Z3 a),(24,Z3 a),(25,int ↑a.length),(26,int ↑i)]) [(8002,Z4.box 223 [int 0,int 0,u64 0]),(8001,Z4.box 28 h.cells)] 68) (Ftb 27 (Lc ((i:Int)<(a.length:Int))) (Fek 28 wdv a (↑i) i (Fc 33 (@Nk h e aa oq) (Fc 37 (@Z3j ((Z9 h e).1) aa) (Fl 38 idv f (Fa (@Za3 h a i e f aa aa aa aa aa aa aa aa) (Fx 68 i Fz))))))))
theorem Zgd x(j:apF h a (a.getD i M)=Ld x):CP (Zo (unS f207) 0) (apL h a i).st (.ext 0) (Tg.st ⟨tm 83 [(1,.pt 8001 0 0),(2,.pt 8002 0 0),(5,u64 (a.getD i M+1+x))],[(8002,.box 223 [int 0,int 0,u64 0]),(8001,.box 28 h.cells)],72⟩):=by have hx:=c (a.getD i M) (Bs.2 ⟨i,b,rfl⟩);have hm:=IC hw (a.getD i M);have g:=Z2f (Z9 h (a.getD i M)).1;have k:=g.1;have l:=g.2;unfold apF at j;let e:=a.getD i M;let f:=ZC (Z9 h e).1;exact sF [] [] (Fk (2,Tg.mk (tm 83 [(1,AV.pt 8001 0 0),(2,AV.pt 8002 0 0),(3,Z3 a),(5,u64 0),(7,u64 e),(24,Z3 a),(25,int ↑a.length),(26,int ↑i),(37,ZD f),(38,int (f.length:Int)),(39,int 0)]) [(8002,Z4.box 223 [int 0,int 0,u64 0]),(8001,Z4.box 28 h.cells)] 64,Ex.ext 0,Tg.mk (tm 83 [(1,AV.pt 8001 0 0),(2,AV.pt 8002 0 0),(5,u64 (a.getD i M+1+x))]) [(8002,Z4.box 223 [int 0,int 0,u64 0]),(8001,Z4.box 28 h.cells)] 68) (Ftb 27 (Lc ((i:Int)<(a.length:Int))) (Fek 28 wdv a (↑i) i (Fc 33 (@Nk h e aa oq) (Fc 37 (@Z3j ((Z9 h e).1) aa) (Fl 38 idv f (Fa (@ZfX h a i e f x aa aa aa aa aa aa aa aa) Fz)))))))
end
def Zat(h:Heap) a:CP (Zo (unS f207) 0) (apL h a a.length).st (.ext 0) (Tg.st ⟨tm 83 [(1,.pt 8001 0 0),(2,.pt 8002 0 0),(5,u64 0)],[(8002,.box 223 [int 0,int 0,u64 0]),(8001,.box 28 h.cells)],72⟩):=by exact sF [] [] (Ffb 27 (Lc ((a.length:Int)<(a.length:Int))) Fz)
def Zh5(h:Heap)(b:List Int)(hw:Zx h.W)(c:h.W.length<=1048576)(hl:b.length<=1048576)(hs:b.Pairwise (· < ·))(f:∀x∈b,0<=x/\x<=8192)(e:b.find? (λa=>(apF h b a).isSome)=Lf)  := Bw (S:=λi=>(apL h b i).st) b.length (by kernel_rfl) (λi d=>Z5D h b i hw c hl hs f d (by simpa using Z0c e i d)) (Zat h b)
def Z9H(h:Heap)(b:List Int)(a x:Int)(hw:Zx h.W)(c:h.W.length<=1048576)(hl:b.length<=1048576)(hs:b.Pairwise (· < ·))(d:∀x∈b,0<=x/\x<=8192)(j:b.find? (λa=>(apF h b a).isSome)=Ld a)(l:apF h b a=Ld x):CP (Zk (unS f207) 0) (Tg.st ⟨tm 83 [(1,.pt 8001 0 0),(2,.pt 8002 0 0),(3,Z3 b),(5,u64 0),(24,Z3 b),(25,int b.length),(26,int 0)],[(8002,.box 223 [int 0,int 0,u64 0]),(8001,.box 28 h.cells)],60⟩) .nrm (Tg.st ⟨tm 83 [(1,.pt 8001 0 0),(2,.pt 8002 0 0),(5,u64 (a+1+x))],[(8002,.box 223 [int 0,int 0,u64 0]),(8001,.box 28 h.cells)],72⟩):=by obtain⟨n,e,f,h3,g⟩:=Aw j;subst f;exact Bw (S:=λi=>(apL h b i).st) n kr (λi k=>Z5D h b i hw c hl hs d oq (by simpa using g i k)) (Zgd h b n hw c hl hs d e x l)
def Zi5(h:Heap):CP (Z58 (unS f207)) (Tg.st ⟨tm 83 [(0,h.av)],[],1⟩) .nrm (Tg.st ⟨tm 83 [(1,.pt 8001 0 0),(2,.pt 8002 0 0)],[(8002,.box 223 [int 0,int 0,u64 0]),(8001,.box 28 h.cells)],20⟩):=by exact sF [] [] Fz
def SJ(h:Heap):Int:=match (Zg h).1.find? (λa=>(apF h (Zg h).1 a).isSome)with|some a=>a+1+(apF h (Zg h).1 a).getD 0|none=>0
def CJ(h:Heap):Ci:=if SJ h=0 then⟨0,0,0⟩else⟨6,(Z2 h.C (SJ h)).1,SJ h⟩
def Zd5(h:Heap)(hw:Zx h.W)(j:h.W.length<=1048576):CP (Z4C (unS f207)) (Tg.st ⟨tm 83 [(1,.pt 8001 0 0),(2,.pt 8002 0 0)],[(8002,.box 223 [int 0,int 0,u64 0]),(8001,.box 28 h.cells)],20⟩) .ret (Tg.st ⟨tm 83 [(2,.pt 8002 0 0)],[(8002,.box 223 [int (CJ h).fault,int (CJ h).page,u64 (CJ h).addr])],90⟩):=by
 have hl:=SF h;have hs:=Z41 h;have i:=Oo h;cases hf:(Zg h).1.find? (λa=>(apF h (Zg h).1 a).isSome)with
 |none =>
  have b:SJ h=0:=by simp only[SJ,hf]
  have c:CJ h=⟨0,0,0⟩:=if_pos b;rw[c];exact sF [] [] (Fk (0,Tg.mk (tm 83 [(1,AV.pt 8001 0 0),(2,AV.pt 8002 0 0),(3,Z3 (Zg h).1),(5,u64 0),(24,Z3 (Zg h).1),(25,int (↑(Zg h).1.length:Int)),(26,int 0)]) [(8002,Z4.box 223 [int 0,int 0,u64 0]),(8001,Z4.box 28 h.cells)] 60,Ex.nrm,Tg.mk (tm 83 [(1,AV.pt 8001 0 0),(2,AV.pt 8002 0 0),(5,u64 0)]) [(8002,Z4.box 223 [int 0,int 0,u64 0]),(8001,Z4.box 28 h.cells)] 72) (Fc 21 (@Po h aa) (Fl 25 wdv (Zg h).1 (Fa (@Zh5 h ((Zg h).1) aa aa oq aa aa aa) Fz))))
 |some a =>
  obtain⟨n,e,f,g,h4⟩:=Aw hf;obtain⟨x,d⟩:=L5.1 g;have ha:=i a (Bs.2 ⟨n,e,f⟩);have k:=(Z2f (Z9 h a).1).2 x (LZ d);have b:SJ h=a+1+x:=by simp only[SJ,hf,d,LF]
  have c:CJ h=⟨6,(Z2 h.C (a+1+x)).1,a+1+x⟩:=by rw[CJ,b,if_neg oq]
  rw[c];exact sF [] [] (Fk (0,Tg.mk (tm 83 [(1,AV.pt 8001 0 0),(2,AV.pt 8002 0 0),(3,Z3 (Zg h).1),(5,u64 0),(24,Z3 (Zg h).1),(25,int (↑(Zg h).1.length:Int)),(26,int 0)]) [(8002,Z4.box 223 [int 0,int 0,u64 0]),(8001,Z4.box 28 h.cells)] 60,Ex.nrm,Tg.mk (tm 83 [(1,AV.pt 8001 0 0),(2,AV.pt 8002 0 0),(5,u64 (a+1+x))]) [(8002,Z4.box 223 [int 0,int 0,u64 0]),(8001,Z4.box 28 h.cells)] 72) (Fc 21 (@Po h aa) (Fl 25 wdv (Zg h).1 (Fa (@Z9H h ((Zg h).1) a x aa aa oq aa aa aa aa) (Ffb 70 (a+1+x==0) (Fc 76 (@Gn h.C (a+1+x) oq oq) Fz))))))
end Go.Proofs.YtgedmeaemofdkaaGreat
namespace Go.Proofs.YtgedmeaemofdkaaGreat
open Go.Sx Go.RowKit
def Ci.val(f:Ci):Value:=.agg #[.int .i64 f.fault,.int .i64 f.page,.int .u64 f.addr]
def ZdE ρ w Im(f:Ci):Zi ρ w Im f.av f.val:=by refine .ag _ _ rfl (λi v h=>?_) (λi a v b c=>?_);rcases i with _|_|_|i<;>simp at h<;>subst h<;>rfl;rcases i with _|_|_|i<;>simp at b c<;>subst b<;>subst c<;>exact .d (.sc _ rfl)
def Zh8{ρ w Im}{f:Ci}{v}(h:Zi ρ w Im f.av v):v=f.val:=by obtain⟨b,c,d,h3,e⟩:=Hr h;rw[c];have g:∀(k:Nat) (a:k<b.size) (v:Value),[int f.fault,int f.page,u64 f.addr][k]?=Ld (.d (.sc v))->b[k]=v:=λk a v j=>C0 (e k _ b[k] j (Array.getElem?_eq_getElem a));have i:b.size=3:=d;simp only[Ci.val];congr 1;apply Array.ext;simp[i];intro k a _;rcases k with _|_|_|k;exact g 0 a _ rfl;exact g 1 a _ rfl;exact g 2 a _ rfl;omega
def noGoto_ret{Q:Exit->Act->World->Prop}{a w}(h:Q .ret a w):Exit.noGoto Q Ex.ret.exit a w:=h
def Z2P(h:Heap)(hw:Zx h.W)(p:h.W.length<=1048576):GP 207 [h.av] O (CJ h).av []:=by
 intro f t r j d a;have c:r.size=1:=d;have b:Tryz.f207.body=Ld (.seq (Z58 (unS f207)) (.scope (Z4C (unS f207)))):=by kernel_rfl
 refine calls_of_wp func207 b ?_;have w:Sx.Sys G7 t f (tm 83 [(0,h.av)]) (BW []) 1 {tmps:=r++Lw (Tryz.f207.ntmps-r.size) undef,defers:=[]} f:=by(refine⟨_,t,Sx.Inv.empty j (Lo 1),⟨by rw[c];simp[c];kernel_rfl,λk y v g m=>?_,rfl⟩⟩;rw[show tm 83 [(0,h.av)]=[h.av]++Le 82 .any from by kernel_rfl,LR]at g;rw[LG]at m;split at g;rename_i z;rw[if_pos (by rw[d];exact z)]at m;exact a k y v g m;have:=L0 g;rw[(L1.1 this).2];exact .any _)
 refine wp_seq (wp_mono (Zi5 h _ _ _ _ _ w) ?_);rintro e a1 w1 ⟨rfl,x⟩;refine wp_scope_straight (wp_mono (Zd5 h hw p _ _ _ _ _ x) ?_);rintro e a2 w2 ⟨rfl,ρ2,i,s,u⟩;obtain⟨v,n,o⟩:=Z1R (P:=prog) (fn:=f207) (l:=[(CJ h).av]) s u kr;refine noGoto_ret (bodyPost_ret n u.defers ⟨v,rfl,s.kept.no,λ_=>Lf,λ_=>False,λ_ q=>q.elim,λ_ q=>q.elim,λ_ _ _ q=>(by cases q),λ_ _ _ _ _ q=>(by cases q),λ_ _ q=>(by cases q),λk B q=>by simp at q, ?_⟩);rw[Zh8 (show Zi ρ2 w2 i (CJ h).av v from o)];exact ZdE _ _ _ _
end Go.Proofs.YtgedmeaemofdkaaGreat
namespace Go.Proofs.YtgedmeaemofdkaaGreat
open Go.Sx
def ZiT{c:List Int}{x k:Int}(f:0<=k){o:Nat}(ho:o<c.length):(R8 c x k).getD o 0=if x<=o/\(o:Int)<x+k then 0 else c.getD o 0:=by
 have h1:Ge c x<=c.length:=OK c x;have h2:Ge c (x+k)<=c.length:=OK c (x+k);have h3:=Z4v c x f;have e:Ge c x+(Ge c (x+k)-Ge c x)=Ge c (x+k):=by omega
 have a1:o<Ge c x↔(o:Int)<x:=by unfold Ge;omega
 have a:o<Ge c (x+k)↔(o:Int)<x+k:=by unfold Ge;omega
 unfold R8;rw[e];simp only[Ll];by_cases b:o<Ge c x;rw[List.append_assoc,LS qo,LA,if_pos b,if_neg (by have:=a1.1 b;omega)];by_cases d:o<Ge c (x+k);rw[LS qo,LU qo,if_pos (by have:=a.1 d;omega)];rw[List.getElem?_replicate,if_pos qo];rfl;rw[LU qo,Lz,if_neg (λq=>d (a.2 q.2))];congr 2;simp;omega
def Z7Y{h F}{l c:List Int}{o:Nat}(e:o<c.length):∀n:Nat,n<=l.length->(ZJ h F l c n).getD o 0=if(l.take n).any (λa=>Lc (a-F<=o)&&Lc ((o:Int)<a-F+GB h a))=O then 0 else c.getD o 0
 |0,_=>by simp[ZJ]
 |n+1,hn=>by
  have hl:=Tu h F l c n;rw[ZJ,ZiT (Z6l h _).1 oq,Z7Y e n oq,M1 oq,List.any_append];generalize l.getD n M=a;generalize (l.take n).any _=b;by_cases d:a-F<=o/\(o:Int)<a-F+GB h a
  .rw[if_pos d,if_pos (by simp[d])]
  .rw[if_neg d];have:([a].any λa=>Lc (a-F<=(o:Int))&&Lc ((o:Int)<a-F+GB h a))=Lb:=by
    simp only[List.any_cons,List.any_nil,LI,Bool.and_eq_false_iff,decide_eq_false_iff_not];omega
   rw[this,LI]
def OD{h:Heap}(a:Z8 h=O){i:Nat}(hi:i<h.P.length){o:Int}(ho:0<=o/\o<h.C.pw):(address h.C i o).1=4096+(i*h.C.pw+o):=by have b:=B1 a;unfold address;rw[if_pos b.1,if_pos (HU.2 oq)]
def Z33{h:Heap}(a:Z8 h=O){i:Nat}(hi:i<h.P.length):0<=(i:Int)*h.C.pw/\(i:Int)*h.C.pw+h.C.pw<=h.W.length:=by
 have po:=B1 a;have h1:((i:Int)+1)*h.C.pw<=h.C.pg*h.C.pw:=LN oq oq;have h2:((i:Int)+1)*h.C.pw=i*h.C.pw+h.C.pw:=by rw[LL,LO]
 have h3:h.C.pg*h.C.pw=h.C.pw*h.C.pg:=LM _ _;have h4:(0:Int)<=i*h.C.pw:=Int.mul_nonneg oq oq;omega
def Zid{h:Heap}(a:Z8 h=O){i:Nat}(b:i<h.P.length):(Ru h i).length=h.C.pw.toNat/\∀o:Nat,o<h.C.pw.toNat->(Ru h i).getD o 0=Gr h i o:=by have po:=B1 a;have pi:=Z33 a b;have c:=OD a b (o:=0) oq;constructor;simp only[Ru,Lr,LB];omega;intro o e;have d:=OD a b (o:=o) oq;unfold Gr Z1;rw[d];rw[if_pos oq];simp only[Ru,Ll,LA,Lz,if_pos e];rw[c,show(4096+((i:Int)*h.C.pw+0)-4096).toNat+o=(4096+((i:Int)*h.C.pw+(o:Int))-4096).toNat from by omega]
def Z2D{h:Heap}(b:Z8 h=O){i:Nat}(c:i<h.P.length):(BV h i).length=h.C.pw.toNat/\∀o:Nat,o<h.C.pw.toNat->(BV h i).getD o 0=if(CI h i).getD o M=O then 0 else Gr h i o:=by
 have po:=B1 b;obtain⟨r1,r2⟩:=Zid b c;constructor;rw[BV,Tu,r1];intro o d;rw[BV,Z7Y oq _ (Lo _),L3,r2 o d];have f:=OD b c (o:=0) oq;have e:(CI h i).getD o M=(Zd h (ZX h.P i:Nat)).1.any (λa=>Lc (a-(address h.C i 0).1<=(o:Int))&&Lc ((o:Int)<a-(address h.C i 0).1+GB h a)):=by(unfold CI Cu;rw[Ll,List.getElem?_map,List.getElem?_range d];simp only[L6,LF];congr 1;funext a;unfold DW;rw[f,show a-(4096+((i:Int)*h.C.pw+0))=a-4096-i*h.C.pw from by omega])
 rw[e]
def Z7h{h:Heap}(hp:Z8 h=O){i:Nat}(hi:i<h.P.length)(e:Gq (BV h i)<(BV h i).length):Ei h i (CI h i)=4096+i*h.C.pw+Gq (BV h i):=by
 obtain⟨c1,c2⟩:=Z2D hp hi;have hu:=Mu h i;have hf:(Li (CI h i).length).find? (Hx h i (CI h i))=Ld (Gq (BV h i)):=by
  rw[Lm];refine⟨?_,Lj.2 oq,λj hj=>?_⟩
  .have h1:=Z7L e;rw[show(M:Int)=0 from rfl,c2 _ oq]at h1;split at h1
   .exact absurd rfl h1
   .rename_i h2;simp only[Hx,LH,Lx,decide_eq_true_eq];exact⟨by simpa using h2,h1⟩
  .have h1:=(OX hj).2;rw[show(M:Int)=0 from rfl,c2 _ oq]at h1;simp only[Hx,Bool.not_and,Bool.not_not,Bool.or_eq_true,Lx,decide_eq_false_iff_not];split at h1
   .rename_i h2;exact .inl h2
   .exact .inr (λq=>q h1)
 unfold Ei;rw[hf]
def ZbA{h:Heap}(hp:Z8 h=O){i:Nat}(hi:i<h.P.length)(e:¬ Gq (BV h i)<(BV h i).length):Ei h i (CI h i)=0:=by
 obtain⟨c1,c2⟩:=Z2D hp hi;have hu:=Mu h i;have hf:(Li (CI h i).length).find? (Hx h i (CI h i))=Lf:=by
  rw[Ln];intro j hj;have hj:=Lj.1 hj;have h1:=(OX (l:=BV h i) (m:=j) oq).2;rw[show(M:Int)=0 from rfl,c2 _ oq]at h1;simp only[Hx,LH,Lx,decide_eq_true_eq,not_and];intro h2 h3;rw[if_neg (by rw[h2];simp)]at h1;exact h3 h1
 unfold Ei;rw[hf]
def Z3m{h:Heap}(a:Z8 h=O){i:Nat}(c:i<h.P.length):G6 h i (Zd h i).1=Lc (Cq h i (Zd h i).1≠0):=by
 unfold Cq G6;cases hf:(Zd h i).1.find? (Gp h i)with
 |none=>simp
 |some x =>
  have b:=LZ hf;have e:=Z2N a (i:=i) oq;rw[e]at b;obtain⟨y,d,rfl⟩:=LY.1 b;have h1:=(Z3k y d).1;have h2:=(Z33 a c).1;have:y.addr≠0:=by omega
  simp[this]
def find_congr{α:Type}{p q:α->Bool}:∀{l:List α},(∀x∈l,p x=q x)->l.find? p=l.find? q
 |[],_=>rfl
 |a::l,h=>by
  rw[LQ,LQ,h a pq,find_congr (l:=l) (λx b=>h x (by simp[b]))]
def find_range{l:List Int}{p:Int->Bool}:match (Li l.length).find? (λi=>p (l.getD i M))with|Lf=>l.find? p=Lf|Ld i=>l.find? p=Ld (l.getD i M):=by
 split;rename_i a;rw[Ln]at a⊢;intro x j;obtain⟨i,g,e⟩:=Bs.1 j;have:=a i (Lj.2 g);rwa [e]at this;rename_i i a;obtain⟨c,b,f⟩:=Lm.1 a;have b:=Lj.1 b;cases hf:l.find? p with
 |none =>have:=Ln.1 hf (l.getD i M) (Bs.2 ⟨i,b,rfl⟩);exact absurd c this
 |some x =>
  obtain⟨n,k1,d,k,m⟩:=Aw hf;have h:n=i:=by(rcases Nat.lt_trichotomy n i with q|q|q;have:=f n q;rw[d,k]at this;cases this;exact q;have:=m i q;rw[c]at this;cases this)
  subst h;rw[d]
def Mf{h}{a:Int}(b:a∈(Zg h).1):(Z9 h a).2=0/\(Z9 h a).1.K≠0:=by by_cases e:(CB h).2=0;rw[Z3S h e]at b;obtain⟨x,i,rfl⟩:=LY.1 b;obtain⟨c,d⟩:=List.mem_filter.1 i;obtain⟨f,g⟩:=Z9g x c;refine⟨g, ?_⟩;rw[<-f];simpa[En]using d;rw[Z93 h e]at b;simp at b
def Z8V a:∀n:Nat,C6 a n=((Li n).filter (λk:Nat=>Bo a k)).map (λk:Nat=>(k:Int))
 |0=>rfl
 |n+1=>by
  rw[C6,List.range_succ,List.filter_append,Ls,<-Z8V a n];by_cases h:Bo a (n:Int)=O
  .rw[if_pos h];simp[h]
  .rw[if_neg h];simp[h]
def TN(h:Heap)(b:List Int)(a:Int):Option Nat:=(Li (Ct h a).1.length).find? (II (Zp h a).1 (Ct h a).1 b)
def Z4k{h a}(e:(Z9 h a).2=0)(b:(Z9 h a).1.K≠0) c:apF h c a=(TN h c a).map (λk:Nat=>(k:Int)):=by
 have i1:=Z3C e;have m:=(MM e).1;have d:Zp h a=Z9 h a:=by(unfold Zp;rw[if_pos m,if_neg oq,if_neg (λq=>b q.2)])
 have f:=NG (h:=h) (a:=a) (by rw[d];exact e);rw[d]at f;have l:=f.2.2.2.2.2.2.1;have hl:=f.2.2.2.2.2.2.2.2.2;have g:(Ct h a).1=(h.W.drop (a+1-4096).toNat).take (Z9 h a).1.length.toNat:=by(unfold Ct;rw[d,if_pos e,BX,if_neg oq,if_pos oq])
 have j:(Ct h a).1.length=(Z9 h a).1.length.toNat:=by(rw[g,Lr,LB];omega)
 have i:∀k:Nat,k<(Z9 h a).1.length.toNat->(Ct h a).1.getD k M=fdV h a k:=by(intro k b;unfold fdV Z1;rw[if_pos oq,g];simp only[Ll,LA,Lz,if_pos b];rw[show(a+1-4096).toNat+k=(a+1+(k:Int)-4096).toNat from by omega];rfl)
 unfold apF TN ZC;rw[if_pos l,Z8V,List.find?_map,List.find?_filter,j,d];congr 1;refine find_congr λk b=>?_;have b:=Lj.1 b;rw[II,i k b];simp only[Function.comp,Nv];cases Bo (Z9 h a).1 (k:Int)<;>simp
def ZbV(h:Heap):CJ h=ED h (Zg h).1:=by
 have c:=find_range (l:=(Zg h).1) (p:=λa=>(TN h (Zg h).1 a).isSome);have m:(Zg h).1.find? (λa=>(apF h (Zg h).1 a).isSome)=(Zg h).1.find? (λa=>(TN h (Zg h).1 a).isSome):=find_congr λa g=>by(rw[Z4k (Mf g).1 (Mf g).2,Option.isSome_map])
 unfold CJ SJ ED;rw[m];change match (Li (Zg h).1.length).find? (λi=>(HB h (Zg h).1 i).isSome)with|Lf=>_|Ld i=>_ at c
 split at c;rename_i b;rw[c,b];rfl;rename_i i b;have f:=(Lm.1 b);have e:(Zg h).1.getD i M∈(Zg h).1:=Bs.2 ⟨i,Lj.1 f.2.1,rfl⟩;obtain⟨k,j⟩:=L5.1 f.1;have d:TN h (Zg h).1 ((Zg h).1.getD i M)=Ld k:=j;have i1:=Z3C (Mf e).1;rw[c,b];simp only[j,Z4k (Mf e).1 (Mf e).2,d,L6,LF];rw[if_neg oq]
def NU(h:Heap)(i:Nat):Tg:=⟨tm 64 [(1,.pt 8001 0 0),(2,.pt 8002 0 0),(12,ZU h.P),(13,int h.P.length),(14,int i)],[(8002,.box 223 [int 0,int 0,u64 0]),(8001,.box 28 h.cells)],60⟩
def Db(f:Ci):Tg:=⟨tm 64 [(2,.pt 8002 0 0)],[(8002,.box 223 [int f.fault,int f.page,u64 f.addr])],64⟩
section
variable (h:Heap) (i:Nat) (hw:Zx h.W) (a:Z8 h=O) (b:i<h.P.length)
include hw a b
theorem ZiL(e:Ei h i (CI h i)=0):C5 (BV h i)=-1:=by by_cases c:Gq (BV h i)<(BV h i).length;have h1:=Z7h a b c;have h2:=(Z33 a b).1;omega;exact if_neg c
theorem Za8(e:¬ Ei h i (CI h i)=0):0<=C5 (BV h i)/\C5 (BV h i)<=64/\Ei h i (CI h i)=(address h.C i 0).1+C5 (BV h i):=by have po:=B1 a;by_cases c:Gq (BV h i)<(BV h i).length;have d:=Z7h a b c;have f:C5 (BV h i)=Gq (BV h i):=if_pos c;have g:=OD a b (o:=0) oq;have h4:=(Z2D a b).1;rw[d,f,g];omega;exact absurd (ZbA a b c) e
theorem Z8t(c:(h.P.getD i M).K=0\/(h.P.getD i M).S=h.S)(n2:(Zd h (i:Int)).2=0)(e:Cq h (i:Int) (Zd h (i:Int)).1=0)(f:Ei h i (CI h i)=0):CP (Zo f206 0) (NU h i).st .nrm (NU h (i+1)).st:=by have po:=B1 a;have hn:=Nw h (i:Int);have hr:=Az a (i:Int);have d:=Z3m a b;rw[e]at d;have q4:=ZiL h i hw a b f;simp only[ne_eq,not_true_eq_false,decide_false]at d;rcases c with c|c;exact sF [] [] (Fh 48 [.br Lb] (Fh 58 [.br Lb] (Ftb 15 (Lc ((i:Int)<(h.P.length:Int))) (Fek 17 Z0.dv h.P (↑i) i (Ffb 28 ((h.P.getD i M).K != 0&&(h.P.getD i M).S != h.S) (Fc 34 (@Ns h ((i:Int)) aa oq) (Ffb 38 ((Zd h (i:Int)).2 != 0) (Fc 45 (@Du h ((i:Int)) ((Zd h (i:Int)).1) aa oq oq oq aa) (Fa ‹G6 h (i:Int) (Zd h (i:Int)).1=Lb› (Fc 55 (@Z0q h i aa aa aa) (Fb (Lc (0<=C5 (BV h i))=Lb) (Fx 62 i Fz))))))))))));exact sF [] [] (Fh 48 [.br Lb] (Fh 58 [.br Lb] (Ftb 15 (Lc ((i:Int)<(h.P.length:Int))) (Fek 17 Z0.dv h.P (↑i) i (Ffb 28 ((h.P.getD i M).K != 0&&(h.P.getD i M).S != h.S) (Fc 34 (@Ns h ((i:Int)) aa oq) (Ffb 38 ((Zd h (i:Int)).2 != 0) (Fc 45 (@Du h ((i:Int)) ((Zd h (i:Int)).1) aa oq oq oq aa) (Fa ‹G6 h (i:Int) (Zd h (i:Int)).1=Lb› (Fc 55 (@Z0q h i aa aa aa) (Fb (Lc (0<=C5 (BV h i))=Lb) (Fx 62 i Fz))))))))))))
theorem ZdY(c:¬ (h.P.getD i M).K=0/\¬ (h.P.getD i M).S=h.S):CP (Zo f206 0) (NU h i).st .ret (Db ⟨2,i,0⟩).st:=by have po:=B1 a;obtain⟨c,n2⟩:=c;exact sF [] [] (Ftb 15 (Lc ((i:Int)<(h.P.length:Int))) (Fek 17 Z0.dv h.P (↑i) i (Ftb 28 ((h.P.getD i M).K != 0&&(h.P.getD i M).S != h.S) Fz)))
theorem ZgO(c:(h.P.getD i M).K=0\/(h.P.getD i M).S=h.S)(n2:¬ (Zd h (i:Int)).2=0):CP (Zo f206 0) (NU h i).st .ret (Db ⟨3,i,0⟩).st:=by have po:=B1 a;rcases c with c|c;exact sF [] [] (Ftb 15 (Lc ((i:Int)<(h.P.length:Int))) (Fek 17 Z0.dv h.P (↑i) i (Ffb 28 ((h.P.getD i M).K != 0&&(h.P.getD i M).S != h.S) (Fc 34 (@Ns h ((i:Int)) aa oq) (Ftb 38 ((Zd h (i:Int)).2 != 0) Fz)))));exact sF [] [] (Ftb 15 (Lc ((i:Int)<(h.P.length:Int))) (Fek 17 Z0.dv h.P (↑i) i (Ffb 28 ((h.P.getD i M).K != 0&&(h.P.getD i M).S != h.S) (Fc 34 (@Ns h ((i:Int)) aa oq) (Ftb 38 ((Zd h (i:Int)).2 != 0) Fz)))))
theorem Zfy(c:(h.P.getD i M).K=0\/(h.P.getD i M).S=h.S)(n2:(Zd h (i:Int)).2=0)(d:¬ Cq h (i:Int) (Zd h (i:Int)).1=0):CP (Zo f206 0) (NU h i).st .ret (Db ⟨5,i,Cq h (i:Int) (Zd h (i:Int)).1⟩).st:=by
 have po:=B1 a;have hn:=Nw h (i:Int);have hr:=Az a (i:Int);have q3:G6 h i (Zd h i).1=O:=by rw[Z3m a b];simpa using d
 rcases c with c|c;exact sF [] [] (Fh 48 [.br O] (Ftb 15 (Lc ((i:Int)<(h.P.length:Int))) (Fek 17 Z0.dv h.P (↑i) i (Ffb 28 ((h.P.getD i M).K != 0&&(h.P.getD i M).S != h.S) (Fc 34 (@Ns h ((i:Int)) aa oq) (Ffb 38 ((Zd h (i:Int)).2 != 0) (Fc 45 (@Du h ((i:Int)) ((Zd h (i:Int)).1) aa oq oq oq aa) (Fa ‹G6 h (i:Int) (Zd h (i:Int)).1=O› Fz))))))));exact sF [] [] (Fh 48 [.br O] (Ftb 15 (Lc ((i:Int)<(h.P.length:Int))) (Fek 17 Z0.dv h.P (↑i) i (Ffb 28 ((h.P.getD i M).K != 0&&(h.P.getD i M).S != h.S) (Fc 34 (@Ns h ((i:Int)) aa oq) (Ffb 38 ((Zd h (i:Int)).2 != 0) (Fc 45 (@Du h ((i:Int)) ((Zd h (i:Int)).1) aa oq oq oq aa) (Fa ‹G6 h (i:Int) (Zd h (i:Int)).1=O› Fz))))))))
theorem Zj6(c:(h.P.getD i M).K=0\/(h.P.getD i M).S=h.S)(n2:(Zd h (i:Int)).2=0)(f:Cq h (i:Int) (Zd h (i:Int)).1=0)(g:¬ Ei h i (CI h i)=0):CP (Zo f206 0) (NU h i).st .ret (Db ⟨4,i,Ei h i (CI h i)⟩).st:=by
 have po:=B1 a;have hn:=Nw h (i:Int);have hr:=Az a (i:Int);have d:=Z3m a b;rw[f]at d;simp only[ne_eq,not_true_eq_false,decide_false]at d;obtain⟨q4,q5,j⟩:=Za8 h i hw a b g;have e:max (C5 (BV h i)) 0=C5 (BV h i):=by omega
 rw[j];rcases c with c|c;exact sF [] (fO 6) (Fh 48 [.br Lb] (Fh 58 [.br O] (Ftb 15 (Lc ((i:Int)<(h.P.length:Int))) (Fek 17 Z0.dv h.P (↑i) i (Ffb 28 ((h.P.getD i M).K != 0&&(h.P.getD i M).S != h.S) (Fc 34 (@Ns h ((i:Int)) aa oq) (Ffb 38 ((Zd h (i:Int)).2 != 0) (Fc 45 (@Du h ((i:Int)) ((Zd h (i:Int)).1) aa oq oq oq aa) (Fa ‹G6 h (i:Int) (Zd h (i:Int)).1=Lb› (Fc 55 (@Z0q h i aa aa aa) (Fb (Lc (0<=C5 (BV h i))=O) (Fr (223:Int) (Fr (4:Int) (Fr (i:Int) (Fa (by rw[e]:(address h.C (i:Int) 0).1+max (C5 (BV h i)) 0=(Ci.mk 4 (i:Int) ((address h.C (i:Int) 0).1+C5 (BV h i))).addr) Fz)))))))))))))));exact sF [] (fO 6) (Fh 48 [.br Lb] (Fh 58 [.br O] (Ftb 15 (Lc ((i:Int)<(h.P.length:Int))) (Fek 17 Z0.dv h.P (↑i) i (Ffb 28 ((h.P.getD i M).K != 0&&(h.P.getD i M).S != h.S) (Fc 34 (@Ns h ((i:Int)) aa oq) (Ffb 38 ((Zd h (i:Int)).2 != 0) (Fc 45 (@Du h ((i:Int)) ((Zd h (i:Int)).1) aa oq oq oq aa) (Fa ‹G6 h (i:Int) (Zd h (i:Int)).1=Lb› (Fc 55 (@Z0q h i aa aa aa) (Fb (Lc (0<=C5 (BV h i))=O) (Fr (223:Int) (Fr (4:Int) (Fr (i:Int) (Fa (by rw[e]:(address h.C (i:Int) 0).1+max (C5 (BV h i)) 0=(Ci.mk 4 (i:Int) ((address h.C (i:Int) 0).1+C5 (BV h i))).addr) Fz)))))))))))))))
end
def ZcI(h:Heap):CP (Zo f206 0) (NU h h.P.length).st (.ext 0) (Db ⟨0,0,0⟩).st:=by exact sF [] [] (Ffb 15 (Lc ((h.P.length:Int)<(h.P.length:Int))) Fz)
def CG(h:Heap):Ci:=match Gu h with|Ld i=>pageF h i|Lf=>⟨0,0,0⟩
def Z4I{h i}(e:(pageF h i).fault=0):((h.P.getD i M).K=0\/(h.P.getD i M).S=h.S)/\(Zd h (i:Int)).2=0/\Cq h (i:Int) (Zd h (i:Int)).1=0/\Ei h i (CI h i)=0:=by unfold pageF at e;split at e;simp at e;rename_i a;split at e;simp at e;rename_i b;split at e;simp at e;rename_i c;split at e;simp at e;rename_i d;refine⟨?_,Lk.1 b,Lk.1 c,Lk.1 d⟩;by_cases q:(h.P.getD i M).K=0;exact .inl q;refine .inr (Lk.1 λf=>a ⟨q,f⟩)
def Zac(h:Heap)(i:Nat)(hw:Zx h.W)(f:Z8 h=O)(d:i<h.P.length)(e:(pageF h i).fault≠0):CP (Zo f206 0) (NU h i).st .ret (Db (pageF h i)).st:=by
 unfold pageF at e⊢;split;rename_i b;exact ZdY h i hw f d b;rename_i b;have j:(h.P.getD i M).K=0\/(h.P.getD i M).S=h.S:=by(by_cases q:(h.P.getD i M).K=0;exact .inl q;exact .inr (Lk.1 λk=>b ⟨q,k⟩))
 split;rename_i a;exact ZgO h i hw f d j a;rename_i a;split;rename_i c;exact Zfy h i hw f d j (Lk.1 a) c;rename_i c;split;rename_i g;exact Zj6 h i hw f d j (Lk.1 a) (Lk.1 c) g;rename_i g;rw[if_neg b,if_neg a,if_neg c,if_neg g]at e;exact absurd rfl e
def ZjR(h:Heap)(hw:Zx h.W)(c:Z8 h=O)(b:Gu h=Lf):CP (Zk f206 0) (NU h 0).st .nrm (Tg.st ⟨tm 64 [(2,.pt 8002 0 0)],[(8002,.box 223 [int 0,int 0,u64 0])],64⟩):=by refine Bw (S:=λk=>(NU h k).st) h.P.length kr (λk a=>?_) (ZcI h);have e:=Ln.1 b k (Lj.2 a);obtain⟨d,f,g,j⟩:=Z4I (h:=h) (i:=k) (by simpa using e);exact Z8t h k hw c a d f g j
def Zh6(h:Heap) i(hw:Zx h.W)(b:Z8 h=O)(f:Gu h=Ld i):CP (Zk f206 0) (Tg.st ⟨tm 64 [(1,.pt 8001 0 0),(2,.pt 8002 0 0),(12,ZU h.P),(13,int h.P.length),(14,int 0)],[(8002,.box 223 [int 0,int 0,u64 0]),(8001,.box 28 h.cells)],60⟩) .ret (Tg.st ⟨tm 64 [(2,.pt 8002 0 0)],[(8002,.box 223 [int (pageF h i).fault,int (pageF h i).page,u64 (pageF h i).addr])],64⟩):=by obtain⟨c,a,d⟩:=Lm.1 f;have a:=Lj.1 a;refine G5 (S:=λk=>(NU h k).st) i kr (λk g=>?_) (Zac h i hw b a (by simpa using c));have e:=d k g;obtain⟨j,l,m,n⟩:=Z4I (h:=h) (i:=k) (by simpa using e);exact Z8t h k hw b oq j l m n
def Z09(h:Heap)(hw:Zx h.W)(b:Z8 h=O):GP 206 [h.av] O (CG h).av []:=by
 have po:=B1 b;cases hf:Gu h with
 |none =>
  have a:CG h=⟨0,0,0⟩:=by simp only[CG,hf]
  rw[a];exact gF [] func206 [] (Fl 13 Z0.dv h.P (Fu (@ZjR h aa aa aa) Fz))
 |some i =>
  have a:CG h=pageF h i:=by simp only[CG,hf]
  rw[a];exact gF [] func206 [] (Fl 13 Z0.dv h.P (Fu (@Zh6 h i aa aa aa) Fz))
def ZiD(h:Heap)(hw:Zx h.W)(hp:Z8 h=Lb):GP 171 [h.av] O (Ci.av ⟨1,0,0⟩) []:=by exact gF [] func171 [] (Fc 9 (@Es h) (Ftb 10 (!Z8 h) Fz))
def ZcV(h:Heap)(hw:Zx h.W)(d:Z8 h=O) i(a:Gu h=Ld i):GP 171 [h.av] O (pageF h i).av []:=by
 have po:=B1 d;have b:CG h=pageF h i:=by simp only[CG,a]
 have c:¬ (pageF h i).fault=0:=by simpa using (Lm.1 a).1
 rw[<-b]at c⊢;exact gF [] func171 [] (Fc 9 (@Es h) (Ffb 10 (!Z8 h) (Fc 13 (@Z09 h aa aa) (Ftb 16 (!((CG h).fault==0&&((CG h).page==0&&(CG h).addr==0))) Fz))))
def Zb4(h:Heap)(hw:Zx h.W)(c:Z8 h=O)(b:Gu h=Lf)(hq:¬ (CJ h).fault=0):GP 171 [h.av] O (CJ h).av []:=by
 have po:=B1 c;have a:CG h=⟨0,0,0⟩:=by simp only[CG,b]
 have q1:(CG h).fault=0:=by rw[a]
 have q2:(CG h).page=0:=by rw[a]
 have q3:(CG h).addr=0:=by rw[a]
 exact gF [] func171 [] (Fc 9 (@Es h) (Ffb 10 (!Z8 h) (Fc 13 (@Z09 h aa aa) (Ffb 16 (!((CG h).fault==0&&((CG h).page==0&&(CG h).addr==0))) (Fc 19 (@Z2P h aa oq) (Ftb 22 (!((CJ h).fault==0&&((CJ h).page==0&&(CJ h).addr==0))) Fz))))))
def R3(h:Heap)(i:Nat):Tg:=⟨tm 50 [(1,.pt 8001 0 0),(2,.pt 8002 0 0),(5,int (Bd h.P i)),(25,ZU h.P),(26,int h.P.length),(27,int i)],[(8002,.box 223 [int 0,int 0,u64 0]),(8001,.box 28 h.cells)],60⟩
def ZiN(h:Heap)(i:Nat)(c:Z8 h=O)(hi:i<h.P.length):CP (Zo f171 0) (R3 h i).st .nrm (R3 h (i+1)).st:=by
 have po:=B1 c;have:=Nl h.P i;by_cases a:(h.P.getD i M).K=1;by_cases b:0<(h.P.getD i M).N;have e:Bd h.P (i+1)=Bd h.P i+1:=by rw[Bd,if_pos ⟨a,b⟩]
 rw[R3,R3,e];exact sF [] [] (Ftb 28 (Lc ((i:Int)<(h.P.length:Int))) (Fek 29 Z0.dv h.P (↑i) i (Ftb 38 ((h.P.getD i M).K==1&&Lc (0<(h.P.getD i M).N)) (Fw 40 ((↑(Bd h.P i):Int)+1) (↑(Bd h.P i+1):Int) (Fx 41 i Fz)))));have e:Bd h.P (i+1)=Bd h.P i:=by rw[Bd,if_neg (λq=>b q.2)];rfl
 rw[R3,R3,e];exact sF [] [] (Ftb 28 (Lc ((i:Int)<(h.P.length:Int))) (Fek 29 Z0.dv h.P (↑i) i (Ffb 38 ((h.P.getD i M).K==1&&Lc (0<(h.P.getD i M).N)) (Fx 41 i Fz))));have e:Bd h.P (i+1)=Bd h.P i:=by rw[Bd,if_neg (λq=>a q.1)];rfl
 rw[R3,R3,e];exact sF [] [] (Ftb 28 (Lc ((i:Int)<(h.P.length:Int))) (Fek 29 Z0.dv h.P (↑i) i (Ffb 38 ((h.P.getD i M).K==1&&Lc (0<(h.P.getD i M).N)) (Fx 41 i Fz))))
def Zaa(h:Heap):CP (Zo f171 0) (R3 h h.P.length).st (.ext 0) (Tg.st ⟨tm 50 [(1,.pt 8001 0 0),(2,.pt 8002 0 0),(5,int (Bd h.P h.P.length))],[(8002,.box 223 [int 0,int 0,u64 0]),(8001,.box 28 h.cells)],64⟩):=by exact sF [] [] (Ffb 28 (Lc ((h.P.length:Int)<(h.P.length:Int))) Fz)
def Z5q(h:Heap)(b:Z8 h=O)  := Bw (S:=λi=>(R3 h i).st) h.P.length (by kernel_rfl) (λi a=>ZiN h i b a) (Zaa h)
def Zaq(h:Heap)(hw:Zx h.W)(f:Z8 h=O)(e:Gu h=Lf)(c:(CJ h).fault=0)(hc:h.C.pg/4<(Bd h.P h.P.length:Nat)):GP 171 [h.av] O (Ci.av ⟨7,0,0⟩) []:=by
 have po:=B1 f;have cl:=Nl h.P h.P.length;have a:CG h=⟨0,0,0⟩:=by simp only[CG,e]
 have q1:(CG h).fault=0:=by rw[a]
 have q2:(CG h).page=0:=by rw[a]
 have q3:(CG h).addr=0:=by rw[a]
 have b:CJ h=⟨0,0,0⟩:=by(unfold CJ at c⊢;split at c;rename_i d;rw[if_pos d];simp at c)
 have q4:(CJ h).fault=0:=by rw[b]
 have q5:(CJ h).page=0:=by rw[b]
 have q6:(CJ h).addr=0:=by rw[b]
 exact gF [] func171 [] (Fc 9 (@Es h) (Ffb 10 (!Z8 h) (Fc 13 (@Z09 h aa aa) (Ffb 16 (!((CG h).fault==0&&((CG h).page==0&&(CG h).addr==0))) (Fc 19 (@Z2P h aa oq) (Ffb 22 (!((CJ h).fault==0&&((CJ h).page==0&&(CJ h).addr==0))) (Fl 26 Z0.dv h.P (Fu (@Z5q h aa) (Fg 46 (by rw[Ly oq,CY oq oq]:Lp.wrap (h.C.pg.tdiv 4)=h.C.pg/4) (Fa (by decide:(4:Int)≠0) (Ftb 47 (Lc (h.C.pg/4<(↑(Bd h.P h.P.length):Int))) Fz)))))))))))
def ZiM(h:Heap)(hw:Zx h.W)(f:Z8 h=O)(e:Gu h=Lf)(c:(CJ h).fault=0)(hc:¬ h.C.pg/4<(Bd h.P h.P.length:Nat)):GP 171 [h.av] O (Ci.av ⟨0,0,0⟩) []:=by
 have po:=B1 f;have cl:=Nl h.P h.P.length;have a:CG h=⟨0,0,0⟩:=by simp only[CG,e]
 have q1:(CG h).fault=0:=by rw[a]
 have q2:(CG h).page=0:=by rw[a]
 have q3:(CG h).addr=0:=by rw[a]
 have b:CJ h=⟨0,0,0⟩:=by(unfold CJ at c⊢;split at c;rename_i d;rw[if_pos d];simp at c)
 have q4:(CJ h).fault=0:=by rw[b]
 have q5:(CJ h).page=0:=by rw[b]
 have q6:(CJ h).addr=0:=by rw[b]
 exact gF [] func171 [] (Fc 9 (@Es h) (Ffb 10 (!Z8 h) (Fc 13 (@Z09 h aa aa) (Ffb 16 (!((CG h).fault==0&&((CG h).page==0&&(CG h).addr==0))) (Fc 19 (@Z2P h aa oq) (Ffb 22 (!((CJ h).fault==0&&((CJ h).page==0&&(CJ h).addr==0))) (Fl 26 Z0.dv h.P (Fu (@Z5q h aa) (Fg 46 (by rw[Ly oq,CY oq oq]:Lp.wrap (h.C.pg.tdiv 4)=h.C.pg/4) (Fa (by decide:(4:Int)≠0) (Ffb 47 (Lc (h.C.pg/4<(↑(Bd h.P h.P.length):Int))) Fz)))))))))))
def Zhf(h:Heap)(hw:Zx h.W):GP 171 [h.av] O (Bh h).av []:=by
 have d:=ZbV h;unfold Bh;rw[<-d];by_cases a:Z8 h=O;rw[if_pos a];cases hb:Gu h with|some i=>exact ZcV h hw a i hb|none =>by_cases b:(CJ h).fault=0;simp only[b,ne_eq,not_true_eq_false,if_false];by_cases c:h.C.pg/4<(Bd h.P h.P.length:Nat);rw[if_pos c];exact Zaq h hw a hb b c;rw[if_neg c];exact ZiM h hw a hb b c;simp only[ne_eq,b,not_false_eq_true,if_true];exact Zb4 h hw a hb b
 rw[if_neg a];exact ZiD h hw (by simpa using a)
def Zfw(h:Heap):((Bh h).fault==0&&((Bh h).page==0&&(Bh h).addr==0))=Lc (Bh h=⟨0,0,0⟩):=by
 cases Bh h with|mk a b c=>by_cases d:a=0<;>by_cases e:b=0<;>by_cases f:c=0<;>simp[d,e,f]
def Z3f(h:Heap)(hw:Zx h.W):GP 122 [h.av] O (bool (Lc (Bh h=⟨0,0,0⟩))) []:=by have a:=Zfw h;exact gF [] func122 [O] (Fc 4 (@Zhf h aa) (Fa (by exact a:((Bh h).fault==0&&((Bh h).page==0&&(Bh h).addr==0))=Lc (Bh h=Ci.mk 0 0 0)) Fz))
def GA(a:List Int)(r:Int):Bool:=(r != 0)&&!decide (r∈a)
def OH(a:List Int):AV:=.fn 126 [.rp [.sl 1 (a.map wdv)] 0]
def Z3F(a:List Int) r(ha:a.length<=1048576)(hs:a.Pairwise (· < ·)):GP 126 [u64 r,.rp [.sl 1 (a.map wdv)] 0] O (bool (GA a r)) []:=by
 by_cases b:r=0;have e:GA a r=Lb:=by simp[GA,b]
 rw[e];exact gF [] func126 (fO 2) (Fc 9 (@bsearch a r aa aa) (Fa ‹(r != 0&&!decide (r∈a))=Lb› Fz));by_cases c:r∈a;have e:GA a r=Lb:=by simp[GA,c]
 rw[e];exact gF [] func126 (fO 2) (Fc 9 (@bsearch a r aa aa) (Fa ‹(r != 0&&!decide (r∈a))=Lb› Fz));have e:GA a r=O:=by simp[GA,b,c]
 rw[e];exact gF [] func126 (fO 2) (Fc 9 (@bsearch a r aa aa) (Fa ‹(r != 0&&!decide (r∈a))=O› Fz))
def Hn(a l:List Int):Nat:=(l.takeWhile λr=>!GA a r).length
def O7{a l}{m:Nat}(h:m<Hn a l):m<l.length/\GA a (l.getD m M)=Lb:=by obtain⟨b,c⟩:=Af _ _ _ h;refine⟨b, ?_⟩;rw[Ll,Lu b];simpa using c
def Z4N{a l:List Int}(h:Hn a l<l.length):GA a (l.getD (Hn a l) M)=O:=by
 have b:=AA (λr=>!GA a r) l h;have c:l.getD (Hn a l) M=l[(l.takeWhile λr=>!GA a r).length]:=by(rw[Ll,Lu h];rfl)
 rw[c];simpa using b
def Iy(a l:List Int):Int:=if Hn a l<l.length then Hn a l else -1
def Rv(a l:List Int)(i:Nat):Tg:=⟨tm 19 [(0,Z3 l),(1,OH a),(4,int 0),(7,int l.length),(8,int i)],[],60⟩
section
variable (a l:List Int) (i:Nat) (hl:l.length<=1048576) (ha:a.length<=1048576) (hs:a.Pairwise (· < ·)) (hi:i<l.length)
include hl ha hs hi
theorem Z64(e:GA a (l.getD i M)=Lb):CP (Zo f172 0) (Rv a l i).st .nrm (Rv a l (i+1)).st:=by unfold Rv OH;exact sF [] [] (Fh 16 [.call O (Sx.bool (GA a (l.getD i M))) [],.br Lb] (Ftb 9 (Lc ((i:Int)<(l.length:Int))) (Fek 14 wdv l (↑i) i (Fa (@Z3F a (l.getD i M) aa aa) (Fa ‹GA a (l.getD i M)=Lb› (Fx 18 i Fz))))))
theorem Zcq(e:GA a (l.getD i M)=O):CP (Zo f172 0) (Rv a l i).st .ret (Tg.st ⟨tm 19 [(4,int i)],[],60⟩):=by unfold Rv OH;exact sF [] [] (Fh 16 [.call O (Sx.bool (GA a (l.getD i M))) [],.br O] (Ftb 9 (Lc ((i:Int)<(l.length:Int))) (Fek 14 wdv l (↑i) i (Fa (@Z3F a (l.getD i M) aa aa) (Fa ‹GA a (l.getD i M)=O› Fz)))))
end
def Zbn a l:CP (Zo f172 0) (Rv a l l.length).st (.ext 0) (Tg.st ⟨tm 19 [(4,int 0)],[],60⟩):=by unfold Rv OH;exact sF [] [] (Ffb 9 (Lc ((l.length:Int)<(l.length:Int))) Fz)
def ZiP(a l:List Int)(hl:l.length<=1048576)(b:a.length<=1048576)(hs:a.Pairwise (· < ·))(h:¬ Hn a l<l.length)  := Bw (S:=λj=>(Rv a l j).st) l.length (by kernel_rfl) (λj c=>Z64 a l j hl b hs c (O7 (by omega)).2) (Zbn a l)
def ZdR(a l:List Int)(hl:l.length<=1048576)(b:a.length<=1048576)(hs:a.Pairwise (· < ·))(h:Hn a l<l.length)  := G5 (S:=λj=>(Rv a l j).st) (Hn a l) (by kernel_rfl) (λj c=>Z64 a l j hl b hs (by omega) (O7 c).2) (Zcq a l (Hn a l) hl b hs h (Z4N h))
def Zfe(a l:List Int)(hl:l.length<=1048576)(ha:a.length<=1048576)(hs:a.Pairwise (· < ·)):GP 172 [Z3 l,.fn 126 [.rp [.sl 1 (a.map wdv)] 0]] O (int (Iy a l)) []:=by by_cases h:Hn a l<l.length;have b:Iy a l=Hn a l:=if_pos h;rw[b];exact gF [] func172 [] (Fl 7 wdv l (Fu (@ZdR a l aa aa aa aa) Fz));have b:Iy a l=-1:=if_neg h;rw[b];exact gF [] func172 [] (Fl 7 wdv l (Fu (@ZiP a l aa aa aa aa) Fz))
def ZiJ(a l:List Int)(hl:l.length<=1048576)(ha:a.length<=1048576)(hs:a.Pairwise (· < ·)):GP 125 [Z3 l,.fn 126 [.rp [.sl 1 (a.map wdv)] 0]] O (bool (Lc (0<=Iy a l))) []:=by exact gF [] func125 [] (Fc 7 (@Zfe a l aa aa aa) Fz)
def ZbQ(h:Heap) refs(hw:Zx h.W)(hg:¬ Bh h=⟨0,0,0⟩):GP 74 [h.av,Z3 refs] O (bool Lb) []:=by exact gF [] func74 [] (Fc 8 (@Z3f h aa) (Ftb 9 (!decide (Bh h=Ci.mk 0 0 0)) Fz))
def Zis(h:Heap) refs(hw:Zx h.W)(hg:Bh h=⟨0,0,0⟩):Sa prog 4 (Hj f74) (Tg.st ⟨tm 19 [(0,h.av),(1,Z3 refs)],[],1⟩) (Tg.st ⟨tm 19 [(1,Z3 refs),(5,.pt 24005 0 0)],[(24005,.box 25 [Z3 (Zg h).1])],20⟩):=by refine Ar [((8:Nat),[Hint.call O (Sx.bool (Lc (Bh h=Ci.mk (0:Int) (0:Int) (0:Int)))) []]),((9:Nat),[Hint.br Lb]),((12:Nat),[Hint.call O (AV.tu [Z3 (Zg h).1,int (Zg h).2]) []])] [] [] (φ:=GP 122 [h.av] O (Sx.bool (Lc (Bh h=Ci.mk (0:Int) (0:Int) (0:Int)))) []/\(!decide (Bh h=Ci.mk (0:Int) (0:Int) (0:Int)))=Lb/\Lb=Lb/\GP 107 [h.av] O (AV.tu [Z3 (Zg h).1,int (Zg h).2]) []) ?_ kr kr kr kr;exact⟨(@Z3f (h) aa),(by(simp only[bs];omega)),rfl,(@Po (h) aa)⟩
def ZhD(h:Heap)(refs:List Int):((Li refs.length).find? (Ih refs (Zg h).1)).isNone = !decide (0<=Iy (Zg h).1 refs):=by
 have e:∀i,Ih refs (Zg h).1 i=GA (Zg h).1 (refs.getD i M):=by(intro i;unfold Ih GA;generalize refs.getD i M=r;by_cases f:r=0<;>by_cases g:r∈(Zg h).1<;>simp[f,g])
 by_cases a:Hn (Zg h).1 refs<refs.length;have c:Iy (Zg h).1 refs=Hn (Zg h).1 refs:=if_pos a;have d:(Li refs.length).find? (Ih refs (Zg h).1)=Ld (Hn (Zg h).1 refs):=by(rw[Lm];refine⟨by rw[e];exact Z4N a,Lj.2 a,λj b=>?_⟩;rw[e,(O7 b).2];rfl)
 rw[c,d];simp;have c:Iy (Zg h).1 refs=-1:=if_neg a;have d:(Li refs.length).find? (Ih refs (Zg h).1)=Lf:=by(rw[Ln];intro j b;have b:=Lj.1 b;rw[e,(O7 (l:=refs) (m:=j) oq).2];simp)
 rw[c,d];rfl
end Go.Proofs.YtgedmeaemofdkaaGreat
namespace Go.Proofs.YtgedmeaemofdkaaGreat
open Go.Sx Go.RowKit
def Zjs(h:Heap)(refs:List Int)(hw:Zx h.W)(hl:refs.length<=1048576)(l:Bh h=⟨0,0,0⟩):GP 74 [h.av,Z3 refs] O (bool (!decide (0<=Iy (Zg h).1 refs))) []:=by
 intro f u vs w r d;rw[<-callsIn_wide (n:=10)];refine callsIn_of_wp func74 (c:=Hj f74) kr trivial ?_ rfl;have o:vs.size=2:=r;have S0:Sx.Sys G7 u f (tm 19 [(0,h.av),(1,Z3 refs)]) (BW []) 1 {tmps:=vs++Lw (Tryz.f74.ntmps-vs.size) undef,defers:=[]} f:=by(refine⟨_,u,Sx.Inv.empty w (Lo 1),⟨by rw[o];simp[o];kernel_rfl,λk y v s i=>?_,rfl⟩⟩;rw[show tm 19 [(0,h.av),(1,Z3 refs)]=[h.av,Z3 refs]++Le 17 .any from by kernel_rfl,LR]at s;rw[LG]at i;split at s;rename_i hk;rw[if_pos (by rw[r];exact hk)]at i;exact d k y v s i;have:=L0 s;rw[(L1.1 this).2];exact .any _)
 generalize hR:(λe w'=>∃v,e=Ending.returned v/\RB f u O (Sx.bool (!decide (0<=Iy (Zg h).1 refs))) [] v w')=R;generalize hQ:bodyPost prog f74 R=Q;refine Zis h refs hw l 10 Q _ _ _ _ _ S0 ?_;rintro a1 w1 ⟨ρ1,a,j,T1⟩;obtain⟨v5,t5,r5⟩:=T1.at (t:=5) (x:=.pt 24005 0 0) rfl;obtain⟨β,m,n⟩:=j.blk 24005 _ rfl;have z:Zi (λ_=>Lf) w1 (λg=>a g\/β.g=Ld g) (.rp [.sl 1 ((Zg h).1.map wdv)] 0) v5:=Tw m n r5 (λ_ h=>.inl h) (λ_ h=>.inr h);have er:rest prog 10 4 (Hj f74) Q a1 w1=(Code.region 4 (BL f74 4) Lb).wpIn Fence.wide 10 prog (Exit.then (Code.ret.wpIn Fence.wide 10 prog Q) Q) a1 w1:=by kernel_rfl
 rw[er];refine wpIn_region ?_;rw[show Li (BL f74 4).size=[0,1,2,3,4]from by kernel_rfl];have T2:Cw [] (λ_=>Lf) w1 (λg=>a g\/β.g=Ld g) (tm 19 [(1,Z3 refs),(5,.rp [.sl 1 ((Zg h).1.map wdv)] 0)]) a1:=by(have A1:Cw [] ρ1 w1 (λg=>a g\/β.g=Ld g) _ a1:=T1.mono (Sx.Ext.refl _ _) (λ_ h=>.inl h) (λ_ _ h=>h) j.bnd;have A2:=(A1.reSet 5 .any (λv _=>.any v)).pure kr;exact A2.reSet 5 (.rp [.sl 1 ((Zg h).1.map wdv)] 0) (λv i=>by rw[t5]at i;cases i;exact z))
 have S2:Sx.Sys G7 (λg=>a g\/β.g=Ld g) w1 (tm 19 [(1,Z3 refs),(5,.rp [.sl 1 ((Zg h).1.map wdv)] 0)]) (BW []) 20 a1 w1:=by(refine⟨_,_,Sx.Inv.empty ?_ dd,T2⟩;rintro g (l|l);exact j.imb g l;exact j.bnd _ _ g m l)
 generalize hb:Lc (0<=Iy (Zg h).1 refs)=b at hR;have hc:=ZiJ (Zg h).1 refs hl (by have:=SF h;omega) (Z41 h);rw[hb]at hc;refine MC (ro:=Lf) (hints:=[(17,[Hint.call O (Sx.bool b) []])]) (out:=⟨((((tm 19 [(1,Z3 refs),(5,.rp [.sl 1 ((Zg h).1.map wdv)] 0)]).set 15 (Z3 refs)).set 16 (.fn 126 [.rp [.sl 1 ((Zg h).1.map wdv)] 0])).set 17 (Sx.bool b)).set 18 (Sx.bool (!b)) |>.set 4 (Sx.bool (!b)),BW [],[GP 125 [Z3 refs,.fn 126 [.rp [.sl 1 ((Zg h).1.map wdv)] 0]] O (Sx.bool b) []],[]⟩) kr S2 hc (λp hp=>by simp at hp) ?_;rintro a3 w3 ⟨ρ3,a0,I3,T3⟩;refine wpIn_ret ?_;show Q .ret a3 w3;rw[<-hQ];refine bodyPost_ret (results_tmp rfl _ _ _) T3.defers ?_;rw[<-hR];have r4:a3.tmps.getD 4 undef=.bool (!b):=C0 (E4 T3 (.tmp 4));rw[r4];exact⟨_,rfl,Ry j.kept.no I3.kept (λ_ h=>(Sx.OwA.no h).elim),λ_=>Lf,λ_=>False,λ_ q=>q.elim,λ_ q=>q.elim,λ_ _ _ q=>(by cases q),λ_ _ _ _ _ q=>(by cases q),λ_ _ q=>(by cases q),λk B q=>by simp at q,.d (.sc _ rfl)⟩
def Zj4(h:Heap)(refs:List Int)(hw:Zx h.W)(hl:refs.length<=1048576):GP 74 [h.av,Z3 refs] O (bool (BA h refs)) []:=by
 by_cases a:Bh h=⟨0,0,0⟩;have e:BA h refs = !decide (0<=Iy (Zg h).1 refs):=by(unfold BA;rw[ZhD,a];simp)
 rw[e];exact Zjs h refs hw hl a;have e:BA h refs=Lb:=by simp[BA,a]
 rw[e];exact ZbQ h refs hw a
end Go.Proofs.YtgedmeaemofdkaaGreat
namespace Go.Proofs.YtgedmeaemofdkaaGreat
open Go.Sx
def Z3G{h:Heap}(a:∀i:Nat,i<h.P.length->(Zd h (i:Int)).2=0):∀(f i:Nat),i+f=h.P.length->(Co h f i).2=0
 |0,_,_=>rfl
 |f+1,i,hf=>by
  have b:=Z3G a f (i+1) oq;unfold Co;rw[a i oq,b];rfl
def ZjB{h:Heap}(a:Bh h=⟨0,0,0⟩):(Zg h).2=0:=by
 have e:Z8 h=O:=by(by_cases q:Z8 h=O;exact q;rw[Bh,if_neg q]at a;cases a)
 rw[Bh,if_pos e]at a;have c:∀i,i<h.P.length->(pageF h i).fault=0:=by
  intro i b;cases hb:Gu h with|some j =>rw[hb]at a;simp only at a;have:=List.find?_some hb;rw[a]at this;simp at this|none =>have:=Ln.1 hb i (Lj.2 b);simpa using this
 have d:∀i:Nat,i<h.P.length->(Zd h (i:Int)).2=0:=by(intro i b;have q:=c i b;unfold pageF at q;split at q;simp at q;split at q;simp at q;rename_i c2;simpa using c2)
 unfold Zg;rw[CC,if_pos e];exact Z3G d h.P.length 0 oq
def Sk(h:Heap)(l:List Z0):List (Nat×Z4):=[(8001,.box 28 [int h.C.pw,int h.C.pg,.ow 49027,.ow 49030,int h.S,int h.B]),(49030,.arr 86 4 (l.map Z0.dv)),(49027,.arr 35 1 (h.W.map wdv)),(8002,.box 127 zW)]
def Mr(h:Heap)(a:List Int)(i:Nat):Tg:=⟨tm 61 [(1,.pt 8001 0 0),(2,.pt 8002 0 0),(3,int 0),(4,Z3 a),(34,.ow 49030),(35,int h.P.length),(36,int i)],Sk h (Zv (Zq (1-h.S)) h.P i),8⟩
section
variable (h:Heap) (a:List Int) (hs:h.S=0\/h.S=1) (hl:h.P.length<=1048576)
include hs hl
theorem ZjQ(i:Nat)(q:i<h.P.length):CP (Zo f73 0) (Mr h a i).st .nrm (Mr h a (i+1)).st:=by have m:=OR (Zq (1-h.S)) h.P (Lo i) M;have hn:=SC (Zq (1-h.S)) h.P i;by_cases g:(h.P.getD i M).K=1/\0<(h.P.getD i M).N;have j:=Ps (Zq (1-h.S)) h.P q M;rw[show Zq (1-h.S) (h.P.getD i M)=⟨(h.P.getD i M).K,1-h.S,(h.P.getD i M).U,(h.P.getD i M).N⟩ by rw[Zq,if_pos g],<-m]at j;rw[<-m]at g;have o {h_ c_ p_} (n:Fq h_ c_ p_):=Ftb 37 (Lc ((i:Int)<(h.P.length:Int))) (Fmq 40 Z0.dv (Zv (Zq (1-h.S)) h.P i) (↑i) n);rcases bb (((Zv (Zq (1-h.S)) h.P i).getD (i:Int).toNat M).K==1&&Lc (0<((Zv (Zq (1-h.S)) h.P i).getD (i:Int).toNat M).N))with hc0|hc0<;>have b:=hc0<;>simp only[bs]at b;obtain⟨c,d⟩:=b;let k:=Zv (Zq (1-h.S)) h.P i;let e:=k.getD (i:Int).toNat M;exact sF [] (fO 11) (o (Ft 48 hc0 (Fi 54 (1-h.S) (Fm0q Z0.dv k (↑i) (FS 10056 Z0.dv k ((i:Int).toNat) (Z0.mk e.K (1-h.S) e.U e.N) (e.dv) (Fx 57 i (Fr (86:Int) (Fa (by refine congrArg _ ?_;exact j:La Z0.dv (k.set (i:Int).toNat (Z0.mk e.K (1-h.S) e.U e.N))=La Z0.dv (Zv (Zq (1-h.S)) h.P (i+1))) Fz))))))));exact sF [] (fO 11) (o (Ff 48 hc0 (Fx 57 i (Fr (86:Int) (Fa (by refine congrArg _ ?_;grind[]:La Z0.dv (Zv (Zq (1-h.S)) h.P i)=La Z0.dv (Zv (Zq (1-h.S)) h.P (i+1))) Fz)))));have j:=Z1m (Zq (1-h.S)) h.P q M (by rw[Zq,if_neg g]);rw[<-m]at g;have p {h_ c_ p_} (n:Fq h_ c_ p_):=Ftb 37 (Lc ((i:Int)<(h.P.length:Int))) (Fmq 40 Z0.dv (Zv (Zq (1-h.S)) h.P i) (↑i) n);rcases bb (((Zv (Zq (1-h.S)) h.P i).getD (i:Int).toNat M).K==1&&Lc (0<((Zv (Zq (1-h.S)) h.P i).getD (i:Int).toNat M).N))with hc0|hc0<;>have b:=hc0<;>simp only[bs]at b;obtain⟨c,d⟩:=b;let l:=Zv (Zq (1-h.S)) h.P i;let f:=l.getD (i:Int).toNat M;exact sF [] (fO 11) (p (Ft 48 hc0 (Fi 54 (1-h.S) (Fm0q Z0.dv l (↑i) (FS 10056 Z0.dv l ((i:Int).toNat) (Z0.mk f.K (1-h.S) f.U f.N) (f.dv) (Fx 57 i (Fr (86:Int) (Fa (by refine congrArg _ ?_;grind[]:La Z0.dv (l.set (i:Int).toNat (Z0.mk f.K (1-h.S) f.U f.N))=La Z0.dv (Zv (Zq (1-h.S)) h.P (i+1))) Fz))))))));exact sF [] (fO 11) (p (Ff 48 hc0 (Fx 57 i (Fr (86:Int) (Fa (by refine congrArg _ ?_;exact j:La Z0.dv (Zv (Zq (1-h.S)) h.P i)=La Z0.dv (Zv (Zq (1-h.S)) h.P (i+1))) Fz)))))
omit hs hl in
theorem Zeb:CP (Zo f73 0) (Mr h a h.P.length).st (.ext 0) (Tg.st ⟨tm 61 [(1,.pt 8001 0 0),(2,.pt 8002 0 0),(3,int 0),(4,Z3 a)],Sk h (h.P.map (Zq (1-h.S))),8⟩):=by have hq:=Z0j (Zq (1-h.S)) h.P;have hn:=SC (Zq (1-h.S)) h.P h.P.length;exact sF [] (fO 5) (Ffb 37 (Lc ((h.P.length:Int)<(h.P.length:Int))) (Fr (86:Int) (Fa (by refine congrArg _ ?_;assumption:La Z0.dv (Zv (Zq (1-h.S)) h.P h.P.length)=La Z0.dv (La (Zq (1-h.S)) h.P)) Fz)))
theorem ZjF:CP (Zk f73 0) (Tg.st ⟨tm 61 [(1,.pt 8001 0 0),(2,.pt 8002 0 0),(3,int 0),(4,Z3 a),(34,.ow 49030),(35,int h.P.length),(36,int 0)],Sk h h.P,8⟩) .nrm (Tg.st ⟨tm 61 [(1,.pt 8001 0 0),(2,.pt 8002 0 0),(3,int 0),(4,Z3 a)],Sk h (h.P.map (Zq (1-h.S))),8⟩):=by have:=Bw (S:=λk=>(Mr h a k).st) h.P.length kr (λk b=>ZjQ h a hs hl k b) (Zeb h a);simp only[Mr,Z89]at this;exact this
end
def Zff(h:Heap)(hw:Zx h.W)(c:Z8 h=O)(a:Bh h=⟨0,0,0⟩):GP 73 [h.av] Lb (.tu [(Zr h).av,int 0]) []:=by have po:=B1 c;have ho:=SF h;have g:=ZjB a;have b:h.P≠[]:=Ae oq;exact gF [] func73 [] (Fc 9 (@Es h) (Ffb 10 (!Z8 h) (Fc 13 (@Z3f h aa) (Ffb 14 (!decide (Bh h=Ci.mk 0 0 0)) (Fc 18 (@Po h aa) (Ffb 22 ((Zg h).2 != 0) (Fc 27 (@TR h.W oq) (Fc 30 (@Z1q h.P oq aa) (Fl 35 Z0.dv h.P (Fu (@ZjF h ((Zg h).1) oq oq) (Fnl (Fnl Fz))))))))))))
section
variable {B:Int} (hB:0<=B) {h:Heap} {T:Nat->List Int} (g:Gd h T) {s k:List Int} (hw:Zx h.W) (hb:∀p∈h.P,p.N<=B) (e1:(rootsF (Zr h) s).2.2=0) (e2:(Bu (rootsF (Zr h) s).1).2=0)(gs:GN h T s) (gk:GN h T k) (sl:s.length<=1000) (kl:k.length<=1000) (ks:Gk k) (rt:Z1J (Zr h) s) (ln:Sz (Zr h)) (al:Z1z (rootsF (Zr h) s).1)
include hB g hw hb e1 e2 gs gk sl kl ks rt ln al
theorem Z9D:Z7W h s k (Zr h) (rootsF (Zr h) s).1 (ZA h s) (Cv h s k) (C4 h s k) (Bz h s k) (rootsF (Zr h) s).2.1 (Eg (ZA h s) k k.length):=by
 have ck:=cOk h s k hw g.p e1 e2;obtain⟨q1,q2,q3,q4,q5⟩:=Pa h s k hw g.p e1 e2;obtain⟨tq,ce,_⟩:=Tr hB g hw hb e1 e2 (k:=k);have ok1:=(RL (roots:=s) (NP hw g.p) (Rc g.p) e1).1;have f2:=ck.w2.fok;refine⟨Zff h hw g.p g.good, ?_, ?_, ?_,ZaY _ k ⟨f2.W,f2.wl,by have:=f2.ql;omega,ck.i2.L,kl,ks,ck.w2.r0.2.2,λx hx=>(gk x hx).imp id λ⟨i,hi,_⟩=>?_⟩, ?_,Zhd _ q1 ⟨q2,q3⟩ q4 q5 ck.h4.2.2.2.2 (ZcS hB g k hw hb e1 e2),sl,kl,ck.f4.tl, ?_⟩
 .have:=Zj4 h (s++k) hw qo;rw[g.refers (λx hx=>(LW.1 hx).elim (gs x) (gk x))]at this;exact this
 .have:=ZdV (Zr h) s rt oq ln;rw[e1]at this;exact this
 .exact Zh1 _ ok1 al
 .have:=Zdr (Cv h s k) (Z62 hB g k hw hb e1 e2).fiOk;rw[Zay hB g k hw hb e1 e2]at this;exact this
 .have sp:=ck.w2.sp;rw[<-ck.h4.2.2.1]at sp;exact sp
 .rw[ce.k.c,g.ofx hi]
theorem Zhy:GP 35 [h.av,Z3 s,Z3 k] Lb (.tu [(collectF h s k).1.av,Z3 (collectF h s k).2.1,Z3 (collectF h s k).2.2.1,.ag (collectF h s k).2.2.2.1.cells,int (collectF h s k).2.2.2.2]) []:=by
 have a:collectF h s k=(Eo (Bz h s k),(rootsF (Zr h) s).2.1,Eg (ZA h s) k k.length,(Bz h s k).rep,0):=by rw[collectF,if_pos g.p,if_pos ⟨g.refers gs,g.refers gk⟩,if_pos e1,if_pos e2]
 rw[a];exact Zc5 (Z9D hB g hw hb e1 e2 gs gk sl kl ks rt ln al)
end
def MP{ρ w Im v}(s:Nat)(h:Zi ρ w Im (.d (.sl 0 [])) v):Zi ρ w Im (.d (.sl s [])) v:=by
 cases h with
 |d h =>
  cases h with|slNil=>exact .d (.slNil _ _ _)|sl _ _ p n c f a=>cases a;exact .d (.slNil _ _ _)
def Z3y:Heap:=⟨⟨32,8⟩,Le 256 0,Le 8 ⟨0,0,0,0⟩,0,-1⟩
def R4:Heap:=⟨⟨32,8⟩,(Le 256 0).set 0 29,[⟨1,0,2,0⟩,⟨0,0,0,0⟩,⟨0,0,0,0⟩,⟨0,0,0,0⟩,⟨0,0,0,0⟩,⟨0,0,0,0⟩,⟨0,0,0,0⟩,⟨0,0,0,0⟩],0,0⟩
def Z8l:ZP []=⟨Z3y,[],[]⟩:=by kernel_rfl
def ZfQ:(⟨Z3y,[],[]⟩:Zj).put ⟨3,1,0⟩=⟨R4,[4096],[]⟩:=by kernel_rfl
def Zeq:Z8 R4=O:=by decide+kernel
def Z9x:Bh R4=⟨0,0,0⟩:=by decide+kernel
def Zk6:Zx R4.W:=by unfold Zx;decide+kernel
def wB0:Z6:=(⟨⟨⟨32,8⟩,(Le 256 0).set 0 29,[⟨1,0,2,0⟩,⟨0,0,0,0⟩,⟨0,0,0,0⟩,⟨0,0,0,0⟩,⟨0,0,0,0⟩,⟨0,0,0,0⟩,⟨0,0,0,0⟩,⟨0,0,0,0⟩],0,0⟩,[4096],[],[],0,⟨0,0,0,0,0,0⟩⟩:Z6)
def Z9P:Zr R4=wB0:=by kernel_rfl
def ZaI:GP 15 [.d (.sl 0 [])] Lb (⟨(⟨⟨32,8⟩,Le 256 0,Le 8 ⟨0,0,0,0⟩,0,-1⟩:Heap),[],[]⟩:Zj).av []:=by have k:=Z4L [] pq;rw[Z8l]at k;intro w d f a b h;refine k w d f a b λi x v c e=>?_;rcases i with _|i;cases c;exact MP 1 (h 0 _ v rfl e);simp at c
def Zfm:GP 58 [.ag [int 32,int 8,.d (.sl 1 ((Le 256 0).map wdv)),.d (.sl 4 ((Le 8 (⟨0,0,0,0⟩:Z0)).map Z0.dv)),int 0,int (-1),.d (.sl 0 []),.d (.sl 0 [])],.ag [int 3,int 1,.d (.sc (.int .u32 0))]] Lb (⟨(⟨⟨32,8⟩,(Le 256 0).set 0 29,[⟨1,0,2,0⟩,⟨0,0,0,0⟩,⟨0,0,0,0⟩,⟨0,0,0,0⟩,⟨0,0,0,0⟩,⟨0,0,0,0⟩,⟨0,0,0,0⟩,⟨0,0,0,0⟩],0,0⟩:Heap),[4096],[]⟩:Zj).av []:=by have j:=D5 [];rw[Z8l]at j;have k:=TQ ⟨Z3y,[],[]⟩ ⟨3,1,0⟩ (j.wm dd) dd;rw[ZfQ]at k;intro w m p e f h;refine k w m p e f λi x v g l=>?_;rcases i with _|_|i;cases g;obtain⟨cs,rfl,n,o,c⟩:=Hr (h 0 _ v rfl l);refine .ag _ _ n o (λi a u b d=>?_);rcases i with _|_|_|_|_|_|_|_|i;cases b;exact c 0 _ u rfl d;cases b;exact c 1 _ u rfl d;cases b;exact c 2 _ u rfl d;cases b;exact c 3 _ u rfl d;cases b;exact c 4 _ u rfl d;cases b;exact c 5 _ u rfl d;cases b;exact MP 1 (c 6 _ u rfl d);cases b;exact MP 1 (c 7 _ u rfl d);cases (show(Lf:Option AV)=Ld a from b);cases g;exact h 1 _ v rfl l;simp at g
def Z6q{B:Int}(hB:0<=B){h:Heap}{T:Nat->List Int}(g:Gd h T)(mv:MV h){s k:List Int}(hw:Zx h.W)(hb:∀p∈h.P,p.N<=B)(gs:GN h T s)(gk:GN h T k)(sl:s.length<=1000)(kl:k.length<=1000)(su:Gk s)(ku:Gk k) :(collectF h s k).2.2.2.2=0/\(collectF h s k).2.1.length=s.length/\(collectF h s k).2.2.1.length=k.length/\GP 35 [h.av,Z3 s,Z3 k] Lb (.tu [(collectF h s k).1.av,Z3 (collectF h s k).2.1,Z3 (collectF h s k).2.2.1,.ag (collectF h s k).2.2.2.1.cells,int (collectF h s k).2.2.2.2]) []:=by
 obtain⟨er,sw⟩:=SW.roots g mv gs hw;have e1:(rootsF (Zr h) s).2.2=0:=by rw[er]
 have e2:=(sw.all g mv).1;have c0:=EZ.begin g hw;have cd:=Zhy hB g hw hb e1 e2 gs gk sl kl ku (c0.rts g su) c0.ck.ln λk _=>⟨(sw.it g mv k).o.c.stp g,((sw.it g mv k).step g mv).1⟩
 have e7:collectF h s k=(Eo (Bz h s k),(rootsF (Zr h) s).2.1,Eg (ZA h s) k k.length,(Bz h s k).rep,0):=by rw[collectF,if_pos g.p,if_pos ⟨g.refers gs,g.refers gk⟩,if_pos e1,if_pos e2]
 refine⟨by rw[e7], ?_,by rw[e7];exact MR _ _ _,cd⟩;rw[e7,er];exact NM _ _ _
def Z6F:Bu wB0=(wB0,0):=by have a:(Li (RG wB0)).find? (Ew wB0)=Ld 0:=Lm.2 ⟨by kernel_rfl,Lj.2 (by unfold RG;omega),λj b=>absurd b (Nat.not_lt_zero j)⟩;unfold Bu;rw[a];show _=_;kernel_rfl
def Zgt:Heap:=⟨⟨32,8⟩,Le 256 0,Le 8 ⟨0,0,0,0⟩,1,-1⟩
def Zi6:collectF R4 [] []=(Zgt,[],[],⟨0,0,0,1,0,0⟩,0):=by
 have a:rootsF (Zr R4) []=(wB0,[],0):=by rw[Z9P];kernel_rfl
 have c2:ZA R4 []=wB0:=by rw[ZA,a,Z6F]
 have b:Bz R4 [] []=⟨⟨⟨32,8⟩,Le 256 0,Le 8 ⟨0,0,0,0⟩,0,0⟩,[4096],[],[],0,⟨0,0,0,1,0,0⟩⟩:=by(unfold Bz C4 Cv;rw[c2];kernel_rfl)
 rw[collectF,if_pos Zeq,if_pos ⟨by decide+kernel,by decide+kernel⟩,if_pos (by rw[a]),if_pos (by rw[a,Z6F]),b,c2,a];show _=_;kernel_rfl
def Zjp:MV R4:=⟨by decide+kernel,1,by decide+kernel⟩
def ZhV:GP 35 [(⟨⟨32,8⟩,(Le 256 0).set 0 29,[⟨1,0,2,0⟩,⟨0,0,0,0⟩,⟨0,0,0,0⟩,⟨0,0,0,0⟩,⟨0,0,0,0⟩,⟨0,0,0,0⟩,⟨0,0,0,0⟩,⟨0,0,0,0⟩],0,0⟩:Heap).av,.d (.sl 0 []),.d (.sl 0 [])] Lb (.tu [(⟨⟨32,8⟩,Le 256 0,Le 8 ⟨0,0,0,0⟩,1,-1⟩:Heap).av,Z3 [],Z3 [],.ag (⟨0,0,0,1,0,0⟩:Rep).cells,int 0]) []:=by have k:=(Z6q (B:=0) (Int.le_refl 0) (Zbz Z9x) Zjp Zk6 (by decide+kernel) (s:=[]) (k:=[]) (λ_ q=>by cases q) (λ_ q=>by cases q) (L4 _) (L4 _) (λ_ q=>by cases q) (λ_ q=>by cases q)).2.2.2;rw[Zi6]at k;intro w e f b c h;refine k w e f b c λi x v a d=>?_;rcases i with _|_|_|i;cases a;exact h 0 _ v rfl d;cases a;exact MP 1 (h 1 _ v rfl d);cases a;exact MP 1 (h 2 _ v rfl d);simp at a
def Zgh:GP 38 [] O (bool O) []:=by exact gF [] func38 [] (Fc 7 (@ZaI) (Fc 11 (@Zfm) (Fc 15 (@ZhV) Fz)))
def GF(w:Zj):Rep:=(collectF w.heap w.G w.E).2.2.2.1
def ZeB{w n}(G:WG w)(a:C2 w n)(k:MV w.heap)(sl:w.G.length<=1000)(wl:w.E.length<=1000):(collectF w.heap w.G w.E).2.2.2.2=0/\w.collect=⟨(collectF w.heap w.G w.E).1,(collectF w.heap w.G w.E).2.1,(collectF w.heap w.G w.E).2.2.1⟩/\w.collect.G.length=w.G.length/\w.collect.E.length=w.E.length /\
  GP 35 [w.heap.av,Z3 w.G,Z3 w.E] Lb (.tu [w.collect.heap.av,Z3 w.collect.G,Z3 w.collect.E,.ag (GF w).cells,int 0]) []:=by
 obtain⟨T,g,d,f⟩:=G;obtain⟨e,i,j,c⟩:=Z6q (B:=n) oq g k a.W (λp h=>(a.pin_mem p h).2) d f sl wl a.G a.E;have b:w.collect=⟨(collectF w.heap w.G w.E).1,(collectF w.heap w.G w.E).2.1,(collectF w.heap w.G w.E).2.2.1⟩:=by rw[Zj.collect,if_pos e]
 rw[e]at c;rw[b];exact⟨e,rfl,i,j,c⟩
def Z14 a:(collectF (ZP a).heap (ZP a).G (ZP a).E).2.2.2.2=0/\(ZP a).collect=⟨(collectF (ZP a).heap (ZP a).G (ZP a).E).1,(collectF (ZP a).heap (ZP a).G (ZP a).E).2.1,(collectF (ZP a).heap (ZP a).G (ZP a).E).2.2.1⟩/\(ZP a).collect.G.length=(ZP a).G.length/\(ZP a).collect.E.length=(ZP a).E.length /\
  GP 35 [(ZP a).heap.av,Z3 (ZP a).G,Z3 (ZP a).E] Lb (.tu [(ZP a).collect.heap.av,Z3 (ZP a).collect.G,Z3 (ZP a).collect.E,.ag (GF (ZP a)).cells,int 0]) []:=ZeB (Z9p a) (D5 a) (Z4P a) (D5 a).sl (D5 a).wl
def Zem a:GP 35 [(ZP a).heap.av,Z3 (ZP a).G,Z3 (ZP a).E] Lb (.tu [(ZP a).collect.heap.av,Z3 (ZP a).collect.G,Z3 (ZP a).collect.E,.ag (GF (ZP a)).cells,int 0]) []:=(Z14 a).2.2.2.2
def Zdf(a:List Int)(h1:a.length<=140737488355328):GP 39 [ZD a] Lb (.tu [(ZP a).av,(ZP a).collect.av,.ag (GF (ZP a)).cells,bool O]) []:=by have b:=D5 a;have sl:=b.sl;have wl:=b.wl;obtain⟨_,_,l1,l2,_⟩:=Z14 a;let c:=(0:Int)==0&&(↑(ZP a).collect.G.length:Int)==(↑(ZP a).G.length:Int);exact gF [] func39 (fO 12) (Fc 13 (@Z4L a aa) (Fc 21 (@Zem a) (FlG 37 ((0:Int)==0) wdv (ZP a).collect.G (FlG 40 ((0:Int)==0) wdv (ZP a).G (FlG 45 c wdv (ZP a).collect.E (FlG 48 c wdv (ZP a).E (Fr ((ZP a).heap.C.pw) (Fr ((ZP a).heap.C.pg) (Fr (La wdv (ZP a).heap.W) (Fr (La Z0.dv (ZP a).heap.P) (Fr ((ZP a).heap.S) (Fr ((ZP a).heap.B) (Fr (La wdv (ZP a).G) (Fr (La wdv (ZP a).E) (Fr ((ZP a).collect.heap.C.pw) (Fr ((ZP a).collect.heap.C.pg) (Fr (La wdv (ZP a).collect.heap.W) (Fr (La Z0.dv (ZP a).collect.heap.P) (Fr ((ZP a).collect.heap.S) (Fr ((ZP a).collect.heap.B) (Fr (La wdv (ZP a).collect.G) (Fr (La wdv (ZP a).collect.E) (Fr ((GF (ZP a)).copied) (Fr ((GF (ZP a)).kept) (Fr ((GF (ZP a)).filled) (Fr ((GF (ZP a)).freed) (Fr ((GF (ZP a)).cleared) (Fr ((GF (ZP a)).steps) (Fb (((↑(ZP a).collect.G.length:Int)==(↑(ZP a).G.length:Int)&&(↑(ZP a).collect.E.length:Int)==(↑(ZP a).E.length:Int))=O) Fz)))))))))))))))))))))))))))))
def BJ(f:Int->Int)(l:List Int)(i:Nat):Int:=((l.take i).map f).sum
def Z3d f{l:List Int}{i:Nat}(a:i<l.length):BJ f l (i+1)=BJ f l i+f (l.getD i M):=by unfold BJ;rw[M1 a,Ls,List.sum_append];simp
def TM{f:Int->Int}{l:List Int}(a:∀x∈l,0<=f x/\f x<=300):∀i,i<=l.length->0<=BJ f l i/\BJ f l i<=300*i
 |0,_=>by simp[BJ]
 |i+1,b=>by
  have ih:=TM a i oq;have h:=a _ (Bs.2 ⟨i,b,rfl⟩);rw[Z3d f b];omega
structure Z9a (w x:Zj) (r:Rep):Prop where
 hw:Zx x.heap.W
 n:(Zg x.heap).2=0
 pl:x.heap.P.length<=64
 wl:w.heap.P.length<=64
 pw:16<=x.heap.C.pw/\x.heap.C.pw<=64
 o:∀a∈(Zg x.heap).1,(0<=a/\a<=8192)/\0<=(Z2 x.heap.C a).1/\(Z2 x.heap.C a).1<x.heap.P.length/\0<=(Zp x.heap a).1.length/\(Zp x.heap a).1.length<=255/\0<=CR x.heap a/\CR x.heap a<=300
 fr:0<=r.freed/\r.freed<=1000
 a:(Bj x.heap.P:Int)<=crowd x.heap.P+BJ (CR x.heap) (Zg x.heap).1 (Zg x.heap).1.length+(4*BJ (C1 x.heap) (Zg x.heap).1 (Zg x.heap).1.length+3*x.heap.C.pw-1)/(3*x.heap.C.pw)
 b:(Bj w.heap.P:Int)-r.freed<=Bj x.heap.P
def Z3R{h a}(hl:0<=(Zp h a).1.length/\(Zp h a).1.length<=255):0<=C1 h a/\C1 h a<=300:=by unfold C1;split;omega;split<;>omega
def roL(x:Zj)(l:List Int)(u:Int)(i:Nat):Tg:=⟨tm 162 [(2,bool Lb),(4,.pt 16004 0 0),(7,int u),(8,int (BJ (C1 x.heap) l i)),(9,int (BJ (CR x.heap) l i)),(10,int 0),(11,Z3 l),(13,int i)],[(16004,.box 30 x.cells)],8⟩
def rpL(x:Zj)(u n m:Int)(i:Nat):Tg:=⟨tm 162 [(2,bool Lb),(4,.pt 16004 0 0),(7,int u),(8,int n),(9,int m),(10,int (Bd x.heap.P i)),(19,int i)],[(16004,.box 30 x.cells)],9⟩
section
variable (x:Zj) (l:List Int) (u:Int) (hw:Zx x.heap.W) (pl:x.heap.P.length<=64) (b:l.length<=16384) (o:∀a∈l,(0<=a/\a<=8192)/\0<=(Z2 x.heap.C a).1/\(Z2 x.heap.C a).1<x.heap.P.length/\0<=(Zp x.heap a).1.length/\(Zp x.heap a).1.length<=255/\0<=CR x.heap a/\CR x.heap a<=300)
include hw pl b o
theorem Zed(i:Nat)(n:i<l.length):CP (Zo f13 0) (roL x l u i).st .nrm (roL x l u (i+1)).st:=by
 have t:=o _ (Bs.2 ⟨i,n,rfl⟩);have r1:=TM (f:=C1 x.heap) (l:=l) (λa k=>Z3R ⟨(o a k).2.2.2.1,(o a k).2.2.2.2.1⟩) i oq;have r2:=TM (f:=CR x.heap) (l:=l) (λa k=>(o a k).2.2.2.2.2) i oq;have gm:=Z0B hw (l.getD i M);clear o;obtain⟨o1,o2,o3,o4,o5,r,s⟩:=t;unfold roL;rw[Z3d _ n,Z3d _ n];by_cases c:(x.heap.P.getD (Z2 x.heap.C (l.getD i M)).1.toNat M).K=2;have h:C1 x.heap (l.getD i M)=0:=by rw[C1,if_pos c]
 have g:CR x.heap (l.getD i M)=need x.heap.C ((Zp x.heap (l.getD i M)).1.length+1):=by rw[CR,if_pos c]
 rw[g]at r s;rw[h,g,Lt];let j:=l.getD i M;let p:=(Zp x.heap j).1.length+1;exact sF [] [] (FN 45 46 54 wdv l i (Fc 56 (@Iz x.heap j aa oq) (Fek 65 wdv l (↑i) i (Fc 67 (@GG x.heap.C j oq oq) (Fe 75 Z0.dv x.heap.P ((Z2 x.heap.C j).1) (Ftb 78 ((x.heap.P.getD (Z2 x.heap.C j).1.toNat M).K==2) (Fi 85 p (Fc 86 (@NR x.heap.C p) (Fi 87 (BJ (CR x.heap) l i+need x.heap.C p) (Fx 48 i Fz))))))))));have g:CR x.heap (l.getD i M)=0:=by rw[CR,if_neg c]
 by_cases d:(x.heap.P.getD (Z2 x.heap.C (l.getD i M)).1.toNat M).N=0;have h:C1 x.heap (l.getD i M)=(Zp x.heap (l.getD i M)).1.length+1:=by rw[C1,if_neg c,if_pos d]
 rw[h,g,Lt];let e:=l.getD i M;let q:=x.heap.P.getD (Z2 x.heap.C e).1.toNat M;exact sF [] (fO 3) (FN 45 46 54 wdv l i (Fc 56 (@Iz x.heap e aa oq) (Fek 65 wdv l (↑i) i (Fc 67 (@GG x.heap.C e oq oq) (Fe 75 Z0.dv x.heap.P ((Z2 x.heap.C e).1) (Ffb 78 (q.K==2) (Fe 92 Z0.dv x.heap.P ((Z2 x.heap.C e).1) (Ftb 95 (q.N==0) (Fi 99 (BJ (C1 x.heap) l i+(Zp x.heap e).1.length) (Fi 100 (BJ (C1 x.heap) l i+(Zp x.heap e).1.length+1) (Fx 48 i (Fo (BJ (C1 x.heap) l i+(Zp x.heap e).1.length+1=BJ (C1 x.heap) l i+((Zp x.heap e).1.length+1)) Fz))))))))))));have h:C1 x.heap (l.getD i M)=0:=by rw[C1,if_neg c,if_neg d]
 rw[h,g,Lt,Lt];let m:=Z2 x.heap.C (l.getD i M);exact sF [] [] (FN 45 46 54 wdv l i (Fc 56 (@Iz x.heap (l.getD i M) aa oq) (Fek 65 wdv l (↑i) i (Fc 67 (@GG x.heap.C (l.getD i M) oq oq) (Fe 75 Z0.dv x.heap.P (m.1) (Ffb 78 ((x.heap.P.getD m.1.toNat M).K==2) (Fe 92 Z0.dv x.heap.P (m.1) (Ffb 95 ((x.heap.P.getD m.1.toNat M).N==0) (Fx 48 i Fz)))))))))
omit hw pl b o in
theorem Zkh:CP (Zo f13 0) (roL x l u l.length).st (.ext 0) (Tg.st ⟨tm 162 [(2,bool Lb),(4,.pt 16004 0 0),(7,int u),(8,int (BJ (C1 x.heap) l l.length)),(9,int (BJ (CR x.heap) l l.length)),(10,int 0)],[(16004,.box 30 x.cells)],8⟩):=by exact sF [] [] (FO 45 46 wdv l Fz)
def ZdH  := Bw (S:=λi=>(roL x l u i).st) l.length (by kernel_rfl) (λi a=>Zed x l u hw pl b o i a) (Zkh x l u)
omit hw b o in
theorem Z9E n m(i:Nat)(hi:i<x.heap.P.length):CP (Zo f13 2) (rpL x u n m i).st .nrm (rpL x u n m (i+1)).st:=by have hc:=Nl x.heap.P i;have e {h_ c_ p_} (f:Fq h_ c_ p_):=FN 105 106 113 Z0.dv x.heap.P i (FeG 122 ((x.heap.P.getD i M).K==1) Z0.dv x.heap.P (↑i) i f);rcases bb ((x.heap.P.getD i M).K==1&&Lc (0<(x.heap.P.getD i M).N))with hc0|hc0<;>have a:=hc0<;>simp only[bs]at a;obtain⟨c,d⟩:=a;exact sF [] (fO 13) (e (Ft 126 hc0 (Fw 128 ((↑(Bd x.heap.P i):Int)+1) (↑(Bd x.heap.P i+1):Int) (Fx 108 i (Fa (by(simp only[Bd] ;exact sj):(↑(Bd x.heap.P i+1):Int)=(↑(Bd x.heap.P (i+1)):Int)) Fz)))));exact sF [] (fO 13) (e (Ff 126 hc0 (Fx 108 i (Fa (by(simp only[Bd] ;exact sj):(↑(Bd x.heap.P i):Int)=(↑(Bd x.heap.P (i+1)):Int)) Fz))))
omit hw pl b o in
theorem Zb6 n m:CP (Zo f13 2) (rpL x u n m x.heap.P.length).st (.ext 2) (Tg.st ⟨tm 162 [(2,bool Lb),(4,.pt 16004 0 0),(7,int u),(8,int n),(9,int m),(10,int (crowd x.heap.P))],[(16004,.box 30 x.cells)],9⟩):=by exact sF [] [] (FO 105 106 Z0.dv x.heap.P Fz)
omit hw b o in
def ZbY(n m:Int)  := Bw (S:=λi=>(rpL x u n m i).st) x.heap.P.length (by kernel_rfl) (λi a=>Z9E x u pl n m i a) (Zb6 x u n m)
end
structure RmC (tape:List Int) (w x:Zj) (r:Rep):Prop where
 d:GP 39 [ZD tape] Lb (.tu [w.av,x.av,.ag r.cells,bool O]) []
 o:Z9a w x r
section
variable {c:List Int} {w x:Zj} {r:Rep} (a:RmC c w x r)
include a
theorem Zgg:GP 39 [ZD c] Lb (.tu [w.av,x.av,.ag r.cells,bool O]) []:=a.d
theorem room:GP 13 [ZD c] O (bool O) []:=by
 obtain⟨hw,n,pl,wl,pw,o,fr,a1,j⟩:=a.o;have ol:=SF x.heap;have i1:Bj w.heap.P<=w.heap.P.length:=Md _ _;have i2:Bj x.heap.P<=x.heap.P.length:=Md _ _;have cl:crowd x.heap.P<=x.heap.P.length:=Nl _ _;have r1:=TM (f:=C1 x.heap) (l:=(Zg x.heap).1) (λa h=>Z3R ⟨(o a h).2.2.2.1,(o a h).2.2.2.2.1⟩) _ (Lo _);have r2:=TM (f:=CR x.heap) (l:=(Zg x.heap).1) (λa h=>(o a h).2.2.2.2.2) _ (Lo _);have q0:=Int.ediv_nonneg (a:=4*BJ (C1 x.heap) (Zg x.heap).1 (Zg x.heap).1.length+3*x.heap.C.pw-1) (b:=3*x.heap.C.pw) oq oq;have q1:=Int.ediv_le_self (a:=4*BJ (C1 x.heap) (Zg x.heap).1 (Zg x.heap).1.length+3*x.heap.C.pw-1) (3*x.heap.C.pw) oq;have m:(Lc ((Bj x.heap.P:Int)<=(crowd x.heap.P:Int)+BJ (CR x.heap) (Zg x.heap).1 (Zg x.heap).1.length+(4*BJ (C1 x.heap) (Zg x.heap).1 (Zg x.heap).1.length+3*x.heap.C.pw-1)/(3*x.heap.C.pw))&&Lc ((Bj w.heap.P:Int)-r.freed<=Bj x.heap.P))=O:=by(rw[decide_eq_true a1,decide_eq_true j];rfl)
 clear a1 j;let g:=4*BJ (C1 x.heap) (Zg x.heap).1 (Zg x.heap).1.length+3*x.heap.C.pw-1;let e:=3*x.heap.C.pw;let k:=(↑(Bj x.heap.P):Int)<=(↑(crowd x.heap.P):Int)+BJ (CR x.heap) (Zg x.heap).1 (Zg x.heap).1.length+g/e;let i:=(↑(Bj w.heap.P):Int)-r.freed;exact gF [] func13 (fO 41) (Fh 150 [.int (g/e)] (Fc 23 (@Zgg c w x r aa) (Fc 33 (@Sg w.heap.P oq) (Fi 36 i (Fc 40 (@DN x.heap aa) (Fu (@ZdH x ((Zg x.heap).1) i aa aa aa aa) (Fu (@ZbY x i aa (BJ (C1 x.heap) (Zg x.heap).1 (Zg x.heap).1.length) (BJ (CR x.heap) (Zg x.heap).1 (Zg x.heap).1.length)) (Fc 133 (@Zgh) (FcG 138 O (λd=>by(try simp only[bs]at d);exact@Sg x.heap.P oq) (FiG 141 O ((↑(crowd x.heap.P):Int)+BJ (CR x.heap) (Zg x.heap).1 (Zg x.heap).1.length) (FiG 143 O (4*BJ (C1 x.heap) (Zg x.heap).1 (Zg x.heap).1.length) (FiG 145 O e (FiG 146 O (4*BJ (C1 x.heap) (Zg x.heap).1 (Zg x.heap).1.length+3*x.heap.C.pw) (FiG 147 O g (FiG 149 O e (Fa (by intro d;(try simp only[bs]at d);rw[Ly oq,CY oq oq]:O=O->Lp.wrap (g.tdiv e)=g/e) (Fa (by intro d;(try simp only[bs]at d);omega:O=O->3*x.heap.C.pw=0->False) (FiG 151 O ((↑(crowd x.heap.P):Int)+BJ (CR x.heap) (Zg x.heap).1 (Zg x.heap).1.length+g/e) (FcG 159 (O&&decide k) (λd=>by(try simp only[bs]at d);exact@Sg x.heap.P oq) (Fa (by exact m:(decide k&&Lc ((↑(Bj w.heap.P):Int)-r.freed<=(↑(Bj x.heap.P):Int)))=O) Fz))))))))))))))))))))
end
def ZcE(tape:List Int):Z9a (ZP tape) (ZP tape).collect (GF (ZP tape)):=by
 have hm:=D5 tape;have hv:=C2.collect hm;have G:=Z9p tape;have G':=WG.collect G hm;have mv:=Z4P tape;obtain⟨e,e7,_⟩:=Z14 tape;generalize ZP tape=w at *;obtain⟨T,g,gs,gk⟩:=G;obtain⟨T',g',_,_⟩:=G';have hb:∀p∈w.heap.P,p.N<=1000:=λp hp=>(hm.pin_mem p hp).2;obtain⟨a1,a2,a3⟩:=Zal (B:=1000) oq g mv hm.W hb gs gk e;obtain⟨tq,l5,ce,on,eh,gd,es,ew,er⟩:=Z5s (B:=1000) oq g mv hm.W hb gs gk e;have hc:(collectF w.heap w.G w.E).1.C=w.heap.C:=by rw[eh];exact ce.k.c
 have eH:w.collect.heap=(collectF w.heap w.G w.E).1:=by rw[e7]
 have cf:=BD.1 hv.hv;have cf0:=BD.1 hm.hv;have pl:=hv.pl;have pl0:=hm.pl;have t1:∀l:List Int,l.take l.length=l:=λl=>L3;rw[<-hc,<-eH]at a1;rw[<-eH]at a2 a3;refine⟨hv.W,g'.objs.1,by omega,by omega,by omega,λa ha=>?_, ?_,by unfold BJ;rw[t1];exact a1,a3⟩
 .obtain⟨i,hi,hk⟩:=(g'.objs.2 a).1 ha;have o:=g'.on hi;have of:=g'.ofx hi;have rg:=Oo _ a ha;have gt:=g'.get hi hk;have hr:=Bm w.collect.heap.W a;have el:(Zp w.collect.heap a).1.length=Zl w.collect.heap.W a:=by rw[gt];rfl
  rw[of,el];refine⟨rg,by simp only;omega,by simp only;omega,hr.1,hr.2, ?_⟩;unfold CR;rw[of,el];simp only[Int.toNat_natCast];split
  .rename_i k2;have lg:=((Gh.1 g'.p).2.2.2.2.2.lg i o.1 k2).1;have nr:=A9 w.collect.heap.C (Zl w.collect.heap.W a+1);rw[(o.2.2.2.2.2.2 k2).2];rw[(o.2.2.2.2.2.2 k2).2]at nr;omega
  .omega
 .have fr:=To 0 (C4 w.heap w.G w.E).heap.S (C4 w.heap w.G w.E).heap.P (C4 w.heap w.G w.E).heap.P.length;have e1:(GF w).freed=Ed 0 (C4 w.heap w.G w.E).heap.S (C4 w.heap w.G w.E).heap.P (C4 w.heap w.G w.E).heap.P.length:=by
   obtain⟨er1,sw⟩:=SW.roots g mv gs hm.W;have ck:=cOk w.heap w.G w.E hm.W g.p (by rw[er1]) (sw.all g mv).1;have z:=ck.h4.2.2.2.2;unfold GF;rw[er];show Ed (C4 w.heap w.G w.E).rep.freed _ _ _=_;rw[z]
  obtain⟨er1,sw⟩:=SW.roots g mv gs hm.W;have q:=(Pa w.heap w.G w.E hm.W g.p (by rw[er1]) (sw.all g mv).1).1;rw[e1];omega
def Zhx(a:List Int)(b:a.length<=140737488355328):GP 13 [ZD a] O (bool O) []:=room ⟨Zdf a b,ZcE a⟩
end Go.Proofs.YtgedmeaemofdkaaGreat
namespace Go.Proofs.YtgedmeaemofdkaaGreat
open Go.Sx Go.RowKit
def Zd0(os:Os)(a:os.Started)(H:Type)(enc:TypeId×Value->H) :ReturnsInHanded {} Tryz.checked os 13 .any (Rows.collectRoomSpec.pre6 enc prog f13 Rows.collectRoomRow.domain Lb) (Rows.collectRoomSpec.post enc prog f13 Lb O Lb Lb):=by
 refine Zdy (C:=Tryz.checked) (tb:=4) 5 Zck a kr func13
  (ChangeSpec.witness6 (enc:=enc) (C:=Tryz.checked) Lb ⟨#[],#[.slice Lf 0 0],[]⟩ 8 kr kr kr kr)
  Zi2 kr kr kr kr rfl (λd f=>?_) (λi g h=>?_)
 .match d,f with
  |[a0],_=>rfl
 .match i,g with
  |[l0],_ =>
   obtain⟨b,rfl,c⟩:=ZkH (n:=3) (h 0 22 l0 kr rfl);have e:Rz prog Tryz.f13.params.toList [[.sl 1 (b.map idv)]]=[ZD b]:=by kernel_rfl
   exact⟨O,e▸Zhx b c⟩
def Zig:(Rows.collectRoomRow.inPlace==Tryz.prog.inPlace 13)=O:=by kernel_rfl
def Z9L:(Rows.collectRoomRow.unfollowed==Tryz.prog.unfollowed 13)=O:=by kernel_rfl
def ZgI:(Rows.collectRoomRow.recurses==Tryz.prog.recurses 13)=O:=by kernel_rfl
def ZaJ:(Rows.collectRoomRow.named==Tryz.prog.varsNamed 13)=O:=by kernel_rfl
def Zau:joinedFacts prog 13 f13 Rows.collectRoomSpec Rows.collectRoomRow=O:=by unfold joinedFacts;rw[Zig,Z9L,ZgI,ZaJ];kernel_rfl
theorem collectRoom_holds:Rows.CollectRoomSaid:=
 OpenClaim.holds_of_wide 13 f13 rfl rfl rfl rfl rfl rfl rfl ⟨rfl,rfl,rfl,rfl,rfl⟩ rfl rfl rfl rfl rfl kr func13 Zau
  (of_decide_eq_true kr) (by unfold Func.isWrapper;first|(rw[if_pos (by decide+kernel)];kernel_rfl)|(rw[if_neg (by decide+kernel)];exact⟨rfl,rfl⟩))
  (λos a H b _=>Zd0 os a H b)
end Go.Proofs.YtgedmeaemofdkaaGreat
