/-
 The statement BoundRequests: part 18.
 Conditions: none.
-/
import Derived.Test.YtkmnngahjnkdmaaGreatE17
set_option maxRecDepth 100000
set_option maxHeartbeats 2000000
set_option linter.all false
open Inhabited renaming default->M
open Bool renaming true->O,false->Lb
open Int renaming toNat->La,mul_comm->Ls,mul_nonneg->Lt,toNat_natCast->LA
open Decidable renaming decide->Lc,not_not->Lr
open List renaming map->Ld,range->Lf,mem_append_left->Lg,mem_range->Lh,find?_range_eq_some->Lj,find?_eq_none->Lk,mem_cons->Ll,not_mem_nil->Lm,append_assoc->Lo,mem_append_right->Lp,filter_append->Lu,getD_eq_getElem?_getD->Lv,mem_append->Lx,replicate->Ly,take_append_drop->Lz,drop_eq_getElem_cons->LB,getElem?_append_left->LD,length_append->LF,mem_filter->LG,pairwise_append->LH,take_length->LI
open Option renaming some->Le,none->Ln
open Nat renaming le_refl->Li,le_trans->LC,not_lt_zero->LL
open Or renaming inr->Lq,inl->Lw
open Go.Proofs.Tryz
namespace Go.Proofs.YtkmnngahjnkdmaaGreat
open Go.Sx Go.RowKit
def pnT:Tg:=⟨tm 79 [(6,.pt 0 0 0),(7,.pt 1 0 0),(8,.pt 2 0 0),(9,.pt 3 0 0),(10,.pt 4 0 0)],pnB,60⟩
def pnQ(x:AV)(e:Int):Tg:=⟨tm 79 [(6,.pt 0 0 0),(7,.pt 1 0 0),(8,.pt 2 0 0),(9,.pt 3 0 0),(10,.pt 4 0 0)],[(0,.box 27 [nI 0,nI 0,.d (.sl 0 []),.d (.sl 0 []),nI 0,nI 0]),(1,.box 24 [x]),(2,.box 24 [.d (.sl 0 [])]),(3,.box 46 [nI 0,nI 0,nI 0,nI 0,nI 0,nI 0]),(4,.box 49 [nI e])],60⟩
def Za9(e:Int):Exit:=.panic [{v:=Tt e,recovered:=Lb}]
def HA(c:Code)(s:St)(e:Int):Prop:=∀(d:Sx.Own) (b:Nat->Prop) (f:World) (a:Act) (w:World),Sx.Sys d b f s.tmps s.H s.clk a w->c.wp prog (λh g i=>h=Za9 e/\Sx.Sys d b f pnT.st.tmps pnT.st.H pnT.st.clk g i) a w
def HA.left{c d:Code}{s e}(h:HA c s e):HA (.seq c d) s e:=by intro f b g a w S;refine wp_seq (wp_mono (h f b g a w S) ?_);rintro e' a' w' ⟨rfl,q⟩;exact⟨rfl,q⟩
def HA.right{c d s t e}(h:CP c s .nrm t)(k:HA d t e):HA (.seq c d) s e:=by intro f b g a w S;refine wp_seq (wp_mono (h f b g a w S) ?_);rintro e' i j ⟨rfl,q⟩;exact k f b g i j q
def Z1O{x:AV}{e:Int}(he:e≠0){m t:Nat}{ops:Array Oper}{o0 o1:Oper}{c:Call}{fo:Operand}(hs:Lf ops.size=[0,1])(h0:ops[0]?=Le o0)(h1:ops[1]?=Le o1)(l0:o0.op=.load 49 (.tmp 10))(d0:o0.dst=Le t)(g0:o0.guard=Ln)(l1:o1.op=.call c) (g1:o1.guard=Ln) (hc:c.callee=.value fo) (ha:c.args=#[.tmp t]) (hf:∀a:Act,a.eval fo=.func (.func 78) #[] #[]) (ht:t<79) (h79:(pnQ x e).st.tmps.set t .any=(pnQ x e).st.tmps):HA (.region m ops Lb) (pnQ x e).st e:=by
 rintro Ow Im0 w0 a w ⟨ρ,Im,I,T⟩;refine wp_region ?_;rw[hs];have hsz:a.tmps.size=79:=T.size;have h10:a.tmps[10]?=Le a.tmps[10]:=Array.getElem?_eq_getElem oq;obtain⟨g,s,n,r1,r2⟩:=RL (T.tmp 10 (.pt 4 0 0) _ rfl h10) dd;obtain⟨β,k1,k2,k3,g',cs,k4,k5,k6,k7,k8⟩:=I.blk 4 _ rfl;rw[r1]at k1;cases k1;cases k4;have ev:a.eval (.tmp 10)=.pointer (Le ⟨g,0,Ln⟩):=by
  have e0:a.eval (.tmp 10)=a.tmps[10]?.getD undef:=by simp[Act.eval]
  rw[e0,h10];simpa using r2
 have hcs:cs=#[.int .i64 e]:=by
  obtain⟨l⟩:=cs
  match l,k6 with
  |[x],_=>rw[BV (k8 0 _ x rfl rfl)]
 rw[hcs]at k5;refine Rs h0 g0 (NP (Z5x l0 ev k5 rfl kr) ?_);refine Rs h1 g1 ?_;rw[d0];have et:(a.put (Le t) (.int .i64 e)).eval (.tmp t)=.int .i64 e:=by
  have:t<a.tmps.size:=by omega
  simp[Act.put,Act.eval,this]
 have hrun:(execOp (a.put (Le t) (.int .i64 e)).eval o1).run prog w=.ok (.enter 78 #[.int .i64 e]) w:=by
  have:=Ns (P:=prog) (f:=78) kr #[.int .i64 e] w;simp[execOp,l1,resolve,hc,ha,hf,et,Deferred.ofValue,invoke,this]
 simp only[Oper.wp,hrun,Oper.upon_enter];refine(ZcG e he w).mono ?_;rintro en w' ⟨rfl,rfl⟩;refine⟨rfl,ρ,Im,ZaX I, ?_⟩;have:=T.put t (.any (.int .i64 e));rwa [h79]at this
def clX(h:Heap)(s k:List Int):Tg:=⟨tm 79 [(1,Z2 s),(2,Z2 k),(3,.pt 5 0 0),(6,.pt 0 0 0),(7,.pt 1 0 0),(8,.pt 2 0 0),(9,.pt 3 0 0),(10,.pt 4 0 0)],[(0,.box 27 [nI 0,nI 0,.d (.sl 0 []),.d (.sl 0 []),nI 0,nI 0]),(1,.box 24 [.d (.sl 0 [])]),(2,.box 24 [.d (.sl 0 [])]),(3,.box 46 [nI 0,nI 0,nI 0,nI 0,nI 0,nI 0]),(4,.box 49 [nI 0]),(5,.box 27 h.cells)],2⟩
def pnI:List Nat:=[8006,8007,8008,8009,8010]
def pnJ:List Nat:=[8006,8007,8008,8009,8010,8003]
section
variable{h:Heap}{s k:List Int}{e:Int}
theorem Zl2{B:Z3}(h:Heap)(a:B∈Nh 0++[.box 27 h.cells]):TL B:=by simp only[Nh,List.cons_append,List.nil_append,Ll,Lm,or_false]at a;rcases a with rfl|rfl|rfl|rfl|rfl|rfl<;>(intro x b;simp only[Heap.cells,Ll,Lm,or_false]at b;rcases b with rfl|rfl|rfl|rfl|rfl|rfl<;>exact⟨_,rfl⟩)
theorem Zhe{B:Z3}(a:B∈Nh e):TL B:=by simp only[Nh,Ll,Lm,or_false]at a;rcases a with rfl|rfl|rfl|rfl|rfl<;>(intro x b;simp only[Ll,Lm,or_false]at b;rcases b with rfl|rfl|rfl|rfl|rfl|rfl<;>exact⟨_,rfl⟩)
theorem Tz(pc:HA (GE f34 2) (clX h s k).st e):GP 34 [h.av,Z2 s,Z2 k] Lb (.tu [ZH.av,Z2 [],Z2 [],.ag Hb.cells,nI e]) []:=by
 intro w Im vs b0 b1 a4;refine calls_of_wp_defers func34 (c:=.seq (Cv f34 0) (.seq (Cv f34 1) (GE f34 2))) kr ?_;have S0:=Pv (n:=79) b0 b1 a4;rw[show [h.av,Z2 s,Z2 k]++Ly (79 - [h.av,Z2 s,Z2 k].length) .any=tm 79 [(0,h.av),(1,Z2 s),(2,Z2 k)]from by kernel_rfl]at S0;refine wp_seq (wp_mono (Z8C h s k _ _ _ _ _ S0) ?_);rintro e1 a1 w1 ⟨rfl,ρ,m,I,T⟩;have ev:∀t x,(clS h s k).st.tmps[t]?=Le x->Zk ρ w1 m x (a1.eval (.tmp t)):=λt x hx=>by
  have hl:t<a1.tmps.size:=by rw[T.size];exact(List.getElem?_eq_some_iff.1 hx).1
  have:a1.eval (.tmp t)=a1.tmps[t]:=by simp[Act.eval,hl]
  rw[this];exact T.tmp t x _ hx (Array.getElem?_eq_getElem hl)
 have r6:=ev 6 (.pt 8006 0 0) rfl;have r7:=ev 7 (.pt 8007 0 0) rfl;have r8:=ev 8 (.pt 8008 0 0) rfl;have r9:=ev 9 (.pt 8009 0 0) rfl;have a9:=ev 10 (.pt 8010 0 0) rfl;refine wp_seq ?_;rw[show Cv f34 1=.region 1 (Bq f34 1) Lb from by kernel_rfl];refine wp_region ?_;rw[show Lf (Bq f34 1).size=[0,1]from by kernel_rfl];refine Rs (o:=(Bq f34 1).getD 0 M) kr kr (NP (Z6R (f:=76) (l:=#[.tmp 6,.tmp 7,.tmp 8,.tmp 9,.tmp 10]) kr) ?_);rw[show Array.map a1.eval #[.tmp 6,.tmp 7,.tmp 8,.tmp 9,.tmp 10]=#[a1.eval (.tmp 6),a1.eval (.tmp 7),a1.eval (.tmp 8),a1.eval (.tmp 9),a1.eval (.tmp 10)]from by simp];show wpOps prog (Bq f34 1) _ [1] (a1.put (Le 13) (.func (.func 76) #[] #[a1.eval (.tmp 6),a1.eval (.tmp 7),a1.eval (.tmp 8),a1.eval (.tmp 9),a1.eval (.tmp 10)])) w1;generalize a1.eval (.tmp 6)=v6,a1.eval (.tmp 7)=v7,a1.eval (.tmp 8)=v8,a1.eval (.tmp 9)=v9,a1.eval (.tmp 10)=v10 at r6 r7 r8 r9 a9⊢;have y:Ct [] ρ w1 m ((clS h s k).st.tmps.set 13 .any) (a1.put (Le 13) (.func (.func 76) #[] #[v6,v7,v8,v9,v10])):=T.put 13 (.any _);have a0:(a1.put (Le 13) (.func (.func 76) #[] #[v6,v7,v8,v9,v10])).eval (.tmp 13)=.func (.func 76) #[] #[v6,v7,v8,v9,v10]:=by
  have:=T.size;have z:13<a1.tmps.size:=by rw[this,show(clS h s k).st.tmps.length=79 from by kernel_rfl];decide
  simp[Act.put,Act.eval,z]
 generalize a1.put (Le 13) (.func (.func 76) #[] #[v6,v7,v8,v9,v10])=a2 at y a0⊢;refine Rs (o:=(Bq f34 1).getD 1 M) kr kr (Z9A (c:=⟨.value (.tmp 13),#[],#[]⟩) (x:=.tmp 13) kr rfl a0 ?_);rw[y.defers];show Code.wp prog (GE f34 2) _ {tmps:=a2.tmps,defers:=[⟨.fn (.func 76) #[v6,v7,v8,v9,v10],#[]⟩]} w1;have a7:∀(i b:Nat) (B:Z3),pnJ[i]?=Le b->(Nh 0++[.box 27 h.cells])[i]?=Le B->(clS h s k).st.H b=Le B/\TL B:=by
  intro i b B a j;refine⟨?_,Zl2 h (List.mem_of_getElem? j)⟩;match i,a,j with|0,a,j=>cases a;cases j;rfl|1,a,j=>cases a;cases j;rfl|2,a,j=>cases a;cases j;rfl|3,a,j=>cases a;cases j;rfl|4,a,j=>cases a;cases j;rfl|5,a,j=>cases a;cases j;rfl
 have J:=Zia I (ids:=pnJ) (pre:=Nh 0++[.box 27 h.cells]) dd rfl dd a7 [⟨.fn (.func 76) #[v6,v7,v8,v9,v10],#[]⟩];have pt:∀{k b:Nat} {v:Value},Zk ρ w1 m (.pt b 0 0) v->pnJ[k]?=Le b->Zk (λk=>(pnJ[k]?).bind ρ) w1 m (.pt k 0 0) v:=λ{k b v} r q=>by
  cases r with|pt h=>exact .pt (by rw[q];exact h)
 have S6:Sx.Sys ⟨λk β=>(pnJ[k]?).bind ρ=Le β,[⟨.fn (.func 76) #[v6,v7,v8,v9,v10],#[]⟩]⟩ m w1 (clX h s k).st.tmps (clX h s k).st.H 2 {tmps:=a2.tmps,defers:=[⟨.fn (.func 76) #[v6,v7,v8,v9,v10],#[]⟩]} w1:=by
  refine⟨_,m,J,Z3f (y.size.trans kr) rfl λi x v hx u=>?_⟩;simp only[Ll,Prod.mk.injEq,Lm,or_false]at hx;rcases hx with⟨rfl,rfl⟩|⟨rfl,rfl⟩|⟨rfl,rfl⟩|⟨rfl,rfl⟩|⟨rfl,rfl⟩|⟨rfl,rfl⟩|⟨rfl,rfl⟩|⟨rfl,rfl⟩;cases y.tmp 1 (Z2 s) v rfl u with|d q=>exact .d q
  cases y.tmp 2 (Z2 k) v rfl u with|d q=>exact .d q
  exact pt (y.tmp 3 (.pt 8003 0 0) v rfl u) rfl;exact pt (y.tmp 6 (.pt 8006 0 0) v rfl u) rfl;exact pt (y.tmp 7 (.pt 8007 0 0) v rfl u) rfl;exact pt (y.tmp 8 (.pt 8008 0 0) v rfl u) rfl;exact pt (y.tmp 9 (.pt 8009 0 0) v rfl u) rfl;exact pt (y.tmp 10 (.pt 8010 0 0) v rfl u) rfl
 refine wp_mono (pc _ _ _ _ _ S6) ?_;rintro e3 a3 w3 ⟨rfl,ρ3,a5,I3,T3⟩;have a8:∀{i b:Nat} {β:Bi},pnJ[i]?=Le b->i<6->ρ3 i=Le β->ρ b=Le β:=λ{i b β} q hi a=>by(have:=I3.one.2 i β oq a;simp only[q]at this;exact this)
 have bk:∀i,i<5->∃β,ρ3 i=Le β:=λi hi=>by
  have:∃B,Bv pnB i=Le B:=by
   match i,hi with|0,_=>exact⟨_,rfl⟩|1,_=>exact⟨_,rfl⟩|2,_=>exact⟨_,rfl⟩|3,_=>exact⟨_,rfl⟩|4,_=>exact⟨_,rfl⟩
  obtain⟨B,hB⟩:=this;obtain⟨β,k1,_⟩:=I3.blk i B hB;exact⟨β,k1⟩
 have p3:∀{i b:Nat} {v:Value},pnJ[i]?=Le b->i<5->Zk ρ w1 m (.pt b 0 0) v->Zk ρ3 w3 a5 (.pt i 0 0) v:=λ{i b v} q hi r=>by
  obtain⟨β,k1⟩:=bk i hi;have k2:=a8 q oq k1;cases r with|pt h =>rw[h]at k2;cases k2;exact .pt k1
 show Leaves _ _ a3.tmps _ a3.defers (.panicking [{v:=Tt e,recovered:=Lb}]) w3;rw[T3.defers];refine leaves_cons (f:=76) (args:=#[v6,v7,v8,v9,v10]) pq (Ns kr _ _) ?_;refine(Zld e I3 (p3 rfl dd r6) (p3 rfl dd r7) (p3 rfl dd r8) (p3 rfl dd r9) (p3 rfl dd a9)).mono ?_;rintro en u' w4 ⟨rfl,rfl,ρ4,a6,I4⟩;obtain⟨ρr,I5,hρ⟩:=ZeJ I I4 (ids:=pnI) (post:=Nh e) rfl dd (λb hb=>by
  simp only[pnI,Ll,Lm,or_false]at hb;rcases hb with rfl|rfl|rfl|rfl|rfl<;>exact⟨_,rfl,by simp⟩) (λB hB=>Zhe hB) (λi B hB=>by
  have:=Z4j 5 0 (Nh e) i rfl hB;rwa [Nat.zero_add]at this) (λi b β a j=>by
  have h3:pnJ[i]?=Le b:=by
    match i,a with|0,a=>exact a|1,a=>exact a|2,a=>exact a|3,a=>exact a|4,a=>exact a
  simp only[h3]at j;exact j) (λg ⟨i,β,a,j⟩=>by
  obtain⟨b,_,q2⟩:=MG a;exact ZiQ I q2 j)
 have pr:∀{i b:Nat} {v:Value},pnJ[i]?=Le b->i<5->b∈pnI->Zk ρ3 w3 a5 (.pt i 0 0) v->Zk ρr w4 a6 (.pt b 0 0) v:=λ{i b v} q hi hb r=>by
  cases r with|pt h=>exact .pt ((hρ b hb).trans (a8 q oq h))
 have S5:Sx.Sys EU Im w (Tg.st ⟨tm 79 [(6,.pt 8006 0 0),(7,.pt 8007 0 0),(8,.pt 8008 0 0),(9,.pt 8009 0 0),(10,.pt 8010 0 0)],pnI.zip (Nh e),2⟩).tmps (Bv (pnI.zip (Nh e))) 2 {a3 with defers:=[]} w4:=by(refine⟨ρr,a6,I5,Z3f (T3.size.trans kr) rfl λi x v hx u=>?_⟩;simp only[Ll,Prod.mk.injEq,Lm,or_false]at hx;rcases hx with⟨rfl,rfl⟩|⟨rfl,rfl⟩|⟨rfl,rfl⟩|⟨rfl,rfl⟩|⟨rfl,rfl⟩;exact pr (i:=0) rfl dd dd (T3.tmp 6 _ v rfl u);exact pr (i:=1) rfl dd dd (T3.tmp 7 _ v rfl u);exact pr (i:=2) rfl dd dd (T3.tmp 8 _ v rfl u);exact pr (i:=3) rfl dd dd (T3.tmp 9 _ v rfl u);exact pr (i:=4) rfl dd dd (T3.tmp 10 _ v rfl u))
 obtain⟨v,q1,q2⟩:=Z0J (P:=prog) (fn:=f34) (fr:=Lb) (ns:=[]) (l:=[.ag [nI 0,nI 0,.d (.sl 0 []),.d (.sl 0 []),nI 0,nI 0],.d (.sl 0 []),.d (.sl 0 []),.ag [nI 0,nI 0,nI 0,nI 0,nI 0,nI 0],nI e]) (res:=.tu [ZH.av,Z2 [],Z2 [],.ag Hb.cells,nI e]) (x:=.tu [.ag [nI 0,nI 0,.d (.sl 0 []),.d (.sl 0 []),nI 0,nI 0],.d (.sl 0 []),.d (.sl 0 []),.ag [nI 0,nI 0,nI 0,nI 0,nI 0,nI 0],nI e]) (p:=[]) (qq:=[]) (st:=Tg.st ⟨tm 79 [(6,.pt 8006 0 0),(7,.pt 8007 0 0),(8,.pt 8008 0 0),(9,.pt 8009 0 0),(10,.pt 8010 0 0)],pnI.zip (Nh e),2⟩) (List.nodup_nil (α:=Nat)) S5 kr kr trivial (by exact⟨rfl,rfl,rfl,rfl⟩) kr kr trivial;exact⟨v,q1,v,rfl,q2⟩
end
end Go.Proofs.YtkmnngahjnkdmaaGreat
namespace Go.Proofs.YtkmnngahjnkdmaaGreat
open Go.Sx Go.RowKit
structure Om (h:Heap) (e:Int):Prop where
 b:GP 77 [h.av] Lb (.tu [ES.av,nI e]) []
 n:e=1\/e=19
def ZlB{h e}(c:Om h e):GP 77 [h.av] Lb (.tu [ES.av,nI e]) []:=c.b
section
variable{h:Heap}{s k:List Int}{e:Int}
theorem pnA(c:Om h e):CP (Cv f34 2) (clX h s k).st .nrm (Tg.st ⟨tm 79 [(1,Z2 s),(2,Z2 k),(3,.pt 5 0 0),(6,.pt 0 0 0),(7,.pt 1 0 0),(8,.pt 2 0 0),(9,.pt 3 0 0),(10,.pt 4 0 0)],[(0,.box 27 [nI 0,nI 0,.d (.sl 0 []),.d (.sl 0 []),nI 0,nI 0]),(1,.box 24 [.d (.sl 0 [])]),(2,.box 24 [.d (.sl 0 [])]),(3,.box 46 [nI 0,nI 0,nI 0,nI 0,nI 0,nI 0]),(4,.box 49 [nI e]),(5,.box 27 h.cells)],60⟩):=by exact sF [] []<|Fc 16 (@ZlB h e aa) Fz
theorem Zhu(c:Om h e):CP (Cv f34 3) (Tg.st ⟨tm 79 [(1,Z2 s),(2,Z2 k),(3,.pt 5 0 0),(6,.pt 0 0 0),(7,.pt 1 0 0),(8,.pt 2 0 0),(9,.pt 3 0 0),(10,.pt 4 0 0)],[(0,.box 27 [nI 0,nI 0,.d (.sl 0 []),.d (.sl 0 []),nI 0,nI 0]),(1,.box 24 [.d (.sl 0 [])]),(2,.box 24 [.d (.sl 0 [])]),(3,.box 46 [nI 0,nI 0,nI 0,nI 0,nI 0,nI 0]),(4,.box 49 [nI e]),(5,.box 27 h.cells)],60⟩) .nrm (pnQ (.d (.sl 0 [])) e).st:=by rcases c.n with n|n;subst n;exact sF [] []<|Fh 26 [.bor [] AV.any []]<|Fh 27 [.bor [] (bL Lb) []] Fz;subst n;exact sF [] []<|Fh 26 [.bor [] AV.any []]<|Fh 27 [.bor [] (bL Lb) []] Fz
end
end Go.Proofs.YtkmnngahjnkdmaaGreat
namespace Go.Proofs.YtkmnngahjnkdmaaGreat
open Go.Sx
def ZjO{c:ZU}{i o:Int}(a:Zm c=O)(h:0<=i/\i<c.pg/\0<=o/\o<c.pw):address c i o=(4096+(i*c.pw+o),0):=by unfold address;rw[if_pos a,if_pos (HT.2 h)]
def Z7H{w}(k:D1 w){i n o:Int}(a:0<=i/\i<w.j.P.length)(hn:1<=n)(ho:0<=o/\o+n<=w.j.C.pw):(address w.j.C i o).2=0/\(address w.j.C i o).1=4096+i*w.j.C.pw+o/\4096<=(address w.j.C i o).1/\(address w.j.C i o).1-4096+n<=w.j.W.length:=by have pl:=k.pl;have L:=k.L;have cf:=BR.1 k.C;have m:=Gb (i:=i) (j:=w.j.C.pg) (pw:=w.j.C.pw) oq oq;rw[Ls w.j.C.pg]at m;have m0:0<=i*w.j.C.pw:=Lt a.1 oq;rw[ZjO k.C oq];exact⟨rfl,by simp only;omega,by simp only;omega,by simp only;omega⟩
def ZcO{w}(k:HH w)(h:0<=B3 w):D1 w.took/\(w.took.j.P.getD (B3 w).toNat M).U=0:=by have sp:=k.ok.sp;obtain⟨f1,f2,f3,f4⟩:=Nm (h:=⟨w.j.C,w.j.W,w.j.P,1-w.j.S,w.j.B⟩) (by simp only;omega) h;have f2':(G2 w).length=w.j.P.length:=f2;have f4':(G2 w).getD (B3 w).toNat M=⟨1,1-w.j.S,0,0⟩:=f4;refine⟨⟨k.ok.C,k.ok.wl, ?_,k.L⟩, ?_⟩;show((G2 w).length:Int)=_;rw[f2'];exact k.ok.pl;show((G2 w).getD (B3 w).toNat M).U=0;rw[f4']
section
variable{w:Z8}{r:Int}(f:FwOk w r)
include f
theorem Z4t(e:(w.fwd r).2.2=0):BP 132 [.pt 0 0 0,uU r] w.ckp (.tu [uU (w.fwd r).2.1,nI 0]) (w.fwd r).1.ckq:=by
 unfold Z8.fwd at e⊢;by_cases c1:r=0\/r∈w.Q;rw[if_pos c1];exact MZ [0,1,6,3,7,8] 9 (Zho w r f.rg f.ck.ln c1) (by rfl) rfl rfl;rw[if_neg c1]at e⊢;have c1':r≠0:=λh=>c1 (Lw h);have c2:r∉w.Q:=λh=>c1 (Lq h);by_cases c3:r∈w.old;rotate_left;rw[if_pos c3]at e;cases e;rw[if_neg (by simpa using c3)]at e⊢;by_cases c4:(ZQ (Z5 w.j.W r).1).2=O;rw[if_pos c4];exact MZ [0,1,6,3,7,8] 9 (ZgO w r f c1' c2 c3 c4) (by rfl) rfl rfl;rw[if_neg c4]at e⊢;have c4':(ZQ (Z5 w.j.W r).1).2=Lb:=by simpa using c4
 have h3:=f.ol c3;rw[if_neg (by rw[h3.2.2.1];simp)]at e⊢;by_cases c6:ZR w (Z4 w.j.C r).1=O;rw[if_pos c6];exact MZ [0,1,6,3,7,5,8] 9 (ZkZ w r f c1' c2 c3 c4' c6) (by rfl) rfl rfl;rw[if_neg c6]at e⊢;have c6':ZR w (Z4 w.j.C r).1=Lb:=by simpa using c6
 by_cases c7:(w.j.P.getD (ED w r) M).K=2;rw[if_pos c7];exact MZ [0,1,6,3,7,5,8] 9 (ZgR w r f c1' c2 c3 c4' c6' c7) (by rfl) rfl rfl;rw[if_neg c7]at e⊢;have sz:=NE w r;have hl:=HC w r;have en:(((Z1 (Zx w r)).toNat:Nat):Int)=Z1 (Zx w r):=Int.toNat_of_nonneg oq;have hpw:Z1 (Zx w r)<=w.j.C.pw:=by(rcases f.sz c3 with q|q;exact absurd q c7;omega)
 have ok:=f.ck.ok;by_cases hf:EC w (Z1 (Zx w r));have ep:w.place (Z1 (Zx w r))=(⟨⟨w.j.C,w.j.W,Cw w.j.P (ZS w).toNat (Z1 (Zx w r)),w.j.S,w.j.B⟩,w.old,w.T,w.Q,w.D,w.rep⟩,4096+ZS w*w.j.C.pw+(w.j.P.getD (ZS w).toNat M).U,O):=by rw[Z8.place,if_pos hf]
 rw[ep];rw[if_neg pq];have hm:=ok.tk _ (Hh hf.1);have hu:=ok.us (ZS w).toNat oq;have ri:=Z7H f.ck.mem (i:=ZS w) (n:=Z1 (Zx w r)) (o:=(w.j.P.getD (ZS w).toNat M).U) ⟨hm.1,hm.2.1⟩ sz.1 ⟨hu.1,hf.2⟩;have b:=ZhO w r f c1' c2 c3 c4' c6' c7 hf ri.1 ri.2.2;rw[en,ri.2.1]at b;exact MZ [0,1,6,3,7,5,8] 9 b (by rfl) rfl rfl;by_cases hg:0<=B3 w;have ep:w.place (Z1 (Zx w r))=(⟨⟨w.j.C,w.j.W,Cw (G2 w) (B3 w).toNat (Z1 (Zx w r)),w.j.S,w.j.B⟩,w.old,w.T++[B3 w],w.Q,w.D,w.rep⟩,4096+B3 w*w.j.C.pw,O):=by rw[Z8.place,if_neg hf,if_pos hg]
 rw[ep];rw[if_neg pq];obtain⟨t1,t2⟩:=ZcO f.ck hg;have ff:=HU hg;have ri:=Z7H f.ck.mem (i:=B3 w) (n:=Z1 (Zx w r)) (o:=0) ⟨hg,by unfold B3;omega⟩ sz.1 ⟨Int.le_refl _,by omega⟩;have b:=Zko w r f c1' c2 c3 c4' c6' c7 t1 oq hf hg ri.1 ri.2.2;rw[en,ri.2.1,Int.add_zero]at b;exact b;rw[Z8.place,if_neg hf,if_neg hg]at e;simp at e
theorem Z63(e:¬ (w.fwd r).2.2=0):BP 132 [.pt 0 0 0,uU r] w.ckp (.tu [uU 0,nI (w.fwd r).2.2]) w.ckp:=by
 unfold Z8.fwd at e⊢;by_cases c1:r=0\/r∈w.Q;rw[if_pos c1]at e;exact absurd rfl e;rw[if_neg c1]at e⊢;have b:r≠0:=λh=>c1 (Lw h);have c2:r∉w.Q:=λh=>c1 (Lq h);by_cases c3:r∈w.old;rotate_left;rw[if_pos c3];exact Zf4 w r f.rg f.ck.ln b c2 c3;rw[if_neg (by simpa using c3)]at e⊢;by_cases c4:(ZQ (Z5 w.j.W r).1).2=O;rw[if_pos c4]at e;exact absurd rfl e;rw[if_neg c4]at e⊢;have c:(ZQ (Z5 w.j.W r).1).2=Lb:=by simpa using c4
 have l:=f.ol c3;rw[if_neg (by rw[l.2.2.1];simp)]at e⊢;by_cases d:ZR w (Z4 w.j.C r).1=O;rw[if_pos d]at e;exact absurd rfl e;rw[if_neg d]at e⊢;have g:ZR w (Z4 w.j.C r).1=Lb:=by simpa using d
 by_cases i:(w.j.P.getD (ED w r) M).K=2;rw[if_pos i]at e;exact absurd rfl e;rw[if_neg i]at e⊢;by_cases a:(w.place (Z1 (Zx w r))).2.2=Lb;rw[if_pos a];by_cases j:EC w (Z1 (Zx w r));rw[Z8.place,if_pos j]at a;simp at a;by_cases k:0<=B3 w;rw[Z8.place,if_neg j,if_pos k]at a;simp at a;exact Zhx w r f b c2 c3 c g i j k;rw[if_neg a]at e;exact absurd rfl e
end
def Z0v w(a:Ro w):BP 131 [w.av] [] (.pt 0 0 0) w.ckp:=by obtain⟨h1,h2,h3,h4,h5⟩:=a;exact borF [] [16001,25006,25010,33017,33020,33023] func131 []<|Fc 6 (@Mr w.j.W aa)<|Fc 10 (@Z27 w.j.P aa)<|Fc 17 (@Mr w.old aa)<|Fc 20 (@ZgZ w.T aa)<|Fc 23 (@Mr w.Q aa) Fz
def Z8.ckD(w:Z8):Z3:=.box 201 w.cells
def ZbW(w:Z8)(hs:w.j.S=0\/w.j.S=1):BP 187 [.pt 0 0 0] [w.ckD] (nI (1-w.j.S)) [w.ckD]:=by exact lF func187 []<|Fi 8 (1-w.j.S) Fz
structure PU (w:Z8):Prop where
 tl:w.T.length<=1000000
 pl:w.j.P.length<=1000000
 sp:w.j.S=0\/w.j.S=1
 so:H4 w.j.P
def HH.pr{w}(k:HH w):PU w:=by have mu:=k.ok.mu;have pl:=k.ok.pl;have cf:=BR.1 k.ok.C;have tl:=k.ok.tl;exact⟨by omega,by omega,k.ok.sp,k.so⟩
def ZcJ w i(c:PU w):BP 185 [.pt 0 0 0,nI i] [w.ckD] (bL (ZR w i)) [w.ckD]:=by have pl:=c.pl;have tl:=c.tl;have sp:=c.sp;have so:=λh=>c.so.at (i:=i.toNat) h;rcases bb (Lc (i<0)||Lc ((w.j.P.length:Int)<=i))with hc0|hc0<;>have a:=hc0<;>simp only[bs]at a;exact lF func185 (fO 8)<|FlG 15 (!decide (i<0)) Z0.dv w.j.P<|Ft 17 hc0<|Fa (by(simp[ZR, *];omega):Lb=ZR w i) Fz;obtain⟨d,e⟩:=a;have g {h_ c_ p_} (j:Fq h_ c_ p_):=FlG 15 (!decide (i<0)) Z0.dv w.j.P<|Ff 17 hc0<|Fe 24 Z0.dv w.j.P i j;rcases bb ((w.j.P.getD i.toNat M).K==1)with hc1|hc1<;>have b:=hc1<;>simp only[bs]at b;exact lF func185 (fO 19)<|Fh 28 [.br O] (g (Fa hc1<|Fbq 33 [0] (@ZbW w aa)<|FcG 42 (O&&(w.j.P.getD i.toNat M).S==1-w.j.S) (λf=>by(try simp only[bs]at f);exact@OZ w.T i oq)<|Fa (by grind[ZR]:((w.j.P.getD i.toNat M).S==1-w.j.S&&!decide (i∈w.T))=ZR w i) Fz));exact lF func185 (fO 19)<|Fh 28 [.br Lb]<|Fh 33 [.bor [0] (nI (1-w.j.S)) []] (g (Fa hc1<|FcG 42 (Lb&&(w.j.P.getD i.toNat M).S==1-w.j.S) (λf=>by(try simp only[bs]at f);exact@OZ w.T i oq)<|Fa (by(simp only[ZR] ;exact sj):Lb=ZR w i) Fz))
def Z9C w i(a:PU w):GP 135 [w.av,nI i] O (bL (ZR w i)) []:=by have sp:=a.sp;have so:=λh=>a.so.at (i:=i.toNat) h;exact gF [] func135 []<|Fbq 8 [16005] (@ZcJ w i aa) Fz
def Nu(w:Z8):List (Nat×Z3):=[(22014,Bj w.Q),(21014,ET w.T),(20014,Bj w.old),(19014,EV w.j.P),(18014,Bj w.j.W),(17014,w.ckB 18014 19014 20014 21014 22014)]
def Mb(w:Z8)(roots out:List Int)(i:Nat):Tg:=⟨tm 40 [(4,.pt 8004 0 0),(5,.d (.sl 0 [])),(6,nI 0),(7,.pt 17014 0 0),(8,.ow 24008),(15,Z2 roots),(16,nI roots.length),(17,nI i)],(24008,.arr 44 1 (out.map wD))::(8004,.box 129 zW)::Nu w,5⟩
section
variable(w:Z8)(roots out:List Int)(i:Nat)(f:FwOk w (roots.getD i M))(hl:roots.length<=1048576)(ho:out.length<=1048576)(hi:i<roots.length)
include f hl ho hi
theorem Z7d(e:(w.fwd (roots.getD i M)).2.2=0):CP (Zn f79 0) (Mb w roots out i).st .nrm (Mb (w.fwd (roots.getD i M)).1 roots (out++[(w.fwd (roots.getD i M)).2.1]) (i+1)).st:=by let a:=w.fwd (roots.getD i M);exact sF [(72034,24008),(57024,19014),(58024,21014),(59024,22014)] []<|Fh 34 [.els (Ld wD (out++[a.2.1]))]<|Ftb 18 (Lc ((i:Int)<(roots.length:Int)))<|Fek 19 wD roots (↑i) i<|Fbr 24 [17014,18014,19014,20014,21014,22014] (@Z4t w (roots.getD i M) aa aa)<|Fs 33 (Ld wD [a.2.1])<|Fa (by(simp[*];omega):(Ld wD out).length+(Ld wD [a.2.1]).length<=2^30)<|Fa (ms:Ld wD out++Ld wD [a.2.1]=Ld wD (out++[a.2.1]))<|Fx 35 i Fz
theorem Zkn(e:¬ (w.fwd (roots.getD i M)).2.2=0):CP (Zn f79 0) (Mb w roots out i).st .ret (Tg.st ⟨tm 40 [(4,.pt 8004 0 0),(5,.d (.sl 0 [])),(6,nI (w.fwd (roots.getD i M)).2.2)],[(8004,.box 129 zW)],60⟩):=by exact sF [] []<|Ftb 18 (Lc ((i:Int)<(roots.length:Int)))<|Fek 19 wD roots (↑i) i<|Fbq 24 [17014,18014,19014,20014,21014,22014] (@Z63 w (roots.getD i M) aa aa)<|Ftb 28 ((w.fwd (roots.getD i M)).2.2 != 0) Fz
end
def Zlt w roots out:CP (Zn f79 0) (Mb w roots out roots.length).st (.ext 0) (Tg.st ⟨tm 40 [(4,.pt 8004 0 0),(7,.pt 17014 0 0),(8,.ow 24008)],(24008,.arr 44 1 (out.map wD))::(8004,.box 129 zW)::Nu w,5⟩):=by exact sF [] []<|Ffb 18 (Lc ((roots.length:Int)<(roots.length:Int))) Fz
def Z20(w:Z8)(roots:List Int):Prop:=∀k,k<roots.length->(∀j,j<k->Ev w roots j=0)->FwOk (Ck w roots k).1 (roots.getD k M)
section
variable(w:Z8)(roots:List Int)(hN:Z20 w roots)(hl:roots.length<=1048576)
include hN hl
theorem Zca(d:(Lf roots.length).find? (λk=>Lc (Ev w roots k≠0))=Ln):CP (Zl f79 0) (Tg.st ⟨tm 40 [(4,.pt 8004 0 0),(5,.d (.sl 0 [])),(6,nI 0),(7,.pt 17014 0 0),(8,.ow 24008),(15,Z2 roots),(16,nI roots.length),(17,nI 0)],(24008,.arr 44 1 [])::(8004,.box 129 zW)::Nu w,5⟩) .nrm (Tg.st ⟨tm 40 [(4,.pt 8004 0 0),(7,.pt 17014 0 0),(8,.ow 24008)],(24008,.arr 44 1 ((Ck w roots roots.length).2.map wD))::(8004,.box 129 zW)::Nu (Ck w roots roots.length).1,5⟩):=by
 have b:∀j,j<roots.length->Ev w roots j=0:=λj c=>by(have:=Lk.1 d j (Lh.2 c);simpa using this)
 exact Bs (S:=λk=>(Mb (Ck w roots k).1 roots (Ck w roots k).2 k).st) roots.length kr (λk a=>Z7d _ roots _ k (hN k a λj c=>b j oq) hl (by rw[SI];omega) a (b k a)) (Zlt _ roots _)
theorem ZbB i(f:(Lf roots.length).find? (λk=>Lc (Ev w roots k≠0))=Le i):CP (Zl f79 0) (Tg.st ⟨tm 40 [(4,.pt 8004 0 0),(5,.d (.sl 0 [])),(6,nI 0),(7,.pt 17014 0 0),(8,.ow 24008),(15,Z2 roots),(16,nI roots.length),(17,nI 0)],(24008,.arr 44 1 [])::(8004,.box 129 zW)::Nu w,5⟩) .ret (Tg.st ⟨tm 40 [(4,.pt 8004 0 0),(5,.d (.sl 0 [])),(6,nI (Ev w roots i))],[(8004,.box 129 zW)],60⟩):=by
 obtain⟨d,a,e⟩:=Lj.1 f;have a:=Lh.1 a;have b:∀j,j<i->Ev w roots j=0:=λj c=>by simpa using e j c
 exact EF (S:=λk=>(Mb (Ck w roots k).1 roots (Ck w roots k).2 k).st) i kr (λk g=>Z7d _ roots _ k (hN k oq λj c=>b j oq) hl (by rw[SI];omega) oq (b k g)) (Zkn _ roots _ i (hN i a b) hl (by rw[SI];omega) a (by simpa[Ev]using d))
theorem Z6a(ln:Ro w):GP 79 [w.av,Z2 roots] O (.tu [(rootsF w roots).1.av,Z2 (rootsF w roots).2.1,nI (rootsF w roots).2.2]) []:=by
 cases hb:(Lf roots.length).find? (λk=>Lc (Ev w roots k≠0))with
 |none =>
  have e7:rootsF w roots=((Ck w roots roots.length).1,(Ck w roots roots.length).2,0):=by unfold rootsF;rw[hb]
  rw[e7];let y0:=Ck w roots roots.length;exact gF [] func79 []<|Fh 8 [.own]<|Fbr 14 [] (@Z0v w aa)<|Fl 16 wD roots<|Fu (@Zca w roots aa aa aa)<|Fa (H6 _:Ca (Ld wD y0.1.j.W))<|Fa (IP _:Ca (Ld Z0.dv y0.1.j.P))<|Fa (H6 _:Ca (Ld wD y0.1.old))<|Fa (Ma _:Ca (Ld iD y0.1.T))<|Fa (H6 _:Ca (Ld wD y0.1.Q))<|Fa (H6 _:Ca (Ld wD y0.2)) Fz
 |some i =>
  have e7:rootsF w roots=(ES,[],Ev w roots i):=by unfold rootsF;rw[hb]
  rw[e7];exact gF [] func79 []<|Fh 8 [.own]<|Fbr 14 [] (@Z0v w aa)<|Fl 16 wD roots<|Fu (@ZbB w roots aa aa i aa)<|Fnl (Fnl (Fnl (Fnl (Fnl (Fnl Fz)))))
end
def Zef w(a:Ro w)(sc:0<=w.D)(hs:¬ w.D<w.Q.length):BP 133 [.pt 0 0 0] w.ckp (.tu [bL Lb,nI 0]) w.ckp:=by obtain⟨h1,h2,h3,h4,h5⟩:=a;exact borF [0,1,2,3,4,5] [] func133 []<|FlG 28 (!decide (w.D<0)) wD w.Q<|Ftb 30 (Lc (w.D<0)||Lc ((w.Q.length:Int)<=w.D)) Fz
def ZiB{ws:List Int}{a v:Int}(h:4096<=a/\a<4096+ws.length):(Cj ws a v).1=ws.set (a-4096).toNat v:=by unfold Cj ZZ;rw[if_pos (by simp only[List.length_cons,List.length_nil];omega)];exact Z7Y oq
def Ih(w:Z8):List (Nat×Z3):=[(0,w.ckB 1 8002 3 8004 8005),(1,Bj w.j.W),(8002,EV w.j.P),(3,Bj w.old),(8004,ET w.T),(8005,Bj w.Q)]
def D6(w:Z8)(a n:Int)(l:List Int)(k:Nat):Tg:=⟨tm 116 [(0,.pt 0 0 0),(2,bL Lb),(3,nI 0),(5,.os 1 (a-4096).toNat n.toNat),(9,ZG l),(72,ZG l),(73,nI l.length),(74,nI k)],Ih w,12⟩
section
variable(w:Z8)(a n:Int)(l:List Int)(k:Nat)(hk:k<l.length)(b:l.length<=255)(hx:0<=l.getD k M/\l.getD k M+1<n)(hn:n<=256)(ha:4096<=a/\a-4096+n<=w.j.W.length)(f:FwOk w (Z5 w.j.W (a+1+l.getD k M)).1)
include hk b hx hn ha f
theorem Z6L(e:(w.fwd (Z5 w.j.W (a+1+l.getD k M)).1).2.2=0)(c:(w.fwd (Z5 w.j.W (a+1+l.getD k M)).1).1.j.W.length=w.j.W.length):CP (Zn f133 0) (D6 w a n l k).st .nrm (D6 (w.in1 (a+1+l.getD k M)) a n l (k+1)).st:=by
 have d:(Z5 w.j.W (a+1+l.getD k M)).1=w.j.W.getD ((a-4096).toNat+(1+l.getD k M).toNat) M:=by(unfold Z5;rw[if_pos oq,show(a-4096).toNat+(1+l.getD k M).toNat=(a+1+l.getD k M-4096).toNat by omega];rfl)
 have wl:=f.ck.ok.wl;have g:(w.in1 (a+1+l.getD k M))=⟨⟨(w.fwd (Z5 w.j.W (a+1+l.getD k M)).1).1.j.C,(w.fwd (Z5 w.j.W (a+1+l.getD k M)).1).1.j.W.set ((a-4096).toNat+(1+l.getD k M).toNat) (w.fwd (Z5 w.j.W (a+1+l.getD k M)).1).2.1,(w.fwd (Z5 w.j.W (a+1+l.getD k M)).1).1.j.P,(w.fwd (Z5 w.j.W (a+1+l.getD k M)).1).1.j.S,(w.fwd (Z5 w.j.W (a+1+l.getD k M)).1).1.j.B⟩,(w.fwd (Z5 w.j.W (a+1+l.getD k M)).1).1.old,(w.fwd (Z5 w.j.W (a+1+l.getD k M)).1).1.T,(w.fwd (Z5 w.j.W (a+1+l.getD k M)).1).1.Q,(w.fwd (Z5 w.j.W (a+1+l.getD k M)).1).1.D,(w.fwd (Z5 w.j.W (a+1+l.getD k M)).1).1.rep⟩:=by(unfold Z8.in1;rw[ZiB oq,show(a-4096).toNat+(1+l.getD k M).toNat=(a+1+l.getD k M-4096).toNat by omega])
 rw[g];rw[d]at e c f⊢;exact sF [(113085,8002),(114085,8004),(115085,8005)] []<|Fh 84 [.el (wD (w.j.W.getD ((a-4096).toNat+(1+l.getD k M).toNat) M))]<|Fh 10095 [.els (Ld wD ((w.fwd (w.j.W.getD ((a-4096).toNat+(1+l.getD k M).toNat) M)).1.j.W.set ((a-4096).toNat+(1+l.getD k M).toNat) (w.fwd (w.j.W.getD ((a-4096).toNat+(1+l.getD k M).toNat) M)).2.1))]<|Ftb 75 (Lc ((k:Int)<(l.length:Int)))<|Fek 76 iD l (↑k) k<|Fi 82 (1+l.getD k M)<|Fo ((0:Int)<=1+l.getD k M/\(1+l.getD k M).toNat<n.toNat)<|Fa (ZT oq:(Ld wD w.j.W)[(a-4096).toNat+(1+l.getD k M).toNat]?=Le (wD (w.j.W.getD ((a-4096).toNat+(1+l.getD k M).toNat) M)))<|Fbr 85 [0,1,8002,3,8004,8005] (@Z4t w (w.j.W.getD ((a-4096).toNat+(1+l.getD k M).toNat) M) aa aa)<|Fi 93 (1+l.getD k M)<|Fo ((0:Int)<=1+l.getD k M/\(1+l.getD k M).toNat<n.toNat)<|Fa (by(simp only[List.length_map];omega):(a-4096).toNat+(1+l.getD k M).toNat<(Ld wD (w.fwd (w.j.W.getD ((a-4096).toNat+(1+l.getD k M).toNat) M)).1.j.W).length)<|Fa (ms:(Ld wD (w.fwd (w.j.W.getD ((a-4096).toNat+(1+l.getD k M).toNat) M)).1.j.W).set ((a-4096).toNat+(1+l.getD k M).toNat) [ZD (w.fwd (w.j.W.getD ((a-4096).toNat+(1+l.getD k M).toNat) M)).2.1]=Ld wD ((w.fwd (w.j.W.getD ((a-4096).toNat+(1+l.getD k M).toNat) M)).1.j.W.set ((a-4096).toNat+(1+l.getD k M).toNat) (w.fwd (w.j.W.getD ((a-4096).toNat+(1+l.getD k M).toNat) M)).2.1))<|Fx 96 k Fz
theorem Zbj(e:¬ (w.fwd (Z5 w.j.W (a+1+l.getD k M)).1).2.2=0):CP (Zn f133 0) (D6 w a n l k).st .ret (Tg.st ⟨tm 116 [(2,bL Lb),(3,nI (w.fwd (Z5 w.j.W (a+1+l.getD k M)).1).2.2)],Ih w,60⟩):=by
 have g:(Z5 w.j.W (a+1+l.getD k M)).1=w.j.W.getD ((a-4096).toNat+(1+l.getD k M).toNat) M:=by(unfold Z5;rw[if_pos oq,show(a-4096).toNat+(1+l.getD k M).toNat=(a+1+l.getD k M-4096).toNat by omega];rfl)
 rw[g]at e f⊢;let d:=1+l.getD k M;let c:=w.j.W.getD ((a-4096).toNat+d.toNat) M;exact sF [] []<|Fh 84 [.el (wD c)]<|Ftb 75 (Lc ((k:Int)<(l.length:Int)))<|Fek 76 iD l (↑k) k<|Fi 82 d<|Fo ((0:Int)<=1+l.getD k M/\d.toNat<n.toNat)<|Fa (ZT oq:(Ld wD w.j.W)[(a-4096).toNat+d.toNat]?=Le (wD c))<|Fbq 85 [0,1,8002,3,8004,8005] (@Z63 w c aa aa)<|Ftb 89 ((w.fwd c).2.2 != 0) Fz
end
def Zhc w a n l:CP (Zn f133 0) (D6 w a n l l.length).st (.ext 0) (Tg.st ⟨tm 116 [(0,.pt 0 0 0),(9,ZG l)],Ih w,12⟩):=by exact sF [] []<|Ffb 75 (Lc ((l.length:Int)<(l.length:Int))) Fz
structure Tr (w:Z8) (a:Int) (l:List Int):Prop where
 f:∀k,k<l.length->(∀j,j<k->Ce w a l j=0)->FwOk (BH w a l k) (Z5 (BH w a l k).j.W (a+1+l.getD k M)).1
 h:∀k,k<=l.length->(∀j,j<k->Ce w a l j=0)->(BH w a l k).j.W.length=w.j.W.length
 m:∀k,k<l.length->(∀j,j<k->Ce w a l j=0)->((BH w a l k).fwd (Z5 (BH w a l k).j.W (a+1+l.getD k M)).1).2.2=0->((BH w a l k).fwd (Z5 (BH w a l k).j.W (a+1+l.getD k M)).1).1.j.W.length=w.j.W.length
section
variable(w:Z8)(a n:Int)(l:List Int)(hN:Tr w a l)(b:l.length<=255)(hr:∀x∈l,0<=x/\x+1<n)(d:n<=256)(c:4096<=a/\a-4096+n<=w.j.W.length)
include hN b hr d c
theorem Zb4(m:(Lf l.length).find? (λk=>Lc (Ce w a l k≠0))=Ln):CP (Zl f133 0) (Tg.st ⟨tm 116 [(0,.pt 0 0 0),(2,bL Lb),(3,nI 0),(5,.os 1 (a-4096).toNat n.toNat),(9,ZG l),(72,ZG l),(73,nI l.length),(74,nI 0)],Ih w,12⟩) .nrm (Tg.st ⟨tm 116 [(0,.pt 0 0 0),(9,ZG l)],Ih (BH w a l l.length),12⟩):=by
 have g:∀j,j<l.length->Ce w a l j=0:=λj i=>by(have:=Lk.1 m j (Lh.2 i);simpa using this)
 have o:∀k,k<l.length->0<=l.getD k M/\l.getD k M+1<n:=λk e=>hr _ (C1.2 ⟨k,e,rfl⟩);exact Bs (S:=λk=>(D6 (BH w a l k) a n l k).st) l.length kr (λk e=>by
  have f:∀j,j<k->Ce w a l j=0:=λj i=>g j oq;have h:=hN.h k oq f;exact Z6L _ a n l k e b (o k e) d (by rw[h];exact c) (hN.f k e f) (g k e) ((hN.m k e f (g k e)).trans h.symm)) (Zhc _ a n l)
theorem Zgl i(s:(Lf l.length).find? (λk=>Lc (Ce w a l k≠0))=Le i):CP (Zl f133 0) (Tg.st ⟨tm 116 [(0,.pt 0 0 0),(2,bL Lb),(3,nI 0),(5,.os 1 (a-4096).toNat n.toNat),(9,ZG l),(72,ZG l),(73,nI l.length),(74,nI 0)],Ih w,12⟩) .ret (Tg.st ⟨tm 116 [(2,bL Lb),(3,nI (Ce w a l i))],Ih (BH w a l i),60⟩):=by
 obtain⟨q,f,r⟩:=Lj.1 s;have f:=Lh.1 f;have e:∀j,j<i->Ce w a l j=0:=λj o=>by simpa using r j o
 have p:∀k,k<l.length->0<=l.getD k M/\l.getD k M+1<n:=λk h=>hr _ (C1.2 ⟨k,h,rfl⟩);exact EF (S:=λk=>(D6 (BH w a l k) a n l k).st) i kr (λk h=>by
  have m:∀j,j<k->Ce w a l j=0:=λj o=>e j oq;have g:=hN.h k oq m;exact Z6L _ a n l k oq b (p k oq) d (by rw[g];exact c) (hN.f k oq m) (e k h) ((hN.m k oq m (e k h)).trans g.symm)) (by
  have g:=hN.h i oq e;exact Zbj _ a n l i f b (p i f) d (by rw[g];exact c) (hN.f i f e) (of_decide_eq_true q))
end
def ZcL w(k:HH w)(hs:w.D<w.Q.length)(sc:0<=w.D)(hr:4096<=w.Q.getD w.D.toNat M/\w.Q.getD w.D.toNat M+ZE w.j.W (w.Q.getD w.D.toNat M)<4096+w.j.W.length)(hd:(Z7 (Z5 w.j.W (w.Q.getD w.D.toNat M)).1).2=O)(hN:Tr w (BU w) (Bg w))(a:∀j,j<(Bg w).length->Ce w (BU w) (Bg w) j=0):BP 133 [.pt 0 0 0] w.ckp (.tu [bL O,nI 0]) (Ii (BH w (BU w) (Bg w) (Bg w).length) (Bg w).length).ckq:=by
 have c:(Lf (Bg w).length).find? (λk=>Lc (Ce w (BU w) (Bg w) k≠0))=Ln:=Lk.2 λj d=>by simp[a j (Lh.1 d)]
 have f:=k.mem;obtain⟨h1,h2,h3,h4,h5⟩:=k.ln;have ok:=k.ok;have k1:=Nj ok (BU w) (Bg w) (Bg w).length a;have h:=k1.1.rs;have i:=k1.1.sc;have l:=k1.1.mu;have pr:=(Z0j (Zx w (BU w)));have pl:∀x∈Bg w,0<=x/\x+1<ZE w.j.W (BU w)+1:=λx g=>by(have:=AY (Zx w (BU w)) x g;unfold Zx at this;unfold ZE;omega)
 have lr:=Ch w.j.W (w.Q.getD w.D.toNat M);have cf:=BR.1 ok.C;have ld:=EW ok.W (w.Q.getD w.D.toNat M);have b:=HC w (w.Q.getD w.D.toNat M);have m:=NE w (w.Q.getD w.D.toNat M);have e:=IT (Z5 w.j.W (w.Q.getD w.D.toNat M)).1 ld.1;have el:(Z5 w.j.W (w.Q.getD w.D.toNat M)).1=w.j.W.getD ((w.Q.getD w.D.toNat M-4096).toNat+La 0) M:=by(unfold Z5;rw[if_pos oq];rfl)
 unfold Bg BU Zx at *;rw[el]at hd ld b m e hN a c k1 h i l pr⊢;try rw[el]at pl
 rw[show Ii (BH w (w.Q.getD w.D.toNat M) (ZA (Z7 (w.j.W.getD ((w.Q.getD w.D.toNat M-(4096:Int)).toNat+La (0:Int)) M)).1) (ZA (Z7 (w.j.W.getD ((w.Q.getD w.D.toNat M-(4096:Int)).toNat+La (0:Int)) M)).1).length) (↑(ZA (Z7 (w.j.W.getD ((w.Q.getD w.D.toNat M-(4096:Int)).toNat+La (0:Int)) M)).1).length:Int)=Z8.mk (BH w (w.Q.getD w.D.toNat M) (ZA (Z7 (w.j.W.getD ((w.Q.getD w.D.toNat M-(4096:Int)).toNat+La (0:Int)) M)).1) (ZA (Z7 (w.j.W.getD ((w.Q.getD w.D.toNat M-(4096:Int)).toNat+La (0:Int)) M)).1).length).j (BH w (w.Q.getD w.D.toNat M) (ZA (Z7 (w.j.W.getD ((w.Q.getD w.D.toNat M-(4096:Int)).toNat+La (0:Int)) M)).1) (ZA (Z7 (w.j.W.getD ((w.Q.getD w.D.toNat M-(4096:Int)).toNat+La (0:Int)) M)).1).length).old (BH w (w.Q.getD w.D.toNat M) (ZA (Z7 (w.j.W.getD ((w.Q.getD w.D.toNat M-(4096:Int)).toNat+La (0:Int)) M)).1) (ZA (Z7 (w.j.W.getD ((w.Q.getD w.D.toNat M-(4096:Int)).toNat+La (0:Int)) M)).1).length).T (BH w (w.Q.getD w.D.toNat M) (ZA (Z7 (w.j.W.getD ((w.Q.getD w.D.toNat M-(4096:Int)).toNat+La (0:Int)) M)).1) (ZA (Z7 (w.j.W.getD ((w.Q.getD w.D.toNat M-(4096:Int)).toNat+La (0:Int)) M)).1).length).Q ((BH w (w.Q.getD w.D.toNat M) (ZA (Z7 (w.j.W.getD ((w.Q.getD w.D.toNat M-(4096:Int)).toNat+La (0:Int)) M)).1) (ZA (Z7 (w.j.W.getD ((w.Q.getD w.D.toNat M-(4096:Int)).toNat+La (0:Int)) M)).1).length).D+(1:Int)) (GB.mk (BH w (w.Q.getD w.D.toNat M) (ZA (Z7 (w.j.W.getD ((w.Q.getD w.D.toNat M-(4096:Int)).toNat+La (0:Int)) M)).1) (ZA (Z7 (w.j.W.getD ((w.Q.getD w.D.toNat M-(4096:Int)).toNat+La (0:Int)) M)).1).length).rep.copied (BH w (w.Q.getD w.D.toNat M) (ZA (Z7 (w.j.W.getD ((w.Q.getD w.D.toNat M-(4096:Int)).toNat+La (0:Int)) M)).1) (ZA (Z7 (w.j.W.getD ((w.Q.getD w.D.toNat M-(4096:Int)).toNat+La (0:Int)) M)).1).length).rep.kept (BH w (w.Q.getD w.D.toNat M) (ZA (Z7 (w.j.W.getD ((w.Q.getD w.D.toNat M-(4096:Int)).toNat+La (0:Int)) M)).1) (ZA (Z7 (w.j.W.getD ((w.Q.getD w.D.toNat M-(4096:Int)).toNat+La (0:Int)) M)).1).length).rep.filled (BH w (w.Q.getD w.D.toNat M) (ZA (Z7 (w.j.W.getD ((w.Q.getD w.D.toNat M-(4096:Int)).toNat+La (0:Int)) M)).1) (ZA (Z7 (w.j.W.getD ((w.Q.getD w.D.toNat M-(4096:Int)).toNat+La (0:Int)) M)).1).length).rep.freed (BH w (w.Q.getD w.D.toNat M) (ZA (Z7 (w.j.W.getD ((w.Q.getD w.D.toNat M-(4096:Int)).toNat+La (0:Int)) M)).1) (ZA (Z7 (w.j.W.getD ((w.Q.getD w.D.toNat M-(4096:Int)).toNat+La (0:Int)) M)).1).length).rep.cleared ((BH w (w.Q.getD w.D.toNat M) (ZA (Z7 (w.j.W.getD ((w.Q.getD w.D.toNat M-(4096:Int)).toNat+La (0:Int)) M)).1) (ZA (Z7 (w.j.W.getD ((w.Q.getD w.D.toNat M-(4096:Int)).toNat+La (0:Int)) M)).1).length).rep.steps+((1:Int)+(↑(ZA (Z7 (w.j.W.getD ((w.Q.getD w.D.toNat M-(4096:Int)).toNat+La (0:Int)) M)).1).length:Int))))from by(simp[Ii, *];omega)];exact borF [0,1,8002,3,8004,8005] [8002,8004,8005] func133 []<|Fh 52 [.el (wD (w.j.W.getD ((w.Q.getD w.D.toNat M-4096).toNat+La 0) M))]<|FlG 28 (!decide (w.D<0)) wD w.Q<|Ffb 30 (Lc (w.D<0)||Lc ((w.Q.length:Int)<=w.D))<|Fmq 40 wD w.Q w.D<|Fbq 44 [0,1,8002,3,8004,8005] (@H9 w (w.Q.getD w.D.toNat M) (1) aa oq)<|Fo ((0:Int)<=0/\La 0<La 1)<|Fa (ZT oq:(Ld wD w.j.W)[(w.Q.getD w.D.toNat M-4096).toNat+La 0]?=Le (wD (w.j.W.getD ((w.Q.getD w.D.toNat M-4096).toNat+La 0) M)))<|Fc 53 (@GX (w.j.W.getD ((w.Q.getD w.D.toNat M-4096).toNat+La 0) M) oq oq)<|Fc 60 (@CK ((Z7 (w.j.W.getD ((w.Q.getD w.D.toNat M-4096).toNat+La 0) M)).1) aa)<|Fbq 61 [0,1,8002,3,8004,8005] (@H9 w (w.Q.getD w.D.toNat M) (Z1 (Z7 (w.j.W.getD ((w.Q.getD w.D.toNat M-4096).toNat+La 0) M)).1) aa oq)<|Ffs 69 (!(Z7 (w.j.W.getD ((w.Q.getD w.D.toNat M-4096).toNat+La 0) M)).2||Lb)<|Fc 71 (@Pz ((Z7 (w.j.W.getD ((w.Q.getD w.D.toNat M-4096).toNat+La 0) M)).1) aa)<|Fl 73 iD (ZA (Z7 (w.j.W.getD ((w.Q.getD w.D.toNat M-(4096:Int)).toNat+La (0:Int)) M)).1)<|Fu (@Zb4 w (w.Q.getD w.D.toNat M) (Z1 (Z7 (w.j.W.getD ((w.Q.getD w.D.toNat M-4096).toNat+La 0) M)).1) (ZA (Z7 (w.j.W.getD ((w.Q.getD w.D.toNat M-4096).toNat+La 0) M)).1) aa oq (by grind[Ii]) oq oq aa)<|Fi 101 ((BH w (w.Q.getD w.D.toNat M) (ZA (Z7 (w.j.W.getD ((w.Q.getD w.D.toNat M-4096).toNat+La 0) M)).1) (ZA (Z7 (w.j.W.getD ((w.Q.getD w.D.toNat M-4096).toNat+La 0) M)).1).length).D+1)<|Fl 110 iD (ZA (Z7 (w.j.W.getD ((w.Q.getD w.D.toNat M-(4096:Int)).toNat+La (0:Int)) M)).1)<|Fi 111 (1+(↑(ZA (Z7 (w.j.W.getD ((w.Q.getD w.D.toNat M-4096).toNat+La 0) M)).1).length:Int))<|Fi 112 ((BH w (w.Q.getD w.D.toNat M) (ZA (Z7 (w.j.W.getD ((w.Q.getD w.D.toNat M-4096).toNat+La 0) M)).1) (ZA (Z7 (w.j.W.getD ((w.Q.getD w.D.toNat M-4096).toNat+La 0) M)).1).length).rep.steps+(1+(↑(ZA (Z7 (w.j.W.getD ((w.Q.getD w.D.toNat M-4096).toNat+La 0) M)).1).length:Int))) Fz
def Zk0 w(k:HH w)(hs:w.D<w.Q.length)(sc:0<=w.D)(hr:4096<=w.Q.getD w.D.toNat M/\w.Q.getD w.D.toNat M+ZE w.j.W (w.Q.getD w.D.toNat M)<4096+w.j.W.length)(hd:(Z7 (Z5 w.j.W (w.Q.getD w.D.toNat M)).1).2=O)(hN:Tr w (BU w) (Bg w)) i(b:(Lf (Bg w).length).find? (λk=>Lc (Ce w (BU w) (Bg w) k≠0))=Le i):BP 133 [.pt 0 0 0] w.ckp (.tu [bL Lb,nI (Ce w (BU w) (Bg w) i)]) (BH w (BU w) (Bg w) i).ckq:=by
 have d:=k.mem;obtain⟨h1,h2,h3,h4,h5⟩:=k.ln;have ok:=k.ok;have pr:=(Z0j (Zx w (BU w)));have pl:∀x∈Bg w,0<=x/\x+1<ZE w.j.W (BU w)+1:=λx e=>by(have:=AY (Zx w (BU w)) x e;unfold Zx at this;unfold ZE;omega)
 have lr:=Ch w.j.W (w.Q.getD w.D.toNat M);have cf:=BR.1 ok.C;have ld:=EW ok.W (w.Q.getD w.D.toNat M);have a:=HC w (w.Q.getD w.D.toNat M);have f:=NE w (w.Q.getD w.D.toNat M);have c:=IT (Z5 w.j.W (w.Q.getD w.D.toNat M)).1 ld.1;have el:(Z5 w.j.W (w.Q.getD w.D.toNat M)).1=w.j.W.getD ((w.Q.getD w.D.toNat M-4096).toNat+La 0) M:=by(unfold Z5;rw[if_pos oq];rfl)
 unfold Bg BU Zx at *;rw[el]at hd ld a f c hN b pr⊢;try rw[el]at pl
 exact borF [0,1,8002,3,8004,8005] [8002,8004,8005] func133 []<|Fh 52 [.el (wD (w.j.W.getD ((w.Q.getD w.D.toNat M-4096).toNat+La 0) M))]<|FlG 28 (!decide (w.D<0)) wD w.Q<|Ffb 30 (Lc (w.D<0)||Lc ((w.Q.length:Int)<=w.D))<|Fmq 40 wD w.Q w.D<|Fbq 44 [0,1,8002,3,8004,8005] (@H9 w (w.Q.getD w.D.toNat M) (1) aa oq)<|Fo ((0:Int)<=0/\La 0<La 1)<|Fa (ZT oq:(Ld wD w.j.W)[(w.Q.getD w.D.toNat M-4096).toNat+La 0]?=Le (wD (w.j.W.getD ((w.Q.getD w.D.toNat M-4096).toNat+La 0) M)))<|Fc 53 (@GX (w.j.W.getD ((w.Q.getD w.D.toNat M-4096).toNat+La 0) M) oq oq)<|Fc 60 (@CK ((Z7 (w.j.W.getD ((w.Q.getD w.D.toNat M-4096).toNat+La 0) M)).1) aa)<|Fbq 61 [0,1,8002,3,8004,8005] (@H9 w (w.Q.getD w.D.toNat M) (Z1 (Z7 (w.j.W.getD ((w.Q.getD w.D.toNat M-4096).toNat+La 0) M)).1) aa oq)<|Ffs 69 (!(Z7 (w.j.W.getD ((w.Q.getD w.D.toNat M-4096).toNat+La 0) M)).2||Lb)<|Fc 71 (@Pz ((Z7 (w.j.W.getD ((w.Q.getD w.D.toNat M-4096).toNat+La 0) M)).1) aa)<|Fl 73 iD (ZA (Z7 (w.j.W.getD ((w.Q.getD w.D.toNat M-(4096:Int)).toNat+La (0:Int)) M)).1)<|Fu (@Zgl w (w.Q.getD w.D.toNat M) (Z1 (Z7 (w.j.W.getD ((w.Q.getD w.D.toNat M-4096).toNat+La 0) M)).1) (ZA (Z7 (w.j.W.getD ((w.Q.getD w.D.toNat M-4096).toNat+La 0) M)).1) aa oq (by grind[]) oq oq i aa) Fz
structure HW (w:Z8):Prop where
 k:HH w
 sc:0<=w.D
 hr:w.D<w.Q.length->4096<=w.Q.getD w.D.toNat M/\w.Q.getD w.D.toNat M+ZE w.j.W (w.Q.getD w.D.toNat M)<4096+w.j.W.length
 hd:w.D<w.Q.length->(Z7 (Z5 w.j.W (w.Q.getD w.D.toNat M)).1).2=O
 hN:w.D<w.Q.length->Tr w (BU w) (Bg w)
def IM(w:Z8):Nat:=((Lf (Bg w).length).find? (λk=>Lc (Ce w (BU w) (Bg w) k≠0))).getD 0
def Z9s{w i}(h:(Lf (Bg w).length).find? (λk=>Lc (Ce w (BU w) (Bg w) k≠0))=Le i):IM w=i:=by unfold IM;rw[h];rfl
def Zer w(k:HH w)(hs:w.D<w.Q.length)(sc:0<=w.D)(hr:4096<=w.Q.getD w.D.toNat M/\w.Q.getD w.D.toNat M+ZE w.j.W (w.Q.getD w.D.toNat M)<4096+w.j.W.length)(hd:(Z7 (Z5 w.j.W (w.Q.getD w.D.toNat M)).1).2=O)(hN:Tr w (BU w) (Bg w))(a:(Lf (Bg w).length).find? (λk=>Lc (Ce w (BU w) (Bg w) k≠0))=Le (IM w)):BP 133 [.pt 0 0 0] w.ckp (.tu [bL Lb,nI (Ce w (BU w) (Bg w) (IM w))]) (BH w (BU w) (Bg w) (IM w)).ckq:=
 Zk0 w k hs sc hr hd hN (IM w) a
def KI.sd{h T}:∀w n,(∃a,KI h T a w)->∃a,KI h T a (Ii w n):=
 λw n ⟨a,k⟩=>⟨a,k.c,k.sp,k.old,k.pl,k.wl,k.pg,k.tk,k.tk0,k.q,k.hd,k.dt,k.lg⟩
section
variable{h:Heap}{T:Nat->List Int}{w:Z8}(c:EB h T w)(g:Gd h T)
include c g
theorem EB.dec{q:Int}(b:q∈w.Q):(Z7 (Z5 w.j.W q).1).2=O:=by obtain⟨tq,k⟩:=c.k;rcases k.q q b with⟨i,nt,a,hk,d⟩|⟨i,f,a⟩;rcases k.hd i q a with e|e;rw[e];exact(g.on a).2.2.2.2.2.1;exact absurd e.2.2 d;exact(I7 (k.tk i f).2.2.2.2.2.1 a).1
theorem EB.inn{q:Int}(a:q∈w.Q){l:List Int}(hl:∀x∈l,0<=x/\x<ZE w.j.W q)(k:Nat)(d:k<=l.length)(b:∀j,j<k->Ce w q l j=0):EB h T (BH w q l k):=
 ⟨Mj (λw=>∃o,KI h T o w) (λw q j f n ⟨_,k⟩ a i m e=>k.in1 g f n a ⟨i,m⟩ e) c.ok c.inv c.k a hl k d b,(Nj c.ok q l k b).1,(Tl c.ok c.inv a hl k d b).1,Mj (λw=>H4 w.j.P) (λw q j f n p a i m e=>p.fwd f _ e) c.ok c.inv c.so a hl k d b⟩
theorem EB.step(e:(Ba w).2.2=0):EB h T (Ba w).1:=
 ⟨Z0H (λw=>∃l,KI h T l w) (λw q j a f ⟨_,k⟩ i b d e=>k.in1 g a f i ⟨b,d⟩ e) KI.sd c.ok c.inv c.k e,(Z1v c.ok e).1,(Z1N c.ok c.inv e).1,Z0H (λw=>H4 w.j.P) (λw q j a f p i b d e=>p.fwd a _ e) (λ_ _ p=>p) c.ok c.inv c.so e⟩
theorem EB.stp:HW w:=by have sc:=c.ok.sc;have i:w.D<w.Q.length->BU w∈w.Q:=λb=>C1.2 ⟨w.D.toNat,by omega,rfl⟩;refine⟨c.ck,sc.1,λb=>c.inv.r _ (Lp _ (i b)),λb=>c.dec g (i b),λb=>?_⟩;obtain⟨tq,m⟩:=c.k;have n:=AY (Zx w (BU w));have f:=λk d a=>c.inn g (i b) (l:=Bg w) n k d a;refine⟨λk d a=>(f k oq a).fw g (EW (f k oq a).ok.W _),λk d a=>?_,λk d a e=>?_⟩;obtain⟨_,j⟩:=(f k d a).k;exact j.wl.trans m.wl.symm;obtain⟨_,j⟩:=((f k oq a).fwd g e).k;exact j.wl.trans m.wl.symm
theorem EB.roots{roots}(k:Nat)(a:∀j,j<k->Ev w roots j=0):EB h T (Ck w roots k).1:=by
 induction k with|zero=>exact c|succ k b=>exact(b λj hj=>a j oq).fwd g (a k oq)
theorem EB.rts{roots}(hr:Zz roots):Z20 w roots:=λk hk a=>(c.roots g k a).fw g (Z1w hr k)
theorem EB.rootsF{roots}(e:(rootsF w roots).2.2=0):EB h T (rootsF w roots).1:=by
 cases hb:(Lf roots.length).find? (λk=>Lc (Ev w roots k≠0))with
 |none =>
  have b:∀j,j<roots.length->Ev w roots j=0:=λj d=>by(have:=Lk.1 hb j (Lh.2 d);simpa using this)
  have a:Go.Proofs.YtkmnngahjnkdmaaGreat.rootsF w roots=((Ck w roots roots.length).1,(Ck w roots roots.length).2,0):=by unfold Go.Proofs.YtkmnngahjnkdmaaGreat.rootsF;rw[hb]
  rw[a];exact c.roots g _ b
 |some i =>
  have a:Go.Proofs.YtkmnngahjnkdmaaGreat.rootsF w roots=(ES,[],Ev w roots i):=by unfold Go.Proofs.YtkmnngahjnkdmaaGreat.rootsF;rw[hb]
  rw[a]at e;have:=of_decide_eq_true (Lj.1 hb).1;exact absurd e this
end
def Nk(w:Z8):List (Nat×Z3):=[(22009,Bj w.Q),(21009,ET w.T),(20009,Bj w.old),(19009,EV w.j.P),(18009,Bj w.j.W)]
def Dt(w:Z8):Tg:=⟨tm 26 [(2,.pt 8002 0 0),(3,nI 0),(4,.pt 17009 0 0),(5,.fm 133 (.pt 17009 0 0))],(8002,.box 129 zW)::(17009,w.ckB 18009 19009 20009 21009 22009)::Nk w,4⟩
def Zip{w}(m:(Ba w).2.1=O):w.D<w.Q.length/\(∀j,j<(Bg w).length->Ce w (BU w) (Bg w) j=0)/\(Ba w).1=Ii (BH w (BU w) (Bg w) (Bg w).length) (Bg w).length:=by
 unfold Ba at m⊢;split at m;rename_i a;rw[if_pos a];cases hb:(Lf (Bg w).length).find? (λk=>Lc (Ce w (BU w) (Bg w) k≠0))with|none =>refine⟨a,λj b=>?_,rfl⟩;have:=Lk.1 hb j (Lh.2 b);simpa using this|some i=>rw[hb]at m;cases m
 cases m
def step_end{w}(e:(Ba w).2.2=0)(m:(Ba w).2.1=Lb):¬ w.D<w.Q.length/\(Ba w).1=w:=by
 unfold Ba at e m⊢;split at m;rename_i a;rw[if_pos a]at e;cases hb:(Lf (Bg w).length).find? (λk=>Lc (Ce w (BU w) (Bg w) k≠0))with|none=>rw[hb]at m;cases m|some i =>rw[hb]at e;exact absurd e (of_decide_eq_true (Lj.1 hb).1)
 rename_i a;rw[if_neg a];exact⟨a,rfl⟩
def Z4A w(k:HW w)(m:(Ba w).2.1=O):CP (Zn f80 0) (Dt w).st .nrm (Dt (Ba w).1).st:=by obtain⟨a,h0,e⟩:=Zip m;rw[e];obtain⟨kk,sc,hr,hd,hN⟩:=k;have hr:=hr a;have hd:=hd a;have hN:=hN a;exact sF [(33014,19009),(34014,21009),(35014,22009)] []<|Fbr 14 [17009,18009,19009,20009,21009,22009] (@ZcL w aa aa aa aa aa aa aa) Fz
def Ze6 w(k:HW w)(hs:¬ w.D<w.Q.length):CP (Zn f80 0) (Dt w).st .ret (Tg.st ⟨tm 26 [(2,.pt 8002 0 0),(3,nI 0)],(8002,.box 129 (w.ckc 18009 19009 20009 21009 22009))::Nk w,60⟩):=by have ln:=k.k.ln;have sc:=k.sc;exact sF [] []<|Fbq 14 [17009,18009,19009,20009,21009,22009] (@Zef w aa aa aa) Fz
def PD(w:Z8):Prop:=∀k,(∀j,j<k->Eb w j=Lb)->HW (CN w k)/\(Ba (CN w k)).2.2=0
def Z6x{w}{j:Nat}(h:Eb w j=Lb):(Ba (CN w j)).2.1=O:=by simp only[Eb,decide_eq_false_iff_not,not_or,Lr]at h;simpa using h.2
def Zar w(R:PD w) k(d:(Lf (Sc w)).find? (Eb w)=Le k):CP (Zl f80 0) (Tg.st ⟨tm 26 [(2,.pt 8002 0 0),(3,nI 0),(4,.pt 17009 0 0),(5,.fm 133 (.pt 17009 0 0))],(8002,.box 129 zW)::(17009,w.ckB 18009 19009 20009 21009 22009)::Nk w,4⟩) .ret (Tg.st ⟨tm 26 [(2,.pt 8002 0 0),(3,nI 0)],(8002,.box 129 ((Bz w).1.ckc 18009 19009 20009 21009 22009))::Nk (Bz w).1,60⟩):=by
 obtain⟨c,h2,l⟩:=Lj.1 d;have a:∀j,j<k->Eb w j=Lb:=λj b=>by simpa using l j b
 obtain⟨f,e⟩:=R k a;have m:(Ba (CN w k)).2.1=Lb:=by(simp only[Eb,decide_eq_true_eq,e]at c;simpa using c)
 obtain⟨n,g⟩:=step_end e m;have h:Bz w=(CN w k,0):=by rw[Bz,d];simp only[if_pos e];rw[g]
 rw[h];exact EF (S:=λk=>(Dt (CN w k)).st) k kr (λj b=>Z4A _ (R j λi hi=>a i oq).1 (Z6x (a j b))) (Ze6 _ f n)
def Zgi(w:Z8)(hw:Bh w)(R:PD w):GP 80 [w.av] O (.tu [(Bz w).1.av,nI 0]) []:=by
 obtain⟨k,hb⟩:=SV hw;have ln:=(R 0 λj hj=>absurd hj (LL j)).1.k.ln;have ln:Ro w:=ln;exact gF [] func80 []<|Fbr 9 [] (@Z0v w aa)<|Fu (@Zar w aa k hb)<|Fa (H6 _:Ca (Ld wD (Bz w).1.j.W))<|Fa (IP _:Ca (Ld Z0.dv (Bz w).1.j.P))<|Fa (H6 _:Ca (Ld wD (Bz w).1.old))<|Fa (Ma _:Ca (Ld iD (Bz w).1.T))<|Fa (H6 _:Ca (Ld wD (Bz w).1.Q)) Fz
def ZfK w(k:HW w)(e:(Ba w).2.2≠0):CP (Zn f80 0) (Dt w).st .ret (Tg.st ⟨tm 26 [(2,.pt 8002 0 0),(3,nI (Ba w).2.2)],[(8002,.box 129 zW)],60⟩):=by
 have a:w.D<w.Q.length:=by(by_cases q:w.D<w.Q.length;exact q;unfold Ba at e;rw[if_neg q]at e;exact absurd rfl e)
 cases hb:(Lf (Bg w).length).find? (λk=>Lc (Ce w (BU w) (Bg w) k≠0))with
 |none=>unfold Ba at e;rw[if_pos a,hb]at e;exact absurd rfl e
 |some i =>
  have b:(Ba w).2.2=Ce w (BU w) (Bg w) (IM w):=by unfold Ba;rw[if_pos a,hb,Z9s hb]
  rw[b]at e⊢;have c:(Lf (Bg w).length).find? (λk=>Lc (Ce w (BU w) (Bg w) k≠0))=Le (IM w):=by rw[hb,Z9s hb]
  obtain⟨kk,sc,hr,hd,hN⟩:=k;have hr:=hr a;have hd:=hd a;have hN:=hN a;exact sF [] []<|Fbr 14 [17009,18009,19009,20009,21009,22009] (@Zer w aa aa aa aa aa aa aa)<|Ftb 18 (Ce w (BU w) (Bg w) (IM w) != 0) Fz
def Z2v(w:Z8):Prop:=∀k,(∀j,j<k->Eb w j=Lb)->HW (CN w k)
def Zlb w(R:Z2v w) k(b:(Lf (Sc w)).find? (Eb w)=Le k)(e:(Bz w).2≠0):CP (Zl f80 0) (Tg.st ⟨tm 26 [(2,.pt 8002 0 0),(3,nI 0),(4,.pt 17009 0 0),(5,.fm 133 (.pt 17009 0 0))],(8002,.box 129 zW)::(17009,w.ckB 18009 19009 20009 21009 22009)::Nk w,4⟩) .ret (Tg.st ⟨tm 26 [(2,.pt 8002 0 0),(3,nI (Bz w).2)],[(8002,.box 129 zW)],60⟩):=by
 obtain⟨h1,h2,h⟩:=Lj.1 b;have a:∀j,j<k->Eb w j=Lb:=λj c=>by simpa using h j c
 have f:=R k a;have d:(Ba (CN w k)).2.2≠0:=λq=>e (by rw[Bz,b];simp only[if_pos q]);have g:(Bz w).2=(Ba (CN w k)).2.2:=by rw[Bz,b];simp only[if_neg d]
 rw[g];exact EF (S:=λk=>(Dt (CN w k)).st) k kr (λj c=>Z4A _ (R j λi hi=>a i oq) (Z6x (a j c))) (ZfK _ f d)
def ZgW w(d:Bh w)(R:Z2v w)(e:(Bz w).2≠0):GP 80 [w.av] O (.tu [ES.av,nI (Bz w).2]) []:=by obtain⟨k,b⟩:=SV d;have a:=(R 0 λj c=>absurd c (LL j)).k.ln;have a:Ro w:=a;exact gF [] func80 []<|Fbr 9 [] (@Z0v w aa)<|Fu (@Zlb w aa k b aa)<|Fnl (Fnl (Fnl (Fnl (Fnl Fz))))
end Go.Proofs.YtkmnngahjnkdmaaGreat
namespace Go.Proofs.YtkmnngahjnkdmaaGreat
open Go.Sx Go.RowKit
structure RD (h:Heap) (s k:List Int) (w0:Z8) (g:Bool):Prop where
 b:GP 77 [h.av] Lb (.tu [w0.av,nI 0]) []
 r:GP 31 [h.av,Z2 (s++k)] O (bL g) []
 sl:s.length<=1000
 kl:k.length<=1000
structure TN (s:List Int) (w0 w1:Z8) (l:List Int) (e:Int):Prop where
 t:GP 79 [w0.av,Z2 s] O (.tu [w1.av,Z2 l,nI e]) []
structure Z2q (w1 w2:Z8) (e:Int):Prop where
 a:GP 80 [w1.av] O (.tu [w2.av,nI e]) []
def clY(h:Heap)(s k:List Int)(w:Z8)(x:AV)(e:Int):Tg:=⟨tm 79 [(1,Z2 s),(2,Z2 k),(3,.pt 5 0 0),(6,.pt 0 0 0),(7,.pt 1 0 0),(8,.pt 2 0 0),(9,.pt 3 0 0),(10,.pt 4 0 0),(11,.pt 24011 0 0)],[(24011,.box 129 w.cells),(0,.box 27 [nI 0,nI 0,.d (.sl 0 []),.d (.sl 0 []),nI 0,nI 0]),(1,.box 24 [x]),(2,.box 24 [.d (.sl 0 [])]),(3,.box 46 [nI 0,nI 0,nI 0,nI 0,nI 0,nI 0]),(4,.box 49 [nI e]),(5,.box 27 h.cells)],60⟩
section
variable{h:Heap}{s k l:List Int}{w0 w1 w2:Z8}{g:Bool}{e:Int}
theorem Zg6(c:RD h s k w0 g):GP 77 [h.av] Lb (.tu [w0.av,nI 0]) []:=c.b
theorem Z6v(c:RD h s k w0 g):GP 31 [h.av,Z2 (s++k)] O (bL g) []:=c.r
theorem Z50(c:TN s w0 w1 l e):GP 79 [w0.av,Z2 s] O (.tu [w1.av,Z2 l,nI e]) []:=c.t
theorem Zae(c:Z2q w1 w2 e):GP 80 [w1.av] O (.tu [w2.av,nI e]) []:=c.a
theorem Z3q(c:RD h s k w0 g):CP (Cv f34 2) (clX h s k).st .nrm (clY h s k w0 (.d (.sl 0 [])) 0).st:=by exact sF [(16011,24011)] []<|Fc 16 (@Zg6 h s k w0 g aa) Fz
theorem Zc7(c:RD h s k w0 Lb):CP (Cv f34 3) (clY h s k w0 (.d (.sl 0 [])) 0).st .nrm (pnQ (.d (.sl 0 [])) 19).st:=by have sl:=c.sl;have kl:=c.kl;exact sF [] []<|FcG 26 ((0:Int)==0) (λa=>by(try simp only[bs]at a);exact@RJ s k oq oq)<|FcG 27 ((0:Int)==0) (λa=>by(try simp only[bs]at a);exact@Z6v h s k w0 Lb aa) Fz
theorem Z6Z(c:RD h s k w0 O):CP (Cv f34 3) (clY h s k w0 (.d (.sl 0 [])) 0).st .nrm (clY h s k w0 (.d (.sl 0 [])) 0).st:=by have sl:=c.sl;have kl:=c.kl;exact sF [] []<|FcG 26 ((0:Int)==0) (λa=>by(try simp only[bs]at a);exact@RJ s k oq oq)<|FcG 27 ((0:Int)==0) (λa=>by(try simp only[bs]at a);exact@Z6v h s k w0 O aa) Fz
theorem pnM w:CP (Cv f34 4) (clY h s k w (.d (.sl 0 [])) 0).st .nrm (clY h s k w (.d (.sl 0 [])) 0).st:=by exact sF [] []<|Fc 31 (@HN (0) (by rfl)) Fz
theorem pnR(c:TN s w0 w1 l e):CP (Cv f34 5) (clY h s k w0 (.d (.sl 0 [])) 0).st .nrm (clY h s k w1 (Z2 l) e).st:=by exact sF [] []<|Fc 35 (@Z50 s l w0 w1 e aa) Fz
theorem ZfM(c:TN s w0 w1 l e):CP (Cv f34 5) (clY h s k w0 (.d (.sl 0 [])) 0).st .nrm (pnQ (Z2 l) e).st:=by exact sF [] []<|Fc 35 (@Z50 s l w0 w1 e aa) Fz
theorem pnN w:CP (Cv f34 6) (clY h s k w (Z2 l) 0).st .nrm (clY h s k w (Z2 l) 0).st:=by exact sF [] []<|Fc 40 (@HN (0) (by rfl)) Fz
theorem pnS(c:Z2q w1 w2 e):CP (Cv f34 7) (clY h s k w1 (Z2 l) 0).st .nrm (pnQ (Z2 l) e).st:=by exact sF [] []<|Fc 43 (@Zae w1 w2 e aa) Fz
end
end Go.Proofs.YtkmnngahjnkdmaaGreat
namespace Go.Proofs.YtkmnngahjnkdmaaGreat
open Go.Sx
def Aq(w:Z8)(a:Int):Z8:=if(Zc w.j a).1.K=0\/a∈w.Q then w else⟨(GW w.j a (Z1 (Zc w.j a).1)).1,w.old,w.T,w.Q,w.D,⟨w.rep.copied,w.rep.kept,w.rep.filled+1,w.rep.freed,w.rep.cleared,w.rep.steps⟩⟩
def Er(w:Z8)(l:List Int):Nat->Z8|0=>w|j+1=>Aq (Er w l j) (l.getD j M)
def fpg(w:Z8)(i:Int):Z8:=if ZR w i=O then Er w (Zh w.j i).1 (Zh w.j i).1.length else w
def G1(w:Z8):Nat->Z8|0=>w|i+1=>fpg (G1 w i) i
def fiL(w:Z8)(i:Nat):Tg:=⟨tm 90 [(0,.pt 0 0 0),(14,nI w.j.P.length),(15,nI i)],[(0,w.evD)],3⟩
structure FilOk (w:Z8):Prop where
 ww:Zz w.j.W
 wl:w.j.W.length<=4096
 pl:w.j.P.length<=64
 ql:w.Q.length<=1048576
 pr:PU w
 fi:0<=w.rep.filled/\w.rep.filled<=1048576
def Zgr w(i:Nat)(k:FilOk w)(hi:i<w.j.P.length)(c:ZR w i=Lb):CP (Zn f82 0) (fiL w i).st .nrm (fiL w (i+1)).st:=by have pl:=k.pl;have pr:=k.pr;exact sF [] []<|Ftb 16 (Lc ((i:Int)<(w.j.P.length:Int)))<|Fc 22 (@Z9C w ((i:Int)) aa)<|Ftb 23 (!ZR w (i:Int))<|Fx 89 i Fz
def fjL(w:Z8)(l:List Int)(i j:Nat):Tg:=⟨tm 90 [(0,.pt 0 0 0),(14,nI w.j.P.length),(15,nI i),(35,Z2 l),(36,nI l.length),(37,nI j)],[(0,w.evD)],9⟩
def ZkS w(l:List Int)(i j:Nat)(k:FilOk w)(hl:l.length<=4096)(hj:j<l.length)(ha:0<=l.getD j M/\l.getD j M<=16384)(o:(Zc w.j (l.getD j M)).2=0)(c:(Zc w.j (l.getD j M)).1.K=0\/l.getD j M∈w.Q):CP (Zn f82 2) (fjL w l i j).st .nrm (fjL w l i (j+1)).st:=by have ql:=k.ql;have ww:=k.ww;by_cases d:(Zc w.j (l.getD j M)).1.K=0;let a:=l.getD j M;exact sF [] []<|Ftb 38 (Lc ((j:Int)<(l.length:Int)))<|Fek 39 wD l (↑j) j<|Fc 47 (@Np w.j a aa oq)<|Fc 51 (@HN ((Zc w.j a).2) aa)<|FcG 61 (!(Zc w.j a).1.K==0) (λe=>by(try simp only[bs]at e);exact@Es w.Q a aa)<|Ftb 62 ((Zc w.j a).1.K==0||Lc (l.getD j M∈w.Q))<|Fx 88 j Fz;have d2:=c.resolve_left d;let b:=l.getD j M;exact sF [] []<|Ftb 38 (Lc ((j:Int)<(l.length:Int)))<|Fek 39 wD l (↑j) j<|Fc 47 (@Np w.j b aa oq)<|Fc 51 (@HN ((Zc w.j b).2) aa)<|FcG 61 (!(Zc w.j b).1.K==0) (λe=>by(try simp only[bs]at e);exact@Es w.Q b aa)<|Ftb 62 ((Zc w.j b).1.K==0||Lc (l.getD j M∈w.Q))<|Fx 88 j Fz
def ZaY w(l:List Int)(i j:Nat)(k:FilOk w)(hl:l.length<=4096)(hj:j<l.length)(ha:0<=l.getD j M/\l.getD j M<=16384)(o:(Zc w.j (l.getD j M)).2=0)(c:¬ ((Zc w.j (l.getD j M)).1.K=0\/l.getD j M∈w.Q))(e:(GW w.j (l.getD j M) (Z1 (Zc w.j (l.getD j M)).1)).2=0)(pl:(GW w.j (l.getD j M) (Z1 (Zc w.j (l.getD j M)).1)).1.P=w.j.P):CP (Zn f82 2) (fjL w l i j).st .nrm (fjL (Aq w (l.getD j M)) l i (j+1)).st:=by
 have ql:=k.ql;have ww:=k.ww;have fi:=k.fi;have c1:¬ (Zc w.j (l.getD j M)).1.K=0:=λq=>c (.inl q);have c2:l.getD j M∉w.Q:=λq=>c (.inr q);have sb:=Ip (Zc w.j (l.getD j M)).1;have mp:=IE ww (l.getD j M);have e7:Aq w (l.getD j M)=⟨(GW w.j (l.getD j M) (Z1 (Zc w.j (l.getD j M)).1)).1,w.old,w.T,w.Q,w.D,⟨w.rep.copied,w.rep.kept,w.rep.filled+1,w.rep.freed,w.rep.cleared,w.rep.steps⟩⟩:=by rw[Aq,if_neg c]
 unfold fjL;rw[e7];simp only;rw[pl];exact sF [] []<|Ftb 38 (Lc ((j:Int)<(l.length:Int)))<|Fek 39 wD l (↑j) j<|Fc 47 (@Np w.j (l.getD j M) aa oq)<|Fc 51 (@HN ((Zc w.j (l.getD j M)).2) aa)<|FcG 61 (!(Zc w.j (l.getD j M)).1.K==0) (λhg=>by(try simp only[bs]at hg);exact@Es w.Q (l.getD j M) aa)<|Ffs 62 ((Zc w.j (l.getD j M)).1.K==0||Lc (l.getD j M∈w.Q))<|Fc 71 (@CK ((Zc w.j (l.getD j M)).1) aa)<|Fc 72 (@Zl7 w.j (l.getD j M) (Z1 (Zc w.j (l.getD j M)).1) aa oq oq)<|Fc 78 (@HN ((GW w.j (l.getD j M) (Z1 (Zc w.j (l.getD j M)).1)).2) aa)<|Fi 84 (w.rep.filled+1)<|Fx 88 j Fz
def Zg3 w l i:CP (Zn f82 2) (fjL w l i l.length).st (.ext 2) (Tg.st ⟨tm 90 [(0,.pt 0 0 0),(14,nI w.j.P.length),(15,nI i)],[(0,w.evD)],9⟩):=by exact sF [] []<|Ffb 38 (Lc ((l.length:Int)<(l.length:Int))) Fz
structure FjOk (w:Z8) (l:List Int):Prop where
 k:∀j,j<=l.length->FilOk (Er w l j)
 hl:l.length<=4096
 a:∀j,j<l.length->0<=l.getD j M/\l.getD j M<=16384
 o:∀j,j<l.length->(Zc (Er w l j).j (l.getD j M)).2=0
 f:∀j,j<l.length->¬ ((Zc (Er w l j).j (l.getD j M)).1.K=0\/l.getD j M∈(Er w l j).Q)->(GW (Er w l j).j (l.getD j M) (Z1 (Zc (Er w l j).j (l.getD j M)).1)).2=0/\(GW (Er w l j).j (l.getD j M) (Z1 (Zc (Er w l j).j (l.getD j M)).1)).1.P=(Er w l j).j.P
 pg:(Er w l l.length).j.P.length=w.j.P.length
def Zid w l(i:Nat)(c:FjOk w l)  := Bs (S:=λj=>(fjL (Er w l j) l i j).st) l.length (by kernel_rfl) (λj a=>by
  by_cases q:(Zc (Er w l j).j (l.getD j M)).1.K=0\/l.getD j M∈(Er w l j).Q
  .have e:Er w l (j+1)=Er w l j:=by rw[Er,Aq,if_pos q]
   rw[e];exact ZkS _ l i j (c.k j (by omega)) c.hl a (c.a j a) (c.o j a) q
  .obtain⟨b,d⟩:=c.f j a q;exact ZaY _ l i j (c.k j (by omega)) c.hl a (c.a j a) (c.o j a) q b d) (Zg3 (Er w l l.length) l i)
def ZgI w(i:Nat)(k:FilOk w)(hi:i<w.j.P.length)(c:ZR w i=O)(e:(Zh w.j i).2=0)(f:FjOk w (Zh w.j i).1):CP (Zn f82 0) (fiL w i).st .nrm (fiL (Er w (Zh w.j i).1 (Zh w.j i).1.length) (i+1)).st:=by have pl:=k.pl;have pr:=k.pr;have ww:=k.ww;have hl:=f.hl;have pg:=f.pg;unfold fiL;rw[pg];let a:=Zh w.j (i:Int);exact sF [] (fO 8)<|Ftb 16 (Lc ((i:Int)<(w.j.P.length:Int)))<|Fc 22 (@Z9C w ((i:Int)) aa)<|Ffb 23 (!ZR w (i:Int))<|Fc 30 (@Rj w.j ((i:Int)) aa oq)<|Fc 34 (@HN (a.2) aa)<|Fl 36 wD a.1<|Fu (@Zid w (a.1) i aa)<|Fx 89 i<|Fo ((↑(Er w a.1 a.1.length).j.P.length:Int)=(w.j.P.length:Int)) Fz
def ZjG w:CP (Zn f82 0) (fiL w w.j.P.length).st (.ext 0) (Tg.st ⟨tm 90 [(0,.pt 0 0 0)],[(0,w.evD)],3⟩):=by exact sF [] []<|Ffb 16 (Lc ((w.j.P.length:Int)<(w.j.P.length:Int))) Fz
structure FiOk (w:Z8):Prop where
 k:∀i,i<=w.j.P.length->FilOk (G1 w i)
 pg:∀i,i<=w.j.P.length->(G1 w i).j.P.length=w.j.P.length
 e:∀i:Nat,i<w.j.P.length->ZR (G1 w i) i=O->(Zh (G1 w i).j i).2=0/\FjOk (G1 w i) (Zh (G1 w i).j i).1
section
variable(w:Z8)(c:FiOk w)
include c
def ZeI  := Bs (S:=λi=>(fiL (G1 w i) i).st) w.j.P.length (by kernel_rfl) (λi d=>by
  have k:=c.k i (by omega);have pg:=c.pg i (by omega);by_cases q:ZR (G1 w i) i=O
  .obtain⟨a,b⟩:=c.e i d q;have e:G1 w (i+1)=Er (G1 w i) (Zh (G1 w i).j i).1 (Zh (G1 w i).j i).1.length:=by rw[G1,fpg,if_pos q]
   rw[e];exact ZgI _ i k (by omega) q a b
  .have e:G1 w (i+1)=G1 w i:=by rw[G1,fpg,if_neg q]
   rw[e];exact Zgr _ i k (by omega) (by simpa using q)) (by
  have:=ZjG (G1 w w.j.P.length);rw[c.pg _ (Li _)]at this;exact this)
theorem Zl1:BP 82 [.pt 0 0 0] [w.evD] (.tu []) [(G1 w w.j.P.length).evD]:=by have pl:=(c.k 0 (Nat.zero_le _)).pl;have pl:w.j.P.length<=64:=pl;exact lF func82 []<|Fl 14 Z0.dv w.j.P<|Fu (@ZeI w aa) Fz
end
def Zl5{w}(g:Bh w)(h:BM w){r n:Int}(hr:r∈w.old)(hq:r∉w.Q)(hn:n=ZE w.j.W r+1)(hp:n<=w.j.C.pw)(y:(w.place n).2.2=O):∀x∈w.old++w.Q,(x∈w.Q\/x≠r)->∀m,0<=m->m<=ZE w.j.W x->Z5 ((w.place n).1.copy r (w.place n).2.1 n).j.W (x+m)=Z5 w.j.W (x+m):=by
 have a2:=Ch w.j.W r;obtain⟨i,p,t,s,d,h3,h4,h5,h6,h7,v,e⟩:=Ov g ⟨by omega,hp⟩ y;have hb:=BR.1 g.C;have a5:=g.pl;have hL:=h.L;have a1:(i:Int)*w.j.C.pw+w.j.C.pw<=w.j.C.pw*w.j.C.pg:=by(have:=Gb (i:=i) (j:=w.j.C.pg) (pw:=w.j.C.pw) oq oq;rw[Ls w.j.C.pw];exact this)
 have a0:0<=(i:Int)*w.j.C.pw:=Lt oq oq;rw[e,v];generalize hu:CX (w.j.P.getD i M)=u at *;generalize ha:4096+(i:Int)*w.j.C.pw+u=at';have a6:=h.r r (Lg _ hr);have l:=h.f i s (by rcases d with d|d;exact Lw d;exact Lq d.1);rw[hu]at l;obtain⟨m1,m2,m3⟩:=MR (ws:=w.j.W) (a:=at') (b:=r) (n:=n) oq oq oq;have f:4096<=r/\r<4096+(moveA w.j.W at' r n).1.length:=by omega
 intro x o k m a3 a4;have z:=l x o;simp only[Z8.copy];rw[Nf f ?_,m3 _ oq];intro c;by_cases q:x=r;exact k.elim (λa=>hq (q▸a)) (λa=>a q);have:=h.s x o r (Lg _ hr) oq;omega
def Pe{w}(l:Bh w)(h:BM w) r(e:(w.fwd r).2.2=0):(∃m,(w.fwd r).1.Q=w.Q++m)/\(w.fwd r).1.D=w.D/\∀x∈w.old++w.Q,(x∈w.Q\/x≠r)->∀m,0<=m->m<=ZE w.j.W x->Z5 (w.fwd r).1.j.W (x+m)=Z5 w.j.W (x+m):=by
 unfold Z8.fwd at e⊢;split at e;simp_all;rename_i c1;rw[if_neg c1];have f:r∉w.Q:=λh=>c1 (Lq h);split at e;simp at e;rename_i c2;rw[if_neg c2];have a:r∈w.old:=Lr.1 c2;split at e;simp_all;rename_i c3;rw[if_neg c3];split at e;simp at e;rename_i c4;rw[if_neg c4];split at e;rename_i g;rw[if_pos g];exact⟨⟨[r],rfl⟩,rfl,λ_ _ _ _ _ _=>rfl⟩;rename_i g;rw[if_neg g];split at e;rename_i d;rw[if_pos d];exact⟨⟨[r],rfl⟩,rfl,λ_ _ _ _ _ _=>rfl⟩;rename_i d;rw[if_neg d];split at e;simp at e;rename_i n;rw[if_neg n];have b:(w.place (Z1 (Zx w r))).2.2=O:=by grind
 have c:=h.z r a;have k:Z1 (Zx w r)<=w.j.C.pw:=by(rw[HC];rcases c with c|c;exact absurd c d;exact c)
 have o:=Ch w.j.W r;obtain⟨i,p,t,p1,p2,p3,p4,p5,p6,p7,j⟩:=Z5z l ⟨by grind[HC],k⟩ b;refine⟨⟨[(w.place (Z1 (Zx w r))).2.1], ?_⟩, ?_,Zl5 l h a f (HC w r) k b⟩;rw[j];rfl;rw[j];rfl
def FD(w:Z8)(F:Int->Prop):Prop:=∀z,F z->(∃q j,q∈w.Q/\0<=j/\j<ZE w.j.W q/\z=q+1+j)/\Z0E w (Z5 w.j.W z).1
structure Sm (w v:Z8):Prop where
 q:∃m,v.Q=w.Q++m
 h:∀x∈w.Q,Ej v.j.W x=Ej w.j.W x
def Sm.trans{u v w}(a:Sm u v)(b:Sm v w):Sm u w:=by obtain⟨m,em⟩:=a.q;obtain⟨n,en⟩:=b.q;exact⟨⟨m++n,by grind⟩,λx c=>(b.h x (by grind)).trans (a.h x c)⟩
def Sm.mem{w v}(a:Sm w v){x:Int}(hx:x∈w.Q):x∈v.Q:=by obtain⟨m,em⟩:=a.q;grind
def Sm.len{w v}(a:Sm w v){x:Int}(b:x∈w.Q):ZE v.j.W x=ZE w.j.W x:=congrArg Zo.length (a.h x b)
def Sm.to{w v}(a:Sm w v){x}(b:Z0E w x):Z0E v x:=b.imp id a.mem
def Z9P{w}(b:Bh w)(h:BM w) r(e:(w.fwd r).2.2=0):Sm w (w.fwd r).1:=by have s:=Pe b h r e;refine⟨s.1,λx a=>?_⟩;have:=s.2.2 x (Lp _ a) (.inl a) 0 oq (Ch _ _).1;grind[Ej]
def FD.fwd{w F}(f:FD w F)(b:Bh w)(h:BM w) r(e:(w.fwd r).2.2=0):FD (w.fwd r).1 F:=by have s:=Pe b h r e;have m:=Z9P b h r e;intro z g;obtain⟨⟨q,j,a,c,d,rfl⟩,t⟩:=f z g;refine⟨⟨q,j,m.mem a,c,by rw[m.len a];exact d,rfl⟩, ?_⟩;have:=s.2.2 q (Lp _ a) (.inl a) (1+j) oq oq;rw[<-Int.add_assoc]at this;rw[this];exact m.to t
def ZkV{B w}(k:Bh w)(h:BM w)(hp:PR B w){F}(f:FD w F){q j:Int}(l:q∈w.Q)(o:0<=j/\j<ZE w.j.W q)(e:(w.fwd (Z5 w.j.W (q+1+j)).1).2.2=0):Sm w (w.in1 (q+1+j))/\(w.in1 (q+1+j)).D=w.D/\FD (w.in1 (q+1+j)) (λz=>F z\/z=q+1+j):=by
 have s:=Pe k h _ e;have m:=Z9P k h _ e;have t:=f.fwd k h _ e;have to:=Zfc w _ hp e;obtain⟨p,r⟩:=AZ k h _ e;have b:=r.q q l;have y:=r.l q l;have hr:=p.r q (Lp _ b);have v:4096<=q+1+j/\q+1+j<4096+(w.fwd (Z5 w.j.W (q+1+j)).1).1.j.W.length:=by omega
 have a0:∀x∈(w.fwd (Z5 w.j.W (q+1+j)).1).1.Q,x≠q+1+j:=by(intro x hx c;have:=p.s q (Lp _ b) x (Lp _ hx) oq;omega)
 have u:∀x∈(w.fwd (Z5 w.j.W (q+1+j)).1).1.Q,Ej (w.in1 (q+1+j)).j.W x=Ej (w.fwd (Z5 w.j.W (q+1+j)).1).1.j.W x:=by grind[Z8.in1,Ej,Nf]
 have g:Sm (w.fwd (Z5 w.j.W (q+1+j)).1).1 (w.in1 (q+1+j)):=⟨⟨[],by simp[Z8.in1]⟩,u⟩;refine⟨m.trans g,s.2.1, ?_⟩;intro z a;have n:(∃i d,i∈w.Q/\0<=d/\d<ZE w.j.W i/\z=i+1+d):=by(rcases a with a|rfl;exact(f z a).1;exact⟨q,j,l,o.1,o.2,rfl⟩)
 obtain⟨i,d,k1,k2,k3,k4⟩:=n;refine⟨⟨i,d,(m.trans g).mem k1,k2,by rw[(m.trans g).len k1];exact k3,k4⟩, ?_⟩;by_cases c:z=q+1+j;subst c;have:(Z5 (w.in1 (q+1+j)).j.W (q+1+j)).1=(w.fwd (Z5 w.j.W (q+1+j)).1).2.1:=by grind[Z8.in1,Pn]
 rw[this];exact g.to to;have:Z5 (w.in1 (q+1+j)).j.W z=Z5 (w.fwd (Z5 w.j.W (q+1+j)).1).1.j.W z:=by grind[Z8.in1,Nf]
 rw[this];rcases a with a|a;exact g.to (t z a).2;omega
section
variable{B:Int}(hB:0<=B)
include hB
theorem Z8J{w}(g:Bh w)(h:BM w)(n:PR B w){F}(f:FD w F){q:Int}(d:q∈w.Q){l:List Int}(hl:∀x∈l,0<=x/\x<ZE w.j.W q):∀k,k<=l.length->(∀j,j<k->Ce w q l j=0)->Sm w (BH w q l k)/\(BH w q l k).D=w.D/\FD (BH w q l k) (λz=>F z\/∃i,i<k/\z=q+1+l.getD i M)
 |0,_,_=>⟨⟨⟨[],by simp[BH]⟩,λ_ _=>rfl⟩,rfl,λz p=>f z (p.resolve_right oq)⟩
 |k+1,hk,he=>by
  obtain⟨a,b,c⟩:=Z8J g h n f d hl k oq (λj m=>he j oq);have ok:=(Nj g q l k (λj m=>he j oq)).1;have iv:=Tl g h d hl k oq (λj m=>he j oq);have pr:=Mj (PR B) (λw q j g t h d r s e=>PR.in1 hB w q j g t h d r s e) g h n d hl k oq (λj m=>he j oq);have o:=hl _ (C1.2 ⟨k,by omega,rfl⟩);obtain⟨d1,d2,d3⟩:=ZkV ok iv.1 pr c (a.mem d) (j:=l.getD k M) ⟨o.1,by rw[a.len d];exact o.2⟩ (he k oq);refine⟨a.trans d1,d2.trans b,λz p=>d3 z ?_⟩;grind
def SD(w:Z8):Prop:=FD w (λz=>∃i j,i<w.D.toNat/\j∈ZA (Ej w.j.W (w.Q.getD i M))/\z=w.Q.getD i M+1+j)
omit hB in
theorem Sm.get{w v}(a:Sm w v){i:Nat}(hi:i<w.Q.length):v.Q.getD i M=w.Q.getD i M:=by obtain⟨m,em⟩:=a.q;grind
theorem Za6{w}(o:Bh w)(h:BM w)(s:PR B w)(f:SD w)(e:(Ba w).2.2=0):SD (Ba w).1:=by
 by_cases u:w.D<w.Q.length;have v:=o.sc;have t:BU w∈w.Q:=C1.2 ⟨w.D.toNat,by omega,rfl⟩;unfold Ba at e⊢;rw[if_pos u]at e⊢;cases hb:(Lf (Bg w).length).find? (λk=>Lc (Ce w (BU w) (Bg w) k≠0))with
 |none =>
  have p:∀j,j<(Bg w).length->Ce w (BU w) (Bg w) j=0:=λj d=>by(grind)
  obtain⟨a,b,c⟩:=Z8J hB o h s f t (l:=Bg w) (AY (Zx w (BU w))) (Bg w).length (Li _) p;intro z x;obtain⟨i,j,m,d,rfl⟩:=x;simp only[Ii]at m d⊢;rw[b]at m;have g:=a.get (show i<w.Q.length by omega);have r:w.Q.getD i M∈w.Q:=C1.2 ⟨i,by omega,rfl⟩;rw[g,a.h _ r]at d;rw[g];refine c _ ?_;by_cases q:i=w.D.toNat
  subst q;obtain⟨n,y,n2⟩:=C1.1 d;exact Lq ⟨n,y,by rw[<-n2];rfl⟩;grind
 |some k =>grind
 grind[Ba]
theorem Z6y{w}(a:Bh w)(h:BM w)(d:PR B w)(f:SD w):∀k,(∀j,j<k->Eb w j=Lb)->SD (CN w k)
 |0,_=>f
 |k+1,hh=>by
  have o:=Z6y a h d f k (λj b=>hh j oq);have ok:=(IB a k (λj b=>hh j oq)).1;have iv:=(Dv a h k (λj b=>hh j oq)).1;have pr:=Oz (PR B) (λw q j a l h m g i e=>PR.in1 hB w q j a l h m g i e) (λw n h=>⟨⟨h.tab.pt,h.tab.tk,h.tab.pin⟩,h.rt.q,h.rt.t⟩) a h d k (λj b=>hh j oq);have c:=hh k oq;simp only[Eb,decide_eq_false_iff_not,not_or,Lr]at c;exact Za6 hB ok iv pr o c.1
theorem ZbV{w}(a:Bh w)(h:BM w)(i:PR B w)(f:SD w)(e:(Bz w).2=0):SD (Bz w).1/\(Bz w).1.D=(Bz w).1.Q.length:=by
 obtain⟨k,g⟩:=SV a;obtain⟨d,h2,h3⟩:=Lj.1 g;have b:∀j,j<k->Eb w j=Lb:=λj hj=>by grind
 unfold Bz at e⊢;rw[g]at e⊢;simp only at e⊢;split at e;rename_i c;rw[if_pos c];have ok:=(IB a k b).1;have iv:=(Dv a h k b).1;have pr:=Oz (PR B) (λw q j a l h m b d e=>PR.in1 hB w q j a l h m b d e) (λw n h=>⟨⟨h.tab.pt,h.tab.tk,h.tab.pin⟩,h.rt.q,h.rt.t⟩) a h i k b;refine⟨Za6 hB ok iv pr (Z6y hB a h i f k b) c, ?_⟩;simp only[Eb,decide_eq_true_eq]at d;have hf:(Ba (CN w k)).2.1=Lb:=d.resolve_left (λq=>q c);have o:=ok.sc;grind[Ba];omega
theorem ZjY{h:Heap}{s}(hw:Zz h.W)(hp:Z9 h=O)(hb:∀p∈h.P,p.N<=B)(e:(rootsF (Zv h) s).2.2=0)(e2:(Bz (rootsF (Zv h) s).1).2=0):SD (B6 h s)/\(B6 h s).D=(B6 h s).Q.length:=by have wb:=RG hw hp;have hi:=SE hp;have ho:=A5 (roots:=s) wb hi e;have pr:=Z35 (PR B) (λw r hw hi h e=>PR.fwd hB w r hw hi h e) (roots:=s) wb hi ⟨Z0Y hp hb,Z45 hp⟩ e;have s0:=Z35 (λw=>w.D=0) (λw r hw hi h e=>(Pe hw hi r e).2.1.trans h) (roots:=s) wb hi rfl e;exact ZbV hB ho.1 ho.2.1 pr (λz hz=>by omega) e2
end
def R0(w:Z8)(x:Int):Prop:=ZR w (Z4 w.j.C x).1=O/\x∉w.Q
def Az(n:Int)(a x:Int):Int:=if a=x then 1+16*n else 0
theorem ZcU{n:Int}(h:0<=n/\n<=255):Z7 (1+16*n)=(⟨0,n,0⟩,O):=by grind[GC,decode_encode,Dl]
def ZlJ{n:Int}(h:0<=n/\n<=255){ws:List Int}{a x:Int}(hx:4096<=x/\x+n<4096+ws.length)(ha:x<=a/\a<=x+n):(Z5 (ZZ ws x (BY ⟨0,n,0⟩)).1 a).1=Az n a x:=by grind[BY,P3,Az,Dl]
structure FL (v:Z8) (ws:List Int) (k:Nat):Prop where
 l:ws.length=v.j.W.length
 h:∀x∈v.old,ZE ws x=ZE v.j.W x
 s:∀a,Z5 ws a=Z5 v.j.W a\/∃x∈v.old,R0 v x/\x<=a/\a<=x+ZE v.j.W x/\(Z5 ws a).1=Az (ZE v.j.W x) a x
 f:∀j,j<k->R0 v (v.old.getD j M)->∀a,v.old.getD j M<=a->a<=v.old.getD j M+ZE v.j.W (v.old.getD j M)->(Z5 ws a).1=Az (ZE v.j.W (v.old.getD j M)) a (v.old.getD j M)
def MX{v:Z8}(hw:FOk v)(hi:BM v):∀k,k<=v.old.length->FL v (Co v k).j.W k
 |0,_=>⟨rfl,λ_ _=>rfl,λ_=>Lw rfl,λj hj=>by omega⟩
 |k+1,hk=>by
  have ih:=MX hw hi k oq;obtain⟨i0,i1,i2,i3,i4,i5,i6,i7,i8,i9,i10,i11⟩:=I8 v hw k;have hm:v.old.getD k M∈v.old:=C1.2 ⟨k,by omega,rfl⟩;have hr:=hi.r _ (Lg _ hm);have hn:=Ch v.j.W (v.old.getD k M);have hprom:ZR (Co v k) (Z4 (Co v k).j.C (v.old.getD k M)).1=ZR v (Z4 v.j.C (v.old.getD k M)).1:=by grind[ZR]
  by_cases c:R0 v (v.old.getD k M)
  .have e:(Co v (k+1)).j.W=(ZZ (Co v k).j.W (v.old.getD k M) (BY ⟨0,ZE v.j.W (v.old.getD k M),0⟩)).1:=by
    show(GQ (Co v k) (v.old.getD k M)).j.W=_;rw[GQ,hprom,i7,if_pos (show ZR v (Z4 v.j.C (v.old.getD k M)).1=O/\v.old.getD k M∉v.Q from c)];simp only;rw[<-ih.h _ hm];rfl
   rw[e];have hl:=ih.l;generalize hx:v.old.getD k M=x at *;have hin:4096<=x/\x+ZE v.j.W x<4096+(Co v k).j.W.length:=by omega
   have ho:(BY ⟨0,ZE v.j.W x,0⟩).length=(ZE v.j.W x).toNat+1:=by simp[BY]
   have win:=λa ha=>ZlJ hn (ws:=(Co v k).j.W) (a:=a) hin ha;have wout:∀a,a<x\/x+ZE v.j.W x<a->Z5 (ZZ (Co v k).j.W x (BY ⟨0,ZE v.j.W x,0⟩)).1 a=Z5 (Co v k).j.W a:=λa ha=>AW oq oq;have sep:=λy hy=>hi.s x (Lg _ hm) y (Lg _ hy);have sep2:=λy hy=>hi.s y (Lg _ hy) x (Lg _ hm);refine⟨?_, ?_, ?_, ?_⟩
   .grind[ZZ,Nx]
   .intro y hy;by_cases q:y=x
    .grind[ZE,Az,ZcU]
    .have s1:=sep y hy;have s2:=sep2 y hy;have:=Ch v.j.W y;rw[ZE,wout y oq];exact ih.h y hy
   .intro a;by_cases q:x<=a/\a<=x+ZE v.j.W x
    .grind
    .rw[wout a oq];exact ih.s a
   .intro j hj hf a h1 h2;by_cases q:v.old.getD j M=x
    .grind
    .have hjk:j<k:=by grind
     have hmj:v.old.getD j M∈v.old:=C1.2 ⟨j,by omega,rfl⟩;have s1:=sep _ hmj;have s2:=sep2 _ hmj;have:=Ch v.j.W (v.old.getD j M);rw[wout a oq];exact ih.f j hjk hf a h1 h2
  .have e:Co v (k+1)=Co v k:=by
    show GQ (Co v k) (v.old.getD k M)=_;rw[GQ,hprom,i7,if_neg (show¬ (ZR v (Z4 v.j.C (v.old.getD k M)).1=O/\v.old.getD k M∉v.Q)from c)]
   rw[e];refine⟨ih.l,ih.h,ih.s,λj hj hf=>?_⟩;by_cases q:j=k
   .grind
   .exact ih.f j oq hf
def Z6g{c:ZU}{s}{l:List Z0}{ws:List Int}(a:0<=c.pw)(hl:(ws.length:Int)=c.pw*l.length):∀k,k<=l.length->(EA c.pw s l ws k).length=ws.length/\∀(i:Nat) (o:Int),i<l.length->0<=o->o<c.pw->Z5 (EA c.pw s l ws k) (4096+i*c.pw+o)=if i<k/\Ga s (l.getD i M)then(0,0)else Z5 ws (4096+i*c.pw+o)
 |0,_=>⟨rfl,λi o _ _ _=>by rw[if_neg oq];rfl⟩
 |k+1,hk=>by
  obtain⟨h1,h2⟩:=Z6g (s:=s) a hl k oq;unfold EA;by_cases f:Ga s (l.getD k M)
  .rw[if_pos f];have b:=Gb (i:=k) (j:=l.length) (pw:=c.pw) oq a;have g:0<=(k:Int)*c.pw:=Lt oq a;rw[Ls (l.length:Int)]at b;have d:(Ly c.pw.toNat (0:Int)).length=c.pw.toNat:=List.length_replicate;have en:((k*c.pw.toNat:Nat):Int)=k*c.pw:=by grind
   have e:C6 (EA c.pw s l ws k) (k*c.pw.toNat) (Ly c.pw.toNat 0)=(ZZ (EA c.pw s l ws k) (4096+k*c.pw) (Ly c.pw.toNat 0)).1:=by
    unfold ZZ;rw[if_pos oq];simp only;congr 1;omega
   refine⟨?_, ?_⟩
   .grind[Nx]
   .intro i o hi h0 ho;rw[e];by_cases q:i=k
    .grind[P3]
    .have h:4096+(i:Int)*c.pw+o<4096+k*c.pw\/4096+k*c.pw+c.pw<=4096+(i:Int)*c.pw+o:=by
      rcases Nat.lt_or_gt_of_ne q with q|q
      .have:=Gb (i:=i) (j:=k) (pw:=c.pw) oq a;omega
      .have:=Gb (i:=k) (j:=i) (pw:=c.pw) oq a;omega
     grind[AW]
  grind
theorem Z9I(hd:Zo){k:Int}(a:0<=k)(b:BI hd k=O):∀n:Nat,k<n->k∈Cr hd n
 |0,h=>by omega
 |n+1,h=>by
  unfold Cr;by_cases q:k=n
  .grind
  .have ih:=Z9I hd a b n oq;grind
def Zm1{hd:Zo}{k:Int}(h0:0<=k)(h1:k<hd.length)(hp:BI hd k=O):k∈ZA hd:=by grind[BI,ZA,Z9I]
def Cq(T:Nat->List Int):Nat->List Int|0=>[]|i+1=>Cq T i++T i
def Z0T T{i:Nat}:∀{n:Nat},i<=n->∃R,Cq T n=Cq T i++R
 |0,h=>⟨[],by grind⟩
 |n+1,h=>by
  by_cases q:i=n+1
  .simp_all
  .obtain⟨R,e⟩:=Z0T T (i:=i) (n:=n) oq;grind[Cq]
def Z8h{h T}(g:Gt h T):∀f i,i+f=h.P.length->Cq T i++(Cn h f i).1=Cq T h.P.length
 |0,i,e=>by grind[Cn]
 |f+1,i,e=>by
  have a:=Z8h g f (i+1) oq;have s:=(g.starts f (i+1) oq).1;unfold Cn;rw[g.page (show i<h.P.length by omega),if_pos rfl,if_pos s,<-a,Cq,Lo]
structure FV (h:Heap) (T:Nat->List Int) (v:Z8):Prop where
 g:Gd h T
 fo:FOk v
 iv:BM v
 pr:Z9 v.j=O
 c:v.j.C=h.C
 pl:v.j.P.length=h.P.length
 ol:v.old=(Zt h).1
 so:H4 v.j.P
 r:v.rep.filled=0
 pm:∀i:Nat,ZR v i=O->(h.P.getD i M).K=1/\(v.j.P.getD i M).U=(h.P.getD i M).U/\∀x∈T i,(Z5 v.j.W x).1=(Z5 h.W x).1
def wq(h:Heap)(v:Z8)(Q:List Int):Z8:=Co v (Q.filter (CY h)).length
def Z1Y{v}(d:FOk v)(b:BM v){a:Int}:∀k,k<=v.old.length->(∀j,j<k->R0 v (v.old.getD j M)->a<v.old.getD j M\/v.old.getD j M+ZE v.j.W (v.old.getD j M)<a)->Z5 (Co v k).j.W a=Z5 v.j.W a
 |0,_,_=>rfl
 |k+1,hk,hh=>by
  have m:=Z1Y d b k oq λj hj=>hh j oq;have f:=MX d b k oq;obtain⟨i0,i1,i2,i3,i4,i5,i6,i7,i8,i9,i,l⟩:=I8 v d k;have g:v.old.getD k M∈v.old:=C1.2 ⟨k,by omega,rfl⟩;have hr:=b.r _ (Lg _ g);have hn:=Ch v.j.W (v.old.getD k M);have h:=hh k oq;have fl:=f.l;rw[<-m];show Z5 (GQ (Co v k) (v.old.getD k M)).j.W a=_;unfold GQ;split
  .rename_i c;have h:=h (by grind[R0,ZR]);have e:(Zx (Co v k) (v.old.getD k M)).length=ZE v.j.W (v.old.getD k M):=f.h _ g;grind[BY,AW]
  .rfl
section
variable{h:Heap}{T:Nat->List Int}{v:Z8}(f:FV h T v)
include f
theorem FV.all:(CH h).1=Cq T h.P.length:=by
 have e:CH h=Cn h h.P.length 0:=by rw[CH,if_pos f.g.p]
 rw[e,<-Z8h f.g.gt h.P.length 0 oq];simp[Cq]
theorem FV.old:v.old=(Cq T h.P.length).filter (CY h):=by rw[f.ol,Zt,f.all]
theorem FV.is{Q R:List Int}(e:Cq T h.P.length=Q++R):(Q.filter (CY h)).length<=v.old.length:=by rw[f.old,e,Lu,LF];omega
theorem FV.proper{Q R:List Int}(e:Cq T h.P.length=Q++R):Z9 (wq h v Q).j=O:=by have l:=(MX f.fo f.iv _ (f.is e)).l;obtain⟨i0,i1,i2,i3,i4,i5,i6,i7,i8,i9,a,b⟩:=I8 v f.fo (Q.filter (CY h)).length;have p:=HS.1 f.pr;grind[HS,wq]
theorem FV.prom{Q}(i:Int):ZR (wq h v Q) i=ZR v i:=by obtain⟨i0,i1,i2,i3,i4,i5,i6,i7,i8,i9,a,b⟩:=I8 v f.fo (Q.filter (CY h)).length;grind[ZR,wq]
theorem FV.filOk{Q R:List Int}(e:Cq T h.P.length=Q++R):FilOk (wq h v Q):=by obtain⟨a,i1,d,i3,i4,i5,i6,i7,i8,i9,b,c⟩:=I8 v f.fo (Q.filter (CY h)).length;have q:=f.is e;have ol:=f.fo.ol;have r:=f.r;have p:=HS.1 f.pr;refine⟨a.W,a.wl,a.pl, ?_,⟨a.tl, ?_, ?_, ?_⟩, ?_⟩;exact LC a.ql dd;exact LC a.pl dd;grind[wq];unfold wq;rw[d];exact f.so;grind[wq]
section
variable{Q R:List Int}{y:Int}{i:Nat}(e:Cq T h.P.length=Q++y::R)(hy:y∈T i)
include e hy
theorem FV.nxt:wq h v (Q++[y])=if kdA h.W y=0 then wq h v Q else GQ (wq h v Q) y:=by
 have o:CY h y=Lc (kdA h.W y≠0):=by rw[CY,f.g.at' hy];rfl
 unfold wq;rw[Lu,LF];by_cases c:kdA h.W y=0;grind;rw[if_neg c];have e1:([y].filter (CY h)).length=1:=by simp[o,c]
 have e2:v.old.getD (Q.filter (CY h)).length M=y:=by(rw[f.old,e];simp[Lu,List.filter_cons,o,c])
 grind[Co]
theorem FV.skip(np:ZR v i=Lb):wq h v (Q++[y])=wq h v Q:=by rw[f.nxt e hy];split;rfl;have a:=(I8 v f.fo (Q.filter (CY h)).length).2.1;rw[GQ,if_neg];rintro⟨c,_⟩;have b:(wq h v Q).j.C=h.C:=a.trans f.c;rw[b,f.g.ofx hy,f.prom]at c;grind
theorem FV.hd(pm:ZR v i=O):Z5 (wq h v Q).j.W y=Z5 v.j.W y:=by
 refine Z1Y f.fo f.iv _ (f.is e) λj d m=>?_;have b:=PW h;rw[f.all,e,LH]at b;have l:v.old.getD j M∈Q:=by(rw[f.old,e,Lu,Lv,LD d,<-Lv];exact(LG.1 (C1.2 ⟨j,d,rfl⟩)).1)
 have lt:=b.2.2 _ l y pq;have k:v.old.getD j M∈(Zt h).1:=by(rw[<-f.ol];exact C1.2 ⟨j,by have:=f.is e;omega,rfl⟩)
 obtain⟨g,a,_⟩:=(f.g.objs.2 _).1 k;have c:=m.1;rw[f.c,f.g.ofx a]at c;have:=f.g.sep a hy lt;rw[(Iq ((f.pm g c).2.2 _ a)).2.1];omega
theorem FV.step(pm:ZR v i=O):Zc (wq h v Q).j y=(Ej h.W y,0)/\wq h v (Q++[y])=Aq (wq h v Q) y/\(GW (wq h v Q).j y (Z1 (Ej h.W y))).2=0/\(GW (wq h v Q).j y (Z1 (Ej h.W y))).1.P=(wq h v Q).j.P:=by
 obtain⟨i0,i1,i2,i3,i4,i5,i6,i7,i8,i9,i10,i11⟩:=I8 v f.fo (Q.filter (CY h)).length;have p:=f.pm i pm;have on:=f.g.on hy;have hd:=f.hd e hy pm;have e0:(Z5 (wq h v Q).j.W y).1=(Z5 h.W y).1:=by grind
 obtain⟨o1,o2,o3,o4,o5⟩:=Iq e0;have pr:=f.proper e;have ec:(wq h v Q).j.C=h.C:=i1.trans f.c;have ep:(wq h v Q).j.P=v.j.P:=i2;have b:B5 (wq h v Q).j i=B5 h i:=by grind[B5]
 have k:=pm;unfold ZR at k;simp only[decide_eq_true_eq,LA]at k;have at1:Zc (wq h v Q).j y=(Ej h.W y,0):=by grind[at_one]
 have hr:=Ch h.W y;have sz:=NL h.W y;have l:(wq h v Q).j.W.length=v.j.W.length:=(MX f.fo f.iv _ (f.is e)).l;have po:=B7 f.g.p;have pv:=B7 f.pr;have on4:=on.2.2.2.1;have pp:=Ew f.g.p on.1;have hv:ZV ⟨0,ZE h.W y,0⟩=O:=GC.2 ⟨by simp,by simp,by simp;omega,by simp;omega,by simp⟩;have wo:(ZZ (wq h v Q).j.W y (BY ⟨0,ZE h.W y,0⟩)).2=0:=by
  unfold ZZ;rw[if_pos];have ho:(BY ⟨0,ZE h.W y,0⟩).length=(ZE h.W y).toNat+1:=by simp[BY]
  have ms:=Gb (i:=i) (j:=h.P.length) (pw:=h.C.pw) oq oq;have h0:0<=(i:Int)*h.C.pw:=Lt oq oq;have cm:=Ls (h.P.length:Int) h.C.pw;have L:=f.iv.L;rw[f.c]at L;have pp1:=pp.1;have on5:=on.2.2.2.2.1;have on3:=on.2.2.1;have e8:(h.P.length:Int)=h.C.pg:=po.2.2.2.2.2.2.2.1;rw[e8]at ms cm;unfold B5 at on3 on4 on5;omega
 have fh:GW (wq h v Q).j y (Z1 (Ej h.W y))=({ (wq h v Q).j with W:=(ZZ (wq h v Q).j.W y (BY ⟨0,ZE h.W y,0⟩)).1},0):=by grind[GW,B8]
 refine⟨at1, ?_,by rw[fh],by rw[fh]⟩;rw[f.nxt e hy,Aq,at1,fh];simp only;by_cases c:kdA h.W y=0;rw[if_pos c,if_pos (.inl c)];rw[if_neg c,GQ,ec,f.g.ofx hy,f.prom,pm];have c':¬ (Ej h.W y).K=0:=c;grind[Zx,ZE]
end
theorem FV.page{i:Nat}{R:List Int}(pm:ZR v i=O):∀j,j<=(T i).length->Cq T h.P.length=Cq T i++T i++R->Er (wq h v (Cq T i)) (T i) j=wq h v (Cq T i++(T i).take j)
 |0,_,_=>by simp[Er]
 |j+1,hj,e=>by
  have b:=FV.page pm j oq e;have m:(T i).getD j M∈T i:=C1.2 ⟨j,by omega,rfl⟩;have s:T i=(T i).take j++(T i).getD j M::(T i).drop (j+1):=by grind[Lz,LB]
  have a:Cq T h.P.length=(Cq T i++(T i).take j)++(T i).getD j M::((T i).drop (j+1)++R):=by grind
  rw[Er,b,Ta oq,<-Lo,(f.step a m pm).2.1]
theorem FV.pass{i:Nat}{R:List Int}(a:ZR v i=Lb):∀j,j<=(T i).length->Cq T h.P.length=Cq T i++T i++R->wq h v (Cq T i++(T i).take j)=wq h v (Cq T i)
 |0,_,_=>by simp
 |j+1,hj,e=>by
  have c:=FV.pass a j oq e;have m:(T i).getD j M∈T i:=C1.2 ⟨j,by omega,rfl⟩;have s:T i=(T i).take j++(T i).getD j M::(T i).drop (j+1):=by grind[Lz,LB]
  have b:Cq T h.P.length=(Cq T i++(T i).take j)++(T i).getD j M::((T i).drop (j+1)++R):=by grind
  rw[Ta oq,<-Lo,f.skip b m a,c]
theorem FV.tl{i:Nat}{R:List Int}(q:i<h.P.length)(e:Cq T h.P.length=Cq T i++T i++R)(pm:ZR v i=O):Zh (wq h v (Cq T i)).j i=(T i,0):=by
 obtain⟨i0,s,y,i3,i4,i5,i6,i7,i8,i9,u,w⟩:=I8 v f.fo ((Cq T i).filter (CY h)).length;have p:=f.pm i pm;have k:=pm;unfold ZR at k;simp only[decide_eq_true_eq,LA]at k;have t:=(f.g.t1 i q p.1).1;have n:(wq h v (Cq T i)).j.P=v.j.P:=y;have b:B5 (wq h v (Cq T i)).j i=B5 h i:=by rw[B5,show(wq h v (Cq T i)).j.C=h.C from s.trans f.c];rfl
 have d:Cq T h.P.length=Cq T i++(T i++R):=by grind
 refine ZcX (f.proper d) (by grind) (by grind) ?_;rw[b,n,p.2.1];refine Tf t λx l=>?_;obtain⟨j,j1,j2⟩:=C1.1 l;have c:=PW h;have e0:Z5 (wq h v (Cq T i)).j.W x=Z5 v.j.W x:=by
  refine Z1Y f.fo f.iv _ (f.is d) λj m tf=>?_;have c:=PW h;rw[f.all,d,LH]at c;have mq:v.old.getD j M∈Cq T i:=by(rw[f.old,d,Lu,Lv,LD m,<-Lv];exact(LG.1 (C1.2 ⟨j,m,rfl⟩)).1)
  have lt:=c.2.2 _ mq x (Lg _ l);have z:v.old.getD j M∈(Zt h).1:=by(rw[<-f.ol];exact C1.2 ⟨j,by have:=f.is d;omega,rfl⟩)
  obtain⟨r,a,_⟩:=(f.g.objs.2 _).1 z;have g:=tf.1;rw[f.c,f.g.ofx a]at g;rw[(Iq ((f.pm r g).2.2 _ a)).2.1];exact .inr (f.g.sep a l lt)
 have o:=Iq (show(Z5 (wq h v (Cq T i)).j.W x).1=(Z5 h.W x).1 by grind);exact⟨o.1 (I7 t l).1,o.2.1⟩
theorem FV.P:∀i,i<=h.P.length->G1 v i=wq h v (Cq T i)
 |0,_=>rfl
 |i+1,hi=>by
  have b:=FV.P i oq;obtain⟨R,e⟩:=Z0T T hi;have a:Cq T h.P.length=Cq T i++T i++R:=e;rw[G1,b,fpg,f.prom];by_cases pm:ZR v i=O
  .rw[if_pos pm,f.tl oq a pm];have:=f.page pm (T i).length (Li _) a;rw[LI]at this;exact this
  .rw[if_neg pm];have:=f.pass (by simpa using pm) (T i).length (Li _) a;rw[LI]at this;exact this.symm
theorem FV.fin:G1 v v.j.P.length=Co v v.old.length:=by rw[f.pl,f.P _ (Li _),wq,<-f.old]
theorem FV.fiOk:FiOk v:=by
 have pl:=f.pl;have o:∀i,i<=h.P.length->(G1 v i).j.P=v.j.P:=λi c=>by(rw[f.P i c];exact(I8 v f.fo ((Cq T i).filter (CY h)).length).2.2.1)
 refine⟨λi c=>?_,λi c=>by rw[o i oq],λi c pm=>?_⟩;obtain⟨R,e⟩:=Z0T T (show i<=h.P.length by omega);rw[f.P i oq];exact f.filOk e;obtain⟨R,e⟩:=Z0T T (show i+1<=h.P.length by omega);have b:Cq T h.P.length=Cq T i++T i++R:=e;have m:=o i oq;rw[f.P i oq]at pm m⊢;rw[f.prom]at pm;rw[f.tl oq b pm];have p:∀j,j<(T i).length->Cq T h.P.length=(Cq T i++(T i).take j)++(T i).getD j M::((T i).drop (j+1)++R):=λj a=>by
  have s:T i=(T i).take j++(T i).getD j M::(T i).drop (j+1):=by(have:=Lz j (T i);rw[LB oq]at this;rw[Lv,List.getElem?_eq_getElem oq];exact this.symm)
  rw[b];conv=>lhs;rw[s]
  simp
 have mem:∀j,j<(T i).length->(T i).getD j M∈T i:=λj a=>C1.2 ⟨j,a,rfl⟩;have g:∀j,j<=(T i).length->Er (wq h v (Cq T i)) (T i) j=wq h v (Cq T i++(T i).take j):=λj a=>f.page pm j a b;have t:(T i).length<=4096:=by(have:=f.g.page (show i<h.P.length by omega);have n:=Ra h i;rw[this]at n;exact LC n dd)
 show _=(0:Int)/\FjOk _ (T i);refine⟨rfl,λj a=>?_,t,λj a=>?_,λj a=>?_,λj a _=>?_, ?_⟩;rw[g j a];exact f.filOk (R:=(T i).drop j++R) (by rw[b,Lo,Lo,<-Lo (List.take j (T i)),Lz]);have d:=f.g.on (mem j a);have pp:=Ew f.g.p d.1;have u:=B7 f.g.p;have h0:0<=(i:Int)*h.C.pw:=Lt oq oq;have ms:=Gb (i:=i) (j:=h.P.length) (pw:=h.C.pw) (by have:=d.1;omega) oq;have q:=Ls (h.P.length:Int) h.C.pw;have r:(h.P.length:Int)=h.C.pg:=u.2.2.2.2.2.2.2.1;rw[r]at ms q;have k:=d.2.2.1;have l:=d.2.2.2.1;unfold B5 at k l;have wl:=f.fo.wl;have L:=f.iv.L;rw[f.c]at L;omega;rw[g j oq,(f.step (p j a) (mem j a) pm).1];have s:=f.step (p j a) (mem j a) pm;rw[g j oq,s.1];exact s.2.2;rw[g _ (Li _)];rw[show(wq h v (Cq T i++(T i).take (T i).length)).j.P=v.j.P from(I8 v f.fo _).2.2.1,m]
end
structure CE (h:Heap) (T tq:Nat->List Int) (w:Z8) (l4 l5:List Int):Prop where
 g:Gd h T
 k:KI h T tq w
 i:BM w
 s:w.j.S=0\/w.j.S=1
 pt:PT w.j.C w.j.P
 ts:∀x∈w.T,(w.j.P.getD x.toNat M).S=1-w.j.S
 sd:SD w
 sc:w.D=w.Q.length
 f3:∀a,Z5 l4 a=Z5 w.j.W a\/∃x∈w.old,R0 w x/\x<=a/\a<=x+ZE w.j.W x/\(Z5 l4 a).1=Az (ZE w.j.W x) a x
 f4:∀x∈w.old,R0 w x->∀a,x<=a->a<=x+ZE w.j.W x->(Z5 l4 a).1=Az (ZE w.j.W x) a x
 n4:l4.length=w.j.W.length
 n5:l5.length=w.j.W.length
 fr:∀(i:Nat) (o:Int),i<h.P.length->0<=o->o<h.C.pw->Z5 l5 (B5 h i+o)=if Ga w.j.S (w.j.P.getD i M)then(0,0)else Z5 l4 (B5 h i+o)
def tE(T a:Nat->List Int)(w:Z8)(i:Nat):List Int:=if(i:Int)∈w.T then a i else if(w.j.P.getD i M).S≠w.j.S then T i else []
section
variable{h:Heap}{T a:Nat->List Int}{w:Z8}{l4 l5:List Int}(c:CE h T a w l4 l5)
include c
theorem CE.where'{x:Int}(b:x∈w.Q):∃i,x∈tE T a w i:=by rcases c.k.q x b with⟨i,d,e,i3,i4⟩|⟨i,d,e⟩;exact⟨i,by grind[tE]⟩;exact⟨i,by grind[tE]⟩
end
def Z1W{B:Int}(hB:0<=B){h T}(g:Gd h T){s k}(n:Zz h.W)(hb:∀p∈h.P,p.N<=B)(e1:(rootsF (Zv h) s).2.2=0)(f:(Bz (rootsF (Zv h) s).1).2=0) :∃t,CE h T t (B6 h s) (CI h s k).j.W (HZ (CI h s k)).j.W/\Bn (ZI h s k)=⟨(B6 h s).j.C,(HZ (CI h s k)).j.W,(B6 h s).j.P.map (Gu (B6 h s).j.S),1-(B6 h s).j.S,(Bn (ZI h s k)).B⟩:=by
 have m:=g.p;have e:=cOk h s k n m e1 f;have pr:=Zjo hB n m hb e1 f;have sd:=ZjY hB n m hb e1 f;obtain⟨t,r⟩:=ZeQ g n e1 f;obtain⟨g1,g2,g3,g4,g5⟩:=e.h4;have po:=B7 m;obtain⟨a1,d,u,v,a5,a6,a7,a8⟩:=Ae (B6 h s) k k.length;have a1:(Cz h s k).j=(B6 h s).j:=a1;have d:(Cz h s k).old=(B6 h s).old:=d;have u:(Cz h s k).T=(B6 h s).T:=u;have v:(Cz h s k).Q=(B6 h s).Q:=v;have w:FL (Cz h s k) (CI h s k).j.W (Cz h s k).old.length:=MX e.f3 e.i3 (Cz h s k).old.length (Li _);have tf:∀x,R0 (Cz h s k) x↔R0 (B6 h s) x:=λx=>by(unfold R0 ZR;rw[a1,u,v])
 have y:=r.c;have z:=r.pl;have b:=r.wl;have w4:(CI h s k).j.W.length=h.W.length:=by(have:=w.l;rw[a1]at this;exact this.trans b)
 have fw:=Z6g (c:=h.C) (s:=(B6 h s).j.S) (l:=(B6 h s).j.P) (ws:=(CI h s k).j.W) oq (by rw[w4,z,po.2.2.2.2.2.2.2.1];exact po.2.2.2.2.2.1) (B6 h s).j.P.length (Li _);have e5:(HZ (CI h s k)).j.W=EA h.C.pw (B6 h s).j.S (B6 h s).j.P (CI h s k).j.W (B6 h s).j.P.length:=by(simp only[HZ,g1,g2,g3])
 have ce:CE h T t (B6 h s) (CI h s k).j.W (HZ (CI h s k)).j.W:=by(refine⟨g,r,e.i2,e.w2.sp,pr.tab.pt,pr.tab.tk,sd.1,sd.2, ?_, ?_, ?_, ?_, ?_⟩;intro a;rcases w.s a with q|⟨x,hx,q1,q2,q3,q4⟩;refine Lw ?_;rw[a1]at q;exact q;refine Lq ⟨x,d▸hx,(tf x).1 q1,q2, ?_, ?_⟩;rw[a1]at q3;exact q3;rw[a1]at q4;exact q4;intro x hx hf a h1 h2;obtain⟨j,j1,j2⟩:=C1.1 hx;have:=w.f j (by rw[d];exact j1);rw[d,a1,j2]at this;exact this ((tf x).2 hf) a h1 h2;rw[w4,b];rw[e5,fw.1,w4,b];intro i o hi h0 ho;have:=fw.2 i o oq h0 ho;rw[e5];show Z5 _ (4096+(i:Int)*h.C.pw+o)=_;rw[this];by_cases q:Ga (B6 h s).j.S ((B6 h s).j.P.getD i M);rw[if_pos ⟨by omega,q⟩,if_pos q];rw[if_neg (λc=>q c.2),if_neg q];rfl)
 have eh:Bn (ZI h s k)=⟨(B6 h s).j.C,(HZ (CI h s k)).j.W,(B6 h s).j.P.map (Gu (B6 h s).j.S),1-(B6 h s).j.S,(Bn (ZI h s k)).B⟩:=by(unfold Bn ZI;simp only[HZ,g1,g2,g3,y])
 exact⟨t,ce,eh⟩
def Z6d{w:Z8}{r}(e:(w.fwd r).2.2=0):(w.fwd r).1.j.B=w.j.B:=by
 unfold Z8.fwd Z8.place at e⊢;repeat' split
 all_goals first|rfl|simp_all
def ZlQ{h:Heap}{s}(c:Zz h.W)(b:Z9 h=O)(e:(rootsF (Zv h) s).2.2=0)(a:(Bz (rootsF (Zv h) s).1).2=0):(B6 h s).j.B=h.B:=
 Z03 (λw=>w.j.B=h.B) (λ_ _ _ _ q e=>(Z6d e).trans q) (λ_ _ _ _ _ q _ _ _ e=>(Z6d e).trans q) (λ_ _ q=>q) c b rfl e a
section
variable{B:Int}(c:0<=B){h:Heap}{T:Nat->List Int}(g:Gd h T){s:List Int}(k:List Int)(b:Zz h.W)(d:∀p∈h.P,p.N<=B)(e1:(rootsF (Zv h) s).2.2=0)(a:(Bz (rootsF (Zv h) s).1).2=0)
include c g b d e1 a
theorem Z7S:FV h T (Cz h s k):=by have f:=cOk h s k b g.p e1 a;obtain⟨tq,j,_⟩:=Z1W c g b d e1 a (k:=k);obtain⟨a1,n,l,a4,a5,a6,a7,a8⟩:=Ae (B6 h s) k k.length;have a1:(Cz h s k).j=(B6 h s).j:=a1;have l:(Cz h s k).T=(B6 h s).T:=l;have m:=HS.1 g.p;have e:=j.k;have u:=ZlQ b g.p e1 a;refine⟨g,f.f3,f.i3, ?_,by rw[a1];exact e.c,by rw[a1];exact e.pl, ?_, ?_,f.r3.1,λi pm=>?_⟩;rw[a1,HS];have L:=f.i2.L;refine⟨e.c▸m.1,L,by rw[e.pl,e.c];exact m.2.2.1,j.s, ?_,j.pt⟩;rw[u];refine m.2.2.2.2.1.imp id λ⟨o,r,t⟩=>⟨o,by rw[e.pl];exact r, ?_⟩;by_cases q:((h.B.toNat:Nat):Int)∈(B6 h s).T;exact(e.tk _ q).2.2.1;rw[(e.pg _ q).1];exact t;exact n.trans f.x2.o;rw[a1];intro p w;obtain⟨i,v,rfl⟩:=List.getElem_of_mem w;have:=(j.pt.b i v).s;grind;unfold ZR at pm;rw[a1,l]at pm;simp only[decide_eq_true_eq,LA]at pm;obtain⟨p1,p2,p3⟩:=e.pg i pm.2.2.2.2;rw[a1];refine⟨by omega,p2,λx y=>?_⟩;exact(e.hd i x y).resolve_right λq=>pm.2.2.2.1 q.2.2
theorem Zcz:G1 (Cz h s k) (Cz h s k).j.P.length=CI h s k:=(Z7S c g k b d e1 a).fin
theorem ZaP:PT (CI h s k).j.C (CI h s k).j.P:=by have f:=cOk h s k b g.p e1 a;obtain⟨tq,e,_⟩:=Z1W c g b d e1 a (k:=k);rw[f.h4.1,f.h4.2.1,<-e.k.c];exact e.pt
end
def Z5c{h:Heap}(a:∀i:Nat,i<h.P.length->(Zh h (i:Int)).2=0):∀(f i:Nat),i+f=h.P.length->(Cn h f i).2=0
 |0,_,_=>rfl
 |f+1,i,hf=>by
  have b:=Z5c a f (i+1) oq;unfold Cn;rw[a i oq,b];rfl
def Zib{h:Heap}(a:Bl h=⟨0,0,0⟩):(Zt h).2=0:=by
 have e:Z9 h=O:=by(by_cases q:Z9 h=O;exact q;rw[Bl,if_neg q]at a;cases a)
 rw[Bl,if_pos e]at a;have c:∀i,i<h.P.length->(pageF h i).fault=0:=by
  intro i b;cases hb:GA h with|some j =>rw[hb]at a;simp only at a;have:=List.find?_some hb;rw[a]at this;simp at this|none =>have:=Lk.1 hb i (Lh.2 b);simpa using this
 have d:∀i:Nat,i<h.P.length->(Zh h (i:Int)).2=0:=by(intro i b;have q:=c i b;unfold pageF at q;split at q;simp at q;split at q;simp at q;rename_i c2;simpa using c2)
 unfold Zt;rw[CH,if_pos e];exact Z5c d h.P.length 0 oq
def Zfh(h:Heap)(hw:Zz h.W)(hp:Z9 h=Lb):GP 77 [h.av] Lb (.tu [ES.av,nI 1]) []:=by exact gF [] func77 []<|Fc 9 (@CW h)<|Ftb 10 (!Z9 h)<|Fnl (Fnl (Fnl (Fnl (Fnl Fz))))
def Zg0(h:Heap)(hw:Zz h.W)(hp:Z9 h=O)(hg:Bl h≠⟨0,0,0⟩):GP 77 [h.av] Lb (.tu [ES.av,nI 19]) []:=by exact gF [] func77 []<|Fc 9 (@CW h)<|Ffb 10 (!Z9 h)<|Fc 13 (@Z05 h aa)<|Ftb 14 (!decide (Bl h=C8.mk 0 0 0))<|Fnl (Fnl (Fnl (Fnl (Fnl Fz))))
def SL(h:Heap)(l:List Z0):List (Nat×Z3):=[(8001,.box 27 [nI h.C.pw,nI h.C.pg,.ow 49027,.ow 49030,nI h.S,nI h.B]),(49030,.arr 79 4 (l.map Z0.dv)),(49027,.arr 44 1 (h.W.map wD)),(8002,.box 129 zW)]
def T8(h:Heap)(a:List Int)(i:Nat):Tg:=⟨tm 61 [(1,.pt 8001 0 0),(2,.pt 8002 0 0),(3,nI 0),(4,Z2 a),(34,.ow 49030),(35,nI h.P.length),(36,nI i)],SL h (Zq (Zs (1-h.S)) h.P i),8⟩
section
variable(h:Heap)(a:List Int)(hs:h.S=0\/h.S=1)(hl:h.P.length<=1048576)
include hs hl
theorem Zcx(i:Nat)(q:i<h.P.length):CP (Zn f77 0) (T8 h a i).st .nrm (T8 h a (i+1)).st:=by have m:=Tw (Zs (1-h.S)) h.P (Li i) M;have hn:=Ry (Zs (1-h.S)) h.P i;by_cases g:(h.P.getD i M).K=1/\0<(h.P.getD i M).N;have j:=Tn (Zs (1-h.S)) h.P q M;rw[show Zs (1-h.S) (h.P.getD i M)=⟨(h.P.getD i M).K,1-h.S,(h.P.getD i M).U,(h.P.getD i M).N⟩ by rw[Zs,if_pos g],<-m]at j;rw[<-m]at g;have o {h_ c_ p_} (n:Fq h_ c_ p_):=Ftb 37 (Lc ((i:Int)<(h.P.length:Int)))<|Fmq 40 Z0.dv (Zq (Zs (1-h.S)) h.P i) (↑i) n;rcases bb (((Zq (Zs (1-h.S)) h.P i).getD (i:Int).toNat M).K==1&&Lc (0<((Zq (Zs (1-h.S)) h.P i).getD (i:Int).toNat M).N))with hc0|hc0<;>have b:=hc0<;>simp only[bs]at b;obtain⟨c,d⟩:=b;let k:=Zq (Zs (1-h.S)) h.P i;let e:=k.getD (i:Int).toNat M;exact sF [] (fO 11) (o (Ft 48 hc0<|Fi 54 (1-h.S)<|Fm0q Z0.dv k (↑i)<|FS 10056 Z0.dv k ((i:Int).toNat) (Z0.mk e.K (1-h.S) e.U e.N) (e.dv)<|Fx 57 i<|Fr (79:Int)<|Fa (by refine congrArg _ ?_;exact j:Ld Z0.dv (k.set (i:Int).toNat (Z0.mk e.K (1-h.S) e.U e.N))=Ld Z0.dv (Zq (Zs (1-h.S)) h.P (i+1))) Fz));exact sF [] (fO 11) (o (Ff 48 hc0<|Fx 57 i<|Fr (79:Int)<|Fa (by refine congrArg _ ?_;grind[]:Ld Z0.dv (Zq (Zs (1-h.S)) h.P i)=Ld Z0.dv (Zq (Zs (1-h.S)) h.P (i+1))) Fz));have j:=PK (Zs (1-h.S)) h.P q M (by rw[Zs,if_neg g]);rw[<-m]at g;have p {h_ c_ p_} (n:Fq h_ c_ p_):=Ftb 37 (Lc ((i:Int)<(h.P.length:Int)))<|Fmq 40 Z0.dv (Zq (Zs (1-h.S)) h.P i) (↑i) n;rcases bb (((Zq (Zs (1-h.S)) h.P i).getD (i:Int).toNat M).K==1&&Lc (0<((Zq (Zs (1-h.S)) h.P i).getD (i:Int).toNat M).N))with hc0|hc0<;>have b:=hc0<;>simp only[bs]at b;obtain⟨c,d⟩:=b;let l:=Zq (Zs (1-h.S)) h.P i;let f:=l.getD (i:Int).toNat M;exact sF [] (fO 11) (p (Ft 48 hc0<|Fi 54 (1-h.S)<|Fm0q Z0.dv l (↑i)<|FS 10056 Z0.dv l ((i:Int).toNat) (Z0.mk f.K (1-h.S) f.U f.N) (f.dv)<|Fx 57 i<|Fr (79:Int)<|Fa (by refine congrArg _ ?_;grind[]:Ld Z0.dv (l.set (i:Int).toNat (Z0.mk f.K (1-h.S) f.U f.N))=Ld Z0.dv (Zq (Zs (1-h.S)) h.P (i+1))) Fz));exact sF [] (fO 11) (p (Ff 48 hc0<|Fx 57 i<|Fr (79:Int)<|Fa (by refine congrArg _ ?_;exact j:Ld Z0.dv (Zq (Zs (1-h.S)) h.P i)=Ld Z0.dv (Zq (Zs (1-h.S)) h.P (i+1))) Fz))
omit hs hl in
theorem Zji:CP (Zn f77 0) (T8 h a h.P.length).st (.ext 0) (Tg.st ⟨tm 61 [(1,.pt 8001 0 0),(2,.pt 8002 0 0),(3,nI 0),(4,Z2 a)],SL h (h.P.map (Zs (1-h.S))),8⟩):=by have hq:=Oe (Zs (1-h.S)) h.P;have hn:=Ry (Zs (1-h.S)) h.P h.P.length;exact sF [] (fO 5)<|Ffb 37 (Lc ((h.P.length:Int)<(h.P.length:Int)))<|Fr (79:Int)<|Fa (by refine congrArg _ ?_;assumption:Ld Z0.dv (Zq (Zs (1-h.S)) h.P h.P.length)=Ld Z0.dv (Ld (Zs (1-h.S)) h.P)) Fz
theorem Zdm:CP (Zl f77 0) (Tg.st ⟨tm 61 [(1,.pt 8001 0 0),(2,.pt 8002 0 0),(3,nI 0),(4,Z2 a),(34,.ow 49030),(35,nI h.P.length),(36,nI 0)],SL h h.P,8⟩) .nrm (Tg.st ⟨tm 61 [(1,.pt 8001 0 0),(2,.pt 8002 0 0),(3,nI 0),(4,Z2 a)],SL h (h.P.map (Zs (1-h.S))),8⟩):=by have:=Bs (S:=λk=>(T8 h a k).st) h.P.length kr (λk b=>Zcx h a hs hl k b) (Zji h a);simp only[T8,Z2c]at this;exact this
end
def Z2Y(h:Heap)(hw:Zz h.W)(c:Z9 h=O)(a:Bl h=⟨0,0,0⟩):GP 77 [h.av] Lb (.tu [(Zv h).av,nI 0]) []:=by have po:=B7 c;have ho:=AI h;have g:=Zib a;have b:h.P≠[]:=Sa oq;exact gF [] func77 []<|Fc 9 (@CW h)<|Ffb 10 (!Z9 h)<|Fc 13 (@Z05 h aa)<|Ffb 14 (!decide (Bl h=C8.mk 0 0 0))<|Fc 18 (@Z06 h aa)<|Ffb 22 ((Zt h).2 != 0)<|Fc 27 (@Mr h.W oq)<|Fc 30 (@O5 h.P oq aa)<|Fl 35 Z0.dv h.P<|Fu (@Zdm h ((Zt h).1) oq oq)<|Fnl (Fnl Fz)
section
variable{B:Int}(hB:0<=B){h:Heap}{T:Nat->List Int}(g:Gd h T){s k:List Int}(hw:Zz h.W)(hb:∀p∈h.P,p.N<=B)(e1:(rootsF (Zv h) s).2.2=0)(e2:(Bz (rootsF (Zv h) s).1).2=0)(gs:Z1T h T s)(gk:Z1T h T k)(sl:s.length<=1000)(kl:k.length<=1000)(ks:CR k)(rt:Z20 (Zv h) s)(ln:Ro (Zv h))(al:PD (rootsF (Zv h) s).1)
include hB g hw hb e1 e2 gs gk sl kl ks rt ln al
theorem ZaI:Z9X h s k (Zv h) (rootsF (Zv h) s).1 (B6 h s) (Cz h s k) (CI h s k) (ZI h s k) (rootsF (Zv h) s).2.1 (Cy (B6 h s) k k.length):=by
 have ck:=cOk h s k hw g.p e1 e2;obtain⟨q1,q2,q3,q4,q5⟩:=Z3i h s k hw g.p e1 e2;obtain⟨tq,ce,_⟩:=Z1W hB g hw hb e1 e2 (k:=k);have ok1:=(A5 (roots:=s) (RG hw g.p) (SE g.p) e1).1;have f2:=ck.w2.fok;refine⟨Z2Y h hw g.p g.good, ?_, ?_, ?_,Zk1 _ k ⟨f2.W,f2.wl,by have:=f2.ql;omega,ck.i2.L,kl,ks,ck.w2.r0.2.2,λx hx=>(gk x hx).imp id λ⟨i,hi,_⟩=>?_⟩, ?_,Zk8 _ q1 ⟨q2,q3⟩ q4 q5 ck.h4.2.2.2.2 (ZaP hB g k hw hb e1 e2),sl,kl,ck.f4.tl, ?_⟩
 .have:=Sp h (s++k) hw qo;rw[g.refers (λx hx=>(Lx.1 hx).elim (gs x) (gk x))]at this;exact this
 .have:=Z6a (Zv h) s rt oq ln;rw[e1]at this;exact this
 .exact Zgi _ ok1 al
 .have:=Zl1 (Cz h s k) (Z7S hB g k hw hb e1 e2).fiOk;rw[Zcz hB g k hw hb e1 e2]at this;exact this
 .have sp:=ck.w2.sp;rw[<-ck.h4.2.2.1]at sp;exact sp
 .rw[ce.k.c,g.ofx hi]
theorem ZjZ:GP 34 [h.av,Z2 s,Z2 k] Lb (.tu [(Zr h s k).1.av,Z2 (Zr h s k).2.1,Z2 (Zr h s k).2.2.1,.ag (Zr h s k).2.2.2.1.cells,nI (Zr h s k).2.2.2.2]) []:=by
 have a:Zr h s k=(Bn (ZI h s k),(rootsF (Zv h) s).2.1,Cy (B6 h s) k k.length,(ZI h s k).rep,0):=by rw[Zr,if_pos g.p,if_pos ⟨g.refers gs,g.refers gk⟩,if_pos e1,if_pos e2]
 rw[a];exact ZjM (ZaI hB g hw hb e1 e2 gs gk sl kl ks rt ln al)
end
section
variable{h:Heap}{s k l:List Int}{w0 w1 w2:Z8}{x:AV}{e:Int}
theorem Z5f(n:e≠0):HA (Cv f34 4) (pnQ x e).st e:=by rw[show Cv f34 4=.region 5 (Bq f34 5) Lb from by kernel_rfl];exact Z1O n (t:=30) (o0:=(Bq f34 5).getD 0 M) (o1:=(Bq f34 5).getD 1 M) (c:=⟨.value (.func 78),#[.tmp 30],#[49]⟩) (fo:=.func 78) kr kr kr kr kr kr kr kr rfl rfl (λ_=>rfl) dd kr
theorem Zb9(n:e≠0):HA (Cv f34 6) (pnQ x e).st e:=by rw[show Cv f34 6=.region 7 (Bq f34 7) Lb from by kernel_rfl];exact Z1O n (t:=39) (o0:=(Bq f34 7).getD 0 M) (o1:=(Bq f34 7).getD 1 M) (c:=⟨.value (.func 78),#[.tmp 39],#[49]⟩) (fo:=.func 78) kr kr kr kr kr kr kr kr rfl rfl (λ_=>rfl) dd kr
theorem ZiK(n:e≠0):HA (Cv f34 8) (pnQ x e).st e:=by rw[show Cv f34 8=.region 9 (Bq f34 9) Lb from by kernel_rfl];exact Z1O n (t:=46) (o0:=(Bq f34 9).getD 0 M) (o1:=(Bq f34 9).getD 1 M) (c:=⟨.value (.func 78),#[.tmp 46],#[49]⟩) (fo:=.func 78) kr kr kr kr kr kr kr kr rfl rfl (λ_=>rfl) dd kr
theorem PE(n:Nat)(c:Code)(a:GE f34 n=c){st}(h:HA c st e):HA (GE f34 n) st e:=a▸h
theorem Z4w(c:Om h e):HA (GE f34 2) (clX h s k).st e:=
 PE 2 (.seq (Cv f34 2) (.seq (Cv f34 3) (.seq (Cv f34 4) (GE f34 5)))) kr (.right (pnA c) (.right (Zhu c) (.left (Z5f (by have:=c.n;omega)))))
theorem ZlY(c:RD h s k w0 Lb):HA (GE f34 2) (clX h s k).st 19:=
 PE 2 (.seq (Cv f34 2) (.seq (Cv f34 3) (.seq (Cv f34 4) (GE f34 5)))) kr (.right (Z3q c) (.right (Zc7 c) (.left (Z5f dd))))
theorem Zgz(c:RD h s k w0 O)(t:TN s w0 w1 l e)(n:e≠0):HA (GE f34 2) (clX h s k).st e:=
 PE 2 (.seq (Cv f34 2) (.seq (Cv f34 3) (.seq (Cv f34 4) (.seq (Cv f34 5) (.seq (Cv f34 6) (GE f34 7)))))) kr (.right (Z3q c) (.right (Z6Z c) (.right (pnM w0) (.right (ZfM t) (.left (Zb9 n))))))
theorem ZhU(c:RD h s k w0 O)(t:TN s w0 w1 l 0)(a:Z2q w1 w2 e)(n:e≠0):HA (GE f34 2) (clX h s k).st e:=
 PE 2 (.seq (Cv f34 2) (.seq (Cv f34 3) (.seq (Cv f34 4) (.seq (Cv f34 5) (.seq (Cv f34 6) (.seq (Cv f34 7) (.seq (Cv f34 8) (GE f34 9)))))))) kr (.right (Z3q c) (.right (Z6Z c) (.right (pnM w0) (.right (pnR t) (.right (pnN w1) (.right (pnS a) (.left (ZiK n))))))))
end
section
variable{h:Heap}{T:Nat->List Int}(g:Gd h T)
include g
theorem EB.it{w}(c:EB h T w):∀k,(∀j,j<k->Eb w j=Lb)->EB h T (CN w k)
 |0,_=>c
 |k+1,q=>by
  have e:=q k oq;simp only[Eb,decide_eq_false_iff_not,not_or,Lr]at e;exact(EB.it c k λj hj=>q j oq).step g e.1
theorem EB.allT{w}(c:EB h T w):Z2v w:=λk q=>(c.it g k q).stp g
theorem EB.allS{w}(c:EB h T w)(e:(Bz w).2=0):PD w:=by
 obtain⟨n,d⟩:=SV c.ok;obtain⟨b,h2,f⟩:=Lj.1 d;intro k q;refine⟨c.allT g k q, ?_⟩;have hk:k<=n:=by(by_cases a:k<=n;exact a;have:=q n oq;rw[this]at b;cases b)
 by_cases a:k=n;subst a;have:=e;rw[Bz,d]at this;simp only at this;by_cases q:(Ba (CN w k)).2.2=0;exact q;rw[if_neg q]at this;exact this;have:=f k oq;simp only[Eb,Bool.not_eq_true',decide_eq_false_iff_not,not_or,Lr]at this;exact this.1
end
def Zin{B:Int}(u:0<=B){h:Heap}(c:Zz h.W)(v:∀p∈h.P,p.N<=B){s k:List Int}(sl:s.length<=1000)(kl:k.length<=1000)(z:CR s)(w:CR k) :GP 34 [h.av,Z2 s,Z2 k] Lb (.tu [(Zr h s k).1.av,Z2 (Zr h s k).2.1,Z2 (Zr h s k).2.2.1,.ag (Zr h s k).2.2.2.1.cells,nI (Zr h s k).2.2.2.2]) []:=by
 by_cases b:Z9 h=O;case neg =>
  have a:Zr h s k=(ZH,[],[],Hb,1):=by rw[Zr,if_neg b]
  rw[a];exact Tz (Z4w ⟨Zfh h c (by simpa using b),.inl rfl⟩)
 by_cases i:Bl h=⟨0,0,0⟩;case neg =>
  have y:¬ (ZB h s=O/\ZB h k=O):=λq=>by
   have:=q.1;unfold ZB at this;rw[Bool.and_eq_true,decide_eq_true_eq]at this;exact i this.1
  have a:Zr h s k=(ZH,[],[],Hb,19):=by rw[Zr,if_pos b,if_neg y]
  rw[a];exact Tz (Z4w ⟨Zg0 h c b i,.inr rfl⟩)
 have g:=Z9H i;by_cases hr:ZB h s=O/\ZB h k=O;case neg =>
  have a:Zr h s k=(ZH,[],[],Hb,19):=by rw[Zr,if_pos b,if_neg hr]
  rw[a];have e:=Sp h (s++k) c qo;have:ZB h (s++k)=Lb:=by
   cases q:ZB h (s++k)with
   |false=>rfl
   |true =>
    have q:=g.rt q;exact absurd ⟨g.refers λx j=>q x (Lx.2 (.inl j)),g.refers λx j=>q x (Lx.2 (.inr j))⟩ hr
  rw[this]at e;exact Tz (ZlY ⟨Z2Y h c b i,e,sl,kl⟩)
 have o:=g.rt hr.1;have n:=g.rt hr.2;have l:=EB.begin g c;have t:=l.rts g z;have e:=Sp h (s++k) c qo;rw[g.refers λx j=>(Lx.1 j).elim (o x) (n x)]at e;have r:RD h s k (Zv h) O:=⟨Z2Y h c b i,e,sl,kl⟩;have m:=Z6a (Zv h) s t oq l.ck.ln;by_cases d:(rootsF (Zv h) s).2.2=0;case neg =>
  have a:Zr h s k=(ZH,[],[],Hb,(rootsF (Zv h) s).2.2):=by rw[Zr,if_pos b,if_pos hr,if_neg d]
  rw[a];exact Tz (Zgz r ⟨m⟩ d)
 have c1:=l.rootsF g d;by_cases f:(Bz (rootsF (Zv h) s).1).2=0;case neg =>
  have a:Zr h s k=(ZH,[],[],Hb,(Bz (rootsF (Zv h) s).1).2):=by rw[Zr,if_pos b,if_pos hr,if_pos d,if_neg f]
  rw[a];rw[d]at m;exact Tz (ZhU r ⟨m⟩ ⟨ZgW _ c1.ok (c1.allT g) f⟩ f)
 exact ZjZ u g c v d f o n sl kl w t l.ck.ln (c1.allS g f)
def Zch(h:Heap)(s k:List Int)(c:Zz h.W)(sl:s.length<=1000)(kl:k.length<=1000)(e:CR s)(d:CR k) :GP 34 [h.av,Z2 s,Z2 k] Lb (.tu [(Zr h s k).1.av,Z2 (Zr h s k).2.1,Z2 (Zr h s k).2.2.1,.ag (Zr h s k).2.2.2.1.cells,nI (Zr h s k).2.2.2.2]) []:=by obtain⟨B,a,b⟩:=Z2L h.P;exact Zin a c b sl kl e d
def Z87(h:Heap)(a:Int):List Int:=(ZA (Zc h a).1).map λj=>(Z5 h.W (a+1+j)).1
def Zm5{l:List Int}{a:Int}(h:l.Nodup)(e:a∉l):(l++[a]).Nodup:=by rw[List.nodup_append];refine⟨h,by simp,λb f c d=>?_⟩;rw[List.mem_singleton]at d;rintro rfl;exact e (d▸f)
def Zm2{refs a:List Int}(h:(Lf refs.length).find? (HF refs a)=Ln):∀j,j<refs.length->HF refs a j=Lb:=λj b=>by
 simpa using Lk.1 h j (Lh.2 b)
structure Z2X where
 hd:Zo
 fs:List Int
instance:Inhabited Z2X:=⟨⟨default,[]⟩⟩
def Z2X.cells(n:Z2X):List AV:=[nI n.hd.K,nI n.hd.length,u32 n.hd.map,Z2 n.fs]
end Go.Proofs.YtkmnngahjnkdmaaGreat
