/-
 The statement CollectHeaps: part 9.
 Conditions: none.
-/
import Derived.Test.YtgedmeaemofdkaaGreatA8
set_option maxRecDepth 100000
set_option maxHeartbeats 2000000
set_option linter.all false
open Inhabited renaming default->X
open List renaming map->Y,take->Lb,drop->Lc,range->Ld,length_append->Lf,getD_eq_getElem?_getD->Lg,length_singleton->Lh,length_map->Li,mem_range->Lj,mem_append->Lm,find?_range_eq_some->Ls,length_set->Lt,map_append->Lu,mem_of_getElem?->Lv,replicate->Lw,find?_eq_none->Lz,map_drop->LA,map_set->LB,map_take->LC,mem_singleton->LD,getElem?_eq_none->LL,getElem?_map->LM,length_take->LN,mem_of_mem_drop->LO,mem_of_mem_take->LQ,set_set->LR,zip_cons_cons->LS
open Option renaming some->Z,none->La,map_eq_some_iff->LV
open Bool renaming true->M,false->O,and_eq_true->LF
open Decidable renaming decide->L,not_not->Ly
open Int renaming tmod_eq_emod_of_nonneg->Le,emod_lt_of_pos->Lp,emod_nonneg->Lq,add_emod_right->LG,emod_emod->LH,tdiv_eq_ediv_of_nonneg->LI,toNat->LJ
open Nat renaming le_of_ble_eq_true->Lk,le_refl->Ll,ble->Lx,beq->LU
open Or renaming inl->Ln,inr->Lo
open Go.IntKind renaming i64->Lr,u32->LK
open Go.Proofs.Tryz
namespace Go.Proofs.YtgedmeaemofdkaaGreat
open Go.Sx
def Z7f(h:Heap) a:(Cr h a).1.length<=4096:=by unfold Cr;split;rename_i e;have po:=B5 (Sq e).2.2.1;have:=Z8c h.W (a+1) (Zx h a).1.length;omega;simp
def Hq(h:Heap)(a:List Int)(i:Nat):Option Nat:=(Ld (Cr h (a.getD i X)).1.length).find? (IX (Zx h (a.getD i X)).1 (Cr h (a.getD i X)).1 a)
section
variable(h:Heap)(a:List Int)(i:Nat)(b:Zy h.W)(hl:a.length<=1048576)(hr:0<=a.getD i X/\a.getD i X<=8192)(hi:i<a.length)
include b hl hr hi
theorem Z5Q(d:Hq h a i=La):CP (Zl f146 0) (Dn h a i).st .nrm (Dn h a (i+1)).st:=by have hm:=Z2D b (a.getD i X);have hf:(Cr h (a.getD i X)).1.length<=4096:=Z7f h _;unfold Hq at d;let c:=a.getD i X;exact sF [] []<|FN 22 23 30 wD a i<|Fc 32 (@NJ h c aa oq)<|Fek 39 wD a (↑i) i<|Fc 41 (@Z9o h c aa oq)<|Fu (@Zbo h a ((Cr h c).1) ((Zx h c).1) i aa aa aa aa aa aa)<|Fx 25 i Fz
theorem Zbm(k:Nat)(d:Hq h a i=Z k):CP (Zl f146 0) (Dn h a i).st .ret (Tg.st ⟨tm 89 [(2,.pt 8002 0 0)],[(8002,.box 148 [nI 6,nI (Z3 h.C (a.getD i X+1+k)).1,uU (a.getD i X+1+k)])],60⟩):=by have hm:=Z2D b (a.getD i X);have hf:(Cr h (a.getD i X)).1.length<=4096:=Z7f h _;unfold Hq at d;let c:=a.getD i X;exact sF [] []<|FN 22 23 30 wD a i<|Fc 32 (@NJ h c aa oq)<|Fek 39 wD a (↑i) i<|Fc 41 (@Z9o h c aa oq)<|Fu (@ZeG h a ((Cr h c).1) ((Zx h c).1) i aa aa aa aa aa k aa) Fz
end
def Zcc(h:Heap) a:CP (Zl f146 0) (Dn h a a.length).st (.ext 0) (Tg.st ⟨tm 89 [(2,.pt 8002 0 0)],[(8002,.box 148 [nI 0,nI 0,uU 0])],60⟩):=by exact sF [] []<|FO 22 23 wD a Fz
def Ew(h:Heap)(a:List Int):C0:=
 match (Ld a.length).find? (λi=>(Hq h a i).isSome)with|none=>⟨0,0,0⟩|some i=>⟨6,(Z3 h.C (a.getD i X+1+((Hq h a i).getD 0:Nat))).1,a.getD i X+1+((Hq h a i).getD 0:Nat)⟩
section
variable(h:Heap)(a:List Int)(c:Zy h.W)(hl:a.length<=1048576)(b:∀x∈a,0<=x/\x<=8192)
include c hl b
theorem Zjc(e:(Ld a.length).find? (λi=>(Hq h a i).isSome)=La):CP (Zk f146 0) (Dn h a 0).st .nrm (Tg.st ⟨tm 89 [(2,.pt 8002 0 0)],[(8002,.box 148 [nI 0,nI 0,uU 0])],60⟩):=by refine Bp (S:=λk=>(Dn h a k).st) a.length kr (λk d=>Z5Q h a k c hl (b _ (BI.2 ⟨k,d,rfl⟩)) d ?_) (Zcc h a);have:=Lz.1 e k (Lj.2 d);simpa using this
theorem Zl6(i k:Nat)(j:(Ld a.length).find? (λi=>(Hq h a i).isSome)=Z i)(e:Hq h a i=Z k):CP (Zk f146 0) (Tg.st ⟨tm 89 [(1,.pt 8001 0 0),(2,.pt 8002 0 0),(3,Z2 a),(5,nI 0)],[(8002,.box 148 [nI 0,nI 0,uU 0]),(8001,.box 28 h.cells)],60⟩) .ret (Tg.st ⟨tm 89 [(2,.pt 8002 0 0)],[(8002,.box 148 [nI 6,nI (Z3 h.C (a.getD i X+1+k)).1,uU (a.getD i X+1+k)])],60⟩):=by obtain⟨h1,d,g⟩:=Ls.1 j;have d:=Lj.1 d;refine Ev (S:=λk=>(Dn h a k).st) i kr (λm f=>Z5Q h a m c hl (b _ (BI.2 ⟨m,by omega,rfl⟩)) oq ?_) (Zbm h a i c hl (b _ (BI.2 ⟨i,d,rfl⟩)) d k e);have:=g m f;simpa using this
end
def Z2H(h:Heap)(hw:Zy h.W):GP 146 [h.av] M (Ew h (Zt h).1).av []:=by
 have hl:=SI h;have hr:=Z2a h;cases hb:(Ld (Zt h).1.length).find? (λi=>(Hq h (Zt h).1 i).isSome)with
 |none =>
  have e:Ew h (Zt h).1=⟨0,0,0⟩:=by simp only[Ew,hb]
  rw[e];exact gF [] func146 []<|Fc 17 (@Mj h aa)<|Fu (@Zjc h ((Zt h).1) aa oq aa aa) Fz
 |some i =>
  have a:=(Ls.1 hb).1;obtain⟨k,b⟩:=Option.isSome_iff_exists.1 a;have e:Ew h (Zt h).1=⟨6,(Z3 h.C ((Zt h).1.getD i X+1+(k:Nat))).1,(Zt h).1.getD i X+1+(k:Nat)⟩:=by simp only[Ew,hb,b,Option.getD_some]
  rw[e];exact gF [] func146 []<|Fc 17 (@Mj h aa)<|Fu (@Zl6 h ((Zt h).1) aa oq aa i k aa aa) Fz
def ZfK(h:Heap)(hw:Zy h.W)(hp:Z8 h=O):GP 89 [h.av] M (C0.mk 1 0 0).av []:=by exact gF [] func89 []<|Fc 9 (@CC h)<|Ftb 10 (!Z8 h) Fz
def D2(h:Heap)(i:Nat):Tg:=⟨tm 65 [(1,.pt 8001 0 0),(2,.pt 8002 0 0),(3,nI i)],[(8002,.box 148 [nI 0,nI 0,uU 0]),(8001,.box 28 h.cells)],60⟩
section
variable(h:Heap)(i:Nat)(hw:Zy h.W)(a:Z8 h=M)
include hw a
theorem Z5M(hi:i<h.P.length)(hb:(pageF h i).fault=0):CP (Zl f89 0) (D2 h i).st .nrm (D2 h (i+1)).st:=by have po:=B5 a;exact sF [] []<|FM 15 16 Z0.dv h.P i<|Fc 21 (@Z7m h i aa aa aa)<|Ffb 24 ((pageF h i).fault != 0)<|Fx 18 i Fz
theorem Zdp(hi:i<h.P.length)(hb:(pageF h i).fault≠0):CP (Zl f89 0) (D2 h i).st .ret (Tg.st ⟨tm 65 [(2,.pt 8002 0 0)],[(8002,.box 148 [nI (pageF h i).fault,nI (pageF h i).page,uU (pageF h i).addr])],60⟩):=by have po:=B5 a;exact sF [] []<|FM 15 16 Z0.dv h.P i<|Fc 21 (@Z7m h i aa aa aa)<|Ftb 24 ((pageF h i).fault != 0) Fz
end
def Zif(h:Heap)(a:Z8 h=M):CP (Zl f89 0) (D2 h h.P.length).st (.ext 0) (Tg.st ⟨tm 65 [(1,.pt 8001 0 0),(2,.pt 8002 0 0)],[(8002,.box 148 [nI 0,nI 0,uU 0]),(8001,.box 28 h.cells)],60⟩):=by have po:=B5 a;exact sF [] []<|FO 15 16 Z0.dv h.P Fz
def Gi(h:Heap):Option Nat:=(Ld h.P.length).find? (λi=>L ((pageF h i).fault≠0))
section
variable(h:Heap)(b:Zy h.W)(a:Z8 h=M)
include b a
theorem Z25(d:Gi h=La):CP (Zk f89 0) (D2 h 0).st .nrm (Tg.st ⟨tm 65 [(1,.pt 8001 0 0),(2,.pt 8002 0 0)],[(8002,.box 148 [nI 0,nI 0,uU 0]),(8001,.box 28 h.cells)],60⟩):=by refine Bp (S:=λk=>(D2 h k).st) h.P.length kr (λk c=>Z5M h k b a c ?_) (Zif h a);have:=Lz.1 d k (Lj.2 c);simpa using this
theorem Zc2(i:Nat)(g:Gi h=Z i):CP (Zk f89 0) (Tg.st ⟨tm 65 [(1,.pt 8001 0 0),(2,.pt 8002 0 0),(3,nI 0)],[(8002,.box 148 [nI 0,nI 0,uU 0]),(8001,.box 28 h.cells)],60⟩) .ret (Tg.st ⟨tm 65 [(2,.pt 8002 0 0)],[(8002,.box 148 [nI (pageF h i).fault,nI (pageF h i).page,uU (pageF h i).addr])],60⟩):=by obtain⟨e,c,f⟩:=Ls.1 g;have c:=Lj.1 c;refine Ev (S:=λk=>(D2 h k).st) i kr (λm d=>Z5M h m b a oq ?_) (Zdp h i b a c (by simpa using e));have:=f m d;simpa using this
end
def Zbd(h:Heap)(hw:Zy h.W)(hp:Z8 h=M)(i:Nat)(hb:Gi h=Z i):GP 89 [h.av] M (pageF h i).av []:=by exact gF [] func89 []<|Fc 9 (@CC h)<|Ffb 10 (!Z8 h)<|Fu (@Zc2 h aa aa i aa) Fz
def Zen(h:Heap)(hw:Zy h.W)(hp:Z8 h=M)(hb:Gi h=La)(hq:(Ew h (Zt h).1).fault≠0):GP 89 [h.av] M (Ew h (Zt h).1).av []:=by exact gF [] func89 []<|Fc 9 (@CC h)<|Ffb 10 (!Z8 h)<|Fu (@Z25 h aa aa aa)<|Fc 27 (@Z2H h aa)<|Ftb 30 ((Ew h (Zt h).1).fault != 0) Fz
end Go.Proofs.YtgedmeaemofdkaaGreat
namespace Go.Sx
def fzL(f:Nat->Option Nat)(H:Heap)(x:AV):Option AV:=match x with|.d x=>Z (.d x)|.rp e o=>Z (.rp e o)|.pt b i o=>(match f b with|Z k=>Z (.pt k i o)|La=>La)|.os b o n=>(match f b with|Z k=>Z (.os k o n)|La=>Z00 H (.os b o n))|.ow b=>(match f b with|Z k=>Z (.ow k)|La=>Z00 H (.ow b))|_=>La
def fzM(f:Nat->Option Nat)(H:Heap)(x:AV):Option AV:=match x with|.ag l=>(match Hr (fzL f H) l with|Z r=>Z (.ag r)|La=>La)|.ic t x=>(match fzL f H x with|Z r=>Z (.ic t r)|La=>La)|x=>fzL f H x
def fzT(f:Nat->Option Nat)(H:Heap)(x:AV):Option AV:=match x with|.tu l=>(match Hr (fzM f H) l with|Z r=>Z (.tu r)|La=>La)|x=>fzM f H x
def fzB(f:Nat->Option Nat)(H:Heap)(m b:Nat)(E:Z4):Option (Z4×List Prop):=match E with
 |.dead=>match Lx (b+1) m with|M=>Z (.dead,[])|O=>La
 |.box _ cells1=>match H b with|some (.box ty cells)=>(match Hr (fzM f H) cells with|some a=>Z (.box ty (HJ Su a cells1).1,(HJ Su a cells1).2)|none=>La)|_=>La
 |.arr .. => match H b with|some (.arr ty s els)=>Z (.arr ty s els,[])|_=>La
 |.mp _=>match H b with|some (.mp ks)=>Z (.mp ks,[])|_=>La
def PE(f:Nat->Option Nat)(H:Heap)(m:Nat):List Nat->List Z4->Option (List Z4×List Prop)|[],[]=>Z ([],[])|b::l,E::r=>(match fzB f H m b E,PE f H m l r with|some (B,p),some (rs,q)=>Z (B::rs,p++q)|_,_=>La)|_,_=>La
def upto:Nat->Nat->List Nat|_,0=>[]|k,n+1=>k::upto (k+1) n
def Ov:Nat->List Nat->Bool|_,[]=>M|k,b::l=>(LU b k||(Lx 8000 b&&Lx b 15999))&&Ov (k+1) l
theorem MA:∀(n k i:Nat),i<n->(upto k n)[i]?=Z (k+i)
 |0,_,_,h=>by omega
 |n+1,k,0,_=>rfl
 |n+1,k,i+1,h=>by
  simp only[upto,List.getElem?_cons_succ];rw[MA n (k+1) i oq,show k+1+i=k+(i+1)from by omega]
theorem Z0a:∀(n k:Nat),(upto k n).length=n|0,_=>rfl|n+1,k=>by simp[upto,Z0a n (k+1)]
def Z5g:∀{l:List Nat} {k i b:Nat},Ov k l=M->l[i]?=Z b->b=k+i\/(8000<=b/\b<16000)
 |[],_,_,_,_,h=>by simp at h
 |c::l,k,i,b,hk,h=>by
  simp only[Ov,LF,Bool.or_eq_true]at hk;cases i with
  |zero =>
   simp at h;subst h;rcases hk.1 with h|h
   .simp_all
   .exact .inr ⟨Lk h.1,by have:=Lk h.2;omega⟩
  |succ i =>
   rcases Z5g hk.2 (by simpa using h)with h|h;all_goals omega
def Du:∀{l:List Nat} {m:List Z4} {b:Nat} {B:Z4},Bn (l.zip m) b=Z B->∃i:Nat,l[i]?=Z b/\m[i]?=Z B
 |[],_,_,_,h=>by simp[Bn]at h
 |_::_,[],_,_,h=>by simp[Bn]at h
 |c::l,C::m,b,B,h=>by
  simp only[LS,Bn]at h;split at h
  .rename_i e;cases h;exact⟨0,by simp[e],rfl⟩
  .obtain⟨i,a,d⟩:=Du h;exact⟨i+1,by simpa using a,by simpa using d⟩
def ZgN{l:List Nat}:∀{m:List Z4} {b:Nat},l.length=m.length->Bn (l.zip m) b=La->b∉l:=by
 induction l with
 |nil=>grind
 |cons c l d =>
  intro m b a h;cases m with|nil=>cases a|cons B m =>have:=d (m:=m) (b:=b);simp only[LS,Bn]at h;simp_all;grind
def Ni(P:Program)(hints:List (Nat×List Hint))(a:List (Nat×Tg×Ex×Tg))(ids keep:List Nat)(fn:Func)(args:List AV)(pre:List Z4)(res:AV)(post:List Z4):Option ZI:=
 match fn.body with|none=>La|some c=>match Cf P hints a c ⟨args.map (HB (HY ids))++Lw (fn.ntmps-args.length) .any,Bn (ids.zip (pre.map (Gr ids))),2⟩with|none=>La|some r=>match r.e with|.ext _=>La|_=>match Rh P r.s.tmps r.s.H fn.results.toList with|none=>La|some l=>match fzT (λb=>CK b (upto 0 pre.length++keep) 0) r.s.H (Sd l),PE (λb=>CK b (upto 0 pre.length++keep) 0) r.s.H pre.length (upto 0 pre.length++keep) post with|some x,some (bs,q)=>(match nodupB (upto 0 pre.length++keep)&&Lx pre.length 8000&&(nodupB ids&&Ov 0 ids&&LU ids.length pre.length)with|true=>Z ⟨r.e,r.s,r.ph++((HQ x res).2++q),r.eq++((HQ x res).1,res)::(bs.map EY).zip (post.map EY)⟩|false=>La)|_,_=>La
section
variable{Ow:Own}{Im0:Nat->Prop}{w0:World}{ρ ρ':ZK}{w:World}{Im t:Nat->Prop}{H:Heap}{clk:Nat}{f:Nat->Option Nat}
theorem Z8B{x v}{s:Nat}{els:List (List DV)}(I:Inv Ow Im0 w0 ρ w Im H clk)(r:∀g,Im g->t g)(hx:Zj ρ w Im x v)(h:EU H x=Z (s,els))(d:∀a n c,v=.slice (Z a) n c->n≠0->t a.block):Cz w t (.sl s els) v:=by
 obtain⟨p,c,rfl,j,m,z,b⟩:=SP I hx h;by_cases l:els=[];subst l;exact .slNil _ _ _;rcases b with b|⟨q,rfl,hq,b⟩;grind;have hn:els.length≠0:=by grind
 refine .sl s els q els.length c (λi o=>(w.cell? ⟨q.block,q.off+(i*s+o),La⟩).getD undef) rfl m j (z l) hq (d q _ c rfl hn) ?_ ?_;grind;intro i e o y k ho;obtain⟨u,k1,k2⟩:=b i e o y k ho;rw[k1];exact k2.mono (Ext.refl _ _) r
theorem Z2W(I:Inv Ow Im0 w0 ρ w Im H clk)(hf:∀b k β,f b=Z k->ρ b=Z β->ρ' k=Z β)(hi:∀g,Im g->t g)(hz:∀b β g,8000<=b->f b=La->live H b->ρ b=Z β->β.g=Z g->t g){x y:AV}{v}(i:Zj ρ w Im x v)(h:fzL f H x=Z y):Zj ρ' w t y v:=by
 unfold fzL at h;split at h;cases h;cases i with|d i=>exact .d (i.mono (Ext.refl _ _) hi)
 cases h;cases i with|rp l p q=>exact .rp l (hi _ p) (λj x i=>let ⟨v,k1,k2⟩:=q j x i;⟨v,k1,k2.mono (Ext.refl _ _) hi⟩)
 split at h;rename_i k o;cases h;obtain⟨g,s,n,l,rfl⟩:=NP i;exact .pt (hf _ _ _ o l);cases h;rename_i b oo m;split at h;rename_i k o;cases h;cases i with|os l p q r h5=>exact .os (hf _ _ _ o l) p q r h5
 .rename_i o;simp only[Z00]at h;split at h;rotate_left;cases h;rename_i u;split at h;rotate_left;cases h;rename_i ty s els hb;cases h;refine .d (Z8B I hi i (by simp[EU,hb]) λa n c hv hn=>?_);subst hv;generalize z:Value.slice (Z a) n c=vv at i;cases i with|os l p q r h5 =>injection z with e1 e2 e3;rcases h5 with h5|⟨g,hg,e,_⟩;omega;rw[<-e1]at e;cases e;exact hz b _ _ (Lk u) o ⟨_,hb,by simp⟩ l hg
 rename_i b;split at h;rename_i k o;cases h;cases i with|ow l p q r=>exact .ow (hf _ _ _ o l) p q r
 .rename_i o;simp only[Z00]at h;split at h;rotate_left;cases h;rename_i u;split at h;rotate_left;cases h;rename_i ty s els hb;cases h;refine .d (Z8B I hi i (by simp[EU,hb]) λa n c hv hn=>?_);subst hv;generalize z:Value.slice (Z a) n c=vv at i;cases i with|ow l p q r =>injection z with e1 e2 e3;rcases r with r|⟨g,hg,e,_⟩;omega;rw[<-e1]at e;cases e;exact hz b _ _ (Lk u) o ⟨_,hb,by simp⟩ l hg
 cases h
theorem Z36(I:Inv Ow Im0 w0 ρ w Im H clk)(j:∀b k β,f b=Z k->ρ b=Z β->ρ' k=Z β)(l:∀g,Im g->t g)(m:∀b β g,8000<=b->f b=La->live H b->ρ b=Z β->β.g=Z g->t g){x y:AV}{v}(c:Zj ρ w Im x v)(h:fzM f H x=Z y):Zj ρ' w t y v:=by
 unfold fzM at h;split at h
 .split at h;rotate_left;cases h;rename_i r d;cases h;obtain⟨h1,h2⟩:=RL d;obtain⟨e,rfl,k1,n,k3⟩:=Hm c;refine .ag _ e oq n λi a u ha hu=>?_;grind[Z2W]
 .split at h;rotate_left;cases h;rename_i r d;cases h;cases c with|ic c=>exact .ic (Z2W I j l m c d)
 grind[Z2W]
theorem Zdm(I:Inv Ow Im0 w0 ρ w Im H clk)(hf:∀b k β,f b=Z k->ρ b=Z β->ρ' k=Z β)(hi:∀g,Im g->t g)(hz:∀b β g,8000<=b->f b=La->live H b->ρ b=Z β->β.g=Z g->t g){x y:AV}{v}(e:Zj ρ w Im x v)(h:fzT f H x=Z y):Zj ρ' w t y v:=by
 unfold fzT at h;split at h
 .split at h;rotate_left;cases h;rename_i r d;cases h;obtain⟨h1,h2⟩:=RL d;cases e with|tu _ c k1 k3 =>refine .tu _ c oq λi a u ha hu=>?_;grind[Z36]
 grind[Z36]
theorem ZfV{m b}{E C:Z4}{p:List Prop}(h:fzB f H m b E=Z (C,p))(hE:E≠.dead):live H b:=by
 cases E with|dead=>grind|box d c =>simp only[fzB]at h;split at h;rename_i a;exact⟨_,a,by simp⟩;cases h|arr ty s els =>simp only[fzB]at h;split at h;rename_i a;exact⟨_,a,by simp⟩;cases h|mp ks =>simp only[fzB]at h;split at h;rename_i a;exact⟨_,a,by simp⟩;cases h
theorem Zf5(I:Inv Ow Im0 w0 ρ w Im H clk)(hf:∀b k β,f b=Z k->ρ b=Z β->ρ' k=Z β)(v:∀g,Im g->t g)(hz:∀b β g,8000<=b->f b=La->live H b->ρ b=Z β->β.g=Z g->t g){m b}{E C:Z4}{p:List Prop}(h:fzB f H m b E=Z (C,p))(x:B3 p)(hE:E≠.dead):∃β,ρ b=Z β/\RelB ρ' w t β C:=by
 cases E with|dead=>grind|box n d =>simp only[fzB]at h;split at h;rotate_left;cases h;rename_i ty cells c;split at h;rotate_left;cases h;rename_i cs j;cases h;obtain⟨β,a,h0,e,g,r,k1,z,k3,l,k4⟩:=I.blk b _ c;obtain⟨f1,f2⟩:=RL j;obtain⟨c1,c2⟩:=PN x;refine⟨β,a,by omega,e,g,r,k1,z,by omega,l,λo y u hy hu=>?_⟩;grind[Z36,Z3e]|arr n s1 q =>simp only[fzB]at h;split at h;rotate_left;cases h;rename_i ty s els c;cases h;obtain⟨β,a,i⟩:=I.blk b _ c;exact⟨β,a,RelB.arr_any (by rfl) i v⟩|mp ks =>simp only[fzB]at h;split at h;rotate_left;cases h;rename_i c;cases h;obtain⟨β,a,i⟩:=I.blk b _ c;exact⟨β,a,i⟩
theorem Z4G{m}:∀{l:List Nat} {post rs:List Z4} {q:List Prop},PE f H m l post=Z (rs,q)->B3 q->l.length=post.length/\rs.length=post.length /\
  ∀(k:Nat) (E:Z4),post[k]?=Z E->∃(b:Nat) (C:Z4) (p:List Prop),l[k]?=Z b/\rs[k]?=Z C/\fzB f H m b E=Z (C,p)/\B3 p
 |[],[],rs,q,h,_=>by cases h;grind
 |b::l,E::post,rs,q,h,hq=>by
  simp only[PE]at h;split at h;rotate_left
  .cases h
  rename_i B p d q' hB a;cases h;obtain⟨q1,c⟩:=GZ.1 hq;obtain⟨h1,h2,h3⟩:=Z4G a c;grind
 |[],E::post,rs,q,h,_=>by cases h
 |b::l,[],rs,q,h,_=>by cases h
end
def Bg{P:Program}{f:Nat}{fn:Func}{args pre res post}(hints:List (Nat×List Hint)) cuts ids keep(hf:P.funcs[f]?=Z fn) fl{φ:Prop}(hφ:φ)(h1:Rs fl (Ni P hints cuts ids keep fn args pre res post)=φ)(h2:IF fl (Ni P hints cuts ids keep fn args pre res post)=IJ fl (Ni P hints cuts ids keep fn args pre res post)):BorSpec P f args pre res post:=by
 rw[<-h1]at hφ;obtain⟨hφ,h2⟩:=TV hφ h2;clear h1;cases hr:Ni P hints cuts ids keep fn args pre res post with
 |none=>rw[hr]at hφ;exact hφ.elim
 |some r =>
  rw[hr]at hφ h2;have heq:Ey r.eq:=Ai h2;have hph:B3 r.ph:=hφ;clear h2 hφ;unfold Ni at hr;split at hr;cases hr;rename_i c hb;split at hr;cases hr;rename_i q hq;split at hr;cases hr;rename_i hne;split at hr;cases hr;rename_i l hl;generalize hfin:upto 0 pre.length++keep=fin at hr;split at hr;rotate_left;cases hr;rename_i x bs qq hx hbs;split at hr;rotate_left;cases hr;rename_i hok;simp only[LF]at hok;have hnd:=Dm hok.1.1;have h8:=Lk hok.1.2;have hidn:=Dm hok.2.1.1;have hido:=λi b h=>Z5g (i:=i) (b:=b) hok.2.1.2 h;have hidl:=Nat.eq_of_beq_eq_true hok.2.2;cases hr;obtain⟨hph1,hph'⟩:=GZ.1 hph;obtain⟨hph2,hph3⟩:=GZ.1 hph';have heq1:=heq.left;have hxe:(HQ x res).1=res:=heq.right ((HQ x res).1,res) pq;obtain⟨b1,b2,b3⟩:=Z4G hbs hph3;have hbe:bs=post:=by
   apply List.ext_getElem?;intro i;by_cases hi:i<bs.length;have hi':i<post.length:=by omega
   have:(EY bs[i],EY post[i])∈(bs.map EY).zip (post.map EY):=by(refine List.mem_iff_getElem?.2 ⟨i, ?_⟩;simp[List.getElem?_zip_eq_some,hi,hi'])
   have:=Z2O (heq.right (EY bs[i],EY post[i]) (List.mem_cons_of_mem _ this));grind;grind
  subst hbe;have hfl:∀k,k<pre.length->fin[k]?=Z k:=by grind[Z0a,MA]
  have hfm:pre.length<=fin.length:=by grind
  intro w Im ρ vs hIm hsz hρ hinj hbnd hpre hargs;refine calls_of_wp hf hb ?_;let ρ0:ZK:=λb=>match CK b ids 0 with|Z k=>ρ k|La=>La
  have hρ0:∀b β,ρ0 b=Z β->∃k:Nat,ids[k]?=Z b/\ρ k=Z β:=by(intro b β h;simp only[ρ0]at h;split at h;rename_i k hk;obtain⟨_,q2⟩:=Il hk;grind;cases h)
  have hρi:∀(k b:Nat),ids[k]?=Z b->ρ0 b=ρ k:=by
   intro k b hk;simp only[ρ0];cases hx:CK b ids 0 with|none=>exact absurd (Lv hk) (AD hx)|some k2 =>obtain⟨_,q⟩:=Il hx;grind[SK]
  have hren:∀k β,ρ k=Z β->ρ0 (ids.getD k 0)=Z β:=by grind
  have hS:Sys (GM ρ) Im w (args.map (HB (HY ids))++Lw (fn.ntmps-args.length) .any) (Bn (ids.zip (pre.map (Gr ids)))) 2 {tmps:=vs++Array.replicate (fn.ntmps-vs.size) undef,defers:=[]} w:=by
   refine⟨ρ0,Im,⟨Kept.refl _ _,(λb b' β β' g _ _ h1 h2 h3 h4=>?_),(λb β g _ h h'=>?_),(λb β g h h'=>?_),(λb β g h h'=>?_),hIm,(λg h=>.inl h),(λb B h=>?_),(λb hb h=>?_),by omega,λb β hb h=>?_⟩,⟨by simp[hsz],λi y v hy hv=>?_,rfl⟩⟩;obtain⟨k,k1,k2⟩:=hρ0 b β h1;obtain⟨k',k1',k2'⟩:=hρ0 b' β' h2;grind;grind;grind;obtain⟨k,k1,k2⟩:=hρ0 b β h;exact .inr ⟨k,β,k2,h'⟩;obtain⟨i,h1,h2⟩:=Du h;simp only[LM,LV]at h2;obtain⟨C,h2,rfl⟩:=h2;obtain⟨β,m1,m2⟩:=hpre i C h2;exact⟨β,by grind,Z1L (λ_ h=>h) hren m2⟩;cases hc:ρ0 b<;>grind;obtain⟨k,k1,k2⟩:=hρ0 b β h;rcases hido k b k1 with q|q;have:b=k:=by omega
   subst this;exact k2;omega;rw[List.getElem?_append]at hy;simp only[Array.getElem?_append]at hv;rw[hsz]at hv;simp only[Li]at hy;split at hy;rename_i hi;rw[if_pos hi]at hv;simp only[LM,LV]at hy;obtain⟨z,hz,rfl⟩:=hy;obtain⟨q1,q2,q3⟩:=OZ (w:=w) (Im:=Im) (Im':=Im) hren;exact DK (λ_ h=>h) q1 q2 q3 (hargs i z v hz hv);have:=Lv hy;rw[(List.mem_replicate.1 this).2];exact .any _
  refine wp_mono (Ms hq hph1 heq1 _ _ _ _ _ hS) ?_;rintro e a' w' ⟨rfl,hS'⟩;have post:a'.defers=[]/\∃v,(results fn a'.tmps).run P w'=.ok v w'/\∃u,Ending.returned v=.returned u/\Kept (OwA (GM ρ)) w w'/\∃(ρ':ZK) (Im':Nat->Prop),(∀k β,ρ k=Z β->ρ' k=Z β)/\(∀k β,ρ' k=Z β->k<bs.length) /\
   (∀g,Im' g->Im g\/w.heap.size<=g\/OwA (GM ρ) g)/\(∀g,Im' g->g<w'.heap.size) /\
   (∀k β g,ρ' k=Z β->β.g=Z g->g<w'.heap.size/\(w.heap.size<=g\/OwA (GM ρ) g)) /\
   (∀k β g,live (hL bs) k->ρ' k=Z β->β.g=Z g->¬ Im' g) /\
   (∀k k' β β' g,live (hL bs) k->live (hL bs) k'->ρ' k=Z β->ρ' k'=Z β'->β.g=Z g->β'.g=Z g->k=k') /\
   (∀(k:Nat) (B:Z4),bs[k]?=Z B->∃β,ρ' k=Z β/\RelB ρ' w' Im' β B)/\Zj ρ' w' Im' res u:=by
   obtain⟨ρf,Imf,I,T⟩:=hS';obtain⟨v,h1,h2⟩:=Z3r I T hl;let ρ':ZK:=λk=>if k<pre.length then ρ k else match fin[k]? with|Z b=>ρf b|La=>La
   have hlow:∀k,k<pre.length->ρ' k=ρ k:=λk hk=>by grind
   have hhigh:∀(k b:Nat),¬ k<pre.length->fin[k]?=Z b->ρ' k=ρf b:=λk b hk hb=>by grind
   have hname:∀(k b:Nat) (β:Bi),fin[k]?=Z b->ρf b=Z β->ρ' k=Z β:=by
    intro k b β hb hβ;by_cases hk:k<pre.length
    .rw[hfl k hk]at hb;cases hb;rw[hlow k hk];exact I.one.2 k β oq hβ
    .grind
   have hnm:∀b k β,CK b fin 0=Z k->ρf b=Z β->ρ' k=Z β:=by
    intro b k β hk hβ;obtain⟨_,q2⟩:=Il hk;exact hname k b β (by simpa using q2) hβ
   let Im':Nat->Prop:=λg=>Imf g\/∃b β,8000<=b/\CK b fin 0=La/\live q.s.H b/\ρf b=Z β/\β.g=Z g;have hi:∀g,Imf g->Im' g:=λg h=>.inl h;have hz:∀b β g,8000<=b->CK b fin 0=La->live q.s.H b->ρf b=Z β->β.g=Z g->Im' g:=λb β g k1 k2 k3 k4 k5=>.inr ⟨b,β,k1,k2,k3,k4,k5⟩;have hlv:∀k,live (hL bs) k->∃b β,fin[k]?=Z b/\live q.s.H b/\ρf b=Z β/\ρ' k=Z β:=by
    rintro k ⟨E,hE,hd⟩;obtain⟨b,C,p,k1,k2,k3,k4⟩:=b3 k E hE;have hlb:=ZfV k3 hd;obtain⟨B,hB,_⟩:=id hlb;obtain⟨β,m1,_⟩:=I.blk b B hB;exact⟨b,β,k1,hlb,m1,hname k b β k1 m1⟩
   refine⟨T.defers,v,h1,v,rfl,I.kept,ρ',Im', ?_, ?_, ?_, ?_, ?_, ?_, ?_, ?_, ?_⟩
   .grind
   .grind
   .rintro g (hg|⟨b,β,_,_,_,hb,hg⟩)
    .exact I.im0 g hg
    .exact(I.own b β g hb hg).elim (λh=>.inr (.inl h.1)) (λh=>.inr (.inr h))
   .rintro g (hg|⟨b,β,_,_,_,hb,hg⟩)
    .exact I.imb g hg
    .exact I.bnd b β g hb hg
   .intro k β g hk hg;by_cases hkp:k<pre.length
    .rw[hlow k hkp]at hk;exact⟨Nat.lt_of_lt_of_le (hbnd k β g hk hg).1 I.kept.size,.inr ⟨k,β,hk,hg⟩⟩
    .simp only[ρ',if_neg hkp]at hk;split at hk
     .rename_i b hb;exact⟨I.bnd b β g hk hg,(I.own b β g hk hg).imp (·.1) (λh=>h)⟩
     .cases hk
   .intro k β g hlk hk hg;obtain⟨b,β2,k1,k2,k3,k4⟩:=hlv k hlk;rw[hk]at k4;cases k4;rintro(h|⟨b2,β3,_,m2,m3,m4,m5⟩)
    .exact I.notIm b β g k2 k3 hg h
    .have:=I.inj b b2 β β3 g k2 m3 k3 m4 hg m5;subst this;exact absurd (Lv k1) (AD m2)
   .intro k k' β β' g l1 l2 q1 q2 q3 q4;obtain⟨b,β2,k1,k2,k3,k4⟩:=hlv k l1;obtain⟨b',β2',k1',k2',k3',k4'⟩:=hlv k' l2;rw[q1]at k4;cases k4;rw[q2]at k4';cases k4';have:=I.inj b b' β β' g k2 k2' k3 k3' q3 q4;grind[SK]
   .intro k B hB;by_cases hd:B=.dead
    .subst hd;obtain⟨b,C,p,k1,k2,k3,k4⟩:=b3 k .dead hB;simp only[fzB]at k3;split at k3;rotate_left
     .cases k3
     rename_i hbm;have hbm:=Lk hbm;have e:=SK hnd k1 (hfl b oq);subst e;obtain⟨β,m1,_⟩:=hpre k _ (List.getElem?_eq_getElem oq);exact⟨β,by grind,trivial⟩
    .obtain⟨b,C,p,k1,k2,k3,k4⟩:=b3 k B hB;rw[hB]at k2;cases k2;obtain⟨β,m1,m2⟩:=Zf5 I hnm hi hz k3 k4 hd;grind
   .grind[Z6Y,Zdm]
  cases hqe:q.e with|nrm=>exact post|ret=>exact post|ext n=>grind
section
variable{hs:List (Nat×List Hint)}{cs:List (Nat×Tg×Ex×Tg)}{φ0:Prop}
theorem borF{P:Program}{f:Nat}{fn:Func}{args pre res post} ids keep(c:P.funcs[f]?=Z fn) fl(h:Fq hs cs φ0)(a:Ma fl (Ni P hs cs ids keep fn args pre res post)=φ0:=by kernel_rfl)(b:IF fl (Ni P hs cs ids keep fn args pre res post)=IJ fl (Ni P hs cs ids keep fn args pre res post):=by kernel_rfl):BorSpec P f args pre res post:=
 Bg hs cs ids keep c fl (Ou (Eq.mpr a h.p)) rfl b
theorem lF{P:Program}{f:Nat}{fn:Func}{args pre res post}(c:P.funcs[f]?=Z fn) fl(h:Fq hs cs φ0)(a:Ma fl (Ni P hs cs [0] [] fn args pre res post)=φ0:=by kernel_rfl)(b:IF fl (Ni P hs cs [0] [] fn args pre res post)=IJ fl (Ni P hs cs [0] [] fn args pre res post):=by kernel_rfl):BorSpec P f args pre res post:=
 Bg hs cs [0] [] c fl (Ou (Eq.mpr a h.p)) rfl b
end
end Go.Sx
namespace Go.Proofs.YtgedmeaemofdkaaGreat
open Go.Sx
structure Tape where
 l:List Int
 at':Int
 deriving Inhabited
def Tape.b(t:Tape):Z4:=.box 48 [.d (.sl 1 (t.l.map iD)),nI t.at']
def CY(t:Tape):Prop:=t.l.length<=140737488355328/\0<=t.at'/\t.at'<=1048576
def Tape.next(t:Tape)(n:Int):Int:=if n<1 then 0 else(if t.at'<t.l.length then t.l.getD t.at'.toNat X else t.at'*7+3)%n
def Tape.step(t:Tape)(n:Int):Tape:=if n<1 then t else⟨t.l,t.at'+1⟩
def Z76(v:Int){n:Int}(h:1<=n):-n<v.tmod n/\v.tmod n<n:=by
 by_cases a:0<=v;rw[Le a];have:=Lq v (b:=n) oq;have:=Lp v (b:=n) oq;omega;have e:v.tmod n=-((-v).tmod n):=by rw[Int.neg_tmod];omega
 rw[e,Le oq];have:=Lq (-v) (b:=n) oq;have:=Lp (-v) (b:=n) oq;omega
def ZkQ(v:Int){n:Int}(h:1<=n):(v.tmod n+n).tmod n=v%n:=by
 have hr:=Z76 v h;rw[Le oq,LG];by_cases a:0<=v;rw[Le a,LH];have e:v=n*v.tdiv n+v.tmod n:=(Int.mul_tdiv_add_tmod v n).symm;conv=>rhs;rw[e]
 rw[Int.mul_add_emod_self_left]
def BB t(n:Int)(e:CY t)(hn:n<=1099511627776)(d:-1099511627776<=n):LP 22 [.pt 0 0 0,nI n] [t.b] (nI (t.next n)) [(t.step n).b]:=by
 unfold CY at e;have h1:=λh=>Z76 (t.l.getD t.at'.toNat X) (n:=n) h;have h2:=λh=>ZkQ (t.l.getD t.at'.toNat X) (n:=n) h;have h3:1<=n->0<=(t.at'*7+3)%n/\(t.at'*7+3)%n<n:=λh=>⟨Lq _ oq,Lp _ oq⟩;have h4:((t.at'*7+3)%n+n)%n=(t.at'*7+3)%n:=by rw[LG,LH]
 rcases bb (L (n<1))with hc0|hc0<;>have a:=hc0<;>simp only[bs]at a;rw[show t.step n=t from by simp[Tape.next,Tape.step, *]];exact lF func22 [M]<|Ft 7 hc0<|Fa (by simp[Tape.next,Tape.step, *]:0=t.next n) Fz;have c {h_ c_ p_} (f:Fq h_ c_ p_):=Ff 7 hc0<|Fi 12 (t.at'*7)<|Fi 13 (t.at'*(7:Int)+3)<|Fl 22 iD t.l f;rcases bb (L (t.at'<(t.l.length:Int)))with hc1|hc1<;>have b:=hc1<;>simp only[bs]at b;rw[show t.step n=Tape.mk t.l (t.at'+(1:Int))from by simp[Tape.next,Tape.step, *]];exact lF func22 [M] (c (Ft 23 hc1<|Fe 32 iD t.l t.at'<|Fi 38 (t.at'+1)<|Fo (n≠0)<|Fi 45 ((t.l.getD t.at'.toNat X).tmod n+n)<|Fg 47 (Le oq:((t.l.getD t.at'.toNat X).tmod n+n).tmod n=((t.l.getD t.at'.toNat X).tmod n+n)%n)<|Fo (n≠0)<|Fa (by grind[Tape.next,Tape.step]:((t.l.getD t.at'.toNat X).tmod n+n)%n=t.next n) Fz));rw[show t.step n=Tape.mk t.l (t.at'+(1:Int))from by simp[Tape.next,Tape.step, *]];exact lF func22 [M] (c (Ff 23 hc1<|Fi 38 (t.at'+1)<|Fg 43 (Le oq:(t.at'*(7:Int)+3).tmod n=(t.at'*(7:Int)+3)%n)<|Fo (n≠0)<|Fi 45 ((t.at'*(7:Int)+3)%n+n)<|Fg 47 (Le oq:((t.at'*(7:Int)+3)%n+n).tmod n=((t.at'*(7:Int)+3)%n+n)%n)<|Fo (n≠0)<|Fa (by simp[Tape.next,Tape.step, *]:((t.at'*(7:Int)+3)%n+n)%n=t.next n) Fz))
def PW t(ht:CY t):LP 53 [.pt 0 0 0] [t.b] (bL (L ((t.l.length:Int)<=t.at'))) [t.b]:=by exact lF func53 []<|Fl 11 iD t.l Fz
def Tape.C(t:Tape):B2:=⟨[16,16,20,32].getD (t.next 4).toNat X,[8,12,16,20,24].getD ((t.step 4).next 5).toNat X⟩
def GG(t:Tape){n:Int}(h:1<=n):0<=t.next n/\t.next n<n:=by
 unfold Tape.next
 rw[if_neg oq];exact⟨Lq _ oq,Lp _ oq⟩
def step_ok{t}(a:CY t) n(h:t.at'<1048576):CY (t.step n):=by unfold CY at a⊢;unfold Tape.step;split;exact a;simp only;omega
def Zbk t(a:CY t)(ha:t.at'<=1000000):LP 101 [.pt 0 0 0] [t.b] (t.C.av) [((t.step 4).step 5).b]:=by have h1:=GG t (n:=4) dd;have h2:=GG (t.step 4) (n:=5) dd;have h3:=step_ok a 4 oq;exact lF func101 []<|Fh 7 [.el (iD ([16,16,20,32].getD (t.next 4).toNat X))]<|Fh 12 [.el (iD ([8,12,16,20,24].getD ((t.step 4).next 5).toNat X))]<|Fs 3 (Y iD [16,16,20,32])<|Fp 5 (@BB t (4) aa oq oq)<|Fa (by simp[Tape.C, *]:0<=t.next 4/\(t.next 4).toNat<(Y iD [16,16,20,32]).length)<|Fa (by grind[Tape.C]:(Y iD [16,16,20,32])[(t.next 4).toNat]?=Z (iD ([16,16,20,32].getD (t.next 4).toNat X)))<|Fs 8 (Y iD [8,12,16,20,24])<|Fp 10 (@BB (t.step 4) (5) aa oq oq)<|Fa (by simp[Tape.C, *]:0<=(t.step 4).next 5/\((t.step 4).next 5).toNat<(Y iD [8,12,16,20,24]).length)<|Fa (by grind[Tape.C]:(Y iD [8,12,16,20,24])[((t.step 4).next 5).toNat]?=Z (iD ([8,12,16,20,24].getD ((t.step 4).next 5).toNat X))) Fz
structure Zg where
 j:Heap
 G:List Int
 E:List Int
 deriving Inhabited
def Zg.cells(w:Zg):List AV:=w.j.cells++[Z2 w.G,Z2 w.E]
def Zg.av(w:Zg):AV:=.ag w.cells
def Z9C(t:Tape):Zq t.C=M:=by
 have c:=GG t (n:=4) dd;have d:=GG (t.step 4) (n:=5) dd;unfold Tape.C;generalize t.next 4=a at c
 generalize (t.step 4).next 5=b at d
 have e:a=0\/a=1\/a=2\/a=3:=by omega
 have f:b=0\/b=1\/b=2\/b=3\/b=4:=by omega
 rcases e with rfl|rfl|rfl|rfl<;>rcases f with rfl|rfl|rfl|rfl|rfl<;>decide
def Iu{t:Tape} n:t.at'<=(t.step n).at'/\(t.step n).at'<=t.at'+1/\(t.step n).l=t.l:=by unfold Tape.step;split;exact⟨by omega,by omega,rfl⟩;exact⟨by simp only;omega,by simp only;omega,rfl⟩
def Ie{t u:Tape}(a:CY t)(hl:u.l=t.l)(h1:t.at'<=u.at')(h2:u.at'<=1048576):CY u:=by unfold CY at a⊢;rw[hl];omega
def Tape.empty(t:Tape):Zg:=⟨Rp t.C,[],[]⟩
def Z81 t(ht:CY t)(ha:t.at'<=1000000):LP 52 [.pt 0 0 0] [t.b] (t.empty.av) [((t.step 4).step 5).b]:=by have hv:=Z9C t;exact lF func52 []<|Fp 7 (@Zbk t aa aa)<|Fc 8 (@ZaR t.C aa)<|Fnl (Fnl Fz)
def GI(t:Tape)(c:B2):Int:=if(t.step (Zc c)).next 12=0 then Zc c+((t.step (Zc c)).step 12).next c.pw else t.next (Zc c)
def G7(t:Tape)(c:B2):Tape:=if(t.step (Zc c)).next 12=0 then((t.step (Zc c)).step 12).step c.pw else(t.step (Zc c)).step 12
def Tape.header(t:Tape)(c:B2):ZB:=if(G7 t c).next 4=0 then⟨2,GI t c,0⟩else if(G7 t c).next 4=1 then⟨3,GI t c,0⟩else⟨1,min (GI t c) 32,((G7 t c).step 4).next (2^(min (min (GI t c) 32) 12).toNat)⟩
def Tape.headerT(t:Tape)(c:B2):Tape:=if(G7 t c).next 4=0 then(G7 t c).step 4 else if(G7 t c).next 4=1 then(G7 t c).step 4 else((G7 t c).step 4).step (2^(min (min (GI t c) 32) 12).toNat)
def Z1I{n:Int}(h:n<=12):(1:Int)<=2^n.toNat/\(2:Int)^n.toNat<=4096:=by
 have:n.toNat<=12:=by omega
 generalize n.toNat=k at this;have hk:k∈Ld 13:=Lj.2 oq;revert k;decide+kernel
def Z9p{n:Int}(h:0<=n):1*2^min (min (min n 32) 12).toNat 64=(2:Int)^(min (min n 32) 12).toNat:=by rw[Nat.min_eq_left oq,Int.one_mul]
def Pf t(c:B2)(ht:CY t)(ha:t.at'<=1000000)(hv:Zq c=M):LP 102 [.pt 0 0 0,c.av] [t.b] ((t.header c).av) [(t.headerT c).b]:=by
 have hb:=BF.1 hv;have hs:=Rn hv;have s1:=Iu (t:=t) (Zc c);have s2:=Iu (t:=t.step (Zc c)) 12;have s3:=Iu (t:=(t.step (Zc c)).step 12) c.pw;have k1:=Ie ht s1.2.2 oq oq;have k2:=Ie k1 s2.2.2 oq oq;have k3:=Ie k2 s3.2.2 oq oq;have n1:=GG t (n:=Zc c) oq;have n2:=GG ((t.step (Zc c)).step 12) (n:=c.pw) oq;have h1:0<=GI t c/\GI t c<=80:=by unfold GI;split<;>omega
 have s4:=Iu (t:=((t.step (Zc c)).step 12).step c.pw) 4;have s5:=Iu (t:=(t.step (Zc c)).step 12) 4;have k4:=Ie k3 s4.2.2 oq oq;have k5:=Ie k2 s5.2.2 oq oq;have ei1:=Z9p (n:=Zc c+((t.step (Zc c)).step 12).next c.pw) oq;have ei2:=Z9p (n:=t.next (Zc c)) oq;have p1:=Z1I (n:=min (min (Zc c+((t.step (Zc c)).step 12).next c.pw) 32) 12) oq;have p2:=Z1I (n:=min (min (t.next (Zc c)) 32) 12) oq;have r1:=GG ((((t.step (Zc c)).step 12).step c.pw).step 4) (n:=2^(min (min (Zc c+((t.step (Zc c)).step 12).next c.pw) 32) 12).toNat) oq;have r2:=GG (((t.step (Zc c)).step 12).step 4) (n:=2^(min (min (t.next (Zc c)) 32) 12).toNat) oq;have Q0 {h_ c_ p_} (r_:Fq h_ c_ p_):=Fc 8 (@Ng c)<|Fp 11 (@BB t (Zc c) aa oq oq)<|Fp 13 (@BB (t.step (Zc c)) (12) aa oq oq) r_;rcases bb ((t.step (Zc c)).next (12:Int)==0)with hc0|hc0<;>have hc0p:=hc0<;>simp only[bs]at hc0p;let y0:=(t.step (Zc c)).step 12;have Q1 {h_ c_ p_} (r_:Fq h_ c_ p_):=Q0<|Ft 14 hc0<|Fp 19 (@BB y0 c.pw aa oq oq)<|Fi 20 (Zc c+y0.next c.pw)<|Fp 22 (@BB (y0.step c.pw) (4) aa oq oq) r_;rcases bb ((((t.step (Zc c)).step 12).step c.pw).next (4:Int)==0)with hc1|hc1<;>have hc1p:=hc1<;>simp only[bs]at hc1p;rw[show t.header c=ZB.mk (2:Int) (Zc c+((t.step (Zc c)).step (12:Int)).next c.pw) (0:Int)from by(simp only[Tape.header,Tape.headerT,GI,G7] ;exact sj)];rw[show t.headerT c=(((t.step (Zc c)).step (12:Int)).step c.pw).step (4:Int)from by(simp only[Tape.header,Tape.headerT,GI,G7] ;exact sj)];exact lF func102 []<|Fh 23 [.br M] (Q1 (Fa hc1 Fz));rcases bb ((((t.step (Zc c)).step 12).step c.pw).next (4:Int)==1)with hc2|hc2<;>have hc2p:=hc2<;>simp only[bs]at hc2p;rw[show t.header c=ZB.mk (3:Int) (Zc c+((t.step (Zc c)).step (12:Int)).next c.pw) (0:Int)from by(simp only[Tape.header,Tape.headerT,GI,G7] ;exact sj)];rw[show t.headerT c=(((t.step (Zc c)).step (12:Int)).step c.pw).step (4:Int)from by(simp only[Tape.header,Tape.headerT,GI,G7] ;exact sj)];exact lF func102 []<|Fh 23 [.br O]<|Fh 27 [.br M] (Q1 (Fa hc1<|Fa hc2 Fz))
 .rw[show t.header c=ZB.mk (1:Int) (min (Zc c+((t.step (Zc c)).step (12:Int)).next c.pw) (32:Int)) (((((t.step (Zc c)).step (12:Int)).step c.pw).step (4:Int)).next ((2:Int)^(min (min (Zc c+((t.step (Zc c)).step (12:Int)).next c.pw) (32:Int)) (12:Int)).toNat))from by(simp only[Tape.header,Tape.headerT,GI,G7] ;exact sj)];rw[show t.headerT c=((((t.step (Zc c)).step (12:Int)).step c.pw).step (4:Int)).step ((2:Int)^(min (min (Zc c+((t.step (Zc c)).step (12:Int)).next c.pw) (32:Int)) (12:Int)).toNat)from by(simp only[Tape.header,Tape.headerT,GI,G7] ;exact sj)];let y3:=(t.step (Zc c)).step 12;let y1:=Zc c+y3.next c.pw
  let y2:=min (min y1 32) 12;let y4:=(y3.step c.pw).step 4;exact lF func102 []<|Fh 23 [.br O]<|Fh 27 [.br O] (Q1 (Fa hc1<|Fa hc2<|Fgo 32 (if 32<Zc c+y3.next c.pw then 32 else Zc c+y3.next c.pw) (min y1 32)<|Fgo 36 (if 12<min y1 32 then 12 else min y1 32) y2<|Fv 37 y2<|Fg 38 (by rw[CR oq oq];omega:Lr.wrap ((1:Int)*2^min y2.toNat 64)=2^y2.toNat)<|Fo (0<=min (min y1 32) 12)<|Fp 39 (@BB y4 (2^y2.toNat) aa oq oq)<|Fg 40 (Z0p oq oq:LK.wrap (y4.next (2^y2.toNat))=y4.next (2^y2.toNat)) Fz))
 have Q2 {h_ c_ p_} (r_:Fq h_ c_ p_):=Q0 (Ff 14 hc0<|Fp 22 (@BB ((t.step (Zc c)).step 12) (4) aa oq oq) r_);rcases bb (((t.step (Zc c)).step 12).next (4:Int)==0)with hc3|hc3<;>have hc3p:=hc3<;>simp only[bs]at hc3p;rw[show t.header c=ZB.mk (2:Int) (t.next (Zc c)) (0:Int)from by(simp only[Tape.header,Tape.headerT,GI,G7] ;exact sj)];rw[show t.headerT c=((t.step (Zc c)).step (12:Int)).step (4:Int)from by(simp only[Tape.header,Tape.headerT,GI,G7] ;exact sj)];exact lF func102 []<|Fh 23 [.br M] (Q2 (Fa hc3 Fz));rcases bb (((t.step (Zc c)).step 12).next (4:Int)==1)with hc4|hc4<;>have hc4p:=hc4<;>simp only[bs]at hc4p;rw[show t.header c=ZB.mk (3:Int) (t.next (Zc c)) (0:Int)from by(simp only[Tape.header,Tape.headerT,GI,G7] ;exact sj)];rw[show t.headerT c=((t.step (Zc c)).step (12:Int)).step (4:Int)from by(simp only[Tape.header,Tape.headerT,GI,G7] ;exact sj)];exact lF func102 []<|Fh 23 [.br O]<|Fh 27 [.br M] (Q2 (Fa hc3<|Fa hc4 Fz));rw[show t.header c=ZB.mk (1:Int) (min (t.next (Zc c)) (32:Int)) ((((t.step (Zc c)).step (12:Int)).step (4:Int)).next ((2:Int)^(min (min (t.next (Zc c)) (32:Int)) (12:Int)).toNat))from by(simp only[Tape.header,Tape.headerT,GI,G7] ;exact sj)];rw[show t.headerT c=(((t.step (Zc c)).step (12:Int)).step (4:Int)).step ((2:Int)^(min (min (t.next (Zc c)) (32:Int)) (12:Int)).toNat)from by(simp only[Tape.header,Tape.headerT,GI,G7] ;exact sj)];let y5:=min (min (t.next (Zc c)) 32) 12;let y6:=((t.step (Zc c)).step 12).step 4;exact lF func102 []<|Fh 23 [.br O]<|Fh 27 [.br O] (Q2 (Fa hc3<|Fa hc4<|Fgo 32 (if 32<t.next (Zc c)then 32 else t.next (Zc c)) (min (t.next (Zc c)) 32)<|Fgo 36 (if 12<min (t.next (Zc c)) 32 then 12 else min (t.next (Zc c)) 32) y5<|Fv 37 y5<|Fg 38 (by rw[CR oq oq];omega:Lr.wrap ((1:Int)*2^min y5.toNat 64)=2^y5.toNat)<|Fo (0<=min (min (t.next (Zc c)) 32) 12)<|Fp 39 (@BB y6 (2^y5.toNat) aa oq oq)<|Fg 40 (Z0p oq oq:LK.wrap (y6.next (2^y5.toNat))=y6.next (2^y5.toNat)) Fz))
abbrev sA(w:Zg)(t:Tape):Tape:=(t.step (w.j.W.length:Int)).step (w.j.P.length:Int)
abbrev sB(w:Zg)(t:Tape):Tape:=(sA w t).step 12
abbrev sC(w:Zg)(t:Tape):Int:=(t.step (w.j.W.length:Int)).next (w.j.P.length:Int)
def CI(l:List Int):Prop:=∀x∈l,0<=x/\x<=18446744073709551615
structure Sg (w:Zg):Prop where
 W:Zy w.j.W
 G:CI w.G
 E:CI w.E
 sl:w.G.length<=1048576
 wl:w.E.length<=1048576
def Zg.refs(w:Zg):List Int:=0::(w.G++w.E)
def Zg.pick(w:Zg)(t:Tape):Int:=w.refs.getD (t.next (w.refs.length:Int)).toNat X
def Zg.pickT(w:Zg)(t:Tape):Tape:=t.step (w.refs.length:Int)
def IT w t(a:Sg w)(ht:CY t)(ha:t.at'<=1040000):LP 106 [w.av,.pt 0 0 0] [t.b] (uU (w.pick t)) [(w.pickT t).b]:=by
 have h1:=a.sl;have h2:=a.wl;have hl:w.refs.length=w.G.length+w.E.length+1:=by simp[Zg.refs]
 have hn:=GG t (n:=(w.refs.length:Int)) oq;rw[show w.pickT t=t.step (↑((0:Nat)+(1:Nat)+w.G.length+w.E.length):Int)from by grind[Zg.pick,Zg.refs,Zg.pickT]];exact lF func106 [M]<|Fh 12 [.els (Y wD ([0]++w.G++w.E))]<|Fh 19 [.el (wD (([0]++w.G++w.E).getD (t.next (↑(0+1+w.G.length+w.E.length):Int)).toNat X))]<|Fs 6 (Y wD [0])<|Fa (by(simp[Zg.pick,Zg.refs,Zg.pickT, *];omega):(Y wD [0]).length+(Y wD w.G).length<=2^30)<|Fs 9 (Y wD ([0]++w.G))<|Fa (by(simp[Zg.pick,Zg.refs,Zg.pickT, *];omega):(Y wD ([0]++w.G)).length+(Y wD w.E).length<=2^30)<|Fa (by simp[Zg.pick,Zg.refs,Zg.pickT,LC,LA,LB,Lu,wD,iD]:Y wD ([0]++w.G)++Y wD w.E=Y wD ([0]++w.G++w.E))<|Fg 16 (by simp only[Li,Lf,LN,List.length_drop,Lt,List.length_replicate,List.length_nil,List.length_cons]:(↑(Y wD ([0]++w.G++w.E)).length:Int)=(↑(0+1+w.G.length+w.E.length):Int))<|Fp 17 (@BB t ((↑(0+1+w.G.length+w.E.length):Int)) aa oq oq)<|Fa (by grind[Zg.pick,Zg.refs,Zg.pickT]:0<=t.next (↑(0+1+w.G.length+w.E.length):Int)/\(t.next (↑(0+1+w.G.length+w.E.length):Int)).toNat<(Y wD ([0]++w.G++w.E)).length)<|Fa (by grind[Zg.pick,Zg.refs,Zg.pickT]:(Y wD ([0]++w.G++w.E))[(t.next (↑(0+1+w.G.length+w.E.length):Int)).toNat]?=Z (wD (([0]++w.G++w.E).getD (t.next (↑(0+1+w.G.length+w.E.length):Int)).toNat X)))<|Fa (by grind[Zg.pick,Zg.refs,Zg.pickT]:([0]++w.G++w.E).getD (t.next (↑(0+1+w.G.length+w.E.length):Int)).toNat X=w.pick t) Fz
def Zg.put(w:Zg)(a:ZB):Zg:=if(Bb w.j a).2.2=0 then⟨(Bb w.j a).1,w.G++[(Bb w.j a).2.1],w.E⟩else w
def TR w(a:ZB)(d:Sg w)(hm:0<=a.map/\a.map<=4294967295):GP 58 [w.av,a.av] O (w.put a).av []:=by have h0:=d.W;have h1:=d.sl;have c {h_ c_ p_} (e:Fq h_ c_ p_):=Fc 12 (@Z5J w.j a aa aa) e;rcases bb ((Bb w.j a).2.2==0)with hc0|hc0<;>have b:=hc0<;>simp only[bs]at b;rw[show w.put a=Zg.mk (Bb w.j a).1 (w.G++[(Bb w.j a).2.1]) w.E from by simp[Zg.put, *]];exact gF [] func58 []<|Fh 25 [.els (Y wD (w.G++[(Bb w.j a).2.1]))] (c (Ft 17 hc0<|FAx 19 22 wD w.G (by(simp[Zg.put, *];omega))<|Fs 24 (Y wD [(Bb w.j a).2.1])<|Fa (by(simp[Zg.put, *];omega):(Y wD w.G).length+(Y wD [(Bb w.j a).2.1]).length<=2^30)<|Fa (by simp[Zg.put,LC,LA,LB,Lu,wD,iD]:Y wD w.G++Y wD [(Bb w.j a).2.1]=Y wD (w.G++[(Bb w.j a).2.1])) Fz));rw[show w.put a=w from by simp[Zg.put, *]];exact gF [] func58 [] (c (Ff 17 hc0 Fz))
abbrev pA(w:Zg)(t:Tape):Z0:=w.j.P.getD (Z3 w.j.C (w.pick t)).1.toNat X
def Af{l}(h:CI l)(i:Nat):0<=l.getD i X/\l.getD i X<=18446744073709551615:=by
 rw[Lg];cases e:l[i]? with|none=>simp|some x=>exact h x (Lv e)
def Zli{w}(b:Sg w):CI w.refs:=by intro x a;simp only[Zg.refs,List.mem_cons,Lm]at a;rcases a with rfl|a|a;omega;exact b.G x a;exact b.E x a
def M5{w}(a:Sg w)(t:Tape):0<=w.pick t/\w.pick t<=18446744073709551615:=Af (Zli a) _
def Z0I(w:Zg)(t:Tape):t.at'<=(w.pickT t).at'/\(w.pickT t).at'<=t.at'+1/\(w.pickT t).l=t.l:=Iu _
def IP(w:Zg)(t:Tape):Int:=((w.pickT (w.pickT t)).next 8).tmod (Zx w.j (w.pick t)).1.length
def NA(w:Zg)(t:Tape):Int:=if Bt (Zx w.j (w.pick t)).1 (IP w t)=M then w.pick (w.pickT t)else((w.pickT (w.pickT t)).step 8).next 1048576
def Zg.link(w:Zg)(t:Tape):Zg:=if(Zx w.j (w.pick t)).2=0/\(Zx w.j (w.pick t)).1.length≠0 then⟨(E4 w.j (w.pick t) (IP w t) (NA w t)).1,w.G,w.E⟩else w
def Zg.linkT(w:Zg)(t:Tape):Tape:=if(Zx w.j (w.pick t)).2=0/\(Zx w.j (w.pick t)).1.length≠0/\Bt (Zx w.j (w.pick t)).1 (IP w t)=O then((w.pickT (w.pickT t)).step 8).step 1048576 else(w.pickT (w.pickT t)).step 8
def Z2h w t(p:Sg w)(z:CY t)(ha:t.at'<=1000000):LP 103 [w.av,.pt 0 0 0] [t.b] (w.link t).av [(w.linkT t).b]:=by have h0:=p.W;have s1:=Z0I w t;have s2:=Z0I w (w.pickT t);have s3:=Iu (t:=w.pickT (w.pickT t)) 8;have k1:=Ie z s1.2.2 oq oq;have k2:=Ie k1 s2.2.2 oq oq;have k3:=Ie k2 s3.2.2 oq oq;have p1:=M5 p t;have p2:=M5 p (w.pickT t);have n1:=GG (w.pickT (w.pickT t)) (n:=8) dd;have n2:=GG ((w.pickT (w.pickT t)).step 8) (n:=1048576) dd;have m1:=Z2D p.W (w.pick t);have v {h_ c_ p_} (u:Fq h_ c_ p_):=Fp 12 (@IT w t aa aa oq)<|Fp 15 (@IT w (w.pickT t) aa aa oq)<|Fp 17 (@BB (w.pickT (w.pickT t)) (8) aa oq oq)<|Fc 22 (@NJ w.j (w.pick t) aa aa) u;rcases bb ((Zx w.j (w.pick t)).2 != 0||(Zx w.j (w.pick t)).1.length==0)with hc0|hc0<;>have e:=hc0<;>simp only[bs]at e;rw[show w.link t=w from by(simp[Zg.link,Zg.linkT,IP,NA, *];omega)];rw[show w.linkT t=(w.pickT (w.pickT t)).step (8:Int)from by grind[Zg.link,Zg.linkT,IP,NA]];exact lF func103 [] (v (Ft 31 hc0 Fz));obtain⟨g,q⟩:=e;have r:=Sq g;obtain⟨y,⟨s,⟨o,⟨m,⟨j,⟨h,⟨f,⟨d,⟨c,⟨a,b⟩⟩⟩⟩⟩⟩⟩⟩⟩⟩:=r;let k:=Zx w.j (w.pick t);let i:=w.pickT (w.pickT t);have x {h_ c_ p_} (u:Fq h_ c_ p_):=v<|Ff 31 hc0<|Fg 36 (Le oq:(i.next 8).tmod k.1.length=i.next 8%k.1.length)<|Fo (k.1.length≠0)<|Fc 39 (@RN (k.1) (i.next 8%k.1.length) aa) u;rcases bb (!Bt (Zx w.j (w.pick t)).1 ((w.pickT (w.pickT t)).next 8%(Zx w.j (w.pick t)).1.length))with hc6|hc6<;>have l:=hc6<;>simp only[bs]at l;rw[show w.link t=Zg.mk (E4 w.j (w.pick t) ((w.pickT (w.pickT t)).next (8:Int)%(Zx w.j (w.pick t)).1.length) (((w.pickT (w.pickT t)).step (8:Int)).next (1048576:Int))).1 w.G w.E from by grind[Zg.link,Zg.linkT,IP,NA]];rw[show w.linkT t=((w.pickT (w.pickT t)).step (8:Int)).step (1048576:Int)from by grind[Zg.link,Zg.linkT,IP,NA]];exact lF func103 [] (x (Ft 40 hc6<|Fp 42 (@BB (i.step 8) (1048576) aa oq oq)<|Fv 43 ((i.step 8).next 1048576)<|Fc 50 (@Z6K w.j (w.pick t) (i.next 8%k.1.length) ((i.step 8).next 1048576) aa aa) Fz));rw[show w.link t=Zg.mk (E4 w.j (w.pick t) ((w.pickT (w.pickT t)).next (8:Int)%(Zx w.j (w.pick t)).1.length) (w.pick (w.pickT t))).1 w.G w.E from by grind[Zg.link,Zg.linkT,IP,NA]];rw[show w.linkT t=(w.pickT (w.pickT t)).step (8:Int)from by grind[Zg.link,Zg.linkT,IP,NA]];exact lF func103 [] (x (Ff 40 hc6<|Fc 50 (@Z6K w.j (w.pick t) ((w.pickT (w.pickT t)).next 8%(Zx w.j (w.pick t)).1.length) (w.pick (w.pickT t)) aa aa) Fz))
def BJ(l:List Z0):Nat->Nat|0=>0|i+1=>BJ l i+(if(l.getD i X).K=1/\0<(l.getD i X).N then 1 else 0)
def R6 l:∀i,BJ l i<=i
 |0=>Ll _
 |i+1=>by
  have:=R6 l i;simp only[BJ];split<;>omega
def crowd(l:List Z0):Nat:=BJ l l.length
def PP(h:Heap)(i:Nat):Tg:=⟨tm 31 [(1,.pt 8001 0 0),(3,nI (BJ h.P i)),(4,nI i)],[(8001,.box 28 h.cells)],60⟩
def ZaT(h:Heap)(hl:h.P.length<=1048576)(i:Nat)(hi:i<h.P.length):CP (Zl f155 0) (PP h i).st .nrm (PP h (i+1)).st:=by have hc:=R6 h.P i;have d {h_ c_ p_} (e:Fq h_ c_ p_):=FN 8 9 15 Z0.dv h.P i<|FeG 23 ((h.P.getD i X).K==1) Z0.dv h.P (↑i) i e;rcases bb ((h.P.getD i X).K==1&&L (0<(h.P.getD i X).N))with hc0|hc0<;>have a:=hc0<;>simp only[bs]at a;obtain⟨b,c⟩:=a;exact sF [] (fO 8) (d (Ft 27 hc0<|Fw 29 ((↑(BJ h.P i):Int)+1) (↑(BJ h.P i+1):Int)<|Fx 11 i<|Fa (by(simp only[BJ] ;exact sj):(↑(BJ h.P i+1):Int)=(↑(BJ h.P (i+1)):Int)) Fz));exact sF [] (fO 8) (d (Ff 27 hc0<|Fx 11 i<|Fa (by(simp only[BJ] ;exact sj):(↑(BJ h.P i):Int)=(↑(BJ h.P (i+1)):Int)) Fz))
def ZaU(h:Heap):CP (Zl f155 0) (PP h h.P.length).st (.ext 0) (Tg.st ⟨tm 31 [(3,nI (crowd h.P))],[],60⟩):=by exact sF [] []<|FO 8 9 Z0.dv h.P Fz
def ZaM(h:Heap)(hl:h.P.length<=1048576)  := Bp (S:=λi=>(PP h i).st) h.P.length (by kernel_rfl) (λi a=>ZaT h hl i a) (ZaU h)
def Z1C(h:Heap)(hl:h.P.length<=1048576):GP 155 [h.av] M (nI (crowd h.P)) []:=by exact gF [] func155 []<|Fu (@ZaM h aa) Fz
def Z1T(w:Zg)(t:Tape):Int:=t.next (w.G.length:Int)
def Zg.drop(w:Zg)(t:Tape):Zg:=
 if 0<w.G.length then⟨w.j,w.G.take (Z1T w t).toNat++w.G.drop ((Z1T w t).toNat+1),if(t.step (w.G.length:Int)).next 3=0 then w.E++[w.G.getD (Z1T w t).toNat X]else w.E⟩else w
def Zg.dropT(w:Zg)(t:Tape):Tape:=if 0<w.G.length then(t.step (w.G.length:Int)).step 3 else t
def Z7Q w t(c:Sg w)(d:CY t)(ha:t.at'<=1040000):LP 105 [w.av,.pt 0 0 0] [t.b] (w.drop t).av [(w.dropT t).b]:=by
 have h1:=c.sl;have h2:=c.wl;have s1:=Iu (t:=t) (w.G.length:Int);have k1:=Ie d s1.2.2 oq oq;have n1:=λh=>GG t (n:=(w.G.length:Int)) h;by_cases c1:0<w.G.length
 .have b:w.dropT t=(t.step (w.G.length:Int)).step 3:=by rw[Zg.dropT,if_pos c1]
  by_cases c2:(t.step (w.G.length:Int)).next 3=0
  have a:w.drop t=⟨w.j,w.G.take (t.next (w.G.length:Int)).toNat++w.G.drop ((t.next (w.G.length:Int)).toNat+1),w.E++[w.G.getD (t.next (w.G.length:Int)).toNat X]⟩:=by rw[Zg.drop,if_pos c1,if_pos c2];rfl
  rw[a,b];exact lF func105 [M]<|Fh 28 [.els (Y wD (w.E++[w.G.getD (t.next (w.G.length:Int)).toNat X]))]<|Fh 35 [.els (Y wD (Lb (t.next (w.G.length:Int)).toNat w.G))]<|Fh 40 [.els (Y wD (Lc (t.next (w.G.length:Int)+1).toNat w.G))]<|Fh 41 [.els (Y wD (Lb (t.next (w.G.length:Int)).toNat w.G++Lc (t.next (w.G.length:Int)+1).toNat w.G))]<|Fl 9 wD w.G<|Ftb 11 (L (0<(w.G.length:Int)))<|Fp 14 (@BB t ((w.G.length:Int)) aa oq oq)<|Fp 16 (@BB (t.step (w.G.length:Int)) (3) aa oq oq)<|Ftb 17 ((t.step (w.G.length:Int)).next (3:Int)==0)<|FA 18 21 wD w.E<|Fe 25 wD w.G (t.next (w.G.length:Int))<|Fs 27 (Y wD [w.G.getD (t.next (w.G.length:Int)).toNat X])<|Fa (by(simp[*];omega):(Y wD w.E).length+(Y wD [w.G.getD (t.next (w.G.length:Int)).toNat X]).length<=2^30)<|Fa (ms:Y wD w.E++Y wD [w.G.getD (t.next (w.G.length:Int)).toNat X]=Y wD (w.E++[w.G.getD (t.next (w.G.length:Int)).toNat X]))<|Fs 30 (Y wD [])<|Fa (by(simp only[Li];omega):0<=t.next (w.G.length:Int)/\t.next (w.G.length:Int)<=(↑(Y wD w.G).length:Int))<|Fa (ms:Lb (t.next (w.G.length:Int)).toNat (Y wD w.G)=Y wD (Lb (t.next (w.G.length:Int)).toNat w.G))<|Fa (by(simp[*];omega):(Y wD []).length+(Y wD (Lb (t.next (w.G.length:Int)).toNat w.G)).length<=2^30)<|Fs 34 (Y wD (Lb (t.next (w.G.length:Int)).toNat w.G))<|Fi 39 (t.next (w.G.length:Int)+1)<|Fa (by(simp only[Li];omega):0<=t.next (w.G.length:Int)+1/\t.next (w.G.length:Int)+1<=(↑(Y wD w.G).length:Int))<|Fa (ms:Lc (t.next (w.G.length:Int)+1).toNat (Y wD w.G)=Y wD (Lc (t.next (w.G.length:Int)+1).toNat w.G))<|Fa (by(simp[*];omega):(Y wD (Lb (t.next (w.G.length:Int)).toNat w.G)).length+(Y wD (Lc (t.next (w.G.length:Int)+1).toNat w.G)).length<=2^30)<|Fa (ms:Y wD (Lb (t.next (w.G.length:Int)).toNat w.G)++Y wD (Lc (t.next (w.G.length:Int)+1).toNat w.G)=Y wD (Lb (t.next (w.G.length:Int)).toNat w.G++Lc (t.next (w.G.length:Int)+1).toNat w.G))<|Fr w.j.C.pw<|Fr w.j.C.pg<|Fr (Y wD w.j.W)<|Fr (Y Z0.dv w.j.P)<|Fr w.j.S<|Fr w.j.B<|Fa (by refine congrArg _ ?_;(simp[*];omega):Y wD (Lb (t.next (w.G.length:Int)).toNat w.G++Lc (t.next (w.G.length:Int)+1).toNat w.G)=Y wD (Zg.mk w.j (Lb (t.next (w.G.length:Int)).toNat w.G++Lc ((t.next (w.G.length:Int)).toNat+1) w.G) (w.E++[w.G.getD (t.next (w.G.length:Int)).toNat X])).G)<|Fr (Y wD (w.E++[w.G.getD (t.next (w.G.length:Int)).toNat X])) Fz;have a:w.drop t=⟨w.j,w.G.take (t.next (w.G.length:Int)).toNat++w.G.drop ((t.next (w.G.length:Int)).toNat+1),w.E⟩:=by rw[Zg.drop,if_pos c1,if_neg c2];rfl
  rw[a,b];exact lF func105 [M]<|Fh 35 [.els (Y wD (Lb (t.next (w.G.length:Int)).toNat w.G))]<|Fh 40 [.els (Y wD (Lc (t.next (w.G.length:Int)+1).toNat w.G))]<|Fh 41 [.els (Y wD (Lb (t.next (w.G.length:Int)).toNat w.G++Lc (t.next (w.G.length:Int)+1).toNat w.G))]<|Fl 9 wD w.G<|Ftb 11 (L (0<(w.G.length:Int)))<|Fp 14 (@BB t ((w.G.length:Int)) aa oq oq)<|Fp 16 (@BB (t.step (w.G.length:Int)) (3) aa oq oq)<|Ffb 17 ((t.step (w.G.length:Int)).next (3:Int)==0)<|Fs 30 (Y wD [])<|Fa (by(simp only[Li];omega):0<=t.next (w.G.length:Int)/\t.next (w.G.length:Int)<=(↑(Y wD w.G).length:Int))<|Fa (ms:Lb (t.next (w.G.length:Int)).toNat (Y wD w.G)=Y wD (Lb (t.next (w.G.length:Int)).toNat w.G))<|Fa (by(simp[*];omega):(Y wD []).length+(Y wD (Lb (t.next (w.G.length:Int)).toNat w.G)).length<=2^30)<|Fs 34 (Y wD (Lb (t.next (w.G.length:Int)).toNat w.G))<|Fi 39 (t.next (w.G.length:Int)+1)<|Fa (by(simp only[Li];omega):0<=t.next (w.G.length:Int)+1/\t.next (w.G.length:Int)+1<=(↑(Y wD w.G).length:Int))<|Fa (ms:Lc (t.next (w.G.length:Int)+1).toNat (Y wD w.G)=Y wD (Lc (t.next (w.G.length:Int)+1).toNat w.G))<|Fa (by(simp[*];omega):(Y wD (Lb (t.next (w.G.length:Int)).toNat w.G)).length+(Y wD (Lc (t.next (w.G.length:Int)+1).toNat w.G)).length<=2^30)<|Fa (ms:Y wD (Lb (t.next (w.G.length:Int)).toNat w.G)++Y wD (Lc (t.next (w.G.length:Int)+1).toNat w.G)=Y wD (Lb (t.next (w.G.length:Int)).toNat w.G++Lc (t.next (w.G.length:Int)+1).toNat w.G))<|Fr w.j.C.pw<|Fr w.j.C.pg<|Fr (Y wD w.j.W)<|Fr (Y Z0.dv w.j.P)<|Fr w.j.S<|Fr w.j.B<|Fa (by refine congrArg _ ?_;(simp[*];omega):Y wD (Lb (t.next (w.G.length:Int)).toNat w.G++Lc (t.next (w.G.length:Int)+1).toNat w.G)=Y wD (Zg.mk w.j (Lb (t.next (w.G.length:Int)).toNat w.G++Lc ((t.next (w.G.length:Int)).toNat+1) w.G) w.E).G)<|Fr (Y wD w.E) Fz
 have a:w.drop t=w:=by rw[Zg.drop,if_neg c1]
 have b:w.dropT t=t:=by rw[Zg.dropT,if_neg c1]
 rw[a,b];exact lF func105 []<|Fl 9 wD w.G<|Ffb 11 (L (0<(w.G.length:Int))) Fz
def NG(h:Heap)(i:Nat):Tg:=⟨tm 65 [(1,.pt 8001 0 0),(2,.pt 8002 0 0),(6,nI (BJ h.P i)),(7,nI i)],[(8002,.box 148 [nI 0,nI 0,uU 0]),(8001,.box 28 h.cells)],64⟩
def Zhe(h:Heap)(i:Nat)(c:Z8 h=M)(hi:i<h.P.length):CP (Zl f89 2) (NG h i).st .nrm (NG h (i+1)).st:=by
 have po:=B5 c;have:=R6 h.P i;by_cases a:(h.P.getD i X).K=1;by_cases b:0<(h.P.getD i X).N;have e:BJ h.P (i+1)=BJ h.P i+1:=by rw[BJ,if_pos ⟨a,b⟩]
 rw[NG,NG,e];exact sF [] []<|FN 35 36 42 Z0.dv h.P i<|FeG 50 ((h.P.getD i X).K==1) Z0.dv h.P (↑i) i<|Ftb 54 ((h.P.getD i X).K==1&&L (0<(h.P.getD i X).N))<|Fw 56 ((↑(BJ h.P i):Int)+1) (↑(BJ h.P i+1):Int)<|Fx 38 i Fz;have e:BJ h.P (i+1)=BJ h.P i:=by rw[BJ,if_neg (λq=>b q.2)];rfl
 rw[NG,NG,e];exact sF [] []<|FN 35 36 42 Z0.dv h.P i<|FeG 50 ((h.P.getD i X).K==1) Z0.dv h.P (↑i) i<|Ffb 54 ((h.P.getD i X).K==1&&L (0<(h.P.getD i X).N))<|Fx 38 i Fz;have e:BJ h.P (i+1)=BJ h.P i:=by rw[BJ,if_neg (λq=>a q.1)];rfl
 rw[NG,NG,e];exact sF [] []<|FN 35 36 42 Z0.dv h.P i<|FeG 50 ((h.P.getD i X).K==1) Z0.dv h.P (↑i) i<|Ffb 54 ((h.P.getD i X).K==1&&L (0<(h.P.getD i X).N))<|Fx 38 i Fz
def ZbM(h:Heap)(a:Z8 h=M):CP (Zl f89 2) (NG h h.P.length).st (.ext 2) (Tg.st ⟨tm 65 [(1,.pt 8001 0 0),(2,.pt 8002 0 0),(6,nI (BJ h.P h.P.length))],[(8002,.box 148 [nI 0,nI 0,uU 0]),(8001,.box 28 h.cells)],64⟩):=by have po:=B5 a;exact sF [] []<|FO 35 36 Z0.dv h.P Fz
def Z6S(h:Heap)(a:Z8 h=M)  := Bp (S:=λk=>(NG h k).st) h.P.length (by kernel_rfl) (λk b=>Zhe h k a b) (ZbM h a)
def Zd7(h:Heap)(hw:Zy h.W)(a:Z8 h=M)(hb:Gi h=La)(hq:(Ew h (Zt h).1).fault=0)(hc:h.C.pg/4<(BJ h.P h.P.length:Nat)):GP 89 [h.av] M (C0.mk 7 0 0).av []:=by have po:=B5 a;have:=R6 h.P h.P.length;exact gF [] func89 []<|Fc 9 (@CC h)<|Ffb 10 (!Z8 h)<|Fu (@Z25 h aa aa aa)<|Fc 27 (@Z2H h aa)<|Ffb 30 ((Ew h (Zt h).1).fault != 0)<|Fu (@Z6S h aa)<|Fg 61 (by rw[LI oq,CR oq oq]:Lr.wrap (h.C.pg.tdiv 4)=h.C.pg/4)<|Fa (by decide:(4:Int)≠0)<|Ftb 62 (L (h.C.pg/4<(↑(BJ h.P h.P.length):Int))) Fz
def Zdb(h:Heap)(hw:Zy h.W)(a:Z8 h=M)(hb:Gi h=La)(hq:(Ew h (Zt h).1).fault=0)(hc:¬ h.C.pg/4<(BJ h.P h.P.length:Nat)):GP 89 [h.av] M (C0.mk 0 0 0).av []:=by have po:=B5 a;have:=R6 h.P h.P.length;exact gF [] func89 []<|Fc 9 (@CC h)<|Ffb 10 (!Z8 h)<|Fu (@Z25 h aa aa aa)<|Fc 27 (@Z2H h aa)<|Ffb 30 ((Ew h (Zt h).1).fault != 0)<|Fu (@Z6S h aa)<|Fg 61 (by rw[LI oq,CR oq oq]:Lr.wrap (h.C.pg.tdiv 4)=h.C.pg/4)<|Fa (by decide:(4:Int)≠0)<|Ffb 62 (L (h.C.pg/4<(↑(BJ h.P h.P.length):Int))) Fz
def Bf(h:Heap):C0:=
 if Z8 h=M then
  match Gi h with
  |some i=>pageF h i
  |none =>
   if(Ew h (Zt h).1).fault≠0 then Ew h (Zt h).1
   else if h.C.pg/4<(BJ h.P h.P.length:Nat)then⟨7,0,0⟩else⟨0,0,0⟩
 else⟨1,0,0⟩
def Z0r(h:Heap)(c:Zy h.W):GP 89 [h.av] M (Bf h).av []:=by
 unfold Bf;by_cases a:Z8 h=M;rw[if_pos a];cases hb:Gi h with|some i=>exact Zbd h c a i hb|none =>by_cases b:(Ew h (Zt h).1).fault=0;simp only[b,ne_eq,not_true_eq_false,if_false];by_cases d:h.C.pg/4<(BJ h.P h.P.length:Nat);rw[if_pos d];exact Zd7 h c a hb b d;rw[if_neg d];exact Zdb h c a hb b d;simp only[ne_eq,b,not_false_eq_true,if_true];exact Zen h c a hb b
 rw[if_neg a];exact ZfK h c (by simpa using a)
def Oi(h:Heap)(hw:Zy h.W):GP 41 [h.av] M (bL (L (Bf h=⟨0,0,0⟩))) []:=by
 by_cases a:(Bf h).fault=0;by_cases b:(Bf h).page=0;by_cases c:(Bf h).addr=0;have e:L (Bf h=⟨0,0,0⟩)=M:=by(apply decide_eq_true;revert a b c;cases Bf h;simp+contextual)
 rw[e];exact gF [] func41 [M]<|Fc 4 (@Z0r h aa)<|Fb (((Bf h).fault==0&&((Bf h).page==0&&(Bf h).addr==0))=M) Fz;have e:L (Bf h=⟨0,0,0⟩)=O:=decide_eq_false (λq=>c (by rw[q]));rw[e];exact gF [] func41 [M]<|Fc 4 (@Z0r h aa)<|Fb (((Bf h).fault==0&&((Bf h).page==0&&(Bf h).addr==0))=O) Fz;have e:L (Bf h=⟨0,0,0⟩)=O:=decide_eq_false (λq=>b (by rw[q]));rw[e];exact gF [] func41 [M]<|Fc 4 (@Z0r h aa)<|Fb (((Bf h).fault==0&&((Bf h).page==0&&(Bf h).addr==0))=O) Fz;have e:L (Bf h=⟨0,0,0⟩)=O:=decide_eq_false (λq=>a (by rw[q]));rw[e];exact gF [] func41 [M]<|Fc 4 (@Z0r h aa)<|Fb (((Bf h).fault==0&&((Bf h).page==0&&(Bf h).addr==0))=O) Fz
def Z3O(h:Heap) refs(hw:Zy h.W)(hg:Bf h≠⟨0,0,0⟩):GP 42 [h.av,Z2 refs] M (bL O) []:=by exact gF [] func42 []<|Fc 9 (@Oi h aa)<|Ftb 10 (!decide (Bf h=C0.mk 0 0 0)) Fz
def Dh(refs a:List Int)(i:Nat):Tg:=⟨tm 36 [(1,Z2 refs),(4,bL O),(5,Z2 a),(7,nI i)],[],60⟩
def Z6w(refs a:List Int)(i:Nat)(hl:refs.length<=1048576)(ha:a.length<=1048576)(hi:i<refs.length)(c:refs.getD i X=0\/refs.getD i X∈a):CP (Zl f42 0) (Dh refs a i).st .nrm (Dh refs a (i+1)).st:=by rcases c with c|c;exact sF [] []<|FN 18 19 24 wD refs i<|FeG 31 (refs.getD i X != 0) wD refs (↑i) i<|FcG 33 (refs.getD i X != 0) (λb=>by(try simp only[bs]at b);exact@E5 a (refs.getD i X) aa)<|Ffb 35 (refs.getD i X != 0&&!decide (refs.getD i X∈a))<|Fx 21 i Fz;by_cases h0:refs.getD i X=0;exact sF [] []<|FN 18 19 24 wD refs i<|FeG 31 (refs.getD i X != 0) wD refs (↑i) i<|FcG 33 (refs.getD i X != 0) (λb=>by(try simp only[bs]at b);exact@E5 a (refs.getD i X) aa)<|Ffb 35 (refs.getD i X != 0&&!decide (refs.getD i X∈a))<|Fx 21 i Fz;exact sF [] []<|FN 18 19 24 wD refs i<|FeG 31 (refs.getD i X != 0) wD refs (↑i) i<|FcG 33 (refs.getD i X != 0) (λb=>by(try simp only[bs]at b);exact@E5 a (refs.getD i X) aa)<|Ffs 35 (refs.getD i X != 0&&!decide (refs.getD i X∈a))<|Fx 21 i Fz
def Zdg(refs a:List Int)(i:Nat)(hl:refs.length<=1048576)(ha:a.length<=1048576)(hi:i<refs.length)(h0:refs.getD i X≠0)(hb:refs.getD i X∉a):CP (Zl f42 0) (Dh refs a i).st .ret (Tg.st ⟨tm 36 [(4,bL O)],[],60⟩):=by exact sF [] []<|FN 18 19 24 wD refs i<|FeG 31 (refs.getD i X != 0) wD refs (↑i) i<|FcG 33 (refs.getD i X != 0) (λb=>by(try simp only[bs]at b);exact@E5 a (refs.getD i X) aa)<|Fts 35 (refs.getD i X != 0&&!decide (refs.getD i X∈a)) Fz
def Zi1 refs a:CP (Zl f42 0) (Dh refs a refs.length).st (.ext 0) (Tg.st ⟨tm 36 [(4,bL O)],[],60⟩):=by exact sF [] []<|FO 18 19 wD refs Fz
def HG(refs a:List Int)(i:Nat):Bool:=L (refs.getD i X≠0/\refs.getD i X∉a)
def Bl(h:Heap)(refs:List Int):Bool:=L (Bf h=⟨0,0,0⟩)&&((Ld refs.length).find? (HG refs (Zt h).1)).isNone
section
variable(refs a:List Int)(hl:refs.length<=1048576)(b:a.length<=1048576)
include hl b
theorem ZbH(d:(Ld refs.length).find? (HG refs a)=La):CP (Zk f42 0) (Dh refs a 0).st .nrm (Tg.st ⟨tm 36 [(4,bL O)],[],60⟩):=by refine Bp (S:=λk=>(Dh refs a k).st) refs.length kr (λk c=>Z6w refs a k hl b c ?_) (Zi1 refs a);have:=Lz.1 d k (Lj.2 c);simp only[HG,decide_eq_true_eq,not_and,Ly]at this;by_cases h:refs.getD k X=0;exact Ln h;exact Lo (this h)
theorem Zb8(i:Nat)(g:(Ld refs.length).find? (HG refs a)=Z i):CP (Zk f42 0) (Tg.st ⟨tm 36 [(1,Z2 refs),(4,bL O),(5,Z2 a),(7,nI 0)],[],60⟩) .ret (Tg.st ⟨tm 36 [(4,bL O)],[],60⟩):=by obtain⟨c,d,f⟩:=Ls.1 g;have d:=Lj.1 d;simp only[HG,decide_eq_true_eq]at c;refine Ev (S:=λk=>(Dh refs a k).st) i kr (λm e=>Z6w refs a m hl b oq ?_) (Zdg refs a i hl b d c.1 c.2);have:=f m e;simp only[HG,Bool.not_eq_true',decide_eq_false_iff_not,not_and,Ly]at this;by_cases h:refs.getD m X=0;exact Ln h;exact Lo (this h)
end
def N8(h:Heap)(refs:List Int)(b:Zy h.W)(hl:refs.length<=1048576):GP 42 [h.av,Z2 refs] M (bL (Bl h refs)) []:=by
 have ho:=SI h;by_cases a:Bf h=⟨0,0,0⟩;cases hb:(Ld refs.length).find? (HG refs (Zt h).1)with
 |none =>
  have e:Bl h refs=M:=by simp[Bl,a,hb]
  rw[e];exact gF [] func42 []<|Fc 9 (@Oi h aa)<|Ffb 10 (!decide (Bf h=C0.mk 0 0 0))<|Fc 13 (@Mj h aa)<|Fu (@ZbH refs ((Zt h).1) aa oq aa) Fz
 |some i =>
  have e:Bl h refs=O:=by simp[Bl,a,hb]
  rw[e];exact gF [] func42 []<|Fc 9 (@Oi h aa)<|Ffb 10 (!decide (Bf h=C0.mk 0 0 0))<|Fc 13 (@Mj h aa)<|Fu (@Zb8 refs ((Zt h).1) aa oq i hb) Fz
 have e:Bl h refs=O:=by simp[Bl,a]
 rw[e];exact Z3O h refs b a
structure Rep where
 copied:Int
 kept:Int
 filled:Int
 freed:Int
 cleared:Int
 steps:Int
 deriving Inhabited
def Rep.cells(r:Rep):List AV:=[nI r.copied,nI r.kept,nI r.filled,nI r.freed,nI r.cleared,nI r.steps]
structure Z7 where
 j:Heap
 old:List Int
 T:List Int
 Q:List Int
 D:Int
 rep:Rep
 deriving Inhabited
def Z7.cells(w:Z7):List AV:=w.j.cells++[Z2 w.old,ZE w.T,Z2 w.Q,nI w.D]++w.rep.cells
def Z7.av(w:Z7):AV:=.ag w.cells
def EF:Z7:=⟨ZY,[],[],[],0,⟨0,0,0,0,0,0⟩⟩
def ZF(w:Int):Int×Bool:=if w%4=2/\w/4<4294967296 then(w/4,M)else(0,O)
def A7(w:Int)(h0:0<=w)(h1:w<=18446744073709551615):GP 140 [uU w] M (.tu [uU (ZF w).1,bL (ZF w).2]) []:=by have Q0 {h_ c_ p_} (r_:Fq h_ c_ p_):=Fg 5 (Le oq:w.tmod 4=w%4)<|Fa (by decide:(4:Int)≠0)<|Fa (by intro hg;(try simp only[bs]at hg);exact Hs rfl dd:(!w%(4:Int) != 2)=M->w.fdiv (2^min (LJ 2) 64)=w/4)<|Fa (by intro hg;(try simp only[bs]at hg);omega:(!w%(4:Int) != 2)=M->(0:Int)<=2) r_;rcases bb (w%(4:Int) != 2||L (4294967296<=w/4))with hc0|hc0<;>have hc0p:=hc0<;>simp only[bs]at hc0p;rw[show ZF w=((0:Int),O)from by(simp[ZF, *];omega)];exact gF [] func140 []<|Fh 9 [.int (w/4)] (Q0 (Ft 11 hc0 Fz));obtain⟨hc0pa,hc0pb⟩:=hc0p;rw[show ZF w=(w/(4:Int),M)from by simp[ZF, *]];exact gF [] func140 []<|Fh 13 [.int (w/4)] (Q0 (Ff 11 hc0<|Fg 9 (Hs rfl dd:w.fdiv (2^min (LJ 2) 64)=w/4)<|Fo ((0:Int)<=2) Fz))
def Zil(a:Int)(h0:0<=a)(h1:a<4294967296):GP 188 [uU a] M (.tu [uU (4*a+2),nI 0]) []:=by exact gF [] func188 []<|Ffb 5 (L (4294967296<=a))<|Fv 7 (4*a)<|Fv 8 (4*a+2) Fz
def ZJ(w:Z7)(i:Int):Bool:=L (0<=i/\i<w.j.P.length/\(w.j.P.getD i.toNat X).K=1/\(w.j.P.getD i.toNat X).S≠w.j.S/\i∉w.T)
def Z7.keep(w:Z7)(r:Int):Z7:=⟨w.j,w.old,w.T,w.Q++[r],w.D,⟨w.rep.copied,w.rep.kept+1,w.rep.filled,w.rep.freed,w.rep.cleared,w.rep.steps⟩⟩
def ZG(w:Z7):Int:=w.T.getD ((w.T.length:Int)-1).toNat X
def E6(w:Z7)(n:Int):Prop:=0<w.T.length/\(w.j.P.getD (ZG w).toNat X).U+n<=w.j.C.pw
instance (w:Z7) (n:Int):Decidable (E6 w n):=by unfold E6;infer_instance
def ZP(w:Z7):Int:=first w.j.P 1
def ES(w:Z7):List Z0:=HZ ⟨w.j.C,w.j.W,w.j.P,1-w.j.S,w.j.B⟩
def Z7.place(w:Z7)(n:Int):Z7×Int×Bool:=
 if E6 w n then(⟨⟨w.j.C,w.j.W,Cv w.j.P (ZG w).toNat n,w.j.S,w.j.B⟩,w.old,w.T,w.Q,w.D,w.rep⟩,4096+ZG w*w.j.C.pw+(w.j.P.getD (ZG w).toNat X).U,M)
 else if 0<=ZP w then(⟨⟨w.j.C,w.j.W,Cv (ES w) (ZP w).toNat n,w.j.S,w.j.B⟩,w.old,w.T++[ZP w],w.Q,w.D,w.rep⟩,4096+ZP w*w.j.C.pw,M)
 else(EF,0,O)
def Nc(s:Int)(p:Z0):Z0:=⟨p.K,s,p.U,p.N⟩
def ZH(l:List Z0)(i m:Nat)(s:Int):List Z0:=(Ld l.length).map λj=>if i<=j/\j<=i+m then Nc s (l.getD j X)else l.getD j X
def ZA(l:List Z0)(i:Nat):Nat:=((l.drop (i+1)).takeWhile λp=>p.K==3).length
def Z7.flip(w:Z7)(i:Nat):Z7:=⟨⟨w.j.C,w.j.W,ZH w.j.P i (ZA w.j.P i) (1-w.j.S),w.j.S,w.j.B⟩,w.old,w.T,w.Q,w.D,w.rep⟩
def Z7.copy(w:Z7)(r a n:Int):Z7:=⟨⟨w.j.C,(BY (moveA w.j.W a r n).1 r (4*a+2)).1,w.j.P,w.j.S,w.j.B⟩,w.old,w.T,w.Q++[a],w.D,⟨w.rep.copied+1,w.rep.kept,w.rep.filled,w.rep.freed,w.rep.cleared,w.rep.steps⟩⟩
def Zv(w:Z7)(r:Int):ZB:=(Z6 (Z1 w.j.W r).1).1
def Ct(w:Z7)(r:Int):Nat:=(Z3 w.j.C r).1.toNat
def Z7.fwd(w:Z7)(r:Int):Z7×Int×Int:=
 if r=0\/r∈w.Q then(w,r,0)
 else if r∉w.old then(EF,0,19)
 else if(ZF (Z1 w.j.W r).1).2=M then(w,(ZF (Z1 w.j.W r).1).1,0)
 else if(Z3 w.j.C r).2.2≠0 then(EF,0,19)
 else if ZJ w (Z3 w.j.C r).1=M then(w.keep r,r,0)
 else if(w.j.P.getD (Ct w r) X).K=2 then((w.flip (Ct w r)).keep r,r,0)
 else if(w.place (Z5 (Zv w r))).2.2=O then(EF,0,3)
 else((w.place (Z5 (Zv w r))).1.copy r (w.place (Z5 (Zv w r))).2.1 (Z5 (Zv w r)),(w.place (Z5 (Zv w r))).2.1,0)
def Ry(pw:Int)(p:Z0):Nat:=if p.K=0 then pw.toNat else(pw-p.U).toNat
def Nb(pw:Int)(l:List Z0):Nat:=(l.map (Ry pw)).sum
def Sf(old q:List Int):Nat:=(old.filter λx=>L (x∉q)).length
def muW(w:Z7):Nat:=Sf w.old w.Q+Nb w.j.C.pw w.j.P
structure Ba (w:Z7):Prop where
 W:Zy w.j.W
 wl:w.j.W.length<=4096
 C:Zq w.j.C=M
 pl:(w.j.P.length:Int)=w.j.C.pg
 sp:w.j.S=0\/w.j.S=1
 ol:w.old.length<=524288
 o:∀x∈w.old,0<=x/\x<=8192
 tk:∀x∈w.T,0<=x/\x<w.j.P.length/\(w.j.P.getD x.toNat X).K=1
 tl:w.T.length<=w.Q.length
 q:∀x∈w.Q,0<=x/\x<=16384
 us:∀j,j<w.j.P.length->0<=(w.j.P.getD j X).U/\(w.j.P.getD j X).U<=1024
 mu:w.Q.length+muW w<=1000000
 sc:0<=w.D/\w.D<=w.Q.length
 rk:0<=w.rep.kept/\0<=w.rep.copied/\w.rep.kept+w.rep.copied<=w.Q.length
 rs:0<=w.rep.steps/\w.rep.steps<=1000*w.D
 r0:w.rep.filled=0/\w.rep.freed=0/\w.rep.cleared=0
def Z77 pw(p:Z0):∀(l:List Z0) (i:Nat),i<l.length->Nb pw (l.set i p)+Ry pw (l.getD i X)=Nb pw l+Ry pw p
 |[],i,h=>by simp at h
 |x::l,0,_=>by simp[Nb];omega
 |x::l,i+1,h=>by
  have:=Z77 pw p l i (by simpa using h);simp only[Nb,List.set_cons_succ,List.map_cons,List.sum_cons,List.getD_cons_succ]at this⊢;omega
def Z4b(old q:List Int)(r:Int):(old.filter λx=>L (x∉q++[r]))=(old.filter λx=>L (x∉q)).filter λx=>L (x≠r):=by rw[List.filter_filter];refine List.filter_congr λx _=>?_;by_cases a:x∈q<;>by_cases b:x=r<;>simp[a,b]
def Zc3(old q:List Int)(r:Int):Sf old (q++[r])<=Sf old q:=by unfold Sf;rw[Z4b];exact List.length_filter_le _ _
def Zfn{old q:List Int}{r:Int}(a:r∈old)(b:r∉q):Sf old (q++[r])<Sf old q:=by unfold Sf;rw[Z4b];exact List.length_filter_lt_length_iff_exists.2 ⟨r,List.mem_filter.2 ⟨a,by simpa using b⟩,by simp⟩
def Z3J{l:List Z0}{i:Nat}{p q:Z0}(h:i<l.length):ZQ l i 1 p q=l.set i p:=by
 unfold ZQ;have e:wr l (Lw 1 q) i 1=l.set i q:=by(have:=Og (ws:=l) (l:=Lw 1 q) (i:=i) (k:=0) qo pq q;rw[Tu]at this;simpa using this.symm)
 rw[e,LR]
def CV{l:List Z0}{i j:Nat}{p:Z0}(h:i<l.length):(l.set i p).getD j X=if i=j then p else l.getD j X:=by simp only[Lg,List.getElem?_set,h];split;rename_i e;subst e;simp;rfl
theorem GY l i m s:(ZH l i m s).length=l.length:=by simp[ZH]
def Ht{l:List Z0}{i m s}{j:Nat}(h:j<l.length):(ZH l i m s).getD j X=if i<=j/\j<=i+m then Nc s (l.getD j X)else l.getD j X:=by simp[ZH,h,Lg]
def ZbJ pw l i m s:Nb pw (ZH l i m s)=Nb pw l:=by
 unfold Nb;congr 1;refine List.ext_getElem (by simp[ZH]) λj h1 a=>?_;have h:j<l.length:=by simpa using a
 simp only[ZH,List.map_map,List.getElem_map,List.getElem_range,Function.comp];have e:l.getD j X=l[j]:=by simp[Lg,h]
 rw[e];split;rfl;rfl
abbrev sZ(w:Z7)(r:Int):Int:=Z5 (Z6 (Z1 w.j.W r).1).1
abbrev lT(w:Z7):Int:=w.T.getD ((w.T.length:Int)-1).toNat X
def Z57 w r(a:Ba w):GP 185 [w.av,uU r] O (w.keep r).av []:=by have h1:=a.mu;have h2:=a.rk;exact gF [] func185 []<|Fh 11 [.els (Y wD (w.Q++[r]))]<|FAx 5 8 wD w.Q (by(simp[Z7.keep, *];omega))<|Fs 10 (Y wD [r])<|Fa (by(simp[Z7.keep, *];omega):(Y wD w.Q).length+(Y wD [r]).length<=2^30)<|Fa (by simp[Z7.keep,LC,LA,LB,Lu,wD,iD]:Y wD w.Q++Y wD [r]=Y wD (w.Q++[r]))<|Fi 16 (w.rep.kept+1) Fz
def DJ(w:Z7)(x:Int)(i:Nat):Tg:=⟨tm 20 [(1,nI x),(2,.pt 8002 0 0),(4,bL O),(5,nI i)],[(8002,.box 138 w.cells)],60⟩
def Z9Q(w:Z7)(x:Int)(i:Nat)(hl:w.T.length<=1048576)(hi:i<w.T.length)(hv:¬ w.T.getD i X=x):CP (Zl f191 0) (DJ w x i).st .nrm (DJ w x (i+1)).st:=by exact sF [] []<|FN 9 10 16 iD w.T i<|Ffb 19 (w.T.getD i X==x)<|Fx 12 i Fz
def Zlt(w:Z7)(x:Int)(i:Nat)(hl:w.T.length<=1048576)(hi:i<w.T.length)(hv:w.T.getD i X=x):CP (Zl f191 0) (DJ w x i).st .ret (Tg.st ⟨tm 20 [(4,bL M)],[],60⟩):=by exact sF [] []<|FN 9 10 16 iD w.T i<|Ftb 19 (w.T.getD i X==x) Fz
def Zgz w x:CP (Zl f191 0) (DJ w x w.T.length).st (.ext 0) (Tg.st ⟨tm 20 [],[],60⟩):=by exact sF [] []<|FO 9 10 iD w.T Fz
def Zda(w:Z7)(x:Int)(hl:w.T.length<=1048576)(h:x∉w.T)  := Bp (S:=λi=>(DJ w x i).st) w.T.length (by kernel_rfl) (λi a=>Z9Q w x i hl a λe=>h (BI.2 ⟨i,a,e⟩)) (Zgz w x)
def Ze1(w:Z7)(x:Int)(hl:w.T.length<=1048576)(h:x∈w.T):CP (Zk f191 0) (Tg.st ⟨tm 20 [(1,nI x),(2,.pt 8002 0 0),(4,bL O),(5,nI 0)],[(8002,.box 138 w.cells)],60⟩) .ret (Tg.st ⟨tm 20 [(4,bL M)],[],60⟩):=by obtain⟨i,a,b⟩:=Z1n (BI.1 h);exact Ev (S:=λi=>(DJ w x i).st) i kr (λj hj=>Z9Q w x j hl oq λe=>by have:=b j ⟨by omega,e⟩;omega) (Zlt w x i hl a.1 a.2)
def Zge(w:Z7) i(hl:w.T.length<=1048576):GP 191 [w.av,nI i] M (bL (L (i∈w.T))) []:=by by_cases h:i∈w.T;rw[decide_eq_true h];exact gF [] func191 []<|Fu (@Ze1 w i aa aa) Fz;rw[decide_eq_false h];exact gF [] func191 []<|Fu (@Zda w i aa aa) Fz
def Sz(w:Z7) i(hl:w.T.length<=1048576)(hp:w.j.P.length<=1048576):GP 141 [w.av,nI i] M (bL (ZJ w i)) []:=by rcases bb (L (i<0)||L ((w.j.P.length:Int)<=i))with hc0|hc0<;>have a:=hc0<;>simp only[bs]at a;exact gF [] func141 (fO 6)<|FlG 13 (!decide (i<0)) Z0.dv w.j.P<|Ft 15 hc0<|Fa (by(simp[ZJ, *];omega):O=ZJ w i) Fz;obtain⟨c,d⟩:=a;let b:=w.j.P.getD i.toNat X;exact gF [] func141 (fO 16)<|FlG 13 (!decide (i<0)) Z0.dv w.j.P<|Ff 15 hc0<|Fe 20 Z0.dv w.j.P i<|FcG 36 (b.K==1&&b.S != w.j.S) (λe=>by(try simp only[bs]at e);exact@Zge w i aa)<|Fa (by grind[ZJ]:(b.K==1&&b.S != w.j.S&&!decide (i∈w.T))=ZJ w i) Fz
def Z97 w(a:Int)(b:Ba w)(h0:0<=a/\a<=18446744073709551615):GP 142 [w.av,uU a] M (Zv w a).av []:=by have h1:=b.wl;have h2:=EM b.W a;exact gF [] func142 []<|Fc 14 (@Hx w.j.W a oq aa)<|Fc 19 (@A6 ((Z1 w.j.W a).1) oq oq) Fz
def P9{ws l}(h:Zy ws)(hl:Zy l) a:Zy (ZU ws a l).1:=by unfold ZU;split;intro x b;simp only[C6,Lm]at b;rcases b with(b|b)|b;exact h x (LQ b);exact hl x b;exact h x (LO b);exact SB
def Z22 ws l a:(ZU ws a l).1.length<=ws.length:=by unfold ZU;split;simp only;rw[Nf oq];exact Ll _;simp
def Z3N{ws}(h:Zy ws){v:Int}(c:0<=v/\v<=18446744073709551615) a:Zy (BY ws a v).1:=P9 h (by intro x b;simp at b;subst b;exact c) a
def Z9t ws a v:(BY ws a v).1.length<=ws.length:=Z22 ws [v] a
def Zdw{ws}(h:Zy ws) a n:Zy (BU ws a n).1:=by
 unfold BU;repeat' split
 exact SB;intro x b;exact h x (LO (LQ b));exact SB
def ZjN{ws}(h:Zy ws) a b n:Zy (moveA ws a b n).1:=by unfold moveA;split;exact SB;exact P9 h (Zdw h b n) a
def Z4F ws a b n:(moveA ws a b n).1.length<=ws.length:=by unfold moveA;split;simp;exact Z22 _ _ _
def Ba.withWords{w}(a:Ba w){l}(h:Zy l)(hl:l.length<=4096):Ba ⟨⟨w.j.C,l,w.j.P,w.j.S,w.j.B⟩,w.old,w.T,w.Q,w.D,w.rep⟩:=
 ⟨h,hl,a.C,a.pl,a.sp,a.ol,a.o,a.tk,a.tl,a.q,a.us,a.mu,a.sc,a.rk,a.rs,a.r0⟩
def Z4c{w}(a:Ba w){r:Int}(c:r∈w.old)(d:r∉w.Q):Ba (w.keep r):=by have e:=a.mu;have hl:=Zfn c d;have ho:=a.o r c;have hs:=a.sc;have hk:=a.rk;have ht:=a.tl;unfold muW at e;refine⟨a.W,a.wl,a.C,a.pl,a.sp,a.ol,a.o,a.tk, ?_, ?_,a.us, ?_, ?_, ?_,a.rs,a.r0⟩;simp only[Z7.keep,Lf,Lh];omega;intro x b;simp only[Z7.keep,Lm,LD]at b;rcases b with b|rfl;exact a.q x b;omega;simp only[muW,Z7.keep,Lf,Lh];omega;simp only[Z7.keep,Lf,Lh];omega;simp only[Z7.keep,Lf,Lh];omega
def Z4Q{w}(a:Ba w) i:Ba (w.flip i):=by refine⟨a.W,a.wl,a.C, ?_,a.sp,a.ol,a.o, ?_,a.tl,a.q, ?_, ?_,a.sc,a.rk,a.rs,a.r0⟩;simp only[Z7.flip,GY];exact a.pl;intro x c;have:=a.tk x c;simp only[Z7.flip,GY];refine⟨this.1,this.2.1, ?_⟩;rw[Ht oq];split;exact this.2.2;exact this.2.2;intro j b;simp only[Z7.flip,GY]at b⊢;have:=a.us j b;rw[Ht b];split;exact this;exact this;have:=a.mu;simp only[muW,Z7.flip,ZbJ]at this⊢;exact this
def GT{w:Z7}(h:0<w.T.length):ZG w∈w.T:=by unfold ZG;exact BI.2 ⟨((w.T.length:Int)-1).toNat,by omega,rfl⟩
def Z3A{w}{n:Int}(a:Ba w)(hn:1<=n)(h:(w.place n).2.2=M) :∃(i:Nat) (p:Z0) (t:List Int),i<w.j.P.length/\p.K=1/\0<=p.U/\p.U<=1024+n/\(p.U<=64\/p.U=n)/\Ry w.j.C.pw p+1<=Ry w.j.C.pw (w.j.P.getD i X)/\t.length<=w.T.length+1/\(∀x∈t,x∈w.T\/x=(i:Int))/\4096<=(w.place n).2.1/\(w.place n).2.1<=12288 /\
  (w.place n).1=⟨⟨w.j.C,w.j.W,w.j.P.set i p,w.j.S,w.j.B⟩,w.old,t,w.Q,w.D,w.rep⟩:=by
 have hb:=BF.1 a.C;have v:=a.pl;by_cases c:E6 w n;have e:w.place n=(⟨⟨w.j.C,w.j.W,Cv w.j.P (ZG w).toNat n,w.j.S,w.j.B⟩,w.old,w.T,w.Q,w.D,w.rep⟩,4096+ZG w*w.j.C.pw+(w.j.P.getD (ZG w).toNat X).U,M):=by rw[Z7.place,if_pos c]
 unfold E6 at c;have g:=a.tk _ (GT c.1);have hu:=a.us (ZG w).toNat oq;have u:=HR a.C g.1 oq;refine⟨(ZG w).toNat,⟨(w.j.P.getD (ZG w).toNat X).K,(w.j.P.getD (ZG w).toNat X).S,(w.j.P.getD (ZG w).toNat X).U+n,(w.j.P.getD (ZG w).toNat X).N⟩,w.T,by omega,g.2.2,by simp only;omega,by simp only;omega,Ln (by simp only;omega), ?_,by omega,λx b=>Ln b, ?_, ?_, ?_⟩;have f:=g.2.2;simp only[Ry,f,if_neg (show¬ (1:Int)=0 by decide)];omega;rw[e];simp only;omega;rw[e];simp only;omega;rw[e];rfl;by_cases d:0<=ZP w;have e:w.place n=(⟨⟨w.j.C,w.j.W,Cv (ES w) (ZP w).toNat n,w.j.S,w.j.B⟩,w.old,w.T++[ZP w],w.Q,w.D,w.rep⟩,4096+ZP w*w.j.C.pw,M):=by rw[Z7.place,if_neg c,if_pos d]
 obtain⟨j,q,r,k⟩:=RB (h:=⟨w.j.C,w.j.W,w.j.P,1-w.j.S,w.j.B⟩) (by have:=a.sp;simp only;omega) d;obtain⟨g1,g2,s⟩:=Ik d;simp only at j q r k;have l:(ZP w).toNat<w.j.P.length:=by unfold ZP;omega
 have u:=HR a.C d (by unfold ZP;omega);have f:(w.j.P.getD (ZP w).toNat X).K=0:=by(have:=SL.1 s 0 dd;simpa[ZP]using this)
 have y:Cv (ES w) (ZP w).toNat n=w.j.P.set (ZP w).toNat ⟨1,1-w.j.S,n,0⟩:=by
  unfold Cv;have o:(ES w).getD (ZP w).toNat X=⟨1,1-w.j.S,0,0⟩:=k;rw[o];have m:ES w=w.j.P.set (ZP w).toNat ⟨1,1-w.j.S,0,0⟩:=by(have:ES w=ZQ w.j.P (ZP w).toNat 1 ⟨1,1-w.j.S,0,0⟩ ⟨0,0,0,0⟩:=j;rw[this,Z3J l])
  rw[m,LR];simp
 refine⟨(ZP w).toNat,⟨1,1-w.j.S,n,0⟩,w.T++[ZP w],l,rfl,by simp only;omega,by simp only;omega,Lo rfl, ?_,by simp, ?_, ?_, ?_, ?_⟩;simp only[Ry,f];simp;omega;intro x b;simp only[Lm,LD]at b;rcases b with b|rfl;exact Ln b;exact Lo oq;rw[e];simp only;omega;rw[e];simp only;omega;rw[e,y];rw[Z7.place,if_neg c,if_neg d]at h;simp at h
def ZkS{w}(b:Ba w){r n:Int}(hr:r∈w.old)(hq:r∉w.Q)(s:1<=n/\n<=256)(h:(w.place n).2.2=M):Ba ((w.place n).1.copy r (w.place n).2.1 n):=by obtain⟨i,p,t,d,f,h3,h4,k,h5,h6,l,m,o,e⟩:=Z3A b s.1 h;generalize (w.place n).2.1=a at m o;rw[e];have q:=b.mu;have hs:=Z77 w.j.C.pw p w.j.P i d;have u:=b.sc;have hk:=b.rk;have ht:=b.tl;have hl:=Zc3 w.old w.Q a;unfold muW at q;have w1:=ZjN b.W a r n;have l1:=Z4F w.j.W a r n;have l2:=Z9t (moveA w.j.W a r n).1 r (4*a+2);have l0:=b.wl;refine⟨Z3N w1 oq r, ?_,b.C, ?_,b.sp,b.ol,b.o, ?_, ?_, ?_, ?_, ?_, ?_, ?_,b.rs,b.r0⟩;simp only[Z7.copy];omega;simp only[Z7.copy,Lt];exact b.pl;intro x c;simp only[Z7.copy,Lt]at c⊢;rcases l x c with c|c;have:=b.tk x c;refine⟨this.1,this.2.1, ?_⟩;rw[CV d];split;exact f;exact this.2.2;subst c;refine⟨by omega,by omega, ?_⟩;rw[CV d,if_pos pq];exact f;simp only[Z7.copy,Lf,Lh];omega;intro x c;simp only[Z7.copy,Lm,LD]at c;rcases c with c|rfl;exact b.q x c;omega;intro j g;simp only[Z7.copy,Lt]at g⊢;rw[CV d];split;omega;exact b.us j g;simp only[muW,Z7.copy,Lf,Lh];omega;simp only[Z7.copy,Lf,Lh];omega;simp only[Z7.copy,Lf,Lh];omega
def Z6f{v:Int}(h:0<=v):0<=(ZF v).1/\(ZF v).1<=4294967295:=by unfold ZF;split<;>simp only<;>omega
def DZ v:ZV (Z6 v).1=M:=by
 cases e:(Z6 v).2 with|true=>exact Z2b e|false =>unfold Z6 at e⊢;split;rename_i a;rw[if_pos a]at e;cases e;decide
def Nx w r:1<=Z5 (Zv w r)/\Z5 (Zv w r)<=256:=by have a:ZV (Zv w r)=M:=DZ _;have:=Gq.1 a;rw[Z5,if_pos a];omega
def Tc{w}(a:Ba w) r(e:(w.fwd r).2.2=0):Ba (w.fwd r).1/\0<=(w.fwd r).2.1/\(w.fwd r).2.1<=4294967296/\w.Q.length<=(w.fwd r).1.Q.length/\(w.fwd r).1.D=w.D/\(w.fwd r).1.rep.steps=w.rep.steps:=by
 have q:=EM a.W r;have o:=Z6f q.1;unfold Z7.fwd at e⊢;split at e;rename_i c1;rw[if_pos c1];refine⟨a, ?_, ?_,Ll _,rfl,rfl⟩;rcases c1 with c1|c1;simp only;omega;exact(a.q r c1).1;rcases c1 with c1|c1;simp only;omega;have:=a.q r c1;simp only;omega;rename_i c1;rw[if_neg c1];have c:r∉w.Q:=λh=>c1 (Lo h);split at e;simp at e;rename_i c2;rw[if_neg c2];have b:r∈w.old:=Ly.1 c2;have l:=a.o r b;split at e;rename_i c3;rw[if_pos c3];exact⟨a,o.1,by simp only;omega,Ll _,rfl,rfl⟩;rename_i c3;rw[if_neg c3];split at e;simp at e;rename_i c4;rw[if_neg c4];split at e;rename_i f;rw[if_pos f];exact⟨Z4c a b c,l.1,by simp only;omega,by simp[Z7.keep],rfl,rfl⟩;rename_i f;rw[if_neg f];split at e;rename_i g;rw[if_pos g];exact⟨Z4c (Z4Q a _) b c,l.1,by simp only;omega,by simp[Z7.keep,Z7.flip],rfl,rfl⟩;rename_i g;rw[if_neg g];split at e;simp at e;rename_i k;rw[if_neg k];have d:(w.place (Z5 (Zv w r))).2.2=M:=by simpa using k
 have m:=Nx w r;obtain⟨i,p,t,h1,h2,h3,h4,n,h5,h6,h7,h8,h9,j⟩:=Z3A a m.1 d;refine⟨ZkS a b c m d, ?_, ?_, ?_, ?_, ?_⟩;simp only;omega;simp only;omega;simp only[Z7.copy];rw[j];simp;simp only[Z7.copy];rw[j];simp only[Z7.copy];rw[j]
def Z4M w(n:Int)(b:Ba w)(hn:1<=n/\n<=256):GP 186 [w.av,nI n] O (.tu [(w.place n).1.av,uU (w.place n).2.1,bL (w.place n).2.2]) []:=by
 have q:=b.C;have hb:=BF.1 q;have o:=b.pl;have m:=b.mu;have p:=b.tl;have hr:=Z3w w.j.P 1;by_cases c:E6 w n;have a:w.place n=(⟨⟨w.j.C,w.j.W,Cv w.j.P (ZG w).toNat n,w.j.S,w.j.B⟩,w.old,w.T,w.Q,w.D,w.rep⟩,4096+ZG w*w.j.C.pw+(w.j.P.getD (ZG w).toNat X).U,M):=by rw[Z7.place,if_pos c]
 unfold E6 at c;have d:=b.tk _ (GT c.1);have f:=b.us (ZG w).toNat oq;have j:=HR b.C d.1 oq;unfold ZG at d f j c a;rw[show w.place n=(Z7.mk (Heap.mk w.j.C w.j.W (w.j.P.set (w.T.getD ((w.T.length:Int)-(1:Int)).toNat X).toNat (Z0.mk (w.j.P.getD (w.T.getD ((w.T.length:Int)-(1:Int)).toNat X).toNat X).K (w.j.P.getD (w.T.getD ((w.T.length:Int)-(1:Int)).toNat X).toNat X).S ((w.j.P.getD (w.T.getD ((w.T.length:Int)-(1:Int)).toNat X).toNat X).U+n) (w.j.P.getD (w.T.getD ((w.T.length:Int)-(1:Int)).toNat X).toNat X).N)) w.j.S w.j.B) w.old w.T w.Q w.D w.rep,(4096:Int)+w.T.getD ((w.T.length:Int)-(1:Int)).toNat X*w.j.C.pw+(w.j.P.getD (w.T.getD ((w.T.length:Int)-(1:Int)).toNat X).toNat X).U,M)from by rw[a];rfl];exact gF [] func186 []<|FA 10 14 Z0.dv w.j.P<|Fl 19 iD w.T<|FiG 29 (L (0<(w.T.length:Int))) ((w.T.length:Int)-1)<|FeGq 30 (L (0<(w.T.length:Int))) iD w.T ((w.T.length:Int)-1)<|FmGq 34 (L (0<(w.T.length:Int))) Z0.dv w.j.P (w.T.getD ((w.T.length:Int)-1).toNat X)<|FiG 36 (L (0<(w.T.length:Int))) ((w.j.P.getD (w.T.getD ((w.T.length:Int)-1).toNat X).toNat X).U+n)<|Ftb 42 (L (0<(w.T.length:Int))&&L ((w.j.P.getD (w.T.getD ((w.T.length:Int)-1).toNat X).toNat X).U+n<=w.j.C.pw))<|Fi 46 ((w.T.length:Int)-1)<|Fe 47 iD w.T ((w.T.length:Int)-1)<|Fi 83 (w.T.getD ((w.T.length:Int)-1).toNat X*w.j.C.pw)<|Fi 84 (4096+w.T.getD ((w.T.length:Int)-1).toNat X*w.j.C.pw)<|Fmq 91 Z0.dv w.j.P (w.T.getD ((w.T.length:Int)-1).toNat X)<|Fi 92 (4096+w.T.getD ((w.T.length:Int)-1).toNat X*w.j.C.pw+(w.j.P.getD (w.T.getD ((w.T.length:Int)-1).toNat X).toNat X).U)<|Fv 93 (4096+w.T.getD ((w.T.length:Int)-1).toNat X*w.j.C.pw+(w.j.P.getD (w.T.getD ((w.T.length:Int)-1).toNat X).toNat X).U)<|Fmq 104 Z0.dv w.j.P (w.T.getD ((w.T.length:Int)-1).toNat X)<|Fi 106 ((w.j.P.getD (w.T.getD ((w.T.length:Int)-1).toNat X).toNat X).U+n)<|Fm0q Z0.dv w.j.P (w.T.getD ((w.T.length:Int)-1).toNat X)<|FS 10108 Z0.dv w.j.P ((w.T.getD ((w.T.length:Int)-1).toNat X).toNat) (Z0.mk (w.j.P.getD (w.T.getD ((w.T.length:Int)-1).toNat X).toNat X).K (w.j.P.getD (w.T.getD ((w.T.length:Int)-1).toNat X).toNat X).S ((w.j.P.getD (w.T.getD ((w.T.length:Int)-1).toNat X).toNat X).U+n) (w.j.P.getD (w.T.getD ((w.T.length:Int)-1).toNat X).toNat X).N) ((w.j.P.getD (w.T.getD ((w.T.length:Int)-1).toNat X).toNat X).dv) Fz;by_cases e:0<=first w.j.P 1
 have a:w.place n=(⟨⟨w.j.C,w.j.W,Cv (ES w) (first w.j.P 1).toNat n,w.j.S,w.j.B⟩,w.old,w.T++[first w.j.P 1],w.Q,w.D,w.rep⟩,4096+first w.j.P 1*w.j.C.pw,M):=by rw[Z7.place,if_neg c,if_pos (show 0<=ZP w from e)];rfl
 obtain⟨g,k,r,i⟩:=RB (h:=⟨w.j.C,w.j.W,w.j.P,1-w.j.S,w.j.B⟩) (by have:=b.sp;simp only;omega) e;obtain⟨r1,r2,r3⟩:=Ik e;simp only at g k r i;rw[g]at k i;have l:ES w=_:=g;rw[l]at a;have r4:HP w.j.P (first w.j.P 1).toNat 1=M:=r3;have j:=HR b.C e oq;have s:=congrArg Z0.U i;simp only at s;have hs:=b.sp;have d:0<w.T.length->0<=ZG w/\ZG w<w.j.P.length:=λh=>⟨(b.tk _ (GT h)).1,(b.tk _ (GT h)).2.1⟩;have f:=λh=>b.us (ZG w).toNat h;unfold E6 at c;unfold ZG at c d f;exact gF [] func186 (fO 19)<|Fh 76 [.els (Y iD (w.T++[first w.j.P 1]))]<|FA 10 14 Z0.dv w.j.P<|Fl 19 iD w.T<|FiG 29 (L (0<(w.T.length:Int))) ((w.T.length:Int)-1)<|FeGq 30 (L (0<(w.T.length:Int))) iD w.T ((w.T.length:Int)-1)<|FmGq 34 (L (0<(w.T.length:Int))) Z0.dv w.j.P (w.T.getD ((w.T.length:Int)-1).toNat X)<|FiG 36 (L (0<(w.T.length:Int))) ((w.j.P.getD (w.T.getD ((w.T.length:Int)-1).toNat X).toNat X).U+n)<|Ffb 42 (L (0<(w.T.length:Int))&&L ((w.j.P.getD (w.T.getD ((w.T.length:Int)-1).toNat X).toNat X).U+n<=w.j.C.pw))<|Fc 52 (@DF w.j.P (1) oq)<|Ffb 54 (L (first w.j.P (1:Int)<0))<|Fi 64 (1-w.j.S)<|Fc 65 (@Z8Y w.j.P (first w.j.P 1) (1-w.j.S) oq oq oq aa)<|FA 70 73 iD w.T<|Fs 75 (Y iD [first w.j.P 1])<|Fa (by(simp[*];omega):(Y iD w.T).length+(Y iD [first w.j.P 1]).length<=2^30)<|Fa (ms:Y iD w.T++Y iD [first w.j.P 1]=Y iD (w.T++[first w.j.P 1]))<|Fi 83 (first w.j.P 1*w.j.C.pw)<|Fi 84 (4096+first w.j.P 1*w.j.C.pw)<|Fmq 91 Z0.dv (ZQ w.j.P (first w.j.P 1).toNat 1 (Z0.mk 1 (1-w.j.S) 0 0) (Z0.mk 0 0 0 0)) (first w.j.P 1)<|Fi 92 (4096+first w.j.P 1*w.j.C.pw+((ZQ w.j.P (first w.j.P 1).toNat 1 (Z0.mk 1 (1-w.j.S) 0 0) (Z0.mk 0 0 0 0)).getD (first w.j.P 1).toNat X).U)<|Fv 93 (4096+first w.j.P 1*w.j.C.pw+((ZQ w.j.P (first w.j.P 1).toNat 1 (Z0.mk 1 (1-w.j.S) 0 0) (Z0.mk 0 0 0 0)).getD (first w.j.P 1).toNat X).U)<|Fmq 104 Z0.dv (ZQ w.j.P (first w.j.P 1).toNat 1 (Z0.mk 1 (1-w.j.S) 0 0) (Z0.mk 0 0 0 0)) (first w.j.P 1)<|Fi 106 (((ZQ w.j.P (first w.j.P 1).toNat 1 (Z0.mk 1 (1-w.j.S) 0 0) (Z0.mk 0 0 0 0)).getD (first w.j.P 1).toNat X).U+n)<|Fm0q Z0.dv (ZQ w.j.P (first w.j.P 1).toNat 1 (Z0.mk 1 (1-w.j.S) 0 0) (Z0.mk 0 0 0 0)) (first w.j.P 1)<|FS 10108 Z0.dv (ZQ w.j.P (first w.j.P 1).toNat 1 (Z0.mk 1 (1-w.j.S) 0 0) (Z0.mk 0 0 0 0)) ((first w.j.P 1).toNat) (Z0.mk ((ZQ w.j.P (first w.j.P 1).toNat 1 (Z0.mk 1 (1-w.j.S) 0 0) (Z0.mk 0 0 0 0)).getD (first w.j.P 1).toNat X).K ((ZQ w.j.P (first w.j.P 1).toNat 1 (Z0.mk 1 (1-w.j.S) 0 0) (Z0.mk 0 0 0 0)).getD (first w.j.P 1).toNat X).S (((ZQ w.j.P (first w.j.P 1).toNat 1 (Z0.mk 1 (1-w.j.S) 0 0) (Z0.mk 0 0 0 0)).getD (first w.j.P 1).toNat X).U+n) ((ZQ w.j.P (first w.j.P 1).toNat 1 (Z0.mk 1 (1-w.j.S) 0 0) (Z0.mk 0 0 0 0)).getD (first w.j.P 1).toNat X).N) (((ZQ w.j.P (first w.j.P 1).toNat 1 (Z0.mk 1 (1-w.j.S) 0 0) (Z0.mk 0 0 0 0)).getD (first w.j.P 1).toNat X).dv)<|Fa (by rw[a]:w.j.C.pw=(w.place n).1.j.C.pw)<|Fa (by rw[a]:w.j.C.pg=(w.place n).1.j.C.pg)<|Fa (by refine congrArg _ ?_;rw[a]:Y wD w.j.W=Y wD (w.place n).1.j.W)<|Fa (by refine congrArg _ ?_;rw[a];rfl:Y Z0.dv ((ZQ w.j.P (first w.j.P 1).toNat 1 (Z0.mk 1 (1-w.j.S) 0 0) (Z0.mk 0 0 0 0)).set (first w.j.P 1).toNat (Z0.mk ((ZQ w.j.P (first w.j.P 1).toNat 1 (Z0.mk 1 (1-w.j.S) 0 0) (Z0.mk 0 0 0 0)).getD (first w.j.P 1).toNat X).K ((ZQ w.j.P (first w.j.P 1).toNat 1 (Z0.mk 1 (1-w.j.S) 0 0) (Z0.mk 0 0 0 0)).getD (first w.j.P 1).toNat X).S (((ZQ w.j.P (first w.j.P 1).toNat 1 (Z0.mk 1 (1-w.j.S) 0 0) (Z0.mk 0 0 0 0)).getD (first w.j.P 1).toNat X).U+n) ((ZQ w.j.P (first w.j.P 1).toNat 1 (Z0.mk 1 (1-w.j.S) 0 0) (Z0.mk 0 0 0 0)).getD (first w.j.P 1).toNat X).N))=Y Z0.dv (w.place n).1.j.P)<|Fa (by rw[a]:w.j.S=(w.place n).1.j.S)<|Fa (by rw[a]:w.j.B=(w.place n).1.j.B)<|Fa (by refine congrArg _ ?_;rw[a]:Y wD w.old=Y wD (w.place n).1.old)<|Fa (by refine congrArg _ ?_;rw[a]:Y iD (w.T++[first w.j.P 1])=Y iD (w.place n).1.T)<|Fa (by refine congrArg _ ?_;rw[a]:Y wD w.Q=Y wD (w.place n).1.Q)<|Fa (by rw[a]:w.D=(w.place n).1.D)<|Fa (by rw[a]:w.rep.copied=(w.place n).1.rep.copied)<|Fa (by rw[a]:w.rep.kept=(w.place n).1.rep.kept)<|Fa (by rw[a]:w.rep.filled=(w.place n).1.rep.filled)<|Fa (by rw[a]:w.rep.freed=(w.place n).1.rep.freed)<|Fa (by rw[a]:w.rep.cleared=(w.place n).1.rep.cleared)<|Fa (by rw[a]:w.rep.steps=(w.place n).1.rep.steps)<|Fa (by grind[]:4096+first w.j.P 1*w.j.C.pw+((ZQ w.j.P (first w.j.P 1).toNat 1 (Z0.mk 1 (1-w.j.S) 0 0) (Z0.mk 0 0 0 0)).getD (first w.j.P 1).toNat X).U=(w.place n).2.1)<|Fa (by rw[a]:M=(w.place n).2.2) Fz;have a:w.place n=(EF,0,O):=by rw[Z7.place,if_neg c,if_neg (show¬ 0<=ZP w from e)]
 have d:0<w.T.length->0<=ZG w/\ZG w<w.j.P.length:=λh=>⟨(b.tk _ (GT h)).1,(b.tk _ (GT h)).2.1⟩;have f:=λh=>b.us (ZG w).toNat h;unfold E6 at c;unfold ZG at c d f;rw[a];exact gF [] func186 []<|FAx 10 14 Z0.dv w.j.P (by(simp[EF,ZY, *];omega))<|Fl 19 iD w.T<|FiG 29 (L (0<(w.T.length:Int))) ((w.T.length:Int)-1)<|FeGq 30 (L (0<(w.T.length:Int))) iD w.T ((w.T.length:Int)-1)<|FmGq 34 (L (0<(w.T.length:Int))) Z0.dv w.j.P (w.T.getD ((w.T.length:Int)-1).toNat X)<|FiG 36 (L (0<(w.T.length:Int))) ((w.j.P.getD (w.T.getD ((w.T.length:Int)-1).toNat X).toNat X).U+n)<|Ffb 42 (L (0<(w.T.length:Int))&&L ((w.j.P.getD (w.T.getD ((w.T.length:Int)-1).toNat X).toNat X).U+n<=w.j.C.pw))<|Fc 52 (@DF w.j.P (1) oq)<|Ftb 54 (L (first w.j.P (1:Int)<0))<|Fnl (Fnl (Fnl (Fnl (Fnl Fz))))
def Zn{α:Type}(f:α->α)(l:List α)(i:Nat):List α:=(l.take i).map f++l.drop i
def Z1Z{α:Type}(f:α->α)(l:List α):Zn f l 0=l:=by simp[Zn]
def Tq{α:Type}(f:α->α)(l:List α):Zn f l l.length=l.map f:=by simp[Zn]
def NC{α:Type}(f:α->α)(l:List α)(i:Nat):(Zn f l i).length=l.length:=by simp[Zn];omega
def Te{α:Type}(f:α->α)(l:List α){i j:Nat}(h:i<=j)(d:α):(Zn f l i).getD j d=l.getD j d:=by
 rw[Lg,Lg];congr 1;by_cases hi:i<=l.length
 .rw[Zn,List.getElem?_append_right qo];simp only[Li,LN,List.getElem?_drop];congr 1;omega
 .rw[LL (by rw[NC];omega),LL oq]
def Mh{α:Type} f(l:List α){i:Nat}(h:i<l.length)(d:α):(Zn f l i).set i (f (l.getD i d))=Zn f l (i+1):=by
 have e:l.getD i d=l[i]:=by simp[Lg,h]
 rw[e,Zn,Zn,List.take_succ_eq_append_getElem h,Lu,List.set_append_right i _ qo,List.append_assoc];congr 1;have:l.drop i=l[i]::l.drop (i+1):=List.drop_eq_getElem_cons h;rw[show i-(Y f (Lb i l)).length=0 by simp;omega,this];rfl
def P0{α:Type}(f:α->α)(l:List α){i:Nat}(h:i<l.length)(d:α)(b:f (l.getD i d)=l.getD i d):Zn f l i=Zn f l (i+1):=by
 rw[<-Mh f l h d,b,<-Te f l (Ll i) d];have a:i<(Zn f l i).length:=by rw[NC];exact h
 rw[show(Zn f l i).getD i d=(Zn f l i)[i] by simp[Lg,a],List.set_getElem_self]
def Zo(s:Int)(p:Z0):Z0:=if p.K=1/\0<p.N then⟨p.K,s,p.U,p.N⟩else p
def Mg(h:Heap)(a:List Int)(i:Nat):Tg:=⟨tm 61 [(1,.pt 8001 0 0),(2,.pt 8002 0 0),(3,nI 0),(4,.pt 32004 0 0),(5,nI i)],[(32004,.box 138 [nI h.C.pw,nI h.C.pg,Z2 h.W,.ow 48026,nI h.S,nI h.B,Z2 a,.d (.sl 0 []),.d (.sl 0 []),nI 0,nI 0,nI 0,nI 0,nI 0,nI 0,nI 0]),(48026,.arr 86 4 ((Zn (Zo (1-h.S)) h.P i).map Z0.dv)),(8002,.box 138 zW),(8001,.box 28 h.cells)],60⟩
section
variable(h:Heap)(a:List Int)(hs:h.S=0\/h.S=1)(hl:h.P.length<=1048576)
include hs hl
theorem Zi8(i:Nat)(q:i<h.P.length):CP (Zl f82 0) (Mg h a i).st .nrm (Mg h a (i+1)).st:=by
 have m:=Te (Zo (1-h.S)) h.P (Ll i) X;have hn:=NC (Zo (1-h.S)) h.P i;by_cases g:(h.P.getD i X).K=1/\0<(h.P.getD i X).N
 .have j:=Mh (Zo (1-h.S)) h.P q X;rw[show Zo (1-h.S) (h.P.getD i X)=⟨(h.P.getD i X).K,1-h.S,(h.P.getD i X).U,(h.P.getD i X).N⟩ by rw[Zo,if_pos g],<-m]at j;rw[<-m]at g;have o {h_ c_ p_} (n:Fq h_ c_ p_):=Fl 33 Z0.dv (Zn (Zo ((1:Int)-h.S)) h.P i)<|Ftb 34 (L ((i:Int)<(↑(Zn (Zo (1-h.S)) h.P i).length:Int)))<|Fmq 42 Z0.dv (Zn (Zo (1-h.S)) h.P i) (↑i) n;rcases bb (((Zn (Zo (1-h.S)) h.P i).getD (i:Int).toNat X).K==1&&L (0<((Zn (Zo (1-h.S)) h.P i).getD (i:Int).toNat X).N))with hc0|hc0<;>have b:=hc0<;>simp only[bs]at b
  .obtain⟨c,d⟩:=b;let k:=Zn (Zo (1-h.S)) h.P i;let e:=k.getD (i:Int).toNat X;exact sF [] (fO 9) (o (Ft 50 hc0<|Fi 57 (1-h.S)<|Fm0q Z0.dv k (↑i)<|FS 10059 Z0.dv k ((i:Int).toNat) (Z0.mk e.K (1-h.S) e.U e.N) (e.dv)<|Fx 36 i<|Fr (86:Int)<|Fa (by refine congrArg _ ?_;exact j:Y Z0.dv (k.set (i:Int).toNat (Z0.mk e.K (1-h.S) e.U e.N))=Y Z0.dv (Zn (Zo (1-h.S)) h.P (i+1))) Fz))
  .exact sF [] (fO 9) (o (Ff 50 hc0<|Fx 36 i<|Fr (86:Int)<|Fa (by refine congrArg _ ?_;grind[]:Y Z0.dv (Zn (Zo (1-h.S)) h.P i)=Y Z0.dv (Zn (Zo (1-h.S)) h.P (i+1))) Fz))
 .have j:=P0 (Zo (1-h.S)) h.P q X (by rw[Zo,if_neg g]);rw[<-m]at g;have p {h_ c_ p_} (n:Fq h_ c_ p_):=Fl 33 Z0.dv (Zn (Zo ((1:Int)-h.S)) h.P i)<|Ftb 34 (L ((i:Int)<(↑(Zn (Zo (1-h.S)) h.P i).length:Int)))<|Fmq 42 Z0.dv (Zn (Zo (1-h.S)) h.P i) (↑i) n;rcases bb (((Zn (Zo (1-h.S)) h.P i).getD (i:Int).toNat X).K==1&&L (0<((Zn (Zo (1-h.S)) h.P i).getD (i:Int).toNat X).N))with hc0|hc0<;>have b:=hc0<;>simp only[bs]at b
  .obtain⟨c,d⟩:=b;let l:=Zn (Zo (1-h.S)) h.P i;let f:=l.getD (i:Int).toNat X;exact sF [] (fO 9) (p (Ft 50 hc0<|Fi 57 (1-h.S)<|Fm0q Z0.dv l (↑i)<|FS 10059 Z0.dv l ((i:Int).toNat) (Z0.mk f.K (1-h.S) f.U f.N) (f.dv)<|Fx 36 i<|Fr (86:Int)<|Fa (by refine congrArg _ ?_;grind[]:Y Z0.dv (l.set (i:Int).toNat (Z0.mk f.K (1-h.S) f.U f.N))=Y Z0.dv (Zn (Zo (1-h.S)) h.P (i+1))) Fz))
  .exact sF [] (fO 9) (p (Ff 50 hc0<|Fx 36 i<|Fr (86:Int)<|Fa (by refine congrArg _ ?_;exact j:Y Z0.dv (Zn (Zo (1-h.S)) h.P i)=Y Z0.dv (Zn (Zo (1-h.S)) h.P (i+1))) Fz))
omit hs hl in
theorem Zgv:CP (Zl f82 0) (Mg h a h.P.length).st (.ext 0) (Tg.st ⟨tm 61 [(2,.pt 8002 0 0),(3,nI 0),(4,.pt 32004 0 0)],[(32004,.box 138 [nI h.C.pw,nI h.C.pg,Z2 h.W,.ow 48026,nI h.S,nI h.B,Z2 a,.d (.sl 0 []),.d (.sl 0 []),nI 0,nI 0,nI 0,nI 0,nI 0,nI 0,nI 0]),(48026,.arr 86 4 ((h.P.map (Zo (1-h.S))).map Z0.dv)),(8002,.box 138 zW)],60⟩):=by
 have hq:=Tq (Zo (1-h.S)) h.P;have hn:=NC (Zo (1-h.S)) h.P h.P.length;exact sF [] (fO 4)<|Fl 33 Z0.dv (Zn (Zo ((1:Int)-h.S)) h.P h.P.length)<|Ffb 34 (L ((h.P.length:Int)<(↑(Zn (Zo (1-h.S)) h.P h.P.length).length:Int)))<|Fr (86:Int)<|Fa (by refine congrArg _ ?_;assumption:Y Z0.dv (Zn (Zo (1-h.S)) h.P h.P.length)=Y Z0.dv (Y (Zo (1-h.S)) h.P)) Fz
theorem Zdy:CP (Zk f82 0) (Tg.st ⟨tm 61 [(1,.pt 8001 0 0),(2,.pt 8002 0 0),(3,nI 0),(4,.pt 32004 0 0),(5,nI 0)],[(32004,.box 138 [nI h.C.pw,nI h.C.pg,Z2 h.W,.ow 48026,nI h.S,nI h.B,Z2 a,.d (.sl 0 []),.d (.sl 0 []),nI 0,nI 0,nI 0,nI 0,nI 0,nI 0,nI 0]),(48026,.arr 86 4 (h.P.map Z0.dv)),(8002,.box 138 zW),(8001,.box 28 h.cells)],60⟩) .nrm (Tg.st ⟨tm 61 [(2,.pt 8002 0 0),(3,nI 0),(4,.pt 32004 0 0)],[(32004,.box 138 [nI h.C.pw,nI h.C.pg,Z2 h.W,.ow 48026,nI h.S,nI h.B,Z2 a,.d (.sl 0 []),.d (.sl 0 []),nI 0,nI 0,nI 0,nI 0,nI 0,nI 0,nI 0]),(48026,.arr 86 4 ((h.P.map (Zo (1-h.S))).map Z0.dv)),(8002,.box 138 zW)],60⟩):=by
 have:=Bp (S:=λk=>(Mg h a k).st) h.P.length kr (λk b=>Zi8 h a hs hl k b) (Zgv h a);simp only[Mg,Z1Z]at this;exact this
end
def Zs(h:Heap):Z7:=⟨⟨h.C,h.W,h.P.map (Zo (1-h.S)),h.S,h.B⟩,(Zt h).1,[],[],0,⟨0,0,0,0,0,0⟩⟩
def Pv(h:Heap)(hw:Zy h.W)(a:Z8 h=M)(hg:Bf h=⟨0,0,0⟩):GP 82 [h.av] O (.tu [(Zs h).av,nI 0]) []:=by have po:=B5 a;have ho:=SI h;exact gF [] func82 []<|Fc 8 (@CC h)<|Ffb 9 (!Z8 h)<|Fc 12 (@Oi h aa)<|Ffb 13 (!decide (Bf h=C0.mk 0 0 0))<|Fc 19 (@Mj h aa)<|FAx 23 26 Z0.dv h.P (by(simp[Zs, *];omega))<|Fu (@Zdy h ((Zt h).1) oq oq)<|Fnl (Fnl Fz)
def Zhv w(r:Int)(d:Ba w)(c:0<=r/\r<=18446744073709551615)(b:r=0\/r∈w.Q):GP 137 [w.av,uU r] O (.tu [w.av,uU r,nI 0]) []:=by have h1:=d.mu;rcases b with b|b;exact gF [] func137 []<|FcG 29 (!r==0) (λa=>by(try simp only[bs]at a);exact@E5 w.Q r oq)<|Ftb 30 (r==0||L (r∈w.Q)) Fz;by_cases c:r=0;exact gF [] func137 []<|FcG 29 (!r==0) (λa=>by(try simp only[bs]at a);exact@E5 w.Q r oq)<|Ftb 30 (r==0||L (r∈w.Q)) Fz;exact gF [] func137 []<|FcG 29 (!r==0) (λa=>by(try simp only[bs]at a);exact@E5 w.Q r oq)<|Fts 30 (r==0||L (r∈w.Q)) Fz
def ZiJ w(r:Int)(a:Ba w)(h0:0<=r/\r<=18446744073709551615)(c1:r≠0)(c2:r∉w.Q)(c3:r∉w.old):GP 137 [w.av,uU r] O (.tu [EF.av,uU 0,nI 19]) []:=by have h1:=a.mu;have h2:=a.ol;exact gF [] func137 []<|FcG 29 (!r==0) (λb=>by(try simp only[bs]at b);exact@E5 w.Q r oq)<|Ffs 30 (r==0||L (r∈w.Q))<|Fc 36 (@E5 w.old r oq)<|Ftb 37 (!decide (r∈w.old))<|Fnl (Fnl (Fnl (Fnl (Fnl Fz))))
def ZiN w(r:Int)(a:Ba w)(h0:0<=r/\r<=18446744073709551615)(c1:r≠0)(c2:r∉w.Q)(c3:r∈w.old)(c4:(ZF (Z1 w.j.W r).1).2=M):GP 137 [w.av,uU r] O (.tu [w.av,uU (ZF (Z1 w.j.W r).1).1,nI 0]) []:=by have h1:=a.mu;have h2:=a.ol;have h3:=a.wl;have h4:=EM a.W r;exact gF [] func137 []<|Fh 52 [.br M]<|FcG 29 (!r==0) (λb=>by(try simp only[bs]at b);exact@E5 w.Q r oq)<|Ffs 30 (r==0||L (r∈w.Q))<|Fc 36 (@E5 w.old r oq)<|Ffb 37 (!decide (r∈w.old))<|Fc 44 (@Hx w.j.W r oq aa)<|Fc 49 (@A7 ((Z1 w.j.W r).1) oq oq)<|Fa ‹(ZF (Z1 w.j.W r).1).2=M› Fz
def Zlq w(r:Int)(a:Ba w)(h0:0<=r/\r<=18446744073709551615)(c1:r≠0)(c2:r∉w.Q)(c3:r∈w.old)(c4:(ZF (Z1 w.j.W r).1).2=O)(c5:(Z3 w.j.C r).2.2≠0):GP 137 [w.av,uU r] O (.tu [EF.av,uU 0,nI 19]) []:=by have h1:=a.mu;have h2:=a.ol;have h3:=a.wl;have h4:=EM a.W r;exact gF [] func137 []<|Fh 52 [.br O]<|FcG 29 (!r==0) (λb=>by(try simp only[bs]at b);exact@E5 w.Q r oq)<|Ffs 30 (r==0||L (r∈w.Q))<|Fc 36 (@E5 w.old r oq)<|Ffb 37 (!decide (r∈w.old))<|Fc 44 (@Hx w.j.W r oq aa)<|Fc 49 (@A7 ((Z1 w.j.W r).1) oq oq)<|Fa ‹(ZF (Z1 w.j.W r).1).2=O›<|Fc 60 (@H5 w.j.C r oq oq)<|FlG 71 (!(Z3 w.j.C r).2.2 != 0) Z0.dv w.j.P<|Ftb 73 ((Z3 w.j.C r).2.2 != 0||L ((w.j.P.length:Int)<=(Z3 w.j.C r).1))<|Fnl (Fnl (Fnl (Fnl (Fnl Fz))))
end Go.Proofs.YtgedmeaemofdkaaGreat
