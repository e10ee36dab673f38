/-
 The statement ScanOrder: part 9.
 Conditions: none.
-/
import Derived.Test.YtdhchmlalchgeaaGreatN8
set_option maxRecDepth 100000
set_option maxHeartbeats 2000000
set_option linter.all false
open Inhabited renaming default->X
open List renaming map->Y,take->Lb,drop->Lc,length_append->Ld,getD_eq_getElem?_getD->Lf,length_singleton->Lg,length_map->Lh,range->Li,mem_append->Ll,getElem?_eq_getElem->Lr,getElem?_eq_none->Ls,length_set->Lt,map_append->Lu,mem_of_getElem?->Lv,replicate->Lw,map_drop->Lz,map_set->LA,map_take->LB,mem_range->LC,mem_singleton->LD,getElem?_append->LL,getElem?_map->LM,length_take->LN,mem_of_mem_drop->LO,mem_of_mem_take->LQ,set_set->LR
open Option renaming some->Z,none->La,map_eq_some_iff->LV
open Bool renaming true->M,false->O,and_eq_true->LF
open Decidable renaming decide->L,not_not->Ly
open Int renaming tmod_eq_emod_of_nonneg->Le,emod_lt_of_pos->Lo,emod_nonneg->Lp,add_emod_right->LG,emod_emod->LH,tdiv_eq_ediv_of_nonneg->LI,toNat->LJ
open Nat renaming le_of_ble_eq_true->Lj,le_refl->Lk,ble->Lx,beq->LS,eq_of_beq_eq_true->LU
open Or renaming inl->Lm,inr->Ln
open Go.IntKind renaming i64->Lq,u32->LK
open Go.Proofs.Tryz
namespace Go.Sx
def fzL(f:Nat->Option Nat)(H:Heap)(x:AV):Option AV:=match x with
 | .d x=>Z (.d x)
 | .rp e o=>Z (.rp e o)
 | .pt b i o=>match f b with | Z k=>Z (.pt k i o) | La=>La
 | .os b o n=>match f b with | Z k=>Z (.os k o n) | La=>Zn3 H (.os b o n)
 | .ow b=>match f b with | Z k=>Z (.ow k) | La=>Zn3 H (.ow b)
 | _=>La
def fzM(f:Nat->Option Nat)(H:Heap)(x:AV):Option AV:=match x with
 | .ag l=>match allO (fzL f H) l with | Z r=>Z (.ag r) | La=>La
 | .ic t x=>match fzL f H x with | Z r=>Z (.ic t r) | La=>La
 | x=>fzL f H x
def fzT(f:Nat->Option Nat)(H:Heap)(x:AV):Option AV:=match x with
 | .tu l=>match allO (fzM f H) l with | Z r=>Z (.tu r) | La=>La
 | x=>fzM f H x
def fzB(f:Nat->Option Nat)(H:Heap)(m b:Nat)(E:Blk):Option (Blk×List Prop):=match E with
 | .dead=>match Lx (b+1) m with | M=>Z (.dead,[]) | O=>La
 | .box _ cells1=>match H b with
  | some (.box ty cells)=>match allO (fzM f H) cells with
   | some cs=>Z (.box ty (coeL coe1 cs cells1).1,(coeL coe1 cs cells1).2)
   | none=>La
  | _=>La
 | .arr .. => match H b with
  | some (.arr ty s els)=>Z (.arr ty s els,[])
  | _=>La
def fzBs(f:Nat->Option Nat)(H:Heap)(m:Nat):List Nat->List Blk->Option (List Blk×List Prop)
 | [],[]=>Z ([],[])
 | b::l,E::r=>match fzB f H m b E,fzBs f H m l r with
  | some (B,p),some (rs,q)=>Z (B::rs,p++q)
  | _,_=>La
 | _,_=>La
def upto:Nat->Nat->List Nat
 | _,0=>[]
 | k,n+1=>k::upto (k+1) n
def ZkU:Nat->List Nat->Bool
 | _,[]=>M
 | k,b::l=>(LS b k||(Lx 8000 b&&Lx b 15999))&&ZkU (k+1) l
def Z8r:∀ (n k i:Nat),i<n->(upto k n)[i]? = Z (k+i)
 | 0,_,_,h=>by omega
 | n+1,k,0,_=>rfl
 | n+1,k,i+1,h=>by
  simp only[upto,List.getElem?_cons_succ];rw[Z8r n (k+1) i oq,show k+1+i=k+(i+1)from by omega]
def Z8v:∀ (n k:Nat),(upto k n).length=n
 | 0,_=>rfl
 | n+1,k=>by simp[upto,Z8v n (k+1)]
def ZaT:∀ {l:List Nat} {k i b:Nat},ZkU k l=M->l[i]? = Z b->b=k+i\/(8000<=b/\b<16000)
 | [],_,_,_,_,h=>by simp at h
 | c::l,k,i,b,hk,h=>by
  simp only[ZkU,LF,Bool.or_eq_true]at hk;cases i with
  | zero =>
   simp at h;subst h;rcases hk.1 with h | h
   .exact .inl (by have:=LU h;omega)
   .exact .inr ⟨Lj h.1,by have:=Lj h.2;omega⟩
  | succ i =>
   rcases ZaT hk.2 (by simpa using h)with h | h
   .exact .inl oq
   .exact .inr h
def Zij:∀ {l:List Nat} {m:List Blk} {b:Nat} {B:Blk},hOf (l.zip m) b=Z B->∃ i:Nat,l[i]? = Z b/\m[i]? = Z B
 | [],_,_,_,h=>by simp[hOf]at h
 | _::_,[],_,_,h=>by simp[hOf]at h
 | c::l,C::m,b,B,h=>by
  simp only[List.zip_cons_cons,hOf]at h;split at h
  .rename_i e;cases h;exact⟨0,by simp[e],rfl⟩
  .obtain⟨i,h1,h2⟩:=Zij h;exact⟨i+1,by simpa using h1,by simpa using h2⟩
def runB(P:Program)(hints:List (Nat×List Hint))(cuts:List (Nat×Tg×Ex×Tg))(ids keep:List Nat)(fn:Func)(args:List AV)(pre:List Blk)(res:AV)(post:List Blk):Option Run :=
 match fn.body with
 | none=>La
 | some c=>match runC P hints cuts c ⟨args.map (mapA (renI ids))++Lw (fn.ntmps-args.length) .any,hOf (ids.zip (pre.map (Z48 ids))),2⟩with
  | none=>La
  | some r=>match r.e with
   | .ext _=>La
   | _=>match Z8W P r.s.tmps r.s.H fn.results.toList with
    | none=>La
    | some l=>match fzT (λb=>idxN b (upto 0 pre.length++keep) 0) r.s.H (resV l),fzBs (λb=>idxN b (upto 0 pre.length++keep) 0) r.s.H pre.length (upto 0 pre.length++keep) post with
     | some x,some (bs,q)=>match nodupB (upto 0 pre.length++keep)&&Lx pre.length 8000&&(nodupB ids&&ZkU 0 ids&&LS ids.length pre.length)with
      | true=>Z ⟨r.e,r.s,r.ph++((coeT x res).2++q),r.eq++((coeT x res).1,res)::(bs.map encB).zip (post.map encB)⟩
      | false=>La
     | _,_=>La
section
variable {Ow:Own} {Im0:Nat->Prop} {w0:World} {ρ ρ':Rho} {w:World} {Im ImB:Nat->Prop} {H:Heap} {clk:Nat} {f:Nat->Option Nat}
theorem ZaE{x:AV}{v:Value}{s:Nat}{els:List (List DV)}(I:Inv Ow Im0 w0 ρ w Im H clk)(hi:∀ g,Im g->ImB g)(hx:Rel ρ w Im x v)(h:Z1p H x=Z (s,els))
  (hblk:∀ a n c,v = .slice (Z a) n c->n≠0->ImB a.block):RelD w ImB (.sl s els) v:=by
 obtain⟨p,c,rfl,hbg,hc,hl,hcell⟩:=Z25 I hx h;by_cases he:els=[]
 .subst he;exact .slNil _ _ _
 rcases hcell with hcell | ⟨q,rfl,hq,hcell⟩
 .exact absurd hcell he
 have hn:els.length≠0:=by simpa using he
 refine .sl s els q els.length c (λi o=>(w.cell? ⟨q.block,q.off+(i*s+o),La⟩).getD undef) rfl hc hbg (hl he) hq (hblk q _ c rfl hn) ?_ ?_
 .intro i e o y hi ho;obtain⟨u,k1,_⟩:=hcell i e o y hi ho;rw[k1];rfl
 .intro i e o y hi' ho;obtain⟨u,k1,k2⟩:=hcell i e o y hi' ho;rw[k1];exact k2.mono (Ext.refl _ _) hi
theorem Zfh(I:Inv Ow Im0 w0 ρ w Im H clk)(hf:∀ b k β,f b=Z k->ρ b=Z β->ρ' k=Z β)(hi:∀ g,Im g->ImB g)
  (hz:∀ b β g,8000<=b->f b=La->live H b->ρ b=Z β->β.g=Z g->ImB g) {x y:AV} {v:Value} (hx:Rel ρ w Im x v) (h:fzL f H x=Z y):Rel ρ' w ImB y v:=by
 unfold fzL at h;split at h
 .cases h;cases hx with
  | d hx=>exact .d (hx.mono (Ext.refl _ _) hi)
 .cases h;cases hx with
  | rp h1 h2 h3=>exact .rp h1 (hi _ h2) (λj x hx=>let ⟨v,k1,k2⟩:=h3 j x hx;⟨v,k1,k2.mono (Ext.refl _ _) hi⟩)
 .split at h
  .rename_i k hk;cases h;obtain⟨g,s,n,h1,rfl⟩:=Z2U hx;exact .pt (hf _ _ _ hk h1)
  .cases h
 .rename_i b oo m;split at h
  .rename_i k hk;cases h;cases hx with
   | os h1 h2 h3 h4 h5=>exact .os (hf _ _ _ hk h1) h2 h3 h4 h5
  .rename_i hk;simp only[Zn3]at h;split at h;rotate_left
   .cases h
   rename_i hb8;split at h;rotate_left
   .cases h
   rename_i ty s els hb;cases h;refine .d (ZaE I hi hx (by simp[Z1p,hb]) λa n c hv hn=>?_);subst hv;generalize hvv:Value.slice (Z a) n c=vv at hx;cases hx with
   | os h1 h2 h3 h4 h5 =>
    injection hvv with e1 e2 e3;rcases h5 with h5 | ⟨g,hg,e,_⟩
    .omega
    .rw[<- e1]at e;cases e;exact hz b _ _ (Lj hb8) hk ⟨_,hb,by simp⟩ h1 hg
 .rename_i b;split at h
  .rename_i k hk;cases h;cases hx with
   | ow h1 h2 h3 h4=>exact .ow (hf _ _ _ hk h1) h2 h3 h4
  .rename_i hk;simp only[Zn3]at h;split at h;rotate_left
   .cases h
   rename_i hb8;split at h;rotate_left
   .cases h
   rename_i ty s els hb;cases h;refine .d (ZaE I hi hx (by simp[Z1p,hb]) λa n c hv hn=>?_);subst hv;generalize hvv:Value.slice (Z a) n c=vv at hx;cases hx with
   | ow h1 h2 h3 h4 =>
    injection hvv with e1 e2 e3;rcases h4 with h4 | ⟨g,hg,e,_⟩
    .omega
    .rw[<- e1]at e;cases e;exact hz b _ _ (Lj hb8) hk ⟨_,hb,by simp⟩ h1 hg
 .cases h
theorem ZeN(I:Inv Ow Im0 w0 ρ w Im H clk)(hf:∀ b k β,f b=Z k->ρ b=Z β->ρ' k=Z β)(hi:∀ g,Im g->ImB g)
  (hz:∀ b β g,8000<=b->f b=La->live H b->ρ b=Z β->β.g=Z g->ImB g) {x y:AV} {v:Value} (hx:Rel ρ w Im x v) (h:fzM f H x=Z y):Rel ρ' w ImB y v:=by
 unfold fzM at h;split at h
 .split at h;rotate_left
  .cases h
  rename_i r hr;cases h;obtain⟨h1,h2⟩:=Z3G hr;obtain⟨cs,rfl,k1,k2,k3⟩:=Z3D hx;refine .ag _ cs oq k2 λi a u ha hu=>?_;obtain⟨z,m1,m2⟩:=h2 i a ha;exact Zfh I hf hi hz (k3 i z u m1 hu) m2
 .split at h;rotate_left
  .cases h
  rename_i r hr;cases h;cases hx with
  | ic hx=>exact .ic (Zfh I hf hi hz hx hr)
 .exact Zfh I hf hi hz hx h
theorem ZnI(I:Inv Ow Im0 w0 ρ w Im H clk)(hf:∀ b k β,f b=Z k->ρ b=Z β->ρ' k=Z β)(hi:∀ g,Im g->ImB g)
  (hz:∀ b β g,8000<=b->f b=La->live H b->ρ b=Z β->β.g=Z g->ImB g) {x y:AV} {v:Value} (hx:Rel ρ w Im x v) (h:fzT f H x=Z y):Rel ρ' w ImB y v:=by
 unfold fzT at h;split at h
 .split at h;rotate_left
  .cases h
  rename_i r hr;cases h;obtain⟨h1,h2⟩:=Z3G hr;cases hx with
  | tu _ cs k1 k3 =>
   refine .tu _ cs oq λi a u ha hu=>?_;obtain⟨z,m1,m2⟩:=h2 i a ha;exact ZeN I hf hi hz (k3 i z u m1 hu) m2
 .exact ZeN I hf hi hz hx h
theorem Zmc{m b:Nat}{E C:Blk}{p:List Prop}(h:fzB f H m b E=Z (C,p))(hE:E≠.dead):live H b:=by
 cases E with
 | dead=>exact absurd rfl hE
 | box ty1 cells1 =>
  simp only[fzB]at h;split at h
  .rename_i hb;exact⟨_,hb,by simp⟩
  .cases h
 | arr ty s els =>
  simp only[fzB]at h;split at h
  .rename_i hb;exact⟨_,hb,by simp⟩
  .cases h
theorem ZnX(I:Inv Ow Im0 w0 ρ w Im H clk)(hf:∀ b k β,f b=Z k->ρ b=Z β->ρ' k=Z β)(hi:∀ g,Im g->ImB g)
  (hz:∀ b β g,8000<=b->f b=La->live H b->ρ b=Z β->β.g=Z g->ImB g) {m b:Nat} {E C:Blk} {p:List Prop} (h:fzB f H m b E=Z (C,p)) (hp:allP p) (hE:E≠.dead):∃ β,ρ b=Z β/\RelB ρ' w ImB β C:=by
 cases E with
 | dead=>exact absurd rfl hE
 | box ty1 cells1 =>
  simp only[fzB]at h;split at h;rotate_left
  .cases h
  rename_i ty cells hb;split at h;rotate_left
  .cases h
  rename_i cs hcs;cases h;obtain⟨β,h1,h0,h00,g,ca,k1,k2,k3,k3',k4⟩:=I.blk b _ hb;obtain⟨f1,f2⟩:=Z3G hcs;obtain⟨c1,c2⟩:=Z6w hp;refine⟨β,h1,by rw[c1,f1];exact h0,h00,g,ca,k1,k2,by rw[c1,f1];exact k3,k3',λo y u hy hu=>?_⟩;obtain⟨z,z1,z2⟩:=c2 o y hy;obtain⟨z',e1,e2⟩:=f2 o z z1;have hz':=ZeN I hf hi hz (k4 o z' u e1 hu) e2;rcases z2 with rfl | ⟨r,rfl,hr⟩
  .exact hz'
  .exact Zbo hz' hr
 | arr ty1 s1 els1 =>
  simp only[fzB]at h;split at h;rotate_left
  .cases h
  rename_i ty s els hb;cases h;obtain⟨β,h1,h2⟩:=I.blk b _ hb;exact⟨β,h1,RelB.arr_any (by rfl) h2 hi⟩
theorem ZcQ{m:Nat}:∀ {l:List Nat} {post rs:List Blk} {q:List Prop},fzBs f H m l post=Z (rs,q)->allP q->l.length=post.length/\rs.length=post.length /\
  ∀ (k:Nat) (E:Blk),post[k]? = Z E->∃ (b:Nat) (C:Blk) (p:List Prop),l[k]? = Z b/\rs[k]? = Z C/\fzB f H m b E=Z (C,p)/\allP p
 | [],[],rs,q,h,_=>by cases h;exact⟨rfl,rfl,λk E hE=>by simp at hE⟩
 | b::l,E::post,rs,q,h,hq=>by
  simp only[fzBs]at h;split at h;rotate_left
  .cases h
  rename_i B p rs' q' hB hrs;cases h;obtain⟨q1,q2⟩:=allP_append.1 hq;obtain⟨h1,h2,h3⟩:=ZcQ hrs q2;refine⟨by simp[h1],by simp[h2],λk E' hE'=>?_⟩;cases k with
  | zero=>simp at hE';subst hE';exact⟨b,B,p,rfl,rfl,hB,q1⟩
  | succ k=>simpa using h3 k E' (by simpa using hE')
 | [],E::post,rs,q,h,_=>by cases h
 | b::l,[],rs,q,h,_=>by cases h
end
def bor_of{P:Program}{f:Nat}{fn:Func}{args:List AV}{pre:List Blk}{res:AV}{post:List Blk}(hints:List (Nat×List Hint))(cuts:List (Nat×Tg×Ex×Tg))(ids keep:List Nat)
  (hf:P.funcs[f]? = Z fn) (fl:List Bool) {φ:Prop} (hφ:φ) (h1:oblE fl (runB P hints cuts ids keep fn args pre res post)=φ) (h2:lefE fl (runB P hints cuts ids keep fn args pre res post)=rigE fl (runB P hints cuts ids keep fn args pre res post)):BorSpec P f args pre res post:=by
 rw[<- h1]at hφ;obtain⟨hφ,h2⟩:=Z5o hφ h2;clear h1;cases hr:runB P hints cuts ids keep fn args pre res post with
 | none=>rw[hr]at hφ;exact hφ.elim
 | some r =>
  rw[hr]at hφ h2;have heq:EqP r.eq:=Z9l h2;have hph:allP r.ph:=hφ;clear h2 hφ;unfold runB at hr;split at hr
  .cases hr
  rename_i c hb;split at hr
  .cases hr
  rename_i q hq;split at hr
  .cases hr
  rename_i hne;split at hr
  .cases hr
  rename_i l hl;generalize hfin:upto 0 pre.length++keep=fin at hr;split at hr;rotate_left
  .cases hr
  rename_i x bs qq hx hbs;split at hr;rotate_left
  .cases hr
  rename_i hok;simp only[LF]at hok;have hnd:=Z3s hok.1.1;have h8:=Lj hok.1.2;have hidn:=Z3s hok.2.1.1;have hido:=λi b h=>ZaT (i:=i) (b:=b) hok.2.1.2 h;have hidl:=LU hok.2.2;cases hr;obtain⟨hph1,hph'⟩:=allP_append.1 hph;obtain⟨hph2,hph3⟩:=allP_append.1 hph';have heq1:=heq.left;have hxe:(coeT x res).1=res:=heq.right ((coeT x res).1,res) pq;obtain⟨b1,b2,b3⟩:=ZcQ hbs hph3;have hbe:bs=post:=by
   apply List.ext_getElem?;intro i;by_cases hi:i<bs.length
   .have hi':i<post.length:=by omega
    have:(encB bs[i],encB post[i])∈(bs.map encB).zip (post.map encB):=by
     refine List.mem_iff_getElem?.2 ⟨i, ?_⟩;simp[List.getElem?_zip_eq_some,hi,hi']
    have:=Zcf (heq.right (encB bs[i],encB post[i]) (List.mem_cons_of_mem _ this));rw[Lr hi,Lr hi',this]
   .rw[Ls oq,Ls oq]
  subst hbe;have hfl:∀ k,k<pre.length->fin[k]? = Z k:=by
   intro k hk;rw[<- hfin,LL,if_pos (by rw[Z8v];exact hk),Z8r _ _ _ hk,Nat.zero_add]
  have hfm:pre.length<=fin.length:=by rw[<- hfin,Ld,Z8v];omega
  intro w Im ρ vs hIm hsz hρ hinj hbnd hpre hargs;refine calls_of_wp hf hb ?_;let ρ0:Rho:=λb=>match idxN b ids 0 with | Z k=>ρ k | La=>La
  have hρ0:∀ b β,ρ0 b=Z β->∃ k:Nat,ids[k]? = Z b/\ρ k=Z β:=by
   intro b β h;simp only[ρ0]at h;split at h
   .rename_i k hk;obtain⟨_,q2⟩:=Z1Y hk;exact⟨k,by simpa using q2,h⟩
   .cases h
  have hρi:∀ (k b:Nat),ids[k]? = Z b->ρ0 b=ρ k:=by
   intro k b hk;simp only[ρ0];cases hx:idxN b ids 0 with
   | none=>exact absurd (Lv hk) (Z4E hx)
   | some k2 =>
    obtain⟨_,q⟩:=Z1Y hx;rw[Z4R hidn hk (by simpa using q)]
  have hren:∀ k β,ρ k=Z β->ρ0 (ids.getD k 0)=Z β:=by
   intro k β hk;have hkl:k<ids.length:=by have:=hρ k β hk;omega
   have e:=Lr hkl;rw[Lf,e];show ρ0 ids[k]=Z β;rw[hρi k _ e];exact hk
  have hS:Sys (ownR ρ) Im w (args.map (mapA (renI ids))++Lw (fn.ntmps-args.length) .any) (hOf (ids.zip (pre.map (Z48 ids)))) 2 { tmps:=vs++Array.replicate (fn.ntmps-vs.size) undef,defers:=[] } w:=by
   refine⟨ρ0,Im,⟨Kept.refl _ _,(λb b' β β' g _ _ h1 h2 h3 h4=>?_),(λb β g _ h h'=>?_),(λb β g h h'=>?_),(λb β g h h'=>?_),hIm,(λg h=>.inl h),(λb B h=>?_),(λb hb h=>?_),by omega,λb β hb h=>?_⟩,⟨by simp[hsz],λi y v hy hv=>?_,rfl⟩⟩
   .obtain⟨k,k1,k2⟩:=hρ0 b β h1;obtain⟨k',k1',k2'⟩:=hρ0 b' β' h2;have:=hinj k k' β β' g k2 k2' h3 h4;subst this;rw[k1]at k1';cases k1';rfl
   .obtain⟨k,k1,k2⟩:=hρ0 b β h;exact(hbnd k β g k2 h').2
   .obtain⟨k,k1,k2⟩:=hρ0 b β h;exact(hbnd k β g k2 h').1
   .obtain⟨k,k1,k2⟩:=hρ0 b β h;exact .inr ⟨k,β,k2,h'⟩
   .obtain⟨i,h1,h2⟩:=Zij h;simp only[LM,LV]at h2;obtain⟨C,h2,rfl⟩:=h2;obtain⟨β,m1,m2⟩:=hpre i C h2;exact⟨β,by rw[hρi i b h1];exact m1,Z8Q (λ_ h=>h) hren m2⟩
   .cases hc:ρ0 b with
    | none=>rfl
    | some β =>
     obtain⟨k,k1,k2⟩:=hρ0 b β hc;rcases hido k b k1 with q | q
     .have:=hρ k β k2;omega
     .omega
   .obtain⟨k,k1,k2⟩:=hρ0 b β h;rcases hido k b k1 with q | q
    .have:b=k:=by omega
     subst this;exact k2
    .omega
   .rw[LL]at hy;simp only[Array.getElem?_append]at hv;rw[hsz]at hv;simp only[Lh]at hy;split at hy
    .rename_i hi;rw[if_pos hi]at hv;simp only[LM,LV]at hy;obtain⟨z,hz,rfl⟩:=hy;obtain⟨q1,q2,q3⟩:=Z88 (w:=w) (Im:=Im) (Im':=Im) hren;exact Z6J (λ_ h=>h) q1 q2 q3 (hargs i z v hz hv)
    .have:=Lv hy;rw[(List.mem_replicate.1 this).2];exact .any _
  refine wp_mono (Z8S hq hph1 heq1 _ _ _ _ _ hS) ?_;rintro e a' w' ⟨rfl,hS'⟩;have post:a'.defers=[]/\∃ v,(results fn a'.tmps).run P w' = .ok v w'/\∃ u,Ending.returned v = .returned u/\Kept (OwA (ownR ρ)) w w'/\∃ (ρ':Rho) (Im':Nat->Prop),(∀ k β,ρ k=Z β->ρ' k=Z β)/\(∀ k β,ρ' k=Z β->k<bs.length) /\
   (∀ g,Im' g->Im g\/w.heap.size<=g\/OwA (ownR ρ) g)/\(∀ g,Im' g->g<w'.heap.size) /\
   (∀ k β g,ρ' k=Z β->β.g=Z g->g<w'.heap.size/\(w.heap.size<=g\/OwA (ownR ρ) g)) /\
   (∀ k β g,live (hL bs) k->ρ' k=Z β->β.g=Z g->¬ Im' g) /\
   (∀ k k' β β' g,live (hL bs) k->live (hL bs) k'->ρ' k=Z β->ρ' k'=Z β'->β.g=Z g->β'.g=Z g->k=k') /\
   (∀ (k:Nat) (B:Blk),bs[k]? = Z B->∃ β,ρ' k=Z β/\RelB ρ' w' Im' β B)/\Rel ρ' w' Im' res u:=by
   obtain⟨ρf,Imf,I,T⟩:=hS';obtain⟨v,h1,h2⟩:=Z7w I T hl;let ρ':Rho:=λk=>if k<pre.length then ρ k else match fin[k]? with | Z b=>ρf b | La=>La
   have hlow:∀ k,k<pre.length->ρ' k=ρ k:=λk hk=>by simp only[ρ',if_pos hk]
   have hhigh:∀ (k b:Nat),¬ k<pre.length->fin[k]? = Z b->ρ' k=ρf b:=λk b hk hb=>by simp only[ρ',if_neg hk,hb]
   have hname:∀ (k b:Nat) (β:Bi),fin[k]? = Z b->ρf b=Z β->ρ' k=Z β:=by
    intro k b β hb hβ;by_cases hk:k<pre.length
    .rw[hfl k hk]at hb;cases hb;rw[hlow k hk];exact I.one.2 k β oq hβ
    .rw[hhigh k b hk hb];exact hβ
   have hnm:∀ b k β,idxN b fin 0=Z k->ρf b=Z β->ρ' k=Z β:=by
    intro b k β hk hβ;obtain⟨_,q2⟩:=Z1Y hk;exact hname k b β (by simpa using q2) hβ
   let Im':Nat->Prop:=λg=>Imf g\/∃ b β,8000<=b/\idxN b fin 0=La/\live q.s.H b/\ρf b=Z β/\β.g=Z g;have hi:∀ g,Imf g->Im' g:=λg h=>.inl h;have hz:∀ b β g,8000<=b->idxN b fin 0=La->live q.s.H b->ρf b=Z β->β.g=Z g->Im' g:=λb β g k1 k2 k3 k4 k5=>.inr ⟨b,β,k1,k2,k3,k4,k5⟩;have hlv:∀ k,live (hL bs) k->∃ b β,fin[k]? = Z b/\live q.s.H b/\ρf b=Z β/\ρ' k=Z β:=by
    rintro k ⟨E,hE,hd⟩;obtain⟨b,C,p,k1,k2,k3,k4⟩:=b3 k E hE;have hlb:=Zmc k3 hd;obtain⟨B,hB,_⟩:=id hlb;obtain⟨β,m1,_⟩:=I.blk b B hB;exact⟨b,β,k1,hlb,m1,hname k b β k1 m1⟩
   refine⟨T.defers,v,h1,v,rfl,I.kept,ρ',Im', ?_, ?_, ?_, ?_, ?_, ?_, ?_, ?_, ?_⟩
   .intro k β hk;rw[hlow k (hρ k β hk)];exact hk
   .intro k β hk;by_cases hkp:k<pre.length
    .omega
    .simp only[ρ',if_neg hkp]at hk;split at hk
     .rename_i b hb;have:=(List.getElem?_eq_some_iff.1 hb).1;omega
     .cases hk
   .rintro g (hg | ⟨b,β,_,_,_,hb,hg⟩)
    .exact I.im0 g hg
    .exact(I.own b β g hb hg).elim (λh=>.inr (.inl h.1)) (λh=>.inr (.inr h))
   .rintro g (hg | ⟨b,β,_,_,_,hb,hg⟩)
    .exact I.imb g hg
    .exact I.bnd b β g hb hg
   .intro k β g hk hg;by_cases hkp:k<pre.length
    .rw[hlow k hkp]at hk;exact⟨Nat.lt_of_lt_of_le (hbnd k β g hk hg).1 I.kept.size,.inr ⟨k,β,hk,hg⟩⟩
    .simp only[ρ',if_neg hkp]at hk;split at hk
     .rename_i b hb;exact⟨I.bnd b β g hk hg,(I.own b β g hk hg).imp (·.1) (λh=>h)⟩
     .cases hk
   .intro k β g hlk hk hg;obtain⟨b,β2,k1,k2,k3,k4⟩:=hlv k hlk;rw[hk]at k4;cases k4;rintro(h | ⟨b2,β3,_,m2,m3,m4,m5⟩)
    .exact I.notIm b β g k2 k3 hg h
    .have:=I.inj b b2 β β3 g k2 m3 k3 m4 hg m5;subst this;exact absurd (Lv k1) (Z4E m2)
   .intro k k' β β' g l1 l2 q1 q2 q3 q4;obtain⟨b,β2,k1,k2,k3,k4⟩:=hlv k l1;obtain⟨b',β2',k1',k2',k3',k4'⟩:=hlv k' l2;rw[q1]at k4;cases k4;rw[q2]at k4';cases k4';have:=I.inj b b' β β' g k2 k2' k3 k3' q3 q4;subst this;exact Z4R hnd k1 k1'
   .intro k B hB;by_cases hd:B = .dead
    .subst hd;obtain⟨b,C,p,k1,k2,k3,k4⟩:=b3 k .dead hB;simp only[fzB]at k3;split at k3;rotate_left
     .cases k3
     rename_i hbm;have hbm:=Lj hbm;have e:=Z4R hnd k1 (hfl b oq);subst e;obtain⟨β,m1,_⟩:=hpre k _ (Lr oq);exact⟨β,by rw[hlow k oq];exact m1,trivial⟩
    .obtain⟨b,C,p,k1,k2,k3,k4⟩:=b3 k B hB;rw[hB]at k2;cases k2;obtain⟨β,m1,m2⟩:=ZnX I hnm hi hz k3 k4 hd;exact⟨β,hname k b β k1 m1,m2⟩
   .have:=Zfz (r:=res) (ZnI I hnm hi hz h2 hx) hph2;rwa [hxe]at this
  cases hqe:q.e with
  | nrm=>exact post
  | ret=>exact post
  | ext n=>exact absurd hqe (hne n)
section
variable {hs:List (Nat×List Hint)} {cs:List (Nat×Tg×Ex×Tg)} {φ0:Prop}
theorem borF{P:Program}{f:Nat}{fn:Func}{args:List AV}{pre:List Blk}{res:AV}{post:List Blk}(ids keep:List Nat)(hf:P.funcs[f]? = Z fn)(fl:List Bool)(h:Fq hs cs φ0)
  (h1:oblF fl (runB P hs cs ids keep fn args pre res post)=φ0:=by kernel_rfl) (h2:lefE fl (runB P hs cs ids keep fn args pre res post)=rigE fl (runB P hs cs ids keep fn args pre res post):=by kernel_rfl):BorSpec P f args pre res post :=
 bor_of hs cs ids keep hf fl (oblF_E (Eq.mpr h1 h.p)) rfl h2
theorem lF{P:Program}{f:Nat}{fn:Func}{args:List AV}{pre:List Blk}{res:AV}{post:List Blk}(hf:P.funcs[f]? = Z fn)(fl:List Bool)(h:Fq hs cs φ0)
  (h1:oblF fl (runB P hs cs [0] [] fn args pre res post)=φ0:=by kernel_rfl) (h2:lefE fl (runB P hs cs [0] [] fn args pre res post)=rigE fl (runB P hs cs [0] [] fn args pre res post):=by kernel_rfl):BorSpec P f args pre res post :=
 bor_of hs cs [0] [] hf fl (oblF_E (Eq.mpr h1 h.p)) rfl h2
end
end Go.Sx
namespace Go.Proofs.YtdhchmlalchgeaaGreat
open Go.Sx
structure Tape where
 l:List Int
 at':Int
 deriving Inhabited
def Tape.b(t:Tape):Blk:=.box 48 [.d (.sl 1 (t.l.map idv)),int t.at']
def TOk(t:Tape):Prop:=t.l.length<=140737488355328/\0<=t.at'/\t.at'<=1048576
def Tape.next(t:Tape)(n:Int):Int:=if n<1 then 0 else(if t.at'<t.l.length then t.l.getD t.at'.toNat X else t.at'*7+3)%n
def Tape.step(t:Tape)(n:Int):Tape:=if n<1 then t else⟨t.l,t.at'+1⟩
def ZaO(v:Int){n:Int}(h:1<=n):-n<v.tmod n/\v.tmod n<n:=by
 by_cases hv:0<=v
 .rw[Le hv];have:=Lp v (b:=n) oq;have:=Lo v (b:=n) oq;omega
 .have e:v.tmod n=-((-v).tmod n):=by rw[Int.neg_tmod];omega
  rw[e,Le oq];have:=Lp (-v) (b:=n) oq;have:=Lo (-v) (b:=n) oq;omega
def ZiU(v:Int){n:Int}(h:1<=n):(v.tmod n+n).tmod n=v%n:=by
 have hr:=ZaO v h;rw[Le oq,LG];by_cases hv:0<=v
 .rw[Le hv,LH]
 .have e:v=n*v.tdiv n+v.tmod n:=(Int.mul_tdiv_add_tmod v n).symm;conv=>rhs;rw[e]
  rw[Int.mul_add_emod_self_left]
def Z0O(t:Tape)(n:Int)(ht:TOk t)(hn:n<=1099511627776)(hn0:-1099511627776<=n):LP 22 [.pt 0 0 0,int n] [t.b] (int (t.next n)) [(t.step n).b]:=by
 unfold TOk at ht;have h1:=λh=>ZaO (t.l.getD t.at'.toNat X) (n:=n) h;have h2:=λh=>ZiU (t.l.getD t.at'.toNat X) (n:=n) h;have h3:1<=n->0<=(t.at'*7+3)%n/\(t.at'*7+3)%n<n:=λh=>⟨Lp _ oq,Lo _ oq⟩
 have h4:((t.at'*7+3)%n+n)%n=(t.at'*7+3)%n:=by rw[LG,LH]
 rcases bb (L (n<1))with hc0 | hc0<;>have hc0p:=hc0<;>simp only[bs]at hc0p
 .rw[show t.step n=t from by simp[Tape.next,Tape.step, *]];exact lF func22 [M] (Ft 7 hc0 (Fa (by simp[Tape.next,Tape.step, *]:0=t.next n) Fz))
 .have Q0 {h_ c_ p_} (r_:Fq h_ c_ p_):=Ff 7 hc0 (Fi 12 (t.at'*7) (Fi 13 (t.at'*(7:Int)+3) (Fl 22 idv t.l r_)));rcases bb (L (t.at'<(t.l.length:Int)))with hc1 | hc1<;>have hc1p:=hc1<;>simp only[bs]at hc1p
  .rw[show t.step n=Tape.mk t.l (t.at'+(1:Int))from by simp[Tape.next,Tape.step, *]];exact lF func22 [M] (Q0 (Ft 23 hc1 (Fe 32 idv t.l t.at' (Fi 38 (t.at'+1) (Fo (n≠0) (Fi 45 ((t.l.getD t.at'.toNat X).tmod n+n) (Fg 47 (by exact Le oq:((t.l.getD t.at'.toNat X).tmod n+n).tmod n=((t.l.getD t.at'.toNat X).tmod n+n)%n) (Fo (n≠0) (Fa (by grind[Tape.next,Tape.step]:((t.l.getD t.at'.toNat X).tmod n+n)%n=t.next n) Fz)))))))))
  .rw[show t.step n=Tape.mk t.l (t.at'+(1:Int))from by simp[Tape.next,Tape.step, *]];exact lF func22 [M] (Q0 (Ff 23 hc1 (Fi 38 (t.at'+1) (Fg 43 (by exact Le oq:(t.at'*(7:Int)+3).tmod n=(t.at'*(7:Int)+3)%n) (Fo (n≠0) (Fi 45 ((t.at'*(7:Int)+3)%n+n) (Fg 47 (by exact Le oq:((t.at'*(7:Int)+3)%n+n).tmod n=((t.at'*(7:Int)+3)%n+n)%n) (Fo (n≠0) (Fa (by simp[Tape.next,Tape.step, *]:((t.at'*(7:Int)+3)%n+n)%n=t.next n) Fz)))))))))
def Z8d(t:Tape)(ht:TOk t):LP 57 [.pt 0 0 0] [t.b] (bool (L ((t.l.length:Int)<=t.at'))) [t.b]:=by
 exact lF func57 [] (Fl 11 idv t.l Fz)
def Tape.C(t:Tape):Conf:=⟨[16,16,20,32].getD (t.next 4).toNat X,[8,12,16,20,24].getD ((t.step 4).next 5).toNat X⟩
def Z0T(t:Tape){n:Int}(h:1<=n):0<=t.next n/\t.next n<n:=by
 unfold Tape.next
 rw[if_neg oq];exact⟨Lp _ oq,Lo _ oq⟩
def step_ok{t:Tape}(ht:TOk t)(n:Int)(h:t.at'<1048576):TOk (t.step n):=by
 unfold TOk at ht ⊢;unfold Tape.step;split
 .exact ht
 .simp only;omega
def ZkR(t:Tape)(ht:TOk t)(ha:t.at'<=1000000):LP 104 [.pt 0 0 0] [t.b] (t.C.av) [((t.step 4).step 5).b]:=by
 have h1:=Z0T t (n:=4) dd;have h2:=Z0T (t.step 4) (n:=5) dd;have h3:=step_ok ht 4 oq;exact lF func104 [] (Fh 7 [.el (idv ([16,16,20,32].getD (t.next 4).toNat X))] (Fh 12 [.el (idv ([8,12,16,20,24].getD ((t.step 4).next 5).toNat X))] (Fs 3 (Y idv [16,16,20,32]) (Fp 5 (@Z0O t (4) aa oq oq) (Fa (by simp[Tape.C, *]:0<=t.next 4/\(t.next 4).toNat<(Y idv [16,16,20,32]).length) (Fa (by grind[Tape.C]:(Y idv [16,16,20,32])[(t.next 4).toNat]? = Z (idv ([16,16,20,32].getD (t.next 4).toNat X))) (Fs 8 (Y idv [8,12,16,20,24]) (Fp 10 (@Z0O (t.step 4) (5) aa oq oq) (Fa (by simp[Tape.C, *]:0<=(t.step 4).next 5/\((t.step 4).next 5).toNat<(Y idv [8,12,16,20,24]).length) (Fa (by grind[Tape.C]:(Y idv [8,12,16,20,24])[((t.step 4).next 5).toNat]? = Z (idv ([8,12,16,20,24].getD ((t.step 4).next 5).toNat X))) Fz))))))))))
structure WorldM where
 heap:Heap
 G:List Int
 E:List Int
 deriving Inhabited
def WorldM.cells(w:WorldM):List AV:=w.heap.cells++[Z01 w.G,Z01 w.E]
def WorldM.av(w:WorldM):AV:=.ag w.cells
def Z39(t:Tape):Z07 t.C=M:=by
 have h1:=Z0T t (n:=4) dd;have h2:=Z0T (t.step 4) (n:=5) dd;unfold Tape.C;generalize t.next 4=a at h1
 generalize (t.step 4).next 5=b at h2
 have ha:a=0\/a=1\/a=2\/a=3:=by omega
 have hb:b=0\/b=1\/b=2\/b=3\/b=4:=by omega
 rcases ha with rfl | rfl | rfl | rfl<;>rcases hb with rfl | rfl | rfl | rfl | rfl<;>decide
def Z4q{t:Tape}(n:Int):t.at'<=(t.step n).at'/\(t.step n).at'<=t.at'+1/\(t.step n).l=t.l:=by
 unfold Tape.step;split
 .exact⟨by omega,by omega,rfl⟩
 .exact⟨by simp only;omega,by simp only;omega,rfl⟩
def Z5b{t u:Tape}(ht:TOk t)(hl:u.l=t.l)(h1:t.at'<=u.at')(h2:u.at'<=1048576):TOk u:=by
 unfold TOk at ht ⊢;rw[hl];omega
def Tape.empty(t:Tape):WorldM:=⟨Z3f t.C,[],[]⟩
def Zcu(t:Tape)(ht:TOk t)(ha:t.at'<=1000000):LP 56 [.pt 0 0 0] [t.b] (t.empty.av) [((t.step 4).step 5).b]:=by
 have hv:=Z39 t;exact lF func56 [] (Fp 7 (@ZkR t aa aa) (Fc 8 (@ZjM t.C aa) (Fnl (Fnl Fz))))
def hdr1(t:Tape)(c:Conf):Int:=if(t.step (Z00 c)).next 12=0 then Z00 c+((t.step (Z00 c)).step 12).next c.pw else t.next (Z00 c)
def Z3K(t:Tape)(c:Conf):Tape:=if(t.step (Z00 c)).next 12=0 then((t.step (Z00 c)).step 12).step c.pw else(t.step (Z00 c)).step 12
def Tape.header(t:Tape)(c:Conf):Header:=if(Z3K t c).next 4=0 then⟨2,hdr1 t c,0⟩else if(Z3K t c).next 4=1 then⟨3,hdr1 t c,0⟩else⟨1,min (hdr1 t c) 32,((Z3K t c).step 4).next (2^(min (min (hdr1 t c) 32) 12).toNat)⟩
def Tape.headerT(t:Tape)(c:Conf):Tape:=if(Z3K t c).next 4=0 then(Z3K t c).step 4 else if(Z3K t c).next 4=1 then(Z3K t c).step 4 else((Z3K t c).step 4).step (2^(min (min (hdr1 t c) 32) 12).toNat)
def Zoe{n:Int}(h:n<=12):(1:Int)<=2^n.toNat/\(2:Int)^n.toNat<=4096:=by
 have:n.toNat<=12:=by omega
 generalize n.toNat=k at this;have hk:k∈Li 13:=LC.2 oq;revert k;decide+kernel
def Znf{n:Int}(h:0<=n):1*2^min (min (min n 32) 12).toNat 64=(2:Int)^(min (min n 32) 12).toNat:=by
 rw[Nat.min_eq_left oq,Int.one_mul]
def Z60(t:Tape)(c:Conf)(ht:TOk t)(ha:t.at'<=1000000)(hv:Z07 c=M):LP 105 [.pt 0 0 0,c.av] [t.b] ((t.header c).av) [(t.headerT c).b]:=by
 have hb:=validB_iff.1 hv;have hs:=Z1B hv;have s1:=Z4q (t:=t) (Z00 c);have s2:=Z4q (t:=t.step (Z00 c)) 12;have s3:=Z4q (t:=(t.step (Z00 c)).step 12) c.pw;have k1:=Z5b ht s1.2.2 oq oq;have k2:=Z5b k1 s2.2.2 oq oq;have k3:=Z5b k2 s3.2.2 oq oq;have n1:=Z0T t (n:=Z00 c) oq;have n2:=Z0T ((t.step (Z00 c)).step 12) (n:=c.pw) oq;have h1:0<=hdr1 t c/\hdr1 t c<=80:=by unfold hdr1;split<;>omega
 have s4:=Z4q (t:=((t.step (Z00 c)).step 12).step c.pw) 4;have s5:=Z4q (t:=(t.step (Z00 c)).step 12) 4;have k4:=Z5b k3 s4.2.2 oq oq;have k5:=Z5b k2 s5.2.2 oq oq;have ei1:=Znf (n:=Z00 c+((t.step (Z00 c)).step 12).next c.pw) oq;have ei2:=Znf (n:=t.next (Z00 c)) oq;have p1:=Zoe (n:=min (min (Z00 c+((t.step (Z00 c)).step 12).next c.pw) 32) 12) oq;have p2:=Zoe (n:=min (min (t.next (Z00 c)) 32) 12) oq;have r1:=Z0T ((((t.step (Z00 c)).step 12).step c.pw).step 4) (n:=2^(min (min (Z00 c+((t.step (Z00 c)).step 12).next c.pw) 32) 12).toNat) oq;have r2:=Z0T (((t.step (Z00 c)).step 12).step 4) (n:=2^(min (min (t.next (Z00 c)) 32) 12).toNat) oq;have Q0 {h_ c_ p_} (r_:Fq h_ c_ p_):=Fc 8 (@Z1h c) (Fp 11 (@Z0O t (Z00 c) aa oq oq) (Fp 13 (@Z0O (t.step (Z00 c)) (12) aa oq oq) r_));rcases bb ((t.step (Z00 c)).next (12:Int)==0)with hc0 | hc0<;>have hc0p:=hc0<;>simp only[bs]at hc0p
 .let y0:=(t.step (Z00 c)).step 12;have Q1 {h_ c_ p_} (r_:Fq h_ c_ p_):=Q0 (Ft 14 hc0 (Fp 19 (@Z0O y0 c.pw aa oq oq) (Fi 20 (Z00 c+y0.next c.pw) (Fp 22 (@Z0O (y0.step c.pw) (4) aa oq oq) r_))));rcases bb ((((t.step (Z00 c)).step 12).step c.pw).next (4:Int)==0)with hc1 | hc1<;>have hc1p:=hc1<;>simp only[bs]at hc1p
  .rw[show t.header c=Header.mk (2:Int) (Z00 c+((t.step (Z00 c)).step (12:Int)).next c.pw) (0:Int)from by(simp only[Tape.header,Tape.headerT,hdr1,Z3K] ;exact sj)];rw[show t.headerT c=(((t.step (Z00 c)).step (12:Int)).step c.pw).step (4:Int)from by(simp only[Tape.header,Tape.headerT,hdr1,Z3K] ;exact sj)];exact lF func105 [] (Fh 23 [.br M] (Q1 (Fa hc1 Fz)))
  .rcases bb ((((t.step (Z00 c)).step 12).step c.pw).next (4:Int)==1)with hc2 | hc2<;>have hc2p:=hc2<;>simp only[bs]at hc2p
   .rw[show t.header c=Header.mk (3:Int) (Z00 c+((t.step (Z00 c)).step (12:Int)).next c.pw) (0:Int)from by(simp only[Tape.header,Tape.headerT,hdr1,Z3K] ;exact sj)];rw[show t.headerT c=(((t.step (Z00 c)).step (12:Int)).step c.pw).step (4:Int)from by(simp only[Tape.header,Tape.headerT,hdr1,Z3K] ;exact sj)];exact lF func105 [] (Fh 23 [.br O] (Fh 27 [.br M] (Q1 (Fa hc1 (Fa hc2 Fz)))))
   .rw[show t.header c=Header.mk (1:Int) (min (Z00 c+((t.step (Z00 c)).step (12:Int)).next c.pw) (32:Int)) (((((t.step (Z00 c)).step (12:Int)).step c.pw).step (4:Int)).next ((2:Int)^(min (min (Z00 c+((t.step (Z00 c)).step (12:Int)).next c.pw) (32:Int)) (12:Int)).toNat))from by(simp only[Tape.header,Tape.headerT,hdr1,Z3K] ;exact sj)];rw[show t.headerT c=((((t.step (Z00 c)).step (12:Int)).step c.pw).step (4:Int)).step ((2:Int)^(min (min (Z00 c+((t.step (Z00 c)).step (12:Int)).next c.pw) (32:Int)) (12:Int)).toNat)from by(simp only[Tape.header,Tape.headerT,hdr1,Z3K] ;exact sj)];let y3:=(t.step (Z00 c)).step 12;let y1:=Z00 c+y3.next c.pw
    let y2:=min (min y1 32) 12;let y4:=(y3.step c.pw).step 4;exact lF func105 [] (Fh 23 [.br O] (Fh 27 [.br O] (Q1 (Fa hc1 (Fa hc2 (Fgo 32 (if 32<Z00 c+y3.next c.pw then 32 else Z00 c+y3.next c.pw) (min y1 32) (Fgo 36 (if 12<min y1 32 then 12 else min y1 32) y2 (Fv 37 y2 (Fg 38 (by rw[wrapI' oq oq];omega:Lq.wrap ((1:Int)*2^min y2.toNat 64)=2^y2.toNat) (Fo (0<=min (min y1 32) 12) (Fp 39 (@Z0O y4 (2^y2.toNat) aa oq oq) (Fg 40 (by exact Zbi oq oq:LK.wrap (y4.next (2^y2.toNat))=y4.next (2^y2.toNat)) Fz))))))))))))
 .have Q2 {h_ c_ p_} (r_:Fq h_ c_ p_):=Q0 (Ff 14 hc0 (Fp 22 (@Z0O ((t.step (Z00 c)).step 12) (4) aa oq oq) r_));rcases bb (((t.step (Z00 c)).step 12).next (4:Int)==0)with hc3 | hc3<;>have hc3p:=hc3<;>simp only[bs]at hc3p
  .rw[show t.header c=Header.mk (2:Int) (t.next (Z00 c)) (0:Int)from by(simp only[Tape.header,Tape.headerT,hdr1,Z3K] ;exact sj)];rw[show t.headerT c=((t.step (Z00 c)).step (12:Int)).step (4:Int)from by(simp only[Tape.header,Tape.headerT,hdr1,Z3K] ;exact sj)];exact lF func105 [] (Fh 23 [.br M] (Q2 (Fa hc3 Fz)))
  .rcases bb (((t.step (Z00 c)).step 12).next (4:Int)==1)with hc4 | hc4<;>have hc4p:=hc4<;>simp only[bs]at hc4p
   .rw[show t.header c=Header.mk (3:Int) (t.next (Z00 c)) (0:Int)from by(simp only[Tape.header,Tape.headerT,hdr1,Z3K] ;exact sj)];rw[show t.headerT c=((t.step (Z00 c)).step (12:Int)).step (4:Int)from by(simp only[Tape.header,Tape.headerT,hdr1,Z3K] ;exact sj)];exact lF func105 [] (Fh 23 [.br O] (Fh 27 [.br M] (Q2 (Fa hc3 (Fa hc4 Fz)))))
   .rw[show t.header c=Header.mk (1:Int) (min (t.next (Z00 c)) (32:Int)) ((((t.step (Z00 c)).step (12:Int)).step (4:Int)).next ((2:Int)^(min (min (t.next (Z00 c)) (32:Int)) (12:Int)).toNat))from by(simp only[Tape.header,Tape.headerT,hdr1,Z3K] ;exact sj)];rw[show t.headerT c=(((t.step (Z00 c)).step (12:Int)).step (4:Int)).step ((2:Int)^(min (min (t.next (Z00 c)) (32:Int)) (12:Int)).toNat)from by(simp only[Tape.header,Tape.headerT,hdr1,Z3K] ;exact sj)];let y6:=((t.step (Z00 c)).step 12).step 4;let y7:=t.next (Z00 c)
    let y5:=min (min y7 32) 12;exact lF func105 [] (Fh 23 [.br O] (Fh 27 [.br O] (Q2 (Fa hc3 (Fa hc4 (Fgo 32 (if 32<t.next (Z00 c)then 32 else t.next (Z00 c)) (min y7 32) (Fgo 36 (if 12<min y7 32 then 12 else min y7 32) y5 (Fv 37 y5 (Fg 38 (by rw[wrapI' oq oq];omega:Lq.wrap ((1:Int)*2^min y5.toNat 64)=2^y5.toNat) (Fo (0<=min (min y7 32) 12) (Fp 39 (@Z0O y6 (2^y5.toNat) aa oq oq) (Fg 40 (by exact Zbi oq oq:LK.wrap (y6.next (2^y5.toNat))=y6.next (2^y5.toNat)) Fz))))))))))))
abbrev sA(w:WorldM)(t:Tape):Tape:=(t.step (w.heap.W.length:Int)).step (w.heap.P.length:Int)
abbrev sB(w:WorldM)(t:Tape):Tape:=(sA w t).step 12
abbrev sC(w:WorldM)(t:Tape):Int:=(t.step (w.heap.W.length:Int)).next (w.heap.P.length:Int)
def ULe(l:List Int):Prop:=∀ x∈l,0<=x/\x<=18446744073709551615
structure WMok (w:WorldM):Prop where
 W:WOk w.heap.W
 G:ULe w.G
 E:ULe w.E
 sl:w.G.length<=1048576
 wl:w.E.length<=1048576
def WorldM.refs(w:WorldM):List Int:=0::(w.G++w.E)
def WorldM.pick(w:WorldM)(t:Tape):Int:=w.refs.getD (t.next (w.refs.length:Int)).toNat X
def WorldM.pickT(w:WorldM)(t:Tape):Tape:=t.step (w.refs.length:Int)
def Z2f(w:WorldM)(t:Tape)(hw:WMok w)(ht:TOk t)(ha:t.at'<=1040000):LP 109 [w.av,.pt 0 0 0] [t.b] (u64 (w.pick t)) [(w.pickT t).b]:=by
 have h1:=hw.sl;have h2:=hw.wl;have hl:w.refs.length=w.G.length+w.E.length+1:=by simp[WorldM.refs]
 have hn:=Z0T t (n:=(w.refs.length:Int)) oq;rw[show w.pickT t=t.step (↑((0:Nat)+(1:Nat)+w.G.length+w.E.length):Int)from by grind[WorldM.pick,WorldM.refs,WorldM.pickT]];exact lF func109 [M] (Fh 12 [.els (Y wdv ([0]++w.G++w.E))] (Fh 19 [.el (wdv (([0]++w.G++w.E).getD (t.next (↑(0+1+w.G.length+w.E.length):Int)).toNat X))] (Fs 6 (Y wdv [0]) (Fa (by(simp[WorldM.pick,WorldM.refs,WorldM.pickT, *];omega):(Y wdv [0]).length+(Y wdv w.G).length<=2^30) (Fs 9 (Y wdv ([0]++w.G)) (Fa (by(simp[WorldM.pick,WorldM.refs,WorldM.pickT, *];omega):(Y wdv ([0]++w.G)).length+(Y wdv w.E).length<=2^30) (Fa (by simp[WorldM.pick,WorldM.refs,WorldM.pickT,LB,Lz,LA,Lu,wdv,idv]:Y wdv ([0]++w.G)++Y wdv w.E=Y wdv ([0]++w.G++w.E)) (Fg 16 (by simp only[Lh,Ld,LN,List.length_drop,Lt,List.length_replicate,List.length_nil,List.length_cons]:(↑(Y wdv ([0]++w.G++w.E)).length:Int)=(↑(0+1+w.G.length+w.E.length):Int)) (Fp 17 (@Z0O t ((↑(0+1+w.G.length+w.E.length):Int)) aa oq oq) (Fa (by grind[WorldM.pick,WorldM.refs,WorldM.pickT]:0<=t.next (↑(0+1+w.G.length+w.E.length):Int)/\(t.next (↑(0+1+w.G.length+w.E.length):Int)).toNat<(Y wdv ([0]++w.G++w.E)).length) (Fa (by grind[WorldM.pick,WorldM.refs,WorldM.pickT]:(Y wdv ([0]++w.G++w.E))[(t.next (↑(0+1+w.G.length+w.E.length):Int)).toNat]? = Z (wdv (([0]++w.G++w.E).getD (t.next (↑(0+1+w.G.length+w.E.length):Int)).toNat X))) (Fa (by grind[WorldM.pick,WorldM.refs,WorldM.pickT]:([0]++w.G++w.E).getD (t.next (↑(0+1+w.G.length+w.E.length):Int)).toNat X=w.pick t) Fz))))))))))))
def WorldM.put(w:WorldM)(hd:Header):WorldM:=if(new7 w.heap hd).2.2=0 then⟨(new7 w.heap hd).1,w.G++[(new7 w.heap hd).2.1],w.E⟩else w
def Z7i(w:WorldM)(hd:Header)(hw:WMok w)(hm:0<=hd.map/\hd.map<=4294967295):GP 62 [w.av,hd.av] O (w.put hd).av []:=by
 have h0:=hw.W;have h1:=hw.sl;have Q0 {h_ c_ p_} (r_:Fq h_ c_ p_):=Fc 12 (@Zkw w.heap hd aa aa) r_;rcases bb ((new7 w.heap hd).2.2==0)with hc0 | hc0<;>have hc0p:=hc0<;>simp only[bs]at hc0p
 .rw[show w.put hd=WorldM.mk (new7 w.heap hd).1 (w.G++[(new7 w.heap hd).2.1]) w.E from by simp[WorldM.put, *]];exact gF [] func62 [] (Fh 25 [.els (Y wdv (w.G++[(new7 w.heap hd).2.1]))] (Q0 (Ft 17 hc0 (FAx 19 22 wdv w.G (by(simp[WorldM.put, *];omega)) (Fs 24 (Y wdv [(new7 w.heap hd).2.1]) (Fa (by(simp[WorldM.put, *];omega):(Y wdv w.G).length+(Y wdv [(new7 w.heap hd).2.1]).length<=2^30) (Fa (by simp[WorldM.put,LB,Lz,LA,Lu,wdv,idv]:Y wdv w.G++Y wdv [(new7 w.heap hd).2.1]=Y wdv (w.G++[(new7 w.heap hd).2.1])) Fz)))))))
 .rw[show w.put hd=w from by simp[WorldM.put, *]];exact gF [] func62 [] (Q0 (Ff 17 hc0 Fz))
abbrev pA(w:WorldM)(t:Tape):Page:=w.heap.P.getD (ofA w.heap.C (w.pick t)).1.toNat X
def Z5G{l:List Int}(h:ULe l)(i:Nat):0<=l.getD i X/\l.getD i X<=18446744073709551615:=by
 rw[Lf];cases e:l[i]? with
 | none=>simp
 | some x=>exact h x (Lv e)
def Zpe{w:WorldM}(hw:WMok w):ULe w.refs:=by
 intro x hx;simp only[WorldM.refs,List.mem_cons,Ll]at hx;rcases hx with rfl | hx | hx
 .omega
 .exact hw.G x hx
 .exact hw.E x hx
def Z31{w:WorldM}(hw:WMok w)(t:Tape):0<=w.pick t/\w.pick t<=18446744073709551615:=Z5G (Zpe hw) _
def Zbu(w:WorldM)(t:Tape):t.at'<=(w.pickT t).at'/\(w.pickT t).at'<=t.at'+1/\(w.pickT t).l=t.l:=Z4q _
def Z4m(w:WorldM)(t:Tape):Int:=((w.pickT (w.pickT t)).next 8).tmod (getH w.heap (w.pick t)).1.length
def Z4t(w:WorldM)(t:Tape):Int:=if Z0f (getH w.heap (w.pick t)).1 (Z4m w t)=M then w.pick (w.pickT t)else((w.pickT (w.pickT t)).step 8).next 1048576
def WorldM.link(w:WorldM)(t:Tape):WorldM:=if(getH w.heap (w.pick t)).2=0/\(getH w.heap (w.pick t)).1.length≠0 then⟨(Z0B w.heap (w.pick t) (Z4m w t) (Z4t w t)).1,w.G,w.E⟩else w
def WorldM.linkT(w:WorldM)(t:Tape):Tape:=if(getH w.heap (w.pick t)).2=0/\(getH w.heap (w.pick t)).1.length≠0/\Z0f (getH w.heap (w.pick t)).1 (Z4m w t)=O then((w.pickT (w.pickT t)).step 8).step 1048576 else(w.pickT (w.pickT t)).step 8
def Za1(w:WorldM)(t:Tape)(hw:WMok w)(ht:TOk t)(ha:t.at'<=1000000):LP 106 [w.av,.pt 0 0 0] [t.b] (w.link t).av [(w.linkT t).b]:=by
 have h0:=hw.W;have s1:=Zbu w t;have s2:=Zbu w (w.pickT t);have s3:=Z4q (t:=w.pickT (w.pickT t)) 8;have k1:=Z5b ht s1.2.2 oq oq;have k2:=Z5b k1 s2.2.2 oq oq;have k3:=Z5b k2 s3.2.2 oq oq;have p1:=Z31 hw t;have p2:=Z31 hw (w.pickT t);have n1:=Z0T (w.pickT (w.pickT t)) (n:=8) dd;have n2:=Z0T ((w.pickT (w.pickT t)).step 8) (n:=1048576) dd;have m1:=Z8e hw.W (w.pick t);have Q0 {h_ c_ p_} (r_:Fq h_ c_ p_):=Fp 12 (@Z2f w t aa aa oq) (Fp 15 (@Z2f w (w.pickT t) aa aa oq) (Fp 17 (@Z0O (w.pickT (w.pickT t)) (8) aa oq oq) (Fc 22 (@Z42 w.heap (w.pick t) aa aa) r_)));rcases bb ((getH w.heap (w.pick t)).2 != 0||(getH w.heap (w.pick t)).1.length==0)with hc0 | hc0<;>have hc0p:=hc0<;>simp only[bs]at hc0p
 .rw[show w.link t=w from by(simp[WorldM.link,WorldM.linkT,Z4m,Z4t, *];omega)];rw[show w.linkT t=(w.pickT (w.pickT t)).step (8:Int)from by grind[WorldM.link,WorldM.linkT,Z4m,Z4t]];exact lF func106 [] (Q0 (Ft 31 hc0 Fz))
 .obtain⟨hc0pa,hc0pb⟩:=hc0p;have hf3:=Z45 hc0pa;obtain⟨hf3a,⟨hf3ba,⟨hf3bba,⟨hf3bbba,⟨hf3bbbba,⟨hf3bbbbba,⟨hf3bbbbbba,⟨hf3bbbbbbba,⟨hf3bbbbbbbba,⟨hf3bbbbbbbbba,hf3bbbbbbbbbb⟩⟩⟩⟩⟩⟩⟩⟩⟩⟩:=hf3;let y0:=getH w.heap (w.pick t);let y1:=w.pickT (w.pickT t);have Q1 {h_ c_ p_} (r_:Fq h_ c_ p_):=Q0 (Ff 31 hc0 (Fg 36 (by exact Le oq:(y1.next 8).tmod y0.1.length=y1.next 8%y0.1.length) (Fo (y0.1.length≠0) (Fc 39 (@Z1T (y0.1) (y1.next 8%y0.1.length) aa) r_))));rcases bb (!Z0f (getH w.heap (w.pick t)).1 ((w.pickT (w.pickT t)).next 8%(getH w.heap (w.pick t)).1.length))with hc6 | hc6<;>have hc6p:=hc6<;>simp only[bs]at hc6p
  .rw[show w.link t=WorldM.mk (Z0B w.heap (w.pick t) ((w.pickT (w.pickT t)).next (8:Int)%(getH w.heap (w.pick t)).1.length) (((w.pickT (w.pickT t)).step (8:Int)).next (1048576:Int))).1 w.G w.E from by grind[WorldM.link,WorldM.linkT,Z4m,Z4t]];rw[show w.linkT t=((w.pickT (w.pickT t)).step (8:Int)).step (1048576:Int)from by grind[WorldM.link,WorldM.linkT,Z4m,Z4t]];exact lF func106 [] (Q1 (Ft 40 hc6 (Fp 42 (@Z0O (y1.step 8) (1048576) aa oq oq) (Fv 43 ((y1.step 8).next 1048576) (Fc 50 (@Z83 w.heap (w.pick t) (y1.next 8%y0.1.length) ((y1.step 8).next 1048576) aa aa) Fz)))))
  .rw[show w.link t=WorldM.mk (Z0B w.heap (w.pick t) ((w.pickT (w.pickT t)).next (8:Int)%(getH w.heap (w.pick t)).1.length) (w.pick (w.pickT t))).1 w.G w.E from by grind[WorldM.link,WorldM.linkT,Z4m,Z4t]];rw[show w.linkT t=(w.pickT (w.pickT t)).step (8:Int)from by grind[WorldM.link,WorldM.linkT,Z4m,Z4t]];exact lF func106 [] (Q1 (Ff 40 hc6 (Fc 50 (@Z83 w.heap (w.pick t) ((w.pickT (w.pickT t)).next 8%(getH w.heap (w.pick t)).1.length) (w.pick (w.pickT t)) aa aa) Fz)))
def Z0y(l:List Page):Nat->Nat
 | 0=>0
 | i+1=>Z0y l i+(if(l.getD i X).K=1/\0<(l.getD i X).N then 1 else 0)
def Z37(l:List Page):∀ i,Z0y l i<=i
 | 0=>Lk _
 | i+1=>by
  have:=Z37 l i;simp only[Z0y];split<;>omega
def crowd(l:List Page):Nat:=Z0y l l.length
def ZfA(h:Heap)(i:Nat):Tg:=⟨tm 31 [(1,.pt 8001 0 0),(3,int (Z0y h.P i)),(4,int i)],[(8001,.box 28 h.cells)],60⟩
def Zhb(h:Heap)(hl:h.P.length<=1048576)(i:Nat)(hi:i<h.P.length):CP (rndF f152 0) (ZfA h i).st .nrm (ZfA h (i+1)).st:=by
 have hc:=Z37 h.P i;have Q0 {h_ c_ p_} (r_:Fq h_ c_ p_):=FN 8 9 15 Page.dv h.P i (FeG 23 ((h.P.getD i X).K==1) Page.dv h.P (↑i) i r_);rcases bb ((h.P.getD i X).K==1&&L (0<(h.P.getD i X).N))with hc0 | hc0<;>have hc0p:=hc0<;>simp only[bs]at hc0p
 .obtain⟨hc0pa,hc0pb⟩:=hc0p;exact sF [] (fO 8) (Q0 (Ft 27 hc0 (Fw 29 ((↑(Z0y h.P i):Int)+1) (↑(Z0y h.P i+1):Int) (Fx 11 i (Fa (by(simp only[Z0y] ;exact sj):(↑(Z0y h.P i+1):Int)=(↑(Z0y h.P (i+1)):Int)) Fz)))))
 .exact sF [] (fO 8) (Q0 (Ff 27 hc0 (Fx 11 i (Fa (by(simp only[Z0y] ;exact sj):(↑(Z0y h.P i):Int)=(↑(Z0y h.P (i+1)):Int)) Fz))))
def ZkV(h:Heap):CP (rndF f152 0) (ZfA h h.P.length).st (.ext 0) (Tg.st ⟨tm 31 [(3,int (crowd h.P))],[],60⟩):=by
 exact sF [] [] (FO 8 9 Page.dv h.P Fz)
def Zjz(h:Heap)(hl:h.P.length<=1048576)  := Z0a (S:=λi=>(ZfA h i).st) h.P.length (by kernel_rfl) (λi hi=>Zhb h hl i hi) (ZkV h)
def Z9F(h:Heap)(hl:h.P.length<=1048576):GP 152 [h.av] M (int (crowd h.P)) []:=by
 exact gF [] func152 [] (Fu (@Zjz h aa) Fz)
def ZiM(w:WorldM)(t:Tape):Int:=t.next (w.G.length:Int)
def WorldM.drop(w:WorldM)(t:Tape):WorldM :=
 if 0<w.G.length then⟨w.heap,w.G.take (ZiM w t).toNat++w.G.drop ((ZiM w t).toNat+1),if(t.step (w.G.length:Int)).next 3=0 then w.E++[w.G.getD (ZiM w t).toNat X]else w.E⟩else w
def WorldM.dropT(w:WorldM)(t:Tape):Tape:=if 0<w.G.length then(t.step (w.G.length:Int)).step 3 else t
def Zcy(w:WorldM)(t:Tape)(hw:WMok w)(ht:TOk t)(ha:t.at'<=1040000):LP 108 [w.av,.pt 0 0 0] [t.b] (w.drop t).av [(w.dropT t).b]:=by
 have h1:=hw.sl;have h2:=hw.wl;have s1:=Z4q (t:=t) (w.G.length:Int);have k1:=Z5b ht s1.2.2 oq oq;have n1:=λh=>Z0T t (n:=(w.G.length:Int)) h;by_cases c1:0<w.G.length
 .have eT:w.dropT t=(t.step (w.G.length:Int)).step 3:=by rw[WorldM.dropT,if_pos c1]
  by_cases c2:(t.step (w.G.length:Int)).next 3=0
  .have eP:w.drop t=⟨w.heap,w.G.take (t.next (w.G.length:Int)).toNat++w.G.drop ((t.next (w.G.length:Int)).toNat+1),w.E++[w.G.getD (t.next (w.G.length:Int)).toNat X]⟩:=by rw[WorldM.drop,if_pos c1,if_pos c2];rfl
   rw[eP,eT];exact lF func108 [M] (Fh 28 [.els (Y wdv (w.E++[w.G.getD (t.next (w.G.length:Int)).toNat X]))] (Fh 35 [.els (Y wdv (Lb (t.next (w.G.length:Int)).toNat w.G))] (Fh 40 [.els (Y wdv (Lc (t.next (w.G.length:Int)+1).toNat w.G))] (Fh 41 [.els (Y wdv (Lb (t.next (w.G.length:Int)).toNat w.G++Lc (t.next (w.G.length:Int)+1).toNat w.G))] (Fl 9 wdv w.G (Ftb 11 (L (0<(w.G.length:Int))) (Fp 14 (@Z0O t ((w.G.length:Int)) aa oq oq) (Fp 16 (@Z0O (t.step (w.G.length:Int)) (3) aa oq oq) (Ftb 17 ((t.step (w.G.length:Int)).next (3:Int)==0) (FA 18 21 wdv w.E (Fe 25 wdv w.G (t.next (w.G.length:Int)) (Fs 27 (Y wdv [w.G.getD (t.next (w.G.length:Int)).toNat X]) (Fa (by(simp[*];omega):(Y wdv w.E).length+(Y wdv [w.G.getD (t.next (w.G.length:Int)).toNat X]).length<=2^30) (Fa (ms:Y wdv w.E++Y wdv [w.G.getD (t.next (w.G.length:Int)).toNat X]=Y wdv (w.E++[w.G.getD (t.next (w.G.length:Int)).toNat X])) (Fs 30 (Y wdv []) (Fa (by(simp only[Lh];omega):0<=t.next (w.G.length:Int)/\t.next (w.G.length:Int)<=(↑(Y wdv w.G).length:Int)) (Fa (ms:Lb (t.next (w.G.length:Int)).toNat (Y wdv w.G)=Y wdv (Lb (t.next (w.G.length:Int)).toNat w.G)) (Fa (by(simp[*];omega):(Y wdv []).length+(Y wdv (Lb (t.next (w.G.length:Int)).toNat w.G)).length<=2^30) (Fs 34 (Y wdv (Lb (t.next (w.G.length:Int)).toNat w.G)) (Fi 39 (t.next (w.G.length:Int)+1) (Fa (by(simp only[Lh];omega):0<=t.next (w.G.length:Int)+1/\t.next (w.G.length:Int)+1<=(↑(Y wdv w.G).length:Int)) (Fa (ms:Lc (t.next (w.G.length:Int)+1).toNat (Y wdv w.G)=Y wdv (Lc (t.next (w.G.length:Int)+1).toNat w.G)) (Fa (by(simp[*];omega):(Y wdv (Lb (t.next (w.G.length:Int)).toNat w.G)).length+(Y wdv (Lc (t.next (w.G.length:Int)+1).toNat w.G)).length<=2^30) (Fa (ms:Y wdv (Lb (t.next (w.G.length:Int)).toNat w.G)++Y wdv (Lc (t.next (w.G.length:Int)+1).toNat w.G)=Y wdv (Lb (t.next (w.G.length:Int)).toNat w.G++Lc (t.next (w.G.length:Int)+1).toNat w.G)) (Fr w.heap.C.pw (Fr w.heap.C.pg (Fr (Y wdv w.heap.W) (Fr (Y Page.dv w.heap.P) (Fr w.heap.S (Fr w.heap.B (Fa (by refine congrArg _ ?_;(simp[*];omega):Y wdv (Lb (t.next (w.G.length:Int)).toNat w.G++Lc (t.next (w.G.length:Int)+1).toNat w.G)=Y wdv (WorldM.mk w.heap (Lb (t.next (w.G.length:Int)).toNat w.G++Lc ((t.next (w.G.length:Int)).toNat+1) w.G) (w.E++[w.G.getD (t.next (w.G.length:Int)).toNat X])).G) (Fr (Y wdv (w.E++[w.G.getD (t.next (w.G.length:Int)).toNat X])) Fz))))))))))))))))))))))))))))))))
  .have eP:w.drop t=⟨w.heap,w.G.take (t.next (w.G.length:Int)).toNat++w.G.drop ((t.next (w.G.length:Int)).toNat+1),w.E⟩:=by rw[WorldM.drop,if_pos c1,if_neg c2];rfl
   rw[eP,eT];exact lF func108 [M] (Fh 35 [.els (Y wdv (Lb (t.next (w.G.length:Int)).toNat w.G))] (Fh 40 [.els (Y wdv (Lc (t.next (w.G.length:Int)+1).toNat w.G))] (Fh 41 [.els (Y wdv (Lb (t.next (w.G.length:Int)).toNat w.G++Lc (t.next (w.G.length:Int)+1).toNat w.G))] (Fl 9 wdv w.G (Ftb 11 (L (0<(w.G.length:Int))) (Fp 14 (@Z0O t ((w.G.length:Int)) aa oq oq) (Fp 16 (@Z0O (t.step (w.G.length:Int)) (3) aa oq oq) (Ffb 17 ((t.step (w.G.length:Int)).next (3:Int)==0) (Fs 30 (Y wdv []) (Fa (by(simp only[Lh];omega):0<=t.next (w.G.length:Int)/\t.next (w.G.length:Int)<=(↑(Y wdv w.G).length:Int)) (Fa (ms:Lb (t.next (w.G.length:Int)).toNat (Y wdv w.G)=Y wdv (Lb (t.next (w.G.length:Int)).toNat w.G)) (Fa (by(simp[*];omega):(Y wdv []).length+(Y wdv (Lb (t.next (w.G.length:Int)).toNat w.G)).length<=2^30) (Fs 34 (Y wdv (Lb (t.next (w.G.length:Int)).toNat w.G)) (Fi 39 (t.next (w.G.length:Int)+1) (Fa (by(simp only[Lh];omega):0<=t.next (w.G.length:Int)+1/\t.next (w.G.length:Int)+1<=(↑(Y wdv w.G).length:Int)) (Fa (ms:Lc (t.next (w.G.length:Int)+1).toNat (Y wdv w.G)=Y wdv (Lc (t.next (w.G.length:Int)+1).toNat w.G)) (Fa (by(simp[*];omega):(Y wdv (Lb (t.next (w.G.length:Int)).toNat w.G)).length+(Y wdv (Lc (t.next (w.G.length:Int)+1).toNat w.G)).length<=2^30) (Fa (ms:Y wdv (Lb (t.next (w.G.length:Int)).toNat w.G)++Y wdv (Lc (t.next (w.G.length:Int)+1).toNat w.G)=Y wdv (Lb (t.next (w.G.length:Int)).toNat w.G++Lc (t.next (w.G.length:Int)+1).toNat w.G)) (Fr w.heap.C.pw (Fr w.heap.C.pg (Fr (Y wdv w.heap.W) (Fr (Y Page.dv w.heap.P) (Fr w.heap.S (Fr w.heap.B (Fa (by refine congrArg _ ?_;(simp[*];omega):Y wdv (Lb (t.next (w.G.length:Int)).toNat w.G++Lc (t.next (w.G.length:Int)+1).toNat w.G)=Y wdv (WorldM.mk w.heap (Lb (t.next (w.G.length:Int)).toNat w.G++Lc ((t.next (w.G.length:Int)).toNat+1) w.G) w.E).G) (Fr (Y wdv w.E) Fz))))))))))))))))))))))))))
 .have eP:w.drop t=w:=by rw[WorldM.drop,if_neg c1]
  have eT:w.dropT t=t:=by rw[WorldM.dropT,if_neg c1]
  rw[eP,eT];exact lF func108 [] (Fl 9 wdv w.G (Ffb 11 (L (0<(w.G.length:Int))) Fz))
def crwL(h:Heap)(i:Nat):Tg:=⟨tm 65 [(1,.pt 8001 0 0),(2,.pt 8002 0 0),(6,int (Z0y h.P i)),(7,int i)],[(8002,.box 198 [int 0,int 0,u64 0]),(8001,.box 28 h.cells)],64⟩
def Zmq(h:Heap)(i:Nat)(hp:Z02 h=M)(hi:i<h.P.length):CP (rndF f144 2) (crwL h i).st .nrm (crwL h (i+1)).st:=by
 have po:=Z06 hp;have:=Z37 h.P i;by_cases h1:(h.P.getD i X).K=1
 .by_cases h2:0<(h.P.getD i X).N
  .have e:Z0y h.P (i+1)=Z0y h.P i+1:=by rw[Z0y,if_pos ⟨h1,h2⟩]
   rw[crwL,crwL,e];exact sF [] [] (FN 35 36 42 Page.dv h.P i (FeG 50 ((h.P.getD i X).K==1) Page.dv h.P (↑i) i (Ftb 54 ((h.P.getD i X).K==1&&L (0<(h.P.getD i X).N)) (Fw 56 ((↑(Z0y h.P i):Int)+1) (↑(Z0y h.P i+1):Int) (Fx 38 i Fz)))))
  .have e:Z0y h.P (i+1)=Z0y h.P i:=by rw[Z0y,if_neg (λq=>h2 q.2)];rfl
   rw[crwL,crwL,e];exact sF [] [] (FN 35 36 42 Page.dv h.P i (FeG 50 ((h.P.getD i X).K==1) Page.dv h.P (↑i) i (Ffb 54 ((h.P.getD i X).K==1&&L (0<(h.P.getD i X).N)) (Fx 38 i Fz))))
 .have e:Z0y h.P (i+1)=Z0y h.P i:=by rw[Z0y,if_neg (λq=>h1 q.1)];rfl
  rw[crwL,crwL,e];exact sF [] [] (FN 35 36 42 Page.dv h.P i (FeG 50 ((h.P.getD i X).K==1) Page.dv h.P (↑i) i (Ffb 54 ((h.P.getD i X).K==1&&L (0<(h.P.getD i X).N)) (Fx 38 i Fz))))
def Zqj(h:Heap)(hp:Z02 h=M):CP (rndF f144 2) (crwL h h.P.length).st (.ext 2) (Tg.st ⟨tm 65 [(1,.pt 8001 0 0),(2,.pt 8002 0 0),(6,int (Z0y h.P h.P.length))],[(8002,.box 198 [int 0,int 0,u64 0]),(8001,.box 28 h.cells)],64⟩):=by
 have po:=Z06 hp;exact sF [] [] (FO 35 36 Page.dv h.P Fz)
def Zk4(h:Heap)(hp:Z02 h=M)  := Z0a (S:=λk=>(crwL h k).st) h.P.length (by kernel_rfl) (λk hk=>Zmq h k hp hk) (Zqj h hp)
def ZhW(h:Heap)(hw:WOk h.W)(hp:Z02 h=M)(hb:Z2Y h=La)(hq:(Z13 h (Z05 h).1).fault=0)(hc:h.C.pg/4<(Z0y h.P h.P.length:Nat)):GP 144 [h.av] M (Finding.mk 7 0 0).av []:=by
 have po:=Z06 hp;have:=Z37 h.P h.P.length;exact gF [] func144 [] (Fc 9 (@Z0m h) (Ffb 10 (!Z02 h) (Fu (@ZeX h aa aa aa) (Fc 27 (@Z5e h aa) (Ffb 30 ((Z13 h (Z05 h).1).fault != 0) (Fu (@Zk4 h aa) (Fg 61 (by rw[LI oq,wrapI' oq oq]:Lq.wrap (h.C.pg.tdiv 4)=h.C.pg/4) (Fa (by decide:(4:Int)≠0) (Ftb 62 (L (h.C.pg/4<(↑(Z0y h.P h.P.length):Int))) Fz)))))))))
def ZjR(h:Heap)(hw:WOk h.W)(hp:Z02 h=M)(hb:Z2Y h=La)(hq:(Z13 h (Z05 h).1).fault=0)(hc:¬ h.C.pg/4<(Z0y h.P h.P.length:Nat)):GP 144 [h.av] M (Finding.mk 0 0 0).av []:=by
 have po:=Z06 hp;have:=Z37 h.P h.P.length;exact gF [] func144 [] (Fc 9 (@Z0m h) (Ffb 10 (!Z02 h) (Fu (@ZeX h aa aa aa) (Fc 27 (@Z5e h aa) (Ffb 30 ((Z13 h (Z05 h).1).fault != 0) (Fu (@Zk4 h aa) (Fg 61 (by rw[LI oq,wrapI' oq oq]:Lq.wrap (h.C.pg.tdiv 4)=h.C.pg/4) (Fa (by decide:(4:Int)≠0) (Ffb 62 (L (h.C.pg/4<(↑(Z0y h.P h.P.length):Int))) Fz)))))))))
def Z0C(h:Heap):Finding :=
 if Z02 h=M then
  match Z2Y h with
  | some i=>pageF h i
  | none =>
   if(Z13 h (Z05 h).1).fault≠0 then Z13 h (Z05 h).1
   else if h.C.pg/4<(Z0y h.P h.P.length:Nat)then⟨7,0,0⟩else⟨0,0,0⟩
 else⟨1,0,0⟩
def Z6D(h:Heap)(hw:WOk h.W):GP 144 [h.av] M (Z0C h).av []:=by
 unfold Z0C;by_cases hp:Z02 h=M
 .rw[if_pos hp];cases hb:Z2Y h with
  | some i=>exact Zjm h hw hp i hb
  | none =>
   by_cases hq:(Z13 h (Z05 h).1).fault=0
   .simp only[hq,ne_eq,not_true_eq_false,if_false];by_cases hc:h.C.pg/4<(Z0y h.P h.P.length:Nat)
    .rw[if_pos hc];exact ZhW h hw hp hb hq hc
    .rw[if_neg hc];exact ZjR h hw hp hb hq hc
   .simp only[ne_eq,hq,not_false_eq_true,if_true];exact Zl0 h hw hp hb hq
 .rw[if_neg hp];exact ZmL h hw (by simpa using hp)
def Z8k(h:Heap)(hw:WOk h.W):GP 87 [h.av] M (bool (L (Z0C h=⟨0,0,0⟩))) []:=by
 by_cases h1:(Z0C h).fault=0
 .by_cases h2:(Z0C h).page=0
  .by_cases h3:(Z0C h).addr=0
   .have e:L (Z0C h=⟨0,0,0⟩)=M:=by
     apply decide_eq_true;revert h1 h2 h3;cases Z0C h;simp+contextual
    rw[e];exact gF [] func87 [M] (Fc 4 (@Z6D h aa) (Fb (((Z0C h).fault==0&&((Z0C h).page==0&&(Z0C h).addr==0))=M) Fz))
   .have e:L (Z0C h=⟨0,0,0⟩)=O:=decide_eq_false (λq=>h3 (by rw[q]));rw[e];exact gF [] func87 [M] (Fc 4 (@Z6D h aa) (Fb (((Z0C h).fault==0&&((Z0C h).page==0&&(Z0C h).addr==0))=O) Fz))
  .have e:L (Z0C h=⟨0,0,0⟩)=O:=decide_eq_false (λq=>h2 (by rw[q]));rw[e];exact gF [] func87 [M] (Fc 4 (@Z6D h aa) (Fb (((Z0C h).fault==0&&((Z0C h).page==0&&(Z0C h).addr==0))=O) Fz))
 .have e:L (Z0C h=⟨0,0,0⟩)=O:=decide_eq_false (λq=>h1 (by rw[q]));rw[e];exact gF [] func87 [M] (Fc 4 (@Z6D h aa) (Fb (((Z0C h).fault==0&&((Z0C h).page==0&&(Z0C h).addr==0))=O) Fz))
def Zds(h:Heap)(refs:List Int)(hw:WOk h.W)(hg:Z0C h≠⟨0,0,0⟩):GP 118 [h.av,Z01 refs] M (bool O) []:=by
 exact gF [] func118 [] (Fc 9 (@Z8k h aa) (Ftb 10 (!decide (Z0C h=Finding.mk 0 0 0)) Fz))
def rfsL(refs all:List Int)(i:Nat):Tg:=⟨tm 36 [(1,Z01 refs),(4,bool O),(5,Z01 all),(7,int i)],[],60⟩
def Zga(refs all:List Int)(i:Nat)(hl:refs.length<=1048576)(ha:all.length<=1048576)(hi:i<refs.length)(hb:refs.getD i X=0\/refs.getD i X∈all):CP (rndF f118 0) (rfsL refs all i).st .nrm (rfsL refs all (i+1)).st:=by
 rcases hb with hb | hb
 .exact sF [] [] (FN 18 19 24 wdv refs i (FeG 31 (refs.getD i X != 0) wdv refs (↑i) i (FcG 33 (refs.getD i X != 0) (λhg=>by(try simp only[bs]at hg);exact @Z14 all (refs.getD i X) aa) (Ffb 35 (refs.getD i X != 0&&!decide (refs.getD i X∈all)) (Fx 21 i Fz)))))
 .by_cases h0:refs.getD i X=0
  .exact sF [] [] (FN 18 19 24 wdv refs i (FeG 31 (refs.getD i X != 0) wdv refs (↑i) i (FcG 33 (refs.getD i X != 0) (λhg=>by(try simp only[bs]at hg);exact @Z14 all (refs.getD i X) aa) (Ffb 35 (refs.getD i X != 0&&!decide (refs.getD i X∈all)) (Fx 21 i Fz)))))
  .exact sF [] [] (FN 18 19 24 wdv refs i (FeG 31 (refs.getD i X != 0) wdv refs (↑i) i (FcG 33 (refs.getD i X != 0) (λhg=>by(try simp only[bs]at hg);exact @Z14 all (refs.getD i X) aa) (Ffs 35 (refs.getD i X != 0&&!decide (refs.getD i X∈all)) (Fx 21 i Fz)))))
def ZkW(refs all:List Int)(i:Nat)(hl:refs.length<=1048576)(ha:all.length<=1048576)(hi:i<refs.length)(h0:refs.getD i X≠0)(hb:refs.getD i X∉all):CP (rndF f118 0) (rfsL refs all i).st .ret (Tg.st ⟨tm 36 [(4,bool O)],[],60⟩):=by
 exact sF [] [] (FN 18 19 24 wdv refs i (FeG 31 (refs.getD i X != 0) wdv refs (↑i) i (FcG 33 (refs.getD i X != 0) (λhg=>by(try simp only[bs]at hg);exact @Z14 all (refs.getD i X) aa) (Fts 35 (refs.getD i X != 0&&!decide (refs.getD i X∈all)) Fz))))
def Zpr(refs all:List Int):CP (rndF f118 0) (rfsL refs all refs.length).st (.ext 0) (Tg.st ⟨tm 36 [(4,bool O)],[],60⟩):=by
 exact sF [] [] (FO 18 19 wdv refs Fz)
def rfsB(refs all:List Int)(i:Nat):Bool:=L (refs.getD i X≠0/\refs.getD i X∉all)
def Z0k(h:Heap)(refs:List Int):Bool:=L (Z0C h=⟨0,0,0⟩)&&((Li refs.length).find? (rfsB refs (Z05 h).1)).isNone
section
variable (refs all:List Int) (hl:refs.length<=1048576) (ha:all.length<=1048576)
include hl ha
theorem ZnA(hb:(Li refs.length).find? (rfsB refs all)=La):CP (blkF f118 0) (rfsL refs all 0).st .nrm (Tg.st ⟨tm 36 [(4,bool O)],[],60⟩):=by
 refine Z0a (S:=λk=>(rfsL refs all k).st) refs.length kr (λk hk=>Zga refs all k hl ha hk ?_) (Zpr refs all);have:=List.find?_eq_none.1 hb k (LC.2 hk);simp only[rfsB,decide_eq_true_eq,not_and,Ly]at this;by_cases h:refs.getD k X=0
 .exact Lm h
 .exact Ln (this h)
theorem Zlq(i:Nat)(hb:(Li refs.length).find? (rfsB refs all)=Z i):CP (blkF f118 0) (Tg.st ⟨tm 36 [(1,Z01 refs),(4,bool O),(5,Z01 all),(7,int 0)],[],60⟩) .ret (Tg.st ⟨tm 36 [(4,bool O)],[],60⟩):=by
 obtain⟨h1,h2,h3⟩:=List.find?_range_eq_some.1 hb;have h2:=LC.1 h2;simp only[rfsB,decide_eq_true_eq]at h1;refine Z0H (S:=λk=>(rfsL refs all k).st) i kr (λm hm'=>Zga refs all m hl ha oq ?_) (ZkW refs all i hl ha h2 h1.1 h1.2);have:=h3 m hm';simp only[rfsB,Bool.not_eq_true',decide_eq_false_iff_not,not_and,Ly]at this;by_cases h:refs.getD m X=0
 .exact Lm h
 .exact Ln (this h)
end
def Z21(h:Heap)(refs:List Int)(hw:WOk h.W)(hl:refs.length<=1048576):GP 118 [h.av,Z01 refs] M (bool (Z0k h refs)) []:=by
 have ho:=Z23 h;by_cases hg:Z0C h=⟨0,0,0⟩
 .cases hb:(Li refs.length).find? (rfsB refs (Z05 h).1)with
  | none =>
   have e:Z0k h refs=M:=by simp[Z0k,hg,hb]
   rw[e];exact gF [] func118 [] (Fc 9 (@Z8k h aa) (Ffb 10 (!decide (Z0C h=Finding.mk 0 0 0)) (Fc 13 (@Z3n h aa) (Fu (@ZnA refs ((Z05 h).1) aa oq aa) Fz))))
  | some i =>
   have e:Z0k h refs=O:=by simp[Z0k,hg,hb]
   rw[e];exact gF [] func118 [] (Fc 9 (@Z8k h aa) (Ffb 10 (!decide (Z0C h=Finding.mk 0 0 0)) (Fc 13 (@Z3n h aa) (Fu (@Zlq refs ((Z05 h).1) aa oq i hb) Fz))))
 .have e:Z0k h refs=O:=by simp[Z0k,hg]
  rw[e];exact Zds h refs hw hg
structure Rep where
 copied:Int
 kept:Int
 filled:Int
 freed:Int
 cleared:Int
 steps:Int
 deriving Inhabited
def Rep.cells(r:Rep):List AV:=[int r.copied,int r.kept,int r.filled,int r.freed,int r.cleared,int r.steps]
structure Work where
 heap:Heap
 old:List Int
 T:List Int
 Q:List Int
 D:Int
 rep:Rep
 deriving Inhabited
def Work.cells(w:Work):List AV:=w.heap.cells++[Z01 w.old,Z0r w.T,Z01 w.Q,int w.D]++w.rep.cells
def Work.av(w:Work):AV:=.ag w.cells
def noWork:Work:=⟨noHeap,[],[],[],0,⟨0,0,0,0,0,0⟩⟩
def Z08(w:Int):Int×Bool:=if w%4=2/\w/4<4294967296 then(w/4,M)else(0,O)
def Z3t(w:Int)(h0:0<=w)(h1:w<=18446744073709551615):GP 92 [u64 w] M (.tu [u64 (Z08 w).1,bool (Z08 w).2]) []:=by
 have Q0 {h_ c_ p_} (r_:Fq h_ c_ p_):=Fg 5 (by exact Le oq:w.tmod 4=w%4) (Fa (by decide:(4:Int)≠0) (Fa (by intro hg;(try simp only[bs]at hg);exact Z5m rfl dd:(!w%(4:Int) != 2)=M->w.fdiv (2^min (LJ 2) 64)=w/4) (Fa (by intro hg;(try simp only[bs]at hg);omega:(!w%(4:Int) != 2)=M->(0:Int)<=2) r_)));rcases bb (w%(4:Int) != 2||L (4294967296<=w/4))with hc0 | hc0<;>have hc0p:=hc0<;>simp only[bs]at hc0p
 .rw[show Z08 w=((0:Int),O)from by(simp[Z08, *];omega)];exact gF [] func92 [] (Fh 9 [.int (w/4)] (Q0 (Ft 11 hc0 Fz)))
 .obtain⟨hc0pa,hc0pb⟩:=hc0p;rw[show Z08 w=(w/(4:Int),M)from by simp[Z08, *]];exact gF [] func92 [] (Fh 13 [.int (w/4)] (Q0 (Ff 11 hc0 (Fg 9 (by exact Z5m rfl dd:w.fdiv (2^min (LJ 2) 64)=w/4) (Fo ((0:Int)<=2) Fz)))))
def ZeJ(a:Int)(h0:0<=a)(h1:a<4294967296):GP 96 [u64 a] M (.tu [u64 (4*a+2),int 0]) []:=by
 exact gF [] func96 [] (Ffb 5 (L (4294967296<=a)) (Fv 7 (4*a) (Fv 8 (4*a+2) Fz)))
def Z0M(w:Work)(i:Int):Bool:=L (0<=i/\i<w.heap.P.length/\(w.heap.P.getD i.toNat X).K=1/\(w.heap.P.getD i.toNat X).S≠w.heap.S/\i∉w.T)
def Work.keep(w:Work)(r:Int):Work:=⟨w.heap,w.old,w.T,w.Q++[r],w.D,⟨w.rep.copied,w.rep.kept+1,w.rep.filled,w.rep.freed,w.rep.cleared,w.rep.steps⟩⟩
def Z0o(w:Work):Int:=w.T.getD ((w.T.length:Int)-1).toNat X
def Z2A(w:Work)(n:Int):Prop:=0<w.T.length/\(w.heap.P.getD (Z0o w).toNat X).U+n<=w.heap.C.pw
instance (w:Work) (n:Int):Decidable (Z2A w n):=by unfold Z2A;infer_instance
def Z0g(w:Work):Int:=first w.heap.P 1
def Z1Z(w:Work):List Page:=Z3i ⟨w.heap.C,w.heap.W,w.heap.P,1-w.heap.S,w.heap.B⟩
def Work.place(w:Work)(n:Int):Work×Int×Bool :=
 if Z2A w n then(⟨⟨w.heap.C,w.heap.W,Z1C w.heap.P (Z0o w).toNat n,w.heap.S,w.heap.B⟩,w.old,w.T,w.Q,w.D,w.rep⟩,4096+Z0o w*w.heap.C.pw+(w.heap.P.getD (Z0o w).toNat X).U,M)
 else if 0<=Z0g w then(⟨⟨w.heap.C,w.heap.W,Z1C (Z1Z w) (Z0g w).toNat n,w.heap.S,w.heap.B⟩,w.old,w.T++[Z0g w],w.Q,w.D,w.rep⟩,4096+Z0g w*w.heap.C.pw,M)
 else(noWork,0,O)
def Z8K(s:Int)(p:Page):Page:=⟨p.K,s,p.U,p.N⟩
def Z0s(l:List Page)(i m:Nat)(s:Int):List Page:=(Li l.length).map λj=>if i<=j/\j<=i+m then Z8K s (l.getD j X)else l.getD j X
def Z0i(l:List Page)(i:Nat):Nat:=((l.drop (i+1)).takeWhile λp=>p.K==3).length
def Work.flip(w:Work)(i:Nat):Work:=⟨⟨w.heap.C,w.heap.W,Z0s w.heap.P i (Z0i w.heap.P i) (1-w.heap.S),w.heap.S,w.heap.B⟩,w.old,w.T,w.Q,w.D,w.rep⟩
def Work.copy(w:Work)(r a n:Int):Work:=⟨⟨w.heap.C,(Z0L (moveA w.heap.W a r n).1 r (4*a+2)).1,w.heap.P,w.heap.S,w.heap.B⟩,w.old,w.T,w.Q++[a],w.D,⟨w.rep.copied+1,w.rep.kept,w.rep.filled,w.rep.freed,w.rep.cleared,w.rep.steps⟩⟩
def hdW(w:Work)(r:Int):Header:=(decodeH (loadA w.heap.W r).1).1
def Z19(w:Work)(r:Int):Nat:=(ofA w.heap.C r).1.toNat
def Work.fwd(w:Work)(r:Int):Work×Int×Int :=
 if r=0\/r∈w.Q then(w,r,0)
 else if r∉w.old then(noWork,0,19)
 else if(Z08 (loadA w.heap.W r).1).2=M then(w,(Z08 (loadA w.heap.W r).1).1,0)
 else if(ofA w.heap.C r).2.2≠0 then(noWork,0,19)
 else if Z0M w (ofA w.heap.C r).1=M then(w.keep r,r,0)
 else if(w.heap.P.getD (Z19 w r) X).K=2 then((w.flip (Z19 w r)).keep r,r,0)
 else if(w.place (sizeH (hdW w r))).2.2=O then(noWork,0,3)
 else((w.place (sizeH (hdW w r))).1.copy r (w.place (sizeH (hdW w r))).2.1 (sizeH (hdW w r)),(w.place (sizeH (hdW w r))).2.1,0)
def Zby(pw:Int)(p:Page):Nat:=if p.K=0 then pw.toNat else(pw-p.U).toNat
def Z9Z(pw:Int)(l:List Page):Nat:=(l.map (Zby pw)).sum
def Zd8(old q:List Int):Nat:=(old.filter λx=>L (x∉q)).length
def muW(w:Work):Nat:=Zd8 w.old w.Q+Z9Z w.heap.C.pw w.heap.P
structure WkOk (w:Work):Prop where
 W:WOk w.heap.W
 wl:w.heap.W.length<=4096
 C:Z07 w.heap.C=M
 pl:(w.heap.P.length:Int)=w.heap.C.pg
 sp:w.heap.S=0\/w.heap.S=1
 ol:w.old.length<=524288
 o:∀ x∈w.old,0<=x/\x<=8192
 tk:∀ x∈w.T,0<=x/\x<w.heap.P.length/\(w.heap.P.getD x.toNat X).K=1
 tl:w.T.length<=w.Q.length
 q:∀ x∈w.Q,0<=x/\x<=16384
 us:∀ j,j<w.heap.P.length->0<=(w.heap.P.getD j X).U/\(w.heap.P.getD j X).U<=1024
 mu:w.Q.length+muW w<=1000000
 sc:0<=w.D/\w.D<=w.Q.length
 rk:0<=w.rep.kept/\0<=w.rep.copied/\w.rep.kept+w.rep.copied<=w.Q.length
 rs:0<=w.rep.steps/\w.rep.steps<=1000*w.D
 r0:w.rep.filled=0/\w.rep.freed=0/\w.rep.cleared=0
def ZdS(pw:Int)(p:Page):∀ (l:List Page) (i:Nat),i<l.length->Z9Z pw (l.set i p)+Zby pw (l.getD i X)=Z9Z pw l+Zby pw p
 | [],i,h=>by simp at h
 | x::l,0,_=>by simp[Z9Z];omega
 | x::l,i+1,h=>by
  have:=ZdS pw p l i (by simpa using h);simp only[Z9Z,List.set_cons_succ,List.map_cons,List.sum_cons,List.getD_cons_succ]at this ⊢;omega
def Z99(old q:List Int)(r:Int):(old.filter λx=>L (x∉q++[r]))=(old.filter λx=>L (x∉q)).filter λx=>L (x≠r):=by
 rw[List.filter_filter];refine List.filter_congr λx _=>?_;by_cases h3:x∈q<;>by_cases h4:x=r<;>simp[h3,h4]
def Zlx(old q:List Int)(r:Int):Zd8 old (q++[r])<=Zd8 old q:=by
 unfold Zd8;rw[Z99];exact List.length_filter_le _ _
def ZmC{old q:List Int}{r:Int}(h1:r∈old)(h2:r∉q):Zd8 old (q++[r])<Zd8 old q:=by
 unfold Zd8;rw[Z99];exact List.length_filter_lt_length_iff_exists.2 ⟨r,List.mem_filter.2 ⟨h1,by simpa using h2⟩,by simp⟩
def Z8C{l:List Page}{i:Nat}{p q:Page}(h:i<l.length):tookP l i 1 p q=l.set i p:=by
 unfold tookP;have e:wr l (Lw 1 q) i 1=l.set i q:=by
  have:=Z9C (ws:=l) (l:=Lw 1 q) (i:=i) (k:=0) qo pq q;rw[Z7u]at this;simpa using this.symm
 rw[e,LR]
def Z0p{l:List Page}{i j:Nat}{p:Page}(h:i<l.length):(l.set i p).getD j X=if i=j then p else l.getD j X:=by
 simp only[Lf,List.getElem?_set,h];split
 .rename_i e;subst e;simp
 .rfl
def Z1j(l:List Page)(i m:Nat)(s:Int):(Z0s l i m s).length=l.length:=by simp[Z0s]
def Z1u{l:List Page}{i m:Nat}{s:Int}{j:Nat}(h:j<l.length):(Z0s l i m s).getD j X=if i<=j/\j<=i+m then Z8K s (l.getD j X)else l.getD j X:=by
 simp[Z0s,h,Lf]
def Zhe(pw:Int)(l:List Page)(i m:Nat)(s:Int):Z9Z pw (Z0s l i m s)=Z9Z pw l:=by
 unfold Z9Z;congr 1;refine List.ext_getElem (by simp[Z0s]) λj h1 h2=>?_;have h:j<l.length:=by simpa using h2
 simp only[Z0s,List.map_map,List.getElem_map,List.getElem_range,Function.comp];have e:l.getD j X=l[j]:=by simp[Lf,h]
 rw[e];split
 .rfl
 .rfl
abbrev sZ(w:Work)(r:Int):Int:=sizeH (decodeH (loadA w.heap.W r).1).1
abbrev lT(w:Work):Int:=w.T.getD ((w.T.length:Int)-1).toNat X
def ZcS(w:Work)(r:Int)(hw:WkOk w):GP 93 [w.av,u64 r] O (w.keep r).av []:=by
 have h1:=hw.mu;have h2:=hw.rk;exact gF [] func93 [] (Fh 11 [.els (Y wdv (w.Q++[r]))] (FAx 5 8 wdv w.Q (by(simp[Work.keep, *];omega)) (Fs 10 (Y wdv [r]) (Fa (by(simp[Work.keep, *];omega):(Y wdv w.Q).length+(Y wdv [r]).length<=2^30) (Fa (by simp[Work.keep,LB,Lz,LA,Lu,wdv,idv]:Y wdv w.Q++Y wdv [r]=Y wdv (w.Q++[r])) (Fi 16 (w.rep.kept+1) Fz))))))
def tknL(w:Work)(x:Int)(i:Nat):Tg:=⟨tm 20 [(1,int x),(2,.pt 8002 0 0),(4,bool O),(5,int i)],[(8002,.box 89 w.cells)],60⟩
def ZfU(w:Work)(x:Int)(i:Nat)(hl:w.T.length<=1048576)(hi:i<w.T.length)(hv:¬ w.T.getD i X=x):CP (rndF f90 0) (tknL w x i).st .nrm (tknL w x (i+1)).st:=by
 exact sF [] [] (FN 9 10 16 idv w.T i (Ffb 19 (w.T.getD i X==x) (Fx 12 i Fz)))
def ZmU(w:Work)(x:Int)(i:Nat)(hl:w.T.length<=1048576)(hi:i<w.T.length)(hv:w.T.getD i X=x):CP (rndF f90 0) (tknL w x i).st .ret (Tg.st ⟨tm 20 [(4,bool M)],[],60⟩):=by
 exact sF [] [] (FN 9 10 16 idv w.T i (Ftb 19 (w.T.getD i X==x) Fz))
def Zpz(w:Work)(x:Int):CP (rndF f90 0) (tknL w x w.T.length).st (.ext 0) (Tg.st ⟨tm 20 [],[],60⟩):=by
 exact sF [] [] (FO 9 10 idv w.T Fz)
def Zp8(w:Work)(x:Int)(hl:w.T.length<=1048576)(h:x∉w.T)  := Z0a (S:=λi=>(tknL w x i).st) w.T.length (by kernel_rfl) (λi hi=>ZfU w x i hl hi λe=>h (getD_mem_iff.2 ⟨i,hi,e⟩)) (Zpz w x)
def Zmk(w:Work)(x:Int)(hl:w.T.length<=1048576)(h:x∈w.T):CP (blkF f90 0) (Tg.st ⟨tm 20 [(1,int x),(2,.pt 8002 0 0),(4,bool O),(5,int 0)],[(8002,.box 89 w.cells)],60⟩) .ret (Tg.st ⟨tm 20 [(4,bool M)],[],60⟩):=by
 obtain⟨i,h1,h2⟩:=ZkC (getD_mem_iff.1 h);exact Z0H (S:=λi=>(tknL w x i).st) i kr (λj hj=>ZfU w x j hl oq λe=>by have:=h2 j ⟨by omega,e⟩;omega) (ZmU w x i hl h1.1 h1.2)
def ZhS(w:Work)(i:Int)(hl:w.T.length<=1048576):GP 90 [w.av,int i] M (bool (L (i∈w.T))) []:=by
 by_cases h:i∈w.T
 .rw[decide_eq_true h];exact gF [] func90 [] (Fu (@Zmk w i aa aa) Fz)
 .rw[decide_eq_false h];exact gF [] func90 [] (Fu (@Zp8 w i aa aa) Fz)
def Z2a(w:Work)(i:Int)(hl:w.T.length<=1048576)(hp:w.heap.P.length<=1048576):GP 44 [w.av,int i] M (bool (Z0M w i)) []:=by
 rcases bb (L (i<0)||L ((w.heap.P.length:Int)<=i))with hc0 | hc0<;>have hc0p:=hc0<;>simp only[bs]at hc0p
 .exact gF [] func44 (fO 6) (FlG 13 (!decide (i<0)) Page.dv w.heap.P (Ft 15 hc0 (Fa (by(simp[Z0M, *];omega):O=Z0M w i) Fz)))
 .obtain⟨hc0pa,hc0pb⟩:=hc0p;let y0:=w.heap.P.getD i.toNat X;exact gF [] func44 (fO 16) (FlG 13 (!decide (i<0)) Page.dv w.heap.P (Ff 15 hc0 (Fe 20 Page.dv w.heap.P i (FcG 36 (y0.K==1&&y0.S != w.heap.S) (λhg=>by(try simp only[bs]at hg);exact @ZhS w i aa) (Fa (by grind[Z0M]:(y0.K==1&&y0.S != w.heap.S&&!decide (i∈w.T))=Z0M w i) Fz)))))
def Zgn(w:Work)(a:Int)(hw:WkOk w)(h0:0<=a/\a<=18446744073709551615):GP 100 [w.av,u64 a] M (hdW w a).av []:=by
 have h1:=hw.wl;have h2:=Z0D hw.W a;exact gF [] func100 [] (Fc 14 (@Z1W w.heap.W a oq aa) (Fc 19 (@Z3u ((loadA w.heap.W a).1) oq oq) Fz))
def Z6A{ws l:List Int}(h:WOk ws)(hl:WOk l)(a:Int):WOk (Z0F ws a l).1:=by
 unfold Z0F;split
 .intro x hx;simp only[spl,Ll]at hx;rcases hx with(hx | hx) | hx
  .exact h x (LQ hx)
  .exact hl x hx
  .exact h x (LO hx)
 .exact Z7v
def Z9B(ws l:List Int)(a:Int):(Z0F ws a l).1.length<=ws.length:=by
 unfold Z0F;split
 .simp only;rw[Z3Z oq];exact Lk _
 .simp
def Z8N{ws:List Int}(h:WOk ws){v:Int}(hv:0<=v/\v<=18446744073709551615)(a:Int):WOk (Z0L ws a v).1:=Z6A h (by intro x hx;simp at hx;subst hx;exact hv) a
def Zdx(ws:List Int)(a v:Int):(Z0L ws a v).1.length<=ws.length:=Z9B ws [v] a
def Zlr{ws:List Int}(h:WOk ws)(a n:Int):WOk (Z1n ws a n).1:=by
 unfold Z1n;repeat' split
 .exact Z7v
 .intro x hx;exact h x (LO (LQ hx))
 .exact Z7v
def ZlZ{ws:List Int}(h:WOk ws)(a b n:Int):WOk (moveA ws a b n).1:=by
 unfold moveA;split
 .exact Z7v
 .exact Z6A h (Zlr h b n) a
def Zgk(ws:List Int)(a b n:Int):(moveA ws a b n).1.length<=ws.length:=by
 unfold moveA;split
 .simp
 .exact Z9B _ _ _
def WkOk.withWords{w:Work}(hw:WkOk w){l:List Int}(h:WOk l)(hl:l.length<=4096):WkOk ⟨⟨w.heap.C,l,w.heap.P,w.heap.S,w.heap.B⟩,w.old,w.T,w.Q,w.D,w.rep⟩ :=
 ⟨h,hl,hw.C,hw.pl,hw.sp,hw.ol,hw.o,hw.tk,hw.tl,hw.q,hw.us,hw.mu,hw.sc,hw.rk,hw.rs,hw.r0⟩
def Zk6{w:Work}(hw:WkOk w){r:Int}(h1:r∈w.old)(h2:r∉w.Q):WkOk (w.keep r):=by
 have hm:=hw.mu;have hl:=ZmC h1 h2;have ho:=hw.o r h1;have hs:=hw.sc;have hk:=hw.rk;have ht:=hw.tl;unfold muW at hm;refine⟨hw.W,hw.wl,hw.C,hw.pl,hw.sp,hw.ol,hw.o,hw.tk, ?_, ?_,hw.us, ?_, ?_, ?_,hw.rs,hw.r0⟩
 .simp only[Work.keep,Ld,Lg];omega
 .intro x hx;simp only[Work.keep,Ll,LD]at hx;rcases hx with hx | rfl
  .exact hw.q x hx
  .omega
 .simp only[muW,Work.keep,Ld,Lg];omega
 .simp only[Work.keep,Ld,Lg];omega
 .simp only[Work.keep,Ld,Lg];omega
def Zit{w:Work}(hw:WkOk w)(i:Nat):WkOk (w.flip i):=by
 refine⟨hw.W,hw.wl,hw.C, ?_,hw.sp,hw.ol,hw.o, ?_,hw.tl,hw.q, ?_, ?_,hw.sc,hw.rk,hw.rs,hw.r0⟩
 .simp only[Work.flip,Z1j];exact hw.pl
 .intro x hx;have:=hw.tk x hx;simp only[Work.flip,Z1j];refine⟨this.1,this.2.1, ?_⟩;rw[Z1u oq];split
  .exact this.2.2
  .exact this.2.2
 .intro j hj;simp only[Work.flip,Z1j]at hj ⊢;have:=hw.us j hj;rw[Z1u hj];split
  .exact this
  .exact this
 .have:=hw.mu;simp only[muW,Work.flip,Zhe]at this ⊢;exact this
def Z18{w:Work}(h:0<w.T.length):Z0o w∈w.T:=by
 unfold Z0o;exact getD_mem_iff.2 ⟨((w.T.length:Int)-1).toNat,by omega,rfl⟩
def Z6n{w:Work}{n:Int}(hw:WkOk w)(hn:1<=n)(h:(w.place n).2.2=M) :
  ∃ (i:Nat) (p:Page) (t:List Int),i<w.heap.P.length/\p.K=1/\0<=p.U/\p.U<=1024+n/\(p.U<=64\/p.U=n)/\Zby w.heap.C.pw p+1<=Zby w.heap.C.pw (w.heap.P.getD i X)/\t.length<=w.T.length+1/\(∀ x∈t,x∈w.T\/x=(i:Int))/\4096<=(w.place n).2.1/\(w.place n).2.1<=12288 /\
  (w.place n).1=⟨⟨w.heap.C,w.heap.W,w.heap.P.set i p,w.heap.S,w.heap.B⟩,w.old,t,w.Q,w.D,w.rep⟩:=by
 have hb:=validB_iff.1 hw.C;have hpl:=hw.pl;by_cases hf:Z2A w n
 .have e:w.place n=(⟨⟨w.heap.C,w.heap.W,Z1C w.heap.P (Z0o w).toNat n,w.heap.S,w.heap.B⟩,w.old,w.T,w.Q,w.D,w.rep⟩,4096+Z0o w*w.heap.C.pw+(w.heap.P.getD (Z0o w).toNat X).U,M):=by rw[Work.place,if_pos hf]
  unfold Z2A at hf;have hm:=hw.tk _ (Z18 hf.1);have hu:=hw.us (Z0o w).toNat oq
  have ha:=Z2T hw.C hm.1 oq;refine⟨(Z0o w).toNat,⟨(w.heap.P.getD (Z0o w).toNat X).K,(w.heap.P.getD (Z0o w).toNat X).S,(w.heap.P.getD (Z0o w).toNat X).U+n,(w.heap.P.getD (Z0o w).toNat X).N⟩,w.T,by omega,hm.2.2,by simp only;omega,by simp only;omega,Lm (by simp only;omega), ?_,by omega,λx hx=>Lm hx, ?_, ?_, ?_⟩
  .have hk:=hm.2.2;simp only[Zby,hk,if_neg (show ¬ (1:Int)=0 by decide)];omega
  .rw[e];simp only;omega
  .rw[e];simp only;omega
  .rw[e];rfl
 .by_cases hg:0<=Z0g w
  .have e:w.place n=(⟨⟨w.heap.C,w.heap.W,Z1C (Z1Z w) (Z0g w).toNat n,w.heap.S,w.heap.B⟩,w.old,w.T++[Z0g w],w.Q,w.D,w.rep⟩,4096+Z0g w*w.heap.C.pw,M):=by rw[Work.place,if_neg hf,if_pos hg]
   obtain⟨f1,f2,f3,f4⟩:=Z2s (h:=⟨w.heap.C,w.heap.W,w.heap.P,1-w.heap.S,w.heap.B⟩) (by have:=hw.sp;simp only;omega) hg;obtain⟨g1,g2,g3⟩:=Z1m hg;simp only at f1 f2 f3 f4;have hi:(Z0g w).toNat<w.heap.P.length:=by unfold Z0g;omega
   have ha:=Z2T hw.C hg (by unfold Z0g;omega);have hk:(w.heap.P.getD (Z0g w).toNat X).K=0:=by
    have:=freeK_iff.1 g3 0 dd;simpa[Z0g]using this
   have hq:Z1C (Z1Z w) (Z0g w).toNat n=w.heap.P.set (Z0g w).toNat ⟨1,1-w.heap.S,n,0⟩:=by
    unfold Z1C;have e4:(Z1Z w).getD (Z0g w).toNat X=⟨1,1-w.heap.S,0,0⟩:=f4;rw[e4];have e1:Z1Z w=w.heap.P.set (Z0g w).toNat ⟨1,1-w.heap.S,0,0⟩:=by
     have:Z1Z w=tookP w.heap.P (Z0g w).toNat 1 ⟨1,1-w.heap.S,0,0⟩ ⟨0,0,0,0⟩:=f1;rw[this,Z8C hi]
    rw[e1,LR];simp
   refine⟨(Z0g w).toNat,⟨1,1-w.heap.S,n,0⟩,w.T++[Z0g w],hi,rfl,by simp only;omega,by simp only;omega,Ln rfl, ?_,by simp, ?_, ?_, ?_, ?_⟩
   .simp only[Zby,hk];simp;omega
   .intro x hx;simp only[Ll,LD]at hx;rcases hx with hx | rfl
    .exact Lm hx
    .exact Ln oq
   .rw[e];simp only;omega
   .rw[e];simp only;omega
   .rw[e,hq]
  .rw[Work.place,if_neg hf,if_neg hg]at h;simp at h
def ZnF{w:Work}(hw:WkOk w){r n:Int}(hr:r∈w.old)(hq:r∉w.Q)(hn:1<=n/\n<=256)(h:(w.place n).2.2=M):WkOk ((w.place n).1.copy r (w.place n).2.1 n):=by
 obtain⟨i,p,t,h1,h2,h3,h4,h4',h5,h6,h7,h8,h9,e⟩:=Z6n hw hn.1 h;generalize (w.place n).2.1=a at h8 h9;rw[e];have hm:=hw.mu;have hs:=ZdS w.heap.C.pw p w.heap.P i h1;have hsc:=hw.sc;have hk:=hw.rk;have ht:=hw.tl;have hl:=Zlx w.old w.Q a;unfold muW at hm;have w1:=ZlZ hw.W a r n;have l1:=Zgk w.heap.W a r n;have l2:=Zdx (moveA w.heap.W a r n).1 r (4*a+2);have l0:=hw.wl;refine⟨Z8N w1 oq r, ?_,hw.C, ?_,hw.sp,hw.ol,hw.o, ?_, ?_, ?_, ?_, ?_, ?_, ?_,hw.rs,hw.r0⟩
 .simp only[Work.copy];omega
 .simp only[Work.copy,Lt];exact hw.pl
 .intro x hx;simp only[Work.copy,Lt]at hx ⊢;rcases h7 x hx with hx | hx
  .have:=hw.tk x hx;refine⟨this.1,this.2.1, ?_⟩;rw[Z0p h1];split
   .exact h2
   .exact this.2.2
  .subst hx;refine⟨by omega,by omega, ?_⟩;rw[Z0p h1,if_pos pq];exact h2
 .simp only[Work.copy,Ld,Lg];omega
 .intro x hx;simp only[Work.copy,Ll,LD]at hx;rcases hx with hx | rfl
  .exact hw.q x hx
  .omega
 .intro j hj;simp only[Work.copy,Lt]at hj ⊢;rw[Z0p h1];split
  .omega
  .exact hw.us j hj
 .simp only[muW,Work.copy,Ld,Lg];omega
 .simp only[Work.copy,Ld,Lg];omega
 .simp only[Work.copy,Ld,Lg];omega
def Z6C{v:Int}(h:0<=v):0<=(Z08 v).1/\(Z08 v).1<=4294967295:=by
 unfold Z08;split<;>simp only<;>omega
def Z28(v:Int):Z0h (decodeH v).1=M:=by
 cases e:(decodeH v).2 with
 | true=>exact Z7L e
 | false =>
  unfold decodeH at e ⊢;split
  .rename_i hc;rw[if_pos hc]at e;cases e
  .decide
def Z2K(w:Work)(r:Int):1<=sizeH (hdW w r)/\sizeH (hdW w r)<=256:=by
 have hv:Z0h (hdW w r)=M:=Z28 _;have:=validH_iff.1 hv;rw[sizeH,if_pos hv];omega
def fwd_ok{w:Work}(hw:WkOk w)(r:Int)(e:(w.fwd r).2.2=0):WkOk (w.fwd r).1/\0<=(w.fwd r).2.1/\(w.fwd r).2.1<=4294967296/\w.Q.length<=(w.fwd r).1.Q.length/\(w.fwd r).1.D=w.D/\(w.fwd r).1.rep.steps=w.rep.steps:=by
 have hv:=Z0D hw.W r;have ht:=Z6C hv.1;unfold Work.fwd at e ⊢;split at e
 .rename_i c1;rw[if_pos c1];refine⟨hw, ?_, ?_,Lk _,rfl,rfl⟩
  .rcases c1 with c1 | c1
   .simp only;omega
   .exact(hw.q r c1).1
  .rcases c1 with c1 | c1
   .simp only;omega
   .have:=hw.q r c1;simp only;omega
 .rename_i c1;rw[if_neg c1];have c1':r∉w.Q:=λh=>c1 (Ln h);split at e
  .simp at e
  .rename_i c2;rw[if_neg c2];have c2':r∈w.old:=Ly.1 c2;have ho:=hw.o r c2';split at e
   .rename_i c3;rw[if_pos c3];exact⟨hw,ht.1,by simp only;omega,Lk _,rfl,rfl⟩
   .rename_i c3;rw[if_neg c3];split at e
    .simp at e
    .rename_i c4;rw[if_neg c4];split at e
     .rename_i c5;rw[if_pos c5];exact⟨Zk6 hw c2' c1',ho.1,by simp only;omega,by simp[Work.keep],rfl,rfl⟩
     .rename_i c5;rw[if_neg c5];split at e
      .rename_i c6;rw[if_pos c6];exact⟨Zk6 (Zit hw _) c2' c1',ho.1,by simp only;omega,by simp[Work.keep,Work.flip],rfl,rfl⟩
      .rename_i c6;rw[if_neg c6];split at e
       .simp at e
       .rename_i c7;rw[if_neg c7];have c7':(w.place (sizeH (hdW w r))).2.2=M:=by simpa using c7
        have hz:=Z2K w r;obtain⟨i,p,t,h1,h2,h3,h4,h4',h5,h6,h7,h8,h9,ee⟩:=Z6n hw hz.1 c7';refine⟨ZnF hw c2' c1' hz c7', ?_, ?_, ?_, ?_, ?_⟩
        .simp only;omega
        .simp only;omega
        .simp only[Work.copy];rw[ee];simp
        .simp only[Work.copy];rw[ee]
        .simp only[Work.copy];rw[ee]
def Zbd(w:Work)(n:Int)(hw:WkOk w)(hn:1<=n/\n<=256):GP 94 [w.av,int n] O (.tu [(w.place n).1.av,u64 (w.place n).2.1,bool (w.place n).2.2]) []:=by
 have o1:=hw.C;have hb:=validB_iff.1 o1;have hpl:=hw.pl;have hmu:=hw.mu;have htl:=hw.tl;have hr:=Z6s w.heap.P 1;by_cases hf:Z2A w n
 .have e7:w.place n=(⟨⟨w.heap.C,w.heap.W,Z1C w.heap.P (Z0o w).toNat n,w.heap.S,w.heap.B⟩,w.old,w.T,w.Q,w.D,w.rep⟩,4096+Z0o w*w.heap.C.pw+(w.heap.P.getD (Z0o w).toNat X).U,M):=by rw[Work.place,if_pos hf]
  unfold Z2A at hf;have hm:=hw.tk _ (Z18 hf.1);have hu:=hw.us (Z0o w).toNat oq
  have ha:=Z2T hw.C hm.1 oq;unfold Z0o at hm hu ha hf e7;rw[show w.place n=(Work.mk (Heap.mk w.heap.C w.heap.W (w.heap.P.set (w.T.getD ((w.T.length:Int)-(1:Int)).toNat X).toNat (Page.mk (w.heap.P.getD (w.T.getD ((w.T.length:Int)-(1:Int)).toNat X).toNat X).K (w.heap.P.getD (w.T.getD ((w.T.length:Int)-(1:Int)).toNat X).toNat X).S ((w.heap.P.getD (w.T.getD ((w.T.length:Int)-(1:Int)).toNat X).toNat X).U+n) (w.heap.P.getD (w.T.getD ((w.T.length:Int)-(1:Int)).toNat X).toNat X).N)) w.heap.S w.heap.B) w.old w.T w.Q w.D w.rep,(4096:Int)+w.T.getD ((w.T.length:Int)-(1:Int)).toNat X*w.heap.C.pw+(w.heap.P.getD (w.T.getD ((w.T.length:Int)-(1:Int)).toNat X).toNat X).U,M)from by rw[e7];rfl];exact gF [] func94 [] (FA 10 14 Page.dv w.heap.P (Fl 19 idv w.T (FiG 29 (L (0<(w.T.length:Int))) ((w.T.length:Int)-1) (FeGq 30 (L (0<(w.T.length:Int))) idv w.T ((w.T.length:Int)-1) (FmGq 34 (L (0<(w.T.length:Int))) Page.dv w.heap.P (w.T.getD ((w.T.length:Int)-1).toNat X) (FiG 36 (L (0<(w.T.length:Int))) ((w.heap.P.getD (w.T.getD ((w.T.length:Int)-1).toNat X).toNat X).U+n) (Ftb 42 (L (0<(w.T.length:Int))&&L ((w.heap.P.getD (w.T.getD ((w.T.length:Int)-1).toNat X).toNat X).U+n<=w.heap.C.pw)) (Fi 46 ((w.T.length:Int)-1) (Fe 47 idv w.T ((w.T.length:Int)-1) (Fi 83 (w.T.getD ((w.T.length:Int)-1).toNat X*w.heap.C.pw) (Fi 84 (4096+w.T.getD ((w.T.length:Int)-1).toNat X*w.heap.C.pw) (Fmq 91 Page.dv w.heap.P (w.T.getD ((w.T.length:Int)-1).toNat X) (Fi 92 (4096+w.T.getD ((w.T.length:Int)-1).toNat X*w.heap.C.pw+(w.heap.P.getD (w.T.getD ((w.T.length:Int)-1).toNat X).toNat X).U) (Fv 93 (4096+w.T.getD ((w.T.length:Int)-1).toNat X*w.heap.C.pw+(w.heap.P.getD (w.T.getD ((w.T.length:Int)-1).toNat X).toNat X).U) (Fmq 104 Page.dv w.heap.P (w.T.getD ((w.T.length:Int)-1).toNat X) (Fi 106 ((w.heap.P.getD (w.T.getD ((w.T.length:Int)-1).toNat X).toNat X).U+n) (Fm0q Page.dv w.heap.P (w.T.getD ((w.T.length:Int)-1).toNat X) (FS 10108 Page.dv w.heap.P ((w.T.getD ((w.T.length:Int)-1).toNat X).toNat) (Page.mk (w.heap.P.getD (w.T.getD ((w.T.length:Int)-1).toNat X).toNat X).K (w.heap.P.getD (w.T.getD ((w.T.length:Int)-1).toNat X).toNat X).S ((w.heap.P.getD (w.T.getD ((w.T.length:Int)-1).toNat X).toNat X).U+n) (w.heap.P.getD (w.T.getD ((w.T.length:Int)-1).toNat X).toNat X).N) ((w.heap.P.getD (w.T.getD ((w.T.length:Int)-1).toNat X).toNat X).dv) Fz))))))))))))))))))
 .by_cases hg:0<=first w.heap.P 1
  .have e7:w.place n=(⟨⟨w.heap.C,w.heap.W,Z1C (Z1Z w) (first w.heap.P 1).toNat n,w.heap.S,w.heap.B⟩,w.old,w.T++[first w.heap.P 1],w.Q,w.D,w.rep⟩,4096+first w.heap.P 1*w.heap.C.pw,M):=by rw[Work.place,if_neg hf,if_pos (show 0<=Z0g w from hg)];rfl
   obtain⟨q1,q2,q3,q4⟩:=Z2s (h:=⟨w.heap.C,w.heap.W,w.heap.P,1-w.heap.S,w.heap.B⟩) (by have:=hw.sp;simp only;omega) hg;obtain⟨r1,r2,r3⟩:=Z1m hg;simp only at q1 q2 q3 q4;rw[q1]at q2 q4;have e8:Z1Z w=_:=q1;rw[e8]at e7;have r4:Z6u w.heap.P (first w.heap.P 1).toNat 1=M:=r3;have ha:=Z2T hw.C hg oq;have q6:=congrArg Page.U q4;simp only at q6;have hs:=hw.sp;have hm:0<w.T.length->0<=Z0o w/\Z0o w<w.heap.P.length:=λh=>⟨(hw.tk _ (Z18 h)).1,(hw.tk _ (Z18 h)).2.1⟩
   have hu:=λh=>hw.us (Z0o w).toNat h;unfold Z2A at hf;unfold Z0o at hf hm hu;exact gF [] func94 (fO 19) (Fh 76 [.els (Y idv (w.T++[first w.heap.P 1]))] (FA 10 14 Page.dv w.heap.P (Fl 19 idv w.T (FiG 29 (L (0<(w.T.length:Int))) ((w.T.length:Int)-1) (FeGq 30 (L (0<(w.T.length:Int))) idv w.T ((w.T.length:Int)-1) (FmGq 34 (L (0<(w.T.length:Int))) Page.dv w.heap.P (w.T.getD ((w.T.length:Int)-1).toNat X) (FiG 36 (L (0<(w.T.length:Int))) ((w.heap.P.getD (w.T.getD ((w.T.length:Int)-1).toNat X).toNat X).U+n) (Ffb 42 (L (0<(w.T.length:Int))&&L ((w.heap.P.getD (w.T.getD ((w.T.length:Int)-1).toNat X).toNat X).U+n<=w.heap.C.pw)) (Fc 52 (@Z5N w.heap.P (1) oq) (Ffb 54 (L (first w.heap.P (1:Int)<0)) (Fi 64 (1-w.heap.S) (Fc 65 (@ZaP w.heap.P (first w.heap.P 1) (1-w.heap.S) oq oq oq aa) (FA 70 73 idv w.T (Fs 75 (Y idv [first w.heap.P 1]) (Fa (by(simp[*];omega):(Y idv w.T).length+(Y idv [first w.heap.P 1]).length<=2^30) (Fa (ms:Y idv w.T++Y idv [first w.heap.P 1]=Y idv (w.T++[first w.heap.P 1])) (Fi 83 (first w.heap.P 1*w.heap.C.pw) (Fi 84 (4096+first w.heap.P 1*w.heap.C.pw) (Fmq 91 Page.dv (tookP w.heap.P (first w.heap.P 1).toNat 1 (Page.mk 1 (1-w.heap.S) 0 0) (Page.mk 0 0 0 0)) (first w.heap.P 1) (Fi 92 (4096+first w.heap.P 1*w.heap.C.pw+((tookP w.heap.P (first w.heap.P 1).toNat 1 (Page.mk 1 (1-w.heap.S) 0 0) (Page.mk 0 0 0 0)).getD (first w.heap.P 1).toNat X).U) (Fv 93 (4096+first w.heap.P 1*w.heap.C.pw+((tookP w.heap.P (first w.heap.P 1).toNat 1 (Page.mk 1 (1-w.heap.S) 0 0) (Page.mk 0 0 0 0)).getD (first w.heap.P 1).toNat X).U) (Fmq 104 Page.dv (tookP w.heap.P (first w.heap.P 1).toNat 1 (Page.mk 1 (1-w.heap.S) 0 0) (Page.mk 0 0 0 0)) (first w.heap.P 1) (Fi 106 (((tookP w.heap.P (first w.heap.P 1).toNat 1 (Page.mk 1 (1-w.heap.S) 0 0) (Page.mk 0 0 0 0)).getD (first w.heap.P 1).toNat X).U+n) (Fm0q Page.dv (tookP w.heap.P (first w.heap.P 1).toNat 1 (Page.mk 1 (1-w.heap.S) 0 0) (Page.mk 0 0 0 0)) (first w.heap.P 1) (FS 10108 Page.dv (tookP w.heap.P (first w.heap.P 1).toNat 1 (Page.mk 1 (1-w.heap.S) 0 0) (Page.mk 0 0 0 0)) ((first w.heap.P 1).toNat) (Page.mk ((tookP w.heap.P (first w.heap.P 1).toNat 1 (Page.mk 1 (1-w.heap.S) 0 0) (Page.mk 0 0 0 0)).getD (first w.heap.P 1).toNat X).K ((tookP w.heap.P (first w.heap.P 1).toNat 1 (Page.mk 1 (1-w.heap.S) 0 0) (Page.mk 0 0 0 0)).getD (first w.heap.P 1).toNat X).S (((tookP w.heap.P (first w.heap.P 1).toNat 1 (Page.mk 1 (1-w.heap.S) 0 0) (Page.mk 0 0 0 0)).getD (first w.heap.P 1).toNat X).U+n) ((tookP w.heap.P (first w.heap.P 1).toNat 1 (Page.mk 1 (1-w.heap.S) 0 0) (Page.mk 0 0 0 0)).getD (first w.heap.P 1).toNat X).N) (((tookP w.heap.P (first w.heap.P 1).toNat 1 (Page.mk 1 (1-w.heap.S) 0 0) (Page.mk 0 0 0 0)).getD (first w.heap.P 1).toNat X).dv) (Fa (by rw[e7]:w.heap.C.pw=(w.place n).1.heap.C.pw) (Fa (by rw[e7]:w.heap.C.pg=(w.place n).1.heap.C.pg) (Fa (by refine congrArg _ ?_;rw[e7]:Y wdv w.heap.W=Y wdv (w.place n).1.heap.W) (Fa (by refine congrArg _ ?_;rw[e7];rfl:Y Page.dv ((tookP w.heap.P (first w.heap.P 1).toNat 1 (Page.mk 1 (1-w.heap.S) 0 0) (Page.mk 0 0 0 0)).set (first w.heap.P 1).toNat (Page.mk ((tookP w.heap.P (first w.heap.P 1).toNat 1 (Page.mk 1 (1-w.heap.S) 0 0) (Page.mk 0 0 0 0)).getD (first w.heap.P 1).toNat X).K ((tookP w.heap.P (first w.heap.P 1).toNat 1 (Page.mk 1 (1-w.heap.S) 0 0) (Page.mk 0 0 0 0)).getD (first w.heap.P 1).toNat X).S (((tookP w.heap.P (first w.heap.P 1).toNat 1 (Page.mk 1 (1-w.heap.S) 0 0) (Page.mk 0 0 0 0)).getD (first w.heap.P 1).toNat X).U+n) ((tookP w.heap.P (first w.heap.P 1).toNat 1 (Page.mk 1 (1-w.heap.S) 0 0) (Page.mk 0 0 0 0)).getD (first w.heap.P 1).toNat X).N))=Y Page.dv (w.place n).1.heap.P) (Fa (by rw[e7]:w.heap.S=(w.place n).1.heap.S) (Fa (by rw[e7]:w.heap.B=(w.place n).1.heap.B) (Fa (by refine congrArg _ ?_;rw[e7]:Y wdv w.old=Y wdv (w.place n).1.old) (Fa (by refine congrArg _ ?_;rw[e7]:Y idv (w.T++[first w.heap.P 1])=Y idv (w.place n).1.T) (Fa (by refine congrArg _ ?_;rw[e7]:Y wdv w.Q=Y wdv (w.place n).1.Q) (Fa (by rw[e7]:w.D=(w.place n).1.D) (Fa (by rw[e7]:w.rep.copied=(w.place n).1.rep.copied) (Fa (by rw[e7]:w.rep.kept=(w.place n).1.rep.kept) (Fa (by rw[e7]:w.rep.filled=(w.place n).1.rep.filled) (Fa (by rw[e7]:w.rep.freed=(w.place n).1.rep.freed) (Fa (by rw[e7]:w.rep.cleared=(w.place n).1.rep.cleared) (Fa (by rw[e7]:w.rep.steps=(w.place n).1.rep.steps) (Fa (by grind[]:4096+first w.heap.P 1*w.heap.C.pw+((tookP w.heap.P (first w.heap.P 1).toNat 1 (Page.mk 1 (1-w.heap.S) 0 0) (Page.mk 0 0 0 0)).getD (first w.heap.P 1).toNat X).U=(w.place n).2.1) (Fa (by rw[e7]:M=(w.place n).2.2) Fz)))))))))))))))))))))))))))))))))))))))))))
  .have e7:w.place n=(noWork,0,O):=by rw[Work.place,if_neg hf,if_neg (show ¬ 0<=Z0g w from hg)]
   have hm:0<w.T.length->0<=Z0o w/\Z0o w<w.heap.P.length:=λh=>⟨(hw.tk _ (Z18 h)).1,(hw.tk _ (Z18 h)).2.1⟩
   have hu:=λh=>hw.us (Z0o w).toNat h;unfold Z2A at hf;unfold Z0o at hf hm hu;rw[e7];exact gF [] func94 [] (FAx 10 14 Page.dv w.heap.P (by(simp[noWork,noHeap, *];omega)) (Fl 19 idv w.T (FiG 29 (L (0<(w.T.length:Int))) ((w.T.length:Int)-1) (FeGq 30 (L (0<(w.T.length:Int))) idv w.T ((w.T.length:Int)-1) (FmGq 34 (L (0<(w.T.length:Int))) Page.dv w.heap.P (w.T.getD ((w.T.length:Int)-1).toNat X) (FiG 36 (L (0<(w.T.length:Int))) ((w.heap.P.getD (w.T.getD ((w.T.length:Int)-1).toNat X).toNat X).U+n) (Ffb 42 (L (0<(w.T.length:Int))&&L ((w.heap.P.getD (w.T.getD ((w.T.length:Int)-1).toNat X).toNat X).U+n<=w.heap.C.pw)) (Fc 52 (@Z5N w.heap.P (1) oq) (Ftb 54 (L (first w.heap.P (1:Int)<0)) (Fnl (Fnl (Fnl (Fnl (Fnl Fz))))))))))))))
def preM{α:Type}(f:α->α)(l:List α)(i:Nat):List α:=(l.take i).map f++l.drop i
def ZdE{α:Type}(f:α->α)(l:List α):preM f l 0=l:=by simp[preM]
def Z89{α:Type}(f:α->α)(l:List α):preM f l l.length=l.map f:=by simp[preM]
def Z4b{α:Type}(f:α->α)(l:List α)(i:Nat):(preM f l i).length=l.length:=by simp[preM];omega
def Z8f{α:Type}(f:α->α)(l:List α){i j:Nat}(h:i<=j)(d:α):(preM f l i).getD j d=l.getD j d:=by
 rw[Lf,Lf];congr 1;by_cases hi:i<=l.length
 .rw[preM,List.getElem?_append_right qo];simp only[Lh,LN,List.getElem?_drop];congr 1;omega
 .rw[Ls (by rw[Z4b];omega),Ls oq]
def Z6T{α:Type}(f:α->α)(l:List α){i:Nat}(h:i<l.length)(d:α):(preM f l i).set i (f (l.getD i d))=preM f l (i+1):=by
 have e:l.getD i d=l[i]:=by simp[Lf,h]
 rw[e,preM,preM,List.take_succ_eq_append_getElem h,Lu,List.set_append_right i _ qo,List.append_assoc];congr 1;have:l.drop i=l[i]::l.drop (i+1):=List.drop_eq_getElem_cons h;rw[show i-(Y f (Lb i l)).length=0 by simp;omega,this];rfl
def Z9R{α:Type}(f:α->α)(l:List α){i:Nat}(h:i<l.length)(d:α)(hf:f (l.getD i d)=l.getD i d):preM f l i=preM f l (i+1):=by
 rw[<- Z6T f l h d,hf,<- Z8f f l (Lk i) d];have h':i<(preM f l i).length:=by rw[Z4b];exact h
 rw[show(preM f l i).getD i d=(preM f l i)[i] by simp[Lf,h'],List.set_getElem_self]
def begQ(s:Int)(p:Page):Page:=if p.K=1/\0<p.N then⟨p.K,s,p.U,p.N⟩else p
def begL(h:Heap)(all:List Int)(i:Nat):Tg:=⟨tm 61 [(1,.pt 8001 0 0),(2,.pt 8002 0 0),(3,int 0),(4,.pt 32004 0 0),(5,int i)],[(32004,.box 89 [int h.C.pw,int h.C.pg,Z01 h.W,.ow 48026,int h.S,int h.B,Z01 all,.d (.sl 0 []),.d (.sl 0 []),int 0,int 0,int 0,int 0,int 0,int 0,int 0]),(48026,.arr 84 4 ((preM (begQ (1-h.S)) h.P i).map Page.dv)),(8002,.box 89 zW),(8001,.box 28 h.cells)],60⟩
section
variable (h:Heap) (all:List Int) (hs:h.S=0\/h.S=1) (hl:h.P.length<=1048576)
include hs hl
theorem ZmV(i:Nat)(hi:i<h.P.length):CP (rndF f41 0) (begL h all i).st .nrm (begL h all (i+1)).st:=by
 have ha:=Z8f (begQ (1-h.S)) h.P (Lk i) X;have hn:=Z4b (begQ (1-h.S)) h.P i;by_cases hc:(h.P.getD i X).K=1/\0<(h.P.getD i X).N
 .have hq:=Z6T (begQ (1-h.S)) h.P hi X;rw[show begQ (1-h.S) (h.P.getD i X)=⟨(h.P.getD i X).K,1-h.S,(h.P.getD i X).U,(h.P.getD i X).N⟩ by rw[begQ,if_pos hc],<- ha]at hq;rw[<- ha]at hc;have Q0 {h_ c_ p_} (r_:Fq h_ c_ p_):=Fl 33 Page.dv (preM (begQ ((1:Int)-h.S)) h.P i) (Ftb 34 (L ((i:Int)<(↑(preM (begQ (1-h.S)) h.P i).length:Int))) (Fmq 42 Page.dv (preM (begQ (1-h.S)) h.P i) (↑i) r_));rcases bb (((preM (begQ (1-h.S)) h.P i).getD (i:Int).toNat X).K==1&&L (0<((preM (begQ (1-h.S)) h.P i).getD (i:Int).toNat X).N))with hc0 | hc0<;>have hc0p:=hc0<;>simp only[bs]at hc0p
  .obtain⟨hc0pa,hc0pb⟩:=hc0p;let y1:=preM (begQ (1-h.S)) h.P i;let y0:=y1.getD (i:Int).toNat X;exact sF [] (fO 9) (Q0 (Ft 50 hc0 (Fi 57 (1-h.S) (Fm0q Page.dv y1 (↑i) (FS 10059 Page.dv y1 ((i:Int).toNat) (Page.mk y0.K (1-h.S) y0.U y0.N) (y0.dv) (Fx 36 i (Fr (84:Int) (Fa (by refine congrArg _ ?_;exact hq:Y Page.dv (y1.set (i:Int).toNat (Page.mk y0.K (1-h.S) y0.U y0.N))=Y Page.dv (preM (begQ (1-h.S)) h.P (i+1))) Fz))))))))
  .exact sF [] (fO 9) (Q0 (Ff 50 hc0 (Fx 36 i (Fr (84:Int) (Fa (by refine congrArg _ ?_;grind[]:Y Page.dv (preM (begQ (1-h.S)) h.P i)=Y Page.dv (preM (begQ (1-h.S)) h.P (i+1))) Fz)))))
 .have hq:=Z9R (begQ (1-h.S)) h.P hi X (by rw[begQ,if_neg hc]);rw[<- ha]at hc;have Q1 {h_ c_ p_} (r_:Fq h_ c_ p_):=Fl 33 Page.dv (preM (begQ ((1:Int)-h.S)) h.P i) (Ftb 34 (L ((i:Int)<(↑(preM (begQ (1-h.S)) h.P i).length:Int))) (Fmq 42 Page.dv (preM (begQ (1-h.S)) h.P i) (↑i) r_));rcases bb (((preM (begQ (1-h.S)) h.P i).getD (i:Int).toNat X).K==1&&L (0<((preM (begQ (1-h.S)) h.P i).getD (i:Int).toNat X).N))with hc0 | hc0<;>have hc0p:=hc0<;>simp only[bs]at hc0p
  .obtain⟨hc0pa,hc0pb⟩:=hc0p;let y3:=preM (begQ (1-h.S)) h.P i;let y2:=y3.getD (i:Int).toNat X;exact sF [] (fO 9) (Q1 (Ft 50 hc0 (Fi 57 (1-h.S) (Fm0q Page.dv y3 (↑i) (FS 10059 Page.dv y3 ((i:Int).toNat) (Page.mk y2.K (1-h.S) y2.U y2.N) (y2.dv) (Fx 36 i (Fr (84:Int) (Fa (by refine congrArg _ ?_;grind[]:Y Page.dv (y3.set (i:Int).toNat (Page.mk y2.K (1-h.S) y2.U y2.N))=Y Page.dv (preM (begQ (1-h.S)) h.P (i+1))) Fz))))))))
  .exact sF [] (fO 9) (Q1 (Ff 50 hc0 (Fx 36 i (Fr (84:Int) (Fa (by refine congrArg _ ?_;exact hq:Y Page.dv (preM (begQ (1-h.S)) h.P i)=Y Page.dv (preM (begQ (1-h.S)) h.P (i+1))) Fz)))))
omit hs hl in
theorem ZqN:CP (rndF f41 0) (begL h all h.P.length).st (.ext 0) (Tg.st ⟨tm 61 [(2,.pt 8002 0 0),(3,int 0),(4,.pt 32004 0 0)],[(32004,.box 89 [int h.C.pw,int h.C.pg,Z01 h.W,.ow 48026,int h.S,int h.B,Z01 all,.d (.sl 0 []),.d (.sl 0 []),int 0,int 0,int 0,int 0,int 0,int 0,int 0]),(48026,.arr 84 4 ((h.P.map (begQ (1-h.S))).map Page.dv)),(8002,.box 89 zW)],60⟩):=by
 have hq:=Z89 (begQ (1-h.S)) h.P;have hn:=Z4b (begQ (1-h.S)) h.P h.P.length;exact sF [] (fO 4) (Fl 33 Page.dv (preM (begQ ((1:Int)-h.S)) h.P h.P.length) (Ffb 34 (L ((h.P.length:Int)<(↑(preM (begQ (1-h.S)) h.P h.P.length).length:Int))) (Fr (84:Int) (Fa (by refine congrArg _ ?_;assumption:Y Page.dv (preM (begQ (1-h.S)) h.P h.P.length)=Y Page.dv (Y (begQ (1-h.S)) h.P)) Fz))))
theorem Zow:CP (blkF f41 0) (Tg.st ⟨tm 61 [(1,.pt 8001 0 0),(2,.pt 8002 0 0),(3,int 0),(4,.pt 32004 0 0),(5,int 0)],[(32004,.box 89 [int h.C.pw,int h.C.pg,Z01 h.W,.ow 48026,int h.S,int h.B,Z01 all,.d (.sl 0 []),.d (.sl 0 []),int 0,int 0,int 0,int 0,int 0,int 0,int 0]),(48026,.arr 84 4 (h.P.map Page.dv)),(8002,.box 89 zW),(8001,.box 28 h.cells)],60⟩) .nrm (Tg.st ⟨tm 61 [(2,.pt 8002 0 0),(3,int 0),(4,.pt 32004 0 0)],[(32004,.box 89 [int h.C.pw,int h.C.pg,Z01 h.W,.ow 48026,int h.S,int h.B,Z01 all,.d (.sl 0 []),.d (.sl 0 []),int 0,int 0,int 0,int 0,int 0,int 0,int 0]),(48026,.arr 84 4 ((h.P.map (begQ (1-h.S))).map Page.dv)),(8002,.box 89 zW)],60⟩):=by
 have:=Z0a (S:=λk=>(begL h all k).st) h.P.length kr (λk hk=>ZmV h all hs hl k hk) (ZqN h all);simp only[begL,ZdE]at this;exact this
end
def beginW(h:Heap):Work:=⟨⟨h.C,h.W,h.P.map (begQ (1-h.S)),h.S,h.B⟩,(Z05 h).1,[],[],0,⟨0,0,0,0,0,0⟩⟩
def Z4M(h:Heap)(hw:WOk h.W)(hp:Z02 h=M)(hg:Z0C h=⟨0,0,0⟩):GP 41 [h.av] O (.tu [(beginW h).av,int 0]) []:=by
 have po:=Z06 hp;have ho:=Z23 h;exact gF [] func41 [] (Fc 8 (@Z0m h) (Ffb 9 (!Z02 h) (Fc 12 (@Z8k h aa) (Ffb 13 (!decide (Z0C h=Finding.mk 0 0 0)) (Fc 19 (@Z3n h aa) (FAx 23 26 Page.dv h.P (by(simp[beginW, *];omega)) (Fu (@Zow h ((Z05 h).1) oq oq) (Fnl (Fnl Fz)))))))))
def ZkK(w:Work)(r:Int)(hw:WkOk w)(h0:0<=r/\r<=18446744073709551615)(hc:r=0\/r∈w.Q):GP 45 [w.av,u64 r] O (.tu [w.av,u64 r,int 0]) []:=by
 have h1:=hw.mu;rcases hc with hc | hc
 .exact gF [] func45 [] (FcG 29 (!r==0) (λhg=>by(try simp only[bs]at hg);exact @Z14 w.Q r oq) (Ftb 30 (r==0||L (r∈w.Q)) Fz))
 .by_cases h0:r=0
  .exact gF [] func45 [] (FcG 29 (!r==0) (λhg=>by(try simp only[bs]at hg);exact @Z14 w.Q r oq) (Ftb 30 (r==0||L (r∈w.Q)) Fz))
  .exact gF [] func45 [] (FcG 29 (!r==0) (λhg=>by(try simp only[bs]at hg);exact @Z14 w.Q r oq) (Fts 30 (r==0||L (r∈w.Q)) Fz))
def ZjC(w:Work)(r:Int)(hw:WkOk w)(h0:0<=r/\r<=18446744073709551615)(c1:r≠0)(c2:r∉w.Q)(c3:r∉w.old):GP 45 [w.av,u64 r] O (.tu [noWork.av,u64 0,int 19]) []:=by
 have h1:=hw.mu;have h2:=hw.ol;exact gF [] func45 [] (FcG 29 (!r==0) (λhg=>by(try simp only[bs]at hg);exact @Z14 w.Q r oq) (Ffs 30 (r==0||L (r∈w.Q)) (Fc 36 (@Z14 w.old r oq) (Ftb 37 (!decide (r∈w.old)) (Fnl (Fnl (Fnl (Fnl (Fnl Fz)))))))))
def ZjW(w:Work)(r:Int)(hw:WkOk w)(h0:0<=r/\r<=18446744073709551615)(c1:r≠0)(c2:r∉w.Q)(c3:r∈w.old)(c4:(Z08 (loadA w.heap.W r).1).2=M):GP 45 [w.av,u64 r] O (.tu [w.av,u64 (Z08 (loadA w.heap.W r).1).1,int 0]) []:=by
 have h1:=hw.mu;have h2:=hw.ol;have h3:=hw.wl;have h4:=Z0D hw.W r;exact gF [] func45 [] (Fh 52 [.br M] (FcG 29 (!r==0) (λhg=>by(try simp only[bs]at hg);exact @Z14 w.Q r oq) (Ffs 30 (r==0||L (r∈w.Q)) (Fc 36 (@Z14 w.old r oq) (Ffb 37 (!decide (r∈w.old)) (Fc 44 (@Z1W w.heap.W r oq aa) (Fc 49 (@Z3t ((loadA w.heap.W r).1) oq oq) (Fa ‹(Z08 (loadA w.heap.W r).1).2=M› Fz))))))))
def Zjj(w:Work)(r:Int)(hw:WkOk w)(h0:0<=r/\r<=18446744073709551615)(c1:r≠0)(c2:r∉w.Q)(c3:r∈w.old)(c4:(Z08 (loadA w.heap.W r).1).2=O)(c5:(ofA w.heap.C r).2.2≠0):GP 45 [w.av,u64 r] O (.tu [noWork.av,u64 0,int 19]) []:=by
 have h1:=hw.mu;have h2:=hw.ol;have h3:=hw.wl;have h4:=Z0D hw.W r;exact gF [] func45 [] (Fh 52 [.br O] (FcG 29 (!r==0) (λhg=>by(try simp only[bs]at hg);exact @Z14 w.Q r oq) (Ffs 30 (r==0||L (r∈w.Q)) (Fc 36 (@Z14 w.old r oq) (Ffb 37 (!decide (r∈w.old)) (Fc 44 (@Z1W w.heap.W r oq aa) (Fc 49 (@Z3t ((loadA w.heap.W r).1) oq oq) (Fa ‹(Z08 (loadA w.heap.W r).1).2=O› (Fc 60 (@Z56 w.heap.C r oq oq) (FlG 71 (!(ofA w.heap.C r).2.2 != 0) Page.dv w.heap.P (Ftb 73 ((ofA w.heap.C r).2.2 != 0||L ((w.heap.P.length:Int)<=(ofA w.heap.C r).1)) (Fnl (Fnl (Fnl (Fnl (Fnl Fz))))))))))))))))
end Go.Proofs.YtdhchmlalchgeaaGreat
